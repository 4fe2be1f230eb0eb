/- Orders and canons over bare nodes; a trimmed graph is few. Truth values that a call gives. What the statements on canons begin with (sq). The nodes that come in an order are those that are reached; a graph trimmed is a graph picked. The document's Named and Walk (sq). The document's Pick: where nodes go (sq). The document's Canon (sq). A graph's canon as a text, by the document (sq). A canon's canon; a canon is small. Two graphs are equal, by the document (sq). Rows of numbers: as arguments, compared (sq). The statement CanonAny walked (sq). -/
import Derived.Test.YthhcmoknppljpaaDoorPk1
import Derived.Test.YthhcmoknppljpaaDoorEng11
section
set_option linter.unusedVariables false
set_option linter.unusedSimpArgs false
set_option maxHeartbeats 4000000
namespace Go.Proofs.YthhcmoknppljpaaDoor
open Go.Sh Go.RowKit

theorem ptrs_bare (ns : List GN) (q : Int) : ptrsOf (ns.map bare) q = ptrsOf ns q := by
  unfold ptrsOf
  rw [List.getElem?_map]
  cases ns[q.toNat - 1]? <;> rfl
theorem data_bare (ns : List GN) (q : Int) : dataOf (ns.map bare) q = dataOf ns q := by
  unfold dataOf
  rw [List.getElem?_map]
  cases ns[q.toNat - 1]? <;> rfl
theorem bfs_bare (ns : List GN) : ∀ (f i : Nat) (out : List Int), bfs (ns.map bare) f i out = bfs ns f i out
  | 0, _, _ => rfl
  | f + 1, i, out => by
    by_cases hi : i < out.length
    · rw [bfs_step hi, bfs_step hi, ptrs_bare, List.length_map]
      exact bfs_bare ns f (i + 1) _
    · rw [bfs_end (by omega), bfs_end (by omega)]
theorem can_bare (ns : List GN) (rs : List GR) : canNs (ns.map bare) rs = canNs ns rs ∧ canRs (ns.map bare) rs = canRs ns rs := by
  have ho : ∀ fr, ordV (ns.map bare) fr = ordV ns fr := fun fr => by
    unfold ordV
    rw [bfs_bare, List.length_map]
  unfold canNs canRs
  rw [ho]
  refine ⟨List.map_congr_left fun q _ => ?_, rfl⟩
  unfold canN
  rw [ptrs_bare, data_bare]
end Go.Proofs.YthhcmoknppljpaaDoor
end
section
set_option linter.unusedVariables false
set_option linter.unusedSimpArgs false
set_option maxHeartbeats 4000000
namespace Go.Proofs.YthhcmoknppljpaaDoor
open Go.Sh Go.RowKit

theorem boolTrue {p : Prop} {w w' : World} {u : Value} (h : BoolR p w w' u) (hp : p) : u = .bool true ∧ Ext [] w w' := by
  obtain ⟨⟨b, rfl, hb⟩, F⟩ := h
  rw [hb.2 hp]
  exact ⟨rfl, F⟩
theorem boolFalse {p : Prop} {w w' : World} {u : Value} (h : BoolR p w w' u) (hp : ¬ p) : u = .bool false ∧ Ext [] w w' := by
  obtain ⟨⟨b, rfl, hb⟩, F⟩ := h
  cases b with
  | true => exact absurd (hb.1 rfl) hp
  | false => exact ⟨rfl, F⟩
end Go.Proofs.YthhcmoknppljpaaDoor
end
section
set_option linter.unusedVariables false
set_option linter.unusedSimpArgs false
set_option maxHeartbeats 4000000
namespace Go.Proofs.YthhcmoknppljpaaDoor
open Go.Sh Go.RowKit

def qN (a b : Nat) : List GN := [⟨[], none, 0, [120#8], some ⟨a, 0, none⟩, 1⟩, ⟨[1], some ⟨b, 0, none⟩, 1, [], none, 0⟩]
def qR : List GR := [⟨[114#8], 2⟩]
def zN (a b : Nat) : List GN := [⟨[3], some ⟨a, 0, none⟩, 1, [], none, 0⟩, ⟨[], none, 0, [], none, 0⟩, ⟨[], none, 0, [120#8], some ⟨b, 0, none⟩, 1⟩]
def zR : List GR := [⟨[114#8], 1⟩]
def cN : List GN := [⟨[2], none, 0, [], none, 0⟩, ⟨[], none, 0, [120#8], none, 0⟩]
def cR : List GR := [⟨[114#8], 1⟩]
theorem qN_len (a b : Nat) : (qN a b).length = 2 := rfl
theorem qR_len : qR.length = 1 := rfl
theorem zN_len (a b : Nat) : (zN a b).length = 3 := rfl
theorem zR_len : zR.length = 1 := rfl
theorem q_can (a b : Nat) : canNs (qN a b) qR = cN ∧ canRs (qN a b) qR = cR := ⟨rfl, rfl⟩
theorem z_can (a b : Nat) : canNs (zN a b) zR = cN ∧ canRs (zN a b) zR = cR := ⟨rfl, rfl⟩
theorem q_ord (a b : Nat) : ordV (qN a b) [2] = [2, 1] := rfl
theorem c_txt : strOf (txtB cN cR) = { data := #[114, 32, 45, 62, 32, 49, 10, 49, 58, 32, 50, 10, 50, 58, 32, 120, 55, 56, 10] } := by
  have d1 : dB 1 = [49#8] := dB_small (by decide)
  have d2 : dB 2 = [50#8] := dB_small (by decide)
  have e : txtB cN cR = [114#8, 32#8, 45#8, 62#8, 32#8, 49#8, 10#8, 49#8, 58#8, 32#8, 50#8, 10#8, 50#8, 58#8, 32#8, 120#8, 55#8, 56#8, 10#8] := by
    have h1 : rootsB cR = [114#8, 32#8, 45#8, 62#8, 32#8, 49#8, 10#8] := by simp [rootsB, cR, rootB, d1]
    have h2 : nodeB 0 ⟨[2], none, 0, [], none, 0⟩ = [49#8, 58#8, 32#8, 50#8, 10#8] := by simp [nodeB, ptrsB, ptrB, dataB, d1, d2]
    have h3 : nodeB 1 ⟨[], none, 0, [120#8], none, 0⟩ = [50#8, 58#8, 32#8, 120#8, 55#8, 56#8, 10#8] := by
      simp [nodeB, ptrsB, dataB, d2, hexB, hex2]
      decide
    have h4 : nodesB cN 2 = [49#8, 58#8, 32#8, 50#8, 10#8] ++ [50#8, 58#8, 32#8, 120#8, 55#8, 56#8, 10#8] := by
      rw [← h2, ← h3, nodesB_succ (by decide), nodesB_succ (by decide)]
      simp [nodesB, cN]
    unfold txtB
    rw [h1, show cN.length = 2 from rfl, h4]
    rfl
  rw [e]
  decide +kernel
abbrev rsKn18_0 := (And.intro @xu8_com (And.intro @xu8_eql (And.intro @xu16_com (And.intro @xu16_eql (And.intro @xu32_com (And.intro @xu32_eql (And.intro @xu64_com (And.intro @xu64_eql (And.intro @xi64_eql (And.intro @ld_3 (And.intro @ld_25 (And.intro @al_25 (And.intro @st_25 (And.intro @bd_25_0_1 (And.intro @bd_25 (And.intro @bd_52_0 (And.intro @bd_52_0_1 
  (And.intro @bd_52_1 (And.intro @bd_52 (And.intro @bd_55_0_1 (And.intro @fd_25_0 (And.intro @ia_40 (And.intro @ln_22 (And.intro @ln_40 (And.intro @bs_22_1 (And.intro @bs_22_2 (And.intro @bs_22_3 (And.intro @bs_23_0 (And.intro @bs_23_1 (And.intro @bs_40_0 (And.intro @bs_40_1 (And.intro @bs_45_0 (And.intro @bs_45_1 @bs_45_2)))))))))))))))))))))))))))))))))
theorem known18_spec (w : World) : Gives Tryd.prog n_loamlaw18_known #[] w (.bool true) := by
  refine loamlaw18_known_of ?_
  unfold loamlaw18_known
  simp (disch := (first | omega | decide | (simp only [rsD] <;> omega) | fail)) only [↓rsC, rsK, rsL, ↓rsKn18_0, tick_eq, tickV_eq, ne_eq, Int.reduceAdd, Int.reduceSub, Int.reduceMul, Int.reduceEq, Int.reduceLT, Int.reduceLE, Int.reduceToNat, Nat.reduceMul, Nat.reduceAdd, Nat.reduceSub, ←decide_not, eq_self]
  refine xConv_bytes (cs := bys [120#8]) (by kernel_rfl) (by kernel_rfl) fun y2 X2 R2 z2 => ?_
  generalize w.heap.size = g2 at *
  simp (disch := (first | omega | decide | (simp only [rsD] <;> omega) | fail)) only [↓rsC, rsK, rsL, ↓rsKn18_0, tick_eq, tickV_eq, ne_eq, Int.reduceAdd, Int.reduceSub, Int.reduceMul, Int.reduceEq, Int.reduceLT, Int.reduceLE, Int.reduceToNat, Nat.reduceMul, Nat.reduceAdd, Nat.reduceSub, ←decide_not, eq_self]
  have B3 : Blk (y2.alloc (.cells #[i64 1] 3)) y2.heap.size 3 [i64 1] := Blk.at rfl
  have X3 : Ext [] y2 (y2.alloc (.cells #[i64 1] 3)) := Ext.alloc _ _ _
  have zs3 : (y2.alloc (.cells #[i64 1] 3)).heap.size = y2.heap.size + 1 := World.size_alloc _ _
  generalize y2.alloc (.cells #[i64 1] 3) = y3 at *
  rw [← zs3]
  have B4 : Blk (y3.alloc (.cells #[.slice none 0 0, .slice (some ⟨g2, 0, none⟩) 1 1, .slice (some ⟨y2.heap.size, 0, none⟩) 1 1, .slice none 0 0] 52)) y3.heap.size 52 [.slice none 0 0, .slice (some ⟨g2, 0, none⟩) 1 1, .slice (some ⟨y2.heap.size, 0, none⟩) 1 1, .slice none 0 0] := Blk.at rfl
  have X4 : Ext [] y3 (y3.alloc (.cells #[.slice none 0 0, .slice (some ⟨g2, 0, none⟩) 1 1, .slice (some ⟨y2.heap.size, 0, none⟩) 1 1, .slice none 0 0] 52)) := Ext.alloc _ _ _
  have zs4 : (y3.alloc (.cells #[.slice none 0 0, .slice (some ⟨g2, 0, none⟩) 1 1, .slice (some ⟨y2.heap.size, 0, none⟩) 1 1, .slice none 0 0] 52)).heap.size = y3.heap.size + 1 := World.size_alloc _ _
  generalize y3.alloc (.cells #[.slice none 0 0, .slice (some ⟨g2, 0, none⟩) 1 1, .slice (some ⟨y2.heap.size, 0, none⟩) 1 1, .slice none 0 0] 52) = y4 at *
  rw [← zs4]
  have B5 : Blk (y4.alloc (.cells #[.string ⟨#[114]⟩, i64 2] 55)) y4.heap.size 55 [.string ⟨#[114]⟩, i64 2] := Blk.at rfl
  have X5 : Ext [] y4 (y4.alloc (.cells #[.string ⟨#[114]⟩, i64 2] 55)) := Ext.alloc _ _ _
  have zs5 : (y4.alloc (.cells #[.string ⟨#[114]⟩, i64 2] 55)).heap.size = y4.heap.size + 1 := World.size_alloc _ _
  generalize y4.alloc (.cells #[.string ⟨#[114]⟩, i64 2] 55) = y5 at *
  rw [← zs5]
  have B6 : Blk (y5.alloc (.cells #[.slice (some ⟨y3.heap.size, 0, none⟩) 2 2, .slice (some ⟨y4.heap.size, 0, none⟩) 1 1] 25)) y5.heap.size 25 [.slice (some ⟨y3.heap.size, 0, none⟩) 2 2, .slice (some ⟨y4.heap.size, 0, none⟩) 1 1] := Blk.at rfl
  have X6 : Ext [] y5 (y5.alloc (.cells #[.slice (some ⟨y3.heap.size, 0, none⟩) 2 2, .slice (some ⟨y4.heap.size, 0, none⟩) 1 1] 25)) := Ext.alloc _ _ _
  have zs6 : (y5.alloc (.cells #[.slice (some ⟨y3.heap.size, 0, none⟩) 2 2, .slice (some ⟨y4.heap.size, 0, none⟩) 1 1] 25)).heap.size = y5.heap.size + 1 := World.size_alloc _ _
  generalize y5.alloc (.cells #[.slice (some ⟨y3.heap.size, 0, none⟩) 2 2, .slice (some ⟨y4.heap.size, 0, none⟩) 1 1] 25) = y6 at *
  rw [← zs6]
  have B7 : Blk (y6.alloc (.cells #[i64 3] 3)) y6.heap.size 3 [i64 3] := Blk.at rfl
  have X7 : Ext [] y6 (y6.alloc (.cells #[i64 3] 3)) := Ext.alloc _ _ _
  have zs7 : (y6.alloc (.cells #[i64 3] 3)).heap.size = y6.heap.size + 1 := World.size_alloc _ _
  generalize y6.alloc (.cells #[i64 3] 3) = y7 at *
  rw [← zs7]
  refine xConv_bytes (cs := bys [120#8]) (by kernel_rfl) (by kernel_rfl) fun y8 X8 R8 z8 => ?_
  simp (disch := (first | omega | decide | (simp only [rsD] <;> omega) | fail)) only [↓rsC, rsK, rsL, ↓rsKn18_0, tick_eq, tickV_eq, ne_eq, Int.reduceAdd, Int.reduceSub, Int.reduceMul, Int.reduceEq, Int.reduceLT, Int.reduceLE, Int.reduceToNat, Nat.reduceMul, Nat.reduceAdd, Nat.reduceSub, ←decide_not, eq_self]
  simp only [World.size_alloc, size_sets]
  rw [← zs6]
  have B9 : Blk (y8.alloc (.cells #[.slice (some ⟨y6.heap.size, 0, none⟩) 1 1, .slice none 0 0, .slice none 0 0, .slice none 0 0, .slice none 0 0, .slice (some ⟨y7.heap.size, 0, none⟩) 1 1] 52)) y8.heap.size 52 [.slice (some ⟨y6.heap.size, 0, none⟩) 1 1, .slice none 0 0, .slice none 0 0, .slice none 0 0, .slice none 0 0, .slice (some ⟨y7.heap.size, 0, none⟩) 1 1] := Blk.at rfl
  have X9 : Ext [] y8 (y8.alloc (.cells #[.slice (some ⟨y6.heap.size, 0, none⟩) 1 1, .slice none 0 0, .slice none 0 0, .slice none 0 0, .slice none 0 0, .slice (some ⟨y7.heap.size, 0, none⟩) 1 1] 52)) := Ext.alloc _ _ _
  have zs9 : (y8.alloc (.cells #[.slice (some ⟨y6.heap.size, 0, none⟩) 1 1, .slice none 0 0, .slice none 0 0, .slice none 0 0, .slice none 0 0, .slice (some ⟨y7.heap.size, 0, none⟩) 1 1] 52)).heap.size = y8.heap.size + 1 := World.size_alloc _ _
  generalize y8.alloc (.cells #[.slice (some ⟨y6.heap.size, 0, none⟩) 1 1, .slice none 0 0, .slice none 0 0, .slice none 0 0, .slice none 0 0, .slice (some ⟨y7.heap.size, 0, none⟩) 1 1] 52) = y9 at *
  rw [← zs9]
  have B10 : Blk (y9.alloc (.cells #[.string ⟨#[114]⟩, i64 1] 55)) y9.heap.size 55 [.string ⟨#[114]⟩, i64 1] := Blk.at rfl
  have X10 : Ext [] y9 (y9.alloc (.cells #[.string ⟨#[114]⟩, i64 1] 55)) := Ext.alloc _ _ _
  have zs10 : (y9.alloc (.cells #[.string ⟨#[114]⟩, i64 1] 55)).heap.size = y9.heap.size + 1 := World.size_alloc _ _
  generalize y9.alloc (.cells #[.string ⟨#[114]⟩, i64 1] 55) = y10 at *
  rw [← zs10]
  have B11 : Blk (y10.alloc (.cells #[.slice (some ⟨y8.heap.size, 0, none⟩) 3 3, .slice (some ⟨y9.heap.size, 0, none⟩) 1 1] 25)) y10.heap.size 25 [.slice (some ⟨y8.heap.size, 0, none⟩) 3 3, .slice (some ⟨y9.heap.size, 0, none⟩) 1 1] := Blk.at rfl
  have X11 : Ext [] y10 (y10.alloc (.cells #[.slice (some ⟨y8.heap.size, 0, none⟩) 3 3, .slice (some ⟨y9.heap.size, 0, none⟩) 1 1] 25)) := Ext.alloc _ _ _
  have zs11 : (y10.alloc (.cells #[.slice (some ⟨y8.heap.size, 0, none⟩) 3 3, .slice (some ⟨y9.heap.size, 0, none⟩) 1 1] 25)).heap.size = y10.heap.size + 1 := World.size_alloc _ _
  generalize y10.alloc (.cells #[.slice (some ⟨y8.heap.size, 0, none⟩) 3 3, .slice (some ⟨y9.heap.size, 0, none⟩) 1 1] 25) = y11 at *
  have cA : ({ data := #[114] } : ByteArray) = strOf [114#8] := by decide +kernel
  rw [cA] at B5 B10
  obtain ⟨gi, hgi⟩ : ∃ g, g = y2.heap.size := ⟨_, rfl⟩
  obtain ⟨gn, hgn⟩ : ∃ g, g = y3.heap.size := ⟨_, rfl⟩
  obtain ⟨gr, hgr⟩ : ∃ g, g = y4.heap.size := ⟨_, rfl⟩
  obtain ⟨ga, hga⟩ : ∃ g, g = y5.heap.size := ⟨_, rfl⟩
  obtain ⟨gj, hgj⟩ : ∃ g, g = y6.heap.size := ⟨_, rfl⟩
  obtain ⟨gk, hgk⟩ : ∃ g, g = y7.heap.size := ⟨_, rfl⟩
  obtain ⟨gm, hgm⟩ : ∃ g, g = y8.heap.size := ⟨_, rfl⟩
  obtain ⟨gs, hgs⟩ : ∃ g, g = y9.heap.size := ⟨_, rfl⟩
  obtain ⟨gb, hgb⟩ : ∃ g, g = y10.heap.size := ⟨_, rfl⟩
  rw [← hgi] at B3 B4
  rw [← hgn] at B4 B6
  rw [← hgr] at B5 B6
  rw [← hga] at B6 ⊢
  rw [← hgj] at B7 B9
  rw [← hgk] at R8 B9
  rw [← hgm] at B9 B11
  rw [← hgs] at B10 B11
  rw [← hgb] at B11 ⊢
  have X911 := X9.trans (X10.trans X11)
  have X811 := X911
  have X711 := X8.trans X811
  have X611 := X7.trans X711
  have X511 := X6.trans X611
  have X411 := X5.trans X511
  have X311 := X4.trans X411
  have X211 := X3.trans X311
  have Xw := X2.trans X211
  have GA : GIs y11 (some ⟨gn, 0, none⟩) 2 (some ⟨gr, 0, none⟩) 1 (qN g2 gi) qR := by
    refine ⟨(B4.ext X411 (by simp)).row, Nat.le_refl _, fun e => (by cases e), (B5.ext X511 (by simp)).row, Nat.le_refl _, fun e => (by cases e), fun x hx => ?_⟩
    simp only [qN, List.mem_cons, List.not_mem_nil, or_false] at hx
    rcases hx with rfl | rfl
    · exact ⟨.nil, Nat.le_refl _, fun _ => rfl, R2.ext0 X211, Nat.le_refl _, fun e => (by cases e)⟩
    · exact ⟨(B3.ext X311 (by simp)).row, Nat.le_refl _, fun e => (by cases e), .nil, Nat.le_refl _, fun _ => rfl⟩
  have GB : GIs y11 (some ⟨gm, 0, none⟩) 3 (some ⟨gs, 0, none⟩) 1 (zN gj gk) zR := by
    refine ⟨(B9.ext (X10.trans X11) (by simp)).row, Nat.le_refl _, fun e => (by cases e), (B10.ext X11 (by simp)).row, Nat.le_refl _, fun e => (by cases e), fun x hx => ?_⟩
    simp only [zN, List.mem_cons, List.not_mem_nil, or_false] at hx
    rcases hx with rfl | rfl | rfl
    · exact ⟨(B7.ext X711 (by simp)).row, Nat.le_refl _, fun e => (by cases e), .nil, Nat.le_refl _, fun _ => rfl⟩
    · exact ⟨.nil, Nat.le_refl _, fun _ => rfl, .nil, Nat.le_refl _, fun _ => rfl⟩
    · exact ⟨.nil, Nat.le_refl _, fun _ => rfl, R8.ext0 X811, Nat.le_refl _, fun e => (by cases e)⟩
  have hfa : FewH (qN g2 gi) qR := ⟨by simp [qN], by simp [qR], fun x hx => by
    simp only [qN, List.mem_cons, List.not_mem_nil, or_false] at hx
    rcases hx with rfl | rfl <;> simp⟩
  have hfb : FewH (zN gj gk) zR := ⟨by simp [zN], by simp [zR], fun x hx => by
    simp only [zN, List.mem_cons, List.not_mem_nil, or_false] at hx
    rcases hx with rfl | rfl | rfl <;> simp⟩
  have B6' := B6.ext X611 (by simp)
  have k8a := fun i => (B6.ext (X7.trans X8) (by simp)).cell (i := i)
  have k11a := fun i => B6'.cell (i := i)
  have k11b := fun i => B11.cell (i := i)
  clear X2 X3 X4 X5 X6 X7 X8 X9 X10 X11 B3 B4 B5 B7 B9 B10 R2 R8 X911 X811 X711 X611 X511 X411 X311 X211
  simp (disch := (first | omega | decide | (simp only [rsD] <;> omega) | fail)) only [↓rsC, rsK, rsL, ↓rsKn18_0, tick_eq, tickV_eq, ne_eq, Int.reduceAdd, Int.reduceSub, Int.reduceMul, Int.reduceEq, Int.reduceLT, Int.reduceLE, Int.reduceToNat, Nat.reduceMul, Nat.reduceAdd, Nat.reduceSub, ←decide_not, k11a, k11b, k8a]
  have hS := CSame_spec GA GB hfa hfb
  simp only [gV, qN_len, qR_len, zN_len, zR_len] at hS
  refine canon_Same_call (Yld.mono hS ?_)
  rintro u y12 hu
  obtain ⟨rfl, F12⟩ := boolTrue hu ⟨(q_can _ _).1.trans (z_can _ _).1.symm, (q_can _ _).2.trans (z_can _ _).2.symm⟩
  have k12a := fun i => (B6'.ext F12 (by simp)).cell (i := i)
  have k12b := fun i => (B11.ext F12 (by simp)).cell (i := i)
  simp (disch := (first | omega | decide | (simp only [rsD] <;> omega) | fail)) only [↓rsC, rsK, rsL, ↓rsKn18_0, tick_eq, tickV_eq, ne_eq, Int.reduceAdd, Int.reduceSub, Int.reduceMul, Int.reduceEq, Int.reduceLT, Int.reduceLE, Int.reduceToNat, Nat.reduceMul, Nat.reduceAdd, Nat.reduceSub, ←decide_not, k11a, k11b, k8a, k12a, k12b]
  have hE := GEqual_spec (GA.ext0 F12) (GB.ext0 F12) hfa hfb
  simp only [gV, qN_len, qR_len, zN_len, zR_len] at hE
  refine graph_Equal_call (Yld.mono hE ?_)
  rintro u y13 hu
  obtain ⟨rfl, F13⟩ := boolFalse hu (fun h => by
    have h2 := congrArg List.length h.1
    rw [List.length_map, List.length_map] at h2
    cases h2)
  have F113 := F12.trans F13
  have k13a := fun i => (B6'.ext F113 (by simp)).cell (i := i)
  simp (disch := (first | omega | decide | (simp only [rsD] <;> omega) | fail)) only [↓rsC, rsK, rsL, ↓rsKn18_0, tick_eq, tickV_eq, ne_eq, Int.reduceAdd, Int.reduceSub, Int.reduceMul, Int.reduceEq, Int.reduceLT, Int.reduceLE, Int.reduceToNat, Nat.reduceMul, Nat.reduceAdd, Nat.reduceSub, ←decide_not, k11a, k11b, k8a, k12a, k12b, k13a]
  have hts : TxS (canNs (qN g2 gi) qR) (canRs (qN g2 gi) qR) := by
    rw [(q_can _ _).1, (q_can _ _).2]
    refine ⟨by decide, by decide, fun r hr => ?_, fun x hx => ?_⟩
    · simp only [cR, List.mem_cons, List.not_mem_nil, or_false] at hr
      subst hr
      decide
    · simp only [cN, List.mem_cons, List.not_mem_nil, or_false] at hx
      rcases hx with rfl | rfl <;> simp
  have hT := CText_spec (GA.ext0 F113) hfa hts
  simp only [gV, qN_len, qR_len, zN_len, zR_len] at hT
  refine canon_Text_call (Yld.mono hT ?_)
  rintro u y14 ⟨rfl, F14⟩
  rw [(q_can _ _).1, (q_can _ _).2, c_txt]
  have F114 := F113.trans F14
  have k14b := fun i => (B11.ext F114 (by simp)).cell (i := i)
  simp (disch := (first | omega | decide | (simp only [rsD] <;> omega) | fail)) only [↓rsC, rsK, rsL, ↓rsKn18_0, tick_eq, tickV_eq, ne_eq, Int.reduceAdd, Int.reduceSub, Int.reduceMul, Int.reduceEq, Int.reduceLT, Int.reduceLE, Int.reduceToNat, Nat.reduceMul, Nat.reduceAdd, Nat.reduceSub, ←decide_not, k11a, k11b, k8a, k12a, k12b, k13a, k14b]
  have hC := Canon_spec (GB.ext0 F114) hfb
  simp only [gV, qN_len, qR_len, zN_len, zR_len] at hC
  refine canon_Canon_call (Yld.mono hC ?_)
  rintro u y15 ⟨F15, na', nc', ra', rc', ns', hns, rfl, _⟩
  have hl : ns'.length = 2 := by
    have := congrArg List.length hns
    rw [List.length_map, (z_can _ _).1] at this
    exact this
  have F115 := F114.trans F15
  have k15a := fun i => (B6'.ext F115 (by simp)).cell (i := i)
  simp (disch := (first | omega | decide | (simp only [rsD] <;> omega) | fail)) only [↓rsC, rsK, rsL, ↓rsKn18_0, tick_eq, tickV_eq, ne_eq, Int.reduceAdd, Int.reduceSub, Int.reduceMul, Int.reduceEq, Int.reduceLT, Int.reduceLE, Int.reduceToNat, Nat.reduceMul, Nat.reduceAdd, Nat.reduceSub, ←decide_not, k11a, k11b, k8a, k12a, k12b, k13a, k14b, k15a, hl]
  have hO1 := Order_spec (GA.ext0 F115) hfa
  simp only [gV, qN_len, qR_len, zN_len, zR_len] at hO1
  refine canon_Order_call (Yld.mono hO1 ?_)
  rintro u y16 ⟨F16, a16, rfl, _⟩
  have F116 := F115.trans F16
  have k16a := fun i => (B6'.ext F116 (by simp)).cell (i := i)
  have ho : ordV (qN g2 gi) (tosL qR) = [2, 1] := q_ord _ _
  have ho2 : ([2, 1] : List Int).length = 2 := rfl
  rw [ho]
  simp (disch := (first | omega | decide | (simp only [rsD] <;> omega) | fail)) only [↓rsC, rsK, rsL, ↓rsKn18_0, tick_eq, tickV_eq, ne_eq, Int.reduceAdd, Int.reduceSub, Int.reduceMul, Int.reduceEq, Int.reduceLT, Int.reduceLE, Int.reduceToNat, Nat.reduceMul, Nat.reduceAdd, Nat.reduceSub, ←decide_not, k11a, k11b, k8a, k12a, k12b, k13a, k14b, k15a, hl, k16a, ho2]
  have hO2 := Order_spec (GA.ext0 F116) hfa
  simp only [gV, qN_len, qR_len, zN_len, zR_len] at hO2
  refine canon_Order_call (Yld.mono hO2 ?_)
  rintro u y17 ⟨F17, a17, rfl, R17, _⟩
  rw [ho] at R17 ⊢
  obtain ⟨b17, o17, rfl, _, c17⟩ := its_at R17 (k := 0) (by decide)
  have F117 := F116.trans F17
  have c17' : y17.cell? ⟨b17, o17, none⟩ = some (i64 2) := c17
  simp (disch := (first | omega | decide | (simp only [rsD] <;> omega) | fail)) only [↓rsC, rsK, rsL, ↓rsKn18_0, tick_eq, tickV_eq, ne_eq, Int.reduceAdd, Int.reduceSub, Int.reduceMul, Int.reduceEq, Int.reduceLT, Int.reduceLE, Int.reduceToNat, Nat.reduceMul, Nat.reduceAdd, Nat.reduceSub, ←decide_not, k11a, k11b, k8a, k12a, k12b, k13a, k14b, k15a, hl, k16a, ho2, c17']
  exact ⟨trivial, Xw.trans F117⟩
end Go.Proofs.YthhcmoknppljpaaDoor
end
section
set_option linter.unusedVariables false
set_option linter.unusedSimpArgs false
set_option maxHeartbeats 4000000
namespace Go.Proofs.YthhcmoknppljpaaDoor
open Go.Sh Go.RowKit

theorem addN_mem {n : Nat} {out : List Int} {p q : Int} : q ∈ addN n out p ↔ q ∈ out ∨ (q = p ∧ okNo n p) := by
  unfold addN
  split
  · rename_i h
    rw [List.mem_append, List.mem_singleton]
    constructor
    · rintro (h1 | h1)
      · exact .inl h1
      · exact .inr ⟨h1, h.1⟩
    · rintro (h1 | h1)
      · exact .inl h1
      · exact .inr h1.1
  · rename_i h
    constructor
    · exact .inl
    · rintro (h1 | ⟨rfl, h1⟩)
      · exact h1
      · exact Classical.byContradiction fun h2 => h ⟨h1, h2⟩
theorem addL_mem {n : Nat} : ∀ (ps : List Int) {out : List Int} {q : Int}, q ∈ addL n out ps ↔ q ∈ out ∨ (q ∈ ps ∧ okNo n q)
  | [], out, q => by simp [addL]
  | p :: ps, out, q => by
    have e : addL n out (p :: ps) = addL n (addN n out p) ps := rfl
    rw [e, addL_mem ps, addN_mem, List.mem_cons]
    constructor
    · rintro ((h | ⟨rfl, h⟩) | h)
      · exact .inl h
      · exact .inr ⟨.inl rfl, h⟩
      · exact .inr ⟨.inr h.1, h.2⟩
    · rintro (h | ⟨rfl | h, h2⟩)
      · exact .inl (.inl h)
      · exact .inl (.inr ⟨rfl, h2⟩)
      · exact .inr ⟨h, h2⟩
theorem addN_pre {n : Nat} {out : List Int} {p : Int} {k : Nat} (h : k < out.length) : (addN n out p)[k]? = out[k]? := by
  unfold addN
  split
  · rw [List.getElem?_append_left h]
  · rfl
theorem addN_len' {n : Nat} {out : List Int} {p : Int} : out.length ≤ (addN n out p).length := by
  unfold addN
  split
  · simp
  · exact Nat.le_refl _
theorem addL_pre {n : Nat} : ∀ (ps : List Int) {out : List Int} {k : Nat}, k < out.length → (addL n out ps)[k]? = out[k]?
  | [], _, _, _ => rfl
  | p :: ps, out, k, h => by
    have e : addL n out (p :: ps) = addL n (addN n out p) ps := rfl
    have := addN_len' (n := n) (out := out) (p := p)
    rw [e, addL_pre ps (by omega), addN_pre h]
theorem bfs_mem {ns : List GN} {fr : List Int} : ∀ (f i : Nat) (out : List Int), OutOk ns.length out → ns.length < i + f → (∀ q ∈ out, Rch ns fr q) → (∀ p ∈ fr, okNo ns.length p → p ∈ out) →
    (∀ k q, k < i → out[k]? = some q → ∀ p ∈ ptrsOf ns q, okNo ns.length p → p ∈ out) → ∀ q, q ∈ bfs ns f i out ↔ Rch ns fr q := by
  have fin : ∀ (i : Nat) (out : List Int), out.length ≤ i → (∀ q ∈ out, Rch ns fr q) → (∀ p ∈ fr, okNo ns.length p → p ∈ out) →
      (∀ k q, k < i → out[k]? = some q → ∀ p ∈ ptrsOf ns q, okNo ns.length p → p ∈ out) → ∀ q, q ∈ out ↔ Rch ns fr q := by
    intro i out hi h1 h2 h3 q
    refine ⟨h1 q, fun h => ?_⟩
    induction h with
    | base a b => exact h2 _ a b
    | @step j p hj a b c ih =>
      obtain ⟨k, hk, e⟩ := List.getElem_of_mem ih
      refine h3 k _ (by omega) (by rw [List.getElem?_eq_getElem hk, e]) p ?_ c
      unfold ptrsOf
      rw [show ((j : Int) + 1).toNat - 1 = j by omega, List.getElem?_eq_getElem hj]
      exact b
  intro f
  induction f with
  | zero =>
    intro i out ho hf h1 h2 h3
    have := ho.len
    exact fin i out (by omega) h1 h2 h3
  | succ f ih =>
    intro i out ho hf h1 h2 h3
    by_cases hi : i < out.length
    · rw [bfs_step hi]
      refine ih (i + 1) _ (OutOk.addL _ ho) (by omega) (fun q hq => ?_) (fun p hp hpo => addL_sub _ (h2 p hp hpo)) fun k q hk hq p hp hpo => ?_
      · rcases (addL_mem _).1 hq with h | ⟨h, h4⟩
        · exact h1 q h
        · have hq1 := ho.ok _ (List.getElem_mem hi)
          have hj : out[i].toNat - 1 < ns.length := by omega
          unfold ptrsOf at h
          rw [List.getElem?_eq_getElem hj] at h
          refine .step hj ?_ h h4
          have e : ((out[i].toNat - 1 : Nat) : Int) + 1 = out[i] := by omega
          rw [e]
          exact h1 _ (List.getElem_mem hi)
      · by_cases hki : k < i
        · rw [addL_pre _ (by omega)] at hq
          exact addL_sub _ (h3 k q hki hq p hp hpo)
        · have e : k = i := by omega
          subst e
          rw [addL_pre _ hi, List.getElem?_eq_getElem hi] at hq
          have e2 := Option.some.inj hq
          subst e2
          exact (addL_mem _).2 (.inr ⟨hp, hpo⟩)
    · rw [bfs_end (by omega)]
      exact fin i out (by omega) h1 h2 h3
theorem ord_mem (ns : List GN) (fr : List Int) (q : Int) : q ∈ ordV ns fr ↔ Rch ns fr q := by
  unfold ordV
  refine bfs_mem _ _ _ (OutOk.addL _ OutOk.nil) (by omega) (fun q hq => ?_) (fun p hp hpo => (addL_mem _).2 (.inr ⟨hp, hpo⟩)) (fun k q hk => by omega) q
  rcases (addL_mem _).1 hq with h | ⟨h, h2⟩
  · cases h
  · exact .base h h2
/-! picked in their own order -/
end Go.Proofs.YthhcmoknppljpaaDoor
end
section
set_option linter.unusedVariables false
set_option linter.unusedSimpArgs false
set_option maxHeartbeats 4000000
namespace Go.Proofs.YthhcmoknppljpaaDoor
open Go.Sh Go.RowKit

abbrev rsWlk1_0 := (And.intro @xu8_add (And.intro @xu8_lss (And.intro @xu16_add (And.intro @xu16_lss (And.intro @xu32_add (And.intro @xu32_lss (And.intro @xu64_add (And.intro @xu64_lss (And.intro @xi64_lss (And.intro @ld_3 (And.intro @ld_30 (And.intro @fa_32_1 (And.intro @fa_56_1 (And.intro @ia_30 (And.intro @ln_30 (And.intro @bs_40_0 @bs_40_1))))))))))))))))
theorem RNamed_spec {w : World} {na ra : Option Addr} {nc rc : Nat} {ns : List GN} {rs : List GR} (h : GIs w na nc ra rc ns rs) (hrl : rs.length ≤ 9000) :
    Yld Tryd.prog n_loamref17_Named #[gV na nc ra rc ns rs] w fun u w' => NewIt w w' u (tosL rs) := by
  refine loamref17_Named_of ?_
  unfold loamref17_Named
  have gbox : ∀ (y : World) (K : K1), xBox Tryd.prog 32 (gV na nc ra rc ns rs) y K = K (ptr y.heap.size) (y.alloc (.cells #[.slice na ns.length nc, .slice ra rs.length rc] 32)) := fun y K => xBox_r
  rw [gbox]
  have B1 : Blk (w.alloc (.cells #[.slice na ns.length nc, .slice ra rs.length rc] 32)) w.heap.size 32 [.slice na ns.length nc, .slice ra rs.length rc] := Blk.at rfl
  have X1 : Ext [] w (w.alloc (.cells #[.slice na ns.length nc, .slice ra rs.length rc] 32)) := Ext.alloc _ _ _
  have h1 := h.ext0 X1
  generalize w.alloc (.cells #[.slice na ns.length nc, .slice ra rs.length rc] 32) = y1 at *
  generalize hg1 : w.heap.size = g1 at *
  refine xLoop_r rs.length (fun j vs w' => ∃ v, vs = [v, i64 (j : Int)] ∧ NewIt y1 w' v ((tosL rs).take j)) ⟨_, rfl, NewR.nil (Ext.refl _ _)⟩ ?_ ?_
  · rintro j hj u w2 ⟨v, hu, N⟩ nxt hnx
    simp only [List.map_cons, List.map_nil, List.cons.injEq, and_true] at hu
    rw [hu.1, hu.2]
    obtain ⟨b, o, rfl, hlt, c1, c2⟩ := gr_at (h1.rr.ext0 N.1) hj
    have k1 := fun i => (B1.ext N.1 (by simp)).cell (i := i)
    have hlen : ((tosL rs).take j).length = j := by simp; omega
    have hsu : (tosL rs).take (j + 1) = (tosL rs).take j ++ [rs[j].to] := by
      rw [List.take_add_one, List.getElem?_eq_getElem (by simpa using hj)]
      simp
    generalize rs[j] = r at *
    obtain ⟨a0, c0, hv0, _⟩ := N.2.1.slice
    subst hv0
    unfold loamref17_Named_l1
    simp (disch := (first | omega | decide | (simp only [rsD] <;> omega) | fail)) only [↓rsC, rsK, rsL, ↓rsWlk1_0, tick_eq, tickV_eq, ne_eq, Int.reduceAdd, Int.reduceSub, Int.reduceMul, Int.reduceEq, Int.reduceLT, Int.reduceLE, Int.reduceToNat, Nat.reduceMul, Nat.reduceAdd, Nat.reduceSub, ←decide_not, k1, c2]
    refine appIt N.2.1 (o := r.to) rfl (by omega) fun v' x5 O5 T5 => ?_
    have N5 := N.app O5 T5
    rw [← hsu] at N5
    simp (disch := (first | omega | decide | (simp only [rsD] <;> omega) | fail)) only [↓rsC, rsK, rsL, ↓rsWlk1_0, tick_eq, tickV_eq, ne_eq, Int.reduceAdd, Int.reduceSub, Int.reduceMul, Int.reduceEq, Int.reduceLT, Int.reduceLE, Int.reduceToNat, Nat.reduceMul, Nat.reduceAdd, Nat.reduceSub, ←decide_not, k1, c2]
    exact hnx _ _ ⟨v', by simp, N5⟩
  · rintro u w2 ⟨v, hu, N⟩ nxt
    simp only [List.map_cons, List.map_nil, List.cons.injEq, and_true] at hu
    rw [hu.1, hu.2]
    have etk : (tosL rs).take rs.length = tosL rs := by rw [show rs.length = (tosL rs).length by simp, List.take_length]
    rw [etk] at N
    have k1 := fun i => (B1.ext N.1 (by simp)).cell (i := i)
    unfold loamref17_Named_l1
    simp (disch := (first | omega | decide | (simp only [rsD] <;> omega) | fail)) only [↓rsC, rsK, rsL, ↓rsWlk1_0, tick_eq, tickV_eq, ne_eq, Int.reduceAdd, Int.reduceSub, Int.reduceMul, Int.reduceEq, Int.reduceLT, Int.reduceLE, Int.reduceToNat, Nat.reduceMul, Nat.reduceAdd, Nat.reduceSub, ←decide_not, k1]
    exact NewR.pre X1 N
def seenB (n : Nat) (out : List Int) : List Value := (List.range (n + 1)).map fun (i : Nat) => .bool (decide ((i : Int) ∈ out))
theorem seenB_nil (n : Nat) : seenB n [] = List.replicate (n + 1) (.bool false) := by
  refine List.ext_getElem (by simp [seenB]) fun i h1 h2 => ?_
  simp [seenB]
theorem seenB_set {n : Nat} {out : List Int} {p : Int} (h : okNo n p) : (seenB n out).set p.toNat (.bool true) = seenB n (out ++ [p]) := by
  refine List.ext_getElem (by simp [seenB]) fun i h1 h2 => ?_
  rw [List.getElem_set]
  unfold okNo at h
  split
  · rename_i e
    have : (i : Int) = p := by omega
    simp [seenB, this]
  · rename_i e
    have : ¬ (i : Int) = p := by omega
    simp [seenB, this]
theorem seenB_get {n : Nat} {out : List Int} {p : Int} (h0 : 0 ≤ p) (h1 : p ≤ n) : (seenB n out)[p.toNat]? = some (.bool (decide (p ∈ out))) := by
  have e : ((p.toNat : Nat) : Int) = p := by omega
  unfold seenB
  rw [List.getElem?_map, List.getElem?_range (by omega), Option.map_some, e]
structure WkS (n : Nat) (y w : World) (gs : Nat) (v : Value) (out : List Int) : Prop where
  F : Ext [gs] y w
  O : OwnIt w v out
  U : ∀ z ∈ blk v, y.heap.size ≤ z
  B : Blk w gs 4 (seenB n out)
theorem WkS.ext0 {n : Nat} {y w w' : World} {gs : Nat} {v : Value} {out : List Int} (S : WkS n y w gs v out) (hx : Ext [] w w') : WkS n y w' gs v out := ⟨S.F.trans (hx.more (by simp)), S.O.ext0 hx, S.U, S.B.ext hx (by simp)⟩
theorem wk_add {n : Nat} {y w : World} {gs : Nat} {v : Value} {out : List Int} {p : Int} {K : K1} (S : WkS n y w gs v out) (hp : okNo n p) (hlt : gs < y.heap.size) (hol : out.length ≤ 9000) (hK : ∀ v' w', WkS n y w' gs v' (out ++ [p]) → K v' w') :
    xBuiltin Tryd.prog .append #[40, 40] 40 [false, false] [v, .slice (some ⟨(w.setCell ⟨gs, p.toNat, none⟩ (.bool true)).heap.size, 0, none⟩) 1 1] ((w.setCell ⟨gs, p.toNat, none⟩ (.bool true)).alloc (.cells #[i64 p] 3)) K := by
  have F1 : Ext [gs] y (w.setCell ⟨gs, p.toNat, none⟩ (.bool true)) := S.F.set' (.inl (by simp))
  have B1 := S.B.set (i := p.toNat) (v := .bool true)
  rw [seenB_set hp] at B1
  have hgv : gs ∉ blk v := fun h => by have := S.U _ h; omega
  have O1 := S.O.ext (Ext.set (w := w) (b := gs) (o := p.toNat) (v := .bool true)) (fun z hz hm => by simp only [List.mem_singleton] at hm; subst hm; exact hgv hz)
  refine appIt O1 (o := p) rfl (by omega) fun v' x5 O5 T5 => ?_
  obtain ⟨F5, U5, n1, n2⟩ := grow F1 S.U hlt T5
  exact hK _ _ ⟨F5, O5, U5, B1.ext T5.ext n1⟩
abbrev rsWlk1_1 := (And.intro @xu8_add (And.intro @xu8_sub (And.intro @xu8_com (And.intro @xu8_neq (And.intro @xu8_lss (And.intro @xu8_leq (And.intro @xu8_geq (And.intro @xu16_add (And.intro @xu16_sub (And.intro @xu16_com (And.intro @xu16_neq (And.intro @xu16_lss (And.intro @xu16_leq (And.intro @xu16_geq (And.intro @xu32_add (And.intro @xu32_sub 
  (And.intro @xu32_com (And.intro @xu32_neq (And.intro @xu32_lss (And.intro @xu32_leq (And.intro @xu32_geq (And.intro @xu64_add (And.intro @xu64_sub (And.intro @xu64_com (And.intro @xu64_neq (And.intro @xu64_lss (And.intro @xu64_leq (And.intro @xu64_geq (And.intro @xi64_lss (And.intro @xi64_leq (And.intro @xi64_geq (And.intro @xi64_neq (And.intro @xi64_neg 
  (And.intro @ld_3 (And.intro @ld_4 (And.intro @ld_29 (And.intro @ld_40 (And.intro @fa_32_0 (And.intro @fa_49_0 (And.intro @st_4 (And.intro @ia_29 (And.intro @ia_40 (And.intro @ia_77 (And.intro @ln_29 (And.intro @ln_40 (And.intro @bs_40_0 (And.intro @bs_40_1 @mk_77)))))))))))))))))))))))))))))))))))))))))))))))
theorem RWalk_spec {w : World} {na ra : Option Addr} {nc rc : Nat} {ns : List GN} {rs : List GR} (h : GIs w na nc ra rc ns rs) (hf : FewH ns rs) (hg : ∀ x ∈ ns, ∀ p ∈ x.p, 0 ≤ p ∧ p ≤ ns.length) {fr : List Int} {a : Option Addr} {c : Nat} (hr : RowAt w a (its fr)) (hl : fr.length ≤ 100000) :
    Yld Tryd.prog n_loamref17_Walk #[gV na nc ra rc ns rs, .slice a fr.length c] w fun u w' => NewIt w w' u (ordV ns fr) := by
  have hfn := hf.n
  refine loamref17_Walk_of ?_
  unfold loamref17_Walk
  have gbox : ∀ (y : World) (K : K1), xBox Tryd.prog 32 (gV na nc ra rc ns rs) y K = K (ptr y.heap.size) (y.alloc (.cells #[.slice na ns.length nc, .slice ra rs.length rc] 32)) := fun y K => xBox_r
  rw [gbox]
  have B1 : Blk (w.alloc (.cells #[.slice na ns.length nc, .slice ra rs.length rc] 32)) w.heap.size 32 [.slice na ns.length nc, .slice ra rs.length rc] := Blk.at rfl
  have X1 : Ext [] w (w.alloc (.cells #[.slice na ns.length nc, .slice ra rs.length rc] 32)) := Ext.alloc _ _ _
  generalize w.alloc (.cells #[.slice na ns.length nc, .slice ra rs.length rc] 32) = y1 at *
  obtain ⟨g1, hg1⟩ : ∃ g, g = w.heap.size := ⟨_, rfl⟩
  rw [← hg1] at B1 ⊢
  have g1lt := B1.lt
  have k1 := fun i => B1.cell (i := i)
  simp (disch := (first | omega | decide | (simp only [rsD] <;> omega) | fail)) only [↓rsC, rsK, rsL, ↓rsWlk1_1, tick_eq, tickV_eq, ne_eq, Int.reduceAdd, Int.reduceSub, Int.reduceMul, Int.reduceEq, Int.reduceLT, Int.reduceLE, Int.reduceToNat, Nat.reduceMul, Nat.reduceAdd, Nat.reduceSub, ←decide_not, k1]
  have en : ((ns.length : Int) + 1).toNat = ns.length + 1 := by omega
  rw [en]
  have Bs : Blk (y1.alloc (.cells (List.replicate (ns.length + 1) (.bool false)).toArray 4)) y1.heap.size 4 (seenB ns.length []) := by rw [seenB_nil]; exact Blk.at rfl
  have X2 : Ext [] y1 (y1.alloc (.cells (List.replicate (ns.length + 1) (.bool false)).toArray 4)) := Ext.alloc _ _ _
  have B12 := B1.ext X2 (by simp)
  have z2 : (y1.alloc (.cells (List.replicate (ns.length + 1) (.bool false)).toArray 4)).heap.size = y1.heap.size + 1 := World.size_alloc _ _
  generalize y1.alloc (.cells (List.replicate (ns.length + 1) (.bool false)).toArray 4) = y at *
  obtain ⟨gs, hgs⟩ : ∃ g, g = y1.heap.size := ⟨_, rfl⟩
  rw [← hgs] at Bs z2 ⊢
  have Xw := X1.trans X2
  have zw := X1.size
  have hlt : gs < y.heap.size := by omega
  have fresh : ∀ {w' : World}, Ext [gs] y w' → Ext [] w w' := fun F => Xw.new F (fun z hz => by simp only [List.mem_singleton] at hz; omega)
  have ne1 : g1 ∉ [gs] := by simp only [List.mem_singleton]; omega
  have nilb : ∀ z, z ∉ blk (.slice none 0 0) := by simp [blk, Value.ownBlock]
  refine xLoop_r fr.length (fun j vs w' => ∃ v, vs = [v, i64 (j : Int)] ∧ WkS ns.length y w' gs v (addL ns.length [] (fr.take j)) ∧ OutOk ns.length (addL ns.length [] (fr.take j))) ⟨_, rfl, ⟨Ext.refl _ _, Own.nil, fun z hz => absurd hz (nilb z), Bs⟩, OutOk.nil⟩ ?_ ?_
  · rintro j hj u x1 ⟨v, hu, S, hO⟩ nxt hnx
    simp only [List.map_cons, List.map_nil, List.cons.injEq, and_true] at hu
    rw [hu.1, hu.2]
    obtain ⟨b, o, rfl, _, c1⟩ := its_at (hr.ext0 (fresh S.F)) hj
    have hsu : fr.take (j + 1) = fr.take j ++ [fr[j]] := by
      rw [List.take_add_one, List.getElem?_eq_getElem hj]
      rfl
    obtain ⟨_, _, e1, _, c1d⟩ := its_at (hr.ext0 ((fresh S.F).trans (Ext.drew [] x1))) hj
    cases e1
    obtain ⟨_, _, e1, hbw, _⟩ := its_at hr hj
    cases e1
    have hbg : b ≠ gs := by omega
    have fs := fun i => S.B.frozen (i := i)
    generalize fr[j] = p at *
    have Sd := S.ext0 (Ext.drew [] x1)
    have kd := fun i => (B12.ext Sd.F ne1).cell (i := i)
    have ks : okNo ns.length p → x1.drew.cell? ⟨gs, p.toNat, none⟩ = some (.bool (decide (p ∈ addL ns.length [] (fr.take j)))) := fun hp => by rw [Sd.B.cell, seenB_get (by unfold okNo at hp; omega) hp.2]
    have hol := hO.len
    have hstep : addL ns.length [] (fr.take (j + 1)) = addN ns.length (addL ns.length [] (fr.take j)) p := by rw [hsu, addL_snoc]
    have hO' : OutOk ns.length (addL ns.length [] (fr.take (j + 1))) := OutOk.addL _ OutOk.nil
    generalize addL ns.length [] (fr.take (j + 1)) = out' at *
    generalize addL ns.length [] (fr.take j) = out at *
    have stay : ¬ (okNo ns.length p ∧ p ∉ out) → nxt [v, i64 ((j + 1 : Nat) : Int)] x1.drew := fun hno => hnx _ _ ⟨v, rfl, by rw [hstep]; unfold addN; rw [if_neg hno]; exact Sd, hO'⟩
    unfold loamref17_Walk_l1
    by_cases p1 : p ≥ 1
    · by_cases p2 : p ≤ (ns.length : Int)
      · have hp : okNo ns.length p := ⟨p1, p2⟩
        have ks := ks hp
        by_cases hm : p ∈ out
        · rw [decide_eq_true hm] at ks
          simp (disch := (first | omega | decide | (simp only [rsD] <;> omega) | fail)) only [↓rsC, rsK, rsL, ↓rsWlk1_1, tick_eq, tickV_eq, ne_eq, Int.reduceAdd, Int.reduceSub, Int.reduceMul, Int.reduceEq, Int.reduceLT, Int.reduceLE, Int.reduceToNat, Nat.reduceMul, Nat.reduceAdd, Nat.reduceSub, ←decide_not, k1, c1d, kd, ks]
          unfold loamref17_Walk_j1
          simp (disch := (first | omega | decide | (simp only [rsD] <;> omega) | fail)) only [↓rsC, rsK, rsL, ↓rsWlk1_1, tick_eq, tickV_eq, ne_eq, Int.reduceAdd, Int.reduceSub, Int.reduceMul, Int.reduceEq, Int.reduceLT, Int.reduceLE, Int.reduceToNat, Nat.reduceMul, Nat.reduceAdd, Nat.reduceSub, ←decide_not, k1, c1d, kd, ks]
          exact stay fun h => h.2 hm
        · rw [decide_eq_false hm] at ks
          simp (disch := (first | omega | decide | (simp only [rsD] <;> omega) | fail)) only [↓rsC, rsK, rsL, ↓rsWlk1_1, tick_eq, tickV_eq, ne_eq, Int.reduceAdd, Int.reduceSub, Int.reduceMul, Int.reduceEq, Int.reduceLT, Int.reduceLE, Int.reduceToNat, Nat.reduceMul, Nat.reduceAdd, Nat.reduceSub, ←decide_not, k1, c1d, kd, ks, fs]
          refine wk_add Sd hp hlt (by omega) fun v' x5 S5 => ?_
          unfold loamref17_Walk_j1
          simp (disch := (first | omega | decide | (simp only [rsD] <;> omega) | fail)) only [↓rsC, rsK, rsL, ↓rsWlk1_1, tick_eq, tickV_eq, ne_eq, Int.reduceAdd, Int.reduceSub, Int.reduceMul, Int.reduceEq, Int.reduceLT, Int.reduceLE, Int.reduceToNat, Nat.reduceMul, Nat.reduceAdd, Nat.reduceSub, ←decide_not, k1, c1d, kd, ks, fs]
          exact hnx _ _ ⟨v', by simp, by rw [hstep]; unfold addN; rw [if_pos ⟨hp, hm⟩]; exact S5, hO'⟩
      · simp (disch := (first | omega | decide | (simp only [rsD] <;> omega) | fail)) only [↓rsC, rsK, rsL, ↓rsWlk1_1, tick_eq, tickV_eq, ne_eq, Int.reduceAdd, Int.reduceSub, Int.reduceMul, Int.reduceEq, Int.reduceLT, Int.reduceLE, Int.reduceToNat, Nat.reduceMul, Nat.reduceAdd, Nat.reduceSub, ←decide_not, k1, c1d, kd]
        unfold loamref17_Walk_j1
        simp (disch := (first | omega | decide | (simp only [rsD] <;> omega) | fail)) only [↓rsC, rsK, rsL, ↓rsWlk1_1, tick_eq, tickV_eq, ne_eq, Int.reduceAdd, Int.reduceSub, Int.reduceMul, Int.reduceEq, Int.reduceLT, Int.reduceLE, Int.reduceToNat, Nat.reduceMul, Nat.reduceAdd, Nat.reduceSub, ←decide_not, k1, c1d, kd]
        exact stay fun h => p2 h.1.2
    · simp (disch := (first | omega | decide | (simp only [rsD] <;> omega) | fail)) only [↓rsC, rsK, rsL, ↓rsWlk1_1, tick_eq, tickV_eq, ne_eq, Int.reduceAdd, Int.reduceSub, Int.reduceMul, Int.reduceEq, Int.reduceLT, Int.reduceLE, Int.reduceToNat, Nat.reduceMul, Nat.reduceAdd, Nat.reduceSub, ←decide_not, k1, c1d, kd]
      unfold loamref17_Walk_j1
      simp (disch := (first | omega | decide | (simp only [rsD] <;> omega) | fail)) only [↓rsC, rsK, rsL, ↓rsWlk1_1, tick_eq, tickV_eq, ne_eq, Int.reduceAdd, Int.reduceSub, Int.reduceMul, Int.reduceEq, Int.reduceLT, Int.reduceLE, Int.reduceToNat, Nat.reduceMul, Nat.reduceAdd, Nat.reduceSub, ←decide_not, k1, c1d, kd]
      exact stay fun h => p1 h.1.1
  · rintro u x1 ⟨v, hu, S, hO⟩ nxt
    simp only [List.map_cons, List.map_nil, List.cons.injEq, and_true] at hu
    rw [hu.1, hu.2]
    rw [List.take_length] at S hO
    unfold loamref17_Walk_l1
    simp (disch := (first | omega | decide | (simp only [rsD] <;> omega) | fail)) only [↓rsC, rsK, rsL, ↓rsWlk1_1, tick_eq, tickV_eq, ne_eq, Int.reduceAdd, Int.reduceSub, Int.reduceMul, Int.reduceEq, Int.reduceLT, Int.reduceLE, Int.reduceToNat, Nat.reduceMul, Nat.reduceAdd, Nat.reduceSub, ←decide_not, k1]
    refine xLoop_r (ns.length + 1) (fun i vs w' => ∃ v out, vs = [v, i64 (i : Int)] ∧ WkS ns.length y w' gs v out ∧ OutOk ns.length out ∧ i ≤ out.length ∧ ordV ns fr = bfs ns (ns.length + 1 - i) i out) ⟨_, _, rfl, S, hO, Nat.zero_le _, rfl⟩ ?_ ?_
    rotate_left
    · rintro u x2 ⟨v, out, hu, S2, hO2, hi, he⟩ nxt2
      have := hO2.len
      omega
    rintro i hi u x2 ⟨v2, out, hu, S2, hO2, hil, he⟩ nxt2 hnx2
    simp only [List.map_cons, List.map_nil, List.cons.injEq, and_true] at hu
    rw [hu.1, hu.2]
    have hol := hO2.len
    obtain ⟨a0, c0, hv0, hc0, _, _, R0, _⟩ := S2.O.slice
    unfold loamref17_Walk_l2
    by_cases hlt2 : i < out.length
    · have Sd := S2.ext0 (Ext.drew [] x2)
      have kd := fun i => (B12.ext Sd.F ne1).cell (i := i)
      obtain ⟨bo, oo, eo, _, co⟩ := its_at (R0.ext0 (Ext.drew [] x2)) hlt2
      have hok := hO2.ok _ (List.getElem_mem hlt2)
      have hq : out[i].toNat - 1 < ns.length := by omega
      obtain ⟨bn, on, ena, _, c1, c2⟩ := gn_at (h.nr.ext0 (fresh Sd.F)) hq
      have hptr : ptrsOf ns out[i] = ns[out[i].toNat - 1].p := by unfold ptrsOf; rw [List.getElem?_eq_getElem hq]
      have hstep : bfs ns (ns.length + 1 - i) i out = bfs ns (ns.length + 1 - (i + 1)) (i + 1) (addL ns.length out ns[out[i].toNat - 1].p) := by
        rw [show ns.length + 1 - i = (ns.length + 1 - (i + 1)) + 1 by omega, bfs_step hlt2, hptr]
      have hx := h.ok _ (List.getElem_mem hq)
      have hgx := hg _ (List.getElem_mem hq)
      have tq : (out[i] - 1).toNat = out[i].toNat - 1 := by omega
      have hqb : out[i] ≤ 9000 := by omega
      have lx := hf.x _ (List.getElem_mem hq)
      generalize out[i] = q at *
      generalize ns[q.toNat - 1] = x at *
      subst ena
      subst hv0
      rw [eo]
      simp (disch := (first | omega | decide | (simp only [rsD] <;> omega) | fail)) only [↓rsC, rsK, rsL, ↓rsWlk1_1, tick_eq, tickV_eq, ne_eq, Int.reduceAdd, Int.reduceSub, Int.reduceMul, Int.reduceEq, Int.reduceLT, Int.reduceLE, Int.reduceToNat, Nat.reduceMul, Nat.reduceAdd, Nat.reduceSub, ←decide_not, k1, kd, co, tq, c1]
      rw [← eo]
      refine xLoop_r x.p.length (fun k vs w' => ∃ v, vs = [v, i64 (k : Int)] ∧ WkS ns.length y w' gs v (addL ns.length out (x.p.take k)) ∧ OutOk ns.length (addL ns.length out (x.p.take k))) ⟨_, rfl, by simpa [addL] using Sd, OutOk.addL _ hO2⟩ ?_ ?_
      · rintro k hk u x3 ⟨v3, hu, S3, hO3⟩ nxt3 hnx3
        simp only [List.map_cons, List.map_nil, List.cons.injEq, and_true] at hu
        rw [hu.1, hu.2]
        obtain ⟨bp, op, ep, _, cp⟩ := its_at (hx.ext0 (fresh S3.F)).pr hk
        obtain ⟨_, _, e1, hbw, _⟩ := its_at hx.pr hk
        rw [ep] at e1
        cases e1
        have hbg : bp ≠ gs := by omega
        have fs := fun i => S3.B.frozen (i := i)
        have hsu : x.p.take (k + 1) = x.p.take k ++ [x.p[k]] := by
          rw [List.take_add_one, List.getElem?_eq_getElem hk]
          rfl
        have hpg := hgx _ (List.getElem_mem hk)
        generalize x.p[k] = p at *
        have ks : okNo ns.length p → x3.cell? ⟨gs, p.toNat, none⟩ = some (.bool (decide (p ∈ addL ns.length out (x.p.take k)))) := fun hp => by rw [S3.B.cell, seenB_get hpg.1 hp.2]
        have hol3 := hO3.len
        have hstep3 : addL ns.length out (x.p.take (k + 1)) = addN ns.length (addL ns.length out (x.p.take k)) p := by rw [hsu, addL_snoc]
        have hO' : OutOk ns.length (addL ns.length out (x.p.take (k + 1))) := OutOk.addL _ hO2
        generalize addL ns.length out (x.p.take (k + 1)) = out4 at *
        generalize addL ns.length out (x.p.take k) = out3 at *
        have stay : ¬ (okNo ns.length p ∧ p ∉ out3) → nxt3 [v3, i64 ((k + 1 : Nat) : Int)] x3 := fun hno => hnx3 _ _ ⟨v3, rfl, by rw [hstep3]; unfold addN; rw [if_neg hno]; exact S3, hO'⟩
        unfold loamref17_Walk_l3
        rw [ep]
        by_cases p0 : p = 0
        · subst p0
          simp (disch := (first | omega | decide | (simp only [rsD] <;> omega) | fail)) only [↓rsC, rsK, rsL, ↓rsWlk1_1, tick_eq, tickV_eq, ne_eq, Int.reduceAdd, Int.reduceSub, Int.reduceMul, Int.reduceEq, Int.reduceLT, Int.reduceLE, Int.reduceToNat, Nat.reduceMul, Nat.reduceAdd, Nat.reduceSub, ←decide_not, k1, kd, co, tq, c1, cp]
          unfold loamref17_Walk_j2
          simp (disch := (first | omega | decide | (simp only [rsD] <;> omega) | fail)) only [↓rsC, rsK, rsL, ↓rsWlk1_1, tick_eq, tickV_eq, ne_eq, Int.reduceAdd, Int.reduceSub, Int.reduceMul, Int.reduceEq, Int.reduceLT, Int.reduceLE, Int.reduceToNat, Nat.reduceMul, Nat.reduceAdd, Nat.reduceSub, ←decide_not, k1, kd, co, tq, c1, cp]
          exact stay fun h => by have := h.1.1; omega
        · have hp : okNo ns.length p := ⟨by omega, hpg.2⟩
          have ks := ks hp
          by_cases hm : p ∈ out3
          · rw [decide_eq_true hm] at ks
            simp (disch := (first | omega | decide | (simp only [rsD] <;> omega) | fail)) only [↓rsC, rsK, rsL, ↓rsWlk1_1, tick_eq, tickV_eq, ne_eq, Int.reduceAdd, Int.reduceSub, Int.reduceMul, Int.reduceEq, Int.reduceLT, Int.reduceLE, Int.reduceToNat, Nat.reduceMul, Nat.reduceAdd, Nat.reduceSub, ←decide_not, k1, kd, co, tq, c1, cp, ks]
            unfold loamref17_Walk_j2
            simp (disch := (first | omega | decide | (simp only [rsD] <;> omega) | fail)) only [↓rsC, rsK, rsL, ↓rsWlk1_1, tick_eq, tickV_eq, ne_eq, Int.reduceAdd, Int.reduceSub, Int.reduceMul, Int.reduceEq, Int.reduceLT, Int.reduceLE, Int.reduceToNat, Nat.reduceMul, Nat.reduceAdd, Nat.reduceSub, ←decide_not, k1, kd, co, tq, c1, cp, ks]
            exact stay fun h => h.2 hm
          · rw [decide_eq_false hm] at ks
            simp (disch := (first | omega | decide | (simp only [rsD] <;> omega) | fail)) only [↓rsC, rsK, rsL, ↓rsWlk1_1, tick_eq, tickV_eq, ne_eq, Int.reduceAdd, Int.reduceSub, Int.reduceMul, Int.reduceEq, Int.reduceLT, Int.reduceLE, Int.reduceToNat, Nat.reduceMul, Nat.reduceAdd, Nat.reduceSub, ←decide_not, k1, kd, co, tq, c1, cp, ks, fs]
            refine wk_add S3 hp hlt (by omega) fun v' x5 S5 => ?_
            unfold loamref17_Walk_j2
            simp (disch := (first | omega | decide | (simp only [rsD] <;> omega) | fail)) only [↓rsC, rsK, rsL, ↓rsWlk1_1, tick_eq, tickV_eq, ne_eq, Int.reduceAdd, Int.reduceSub, Int.reduceMul, Int.reduceEq, Int.reduceLT, Int.reduceLE, Int.reduceToNat, Nat.reduceMul, Nat.reduceAdd, Nat.reduceSub, ←decide_not, k1, kd, co, tq, c1, cp, ks, fs]
            exact hnx3 _ _ ⟨v', by simp, by rw [hstep3]; unfold addN; rw [if_pos ⟨hp, hm⟩]; exact S5, hO'⟩
      · rintro u x3 ⟨v3, hu, S3, hO3⟩ nxt3
        simp only [List.map_cons, List.map_nil, List.cons.injEq, and_true] at hu
        rw [hu.1, hu.2]
        rw [List.take_length] at S3 hO3
        unfold loamref17_Walk_l3
        simp (disch := (first | omega | decide | (simp only [rsD] <;> omega) | fail)) only [↓rsC, rsK, rsL, ↓rsWlk1_1, tick_eq, tickV_eq, ne_eq, Int.reduceAdd, Int.reduceSub, Int.reduceMul, Int.reduceEq, Int.reduceLT, Int.reduceLE, Int.reduceToNat, Nat.reduceMul, Nat.reduceAdd, Nat.reduceSub, ←decide_not, k1, kd, co, tq, c1]
        have hlen3 : i + 1 ≤ (addL ns.length out x.p).length := by
          have := addL_len ns.length x.p out
          omega
        exact hnx2 _ _ ⟨v3, _, by simp, S3, hO3, hlen3, by rw [he, hstep]⟩
    · have e : ordV ns fr = out := by rw [he, bfs_end (by omega)]
      subst hv0
      simp (disch := (first | omega | decide | (simp only [rsD] <;> omega) | fail)) only [↓rsC, rsK, rsL, ↓rsWlk1_1, tick_eq, tickV_eq, ne_eq, Int.reduceAdd, Int.reduceSub, Int.reduceMul, Int.reduceEq, Int.reduceLT, Int.reduceLE, Int.reduceToNat, Nat.reduceMul, Nat.reduceAdd, Nat.reduceSub, ←decide_not, k1]
      rw [e]
      exact ⟨fresh S2.F, S2.O, fun z hz => by have := S2.U z hz; have := Xw.size; omega⟩
end Go.Proofs.YthhcmoknppljpaaDoor
end
section
set_option linter.unusedVariables false
set_option linter.unusedSimpArgs false
set_option maxHeartbeats 4000000
namespace Go.Proofs.YthhcmoknppljpaaDoor
open Go.Sh Go.RowKit

def toK (n : Nat) (ord : List Int) : List Int := (List.range n).map fun (i : Nat) => noV ord ((i : Int) + 1)
theorem toK_nil (n : Nat) : its (toK n []) = List.replicate n (i64 0) := by
  refine List.ext_getElem (by simp [toK]) fun i h1 h2 => ?_
  simp [toK, noV]
theorem noV_snoc {o : List Int} {q p : Int} (hq : q ∉ o) : noV (o ++ [q]) p = if p = q then (o.length : Int) + 1 else noV o p := by
  unfold noV
  by_cases e : p = q
  · subst e
    rw [if_pos rfl, if_pos (by simp), List.idxOf_append, if_neg hq]
    simp
  · rw [if_neg e]
    by_cases h : p ∈ o
    · rw [if_pos h, if_pos (by simp [h]), List.idxOf_append, if_pos h]
    · rw [if_neg h, if_neg (by simp [h, e])]
theorem toK_set {n : Nat} {o : List Int} {q : Int} (h : okNo n q) (hq : q ∉ o) : (its (toK n o)).set (q - 1).toNat (i64 ((o.length : Int) + 1)) = its (toK n (o ++ [q])) := by
  unfold okNo at h
  refine List.ext_getElem (by simp [toK]) fun i h1 h2 => ?_
  rw [List.getElem_set]
  simp only [toK, List.getElem_map, List.getElem_range]
  rw [noV_snoc hq]
  split
  · rename_i e
    rw [if_pos (by omega)]
  · rename_i e
    rw [if_neg (by omega)]
theorem toK_get {n : Nat} {o : List Int} {p : Int} (h : okNo n p) : (its (toK n o))[(p - 1).toNat]? = some (i64 (noV o p)) := by
  unfold okNo at h
  simp only [toK, List.getElem?_map]
  rw [List.getElem?_range (by omega)]
  simp only [Option.map_some]
  rw [show (((p - 1).toNat : Nat) : Int) + 1 = p by omega]
def PickR (w : World) (ns : List GN) (rs : List GR) (ord : List Int) (u : Value) (w' : World) : Prop := Ext [] w w' ∧ ∃ na' nc' ra' rc' ns' v, ns'.map bare = ord.map (canN ns ord) ∧ u = .tuple #[gV na' nc' ra' rc' ns' (rs.map fun r => ⟨r.s, noV ord r.to⟩), v] ∧ GIs w' na' nc' ra' rc' ns' (rs.map fun r => ⟨r.s, noV ord r.to⟩) ∧ (∀ z, na' = some z → w.heap.size ≤ z.block) ∧ (∀ z, ra' = some z → w.heap.size ≤ z.block) ∧ ∃ gt, w.heap.size ≤ gt ∧ v = .slice (some ⟨gt, 0, none⟩) ns.length ns.length ∧ RowAt w' (some ⟨gt, 0, none⟩) (its (toK ns.length ord))
abbrev rsPck1_0 := (And.intro @xu8_add (And.intro @xu8_sub (And.intro @xu8_neq (And.intro @xu8_lss (And.intro @xu16_add (And.intro @xu16_sub (And.intro @xu16_neq (And.intro @xu16_lss (And.intro @xu32_add (And.intro @xu32_sub (And.intro @xu32_neq (And.intro @xu32_lss (And.intro @xu64_add (And.intro @xu64_sub (And.intro @xu64_neq (And.intro @xu64_lss 
  (And.intro @xi64_lss (And.intro @xi64_neq (And.intro @xi64_neg (And.intro @ld_3 (And.intro @ld_9 (And.intro @ld_29 (And.intro @ld_30 (And.intro @ld_32 (And.intro @ld_40 (And.intro @ld_45 (And.intro @ld_49 (And.intro @ld_56 (And.intro @lr_32 (And.intro @fa_32_0 (And.intro @fa_32_1 (And.intro @fa_49_0 (And.intro @fa_49_1 (And.intro @fa_56_0 (And.intro @fa_56_1 (And.intro @al_32 
  (And.intro @al_49 (And.intro @al_56 (And.intro @st_3 (And.intro @st_29 (And.intro @st_30 (And.intro @st_32 (And.intro @st_40 (And.intro @st_49 (And.intro @st_56 (And.intro @bd_32 (And.intro @bd_49_0 (And.intro @bd_49_0_1 (And.intro @bd_49_1 (And.intro @bd_56_0_1 (And.intro @ia_29 (And.intro @ia_30 (And.intro @ia_40 (And.intro @ln_29 (And.intro @ln_30 (And.intro @ln_40 
  (And.intro @bs_29_1 (And.intro @bs_30_1 (And.intro @bs_40_0 (And.intro @bs_40_1 (And.intro @bs_45_0 (And.intro @bs_45_1 (And.intro @bs_45_2 @mk_40)))))))))))))))))))))))))))))))))))))))))))))))))))))))))))))))
theorem RPick_spec {w : World} {na ra : Option Addr} {nc rc : Nat} {ns : List GN} {rs : List GR} (h : GIs w na nc ra rc ns rs) (hf : FewH ns rs) (hg : ∀ x ∈ ns, ∀ p ∈ x.p, 0 ≤ p ∧ p ≤ ns.length) (hgr : ∀ r ∈ rs, 0 ≤ r.to ∧ r.to ≤ ns.length) {ord : List Int} {a : Option Addr} {c : Nat} (ho : OutOk ns.length ord) (hr : RowAt w a (its ord)) :
    Yld Tryd.prog n_loamref17_Pick #[gV na nc ra rc ns rs, .slice a ord.length c] w (PickR w ns rs ord) := by
  have hfn := hf.n
  have hfr := hf.r
  have hol := ho.len
  refine loamref17_Pick_of ?_
  unfold loamref17_Pick
  have gbox : ∀ (y : World) (K : K1), xBox Tryd.prog 32 (gV na nc ra rc ns rs) y K = K (ptr y.heap.size) (y.alloc (.cells #[.slice na ns.length nc, .slice ra rs.length rc] 32)) := fun y K => xBox_r
  have al : ∀ (y : World) (K : K1), xAlloc Tryd.prog 32 y K = K (ptr y.heap.size) (y.alloc (.cells #[.slice none 0 0, .slice none 0 0] 32)) := fun y K => xAlloc_r (by kernel_rfl)
  rw [gbox, al]
  have B1 : Blk (w.alloc (.cells #[.slice na ns.length nc, .slice ra rs.length rc] 32)) w.heap.size 32 [.slice na ns.length nc, .slice ra rs.length rc] := Blk.at rfl
  have X1 : Ext [] w (w.alloc (.cells #[.slice na ns.length nc, .slice ra rs.length rc] 32)) := Ext.alloc _ _ _
  generalize w.alloc (.cells #[.slice na ns.length nc, .slice ra rs.length rc] 32) = y1 at *
  obtain ⟨g1, hg1⟩ : ∃ g, g = w.heap.size := ⟨_, rfl⟩
  rw [← hg1] at B1 ⊢
  have g1lt := B1.lt
  have zw1 := X1.size
  have B40 : Blk (y1.alloc (.cells #[.slice none 0 0, .slice none 0 0] 32)) y1.heap.size 32 [.slice none 0 0, .slice none 0 0] := Blk.at rfl
  have X2 : Ext [] y1 (y1.alloc (.cells #[.slice none 0 0, .slice none 0 0] 32)) := Ext.alloc _ _ _
  have B12 := B1.ext X2 (by simp)
  generalize y1.alloc (.cells #[.slice none 0 0, .slice none 0 0] 32) = y2 at *
  obtain ⟨g4, hg4⟩ : ∃ g, g = y1.heap.size := ⟨_, rfl⟩
  rw [← hg4] at B40 ⊢
  have g4lt := B40.lt
  have zw2 := X2.size
  have k1 := fun i => B12.cell (i := i)
  simp (disch := (first | omega | decide | (simp only [rsD] <;> omega) | fail)) only [↓rsC, rsK, rsL, ↓rsPck1_0, tick_eq, tickV_eq, ne_eq, Int.reduceAdd, Int.reduceSub, Int.reduceMul, Int.reduceEq, Int.reduceLT, Int.reduceLE, Int.reduceToNat, Nat.reduceMul, Nat.reduceAdd, Nat.reduceSub, ←decide_not, k1]
  have en : ((ns.length : Int)).toNat = ns.length := by omega
  try rw [en]
  have Bt0 : Blk (y2.alloc (.cells (List.replicate ns.length (i64 0)).toArray 3)) y2.heap.size 3 (its (toK ns.length [])) := by rw [toK_nil]; exact Blk.at rfl
  have X3 : Ext [] y2 (y2.alloc (.cells (List.replicate ns.length (i64 0)).toArray 3)) := Ext.alloc _ _ _
  have B13 := B12.ext X3 (by simp)
  have B43 := B40.ext X3 (by simp)
  generalize y2.alloc (.cells (List.replicate ns.length (i64 0)).toArray 3) = y3 at *
  obtain ⟨gt, hgt⟩ : ∃ g, g = y2.heap.size := ⟨_, rfl⟩
  rw [← hgt] at Bt0 ⊢
  have gtlt := Bt0.lt
  have X03 := X1.trans (X2.trans X3)
  have fresh : ∀ {w' : World}, Ext [gt] y3 w' → Ext [] w w' := fun F => X03.new F (fun z hz => by simp only [List.mem_singleton] at hz; omega)
  have ne1 : g1 ∉ [gt] := by simp only [List.mem_singleton]; omega
  have ne4 : g4 ∉ [gt] := by simp only [List.mem_singleton]; omega
  refine xLoop_n ord.length (fun j => [i64 (j : Int)]) (fun j w' => Ext [gt] y3 w' ∧ Blk w' gt 3 (its (toK ns.length (ord.take j)))) rfl ⟨Ext.refl _ _, Bt0⟩ ?_ ?_
  · rintro j hj u x1 hu ⟨F, Bt⟩ nxt hnx
    simp only [List.map_cons, List.map_nil, List.cons.injEq, and_true] at hu
    rw [hu]
    obtain ⟨bo, oo, rfl, _, co⟩ := its_at (hr.ext0 (fresh F)) hj
    obtain ⟨_, _, e1, hbw, _⟩ := its_at hr hj
    cases e1
    have hbg : bo ≠ gt := by omega
    have hok := ho.ok _ (List.getElem_mem hj)
    have hnot : ord[j] ∉ ord.take j := fun hm => by
      obtain ⟨i, hi, e⟩ := List.getElem_of_mem hm
      rw [List.getElem_take] at e
      rw [List.length_take] at hi
      have := List.pairwise_iff_getElem.1 ho.nd i j (by omega) hj (by omega)
      exact this e
    have hsu : ord.take (j + 1) = ord.take j ++ [ord[j]] := by
      rw [List.take_add_one, List.getElem?_eq_getElem hj]
      rfl
    have hlen : (ord.take j).length = j := by simp; omega
    have ht := toK_set hok hnot
    rw [hlen, ← hsu] at ht
    have ks := Bt.cell (i := (ord[j] - 1).toNat)
    rw [toK_get hok] at ks
    have fs := fun i => Bt.frozen (i := i)
    generalize ord[j] = q at *
    unfold okNo at hok
    have hq1 : (q - 1).toNat < ns.length := by omega
    unfold loamref17_Pick_l1
    simp (disch := (first | omega | decide | (simp only [rsD] <;> omega) | fail)) only [↓rsC, rsK, rsL, ↓rsPck1_0, tick_eq, tickV_eq, ne_eq, Int.reduceAdd, Int.reduceSub, Int.reduceMul, Int.reduceEq, Int.reduceLT, Int.reduceLE, Int.reduceToNat, Nat.reduceMul, Nat.reduceAdd, Nat.reduceSub, ←decide_not, k1, co, ks, fs]
    have B2 := Bt.set (i := (q - 1).toNat) (v := i64 ((j : Int) + 1))
    rw [ht] at B2
    exact hnx _ ⟨F.set' (.inl (by simp)), B2⟩
  rintro u x1 hu ⟨F, Bt⟩ nxt
  simp only [List.map_cons, List.map_nil, List.cons.injEq, and_true] at hu
  rw [hu]
  rw [List.take_length] at Bt
  have B1x := B13.ext F ne1
  have B4x := B43.ext F ne4
  have g1x := B1x.lt
  have g4x := B4x.lt
  have gtx := Bt.lt
  unfold loamref17_Pick_l1
  simp (disch := (first | omega | decide | (simp only [rsD] <;> omega) | fail)) only [↓rsC, rsK, rsL, ↓rsPck1_0, tick_eq, tickV_eq, ne_eq, Int.reduceAdd, Int.reduceSub, Int.reduceMul, Int.reduceEq, Int.reduceLT, Int.reduceLE, Int.reduceToNat, Nat.reduceMul, Nat.reduceAdd, Nat.reduceSub, ←decide_not, k1]
  obtain ⟨hx, hhx⟩ : ∃ g, g = x1.heap.size := ⟨_, rfl⟩
  have Bx0 : Blk (x1.alloc (.cells #[.slice none 0 0, .slice none 0 0] 32)) hx 32 [.slice none 0 0, .slice none 0 0] := Blk.at hhx
  have X8 : Ext [] x1 (x1.alloc (.cells #[.slice none 0 0, .slice none 0 0] 32)) := Ext.alloc _ _ _
  have zs8 : (x1.alloc (.cells #[.slice none 0 0, .slice none 0 0] 32)).heap.size = x1.heap.size + 1 := World.size_alloc _ _
  rw [← hhx] at zs8 ⊢
  have F8 := (fresh F).trans X8
  have B18 := B1x.ext X8 (by simp)
  have B48 := B4x.ext X8 (by simp)
  have Bt8 := Bt.ext X8 (by simp)
  have zw8 := (fresh F).size
  generalize x1.alloc (.cells #[.slice none 0 0, .slice none 0 0] 32) = q at *
  have hlt : hx < q.heap.size := by omega
  have fresh2 : ∀ {w' : World}, Ext [hx] q w' → Ext [] w w' := fun F => F8.new F (fun z hz => by simp only [List.mem_singleton] at hz; omega)
  have nq1 : g1 ∉ [hx] := by simp only [List.mem_singleton]; omega
  have nq4 : g4 ∉ [hx] := by simp only [List.mem_singleton]; omega
  have nqt : gt ∉ [hx] := by simp only [List.mem_singleton]; omega
  have nilb : ∀ z, z ∉ blk (.slice none 0 0) := by simp [blk, Value.ownBlock]
  refine xLoop_n ord.length (fun j => [i64 (j : Int)]) (fun j w' => Ext [hx] q w' ∧ ∃ v ns', ns'.map bare = (ord.take j).map (canN ns ord) ∧ OwnN w' v ns' ∧ Blk w' hx 32 [v, .slice none 0 0] ∧ (∀ z ∈ blk v, q.heap.size ≤ z) ∧ ∀ x ∈ ns', NOk w' x ∧ Apt (hx :: blk v) x) rfl ⟨Ext.refl _ _, .slice none 0 0, [], by simp, Own.nil, Bx0, fun z hz => absurd hz (nilb z), by simp⟩ ?_ ?_
  · rintro j hj u x2 hu ⟨F2, v, ns', hns, O, B, U, A⟩ nxt2 hnx2
    simp only [List.map_cons, List.map_nil, List.cons.injEq, and_true] at hu
    rw [hu]
    have hnl : ns'.length = j := by
      have := congrArg List.length hns
      rw [List.length_map, List.length_map, List.length_take] at this
      omega
    have Fd : Ext [hx] q x2.drew := F2.trans ((Ext.drew [] x2).more (by simp))
    obtain ⟨bo, oo, rfl, zbo, co⟩ := its_at (hr.ext0 (fresh2 Fd)) hj
    have hok := ho.ok _ (List.getElem_mem hj)
    have hq : ord[j].toNat - 1 < ns.length := by omega
    obtain ⟨bn, on, ena, zbn, c1, c2⟩ := gn_at (h.nr.ext0 (fresh2 Fd)) hq
    have zb1 := (B18.ext Fd nq1).lt
    have zd : x2.drew.heap.size = x2.heap.size := World.size_drew _
    rw [zd] at zbo zbn zb1
    have hsu : (ord.take (j + 1)).map (canN ns ord) = (ord.take j).map (canN ns ord) ++ [canN ns ord ord[j]] := by
      rw [List.take_add_one, List.getElem?_eq_getElem hj, Option.toList_some, List.map_append]
      rfl
    have hcan : canN ns ord ord[j] = ⟨(ns[ord[j].toNat - 1].p).map (noV ord), none, 0, ns[ord[j].toNat - 1].d, none, 0⟩ := by
      unfold canN ptrsOf dataOf
      rw [List.getElem?_eq_getElem hq]
    rw [hcan] at hsu
    have hxk := h.ok _ (List.getElem_mem hq)
    have hgx := hg _ (List.getElem_mem hq)
    have lx := hf.x _ (List.getElem_mem hq)
    have tq : (ord[j] - 1).toNat = ord[j].toNat - 1 := by omega
    unfold okNo at hok
    generalize ord[j] = qq at *
    generalize ns[qq.toNat - 1] = x at *
    subst ena
    have kd := fun i => (B18.ext Fd nq1).cell (i := i)
    have hqb : qq ≤ 9000 := by omega
    unfold loamref17_Pick_l2
    simp (disch := (first | omega | decide | (simp only [rsD] <;> omega) | fail)) only [↓rsC, rsK, rsL, ↓rsPck1_0, tick_eq, tickV_eq, ne_eq, Int.reduceAdd, Int.reduceSub, Int.reduceMul, Int.reduceEq, Int.reduceLT, Int.reduceLE, Int.reduceToNat, Nat.reduceMul, Nat.reduceAdd, Nat.reduceSub, ←decide_not, k1, co, kd, tq, c1, c2]
    rw [← zd]
    have Bd := B.ext (Ext.drew [] x2) (by simp)
    have Od := O.ext0 (Ext.drew [] x2)
    have Ad : ∀ y ∈ ns', NOk x2.drew y ∧ Apt (hx :: blk v) y := fun y hy => ⟨(A y hy).1.ext0 (Ext.drew [] x2), (A y hy).2⟩
    rw [← zd] at zbo zbn zb1
    generalize x2.drew = xd at *
    have C3 : Blk (xd.alloc (.cells #[.slice x.pa x.p.length x.pc, .slice x.da x.d.length x.dc] 49)) xd.heap.size 49 [.slice x.pa x.p.length x.pc, .slice x.da x.d.length x.dc] := Blk.at rfl
    have X3d : Ext [] xd (xd.alloc (.cells #[.slice x.pa x.p.length x.pc, .slice x.da x.d.length x.dc] 49)) := Ext.alloc _ _ _
    have zs3 : (xd.alloc (.cells #[.slice x.pa x.p.length x.pc, .slice x.da x.d.length x.dc] 49)).heap.size = xd.heap.size + 1 := World.size_alloc _ _
    generalize xd.alloc (.cells #[.slice x.pa x.p.length x.pc, .slice x.da x.d.length x.dc] 49) = x3 at *
    obtain ⟨hc, hhc⟩ : ∃ g, g = xd.heap.size := ⟨_, rfl⟩
    rw [← zs3]
    rw [← hhc] at C3 ⊢
    have E3 : Blk (x3.alloc (.cells #[] 5)) x3.heap.size 5 [] := Blk.at (cs := []) rfl
    have OE : Own (x3.alloc (.cells #[] 5)) 5 1 (.slice (some ⟨x3.heap.size, 0, none⟩) 0 0) 0 [] := Own.close (rest := []) (by rw [List.append_nil]; exact E3) (Nat.le_refl _) (by decide) (by rfl) (by rfl)
    have X34 : Ext [] x3 (x3.alloc (.cells #[] 5)) := Ext.alloc _ _ _
    have zs4 : (x3.alloc (.cells #[] 5)).heap.size = x3.heap.size + 1 := World.size_alloc _ _
    have UE : ∀ z ∈ blk (.slice (some ⟨x3.heap.size, 0, none⟩) 0 0), x3.heap.size ≤ z := by simp [blk, Value.ownBlock]
    generalize x3.alloc (.cells #[] 5) = x4 at *
    have Xd4 := X3d.trans X34
    have Fd4 := Fd.trans (Xd4.more (by simp))
    refine xApp (e := 5) (s := 1) (n := 0) (m := x.d.length) (xs := []) (news := bys x.d) (bytes := 1) (z := .int .u8 0) (by kernel_rfl) (by kernel_rfl) (by rfl) (by decide) OE (by simp) ((hxk.ext0 (fresh2 Fd4)).dr) hxk.dn hxk.dl bys_ok (by omega) (by omega) fun vd x5 O5 T5 => ?_
    rw [Nat.zero_add, List.nil_append] at O5
    obtain ⟨ad, cd, hvd, hdl, _, hdn, Rd, _⟩ := O5.slice
    have E45 : Ext [] x3 x5 := X34.new T5.ext (fun z hz => UE z hz)
    have Ud : ∀ z ∈ blk vd, x3.heap.size ≤ z := fun z hz => by
      rcases T5.at' z hz with h1 | h1
      · exact UE z h1
      · omega
    have Udl := O5.lt
    have Xd5 := X3d.trans E45
    subst hvd
    simp (disch := (first | omega | decide | (simp only [rsD] <;> omega) | fail)) only [↓rsC, rsK, rsL, ↓rsPck1_0, tick_eq, tickV_eq, ne_eq, Int.reduceAdd, Int.reduceSub, Int.reduceMul, Int.reduceEq, Int.reduceLT, Int.reduceLE, Int.reduceToNat, Nat.reduceMul, Nat.reduceAdd, Nat.reduceSub, ←decide_not, k1, co, kd, tq, c1, c2]
    obtain ⟨hn, hhn⟩ : ∃ g, g = x5.heap.size := ⟨_, rfl⟩
    have N60 : Blk (x5.alloc (.cells #[.slice none 0 0, .slice ad x.d.length cd] 49)) hn 49 [.slice none 0 0, .slice ad x.d.length cd] := Blk.at hhn
    have X56 : Ext [] x5 (x5.alloc (.cells #[.slice none 0 0, .slice ad x.d.length cd] 49)) := Ext.alloc _ _ _
    rw [← hhn]
    have Rd6 := Rd.ext0 X56
    have C6 := (C3.ext E45 (by simp)).ext X56 (by simp)
    have Xd6 := Xd5.trans X56
    have z56 := X56.size
    generalize x5.alloc (.cells #[.slice none 0 0, .slice ad x.d.length cd] 49) = x6 at *
    have hn6 := N60.lt
    have F06 := Fd.trans (Xd6.more (by simp))
    have B6 := Bd.ext Xd6 (by simp)
    have O6 := Od.ext0 Xd6
    have zF := Fd.size
    have hxdlt := Bd.lt
    have vdlt := Od.lt
    have zd5 := Xd5.size
    have z35 := E45.size
    have Fy : ∀ {w' : World}, Ext [hn] x6 w' → Ext [hx] q w' := fun F' => F06.cut F' (fun z hz => by simp only [List.mem_singleton] at hz; subst hz; exact .inr (by omega))
    have hxn : hx ∉ [hn] := by simp only [List.mem_singleton]; omega
    have hcn : hc ∉ [hn] := by simp only [List.mem_singleton]; omega
    have hnv : hn ∉ blk v := fun hm => by have := vdlt _ hm; omega
    have hpl : (x.p.map (noV ord)).length = x.p.length := by simp
    refine xLoop_n x.p.length (fun k => [i64 (k : Int)]) (fun k w' => Ext [hn] x6 w' ∧ ∃ vp, OwnIt w' vp ((x.p.map (noV ord)).take k) ∧ Blk w' hn 49 [vp, .slice ad x.d.length cd] ∧ ∀ z ∈ blk vp, x6.heap.size ≤ z) rfl ⟨Ext.refl _ _, .slice none 0 0, Own.nil, N60, fun z hz => absurd hz (nilb z)⟩ ?_ ?_
    · rintro k hk u x7 hu ⟨F7, vp, Op, Bp, Up⟩ nxt4 hn4
      simp only [List.map_cons, List.map_nil, List.cons.injEq, and_true] at hu
      rw [hu]
      obtain ⟨a1, c1', hv1, _⟩ := Op.slice
      subst hv1
      obtain ⟨bp, op, ep, _, cp⟩ := its_at (hxk.ext0 (fresh2 (Fy F7))).pr hk
      have hsu2 : (x.p.map (noV ord)).take (k + 1) = (x.p.map (noV ord)).take k ++ [noV ord x.p[k]] := by
        rw [List.take_add_one, List.getElem?_eq_getElem (by omega)]
        simp
      have hpg := hgx _ (List.getElem_mem hk)
      generalize x.p[k] = pk at *
      have kb := fun i => Bp.cell (i := i)
      have kc := fun i => (C6.ext F7 hcn).cell (i := i)
      have zbp := Bp.lt
      have Bt7 := Bt8.ext (Fy F7) nqt
      have kt : okNo ns.length pk → x7.cell? ⟨gt, (pk - 1).toNat, none⟩ = some (i64 (noV ord pk)) := fun hp => by rw [Bt7.cell, toK_get hp]
      have join : ∀ t : Int, t = noV ord pk → loamref17_Pick_j1 (PickR w ns rs ord) nxt4 (ptr hn) (i64 (k : Int)) (i64 t) x7 := by
        rintro t rfl
        unfold loamref17_Pick_j1
        simp (disch := (first | omega | decide | (simp only [rsD] <;> omega) | fail)) only [↓rsC, rsK, rsL, ↓rsPck1_0, tick_eq, tickV_eq, ne_eq, Int.reduceAdd, Int.reduceSub, Int.reduceMul, Int.reduceEq, Int.reduceLT, Int.reduceLE, Int.reduceToNat, Nat.reduceMul, Nat.reduceAdd, Nat.reduceSub, ←decide_not, k1, co, kd, tq, c1, c2, kb]
        refine appIt Op rfl (by simp; omega) fun v' x8 O8 T8 => ?_
        obtain ⟨F8', U8, n1, n2⟩ := grow F7 Up hn6 T8
        have B8 := Bp.ext T8.ext n1
        obtain ⟨a3, c3, hv3, _⟩ := O8.slice
        have k8 := fun i => B8.cell (i := i)
        have f8 := fun i => B8.frozen (i := i)
        rw [← hsu2] at O8 hv3
        subst hv3
        simp (disch := (first | omega | decide | (simp only [rsD] <;> omega) | fail)) only [↓rsC, rsK, rsL, ↓rsPck1_0, tick_eq, tickV_eq, ne_eq, Int.reduceAdd, Int.reduceSub, Int.reduceMul, Int.reduceEq, Int.reduceLT, Int.reduceLE, Int.reduceToNat, Nat.reduceMul, Nat.reduceAdd, Nat.reduceSub, ←decide_not, k1, co, kd, tq, c1, c2, kb, k8, f8]
        have B9 := B8.set (i := 0) (v := .slice a3 ((x.p.map (noV ord)).take (k + 1)).length c3)
        have O9 := O8.ext (Ext.set (w := x8) (b := hn) (o := 0) (v := .slice a3 ((x.p.map (noV ord)).take (k + 1)).length c3)) (fun z hz hm => by simp only [List.mem_singleton] at hm; subst hm; exact n2 hz)
        exact hn4 _ ⟨F8'.set' (.inl (by simp)), _, O9, B9, U8⟩
      unfold loamref17_Pick_l3
      rw [ep] at kc
      by_cases p0 : pk = 0
      · subst p0
        have e0 : noV ord 0 = 0 := by
          unfold noV
          rw [if_neg]
          intro hm
          have := (ho.ok _ hm).1
          omega
        simp (disch := (first | omega | decide | (simp only [rsD] <;> omega) | fail)) only [↓rsC, rsK, rsL, ↓rsPck1_0, tick_eq, tickV_eq, ne_eq, Int.reduceAdd, Int.reduceSub, Int.reduceMul, Int.reduceEq, Int.reduceLT, Int.reduceLE, Int.reduceToNat, Nat.reduceMul, Nat.reduceAdd, Nat.reduceSub, ←decide_not, k1, co, kd, tq, c1, c2, kc, cp]
        exact join 0 e0.symm
      · have hp : okNo ns.length pk := ⟨by omega, hpg.2⟩
        have kt := kt hp
        simp (disch := (first | omega | decide | (simp only [rsD] <;> omega) | fail)) only [↓rsC, rsK, rsL, ↓rsPck1_0, tick_eq, tickV_eq, ne_eq, Int.reduceAdd, Int.reduceSub, Int.reduceMul, Int.reduceEq, Int.reduceLT, Int.reduceLE, Int.reduceToNat, Nat.reduceMul, Nat.reduceAdd, Nat.reduceSub, ←decide_not, k1, co, kd, tq, c1, c2, kc, cp, kt]
        exact join _ rfl
    · rintro u x7 hu ⟨F7, vp, Op, Bp, Up⟩ nxt4
      simp only [List.map_cons, List.map_nil, List.cons.injEq, and_true] at hu
      rw [hu]
      have etk : (x.p.map (noV ord)).take x.p.length = x.p.map (noV ord) := by rw [← hpl, List.take_length]
      rw [etk] at Op
      obtain ⟨a1, c1', hv1, hc1', _, hn1, R1, _⟩ := Op.slice
      subst hv1
      obtain ⟨a0, c0', hv0, _⟩ := O.slice
      subst hv0
      have B7 := B6.ext F7 hxn
      have O7 := O6.ext F7 (fun z hz hm => by simp only [List.mem_singleton] at hm; subst hm; exact hnv hz)
      have kb := fun i => Bp.cell (i := i)
      have kc := fun i => (C6.ext F7 hcn).cell (i := i)
      have kx := fun i => B7.cell (i := i)
      unfold loamref17_Pick_l3
      simp (disch := (first | omega | decide | (simp only [rsD] <;> omega) | fail)) only [↓rsC, rsK, rsL, ↓rsPck1_0, tick_eq, tickV_eq, ne_eq, Int.reduceAdd, Int.reduceSub, Int.reduceMul, Int.reduceEq, Int.reduceLT, Int.reduceLE, Int.reduceToNat, Nat.reduceMul, Nat.reduceAdd, Nat.reduceSub, ←decide_not, k1, co, kd, tq, c1, c2, kb, kc, kx]
      have nad : ∀ b o, ad = some ⟨b, o, none⟩ → b ∉ [hn] := fun b o hb hm => by
        have := Udl b (by rw [hb]; simp [blk, Value.ownBlock])
        simp only [List.mem_singleton] at hm
        omega
      obtain ⟨X, hX⟩ : ∃ X : GN, X = ⟨x.p.map (noV ord), a1, c1', x.d, ad, cd⟩ := ⟨_, rfl⟩
      have hXb : bare X = ⟨x.p.map (noV ord), none, 0, x.d, none, 0⟩ := by rw [hX]; rfl
      have hXg : gnC X = [.slice a1 (x.p.map (noV ord)).length c1', .slice ad x.d.length cd] := by rw [hX]
      have NX : NOk x7 X := by
        rw [hX]
        exact ⟨R1, hc1', hn1, Rd6.ext F7 nad, hdl, hdn⟩
      have AX : Apt (hx :: blk (.slice a0 ns'.length c0')) X := by
        rw [hX]
        refine ⟨fun y hy _ hm => ?_, fun y hy _ hm => ?_⟩
        · have := Up y.block (by simp only at hy; rw [hy]; simp [blk, Value.ownBlock])
          rcases List.mem_cons.1 hm with e | e
          · omega
          · have := vdlt _ e; omega
        · have := Ud y.block (by simp only at hy; rw [hy]; simp [blk, Value.ownBlock])
          rcases List.mem_cons.1 hm with e | e
          · omega
          · have := vdlt _ e; omega
      have A7 : ∀ y ∈ ns', NOk x7 y ∧ Apt (hx :: blk (.slice a0 ns'.length c0')) y := fun y hy => ⟨((Ad y hy).1.ext0 Xd6).ext F7 ((Ad y hy).2.more (Ad y hy).1 (fun b hb => .inr (by simp only [List.mem_singleton] at hb; omega))), (Ad y hy).2⟩
      refine appN O7 (x := X) hXg.symm (by omega) fun v' x9 O9 T9 => ?_
      obtain ⟨F9, U9, n1, n2⟩ := grow (Fy F7) U hlt T9
      have A9 := fun {w6 : World} (F6 : Ext [hx] x9 w6) => nodes_app A7 NX AX T9 F6
      have B9 := B7.ext T9.ext n1
      obtain ⟨a3, c3, hv3, _⟩ := O9.slice
      have k9 := fun i => B9.cell (i := i)
      have f9 := fun i => B9.frozen (i := i)
      subst hv3
      simp (disch := (first | omega | decide | (simp only [rsD] <;> omega) | fail)) only [↓rsC, rsK, rsL, ↓rsPck1_0, tick_eq, tickV_eq, ne_eq, Int.reduceAdd, Int.reduceSub, Int.reduceMul, Int.reduceEq, Int.reduceLT, Int.reduceLE, Int.reduceToNat, Nat.reduceMul, Nat.reduceAdd, Nat.reduceSub, ←decide_not, k1, co, kd, tq, c1, c2, kb, kc, kx, k9, f9]
      have B10 := B9.set (i := 0) (v := .slice a3 (ns' ++ [X]).length c3)
      have O10 := O9.ext (Ext.set (w := x9) (b := hx) (o := 0) (v := .slice a3 (ns' ++ [X]).length c3)) (fun z hz hm => by simp only [List.mem_singleton] at hm; subst hm; exact n2 hz)
      exact hnx2 _ ⟨F9.set' (.inl (by simp)), _, ns' ++ [X], by rw [List.map_append, hns, hsu, List.map_singleton, hXb], O10, B10, U9, A9 Ext.set⟩
  rintro u x2 hu ⟨F2, v, ns', hns, O, B2q, U, A⟩ nxt2
  simp only [List.map_cons, List.map_nil, List.cons.injEq, and_true] at hu
  rw [hu]
  rw [List.take_length] at hns
  obtain ⟨rs', hrs⟩ : ∃ rs' : List GR, rs' = rs.map fun r => ⟨r.s, noV ord r.to⟩ := ⟨_, rfl⟩
  have hlr : rs'.length = rs.length := by rw [hrs]; simp
  unfold loamref17_Pick_l2
  simp (disch := (first | omega | decide | (simp only [rsD] <;> omega) | fail)) only [↓rsC, rsK, rsL, ↓rsPck1_0, tick_eq, tickV_eq, ne_eq, Int.reduceAdd, Int.reduceSub, Int.reduceMul, Int.reduceEq, Int.reduceLT, Int.reduceLE, Int.reduceToNat, Nat.reduceMul, Nat.reduceAdd, Nat.reduceSub, ←decide_not, k1]
  refine xLoop_n rs.length (fun j => [i64 (j : Int)]) (fun j w' => Ext [hx] q w' ∧ OwnN w' v ns' ∧ ∃ v2, OwnRt w' v2 (rs'.take j) ∧ Blk w' hx 32 [v, v2] ∧ (∀ z ∈ blk v2, q.heap.size ≤ z) ∧ (∀ z ∈ blk v2, z ∉ blk v) ∧ ∀ x ∈ ns', NOk w' x ∧ Apt (hx :: (blk v ++ blk v2)) x) rfl ⟨F2, O, .slice none 0 0, Own.nil, B2q, fun z hz => absurd hz (nilb z), fun z hz => absurd hz (nilb z), fun x hx' => ⟨(A x hx').1, by have := (A x hx').2; simpa [blk, Value.ownBlock] using this⟩⟩ ?_ ?_
  · rintro j hj u x1 hu ⟨F, O, v2, R, B, U2, D, A⟩ nxt3 hnx
    simp only [List.map_cons, List.map_nil, List.cons.injEq, and_true] at hu
    rw [hu]
    obtain ⟨a0, c0', hv0, _⟩ := R.slice
    subst hv0
    have hlenj : (rs'.take j).length = j := by rw [List.length_take]; omega
    obtain ⟨br, or', era, zbr, c1, c2⟩ := gr_at (h.rr.ext0 (fresh2 F)) hj
    have hsu : rs'.take (j + 1) = rs'.take j ++ [⟨rs[j].s, noV ord rs[j].to⟩] := by
      rw [List.take_add_one, List.getElem?_eq_getElem (by omega)]
      simp [hrs]
    have hrg := hgr _ (List.getElem_mem hj)
    generalize rs[j] = rr at *
    have kq := fun i => (B18.ext F nq1).cell (i := i)
    have zq1 := (B18.ext F nq1).lt
    have kb := fun i => B.cell (i := i)
    have zb := B.lt
    have Btx := Bt8.ext F nqt
    have ztx := Btx.lt
    have kt : okNo ns.length rr.to → x1.cell? ⟨gt, (rr.to - 1).toNat, none⟩ = some (i64 (noV ord rr.to)) := fun hp => by rw [Btx.cell, toK_get hp]
    have e0 : noV ord 0 = 0 := by
      unfold noV
      rw [if_neg]
      intro hm
      have := (ho.ok _ hm).1
      omega
    have E9 : Ext [] x1 (x1.alloc (.cells #[.string (strOf rr.s), i64 rr.to] 56)) := Ext.alloc _ _ _
    have Br : Blk (x1.alloc (.cells #[.string (strOf rr.s), i64 rr.to] 56)) x1.heap.size 56 [.string (strOf rr.s), i64 rr.to] := Blk.at rfl
    have F04 := F.trans (E9.more (by simp))
    have B4 := B.ext E9 (by simp)
    have R4' := R.ext0 E9
    have O4 := O.ext0 E9
    have kr := fun i => Br.cell (i := i)
    have k4 := fun i => B4.cell (i := i)
    have join : ∀ t : Int, t = noV ord rr.to → loamref17_Pick_j2 (PickR w ns rs ord) nxt3 (ptr hx) (i64 (j : Int)) (ptr x1.heap.size) (i64 t) (x1.alloc (.cells #[.string (strOf rr.s), i64 rr.to] 56)) := by
      rintro t rfl
      have hA : ∀ p ∈ ns', NOk (x1.alloc (.cells #[.string (strOf rr.s), i64 rr.to] 56)) p ∧ Apt (hx :: (blk v ++ blk (.slice a0 (rs'.take j).length c0'))) p := fun p hp => ⟨(A p hp).1.ext0 E9, (A p hp).2⟩
      generalize x1.alloc (.cells #[.string (strOf rr.s), i64 rr.to] 56) = x4 at *
      unfold loamref17_Pick_j2
      simp (disch := (first | omega | decide | (simp only [rsD] <;> omega) | fail)) only [↓rsC, rsK, rsL, ↓rsPck1_0, tick_eq, tickV_eq, ne_eq, Int.reduceAdd, Int.reduceSub, Int.reduceMul, Int.reduceEq, Int.reduceLT, Int.reduceLE, Int.reduceToNat, Nat.reduceMul, Nat.reduceAdd, Nat.reduceSub, ←decide_not, k1, k4, kr]
      refine appR R4' (x := ⟨rr.s, noV ord rr.to⟩) rfl (by omega) fun v' x5 R5 T5 => ?_
      obtain ⟨F5, U5, n1, n2⟩ := grow F04 U2 hlt T5
      have B5 := B4.ext T5.ext n1
      have O5 := O4.ext T5.ext (fun z hz hm => D z hm hz)
      obtain ⟨a3, c3, hv3, _⟩ := R5.slice
      have k5 := fun i => B5.cell (i := i)
      have f5 := fun i => B5.frozen (i := i)
      rw [← hsu] at R5 hv3
      subst hv3
      simp (disch := (first | omega | decide | (simp only [rsD] <;> omega) | fail)) only [↓rsC, rsK, rsL, ↓rsPck1_0, tick_eq, tickV_eq, ne_eq, Int.reduceAdd, Int.reduceSub, Int.reduceMul, Int.reduceEq, Int.reduceLT, Int.reduceLE, Int.reduceToNat, Nat.reduceMul, Nat.reduceAdd, Nat.reduceSub, ←decide_not, k1, k4, kr, k5, f5]
      have B6 := B5.set (i := 1) (v := .slice a3 (rs'.take (j + 1)).length c3)
      have hxv : hx ∉ blk v := fun hm => by have := U _ hm; omega
      have D5 : ∀ z ∈ blk (.slice a3 (rs'.take (j + 1)).length c3), z ∉ blk v := fun z hz hm => by
        rcases T5.at' z hz with h1 | h1
        · exact D z h1 hm
        · have := O4.lt z hm
          omega
      have R6 := R5.ext (Ext.set (w := x5) (b := hx) (o := 1) (v := .slice a3 (rs'.take (j + 1)).length c3)) (fun z hz hm => by simp only [List.mem_singleton] at hm; subst hm; exact n2 hz)
      have O6 := O5.ext (Ext.set (w := x5) (b := hx) (o := 1) (v := .slice a3 (rs'.take (j + 1)).length c3)) (fun z hz hm => by simp only [List.mem_singleton] at hm; subst hm; exact hxv hz)
      refine hnx _ ⟨F5.set' (.inl (by simp)), O6, _, R6, B6, U5, D5, fun q' hq => ?_⟩
      have hA := hA q' hq
      have hA2 := hA.1.ext (T5.ext.more (fun z hz => List.mem_cons_of_mem hx (List.mem_append_right _ hz))) hA.2
      have hA3 : Apt (hx :: (blk v ++ blk (.slice a3 (rs'.take (j + 1)).length c3))) q' := hA.2.more hA.1 fun b hb => by
        rcases List.mem_cons.1 hb with e | e
        · exact .inl (by rw [e]; exact List.mem_cons_self ..)
        · rcases List.mem_append.1 e with e | e
          · exact .inl (List.mem_cons_of_mem _ (List.mem_append_left _ e))
          · exact (T5.at' b e).imp (fun h => List.mem_cons_of_mem _ (List.mem_append_right _ h)) id
      exact ⟨hA2.ext (Ext.set.more (by simp)) hA3, hA3⟩
    unfold loamref17_Pick_l4
    rw [era] at kq
    by_cases p0 : rr.to = 0
    · simp (disch := (first | omega | decide | (simp only [rsD] <;> omega) | fail)) only [↓rsC, rsK, rsL, ↓rsPck1_0, tick_eq, tickV_eq, ne_eq, Int.reduceAdd, Int.reduceSub, Int.reduceMul, Int.reduceEq, Int.reduceLT, Int.reduceLE, Int.reduceToNat, Nat.reduceMul, Nat.reduceAdd, Nat.reduceSub, ←decide_not, k1, kq, c1, c2]
      exact join 0 (by rw [p0, e0])
    · have hp : okNo ns.length rr.to := ⟨by omega, hrg.2⟩
      have kt := kt hp
      simp (disch := (first | omega | decide | (simp only [rsD] <;> omega) | fail)) only [↓rsC, rsK, rsL, ↓rsPck1_0, tick_eq, tickV_eq, ne_eq, Int.reduceAdd, Int.reduceSub, Int.reduceMul, Int.reduceEq, Int.reduceLT, Int.reduceLE, Int.reduceToNat, Nat.reduceMul, Nat.reduceAdd, Nat.reduceSub, ←decide_not, k1, kq, c1, c2, kt]
      exact join _ rfl
  rintro u x1 hu ⟨F, O, v2, R, B, U2, D, A⟩ nxt3
  simp only [List.map_cons, List.map_nil, List.cons.injEq, and_true] at hu
  rw [hu]
  have etk : rs'.take rs.length = rs' := List.take_of_length_le (by omega)
  rw [etk] at R
  obtain ⟨na', nc', hvn, hnc, _, hnn, Rn, _⟩ := O.slice
  obtain ⟨ra', rc', hvr, hrc, _, hrn, Rr, _⟩ := R.slice
  subst hvn hvr
  have kq := fun i => (B18.ext F nq1).cell (i := i)
  have k3 := fun i => B.cell (i := i)
  have B4w := B48.ext F nq4
  have k4 := fun i => B4w.cell (i := i)
  have f4 := fun i => B4w.frozen (i := i)
  unfold loamref17_Pick_l4
  simp (disch := (first | omega | decide | (simp only [rsD] <;> omega) | fail)) only [↓rsC, rsK, rsL, ↓rsPck1_0, tick_eq, tickV_eq, ne_eq, Int.reduceAdd, Int.reduceSub, Int.reduceMul, Int.reduceEq, Int.reduceLT, Int.reduceLE, Int.reduceToNat, Nat.reduceMul, Nat.reduceAdd, Nat.reduceSub, ←decide_not, k1, kq, k3, k4, f4]
  have FE : Ext [g4] x1 ((x1.setCell ⟨g4, 0, none⟩ (.slice na' ns'.length nc')).setCell ⟨g4, 1, none⟩ (.slice ra' rs'.length rc')) := ((Ext.refl _ _).set' (.inl (by simp))).set' (.inl (by simp))
  have Fw := fresh2 F
  have zw4 : w.heap.size ≤ g4 := by omega
  have nna : ∀ b o, na' = some ⟨b, o, none⟩ → b ∉ [g4] := fun b o hb hm => by
    have := U b (by rw [hb]; simp [blk, Value.ownBlock])
    simp only [List.mem_cons, List.not_mem_nil, or_false] at hm
    omega
  have nra : ∀ b o, ra' = some ⟨b, o, none⟩ → b ∉ [g4] := fun b o hb hm => by
    have := U2 b (by rw [hb]; simp [blk, Value.ownBlock])
    simp only [List.mem_cons, List.not_mem_nil, or_false] at hm
    omega
  unfold PickR
  rw [← hrs]
  refine ⟨(Fw.set' (.inr zw4)).set' (.inr zw4), na', nc', ra', rc', ns', _, hns, rfl, ⟨Rn.ext FE nna, hnc, hnn, Rr.ext FE nra, hrc, hrn, fun p hp => ?_⟩, fun z hz => by have := U z.block (by rw [hz]; simp [blk, Value.ownBlock]); omega, fun z hz => by have := U2 z.block (by rw [hz]; simp [blk, Value.ownBlock]); omega, gt, by omega, rfl, ?_⟩
  · have hA := A p hp
    have hA2 := hA.2.cons hA.1 B4w (by simp)
    exact hA.1.ext (FE.more (by simp)) hA2
  · exact ((Bt8.ext F nqt).ext FE (by simp only [List.mem_singleton]; omega)).row
end Go.Proofs.YthhcmoknppljpaaDoor
end
section
set_option linter.unusedVariables false
set_option linter.unusedSimpArgs false
set_option maxHeartbeats 4000000
namespace Go.Proofs.YthhcmoknppljpaaDoor
open Go.Sh Go.RowKit

def RCanR (w : World) (ns : List GN) (rs : List GR) (u : Value) (w' : World) : Prop := Ext [] w w' ∧ ∃ na' nc' ra' rc' ns', ns'.map bare = canNs ns rs ∧ u = gV na' nc' ra' rc' ns' (canRs ns rs) ∧ GIs w' na' nc' ra' rc' ns' (canRs ns rs)
abbrev rsRtr1_0 := (And.intro @ld_32 (And.intro @lr_32 @st_32))
theorem rcan_tail {w y : World} {g2 g3 : Nat} {ns ns' : List GN} {rs : List GR} {na' ra' : Option Addr} {nc' rc' : Nat} (F : Ext [] w y) (B2 : Blk y g2 32 [.slice none 0 0, .slice none 0 0]) (B3 : Blk y g3 32 [.slice na' ns'.length nc', .slice ra' (canRs ns rs).length rc']) (hw : w.heap.size ≤ g2) (hb : ns'.map bare = canNs ns rs) (G : GIs y na' nc' ra' rc' ns' (canRs ns rs)) (hn : ∀ z, na' = some z → z.block ≠ g2) (hr : ∀ z, ra' = some z → z.block ≠ g2) (hne : g2 ≠ g3) :
    loamref17_Canon_j1 (RCanR w ns rs) (ptr g2) (ptr g3) y := by
  have k3 := fun i => B3.cell (i := i)
  have k2 := fun i => B2.cell (i := i)
  have f2 := fun i => B2.frozen (i := i)
  unfold loamref17_Canon_j1
  simp (disch := (first | omega | decide | (simp only [rsD] <;> omega) | fail)) only [↓rsC, rsK, rsL, ↓rsRtr1_0, tick_eq, tickV_eq, ne_eq, Int.reduceAdd, Int.reduceSub, Int.reduceMul, Int.reduceEq, Int.reduceLT, Int.reduceLE, Int.reduceToNat, Nat.reduceMul, Nat.reduceAdd, Nat.reduceSub, ←decide_not, k3, k2, f2]
  exact ⟨(F.set' (.inr hw)).set' (.inr hw), na', nc', ra', rc', ns', hb, rfl, G.away B2 (by simp) hn hr (((Ext.refl _ _).set' (.inl (by simp))).set' (.inl (by simp)))⟩
abbrev rsRtr1_1 := (And.intro @ld_32 (And.intro @al_32 @st_32))
theorem RCanon_spec {w : World} {na ra : Option Addr} {nc rc : Nat} {ns : List GN} {rs : List GR} (h : GIs w na nc ra rc ns rs) (hf : FewH ns rs) (hg : GoodG ns rs) :
    Yld Tryd.prog n_loamref17_Canon #[gV na nc ra rc ns rs] w (RCanR w ns rs) := by
  have hfn := hf.n
  have hfr := hf.r
  have hgx := fun x hx => (hg.x x hx).1
  have hgr := fun r hr => (hg.s r hr).2
  refine loamref17_Canon_of ?_
  unfold loamref17_Canon
  have gbox : ∀ (y : World) (K : K1), xBox Tryd.prog 32 (gV na nc ra rc ns rs) y K = K (ptr y.heap.size) (y.alloc (.cells #[.slice na ns.length nc, .slice ra rs.length rc] 32)) := fun y K => xBox_r
  have al : ∀ (y : World) (K : K1), xAlloc Tryd.prog 32 y K = K (ptr y.heap.size) (y.alloc (.cells #[.slice none 0 0, .slice none 0 0] 32)) := fun y K => xAlloc_r (by kernel_rfl)
  rw [gbox, al]
  have B1 : Blk (w.alloc (.cells #[.slice na ns.length nc, .slice ra rs.length rc] 32)) w.heap.size 32 [.slice na ns.length nc, .slice ra rs.length rc] := Blk.at rfl
  have X1 : Ext [] w (w.alloc (.cells #[.slice na ns.length nc, .slice ra rs.length rc] 32)) := Ext.alloc _ _ _
  generalize w.alloc (.cells #[.slice na ns.length nc, .slice ra rs.length rc] 32) = y1 at *
  obtain ⟨g1, hg1⟩ : ∃ g, g = w.heap.size := ⟨_, rfl⟩
  rw [← hg1] at B1 ⊢
  have g1lt := B1.lt
  have B20 : Blk (y1.alloc (.cells #[.slice none 0 0, .slice none 0 0] 32)) y1.heap.size 32 [.slice none 0 0, .slice none 0 0] := Blk.at rfl
  have X2 : Ext [] y1 (y1.alloc (.cells #[.slice none 0 0, .slice none 0 0] 32)) := Ext.alloc _ _ _
  have B12 := B1.ext X2 (by simp)
  have zw := X1.size
  generalize y1.alloc (.cells #[.slice none 0 0, .slice none 0 0] 32) = y2 at *
  obtain ⟨g2, hg2⟩ : ∃ g, g = y1.heap.size := ⟨_, rfl⟩
  rw [← hg2] at B20 ⊢
  have hw2 : w.heap.size ≤ g2 := by omega
  have Xd := (X1.trans X2).trans (Ext.drew [] y2)
  have B1d := B12.ext (Ext.drew [] y2) (by simp)
  have B2d := B20.ext (Ext.drew [] y2) (by simp)
  generalize y2.drew = y at *
  have hN : ∀ {z : World}, Ext [] y z → Yld Tryd.prog n_loamref17_Named #[gV na nc ra rc ns rs] z fun u w' => NewIt z w' u (tosL rs) := fun E => RNamed_spec (h.ext0 (Xd.trans E)) hfr
  have hW : ∀ {z : World} {a : Option Addr} {c : Nat}, Ext [] y z → RowAt z a (its (tosL rs)) → Yld Tryd.prog n_loamref17_Walk #[gV na nc ra rc ns rs, .slice a (tosL rs).length c] z fun u w' => NewIt z w' u (ordV ns (tosL rs)) := fun E hr => RWalk_spec (h.ext0 (Xd.trans E)) hf hgx hr (by simp; omega)
  have hP : ∀ {z : World} {a : Option Addr} {c : Nat}, Ext [] y z → RowAt z a (its (ordV ns (tosL rs))) → Yld Tryd.prog n_loamref17_Pick #[gV na nc ra rc ns rs, .slice a (ordV ns (tosL rs)).length c] z fun u w' => Ext [] z w' ∧ ∃ na' nc' ra' rc' ns' v, ns'.map bare = canNs ns rs ∧ u = .tuple #[gV na' nc' ra' rc' ns' (canRs ns rs), v] ∧ GIs w' na' nc' ra' rc' ns' (canRs ns rs) ∧ (∀ x, na' = some x → z.heap.size ≤ x.block) ∧ ∀ x, ra' = some x → z.heap.size ≤ x.block := fun E hr => Yld.mono (RPick_spec (h.ext0 (Xd.trans E)) hf hgx hgr (ord_ok ns (tosL rs)) hr) (by
    rintro u w' ⟨h1, na', nc', ra', rc', ns', v, h2, h3, h4, h5, h6, _⟩
    exact ⟨h1, na', nc', ra', rc', ns', v, h2, h3, h4, h5, h6⟩)
  have gn : ∀ {z : World} {u : Value} {l : List Int}, NewIt y z u l → ∃ a c, u = .slice a l.length c ∧ RowAt z a (its l) := fun N => (by
    obtain ⟨a, c, h1, _, _, _, h2, _⟩ := N.2.1.slice
    exact ⟨a, c, h1, h2⟩)
  have g2lt := B2d.lt
  have g12 : g1 < y.heap.size := B1d.lt
  have kd := fun i => B1d.cell (i := i)
  simp (disch := (first | omega | decide | (simp only [rsD] <;> omega) | fail)) only [↓rsC, rsK, rsL, ↓rsRtr1_1, tick_eq, tickV_eq, ne_eq, Int.reduceAdd, Int.reduceSub, Int.reduceMul, Int.reduceEq, Int.reduceLT, Int.reduceLE, Int.reduceToNat, Nat.reduceMul, Nat.reduceAdd, Nat.reduceSub, ←decide_not, kd]
  -- the box of the result stands ahead of the walk over z
  have mk : ∀ {z : World}, Ext [] y z → Ext [] y (z.alloc (.cells #[.slice none 0 0, .slice none 0 0] 32)) ∧ Ext [] z (z.alloc (.cells #[.slice none 0 0, .slice none 0 0] 32)) ∧ y.heap.size ≤ z.heap.size ∧ Blk (z.alloc (.cells #[.slice none 0 0, .slice none 0 0] 32)) z.heap.size 32 [.slice none 0 0, .slice none 0 0] := fun {z} E => ⟨E.trans (Ext.alloc _ _ _), Ext.alloc _ _ _, E.size, Blk.at rfl⟩
  have fin : ∀ {z z' : World} {g3 : Nat} {na' ra' : Option Addr} {nc' rc' : Nat} {ns' : List GN}, Ext [] y z → Ext [] z z' → Blk z g3 32 [.slice none 0 0, .slice none 0 0] → y.heap.size ≤ g3 → ns'.map bare = canNs ns rs → GIs z' na' nc' ra' rc' ns' (canRs ns rs) → (∀ x, na' = some x → z.heap.size ≤ x.block) → (∀ x, ra' = some x → z.heap.size ≤ x.block) → loamref17_Canon_j1 (RCanR w ns rs) (ptr g2) (ptr g3) ((z'.setCell ⟨g3, 0, none⟩ (.slice na' ns'.length nc')).setCell ⟨g3, 1, none⟩ (.slice ra' (canRs ns rs).length rc')) := by
    intro z z' g3 na' ra' nc' rc' ns' E E' B3 h3 hb G hn hr
    have B3' := B3.ext E' (by simp)
    have g3z := B3.lt
    have zy := E.size
    have FE : Ext [g3] z' ((z'.setCell ⟨g3, 0, none⟩ (.slice na' ns'.length nc')).setCell ⟨g3, 1, none⟩ (.slice ra' (canRs ns rs).length rc')) := ((Ext.refl _ _).set' (.inl (by simp))).set' (.inl (by simp))
    have FE2 : Ext [] y ((z'.setCell ⟨g3, 0, none⟩ (.slice na' ns'.length nc')).setCell ⟨g3, 1, none⟩ (.slice ra' (canRs ns rs).length rc')) := ((E.trans E').set' (.inr h3)).set' (.inr h3)
    refine rcan_tail (Xd.trans FE2) (B2d.ext FE2 (by simp)) ((B3'.set (i := 0)).set (i := 1)) hw2 hb (G.away B3' (by simp) (fun x hx => by have := hn x hx; omega) (fun x hx => by have := hr x hx; omega) FE) (fun x hx => by have := hn x hx; omega) (fun x hx => by have := hr x hx; omega) (by omega)
  refine xAlt_i ?_ ?_
  · refine loamref17_Named_call (Yld.mono (hN (Ext.refl _ _)) ?_)
    rintro u y3 N3
    have E3 := N3.1
    obtain ⟨a3, c3, rfl, R3⟩ := gn N3
    have k3 := fun i => (B1d.ext E3 (by simp)).cell (i := i)
    have g1y3 := (B1d.ext E3 (by simp)).lt
    simp (disch := (first | omega | decide | (simp only [rsD] <;> omega) | fail)) only [↓rsC, rsK, rsL, ↓rsRtr1_1, tick_eq, tickV_eq, ne_eq, Int.reduceAdd, Int.reduceSub, Int.reduceMul, Int.reduceEq, Int.reduceLT, Int.reduceLE, Int.reduceToNat, Nat.reduceMul, Nat.reduceAdd, Nat.reduceSub, ←decide_not, kd, k3]
    refine xAlt_i ?_ ?_
    · refine loamref17_Walk_call (Yld.mono (hW E3 R3) ?_)
      rintro u y4 N4
      have E4 := E3.trans N4.1
      obtain ⟨a4, c4, rfl, R4⟩ := gn (NewR.pre E3 N4)
      have k4 := fun i => (B1d.ext E4 (by simp)).cell (i := i)
      have g1y4 := (B1d.ext E4 (by simp)).lt
      simp (disch := (first | omega | decide | (simp only [rsD] <;> omega) | fail)) only [↓rsC, rsK, rsL, ↓rsRtr1_1, tick_eq, tickV_eq, ne_eq, Int.reduceAdd, Int.reduceSub, Int.reduceMul, Int.reduceEq, Int.reduceLT, Int.reduceLE, Int.reduceToNat, Nat.reduceMul, Nat.reduceAdd, Nat.reduceSub, ←decide_not, kd, k3, k4]
      refine xAlt_i ?_ ?_
      · refine loamref17_Pick_call (Yld.mono (hP E4 R4) ?_)
        rintro u y5 ⟨F5, na', nc', ra', rc', ns', v, hb, rfl, G5, hn5, hr5⟩
        have E5 := E4.trans F5
        simp (disch := (first | omega | decide | (simp only [rsD] <;> omega) | fail)) only [↓rsC, rsK, rsL, ↓rsRtr1_1, tick_eq, tickV_eq, ne_eq, Int.reduceAdd, Int.reduceSub, Int.reduceMul, Int.reduceEq, Int.reduceLT, Int.reduceLE, Int.reduceToNat, Nat.reduceMul, Nat.reduceAdd, Nat.reduceSub, ←decide_not, kd, k3, k4]
        have zy := E4.size
        have zy5 := E5.size
        refine rcan_tail (Xd.trans (E5.trans (Ext.alloc _ _ _))) ((B2d.ext E5 (by simp)).ext (Ext.alloc [] _ _) (by simp)) (Blk.at rfl) hw2 hb (G5.ext0 (Ext.alloc _ _ _)) (fun x hx => by have := hn5 x hx; omega) (fun x hx => by have := hr5 x hx; omega) (by omega)
      · obtain ⟨Ez, Ezz, g3y, B3⟩ := mk E4
        generalize y4.alloc (.cells #[.slice none 0 0, .slice none 0 0] 32) = z at *
        refine loamref17_Pick_call (Yld.mono (hP Ez (R4.ext0 Ezz)) ?_)
        rintro u y5 ⟨F5, na', nc', ra', rc', ns', v, hb, rfl, G5, hn5, hr5⟩
        have k6 := fun i => (B3.ext F5 (by simp)).cell (i := i)
        have f6 := fun i => (B3.ext F5 (by simp)).frozen (i := i)
        simp (disch := (first | omega | decide | (simp only [rsD] <;> omega) | fail)) only [↓rsC, rsK, rsL, ↓rsRtr1_1, tick_eq, tickV_eq, ne_eq, Int.reduceAdd, Int.reduceSub, Int.reduceMul, Int.reduceEq, Int.reduceLT, Int.reduceLE, Int.reduceToNat, Nat.reduceMul, Nat.reduceAdd, Nat.reduceSub, ←decide_not, kd, k3, k4, k6, f6]
        exact fin Ez F5 B3 g3y hb G5 hn5 hr5
    · obtain ⟨Ez, Ezz, g3y, B3⟩ := mk E3
      generalize y3.alloc (.cells #[.slice none 0 0, .slice none 0 0] 32) = z at *
      refine loamref17_Walk_call (Yld.mono (hW Ez (R3.ext0 Ezz)) ?_)
      rintro u y4 N4
      have E4 := Ez.trans N4.1
      obtain ⟨a4, c4, rfl, R4⟩ := gn (NewR.pre Ez N4)
      have k4 := fun i => (B1d.ext E4 (by simp)).cell (i := i)
      simp (disch := (first | omega | decide | (simp only [rsD] <;> omega) | fail)) only [↓rsC, rsK, rsL, ↓rsRtr1_1, tick_eq, tickV_eq, ne_eq, Int.reduceAdd, Int.reduceSub, Int.reduceMul, Int.reduceEq, Int.reduceLT, Int.reduceLE, Int.reduceToNat, Nat.reduceMul, Nat.reduceAdd, Nat.reduceSub, ←decide_not, kd, k3, k4]
      refine loamref17_Pick_call (Yld.mono (hP E4 R4) ?_)
      rintro u y5 ⟨F5, na', nc', ra', rc', ns', v, hb, rfl, G5, hn5, hr5⟩
      have B34 := B3.ext N4.1 (by simp)
      have k6 := fun i => (B34.ext F5 (by simp)).cell (i := i)
      have f6 := fun i => (B34.ext F5 (by simp)).frozen (i := i)
      simp (disch := (first | omega | decide | (simp only [rsD] <;> omega) | fail)) only [↓rsC, rsK, rsL, ↓rsRtr1_1, tick_eq, tickV_eq, ne_eq, Int.reduceAdd, Int.reduceSub, Int.reduceMul, Int.reduceEq, Int.reduceLT, Int.reduceLE, Int.reduceToNat, Nat.reduceMul, Nat.reduceAdd, Nat.reduceSub, ←decide_not, kd, k3, k4, k6, f6]
      exact fin E4 F5 B34 g3y hb G5 hn5 hr5
  · obtain ⟨Ez, Ezz, g3y, B3⟩ := mk (Ext.refl [] y)
    generalize y.alloc (.cells #[.slice none 0 0, .slice none 0 0] 32) = z at *
    refine loamref17_Named_call (Yld.mono (hN Ez) ?_)
    rintro u y3 N3
    have E3 := Ez.trans N3.1
    obtain ⟨a3, c3, rfl, R3⟩ := gn (NewR.pre Ez N3)
    have k3 := fun i => (B1d.ext E3 (by simp)).cell (i := i)
    simp (disch := (first | omega | decide | (simp only [rsD] <;> omega) | fail)) only [↓rsC, rsK, rsL, ↓rsRtr1_1, tick_eq, tickV_eq, ne_eq, Int.reduceAdd, Int.reduceSub, Int.reduceMul, Int.reduceEq, Int.reduceLT, Int.reduceLE, Int.reduceToNat, Nat.reduceMul, Nat.reduceAdd, Nat.reduceSub, ←decide_not, kd, k3]
    refine loamref17_Walk_call (Yld.mono (hW E3 R3) ?_)
    rintro u y4 N4
    have E4 := E3.trans N4.1
    obtain ⟨a4, c4, rfl, R4⟩ := gn (NewR.pre E3 N4)
    have k4 := fun i => (B1d.ext E4 (by simp)).cell (i := i)
    simp (disch := (first | omega | decide | (simp only [rsD] <;> omega) | fail)) only [↓rsC, rsK, rsL, ↓rsRtr1_1, tick_eq, tickV_eq, ne_eq, Int.reduceAdd, Int.reduceSub, Int.reduceMul, Int.reduceEq, Int.reduceLT, Int.reduceLE, Int.reduceToNat, Nat.reduceMul, Nat.reduceAdd, Nat.reduceSub, ←decide_not, kd, k3, k4]
    refine loamref17_Pick_call (Yld.mono (hP E4 R4) ?_)
    rintro u y5 ⟨F5, na', nc', ra', rc', ns', v, hb, rfl, G5, hn5, hr5⟩
    have B34 := B3.ext (N3.1.trans N4.1) (by simp)
    have k6 := fun i => (B34.ext F5 (by simp)).cell (i := i)
    have f6 := fun i => (B34.ext F5 (by simp)).frozen (i := i)
    simp (disch := (first | omega | decide | (simp only [rsD] <;> omega) | fail)) only [↓rsC, rsK, rsL, ↓rsRtr1_1, tick_eq, tickV_eq, ne_eq, Int.reduceAdd, Int.reduceSub, Int.reduceMul, Int.reduceEq, Int.reduceLT, Int.reduceLE, Int.reduceToNat, Nat.reduceMul, Nat.reduceAdd, Nat.reduceSub, ←decide_not, kd, k3, k4, k6, f6]
    exact fin E4 F5 B34 g3y hb G5 hn5 hr5
end Go.Proofs.YthhcmoknppljpaaDoor
end
section
set_option linter.unusedVariables false
set_option linter.unusedSimpArgs false
set_option maxHeartbeats 4000000
namespace Go.Proofs.YthhcmoknppljpaaDoor
open Go.Sh Go.RowKit

abbrev rsRTx_0 := (And.intro @xu8_add (And.intro @xu8_lss (And.intro @xu8_gtr (And.intro @xu16_add (And.intro @xu16_lss (And.intro @xu16_gtr (And.intro @xu32_add (And.intro @xu32_lss (And.intro @xu32_gtr (And.intro @xu64_add (And.intro @xu64_lss (And.intro @xu64_gtr (And.intro @xi64_lss (And.intro @xi64_gtr (And.intro @ld_3 (And.intro @ld_9 
  (And.intro @ld_29 (And.intro @ld_30 (And.intro @ld_32 (And.intro @ld_40 (And.intro @ld_45 (And.intro @fa_32_0 (And.intro @fa_32_1 (And.intro @fa_49_0 (And.intro @fa_49_1 (And.intro @fa_56_0 (And.intro @fa_56_1 (And.intro @al_32 (And.intro @st_32 (And.intro @ia_29 (And.intro @ia_30 (And.intro @ia_40 (And.intro @ln_29 (And.intro @ln_30 (And.intro @ln_40 @ln_45)))))))))))))))))))))))))))))))))))
theorem RText_spec {w : World} {na ra : Option Addr} {nc rc : Nat} {ns : List GN} {rs : List GR} (h : GIs w na nc ra rc ns rs) (hf : FewH ns rs) (hg : GoodG ns rs) (ht : TxS (canNs ns rs) (canRs ns rs)) :
    Yld Tryd.prog n_loamref17_Text #[gV na nc ra rc ns rs] w fun u w' => u = .string (strOf (txtB (canNs ns rs) (canRs ns rs))) ∧ Ext [] w w' := by
  refine loamref17_Text_of ?_
  unfold loamref17_Text
  have gbox : ∀ (y : World) (K : K1), xBox Tryd.prog 32 (gV na nc ra rc ns rs) y K = K (ptr y.heap.size) (y.alloc (.cells #[.slice na ns.length nc, .slice ra rs.length rc] 32)) := fun y K => xBox_r
  rw [gbox]
  have B1 : Blk (w.alloc (.cells #[.slice na ns.length nc, .slice ra rs.length rc] 32)) w.heap.size 32 [.slice na ns.length nc, .slice ra rs.length rc] := Blk.at rfl
  have X1 : Ext [] w (w.alloc (.cells #[.slice na ns.length nc, .slice ra rs.length rc] 32)) := Ext.alloc _ _ _
  have G := h.ext0 X1
  generalize w.alloc (.cells #[.slice na ns.length nc, .slice ra rs.length rc] 32) = y1 at *
  generalize w.heap.size = g1 at *
  have k1 := fun i => B1.cell (i := i)
  simp (disch := (first | omega | decide | (simp only [rsD] <;> omega) | fail)) only [↓rsC, rsK, rsL, ↓rsRTx_0, tick_eq, tickV_eq, ne_eq, Int.reduceAdd, Int.reduceSub, Int.reduceMul, Int.reduceEq, Int.reduceLT, Int.reduceLE, Int.reduceToNat, Nat.reduceMul, Nat.reduceAdd, Nat.reduceSub, ←decide_not, k1]
  refine loamref17_Canon_call (Yld.mono (RCanon_spec G hf hg) ?_)
  rintro u y2 ⟨F2, na', nc', ra', rc', ns', hns, rfl, G2⟩
  have htb := txt_bare ns' (canRs ns rs)
  rw [hns] at htb
  rw [htb]
  have ht' : TxS ns' (canRs ns rs) := by
    refine ⟨by have := ht.n; rw [← hns] at this; simpa using this, ht.r, ht.s, fun x hx => ?_⟩
    exact ht.x (bare x) (by rw [← hns]; exact List.mem_map.2 ⟨x, hx, rfl⟩)
  generalize canRs ns rs = rs' at *
  simp (disch := (first | omega | decide | (simp only [rsD] <;> omega) | fail)) only [↓rsC, rsK, rsL, ↓rsRTx_0, tick_eq, tickV_eq, ne_eq, Int.reduceAdd, Int.reduceSub, Int.reduceMul, Int.reduceEq, Int.reduceLT, Int.reduceLE, Int.reduceToNat, Nat.reduceMul, Nat.reduceAdd, Nat.reduceSub, ←decide_not, k1]
  have B3 : Blk (y2.alloc (.cells #[.slice na' ns'.length nc', .slice ra' rs'.length rc'] 32)) y2.heap.size 32 [.slice na' ns'.length nc', .slice ra' rs'.length rc'] := Blk.at rfl
  have X3 : Ext [] y2 (y2.alloc (.cells #[.slice na' ns'.length nc', .slice ra' rs'.length rc'] 32)) := Ext.alloc _ _ _
  have G3 := G2.ext0 X3
  have Fw := X1.trans (F2.trans X3)
  generalize y2.alloc (.cells #[.slice na' ns'.length nc', .slice ra' rs'.length rc'] 32) = y3 at *
  generalize y2.heap.size = g3 at *
  have hrl := ht'.r
  have hnl := ht'.n
  have c0 : ({ data := #[] } : ByteArray) = strOf [] := by decide +kernel
  have cA : ({ data := #[32, 45, 62, 32] } : ByteArray) = strOf [32#8, 45#8, 62#8, 32#8] := by decide +kernel
  have cB : ({ data := #[10] } : ByteArray) = strOf [10#8] := by decide +kernel
  have cC : ({ data := #[58] } : ByteArray) = strOf [58#8] := by decide +kernel
  have cS : ({ data := #[32] } : ByteArray) = strOf [32#8] := by decide +kernel
  have cX : ({ data := #[32, 120] } : ByteArray) = strOf [32#8, 120#8] := by decide +kernel
  rw [c0]
  refine xLoop_r rs'.length (fun j vs w' => vs = [.string (strOf (rootsB (rs'.take j))), i64 (j : Int)] ∧ Ext [] y3 w') ⟨rfl, Ext.refl _ _⟩ ?_ ?_
  · rintro j hj u x1 ⟨hu, F⟩ nxt hnx
    simp only [List.map_cons, List.map_nil, List.cons.injEq, and_true] at hu
    rw [hu.1, hu.2]
    have Fd := F.trans (Ext.drew [] x1)
    obtain ⟨br, or', era, zbr, c1, c2⟩ := gr_at (G3.rr.ext0 Fd) hj
    have k3 := fun i => (B3.ext F (by simp)).cell (i := i)
    have k3d := fun i => (B3.ext Fd (by simp)).cell (i := i)
    have hsu := rootsB_succ hj
    have hs := ht'.s _ (List.getElem_mem hj)
    have hpre := rootsB_len ht' j
    have hrb := rootB_len hs
    generalize rs'[j] = r at *
    have hrB : rootB r = r.s ++ [32#8, 45#8, 62#8, 32#8] ++ dB r.to.toNat ++ [10#8] := rfl
    obtain ⟨q, hq⟩ : ∃ q : Nat, q = r.to.toNat := ⟨_, rfl⟩
    have hq2 : r.to = (q : Int) := by omega
    rw [← hq] at hrB
    rw [hq2] at c2
    have hdq := dB_two (n := q) (by omega)
    rw [hrB] at hsu
    generalize rootsB (rs'.take j) = pre at *
    have a0 := fun (w : World) (K : K1) => addB (cx := false) (cy := false) pre r.s (by omega) w K
    have a1 := fun (w : World) (K : K1) => addB (cx := false) (cy := true) (pre ++ r.s) [32#8, 45#8, 62#8, 32#8] (by simp; omega) w K
    have a2 := fun (w : World) (K : K1) => addB (cx := false) (cy := false) (pre ++ r.s ++ [32#8, 45#8, 62#8, 32#8]) (dB q) (by simp; omega) w K
    have a3 := fun (w : World) (K : K1) => addB (cx := false) (cy := true) (pre ++ r.s ++ [32#8, 45#8, 62#8, 32#8] ++ dB q) [10#8] (by simp; omega) w K
    unfold loamref17_Text_l1
    rw [era] at k3 k3d
    simp (disch := (first | omega | decide | (simp only [rsD] <;> omega) | fail)) only [↓rsC, rsK, rsL, ↓rsRTx_0, tick_eq, tickV_eq, ne_eq, Int.reduceAdd, Int.reduceSub, Int.reduceMul, Int.reduceEq, Int.reduceLT, Int.reduceLE, Int.reduceToNat, Nat.reduceMul, Nat.reduceAdd, Nat.reduceSub, ←decide_not, k1, k3, k3d, c1, c2, cA, cB, a0, a1]
    refine loamref17_Decimal_call (Gives.to (rDecimal_spec q (by omega) _) fun x3 F3 => ?_)
    have F13 := Fd.trans F3
    have c13 : x3.cell? ⟨br, or' + j * 2, none⟩ = some (.string (strOf r.s)) := by
      rw [← c1]
      exact F3.cell zbr (by simp)
    have k33 := fun i => (B3.ext F13 (by simp)).cell (i := i)
    rw [era] at k33
    simp (disch := (first | omega | decide | (simp only [rsD] <;> omega) | fail)) only [↓rsC, rsK, rsL, ↓rsRTx_0, tick_eq, tickV_eq, ne_eq, Int.reduceAdd, Int.reduceSub, Int.reduceMul, Int.reduceEq, Int.reduceLT, Int.reduceLE, Int.reduceToNat, Nat.reduceMul, Nat.reduceAdd, Nat.reduceSub, ←decide_not, k1, k3, k3d, c1, c2, cA, cB, a0, a1, k33, c13, a2, a3]
    refine hnx _ _ ⟨?_, F13⟩
    rw [hsu]
    simp
  rintro u x1 ⟨hu, F⟩ nxt
  simp only [List.map_cons, List.map_nil, List.cons.injEq, and_true] at hu
  rw [hu.1, hu.2]
  have hpre0 := rootsB_len ht' rs'.length
  rw [List.take_length] at hpre0 ⊢
  have k3 := fun i => (B3.ext F (by simp)).cell (i := i)
  unfold loamref17_Text_l1
  simp (disch := (first | omega | decide | (simp only [rsD] <;> omega) | fail)) only [↓rsC, rsK, rsL, ↓rsRTx_0, tick_eq, tickV_eq, ne_eq, Int.reduceAdd, Int.reduceSub, Int.reduceMul, Int.reduceEq, Int.reduceLT, Int.reduceLE, Int.reduceToNat, Nat.reduceMul, Nat.reduceAdd, Nat.reduceSub, ←decide_not, k1, k3]
  refine xLoop_r ns'.length (fun j vs w' => vs = [.string (strOf (rootsB rs' ++ nodesB ns' j)), i64 (j : Int)] ∧ Ext [] y3 w') ⟨by simp [nodesB], F⟩ ?_ ?_
  · rintro j hj u x2 ⟨hu, F2⟩ nxt2 hnx
    simp only [List.map_cons, List.map_nil, List.cons.injEq, and_true] at hu
    rw [hu.1, hu.2]
    have hsu := nodesB_succ hj
    have hxs := ht'.x _ (List.getElem_mem hj)
    have hxk := G3.ok _ (List.getElem_mem hj)
    have hpn := nodesB_len ht' j (by omega)
    have hpn2 : (nodesB ns' j).length ≤ 175000 := by
      have : j * 2500 ≤ 70 * 2500 := Nat.mul_le_mul_right _ (by omega)
      omega
    have rowc : ∀ {w' : World}, Ext [] y3 w' → ∃ b o, na' = some ⟨b, o, none⟩ ∧ w'.cell? ⟨b, o + j * 2, none⟩ = some (.slice ns'[j].pa ns'[j].p.length ns'[j].pc) ∧ w'.cell? ⟨b, o + j * 2 + 1, none⟩ = some (.slice ns'[j].da ns'[j].d.length ns'[j].dc) := fun E => by
      obtain ⟨b, o, h1, _, h2, h3⟩ := gn_at (G3.nr.ext0 E) hj
      exact ⟨b, o, h1, h2, h3⟩
    obtain ⟨bn, on, ena, _, _⟩ := rowc F2
    have rowd : ∀ {w' : World}, Ext [] y3 w' → w'.cell? ⟨bn, on + j * 2, none⟩ = some (.slice ns'[j].pa ns'[j].p.length ns'[j].pc) ∧ w'.cell? ⟨bn, on + j * 2 + 1, none⟩ = some (.slice ns'[j].da ns'[j].d.length ns'[j].dc) := fun E => by
      obtain ⟨_, _, h1, h2, h3⟩ := rowc E
      rw [ena] at h1
      cases h1
      exact ⟨h2, h3⟩
    clear rowc
    generalize ns'[j] = x at *
    have hnB : nodeB j x = dB (j + 1) ++ [58#8] ++ ptrsB x.p ++ dataB x.d ++ [10#8] := rfl
    have hdj := dB_two (n := j + 1) (by omega)
    have hp3 := fun k => flat_le (f := ptrB) (B := 3) (x.p.take k) fun p hp => ptrB_len (hxs.1 p (List.mem_of_mem_take hp))
    have hp4 : ∀ k, (ptrsB (x.p.take k)).length ≤ 210 := fun k => by
      have h1 := hp3 k
      rw [List.length_take] at h1
      unfold ptrsB
      have : min k x.p.length * 3 ≤ 70 * 3 := Nat.mul_le_mul_right _ (by omega)
      omega
    have hprl : (rootsB rs' ++ nodesB ns' j).length ≤ 179000 := by rw [List.length_append]; omega
    have hsu' : rootsB rs' ++ nodesB ns' (j + 1) = rootsB rs' ++ nodesB ns' j ++ nodeB j x := by rw [hsu, List.append_assoc]
    generalize rootsB rs' ++ nodesB ns' j = pre at *
    have a1 := fun (w : World) (K : K1) => addB (cx := false) (cy := false) pre (dB (j + 1)) (by omega) w K
    have a2 := fun (w : World) (K : K1) => addB (cx := false) (cy := true) (pre ++ dB (j + 1)) [58#8] (by simp; omega) w K
    have k3 := fun i => (B3.ext F2 (by simp)).cell (i := i)
    have ej : (j : Int) + 1 = ((j + 1 : Nat) : Int) := by omega
    unfold loamref17_Text_l2
    simp (disch := (first | omega | decide | (simp only [rsD] <;> omega) | fail)) only [↓rsC, rsK, rsL, ↓rsRTx_0, tick_eq, tickV_eq, ne_eq, Int.reduceAdd, Int.reduceSub, Int.reduceMul, Int.reduceEq, Int.reduceLT, Int.reduceLE, Int.reduceToNat, Nat.reduceMul, Nat.reduceAdd, Nat.reduceSub, ←decide_not, k1, k3]
    rw [ej]
    refine loamref17_Decimal_call (Gives.to (rDecimal_spec (j + 1) (by omega) _) fun x3 F3 => ?_)
    have F13 := F2.trans F3
    simp (disch := (first | omega | decide | (simp only [rsD] <;> omega) | fail)) only [↓rsC, rsK, rsL, ↓rsRTx_0, tick_eq, tickV_eq, ne_eq, Int.reduceAdd, Int.reduceSub, Int.reduceMul, Int.reduceEq, Int.reduceLT, Int.reduceLE, Int.reduceToNat, Nat.reduceMul, Nat.reduceAdd, Nat.reduceSub, ←decide_not, k1, k3, cC, a1, a2]
    obtain ⟨pr2, hpr2⟩ : ∃ pr2, pr2 = pre ++ dB (j + 1) ++ [58#8] := ⟨_, rfl⟩
    have hpr2l : pr2.length ≤ 179010 := by rw [hpr2]; simp; omega
    rw [← hpr2]
    refine xLoop_r x.p.length (fun k vs w' => vs = [.string (strOf (pr2 ++ ptrsB (x.p.take k))), i64 (k : Int)] ∧ Ext [] y3 w') ⟨by simp [ptrsB], F13⟩ ?_ ?_
    · rintro k hk u x4 ⟨hu, F4⟩ nxt3 hnx3
      simp only [List.map_cons, List.map_nil, List.cons.injEq, and_true] at hu
      rw [hu.1, hu.2]
      have k34 := fun i => (B3.ext F4 (by simp)).cell (i := i)
      obtain ⟨c1, c2⟩ := rowd F4
      obtain ⟨bp, op, ep, _, cp⟩ := its_at (hxk.ext0 F4).pr hk
      have hsu2 := ptrsB_succ hk
      have hpk := hxs.1 _ (List.getElem_mem hk)
      have hp5 := hp4 k
      generalize x.p[k] = pk at *
      obtain ⟨q, rfl⟩ : ∃ q : Nat, pk = (q : Int) := ⟨pk.toNat, by omega⟩
      have hpB : ptrB (q : Int) = [32#8] ++ dB q := by unfold ptrB; simp
      have hdq := dB_two (n := q) (by omega)
      rw [hpB] at hsu2
      generalize ptrsB (x.p.take k) = ps at *
      have b1 := fun (w : World) (K : K1) => addB (cx := false) (cy := true) (pr2 ++ ps) [32#8] (by simp; omega) w K
      have b2 := fun (w : World) (K : K1) => addB (cx := false) (cy := false) (pr2 ++ ps ++ [32#8]) (dB q) (by simp; omega) w K
      rw [ena] at k34
      rw [ep] at c1
      unfold loamref17_Text_l3
      simp (disch := (first | omega | decide | (simp only [rsD] <;> omega) | fail)) only [↓rsC, rsK, rsL, ↓rsRTx_0, tick_eq, tickV_eq, ne_eq, Int.reduceAdd, Int.reduceSub, Int.reduceMul, Int.reduceEq, Int.reduceLT, Int.reduceLE, Int.reduceToNat, Nat.reduceMul, Nat.reduceAdd, Nat.reduceSub, ←decide_not, k1, k3, cC, a1, a2, k34, c1, cp, cS, b1]
      refine loamref17_Decimal_call (Gives.to (rDecimal_spec q (by omega) _) fun x5 F5 => ?_)
      simp (disch := (first | omega | decide | (simp only [rsD] <;> omega) | fail)) only [↓rsC, rsK, rsL, ↓rsRTx_0, tick_eq, tickV_eq, ne_eq, Int.reduceAdd, Int.reduceSub, Int.reduceMul, Int.reduceEq, Int.reduceLT, Int.reduceLE, Int.reduceToNat, Nat.reduceMul, Nat.reduceAdd, Nat.reduceSub, ←decide_not, k1, k3, cC, a1, a2, k34, c1, cp, cS, b1, b2]
      refine hnx3 _ _ ⟨?_, F4.trans F5⟩
      rw [hsu2]
      simp
    rintro u x4 ⟨hu, F4⟩ nxt3
    simp only [List.map_cons, List.map_nil, List.cons.injEq, and_true] at hu
    rw [hu.1, hu.2]
    have hp5 := hp4 x.p.length
    rw [List.take_length] at hp5 ⊢
    have k34 := fun i => (B3.ext F4 (by simp)).cell (i := i)
    obtain ⟨c1, c2⟩ := rowd F4
    have hdl := hxs.2.2
    have hdb := dataB_len x.d
    obtain ⟨pr3, hpr3⟩ : ∃ pr3, pr3 = pr2 ++ ptrsB x.p := ⟨_, rfl⟩
    have hpr3l : pr3.length ≤ 179300 := by rw [hpr3]; simp; omega
    rw [← hpr3]
    rw [ena] at k34
    have join : ∀ {m : List (BitVec 8)} {x5 : World}, Ext [] y3 x5 → m = pr3 ++ dataB x.d → loamref17_Text_j1 (fun u w' => u = .string (strOf (txtB ns' rs')) ∧ Ext [] w w') nxt2 (.string (strOf m)) (i64 (j : Int)) x5 := by
      rintro m x5 F5 rfl
      have b1 := fun (w : World) (K : K1) => addB (cx := false) (cy := true) (pr3 ++ dataB x.d) [10#8] (by simp; omega) w K
      unfold loamref17_Text_j1
      simp (disch := (first | omega | decide | (simp only [rsD] <;> omega) | fail)) only [↓rsC, rsK, rsL, ↓rsRTx_0, tick_eq, tickV_eq, ne_eq, Int.reduceAdd, Int.reduceSub, Int.reduceMul, Int.reduceEq, Int.reduceLT, Int.reduceLE, Int.reduceToNat, Nat.reduceMul, Nat.reduceAdd, Nat.reduceSub, ←decide_not, k1, k3, cC, a1, a2, cB, b1]
      refine hnx _ _ ⟨?_, F5⟩
      rw [hsu', hnB, hpr3, hpr2]
      simp
    unfold loamref17_Text_l3
    by_cases hd : x.d = []
    · have hd0 : x.d.length = 0 := by rw [hd]; rfl
      have hd1 : ¬ (0 : Int) < ((0 : Nat) : Int) := by omega
      rw [hd0] at c2
      simp (disch := (first | omega | decide | (simp only [rsD] <;> omega) | fail)) only [↓rsC, rsK, rsL, ↓rsRTx_0, tick_eq, tickV_eq, ne_eq, Int.reduceAdd, Int.reduceSub, Int.reduceMul, Int.reduceEq, Int.reduceLT, Int.reduceLE, Int.reduceToNat, Nat.reduceMul, Nat.reduceAdd, Nat.reduceSub, ←decide_not, k1, k3, cC, a1, a2, k34, c1, c2]
      exact join F4 (by rw [hd]; simp [dataB])
    · have hd0 : 0 < x.d.length := List.length_pos_iff.2 hd
      have hd1 : (x.d.length : Int) > 0 := by omega
      have b1 := fun (w : World) (K : K1) => addB (cx := false) (cy := true) pr3 [32#8, 120#8] (by simp; omega) w K
      have hhl := hexB_len x.d
      have b2 := fun (w : World) (K : K1) => addB (cx := false) (cy := false) (pr3 ++ [32#8, 120#8]) (hexB x.d) (by simp; omega) w K
      simp (disch := (first | omega | decide | (simp only [rsD] <;> omega) | fail)) only [↓rsC, rsK, rsL, ↓rsRTx_0, tick_eq, tickV_eq, ne_eq, Int.reduceAdd, Int.reduceSub, Int.reduceMul, Int.reduceEq, Int.reduceLT, Int.reduceLE, Int.reduceToNat, Nat.reduceMul, Nat.reduceAdd, Nat.reduceSub, ←decide_not, k1, k3, cC, a1, a2, k34, c1, c2, cX, b1]
      refine loamref17_Hex_call (Gives.to (rHex_spec x.d x.da x.dc (hxk.ext0 F4).dr (by omega)) fun x5 F5 => ?_)
      simp (disch := (first | omega | decide | (simp only [rsD] <;> omega) | fail)) only [↓rsC, rsK, rsL, ↓rsRTx_0, tick_eq, tickV_eq, ne_eq, Int.reduceAdd, Int.reduceSub, Int.reduceMul, Int.reduceEq, Int.reduceLT, Int.reduceLE, Int.reduceToNat, Nat.reduceMul, Nat.reduceAdd, Nat.reduceSub, ←decide_not, k1, k3, cC, a1, a2, k34, c1, c2, cX, b1, b2]
      exact join (F4.trans F5) (by unfold dataB; rw [if_neg hd]; simp)
  rintro u x2 ⟨hu, F2⟩ nxt2
  simp only [List.map_cons, List.map_nil, List.cons.injEq, and_true] at hu
  rw [hu.1, hu.2]
  have k3 := fun i => (B3.ext F2 (by simp)).cell (i := i)
  unfold loamref17_Text_l2
  simp (disch := (first | omega | decide | (simp only [rsD] <;> omega) | fail)) only [↓rsC, rsK, rsL, ↓rsRTx_0, tick_eq, tickV_eq, ne_eq, Int.reduceAdd, Int.reduceSub, Int.reduceMul, Int.reduceEq, Int.reduceLT, Int.reduceLE, Int.reduceToNat, Nat.reduceMul, Nat.reduceAdd, Nat.reduceSub, ←decide_not, k1, k3]
  exact ⟨by rfl, Fw.trans F2⟩
end Go.Proofs.YthhcmoknppljpaaDoor
end
section
set_option linter.unusedVariables false
set_option linter.unusedSimpArgs false
set_option maxHeartbeats 4000000
namespace Go.Proofs.YthhcmoknppljpaaDoor
open Go.Sh Go.RowKit

theorem noV_in {ord : List Int} {p : Int} (h : p ∈ ord) : noV ord p = (ord.idxOf p : Int) + 1 := by unfold noV; rw [if_pos h]
theorem noV_out {ord : List Int} {p : Int} (h : p ∉ ord) : noV ord p = 0 := by unfold noV; rw [if_neg h]
theorem noV_ran (ord : List Int) (p : Int) : 0 ≤ noV ord p ∧ noV ord p ≤ ord.length := by
  by_cases h : p ∈ ord
  · rw [noV_in h]
    have := List.idxOf_lt_length_of_mem h
    omega
  · rw [noV_out h]
    omega
theorem ptrs_getd {ns : List GN} {q : Int} (h : okNo ns.length q) : ∃ hj : q.toNat - 1 < ns.length, ptrsOf ns q = ns[q.toNat - 1].p ∧ dataOf ns q = ns[q.toNat - 1].d := by
  unfold okNo at h
  have hj : q.toNat - 1 < ns.length := by omega
  refine ⟨hj, ?_, ?_⟩
  · unfold ptrsOf
    rw [List.getElem?_eq_getElem hj]
  · unfold dataOf
    rw [List.getElem?_eq_getElem hj]
theorem pick_iso {ns : List GN} {ord : List Int} (hO : OutOk ns.length ord) (hc : ∀ q ∈ ord, ∀ p ∈ ptrsOf ns q, okNo ns.length p → p ∈ ord) (more : List GN) : Iso ns (ord.map (canN ns ord) ++ more) (fun p => p ∈ ord) (noV ord) := by
  have hlen : (ord.map (canN ns ord)).length = ord.length := by simp
  have hat : ∀ q (hq : q ∈ ord), (ord.map (canN ns ord) ++ more)[(noV ord q).toNat - 1]? = some (canN ns ord q) := fun q hq => by
    have hi := List.idxOf_lt_length_of_mem hq
    rw [noV_in hq, show ((ord.idxOf q : Int) + 1).toNat - 1 = ord.idxOf q by omega, List.getElem?_append_left (by omega), List.getElem?_map, List.getElem?_eq_getElem hi, List.getElem_idxOf]
    rfl
  refine ⟨fun p q hp hq e => ?_, fun p hp => ⟨hO.ok p hp, ?_⟩, fun q hq => ?_, fun q hq p hp => ?_⟩
  · rw [noV_in hp, noV_in hq] at e
    have e1 : ord.idxOf p = ord.idxOf q := by omega
    have h1 := List.getElem_idxOf (List.idxOf_lt_length_of_mem hp)
    have h2 := List.getElem_idxOf (List.idxOf_lt_length_of_mem hq)
    rw [← h1, ← h2]
    simp only [e1]
  · have := List.idxOf_lt_length_of_mem hp
    rw [noV_in hp]
    unfold okNo
    rw [List.length_append, hlen]
    omega
  · have h1 := hat q hq
    unfold ptrsOf dataOf
    rw [h1]
    exact ⟨rfl, rfl⟩
  · by_cases h : okNo ns.length p
    · exact .inl (hc q hq p hp h)
    · refine .inr ⟨h, ?_⟩
      rw [noV_out fun hm => h (hO.ok p hm)]
      unfold okNo
      omega
theorem can_idem (ns : List GN) (rs : List GR) : canNs (canNs ns rs) (canRs ns rs) = canNs ns rs ∧ canRs (canNs ns rs) (canRs ns rs) = canRs ns rs := by
  have hO := ord_ok ns (rs.map GR.to)
  have I := pick_iso hO (fun q hq p hp ho => by
    rw [ord_mem] at hq ⊢
    obtain ⟨hj, e, _⟩ := ptrs_getd hq.ok
    rw [e] at hp
    have ho' := hq.ok
    unfold okNo at ho'
    refine .step hj ?_ hp ho
    rwa [show ((q.toNat - 1 : Nat) : Int) + 1 = q by omega]) []
  rw [List.append_nil] at I
  refine iso_can I rfl fun r hr => ?_
  by_cases ho : okNo ns.length r.to
  · exact .inl ((ord_mem _ _ _).2 (.base (List.mem_map.2 ⟨r, hr, rfl⟩) ho))
  · refine .inr ⟨ho, ?_⟩
    rw [noV_out fun hm => ho (hO.ok _ hm)]
    unfold okNo
    omega
theorem can_txs {ns : List GN} {rs : List GR} (hn : ns.length ≤ 70) (hr : rs.length ≤ 80) (hs : ∀ r ∈ rs, r.s.length ≤ 40) (hx : ∀ x ∈ ns, x.p.length ≤ 70 ∧ x.d.length ≤ 1100) : TxS (canNs ns rs) (canRs ns rs) := by
  have hO := ord_ok ns (rs.map GR.to)
  have hol := hO.len
  refine ⟨by simp [canNs]; omega, by simpa [canRs] using hr, fun r h => ?_, fun x h => ?_⟩
  · obtain ⟨q, hq, rfl⟩ := List.mem_map.1 h
    have := noV_ran (ordV ns (rs.map GR.to)) q.to
    exact ⟨hs q hq, by simp only; omega, by simp only; omega⟩
  · obtain ⟨q, hq, rfl⟩ := List.mem_map.1 h
    obtain ⟨hj, e1, e2⟩ := ptrs_getd (hO.ok q hq)
    have h1 := hx _ (List.getElem_mem hj)
    unfold canN
    refine ⟨fun p hp => ?_, ?_, ?_⟩
    · obtain ⟨q', _, rfl⟩ := List.mem_map.1 hp
      have := noV_ran (ordV ns (rs.map GR.to)) q'
      omega
    · simp only [List.length_map, e1]
      exact h1.1
    · simp only [e2]
      exact h1.2
end Go.Proofs.YthhcmoknppljpaaDoor
end
section
set_option linter.unusedVariables false
set_option linter.unusedSimpArgs false
set_option maxHeartbeats 4000000
namespace Go.Proofs.YthhcmoknppljpaaDoor
open Go.Sh Go.RowKit

abbrev rsEqg3_0 := (And.intro @xu8_add (And.intro @xu8_neq (And.intro @xu8_lss (And.intro @xu16_add (And.intro @xu16_neq (And.intro @xu16_lss (And.intro @xu32_add (And.intro @xu32_neq (And.intro @xu32_lss (And.intro @xu64_add (And.intro @xu64_neq (And.intro @xu64_lss (And.intro @xi64_lss (And.intro @xi64_neq (And.intro @xi64_neg (And.intro @ld_3 
  (And.intro @ld_9 (And.intro @ld_29 (And.intro @ld_30 (And.intro @ld_40 (And.intro @ld_45 (And.intro @ld_49 (And.intro @fa_32_0 (And.intro @fa_32_1 (And.intro @fa_49_0 (And.intro @fa_49_1 (And.intro @fa_56_0 (And.intro @fa_56_1 (And.intro @al_49 (And.intro @st_49 (And.intro @ia_29 (And.intro @ia_30 (And.intro @ia_40 (And.intro @ln_29 (And.intro @ln_30 @ln_40)))))))))))))))))))))))))))))))))))
theorem REqual_spec {w : World} {ns ns' : List GN} {rs rs' : List GR} {na na' ra ra' : Option Addr} {nc nc' rc rc' : Nat} (h : GIs w na nc ra rc ns rs) (h' : GIs w na' nc' ra' rc' ns' rs') (hf : FewH ns rs) (hf' : FewH ns' rs') :
    Yld Tryd.prog n_loamref17_Equal #[gV na nc ra rc ns rs, gV na' nc' ra' rc' ns' rs'] w fun u w' => BoolR (SameG ns rs ns' rs') w w' u := by
  have hn1 := hf.n
  have hn2 := hf'.n
  have hr1 := hf.r
  have hr2 := hf'.r
  refine loamref17_Equal_of ?_
  unfold loamref17_Equal
  have bx : ∀ (na : Option Addr) (nc : Nat) (ra : Option Addr) (rc : Nat) (ns : List GN) (rs : List GR) (y : World) (K : K1), xBox Tryd.prog 32 (gV na nc ra rc ns rs) y K = K (ptr y.heap.size) (y.alloc (.cells #[.slice na ns.length nc, .slice ra rs.length rc] 32)) := fun _ _ _ _ _ _ y K => xBox_r
  rw [bx, bx]
  have B1 : Blk (w.alloc (.cells #[.slice na ns.length nc, .slice ra rs.length rc] 32)) w.heap.size 32 [.slice na ns.length nc, .slice ra rs.length rc] := Blk.at rfl
  have X1 : Ext [] w (w.alloc (.cells #[.slice na ns.length nc, .slice ra rs.length rc] 32)) := Ext.alloc _ _ _
  generalize w.alloc (.cells #[.slice na ns.length nc, .slice ra rs.length rc] 32) = y1 at *
  generalize w.heap.size = g1 at *
  have B2 : Blk (y1.alloc (.cells #[.slice na' ns'.length nc', .slice ra' rs'.length rc'] 32)) y1.heap.size 32 [.slice na' ns'.length nc', .slice ra' rs'.length rc'] := Blk.at rfl
  have X2 : Ext [] y1 (y1.alloc (.cells #[.slice na' ns'.length nc', .slice ra' rs'.length rc'] 32)) := Ext.alloc _ _ _
  generalize y1.alloc (.cells #[.slice na' ns'.length nc', .slice ra' rs'.length rc'] 32) = y2 at *
  generalize y1.heap.size = g2 at *
  have X12 := X1.trans X2
  have B12 := B1.ext X2 (by simp)
  have G := h.ext0 X12
  have G' := h'.ext0 X12
  have k1 := fun i => B12.cell (i := i)
  have k2 := fun i => B2.cell (i := i)
  by_cases hnl : ns.length = ns'.length
  case neg =>
    have : ¬ ((ns.length : Int) = ns'.length) := by omega
    simp (disch := (first | omega | decide | (simp only [rsD] <;> omega) | fail)) only [↓rsC, rsK, rsL, ↓rsEqg3_0, tick_eq, tickV_eq, ne_eq, Int.reduceAdd, Int.reduceSub, Int.reduceMul, Int.reduceEq, Int.reduceLT, Int.reduceLE, Int.reduceToNat, Nat.reduceMul, Nat.reduceAdd, Nat.reduceSub, ←decide_not, k1, k2]
    exact ⟨⟨false, rfl, by simp only [Bool.false_eq_true, false_iff]; exact fun e => hnl (by simpa using congrArg List.length e.1)⟩, X12⟩
  by_cases hrl : rs.length = rs'.length
  case neg =>
    have : ¬ ((rs.length : Int) = rs'.length) := by omega
    have : ((ns.length : Int) = ns'.length) := by omega
    simp (disch := (first | omega | decide | (simp only [rsD] <;> omega) | fail)) only [↓rsC, rsK, rsL, ↓rsEqg3_0, tick_eq, tickV_eq, ne_eq, Int.reduceAdd, Int.reduceSub, Int.reduceMul, Int.reduceEq, Int.reduceLT, Int.reduceLE, Int.reduceToNat, Nat.reduceMul, Nat.reduceAdd, Nat.reduceSub, ←decide_not, k1, k2]
    exact ⟨⟨false, rfl, by simp only [Bool.false_eq_true, false_iff]; exact fun e => hrl (by rw [e.2])⟩, X12⟩
  have hnl' : ((ns.length : Int) = ns'.length) := by omega
  have hrl' : ((rs.length : Int) = rs'.length) := by omega
  simp (disch := (first | omega | decide | (simp only [rsD] <;> omega) | fail)) only [↓rsC, rsK, rsL, ↓rsEqg3_0, tick_eq, tickV_eq, ne_eq, Int.reduceAdd, Int.reduceSub, Int.reduceMul, Int.reduceEq, Int.reduceLT, Int.reduceLE, Int.reduceToNat, Nat.reduceMul, Nat.reduceAdd, Nat.reduceSub, ←decide_not, k1, k2]
  refine xLoop_n ns.length (fun j => [i64 (j : Int)]) (fun j w' => Ext [] y2 w' ∧ ∀ i (hi : i < ns.length) (hi' : i < ns'.length), i < j → ns[i].p = ns'[i].p ∧ ns[i].d = ns'[i].d) rfl ⟨Ext.refl _ _, by intro i _ _ hi; omega⟩ ?_ ?_
  · rintro j hj u w1 hu ⟨F, hq2⟩ nxt hn
    simp only [List.map_cons, List.map_nil, List.cons.injEq, and_true] at hu
    rw [hu]
    have hj' : j < ns'.length := by omega
    obtain ⟨b, o, rfl, hlt, c1, c2⟩ := gn_at (G.nr.ext0 F) hj
    have m1 := List.getElem_mem hj
    have m2 := List.getElem_mem hj'
    have x1 := (G.ok _ m1).ext0 F
    have x2 := (G'.ok _ m2).ext0 F
    have l1 := hf.x _ m1
    have l2 := hf'.x _ m2
    have diff : ∀ w' : World, Ext [] y2 w' → ¬ (ns[j].p = ns'[j].p ∧ ns[j].d = ns'[j].d) → BoolR (SameG ns rs ns' rs') w w' (.bool false) := fun w' F' hne => ⟨⟨false, rfl, by simp only [Bool.false_eq_true, false_iff]; exact fun e => hne ((sameN_at hnl).1 e.1 j hj hj')⟩, X12.trans F'⟩
    have kk1 := fun i => (B12.ext F (by simp)).cell (i := i)
    have zg2 := (B2.ext F (by simp)).lt
    have kk2 := fun i => (B2.ext F (by simp)).cell (i := i)
    unfold loamref17_Equal_l1
    simp (disch := (first | omega | decide | (simp only [rsD] <;> omega) | fail)) only [↓rsC, rsK, rsL, ↓rsEqg3_0, tick_eq, tickV_eq, ne_eq, Int.reduceAdd, Int.reduceSub, Int.reduceMul, Int.reduceEq, Int.reduceLT, Int.reduceLE, Int.reduceToNat, Nat.reduceMul, Nat.reduceAdd, Nat.reduceSub, ←decide_not, k1, k2, kk1, c1, c2, kk2]
    obtain ⟨bb, oo, rfl, hlt2, c3, c4⟩ := gn_at (G'.nr.ext0 F) hj'
    simp (disch := (first | omega | decide | (simp only [rsD] <;> omega) | fail)) only [↓rsC, rsK, rsL, ↓rsEqg3_0, tick_eq, tickV_eq, ne_eq, Int.reduceAdd, Int.reduceSub, Int.reduceMul, Int.reduceEq, Int.reduceLT, Int.reduceLE, Int.reduceToNat, Nat.reduceMul, Nat.reduceAdd, Nat.reduceSub, ←decide_not, k1, k2, kk1, c1, c2, kk2, c3, c4]
    have hq3 : (ns[j].p = ns'[j].p ∧ ns[j].d = ns'[j].d) → ∀ i (hi : i < ns.length) (hi' : i < ns'.length), i < j + 1 → ns[i].p = ns'[i].p ∧ ns[i].d = ns'[i].d := fun he i hi hi' h3 => by
      by_cases ei : i = j
      · subst ei; exact he
      · exact hq2 i hi hi' (by omega)
    generalize ns[j] = x at *
    generalize ns'[j] = y at *
    have B3 : Blk (w1.alloc (.cells #[.slice x.pa x.p.length x.pc, .slice x.da x.d.length x.dc] 49)) w1.heap.size 49 [.slice x.pa x.p.length x.pc, .slice x.da x.d.length x.dc] := Blk.at rfl
    have X3 : Ext [] w1 (w1.alloc (.cells #[.slice x.pa x.p.length x.pc, .slice x.da x.d.length x.dc] 49)) := Ext.alloc _ _ _
    generalize w1.alloc (.cells #[.slice x.pa x.p.length x.pc, .slice x.da x.d.length x.dc] 49) = y3 at *
    generalize w1.heap.size = g3 at *
    have B4 : Blk (y3.alloc (.cells #[.slice y.pa y.p.length y.pc, .slice y.da y.d.length y.dc] 49)) y3.heap.size 49 [.slice y.pa y.p.length y.pc, .slice y.da y.d.length y.dc] := Blk.at rfl
    have X4 : Ext [] y3 (y3.alloc (.cells #[.slice y.pa y.p.length y.pc, .slice y.da y.d.length y.dc] 49)) := Ext.alloc _ _ _
    generalize y3.alloc (.cells #[.slice y.pa y.p.length y.pc, .slice y.da y.d.length y.dc] 49) = y4 at *
    generalize y3.heap.size = g4 at *
    have X34 := X3.trans X4
    have F4 := F.trans X34
    have B34 := B3.ext X4 (by simp)
    have x1 := x1.ext0 X34
    have x2 := x2.ext0 X34
    have k3 := fun i => B34.cell (i := i)
    have k4 := fun i => B4.cell (i := i)
    by_cases hp : x.p.length = y.p.length
    case neg =>
      have hp' : ¬ ((x.p.length : Int) = y.p.length) := by omega
      simp (disch := (first | omega | decide | (simp only [rsD] <;> omega) | fail)) only [↓rsC, rsK, rsL, ↓rsEqg3_0, tick_eq, tickV_eq, ne_eq, Int.reduceAdd, Int.reduceSub, Int.reduceMul, Int.reduceEq, Int.reduceLT, Int.reduceLE, Int.reduceToNat, Nat.reduceMul, Nat.reduceAdd, Nat.reduceSub, ←decide_not, k1, k2, kk1, c1, c2, kk2, c3, c4, hp']
      exact diff y4 F4 fun e => hp (by rw [e.1])
    have hp' : ((x.p.length : Int) = y.p.length) := by omega
    have hcv := fun (K : K1) => xConv_str (P := Tryd.prog) (w := y4) (s := 45) (d := 9) (e := 5) (a := x.da) (n := x.d.length) (c := x.dc) (l := x.d) (K := K) (by kernel_rfl) (by kernel_rfl) (by kernel_rfl) rfl x1.dr
    have hcv' := fun (K : K1) => xConv_str (P := Tryd.prog) (w := y4) (s := 45) (d := 9) (e := 5) (a := y.da) (n := y.d.length) (c := y.dc) (l := y.d) (K := K) (by kernel_rfl) (by kernel_rfl) (by kernel_rfl) rfl x2.dr
    by_cases hd : x.d = y.d
    case neg =>
      have hd' : ¬ (strOf x.d = strOf y.d) := fun e => hd (strOf_inj.1 e)
      simp (disch := (first | omega | decide | (simp only [rsD] <;> omega) | fail)) only [↓rsC, rsK, rsL, ↓rsEqg3_0, tick_eq, tickV_eq, ne_eq, Int.reduceAdd, Int.reduceSub, Int.reduceMul, Int.reduceEq, Int.reduceLT, Int.reduceLE, Int.reduceToNat, Nat.reduceMul, Nat.reduceAdd, Nat.reduceSub, ←decide_not, k1, k2, kk1, c1, c2, kk2, c3, c4, hp', k3, k4, hcv, hcv', hd']
      exact diff y4 F4 fun e => hd e.2
    have hd' : strOf x.d = strOf y.d := by rw [hd]
    simp (disch := (first | omega | decide | (simp only [rsD] <;> omega) | fail)) only [↓rsC, rsK, rsL, ↓rsEqg3_0, tick_eq, tickV_eq, ne_eq, Int.reduceAdd, Int.reduceSub, Int.reduceMul, Int.reduceEq, Int.reduceLT, Int.reduceLE, Int.reduceToNat, Nat.reduceMul, Nat.reduceAdd, Nat.reduceSub, ←decide_not, k1, k2, kk1, c1, c2, kk2, c3, c4, hp', k3, k4, hcv, hcv', hd']
    refine xLoop_n x.p.length (fun i => [i64 (i : Int)]) (fun k w' => Ext [] y4 w' ∧ ∀ i (hi : i < x.p.length) (hi' : i < y.p.length), i < k → x.p[i] = y.p[i]) rfl ⟨Ext.refl _ _, by intro i _ _ hi; omega⟩ ?_ ?_
    · rintro k hk u w5 hu ⟨F5, hq5⟩ nxt2 hn5
      simp only [List.map_cons, List.map_nil, List.cons.injEq, and_true] at hu
      rw [hu]
      have hk' : k < y.p.length := by omega
      have F5d := F5.trans (Ext.drew [] w5)
      have k3 := fun i => (B34.ext F5 (by simp)).cell (i := i)
      have k3d := fun i => (B34.ext F5d (by simp)).cell (i := i)
      have k4d := fun i => (B4.ext F5d (by simp)).cell (i := i)
      obtain ⟨ba, oa, ea, _, ca⟩ := its_at (x1.pr.ext0 F5) hk
      obtain ⟨bc, oc, ec, _, cc⟩ := its_at (x2.pr.ext0 F5) hk'
      have hq6 : x.p[k] = y.p[k] → ∀ i (hi : i < x.p.length) (hi' : i < y.p.length), i < k + 1 → x.p[i] = y.p[i] := fun he i hi hi' h3 => by
        by_cases ei : i = k
        · subst ei; exact he
        · exact hq5 i hi hi' (by omega)
      have hdf : ¬ x.p[k] = y.p[k] → ¬ (x.p = y.p ∧ x.d = y.d) := fun hne e => hne (by have := e.1; simp only [this])
      unfold loamref17_Equal_l2
      by_cases he : x.p[k] = y.p[k]
      case neg =>
        have hdf2 := hdf he
        generalize x.p[k] = xk at *
        generalize y.p[k] = yk at *
        simp (disch := (first | omega | decide | (simp only [rsD] <;> omega) | fail)) only [↓rsC, rsK, rsL, ↓rsEqg3_0, tick_eq, tickV_eq, ne_eq, Int.reduceAdd, Int.reduceSub, Int.reduceMul, Int.reduceEq, Int.reduceLT, Int.reduceLE, Int.reduceToNat, Nat.reduceMul, Nat.reduceAdd, Nat.reduceSub, ←decide_not, k1, k2, kk1, c1, c2, kk2, c3, c4, hp', k3, k4, hcv, hcv', hd', k3d, k4d, ea, ec, ca, cc, he]
        exact diff _ (F4.trans F5d) hdf2
      have hq7 := hq6 he
      rw [he] at ca
      generalize y.p[k] = yk at *
      simp (disch := (first | omega | decide | (simp only [rsD] <;> omega) | fail)) only [↓rsC, rsK, rsL, ↓rsEqg3_0, tick_eq, tickV_eq, ne_eq, Int.reduceAdd, Int.reduceSub, Int.reduceMul, Int.reduceEq, Int.reduceLT, Int.reduceLE, Int.reduceToNat, Nat.reduceMul, Nat.reduceAdd, Nat.reduceSub, ←decide_not, k1, k2, kk1, c1, c2, kk2, c3, c4, hp', k3, k4, hcv, hcv', hd', k3d, k4d, ea, ec, ca, cc]
      exact hn5 _ ⟨F5d, hq7⟩
    · rintro u w5 hu ⟨F5, hq5⟩ nxt2
      simp only [List.map_cons, List.map_nil, List.cons.injEq, and_true] at hu
      rw [hu]
      have k3 := fun i => (B34.ext F5 (by simp)).cell (i := i)
      have hxy : x.p = y.p := List.ext_getElem hp fun i h1 h2 => hq5 i h1 h2 h1
      unfold loamref17_Equal_l2
      simp (disch := (first | omega | decide | (simp only [rsD] <;> omega) | fail)) only [↓rsC, rsK, rsL, ↓rsEqg3_0, tick_eq, tickV_eq, ne_eq, Int.reduceAdd, Int.reduceSub, Int.reduceMul, Int.reduceEq, Int.reduceLT, Int.reduceLE, Int.reduceToNat, Nat.reduceMul, Nat.reduceAdd, Nat.reduceSub, ←decide_not, k1, k2, kk1, c1, c2, kk2, c3, c4, hp', k3, k4, hcv, hcv', hd']
      exact hn _ ⟨F4.trans F5, hq3 ⟨hxy, hd⟩⟩
  · rintro u w1 hu ⟨F, hq2⟩ nxt
    simp only [List.map_cons, List.map_nil, List.cons.injEq, and_true] at hu
    rw [hu]
    have hsn : SameN ns ns' := (sameN_at hnl).2 fun i h1 h2 => hq2 i h1 h2 h1
    have kk1 := fun i => (B12.ext F (by simp)).cell (i := i)
    unfold loamref17_Equal_l1
    simp (disch := (first | omega | decide | (simp only [rsD] <;> omega) | fail)) only [↓rsC, rsK, rsL, ↓rsEqg3_0, tick_eq, tickV_eq, ne_eq, Int.reduceAdd, Int.reduceSub, Int.reduceMul, Int.reduceEq, Int.reduceLT, Int.reduceLE, Int.reduceToNat, Nat.reduceMul, Nat.reduceAdd, Nat.reduceSub, ←decide_not, k1, k2, kk1]
    refine xLoop_n rs.length (fun j => [i64 (j : Int)]) (fun j w' => Ext [] y2 w' ∧ ∀ i (hi : i < rs.length) (hi' : i < rs'.length), i < j → rs[i].s = rs'[i].s ∧ rs[i].to = rs'[i].to) rfl ⟨F, by intro i _ _ hi; omega⟩ ?_ ?_
    · rintro j hj u w5 hu ⟨F5, hq5⟩ nxt2 hn5
      simp only [List.map_cons, List.map_nil, List.cons.injEq, and_true] at hu
      rw [hu]
      have hj' : j < rs'.length := by omega
      have F5d := F5.trans (Ext.drew [] w5)
      have k3 := fun i => (B12.ext F5 (by simp)).cell (i := i)
      have k3d := fun i => (B12.ext F5d (by simp)).cell (i := i)
      have k4d := fun i => (B2.ext F5d (by simp)).cell (i := i)
      obtain ⟨b, o, rfl, hlt, c1, c2⟩ := gr_at (G.rr.ext0 F5d) hj
      obtain ⟨bb, oo, rfl, hlt2, c3, c4⟩ := gr_at (G'.rr.ext0 F5d) hj'
      have diff : ∀ w' : World, Ext [] y2 w' → ¬ (rs[j].s = rs'[j].s ∧ rs[j].to = rs'[j].to) → BoolR (SameG ns rs ns' rs') w w' (.bool false) := fun w' F' hne => ⟨⟨false, rfl, by simp only [Bool.false_eq_true, false_iff]; exact fun e => hne (by have := e.2; subst this; exact ⟨rfl, rfl⟩)⟩, X12.trans F'⟩
      have hq6 : (rs[j].s = rs'[j].s ∧ rs[j].to = rs'[j].to) → ∀ i (hi : i < rs.length) (hi' : i < rs'.length), i < j + 1 → rs[i].s = rs'[i].s ∧ rs[i].to = rs'[i].to := fun he i hi hi' h3 => by
        by_cases ei : i = j
        · subst ei; exact he
        · exact hq5 i hi hi' (by omega)
      generalize rs[j] = x at *
      generalize rs'[j] = y at *
      unfold loamref17_Equal_l3
      by_cases hs : x.s = y.s
      case neg =>
        have hs' : ¬ (strOf x.s = strOf y.s) := fun e => hs (strOf_inj.1 e)
        simp (disch := (first | omega | decide | (simp only [rsD] <;> omega) | fail)) only [↓rsC, rsK, rsL, ↓rsEqg3_0, tick_eq, tickV_eq, ne_eq, Int.reduceAdd, Int.reduceSub, Int.reduceMul, Int.reduceEq, Int.reduceLT, Int.reduceLE, Int.reduceToNat, Nat.reduceMul, Nat.reduceAdd, Nat.reduceSub, ←decide_not, k1, k2, kk1, k3, k3d, k4d, c1, c3, hs']
        exact diff _ F5d fun e => hs e.1
      have hs' : strOf x.s = strOf y.s := by rw [hs]
      by_cases ht : x.to = y.to
      case neg =>
        simp (disch := (first | omega | decide | (simp only [rsD] <;> omega) | fail)) only [↓rsC, rsK, rsL, ↓rsEqg3_0, tick_eq, tickV_eq, ne_eq, Int.reduceAdd, Int.reduceSub, Int.reduceMul, Int.reduceEq, Int.reduceLT, Int.reduceLE, Int.reduceToNat, Nat.reduceMul, Nat.reduceAdd, Nat.reduceSub, ←decide_not, k1, k2, kk1, k3, k3d, k4d, c1, c2, c3, c4, hs', ht]
        exact diff _ F5d fun e => ht e.2
      simp (disch := (first | omega | decide | (simp only [rsD] <;> omega) | fail)) only [↓rsC, rsK, rsL, ↓rsEqg3_0, tick_eq, tickV_eq, ne_eq, Int.reduceAdd, Int.reduceSub, Int.reduceMul, Int.reduceEq, Int.reduceLT, Int.reduceLE, Int.reduceToNat, Nat.reduceMul, Nat.reduceAdd, Nat.reduceSub, ←decide_not, k1, k2, kk1, k3, k3d, k4d, c1, c2, c3, c4, hs', ht]
      exact hn5 _ ⟨F5d, hq6 ⟨hs, ht⟩⟩
    · rintro u w5 hu ⟨F5, hq5⟩ nxt2
      simp only [List.map_cons, List.map_nil, List.cons.injEq, and_true] at hu
      rw [hu]
      have k3 := fun i => (B12.ext F5 (by simp)).cell (i := i)
      have hrs : rs = rs' := rs_ext hrl fun i h1 h2 => hq5 i h1 h2 h1
      unfold loamref17_Equal_l3
      simp (disch := (first | omega | decide | (simp only [rsD] <;> omega) | fail)) only [↓rsC, rsK, rsL, ↓rsEqg3_0, tick_eq, tickV_eq, ne_eq, Int.reduceAdd, Int.reduceSub, Int.reduceMul, Int.reduceEq, Int.reduceLT, Int.reduceLE, Int.reduceToNat, Nat.reduceMul, Nat.reduceAdd, Nat.reduceSub, ←decide_not, k1, k2, kk1, k3]
      exact ⟨⟨true, rfl, by simp only [true_iff]; exact ⟨hsn, hrs⟩⟩, X12.trans F5⟩
end Go.Proofs.YthhcmoknppljpaaDoor
end
section
set_option linter.unusedVariables false
set_option linter.unusedSimpArgs false
set_option maxHeartbeats 4000000
namespace Go.Proofs.YthhcmoknppljpaaDoor
open Go.Sh Go.RowKit

abbrev rsIntZ_0 := (And.intro @xu8_add (And.intro @xu8_neq (And.intro @xu8_lss (And.intro @xu16_add (And.intro @xu16_neq (And.intro @xu16_lss (And.intro @xu32_add (And.intro @xu32_neq (And.intro @xu32_lss (And.intro @xu64_add (And.intro @xu64_neq (And.intro @xu64_lss (And.intro @xi64_lss (And.intro @xi64_neq (And.intro @xi64_neg (And.intro @ld_3 
  (And.intro @ia_40 @ln_40)))))))))))))))))
theorem intsZ_spec {w : World} {l : List Int} {a a' : Option Addr} {c c' : Nat} (h : RowAt w a (its l)) (h' : RowAt w a' (its l)) (hl : l.length ≤ 100000) : Gives Tryd.prog n_loamlaw15_Ints #[.slice a l.length c, .slice a' l.length c'] w (.bool true) := by
  refine loamlaw15_Ints_of ?_
  unfold loamlaw15_Ints
  refine loamlaw15_ints_call (Gives.to (?_ : Gives Tryd.prog n_loamlaw15_ints #[.slice a l.length c, .slice a' l.length c'] w (.bool true)) fun w2 F2 => ⟨by trivial, F2⟩)
  refine loamlaw15_ints_of ?_
  unfold loamlaw15_ints
  simp (disch := (first | omega | decide | (simp only [rsD] <;> omega) | fail)) only [↓rsC, rsK, rsL, ↓rsIntZ_0, tick_eq, tickV_eq, ne_eq, Int.reduceAdd, Int.reduceSub, Int.reduceMul, Int.reduceEq, Int.reduceLT, Int.reduceLE, Int.reduceToNat, Nat.reduceMul, Nat.reduceAdd, Nat.reduceSub, ←decide_not, eq_self]
  refine xLoop_n l.length (fun j => [i64 (j : Int)]) (fun _ w' => Ext [] w w') rfl (Ext.refl _ _) ?_ ?_
  · intro j hj u v1 hu F nxt hnx
    simp only [List.map_cons, List.map_nil, List.cons.injEq, and_true] at hu
    rw [hu]
    have Fd := F.trans (Ext.drew [] v1)
    obtain ⟨b1, o1, rfl, z1, k1⟩ := its_at (h.ext0 Fd) hj
    obtain ⟨b2, o2, rfl, z2, k2⟩ := its_at (h'.ext0 Fd) hj
    unfold loamlaw15_ints_l1
    simp (disch := (first | omega | decide | (simp only [rsD] <;> omega) | fail)) only [↓rsC, rsK, rsL, ↓rsIntZ_0, tick_eq, tickV_eq, ne_eq, Int.reduceAdd, Int.reduceSub, Int.reduceMul, Int.reduceEq, Int.reduceLT, Int.reduceLE, Int.reduceToNat, Nat.reduceMul, Nat.reduceAdd, Nat.reduceSub, ←decide_not, k1, k2]
    exact hnx _ Fd
  · intro u v1 hu F nxt
    simp only [List.map_cons, List.map_nil, List.cons.injEq, and_true] at hu
    rw [hu]
    unfold loamlaw15_ints_l1
    simp (disch := (first | omega | decide | (simp only [rsD] <;> omega) | fail)) only [↓rsC, rsK, rsL, ↓rsIntZ_0, tick_eq, tickV_eq, ne_eq, Int.reduceAdd, Int.reduceSub, Int.reduceMul, Int.reduceEq, Int.reduceLT, Int.reduceLE, Int.reduceToNat, Nat.reduceMul, Nat.reduceAdd, Nat.reduceSub, ←decide_not, eq_self]
    exact ⟨by trivial, F⟩
end Go.Proofs.YthhcmoknppljpaaDoor
end
section
set_option linter.unusedVariables false
set_option linter.unusedSimpArgs false
set_option maxHeartbeats 4000000
namespace Go.Proofs.YthhcmoknppljpaaDoor
open Go.Sh Go.RowKit

abbrev rsCn1_0 := (And.intro @xu8_com (And.intro @xu8_eql (And.intro @xu8_neq (And.intro @xu16_com (And.intro @xu16_eql (And.intro @xu16_neq (And.intro @xu32_com (And.intro @xu32_eql (And.intro @xu32_neq (And.intro @xu64_com (And.intro @xu64_eql (And.intro @xu64_neq (And.intro @xi64_eql (And.intro @xi64_neq (And.intro @xi64_neg (And.intro @ld_25 
  (And.intro @ld_32 (And.intro @al_25 (And.intro @al_32 (And.intro @st_25 @st_32))))))))))))))))))))
theorem CanonAny_walk (na ra : Option Addr) (nc rc : Nat) (ns : List GN) (rs : List GR) (w : World) (h : GIs w na nc ra rc ns rs) : Gives Tryd.prog n_loamlaw18_CanonAny #[gV na nc ra rc ns rs] w (.bool true) := by
  refine loamlaw18_CanonAny_of ?_
  unfold loamlaw18_CanonAny
  have gbox : ∀ (y : World) (K : K1), xBox Tryd.prog 25 (gV na nc ra rc ns rs) y K = K (ptr y.heap.size) (y.alloc (.cells #[.slice na ns.length nc, .slice ra rs.length rc] 25)) := fun y K => xBox_r
  rw [gbox]
  have B1 : Blk (w.alloc (.cells #[.slice na ns.length nc, .slice ra rs.length rc] 25)) w.heap.size 25 [.slice na ns.length nc, .slice ra rs.length rc] := Blk.at rfl
  have X1 : Ext [] w (w.alloc (.cells #[.slice na ns.length nc, .slice ra rs.length rc] 25)) := Ext.alloc _ _ _
  have G := h.ext0 X1
  generalize w.alloc (.cells #[.slice na ns.length nc, .slice ra rs.length rc] 25) = y1 at *
  generalize w.heap.size = g1 at *
  refine loamlaw18_known_call (Gives.to (known18_spec y1) fun y3 F3 => ?_)
  have k3 := fun i => (B1.ext F3 (by simp)).cell (i := i)
  simp (disch := (first | omega | decide | (simp only [rsD] <;> omega) | fail)) only [↓rsC, rsK, rsL, ↓rsCn1_0, tick_eq, tickV_eq, ne_eq, Int.reduceAdd, Int.reduceSub, Int.reduceMul, Int.reduceEq, Int.reduceLT, Int.reduceLE, Int.reduceToNat, Nat.reduceMul, Nat.reduceAdd, Nat.reduceSub, ←decide_not, k3]
  refine loamlaw17_Few_call (Yld.mono (Few_spec (G.ext0 F3)) ?_)
  rintro u y4 ⟨⟨b, rfl, hb⟩, F4⟩
  have F14 := F3.trans F4
  cases b with
  | false =>
    simp (disch := (first | omega | decide | (simp only [rsD] <;> omega) | fail)) only [↓rsC, rsK, rsL, ↓rsCn1_0, tick_eq, tickV_eq, ne_eq, Int.reduceAdd, Int.reduceSub, Int.reduceMul, Int.reduceEq, Int.reduceLT, Int.reduceLE, Int.reduceToNat, Nat.reduceMul, Nat.reduceAdd, Nat.reduceSub, ←decide_not, k3]
    exact ⟨by trivial, X1.trans F14⟩
  | true =>
  have hf := hb rfl
  have hfn := hf.n
  have hfr := hf.r
  have k4 := fun i => (B1.ext F14 (by simp)).cell (i := i)
  simp (disch := (first | omega | decide | (simp only [rsD] <;> omega) | fail)) only [↓rsC, rsK, rsL, ↓rsCn1_0, tick_eq, tickV_eq, ne_eq, Int.reduceAdd, Int.reduceSub, Int.reduceMul, Int.reduceEq, Int.reduceLT, Int.reduceLE, Int.reduceToNat, Nat.reduceMul, Nat.reduceAdd, Nat.reduceSub, ←decide_not, k3, k4]
  refine loamlaw17_Of_call (Yld.mono (Of_spec17 (G.ext0 F14) (by omega) (by omega)) ?_)
  rintro u y6 ⟨F6, na6, nc6, ra6, rc6, rfl, G6⟩
  simp (disch := (first | omega | decide | (simp only [rsD] <;> omega) | fail)) only [↓rsC, rsK, rsL, ↓rsCn1_0, tick_eq, tickV_eq, ne_eq, Int.reduceAdd, Int.reduceSub, Int.reduceMul, Int.reduceEq, Int.reduceLT, Int.reduceLE, Int.reduceToNat, Nat.reduceMul, Nat.reduceAdd, Nat.reduceSub, ←decide_not, k3, k4]
  refine loamref17_Check_call (Gives.to (GCheckX_spec G6 hf) fun y7 F7 => ?_)
  have F17 := F14.trans (F6.trans F7)
  by_cases hc : chkV ns rs = 0
  case neg =>
    simp (disch := (first | omega | decide | (simp only [rsD] <;> omega) | fail)) only [↓rsC, rsK, rsL, ↓rsCn1_0, tick_eq, tickV_eq, ne_eq, Int.reduceAdd, Int.reduceSub, Int.reduceMul, Int.reduceEq, Int.reduceLT, Int.reduceLE, Int.reduceToNat, Nat.reduceMul, Nat.reduceAdd, Nat.reduceSub, ←decide_not, k3, k4, hc]
    exact ⟨by trivial, X1.trans F17⟩
  have hg := chk_zero.1 hc
  have ht := can_txs (ns := ns) (rs := rs) (by omega) hfr hf.s hf.x
  have k7 := fun i => (B1.ext F17 (by simp)).cell (i := i)
  simp (disch := (first | omega | decide | (simp only [rsD] <;> omega) | fail)) only [↓rsC, rsK, rsL, ↓rsCn1_0, tick_eq, tickV_eq, ne_eq, Int.reduceAdd, Int.reduceSub, Int.reduceMul, Int.reduceEq, Int.reduceLT, Int.reduceLE, Int.reduceToNat, Nat.reduceMul, Nat.reduceAdd, Nat.reduceSub, ←decide_not, k3, k4, hc, k7]
  refine loamlaw17_Of_call (Yld.mono (Of_spec17 (G.ext0 F17) (by omega) (by omega)) ?_)
  rintro u y8 ⟨F8, na8, nc8, ra8, rc8, rfl, G8⟩
  have F18 := F17.trans F8
  have zb1 := (B1.ext F18 (by simp)).lt
  have k8 := fun i => (B1.ext F18 (by simp)).cell (i := i)
  simp (disch := (first | omega | decide | (simp only [rsD] <;> omega) | fail)) only [↓rsC, rsK, rsL, ↓rsCn1_0, tick_eq, tickV_eq, ne_eq, Int.reduceAdd, Int.reduceSub, Int.reduceMul, Int.reduceEq, Int.reduceLT, Int.reduceLE, Int.reduceToNat, Nat.reduceMul, Nat.reduceAdd, Nat.reduceSub, ←decide_not, k3, k4, hc, k7, k8]
  have B9 : Blk (y8.alloc (.cells #[.slice na8 ns.length nc8, .slice ra8 rs.length rc8] 32)) y8.heap.size 32 [.slice na8 ns.length nc8, .slice ra8 rs.length rc8] := Blk.at rfl
  have X9 : Ext [] y8 (y8.alloc (.cells #[.slice na8 ns.length nc8, .slice ra8 rs.length rc8] 32)) := Ext.alloc _ _ _
  have G9 := G8.ext0 X9
  generalize y8.alloc (.cells #[.slice na8 ns.length nc8, .slice ra8 rs.length rc8] 32) = y9 at *
  generalize y8.heap.size = g3 at *
  have F19 := F18.trans X9
  refine canon_Canon_call (Yld.mono (Canon_spec (G.ext0 F19) hf.h) ?_)
  rintro u y10 ⟨F10, na', nc', ra', rc', ns', hns, rfl, G10⟩
  have hf' := can_few hf.h hns
  have hrl : (canRs ns rs).length = rs.length := by simp [canRs]
  have hid : canNs ns' (canRs ns rs) = canNs ns rs ∧ canRs ns' (canRs ns rs) = canRs ns rs := by
    have := can_idem ns rs
    rwa [← hns, (can_bare ns' _).1, (can_bare ns' _).2, hns] at this
  have zb9 := (B9.ext F10 (by simp)).lt
  have zb10 := (B1.ext (F19.trans F10) (by simp)).lt
  have k10 := fun i => (B9.ext F10 (by simp)).cell (i := i)
  simp (disch := (first | omega | decide | (simp only [rsD] <;> omega) | fail)) only [↓rsC, rsK, rsL, ↓rsCn1_0, tick_eq, tickV_eq, ne_eq, Int.reduceAdd, Int.reduceSub, Int.reduceMul, Int.reduceEq, Int.reduceLT, Int.reduceLE, Int.reduceToNat, Nat.reduceMul, Nat.reduceAdd, Nat.reduceSub, ←decide_not, k3, k4, hc, k7, k8, k10]
  have B11 : Blk (y10.alloc (.cells #[.slice na' ns'.length nc', .slice ra' (canRs ns rs).length rc'] 25)) y10.heap.size 25 [.slice na' ns'.length nc', .slice ra' (canRs ns rs).length rc'] := Blk.at rfl
  have X11 : Ext [] y10 (y10.alloc (.cells #[.slice na' ns'.length nc', .slice ra' (canRs ns rs).length rc'] 25)) := Ext.alloc _ _ _
  have B12 := B11.ext (Ext.drew [] _) (by simp)
  have X12 := X11.trans (Ext.drew [] _)
  generalize (y10.alloc (.cells #[.slice na' ns'.length nc', .slice ra' (canRs ns rs).length rc'] 25)).drew = y12 at *
  generalize y10.heap.size = g4 at *
  have G12 := G10.ext0 X12
  have F912 := F10.trans X12
  have F112 := F19.trans F912
  have hfn' := hf'.n
  have hfr' := hf'.r
  refine loamlaw17_Of_call (Yld.mono (Of_spec17 G12 (by omega) (by omega)) ?_)
  rintro u y13 ⟨F13, na13, nc13, ra13, rc13, rfl, G13⟩
  have F913 := F912.trans F13
  have k13 := fun i => (B9.ext F913 (by simp)).cell (i := i)
  simp (disch := (first | omega | decide | (simp only [rsD] <;> omega) | fail)) only [↓rsC, rsK, rsL, ↓rsCn1_0, tick_eq, tickV_eq, ne_eq, Int.reduceAdd, Int.reduceSub, Int.reduceMul, Int.reduceEq, Int.reduceLT, Int.reduceLE, Int.reduceToNat, Nat.reduceMul, Nat.reduceAdd, Nat.reduceSub, ←decide_not, k3, k4, hc, k7, k8, k10, k13]
  refine loamref17_Canon_call (Yld.mono (RCanon_spec (G9.ext0 F913) hf.h hg) ?_)
  rintro u y14 ⟨F14', na14, nc14, ra14, rc14, ns14, hns14, rfl, G14⟩
  simp (disch := (first | omega | decide | (simp only [rsD] <;> omega) | fail)) only [↓rsC, rsK, rsL, ↓rsCn1_0, tick_eq, tickV_eq, ne_eq, Int.reduceAdd, Int.reduceSub, Int.reduceMul, Int.reduceEq, Int.reduceLT, Int.reduceLE, Int.reduceToNat, Nat.reduceMul, Nat.reduceAdd, Nat.reduceSub, ←decide_not, k3, k4, hc, k7, k8, k10, k13]
  refine loamref17_Equal_call (Yld.mono (REqual_spec (G13.ext0 F14') G14 hf' (can_few hf.h hns14)) ?_)
  rintro u y15 hu
  obtain ⟨rfl, F15⟩ := boolTrue hu ⟨hns.trans hns14.symm, rfl⟩
  have F1215 := F13.trans (F14'.trans F15)
  have F915 := F912.trans F1215
  have F115 := F112.trans F1215
  have k15 := fun i => (B1.ext F115 (by simp)).cell (i := i)
  have k15b := fun i => (B9.ext F915 (by simp)).cell (i := i)
  simp (disch := (first | omega | decide | (simp only [rsD] <;> omega) | fail)) only [↓rsC, rsK, rsL, ↓rsCn1_0, tick_eq, tickV_eq, ne_eq, Int.reduceAdd, Int.reduceSub, Int.reduceMul, Int.reduceEq, Int.reduceLT, Int.reduceLE, Int.reduceToNat, Nat.reduceMul, Nat.reduceAdd, Nat.reduceSub, ←decide_not, k3, k4, hc, k7, k8, k10, k13, k15, k15b]
  refine canon_Text_call (Yld.mono (CText_spec (G.ext0 F115) hf.h ht) ?_)
  rintro u y16 ⟨rfl, F16⟩
  have k16b := fun i => (B9.ext (F915.trans F16) (by simp)).cell (i := i)
  simp (disch := (first | omega | decide | (simp only [rsD] <;> omega) | fail)) only [↓rsC, rsK, rsL, ↓rsCn1_0, tick_eq, tickV_eq, ne_eq, Int.reduceAdd, Int.reduceSub, Int.reduceMul, Int.reduceEq, Int.reduceLT, Int.reduceLE, Int.reduceToNat, Nat.reduceMul, Nat.reduceAdd, Nat.reduceSub, ←decide_not, k3, k4, hc, k7, k8, k10, k13, k15, k15b, k16b]
  refine loamref17_Text_call (Yld.mono (RText_spec (G9.ext0 (F915.trans F16)) hf.h hg ht) ?_)
  rintro u y17 ⟨rfl, F17'⟩
  have F1217 := F1215.trans (F16.trans F17')
  have F917 := F912.trans F1217
  have F117 := F112.trans F1217
  have k17 := fun i => (B1.ext F117 (by simp)).cell (i := i)
  have k17b := fun i => (B9.ext F917 (by simp)).cell (i := i)
  simp (disch := (first | omega | decide | (simp only [rsD] <;> omega) | fail)) only [↓rsC, rsK, rsL, ↓rsCn1_0, tick_eq, tickV_eq, ne_eq, Int.reduceAdd, Int.reduceSub, Int.reduceMul, Int.reduceEq, Int.reduceLT, Int.reduceLE, Int.reduceToNat, Nat.reduceMul, Nat.reduceAdd, Nat.reduceSub, ←decide_not, k3, k4, hc, k7, k8, k10, k13, k15, k15b, k16b, k17, k17b]
  refine canon_Order_call (Yld.mono (Order_spec (G.ext0 F117) hf.h) ?_)
  rintro u y18 ⟨F18', a18, rfl, R18, _⟩
  have k18b := fun i => (B9.ext (F917.trans F18') (by simp)).cell (i := i)
  simp (disch := (first | omega | decide | (simp only [rsD] <;> omega) | fail)) only [↓rsC, rsK, rsL, ↓rsCn1_0, tick_eq, tickV_eq, ne_eq, Int.reduceAdd, Int.reduceSub, Int.reduceMul, Int.reduceEq, Int.reduceLT, Int.reduceLE, Int.reduceToNat, Nat.reduceMul, Nat.reduceAdd, Nat.reduceSub, ←decide_not, k3, k4, hc, k7, k8, k10, k13, k15, k15b, k16b, k17, k17b, k18b]
  refine loamref17_Named_call (Yld.mono (RNamed_spec (G9.ext0 (F917.trans F18')) (by omega)) ?_)
  rintro u y19 N19
  obtain ⟨a19, c19, hv19, _, _, _, R19, _⟩ := N19.2.1.slice
  subst hv19
  have F919 := (F917.trans F18').trans N19.1
  have k19b := fun i => (B9.ext F919 (by simp)).cell (i := i)
  simp (disch := (first | omega | decide | (simp only [rsD] <;> omega) | fail)) only [↓rsC, rsK, rsL, ↓rsCn1_0, tick_eq, tickV_eq, ne_eq, Int.reduceAdd, Int.reduceSub, Int.reduceMul, Int.reduceEq, Int.reduceLT, Int.reduceLE, Int.reduceToNat, Nat.reduceMul, Nat.reduceAdd, Nat.reduceSub, ←decide_not, k3, k4, hc, k7, k8, k10, k13, k15, k15b, k16b, k17, k17b, k18b, k19b]
  refine loamref17_Walk_call (Yld.mono (RWalk_spec (G9.ext0 F919) hf.h (fun x hx => (hg.x x hx).1) R19 (by simp; omega)) ?_)
  rintro u y20 N20
  obtain ⟨a20, c20, hv20, _, _, _, R20, _⟩ := N20.2.1.slice
  subst hv20
  simp (disch := (first | omega | decide | (simp only [rsD] <;> omega) | fail)) only [↓rsC, rsK, rsL, ↓rsCn1_0, tick_eq, tickV_eq, ne_eq, Int.reduceAdd, Int.reduceSub, Int.reduceMul, Int.reduceEq, Int.reduceLT, Int.reduceLE, Int.reduceToNat, Nat.reduceMul, Nat.reduceAdd, Nat.reduceSub, ←decide_not, k3, k4, hc, k7, k8, k10, k13, k15, k15b, k16b, k17, k17b, k18b, k19b]
  have hol := (ord_ok ns (tosL rs)).len
  have F1720 := F18'.trans (N19.1.trans N20.1)
  refine loamlaw15_Ints_call (Gives.to (intsZ_spec (R18.ext0 (N19.1.trans N20.1)) R20 (by omega)) fun y21 F21 => ?_)
  have F1221 := F1217.trans (F1720.trans F21)
  have F121 := F112.trans F1221
  have k21 := fun i => (B12.ext F1221 (by simp)).cell (i := i)
  simp (disch := (first | omega | decide | (simp only [rsD] <;> omega) | fail)) only [↓rsC, rsK, rsL, ↓rsCn1_0, tick_eq, tickV_eq, ne_eq, Int.reduceAdd, Int.reduceSub, Int.reduceMul, Int.reduceEq, Int.reduceLT, Int.reduceLE, Int.reduceToNat, Nat.reduceMul, Nat.reduceAdd, Nat.reduceSub, ←decide_not, k3, k4, hc, k7, k8, k10, k13, k15, k15b, k16b, k17, k17b, k18b, k19b, k21]
  refine canon_Canon_call (Yld.mono (Canon_spec (G12.ext0 F1221) hf') ?_)
  rintro u y22 ⟨F22, na22, nc22, ra22, rc22, ns22, hns22, rfl, G22⟩
  rw [hid.1] at hns22
  rw [hid.2] at G22 ⊢
  have hf22 := can_few hf.h hns22
  have F1222 := F1221.trans F22
  have k22 := fun i => (B12.ext F1222 (by simp)).cell (i := i)
  simp (disch := (first | omega | decide | (simp only [rsD] <;> omega) | fail)) only [↓rsC, rsK, rsL, ↓rsCn1_0, tick_eq, tickV_eq, ne_eq, Int.reduceAdd, Int.reduceSub, Int.reduceMul, Int.reduceEq, Int.reduceLT, Int.reduceLE, Int.reduceToNat, Nat.reduceMul, Nat.reduceAdd, Nat.reduceSub, ←decide_not, k3, k4, hc, k7, k8, k10, k13, k15, k15b, k16b, k17, k17b, k18b, k19b, k21, k22]
  refine graph_Equal_call (Yld.mono (GEqual_spec G22 (G12.ext0 F1222) hf22 hf') ?_)
  rintro u y23 hu
  obtain ⟨rfl, F23⟩ := boolTrue hu ⟨hns22.trans hns.symm, rfl⟩
  have F1223 := F1222.trans F23
  have F123 := F112.trans F1223
  have k23 := fun i => (B12.ext F1223 (by simp)).cell (i := i)
  have k23b := fun i => (B1.ext F123 (by simp)).cell (i := i)
  simp (disch := (first | omega | decide | (simp only [rsD] <;> omega) | fail)) only [↓rsC, rsK, rsL, ↓rsCn1_0, tick_eq, tickV_eq, ne_eq, Int.reduceAdd, Int.reduceSub, Int.reduceMul, Int.reduceEq, Int.reduceLT, Int.reduceLE, Int.reduceToNat, Nat.reduceMul, Nat.reduceAdd, Nat.reduceSub, ←decide_not, k3, k4, hc, k7, k8, k10, k13, k15, k15b, k16b, k17, k17b, k18b, k19b, k21, k22, k23, k23b]
  refine canon_Same_call (Yld.mono (CSame_spec (G12.ext0 F1223) (G.ext0 F123) hf' hf.h) ?_)
  rintro u y24 hu
  obtain ⟨rfl, F24⟩ := boolTrue hu hid
  simp (disch := (first | omega | decide | (simp only [rsD] <;> omega) | fail)) only [↓rsC, rsK, rsL, ↓rsCn1_0, tick_eq, tickV_eq, ne_eq, Int.reduceAdd, Int.reduceSub, Int.reduceMul, Int.reduceEq, Int.reduceLT, Int.reduceLE, Int.reduceToNat, Nat.reduceMul, Nat.reduceAdd, Nat.reduceSub, ←decide_not, k3, k4, hc, k7, k8, k10, k13, k15, k15b, k16b, k17, k17b, k18b, k19b, k21, k22, k23, k23b]
  exact ⟨by trivial, X1.trans (F123.trans F24)⟩
theorem CanonAny_spec (a : GP) (w : World) (h : GIs w a.na a.nc a.ra a.rc a.ns a.rs) : Gives Tryd.prog n_loamlaw18_CanonAny #[gPV a] w (.bool true) := by
  obtain ⟨na, nc, ra, rc, ns, rs⟩ := a
  exact CanonAny_walk na ra nc rc ns rs w h
end Go.Proofs.YthhcmoknppljpaaDoor
end
