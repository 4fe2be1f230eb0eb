/- Orders and canons over bare nodes; a trimmed graph is few. Truth values that a call gives. What the statements on canons begin with (sq). The nodes that come in an order are those that are reached; a graph trimmed is a graph picked. A canon's canon; a canon is small. A trimmed graph trimmed again. A canon of which one byte is another. A graph's twin, by the program (sq). The blocks of a twin's nodes. The statement CanonUnlike walked (sq). -/
import Derived.Test.YthhcmoknppljpaaDoorPk1
section
set_option linter.unusedVariables false
set_option linter.unusedSimpArgs false
set_option maxHeartbeats 4000000
namespace Go.Proofs.YthhcmoknppljpaaDoor
open Go.Sh Go.RowKit

theorem ptrs_bare (ns : List GN) (q : Int) : ptrsOf (ns.map bare) q = ptrsOf ns q := by
  unfold ptrsOf
  rw [List.getElem?_map]
  cases ns[q.toNat - 1]? <;> rfl
theorem data_bare (ns : List GN) (q : Int) : dataOf (ns.map bare) q = dataOf ns q := by
  unfold dataOf
  rw [List.getElem?_map]
  cases ns[q.toNat - 1]? <;> rfl
theorem bfs_bare (ns : List GN) : ∀ (f i : Nat) (out : List Int), bfs (ns.map bare) f i out = bfs ns f i out
  | 0, _, _ => rfl
  | f + 1, i, out => by
    by_cases hi : i < out.length
    · rw [bfs_step hi, bfs_step hi, ptrs_bare, List.length_map]
      exact bfs_bare ns f (i + 1) _
    · rw [bfs_end (by omega), bfs_end (by omega)]
theorem can_bare (ns : List GN) (rs : List GR) : canNs (ns.map bare) rs = canNs ns rs ∧ canRs (ns.map bare) rs = canRs ns rs := by
  have ho : ∀ fr, ordV (ns.map bare) fr = ordV ns fr := fun fr => by
    unfold ordV
    rw [bfs_bare, List.length_map]
  unfold canNs canRs
  rw [ho]
  refine ⟨List.map_congr_left fun q _ => ?_, rfl⟩
  unfold canN
  rw [ptrs_bare, data_bare]
end Go.Proofs.YthhcmoknppljpaaDoor
end
section
set_option linter.unusedVariables false
set_option linter.unusedSimpArgs false
set_option maxHeartbeats 4000000
namespace Go.Proofs.YthhcmoknppljpaaDoor
open Go.Sh Go.RowKit

theorem boolTrue {p : Prop} {w w' : World} {u : Value} (h : BoolR p w w' u) (hp : p) : u = .bool true ∧ Ext [] w w' := by
  obtain ⟨⟨b, rfl, hb⟩, F⟩ := h
  rw [hb.2 hp]
  exact ⟨rfl, F⟩
theorem boolFalse {p : Prop} {w w' : World} {u : Value} (h : BoolR p w w' u) (hp : ¬ p) : u = .bool false ∧ Ext [] w w' := by
  obtain ⟨⟨b, rfl, hb⟩, F⟩ := h
  cases b with
  | true => exact absurd (hb.1 rfl) hp
  | false => exact ⟨rfl, F⟩
theorem few_bare {ns ns' : List GN} {rs : List GR} (h : ns'.map bare = ns.map bare) (hf : FewH ns rs) : FewH ns' rs := by
  have hl : ns'.length = ns.length := by simpa using congrArg List.length h
  refine ⟨by have := hf.n; omega, hf.r, fun x hx => ?_⟩
  obtain ⟨i, hi, rfl⟩ := List.getElem_of_mem hx
  obtain ⟨e1, e2⟩ := (sameN_at hl).1 h i hi (by omega)
  rw [e1, e2]
  exact hf.x _ (List.getElem_mem _)
end Go.Proofs.YthhcmoknppljpaaDoor
end
section
set_option linter.unusedVariables false
set_option linter.unusedSimpArgs false
set_option maxHeartbeats 4000000
namespace Go.Proofs.YthhcmoknppljpaaDoor
open Go.Sh Go.RowKit

def qN (a b : Nat) : List GN := [⟨[], none, 0, [120#8], some ⟨a, 0, none⟩, 1⟩, ⟨[1], some ⟨b, 0, none⟩, 1, [], none, 0⟩]
def qR : List GR := [⟨[114#8], 2⟩]
def zN (a b : Nat) : List GN := [⟨[3], some ⟨a, 0, none⟩, 1, [], none, 0⟩, ⟨[], none, 0, [], none, 0⟩, ⟨[], none, 0, [120#8], some ⟨b, 0, none⟩, 1⟩]
def zR : List GR := [⟨[114#8], 1⟩]
def cN : List GN := [⟨[2], none, 0, [], none, 0⟩, ⟨[], none, 0, [120#8], none, 0⟩]
def cR : List GR := [⟨[114#8], 1⟩]
theorem qN_len (a b : Nat) : (qN a b).length = 2 := rfl
theorem qR_len : qR.length = 1 := rfl
theorem zN_len (a b : Nat) : (zN a b).length = 3 := rfl
theorem zR_len : zR.length = 1 := rfl
theorem q_can (a b : Nat) : canNs (qN a b) qR = cN ∧ canRs (qN a b) qR = cR := ⟨rfl, rfl⟩
theorem z_can (a b : Nat) : canNs (zN a b) zR = cN ∧ canRs (zN a b) zR = cR := ⟨rfl, rfl⟩
theorem q_ord (a b : Nat) : ordV (qN a b) [2] = [2, 1] := rfl
theorem c_txt : strOf (txtB cN cR) = { data := #[114, 32, 45, 62, 32, 49, 10, 49, 58, 32, 50, 10, 50, 58, 32, 120, 55, 56, 10] } := by
  have d1 : dB 1 = [49#8] := dB_small (by decide)
  have d2 : dB 2 = [50#8] := dB_small (by decide)
  have e : txtB cN cR = [114#8, 32#8, 45#8, 62#8, 32#8, 49#8, 10#8, 49#8, 58#8, 32#8, 50#8, 10#8, 50#8, 58#8, 32#8, 120#8, 55#8, 56#8, 10#8] := by
    have h1 : rootsB cR = [114#8, 32#8, 45#8, 62#8, 32#8, 49#8, 10#8] := by simp [rootsB, cR, rootB, d1]
    have h2 : nodeB 0 ⟨[2], none, 0, [], none, 0⟩ = [49#8, 58#8, 32#8, 50#8, 10#8] := by simp [nodeB, ptrsB, ptrB, dataB, d1, d2]
    have h3 : nodeB 1 ⟨[], none, 0, [120#8], none, 0⟩ = [50#8, 58#8, 32#8, 120#8, 55#8, 56#8, 10#8] := by
      simp [nodeB, ptrsB, dataB, d2, hexB, hex2]
      decide
    have h4 : nodesB cN 2 = [49#8, 58#8, 32#8, 50#8, 10#8] ++ [50#8, 58#8, 32#8, 120#8, 55#8, 56#8, 10#8] := by
      rw [← h2, ← h3, nodesB_succ (by decide), nodesB_succ (by decide)]
      simp [nodesB, cN]
    unfold txtB
    rw [h1, show cN.length = 2 from rfl, h4]
    rfl
  rw [e]
  decide +kernel
abbrev rsKn18_0 := (And.intro @xu8_com (And.intro @xu8_eql (And.intro @xu16_com (And.intro @xu16_eql (And.intro @xu32_com (And.intro @xu32_eql (And.intro @xu64_com (And.intro @xu64_eql (And.intro @xi64_eql (And.intro @ld_3 (And.intro @ld_25 (And.intro @al_25 (And.intro @st_25 (And.intro @bd_25_0_1 (And.intro @bd_25 (And.intro @bd_52_0 (And.intro @bd_52_0_1 
  (And.intro @bd_52_1 (And.intro @bd_52 (And.intro @bd_55_0_1 (And.intro @fd_25_0 (And.intro @ia_40 (And.intro @ln_22 (And.intro @ln_40 (And.intro @bs_22_1 (And.intro @bs_22_2 (And.intro @bs_22_3 (And.intro @bs_23_0 (And.intro @bs_23_1 (And.intro @bs_40_0 (And.intro @bs_40_1 (And.intro @bs_45_0 (And.intro @bs_45_1 @bs_45_2)))))))))))))))))))))))))))))))))
theorem known18_spec (w : World) : Gives Tryd.prog n_loamlaw18_known #[] w (.bool true) := by
  refine loamlaw18_known_of ?_
  unfold loamlaw18_known
  simp (disch := (first | omega | decide | (simp only [rsD] <;> omega) | fail)) only [↓rsC, rsK, rsL, ↓rsKn18_0, tick_eq, tickV_eq, ne_eq, Int.reduceAdd, Int.reduceSub, Int.reduceMul, Int.reduceEq, Int.reduceLT, Int.reduceLE, Int.reduceToNat, Nat.reduceMul, Nat.reduceAdd, Nat.reduceSub, ←decide_not, eq_self]
  refine xConv_bytes (cs := bys [120#8]) (by kernel_rfl) (by kernel_rfl) fun y2 X2 R2 z2 => ?_
  generalize w.heap.size = g2 at *
  simp (disch := (first | omega | decide | (simp only [rsD] <;> omega) | fail)) only [↓rsC, rsK, rsL, ↓rsKn18_0, tick_eq, tickV_eq, ne_eq, Int.reduceAdd, Int.reduceSub, Int.reduceMul, Int.reduceEq, Int.reduceLT, Int.reduceLE, Int.reduceToNat, Nat.reduceMul, Nat.reduceAdd, Nat.reduceSub, ←decide_not, eq_self]
  have B3 : Blk (y2.alloc (.cells #[i64 1] 3)) y2.heap.size 3 [i64 1] := Blk.at rfl
  have X3 : Ext [] y2 (y2.alloc (.cells #[i64 1] 3)) := Ext.alloc _ _ _
  have zs3 : (y2.alloc (.cells #[i64 1] 3)).heap.size = y2.heap.size + 1 := World.size_alloc _ _
  generalize y2.alloc (.cells #[i64 1] 3) = y3 at *
  rw [← zs3]
  have B4 : Blk (y3.alloc (.cells #[.slice none 0 0, .slice (some ⟨g2, 0, none⟩) 1 1, .slice (some ⟨y2.heap.size, 0, none⟩) 1 1, .slice none 0 0] 52)) y3.heap.size 52 [.slice none 0 0, .slice (some ⟨g2, 0, none⟩) 1 1, .slice (some ⟨y2.heap.size, 0, none⟩) 1 1, .slice none 0 0] := Blk.at rfl
  have X4 : Ext [] y3 (y3.alloc (.cells #[.slice none 0 0, .slice (some ⟨g2, 0, none⟩) 1 1, .slice (some ⟨y2.heap.size, 0, none⟩) 1 1, .slice none 0 0] 52)) := Ext.alloc _ _ _
  have zs4 : (y3.alloc (.cells #[.slice none 0 0, .slice (some ⟨g2, 0, none⟩) 1 1, .slice (some ⟨y2.heap.size, 0, none⟩) 1 1, .slice none 0 0] 52)).heap.size = y3.heap.size + 1 := World.size_alloc _ _
  generalize y3.alloc (.cells #[.slice none 0 0, .slice (some ⟨g2, 0, none⟩) 1 1, .slice (some ⟨y2.heap.size, 0, none⟩) 1 1, .slice none 0 0] 52) = y4 at *
  rw [← zs4]
  have B5 : Blk (y4.alloc (.cells #[.string ⟨#[114]⟩, i64 2] 55)) y4.heap.size 55 [.string ⟨#[114]⟩, i64 2] := Blk.at rfl
  have X5 : Ext [] y4 (y4.alloc (.cells #[.string ⟨#[114]⟩, i64 2] 55)) := Ext.alloc _ _ _
  have zs5 : (y4.alloc (.cells #[.string ⟨#[114]⟩, i64 2] 55)).heap.size = y4.heap.size + 1 := World.size_alloc _ _
  generalize y4.alloc (.cells #[.string ⟨#[114]⟩, i64 2] 55) = y5 at *
  rw [← zs5]
  have B6 : Blk (y5.alloc (.cells #[.slice (some ⟨y3.heap.size, 0, none⟩) 2 2, .slice (some ⟨y4.heap.size, 0, none⟩) 1 1] 25)) y5.heap.size 25 [.slice (some ⟨y3.heap.size, 0, none⟩) 2 2, .slice (some ⟨y4.heap.size, 0, none⟩) 1 1] := Blk.at rfl
  have X6 : Ext [] y5 (y5.alloc (.cells #[.slice (some ⟨y3.heap.size, 0, none⟩) 2 2, .slice (some ⟨y4.heap.size, 0, none⟩) 1 1] 25)) := Ext.alloc _ _ _
  have zs6 : (y5.alloc (.cells #[.slice (some ⟨y3.heap.size, 0, none⟩) 2 2, .slice (some ⟨y4.heap.size, 0, none⟩) 1 1] 25)).heap.size = y5.heap.size + 1 := World.size_alloc _ _
  generalize y5.alloc (.cells #[.slice (some ⟨y3.heap.size, 0, none⟩) 2 2, .slice (some ⟨y4.heap.size, 0, none⟩) 1 1] 25) = y6 at *
  rw [← zs6]
  have B7 : Blk (y6.alloc (.cells #[i64 3] 3)) y6.heap.size 3 [i64 3] := Blk.at rfl
  have X7 : Ext [] y6 (y6.alloc (.cells #[i64 3] 3)) := Ext.alloc _ _ _
  have zs7 : (y6.alloc (.cells #[i64 3] 3)).heap.size = y6.heap.size + 1 := World.size_alloc _ _
  generalize y6.alloc (.cells #[i64 3] 3) = y7 at *
  rw [← zs7]
  refine xConv_bytes (cs := bys [120#8]) (by kernel_rfl) (by kernel_rfl) fun y8 X8 R8 z8 => ?_
  simp (disch := (first | omega | decide | (simp only [rsD] <;> omega) | fail)) only [↓rsC, rsK, rsL, ↓rsKn18_0, tick_eq, tickV_eq, ne_eq, Int.reduceAdd, Int.reduceSub, Int.reduceMul, Int.reduceEq, Int.reduceLT, Int.reduceLE, Int.reduceToNat, Nat.reduceMul, Nat.reduceAdd, Nat.reduceSub, ←decide_not, eq_self]
  simp only [World.size_alloc, size_sets]
  rw [← zs6]
  have B9 : Blk (y8.alloc (.cells #[.slice (some ⟨y6.heap.size, 0, none⟩) 1 1, .slice none 0 0, .slice none 0 0, .slice none 0 0, .slice none 0 0, .slice (some ⟨y7.heap.size, 0, none⟩) 1 1] 52)) y8.heap.size 52 [.slice (some ⟨y6.heap.size, 0, none⟩) 1 1, .slice none 0 0, .slice none 0 0, .slice none 0 0, .slice none 0 0, .slice (some ⟨y7.heap.size, 0, none⟩) 1 1] := Blk.at rfl
  have X9 : Ext [] y8 (y8.alloc (.cells #[.slice (some ⟨y6.heap.size, 0, none⟩) 1 1, .slice none 0 0, .slice none 0 0, .slice none 0 0, .slice none 0 0, .slice (some ⟨y7.heap.size, 0, none⟩) 1 1] 52)) := Ext.alloc _ _ _
  have zs9 : (y8.alloc (.cells #[.slice (some ⟨y6.heap.size, 0, none⟩) 1 1, .slice none 0 0, .slice none 0 0, .slice none 0 0, .slice none 0 0, .slice (some ⟨y7.heap.size, 0, none⟩) 1 1] 52)).heap.size = y8.heap.size + 1 := World.size_alloc _ _
  generalize y8.alloc (.cells #[.slice (some ⟨y6.heap.size, 0, none⟩) 1 1, .slice none 0 0, .slice none 0 0, .slice none 0 0, .slice none 0 0, .slice (some ⟨y7.heap.size, 0, none⟩) 1 1] 52) = y9 at *
  rw [← zs9]
  have B10 : Blk (y9.alloc (.cells #[.string ⟨#[114]⟩, i64 1] 55)) y9.heap.size 55 [.string ⟨#[114]⟩, i64 1] := Blk.at rfl
  have X10 : Ext [] y9 (y9.alloc (.cells #[.string ⟨#[114]⟩, i64 1] 55)) := Ext.alloc _ _ _
  have zs10 : (y9.alloc (.cells #[.string ⟨#[114]⟩, i64 1] 55)).heap.size = y9.heap.size + 1 := World.size_alloc _ _
  generalize y9.alloc (.cells #[.string ⟨#[114]⟩, i64 1] 55) = y10 at *
  rw [← zs10]
  have B11 : Blk (y10.alloc (.cells #[.slice (some ⟨y8.heap.size, 0, none⟩) 3 3, .slice (some ⟨y9.heap.size, 0, none⟩) 1 1] 25)) y10.heap.size 25 [.slice (some ⟨y8.heap.size, 0, none⟩) 3 3, .slice (some ⟨y9.heap.size, 0, none⟩) 1 1] := Blk.at rfl
  have X11 : Ext [] y10 (y10.alloc (.cells #[.slice (some ⟨y8.heap.size, 0, none⟩) 3 3, .slice (some ⟨y9.heap.size, 0, none⟩) 1 1] 25)) := Ext.alloc _ _ _
  have zs11 : (y10.alloc (.cells #[.slice (some ⟨y8.heap.size, 0, none⟩) 3 3, .slice (some ⟨y9.heap.size, 0, none⟩) 1 1] 25)).heap.size = y10.heap.size + 1 := World.size_alloc _ _
  generalize y10.alloc (.cells #[.slice (some ⟨y8.heap.size, 0, none⟩) 3 3, .slice (some ⟨y9.heap.size, 0, none⟩) 1 1] 25) = y11 at *
  have cA : ({ data := #[114] } : ByteArray) = strOf [114#8] := by decide +kernel
  rw [cA] at B5 B10
  obtain ⟨gi, hgi⟩ : ∃ g, g = y2.heap.size := ⟨_, rfl⟩
  obtain ⟨gn, hgn⟩ : ∃ g, g = y3.heap.size := ⟨_, rfl⟩
  obtain ⟨gr, hgr⟩ : ∃ g, g = y4.heap.size := ⟨_, rfl⟩
  obtain ⟨ga, hga⟩ : ∃ g, g = y5.heap.size := ⟨_, rfl⟩
  obtain ⟨gj, hgj⟩ : ∃ g, g = y6.heap.size := ⟨_, rfl⟩
  obtain ⟨gk, hgk⟩ : ∃ g, g = y7.heap.size := ⟨_, rfl⟩
  obtain ⟨gm, hgm⟩ : ∃ g, g = y8.heap.size := ⟨_, rfl⟩
  obtain ⟨gs, hgs⟩ : ∃ g, g = y9.heap.size := ⟨_, rfl⟩
  obtain ⟨gb, hgb⟩ : ∃ g, g = y10.heap.size := ⟨_, rfl⟩
  rw [← hgi] at B3 B4
  rw [← hgn] at B4 B6
  rw [← hgr] at B5 B6
  rw [← hga] at B6 ⊢
  rw [← hgj] at B7 B9
  rw [← hgk] at R8 B9
  rw [← hgm] at B9 B11
  rw [← hgs] at B10 B11
  rw [← hgb] at B11 ⊢
  have X911 := X9.trans (X10.trans X11)
  have X811 := X911
  have X711 := X8.trans X811
  have X611 := X7.trans X711
  have X511 := X6.trans X611
  have X411 := X5.trans X511
  have X311 := X4.trans X411
  have X211 := X3.trans X311
  have Xw := X2.trans X211
  have GA : GIs y11 (some ⟨gn, 0, none⟩) 2 (some ⟨gr, 0, none⟩) 1 (qN g2 gi) qR := by
    refine ⟨(B4.ext X411 (by simp)).row, Nat.le_refl _, fun e => (by cases e), (B5.ext X511 (by simp)).row, Nat.le_refl _, fun e => (by cases e), fun x hx => ?_⟩
    simp only [qN, List.mem_cons, List.not_mem_nil, or_false] at hx
    rcases hx with rfl | rfl
    · exact ⟨.nil, Nat.le_refl _, fun _ => rfl, R2.ext0 X211, Nat.le_refl _, fun e => (by cases e)⟩
    · exact ⟨(B3.ext X311 (by simp)).row, Nat.le_refl _, fun e => (by cases e), .nil, Nat.le_refl _, fun _ => rfl⟩
  have GB : GIs y11 (some ⟨gm, 0, none⟩) 3 (some ⟨gs, 0, none⟩) 1 (zN gj gk) zR := by
    refine ⟨(B9.ext (X10.trans X11) (by simp)).row, Nat.le_refl _, fun e => (by cases e), (B10.ext X11 (by simp)).row, Nat.le_refl _, fun e => (by cases e), fun x hx => ?_⟩
    simp only [zN, List.mem_cons, List.not_mem_nil, or_false] at hx
    rcases hx with rfl | rfl | rfl
    · exact ⟨(B7.ext X711 (by simp)).row, Nat.le_refl _, fun e => (by cases e), .nil, Nat.le_refl _, fun _ => rfl⟩
    · exact ⟨.nil, Nat.le_refl _, fun _ => rfl, .nil, Nat.le_refl _, fun _ => rfl⟩
    · exact ⟨.nil, Nat.le_refl _, fun _ => rfl, R8.ext0 X811, Nat.le_refl _, fun e => (by cases e)⟩
  have hfa : FewH (qN g2 gi) qR := ⟨by simp [qN], by simp [qR], fun x hx => by
    simp only [qN, List.mem_cons, List.not_mem_nil, or_false] at hx
    rcases hx with rfl | rfl <;> simp⟩
  have hfb : FewH (zN gj gk) zR := ⟨by simp [zN], by simp [zR], fun x hx => by
    simp only [zN, List.mem_cons, List.not_mem_nil, or_false] at hx
    rcases hx with rfl | rfl | rfl <;> simp⟩
  have B6' := B6.ext X611 (by simp)
  have k8a := fun i => (B6.ext (X7.trans X8) (by simp)).cell (i := i)
  have k11a := fun i => B6'.cell (i := i)
  have k11b := fun i => B11.cell (i := i)
  clear X2 X3 X4 X5 X6 X7 X8 X9 X10 X11 B3 B4 B5 B7 B9 B10 R2 R8 X911 X811 X711 X611 X511 X411 X311 X211
  simp (disch := (first | omega | decide | (simp only [rsD] <;> omega) | fail)) only [↓rsC, rsK, rsL, ↓rsKn18_0, tick_eq, tickV_eq, ne_eq, Int.reduceAdd, Int.reduceSub, Int.reduceMul, Int.reduceEq, Int.reduceLT, Int.reduceLE, Int.reduceToNat, Nat.reduceMul, Nat.reduceAdd, Nat.reduceSub, ←decide_not, k11a, k11b, k8a]
  have hS := CSame_spec GA GB hfa hfb
  simp only [gV, qN_len, qR_len, zN_len, zR_len] at hS
  refine canon_Same_call (Yld.mono hS ?_)
  rintro u y12 hu
  obtain ⟨rfl, F12⟩ := boolTrue hu ⟨(q_can _ _).1.trans (z_can _ _).1.symm, (q_can _ _).2.trans (z_can _ _).2.symm⟩
  have k12a := fun i => (B6'.ext F12 (by simp)).cell (i := i)
  have k12b := fun i => (B11.ext F12 (by simp)).cell (i := i)
  simp (disch := (first | omega | decide | (simp only [rsD] <;> omega) | fail)) only [↓rsC, rsK, rsL, ↓rsKn18_0, tick_eq, tickV_eq, ne_eq, Int.reduceAdd, Int.reduceSub, Int.reduceMul, Int.reduceEq, Int.reduceLT, Int.reduceLE, Int.reduceToNat, Nat.reduceMul, Nat.reduceAdd, Nat.reduceSub, ←decide_not, k11a, k11b, k8a, k12a, k12b]
  have hE := GEqual_spec (GA.ext0 F12) (GB.ext0 F12) hfa hfb
  simp only [gV, qN_len, qR_len, zN_len, zR_len] at hE
  refine graph_Equal_call (Yld.mono hE ?_)
  rintro u y13 hu
  obtain ⟨rfl, F13⟩ := boolFalse hu (fun h => by
    have h2 := congrArg List.length h.1
    rw [List.length_map, List.length_map] at h2
    cases h2)
  have F113 := F12.trans F13
  have k13a := fun i => (B6'.ext F113 (by simp)).cell (i := i)
  simp (disch := (first | omega | decide | (simp only [rsD] <;> omega) | fail)) only [↓rsC, rsK, rsL, ↓rsKn18_0, tick_eq, tickV_eq, ne_eq, Int.reduceAdd, Int.reduceSub, Int.reduceMul, Int.reduceEq, Int.reduceLT, Int.reduceLE, Int.reduceToNat, Nat.reduceMul, Nat.reduceAdd, Nat.reduceSub, ←decide_not, k11a, k11b, k8a, k12a, k12b, k13a]
  have hts : TxS (canNs (qN g2 gi) qR) (canRs (qN g2 gi) qR) := by
    rw [(q_can _ _).1, (q_can _ _).2]
    refine ⟨by decide, by decide, fun r hr => ?_, fun x hx => ?_⟩
    · simp only [cR, List.mem_cons, List.not_mem_nil, or_false] at hr
      subst hr
      decide
    · simp only [cN, List.mem_cons, List.not_mem_nil, or_false] at hx
      rcases hx with rfl | rfl <;> simp
  have hT := CText_spec (GA.ext0 F113) hfa hts
  simp only [gV, qN_len, qR_len, zN_len, zR_len] at hT
  refine canon_Text_call (Yld.mono hT ?_)
  rintro u y14 ⟨rfl, F14⟩
  rw [(q_can _ _).1, (q_can _ _).2, c_txt]
  have F114 := F113.trans F14
  have k14b := fun i => (B11.ext F114 (by simp)).cell (i := i)
  simp (disch := (first | omega | decide | (simp only [rsD] <;> omega) | fail)) only [↓rsC, rsK, rsL, ↓rsKn18_0, tick_eq, tickV_eq, ne_eq, Int.reduceAdd, Int.reduceSub, Int.reduceMul, Int.reduceEq, Int.reduceLT, Int.reduceLE, Int.reduceToNat, Nat.reduceMul, Nat.reduceAdd, Nat.reduceSub, ←decide_not, k11a, k11b, k8a, k12a, k12b, k13a, k14b]
  have hC := Canon_spec (GB.ext0 F114) hfb
  simp only [gV, qN_len, qR_len, zN_len, zR_len] at hC
  refine canon_Canon_call (Yld.mono hC ?_)
  rintro u y15 ⟨F15, na', nc', ra', rc', ns', hns, rfl, _⟩
  have hl : ns'.length = 2 := by
    have := congrArg List.length hns
    rw [List.length_map, (z_can _ _).1] at this
    exact this
  have F115 := F114.trans F15
  have k15a := fun i => (B6'.ext F115 (by simp)).cell (i := i)
  simp (disch := (first | omega | decide | (simp only [rsD] <;> omega) | fail)) only [↓rsC, rsK, rsL, ↓rsKn18_0, tick_eq, tickV_eq, ne_eq, Int.reduceAdd, Int.reduceSub, Int.reduceMul, Int.reduceEq, Int.reduceLT, Int.reduceLE, Int.reduceToNat, Nat.reduceMul, Nat.reduceAdd, Nat.reduceSub, ←decide_not, k11a, k11b, k8a, k12a, k12b, k13a, k14b, k15a, hl]
  have hO1 := Order_spec (GA.ext0 F115) hfa
  simp only [gV, qN_len, qR_len, zN_len, zR_len] at hO1
  refine canon_Order_call (Yld.mono hO1 ?_)
  rintro u y16 ⟨F16, a16, rfl, _⟩
  have F116 := F115.trans F16
  have k16a := fun i => (B6'.ext F116 (by simp)).cell (i := i)
  have ho : ordV (qN g2 gi) (tosL qR) = [2, 1] := q_ord _ _
  have ho2 : ([2, 1] : List Int).length = 2 := rfl
  rw [ho]
  simp (disch := (first | omega | decide | (simp only [rsD] <;> omega) | fail)) only [↓rsC, rsK, rsL, ↓rsKn18_0, tick_eq, tickV_eq, ne_eq, Int.reduceAdd, Int.reduceSub, Int.reduceMul, Int.reduceEq, Int.reduceLT, Int.reduceLE, Int.reduceToNat, Nat.reduceMul, Nat.reduceAdd, Nat.reduceSub, ←decide_not, k11a, k11b, k8a, k12a, k12b, k13a, k14b, k15a, hl, k16a, ho2]
  have hO2 := Order_spec (GA.ext0 F116) hfa
  simp only [gV, qN_len, qR_len, zN_len, zR_len] at hO2
  refine canon_Order_call (Yld.mono hO2 ?_)
  rintro u y17 ⟨F17, a17, rfl, R17, _⟩
  rw [ho] at R17 ⊢
  obtain ⟨b17, o17, rfl, _, c17⟩ := its_at R17 (k := 0) (by decide)
  have F117 := F116.trans F17
  have c17' : y17.cell? ⟨b17, o17, none⟩ = some (i64 2) := c17
  simp (disch := (first | omega | decide | (simp only [rsD] <;> omega) | fail)) only [↓rsC, rsK, rsL, ↓rsKn18_0, tick_eq, tickV_eq, ne_eq, Int.reduceAdd, Int.reduceSub, Int.reduceMul, Int.reduceEq, Int.reduceLT, Int.reduceLE, Int.reduceToNat, Nat.reduceMul, Nat.reduceAdd, Nat.reduceSub, ←decide_not, k11a, k11b, k8a, k12a, k12b, k13a, k14b, k15a, hl, k16a, ho2, c17']
  exact ⟨trivial, Xw.trans F117⟩
end Go.Proofs.YthhcmoknppljpaaDoor
end
section
set_option linter.unusedVariables false
set_option linter.unusedSimpArgs false
set_option maxHeartbeats 4000000
namespace Go.Proofs.YthhcmoknppljpaaDoor
open Go.Sh Go.RowKit

theorem addN_mem {n : Nat} {out : List Int} {p q : Int} : q ∈ addN n out p ↔ q ∈ out ∨ (q = p ∧ okNo n p) := by
  unfold addN
  split
  · rename_i h
    rw [List.mem_append, List.mem_singleton]
    constructor
    · rintro (h1 | h1)
      · exact .inl h1
      · exact .inr ⟨h1, h.1⟩
    · rintro (h1 | h1)
      · exact .inl h1
      · exact .inr h1.1
  · rename_i h
    constructor
    · exact .inl
    · rintro (h1 | ⟨rfl, h1⟩)
      · exact h1
      · exact Classical.byContradiction fun h2 => h ⟨h1, h2⟩
theorem addL_mem {n : Nat} : ∀ (ps : List Int) {out : List Int} {q : Int}, q ∈ addL n out ps ↔ q ∈ out ∨ (q ∈ ps ∧ okNo n q)
  | [], out, q => by simp [addL]
  | p :: ps, out, q => by
    have e : addL n out (p :: ps) = addL n (addN n out p) ps := rfl
    rw [e, addL_mem ps, addN_mem, List.mem_cons]
    constructor
    · rintro ((h | ⟨rfl, h⟩) | h)
      · exact .inl h
      · exact .inr ⟨.inl rfl, h⟩
      · exact .inr ⟨.inr h.1, h.2⟩
    · rintro (h | ⟨rfl | h, h2⟩)
      · exact .inl (.inl h)
      · exact .inl (.inr ⟨rfl, h2⟩)
      · exact .inr ⟨h, h2⟩
theorem addN_pre {n : Nat} {out : List Int} {p : Int} {k : Nat} (h : k < out.length) : (addN n out p)[k]? = out[k]? := by
  unfold addN
  split
  · rw [List.getElem?_append_left h]
  · rfl
theorem addN_len' {n : Nat} {out : List Int} {p : Int} : out.length ≤ (addN n out p).length := by
  unfold addN
  split
  · simp
  · exact Nat.le_refl _
theorem addL_pre {n : Nat} : ∀ (ps : List Int) {out : List Int} {k : Nat}, k < out.length → (addL n out ps)[k]? = out[k]?
  | [], _, _, _ => rfl
  | p :: ps, out, k, h => by
    have e : addL n out (p :: ps) = addL n (addN n out p) ps := rfl
    have := addN_len' (n := n) (out := out) (p := p)
    rw [e, addL_pre ps (by omega), addN_pre h]
theorem bfs_mem {ns : List GN} {fr : List Int} : ∀ (f i : Nat) (out : List Int), OutOk ns.length out → ns.length < i + f → (∀ q ∈ out, Rch ns fr q) → (∀ p ∈ fr, okNo ns.length p → p ∈ out) →
    (∀ k q, k < i → out[k]? = some q → ∀ p ∈ ptrsOf ns q, okNo ns.length p → p ∈ out) → ∀ q, q ∈ bfs ns f i out ↔ Rch ns fr q := by
  have fin : ∀ (i : Nat) (out : List Int), out.length ≤ i → (∀ q ∈ out, Rch ns fr q) → (∀ p ∈ fr, okNo ns.length p → p ∈ out) →
      (∀ k q, k < i → out[k]? = some q → ∀ p ∈ ptrsOf ns q, okNo ns.length p → p ∈ out) → ∀ q, q ∈ out ↔ Rch ns fr q := by
    intro i out hi h1 h2 h3 q
    refine ⟨h1 q, fun h => ?_⟩
    induction h with
    | base a b => exact h2 _ a b
    | @step j p hj a b c ih =>
      obtain ⟨k, hk, e⟩ := List.getElem_of_mem ih
      refine h3 k _ (by omega) (by rw [List.getElem?_eq_getElem hk, e]) p ?_ c
      unfold ptrsOf
      rw [show ((j : Int) + 1).toNat - 1 = j by omega, List.getElem?_eq_getElem hj]
      exact b
  intro f
  induction f with
  | zero =>
    intro i out ho hf h1 h2 h3
    have := ho.len
    exact fin i out (by omega) h1 h2 h3
  | succ f ih =>
    intro i out ho hf h1 h2 h3
    by_cases hi : i < out.length
    · rw [bfs_step hi]
      refine ih (i + 1) _ (OutOk.addL _ ho) (by omega) (fun q hq => ?_) (fun p hp hpo => addL_sub _ (h2 p hp hpo)) fun k q hk hq p hp hpo => ?_
      · rcases (addL_mem _).1 hq with h | ⟨h, h4⟩
        · exact h1 q h
        · have hq1 := ho.ok _ (List.getElem_mem hi)
          have hj : out[i].toNat - 1 < ns.length := by omega
          unfold ptrsOf at h
          rw [List.getElem?_eq_getElem hj] at h
          refine .step hj ?_ h h4
          have e : ((out[i].toNat - 1 : Nat) : Int) + 1 = out[i] := by omega
          rw [e]
          exact h1 _ (List.getElem_mem hi)
      · by_cases hki : k < i
        · rw [addL_pre _ (by omega)] at hq
          exact addL_sub _ (h3 k q hki hq p hp hpo)
        · have e : k = i := by omega
          subst e
          rw [addL_pre _ hi, List.getElem?_eq_getElem hi] at hq
          have e2 := Option.some.inj hq
          subst e2
          exact (addL_mem _).2 (.inr ⟨hp, hpo⟩)
    · rw [bfs_end (by omega)]
      exact fin i out (by omega) h1 h2 h3
theorem ord_mem (ns : List GN) (fr : List Int) (q : Int) : q ∈ ordV ns fr ↔ Rch ns fr q := by
  unfold ordV
  refine bfs_mem _ _ _ (OutOk.addL _ OutOk.nil) (by omega) (fun q hq => ?_) (fun p hp hpo => (addL_mem _).2 (.inr ⟨hp, hpo⟩)) (fun k q hk => by omega) q
  rcases (addL_mem _).1 hq with h | ⟨h, h2⟩
  · cases h
  · exact .base h h2
/-! picked in their own order -/
end Go.Proofs.YthhcmoknppljpaaDoor
end
section
set_option linter.unusedVariables false
set_option linter.unusedSimpArgs false
set_option maxHeartbeats 4000000
namespace Go.Proofs.YthhcmoknppljpaaDoor
open Go.Sh Go.RowKit

theorem noV_in {ord : List Int} {p : Int} (h : p ∈ ord) : noV ord p = (ord.idxOf p : Int) + 1 := by unfold noV; rw [if_pos h]
theorem noV_out {ord : List Int} {p : Int} (h : p ∉ ord) : noV ord p = 0 := by unfold noV; rw [if_neg h]
theorem noV_ran (ord : List Int) (p : Int) : 0 ≤ noV ord p ∧ noV ord p ≤ ord.length := by
  by_cases h : p ∈ ord
  · rw [noV_in h]
    have := List.idxOf_lt_length_of_mem h
    omega
  · rw [noV_out h]
    omega
theorem ptrs_getd {ns : List GN} {q : Int} (h : okNo ns.length q) : ∃ hj : q.toNat - 1 < ns.length, ptrsOf ns q = ns[q.toNat - 1].p ∧ dataOf ns q = ns[q.toNat - 1].d := by
  unfold okNo at h
  have hj : q.toNat - 1 < ns.length := by omega
  refine ⟨hj, ?_, ?_⟩
  · unfold ptrsOf
    rw [List.getElem?_eq_getElem hj]
  · unfold dataOf
    rw [List.getElem?_eq_getElem hj]
theorem pick_iso {ns : List GN} {ord : List Int} (hO : OutOk ns.length ord) (hc : ∀ q ∈ ord, ∀ p ∈ ptrsOf ns q, okNo ns.length p → p ∈ ord) (more : List GN) : Iso ns (ord.map (canN ns ord) ++ more) (fun p => p ∈ ord) (noV ord) := by
  have hlen : (ord.map (canN ns ord)).length = ord.length := by simp
  have hat : ∀ q (hq : q ∈ ord), (ord.map (canN ns ord) ++ more)[(noV ord q).toNat - 1]? = some (canN ns ord q) := fun q hq => by
    have hi := List.idxOf_lt_length_of_mem hq
    rw [noV_in hq, show ((ord.idxOf q : Int) + 1).toNat - 1 = ord.idxOf q by omega, List.getElem?_append_left (by omega), List.getElem?_map, List.getElem?_eq_getElem hi, List.getElem_idxOf]
    rfl
  refine ⟨fun p q hp hq e => ?_, fun p hp => ⟨hO.ok p hp, ?_⟩, fun q hq => ?_, fun q hq p hp => ?_⟩
  · rw [noV_in hp, noV_in hq] at e
    have e1 : ord.idxOf p = ord.idxOf q := by omega
    have h1 := List.getElem_idxOf (List.idxOf_lt_length_of_mem hp)
    have h2 := List.getElem_idxOf (List.idxOf_lt_length_of_mem hq)
    rw [← h1, ← h2]
    simp only [e1]
  · have := List.idxOf_lt_length_of_mem hp
    rw [noV_in hp]
    unfold okNo
    rw [List.length_append, hlen]
    omega
  · have h1 := hat q hq
    unfold ptrsOf dataOf
    rw [h1]
    exact ⟨rfl, rfl⟩
  · by_cases h : okNo ns.length p
    · exact .inl (hc q hq p hp h)
    · refine .inr ⟨h, ?_⟩
      rw [noV_out fun hm => h (hO.ok p hm)]
      unfold okNo
      omega
theorem can_idem (ns : List GN) (rs : List GR) : canNs (canNs ns rs) (canRs ns rs) = canNs ns rs ∧ canRs (canNs ns rs) (canRs ns rs) = canRs ns rs := by
  have hO := ord_ok ns (rs.map GR.to)
  have I := pick_iso hO (fun q hq p hp ho => by
    rw [ord_mem] at hq ⊢
    obtain ⟨hj, e, _⟩ := ptrs_getd hq.ok
    rw [e] at hp
    have ho' := hq.ok
    unfold okNo at ho'
    refine .step hj ?_ hp ho
    rwa [show ((q.toNat - 1 : Nat) : Int) + 1 = q by omega]) []
  rw [List.append_nil] at I
  refine iso_can I rfl fun r hr => ?_
  by_cases ho : okNo ns.length r.to
  · exact .inl ((ord_mem _ _ _).2 (.base (List.mem_map.2 ⟨r, hr, rfl⟩) ho))
  · refine .inr ⟨ho, ?_⟩
    rw [noV_out fun hm => ho (hO.ok _ hm)]
    unfold okNo
    omega
theorem can_txs {ns : List GN} {rs : List GR} (hn : ns.length ≤ 70) (hr : rs.length ≤ 80) (hs : ∀ r ∈ rs, r.s.length ≤ 40) (hx : ∀ x ∈ ns, x.p.length ≤ 70 ∧ x.d.length ≤ 1100) : TxS (canNs ns rs) (canRs ns rs) := by
  have hO := ord_ok ns (rs.map GR.to)
  have hol := hO.len
  refine ⟨by simp [canNs]; omega, by simpa [canRs] using hr, fun r h => ?_, fun x h => ?_⟩
  · obtain ⟨q, hq, rfl⟩ := List.mem_map.1 h
    have := noV_ran (ordV ns (rs.map GR.to)) q.to
    exact ⟨hs q hq, by simp only; omega, by simp only; omega⟩
  · obtain ⟨q, hq, rfl⟩ := List.mem_map.1 h
    obtain ⟨hj, e1, e2⟩ := ptrs_getd (hO.ok q hq)
    have h1 := hx _ (List.getElem_mem hj)
    unfold canN
    refine ⟨fun p hp => ?_, ?_, ?_⟩
    · obtain ⟨q', _, rfl⟩ := List.mem_map.1 hp
      have := noV_ran (ordV ns (rs.map GR.to)) q'
      omega
    · simp only [List.length_map, e1]
      exact h1.1
    · simp only [e2]
      exact h1.2
end Go.Proofs.YthhcmoknppljpaaDoor
end
section
set_option linter.unusedVariables false
set_option linter.unusedSimpArgs false
set_option maxHeartbeats 4000000
namespace Go.Proofs.YthhcmoknppljpaaDoor
open Go.Sh Go.RowKit

end Go.Proofs.YthhcmoknppljpaaDoor
end
section
set_option linter.unusedVariables false
set_option linter.unusedSimpArgs false
set_option maxHeartbeats 4000000
namespace Go.Proofs.YthhcmoknppljpaaDoor
open Go.Sh Go.RowKit

def dsum (ns : List GN) (k : Nat) : Nat := ((ns.take k).map fun x => x.d.length).sum
theorem dsum_succ {ns : List GN} {k : Nat} (h : k < ns.length) : dsum ns (k + 1) = dsum ns k + ns[k].d.length := by
  unfold dsum
  rw [List.take_add_one, List.getElem?_eq_getElem h, Option.toList_some]
  simp only [List.map_append, List.map_cons, List.map_nil]
  simp
theorem dsum_le {ns : List GN} {B : Nat} (h : ∀ x ∈ ns, x.d.length ≤ B) : ∀ k, k ≤ ns.length → dsum ns k ≤ k * B
  | 0, _ => by simp [dsum]
  | k + 1, hk => by
    have h1 := dsum_le h k (by omega)
    have h2 := h _ (List.getElem_mem (by omega : k < ns.length))
    rw [dsum_succ (by omega), Nat.succ_mul]
    omega
theorem dsum_bare {ns ms : List GN} (h : ms.map bare = ns.map bare) (k : Nat) : dsum ms k = dsum ns k := by
  have e : ∀ l : List GN, dsum l k = (((l.map bare).take k).map fun x => x.d.length).sum := fun l => by
    unfold dsum
    rw [← List.map_take, List.map_map]
    rfl
  rw [e, e, h]
/-- bytes that are another one at a place -/
def bump (x : GN) (k : Nat) (b : BitVec 8) : GN := ⟨x.p, x.pa, x.pc, x.d.set k b, x.da, x.dc⟩
def bumpN (ns : List GN) (j k : Nat) (b : BitVec 8) : List GN := ns.modify j fun x => bump x k b
theorem bumpN_len (ns : List GN) (j k : Nat) (b : BitVec 8) : (bumpN ns j k b).length = ns.length := by simp [bumpN]
theorem bumpN_at {ns : List GN} {j k : Nat} {b : BitVec 8} {i : Nat} (h : i < ns.length) : (bumpN ns j k b)[i]'(by rw [bumpN_len]; exact h) = if i = j then bump ns[i] k b else ns[i] := by
  unfold bumpN
  rw [List.getElem_modify]
  by_cases e : i = j
  · rw [if_pos e, if_pos e.symm]
  · rw [if_neg e, if_neg (fun h => e h.symm)]
theorem bump_ptrs (ns : List GN) (j k : Nat) (b : BitVec 8) (q : Int) : ptrsOf (bumpN ns j k b) q = ptrsOf ns q := by
  unfold ptrsOf
  by_cases h : q.toNat - 1 < ns.length
  · rw [List.getElem?_eq_getElem h, List.getElem?_eq_getElem (by rw [bumpN_len]; exact h), bumpN_at h]
    by_cases e : q.toNat - 1 = j
    · rw [if_pos e]; rfl
    · rw [if_neg e]
  · rw [List.getElem?_eq_none (l := bumpN ns j k b) (by rw [bumpN_len]; omega), List.getElem?_eq_none (l := ns) (by omega)]
theorem bump_bfs (ns : List GN) (j k : Nat) (b : BitVec 8) : ∀ (f i : Nat) (out : List Int), bfs (bumpN ns j k b) f i out = bfs ns f i out
  | 0, _, _ => rfl
  | f + 1, i, out => by
    by_cases hi : i < out.length
    · rw [bfs_step hi, bfs_step hi, bump_ptrs, bumpN_len]
      exact bump_bfs ns j k b f (i + 1) _
    · rw [bfs_end (by omega), bfs_end (by omega)]
theorem bump_ord (ns : List GN) (j k : Nat) (b : BitVec 8) (fr : List Int) : ordV (bumpN ns j k b) fr = ordV ns fr := by
  unfold ordV
  rw [bump_bfs, bumpN_len]
/-- of a canon all nodes are reached, in their order -/
theorem can_all {ns : List GN} {rs : List GR} : ordV (canNs ns rs) (tosL (canRs ns rs)) = (List.range (canNs ns rs).length).map fun (i : Nat) => (i : Int) + 1 := by
  have hO := ord_ok ns (rs.map GR.to)
  have I := pick_iso hO (fun q hq p hp ho => by
    rw [ord_mem] at hq ⊢
    obtain ⟨hj, e, _⟩ := ptrs_getd hq.ok
    rw [e] at hp
    have ho' := hq.ok
    unfold okNo at ho'
    refine .step hj ?_ hp ho
    rwa [show ((q.toNat - 1 : Nat) : Int) + 1 = q by omega]) []
  rw [List.append_nil] at I
  have h := (iso_ord I (fr := rs.map GR.to) fun p hp => by
    by_cases ho : okNo ns.length p
    · exact .inl ((ord_mem _ _ _).2 (.base hp ho))
    · refine .inr ⟨ho, ?_⟩
      rw [noV_out fun hm => ho (hO.ok _ hm)]
      unfold okNo
      omega).1
  have e : tosL (canRs ns rs) = (rs.map GR.to).map (noV (ordV ns (rs.map GR.to))) := by
    unfold tosL canRs
    rw [List.map_map, List.map_map]
    rfl
  rw [e]
  refine h.trans ?_
  have hl : (canNs ns rs).length = (ordV ns (rs.map GR.to)).length := by simp [canNs]
  rw [hl]
  refine List.ext_getElem (by simp) fun i h1 h2 => ?_
  have hi : i < (ordV ns (rs.map GR.to)).length := by simpa using h1
  rw [List.getElem_map, List.getElem_map, List.getElem_range, noV_in (List.getElem_mem hi), List.Nodup.idxOf_getElem hO.nd i hi]
theorem bump_can {ns : List GN} {rs : List GR} {ms : List GN} (hm : ms.map bare = canNs ns rs) {j k : Nat} {b : BitVec 8} :
    canNs (bumpN ms j k b) (canRs ns rs) = bumpN (canNs ns rs) j k b ∧ canRs (bumpN ms j k b) (canRs ns rs) = canRs ns rs := by
  have hid := can_idem ns rs
  rw [← hm, (can_bare ms _).1, (can_bare ms _).2, hm] at hid
  have hall := can_all (ns := ns) (rs := rs)
  have hob : ordV ms (tosL (canRs ns rs)) = ordV (canNs ns rs) (tosL (canRs ns rs)) := by
    rw [← hm]
    unfold ordV
    rw [bfs_bare, List.length_map]
  have hlen : ms.length = (canNs ns rs).length := by have := congrArg List.length hm; rwa [List.length_map] at this
  have hr : canRs (bumpN ms j k b) (canRs ns rs) = canRs ms (canRs ns rs) := by
    unfold canRs
    rw [bump_ord]
  refine ⟨?_, hr.trans hid.2⟩
  have h1 : canNs (bumpN ms j k b) (canRs ns rs) = (ordV ms (tosL (canRs ns rs))).map (canN (bumpN ms j k b) (ordV ms (tosL (canRs ns rs)))) := by
    unfold canNs
    rw [bump_ord]
  have h2 : canNs ns rs = (ordV ms (tosL (canRs ns rs))).map (canN ms (ordV ms (tosL (canRs ns rs)))) := by
    rw [← hid.1]
    rfl
  have hol : (ordV ms (tosL (canRs ns rs))).length = (canNs ns rs).length := by rw [hob, hall]; simp
  rw [h1]
  refine List.ext_getElem (by rw [List.length_map, bumpN_len, hol]) fun i a c => ?_
  have hi : i < (canNs ns rs).length := by rw [bumpN_len] at c; exact c
  rw [List.getElem_map, bumpN_at hi]
  have hoi : (ordV ms (tosL (canRs ns rs)))[i]'(by omega) = (i : Int) + 1 := by simp only [hob, hall, List.getElem_map, List.getElem_range]
  have hci : (canNs ns rs)[i] = canN ms (ordV ms (tosL (canRs ns rs))) ((i : Int) + 1) := by
    have : (canNs ns rs)[i] = ((ordV ms (tosL (canRs ns rs))).map (canN ms (ordV ms (tosL (canRs ns rs)))))[i]'(by rw [List.length_map]; omega) := by simp only [← h2]
    rw [this, List.getElem_map, hoi]
  rw [hoi, hci]
  have hii : i < ms.length := by omega
  have ei : ((i : Int) + 1).toNat - 1 = i := by omega
  unfold canN
  rw [bump_ptrs]
  have hd : dataOf (bumpN ms j k b) ((i : Int) + 1) = if i = j then (dataOf ms ((i : Int) + 1)).set k b else dataOf ms ((i : Int) + 1) := by
    unfold dataOf
    rw [ei, List.getElem?_eq_getElem hii, List.getElem?_eq_getElem (by rw [bumpN_len]; exact hii), bumpN_at hii]
    by_cases e : i = j
    · rw [if_pos e, if_pos e]; rfl
    · rw [if_neg e, if_neg e]
  rw [hd]
  split <;> rfl
def unhex (a b : BitVec 8) : BitVec 8 := BitVec.ofNat 8 (hexL.idxOf a * 16 + hexL.idxOf b)
theorem unhex_2 (x : BitVec 8) : unhex (hexH (x >>> (BitVec.ofNat 64 4).toNat)) (hexH (x &&& BitVec.ofNat 8 15)) = x := by
  have : ∀ i : Fin 256, unhex (hexH (BitVec.ofFin i >>> (BitVec.ofNat 64 4).toNat)) (hexH (BitVec.ofFin i &&& BitVec.ofNat 8 15)) = BitVec.ofFin i := by decide +kernel
  exact this x.toFin
theorem hexB_inj : ∀ (l m : List (BitVec 8)), hexB l = hexB m → l = m
  | [], [], _ => rfl
  | [], y :: m, h => by have := congrArg List.length h; rw [hexB_len, hexB_len] at this; simp at this
  | x :: l, [], h => by have := congrArg List.length h; rw [hexB_len, hexB_len] at this; simp at this
  | x :: l, y :: m, h => by
    have e : ∀ (z : BitVec 8) (t : List (BitVec 8)), hexB (z :: t) = hexH (z >>> (BitVec.ofNat 64 4).toNat) :: hexH (z &&& BitVec.ofNat 8 15) :: hexB t := fun z t => rfl
    rw [e, e] at h
    injection h with h1 h2
    injection h2 with h2 h3
    rw [← unhex_2 x, ← unhex_2 y, h1, h2, hexB_inj l m h3]
theorem node_ne {i : Nat} {x y : GN} (hp : x.p = y.p) (hl : x.d.length = y.d.length) (hd : x.d ≠ y.d) : nodeB i x ≠ nodeB i y := by
  intro h
  unfold nodeB at h
  rw [hp] at h
  have h1 := List.append_cancel_left (List.append_cancel_right h)
  unfold dataB at h1
  by_cases e : x.d = []
  · have e2 : y.d = [] := List.eq_nil_of_length_eq_zero (by rw [← hl, e]; rfl)
    exact hd (e.trans e2.symm)
  · have e2 : y.d ≠ [] := fun h => e (List.eq_nil_of_length_eq_zero (by rw [hl, h]; rfl))
    rw [if_neg e, if_neg e2] at h1
    exact hd (hexB_inj _ _ (List.append_cancel_left h1))
theorem bump_txt {ns : List GN} {rs : List GR} {j k : Nat} {b : BitVec 8} (hj : j < ns.length) (hd : ns[j].d.set k b ≠ ns[j].d) : txtB ns rs ≠ txtB (bumpN ns j k b) rs := by
  have hlt : ∀ i, i ≤ j → nodesB (bumpN ns j k b) i = nodesB ns i := by
    intro i
    induction i with
    | zero => intro _; rfl
    | succ i ih =>
      intro h
      rw [nodesB_succ (by rw [bumpN_len]; omega), nodesB_succ (by omega : i < ns.length), ih (by omega), bumpN_at (by omega), if_neg (by omega)]
  have hgt : ∀ r, j + 1 + r ≤ ns.length → ∃ t, nodesB ns (j + 1 + r) = nodesB ns (j + 1) ++ t ∧ nodesB (bumpN ns j k b) (j + 1 + r) = nodesB (bumpN ns j k b) (j + 1) ++ t := by
    intro r
    induction r with
    | zero => exact fun _ => ⟨[], by simp, by simp⟩
    | succ r ih =>
      intro h
      obtain ⟨t, h1, h2⟩ := ih (by omega)
      refine ⟨t ++ nodeB (j + 1 + r) (ns[j + 1 + r]'(by omega)), ?_, ?_⟩
      · rw [← Nat.add_assoc, nodesB_succ (by omega), h1, List.append_assoc]
      · rw [← Nat.add_assoc, nodesB_succ (by rw [bumpN_len]; omega), h2, bumpN_at (by omega), if_neg (by omega), List.append_assoc]
  intro h
  unfold txtB at h
  have h1 := List.append_cancel_left h
  rw [bumpN_len] at h1
  obtain ⟨t, h2, h3⟩ := hgt (ns.length - (j + 1)) (by omega)
  rw [show j + 1 + (ns.length - (j + 1)) = ns.length by omega] at h2 h3
  rw [h2, h3] at h1
  have h4 := List.append_cancel_right h1
  rw [nodesB_succ hj, nodesB_succ (by rw [bumpN_len]; exact hj), hlt j (Nat.le_refl _), bumpN_at hj, if_pos rfl] at h4
  exact node_ne (x := ns[j]) (y := bump ns[j] k b) rfl (by simp [bump]) (fun e => hd e.symm) (List.append_cancel_left h4)
theorem bump_ne {ns : List GN} {j k : Nat} {b : BitVec 8} (hj : j < ns.length) (hd : ns[j].d.set k b ≠ ns[j].d) : bumpN ns j k b ≠ ns := by
  intro h
  have h1 : (bumpN ns j k b)[j]'(by rw [bumpN_len]; exact hj) = ns[j] := by simp only [h]
  rw [bumpN_at hj, if_pos rfl] at h1
  exact hd (congrArg GN.d h1)
end Go.Proofs.YthhcmoknppljpaaDoor
end
section
set_option linter.unusedVariables false
set_option linter.unusedSimpArgs false
set_option maxHeartbeats 4000000
namespace Go.Proofs.YthhcmoknppljpaaDoor
open Go.Sh Go.RowKit

theorem twin_to (w : World) (ps : List Int) : FunTo w (.func (.func n_graph_Twin_1) #[] #[]) ps id := by
  intro w' p K F _ hK
  refine graph_Twin_1_callc (show Yld Tryd.prog n_graph_Twin_1 #[i64 p] w' K from ?_)
  refine graph_Twin_1_of ?_
  unfold graph_Twin_1
  exact hK w' (Ext.refl _ _)
abbrev rsTwi1_0 := (And.intro @xu8_eql (And.intro @xu16_eql (And.intro @xu32_eql (And.intro @xu64_eql (And.intro @xi64_eql (And.intro @bs_23_0 (And.intro @bs_23_1 @nq_23)))))))
theorem CloneR_spec (l : List GR) (a : Option Addr) (c : Nat) (w : World) (hl : l.length ≤ 9000) (h : RowAt w a (l.flatMap grC)) (hc : l.length ≤ c) (hn : a = none → c = 0) :
    Yld Tryd.prog n_slices_Clone_graph_Root_graph_Root #[.slice a l.length c] w fun u w' => NewR 55 2 w w' u l.length (l.flatMap grC) := by
  refine slices_Clone_graph_Root_graph_Root_of ?_
  unfold slices_Clone_graph_Root_graph_Root
  cases a with
  | none =>
    have h0 : l = [] := List.eq_nil_of_length_eq_zero (by have := hn rfl; omega)
    subst h0
    simp (disch := (first | omega | decide | (simp only [rsD] <;> omega) | fail)) only [↓rsC, rsK, rsL, ↓rsTwi1_0, tick_eq, tickV_eq, ne_eq, Int.reduceAdd, Int.reduceSub, Int.reduceMul, Int.reduceEq, Int.reduceLT, Int.reduceLE, Int.reduceToNat, Nat.reduceMul, Nat.reduceAdd, Nat.reduceSub, ←decide_not, eq_self]
    exact NewR.nil (Ext.refl _ _)
  | some a =>
    have hlc : (l.flatMap grC).length = l.length * 2 := pair_len (fun _ => rfl) l
    simp (disch := (first | omega | decide | (simp only [rsD] <;> omega) | fail)) only [↓rsC, rsK, rsL, ↓rsTwi1_0, tick_eq, tickV_eq, ne_eq, Int.reduceAdd, Int.reduceSub, Int.reduceMul, Int.reduceEq, Int.reduceLT, Int.reduceLE, Int.reduceToNat, Nat.reduceMul, Nat.reduceAdd, Nat.reduceSub, ←decide_not, eq_self]
    have B : Blk (w.alloc (.cells #[] 55)) w.heap.size 55 [] := Blk.at (cs := []) rfl
    have O : Own (w.alloc (.cells #[] 55)) 55 2 (.slice (some ⟨w.heap.size, 0, none⟩) 0 0) 0 [] := Own.close (rest := []) (by rw [List.append_nil]; exact B) (Nat.le_refl _) (by decide) (by rfl) (by rfl)
    have N0 : NewR 55 2 w (w.alloc (.cells #[] 55)) (.slice (some ⟨w.heap.size, 0, none⟩) 0 0) 0 [] := ⟨Ext.alloc _ _ _, O, by simp [blk, Value.ownBlock]⟩
    refine xApp (e := 55) (s := 2) (n := 0) (m := l.length) (xs := []) (news := l.flatMap grC) (bytes := 24) (z := .agg #[.string ⟨#[]⟩, .int .i64 0]) (by kernel_rfl) (by kernel_rfl) (by rfl) (by decide) O hlc (h.ext0 (Ext.alloc _ _ _)) hn hc (fun u hu => ?_) (by omega) (by omega) fun v' w' O' T' => ?_
    · obtain ⟨f, _, hf⟩ := List.mem_flatMap.1 hu
      simp only [grC, List.mem_cons, List.not_mem_nil, or_false] at hf
      rcases hf with rfl | rfl <;> rfl
    · have := N0.app O' T'
      rw [Nat.zero_add, List.nil_append] at this
      exact this
theorem Apt.sub2 {M M' : List Nat} {x : GN} (h : Apt M x) (hm : ∀ b ∈ M', b ∈ M) : Apt M' x := ⟨fun y hy hn hb => h.p y hy hn (hm _ hb), fun y hy hn hb => h.d y hy hn (hm _ hb)⟩
/-- a node's blocks -/
def nbk (x : GN) : List Nat := (x.pa.toList ++ x.da.toList).map (·.block)
theorem mem_nbk {x : GN} {b : Nat} : b ∈ nbk x ↔ (∃ y, x.pa = some y ∧ y.block = b) ∨ ∃ y, x.da = some y ∧ y.block = b := by
  unfold nbk
  rw [List.mem_map]
  constructor
  · rintro ⟨y, hy, e⟩
    rcases List.mem_append.1 hy with h | h
    · exact .inl ⟨y, by simpa using h, e⟩
    · exact .inr ⟨y, by simpa using h, e⟩
  · rintro (⟨y, h, e⟩ | ⟨y, h, e⟩)
    · exact ⟨y, List.mem_append_left _ (by simp [h]), e⟩
    · exact ⟨y, List.mem_append_right _ (by simp [h]), e⟩
/-- nodes that one may write, apart from all there was at w, and from each other -/
structure Own1 (w w' : World) (M : List Nat) (x : GN) : Prop where
  ok : NOk w' x
  bl : NBl w' x
  fr : ∀ b ∈ nbk x, w.heap.size ≤ b
  ap : Apt M x
def TwinR (w : World) (ns : List GN) (rs : List GR) (u : Value) (w' : World) : Prop := Ext [] w w' ∧ ∃ na' nc' ra' rc' ns', ns'.map bare = ns.map bare ∧ u = gV na' nc' ra' rc' ns' rs ∧ GIs w' na' nc' ra' rc' ns' rs ∧ (∀ x ∈ ns', Own1 w w' (na'.toList.map (·.block)) x) ∧ (ns'.Pairwise fun x y => Apt (nbk y) x) ∧ ∀ x ∈ ns', ∀ z, ra' = some z → Apt [z.block] x
abbrev rsTwi1_1 := (And.intro @xu8_add (And.intro @xu8_lss (And.intro @xu16_add (And.intro @xu16_lss (And.intro @xu32_add (And.intro @xu32_lss (And.intro @xu64_add (And.intro @xu64_lss (And.intro @xi64_lss (And.intro @ld_22 (And.intro @ld_23 (And.intro @ld_25 (And.intro @ld_52 (And.intro @lr_25 (And.intro @fa_25_0 (And.intro @fa_25_1 (And.intro @al_25 
  (And.intro @al_52 (And.intro @st_22 (And.intro @st_23 (And.intro @st_25 (And.intro @st_52 (And.intro @ia_22 (And.intro @ln_22 (And.intro @bs_22_1 (And.intro @bs_22_2 @bs_22_3))))))))))))))))))))))))))
theorem GTwin_spec {w : World} {na ra : Option Addr} {nc rc : Nat} {ns : List GN} {rs : List GR} (h : GIs w na nc ra rc ns rs) (hf : FewH ns rs) :
    Yld Tryd.prog n_graph_Twin #[gV na nc ra rc ns rs] w (TwinR w ns rs) := by
  have hfn := hf.n
  have hfr := hf.r
  refine graph_Twin_of ?_
  unfold graph_Twin
  have gbox : ∀ (y : World) (K : K1), xBox Tryd.prog 25 (gV na nc ra rc ns rs) y K = K (ptr y.heap.size) (y.alloc (.cells #[.slice na ns.length nc, .slice ra rs.length rc] 25)) := fun y K => xBox_r
  have al : ∀ (y : World) (K : K1), xAlloc Tryd.prog 25 y K = K (ptr y.heap.size) (y.alloc (.cells #[.slice none 0 0, .slice none 0 0] 25)) := fun y K => xAlloc_r (by kernel_rfl)
  rw [gbox, al, al]
  have B1 : Blk (w.alloc (.cells #[.slice na ns.length nc, .slice ra rs.length rc] 25)) w.heap.size 25 [.slice na ns.length nc, .slice ra rs.length rc] := Blk.at rfl
  have X1 : Ext [] w (w.alloc (.cells #[.slice na ns.length nc, .slice ra rs.length rc] 25)) := Ext.alloc _ _ _
  generalize w.alloc (.cells #[.slice na ns.length nc, .slice ra rs.length rc] 25) = y1 at *
  obtain ⟨g1, hg1⟩ : ∃ g, g = w.heap.size := ⟨_, rfl⟩
  rw [← hg1] at B1 ⊢
  have g1lt := B1.lt
  have zw1 := X1.size
  have B2 : Blk (y1.alloc (.cells #[.slice none 0 0, .slice none 0 0] 25)) y1.heap.size 25 [.slice none 0 0, .slice none 0 0] := Blk.at rfl
  have X2 : Ext [] y1 (y1.alloc (.cells #[.slice none 0 0, .slice none 0 0] 25)) := Ext.alloc _ _ _
  have B12 := B1.ext X2 (by simp)
  generalize y1.alloc (.cells #[.slice none 0 0, .slice none 0 0] 25) = y2 at *
  obtain ⟨g2, hg2⟩ : ∃ g, g = y1.heap.size := ⟨_, rfl⟩
  rw [← hg2] at B2 ⊢
  have g2lt := B2.lt
  have B18 := B12.ext (Ext.alloc [] y2 (.cells #[.slice none 0 0, .slice none 0 0] 25)) (by simp)
  have B28 := B2.ext (Ext.alloc [] y2 (.cells #[.slice none 0 0, .slice none 0 0] 25)) (by simp)
  have Bx0 : Blk (y2.alloc (.cells #[.slice none 0 0, .slice none 0 0] 25)) y2.heap.size 25 [.slice none 0 0, .slice none 0 0] := Blk.at rfl
  have X3 : Ext [] y2 (y2.alloc (.cells #[.slice none 0 0, .slice none 0 0] 25)) := Ext.alloc _ _ _
  have zs8 : (y2.alloc (.cells #[.slice none 0 0, .slice none 0 0] 25)).heap.size = y2.heap.size + 1 := World.size_alloc _ _
  generalize y2.alloc (.cells #[.slice none 0 0, .slice none 0 0] 25) = q at *
  obtain ⟨hx, hhx⟩ : ∃ g, g = y2.heap.size := ⟨_, rfl⟩
  rw [← hhx] at Bx0 zs8 ⊢
  have F8 := (X1.trans X2).trans X3
  have hlt : hx < q.heap.size := by omega
  have fresh2 : ∀ {w' : World}, Ext [hx] q w' → Ext [] w w' := fun F => F8.new F (fun z hz => by simp only [List.mem_singleton] at hz; omega)
  have nq1 : g1 ∉ [hx] := by simp only [List.mem_singleton]; omega
  have nq4 : g2 ∉ [hx] := by simp only [List.mem_singleton]; omega
  have nilb : ∀ z, z ∉ blk (.slice none 0 0) := by simp [blk, Value.ownBlock]
  have k1 := fun i => B18.cell (i := i)
  simp (disch := (first | omega | decide | (simp only [rsD] <;> omega) | fail)) only [↓rsC, rsK, rsL, ↓rsTwi1_1, tick_eq, tickV_eq, ne_eq, Int.reduceAdd, Int.reduceSub, Int.reduceMul, Int.reduceEq, Int.reduceLT, Int.reduceLE, Int.reduceToNat, Nat.reduceMul, Nat.reduceAdd, Nat.reduceSub, ←decide_not, k1]
  refine xLoop_n ns.length (fun j => [i64 (j : Int)]) (fun j w' => Ext [hx] q w' ∧ ∃ v ns', ns'.map bare = (ns.take j).map bare ∧ OwnGN w' v ns' ∧ Blk w' hx 25 [v, .slice none 0 0] ∧ (∀ z ∈ blk v, q.heap.size ≤ z) ∧ (∀ x ∈ ns', NOk w' x ∧ Apt (hx :: blk v) x ∧ NBl w' x ∧ ∀ b ∈ nbk x, q.heap.size ≤ b) ∧ ns'.Pairwise fun x y => Apt (nbk y) x) rfl ⟨Ext.refl _ _, .slice none 0 0, [], by simp, Own.nil, Bx0, fun z hz => absurd hz (nilb z), by simp, .nil⟩ ?_ ?_
  · rintro j hj u x2 hu ⟨F, v, ns', hns, O, B, U, A, Q⟩ nxt2 hnx
    simp only [List.map_cons, List.map_nil, List.cons.injEq, and_true] at hu
    rw [hu]
    obtain ⟨bn, on, ena, _, c1, c2⟩ := gn_at (h.nr.ext0 (fresh2 F)) hj
    have hst : ns.take (j + 1) = ns.take j ++ [ns[j]] := by rw [List.take_add_one, List.getElem?_eq_getElem hj]; rfl
    have hnl : ns'.length ≤ 9000 := by
      have h1 := congrArg List.length hns
      rw [List.length_map, List.length_map, List.length_take] at h1
      omega
    have hxk := h.ok _ (List.getElem_mem hj)
    have lx := hf.x _ (List.getElem_mem hj)
    obtain ⟨a0, c0, hv0, _⟩ := O.slice
    subst hv0
    generalize ns[j] = x at *
    have zb2 := B.lt
    have kb := fun i => B.cell (i := i)
    unfold graph_Twin_l1
    rw [ena]
    simp (disch := (first | omega | decide | (simp only [rsD] <;> omega) | fail)) only [↓rsC, rsK, rsL, ↓rsTwi1_1, tick_eq, tickV_eq, ne_eq, Int.reduceAdd, Int.reduceSub, Int.reduceMul, Int.reduceEq, Int.reduceLT, Int.reduceLE, Int.reduceToNat, Nat.reduceMul, Nat.reduceAdd, Nat.reduceSub, ←decide_not, k1, c1, c2, kb]
    have E9 : Ext [] x2 (x2.alloc (.cells #[.slice x.pa x.p.length x.pc, .slice x.da x.d.length x.dc] 52)).drew := (Ext.alloc _ _ _).trans (Ext.drew [] _)
    generalize (x2.alloc (.cells #[.slice x.pa x.p.length x.pc, .slice x.da x.d.length x.dc] 52)).drew = x3 at *
    have F3 := F.trans (E9.more (by simp))
    refine graph_Node_apart_call (Yld.mono (apartB_spec (hxk.ext0 (fresh2 F3)) lx (twin_to x3 x.p)) ?_)
    rintro u x4 ⟨F4, y', rfl, hyp, hyd, hyk, hfa, hfb, hnb⟩
    have F04 := F3.trans (F4.more (by simp))
    have E94 := E9.trans F4
    have B4 := B.ext E94 (by simp)
    have O4 := O.ext0 E94
    have zb4 := B4.lt
    have k4 := fun i => B4.cell (i := i)
    simp (disch := (first | omega | decide | (simp only [rsD] <;> omega) | fail)) only [↓rsC, rsK, rsL, ↓rsTwi1_1, tick_eq, tickV_eq, ne_eq, Int.reduceAdd, Int.reduceSub, Int.reduceMul, Int.reduceEq, Int.reduceLT, Int.reduceLE, Int.reduceToNat, Nat.reduceMul, Nat.reduceAdd, Nat.reduceSub, ←decide_not, k1, c1, c2, kb, k4]
    refine appGN O4 (x := y') rfl (by omega) fun v' x5 O5 T5 => ?_
    obtain ⟨F5, U5, n1, n2⟩ := grow F04 U hlt T5
    have B5 := B4.ext T5.ext n1
    obtain ⟨a3, c3, hv3, _⟩ := O5.slice
    have k5 := fun i => B5.cell (i := i)
    have f5 := fun i => B5.frozen (i := i)
    subst hv3
    simp (disch := (first | omega | decide | (simp only [rsD] <;> omega) | fail)) only [↓rsC, rsK, rsL, ↓rsTwi1_1, tick_eq, tickV_eq, ne_eq, Int.reduceAdd, Int.reduceSub, Int.reduceMul, Int.reduceEq, Int.reduceLT, Int.reduceLE, Int.reduceToNat, Nat.reduceMul, Nat.reduceAdd, Nat.reduceSub, ←decide_not, k1, c1, c2, kb, k4, k5, f5]
    have B6 := B5.set (i := 0) (v := .slice a3 (ns' ++ [y']).length c3)
    have O6 := O5.ext (Ext.set (w := x5) (b := hx) (o := 0) (v := .slice a3 (ns' ++ [y']).length c3)) (fun z hz hm => by simp only [List.mem_singleton] at hm; subst hm; exact n2 hz)
    refine hnx _ ⟨F5.set' (.inl (by simp)), _, ns' ++ [y'], ?_, O6, B6, U5, fun p hp => ?_, ?_⟩
    · rw [List.map_append, hns, hst, List.map_append]
      simp [bare, hyp, hyd]
    · have z3x : x2.heap.size ≤ x3.heap.size := E9.size
      have hA : NOk x4 p ∧ Apt (hx :: blk (.slice a0 ns'.length c0)) p ∧ NBl x4 p ∧ ∀ b ∈ nbk p, q.heap.size ≤ b := by
        rcases List.mem_append.1 hp with hp | hp
        · exact ⟨(A p hp).1.ext0 E94, (A p hp).2.1, (A p hp).2.2.1.ext E94 ⟨by simp, by simp⟩, (A p hp).2.2.2⟩
        · rw [List.mem_singleton] at hp
          subst hp
          have hz2 := O.lt
          have zq := F.size
          refine ⟨hyk, ⟨fun y hy _ hm => ?_, fun y hy _ hm => ?_⟩, hnb, fun b hb => ?_⟩
          · have := hfa y hy
            rcases List.mem_cons.1 hm with e | e
            · omega
            · have := hz2 _ e; omega
          · have := hfb y hy
            rcases List.mem_cons.1 hm with e | e
            · omega
            · have := hz2 _ e; omega
          · rcases mem_nbk.1 hb with ⟨y, e1, e2⟩ | ⟨y, e1, e2⟩
            · have := hfa y e1; omega
            · have := hfb y e1; omega
      have hA2 := hA.1.ext (T5.ext.more (fun z hz => List.mem_cons_of_mem hx hz)) hA.2.1
      have hB2 := hA.2.2.1.ext (T5.ext.more (fun z hz => List.mem_cons_of_mem hx hz)) ⟨hA.2.1.p, hA.2.1.d⟩
      have hA3 : Apt (hx :: blk (.slice a3 (ns' ++ [y']).length c3)) p := hA.2.1.more hA.1 fun b hb => by
        rcases List.mem_cons.1 hb with e | e
        · exact .inl (by rw [e]; exact List.mem_cons_self ..)
        · exact (T5.at' b e).imp (List.mem_cons_of_mem _) id
      exact ⟨hA2.ext (Ext.set.more (by simp)) hA3, hA3, hB2.ext (Ext.set.more (by simp)) ⟨hA3.p, hA3.d⟩, hA.2.2.2⟩
    · rw [List.pairwise_append]
      refine ⟨Q, List.pairwise_singleton _ _, fun p hp z hz => ?_⟩
      rw [List.mem_singleton] at hz
      subst hz
      have hl := (A p hp).1.lt
      have z3x : x2.heap.size ≤ x3.heap.size := E9.size
      have hfz : ∀ b ∈ nbk z, x3.heap.size ≤ b := fun b hb => by
        rcases mem_nbk.1 hb with ⟨y, e1, e2⟩ | ⟨y, e1, e2⟩
        · have := hfa y e1; omega
        · have := hfb y e1; omega
      exact ⟨fun y hy hn hm => by have := hl.1 y hy hn; have := hfz _ hm; omega, fun y hy hn hm => by have := hl.2 y hy hn; have := hfz _ hm; omega⟩
  rintro u x1 hu ⟨F, v, ns', hns, O, B, U, A, Q⟩ nxt2
  simp only [List.map_cons, List.map_nil, List.cons.injEq, and_true] at hu
  rw [hu]
  rw [List.take_length] at hns
  have kq1 := fun i => (B18.ext F nq1).cell (i := i)
  unfold graph_Twin_l1
  simp (disch := (first | omega | decide | (simp only [rsD] <;> omega) | fail)) only [↓rsC, rsK, rsL, ↓rsTwi1_1, tick_eq, tickV_eq, ne_eq, Int.reduceAdd, Int.reduceSub, Int.reduceMul, Int.reduceEq, Int.reduceLT, Int.reduceLE, Int.reduceToNat, Nat.reduceMul, Nat.reduceAdd, Nat.reduceSub, ←decide_not, k1, kq1]
  refine slices_Clone_graph_Root_graph_Root_call (Yld.mono (CloneR_spec rs ra rc x1 hfr (h.rr.ext0 (fresh2 F)) h.rl h.rn) ?_)
  rintro u x3 N3
  obtain ⟨ra', rc', rfl, hrc, _, hrn, Rr, _⟩ := N3.2.1.slice
  have Ur : ∀ z, ra' = some z → x1.heap.size ≤ z.block := fun z hz => N3.2.2 _ (by rw [hz]; simp [blk, Value.ownBlock])
  refine slices_Clip_graph_Root_graph_Root_call (Gives.to (ClipGR_spec hrc) fun x4 E4 => ?_)
  have E14 := N3.1.trans E4
  obtain ⟨na', nc', hvn, hnc, _, hnn, Rn, _⟩ := O.slice
  subst hvn
  have B4 := B.ext E14 (by simp)
  have k4 := fun i => B4.cell (i := i)
  have f4 := fun i => B4.frozen (i := i)
  simp (disch := (first | omega | decide | (simp only [rsD] <;> omega) | fail)) only [↓rsC, rsK, rsL, ↓rsTwi1_1, tick_eq, tickV_eq, ne_eq, Int.reduceAdd, Int.reduceSub, Int.reduceMul, Int.reduceEq, Int.reduceLT, Int.reduceLE, Int.reduceToNat, Nat.reduceMul, Nat.reduceAdd, Nat.reduceSub, ←decide_not, k1, kq1, k4, f4]
  have E5 : Ext [hx] x4 (x4.setCell ⟨hx, 1, none⟩ (.slice ra' rs.length rs.length)) := Ext.set
  have B5 := B4.set (i := 1) (v := .slice ra' rs.length rs.length)
  generalize x4.setCell ⟨hx, 1, none⟩ (.slice ra' rs.length rs.length) = x5 at *
  refine slices_Clip_graph_Node_graph_Node_call (Gives.to (ClipGN_spec hnc) fun x6 E6 => ?_)
  have B6 := B5.ext E6 (by simp)
  have F16 : Ext [hx] x1 x6 := ((E14.more (by simp)).trans E5).trans (E6.more (by simp))
  have k6 := fun i => B6.cell (i := i)
  have f6 := fun i => B6.frozen (i := i)
  have B26 := (B28.ext F nq4).ext F16 nq4
  have k26 := fun i => B26.cell (i := i)
  have f26 := fun i => B26.frozen (i := i)
  have ne0x : g2 ≠ hx := by omega
  simp (disch := (first | omega | decide | (simp only [rsD] <;> omega) | fail)) only [↓rsC, rsK, rsL, ↓rsTwi1_1, tick_eq, tickV_eq, ne_eq, Int.reduceAdd, Int.reduceSub, Int.reduceMul, Int.reduceEq, Int.reduceLT, Int.reduceLE, Int.reduceToNat, Nat.reduceMul, Nat.reduceAdd, Nat.reduceSub, ←decide_not, k1, kq1, k4, f4, k6, f6, k26, f26, ne0x]
  have FE : Ext [g2, hx] x6 (((x6.setCell ⟨hx, 0, none⟩ (.slice na' ns'.length ns'.length)).setCell ⟨g2, 0, none⟩ (.slice na' ns'.length ns'.length)).setCell ⟨g2, 1, none⟩ (.slice ra' rs.length rs.length)) := (((Ext.refl _ _).set' (.inl (by simp))).set' (.inl (by simp))).set' (.inl (by simp))
  have Fw := fresh2 (F.trans F16)
  have zX : w.heap.size ≤ hx := by omega
  have zw2 : w.heap.size ≤ g2 := by omega
  have zq1 := F.size
  refine ⟨((Fw.set' (.inr zX)).set' (.inr zw2)).set' (.inr zw2), na', ns'.length, ra', rs.length, ns', hns, rfl, ?_, fun p hp => ?_, Q, fun p hp z hz => ⟨fun y hy hn hm => by have := (A p hp).1.lt.1 y hy hn; have := Ur z hz; simp only [List.mem_singleton] at hm; omega, fun y hy hn hm => by have := (A p hp).1.lt.2 y hy hn; have := Ur z hz; simp only [List.mem_singleton] at hm; omega⟩⟩
  · have nna : ∀ b o, na' = some ⟨b, o, none⟩ → b ∉ [g2, hx] := fun b o hb hm => by
      have := U b (by rw [hb]; simp [blk, Value.ownBlock])
      simp only [List.mem_cons, List.not_mem_nil, or_false] at hm
      omega
    have nra : ∀ b o, ra' = some ⟨b, o, none⟩ → b ∉ [g2, hx] := fun b o hb hm => by
      have := Ur _ hb
      simp only [List.mem_cons, List.not_mem_nil, or_false] at hm
      simp only at this
      omega
    refine ⟨(Rn.ext F16 (fun b o hb hm => nna b o hb (by simp only [List.mem_singleton] at hm; simp [hm]))).ext FE nna, Nat.le_refl _, fun e => by have := hnn e; omega, (((Rr.ext0 E4).ext E5 (fun b o hb hm => nra b o hb (by simp only [List.mem_singleton] at hm; simp [hm]))).ext0 E6).ext FE nra, Nat.le_refl _, fun e => by have := hrn e; omega, fun p hp => ?_⟩
    have hA := A p hp
    have hk := hA.1.ext F16 (hA.2.1.sub2 (by simp))
    have hA2 := hA.2.1.cons hk B26 (by simp)
    exact hk.ext (FE.more (by simp)) hA2
  · have hA := A p hp
    have hk := hA.1.ext F16 (hA.2.1.sub2 (by simp))
    have hA2 := hA.2.1.cons hk B26 (by simp)
    have hA3 := hA.2.1.sub2 (M' := [hx]) (by simp)
    refine ⟨hk.ext (FE.more (by simp)) hA2, (hA.2.2.1.ext F16 ⟨hA3.p, hA3.d⟩).ext (FE.more (by simp)) ⟨hA2.p, hA2.d⟩, fun b hb => by have := hA.2.2.2 b hb; have := F8.size; omega, hA.2.1.sub2 fun b hb => ?_⟩
    refine List.mem_cons_of_mem _ ?_
    cases na' with
    | none => simp at hb
    | some y => simpa [blk, Value.ownBlock] using hb
end Go.Proofs.YthhcmoknppljpaaDoor
end
section
set_option linter.unusedVariables false
set_option linter.unusedSimpArgs false
set_option maxHeartbeats 4000000
namespace Go.Proofs.YthhcmoknppljpaaDoor
open Go.Sh Go.RowKit

/-- the blocks of a node's rows that are not empty -/
def wbk (x : GN) : List Nat := (if x.p = [] then [] else x.pa.toList.map (·.block)) ++ (if x.d = [] then [] else x.da.toList.map (·.block))
theorem wbk_d {x : GN} {y : Addr} (h : x.da = some y) (hd : x.d ≠ []) : y.block ∈ wbk x := by
  unfold wbk
  rw [if_neg hd, h]
  simp
theorem mem_wbk {x : GN} {b : Nat} (h : b ∈ wbk x) : (∃ y, x.pa = some y ∧ x.p ≠ [] ∧ y.block = b) ∨ ∃ y, x.da = some y ∧ x.d ≠ [] ∧ y.block = b := by
  unfold wbk at h
  rcases List.mem_append.1 h with h | h
  · by_cases e : x.p = []
    · rw [if_pos e] at h; cases h
    · rw [if_neg e] at h
      obtain ⟨y, hy, rfl⟩ := List.mem_map.1 h
      exact .inl ⟨y, by simpa using hy, e, rfl⟩
  · by_cases e : x.d = []
    · rw [if_pos e] at h; cases h
    · rw [if_neg e] at h
      obtain ⟨y, hy, rfl⟩ := List.mem_map.1 h
      exact .inr ⟨y, by simpa using hy, e, rfl⟩
theorem wbk_nbk {x : GN} {b : Nat} (h : b ∈ wbk x) : b ∈ nbk x := by
  rcases mem_wbk h with ⟨y, h1, _, h2⟩ | ⟨y, h1, _, h2⟩
  · exact mem_nbk.2 (.inl ⟨y, h1, h2⟩)
  · exact mem_nbk.2 (.inr ⟨y, h1, h2⟩)
theorem Apt.wbk {M : List Nat} {x : GN} (h : Apt M x) : ∀ b ∈ wbk x, b ∉ M := by
  intro b hb
  rcases mem_wbk hb with ⟨y, h1, h2, rfl⟩ | ⟨y, h1, h2, rfl⟩
  · exact h.p y h1 h2
  · exact h.d y h1 h2
theorem NBl.lt {w : World} {x : GN} (h : NBl w x) : ∀ b ∈ wbk x, b < w.heap.size := by
  intro b hb
  rcases mem_wbk hb with ⟨y, h1, h2, rfl⟩ | ⟨y, h1, h2, rfl⟩
  · rcases h.p with e | ⟨g, rest, e1, e2⟩
    · exact absurd e h2
    · rw [e1] at h1
      cases h1
      exact e2.lt
  · rcases h.d with e | ⟨g, rest, e1, e2⟩
    · exact absurd e h2
    · rw [e1] at h1
      cases h1
      exact e2.lt
theorem bysR_set {l : List (BitVec 8)} {rest : List Value} {k : Nat} (h : k < l.length) (v : BitVec 8) : (bys l ++ rest).set k (u8 v) = bys (l.set k v) ++ rest := by
  rw [List.set_append, if_pos (by simpa using h)]
  simp [bys]
end Go.Proofs.YthhcmoknppljpaaDoor
end
section
set_option linter.unusedVariables false
set_option linter.unusedSimpArgs false
set_option maxHeartbeats 4000000
namespace Go.Proofs.YthhcmoknppljpaaDoor
open Go.Sh Go.RowKit

theorem bump_gnC (ns : List GN) (j k : Nat) (b : BitVec 8) : (bumpN ns j k b).flatMap gnC = ns.flatMap gnC := by
  have e : (bumpN ns j k b).map gnC = ns.map gnC := by
    refine List.ext_getElem (by simp [bumpN]) fun i h1 h2 => ?_
    have hi : i < ns.length := by simpa using h2
    rw [List.getElem_map, List.getElem_map, bumpN_at hi]
    split
    · simp [gnC, bump]
    · rfl
  rw [List.flatMap_def, List.flatMap_def, e]
theorem add_ne (b : BitVec 8) : b + 1#8 ≠ b := by
  intro h
  have := congrArg BitVec.toNat h
  rw [BitVec.toNat_add] at this
  have hb := b.isLt
  simp at this
  omega
theorem set_ne {l : List (BitVec 8)} {k : Nat} (h : k < l.length) : l.set k (l[k] + 1#8) ≠ l := by
  intro e
  have h1 : (l.set k (l[k] + 1#8))[k]'(by rw [List.length_set]; exact h) = l[k] := by simp only [e]
  rw [List.getElem_set_self] at h1
  exact add_ne _ h1
abbrev rsCn4_0 := (And.intro @xu8_add (And.intro @xu8_sub (And.intro @xu8_rem (And.intro @xu8_com (And.intro @xu8_eql (And.intro @xu8_neq (And.intro @xu8_lss (And.intro @xu16_add (And.intro @xu16_sub (And.intro @xu16_rem (And.intro @xu16_com (And.intro @xu16_eql (And.intro @xu16_neq (And.intro @xu16_lss (And.intro @xu32_add (And.intro @xu32_sub 
  (And.intro @xu32_rem (And.intro @xu32_com (And.intro @xu32_eql (And.intro @xu32_neq (And.intro @xu32_lss (And.intro @xu64_add (And.intro @xu64_sub (And.intro @xu64_rem (And.intro @xu64_com (And.intro @xu64_eql (And.intro @xu64_neq (And.intro @xu64_lss (And.intro @xi64_lss (And.intro @xi64_eql (And.intro @xi64_neq (And.intro @xi64_neg (And.intro @ld_5 
  (And.intro @ld_22 (And.intro @ld_25 (And.intro @ld_45 (And.intro @fa_25_0 (And.intro @fa_52_1 (And.intro @al_25 (And.intro @st_5 (And.intro @st_25 (And.intro @cv_5_3 (And.intro @ia_22 (And.intro @ia_45 (And.intro @ln_22 @ln_45)))))))))))))))))))))))))))))))))))))))))))))
theorem CanonUnlike_walk (na ra : Option Addr) (nc rc : Nat) (ns : List GN) (rs : List GR) (ab : BitVec 8) (w : World) (h : GIs w na nc ra rc ns rs) : Gives Tryd.prog n_loamlaw18_CanonUnlike #[gV na nc ra rc ns rs, u8 ab] w (.bool true) := by
  refine loamlaw18_CanonUnlike_of ?_
  unfold loamlaw18_CanonUnlike
  have gbox : ∀ (y : World) (K : K1), xBox Tryd.prog 25 (gV na nc ra rc ns rs) y K = K (ptr y.heap.size) (y.alloc (.cells #[.slice na ns.length nc, .slice ra rs.length rc] 25)) := fun y K => xBox_r
  rw [gbox]
  have B1 : Blk (w.alloc (.cells #[.slice na ns.length nc, .slice ra rs.length rc] 25)) w.heap.size 25 [.slice na ns.length nc, .slice ra rs.length rc] := Blk.at rfl
  have X1 : Ext [] w (w.alloc (.cells #[.slice na ns.length nc, .slice ra rs.length rc] 25)) := Ext.alloc _ _ _
  have G := h.ext0 X1
  generalize w.alloc (.cells #[.slice na ns.length nc, .slice ra rs.length rc] 25) = y1 at *
  generalize w.heap.size = g1 at *
  refine loamlaw18_known_call (Gives.to (known18_spec y1) fun y3 F3 => ?_)
  have k3 := fun i => (B1.ext F3 (by simp)).cell (i := i)
  simp (disch := (first | omega | decide | (simp only [rsD] <;> omega) | fail)) only [↓rsC, rsK, rsL, ↓rsCn4_0, tick_eq, tickV_eq, ne_eq, Int.reduceAdd, Int.reduceSub, Int.reduceMul, Int.reduceEq, Int.reduceLT, Int.reduceLE, Int.reduceToNat, Nat.reduceMul, Nat.reduceAdd, Nat.reduceSub, ←decide_not, k3]
  refine loamlaw17_Few_call (Yld.mono (Few_spec (G.ext0 F3)) ?_)
  rintro u y4 ⟨⟨b, rfl, hb⟩, F4⟩
  have F14 := F3.trans F4
  cases b with
  | false =>
    simp (disch := (first | omega | decide | (simp only [rsD] <;> omega) | fail)) only [↓rsC, rsK, rsL, ↓rsCn4_0, tick_eq, tickV_eq, ne_eq, Int.reduceAdd, Int.reduceSub, Int.reduceMul, Int.reduceEq, Int.reduceLT, Int.reduceLE, Int.reduceToNat, Nat.reduceMul, Nat.reduceAdd, Nat.reduceSub, ←decide_not, k3]
    exact ⟨by trivial, X1.trans F14⟩
  | true =>
  have hf := hb rfl
  have hfn := hf.n
  have hfr := hf.r
  have k4 := fun i => (B1.ext F14 (by simp)).cell (i := i)
  simp (disch := (first | omega | decide | (simp only [rsD] <;> omega) | fail)) only [↓rsC, rsK, rsL, ↓rsCn4_0, tick_eq, tickV_eq, ne_eq, Int.reduceAdd, Int.reduceSub, Int.reduceMul, Int.reduceEq, Int.reduceLT, Int.reduceLE, Int.reduceToNat, Nat.reduceMul, Nat.reduceAdd, Nat.reduceSub, ←decide_not, k3, k4]
  refine loamlaw17_Of_call (Yld.mono (Of_spec17 (G.ext0 F14) (by omega) (by omega)) ?_)
  rintro u y6 ⟨F6, na6, nc6, ra6, rc6, rfl, G6⟩
  simp (disch := (first | omega | decide | (simp only [rsD] <;> omega) | fail)) only [↓rsC, rsK, rsL, ↓rsCn4_0, tick_eq, tickV_eq, ne_eq, Int.reduceAdd, Int.reduceSub, Int.reduceMul, Int.reduceEq, Int.reduceLT, Int.reduceLE, Int.reduceToNat, Nat.reduceMul, Nat.reduceAdd, Nat.reduceSub, ←decide_not, k3, k4]
  refine loamref17_Check_call (Gives.to (GCheckX_spec G6 hf) fun y F7 => ?_)
  have Fy := F14.trans (F6.trans F7)
  by_cases hc : chkV ns rs = 0
  case neg =>
    simp (disch := (first | omega | decide | (simp only [rsD] <;> omega) | fail)) only [↓rsC, rsK, rsL, ↓rsCn4_0, tick_eq, tickV_eq, ne_eq, Int.reduceAdd, Int.reduceSub, Int.reduceMul, Int.reduceEq, Int.reduceLT, Int.reduceLE, Int.reduceToNat, Nat.reduceMul, Nat.reduceAdd, Nat.reduceSub, ←decide_not, k3, k4, hc]
    exact ⟨by trivial, X1.trans Fy⟩
  have ht := can_txs (ns := ns) (rs := rs) (by omega) hfr hf.s hf.x
  have k7 := fun i => (B1.ext Fy (by simp)).cell (i := i)
  simp (disch := (first | omega | decide | (simp only [rsD] <;> omega) | fail)) only [↓rsC, rsK, rsL, ↓rsCn4_0, tick_eq, tickV_eq, ne_eq, Int.reduceAdd, Int.reduceSub, Int.reduceMul, Int.reduceEq, Int.reduceLT, Int.reduceLE, Int.reduceToNat, Nat.reduceMul, Nat.reduceAdd, Nat.reduceSub, ←decide_not, k3, k4, hc, k7]
  refine canon_Canon_call (Yld.mono (Canon_spec (G.ext0 Fy) hf.h) ?_)
  rintro u y8 ⟨F8, na', nc', ra', rc', ns', hns, rfl, G8⟩
  have hf' := can_few hf.h hns
  have hid : canNs ns' (canRs ns rs) = canNs ns rs ∧ canRs ns' (canRs ns rs) = canRs ns rs := by
    have := can_idem ns rs
    rwa [← hns, (can_bare ns' _).1, (can_bare ns' _).2, hns] at this
  have hxd : ∀ x ∈ ns', x.d.length ≤ 1100 := fun x hx => (ht.x (bare x) (by rw [← hns]; exact List.mem_map.2 ⟨x, hx, rfl⟩)).2.2
  have hnl : ns'.length ≤ 70 := by have := ht.n; rw [← hns] at this; simpa using this
  have F18 := Fy.trans F8
  have zb1 := (B1.ext F18 (by simp)).lt
  simp (disch := (first | omega | decide | (simp only [rsD] <;> omega) | fail)) only [↓rsC, rsK, rsL, ↓rsCn4_0, tick_eq, tickV_eq, ne_eq, Int.reduceAdd, Int.reduceSub, Int.reduceMul, Int.reduceEq, Int.reduceLT, Int.reduceLE, Int.reduceToNat, Nat.reduceMul, Nat.reduceAdd, Nat.reduceSub, ←decide_not, k3, k4, hc, k7]
  have B9 : Blk (y8.alloc (.cells #[.slice na' ns'.length nc', .slice ra' (canRs ns rs).length rc'] 25)) y8.heap.size 25 [.slice na' ns'.length nc', .slice ra' (canRs ns rs).length rc'] := Blk.at rfl
  have X9 : Ext [] y8 (y8.alloc (.cells #[.slice na' ns'.length nc', .slice ra' (canRs ns rs).length rc'] 25)) := Ext.alloc _ _ _
  have G9 := G8.ext0 X9
  have F19 := F18.trans X9
  generalize y8.alloc (.cells #[.slice na' ns'.length nc', .slice ra' (canRs ns rs).length rc'] 25) = y9 at *
  generalize y8.heap.size = gc at *
  have hds : ∀ k, k ≤ ns'.length → dsum ns' k ≤ 77000 := fun k hk => by
    have h1 := dsum_le hxd k hk
    have : k * 1100 ≤ 70 * 1100 := Nat.mul_le_mul_right _ (by omega)
    omega
  refine xLoop_r ns'.length (fun j vs w' => vs = [i64 (dsum ns' j : Int), i64 (j : Int)] ∧ Ext [] y9 w') ⟨rfl, Ext.refl _ _⟩ ?_ ?_
  · rintro j hj u x1 ⟨hu, F⟩ nxt hnx
    simp only [List.map_cons, List.map_nil, List.cons.injEq, and_true] at hu
    rw [hu.1, hu.2]
    obtain ⟨bn, on, ena, _, c1, c2⟩ := gn_at (G9.nr.ext0 F) hj
    have kb := fun i => (B9.ext F (by simp)).cell (i := i)
    have hs := dsum_succ hj
    have h1 := hds (j + 1) (by omega)
    have h2 := hxd _ (List.getElem_mem hj)
    generalize ns'[j] = x at *
    unfold loamlaw18_CanonUnlike_l1
    rw [ena] at kb
    simp (disch := (first | omega | decide | (simp only [rsD] <;> omega) | fail)) only [↓rsC, rsK, rsL, ↓rsCn4_0, tick_eq, tickV_eq, ne_eq, Int.reduceAdd, Int.reduceSub, Int.reduceMul, Int.reduceEq, Int.reduceLT, Int.reduceLE, Int.reduceToNat, Nat.reduceMul, Nat.reduceAdd, Nat.reduceSub, ←decide_not, k3, k4, hc, k7, kb, c2]
    exact hnx _ _ ⟨by rw [hs]; simp, F⟩
  rintro u x1 ⟨hu, F⟩ nxt
  simp only [List.map_cons, List.map_nil, List.cons.injEq, and_true] at hu
  rw [hu.1, hu.2]
  have kb := fun i => (B9.ext F (by simp)).cell (i := i)
  unfold loamlaw18_CanonUnlike_l1
  by_cases hz : dsum ns' ns'.length = 0
  · have hz' : (dsum ns' ns'.length : Int) = 0 := by omega
    simp (disch := (first | omega | decide | (simp only [rsD] <;> omega) | fail)) only [↓rsC, rsK, rsL, ↓rsCn4_0, tick_eq, tickV_eq, ne_eq, Int.reduceAdd, Int.reduceSub, Int.reduceMul, Int.reduceEq, Int.reduceLT, Int.reduceLE, Int.reduceToNat, Nat.reduceMul, Nat.reduceAdd, Nat.reduceSub, ←decide_not, k3, k4, hc, k7, kb]
    exact ⟨by trivial, X1.trans (F19.trans F)⟩
  have hz' : ¬ (dsum ns' ns'.length : Int) = 0 := by omega
  have hdn := hds ns'.length (Nat.le_refl _)
  have hk0 : ab.toNat % dsum ns' ns'.length < dsum ns' ns'.length := Nat.mod_lt _ (by omega)
  obtain ⟨k0, hk0d⟩ : ∃ k0, k0 = ab.toNat % dsum ns' ns'.length := ⟨_, rfl⟩
  have ek0 : (ab.toNat : Int) % (dsum ns' ns'.length : Int) = (k0 : Int) := by rw [hk0d]; simp
  rw [← hk0d] at hk0
  simp (disch := (first | omega | decide | (simp only [rsD] <;> omega) | fail)) only [↓rsC, rsK, rsL, ↓rsCn4_0, tick_eq, tickV_eq, ne_eq, Int.reduceAdd, Int.reduceSub, Int.reduceMul, Int.reduceEq, Int.reduceLT, Int.reduceLE, Int.reduceToNat, Nat.reduceMul, Nat.reduceAdd, Nat.reduceSub, ←decide_not, k3, k4, hc, k7, kb, ek0]
  refine graph_Twin_call (Yld.mono (GTwin_spec (G9.ext0 F) hf') ?_)
  rintro u y10 ⟨F10, nad, ncd, rad, rcd, nsd, hnd, rfl, G10, hown, hpw, hrd⟩
  have hf10 := few_bare hnd hf'
  have hdl : nsd.length = ns'.length := by have := congrArg List.length hnd; simpa using this
  have hdd := fun k => dsum_bare (ns := ns') (ms := nsd) hnd k
  have F910 := F.trans F10
  have zb9 := (B9.ext F910 (by simp)).lt
  have zb19 := (B1.ext (F19.trans F910) (by simp)).lt
  simp (disch := (first | omega | decide | (simp only [rsD] <;> omega) | fail)) only [↓rsC, rsK, rsL, ↓rsCn4_0, tick_eq, tickV_eq, ne_eq, Int.reduceAdd, Int.reduceSub, Int.reduceMul, Int.reduceEq, Int.reduceLT, Int.reduceLE, Int.reduceToNat, Nat.reduceMul, Nat.reduceAdd, Nat.reduceSub, ←decide_not, k3, k4, hc, k7, kb, ek0]
  have B11 : Blk (y10.alloc (.cells #[.slice nad nsd.length ncd, .slice rad (canRs ns rs).length rcd] 25)) y10.heap.size 25 [.slice nad nsd.length ncd, .slice rad (canRs ns rs).length rcd] := Blk.at rfl
  have X11 : Ext [] y10 (y10.alloc (.cells #[.slice nad nsd.length ncd, .slice rad (canRs ns rs).length rcd] 25)) := Ext.alloc _ _ _
  generalize y10.alloc (.cells #[.slice nad nsd.length ncd, .slice rad (canRs ns rs).length rcd] 25) = y11 at *
  obtain ⟨gd, hgd⟩ : ∃ g, g = y10.heap.size := ⟨_, rfl⟩
  rw [← hgd] at B11 ⊢
  have zz10 := F10.size
  -- behind the store: d is another graph
  have fin : ∀ {j k : Nat} {b : BitVec 8} {x3 : World}, Ext [] x1 x3 → (hj : j < nsd.length) → nsd[j].d.set k b ≠ nsd[j].d → Blk x3 gd 25 [.slice nad nsd.length ncd, .slice rad (canRs ns rs).length rcd] → GIs x3 nad ncd rad rcd (bumpN nsd j k b) (canRs ns rs) → loamlaw18_CanonUnlike_j1 (fun u w' => u = .bool true ∧ Ext [] w w') (ptr g1) (ptr gc) (ptr gd) x3 := by
    intro j k b x3 E hj hne Bd Gb
    have hcj : j < (canNs ns rs).length := by
      have := congrArg List.length (hnd.trans hns)
      rw [List.length_map] at this
      omega
    have hcne : (canNs ns rs)[j].d.set k b ≠ (canNs ns rs)[j].d := by
      have e : (canNs ns rs)[j] = bare nsd[j] := by
        have : (canNs ns rs)[j] = (nsd.map bare)[j]'(by simpa using hj) := by simp only [hnd.trans hns]
        rw [this, List.getElem_map]
      rw [e]
      exact hne
    have hbc := bump_can (hnd.trans hns) (j := j) (k := k) (b := b)
    have hfb : FewH (bumpN nsd j k b) (canRs ns rs) := by
      refine ⟨by rw [bumpN_len]; exact hf10.n, hf10.r, fun x hx => ?_⟩
      obtain ⟨i, hi, rfl⟩ := List.getElem_of_mem hx
      have hi' : i < nsd.length := by rwa [bumpN_len] at hi
      rw [bumpN_at hi']
      have h1 := hf10.x _ (List.getElem_mem hi')
      split
      · simpa [bump] using h1
      · exact h1
    have htb : TxS (canNs (bumpN nsd j k b) (canRs ns rs)) (canRs (bumpN nsd j k b) (canRs ns rs)) := by
      rw [hbc.1, hbc.2]
      refine ⟨by rw [bumpN_len]; exact ht.n, ht.r, ht.s, fun x hx => ?_⟩
      obtain ⟨i, hi, rfl⟩ := List.getElem_of_mem hx
      have hi' : i < (canNs ns rs).length := by rwa [bumpN_len] at hi
      rw [bumpN_at hi']
      have h1 := ht.x _ (List.getElem_mem hi')
      split
      · simpa [bump] using h1
      · exact h1
    have hbne := bump_ne hcj hcne
    have htne := bump_txt (rs := canRs ns rs) hcj hcne
    have Ed := E.trans (Ext.drew [] x3)
    have Bdd := Bd.ext (Ext.drew [] x3) (by simp)
    have Gbd := Gb.ext0 (Ext.drew [] x3)
    have F93 := F.trans Ed
    have F13 := F19.trans F93
    unfold loamlaw18_CanonUnlike_j1
    generalize x3.drew = x4 at *
    have kc := fun i => (B9.ext F93 (by simp)).cell (i := i)
    have kd := fun i => Bdd.cell (i := i)
    simp (disch := (first | omega | decide | (simp only [rsD] <;> omega) | fail)) only [↓rsC, rsK, rsL, ↓rsCn4_0, tick_eq, tickV_eq, ne_eq, Int.reduceAdd, Int.reduceSub, Int.reduceMul, Int.reduceEq, Int.reduceLT, Int.reduceLE, Int.reduceToNat, Nat.reduceMul, Nat.reduceAdd, Nat.reduceSub, ←decide_not, k3, k4, hc, k7, kb, ek0, kc, kd]
    have hlb : (bumpN nsd j k b).length = nsd.length := bumpN_len _ _ _ _
    have hS := CSame_spec (G9.ext0 F93) Gbd hf' hfb
    unfold gV at hS
    rw [hlb] at hS
    refine canon_Same_call (Yld.mono hS ?_)
    rintro u x5 hu
    obtain ⟨rfl, F5⟩ := boolFalse hu (fun h => by
      rw [hid.1, hbc.1] at h
      exact hbne h.1.symm)
    have F95 := F93.trans F5
    have F15 := F13.trans F5
    have k5 := fun i => (B1.ext F15 (by simp)).cell (i := i)
    have k5d := fun i => (Bdd.ext F5 (by simp)).cell (i := i)
    simp (disch := (first | omega | decide | (simp only [rsD] <;> omega) | fail)) only [↓rsC, rsK, rsL, ↓rsCn4_0, tick_eq, tickV_eq, ne_eq, Int.reduceAdd, Int.reduceSub, Int.reduceMul, Int.reduceEq, Int.reduceLT, Int.reduceLE, Int.reduceToNat, Nat.reduceMul, Nat.reduceAdd, Nat.reduceSub, ←decide_not, k3, k4, hc, k7, kb, ek0, kc, kd, k5, k5d]
    have hS2 := CSame_spec (G.ext0 F15) (Gbd.ext0 F5) hf.h hfb
    unfold gV at hS2
    rw [hlb] at hS2
    refine canon_Same_call (Yld.mono hS2 ?_)
    rintro u x6 hu
    obtain ⟨rfl, F6⟩ := boolFalse hu (fun h => by
      rw [hbc.1] at h
      exact hbne h.1.symm)
    have F56 := F5.trans F6
    have F96 := F93.trans F56
    have k6 := fun i => (B9.ext F96 (by simp)).cell (i := i)
    have k6d := fun i => (Bdd.ext F56 (by simp)).cell (i := i)
    simp (disch := (first | omega | decide | (simp only [rsD] <;> omega) | fail)) only [↓rsC, rsK, rsL, ↓rsCn4_0, tick_eq, tickV_eq, ne_eq, Int.reduceAdd, Int.reduceSub, Int.reduceMul, Int.reduceEq, Int.reduceLT, Int.reduceLE, Int.reduceToNat, Nat.reduceMul, Nat.reduceAdd, Nat.reduceSub, ←decide_not, k3, k4, hc, k7, kb, ek0, kc, kd, k5, k5d, k6, k6d]
    have hT := CText_spec (G9.ext0 F96) hf' (by rw [hid.1, hid.2]; exact ht)
    rw [hid.1, hid.2] at hT
    refine canon_Text_call (Yld.mono hT ?_)
    rintro u x7 ⟨rfl, F7⟩
    have F57 := F56.trans F7
    have k7d := fun i => (Bdd.ext F57 (by simp)).cell (i := i)
    simp (disch := (first | omega | decide | (simp only [rsD] <;> omega) | fail)) only [↓rsC, rsK, rsL, ↓rsCn4_0, tick_eq, tickV_eq, ne_eq, Int.reduceAdd, Int.reduceSub, Int.reduceMul, Int.reduceEq, Int.reduceLT, Int.reduceLE, Int.reduceToNat, Nat.reduceMul, Nat.reduceAdd, Nat.reduceSub, ←decide_not, k3, k4, hc, k7, kb, ek0, kc, kd, k5, k5d, k6, k6d, k7d]
    have hT2 := CText_spec (Gbd.ext0 F57) hfb htb
    unfold gV at hT2
    rw [hlb, hbc.1, hbc.2] at hT2
    refine canon_Text_call (Yld.mono hT2 ?_)
    rintro u x8 ⟨rfl, F8'⟩
    have F58 := F57.trans F8'
    have F98 := F93.trans F58
    have F18' := F13.trans F58
    have k8 := fun i => (B9.ext F98 (by simp)).cell (i := i)
    have k8b := fun i => (B1.ext F18' (by simp)).cell (i := i)
    have hsne : ¬ strOf (txtB (canNs ns rs) (canRs ns rs)) = strOf (txtB (bumpN (canNs ns rs) j k b) (canRs ns rs)) := fun h => htne (strOf_inj.1 h)
    simp (disch := (first | omega | decide | (simp only [rsD] <;> omega) | fail)) only [↓rsC, rsK, rsL, ↓rsCn4_0, tick_eq, tickV_eq, ne_eq, Int.reduceAdd, Int.reduceSub, Int.reduceMul, Int.reduceEq, Int.reduceLT, Int.reduceLE, Int.reduceToNat, Nat.reduceMul, Nat.reduceAdd, Nat.reduceSub, ←decide_not, k3, k4, hc, k7, kb, ek0, kc, kd, k5, k5d, k6, k6d, k7d, k8, k8b, hsne]
    refine canon_Same_call (Yld.mono (CSame_spec (G9.ext0 F98) (G.ext0 F18') hf' hf.h) ?_)
    rintro u x9 hu
    obtain ⟨rfl, F9'⟩ := boolTrue hu hid
    simp (disch := (first | omega | decide | (simp only [rsD] <;> omega) | fail)) only [↓rsC, rsK, rsL, ↓rsCn4_0, tick_eq, tickV_eq, ne_eq, Int.reduceAdd, Int.reduceSub, Int.reduceMul, Int.reduceEq, Int.reduceLT, Int.reduceLE, Int.reduceToNat, Nat.reduceMul, Nat.reduceAdd, Nat.reduceSub, ←decide_not, k3, k4, hc, k7, kb, ek0, kc, kd, k5, k5d, k6, k6d, k7d, k8, k8b, hsne]
    exact ⟨by trivial, X1.trans (F18'.trans F9')⟩
  refine xLoop_r nsd.length (fun j vs w' => vs = [i64 ((k0 : Int) - (dsum nsd j : Int)), i64 (j : Int)] ∧ Ext [] y11 w' ∧ dsum nsd j ≤ k0) ⟨by simp [dsum], Ext.refl _ _, by simp [dsum]⟩ ?_ ?_
  · rintro j hj u x2 ⟨hu, F2, hle⟩ nxt2 hnx
    simp only [List.map_cons, List.map_nil, List.cons.injEq, and_true] at hu
    rw [hu.1, hu.2]
    obtain ⟨bn, on, ena, _, c1, c2⟩ := gn_at (G10.nr.ext0 (X11.trans F2)) hj
    obtain ⟨_, _, e1, _, c1d, c2d⟩ := gn_at (G10.nr.ext0 (X11.trans (F2.trans (Ext.drew [] x2)))) hj
    rw [ena] at e1
    cases e1
    have kb := fun i => (B11.ext F2 (by simp)).cell (i := i)
    have kbd := fun i => (B11.ext (F2.trans (Ext.drew [] x2)) (by simp)).cell (i := i)
    have hs := dsum_succ hj
    have h1 : dsum nsd (j + 1) ≤ 77000 := by rw [hdd]; exact hds _ (by omega)
    have hk0' : k0 < 77000 := by omega
    unfold loamlaw18_CanonUnlike_l2
    by_cases hlt : k0 - dsum nsd j < nsd[j].d.length
    · obtain ⟨k, hk⟩ : ∃ k, k = k0 - dsum nsd j := ⟨_, rfl⟩
      have ek : (k0 : Int) - (dsum nsd j : Int) = (k : Int) := by omega
      rw [← hk] at hlt
      rw [ek]
      have hox := hown _ (List.getElem_mem hj)
      have hdne : nsd[j].d ≠ [] := fun h => by rw [h] at hlt; simp at hlt
      rcases hox.bl.d with h0 | ⟨g, rest, e1, B⟩
      · exact absurd h0 hdne
      have hgw : g ∈ wbk nsd[j] := wbk_d e1 hdne
      have hge : x1.heap.size ≤ g := hox.fr g (wbk_nbk hgw)
      have hgl : g < y10.heap.size := B.lt
      have Fd := F2.trans (Ext.drew [] x2)
      have Bd := B.ext (X11.trans Fd) (by simp)
      have kd := Bd.cell (i := k)
      rw [List.getElem?_append_left (by simpa using hlt), List.getElem?_map, List.getElem?_eq_getElem hlt, Option.map_some] at kd
      have fd := fun i => (B.ext (X11.trans F2) (by simp)).frozen (i := i)
      have hst := bysR_set (rest := rest) hlt (nsd[j].d[k] + 1#8)
      have hne := set_ne hlt
      obtain ⟨b, hbd⟩ : ∃ b, b = nsd[j].d[k] := ⟨_, rfl⟩
      rw [← hbd] at kd hst hne
      have hkd : (k : Int) < (nsd[j].d.length : Int) := by omega
      rw [e1] at c2 c2d
      rw [ena] at kb kbd
      simp (disch := (first | omega | decide | (simp only [rsD] <;> omega) | fail)) only [↓rsC, rsK, rsL, ↓rsCn4_0, tick_eq, tickV_eq, ne_eq, Int.reduceAdd, Int.reduceSub, Int.reduceMul, Int.reduceEq, Int.reduceLT, Int.reduceLE, Int.reduceToNat, Nat.reduceMul, Nat.reduceAdd, Nat.reduceSub, ←decide_not, k3, k4, hc, k7, kb, ek0, kbd, c2, c2d, kd, fd]
      have B2 := Bd.set (i := k) (v := u8 (b + 1#8))
      rw [hst] at B2
      have Es : Ext [g] x2.drew (x2.drew.setCell ⟨g, k, none⟩ (u8 (b + 1#8))) := Ext.set
      have hgd : gd ∉ [g] := by simp only [List.mem_singleton]; omega
      have E13 : Ext [] x1 (x2.drew.setCell ⟨g, k, none⟩ (u8 (b + 1#8))) := (F10.trans (X11.trans Fd)).set' (.inr hge)
      have Gd := G10.ext0 (X11.trans Fd)
      refine fin E13 hj hne ((B11.ext Fd (by simp)).ext Es hgd) ?_
      refine ⟨?_, by rw [bumpN_len]; exact Gd.nl, Gd.nn, ?_, Gd.rl, Gd.rn, fun x hx => ?_⟩
      · rw [bump_gnC]
        refine Gd.nr.ext Es fun b' o' hb hm => ?_
        simp only [List.mem_singleton] at hm
        exact hox.ap.wbk g hgw (by rw [hb, ← hm]; simp)
      · refine Gd.rr.ext Es fun b' o' hb hm => ?_
        simp only [List.mem_singleton] at hm
        exact (hrd _ (List.getElem_mem hj) _ hb).d _ e1 hdne (by simp [hm])
      · obtain ⟨i, hi, rfl⟩ := List.getElem_of_mem hx
        have hi' : i < nsd.length := by rwa [bumpN_len] at hi
        rw [bumpN_at hi']
        have hok := Gd.ok _ (List.getElem_mem hi')
        by_cases hij : i = j
        · subst hij
          rw [if_pos rfl]
          refine ⟨?_, hok.pl, hok.pn, ?_, by simpa [bump] using hok.dl, hok.dn⟩
          · by_cases hp : nsd[i].p = []
            · have : (bump nsd[i] k (b + 1#8)).p = [] := hp
              rw [this]
              exact .nil
            · refine hok.pr.ext Es fun b' o' hb hm => ?_
              simp only [List.mem_singleton] at hm
              rcases hox.bl.p with h0 | ⟨gp, rp, e3, Bp⟩
              · exact hp h0
              · have hb2 : nsd[i].pa = some ⟨b', o', none⟩ := hb
                rw [e3] at hb2
                cases hb2
                subst hm
                have h1 := B.cell (i := 0)
                have h2 := Bp.cell (i := 0)
                rw [h1] at h2
                cases hq : nsd[i].d with
                | nil => exact hdne hq
                | cons c t => cases hr : nsd[i].p with
                  | nil => exact hp hr
                  | cons d s => rw [hq, hr] at h2; simp at h2
          · have hrow : RowAt (x2.drew.setCell ⟨g, k, none⟩ (u8 (b + 1#8))) (some ⟨g, 0, none⟩) (bys (nsd[i].d.set k (b + 1#8))) := by
              have := (B2.row).take (bys (nsd[i].d.set k (b + 1#8))).length
              rwa [List.take_left'] at this
              rfl
            have : (bump nsd[i] k (b + 1#8)).da = some ⟨g, 0, none⟩ := e1
            show RowAt _ (bump nsd[i] k (b + 1#8)).da (bys (nsd[i].d.set k (b + 1#8)))
            rw [this]
            exact hrow
        · rw [if_neg hij]
          refine hok.ext Es ⟨fun y hy hn hm => ?_, fun y hy hn hm => ?_⟩
          · simp only [List.mem_singleton] at hm
            rcases Nat.lt_or_ge i j with h1 | h1
            · exact (List.pairwise_iff_getElem.1 hpw i j hi' hj h1).p y hy hn (by rw [hm]; exact wbk_nbk hgw)
            · exact (List.pairwise_iff_getElem.1 hpw j i hj hi' (by omega)).d _ e1 hdne (by rw [← hm]; exact mem_nbk.2 (.inl ⟨y, hy, rfl⟩))
          · simp only [List.mem_singleton] at hm
            rcases Nat.lt_or_ge i j with h1 | h1
            · exact (List.pairwise_iff_getElem.1 hpw i j hi' hj h1).d y hy hn (by rw [hm]; exact wbk_nbk hgw)
            · exact (List.pairwise_iff_getElem.1 hpw j i hj hi' (by omega)).d _ e1 hdne (by rw [← hm]; exact mem_nbk.2 (.inr ⟨y, hy, rfl⟩))
    · have hnlt : ¬ ((k0 : Int) - (dsum nsd j : Int) < (nsd[j].d.length : Int)) := by omega
      have e2 : (k0 : Int) - (dsum nsd j : Int) - (nsd[j].d.length : Int) = (k0 : Int) - (dsum nsd (j + 1) : Int) := by omega
      rw [ena] at kb
      simp (disch := (first | omega | decide | (simp only [rsD] <;> omega) | fail)) only [↓rsC, rsK, rsL, ↓rsCn4_0, tick_eq, tickV_eq, ne_eq, Int.reduceAdd, Int.reduceSub, Int.reduceMul, Int.reduceEq, Int.reduceLT, Int.reduceLE, Int.reduceToNat, Nat.reduceMul, Nat.reduceAdd, Nat.reduceSub, ←decide_not, k3, k4, hc, k7, kb, ek0, c2]
      refine hnx _ _ ⟨by rw [← e2]; simp, F2, by omega⟩
  rintro u x2 ⟨hu, F2, hle⟩ nxt2
  exfalso
  rw [hdd, hdl] at hle
  omega
theorem CanonUnlike_spec (a : GP) (m : Int) (hm : 0 ≤ m ∧ m ≤ 255) (w : World) (h : GIs w a.na a.nc a.ra a.rc a.ns a.rs) : Gives Tryd.prog n_loamlaw18_CanonUnlike #[gPV a, .int .u8 m] w (.bool true) := by
  obtain ⟨na, nc, ra, rc, ns, rs⟩ := a
  obtain ⟨x, rfl⟩ : ∃ x : BitVec 8, m = (x.toNat : Int) := ⟨BitVec.ofNat 8 m.toNat, by rw [BitVec.toNat_ofNat]; omega⟩
  exact CanonUnlike_walk na ra nc rc ns rs x w h
end Go.Proofs.YthhcmoknppljpaaDoor
end
