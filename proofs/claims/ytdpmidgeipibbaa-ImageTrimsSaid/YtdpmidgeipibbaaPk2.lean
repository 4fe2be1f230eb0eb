/- Whether a graph may be, by the document: exactly; how many words it takes, by the program (sq). A graph in words, by the document (sq). What the functions on objects compute, where all is well (sq). What it is for objects to be well (sq). What is wrong in words that should be objects (sq). Looking at words that should be objects: what the program finds (sq). Looking at words that should be objects: all of them (sq). Looking at words that should be objects: each object, and a space (sq). Looking at spaces and images: what the program finds (sq). Looking at images without names (sq). The document's word on whether objects are well (sq). The document's findings in words that should be objects (sq). A Root's name in an image, read by the program and by the document (sq). What the statements on spaces call (sq). A space out of words, or none (sq). The statement on looking at spaces, walked (sq). Looking at any image: what the program finds (sq). A word is its eight bytes; two objects that are written (sq). What a graph's words are, word by word; in them nothing is wrong. A graph in words, by the program: a name, a node (sq). A graph's words, as the program fills them in. A graph in words, by the program (sq). Looking for a number in a rising row; are two rows of words the same; an image's reader (sq). An image's reader reads a node (sq). What an image's words are read as, and what its graph's words are. The order in which nodes come from names, and a graph numbered so. A graph without the nodes that nothing leads to. Words with nothing wrong are those of the graph that they are read as. An image decoded (sq). Which nodes come from others, by the program (sq). What names lead to; a node apart (sq). A node apart (sq). A graph trimmed, by the program (sq). -/
import Derived.Test.YtdpmidgeipibbaaPk1
import Derived.Test.YtdpmidgeipibbaaEng15
import Derived.Test.YtdpmidgeipibbaaEng18
section
set_option linter.unusedVariables false
set_option linter.unusedSimpArgs false
set_option maxHeartbeats 4000000
namespace Go.Proofs.Ytdpmidgeipibbaa
open Go.Sh Go.RowKit

abbrev rsGck2_0 := (And.intro @xu8_add (And.intro @xu8_sub (And.intro @xu8_com (And.intro @xu8_lss (And.intro @xu8_gtr (And.intro @xu8_geq (And.intro @xu16_add (And.intro @xu16_sub (And.intro @xu16_com (And.intro @xu16_lss (And.intro @xu16_gtr (And.intro @xu16_geq (And.intro @xu32_add (And.intro @xu32_sub (And.intro @xu32_com (And.intro @xu32_lss 
  (And.intro @xu32_gtr (And.intro @xu32_geq (And.intro @xu64_add (And.intro @xu64_sub (And.intro @xu64_com (And.intro @xu64_lss (And.intro @xu64_gtr (And.intro @xu64_geq (And.intro @xi64_lss (And.intro @xi64_gtr (And.intro @xi64_geq (And.intro @ld_3 (And.intro @ld_9 (And.intro @ld_31 (And.intro @ld_32 (And.intro @ld_66 (And.intro @ld_70 (And.intro @ld_76 
  (And.intro @ld_78 (And.intro @fa_34_0 (And.intro @fa_34_1 (And.intro @fa_76_0 (And.intro @fa_76_1 (And.intro @fa_78_0 (And.intro @fa_78_1 (And.intro @al_76 (And.intro @al_78 (And.intro @st_76 (And.intro @st_78 (And.intro @ia_31 (And.intro @ia_32 (And.intro @ia_66 (And.intro @ln_31 (And.intro @ln_32 (And.intro @ln_66 @ln_70)))))))))))))))))))))))))))))))))))))))))))))))))))
theorem GCheckX_spec {w : World} {na ra : Option Addr} {nc rc : Nat} {ns : List GN} {rs : List GR} (h : GIs w na nc ra rc ns rs) (hf : FewG ns rs) : Gives Try.prog n_loamref17_Check #[gV na nc ra rc ns rs] w (i64 (chkV ns rs)) := by
  have hfn := hf.n
  have hfr := hf.r
  refine loamref17_Check_of ?_
  unfold loamref17_Check
  simp (disch := (first | omega | decide | (simp only [rsD] <;> omega) | fail)) only [↓rsC, rsK, rsL, ↓rsGck2_0, tick_eq, tickV_eq, ne_eq, Int.reduceAdd, Int.reduceSub, Int.reduceMul, Int.reduceEq, Int.reduceLT, Int.reduceLE, Int.reduceToNat, Nat.reduceMul, Nat.reduceAdd, Nat.reduceSub, ←decide_not, eq_self]
  have B : Blk (w.alloc (.cells #[.slice na ns.length nc, .slice ra rs.length rc] 34)) w.heap.size 34 [.slice na ns.length nc, .slice ra rs.length rc] := Blk.at rfl
  have X : Ext [] w (w.alloc (.cells #[.slice na ns.length nc, .slice ra rs.length rc] 34)) := Ext.alloc _ _ _
  have hy := h.ext0 X
  generalize w.heap.size = hb at *
  generalize w.alloc (.cells #[.slice na ns.length nc, .slice ra rs.length rc] 34) = y at *
  refine xLoop_n ns.length (fun j => [i64 (j : Int)]) (fun j w' => Ext [] y w' ∧ ∀ i (hi : i < ns.length), i < j → ndE ns.length ns[i] = 0) rfl ⟨Ext.refl _ _, by intro i _ hi; omega⟩ ?_ ?_
  · intro j hj u v1 hu ⟨F, hq⟩ nxt hnx
    simp only [List.map_cons, List.map_nil, List.cons.injEq, and_true] at hu
    rw [hu]
    have k1 := fun i => (B.ext F (by simp)).cell (i := i)
    obtain ⟨b1, o1, ha1, z1, c1, c2⟩ := gn_at (hy.ext0 F).nr hj
    have hm := List.getElem_mem hj
    have hok := (hy.ext0 F).ok _ hm
    have hfx := hf.x _ hm
    have hqs : ndE ns.length ns[j] = 0 → ∀ i (hi : i < ns.length), i < j + 1 → ndE ns.length ns[i] = 0 := fun h1 i hi hij => by
      by_cases e : i = j
      · subst e; exact h1
      · exact hq i hi (by omega)
    have hbad := fun {e : Int} (he : ndE ns.length ns[j] = e) (hne : e ≠ 0) => chk_node (rs := rs) hj hq he hne
    unfold loamref17_Check_l1
    generalize ns[j] = x at *
    simp (disch := (first | omega | decide | (simp only [rsD] <;> omega) | fail)) only [↓rsC, rsK, rsL, ↓rsGck2_0, tick_eq, tickV_eq, ne_eq, Int.reduceAdd, Int.reduceSub, Int.reduceMul, Int.reduceEq, Int.reduceLT, Int.reduceLE, Int.reduceToNat, Nat.reduceMul, Nat.reduceAdd, Nat.reduceSub, ←decide_not, k1, ha1, c1, c2]
    have C : Blk (v1.alloc (.cells #[.slice x.pa x.p.length x.pc, .slice x.da x.d.length x.dc] 76)) v1.heap.size 76 [.slice x.pa x.p.length x.pc, .slice x.da x.d.length x.dc] := Blk.at rfl
    have X1 : Ext [] v1 (v1.alloc (.cells #[.slice x.pa x.p.length x.pc, .slice x.da x.d.length x.dc] 76)) := Ext.alloc _ _ _
    generalize v1.heap.size = hc at *
    generalize v1.alloc (.cells #[.slice x.pa x.p.length x.pc, .slice x.da x.d.length x.dc] 76) = y1 at *
    refine xLoop_n x.p.length (fun k => [i64 (k : Int)]) (fun k w' => Ext [] y1 w' ∧ ∀ i (hi : i < x.p.length), i < k → 0 ≤ x.p[i] ∧ x.p[i] ≤ ns.length) rfl ⟨Ext.refl _ _, by intro i _ hi; omega⟩ ?_ ?_
    · intro k hk u v2 hu ⟨F2, hp⟩ nxt2 hnx2
      simp only [List.map_cons, List.map_nil, List.cons.injEq, and_true] at hu
      rw [hu]
      have k2 := fun i => (C.ext F2 (by simp)).cell (i := i)
      obtain ⟨b3, o3, ha3, z3, c3⟩ := its_at ((hok.ext0 X1).ext0 F2).pr hk
      have bad1 : ¬ (0 ≤ x.p[k] ∧ x.p[k] ≤ ns.length) → ndE ns.length x = 1 := fun h => by
        unfold ndE
        rw [if_neg fun h2 => h (h2 _ (List.getElem_mem hk))]
      unfold loamref17_Check_l2
      by_cases g1 : x.p[k] < 0
      · simp (disch := (first | omega | decide | (simp only [rsD] <;> omega) | fail)) only [↓rsC, rsK, rsL, ↓rsGck2_0, tick_eq, tickV_eq, ne_eq, Int.reduceAdd, Int.reduceSub, Int.reduceMul, Int.reduceEq, Int.reduceLT, Int.reduceLE, Int.reduceToNat, Nat.reduceMul, Nat.reduceAdd, Nat.reduceSub, ←decide_not, k1, ha1, c1, c2, k2, ha3, c3]
        exact ⟨by rw [hbad (bad1 (by omega)) (by decide)], X.trans (F.trans (X1.trans F2))⟩
      by_cases g2 : (ns.length : Int) < x.p[k]
      · simp (disch := (first | omega | decide | (simp only [rsD] <;> omega) | fail)) only [↓rsC, rsK, rsL, ↓rsGck2_0, tick_eq, tickV_eq, ne_eq, Int.reduceAdd, Int.reduceSub, Int.reduceMul, Int.reduceEq, Int.reduceLT, Int.reduceLE, Int.reduceToNat, Nat.reduceMul, Nat.reduceAdd, Nat.reduceSub, ←decide_not, k1, ha1, c1, c2, k2, ha3, c3]
        exact ⟨by rw [hbad (bad1 (by omega)) (by decide)], X.trans (F.trans (X1.trans F2))⟩
      simp (disch := (first | omega | decide | (simp only [rsD] <;> omega) | fail)) only [↓rsC, rsK, rsL, ↓rsGck2_0, tick_eq, tickV_eq, ne_eq, Int.reduceAdd, Int.reduceSub, Int.reduceMul, Int.reduceEq, Int.reduceLT, Int.reduceLE, Int.reduceToNat, Nat.reduceMul, Nat.reduceAdd, Nat.reduceSub, ←decide_not, k1, ha1, c1, c2, k2, ha3, c3]
      refine hnx2 _ ⟨F2, fun i hi hik => ?_⟩
      by_cases e : i = k
      · subst e; exact ⟨by omega, by omega⟩
      · exact hp i hi (by omega)
    · intro u v2 hu ⟨F2, hp⟩ nxt2
      simp only [List.map_cons, List.map_nil, List.cons.injEq, and_true] at hu
      rw [hu]
      have k2 := fun i => (C.ext F2 (by simp)).cell (i := i)
      have hpp : ∀ p ∈ x.p, 0 ≤ p ∧ p ≤ (ns.length : Int) := fun p hp2 => by
        obtain ⟨i, hi, rfl⟩ := List.getElem_of_mem hp2
        exact hp i hi hi
      have hE : ndE ns.length x = if x.p.length ≤ 64 ∧ x.d.length ≤ 1024 then 0 else 3 := by unfold ndE; rw [if_pos hpp]
      unfold loamref17_Check_l2
      by_cases g1 : 64 < x.p.length
      · simp (disch := (first | omega | decide | (simp only [rsD] <;> omega) | fail)) only [↓rsC, rsK, rsL, ↓rsGck2_0, tick_eq, tickV_eq, ne_eq, Int.reduceAdd, Int.reduceSub, Int.reduceMul, Int.reduceEq, Int.reduceLT, Int.reduceLE, Int.reduceToNat, Nat.reduceMul, Nat.reduceAdd, Nat.reduceSub, ←decide_not, k1, ha1, c1, c2, k2]
        exact ⟨by rw [hbad (e := 3) (by rw [hE, if_neg (by omega)]) (by decide)], X.trans (F.trans (X1.trans F2))⟩
      by_cases g2 : 1024 < x.d.length
      · simp (disch := (first | omega | decide | (simp only [rsD] <;> omega) | fail)) only [↓rsC, rsK, rsL, ↓rsGck2_0, tick_eq, tickV_eq, ne_eq, Int.reduceAdd, Int.reduceSub, Int.reduceMul, Int.reduceEq, Int.reduceLT, Int.reduceLE, Int.reduceToNat, Nat.reduceMul, Nat.reduceAdd, Nat.reduceSub, ←decide_not, k1, ha1, c1, c2, k2]
        exact ⟨by rw [hbad (e := 3) (by rw [hE, if_neg (by omega)]) (by decide)], X.trans (F.trans (X1.trans F2))⟩
      simp (disch := (first | omega | decide | (simp only [rsD] <;> omega) | fail)) only [↓rsC, rsK, rsL, ↓rsGck2_0, tick_eq, tickV_eq, ne_eq, Int.reduceAdd, Int.reduceSub, Int.reduceMul, Int.reduceEq, Int.reduceLT, Int.reduceLE, Int.reduceToNat, Nat.reduceMul, Nat.reduceAdd, Nat.reduceSub, ←decide_not, k1, ha1, c1, c2, k2]
      exact hnx _ ⟨F.trans (X1.trans F2), hqs (by rw [hE, if_pos (by omega)])⟩
  intro u v1 hu ⟨F, hq⟩ nxt
  simp only [List.map_cons, List.map_nil, List.cons.injEq, and_true] at hu
  rw [hu]
  have hq' : ∀ i (hi : i < ns.length), ndE ns.length ns[i] = 0 := fun i hi => hq i hi hi
  have k1 := fun i => (B.ext F (by simp)).cell (i := i)
  unfold loamref17_Check_l1
  by_cases g0 : 64 < rs.length
  · simp (disch := (first | omega | decide | (simp only [rsD] <;> omega) | fail)) only [↓rsC, rsK, rsL, ↓rsGck2_0, tick_eq, tickV_eq, ne_eq, Int.reduceAdd, Int.reduceSub, Int.reduceMul, Int.reduceEq, Int.reduceLT, Int.reduceLE, Int.reduceToNat, Nat.reduceMul, Nat.reduceAdd, Nat.reduceSub, ←decide_not, k1]
    exact ⟨by rw [chk_len hq' g0], X.trans F⟩
  simp (disch := (first | omega | decide | (simp only [rsD] <;> omega) | fail)) only [↓rsC, rsK, rsL, ↓rsGck2_0, tick_eq, tickV_eq, ne_eq, Int.reduceAdd, Int.reduceSub, Int.reduceMul, Int.reduceEq, Int.reduceLT, Int.reduceLE, Int.reduceToNat, Nat.reduceMul, Nat.reduceAdd, Nat.reduceSub, ←decide_not, k1]
  refine xLoop_n rs.length (fun j => [i64 (j : Int)]) (fun j w' => Ext [] y w' ∧ ∀ i, i < j → rtE ns.length rs i = 0) rfl ⟨F, by intro i hi; omega⟩ ?_ ?_
  rotate_left
  · intro u v2 hu ⟨F2, hr⟩ nxt2
    simp only [List.map_cons, List.map_nil, List.cons.injEq, and_true] at hu
    rw [hu]
    have k2 := fun i => (B.ext F2 (by simp)).cell (i := i)
    unfold loamref17_Check_l3
    simp (disch := (first | omega | decide | (simp only [rsD] <;> omega) | fail)) only [↓rsC, rsK, rsL, ↓rsGck2_0, tick_eq, tickV_eq, ne_eq, Int.reduceAdd, Int.reduceSub, Int.reduceMul, Int.reduceEq, Int.reduceLT, Int.reduceLE, Int.reduceToNat, Nat.reduceMul, Nat.reduceAdd, Nat.reduceSub, ←decide_not, k1, k2]
    exact ⟨by rw [chk_ok hq' g0 hr], X.trans F2⟩
  intro j hj u v2 hu ⟨F2, hr⟩ nxt2 hnx2
  simp only [List.map_cons, List.map_nil, List.cons.injEq, and_true] at hu
  rw [hu]
  have hbad := fun {e : Int} (he : rtE ns.length rs j = e) (hne : e ≠ 0) => chk_root hq' g0 hr hj he hne
  have hrt := rtE_get (n := ns.length) hj
  have hsuc : rtE ns.length rs j = 0 → ∀ i, i < j + 1 → rtE ns.length rs i = 0 := fun h1 i hij => by
    by_cases e : i = j
    · subst e; exact h1
    · exact hr i (by omega)
  have k2 := fun i => (B.ext F2 (by simp)).cell (i := i)
  obtain ⟨b1, o1, ha1, z1, c1, c2⟩ := gr_at (hy.ext0 F2).rr hj
  unfold loamref17_Check_l3
  simp (disch := (first | omega | decide | (simp only [rsD] <;> omega) | fail)) only [↓rsC, rsK, rsL, ↓rsGck2_0, tick_eq, tickV_eq, ne_eq, Int.reduceAdd, Int.reduceSub, Int.reduceMul, Int.reduceEq, Int.reduceLT, Int.reduceLE, Int.reduceToNat, Nat.reduceMul, Nat.reduceAdd, Nat.reduceSub, ←decide_not, k1, k2, ha1, c1, c2]
  have C : Blk (v2.alloc (.cells #[.string (strOf rs[j].s), i64 rs[j].to] 78)) v2.heap.size 78 [.string (strOf rs[j].s), i64 rs[j].to] := Blk.at rfl
  have X1 : Ext [] v2 (v2.alloc (.cells #[.string (strOf rs[j].s), i64 rs[j].to] 78)) := Ext.alloc _ _ _
  have hsz := C.lt
  generalize v2.heap.size = hc at *
  generalize hyy : v2.alloc (.cells #[.string (strOf rs[j].s), i64 rs[j].to] 78) = y2 at *
  refine loamref17_Good_call (Gives.to (GoodX_spec rs[j].s _) fun w4 F4d => ?_)
  have F4 := (Ext.drew [] y2).trans F4d
  have X4 : Ext [] y w4 := F2.trans (X1.trans F4)
  have k4 := fun i => (B.ext X4 (by simp)).cell (i := i)
  have kc4 := fun i => (C.ext F4 (by simp)).cell (i := i)
  by_cases hok : nmOk rs[j].s
  rotate_left
  · rw [decide_eq_false hok]
    simp (disch := (first | omega | decide | (simp only [rsD] <;> omega) | fail)) only [↓rsC, rsK, rsL, ↓rsGck2_0, tick_eq, tickV_eq, ne_eq, Int.reduceAdd, Int.reduceSub, Int.reduceMul, Int.reduceEq, Int.reduceLT, Int.reduceLE, Int.reduceToNat, Nat.reduceMul, Nat.reduceAdd, Nat.reduceSub, ←decide_not, k1, k2, ha1, c1, c2]
    exact ⟨by rw [hbad (e := 4) (by rw [hrt, if_neg (fun q => hok q.1)]) (by decide)], X.trans X4⟩
  rw [decide_eq_true hok]
  have hlast : ∀ (b : Bool), (j = 0 ∨ prevL rs j = true ↔ b = true) → rtE ns.length rs j = if b = true then (if 0 ≤ rs[j].to ∧ rs[j].to ≤ ns.length then 0 else 1) else 4 := fun b hb => by
    rw [hrt]
    by_cases q : b = true
    · rw [if_pos ⟨hok, hb.2 q⟩, if_pos q]
    · rw [if_neg (fun q2 => q (hb.1 q2.2)), if_neg q]
  by_cases hj0 : j = 0
  · have hl := hlast true ⟨fun _ => rfl, fun _ => .inl hj0⟩
    rw [if_pos rfl] at hl
    by_cases t1 : rs[j].to < 0
    · simp (disch := (first | omega | decide | (simp only [rsD] <;> omega) | fail)) only [↓rsC, rsK, rsL, ↓rsGck2_0, tick_eq, tickV_eq, ne_eq, Int.reduceAdd, Int.reduceSub, Int.reduceMul, Int.reduceEq, Int.reduceLT, Int.reduceLE, Int.reduceToNat, Nat.reduceMul, Nat.reduceAdd, Nat.reduceSub, ←decide_not, k1, k2, ha1, c1, c2, kc4]
      exact ⟨by rw [hbad (e := 1) (by rw [hl, if_neg (by omega)]) (by decide)], X.trans X4⟩
    by_cases t2 : (ns.length : Int) < rs[j].to
    · simp (disch := (first | omega | decide | (simp only [rsD] <;> omega) | fail)) only [↓rsC, rsK, rsL, ↓rsGck2_0, tick_eq, tickV_eq, ne_eq, Int.reduceAdd, Int.reduceSub, Int.reduceMul, Int.reduceEq, Int.reduceLT, Int.reduceLE, Int.reduceToNat, Nat.reduceMul, Nat.reduceAdd, Nat.reduceSub, ←decide_not, k1, k2, ha1, c1, c2, kc4]
      exact ⟨by rw [hbad (e := 1) (by rw [hl, if_neg (by omega)]) (by decide)], X.trans X4⟩
    simp (disch := (first | omega | decide | (simp only [rsD] <;> omega) | fail)) only [↓rsC, rsK, rsL, ↓rsGck2_0, tick_eq, tickV_eq, ne_eq, Int.reduceAdd, Int.reduceSub, Int.reduceMul, Int.reduceEq, Int.reduceLT, Int.reduceLE, Int.reduceToNat, Nat.reduceMul, Nat.reduceAdd, Nat.reduceSub, ←decide_not, k1, k2, ha1, c1, c2, kc4]
    exact hnx2 _ ⟨X4, hsuc (by rw [hl, if_pos (by omega)])⟩
  · obtain ⟨b5, o5, ha5, z5, c5, c6⟩ := gr_at (hy.ext0 X4).rr (k := j - 1) (by omega)
    rw [ha1] at ha5
    cases ha5
    have t3 : ((j : Int) - 1).toNat = j - 1 := by omega
    have hgs := fun w K => geS (cx := false) (cy := false) (strOf rs[j - 1].s) (strOf rs[j].s) w K
    have hpl := prevL_get hj0 hj
    cases hlt : Op.bytesLess (strOf rs[j - 1].s).toList (strOf rs[j].s).toList with
    | true =>
      rw [hlt] at hgs hpl
      have hl := hlast true ⟨fun _ => rfl, fun _ => .inr hpl⟩
      rw [if_pos rfl] at hl
      by_cases t1 : rs[j].to < 0
      · simp (disch := (first | omega | decide | (simp only [rsD] <;> omega) | fail)) only [↓rsC, rsK, rsL, ↓rsGck2_0, tick_eq, tickV_eq, ne_eq, Int.reduceAdd, Int.reduceSub, Int.reduceMul, Int.reduceEq, Int.reduceLT, Int.reduceLE, Int.reduceToNat, Nat.reduceMul, Nat.reduceAdd, Nat.reduceSub, ←decide_not, k1, k2, ha1, c1, c2, kc4, k4, t3, c5, hgs]
        exact ⟨by rw [hbad (e := 1) (by rw [hl, if_neg (by omega)]) (by decide)], X.trans X4⟩
      by_cases t2 : (ns.length : Int) < rs[j].to
      · simp (disch := (first | omega | decide | (simp only [rsD] <;> omega) | fail)) only [↓rsC, rsK, rsL, ↓rsGck2_0, tick_eq, tickV_eq, ne_eq, Int.reduceAdd, Int.reduceSub, Int.reduceMul, Int.reduceEq, Int.reduceLT, Int.reduceLE, Int.reduceToNat, Nat.reduceMul, Nat.reduceAdd, Nat.reduceSub, ←decide_not, k1, k2, ha1, c1, c2, kc4, k4, t3, c5, hgs]
        exact ⟨by rw [hbad (e := 1) (by rw [hl, if_neg (by omega)]) (by decide)], X.trans X4⟩
      simp (disch := (first | omega | decide | (simp only [rsD] <;> omega) | fail)) only [↓rsC, rsK, rsL, ↓rsGck2_0, tick_eq, tickV_eq, ne_eq, Int.reduceAdd, Int.reduceSub, Int.reduceMul, Int.reduceEq, Int.reduceLT, Int.reduceLE, Int.reduceToNat, Nat.reduceMul, Nat.reduceAdd, Nat.reduceSub, ←decide_not, k1, k2, ha1, c1, c2, kc4, k4, t3, c5, hgs]
      exact hnx2 _ ⟨X4, hsuc (by rw [hl, if_pos (by omega)])⟩
    | false =>
      rw [hlt] at hgs hpl
      have hl := hlast false ⟨fun q => by rcases q with q | q; exact absurd q hj0; rw [hpl] at q; exact q, fun q => by cases q⟩
      rw [if_neg (by simp)] at hl
      simp (disch := (first | omega | decide | (simp only [rsD] <;> omega) | fail)) only [↓rsC, rsK, rsL, ↓rsGck2_0, tick_eq, tickV_eq, ne_eq, Int.reduceAdd, Int.reduceSub, Int.reduceMul, Int.reduceEq, Int.reduceLT, Int.reduceLE, Int.reduceToNat, Nat.reduceMul, Nat.reduceAdd, Nat.reduceSub, ←decide_not, k1, k2, ha1, c1, c2, kc4, k4, t3, c5, hgs]
      exact ⟨by rw [hbad hl (by decide)], X.trans X4⟩
/-- all nodes' words, by the program -/
abbrev rsGck2_1 := (And.intro @xu8_add (And.intro @xu8_lss (And.intro @xu16_add (And.intro @xu16_lss (And.intro @xu32_add (And.intro @xu32_lss (And.intro @xu64_add (And.intro @xu64_lss (And.intro @xi64_lss (And.intro @ld_22 (And.intro @ld_66 (And.intro @ld_70 (And.intro @ld_72 (And.intro @fa_25_0 (And.intro @fa_72_0 (And.intro @fa_72_1 (And.intro @al_72 
  (And.intro @st_72 (And.intro @bd_123_0_1 (And.intro @bd_123_2_3 (And.intro @bd_123 (And.intro @ia_22 (And.intro @ln_22 (And.intro @ln_66 @ln_70))))))))))))))))))))))))
theorem gwords_spec {w : World} {na ra : Option Addr} {nc rc : Nat} {ns : List GN} {rs : List GR} (h : GIs w na nc ra rc ns rs) (hf : FewH ns rs) (hg : GoodG ns rs) : Gives Try.prog n_graph_Words #[gV na nc ra rc ns rs] w (i64 (gW ns : Int)) := by
  have hfn := hf.n
  have hgs := fun x hx => (hg.x x hx).2
  refine graph_Words_of ?_
  unfold graph_Words
  simp (disch := (first | omega | decide | (simp only [rsD] <;> omega) | fail)) only [↓rsC, rsK, rsL, ↓rsGck2_1, tick_eq, tickV_eq, ne_eq, Int.reduceAdd, Int.reduceSub, Int.reduceMul, Int.reduceEq, Int.reduceLT, Int.reduceLE, Int.reduceToNat, Nat.reduceMul, Nat.reduceAdd, Nat.reduceSub, ←decide_not, eq_self]
  have B : Blk (w.alloc (.cells #[.slice na ns.length nc, .slice ra rs.length rc] 25)) w.heap.size 25 [.slice na ns.length nc, .slice ra rs.length rc] := Blk.at rfl
  have X : Ext [] w (w.alloc (.cells #[.slice na ns.length nc, .slice ra rs.length rc] 25)) := Ext.alloc _ _ _
  have hy := h.ext0 X
  generalize w.heap.size = hb at *
  generalize w.alloc (.cells #[.slice na ns.length nc, .slice ra rs.length rc] 25) = y at *
  refine xLoop_n ns.length (fun j => [i64 (gW (ns.take j) : Int), i64 (j : Int)]) (fun j w' => Ext [] y w') (by simp [gW]) (Ext.refl _ _) ?_ ?_
  · intro j hj u v1 hu F nxt hnx
    simp only [List.map_cons, List.map_nil, List.cons.injEq, and_true] at hu
    rw [hu.1, hu.2]
    obtain ⟨b1, o1, rfl, z1, c1, c2⟩ := gn_at (hy.ext0 F).nr hj
    have hm := List.getElem_mem hj
    obtain ⟨q1, q2⟩ := hgs _ hm
    have hle := gW_le (ns.take j) fun x hx => hgs x (List.mem_of_mem_take hx)
    rw [List.length_take] at hle
    have htk := gW_take hj
    unfold graph_Words_l1
    simp (disch := (first | omega | decide | (simp only [rsD] <;> omega) | fail)) only [↓rsC, rsK, rsL, ↓rsGck2_1, tick_eq, tickV_eq, ne_eq, Int.reduceAdd, Int.reduceSub, Int.reduceMul, Int.reduceEq, Int.reduceLT, Int.reduceLE, Int.reduceToNat, Nat.reduceMul, Nat.reduceAdd, Nat.reduceSub, ←decide_not, c1, c2]
    have hgs2 : gsz ns[j] ≤ 193 := by unfold gsz; omega
    have hsz := fun w => Size_spec (ns[j].p.length : Int) (ns[j].d.length : Int) false 0 w
    have e2 : sizeV (ns[j].p.length : Int) (ns[j].d.length : Int) false 0 = (gsz ns[j] : Int) := by
      unfold sizeV gsz
      rw [if_pos ⟨right_f.2 (by omega), rfl⟩]
      omega
    rw [e2] at hsz
    have e1 : (gW (ns.take j) : Int) + (gsz ns[j] : Int) = (gW (ns.take (j + 1)) : Int) := by omega
    refine head_Size_call (Gives.to (hsz _) fun w2 F2 => ?_)
    simp (disch := (first | omega | decide | (simp only [rsD] <;> omega) | fail)) only [↓rsC, rsK, rsL, ↓rsGck2_1, tick_eq, tickV_eq, ne_eq, Int.reduceAdd, Int.reduceSub, Int.reduceMul, Int.reduceEq, Int.reduceLT, Int.reduceLE, Int.reduceToNat, Nat.reduceMul, Nat.reduceAdd, Nat.reduceSub, ←decide_not, c1, c2]
    rw [e1]
    exact hnx _ (F.trans ((Ext.alloc _ _ _).trans F2))
  · intro u v1 hu F nxt
    simp only [List.map_cons, List.map_nil, List.cons.injEq, and_true] at hu
    rw [hu.1, hu.2]
    unfold graph_Words_l1
    simp (disch := (first | omega | decide | (simp only [rsD] <;> omega) | fail)) only [↓rsC, rsK, rsL, ↓rsGck2_1, tick_eq, tickV_eq, ne_eq, Int.reduceAdd, Int.reduceSub, Int.reduceMul, Int.reduceEq, Int.reduceLT, Int.reduceLE, Int.reduceToNat, Nat.reduceMul, Nat.reduceAdd, Nat.reduceSub, ←decide_not, eq_self]
    exact ⟨by rw [List.take_length], X.trans F⟩
abbrev rsGck2_2 := (And.intro @xu8_add (And.intro @xu8_mul (And.intro @xu16_add (And.intro @xu16_mul (And.intro @xu32_add (And.intro @xu32_mul (And.intro @xu64_add (And.intro @xu64_mul (And.intro @ld_23 (And.intro @ld_25 (And.intro @fa_25_1 @ln_23)))))))))))
theorem gneed_spec {w : World} {na ra : Option Addr} {nc rc : Nat} {ns : List GN} {rs : List GR} (h : GIs w na nc ra rc ns rs) (hf : FewH ns rs) (hg : GoodG ns rs) : Gives Try.prog n_image_Need #[gV na nc ra rc ns rs] w (i64 ((2 + 5 * rs.length + gW ns : Nat) : Int)) := by
  have hfn := hf.n
  have hfr := hf.r
  have hle := gW_le ns fun x hx => (hg.x x hx).2
  refine image_Need_of ?_
  unfold image_Need
  simp (disch := (first | omega | decide | (simp only [rsD] <;> omega) | fail)) only [↓rsC, rsK, rsL, ↓rsGck2_2, tick_eq, tickV_eq, ne_eq, Int.reduceAdd, Int.reduceSub, Int.reduceMul, Int.reduceEq, Int.reduceLT, Int.reduceLE, Int.reduceToNat, Nat.reduceMul, Nat.reduceAdd, Nat.reduceSub, ←decide_not, eq_self]
  have B : Blk (w.alloc (.cells #[.slice na ns.length nc, .slice ra rs.length rc] 25)) w.heap.size 25 [.slice na ns.length nc, .slice ra rs.length rc] := Blk.at rfl
  have X : Ext [] w (w.alloc (.cells #[.slice na ns.length nc, .slice ra rs.length rc] 25)) := Ext.alloc _ _ _
  generalize w.heap.size = hb at *
  generalize w.alloc (.cells #[.slice na ns.length nc, .slice ra rs.length rc] 25) = y at *
  have X1 := X.trans (Ext.drew [] _)
  refine graph_Words_call (Gives.to (gwords_spec (h.ext0 X1) hf hg) fun w2 F2d => ?_)
  have F2 := (Ext.drew [] _).trans F2d
  have k2 := fun i => (B.ext F2 (by simp)).cell (i := i)
  have e1 : 2 + 5 * (rs.length : Int) + (gW ns : Int) = ((2 + 5 * rs.length + gW ns : Nat) : Int) := by omega
  simp (disch := (first | omega | decide | (simp only [rsD] <;> omega) | fail)) only [↓rsC, rsK, rsL, ↓rsGck2_2, tick_eq, tickV_eq, ne_eq, Int.reduceAdd, Int.reduceSub, Int.reduceMul, Int.reduceEq, Int.reduceLT, Int.reduceLE, Int.reduceToNat, Nat.reduceMul, Nat.reduceAdd, Nat.reduceSub, ←decide_not, k2]
  exact ⟨by rw [e1], X.trans F2⟩
end Go.Proofs.Ytdpmidgeipibbaa
end
section
set_option linter.unusedVariables false
set_option linter.unusedSimpArgs false
set_option maxHeartbeats 4000000
namespace Go.Proofs.Ytdpmidgeipibbaa
open Go.Sh Go.RowKit

def plL (ns : List GN) (R : Nat) (j : Nat) : List Nat := (List.range j).map fun i => 2 + 5 * R + gW (ns.take i)
def hdrW (R at' : Nat) : BitVec 64 := BitVec.ofNat 64 (R + at' * 65536)
def padS (l : List (BitVec 8)) : List (BitVec 8) := l ++ List.replicate (32 - l.length) (BitVec.ofNat 8 0)
def rtW (pl : List Nat) (r : GR) : List (BitVec 64) := wordsV (padS r.s) ++ [ptW pl r.to]
def ndW (pl : List Nat) (x : GN) : List (BitVec 64) := packW x.p.length x.d.length false 0 :: (x.p.map (ptW pl) ++ wordsV x.d)
def encW (ns : List GN) (rs : List GR) : List (BitVec 64) := [BitVec.ofNat 64 1296125772, hdrW rs.length (2 + 5 * rs.length + gW ns)] ++ rs.flatMap (rtW (plL ns rs.length ns.length)) ++ ns.flatMap (ndW (plL ns rs.length ns.length))
theorem padS_len {l : List (BitVec 8)} (h : l.length ≤ 32) : (padS l).length = 32 := by unfold padS; simp; omega
theorem rtW_len {pl : List Nat} {r : GR} (h : r.s.length ≤ 32) : (rtW pl r).length = 5 := by
  unfold rtW
  rw [List.length_append, wordsV_len, padS_len h]
  rfl
theorem ndW_len {pl : List Nat} {x : GN} : (ndW pl x).length = gsz x := by
  unfold ndW gsz
  simp [wordsV_len]
  omega
theorem rts_len {pl : List Nat} {rs : List GR} (h : ∀ r ∈ rs, r.s.length ≤ 32) : (rs.flatMap (rtW pl)).length = 5 * rs.length := by
  induction rs with
  | nil => rfl
  | cons r rs ih =>
    rw [List.flatMap_cons, List.length_append, rtW_len (h r (by simp)), ih fun x hx => h x (by simp [hx]), List.length_cons]
    omega
theorem nds_len {pl : List Nat} {ns : List GN} : (ns.flatMap (ndW pl)).length = gW ns := by
  induction ns with
  | nil => rfl
  | cons x ns ih =>
    rw [List.flatMap_cons, List.length_append, ndW_len, ih]
    simp [gW]
theorem encW_len {ns : List GN} {rs : List GR} (h : ∀ r ∈ rs, r.s.length ≤ 32) : (encW ns rs).length = 2 + 5 * rs.length + gW ns := by
  unfold encW
  rw [List.length_append, List.length_append, rts_len h, nds_len]
  simp
theorem plL_len (ns : List GN) (R j : Nat) : (plL ns R j).length = j := by simp [plL]
def encC (ns : List GN) (rs : List GR) : Int := if chkV ns rs ≠ 0 then chkV ns rs else if 8192 < 2 + 5 * rs.length + gW ns then 3 else 0
/-- a graph in words, or why not -/
def EncR (w w' : World) (ns : List GN) (rs : List GR) (u : Value) : Prop := (encC ns rs ≠ 0 ∧ u = .tuple #[.slice none 0 0, i64 (encC ns rs)] ∧ Ext [] w w') ∨
  (encC ns rs = 0 ∧ GoodG ns rs ∧ 2 + 5 * rs.length + gW ns ≤ 8192 ∧ ∃ a c, u = .tuple #[.slice a (encW ns rs).length c, i64 0] ∧ (encW ns rs).length ≤ c ∧ (a = none → c = 0) ∧ RowAt w' a (wrds (encW ns rs)) ∧ Ext [] w w')
end Go.Proofs.Ytdpmidgeipibbaa
end
section
set_option linter.unusedVariables false
set_option linter.unusedSimpArgs false
set_option maxHeartbeats 4000000
namespace Go.Proofs.Ytdpmidgeipibbaa
open Go.Sh Go.RowKit

def pN (x : BitVec 64) : Nat := (uP x).toNat
def bN (x : BitVec 64) : Nat := (uB x).toNat
theorem okW_v {x : BitVec 64} (h : okW x) : vP x = pN x ∧ vB x = bN x ∧ vM x = false ∧ vT x = 0 ∧ unErr x = 0 ∧ szW x = 1 + pN x + (bN x + 7) / 8 ∧ pN x ≤ 64 ∧ bN x ≤ 1024 := by
  obtain ⟨_, e2, e3, _, _⟩ := okW_size h
  obtain ⟨h1, h2⟩ := h
  have h3 := h1.1
  rw [h2, right_f] at h3
  simp only [vP, vB, vT, if_pos h1, pN, bN]
  exact ⟨by omega, by omega, e3, by omega, e2, rfl, by omega, by omega⟩
/-- an object that ends by the top -/
structure ObjAt (ws : List (BitVec 64)) (b t o : Nat) : Prop where
  lo : b ≤ o
  ok : okW (wat ws o)
  hi : o + szW (wat ws o) ≤ t
theorem ObjAt.lt {ws : List (BitVec 64)} {b t o : Nat} (h : ObjAt ws b t o) : o < t := by
  have := h.hi
  have := szW_pos (x := wat ws o)
  omega
section
variable {w : World} {base s g : Nat} {a : Option Addr} {c : Nat} {ws : List (BitVec 64)} {b t e : Nat}
abbrev rsObj_0 := (And.intro @xu8_sub (And.intro @xu8_neq (And.intro @xu8_gtr (And.intro @xu16_sub (And.intro @xu16_neq (And.intro @xu16_gtr (And.intro @xu32_sub (And.intro @xu32_neq (And.intro @xu32_gtr (And.intro @xu64_sub (And.intro @xu64_neq (And.intro @xu64_gtr (And.intro @xi64_gtr (And.intro @xi64_neq (And.intro @xi64_neg (And.intro @ld_3 
  (And.intro @ld_4 (And.intro @ld_123 (And.intro @lr_123 (And.intro @fa_102_2 (And.intro @fa_123_2 (And.intro @al_123 (And.intro @st_123 (And.intro @bd_123_0_1 (And.intro @bd_123_2_3 @bd_123)))))))))))))))))))))))))
theorem whole_ok {o : Nat} (S : SpIs w base s g a c ws b t e) (h : ObjAt ws b t o) : Gives Try.prog n_obj_whole #[ptr s, i64 (o : Int)] w (.tuple #[hd (pN (wat ws o)) (bN (wat ws o)) false 0, i64 0]) := by
  obtain ⟨v1, v2, v3, v4, v5, v6, v7, v8⟩ := okW_v h.ok
  have q1 := S.te
  have q2 := S.el
  have q3 := S.mem.len
  have hlt := h.lt
  have hhi := h.hi
  have hh := SHead_in (o := o) S h.lo hlt
  rw [v1, v2, v3, v4, v5] at hh
  refine obj_whole_of ?_
  unfold obj_whole
  simp (disch := (first | omega | decide | (simp only [rsD] <;> omega) | fail)) only [↓rsC, rsK, rsL, ↓rsObj_0, tick_eq, tickV_eq, ne_eq, Int.reduceAdd, Int.reduceSub, Int.reduceMul, Int.reduceEq, Int.reduceLT, Int.reduceLE, Int.reduceToNat, Nat.reduceMul, Nat.reduceAdd, Nat.reduceSub, ←decide_not, eq_self]
  have B : Blk (w.alloc (.cells #[i64 0, i64 0, .bool false, i64 0] 123)) w.heap.size 123 [i64 0, i64 0, .bool false, i64 0] := Blk.at rfl
  have X : Ext [] w (w.alloc (.cells #[i64 0, i64 0, .bool false, i64 0] 123)) := Ext.alloc _ _ _
  have zs := S.blk.lt
  generalize w.alloc (.cells #[i64 0, i64 0, .bool false, i64 0] 123) = y at *
  have hh2 := SHead_in (o := o) (S.ext0 X) h.lo hlt
  rw [v1, v2, v3, v4, v5] at hh2
  refine space_Space_Head_call (Gives.to hh2 fun w1 F1 => ?_)
  have B1 := B.ext F1 (by simp)
  have S1 := (S.ext0 X).ext0 F1
  have z1 := B1.lt
  have zs1 := S1.blk.lt
  have ks := fun i => S1.blk.cell (i := i)
  simp (disch := (first | omega | decide | (simp only [rsD] <;> omega) | fail)) only [↓rsC, rsK, rsL, ↓rsObj_0, tick_eq, tickV_eq, ne_eq, Int.reduceAdd, Int.reduceSub, Int.reduceMul, Int.reduceEq, Int.reduceLT, Int.reduceLE, Int.reduceToNat, Nat.reduceMul, Nat.reduceAdd, Nat.reduceSub, ←decide_not, ks]
  have C : Blk (w1.alloc (.cells #[i64 (pN (wat ws o)), i64 (bN (wat ws o)), .bool false, i64 0] 123)) w1.heap.size 123 [i64 (pN (wat ws o)), i64 (bN (wat ws o)), .bool false, i64 0] := Blk.at rfl
  have X1 : Ext [] w1 (w1.alloc (.cells #[i64 (pN (wat ws o)), i64 (bN (wat ws o)), .bool false, i64 0] 123)) := Ext.alloc _ _ _
  have B2 := B1.ext X1 (by simp)
  have S2 := S1.ext0 X1
  have hsz : Gives Try.prog n_head_Size #[hd (pN (wat ws o)) (bN (wat ws o)) false 0] (w1.alloc (.cells #[i64 (pN (wat ws o)), i64 (bN (wat ws o)), .bool false, i64 0] 123)).drew (i64 (szW (wat ws o) : Int)) := by
    have := SizeW_spec h.ok (w1.alloc (.cells #[i64 (pN (wat ws o)), i64 (bN (wat ws o)), .bool false, i64 0] 123)).drew
    rw [v1, v2, v4] at this
    exact this
  refine head_Size_call (Gives.to hsz fun w3 F3d => ?_)
  have F3 := (Ext.drew [] _).trans F3d
  have B3 := B2.ext F3 (by simp)
  have C3 := C.ext F3 (by simp)
  have S3 := S2.ext0 F3
  have k3 := fun i => S3.blk.cell (i := i)
  have kb := fun i => B3.cell (i := i)
  have fb := fun i => B3.frozen (i := i)
  have kc := fun i => C3.cell (i := i)
  simp (disch := (first | omega | decide | (simp only [rsD] <;> omega) | fail)) only [↓rsC, rsK, rsL, ↓rsObj_0, tick_eq, tickV_eq, ne_eq, Int.reduceAdd, Int.reduceSub, Int.reduceMul, Int.reduceEq, Int.reduceLT, Int.reduceLE, Int.reduceToNat, Nat.reduceMul, Nat.reduceAdd, Nat.reduceSub, ←decide_not, ks, k3, kc, kb, fb]
  exact ⟨by trivial, ((((X.trans (F1.trans (X1.trans F3))).set' (.inr (Nat.le_refl _))).set' (.inr (Nat.le_refl _))).set' (.inr (Nat.le_refl _))).set' (.inr (Nat.le_refl _))⟩

abbrev rsObj_1 := (And.intro @xu8_add (And.intro @xu8_sub (And.intro @xu8_mul (And.intro @xu8_neq (And.intro @xu8_lss (And.intro @xu8_gtr (And.intro @xu16_add (And.intro @xu16_sub (And.intro @xu16_mul (And.intro @xu16_neq (And.intro @xu16_lss (And.intro @xu16_gtr (And.intro @xu32_add (And.intro @xu32_sub (And.intro @xu32_mul (And.intro @xu32_neq 
  (And.intro @xu32_lss (And.intro @xu32_gtr (And.intro @xu64_add (And.intro @xu64_sub (And.intro @xu64_mul (And.intro @xu64_neq (And.intro @xu64_lss (And.intro @xu64_gtr (And.intro @xi64_lss (And.intro @xi64_gtr (And.intro @xi64_neq (And.intro @xi64_neg (And.intro @ld_3 (And.intro @fa_123_0 (And.intro @fa_123_1 (And.intro @al_123 @st_123))))))))))))))))))))))))))))))))
theorem bytes_ok {o from' n : Nat} (S : SpIs w base s g a c ws b t e) (h : ObjAt ws b t o) (hn : from' + n ≤ bN (wat ws o)) : Gives Try.prog n_obj_bytes #[ptr s, i64 (o : Int), i64 (from' : Int), i64 (n : Int)] w (.tuple #[i64 (((o + 1 + pN (wat ws o)) * 8 + from' : Nat) : Int), i64 0]) := by
  obtain ⟨v1, v2, v3, v4, v5, v6, v7, v8⟩ := okW_v h.ok
  have q1 := S.te
  have q2 := S.el
  have q3 := S.mem.len
  have hhi := h.hi
  have e1 : (((o : Int) + 1 + (pN (wat ws o) : Int)) * 8 + from') = (((o + 1 + pN (wat ws o)) * 8 + from' : Nat) : Int) := by omega
  refine obj_bytes_of ?_
  unfold obj_bytes
  refine obj_whole_call (Gives.to (whole_ok S h) fun w1 F1 => ?_)
  simp (disch := (first | omega | decide | (simp only [rsD] <;> omega) | fail)) only [↓rsC, rsK, rsL, ↓rsObj_1, tick_eq, tickV_eq, ne_eq, Int.reduceAdd, Int.reduceSub, Int.reduceMul, Int.reduceEq, Int.reduceLT, Int.reduceLE, Int.reduceToNat, Nat.reduceMul, Nat.reduceAdd, Nat.reduceSub, ←decide_not, eq_self]
  exact ⟨by rw [← e1], by (repeat (first | with_reducible exact Ext.refl _ _ | with_reducible assumption | with_reducible refine Ext.alloc' ?_ _ | with_reducible refine Ext.drew' ?_ | with_reducible refine Ext.set' ?_ ?_ | exact .inr (by first | omega | (simp only [World.size_alloc, World.size_drew, World.size_setCell] <;> omega)) | refine Ext.trans ?_ (by with_reducible assumption)))⟩
end
end Go.Proofs.Ytdpmidgeipibbaa
end
section
set_option linter.unusedVariables false
set_option linter.unusedSimpArgs false
set_option maxHeartbeats 4000000
namespace Go.Proofs.Ytdpmidgeipibbaa
open Go.Sh Go.RowKit

def PtrW (ws : List (BitVec 64)) (l : List Nat) (o : Nat) : Prop := ∀ i, i < pN (wat ws o) → (wat ws (o + 1 + i)).toNat = 0 ∨ ((wat ws (o + 1 + i)).toNat ≤ 8192 ∧ 1 ≤ (wat ws (o + 1 + i)).toNat ∧ (wat ws (o + 1 + i)).toNat - 1 ∈ l)
def PadW (ws : List (BitVec 64)) (o : Nat) : Prop := ∀ j, (o + 1 + pN (wat ws o)) * 8 + bN (wat ws o) ≤ j → j < (o + szW (wat ws o)) * 8 → byteW ws j = BitVec.ofNat 8 0
theorem Objs.count {ws : List (BitVec 64)} {t o : Nat} {l : List Nat} (h : Objs ws t o l) : o + l.length ≤ t := by
  induction h with
  | nil => simp
  | @cons o q h1 h2 h3 ih => have := szW_pos (x := wat ws o); simp only [List.length_cons]; omega
def WellP (ws : List (BitVec 64)) (b t : Nat) : Prop := ∃ l, objs ws b t = some l ∧ ∀ o ∈ l, PtrW ws l o ∧ PadW ws o
def WellIs (ws : List (BitVec 64)) (b t : Nat) (v : Int) : Prop := (WellP ws b t ∧ v = 0) ∨ (¬ WellP ws b t ∧ v = 2)
theorem WellIs.eq {ws : List (BitVec 64)} {b t : Nat} {v v' : Int} (h : WellIs ws b t v) (h' : WellIs ws b t v') : v = v' := by
  rcases h with ⟨h1, h2⟩ | ⟨h1, h2⟩ <;> rcases h' with ⟨h3, h4⟩ | ⟨h3, h4⟩
  · rw [h2, h4]
  · exact absurd h1 h3
  · exact absurd h3 h1
  · rw [h2, h4]
theorem WellIs.bad {ws : List (BitVec 64)} {b t o : Nat} {l : List Nat} (h : objs ws b t = some l) (ho : o ∈ l) (hb : ¬ (PtrW ws l o ∧ PadW ws o)) : WellIs ws b t 2 := by
  refine .inr ⟨?_, rfl⟩
  rintro ⟨l', h1, h2⟩
  rw [h] at h1
  cases h1
  exact hb (h2 o ho)
def PtrOk (l : List Nat) (x : Nat) : Prop := x = 0 ∨ (x ≤ 8192 ∧ 1 ≤ x ∧ x - 1 ∈ l)
instance (l : List Nat) (x : Nat) : Decidable (PtrOk l x) := by unfold PtrOk; infer_instance
end Go.Proofs.Ytdpmidgeipibbaa
end
section
set_option linter.unusedVariables false
set_option linter.unusedSimpArgs false
set_option maxHeartbeats 4000000
namespace Go.Proofs.Ytdpmidgeipibbaa
open Go.Sh Go.RowKit

/-- walking over words: places, and where it ends for want of an object -/
inductive Sc (x : Nat → BitVec 64) (t : Nat) : Nat → List Nat → Option Nat → Prop
  | done : Sc x t t [] none
  | bad {o : Nat} : o < t → ¬ (okW (x o) ∧ o + szW (x o) ≤ t) → Sc x t o [] (some o)
  | step {o : Nat} {l : List Nat} {b : Option Nat} : okW (x o) → o + szW (x o) ≤ t → Sc x t (o + szW (x o)) l b → Sc x t o (o :: l) b
theorem Sc.le {x : Nat → BitVec 64} {t o : Nat} {l : List Nat} {b : Option Nat} (h : Sc x t o l b) : o ≤ t := by
  cases h with
  | done => exact Nat.le_refl _
  | bad h1 _ => exact Nat.le_of_lt h1
  | step _ h2 _ => have := szW_pos (x := x o); omega
theorem Sc.ex (x : Nat → BitVec 64) (t : Nat) : ∀ (f o : Nat), t ≤ o + f → o ≤ t → ∃ l b, Sc x t o l b
  | 0, o, h1, h2 => by obtain rfl : o = t := by omega
                       exact ⟨_, _, .done⟩
  | f + 1, o, h1, h2 => by
    by_cases h : o = t
    · subst h; exact ⟨_, _, .done⟩
    · by_cases h3 : okW (x o) ∧ o + szW (x o) ≤ t
      · have := szW_pos (x := x o)
        obtain ⟨l, b, h4⟩ := Sc.ex x t f (o + szW (x o)) (by omega) h3.2
        exact ⟨_, _, .step h3.1 h3.2 h4⟩
      · exact ⟨_, _, .bad (by omega) h3⟩
theorem Sc.congr {x y : Nat → BitVec 64} {t o : Nat} {l : List Nat} {b : Option Nat} (h : Sc x t o l b) (e : ∀ i, o ≤ i → i < t → x i = y i) : Sc y t o l b := by
  induction h with
  | done => exact .done
  | @bad o h1 h2 => rw [e o (Nat.le_refl _) h1] at h2; exact .bad h1 h2
  | @step o l b h1 h2 h3 ih =>
    have hp := szW_pos (x := x o)
    have e1 := e o (Nat.le_refl _) (by omega)
    have ih := ih fun i hi => e i (by omega)
    rw [e1] at h1 h2 ih
    exact .step h1 h2 ih
theorem Sc.uniq {x : Nat → BitVec 64} {t o : Nat} {l l' : List Nat} {b b' : Option Nat} (h : Sc x t o l b) (h' : Sc x t o l' b') : l = l' ∧ b = b' := by
  induction h generalizing l' b' with
  | done =>
    cases h' with
    | done => exact ⟨rfl, rfl⟩
    | bad h1 _ => exact absurd h1 (Nat.lt_irrefl _)
    | step _ h2 _ => have := szW_pos (x := x t); omega
  | @bad o h1 h2 =>
    cases h' with
    | done => exact absurd h1 (Nat.lt_irrefl _)
    | bad _ _ => exact ⟨rfl, rfl⟩
    | step h3 h4 _ => exact absurd ⟨h3, h4⟩ h2
  | @step o l b h1 h2 h3 ih =>
    cases h' with
    | done => have := szW_pos (x := x t); omega
    | bad _ h5 => exact absurd ⟨h1, h2⟩ h5
    | step _ _ h6 => obtain ⟨rfl, rfl⟩ := ih h6; exact ⟨rfl, rfl⟩
theorem Sc.all {x : Nat → BitVec 64} {t o : Nat} {l : List Nat} {b : Option Nat} (h : Sc x t o l b) : l.Pairwise (· < ·) ∧ ∀ p ∈ l, o ≤ p ∧ okW (x p) ∧ p + szW (x p) ≤ t := by
  induction h with
  | done => exact ⟨.nil, by simp⟩
  | bad => exact ⟨.nil, by simp⟩
  | @step o l b h1 h2 h3 ih =>
    have hp := szW_pos (x := x o)
    refine ⟨List.pairwise_cons.2 ⟨fun p hq => ?_, ih.1⟩, fun p hq => ?_⟩
    · have := (ih.2 p hq).1
      omega
    · rcases List.mem_cons.1 hq with rfl | hq
      · exact ⟨Nat.le_refl _, h1, h2⟩
      · have := ih.2 p hq
        exact ⟨by omega, this.2⟩
theorem Sc.count {x : Nat → BitVec 64} {t o : Nat} {l : List Nat} {b : Option Nat} (h : Sc x t o l b) : o + l.length ≤ t := by
  induction h with
  | done => simp
  | bad h1 _ => simp; omega
  | @step o l b h1 h2 h3 ih => have := szW_pos (x := x o); simp only [List.length_cons]; omega
theorem Sc.objs {ws : List (BitVec 64)} {t o : Nat} {l : List Nat} (h : Sc (wat ws) t o l none) : Objs ws t o l := by
  generalize hb : (none : Option Nat) = b at h
  induction h with
  | done => exact .nil
  | bad => cases hb
  | step h1 h2 _ ih => exact .cons h1 h2 (ih hb)
theorem Objs.sc {ws : List (BitVec 64)} {t o : Nat} {l : List Nat} (h : Objs ws t o l) : Sc (wat ws) t o l none := by
  induction h with
  | nil => exact .done
  | cons h1 h2 _ ih => exact .step h1 h2 ih
/-! findings -/
abbrev Fnd := Nat × List (BitVec 8)
def padX (x : Nat → BitVec 64) (o : Nat) : Prop := bN (x o) % 8 ≠ 0 ∧ x (o + szW (x o) - 1) >>> (8 * (bN (x o) % 8)) ≠ 0#64
instance (x : Nat → BitVec 64) (o : Nat) : Decidable (padX x o) := by unfold padX; infer_instance
end Go.Proofs.Ytdpmidgeipibbaa
end
section
set_option linter.unusedVariables false
set_option linter.unusedSimpArgs false
set_option maxHeartbeats 4000000
namespace Go.Proofs.Ytdpmidgeipibbaa
open Go.Sh Go.RowKit

abbrev fC (f : Fnd) : List Value := [i64 (f.1 : Int), .string (strOf f.2)]
abbrev OwnF (w : World) (v : Value) (F : List Fnd) : Prop := Own w 40 2 v F.length (F.flatMap fC)
/-- a header, as a map keeps it -/
abbrev hdX (x : Nat → BitVec 64) (p : Nat) : Int × Value := ((p : Int), hd (pN (x p)) (bN (x p)) false 0)
structure WkIs (w0 w : World) (k r : Nat) (v : Value) (a : Option Addr) (c : Nat) (L : List (BitVec 64)) (base : Nat) (l : List Nat) (F : List Fnd) : Prop where
  blk : Blk w k 96 [.slice a L.length c, i64 (base : Int), .map (some r), v]
  map : MapIs w r (l.map (hdX fun p => wat L (p - base)))
  own : OwnF w v F
  kr : k ≠ r
  kv : k ∉ Go.Sh.blk v
  rv : r ∉ Go.Sh.blk v
  up : w0.heap.size ≤ k ∧ w0.heap.size ≤ r ∧ ∀ y ∈ Go.Sh.blk v, w0.heap.size ≤ y
  row : RowAt w a (wrds L)
  ra : ∀ b o, a = some ⟨b, o, none⟩ → L ≠ [] → b < w0.heap.size
  ext : Ext [] w0 w
section
variable {w0 w : World} {k r : Nat} {v : Value} {a : Option Addr} {c : Nat} {L : List (BitVec 64)} {base : Nat} {l : List Nat} {F : List Fnd}
theorem WkIs.ext0 {w' : World} (h : WkIs w0 w k r v a c L base l F) (hx : Ext [] w w') : WkIs w0 w' k r v a c L base l F :=
  ⟨h.blk.ext hx (by simp), h.map.ext0 hx, h.own.ext0 hx, h.kr, h.kv, h.rv, h.up, h.row.ext0 hx, h.ra, h.ext.trans hx⟩
theorem WkIs.rowx {w' : World} {M : List Nat} (h : WkIs w0 w k r v a c L base l F) (hx : Ext M w w') (hM : ∀ y ∈ M, w0.heap.size ≤ y) : RowAt w' a (wrds L) := by
  by_cases hL : L = []
  · subst hL; exact RowAt.nil
  · exact h.row.ext hx fun b o hb hm => by
      have := h.ra b o hb hL
      have := hM b hm
      omega
end
end Go.Proofs.Ytdpmidgeipibbaa
end
section
set_option linter.unusedVariables false
set_option linter.unusedSimpArgs false
set_option maxHeartbeats 4000000
namespace Go.Proofs.Ytdpmidgeipibbaa
open Go.Sh Go.RowKit

section
variable {w0 w : World} {k r : Nat} {v : Value} {a : Option Addr} {c : Nat} {L : List (BitVec 64)} {base : Nat} {l : List Nat} {F : List Fnd}
theorem WkIs.put {w' : World} {p : Nat} (h : WkIs w0 w k r v a c L base l F) (M : MapIs w' r ((l ++ [p]).map (hdX fun p => wat L (p - base)))) (hx : Ext [r] w w') : WkIs w0 w' k r v a c L base (l ++ [p]) F :=
  ⟨h.blk.ext hx (by simpa using h.kr), M, h.own.ext hx (fun y hy hm => by simp only [List.mem_singleton] at hm; subst hm; exact h.rv hy), h.kr, h.kv, h.rv, h.up, h.rowx hx (fun y hy => by simp only [List.mem_singleton] at hy; subst hy; exact h.up.2.1), h.ra, h.ext.new hx (fun y hy => by simp only [List.mem_singleton] at hy; subst hy; exact h.up.2.1)⟩
end
end Go.Proofs.Ytdpmidgeipibbaa
end
section
set_option linter.unusedVariables false
set_option linter.unusedSimpArgs false
set_option maxHeartbeats 4000000
namespace Go.Proofs.Ytdpmidgeipibbaa
open Go.Sh Go.RowKit

section
end
end Go.Proofs.Ytdpmidgeipibbaa
end
section
set_option linter.unusedVariables false
set_option linter.unusedSimpArgs false
set_option maxHeartbeats 4000000
namespace Go.Proofs.Ytdpmidgeipibbaa
open Go.Sh Go.RowKit

section
end
end Go.Proofs.Ytdpmidgeipibbaa
end
section
set_option linter.unusedVariables false
set_option linter.unusedSimpArgs false
set_option maxHeartbeats 4000000
namespace Go.Proofs.Ytdpmidgeipibbaa
open Go.Sh Go.RowKit

def sMagic : List (BitVec 8) := [109#8, 97#8, 103#8, 105#8, 99#8]
def nR (l : List (BitVec 64)) : Nat := (fieldB (wat l 1) 0 16).toNat
def sizeOk (l : List (BitVec 64)) : Prop := 2 ≤ l.length ∧ fieldB (wat l 1) 48 16 = BitVec.ofNat 64 0 ∧ fieldB (wat l 1) 16 32 = BitVec.ofNat 64 l.length ∧ nR l ≤ 64 ∧ 2 + 5 * nR l ≤ l.length
instance (l : List (BitVec 64)) : Decidable (sizeOk l) := by unfold sizeOk; infer_instance
def magF (l : List (BitVec 64)) : List Fnd := if l.length < 1 ∨ wat l 0 ≠ BitVec.ofNat 64 1296125772 then [(0, sMagic)] else []
theorem nR_lt (l : List (BitVec 64)) : nR l < 65536 := by
  have h : (fieldB (wat l 1) 0 16).toNat = _ := field_nat (wat l 1) (a := 0) (n := 16) (by decide) (by decide)
  unfold nR
  rw [h]
  exact Nat.mod_lt _ (by decide)
theorem row_w {w : World} {a : Option Addr} {l : List (BitVec 64)} (h : RowAt w a (wrds l)) {i : Nat} (hi : i < l.length) : ∃ b o, a = some ⟨b, o, none⟩ ∧ b < w.heap.size ∧ w.cell? ⟨b, o + i, none⟩ = some (u64 (wat l i)) := by
  obtain ⟨b5, o5, h5, z5, k5⟩ := h.at (i := i) (by simpa using hi)
  refine ⟨b5, o5, h5, z5, ?_⟩
  simp only [List.getElem_map] at k5
  rw [k5]
  unfold wat
  rw [List.getD_eq_getElem?_getD, List.getElem?_eq_getElem hi]
  rfl
end Go.Proofs.Ytdpmidgeipibbaa
end
section
set_option linter.unusedVariables false
set_option linter.unusedSimpArgs false
set_option maxHeartbeats 4000000
namespace Go.Proofs.Ytdpmidgeipibbaa
open Go.Sh Go.RowKit

section
end
end Go.Proofs.Ytdpmidgeipibbaa
end
section
set_option linter.unusedVariables false
set_option linter.unusedSimpArgs false
set_option maxHeartbeats 4000000
namespace Go.Proofs.Ytdpmidgeipibbaa
open Go.Sh Go.RowKit

end Go.Proofs.Ytdpmidgeipibbaa
end
section
set_option linter.unusedVariables false
set_option linter.unusedSimpArgs false
set_option maxHeartbeats 4000000
namespace Go.Proofs.Ytdpmidgeipibbaa
open Go.Sh Go.RowKit

def nameS (q : List (BitVec 64)) (at' : Nat) : List (BitVec 8) := cutN (bytesW q (8 * at') 32)
def nameB (q : List (BitVec 64)) (at' : Nat) : Prop := nmOk (nameS q at') ∧ fixN (nameS q at') = bytesW q (8 * at') 32
instance (q : List (BitVec 64)) (at' : Nat) : Decidable (nameB q at') := by unfold nameB; infer_instance
end Go.Proofs.Ytdpmidgeipibbaa
end
section
set_option linter.unusedVariables false
set_option linter.unusedSimpArgs false
set_option maxHeartbeats 4000000
namespace Go.Proofs.Ytdpmidgeipibbaa
open Go.Sh Go.RowKit

end Go.Proofs.Ytdpmidgeipibbaa
end
section
set_option linter.unusedVariables false
set_option linter.unusedSimpArgs false
set_option maxHeartbeats 4000000
namespace Go.Proofs.Ytdpmidgeipibbaa
open Go.Sh Go.RowKit Go.ChangeShapes Go.WideShapes Go.ChangeAt

end Go.Proofs.Ytdpmidgeipibbaa
end
section
set_option linter.unusedVariables false
set_option linter.unusedSimpArgs false
set_option maxHeartbeats 4000000
namespace Go.Proofs.Ytdpmidgeipibbaa
open Go.Sh Go.RowKit Go.ChangeShapes Go.WideShapes Go.ChangeAt

end Go.Proofs.Ytdpmidgeipibbaa
end
section
set_option linter.unusedVariables false
set_option linter.unusedSimpArgs false
set_option maxHeartbeats 4000000
namespace Go.Proofs.Ytdpmidgeipibbaa
open Go.Sh Go.RowKit

end Go.Proofs.Ytdpmidgeipibbaa
end
section
set_option linter.unusedVariables false
set_option linter.unusedSimpArgs false
set_option maxHeartbeats 4000000
namespace Go.Proofs.Ytdpmidgeipibbaa
open Go.Sh Go.RowKit

theorem wat_ext {ws ws' : List (BitVec 64)} {i : Nat} (h : ∀ r, r < 8 → byteW ws (8 * i + r) = byteW ws' (8 * i + r)) : wat ws i = wat ws' i := by
  apply BitVec.eq_of_getLsbD_eq
  intro k hk
  have h1 := congrArg (fun x => x.getLsbD (k % 8)) (h (k / 8) (by omega))
  simp only [byteW, BitVec.getLsbD_setWidth, BitVec.getLsbD_ushiftRight] at h1
  rw [show (8 * i + k / 8) / 8 = i by omega, show 8 * ((8 * i + k / 8) % 8) + k % 8 = k by omega] at h1
  have h2 : k % 8 < 8 := by omega
  simpa [wat, h2] using h1
theorem byte_zero {ws : List (BitVec 64)} {j : Nat} (h : wat ws (j / 8) = c0) : byteW ws j = BitVec.ofNat 8 0 := by
  unfold byteW
  rw [show ws.getD (j / 8) c0 = c0 from h]
  simp
theorem wat_rep {n i : Nat} : wat (List.replicate n c0) i = c0 := by
  unfold wat
  rw [List.getD_eq_getElem?_getD, List.getElem?_replicate]
  split <;> rfl
theorem wat_set_bytes {ws : List (BitVec 64)} {p i : Nat} {l : List (BitVec 8)} (h : p + l.length ≤ 8 * ws.length) (hi : 8 * i + 8 ≤ p ∨ p + l.length ≤ 8 * i) : wat (setBytesW ws p l) i = wat ws i := by
  refine wat_ext fun r hr => ?_
  rw [byte_set h, if_neg (by omega)]
theorem pack_v {P n : Nat} (hP : P ≤ 64) (hn : n ≤ 1024) : rightP (P : Int) (n : Int) false 0 ∧ okW (packW P n false 0) ∧ szW (packW P n false 0) = 1 + P + (n + 7) / 8 ∧ pN (packW P n false 0) = P ∧ bN (packW P n false 0) = n := by
  have hr : rightP (P : Int) (n : Int) false 0 := right_f.2 (by omega)
  obtain ⟨h1, h2⟩ := okW_pack hr
  obtain ⟨u1, u2, u3, u4⟩ := un_pack hr
  exact ⟨hr, h1, by rw [h2]; simp, by unfold pN; rw [u1]; simp, by unfold bN; rw [u2]; simp⟩
section
end
end Go.Proofs.Ytdpmidgeipibbaa
end
section
set_option linter.unusedVariables false
set_option linter.unusedSimpArgs false
set_option maxHeartbeats 4000000
namespace Go.Proofs.Ytdpmidgeipibbaa
open Go.Sh Go.RowKit

theorem flat_at {α β : Type} (l : List α) (f : α → List β) {i k m : Nat} (hi : i < l.length) (hk : k < (f l[i]).length) (hm : ((l.take i).flatMap f).length = m) : (l.flatMap f)[m + k]? = (f l[i])[k]? := by
  have e : l = l.take i ++ l[i] :: l.drop (i + 1) := by rw [List.getElem_cons_drop, List.take_append_drop]
  have e2 : l.flatMap f = (l.take i).flatMap f ++ (f l[i] ++ (l.drop (i + 1)).flatMap f) := by
    conv => lhs; rw [e]
    rw [List.flatMap_append, List.flatMap_cons]
  rw [e2, List.getElem?_append_right (by omega), show m + k - ((l.take i).flatMap f).length = k by omega, List.getElem?_append_left hk]
theorem orV_bit (l : List (BitVec 8)) (a : Nat) : ∀ (k b : Nat), k ≤ 8 → (orV l a k).getLsbD b = (decide (b < 8 * k) && (l.getD (a + b / 8) (BitVec.ofNat 8 0)).getLsbD (b % 8))
  | 0, b, _ => by simp [orV]
  | k + 1, b, hk => by
    rw [orV, BitVec.getLsbD_or, orV_bit l a k b (by omega), BitVec.getLsbD_shiftLeft, BitVec.getLsbD_setWidth]
    by_cases h1 : b < 8 * k
    · have h2 : b < 8 * (k + 1) := by omega
      simp [h1, h2]
    · by_cases h2 : b < 8 * (k + 1)
      · have e1 : b / 8 = k := by omega
        have e2 : b - 8 * k = b % 8 := by omega
        have h3 : b < 64 := by omega
        have h4 : b % 8 < 64 := by omega
        simp [h1, h2, e1, e2, h3, h4]
      · have h5 : 8 ≤ b - 8 * k := by omega
        simp [h1, h2]
        intro _
        rw [BitVec.getLsbD_of_ge _ _ h5]
        simp
theorem wordV_bit (l : List (BitVec 8)) (i b : Nat) (hb : b < 64) : (wordV l i).getLsbD b = (l.getD (8 * i + b / 8) (BitVec.ofNat 8 0)).getLsbD (b % 8) := by
  unfold wordV
  rw [orV_bit _ _ _ _ (by omega)]
  by_cases h : b < 8 * min 8 (l.length - 8 * i)
  · rw [decide_eq_true h, Bool.true_and]
  · rw [decide_eq_false h, Bool.false_and]
    have : l.length ≤ 8 * i + b / 8 := by omega
    rw [List.getD_eq_getElem?_getD, List.getElem?_eq_none this]
    simp
theorem wordV_byte (l : List (BitVec 8)) (i r : Nat) (hr : r < 8) : (wordV l i >>> (8 * r)).setWidth 8 = l.getD (8 * i + r) (BitVec.ofNat 8 0) := by
  apply BitVec.eq_of_getLsbD_eq
  intro k hk
  rw [BitVec.getLsbD_setWidth, decide_eq_true hk, Bool.true_and, BitVec.getLsbD_ushiftRight, wordV_bit _ _ _ (by omega), show (8 * r + k) / 8 = r by omega, show (8 * r + k) % 8 = k by omega]
theorem wordsV_at (l : List (BitVec 8)) {i : Nat} (h : i < (l.length + 7) / 8) : (wordsV l)[i]? = some (wordV l i) := by
  unfold wordsV
  rw [List.getElem?_map, List.getElem?_range h]
  rfl
theorem cut_fill (n : Nat) : ∀ s : List (BitVec 8), z8 ∉ s → cutN (s ++ List.replicate n z8) = s
  | [], _ => by
    cases n with
    | zero => rfl
    | succ n => rw [List.nil_append, List.replicate_succ]; unfold cutN; rw [List.takeWhile_cons, if_neg (by simp)]
  | c :: s, h => by
    have h1 : c ≠ z8 := fun e => h (e ▸ List.mem_cons_self ..)
    have ih := cut_fill n s fun h2 => h (List.mem_cons_of_mem _ h2)
    unfold cutN at ih ⊢
    rw [List.cons_append, List.takeWhile_cons, if_pos (decide_eq_true h1), ih]
theorem cut_pad {s : List (BitVec 8)} (h : z8 ∉ s) : cutN (padS s) = s := cut_fill _ s h
theorem strOf_list (s : List (BitVec 8)) : (strOf s).toList = s.map UInt8.ofBitVec := by
  rw [ByteArray.toList_eq]
  simp [strOf]
section
variable {ns : List GN} {rs : List GR}
abbrev plE (ns : List GN) (rs : List GR) : List Nat := plL ns rs.length ns.length
theorem wat_some {l : List (BitVec 64)} {i : Nat} {x : BitVec 64} (h : l[i]? = some x) : wat l i = x := by
  unfold wat
  rw [List.getD_eq_getElem?_getD, h]
  rfl
theorem enc_root (hs : ∀ r ∈ rs, r.s.length ≤ 32) {i k : Nat} (hi : i < rs.length) (hk : k < 5) : (encW ns rs)[2 + 5 * i + k]? = (rtW (plE ns rs) rs[i])[k]? := by
  have hl : ((rs.take i).flatMap (rtW (plE ns rs))).length = 5 * i := by
    rw [rts_len fun r hr => hs r (List.mem_of_mem_take hr), List.length_take]
    omega
  unfold encW
  rw [List.append_assoc, List.getElem?_append_right (by simp; omega), List.getElem?_append_left (by rw [rts_len hs]; simp; omega), show 2 + 5 * i + k - ([BitVec.ofNat 64 1296125772, hdrW rs.length (2 + 5 * rs.length + gW ns)] : List (BitVec 64)).length = 5 * i + k by simp; omega]
  exact flat_at rs _ hi (by rw [rtW_len (hs _ (List.getElem_mem hi))]; exact hk) hl
abbrev plc (ns : List GN) (rs : List GR) (j : Nat) : Nat := 2 + 5 * rs.length + gW (ns.take j)
theorem gW_le_all {ns : List GN} : ∀ {j : Nat}, gW (ns.take j) ≤ gW ns := fun {j} => by
  conv => rhs; rw [← List.take_append_drop j ns]
  unfold gW
  rw [List.map_append, List.sum_append]
  omega
theorem enc_node (hs : ∀ r ∈ rs, r.s.length ≤ 32) {j k : Nat} (hj : j < ns.length) (hk : k < gsz ns[j]) : (encW ns rs)[plc ns rs j + k]? = (ndW (plE ns rs) ns[j])[k]? := by
  unfold encW
  have h2 : ([BitVec.ofNat 64 1296125772, hdrW rs.length (2 + 5 * rs.length + gW ns)] ++ rs.flatMap (rtW (plE ns rs))).length = 2 + 5 * rs.length := by
    rw [List.length_append, rts_len hs]
    rfl
  rw [List.getElem?_append_right (by rw [h2]; unfold plc; omega), h2, show plc ns rs j + k - (2 + 5 * rs.length) = gW (ns.take j) + k by unfold plc; omega]
  exact flat_at ns _ hj (by rw [ndW_len]; exact hk) nds_len
theorem pl_get {j : Nat} (hj : j < ns.length) : (plE ns rs)[j]? = some (plc ns rs j) := by
  unfold plE plL
  rw [List.getElem?_map, List.getElem?_range hj]
  rfl
theorem plc_lt {j : Nat} (hj : j < ns.length) : plc ns rs j + gsz ns[j] ≤ 2 + 5 * rs.length + gW ns := by
  have := gW_take hj
  have h2 := @gW_le_all ns (j + 1)
  unfold plc
  omega
variable (hg : GoodG ns rs) (hN : 2 + 5 * rs.length + gW ns ≤ 8192)
include hg
theorem enc_len : (encW ns rs).length = 2 + 5 * rs.length + gW ns := encW_len fun r hr => (hg.s r hr).1.2.1
theorem enc_hd {j : Nat} (hj : j < ns.length) : wat (encW ns rs) (plc ns rs j) = packW ns[j].p.length ns[j].d.length false 0 :=
  wat_some ((enc_node (ns := ns) (rs := rs) (fun r hr => (hg.s r hr).1.2.1) hj (k := 0) (by unfold gsz; omega)).trans rfl)
theorem enc_ptr {j k : Nat} (hj : j < ns.length) (hk : k < ns[j].p.length) : wat (encW ns rs) (plc ns rs j + 1 + k) = ptW (plE ns rs) ns[j].p[k] := by
  refine wat_some ?_
  rw [Nat.add_assoc, enc_node (fun r hr => (hg.s r hr).1.2.1) hj (by unfold gsz; omega), Nat.add_comm 1 k]
  unfold ndW
  rw [List.getElem?_cons_succ, List.getElem?_append_left (by simpa using hk), List.getElem?_map, List.getElem?_eq_getElem hk]
  rfl
theorem enc_dat {j k : Nat} (hj : j < ns.length) (hk : k < (ns[j].d.length + 7) / 8) : wat (encW ns rs) (plc ns rs j + 1 + ns[j].p.length + k) = wordV ns[j].d k := by
  refine wat_some ?_
  rw [show plc ns rs j + 1 + ns[j].p.length + k = plc ns rs j + (ns[j].p.length + k + 1) by omega, enc_node (fun r hr => (hg.s r hr).1.2.1) hj (by unfold gsz; omega)]
  unfold ndW
  rw [List.getElem?_cons_succ, List.getElem?_append_right (by simp), List.length_map, show ns[j].p.length + k - ns[j].p.length = k by omega]
  exact wordsV_at _ hk
theorem enc_sz {j : Nat} (hj : j < ns.length) : okW (wat (encW ns rs) (plc ns rs j)) ∧ szW (wat (encW ns rs) (plc ns rs j)) = gsz ns[j] ∧ pN (wat (encW ns rs) (plc ns rs j)) = ns[j].p.length ∧ bN (wat (encW ns rs) (plc ns rs j)) = ns[j].d.length := by
  obtain ⟨_, h1, h2⟩ := hg.x _ (List.getElem_mem hj)
  obtain ⟨_, q1, q2, q3, q4⟩ := pack_v h1 h2
  rw [enc_hd hg hj]
  exact ⟨q1, q2, q3, q4⟩
theorem enc_sc : Sc (wat (encW ns rs)) (encW ns rs).length (2 + 5 * rs.length) (plE ns rs) none := by
  have hl := enc_len hg
  have key : ∀ d j, j + d = ns.length → Sc (wat (encW ns rs)) (encW ns rs).length (plc ns rs j) ((List.range' j d).map (plc ns rs)) none := by
    intro d
    induction d with
    | zero =>
      intro j hj
      have e : plc ns rs j = (encW ns rs).length := by
        rw [hl]
        unfold plc
        rw [List.take_of_length_le (by omega)]
      rw [e]
      exact .done
    | succ d ih =>
      intro j hj
      have hjl : j < ns.length := by omega
      obtain ⟨h1, h2, _, _⟩ := enc_sz hg hjl
      have h3 := plc_lt (ns := ns) (rs := rs) hjl
      have h4 : plc ns rs j + gsz ns[j] = plc ns rs (j + 1) := by
        have := gW_take hjl
        unfold plc
        omega
      rw [List.range'_succ, List.map_cons]
      refine .step h1 (by rw [h2, hl]; exact h3) ?_
      rw [h2, h4]
      exact ih (j + 1) (by omega)
  have := key ns.length 0 (by omega)
  rw [← List.range_eq_range'] at this
  exact this
theorem enc_name {i : Nat} (hi : i < rs.length) : bytesW (encW ns rs) (8 * (2 + 5 * i)) 32 = padS rs[i].s := by
  have h32 := (hg.s _ (List.getElem_mem hi)).1.2.1
  refine List.ext_getElem (by rw [bytesW_length, padS_len h32]) fun j h1 h2 => ?_
  rw [bytesW_length] at h1
  have e1 : ∀ h : j < (bytesW (encW ns rs) (8 * (2 + 5 * i)) 32).length, (bytesW (encW ns rs) (8 * (2 + 5 * i)) 32)[j]'h = byteW (encW ns rs) (8 * (2 + 5 * i) + j) := fun h => by simp [bytesW]
  have e2 : wat (encW ns rs) (2 + 5 * i + j / 8) = wordV (padS rs[i].s) (j / 8) := by
    refine wat_some ?_
    rw [enc_root (fun r hr => (hg.s r hr).1.2.1) hi (by omega)]
    unfold rtW
    have hl : j / 8 < ((padS rs[i].s).length + 7) / 8 := by rw [padS_len h32]; omega
    rw [List.getElem?_append_left (by rw [wordsV_len]; exact hl), wordsV_at _ hl]
  rw [e1]
  unfold byteW
  rw [show (8 * (2 + 5 * i) + j) / 8 = 2 + 5 * i + j / 8 by omega, show (8 * (2 + 5 * i) + j) % 8 = j % 8 by omega]
  rw [show (encW ns rs).getD (2 + 5 * i + j / 8) c0 = wordV (padS rs[i].s) (j / 8) from e2, wordV_byte _ _ _ (by omega), show 8 * (j / 8) + j % 8 = j by omega, List.getD_eq_getElem?_getD, List.getElem?_eq_getElem h2]
  rfl
theorem enc_rt {i : Nat} (hi : i < rs.length) : wat (encW ns rs) (2 + 5 * i + 4) = ptW (plE ns rs) rs[i].to := by
  have h32 := (hg.s _ (List.getElem_mem hi)).1.2.1
  refine wat_some ?_
  rw [enc_root (fun r hr => (hg.s r hr).1.2.1) hi (by omega)]
  unfold rtW
  rw [List.getElem?_append_right (by rw [wordsV_len, padS_len h32]; decide), wordsV_len, padS_len h32]
  rfl
theorem enc_nm {i : Nat} (hi : i < rs.length) : nameS (encW ns rs) (2 + 5 * i) = rs[i].s ∧ nameB (encW ns rs) (2 + 5 * i) := by
  obtain ⟨⟨h1, h2, h3⟩, _⟩ := hg.s _ (List.getElem_mem hi)
  have hz : z8 ∉ rs[i].s := fun h => h3 _ h rfl
  have e1 : nameS (encW ns rs) (2 + 5 * i) = rs[i].s := by unfold nameS; rw [enc_name hg hi, cut_pad hz]
  refine ⟨e1, ?_⟩
  have hok : nmOk rs[i].s := ⟨h1, h2, hz⟩
  unfold nameB
  rw [e1, enc_name hg hi]
  refine ⟨hok, ?_⟩
  unfold fixN padS
  rw [if_pos hok]
end
section
variable {ns : List GN} {rs : List GR} (hg : GoodG ns rs) (hN : 2 + 5 * rs.length + gW ns ≤ 8192)
include hg hN
theorem enc_ok : sizeOk (encW ns rs) ∧ nR (encW ns rs) = rs.length ∧ magF (encW ns rs) = [] := by
  have hl := enc_len hg
  have hr := hg.r
  have w0 : wat (encW ns rs) 0 = BitVec.ofNat 64 1296125772 := rfl
  have w1 : wat (encW ns rs) 1 = hdrW rs.length (2 + 5 * rs.length + gW ns) := rfl
  have hN' := hN
  generalize hT : 2 + 5 * rs.length + gW ns = T at *
  have hn : (hdrW rs.length T).toNat = rs.length + T * 65536 := by
    unfold hdrW
    rw [BitVec.toNat_ofNat]
    omega
  have f0 : (fieldB (hdrW rs.length T) 0 16).toNat = _ := field_nat _ (a := 0) (n := 16) (by decide) (by decide)
  have f1 : (fieldB (hdrW rs.length T) 16 32).toNat = _ := field_nat _ (a := 16) (n := 32) (by decide) (by decide)
  have f2 : (fieldB (hdrW rs.length T) 48 16).toNat = _ := field_nat _ (a := 48) (n := 16) (by decide) (by decide)
  rw [hn] at f0 f1 f2
  have hnR : nR (encW ns rs) = rs.length := by
    unfold nR
    rw [w1, f0]
    omega
  refine ⟨⟨by omega, ?_, ?_, by omega, by omega⟩, hnR, ?_⟩
  · apply BitVec.eq_of_toNat_eq
    rw [w1, f2, BitVec.toNat_ofNat]
    omega
  · apply BitVec.eq_of_toNat_eq
    rw [w1, f1, hl, BitVec.toNat_ofNat]
    omega
  · unfold magF
    rw [if_neg]
    rintro (h | h)
    · omega
    · exact h w0
end
end Go.Proofs.Ytdpmidgeipibbaa
end
section
set_option linter.unusedVariables false
set_option linter.unusedSimpArgs false
set_option maxHeartbeats 4000000
namespace Go.Proofs.Ytdpmidgeipibbaa
open Go.Sh Go.RowKit

def setsK (ws : List (BitVec 64)) (i : Nat) (l : List (BitVec 64)) : Nat → List (BitVec 64)
  | 0 => ws
  | k + 1 => (setsK ws i l k).set (i + k) (l.getD k c0)
theorem setsK_len (ws : List (BitVec 64)) (i : Nat) (l : List (BitVec 64)) : ∀ k, (setsK ws i l k).length = ws.length
  | 0 => rfl
  | k + 1 => by rw [setsK, List.length_set, setsK_len ws i l k]
theorem wat_setsK (ws : List (BitVec 64)) (i : Nat) (l : List (BitVec 64)) (j : Nat) : ∀ k, i + k ≤ ws.length → wat (setsK ws i l k) j = if i ≤ j ∧ j < i + k then l.getD (j - i) c0 else wat ws j
  | 0, _ => by rw [if_neg (by omega)]; rfl
  | k + 1, h => by
    rw [setsK, wat_set (by rw [setsK_len]; omega), wat_setsK ws i l j k (by omega)]
    by_cases e : j = i + k
    · subst e
      rw [if_pos rfl, if_pos (by omega), show i + k - i = k by omega]
    · rw [if_neg e]
      by_cases h2 : i ≤ j ∧ j < i + k
      · rw [if_pos h2, if_pos (by omega)]
      · rw [if_neg h2, if_neg (by omega)]
theorem wat_setB {ws : List (BitVec 64)} {q : Nat} {l : List (BitVec 8)} (h : q * 8 + l.length ≤ 8 * ws.length) (hz : ∀ i, q ≤ i → i < q + (l.length + 7) / 8 → wat ws i = c0) (i : Nat) :
    wat (setBytesW ws (q * 8) l) i = if q ≤ i ∧ i < q + (l.length + 7) / 8 then wordV l (i - q) else wat ws i := by
  by_cases hi : q ≤ i ∧ i < q + (l.length + 7) / 8
  · rw [if_pos hi]
    apply BitVec.eq_of_getLsbD_eq
    intro k hk
    have hb := byte_set (ws := ws) (at' := q * 8) (l := l) (j := 8 * i + k / 8) h
    have h0 : byteW ws (8 * i + k / 8) = BitVec.ofNat 8 0 := byte_zero (by rw [show (8 * i + k / 8) / 8 = i by omega]; exact hz i hi.1 hi.2)
    rw [h0] at hb
    have h1 := congrArg (fun x => x.getLsbD (k % 8)) hb
    have hk8 : k % 8 < 8 := by omega
    simp only [byteW, BitVec.getLsbD_setWidth, BitVec.getLsbD_ushiftRight, hk8, decide_true, Bool.true_and] at h1
    rw [show (8 * i + k / 8) / 8 = i by omega, show 8 * ((8 * i + k / 8) % 8) + k % 8 = k by omega] at h1
    have h2 : wat (setBytesW ws (q * 8) l) i = (setBytesW ws (q * 8) l).getD i c0 := rfl
    rw [h2, h1, wordV_bit _ _ _ hk]
    by_cases h3 : q * 8 ≤ 8 * i + k / 8 ∧ 8 * i + k / 8 < q * 8 + l.length
    · rw [if_pos h3, show 8 * i + k / 8 - q * 8 = 8 * (i - q) + k / 8 by omega]
    · rw [if_neg h3, List.getD_eq_getElem?_getD (l := l), List.getElem?_eq_none (by omega)]
      rfl
  · rw [if_neg hi]
    exact wat_set_bytes h (by omega)
section
variable {w : World} {base g : Nat} {a : Option Addr} {c : Nat} {ws : List (BitVec 64)}
abbrev rsImg1_0 := (And.intro @xu8_add (And.intro @xu8_sub (And.intro @xu8_eql (And.intro @xu16_add (And.intro @xu16_sub (And.intro @xu16_eql (And.intro @xu32_add (And.intro @xu32_sub (And.intro @xu32_eql (And.intro @xu64_add (And.intro @xu64_sub (And.intro @xu64_eql (And.intro @xi64_eql (And.intro @ld_3 (And.intro @ld_66 (And.intro @cv_3_69 @ia_66))))))))))))))))
theorem to_spec {w : World} (pl : List Nat) (pb : Nat) (ap : Option Addr) (cp : Nat) (p : Int) (hc : w.cell? ⟨pb, 0, none⟩ = some (.slice ap pl.length cp)) (hr : RowAt w ap (nums pl)) (h0 : 0 ≤ p) (h1 : p ≤ pl.length) (hl : pl.length ≤ 1000000) (hb : ∀ q ∈ pl, q ≤ 1000000) : Gives Try.prog n_image_Encode_1 #[i64 p, ptr pb] w (u64 (ptW pl p)) := by
  refine image_Encode_1_of ?_
  unfold image_Encode_1 ptW
  by_cases hp : p = 0
  · subst hp
    rw [if_pos rfl]
    simp (disch := (first | omega | decide | (simp only [rsD] <;> omega) | fail)) only [↓rsC, rsK, rsL, ↓rsImg1_0, tick_eq, tickV_eq, ne_eq, Int.reduceAdd, Int.reduceSub, Int.reduceMul, Int.reduceEq, Int.reduceLT, Int.reduceLE, Int.reduceToNat, Nat.reduceMul, Nat.reduceAdd, Nat.reduceSub, ←decide_not, eq_self]
    exact ⟨by trivial, Ext.refl _ _⟩
  · rw [if_neg hp]
    have hj : p.toNat - 1 < pl.length := by omega
    obtain ⟨b5, o5, rfl, z5, k5⟩ := hr.at (i := p.toNat - 1) (by simpa using hj)
    simp only [List.getElem_map] at k5
    have hb2 := hb _ (List.getElem_mem hj)
    have t1 : (p - 1).toNat = p.toNat - 1 := by omega
    have e2 : BitVec.ofInt 64 ((pl[p.toNat - 1] : Int) + 1) = BitVec.ofNat 64 (pl[p.toNat - 1] + 1) := by
      rw [show (pl[p.toNat - 1] : Int) + 1 = ((pl[p.toNat - 1] + 1 : Nat) : Int) by omega, BitVec.ofInt_natCast]
    rw [List.getD_eq_getElem?_getD, List.getElem?_eq_getElem hj, Option.getD_some]
    simp (disch := (first | omega | decide | (simp only [rsD] <;> omega) | fail)) only [↓rsC, rsK, rsL, ↓rsImg1_0, tick_eq, tickV_eq, ne_eq, Int.reduceAdd, Int.reduceSub, Int.reduceMul, Int.reduceEq, Int.reduceLT, Int.reduceLE, Int.reduceToNat, Nat.reduceMul, Nat.reduceAdd, Nat.reduceSub, ←decide_not, hc, t1, k5, e2]
    exact ⟨by trivial, Ext.refl _ _⟩
abbrev rsImg1_1 := (And.intro @xu8_add (And.intro @xu8_mul (And.intro @xu16_add (And.intro @xu16_mul (And.intro @xu32_add (And.intro @xu32_mul (And.intro @xu64_add (And.intro @xu64_mul @al_157))))))))
theorem iroot_spec {s : List (BitVec 8)} (h : MemIs w base g a c ws) (hs : nmOk s) (at' : Nat) (hat : at' + 5 ≤ ws.length) (to : BitVec 64) : Yld Try.prog n_image_root #[ptr g, i64 (at' : Int), .string (strOf s), u64 to] w fun u w' => Ext (blkOf a) w w' ∧ MemIs w' base g a c ((setBytesW ws (at' * 8) (padS s)).set (at' + 4) to) := by
  have hl := h.len
  have hf : fixN s = padS s := by unfold fixN padS; rw [if_pos hs]
  have h32 : (padS s).length = 32 := padS_len hs.2.1
  have hsl := fun (a : Addr) (w : World) (K : K1) => xSlice_arr (P := Try.prog) (t := 157) (n := 32) (a := a) (w := w) (K := K) (by kernel_rfl) (by kernel_rfl) (by kernel_rfl) (by decide)
  have one : ∀ l' : List (BitVec 8), ∀ v ∈ bys l', v.oneCell' = true := fun l' v hv => by
    obtain ⟨c, _, rfl⟩ := List.mem_map.1 hv; rfl
  have lst : ((Try.prog).info? 157).map (·.size) = some (bys (padS s)).length := by
    rw [List.length_map, h32]; kernel_rfl
  refine image_root_of ?_
  unfold image_root
  refine table_Fix_call (Gives.to (Fix_spec s w) fun w1 F1 => ?_)
  rw [hf]
  have h1 := h.ext0 F1
  simp (disch := (first | omega | decide | (simp only [rsD] <;> omega) | fail)) only [↓rsC, rsK, rsL, ↓rsImg1_1, tick_eq, tickV_eq, ne_eq, Int.reduceAdd, Int.reduceSub, Int.reduceMul, Int.reduceEq, Int.reduceLT, Int.reduceLE, Int.reduceToNat, Nat.reduceMul, Nat.reduceAdd, Nat.reduceSub, ←decide_not, eq_self]
  rw [z32]
  have B : Blk (w1.alloc (.cells (bys (List.replicate 32 z8)).toArray 157)) w1.heap.size 157 (bys (List.replicate 32 z8)) := Blk.at rfl
  have X : Ext [] w1 (w1.alloc (.cells (bys (List.replicate 32 z8)).toArray 157)) := Ext.alloc _ _ _
  have h2 := h1.ext0 X
  have hblt := fun hw => h1.blt hw
  have zg := h1.lt
  generalize w1.alloc (.cells (bys (List.replicate 32 z8)).toArray 157) = w2 at *
  generalize hn : w1.heap.size = nb at *
  have hst := fun (K : K1) => xStore_arr (P := Try.prog) (K := K) lst B (by simp [h32]) (one _)
  have B2 := B.put (cs := bys (padS s)) (by simp [h32])
  have X2 : Ext [nb] w2 (w2.setCells nb 0 (bys (padS s))) := Ext.sets (Ext.refl _ _) (.inl (by simp))
  have h3 := h2.ext X2 (by simp only [List.mem_singleton]; omega) (fun hw y hy hm => by simp only [List.mem_singleton] at hm; have := hblt hw y hy; omega)
  have e1 : (at' : Int) * 8 = ((at' * 8 : Nat) : Int) := by omega
  have e4 : (at' : Int) + 4 = ((at' + 4 : Nat) : Int) := by omega
  have X3 : Ext [] w (w2.setCells nb 0 (bys (padS s))) := (F1.trans X).sets (.inr (by have := F1.size; omega))
  have R3 := B2.row
  simp (disch := (first | omega | decide | (simp only [rsD] <;> omega) | fail)) only [↓rsC, rsK, rsL, ↓rsImg1_1, tick_eq, tickV_eq, ne_eq, Int.reduceAdd, Int.reduceSub, Int.reduceMul, Int.reduceEq, Int.reduceLT, Int.reduceLE, Int.reduceToNat, Nat.reduceMul, Nat.reduceAdd, Nat.reduceSub, ←decide_not, hst, hsl, e1]
  generalize w2.setCells nb 0 (bys (padS s)) = w3 at *
  have hsb := SetBytes_ok (at' * 8) (padS s) (some ⟨nb, 0, none⟩) 32 h3 R3 (fun hw _ b o hb hm => by
    cases hb
    have := hblt hw _ hm
    omega) (by omega)
  rw [h32] at hsb
  refine mem_Mem_SetBytes_call (Yld.mono hsb ?_)
  rintro u w4 ⟨rfl, F4, h4⟩
  simp (disch := (first | omega | decide | (simp only [rsD] <;> omega) | fail)) only [↓rsC, rsK, rsL, ↓rsImg1_1, tick_eq, tickV_eq, ne_eq, Int.reduceAdd, Int.reduceSub, Int.reduceMul, Int.reduceEq, Int.reduceLT, Int.reduceLE, Int.reduceToNat, Nat.reduceMul, Nat.reduceAdd, Nat.reduceSub, ←decide_not, hst, hsl, e1, e4]
  refine mem_Mem_Set_call (Yld.mono (Set_ok (at' + 4) to h4 (by rw [setBytesW_length]; omega)) ?_)
  rintro u w5 ⟨rfl, F5, h5⟩
  exact ⟨(X3.more (by simp)).trans (F4.trans F5), h5⟩
abbrev rsImg1_2 := (And.intro @xu8_add (And.intro @xu8_mul (And.intro @xu8_lss (And.intro @xu16_add (And.intro @xu16_mul (And.intro @xu16_lss (And.intro @xu32_add (And.intro @xu32_mul (And.intro @xu32_lss (And.intro @xu64_add (And.intro @xu64_mul (And.intro @xu64_lss (And.intro @xi64_lss (And.intro @ld_3 (And.intro @ld_66 (And.intro @ld_70 (And.intro @fa_72_0 
  (And.intro @fa_72_1 (And.intro @ia_66 @ln_66)))))))))))))))))))
theorem inode_spec (h : MemIs w base g a c ws) (x : GN) (pl : List Nat) (pb : Nat) (ap : Option Addr) (cp at' : Nat) (hl : pl.length ≤ 1000000) (hb : ∀ q ∈ pl, q ≤ 1000000) (hp : ∀ p ∈ x.p, 0 ≤ p ∧ p ≤ pl.length)
    (hK : ∀ w', Ext (blkOf a) w w' → NOk w' x ∧ w'.cell? ⟨pb, 0, none⟩ = some (.slice ap pl.length cp) ∧ RowAt w' ap (nums pl)) (hap : x.d ≠ [] → ∀ b o, x.da = some ⟨b, o, none⟩ → b ∉ blkOf a) (hat : at' + 1 + x.p.length + (x.d.length + 7) / 8 ≤ ws.length) :
    Yld Try.prog n_image_node #[ptr g, i64 (at' : Int), .agg (gnC x).toArray, .func (.func n_image_Encode_1) #[] #[ptr pb]] w fun u w' => Ext (blkOf a) w w' ∧ MemIs w' base g a c (setBytesW (setsK ws (at' + 1) (x.p.map (ptW pl)) x.p.length) ((at' + 1 + x.p.length) * 8) x.d) := by
  have hwl := h.len
  refine image_node_of ?_
  unfold image_node
  simp (disch := (first | omega | decide | (simp only [rsD] <;> omega) | fail)) only [↓rsC, rsK, rsL, ↓rsImg1_2, tick_eq, tickV_eq, ne_eq, Int.reduceAdd, Int.reduceSub, Int.reduceMul, Int.reduceEq, Int.reduceLT, Int.reduceLE, Int.reduceToNat, Nat.reduceMul, Nat.reduceAdd, Nat.reduceSub, ←decide_not, eq_self]
  have B : Blk (w.alloc (.cells #[.slice x.pa x.p.length x.pc, .slice x.da x.d.length x.dc] 72)) w.heap.size 72 [.slice x.pa x.p.length x.pc, .slice x.da x.d.length x.dc] := Blk.at rfl
  have X : Ext [] w (w.alloc (.cells #[.slice x.pa x.p.length x.pc, .slice x.da x.d.length x.dc] 72)) := Ext.alloc _ _ _
  have h1 := h.ext0 X
  have hblt := fun hw => h.blt hw
  generalize w.alloc (.cells #[.slice x.pa x.p.length x.pc, .slice x.da x.d.length x.dc] 72) = y at *
  have hnb : w.heap.size ∉ blkOf a := fun hm => by
    by_cases hw : ws = []
    · subst hw; simp at hat
    · have := hblt hw _ hm; omega
  generalize w.heap.size = nb at *
  have Xa : Ext (blkOf a) w y := X.more (by simp)
  refine xLoop_n x.p.length (fun k => [i64 (k : Int)]) (fun k w' => Ext (blkOf a) y w' ∧ MemIs w' base g a c (setsK ws (at' + 1) (x.p.map (ptW pl)) k)) rfl ⟨Ext.refl _ _, h1⟩ ?_ ?_
  · rintro k hk u w2 hu ⟨F2, h2⟩ nxt hnx
    simp only [List.map_cons, List.map_nil, List.cons.injEq, and_true] at hu
    rw [hu]
    obtain ⟨hx2, hc2, hr2⟩ := hK w2 (Xa.trans F2)
    obtain ⟨b3, o3, ha3, z3, c3⟩ := its_at hx2.pr hk
    have hpk := hp _ (List.getElem_mem hk)
    have e1 : (at' : Int) + 1 + (k : Int) = ((at' + 1 + k : Nat) : Int) := by omega
    unfold image_node_l1
    simp (disch := (first | omega | decide | (simp only [rsD] <;> omega) | fail)) only [↓rsC, rsK, rsL, ↓rsImg1_2, tick_eq, tickV_eq, ne_eq, Int.reduceAdd, Int.reduceSub, Int.reduceMul, Int.reduceEq, Int.reduceLT, Int.reduceLE, Int.reduceToNat, Nat.reduceMul, Nat.reduceAdd, Nat.reduceSub, ←decide_not, ha3, c3, e1]
    refine image_Encode_1_callc (Gives.to (to_spec pl pb ap cp x.p[k] hc2 hr2 hpk.1 hpk.2 hl hb) fun w3 F3 => ?_)
    have h3 := h2.ext0 F3
    refine mem_Mem_Set_call (Yld.mono (Set_ok (at' + 1 + k) (ptW pl x.p[k]) h3 (by rw [setsK_len]; omega)) ?_)
    rintro u w4 ⟨rfl, F4, h4⟩
    simp (disch := (first | omega | decide | (simp only [rsD] <;> omega) | fail)) only [↓rsC, rsK, rsL, ↓rsImg1_2, tick_eq, tickV_eq, ne_eq, Int.reduceAdd, Int.reduceSub, Int.reduceMul, Int.reduceEq, Int.reduceLT, Int.reduceLE, Int.reduceToNat, Nat.reduceMul, Nat.reduceAdd, Nat.reduceSub, ←decide_not, ha3, c3, e1]
    have es : (setsK ws (at' + 1) (x.p.map (ptW pl)) k).set (at' + 1 + k) (ptW pl x.p[k]) = setsK ws (at' + 1) (x.p.map (ptW pl)) (k + 1) := by
      rw [setsK, List.getD_eq_getElem?_getD, List.getElem?_map, List.getElem?_eq_getElem hk]
      rfl
    rw [es] at h4
    exact hnx _ ⟨F2.trans ((F3.more (by simp)).trans F4), h4⟩
  · rintro u w2 hu ⟨F2, h2⟩ nxt
    simp only [List.map_cons, List.map_nil, List.cons.injEq, and_true] at hu
    rw [hu]
    obtain ⟨hx2, _, _⟩ := hK w2 (Xa.trans F2)
    have k2 := fun i => (B.ext F2 hnb).cell (i := i)
    have e1 : ((at' : Int) + 1 + (x.p.length : Int)) * 8 = (((at' + 1 + x.p.length) * 8 : Nat) : Int) := by omega
    unfold image_node_l1
    simp (disch := (first | omega | decide | (simp only [rsD] <;> omega) | fail)) only [↓rsC, rsK, rsL, ↓rsImg1_2, tick_eq, tickV_eq, ne_eq, Int.reduceAdd, Int.reduceSub, Int.reduceMul, Int.reduceEq, Int.reduceLT, Int.reduceLE, Int.reduceToNat, Nat.reduceMul, Nat.reduceAdd, Nat.reduceSub, ←decide_not, k2, e1]
    refine mem_Mem_SetBytes_call (Yld.mono (SetBytes_ok ((at' + 1 + x.p.length) * 8) x.d x.da x.dc h2 hx2.dr (fun _ hd => hap hd) (by rw [setsK_len]; omega)) ?_)
    rintro u w3 ⟨rfl, F3, h3⟩
    exact ⟨Xa.trans (F2.trans F3), h3⟩
end
end Go.Proofs.Ytdpmidgeipibbaa
end
section
set_option linter.unusedVariables false
set_option linter.unusedSimpArgs false
set_option maxHeartbeats 4000000
namespace Go.Proofs.Ytdpmidgeipibbaa
open Go.Sh Go.RowKit

structure PhI (ns : List GN) (rs : List GR) (D : Nat → Prop) (ws : List (BitVec 64)) : Prop where
  len : ws.length = 2 + 5 * rs.length + gW ns
  yes : ∀ i, i < ws.length → D i → wat ws i = wat (encW ns rs) i
  no : ∀ i, i < ws.length → ¬ D i → wat ws i = c0
section
variable {ns : List GN} {rs : List GR}
theorem gW_mono {k j : Nat} (h : k ≤ j) : gW (ns.take k) ≤ gW (ns.take j) := by
  have e : ns.take k = (ns.take j).take k := by rw [List.take_take, Nat.min_eq_left h]
  rw [e]
  exact gW_le_all
theorem plc_mono {k j : Nat} (h : k ≤ j) : plc ns rs k ≤ plc ns rs j := by
  have := gW_mono (ns := ns) h
  unfold plc
  omega
theorem plc_step {j : Nat} (hj : j < ns.length) : plc ns rs (j + 1) = plc ns rs j + gsz ns[j] := by
  have := gW_take hj
  unfold plc
  omega
theorem plc_end : plc ns rs ns.length = 2 + 5 * rs.length + gW ns := by unfold plc; rw [List.take_length]
theorem plc_ge {j : Nat} : 2 + 5 * rs.length ≤ plc ns rs j := by unfold plc; omega
theorem plc_not {j k i : Nat} (hj : j < ns.length) (h1 : plc ns rs j < i) (h2 : i < plc ns rs (j + 1)) : i ≠ plc ns rs k := by
  rintro rfl
  rcases Nat.lt_or_ge j k with h | h
  · have := plc_mono (ns := ns) (rs := rs) (show j + 1 ≤ k from h)
    omega
  · have := plc_mono (ns := ns) (rs := rs) h
    omega
theorem PhI.congr {D D' : Nat → Prop} {ws : List (BitVec 64)} (h : PhI ns rs D ws) (e : ∀ i, i < ws.length → (D i ↔ D' i)) : PhI ns rs D' ws :=
  ⟨h.len, fun i hi hd => h.yes i hi ((e i hi).2 hd), fun i hi hd => h.no i hi (fun h2 => hd ((e i hi).1 h2))⟩
theorem ph_zero : PhI ns rs (fun _ => False) (List.replicate (2 + 5 * rs.length + gW ns) c0) :=
  ⟨by simp, fun _ _ h => h.elim, fun i _ _ => wat_rep⟩
variable (hg : GoodG ns rs)
include hg
omit hg in
theorem ph_head {ws : List (BitVec 64)} (h : PhI ns rs (fun _ => False) ws) : PhI ns rs (fun i => i < 2) ((ws.set 0 (BitVec.ofNat 64 1296125772)).set 1 (hdrW rs.length (2 + 5 * rs.length + gW ns))) := by
  have hl := h.len
  have hw : ∀ i, wat ((ws.set 0 (BitVec.ofNat 64 1296125772)).set 1 (hdrW rs.length (2 + 5 * rs.length + gW ns))) i = if i = 1 then hdrW rs.length (2 + 5 * rs.length + gW ns) else if i = 0 then BitVec.ofNat 64 1296125772 else wat ws i := fun i => by
    rw [wat_set (by simp; omega), wat_set (by omega)]
  refine ⟨by simpa using hl, fun i hi hd => ?_, fun i hi hd => ?_⟩
  · rw [hw]
    have : i = 0 ∨ i = 1 := by omega
    rcases this with rfl | rfl
    · rfl
    · rfl
  · rw [hw, if_neg (by omega), if_neg (by omega)]
    exact h.no i (by simpa using hi) (fun h => h)
theorem ph_alloc {ws : List (BitVec 64)} {j : Nat} (hj : j < ns.length) (h : PhI ns rs (fun i => i < 2 ∨ ∃ k, k < j ∧ i = plc ns rs k) ws) :
    PhI ns rs (fun i => i < 2 ∨ ∃ k, k < j + 1 ∧ i = plc ns rs k) (alW ws (plc ns rs j) (packW ns[j].p.length ns[j].d.length false 0) (gsz ns[j])) := by
  have hl := h.len
  have h3 := plc_lt (ns := ns) (rs := rs) hj
  have h4 : 1 ≤ gsz ns[j] := by unfold gsz; omega
  have h5 := plc_step (ns := ns) (rs := rs) hj
  have h6 := plc_ge (ns := ns) (rs := rs) (j := j)
  have hw := fun i => wat_alW (ws := ws) (t := plc ns rs j) (n := gsz ns[j]) (i := i) (x := packW ns[j].p.length ns[j].d.length false 0) (by omega)
  refine ⟨by simpa using hl, fun i hi hd => ?_, fun i hi hd => ?_⟩
  · rw [alW_length] at hi
    rw [hw]
    by_cases e : i = plc ns rs j
    · rw [if_pos e, e, enc_hd hg hj]
    · have hD : i < 2 ∨ ∃ k, k < j ∧ i = plc ns rs k := by
        rcases hd with hd | ⟨k, hk, rfl⟩
        · exact .inl hd
        · refine .inr ⟨k, ?_, rfl⟩
          rcases Nat.lt_or_ge k j with q | q
          · exact q
          · exact absurd (by rw [show k = j by omega]) e
      rw [if_neg e, if_neg, h.yes i hi hD]
      rintro ⟨q1, q2⟩
      rcases hD with q | ⟨k, _, q⟩
      · omega
      · exact plc_not hj (by omega) (by omega) q
  · rw [alW_length] at hi
    rw [hw, if_neg (fun e => hd (.inr ⟨j, by omega, e⟩))]
    split
    · rfl
    · refine h.no i hi fun q => hd ?_
      rcases q with q | ⟨k, hk, q⟩
      · exact .inl q
      · exact .inr ⟨k, by omega, q⟩
theorem ph_node {ws : List (BitVec 64)} {j : Nat} (hj : j < ns.length) (h : PhI ns rs (fun i => i < 2 ∨ (∃ k, k < ns.length ∧ i = plc ns rs k) ∨ (2 + 5 * rs.length ≤ i ∧ i < plc ns rs j)) ws) :
    PhI ns rs (fun i => i < 2 ∨ (∃ k, k < ns.length ∧ i = plc ns rs k) ∨ (2 + 5 * rs.length ≤ i ∧ i < plc ns rs (j + 1))) (setBytesW (setsK ws (plc ns rs j + 1) (ns[j].p.map (ptW (plE ns rs))) ns[j].p.length) ((plc ns rs j + 1 + ns[j].p.length) * 8) ns[j].d) := by
  have hl := h.len
  have h3 := plc_lt (ns := ns) (rs := rs) hj
  have h5 := plc_step (ns := ns) (rs := rs) hj
  have h6 := plc_ge (ns := ns) (rs := rs) (j := j)
  have hz : gsz ns[j] = 1 + ns[j].p.length + (ns[j].d.length + 7) / 8 := rfl
  have hno : ∀ i, plc ns rs j < i → i < plc ns rs (j + 1) → wat ws i = c0 := fun i q1 q2 => h.no i (by omega) (by
    rintro (q | ⟨k, _, q⟩ | q)
    · omega
    · exact plc_not hj q1 q2 q
    · omega)
  have hw : ∀ i, wat (setBytesW (setsK ws (plc ns rs j + 1) (ns[j].p.map (ptW (plE ns rs))) ns[j].p.length) ((plc ns rs j + 1 + ns[j].p.length) * 8) ns[j].d) i = if plc ns rs j + 1 + ns[j].p.length ≤ i ∧ i < plc ns rs j + 1 + ns[j].p.length + (ns[j].d.length + 7) / 8 then wordV ns[j].d (i - (plc ns rs j + 1 + ns[j].p.length)) else if plc ns rs j + 1 ≤ i ∧ i < plc ns rs j + 1 + ns[j].p.length then (ns[j].p.map (ptW (plE ns rs))).getD (i - (plc ns rs j + 1)) c0 else wat ws i := fun i => by
    rw [wat_setB (by rw [setsK_len]; omega) (fun i q1 q2 => by
      rw [wat_setsK _ _ _ _ _ (by omega), if_neg (by omega)]
      exact hno i (by omega) (by omega)), wat_setsK _ _ _ _ _ (by omega)]
  refine ⟨by rw [setBytesW_length, setsK_len]; exact hl, fun i hi hd => ?_, fun i hi hd => ?_⟩
  · rw [setBytesW_length, setsK_len] at hi
    rw [hw]
    by_cases q1 : plc ns rs j + 1 + ns[j].p.length ≤ i ∧ i < plc ns rs j + 1 + ns[j].p.length + (ns[j].d.length + 7) / 8
    · rw [if_pos q1]
      have := enc_dat hg hj (k := i - (plc ns rs j + 1 + ns[j].p.length)) (by omega)
      rw [show plc ns rs j + 1 + ns[j].p.length + (i - (plc ns rs j + 1 + ns[j].p.length)) = i by omega] at this
      exact this.symm
    · rw [if_neg q1]
      by_cases q2 : plc ns rs j + 1 ≤ i ∧ i < plc ns rs j + 1 + ns[j].p.length
      · rw [if_pos q2]
        have hk : i - (plc ns rs j + 1) < ns[j].p.length := by omega
        have := enc_ptr hg hj hk
        rw [show plc ns rs j + 1 + (i - (plc ns rs j + 1)) = i by omega] at this
        rw [this, List.getD_eq_getElem?_getD, List.getElem?_map, List.getElem?_eq_getElem hk]
        rfl
      · rw [if_neg q2]
        refine h.yes i hi ?_
        rcases hd with q | q | ⟨q3, q4⟩
        · exact .inl q
        · exact .inr (.inl q)
        · by_cases q5 : i = plc ns rs j
          · exact .inr (.inl ⟨j, hj, q5⟩)
          · exact .inr (.inr ⟨q3, by omega⟩)
  · rw [setBytesW_length, setsK_len] at hi
    have hni : ¬ (plc ns rs j ≤ i ∧ i < plc ns rs (j + 1)) := fun q => hd (.inr (.inr ⟨by omega, q.2⟩))
    rw [hw, if_neg (by omega), if_neg (by omega)]
    refine h.no i hi fun q => hd ?_
    rcases q with q | q | ⟨q3, q4⟩
    · exact .inl q
    · exact .inr (.inl q)
    · exact .inr (.inr ⟨q3, by omega⟩)
theorem ph_root {ws : List (BitVec 64)} {j : Nat} (hj : j < rs.length) (h : PhI ns rs (fun i => i < 2 + 5 * j ∨ 2 + 5 * rs.length ≤ i) ws) :
    PhI ns rs (fun i => i < 2 + 5 * (j + 1) ∨ 2 + 5 * rs.length ≤ i) ((setBytesW ws ((2 + 5 * j) * 8) (padS rs[j].s)).set (2 + 5 * j + 4) (ptW (plE ns rs) rs[j].to)) := by
  have hl := h.len
  have h32 : (padS rs[j].s).length = 32 := padS_len (hg.s _ (List.getElem_mem hj)).1.2.1
  have hw : ∀ i, wat ((setBytesW ws ((2 + 5 * j) * 8) (padS rs[j].s)).set (2 + 5 * j + 4) (ptW (plE ns rs) rs[j].to)) i = if i = 2 + 5 * j + 4 then ptW (plE ns rs) rs[j].to else if 2 + 5 * j ≤ i ∧ i < 2 + 5 * j + 4 then wordV (padS rs[j].s) (i - (2 + 5 * j)) else wat ws i := fun i => by
    rw [wat_set (by rw [setBytesW_length]; omega), wat_setB (by omega) (fun i q1 q2 => h.no i (by omega) (by omega)), h32]
  refine ⟨by rw [List.length_set, setBytesW_length]; exact hl, fun i hi hd => ?_, fun i hi hd => ?_⟩
  · rw [List.length_set, setBytesW_length] at hi
    rw [hw]
    by_cases q1 : i = 2 + 5 * j + 4
    · rw [if_pos q1, q1, enc_rt hg hj]
    · rw [if_neg q1]
      by_cases q2 : 2 + 5 * j ≤ i ∧ i < 2 + 5 * j + 4
      · rw [if_pos q2]
        symm
        refine wat_some ?_
        rw [show i = 2 + 5 * j + (i - (2 + 5 * j)) by omega, enc_root (fun r hr => (hg.s r hr).1.2.1) hj (by omega)]
        unfold rtW
        have hlw : i - (2 + 5 * j) < ((padS rs[j].s).length + 7) / 8 := by rw [h32]; omega
        rw [List.getElem?_append_left (by rw [wordsV_len]; exact hlw), wordsV_at _ hlw]
        congr 2
        omega
      · rw [if_neg q2]
        exact h.yes i hi (by omega)
  · rw [List.length_set, setBytesW_length] at hi
    rw [hw, if_neg (by omega), if_neg (by omega)]
    exact h.no i hi (by omega)
omit hg in
theorem ph_mid {ws : List (BitVec 64)} (h : PhI ns rs (fun i => i < 2 ∨ ∃ k, k < ns.length ∧ i = plc ns rs k) ws) : PhI ns rs (fun i => i < 2 ∨ (∃ k, k < ns.length ∧ i = plc ns rs k) ∨ (2 + 5 * rs.length ≤ i ∧ i < plc ns rs 0)) ws :=
  h.congr fun i _ => by
    have e : plc ns rs 0 = 2 + 5 * rs.length := by unfold plc; simp [gW]
    constructor
    · rintro (q | q)
      · exact .inl q
      · exact .inr (.inl q)
    · rintro (q | q | q)
      · exact .inl q
      · exact .inr q
      · omega
omit hg in
theorem ph_mid2 {ws : List (BitVec 64)} (h : PhI ns rs (fun i => i < 2 ∨ (∃ k, k < ns.length ∧ i = plc ns rs k) ∨ (2 + 5 * rs.length ≤ i ∧ i < plc ns rs ns.length)) ws) : PhI ns rs (fun i => i < 2 + 5 * 0 ∨ 2 + 5 * rs.length ≤ i) ws :=
  h.congr fun i hi => by
    have hl := h.len
    rw [plc_end]
    constructor
    · rintro (q | ⟨k, hk, q⟩ | q)
      · exact .inl (by omega)
      · have := plc_ge (ns := ns) (rs := rs) (j := k)
        exact .inr (by omega)
      · exact .inr (by omega)
    · rintro (q | q)
      · exact .inl (by omega)
      · exact .inr (.inr ⟨q, by omega⟩)
theorem ph_end {ws : List (BitVec 64)} (h : PhI ns rs (fun i => i < 2 + 5 * rs.length ∨ 2 + 5 * rs.length ≤ i) ws) : ws = encW ns rs := by
  have hl := h.len
  have hE := enc_len hg
  refine List.ext_getElem (by omega) fun i h1 h2 => ?_
  have := h.yes i h1 (by omega)
  unfold wat at this
  rw [List.getD_eq_getElem?_getD, List.getElem?_eq_getElem h1, List.getD_eq_getElem?_getD, List.getElem?_eq_getElem h2] at this
  exact this
end
end Go.Proofs.Ytdpmidgeipibbaa
end
section
set_option linter.unusedVariables false
set_option linter.unusedSimpArgs false
set_option maxHeartbeats 4000000
namespace Go.Proofs.Ytdpmidgeipibbaa
open Go.Sh Go.RowKit

theorem hdr_with {R N : Nat} (hR : R ≤ 64) (hN : N ≤ 8192) : withB (BitVec.ofInt 64 (R : Int)) 16 32 (BitVec.ofInt 64 (N : Int)) = hdrW R N := by
  have := with_nat (BitVec.ofInt 64 (R : Int)) (BitVec.ofInt 64 (N : Int)) (a := 16) (n := 32) (by decide) (by decide)
  apply BitVec.eq_of_toNat_eq
  unfold hdrW
  rw [BitVec.ofInt_natCast, BitVec.ofInt_natCast] at *
  rw [BitVec.toNat_ofNat, BitVec.toNat_ofNat] at this
  rw [BitVec.toNat_ofNat]
  have e : (withB (BitVec.ofNat 64 R) ((16 : Nat) : Int) ((32 : Nat) : Int) (BitVec.ofNat 64 N)) = withB (BitVec.ofNat 64 R) 16 32 (BitVec.ofNat 64 N) := rfl
  rw [e] at this
  omega
abbrev rsImg2_0 := (And.intro @xu8_add (And.intro @xu8_mul (And.intro @xu8_neq (And.intro @xu8_lss (And.intro @xu16_add (And.intro @xu16_mul (And.intro @xu16_neq (And.intro @xu16_lss (And.intro @xu32_add (And.intro @xu32_mul (And.intro @xu32_neq (And.intro @xu32_lss (And.intro @xu64_add (And.intro @xu64_mul (And.intro @xu64_neq (And.intro @xu64_lss 
  (And.intro @xi64_lss (And.intro @xi64_neq (And.intro @xi64_neg (And.intro @ld_3 (And.intro @ld_9 (And.intro @ld_22 (And.intro @ld_23 (And.intro @ld_25 (And.intro @ld_66 (And.intro @ld_70 (And.intro @ld_72 (And.intro @ld_74 (And.intro @fa_25_0 (And.intro @fa_25_1 (And.intro @fa_72_0 (And.intro @fa_72_1 (And.intro @fa_74_0 (And.intro @fa_74_1 (And.intro @al_66 (And.intro @al_72 
  (And.intro @al_74 (And.intro @st_66 (And.intro @st_72 (And.intro @st_74 (And.intro @bd_123_0_1 (And.intro @bd_123_2_3 (And.intro @bd_123 (And.intro @cv_3_69 (And.intro @ia_22 (And.intro @ia_23 (And.intro @ia_66 (And.intro @ln_22 (And.intro @ln_23 (And.intro @ln_66 (And.intro @ln_70 (And.intro @bs_66_0 @bs_66_1))))))))))))))))))))))))))))))))))))))))))))))))))))
theorem iEncode_spec {w : World} {na ra : Option Addr} {nc rc : Nat} {ns : List GN} {rs : List GR} (h : GIs w na nc ra rc ns rs) (hf : FewH ns rs) : Yld Try.prog n_image_Encode #[gV na nc ra rc ns rs] w fun u w' => EncR w w' ns rs u := by
  have hfn := hf.n
  have hfr := hf.r
  refine image_Encode_of ?_
  unfold image_Encode
  simp (disch := (first | omega | decide | (simp only [rsD] <;> omega) | fail)) only [↓rsC, rsK, rsL, ↓rsImg2_0, tick_eq, tickV_eq, ne_eq, Int.reduceAdd, Int.reduceSub, Int.reduceMul, Int.reduceEq, Int.reduceLT, Int.reduceLE, Int.reduceToNat, Nat.reduceMul, Nat.reduceAdd, Nat.reduceSub, ←decide_not, eq_self]
  have B : Blk (w.alloc (.cells #[.slice na ns.length nc, .slice ra rs.length rc] 25)) w.heap.size 25 [.slice na ns.length nc, .slice ra rs.length rc] := Blk.at rfl
  have X : Ext [] w (w.alloc (.cells #[.slice na ns.length nc, .slice ra rs.length rc] 25)) := Ext.alloc _ _ _
  have hy := h.ext0 X
  generalize w.heap.size = hb at *
  generalize w.alloc (.cells #[.slice na ns.length nc, .slice ra rs.length rc] 25) = y at *
  refine graph_Check_call (Gives.to (gcheck_spec hy hf) fun w1 F1 => ?_)
  by_cases hz : chkV ns rs = 0
  rotate_left
  · have hc : encC ns rs = chkV ns rs := by unfold encC; rw [if_pos hz]
    simp (disch := (first | omega | decide | (simp only [rsD] <;> omega) | fail)) only [↓rsC, rsK, rsL, ↓rsImg2_0, tick_eq, tickV_eq, ne_eq, Int.reduceAdd, Int.reduceSub, Int.reduceMul, Int.reduceEq, Int.reduceLT, Int.reduceLE, Int.reduceToNat, Nat.reduceMul, Nat.reduceAdd, Nat.reduceSub, ←decide_not, eq_self]
    exact .inl ⟨by rw [hc]; exact hz, by rw [hc], X.trans F1⟩
  have hg := chk_zero.1 hz
  rw [hz]
  have k1 := fun i => (B.ext F1 (by simp)).cell (i := i)
  have hgr := hg.r
  have hgx := fun x hx => (hg.x x hx).2
  have hle := gW_le ns hgx
  simp (disch := (first | omega | decide | (simp only [rsD] <;> omega) | fail)) only [↓rsC, rsK, rsL, ↓rsImg2_0, tick_eq, tickV_eq, ne_eq, Int.reduceAdd, Int.reduceSub, Int.reduceMul, Int.reduceEq, Int.reduceLT, Int.reduceLE, Int.reduceToNat, Nat.reduceMul, Nat.reduceAdd, Nat.reduceSub, ←decide_not, k1]
  refine image_Need_call (Gives.to (gneed_spec (hy.ext0 F1) hf hg) fun w2 F2 => ?_)
  have F12 := F1.trans F2
  by_cases h8 : 8192 < 2 + 5 * rs.length + gW ns
  · have hc : encC ns rs = 3 := by unfold encC; rw [if_neg (by rw [hz]; simp), if_pos h8]
    refine mem_New_call (Gives.to (New_bad _ w2 (.inr (by omega))) fun w3 F3 => ?_)
    simp (disch := (first | omega | decide | (simp only [rsD] <;> omega) | fail)) only [↓rsC, rsK, rsL, ↓rsImg2_0, tick_eq, tickV_eq, ne_eq, Int.reduceAdd, Int.reduceSub, Int.reduceMul, Int.reduceEq, Int.reduceLT, Int.reduceLE, Int.reduceToNat, Nat.reduceMul, Nat.reduceAdd, Nat.reduceSub, ←decide_not, k1]
    exact .inl ⟨by rw [hc]; decide, by rw [hc], X.trans (F12.trans F3)⟩
  have hc0 : encC ns rs = 0 := by unfold encC; rw [if_neg (by rw [hz]; simp), if_neg h8]
  refine mem_New_call (Yld.mono (New_spec (2 + 5 * rs.length + gW ns) w2 (by omega)) ?_)
  rintro u w3 ⟨F3, g, a, c, rfl, M3⟩
  have P3 := ph_zero (ns := ns) (rs := rs)
  generalize hw3 : List.replicate (2 + 5 * rs.length + gW ns) c0 = ws3 at *
  have L3 := P3.len
  have hup := M3.up
  have hbase := F12.size
  have Y3 := F12.trans F3
  have hne3 : ws3 ≠ [] := fun e => by rw [e] at L3; simp at L3; omega
  have hbb := B.lt
  simp (disch := (first | omega | decide | (simp only [rsD] <;> omega) | fail)) only [↓rsC, rsK, rsL, ↓rsImg2_0, tick_eq, tickV_eq, ne_eq, Int.reduceAdd, Int.reduceSub, Int.reduceMul, Int.reduceEq, Int.reduceLT, Int.reduceLE, Int.reduceToNat, Nat.reduceMul, Nat.reduceAdd, Nat.reduceSub, ←decide_not, k1]
  refine mem_Mem_Set_call (Yld.mono (Set_ok 0 (BitVec.ofNat 64 1296125772) M3 (by omega)) ?_)
  rintro u w4 ⟨rfl, F4, M4⟩
  have Y4 : Ext [] y w4 := Y3.new F4 (fun z hz => by have := hup z hz; omega)
  have Bd := B.ext (Y4.trans (Ext.drew [] w4)) (by simp)
  have kd := fun i => Bd.cell (i := i)
  simp (disch := (first | omega | decide | (simp only [rsD] <;> omega) | fail)) only [↓rsC, rsK, rsL, ↓rsImg2_0, tick_eq, tickV_eq, ne_eq, Int.reduceAdd, Int.reduceSub, Int.reduceMul, Int.reduceEq, Int.reduceLT, Int.reduceLE, Int.reduceToNat, Nat.reduceMul, Nat.reduceAdd, Nat.reduceSub, ←decide_not, k1, kd]
  refine mem_Mem_Len_call (Gives.to (Len_spec (M4.ext0 (Ext.drew [] w4))) fun w5 F5d => ?_)
  have F5 := (Ext.drew [] w4).trans F5d
  have M5 := M4.ext0 F5
  have Y5 := Y4.trans F5
  have k5 := fun i => (B.ext Y5 (by simp)).cell (i := i)
  have el5 : (ws3.set 0 (BitVec.ofNat 64 1296125772)).length = 2 + 5 * rs.length + gW ns := by rw [List.length_set]; exact L3
  rw [el5]
  simp (disch := (first | omega | decide | (simp only [rsD] <;> omega) | fail)) only [↓rsC, rsK, rsL, ↓rsImg2_0, tick_eq, tickV_eq, ne_eq, Int.reduceAdd, Int.reduceSub, Int.reduceMul, Int.reduceEq, Int.reduceLT, Int.reduceLE, Int.reduceToNat, Nat.reduceMul, Nat.reduceAdd, Nat.reduceSub, ←decide_not, k1, kd, k5]
  have hwi := fun w => With_spec (BitVec.ofInt 64 (rs.length : Int)) (BitVec.ofInt 64 ((2 + 5 * rs.length + gW ns : Nat) : Int)) 16 32 w
  rw [hdr_with hgr (by omega)] at hwi
  refine bits_With_call (Gives.to (hwi w5) fun w6 F6 => ?_)
  have M6 := M5.ext0 F6
  refine mem_Mem_Set_call (Yld.mono (Set_ok 1 (hdrW rs.length (2 + 5 * rs.length + gW ns)) M6 (by omega)) ?_)
  rintro u w7 ⟨rfl, F7, M7⟩
  have P7 := ph_head P3
  have Y7 : Ext [] y w7 := (Y5.trans F6).new F7 (fun z hz => by have := hup z hz; omega)
  generalize (ws3.set 0 (BitVec.ofNat 64 1296125772)).set 1 (hdrW rs.length (2 + 5 * rs.length + gW ns)) = ws7 at *
  have L7 := P7.len
  have Bd7 := B.ext (Y7.trans (Ext.drew [] w7)) (by simp)
  have kd7 := fun i => Bd7.cell (i := i)
  simp (disch := (first | omega | decide | (simp only [rsD] <;> omega) | fail)) only [↓rsC, rsK, rsL, ↓rsImg2_0, tick_eq, tickV_eq, ne_eq, Int.reduceAdd, Int.reduceSub, Int.reduceMul, Int.reduceEq, Int.reduceLT, Int.reduceLE, Int.reduceToNat, Nat.reduceMul, Nat.reduceAdd, Nat.reduceSub, ←decide_not, k1, kd, k5, kd7]
  refine mem_Mem_Len_call (Gives.to (Len_spec (M7.ext0 (Ext.drew [] w7))) fun w8 F8d => ?_)
  have F8 := (Ext.drew [] w7).trans F8d
  have M8 := M7.ext0 F8
  have Y8 := Y7.trans F8
  have k8 := fun i => (B.ext Y8 (by simp)).cell (i := i)
  have e8 : (2 : Int) + 5 * (rs.length : Int) = ((2 + 5 * rs.length : Nat) : Int) := by omega
  simp (disch := (first | omega | decide | (simp only [rsD] <;> omega) | fail)) only [↓rsC, rsK, rsL, ↓rsImg2_0, tick_eq, tickV_eq, ne_eq, Int.reduceAdd, Int.reduceSub, Int.reduceMul, Int.reduceEq, Int.reduceLT, Int.reduceLE, Int.reduceToNat, Nat.reduceMul, Nat.reduceAdd, Nat.reduceSub, ←decide_not, k1, kd, k5, kd7, k8, e8]
  refine space_New_call (Yld.mono (SNew_ok (b := 2 + 5 * rs.length) (e := ws7.length) M8 (by omega) (Nat.le_refl _)) ?_)
  rintro u w9 ⟨F9, s, rfl, hs1, hs2, S9⟩
  have Y9 := Y8.trans F9
  have k9 := fun i => (B.ext Y9 (by simp)).cell (i := i)
  have zb9 := (B.ext Y9 (by simp)).lt
  simp (disch := (first | omega | decide | (simp only [rsD] <;> omega) | fail)) only [↓rsC, rsK, rsL, ↓rsImg2_0, tick_eq, tickV_eq, ne_eq, Int.reduceAdd, Int.reduceSub, Int.reduceMul, Int.reduceEq, Int.reduceLT, Int.reduceLE, Int.reduceToNat, Nat.reduceMul, Nat.reduceAdd, Nat.reduceSub, ←decide_not, k1, kd, k5, kd7, k8, e8, k9]
  have C : Blk (w9.alloc (.cells #[.slice none 0 0] 66)) w9.heap.size 66 [.slice none 0 0] := Blk.at rfl
  have X9 : Ext [] w9 (w9.alloc (.cells #[.slice none 0 0] 66)) := Ext.alloc _ _ _
  have S10 := S9.ext0 X9
  have Y10 := Y9.trans X9
  have hne7 : ws7 ≠ [] := fun e => by rw [e] at L7; simp at L7; omega
  have zg9 := S9.mem.lt
  have za9 := S9.mem.blt hne7
  have hga := S9.mem.apart hne7
  have hsa := S9.sa hne7
  have hyb : ∀ z ∈ blkOf a, y.heap.size ≤ z := fun z hz => by have := hup z hz; omega
  have hys : y.heap.size ≤ s := by have := Y8.size; omega
  have hyg : y.heap.size ≤ g := by have := S9.mem.lo; omega
  have hpby : y.heap.size ≤ w9.heap.size := Y9.size
  generalize w9.alloc (.cells #[.slice none 0 0] 66) = y9 at *
  generalize w9.heap.size = pb at *
  have e0 : plc ns rs 0 = 2 + 5 * rs.length := by unfold plc; simp [gW]
  have hNe : ws7.length = plc ns rs ns.length := by rw [L7, plc_end]
  rw [hNe] at S10
  have hples : ∀ j, j ≤ ns.length → ∀ p ∈ plL ns rs.length j, p ≤ 1000000 := fun j hj p hp => by
    obtain ⟨k, hk, rfl⟩ := List.mem_map.1 hp
    have := List.mem_range.1 hk
    have := plc_mono (ns := ns) (rs := rs) (show k ≤ ns.length by omega)
    rw [plc_end] at this
    have e : plc ns rs k = 2 + 5 * rs.length + gW (ns.take k) := rfl
    omega
  have hpbx : pb ∉ s :: blkOf a := fun hm => by
    rcases List.mem_cons.1 hm with e | hm
    · omega
    · have := za9 pb hm; omega
  refine xLoop_n ns.length (fun j => [i64 (j : Int)]) (fun j w' => ∃ v ws, SpIs w' w2.heap.size s g a c ws (2 + 5 * rs.length) (plc ns rs j) (plc ns rs ns.length) ∧ PhI ns rs (fun i => i < 2 ∨ ∃ k, k < j ∧ i = plc ns rs k) ws ∧ Blk w' pb 66 [v] ∧ OwnI w' v (plL ns rs.length j) ∧ pb ∉ blk v ∧ s ∉ blk v ∧ (∀ z ∈ blk v, z ∉ blkOf a) ∧ (∀ z ∈ blk v, y.heap.size ≤ z) ∧ g ∉ blk v ∧ Ext [] y w') rfl
    ⟨.slice none 0 0, ws7, by rw [e0]; exact S10, P7.congr (fun i _ => by simp), C, Own.nil, by simp [blk, Value.ownBlock], by simp [blk, Value.ownBlock], by simp [blk, Value.ownBlock], by simp [blk, Value.ownBlock], by simp [blk, Value.ownBlock], Y10⟩ ?_ ?_
  · rintro j hj u v1 hu ⟨v, ws, S, Ph, Cp, O, d1, d2, d3, d4, d5, Y⟩ nxt hnx
    simp only [List.map_cons, List.map_nil, List.cons.injEq, and_true] at hu
    rw [hu]
    have L := Ph.len
    have hne : ws ≠ [] := fun e => by rw [e] at L; simp at L; omega
    obtain ⟨b1, o1, ha1, z1, c1, c2⟩ := gn_at (hy.ext0 Y).nr hj
    obtain ⟨q1, q2⟩ := hgx _ (List.getElem_mem hj)
    obtain ⟨hr, _, hsz, _, _⟩ := pack_v q1 q2
    have hst := plc_step (ns := ns) (rs := rs) hj
    have hmn := plc_mono (ns := ns) (rs := rs) (show j + 1 ≤ ns.length from hj)
    have hPn := ph_alloc hg hj Ph
    have hpll : (plL ns rs.length j).length = j := plL_len _ _ _
    have hplj : plL ns rs.length (j + 1) = plL ns rs.length j ++ [plc ns rs j] := by
      unfold plL
      rw [List.range_succ, List.map_append]
      rfl
    have zv := O.lt
    have zp := Cp.lt
    obtain ⟨av, cv, hv, _⟩ := O.slice
    subst hv
    have kp := fun i => Cp.cell (i := i)
    unfold image_Encode_l1
    simp (disch := (first | omega | decide | (simp only [rsD] <;> omega) | fail)) only [↓rsC, rsK, rsL, ↓rsImg2_0, tick_eq, tickV_eq, ne_eq, Int.reduceAdd, Int.reduceSub, Int.reduceMul, Int.reduceEq, Int.reduceLT, Int.reduceLE, Int.reduceToNat, Nat.reduceMul, Nat.reduceAdd, Nat.reduceSub, ←decide_not, k1, kd, k5, kd7, k8, e8, k9, ha1, c1, c2]
    have X1 : Ext [] v1 (v1.alloc (.cells #[.slice ns[j].pa ns[j].p.length ns[j].pc, .slice ns[j].da ns[j].d.length ns[j].dc] 72)) := Ext.alloc _ _ _
    refine space_Space_Alloc_call (Yld.mono (SAlloc_ok (n := gsz ns[j]) (S.ext0 X1) hr (by rw [hsz]; rfl) (by omega)) ?_)
    rintro u v2 ⟨rfl, F2, S2⟩
    have F2' : Ext (s :: blkOf a) v1 v2 := (X1.more (by simp)).trans F2
    have Cp2 := Cp.ext F2' hpbx
    have O2 := O.ext F2' (fun z hz hm => by
      rcases List.mem_cons.1 hm with rfl | hm
      · exact d2 hz
      · exact d3 z hz hm)
    have k2 := fun i => Cp2.cell (i := i)
    have Y2 := Y.new F2' (fun z hz => by
      rcases List.mem_cons.1 hz with rfl | hz
      · exact hys
      · exact hyb z hz)
    simp (disch := (first | omega | decide | (simp only [rsD] <;> omega) | fail)) only [↓rsC, rsK, rsL, ↓rsImg2_0, tick_eq, tickV_eq, ne_eq, Int.reduceAdd, Int.reduceSub, Int.reduceMul, Int.reduceEq, Int.reduceLT, Int.reduceLE, Int.reduceToNat, Nat.reduceMul, Nat.reduceAdd, Nat.reduceSub, ←decide_not, k1, kd, k5, kd7, k8, e8, k9, ha1, c1, c2, k2]
    refine appIl O2 rfl (by rw [hpll]; omega) fun v' v3 O3 T3 => ?_
    have z2 := F2'.size
    have zs := S.blk.lt
    have zg := S.mem.lt
    have zaa := S.mem.blt hne
    have Cp3 := Cp2.ext T3.ext d1
    rw [← hst] at S2
    have S3 := S2.ext T3.ext d2 d5 (fun _ z hz hm => d3 z hm hz)
    have Y3' := Y2.new T3.ext d4
    have G3 := T3.at'
    have k3 := fun i => Cp3.cell (i := i)
    have f3 := fun i => Cp3.frozen (i := i)
    have nin : ∀ z, z < v2.heap.size → z ∉ blk (.slice av (plL ns rs.length j).length cv) → z ∉ blk v' := fun z h1 h2 hm => by
      rcases G3 z hm with h3 | h3
      · exact h2 h3
      · omega
    have npb := nin pb (by omega) d1
    have ns' := nin s (by omega) d2
    have ng' := nin g (by omega) d5
    have na' : ∀ z ∈ blk v', z ∉ blkOf a := fun z hz hm => nin z (by have := zaa z hm; omega) (fun h => d3 z h hm) hz
    have ny' : ∀ z ∈ blk v', y.heap.size ≤ z := fun z hz => by
      rcases G3 z hz with h3 | h3
      · exact d4 z h3
      · have := Y2.size; omega
    obtain ⟨a3, c3, hv3, _⟩ := O3.slice
    subst hv3
    simp (disch := (first | omega | decide | (simp only [rsD] <;> omega) | fail)) only [↓rsC, rsK, rsL, ↓rsImg2_0, tick_eq, tickV_eq, ne_eq, Int.reduceAdd, Int.reduceSub, Int.reduceMul, Int.reduceEq, Int.reduceLT, Int.reduceLE, Int.reduceToNat, Nat.reduceMul, Nat.reduceAdd, Nat.reduceSub, ←decide_not, k1, kd, k5, kd7, k8, e8, k9, ha1, c1, c2, k2, k3, f3]
    have Cp4 := Cp3.set (i := 0) (v := .slice a3 (plL ns rs.length j ++ [plc ns rs j]).length c3)
    have X4 : Ext [pb] v3 (v3.setCell ⟨pb, 0, none⟩ (.slice a3 (plL ns rs.length j ++ [plc ns rs j]).length c3)) := Ext.set (w := v3) (b := pb)
    refine hnx _ ⟨_, _, S3.ext X4 (by simp only [List.mem_singleton]; omega) (by simp only [List.mem_singleton]; omega) (fun _ z hz hm => by simp only [List.mem_singleton] at hm; have := za9 z hz; omega), hPn, Cp4, ?_, npb, ns', na', ny', ng', Y3'.set' (.inr hpby)⟩
    rw [hplj]
    exact O3.ext X4 (fun z hz hm => by simp only [List.mem_singleton] at hm; subst hm; exact npb hz)
  rintro u v1 hu ⟨v, ws, S, Ph, Cp, O, d1, d2, d3, d4, d5, Y⟩ nxt
  simp only [List.map_cons, List.map_nil, List.cons.injEq, and_true] at hu
  rw [hu]
  have zb1 := (B.ext Y (by simp)).lt
  have k1 := fun i => (B.ext Y (by simp)).cell (i := i)
  obtain ⟨av, cv, hv, hcv, _, hnv, hrv, _⟩ := O.slice
  subst hv
  have Pm := ph_mid Ph
  have L1 := Ph.len
  have hne1 : ws ≠ [] := fun e => by rw [e] at L1; simp at L1; omega
  have za1 := S.mem.blt hne1
  have hbk : ∀ {w' : World}, Ext (blkOf a) v1 w' → Ext [] y w' := fun F => Y.new F hyb
  have hKp : ∀ {w' : World}, Ext (blkOf a) v1 w' → w'.cell? ⟨pb, 0, none⟩ = some (.slice av (plE ns rs).length cv) ∧ RowAt w' av (nums (plE ns rs)) := fun {w'} F => by
    have h1 := (Cp.ext F (fun hm => hpbx (List.mem_cons_of_mem _ hm))).cell (i := 0)
    refine ⟨h1, hrv.ext F fun b o hb hm => ?_⟩
    exact d3 b (by rw [hb]; simp [blk, Value.ownBlock]) hm
  have hpll : (plE ns rs).length = ns.length := plL_len _ _ _
  have M1 := S.mem
  unfold image_Encode_l1
  simp (disch := (first | omega | decide | (simp only [rsD] <;> omega) | fail)) only [↓rsC, rsK, rsL, ↓rsImg2_0, tick_eq, tickV_eq, ne_eq, Int.reduceAdd, Int.reduceSub, Int.reduceMul, Int.reduceEq, Int.reduceLT, Int.reduceLE, Int.reduceToNat, Nat.reduceMul, Nat.reduceAdd, Nat.reduceSub, ←decide_not, k1, kd, k5, kd7, k8, e8, k9]
  refine xLoop_n ns.length (fun j => [i64 (j : Int)]) (fun j w' => ∃ ws, Ext (blkOf a) v1 w' ∧ MemIs w' w2.heap.size g a c ws ∧ PhI ns rs (fun i => i < 2 ∨ (∃ k, k < ns.length ∧ i = plc ns rs k) ∨ (2 + 5 * rs.length ≤ i ∧ i < plc ns rs j)) ws) rfl ⟨ws, Ext.refl _ _, M1, Pm⟩ ?_ ?_
  · rintro j hj u v2 hu ⟨ws2, F2, M2, P2⟩ nxt2 hnx2
    simp only [List.map_cons, List.map_nil, List.cons.injEq, and_true] at hu
    rw [hu]
    have Y2 := hbk F2
    obtain ⟨b1, o1, ha1, z1, c1, c2⟩ := gn_at (hy.ext0 Y2).nr hj
    obtain ⟨kp, rp⟩ := hKp F2
    have hPn := ph_node hg hj P2
    have L2 := P2.len
    have hlt := plc_lt (ns := ns) (rs := rs) hj
    have hgz : gsz ns[j] = 1 + ns[j].p.length + (ns[j].d.length + 7) / 8 := rfl
    obtain ⟨bp, op, hap, zp, kpl⟩ := rp.at (i := j) (by simpa [hpll] using hj)
    have kpj : v2.cell? ⟨bp, op + j, none⟩ = some (i64 ((plc ns rs j : Nat) : Int)) := by
      rw [kpl]
      have := pl_get (rs := rs) hj
      simp only [List.getElem_map]
      have h2 : (plE ns rs)[j]'(by rw [hpll]; exact hj) = plc ns rs j := by
        rw [List.getElem?_eq_getElem (by rw [hpll]; exact hj)] at this
        exact Option.some.inj this
      rw [h2]
    have zpb : pb < v2.heap.size := World.block_lt_of_cell? v2 ⟨pb, 0, none⟩ kp
    obtain ⟨hxp, _, _⟩ := hg.x _ (List.getElem_mem hj)
    have hxok := hy.ok _ (List.getElem_mem hj)
    unfold image_Encode_l2
    simp (disch := (first | omega | decide | (simp only [rsD] <;> omega) | fail)) only [↓rsC, rsK, rsL, ↓rsImg2_0, tick_eq, tickV_eq, ne_eq, Int.reduceAdd, Int.reduceSub, Int.reduceMul, Int.reduceEq, Int.reduceLT, Int.reduceLE, Int.reduceToNat, Nat.reduceMul, Nat.reduceAdd, Nat.reduceSub, ←decide_not, k1, kd, k5, kd7, k8, e8, k9, ha1, c1, c2, kp, hap, kpj]
    have X3 : Ext [] v2 (v2.alloc (.cells #[.slice ns[j].pa ns[j].p.length ns[j].pc, .slice ns[j].da ns[j].d.length ns[j].dc] 72)).drew := (Ext.alloc _ _ _).trans (Ext.drew _ _)
    have Fx := fun {w' : World} (F : Ext (blkOf a) (v2.alloc (.cells #[.slice ns[j].pa ns[j].p.length ns[j].pc, .slice ns[j].da ns[j].d.length ns[j].dc] 72)).drew w') => F2.trans ((X3.more (by simp)).trans F)
    refine image_node_call (Yld.mono (inode_spec (M2.ext0 X3) ns[j] (plE ns rs) pb av cv (plc ns rs j) (by omega) (hples _ (Nat.le_refl _)) (fun p hp => by rw [hpll]; exact hxp p hp) (fun w' F => ⟨hxok.ext0 (hbk (Fx F)), hKp (Fx F)⟩) (fun hd b o hb hm => by
      obtain ⟨b', o', h1, h2, _⟩ := hxok.dr.get (by simpa using hd)
      rw [hb] at h1
      cases h1
      have := hyb _ hm
      omega) (by omega)) ?_)
    rintro u v4 ⟨F4, M4⟩
    simp (disch := (first | omega | decide | (simp only [rsD] <;> omega) | fail)) only [↓rsC, rsK, rsL, ↓rsImg2_0, tick_eq, tickV_eq, ne_eq, Int.reduceAdd, Int.reduceSub, Int.reduceMul, Int.reduceEq, Int.reduceLT, Int.reduceLE, Int.reduceToNat, Nat.reduceMul, Nat.reduceAdd, Nat.reduceSub, ←decide_not, k1, kd, k5, kd7, k8, e8, k9, ha1, c1, c2, kp, hap, kpj]
    exact hnx2 _ ⟨_, Fx F4, M4, hPn⟩
  rintro u v2 hu ⟨ws2, F2, M2, P2⟩ nxt2
  simp only [List.map_cons, List.map_nil, List.cons.injEq, and_true] at hu
  rw [hu]
  have Pr := ph_mid2 P2
  have k2 := fun i => (B.ext (hbk F2) (by simp)).cell (i := i)
  unfold image_Encode_l2
  simp (disch := (first | omega | decide | (simp only [rsD] <;> omega) | fail)) only [↓rsC, rsK, rsL, ↓rsImg2_0, tick_eq, tickV_eq, ne_eq, Int.reduceAdd, Int.reduceSub, Int.reduceMul, Int.reduceEq, Int.reduceLT, Int.reduceLE, Int.reduceToNat, Nat.reduceMul, Nat.reduceAdd, Nat.reduceSub, ←decide_not, k1, kd, k5, kd7, k8, e8, k9, k2]
  refine xLoop_n rs.length (fun j => [i64 (j : Int)]) (fun j w' => ∃ ws, Ext (blkOf a) v1 w' ∧ MemIs w' w2.heap.size g a c ws ∧ PhI ns rs (fun i => i < 2 + 5 * j ∨ 2 + 5 * rs.length ≤ i) ws) rfl ⟨ws2, F2, M2, Pr⟩ ?_ ?_
  · rintro j hj u v3 hu ⟨ws3, F3, M3, P3⟩ nxt3 hnx3
    simp only [List.map_cons, List.map_nil, List.cons.injEq, and_true] at hu
    rw [hu]
    have Y3 := hbk F3
    obtain ⟨b1, o1, ha1, z1, c1, c2⟩ := gr_at (hy.ext0 Y3).rr hj
    obtain ⟨kp, rp⟩ := hKp F3
    have hPn := ph_root hg hj P3
    have L3 := P3.len
    have zpb : pb < v3.heap.size := World.block_lt_of_cell? v3 ⟨pb, 0, none⟩ kp
    obtain ⟨hnm, ht0, ht1⟩ := hg.s _ (List.getElem_mem hj)
    have e5 : (2 : Int) + 5 * (j : Int) = ((2 + 5 * j : Nat) : Int) := by omega
    unfold image_Encode_l3
    simp (disch := (first | omega | decide | (simp only [rsD] <;> omega) | fail)) only [↓rsC, rsK, rsL, ↓rsImg2_0, tick_eq, tickV_eq, ne_eq, Int.reduceAdd, Int.reduceSub, Int.reduceMul, Int.reduceEq, Int.reduceLT, Int.reduceLE, Int.reduceToNat, Nat.reduceMul, Nat.reduceAdd, Nat.reduceSub, ←decide_not, k1, kd, k5, kd7, k8, e8, k9, k2, ha1, c1, c2, e5]
    have C3 : Blk (v3.alloc (.cells #[.string (strOf rs[j].s), i64 rs[j].to] 74)) v3.heap.size 74 [.string (strOf rs[j].s), i64 rs[j].to] := Blk.at rfl
    have C3d := C3.ext (Ext.drew [] _) (by simp)
    have X3 : Ext [] v3 (v3.alloc (.cells #[.string (strOf rs[j].s), i64 rs[j].to] 74)).drew := (Ext.alloc _ _ _).trans (Ext.drew _ _)
    have M4 := M3.ext0 X3
    have Fx : Ext (blkOf a) v1 (v3.alloc (.cells #[.string (strOf rs[j].s), i64 rs[j].to] 74)).drew := F3.trans (X3.more (by simp))
    obtain ⟨kp4, rp4⟩ := hKp Fx
    generalize (v3.alloc (.cells #[.string (strOf rs[j].s), i64 rs[j].to] 74)).drew = y3 at *
    generalize v3.heap.size = nb at *
    refine image_Encode_1_callc (Gives.to (to_spec (plE ns rs) pb av cv rs[j].to kp4 rp4 ht0 (by rw [hpll]; exact ht1) (by omega) (hples _ (Nat.le_refl _))) fun v4 F4 => ?_)
    have k4 := fun i => (C3d.ext F4 (by simp)).cell (i := i)
    simp (disch := (first | omega | decide | (simp only [rsD] <;> omega) | fail)) only [↓rsC, rsK, rsL, ↓rsImg2_0, tick_eq, tickV_eq, ne_eq, Int.reduceAdd, Int.reduceSub, Int.reduceMul, Int.reduceEq, Int.reduceLT, Int.reduceLE, Int.reduceToNat, Nat.reduceMul, Nat.reduceAdd, Nat.reduceSub, ←decide_not, k1, kd, k5, kd7, k8, e8, k9, k2, ha1, c1, c2, e5, k4]
    refine image_root_call (Yld.mono (iroot_spec (M4.ext0 F4) (nmOk_iff.2 hnm) (2 + 5 * j) (by omega) (ptW (plE ns rs) rs[j].to)) ?_)
    rintro u v5 ⟨F5, M5⟩
    simp (disch := (first | omega | decide | (simp only [rsD] <;> omega) | fail)) only [↓rsC, rsK, rsL, ↓rsImg2_0, tick_eq, tickV_eq, ne_eq, Int.reduceAdd, Int.reduceSub, Int.reduceMul, Int.reduceEq, Int.reduceLT, Int.reduceLE, Int.reduceToNat, Nat.reduceMul, Nat.reduceAdd, Nat.reduceSub, ←decide_not, k1, kd, k5, kd7, k8, e8, k9, k2, ha1, c1, c2, e5, k4]
    exact hnx3 _ ⟨_, Fx.trans ((F4.more (by simp)).trans F5), M5, hPn⟩
  · rintro u v3 hu ⟨ws3, F3, M3, P3⟩ nxt3
    simp only [List.map_cons, List.map_nil, List.cons.injEq, and_true] at hu
    rw [hu]
    have hE := ph_end hg P3
    subst hE
    unfold image_Encode_l3
    simp (disch := (first | omega | decide | (simp only [rsD] <;> omega) | fail)) only [↓rsC, rsK, rsL, ↓rsImg2_0, tick_eq, tickV_eq, ne_eq, Int.reduceAdd, Int.reduceSub, Int.reduceMul, Int.reduceEq, Int.reduceLT, Int.reduceLE, Int.reduceToNat, Nat.reduceMul, Nat.reduceAdd, Nat.reduceSub, ←decide_not, k1, kd, k5, kd7, k8, e8, k9, k2]
    refine mem_Mem_Words_call (Yld.mono (Words_spec M3) ?_)
    rintro u v4 ⟨F4, a4, c4, rfl, hc4, hn4, O4, _⟩
    exact .inr ⟨hc0, hg, by omega, a4, c4, by trivial, hc4, hn4, O4.row, X.trans ((hbk F3).trans F4)⟩
end Go.Proofs.Ytdpmidgeipibbaa
end
section
set_option linter.unusedVariables false
set_option linter.unusedSimpArgs false
set_option maxHeartbeats 4000000
namespace Go.Proofs.Ytdpmidgeipibbaa
open Go.Sh Go.RowKit

/-- how many numbers of a row are less than one -/
def lowN (os : List Nat) (x : Nat) : Nat := os.countP fun y => decide (y < x)
theorem lowN_at {os : List Nat} {x i : Nat} (hi : i ≤ os.length) (h1 : ∀ k (hk : k < os.length), k < i → os[k] < x) (h2 : ∀ k (hk : k < os.length), i ≤ k → x ≤ os[k]) : lowN os x = i := by
  unfold lowN
  have e : os = os.take i ++ os.drop i := (List.take_append_drop i os).symm
  rw [e, List.countP_append]
  have a1 : (os.take i).countP (fun y => decide (y < x)) = i := by
    rw [List.countP_eq_length.2, List.length_take, Nat.min_eq_left hi]
    intro y hy
    obtain ⟨k, hk, rfl⟩ := List.getElem_of_mem hy
    rw [List.length_take] at hk
    rw [List.getElem_take]
    exact decide_eq_true (h1 k (by omega) (by omega))
  have a2 : (os.drop i).countP (fun y => decide (y < x)) = 0 := by
    rw [List.countP_eq_zero]
    intro y hy
    obtain ⟨k, hk, rfl⟩ := List.getElem_of_mem hy
    rw [List.length_drop] at hk
    rw [List.getElem_drop]
    have := h2 (i + k) (by omega) (by omega)
    simp; omega
  omega
abbrev rsDec1_0 := (And.intro @xu8_neq (And.intro @xu16_neq (And.intro @xu32_neq (And.intro @xu64_neq (And.intro @xi64_neq @xi64_neg)))))
theorem cNaN_spec (i : Int) (w : World) : Gives Try.prog n_cmp_isNaN_int #[i64 i] w (.bool false) := by
  refine cmp_isNaN_int_of ?_
  unfold cmp_isNaN_int
  simp (disch := (first | omega | decide | (simp only [rsD] <;> omega) | fail)) only [↓rsC, rsK, rsL, ↓rsDec1_0, tick_eq, tickV_eq, ne_eq, Int.reduceAdd, Int.reduceSub, Int.reduceMul, Int.reduceEq, Int.reduceLT, Int.reduceLE, Int.reduceToNat, Nat.reduceMul, Nat.reduceAdd, Nat.reduceSub, ←decide_not, eq_self]
  exact ⟨by trivial, Ext.refl _ _⟩
theorem sNaN_spec (i : Int) (w : World) : Gives Try.prog n_slices_isNaN_int #[i64 i] w (.bool false) := by
  refine slices_isNaN_int_of ?_
  unfold slices_isNaN_int
  simp (disch := (first | omega | decide | (simp only [rsD] <;> omega) | fail)) only [↓rsC, rsK, rsL, ↓rsDec1_0, tick_eq, tickV_eq, ne_eq, Int.reduceAdd, Int.reduceSub, Int.reduceMul, Int.reduceEq, Int.reduceLT, Int.reduceLE, Int.reduceToNat, Nat.reduceMul, Nat.reduceAdd, Nat.reduceSub, ←decide_not, eq_self]
  exact ⟨by trivial, Ext.refl _ _⟩
abbrev rsDec1_1 := (And.intro @xu8_com (And.intro @xu8_lss (And.intro @xu16_com (And.intro @xu16_lss (And.intro @xu32_com (And.intro @xu32_lss (And.intro @xu64_com (And.intro @xu64_lss @xi64_lss))))))))
theorem cLess_spec (i j : Int) (w : World) : Gives Try.prog n_cmp_Less_int #[i64 i, i64 j] w (.bool (decide (i < j))) := by
  refine cmp_Less_int_of ?_
  unfold cmp_Less_int
  simp (disch := (first | omega | decide | (simp only [rsD] <;> omega) | fail)) only [↓rsC, rsK, rsL, ↓rsDec1_1, tick_eq, tickV_eq, ne_eq, Int.reduceAdd, Int.reduceSub, Int.reduceMul, Int.reduceEq, Int.reduceLT, Int.reduceLE, Int.reduceToNat, Nat.reduceMul, Nat.reduceAdd, Nat.reduceSub, ←decide_not, eq_self]
  refine cmp_isNaN_int_call (Gives.to (cNaN_spec i w) fun w1 F1 => ?_)
  simp (disch := (first | omega | decide | (simp only [rsD] <;> omega) | fail)) only [↓rsC, rsK, rsL, ↓rsDec1_1, tick_eq, tickV_eq, ne_eq, Int.reduceAdd, Int.reduceSub, Int.reduceMul, Int.reduceEq, Int.reduceLT, Int.reduceLE, Int.reduceToNat, Nat.reduceMul, Nat.reduceAdd, Nat.reduceSub, ←decide_not, eq_self]
  exact ⟨by trivial, F1⟩
abbrev rsDec1_2 := (And.intro @xu8_add (And.intro @xu8_shr (And.intro @xu8_eql (And.intro @xu8_lss (And.intro @xu16_add (And.intro @xu16_shr (And.intro @xu16_eql (And.intro @xu16_lss (And.intro @xu32_add (And.intro @xu32_shr (And.intro @xu32_eql (And.intro @xu32_lss (And.intro @xu64_add (And.intro @xu64_shr (And.intro @xu64_eql (And.intro @xu64_lss 
  (And.intro @xi64_lss (And.intro @xi64_eql (And.intro @xi64_shr (And.intro @ld_3 (And.intro @cv_3_77 (And.intro @cv_77_3 (And.intro @ia_66 @ln_66)))))))))))))))))))))))
theorem BSearch_spec {w : World} {os : List Nat} {a : Option Addr} {c : Nat} (h : RowAt w a (nums os)) (hs : os.Pairwise (· < ·)) (hl : os.length ≤ 100000) (hb : ∀ y ∈ os, y ≤ 1000000) (x : Nat) (hx : x ≤ 1000000) :
    Gives Try.prog n_slices_BinarySearch_int_int #[.slice a os.length c, i64 (x : Int)] w (.tuple #[i64 (lowN os x : Int), .bool (decide (x ∈ os))]) := by
  have hinc : ∀ i j (hi : i < os.length) (hj : j < os.length), i < j → os[i] < os[j] := fun i j hi hj hij => List.pairwise_iff_getElem.1 hs i j hi hj hij
  have at' : ∀ (w' : World), Ext [] w w' → ∀ j (hj : j < os.length), ∃ b o, a = some ⟨b, o, none⟩ ∧ b < w'.heap.size ∧ w'.cell? ⟨b, o + j, none⟩ = some (i64 (os[j] : Int)) := fun w' F j hj => by
    obtain ⟨b, o, ha, hlt, hc⟩ := (h.ext0 F).at (i := j) (by simpa using hj)
    exact ⟨b, o, ha, hlt, by rw [hc]; simp⟩
  refine slices_BinarySearch_int_int_of ?_
  unfold slices_BinarySearch_int_int
  simp (disch := (first | omega | decide | (simp only [rsD] <;> omega) | fail)) only [↓rsC, rsK, rsL, ↓rsDec1_2, tick_eq, tickV_eq, ne_eq, Int.reduceAdd, Int.reduceSub, Int.reduceMul, Int.reduceEq, Int.reduceLT, Int.reduceLE, Int.reduceToNat, Nat.reduceMul, Nat.reduceAdd, Nat.reduceSub, ←decide_not, eq_self]
  have fin : ∀ (i : Nat) (w' : World) nxt, Ext [] w w' → i ≤ os.length → (∀ k (hk : k < os.length), k < i → os[k] < x) → (∀ k (hk : k < os.length), i ≤ k → x ≤ os[k]) → slices_BinarySearch_int_int_l1 (fun v w' => v = .tuple #[i64 (lowN os x : Int), .bool (decide (x ∈ os))] ∧ Ext [] w w') nxt (.slice a os.length c) (i64 (x : Int)) (i64 (os.length : Int)) (i64 (i : Int)) (i64 (i : Int)) w' := fun i w' nxt F hi h1 h2 => by
    rw [lowN_at hi h1 h2]
    unfold slices_BinarySearch_int_int_l1
    by_cases hlt : i < os.length
    · obtain ⟨b, o, rfl, hlt3, hc⟩ := at' w' F i hlt
      by_cases he : os[i] = x
      · have hm : x ∈ os := by rw [← he]; exact List.getElem_mem _
        rw [he] at hc
        simp (disch := (first | omega | decide | (simp only [rsD] <;> omega) | fail)) only [↓rsC, rsK, rsL, ↓rsDec1_2, tick_eq, tickV_eq, ne_eq, Int.reduceAdd, Int.reduceSub, Int.reduceMul, Int.reduceEq, Int.reduceLT, Int.reduceLE, Int.reduceToNat, Nat.reduceMul, Nat.reduceAdd, Nat.reduceSub, ←decide_not, hc]
        exact ⟨by rw [decide_eq_true hm], F⟩
      · have hm : x ∉ os := fun hm => by
          obtain ⟨k, hk, e⟩ := List.getElem_of_mem hm
          by_cases hki : k < i
          · have := h1 k hk hki; omega
          · have := h2 i hlt (by omega)
            by_cases e2 : k = i
            · subst e2; exact he e
            · have := hinc i k hlt hk (by omega); omega
        have hz := hb _ (List.getElem_mem hlt)
        generalize os[i] = z at *
        simp (disch := (first | omega | decide | (simp only [rsD] <;> omega) | fail)) only [↓rsC, rsK, rsL, ↓rsDec1_2, tick_eq, tickV_eq, ne_eq, Int.reduceAdd, Int.reduceSub, Int.reduceMul, Int.reduceEq, Int.reduceLT, Int.reduceLE, Int.reduceToNat, Nat.reduceMul, Nat.reduceAdd, Nat.reduceSub, ←decide_not, hc]
        refine slices_isNaN_int_call (Gives.to (sNaN_spec _ w') fun w1 F1 => ?_)
        simp (disch := (first | omega | decide | (simp only [rsD] <;> omega) | fail)) only [↓rsC, rsK, rsL, ↓rsDec1_2, tick_eq, tickV_eq, ne_eq, Int.reduceAdd, Int.reduceSub, Int.reduceMul, Int.reduceEq, Int.reduceLT, Int.reduceLE, Int.reduceToNat, Nat.reduceMul, Nat.reduceAdd, Nat.reduceSub, ←decide_not, hc]
        exact ⟨by rw [decide_eq_false hm], F.trans F1⟩
    · have hm : x ∉ os := fun hm => by
        obtain ⟨k, hk, e⟩ := List.getElem_of_mem hm
        have := h1 k hk (by omega); omega
      simp (disch := (first | omega | decide | (simp only [rsD] <;> omega) | fail)) only [↓rsC, rsK, rsL, ↓rsDec1_2, tick_eq, tickV_eq, ne_eq, Int.reduceAdd, Int.reduceSub, Int.reduceMul, Int.reduceEq, Int.reduceLT, Int.reduceLE, Int.reduceToNat, Nat.reduceMul, Nat.reduceAdd, Nat.reduceSub, ←decide_not, eq_self]
      exact ⟨by rw [decide_eq_false hm], F⟩
  refine xLoop_r os.length (fun k vs w' => ∃ i j, vs = [i64 ((i : Nat) : Int), i64 ((j : Nat) : Int)] ∧ i ≤ j ∧ j ≤ os.length ∧ j ≤ i + (os.length - k) ∧ Ext [] w w' ∧ (∀ k (hk : k < os.length), k < i → os[k] < x) ∧ (∀ k (hk : k < os.length), j ≤ k → x ≤ os[k])) ⟨0, os.length, rfl, by omega, by omega, by omega, Ext.refl _ _, fun k hk h => by omega, fun k hk h => by omega⟩ ?_ ?_
  · rintro k hk u w1 ⟨i, j, hu, h1, h2, h3, F, h4, h5⟩ nxt hn
    simp only [List.map_cons, List.map_nil, List.cons.injEq, and_true] at hu
    rw [hu.1, hu.2]
    by_cases hij : i = j
    · subst hij
      exact fin i w1 nxt F h2 h4 h5
    · have hm : (i + j) / 2 < os.length := by omega
      obtain ⟨b, o, rfl, hlt3, hc⟩ := at' w1 F _ hm
      unfold slices_BinarySearch_int_int_l1
      have em : (BitVec.ofInt 64 ((i : Int) + (j : Int)) >>> 1).toInt = (((i + j) / 2 : Nat) : Int) := by
        have e0 : ((i : Int) + (j : Int)) = ((i + j : Nat) : Int) := by omega
        rw [e0, BitVec.ofInt_natCast]
        have e1 : (BitVec.ofNat 64 (i + j) >>> 1).toNat = (i + j) / 2 := by
          rw [BitVec.toNat_ushiftRight, BitVec.toNat_ofNat, Nat.mod_eq_of_lt (by omega), Nat.shiftRight_eq_div_pow]
        rw [BitVec.toInt_eq_toNat_of_lt (by rw [e1]; omega), e1]
      have em1 : (BitVec.ofInt 64 ((i : Int) + (j : Int)) >>> (1#64).toNat).toInt = (((i + j) / 2 : Nat) : Int) := em
      have em2 : (BitVec.ofInt 64 ((i : Int) + (j : Int)) >>> (((1#64).toNat : Int)).toNat).toInt = (((i + j) / 2 : Nat) : Int) := em
      have hm0 := List.getElem_mem (l := os) hm
      have hmb := hb _ hm0
      have hlow : ∀ k (hk : k < os.length), k < (i + j) / 2 + 1 → os[(i + j) / 2] < x → os[k] < x := fun k hk hk2 hx2 => by
        by_cases e : k = (i + j) / 2
        · subst e; exact hx2
        · have := hinc k _ hk hm (by omega); omega
      have hhigh : ∀ k (hk : k < os.length), (i + j) / 2 ≤ k → x ≤ os[(i + j) / 2] → x ≤ os[k] := fun k hk hk2 hx2 => by
        by_cases e : k = (i + j) / 2
        · subst e; exact hx2
        · have := hinc _ k hm hk (by omega); omega
      generalize os[(i + j) / 2] = z at *
      generalize hq : (i + j) / 2 = q at *
      simp (disch := (first | omega | decide | (simp only [rsD] <;> omega) | fail)) only [↓rsC, rsK, rsL, ↓rsDec1_2, tick_eq, tickV_eq, ne_eq, Int.reduceAdd, Int.reduceSub, Int.reduceMul, Int.reduceEq, Int.reduceLT, Int.reduceLE, Int.reduceToNat, Nat.reduceMul, Nat.reduceAdd, Nat.reduceSub, ←decide_not, hc, em1, em2]
      refine cmp_Less_int_call (Gives.to (cLess_spec _ _ w1) fun w2 F2 => ?_)
      by_cases hz : z < x
      · have hz' : (z : Int) < (x : Int) := by omega
        rw [decide_eq_true hz']
        simp (disch := (first | omega | decide | (simp only [rsD] <;> omega) | fail)) only [↓rsC, rsK, rsL, ↓rsDec1_2, tick_eq, tickV_eq, ne_eq, Int.reduceAdd, Int.reduceSub, Int.reduceMul, Int.reduceEq, Int.reduceLT, Int.reduceLE, Int.reduceToNat, Nat.reduceMul, Nat.reduceAdd, Nat.reduceSub, ←decide_not, hc, em1, em2]
        exact hn _ _ ⟨q + 1, j, by simp, by omega, h2, by omega, F.trans F2, fun k hk hk2 => hlow k hk hk2 hz, h5⟩
      · have hz' : ¬ (z : Int) < (x : Int) := by omega
        rw [decide_eq_false hz']
        simp (disch := (first | omega | decide | (simp only [rsD] <;> omega) | fail)) only [↓rsC, rsK, rsL, ↓rsDec1_2, tick_eq, tickV_eq, ne_eq, Int.reduceAdd, Int.reduceSub, Int.reduceMul, Int.reduceEq, Int.reduceLT, Int.reduceLE, Int.reduceToNat, Nat.reduceMul, Nat.reduceAdd, Nat.reduceSub, ←decide_not, hc, em1, em2]
        exact hn _ _ ⟨i, q, by simp, by omega, by omega, by omega, F.trans F2, h4, fun k hk hk2 => hhigh k hk hk2 (by omega)⟩
  · rintro u w1 ⟨i, j, hu, h1, h2, h3, F, h4, h5⟩ nxt
    simp only [List.map_cons, List.map_nil, List.cons.injEq, and_true] at hu
    rw [hu.1, hu.2]
    have : i = j := by omega
    subst this
    exact fin i w1 nxt F h2 h4 h5
abbrev rsDec1_3 := (And.intro @xu8_add (And.intro @xu8_neq (And.intro @xu8_lss (And.intro @xu16_add (And.intro @xu16_neq (And.intro @xu16_lss (And.intro @xu32_add (And.intro @xu32_neq (And.intro @xu32_lss (And.intro @xu64_add (And.intro @xu64_neq (And.intro @xu64_lss (And.intro @xi64_lss (And.intro @xi64_neq (And.intro @xi64_neg (And.intro @ld_69 
  (And.intro @ia_28 @ln_28)))))))))))))))))
theorem EqualW_spec {w : World} {p q : List (BitVec 64)} {a a' : Option Addr} {c c' : Nat} (h : RowAt w a (wrds p)) (h' : RowAt w a' (wrds q)) (hp : p.length ≤ 1000000) (hq : q.length ≤ 1000000) : Gives Try.prog n_slices_Equal_uint64_uint64 #[.slice a p.length c, .slice a' q.length c'] w (.bool (decide (p = q))) := by
  refine slices_Equal_uint64_uint64_of ?_
  unfold slices_Equal_uint64_uint64
  by_cases hne : p.length = q.length
  case neg =>
    have : ¬ ((p.length : Int) = q.length) := by omega
    simp (disch := (first | omega | decide | (simp only [rsD] <;> omega) | fail)) only [↓rsC, rsK, rsL, ↓rsDec1_3, tick_eq, tickV_eq, ne_eq, Int.reduceAdd, Int.reduceSub, Int.reduceMul, Int.reduceEq, Int.reduceLT, Int.reduceLE, Int.reduceToNat, Nat.reduceMul, Nat.reduceAdd, Nat.reduceSub, ←decide_not, eq_self]
    exact ⟨by rw [decide_eq_false (fun e => hne (by rw [e]))], Ext.refl _ _⟩
  have : ((p.length : Int) = q.length) := by omega
  simp (disch := (first | omega | decide | (simp only [rsD] <;> omega) | fail)) only [↓rsC, rsK, rsL, ↓rsDec1_3, tick_eq, tickV_eq, ne_eq, Int.reduceAdd, Int.reduceSub, Int.reduceMul, Int.reduceEq, Int.reduceLT, Int.reduceLE, Int.reduceToNat, Nat.reduceMul, Nat.reduceAdd, Nat.reduceSub, ←decide_not, eq_self]
  refine xLoop_n p.length (fun j => [i64 (j : Int)]) (fun j w' => Ext [] w w' ∧ ∀ i, i < j → wat p i = wat q i) rfl ⟨Ext.refl _ _, by intro i hi; omega⟩ ?_ ?_
  · rintro j hj u w1 hu ⟨F, hq2⟩ nxt hn
    simp only [List.map_cons, List.map_nil, List.cons.injEq, and_true] at hu
    rw [hu]
    unfold slices_Equal_uint64_uint64_l1
    have F1 := F.trans (Ext.drew [] w1)
    obtain ⟨b, o, rfl, hlt, hc⟩ := row_w (h.ext0 F1) (i := j) (by omega)
    obtain ⟨b', o', rfl, hlt', hc'⟩ := row_w (h'.ext0 F1) (i := j) (by omega)
    by_cases e : wat p j = wat q j
    · rw [e] at hc
      simp (disch := (first | omega | decide | (simp only [rsD] <;> omega) | fail)) only [↓rsC, rsK, rsL, ↓rsDec1_3, tick_eq, tickV_eq, ne_eq, Int.reduceAdd, Int.reduceSub, Int.reduceMul, Int.reduceEq, Int.reduceLT, Int.reduceLE, Int.reduceToNat, Nat.reduceMul, Nat.reduceAdd, Nat.reduceSub, ←decide_not, hc, hc']
      exact hn _ ⟨F1, fun i hi => by
        by_cases ei : i = j
        · subst ei; exact e
        · exact hq2 i (by omega)⟩
    · have e' : ¬ (wat q j = wat p j) := fun h => e h.symm
      simp (disch := (first | omega | decide | (simp only [rsD] <;> omega) | fail)) only [↓rsC, rsK, rsL, ↓rsDec1_3, tick_eq, tickV_eq, ne_eq, Int.reduceAdd, Int.reduceSub, Int.reduceMul, Int.reduceEq, Int.reduceLT, Int.reduceLE, Int.reduceToNat, Nat.reduceMul, Nat.reduceAdd, Nat.reduceSub, ←decide_not, hc, hc', e]
      exact ⟨by rw [decide_eq_false (fun e2 => e (by rw [e2]))], F1⟩
  · rintro u w1 hu ⟨F, hq2⟩ nxt
    simp only [List.map_cons, List.map_nil, List.cons.injEq, and_true] at hu
    rw [hu]
    unfold slices_Equal_uint64_uint64_l1
    simp (disch := (first | omega | decide | (simp only [rsD] <;> omega) | fail)) only [↓rsC, rsK, rsL, ↓rsDec1_3, tick_eq, tickV_eq, ne_eq, Int.reduceAdd, Int.reduceSub, Int.reduceMul, Int.reduceEq, Int.reduceLT, Int.reduceLE, Int.reduceToNat, Nat.reduceMul, Nat.reduceAdd, Nat.reduceSub, ←decide_not, eq_self]
    refine ⟨?_, F⟩
    rw [decide_eq_true]
    refine List.ext_getElem hne fun i h1 h2 => ?_
    have := hq2 i h1
    unfold wat at this
    simpa [List.getD_eq_getElem?_getD, List.getElem?_eq_getElem h1, List.getElem?_eq_getElem h2] using this
/-- the number that a pointer's word is for -/
def numb (os : List Nat) (x : BitVec 64) : Int := if x.toNat = 0 ∨ 8192 < x.toNat then 0 else if x.toNat - 1 ∈ os then (lowN os (x.toNat - 1) : Int) + 1 else 0
abbrev rdV (s : Nat) (pa : Option Addr) (n pc : Nat) : Value := .agg #[ptr s, .slice pa n pc]
abbrev rsDec1_4 := (And.intro @xu8_add (And.intro @xu8_sub (And.intro @xu8_com (And.intro @xu8_eql (And.intro @xu8_gtr (And.intro @xu16_add (And.intro @xu16_sub (And.intro @xu16_com (And.intro @xu16_eql (And.intro @xu16_gtr (And.intro @xu32_add (And.intro @xu32_sub (And.intro @xu32_com (And.intro @xu32_eql (And.intro @xu32_gtr (And.intro @xu64_add 
  (And.intro @xu64_sub (And.intro @xu64_com (And.intro @xu64_eql (And.intro @xu64_gtr (And.intro @xi64_gtr (And.intro @xi64_eql (And.intro @ld_66 (And.intro @fa_132_1 @cv_69_3))))))))))))))))))))))))
theorem number_spec {w : World} {os : List Nat} {pa : Option Addr} {pc s : Nat} (h : RowAt w pa (nums os)) (hs : os.Pairwise (· < ·)) (hl : os.length ≤ 100000) (hb : ∀ y ∈ os, y ≤ 1000000) (x : BitVec 64) :
    Gives Try.prog n_image_reader_number #[rdV s pa os.length pc, u64 x] w (i64 (numb os x)) := by
  refine image_reader_number_of ?_
  unfold image_reader_number
  unfold numb
  simp (disch := (first | omega | decide | (simp only [rsD] <;> omega) | fail)) only [↓rsC, rsK, rsL, ↓rsDec1_4, tick_eq, tickV_eq, ne_eq, Int.reduceAdd, Int.reduceSub, Int.reduceMul, Int.reduceEq, Int.reduceLT, Int.reduceLE, Int.reduceToNat, Nat.reduceMul, Nat.reduceAdd, Nat.reduceSub, ←decide_not, eq_self]
  have B : Blk (w.alloc (.cells #[ptr s, .slice pa os.length pc] 132)) w.heap.size 132 [ptr s, .slice pa os.length pc] := Blk.at rfl
  have X : Ext [] w (w.alloc (.cells #[ptr s, .slice pa os.length pc] 132)) := Ext.alloc _ _ _
  generalize w.alloc (.cells #[ptr s, .slice pa os.length pc] 132) = w1 at *
  have zb := B.lt
  generalize w.heap.size = g at *
  have k := fun i => B.cell (i := i)
  by_cases h0 : x = BitVec.ofNat 64 0
  · have e0 : x.toNat = 0 := by rw [h0]; rfl
    rw [if_pos (.inl e0)]
    simp (disch := (first | omega | decide | (simp only [rsD] <;> omega) | fail)) only [↓rsC, rsK, rsL, ↓rsDec1_4, tick_eq, tickV_eq, ne_eq, Int.reduceAdd, Int.reduceSub, Int.reduceMul, Int.reduceEq, Int.reduceLT, Int.reduceLE, Int.reduceToNat, Nat.reduceMul, Nat.reduceAdd, Nat.reduceSub, ←decide_not, h0]
    exact ⟨by trivial, X⟩
  have n0 : x.toNat ≠ 0 := fun e => h0 (BitVec.eq_of_toNat_eq (by rw [e]; rfl))
  by_cases h1 : 8192 < x.toNat
  · rw [if_pos (.inr h1)]
    have hgt : (BitVec.ofNat 64 8192).toNat < x.toNat := h1
    simp (disch := (first | omega | decide | (simp only [rsD] <;> omega) | fail)) only [↓rsC, rsK, rsL, ↓rsDec1_4, tick_eq, tickV_eq, ne_eq, Int.reduceAdd, Int.reduceSub, Int.reduceMul, Int.reduceEq, Int.reduceLT, Int.reduceLE, Int.reduceToNat, Nat.reduceMul, Nat.reduceAdd, Nat.reduceSub, ←decide_not, h0, hgt]
    exact ⟨by trivial, X⟩
  rw [if_neg (by omega)]
  have hgt : ¬ (BitVec.ofNat 64 8192).toNat < x.toNat := h1
  have ex : x.toInt = (x.toNat : Int) := BitVec.toInt_eq_toNat_of_lt (by omega)
  have ex1 : (x.toNat : Int) - 1 = ((x.toNat - 1 : Nat) : Int) := by omega
  have hx1 : x.toNat - 1 ≤ 8191 := by omega
  simp (disch := (first | omega | decide | (simp only [rsD] <;> omega) | fail)) only [↓rsC, rsK, rsL, ↓rsDec1_4, tick_eq, tickV_eq, ne_eq, Int.reduceAdd, Int.reduceSub, Int.reduceMul, Int.reduceEq, Int.reduceLT, Int.reduceLE, Int.reduceToNat, Nat.reduceMul, Nat.reduceAdd, Nat.reduceSub, ←decide_not, h0, hgt, k, ex, ex1]
  refine slices_BinarySearch_int_int_call (Gives.to (BSearch_spec (h.ext0 X) hs hl hb (x.toNat - 1) (by omega)) fun w2 F2 => ?_)
  by_cases hm : x.toNat - 1 ∈ os
  · rw [decide_eq_true hm, if_pos hm]
    have hlo : lowN os (x.toNat - 1) ≤ os.length := List.countP_le_length
    simp (disch := (first | omega | decide | (simp only [rsD] <;> omega) | fail)) only [↓rsC, rsK, rsL, ↓rsDec1_4, tick_eq, tickV_eq, ne_eq, Int.reduceAdd, Int.reduceSub, Int.reduceMul, Int.reduceEq, Int.reduceLT, Int.reduceLE, Int.reduceToNat, Nat.reduceMul, Nat.reduceAdd, Nat.reduceSub, ←decide_not, h0, hgt, k, ex, ex1]
    exact ⟨by trivial, X.trans F2⟩
  · rw [decide_eq_false hm, if_neg hm]
    simp (disch := (first | omega | decide | (simp only [rsD] <;> omega) | fail)) only [↓rsC, rsK, rsL, ↓rsDec1_4, tick_eq, tickV_eq, ne_eq, Int.reduceAdd, Int.reduceSub, Int.reduceMul, Int.reduceEq, Int.reduceLT, Int.reduceLE, Int.reduceToNat, Nat.reduceMul, Nat.reduceAdd, Nat.reduceSub, ←decide_not, h0, hgt, k, ex, ex1]
    exact ⟨by trivial, X.trans F2⟩
abbrev rsDec1_5 := (And.intro @xu8_add (And.intro @xu8_mul (And.intro @xu16_add (And.intro @xu16_mul (And.intro @xu32_add (And.intro @xu32_mul (And.intro @xu64_add (And.intro @xu64_mul (And.intro @ld_42 (And.intro @ld_99 (And.intro @ld_132 (And.intro @lr_74 (And.intro @fa_102_0 (And.intro @fa_132_0 (And.intro @al_74 (And.intro @al_157 (And.intro @st_74 @bd_74_0_1)))))))))))))))))
theorem rroot_spec {w : World} {base s g : Nat} {a : Option Addr} {c : Nat} {ws : List (BitVec 64)} {b t e : Nat} {os : List Nat} {pa : Option Addr} {pc : Nat} (S : SpIs w base s g a c ws b t e) (h : RowAt w pa (nums os)) (hs : os.Pairwise (· < ·)) (hl : os.length ≤ 100000) (hb : ∀ y ∈ os, y ≤ 1000000) (at' : Nat) (hat : at' + 5 ≤ ws.length) :
    Gives Try.prog n_image_reader_root #[rdV s pa os.length pc, i64 (at' : Int)] w (.agg #[.string (strOf (nameS ws at')), i64 (numb os (wat ws (at' + 4)))]) := by
  have hwl := S.mem.len
  have hsl := fun (a : Addr) (w : World) (K : K1) => xSlice_arr (P := Try.prog) (t := 157) (n := 32) (a := a) (w := w) (K := K) (by kernel_rfl) (by kernel_rfl) (by kernel_rfl) (by decide)
  have one : ∀ l' : List (BitVec 8), ∀ v ∈ bys l', v.oneCell' = true := fun l' v hv => by
    obtain ⟨c, _, rfl⟩ := List.mem_map.1 hv; rfl
  have lag : ∀ l' : List (BitVec 8), l'.length = 32 → (aggN Try.prog 157 = some (bys l').length) := fun l' h => by
    rw [List.length_map, h]; kernel_rfl
  refine image_reader_root_of ?_
  unfold image_reader_root
  have bx : ∀ (y : World) (K : K1), xBox Try.prog 132 (rdV s pa os.length pc) y K = K (ptr y.heap.size) (y.alloc (.cells #[ptr s, .slice pa os.length pc] 132)) := fun y K => xBox_r
  have al : ∀ (y : World) (K : K1), xAlloc Try.prog 74 y K = K (ptr y.heap.size) (y.alloc (.cells #[.string ⟨#[]⟩, i64 0] 74)) := fun y K => xAlloc_r (by kernel_rfl)
  have al2 : ∀ (y : World) (K : K1), xAlloc Try.prog 157 y K = K (ptr y.heap.size) (y.alloc (.cells (bys (List.replicate 32 z8)).toArray 157)) := fun y K => xAlloc_r (by kernel_rfl)
  rw [bx, al, al2]
  have B1 : Blk (w.alloc (.cells #[ptr s, .slice pa os.length pc] 132)) w.heap.size 132 [ptr s, .slice pa os.length pc] := Blk.at rfl
  have X1 : Ext [] w (w.alloc (.cells #[ptr s, .slice pa os.length pc] 132)) := Ext.alloc _ _ _
  generalize w.alloc (.cells #[ptr s, .slice pa os.length pc] 132) = y1 at *
  have zw : w.heap.size ≤ w.heap.size := Nat.le_refl _
  generalize w.heap.size = g1 at B1 zw ⊢
  have B2 : Blk (y1.alloc (.cells #[.string ⟨#[]⟩, i64 0] 74)) y1.heap.size 74 [.string ⟨#[]⟩, i64 0] := Blk.at rfl
  have X2 : Ext [] y1 (y1.alloc (.cells #[.string ⟨#[]⟩, i64 0] 74)) := Ext.alloc _ _ _
  have z1 := B1.lt
  have z1w := X1.size
  generalize y1.alloc (.cells #[.string ⟨#[]⟩, i64 0] 74) = y2 at *
  generalize y1.heap.size = g2 at *
  have B3 : Blk (y2.alloc (.cells (bys (List.replicate 32 z8)).toArray 157)) y2.heap.size 157 (bys (List.replicate 32 z8)) := Blk.at rfl
  have X3 : Ext [] y2 (y2.alloc (.cells (bys (List.replicate 32 z8)).toArray 157)) := Ext.alloc _ _ _
  have z2 := B2.lt
  generalize y2.alloc (.cells (bys (List.replicate 32 z8)).toArray 157) = y3 at *
  generalize y2.heap.size = g3 at *
  have X13 := (X1.trans X2).trans X3
  have S3 := S.ext0 X13
  have B13 := (B1.ext X2 (by simp)).ext X3 (by simp)
  have B23 := B2.ext X3 (by simp)
  have h3 := h.ext0 X13
  have z3 := B3.lt
  have k1 := fun i => B13.cell (i := i)
  have kS := fun i => S3.blk.cell (i := i)
  have e1 : (at' : Int) * 8 = ((at' * 8 : Nat) : Int) := by omega
  have e4 : (at' : Int) + 4 = ((at' + 4 : Nat) : Int) := by omega
  simp (disch := (first | omega | decide | (simp only [rsD] <;> omega) | fail)) only [↓rsC, rsK, rsL, ↓rsDec1_5, tick_eq, tickV_eq, ne_eq, Int.reduceAdd, Int.reduceSub, Int.reduceMul, Int.reduceEq, Int.reduceLT, Int.reduceLE, Int.reduceToNat, Nat.reduceMul, Nat.reduceAdd, Nat.reduceSub, ←decide_not, k1, kS, e1]
  refine mem_Mem_Bytes_call (Yld.mono (Bytes_ok (at' * 8) 32 S3.mem (by omega)) ?_)
  rintro u y4 ⟨F4, a4, c4, rfl, q4, R4, _⟩
  rw [bytesW_length]
  have B34 := B3.ext F4 (by simp)
  have hcp := fun (K : K1) => xCopy_all (P := Try.prog) (w := y4) (K := K) (t := 70) (e := 5) (ty := 3) (c1 := false) (c2 := false) (b := g3) (o := 0) (n := 32) (c := 32) (m := 32) (c' := c4) (a := a4) (cs := bys (bytesW ws (at' * 8) 32)) (by kernel_rfl) (by kernel_rfl) (by simp [bytesW_length]) (Nat.le_refl _) R4 (B34.roomy (by simp [bytesW_length]) (one _))
  have B35 := B34.put (cs := bys (bytesW ws (at' * 8) 32)) (by simp [bytesW_length])
  have X4 : Ext [g3] y3 (y4.setCells g3 0 (bys (bytesW ws (at' * 8) 32))) := (F4.more (by simp)).trans (Ext.sets (Ext.refl _ _) (.inl (by simp)))
  have X5 : Ext [] w (y4.setCells g3 0 (bys (bytesW ws (at' * 8) 32))) := (X13.trans F4).sets (.inr (by omega))
  have B14 := B13.ext X4 (by simp only [List.mem_singleton]; omega)
  have B24 := B23.ext X4 (by simp only [List.mem_singleton]; omega)
  have k1 := fun i => (B13.ext F4 (by simp)).cell (i := i)
  have kS := fun i => (S3.ext0 F4).blk.cell (i := i)
  have zz1 := (B13.ext F4 (by simp)).lt
  have zz2 := (S3.ext0 F4).blk.lt
  have ns3 : s ≠ g3 := by have := S.blk.lt; omega
  simp (disch := (first | omega | decide | (simp only [rsD] <;> omega) | fail)) only [↓rsC, rsK, rsL, ↓rsDec1_5, tick_eq, tickV_eq, ne_eq, Int.reduceAdd, Int.reduceSub, Int.reduceMul, Int.reduceEq, Int.reduceLT, Int.reduceLE, Int.reduceToNat, Nat.reduceMul, Nat.reduceAdd, Nat.reduceSub, ←decide_not, k1, kS, e1, hsl, hcp, e4]
  generalize y4.setCells g3 0 (bys (bytesW ws (at' * 8) 32)) = y5 at *
  have S5 := S.ext0 X5
  refine mem_Mem_Get_call (Gives.to (Get_ok (at' + 4) S5.mem (by omega)) fun y6 F6 => ?_)
  simp (disch := (first | omega | decide | (simp only [rsD] <;> omega) | fail)) only [↓rsC, rsK, rsL, ↓rsDec1_5, tick_eq, tickV_eq, ne_eq, Int.reduceAdd, Int.reduceSub, Int.reduceMul, Int.reduceEq, Int.reduceLT, Int.reduceLE, Int.reduceToNat, Nat.reduceMul, Nat.reduceAdd, Nat.reduceSub, ←decide_not, k1, kS, e1, hsl, hcp, e4]
  have F7 := F6.trans (Ext.drew [] y6)
  have B37 := B35.ext F7 (by simp)
  have B17 := B14.ext F7 (by simp)
  have B27 := B24.ext F7 (by simp)
  have X7 := X5.trans F7
  generalize y6.drew = y7 at *
  have hla := fun (K : K1) => xLoad_arr (P := Try.prog) (K := K) (lag _ bytesW_length) B37
  have k7 := fun i => B17.cell (i := i)
  simp (disch := (first | omega | decide | (simp only [rsD] <;> omega) | fail)) only [↓rsC, rsK, rsL, ↓rsDec1_5, tick_eq, tickV_eq, ne_eq, Int.reduceAdd, Int.reduceSub, Int.reduceMul, Int.reduceEq, Int.reduceLT, Int.reduceLE, Int.reduceToNat, Nat.reduceMul, Nat.reduceAdd, Nat.reduceSub, ←decide_not, k1, kS, e1, hsl, hcp, e4, hla, k7]
  refine table_Name_String_call (Gives.to (String_spec _ bytesW_length y7) fun y8 F8 => ?_)
  have k8 := fun i => (B17.ext F8 (by simp)).cell (i := i)
  simp (disch := (first | omega | decide | (simp only [rsD] <;> omega) | fail)) only [↓rsC, rsK, rsL, ↓rsDec1_5, tick_eq, tickV_eq, ne_eq, Int.reduceAdd, Int.reduceSub, Int.reduceMul, Int.reduceEq, Int.reduceLT, Int.reduceLE, Int.reduceToNat, Nat.reduceMul, Nat.reduceAdd, Nat.reduceSub, ←decide_not, k1, kS, e1, hsl, hcp, e4, hla, k7, k8]
  refine image_reader_number_call (Gives.to (number_spec (h.ext0 (X7.trans F8)) hs hl hb _) fun y9 F9 => ?_)
  have B29 := (B27.ext F8 (by simp)).ext F9 (by simp)
  have f9 := fun i => B29.frozen (i := i)
  have k9 := fun i => B29.cell (i := i)
  simp (disch := (first | omega | decide | (simp only [rsD] <;> omega) | fail)) only [↓rsC, rsK, rsL, ↓rsDec1_5, tick_eq, tickV_eq, ne_eq, Int.reduceAdd, Int.reduceSub, Int.reduceMul, Int.reduceEq, Int.reduceLT, Int.reduceLE, Int.reduceToNat, Nat.reduceMul, Nat.reduceAdd, Nat.reduceSub, ←decide_not, k1, kS, e1, hsl, hcp, e4, hla, k7, k8, f9, k9]
  refine ⟨?_, ((X7.trans (F8.trans F9)).set' (.inr (by omega))).set' (.inr (by omega))⟩
  unfold nameS wat
  rw [Nat.mul_comm]
end Go.Proofs.Ytdpmidgeipibbaa
end
section
set_option linter.unusedVariables false
set_option linter.unusedSimpArgs false
set_option maxHeartbeats 4000000
namespace Go.Proofs.Ytdpmidgeipibbaa
open Go.Sh Go.RowKit

/-- bytes of their own, with no room behind them -/
def BytesC (w w' : World) (u : Value) (l : List (BitVec 8)) : Prop := Ext [] w w' ∧ ∃ a, u = .tuple #[.slice a l.length l.length, i64 0] ∧ RowAt w' a (bys l) ∧ ∀ x, a = some x → w.heap.size ≤ x.block
abbrev rsDec2_0 := (And.intro @xu8_add (And.intro @xu8_mul (And.intro @xu8_rem (And.intro @xu8_quo (And.intro @xu8_com (And.intro @xu8_shr (And.intro @xu8_lss (And.intro @xu16_add (And.intro @xu16_mul (And.intro @xu16_rem (And.intro @xu16_quo (And.intro @xu16_com (And.intro @xu16_shr (And.intro @xu16_lss (And.intro @xu32_add (And.intro @xu32_mul 
  (And.intro @xu32_rem (And.intro @xu32_quo (And.intro @xu32_com (And.intro @xu32_shr (And.intro @xu32_lss (And.intro @xu64_add (And.intro @xu64_mul (And.intro @xu64_rem (And.intro @xu64_quo (And.intro @xu64_com (And.intro @xu64_shr (And.intro @xu64_lss (And.intro @xi64_lss (And.intro @xi64_shr (And.intro @ld_28 (And.intro @ld_69 (And.intro @fa_165_0 
  (And.intro @cv_69_5 (And.intro @ia_28 (And.intro @ln_28 (And.intro @bs_70_0 @bs_70_1)))))))))))))))))))))))))))))))))))))
theorem Bytes_okC {w : World} {base g : Nat} {a : Option Addr} {c : Nat} {ws : List (BitVec 64)} (at' n : Nat) (h : MemIs w base g a c ws) (hi : at' + n ≤ 8 * ws.length) : Yld Try.prog n_mem_Mem_Bytes #[ptr g, i64 at', i64 n] w fun u w' => BytesC w w' u (bytesW ws at' n) := by
  refine mem_Mem_Bytes_of ?_
  unfold mem_Mem_Bytes
  have hl := h.len
  simp (disch := (first | omega | decide | (simp only [rsD] <;> omega) | fail)) only [↓rsC, rsK, rsL, ↓rsDec2_0, tick_eq, tickV_eq, ne_eq, Int.reduceAdd, Int.reduceSub, Int.reduceMul, Int.reduceEq, Int.reduceLT, Int.reduceLE, Int.reduceToNat, Nat.reduceMul, Nat.reduceAdd, Nat.reduceSub, ←decide_not, h.hd]
  refine mem_in_call (Gives.to (min_spec _ _ _ _ (by omega) (by omega)) fun w1 E1 => ?_)
  have z1 := E1.size
  try simp only [World.size_alloc, World.size_setCell, World.size_drew] at z1
  have hv : decide (among (at' : Int) n (ws.length * 8)) = true := decide_eq_true (by unfold among; omega)
  simp (disch := (first | omega | decide | (simp only [rsD] <;> omega) | fail)) only [↓rsC, rsK, rsL, ↓rsDec2_0, tick_eq, tickV_eq, ne_eq, Int.reduceAdd, Int.reduceSub, Int.reduceMul, Int.reduceEq, Int.reduceLT, Int.reduceLE, Int.reduceToNat, Nat.reduceMul, Nat.reduceAdd, Nat.reduceSub, ←decide_not, h.hd, hv]
  refine xLoop_r n (fun k vs w' => ∃ u, vs = [u, i64 ((at' : Int) + k)] ∧ Ext [] w w' ∧ w'.ownsRow w.heap.size 5 1 u k (bys (bytesW ws at' k))) ⟨_, by simp, E1, own_nil⟩ ?_ ?_
  · rintro k hk u v1 ⟨s, hu, F1, O1⟩ nxt hnx
    simp only [List.map_cons, List.map_nil, List.cons.injEq, and_true] at hu
    rw [hu.1, hu.2]
    have h1 := h.ext0 F1
    obtain ⟨b, o, rfl, hb, hc⟩ := h1.own.row.at (i := (at' + k) / 8) (by simp; omega)
    simp only [List.getElem_map] at hc
    have t1 : (((at' : Int) + k) / 8).toNat = (at' + k) / 8 := by omega
    have t2 : (8 * (((at' : Int) + k) % 8)).toNat = 8 * ((at' + k) % 8) := by omega
    unfold mem_Mem_Bytes_l1
    have eb : (ws[(at' + k) / 8] >>> (8 * ((at' + k) % 8))).setWidth 8 = byteW ws (at' + k) := by
      unfold byteW
      rw [List.getD_eq_getElem?_getD, List.getElem?_eq_getElem (by omega)]
      rfl
    simp (disch := (first | omega | decide | (simp only [rsD] <;> omega) | fail)) only [↓rsC, rsK, rsL, ↓rsDec2_0, tick_eq, tickV_eq, ne_eq, Int.reduceAdd, Int.reduceSub, Int.reduceMul, Int.reduceEq, Int.reduceLT, Int.reduceLE, Int.reduceToNat, Nat.reduceMul, Nat.reduceAdd, Nat.reduceSub, ←decide_not, h.hd, hv, h1.hd, t1, hc, t2, eb]
    refine xAppend_own (e := 5) (base := w.heap.size) (news := bys [byteW ws (at' + k)]) (z := .int .u8 0) (bytes := 1) (by kernel_rfl) (by kernel_rfl) (by rfl) (own_ext O1 (Ext.alloc [] v1 _)) (by rfl) (lit_row v1 [byteW ws (at' + k)]) (by simp) bys_ok (by omega) (by omega) (Nat.le_trans F1.size (Ext.alloc [] v1 _).size) ?_
    intro v' w' hown hgr
    have F2 : Ext [] w w' := grownBy_new (F1.trans (Ext.alloc [] v1 _)) hgr (fun g hg => (O1.lt g hg).1)
    simp (disch := (first | omega | decide | (simp only [rsD] <;> omega) | fail)) only [↓rsC, rsK, rsL, ↓rsDec2_0, tick_eq, tickV_eq, ne_eq, Int.reduceAdd, Int.reduceSub, Int.reduceMul, Int.reduceEq, Int.reduceLT, Int.reduceLE, Int.reduceToNat, Nat.reduceMul, Nat.reduceAdd, Nat.reduceSub, ←decide_not, h.hd, hv, h1.hd, t1, hc, t2, eb]
    refine hnx _ _ ⟨v', by simp [Int.add_assoc], F2, ?_⟩
    unfold bytesW
    rw [List.range_succ, List.map_append]
    simpa [bys, bytesW] using hown
  · rintro u v1 ⟨s, hu, F1, O1⟩ nxt
    simp only [List.map_cons, List.map_nil, List.cons.injEq, and_true] at hu
    rw [hu.1, hu.2]
    obtain ⟨a2, c2, rfl, hl2, hc2, hn2, R2⟩ := own_slice O1
    unfold mem_Mem_Bytes_l1
    simp (disch := (first | omega | decide | (simp only [rsD] <;> omega) | fail)) only [↓rsC, rsK, rsL, ↓rsDec2_0, tick_eq, tickV_eq, ne_eq, Int.reduceAdd, Int.reduceSub, Int.reduceMul, Int.reduceEq, Int.reduceLT, Int.reduceLE, Int.reduceToNat, Nat.reduceMul, Nat.reduceAdd, Nat.reduceSub, ←decide_not, h.hd, hv]
    refine slices_Clip_byte_byte_call (Gives.to (ClipB_spec hc2) fun w2 F2 => ?_)
    simp (disch := (first | omega | decide | (simp only [rsD] <;> omega) | fail)) only [↓rsC, rsK, rsL, ↓rsDec2_0, tick_eq, tickV_eq, ne_eq, Int.reduceAdd, Int.reduceSub, Int.reduceMul, Int.reduceEq, Int.reduceLT, Int.reduceLE, Int.reduceToNat, Nat.reduceMul, Nat.reduceAdd, Nat.reduceSub, ←decide_not, h.hd, hv]
    exact ⟨F1.trans F2, a2, by rw [bytesW_length], R2.ext0 F2, fun x hx => by subst hx; exact (O1.lt x.block rfl).1⟩
abbrev rsDec2_1 := (And.intro @xu8_neq (And.intro @xu16_neq (And.intro @xu32_neq (And.intro @xu64_neq (And.intro @xi64_neq (And.intro @xi64_neg (And.intro @ld_99 @fa_102_0)))))))
theorem ORead_okC {w : World} {base s g : Nat} {a : Option Addr} {c : Nat} {ws : List (BitVec 64)} {b t e o from' n : Nat} (S : SpIs w base s g a c ws b t e) (h : ObjAt ws b t o) (hn : from' + n ≤ bN (wat ws o)) : Yld Try.prog n_obj_Read #[ptr s, i64 (o : Int), i64 (from' : Int), i64 (n : Int)] w fun u w' => BytesC w w' u (bytesW ws ((o + 1 + pN (wat ws o)) * 8 + from') n) := by
  obtain ⟨v1, v2, v3, v4, v5, v6, v7, v8⟩ := okW_v h.ok
  have q1 := S.te
  have q2 := S.el
  have hhi := h.hi
  refine obj_Read_of ?_
  unfold obj_Read
  refine obj_bytes_call (Gives.to (bytes_ok S h hn) fun w1 F1 => ?_)
  have S1 := S.ext0 F1
  have k1 := fun i => S1.blk.cell (i := i)
  simp (disch := (first | omega | decide | (simp only [rsD] <;> omega) | fail)) only [↓rsC, rsK, rsL, ↓rsDec2_1, tick_eq, tickV_eq, ne_eq, Int.reduceAdd, Int.reduceSub, Int.reduceMul, Int.reduceEq, Int.reduceLT, Int.reduceLE, Int.reduceToNat, Nat.reduceMul, Nat.reduceAdd, Nat.reduceSub, ←decide_not, k1]
  refine mem_Mem_Bytes_call (Yld.mono (Bytes_okC ((o + 1 + pN (wat ws o)) * 8 + from') n S1.mem (by omega)) ?_)
  rintro u w2 ⟨F2, a2, rfl, R2, U2⟩
  have z1 := F1.size
  simp (disch := (first | omega | decide | (simp only [rsD] <;> omega) | fail)) only [↓rsC, rsK, rsL, ↓rsDec2_1, tick_eq, tickV_eq, ne_eq, Int.reduceAdd, Int.reduceSub, Int.reduceMul, Int.reduceEq, Int.reduceLT, Int.reduceLE, Int.reduceToNat, Nat.reduceMul, Nat.reduceAdd, Nat.reduceSub, ←decide_not, k1]
  exact ⟨F1.trans F2, a2, rfl, R2, fun x hx => by have := U2 x hx; omega⟩
abbrev OwnIt (w : World) (v : Value) (l : List Int) : Prop := Own w 3 1 v l.length (its l)
theorem appIt {w : World} {K : K1} {v : Value} {l : List Int} {o : Int} {g : Nat} {cs : List Value} (hO : OwnIt w v l) (hcs : cs = [i64 o]) (hl : l.length ≤ 100000)
    (hK : ∀ v' w', OwnIt w' v' (l ++ [o]) → Stp (blk v) (blk v') w w' → K v' w') (hg : g = w.heap.size := by first | rfl | (simp only [World.size_alloc, World.size_drew, World.size_setCell] <;> omega)) : xBuiltin Try.prog .append #[66, 66] 66 [false, false] [v, .slice (some ⟨g, 0, none⟩) 1 1] (w.alloc (.cells cs.toArray 3)) K := by
  subst hcs hg
  refine xAppL (bytes := 8) (z := .int .i64 0) (by kernel_rfl) (by kernel_rfl) (by rfl) (by decide) hO (by simp) (by simp [Value.oneCell']) (by omega) (by omega) fun v' w' h1 h2 => hK v' w' ?_ h2
  show Own w' 3 1 v' (l ++ [o]).length (its (l ++ [o]))
  rw [List.length_append, its, List.map_append]
  exact h1
/-- a row grows that lies behind a block -/
theorem grow {y w1 w2 : World} {hx : Nat} {v v' : Value} (F : Ext [hx] y w1) (U : ∀ z ∈ blk v, y.heap.size ≤ z) (hlt : hx < y.heap.size) (T : Stp (blk v) (blk v') w1 w2) : Ext [hx] y w2 ∧ (∀ z ∈ blk v', y.heap.size ≤ z) ∧ hx ∉ blk v ∧ hx ∉ blk v' := by
  have up : ∀ z ∈ blk v', y.heap.size ≤ z := fun z hz => by
    rcases T.at' z hz with h1 | h1
    · exact U z h1
    · have := F.size; omega
  exact ⟨F.cut T.ext (fun z hz => .inr (U z hz)), up, fun h => by have := U _ h; omega, fun h => by have := up _ h; omega⟩
/-- the node that stands at a place -/
def decP (ws : List (BitVec 64)) (os : List Nat) (o : Nat) : List Int := (List.range (pN (wat ws o))).map fun k => numb os (wat ws (o + 1 + k))
def decD (ws : List (BitVec 64)) (o : Nat) : List (BitVec 8) := bytesW ws ((o + 1 + pN (wat ws o)) * 8) (bN (wat ws o))
abbrev rsDec2_2 := (And.intro @xu8_add (And.intro @xu8_lss (And.intro @xu16_add (And.intro @xu16_lss (And.intro @xu32_add (And.intro @xu32_lss (And.intro @xu64_add (And.intro @xu64_lss (And.intro @xi64_lss (And.intro @ld_3 (And.intro @ld_42 (And.intro @ld_66 (And.intro @ld_72 (And.intro @ld_99 (And.intro @ld_132 (And.intro @lr_72 (And.intro @fa_72_0 (And.intro @fa_72_1 
  (And.intro @fa_102_0 (And.intro @fa_123_0 (And.intro @fa_123_1 (And.intro @fa_132_0 (And.intro @al_72 (And.intro @al_123 (And.intro @st_66 (And.intro @st_70 (And.intro @st_72 (And.intro @st_123 (And.intro @bs_66_0 @bs_66_1)))))))))))))))))))))))))))))
theorem rnode_spec {w : World} {base s g : Nat} {a : Option Addr} {c : Nat} {ws : List (BitVec 64)} {b t e o : Nat} {os : List Nat} {pa : Option Addr} {pc : Nat} (S : SpIs w base s g a c ws b t e) (hO : ObjAt ws b t o) (h : RowAt w pa (nums os)) (hs : os.Pairwise (· < ·)) (hl : os.length ≤ 100000) (hb : ∀ y ∈ os, y ≤ 1000000) :
    Yld Try.prog n_image_reader_node #[rdV s pa os.length pc, i64 (o : Int)] w fun u w' => Ext [] w w' ∧ ∃ x : GN, u = .agg (gnC x).toArray ∧ x.p = decP ws os o ∧ x.d = decD ws o ∧ NOk w' x ∧ (∀ y, x.pa = some y → w.heap.size ≤ y.block) ∧ ∀ y, x.da = some y → w.heap.size ≤ y.block := by
  have hwl := S.mem.len
  have hto := hO.lt
  have q1 := S.te
  have q2 := S.el
  obtain ⟨v1, v2, v3, v4, v5, v6, v7, v8⟩ := okW_v hO.ok
  have hhi := hO.hi
  refine image_reader_node_of ?_
  unfold image_reader_node
  have bx : ∀ (y : World) (K : K1), xBox Try.prog 132 (rdV s pa os.length pc) y K = K (ptr y.heap.size) (y.alloc (.cells #[ptr s, .slice pa os.length pc] 132)) := fun y K => xBox_r
  have al : ∀ (y : World) (K : K1), xAlloc Try.prog 72 y K = K (ptr y.heap.size) (y.alloc (.cells #[.slice none 0 0, .slice none 0 0] 72)) := fun y K => xAlloc_r (by kernel_rfl)
  rw [bx, al]
  have B1 : Blk (w.alloc (.cells #[ptr s, .slice pa os.length pc] 132)) w.heap.size 132 [ptr s, .slice pa os.length pc] := Blk.at rfl
  have X1 : Ext [] w (w.alloc (.cells #[ptr s, .slice pa os.length pc] 132)) := Ext.alloc _ _ _
  generalize w.alloc (.cells #[ptr s, .slice pa os.length pc] 132) = y1 at *
  have zw : w.heap.size ≤ w.heap.size := Nat.le_refl _
  generalize w.heap.size = g1 at B1 zw ⊢
  have B2 : Blk (y1.alloc (.cells #[.slice none 0 0, .slice none 0 0] 72)) y1.heap.size 72 [.slice none 0 0, .slice none 0 0] := Blk.at rfl
  have X2 : Ext [] y1 (y1.alloc (.cells #[.slice none 0 0, .slice none 0 0] 72)) := Ext.alloc _ _ _
  have z1 := B1.lt
  have z1w := X1.size
  generalize y1.alloc (.cells #[.slice none 0 0, .slice none 0 0] 72) = y2 at *
  generalize y1.heap.size = g2 at *
  have B12 := B1.ext X2 (by simp)
  have z2 := B2.lt
  have X12 := X1.trans X2
  have S2 := S.ext0 X12
  have k1 := fun i => B12.cell (i := i)
  simp (disch := (first | omega | decide | (simp only [rsD] <;> omega) | fail)) only [↓rsC, rsK, rsL, ↓rsDec2_2, tick_eq, tickV_eq, ne_eq, Int.reduceAdd, Int.reduceSub, Int.reduceMul, Int.reduceEq, Int.reduceLT, Int.reduceLE, Int.reduceToNat, Nat.reduceMul, Nat.reduceAdd, Nat.reduceSub, ←decide_not, k1]
  refine space_Space_Head_call (Gives.to (SHead_in S2 hO.lo hto) fun y3 F3 => ?_)
  rw [v1, v2, v3, v4, v5]
  have B13 := B12.ext F3 (by simp)
  have B23 := B2.ext F3 (by simp)
  have z3 := F3.size
  simp (disch := (first | omega | decide | (simp only [rsD] <;> omega) | fail)) only [↓rsC, rsK, rsL, ↓rsDec2_2, tick_eq, tickV_eq, ne_eq, Int.reduceAdd, Int.reduceSub, Int.reduceMul, Int.reduceEq, Int.reduceLT, Int.reduceLE, Int.reduceToNat, Nat.reduceMul, Nat.reduceAdd, Nat.reduceSub, ←decide_not, k1]
  simp only [size_sets, World.size_alloc]
  have Bh0 : Blk (y3.alloc (.cells #[i64 (pN (wat ws o) : Int), i64 (bN (wat ws o) : Int), .bool false, i64 0] 123)) y3.heap.size 123 [i64 (pN (wat ws o) : Int), i64 (bN (wat ws o) : Int), .bool false, i64 0] := Blk.at rfl
  have X3 : Ext [] y3 (y3.alloc (.cells #[i64 (pN (wat ws o) : Int), i64 (bN (wat ws o) : Int), .bool false, i64 0] 123)) := Ext.alloc _ _ _
  have zs4 : (y3.alloc (.cells #[i64 (pN (wat ws o) : Int), i64 (bN (wat ws o) : Int), .bool false, i64 0] 123)).heap.size = y3.heap.size + 1 := World.size_alloc _ _
  generalize y3.alloc (.cells #[i64 (pN (wat ws o) : Int), i64 (bN (wat ws o) : Int), .bool false, i64 0] 123) = y4 at *
  have Bx0 : Blk (y4.alloc (.cells #[.slice none 0 0, .slice none 0 0] 72)) (y3.heap.size + 1) 72 [.slice none 0 0, .slice none 0 0] := Blk.at zs4.symm
  have X4 : Ext [] y4 (y4.alloc (.cells #[.slice none 0 0, .slice none 0 0] 72)) := Ext.alloc _ _ _
  have zs5 : (y4.alloc (.cells #[.slice none 0 0, .slice none 0 0] 72)).heap.size = y3.heap.size + 1 + 1 := by rw [World.size_alloc, zs4]
  generalize y4.alloc (.cells #[.slice none 0 0, .slice none 0 0] 72) = y at *
  have Bh := Bh0.ext X4 (by simp)
  have Xy : Ext [] w y := X12.trans (F3.trans (X3.trans X4))
  have B14 := B13.ext (X3.trans X4) (by simp)
  have B24 := B23.ext (X3.trans X4) (by simp)
  generalize hhx : y3.heap.size + 1 = hx at *
  have hlt : hx < y.heap.size := by omega
  have g12 := B13.lt
  have g23 := B23.lt
  generalize y3.heap.size = gh at *
  have fresh : ∀ {w' : World}, Ext [hx] y w' → Ext [] w w' := fun F => Xy.new F (fun z hz => by simp only [List.mem_singleton] at hz; have := F3.size; omega)
  have ne1 : g1 ∉ [hx] := by simp only [List.mem_singleton]; omega
  have ne2 : g2 ∉ [hx] := by simp only [List.mem_singleton]; omega
  have neh : gh ∉ [hx] := by simp only [List.mem_singleton]; omega
  have nilb : ∀ z, z ∉ blk (.slice none 0 0) := by simp [blk, Value.ownBlock]
  have hpl : (decP ws os o).length = pN (wat ws o) := by simp [decP]
  refine xLoop_n (pN (wat ws o)) (fun j => [i64 (j : Int)]) (fun j w' => Ext [hx] y w' ∧ ∃ v, OwnIt w' v ((decP ws os o).take j) ∧ Blk w' hx 72 [v, .slice none 0 0] ∧ ∀ z ∈ blk v, y.heap.size ≤ z) rfl ⟨Ext.refl _ _, _, Own.nil, Bx0, fun z hz => absurd hz (nilb z)⟩ ?_ ?_
  · rintro j hj u x1 hu ⟨F, v, O, B, U⟩ nxt hnx
    simp only [List.map_cons, List.map_nil, List.cons.injEq, and_true] at hu
    rw [hu]
    have Sx := S.ext0 (fresh F)
    have kr := fun i => (B14.ext F ne1).cell (i := i)
    have kS := fun i => Sx.blk.cell (i := i)
    obtain ⟨a0, c0, hv0, _⟩ := O.slice
    subst hv0
    unfold image_reader_node_l1
    have ei : (o : Int) + 1 + (j : Int) = ((o + 1 + j : Nat) : Int) := by omega
    simp (disch := (first | omega | decide | (simp only [rsD] <;> omega) | fail)) only [↓rsC, rsK, rsL, ↓rsDec2_2, tick_eq, tickV_eq, ne_eq, Int.reduceAdd, Int.reduceSub, Int.reduceMul, Int.reduceEq, Int.reduceLT, Int.reduceLE, Int.reduceToNat, Nat.reduceMul, Nat.reduceAdd, Nat.reduceSub, ←decide_not, k1, kr, kS, ei]
    have hget : Gives Try.prog n_mem_Mem_Get #[ptr g, i64 ((o + 1 + j : Nat) : Int)] x1 (.tuple #[u64 (wat ws (o + 1 + j)), i64 0]) := Get_ok (o + 1 + j) Sx.mem (by omega)
    refine mem_Mem_Get_call (Gives.to hget fun x2 E2 => ?_)
    have E3 := E2.trans (Ext.drew [] x2)
    have kr3 := fun i => ((B14.ext F ne1).ext E3 (by simp)).cell (i := i)
    have kb3 := fun i => (B.ext E3 (by simp)).cell (i := i)
    simp (disch := (first | omega | decide | (simp only [rsD] <;> omega) | fail)) only [↓rsC, rsK, rsL, ↓rsDec2_2, tick_eq, tickV_eq, ne_eq, Int.reduceAdd, Int.reduceSub, Int.reduceMul, Int.reduceEq, Int.reduceLT, Int.reduceLE, Int.reduceToNat, Nat.reduceMul, Nat.reduceAdd, Nat.reduceSub, ←decide_not, k1, kr, kS, ei, kr3, kb3]
    refine image_reader_number_call (Gives.to (number_spec (h.ext0 ((fresh F).trans E3)) hs hl hb _) fun x4 E4 => ?_)
    have F4 := (F.trans (E3.more (by simp))).trans (E4.more (by simp))
    have B4 := (B.ext E3 (by simp)).ext E4 (by simp)
    have O4 := (O.ext0 E3).ext0 E4
    have kb4 := fun i => B4.cell (i := i)
    have zb4 := B4.lt
    simp (disch := (first | omega | decide | (simp only [rsD] <;> omega) | fail)) only [↓rsC, rsK, rsL, ↓rsDec2_2, tick_eq, tickV_eq, ne_eq, Int.reduceAdd, Int.reduceSub, Int.reduceMul, Int.reduceEq, Int.reduceLT, Int.reduceLE, Int.reduceToNat, Nat.reduceMul, Nat.reduceAdd, Nat.reduceSub, ←decide_not, k1, kr, kS, ei, kr3, kb3, kb4]
    refine appIt O4 rfl (by simp; omega) fun v' x5 O5 T5 => ?_
    obtain ⟨F5, U5, n1, n2⟩ := grow F4 U hlt T5
    have B5 := B4.ext T5.ext n1
    obtain ⟨a3, c3, hv3, _⟩ := O5.slice
    have k5 := fun i => B5.cell (i := i)
    have f5 := fun i => B5.frozen (i := i)
    subst hv3
    simp (disch := (first | omega | decide | (simp only [rsD] <;> omega) | fail)) only [↓rsC, rsK, rsL, ↓rsDec2_2, tick_eq, tickV_eq, ne_eq, Int.reduceAdd, Int.reduceSub, Int.reduceMul, Int.reduceEq, Int.reduceLT, Int.reduceLE, Int.reduceToNat, Nat.reduceMul, Nat.reduceAdd, Nat.reduceSub, ←decide_not, k1, kr, kS, ei, kr3, kb3, kb4, k5, f5]
    have B6 := B5.set (i := 0) (v := .slice a3 ((decP ws os o).take j ++ [numb os (wat ws (o + 1 + j))]).length c3)
    have O6 := O5.ext (Ext.set (w := x5) (b := hx) (o := 0) (v := .slice a3 ((decP ws os o).take j ++ [numb os (wat ws (o + 1 + j))]).length c3)) (fun z hz hm => by simp only [List.mem_singleton] at hm; subst hm; exact n2 hz)
    have hsu : (decP ws os o).take (j + 1) = (decP ws os o).take j ++ [numb os (wat ws (o + 1 + j))] := by
      rw [List.take_add_one, List.getElem?_eq_getElem (by omega)]
      simp [decP]
    rw [← hsu] at O6 B6 U5 ⊢
    exact hnx _ ⟨F5.set' (.inl (by simp)), _, O6, B6, U5⟩
  · rintro u x1 hu ⟨F, v, O, B, U⟩ nxt
    simp only [List.map_cons, List.map_nil, List.cons.injEq, and_true] at hu
    rw [hu]
    have etk : (decP ws os o).take (pN (wat ws o)) = decP ws os o := by rw [← hpl, List.take_length]
    rw [etk] at O
    have Sx := S.ext0 (fresh F)
    have kr := fun i => (B14.ext F ne1).cell (i := i)
    have kh := fun i => (Bh.ext F neh).cell (i := i)
    obtain ⟨a0, c0, hv0, hc0, _, hn0, R0, _⟩ := O.slice
    subst hv0
    unfold image_reader_node_l1
    simp (disch := (first | omega | decide | (simp only [rsD] <;> omega) | fail)) only [↓rsC, rsK, rsL, ↓rsDec2_2, tick_eq, tickV_eq, ne_eq, Int.reduceAdd, Int.reduceSub, Int.reduceMul, Int.reduceEq, Int.reduceLT, Int.reduceLE, Int.reduceToNat, Nat.reduceMul, Nat.reduceAdd, Nat.reduceSub, ←decide_not, k1, kr, kh]
    have hrd := ORead_okC (from' := 0) (n := bN (wat ws o)) Sx hO (by omega)
    refine obj_Read_call (Yld.mono hrd ?_)
    rintro u x2 ⟨F2, a2, rfl, R2, U2⟩
    rw [bytesW_length]
    have B2 := B.ext F2 (by simp)
    have k2 := fun i => B2.cell (i := i)
    have f2 := fun i => B2.frozen (i := i)
    have O2 := O.ext0 F2
    simp (disch := (first | omega | decide | (simp only [rsD] <;> omega) | fail)) only [↓rsC, rsK, rsL, ↓rsDec2_2, tick_eq, tickV_eq, ne_eq, Int.reduceAdd, Int.reduceSub, Int.reduceMul, Int.reduceEq, Int.reduceLT, Int.reduceLE, Int.reduceToNat, Nat.reduceMul, Nat.reduceAdd, Nat.reduceSub, ←decide_not, k1, kr, kh, k2, f2]
    refine slices_Clip_int_int_call (Gives.to (ClipI_spec hc0) fun x3 F3' => ?_)
    have Fs : Ext [hx] x2 (x2.setCell ⟨hx, 1, none⟩ (.slice a2 (bN (wat ws o)) (bN (wat ws o)))) := Ext.set
    have B3 := (B2.set (i := 1) (v := .slice a2 (bN (wat ws o)) (bN (wat ws o)))).ext F3' (by simp)
    have F3x := ((F.trans (F2.more (by simp))).trans Fs).trans (F3'.more (by simp))
    have k3 := fun i => B3.cell (i := i)
    have f3 := fun i => B3.frozen (i := i)
    have B24x := B24.ext F3x ne2
    have k24 := fun i => B24x.cell (i := i)
    have f24 := fun i => B24x.frozen (i := i)
    have Rp := ((R0.ext0 F2).ext Fs (fun b o hb hm => by
      simp only [List.mem_singleton] at hm
      have := U b (by subst hb; simp [blk, Value.ownBlock])
      omega)).ext0 F3'
    have Rd := (R2.ext Fs (fun b o hb hm => by
      simp only [List.mem_singleton] at hm
      have := U2 _ hb
      have := F.size
      simp only at *
      omega)).ext0 F3'
    have g2x : g2 ≠ hx := by omega
    simp (disch := (first | omega | decide | (simp only [rsD] <;> omega) | fail)) only [↓rsC, rsK, rsL, ↓rsDec2_2, tick_eq, tickV_eq, ne_eq, Int.reduceAdd, Int.reduceSub, Int.reduceMul, Int.reduceEq, Int.reduceLT, Int.reduceLE, Int.reduceToNat, Nat.reduceMul, Nat.reduceAdd, Nat.reduceSub, ←decide_not, k1, kr, kh, k2, f2, k3, f3, k24, f24, g2x]
    have zF := F.size
    have nda : ∀ b o, a2 = some ⟨b, o, none⟩ → b ∉ [hx, g2] := fun b o hb hm => by
      have := U2 _ hb
      simp only [List.mem_cons, List.not_mem_nil, or_false] at hm
      simp only at this
      omega
    have npa : ∀ b o, a0 = some ⟨b, o, none⟩ → b ∉ [hx, g2] := fun b o hb hm => by
      have := U b (by subst hb; simp [blk, Value.ownBlock])
      simp only [List.mem_cons, List.not_mem_nil, or_false] at hm
      omega
    have FE : Ext [hx, g2] x3 (((x3.setCell ⟨hx, 0, none⟩ (.slice a0 (decP ws os o).length (decP ws os o).length)).setCell ⟨g2, 0, none⟩ (.slice a0 (decP ws os o).length (decP ws os o).length)).setCell ⟨g2, 1, none⟩ (.slice a2 (bN (wat ws o)) (bN (wat ws o)))) := (((Ext.refl _ _).set' (.inl (by simp))).set' (.inl (by simp))).set' (.inl (by simp))
    refine ⟨(((fresh F3x).set' (.inr (by have := F3.size; omega))).set' (.inr (by omega))).set' (.inr (by omega)), ⟨decP ws os o, a0, (decP ws os o).length, decD ws o, a2, bN (wat ws o)⟩, ?_, rfl, rfl, ?_, fun y' hy' => ?_, fun y' hy' => ?_⟩
    · have : (decD ws o).length = bN (wat ws o) := bytesW_length
      simp only [gnC, this]
    · have hd : (decD ws o).length = bN (wat ws o) := bytesW_length
      refine ⟨Rp.ext FE npa, Nat.le_refl _, fun e => ?_, Rd.ext FE nda, by rw [hd]; exact Nat.le_refl _, fun e => ?_⟩
      · have := hn0 e; simp only; omega
      · rcases Rd with h | ⟨b, o, h, _⟩
        · have := congrArg List.length h
          simp only [List.length_map, bytesW_length, List.length_nil] at this
          exact this
        · simp only at e; rw [e] at h; cases h
    · have := U y'.block (by simp only at hy'; rw [hy']; simp [blk, Value.ownBlock])
      have := Xy.size
      omega
    · have := U2 y' hy'
      have := Xy.size
      omega
end Go.Proofs.Ytdpmidgeipibbaa
end
section
set_option linter.unusedVariables false
set_option linter.unusedSimpArgs false
set_option maxHeartbeats 4000000
namespace Go.Proofs.Ytdpmidgeipibbaa
open Go.Sh Go.RowKit

theorem lowN_get {os : List Nat} (hs : os.Pairwise (· < ·)) {i : Nat} (hi : i < os.length) : lowN os os[i] = i := by
  have hinc : ∀ i j (hi : i < os.length) (hj : j < os.length), i < j → os[i] < os[j] := fun i j hi hj hij => List.pairwise_iff_getElem.1 hs i j hi hj hij
  refine lowN_at (Nat.le_of_lt hi) (fun k hk h => hinc k i hk hi h) fun k hk h => ?_
  by_cases e : i = k
  · subst e; exact Nat.le_refl _
  · exact Nat.le_of_lt (hinc i k hi hk (by omega))
theorem numb_ptW {os : List Nat} (hs : os.Pairwise (· < ·)) (hb : ∀ y ∈ os, y < 8192) {to : Int} (h0 : 0 ≤ to) (h1 : to ≤ os.length) : numb os (ptW os to) = to := by
  unfold ptW
  by_cases h : to = 0
  · rw [if_pos h]
    unfold numb
    rw [if_pos (.inl rfl), h]
  · rw [if_neg h]
    have hj : to.toNat - 1 < os.length := by omega
    have hb' := hb _ (List.getElem_mem hj)
    rw [List.getD_eq_getElem?_getD, List.getElem?_eq_getElem hj, Option.getD_some]
    have e : (BitVec.ofNat 64 (os[to.toNat - 1] + 1)).toNat = os[to.toNat - 1] + 1 := by rw [BitVec.toNat_ofNat]; omega
    unfold numb
    rw [e, if_neg (by omega), Nat.add_sub_cancel, if_pos (List.getElem_mem hj), lowN_get hs hj]
    omega
theorem Sc.sum {x : Nat → BitVec 64} {t o : Nat} {l : List Nat} (h : Sc x t o l none) : (∀ j (hj : j < l.length), l[j] = o + ((l.take j).map fun p => szW (x p)).sum) ∧ o + (l.map fun p => szW (x p)).sum = t := by
  generalize hb : (none : Option Nat) = b at h
  induction h with
  | done => exact ⟨fun j hj => by simp at hj, by simp⟩
  | bad => cases hb
  | @step o l b h1 h2 h3 ih =>
    obtain ⟨i1, i2⟩ := ih hb
    refine ⟨fun j hj => ?_, by simp only [List.map_cons, List.sum_cons]; omega⟩
    cases j with
    | zero => simp
    | succ j =>
      simp only [List.getElem_cons_succ, List.take_succ_cons, List.map_cons, List.sum_cons]
      rw [i1 j (by simpa using hj)]
      omega
/-! the graph that words are read as -/
def bare (x : GN) : GN := ⟨x.p, none, 0, x.d, none, 0⟩
def decN (l : List (BitVec 64)) (os : List Nat) (o : Nat) : GN := ⟨decP l os o, none, 0, decD l o, none, 0⟩
def decNs (l : List (BitVec 64)) (os : List Nat) : List GN := os.map (decN l os)
def decRs (l : List (BitVec 64)) (os : List Nat) : List GR := (List.range (nR l)).map fun i => ⟨nameS l (2 + 5 * i), numb os (wat l (2 + 5 * i + 4))⟩
theorem decNs_get {l : List (BitVec 64)} {os : List Nat} {j : Nat} (h : j < (decNs l os).length) : (decNs l os)[j] = decN l os (os[j]'(by simpa [decNs] using h)) := by simp [decNs]
theorem decRs_get {l : List (BitVec 64)} {os : List Nat} {j : Nat} (h : j < (decRs l os).length) : (decRs l os)[j] = ⟨nameS l (2 + 5 * j), numb os (wat l (2 + 5 * j + 4))⟩ := by simp [decRs]
theorem decNs_len {l : List (BitVec 64)} {os : List Nat} : (decNs l os).length = os.length := by simp [decNs]
theorem decRs_len {l : List (BitVec 64)} {os : List Nat} : (decRs l os).length = nR l := by simp [decRs]
structure DecOk (l : List (BitVec 64)) (os : List Nat) : Prop where
  two : 2 ≤ l.length
  room : 2 + 5 * nR l ≤ l.length
  sc : Sc (wat l) l.length (2 + 5 * nR l) os none
  good : GoodG (decNs l os) (decRs l os)
  enc : encW (decNs l os) (decRs l os) = l
theorem bare_gW (ns : List GN) : gW (ns.map bare) = gW ns := by
  unfold gW
  rw [List.map_map]
  rfl
theorem bare_plL (ns : List GN) (R j : Nat) : plL (ns.map bare) R j = plL ns R j := by
  unfold plL
  refine List.map_congr_left fun i _ => ?_
  rw [← List.map_take, bare_gW]
theorem bare_enc (ns : List GN) (rs : List GR) : encW (ns.map bare) rs = encW ns rs := by
  unfold encW
  rw [bare_gW, List.length_map, bare_plL, List.flatMap_map]
  rfl
theorem bare_good {ns : List GN} {rs : List GR} : GoodG (ns.map bare) rs ↔ GoodG ns rs := by
  constructor
  · intro h
    refine ⟨fun x hx => ?_, h.r, fun r hr => ?_, h.o⟩
    · have := h.x (bare x) (List.mem_map.2 ⟨x, hx, rfl⟩)
      rw [List.length_map] at this
      exact this
    · have := h.s r hr
      rw [List.length_map] at this
      exact this
  · intro h
    refine ⟨fun x hx => ?_, h.r, fun r hr => ?_, h.o⟩
    · obtain ⟨y, hy, rfl⟩ := List.mem_map.1 hx
      have := h.x y hy
      rw [List.length_map]
      exact this
    · have := h.s r hr
      rw [List.length_map]
      exact this
section
variable {ns : List GN} {rs : List GR} (hg : GoodG ns rs) (hN : 2 + 5 * rs.length + gW ns ≤ 8192)
include hg hN
theorem pl_sorted : (plE ns rs).Pairwise (· < ·) ∧ ∀ y ∈ plE ns rs, y < 8192 := by
  have h := (enc_sc hg).all
  have hl := enc_len hg
  refine ⟨h.1, fun y hy => ?_⟩
  have := (h.2 y hy).2.2
  have := szW_pos (x := wat (encW ns rs) y)
  omega
/-- a graph's words are read as that graph -/
theorem dec_enc : decNs (encW ns rs) (plE ns rs) = ns.map bare ∧ decRs (encW ns rs) (plE ns rs) = rs := by
  obtain ⟨hs, hb⟩ := pl_sorted hg hN
  have hpl : (plE ns rs).length = ns.length := plL_len _ _ _
  constructor
  · refine List.ext_getElem (by simp [decNs, hpl]) fun j h1 h2 => ?_
    have hj : j < ns.length := by simpa using h2
    have e1 : (plE ns rs)[j]'(by omega) = plc ns rs j := by
      have := pl_get (ns := ns) (rs := rs) hj
      rw [List.getElem?_eq_getElem (by omega)] at this
      exact Option.some.inj this
    rw [decNs_get, List.getElem_map, e1]
    obtain ⟨q1, q2, q3, q4⟩ := enc_sz hg hj
    unfold decN bare decP decD
    rw [q3, q4]
    have ep : (List.range ns[j].p.length).map (fun k => numb (plE ns rs) (wat (encW ns rs) (plc ns rs j + 1 + k))) = ns[j].p := by
      refine List.ext_getElem (by simp) fun k h3 h4 => ?_
      rw [List.getElem_map, List.getElem_range, enc_ptr hg hj h4]
      have hx := (hg.x _ (List.getElem_mem hj)).1 _ (List.getElem_mem h4)
      exact numb_ptW hs hb hx.1 (by rw [hpl]; exact hx.2)
    have ed : bytesW (encW ns rs) ((plc ns rs j + 1 + ns[j].p.length) * 8) ns[j].d.length = ns[j].d := by
      refine List.ext_getElem bytesW_length fun k h3 h4 => ?_
      have e2 : ∀ h : k < (bytesW (encW ns rs) ((plc ns rs j + 1 + ns[j].p.length) * 8) ns[j].d.length).length, (bytesW (encW ns rs) ((plc ns rs j + 1 + ns[j].p.length) * 8) ns[j].d.length)[k]'h = byteW (encW ns rs) ((plc ns rs j + 1 + ns[j].p.length) * 8 + k) := fun h => by simp [bytesW]
      rw [e2]
      have e3 := enc_dat hg hj (k := k / 8) (by omega)
      unfold wat at e3
      unfold byteW
      rw [show ((plc ns rs j + 1 + ns[j].p.length) * 8 + k) / 8 = plc ns rs j + 1 + ns[j].p.length + k / 8 by omega, show ((plc ns rs j + 1 + ns[j].p.length) * 8 + k) % 8 = k % 8 by omega, e3, wordV_byte _ _ _ (by omega), show 8 * (k / 8) + k % 8 = k by omega, List.getD_eq_getElem?_getD, List.getElem?_eq_getElem h4]
      rfl
    rw [ep, ed]
  · have hnR := (enc_ok hg hN).2.1
    refine List.ext_getElem (by rw [decRs_len, hnR]) fun i h1 h2 => ?_
    rw [decRs_get, (enc_nm hg h2).1, enc_rt hg h2]
    have hx := (hg.s _ (List.getElem_mem h2)).2
    rw [numb_ptW hs hb hx.1 (by rw [hpl]; exact hx.2)]
theorem dec_ok : DecOk (encW ns rs) (plE ns rs) := by
  obtain ⟨e1, e2⟩ := dec_enc hg hN
  have hl := enc_len hg
  have hk := enc_ok hg hN
  have hsc := enc_sc hg
  rw [← hk.2.1] at hsc
  refine ⟨by omega, by rw [hk.2.1]; omega, hsc, ?_, ?_⟩
  · rw [e1, e2]; exact bare_good.2 hg
  · rw [e1, e2, bare_enc]
end
end Go.Proofs.Ytdpmidgeipibbaa
end
section
set_option linter.unusedVariables false
set_option linter.unusedSimpArgs false
set_option maxHeartbeats 4000000
namespace Go.Proofs.Ytdpmidgeipibbaa
open Go.Sh Go.RowKit

theorem nodup_len : ∀ (n : Nat) (l : List Int), l.Nodup → (∀ p ∈ l, okNo n p) → l.length ≤ n
  | 0, l, _, h => by
    cases l with
    | nil => simp
    | cons p l => have := h p (List.mem_cons_self ..); omega
  | n + 1, l, hd, h => by
    have h2 := nodup_len n (l.erase ((n : Int) + 1)) (hd.erase _) fun p hp => by
      have h3 := (hd.mem_erase_iff).1 hp
      have := h p h3.2
      have := h3.1
      omega
    by_cases hm : ((n : Int) + 1) ∈ l
    · rw [List.length_erase_of_mem hm] at h2
      omega
    · rw [List.erase_of_not_mem hm] at h2
      omega
def addN (n : Nat) (out : List Int) (p : Int) : List Int := if okNo n p ∧ p ∉ out then out ++ [p] else out
def addL (n : Nat) (out : List Int) (ps : List Int) : List Int := ps.foldl (addN n) out
def ptrsOf (ns : List GN) (q : Int) : List Int := match ns[q.toNat - 1]? with
  | some x => x.p
  | none => []
def dataOf (ns : List GN) (q : Int) : List (BitVec 8) := match ns[q.toNat - 1]? with
  | some x => x.d
  | none => []
def bfs (ns : List GN) : Nat → Nat → List Int → List Int
  | 0, _, out => out
  | f + 1, i, out => match out[i]? with
    | none => out
    | some q => bfs ns f (i + 1) (addL ns.length out (ptrsOf ns q))
def ordV (ns : List GN) (fr : List Int) : List Int := bfs ns (ns.length + 1) 0 (addL ns.length [] fr)
def noV (ord : List Int) (p : Int) : Int := if p ∈ ord then (ord.idxOf p : Int) + 1 else 0
def canN (ns : List GN) (ord : List Int) (q : Int) : GN := ⟨(ptrsOf ns q).map (noV ord), none, 0, dataOf ns q, none, 0⟩
def canNs (ns : List GN) (rs : List GR) : List GN := (ordV ns (rs.map GR.to)).map (canN ns (ordV ns (rs.map GR.to)))
def canRs (ns : List GN) (rs : List GR) : List GR := rs.map fun r => ⟨r.s, noV (ordV ns (rs.map GR.to)) r.to⟩
/-- numbers of nodes, none twice -/
structure OutOk (n : Nat) (out : List Int) : Prop where
  nd : out.Nodup
  ok : ∀ p ∈ out, okNo n p
theorem OutOk.len {n : Nat} {out : List Int} (h : OutOk n out) : out.length ≤ n := nodup_len n out h.nd h.ok
theorem OutOk.nil {n : Nat} : OutOk n [] := ⟨List.nodup_nil, by simp⟩
theorem OutOk.add {n : Nat} {out : List Int} (h : OutOk n out) (p : Int) : OutOk n (addN n out p) := by
  unfold addN
  split
  · rename_i hp
    refine ⟨?_, fun q hq => ?_⟩
    · rw [List.nodup_append]
      refine ⟨h.nd, by simp, fun a ha b hb => ?_⟩
      rw [List.mem_singleton] at hb
      subst hb
      intro e
      subst e
      exact hp.2 ha
    · rcases List.mem_append.1 hq with hq | hq
      · exact h.ok q hq
      · rw [List.mem_singleton] at hq
        subst hq
        exact hp.1
  · exact h
theorem OutOk.addL {n : Nat} : ∀ (ps : List Int) {out : List Int}, OutOk n out → OutOk n (addL n out ps)
  | [], _, h => h
  | p :: ps, _, h => OutOk.addL ps (h.add p)
theorem bfs_ok {ns : List GN} : ∀ (f i : Nat) {out : List Int}, OutOk ns.length out → OutOk ns.length (bfs ns f i out)
  | 0, _, _, h => h
  | f + 1, i, out, h => by
    rw [bfs]
    split
    · exact h
    · exact bfs_ok f (i + 1) (OutOk.addL _ h)
theorem ord_ok (ns : List GN) (fr : List Int) : OutOk ns.length (ordV ns fr) := bfs_ok _ _ (OutOk.addL _ OutOk.nil)
theorem bfs_end {ns : List GN} {out : List Int} {i : Nat} (h : out.length ≤ i) : ∀ f, bfs ns f i out = out
  | 0 => rfl
  | f + 1 => by rw [bfs, List.getElem?_eq_none h]
theorem bfs_step {ns : List GN} {out : List Int} {i f : Nat} (h : i < out.length) : bfs ns (f + 1) i out = bfs ns f (i + 1) (addL ns.length out (ptrsOf ns out[i])) := by
  rw [bfs, List.getElem?_eq_getElem h]
theorem bfs_fuel {ns : List GN} : ∀ (f f' i : Nat) {out : List Int}, OutOk ns.length out → ns.length < i + f → ns.length < i + f' → bfs ns f i out = bfs ns f' i out
  | 0, f', i, out, h, h1, _ => by have := h.len; rw [bfs_end (by omega), bfs_end (by omega)]
  | f + 1, 0, i, out, h, _, h2 => by have := h.len; rw [bfs_end (by omega), bfs_end (by omega)]
  | f + 1, f' + 1, i, out, h, h1, h2 => by
    by_cases hi : i < out.length
    · rw [bfs_step hi, bfs_step hi]
      exact bfs_fuel f f' (i + 1) (OutOk.addL _ h) (by omega) (by omega)
    · rw [bfs_end (by omega), bfs_end (by omega)]
/-! a graph in other numbers -/
structure Iso (ns ns' : List GN) (D : Int → Prop) (φ : Int → Int) : Prop where
  inj : ∀ p q, D p → D q → φ p = φ q → p = q
  ok : ∀ p, D p → okNo ns.length p ∧ okNo ns'.length (φ p)
  node : ∀ q, D q → ptrsOf ns' (φ q) = (ptrsOf ns q).map φ ∧ dataOf ns' (φ q) = dataOf ns q
  clos : ∀ q, D q → ∀ p ∈ ptrsOf ns q, D p ∨ (¬ okNo ns.length p ∧ ¬ okNo ns'.length (φ p))
section
variable {ns ns' : List GN} {D : Int → Prop} {φ : Int → Int} (I : Iso ns ns' D φ)
include I
theorem iso_mem {out : List Int} (ho : ∀ q ∈ out, D q) {p : Int} (hp : D p) : φ p ∈ out.map φ ↔ p ∈ out := by
  constructor
  · intro h
    obtain ⟨q, hq, e⟩ := List.mem_map.1 h
    rw [← I.inj q p (ho q hq) hp e]
    exact hq
  · intro h
    exact List.mem_map.2 ⟨p, h, rfl⟩
theorem iso_add {out : List Int} (ho : ∀ q ∈ out, D q) {p : Int} (hp : D p ∨ (¬ okNo ns.length p ∧ ¬ okNo ns'.length (φ p))) : addN ns'.length (out.map φ) (φ p) = (addN ns.length out p).map φ ∧ ∀ q ∈ addN ns.length out p, D q := by
  unfold addN
  rcases hp with hp | hp
  · obtain ⟨h1, h2⟩ := I.ok p hp
    have h3 := iso_mem I ho hp
    by_cases hm : p ∈ out
    · rw [if_neg (fun h => h.2 (h3.2 hm)), if_neg (fun h => h.2 hm)]
      exact ⟨rfl, ho⟩
    · rw [if_pos ⟨h2, fun h => hm (h3.1 h)⟩, if_pos ⟨h1, hm⟩]
      refine ⟨by simp, fun q hq => ?_⟩
      rcases List.mem_append.1 hq with hq | hq
      · exact ho q hq
      · rw [List.mem_singleton] at hq
        subst hq
        exact hp
  · rw [if_neg (fun h => hp.2 h.1), if_neg (fun h => hp.1 h.1)]
    exact ⟨rfl, ho⟩
theorem iso_addL : ∀ (ps : List Int) {out : List Int}, (∀ q ∈ out, D q) → (∀ p ∈ ps, D p ∨ (¬ okNo ns.length p ∧ ¬ okNo ns'.length (φ p))) → addL ns'.length (out.map φ) (ps.map φ) = (addL ns.length out ps).map φ ∧ ∀ q ∈ addL ns.length out ps, D q
  | [], _, ho, _ => ⟨rfl, ho⟩
  | p :: ps, out, ho, hp => by
    obtain ⟨h1, h2⟩ := iso_add I ho (hp p (List.mem_cons_self ..))
    have h3 := iso_addL ps h2 fun q hq => hp q (List.mem_cons_of_mem _ hq)
    unfold addL at h3 ⊢
    rw [List.map_cons, List.foldl_cons, List.foldl_cons, h1]
    exact h3
theorem iso_bfs : ∀ (f i : Nat) {out : List Int}, (∀ q ∈ out, D q) → bfs ns' f i (out.map φ) = (bfs ns f i out).map φ ∧ ∀ q ∈ bfs ns f i out, D q
  | 0, _, _, ho => ⟨rfl, ho⟩
  | f + 1, i, out, ho => by
    by_cases hi : i < out.length
    · rw [bfs_step (by simpa using hi), bfs_step hi, List.getElem_map]
      have hq := ho _ (List.getElem_mem hi)
      rw [(I.node _ hq).1]
      obtain ⟨h1, h2⟩ := iso_addL I _ ho (I.clos _ hq)
      rw [h1]
      exact iso_bfs f (i + 1) h2
    · rw [bfs_end (by simp; omega), bfs_end (by omega)]
      exact ⟨rfl, ho⟩
theorem iso_idx : ∀ (l : List Int) (p : Int), (∀ q ∈ l, D q) → D p → (l.map φ).idxOf (φ p) = l.idxOf p
  | [], _, _, _ => rfl
  | q :: l, p, hl, hp => by
    rw [List.map_cons, List.idxOf_cons, List.idxOf_cons]
    have hq := hl q (List.mem_cons_self ..)
    by_cases e : q = p
    · subst e
      simp
    · have e2 : ¬ φ q = φ p := fun h => e (I.inj q p hq hp h)
      have b1 : (q == p) = false := by simpa using e
      have b2 : (φ q == φ p) = false := by simpa using e2
      rw [b1, b2, cond_false, cond_false, iso_idx l p (fun x hx => hl x (List.mem_cons_of_mem _ hx)) hp]
theorem iso_no {ord : List Int} (ho : ∀ q ∈ ord, D q) {p : Int} (hp : D p ∨ (¬ okNo ns.length p ∧ ¬ okNo ns'.length (φ p))) : noV (ord.map φ) (φ p) = noV ord p := by
  unfold noV
  rcases hp with hp | hp
  · have h3 := iso_mem I ho hp
    by_cases hm : p ∈ ord
    · rw [if_pos (h3.2 hm), if_pos hm, iso_idx I ord p ho hp]
    · rw [if_neg (fun h => hm (h3.1 h)), if_neg hm]
  · rw [if_neg (fun h => ?_), if_neg (fun h => hp.1 (I.ok p (ho p h)).1)]
    obtain ⟨q, hq, e⟩ := List.mem_map.1 h
    rw [← e] at hp
    exact hp.2 (I.ok q (ho q hq)).2
theorem iso_ord {fr : List Int} (hf : ∀ p ∈ fr, D p ∨ (¬ okNo ns.length p ∧ ¬ okNo ns'.length (φ p))) : ordV ns' (fr.map φ) = (ordV ns fr).map φ ∧ ∀ q ∈ ordV ns fr, D q := by
  obtain ⟨h1, h2⟩ := iso_addL I fr (out := []) (by simp) hf
  rw [List.map_nil] at h1
  have o1 : OutOk ns.length (addL ns.length [] fr) := OutOk.addL _ OutOk.nil
  have o2 : OutOk ns'.length (addL ns'.length [] (fr.map φ)) := OutOk.addL _ OutOk.nil
  obtain ⟨h3, _⟩ := iso_bfs I (ns'.length + ns.length + 1) 0 h2
  unfold ordV
  rw [bfs_fuel (ns'.length + 1) (ns'.length + ns.length + 1) 0 o2 (by omega) (by omega), h1, h3, bfs_fuel (ns'.length + ns.length + 1) (ns.length + 1) 0 o1 (by omega) (by omega)]
  exact ⟨rfl, (iso_bfs I _ 0 h2).2⟩
theorem iso_can {rs rs' : List GR} (hr : rs' = rs.map fun r => ⟨r.s, φ r.to⟩) (hf : ∀ r ∈ rs, D r.to ∨ (¬ okNo ns.length r.to ∧ ¬ okNo ns'.length (φ r.to))) : canNs ns' rs' = canNs ns rs ∧ canRs ns' rs' = canRs ns rs := by
  have e : rs'.map GR.to = (rs.map GR.to).map φ := by rw [hr, List.map_map, List.map_map]; rfl
  obtain ⟨h1, h2⟩ := iso_ord I (fr := rs.map GR.to) (fun p hp => by
    obtain ⟨r, hr', rfl⟩ := List.mem_map.1 hp
    exact hf r hr')
  unfold canNs canRs
  rw [e, h1]
  constructor
  · rw [List.map_map]
    refine List.map_congr_left fun q hq => ?_
    have hD := h2 q hq
    show canN ns' _ (φ q) = canN ns _ q
    unfold canN
    rw [(I.node q hD).1, (I.node q hD).2, List.map_map]
    congr 1
    refine List.map_congr_left fun p hp => ?_
    exact iso_no I h2 (I.clos q hD p hp)
  · rw [hr, List.map_map]
    refine List.map_congr_left fun r hr' => ?_
    show (⟨r.s, noV _ (φ r.to)⟩ : GR) = _
    rw [iso_no I h2 (hf r hr')]
end
end Go.Proofs.Ytdpmidgeipibbaa
end
section
set_option linter.unusedVariables false
set_option linter.unusedSimpArgs false
set_option maxHeartbeats 4000000
namespace Go.Proofs.Ytdpmidgeipibbaa
open Go.Sh Go.RowKit

def rk (bs : List Bool) (i : Nat) : Nat := (bs.take i).countP id
def sel {α β : Type} (f : α → β) (l : List α) (bs : List Bool) : List β := (l.zip bs).flatMap fun y => if y.2 then [f y.1] else []
theorem sel_cons {α β : Type} (f : α → β) (x : α) (l : List α) (b : Bool) (bs : List Bool) : sel f (x :: l) (b :: bs) = (if b then [f x] else []) ++ sel f l bs := by
  unfold sel
  rw [List.zip_cons_cons, List.flatMap_cons]
theorem sel_len {α β : Type} (f : α → β) : ∀ (l : List α) (bs : List Bool), bs.length = l.length → (sel f l bs).length = bs.countP id
  | [], [], _ => rfl
  | [], _ :: _, h => by simp at h
  | _ :: _, [], h => by simp at h
  | x :: l, b :: bs, h => by
    rw [sel_cons, List.length_append, sel_len f l bs (by simpa using h), List.countP_cons]
    cases b <;> simp <;> omega
theorem sel_get {α β : Type} (f : α → β) : ∀ (l : List α) (bs : List Bool) (i : Nat) (h : i < l.length) (h' : i < bs.length), bs[i] = true → (sel f l bs)[rk bs i]? = some (f l[i])
  | [], _, i, h, _, _ => by simp at h
  | _ :: _, [], i, _, h, _ => by simp at h
  | x :: l, b :: bs, 0, _, _, e => by
    simp only [List.getElem_cons_zero] at e
    subst e
    rw [sel_cons]
    simp [rk]
  | x :: l, b :: bs, i + 1, h, h', e => by
    simp only [List.getElem_cons_succ] at e
    have ih := sel_get f l bs i (by simpa using h) (by simpa using h') e
    rw [sel_cons]
    have hr : rk (b :: bs) (i + 1) = rk bs i + (if b then 1 else 0) := by
      unfold rk
      rw [List.take_succ_cons, List.countP_cons]
      cases b <;> simp
    rw [hr]
    cases b
    · simpa using ih
    · simpa using ih
theorem sel_mem {α β : Type} (f : α → β) : ∀ (l : List α) (bs : List Bool) (y : β), y ∈ sel f l bs → ∃ x ∈ l, y = f x
  | [], _, y, h => by simp [sel] at h
  | _ :: _, [], y, h => by simp [sel] at h
  | x :: l, b :: bs, y, h => by
    rw [sel_cons] at h
    rcases List.mem_append.1 h with h | h
    · cases b
      · simp at h
      · simp at h
        exact ⟨x, List.mem_cons_self .., h⟩
    · obtain ⟨z, hz, e⟩ := sel_mem f l bs y h
      exact ⟨z, List.mem_cons_of_mem _ hz, e⟩
theorem sel_take {α β : Type} (f : α → β) (l : List α) (bs : List Bool) (k : Nat) (h : k < l.length) (h' : k < bs.length) : sel f (l.take (k + 1)) (bs.take (k + 1)) = sel f (l.take k) (bs.take k) ++ (if bs[k] then [f l[k]] else []) := by
  unfold sel
  rw [List.take_add_one, List.take_add_one, List.getElem?_eq_getElem h, List.getElem?_eq_getElem h', Option.toList_some, Option.toList_some, List.zip_append (by simp; omega), List.flatMap_append]
  simp
theorem rk_succ {bs : List Bool} {k : Nat} (h : k < bs.length) : rk bs (k + 1) = rk bs k + (if bs[k] then 1 else 0) := by
  unfold rk
  rw [List.take_add_one, List.getElem?_eq_getElem h, Option.toList_some, List.countP_append]
  cases bs[k] <;> simp
theorem rk_mono {bs : List Bool} {i j : Nat} (h : i ≤ j) : rk bs i ≤ rk bs j := by
  unfold rk
  have e : bs.take i = (bs.take j).take i := by rw [List.take_take, Nat.min_eq_left h]
  rw [e]
  exact (List.take_sublist _ _).countP_le
theorem rk_lt {bs : List Bool} {i j : Nat} (hij : i < j) (h : i < bs.length) (hb : bs[i] = true) : rk bs i < rk bs j := by
  have h1 := rk_succ h
  rw [hb, if_pos rfl] at h1
  have h2 := rk_mono (bs := bs) (show i + 1 ≤ j from hij)
  omega
theorem rk_all {bs : List Bool} : rk bs bs.length = bs.countP id := by unfold rk; rw [List.take_length]
theorem rk_le {bs : List Bool} (i : Nat) : rk bs i ≤ i := by
  unfold rk
  have := List.countP_le_length (p := id) (l := bs.take i)
  rw [List.length_take] at this
  omega
def noB (bs : List Bool) (i : Nat) : Int := if bs.getD i false then (rk bs i : Int) + 1 else 0
def toB (bs : List Bool) (p : Int) : Int := if okNo bs.length p then noB bs (p.toNat - 1) else 0
def trN (bs : List Bool) (x : GN) : GN := ⟨x.p.map (toB bs), none, 0, x.d, none, 0⟩
def trNs (ns : List GN) (bs : List Bool) : List GN := sel (trN bs) ns bs
def trRs (rs : List GR) (bs : List Bool) : List GR := rs.map fun r => ⟨r.s, toB bs r.to⟩
theorem getD_at {bs : List Bool} {i : Nat} (h : i < bs.length) : bs.getD i false = bs[i] := by rw [List.getD_eq_getElem?_getD, List.getElem?_eq_getElem h]; rfl
theorem toB_on {bs : List Bool} {p : Int} (h : okNo bs.length p) (hi : p.toNat - 1 < bs.length) (hb : bs[p.toNat - 1] = true) : toB bs p = (rk bs (p.toNat - 1) : Int) + 1 := by
  unfold toB noB
  rw [if_pos h, getD_at hi, hb]
  rfl
theorem toB_ran (bs : List Bool) (p : Int) : 0 ≤ toB bs p ∧ toB bs p ≤ bs.countP id := by
  unfold toB noB
  split
  · rename_i h
    split
    · rename_i hb
      rw [getD_at (by omega)] at hb
      have := rk_lt (bs := bs) (i := p.toNat - 1) (j := bs.length) (by omega) (by omega) hb
      rw [rk_all] at this
      omega
    · omega
  · omega
section
variable {ns : List GN} {rs : List GR} {fr : List Int} {bs : List Bool}
theorem trim_iso (R : RchOk ns fr bs) : Iso ns (trNs ns bs) (Rch ns fr) (toB bs) := by
  have hlen := R.len
  have on : ∀ p, Rch ns fr p → okNo bs.length p ∧ ∃ hi : p.toNat - 1 < bs.length, bs[p.toNat - 1] = true := fun p hp => by
    have ho := hp.ok
    have hi : p.toNat - 1 < bs.length := by omega
    refine ⟨by omega, hi, ?_⟩
    rw [R.iff _ hi]
    have : ((p.toNat - 1 : Nat) : Int) + 1 = p := by omega
    rw [this]
    exact hp
  have hl2 : (trNs ns bs).length = bs.countP id := sel_len _ _ _ hlen
  refine ⟨fun p q hp hq e => ?_, fun p hp => ?_, fun q hq => ?_, fun q hq p hp => ?_⟩
  · obtain ⟨o1, i1, b1⟩ := on p hp
    obtain ⟨o2, i2, b2⟩ := on q hq
    rw [toB_on o1 i1 b1, toB_on o2 i2 b2] at e
    rcases Nat.lt_trichotomy (p.toNat - 1) (q.toNat - 1) with h | h | h
    · have := rk_lt h i1 b1; omega
    · omega
    · have := rk_lt h i2 b2; omega
  · obtain ⟨o1, i1, b1⟩ := on p hp
    refine ⟨hp.ok, ?_⟩
    have := toB_ran bs p
    rw [hl2]
    rw [toB_on o1 i1 b1] at this ⊢
    omega
  · obtain ⟨o1, i1, b1⟩ := on q hq
    have hg := sel_get (trN bs) ns bs (q.toNat - 1) (by omega) i1 b1
    have e : (toB bs q).toNat - 1 = rk bs (q.toNat - 1) := by rw [toB_on o1 i1 b1]; omega
    unfold ptrsOf dataOf trNs
    rw [e, hg, List.getElem?_eq_getElem (show q.toNat - 1 < ns.length by omega)]
    exact ⟨rfl, rfl⟩
  · by_cases ho : okNo ns.length p
    · left
      have h0 := hq.ok
      have hi : q.toNat - 1 < ns.length := by omega
      unfold ptrsOf at hp
      rw [List.getElem?_eq_getElem hi] at hp
      refine .step hi ?_ hp ho
      have : ((q.toNat - 1 : Nat) : Int) + 1 = q := by omega
      rw [this]
      exact hq
    · right
      refine ⟨ho, ?_⟩
      unfold toB
      rw [if_neg (by rw [hlen]; exact ho)]
      omega
theorem trim_can (R : RchOk ns fr bs) (hf : ∀ r ∈ rs, r.to ∈ fr) : canNs (trNs ns bs) (trRs rs bs) = canNs ns rs ∧ canRs (trNs ns bs) (trRs rs bs) = canRs ns rs := by
  refine iso_can (trim_iso R) rfl fun r hr => ?_
  by_cases ho : okNo ns.length r.to
  · exact .inl (.base (hf r hr) ho)
  · right
    refine ⟨ho, ?_⟩
    unfold toB
    rw [if_neg (by rw [R.len]; exact ho)]
    omega
theorem trim_good (hl : bs.length = ns.length) (hg : GoodG ns rs) : GoodG (trNs ns bs) (trRs rs bs) := by
  have hl2 : (trNs ns bs).length = bs.countP id := sel_len _ _ _ hl
  refine ⟨fun y hy => ?_, by simpa [trRs] using hg.r, fun r hr => ?_, fun i hi => ?_⟩
  · obtain ⟨x, hx, rfl⟩ := sel_mem _ _ _ _ hy
    obtain ⟨h1, h2, h3⟩ := hg.x x hx
    refine ⟨fun p hp => ?_, by simpa [trN] using h2, h3⟩
    obtain ⟨q, _, rfl⟩ := List.mem_map.1 hp
    rw [hl2]
    exact toB_ran bs q
  · obtain ⟨q, hq, rfl⟩ := List.mem_map.1 hr
    refine ⟨(hg.s q hq).1, ?_⟩
    rw [hl2]
    exact toB_ran bs q.to
  · have hi' : i + 1 < rs.length := by simpa [trRs] using hi
    have := hg.o i hi'
    simpa [trRs] using this
theorem trim_gW : ∀ (ns : List GN) (bs cs : List Bool), bs.length = ns.length → gW (sel (trN cs) ns bs) ≤ gW ns
  | [], [], _, _ => Nat.le_refl _
  | [], _ :: _, _, h => by simp at h
  | _ :: _, [], _, h => by simp at h
  | x :: ns, b :: bs, cs, h => by
    have ih := trim_gW ns bs cs (by simpa using h)
    rw [sel_cons]
    unfold gW at ih ⊢
    have e : gsz (trN cs x) = gsz x := by simp [gsz, trN]
    cases b
    · simp; omega
    · simp [e]; omega
end
end Go.Proofs.Ytdpmidgeipibbaa
end
section
set_option linter.unusedVariables false
set_option linter.unusedSimpArgs false
set_option maxHeartbeats 4000000
namespace Go.Proofs.Ytdpmidgeipibbaa
open Go.Sh Go.RowKit

section
end
end Go.Proofs.Ytdpmidgeipibbaa
end
section
set_option linter.unusedVariables false
set_option linter.unusedSimpArgs false
set_option maxHeartbeats 4000000
namespace Go.Proofs.Ytdpmidgeipibbaa
open Go.Sh Go.RowKit

/-- a node's rows lie apart from blocks -/
structure Apt (M : List Nat) (x : GN) : Prop where
  p : ∀ y, x.pa = some y → x.p ≠ [] → y.block ∉ M
  d : ∀ y, x.da = some y → x.d ≠ [] → y.block ∉ M
theorem NOk.ext {w w' : World} {M : List Nat} {x : GN} (h : NOk w x) (hx : Ext M w w') (ha : Apt M x) : NOk w' x := by
  refine ⟨?_, h.pl, h.pn, ?_, h.dl, h.dn⟩
  · by_cases e : x.p = []
    · rw [e]; exact .nil
    · exact h.pr.ext hx fun b o hb => ha.p _ hb e
  · by_cases e : x.d = []
    · rw [e]; exact .nil
    · exact h.dr.ext hx fun b o hb => ha.d _ hb e
theorem NOk.lt {w : World} {x : GN} (h : NOk w x) : (∀ y, x.pa = some y → x.p ≠ [] → y.block < w.heap.size) ∧ ∀ y, x.da = some y → x.d ≠ [] → y.block < w.heap.size := by
  constructor
  · intro y hy hn
    obtain ⟨b, o, h1, h2, _⟩ := h.pr.get (by simpa using hn)
    rw [hy] at h1
    cases h1
    exact h2
  · intro y hy hn
    obtain ⟨b, o, h1, h2, _⟩ := h.dr.get (by simpa using hn)
    rw [hy] at h1
    cases h1
    exact h2
/-- the blocks grow, but only by new ones -/
theorem Apt.more {w : World} {M M' : List Nat} {x : GN} (h : Apt M x) (hk : NOk w x) (hm : ∀ b ∈ M', b ∈ M ∨ w.heap.size ≤ b) : Apt M' x := by
  obtain ⟨h1, h2⟩ := hk.lt
  constructor
  · intro y hy hn hb
    rcases hm _ hb with h3 | h3
    · exact h.p y hy hn h3
    · have := h1 y hy hn; omega
  · intro y hy hn hb
    rcases hm _ hb with h3 | h3
    · exact h.d y hy hn h3
    · have := h2 y hy hn; omega
/-- a block that holds other things -/
theorem Apt.cons {w : World} {M : List Nat} {x : GN} {g : Nat} {e : TypeId} {cells : List Value} (h : Apt M x) (hk : NOk w x) (B : Blk w g e cells) (hc : ∀ v ∈ cells, (∀ i, v ≠ i64 i) ∧ ∀ c : BitVec 8, v ≠ u8 c) : Apt (g :: M) x := by
  constructor
  · intro y hy hn hm
    rcases List.mem_cons.1 hm with hm | hm
    · obtain ⟨b, o, h1, h2, h3⟩ := hk.pr.get (by simpa using hn)
      rw [hy] at h1
      cases h1
      simp only at hm
      subst hm
      have hl : 0 < (its x.p).length := by simpa using List.length_pos_iff.2 hn
      have h4 := h3 0 _ (List.getElem?_eq_getElem hl)
      rw [B.cell] at h4
      have h5 := List.mem_of_getElem? h4
      rw [List.getElem_map] at h5
      exact (hc _ h5).1 _ rfl
    · exact h.p y hy hn hm
  · intro y hy hn hm
    rcases List.mem_cons.1 hm with hm | hm
    · obtain ⟨b, o, h1, h2, h3⟩ := hk.dr.get (by simpa using hn)
      rw [hy] at h1
      cases h1
      simp only at hm
      subst hm
      have hl : 0 < (bys x.d).length := by simpa using List.length_pos_iff.2 hn
      have h4 := h3 0 _ (List.getElem?_eq_getElem hl)
      rw [B.cell] at h4
      have h5 := List.mem_of_getElem? h4
      rw [List.getElem_map] at h5
      exact (hc _ h5).2 _ rfl
    · exact h.d y hy hn hm
abbrev OwnGN (w : World) (v : Value) (l : List GN) : Prop := Own w 72 2 v l.length (l.flatMap gnC)
abbrev OwnGR (w : World) (v : Value) (l : List GR) : Prop := Own w 74 2 v l.length (l.flatMap grC)
set_option maxRecDepth 100000 in
theorem appGN {w : World} {K : K1} {v : Value} {l : List GN} {x : GN} {g : Nat} {cs : List Value} (hO : OwnGN w v l) (hcs : cs = gnC x) (hl : l.length ≤ 1000000)
    (hK : ∀ v' w', OwnGN w' v' (l ++ [x]) → Stp (blk v) (blk v') w w' → K v' w') (hg : g = w.heap.size := by first | rfl | (simp only [World.size_alloc, World.size_drew, World.size_setCell] <;> omega)) : xBuiltin Try.prog .append #[22, 22] 22 [false, false] [v, .slice (some ⟨g, 0, none⟩) 1 1] (w.alloc (.cells cs.toArray 72)) K := by
  subst hcs hg
  refine xAppL (s := 2) (n := l.length) (m := 1) (xs := l.flatMap gnC) (news := gnC x) (bytes := 48) (z := .agg #[.slice none 0 0, .slice none 0 0]) (by kernel_rfl) (by kernel_rfl) (by rfl) (by decide) hO (by rfl) (by simp [gnC, Value.oneCell']) (by omega) (by omega) fun v' w' h1 h2 => hK v' w' ?_ h2
  show Own w' 72 2 v' (l ++ [x]).length ((l ++ [x]).flatMap gnC)
  rw [List.length_append, List.flatMap_append]
  simpa using h1
set_option maxRecDepth 100000 in
theorem appGR {w : World} {K : K1} {v : Value} {l : List GR} {x : GR} {g : Nat} {cs : List Value} (hO : OwnGR w v l) (hcs : cs = grC x) (hl : l.length ≤ 1000000)
    (hK : ∀ v' w', OwnGR w' v' (l ++ [x]) → Stp (blk v) (blk v') w w' → K v' w') (hg : g = w.heap.size := by first | rfl | (simp only [World.size_alloc, World.size_drew, World.size_setCell] <;> omega)) : xBuiltin Try.prog .append #[23, 23] 23 [false, false] [v, .slice (some ⟨g, 0, none⟩) 1 1] (w.alloc (.cells cs.toArray 74)) K := by
  subst hcs hg
  refine xAppL (s := 2) (n := l.length) (m := 1) (xs := l.flatMap grC) (news := grC x) (bytes := 24) (z := .agg #[.string ⟨#[]⟩, .int .i64 0]) (by kernel_rfl) (by kernel_rfl) (by rfl) (by decide) hO (by rfl) (by simp [grC, Value.oneCell']) (by omega) (by omega) fun v' w' h1 h2 => hK v' w' ?_ h2
  show Own w' 74 2 v' (l ++ [x]).length ((l ++ [x]).flatMap grC)
  rw [List.length_append, List.flatMap_append]
  simpa using h1
theorem minI (a b : Int) (w : World) (K : K1) : xBuiltin Try.prog .min #[3, 3] 3 [false, false] [i64 a, i64 b] w K = K (i64 (if b < a then b else a)) w := xBuiltin_okv (by simp [builtin, Builtin.min_, Builtin.min2])
theorem ClipGN_spec {w : World} {b : Option Addr} {n m : Nat} (hm : n ≤ m) : Gives Try.prog n_slices_Clip_graph_Node_graph_Node #[.slice b n m] w (.slice b n n) := by
  refine slices_Clip_graph_Node_graph_Node_of ?_
  unfold slices_Clip_graph_Node_graph_Node
  have hs := fun (K : K1) (w : World) => xSlice_hms (P := Try.prog) (w := w) (K := K) (t := 22) (z := 2) (k := .i64) (k' := .i64) (a := b) (n := n) (c := m) (h := (n : Int)) (m := (n : Int)) (by kernel_rfl) (by kernel_rfl) (by omega) (by omega) (by omega)
  simp (disch := (first | omega | decide | (simp only [rsD] <;> omega) | fail)) only [↓rsC, rsK, rsL, ↓ln_22, tick_eq, tickV_eq, ne_eq, Int.reduceAdd, Int.reduceSub, Int.reduceMul, Int.reduceEq, Int.reduceLT, Int.reduceLE, Int.reduceToNat, Nat.reduceMul, Nat.reduceAdd, Nat.reduceSub, ←decide_not, hs]
  exact ⟨by simp, Ext.refl _ _⟩
theorem ClipGR_spec {w : World} {b : Option Addr} {n m : Nat} (hm : n ≤ m) : Gives Try.prog n_slices_Clip_graph_Root_graph_Root #[.slice b n m] w (.slice b n n) := by
  refine slices_Clip_graph_Root_graph_Root_of ?_
  unfold slices_Clip_graph_Root_graph_Root
  have hs := fun (K : K1) (w : World) => xSlice_hms (P := Try.prog) (w := w) (K := K) (t := 23) (z := 2) (k := .i64) (k' := .i64) (a := b) (n := n) (c := m) (h := (n : Int)) (m := (n : Int)) (by kernel_rfl) (by kernel_rfl) (by omega) (by omega) (by omega)
  simp (disch := (first | omega | decide | (simp only [rsD] <;> omega) | fail)) only [↓rsC, rsK, rsL, ↓ln_23, tick_eq, tickV_eq, ne_eq, Int.reduceAdd, Int.reduceSub, Int.reduceMul, Int.reduceEq, Int.reduceLT, Int.reduceLE, Int.reduceToNat, Nat.reduceMul, Nat.reduceAdd, Nat.reduceSub, ←decide_not, hs]
  exact ⟨by simp, Ext.refl _ _⟩
def DecR (w' : World) (l : List (BitVec 64)) (u : Value) : Prop :=
  (∃ os na nc ra rc ns, DecOk l os ∧ ns.map bare = decNs l os ∧ u = .tuple #[gV na nc ra rc ns (decRs l os), i64 0] ∧ GIs w' na nc ra rc ns (decRs l os)) ∨
  ((∀ os, ¬ DecOk l os) ∧ u = .tuple #[gV none 0 none 0 [] [], i64 2])
abbrev rsDec3_0 := (And.intro @xu8_add (And.intro @xu8_mul (And.intro @xu8_com (And.intro @xu8_neq (And.intro @xu8_lss (And.intro @xu8_gtr (And.intro @xu16_add (And.intro @xu16_mul (And.intro @xu16_com (And.intro @xu16_neq (And.intro @xu16_lss (And.intro @xu16_gtr (And.intro @xu32_add (And.intro @xu32_mul (And.intro @xu32_com (And.intro @xu32_neq 
  (And.intro @xu32_lss (And.intro @xu32_gtr (And.intro @xu64_add (And.intro @xu64_mul (And.intro @xu64_com (And.intro @xu64_neq (And.intro @xu64_lss (And.intro @xu64_gtr (And.intro @xi64_lss (And.intro @xi64_gtr (And.intro @xi64_neq (And.intro @xi64_neg (And.intro @ld_3 (And.intro @ld_22 (And.intro @ld_23 (And.intro @ld_25 (And.intro @ld_66 (And.intro @ld_69 
  (And.intro @ld_132 (And.intro @lr_25 (And.intro @fa_25_0 (And.intro @fa_25_1 (And.intro @fa_132_1 (And.intro @al_25 (And.intro @al_132 (And.intro @st_22 (And.intro @st_23 (And.intro @st_25 (And.intro @st_66 (And.intro @st_132 (And.intro @bd_132_0 (And.intro @bd_25_0_1 (And.intro @bd_25 (And.intro @cv_69_3 (And.intro @ia_28 (And.intro @ia_66 (And.intro @ln_28 (And.intro @ln_66 
  (And.intro @bs_22_1 @bs_23_1)))))))))))))))))))))))))))))))))))))))))))))))))))))))
theorem iDecode_spec {w : World} {l : List (BitVec 64)} {a : Option Addr} {c : Nat} (h : RowAt w a (wrds l)) (hc : l.length ≤ c) (hn : a = none → c = 0) (hl : l.length ≤ 8192) : Yld Try.prog n_image_Decode #[.slice a l.length c] w fun u w' => Ext [] w w' ∧ DecR w' l u := by
  refine image_Decode_of ?_
  unfold image_Decode
  have al : ∀ (y : World) (K : K1), xAlloc Try.prog 25 y K = K (ptr y.heap.size) (y.alloc (.cells #[.slice none 0 0, .slice none 0 0] 25)) := fun y K => xAlloc_r (by kernel_rfl)
  rw [al]
  have B0 : Blk (w.alloc (.cells #[.slice none 0 0, .slice none 0 0] 25)) w.heap.size 25 [.slice none 0 0, .slice none 0 0] := Blk.at rfl
  have X0 : Ext [] w (w.alloc (.cells #[.slice none 0 0, .slice none 0 0] 25)) := Ext.alloc _ _ _
  have h0 := h.ext0 X0
  obtain ⟨g0, hg0⟩ : ∃ g, g = w.heap.size := ⟨_, rfl⟩
  rw [← hg0] at B0 ⊢
  have zw : w.heap.size ≤ g0 := Nat.le_of_eq hg0.symm
  generalize w.alloc (.cells #[.slice none 0 0, .slice none 0 0] 25) = y0 at *
  have fail : ∀ y1 : World, Ext [] y0 y1 → (∀ os, ¬ DecOk l os) → Ext [] w ((y1.setCell ⟨g0, 0, none⟩ (.slice none 0 0)).setCell ⟨g0, 1, none⟩ (.slice none 0 0)) ∧ DecR ((y1.setCell ⟨g0, 0, none⟩ (.slice none 0 0)).setCell ⟨g0, 1, none⟩ (.slice none 0 0)) l (.tuple #[.agg #[.slice none 0 0, .slice none 0 0], i64 2]) :=
    fun y1 F1 hno => ⟨((X0.trans F1).set' (.inr zw)).set' (.inr zw), .inr ⟨hno, rfl⟩⟩
  refine mem_Of_call (Yld.mono (Of_spec l a c y0 hl h0 hn) ?_)
  rintro u y1 ⟨F1, g, a1, c1, rfl, M1⟩
  have k1 := fun i => (B0.ext F1 (by simp)).cell (i := i)
  have f1 := fun i => (B0.ext F1 (by simp)).frozen (i := i)
  by_cases h2 : l.length < 2
  · simp (disch := (first | omega | decide | (simp only [rsD] <;> omega) | fail)) only [↓rsC, rsK, rsL, ↓rsDec3_0, tick_eq, tickV_eq, ne_eq, Int.reduceAdd, Int.reduceSub, Int.reduceMul, Int.reduceEq, Int.reduceLT, Int.reduceLE, Int.reduceToNat, Nat.reduceMul, Nat.reduceAdd, Nat.reduceSub, ←decide_not, k1, f1]
    exact fail y1 F1 fun os D => by have := D.two; omega
  obtain ⟨b, o, rfl, hlt, hc1⟩ := row_w (h0.ext0 F1) (i := 1) (by omega)
  simp (disch := (first | omega | decide | (simp only [rsD] <;> omega) | fail)) only [↓rsC, rsK, rsL, ↓rsDec3_0, tick_eq, tickV_eq, ne_eq, Int.reduceAdd, Int.reduceSub, Int.reduceMul, Int.reduceEq, Int.reduceLT, Int.reduceLE, Int.reduceToNat, Nat.reduceMul, Nat.reduceAdd, Nat.reduceSub, ←decide_not, hc1]
  refine bits_Field_call (Gives.to (Field_spec _ _ _ y1) fun y2 F2 => ?_)
  have efr : (fieldB (wat l 1) 0 16).toInt = (nR l : Int) := by
    have : nR l < 65536 := nR_lt l
    exact BitVec.toInt_eq_toNat_of_lt (by unfold nR at this; omega)
  have hnr := nR_lt l
  simp (disch := (first | omega | decide | (simp only [rsD] <;> omega) | fail)) only [↓rsC, rsK, rsL, ↓rsDec3_0, tick_eq, tickV_eq, ne_eq, Int.reduceAdd, Int.reduceSub, Int.reduceMul, Int.reduceEq, Int.reduceLT, Int.reduceLE, Int.reduceToNat, Nat.reduceMul, Nat.reduceAdd, Nat.reduceSub, ←decide_not, hc1, efr]
  rw [efr]
  have F12 := F1.trans F2
  have M2 := M1.ext0 F2
  refine mem_Mem_Len_call (Gives.to (Len_spec M2) fun y3 F3 => ?_)
  rw [minI]
  have F13 := F12.trans F3
  refine mem_Mem_Len_call (Gives.to (Len_spec (M2.ext0 F3)) fun y4 F4 => ?_)
  refine mem_Mem_Len_call (Gives.to (Len_spec ((M2.ext0 F3).ext0 F4)) fun y5 F5 => ?_)
  have M5 := ((M2.ext0 F3).ext0 F4).ext0 F5
  have F15 := F13.trans (F4.trans F5)
  have k5 := fun i => (B0.ext F15 (by simp)).cell (i := i)
  have f5 := fun i => (B0.ext F15 (by simp)).frozen (i := i)
  by_cases hfr : l.length < 2 + 5 * nR l
  · have hno : ∀ os, ¬ DecOk l os := fun os D => by have := D.room; omega
    rw [if_pos (by omega)]
    refine space_Of_call (Yld.mono (SOf_spec M5 (Nat.le_refl l.length) (Nat.le_refl _) (Nat.le_refl _)) ?_)
    rintro u y6 ⟨F6, H6⟩
    have k6 := fun i => ((B0.ext F15 (by simp)).ext F6 (by simp)).cell (i := i)
    have f6 := fun i => ((B0.ext F15 (by simp)).ext F6 (by simp)).frozen (i := i)
    cases ho : objs l l.length l.length with
    | none =>
      rw [ho] at H6
      simp only at H6
      subst H6
      simp (disch := (first | omega | decide | (simp only [rsD] <;> omega) | fail)) only [↓rsC, rsK, rsL, ↓rsDec3_0, tick_eq, tickV_eq, ne_eq, Int.reduceAdd, Int.reduceSub, Int.reduceMul, Int.reduceEq, Int.reduceLT, Int.reduceLE, Int.reduceToNat, Nat.reduceMul, Nat.reduceAdd, Nat.reduceSub, ←decide_not, hc1, efr, k6, f6]
      exact fail y6 (F15.trans F6) hno
    | some os =>
      rw [ho] at H6
      obtain ⟨s, rfl, _, S6⟩ := H6
      simp (disch := (first | omega | decide | (simp only [rsD] <;> omega) | fail)) only [↓rsC, rsK, rsL, ↓rsDec3_0, tick_eq, tickV_eq, ne_eq, Int.reduceAdd, Int.reduceSub, Int.reduceMul, Int.reduceEq, Int.reduceLT, Int.reduceLE, Int.reduceToNat, Nat.reduceMul, Nat.reduceAdd, Nat.reduceSub, ←decide_not, hc1, efr]
      refine mem_Mem_Len_call (Gives.to (Len_spec S6.mem) fun y7 F7 => ?_)
      have k7 := fun i => (((B0.ext F15 (by simp)).ext F6 (by simp)).ext F7 (by simp)).cell (i := i)
      have f7 := fun i => (((B0.ext F15 (by simp)).ext F6 (by simp)).ext F7 (by simp)).frozen (i := i)
      simp (disch := (first | omega | decide | (simp only [rsD] <;> omega) | fail)) only [↓rsC, rsK, rsL, ↓rsDec3_0, tick_eq, tickV_eq, ne_eq, Int.reduceAdd, Int.reduceSub, Int.reduceMul, Int.reduceEq, Int.reduceLT, Int.reduceLE, Int.reduceToNat, Nat.reduceMul, Nat.reduceAdd, Nat.reduceSub, ←decide_not, hc1, efr, k7, f7]
      exact fail y7 (F15.trans (F6.trans F7)) hno
  rw [if_neg (by omega)]
  have efm : (2 + 5 * (nR l : Int)) = ((2 + 5 * nR l : Nat) : Int) := by omega
  rw [efm]
  refine space_Of_call (Yld.mono (SOf_spec M5 (b := 2 + 5 * nR l) (by omega) (Nat.le_refl _) (Nat.le_refl _)) ?_)
  rintro u y6 ⟨F6, H6⟩
  have B06 := (B0.ext F15 (by simp)).ext F6 (by simp)
  have F16 := F15.trans F6
  have k6 := fun i => B06.cell (i := i)
  have f6 := fun i => B06.frozen (i := i)
  cases ho : objs l (2 + 5 * nR l) l.length with
  | none =>
    rw [ho] at H6
    simp only at H6
    subst H6
    simp (disch := (first | omega | decide | (simp only [rsD] <;> omega) | fail)) only [↓rsC, rsK, rsL, ↓rsDec3_0, tick_eq, tickV_eq, ne_eq, Int.reduceAdd, Int.reduceSub, Int.reduceMul, Int.reduceEq, Int.reduceLT, Int.reduceLE, Int.reduceToNat, Nat.reduceMul, Nat.reduceAdd, Nat.reduceSub, ←decide_not, hc1, efr, k6, f6]
    refine fail y6 F16 fun os D => ?_
    rw [(objs_some D.room).2 D.sc.objs] at ho
    cases ho
  | some os =>
  rw [ho] at H6
  obtain ⟨s, rfl, _, S6⟩ := H6
  have hsc := ((objs_some (show 2 + 5 * nR l ≤ l.length by omega)).1 ho).sc
  simp (disch := (first | omega | decide | (simp only [rsD] <;> omega) | fail)) only [↓rsC, rsK, rsL, ↓rsDec3_0, tick_eq, tickV_eq, ne_eq, Int.reduceAdd, Int.reduceSub, Int.reduceMul, Int.reduceEq, Int.reduceLT, Int.reduceLE, Int.reduceToNat, Nat.reduceMul, Nat.reduceAdd, Nat.reduceSub, ←decide_not, hc1, efr]
  refine mem_Mem_Len_call (Gives.to (Len_spec S6.mem) fun y7 F7 => ?_)
  have B07 := B06.ext F7 (by simp)
  have F17 := F16.trans F7
  have S7 := S6.ext0 F7
  simp (disch := (first | omega | decide | (simp only [rsD] <;> omega) | fail)) only [↓rsC, rsK, rsL, ↓rsDec3_0, tick_eq, tickV_eq, ne_eq, Int.reduceAdd, Int.reduceSub, Int.reduceMul, Int.reduceEq, Int.reduceLT, Int.reduceLE, Int.reduceToNat, Nat.reduceMul, Nat.reduceAdd, Nat.reduceSub, ←decide_not, hc1, efr]
  obtain ⟨gr, hgr⟩ : ∃ g, g = y7.heap.size := ⟨_, rfl⟩
  have Br0 : Blk (y7.alloc (.cells #[ptr s, .slice none 0 0] 132)) gr 132 [ptr s, .slice none 0 0] := Blk.at hgr
  have X8 : Ext [] y7 (y7.alloc (.cells #[ptr s, .slice none 0 0] 132)) := Ext.alloc _ _ _
  rw [← hgr]
  generalize y7.alloc (.cells #[ptr s, .slice none 0 0] 132) = y8 at *
  have S8 := S7.ext0 X8
  have hob := SObjects_spec S8
  rw [ho] at hob
  refine space_Space_Objects_call (Yld.mono hob ?_)
  rintro u y9 ⟨v9, rfl, F9, pa, pc, rfl, hpc, R9⟩
  have S9 := S8.ext0 F9
  have Br9 := Br0.ext F9 (by simp)
  have k9 := fun i => Br9.cell (i := i)
  have f9 := fun i => Br9.frozen (i := i)
  have zr9 := Br9.lt
  have B09 := (B07.ext X8 (by simp)).ext F9 (by simp)
  have g0lt := B07.lt
  simp (disch := (first | omega | decide | (simp only [rsD] <;> omega) | fail)) only [↓rsC, rsK, rsL, ↓rsDec3_0, tick_eq, tickV_eq, ne_eq, Int.reduceAdd, Int.reduceSub, Int.reduceMul, Int.reduceEq, Int.reduceLT, Int.reduceLE, Int.reduceToNat, Nat.reduceMul, Nat.reduceAdd, Nat.reduceSub, ←decide_not, hc1, efr, k9, f9]
  simp only [size_sets]
  have R10 : RowAt (y9.setCell ⟨gr, 1, none⟩ (.slice pa os.length pc)) pa (nums os) := by
    by_cases he : os = []
    · subst he; exact .nil
    · refine R9.ext Ext.set fun b' o' hb hm => ?_
      simp only [List.mem_singleton] at hm
      subst hb hm
      obtain ⟨b2, o2, e2, _, hc2⟩ := R9.get (by simpa using he)
      cases e2
      have := hc2 0 _ (List.getElem?_eq_getElem (by simpa using List.length_pos_iff.2 he))
      rw [Nat.add_zero, Br9.cell] at this
      rcases o' with _ | _ | o'
      · simp at this
      · simp at this
      · simp at this
  have E10 : Ext [gr] y9 (y9.setCell ⟨gr, 1, none⟩ (.slice pa os.length pc)) := Ext.set
  have Br10 := Br9.set (i := 1) (v := .slice pa os.length pc)
  have hgs : s ∉ [gr] := by have := S7.blk.lt; simp only [List.mem_singleton]; omega
  have hgg : g ∉ [gr] := by have := S7.mem.lt; simp only [List.mem_singleton]; omega
  have hga : l ≠ [] → ∀ x ∈ blkOf a1, x ∉ [gr] := fun hw x hx => by have := S7.mem.blt hw x hx; simp only [List.mem_singleton]; omega
  have S10 := S9.ext E10 hgs hgg hga
  have B010 := B09.ext E10 (by simp only [List.mem_singleton]; omega)
  have X10 : Ext [] w (y9.setCell ⟨gr, 1, none⟩ (.slice pa os.length pc)) := (X0.trans (F17.trans (X8.trans F9))).set' (.inr (by have := (X0.trans F17).size; omega))
  have zs10 : (y9.setCell ⟨gr, 1, none⟩ (.slice pa os.length pc)).heap.size = y9.heap.size := World.size_setCell _ _ _
  generalize y9.setCell ⟨gr, 1, none⟩ (.slice pa os.length pc) = y10 at *
  have Bx0 : Blk (y10.alloc (.cells #[.slice none 0 0, .slice none 0 0] 25)) y9.heap.size 25 [.slice none 0 0, .slice none 0 0] := Blk.at zs10.symm
  have X11 : Ext [] y10 (y10.alloc (.cells #[.slice none 0 0, .slice none 0 0] 25)) := Ext.alloc _ _ _
  have zs11 : (y10.alloc (.cells #[.slice none 0 0, .slice none 0 0] 25)).heap.size = y9.heap.size + 1 := by rw [World.size_alloc, zs10]
  generalize y10.alloc (.cells #[.slice none 0 0, .slice none 0 0] 25) = y at *
  have Xy := X10.trans X11
  have Sy := S10.ext0 X11
  have Ry := R10.ext0 X11
  have Bry := Br10.ext X11 (by simp)
  have B0y := B010.ext X11 (by simp)
  obtain ⟨hx, hhx⟩ : ∃ g, g = y9.heap.size := ⟨_, rfl⟩
  rw [← hhx] at Bx0 ⊢
  have hlt : hx < y.heap.size := by omega
  have zS := S9.blk.lt
  have zg := S9.mem.lt
  have zB0 := B09.lt
  have fresh : ∀ {w' : World}, Ext [hx] y w' → Ext [] w w' := fun F => Xy.new F (fun z hz => by simp only [List.mem_singleton] at hz; have := (X10.size); omega)
  have ner : gr ∉ [hx] := by simp only [List.mem_singleton]; omega
  have ne0 : g0 ∉ [hx] := by simp only [List.mem_singleton]; omega
  have neS : s ∉ [hx] := by simp only [List.mem_singleton]; omega
  have neg : g ∉ [hx] := by simp only [List.mem_singleton]; omega
  have nea : l ≠ [] → ∀ x ∈ blkOf a1, x ∉ [hx] := fun hw x hx' => by have := S9.mem.blt hw x hx'; simp only [List.mem_singleton]; omega
  have nilb : ∀ z, z ∉ blk (.slice none 0 0) := by simp [blk, Value.ownBlock]
  have Ra : ∀ {w' : World}, Ext [hx] y w' → RowAt w' pa (nums os) := fun F => by
    by_cases he : os = []
    · subst he; exact .nil
    · obtain ⟨b2, o2, e2, hlt2, _⟩ := R10.get (by simpa using he)
      exact Ry.ext F fun b' o' hb hm => by
        simp only [List.mem_singleton] at hm
        rw [e2] at hb
        cases hb
        omega
  obtain ⟨hsort, hall⟩ := hsc.all
  have hcount := hsc.count
  have hob2 : ∀ y ∈ os, y ≤ 1000000 := fun y hy => by have := (hall y hy).2.2; omega
  have hosl : os.length ≤ 100000 := by omega
  have Sx : ∀ {w' : World}, Ext [hx] y w' → SpIs w' y0.heap.size s g a1 c1 l (2 + 5 * nR l) l.length l.length := fun F => Sy.ext F neS neg nea
  refine xLoop_n os.length (fun j => [i64 (j : Int)]) (fun j w' => Ext [hx] y w' ∧ ∃ v ns, ns.map bare = (decNs l os).take j ∧ OwnGN w' v ns ∧ Blk w' hx 25 [v, .slice none 0 0] ∧ (∀ z ∈ blk v, y.heap.size ≤ z) ∧ ∀ x ∈ ns, NOk w' x ∧ Apt (hx :: blk v) x) rfl ⟨Ext.refl _ _, .slice none 0 0, [], by simp, Own.nil, Bx0, fun z hz => absurd hz (nilb z), by simp⟩ ?_ ?_
  · rintro j hj u x1 hu ⟨F, v, ns, hns, O, B, U, A⟩ nxt hnx
    simp only [List.map_cons, List.map_nil, List.cons.injEq, and_true] at hu
    rw [hu]
    obtain ⟨a0, c0', hv0, _⟩ := O.slice
    subst hv0
    obtain ⟨bb, oo, rfl, hbl, hcc⟩ := (Ra F).at (i := j) (by simpa using hj)
    have hcj : x1.cell? ⟨bb, oo + j, none⟩ = some (i64 (os[j] : Int)) := by rw [hcc]; simp
    have nsl : ns.length = j := by
      have := congrArg List.length hns
      rw [List.length_map, List.length_take, decNs_len] at this
      omega
    unfold image_Decode_l1
    have Ed := Ext.drew [] x1
    have kr := fun i => ((Bry.ext F ner).ext Ed (by simp)).cell (i := i)
    have kb := fun i => (B.ext Ed (by simp)).cell (i := i)
    have hm : os[j] ∈ os := List.getElem_mem hj
    have hO : ObjAt l (2 + 5 * nR l) l.length os[j] := ⟨(hall _ hm).1, (hall _ hm).2.1, (hall _ hm).2.2⟩
    simp (disch := (first | omega | decide | (simp only [rsD] <;> omega) | fail)) only [↓rsC, rsK, rsL, ↓rsDec3_0, tick_eq, tickV_eq, ne_eq, Int.reduceAdd, Int.reduceSub, Int.reduceMul, Int.reduceEq, Int.reduceLT, Int.reduceLE, Int.reduceToNat, Nat.reduceMul, Nat.reduceAdd, Nat.reduceSub, ←decide_not, hc1, efr, k9, f9, hcj, kr, kb]
    have Fd := F.trans (Ed.more (by simp))
    refine image_reader_node_call (Yld.mono (rnode_spec (Sx Fd) hO (Ra Fd) hsort hosl hob2) ?_)
    rintro u x2 ⟨F2, x, rfl, hxp, hxd, hxk, hfa, hfb⟩
    have F02 := Fd.trans (F2.more (by simp))
    have B2 := (B.ext Ed (by simp)).ext F2 (by simp)
    have O2 := (O.ext0 Ed).ext0 F2
    have zb2 := B2.lt
    have k2 := fun i => B2.cell (i := i)
    simp (disch := (first | omega | decide | (simp only [rsD] <;> omega) | fail)) only [↓rsC, rsK, rsL, ↓rsDec3_0, tick_eq, tickV_eq, ne_eq, Int.reduceAdd, Int.reduceSub, Int.reduceMul, Int.reduceEq, Int.reduceLT, Int.reduceLE, Int.reduceToNat, Nat.reduceMul, Nat.reduceAdd, Nat.reduceSub, ←decide_not, hc1, efr, k9, f9, hcj, kr, kb, k2]
    refine appGN O2 rfl (by omega) fun v' x5 O5 T5 => ?_
    obtain ⟨F5, U5, n1, n2⟩ := grow F02 U hlt T5
    have B5 := B2.ext T5.ext n1
    obtain ⟨a3, c3, hv3, _⟩ := O5.slice
    have k5 := fun i => B5.cell (i := i)
    have f5 := fun i => B5.frozen (i := i)
    subst hv3
    simp (disch := (first | omega | decide | (simp only [rsD] <;> omega) | fail)) only [↓rsC, rsK, rsL, ↓rsDec3_0, tick_eq, tickV_eq, ne_eq, Int.reduceAdd, Int.reduceSub, Int.reduceMul, Int.reduceEq, Int.reduceLT, Int.reduceLE, Int.reduceToNat, Nat.reduceMul, Nat.reduceAdd, Nat.reduceSub, ←decide_not, hc1, efr, k9, f9, hcj, kr, kb, k2, k5, f5]
    have B6 := B5.set (i := 0) (v := .slice a3 (ns ++ [x]).length c3)
    have O6 := O5.ext (Ext.set (w := x5) (b := hx) (o := 0) (v := .slice a3 (ns ++ [x]).length c3)) (fun z hz hm => by simp only [List.mem_singleton] at hm; subst hm; exact n2 hz)
    refine hnx _ ⟨F5.set' (.inl (by simp)), _, ns ++ [x], ?_, O6, B6, U5, fun q hq => ?_⟩
    · rw [List.map_append, hns, List.take_add_one, List.getElem?_eq_getElem (by rw [decNs_len]; exact hj), decNs_get]
      simp [bare, decN, hxp, hxd]
    · have hA : NOk x2 q ∧ Apt (hx :: blk (.slice a0 ns.length c0')) q := by
        rcases List.mem_append.1 hq with hq | hq
        · exact ⟨((A q hq).1.ext0 Ed).ext0 F2, (A q hq).2⟩
        · rw [List.mem_singleton] at hq
          subst hq
          have hz1 : hx < x1.drew.heap.size := (B.ext Ed (by simp)).lt
          have hz2 := (O.ext0 Ed).lt
          refine ⟨hxk, fun y hy _ hm => ?_, fun y hy _ hm => ?_⟩
          · have := hfa y hy
            rcases List.mem_cons.1 hm with e | e
            · omega
            · have := hz2 _ e; omega
          · have := hfb y hy
            rcases List.mem_cons.1 hm with e | e
            · omega
            · have := hz2 _ e; omega
      have hA2 := hA.1.ext (T5.ext.more (fun z hz => List.mem_cons_of_mem hx hz)) hA.2
      have hA3 : Apt (hx :: blk (.slice a3 (ns ++ [x]).length c3)) q := hA.2.more hA.1 fun b hb => by
        rcases List.mem_cons.1 hb with e | e
        · exact .inl (by rw [e]; exact List.mem_cons_self ..)
        · exact (T5.at' b e).imp (List.mem_cons_of_mem _) id
      exact ⟨hA2.ext (Ext.set.more (by simp)) hA3, hA3⟩
  rintro u x1 hu ⟨F, v, ns, hns, O, B, U, A⟩ nxt
  simp only [List.map_cons, List.map_nil, List.cons.injEq, and_true] at hu
  rw [hu]
  have hns : ns.map bare = decNs l os := by rw [hns]; exact List.take_of_length_le (by rw [decNs_len]; exact Nat.le_refl _)
  have nsl : ns.length = os.length := by
    have := congrArg List.length hns
    rwa [List.length_map, decNs_len] at this
  unfold image_Decode_l1
  simp (disch := (first | omega | decide | (simp only [rsD] <;> omega) | fail)) only [↓rsC, rsK, rsL, ↓rsDec3_0, tick_eq, tickV_eq, ne_eq, Int.reduceAdd, Int.reduceSub, Int.reduceMul, Int.reduceEq, Int.reduceLT, Int.reduceLE, Int.reduceToNat, Nat.reduceMul, Nat.reduceAdd, Nat.reduceSub, ←decide_not, hc1, efr, k9, f9]
  refine xLoop_n (nR l) (fun j => [i64 (j : Int)]) (fun j w' => Ext [hx] y w' ∧ OwnGN w' v ns ∧ ∃ v2, OwnGR w' v2 ((decRs l os).take j) ∧ Blk w' hx 25 [v, v2] ∧ (∀ z ∈ blk v2, y.heap.size ≤ z) ∧ (∀ z ∈ blk v2, z ∉ blk v) ∧ ∀ x ∈ ns, NOk w' x ∧ Apt (hx :: (blk v ++ blk v2)) x) rfl ⟨F, O, .slice none 0 0, Own.nil, B, fun z hz => absurd hz (nilb z), fun z hz => absurd hz (nilb z), fun x hx' => ⟨(A x hx').1, by have := (A x hx').2; simpa [blk, Value.ownBlock] using this⟩⟩ ?_ ?_
  · rintro j hj u x1 hu ⟨F, O, v2, R, B, U2, D, A⟩ nxt hnx
    simp only [List.map_cons, List.map_nil, List.cons.injEq, and_true] at hu
    rw [hu]
    obtain ⟨a0, c0', hv0, _⟩ := R.slice
    subst hv0
    have hlen : ((decRs l os).take j).length = j := by rw [List.length_take, decRs_len]; omega
    unfold image_Decode_l2
    have Ed := Ext.drew [] x1
    have kr := fun i => ((Bry.ext F ner).ext Ed (by simp)).cell (i := i)
    have kb := fun i => (B.ext Ed (by simp)).cell (i := i)
    have ea : (2 + 5 * (j : Int)) = ((2 + 5 * j : Nat) : Int) := by omega
    simp (disch := (first | omega | decide | (simp only [rsD] <;> omega) | fail)) only [↓rsC, rsK, rsL, ↓rsDec3_0, tick_eq, tickV_eq, ne_eq, Int.reduceAdd, Int.reduceSub, Int.reduceMul, Int.reduceEq, Int.reduceLT, Int.reduceLE, Int.reduceToNat, Nat.reduceMul, Nat.reduceAdd, Nat.reduceSub, ←decide_not, hc1, efr, k9, f9, kr, kb, ea]
    have Fd := F.trans (Ed.more (by simp))
    refine image_reader_root_call (Gives.to (rroot_spec (Sx Fd) (Ra Fd) hsort hosl hob2 (2 + 5 * j) (by omega)) fun x2 F2 => ?_)
    have F02 := Fd.trans (F2.more (by simp))
    have B2 := (B.ext Ed (by simp)).ext F2 (by simp)
    have R2 := (R.ext0 Ed).ext0 F2
    have O2 := (O.ext0 Ed).ext0 F2
    have zb2 := B2.lt
    have k2 := fun i => B2.cell (i := i)
    simp (disch := (first | omega | decide | (simp only [rsD] <;> omega) | fail)) only [↓rsC, rsK, rsL, ↓rsDec3_0, tick_eq, tickV_eq, ne_eq, Int.reduceAdd, Int.reduceSub, Int.reduceMul, Int.reduceEq, Int.reduceLT, Int.reduceLE, Int.reduceToNat, Nat.reduceMul, Nat.reduceAdd, Nat.reduceSub, ←decide_not, hc1, efr, k9, f9, kr, kb, ea, k2]
    refine appGR R2 (x := ⟨nameS l (2 + 5 * j), numb os (wat l (2 + 5 * j + 4))⟩) rfl (by omega) fun v' x5 R5 T5 => ?_
    obtain ⟨F5, U5, n1, n2⟩ := grow F02 U2 hlt T5
    have B5 := B2.ext T5.ext n1
    have O5 := O2.ext T5.ext (fun z hz hm => D z hm hz)
    obtain ⟨a3, c3, hv3, _⟩ := R5.slice
    have k5 := fun i => B5.cell (i := i)
    have f5 := fun i => B5.frozen (i := i)
    have hsu : (decRs l os).take (j + 1) = (decRs l os).take j ++ [⟨nameS l (2 + 5 * j), numb os (wat l (2 + 5 * j + 4))⟩] := by
      rw [List.take_add_one, List.getElem?_eq_getElem (by rw [decRs_len]; exact hj), decRs_get]
      rfl
    rw [← hsu] at R5 hv3
    subst hv3
    simp (disch := (first | omega | decide | (simp only [rsD] <;> omega) | fail)) only [↓rsC, rsK, rsL, ↓rsDec3_0, tick_eq, tickV_eq, ne_eq, Int.reduceAdd, Int.reduceSub, Int.reduceMul, Int.reduceEq, Int.reduceLT, Int.reduceLE, Int.reduceToNat, Nat.reduceMul, Nat.reduceAdd, Nat.reduceSub, ←decide_not, hc1, efr, k9, f9, kr, kb, ea, k2, k5, f5]
    have B6 := B5.set (i := 1) (v := .slice a3 ((decRs l os).take (j + 1)).length c3)
    have hxv : hx ∉ blk v := fun hm => by have := U _ hm; omega
    have D5 : ∀ z ∈ blk (.slice a3 ((decRs l os).take (j + 1)).length c3), z ∉ blk v := fun z hz hm => by
      rcases T5.at' z hz with h1 | h1
      · exact D z h1 hm
      · have := O2.lt z hm
        omega
    have R6 := R5.ext (Ext.set (w := x5) (b := hx) (o := 1) (v := .slice a3 ((decRs l os).take (j + 1)).length c3)) (fun z hz hm => by simp only [List.mem_singleton] at hm; subst hm; exact n2 hz)
    have O6 := O5.ext (Ext.set (w := x5) (b := hx) (o := 1) (v := .slice a3 ((decRs l os).take (j + 1)).length c3)) (fun z hz hm => by simp only [List.mem_singleton] at hm; subst hm; exact hxv hz)
    refine hnx _ ⟨F5.set' (.inl (by simp)), O6, _, R6, B6, U5, D5, fun q hq => ?_⟩
    have hA : NOk x2 q ∧ Apt (hx :: (blk v ++ blk (.slice a0 ((decRs l os).take j).length c0'))) q := ⟨((A q hq).1.ext0 Ed).ext0 F2, (A q hq).2⟩
    have hA2 := hA.1.ext (T5.ext.more (fun z hz => List.mem_cons_of_mem hx (List.mem_append_right _ hz))) hA.2
    have hA3 : Apt (hx :: (blk v ++ blk (.slice a3 ((decRs l os).take (j + 1)).length c3))) q := hA.2.more hA.1 fun b hb => by
      rcases List.mem_cons.1 hb with e | e
      · exact .inl (by rw [e]; exact List.mem_cons_self ..)
      · rcases List.mem_append.1 e with e | e
        · exact .inl (List.mem_cons_of_mem _ (List.mem_append_left _ e))
        · exact (T5.at' b e).imp (fun h => List.mem_cons_of_mem _ (List.mem_append_right _ h)) id
    exact ⟨hA2.ext (Ext.set.more (by simp)) hA3, hA3⟩
  rintro u x1 hu ⟨F, O, v2, R, B, U2, D, A⟩ nxt
  simp only [List.map_cons, List.map_nil, List.cons.injEq, and_true] at hu
  rw [hu]
  have etk : (decRs l os).take (nR l) = decRs l os := List.take_of_length_le (by rw [decRs_len]; exact Nat.le_refl _)
  rw [etk] at R
  obtain ⟨na, nc, hvn, hnc, _, hnn, Rn, _⟩ := O.slice
  obtain ⟨ra, rc, hvr, hrc, _, hrn, Rr, _⟩ := R.slice
  subst hvn hvr
  have G : GIs x1 na nc ra rc ns (decRs l os) := ⟨Rn, hnc, hnn, Rr, hrc, hrn, fun x hx' => (A x hx').1⟩
  have k1 := fun i => B.cell (i := i)
  unfold image_Decode_l2
  simp (disch := (first | omega | decide | (simp only [rsD] <;> omega) | fail)) only [↓rsC, rsK, rsL, ↓rsDec3_0, tick_eq, tickV_eq, ne_eq, Int.reduceAdd, Int.reduceSub, Int.reduceMul, Int.reduceEq, Int.reduceLT, Int.reduceLE, Int.reduceToNat, Nat.reduceMul, Nat.reduceAdd, Nat.reduceSub, ←decide_not, hc1, efr, k9, f9, k1]
  have hxl : ∀ x ∈ ns, x.p.length ≤ 64 ∧ x.d.length ≤ 1024 := fun x hx' => by
    have : bare x ∈ decNs l os := by rw [← hns]; exact List.mem_map.2 ⟨x, hx', rfl⟩
    obtain ⟨o, ho', e⟩ := List.mem_map.1 this
    obtain ⟨v1, v2, v3, v4, v5, v6, v7, v8⟩ := okW_v (hall o ho').2.1
    have e1 : x.p = decP l os o := congrArg GN.p e.symm
    have e2 : x.d = decD l o := congrArg GN.d e.symm
    rw [e1, e2]
    refine ⟨by simpa [decP] using v7, by simpa [decD, bytesW_length] using v8⟩
  have hf : FewH ns (decRs l os) := ⟨by omega, by rw [decRs_len]; omega, fun x hx' => by have := hxl x hx'; omega⟩
  refine image_Encode_call (Yld.mono (iEncode_spec G hf) ?_)
  have hEn : encW ns (decRs l os) = encW (decNs l os) (decRs l os) := by rw [← hns, bare_enc]
  have hGn : GoodG (decNs l os) (decRs l os) ↔ GoodG ns (decRs l os) := by rw [← hns, bare_good]
  have hgW : gW (decNs l os) = gW ns := by rw [← hns, bare_gW]
  have fail2 : ∀ y1 : World, Ext [] w y1 → (∀ os, ¬ DecOk l os) → Ext [] w ((y1.setCell ⟨g0, 0, none⟩ (.slice none 0 0)).setCell ⟨g0, 1, none⟩ (.slice none 0 0)) ∧ DecR ((y1.setCell ⟨g0, 0, none⟩ (.slice none 0 0)).setCell ⟨g0, 1, none⟩ (.slice none 0 0)) l (.tuple #[.agg #[.slice none 0 0, .slice none 0 0], i64 2]) :=
    fun y1 F1 hno => ⟨(F1.set' (.inr zw)).set' (.inr zw), .inr ⟨hno, rfl⟩⟩
  have uniq : ∀ os', DecOk l os' → os' = os := fun os' D => (D.sc.uniq hsc).1
  rintro u x2 (⟨hne, rfl, E2⟩ | ⟨h0', hgood, hneed, ae, ce, rfl, hce, _, Re, E2⟩)
  · have B02 := (B0y.ext F ne0).ext E2 (by simp)
    have k2 := fun i => B02.cell (i := i)
    have f2 := fun i => B02.frozen (i := i)
    simp (disch := (first | omega | decide | (simp only [rsD] <;> omega) | fail)) only [↓rsC, rsK, rsL, ↓rsDec3_0, tick_eq, tickV_eq, ne_eq, Int.reduceAdd, Int.reduceSub, Int.reduceMul, Int.reduceEq, Int.reduceLT, Int.reduceLE, Int.reduceToNat, Nat.reduceMul, Nat.reduceAdd, Nat.reduceSub, ←decide_not, hc1, efr, k9, f9, k1, hne, k2, f2]
    refine fail2 x2 ((fresh F).trans E2) fun os' Q => hne ?_
    have := uniq os' Q
    subst this
    have hlen := enc_len Q.good
    rw [Q.enc, hgW] at hlen
    unfold encC
    rw [if_neg (by rw [chk_zero.2 (hGn.1 Q.good)]; simp), if_neg (by omega)]
  · have hel : (encW ns (decRs l os)).length ≤ 1000000 := by rw [enc_len hgood]; omega
    simp (disch := (first | omega | decide | (simp only [rsD] <;> omega) | fail)) only [↓rsC, rsK, rsL, ↓rsDec3_0, tick_eq, tickV_eq, ne_eq, Int.reduceAdd, Int.reduceSub, Int.reduceMul, Int.reduceEq, Int.reduceLT, Int.reduceLE, Int.reduceToNat, Nat.reduceMul, Nat.reduceAdd, Nat.reduceSub, ←decide_not, hc1, efr, k9, f9, k1]
    refine slices_Equal_uint64_uint64_call (Gives.to (EqualW_spec Re (h.ext0 ((fresh F).trans E2)) hel (by omega)) fun x3 E3 => ?_)
    have E23 := E2.trans E3
    have B03 := (B0y.ext F ne0).ext E23 (by simp)
    have k3 := fun i => B03.cell (i := i)
    have f3 := fun i => B03.frozen (i := i)
    by_cases heq : encW ns (decRs l os) = l
    case neg =>
      rw [decide_eq_false heq]
      simp (disch := (first | omega | decide | (simp only [rsD] <;> omega) | fail)) only [↓rsC, rsK, rsL, ↓rsDec3_0, tick_eq, tickV_eq, ne_eq, Int.reduceAdd, Int.reduceSub, Int.reduceMul, Int.reduceEq, Int.reduceLT, Int.reduceLE, Int.reduceToNat, Nat.reduceMul, Nat.reduceAdd, Nat.reduceSub, ←decide_not, hc1, efr, k9, f9, k1, k3, f3]
      refine fail2 x3 ((fresh F).trans E23) fun os' Q => heq ?_
      have := uniq os' Q
      subst this
      rw [hEn]
      exact Q.enc
    rw [decide_eq_true heq]
    have DO : DecOk l os := ⟨by omega, by omega, hsc, hGn.2 hgood, by rw [← hEn]; exact heq⟩
    have Ed := Ext.drew [] x3
    have B3 := (B.ext E23 (by simp)).ext Ed (by simp)
    have k3d := fun i => B3.cell (i := i)
    have E3d := E23.trans Ed
    simp (disch := (first | omega | decide | (simp only [rsD] <;> omega) | fail)) only [↓rsC, rsK, rsL, ↓rsDec3_0, tick_eq, tickV_eq, ne_eq, Int.reduceAdd, Int.reduceSub, Int.reduceMul, Int.reduceEq, Int.reduceLT, Int.reduceLE, Int.reduceToNat, Nat.reduceMul, Nat.reduceAdd, Nat.reduceSub, ←decide_not, hc1, efr, k9, f9, k1, k3d]
    refine slices_Clip_graph_Node_graph_Node_call (Gives.to (ClipGN_spec hnc) fun x4 E4 => ?_)
    have B4 := B3.ext E4 (by simp)
    have k4 := fun i => B4.cell (i := i)
    simp (disch := (first | omega | decide | (simp only [rsD] <;> omega) | fail)) only [↓rsC, rsK, rsL, ↓rsDec3_0, tick_eq, tickV_eq, ne_eq, Int.reduceAdd, Int.reduceSub, Int.reduceMul, Int.reduceEq, Int.reduceLT, Int.reduceLE, Int.reduceToNat, Nat.reduceMul, Nat.reduceAdd, Nat.reduceSub, ←decide_not, hc1, efr, k9, f9, k1, k3d, k4]
    refine slices_Clip_graph_Root_graph_Root_call (Gives.to (ClipGR_spec hrc) fun x5 E5 => ?_)
    have B5 := B4.ext E5 (by simp)
    have k5 := fun i => B5.cell (i := i)
    have f5 := fun i => B5.frozen (i := i)
    have E15 := E3d.trans (E4.trans E5)
    have B05 := (B0y.ext F ne0).ext E15 (by simp)
    have k05 := fun i => B05.cell (i := i)
    have f05 := fun i => B05.frozen (i := i)
    have ne0x : g0 ≠ hx := by omega
    simp (disch := (first | omega | decide | (simp only [rsD] <;> omega) | fail)) only [↓rsC, rsK, rsL, ↓rsDec3_0, tick_eq, tickV_eq, ne_eq, Int.reduceAdd, Int.reduceSub, Int.reduceMul, Int.reduceEq, Int.reduceLT, Int.reduceLE, Int.reduceToNat, Nat.reduceMul, Nat.reduceAdd, Nat.reduceSub, ←decide_not, hc1, efr, k9, f9, k1, k3d, k4, k5, f5, k05, f05, ne0x]
    have FE : Ext [g0, hx] x5 ((((x5.setCell ⟨hx, 0, none⟩ (.slice na ns.length ns.length)).setCell ⟨hx, 1, none⟩ (.slice ra (decRs l os).length (decRs l os).length)).setCell ⟨g0, 0, none⟩ (.slice na ns.length ns.length)).setCell ⟨g0, 1, none⟩ (.slice ra (decRs l os).length (decRs l os).length)) := ((((Ext.refl _ _).set' (.inl (by simp))).set' (.inl (by simp))).set' (.inl (by simp))).set' (.inl (by simp))
    have Fw := (fresh F).trans E15
    have zX : w.heap.size ≤ hx := by have := X10.size; omega
    refine ⟨(((Fw.set' (.inr zX)).set' (.inr zX)).set' (.inr zw)).set' (.inr zw), .inl ⟨os, na, ns.length, ra, (decRs l os).length, ns, DO, hns, rfl, ?_⟩⟩
    have nna : ∀ b o, na = some ⟨b, o, none⟩ → b ∉ [g0, hx] := fun b o hb hm => by
      have := U b (by rw [hb]; simp [blk, Value.ownBlock])
      simp only [List.mem_cons, List.not_mem_nil, or_false] at hm
      omega
    have nra : ∀ b o, ra = some ⟨b, o, none⟩ → b ∉ [g0, hx] := fun b o hb hm => by
      have := U2 b (by rw [hb]; simp [blk, Value.ownBlock])
      simp only [List.mem_cons, List.not_mem_nil, or_false] at hm
      omega
    refine ⟨(Rn.ext0 E15).ext FE nna, Nat.le_refl _, fun e => by have := hnn e; omega, (Rr.ext0 E15).ext FE nra, Nat.le_refl _, fun e => by have := hrn e; omega, fun q hq => ?_⟩
    have hA := A q hq
    have hk := hA.1.ext0 E15
    have hA2 := hA.2.cons hk B05 (by simp)
    exact hk.ext (FE.more (by simp)) hA2
end Go.Proofs.Ytdpmidgeipibbaa
end
section
set_option linter.unusedVariables false
set_option linter.unusedSimpArgs false
set_option maxHeartbeats 4000000
namespace Go.Proofs.Ytdpmidgeipibbaa
open Go.Sh Go.RowKit

abbrev NewIt (w w' : World) (v : Value) (l : List Int) : Prop := NewR 3 1 w w' v l.length (its l)
abbrev bls (l : List Bool) : List Value := l.map fun b => .bool b
abbrev rsRea1_0 := (And.intro @xu8_eql (And.intro @xu16_eql (And.intro @xu32_eql (And.intro @xu64_eql (And.intro @xi64_eql (And.intro @bs_66_0 (And.intro @bs_66_1 @nq_66)))))))
theorem CloneI_spec (l : List Int) (a : Option Addr) (c : Nat) (w : World) (hl : l.length ≤ 1000000) (h : RowAt w a (its l)) (hn : a = none → c = 0) :
    Yld Try.prog n_slices_Clone_int_int #[.slice a l.length c] w fun u w' => NewIt w w' u l := by
  refine slices_Clone_int_int_of ?_
  unfold slices_Clone_int_int
  cases a with
  | none =>
    have hw : l = [] := by rcases h with h | ⟨b, o, h, _⟩; simpa using h; cases h
    subst hw
    simp (disch := (first | omega | decide | (simp only [rsD] <;> omega) | fail)) only [↓rsC, rsK, rsL, ↓rsRea1_0, tick_eq, tickV_eq, ne_eq, Int.reduceAdd, Int.reduceSub, Int.reduceMul, Int.reduceEq, Int.reduceLT, Int.reduceLE, Int.reduceToNat, Nat.reduceMul, Nat.reduceAdd, Nat.reduceSub, ←decide_not, eq_self]
    exact NewR.nil (Ext.refl _ _)
  | some a =>
    simp (disch := (first | omega | decide | (simp only [rsD] <;> omega) | fail)) only [↓rsC, rsK, rsL, ↓rsRea1_0, tick_eq, tickV_eq, ne_eq, Int.reduceAdd, Int.reduceSub, Int.reduceMul, Int.reduceEq, Int.reduceLT, Int.reduceLE, Int.reduceToNat, Nat.reduceMul, Nat.reduceAdd, Nat.reduceSub, ←decide_not, eq_self]
    refine xAppend_own (e := 3) (base := w.heap.size) (xs := []) (news := its l) (z := .int .i64 0) (bytes := 8) (by kernel_rfl) (by kernel_rfl) (by rfl) (World.ownsRow_lit w #[] 0 (Nat.le_refl _) (by decide) (by rfl)) (by simp) (h.ext0 (Ext.alloc _ _ _)) hn (by simp [Value.oneCell']) (by omega) (by omega) (by simp) ?_
    intro v' w' hown hgr
    rw [Nat.zero_add, List.nil_append] at hown
    have F2 : Ext [] w w' := grownBy_new (Ext.alloc [] w _) hgr (fun k hk => by simp [Value.ownBlock] at hk; omega)
    exact ⟨F2, Own.of hown, fun b hb => (World.ownsRow.lt hown b (by simpa using hb)).1⟩
abbrev rsRea1_1 := (And.intro @xu8_sub (And.intro @xu8_lss (And.intro @xu8_gtr (And.intro @xu16_sub (And.intro @xu16_lss (And.intro @xu16_gtr (And.intro @xu32_sub (And.intro @xu32_lss (And.intro @xu32_gtr (And.intro @xu64_sub (And.intro @xu64_lss (And.intro @xu64_gtr (And.intro @xi64_lss (And.intro @xi64_gtr (And.intro @ld_3 (And.intro @ld_4 
  (And.intro @ld_22 (And.intro @ld_66 (And.intro @fa_25_0 (And.intro @fa_72_0 (And.intro @st_4 (And.intro @ia_22 (And.intro @ia_66 (And.intro @ia_147 (And.intro @ln_22 (And.intro @ln_66 (And.intro @mk_147 (And.intro @sh_66 @sm_66))))))))))))))))))))))))))))
theorem Reach_spec {w : World} {na ra : Option Addr} {nc rc : Nat} {ns : List GN} {rs : List GR} (h : GIs w na nc ra rc ns rs) (hf : FewH ns rs) {fr : List Int} {a : Option Addr} {c : Nat} (hfr : RowAt w a (its fr)) (hn : a = none → c = 0) (hl : fr.length ≤ 1000000) :
    Yld Try.prog n_graph_Reach #[gV na nc ra rc ns rs, .slice a fr.length c] w fun u w' => ∃ bs, RchOk ns fr bs ∧ NewR 4 1 w w' u bs.length (bls bs) := by
  have hfn := hf.n
  refine graph_Reach_of ?_
  unfold graph_Reach
  have gbox : ∀ (y : World) (K : K1), xBox Try.prog 25 (gV na nc ra rc ns rs) y K = K (ptr y.heap.size) (y.alloc (.cells #[.slice na ns.length nc, .slice ra rs.length rc] 25)) := fun y K => xBox_r
  rw [gbox]
  have B1 : Blk (w.alloc (.cells #[.slice na ns.length nc, .slice ra rs.length rc] 25)) w.heap.size 25 [.slice na ns.length nc, .slice ra rs.length rc] := Blk.at rfl
  have X1 : Ext [] w (w.alloc (.cells #[.slice na ns.length nc, .slice ra rs.length rc] 25)) := Ext.alloc _ _ _
  generalize w.alloc (.cells #[.slice na ns.length nc, .slice ra rs.length rc] 25) = y1 at *
  generalize hg1 : w.heap.size = g1 at *
  have k1 := fun i => B1.cell (i := i)
  simp (disch := (first | omega | decide | (simp only [rsD] <;> omega) | fail)) only [↓rsC, rsK, rsL, ↓rsRea1_1, tick_eq, tickV_eq, ne_eq, Int.reduceAdd, Int.reduceSub, Int.reduceMul, Int.reduceEq, Int.reduceLT, Int.reduceLE, Int.reduceToNat, Nat.reduceMul, Nat.reduceAdd, Nat.reduceSub, ←decide_not, k1]
  have B2 : Blk (y1.alloc (.cells (List.replicate ns.length (Value.bool false)).toArray 4)) y1.heap.size 4 (bls (List.replicate ns.length false)) := by
    rw [show bls (List.replicate ns.length false) = List.replicate ns.length (Value.bool false) from List.map_replicate]
    exact Blk.at rfl
  have X2 : Ext [] y1 (y1.alloc (.cells (List.replicate ns.length (Value.bool false)).toArray 4)) := Ext.alloc _ _ _
  have B12 := B1.ext X2 (by simp)
  have z1 := X1.size
  have z1' := B1.lt
  generalize y1.alloc (.cells (List.replicate ns.length (Value.bool false)).toArray 4) = y2 at *
  obtain ⟨ob, hob⟩ : ∃ g, g = y1.heap.size := ⟨_, rfl⟩
  rw [← hob] at B2 ⊢
  have zob := B2.lt
  have X12 := X1.trans X2
  have G2 := h.ext0 X12
  refine slices_Clone_int_int_call (Yld.mono (CloneI_spec fr a c y2 hl (hfr.ext0 X12) hn) ?_)
  rintro v y3 N3
  obtain ⟨N, hN⟩ : ∃ N, N = wtR ns (List.replicate ns.length false) + fr.length := ⟨_, rfl⟩
  have hNb : N ≤ 90000000 := by
    have h1 := wtR_le (B := 9000) ns (List.replicate ns.length false) (fun x hx => (hf.x x hx).1)
    have h2 : ns.length * 9001 ≤ 9000 * 9001 := Nat.mul_le_mul_right _ hfn
    omega
  have fresh : ∀ {w' : World}, Ext [ob] y2 w' → Ext [] w w' := fun F => X12.new F (fun z hz => by simp only [List.mem_singleton] at hz; omega)
  have ne1 : g1 ∉ [ob] := by simp only [List.mem_singleton]; omega
  have fin : ∀ (out : List Bool) (v : Value) (w' : World) nxt, RchI ns fr out [] → Ext [ob] y2 w' → Blk w' ob 4 (bls out) → OwnIt w' v [] → graph_Reach_l1 (fun u w' => ∃ bs, RchOk ns fr bs ∧ NewR 4 1 w w' u bs.length (bls bs)) nxt (ptr g1) (.slice (some ⟨ob, 0, none⟩) ns.length ns.length) v w' := by
    intro out v w' nxt I F B O
    obtain ⟨a0, c0, hv, _⟩ := O.slice
    subst hv
    unfold graph_Reach_l1
    simp (disch := (first | omega | decide | (simp only [rsD] <;> omega) | fail)) only [↓rsC, rsK, rsL, ↓rsRea1_1, tick_eq, tickV_eq, ne_eq, Int.reduceAdd, Int.reduceSub, Int.reduceMul, Int.reduceEq, Int.reduceLT, Int.reduceLE, Int.reduceToNat, Nat.reduceMul, Nat.reduceAdd, Nat.reduceSub, ←decide_not, k1]
    have hlen := I.len
    refine ⟨out, rch_done I, fresh F, ?_, fun z hz => ?_⟩
    · rw [← hlen]
      exact Own.close (rest := []) (by rw [List.append_nil]; exact B) (Nat.le_refl _) (by simp only [maxLen]; omega) (by simp) (by simp)
    · simp [blk, Value.ownBlock] at hz
      omega
  refine xLoop_r N (fun k vs w' => ∃ out l v, vs = [v] ∧ RchI ns fr out l ∧ wtR ns out + l.length ≤ N - k ∧ Ext [ob] y2 w' ∧ Blk w' ob 4 (bls out) ∧ OwnIt w' v l ∧ ∀ z ∈ blk v, y2.heap.size ≤ z) ⟨_, fr, v, rfl, rch_init, by omega, N3.1.more (by simp), B2.ext N3.1 (by simp), N3.2.1, N3.2.2⟩ ?_ ?_
  rotate_left
  · rintro u w4 ⟨out, l, v4, hu, I, hw, F, B, O, U⟩ nxt
    simp only [List.map_cons, List.map_nil, List.cons.injEq, and_true] at hu
    rw [hu]
    have hl0 : l = [] := List.eq_nil_of_length_eq_zero (by omega)
    subst hl0
    exact fin out v4 w4 nxt I F B O
  rintro k hk u w4 ⟨out, l, v4, hu, I, hw, F, B, O, U⟩ nxt hnx
  simp only [List.map_cons, List.map_nil, List.cons.injEq, and_true] at hu
  rw [hu]
  rcases List.eq_nil_or_concat l with hl0 | ⟨l', q, hl0⟩
  · subst hl0
    exact fin out v4 w4 nxt I F B O
  rw [List.concat_eq_append] at hl0
  subst hl0
  have hll : (l' ++ [q]).length = l'.length + 1 := by simp
  rw [hll] at hw
  have O' : Own w4 3 1 v4 (l'.length + 1) (its (l' ++ [q])) := by
    have := O
    unfold OwnIt at this
    rw [hll] at this
    exact this
  obtain ⟨a4, c4, rfl, Op, hblk⟩ := O'.pop
  have htk : (its (l' ++ [q])).take l'.length = its l' := by simp
  rw [htk] at Op
  obtain ⟨_, _, hvv, hc4, _, _, R4, _⟩ := O'.slice
  cases hvv
  obtain ⟨bq, oq, eq, _, cq⟩ := R4.at (i := l'.length) (by simp)
  cases eq
  have hcq : w4.cell? ⟨bq, oq + l'.length, none⟩ = some (i64 q) := by rw [cq]; simp
  have k1 := fun i => (B12.ext F ne1).cell (i := i)
  have t1 : (((l'.length + 1 : Nat) : Int) - 1).toNat = l'.length := by omega
  have e1 : ((l'.length + 1 : Nat) : Int) - 1 = (l'.length : Int) := by omega
  have hpos : 0 < ((l'.length + 1 : Nat) : Int) := by omega
  unfold graph_Reach_l1
  simp (disch := (first | omega | decide | (simp only [rsD] <;> omega) | fail)) only [↓rsC, rsK, rsL, ↓rsRea1_1, tick_eq, tickV_eq, ne_eq, Int.reduceAdd, Int.reduceSub, Int.reduceMul, Int.reduceEq, Int.reduceLT, Int.reduceLE, Int.reduceToNat, Nat.reduceMul, Nat.reduceAdd, Nat.reduceSub, ←decide_not, k1, e1, t1, hcq]
  rw [t1]
  have U' : ∀ z ∈ blk (.slice (some ⟨bq, oq, none⟩) l'.length c4), y2.heap.size ≤ z := fun z hz => U z (by rw [← hblk]; exact hz)
  have skip : (okNo ns.length q → out.getD (q.toNat - 1) false = true) → nxt [.slice (some ⟨bq, oq, none⟩) l'.length c4] w4 := fun hs => hnx _ _ ⟨out, l', _, rfl, rch_skip I hs, by omega, F, B, Op, U'⟩
  have hlen := I.len
  by_cases hq1 : q < 1
  · simp (disch := (first | omega | decide | (simp only [rsD] <;> omega) | fail)) only [↓rsC, rsK, rsL, ↓rsRea1_1, tick_eq, tickV_eq, ne_eq, Int.reduceAdd, Int.reduceSub, Int.reduceMul, Int.reduceEq, Int.reduceLT, Int.reduceLE, Int.reduceToNat, Nat.reduceMul, Nat.reduceAdd, Nat.reduceSub, ←decide_not, k1, e1, t1, hcq, hq1]
    exact skip fun ho => by omega
  by_cases hq2 : (ns.length : Int) < q
  · simp (disch := (first | omega | decide | (simp only [rsD] <;> omega) | fail)) only [↓rsC, rsK, rsL, ↓rsRea1_1, tick_eq, tickV_eq, ne_eq, Int.reduceAdd, Int.reduceSub, Int.reduceMul, Int.reduceEq, Int.reduceLT, Int.reduceLE, Int.reduceToNat, Nat.reduceMul, Nat.reduceAdd, Nat.reduceSub, ←decide_not, k1, e1, t1, hcq, hq1, hq2]
    exact skip fun ho => by omega
  have hi : q.toNat - 1 < ns.length := by omega
  have hi' : q.toNat - 1 < out.length := by omega
  have tq : (q - 1).toNat = q.toNat - 1 := by omega
  have hqb : q ≤ 9000 := by omega
  have kb := fun i => B.cell (i := i)
  have fb := fun i => B.frozen (i := i)
  have cb : (bls out)[q.toNat - 1]? = some (.bool out[q.toNat - 1]) := by simp [hi']
  cases hob2 : out[q.toNat - 1] with
  | true =>
    rw [hob2] at cb
    simp (disch := (first | omega | decide | (simp only [rsD] <;> omega) | fail)) only [↓rsC, rsK, rsL, ↓rsRea1_1, tick_eq, tickV_eq, ne_eq, Int.reduceAdd, Int.reduceSub, Int.reduceMul, Int.reduceEq, Int.reduceLT, Int.reduceLE, Int.reduceToNat, Nat.reduceMul, Nat.reduceAdd, Nat.reduceSub, ←decide_not, k1, e1, t1, hcq, hq1, hq2, kb, tq, cb]
    exact skip fun _ => by rw [getD_at hi', hob2]
  | false =>
    rw [hob2] at cb
    obtain ⟨bn, on, rfl, zn, _, _⟩ := gn_at h.nr hi
    obtain ⟨_, _, en, _, c1, c2⟩ := gn_at (h.nr.ext0 (fresh F)) hi
    cases en
    have hx := h.ok _ (List.getElem_mem hi)
    have lx := hf.x _ (List.getElem_mem hi)
    have hws := wtR_set ns out (q.toNat - 1) hi hi' hob2
    have Inew := rch_new I ⟨by omega, by omega⟩ hi
    have nbo : bn ≠ ob := by omega
    generalize ns[q.toNat - 1] = x at *
    simp (disch := (first | omega | decide | (simp only [rsD] <;> omega) | fail)) only [↓rsC, rsK, rsL, ↓rsRea1_1, tick_eq, tickV_eq, ne_eq, Int.reduceAdd, Int.reduceSub, Int.reduceMul, Int.reduceEq, Int.reduceLT, Int.reduceLE, Int.reduceToNat, Nat.reduceMul, Nat.reduceAdd, Nat.reduceSub, ←decide_not, k1, e1, t1, hcq, hq1, hq2, kb, tq, cb, fb, c1]
    have E5 : Ext [ob] w4 (w4.setCell ⟨ob, q.toNat - 1, none⟩ (.bool true)) := Ext.set
    have B5 := B.set (i := q.toNat - 1) (v := .bool true)
    have eb : (bls out).set (q.toNat - 1) (.bool true) = bls (out.set (q.toNat - 1) true) := List.map_set.symm
    rw [eb] at B5
    have F5 := F.trans E5
    have nob : ob ∉ blk (.slice (some ⟨bq, oq, none⟩) l'.length c4) := fun hm => by have := U' _ hm; omega
    have O5 := Op.ext E5 (fun z hz hm => by simp only [List.mem_singleton] at hm; subst hm; exact nob hz)
    generalize w4.setCell ⟨ob, q.toNat - 1, none⟩ (.bool true) = w5 at *
    have hx5 := hx.ext0 (fresh F5)
    refine xApp (e := 3) (s := 1) (n := l'.length) (m := x.p.length) (xs := its l') (news := its x.p) (bytes := 8) (z := .int .i64 0) (by kernel_rfl) (by kernel_rfl) (by rfl) (by decide) O5 (by simp) hx5.pr hx5.pn hx5.pl (by simp [Value.oneCell']) (by omega) (by omega) fun v' w6 O6 T6 => ?_
    obtain ⟨F6, U6, _, _⟩ := grow F5 U' zob T6
    have hl2 : (l' ++ x.p).length = l'.length + x.p.length := by simp
    refine hnx _ _ ⟨out.set (q.toNat - 1) true, l' ++ x.p, v', rfl, Inew, by omega, F6, B5.ext T6.ext nob, ?_, U6⟩
    show Own w6 3 1 v' (l' ++ x.p).length (its (l' ++ x.p))
    rw [hl2, its, List.map_append]
    exact O6
end Go.Proofs.Ytdpmidgeipibbaa
end
section
set_option linter.unusedVariables false
set_option linter.unusedSimpArgs false
set_option maxHeartbeats 4000000
namespace Go.Proofs.Ytdpmidgeipibbaa
open Go.Sh Go.RowKit

abbrev tosL (rs : List GR) : List Int := rs.map GR.to
abbrev rsNam1_0 := (And.intro @xu8_add (And.intro @xu8_lss (And.intro @xu16_add (And.intro @xu16_lss (And.intro @xu32_add (And.intro @xu32_lss (And.intro @xu64_add (And.intro @xu64_lss (And.intro @xi64_lss (And.intro @ld_3 (And.intro @ld_23 (And.intro @ld_74 (And.intro @fa_25_1 (And.intro @fa_74_1 (And.intro @al_74 (And.intro @st_74 (And.intro @ia_23 
  (And.intro @ln_23 (And.intro @bs_66_0 @bs_66_1)))))))))))))))))))
theorem Named_spec {w : World} {na ra : Option Addr} {nc rc : Nat} {ns : List GN} {rs : List GR} (h : GIs w na nc ra rc ns rs) (hrl : rs.length ≤ 9000) :
    Yld Try.prog n_graph_Named #[gV na nc ra rc ns rs] w fun u w' => Ext [] w w' ∧ ∃ a, u = .slice a rs.length rs.length ∧ RowAt w' a (its (tosL rs)) ∧ (a = none → rs.length = 0) ∧ (a = none ∨ ∃ g, a = some ⟨g, 0, none⟩) ∧ ∀ y, a = some y → w.heap.size ≤ y.block := by
  refine graph_Named_of ?_
  unfold graph_Named
  have gbox : ∀ (y : World) (K : K1), xBox Try.prog 25 (gV na nc ra rc ns rs) y K = K (ptr y.heap.size) (y.alloc (.cells #[.slice na ns.length nc, .slice ra rs.length rc] 25)) := fun y K => xBox_r
  rw [gbox]
  have B1 : Blk (w.alloc (.cells #[.slice na ns.length nc, .slice ra rs.length rc] 25)) w.heap.size 25 [.slice na ns.length nc, .slice ra rs.length rc] := Blk.at rfl
  have X1 : Ext [] w (w.alloc (.cells #[.slice na ns.length nc, .slice ra rs.length rc] 25)) := Ext.alloc _ _ _
  have h1 := h.ext0 X1
  generalize w.alloc (.cells #[.slice na ns.length nc, .slice ra rs.length rc] 25) = y1 at *
  generalize hg1 : w.heap.size = g1 at *
  have k1 := fun i => B1.cell (i := i)
  simp (disch := (first | omega | decide | (simp only [rsD] <;> omega) | fail)) only [↓rsC, rsK, rsL, ↓rsNam1_0, tick_eq, tickV_eq, ne_eq, Int.reduceAdd, Int.reduceSub, Int.reduceMul, Int.reduceEq, Int.reduceLT, Int.reduceLE, Int.reduceToNat, Nat.reduceMul, Nat.reduceAdd, Nat.reduceSub, ←decide_not, k1]
  refine xLoop_r rs.length (fun j vs w' => ∃ v, vs = [v, i64 (j : Int)] ∧ NewIt y1 w' v ((tosL rs).take j)) ⟨_, rfl, NewR.nil (Ext.refl _ _)⟩ ?_ ?_
  · rintro j hj u w2 ⟨v, hu, N⟩ nxt hnx
    simp only [List.map_cons, List.map_nil, List.cons.injEq, and_true] at hu
    rw [hu.1, hu.2]
    obtain ⟨b, o, rfl, hlt, c1, c2⟩ := gr_at (h1.rr.ext0 N.1) hj
    have hlen : ((tosL rs).take j).length = j := by simp; omega
    have hsu : (tosL rs).take (j + 1) = (tosL rs).take j ++ [rs[j].to] := by
      rw [List.take_add_one, List.getElem?_eq_getElem (by simpa using hj)]
      simp
    generalize rs[j] = r at *
    obtain ⟨a0, c0, hv0, _⟩ := N.2.1.slice
    subst hv0
    unfold graph_Named_l1
    simp (disch := (first | omega | decide | (simp only [rsD] <;> omega) | fail)) only [↓rsC, rsK, rsL, ↓rsNam1_0, tick_eq, tickV_eq, ne_eq, Int.reduceAdd, Int.reduceSub, Int.reduceMul, Int.reduceEq, Int.reduceLT, Int.reduceLE, Int.reduceToNat, Nat.reduceMul, Nat.reduceAdd, Nat.reduceSub, ←decide_not, k1, c1, c2]
    have X3 : Ext [] w2 (w2.alloc (.cells #[.string (strOf r.s), i64 r.to] 74)) := Ext.alloc _ _ _
    have N3 := N.ext X3
    refine appIt N3.2.1 (o := r.to) rfl (by omega) fun v' x5 O5 T5 => ?_
    have N5 := N3.app O5 T5
    rw [← hsu] at N5
    simp (disch := (first | omega | decide | (simp only [rsD] <;> omega) | fail)) only [↓rsC, rsK, rsL, ↓rsNam1_0, tick_eq, tickV_eq, ne_eq, Int.reduceAdd, Int.reduceSub, Int.reduceMul, Int.reduceEq, Int.reduceLT, Int.reduceLE, Int.reduceToNat, Nat.reduceMul, Nat.reduceAdd, Nat.reduceSub, ←decide_not, k1, c1, c2]
    exact hnx _ _ ⟨v', by simp, N5⟩
  · rintro u w2 ⟨v, hu, N⟩ nxt
    simp only [List.map_cons, List.map_nil, List.cons.injEq, and_true] at hu
    rw [hu.1, hu.2]
    have etk : (tosL rs).take rs.length = tosL rs := by rw [show rs.length = (tosL rs).length by simp, List.take_length]
    rw [etk] at N
    obtain ⟨a0, c0, hv0, hc0, _, hn0, R0, hs0⟩ := N.2.1.slice
    subst hv0
    have hU := N.2.2
    have hl : (tosL rs).length = rs.length := by simp
    unfold graph_Named_l1
    rw [hl] at hc0 ⊢
    simp (disch := (first | omega | decide | (simp only [rsD] <;> omega) | fail)) only [↓rsC, rsK, rsL, ↓rsNam1_0, tick_eq, tickV_eq, ne_eq, Int.reduceAdd, Int.reduceSub, Int.reduceMul, Int.reduceEq, Int.reduceLT, Int.reduceLE, Int.reduceToNat, Nat.reduceMul, Nat.reduceAdd, Nat.reduceSub, ←decide_not, k1]
    refine slices_Clip_int_int_call (Gives.to (ClipI_spec hc0) fun w3 F3 => ?_)
    refine ⟨X1.trans (N.1.trans F3), a0, rfl, R0.ext0 F3, fun e => by have := hn0 e; omega, ?_, fun y hy => ?_⟩
    · cases a0 with
      | none => exact .inl rfl
      | some x =>
        obtain ⟨h1, h2⟩ := hs0 x rfl
        obtain ⟨b, o, s⟩ := x
        simp only at h1 h2
        subst h1 h2
        exact .inr ⟨b, rfl⟩
    · have := hU y.block (by rw [hy]; simp [blk, Value.ownBlock])
      have := X1.size
      omega
end Go.Proofs.Ytdpmidgeipibbaa
end
section
set_option linter.unusedVariables false
set_option linter.unusedSimpArgs false
set_option maxHeartbeats 4000000
namespace Go.Proofs.Ytdpmidgeipibbaa
open Go.Sh Go.RowKit

abbrev NewBt (w w' : World) (v : Value) (l : List (BitVec 8)) : Prop := NewR 5 1 w w' v l.length (bys l)
abbrev rsNam2_0 := (And.intro @xu8_eql (And.intro @xu16_eql (And.intro @xu32_eql (And.intro @xu64_eql (And.intro @xi64_eql (And.intro @bs_70_0 (And.intro @bs_70_1 @nq_70)))))))
theorem CloneBt_spec (l : List (BitVec 8)) (a : Option Addr) (c : Nat) (w : World) (hl : l.length ≤ 1000000) (h : RowAt w a (bys l)) (hn : a = none → c = 0) :
    Yld Try.prog n_slices_Clone_byte_byte #[.slice a l.length c] w fun u w' => NewBt w w' u l := by
  refine slices_Clone_byte_byte_of ?_
  unfold slices_Clone_byte_byte
  cases a with
  | none =>
    have hw : l = [] := by rcases h with h | ⟨b, o, h, _⟩; simpa using h; cases h
    subst hw
    simp (disch := (first | omega | decide | (simp only [rsD] <;> omega) | fail)) only [↓rsC, rsK, rsL, ↓rsNam2_0, tick_eq, tickV_eq, ne_eq, Int.reduceAdd, Int.reduceSub, Int.reduceMul, Int.reduceEq, Int.reduceLT, Int.reduceLE, Int.reduceToNat, Nat.reduceMul, Nat.reduceAdd, Nat.reduceSub, ←decide_not, eq_self]
    exact NewR.nil (Ext.refl _ _)
  | some a =>
    simp (disch := (first | omega | decide | (simp only [rsD] <;> omega) | fail)) only [↓rsC, rsK, rsL, ↓rsNam2_0, tick_eq, tickV_eq, ne_eq, Int.reduceAdd, Int.reduceSub, Int.reduceMul, Int.reduceEq, Int.reduceLT, Int.reduceLE, Int.reduceToNat, Nat.reduceMul, Nat.reduceAdd, Nat.reduceSub, ←decide_not, eq_self]
    refine xAppend_own (e := 5) (base := w.heap.size) (xs := []) (news := bys l) (z := .int .u8 0) (bytes := 1) (by kernel_rfl) (by kernel_rfl) (by rfl) (World.ownsRow_lit w #[] 0 (Nat.le_refl _) (by decide) (by rfl)) (by simp) (h.ext0 (Ext.alloc _ _ _)) hn bys_ok (by omega) (by omega) (by simp) ?_
    intro v' w' hown hgr
    rw [Nat.zero_add, List.nil_append] at hown
    have F2 : Ext [] w w' := grownBy_new (Ext.alloc [] w _) hgr (fun k hk => by simp [Value.ownBlock] at hk; omega)
    exact ⟨F2, Own.of hown, fun b hb => (World.ownsRow.lt hown b (by simpa using hb)).1⟩
/-- what a function on numbers gives, wherever one goes on -/
def FunTo (w : World) (t : Value) (ps : List Int) (φ : Int → Int) : Prop := ∀ (w' : World) (p : Int) (K : K1), Ext [] w w' → p ∈ ps → (∀ w'', Ext [] w' w'' → K (i64 (φ p)) w'') → xCall Try.prog t [i64 p] w' K
abbrev rsNam2_1 := (And.intro @xu8_add (And.intro @xu8_lss (And.intro @xu16_add (And.intro @xu16_lss (And.intro @xu32_add (And.intro @xu32_lss (And.intro @xu64_add (And.intro @xu64_lss (And.intro @xi64_lss (And.intro @ld_3 (And.intro @ld_66 (And.intro @ld_70 (And.intro @ld_72 (And.intro @lr_72 (And.intro @fa_72_0 (And.intro @fa_72_1 (And.intro @al_72 
  (And.intro @st_66 (And.intro @st_72 (And.intro @bd_72_0_1 (And.intro @bd_72_1 (And.intro @ia_66 (And.intro @ln_66 (And.intro @bs_66_0 @bs_66_1))))))))))))))))))))))))
theorem apart_spec {w : World} {x : GN} (hx : NOk w x) (lx : x.p.length ≤ 9000 ∧ x.d.length ≤ 9000) {t : Value} {φ : Int → Int} (hto : FunTo w t x.p φ) :
    Yld Try.prog n_graph_Node_apart #[.agg (gnC x).toArray, t] w fun u w' => Ext [] w w' ∧ ∃ y : GN, u = .agg (gnC y).toArray ∧ y.p = x.p.map φ ∧ y.d = x.d ∧ NOk w' y ∧ (∀ z, y.pa = some z → w.heap.size ≤ z.block) ∧ ∀ z, y.da = some z → w.heap.size ≤ z.block := by
  refine graph_Node_apart_of ?_
  unfold graph_Node_apart
  have bx : ∀ (y : World) (K : K1), xBox Try.prog 72 (.agg (gnC x).toArray) y K = K (ptr y.heap.size) (y.alloc (.cells (gnC x).toArray 72)) := fun y K => xBox_r
  have al : ∀ (y : World) (K : K1), xAlloc Try.prog 72 y K = K (ptr y.heap.size) (y.alloc (.cells #[.slice none 0 0, .slice none 0 0] 72)) := fun y K => xAlloc_r (by kernel_rfl)
  rw [bx, al]
  have B1 : Blk (w.alloc (.cells (gnC x).toArray 72)) w.heap.size 72 (gnC x) := Blk.at rfl
  have X1 : Ext [] w (w.alloc (.cells (gnC x).toArray 72)) := Ext.alloc _ _ _
  generalize w.alloc (.cells (gnC x).toArray 72) = y1 at *
  have zw : w.heap.size ≤ w.heap.size := Nat.le_refl _
  generalize w.heap.size = g1 at B1 zw ⊢
  have B2 : Blk (y1.alloc (.cells #[.slice none 0 0, .slice none 0 0] 72)) y1.heap.size 72 [.slice none 0 0, .slice none 0 0] := Blk.at rfl
  have X2 : Ext [] y1 (y1.alloc (.cells #[.slice none 0 0, .slice none 0 0] 72)) := Ext.alloc _ _ _
  have z1 := B1.lt
  have z1w := X1.size
  generalize y1.alloc (.cells #[.slice none 0 0, .slice none 0 0] 72) = y2 at *
  generalize y1.heap.size = g2 at *
  have B12 := B1.ext X2 (by simp)
  have z2 := B2.lt
  have X12 := X1.trans X2
  have k1 := fun i => B12.cell (i := i)
  simp (disch := (first | omega | decide | (simp only [rsD] <;> omega) | fail)) only [↓rsC, rsK, rsL, ↓rsNam2_1, tick_eq, tickV_eq, ne_eq, Int.reduceAdd, Int.reduceSub, Int.reduceMul, Int.reduceEq, Int.reduceLT, Int.reduceLE, Int.reduceToNat, Nat.reduceMul, Nat.reduceAdd, Nat.reduceSub, ←decide_not, k1]
  have hx2 := hx.ext0 X12
  refine slices_Clone_byte_byte_call (Yld.mono (CloneBt_spec x.d x.da x.dc y2 (by omega) hx2.dr hx2.dn) ?_)
  rintro u y3 N3
  obtain ⟨ad, cd, rfl, hcd, _, hnd, Rd, _⟩ := N3.2.1.slice
  have Ud : ∀ z, ad = some z → y2.heap.size ≤ z.block ∧ z.block < y3.heap.size := fun z hz => ⟨N3.2.2 _ (by rw [hz]; simp [blk, Value.ownBlock]), N3.2.1.lt _ (by rw [hz]; simp [blk, Value.ownBlock])⟩
  refine slices_Clip_byte_byte_call (Gives.to (ClipB_spec hcd) fun y4 F4 => ?_)
  have F24 := N3.1.trans F4
  have z4 := F4.size
  have z3 := N3.1.size
  have k4 := fun i => (B12.ext F24 (by simp)).cell (i := i)
  have g1lt := (B12.ext F24 (by simp)).lt
  simp (disch := (first | omega | decide | (simp only [rsD] <;> omega) | fail)) only [↓rsC, rsK, rsL, ↓rsNam2_1, tick_eq, tickV_eq, ne_eq, Int.reduceAdd, Int.reduceSub, Int.reduceMul, Int.reduceEq, Int.reduceLT, Int.reduceLE, Int.reduceToNat, Nat.reduceMul, Nat.reduceAdd, Nat.reduceSub, ←decide_not, k1, k4]
  have z2' := X12.size
  obtain ⟨hh, hhh⟩ : ∃ g, g = y4.heap.size := ⟨_, rfl⟩
  have Bx0 : Blk (y4.alloc (.cells #[.slice none 0 0, .slice ad x.d.length x.d.length] 72)) hh 72 [.slice none 0 0, .slice ad x.d.length x.d.length] := Blk.at hhh
  have X5 : Ext [] y4 (y4.alloc (.cells #[.slice none 0 0, .slice ad x.d.length x.d.length] 72)) := Ext.alloc _ _ _
  have zs5 : (y4.alloc (.cells #[.slice none 0 0, .slice ad x.d.length x.d.length] 72)).heap.size = y4.heap.size + 1 := World.size_alloc _ _
  rw [← hhh] at zs5 ⊢
  generalize y4.alloc (.cells #[.slice none 0 0, .slice ad x.d.length x.d.length] 72) = y at *
  have hlt : hh < y.heap.size := by omega
  have Xy : Ext [] w y := X12.trans (F24.trans X5)
  have B1y := (B12.ext F24 (by simp)).ext X5 (by simp)
  have B2y := (B2.ext F24 (by simp)).ext X5 (by simp)
  have hxy := hx.ext0 Xy
  have Rdy := (Rd.ext0 F4).ext0 X5
  have fresh : ∀ {w' : World}, Ext [hh] y w' → Ext [] w w' := fun F => Xy.new F (fun z hz => by simp only [List.mem_singleton] at hz; omega)
  have ne2 : g2 ∉ [hh] := by simp only [List.mem_singleton]; omega
  have nilb : ∀ z, z ∉ blk (.slice none 0 0) := by simp [blk, Value.ownBlock]
  have hpl : (x.p.map φ).length = x.p.length := by simp
  refine xLoop_n x.p.length (fun j => [i64 (j : Int)]) (fun j w' => Ext [hh] y w' ∧ ∃ v, OwnIt w' v ((x.p.map φ).take j) ∧ Blk w' hh 72 [v, .slice ad x.d.length x.d.length] ∧ ∀ z ∈ blk v, y.heap.size ≤ z) rfl ⟨Ext.refl _ _, _, Own.nil, Bx0, fun z hz => absurd hz (nilb z)⟩ ?_ ?_
  · rintro j hj u x1 hu ⟨F, v, O, B, U⟩ nxt hnx
    simp only [List.map_cons, List.map_nil, List.cons.injEq, and_true] at hu
    rw [hu]
    obtain ⟨a0, c0, hv0, _⟩ := O.slice
    subst hv0
    obtain ⟨bp, op, ep, _, cp⟩ := its_at ((hx.ext0 (fresh F)).pr) hj
    have hm : x.p[j] ∈ x.p := List.getElem_mem hj
    have hsu : (x.p.map φ).take (j + 1) = (x.p.map φ).take j ++ [φ x.p[j]] := by
      rw [List.take_add_one, List.getElem?_eq_getElem (by omega)]
      simp
    generalize x.p[j] = p at *
    have Ed := Ext.drew [] x1
    have kb := fun i => (B.ext Ed (by simp)).cell (i := i)
    unfold graph_Node_apart_l1
    rw [ep]
    simp (disch := (first | omega | decide | (simp only [rsD] <;> omega) | fail)) only [↓rsC, rsK, rsL, ↓rsNam2_1, tick_eq, tickV_eq, ne_eq, Int.reduceAdd, Int.reduceSub, Int.reduceMul, Int.reduceEq, Int.reduceLT, Int.reduceLE, Int.reduceToNat, Nat.reduceMul, Nat.reduceAdd, Nat.reduceSub, ←decide_not, k1, k4, cp, kb]
    refine hto _ p _ ((fresh F).trans Ed) hm fun x4 E4 => ?_
    have E3 := Ed.trans E4
    have F4' := F.trans (E3.more (by simp))
    have B4 := B.ext E3 (by simp)
    have O4 := O.ext0 E3
    have zb4 := B4.lt
    have k5 := fun i => B4.cell (i := i)
    simp (disch := (first | omega | decide | (simp only [rsD] <;> omega) | fail)) only [↓rsC, rsK, rsL, ↓rsNam2_1, tick_eq, tickV_eq, ne_eq, Int.reduceAdd, Int.reduceSub, Int.reduceMul, Int.reduceEq, Int.reduceLT, Int.reduceLE, Int.reduceToNat, Nat.reduceMul, Nat.reduceAdd, Nat.reduceSub, ←decide_not, k1, k4, cp, kb, k5]
    refine appIt O4 rfl (by simp; omega) fun v' x5 O5 T5 => ?_
    obtain ⟨F5, U5, n1, n2⟩ := grow F4' U hlt T5
    have B5 := B4.ext T5.ext n1
    obtain ⟨a3, c3, hv3, _⟩ := O5.slice
    have k6 := fun i => B5.cell (i := i)
    have f6 := fun i => B5.frozen (i := i)
    rw [← hsu] at O5 hv3
    subst hv3
    simp (disch := (first | omega | decide | (simp only [rsD] <;> omega) | fail)) only [↓rsC, rsK, rsL, ↓rsNam2_1, tick_eq, tickV_eq, ne_eq, Int.reduceAdd, Int.reduceSub, Int.reduceMul, Int.reduceEq, Int.reduceLT, Int.reduceLE, Int.reduceToNat, Nat.reduceMul, Nat.reduceAdd, Nat.reduceSub, ←decide_not, k1, k4, cp, kb, k5, k6, f6]
    have B6 := B5.set (i := 0) (v := .slice a3 ((x.p.map φ).take (j + 1)).length c3)
    have O6 := O5.ext (Ext.set (w := x5) (b := hh) (o := 0) (v := .slice a3 ((x.p.map φ).take (j + 1)).length c3)) (fun z hz hm => by simp only [List.mem_singleton] at hm; subst hm; exact n2 hz)
    exact hnx _ ⟨F5.set' (.inl (by simp)), _, O6, B6, U5⟩
  · rintro u x1 hu ⟨F, v, O, B, U⟩ nxt
    simp only [List.map_cons, List.map_nil, List.cons.injEq, and_true] at hu
    rw [hu]
    have etk : (x.p.map φ).take x.p.length = x.p.map φ := by rw [← hpl, List.take_length]
    rw [etk] at O
    obtain ⟨a0, c0, hv0, hc0, _, hn0, R0, _⟩ := O.slice
    subst hv0
    have kb := fun i => B.cell (i := i)
    have fb := fun i => B.frozen (i := i)
    unfold graph_Node_apart_l1
    simp (disch := (first | omega | decide | (simp only [rsD] <;> omega) | fail)) only [↓rsC, rsK, rsL, ↓rsNam2_1, tick_eq, tickV_eq, ne_eq, Int.reduceAdd, Int.reduceSub, Int.reduceMul, Int.reduceEq, Int.reduceLT, Int.reduceLE, Int.reduceToNat, Nat.reduceMul, Nat.reduceAdd, Nat.reduceSub, ←decide_not, k1, k4, kb, fb]
    refine slices_Clip_int_int_call (Gives.to (ClipI_spec hc0) fun x3 F3' => ?_)
    have B3 := B.ext F3' (by simp)
    have F3x := F.trans (F3'.more (by simp))
    have k3 := fun i => B3.cell (i := i)
    have f3 := fun i => B3.frozen (i := i)
    have B24x := B2y.ext F3x ne2
    have k24 := fun i => B24x.cell (i := i)
    have f24 := fun i => B24x.frozen (i := i)
    have g2x : g2 ≠ hh := by omega
    have Rp := R0.ext0 F3'
    have zF := F.size
    have zF3 := F3'.size
    simp (disch := (first | omega | decide | (simp only [rsD] <;> omega) | fail)) only [↓rsC, rsK, rsL, ↓rsNam2_1, tick_eq, tickV_eq, ne_eq, Int.reduceAdd, Int.reduceSub, Int.reduceMul, Int.reduceEq, Int.reduceLT, Int.reduceLE, Int.reduceToNat, Nat.reduceMul, Nat.reduceAdd, Nat.reduceSub, ←decide_not, k1, k4, kb, fb, k3, f3, k24, f24, g2x]
    have FE : Ext [hh, g2] x3 (((x3.setCell ⟨hh, 0, none⟩ (.slice a0 (x.p.map φ).length (x.p.map φ).length)).setCell ⟨g2, 0, none⟩ (.slice a0 (x.p.map φ).length (x.p.map φ).length)).setCell ⟨g2, 1, none⟩ (.slice ad x.d.length x.d.length)) := (((Ext.refl _ _).set' (.inl (by simp))).set' (.inl (by simp))).set' (.inl (by simp))
    have nda : ∀ b o, ad = some ⟨b, o, none⟩ → b ∉ [hh, g2] := fun b o hb hm => by
      have := Ud _ hb
      simp only [List.mem_cons, List.not_mem_nil, or_false] at hm
      simp only at this
      omega
    have npa : ∀ b o, a0 = some ⟨b, o, none⟩ → b ∉ [hh, g2] := fun b o hb hm => by
      have := U b (by subst hb; simp [blk, Value.ownBlock])
      simp only [List.mem_cons, List.not_mem_nil, or_false] at hm
      omega
    have Rdx := Rdy.ext F (fun b o hb hm => by
      have := Ud _ hb
      simp only [List.mem_singleton] at hm
      simp only at this
      omega)
    refine ⟨(((fresh F3x).set' (.inr (by omega))).set' (.inr (by omega))).set' (.inr (by omega)), ⟨x.p.map φ, a0, (x.p.map φ).length, x.d, ad, x.d.length⟩, rfl, rfl, rfl, ⟨Rp.ext FE npa, Nat.le_refl _, fun e => by have := hn0 e; simp only; omega, (Rdx.ext0 F3').ext FE nda, Nat.le_refl _, fun e => by have := hnd e; simp only; omega⟩, fun z hz => ?_, fun z hz => ?_⟩
    · have := U z.block (by simp only at hz; rw [hz]; simp [blk, Value.ownBlock])
      have := Xy.size
      omega
    · have := Ud z hz
      have := X12.size
      omega
end Go.Proofs.Ytdpmidgeipibbaa
end
section
set_option linter.unusedVariables false
set_option linter.unusedSimpArgs false
set_option maxHeartbeats 4000000
namespace Go.Proofs.Ytdpmidgeipibbaa
open Go.Sh Go.RowKit

/-- numbers behind a row that has no room -/
theorem appNo {w : World} {K : K1} {xs ys : List Int} {a a' : Option Addr} {c : Nat} (hx : RowAt w a (its xs)) (ha : a = none → xs.length = 0) (hs : a = none ∨ ∃ g, a = some ⟨g, 0, none⟩) (hy : RowAt w a' (its ys)) (hc : ys.length ≤ c) (hn : a' = none → c = 0) (hl : xs.length ≤ 1000000 ∧ ys.length ≤ 1000000)
    (hK : ∀ a2 c2 w', Ext [] w w' → (a2 = none → c2 = 0) → RowAt w' a2 (its (xs ++ ys)) → K (.slice a2 (xs ++ ys).length c2) w') : xBuiltin Try.prog .append #[66, 66] 66 [false, false] [.slice a xs.length xs.length, .slice a' ys.length c] w K := by
  have hll : (xs ++ ys).length = xs.length + ys.length := by simp
  rcases hs with rfl | ⟨g, rfl⟩
  · have h0 := ha rfl
    have e : xs = [] := List.eq_nil_of_length_eq_zero h0
    subst e
    refine xApp (e := 3) (s := 1) (n := 0) (m := ys.length) (xs := []) (news := its ys) (bytes := 8) (z := .int .i64 0) (by kernel_rfl) (by kernel_rfl) (by rfl) (by decide) Own.nil (by simp) hy hn hc (by simp [Value.oneCell']) (by omega) (by omega) fun v' w' O T => ?_
    obtain ⟨a2, c2, rfl, _, _, hn2, R2, _⟩ := O.slice
    have := hK a2 c2 w' T.ext hn2 R2
    rw [hll] at this
    exact this
  · by_cases hk : ys.length = 0
    · have e : ys = [] := List.eq_nil_of_length_eq_zero hk
      subst e
      have hap := fun (K : K1) => xApp0 (P := Try.prog) (w := w) (K := K) (t := 66) (e := 3) (ty := 66) (c1 := false) (c2 := false) (a := a') (g := g) (o := 0) (n := xs.length) (cap := xs.length) (c := c) (by kernel_rfl) (by kernel_rfl) (Nat.le_refl _) hn
      rw [List.length_nil, hap]
      have := hK (some ⟨g, 0, none⟩) xs.length w (Ext.refl _ _) (fun e => by cases e) (by rw [List.append_nil]; exact hx)
      rw [List.append_nil] at this
      exact this
    · refine xAppG (e := 3) (s := 1) (n := xs.length) (m := ys.length) (c := c) (cap := xs.length) (xs := its xs) (news := its ys) (bytes := 8) (z := .int .i64 0) (by kernel_rfl) (by kernel_rfl) (by rfl) (by decide) hx (by simp) (by simp) (by omega) (by omega) (by simp) (by omega) hy (by omega) (by omega) fun v' w' N => ?_
      obtain ⟨a2, c2, rfl, _, _, hn2, R2, _⟩ := N.2.1.slice
      have := hK a2 c2 w' N.1 hn2 (by rw [its, List.map_append]; exact R2)
      rw [hll] at this
      exact this
def noL (bs : List Bool) : List Int := (List.range bs.length).map (noB bs)
abbrev rsTri1_0 := (And.intro @xu8_sub (And.intro @xu8_lss (And.intro @xu8_gtr (And.intro @xu16_sub (And.intro @xu16_lss (And.intro @xu16_gtr (And.intro @xu32_sub (And.intro @xu32_lss (And.intro @xu32_gtr (And.intro @xu64_sub (And.intro @xu64_lss (And.intro @xu64_gtr (And.intro @xi64_lss (And.intro @xi64_gtr (And.intro @ld_3 (And.intro @ld_66 
  (And.intro @ia_66 @ln_66)))))))))))))))))
theorem toB_spec {w : World} {bs : List Bool} {tb nb : Nat} (hc : w.cell? ⟨tb, 0, none⟩ = some (.slice (some ⟨nb, 0, none⟩) bs.length bs.length)) (hr : RowAt w (some ⟨nb, 0, none⟩) (its (noL bs))) (hl : bs.length ≤ 9000) (p : Int) :
    Gives Try.prog n_graph_Trim_1 #[i64 p, ptr tb] w (i64 (toB bs p)) := by
  refine graph_Trim_1_of ?_
  unfold graph_Trim_1
  unfold toB
  by_cases h1 : p < 1
  · rw [if_neg (by omega)]
    simp (disch := (first | omega | decide | (simp only [rsD] <;> omega) | fail)) only [↓rsC, rsK, rsL, ↓rsTri1_0, tick_eq, tickV_eq, ne_eq, Int.reduceAdd, Int.reduceSub, Int.reduceMul, Int.reduceEq, Int.reduceLT, Int.reduceLE, Int.reduceToNat, Nat.reduceMul, Nat.reduceAdd, Nat.reduceSub, ←decide_not, h1]
    exact ⟨by trivial, Ext.refl _ _⟩
  by_cases h2 : (bs.length : Int) < p
  · rw [if_neg (by omega)]
    simp (disch := (first | omega | decide | (simp only [rsD] <;> omega) | fail)) only [↓rsC, rsK, rsL, ↓rsTri1_0, tick_eq, tickV_eq, ne_eq, Int.reduceAdd, Int.reduceSub, Int.reduceMul, Int.reduceEq, Int.reduceLT, Int.reduceLE, Int.reduceToNat, Nat.reduceMul, Nat.reduceAdd, Nat.reduceSub, ←decide_not, h1, hc, h2]
    exact ⟨by trivial, Ext.refl _ _⟩
  rw [if_pos (by omega)]
  have hi : p.toNat - 1 < (noL bs).length := by simp [noL]; omega
  obtain ⟨b, o, e, _, c1⟩ := its_at hr hi
  cases e
  have e2 : (noL bs)[p.toNat - 1] = noB bs (p.toNat - 1) := by simp [noL]
  rw [e2, Nat.zero_add] at c1
  have tp : (p - 1).toNat = p.toNat - 1 := by omega
  have hpb : p ≤ 9000 := by omega
  simp (disch := (first | omega | decide | (simp only [rsD] <;> omega) | fail)) only [↓rsC, rsK, rsL, ↓rsTri1_0, tick_eq, tickV_eq, ne_eq, Int.reduceAdd, Int.reduceSub, Int.reduceMul, Int.reduceEq, Int.reduceLT, Int.reduceLE, Int.reduceToNat, Nat.reduceMul, Nat.reduceAdd, Nat.reduceSub, ←decide_not, h1, hc, h2, tp, c1]
  exact ⟨by trivial, Ext.refl _ _⟩
theorem funTo_trim {w : World} {bs : List Bool} {tb nb : Nat} (hc : Blk w tb 66 [.slice (some ⟨nb, 0, none⟩) bs.length bs.length]) (hr : RowAt w (some ⟨nb, 0, none⟩) (its (noL bs))) (hl : bs.length ≤ 9000) (ps : List Int) :
    FunTo w (.func (.func n_graph_Trim_1) #[] #[ptr tb]) ps (toB bs) := by
  intro w' p K F _ hK
  refine graph_Trim_1_callc (Gives.to (toB_spec (w := w') ?_ (hr.ext0 F) hl p) hK)
  rw [(hc.ext F (by simp)).cell]
  rfl
end Go.Proofs.Ytdpmidgeipibbaa
end
