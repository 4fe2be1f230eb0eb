/- A graph's twin, by the program (sq). The nodes that come in an order are those that are reached; a graph trimmed is a graph picked. Two graphs are equal, by the program (sq). Two graphs are equal, by the program and by the document (sq). Two graphs are equal, by the document (sq). Orders and canons over bare nodes; a trimmed graph is few. What the statements on graphs begin with (sq). The order in which nodes come, by the program (sq). The document's Named and Walk (sq). A node put behind others. The document's Pick: where nodes go (sq). The document's Canon (sq). The document's Trim (sq). The statement GraphAny walked (sq). -/
import Derived.Test.YthhcmoknppljpaaPk1
section
set_option linter.unusedVariables false
set_option linter.unusedSimpArgs false
set_option maxHeartbeats 4000000
namespace Go.Proofs.Ythhcmoknppljpaa
open Go.Sh Go.RowKit

theorem twin_to (w : World) (ps : List Int) : FunTo w (.func (.func n_graph_Twin_1) #[] #[]) ps id := by
  intro w' p K F _ hK
  refine graph_Twin_1_callc (show Yld Try.prog n_graph_Twin_1 #[i64 p] w' K from ?_)
  refine graph_Twin_1_of ?_
  unfold graph_Twin_1
  exact hK w' (Ext.refl _ _)
abbrev rsTwi1_0 := (And.intro @xu8_eql (And.intro @xu16_eql (And.intro @xu32_eql (And.intro @xu64_eql (And.intro @xi64_eql (And.intro @bs_23_0 (And.intro @bs_23_1 @nq_23)))))))
theorem CloneR_spec (l : List GR) (a : Option Addr) (c : Nat) (w : World) (hl : l.length ≤ 9000) (h : RowAt w a (l.flatMap grC)) (hc : l.length ≤ c) (hn : a = none → c = 0) :
    Yld Try.prog n_slices_Clone_graph_Root_graph_Root #[.slice a l.length c] w fun u w' => NewR 58 2 w w' u l.length (l.flatMap grC) := by
  refine slices_Clone_graph_Root_graph_Root_of ?_
  unfold slices_Clone_graph_Root_graph_Root
  cases a with
  | none =>
    have h0 : l = [] := List.eq_nil_of_length_eq_zero (by have := hn rfl; omega)
    subst h0
    simp (disch := (first | omega | decide | (simp only [rsD] <;> omega) | fail)) only [↓rsC, rsK, rsL, ↓rsTwi1_0, tick_eq, tickV_eq, ne_eq, Int.reduceAdd, Int.reduceSub, Int.reduceMul, Int.reduceEq, Int.reduceLT, Int.reduceLE, Int.reduceToNat, Nat.reduceMul, Nat.reduceAdd, Nat.reduceSub, ←decide_not, eq_self]
    exact NewR.nil (Ext.refl _ _)
  | some a =>
    have hlc : (l.flatMap grC).length = l.length * 2 := pair_len (fun _ => rfl) l
    simp (disch := (first | omega | decide | (simp only [rsD] <;> omega) | fail)) only [↓rsC, rsK, rsL, ↓rsTwi1_0, tick_eq, tickV_eq, ne_eq, Int.reduceAdd, Int.reduceSub, Int.reduceMul, Int.reduceEq, Int.reduceLT, Int.reduceLE, Int.reduceToNat, Nat.reduceMul, Nat.reduceAdd, Nat.reduceSub, ←decide_not, eq_self]
    have B : Blk (w.alloc (.cells #[] 58)) w.heap.size 58 [] := Blk.at (cs := []) rfl
    have O : Own (w.alloc (.cells #[] 58)) 58 2 (.slice (some ⟨w.heap.size, 0, none⟩) 0 0) 0 [] := Own.close (rest := []) (by rw [List.append_nil]; exact B) (Nat.le_refl _) (by decide) (by rfl) (by rfl)
    have N0 : NewR 58 2 w (w.alloc (.cells #[] 58)) (.slice (some ⟨w.heap.size, 0, none⟩) 0 0) 0 [] := ⟨Ext.alloc _ _ _, O, by simp [blk, Value.ownBlock]⟩
    refine xApp (e := 58) (s := 2) (n := 0) (m := l.length) (xs := []) (news := l.flatMap grC) (bytes := 24) (z := .agg #[.string ⟨#[]⟩, .int .i64 0]) (by kernel_rfl) (by kernel_rfl) (by rfl) (by decide) O hlc (h.ext0 (Ext.alloc _ _ _)) hn hc (fun u hu => ?_) (by omega) (by omega) fun v' w' O' T' => ?_
    · obtain ⟨f, _, hf⟩ := List.mem_flatMap.1 hu
      simp only [grC, List.mem_cons, List.not_mem_nil, or_false] at hf
      rcases hf with rfl | rfl <;> rfl
    · have := N0.app O' T'
      rw [Nat.zero_add, List.nil_append] at this
      exact this
theorem Apt.sub2 {M M' : List Nat} {x : GN} (h : Apt M x) (hm : ∀ b ∈ M', b ∈ M) : Apt M' x := ⟨fun y hy hn hb => h.p y hy hn (hm _ hb), fun y hy hn hb => h.d y hy hn (hm _ hb)⟩
/-- a node's blocks -/
def nbk (x : GN) : List Nat := (x.pa.toList ++ x.da.toList).map (·.block)
theorem mem_nbk {x : GN} {b : Nat} : b ∈ nbk x ↔ (∃ y, x.pa = some y ∧ y.block = b) ∨ ∃ y, x.da = some y ∧ y.block = b := by
  unfold nbk
  rw [List.mem_map]
  constructor
  · rintro ⟨y, hy, e⟩
    rcases List.mem_append.1 hy with h | h
    · exact .inl ⟨y, by simpa using h, e⟩
    · exact .inr ⟨y, by simpa using h, e⟩
  · rintro (⟨y, h, e⟩ | ⟨y, h, e⟩)
    · exact ⟨y, List.mem_append_left _ (by simp [h]), e⟩
    · exact ⟨y, List.mem_append_right _ (by simp [h]), e⟩
/-- nodes that one may write, apart from all there was at w, and from each other -/
structure Own1 (w w' : World) (M : List Nat) (x : GN) : Prop where
  ok : NOk w' x
  bl : NBl w' x
  fr : ∀ b ∈ nbk x, w.heap.size ≤ b
  ap : Apt M x
def TwinR (w : World) (ns : List GN) (rs : List GR) (u : Value) (w' : World) : Prop := Ext [] w w' ∧ ∃ na' nc' ra' rc' ns', ns'.map bare = ns.map bare ∧ u = gV na' nc' ra' rc' ns' rs ∧ GIs w' na' nc' ra' rc' ns' rs ∧ (∀ x ∈ ns', Own1 w w' (na'.toList.map (·.block)) x) ∧ ns'.Pairwise fun x y => Apt (nbk y) x
abbrev rsTwi1_1 := (And.intro @xu8_add (And.intro @xu8_lss (And.intro @xu16_add (And.intro @xu16_lss (And.intro @xu32_add (And.intro @xu32_lss (And.intro @xu64_add (And.intro @xu64_lss (And.intro @xi64_lss (And.intro @ld_22 (And.intro @ld_23 (And.intro @ld_25 (And.intro @ld_53 (And.intro @lr_25 (And.intro @fa_25_0 (And.intro @fa_25_1 (And.intro @al_25 
  (And.intro @al_53 (And.intro @st_22 (And.intro @st_23 (And.intro @st_25 (And.intro @st_53 (And.intro @ia_22 (And.intro @ln_22 (And.intro @bs_22_1 @bs_22_3)))))))))))))))))))))))))
theorem GTwin_spec {w : World} {na ra : Option Addr} {nc rc : Nat} {ns : List GN} {rs : List GR} (h : GIs w na nc ra rc ns rs) (hf : FewH ns rs) :
    Yld Try.prog n_graph_Twin #[gV na nc ra rc ns rs] w (TwinR w ns rs) := by
  have hfn := hf.n
  have hfr := hf.r
  refine graph_Twin_of ?_
  unfold graph_Twin
  have gbox : ∀ (y : World) (K : K1), xBox Try.prog 25 (gV na nc ra rc ns rs) y K = K (ptr y.heap.size) (y.alloc (.cells #[.slice na ns.length nc, .slice ra rs.length rc] 25)) := fun y K => xBox_r
  have al : ∀ (y : World) (K : K1), xAlloc Try.prog 25 y K = K (ptr y.heap.size) (y.alloc (.cells #[.slice none 0 0, .slice none 0 0] 25)) := fun y K => xAlloc_r (by kernel_rfl)
  rw [gbox, al, al]
  have B1 : Blk (w.alloc (.cells #[.slice na ns.length nc, .slice ra rs.length rc] 25)) w.heap.size 25 [.slice na ns.length nc, .slice ra rs.length rc] := Blk.at rfl
  have X1 : Ext [] w (w.alloc (.cells #[.slice na ns.length nc, .slice ra rs.length rc] 25)) := Ext.alloc _ _ _
  generalize w.alloc (.cells #[.slice na ns.length nc, .slice ra rs.length rc] 25) = y1 at *
  obtain ⟨g1, hg1⟩ : ∃ g, g = w.heap.size := ⟨_, rfl⟩
  rw [← hg1] at B1 ⊢
  have g1lt := B1.lt
  have zw1 := X1.size
  have B2 : Blk (y1.alloc (.cells #[.slice none 0 0, .slice none 0 0] 25)) y1.heap.size 25 [.slice none 0 0, .slice none 0 0] := Blk.at rfl
  have X2 : Ext [] y1 (y1.alloc (.cells #[.slice none 0 0, .slice none 0 0] 25)) := Ext.alloc _ _ _
  have B12 := B1.ext X2 (by simp)
  generalize y1.alloc (.cells #[.slice none 0 0, .slice none 0 0] 25) = y2 at *
  obtain ⟨g2, hg2⟩ : ∃ g, g = y1.heap.size := ⟨_, rfl⟩
  rw [← hg2] at B2 ⊢
  have g2lt := B2.lt
  have B18 := B12.ext (Ext.alloc [] y2 (.cells #[.slice none 0 0, .slice none 0 0] 25)) (by simp)
  have B28 := B2.ext (Ext.alloc [] y2 (.cells #[.slice none 0 0, .slice none 0 0] 25)) (by simp)
  have Bx0 : Blk (y2.alloc (.cells #[.slice none 0 0, .slice none 0 0] 25)) y2.heap.size 25 [.slice none 0 0, .slice none 0 0] := Blk.at rfl
  have X3 : Ext [] y2 (y2.alloc (.cells #[.slice none 0 0, .slice none 0 0] 25)) := Ext.alloc _ _ _
  have zs8 : (y2.alloc (.cells #[.slice none 0 0, .slice none 0 0] 25)).heap.size = y2.heap.size + 1 := World.size_alloc _ _
  generalize y2.alloc (.cells #[.slice none 0 0, .slice none 0 0] 25) = q at *
  obtain ⟨hx, hhx⟩ : ∃ g, g = y2.heap.size := ⟨_, rfl⟩
  rw [← hhx] at Bx0 zs8 ⊢
  have F8 := (X1.trans X2).trans X3
  have hlt : hx < q.heap.size := by omega
  have fresh2 : ∀ {w' : World}, Ext [hx] q w' → Ext [] w w' := fun F => F8.new F (fun z hz => by simp only [List.mem_singleton] at hz; omega)
  have nq1 : g1 ∉ [hx] := by simp only [List.mem_singleton]; omega
  have nq4 : g2 ∉ [hx] := by simp only [List.mem_singleton]; omega
  have nilb : ∀ z, z ∉ blk (.slice none 0 0) := by simp [blk, Value.ownBlock]
  have k1 := fun i => B18.cell (i := i)
  simp (disch := (first | omega | decide | (simp only [rsD] <;> omega) | fail)) only [↓rsC, rsK, rsL, ↓rsTwi1_1, tick_eq, tickV_eq, ne_eq, Int.reduceAdd, Int.reduceSub, Int.reduceMul, Int.reduceEq, Int.reduceLT, Int.reduceLE, Int.reduceToNat, Nat.reduceMul, Nat.reduceAdd, Nat.reduceSub, ←decide_not, k1]
  refine xLoop_n ns.length (fun j => [i64 (j : Int)]) (fun j w' => Ext [hx] q w' ∧ ∃ v ns', ns'.map bare = (ns.take j).map bare ∧ OwnGN w' v ns' ∧ Blk w' hx 25 [v, .slice none 0 0] ∧ (∀ z ∈ blk v, q.heap.size ≤ z) ∧ (∀ x ∈ ns', NOk w' x ∧ Apt (hx :: blk v) x ∧ NBl w' x ∧ ∀ b ∈ nbk x, q.heap.size ≤ b) ∧ ns'.Pairwise fun x y => Apt (nbk y) x) rfl ⟨Ext.refl _ _, .slice none 0 0, [], by simp, Own.nil, Bx0, fun z hz => absurd hz (nilb z), by simp, .nil⟩ ?_ ?_
  · rintro j hj u x2 hu ⟨F, v, ns', hns, O, B, U, A, Q⟩ nxt2 hnx
    simp only [List.map_cons, List.map_nil, List.cons.injEq, and_true] at hu
    rw [hu]
    obtain ⟨bn, on, ena, _, c1, c2⟩ := gn_at (h.nr.ext0 (fresh2 F)) hj
    have hst : ns.take (j + 1) = ns.take j ++ [ns[j]] := by rw [List.take_add_one, List.getElem?_eq_getElem hj]; rfl
    have hnl : ns'.length ≤ 9000 := by
      have h1 := congrArg List.length hns
      rw [List.length_map, List.length_map, List.length_take] at h1
      omega
    have hxk := h.ok _ (List.getElem_mem hj)
    have lx := hf.x _ (List.getElem_mem hj)
    obtain ⟨a0, c0, hv0, _⟩ := O.slice
    subst hv0
    generalize ns[j] = x at *
    have zb2 := B.lt
    have kb := fun i => B.cell (i := i)
    unfold graph_Twin_l1
    rw [ena]
    simp (disch := (first | omega | decide | (simp only [rsD] <;> omega) | fail)) only [↓rsC, rsK, rsL, ↓rsTwi1_1, tick_eq, tickV_eq, ne_eq, Int.reduceAdd, Int.reduceSub, Int.reduceMul, Int.reduceEq, Int.reduceLT, Int.reduceLE, Int.reduceToNat, Nat.reduceMul, Nat.reduceAdd, Nat.reduceSub, ←decide_not, k1, c1, c2, kb]
    have E9 : Ext [] x2 (x2.alloc (.cells #[.slice x.pa x.p.length x.pc, .slice x.da x.d.length x.dc] 53)).drew := (Ext.alloc _ _ _).trans (Ext.drew [] _)
    generalize (x2.alloc (.cells #[.slice x.pa x.p.length x.pc, .slice x.da x.d.length x.dc] 53)).drew = x3 at *
    have F3 := F.trans (E9.more (by simp))
    refine graph_Node_apart_call (Yld.mono (apartB_spec (hxk.ext0 (fresh2 F3)) lx (twin_to x3 x.p)) ?_)
    rintro u x4 ⟨F4, y', rfl, hyp, hyd, hyk, hfa, hfb, hnb⟩
    have F04 := F3.trans (F4.more (by simp))
    have E94 := E9.trans F4
    have B4 := B.ext E94 (by simp)
    have O4 := O.ext0 E94
    have zb4 := B4.lt
    have k4 := fun i => B4.cell (i := i)
    simp (disch := (first | omega | decide | (simp only [rsD] <;> omega) | fail)) only [↓rsC, rsK, rsL, ↓rsTwi1_1, tick_eq, tickV_eq, ne_eq, Int.reduceAdd, Int.reduceSub, Int.reduceMul, Int.reduceEq, Int.reduceLT, Int.reduceLE, Int.reduceToNat, Nat.reduceMul, Nat.reduceAdd, Nat.reduceSub, ←decide_not, k1, c1, c2, kb, k4]
    refine appGN O4 (x := y') rfl (by omega) fun v' x5 O5 T5 => ?_
    obtain ⟨F5, U5, n1, n2⟩ := grow F04 U hlt T5
    have B5 := B4.ext T5.ext n1
    obtain ⟨a3, c3, hv3, _⟩ := O5.slice
    have k5 := fun i => B5.cell (i := i)
    have f5 := fun i => B5.frozen (i := i)
    subst hv3
    simp (disch := (first | omega | decide | (simp only [rsD] <;> omega) | fail)) only [↓rsC, rsK, rsL, ↓rsTwi1_1, tick_eq, tickV_eq, ne_eq, Int.reduceAdd, Int.reduceSub, Int.reduceMul, Int.reduceEq, Int.reduceLT, Int.reduceLE, Int.reduceToNat, Nat.reduceMul, Nat.reduceAdd, Nat.reduceSub, ←decide_not, k1, c1, c2, kb, k4, k5, f5]
    have B6 := B5.set (i := 0) (v := .slice a3 (ns' ++ [y']).length c3)
    have O6 := O5.ext (Ext.set (w := x5) (b := hx) (o := 0) (v := .slice a3 (ns' ++ [y']).length c3)) (fun z hz hm => by simp only [List.mem_singleton] at hm; subst hm; exact n2 hz)
    refine hnx _ ⟨F5.set' (.inl (by simp)), _, ns' ++ [y'], ?_, O6, B6, U5, fun p hp => ?_, ?_⟩
    · rw [List.map_append, hns, hst, List.map_append]
      simp [bare, hyp, hyd]
    · have z3x : x2.heap.size ≤ x3.heap.size := E9.size
      have hA : NOk x4 p ∧ Apt (hx :: blk (.slice a0 ns'.length c0)) p ∧ NBl x4 p ∧ ∀ b ∈ nbk p, q.heap.size ≤ b := by
        rcases List.mem_append.1 hp with hp | hp
        · exact ⟨(A p hp).1.ext0 E94, (A p hp).2.1, (A p hp).2.2.1.ext E94 ⟨by simp, by simp⟩, (A p hp).2.2.2⟩
        · rw [List.mem_singleton] at hp
          subst hp
          have hz2 := O.lt
          have zq := F.size
          refine ⟨hyk, ⟨fun y hy _ hm => ?_, fun y hy _ hm => ?_⟩, hnb, fun b hb => ?_⟩
          · have := hfa y hy
            rcases List.mem_cons.1 hm with e | e
            · omega
            · have := hz2 _ e; omega
          · have := hfb y hy
            rcases List.mem_cons.1 hm with e | e
            · omega
            · have := hz2 _ e; omega
          · rcases mem_nbk.1 hb with ⟨y, e1, e2⟩ | ⟨y, e1, e2⟩
            · have := hfa y e1; omega
            · have := hfb y e1; omega
      have hA2 := hA.1.ext (T5.ext.more (fun z hz => List.mem_cons_of_mem hx hz)) hA.2.1
      have hB2 := hA.2.2.1.ext (T5.ext.more (fun z hz => List.mem_cons_of_mem hx hz)) ⟨hA.2.1.p, hA.2.1.d⟩
      have hA3 : Apt (hx :: blk (.slice a3 (ns' ++ [y']).length c3)) p := hA.2.1.more hA.1 fun b hb => by
        rcases List.mem_cons.1 hb with e | e
        · exact .inl (by rw [e]; exact List.mem_cons_self ..)
        · exact (T5.at' b e).imp (List.mem_cons_of_mem _) id
      exact ⟨hA2.ext (Ext.set.more (by simp)) hA3, hA3, hB2.ext (Ext.set.more (by simp)) ⟨hA3.p, hA3.d⟩, hA.2.2.2⟩
    · rw [List.pairwise_append]
      refine ⟨Q, List.pairwise_singleton _ _, fun p hp z hz => ?_⟩
      rw [List.mem_singleton] at hz
      subst hz
      have hl := (A p hp).1.lt
      have z3x : x2.heap.size ≤ x3.heap.size := E9.size
      have hfz : ∀ b ∈ nbk z, x3.heap.size ≤ b := fun b hb => by
        rcases mem_nbk.1 hb with ⟨y, e1, e2⟩ | ⟨y, e1, e2⟩
        · have := hfa y e1; omega
        · have := hfb y e1; omega
      exact ⟨fun y hy hn hm => by have := hl.1 y hy hn; have := hfz _ hm; omega, fun y hy hn hm => by have := hl.2 y hy hn; have := hfz _ hm; omega⟩
  rintro u x1 hu ⟨F, v, ns', hns, O, B, U, A, Q⟩ nxt2
  simp only [List.map_cons, List.map_nil, List.cons.injEq, and_true] at hu
  rw [hu]
  rw [List.take_length] at hns
  have kq1 := fun i => (B18.ext F nq1).cell (i := i)
  unfold graph_Twin_l1
  simp (disch := (first | omega | decide | (simp only [rsD] <;> omega) | fail)) only [↓rsC, rsK, rsL, ↓rsTwi1_1, tick_eq, tickV_eq, ne_eq, Int.reduceAdd, Int.reduceSub, Int.reduceMul, Int.reduceEq, Int.reduceLT, Int.reduceLE, Int.reduceToNat, Nat.reduceMul, Nat.reduceAdd, Nat.reduceSub, ←decide_not, k1, kq1]
  refine slices_Clone_graph_Root_graph_Root_call (Yld.mono (CloneR_spec rs ra rc x1 hfr (h.rr.ext0 (fresh2 F)) h.rl h.rn) ?_)
  rintro u x3 N3
  obtain ⟨ra', rc', rfl, hrc, _, hrn, Rr, _⟩ := N3.2.1.slice
  have Ur : ∀ z, ra' = some z → x1.heap.size ≤ z.block := fun z hz => N3.2.2 _ (by rw [hz]; simp [blk, Value.ownBlock])
  refine slices_Clip_graph_Root_graph_Root_call (Gives.to (ClipGR_spec hrc) fun x4 E4 => ?_)
  have E14 := N3.1.trans E4
  obtain ⟨na', nc', hvn, hnc, _, hnn, Rn, _⟩ := O.slice
  subst hvn
  have B4 := B.ext E14 (by simp)
  have k4 := fun i => B4.cell (i := i)
  have f4 := fun i => B4.frozen (i := i)
  simp (disch := (first | omega | decide | (simp only [rsD] <;> omega) | fail)) only [↓rsC, rsK, rsL, ↓rsTwi1_1, tick_eq, tickV_eq, ne_eq, Int.reduceAdd, Int.reduceSub, Int.reduceMul, Int.reduceEq, Int.reduceLT, Int.reduceLE, Int.reduceToNat, Nat.reduceMul, Nat.reduceAdd, Nat.reduceSub, ←decide_not, k1, kq1, k4, f4]
  have E5 : Ext [hx] x4 (x4.setCell ⟨hx, 1, none⟩ (.slice ra' rs.length rs.length)) := Ext.set
  have B5 := B4.set (i := 1) (v := .slice ra' rs.length rs.length)
  generalize x4.setCell ⟨hx, 1, none⟩ (.slice ra' rs.length rs.length) = x5 at *
  refine slices_Clip_graph_Node_graph_Node_call (Gives.to (ClipGN_spec hnc) fun x6 E6 => ?_)
  have B6 := B5.ext E6 (by simp)
  have F16 : Ext [hx] x1 x6 := ((E14.more (by simp)).trans E5).trans (E6.more (by simp))
  have k6 := fun i => B6.cell (i := i)
  have f6 := fun i => B6.frozen (i := i)
  have B26 := (B28.ext F nq4).ext F16 nq4
  have k26 := fun i => B26.cell (i := i)
  have f26 := fun i => B26.frozen (i := i)
  have ne0x : g2 ≠ hx := by omega
  simp (disch := (first | omega | decide | (simp only [rsD] <;> omega) | fail)) only [↓rsC, rsK, rsL, ↓rsTwi1_1, tick_eq, tickV_eq, ne_eq, Int.reduceAdd, Int.reduceSub, Int.reduceMul, Int.reduceEq, Int.reduceLT, Int.reduceLE, Int.reduceToNat, Nat.reduceMul, Nat.reduceAdd, Nat.reduceSub, ←decide_not, k1, kq1, k4, f4, k6, f6, k26, f26, ne0x]
  have FE : Ext [g2, hx] x6 (((x6.setCell ⟨hx, 0, none⟩ (.slice na' ns'.length ns'.length)).setCell ⟨g2, 0, none⟩ (.slice na' ns'.length ns'.length)).setCell ⟨g2, 1, none⟩ (.slice ra' rs.length rs.length)) := (((Ext.refl _ _).set' (.inl (by simp))).set' (.inl (by simp))).set' (.inl (by simp))
  have Fw := fresh2 (F.trans F16)
  have zX : w.heap.size ≤ hx := by omega
  have zw2 : w.heap.size ≤ g2 := by omega
  have zq1 := F.size
  refine ⟨((Fw.set' (.inr zX)).set' (.inr zw2)).set' (.inr zw2), na', ns'.length, ra', rs.length, ns', hns, rfl, ?_, fun p hp => ?_, Q⟩
  · have nna : ∀ b o, na' = some ⟨b, o, none⟩ → b ∉ [g2, hx] := fun b o hb hm => by
      have := U b (by rw [hb]; simp [blk, Value.ownBlock])
      simp only [List.mem_cons, List.not_mem_nil, or_false] at hm
      omega
    have nra : ∀ b o, ra' = some ⟨b, o, none⟩ → b ∉ [g2, hx] := fun b o hb hm => by
      have := Ur _ hb
      simp only [List.mem_cons, List.not_mem_nil, or_false] at hm
      simp only at this
      omega
    refine ⟨(Rn.ext F16 (fun b o hb hm => nna b o hb (by simp only [List.mem_singleton] at hm; simp [hm]))).ext FE nna, Nat.le_refl _, fun e => by have := hnn e; omega, (((Rr.ext0 E4).ext E5 (fun b o hb hm => nra b o hb (by simp only [List.mem_singleton] at hm; simp [hm]))).ext0 E6).ext FE nra, Nat.le_refl _, fun e => by have := hrn e; omega, fun p hp => ?_⟩
    have hA := A p hp
    have hk := hA.1.ext F16 (hA.2.1.sub2 (by simp))
    have hA2 := hA.2.1.cons hk B26 (by simp)
    exact hk.ext (FE.more (by simp)) hA2
  · have hA := A p hp
    have hk := hA.1.ext F16 (hA.2.1.sub2 (by simp))
    have hA2 := hA.2.1.cons hk B26 (by simp)
    have hA3 := hA.2.1.sub2 (M' := [hx]) (by simp)
    refine ⟨hk.ext (FE.more (by simp)) hA2, (hA.2.2.1.ext F16 ⟨hA3.p, hA3.d⟩).ext (FE.more (by simp)) ⟨hA2.p, hA2.d⟩, fun b hb => by have := hA.2.2.2 b hb; have := F8.size; omega, hA.2.1.sub2 fun b hb => ?_⟩
    refine List.mem_cons_of_mem _ ?_
    cases na' with
    | none => simp at hb
    | some y => simpa [blk, Value.ownBlock] using hb
end Go.Proofs.Ythhcmoknppljpaa
end
section
set_option linter.unusedVariables false
set_option linter.unusedSimpArgs false
set_option maxHeartbeats 4000000
namespace Go.Proofs.Ythhcmoknppljpaa
open Go.Sh Go.RowKit

theorem addN_mem {n : Nat} {out : List Int} {p q : Int} : q ∈ addN n out p ↔ q ∈ out ∨ (q = p ∧ okNo n p) := by
  unfold addN
  split
  · rename_i h
    rw [List.mem_append, List.mem_singleton]
    constructor
    · rintro (h1 | h1)
      · exact .inl h1
      · exact .inr ⟨h1, h.1⟩
    · rintro (h1 | h1)
      · exact .inl h1
      · exact .inr h1.1
  · rename_i h
    constructor
    · exact .inl
    · rintro (h1 | ⟨rfl, h1⟩)
      · exact h1
      · exact Classical.byContradiction fun h2 => h ⟨h1, h2⟩
theorem addL_mem {n : Nat} : ∀ (ps : List Int) {out : List Int} {q : Int}, q ∈ addL n out ps ↔ q ∈ out ∨ (q ∈ ps ∧ okNo n q)
  | [], out, q => by simp [addL]
  | p :: ps, out, q => by
    have e : addL n out (p :: ps) = addL n (addN n out p) ps := rfl
    rw [e, addL_mem ps, addN_mem, List.mem_cons]
    constructor
    · rintro ((h | ⟨rfl, h⟩) | h)
      · exact .inl h
      · exact .inr ⟨.inl rfl, h⟩
      · exact .inr ⟨.inr h.1, h.2⟩
    · rintro (h | ⟨rfl | h, h2⟩)
      · exact .inl (.inl h)
      · exact .inl (.inr ⟨rfl, h2⟩)
      · exact .inr ⟨h, h2⟩
theorem addN_pre {n : Nat} {out : List Int} {p : Int} {k : Nat} (h : k < out.length) : (addN n out p)[k]? = out[k]? := by
  unfold addN
  split
  · rw [List.getElem?_append_left h]
  · rfl
theorem addN_len' {n : Nat} {out : List Int} {p : Int} : out.length ≤ (addN n out p).length := by
  unfold addN
  split
  · simp
  · exact Nat.le_refl _
theorem addL_pre {n : Nat} : ∀ (ps : List Int) {out : List Int} {k : Nat}, k < out.length → (addL n out ps)[k]? = out[k]?
  | [], _, _, _ => rfl
  | p :: ps, out, k, h => by
    have e : addL n out (p :: ps) = addL n (addN n out p) ps := rfl
    have := addN_len' (n := n) (out := out) (p := p)
    rw [e, addL_pre ps (by omega), addN_pre h]
theorem bfs_mem {ns : List GN} {fr : List Int} : ∀ (f i : Nat) (out : List Int), OutOk ns.length out → ns.length < i + f → (∀ q ∈ out, Rch ns fr q) → (∀ p ∈ fr, okNo ns.length p → p ∈ out) →
    (∀ k q, k < i → out[k]? = some q → ∀ p ∈ ptrsOf ns q, okNo ns.length p → p ∈ out) → ∀ q, q ∈ bfs ns f i out ↔ Rch ns fr q := by
  have fin : ∀ (i : Nat) (out : List Int), out.length ≤ i → (∀ q ∈ out, Rch ns fr q) → (∀ p ∈ fr, okNo ns.length p → p ∈ out) →
      (∀ k q, k < i → out[k]? = some q → ∀ p ∈ ptrsOf ns q, okNo ns.length p → p ∈ out) → ∀ q, q ∈ out ↔ Rch ns fr q := by
    intro i out hi h1 h2 h3 q
    refine ⟨h1 q, fun h => ?_⟩
    induction h with
    | base a b => exact h2 _ a b
    | @step j p hj a b c ih =>
      obtain ⟨k, hk, e⟩ := List.getElem_of_mem ih
      refine h3 k _ (by omega) (by rw [List.getElem?_eq_getElem hk, e]) p ?_ c
      unfold ptrsOf
      rw [show ((j : Int) + 1).toNat - 1 = j by omega, List.getElem?_eq_getElem hj]
      exact b
  intro f
  induction f with
  | zero =>
    intro i out ho hf h1 h2 h3
    have := ho.len
    exact fin i out (by omega) h1 h2 h3
  | succ f ih =>
    intro i out ho hf h1 h2 h3
    by_cases hi : i < out.length
    · rw [bfs_step hi]
      refine ih (i + 1) _ (OutOk.addL _ ho) (by omega) (fun q hq => ?_) (fun p hp hpo => addL_sub _ (h2 p hp hpo)) fun k q hk hq p hp hpo => ?_
      · rcases (addL_mem _).1 hq with h | ⟨h, h4⟩
        · exact h1 q h
        · have hq1 := ho.ok _ (List.getElem_mem hi)
          have hj : out[i].toNat - 1 < ns.length := by omega
          unfold ptrsOf at h
          rw [List.getElem?_eq_getElem hj] at h
          refine .step hj ?_ h h4
          have e : ((out[i].toNat - 1 : Nat) : Int) + 1 = out[i] := by omega
          rw [e]
          exact h1 _ (List.getElem_mem hi)
      · by_cases hki : k < i
        · rw [addL_pre _ (by omega)] at hq
          exact addL_sub _ (h3 k q hki hq p hp hpo)
        · have e : k = i := by omega
          subst e
          rw [addL_pre _ hi, List.getElem?_eq_getElem hi] at hq
          have e2 := Option.some.inj hq
          subst e2
          exact (addL_mem _).2 (.inr ⟨hp, hpo⟩)
    · rw [bfs_end (by omega)]
      exact fin i out (by omega) h1 h2 h3
theorem ord_mem (ns : List GN) (fr : List Int) (q : Int) : q ∈ ordV ns fr ↔ Rch ns fr q := by
  unfold ordV
  refine bfs_mem _ _ _ (OutOk.addL _ OutOk.nil) (by omega) (fun q hq => ?_) (fun p hp hpo => (addL_mem _).2 (.inr ⟨hp, hpo⟩)) (fun k q hk => by omega) q
  rcases (addL_mem _).1 hq with h | ⟨h, h2⟩
  · cases h
  · exact .base h h2
/-! picked in their own order -/
def onL (bs : List Bool) (k : Nat) : List Int := ((List.range k).filter fun i => bs.getD i false).map fun (i : Nat) => (i : Int) + 1
theorem onL_succ (bs : List Bool) {k : Nat} (h : k < bs.length) : onL bs (k + 1) = onL bs k ++ (if bs[k] then [(k : Int) + 1] else []) := by
  unfold onL
  rw [List.range_succ, List.filter_append, List.map_append]
  congr 1
  rw [List.filter_cons, getD_at h]
  cases bs[k] <;> simp
theorem onL_len (bs : List Bool) : ∀ k, k ≤ bs.length → (onL bs k).length = rk bs k
  | 0, _ => by simp [onL, rk]
  | k + 1, h => by
    rw [onL_succ bs (by omega), List.length_append, onL_len bs k (by omega), rk_succ (by omega)]
    cases bs[k]'(by omega) <;> simp
theorem onL_mem (bs : List Bool) {k : Nat} {p : Int} : p ∈ onL bs k ↔ ∃ i, i < k ∧ bs.getD i false = true ∧ p = (i : Int) + 1 := by
  unfold onL
  rw [List.mem_map]
  constructor
  · rintro ⟨i, h, rfl⟩
    rw [List.mem_filter, List.mem_range] at h
    exact ⟨i, h.1, h.2, rfl⟩
  · rintro ⟨i, h1, h2, rfl⟩
    exact ⟨i, List.mem_filter.2 ⟨List.mem_range.2 h1, h2⟩, rfl⟩
theorem onL_idx (bs : List Bool) : ∀ k, k ≤ bs.length → ∀ i, i < k → (hb : bs.getD i false = true) → (onL bs k).idxOf ((i : Int) + 1) = rk bs i
  | 0, _, i, hi, _ => by omega
  | k + 1, h, i, hi, hb => by
    rw [onL_succ bs (by omega)]
    by_cases e : i = k
    · subst e
      rw [getD_at (by omega)] at hb
      rw [hb, if_pos rfl, List.idxOf_append, if_neg, onL_len bs i (by omega)]
      · simp
      · rw [onL_mem]
        rintro ⟨j, hj, _, ej⟩
        omega
    · have hm : ((i : Int) + 1) ∈ onL bs k := (onL_mem bs).2 ⟨i, by omega, hb, rfl⟩
      rw [List.idxOf_append, if_pos hm]
      exact onL_idx bs k (by omega) i (by omega) hb
theorem onL_no (bs : List Bool) (p : Int) : noV (onL bs bs.length) p = toB bs p := by
  unfold noV toB noB
  by_cases h : p ∈ onL bs bs.length
  · rw [if_pos h]
    obtain ⟨i, h1, h2, rfl⟩ := (onL_mem bs).1 h
    rw [onL_idx bs _ (Nat.le_refl _) i h1 h2, if_pos (by omega), show ((i : Int) + 1).toNat - 1 = i by omega, h2, if_pos rfl]
  · rw [if_neg h]
    by_cases ho : okNo bs.length p
    · rw [if_pos ho, if_neg]
      intro hb
      exact h ((onL_mem bs).2 ⟨p.toNat - 1, by omega, hb, by omega⟩)
    · rw [if_neg ho]
theorem onL_trim {ns : List GN} {bs : List Bool} (hl : bs.length = ns.length) : (onL bs bs.length).map (canN ns (onL bs bs.length)) = trNs ns bs := by
  have key : ∀ k, k ≤ bs.length → (onL bs k).map (canN ns (onL bs bs.length)) = sel (trN bs) (ns.take k) (bs.take k) := by
    intro k
    induction k with
    | zero => intro _; simp [onL, sel]
    | succ k ih =>
      intro hk
      rw [onL_succ bs (by omega), List.map_append, ih (by omega), sel_take _ _ _ _ (by omega) (by omega)]
      congr 1
      cases hb : bs[k]'(by omega)
      · simp
      · simp only [if_true, List.map_cons, List.map_nil]
        congr 1
        unfold canN trN ptrsOf dataOf
        rw [show ((k : Int) + 1).toNat - 1 = k by omega, List.getElem?_eq_getElem (show k < ns.length by omega)]
        simp only
        congr 1
        exact List.map_congr_left fun p _ => onL_no bs p
  rw [key _ (Nat.le_refl _), List.take_length, hl, List.take_length]
  rfl
end Go.Proofs.Ythhcmoknppljpaa
end
section
set_option linter.unusedVariables false
set_option linter.unusedSimpArgs false
set_option maxHeartbeats 4000000
namespace Go.Proofs.Ythhcmoknppljpaa
open Go.Sh Go.RowKit

theorem strOf_inj {p q : List (BitVec 8)} : strOf p = strOf q ↔ p = q := by
  constructor
  · intro h
    have h2 : (strOf p).toList = (strOf q).toList := by rw [h]
    rw [strOf_list, strOf_list] at h2
    have := congrArg (List.map UInt8.toBitVec) h2
    rw [List.map_map, List.map_map] at this
    have e : (UInt8.toBitVec ∘ UInt8.ofBitVec) = id := rfl
    rw [e, List.map_id, List.map_id] at this
    exact this
  · intro h; rw [h]
abbrev rsEqg1_0 := (And.intro @xu8_add (And.intro @xu8_neq (And.intro @xu8_lss (And.intro @xu16_add (And.intro @xu16_neq (And.intro @xu16_lss (And.intro @xu32_add (And.intro @xu32_neq (And.intro @xu32_lss (And.intro @xu64_add (And.intro @xu64_neq (And.intro @xu64_lss (And.intro @xi64_lss (And.intro @xi64_neq (And.intro @xi64_neg (And.intro @ld_3 
  (And.intro @ia_26 @ln_26)))))))))))))))))
theorem EqualI_spec {w : World} {p q : List Int} {a a' : Option Addr} {c c' : Nat} (h : RowAt w a (its p)) (h' : RowAt w a' (its q)) (hp : p.length ≤ 1000000) (hq : q.length ≤ 1000000) : Gives Try.prog n_slices_Equal_int_int #[.slice a p.length c, .slice a' q.length c'] w (.bool (decide (p = q))) := by
  refine slices_Equal_int_int_of ?_
  unfold slices_Equal_int_int
  by_cases hne : p.length = q.length
  case neg =>
    have : ¬ ((p.length : Int) = q.length) := by omega
    simp (disch := (first | omega | decide | (simp only [rsD] <;> omega) | fail)) only [↓rsC, rsK, rsL, ↓rsEqg1_0, tick_eq, tickV_eq, ne_eq, Int.reduceAdd, Int.reduceSub, Int.reduceMul, Int.reduceEq, Int.reduceLT, Int.reduceLE, Int.reduceToNat, Nat.reduceMul, Nat.reduceAdd, Nat.reduceSub, ←decide_not, eq_self]
    exact ⟨by rw [decide_eq_false (fun e => hne (by rw [e]))], Ext.refl _ _⟩
  have : ((p.length : Int) = q.length) := by omega
  simp (disch := (first | omega | decide | (simp only [rsD] <;> omega) | fail)) only [↓rsC, rsK, rsL, ↓rsEqg1_0, tick_eq, tickV_eq, ne_eq, Int.reduceAdd, Int.reduceSub, Int.reduceMul, Int.reduceEq, Int.reduceLT, Int.reduceLE, Int.reduceToNat, Nat.reduceMul, Nat.reduceAdd, Nat.reduceSub, ←decide_not, eq_self]
  refine xLoop_n p.length (fun j => [i64 (j : Int)]) (fun j w' => Ext [] w w' ∧ ∀ i (hi : i < p.length) (hi' : i < q.length), i < j → p[i] = q[i]) rfl ⟨Ext.refl _ _, by intro i _ _ hi; omega⟩ ?_ ?_
  · rintro j hj u w1 hu ⟨F, hq2⟩ nxt hn
    simp only [List.map_cons, List.map_nil, List.cons.injEq, and_true] at hu
    rw [hu]
    unfold slices_Equal_int_int_l1
    have F1 := F.trans (Ext.drew [] w1)
    have hj' : j < q.length := by omega
    obtain ⟨b, o, rfl, hlt, hc⟩ := its_at (h.ext0 F1) hj
    obtain ⟨b', o', rfl, hlt', hc'⟩ := its_at (h'.ext0 F1) hj'
    by_cases e : p[j] = q[j]
    · have hnx : Ext [] w w1.drew ∧ ∀ i (hi : i < p.length) (hi' : i < q.length), i < j + 1 → p[i] = q[i] := ⟨F1, fun i hi hi' h3 => by
        by_cases ei : i = j
        · subst ei; exact e
        · exact hq2 i hi hi' (by omega)⟩
      rw [e] at hc
      generalize q[j] = z at *
      simp (disch := (first | omega | decide | (simp only [rsD] <;> omega) | fail)) only [↓rsC, rsK, rsL, ↓rsEqg1_0, tick_eq, tickV_eq, ne_eq, Int.reduceAdd, Int.reduceSub, Int.reduceMul, Int.reduceEq, Int.reduceLT, Int.reduceLE, Int.reduceToNat, Nat.reduceMul, Nat.reduceAdd, Nat.reduceSub, ←decide_not, hc, hc']
      exact hn _ hnx
    · have hno : ¬ p = q := fun e2 => e (by subst e2; rfl)
      generalize q[j] = z at *
      generalize p[j] = y at *
      simp (disch := (first | omega | decide | (simp only [rsD] <;> omega) | fail)) only [↓rsC, rsK, rsL, ↓rsEqg1_0, tick_eq, tickV_eq, ne_eq, Int.reduceAdd, Int.reduceSub, Int.reduceMul, Int.reduceEq, Int.reduceLT, Int.reduceLE, Int.reduceToNat, Nat.reduceMul, Nat.reduceAdd, Nat.reduceSub, ←decide_not, hc, hc', e]
      exact ⟨by rw [decide_eq_false hno], F1⟩
  · rintro u w1 hu ⟨F, hq2⟩ nxt
    simp only [List.map_cons, List.map_nil, List.cons.injEq, and_true] at hu
    rw [hu]
    unfold slices_Equal_int_int_l1
    simp (disch := (first | omega | decide | (simp only [rsD] <;> omega) | fail)) only [↓rsC, rsK, rsL, ↓rsEqg1_0, tick_eq, tickV_eq, ne_eq, Int.reduceAdd, Int.reduceSub, Int.reduceMul, Int.reduceEq, Int.reduceLT, Int.reduceLE, Int.reduceToNat, Nat.reduceMul, Nat.reduceAdd, Nat.reduceSub, ←decide_not, eq_self]
    refine ⟨?_, F⟩
    rw [decide_eq_true]
    exact List.ext_getElem hne fun i h1 h2 => hq2 i h1 h2 h1
abbrev rsEqg1_1 := (And.intro @xu8_eql (And.intro @xu16_eql (And.intro @xu32_eql (And.intro @xu64_eql @xi64_eql))))
theorem EqualB_spec {w : World} {p q : List (BitVec 8)} {a a' : Option Addr} {c c' : Nat} (h : RowAt w a (bys p)) (h' : RowAt w a' (bys q)) (hp : p.length ≤ 1000000) (hq : q.length ≤ 1000000) : Gives Try.prog n_bytes_Equal #[.slice a p.length c, .slice a' q.length c'] w (.bool (decide (p = q))) := by
  refine bytes_Equal_of ?_
  unfold bytes_Equal
  have hcv := fun (K : K1) => xConv_str (P := Try.prog) (w := w) (s := 51) (d := 9) (e := 5) (a := a) (n := p.length) (c := c) (l := p) (K := K) (by kernel_rfl) (by kernel_rfl) (by kernel_rfl) rfl h
  have hcv' := fun (K : K1) => xConv_str (P := Try.prog) (w := w) (s := 51) (d := 9) (e := 5) (a := a') (n := q.length) (c := c') (l := q) (K := K) (by kernel_rfl) (by kernel_rfl) (by kernel_rfl) rfl h'
  simp (disch := (first | omega | decide | (simp only [rsD] <;> omega) | fail)) only [↓rsC, rsK, rsL, ↓rsEqg1_1, tick_eq, tickV_eq, ne_eq, Int.reduceAdd, Int.reduceSub, Int.reduceMul, Int.reduceEq, Int.reduceLT, Int.reduceLE, Int.reduceToNat, Nat.reduceMul, Nat.reduceAdd, Nat.reduceSub, ←decide_not, hcv, hcv']
  exact ⟨by rw [decide_eq_decide.2 strOf_inj], Ext.refl _ _⟩
abbrev rsEqg1_2 := (And.intro @ld_26 (And.intro @ld_51 (And.intro @fa_53_0 @fa_53_1)))
theorem eqN_spec {w : World} {x y : GN} (hx : NOk w x) (hy : NOk w y) (lx : x.p.length ≤ 1000000 ∧ x.d.length ≤ 1000000) (ly : y.p.length ≤ 1000000 ∧ y.d.length ≤ 1000000) : Gives Try.prog n_graph_Equal_1 #[.agg (gnC x).toArray, .agg (gnC y).toArray] w (.bool (decide (x.p = y.p ∧ x.d = y.d))) := by
  refine graph_Equal_1_of ?_
  unfold graph_Equal_1
  have bx : ∀ (z : GN) (y : World) (K : K1), xBox Try.prog 53 (.agg (gnC z).toArray) y K = K (ptr y.heap.size) (y.alloc (.cells (gnC z).toArray 53)) := fun z y K => xBox_r
  rw [bx, bx]
  have B1 : Blk (w.alloc (.cells (gnC x).toArray 53)) w.heap.size 53 (gnC x) := Blk.at rfl
  have X1 : Ext [] w (w.alloc (.cells (gnC x).toArray 53)) := Ext.alloc _ _ _
  generalize w.alloc (.cells (gnC x).toArray 53) = y1 at *
  generalize w.heap.size = g1 at *
  have B2 : Blk (y1.alloc (.cells (gnC y).toArray 53)) y1.heap.size 53 (gnC y) := Blk.at rfl
  have X2 : Ext [] y1 (y1.alloc (.cells (gnC y).toArray 53)) := Ext.alloc _ _ _
  generalize y1.alloc (.cells (gnC y).toArray 53) = y2 at *
  generalize y1.heap.size = g2 at *
  have B12 := B1.ext X2 (by simp)
  have X12 := X1.trans X2
  have k1 := fun i => B12.cell (i := i)
  have k2 := fun i => B2.cell (i := i)
  have hx2 := hx.ext0 X12
  have hy2 := hy.ext0 X12
  simp (disch := (first | omega | decide | (simp only [rsD] <;> omega) | fail)) only [↓rsC, rsK, rsL, ↓rsEqg1_2, tick_eq, tickV_eq, ne_eq, Int.reduceAdd, Int.reduceSub, Int.reduceMul, Int.reduceEq, Int.reduceLT, Int.reduceLE, Int.reduceToNat, Nat.reduceMul, Nat.reduceAdd, Nat.reduceSub, ←decide_not, k1, k2]
  refine slices_Equal_int_int_call (Gives.to (EqualI_spec hx2.pr hy2.pr lx.1 ly.1) fun y3 F3 => ?_)
  have k3 := fun i => (B12.ext F3 (by simp)).cell (i := i)
  have k4 := fun i => (B2.ext F3 (by simp)).cell (i := i)
  by_cases hp : x.p = y.p
  · rw [decide_eq_true hp]
    simp (disch := (first | omega | decide | (simp only [rsD] <;> omega) | fail)) only [↓rsC, rsK, rsL, ↓rsEqg1_2, tick_eq, tickV_eq, ne_eq, Int.reduceAdd, Int.reduceSub, Int.reduceMul, Int.reduceEq, Int.reduceLT, Int.reduceLE, Int.reduceToNat, Nat.reduceMul, Nat.reduceAdd, Nat.reduceSub, ←decide_not, k1, k2, k3, k4]
    refine bytes_Equal_call (Gives.to (EqualB_spec (hx2.dr.ext0 F3) (hy2.dr.ext0 F3) lx.2 ly.2) fun y4 F4 => ?_)
    simp (disch := (first | omega | decide | (simp only [rsD] <;> omega) | fail)) only [↓rsC, rsK, rsL, ↓rsEqg1_2, tick_eq, tickV_eq, ne_eq, Int.reduceAdd, Int.reduceSub, Int.reduceMul, Int.reduceEq, Int.reduceLT, Int.reduceLE, Int.reduceToNat, Nat.reduceMul, Nat.reduceAdd, Nat.reduceSub, ←decide_not, k1, k2, k3, k4]
    have e : decide (x.d = y.d) = decide (x.p = y.p ∧ x.d = y.d) := decide_eq_decide.2 ⟨fun h => ⟨hp, h⟩, fun h => h.2⟩
    rw [e]
    exact ⟨rfl, X12.trans (F3.trans F4)⟩
  · rw [decide_eq_false hp]
    simp (disch := (first | omega | decide | (simp only [rsD] <;> omega) | fail)) only [↓rsC, rsK, rsL, ↓rsEqg1_2, tick_eq, tickV_eq, ne_eq, Int.reduceAdd, Int.reduceSub, Int.reduceMul, Int.reduceEq, Int.reduceLT, Int.reduceLE, Int.reduceToNat, Nat.reduceMul, Nat.reduceAdd, Nat.reduceSub, ←decide_not, k1, k2]
    exact ⟨by rw [decide_eq_false (fun h => hp h.1)], X12.trans F3⟩
abbrev SameN (ns ns' : List GN) : Prop := ns.map bare = ns'.map bare
abbrev SameG (ns : List GN) (rs : List GR) (ns' : List GN) (rs' : List GR) : Prop := SameN ns ns' ∧ rs = rs'
theorem bare_eq {x y : GN} : bare x = bare y ↔ x.p = y.p ∧ x.d = y.d := by
  constructor
  · intro h
    show (bare x).p = (bare y).p ∧ (bare x).d = (bare y).d
    rw [h]
    exact ⟨rfl, rfl⟩
  · rintro ⟨h1, h2⟩
    unfold bare
    rw [h1, h2]
theorem sameN_at {ns ns' : List GN} (hl : ns.length = ns'.length) : SameN ns ns' ↔ ∀ i (h : i < ns.length) (h' : i < ns'.length), ns[i].p = ns'[i].p ∧ ns[i].d = ns'[i].d := by
  constructor
  · intro h i h1 h2
    have : (ns.map bare)[i]? = (ns'.map bare)[i]? := by rw [h]
    rw [List.getElem?_map, List.getElem?_map, List.getElem?_eq_getElem h1, List.getElem?_eq_getElem h2] at this
    exact bare_eq.1 (Option.some.inj this)
  · intro h
    refine List.ext_getElem (by simpa using hl) fun i h1 h2 => ?_
    rw [List.getElem_map, List.getElem_map]
    exact bare_eq.2 (h i (by simpa using h1) (by simpa using h2))
abbrev BoolR (p : Prop) (w w' : World) (u : Value) : Prop := (∃ b : Bool, u = .bool b ∧ (b = true ↔ p)) ∧ Ext [] w w'
abbrev rsEqg1_3 := (And.intro @xu8_add (And.intro @xu8_com (And.intro @xu8_neq (And.intro @xu8_lss (And.intro @xu16_add (And.intro @xu16_com (And.intro @xu16_neq (And.intro @xu16_lss (And.intro @xu32_add (And.intro @xu32_com (And.intro @xu32_neq (And.intro @xu32_lss (And.intro @xu64_add (And.intro @xu64_com (And.intro @xu64_neq (And.intro @xu64_lss 
  (And.intro @xi64_lss (And.intro @xi64_neq (And.intro @xi64_neg (And.intro @ld_53 (And.intro @al_53 (And.intro @st_53 (And.intro @ia_22 @ln_22)))))))))))))))))))))))
theorem eqNs_spec {w : World} {ns ns' : List GN} {na na' : Option Addr} {nc nc' : Nat} (h : RowAt w na (ns.flatMap gnC)) (h' : RowAt w na' (ns'.flatMap gnC)) (hk : ∀ x ∈ ns, NOk w x) (hk' : ∀ x ∈ ns', NOk w x)
    (hf : ns.length ≤ 100000 ∧ ∀ x ∈ ns, x.p.length ≤ 1000000 ∧ x.d.length ≤ 1000000) (hf' : ns'.length ≤ 100000 ∧ ∀ x ∈ ns', x.p.length ≤ 1000000 ∧ x.d.length ≤ 1000000) :
    Yld Try.prog n_slices_EqualFunc_graph_Node_graph_Node_graph_Node_graph_Node #[.slice na ns.length nc, .slice na' ns'.length nc', .func (.func n_graph_Equal_1) #[] #[]] w fun u w' => BoolR (SameN ns ns') w w' u := by
  refine slices_EqualFunc_graph_Node_graph_Node_graph_Node_graph_Node_of ?_
  unfold slices_EqualFunc_graph_Node_graph_Node_graph_Node_graph_Node
  by_cases hne : ns.length = ns'.length
  case neg =>
    have : ¬ ((ns.length : Int) = ns'.length) := by omega
    simp (disch := (first | omega | decide | (simp only [rsD] <;> omega) | fail)) only [↓rsC, rsK, rsL, ↓rsEqg1_3, tick_eq, tickV_eq, ne_eq, Int.reduceAdd, Int.reduceSub, Int.reduceMul, Int.reduceEq, Int.reduceLT, Int.reduceLE, Int.reduceToNat, Nat.reduceMul, Nat.reduceAdd, Nat.reduceSub, ←decide_not, eq_self]
    exact ⟨⟨false, rfl, by simp; intro h; exact hne (by simpa using congrArg List.length h)⟩, Ext.refl _ _⟩
  have : ((ns.length : Int) = ns'.length) := by omega
  simp (disch := (first | omega | decide | (simp only [rsD] <;> omega) | fail)) only [↓rsC, rsK, rsL, ↓rsEqg1_3, tick_eq, tickV_eq, ne_eq, Int.reduceAdd, Int.reduceSub, Int.reduceMul, Int.reduceEq, Int.reduceLT, Int.reduceLE, Int.reduceToNat, Nat.reduceMul, Nat.reduceAdd, Nat.reduceSub, ←decide_not, eq_self]
  refine xLoop_n ns.length (fun j => [i64 (j : Int)]) (fun j w' => Ext [] w w' ∧ ∀ i (hi : i < ns.length) (hi' : i < ns'.length), i < j → ns[i].p = ns'[i].p ∧ ns[i].d = ns'[i].d) rfl ⟨Ext.refl _ _, by intro i _ _ hi; omega⟩ ?_ ?_
  · rintro j hj u w1 hu ⟨F, hq2⟩ nxt hn
    simp only [List.map_cons, List.map_nil, List.cons.injEq, and_true] at hu
    rw [hu]
    have hj' : j < ns'.length := by omega
    obtain ⟨b, o, rfl, hlt, c1, c2⟩ := gn_at (h.ext0 F) hj
    have m1 := List.getElem_mem hj
    have m2 := List.getElem_mem hj'
    have x1 := (hk _ m1).ext0 F
    have x2 := (hk' _ m2).ext0 F
    have l1 := hf.2 _ m1
    have l2 := hf'.2 _ m2
    unfold slices_EqualFunc_graph_Node_graph_Node_graph_Node_graph_Node_l1
    simp (disch := (first | omega | decide | (simp only [rsD] <;> omega) | fail)) only [↓rsC, rsK, rsL, ↓rsEqg1_3, tick_eq, tickV_eq, ne_eq, Int.reduceAdd, Int.reduceSub, Int.reduceMul, Int.reduceEq, Int.reduceLT, Int.reduceLE, Int.reduceToNat, Nat.reduceMul, Nat.reduceAdd, Nat.reduceSub, ←decide_not, c1, c2]
    have B1 : Blk (w1.alloc (.cells (gnC ns[j]).toArray 53)) w1.heap.size 53 (gnC ns[j]) := Blk.at rfl
    have X1 : Ext [] w1 (w1.alloc (.cells (gnC ns[j]).toArray 53)) := Ext.alloc _ _ _
    obtain ⟨bb, oo, rfl, hlt2, c3, c4⟩ := gn_at (h'.ext0 (F.trans X1)) hj'
    have x1 := x1.ext0 X1
    have x2 := x2.ext0 X1
    have F1 := F.trans X1
    generalize w1.alloc (.cells (gnC ns[j]).toArray 53) = y1 at *
    generalize w1.heap.size = g1 at *
    simp (disch := (first | omega | decide | (simp only [rsD] <;> omega) | fail)) only [↓rsC, rsK, rsL, ↓rsEqg1_3, tick_eq, tickV_eq, ne_eq, Int.reduceAdd, Int.reduceSub, Int.reduceMul, Int.reduceEq, Int.reduceLT, Int.reduceLE, Int.reduceToNat, Nat.reduceMul, Nat.reduceAdd, Nat.reduceSub, ←decide_not, c1, c2, c3, c4]
    have B2 : Blk (y1.alloc (.cells (gnC ns'[j]).toArray 53)) y1.heap.size 53 (gnC ns'[j]) := Blk.at rfl
    have X2 : Ext [] y1 (y1.alloc (.cells (gnC ns'[j]).toArray 53)) := Ext.alloc _ _ _
    have x1 := x1.ext0 X2
    have x2 := x2.ext0 X2
    have F2 := F1.trans X2
    have B12 := B1.ext X2 (by simp)
    generalize y1.alloc (.cells (gnC ns'[j]).toArray 53) = y2 at *
    generalize y1.heap.size = g2 at *
    have k1 := fun i => B12.cell (i := i)
    have k2 := fun i => B2.cell (i := i)
    simp (disch := (first | omega | decide | (simp only [rsD] <;> omega) | fail)) only [↓rsC, rsK, rsL, ↓rsEqg1_3, tick_eq, tickV_eq, ne_eq, Int.reduceAdd, Int.reduceSub, Int.reduceMul, Int.reduceEq, Int.reduceLT, Int.reduceLE, Int.reduceToNat, Nat.reduceMul, Nat.reduceAdd, Nat.reduceSub, ←decide_not, c1, c2, c3, c4, k1, k2]
    refine graph_Equal_1_call (Gives.to (eqN_spec x1 x2 l1 l2) fun y3 F3 => ?_)
    by_cases he : ns[j].p = ns'[j].p ∧ ns[j].d = ns'[j].d
    · rw [decide_eq_true he]
      simp (disch := (first | omega | decide | (simp only [rsD] <;> omega) | fail)) only [↓rsC, rsK, rsL, ↓rsEqg1_3, tick_eq, tickV_eq, ne_eq, Int.reduceAdd, Int.reduceSub, Int.reduceMul, Int.reduceEq, Int.reduceLT, Int.reduceLE, Int.reduceToNat, Nat.reduceMul, Nat.reduceAdd, Nat.reduceSub, ←decide_not, c1, c2, c3, c4, k1, k2]
      refine hn _ ⟨F2.trans F3, fun i hi hi' h3 => ?_⟩
      by_cases ei : i = j
      · subst ei; exact he
      · exact hq2 i hi hi' (by omega)
    · rw [decide_eq_false he]
      simp (disch := (first | omega | decide | (simp only [rsD] <;> omega) | fail)) only [↓rsC, rsK, rsL, ↓rsEqg1_3, tick_eq, tickV_eq, ne_eq, Int.reduceAdd, Int.reduceSub, Int.reduceMul, Int.reduceEq, Int.reduceLT, Int.reduceLE, Int.reduceToNat, Nat.reduceMul, Nat.reduceAdd, Nat.reduceSub, ←decide_not, c1, c2, c3, c4, k1, k2]
      exact ⟨⟨false, rfl, by simp only [Bool.false_eq_true, false_iff]; exact fun h => he ((sameN_at hne).1 h j hj hj')⟩, F2.trans F3⟩
  · rintro u w1 hu ⟨F, hq2⟩ nxt
    simp only [List.map_cons, List.map_nil, List.cons.injEq, and_true] at hu
    rw [hu]
    unfold slices_EqualFunc_graph_Node_graph_Node_graph_Node_graph_Node_l1
    simp (disch := (first | omega | decide | (simp only [rsD] <;> omega) | fail)) only [↓rsC, rsK, rsL, ↓rsEqg1_3, tick_eq, tickV_eq, ne_eq, Int.reduceAdd, Int.reduceSub, Int.reduceMul, Int.reduceEq, Int.reduceLT, Int.reduceLE, Int.reduceToNat, Nat.reduceMul, Nat.reduceAdd, Nat.reduceSub, ←decide_not, eq_self]
    exact ⟨⟨true, rfl, by simp only [true_iff]; exact (sameN_at hne).2 fun i h1 h2 => hq2 i h1 h2 h1⟩, F⟩
end Go.Proofs.Ythhcmoknppljpaa
end
section
set_option linter.unusedVariables false
set_option linter.unusedSimpArgs false
set_option maxHeartbeats 4000000
namespace Go.Proofs.Ythhcmoknppljpaa
open Go.Sh Go.RowKit

theorem rs_ext {rs rs' : List GR} (hl : rs.length = rs'.length) (h : ∀ i (h1 : i < rs.length) (h2 : i < rs'.length), rs[i].s = rs'[i].s ∧ rs[i].to = rs'[i].to) : rs = rs' := by
  refine List.ext_getElem hl fun i h1 h2 => ?_
  obtain ⟨e1, e2⟩ := h i h1 h2
  generalize rs[i] = x at *
  generalize rs'[i] = y at *
  cases x
  cases y
  simp only at e1 e2
  rw [e1, e2]
abbrev rsEqg2_0 := (And.intro @xu8_add (And.intro @xu8_neq (And.intro @xu8_lss (And.intro @xu16_add (And.intro @xu16_neq (And.intro @xu16_lss (And.intro @xu32_add (And.intro @xu32_neq (And.intro @xu32_lss (And.intro @xu64_add (And.intro @xu64_neq (And.intro @xu64_lss (And.intro @xi64_lss (And.intro @xi64_neq (And.intro @xi64_neg (And.intro @ld_58 
  (And.intro @ns_58 (And.intro @ia_23 @ln_23))))))))))))))))))
theorem eqRs_spec {w : World} {rs rs' : List GR} {ra ra' : Option Addr} {rc rc' : Nat} (h : RowAt w ra (rs.flatMap grC)) (h' : RowAt w ra' (rs'.flatMap grC)) (hf : rs.length ≤ 100000) (hf' : rs'.length ≤ 100000) :
    Yld Try.prog n_slices_Equal_graph_Root_graph_Root #[.slice ra rs.length rc, .slice ra' rs'.length rc'] w fun u w' => BoolR (rs = rs') w w' u := by
  refine slices_Equal_graph_Root_graph_Root_of ?_
  unfold slices_Equal_graph_Root_graph_Root
  by_cases hne : rs.length = rs'.length
  case neg =>
    have : ¬ ((rs.length : Int) = rs'.length) := by omega
    simp (disch := (first | omega | decide | (simp only [rsD] <;> omega) | fail)) only [↓rsC, rsK, rsL, ↓rsEqg2_0, tick_eq, tickV_eq, ne_eq, Int.reduceAdd, Int.reduceSub, Int.reduceMul, Int.reduceEq, Int.reduceLT, Int.reduceLE, Int.reduceToNat, Nat.reduceMul, Nat.reduceAdd, Nat.reduceSub, ←decide_not, eq_self]
    exact ⟨⟨false, rfl, by simp; intro h; exact hne (by rw [h])⟩, Ext.refl _ _⟩
  have : ((rs.length : Int) = rs'.length) := by omega
  simp (disch := (first | omega | decide | (simp only [rsD] <;> omega) | fail)) only [↓rsC, rsK, rsL, ↓rsEqg2_0, tick_eq, tickV_eq, ne_eq, Int.reduceAdd, Int.reduceSub, Int.reduceMul, Int.reduceEq, Int.reduceLT, Int.reduceLE, Int.reduceToNat, Nat.reduceMul, Nat.reduceAdd, Nat.reduceSub, ←decide_not, eq_self]
  refine xLoop_n rs.length (fun j => [i64 (j : Int)]) (fun j w' => Ext [] w w' ∧ ∀ i (hi : i < rs.length) (hi' : i < rs'.length), i < j → rs[i].s = rs'[i].s ∧ rs[i].to = rs'[i].to) rfl ⟨Ext.refl _ _, by intro i _ _ hi; omega⟩ ?_ ?_
  · rintro j hj u w1 hu ⟨F, hq2⟩ nxt hn
    simp only [List.map_cons, List.map_nil, List.cons.injEq, and_true] at hu
    rw [hu]
    have hj' : j < rs'.length := by omega
    have F1 := F.trans (Ext.drew [] w1)
    obtain ⟨b, o, rfl, hlt, c1, c2⟩ := gr_at (h.ext0 F1) hj
    obtain ⟨bb, oo, rfl, hlt2, c3, c4⟩ := gr_at (h'.ext0 F1) hj'
    unfold slices_Equal_graph_Root_graph_Root_l1
    by_cases he : rs[j].s = rs'[j].s ∧ rs[j].to = rs'[j].to
    · have hnx : ∀ i (hi : i < rs.length) (hi' : i < rs'.length), i < j + 1 → rs[i].s = rs'[i].s ∧ rs[i].to = rs'[i].to := fun i hi hi' h3 => by
        by_cases ei : i = j
        · subst ei; exact he
        · exact hq2 i hi hi' (by omega)
      rw [he.1] at c1
      rw [he.2] at c2
      generalize rs'[j] = y at *
      simp (disch := (first | omega | decide | (simp only [rsD] <;> omega) | fail)) only [↓rsC, rsK, rsL, ↓rsEqg2_0, tick_eq, tickV_eq, ne_eq, Int.reduceAdd, Int.reduceSub, Int.reduceMul, Int.reduceEq, Int.reduceLT, Int.reduceLE, Int.reduceToNat, Nat.reduceMul, Nat.reduceAdd, Nat.reduceSub, ←decide_not, c1, c2, c3, c4]
      exact hn _ ⟨F1, hnx⟩
    · have hno : ¬ rs = rs' := fun e2 => he (by subst e2; exact ⟨rfl, rfl⟩)
      have hb : (decide (strOf rs[j].s = strOf rs'[j].s) && decide (rs[j].to = rs'[j].to)) = false := by
        rw [Bool.and_eq_false_iff, decide_eq_false_iff_not, decide_eq_false_iff_not, strOf_inj]
        exact Classical.not_and_iff_not_or_not.1 he
      simp (disch := (first | omega | decide | (simp only [rsD] <;> omega) | fail)) only [↓rsC, rsK, rsL, ↓rsEqg2_0, tick_eq, tickV_eq, ne_eq, Int.reduceAdd, Int.reduceSub, Int.reduceMul, Int.reduceEq, Int.reduceLT, Int.reduceLE, Int.reduceToNat, Nat.reduceMul, Nat.reduceAdd, Nat.reduceSub, ←decide_not, c1, c2, c3, c4, hb]
      exact ⟨⟨false, rfl, by simpa using hno⟩, F1⟩
  · rintro u w1 hu ⟨F, hq2⟩ nxt
    simp only [List.map_cons, List.map_nil, List.cons.injEq, and_true] at hu
    rw [hu]
    unfold slices_Equal_graph_Root_graph_Root_l1
    simp (disch := (first | omega | decide | (simp only [rsD] <;> omega) | fail)) only [↓rsC, rsK, rsL, ↓rsEqg2_0, tick_eq, tickV_eq, ne_eq, Int.reduceAdd, Int.reduceSub, Int.reduceMul, Int.reduceEq, Int.reduceLT, Int.reduceLE, Int.reduceToNat, Nat.reduceMul, Nat.reduceAdd, Nat.reduceSub, ←decide_not, eq_self]
    exact ⟨⟨true, rfl, by simp only [true_iff]; exact rs_ext hne fun i h1 h2 => hq2 i h1 h2 h1⟩, F⟩
abbrev rsEqg2_1 := (And.intro @ld_22 (And.intro @ld_23 (And.intro @fa_25_0 @fa_25_1)))
theorem GEqual_spec {w : World} {ns ns' : List GN} {rs rs' : List GR} {na na' ra ra' : Option Addr} {nc nc' rc rc' : Nat} (h : GIs w na nc ra rc ns rs) (h' : GIs w na' nc' ra' rc' ns' rs') (hf : FewH ns rs) (hf' : FewH ns' rs') :
    Yld Try.prog n_graph_Equal #[gV na nc ra rc ns rs, gV na' nc' ra' rc' ns' rs'] w fun u w' => BoolR (SameG ns rs ns' rs') w w' u := by
  have few : ∀ {ns : List GN} {rs : List GR}, FewH ns rs → ns.length ≤ 100000 ∧ ∀ x ∈ ns, x.p.length ≤ 1000000 ∧ x.d.length ≤ 1000000 := fun hf => ⟨by have := hf.n; omega, fun x hx => by have := hf.x x hx; omega⟩
  refine graph_Equal_of ?_
  unfold graph_Equal
  have bx : ∀ (na : Option Addr) (nc : Nat) (ra : Option Addr) (rc : Nat) (ns : List GN) (rs : List GR) (y : World) (K : K1), xBox Try.prog 25 (gV na nc ra rc ns rs) y K = K (ptr y.heap.size) (y.alloc (.cells #[.slice na ns.length nc, .slice ra rs.length rc] 25)) := fun _ _ _ _ _ _ y K => xBox_r
  rw [bx, bx]
  have B1 : Blk (w.alloc (.cells #[.slice na ns.length nc, .slice ra rs.length rc] 25)) w.heap.size 25 [.slice na ns.length nc, .slice ra rs.length rc] := Blk.at rfl
  have X1 : Ext [] w (w.alloc (.cells #[.slice na ns.length nc, .slice ra rs.length rc] 25)) := Ext.alloc _ _ _
  generalize w.alloc (.cells #[.slice na ns.length nc, .slice ra rs.length rc] 25) = y1 at *
  generalize w.heap.size = g1 at *
  have B2 : Blk (y1.alloc (.cells #[.slice na' ns'.length nc', .slice ra' rs'.length rc'] 25)) y1.heap.size 25 [.slice na' ns'.length nc', .slice ra' rs'.length rc'] := Blk.at rfl
  have X2 : Ext [] y1 (y1.alloc (.cells #[.slice na' ns'.length nc', .slice ra' rs'.length rc'] 25)) := Ext.alloc _ _ _
  generalize y1.alloc (.cells #[.slice na' ns'.length nc', .slice ra' rs'.length rc'] 25) = y2 at *
  generalize y1.heap.size = g2 at *
  have X12 := X1.trans X2
  have B12 := B1.ext X2 (by simp)
  have g := h.ext0 X12
  have g' := h'.ext0 X12
  have k1 := fun i => B12.cell (i := i)
  have k2 := fun i => B2.cell (i := i)
  simp (disch := (first | omega | decide | (simp only [rsD] <;> omega) | fail)) only [↓rsC, rsK, rsL, ↓rsEqg2_1, tick_eq, tickV_eq, ne_eq, Int.reduceAdd, Int.reduceSub, Int.reduceMul, Int.reduceEq, Int.reduceLT, Int.reduceLE, Int.reduceToNat, Nat.reduceMul, Nat.reduceAdd, Nat.reduceSub, ←decide_not, k1, k2]
  refine slices_EqualFunc_graph_Node_graph_Node_graph_Node_graph_Node_call (Yld.mono (eqNs_spec g.nr g'.nr g.ok g'.ok (few hf) (few hf')) ?_)
  rintro u y3 ⟨⟨b, rfl, hb⟩, F3⟩
  have k3 := fun i => (B12.ext F3 (by simp)).cell (i := i)
  have k4 := fun i => (B2.ext F3 (by simp)).cell (i := i)
  cases b with
  | false =>
    simp (disch := (first | omega | decide | (simp only [rsD] <;> omega) | fail)) only [↓rsC, rsK, rsL, ↓rsEqg2_1, tick_eq, tickV_eq, ne_eq, Int.reduceAdd, Int.reduceSub, Int.reduceMul, Int.reduceEq, Int.reduceLT, Int.reduceLE, Int.reduceToNat, Nat.reduceMul, Nat.reduceAdd, Nat.reduceSub, ←decide_not, k1, k2]
    exact ⟨⟨false, rfl, by simp only [Bool.false_eq_true, false_iff]; exact fun h => by have := hb.2 h.1; cases this⟩, X12.trans F3⟩
  | true =>
    simp (disch := (first | omega | decide | (simp only [rsD] <;> omega) | fail)) only [↓rsC, rsK, rsL, ↓rsEqg2_1, tick_eq, tickV_eq, ne_eq, Int.reduceAdd, Int.reduceSub, Int.reduceMul, Int.reduceEq, Int.reduceLT, Int.reduceLE, Int.reduceToNat, Nat.reduceMul, Nat.reduceAdd, Nat.reduceSub, ←decide_not, k1, k2, k3, k4]
    refine slices_Equal_graph_Root_graph_Root_call (Yld.mono (eqRs_spec (g.rr.ext0 F3) (g'.rr.ext0 F3) (by have := hf.r; omega) (by have := hf'.r; omega)) ?_)
    rintro u y4 ⟨⟨b, rfl, hb2⟩, F4⟩
    simp (disch := (first | omega | decide | (simp only [rsD] <;> omega) | fail)) only [↓rsC, rsK, rsL, ↓rsEqg2_1, tick_eq, tickV_eq, ne_eq, Int.reduceAdd, Int.reduceSub, Int.reduceMul, Int.reduceEq, Int.reduceLT, Int.reduceLE, Int.reduceToNat, Nat.reduceMul, Nat.reduceAdd, Nat.reduceSub, ←decide_not, k1, k2, k3, k4]
    exact ⟨⟨b, rfl, ⟨fun h => ⟨hb.1 rfl, hb2.1 h⟩, fun h => hb2.2 h.2⟩⟩, X12.trans (F3.trans F4)⟩
end Go.Proofs.Ythhcmoknppljpaa
end
section
set_option linter.unusedVariables false
set_option linter.unusedSimpArgs false
set_option maxHeartbeats 4000000
namespace Go.Proofs.Ythhcmoknppljpaa
open Go.Sh Go.RowKit

abbrev rsEqg3_0 := (And.intro @xu8_add (And.intro @xu8_neq (And.intro @xu8_lss (And.intro @xu16_add (And.intro @xu16_neq (And.intro @xu16_lss (And.intro @xu32_add (And.intro @xu32_neq (And.intro @xu32_lss (And.intro @xu64_add (And.intro @xu64_neq (And.intro @xu64_lss (And.intro @xi64_lss (And.intro @xi64_neq (And.intro @xi64_neg (And.intro @ld_3 
  (And.intro @ld_9 (And.intro @ld_26 (And.intro @ld_29 (And.intro @ld_30 (And.intro @ld_51 (And.intro @ld_60 (And.intro @fa_32_0 (And.intro @fa_32_1 (And.intro @fa_60_0 (And.intro @fa_60_1 (And.intro @fa_61_0 (And.intro @fa_61_1 (And.intro @al_60 (And.intro @st_60 (And.intro @ia_26 (And.intro @ia_29 (And.intro @ia_30 (And.intro @ln_26 (And.intro @ln_29 @ln_30)))))))))))))))))))))))))))))))))))
theorem REqual_spec {w : World} {ns ns' : List GN} {rs rs' : List GR} {na na' ra ra' : Option Addr} {nc nc' rc rc' : Nat} (h : GIs w na nc ra rc ns rs) (h' : GIs w na' nc' ra' rc' ns' rs') (hf : FewH ns rs) (hf' : FewH ns' rs') :
    Yld Try.prog n_loamref17_Equal #[gV na nc ra rc ns rs, gV na' nc' ra' rc' ns' rs'] w fun u w' => BoolR (SameG ns rs ns' rs') w w' u := by
  have hn1 := hf.n
  have hn2 := hf'.n
  have hr1 := hf.r
  have hr2 := hf'.r
  refine loamref17_Equal_of ?_
  unfold loamref17_Equal
  have bx : ∀ (na : Option Addr) (nc : Nat) (ra : Option Addr) (rc : Nat) (ns : List GN) (rs : List GR) (y : World) (K : K1), xBox Try.prog 32 (gV na nc ra rc ns rs) y K = K (ptr y.heap.size) (y.alloc (.cells #[.slice na ns.length nc, .slice ra rs.length rc] 32)) := fun _ _ _ _ _ _ y K => xBox_r
  rw [bx, bx]
  have B1 : Blk (w.alloc (.cells #[.slice na ns.length nc, .slice ra rs.length rc] 32)) w.heap.size 32 [.slice na ns.length nc, .slice ra rs.length rc] := Blk.at rfl
  have X1 : Ext [] w (w.alloc (.cells #[.slice na ns.length nc, .slice ra rs.length rc] 32)) := Ext.alloc _ _ _
  generalize w.alloc (.cells #[.slice na ns.length nc, .slice ra rs.length rc] 32) = y1 at *
  generalize w.heap.size = g1 at *
  have B2 : Blk (y1.alloc (.cells #[.slice na' ns'.length nc', .slice ra' rs'.length rc'] 32)) y1.heap.size 32 [.slice na' ns'.length nc', .slice ra' rs'.length rc'] := Blk.at rfl
  have X2 : Ext [] y1 (y1.alloc (.cells #[.slice na' ns'.length nc', .slice ra' rs'.length rc'] 32)) := Ext.alloc _ _ _
  generalize y1.alloc (.cells #[.slice na' ns'.length nc', .slice ra' rs'.length rc'] 32) = y2 at *
  generalize y1.heap.size = g2 at *
  have X12 := X1.trans X2
  have B12 := B1.ext X2 (by simp)
  have G := h.ext0 X12
  have G' := h'.ext0 X12
  have k1 := fun i => B12.cell (i := i)
  have k2 := fun i => B2.cell (i := i)
  by_cases hnl : ns.length = ns'.length
  case neg =>
    have : ¬ ((ns.length : Int) = ns'.length) := by omega
    simp (disch := (first | omega | decide | (simp only [rsD] <;> omega) | fail)) only [↓rsC, rsK, rsL, ↓rsEqg3_0, tick_eq, tickV_eq, ne_eq, Int.reduceAdd, Int.reduceSub, Int.reduceMul, Int.reduceEq, Int.reduceLT, Int.reduceLE, Int.reduceToNat, Nat.reduceMul, Nat.reduceAdd, Nat.reduceSub, ←decide_not, k1, k2]
    exact ⟨⟨false, rfl, by simp only [Bool.false_eq_true, false_iff]; exact fun e => hnl (by simpa using congrArg List.length e.1)⟩, X12⟩
  by_cases hrl : rs.length = rs'.length
  case neg =>
    have : ¬ ((rs.length : Int) = rs'.length) := by omega
    have : ((ns.length : Int) = ns'.length) := by omega
    simp (disch := (first | omega | decide | (simp only [rsD] <;> omega) | fail)) only [↓rsC, rsK, rsL, ↓rsEqg3_0, tick_eq, tickV_eq, ne_eq, Int.reduceAdd, Int.reduceSub, Int.reduceMul, Int.reduceEq, Int.reduceLT, Int.reduceLE, Int.reduceToNat, Nat.reduceMul, Nat.reduceAdd, Nat.reduceSub, ←decide_not, k1, k2]
    exact ⟨⟨false, rfl, by simp only [Bool.false_eq_true, false_iff]; exact fun e => hrl (by rw [e.2])⟩, X12⟩
  have hnl' : ((ns.length : Int) = ns'.length) := by omega
  have hrl' : ((rs.length : Int) = rs'.length) := by omega
  simp (disch := (first | omega | decide | (simp only [rsD] <;> omega) | fail)) only [↓rsC, rsK, rsL, ↓rsEqg3_0, tick_eq, tickV_eq, ne_eq, Int.reduceAdd, Int.reduceSub, Int.reduceMul, Int.reduceEq, Int.reduceLT, Int.reduceLE, Int.reduceToNat, Nat.reduceMul, Nat.reduceAdd, Nat.reduceSub, ←decide_not, k1, k2]
  refine xLoop_n ns.length (fun j => [i64 (j : Int)]) (fun j w' => Ext [] y2 w' ∧ ∀ i (hi : i < ns.length) (hi' : i < ns'.length), i < j → ns[i].p = ns'[i].p ∧ ns[i].d = ns'[i].d) rfl ⟨Ext.refl _ _, by intro i _ _ hi; omega⟩ ?_ ?_
  · rintro j hj u w1 hu ⟨F, hq2⟩ nxt hn
    simp only [List.map_cons, List.map_nil, List.cons.injEq, and_true] at hu
    rw [hu]
    have hj' : j < ns'.length := by omega
    obtain ⟨b, o, rfl, hlt, c1, c2⟩ := gn_at (G.nr.ext0 F) hj
    have m1 := List.getElem_mem hj
    have m2 := List.getElem_mem hj'
    have x1 := (G.ok _ m1).ext0 F
    have x2 := (G'.ok _ m2).ext0 F
    have l1 := hf.x _ m1
    have l2 := hf'.x _ m2
    have diff : ∀ w' : World, Ext [] y2 w' → ¬ (ns[j].p = ns'[j].p ∧ ns[j].d = ns'[j].d) → BoolR (SameG ns rs ns' rs') w w' (.bool false) := fun w' F' hne => ⟨⟨false, rfl, by simp only [Bool.false_eq_true, false_iff]; exact fun e => hne ((sameN_at hnl).1 e.1 j hj hj')⟩, X12.trans F'⟩
    have kk1 := fun i => (B12.ext F (by simp)).cell (i := i)
    have zg2 := (B2.ext F (by simp)).lt
    have kk2 := fun i => (B2.ext F (by simp)).cell (i := i)
    unfold loamref17_Equal_l1
    simp (disch := (first | omega | decide | (simp only [rsD] <;> omega) | fail)) only [↓rsC, rsK, rsL, ↓rsEqg3_0, tick_eq, tickV_eq, ne_eq, Int.reduceAdd, Int.reduceSub, Int.reduceMul, Int.reduceEq, Int.reduceLT, Int.reduceLE, Int.reduceToNat, Nat.reduceMul, Nat.reduceAdd, Nat.reduceSub, ←decide_not, k1, k2, kk1, c1, c2, kk2]
    obtain ⟨bb, oo, rfl, hlt2, c3, c4⟩ := gn_at (G'.nr.ext0 F) hj'
    simp (disch := (first | omega | decide | (simp only [rsD] <;> omega) | fail)) only [↓rsC, rsK, rsL, ↓rsEqg3_0, tick_eq, tickV_eq, ne_eq, Int.reduceAdd, Int.reduceSub, Int.reduceMul, Int.reduceEq, Int.reduceLT, Int.reduceLE, Int.reduceToNat, Nat.reduceMul, Nat.reduceAdd, Nat.reduceSub, ←decide_not, k1, k2, kk1, c1, c2, kk2, c3, c4]
    have hq3 : (ns[j].p = ns'[j].p ∧ ns[j].d = ns'[j].d) → ∀ i (hi : i < ns.length) (hi' : i < ns'.length), i < j + 1 → ns[i].p = ns'[i].p ∧ ns[i].d = ns'[i].d := fun he i hi hi' h3 => by
      by_cases ei : i = j
      · subst ei; exact he
      · exact hq2 i hi hi' (by omega)
    generalize ns[j] = x at *
    generalize ns'[j] = y at *
    have B3 : Blk (w1.alloc (.cells #[.slice x.pa x.p.length x.pc, .slice x.da x.d.length x.dc] 60)) w1.heap.size 60 [.slice x.pa x.p.length x.pc, .slice x.da x.d.length x.dc] := Blk.at rfl
    have X3 : Ext [] w1 (w1.alloc (.cells #[.slice x.pa x.p.length x.pc, .slice x.da x.d.length x.dc] 60)) := Ext.alloc _ _ _
    generalize w1.alloc (.cells #[.slice x.pa x.p.length x.pc, .slice x.da x.d.length x.dc] 60) = y3 at *
    generalize w1.heap.size = g3 at *
    have B4 : Blk (y3.alloc (.cells #[.slice y.pa y.p.length y.pc, .slice y.da y.d.length y.dc] 60)) y3.heap.size 60 [.slice y.pa y.p.length y.pc, .slice y.da y.d.length y.dc] := Blk.at rfl
    have X4 : Ext [] y3 (y3.alloc (.cells #[.slice y.pa y.p.length y.pc, .slice y.da y.d.length y.dc] 60)) := Ext.alloc _ _ _
    generalize y3.alloc (.cells #[.slice y.pa y.p.length y.pc, .slice y.da y.d.length y.dc] 60) = y4 at *
    generalize y3.heap.size = g4 at *
    have X34 := X3.trans X4
    have F4 := F.trans X34
    have B34 := B3.ext X4 (by simp)
    have x1 := x1.ext0 X34
    have x2 := x2.ext0 X34
    have k3 := fun i => B34.cell (i := i)
    have k4 := fun i => B4.cell (i := i)
    by_cases hp : x.p.length = y.p.length
    case neg =>
      have hp' : ¬ ((x.p.length : Int) = y.p.length) := by omega
      simp (disch := (first | omega | decide | (simp only [rsD] <;> omega) | fail)) only [↓rsC, rsK, rsL, ↓rsEqg3_0, tick_eq, tickV_eq, ne_eq, Int.reduceAdd, Int.reduceSub, Int.reduceMul, Int.reduceEq, Int.reduceLT, Int.reduceLE, Int.reduceToNat, Nat.reduceMul, Nat.reduceAdd, Nat.reduceSub, ←decide_not, k1, k2, kk1, c1, c2, kk2, c3, c4, hp']
      exact diff y4 F4 fun e => hp (by rw [e.1])
    have hp' : ((x.p.length : Int) = y.p.length) := by omega
    have hcv := fun (K : K1) => xConv_str (P := Try.prog) (w := y4) (s := 51) (d := 9) (e := 5) (a := x.da) (n := x.d.length) (c := x.dc) (l := x.d) (K := K) (by kernel_rfl) (by kernel_rfl) (by kernel_rfl) rfl x1.dr
    have hcv' := fun (K : K1) => xConv_str (P := Try.prog) (w := y4) (s := 51) (d := 9) (e := 5) (a := y.da) (n := y.d.length) (c := y.dc) (l := y.d) (K := K) (by kernel_rfl) (by kernel_rfl) (by kernel_rfl) rfl x2.dr
    by_cases hd : x.d = y.d
    case neg =>
      have hd' : ¬ (strOf x.d = strOf y.d) := fun e => hd (strOf_inj.1 e)
      simp (disch := (first | omega | decide | (simp only [rsD] <;> omega) | fail)) only [↓rsC, rsK, rsL, ↓rsEqg3_0, tick_eq, tickV_eq, ne_eq, Int.reduceAdd, Int.reduceSub, Int.reduceMul, Int.reduceEq, Int.reduceLT, Int.reduceLE, Int.reduceToNat, Nat.reduceMul, Nat.reduceAdd, Nat.reduceSub, ←decide_not, k1, k2, kk1, c1, c2, kk2, c3, c4, hp', k3, k4, hcv, hcv', hd']
      exact diff y4 F4 fun e => hd e.2
    have hd' : strOf x.d = strOf y.d := by rw [hd]
    simp (disch := (first | omega | decide | (simp only [rsD] <;> omega) | fail)) only [↓rsC, rsK, rsL, ↓rsEqg3_0, tick_eq, tickV_eq, ne_eq, Int.reduceAdd, Int.reduceSub, Int.reduceMul, Int.reduceEq, Int.reduceLT, Int.reduceLE, Int.reduceToNat, Nat.reduceMul, Nat.reduceAdd, Nat.reduceSub, ←decide_not, k1, k2, kk1, c1, c2, kk2, c3, c4, hp', k3, k4, hcv, hcv', hd']
    refine xLoop_n x.p.length (fun i => [i64 (i : Int)]) (fun k w' => Ext [] y4 w' ∧ ∀ i (hi : i < x.p.length) (hi' : i < y.p.length), i < k → x.p[i] = y.p[i]) rfl ⟨Ext.refl _ _, by intro i _ _ hi; omega⟩ ?_ ?_
    · rintro k hk u w5 hu ⟨F5, hq5⟩ nxt2 hn5
      simp only [List.map_cons, List.map_nil, List.cons.injEq, and_true] at hu
      rw [hu]
      have hk' : k < y.p.length := by omega
      have F5d := F5.trans (Ext.drew [] w5)
      have k3 := fun i => (B34.ext F5 (by simp)).cell (i := i)
      have k3d := fun i => (B34.ext F5d (by simp)).cell (i := i)
      have k4d := fun i => (B4.ext F5d (by simp)).cell (i := i)
      obtain ⟨ba, oa, ea, _, ca⟩ := its_at (x1.pr.ext0 F5) hk
      obtain ⟨bc, oc, ec, _, cc⟩ := its_at (x2.pr.ext0 F5) hk'
      have hq6 : x.p[k] = y.p[k] → ∀ i (hi : i < x.p.length) (hi' : i < y.p.length), i < k + 1 → x.p[i] = y.p[i] := fun he i hi hi' h3 => by
        by_cases ei : i = k
        · subst ei; exact he
        · exact hq5 i hi hi' (by omega)
      have hdf : ¬ x.p[k] = y.p[k] → ¬ (x.p = y.p ∧ x.d = y.d) := fun hne e => hne (by have := e.1; simp only [this])
      unfold loamref17_Equal_l2
      by_cases he : x.p[k] = y.p[k]
      case neg =>
        have hdf2 := hdf he
        generalize x.p[k] = xk at *
        generalize y.p[k] = yk at *
        simp (disch := (first | omega | decide | (simp only [rsD] <;> omega) | fail)) only [↓rsC, rsK, rsL, ↓rsEqg3_0, tick_eq, tickV_eq, ne_eq, Int.reduceAdd, Int.reduceSub, Int.reduceMul, Int.reduceEq, Int.reduceLT, Int.reduceLE, Int.reduceToNat, Nat.reduceMul, Nat.reduceAdd, Nat.reduceSub, ←decide_not, k1, k2, kk1, c1, c2, kk2, c3, c4, hp', k3, k4, hcv, hcv', hd', k3d, k4d, ea, ec, ca, cc, he]
        exact diff _ (F4.trans F5d) hdf2
      have hq7 := hq6 he
      rw [he] at ca
      generalize y.p[k] = yk at *
      simp (disch := (first | omega | decide | (simp only [rsD] <;> omega) | fail)) only [↓rsC, rsK, rsL, ↓rsEqg3_0, tick_eq, tickV_eq, ne_eq, Int.reduceAdd, Int.reduceSub, Int.reduceMul, Int.reduceEq, Int.reduceLT, Int.reduceLE, Int.reduceToNat, Nat.reduceMul, Nat.reduceAdd, Nat.reduceSub, ←decide_not, k1, k2, kk1, c1, c2, kk2, c3, c4, hp', k3, k4, hcv, hcv', hd', k3d, k4d, ea, ec, ca, cc]
      exact hn5 _ ⟨F5d, hq7⟩
    · rintro u w5 hu ⟨F5, hq5⟩ nxt2
      simp only [List.map_cons, List.map_nil, List.cons.injEq, and_true] at hu
      rw [hu]
      have k3 := fun i => (B34.ext F5 (by simp)).cell (i := i)
      have hxy : x.p = y.p := List.ext_getElem hp fun i h1 h2 => hq5 i h1 h2 h1
      unfold loamref17_Equal_l2
      simp (disch := (first | omega | decide | (simp only [rsD] <;> omega) | fail)) only [↓rsC, rsK, rsL, ↓rsEqg3_0, tick_eq, tickV_eq, ne_eq, Int.reduceAdd, Int.reduceSub, Int.reduceMul, Int.reduceEq, Int.reduceLT, Int.reduceLE, Int.reduceToNat, Nat.reduceMul, Nat.reduceAdd, Nat.reduceSub, ←decide_not, k1, k2, kk1, c1, c2, kk2, c3, c4, hp', k3, k4, hcv, hcv', hd']
      exact hn _ ⟨F4.trans F5, hq3 ⟨hxy, hd⟩⟩
  · rintro u w1 hu ⟨F, hq2⟩ nxt
    simp only [List.map_cons, List.map_nil, List.cons.injEq, and_true] at hu
    rw [hu]
    have hsn : SameN ns ns' := (sameN_at hnl).2 fun i h1 h2 => hq2 i h1 h2 h1
    have kk1 := fun i => (B12.ext F (by simp)).cell (i := i)
    unfold loamref17_Equal_l1
    simp (disch := (first | omega | decide | (simp only [rsD] <;> omega) | fail)) only [↓rsC, rsK, rsL, ↓rsEqg3_0, tick_eq, tickV_eq, ne_eq, Int.reduceAdd, Int.reduceSub, Int.reduceMul, Int.reduceEq, Int.reduceLT, Int.reduceLE, Int.reduceToNat, Nat.reduceMul, Nat.reduceAdd, Nat.reduceSub, ←decide_not, k1, k2, kk1]
    refine xLoop_n rs.length (fun j => [i64 (j : Int)]) (fun j w' => Ext [] y2 w' ∧ ∀ i (hi : i < rs.length) (hi' : i < rs'.length), i < j → rs[i].s = rs'[i].s ∧ rs[i].to = rs'[i].to) rfl ⟨F, by intro i _ _ hi; omega⟩ ?_ ?_
    · rintro j hj u w5 hu ⟨F5, hq5⟩ nxt2 hn5
      simp only [List.map_cons, List.map_nil, List.cons.injEq, and_true] at hu
      rw [hu]
      have hj' : j < rs'.length := by omega
      have F5d := F5.trans (Ext.drew [] w5)
      have k3 := fun i => (B12.ext F5 (by simp)).cell (i := i)
      have k3d := fun i => (B12.ext F5d (by simp)).cell (i := i)
      have k4d := fun i => (B2.ext F5d (by simp)).cell (i := i)
      obtain ⟨b, o, rfl, hlt, c1, c2⟩ := gr_at (G.rr.ext0 F5d) hj
      obtain ⟨bb, oo, rfl, hlt2, c3, c4⟩ := gr_at (G'.rr.ext0 F5d) hj'
      have diff : ∀ w' : World, Ext [] y2 w' → ¬ (rs[j].s = rs'[j].s ∧ rs[j].to = rs'[j].to) → BoolR (SameG ns rs ns' rs') w w' (.bool false) := fun w' F' hne => ⟨⟨false, rfl, by simp only [Bool.false_eq_true, false_iff]; exact fun e => hne (by have := e.2; subst this; exact ⟨rfl, rfl⟩)⟩, X12.trans F'⟩
      have hq6 : (rs[j].s = rs'[j].s ∧ rs[j].to = rs'[j].to) → ∀ i (hi : i < rs.length) (hi' : i < rs'.length), i < j + 1 → rs[i].s = rs'[i].s ∧ rs[i].to = rs'[i].to := fun he i hi hi' h3 => by
        by_cases ei : i = j
        · subst ei; exact he
        · exact hq5 i hi hi' (by omega)
      generalize rs[j] = x at *
      generalize rs'[j] = y at *
      unfold loamref17_Equal_l3
      by_cases hs : x.s = y.s
      case neg =>
        have hs' : ¬ (strOf x.s = strOf y.s) := fun e => hs (strOf_inj.1 e)
        simp (disch := (first | omega | decide | (simp only [rsD] <;> omega) | fail)) only [↓rsC, rsK, rsL, ↓rsEqg3_0, tick_eq, tickV_eq, ne_eq, Int.reduceAdd, Int.reduceSub, Int.reduceMul, Int.reduceEq, Int.reduceLT, Int.reduceLE, Int.reduceToNat, Nat.reduceMul, Nat.reduceAdd, Nat.reduceSub, ←decide_not, k1, k2, kk1, k3, k3d, k4d, c1, c3, hs']
        exact diff _ F5d fun e => hs e.1
      have hs' : strOf x.s = strOf y.s := by rw [hs]
      by_cases ht : x.to = y.to
      case neg =>
        simp (disch := (first | omega | decide | (simp only [rsD] <;> omega) | fail)) only [↓rsC, rsK, rsL, ↓rsEqg3_0, tick_eq, tickV_eq, ne_eq, Int.reduceAdd, Int.reduceSub, Int.reduceMul, Int.reduceEq, Int.reduceLT, Int.reduceLE, Int.reduceToNat, Nat.reduceMul, Nat.reduceAdd, Nat.reduceSub, ←decide_not, k1, k2, kk1, k3, k3d, k4d, c1, c2, c3, c4, hs', ht]
        exact diff _ F5d fun e => ht e.2
      simp (disch := (first | omega | decide | (simp only [rsD] <;> omega) | fail)) only [↓rsC, rsK, rsL, ↓rsEqg3_0, tick_eq, tickV_eq, ne_eq, Int.reduceAdd, Int.reduceSub, Int.reduceMul, Int.reduceEq, Int.reduceLT, Int.reduceLE, Int.reduceToNat, Nat.reduceMul, Nat.reduceAdd, Nat.reduceSub, ←decide_not, k1, k2, kk1, k3, k3d, k4d, c1, c2, c3, c4, hs', ht]
      exact hn5 _ ⟨F5d, hq6 ⟨hs, ht⟩⟩
    · rintro u w5 hu ⟨F5, hq5⟩ nxt2
      simp only [List.map_cons, List.map_nil, List.cons.injEq, and_true] at hu
      rw [hu]
      have k3 := fun i => (B12.ext F5 (by simp)).cell (i := i)
      have hrs : rs = rs' := rs_ext hrl fun i h1 h2 => hq5 i h1 h2 h1
      unfold loamref17_Equal_l3
      simp (disch := (first | omega | decide | (simp only [rsD] <;> omega) | fail)) only [↓rsC, rsK, rsL, ↓rsEqg3_0, tick_eq, tickV_eq, ne_eq, Int.reduceAdd, Int.reduceSub, Int.reduceMul, Int.reduceEq, Int.reduceLT, Int.reduceLE, Int.reduceToNat, Nat.reduceMul, Nat.reduceAdd, Nat.reduceSub, ←decide_not, k1, k2, kk1, k3]
      exact ⟨⟨true, rfl, by simp only [true_iff]; exact ⟨hsn, hrs⟩⟩, X12.trans F5⟩
end Go.Proofs.Ythhcmoknppljpaa
end
section
set_option linter.unusedVariables false
set_option linter.unusedSimpArgs false
set_option maxHeartbeats 4000000
namespace Go.Proofs.Ythhcmoknppljpaa
open Go.Sh Go.RowKit

theorem trim_few {ns ns' : List GN} {rs : List GR} {bs : List Bool} {fr : List Int} (R : RchOk ns fr bs) (hf : FewH ns rs) (h : ns'.map bare = trNs ns bs) : FewH ns' (trRs rs bs) := by
  have hl : ns'.length = bs.countP id := by
    have := congrArg List.length h
    rw [List.length_map] at this
    rw [this]
    exact sel_len _ _ _ R.len
  have hc := List.countP_le_length (p := id) (l := bs)
  have hlen := R.len
  refine ⟨by have := hf.n; omega, by simpa [trRs] using hf.r, fun x hx => ?_⟩
  have hm : bare x ∈ trNs ns bs := by rw [← h]; exact List.mem_map.2 ⟨x, hx, rfl⟩
  obtain ⟨y, hy, e⟩ := sel_mem _ _ _ _ hm
  have e1 : x.p.length = y.p.length := by
    have := congrArg (fun z => z.p.length) e
    simpa [bare, trN] using this
  have e2 : x.d.length = y.d.length := by
    have := congrArg (fun z => z.d.length) e
    simpa [bare, trN] using this
  rw [e1, e2]
  exact hf.x y hy
end Go.Proofs.Ythhcmoknppljpaa
end
section
set_option linter.unusedVariables false
set_option linter.unusedSimpArgs false
set_option maxHeartbeats 4000000
namespace Go.Proofs.Ythhcmoknppljpaa
open Go.Sh Go.RowKit

def hN (a b : Nat) : List GN := [⟨[2], some ⟨a, 0, none⟩, 1, [], none, 0⟩, ⟨[], none, 0, [120#8], some ⟨b, 0, none⟩, 1⟩, ⟨[], none, 0, [], none, 0⟩]
def hR : List GR := [⟨[97#8], 1⟩]
theorem h_good (a b : Nat) : GoodG (hN a b) hR := by
  refine ⟨fun x hx => ?_, by decide, fun r hr => ?_, fun i hi => ?_⟩
  · simp only [hN, List.mem_cons, List.not_mem_nil, or_false] at hx
    rcases hx with rfl | rfl | rfl <;> simp [hN]
  · simp only [hR, List.mem_cons, List.not_mem_nil, or_false] at hr
    subst hr
    simp [hN]
  · simp [hR] at hi
theorem h_gW (a b : Nat) : gW (hN a b) = 5 := by
  rw [← bare_gW, show (hN a b).map bare = (hN 0 0).map bare from rfl]
  decide
theorem rch_bs {ns : List GN} {fr : List Int} {bs : List Bool} (h : RchOk ns fr bs) : bs = (List.range ns.length).map fun (i : Nat) => decide (((i : Int) + 1) ∈ ordV ns fr) := by
  refine List.ext_getElem (by simp [h.len]) fun i h1 h2 => ?_
  rw [Bool.eq_iff_iff, h.iff i h1, ← ord_mem]
  simp
theorem h_ord1 (a b : Nat) : ordV (hN a b) [1] = [1, 2] := by rfl
theorem h_ord2 (a b : Nat) : ordV (hN a b) [2] = [2] := by rfl
theorem few_bare {ns ns' : List GN} {rs : List GR} (h : ns'.map bare = ns.map bare) (hf : FewH ns rs) : FewH ns' rs := by
  have hl : ns'.length = ns.length := by simpa using congrArg List.length h
  refine ⟨by have := hf.n; omega, hf.r, fun x hx => ?_⟩
  obtain ⟨i, hi, rfl⟩ := List.getElem_of_mem hx
  obtain ⟨e1, e2⟩ := (sameN_at hl).1 h i hi (by omega)
  rw [e1, e2]
  exact hf.x _ (List.getElem_mem _)
theorem boolTrue {p : Prop} {w w' : World} {u : Value} (h : BoolR p w w' u) (hp : p) : u = .bool true ∧ Ext [] w w' := by
  obtain ⟨⟨b, rfl, hb⟩, F⟩ := h
  rw [hb.2 hp]
  exact ⟨rfl, F⟩
theorem boolFalse {p : Prop} {w w' : World} {u : Value} (h : BoolR p w w' u) (hp : ¬ p) : u = .bool false ∧ Ext [] w w' := by
  obtain ⟨⟨b, rfl, hb⟩, F⟩ := h
  cases b with
  | true => exact absurd (hb.1 rfl) hp
  | false => exact ⟨rfl, F⟩
abbrev rsKn17_0 := (And.intro @xu8_com (And.intro @xu8_eql (And.intro @xu16_com (And.intro @xu16_eql (And.intro @xu32_com (And.intro @xu32_eql (And.intro @xu64_com (And.intro @xu64_eql (And.intro @xi64_eql (And.intro @ld_3 (And.intro @ld_4 (And.intro @ld_22 (And.intro @ld_25 (And.intro @fa_25_0 (And.intro @al_25 (And.intro @st_25 (And.intro @bd_25_0_1 
  (And.intro @bd_25_0 (And.intro @bd_25 (And.intro @bd_53_0 (And.intro @bd_53_0_1 (And.intro @bd_53_1 (And.intro @bd_53 (And.intro @bd_58_0_1 (And.intro @ia_26 (And.intro @ia_37 (And.intro @ln_22 (And.intro @ln_26 (And.intro @ln_37 (And.intro @bs_22_1 (And.intro @bs_22_3 (And.intro @bs_23_0 (And.intro @bs_23_1 (And.intro @bs_26_0 (And.intro @bs_26_1 (And.intro @bs_51_0 
  (And.intro @bs_51_1 @bs_51_2)))))))))))))))))))))))))))))))))))))
theorem known17_spec (w : World) : Gives Try.prog n_loamlaw17_known #[] w (.bool true) := by
  refine loamlaw17_known_of ?_
  unfold loamlaw17_known
  simp (disch := (first | omega | decide | (simp only [rsD] <;> omega) | fail)) only [↓rsC, rsK, rsL, ↓rsKn17_0, tick_eq, tickV_eq, ne_eq, Int.reduceAdd, Int.reduceSub, Int.reduceMul, Int.reduceEq, Int.reduceLT, Int.reduceLE, Int.reduceToNat, Nat.reduceMul, Nat.reduceAdd, Nat.reduceSub, ←decide_not, eq_self]
  have B1 : Blk (w.alloc (.cells #[i64 2] 3)) w.heap.size 3 [i64 2] := Blk.at rfl
  have X1 : Ext [] w (w.alloc (.cells #[i64 2] 3)) := Ext.alloc _ _ _
  have zs1 : (w.alloc (.cells #[i64 2] 3)).heap.size = w.heap.size + 1 := World.size_alloc _ _
  generalize w.alloc (.cells #[i64 2] 3) = y1 at *
  rw [← zs1]
  refine xConv_bytes (cs := bys [120#8]) (by kernel_rfl) (by kernel_rfl) fun y2 X2 R2 z2 => ?_
  have R1 := B1.row.ext0 X2
  generalize w.heap.size = g1 at *
  generalize y1.heap.size = g2 at *
  simp (disch := (first | omega | decide | (simp only [rsD] <;> omega) | fail)) only [↓rsC, rsK, rsL, ↓rsKn17_0, tick_eq, tickV_eq, ne_eq, Int.reduceAdd, Int.reduceSub, Int.reduceMul, Int.reduceEq, Int.reduceLT, Int.reduceLE, Int.reduceToNat, Nat.reduceMul, Nat.reduceAdd, Nat.reduceSub, ←decide_not, eq_self]
  have zs3 : (y2.alloc (.cells #[.slice (some ⟨g1, 0, none⟩) 1 1, .slice none 0 0, .slice none 0 0, .slice (some ⟨g2, 0, none⟩) 1 1, .slice none 0 0, .slice none 0 0] 53)).heap.size = y2.heap.size + 1 := World.size_alloc _ _
  have B3 : Blk (y2.alloc (.cells #[.slice (some ⟨g1, 0, none⟩) 1 1, .slice none 0 0, .slice none 0 0, .slice (some ⟨g2, 0, none⟩) 1 1, .slice none 0 0, .slice none 0 0] 53)) y2.heap.size 53 [.slice (some ⟨g1, 0, none⟩) 1 1, .slice none 0 0, .slice none 0 0, .slice (some ⟨g2, 0, none⟩) 1 1, .slice none 0 0, .slice none 0 0] := Blk.at rfl
  have X3 : Ext [] y2 (y2.alloc (.cells #[.slice (some ⟨g1, 0, none⟩) 1 1, .slice none 0 0, .slice none 0 0, .slice (some ⟨g2, 0, none⟩) 1 1, .slice none 0 0, .slice none 0 0] 53)) := Ext.alloc _ _ _
  generalize y2.alloc (.cells #[.slice (some ⟨g1, 0, none⟩) 1 1, .slice none 0 0, .slice none 0 0, .slice (some ⟨g2, 0, none⟩) 1 1, .slice none 0 0, .slice none 0 0] 53) = y3 at *
  rw [← zs3]
  generalize y2.heap.size = g3 at *
  have B4 : Blk (y3.alloc (.cells #[.string ⟨#[97]⟩, i64 1] 58)) y3.heap.size 58 [.string ⟨#[97]⟩, i64 1] := Blk.at rfl
  have X4 : Ext [] y3 (y3.alloc (.cells #[.string ⟨#[97]⟩, i64 1] 58)) := Ext.alloc _ _ _
  have zs4 : (y3.alloc (.cells #[.string ⟨#[97]⟩, i64 1] 58)).heap.size = y3.heap.size + 1 := World.size_alloc _ _
  generalize y3.alloc (.cells #[.string ⟨#[97]⟩, i64 1] 58) = y4 at *
  generalize y3.heap.size = g4 at *
  have B5 : Blk (y4.alloc (.cells #[.slice (some ⟨g3, 0, none⟩) 3 3, .slice (some ⟨g4, 0, none⟩) 1 1] 25)) y4.heap.size 25 [.slice (some ⟨g3, 0, none⟩) 3 3, .slice (some ⟨g4, 0, none⟩) 1 1] := Blk.at rfl
  have X5 : Ext [] y4 (y4.alloc (.cells #[.slice (some ⟨g3, 0, none⟩) 3 3, .slice (some ⟨g4, 0, none⟩) 1 1] 25)) := Ext.alloc _ _ _
  generalize y4.alloc (.cells #[.slice (some ⟨g3, 0, none⟩) 3 3, .slice (some ⟨g4, 0, none⟩) 1 1] 25) = y5 at *
  try rw [← zs4]
  obtain ⟨g5, hg5⟩ : ∃ g, g = y4.heap.size := ⟨_, rfl⟩
  try rw [← hg5] at B5 ⊢
  have cA : ({ data := #[97] } : ByteArray) = strOf [97#8] := by decide +kernel
  have X25 := X3.trans (X4.trans X5)
  have Xw : Ext [] w y5 := X1.trans (X2.trans X25)
  have G : GIs y5 (some ⟨g3, 0, none⟩) 3 (some ⟨g4, 0, none⟩) 1 (hN g1 g2) hR := by
    refine ⟨(B3.ext (X4.trans X5) (by simp)).row, Nat.le_refl _, fun e => (by cases e), ?_, Nat.le_refl _, fun e => (by cases e), fun x hx => ?_⟩
    · have := (B4.ext X5 (by simp)).row
      rw [cA] at this
      exact this
    · simp only [hN, List.mem_cons, List.not_mem_nil, or_false] at hx
      rcases hx with rfl | rfl | rfl
      · exact ⟨R1.ext0 X25, Nat.le_refl _, fun e => (by cases e), .nil, Nat.le_refl _, fun _ => rfl⟩
      · exact ⟨.nil, Nat.le_refl _, fun _ => rfl, R2.ext0 X25, Nat.le_refl _, fun e => (by cases e)⟩
      · exact ⟨.nil, Nat.le_refl _, fun _ => rfl, .nil, Nat.le_refl _, fun _ => rfl⟩
  have hf : FewH (hN g1 g2) hR := ⟨by simp [hN], by simp [hR], fun x hx => by
    simp only [hN, List.mem_cons, List.not_mem_nil, or_false] at hx
    rcases hx with rfl | rfl | rfl <;> simp⟩
  have hT : Yld Try.prog n_graph_Trim #[.agg #[.slice (some ⟨g3, 0, none⟩) 3 3, .slice (some ⟨g4, 0, none⟩) 1 1], .slice none 0 0] y5 fun u w' => TrimR y5 (hN g1 g2) hR [] u w' := Trim_spec (keep := []) (a := none) (c := 0) G hf .nil (Nat.le_refl _) (fun _ => rfl) (by simp)
  refine graph_Trim_call (Yld.mono hT ?_)
  rintro u y6 ⟨F6, bs, na', nc', ra', rc', ns', v, hbs, hns, rfl, G6, av, cv, rfl, hcv, R6⟩
  have ebs := rch_bs hbs
  rw [show tosL hR ++ [] = [1] from rfl, h_ord1] at ebs
  replace ebs : bs = [true, true, false] := ebs
  subst ebs
  have hn2 : ns'.length = 2 := (by simpa using congrArg List.length hns : ns'.length = (trNs (hN g1 g2) [true, true, false]).length).trans rfl
  simp (disch := (first | omega | decide | (simp only [rsD] <;> omega) | fail)) only [↓rsC, rsK, rsL, ↓rsKn17_0, tick_eq, tickV_eq, ne_eq, Int.reduceAdd, Int.reduceSub, Int.reduceMul, Int.reduceEq, Int.reduceLT, Int.reduceLE, Int.reduceToNat, Nat.reduceMul, Nat.reduceAdd, Nat.reduceSub, ←decide_not, eq_self]
  have B7 : Blk (y6.alloc (.cells #[.slice na' ns'.length nc', .slice ra' (trRs hR [true, true, false]).length rc'] 25)) y6.heap.size 25 [.slice na' ns'.length nc', .slice ra' (trRs hR [true, true, false]).length rc'] := Blk.at rfl
  have X7 : Ext [] y6 (y6.alloc (.cells #[.slice na' ns'.length nc', .slice ra' (trRs hR [true, true, false]).length rc'] 25)) := Ext.alloc _ _ _
  generalize y6.alloc (.cells #[.slice na' ns'.length nc', .slice ra' (trRs hR [true, true, false]).length rc'] 25) = y7 at *
  generalize y6.heap.size = g7 at *
  have c5 := fun i => (B5.ext (F6.trans X7) (by simp)).cell (i := i)
  simp (disch := (first | omega | decide | (simp only [rsD] <;> omega) | fail)) only [↓rsC, rsK, rsL, ↓rsKn17_0, tick_eq, tickV_eq, ne_eq, Int.reduceAdd, Int.reduceSub, Int.reduceMul, Int.reduceEq, Int.reduceLT, Int.reduceLE, Int.reduceToNat, Nat.reduceMul, Nat.reduceAdd, Nat.reduceSub, ←decide_not, c5]
  have B8 : Blk (y7.alloc (.cells #[i64 2] 3)) y7.heap.size 3 [i64 2] := Blk.at rfl
  have X8 : Ext [] y7 (y7.alloc (.cells #[i64 2] 3)) := Ext.alloc _ _ _
  generalize y7.alloc (.cells #[i64 2] 3) = y8 at *
  generalize y7.heap.size = g8 at *
  have E58 := F6.trans (X7.trans X8)
  have hR2 : Yld Try.prog n_graph_Reach #[.agg #[.slice (some ⟨g3, 0, none⟩) 3 3, .slice (some ⟨g4, 0, none⟩) 1 1], .slice (some ⟨g8, 0, none⟩) 1 1] y8 fun u w' => ∃ bs, RchOk (hN g1 g2) [2] bs ∧ NewR 4 1 y8 w' u bs.length (bls bs) := Reach_spec (fr := [2]) (G.ext0 E58) hf B8.row (fun e => (by cases e)) (by simp)
  refine graph_Reach_call (Yld.mono hR2 ?_)
  rintro u y9 ⟨bs, hbs2, N9⟩
  have ebs := rch_bs hbs2
  rw [h_ord2] at ebs
  replace ebs : bs = [false, true, false] := ebs
  subst ebs
  obtain ⟨r9, k9, rfl, _, _, _, R9, _⟩ := N9.2.1.slice
  have E9 := N9.1
  have c59 := fun i => (B5.ext (F6.trans (X7.trans (X8.trans E9))) (by simp)).cell (i := i)
  simp (disch := (first | omega | decide | (simp only [rsD] <;> omega) | fail)) only [↓rsC, rsK, rsL, ↓rsKn17_0, tick_eq, tickV_eq, ne_eq, Int.reduceAdd, Int.reduceSub, Int.reduceMul, Int.reduceEq, Int.reduceLT, Int.reduceLE, Int.reduceToNat, Nat.reduceMul, Nat.reduceAdd, Nat.reduceSub, ←decide_not, c5, c59]
  obtain ⟨b6, o6, rfl, _, c6⟩ := R6.get (by simp [its, noL])
  obtain ⟨b9, o9, rfl, _, c9⟩ := R9.get (by simp [bls])
  have R6w := fun {w' : World} (E : Ext [] y6 w') => (R6.ext0 E)
  have Ed : Ext [] y9 y9.drew := Ext.drew _ _
  generalize y9.drew = y10 at *
  have E610 := X7.trans (X8.trans (E9.trans Ed))
  have E510 := F6.trans E610
  have c510 := fun i => (B5.ext E510 (by simp)).cell (i := i)
  have c710 := fun i => (B7.ext (X8.trans (E9.trans Ed)) (by simp)).cell (i := i)
  have c6b : y10.cell? ⟨b6, o6 + 1, none⟩ = some (i64 2) := by
    obtain ⟨_, _, h1, _, h2⟩ := (R6.ext0 E610).get (by simp [its, noL])
    cases h1
    exact h2 1 _ rfl
  have c6c : y10.cell? ⟨b6, o6 + 2, none⟩ = some (i64 0) := by
    obtain ⟨_, _, h1, _, h2⟩ := (R6.ext0 E610).get (by simp [its, noL])
    cases h1
    exact h2 2 _ rfl
  have c9a : y10.cell? ⟨b9, o9, none⟩ = some (.bool false) := by
    obtain ⟨_, _, h1, _, h2⟩ := (R9.ext0 Ed).get (by simp [bls])
    cases h1
    exact h2 0 _ rfl
  have c9b : y10.cell? ⟨b9, o9 + 1, none⟩ = some (.bool true) := by
    obtain ⟨_, _, h1, _, h2⟩ := (R9.ext0 Ed).get (by simp [bls])
    cases h1
    exact h2 1 _ rfl
  have hg := h_good g1 g2
  have hC : Gives Try.prog n_graph_Check #[.agg #[.slice (some ⟨g3, 0, none⟩) 3 3, .slice (some ⟨g4, 0, none⟩) 1 1]] y10 (i64 0) := by
    have := gcheck_spec (G.ext0 E510) hf
    rw [chk_zero.2 hg] at this
    exact this
  refine graph_Check_call (Gives.to hC fun y11 F11 => ?_)
  have c511 := fun i => (B5.ext (E510.trans F11) (by simp)).cell (i := i)
  simp (disch := (first | omega | decide | (simp only [rsD] <;> omega) | fail)) only [↓rsC, rsK, rsL, ↓rsKn17_0, tick_eq, tickV_eq, ne_eq, Int.reduceAdd, Int.reduceSub, Int.reduceMul, Int.reduceEq, Int.reduceLT, Int.reduceLE, Int.reduceToNat, Nat.reduceMul, Nat.reduceAdd, Nat.reduceSub, ←decide_not, c5, c59, c511]
  have hW : Gives Try.prog n_graph_Words #[.agg #[.slice (some ⟨g3, 0, none⟩) 3 3, .slice (some ⟨g4, 0, none⟩) 1 1]] y11 (i64 5) := by
    have := gwords_spec (G.ext0 (E510.trans F11)) hf hg
    rw [h_gW] at this
    exact this
  refine graph_Words_call (Gives.to hW fun y12 F12 => ?_)
  have e3 : (hN g1 g2).length = 3 := rfl
  have E1012 := F11.trans F12
  have up : ∀ {a : Addr} {v : Value} {w' : World}, Ext [] y10 w' → y10.cell? a = some v → w'.cell? a = some v := fun {a v w'} E h => by
    have hlt : a.block < y10.heap.size := Nat.lt_of_not_le fun hn => by
      have : y10.heap[a.block]? = none := Array.getElem?_eq_none hn
      unfold World.cell? at h
      rw [this] at h
      cases h
    rw [E.cell hlt (by simp)]
    exact h
  have c512 := fun i => (B5.ext (E510.trans E1012) (by simp)).cell (i := i)
  have c712 := fun i => (B7.ext ((X8.trans (E9.trans Ed)).trans E1012) (by simp)).cell (i := i)
  have d6b := up E1012 c6b
  have d6c := up E1012 c6c
  have d9a := up E1012 c9a
  have d9b := up E1012 c9b
  have e4 : [false, true, false].length = 3 := rfl
  simp (disch := (first | omega | decide | (simp only [rsD] <;> omega) | fail)) only [↓rsC, rsK, rsL, ↓rsKn17_0, tick_eq, tickV_eq, ne_eq, Int.reduceAdd, Int.reduceSub, Int.reduceMul, Int.reduceEq, Int.reduceLT, Int.reduceLE, Int.reduceToNat, Nat.reduceMul, Nat.reduceAdd, Nat.reduceSub, ←decide_not, c5, c59, c511, c512, c712, d6b, d6c, d9a, d9b, e3, e4, hn2]
  have hNs := Named_spec (G.ext0 (E510.trans E1012)) hf.r
  refine graph_Named_call (Yld.mono hNs ?_)
  rintro u y13 ⟨F13, a13, rfl, _⟩
  have E1013 := E1012.trans F13
  have c513 := fun i => (B5.ext (E510.trans E1013) (by simp)).cell (i := i)
  have e1 : hR.length = 1 := rfl
  simp (disch := (first | omega | decide | (simp only [rsD] <;> omega) | fail)) only [↓rsC, rsK, rsL, ↓rsKn17_0, tick_eq, tickV_eq, ne_eq, Int.reduceAdd, Int.reduceSub, Int.reduceMul, Int.reduceEq, Int.reduceLT, Int.reduceLE, Int.reduceToNat, Nat.reduceMul, Nat.reduceAdd, Nat.reduceSub, ←decide_not, c5, c59, c511, c512, c712, d6b, d6c, d9a, d9b, e3, e4, hn2, c513, e1]
  have hTw := GTwin_spec (G.ext0 (E510.trans E1013)) hf
  refine graph_Twin_call (Yld.mono hTw ?_)
  rintro u y14 ⟨F14, na2, nc2, ra2, rc2, ns2, hns2, rfl, G14, _, _⟩
  have E1014 := E1013.trans F14
  have c514 := fun i => (B5.ext (E510.trans E1014) (by simp)).cell (i := i)
  simp (disch := (first | omega | decide | (simp only [rsD] <;> omega) | fail)) only [↓rsC, rsK, rsL, ↓rsKn17_0, tick_eq, tickV_eq, ne_eq, Int.reduceAdd, Int.reduceSub, Int.reduceMul, Int.reduceEq, Int.reduceLT, Int.reduceLE, Int.reduceToNat, Nat.reduceMul, Nat.reduceAdd, Nat.reduceSub, ←decide_not, c5, c59, c511, c512, c712, d6b, d6c, d9a, d9b, e3, e4, hn2, c513, e1, c514]
  have hE1 := GEqual_spec G14 (G.ext0 (E510.trans E1014)) (few_bare hns2 hf) hf
  refine graph_Equal_call (Yld.mono hE1 ?_)
  rintro u y15 hu
  obtain ⟨rfl, F15⟩ := boolTrue hu ⟨hns2, rfl⟩
  have E1015 := E1014.trans F15
  have c515 := fun i => (B5.ext (E510.trans E1015) (by simp)).cell (i := i)
  have c715 := fun i => (B7.ext ((X8.trans (E9.trans Ed)).trans E1015) (by simp)).cell (i := i)
  simp (disch := (first | omega | decide | (simp only [rsD] <;> omega) | fail)) only [↓rsC, rsK, rsL, ↓rsKn17_0, tick_eq, tickV_eq, ne_eq, Int.reduceAdd, Int.reduceSub, Int.reduceMul, Int.reduceEq, Int.reduceLT, Int.reduceLE, Int.reduceToNat, Nat.reduceMul, Nat.reduceAdd, Nat.reduceSub, ←decide_not, c5, c59, c511, c512, c712, d6b, d6c, d9a, d9b, e3, e4, hn2, c513, e1, c514, c515, c715]
  have hf3 := trim_few hbs hf hns
  have hE2 := GEqual_spec (G6.ext0 (E610.trans E1015)) (G.ext0 (E510.trans E1015)) hf3 hf
  unfold gV at hE2
  rw [hn2] at hE2
  refine graph_Equal_call (Yld.mono hE2 ?_)
  rintro u y16 hu
  obtain ⟨rfl, F16⟩ := boolFalse hu (fun h => by
    have h2 := congrArg List.length h.1
    rw [List.length_map, List.length_map, hn2] at h2
    cases h2)
  simp (disch := (first | omega | decide | (simp only [rsD] <;> omega) | fail)) only [↓rsC, rsK, rsL, ↓rsKn17_0, tick_eq, tickV_eq, ne_eq, Int.reduceAdd, Int.reduceSub, Int.reduceMul, Int.reduceEq, Int.reduceLT, Int.reduceLE, Int.reduceToNat, Nat.reduceMul, Nat.reduceAdd, Nat.reduceSub, ←decide_not, c5, c59, c511, c512, c712, d6b, d6c, d9a, d9b, e3, e4, hn2, c513, e1, c514, c515, c715]
  exact ⟨trivial, Ext.trans Xw (E510.trans (E1015.trans F16))⟩
end Go.Proofs.Ythhcmoknppljpaa
end
section
set_option linter.unusedVariables false
set_option linter.unusedSimpArgs false
set_option maxHeartbeats 4000000
namespace Go.Proofs.Ythhcmoknppljpaa
open Go.Sh Go.RowKit

abbrev seenL (out : List Int) : List (Int × Value) := out.map fun p => (p, .bool true)
structure OrdS (y w : World) (b4 r : Nat) (out : List Int) : Prop where
  F : Ext [b4, r] y w
  B : ∃ v, Blk w b4 26 [v] ∧ OwnIt w v out ∧ ∀ z ∈ blk v, y.heap.size ≤ z
  M : MapIs w r (seenL out)
theorem OrdS.ext0 {y w w' : World} {b4 r : Nat} {out : List Int} (h : OrdS y w b4 r out) (hx : Ext [] w w') : OrdS y w' b4 r out := by
  obtain ⟨v, h1, h2, h3⟩ := h.B
  exact ⟨h.F.trans (hx.more (by simp)), ⟨v, h1.ext hx (by simp), h2.ext0 hx, h3⟩, h.M.ext0 hx⟩
theorem addL_snoc (n : Nat) (out ps : List Int) (p : Int) : addL n out (ps ++ [p]) = addN n (addL n out ps) p := by
  unfold addL
  rw [List.foldl_append]
  rfl
theorem addL_len (n : Nat) : ∀ (ps out : List Int), out.length ≤ (addL n out ps).length
  | [], _ => Nat.le_refl _
  | p :: ps, out => by
    have h1 := addL_len n ps (addN n out p)
    have h2 : out.length ≤ (addN n out p).length := by
      unfold addN
      split
      · simp
      · exact Nat.le_refl _
    have e : addL n out (p :: ps) = addL n (addN n out p) ps := rfl
    rw [e]
    omega
end Go.Proofs.Ythhcmoknppljpaa
end
section
set_option linter.unusedVariables false
set_option linter.unusedSimpArgs false
set_option maxHeartbeats 4000000
namespace Go.Proofs.Ythhcmoknppljpaa
open Go.Sh Go.RowKit

abbrev rsWlk1_0 := (And.intro @xu8_add (And.intro @xu8_lss (And.intro @xu16_add (And.intro @xu16_lss (And.intro @xu32_add (And.intro @xu32_lss (And.intro @xu64_add (And.intro @xu64_lss (And.intro @xi64_lss (And.intro @ld_3 (And.intro @ld_30 (And.intro @fa_32_1 (And.intro @fa_61_1 (And.intro @ia_30 (And.intro @ln_30 (And.intro @bs_26_0 @bs_26_1))))))))))))))))
theorem RNamed_spec {w : World} {na ra : Option Addr} {nc rc : Nat} {ns : List GN} {rs : List GR} (h : GIs w na nc ra rc ns rs) (hrl : rs.length ≤ 9000) :
    Yld Try.prog n_loamref17_Named #[gV na nc ra rc ns rs] w fun u w' => NewIt w w' u (tosL rs) := by
  refine loamref17_Named_of ?_
  unfold loamref17_Named
  have gbox : ∀ (y : World) (K : K1), xBox Try.prog 32 (gV na nc ra rc ns rs) y K = K (ptr y.heap.size) (y.alloc (.cells #[.slice na ns.length nc, .slice ra rs.length rc] 32)) := fun y K => xBox_r
  rw [gbox]
  have B1 : Blk (w.alloc (.cells #[.slice na ns.length nc, .slice ra rs.length rc] 32)) w.heap.size 32 [.slice na ns.length nc, .slice ra rs.length rc] := Blk.at rfl
  have X1 : Ext [] w (w.alloc (.cells #[.slice na ns.length nc, .slice ra rs.length rc] 32)) := Ext.alloc _ _ _
  have h1 := h.ext0 X1
  generalize w.alloc (.cells #[.slice na ns.length nc, .slice ra rs.length rc] 32) = y1 at *
  generalize hg1 : w.heap.size = g1 at *
  refine xLoop_r rs.length (fun j vs w' => ∃ v, vs = [v, i64 (j : Int)] ∧ NewIt y1 w' v ((tosL rs).take j)) ⟨_, rfl, NewR.nil (Ext.refl _ _)⟩ ?_ ?_
  · rintro j hj u w2 ⟨v, hu, N⟩ nxt hnx
    simp only [List.map_cons, List.map_nil, List.cons.injEq, and_true] at hu
    rw [hu.1, hu.2]
    obtain ⟨b, o, rfl, hlt, c1, c2⟩ := gr_at (h1.rr.ext0 N.1) hj
    have k1 := fun i => (B1.ext N.1 (by simp)).cell (i := i)
    have hlen : ((tosL rs).take j).length = j := by simp; omega
    have hsu : (tosL rs).take (j + 1) = (tosL rs).take j ++ [rs[j].to] := by
      rw [List.take_add_one, List.getElem?_eq_getElem (by simpa using hj)]
      simp
    generalize rs[j] = r at *
    obtain ⟨a0, c0, hv0, _⟩ := N.2.1.slice
    subst hv0
    unfold loamref17_Named_l1
    simp (disch := (first | omega | decide | (simp only [rsD] <;> omega) | fail)) only [↓rsC, rsK, rsL, ↓rsWlk1_0, tick_eq, tickV_eq, ne_eq, Int.reduceAdd, Int.reduceSub, Int.reduceMul, Int.reduceEq, Int.reduceLT, Int.reduceLE, Int.reduceToNat, Nat.reduceMul, Nat.reduceAdd, Nat.reduceSub, ←decide_not, k1, c2]
    refine appIt N.2.1 (o := r.to) rfl (by omega) fun v' x5 O5 T5 => ?_
    have N5 := N.app O5 T5
    rw [← hsu] at N5
    simp (disch := (first | omega | decide | (simp only [rsD] <;> omega) | fail)) only [↓rsC, rsK, rsL, ↓rsWlk1_0, tick_eq, tickV_eq, ne_eq, Int.reduceAdd, Int.reduceSub, Int.reduceMul, Int.reduceEq, Int.reduceLT, Int.reduceLE, Int.reduceToNat, Nat.reduceMul, Nat.reduceAdd, Nat.reduceSub, ←decide_not, k1, c2]
    exact hnx _ _ ⟨v', by simp, N5⟩
  · rintro u w2 ⟨v, hu, N⟩ nxt
    simp only [List.map_cons, List.map_nil, List.cons.injEq, and_true] at hu
    rw [hu.1, hu.2]
    have etk : (tosL rs).take rs.length = tosL rs := by rw [show rs.length = (tosL rs).length by simp, List.take_length]
    rw [etk] at N
    have k1 := fun i => (B1.ext N.1 (by simp)).cell (i := i)
    unfold loamref17_Named_l1
    simp (disch := (first | omega | decide | (simp only [rsD] <;> omega) | fail)) only [↓rsC, rsK, rsL, ↓rsWlk1_0, tick_eq, tickV_eq, ne_eq, Int.reduceAdd, Int.reduceSub, Int.reduceMul, Int.reduceEq, Int.reduceLT, Int.reduceLE, Int.reduceToNat, Nat.reduceMul, Nat.reduceAdd, Nat.reduceSub, ←decide_not, k1]
    exact NewR.pre X1 N
def seenB (n : Nat) (out : List Int) : List Value := (List.range (n + 1)).map fun (i : Nat) => .bool (decide ((i : Int) ∈ out))
theorem seenB_nil (n : Nat) : seenB n [] = List.replicate (n + 1) (.bool false) := by
  refine List.ext_getElem (by simp [seenB]) fun i h1 h2 => ?_
  simp [seenB]
theorem seenB_set {n : Nat} {out : List Int} {p : Int} (h : okNo n p) : (seenB n out).set p.toNat (.bool true) = seenB n (out ++ [p]) := by
  refine List.ext_getElem (by simp [seenB]) fun i h1 h2 => ?_
  rw [List.getElem_set]
  unfold okNo at h
  split
  · rename_i e
    have : (i : Int) = p := by omega
    simp [seenB, this]
  · rename_i e
    have : ¬ (i : Int) = p := by omega
    simp [seenB, this]
theorem seenB_get {n : Nat} {out : List Int} {p : Int} (h0 : 0 ≤ p) (h1 : p ≤ n) : (seenB n out)[p.toNat]? = some (.bool (decide (p ∈ out))) := by
  have e : ((p.toNat : Nat) : Int) = p := by omega
  unfold seenB
  rw [List.getElem?_map, List.getElem?_range (by omega), Option.map_some, e]
structure WkS (n : Nat) (y w : World) (gs : Nat) (v : Value) (out : List Int) : Prop where
  F : Ext [gs] y w
  O : OwnIt w v out
  U : ∀ z ∈ blk v, y.heap.size ≤ z
  B : Blk w gs 4 (seenB n out)
theorem WkS.ext0 {n : Nat} {y w w' : World} {gs : Nat} {v : Value} {out : List Int} (S : WkS n y w gs v out) (hx : Ext [] w w') : WkS n y w' gs v out := ⟨S.F.trans (hx.more (by simp)), S.O.ext0 hx, S.U, S.B.ext hx (by simp)⟩
theorem wk_add {n : Nat} {y w : World} {gs : Nat} {v : Value} {out : List Int} {p : Int} {K : K1} (S : WkS n y w gs v out) (hp : okNo n p) (hlt : gs < y.heap.size) (hol : out.length ≤ 9000) (hK : ∀ v' w', WkS n y w' gs v' (out ++ [p]) → K v' w') :
    xBuiltin Try.prog .append #[26, 26] 26 [false, false] [v, .slice (some ⟨(w.setCell ⟨gs, p.toNat, none⟩ (.bool true)).heap.size, 0, none⟩) 1 1] ((w.setCell ⟨gs, p.toNat, none⟩ (.bool true)).alloc (.cells #[i64 p] 3)) K := by
  have F1 : Ext [gs] y (w.setCell ⟨gs, p.toNat, none⟩ (.bool true)) := S.F.set' (.inl (by simp))
  have B1 := S.B.set (i := p.toNat) (v := .bool true)
  rw [seenB_set hp] at B1
  have hgv : gs ∉ blk v := fun h => by have := S.U _ h; omega
  have O1 := S.O.ext (Ext.set (w := w) (b := gs) (o := p.toNat) (v := .bool true)) (fun z hz hm => by simp only [List.mem_singleton] at hm; subst hm; exact hgv hz)
  refine appIt O1 (o := p) rfl (by omega) fun v' x5 O5 T5 => ?_
  obtain ⟨F5, U5, n1, n2⟩ := grow F1 S.U hlt T5
  exact hK _ _ ⟨F5, O5, U5, B1.ext T5.ext n1⟩
abbrev rsWlk1_1 := (And.intro @xu8_add (And.intro @xu8_sub (And.intro @xu8_com (And.intro @xu8_neq (And.intro @xu8_lss (And.intro @xu8_leq (And.intro @xu8_geq (And.intro @xu16_add (And.intro @xu16_sub (And.intro @xu16_com (And.intro @xu16_neq (And.intro @xu16_lss (And.intro @xu16_leq (And.intro @xu16_geq (And.intro @xu32_add (And.intro @xu32_sub 
  (And.intro @xu32_com (And.intro @xu32_neq (And.intro @xu32_lss (And.intro @xu32_leq (And.intro @xu32_geq (And.intro @xu64_add (And.intro @xu64_sub (And.intro @xu64_com (And.intro @xu64_neq (And.intro @xu64_lss (And.intro @xu64_leq (And.intro @xu64_geq (And.intro @xi64_lss (And.intro @xi64_leq (And.intro @xi64_geq (And.intro @xi64_neq (And.intro @xi64_neg 
  (And.intro @ld_3 (And.intro @ld_4 (And.intro @ld_26 (And.intro @ld_29 (And.intro @fa_32_0 (And.intro @fa_60_0 (And.intro @st_4 (And.intro @ia_26 (And.intro @ia_29 (And.intro @ia_37 (And.intro @ln_26 (And.intro @ln_29 (And.intro @bs_26_0 (And.intro @bs_26_1 @mk_37)))))))))))))))))))))))))))))))))))))))))))))))
theorem RWalk_spec {w : World} {na ra : Option Addr} {nc rc : Nat} {ns : List GN} {rs : List GR} (h : GIs w na nc ra rc ns rs) (hf : FewH ns rs) (hg : ∀ x ∈ ns, ∀ p ∈ x.p, 0 ≤ p ∧ p ≤ ns.length) {fr : List Int} {a : Option Addr} {c : Nat} (hr : RowAt w a (its fr)) (hl : fr.length ≤ 100000) :
    Yld Try.prog n_loamref17_Walk #[gV na nc ra rc ns rs, .slice a fr.length c] w fun u w' => NewIt w w' u (ordV ns fr) := by
  have hfn := hf.n
  refine loamref17_Walk_of ?_
  unfold loamref17_Walk
  have gbox : ∀ (y : World) (K : K1), xBox Try.prog 32 (gV na nc ra rc ns rs) y K = K (ptr y.heap.size) (y.alloc (.cells #[.slice na ns.length nc, .slice ra rs.length rc] 32)) := fun y K => xBox_r
  rw [gbox]
  have B1 : Blk (w.alloc (.cells #[.slice na ns.length nc, .slice ra rs.length rc] 32)) w.heap.size 32 [.slice na ns.length nc, .slice ra rs.length rc] := Blk.at rfl
  have X1 : Ext [] w (w.alloc (.cells #[.slice na ns.length nc, .slice ra rs.length rc] 32)) := Ext.alloc _ _ _
  generalize w.alloc (.cells #[.slice na ns.length nc, .slice ra rs.length rc] 32) = y1 at *
  obtain ⟨g1, hg1⟩ : ∃ g, g = w.heap.size := ⟨_, rfl⟩
  rw [← hg1] at B1 ⊢
  have g1lt := B1.lt
  have k1 := fun i => B1.cell (i := i)
  simp (disch := (first | omega | decide | (simp only [rsD] <;> omega) | fail)) only [↓rsC, rsK, rsL, ↓rsWlk1_1, tick_eq, tickV_eq, ne_eq, Int.reduceAdd, Int.reduceSub, Int.reduceMul, Int.reduceEq, Int.reduceLT, Int.reduceLE, Int.reduceToNat, Nat.reduceMul, Nat.reduceAdd, Nat.reduceSub, ←decide_not, k1]
  have en : ((ns.length : Int) + 1).toNat = ns.length + 1 := by omega
  rw [en]
  have Bs : Blk (y1.alloc (.cells (List.replicate (ns.length + 1) (.bool false)).toArray 4)) y1.heap.size 4 (seenB ns.length []) := by rw [seenB_nil]; exact Blk.at rfl
  have X2 : Ext [] y1 (y1.alloc (.cells (List.replicate (ns.length + 1) (.bool false)).toArray 4)) := Ext.alloc _ _ _
  have B12 := B1.ext X2 (by simp)
  have z2 : (y1.alloc (.cells (List.replicate (ns.length + 1) (.bool false)).toArray 4)).heap.size = y1.heap.size + 1 := World.size_alloc _ _
  generalize y1.alloc (.cells (List.replicate (ns.length + 1) (.bool false)).toArray 4) = y at *
  obtain ⟨gs, hgs⟩ : ∃ g, g = y1.heap.size := ⟨_, rfl⟩
  rw [← hgs] at Bs z2 ⊢
  have Xw := X1.trans X2
  have zw := X1.size
  have hlt : gs < y.heap.size := by omega
  have fresh : ∀ {w' : World}, Ext [gs] y w' → Ext [] w w' := fun F => Xw.new F (fun z hz => by simp only [List.mem_singleton] at hz; omega)
  have ne1 : g1 ∉ [gs] := by simp only [List.mem_singleton]; omega
  have nilb : ∀ z, z ∉ blk (.slice none 0 0) := by simp [blk, Value.ownBlock]
  refine xLoop_r fr.length (fun j vs w' => ∃ v, vs = [v, i64 (j : Int)] ∧ WkS ns.length y w' gs v (addL ns.length [] (fr.take j)) ∧ OutOk ns.length (addL ns.length [] (fr.take j))) ⟨_, rfl, ⟨Ext.refl _ _, Own.nil, fun z hz => absurd hz (nilb z), Bs⟩, OutOk.nil⟩ ?_ ?_
  · rintro j hj u x1 ⟨v, hu, S, hO⟩ nxt hnx
    simp only [List.map_cons, List.map_nil, List.cons.injEq, and_true] at hu
    rw [hu.1, hu.2]
    obtain ⟨b, o, rfl, _, c1⟩ := its_at (hr.ext0 (fresh S.F)) hj
    have hsu : fr.take (j + 1) = fr.take j ++ [fr[j]] := by
      rw [List.take_add_one, List.getElem?_eq_getElem hj]
      rfl
    obtain ⟨_, _, e1, _, c1d⟩ := its_at (hr.ext0 ((fresh S.F).trans (Ext.drew [] x1))) hj
    cases e1
    obtain ⟨_, _, e1, hbw, _⟩ := its_at hr hj
    cases e1
    have hbg : b ≠ gs := by omega
    have fs := fun i => S.B.frozen (i := i)
    generalize fr[j] = p at *
    have Sd := S.ext0 (Ext.drew [] x1)
    have kd := fun i => (B12.ext Sd.F ne1).cell (i := i)
    have ks : okNo ns.length p → x1.drew.cell? ⟨gs, p.toNat, none⟩ = some (.bool (decide (p ∈ addL ns.length [] (fr.take j)))) := fun hp => by rw [Sd.B.cell, seenB_get (by unfold okNo at hp; omega) hp.2]
    have hol := hO.len
    have hstep : addL ns.length [] (fr.take (j + 1)) = addN ns.length (addL ns.length [] (fr.take j)) p := by rw [hsu, addL_snoc]
    have hO' : OutOk ns.length (addL ns.length [] (fr.take (j + 1))) := OutOk.addL _ OutOk.nil
    generalize addL ns.length [] (fr.take (j + 1)) = out' at *
    generalize addL ns.length [] (fr.take j) = out at *
    have stay : ¬ (okNo ns.length p ∧ p ∉ out) → nxt [v, i64 ((j + 1 : Nat) : Int)] x1.drew := fun hno => hnx _ _ ⟨v, rfl, by rw [hstep]; unfold addN; rw [if_neg hno]; exact Sd, hO'⟩
    unfold loamref17_Walk_l1
    by_cases p1 : p ≥ 1
    · by_cases p2 : p ≤ (ns.length : Int)
      · have hp : okNo ns.length p := ⟨p1, p2⟩
        have ks := ks hp
        by_cases hm : p ∈ out
        · rw [decide_eq_true hm] at ks
          simp (disch := (first | omega | decide | (simp only [rsD] <;> omega) | fail)) only [↓rsC, rsK, rsL, ↓rsWlk1_1, tick_eq, tickV_eq, ne_eq, Int.reduceAdd, Int.reduceSub, Int.reduceMul, Int.reduceEq, Int.reduceLT, Int.reduceLE, Int.reduceToNat, Nat.reduceMul, Nat.reduceAdd, Nat.reduceSub, ←decide_not, k1, c1d, kd, ks]
          unfold loamref17_Walk_j1
          simp (disch := (first | omega | decide | (simp only [rsD] <;> omega) | fail)) only [↓rsC, rsK, rsL, ↓rsWlk1_1, tick_eq, tickV_eq, ne_eq, Int.reduceAdd, Int.reduceSub, Int.reduceMul, Int.reduceEq, Int.reduceLT, Int.reduceLE, Int.reduceToNat, Nat.reduceMul, Nat.reduceAdd, Nat.reduceSub, ←decide_not, k1, c1d, kd, ks]
          exact stay fun h => h.2 hm
        · rw [decide_eq_false hm] at ks
          simp (disch := (first | omega | decide | (simp only [rsD] <;> omega) | fail)) only [↓rsC, rsK, rsL, ↓rsWlk1_1, tick_eq, tickV_eq, ne_eq, Int.reduceAdd, Int.reduceSub, Int.reduceMul, Int.reduceEq, Int.reduceLT, Int.reduceLE, Int.reduceToNat, Nat.reduceMul, Nat.reduceAdd, Nat.reduceSub, ←decide_not, k1, c1d, kd, ks, fs]
          refine wk_add Sd hp hlt (by omega) fun v' x5 S5 => ?_
          unfold loamref17_Walk_j1
          simp (disch := (first | omega | decide | (simp only [rsD] <;> omega) | fail)) only [↓rsC, rsK, rsL, ↓rsWlk1_1, tick_eq, tickV_eq, ne_eq, Int.reduceAdd, Int.reduceSub, Int.reduceMul, Int.reduceEq, Int.reduceLT, Int.reduceLE, Int.reduceToNat, Nat.reduceMul, Nat.reduceAdd, Nat.reduceSub, ←decide_not, k1, c1d, kd, ks, fs]
          exact hnx _ _ ⟨v', by simp, by rw [hstep]; unfold addN; rw [if_pos ⟨hp, hm⟩]; exact S5, hO'⟩
      · simp (disch := (first | omega | decide | (simp only [rsD] <;> omega) | fail)) only [↓rsC, rsK, rsL, ↓rsWlk1_1, tick_eq, tickV_eq, ne_eq, Int.reduceAdd, Int.reduceSub, Int.reduceMul, Int.reduceEq, Int.reduceLT, Int.reduceLE, Int.reduceToNat, Nat.reduceMul, Nat.reduceAdd, Nat.reduceSub, ←decide_not, k1, c1d, kd]
        unfold loamref17_Walk_j1
        simp (disch := (first | omega | decide | (simp only [rsD] <;> omega) | fail)) only [↓rsC, rsK, rsL, ↓rsWlk1_1, tick_eq, tickV_eq, ne_eq, Int.reduceAdd, Int.reduceSub, Int.reduceMul, Int.reduceEq, Int.reduceLT, Int.reduceLE, Int.reduceToNat, Nat.reduceMul, Nat.reduceAdd, Nat.reduceSub, ←decide_not, k1, c1d, kd]
        exact stay fun h => p2 h.1.2
    · simp (disch := (first | omega | decide | (simp only [rsD] <;> omega) | fail)) only [↓rsC, rsK, rsL, ↓rsWlk1_1, tick_eq, tickV_eq, ne_eq, Int.reduceAdd, Int.reduceSub, Int.reduceMul, Int.reduceEq, Int.reduceLT, Int.reduceLE, Int.reduceToNat, Nat.reduceMul, Nat.reduceAdd, Nat.reduceSub, ←decide_not, k1, c1d, kd]
      unfold loamref17_Walk_j1
      simp (disch := (first | omega | decide | (simp only [rsD] <;> omega) | fail)) only [↓rsC, rsK, rsL, ↓rsWlk1_1, tick_eq, tickV_eq, ne_eq, Int.reduceAdd, Int.reduceSub, Int.reduceMul, Int.reduceEq, Int.reduceLT, Int.reduceLE, Int.reduceToNat, Nat.reduceMul, Nat.reduceAdd, Nat.reduceSub, ←decide_not, k1, c1d, kd]
      exact stay fun h => p1 h.1.1
  · rintro u x1 ⟨v, hu, S, hO⟩ nxt
    simp only [List.map_cons, List.map_nil, List.cons.injEq, and_true] at hu
    rw [hu.1, hu.2]
    rw [List.take_length] at S hO
    unfold loamref17_Walk_l1
    simp (disch := (first | omega | decide | (simp only [rsD] <;> omega) | fail)) only [↓rsC, rsK, rsL, ↓rsWlk1_1, tick_eq, tickV_eq, ne_eq, Int.reduceAdd, Int.reduceSub, Int.reduceMul, Int.reduceEq, Int.reduceLT, Int.reduceLE, Int.reduceToNat, Nat.reduceMul, Nat.reduceAdd, Nat.reduceSub, ←decide_not, k1]
    refine xLoop_r (ns.length + 1) (fun i vs w' => ∃ v out, vs = [v, i64 (i : Int)] ∧ WkS ns.length y w' gs v out ∧ OutOk ns.length out ∧ i ≤ out.length ∧ ordV ns fr = bfs ns (ns.length + 1 - i) i out) ⟨_, _, rfl, S, hO, Nat.zero_le _, rfl⟩ ?_ ?_
    rotate_left
    · rintro u x2 ⟨v, out, hu, S2, hO2, hi, he⟩ nxt2
      have := hO2.len
      omega
    rintro i hi u x2 ⟨v2, out, hu, S2, hO2, hil, he⟩ nxt2 hnx2
    simp only [List.map_cons, List.map_nil, List.cons.injEq, and_true] at hu
    rw [hu.1, hu.2]
    have hol := hO2.len
    obtain ⟨a0, c0, hv0, hc0, _, _, R0, _⟩ := S2.O.slice
    unfold loamref17_Walk_l2
    by_cases hlt2 : i < out.length
    · have Sd := S2.ext0 (Ext.drew [] x2)
      have kd := fun i => (B12.ext Sd.F ne1).cell (i := i)
      obtain ⟨bo, oo, eo, _, co⟩ := its_at (R0.ext0 (Ext.drew [] x2)) hlt2
      have hok := hO2.ok _ (List.getElem_mem hlt2)
      have hq : out[i].toNat - 1 < ns.length := by omega
      obtain ⟨bn, on, ena, _, c1, c2⟩ := gn_at (h.nr.ext0 (fresh Sd.F)) hq
      have hptr : ptrsOf ns out[i] = ns[out[i].toNat - 1].p := by unfold ptrsOf; rw [List.getElem?_eq_getElem hq]
      have hstep : bfs ns (ns.length + 1 - i) i out = bfs ns (ns.length + 1 - (i + 1)) (i + 1) (addL ns.length out ns[out[i].toNat - 1].p) := by
        rw [show ns.length + 1 - i = (ns.length + 1 - (i + 1)) + 1 by omega, bfs_step hlt2, hptr]
      have hx := h.ok _ (List.getElem_mem hq)
      have hgx := hg _ (List.getElem_mem hq)
      have tq : (out[i] - 1).toNat = out[i].toNat - 1 := by omega
      have hqb : out[i] ≤ 9000 := by omega
      have lx := hf.x _ (List.getElem_mem hq)
      generalize out[i] = q at *
      generalize ns[q.toNat - 1] = x at *
      subst ena
      subst hv0
      rw [eo]
      simp (disch := (first | omega | decide | (simp only [rsD] <;> omega) | fail)) only [↓rsC, rsK, rsL, ↓rsWlk1_1, tick_eq, tickV_eq, ne_eq, Int.reduceAdd, Int.reduceSub, Int.reduceMul, Int.reduceEq, Int.reduceLT, Int.reduceLE, Int.reduceToNat, Nat.reduceMul, Nat.reduceAdd, Nat.reduceSub, ←decide_not, k1, kd, co, tq, c1]
      rw [← eo]
      refine xLoop_r x.p.length (fun k vs w' => ∃ v, vs = [v, i64 (k : Int)] ∧ WkS ns.length y w' gs v (addL ns.length out (x.p.take k)) ∧ OutOk ns.length (addL ns.length out (x.p.take k))) ⟨_, rfl, by simpa [addL] using Sd, OutOk.addL _ hO2⟩ ?_ ?_
      · rintro k hk u x3 ⟨v3, hu, S3, hO3⟩ nxt3 hnx3
        simp only [List.map_cons, List.map_nil, List.cons.injEq, and_true] at hu
        rw [hu.1, hu.2]
        obtain ⟨bp, op, ep, _, cp⟩ := its_at (hx.ext0 (fresh S3.F)).pr hk
        obtain ⟨_, _, e1, hbw, _⟩ := its_at hx.pr hk
        rw [ep] at e1
        cases e1
        have hbg : bp ≠ gs := by omega
        have fs := fun i => S3.B.frozen (i := i)
        have hsu : x.p.take (k + 1) = x.p.take k ++ [x.p[k]] := by
          rw [List.take_add_one, List.getElem?_eq_getElem hk]
          rfl
        have hpg := hgx _ (List.getElem_mem hk)
        generalize x.p[k] = p at *
        have ks : okNo ns.length p → x3.cell? ⟨gs, p.toNat, none⟩ = some (.bool (decide (p ∈ addL ns.length out (x.p.take k)))) := fun hp => by rw [S3.B.cell, seenB_get hpg.1 hp.2]
        have hol3 := hO3.len
        have hstep3 : addL ns.length out (x.p.take (k + 1)) = addN ns.length (addL ns.length out (x.p.take k)) p := by rw [hsu, addL_snoc]
        have hO' : OutOk ns.length (addL ns.length out (x.p.take (k + 1))) := OutOk.addL _ hO2
        generalize addL ns.length out (x.p.take (k + 1)) = out4 at *
        generalize addL ns.length out (x.p.take k) = out3 at *
        have stay : ¬ (okNo ns.length p ∧ p ∉ out3) → nxt3 [v3, i64 ((k + 1 : Nat) : Int)] x3 := fun hno => hnx3 _ _ ⟨v3, rfl, by rw [hstep3]; unfold addN; rw [if_neg hno]; exact S3, hO'⟩
        unfold loamref17_Walk_l3
        rw [ep]
        by_cases p0 : p = 0
        · subst p0
          simp (disch := (first | omega | decide | (simp only [rsD] <;> omega) | fail)) only [↓rsC, rsK, rsL, ↓rsWlk1_1, tick_eq, tickV_eq, ne_eq, Int.reduceAdd, Int.reduceSub, Int.reduceMul, Int.reduceEq, Int.reduceLT, Int.reduceLE, Int.reduceToNat, Nat.reduceMul, Nat.reduceAdd, Nat.reduceSub, ←decide_not, k1, kd, co, tq, c1, cp]
          unfold loamref17_Walk_j2
          simp (disch := (first | omega | decide | (simp only [rsD] <;> omega) | fail)) only [↓rsC, rsK, rsL, ↓rsWlk1_1, tick_eq, tickV_eq, ne_eq, Int.reduceAdd, Int.reduceSub, Int.reduceMul, Int.reduceEq, Int.reduceLT, Int.reduceLE, Int.reduceToNat, Nat.reduceMul, Nat.reduceAdd, Nat.reduceSub, ←decide_not, k1, kd, co, tq, c1, cp]
          exact stay fun h => by have := h.1.1; omega
        · have hp : okNo ns.length p := ⟨by omega, hpg.2⟩
          have ks := ks hp
          by_cases hm : p ∈ out3
          · rw [decide_eq_true hm] at ks
            simp (disch := (first | omega | decide | (simp only [rsD] <;> omega) | fail)) only [↓rsC, rsK, rsL, ↓rsWlk1_1, tick_eq, tickV_eq, ne_eq, Int.reduceAdd, Int.reduceSub, Int.reduceMul, Int.reduceEq, Int.reduceLT, Int.reduceLE, Int.reduceToNat, Nat.reduceMul, Nat.reduceAdd, Nat.reduceSub, ←decide_not, k1, kd, co, tq, c1, cp, ks]
            unfold loamref17_Walk_j2
            simp (disch := (first | omega | decide | (simp only [rsD] <;> omega) | fail)) only [↓rsC, rsK, rsL, ↓rsWlk1_1, tick_eq, tickV_eq, ne_eq, Int.reduceAdd, Int.reduceSub, Int.reduceMul, Int.reduceEq, Int.reduceLT, Int.reduceLE, Int.reduceToNat, Nat.reduceMul, Nat.reduceAdd, Nat.reduceSub, ←decide_not, k1, kd, co, tq, c1, cp, ks]
            exact stay fun h => h.2 hm
          · rw [decide_eq_false hm] at ks
            simp (disch := (first | omega | decide | (simp only [rsD] <;> omega) | fail)) only [↓rsC, rsK, rsL, ↓rsWlk1_1, tick_eq, tickV_eq, ne_eq, Int.reduceAdd, Int.reduceSub, Int.reduceMul, Int.reduceEq, Int.reduceLT, Int.reduceLE, Int.reduceToNat, Nat.reduceMul, Nat.reduceAdd, Nat.reduceSub, ←decide_not, k1, kd, co, tq, c1, cp, ks, fs]
            refine wk_add S3 hp hlt (by omega) fun v' x5 S5 => ?_
            unfold loamref17_Walk_j2
            simp (disch := (first | omega | decide | (simp only [rsD] <;> omega) | fail)) only [↓rsC, rsK, rsL, ↓rsWlk1_1, tick_eq, tickV_eq, ne_eq, Int.reduceAdd, Int.reduceSub, Int.reduceMul, Int.reduceEq, Int.reduceLT, Int.reduceLE, Int.reduceToNat, Nat.reduceMul, Nat.reduceAdd, Nat.reduceSub, ←decide_not, k1, kd, co, tq, c1, cp, ks, fs]
            exact hnx3 _ _ ⟨v', by simp, by rw [hstep3]; unfold addN; rw [if_pos ⟨hp, hm⟩]; exact S5, hO'⟩
      · rintro u x3 ⟨v3, hu, S3, hO3⟩ nxt3
        simp only [List.map_cons, List.map_nil, List.cons.injEq, and_true] at hu
        rw [hu.1, hu.2]
        rw [List.take_length] at S3 hO3
        unfold loamref17_Walk_l3
        simp (disch := (first | omega | decide | (simp only [rsD] <;> omega) | fail)) only [↓rsC, rsK, rsL, ↓rsWlk1_1, tick_eq, tickV_eq, ne_eq, Int.reduceAdd, Int.reduceSub, Int.reduceMul, Int.reduceEq, Int.reduceLT, Int.reduceLE, Int.reduceToNat, Nat.reduceMul, Nat.reduceAdd, Nat.reduceSub, ←decide_not, k1, kd, co, tq, c1]
        have hlen3 : i + 1 ≤ (addL ns.length out x.p).length := by
          have := addL_len ns.length x.p out
          omega
        exact hnx2 _ _ ⟨v3, _, by simp, S3, hO3, hlen3, by rw [he, hstep]⟩
    · have e : ordV ns fr = out := by rw [he, bfs_end (by omega)]
      subst hv0
      simp (disch := (first | omega | decide | (simp only [rsD] <;> omega) | fail)) only [↓rsC, rsK, rsL, ↓rsWlk1_1, tick_eq, tickV_eq, ne_eq, Int.reduceAdd, Int.reduceSub, Int.reduceMul, Int.reduceEq, Int.reduceLT, Int.reduceLE, Int.reduceToNat, Nat.reduceMul, Nat.reduceAdd, Nat.reduceSub, ←decide_not, k1]
      rw [e]
      exact ⟨fresh S2.F, S2.O, fun z hz => by have := S2.U z hz; have := Xw.size; omega⟩
end Go.Proofs.Ythhcmoknppljpaa
end
section
set_option linter.unusedVariables false
set_option linter.unusedSimpArgs false
set_option maxHeartbeats 4000000
namespace Go.Proofs.Ythhcmoknppljpaa
open Go.Sh Go.RowKit

theorem nodes_app {w w5 : World} {hx : Nat} {v v' : Value} {ns : List GN} {x : GN} (A : ∀ y ∈ ns, NOk w y ∧ Apt (hx :: blk v) y) (hk : NOk w x) (ha : Apt (hx :: blk v) x) (T : Stp (blk v) (blk v') w w5) {w6 : World} (F6 : Ext [hx] w5 w6) : ∀ y ∈ ns ++ [x], NOk w6 y ∧ Apt (hx :: blk v') y := by
  intro p hp
  have hA : NOk w p ∧ Apt (hx :: blk v) p := by
    rcases List.mem_append.1 hp with hp | hp
    · exact A p hp
    · rw [List.mem_singleton] at hp
      subst hp
      exact ⟨hk, ha⟩
  have hA2 := hA.1.ext (T.ext.more (fun z hz => List.mem_cons_of_mem hx hz)) hA.2
  have hA3 : Apt (hx :: blk v') p := hA.2.more hA.1 fun b hb => by
    rcases List.mem_cons.1 hb with e | e
    · exact .inl (by rw [e]; exact List.mem_cons_self ..)
    · exact (T.at' b e).imp (List.mem_cons_of_mem _) id
  exact ⟨hA2.ext (F6.more (by simp)) hA3, hA3⟩
end Go.Proofs.Ythhcmoknppljpaa
end
section
set_option linter.unusedVariables false
set_option linter.unusedSimpArgs false
set_option maxHeartbeats 4000000
namespace Go.Proofs.Ythhcmoknppljpaa
open Go.Sh Go.RowKit

def toK (n : Nat) (ord : List Int) : List Int := (List.range n).map fun (i : Nat) => noV ord ((i : Int) + 1)
theorem toK_nil (n : Nat) : its (toK n []) = List.replicate n (i64 0) := by
  refine List.ext_getElem (by simp [toK]) fun i h1 h2 => ?_
  simp [toK, noV]
theorem noV_snoc {o : List Int} {q p : Int} (hq : q ∉ o) : noV (o ++ [q]) p = if p = q then (o.length : Int) + 1 else noV o p := by
  unfold noV
  by_cases e : p = q
  · subst e
    rw [if_pos rfl, if_pos (by simp), List.idxOf_append, if_neg hq]
    simp
  · rw [if_neg e]
    by_cases h : p ∈ o
    · rw [if_pos h, if_pos (by simp [h]), List.idxOf_append, if_pos h]
    · rw [if_neg h, if_neg (by simp [h, e])]
theorem toK_set {n : Nat} {o : List Int} {q : Int} (h : okNo n q) (hq : q ∉ o) : (its (toK n o)).set (q - 1).toNat (i64 ((o.length : Int) + 1)) = its (toK n (o ++ [q])) := by
  unfold okNo at h
  refine List.ext_getElem (by simp [toK]) fun i h1 h2 => ?_
  rw [List.getElem_set]
  simp only [toK, List.getElem_map, List.getElem_range]
  rw [noV_snoc hq]
  split
  · rename_i e
    rw [if_pos (by omega)]
  · rename_i e
    rw [if_neg (by omega)]
theorem toK_get {n : Nat} {o : List Int} {p : Int} (h : okNo n p) : (its (toK n o))[(p - 1).toNat]? = some (i64 (noV o p)) := by
  unfold okNo at h
  simp only [toK, List.getElem?_map]
  rw [List.getElem?_range (by omega)]
  simp only [Option.map_some]
  rw [show (((p - 1).toNat : Nat) : Int) + 1 = p by omega]
def PickR (w : World) (ns : List GN) (rs : List GR) (ord : List Int) (u : Value) (w' : World) : Prop := Ext [] w w' ∧ ∃ na' nc' ra' rc' ns' v, ns'.map bare = ord.map (canN ns ord) ∧ u = .tuple #[gV na' nc' ra' rc' ns' (rs.map fun r => ⟨r.s, noV ord r.to⟩), v] ∧ GIs w' na' nc' ra' rc' ns' (rs.map fun r => ⟨r.s, noV ord r.to⟩) ∧ (∀ z, na' = some z → w.heap.size ≤ z.block) ∧ (∀ z, ra' = some z → w.heap.size ≤ z.block) ∧ ∃ gt, w.heap.size ≤ gt ∧ v = .slice (some ⟨gt, 0, none⟩) ns.length ns.length ∧ RowAt w' (some ⟨gt, 0, none⟩) (its (toK ns.length ord))
abbrev rsPck1_0 := (And.intro @xu8_add (And.intro @xu8_sub (And.intro @xu8_neq (And.intro @xu8_lss (And.intro @xu16_add (And.intro @xu16_sub (And.intro @xu16_neq (And.intro @xu16_lss (And.intro @xu32_add (And.intro @xu32_sub (And.intro @xu32_neq (And.intro @xu32_lss (And.intro @xu64_add (And.intro @xu64_sub (And.intro @xu64_neq (And.intro @xu64_lss 
  (And.intro @xi64_lss (And.intro @xi64_neq (And.intro @xi64_neg (And.intro @ld_3 (And.intro @ld_9 (And.intro @ld_26 (And.intro @ld_29 (And.intro @ld_30 (And.intro @ld_32 (And.intro @ld_51 (And.intro @ld_60 (And.intro @ld_61 (And.intro @lr_32 (And.intro @fa_32_0 (And.intro @fa_32_1 (And.intro @fa_60_0 (And.intro @fa_60_1 (And.intro @fa_61_0 (And.intro @fa_61_1 (And.intro @al_32 
  (And.intro @al_60 (And.intro @al_61 (And.intro @st_3 (And.intro @st_26 (And.intro @st_29 (And.intro @st_30 (And.intro @st_32 (And.intro @st_60 (And.intro @st_61 (And.intro @bd_32 (And.intro @bd_60_0_1 (And.intro @bd_60_1 (And.intro @bd_61_0_1 (And.intro @ia_26 (And.intro @ia_29 (And.intro @ia_30 (And.intro @ln_26 (And.intro @ln_29 (And.intro @ln_30 (And.intro @bs_26_0 
  (And.intro @bs_26_1 (And.intro @bs_29_1 (And.intro @bs_30_1 (And.intro @bs_51_0 (And.intro @bs_51_1 (And.intro @bs_51_2 @mk_26))))))))))))))))))))))))))))))))))))))))))))))))))))))))))))))
theorem RPick_spec {w : World} {na ra : Option Addr} {nc rc : Nat} {ns : List GN} {rs : List GR} (h : GIs w na nc ra rc ns rs) (hf : FewH ns rs) (hg : ∀ x ∈ ns, ∀ p ∈ x.p, 0 ≤ p ∧ p ≤ ns.length) (hgr : ∀ r ∈ rs, 0 ≤ r.to ∧ r.to ≤ ns.length) {ord : List Int} {a : Option Addr} {c : Nat} (ho : OutOk ns.length ord) (hr : RowAt w a (its ord)) :
    Yld Try.prog n_loamref17_Pick #[gV na nc ra rc ns rs, .slice a ord.length c] w (PickR w ns rs ord) := by
  have hfn := hf.n
  have hfr := hf.r
  have hol := ho.len
  refine loamref17_Pick_of ?_
  unfold loamref17_Pick
  have gbox : ∀ (y : World) (K : K1), xBox Try.prog 32 (gV na nc ra rc ns rs) y K = K (ptr y.heap.size) (y.alloc (.cells #[.slice na ns.length nc, .slice ra rs.length rc] 32)) := fun y K => xBox_r
  have al : ∀ (y : World) (K : K1), xAlloc Try.prog 32 y K = K (ptr y.heap.size) (y.alloc (.cells #[.slice none 0 0, .slice none 0 0] 32)) := fun y K => xAlloc_r (by kernel_rfl)
  rw [gbox, al]
  have B1 : Blk (w.alloc (.cells #[.slice na ns.length nc, .slice ra rs.length rc] 32)) w.heap.size 32 [.slice na ns.length nc, .slice ra rs.length rc] := Blk.at rfl
  have X1 : Ext [] w (w.alloc (.cells #[.slice na ns.length nc, .slice ra rs.length rc] 32)) := Ext.alloc _ _ _
  generalize w.alloc (.cells #[.slice na ns.length nc, .slice ra rs.length rc] 32) = y1 at *
  obtain ⟨g1, hg1⟩ : ∃ g, g = w.heap.size := ⟨_, rfl⟩
  rw [← hg1] at B1 ⊢
  have g1lt := B1.lt
  have zw1 := X1.size
  have B40 : Blk (y1.alloc (.cells #[.slice none 0 0, .slice none 0 0] 32)) y1.heap.size 32 [.slice none 0 0, .slice none 0 0] := Blk.at rfl
  have X2 : Ext [] y1 (y1.alloc (.cells #[.slice none 0 0, .slice none 0 0] 32)) := Ext.alloc _ _ _
  have B12 := B1.ext X2 (by simp)
  generalize y1.alloc (.cells #[.slice none 0 0, .slice none 0 0] 32) = y2 at *
  obtain ⟨g4, hg4⟩ : ∃ g, g = y1.heap.size := ⟨_, rfl⟩
  rw [← hg4] at B40 ⊢
  have g4lt := B40.lt
  have zw2 := X2.size
  have k1 := fun i => B12.cell (i := i)
  simp (disch := (first | omega | decide | (simp only [rsD] <;> omega) | fail)) only [↓rsC, rsK, rsL, ↓rsPck1_0, tick_eq, tickV_eq, ne_eq, Int.reduceAdd, Int.reduceSub, Int.reduceMul, Int.reduceEq, Int.reduceLT, Int.reduceLE, Int.reduceToNat, Nat.reduceMul, Nat.reduceAdd, Nat.reduceSub, ←decide_not, k1]
  have en : ((ns.length : Int)).toNat = ns.length := by omega
  try rw [en]
  have Bt0 : Blk (y2.alloc (.cells (List.replicate ns.length (i64 0)).toArray 3)) y2.heap.size 3 (its (toK ns.length [])) := by rw [toK_nil]; exact Blk.at rfl
  have X3 : Ext [] y2 (y2.alloc (.cells (List.replicate ns.length (i64 0)).toArray 3)) := Ext.alloc _ _ _
  have B13 := B12.ext X3 (by simp)
  have B43 := B40.ext X3 (by simp)
  generalize y2.alloc (.cells (List.replicate ns.length (i64 0)).toArray 3) = y3 at *
  obtain ⟨gt, hgt⟩ : ∃ g, g = y2.heap.size := ⟨_, rfl⟩
  rw [← hgt] at Bt0 ⊢
  have gtlt := Bt0.lt
  have X03 := X1.trans (X2.trans X3)
  have fresh : ∀ {w' : World}, Ext [gt] y3 w' → Ext [] w w' := fun F => X03.new F (fun z hz => by simp only [List.mem_singleton] at hz; omega)
  have ne1 : g1 ∉ [gt] := by simp only [List.mem_singleton]; omega
  have ne4 : g4 ∉ [gt] := by simp only [List.mem_singleton]; omega
  refine xLoop_n ord.length (fun j => [i64 (j : Int)]) (fun j w' => Ext [gt] y3 w' ∧ Blk w' gt 3 (its (toK ns.length (ord.take j)))) rfl ⟨Ext.refl _ _, Bt0⟩ ?_ ?_
  · rintro j hj u x1 hu ⟨F, Bt⟩ nxt hnx
    simp only [List.map_cons, List.map_nil, List.cons.injEq, and_true] at hu
    rw [hu]
    obtain ⟨bo, oo, rfl, _, co⟩ := its_at (hr.ext0 (fresh F)) hj
    obtain ⟨_, _, e1, hbw, _⟩ := its_at hr hj
    cases e1
    have hbg : bo ≠ gt := by omega
    have hok := ho.ok _ (List.getElem_mem hj)
    have hnot : ord[j] ∉ ord.take j := fun hm => by
      obtain ⟨i, hi, e⟩ := List.getElem_of_mem hm
      rw [List.getElem_take] at e
      rw [List.length_take] at hi
      have := List.pairwise_iff_getElem.1 ho.nd i j (by omega) hj (by omega)
      exact this e
    have hsu : ord.take (j + 1) = ord.take j ++ [ord[j]] := by
      rw [List.take_add_one, List.getElem?_eq_getElem hj]
      rfl
    have hlen : (ord.take j).length = j := by simp; omega
    have ht := toK_set hok hnot
    rw [hlen, ← hsu] at ht
    have ks := Bt.cell (i := (ord[j] - 1).toNat)
    rw [toK_get hok] at ks
    have fs := fun i => Bt.frozen (i := i)
    generalize ord[j] = q at *
    unfold okNo at hok
    have hq1 : (q - 1).toNat < ns.length := by omega
    unfold loamref17_Pick_l1
    simp (disch := (first | omega | decide | (simp only [rsD] <;> omega) | fail)) only [↓rsC, rsK, rsL, ↓rsPck1_0, tick_eq, tickV_eq, ne_eq, Int.reduceAdd, Int.reduceSub, Int.reduceMul, Int.reduceEq, Int.reduceLT, Int.reduceLE, Int.reduceToNat, Nat.reduceMul, Nat.reduceAdd, Nat.reduceSub, ←decide_not, k1, co, ks, fs]
    have B2 := Bt.set (i := (q - 1).toNat) (v := i64 ((j : Int) + 1))
    rw [ht] at B2
    exact hnx _ ⟨F.set' (.inl (by simp)), B2⟩
  rintro u x1 hu ⟨F, Bt⟩ nxt
  simp only [List.map_cons, List.map_nil, List.cons.injEq, and_true] at hu
  rw [hu]
  rw [List.take_length] at Bt
  have B1x := B13.ext F ne1
  have B4x := B43.ext F ne4
  have g1x := B1x.lt
  have g4x := B4x.lt
  have gtx := Bt.lt
  unfold loamref17_Pick_l1
  simp (disch := (first | omega | decide | (simp only [rsD] <;> omega) | fail)) only [↓rsC, rsK, rsL, ↓rsPck1_0, tick_eq, tickV_eq, ne_eq, Int.reduceAdd, Int.reduceSub, Int.reduceMul, Int.reduceEq, Int.reduceLT, Int.reduceLE, Int.reduceToNat, Nat.reduceMul, Nat.reduceAdd, Nat.reduceSub, ←decide_not, k1]
  obtain ⟨hx, hhx⟩ : ∃ g, g = x1.heap.size := ⟨_, rfl⟩
  have Bx0 : Blk (x1.alloc (.cells #[.slice none 0 0, .slice none 0 0] 32)) hx 32 [.slice none 0 0, .slice none 0 0] := Blk.at hhx
  have X8 : Ext [] x1 (x1.alloc (.cells #[.slice none 0 0, .slice none 0 0] 32)) := Ext.alloc _ _ _
  have zs8 : (x1.alloc (.cells #[.slice none 0 0, .slice none 0 0] 32)).heap.size = x1.heap.size + 1 := World.size_alloc _ _
  rw [← hhx] at zs8 ⊢
  have F8 := (fresh F).trans X8
  have B18 := B1x.ext X8 (by simp)
  have B48 := B4x.ext X8 (by simp)
  have Bt8 := Bt.ext X8 (by simp)
  have zw8 := (fresh F).size
  generalize x1.alloc (.cells #[.slice none 0 0, .slice none 0 0] 32) = q at *
  have hlt : hx < q.heap.size := by omega
  have fresh2 : ∀ {w' : World}, Ext [hx] q w' → Ext [] w w' := fun F => F8.new F (fun z hz => by simp only [List.mem_singleton] at hz; omega)
  have nq1 : g1 ∉ [hx] := by simp only [List.mem_singleton]; omega
  have nq4 : g4 ∉ [hx] := by simp only [List.mem_singleton]; omega
  have nqt : gt ∉ [hx] := by simp only [List.mem_singleton]; omega
  have nilb : ∀ z, z ∉ blk (.slice none 0 0) := by simp [blk, Value.ownBlock]
  refine xLoop_n ord.length (fun j => [i64 (j : Int)]) (fun j w' => Ext [hx] q w' ∧ ∃ v ns', ns'.map bare = (ord.take j).map (canN ns ord) ∧ OwnN w' v ns' ∧ Blk w' hx 32 [v, .slice none 0 0] ∧ (∀ z ∈ blk v, q.heap.size ≤ z) ∧ ∀ x ∈ ns', NOk w' x ∧ Apt (hx :: blk v) x) rfl ⟨Ext.refl _ _, .slice none 0 0, [], by simp, Own.nil, Bx0, fun z hz => absurd hz (nilb z), by simp⟩ ?_ ?_
  · rintro j hj u x2 hu ⟨F2, v, ns', hns, O, B, U, A⟩ nxt2 hnx2
    simp only [List.map_cons, List.map_nil, List.cons.injEq, and_true] at hu
    rw [hu]
    have hnl : ns'.length = j := by
      have := congrArg List.length hns
      rw [List.length_map, List.length_map, List.length_take] at this
      omega
    have Fd : Ext [hx] q x2.drew := F2.trans ((Ext.drew [] x2).more (by simp))
    obtain ⟨bo, oo, rfl, zbo, co⟩ := its_at (hr.ext0 (fresh2 Fd)) hj
    have hok := ho.ok _ (List.getElem_mem hj)
    have hq : ord[j].toNat - 1 < ns.length := by omega
    obtain ⟨bn, on, ena, zbn, c1, c2⟩ := gn_at (h.nr.ext0 (fresh2 Fd)) hq
    have zb1 := (B18.ext Fd nq1).lt
    have zd : x2.drew.heap.size = x2.heap.size := World.size_drew _
    rw [zd] at zbo zbn zb1
    have hsu : (ord.take (j + 1)).map (canN ns ord) = (ord.take j).map (canN ns ord) ++ [canN ns ord ord[j]] := by
      rw [List.take_add_one, List.getElem?_eq_getElem hj, Option.toList_some, List.map_append]
      rfl
    have hcan : canN ns ord ord[j] = ⟨(ns[ord[j].toNat - 1].p).map (noV ord), none, 0, ns[ord[j].toNat - 1].d, none, 0⟩ := by
      unfold canN ptrsOf dataOf
      rw [List.getElem?_eq_getElem hq]
    rw [hcan] at hsu
    have hxk := h.ok _ (List.getElem_mem hq)
    have hgx := hg _ (List.getElem_mem hq)
    have lx := hf.x _ (List.getElem_mem hq)
    have tq : (ord[j] - 1).toNat = ord[j].toNat - 1 := by omega
    unfold okNo at hok
    generalize ord[j] = qq at *
    generalize ns[qq.toNat - 1] = x at *
    subst ena
    have kd := fun i => (B18.ext Fd nq1).cell (i := i)
    have hqb : qq ≤ 9000 := by omega
    unfold loamref17_Pick_l2
    simp (disch := (first | omega | decide | (simp only [rsD] <;> omega) | fail)) only [↓rsC, rsK, rsL, ↓rsPck1_0, tick_eq, tickV_eq, ne_eq, Int.reduceAdd, Int.reduceSub, Int.reduceMul, Int.reduceEq, Int.reduceLT, Int.reduceLE, Int.reduceToNat, Nat.reduceMul, Nat.reduceAdd, Nat.reduceSub, ←decide_not, k1, co, kd, tq, c1, c2]
    rw [← zd]
    have Bd := B.ext (Ext.drew [] x2) (by simp)
    have Od := O.ext0 (Ext.drew [] x2)
    have Ad : ∀ y ∈ ns', NOk x2.drew y ∧ Apt (hx :: blk v) y := fun y hy => ⟨(A y hy).1.ext0 (Ext.drew [] x2), (A y hy).2⟩
    rw [← zd] at zbo zbn zb1
    generalize x2.drew = xd at *
    have C3 : Blk (xd.alloc (.cells #[.slice x.pa x.p.length x.pc, .slice x.da x.d.length x.dc] 60)) xd.heap.size 60 [.slice x.pa x.p.length x.pc, .slice x.da x.d.length x.dc] := Blk.at rfl
    have X3d : Ext [] xd (xd.alloc (.cells #[.slice x.pa x.p.length x.pc, .slice x.da x.d.length x.dc] 60)) := Ext.alloc _ _ _
    have zs3 : (xd.alloc (.cells #[.slice x.pa x.p.length x.pc, .slice x.da x.d.length x.dc] 60)).heap.size = xd.heap.size + 1 := World.size_alloc _ _
    generalize xd.alloc (.cells #[.slice x.pa x.p.length x.pc, .slice x.da x.d.length x.dc] 60) = x3 at *
    obtain ⟨hc, hhc⟩ : ∃ g, g = xd.heap.size := ⟨_, rfl⟩
    rw [← zs3]
    rw [← hhc] at C3 ⊢
    have E3 : Blk (x3.alloc (.cells #[] 5)) x3.heap.size 5 [] := Blk.at (cs := []) rfl
    have OE : Own (x3.alloc (.cells #[] 5)) 5 1 (.slice (some ⟨x3.heap.size, 0, none⟩) 0 0) 0 [] := Own.close (rest := []) (by rw [List.append_nil]; exact E3) (Nat.le_refl _) (by decide) (by rfl) (by rfl)
    have X34 : Ext [] x3 (x3.alloc (.cells #[] 5)) := Ext.alloc _ _ _
    have zs4 : (x3.alloc (.cells #[] 5)).heap.size = x3.heap.size + 1 := World.size_alloc _ _
    have UE : ∀ z ∈ blk (.slice (some ⟨x3.heap.size, 0, none⟩) 0 0), x3.heap.size ≤ z := by simp [blk, Value.ownBlock]
    generalize x3.alloc (.cells #[] 5) = x4 at *
    have Xd4 := X3d.trans X34
    have Fd4 := Fd.trans (Xd4.more (by simp))
    refine xApp (e := 5) (s := 1) (n := 0) (m := x.d.length) (xs := []) (news := bys x.d) (bytes := 1) (z := .int .u8 0) (by kernel_rfl) (by kernel_rfl) (by rfl) (by decide) OE (by simp) ((hxk.ext0 (fresh2 Fd4)).dr) hxk.dn hxk.dl bys_ok (by omega) (by omega) fun vd x5 O5 T5 => ?_
    rw [Nat.zero_add, List.nil_append] at O5
    obtain ⟨ad, cd, hvd, hdl, _, hdn, Rd, _⟩ := O5.slice
    have E45 : Ext [] x3 x5 := X34.new T5.ext (fun z hz => UE z hz)
    have Ud : ∀ z ∈ blk vd, x3.heap.size ≤ z := fun z hz => by
      rcases T5.at' z hz with h1 | h1
      · exact UE z h1
      · omega
    have Udl := O5.lt
    have Xd5 := X3d.trans E45
    subst hvd
    simp (disch := (first | omega | decide | (simp only [rsD] <;> omega) | fail)) only [↓rsC, rsK, rsL, ↓rsPck1_0, tick_eq, tickV_eq, ne_eq, Int.reduceAdd, Int.reduceSub, Int.reduceMul, Int.reduceEq, Int.reduceLT, Int.reduceLE, Int.reduceToNat, Nat.reduceMul, Nat.reduceAdd, Nat.reduceSub, ←decide_not, k1, co, kd, tq, c1, c2]
    obtain ⟨hn, hhn⟩ : ∃ g, g = x5.heap.size := ⟨_, rfl⟩
    have N60 : Blk (x5.alloc (.cells #[.slice none 0 0, .slice ad x.d.length cd] 60)) hn 60 [.slice none 0 0, .slice ad x.d.length cd] := Blk.at hhn
    have X56 : Ext [] x5 (x5.alloc (.cells #[.slice none 0 0, .slice ad x.d.length cd] 60)) := Ext.alloc _ _ _
    rw [← hhn]
    have Rd6 := Rd.ext0 X56
    have C6 := (C3.ext E45 (by simp)).ext X56 (by simp)
    have Xd6 := Xd5.trans X56
    have z56 := X56.size
    generalize x5.alloc (.cells #[.slice none 0 0, .slice ad x.d.length cd] 60) = x6 at *
    have hn6 := N60.lt
    have F06 := Fd.trans (Xd6.more (by simp))
    have B6 := Bd.ext Xd6 (by simp)
    have O6 := Od.ext0 Xd6
    have zF := Fd.size
    have hxdlt := Bd.lt
    have vdlt := Od.lt
    have zd5 := Xd5.size
    have z35 := E45.size
    have Fy : ∀ {w' : World}, Ext [hn] x6 w' → Ext [hx] q w' := fun F' => F06.cut F' (fun z hz => by simp only [List.mem_singleton] at hz; subst hz; exact .inr (by omega))
    have hxn : hx ∉ [hn] := by simp only [List.mem_singleton]; omega
    have hcn : hc ∉ [hn] := by simp only [List.mem_singleton]; omega
    have hnv : hn ∉ blk v := fun hm => by have := vdlt _ hm; omega
    have hpl : (x.p.map (noV ord)).length = x.p.length := by simp
    refine xLoop_n x.p.length (fun k => [i64 (k : Int)]) (fun k w' => Ext [hn] x6 w' ∧ ∃ vp, OwnIt w' vp ((x.p.map (noV ord)).take k) ∧ Blk w' hn 60 [vp, .slice ad x.d.length cd] ∧ ∀ z ∈ blk vp, x6.heap.size ≤ z) rfl ⟨Ext.refl _ _, .slice none 0 0, Own.nil, N60, fun z hz => absurd hz (nilb z)⟩ ?_ ?_
    · rintro k hk u x7 hu ⟨F7, vp, Op, Bp, Up⟩ nxt4 hn4
      simp only [List.map_cons, List.map_nil, List.cons.injEq, and_true] at hu
      rw [hu]
      obtain ⟨a1, c1', hv1, _⟩ := Op.slice
      subst hv1
      obtain ⟨bp, op, ep, _, cp⟩ := its_at (hxk.ext0 (fresh2 (Fy F7))).pr hk
      have hsu2 : (x.p.map (noV ord)).take (k + 1) = (x.p.map (noV ord)).take k ++ [noV ord x.p[k]] := by
        rw [List.take_add_one, List.getElem?_eq_getElem (by omega)]
        simp
      have hpg := hgx _ (List.getElem_mem hk)
      generalize x.p[k] = pk at *
      have kb := fun i => Bp.cell (i := i)
      have kc := fun i => (C6.ext F7 hcn).cell (i := i)
      have zbp := Bp.lt
      have Bt7 := Bt8.ext (Fy F7) nqt
      have kt : okNo ns.length pk → x7.cell? ⟨gt, (pk - 1).toNat, none⟩ = some (i64 (noV ord pk)) := fun hp => by rw [Bt7.cell, toK_get hp]
      have join : ∀ t : Int, t = noV ord pk → loamref17_Pick_j1 (PickR w ns rs ord) nxt4 (ptr hn) (i64 (k : Int)) (i64 t) x7 := by
        rintro t rfl
        unfold loamref17_Pick_j1
        simp (disch := (first | omega | decide | (simp only [rsD] <;> omega) | fail)) only [↓rsC, rsK, rsL, ↓rsPck1_0, tick_eq, tickV_eq, ne_eq, Int.reduceAdd, Int.reduceSub, Int.reduceMul, Int.reduceEq, Int.reduceLT, Int.reduceLE, Int.reduceToNat, Nat.reduceMul, Nat.reduceAdd, Nat.reduceSub, ←decide_not, k1, co, kd, tq, c1, c2, kb]
        refine appIt Op rfl (by simp; omega) fun v' x8 O8 T8 => ?_
        obtain ⟨F8', U8, n1, n2⟩ := grow F7 Up hn6 T8
        have B8 := Bp.ext T8.ext n1
        obtain ⟨a3, c3, hv3, _⟩ := O8.slice
        have k8 := fun i => B8.cell (i := i)
        have f8 := fun i => B8.frozen (i := i)
        rw [← hsu2] at O8 hv3
        subst hv3
        simp (disch := (first | omega | decide | (simp only [rsD] <;> omega) | fail)) only [↓rsC, rsK, rsL, ↓rsPck1_0, tick_eq, tickV_eq, ne_eq, Int.reduceAdd, Int.reduceSub, Int.reduceMul, Int.reduceEq, Int.reduceLT, Int.reduceLE, Int.reduceToNat, Nat.reduceMul, Nat.reduceAdd, Nat.reduceSub, ←decide_not, k1, co, kd, tq, c1, c2, kb, k8, f8]
        have B9 := B8.set (i := 0) (v := .slice a3 ((x.p.map (noV ord)).take (k + 1)).length c3)
        have O9 := O8.ext (Ext.set (w := x8) (b := hn) (o := 0) (v := .slice a3 ((x.p.map (noV ord)).take (k + 1)).length c3)) (fun z hz hm => by simp only [List.mem_singleton] at hm; subst hm; exact n2 hz)
        exact hn4 _ ⟨F8'.set' (.inl (by simp)), _, O9, B9, U8⟩
      unfold loamref17_Pick_l3
      rw [ep] at kc
      by_cases p0 : pk = 0
      · subst p0
        have e0 : noV ord 0 = 0 := by
          unfold noV
          rw [if_neg]
          intro hm
          have := (ho.ok _ hm).1
          omega
        simp (disch := (first | omega | decide | (simp only [rsD] <;> omega) | fail)) only [↓rsC, rsK, rsL, ↓rsPck1_0, tick_eq, tickV_eq, ne_eq, Int.reduceAdd, Int.reduceSub, Int.reduceMul, Int.reduceEq, Int.reduceLT, Int.reduceLE, Int.reduceToNat, Nat.reduceMul, Nat.reduceAdd, Nat.reduceSub, ←decide_not, k1, co, kd, tq, c1, c2, kc, cp]
        exact join 0 e0.symm
      · have hp : okNo ns.length pk := ⟨by omega, hpg.2⟩
        have kt := kt hp
        simp (disch := (first | omega | decide | (simp only [rsD] <;> omega) | fail)) only [↓rsC, rsK, rsL, ↓rsPck1_0, tick_eq, tickV_eq, ne_eq, Int.reduceAdd, Int.reduceSub, Int.reduceMul, Int.reduceEq, Int.reduceLT, Int.reduceLE, Int.reduceToNat, Nat.reduceMul, Nat.reduceAdd, Nat.reduceSub, ←decide_not, k1, co, kd, tq, c1, c2, kc, cp, kt]
        exact join _ rfl
    · rintro u x7 hu ⟨F7, vp, Op, Bp, Up⟩ nxt4
      simp only [List.map_cons, List.map_nil, List.cons.injEq, and_true] at hu
      rw [hu]
      have etk : (x.p.map (noV ord)).take x.p.length = x.p.map (noV ord) := by rw [← hpl, List.take_length]
      rw [etk] at Op
      obtain ⟨a1, c1', hv1, hc1', _, hn1, R1, _⟩ := Op.slice
      subst hv1
      obtain ⟨a0, c0', hv0, _⟩ := O.slice
      subst hv0
      have B7 := B6.ext F7 hxn
      have O7 := O6.ext F7 (fun z hz hm => by simp only [List.mem_singleton] at hm; subst hm; exact hnv hz)
      have kb := fun i => Bp.cell (i := i)
      have kc := fun i => (C6.ext F7 hcn).cell (i := i)
      have kx := fun i => B7.cell (i := i)
      unfold loamref17_Pick_l3
      simp (disch := (first | omega | decide | (simp only [rsD] <;> omega) | fail)) only [↓rsC, rsK, rsL, ↓rsPck1_0, tick_eq, tickV_eq, ne_eq, Int.reduceAdd, Int.reduceSub, Int.reduceMul, Int.reduceEq, Int.reduceLT, Int.reduceLE, Int.reduceToNat, Nat.reduceMul, Nat.reduceAdd, Nat.reduceSub, ←decide_not, k1, co, kd, tq, c1, c2, kb, kc, kx]
      have nad : ∀ b o, ad = some ⟨b, o, none⟩ → b ∉ [hn] := fun b o hb hm => by
        have := Udl b (by rw [hb]; simp [blk, Value.ownBlock])
        simp only [List.mem_singleton] at hm
        omega
      obtain ⟨X, hX⟩ : ∃ X : GN, X = ⟨x.p.map (noV ord), a1, c1', x.d, ad, cd⟩ := ⟨_, rfl⟩
      have hXb : bare X = ⟨x.p.map (noV ord), none, 0, x.d, none, 0⟩ := by rw [hX]; rfl
      have hXg : gnC X = [.slice a1 (x.p.map (noV ord)).length c1', .slice ad x.d.length cd] := by rw [hX]
      have NX : NOk x7 X := by
        rw [hX]
        exact ⟨R1, hc1', hn1, Rd6.ext F7 nad, hdl, hdn⟩
      have AX : Apt (hx :: blk (.slice a0 ns'.length c0')) X := by
        rw [hX]
        refine ⟨fun y hy _ hm => ?_, fun y hy _ hm => ?_⟩
        · have := Up y.block (by simp only at hy; rw [hy]; simp [blk, Value.ownBlock])
          rcases List.mem_cons.1 hm with e | e
          · omega
          · have := vdlt _ e; omega
        · have := Ud y.block (by simp only at hy; rw [hy]; simp [blk, Value.ownBlock])
          rcases List.mem_cons.1 hm with e | e
          · omega
          · have := vdlt _ e; omega
      have A7 : ∀ y ∈ ns', NOk x7 y ∧ Apt (hx :: blk (.slice a0 ns'.length c0')) y := fun y hy => ⟨((Ad y hy).1.ext0 Xd6).ext F7 ((Ad y hy).2.more (Ad y hy).1 (fun b hb => .inr (by simp only [List.mem_singleton] at hb; omega))), (Ad y hy).2⟩
      refine appN O7 (x := X) hXg.symm (by omega) fun v' x9 O9 T9 => ?_
      obtain ⟨F9, U9, n1, n2⟩ := grow (Fy F7) U hlt T9
      have A9 := fun {w6 : World} (F6 : Ext [hx] x9 w6) => nodes_app A7 NX AX T9 F6
      have B9 := B7.ext T9.ext n1
      obtain ⟨a3, c3, hv3, _⟩ := O9.slice
      have k9 := fun i => B9.cell (i := i)
      have f9 := fun i => B9.frozen (i := i)
      subst hv3
      simp (disch := (first | omega | decide | (simp only [rsD] <;> omega) | fail)) only [↓rsC, rsK, rsL, ↓rsPck1_0, tick_eq, tickV_eq, ne_eq, Int.reduceAdd, Int.reduceSub, Int.reduceMul, Int.reduceEq, Int.reduceLT, Int.reduceLE, Int.reduceToNat, Nat.reduceMul, Nat.reduceAdd, Nat.reduceSub, ←decide_not, k1, co, kd, tq, c1, c2, kb, kc, kx, k9, f9]
      have B10 := B9.set (i := 0) (v := .slice a3 (ns' ++ [X]).length c3)
      have O10 := O9.ext (Ext.set (w := x9) (b := hx) (o := 0) (v := .slice a3 (ns' ++ [X]).length c3)) (fun z hz hm => by simp only [List.mem_singleton] at hm; subst hm; exact n2 hz)
      exact hnx2 _ ⟨F9.set' (.inl (by simp)), _, ns' ++ [X], by rw [List.map_append, hns, hsu, List.map_singleton, hXb], O10, B10, U9, A9 Ext.set⟩
  rintro u x2 hu ⟨F2, v, ns', hns, O, B2q, U, A⟩ nxt2
  simp only [List.map_cons, List.map_nil, List.cons.injEq, and_true] at hu
  rw [hu]
  rw [List.take_length] at hns
  obtain ⟨rs', hrs⟩ : ∃ rs' : List GR, rs' = rs.map fun r => ⟨r.s, noV ord r.to⟩ := ⟨_, rfl⟩
  have hlr : rs'.length = rs.length := by rw [hrs]; simp
  unfold loamref17_Pick_l2
  simp (disch := (first | omega | decide | (simp only [rsD] <;> omega) | fail)) only [↓rsC, rsK, rsL, ↓rsPck1_0, tick_eq, tickV_eq, ne_eq, Int.reduceAdd, Int.reduceSub, Int.reduceMul, Int.reduceEq, Int.reduceLT, Int.reduceLE, Int.reduceToNat, Nat.reduceMul, Nat.reduceAdd, Nat.reduceSub, ←decide_not, k1]
  refine xLoop_n rs.length (fun j => [i64 (j : Int)]) (fun j w' => Ext [hx] q w' ∧ OwnN w' v ns' ∧ ∃ v2, OwnRt w' v2 (rs'.take j) ∧ Blk w' hx 32 [v, v2] ∧ (∀ z ∈ blk v2, q.heap.size ≤ z) ∧ (∀ z ∈ blk v2, z ∉ blk v) ∧ ∀ x ∈ ns', NOk w' x ∧ Apt (hx :: (blk v ++ blk v2)) x) rfl ⟨F2, O, .slice none 0 0, Own.nil, B2q, fun z hz => absurd hz (nilb z), fun z hz => absurd hz (nilb z), fun x hx' => ⟨(A x hx').1, by have := (A x hx').2; simpa [blk, Value.ownBlock] using this⟩⟩ ?_ ?_
  · rintro j hj u x1 hu ⟨F, O, v2, R, B, U2, D, A⟩ nxt3 hnx
    simp only [List.map_cons, List.map_nil, List.cons.injEq, and_true] at hu
    rw [hu]
    obtain ⟨a0, c0', hv0, _⟩ := R.slice
    subst hv0
    have hlenj : (rs'.take j).length = j := by rw [List.length_take]; omega
    obtain ⟨br, or', era, zbr, c1, c2⟩ := gr_at (h.rr.ext0 (fresh2 F)) hj
    have hsu : rs'.take (j + 1) = rs'.take j ++ [⟨rs[j].s, noV ord rs[j].to⟩] := by
      rw [List.take_add_one, List.getElem?_eq_getElem (by omega)]
      simp [hrs]
    have hrg := hgr _ (List.getElem_mem hj)
    generalize rs[j] = rr at *
    have kq := fun i => (B18.ext F nq1).cell (i := i)
    have zq1 := (B18.ext F nq1).lt
    have kb := fun i => B.cell (i := i)
    have zb := B.lt
    have Btx := Bt8.ext F nqt
    have ztx := Btx.lt
    have kt : okNo ns.length rr.to → x1.cell? ⟨gt, (rr.to - 1).toNat, none⟩ = some (i64 (noV ord rr.to)) := fun hp => by rw [Btx.cell, toK_get hp]
    have e0 : noV ord 0 = 0 := by
      unfold noV
      rw [if_neg]
      intro hm
      have := (ho.ok _ hm).1
      omega
    have E9 : Ext [] x1 (x1.alloc (.cells #[.string (strOf rr.s), i64 rr.to] 61)) := Ext.alloc _ _ _
    have Br : Blk (x1.alloc (.cells #[.string (strOf rr.s), i64 rr.to] 61)) x1.heap.size 61 [.string (strOf rr.s), i64 rr.to] := Blk.at rfl
    have F04 := F.trans (E9.more (by simp))
    have B4 := B.ext E9 (by simp)
    have R4' := R.ext0 E9
    have O4 := O.ext0 E9
    have kr := fun i => Br.cell (i := i)
    have k4 := fun i => B4.cell (i := i)
    have join : ∀ t : Int, t = noV ord rr.to → loamref17_Pick_j2 (PickR w ns rs ord) nxt3 (ptr hx) (i64 (j : Int)) (ptr x1.heap.size) (i64 t) (x1.alloc (.cells #[.string (strOf rr.s), i64 rr.to] 61)) := by
      rintro t rfl
      have hA : ∀ p ∈ ns', NOk (x1.alloc (.cells #[.string (strOf rr.s), i64 rr.to] 61)) p ∧ Apt (hx :: (blk v ++ blk (.slice a0 (rs'.take j).length c0'))) p := fun p hp => ⟨(A p hp).1.ext0 E9, (A p hp).2⟩
      generalize x1.alloc (.cells #[.string (strOf rr.s), i64 rr.to] 61) = x4 at *
      unfold loamref17_Pick_j2
      simp (disch := (first | omega | decide | (simp only [rsD] <;> omega) | fail)) only [↓rsC, rsK, rsL, ↓rsPck1_0, tick_eq, tickV_eq, ne_eq, Int.reduceAdd, Int.reduceSub, Int.reduceMul, Int.reduceEq, Int.reduceLT, Int.reduceLE, Int.reduceToNat, Nat.reduceMul, Nat.reduceAdd, Nat.reduceSub, ←decide_not, k1, k4, kr]
      refine appR R4' (x := ⟨rr.s, noV ord rr.to⟩) rfl (by omega) fun v' x5 R5 T5 => ?_
      obtain ⟨F5, U5, n1, n2⟩ := grow F04 U2 hlt T5
      have B5 := B4.ext T5.ext n1
      have O5 := O4.ext T5.ext (fun z hz hm => D z hm hz)
      obtain ⟨a3, c3, hv3, _⟩ := R5.slice
      have k5 := fun i => B5.cell (i := i)
      have f5 := fun i => B5.frozen (i := i)
      rw [← hsu] at R5 hv3
      subst hv3
      simp (disch := (first | omega | decide | (simp only [rsD] <;> omega) | fail)) only [↓rsC, rsK, rsL, ↓rsPck1_0, tick_eq, tickV_eq, ne_eq, Int.reduceAdd, Int.reduceSub, Int.reduceMul, Int.reduceEq, Int.reduceLT, Int.reduceLE, Int.reduceToNat, Nat.reduceMul, Nat.reduceAdd, Nat.reduceSub, ←decide_not, k1, k4, kr, k5, f5]
      have B6 := B5.set (i := 1) (v := .slice a3 (rs'.take (j + 1)).length c3)
      have hxv : hx ∉ blk v := fun hm => by have := U _ hm; omega
      have D5 : ∀ z ∈ blk (.slice a3 (rs'.take (j + 1)).length c3), z ∉ blk v := fun z hz hm => by
        rcases T5.at' z hz with h1 | h1
        · exact D z h1 hm
        · have := O4.lt z hm
          omega
      have R6 := R5.ext (Ext.set (w := x5) (b := hx) (o := 1) (v := .slice a3 (rs'.take (j + 1)).length c3)) (fun z hz hm => by simp only [List.mem_singleton] at hm; subst hm; exact n2 hz)
      have O6 := O5.ext (Ext.set (w := x5) (b := hx) (o := 1) (v := .slice a3 (rs'.take (j + 1)).length c3)) (fun z hz hm => by simp only [List.mem_singleton] at hm; subst hm; exact hxv hz)
      refine hnx _ ⟨F5.set' (.inl (by simp)), O6, _, R6, B6, U5, D5, fun q' hq => ?_⟩
      have hA := hA q' hq
      have hA2 := hA.1.ext (T5.ext.more (fun z hz => List.mem_cons_of_mem hx (List.mem_append_right _ hz))) hA.2
      have hA3 : Apt (hx :: (blk v ++ blk (.slice a3 (rs'.take (j + 1)).length c3))) q' := hA.2.more hA.1 fun b hb => by
        rcases List.mem_cons.1 hb with e | e
        · exact .inl (by rw [e]; exact List.mem_cons_self ..)
        · rcases List.mem_append.1 e with e | e
          · exact .inl (List.mem_cons_of_mem _ (List.mem_append_left _ e))
          · exact (T5.at' b e).imp (fun h => List.mem_cons_of_mem _ (List.mem_append_right _ h)) id
      exact ⟨hA2.ext (Ext.set.more (by simp)) hA3, hA3⟩
    unfold loamref17_Pick_l4
    rw [era] at kq
    by_cases p0 : rr.to = 0
    · simp (disch := (first | omega | decide | (simp only [rsD] <;> omega) | fail)) only [↓rsC, rsK, rsL, ↓rsPck1_0, tick_eq, tickV_eq, ne_eq, Int.reduceAdd, Int.reduceSub, Int.reduceMul, Int.reduceEq, Int.reduceLT, Int.reduceLE, Int.reduceToNat, Nat.reduceMul, Nat.reduceAdd, Nat.reduceSub, ←decide_not, k1, kq, c1, c2]
      exact join 0 (by rw [p0, e0])
    · have hp : okNo ns.length rr.to := ⟨by omega, hrg.2⟩
      have kt := kt hp
      simp (disch := (first | omega | decide | (simp only [rsD] <;> omega) | fail)) only [↓rsC, rsK, rsL, ↓rsPck1_0, tick_eq, tickV_eq, ne_eq, Int.reduceAdd, Int.reduceSub, Int.reduceMul, Int.reduceEq, Int.reduceLT, Int.reduceLE, Int.reduceToNat, Nat.reduceMul, Nat.reduceAdd, Nat.reduceSub, ←decide_not, k1, kq, c1, c2, kt]
      exact join _ rfl
  rintro u x1 hu ⟨F, O, v2, R, B, U2, D, A⟩ nxt3
  simp only [List.map_cons, List.map_nil, List.cons.injEq, and_true] at hu
  rw [hu]
  have etk : rs'.take rs.length = rs' := List.take_of_length_le (by omega)
  rw [etk] at R
  obtain ⟨na', nc', hvn, hnc, _, hnn, Rn, _⟩ := O.slice
  obtain ⟨ra', rc', hvr, hrc, _, hrn, Rr, _⟩ := R.slice
  subst hvn hvr
  have kq := fun i => (B18.ext F nq1).cell (i := i)
  have k3 := fun i => B.cell (i := i)
  have B4w := B48.ext F nq4
  have k4 := fun i => B4w.cell (i := i)
  have f4 := fun i => B4w.frozen (i := i)
  unfold loamref17_Pick_l4
  simp (disch := (first | omega | decide | (simp only [rsD] <;> omega) | fail)) only [↓rsC, rsK, rsL, ↓rsPck1_0, tick_eq, tickV_eq, ne_eq, Int.reduceAdd, Int.reduceSub, Int.reduceMul, Int.reduceEq, Int.reduceLT, Int.reduceLE, Int.reduceToNat, Nat.reduceMul, Nat.reduceAdd, Nat.reduceSub, ←decide_not, k1, kq, k3, k4, f4]
  have FE : Ext [g4] x1 ((x1.setCell ⟨g4, 0, none⟩ (.slice na' ns'.length nc')).setCell ⟨g4, 1, none⟩ (.slice ra' rs'.length rc')) := ((Ext.refl _ _).set' (.inl (by simp))).set' (.inl (by simp))
  have Fw := fresh2 F
  have zw4 : w.heap.size ≤ g4 := by omega
  have nna : ∀ b o, na' = some ⟨b, o, none⟩ → b ∉ [g4] := fun b o hb hm => by
    have := U b (by rw [hb]; simp [blk, Value.ownBlock])
    simp only [List.mem_cons, List.not_mem_nil, or_false] at hm
    omega
  have nra : ∀ b o, ra' = some ⟨b, o, none⟩ → b ∉ [g4] := fun b o hb hm => by
    have := U2 b (by rw [hb]; simp [blk, Value.ownBlock])
    simp only [List.mem_cons, List.not_mem_nil, or_false] at hm
    omega
  unfold PickR
  rw [← hrs]
  refine ⟨(Fw.set' (.inr zw4)).set' (.inr zw4), na', nc', ra', rc', ns', _, hns, rfl, ⟨Rn.ext FE nna, hnc, hnn, Rr.ext FE nra, hrc, hrn, fun p hp => ?_⟩, fun z hz => by have := U z.block (by rw [hz]; simp [blk, Value.ownBlock]); omega, fun z hz => by have := U2 z.block (by rw [hz]; simp [blk, Value.ownBlock]); omega, gt, by omega, rfl, ?_⟩
  · have hA := A p hp
    have hA2 := hA.2.cons hA.1 B4w (by simp)
    exact hA.1.ext (FE.more (by simp)) hA2
  · exact ((Bt8.ext F nqt).ext FE (by simp only [List.mem_singleton]; omega)).row
end Go.Proofs.Ythhcmoknppljpaa
end
section
set_option linter.unusedVariables false
set_option linter.unusedSimpArgs false
set_option maxHeartbeats 4000000
namespace Go.Proofs.Ythhcmoknppljpaa
open Go.Sh Go.RowKit

theorem GIs.away {y w' : World} {na ra : Option Addr} {nc rc g : Nat} {ns : List GN} {rs : List GR} {e : TypeId} {cells : List Value} (G : GIs y na nc ra rc ns rs) (B : Blk y g e cells) (hc : ∀ v ∈ cells, (∀ i, v ≠ i64 i) ∧ ∀ c : BitVec 8, v ≠ u8 c) (hn : ∀ z, na = some z → z.block ≠ g) (hr : ∀ z, ra = some z → z.block ≠ g) (F : Ext [g] y w') : GIs w' na nc ra rc ns rs := by
  refine ⟨G.nr.ext F fun b o hb hm => ?_, G.nl, G.nn, G.rr.ext F fun b o hb hm => ?_, G.rl, G.rn, fun x hx => ?_⟩
  · simp only [List.mem_singleton] at hm
    exact hn _ hb hm
  · simp only [List.mem_singleton] at hm
    exact hr _ hb hm
  · have hk := G.ok x hx
    have h0 : Apt [] x := ⟨fun _ _ _ h => (by cases h), fun _ _ _ h => (by cases h)⟩
    exact hk.ext F (h0.cons hk B hc)
end Go.Proofs.Ythhcmoknppljpaa
end
section
set_option linter.unusedVariables false
set_option linter.unusedSimpArgs false
set_option maxHeartbeats 4000000
namespace Go.Proofs.Ythhcmoknppljpaa
open Go.Sh Go.RowKit

theorem onL_ok {bs : List Bool} {n : Nat} (hl : bs.length = n) : OutOk n (onL bs n) := by
  constructor
  · unfold onL
    rw [List.nodup_iff_pairwise_ne, List.pairwise_map]
    refine List.Pairwise.imp ?_ (List.Pairwise.filter _ (List.nodup_range (n := n)))
    intro a b h e
    omega
  · intro p hp
    obtain ⟨i, h1, _, rfl⟩ := (onL_mem bs).1 hp
    unfold okNo
    omega
theorem onL_noL {bs : List Bool} {n : Nat} (hl : bs.length = n) : toK n (onL bs n) = noL bs := by
  unfold toK noL
  rw [hl]
  refine List.map_congr_left fun i hi => ?_
  have hi := List.mem_range.1 hi
  have e : onL bs n = onL bs bs.length := by rw [hl]
  rw [e, onL_no]
  unfold toB
  rw [if_pos (by unfold okNo; omega), show ((i : Int) + 1).toNat - 1 = i by omega]
theorem bs_rch {ns : List GN} {fr : List Int} : RchOk ns fr ((List.range ns.length).map fun (i : Nat) => decide (((i : Int) + 1) ∈ ordV ns fr)) := by
  refine ⟨by simp, fun i hi => ?_⟩
  rw [← ord_mem]
  simp
def RTrimR (w : World) (ns : List GN) (rs : List GR) (keep : List Int) (u : Value) (w' : World) : Prop := Ext [] w w' ∧ ∃ bs na' nc' ra' rc' ns' gt, RchOk ns (tosL rs ++ keep) bs ∧ ns'.map bare = trNs ns bs ∧ u = .tuple #[gV na' nc' ra' rc' ns' (trRs rs bs), .slice (some ⟨gt, 0, none⟩) ns.length ns.length] ∧ GIs w' na' nc' ra' rc' ns' (trRs rs bs) ∧ RowAt w' (some ⟨gt, 0, none⟩) (its (noL bs))
abbrev rsRtr2_0 := (And.intro @xu8_add (And.intro @xu8_lss (And.intro @xu8_leq (And.intro @xu16_add (And.intro @xu16_lss (And.intro @xu16_leq (And.intro @xu32_add (And.intro @xu32_lss (And.intro @xu32_leq (And.intro @xu64_add (And.intro @xu64_lss (And.intro @xu64_leq (And.intro @xi64_lss (And.intro @xi64_leq (And.intro @ld_3 (And.intro @ld_4 
  (And.intro @ld_29 (And.intro @ld_32 (And.intro @lr_32 (And.intro @fa_32_0 (And.intro @al_32 (And.intro @st_4 (And.intro @st_32 (And.intro @ia_26 (And.intro @ia_37 (And.intro @ln_26 (And.intro @ln_29 (And.intro @bs_26_0 (And.intro @bs_26_1 @mk_37)))))))))))))))))))))))))))))
theorem RTrim_spec {w : World} {na ra : Option Addr} {nc rc : Nat} {ns : List GN} {rs : List GR} (h : GIs w na nc ra rc ns rs) (hf : FewH ns rs) (hg : GoodG ns rs) {keep : List Int} {a : Option Addr} {c : Nat} (hk : RowAt w a (its keep)) (hkc : keep.length ≤ c) (hkn : a = none → c = 0) (hkl : keep.length ≤ 9000) :
    Yld Try.prog n_loamref17_Trim #[gV na nc ra rc ns rs, .slice a keep.length c] w (RTrimR w ns rs keep) := by
  have hfn := hf.n
  have hfr := hf.r
  have hgx := fun x hx => (hg.x x hx).1
  have hgr := fun r hr => (hg.s r hr).2
  refine loamref17_Trim_of ?_
  unfold loamref17_Trim
  have gbox : ∀ (y : World) (K : K1), xBox Try.prog 32 (gV na nc ra rc ns rs) y K = K (ptr y.heap.size) (y.alloc (.cells #[.slice na ns.length nc, .slice ra rs.length rc] 32)) := fun y K => xBox_r
  have al : ∀ (y : World) (K : K1), xAlloc Try.prog 32 y K = K (ptr y.heap.size) (y.alloc (.cells #[.slice none 0 0, .slice none 0 0] 32)) := fun y K => xAlloc_r (by kernel_rfl)
  rw [gbox, al]
  have B1 : Blk (w.alloc (.cells #[.slice na ns.length nc, .slice ra rs.length rc] 32)) w.heap.size 32 [.slice na ns.length nc, .slice ra rs.length rc] := Blk.at rfl
  have X1 : Ext [] w (w.alloc (.cells #[.slice na ns.length nc, .slice ra rs.length rc] 32)) := Ext.alloc _ _ _
  generalize w.alloc (.cells #[.slice na ns.length nc, .slice ra rs.length rc] 32) = y1 at *
  obtain ⟨g1, hg1⟩ : ∃ g, g = w.heap.size := ⟨_, rfl⟩
  rw [← hg1] at B1 ⊢
  have g1lt := B1.lt
  have B20 : Blk (y1.alloc (.cells #[.slice none 0 0, .slice none 0 0] 32)) y1.heap.size 32 [.slice none 0 0, .slice none 0 0] := Blk.at rfl
  have X2 : Ext [] y1 (y1.alloc (.cells #[.slice none 0 0, .slice none 0 0] 32)) := Ext.alloc _ _ _
  have B12 := B1.ext X2 (by simp)
  have zw := X1.size
  generalize y1.alloc (.cells #[.slice none 0 0, .slice none 0 0] 32) = y2 at *
  obtain ⟨g2, hg2⟩ : ∃ g, g = y1.heap.size := ⟨_, rfl⟩
  rw [← hg2] at B20 ⊢
  have hw2 : w.heap.size ≤ g2 := by omega
  have Xd := (X1.trans X2).trans (Ext.drew [] y2)
  have B1d := B12.ext (Ext.drew [] y2) (by simp)
  have B2d := B20.ext (Ext.drew [] y2) (by simp)
  generalize y2.drew = y at *
  have kd := fun i => B1d.cell (i := i)
  simp (disch := (first | omega | decide | (simp only [rsD] <;> omega) | fail)) only [↓rsC, rsK, rsL, ↓rsRtr2_0, tick_eq, tickV_eq, ne_eq, Int.reduceAdd, Int.reduceSub, Int.reduceMul, Int.reduceEq, Int.reduceLT, Int.reduceLE, Int.reduceToNat, Nat.reduceMul, Nat.reduceAdd, Nat.reduceSub, ←decide_not, kd]
  refine loamref17_Named_call (Yld.mono (RNamed_spec (h.ext0 Xd) hfr) ?_)
  rintro u y3 N3
  have E3 := N3.1
  obtain ⟨a3, c3, hv3, _⟩ := N3.2.1.slice
  have O3 := N3.2.1
  have U3 := N3.2.2
  subst hv3
  have k3 := fun i => (B1d.ext E3 (by simp)).cell (i := i)
  simp (disch := (first | omega | decide | (simp only [rsD] <;> omega) | fail)) only [↓rsC, rsK, rsL, ↓rsRtr2_0, tick_eq, tickV_eq, ne_eq, Int.reduceAdd, Int.reduceSub, Int.reduceMul, Int.reduceEq, Int.reduceLT, Int.reduceLE, Int.reduceToNat, Nat.reduceMul, Nat.reduceAdd, Nat.reduceSub, ←decide_not, kd, k3]
  refine xApp (e := 3) (s := 1) (n := (tosL rs).length) (m := keep.length) (xs := its (tosL rs)) (news := its keep) (bytes := 8) (z := .int .i64 0) (by kernel_rfl) (by kernel_rfl) (by rfl) (by decide) O3 (by simp) (hk.ext0 (Xd.trans E3)) hkn hkc (by simp [Value.oneCell']) (by simp; omega) (by simp; omega) fun v' y4 O4 T4 => ?_
  have N4 := N3.app O4 T4
  have E4 := N4.1
  obtain ⟨a4, c4, hv4, _, _, _, R4, _⟩ := O4.slice
  rw [← List.map_append] at R4
  rw [show (tosL rs).length + keep.length = (tosL rs ++ keep).length by rw [List.length_append]] at hv4
  subst hv4
  have hfl : (tosL rs ++ keep).length ≤ 100000 := by rw [List.length_append]; simp; omega
  have k4 := fun i => (B1d.ext E4 (by simp)).cell (i := i)
  simp (disch := (first | omega | decide | (simp only [rsD] <;> omega) | fail)) only [↓rsC, rsK, rsL, ↓rsRtr2_0, tick_eq, tickV_eq, ne_eq, Int.reduceAdd, Int.reduceSub, Int.reduceMul, Int.reduceEq, Int.reduceLT, Int.reduceLE, Int.reduceToNat, Nat.reduceMul, Nat.reduceAdd, Nat.reduceSub, ←decide_not, kd, k3, k4]
  refine loamref17_Walk_call (Yld.mono (RWalk_spec (h.ext0 (Xd.trans E4)) hf hgx R4 hfl) ?_)
  rintro u y5 N5
  have hbr := bs_rch (ns := ns) (fr := tosL rs ++ keep)
  have hO := ord_ok ns (tosL rs ++ keep)
  have hol := hO.len
  generalize hfr2 : tosL rs ++ keep = fr at *
  obtain ⟨bs, hbs⟩ : ∃ bs, bs = (List.range ns.length).map fun (i : Nat) => decide (((i : Int) + 1) ∈ ordV ns fr) := ⟨_, rfl⟩
  rw [← hbs] at hbr
  have hbl : bs.length = ns.length := hbr.len
  have hbi : ∀ i (hi : i < bs.length), bs[i] = decide (((i : Int) + 1) ∈ ordV ns fr) := fun i hi => by simp [hbs]
  generalize ordV ns fr = l at *
  have E5 := E4.trans N5.1
  obtain ⟨a5, c5, hv5, _, _, _, R5, _⟩ := N5.2.1.slice
  subst hv5
  have k5 := fun i => (B1d.ext E5 (by simp)).cell (i := i)
  simp (disch := (first | omega | decide | (simp only [rsD] <;> omega) | fail)) only [↓rsC, rsK, rsL, ↓rsRtr2_0, tick_eq, tickV_eq, ne_eq, Int.reduceAdd, Int.reduceSub, Int.reduceMul, Int.reduceEq, Int.reduceLT, Int.reduceLE, Int.reduceToNat, Nat.reduceMul, Nat.reduceAdd, Nat.reduceSub, ←decide_not, kd, k3, k4, k5]
  have en : ((ns.length : Int) + 1).toNat = ns.length + 1 := by omega
  rw [en]
  have Bs : Blk (y5.alloc (.cells (List.replicate (ns.length + 1) (.bool false)).toArray 4)) y5.heap.size 4 (seenB ns.length []) := by rw [seenB_nil]; exact Blk.at rfl
  have X6 : Ext [] y5 (y5.alloc (.cells (List.replicate (ns.length + 1) (.bool false)).toArray 4)) := Ext.alloc _ _ _
  generalize y5.alloc (.cells (List.replicate (ns.length + 1) (.bool false)).toArray 4) = y6 at *
  obtain ⟨gm, hgm⟩ : ∃ g, g = y5.heap.size := ⟨_, rfl⟩
  rw [← hgm] at Bs ⊢
  have gmlt := Bs.lt
  have E6 := E5.trans X6
  have B1e := B1d.ext E6 (by simp)
  have B2e := B2d.ext E6 (by simp)
  have z5 := E5.size
  have g1y := B1d.lt
  have g2y := B2d.lt
  have Xw := Xd.trans E6
  have zww := Xw.size
  have z5w := (Xd.trans E5).size
  have fresh : ∀ {w' : World}, Ext [gm] y6 w' → Ext [] w w' := fun F => Xw.new F (fun z hz => by simp only [List.mem_singleton] at hz; omega)
  have ne1 : g1 ∉ [gm] := by simp only [List.mem_singleton]; omega
  have ne2 : g2 ∉ [gm] := by simp only [List.mem_singleton]; omega
  refine xLoop_n l.length (fun j => [i64 (j : Int)]) (fun j w' => Ext [gm] y6 w' ∧ Blk w' gm 4 (seenB ns.length (l.take j))) rfl ⟨Ext.refl _ _, Bs⟩ ?_ ?_
  · rintro j hj u x1 hu ⟨F, B⟩ nxt hnx
    simp only [List.map_cons, List.map_nil, List.cons.injEq, and_true] at hu
    rw [hu]
    obtain ⟨b, o, rfl, hblt, _⟩ := its_at R5 hj
    have hbg : b ≠ gm := by omega
    obtain ⟨_, _, e1, _, c1⟩ := its_at ((R5.ext0 X6).ext F (fun b' o' hb hm => by cases hb; simp only [List.mem_singleton] at hm; omega)) hj
    cases e1
    have hok := hO.ok _ (List.getElem_mem hj)
    have hsu : l.take (j + 1) = l.take j ++ [l[j]] := by
      rw [List.take_add_one, List.getElem?_eq_getElem hj]
      rfl
    generalize l[j] = p at *
    have ks := B.cell (i := p.toNat)
    rw [seenB_get (by omega) hok.2] at ks
    have fs := fun i => B.frozen (i := i)
    have hst := seenB_set (out := l.take j) hok
    rw [← hsu] at hst
    unfold okNo at hok
    unfold loamref17_Trim_l1
    simp (disch := (first | omega | decide | (simp only [rsD] <;> omega) | fail)) only [↓rsC, rsK, rsL, ↓rsRtr2_0, tick_eq, tickV_eq, ne_eq, Int.reduceAdd, Int.reduceSub, Int.reduceMul, Int.reduceEq, Int.reduceLT, Int.reduceLE, Int.reduceToNat, Nat.reduceMul, Nat.reduceAdd, Nat.reduceSub, ←decide_not, kd, k3, k4, k5, c1, ks, fs]
    have B2 := B.set (i := p.toNat) (v := .bool true)
    rw [hst] at B2
    exact hnx _ ⟨F.set' (.inl (by simp)), B2⟩
  rintro u x1 hu ⟨F, B⟩ nxt
  simp only [List.map_cons, List.map_nil, List.cons.injEq, and_true] at hu
  rw [hu]
  rw [List.take_length] at B
  have B1x := B1e.ext F ne1
  have B2x := B2e.ext F ne2
  have Fx := fresh F
  have k1x := fun i => B1x.cell (i := i)
  unfold loamref17_Trim_l1
  simp (disch := (first | omega | decide | (simp only [rsD] <;> omega) | fail)) only [↓rsC, rsK, rsL, ↓rsRtr2_0, tick_eq, tickV_eq, ne_eq, Int.reduceAdd, Int.reduceSub, Int.reduceMul, Int.reduceEq, Int.reduceLT, Int.reduceLE, Int.reduceToNat, Nat.reduceMul, Nat.reduceAdd, Nat.reduceSub, ←decide_not, kd, k3, k4, k5, k1x]
  refine xLoop_r ns.length (fun j vs w' => ∃ v, vs = [v, i64 ((j : Int) + 1)] ∧ NewIt x1 w' v (onL bs j)) ⟨_, rfl, NewR.nil (Ext.refl _ _)⟩ ?_ ?_
  · rintro j hj u x2 ⟨v, hu, N⟩ nxt2 hnx
    simp only [List.map_cons, List.map_nil, List.cons.injEq, and_true] at hu
    rw [hu.1, hu.2]
    have k2 := fun i => (B1x.ext N.1 (by simp)).cell (i := i)
    have kc := (B.ext N.1 (by simp)).cell (i := ((j : Int) + 1).toNat)
    rw [seenB_get (by omega) (by omega), ← hbi j (by omega)] at kc
    have hs := onL_succ bs (k := j) (by omega)
    have ej : ((j + 1 : Nat) : Int) + 1 = (j : Int) + 1 + 1 := by omega
    have hll : (onL bs j).length ≤ j := by rw [onL_len bs j (by omega)]; exact rk_le j
    have hjn : (j : Int) + 1 ≤ (ns.length : Int) := by omega
    have en : ((j : Int) + 1).toNat = j + 1 := by omega
    unfold loamref17_Trim_l2
    cases hb : bs[j]'(by omega) with
    | true =>
      rw [hb] at kc hs
      rw [if_pos rfl] at hs
      simp (disch := (first | omega | decide | (simp only [rsD] <;> omega) | fail)) only [↓rsC, rsK, rsL, ↓rsRtr2_0, tick_eq, tickV_eq, ne_eq, Int.reduceAdd, Int.reduceSub, Int.reduceMul, Int.reduceEq, Int.reduceLT, Int.reduceLE, Int.reduceToNat, Nat.reduceMul, Nat.reduceAdd, Nat.reduceSub, ←decide_not, kd, k3, k4, k5, k1x, k2, kc]
      refine appIt N.2.1 (o := (j : Int) + 1) rfl (by omega) fun v' x5 O5 T5 => ?_
      have N5 := N.app O5 T5
      rw [← hs] at N5
      unfold loamref17_Trim_j1
      simp (disch := (first | omega | decide | (simp only [rsD] <;> omega) | fail)) only [↓rsC, rsK, rsL, ↓rsRtr2_0, tick_eq, tickV_eq, ne_eq, Int.reduceAdd, Int.reduceSub, Int.reduceMul, Int.reduceEq, Int.reduceLT, Int.reduceLE, Int.reduceToNat, Nat.reduceMul, Nat.reduceAdd, Nat.reduceSub, ←decide_not, kd, k3, k4, k5, k1x, k2, kc]
      exact hnx _ _ ⟨v', by simp [ej], N5⟩
    | false =>
      rw [hb] at kc hs
      rw [if_neg (by simp), List.append_nil] at hs
      simp (disch := (first | omega | decide | (simp only [rsD] <;> omega) | fail)) only [↓rsC, rsK, rsL, ↓rsRtr2_0, tick_eq, tickV_eq, ne_eq, Int.reduceAdd, Int.reduceSub, Int.reduceMul, Int.reduceEq, Int.reduceLT, Int.reduceLE, Int.reduceToNat, Nat.reduceMul, Nat.reduceAdd, Nat.reduceSub, ←decide_not, kd, k3, k4, k5, k1x, k2, kc]
      unfold loamref17_Trim_j1
      simp (disch := (first | omega | decide | (simp only [rsD] <;> omega) | fail)) only [↓rsC, rsK, rsL, ↓rsRtr2_0, tick_eq, tickV_eq, ne_eq, Int.reduceAdd, Int.reduceSub, Int.reduceMul, Int.reduceEq, Int.reduceLT, Int.reduceLE, Int.reduceToNat, Nat.reduceMul, Nat.reduceAdd, Nat.reduceSub, ←decide_not, kd, k3, k4, k5, k1x, k2, kc]
      rw [← hs] at N
      exact hnx _ _ ⟨v, by simp [ej], N⟩
  rintro u x2 ⟨v, hu, N⟩ nxt2
  simp only [List.map_cons, List.map_nil, List.cons.injEq, and_true] at hu
  rw [hu.1, hu.2]
  have k2 := fun i => (B1x.ext N.1 (by simp)).cell (i := i)
  obtain ⟨a7, c7, hv7, _, _, _, R7, _⟩ := N.2.1.slice
  subst hv7
  have hjn : ¬ ((ns.length : Int) + 1 ≤ (ns.length : Int)) := by omega
  have E2 := Fx.trans N.1
  have B22 := B2x.ext N.1 (by simp)
  have z22 := B22.lt
  unfold loamref17_Trim_l2
  simp (disch := (first | omega | decide | (simp only [rsD] <;> omega) | fail)) only [↓rsC, rsK, rsL, ↓rsRtr2_0, tick_eq, tickV_eq, ne_eq, Int.reduceAdd, Int.reduceSub, Int.reduceMul, Int.reduceEq, Int.reduceLT, Int.reduceLE, Int.reduceToNat, Nat.reduceMul, Nat.reduceAdd, Nat.reduceSub, ←decide_not, kd, k3, k4, k5, k1x, k2]
  refine loamref17_Pick_call (Yld.mono (RPick_spec (h.ext0 E2) hf hgx hgr (onL_ok hbl) R7) ?_)
  rintro u x3 ⟨F3, na', nc', ra', rc', ns', v, hb, rfl, G3, hn3, hr3, gt, hgt, rfl, Rt⟩
  have B23 := B22.ext F3 (by simp)
  have k23 := fun i => B23.cell (i := i)
  have f23 := fun i => B23.frozen (i := i)
  have hrs' : (rs.map fun r => (⟨r.s, noV (onL bs ns.length) r.to⟩ : GR)) = trRs rs bs := by
    unfold trRs
    refine List.map_congr_left fun r _ => ?_
    rw [← hbl, onL_no]
  rw [hrs'] at G3 ⊢
  rw [onL_noL hbl] at Rt
  have hb' : ns'.map bare = trNs ns bs := by rw [hb, ← onL_trim hbl, hbl]
  simp (disch := (first | omega | decide | (simp only [rsD] <;> omega) | fail)) only [↓rsC, rsK, rsL, ↓rsRtr2_0, tick_eq, tickV_eq, ne_eq, Int.reduceAdd, Int.reduceSub, Int.reduceMul, Int.reduceEq, Int.reduceLT, Int.reduceLE, Int.reduceToNat, Nat.reduceMul, Nat.reduceAdd, Nat.reduceSub, ←decide_not, kd, k3, k4, k5, k1x, k2, k23, f23]
  have FE : Ext [g2] x3 ((x3.setCell ⟨g2, 0, none⟩ (.slice na' ns'.length nc')).setCell ⟨g2, 1, none⟩ (.slice ra' (trRs rs bs).length rc')) := ((Ext.refl _ _).set' (.inl (by simp))).set' (.inl (by simp))
  have Fw := E2.trans F3
  have zw2 := E2.size
  refine ⟨(Fw.set' (.inr hw2)).set' (.inr hw2), bs, na', nc', ra', rc', ns', gt, (by rw [hfr2]; exact hbr), hb', rfl, G3.away B23 (by simp) (fun x hx => by have := hn3 x hx; omega) (fun x hx => by have := hr3 x hx; omega) FE, Rt.ext FE fun b o hb hm => ?_⟩
  cases hb
  simp only [List.mem_singleton] at hm
  omega
end Go.Proofs.Ythhcmoknppljpaa
end
section
set_option linter.unusedVariables false
set_option linter.unusedSimpArgs false
set_option maxHeartbeats 4000000
namespace Go.Proofs.Ythhcmoknppljpaa
open Go.Sh Go.RowKit

structure IntsA (w : World) (l : List Int) (a : Option Addr) (n c : Nat) : Prop where
  len : n = l.length
  cap : n ≤ c
  nil : a = none → c = 0
  row : RowAt w a (its l)
theorem sints_open {H : Type} {enc : TypeId × Value → H} {W : World} {base : Nat} {v : Value} {d : DataW H} {p : List MemPlace} (hv : Value.okWide Try.prog W .any base 26 v) (h : DataW.Trod enc Try.prog W 0 (fun _ => true) true 26 v d p) :
    ∃ a n c, ∃ zs : List Int, v = .slice a n c ∧ IntsA W zs a n c := by
  obtain ⟨a, n, c, zs, e, h1, h2, _, h3, h4, _⟩ := open_row (P := Try.prog) (e := 3) (k := .i64) (by kernel_rfl) (by kernel_rfl) (by kernel_rfl) hv h
  exact ⟨a, n, c, zs, e, h1, h2, h3, h4⟩
abbrev rsAny1_0 := (And.intro @xu8_add (And.intro @xu8_neq (And.intro @xu8_lss (And.intro @xu16_add (And.intro @xu16_neq (And.intro @xu16_lss (And.intro @xu32_add (And.intro @xu32_neq (And.intro @xu32_lss (And.intro @xu64_add (And.intro @xu64_neq (And.intro @xu64_lss (And.intro @xi64_lss (And.intro @xi64_neq (And.intro @xi64_neg (And.intro @ld_3 
  (And.intro @ia_26 @ln_26)))))))))))))))))
theorem intsZ_spec {w : World} {l : List Int} {a a' : Option Addr} {c c' : Nat} (h : RowAt w a (its l)) (h' : RowAt w a' (its l)) (hl : l.length ≤ 100000) : Gives Try.prog n_loamlaw15_Ints #[.slice a l.length c, .slice a' l.length c'] w (.bool true) := by
  refine loamlaw15_Ints_of ?_
  unfold loamlaw15_Ints
  refine loamlaw15_ints_call (Gives.to (?_ : Gives Try.prog n_loamlaw15_ints #[.slice a l.length c, .slice a' l.length c'] w (.bool true)) fun w2 F2 => ⟨by trivial, F2⟩)
  refine loamlaw15_ints_of ?_
  unfold loamlaw15_ints
  simp (disch := (first | omega | decide | (simp only [rsD] <;> omega) | fail)) only [↓rsC, rsK, rsL, ↓rsAny1_0, tick_eq, tickV_eq, ne_eq, Int.reduceAdd, Int.reduceSub, Int.reduceMul, Int.reduceEq, Int.reduceLT, Int.reduceLE, Int.reduceToNat, Nat.reduceMul, Nat.reduceAdd, Nat.reduceSub, ←decide_not, eq_self]
  refine xLoop_n l.length (fun j => [i64 (j : Int)]) (fun _ w' => Ext [] w w') rfl (Ext.refl _ _) ?_ ?_
  · intro j hj u v1 hu F nxt hnx
    simp only [List.map_cons, List.map_nil, List.cons.injEq, and_true] at hu
    rw [hu]
    have Fd := F.trans (Ext.drew [] v1)
    obtain ⟨b1, o1, rfl, z1, k1⟩ := its_at (h.ext0 Fd) hj
    obtain ⟨b2, o2, rfl, z2, k2⟩ := its_at (h'.ext0 Fd) hj
    unfold loamlaw15_ints_l1
    simp (disch := (first | omega | decide | (simp only [rsD] <;> omega) | fail)) only [↓rsC, rsK, rsL, ↓rsAny1_0, tick_eq, tickV_eq, ne_eq, Int.reduceAdd, Int.reduceSub, Int.reduceMul, Int.reduceEq, Int.reduceLT, Int.reduceLE, Int.reduceToNat, Nat.reduceMul, Nat.reduceAdd, Nat.reduceSub, ←decide_not, k1, k2]
    exact hnx _ Fd
  · intro u v1 hu F nxt
    simp only [List.map_cons, List.map_nil, List.cons.injEq, and_true] at hu
    rw [hu]
    unfold loamlaw15_ints_l1
    simp (disch := (first | omega | decide | (simp only [rsD] <;> omega) | fail)) only [↓rsC, rsK, rsL, ↓rsAny1_0, tick_eq, tickV_eq, ne_eq, Int.reduceAdd, Int.reduceSub, Int.reduceMul, Int.reduceEq, Int.reduceLT, Int.reduceLE, Int.reduceToNat, Nat.reduceMul, Nat.reduceAdd, Nat.reduceSub, ←decide_not, eq_self]
    exact ⟨by trivial, F⟩
def inB (n : Nat) (out : List Int) : List Value := (List.range n).map fun (i : Nat) => .bool (decide (((i : Int) + 1) ∈ out))
theorem inB_nil (n : Nat) : inB n [] = List.replicate n (.bool false) := by
  refine List.ext_getElem (by simp [inB]) fun i h1 h2 => ?_
  simp [inB]
theorem inB_set {n : Nat} {out : List Int} {p : Int} (h : okNo n p) : (inB n out).set (p - 1).toNat (.bool true) = inB n (out ++ [p]) := by
  refine List.ext_getElem (by simp [inB]) fun i h1 h2 => ?_
  rw [List.getElem_set]
  unfold okNo at h
  split
  · rename_i e
    have : (i : Int) + 1 = p := by omega
    simp [inB, this]
  · rename_i e
    have : ¬ (i : Int) + 1 = p := by omega
    simp [inB, this]
theorem inB_get {n : Nat} {out : List Int} {p : Int} (h : okNo n p) : (inB n out)[(p - 1).toNat]? = some (.bool (decide (p ∈ out))) := by
  unfold okNo at h
  unfold inB
  rw [List.getElem?_map, List.getElem?_range (by omega), Option.map_some, show (((p - 1).toNat : Nat) : Int) + 1 = p by omega]
theorem inB_bls {ns : List GN} {fr : List Int} {bs : List Bool} (h : RchOk ns fr bs) : inB ns.length (ordV ns fr) = bls bs := by
  rw [rch_bs h]
  unfold inB bls
  rw [List.map_map]
  rfl
abbrev rsAny1_1 := (And.intro @xu8_add (And.intro @xu8_sub (And.intro @xu8_com (And.intro @xu8_eql (And.intro @xu8_neq (And.intro @xu8_lss (And.intro @xu8_gtr (And.intro @xu16_add (And.intro @xu16_sub (And.intro @xu16_com (And.intro @xu16_eql (And.intro @xu16_neq (And.intro @xu16_lss (And.intro @xu16_gtr (And.intro @xu32_add (And.intro @xu32_sub 
  (And.intro @xu32_com (And.intro @xu32_eql (And.intro @xu32_neq (And.intro @xu32_lss (And.intro @xu32_gtr (And.intro @xu64_add (And.intro @xu64_sub (And.intro @xu64_com (And.intro @xu64_eql (And.intro @xu64_neq (And.intro @xu64_lss (And.intro @xu64_gtr (And.intro @xi64_lss (And.intro @xi64_gtr (And.intro @xi64_eql (And.intro @xi64_neq (And.intro @xi64_neg 
  (And.intro @ld_3 (And.intro @ld_4 (And.intro @ld_22 (And.intro @ld_25 (And.intro @ld_32 (And.intro @fa_25_0 (And.intro @al_25 (And.intro @al_32 (And.intro @st_4 (And.intro @st_25 (And.intro @st_32 (And.intro @eb_4 (And.intro @nb_4 (And.intro @ia_26 (And.intro @ia_37 (And.intro @ln_22 (And.intro @ln_26 (And.intro @ln_37 @mk_37)))))))))))))))))))))))))))))))))))))))))))))))))))
theorem GraphAny_walk (na ra : Option Addr) (nc rc : Nat) (ns : List GN) (rs : List GR) (fr : List Int) (f : Option Addr) (fc : Nat) (w : World) (h : GIs w na nc ra rc ns rs) (hfc : fr.length ≤ fc) (hfn0 : f = none → fc = 0) (hfr0 : RowAt w f (its fr)) : Gives Try.prog n_loamlaw17_GraphAny #[gV na nc ra rc ns rs, .slice f fr.length fc] w (.bool true) := by
  refine loamlaw17_GraphAny_of ?_
  unfold loamlaw17_GraphAny
  have gbox : ∀ (y : World) (K : K1), xBox Try.prog 25 (gV na nc ra rc ns rs) y K = K (ptr y.heap.size) (y.alloc (.cells #[.slice na ns.length nc, .slice ra rs.length rc] 25)) := fun y K => xBox_r
  rw [gbox]
  have B1 : Blk (w.alloc (.cells #[.slice na ns.length nc, .slice ra rs.length rc] 25)) w.heap.size 25 [.slice na ns.length nc, .slice ra rs.length rc] := Blk.at rfl
  have X1 : Ext [] w (w.alloc (.cells #[.slice na ns.length nc, .slice ra rs.length rc] 25)) := Ext.alloc _ _ _
  have G := h.ext0 X1
  have hfr1 := hfr0.ext0 X1
  generalize w.alloc (.cells #[.slice na ns.length nc, .slice ra rs.length rc] 25) = y1 at *
  have hw1 := X1.size
  generalize w.heap.size = g1 at *
  refine loamlaw17_known_call (Gives.to (known17_spec y1) fun y3 F3 => ?_)
  have k3 := fun i => (B1.ext F3 (by simp)).cell (i := i)
  simp (disch := (first | omega | decide | (simp only [rsD] <;> omega) | fail)) only [↓rsC, rsK, rsL, ↓rsAny1_1, tick_eq, tickV_eq, ne_eq, Int.reduceAdd, Int.reduceSub, Int.reduceMul, Int.reduceEq, Int.reduceLT, Int.reduceLE, Int.reduceToNat, Nat.reduceMul, Nat.reduceAdd, Nat.reduceSub, ←decide_not, k3]
  refine loamlaw17_Few_call (Yld.mono (Few_spec (G.ext0 F3)) ?_)
  rintro u y4 ⟨⟨b, rfl, hb⟩, F4⟩
  have F14 := F3.trans F4
  cases b with
  | false =>
    simp (disch := (first | omega | decide | (simp only [rsD] <;> omega) | fail)) only [↓rsC, rsK, rsL, ↓rsAny1_1, tick_eq, tickV_eq, ne_eq, Int.reduceAdd, Int.reduceSub, Int.reduceMul, Int.reduceEq, Int.reduceLT, Int.reduceLE, Int.reduceToNat, Nat.reduceMul, Nat.reduceAdd, Nat.reduceSub, ←decide_not, k3]
    exact ⟨by trivial, X1.trans F14⟩
  | true =>
  have hf := hb rfl
  have hfn := hf.n
  have hfr := hf.r
  by_cases hl : (fr.length : Int) > 40
  · simp (disch := (first | omega | decide | (simp only [rsD] <;> omega) | fail)) only [↓rsC, rsK, rsL, ↓rsAny1_1, tick_eq, tickV_eq, ne_eq, Int.reduceAdd, Int.reduceSub, Int.reduceMul, Int.reduceEq, Int.reduceLT, Int.reduceLE, Int.reduceToNat, Nat.reduceMul, Nat.reduceAdd, Nat.reduceSub, ←decide_not, k3]
    exact ⟨by trivial, X1.trans F14⟩
  have k4 := fun i => (B1.ext F14 (by simp)).cell (i := i)
  simp (disch := (first | omega | decide | (simp only [rsD] <;> omega) | fail)) only [↓rsC, rsK, rsL, ↓rsAny1_1, tick_eq, tickV_eq, ne_eq, Int.reduceAdd, Int.reduceSub, Int.reduceMul, Int.reduceEq, Int.reduceLT, Int.reduceLE, Int.reduceToNat, Nat.reduceMul, Nat.reduceAdd, Nat.reduceSub, ←decide_not, k3, k4]
  refine loamlaw17_Of_call (Yld.mono (Of_spec17 (G.ext0 F14) (by omega) (by omega)) ?_)
  rintro u y5 ⟨F5, na5, nc5, ra5, rc5, rfl, G5⟩
  have F15 := F14.trans F5
  have zk := (B1.ext F15 (by simp)).lt
  have k5 := fun i => (B1.ext F15 (by simp)).cell (i := i)
  simp (disch := (first | omega | decide | (simp only [rsD] <;> omega) | fail)) only [↓rsC, rsK, rsL, ↓rsAny1_1, tick_eq, tickV_eq, ne_eq, Int.reduceAdd, Int.reduceSub, Int.reduceMul, Int.reduceEq, Int.reduceLT, Int.reduceLE, Int.reduceToNat, Nat.reduceMul, Nat.reduceAdd, Nat.reduceSub, ←decide_not, k3, k4, k5]
  have B6 : Blk (y5.alloc (.cells #[.slice na5 ns.length nc5, .slice ra5 rs.length rc5] 32)) y5.heap.size 32 [.slice na5 ns.length nc5, .slice ra5 rs.length rc5] := Blk.at rfl
  have X6 : Ext [] y5 (y5.alloc (.cells #[.slice na5 ns.length nc5, .slice ra5 rs.length rc5] 32)) := Ext.alloc _ _ _
  have G6 := G5.ext0 X6
  generalize y5.alloc (.cells #[.slice na5 ns.length nc5, .slice ra5 rs.length rc5] 32) = y6 at *
  generalize y5.heap.size = g6 at *
  have F16 := F15.trans X6
  refine graph_Check_call (Gives.to (gcheck_spec (G.ext0 F16) hf.h) fun y7 F7 => ?_)
  have k7 := fun i => (B6.ext F7 (by simp)).cell (i := i)
  simp (disch := (first | omega | decide | (simp only [rsD] <;> omega) | fail)) only [↓rsC, rsK, rsL, ↓rsAny1_1, tick_eq, tickV_eq, ne_eq, Int.reduceAdd, Int.reduceSub, Int.reduceMul, Int.reduceEq, Int.reduceLT, Int.reduceLE, Int.reduceToNat, Nat.reduceMul, Nat.reduceAdd, Nat.reduceSub, ←decide_not, k3, k4, k5, k7]
  refine loamref17_Check_call (Gives.to (GCheckX_spec (G6.ext0 F7) hf) fun y8 F8 => ?_)
  have F68 := F7.trans F8
  have F18 := F16.trans F68
  by_cases hc : chkV ns rs = 0
  case neg =>
    simp (disch := (first | omega | decide | (simp only [rsD] <;> omega) | fail)) only [↓rsC, rsK, rsL, ↓rsAny1_1, tick_eq, tickV_eq, ne_eq, Int.reduceAdd, Int.reduceSub, Int.reduceMul, Int.reduceEq, Int.reduceLT, Int.reduceLE, Int.reduceToNat, Nat.reduceMul, Nat.reduceAdd, Nat.reduceSub, ←decide_not, k3, k4, k5, k7, hc]
    exact ⟨by trivial, X1.trans F18⟩
  have hg := chk_zero.1 hc
  have k8 := fun i => (B1.ext F18 (by simp)).cell (i := i)
  simp (disch := (first | omega | decide | (simp only [rsD] <;> omega) | fail)) only [↓rsC, rsK, rsL, ↓rsAny1_1, tick_eq, tickV_eq, ne_eq, Int.reduceAdd, Int.reduceSub, Int.reduceMul, Int.reduceEq, Int.reduceLT, Int.reduceLE, Int.reduceToNat, Nat.reduceMul, Nat.reduceAdd, Nat.reduceSub, ←decide_not, k3, k4, k5, k7, hc, k8]
  refine graph_Reach_call (Yld.mono (Reach_spec (fr := fr) (G.ext0 F18) hf.h (hfr1.ext0 F18) hfn0 (by omega)) ?_)
  rintro u y9 ⟨bs, hbs, N9⟩
  have F19 := F18.trans N9.1
  have F69 := F68.trans N9.1
  obtain ⟨a9, c9, hv9, _, _, _, R9, _⟩ := N9.2.1.slice
  subst hv9
  have k9 := fun i => (B6.ext F69 (by simp)).cell (i := i)
  simp (disch := (first | omega | decide | (simp only [rsD] <;> omega) | fail)) only [↓rsC, rsK, rsL, ↓rsAny1_1, tick_eq, tickV_eq, ne_eq, Int.reduceAdd, Int.reduceSub, Int.reduceMul, Int.reduceEq, Int.reduceLT, Int.reduceLE, Int.reduceToNat, Nat.reduceMul, Nat.reduceAdd, Nat.reduceSub, ←decide_not, k3, k4, k5, k7, hc, k8, k9]
  refine loamref17_Walk_call (Yld.mono (RWalk_spec (G6.ext0 F69) hf.h (fun x hx => (hg.x x hx).1) (hfr1.ext0 F19) (by omega)) ?_)
  rintro u y10 N10
  have F110 := F19.trans N10.1
  have F610 := F69.trans N10.1
  obtain ⟨a10, c10, hv10, _, _, _, R10, _⟩ := N10.2.1.slice
  subst hv10
  have k10 := fun i => (B1.ext F110 (by simp)).cell (i := i)
  simp (disch := (first | omega | decide | (simp only [rsD] <;> omega) | fail)) only [↓rsC, rsK, rsL, ↓rsAny1_1, tick_eq, tickV_eq, ne_eq, Int.reduceAdd, Int.reduceSub, Int.reduceMul, Int.reduceEq, Int.reduceLT, Int.reduceLE, Int.reduceToNat, Nat.reduceMul, Nat.reduceAdd, Nat.reduceSub, ←decide_not, k3, k4, k5, k7, hc, k8, k9, k10]
  have en : ((ns.length : Int)).toNat = ns.length := by omega
  rw [en]
  have Bi : Blk (y10.alloc (.cells (List.replicate ns.length (.bool false)).toArray 4)) y10.heap.size 4 (inB ns.length []) := by rw [inB_nil]; exact Blk.at rfl
  have X11 : Ext [] y10 (y10.alloc (.cells (List.replicate ns.length (.bool false)).toArray 4)) := Ext.alloc _ _ _
  generalize y10.alloc (.cells (List.replicate ns.length (.bool false)).toArray 4) = y11 at *
  have zy10 := F110.size
  have B1lt := B1.lt
  have B6lt := (B6.ext F610 (by simp)).lt
  obtain ⟨gi, hgi⟩ : ∃ g, g = y10.heap.size := ⟨_, rfl⟩
  rw [← hgi] at Bi ⊢
  have hO := ord_ok ns fr
  have hib := inB_bls hbs
  have hbl := hbs.len
  generalize ordV ns fr = l at *
  have F111 := F110.trans X11
  have F611 := F610.trans X11
  have R11 := R10.ext0 X11
  have R9' := R9.ext0 (N10.1.trans X11)
  have z9 := N9.1.size
  have z10 := N10.1.size
  have fresh : ∀ {w' : World}, Ext [gi] y11 w' → Ext [] y10 w' := fun F => X11.new F (fun z hz => by simp only [List.mem_singleton] at hz; omega)
  refine xLoop_n l.length (fun j => [i64 (j : Int)]) (fun j w' => Ext [gi] y11 w' ∧ Blk w' gi 4 (inB ns.length (l.take j))) rfl ⟨Ext.refl _ _, Bi⟩ ?_ ?_
  · rintro j hj u x1 hu ⟨F, B⟩ nxt hnx
    simp only [List.map_cons, List.map_nil, List.cons.injEq, and_true] at hu
    rw [hu]
    obtain ⟨b, o, rfl, hblt, _⟩ := its_at R10 hj
    have hbg : b ≠ gi := by omega
    obtain ⟨_, _, e1, _, c1⟩ := its_at (R10.ext0 (fresh F)) hj
    cases e1
    have hok := hO.ok _ (List.getElem_mem hj)
    have hsu : l.take (j + 1) = l.take j ++ [l[j]] := by
      rw [List.take_add_one, List.getElem?_eq_getElem hj]
      rfl
    have hol := hO.len
    generalize l[j] = p at *
    have ks := B.cell (i := (p - 1).toNat)
    rw [inB_get hok] at ks
    have fs := fun i => B.frozen (i := i)
    have hst := inB_set (out := l.take j) hok
    rw [← hsu] at hst
    unfold okNo at hok
    have hp1 : (p - 1).toNat < ns.length := by omega
    unfold loamlaw17_GraphAny_l1
    simp (disch := (first | omega | decide | (simp only [rsD] <;> omega) | fail)) only [↓rsC, rsK, rsL, ↓rsAny1_1, tick_eq, tickV_eq, ne_eq, Int.reduceAdd, Int.reduceSub, Int.reduceMul, Int.reduceEq, Int.reduceLT, Int.reduceLE, Int.reduceToNat, Nat.reduceMul, Nat.reduceAdd, Nat.reduceSub, ←decide_not, k3, k4, k5, k7, hc, k8, k9, k10, c1, ks, fs]
    have B2 := B.set (i := (p - 1).toNat) (v := .bool true)
    rw [hst] at B2
    exact hnx _ ⟨F.set' (.inl (by simp)), B2⟩
  rintro u x1 hu ⟨F, B⟩ nxt
  simp only [List.map_cons, List.map_nil, List.cons.injEq, and_true] at hu
  rw [hu]
  rw [List.take_length, hib] at B
  have Fx := fresh F
  have hbl' : (bs.length : Int) = (ns.length : Int) := by omega
  unfold loamlaw17_GraphAny_l1
  simp (disch := (first | omega | decide | (simp only [rsD] <;> omega) | fail)) only [↓rsC, rsK, rsL, ↓rsAny1_1, tick_eq, tickV_eq, ne_eq, Int.reduceAdd, Int.reduceSub, Int.reduceMul, Int.reduceEq, Int.reduceLT, Int.reduceLE, Int.reduceToNat, Nat.reduceMul, Nat.reduceAdd, Nat.reduceSub, ←decide_not, k3, k4, k5, k7, hc, k8, k9, k10]
  have R9x := R9.ext0 (N10.1.trans Fx)
  have hbls : (bls bs).length = bs.length := by simp [bls]
  refine xLoop_n ns.length (fun j => [i64 (j : Int)]) (fun j w' => Ext [] x1 w') rfl (Ext.refl _ _) ?_ ?_
  · rintro j hj u x2 hu F2 nxt2 hnx
    simp only [List.map_cons, List.map_nil, List.cons.injEq, and_true] at hu
    rw [hu]
    have Fd := F2.trans (Ext.drew [] x2)
    obtain ⟨b, o, rfl, _, c1⟩ := (R9x.ext0 Fd).at (i := j) (by omega)
    have kb := (B.ext Fd (by simp)).cell (i := j)
    rw [List.getElem?_eq_getElem (by omega)] at kb
    have e1 : (bls bs)[j]'(by omega) = .bool (bs[j]'(by omega)) := by simp [bls]
    rw [e1] at c1 kb
    have hjb : (j : Int) < (bs.length : Int) := by omega
    unfold loamlaw17_GraphAny_l2
    cases hbj : bs[j]'(by omega) with
    | true =>
      rw [hbj] at c1 kb
      simp (disch := (first | omega | decide | (simp only [rsD] <;> omega) | fail)) only [↓rsC, rsK, rsL, ↓rsAny1_1, tick_eq, tickV_eq, ne_eq, Int.reduceAdd, Int.reduceSub, Int.reduceMul, Int.reduceEq, Int.reduceLT, Int.reduceLE, Int.reduceToNat, Nat.reduceMul, Nat.reduceAdd, Nat.reduceSub, ←decide_not, k3, k4, k5, k7, hc, k8, k9, k10, c1, kb]
      exact hnx _ Fd
    | false =>
      rw [hbj] at c1 kb
      simp (disch := (first | omega | decide | (simp only [rsD] <;> omega) | fail)) only [↓rsC, rsK, rsL, ↓rsAny1_1, tick_eq, tickV_eq, ne_eq, Int.reduceAdd, Int.reduceSub, Int.reduceMul, Int.reduceEq, Int.reduceLT, Int.reduceLE, Int.reduceToNat, Nat.reduceMul, Nat.reduceAdd, Nat.reduceSub, ←decide_not, k3, k4, k5, k7, hc, k8, k9, k10, c1, kb]
      exact hnx _ Fd
  rintro u y12 hu F2 nxt2
  simp only [List.map_cons, List.map_nil, List.cons.injEq, and_true] at hu
  rw [hu]
  have F112 := F110.trans (Fx.trans F2)
  have F612 := F610.trans (Fx.trans F2)
  have k12 := fun i => (B1.ext F112 (by simp)).cell (i := i)
  unfold loamlaw17_GraphAny_l2
  simp (disch := (first | omega | decide | (simp only [rsD] <;> omega) | fail)) only [↓rsC, rsK, rsL, ↓rsAny1_1, tick_eq, tickV_eq, ne_eq, Int.reduceAdd, Int.reduceSub, Int.reduceMul, Int.reduceEq, Int.reduceLT, Int.reduceLE, Int.reduceToNat, Nat.reduceMul, Nat.reduceAdd, Nat.reduceSub, ←decide_not, k3, k4, k5, k7, hc, k8, k9, k10, k12]
  refine graph_Trim_call (Yld.mono (Trim_spec (keep := fr) (G.ext0 F112) hf.h (hfr1.ext0 F112) hfc hfn0 (by omega)) ?_)
  rintro u y13 ⟨F13, bs3, na', nc', ra', rc', ns', v7, hbs3, hns3, rfl, G13, av, cv, rfl, hcv, Rv⟩
  have zb13 := (B6.ext (F612.trans F13) (by simp)).lt
  have zb131 := (B1.ext (F112.trans F13) (by simp)).lt
  have k13 := fun i => (B6.ext (F612.trans F13) (by simp)).cell (i := i)
  simp (disch := (first | omega | decide | (simp only [rsD] <;> omega) | fail)) only [↓rsC, rsK, rsL, ↓rsAny1_1, tick_eq, tickV_eq, ne_eq, Int.reduceAdd, Int.reduceSub, Int.reduceMul, Int.reduceEq, Int.reduceLT, Int.reduceLE, Int.reduceToNat, Nat.reduceMul, Nat.reduceAdd, Nat.reduceSub, ←decide_not, k3, k4, k5, k7, hc, k8, k9, k10, k12, k13]
  have B14 : Blk (y13.alloc (.cells #[.slice na' ns'.length nc', .slice ra' (trRs rs bs3).length rc'] 25)) y13.heap.size 25 [.slice na' ns'.length nc', .slice ra' (trRs rs bs3).length rc'] := Blk.at rfl
  have X14 : Ext [] y13 (y13.alloc (.cells #[.slice na' ns'.length nc', .slice ra' (trRs rs bs3).length rc'] 25)) := Ext.alloc _ _ _
  generalize y13.alloc (.cells #[.slice na' ns'.length nc', .slice ra' (trRs rs bs3).length rc'] 25) = y14 at *
  generalize y13.heap.size = g14 at *
  have F1314 := F13.trans X14
  refine loamref17_Trim_call (Yld.mono (RTrim_spec (keep := fr) (G6.ext0 (F612.trans F1314)) hf.h hg (hfr1.ext0 (F112.trans F1314)) hfc hfn0 (by omega)) ?_)
  rintro u y15 ⟨F15, bs4, na2, nc2, ra2, rc2, ns2, gt, hbs4, hns4, rfl, G15, Rt⟩
  obtain rfl := hbs3.uniq hbs4
  have hbl3 := hbs3.len
  have zb14 := (B14.ext F15 (by simp)).lt
  have k14 := fun i => (B14.ext F15 (by simp)).cell (i := i)
  simp (disch := (first | omega | decide | (simp only [rsD] <;> omega) | fail)) only [↓rsC, rsK, rsL, ↓rsAny1_1, tick_eq, tickV_eq, ne_eq, Int.reduceAdd, Int.reduceSub, Int.reduceMul, Int.reduceEq, Int.reduceLT, Int.reduceLE, Int.reduceToNat, Nat.reduceMul, Nat.reduceAdd, Nat.reduceSub, ←decide_not, k3, k4, k5, k7, hc, k8, k9, k10, k12, k13, k14]
  have B16 : Blk (y15.alloc (.cells #[.slice na2 ns2.length nc2, .slice ra2 (trRs rs bs3).length rc2] 32)) y15.heap.size 32 [.slice na2 ns2.length nc2, .slice ra2 (trRs rs bs3).length rc2] := Blk.at rfl
  have X16 : Ext [] y15 (y15.alloc (.cells #[.slice na2 ns2.length nc2, .slice ra2 (trRs rs bs3).length rc2] 32)) := Ext.alloc _ _ _
  have B17 := B16.ext (Ext.drew [] _) (by simp)
  have X17 := X16.trans (Ext.drew [] _)
  generalize (y15.alloc (.cells #[.slice na2 ns2.length nc2, .slice ra2 (trRs rs bs3).length rc2] 32)).drew = y17 at *
  generalize y15.heap.size = g16 at *
  have hf3 := trim_few hbs3 hf.h hns3
  have hf4 := trim_few hbs3 hf.h hns4
  have hn3 := hf3.n
  have hr3 := hf3.r
  refine loamlaw17_Of_call (Yld.mono (Of_spec17 (G13.ext0 (X14.trans (F15.trans X17))) (by omega) (by omega)) ?_)
  rintro u y18 ⟨F18', na8, nc8, ra8, rc8, rfl, G18⟩
  have k18 := fun i => (B17.ext F18' (by simp)).cell (i := i)
  simp (disch := (first | omega | decide | (simp only [rsD] <;> omega) | fail)) only [↓rsC, rsK, rsL, ↓rsAny1_1, tick_eq, tickV_eq, ne_eq, Int.reduceAdd, Int.reduceSub, Int.reduceMul, Int.reduceEq, Int.reduceLT, Int.reduceLE, Int.reduceToNat, Nat.reduceMul, Nat.reduceAdd, Nat.reduceSub, ←decide_not, k3, k4, k5, k7, hc, k8, k9, k10, k12, k13, k14, k18]
  refine loamref17_Equal_call (Yld.mono (REqual_spec G18 (G15.ext0 (X17.trans F18')) hf3 hf4) ?_)
  rintro u y19 hu
  obtain ⟨rfl, F19'⟩ := boolTrue hu ⟨hns3.trans hns4.symm, rfl⟩
  simp (disch := (first | omega | decide | (simp only [rsD] <;> omega) | fail)) only [↓rsC, rsK, rsL, ↓rsAny1_1, tick_eq, tickV_eq, ne_eq, Int.reduceAdd, Int.reduceSub, Int.reduceMul, Int.reduceEq, Int.reduceLT, Int.reduceLE, Int.reduceToNat, Nat.reduceMul, Nat.reduceAdd, Nat.reduceSub, ←decide_not, k3, k4, k5, k7, hc, k8, k9, k10, k12, k13, k14, k18]
  have hnl : (noL bs3).length = ns.length := by simp [noL]; omega
  have F1519 := X17.trans (F18'.trans F19')
  have hI := intsZ_spec (c := cv) (c' := ns.length) (Rv.ext0 (X14.trans (F15.trans F1519))) (Rt.ext0 F1519) (by omega)
  rw [hnl] at hI
  refine loamlaw15_Ints_call (Gives.to hI fun y20 F20 => ?_)
  have F1220 := F1314.trans (F15.trans (F1519.trans F20))
  have F120 := F112.trans F1220
  have F620 := F612.trans F1220
  have k20 := fun i => (B1.ext F120 (by simp)).cell (i := i)
  have k206 := fun i => (B6.ext F620 (by simp)).cell (i := i)
  simp (disch := (first | omega | decide | (simp only [rsD] <;> omega) | fail)) only [↓rsC, rsK, rsL, ↓rsAny1_1, tick_eq, tickV_eq, ne_eq, Int.reduceAdd, Int.reduceSub, Int.reduceMul, Int.reduceEq, Int.reduceLT, Int.reduceLE, Int.reduceToNat, Nat.reduceMul, Nat.reduceAdd, Nat.reduceSub, ←decide_not, k3, k4, k5, k7, hc, k8, k9, k10, k12, k13, k14, k18, k20, k206]
  refine graph_Words_call (Gives.to (gwords_spec (G.ext0 F120) hf.h hg) fun y21 F21 => ?_)
  have k21 := fun i => (B6.ext (F620.trans F21) (by simp)).cell (i := i)
  simp (disch := (first | omega | decide | (simp only [rsD] <;> omega) | fail)) only [↓rsC, rsK, rsL, ↓rsAny1_1, tick_eq, tickV_eq, ne_eq, Int.reduceAdd, Int.reduceSub, Int.reduceMul, Int.reduceEq, Int.reduceLT, Int.reduceLE, Int.reduceToNat, Nat.reduceMul, Nat.reduceAdd, Nat.reduceSub, ←decide_not, k3, k4, k5, k7, hc, k8, k9, k10, k12, k13, k14, k18, k20, k206, k21]
  refine loamref17_Words_call (Gives.to (GWords_spec (G6.ext0 (F620.trans F21)) hf hg) fun y22 F22 => ?_)
  have F122 := F120.trans (F21.trans F22)
  have F622 := F620.trans (F21.trans F22)
  have k22 := fun i => (B1.ext F122 (by simp)).cell (i := i)
  have k226 := fun i => (B6.ext F622 (by simp)).cell (i := i)
  simp (disch := (first | omega | decide | (simp only [rsD] <;> omega) | fail)) only [↓rsC, rsK, rsL, ↓rsAny1_1, tick_eq, tickV_eq, ne_eq, Int.reduceAdd, Int.reduceSub, Int.reduceMul, Int.reduceEq, Int.reduceLT, Int.reduceLE, Int.reduceToNat, Nat.reduceMul, Nat.reduceAdd, Nat.reduceSub, ←decide_not, k3, k4, k5, k7, hc, k8, k9, k10, k12, k13, k14, k18, k20, k206, k21, k22, k226]
  refine graph_Named_call (Yld.mono (Named_spec (G.ext0 F122) (by omega)) ?_)
  rintro u y23 ⟨F23, a23, rfl, R23, _⟩
  have k23 := fun i => (B6.ext (F622.trans F23) (by simp)).cell (i := i)
  simp (disch := (first | omega | decide | (simp only [rsD] <;> omega) | fail)) only [↓rsC, rsK, rsL, ↓rsAny1_1, tick_eq, tickV_eq, ne_eq, Int.reduceAdd, Int.reduceSub, Int.reduceMul, Int.reduceEq, Int.reduceLT, Int.reduceLE, Int.reduceToNat, Nat.reduceMul, Nat.reduceAdd, Nat.reduceSub, ←decide_not, k3, k4, k5, k7, hc, k8, k9, k10, k12, k13, k14, k18, k20, k206, k21, k22, k226, k23]
  refine loamref17_Named_call (Yld.mono (RNamed_spec (G6.ext0 (F622.trans F23)) (by omega)) ?_)
  rintro u y24 N24
  obtain ⟨a24, c24, hv24, _, _, _, R24, _⟩ := N24.2.1.slice
  subst hv24
  simp (disch := (first | omega | decide | (simp only [rsD] <;> omega) | fail)) only [↓rsC, rsK, rsL, ↓rsAny1_1, tick_eq, tickV_eq, ne_eq, Int.reduceAdd, Int.reduceSub, Int.reduceMul, Int.reduceEq, Int.reduceLT, Int.reduceLE, Int.reduceToNat, Nat.reduceMul, Nat.reduceAdd, Nat.reduceSub, ←decide_not, k3, k4, k5, k7, hc, k8, k9, k10, k12, k13, k14, k18, k20, k206, k21, k22, k226, k23]
  have htl : (tosL rs).length = rs.length := by simp
  have hI2 := intsZ_spec (c := rs.length) (c' := c24) (R23.ext0 N24.1) R24 (by omega)
  rw [htl] at hI2
  try rw [htl]
  refine loamlaw15_Ints_call (Gives.to hI2 fun y25 F25 => ?_)
  simp (disch := (first | omega | decide | (simp only [rsD] <;> omega) | fail)) only [↓rsC, rsK, rsL, ↓rsAny1_1, tick_eq, tickV_eq, ne_eq, Int.reduceAdd, Int.reduceSub, Int.reduceMul, Int.reduceEq, Int.reduceLT, Int.reduceLE, Int.reduceToNat, Nat.reduceMul, Nat.reduceAdd, Nat.reduceSub, ←decide_not, k3, k4, k5, k7, hc, k8, k9, k10, k12, k13, k14, k18, k20, k206, k21, k22, k226, k23]
  exact ⟨by trivial, X1.trans (F122.trans (F23.trans (N24.1.trans F25)))⟩
theorem GraphAny_spec (a : GP) (fr : List Int) (f : Option Addr) (n c : Nat) (w : World) (h : GIs w a.na a.nc a.ra a.rc a.ns a.rs) (hi : IntsA w fr f n c) : Gives Try.prog n_loamlaw17_GraphAny #[gPV a, .slice f n c] w (.bool true) := by
  obtain ⟨na, nc, ra, rc, ns, rs⟩ := a
  obtain ⟨rfl, h1, h2, h3⟩ := hi
  exact GraphAny_walk na ra nc rc ns rs fr f c w h h1 h2 h3
end Go.Proofs.Ythhcmoknppljpaa
end
