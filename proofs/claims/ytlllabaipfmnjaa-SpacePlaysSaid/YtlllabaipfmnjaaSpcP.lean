/- Any objects in any part of any words, walked (sq). -/
import Derived.Test.YtlllabaipfmnjaaSpcK
set_option linter.unusedVariables false
set_option linter.unusedSimpArgs false
set_option maxHeartbeats 4000000
namespace Go.Proofs.Ytlllabaipfmnjaa
open Go.Sh Go.RowKit Go.ChangeShapes Go.WideShapes Go.ChangeAt

structure HH where
  p : Int
  b : Int
  m : Bool
  t : Int
abbrev hhC (x : HH) : List Value := [i64 x.p, i64 x.b, .bool x.m, i64 x.t]
theorem list4 {α : Type} {l : List α} (h : l.length = 4) : ∃ a b c d, l = [a, b, c, d] := by
  match l, h with
  | [a, b, c, d], _ => exact ⟨a, b, c, d, rfl⟩
theorem hh_cells {W : World} {cs : List Value} (hl : cs.length = 4) (hc : ∀ (i : Nat) (d : Leaf) (c : Value), [Leaf.int .i64, .int .i64, .bool, .int .i64][i]? = some d → cs[i]? = some c → leafOk W d c) :
    ∃ x : HH, cs = hhC x := by
  obtain ⟨c0, c1, c2, c3, rfl⟩ := list4 hl
  obtain ⟨z0, rfl, _⟩ := hc 0 _ _ rfl rfl
  obtain ⟨z1, rfl, _⟩ := hc 1 _ _ rfl rfl
  obtain ⟨z2, rfl⟩ := hc 2 _ _ rfl rfl
  obtain ⟨z3, rfl, _⟩ := hc 3 _ _ rfl rfl
  exact ⟨⟨z0, z1, z2, z3⟩, rfl⟩
structure HeadsArg (w : World) (l : List HH) (a : Option Addr) (n c : Nat) : Prop where
  len : n = l.length
  row : RowAt w a (l.flatMap hhC)
set_option maxRecDepth 100000 in
theorem heads_open {H : Type} {enc : TypeId × Value → H} {W : World} {base : Nat} {v : Value} {d : DataW H} {p : List MemPlace} (hv : Value.okWide Try.prog W .any base 101 v) (h : DataW.Trod enc Try.prog W 0 (fun _ => true) true 101 v d p) :
    ∃ a n c l, v = .slice a n c ∧ HeadsArg W l a n c := by
  obtain ⟨a, n, c, C, rfl, hn, _, hnil, hall, hR⟩ := open_rows (F := 4) (l := [.int .i64, .int .i64, .bool, .int .i64]) Try.underlying101 (by kernel_rfl) (by decide) (by kernel_rfl) hv h
  have each : ∀ i, ∃ x : HH, i < n → C i = hhC x := fun i => by
    by_cases hi : i < n
    · obtain ⟨x, h1⟩ := hh_cells (hall i hi).1 (hall i hi).2
      exact ⟨x, fun _ => h1⟩
    · exact ⟨⟨0, 0, false, 0⟩, fun h => absurd h hi⟩
  have hX : ∃ X : Nat → HH, ∀ i, i < n → C i = hhC (X i) := ⟨fun i => Classical.choose (each i), fun i => Classical.choose_spec (each i)⟩
  obtain ⟨X, hX⟩ := hX
  refine ⟨a, n, c, (List.range n).map X, rfl, by simp, ?_⟩
  rw [flat_map (f := hhC) (X := X) fun i hi => hX i hi] at hR
  exact hR
theorem hh_len (l : List HH) : (l.flatMap hhC).length = l.length * 4 := by
  induction l with
  | nil => rfl
  | cons x l ih => rw [List.flatMap_cons, List.length_append, ih, List.length_cons]; simp [hhC]; omega
theorem hh_cell : ∀ (l : List HH) (k : Nat) (h : k < l.length) (j : Nat), j < 4 → (l.flatMap hhC)[k * 4 + j]? = (hhC l[k])[j]? := by
  intro l
  induction l with
  | nil => intro k h; simp at h
  | cons x l ih =>
    intro k h j hj
    rw [List.flatMap_cons]
    cases k with
    | zero => rw [List.getElem?_append_left (by simp [hhC]; omega)]; simp
    | succ k =>
      rw [List.getElem?_append_right (by simp [hhC]; omega), show (k + 1) * 4 + j - (hhC x).length = k * 4 + j by simp [hhC]; omega]
      simpa using ih k (by simpa using h) j hj
theorem hh_at {w : World} {l : List HH} {a : Option Addr} {k : Nat} (h : RowAt w a (l.flatMap hhC)) (hk : k < l.length) :
    ∃ b o, a = some ⟨b, o, none⟩ ∧ b < w.heap.size ∧ w.cell? ⟨b, o + k * 4, none⟩ = some (i64 l[k].p) ∧ w.cell? ⟨b, o + k * 4 + 1, none⟩ = some (i64 l[k].b) ∧ w.cell? ⟨b, o + k * 4 + 2, none⟩ = some (.bool l[k].m) ∧ w.cell? ⟨b, o + k * 4 + 3, none⟩ = some (i64 l[k].t) := by
  obtain ⟨b, o, rfl, hb, hc⟩ := h.get (by intro e; have := congrArg List.length e; rw [hh_len] at this; simp only [List.length_nil] at this; omega)
  refine ⟨b, o, rfl, hb, ?_, ?_, ?_, ?_⟩
  · have := hc (k * 4 + 0) _ ((hh_cell l k hk 0 (by omega)).trans rfl); simpa using this
  · have := hc (k * 4 + 1) _ ((hh_cell l k hk 1 (by omega)).trans rfl); rw [Nat.add_assoc]; exact this
  · have := hc (k * 4 + 2) _ ((hh_cell l k hk 2 (by omega)).trans rfl); rw [Nat.add_assoc]; exact this
  · have := hc (k * 4 + 3) _ ((hh_cell l k hk 3 (by omega)).trans rfl); rw [Nat.add_assoc]; exact this
/-- the program's space and the document's, apart -/
structure Both (w : World) (base s g : Nat) (a : Option Addr) (c m : Nat) (r : Option Addr) (cr : Nat) (ws : List (BitVec 64)) (b t e : Nat) : Prop where
  sp : SpIs w base s g a c ws b t e
  rf : RfIs w m r cr ws b t e
  sm : s ≠ m
  mg : m ≠ g
  ma : ws ≠ [] → m ∉ blkOf a
  sr : ws ≠ [] → s ∉ blkOf r
  gr : ws ≠ [] → g ∉ blkOf r
  ar : ws ≠ [] → ∀ x ∈ blkOf a, x ∉ blkOf r
  obj : ∃ l, Objs ws t b l
theorem Both.ext0 {w w' : World} {base s g m : Nat} {a r : Option Addr} {c cr : Nat} {ws : List (BitVec 64)} {b t e : Nat} (h : Both w base s g a c m r cr ws b t e) (hx : Ext [] w w') : Both w' base s g a c m r cr ws b t e :=
  ⟨h.sp.ext0 hx, h.rf.ext0 hx, h.sm, h.mg, h.ma, h.sr, h.gr, h.ar, h.obj⟩
def PlayI (w0 : World) (base s g : Nat) (a : Option Addr) (c m : Nat) (b e n : Nat) (w : World) : Prop :=
  ∃ r cr ws t, ws.length = n ∧ Both w base s g a c m r cr ws b t e ∧ Ext [] w0 w
abbrev rsSpcP_0 := (And.intro @xBox_r (And.intro @loadK_some (And.intro @loadsK_s (And.intro @loadsK_n (And.intro @loadsR_s (And.intro @loadsR_n (And.intro @storesK_s (And.intro @storesK_n (And.intro @xPick_t (And.intro @xPick_f (And.intro @xGuard_tt (And.intro @xGuard_ff (And.intro @xGuard_tf (And.intro @xGuard_ft (And.intro @xGuard_u 
  (And.intro @xNil_r (And.intro @xIf_t (And.intro @xBin_add' (And.intro @xBin_sub' (And.intro @xBin_mul' (And.intro @xBin_quo' (And.intro @xBin_rem' (And.intro @xIf_f (And.intro @xIf_tt (And.intro @xEx0 (And.intro @xEx1 (And.intro @xEx2 (And.intro @xEx3 (And.intro @xBin_eqs (And.intro @xBin_nes (And.intro @xUn_not (And.intro @xu8_add (And.intro @xu8_sub 
  (And.intro @xu8_com (And.intro @xu8_neq (And.intro @xu8_lss (And.intro @xu16_add (And.intro @xu16_sub (And.intro @xu16_com (And.intro @xu16_neq (And.intro @xu16_lss (And.intro @xu32_add (And.intro @xu32_sub (And.intro @xu32_com (And.intro @xu32_neq (And.intro @xu32_lss (And.intro @xu64_add (And.intro @xu64_sub (And.intro @xu64_com (And.intro @xu64_neq 
  (And.intro @xu64_lss (And.intro @xi64_lss (And.intro @xi64_neq (And.intro @xi64_neg (And.intro @xMakeFunc_r (And.intro @xSq_r (And.intro @xPur_s (And.intro @xRd_s (And.intro @xRe_s (And.intro @xDet_s (And.intro @xDet_ld (And.intro @xDet_ld2 (And.intro @xDet_ld3 (And.intro @xDet_ld4 (And.intro @xGuard_tt (And.intro @ld_80 (And.intro @ia_101 @ln_101)))))))))))))))))))))))))))))))))))))))))))))))))))))))))))))))))))
abbrev rsSpcP_1 := (And.intro @setCells_c (And.intro @setCells_n (And.intro @World.setCell_alloc_at (And.intro @World.setCell_alloc_past (And.intro @World.cell?_alloc_at (And.intro @World.cell?_alloc_past (And.intro @World.frozen?_alloc_at (And.intro @World.frozen?_alloc_past 
  (And.intro @World.size_alloc (And.intro @dlt_t (And.intro @dlt_f (And.intro @dle_t (And.intro @dle_f (And.intro @deq_t (And.intro @deq_f (And.intro @dne_t (And.intro @dne_f (And.intro @not_true_eq_false (And.intro @Bool.false_and (And.intro @Bool.true_and (And.intro @Bool.and_true (And.intro @Bool.and_false (And.intro @wrap_in (And.intro @Int.toNat_natCast 
  (And.intro @Nat.mul_one (And.intro @cells_int (And.intro @cells_bool (And.intro @cells_string (And.intro @cells_slice (And.intro @cells_pointer (And.intro @cells_agg (And.intro @one_int (And.intro @one_bool (And.intro @one_string (And.intro @one_slice (And.intro @one_pointer (And.intro @beq_tt (And.intro @beq_ff (And.intro @beq_tf 
  (And.intro @beq_ft (And.intro @cell_sets_b (And.intro @frozen_sets (And.intro @size_sets (And.intro @World.size_drew (And.intro @Nat.zero_add (And.intro @Nat.add_zero (And.intro @cell_drew (And.intro @frozen_drew (And.intro @cell_set_eq (And.intro @cell_set_o (And.intro @cell_set_b (And.intro @World.frozen?_setCell 
  (And.intro @decide_true (And.intro @decide_false (And.intro @not_false_eq_true (And.intro @Bool.not_true @Bool.not_false))))))))))))))))))))))))))))))))))))))))))))))))))))))))
theorem play_step {w0 v1 : World} {base s g m : Nat} {a : Option Addr} {c b e n j : Nat} {hs : List HH} {ah : Option Addr} {nh ch : Nat} (hH : HeadsArg w0 hs ah nh ch) (hj : j < hs.length) (hl : hs.length ≤ 60)
    (us : w0.heap.size ≤ s) (um : w0.heap.size ≤ m) (ub : w0.heap.size ≤ base) (hI : PlayI w0 base s g a c m b e n v1) {K : K1} {nxt : List Value → World → Prop}
    (hnx : ∀ w', PlayI w0 base s g a c m b e n w' → nxt [i64 ((j + 1 : Nat) : Int)] w') : loamlaw15_SpacePlays_l1 K nxt (i64 (b : Int)) (i64 (e : Int)) (.slice ah nh ch) (ptr s) (ptr m) (i64 (j : Int)) v1 := by
  obtain ⟨r, cr, ws, t, hwl, Bo, X⟩ := hI
  have hnh := hH.len
  subst hnh
  have e2 : ((j : Int) + 1) = ((j + 1 : Nat) : Int) := by omega
  obtain ⟨lo, hlo⟩ := Bo.obj
  have q1 := Bo.sp.bt
  have q2 := Bo.sp.te
  have q3 := Bo.sp.el
  have q4 := Bo.sp.mem.len
  have zs := Bo.sp.blk.lt
  have zg := Bo.sp.mem.lt
  have zm := Bo.rf.blk.lt
  obtain ⟨bh, oh, he, zh, k0, k1, k2, k3⟩ := hh_at (hH.row.ext0 X) hj
  unfold loamlaw15_SpacePlays_l1
  simp (disch := (first | omega | decide | (simp only [World.size_alloc, World.size_setCell, World.size_drew, size_sets, List.mem_cons, List.not_mem_nil, or_false, not_false_eq_true] <;> omega) | fail)) only [↓rsSpcP_0, rsSpcP_1, Option.isNone_some, Option.isNone_none, tick_eq, tickV_eq, ne_eq, Int.reduceAdd, Int.reduceSub, Int.reduceMul, Int.reduceEq, Int.reduceLT, Int.reduceLE, Int.reduceToNat, Nat.reduceMul, Nat.reduceAdd, Nat.reduceSub, List.nil_append, List.cons_append, List.getElem?_toArray, List.getElem?_cons_zero, List.getElem?_cons_succ, List.setIfInBounds_toArray, List.set_cons_zero, List.set_cons_succ, Option.map_some, List.not_mem_nil, ←decide_not, he, k0, k1, k2, k3]
  by_cases hr : rightP hs[j].p hs[j].b hs[j].m hs[j].t ∧ hs[j].m = false
  rotate_left
  · refine space_Space_Alloc_call (Gives.to (SAlloc_arg hr) fun w2 F2 => ?_)
    obtain ⟨bh2, oh2, he2, zh2, k02, k12, k22, k32⟩ := hh_at (hH.row.ext0 (X.trans F2)) hj
    rw [he] at he2
    simp only [Option.some.injEq, Addr.mk.injEq, and_true] at he2
    obtain ⟨rfl, rfl⟩ := he2
    simp (disch := (first | omega | decide | (simp only [World.size_alloc, World.size_setCell, World.size_drew, size_sets, List.mem_cons, List.not_mem_nil, or_false, not_false_eq_true] <;> omega) | fail)) only [↓rsSpcP_0, rsSpcP_1, Option.isNone_some, Option.isNone_none, tick_eq, tickV_eq, ne_eq, Int.reduceAdd, Int.reduceSub, Int.reduceMul, Int.reduceEq, Int.reduceLT, Int.reduceLE, Int.reduceToNat, Nat.reduceMul, Nat.reduceAdd, Nat.reduceSub, List.nil_append, List.cons_append, List.getElem?_toArray, List.getElem?_cons_zero, List.getElem?_cons_succ, List.setIfInBounds_toArray, List.set_cons_zero, List.set_cons_succ, Option.map_some, List.not_mem_nil, ←decide_not, he, k0, k1, k2, k3, k02, k12, k22, k32]
    refine loamlaw14_Of_call (Gives.to (Of14_spec _ _ _ _ _) fun w3 F3 => ?_)
    simp (disch := (first | omega | decide | (simp only [World.size_alloc, World.size_setCell, World.size_drew, size_sets, List.mem_cons, List.not_mem_nil, or_false, not_false_eq_true] <;> omega) | fail)) only [↓rsSpcP_0, rsSpcP_1, Option.isNone_some, Option.isNone_none, tick_eq, tickV_eq, ne_eq, Int.reduceAdd, Int.reduceSub, Int.reduceMul, Int.reduceEq, Int.reduceLT, Int.reduceLE, Int.reduceToNat, Nat.reduceMul, Nat.reduceAdd, Nat.reduceSub, List.nil_append, List.cons_append, List.getElem?_toArray, List.getElem?_cons_zero, List.getElem?_cons_succ, List.setIfInBounds_toArray, List.set_cons_zero, List.set_cons_succ, Option.map_some, List.not_mem_nil, ←decide_not, he, k0, k1, k2, k3, k02, k12, k22, k32]
    refine loamref14_Space_Alloc_call (Gives.to (rAlloc_arg hr) fun w4 F4 => ?_)
    simp (disch := (first | omega | decide | (simp only [World.size_alloc, World.size_setCell, World.size_drew, size_sets, List.mem_cons, List.not_mem_nil, or_false, not_false_eq_true] <;> omega) | fail)) only [↓rsSpcP_0, rsSpcP_1, Option.isNone_some, Option.isNone_none, tick_eq, tickV_eq, ne_eq, Int.reduceAdd, Int.reduceSub, Int.reduceMul, Int.reduceEq, Int.reduceLT, Int.reduceLE, Int.reduceToNat, Nat.reduceMul, Nat.reduceAdd, Nat.reduceSub, List.nil_append, List.cons_append, List.getElem?_toArray, List.getElem?_cons_zero, List.getElem?_cons_succ, List.setIfInBounds_toArray, List.set_cons_zero, List.set_cons_succ, Option.map_some, List.not_mem_nil, ←decide_not, he, k0, k1, k2, k3, k02, k12, k22, k32]
    have Bo4 := Bo.ext0 (F2.trans (F3.trans F4))
    refine loamlaw15_Same_call (Gives.to (Same_spec Bo4.sp Bo4.rf) fun w5 F5 => ?_)
    simp (disch := (first | omega | decide | (simp only [World.size_alloc, World.size_setCell, World.size_drew, size_sets, List.mem_cons, List.not_mem_nil, or_false, not_false_eq_true] <;> omega) | fail)) only [↓rsSpcP_0, rsSpcP_1, Option.isNone_some, Option.isNone_none, tick_eq, tickV_eq, ne_eq, Int.reduceAdd, Int.reduceSub, Int.reduceMul, Int.reduceEq, Int.reduceLT, Int.reduceLE, Int.reduceToNat, Nat.reduceMul, Nat.reduceAdd, Nat.reduceSub, List.nil_append, List.cons_append, List.getElem?_toArray, List.getElem?_cons_zero, List.getElem?_cons_succ, List.setIfInBounds_toArray, List.set_cons_zero, List.set_cons_succ, Option.map_some, List.not_mem_nil, ←decide_not, he, k0, k1, k2, k3, k02, k12, k22, k32]
    rw [e2]
    exact hnx _ ⟨r, cr, ws, t, hwl, Bo4.ext0 F5, X.trans (F2.trans (F3.trans (F4.trans F5)))⟩
  · obtain ⟨hr, hm⟩ := hr
    rw [hm] at hr
    have ht := (right_f.1 hr).1
    rw [ht] at hr
    rw [hm, ht]
    rw [hm] at k2
    rw [ht] at k3
    by_cases hf : t + szW (packW hs[j].p hs[j].b false 0) ≤ e
    rotate_left
    · refine space_Space_Alloc_call (Gives.to (SAlloc_full Bo.sp hr (by omega)) fun w2 F2 => ?_)
      obtain ⟨bh2, oh2, he2, zh2, k02, k12, k22, k32⟩ := hh_at (hH.row.ext0 (X.trans F2)) hj
      rw [he] at he2
      simp only [Option.some.injEq, Addr.mk.injEq, and_true] at he2
      obtain ⟨rfl, rfl⟩ := he2
      rw [hm] at k22
      rw [ht] at k32
      simp (disch := (first | omega | decide | (simp only [World.size_alloc, World.size_setCell, World.size_drew, size_sets, List.mem_cons, List.not_mem_nil, or_false, not_false_eq_true] <;> omega) | fail)) only [↓rsSpcP_0, rsSpcP_1, Option.isNone_some, Option.isNone_none, tick_eq, tickV_eq, ne_eq, Int.reduceAdd, Int.reduceSub, Int.reduceMul, Int.reduceEq, Int.reduceLT, Int.reduceLE, Int.reduceToNat, Nat.reduceMul, Nat.reduceAdd, Nat.reduceSub, List.nil_append, List.cons_append, List.getElem?_toArray, List.getElem?_cons_zero, List.getElem?_cons_succ, List.setIfInBounds_toArray, List.set_cons_zero, List.set_cons_succ, Option.map_some, List.not_mem_nil, ←decide_not, he, k0, k1, k2, k3, k02, k12, k22, k32]
      refine loamlaw14_Of_call (Gives.to (Of14_spec _ _ _ _ _) fun w3 F3 => ?_)
      simp (disch := (first | omega | decide | (simp only [World.size_alloc, World.size_setCell, World.size_drew, size_sets, List.mem_cons, List.not_mem_nil, or_false, not_false_eq_true] <;> omega) | fail)) only [↓rsSpcP_0, rsSpcP_1, Option.isNone_some, Option.isNone_none, tick_eq, tickV_eq, ne_eq, Int.reduceAdd, Int.reduceSub, Int.reduceMul, Int.reduceEq, Int.reduceLT, Int.reduceLE, Int.reduceToNat, Nat.reduceMul, Nat.reduceAdd, Nat.reduceSub, List.nil_append, List.cons_append, List.getElem?_toArray, List.getElem?_cons_zero, List.getElem?_cons_succ, List.setIfInBounds_toArray, List.set_cons_zero, List.set_cons_succ, Option.map_some, List.not_mem_nil, ←decide_not, he, k0, k1, k2, k3, k02, k12, k22, k32]
      refine loamref14_Space_Alloc_call (Gives.to (rAlloc_full (Bo.rf.ext0 (F2.trans F3)) hr (by omega)) fun w4 F4 => ?_)
      simp (disch := (first | omega | decide | (simp only [World.size_alloc, World.size_setCell, World.size_drew, size_sets, List.mem_cons, List.not_mem_nil, or_false, not_false_eq_true] <;> omega) | fail)) only [↓rsSpcP_0, rsSpcP_1, Option.isNone_some, Option.isNone_none, tick_eq, tickV_eq, ne_eq, Int.reduceAdd, Int.reduceSub, Int.reduceMul, Int.reduceEq, Int.reduceLT, Int.reduceLE, Int.reduceToNat, Nat.reduceMul, Nat.reduceAdd, Nat.reduceSub, List.nil_append, List.cons_append, List.getElem?_toArray, List.getElem?_cons_zero, List.getElem?_cons_succ, List.setIfInBounds_toArray, List.set_cons_zero, List.set_cons_succ, Option.map_some, List.not_mem_nil, ←decide_not, he, k0, k1, k2, k3, k02, k12, k22, k32]
      have Bo4 := Bo.ext0 (F2.trans (F3.trans F4))
      refine loamlaw15_Same_call (Gives.to (Same_spec Bo4.sp Bo4.rf) fun w5 F5 => ?_)
      simp (disch := (first | omega | decide | (simp only [World.size_alloc, World.size_setCell, World.size_drew, size_sets, List.mem_cons, List.not_mem_nil, or_false, not_false_eq_true] <;> omega) | fail)) only [↓rsSpcP_0, rsSpcP_1, Option.isNone_some, Option.isNone_none, tick_eq, tickV_eq, ne_eq, Int.reduceAdd, Int.reduceSub, Int.reduceMul, Int.reduceEq, Int.reduceLT, Int.reduceLE, Int.reduceToNat, Nat.reduceMul, Nat.reduceAdd, Nat.reduceSub, List.nil_append, List.cons_append, List.getElem?_toArray, List.getElem?_cons_zero, List.getElem?_cons_succ, List.setIfInBounds_toArray, List.set_cons_zero, List.set_cons_succ, Option.map_some, List.not_mem_nil, ←decide_not, he, k0, k1, k2, k3, k02, k12, k22, k32]
      rw [e2]
      exact hnx _ ⟨r, cr, ws, t, hwl, Bo4.ext0 F5, X.trans (F2.trans (F3.trans (F4.trans F5)))⟩
    · have hp := szW_pos (x := packW hs[j].p hs[j].b false 0)
      have hw : ws ≠ [] := fun h => by subst h; simp at q3; omega
      have ua := Bo.sp.mem.up
      have za := Bo.sp.mem.blt hw
      refine space_Space_Alloc_call (Yld.mono (SAlloc_ok Bo.sp hr rfl hf) ?_)
      rintro u w2 ⟨rfl, F2, S2⟩
      have X2 : Ext [] w0 w2 := X.new F2 (fun x hx => by
        rcases List.mem_cons.1 hx with rfl | hx
        · exact us
        · exact Nat.le_trans ub (ua x hx))
      have R2 : RfIs w2 m r cr ws b t e := Bo.rf.ext F2 (fun h => by
        rcases List.mem_cons.1 h with h | h
        · exact Bo.sm h.symm
        · exact Bo.ma hw h) (fun _ x hx h => by
        rcases List.mem_cons.1 h with h | h
        · exact Bo.sr hw (h ▸ hx)
        · exact Bo.ar hw x h hx)
      obtain ⟨bh2, oh2, he2, zh2, k02, k12, k22, k32⟩ := hh_at (hH.row.ext0 X2) hj
      rw [he] at he2
      simp only [Option.some.injEq, Addr.mk.injEq, and_true] at he2
      obtain ⟨rfl, rfl⟩ := he2
      rw [hm] at k22
      rw [ht] at k32
      simp (disch := (first | omega | decide | (simp only [World.size_alloc, World.size_setCell, World.size_drew, size_sets, List.mem_cons, List.not_mem_nil, or_false, not_false_eq_true] <;> omega) | fail)) only [↓rsSpcP_0, rsSpcP_1, Option.isNone_some, Option.isNone_none, tick_eq, tickV_eq, ne_eq, Int.reduceAdd, Int.reduceSub, Int.reduceMul, Int.reduceEq, Int.reduceLT, Int.reduceLE, Int.reduceToNat, Nat.reduceMul, Nat.reduceAdd, Nat.reduceSub, List.nil_append, List.cons_append, List.getElem?_toArray, List.getElem?_cons_zero, List.getElem?_cons_succ, List.setIfInBounds_toArray, List.set_cons_zero, List.set_cons_succ, Option.map_some, List.not_mem_nil, ←decide_not, he, k0, k1, k2, k3, k02, k12, k22, k32]
      refine loamlaw14_Of_call (Gives.to (Of14_spec _ _ _ _ _) fun w3 F3 => ?_)
      simp (disch := (first | omega | decide | (simp only [World.size_alloc, World.size_setCell, World.size_drew, size_sets, List.mem_cons, List.not_mem_nil, or_false, not_false_eq_true] <;> omega) | fail)) only [↓rsSpcP_0, rsSpcP_1, Option.isNone_some, Option.isNone_none, tick_eq, tickV_eq, ne_eq, Int.reduceAdd, Int.reduceSub, Int.reduceMul, Int.reduceEq, Int.reduceLT, Int.reduceLE, Int.reduceToNat, Nat.reduceMul, Nat.reduceAdd, Nat.reduceSub, List.nil_append, List.cons_append, List.getElem?_toArray, List.getElem?_cons_zero, List.getElem?_cons_succ, List.setIfInBounds_toArray, List.set_cons_zero, List.set_cons_succ, Option.map_some, List.not_mem_nil, ←decide_not, he, k0, k1, k2, k3, k02, k12, k22, k32]
      refine loamref14_Space_Alloc_call (Yld.mono (rAlloc_ok (R2.ext0 F3) hr rfl hf) ?_)
      rintro u w4 ⟨rfl, F4, r', cr', R4, U4⟩
      have z2 := F2.size
      have z3 := F3.size
      have S4 := (S2.ext0 F3).ext F4 (by simpa using Bo.sm) (by simpa using Bo.mg.symm) (fun _ x hx h => by
        simp only [List.mem_singleton] at h
        exact Bo.ma hw (h ▸ hx))
      have Bo4 : Both w4 base s g a c m r' cr' (alW ws t (packW hs[j].p hs[j].b false 0) (szW (packW hs[j].p hs[j].b false 0))) b (t + szW (packW hs[j].p hs[j].b false 0)) e :=
        ⟨S4, R4, Bo.sm, Bo.mg, fun _ => Bo.ma hw, fun _ h => by have := U4 _ h; omega, fun _ h => by have := U4 _ h; omega, fun _ x hx h => by have := U4 _ h; have := za _ hx; omega, _, hlo.alloc (by omega) hr rfl⟩
      simp (disch := (first | omega | decide | (simp only [World.size_alloc, World.size_setCell, World.size_drew, size_sets, List.mem_cons, List.not_mem_nil, or_false, not_false_eq_true] <;> omega) | fail)) only [↓rsSpcP_0, rsSpcP_1, Option.isNone_some, Option.isNone_none, tick_eq, tickV_eq, ne_eq, Int.reduceAdd, Int.reduceSub, Int.reduceMul, Int.reduceEq, Int.reduceLT, Int.reduceLE, Int.reduceToNat, Nat.reduceMul, Nat.reduceAdd, Nat.reduceSub, List.nil_append, List.cons_append, List.getElem?_toArray, List.getElem?_cons_zero, List.getElem?_cons_succ, List.setIfInBounds_toArray, List.set_cons_zero, List.set_cons_succ, Option.map_some, List.not_mem_nil, ←decide_not, he, k0, k1, k2, k3, k02, k12, k22, k32]
      refine loamlaw15_Same_call (Gives.to (Same_spec Bo4.sp Bo4.rf) fun w5 F5 => ?_)
      simp (disch := (first | omega | decide | (simp only [World.size_alloc, World.size_setCell, World.size_drew, size_sets, List.mem_cons, List.not_mem_nil, or_false, not_false_eq_true] <;> omega) | fail)) only [↓rsSpcP_0, rsSpcP_1, Option.isNone_some, Option.isNone_none, tick_eq, tickV_eq, ne_eq, Int.reduceAdd, Int.reduceSub, Int.reduceMul, Int.reduceEq, Int.reduceLT, Int.reduceLE, Int.reduceToNat, Nat.reduceMul, Nat.reduceAdd, Nat.reduceSub, List.nil_append, List.cons_append, List.getElem?_toArray, List.getElem?_cons_zero, List.getElem?_cons_succ, List.setIfInBounds_toArray, List.set_cons_zero, List.set_cons_succ, Option.map_some, List.not_mem_nil, ←decide_not, he, k0, k1, k2, k3, k02, k12, k22, k32]
      rw [e2]
      have X4 : Ext [] w0 w4 := (X2.trans F3).new F4 (fun x hx => by simp only [List.mem_singleton] at hx; omega)
      exact hnx _ ⟨r', cr', _, _, by rw [alW_length]; exact hwl, Bo4.ext0 F5, X4.trans F5⟩
theorem wat_zero {ws : List (BitVec 64)} {b e i : Nat} (h1 : b ≤ i) (h2 : i < e) : (zr ws b (e - b)).getD i c0 = c0 := by
  show wat _ i = _
  rw [wat_zr, if_pos (by omega)]
abbrev rsSpcP_2 := (And.intro @xBox_r (And.intro @loadK_some (And.intro @loadsK_s (And.intro @loadsK_n (And.intro @loadsR_s (And.intro @loadsR_n (And.intro @storesK_s (And.intro @storesK_n (And.intro @xPick_t (And.intro @xPick_f (And.intro @xGuard_tt (And.intro @xGuard_ff (And.intro @xGuard_tf (And.intro @xGuard_ft (And.intro @xGuard_u 
  (And.intro @xNil_r (And.intro @xIf_t (And.intro @xBin_add' (And.intro @xBin_sub' (And.intro @xBin_mul' (And.intro @xBin_quo' (And.intro @xBin_rem' (And.intro @xIf_f (And.intro @xIf_tt (And.intro @xEx0 (And.intro @xEx1 (And.intro @xEx2 (And.intro @xEx3 (And.intro @xBin_eqs (And.intro @xBin_nes (And.intro @xUn_not (And.intro @xu8_add (And.intro @xu8_sub 
  (And.intro @xu8_com (And.intro @xu8_eql (And.intro @xu8_neq (And.intro @xu8_lss (And.intro @xu8_leq (And.intro @xu8_gtr (And.intro @xu8_geq (And.intro @xu16_add (And.intro @xu16_sub (And.intro @xu16_com (And.intro @xu16_eql (And.intro @xu16_neq (And.intro @xu16_lss (And.intro @xu16_leq (And.intro @xu16_gtr (And.intro @xu16_geq (And.intro @xu32_add 
  (And.intro @xu32_sub (And.intro @xu32_com (And.intro @xu32_eql (And.intro @xu32_neq (And.intro @xu32_lss (And.intro @xu32_leq (And.intro @xu32_gtr (And.intro @xu32_geq (And.intro @xu64_add (And.intro @xu64_sub (And.intro @xu64_com (And.intro @xu64_eql (And.intro @xu64_neq (And.intro @xu64_lss (And.intro @xu64_leq (And.intro @xu64_gtr (And.intro @xu64_geq 
  (And.intro @xi64_lss (And.intro @xi64_leq (And.intro @xi64_gtr (And.intro @xi64_geq (And.intro @xi64_eql (And.intro @xi64_neq (And.intro @xi64_neg (And.intro @xMakeFunc_r (And.intro @xSq_r (And.intro @xPur_s (And.intro @xRd_s (And.intro @xRe_s (And.intro @xDet_s (And.intro @xDet_ld (And.intro @xDet_ld2 (And.intro @xDet_ld3 (And.intro @xDet_ld4 
  (And.intro @xGuard_tt (And.intro @ld_3 (And.intro @ld_80 (And.intro @ld_81 (And.intro @ld_108 (And.intro @fa_98_0 (And.intro @fa_98_2 (And.intro @fa_105_2 (And.intro @al_80 (And.intro @al_108 (And.intro @st_80 (And.intro @st_108 (And.intro @bd_105_0_1_2_3 (And.intro @eb_4 (And.intro @ns_108 (And.intro @nb_4 (And.intro @ia_101 (And.intro @ln_101 (And.intro @ln_30 
  (And.intro @bs_30_0 (And.intro @bs_30_1 (And.intro @nq_84 @nn_84))))))))))))))))))))))))))))))))))))))))))))))))))))))))))))))))))))))))))))))))))))))))))))))))))))))))))
theorem SpacePlays_spec (l : List (BitVec 64)) (a : Option Addr) (n c : Nat) (bi ei : Int) (hs : List HH) (ah : Option Addr) (nh ch : Nat) (w : World) (ha : WordsArg w l a n c) (hH : HeadsArg w hs ah nh ch) :
    Gives Try.prog n_loamlaw15_SpacePlays #[.slice a n c, i64 bi, i64 ei, .slice ah nh ch] w (.bool true) := by
  have hn := ha.len
  subst hn
  have hnh := hH.len
  subst hnh
  refine loamlaw15_SpacePlays_of ?_
  unfold loamlaw15_SpacePlays
  refine loamlaw15_known_call (Gives.to (known15_spec w) fun w1 F1 => ?_)
  simp (disch := (first | omega | decide | (simp only [World.size_alloc, World.size_setCell, World.size_drew, size_sets, List.mem_cons, List.not_mem_nil, or_false, not_false_eq_true] <;> omega) | fail)) only [↓rsSpcP_2, rsSpcP_1, Option.isNone_some, Option.isNone_none, tick_eq, tickV_eq, ne_eq, Int.reduceAdd, Int.reduceSub, Int.reduceMul, Int.reduceEq, Int.reduceLT, Int.reduceLE, Int.reduceToNat, Nat.reduceMul, Nat.reduceAdd, Nat.reduceSub, List.nil_append, List.cons_append, List.getElem?_toArray, List.getElem?_cons_zero, List.getElem?_cons_succ, List.setIfInBounds_toArray, List.set_cons_zero, List.set_cons_succ, Option.map_some, List.not_mem_nil, ←decide_not, eq_self]
  by_cases hl : 400 < l.length
  · simp (disch := (first | omega | decide | (simp only [World.size_alloc, World.size_setCell, World.size_drew, size_sets, List.mem_cons, List.not_mem_nil, or_false, not_false_eq_true] <;> omega) | fail)) only [↓rsSpcP_2, rsSpcP_1, Option.isNone_some, Option.isNone_none, tick_eq, tickV_eq, ne_eq, Int.reduceAdd, Int.reduceSub, Int.reduceMul, Int.reduceEq, Int.reduceLT, Int.reduceLE, Int.reduceToNat, Nat.reduceMul, Nat.reduceAdd, Nat.reduceSub, List.nil_append, List.cons_append, List.getElem?_toArray, List.getElem?_cons_zero, List.getElem?_cons_succ, List.setIfInBounds_toArray, List.set_cons_zero, List.set_cons_succ, Option.map_some, List.not_mem_nil, ←decide_not, eq_self]
    exact ⟨by trivial, F1⟩
  by_cases hl2 : 60 < hs.length
  · simp (disch := (first | omega | decide | (simp only [World.size_alloc, World.size_setCell, World.size_drew, size_sets, List.mem_cons, List.not_mem_nil, or_false, not_false_eq_true] <;> omega) | fail)) only [↓rsSpcP_2, rsSpcP_1, Option.isNone_some, Option.isNone_none, tick_eq, tickV_eq, ne_eq, Int.reduceAdd, Int.reduceSub, Int.reduceMul, Int.reduceEq, Int.reduceLT, Int.reduceLE, Int.reduceToNat, Nat.reduceMul, Nat.reduceAdd, Nat.reduceSub, List.nil_append, List.cons_append, List.getElem?_toArray, List.getElem?_cons_zero, List.getElem?_cons_succ, List.setIfInBounds_toArray, List.set_cons_zero, List.set_cons_succ, Option.map_some, List.not_mem_nil, ←decide_not, eq_self]
    exact ⟨by trivial, F1⟩
  simp (disch := (first | omega | decide | (simp only [World.size_alloc, World.size_setCell, World.size_drew, size_sets, List.mem_cons, List.not_mem_nil, or_false, not_false_eq_true] <;> omega) | fail)) only [↓rsSpcP_2, rsSpcP_1, Option.isNone_some, Option.isNone_none, tick_eq, tickV_eq, ne_eq, Int.reduceAdd, Int.reduceSub, Int.reduceMul, Int.reduceEq, Int.reduceLT, Int.reduceLE, Int.reduceToNat, Nat.reduceMul, Nat.reduceAdd, Nat.reduceSub, List.nil_append, List.cons_append, List.getElem?_toArray, List.getElem?_cons_zero, List.getElem?_cons_succ, List.setIfInBounds_toArray, List.set_cons_zero, List.set_cons_succ, Option.map_some, List.not_mem_nil, ←decide_not, eq_self]
  refine loamlaw15_Mem_call (Yld.mono (Mem15_spec l a c w1 (by omega) (ha.row.ext0 F1) ha.nil) ?_)
  rintro u w2 ⟨F2, g, a2, c2, rfl, M⟩
  by_cases hm : mayP bi bi ei l.length
  rotate_left
  · refine space_New_call (Gives.to (SNew_bad M hm) fun w3 F3 => ?_)
    unfold mayP at hm
    have X : Ext [] w w3 := F1.trans (F2.trans F3)
    simp (disch := (first | omega | decide | (simp only [World.size_alloc, World.size_setCell, World.size_drew, size_sets, List.mem_cons, List.not_mem_nil, or_false, not_false_eq_true] <;> omega) | fail)) only [↓rsSpcP_2, rsSpcP_1, Option.isNone_some, Option.isNone_none, tick_eq, tickV_eq, ne_eq, Int.reduceAdd, Int.reduceSub, Int.reduceMul, Int.reduceEq, Int.reduceLT, Int.reduceLE, Int.reduceToNat, Nat.reduceMul, Nat.reduceAdd, Nat.reduceSub, List.nil_append, List.cons_append, List.getElem?_toArray, List.getElem?_cons_zero, List.getElem?_cons_succ, List.setIfInBounds_toArray, List.set_cons_zero, List.set_cons_succ, Option.map_some, List.not_mem_nil, ←decide_not, eq_self]
    by_cases g1 : bi < 0
    · simp (disch := (first | omega | decide | (simp only [World.size_alloc, World.size_setCell, World.size_drew, size_sets, List.mem_cons, List.not_mem_nil, or_false, not_false_eq_true] <;> omega) | fail)) only [↓rsSpcP_2, rsSpcP_1, Option.isNone_some, Option.isNone_none, tick_eq, tickV_eq, ne_eq, Int.reduceAdd, Int.reduceSub, Int.reduceMul, Int.reduceEq, Int.reduceLT, Int.reduceLE, Int.reduceToNat, Nat.reduceMul, Nat.reduceAdd, Nat.reduceSub, List.nil_append, List.cons_append, List.getElem?_toArray, List.getElem?_cons_zero, List.getElem?_cons_succ, List.setIfInBounds_toArray, List.set_cons_zero, List.set_cons_succ, Option.map_some, List.not_mem_nil, ←decide_not, eq_self]
      exact ⟨by trivial, X⟩
    by_cases g2 : ei < bi
    · simp (disch := (first | omega | decide | (simp only [World.size_alloc, World.size_setCell, World.size_drew, size_sets, List.mem_cons, List.not_mem_nil, or_false, not_false_eq_true] <;> omega) | fail)) only [↓rsSpcP_2, rsSpcP_1, Option.isNone_some, Option.isNone_none, tick_eq, tickV_eq, ne_eq, Int.reduceAdd, Int.reduceSub, Int.reduceMul, Int.reduceEq, Int.reduceLT, Int.reduceLE, Int.reduceToNat, Nat.reduceMul, Nat.reduceAdd, Nat.reduceSub, List.nil_append, List.cons_append, List.getElem?_toArray, List.getElem?_cons_zero, List.getElem?_cons_succ, List.setIfInBounds_toArray, List.set_cons_zero, List.set_cons_succ, Option.map_some, List.not_mem_nil, ←decide_not, eq_self]
      exact ⟨by trivial, X⟩
    by_cases g4 : (l.length : Int) < ei
    · simp (disch := (first | omega | decide | (simp only [World.size_alloc, World.size_setCell, World.size_drew, size_sets, List.mem_cons, List.not_mem_nil, or_false, not_false_eq_true] <;> omega) | fail)) only [↓rsSpcP_2, rsSpcP_1, Option.isNone_some, Option.isNone_none, tick_eq, tickV_eq, ne_eq, Int.reduceAdd, Int.reduceSub, Int.reduceMul, Int.reduceEq, Int.reduceLT, Int.reduceLE, Int.reduceToNat, Nat.reduceMul, Nat.reduceAdd, Nat.reduceSub, List.nil_append, List.cons_append, List.getElem?_toArray, List.getElem?_cons_zero, List.getElem?_cons_succ, List.setIfInBounds_toArray, List.set_cons_zero, List.set_cons_succ, Option.map_some, List.not_mem_nil, ←decide_not, eq_self]
      exact ⟨by trivial, X⟩
    omega
  obtain ⟨h1, _, h3, h4⟩ := hm
  obtain ⟨b, rfl⟩ := Int.eq_ofNat_of_zero_le h1
  obtain ⟨e, rfl⟩ := Int.eq_ofNat_of_zero_le (Int.le_trans h1 h3)
  have hbe : b ≤ e := by omega
  have hel : e ≤ l.length := by omega
  refine space_New_call (Yld.mono (SNew_ok (b := b) (e := e) M hbe hel) ?_)
  rintro u w3 ⟨F3, s, rfl, zs, zs', S3⟩
  have X3 : Ext [] w w3 := F1.trans (F2.trans F3)
  simp (disch := (first | omega | decide | (simp only [World.size_alloc, World.size_setCell, World.size_drew, size_sets, List.mem_cons, List.not_mem_nil, or_false, not_false_eq_true] <;> omega) | fail)) only [↓rsSpcP_2, rsSpcP_1, Option.isNone_some, Option.isNone_none, tick_eq, tickV_eq, ne_eq, Int.reduceAdd, Int.reduceSub, Int.reduceMul, Int.reduceEq, Int.reduceLT, Int.reduceLE, Int.reduceToNat, Nat.reduceMul, Nat.reduceAdd, Nat.reduceSub, List.nil_append, List.cons_append, List.getElem?_toArray, List.getElem?_cons_zero, List.getElem?_cons_succ, List.setIfInBounds_toArray, List.set_cons_zero, List.set_cons_succ, Option.map_some, List.not_mem_nil, ←decide_not, eq_self]
  refine appUn (ha.row.ext0 X3) ha.nil ha.cap (by omega) fun v4 w4 O4 F4 U4 => ?_
  have X4 : Ext [] w w4 := X3.trans F4
  have S4 := S3.ext0 F4
  obtain ⟨r, cr, rfl, hcr, _, hnr, hrr, _⟩ := O4.slice
  have z4 := F4.size
  have zu := O4.lt
  simp (disch := (first | omega | decide | (simp only [World.size_alloc, World.size_setCell, World.size_drew, size_sets, List.mem_cons, List.not_mem_nil, or_false, not_false_eq_true] <;> omega) | fail)) only [↓rsSpcP_2, rsSpcP_1, Option.isNone_some, Option.isNone_none, tick_eq, tickV_eq, ne_eq, Int.reduceAdd, Int.reduceSub, Int.reduceMul, Int.reduceEq, Int.reduceLT, Int.reduceLE, Int.reduceToNat, Nat.reduceMul, Nat.reduceAdd, Nat.reduceSub, List.nil_append, List.cons_append, List.getElem?_toArray, List.getElem?_cons_zero, List.getElem?_cons_succ, List.setIfInBounds_toArray, List.set_cons_zero, List.set_cons_succ, Option.map_some, List.not_mem_nil, ←decide_not, eq_self]
  have X5 : Ext [] w4 (w4.alloc (.cells #[.slice r l.length cr, i64 (b : Int), i64 (b : Int), i64 (e : Int)] 105)) := Ext.alloc _ _ _
  have R5 : RfIs (w4.alloc (.cells #[.slice r l.length cr, i64 (b : Int), i64 (b : Int), i64 (e : Int)] 105)) w4.heap.size r cr l b b e :=
    ⟨Blk.at rfl, hrr.ext0 X5, hcr, hnr, fun _ hx => by rw [blkOf_eq (n := l.length) (c := cr)] at hx; have := zu _ hx; omega, by omega, Nat.le_refl _, hbe, hel⟩
  generalize w4.alloc (.cells #[.slice r l.length cr, i64 (b : Int), i64 (b : Int), i64 (e : Int)] 105) = w5 at *
  have z0 := F1.size
  have z1 := F2.size
  have zx := X4.size
  have zg := S3.mem.lt
  have hI : PlayI w w1.heap.size s g a2 c2 w4.heap.size b e l.length w5 := by
    refine ⟨r, cr, l, b, rfl, ⟨S4.ext0 X5, R5, by omega, by omega, fun hw hx => ?_, fun hw hx => ?_, fun hw hx => ?_, fun hw x hx hx2 => ?_, [], .nil⟩, X4.trans X5⟩
    · have := S3.mem.blt hw _ hx
      omega
    · rw [blkOf_eq (n := l.length) (c := cr)] at hx
      have := U4 _ hx
      omega
    · rw [blkOf_eq (n := l.length) (c := cr)] at hx
      have := U4 _ hx
      omega
    · rw [blkOf_eq (n := l.length) (c := cr)] at hx2
      have := U4 _ hx2
      have := S3.mem.blt hw _ hx
      omega
  have us : w.heap.size ≤ s := by omega
  generalize w4.heap.size = m at *
  refine xLoop_n hs.length (fun j => [i64 (j : Int)]) (fun _ w' => PlayI w w1.heap.size s g a2 c2 m b e l.length w') rfl hI ?_ ?_
  · intro j hj u v1 hu hI nxt hnx
    simp only [List.map_cons, List.map_nil, List.cons.injEq, and_true] at hu
    rw [hu]
    exact play_step hH hj (by omega) us zx z0 hI hnx
  intro u v1 hu hI nxt
  simp only [List.map_cons, List.map_nil, List.cons.injEq, and_true] at hu
  rw [hu]
  obtain ⟨r, cr, ws, t, hwl, Bo, X⟩ := hI
  obtain ⟨lo, hlo⟩ := Bo.obj
  have q1 := Bo.sp.bt
  have q2 := Bo.sp.te
  have q3 := Bo.sp.el
  have q4 := Bo.sp.mem.len
  have hob := (objs_some q1).2 hlo
  have hpl : lo.length ≤ 100000 := by
    have hlen : ∀ {o : Nat} {q : List Nat}, Objs ws t o q → o + q.length ≤ t := by
      intro o q h
      induction h with
      | nil => simp
      | @cons o q h1 h2 h3 ih => have := szW_pos (x := wat ws o); simp only [List.length_cons]; omega
    have := hlen hlo
    omega
  unfold loamlaw15_SpacePlays_l1
  simp (disch := (first | omega | decide | (simp only [World.size_alloc, World.size_setCell, World.size_drew, size_sets, List.mem_cons, List.not_mem_nil, or_false, not_false_eq_true] <;> omega) | fail)) only [↓rsSpcP_2, rsSpcP_1, Option.isNone_some, Option.isNone_none, tick_eq, tickV_eq, ne_eq, Int.reduceAdd, Int.reduceSub, Int.reduceMul, Int.reduceEq, Int.reduceLT, Int.reduceLE, Int.reduceToNat, Nat.reduceMul, Nat.reduceAdd, Nat.reduceSub, List.nil_append, List.cons_append, List.getElem?_toArray, List.getElem?_cons_zero, List.getElem?_cons_succ, List.setIfInBounds_toArray, List.set_cons_zero, List.set_cons_succ, Option.map_some, List.not_mem_nil, ←decide_not, eq_self]
  refine space_Space_Objects_call (Yld.mono (SObjects_spec Bo.sp) ?_)
  intro u y1 hu1
  rw [hob] at hu1
  obtain ⟨vo, rfl, G1, ao, co, rfl, hco, Ro⟩ := hu1
  simp (disch := (first | omega | decide | (simp only [World.size_alloc, World.size_setCell, World.size_drew, size_sets, List.mem_cons, List.not_mem_nil, or_false, not_false_eq_true] <;> omega) | fail)) only [↓rsSpcP_2, rsSpcP_1, Option.isNone_some, Option.isNone_none, tick_eq, tickV_eq, ne_eq, Int.reduceAdd, Int.reduceSub, Int.reduceMul, Int.reduceEq, Int.reduceLT, Int.reduceLE, Int.reduceToNat, Nat.reduceMul, Nat.reduceAdd, Nat.reduceSub, List.nil_append, List.cons_append, List.getElem?_toArray, List.getElem?_cons_zero, List.getElem?_cons_succ, List.setIfInBounds_toArray, List.set_cons_zero, List.set_cons_succ, Option.map_some, List.not_mem_nil, ←decide_not, eq_self]
  refine loamref14_Space_Objects_call (Yld.mono (rObjects_spec (Bo.rf.ext0 G1)) ?_)
  intro u y2 hu2
  rw [hob] at hu2
  obtain ⟨vp, rfl, G2, ap, cp, rfl, hcp, Rp⟩ := hu2
  simp (disch := (first | omega | decide | (simp only [World.size_alloc, World.size_setCell, World.size_drew, size_sets, List.mem_cons, List.not_mem_nil, or_false, not_false_eq_true] <;> omega) | fail)) only [↓rsSpcP_2, rsSpcP_1, Option.isNone_some, Option.isNone_none, tick_eq, tickV_eq, ne_eq, Int.reduceAdd, Int.reduceSub, Int.reduceMul, Int.reduceEq, Int.reduceLT, Int.reduceLE, Int.reduceToNat, Nat.reduceMul, Nat.reduceAdd, Nat.reduceSub, List.nil_append, List.cons_append, List.getElem?_toArray, List.getElem?_cons_zero, List.getElem?_cons_succ, List.setIfInBounds_toArray, List.set_cons_zero, List.set_cons_succ, Option.map_some, List.not_mem_nil, ←decide_not, eq_self]
  refine loamlaw15_ints_call (Gives.to (ints_spec (Ro.ext0 G2) Rp hpl) fun y3 G3 => ?_)
  simp (disch := (first | omega | decide | (simp only [World.size_alloc, World.size_setCell, World.size_drew, size_sets, List.mem_cons, List.not_mem_nil, or_false, not_false_eq_true] <;> omega) | fail)) only [↓rsSpcP_2, rsSpcP_1, Option.isNone_some, Option.isNone_none, tick_eq, tickV_eq, ne_eq, Int.reduceAdd, Int.reduceSub, Int.reduceMul, Int.reduceEq, Int.reduceLT, Int.reduceLE, Int.reduceToNat, Nat.reduceMul, Nat.reduceAdd, Nat.reduceSub, List.nil_append, List.cons_append, List.getElem?_toArray, List.getElem?_cons_zero, List.getElem?_cons_succ, List.setIfInBounds_toArray, List.set_cons_zero, List.set_cons_succ, Option.map_some, List.not_mem_nil, ←decide_not, eq_self]
  have Bo3 := Bo.ext0 (G1.trans (G2.trans G3))
  have X3' : Ext [] w y3 := X.trans (G1.trans (G2.trans G3))
  refine xLoop_n (t + 2 - b) (fun j => [i64 ((b : Int) - 1 + j)]) (fun _ w' => Ext [] y3 w') (by simp) (Ext.refl _ _) ?_ ?_
  · intro j hj u v2 hu F nxt hnx
    simp only [List.map_cons, List.map_nil, List.cons.injEq, and_true] at hu
    rw [hu]
    have Bv := Bo3.ext0 F
    have km := fun i => Bv.rf.blk.cell (i := i)
    have e2 : (b : Int) - 1 + j + 1 = (b : Int) - 1 + ((j + 1 : Nat) : Int) := by omega
    unfold loamlaw15_SpacePlays_l2
    simp (disch := (first | omega | decide | (simp only [World.size_alloc, World.size_setCell, World.size_drew, size_sets, List.mem_cons, List.not_mem_nil, or_false, not_false_eq_true] <;> omega) | fail)) only [↓rsSpcP_2, rsSpcP_1, Option.isNone_some, Option.isNone_none, tick_eq, tickV_eq, ne_eq, Int.reduceAdd, Int.reduceSub, Int.reduceMul, Int.reduceEq, Int.reduceLT, Int.reduceLE, Int.reduceToNat, Nat.reduceMul, Nat.reduceAdd, Nat.reduceSub, List.nil_append, List.cons_append, List.getElem?_toArray, List.getElem?_cons_zero, List.getElem?_cons_succ, List.setIfInBounds_toArray, List.set_cons_zero, List.set_cons_succ, Option.map_some, List.not_mem_nil, ←decide_not, km]
    have key : ∃ p q mm tt er, (∀ y, Ext [] v2 y → Gives Try.prog n_space_Space_Head #[ptr s, i64 ((b : Int) - 1 + j)] y (.tuple #[hd p q mm tt, i64 er])) ∧ (∀ y, Ext [] v2 y → Gives Try.prog n_loamref14_Space_Head #[ptr m, i64 ((b : Int) - 1 + j)] y (.tuple #[hd p q mm tt, i64 er])) := by
      by_cases hin : 1 ≤ j ∧ b + j < t + 1
      · have eo : (b : Int) - 1 + j = ((b + j - 1 : Nat) : Int) := by omega
        rw [eo]
        exact ⟨_, _, _, _, _, fun y hy => SHead_in (Bv.sp.ext0 hy) (by omega) (by omega), fun y hy => rHead_in (Bv.rf.ext0 hy) (by omega) (by omega)⟩
      · have ho : (b : Int) - 1 + j < b ∨ (t : Int) ≤ (b : Int) - 1 + j := by omega
        exact ⟨_, _, _, _, _, fun y hy => SHead_out (Bv.sp.ext0 hy) ho, fun y hy => rHead_out (Bv.rf.ext0 hy) ho⟩
    obtain ⟨p, q, mm, tt, er, hS, hM⟩ := key
    refine space_Space_Head_call (Gives.to (hS v2 (Ext.refl _ _)) fun w3 F3 => ?_)
    simp (disch := (first | omega | decide | (simp only [World.size_alloc, World.size_setCell, World.size_drew, size_sets, List.mem_cons, List.not_mem_nil, or_false, not_false_eq_true] <;> omega) | fail)) only [↓rsSpcP_2, rsSpcP_1, Option.isNone_some, Option.isNone_none, tick_eq, tickV_eq, ne_eq, Int.reduceAdd, Int.reduceSub, Int.reduceMul, Int.reduceEq, Int.reduceLT, Int.reduceLE, Int.reduceToNat, Nat.reduceMul, Nat.reduceAdd, Nat.reduceSub, List.nil_append, List.cons_append, List.getElem?_toArray, List.getElem?_cons_zero, List.getElem?_cons_succ, List.setIfInBounds_toArray, List.set_cons_zero, List.set_cons_succ, Option.map_some, List.not_mem_nil, ←decide_not, km]
    have B : Blk (w3.alloc (.cells #[i64 p, i64 q, .bool mm, i64 tt] 80)) w3.heap.size 80 [i64 p, i64 q, .bool mm, i64 tt] := Blk.at rfl
    have X1 : Ext [] w3 (w3.alloc (.cells #[i64 p, i64 q, .bool mm, i64 tt] 80)) := Ext.alloc _ _ _
    generalize w3.alloc (.cells #[i64 p, i64 q, .bool mm, i64 tt] 80) = y4 at *
    refine loamref14_Space_Head_call (Gives.to (hM y4 (F3.trans X1)) fun w5 F5 => ?_)
    have B5 := B.ext F5 (by simp)
    have k5 := fun i => B5.cell (i := i)
    have z5 := B5.lt
    simp (disch := (first | omega | decide | (simp only [World.size_alloc, World.size_setCell, World.size_drew, size_sets, List.mem_cons, List.not_mem_nil, or_false, not_false_eq_true] <;> omega) | fail)) only [↓rsSpcP_2, rsSpcP_1, Option.isNone_some, Option.isNone_none, tick_eq, tickV_eq, ne_eq, Int.reduceAdd, Int.reduceSub, Int.reduceMul, Int.reduceEq, Int.reduceLT, Int.reduceLE, Int.reduceToNat, Nat.reduceMul, Nat.reduceAdd, Nat.reduceSub, List.nil_append, List.cons_append, List.getElem?_toArray, List.getElem?_cons_zero, List.getElem?_cons_succ, List.setIfInBounds_toArray, List.set_cons_zero, List.set_cons_succ, Option.map_some, List.not_mem_nil, ←decide_not, km, k5]
    have C6 : Blk (w5.alloc (.cells #[i64 p, i64 q, .bool mm, i64 tt] 108)) w5.heap.size 108 [i64 p, i64 q, .bool mm, i64 tt] := Blk.at rfl
    have X6 : Ext [] w5 (w5.alloc (.cells #[i64 p, i64 q, .bool mm, i64 tt] 108)) := Ext.alloc _ _ _
    refine loamlaw14_Of_call (Gives.to (Of14_spec p q mm tt _) fun w7 F7d => ?_)
    have F7 := (Ext.drew [] _).trans F7d
    have kc7 := fun i => (C6.ext F7 (by simp)).cell (i := i)
    have em : (!(mm == mm)) = false := by simp
    simp (disch := (first | omega | decide | (simp only [World.size_alloc, World.size_setCell, World.size_drew, size_sets, List.mem_cons, List.not_mem_nil, or_false, not_false_eq_true] <;> omega) | fail)) only [↓rsSpcP_2, rsSpcP_1, Option.isNone_some, Option.isNone_none, tick_eq, tickV_eq, ne_eq, Int.reduceAdd, Int.reduceSub, Int.reduceMul, Int.reduceEq, Int.reduceLT, Int.reduceLE, Int.reduceToNat, Nat.reduceMul, Nat.reduceAdd, Nat.reduceSub, List.nil_append, List.cons_append, List.getElem?_toArray, List.getElem?_cons_zero, List.getElem?_cons_succ, List.setIfInBounds_toArray, List.set_cons_zero, List.set_cons_succ, Option.map_some, List.not_mem_nil, ←decide_not, km, k5, kc7, em]
    rw [e2]
    exact hnx _ (F.trans (F3.trans (X1.trans (F5.trans (X6.trans F7)))))
  · intro u v2 hu F nxt
    simp only [List.map_cons, List.map_nil, List.cons.injEq, and_true] at hu
    rw [hu]
    have Bv := Bo3.ext0 F
    have km := fun i => Bv.rf.blk.cell (i := i)
    unfold loamlaw15_SpacePlays_l2
    simp (disch := (first | omega | decide | (simp only [World.size_alloc, World.size_setCell, World.size_drew, size_sets, List.mem_cons, List.not_mem_nil, or_false, not_false_eq_true] <;> omega) | fail)) only [↓rsSpcP_2, rsSpcP_1, Option.isNone_some, Option.isNone_none, tick_eq, tickV_eq, ne_eq, Int.reduceAdd, Int.reduceSub, Int.reduceMul, Int.reduceEq, Int.reduceLT, Int.reduceLE, Int.reduceToNat, Nat.reduceMul, Nat.reduceAdd, Nat.reduceSub, List.nil_append, List.cons_append, List.getElem?_toArray, List.getElem?_cons_zero, List.getElem?_cons_succ, List.setIfInBounds_toArray, List.set_cons_zero, List.set_cons_succ, Option.map_some, List.not_mem_nil, ←decide_not, km]
    refine space_Space_Apart_call (Yld.mono (SApart_spec Bv.sp) ?_)
    rintro u y4 ⟨F4, s', g', a', c', rfl, zs', S'⟩
    have Bo4 := Bv.ext0 F4
    have zv1 := Bv.sp.blk.lt
    have zv2 := F4.size
    have ub4 := Bo4.sp.mem.up
    simp (disch := (first | omega | decide | (simp only [World.size_alloc, World.size_setCell, World.size_drew, size_sets, List.mem_cons, List.not_mem_nil, or_false, not_false_eq_true] <;> omega) | fail)) only [↓rsSpcP_2, rsSpcP_1, Option.isNone_some, Option.isNone_none, tick_eq, tickV_eq, ne_eq, Int.reduceAdd, Int.reduceSub, Int.reduceMul, Int.reduceEq, Int.reduceLT, Int.reduceLE, Int.reduceToNat, Nat.reduceMul, Nat.reduceAdd, Nat.reduceSub, List.nil_append, List.cons_append, List.getElem?_toArray, List.getElem?_cons_zero, List.getElem?_cons_succ, List.setIfInBounds_toArray, List.set_cons_zero, List.set_cons_succ, Option.map_some, List.not_mem_nil, ←decide_not, km]
    have hb0 : ∀ x ∈ s :: bO ws a2, x < v2.heap.size ∧ w.heap.size ≤ x ∧ x ≠ m ∧ (ws ≠ [] → x ∉ blkOf r) := by
      intro x hx
      rcases List.mem_cons.1 hx with rfl | hx
      · exact ⟨zv1, us, Bv.sm, Bv.sr⟩
      · by_cases hw : ws = []
        · rw [bO, if_pos hw] at hx
          cases hx
        · rw [bO, if_neg hw] at hx
          exact ⟨Bv.sp.mem.blt hw x hx, Nat.le_trans z0 (ub4 x hx), fun h => Bv.ma hw (h ▸ hx), fun _ => Bv.ar hw x hx⟩
    refine space_Space_Reset_call (Yld.mono (SReset_spec Bo4.sp) ?_)
    rintro u y5 ⟨rfl, F5, S5⟩
    have R5 : RfIs y5 m r cr ws b t e := Bo4.rf.ext F5 (fun h => (hb0 _ h).2.2.1 rfl) (fun hw x hx h => (hb0 _ h).2.2.2 hw hx)
    have T5 : SpIs y5 _ s' g' a' c' ws b t e := S'.ext F5 (fun h => by have := (hb0 _ h).1; omega) (fun h => by have := (hb0 _ h).1; have := S'.mem.lo; omega) (fun _ x hx h => by have := (hb0 _ h).1; have := S'.mem.up x hx; omega)
    have X5' : Ext [] w y5 := ((X3'.trans F).trans F4).new F5 (fun x hx => (hb0 x hx).2.1)
    simp (disch := (first | omega | decide | (simp only [World.size_alloc, World.size_setCell, World.size_drew, size_sets, List.mem_cons, List.not_mem_nil, or_false, not_false_eq_true] <;> omega) | fail)) only [↓rsSpcP_2, rsSpcP_1, Option.isNone_some, Option.isNone_none, tick_eq, tickV_eq, ne_eq, Int.reduceAdd, Int.reduceSub, Int.reduceMul, Int.reduceEq, Int.reduceLT, Int.reduceLE, Int.reduceToNat, Nat.reduceMul, Nat.reduceAdd, Nat.reduceSub, List.nil_append, List.cons_append, List.getElem?_toArray, List.getElem?_cons_zero, List.getElem?_cons_succ, List.setIfInBounds_toArray, List.set_cons_zero, List.set_cons_succ, Option.map_some, List.not_mem_nil, ←decide_not, km]
    refine xLoop_n (e - b) (fun j => [i64 ((b + j : Nat) : Int)]) (fun _ w' => Ext [] y5 w') (by simp) (Ext.refl _ _) ?_ ?_
    · intro j hj u v6 hu F6 nxt hnx
      simp only [List.map_cons, List.map_nil, List.cons.injEq, and_true] at hu
      rw [hu]
      have e2 : (((b + j : Nat) : Int) + 1) = ((b + (j + 1) : Nat) : Int) := by omega
      have h1 : b ≤ b + j := by omega
      have h2 : b + j < e := by omega
      generalize b + j = i at *
      have S6 := S5.ext0 F6
      have k6 := fun i => S6.blk.cell (i := i)
      unfold loamlaw15_SpacePlays_l3
      simp (disch := (first | omega | decide | (simp only [World.size_alloc, World.size_setCell, World.size_drew, size_sets, List.mem_cons, List.not_mem_nil, or_false, not_false_eq_true] <;> omega) | fail)) only [↓rsSpcP_2, rsSpcP_1, Option.isNone_some, Option.isNone_none, tick_eq, tickV_eq, ne_eq, Int.reduceAdd, Int.reduceSub, Int.reduceMul, Int.reduceEq, Int.reduceLT, Int.reduceLE, Int.reduceToNat, Nat.reduceMul, Nat.reduceAdd, Nat.reduceSub, List.nil_append, List.cons_append, List.getElem?_toArray, List.getElem?_cons_zero, List.getElem?_cons_succ, List.setIfInBounds_toArray, List.set_cons_zero, List.set_cons_succ, Option.map_some, List.not_mem_nil, ←decide_not, km, k6]
      have hg := Get_ok i S6.mem (by rw [zr_length]; omega)
      rw [wat_zero h1 h2] at hg
      refine mem_Mem_Get_call (Gives.to hg fun w7 F7 => ?_)
      simp (disch := (first | omega | decide | (simp only [World.size_alloc, World.size_setCell, World.size_drew, size_sets, List.mem_cons, List.not_mem_nil, or_false, not_false_eq_true] <;> omega) | fail)) only [↓rsSpcP_2, rsSpcP_1, Option.isNone_some, Option.isNone_none, tick_eq, tickV_eq, ne_eq, Int.reduceAdd, Int.reduceSub, Int.reduceMul, Int.reduceEq, Int.reduceLT, Int.reduceLE, Int.reduceToNat, Nat.reduceMul, Nat.reduceAdd, Nat.reduceSub, List.nil_append, List.cons_append, List.getElem?_toArray, List.getElem?_cons_zero, List.getElem?_cons_succ, List.setIfInBounds_toArray, List.set_cons_zero, List.set_cons_succ, Option.map_some, List.not_mem_nil, ←decide_not, km, k6]
      rw [e2]
      exact hnx _ (F6.trans F7)
    · intro u v6 hu F6 nxt
      simp only [List.map_cons, List.map_nil, List.cons.injEq, and_true] at hu
      rw [hu]
      have S6 := S5.ext0 F6
      have k6 := fun i => S6.blk.cell (i := i)
      unfold loamlaw15_SpacePlays_l3
      simp (disch := (first | omega | decide | (simp only [World.size_alloc, World.size_setCell, World.size_drew, size_sets, List.mem_cons, List.not_mem_nil, or_false, not_false_eq_true] <;> omega) | fail)) only [↓rsSpcP_2, rsSpcP_1, Option.isNone_some, Option.isNone_none, tick_eq, tickV_eq, ne_eq, Int.reduceAdd, Int.reduceSub, Int.reduceMul, Int.reduceEq, Int.reduceLT, Int.reduceLE, Int.reduceToNat, Nat.reduceMul, Nat.reduceAdd, Nat.reduceSub, List.nil_append, List.cons_append, List.getElem?_toArray, List.getElem?_cons_zero, List.getElem?_cons_succ, List.setIfInBounds_toArray, List.set_cons_zero, List.set_cons_succ, Option.map_some, List.not_mem_nil, ←decide_not, km, k6]
      refine loamlaw15_Same_call (Gives.to (Same_spec (T5.ext0 F6) (R5.ext0 F6)) fun w7 F7 => ?_)
      simp (disch := (first | omega | decide | (simp only [World.size_alloc, World.size_setCell, World.size_drew, size_sets, List.mem_cons, List.not_mem_nil, or_false, not_false_eq_true] <;> omega) | fail)) only [↓rsSpcP_2, rsSpcP_1, Option.isNone_some, Option.isNone_none, tick_eq, tickV_eq, ne_eq, Int.reduceAdd, Int.reduceSub, Int.reduceMul, Int.reduceEq, Int.reduceLT, Int.reduceLE, Int.reduceToNat, Nat.reduceMul, Nat.reduceAdd, Nat.reduceSub, List.nil_append, List.cons_append, List.getElem?_toArray, List.getElem?_cons_zero, List.getElem?_cons_succ, List.setIfInBounds_toArray, List.set_cons_zero, List.set_cons_succ, Option.map_some, List.not_mem_nil, ←decide_not, km, k6]
      exact ⟨by trivial, X5'.trans (F6.trans F7)⟩
end Go.Proofs.Ytlllabaipfmnjaa
