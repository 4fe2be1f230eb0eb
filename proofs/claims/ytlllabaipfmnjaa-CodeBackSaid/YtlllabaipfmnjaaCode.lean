/- What the functions of the codec compute. -/
import Derived.Test.YtlllabaipfmnjaaCodeV
import Derived.Test.YtlllabaipfmnjaaBitsW
set_option linter.unusedVariables false
set_option linter.unusedSimpArgs false
set_option maxHeartbeats 4000000
namespace Go.Proofs.Ytlllabaipfmnjaa
open Go.Sh Go.RowKit

abbrev ptr (g : Nat) : Value := .pointer (some ⟨g, 0, none⟩)
theorem own_extM {w w' : World} {base n : Nat} {e : TypeId} {v : Value} {cs : List Value} {M : List Nat} (h : w.ownsRow base e 1 v n cs) (hx : Ext M w w') (hm : ∀ b, v.ownBlock = some b → b ∉ M) : w'.ownsRow base e 1 v n cs := by
  refine ⟨h.1, ?_⟩
  rcases h.2 with h0 | ⟨g, cap, cur, rfl, hb, hg, h1, h2, h3, h4⟩
  · exact .inl h0
  · refine .inr ⟨g, cap, cur, rfl, hb, ?_, h1, h2, h3, h4⟩
    rw [hx.block g (Array.getElem?_eq_some_iff.1 hg).1 (hm g rfl)]
    exact hg
theorem RowAt.apart {w0 w w' : World} {a : Option Addr} {cs : List Value} {M : List Nat} (h : RowAt w0 a cs) (h0 : Ext [] w0 w) (hx : Ext M w w') (hm : ∀ g ∈ M, w0.heap.size ≤ g) : RowAt w' a cs := by
  by_cases hc : cs = []
  · rw [hc]; exact RowAt.nil
  · obtain ⟨b, o, rfl, hb, _⟩ := h.get hc
    refine (h.ext0 h0).ext hx fun b' o' e hmem => ?_
    cases e
    have := hm b hmem
    omega
/-- a new row of bytes -/
def FreshB (w w' : World) (u : Value) (l : List (BitVec 8)) : Prop := Ext [] w w' ∧ ∃ a c, u = .slice a l.length c ∧ l.length ≤ c ∧ (a = none → c = 0) ∧ RowAt w' a (bys l) ∧ ∀ x, a = some x → w.heap.size ≤ x.block ∧ x.block < w'.heap.size
theorem CloneB_spec (l : List (BitVec 8)) (a : Option Addr) (n c : Nat) (w : World) (hn : n = l.length) (hl : l.length ≤ 1000000) (h : RowAt w a (bys l)) (hnil : a = none → c = 0) :
    Yld Try.prog n_slices_Clone_byte_byte #[.slice a n c] w fun u w' => FreshB w w' u l := by
  subst hn
  refine slices_Clone_byte_byte_of ?_
  unfold slices_Clone_byte_byte
  cases a with
  | none =>
    have hw : l = [] := by rcases h with h | ⟨b, o, h, _⟩; simpa using h; cases h
    subst hw
    simp (disch := (first | omega | decide | (simp only [World.size_alloc, World.size_setCell, World.size_drew, List.mem_cons, List.not_mem_nil, or_false, not_false_eq_true] <;> omega) | fail)) only [↓xBox_r, ↓loadK_some, ↓loadsK_s, ↓loadsK_n, ↓loadsR_s, ↓loadsR_n, ↓storesK_s, ↓storesK_n, setCells_c, setCells_n, World.setCell_alloc_at, World.setCell_alloc_past, World.cell?_alloc_at, World.cell?_alloc_past, 
      World.frozen?_alloc_at, World.frozen?_alloc_past, World.size_alloc, ↓xPick_t, ↓xPick_f, ↓xGuard_tt, ↓xGuard_ff, ↓xGuard_tf, ↓xGuard_ft, ↓xGuard_u, ↓xNil_r, Option.isNone_some, Option.isNone_none, ↓xIf_t, tick_eq, tickV_eq, ne_eq, 
      dlt_t, dlt_f, dle_t, dle_f, deq_t, deq_f, dne_t, dne_f, not_true_eq_false, Int.reduceAdd, Int.reduceSub, Int.reduceMul, Int.reduceEq, Int.reduceLT, Int.reduceLE, Bool.false_and, Bool.true_and, Bool.and_true, 
      Bool.and_false, ↓xBin_add', ↓xBin_sub', ↓xBin_mul', ↓xBin_quo', ↓xBin_rem', wrap_in, ↓xIf_f, ↓xIf_tt, ↓xEx0, ↓xEx1, ↓xEx2, ↓xEx3, ↓xBin_eqs, ↓xBin_nes, ↓xUn_not, ↓xu8_eql, ↓xu16_eql, ↓xu32_eql, ↓xu64_eql, ↓xi64_eql, Int.toNat_natCast, 
      Int.reduceToNat, Nat.reduceMul, Nat.reduceAdd, Nat.reduceSub, Nat.mul_one, List.nil_append, List.cons_append, List.getElem?_toArray, List.getElem?_cons_zero, List.getElem?_cons_succ, cells_int, cells_bool, cells_string, 
      cells_slice, cells_pointer, cells_agg, one_int, one_bool, one_string, one_slice, one_pointer, List.setIfInBounds_toArray, List.set_cons_zero, List.set_cons_succ, ↓xSq_r, ↓xPur_s, ↓xRd_s, ↓xRe_s, ↓xDet_s, ↓xDet_ld, 
      ↓xDet_ld2, ↓xDet_ld3, ↓xDet_ld4, World.size_drew, Nat.zero_add, Nat.add_zero, cell_drew, frozen_drew, cell_set_eq, cell_set_o, cell_set_b, Option.map_some, World.frozen?_setCell, decide_true, decide_false, List.not_mem_nil, 
      not_false_eq_true, ↓xGuard_tt, Bool.not_true, Bool.not_false, ←decide_not, ↓bs_26_0, ↓bs_26_1, ↓bs_26_2, ↓bs_26_4, ↓nq_26, eq_self]
    exact ⟨by (repeat (first | with_reducible exact Ext.refl _ _ | with_reducible assumption | with_reducible refine Ext.alloc' ?_ _ | with_reducible refine Ext.drew' ?_ | with_reducible refine Ext.set' ?_ ?_ | exact .inr (by first | omega | (simp only [World.size_alloc, World.size_drew, World.size_setCell] <;> omega)) | refine Ext.trans ?_ (by with_reducible assumption))), none, 0, rfl, Nat.le_refl _, fun _ => rfl, RowAt.nil, fun x hx => by cases hx⟩
  | some a =>
    simp (disch := (first | omega | decide | (simp only [World.size_alloc, World.size_setCell, World.size_drew, List.mem_cons, List.not_mem_nil, or_false, not_false_eq_true] <;> omega) | fail)) only [↓xBox_r, ↓loadK_some, ↓loadsK_s, ↓loadsK_n, ↓loadsR_s, ↓loadsR_n, ↓storesK_s, ↓storesK_n, setCells_c, setCells_n, World.setCell_alloc_at, World.setCell_alloc_past, World.cell?_alloc_at, World.cell?_alloc_past, 
      World.frozen?_alloc_at, World.frozen?_alloc_past, World.size_alloc, ↓xPick_t, ↓xPick_f, ↓xGuard_tt, ↓xGuard_ff, ↓xGuard_tf, ↓xGuard_ft, ↓xGuard_u, ↓xNil_r, Option.isNone_some, Option.isNone_none, ↓xIf_t, tick_eq, tickV_eq, ne_eq, 
      dlt_t, dlt_f, dle_t, dle_f, deq_t, deq_f, dne_t, dne_f, not_true_eq_false, Int.reduceAdd, Int.reduceSub, Int.reduceMul, Int.reduceEq, Int.reduceLT, Int.reduceLE, Bool.false_and, Bool.true_and, Bool.and_true, 
      Bool.and_false, ↓xBin_add', ↓xBin_sub', ↓xBin_mul', ↓xBin_quo', ↓xBin_rem', wrap_in, ↓xIf_f, ↓xIf_tt, ↓xEx0, ↓xEx1, ↓xEx2, ↓xEx3, ↓xBin_eqs, ↓xBin_nes, ↓xUn_not, ↓xu8_eql, ↓xu16_eql, ↓xu32_eql, ↓xu64_eql, ↓xi64_eql, Int.toNat_natCast, 
      Int.reduceToNat, Nat.reduceMul, Nat.reduceAdd, Nat.reduceSub, Nat.mul_one, List.nil_append, List.cons_append, List.getElem?_toArray, List.getElem?_cons_zero, List.getElem?_cons_succ, cells_int, cells_bool, cells_string, 
      cells_slice, cells_pointer, cells_agg, one_int, one_bool, one_string, one_slice, one_pointer, List.setIfInBounds_toArray, List.set_cons_zero, List.set_cons_succ, ↓xSq_r, ↓xPur_s, ↓xRd_s, ↓xRe_s, ↓xDet_s, ↓xDet_ld, 
      ↓xDet_ld2, ↓xDet_ld3, ↓xDet_ld4, World.size_drew, Nat.zero_add, Nat.add_zero, cell_drew, frozen_drew, cell_set_eq, cell_set_o, cell_set_b, Option.map_some, World.frozen?_setCell, decide_true, decide_false, List.not_mem_nil, 
      not_false_eq_true, ↓xGuard_tt, Bool.not_true, Bool.not_false, ←decide_not, ↓bs_26_0, ↓bs_26_1, ↓bs_26_2, ↓bs_26_4, ↓nq_26, eq_self]
    refine xAppend_own (e := 5) (base := w.heap.size) (xs := []) (news := bys l) (z := .int .u8 0) (bytes := 1) (by kernel_rfl) (by kernel_rfl) (by rfl) (World.ownsRow_lit w #[] 0 (Nat.le_refl _) (by decide) (by rfl)) (by simp) (h.ext0 (Ext.alloc _ _ _)) hnil (by simp [Value.oneCell']) (by omega) (by omega) (by simp) ?_
    intro v' w' hown hgr
    rw [Nat.zero_add, List.nil_append] at hown
    have F2 : Ext [] w w' := grownBy_new (Ext.alloc [] w _) hgr (fun k hk => by simp [Value.ownBlock] at hk; omega)
    obtain ⟨a', c', rfl, h1, hc', hn', hr'⟩ := own_slice hown
    exact ⟨F2, a', c', rfl, hc', hn', hr', fun x hx => by subst hx; exact hown.lt _ rfl⟩
theorem ClipB_spec {w : World} {b : Option Addr} {n m : Nat} (hm : n ≤ m) : Gives Try.prog n_slices_Clip_byte_byte #[.slice b n m] w (.slice b n n) := by
  refine slices_Clip_byte_byte_of ?_
  unfold slices_Clip_byte_byte
  simp (disch := (first | omega | decide | (simp only [World.size_alloc, World.size_setCell, World.size_drew, List.mem_cons, List.not_mem_nil, or_false, not_false_eq_true] <;> omega) | fail)) only [↓xBox_r, ↓loadK_some, ↓loadsK_s, ↓loadsK_n, ↓loadsR_s, ↓loadsR_n, ↓storesK_s, ↓storesK_n, setCells_c, setCells_n, World.setCell_alloc_at, World.setCell_alloc_past, World.cell?_alloc_at, World.cell?_alloc_past, 
      World.frozen?_alloc_at, World.frozen?_alloc_past, World.size_alloc, ↓xPick_t, ↓xPick_f, ↓xGuard_tt, ↓xGuard_ff, ↓xGuard_tf, ↓xGuard_ft, ↓xGuard_u, ↓xNil_r, Option.isNone_some, Option.isNone_none, ↓xIf_t, tick_eq, tickV_eq, ne_eq, 
      dlt_t, dlt_f, dle_t, dle_f, deq_t, deq_f, dne_t, dne_f, not_true_eq_false, Int.reduceAdd, Int.reduceSub, Int.reduceMul, Int.reduceEq, Int.reduceLT, Int.reduceLE, Bool.false_and, Bool.true_and, Bool.and_true, 
      Bool.and_false, ↓xBin_add', ↓xBin_sub', ↓xBin_mul', ↓xBin_quo', ↓xBin_rem', wrap_in, ↓xIf_f, ↓xIf_tt, ↓xEx0, ↓xEx1, ↓xEx2, ↓xEx3, ↓xBin_eqs, ↓xBin_nes, ↓xUn_not, Int.toNat_natCast, Int.reduceToNat, Nat.reduceMul, Nat.reduceAdd, 
      Nat.reduceSub, Nat.mul_one, List.nil_append, List.cons_append, List.getElem?_toArray, List.getElem?_cons_zero, List.getElem?_cons_succ, cells_int, cells_bool, cells_string, cells_slice, cells_pointer, cells_agg, one_int, 
      one_bool, one_string, one_slice, one_pointer, List.setIfInBounds_toArray, List.set_cons_zero, List.set_cons_succ, ↓xSq_r, ↓xPur_s, ↓xRd_s, ↓xRe_s, ↓xDet_s, ↓xDet_ld, ↓xDet_ld2, ↓xDet_ld3, ↓xDet_ld4, World.size_drew, 
      Nat.zero_add, Nat.add_zero, cell_drew, frozen_drew, cell_set_eq, cell_set_o, cell_set_b, Option.map_some, World.frozen?_setCell, decide_true, decide_false, List.not_mem_nil, not_false_eq_true, ↓xGuard_tt, Bool.not_true, 
      Bool.not_false, ←decide_not, ↓ln_26, ↓sh_26, ↓sl_26, ↓sm_26, eq_self]
  exact ⟨by trivial, by (repeat (first | with_reducible exact Ext.refl _ _ | with_reducible assumption | with_reducible refine Ext.alloc' ?_ _ | with_reducible refine Ext.drew' ?_ | with_reducible refine Ext.set' ?_ ?_ | exact .inr (by first | omega | (simp only [World.size_alloc, World.size_drew, World.size_setCell] <;> omega)) | refine Ext.trans ?_ (by with_reducible assumption)))⟩
theorem ClipW_spec {w : World} {b : Option Addr} {n m : Nat} (hm : n ≤ m) : Gives Try.prog n_slices_Clip_uint64_uint64 #[.slice b n m] w (.slice b n n) := by
  refine slices_Clip_uint64_uint64_of ?_
  unfold slices_Clip_uint64_uint64
  simp (disch := (first | omega | decide | (simp only [World.size_alloc, World.size_setCell, World.size_drew, List.mem_cons, List.not_mem_nil, or_false, not_false_eq_true] <;> omega) | fail)) only [↓xBox_r, ↓loadK_some, ↓loadsK_s, ↓loadsK_n, ↓loadsR_s, ↓loadsR_n, ↓storesK_s, ↓storesK_n, setCells_c, setCells_n, World.setCell_alloc_at, World.setCell_alloc_past, World.cell?_alloc_at, World.cell?_alloc_past, 
      World.frozen?_alloc_at, World.frozen?_alloc_past, World.size_alloc, ↓xPick_t, ↓xPick_f, ↓xGuard_tt, ↓xGuard_ff, ↓xGuard_tf, ↓xGuard_ft, ↓xGuard_u, ↓xNil_r, Option.isNone_some, Option.isNone_none, ↓xIf_t, tick_eq, tickV_eq, ne_eq, 
      dlt_t, dlt_f, dle_t, dle_f, deq_t, deq_f, dne_t, dne_f, not_true_eq_false, Int.reduceAdd, Int.reduceSub, Int.reduceMul, Int.reduceEq, Int.reduceLT, Int.reduceLE, Bool.false_and, Bool.true_and, Bool.and_true, 
      Bool.and_false, ↓xBin_add', ↓xBin_sub', ↓xBin_mul', ↓xBin_quo', ↓xBin_rem', wrap_in, ↓xIf_f, ↓xIf_tt, ↓xEx0, ↓xEx1, ↓xEx2, ↓xEx3, ↓xBin_eqs, ↓xBin_nes, ↓xUn_not, Int.toNat_natCast, Int.reduceToNat, Nat.reduceMul, Nat.reduceAdd, 
      Nat.reduceSub, Nat.mul_one, List.nil_append, List.cons_append, List.getElem?_toArray, List.getElem?_cons_zero, List.getElem?_cons_succ, cells_int, cells_bool, cells_string, cells_slice, cells_pointer, cells_agg, one_int, 
      one_bool, one_string, one_slice, one_pointer, List.setIfInBounds_toArray, List.set_cons_zero, List.set_cons_succ, ↓xSq_r, ↓xPur_s, ↓xRd_s, ↓xRe_s, ↓xDet_s, ↓xDet_ld, ↓xDet_ld2, ↓xDet_ld3, ↓xDet_ld4, World.size_drew, 
      Nat.zero_add, Nat.add_zero, cell_drew, frozen_drew, cell_set_eq, cell_set_o, cell_set_b, Option.map_some, World.frozen?_setCell, decide_true, decide_false, List.not_mem_nil, not_false_eq_true, ↓xGuard_tt, Bool.not_true, 
      Bool.not_false, ←decide_not, ↓ln_30, ↓sh_30, ↓sm_30, eq_self]
  exact ⟨by trivial, by (repeat (first | with_reducible exact Ext.refl _ _ | with_reducible assumption | with_reducible refine Ext.alloc' ?_ _ | with_reducible refine Ext.drew' ?_ | with_reducible refine Ext.set' ?_ ?_ | exact .inr (by first | omega | (simp only [World.size_alloc, World.size_drew, World.size_setCell] <;> omega)) | refine Ext.trans ?_ (by with_reducible assumption)))⟩

/-! ### what is written -/
abbrev enB (g : Nat) (v : Value) : List Nat := g :: v.ownBlock.toList
structure EncIs (w : World) (base g : Nat) (v : Value) (l : List (BitVec 8)) : Prop where
  lo : base ≤ g
  blk : Blk w g 28 [v]
  own : w.ownsRow base 5 1 v l.length (bys l)
  ne : v.ownBlock ≠ some g
def EncTo (w w' : World) (base g : Nat) (v : Value) (l : List (BitVec 8)) : Prop := ∃ v', Ext (enB g v) w w' ∧ EncIs w' base g v' l ∧ ∀ b ∈ enB g v', b ∈ enB g v ∨ w.heap.size ≤ b
theorem EncIs.ext {w w' : World} {base g : Nat} {v : Value} {l : List (BitVec 8)} {M : List Nat} (h : EncIs w base g v l) (hx : Ext M w w') (hm : ∀ b ∈ enB g v, b ∉ M) : EncIs w' base g v l :=
  ⟨h.lo, h.blk.ext hx (hm g (List.mem_cons_self ..)), own_extM h.own hx fun b hb => hm b (by simp [enB, hb]), h.ne⟩
theorem EncIs.ext0 {w w' : World} {base g : Nat} {v : Value} {l : List (BitVec 8)} (h : EncIs w base g v l) (hx : Ext [] w w') : EncIs w' base g v l := h.ext hx (by simp)
theorem EncIs.up {w : World} {base g : Nat} {v : Value} {l : List (BitVec 8)} (h : EncIs w base g v l) : ∀ b ∈ enB g v, base ≤ b ∧ b < w.heap.size := by
  intro b hb
  simp only [enB, List.mem_cons, Option.mem_toList] at hb
  rcases hb with rfl | hb
  · exact ⟨h.lo, h.blk.lt⟩
  · exact h.own.lt b hb
theorem EncTo.refl {w w' : World} {base g : Nat} {v : Value} {l : List (BitVec 8)} (h : EncIs w base g v l) (hx : Ext [] w w') : EncTo w w' base g v l := ⟨v, hx.more (by simp), h.ext0 hx, fun b hb => .inl hb⟩
theorem EncTo.step {w w1 w2 : World} {base g : Nat} {v v1 : Value} {l : List (BitVec 8)} (hx : Ext (enB g v) w w1) (hs : ∀ b ∈ enB g v1, b ∈ enB g v ∨ w.heap.size ≤ b) (h : EncTo w1 w2 base g v1 l) : EncTo w w2 base g v l := by
  obtain ⟨v2, h1, h2, h3⟩ := h
  refine ⟨v2, hx.cut h1 hs, h2, fun b hb => ?_⟩
  rcases h3 b hb with h | h
  · exact hs b h
  · exact .inr (Nat.le_trans hx.size h)
/-- more bytes put behind -/
theorem enc_put {w v2 w' : World} {base g : Nat} {s v' : Value} {l m : List (BitVec 8)} (h : EncIs w base g s l) (hx : Ext [] w v2) (hown : w'.ownsRow base 5 1 v' (l.length + m.length) (bys l ++ bys m)) (hgr : v2.grownBy w' s.ownBlock)
    (hwh : v'.ownBlock = s.ownBlock ∨ v'.ownBlock = some v2.heap.size) : w'.cell? ⟨g, 0, none⟩ = some s ∧ w'.frozen? ⟨g, 0, none⟩ = false ∧ EncTo w (w'.setCell ⟨g, 0, none⟩ v') base g s (l ++ m) := by
  have hz := hx.size
  have hg := h.blk.lt
  have E1 : Ext s.ownBlock.toList v2 w' := grownBy_ext hgr (by simp)
  have E2 : Ext (enB g s) w w' := (hx.more (by simp)).trans (E1.more fun x hx => List.mem_cons_of_mem _ hx)
  have B1 : Blk w' g 28 [s] := (h.blk.ext hx (by simp)).ext E1 (by simpa using h.ne)
  have hne : v'.ownBlock ≠ some g := by
    rcases hwh with e | e <;> rw [e]
    · exact h.ne
    · intro e2; simp at e2; omega
  refine ⟨by rw [B1.cell]; rfl, B1.frozen, v', E2.set' (.inl (List.mem_cons_self ..)), ⟨h.lo, B1.set (i := 0) (v := v'), ?_, hne⟩, fun b hb => ?_⟩
  · rw [List.length_append, bys, List.map_append]
    exact own_extM hown (Ext.set (b := g)) (by intro b hb hm; simp at hm; rw [hm] at hb; exact hne hb)
  · simp only [enB, List.mem_cons, Option.mem_toList] at hb ⊢
    rcases hb with e | e
    · exact .inl (.inl e)
    · rcases hwh with e2 | e2
      · exact .inl (.inr (by rw [← e2]; exact e))
      · rw [e2] at e; simp at e; exact .inr (by omega)
/-- a row onto which bytes are put: what stands there, and what shall -/
def leApp (base : Nat) (s : Value) (xs ys : List Value) (w w' : World) : Prop :=
  Ext s.ownBlock.toList w w' ∧ (w.ownsRow base 5 1 s xs.length xs → w'.ownsRow base 5 1 s xs.length xs) ∧ ∀ u, w.ownsRow base 5 1 u (xs ++ ys).length (xs ++ ys) → w'.ownsRow base 5 1 u (xs ++ ys).length (xs ++ ys)
theorem leApp.refl {base : Nat} {s : Value} {xs ys : List Value} (w : World) : leApp base s xs ys w w := ⟨Ext.refl _ _, id, fun _ => id⟩
theorem leApp.trans {base : Nat} {s : Value} {xs ys : List Value} {a b c : World} (h : leApp base s xs ys a b) (k : leApp base s xs ys b c) : leApp base s xs ys a c :=
  ⟨h.1.trans k.1, k.2.1 ∘ h.2.1, fun u => k.2.2 u ∘ h.2.2 u⟩
theorem leApp.of {base : Nat} {s : Value} {xs ys : List Value} {w w' : World} (h : Ext [] w w') : leApp base s xs ys w w' := ⟨h.more (by simp), fun h0 => own_ext h0 h, fun _ h0 => own_ext h0 h⟩
theorem leApp.app {base : Nat} {s v' : Value} {xs ys : List Value} {w w' : World} (ho : w.ownsRow base 5 1 s xs.length xs) (hown : w'.ownsRow base 5 1 v' (xs ++ ys).length (xs ++ ys)) (hgr : w.grownBy w' s.ownBlock)
    (hwh : v'.ownBlock = s.ownBlock ∧ w'.ownsRow base 5 1 s xs.length xs ∨ v'.ownBlock = some w.heap.size ∧ w.grownBy w' none) : leApp base s xs ys w w' := by
  rcases hwh with ⟨h1, h2⟩ | ⟨_, h2⟩
  · refine ⟨grownBy_ext hgr (by simp), fun _ => h2, fun u hu => ?_⟩
    by_cases hb : u.ownBlock = s.ownBlock
    · refine ⟨hu.1, ?_⟩
      rcases hu.2 with h0 | ⟨g, cap, cur, rfl, hb1, hg, c1, c2, c3, c4⟩
      · exact .inl h0
      · have hsb : s.ownBlock = some g := hb.symm
        rcases h2.2 with ⟨rfl, _⟩ | ⟨g2, cap2, cur2, rfl, _, hg2, _, _, d3, _⟩
        · cases hsb
        · rcases ho.2 with ⟨e0, _⟩ | ⟨g3, cap3, cur3, e3, _, hg3, _, _, f3, _⟩
          · cases e0
          · simp only [Value.slice.injEq, Option.some.injEq, Addr.mk.injEq, and_true, true_and] at e3
            have hgg : g2 = g := by simpa [Value.ownBlock] using hsb
            obtain ⟨e4, e5⟩ := e3
            subst hgg e4 e5
            rw [hg] at hg3
            have hcc : cur = cur3 := by simpa using hg3
            rcases hown.2 with ⟨e6, _⟩ | ⟨g4, cap4, cur4, e6, _, hg4, _, _, _, k4⟩
            · rw [e6] at h1; cases h1
            · rw [e6] at h1
              have hgg4 : g4 = g2 := by simpa [Value.ownBlock] using h1
              subst hgg4
              rw [hg2] at hg4
              have hcc4 : cur2 = cur4 := by simpa using hg4
              subst hcc hcc4
              exact .inr ⟨g4, cap, cur2, rfl, hb1, hg2, c1, c2, by rw [d3, ← f3, c3], k4⟩
    · have hx : Ext s.ownBlock.toList w w' := grownBy_ext hgr (by simp)
      refine own_extM hu hx fun b hbb hm => hb ?_
      rw [hbb]
      exact (by simpa using hm : s.ownBlock = some b).symm
  · have hx : Ext [] w w' := grownBy_ext h2 (by simp)
    exact leApp.of hx
theorem lit_rowC {w : World} {l : List (BitVec 8)} : RowAt (w.alloc (.cells (bys l).toArray 5)) (some ⟨w.heap.size, 0, none⟩) (bys l) := (Blk.new (e := 5) w (bys l)).row
section
variable {w : World} {base g : Nat} {v : Value} {l : List (BitVec 8)}
theorem Enc_Uint_spec (x : BitVec 64) (h : EncIs w base g v l) (hl : l.length ≤ 1000000) : Yld Try.prog n_codec_Enc_Uint #[ptr g, u64 x] w fun u w' => u = .tuple #[] ∧ EncTo w w' base g v (l ++ uintB x) := by
  refine codec_Enc_Uint_of ?_
  unfold codec_Enc_Uint
  have hpos : 0 < (uintB x).length := uintF_pos
  have hle : (uintB x).length ≤ 10 := uintF_le
  refine xLoop_r ((uintB x).length - 1) (fun k vs w' => ∃ y l', vs = [u64 y] ∧ uintB x = l' ++ uintF (10 - k) y ∧ y.toNat < 2 ^ (7 * (10 - k)) ∧ l'.length = k ∧ EncTo w w' base g v (l ++ l'))
    ⟨x, [], rfl, rfl, Nat.lt_of_lt_of_le x.isLt (by decide), rfl, by rw [List.append_nil]; exact EncTo.refl h (Ext.refl _ _)⟩ ?_ ?_
  · rintro k hk u w1 ⟨y, l', hu, hxe, hy, hl', hT⟩ nxt hnx
    simp only [List.map_cons, List.map_nil, List.cons.injEq, and_true] at hu
    rw [hu]
    obtain ⟨s, F1, H1, hs⟩ := hT
    have hlen := congrArg List.length hxe
    rw [List.length_append, hl'] at hlen
    have e10 : 10 - k = (9 - k) + 1 := by omega
    have hge : 128 ≤ y.toNat := by
      rw [e10] at hlen
      exact uintF_more (k := 9 - k) (by omega)
    have hcell : w1.cell? ⟨g, 0, none⟩ = some s := by rw [H1.blk.cell]; rfl
    obtain ⟨a2, c2, rfl, _, hc2, hn2, _⟩ := own_slice H1.own
    unfold codec_Enc_Uint_l1
    have d1 : decide ((BitVec.ofNat 64 128).toNat ≤ y.toNat) = true := decide_eq_true hge
    simp (disch := (first | omega | decide | (simp only [World.size_alloc, World.size_setCell, World.size_drew, List.mem_cons, List.not_mem_nil, or_false, not_false_eq_true] <;> omega) | fail)) only [↓xBox_r, ↓loadK_some, ↓loadsK_s, ↓loadsK_n, ↓loadsR_s, ↓loadsR_n, ↓storesK_s, ↓storesK_n, setCells_c, setCells_n, World.setCell_alloc_at, World.setCell_alloc_past, World.cell?_alloc_at, World.cell?_alloc_past, 
      World.frozen?_alloc_at, World.frozen?_alloc_past, World.size_alloc, ↓xPick_t, ↓xPick_f, ↓xGuard_tt, ↓xGuard_ff, ↓xGuard_tf, ↓xGuard_ft, ↓xGuard_u, ↓xNil_r, Option.isNone_some, Option.isNone_none, ↓xIf_t, tick_eq, tickV_eq, ne_eq, 
      dlt_t, dlt_f, dle_t, dle_f, deq_t, deq_f, dne_t, dne_f, not_true_eq_false, Int.reduceAdd, Int.reduceSub, Int.reduceMul, Int.reduceEq, Int.reduceLT, Int.reduceLE, Bool.false_and, Bool.true_and, Bool.and_true, 
      Bool.and_false, ↓xBin_add', ↓xBin_sub', ↓xBin_mul', ↓xBin_quo', ↓xBin_rem', wrap_in, ↓xIf_f, ↓xIf_tt, ↓xEx0, ↓xEx1, ↓xEx2, ↓xEx3, ↓xBin_eqs, ↓xBin_nes, ↓xUn_not, ↓xu8_and, ↓xu8_or, ↓xu8_shr, ↓xu8_geq, ↓xu16_and, ↓xu16_or, 
      ↓xu16_shr, ↓xu16_geq, ↓xu32_and, ↓xu32_or, ↓xu32_shr, ↓xu32_geq, ↓xu64_and, ↓xu64_or, ↓xu64_shr, ↓xu64_geq, ↓xi64_geq, ↓xi64_and, ↓xi64_or, ↓xi64_shr, Int.toNat_natCast, Int.reduceToNat, Nat.reduceMul, Nat.reduceAdd, 
      Nat.reduceSub, Nat.mul_one, List.nil_append, List.cons_append, List.getElem?_toArray, List.getElem?_cons_zero, List.getElem?_cons_succ, cells_int, cells_bool, cells_string, cells_slice, cells_pointer, cells_agg, one_int, 
      one_bool, one_string, one_slice, one_pointer, List.setIfInBounds_toArray, List.set_cons_zero, List.set_cons_succ, ↓xSq_r, ↓xPur_s, ↓xRd_s, ↓xRe_s, ↓xDet_s, ↓xDet_ld, ↓xDet_ld2, ↓xDet_ld3, ↓xDet_ld4, World.size_drew, 
      Nat.zero_add, Nat.add_zero, cell_drew, frozen_drew, cell_set_eq, cell_set_o, cell_set_b, Option.map_some, World.frozen?_setCell, decide_true, decide_false, List.not_mem_nil, not_false_eq_true, ↓xGuard_tt, Bool.not_true, 
      Bool.not_false, ←decide_not, ↓ld_26, ↓fa_28_0, ↓st_26, ↓cv_29_5, ↓bs_26_0, ↓bs_26_1, ↓bs_26_2, ↓bs_26_4, d1, hcell]
    refine xAppend_own2 (e := 5) (base := base) (news := bys [lowB y]) (z := .int .u8 0) (bytes := 1) (by kernel_rfl) (by kernel_rfl) (by rfl) (own_ext H1.own (Ext.alloc [] w1 _)) (by rfl) lit_rowC (by simp) (by simp [Value.oneCell']) (by simp; omega) (by simp; omega) (by have := H1.lo; have := H1.blk.lt; simp; omega) ?_
    intro v' w' hown hgr hwh
    obtain ⟨c3, f3, T3⟩ := enc_put (m := [lowB y]) H1 (Ext.alloc [] w1 _) hown hgr (hwh.imp And.left And.left)
    obtain ⟨a3, cc3, rfl, _, _, _, _⟩ := own_slice hown
    simp (disch := (first | omega | decide | (simp only [World.size_alloc, World.size_setCell, World.size_drew, List.mem_cons, List.not_mem_nil, or_false, not_false_eq_true] <;> omega) | fail)) only [↓xBox_r, ↓loadK_some, ↓loadsK_s, ↓loadsK_n, ↓loadsR_s, ↓loadsR_n, ↓storesK_s, ↓storesK_n, setCells_c, setCells_n, World.setCell_alloc_at, World.setCell_alloc_past, World.cell?_alloc_at, World.cell?_alloc_past, 
      World.frozen?_alloc_at, World.frozen?_alloc_past, World.size_alloc, ↓xPick_t, ↓xPick_f, ↓xGuard_tt, ↓xGuard_ff, ↓xGuard_tf, ↓xGuard_ft, ↓xGuard_u, ↓xNil_r, Option.isNone_some, Option.isNone_none, ↓xIf_t, tick_eq, tickV_eq, ne_eq, 
      dlt_t, dlt_f, dle_t, dle_f, deq_t, deq_f, dne_t, dne_f, not_true_eq_false, Int.reduceAdd, Int.reduceSub, Int.reduceMul, Int.reduceEq, Int.reduceLT, Int.reduceLE, Bool.false_and, Bool.true_and, Bool.and_true, 
      Bool.and_false, ↓xBin_add', ↓xBin_sub', ↓xBin_mul', ↓xBin_quo', ↓xBin_rem', wrap_in, ↓xIf_f, ↓xIf_tt, ↓xEx0, ↓xEx1, ↓xEx2, ↓xEx3, ↓xBin_eqs, ↓xBin_nes, ↓xUn_not, ↓xu8_and, ↓xu8_or, ↓xu8_shr, ↓xu8_geq, ↓xu16_and, ↓xu16_or, 
      ↓xu16_shr, ↓xu16_geq, ↓xu32_and, ↓xu32_or, ↓xu32_shr, ↓xu32_geq, ↓xu64_and, ↓xu64_or, ↓xu64_shr, ↓xu64_geq, ↓xi64_geq, ↓xi64_and, ↓xi64_or, ↓xi64_shr, Int.toNat_natCast, Int.reduceToNat, Nat.reduceMul, Nat.reduceAdd, 
      Nat.reduceSub, Nat.mul_one, List.nil_append, List.cons_append, List.getElem?_toArray, List.getElem?_cons_zero, List.getElem?_cons_succ, cells_int, cells_bool, cells_string, cells_slice, cells_pointer, cells_agg, one_int, 
      one_bool, one_string, one_slice, one_pointer, List.setIfInBounds_toArray, List.set_cons_zero, List.set_cons_succ, ↓xSq_r, ↓xPur_s, ↓xRd_s, ↓xRe_s, ↓xDet_s, ↓xDet_ld, ↓xDet_ld2, ↓xDet_ld3, ↓xDet_ld4, World.size_drew, 
      Nat.zero_add, Nat.add_zero, cell_drew, frozen_drew, cell_set_eq, cell_set_o, cell_set_b, Option.map_some, World.frozen?_setCell, decide_true, decide_false, List.not_mem_nil, not_false_eq_true, ↓xGuard_tt, Bool.not_true, 
      Bool.not_false, ←decide_not, ↓ld_26, ↓fa_28_0, ↓st_26, ↓cv_29_5, ↓bs_26_0, ↓bs_26_1, ↓bs_26_2, ↓bs_26_4, d1, hcell, c3, f3]
    refine hnx _ _ ⟨y >>> 7, l' ++ [lowB y], rfl, ?_, ?_, by simp [hl'], ?_⟩
    · rw [hxe, e10, show 10 - (k + 1) = 9 - k by omega]
      rw [uintF_succ, if_pos hge]
      simp
    · rw [e10] at hy
      rw [show 10 - (k + 1) = 9 - k by omega]
      exact shr7_lt hy
    · rw [← List.append_assoc]
      exact EncTo.step F1 hs T3
  · rintro u w1 ⟨y, l', hu, hxe, hy, hl', hT⟩ nxt
    simp only [List.map_cons, List.map_nil, List.cons.injEq, and_true] at hu
    rw [hu]
    obtain ⟨s, F1, H1, hs⟩ := hT
    have hlen := congrArg List.length hxe
    rw [List.length_append, hl'] at hlen
    generalize hk : (uintB x).length - 1 = k at *
    have e10 : 10 - k = (9 - k) + 1 := by omega
    rw [e10] at hlen hy hxe
    have hlt : y.toNat < 128 := uintF_one hy (by omega)
    have hcell : w1.cell? ⟨g, 0, none⟩ = some s := by rw [H1.blk.cell]; rfl
    obtain ⟨a2, c2, rfl, _, hc2, hn2, _⟩ := own_slice H1.own
    unfold codec_Enc_Uint_l1
    have d1 : decide ((BitVec.ofNat 64 128).toNat ≤ y.toNat) = false := decide_eq_false (by show ¬ 128 ≤ _; omega)
    simp (disch := (first | omega | decide | (simp only [World.size_alloc, World.size_setCell, World.size_drew, List.mem_cons, List.not_mem_nil, or_false, not_false_eq_true] <;> omega) | fail)) only [↓xBox_r, ↓loadK_some, ↓loadsK_s, ↓loadsK_n, ↓loadsR_s, ↓loadsR_n, ↓storesK_s, ↓storesK_n, setCells_c, setCells_n, World.setCell_alloc_at, World.setCell_alloc_past, World.cell?_alloc_at, World.cell?_alloc_past, 
      World.frozen?_alloc_at, World.frozen?_alloc_past, World.size_alloc, ↓xPick_t, ↓xPick_f, ↓xGuard_tt, ↓xGuard_ff, ↓xGuard_tf, ↓xGuard_ft, ↓xGuard_u, ↓xNil_r, Option.isNone_some, Option.isNone_none, ↓xIf_t, tick_eq, tickV_eq, ne_eq, 
      dlt_t, dlt_f, dle_t, dle_f, deq_t, deq_f, dne_t, dne_f, not_true_eq_false, Int.reduceAdd, Int.reduceSub, Int.reduceMul, Int.reduceEq, Int.reduceLT, Int.reduceLE, Bool.false_and, Bool.true_and, Bool.and_true, 
      Bool.and_false, ↓xBin_add', ↓xBin_sub', ↓xBin_mul', ↓xBin_quo', ↓xBin_rem', wrap_in, ↓xIf_f, ↓xIf_tt, ↓xEx0, ↓xEx1, ↓xEx2, ↓xEx3, ↓xBin_eqs, ↓xBin_nes, ↓xUn_not, ↓xu8_and, ↓xu8_or, ↓xu8_shr, ↓xu8_geq, ↓xu16_and, ↓xu16_or, 
      ↓xu16_shr, ↓xu16_geq, ↓xu32_and, ↓xu32_or, ↓xu32_shr, ↓xu32_geq, ↓xu64_and, ↓xu64_or, ↓xu64_shr, ↓xu64_geq, ↓xi64_geq, ↓xi64_and, ↓xi64_or, ↓xi64_shr, Int.toNat_natCast, Int.reduceToNat, Nat.reduceMul, Nat.reduceAdd, 
      Nat.reduceSub, Nat.mul_one, List.nil_append, List.cons_append, List.getElem?_toArray, List.getElem?_cons_zero, List.getElem?_cons_succ, cells_int, cells_bool, cells_string, cells_slice, cells_pointer, cells_agg, one_int, 
      one_bool, one_string, one_slice, one_pointer, List.setIfInBounds_toArray, List.set_cons_zero, List.set_cons_succ, ↓xSq_r, ↓xPur_s, ↓xRd_s, ↓xRe_s, ↓xDet_s, ↓xDet_ld, ↓xDet_ld2, ↓xDet_ld3, ↓xDet_ld4, World.size_drew, 
      Nat.zero_add, Nat.add_zero, cell_drew, frozen_drew, cell_set_eq, cell_set_o, cell_set_b, Option.map_some, World.frozen?_setCell, decide_true, decide_false, List.not_mem_nil, not_false_eq_true, ↓xGuard_tt, Bool.not_true, 
      Bool.not_false, ←decide_not, ↓ld_26, ↓fa_28_0, ↓st_26, ↓cv_29_5, ↓bs_26_0, ↓bs_26_1, ↓bs_26_2, ↓bs_26_4, d1, hcell]
    refine xAppend_own2 (e := 5) (base := base) (news := bys [y.setWidth 8]) (z := .int .u8 0) (bytes := 1) (by kernel_rfl) (by kernel_rfl) (by rfl) (own_ext H1.own (Ext.alloc [] w1 _)) (by rfl) lit_rowC (by simp) (by simp [Value.oneCell']) (by simp; omega) (by simp; omega) (by have := H1.lo; have := H1.blk.lt; simp; omega) ?_
    intro v' w' hown hgr hwh
    obtain ⟨c3, f3, T3⟩ := enc_put (m := [y.setWidth 8]) H1 (Ext.alloc [] w1 _) hown hgr (hwh.imp And.left And.left)
    obtain ⟨a3, cc3, rfl, _, _, _, _⟩ := own_slice hown
    simp (disch := (first | omega | decide | (simp only [World.size_alloc, World.size_setCell, World.size_drew, List.mem_cons, List.not_mem_nil, or_false, not_false_eq_true] <;> omega) | fail)) only [↓xBox_r, ↓loadK_some, ↓loadsK_s, ↓loadsK_n, ↓loadsR_s, ↓loadsR_n, ↓storesK_s, ↓storesK_n, setCells_c, setCells_n, World.setCell_alloc_at, World.setCell_alloc_past, World.cell?_alloc_at, World.cell?_alloc_past, 
      World.frozen?_alloc_at, World.frozen?_alloc_past, World.size_alloc, ↓xPick_t, ↓xPick_f, ↓xGuard_tt, ↓xGuard_ff, ↓xGuard_tf, ↓xGuard_ft, ↓xGuard_u, ↓xNil_r, Option.isNone_some, Option.isNone_none, ↓xIf_t, tick_eq, tickV_eq, ne_eq, 
      dlt_t, dlt_f, dle_t, dle_f, deq_t, deq_f, dne_t, dne_f, not_true_eq_false, Int.reduceAdd, Int.reduceSub, Int.reduceMul, Int.reduceEq, Int.reduceLT, Int.reduceLE, Bool.false_and, Bool.true_and, Bool.and_true, 
      Bool.and_false, ↓xBin_add', ↓xBin_sub', ↓xBin_mul', ↓xBin_quo', ↓xBin_rem', wrap_in, ↓xIf_f, ↓xIf_tt, ↓xEx0, ↓xEx1, ↓xEx2, ↓xEx3, ↓xBin_eqs, ↓xBin_nes, ↓xUn_not, ↓xu8_and, ↓xu8_or, ↓xu8_shr, ↓xu8_geq, ↓xu16_and, ↓xu16_or, 
      ↓xu16_shr, ↓xu16_geq, ↓xu32_and, ↓xu32_or, ↓xu32_shr, ↓xu32_geq, ↓xu64_and, ↓xu64_or, ↓xu64_shr, ↓xu64_geq, ↓xi64_geq, ↓xi64_and, ↓xi64_or, ↓xi64_shr, Int.toNat_natCast, Int.reduceToNat, Nat.reduceMul, Nat.reduceAdd, 
      Nat.reduceSub, Nat.mul_one, List.nil_append, List.cons_append, List.getElem?_toArray, List.getElem?_cons_zero, List.getElem?_cons_succ, cells_int, cells_bool, cells_string, cells_slice, cells_pointer, cells_agg, one_int, 
      one_bool, one_string, one_slice, one_pointer, List.setIfInBounds_toArray, List.set_cons_zero, List.set_cons_succ, ↓xSq_r, ↓xPur_s, ↓xRd_s, ↓xRe_s, ↓xDet_s, ↓xDet_ld, ↓xDet_ld2, ↓xDet_ld3, ↓xDet_ld4, World.size_drew, 
      Nat.zero_add, Nat.add_zero, cell_drew, frozen_drew, cell_set_eq, cell_set_o, cell_set_b, Option.map_some, World.frozen?_setCell, decide_true, decide_false, List.not_mem_nil, not_false_eq_true, ↓xGuard_tt, Bool.not_true, 
      Bool.not_false, ←decide_not, ↓ld_26, ↓fa_28_0, ↓st_26, ↓cv_29_5, ↓bs_26_0, ↓bs_26_1, ↓bs_26_2, ↓bs_26_4, d1, hcell, c3, f3]
    refine ⟨by trivial, ?_⟩
    have e : uintB x = l' ++ [y.setWidth 8] := by
      rw [hxe, uintF_succ, if_neg (by omega)]
    rw [e, ← List.append_assoc]
    exact EncTo.step F1 hs T3

/-- a number with a sign as one without -/
def zig (v : Int) : BitVec 64 := (BitVec.ofInt 64 v <<< 1) ^^^ BitVec.ofInt 64 (v.fdiv (2 ^ 63))
theorem Enc_Int_spec (x : Int) (h : EncIs w base g v l) (hl : l.length ≤ 1000000) : Yld Try.prog n_codec_Enc_Int #[ptr g, i64 x] w fun u w' => u = .tuple #[] ∧ EncTo w w' base g v (l ++ uintB (zig x)) := by
  refine codec_Enc_Int_of ?_
  unfold codec_Enc_Int
  simp (disch := (first | omega | decide | (simp only [World.size_alloc, World.size_setCell, World.size_drew, List.mem_cons, List.not_mem_nil, or_false, not_false_eq_true] <;> omega) | fail)) only [↓xBox_r, ↓loadK_some, ↓loadsK_s, ↓loadsK_n, ↓loadsR_s, ↓loadsR_n, ↓storesK_s, ↓storesK_n, setCells_c, setCells_n, World.setCell_alloc_at, World.setCell_alloc_past, World.cell?_alloc_at, World.cell?_alloc_past, 
      World.frozen?_alloc_at, World.frozen?_alloc_past, World.size_alloc, ↓xPick_t, ↓xPick_f, ↓xGuard_tt, ↓xGuard_ff, ↓xGuard_tf, ↓xGuard_ft, ↓xGuard_u, ↓xNil_r, Option.isNone_some, Option.isNone_none, ↓xIf_t, tick_eq, tickV_eq, ne_eq, 
      dlt_t, dlt_f, dle_t, dle_f, deq_t, deq_f, dne_t, dne_f, not_true_eq_false, Int.reduceAdd, Int.reduceSub, Int.reduceMul, Int.reduceEq, Int.reduceLT, Int.reduceLE, Bool.false_and, Bool.true_and, Bool.and_true, 
      Bool.and_false, ↓xBin_add', ↓xBin_sub', ↓xBin_mul', ↓xBin_quo', ↓xBin_rem', wrap_in, ↓xIf_f, ↓xIf_tt, ↓xEx0, ↓xEx1, ↓xEx2, ↓xEx3, ↓xBin_eqs, ↓xBin_nes, ↓xUn_not, ↓xu8_xor, ↓xu8_shl, ↓xu8_shr, ↓xu16_xor, ↓xu16_shl, ↓xu16_shr, 
      ↓xu32_xor, ↓xu32_shl, ↓xu32_shr, ↓xu64_xor, ↓xu64_shl, ↓xu64_shr, ↓xi64_xor, ↓xi64_shl, ↓xi64_shr, Int.toNat_natCast, Int.reduceToNat, Nat.reduceMul, Nat.reduceAdd, Nat.reduceSub, Nat.mul_one, List.nil_append, List.cons_append, 
      List.getElem?_toArray, List.getElem?_cons_zero, List.getElem?_cons_succ, cells_int, cells_bool, cells_string, cells_slice, cells_pointer, cells_agg, one_int, one_bool, one_string, one_slice, one_pointer, List.setIfInBounds_toArray, 
      List.set_cons_zero, List.set_cons_succ, ↓xSq_r, ↓xPur_s, ↓xRd_s, ↓xRe_s, ↓xDet_s, ↓xDet_ld, ↓xDet_ld2, ↓xDet_ld3, ↓xDet_ld4, World.size_drew, Nat.zero_add, Nat.add_zero, cell_drew, frozen_drew, cell_set_eq, cell_set_o, cell_set_b, 
      Option.map_some, World.frozen?_setCell, decide_true, decide_false, List.not_mem_nil, not_false_eq_true, ↓xGuard_tt, Bool.not_true, Bool.not_false, ←decide_not, ↓cv_2_29, eq_self]
  refine codec_Enc_Uint_call (Yld.mono (Enc_Uint_spec (zig x) h hl) ?_)
  rintro u w1 ⟨rfl, T⟩
  exact ⟨by trivial, T⟩
theorem Enc_Raw_spec (m : List (BitVec 8)) (a : Option Addr) (c : Nat) (h : EncIs w base g v l) (hl : l.length + m.length ≤ 1000000) (hm : RowAt w a (bys m)) (hnil : a = none → c = 0) (hap : m ≠ [] → ∀ b o, a = some ⟨b, o, none⟩ → b ∉ enB g v) :
    Yld Try.prog n_codec_Enc_Raw #[ptr g, .slice a m.length c] w fun u w' => u = .tuple #[] ∧ EncTo w w' base g v (l ++ (uintB (BitVec.ofNat 64 m.length) ++ m)) := by
  refine codec_Enc_Raw_of ?_
  unfold codec_Enc_Raw
  have e1 : BitVec.ofInt 64 (m.length : Int) = BitVec.ofNat 64 m.length := BitVec.ofInt_natCast ..
  simp (disch := (first | omega | decide | (simp only [World.size_alloc, World.size_setCell, World.size_drew, List.mem_cons, List.not_mem_nil, or_false, not_false_eq_true] <;> omega) | fail)) only [↓xBox_r, ↓loadK_some, ↓loadsK_s, ↓loadsK_n, ↓loadsR_s, ↓loadsR_n, ↓storesK_s, ↓storesK_n, setCells_c, setCells_n, World.setCell_alloc_at, World.setCell_alloc_past, World.cell?_alloc_at, World.cell?_alloc_past, 
      World.frozen?_alloc_at, World.frozen?_alloc_past, World.size_alloc, ↓xPick_t, ↓xPick_f, ↓xGuard_tt, ↓xGuard_ff, ↓xGuard_tf, ↓xGuard_ft, ↓xGuard_u, ↓xNil_r, Option.isNone_some, Option.isNone_none, ↓xIf_t, tick_eq, tickV_eq, ne_eq, 
      dlt_t, dlt_f, dle_t, dle_f, deq_t, deq_f, dne_t, dne_f, not_true_eq_false, Int.reduceAdd, Int.reduceSub, Int.reduceMul, Int.reduceEq, Int.reduceLT, Int.reduceLE, Bool.false_and, Bool.true_and, Bool.and_true, 
      Bool.and_false, ↓xBin_add', ↓xBin_sub', ↓xBin_mul', ↓xBin_quo', ↓xBin_rem', wrap_in, ↓xIf_f, ↓xIf_tt, ↓xEx0, ↓xEx1, ↓xEx2, ↓xEx3, ↓xBin_eqs, ↓xBin_nes, ↓xUn_not, Int.toNat_natCast, Int.reduceToNat, Nat.reduceMul, Nat.reduceAdd, 
      Nat.reduceSub, Nat.mul_one, List.nil_append, List.cons_append, List.getElem?_toArray, List.getElem?_cons_zero, List.getElem?_cons_succ, cells_int, cells_bool, cells_string, cells_slice, cells_pointer, cells_agg, one_int, 
      one_bool, one_string, one_slice, one_pointer, List.setIfInBounds_toArray, List.set_cons_zero, List.set_cons_succ, ↓xSq_r, ↓xPur_s, ↓xRd_s, ↓xRe_s, ↓xDet_s, ↓xDet_ld, ↓xDet_ld2, ↓xDet_ld3, ↓xDet_ld4, World.size_drew, 
      Nat.zero_add, Nat.add_zero, cell_drew, frozen_drew, cell_set_eq, cell_set_o, cell_set_b, Option.map_some, World.frozen?_setCell, decide_true, decide_false, List.not_mem_nil, not_false_eq_true, ↓xGuard_tt, Bool.not_true, 
      Bool.not_false, ←decide_not, ↓ld_26, ↓fa_28_0, ↓st_26, ↓cv_3_29, ↓ln_26, e1]
  refine codec_Enc_Uint_call (Yld.mono (Enc_Uint_spec _ h (by omega)) ?_)
  rintro u w1 ⟨rfl, s, F1, H1, hs⟩
  have hle : (uintB (BitVec.ofNat 64 m.length)).length ≤ 10 := uintF_le
  have hm1 : RowAt w1 a (bys m) := by
    by_cases hm0 : m = []
    · rw [hm0]; exact RowAt.nil
    · exact hm.ext F1 (hap hm0)
  have hcell : w1.cell? ⟨g, 0, none⟩ = some s := by rw [H1.blk.cell]; rfl
  obtain ⟨a2, c2, rfl, _, hc2, hn2, _⟩ := own_slice H1.own
  simp (disch := (first | omega | decide | (simp only [World.size_alloc, World.size_setCell, World.size_drew, List.mem_cons, List.not_mem_nil, or_false, not_false_eq_true] <;> omega) | fail)) only [↓xBox_r, ↓loadK_some, ↓loadsK_s, ↓loadsK_n, ↓loadsR_s, ↓loadsR_n, ↓storesK_s, ↓storesK_n, setCells_c, setCells_n, World.setCell_alloc_at, World.setCell_alloc_past, World.cell?_alloc_at, World.cell?_alloc_past, 
      World.frozen?_alloc_at, World.frozen?_alloc_past, World.size_alloc, ↓xPick_t, ↓xPick_f, ↓xGuard_tt, ↓xGuard_ff, ↓xGuard_tf, ↓xGuard_ft, ↓xGuard_u, ↓xNil_r, Option.isNone_some, Option.isNone_none, ↓xIf_t, tick_eq, tickV_eq, ne_eq, 
      dlt_t, dlt_f, dle_t, dle_f, deq_t, deq_f, dne_t, dne_f, not_true_eq_false, Int.reduceAdd, Int.reduceSub, Int.reduceMul, Int.reduceEq, Int.reduceLT, Int.reduceLE, Bool.false_and, Bool.true_and, Bool.and_true, 
      Bool.and_false, ↓xBin_add', ↓xBin_sub', ↓xBin_mul', ↓xBin_quo', ↓xBin_rem', wrap_in, ↓xIf_f, ↓xIf_tt, ↓xEx0, ↓xEx1, ↓xEx2, ↓xEx3, ↓xBin_eqs, ↓xBin_nes, ↓xUn_not, Int.toNat_natCast, Int.reduceToNat, Nat.reduceMul, Nat.reduceAdd, 
      Nat.reduceSub, Nat.mul_one, List.nil_append, List.cons_append, List.getElem?_toArray, List.getElem?_cons_zero, List.getElem?_cons_succ, cells_int, cells_bool, cells_string, cells_slice, cells_pointer, cells_agg, one_int, 
      one_bool, one_string, one_slice, one_pointer, List.setIfInBounds_toArray, List.set_cons_zero, List.set_cons_succ, ↓xSq_r, ↓xPur_s, ↓xRd_s, ↓xRe_s, ↓xDet_s, ↓xDet_ld, ↓xDet_ld2, ↓xDet_ld3, ↓xDet_ld4, World.size_drew, 
      Nat.zero_add, Nat.add_zero, cell_drew, frozen_drew, cell_set_eq, cell_set_o, cell_set_b, Option.map_some, World.frozen?_setCell, decide_true, decide_false, List.not_mem_nil, not_false_eq_true, ↓xGuard_tt, Bool.not_true, 
      Bool.not_false, ←decide_not, ↓ld_26, ↓fa_28_0, ↓st_26, ↓cv_3_29, ↓ln_26, e1, hcell]
  refine xAppend_own2 (e := 5) (base := base) (news := bys m) (z := .int .u8 0) (bytes := 1) (by kernel_rfl) (by kernel_rfl) (by rfl) H1.own (by simp) hm1 hnil (by simp [Value.oneCell']) (by simp; omega) (by simp; omega) (by have := H1.lo; have := H1.blk.lt; omega) ?_
  intro v' w' hown hgr hwh
  obtain ⟨c3, f3, T3⟩ := enc_put (m := m) H1 (Ext.refl _ _) hown hgr (hwh.imp And.left And.left)
  obtain ⟨a3, cc3, rfl, _, _, _, _⟩ := own_slice hown
  simp (disch := (first | omega | decide | (simp only [World.size_alloc, World.size_setCell, World.size_drew, List.mem_cons, List.not_mem_nil, or_false, not_false_eq_true] <;> omega) | fail)) only [↓xBox_r, ↓loadK_some, ↓loadsK_s, ↓loadsK_n, ↓loadsR_s, ↓loadsR_n, ↓storesK_s, ↓storesK_n, setCells_c, setCells_n, World.setCell_alloc_at, World.setCell_alloc_past, World.cell?_alloc_at, World.cell?_alloc_past, 
      World.frozen?_alloc_at, World.frozen?_alloc_past, World.size_alloc, ↓xPick_t, ↓xPick_f, ↓xGuard_tt, ↓xGuard_ff, ↓xGuard_tf, ↓xGuard_ft, ↓xGuard_u, ↓xNil_r, Option.isNone_some, Option.isNone_none, ↓xIf_t, tick_eq, tickV_eq, ne_eq, 
      dlt_t, dlt_f, dle_t, dle_f, deq_t, deq_f, dne_t, dne_f, not_true_eq_false, Int.reduceAdd, Int.reduceSub, Int.reduceMul, Int.reduceEq, Int.reduceLT, Int.reduceLE, Bool.false_and, Bool.true_and, Bool.and_true, 
      Bool.and_false, ↓xBin_add', ↓xBin_sub', ↓xBin_mul', ↓xBin_quo', ↓xBin_rem', wrap_in, ↓xIf_f, ↓xIf_tt, ↓xEx0, ↓xEx1, ↓xEx2, ↓xEx3, ↓xBin_eqs, ↓xBin_nes, ↓xUn_not, Int.toNat_natCast, Int.reduceToNat, Nat.reduceMul, Nat.reduceAdd, 
      Nat.reduceSub, Nat.mul_one, List.nil_append, List.cons_append, List.getElem?_toArray, List.getElem?_cons_zero, List.getElem?_cons_succ, cells_int, cells_bool, cells_string, cells_slice, cells_pointer, cells_agg, one_int, 
      one_bool, one_string, one_slice, one_pointer, List.setIfInBounds_toArray, List.set_cons_zero, List.set_cons_succ, ↓xSq_r, ↓xPur_s, ↓xRd_s, ↓xRe_s, ↓xDet_s, ↓xDet_ld, ↓xDet_ld2, ↓xDet_ld3, ↓xDet_ld4, World.size_drew, 
      Nat.zero_add, Nat.add_zero, cell_drew, frozen_drew, cell_set_eq, cell_set_o, cell_set_b, Option.map_some, World.frozen?_setCell, decide_true, decide_false, List.not_mem_nil, not_false_eq_true, ↓xGuard_tt, Bool.not_true, 
      Bool.not_false, ←decide_not, ↓ld_26, ↓fa_28_0, ↓st_26, ↓cv_3_29, ↓ln_26, e1, hcell, c3, f3]
  refine ⟨by trivial, ?_⟩
  rw [← List.append_assoc]
  exact EncTo.step F1 hs T3
/-- words, eight bytes each -/
def wordsB (ws : List (BitVec 64)) : List (BitVec 8) := ws.flatMap fun x => (List.range 8).map (byteOf x)
theorem wordsB_length (ws : List (BitVec 64)) : (wordsB ws).length = 8 * ws.length := by
  induction ws with
  | nil => rfl
  | cons x ws ih => unfold wordsB at *; rw [List.flatMap_cons, List.length_append, ih]; simp; omega
theorem wordsB_take {ws : List (BitVec 64)} {k : Nat} (h : k < ws.length) : wordsB (ws.take (k + 1)) = wordsB (ws.take k) ++ (List.range 8).map (byteOf ws[k]) := by
  rw [List.take_succ_eq_append_getElem h, wordsB, List.flatMap_append]
  simp [wordsB]
theorem Enc_Words_spec (ws : List (BitVec 64)) (a : Option Addr) (c : Nat) (h : EncIs w base g v l) (hl : l.length + 8 * ws.length ≤ 1000000) (hm : RowAt w a (wrds ws)) (hap : ws ≠ [] → ∀ b o, a = some ⟨b, o, none⟩ → b ∉ enB g v) :
    Yld Try.prog n_codec_Enc_Words #[ptr g, .slice a ws.length c] w fun u w' => u = .tuple #[] ∧ EncTo w w' base g v (l ++ (uintB (BitVec.ofNat 64 ws.length) ++ wordsB ws)) := by
  refine codec_Enc_Words_of ?_
  unfold codec_Enc_Words
  have e1 : BitVec.ofInt 64 (ws.length : Int) = BitVec.ofNat 64 ws.length := BitVec.ofInt_natCast ..
  simp (disch := (first | omega | decide | (simp only [World.size_alloc, World.size_setCell, World.size_drew, List.mem_cons, List.not_mem_nil, or_false, not_false_eq_true] <;> omega) | fail)) only [↓xBox_r, ↓loadK_some, ↓loadsK_s, ↓loadsK_n, ↓loadsR_s, ↓loadsR_n, ↓storesK_s, ↓storesK_n, setCells_c, setCells_n, World.setCell_alloc_at, World.setCell_alloc_past, World.cell?_alloc_at, World.cell?_alloc_past, 
      World.frozen?_alloc_at, World.frozen?_alloc_past, World.size_alloc, ↓xPick_t, ↓xPick_f, ↓xGuard_tt, ↓xGuard_ff, ↓xGuard_tf, ↓xGuard_ft, ↓xGuard_u, ↓xNil_r, Option.isNone_some, Option.isNone_none, ↓xIf_t, tick_eq, tickV_eq, ne_eq, 
      dlt_t, dlt_f, dle_t, dle_f, deq_t, deq_f, dne_t, dne_f, not_true_eq_false, Int.reduceAdd, Int.reduceSub, Int.reduceMul, Int.reduceEq, Int.reduceLT, Int.reduceLE, Bool.false_and, Bool.true_and, Bool.and_true, 
      Bool.and_false, ↓xBin_add', ↓xBin_sub', ↓xBin_mul', ↓xBin_quo', ↓xBin_rem', wrap_in, ↓xIf_f, ↓xIf_tt, ↓xEx0, ↓xEx1, ↓xEx2, ↓xEx3, ↓xBin_eqs, ↓xBin_nes, ↓xUn_not, ↓xu8_add, ↓xu8_mul, ↓xu8_shr, ↓xu8_lss, ↓xu16_add, ↓xu16_mul, 
      ↓xu16_shr, ↓xu16_lss, ↓xu32_add, ↓xu32_mul, ↓xu32_shr, ↓xu32_lss, ↓xu64_add, ↓xu64_mul, ↓xu64_shr, ↓xu64_lss, ↓xi64_lss, ↓xi64_shr, Int.toNat_natCast, Int.reduceToNat, Nat.reduceMul, Nat.reduceAdd, Nat.reduceSub, 
      Nat.mul_one, List.nil_append, List.cons_append, List.getElem?_toArray, List.getElem?_cons_zero, List.getElem?_cons_succ, cells_int, cells_bool, cells_string, cells_slice, cells_pointer, cells_agg, one_int, one_bool, 
      one_string, one_slice, one_pointer, List.setIfInBounds_toArray, List.set_cons_zero, List.set_cons_succ, ↓xSq_r, ↓xPur_s, ↓xRd_s, ↓xRe_s, ↓xDet_s, ↓xDet_ld, ↓xDet_ld2, ↓xDet_ld3, ↓xDet_ld4, World.size_drew, Nat.zero_add, 
      Nat.add_zero, cell_drew, frozen_drew, cell_set_eq, cell_set_o, cell_set_b, Option.map_some, World.frozen?_setCell, decide_true, decide_false, List.not_mem_nil, not_false_eq_true, ↓xGuard_tt, Bool.not_true, Bool.not_false, 
      ←decide_not, ↓ld_26, ↓ld_29, ↓fa_28_0, ↓st_26, ↓cv_3_29, ↓cv_29_5, ↓ia_30, ↓ln_30, ↓bs_26_0, ↓bs_26_1, ↓bs_26_2, ↓bs_26_4, e1]
  refine codec_Enc_Uint_call (Yld.mono (Enc_Uint_spec _ h (by omega)) ?_)
  rintro u w1 ⟨rfl, T1⟩
  have hle : (uintB (BitVec.ofNat 64 ws.length)).length ≤ 10 := uintF_le
  generalize hhd : uintB (BitVec.ofNat 64 ws.length) = hd at *
  rw [← List.append_assoc]
  generalize hL : l ++ hd = L at *
  have hLl : L.length ≤ l.length + 10 := by rw [← hL, List.length_append]; omega
  simp (disch := (first | omega | decide | (simp only [World.size_alloc, World.size_setCell, World.size_drew, List.mem_cons, List.not_mem_nil, or_false, not_false_eq_true] <;> omega) | fail)) only [↓xBox_r, ↓loadK_some, ↓loadsK_s, ↓loadsK_n, ↓loadsR_s, ↓loadsR_n, ↓storesK_s, ↓storesK_n, setCells_c, setCells_n, World.setCell_alloc_at, World.setCell_alloc_past, World.cell?_alloc_at, World.cell?_alloc_past, 
      World.frozen?_alloc_at, World.frozen?_alloc_past, World.size_alloc, ↓xPick_t, ↓xPick_f, ↓xGuard_tt, ↓xGuard_ff, ↓xGuard_tf, ↓xGuard_ft, ↓xGuard_u, ↓xNil_r, Option.isNone_some, Option.isNone_none, ↓xIf_t, tick_eq, tickV_eq, ne_eq, 
      dlt_t, dlt_f, dle_t, dle_f, deq_t, deq_f, dne_t, dne_f, not_true_eq_false, Int.reduceAdd, Int.reduceSub, Int.reduceMul, Int.reduceEq, Int.reduceLT, Int.reduceLE, Bool.false_and, Bool.true_and, Bool.and_true, 
      Bool.and_false, ↓xBin_add', ↓xBin_sub', ↓xBin_mul', ↓xBin_quo', ↓xBin_rem', wrap_in, ↓xIf_f, ↓xIf_tt, ↓xEx0, ↓xEx1, ↓xEx2, ↓xEx3, ↓xBin_eqs, ↓xBin_nes, ↓xUn_not, ↓xu8_add, ↓xu8_mul, ↓xu8_shr, ↓xu8_lss, ↓xu16_add, ↓xu16_mul, 
      ↓xu16_shr, ↓xu16_lss, ↓xu32_add, ↓xu32_mul, ↓xu32_shr, ↓xu32_lss, ↓xu64_add, ↓xu64_mul, ↓xu64_shr, ↓xu64_lss, ↓xi64_lss, ↓xi64_shr, Int.toNat_natCast, Int.reduceToNat, Nat.reduceMul, Nat.reduceAdd, Nat.reduceSub, 
      Nat.mul_one, List.nil_append, List.cons_append, List.getElem?_toArray, List.getElem?_cons_zero, List.getElem?_cons_succ, cells_int, cells_bool, cells_string, cells_slice, cells_pointer, cells_agg, one_int, one_bool, 
      one_string, one_slice, one_pointer, List.setIfInBounds_toArray, List.set_cons_zero, List.set_cons_succ, ↓xSq_r, ↓xPur_s, ↓xRd_s, ↓xRe_s, ↓xDet_s, ↓xDet_ld, ↓xDet_ld2, ↓xDet_ld3, ↓xDet_ld4, World.size_drew, Nat.zero_add, 
      Nat.add_zero, cell_drew, frozen_drew, cell_set_eq, cell_set_o, cell_set_b, Option.map_some, World.frozen?_setCell, decide_true, decide_false, List.not_mem_nil, not_false_eq_true, ↓xGuard_tt, Bool.not_true, Bool.not_false, 
      ←decide_not, ↓ld_26, ↓ld_29, ↓fa_28_0, ↓st_26, ↓cv_3_29, ↓cv_29_5, ↓ia_30, ↓ln_30, ↓bs_26_0, ↓bs_26_1, ↓bs_26_2, ↓bs_26_4, e1]
  refine xLoop_n ws.length (fun k => [i64 k]) (fun k w' => EncTo w w' base g v (L ++ wordsB (ws.take k))) ?_ (by rw [List.take_zero]; simpa [wordsB] using T1) ?_ ?_
  · rfl
  · rintro k hk u v1 hu T nxt hnx
    simp only [List.map_cons, List.map_nil, List.cons.injEq, and_true] at hu
    rw [hu]
    have hrow : RowAt v1 a (wrds ws) := by
      obtain ⟨_, F, _, _⟩ := T
      exact hm.ext F (hap (by intro e; rw [e] at hk; cases hk))
    obtain ⟨b, o, rfl, hb, hc⟩ := hrow.at (i := k) (by simpa using hk)
    simp only [List.getElem_map] at hc
    unfold codec_Enc_Words_l1
    simp (disch := (first | omega | decide | (simp only [World.size_alloc, World.size_setCell, World.size_drew, List.mem_cons, List.not_mem_nil, or_false, not_false_eq_true] <;> omega) | fail)) only [↓xBox_r, ↓loadK_some, ↓loadsK_s, ↓loadsK_n, ↓loadsR_s, ↓loadsR_n, ↓storesK_s, ↓storesK_n, setCells_c, setCells_n, World.setCell_alloc_at, World.setCell_alloc_past, World.cell?_alloc_at, World.cell?_alloc_past, 
      World.frozen?_alloc_at, World.frozen?_alloc_past, World.size_alloc, ↓xPick_t, ↓xPick_f, ↓xGuard_tt, ↓xGuard_ff, ↓xGuard_tf, ↓xGuard_ft, ↓xGuard_u, ↓xNil_r, Option.isNone_some, Option.isNone_none, ↓xIf_t, tick_eq, tickV_eq, ne_eq, 
      dlt_t, dlt_f, dle_t, dle_f, deq_t, deq_f, dne_t, dne_f, not_true_eq_false, Int.reduceAdd, Int.reduceSub, Int.reduceMul, Int.reduceEq, Int.reduceLT, Int.reduceLE, Bool.false_and, Bool.true_and, Bool.and_true, 
      Bool.and_false, ↓xBin_add', ↓xBin_sub', ↓xBin_mul', ↓xBin_quo', ↓xBin_rem', wrap_in, ↓xIf_f, ↓xIf_tt, ↓xEx0, ↓xEx1, ↓xEx2, ↓xEx3, ↓xBin_eqs, ↓xBin_nes, ↓xUn_not, ↓xu8_add, ↓xu8_mul, ↓xu8_shr, ↓xu8_lss, ↓xu16_add, ↓xu16_mul, 
      ↓xu16_shr, ↓xu16_lss, ↓xu32_add, ↓xu32_mul, ↓xu32_shr, ↓xu32_lss, ↓xu64_add, ↓xu64_mul, ↓xu64_shr, ↓xu64_lss, ↓xi64_lss, ↓xi64_shr, Int.toNat_natCast, Int.reduceToNat, Nat.reduceMul, Nat.reduceAdd, Nat.reduceSub, 
      Nat.mul_one, List.nil_append, List.cons_append, List.getElem?_toArray, List.getElem?_cons_zero, List.getElem?_cons_succ, cells_int, cells_bool, cells_string, cells_slice, cells_pointer, cells_agg, one_int, one_bool, 
      one_string, one_slice, one_pointer, List.setIfInBounds_toArray, List.set_cons_zero, List.set_cons_succ, ↓xSq_r, ↓xPur_s, ↓xRd_s, ↓xRe_s, ↓xDet_s, ↓xDet_ld, ↓xDet_ld2, ↓xDet_ld3, ↓xDet_ld4, World.size_drew, Nat.zero_add, 
      Nat.add_zero, cell_drew, frozen_drew, cell_set_eq, cell_set_o, cell_set_b, Option.map_some, World.frozen?_setCell, decide_true, decide_false, List.not_mem_nil, not_false_eq_true, ↓xGuard_tt, Bool.not_true, Bool.not_false, 
      ←decide_not, ↓ld_26, ↓ld_29, ↓fa_28_0, ↓st_26, ↓cv_3_29, ↓cv_29_5, ↓ia_30, ↓ln_30, ↓bs_26_0, ↓bs_26_1, ↓bs_26_2, ↓bs_26_4, e1, hc]
    have hwl : (wordsB (ws.take k)).length = 8 * k := by rw [wordsB_length]; simp; omega
    refine xLoop_n 8 (fun j => [i64 j]) (fun j w' => EncTo w w' base g v (L ++ wordsB (ws.take k) ++ (List.range j).map (byteOf ws[k]))) ?_ (by simpa using T) ?_ ?_
    · rfl
    · rintro j hj u v2 hu2 ⟨s, F1, H1, hs⟩ nxt2 hnx2
      simp only [List.map_cons, List.map_nil, List.cons.injEq, and_true] at hu2
      rw [hu2]
      generalize hN : L ++ wordsB (ws.take k) ++ (List.range j).map (byteOf ws[k]) = N at *
      have hNl : N.length ≤ 1000010 := by rw [← hN]; simp only [List.length_append, hwl, List.length_map, List.length_range]; omega
      have hcell : v2.cell? ⟨g, 0, none⟩ = some s := by rw [H1.blk.cell]; rfl
      have hgs : g ∉ s.ownBlock.toList := by simpa using H1.ne
      have hb2 : base ≤ v2.heap.size := by have := H1.lo; have := H1.blk.lt; omega
      have t8 : (8 * (j : Int)).toNat = 8 * j := by omega
      obtain ⟨a2, c2, rfl, hl2, hc2, hn2, hr2⟩ := own_slice H1.own
      unfold codec_Enc_Words_l2
      simp (disch := (first | omega | decide | (simp only [World.size_alloc, World.size_setCell, World.size_drew, List.mem_cons, List.not_mem_nil, or_false, not_false_eq_true] <;> omega) | fail)) only [↓xBox_r, ↓loadK_some, ↓loadsK_s, ↓loadsK_n, ↓loadsR_s, ↓loadsR_n, ↓storesK_s, ↓storesK_n, setCells_c, setCells_n, World.setCell_alloc_at, World.setCell_alloc_past, World.cell?_alloc_at, World.cell?_alloc_past, 
      World.frozen?_alloc_at, World.frozen?_alloc_past, World.size_alloc, ↓xPick_t, ↓xPick_f, ↓xGuard_tt, ↓xGuard_ff, ↓xGuard_tf, ↓xGuard_ft, ↓xGuard_u, ↓xNil_r, Option.isNone_some, Option.isNone_none, ↓xIf_t, tick_eq, tickV_eq, ne_eq, 
      dlt_t, dlt_f, dle_t, dle_f, deq_t, deq_f, dne_t, dne_f, not_true_eq_false, Int.reduceAdd, Int.reduceSub, Int.reduceMul, Int.reduceEq, Int.reduceLT, Int.reduceLE, Bool.false_and, Bool.true_and, Bool.and_true, 
      Bool.and_false, ↓xBin_add', ↓xBin_sub', ↓xBin_mul', ↓xBin_quo', ↓xBin_rem', wrap_in, ↓xIf_f, ↓xIf_tt, ↓xEx0, ↓xEx1, ↓xEx2, ↓xEx3, ↓xBin_eqs, ↓xBin_nes, ↓xUn_not, ↓xu8_add, ↓xu8_mul, ↓xu8_shr, ↓xu8_lss, ↓xu16_add, ↓xu16_mul, 
      ↓xu16_shr, ↓xu16_lss, ↓xu32_add, ↓xu32_mul, ↓xu32_shr, ↓xu32_lss, ↓xu64_add, ↓xu64_mul, ↓xu64_shr, ↓xu64_lss, ↓xi64_lss, ↓xi64_shr, Int.toNat_natCast, Int.reduceToNat, Nat.reduceMul, Nat.reduceAdd, Nat.reduceSub, 
      Nat.mul_one, List.nil_append, List.cons_append, List.getElem?_toArray, List.getElem?_cons_zero, List.getElem?_cons_succ, cells_int, cells_bool, cells_string, cells_slice, cells_pointer, cells_agg, one_int, one_bool, 
      one_string, one_slice, one_pointer, List.setIfInBounds_toArray, List.set_cons_zero, List.set_cons_succ, ↓xSq_r, ↓xPur_s, ↓xRd_s, ↓xRe_s, ↓xDet_s, ↓xDet_ld, ↓xDet_ld2, ↓xDet_ld3, ↓xDet_ld4, World.size_drew, Nat.zero_add, 
      Nat.add_zero, cell_drew, frozen_drew, cell_set_eq, cell_set_o, cell_set_b, Option.map_some, World.frozen?_setCell, decide_true, decide_false, List.not_mem_nil, not_false_eq_true, ↓xGuard_tt, Bool.not_true, Bool.not_false, 
      ←decide_not, ↓ld_26, ↓ld_29, ↓fa_28_0, ↓st_26, ↓cv_3_29, ↓cv_29_5, ↓ia_30, ↓ln_30, ↓bs_26_0, ↓bs_26_1, ↓bs_26_2, ↓bs_26_4, e1, hc]
      refine ⟨leApp base (.slice a2 N.length c2) (bys N) (bys [byteOf ws[k] j]), leApp.refl, fun _ _ _ => leApp.trans, ?_⟩
      have own0 : ∀ w, leApp base (.slice a2 N.length c2) (bys N) (bys [byteOf ws[k] j]) v2.drew w → w.ownsRow base 5 1 (.slice a2 N.length c2) N.length (bys N) := fun w hw => by
        have := hw.2.1
        rw [List.length_map] at this
        exact this (own_ext H1.own (Ext.drew [] _))
      have cell0 : ∀ w, leApp base (.slice a2 N.length c2) (bys N) (bys [byteOf ws[k] j]) v2.drew w → w.cell? ⟨g, 0, none⟩ = some (.slice a2 N.length c2) := fun w hw => by
        rw [hw.1.cell (a := ⟨g, 0, none⟩) (by rw [World.size_drew]; exact H1.blk.lt) hgs]
        exact hcell
      refine xDet_x (x := ptr g) (fun w9 hw => ⟨rfl, leApp.refl _⟩) ?_
      refine xDet_x (x := ptr g) (fun w9 hw => ⟨rfl, leApp.refl _⟩) ?_
      refine xDet_x (x := ptr g) (fun w9 hw => ?_) ?_
      · simp (disch := (first | omega | decide | (simp only [World.size_alloc, World.size_setCell, World.size_drew, List.mem_cons, List.not_mem_nil, or_false, not_false_eq_true] <;> omega) | fail)) only [↓xBox_r, ↓loadK_some, ↓loadsK_s, ↓loadsK_n, ↓loadsR_s, ↓loadsR_n, ↓storesK_s, ↓storesK_n, setCells_c, setCells_n, World.setCell_alloc_at, World.setCell_alloc_past, World.cell?_alloc_at, World.cell?_alloc_past, 
      World.frozen?_alloc_at, World.frozen?_alloc_past, World.size_alloc, ↓xPick_t, ↓xPick_f, ↓xGuard_tt, ↓xGuard_ff, ↓xGuard_tf, ↓xGuard_ft, ↓xGuard_u, ↓xNil_r, Option.isNone_some, Option.isNone_none, ↓xIf_t, tick_eq, tickV_eq, ne_eq, 
      dlt_t, dlt_f, dle_t, dle_f, deq_t, deq_f, dne_t, dne_f, not_true_eq_false, Int.reduceAdd, Int.reduceSub, Int.reduceMul, Int.reduceEq, Int.reduceLT, Int.reduceLE, Bool.false_and, Bool.true_and, Bool.and_true, 
      Bool.and_false, ↓xBin_add', ↓xBin_sub', ↓xBin_mul', ↓xBin_quo', ↓xBin_rem', wrap_in, ↓xIf_f, ↓xIf_tt, ↓xEx0, ↓xEx1, ↓xEx2, ↓xEx3, ↓xBin_eqs, ↓xBin_nes, ↓xUn_not, ↓xu8_add, ↓xu8_mul, ↓xu8_shr, ↓xu8_lss, ↓xu16_add, ↓xu16_mul, 
      ↓xu16_shr, ↓xu16_lss, ↓xu32_add, ↓xu32_mul, ↓xu32_shr, ↓xu32_lss, ↓xu64_add, ↓xu64_mul, ↓xu64_shr, ↓xu64_lss, ↓xi64_lss, ↓xi64_shr, Int.toNat_natCast, Int.reduceToNat, Nat.reduceMul, Nat.reduceAdd, Nat.reduceSub, 
      Nat.mul_one, List.nil_append, List.cons_append, List.getElem?_toArray, List.getElem?_cons_zero, List.getElem?_cons_succ, cells_int, cells_bool, cells_string, cells_slice, cells_pointer, cells_agg, one_int, one_bool, 
      one_string, one_slice, one_pointer, List.setIfInBounds_toArray, List.set_cons_zero, List.set_cons_succ, ↓xSq_r, ↓xPur_s, ↓xRd_s, ↓xRe_s, ↓xDet_s, ↓xDet_ld, ↓xDet_ld2, ↓xDet_ld3, ↓xDet_ld4, World.size_drew, Nat.zero_add, 
      Nat.add_zero, cell_drew, frozen_drew, cell_set_eq, cell_set_o, cell_set_b, Option.map_some, World.frozen?_setCell, decide_true, decide_false, List.not_mem_nil, not_false_eq_true, ↓xGuard_tt, Bool.not_true, Bool.not_false, 
      ←decide_not, ↓ld_26, ↓ld_29, ↓fa_28_0, ↓st_26, ↓cv_3_29, ↓cv_29_5, ↓ia_30, ↓ln_30, ↓bs_26_0, ↓bs_26_1, ↓bs_26_2, ↓bs_26_4, e1, hc]
        exact ⟨by trivial, leApp.refl _⟩
      refine xDet_x (x := ptr g) (fun w9 hw => ?_) ?_
      · simp (disch := (first | omega | decide | (simp only [World.size_alloc, World.size_setCell, World.size_drew, List.mem_cons, List.not_mem_nil, or_false, not_false_eq_true] <;> omega) | fail)) only [↓xBox_r, ↓loadK_some, ↓loadsK_s, ↓loadsK_n, ↓loadsR_s, ↓loadsR_n, ↓storesK_s, ↓storesK_n, setCells_c, setCells_n, World.setCell_alloc_at, World.setCell_alloc_past, World.cell?_alloc_at, World.cell?_alloc_past, 
      World.frozen?_alloc_at, World.frozen?_alloc_past, World.size_alloc, ↓xPick_t, ↓xPick_f, ↓xGuard_tt, ↓xGuard_ff, ↓xGuard_tf, ↓xGuard_ft, ↓xGuard_u, ↓xNil_r, Option.isNone_some, Option.isNone_none, ↓xIf_t, tick_eq, tickV_eq, ne_eq, 
      dlt_t, dlt_f, dle_t, dle_f, deq_t, deq_f, dne_t, dne_f, not_true_eq_false, Int.reduceAdd, Int.reduceSub, Int.reduceMul, Int.reduceEq, Int.reduceLT, Int.reduceLE, Bool.false_and, Bool.true_and, Bool.and_true, 
      Bool.and_false, ↓xBin_add', ↓xBin_sub', ↓xBin_mul', ↓xBin_quo', ↓xBin_rem', wrap_in, ↓xIf_f, ↓xIf_tt, ↓xEx0, ↓xEx1, ↓xEx2, ↓xEx3, ↓xBin_eqs, ↓xBin_nes, ↓xUn_not, ↓xu8_add, ↓xu8_mul, ↓xu8_shr, ↓xu8_lss, ↓xu16_add, ↓xu16_mul, 
      ↓xu16_shr, ↓xu16_lss, ↓xu32_add, ↓xu32_mul, ↓xu32_shr, ↓xu32_lss, ↓xu64_add, ↓xu64_mul, ↓xu64_shr, ↓xu64_lss, ↓xi64_lss, ↓xi64_shr, Int.toNat_natCast, Int.reduceToNat, Nat.reduceMul, Nat.reduceAdd, Nat.reduceSub, 
      Nat.mul_one, List.nil_append, List.cons_append, List.getElem?_toArray, List.getElem?_cons_zero, List.getElem?_cons_succ, cells_int, cells_bool, cells_string, cells_slice, cells_pointer, cells_agg, one_int, one_bool, 
      one_string, one_slice, one_pointer, List.setIfInBounds_toArray, List.set_cons_zero, List.set_cons_succ, ↓xSq_r, ↓xPur_s, ↓xRd_s, ↓xRe_s, ↓xDet_s, ↓xDet_ld, ↓xDet_ld2, ↓xDet_ld3, ↓xDet_ld4, World.size_drew, Nat.zero_add, 
      Nat.add_zero, cell_drew, frozen_drew, cell_set_eq, cell_set_o, cell_set_b, Option.map_some, World.frozen?_setCell, decide_true, decide_false, List.not_mem_nil, not_false_eq_true, ↓xGuard_tt, Bool.not_true, Bool.not_false, 
      ←decide_not, ↓ld_26, ↓ld_29, ↓fa_28_0, ↓st_26, ↓cv_3_29, ↓cv_29_5, ↓ia_30, ↓ln_30, ↓bs_26_0, ↓bs_26_1, ↓bs_26_2, ↓bs_26_4, e1, hc]
        exact ⟨by trivial, leApp.refl _⟩
      refine xDet_x (x := .slice a2 N.length c2) (fun w9 hw => ?_) ?_
      · have := cell0 w9 hw
        simp (disch := (first | omega | decide | (simp only [World.size_alloc, World.size_setCell, World.size_drew, List.mem_cons, List.not_mem_nil, or_false, not_false_eq_true] <;> omega) | fail)) only [↓xBox_r, ↓loadK_some, ↓loadsK_s, ↓loadsK_n, ↓loadsR_s, ↓loadsR_n, ↓storesK_s, ↓storesK_n, setCells_c, setCells_n, World.setCell_alloc_at, World.setCell_alloc_past, World.cell?_alloc_at, World.cell?_alloc_past, 
      World.frozen?_alloc_at, World.frozen?_alloc_past, World.size_alloc, ↓xPick_t, ↓xPick_f, ↓xGuard_tt, ↓xGuard_ff, ↓xGuard_tf, ↓xGuard_ft, ↓xGuard_u, ↓xNil_r, Option.isNone_some, Option.isNone_none, ↓xIf_t, tick_eq, tickV_eq, ne_eq, 
      dlt_t, dlt_f, dle_t, dle_f, deq_t, deq_f, dne_t, dne_f, not_true_eq_false, Int.reduceAdd, Int.reduceSub, Int.reduceMul, Int.reduceEq, Int.reduceLT, Int.reduceLE, Bool.false_and, Bool.true_and, Bool.and_true, 
      Bool.and_false, ↓xBin_add', ↓xBin_sub', ↓xBin_mul', ↓xBin_quo', ↓xBin_rem', wrap_in, ↓xIf_f, ↓xIf_tt, ↓xEx0, ↓xEx1, ↓xEx2, ↓xEx3, ↓xBin_eqs, ↓xBin_nes, ↓xUn_not, ↓xu8_add, ↓xu8_mul, ↓xu8_shr, ↓xu8_lss, ↓xu16_add, ↓xu16_mul, 
      ↓xu16_shr, ↓xu16_lss, ↓xu32_add, ↓xu32_mul, ↓xu32_shr, ↓xu32_lss, ↓xu64_add, ↓xu64_mul, ↓xu64_shr, ↓xu64_lss, ↓xi64_lss, ↓xi64_shr, Int.toNat_natCast, Int.reduceToNat, Nat.reduceMul, Nat.reduceAdd, Nat.reduceSub, 
      Nat.mul_one, List.nil_append, List.cons_append, List.getElem?_toArray, List.getElem?_cons_zero, List.getElem?_cons_succ, cells_int, cells_bool, cells_string, cells_slice, cells_pointer, cells_agg, one_int, one_bool, 
      one_string, one_slice, one_pointer, List.setIfInBounds_toArray, List.set_cons_zero, List.set_cons_succ, ↓xSq_r, ↓xPur_s, ↓xRd_s, ↓xRe_s, ↓xDet_s, ↓xDet_ld, ↓xDet_ld2, ↓xDet_ld3, ↓xDet_ld4, World.size_drew, Nat.zero_add, 
      Nat.add_zero, cell_drew, frozen_drew, cell_set_eq, cell_set_o, cell_set_b, Option.map_some, World.frozen?_setCell, decide_true, decide_false, List.not_mem_nil, not_false_eq_true, ↓xGuard_tt, Bool.not_true, Bool.not_false, 
      ←decide_not, ↓ld_26, ↓ld_29, ↓fa_28_0, ↓st_26, ↓cv_3_29, ↓cv_29_5, ↓ia_30, ↓ln_30, ↓bs_26_0, ↓bs_26_1, ↓bs_26_2, ↓bs_26_4, this]
        exact ⟨by trivial, leApp.refl _⟩
      refine xDet_x (x := u64 ws[k]) (fun w9 hw => ⟨rfl, leApp.refl _⟩) ?_
      refine xDet_x (x := i64 j) (fun w9 hw => ⟨rfl, leApp.refl _⟩) ?_
      refine xDet_x (x := i64 (8 * j)) (fun w9 hw => ?_) ?_
      · simp (disch := (first | omega | decide | (simp only [World.size_alloc, World.size_setCell, World.size_drew, List.mem_cons, List.not_mem_nil, or_false, not_false_eq_true] <;> omega) | fail)) only [↓xBox_r, ↓loadK_some, ↓loadsK_s, ↓loadsK_n, ↓loadsR_s, ↓loadsR_n, ↓storesK_s, ↓storesK_n, setCells_c, setCells_n, World.setCell_alloc_at, World.setCell_alloc_past, World.cell?_alloc_at, World.cell?_alloc_past, 
      World.frozen?_alloc_at, World.frozen?_alloc_past, World.size_alloc, ↓xPick_t, ↓xPick_f, ↓xGuard_tt, ↓xGuard_ff, ↓xGuard_tf, ↓xGuard_ft, ↓xGuard_u, ↓xNil_r, Option.isNone_some, Option.isNone_none, ↓xIf_t, tick_eq, tickV_eq, ne_eq, 
      dlt_t, dlt_f, dle_t, dle_f, deq_t, deq_f, dne_t, dne_f, not_true_eq_false, Int.reduceAdd, Int.reduceSub, Int.reduceMul, Int.reduceEq, Int.reduceLT, Int.reduceLE, Bool.false_and, Bool.true_and, Bool.and_true, 
      Bool.and_false, ↓xBin_add', ↓xBin_sub', ↓xBin_mul', ↓xBin_quo', ↓xBin_rem', wrap_in, ↓xIf_f, ↓xIf_tt, ↓xEx0, ↓xEx1, ↓xEx2, ↓xEx3, ↓xBin_eqs, ↓xBin_nes, ↓xUn_not, ↓xu8_add, ↓xu8_mul, ↓xu8_shr, ↓xu8_lss, ↓xu16_add, ↓xu16_mul, 
      ↓xu16_shr, ↓xu16_lss, ↓xu32_add, ↓xu32_mul, ↓xu32_shr, ↓xu32_lss, ↓xu64_add, ↓xu64_mul, ↓xu64_shr, ↓xu64_lss, ↓xi64_lss, ↓xi64_shr, Int.toNat_natCast, Int.reduceToNat, Nat.reduceMul, Nat.reduceAdd, Nat.reduceSub, 
      Nat.mul_one, List.nil_append, List.cons_append, List.getElem?_toArray, List.getElem?_cons_zero, List.getElem?_cons_succ, cells_int, cells_bool, cells_string, cells_slice, cells_pointer, cells_agg, one_int, one_bool, 
      one_string, one_slice, one_pointer, List.setIfInBounds_toArray, List.set_cons_zero, List.set_cons_succ, ↓xSq_r, ↓xPur_s, ↓xRd_s, ↓xRe_s, ↓xDet_s, ↓xDet_ld, ↓xDet_ld2, ↓xDet_ld3, ↓xDet_ld4, World.size_drew, Nat.zero_add, 
      Nat.add_zero, cell_drew, frozen_drew, cell_set_eq, cell_set_o, cell_set_b, Option.map_some, World.frozen?_setCell, decide_true, decide_false, List.not_mem_nil, not_false_eq_true, ↓xGuard_tt, Bool.not_true, Bool.not_false, 
      ←decide_not, ↓ld_26, ↓ld_29, ↓fa_28_0, ↓st_26, ↓cv_3_29, ↓cv_29_5, ↓ia_30, ↓ln_30, ↓bs_26_0, ↓bs_26_1, ↓bs_26_2, ↓bs_26_4, e1, hc]
        exact ⟨by trivial, leApp.refl _⟩
      refine xDet_x (x := u64 (ws[k] >>> (8 * j))) (fun w9 hw => ?_) ?_
      · simp (disch := (first | omega | decide | (simp only [World.size_alloc, World.size_setCell, World.size_drew, List.mem_cons, List.not_mem_nil, or_false, not_false_eq_true] <;> omega) | fail)) only [↓xBox_r, ↓loadK_some, ↓loadsK_s, ↓loadsK_n, ↓loadsR_s, ↓loadsR_n, ↓storesK_s, ↓storesK_n, setCells_c, setCells_n, World.setCell_alloc_at, World.setCell_alloc_past, World.cell?_alloc_at, World.cell?_alloc_past, 
      World.frozen?_alloc_at, World.frozen?_alloc_past, World.size_alloc, ↓xPick_t, ↓xPick_f, ↓xGuard_tt, ↓xGuard_ff, ↓xGuard_tf, ↓xGuard_ft, ↓xGuard_u, ↓xNil_r, Option.isNone_some, Option.isNone_none, ↓xIf_t, tick_eq, tickV_eq, ne_eq, 
      dlt_t, dlt_f, dle_t, dle_f, deq_t, deq_f, dne_t, dne_f, not_true_eq_false, Int.reduceAdd, Int.reduceSub, Int.reduceMul, Int.reduceEq, Int.reduceLT, Int.reduceLE, Bool.false_and, Bool.true_and, Bool.and_true, 
      Bool.and_false, ↓xBin_add', ↓xBin_sub', ↓xBin_mul', ↓xBin_quo', ↓xBin_rem', wrap_in, ↓xIf_f, ↓xIf_tt, ↓xEx0, ↓xEx1, ↓xEx2, ↓xEx3, ↓xBin_eqs, ↓xBin_nes, ↓xUn_not, ↓xu8_add, ↓xu8_mul, ↓xu8_shr, ↓xu8_lss, ↓xu16_add, ↓xu16_mul, 
      ↓xu16_shr, ↓xu16_lss, ↓xu32_add, ↓xu32_mul, ↓xu32_shr, ↓xu32_lss, ↓xu64_add, ↓xu64_mul, ↓xu64_shr, ↓xu64_lss, ↓xi64_lss, ↓xi64_shr, Int.toNat_natCast, Int.reduceToNat, Nat.reduceMul, Nat.reduceAdd, Nat.reduceSub, 
      Nat.mul_one, List.nil_append, List.cons_append, List.getElem?_toArray, List.getElem?_cons_zero, List.getElem?_cons_succ, cells_int, cells_bool, cells_string, cells_slice, cells_pointer, cells_agg, one_int, one_bool, 
      one_string, one_slice, one_pointer, List.setIfInBounds_toArray, List.set_cons_zero, List.set_cons_succ, ↓xSq_r, ↓xPur_s, ↓xRd_s, ↓xRe_s, ↓xDet_s, ↓xDet_ld, ↓xDet_ld2, ↓xDet_ld3, ↓xDet_ld4, World.size_drew, Nat.zero_add, 
      Nat.add_zero, cell_drew, frozen_drew, cell_set_eq, cell_set_o, cell_set_b, Option.map_some, World.frozen?_setCell, decide_true, decide_false, List.not_mem_nil, not_false_eq_true, ↓xGuard_tt, Bool.not_true, Bool.not_false, 
      ←decide_not, ↓ld_26, ↓ld_29, ↓fa_28_0, ↓st_26, ↓cv_3_29, ↓cv_29_5, ↓ia_30, ↓ln_30, ↓bs_26_0, ↓bs_26_1, ↓bs_26_2, ↓bs_26_4, t8]
        exact ⟨by trivial, leApp.refl _⟩
      refine xDet_x (x := u8 (byteOf ws[k] j)) (fun w9 hw => ?_) ?_
      · simp (disch := (first | omega | decide | (simp only [World.size_alloc, World.size_setCell, World.size_drew, List.mem_cons, List.not_mem_nil, or_false, not_false_eq_true] <;> omega) | fail)) only [↓xBox_r, ↓loadK_some, ↓loadsK_s, ↓loadsK_n, ↓loadsR_s, ↓loadsR_n, ↓storesK_s, ↓storesK_n, setCells_c, setCells_n, World.setCell_alloc_at, World.setCell_alloc_past, World.cell?_alloc_at, World.cell?_alloc_past, 
      World.frozen?_alloc_at, World.frozen?_alloc_past, World.size_alloc, ↓xPick_t, ↓xPick_f, ↓xGuard_tt, ↓xGuard_ff, ↓xGuard_tf, ↓xGuard_ft, ↓xGuard_u, ↓xNil_r, Option.isNone_some, Option.isNone_none, ↓xIf_t, tick_eq, tickV_eq, ne_eq, 
      dlt_t, dlt_f, dle_t, dle_f, deq_t, deq_f, dne_t, dne_f, not_true_eq_false, Int.reduceAdd, Int.reduceSub, Int.reduceMul, Int.reduceEq, Int.reduceLT, Int.reduceLE, Bool.false_and, Bool.true_and, Bool.and_true, 
      Bool.and_false, ↓xBin_add', ↓xBin_sub', ↓xBin_mul', ↓xBin_quo', ↓xBin_rem', wrap_in, ↓xIf_f, ↓xIf_tt, ↓xEx0, ↓xEx1, ↓xEx2, ↓xEx3, ↓xBin_eqs, ↓xBin_nes, ↓xUn_not, ↓xu8_add, ↓xu8_mul, ↓xu8_shr, ↓xu8_lss, ↓xu16_add, ↓xu16_mul, 
      ↓xu16_shr, ↓xu16_lss, ↓xu32_add, ↓xu32_mul, ↓xu32_shr, ↓xu32_lss, ↓xu64_add, ↓xu64_mul, ↓xu64_shr, ↓xu64_lss, ↓xi64_lss, ↓xi64_shr, Int.toNat_natCast, Int.reduceToNat, Nat.reduceMul, Nat.reduceAdd, Nat.reduceSub, 
      Nat.mul_one, List.nil_append, List.cons_append, List.getElem?_toArray, List.getElem?_cons_zero, List.getElem?_cons_succ, cells_int, cells_bool, cells_string, cells_slice, cells_pointer, cells_agg, one_int, one_bool, 
      one_string, one_slice, one_pointer, List.setIfInBounds_toArray, List.set_cons_zero, List.set_cons_succ, ↓xSq_r, ↓xPur_s, ↓xRd_s, ↓xRe_s, ↓xDet_s, ↓xDet_ld, ↓xDet_ld2, ↓xDet_ld3, ↓xDet_ld4, World.size_drew, Nat.zero_add, 
      Nat.add_zero, cell_drew, frozen_drew, cell_set_eq, cell_set_o, cell_set_b, Option.map_some, World.frozen?_setCell, decide_true, decide_false, List.not_mem_nil, not_false_eq_true, ↓xGuard_tt, Bool.not_true, Bool.not_false, 
      ←decide_not, ↓ld_26, ↓ld_29, ↓fa_28_0, ↓st_26, ↓cv_3_29, ↓cv_29_5, ↓ia_30, ↓ln_30, ↓bs_26_0, ↓bs_26_1, ↓bs_26_2, ↓bs_26_4, e1, hc]
        exact ⟨by rfl, leApp.refl _⟩
      refine xNon_x (V := fun u w' => ∃ b, u = .slice (some ⟨b, 0, none⟩) 1 1 ∧ v2.heap.size ≤ b ∧ Blk w' b 5 (bys [byteOf ws[k] j])) (fun u x1 x2 hV hq => ?_) (fun w9 hw => ?_) fun u => ?_
      · obtain ⟨b, e, hb, B⟩ := hV
        refine ⟨b, e, hb, B.ext hq.1 fun hm => ?_⟩
        have := H1.own.lt b (by simpa using hm)
        omega
      · simp (disch := (first | omega | decide | (simp only [World.size_alloc, World.size_setCell, World.size_drew, List.mem_cons, List.not_mem_nil, or_false, not_false_eq_true] <;> omega) | fail)) only [↓xBox_r, ↓loadK_some, ↓loadsK_s, ↓loadsK_n, ↓loadsR_s, ↓loadsR_n, ↓storesK_s, ↓storesK_n, setCells_c, setCells_n, World.setCell_alloc_at, World.setCell_alloc_past, World.cell?_alloc_at, World.cell?_alloc_past, 
      World.frozen?_alloc_at, World.frozen?_alloc_past, World.size_alloc, ↓xPick_t, ↓xPick_f, ↓xGuard_tt, ↓xGuard_ff, ↓xGuard_tf, ↓xGuard_ft, ↓xGuard_u, ↓xNil_r, Option.isNone_some, Option.isNone_none, ↓xIf_t, tick_eq, tickV_eq, ne_eq, 
      dlt_t, dlt_f, dle_t, dle_f, deq_t, deq_f, dne_t, dne_f, not_true_eq_false, Int.reduceAdd, Int.reduceSub, Int.reduceMul, Int.reduceEq, Int.reduceLT, Int.reduceLE, Bool.false_and, Bool.true_and, Bool.and_true, 
      Bool.and_false, ↓xBin_add', ↓xBin_sub', ↓xBin_mul', ↓xBin_quo', ↓xBin_rem', wrap_in, ↓xIf_f, ↓xIf_tt, ↓xEx0, ↓xEx1, ↓xEx2, ↓xEx3, ↓xBin_eqs, ↓xBin_nes, ↓xUn_not, ↓xu8_add, ↓xu8_mul, ↓xu8_shr, ↓xu8_lss, ↓xu16_add, ↓xu16_mul, 
      ↓xu16_shr, ↓xu16_lss, ↓xu32_add, ↓xu32_mul, ↓xu32_shr, ↓xu32_lss, ↓xu64_add, ↓xu64_mul, ↓xu64_shr, ↓xu64_lss, ↓xi64_lss, ↓xi64_shr, Int.toNat_natCast, Int.reduceToNat, Nat.reduceMul, Nat.reduceAdd, Nat.reduceSub, 
      Nat.mul_one, List.nil_append, List.cons_append, List.getElem?_toArray, List.getElem?_cons_zero, List.getElem?_cons_succ, cells_int, cells_bool, cells_string, cells_slice, cells_pointer, cells_agg, one_int, one_bool, 
      one_string, one_slice, one_pointer, List.setIfInBounds_toArray, List.set_cons_zero, List.set_cons_succ, ↓xSq_r, ↓xPur_s, ↓xRd_s, ↓xRe_s, ↓xDet_s, ↓xDet_ld, ↓xDet_ld2, ↓xDet_ld3, ↓xDet_ld4, World.size_drew, Nat.zero_add, 
      Nat.add_zero, cell_drew, frozen_drew, cell_set_eq, cell_set_o, cell_set_b, Option.map_some, World.frozen?_setCell, decide_true, decide_false, List.not_mem_nil, not_false_eq_true, ↓xGuard_tt, Bool.not_true, Bool.not_false, 
      ←decide_not, ↓ld_26, ↓ld_29, ↓fa_28_0, ↓st_26, ↓cv_3_29, ↓cv_29_5, ↓ia_30, ↓ln_30, ↓bs_26_0, ↓bs_26_1, ↓bs_26_2, ↓bs_26_4, e1, hc]
        exact ⟨⟨_, rfl, hw.1.size, Blk.new _ _⟩, leApp.of (Ext.alloc _ _ _)⟩
      refine xNon_x (V := fun u w' => w'.ownsRow base 5 1 u (bys N ++ bys [byteOf ws[k] j]).length (bys N ++ bys [byteOf ws[k] j]) ∧ (u.ownBlock = a2.map (·.block) ∨ ∃ b, u.ownBlock = some b ∧ v2.heap.size ≤ b)) (fun u x1 x2 hV hq => ⟨hq.2.2 u hV.1, hV.2⟩) (fun w9 hw => ?_) fun u2 => ?_
      · obtain ⟨hw, b, rfl, hb, B⟩ := hw
        have hz := hw.1.size
        rw [World.size_drew] at hz
        refine xAppend_own2 (e := 5) (base := base) (news := bys [byteOf ws[k] j]) (z := .int .u8 0) (bytes := 1) (by kernel_rfl) (by kernel_rfl) (by rfl) (own0 w9 hw) (by rfl) B.row (by simp) (by simp [Value.oneCell']) (by omega) (by omega) (by omega) ?_
        intro v' w' hown hgr hwh
        have el : (bys N ++ bys [byteOf ws[k] j]).length = N.length + 1 := by simp
        refine ⟨⟨by rw [el]; exact hown, ?_⟩, ?_⟩
        · rcases hwh with ⟨h1, _⟩ | ⟨h1, _⟩
          · refine .inl ?_
            rw [h1]
            cases a2 <;> rfl
          · exact .inr ⟨_, h1, hz⟩
        · have o0 := own0 w9 hw
          have e2 : (bys N).length = N.length := by simp
          refine leApp.app (by rw [e2]; exact o0) (by rw [el]; exact hown) hgr ?_
          rw [e2]
          exact hwh
      refine xDet_x (x := ptr g) (fun w9 hw => ?_) ?_
      · simp (disch := (first | omega | decide | (simp only [World.size_alloc, World.size_setCell, World.size_drew, List.mem_cons, List.not_mem_nil, or_false, not_false_eq_true] <;> omega) | fail)) only [↓xBox_r, ↓loadK_some, ↓loadsK_s, ↓loadsK_n, ↓loadsR_s, ↓loadsR_n, ↓storesK_s, ↓storesK_n, setCells_c, setCells_n, World.setCell_alloc_at, World.setCell_alloc_past, World.cell?_alloc_at, World.cell?_alloc_past, 
      World.frozen?_alloc_at, World.frozen?_alloc_past, World.size_alloc, ↓xPick_t, ↓xPick_f, ↓xGuard_tt, ↓xGuard_ff, ↓xGuard_tf, ↓xGuard_ft, ↓xGuard_u, ↓xNil_r, Option.isNone_some, Option.isNone_none, ↓xIf_t, tick_eq, tickV_eq, ne_eq, 
      dlt_t, dlt_f, dle_t, dle_f, deq_t, deq_f, dne_t, dne_f, not_true_eq_false, Int.reduceAdd, Int.reduceSub, Int.reduceMul, Int.reduceEq, Int.reduceLT, Int.reduceLE, Bool.false_and, Bool.true_and, Bool.and_true, 
      Bool.and_false, ↓xBin_add', ↓xBin_sub', ↓xBin_mul', ↓xBin_quo', ↓xBin_rem', wrap_in, ↓xIf_f, ↓xIf_tt, ↓xEx0, ↓xEx1, ↓xEx2, ↓xEx3, ↓xBin_eqs, ↓xBin_nes, ↓xUn_not, ↓xu8_add, ↓xu8_mul, ↓xu8_shr, ↓xu8_lss, ↓xu16_add, ↓xu16_mul, 
      ↓xu16_shr, ↓xu16_lss, ↓xu32_add, ↓xu32_mul, ↓xu32_shr, ↓xu32_lss, ↓xu64_add, ↓xu64_mul, ↓xu64_shr, ↓xu64_lss, ↓xi64_lss, ↓xi64_shr, Int.toNat_natCast, Int.reduceToNat, Nat.reduceMul, Nat.reduceAdd, Nat.reduceSub, 
      Nat.mul_one, List.nil_append, List.cons_append, List.getElem?_toArray, List.getElem?_cons_zero, List.getElem?_cons_succ, cells_int, cells_bool, cells_string, cells_slice, cells_pointer, cells_agg, one_int, one_bool, 
      one_string, one_slice, one_pointer, List.setIfInBounds_toArray, List.set_cons_zero, List.set_cons_succ, ↓xSq_r, ↓xPur_s, ↓xRd_s, ↓xRe_s, ↓xDet_s, ↓xDet_ld, ↓xDet_ld2, ↓xDet_ld3, ↓xDet_ld4, World.size_drew, Nat.zero_add, 
      Nat.add_zero, cell_drew, frozen_drew, cell_set_eq, cell_set_o, cell_set_b, Option.map_some, World.frozen?_setCell, decide_true, decide_false, List.not_mem_nil, not_false_eq_true, ↓xGuard_tt, Bool.not_true, Bool.not_false, 
      ←decide_not, ↓ld_26, ↓ld_29, ↓fa_28_0, ↓st_26, ↓cv_3_29, ↓cv_29_5, ↓ia_30, ↓ln_30, ↓bs_26_0, ↓bs_26_1, ↓bs_26_2, ↓bs_26_4, e1, hc]
        exact ⟨by trivial, leApp.refl _⟩
      refine xDet_x (x := ptr g) (fun w9 hw => ?_) ?_
      · simp (disch := (first | omega | decide | (simp only [World.size_alloc, World.size_setCell, World.size_drew, List.mem_cons, List.not_mem_nil, or_false, not_false_eq_true] <;> omega) | fail)) only [↓xBox_r, ↓loadK_some, ↓loadsK_s, ↓loadsK_n, ↓loadsR_s, ↓loadsR_n, ↓storesK_s, ↓storesK_n, setCells_c, setCells_n, World.setCell_alloc_at, World.setCell_alloc_past, World.cell?_alloc_at, World.cell?_alloc_past, 
      World.frozen?_alloc_at, World.frozen?_alloc_past, World.size_alloc, ↓xPick_t, ↓xPick_f, ↓xGuard_tt, ↓xGuard_ff, ↓xGuard_tf, ↓xGuard_ft, ↓xGuard_u, ↓xNil_r, Option.isNone_some, Option.isNone_none, ↓xIf_t, tick_eq, tickV_eq, ne_eq, 
      dlt_t, dlt_f, dle_t, dle_f, deq_t, deq_f, dne_t, dne_f, not_true_eq_false, Int.reduceAdd, Int.reduceSub, Int.reduceMul, Int.reduceEq, Int.reduceLT, Int.reduceLE, Bool.false_and, Bool.true_and, Bool.and_true, 
      Bool.and_false, ↓xBin_add', ↓xBin_sub', ↓xBin_mul', ↓xBin_quo', ↓xBin_rem', wrap_in, ↓xIf_f, ↓xIf_tt, ↓xEx0, ↓xEx1, ↓xEx2, ↓xEx3, ↓xBin_eqs, ↓xBin_nes, ↓xUn_not, ↓xu8_add, ↓xu8_mul, ↓xu8_shr, ↓xu8_lss, ↓xu16_add, ↓xu16_mul, 
      ↓xu16_shr, ↓xu16_lss, ↓xu32_add, ↓xu32_mul, ↓xu32_shr, ↓xu32_lss, ↓xu64_add, ↓xu64_mul, ↓xu64_shr, ↓xu64_lss, ↓xi64_lss, ↓xi64_shr, Int.toNat_natCast, Int.reduceToNat, Nat.reduceMul, Nat.reduceAdd, Nat.reduceSub, 
      Nat.mul_one, List.nil_append, List.cons_append, List.getElem?_toArray, List.getElem?_cons_zero, List.getElem?_cons_succ, cells_int, cells_bool, cells_string, cells_slice, cells_pointer, cells_agg, one_int, one_bool, 
      one_string, one_slice, one_pointer, List.setIfInBounds_toArray, List.set_cons_zero, List.set_cons_succ, ↓xSq_r, ↓xPur_s, ↓xRd_s, ↓xRe_s, ↓xDet_s, ↓xDet_ld, ↓xDet_ld2, ↓xDet_ld3, ↓xDet_ld4, World.size_drew, Nat.zero_add, 
      Nat.add_zero, cell_drew, frozen_drew, cell_set_eq, cell_set_o, cell_set_b, Option.map_some, World.frozen?_setCell, decide_true, decide_false, List.not_mem_nil, not_false_eq_true, ↓xGuard_tt, Bool.not_true, Bool.not_false, 
      ←decide_not, ↓ld_26, ↓ld_29, ↓fa_28_0, ↓st_26, ↓cv_3_29, ↓cv_29_5, ↓ia_30, ↓ln_30, ↓bs_26_0, ↓bs_26_1, ↓bs_26_2, ↓bs_26_4, e1, hc]
        exact ⟨by trivial, leApp.refl _⟩
      refine ⟨fun w9 hw => ?_⟩
      obtain ⟨⟨hw, hb⟩, hO, hwh⟩ := hw
      obtain ⟨a3, c3, rfl, _⟩ := own_slice hO
      have E9 : Ext ((Value.slice a2 N.length c2).ownBlock.toList) v2 w9 := ((Ext.drew [] _).more (by simp)).trans hw.1
      have B9 : Blk w9 g 28 [.slice a2 N.length c2] := H1.blk.ext E9 hgs
      have f9 : w9.frozen? ⟨g, 0, none⟩ = false := B9.frozen
      have c9 := cell0 w9 hw
      simp (disch := (first | omega | decide | (simp only [World.size_alloc, World.size_setCell, World.size_drew, List.mem_cons, List.not_mem_nil, or_false, not_false_eq_true] <;> omega) | fail)) only [↓xBox_r, ↓loadK_some, ↓loadsK_s, ↓loadsK_n, ↓loadsR_s, ↓loadsR_n, ↓storesK_s, ↓storesK_n, setCells_c, setCells_n, World.setCell_alloc_at, World.setCell_alloc_past, World.cell?_alloc_at, World.cell?_alloc_past, 
      World.frozen?_alloc_at, World.frozen?_alloc_past, World.size_alloc, ↓xPick_t, ↓xPick_f, ↓xGuard_tt, ↓xGuard_ff, ↓xGuard_tf, ↓xGuard_ft, ↓xGuard_u, ↓xNil_r, Option.isNone_some, Option.isNone_none, ↓xIf_t, tick_eq, tickV_eq, ne_eq, 
      dlt_t, dlt_f, dle_t, dle_f, deq_t, deq_f, dne_t, dne_f, not_true_eq_false, Int.reduceAdd, Int.reduceSub, Int.reduceMul, Int.reduceEq, Int.reduceLT, Int.reduceLE, Bool.false_and, Bool.true_and, Bool.and_true, 
      Bool.and_false, ↓xBin_add', ↓xBin_sub', ↓xBin_mul', ↓xBin_quo', ↓xBin_rem', wrap_in, ↓xIf_f, ↓xIf_tt, ↓xEx0, ↓xEx1, ↓xEx2, ↓xEx3, ↓xBin_eqs, ↓xBin_nes, ↓xUn_not, ↓xu8_add, ↓xu8_mul, ↓xu8_shr, ↓xu8_lss, ↓xu16_add, ↓xu16_mul, 
      ↓xu16_shr, ↓xu16_lss, ↓xu32_add, ↓xu32_mul, ↓xu32_shr, ↓xu32_lss, ↓xu64_add, ↓xu64_mul, ↓xu64_shr, ↓xu64_lss, ↓xi64_lss, ↓xi64_shr, Int.toNat_natCast, Int.reduceToNat, Nat.reduceMul, Nat.reduceAdd, Nat.reduceSub, 
      Nat.mul_one, List.nil_append, List.cons_append, List.getElem?_toArray, List.getElem?_cons_zero, List.getElem?_cons_succ, cells_int, cells_bool, cells_string, cells_slice, cells_pointer, cells_agg, one_int, one_bool, 
      one_string, one_slice, one_pointer, List.setIfInBounds_toArray, List.set_cons_zero, List.set_cons_succ, ↓xSq_r, ↓xPur_s, ↓xRd_s, ↓xRe_s, ↓xDet_s, ↓xDet_ld, ↓xDet_ld2, ↓xDet_ld3, ↓xDet_ld4, World.size_drew, Nat.zero_add, 
      Nat.add_zero, cell_drew, frozen_drew, cell_set_eq, cell_set_o, cell_set_b, Option.map_some, World.frozen?_setCell, decide_true, decide_false, List.not_mem_nil, not_false_eq_true, ↓xGuard_tt, Bool.not_true, Bool.not_false, 
      ←decide_not, ↓ld_26, ↓ld_29, ↓fa_28_0, ↓st_26, ↓cv_3_29, ↓cv_29_5, ↓ia_30, ↓ln_30, ↓bs_26_0, ↓bs_26_1, ↓bs_26_2, ↓bs_26_4, c9, f9]
      refine hnx2 _ ?_
      rw [List.range_succ, List.map_append, ← List.append_assoc, hN]
      refine EncTo.step F1 hs ⟨_, (E9.more fun x hx => List.mem_cons_of_mem _ hx).set' (.inl (List.mem_cons_self ..)), ⟨H1.lo, B9.set (i := 0), ?_, ?_⟩, fun b hb => ?_⟩
      · have el : (bys N ++ bys [byteOf ws[k] j]).length = (N ++ [byteOf ws[k] j]).length := by simp
        have := own_extM hO (Ext.set (b := g) (o := 0) (v := .slice a3 (bys N ++ bys [byteOf ws[k] j]).length c3)) (fun b hb hm => by
          simp at hm
          subst hm
          rcases hwh with h | ⟨b', h, hb'⟩
          · rw [h] at hb
            refine H1.ne ?_
            cases a2 <;> simp [Value.ownBlock] at hb ⊢
            exact hb
          · rw [h] at hb
            have := H1.blk.lt
            simp at hb
            omega)
        simpa [bys] using this
      · intro hb
        rcases hwh with h | ⟨b', h, hb'⟩
        · rw [h] at hb
          refine H1.ne ?_
          cases a2 <;> simp [Value.ownBlock] at hb ⊢
          exact hb
        · rw [h] at hb
          have := H1.blk.lt
          simp at hb
          omega
      · simp only [enB, List.mem_cons, Option.mem_toList] at hb ⊢
        rcases hb with e | e
        · exact .inl (.inl e)
        · rcases hwh with h | ⟨b', h, hb'⟩
          · rw [h] at e
            refine .inl (.inr ?_)
            cases a2 <;> simp [Value.ownBlock] at e ⊢
            exact e
          · rw [h] at e
            simp at e
            exact .inr (by omega)
    · rintro u v2 hu2 T2 nxt2
      simp only [List.map_cons, List.map_nil, List.cons.injEq, and_true] at hu2
      rw [hu2]
      unfold codec_Enc_Words_l2
      simp (disch := (first | omega | decide | (simp only [World.size_alloc, World.size_setCell, World.size_drew, List.mem_cons, List.not_mem_nil, or_false, not_false_eq_true] <;> omega) | fail)) only [↓xBox_r, ↓loadK_some, ↓loadsK_s, ↓loadsK_n, ↓loadsR_s, ↓loadsR_n, ↓storesK_s, ↓storesK_n, setCells_c, setCells_n, World.setCell_alloc_at, World.setCell_alloc_past, World.cell?_alloc_at, World.cell?_alloc_past, 
      World.frozen?_alloc_at, World.frozen?_alloc_past, World.size_alloc, ↓xPick_t, ↓xPick_f, ↓xGuard_tt, ↓xGuard_ff, ↓xGuard_tf, ↓xGuard_ft, ↓xGuard_u, ↓xNil_r, Option.isNone_some, Option.isNone_none, ↓xIf_t, tick_eq, tickV_eq, ne_eq, 
      dlt_t, dlt_f, dle_t, dle_f, deq_t, deq_f, dne_t, dne_f, not_true_eq_false, Int.reduceAdd, Int.reduceSub, Int.reduceMul, Int.reduceEq, Int.reduceLT, Int.reduceLE, Bool.false_and, Bool.true_and, Bool.and_true, 
      Bool.and_false, ↓xBin_add', ↓xBin_sub', ↓xBin_mul', ↓xBin_quo', ↓xBin_rem', wrap_in, ↓xIf_f, ↓xIf_tt, ↓xEx0, ↓xEx1, ↓xEx2, ↓xEx3, ↓xBin_eqs, ↓xBin_nes, ↓xUn_not, ↓xu8_add, ↓xu8_mul, ↓xu8_shr, ↓xu8_lss, ↓xu16_add, ↓xu16_mul, 
      ↓xu16_shr, ↓xu16_lss, ↓xu32_add, ↓xu32_mul, ↓xu32_shr, ↓xu32_lss, ↓xu64_add, ↓xu64_mul, ↓xu64_shr, ↓xu64_lss, ↓xi64_lss, ↓xi64_shr, Int.toNat_natCast, Int.reduceToNat, Nat.reduceMul, Nat.reduceAdd, Nat.reduceSub, 
      Nat.mul_one, List.nil_append, List.cons_append, List.getElem?_toArray, List.getElem?_cons_zero, List.getElem?_cons_succ, cells_int, cells_bool, cells_string, cells_slice, cells_pointer, cells_agg, one_int, one_bool, 
      one_string, one_slice, one_pointer, List.setIfInBounds_toArray, List.set_cons_zero, List.set_cons_succ, ↓xSq_r, ↓xPur_s, ↓xRd_s, ↓xRe_s, ↓xDet_s, ↓xDet_ld, ↓xDet_ld2, ↓xDet_ld3, ↓xDet_ld4, World.size_drew, Nat.zero_add, 
      Nat.add_zero, cell_drew, frozen_drew, cell_set_eq, cell_set_o, cell_set_b, Option.map_some, World.frozen?_setCell, decide_true, decide_false, List.not_mem_nil, not_false_eq_true, ↓xGuard_tt, Bool.not_true, Bool.not_false, 
      ←decide_not, ↓ld_26, ↓ld_29, ↓fa_28_0, ↓st_26, ↓cv_3_29, ↓cv_29_5, ↓ia_30, ↓ln_30, ↓bs_26_0, ↓bs_26_1, ↓bs_26_2, ↓bs_26_4, e1, hc]
      refine hnx _ ?_
      rw [wordsB_take hk, ← List.append_assoc]
      exact T2
  · rintro u v1 hu T nxt
    simp only [List.map_cons, List.map_nil, List.cons.injEq, and_true] at hu
    rw [hu]
    unfold codec_Enc_Words_l1
    simp (disch := (first | omega | decide | (simp only [World.size_alloc, World.size_setCell, World.size_drew, List.mem_cons, List.not_mem_nil, or_false, not_false_eq_true] <;> omega) | fail)) only [↓xBox_r, ↓loadK_some, ↓loadsK_s, ↓loadsK_n, ↓loadsR_s, ↓loadsR_n, ↓storesK_s, ↓storesK_n, setCells_c, setCells_n, World.setCell_alloc_at, World.setCell_alloc_past, World.cell?_alloc_at, World.cell?_alloc_past, 
      World.frozen?_alloc_at, World.frozen?_alloc_past, World.size_alloc, ↓xPick_t, ↓xPick_f, ↓xGuard_tt, ↓xGuard_ff, ↓xGuard_tf, ↓xGuard_ft, ↓xGuard_u, ↓xNil_r, Option.isNone_some, Option.isNone_none, ↓xIf_t, tick_eq, tickV_eq, ne_eq, 
      dlt_t, dlt_f, dle_t, dle_f, deq_t, deq_f, dne_t, dne_f, not_true_eq_false, Int.reduceAdd, Int.reduceSub, Int.reduceMul, Int.reduceEq, Int.reduceLT, Int.reduceLE, Bool.false_and, Bool.true_and, Bool.and_true, 
      Bool.and_false, ↓xBin_add', ↓xBin_sub', ↓xBin_mul', ↓xBin_quo', ↓xBin_rem', wrap_in, ↓xIf_f, ↓xIf_tt, ↓xEx0, ↓xEx1, ↓xEx2, ↓xEx3, ↓xBin_eqs, ↓xBin_nes, ↓xUn_not, ↓xu8_add, ↓xu8_mul, ↓xu8_shr, ↓xu8_lss, ↓xu16_add, ↓xu16_mul, 
      ↓xu16_shr, ↓xu16_lss, ↓xu32_add, ↓xu32_mul, ↓xu32_shr, ↓xu32_lss, ↓xu64_add, ↓xu64_mul, ↓xu64_shr, ↓xu64_lss, ↓xi64_lss, ↓xi64_shr, Int.toNat_natCast, Int.reduceToNat, Nat.reduceMul, Nat.reduceAdd, Nat.reduceSub, 
      Nat.mul_one, List.nil_append, List.cons_append, List.getElem?_toArray, List.getElem?_cons_zero, List.getElem?_cons_succ, cells_int, cells_bool, cells_string, cells_slice, cells_pointer, cells_agg, one_int, one_bool, 
      one_string, one_slice, one_pointer, List.setIfInBounds_toArray, List.set_cons_zero, List.set_cons_succ, ↓xSq_r, ↓xPur_s, ↓xRd_s, ↓xRe_s, ↓xDet_s, ↓xDet_ld, ↓xDet_ld2, ↓xDet_ld3, ↓xDet_ld4, World.size_drew, Nat.zero_add, 
      Nat.add_zero, cell_drew, frozen_drew, cell_set_eq, cell_set_o, cell_set_b, Option.map_some, World.frozen?_setCell, decide_true, decide_false, List.not_mem_nil, not_false_eq_true, ↓xGuard_tt, Bool.not_true, Bool.not_false, 
      ←decide_not, ↓ld_26, ↓ld_29, ↓fa_28_0, ↓st_26, ↓cv_3_29, ↓cv_29_5, ↓ia_30, ↓ln_30, ↓bs_26_0, ↓bs_26_1, ↓bs_26_2, ↓bs_26_4, e1]
    rw [List.take_length] at T
    exact ⟨by trivial, T⟩
theorem Enc_Bytes_spec (h : EncIs w base g v l) (hl : l.length ≤ 1000000) : Yld Try.prog n_codec_Enc_Bytes #[ptr g] w fun u w' => FreshB w w' u l := by
  refine codec_Enc_Bytes_of ?_
  unfold codec_Enc_Bytes
  have hcell : w.cell? ⟨g, 0, none⟩ = some v := by rw [h.blk.cell]; rfl
  obtain ⟨a2, c2, rfl, hl2, hc2, hn2, hr2⟩ := own_slice h.own
  simp (disch := (first | omega | decide | (simp only [World.size_alloc, World.size_setCell, World.size_drew, List.mem_cons, List.not_mem_nil, or_false, not_false_eq_true] <;> omega) | fail)) only [↓xBox_r, ↓loadK_some, ↓loadsK_s, ↓loadsK_n, ↓loadsR_s, ↓loadsR_n, ↓storesK_s, ↓storesK_n, setCells_c, setCells_n, World.setCell_alloc_at, World.setCell_alloc_past, World.cell?_alloc_at, World.cell?_alloc_past, 
      World.frozen?_alloc_at, World.frozen?_alloc_past, World.size_alloc, ↓xPick_t, ↓xPick_f, ↓xGuard_tt, ↓xGuard_ff, ↓xGuard_tf, ↓xGuard_ft, ↓xGuard_u, ↓xNil_r, Option.isNone_some, Option.isNone_none, ↓xIf_t, tick_eq, tickV_eq, ne_eq, 
      dlt_t, dlt_f, dle_t, dle_f, deq_t, deq_f, dne_t, dne_f, not_true_eq_false, Int.reduceAdd, Int.reduceSub, Int.reduceMul, Int.reduceEq, Int.reduceLT, Int.reduceLE, Bool.false_and, Bool.true_and, Bool.and_true, 
      Bool.and_false, ↓xBin_add', ↓xBin_sub', ↓xBin_mul', ↓xBin_quo', ↓xBin_rem', wrap_in, ↓xIf_f, ↓xIf_tt, ↓xEx0, ↓xEx1, ↓xEx2, ↓xEx3, ↓xBin_eqs, ↓xBin_nes, ↓xUn_not, Int.toNat_natCast, Int.reduceToNat, Nat.reduceMul, Nat.reduceAdd, 
      Nat.reduceSub, Nat.mul_one, List.nil_append, List.cons_append, List.getElem?_toArray, List.getElem?_cons_zero, List.getElem?_cons_succ, cells_int, cells_bool, cells_string, cells_slice, cells_pointer, cells_agg, one_int, 
      one_bool, one_string, one_slice, one_pointer, List.setIfInBounds_toArray, List.set_cons_zero, List.set_cons_succ, ↓xSq_r, ↓xPur_s, ↓xRd_s, ↓xRe_s, ↓xDet_s, ↓xDet_ld, ↓xDet_ld2, ↓xDet_ld3, ↓xDet_ld4, World.size_drew, 
      Nat.zero_add, Nat.add_zero, cell_drew, frozen_drew, cell_set_eq, cell_set_o, cell_set_b, Option.map_some, World.frozen?_setCell, decide_true, decide_false, List.not_mem_nil, not_false_eq_true, ↓xGuard_tt, Bool.not_true, 
      Bool.not_false, ←decide_not, ↓ld_26, ↓fa_28_0, hcell]
  refine slices_Clone_byte_byte_call (Yld.mono (CloneB_spec l a2 l.length c2 w rfl hl hr2 hn2) ?_)
  rintro u w1 ⟨F1, a1, c1, rfl, hc1, hn1, R1, N1⟩
  simp (disch := (first | omega | decide | (simp only [World.size_alloc, World.size_setCell, World.size_drew, List.mem_cons, List.not_mem_nil, or_false, not_false_eq_true] <;> omega) | fail)) only [↓xBox_r, ↓loadK_some, ↓loadsK_s, ↓loadsK_n, ↓loadsR_s, ↓loadsR_n, ↓storesK_s, ↓storesK_n, setCells_c, setCells_n, World.setCell_alloc_at, World.setCell_alloc_past, World.cell?_alloc_at, World.cell?_alloc_past, 
      World.frozen?_alloc_at, World.frozen?_alloc_past, World.size_alloc, ↓xPick_t, ↓xPick_f, ↓xGuard_tt, ↓xGuard_ff, ↓xGuard_tf, ↓xGuard_ft, ↓xGuard_u, ↓xNil_r, Option.isNone_some, Option.isNone_none, ↓xIf_t, tick_eq, tickV_eq, ne_eq, 
      dlt_t, dlt_f, dle_t, dle_f, deq_t, deq_f, dne_t, dne_f, not_true_eq_false, Int.reduceAdd, Int.reduceSub, Int.reduceMul, Int.reduceEq, Int.reduceLT, Int.reduceLE, Bool.false_and, Bool.true_and, Bool.and_true, 
      Bool.and_false, ↓xBin_add', ↓xBin_sub', ↓xBin_mul', ↓xBin_quo', ↓xBin_rem', wrap_in, ↓xIf_f, ↓xIf_tt, ↓xEx0, ↓xEx1, ↓xEx2, ↓xEx3, ↓xBin_eqs, ↓xBin_nes, ↓xUn_not, Int.toNat_natCast, Int.reduceToNat, Nat.reduceMul, Nat.reduceAdd, 
      Nat.reduceSub, Nat.mul_one, List.nil_append, List.cons_append, List.getElem?_toArray, List.getElem?_cons_zero, List.getElem?_cons_succ, cells_int, cells_bool, cells_string, cells_slice, cells_pointer, cells_agg, one_int, 
      one_bool, one_string, one_slice, one_pointer, List.setIfInBounds_toArray, List.set_cons_zero, List.set_cons_succ, ↓xSq_r, ↓xPur_s, ↓xRd_s, ↓xRe_s, ↓xDet_s, ↓xDet_ld, ↓xDet_ld2, ↓xDet_ld3, ↓xDet_ld4, World.size_drew, 
      Nat.zero_add, Nat.add_zero, cell_drew, frozen_drew, cell_set_eq, cell_set_o, cell_set_b, Option.map_some, World.frozen?_setCell, decide_true, decide_false, List.not_mem_nil, not_false_eq_true, ↓xGuard_tt, Bool.not_true, 
      Bool.not_false, ←decide_not, ↓ld_26, ↓fa_28_0, hcell]
  refine slices_Clip_byte_byte_call (Gives.to (ClipB_spec hc1) fun w3 F3 => ?_)
  simp (disch := (first | omega | decide | (simp only [World.size_alloc, World.size_setCell, World.size_drew, List.mem_cons, List.not_mem_nil, or_false, not_false_eq_true] <;> omega) | fail)) only [↓xBox_r, ↓loadK_some, ↓loadsK_s, ↓loadsK_n, ↓loadsR_s, ↓loadsR_n, ↓storesK_s, ↓storesK_n, setCells_c, setCells_n, World.setCell_alloc_at, World.setCell_alloc_past, World.cell?_alloc_at, World.cell?_alloc_past, 
      World.frozen?_alloc_at, World.frozen?_alloc_past, World.size_alloc, ↓xPick_t, ↓xPick_f, ↓xGuard_tt, ↓xGuard_ff, ↓xGuard_tf, ↓xGuard_ft, ↓xGuard_u, ↓xNil_r, Option.isNone_some, Option.isNone_none, ↓xIf_t, tick_eq, tickV_eq, ne_eq, 
      dlt_t, dlt_f, dle_t, dle_f, deq_t, deq_f, dne_t, dne_f, not_true_eq_false, Int.reduceAdd, Int.reduceSub, Int.reduceMul, Int.reduceEq, Int.reduceLT, Int.reduceLE, Bool.false_and, Bool.true_and, Bool.and_true, 
      Bool.and_false, ↓xBin_add', ↓xBin_sub', ↓xBin_mul', ↓xBin_quo', ↓xBin_rem', wrap_in, ↓xIf_f, ↓xIf_tt, ↓xEx0, ↓xEx1, ↓xEx2, ↓xEx3, ↓xBin_eqs, ↓xBin_nes, ↓xUn_not, Int.toNat_natCast, Int.reduceToNat, Nat.reduceMul, Nat.reduceAdd, 
      Nat.reduceSub, Nat.mul_one, List.nil_append, List.cons_append, List.getElem?_toArray, List.getElem?_cons_zero, List.getElem?_cons_succ, cells_int, cells_bool, cells_string, cells_slice, cells_pointer, cells_agg, one_int, 
      one_bool, one_string, one_slice, one_pointer, List.setIfInBounds_toArray, List.set_cons_zero, List.set_cons_succ, ↓xSq_r, ↓xPur_s, ↓xRd_s, ↓xRe_s, ↓xDet_s, ↓xDet_ld, ↓xDet_ld2, ↓xDet_ld3, ↓xDet_ld4, World.size_drew, 
      Nat.zero_add, Nat.add_zero, cell_drew, frozen_drew, cell_set_eq, cell_set_o, cell_set_b, Option.map_some, World.frozen?_setCell, decide_true, decide_false, List.not_mem_nil, not_false_eq_true, ↓xGuard_tt, Bool.not_true, 
      Bool.not_false, ←decide_not, ↓ld_26, ↓fa_28_0, hcell]
  exact ⟨F1.trans F3, a1, l.length, by trivial, Nat.le_refl _, fun e => by have := hn1 e; omega, R1.ext0 F3, fun x hx => ⟨(N1 x hx).1, Nat.lt_of_lt_of_le (N1 x hx).2 F3.size⟩⟩
end
end Go.Proofs.Ytlllabaipfmnjaa
