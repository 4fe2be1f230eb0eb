/- What the functions of the codec compute. -/
import Derived.Test.YtknineilpenbnaaCodeV
import Derived.Test.YtknineilpenbnaaBitsW
set_option linter.unusedVariables false
set_option linter.unusedSimpArgs false
set_option maxHeartbeats 4000000
namespace Go.Proofs.Ytknineilpenbnaa
open Go.Sh Go.RowKit

abbrev ptr (g : Nat) : Value := .pointer (some ⟨g, 0, none⟩)
theorem own_extM {w w' : World} {base n : Nat} {e : TypeId} {v : Value} {cs : List Value} {M : List Nat} (h : w.ownsRow base e 1 v n cs) (hx : Ext M w w') (hm : ∀ b, v.ownBlock = some b → b ∉ M) : w'.ownsRow base e 1 v n cs := by
  refine ⟨h.1, ?_⟩
  rcases h.2 with h0 | ⟨g, cap, cur, rfl, hb, hg, h1, h2, h3, h4⟩
  · exact .inl h0
  · refine .inr ⟨g, cap, cur, rfl, hb, ?_, h1, h2, h3, h4⟩
    rw [hx.block g (Array.getElem?_eq_some_iff.1 hg).1 (hm g rfl)]
    exact hg
theorem RowAt.apart {w0 w w' : World} {a : Option Addr} {cs : List Value} {M : List Nat} (h : RowAt w0 a cs) (h0 : Ext [] w0 w) (hx : Ext M w w') (hm : ∀ g ∈ M, w0.heap.size ≤ g) : RowAt w' a cs := by
  by_cases hc : cs = []
  · rw [hc]; exact RowAt.nil
  · obtain ⟨b, o, rfl, hb, _⟩ := h.get hc
    refine (h.ext0 h0).ext hx fun b' o' e hmem => ?_
    cases e
    have := hm b hmem
    omega
/-- a new row of bytes -/
def FreshB (w w' : World) (u : Value) (l : List (BitVec 8)) : Prop := Ext [] w w' ∧ ∃ a c, u = .slice a l.length c ∧ l.length ≤ c ∧ (a = none → c = 0) ∧ RowAt w' a (bys l) ∧ ∀ x, a = some x → w.heap.size ≤ x.block ∧ x.block < w'.heap.size
abbrev rsCode_0 := (And.intro @xBox_r (And.intro @loadK_some (And.intro @loadsK_s (And.intro @loadsK_n (And.intro @loadsR_s (And.intro @loadsR_n (And.intro @storesK_s (And.intro @storesK_n (And.intro @xPick_t (And.intro @xPick_f (And.intro @xGuard_tt (And.intro @xGuard_ff (And.intro @xGuard_tf (And.intro @xGuard_ft (And.intro @xGuard_u 
  (And.intro @xNil_r (And.intro @xIf_t (And.intro @xBin_add' (And.intro @xBin_sub' (And.intro @xBin_mul' (And.intro @xBin_quo' (And.intro @xBin_rem' (And.intro @xIf_f (And.intro @xIf_tt (And.intro @xEx0 (And.intro @xEx1 (And.intro @xEx2 (And.intro @xEx3 (And.intro @xBin_eqs (And.intro @xBin_nes (And.intro @xUn_not (And.intro @xu8_eql (And.intro @xu16_eql 
  (And.intro @xu32_eql (And.intro @xu64_eql (And.intro @xi64_eql (And.intro @xMakeFunc_r (And.intro @xSq_r (And.intro @xPur_s (And.intro @xRd_s (And.intro @xRe_s (And.intro @xDet_s (And.intro @xDet_ld (And.intro @xDet_ld2 (And.intro @xDet_ld3 (And.intro @xDet_ld4 (And.intro @xGuard_tt (And.intro @bs_25_0 (And.intro @bs_25_1 (And.intro @bs_25_2 (And.intro @bs_25_4 @nq_25)))))))))))))))))))))))))))))))))))))))))))))))))))
abbrev rsCode_1 := (And.intro @setCells_c (And.intro @setCells_n (And.intro @World.setCell_alloc_at (And.intro @World.setCell_alloc_past (And.intro @World.cell?_alloc_at (And.intro @World.cell?_alloc_past (And.intro @World.frozen?_alloc_at (And.intro @World.frozen?_alloc_past 
  (And.intro @World.size_alloc (And.intro @dlt_t (And.intro @dlt_f (And.intro @dle_t (And.intro @dle_f (And.intro @deq_t (And.intro @deq_f (And.intro @dne_t (And.intro @dne_f (And.intro @not_true_eq_false (And.intro @Bool.false_and (And.intro @Bool.true_and (And.intro @Bool.and_true (And.intro @Bool.and_false (And.intro @wrap_in (And.intro @Int.toNat_natCast 
  (And.intro @Nat.mul_one (And.intro @cells_int (And.intro @cells_bool (And.intro @cells_string (And.intro @cells_slice (And.intro @cells_pointer (And.intro @cells_agg (And.intro @one_int (And.intro @one_bool (And.intro @one_string (And.intro @one_slice (And.intro @one_pointer (And.intro @beq_tt (And.intro @beq_ff (And.intro @beq_tf 
  (And.intro @beq_ft (And.intro @cell_sets_b (And.intro @frozen_sets (And.intro @size_sets (And.intro @World.size_drew (And.intro @Nat.zero_add (And.intro @Nat.add_zero (And.intro @cell_drew (And.intro @frozen_drew (And.intro @cell_set_eq (And.intro @cell_set_o (And.intro @cell_set_b (And.intro @World.frozen?_setCell 
  (And.intro @decide_true (And.intro @decide_false (And.intro @not_false_eq_true (And.intro @Bool.not_true @Bool.not_false))))))))))))))))))))))))))))))))))))))))))))))))))))))))
theorem CloneB_spec (l : List (BitVec 8)) (a : Option Addr) (n c : Nat) (w : World) (hn : n = l.length) (hl : l.length ≤ 1000000) (h : RowAt w a (bys l)) (hnil : a = none → c = 0) :
    Yld Try.prog n_slices_Clone_byte_byte #[.slice a n c] w fun u w' => FreshB w w' u l := by
  subst hn
  refine slices_Clone_byte_byte_of ?_
  unfold slices_Clone_byte_byte
  cases a with
  | none =>
    have hw : l = [] := by rcases h with h | ⟨b, o, h, _⟩; simpa using h; cases h
    subst hw
    simp (disch := (first | omega | decide | (simp only [World.size_alloc, World.size_setCell, World.size_drew, size_sets, List.mem_cons, List.not_mem_nil, or_false, not_false_eq_true] <;> omega) | fail)) only [↓rsCode_0, rsCode_1, Option.isNone_some, Option.isNone_none, tick_eq, tickV_eq, ne_eq, Int.reduceAdd, Int.reduceSub, Int.reduceMul, Int.reduceEq, Int.reduceLT, Int.reduceLE, Int.reduceToNat, Nat.reduceMul, Nat.reduceAdd, Nat.reduceSub, List.nil_append, List.cons_append, List.getElem?_toArray, List.getElem?_cons_zero, List.getElem?_cons_succ, List.setIfInBounds_toArray, List.set_cons_zero, List.set_cons_succ, Option.map_some, List.not_mem_nil, ←decide_not, eq_self]
    exact ⟨by (repeat (first | with_reducible exact Ext.refl _ _ | with_reducible assumption | with_reducible refine Ext.alloc' ?_ _ | with_reducible refine Ext.drew' ?_ | with_reducible refine Ext.set' ?_ ?_ | exact .inr (by first | omega | (simp only [World.size_alloc, World.size_drew, World.size_setCell] <;> omega)) | refine Ext.trans ?_ (by with_reducible assumption))), none, 0, rfl, Nat.le_refl _, fun _ => rfl, RowAt.nil, fun x hx => by cases hx⟩
  | some a =>
    simp (disch := (first | omega | decide | (simp only [World.size_alloc, World.size_setCell, World.size_drew, size_sets, List.mem_cons, List.not_mem_nil, or_false, not_false_eq_true] <;> omega) | fail)) only [↓rsCode_0, rsCode_1, Option.isNone_some, Option.isNone_none, tick_eq, tickV_eq, ne_eq, Int.reduceAdd, Int.reduceSub, Int.reduceMul, Int.reduceEq, Int.reduceLT, Int.reduceLE, Int.reduceToNat, Nat.reduceMul, Nat.reduceAdd, Nat.reduceSub, List.nil_append, List.cons_append, List.getElem?_toArray, List.getElem?_cons_zero, List.getElem?_cons_succ, List.setIfInBounds_toArray, List.set_cons_zero, List.set_cons_succ, Option.map_some, List.not_mem_nil, ←decide_not, eq_self]
    refine xAppend_own (e := 5) (base := w.heap.size) (xs := []) (news := bys l) (z := .int .u8 0) (bytes := 1) (by kernel_rfl) (by kernel_rfl) (by rfl) (World.ownsRow_lit w #[] 0 (Nat.le_refl _) (by decide) (by rfl)) (by simp) (h.ext0 (Ext.alloc _ _ _)) hnil (by simp [Value.oneCell']) (by omega) (by omega) (by simp) ?_
    intro v' w' hown hgr
    rw [Nat.zero_add, List.nil_append] at hown
    have F2 : Ext [] w w' := grownBy_new (Ext.alloc [] w _) hgr (fun k hk => by simp [Value.ownBlock] at hk; omega)
    obtain ⟨a', c', rfl, h1, hc', hn', hr'⟩ := own_slice hown
    exact ⟨F2, a', c', rfl, hc', hn', hr', fun x hx => by subst hx; exact hown.lt _ rfl⟩
abbrev rsCode_2 := (And.intro @xBox_r (And.intro @loadK_some (And.intro @loadsK_s (And.intro @loadsK_n (And.intro @loadsR_s (And.intro @loadsR_n (And.intro @storesK_s (And.intro @storesK_n (And.intro @xPick_t (And.intro @xPick_f (And.intro @xGuard_tt (And.intro @xGuard_ff (And.intro @xGuard_tf (And.intro @xGuard_ft (And.intro @xGuard_u 
  (And.intro @xNil_r (And.intro @xIf_t (And.intro @xBin_add' (And.intro @xBin_sub' (And.intro @xBin_mul' (And.intro @xBin_quo' (And.intro @xBin_rem' (And.intro @xIf_f (And.intro @xIf_tt (And.intro @xEx0 (And.intro @xEx1 (And.intro @xEx2 (And.intro @xEx3 (And.intro @xBin_eqs (And.intro @xBin_nes (And.intro @xUn_not (And.intro @xMakeFunc_r (And.intro @xSq_r 
  (And.intro @xPur_s (And.intro @xRd_s (And.intro @xRe_s (And.intro @xDet_s (And.intro @xDet_ld (And.intro @xDet_ld2 (And.intro @xDet_ld3 (And.intro @xDet_ld4 (And.intro @xGuard_tt (And.intro @ln_25 (And.intro @sh_25 (And.intro @sl_25 @sm_25)))))))))))))))))))))))))))))))))))))))))))))
theorem ClipB_spec {w : World} {b : Option Addr} {n m : Nat} (hm : n ≤ m) : Gives Try.prog n_slices_Clip_byte_byte #[.slice b n m] w (.slice b n n) := by
  refine slices_Clip_byte_byte_of ?_
  unfold slices_Clip_byte_byte
  simp (disch := (first | omega | decide | (simp only [World.size_alloc, World.size_setCell, World.size_drew, size_sets, List.mem_cons, List.not_mem_nil, or_false, not_false_eq_true] <;> omega) | fail)) only [↓rsCode_2, rsCode_1, Option.isNone_some, Option.isNone_none, tick_eq, tickV_eq, ne_eq, Int.reduceAdd, Int.reduceSub, Int.reduceMul, Int.reduceEq, Int.reduceLT, Int.reduceLE, Int.reduceToNat, Nat.reduceMul, Nat.reduceAdd, Nat.reduceSub, List.nil_append, List.cons_append, List.getElem?_toArray, List.getElem?_cons_zero, List.getElem?_cons_succ, List.setIfInBounds_toArray, List.set_cons_zero, List.set_cons_succ, Option.map_some, List.not_mem_nil, ←decide_not, eq_self]
  exact ⟨by trivial, by (repeat (first | with_reducible exact Ext.refl _ _ | with_reducible assumption | with_reducible refine Ext.alloc' ?_ _ | with_reducible refine Ext.drew' ?_ | with_reducible refine Ext.set' ?_ ?_ | exact .inr (by first | omega | (simp only [World.size_alloc, World.size_drew, World.size_setCell] <;> omega)) | refine Ext.trans ?_ (by with_reducible assumption)))⟩
abbrev enB (g : Nat) (v : Value) : List Nat := g :: v.ownBlock.toList
structure EncIs (w : World) (base g : Nat) (v : Value) (l : List (BitVec 8)) : Prop where
  lo : base ≤ g
  blk : Blk w g 51 [v]
  own : w.ownsRow base 5 1 v l.length (bys l)
  ne : v.ownBlock ≠ some g
def EncTo (w w' : World) (base g : Nat) (v : Value) (l : List (BitVec 8)) : Prop := ∃ v', Ext (enB g v) w w' ∧ EncIs w' base g v' l ∧ ∀ b ∈ enB g v', b ∈ enB g v ∨ w.heap.size ≤ b
theorem EncIs.ext {w w' : World} {base g : Nat} {v : Value} {l : List (BitVec 8)} {M : List Nat} (h : EncIs w base g v l) (hx : Ext M w w') (hm : ∀ b ∈ enB g v, b ∉ M) : EncIs w' base g v l :=
  ⟨h.lo, h.blk.ext hx (hm g (List.mem_cons_self ..)), own_extM h.own hx fun b hb => hm b (by simp [enB, hb]), h.ne⟩
theorem EncIs.ext0 {w w' : World} {base g : Nat} {v : Value} {l : List (BitVec 8)} (h : EncIs w base g v l) (hx : Ext [] w w') : EncIs w' base g v l := h.ext hx (by simp)
theorem EncIs.up {w : World} {base g : Nat} {v : Value} {l : List (BitVec 8)} (h : EncIs w base g v l) : ∀ b ∈ enB g v, base ≤ b ∧ b < w.heap.size := by
  intro b hb
  simp only [enB, List.mem_cons, Option.mem_toList] at hb
  rcases hb with rfl | hb
  · exact ⟨h.lo, h.blk.lt⟩
  · exact h.own.lt b hb
theorem EncTo.refl {w w' : World} {base g : Nat} {v : Value} {l : List (BitVec 8)} (h : EncIs w base g v l) (hx : Ext [] w w') : EncTo w w' base g v l := ⟨v, hx.more (by simp), h.ext0 hx, fun b hb => .inl hb⟩
theorem EncTo.step {w w1 w2 : World} {base g : Nat} {v v1 : Value} {l : List (BitVec 8)} (hx : Ext (enB g v) w w1) (hs : ∀ b ∈ enB g v1, b ∈ enB g v ∨ w.heap.size ≤ b) (h : EncTo w1 w2 base g v1 l) : EncTo w w2 base g v l := by
  obtain ⟨v2, h1, h2, h3⟩ := h
  refine ⟨v2, hx.cut h1 hs, h2, fun b hb => ?_⟩
  rcases h3 b hb with h | h
  · exact hs b h
  · exact .inr (Nat.le_trans hx.size h)
/-- more bytes put behind -/
theorem enc_put {w v2 w' : World} {base g : Nat} {s v' : Value} {l m : List (BitVec 8)} (h : EncIs w base g s l) (hx : Ext [] w v2) (hown : w'.ownsRow base 5 1 v' (l.length + m.length) (bys l ++ bys m)) (hgr : v2.grownBy w' s.ownBlock)
    (hwh : v'.ownBlock = s.ownBlock ∨ v'.ownBlock = some v2.heap.size) : w'.cell? ⟨g, 0, none⟩ = some s ∧ w'.frozen? ⟨g, 0, none⟩ = false ∧ EncTo w (w'.setCell ⟨g, 0, none⟩ v') base g s (l ++ m) := by
  have hz := hx.size
  have hg := h.blk.lt
  have E1 : Ext s.ownBlock.toList v2 w' := grownBy_ext hgr (by simp)
  have E2 : Ext (enB g s) w w' := (hx.more (by simp)).trans (E1.more fun x hx => List.mem_cons_of_mem _ hx)
  have B1 : Blk w' g 51 [s] := (h.blk.ext hx (by simp)).ext E1 (by simpa using h.ne)
  have hne : v'.ownBlock ≠ some g := by
    rcases hwh with e | e <;> rw [e]
    · exact h.ne
    · intro e2; simp at e2; omega
  refine ⟨by rw [B1.cell]; rfl, B1.frozen, v', E2.set' (.inl (List.mem_cons_self ..)), ⟨h.lo, B1.set (i := 0) (v := v'), ?_, hne⟩, fun b hb => ?_⟩
  · rw [List.length_append, bys, List.map_append]
    exact own_extM hown (Ext.set (b := g)) (by intro b hb hm; simp at hm; rw [hm] at hb; exact hne hb)
  · simp only [enB, List.mem_cons, Option.mem_toList] at hb ⊢
    rcases hb with e | e
    · exact .inl (.inl e)
    · rcases hwh with e2 | e2
      · exact .inl (.inr (by rw [← e2]; exact e))
      · rw [e2] at e; simp at e; exact .inr (by omega)
/-- a row onto which bytes are put: what stands there, and what shall -/
def leApp (base : Nat) (s : Value) (xs ys : List Value) (w w' : World) : Prop :=
  Ext s.ownBlock.toList w w' ∧ (w.ownsRow base 5 1 s xs.length xs → w'.ownsRow base 5 1 s xs.length xs) ∧ ∀ u, w.ownsRow base 5 1 u (xs ++ ys).length (xs ++ ys) → w'.ownsRow base 5 1 u (xs ++ ys).length (xs ++ ys)
theorem leApp.refl {base : Nat} {s : Value} {xs ys : List Value} (w : World) : leApp base s xs ys w w := ⟨Ext.refl _ _, id, fun _ => id⟩
theorem leApp.trans {base : Nat} {s : Value} {xs ys : List Value} {a b c : World} (h : leApp base s xs ys a b) (k : leApp base s xs ys b c) : leApp base s xs ys a c :=
  ⟨h.1.trans k.1, k.2.1 ∘ h.2.1, fun u => k.2.2 u ∘ h.2.2 u⟩
theorem leApp.of {base : Nat} {s : Value} {xs ys : List Value} {w w' : World} (h : Ext [] w w') : leApp base s xs ys w w' := ⟨h.more (by simp), fun h0 => own_ext h0 h, fun _ h0 => own_ext h0 h⟩
theorem leApp.app {base : Nat} {s v' : Value} {xs ys : List Value} {w w' : World} (ho : w.ownsRow base 5 1 s xs.length xs) (hown : w'.ownsRow base 5 1 v' (xs ++ ys).length (xs ++ ys)) (hgr : w.grownBy w' s.ownBlock)
    (hwh : v'.ownBlock = s.ownBlock ∧ w'.ownsRow base 5 1 s xs.length xs ∨ v'.ownBlock = some w.heap.size ∧ w.grownBy w' none) : leApp base s xs ys w w' := by
  rcases hwh with ⟨h1, h2⟩ | ⟨_, h2⟩
  · refine ⟨grownBy_ext hgr (by simp), fun _ => h2, fun u hu => ?_⟩
    by_cases hb : u.ownBlock = s.ownBlock
    · refine ⟨hu.1, ?_⟩
      rcases hu.2 with h0 | ⟨g, cap, cur, rfl, hb1, hg, c1, c2, c3, c4⟩
      · exact .inl h0
      · have hsb : s.ownBlock = some g := hb.symm
        rcases h2.2 with ⟨rfl, _⟩ | ⟨g2, cap2, cur2, rfl, _, hg2, _, _, d3, _⟩
        · cases hsb
        · rcases ho.2 with ⟨e0, _⟩ | ⟨g3, cap3, cur3, e3, _, hg3, _, _, f3, _⟩
          · cases e0
          · simp only [Value.slice.injEq, Option.some.injEq, Addr.mk.injEq, and_true, true_and] at e3
            have hgg : g2 = g := by simpa [Value.ownBlock] using hsb
            obtain ⟨e4, e5⟩ := e3
            subst hgg e4 e5
            rw [hg] at hg3
            have hcc : cur = cur3 := by simpa using hg3
            rcases hown.2 with ⟨e6, _⟩ | ⟨g4, cap4, cur4, e6, _, hg4, _, _, _, k4⟩
            · rw [e6] at h1; cases h1
            · rw [e6] at h1
              have hgg4 : g4 = g2 := by simpa [Value.ownBlock] using h1
              subst hgg4
              rw [hg2] at hg4
              have hcc4 : cur2 = cur4 := by simpa using hg4
              subst hcc hcc4
              exact .inr ⟨g4, cap, cur2, rfl, hb1, hg2, c1, c2, by rw [d3, ← f3, c3], k4⟩
    · have hx : Ext s.ownBlock.toList w w' := grownBy_ext hgr (by simp)
      refine own_extM hu hx fun b hbb hm => hb ?_
      rw [hbb]
      exact (by simpa using hm : s.ownBlock = some b).symm
  · have hx : Ext [] w w' := grownBy_ext h2 (by simp)
    exact leApp.of hx
theorem lit_rowC {w : World} {l : List (BitVec 8)} : RowAt (w.alloc (.cells (bys l).toArray 5)) (some ⟨w.heap.size, 0, none⟩) (bys l) := (Blk.new (e := 5) w (bys l)).row
section
variable {w : World} {base g : Nat} {v : Value} {l : List (BitVec 8)}
abbrev rsCode_3 := (And.intro @xBox_r (And.intro @loadK_some (And.intro @loadsK_s (And.intro @loadsK_n (And.intro @loadsR_s (And.intro @loadsR_n (And.intro @storesK_s (And.intro @storesK_n (And.intro @xPick_t (And.intro @xPick_f (And.intro @xGuard_tt (And.intro @xGuard_ff (And.intro @xGuard_tf (And.intro @xGuard_ft (And.intro @xGuard_u 
  (And.intro @xNil_r (And.intro @xIf_t (And.intro @xBin_add' (And.intro @xBin_sub' (And.intro @xBin_mul' (And.intro @xBin_quo' (And.intro @xBin_rem' (And.intro @xIf_f (And.intro @xIf_tt (And.intro @xEx0 (And.intro @xEx1 (And.intro @xEx2 (And.intro @xEx3 (And.intro @xBin_eqs (And.intro @xBin_nes (And.intro @xUn_not (And.intro @xu8_and (And.intro @xu8_or 
  (And.intro @xu8_shr (And.intro @xu8_geq (And.intro @xu16_and (And.intro @xu16_or (And.intro @xu16_shr (And.intro @xu16_geq (And.intro @xu32_and (And.intro @xu32_or (And.intro @xu32_shr (And.intro @xu32_geq (And.intro @xu64_and (And.intro @xu64_or (And.intro @xu64_shr (And.intro @xu64_geq (And.intro @xi64_geq (And.intro @xi64_and (And.intro @xi64_or 
  (And.intro @xi64_shr (And.intro @xMakeFunc_r (And.intro @xSq_r (And.intro @xPur_s (And.intro @xRd_s (And.intro @xRe_s (And.intro @xDet_s (And.intro @xDet_ld (And.intro @xDet_ld2 (And.intro @xDet_ld3 (And.intro @xDet_ld4 (And.intro @xGuard_tt (And.intro @ld_25 (And.intro @fa_51_0 (And.intro @st_25 (And.intro @cv_22_5 (And.intro @bs_25_0 (And.intro @bs_25_1 
  (And.intro @bs_25_2 @bs_25_4)))))))))))))))))))))))))))))))))))))))))))))))))))))))))))))))))))))
theorem Enc_Uint_spec (x : BitVec 64) (h : EncIs w base g v l) (hl : l.length ≤ 1000000) : Yld Try.prog n_codec_Enc_Uint #[ptr g, u64 x] w fun u w' => u = .tuple #[] ∧ EncTo w w' base g v (l ++ uintB x) := by
  refine codec_Enc_Uint_of ?_
  unfold codec_Enc_Uint
  have hpos : 0 < (uintB x).length := uintF_pos
  have hle : (uintB x).length ≤ 10 := uintF_le
  refine xLoop_r ((uintB x).length - 1) (fun k vs w' => ∃ y l', vs = [u64 y] ∧ uintB x = l' ++ uintF (10 - k) y ∧ y.toNat < 2 ^ (7 * (10 - k)) ∧ l'.length = k ∧ EncTo w w' base g v (l ++ l'))
    ⟨x, [], rfl, rfl, Nat.lt_of_lt_of_le x.isLt (by decide), rfl, by rw [List.append_nil]; exact EncTo.refl h (Ext.refl _ _)⟩ ?_ ?_
  · rintro k hk u w1 ⟨y, l', hu, hxe, hy, hl', hT⟩ nxt hnx
    simp only [List.map_cons, List.map_nil, List.cons.injEq, and_true] at hu
    rw [hu]
    obtain ⟨s, F1, H1, hs⟩ := hT
    have hlen := congrArg List.length hxe
    rw [List.length_append, hl'] at hlen
    have e10 : 10 - k = (9 - k) + 1 := by omega
    have hge : 128 ≤ y.toNat := by
      rw [e10] at hlen
      exact uintF_more (k := 9 - k) (by omega)
    have hcell : w1.cell? ⟨g, 0, none⟩ = some s := by rw [H1.blk.cell]; rfl
    obtain ⟨a2, c2, rfl, _, hc2, hn2, _⟩ := own_slice H1.own
    unfold codec_Enc_Uint_l1
    have d1 : decide ((BitVec.ofNat 64 128).toNat ≤ y.toNat) = true := decide_eq_true hge
    simp (disch := (first | omega | decide | (simp only [World.size_alloc, World.size_setCell, World.size_drew, size_sets, List.mem_cons, List.not_mem_nil, or_false, not_false_eq_true] <;> omega) | fail)) only [↓rsCode_3, rsCode_1, Option.isNone_some, Option.isNone_none, tick_eq, tickV_eq, ne_eq, Int.reduceAdd, Int.reduceSub, Int.reduceMul, Int.reduceEq, Int.reduceLT, Int.reduceLE, Int.reduceToNat, Nat.reduceMul, Nat.reduceAdd, Nat.reduceSub, List.nil_append, List.cons_append, List.getElem?_toArray, List.getElem?_cons_zero, List.getElem?_cons_succ, List.setIfInBounds_toArray, List.set_cons_zero, List.set_cons_succ, Option.map_some, List.not_mem_nil, ←decide_not, d1, hcell]
    refine xAppend_own2 (e := 5) (base := base) (news := bys [lowB y]) (z := .int .u8 0) (bytes := 1) (by kernel_rfl) (by kernel_rfl) (by rfl) (own_ext H1.own (Ext.alloc [] w1 _)) (by rfl) lit_rowC (by simp) (by simp [Value.oneCell']) (by simp; omega) (by simp; omega) (by have := H1.lo; have := H1.blk.lt; simp; omega) ?_
    intro v' w' hown hgr hwh
    obtain ⟨c3, f3, T3⟩ := enc_put (m := [lowB y]) H1 (Ext.alloc [] w1 _) hown hgr (hwh.imp And.left And.left)
    obtain ⟨a3, cc3, rfl, _, _, _, _⟩ := own_slice hown
    simp (disch := (first | omega | decide | (simp only [World.size_alloc, World.size_setCell, World.size_drew, size_sets, List.mem_cons, List.not_mem_nil, or_false, not_false_eq_true] <;> omega) | fail)) only [↓rsCode_3, rsCode_1, Option.isNone_some, Option.isNone_none, tick_eq, tickV_eq, ne_eq, Int.reduceAdd, Int.reduceSub, Int.reduceMul, Int.reduceEq, Int.reduceLT, Int.reduceLE, Int.reduceToNat, Nat.reduceMul, Nat.reduceAdd, Nat.reduceSub, List.nil_append, List.cons_append, List.getElem?_toArray, List.getElem?_cons_zero, List.getElem?_cons_succ, List.setIfInBounds_toArray, List.set_cons_zero, List.set_cons_succ, Option.map_some, List.not_mem_nil, ←decide_not, d1, hcell, c3, f3]
    refine hnx _ _ ⟨y >>> 7, l' ++ [lowB y], rfl, ?_, ?_, by simp [hl'], ?_⟩
    · rw [hxe, e10, show 10 - (k + 1) = 9 - k by omega]
      rw [uintF_succ, if_pos hge]
      simp
    · rw [e10] at hy
      rw [show 10 - (k + 1) = 9 - k by omega]
      exact shr7_lt hy
    · rw [← List.append_assoc]
      exact EncTo.step F1 hs T3
  · rintro u w1 ⟨y, l', hu, hxe, hy, hl', hT⟩ nxt
    simp only [List.map_cons, List.map_nil, List.cons.injEq, and_true] at hu
    rw [hu]
    obtain ⟨s, F1, H1, hs⟩ := hT
    have hlen := congrArg List.length hxe
    rw [List.length_append, hl'] at hlen
    generalize hk : (uintB x).length - 1 = k at *
    have e10 : 10 - k = (9 - k) + 1 := by omega
    rw [e10] at hlen hy hxe
    have hlt : y.toNat < 128 := uintF_one hy (by omega)
    have hcell : w1.cell? ⟨g, 0, none⟩ = some s := by rw [H1.blk.cell]; rfl
    obtain ⟨a2, c2, rfl, _, hc2, hn2, _⟩ := own_slice H1.own
    unfold codec_Enc_Uint_l1
    have d1 : decide ((BitVec.ofNat 64 128).toNat ≤ y.toNat) = false := decide_eq_false (by show ¬ 128 ≤ _; omega)
    simp (disch := (first | omega | decide | (simp only [World.size_alloc, World.size_setCell, World.size_drew, size_sets, List.mem_cons, List.not_mem_nil, or_false, not_false_eq_true] <;> omega) | fail)) only [↓rsCode_3, rsCode_1, Option.isNone_some, Option.isNone_none, tick_eq, tickV_eq, ne_eq, Int.reduceAdd, Int.reduceSub, Int.reduceMul, Int.reduceEq, Int.reduceLT, Int.reduceLE, Int.reduceToNat, Nat.reduceMul, Nat.reduceAdd, Nat.reduceSub, List.nil_append, List.cons_append, List.getElem?_toArray, List.getElem?_cons_zero, List.getElem?_cons_succ, List.setIfInBounds_toArray, List.set_cons_zero, List.set_cons_succ, Option.map_some, List.not_mem_nil, ←decide_not, d1, hcell]
    refine xAppend_own2 (e := 5) (base := base) (news := bys [y.setWidth 8]) (z := .int .u8 0) (bytes := 1) (by kernel_rfl) (by kernel_rfl) (by rfl) (own_ext H1.own (Ext.alloc [] w1 _)) (by rfl) lit_rowC (by simp) (by simp [Value.oneCell']) (by simp; omega) (by simp; omega) (by have := H1.lo; have := H1.blk.lt; simp; omega) ?_
    intro v' w' hown hgr hwh
    obtain ⟨c3, f3, T3⟩ := enc_put (m := [y.setWidth 8]) H1 (Ext.alloc [] w1 _) hown hgr (hwh.imp And.left And.left)
    obtain ⟨a3, cc3, rfl, _, _, _, _⟩ := own_slice hown
    simp (disch := (first | omega | decide | (simp only [World.size_alloc, World.size_setCell, World.size_drew, size_sets, List.mem_cons, List.not_mem_nil, or_false, not_false_eq_true] <;> omega) | fail)) only [↓rsCode_3, rsCode_1, Option.isNone_some, Option.isNone_none, tick_eq, tickV_eq, ne_eq, Int.reduceAdd, Int.reduceSub, Int.reduceMul, Int.reduceEq, Int.reduceLT, Int.reduceLE, Int.reduceToNat, Nat.reduceMul, Nat.reduceAdd, Nat.reduceSub, List.nil_append, List.cons_append, List.getElem?_toArray, List.getElem?_cons_zero, List.getElem?_cons_succ, List.setIfInBounds_toArray, List.set_cons_zero, List.set_cons_succ, Option.map_some, List.not_mem_nil, ←decide_not, d1, hcell, c3, f3]
    refine ⟨by trivial, ?_⟩
    have e : uintB x = l' ++ [y.setWidth 8] := by
      rw [hxe, uintF_succ, if_neg (by omega)]
    rw [e, ← List.append_assoc]
    exact EncTo.step F1 hs T3

/-- a number with a sign as one without -/
def zig (v : Int) : BitVec 64 := (BitVec.ofInt 64 v <<< 1) ^^^ BitVec.ofInt 64 (v.fdiv (2 ^ 63))
abbrev rsCode_4 := (And.intro @xBox_r (And.intro @loadK_some (And.intro @loadsK_s (And.intro @loadsK_n (And.intro @loadsR_s (And.intro @loadsR_n (And.intro @storesK_s (And.intro @storesK_n (And.intro @xPick_t (And.intro @xPick_f (And.intro @xGuard_tt (And.intro @xGuard_ff (And.intro @xGuard_tf (And.intro @xGuard_ft (And.intro @xGuard_u 
  (And.intro @xNil_r (And.intro @xIf_t (And.intro @xBin_add' (And.intro @xBin_sub' (And.intro @xBin_mul' (And.intro @xBin_quo' (And.intro @xBin_rem' (And.intro @xIf_f (And.intro @xIf_tt (And.intro @xEx0 (And.intro @xEx1 (And.intro @xEx2 (And.intro @xEx3 (And.intro @xBin_eqs (And.intro @xBin_nes (And.intro @xUn_not (And.intro @xMakeFunc_r (And.intro @xSq_r 
  (And.intro @xPur_s (And.intro @xRd_s (And.intro @xRe_s (And.intro @xDet_s (And.intro @xDet_ld (And.intro @xDet_ld2 (And.intro @xDet_ld3 (And.intro @xDet_ld4 (And.intro @xGuard_tt (And.intro @ld_25 (And.intro @fa_51_0 (And.intro @st_25 (And.intro @cv_3_22 @ln_25))))))))))))))))))))))))))))))))))))))))))))))
theorem Enc_Raw_spec (m : List (BitVec 8)) (a : Option Addr) (c : Nat) (h : EncIs w base g v l) (hl : l.length + m.length ≤ 1000000) (hm : RowAt w a (bys m)) (hnil : a = none → c = 0) (hap : m ≠ [] → ∀ b o, a = some ⟨b, o, none⟩ → b ∉ enB g v) :
    Yld Try.prog n_codec_Enc_Raw #[ptr g, .slice a m.length c] w fun u w' => u = .tuple #[] ∧ EncTo w w' base g v (l ++ (uintB (BitVec.ofNat 64 m.length) ++ m)) := by
  refine codec_Enc_Raw_of ?_
  unfold codec_Enc_Raw
  have e1 : BitVec.ofInt 64 (m.length : Int) = BitVec.ofNat 64 m.length := BitVec.ofInt_natCast ..
  simp (disch := (first | omega | decide | (simp only [World.size_alloc, World.size_setCell, World.size_drew, size_sets, List.mem_cons, List.not_mem_nil, or_false, not_false_eq_true] <;> omega) | fail)) only [↓rsCode_4, rsCode_1, Option.isNone_some, Option.isNone_none, tick_eq, tickV_eq, ne_eq, Int.reduceAdd, Int.reduceSub, Int.reduceMul, Int.reduceEq, Int.reduceLT, Int.reduceLE, Int.reduceToNat, Nat.reduceMul, Nat.reduceAdd, Nat.reduceSub, List.nil_append, List.cons_append, List.getElem?_toArray, List.getElem?_cons_zero, List.getElem?_cons_succ, List.setIfInBounds_toArray, List.set_cons_zero, List.set_cons_succ, Option.map_some, List.not_mem_nil, ←decide_not, e1]
  refine codec_Enc_Uint_call (Yld.mono (Enc_Uint_spec _ h (by omega)) ?_)
  rintro u w1 ⟨rfl, s, F1, H1, hs⟩
  have hle : (uintB (BitVec.ofNat 64 m.length)).length ≤ 10 := uintF_le
  have hm1 : RowAt w1 a (bys m) := by
    by_cases hm0 : m = []
    · rw [hm0]; exact RowAt.nil
    · exact hm.ext F1 (hap hm0)
  have hcell : w1.cell? ⟨g, 0, none⟩ = some s := by rw [H1.blk.cell]; rfl
  obtain ⟨a2, c2, rfl, _, hc2, hn2, _⟩ := own_slice H1.own
  simp (disch := (first | omega | decide | (simp only [World.size_alloc, World.size_setCell, World.size_drew, size_sets, List.mem_cons, List.not_mem_nil, or_false, not_false_eq_true] <;> omega) | fail)) only [↓rsCode_4, rsCode_1, Option.isNone_some, Option.isNone_none, tick_eq, tickV_eq, ne_eq, Int.reduceAdd, Int.reduceSub, Int.reduceMul, Int.reduceEq, Int.reduceLT, Int.reduceLE, Int.reduceToNat, Nat.reduceMul, Nat.reduceAdd, Nat.reduceSub, List.nil_append, List.cons_append, List.getElem?_toArray, List.getElem?_cons_zero, List.getElem?_cons_succ, List.setIfInBounds_toArray, List.set_cons_zero, List.set_cons_succ, Option.map_some, List.not_mem_nil, ←decide_not, e1, hcell]
  refine xAppend_own2 (e := 5) (base := base) (news := bys m) (z := .int .u8 0) (bytes := 1) (by kernel_rfl) (by kernel_rfl) (by rfl) H1.own (by simp) hm1 hnil (by simp [Value.oneCell']) (by simp; omega) (by simp; omega) (by have := H1.lo; have := H1.blk.lt; omega) ?_
  intro v' w' hown hgr hwh
  obtain ⟨c3, f3, T3⟩ := enc_put (m := m) H1 (Ext.refl _ _) hown hgr (hwh.imp And.left And.left)
  obtain ⟨a3, cc3, rfl, _, _, _, _⟩ := own_slice hown
  simp (disch := (first | omega | decide | (simp only [World.size_alloc, World.size_setCell, World.size_drew, size_sets, List.mem_cons, List.not_mem_nil, or_false, not_false_eq_true] <;> omega) | fail)) only [↓rsCode_4, rsCode_1, Option.isNone_some, Option.isNone_none, tick_eq, tickV_eq, ne_eq, Int.reduceAdd, Int.reduceSub, Int.reduceMul, Int.reduceEq, Int.reduceLT, Int.reduceLE, Int.reduceToNat, Nat.reduceMul, Nat.reduceAdd, Nat.reduceSub, List.nil_append, List.cons_append, List.getElem?_toArray, List.getElem?_cons_zero, List.getElem?_cons_succ, List.setIfInBounds_toArray, List.set_cons_zero, List.set_cons_succ, Option.map_some, List.not_mem_nil, ←decide_not, e1, hcell, c3, f3]
  refine ⟨by trivial, ?_⟩
  rw [← List.append_assoc]
  exact EncTo.step F1 hs T3
/-- words, eight bytes each -/
def wordsB (ws : List (BitVec 64)) : List (BitVec 8) := ws.flatMap fun x => (List.range 8).map (byteOf x)
theorem wordsB_length (ws : List (BitVec 64)) : (wordsB ws).length = 8 * ws.length := by
  induction ws with
  | nil => rfl
  | cons x ws ih => unfold wordsB at *; rw [List.flatMap_cons, List.length_append, ih]; simp; omega
theorem wordsB_take {ws : List (BitVec 64)} {k : Nat} (h : k < ws.length) : wordsB (ws.take (k + 1)) = wordsB (ws.take k) ++ (List.range 8).map (byteOf ws[k]) := by
  rw [List.take_succ_eq_append_getElem h, wordsB, List.flatMap_append]
  simp [wordsB]
abbrev rsCode_5 := (And.intro @xBox_r (And.intro @loadK_some (And.intro @loadsK_s (And.intro @loadsK_n (And.intro @loadsR_s (And.intro @loadsR_n (And.intro @storesK_s (And.intro @storesK_n (And.intro @xPick_t (And.intro @xPick_f (And.intro @xGuard_tt (And.intro @xGuard_ff (And.intro @xGuard_tf (And.intro @xGuard_ft (And.intro @xGuard_u 
  (And.intro @xNil_r (And.intro @xIf_t (And.intro @xBin_add' (And.intro @xBin_sub' (And.intro @xBin_mul' (And.intro @xBin_quo' (And.intro @xBin_rem' (And.intro @xIf_f (And.intro @xIf_tt (And.intro @xEx0 (And.intro @xEx1 (And.intro @xEx2 (And.intro @xEx3 (And.intro @xBin_eqs (And.intro @xBin_nes (And.intro @xUn_not (And.intro @xMakeFunc_r (And.intro @xSq_r 
  (And.intro @xPur_s (And.intro @xRd_s (And.intro @xRe_s (And.intro @xDet_s (And.intro @xDet_ld (And.intro @xDet_ld2 (And.intro @xDet_ld3 (And.intro @xDet_ld4 (And.intro @xGuard_tt (And.intro @ld_25 @fa_51_0)))))))))))))))))))))))))))))))))))))))))))
theorem Enc_Bytes_spec (h : EncIs w base g v l) (hl : l.length ≤ 1000000) : Yld Try.prog n_codec_Enc_Bytes #[ptr g] w fun u w' => FreshB w w' u l := by
  refine codec_Enc_Bytes_of ?_
  unfold codec_Enc_Bytes
  have hcell : w.cell? ⟨g, 0, none⟩ = some v := by rw [h.blk.cell]; rfl
  obtain ⟨a2, c2, rfl, hl2, hc2, hn2, hr2⟩ := own_slice h.own
  simp (disch := (first | omega | decide | (simp only [World.size_alloc, World.size_setCell, World.size_drew, size_sets, List.mem_cons, List.not_mem_nil, or_false, not_false_eq_true] <;> omega) | fail)) only [↓rsCode_5, rsCode_1, Option.isNone_some, Option.isNone_none, tick_eq, tickV_eq, ne_eq, Int.reduceAdd, Int.reduceSub, Int.reduceMul, Int.reduceEq, Int.reduceLT, Int.reduceLE, Int.reduceToNat, Nat.reduceMul, Nat.reduceAdd, Nat.reduceSub, List.nil_append, List.cons_append, List.getElem?_toArray, List.getElem?_cons_zero, List.getElem?_cons_succ, List.setIfInBounds_toArray, List.set_cons_zero, List.set_cons_succ, Option.map_some, List.not_mem_nil, ←decide_not, hcell]
  refine slices_Clone_byte_byte_call (Yld.mono (CloneB_spec l a2 l.length c2 w rfl hl hr2 hn2) ?_)
  rintro u w1 ⟨F1, a1, c1, rfl, hc1, hn1, R1, N1⟩
  simp (disch := (first | omega | decide | (simp only [World.size_alloc, World.size_setCell, World.size_drew, size_sets, List.mem_cons, List.not_mem_nil, or_false, not_false_eq_true] <;> omega) | fail)) only [↓rsCode_5, rsCode_1, Option.isNone_some, Option.isNone_none, tick_eq, tickV_eq, ne_eq, Int.reduceAdd, Int.reduceSub, Int.reduceMul, Int.reduceEq, Int.reduceLT, Int.reduceLE, Int.reduceToNat, Nat.reduceMul, Nat.reduceAdd, Nat.reduceSub, List.nil_append, List.cons_append, List.getElem?_toArray, List.getElem?_cons_zero, List.getElem?_cons_succ, List.setIfInBounds_toArray, List.set_cons_zero, List.set_cons_succ, Option.map_some, List.not_mem_nil, ←decide_not, hcell]
  refine slices_Clip_byte_byte_call (Gives.to (ClipB_spec hc1) fun w3 F3 => ?_)
  simp (disch := (first | omega | decide | (simp only [World.size_alloc, World.size_setCell, World.size_drew, size_sets, List.mem_cons, List.not_mem_nil, or_false, not_false_eq_true] <;> omega) | fail)) only [↓rsCode_5, rsCode_1, Option.isNone_some, Option.isNone_none, tick_eq, tickV_eq, ne_eq, Int.reduceAdd, Int.reduceSub, Int.reduceMul, Int.reduceEq, Int.reduceLT, Int.reduceLE, Int.reduceToNat, Nat.reduceMul, Nat.reduceAdd, Nat.reduceSub, List.nil_append, List.cons_append, List.getElem?_toArray, List.getElem?_cons_zero, List.getElem?_cons_succ, List.setIfInBounds_toArray, List.set_cons_zero, List.set_cons_succ, Option.map_some, List.not_mem_nil, ←decide_not, hcell]
  exact ⟨F1.trans F3, a1, l.length, by trivial, Nat.le_refl _, fun e => by have := hn1 e; omega, R1.ext0 F3, fun x hx => ⟨(N1 x hx).1, Nat.lt_of_lt_of_le (N1 x hx).2 F3.size⟩⟩
end
end Go.Proofs.Ytknineilpenbnaa
