/- Looking at words that should be objects: what the program finds (sq). -/
import Derived.Test.YtdpmidgeipibbaaChkV
import Derived.Test.YtdpmidgeipibbaaEng15
set_option linter.unusedVariables false
set_option linter.unusedSimpArgs false
set_option maxHeartbeats 4000000
namespace Go.Proofs.Ytdpmidgeipibbaa
open Go.Sh Go.RowKit

abbrev fC (f : Fnd) : List Value := [i64 (f.1 : Int), .string (strOf f.2)]
abbrev OwnF (w : World) (v : Value) (F : List Fnd) : Prop := Own w 40 2 v F.length (F.flatMap fC)
theorem fC_len (F : List Fnd) : (F.flatMap fC).length = F.length * 2 := by
  induction F with
  | nil => rfl
  | cons f F ih => rw [List.flatMap_cons, List.length_append, ih, List.length_cons]; simp [fC]; omega
theorem appFl {w : World} {K : K1} {v : Value} {F : List Fnd} {f : Fnd} {g : Nat} {cs : List Value} (hO : OwnF w v F) (hcs : cs = fC f) (hl : F.length ≤ 1000000)
    (hK : ∀ v' w', OwnF w' v' (F ++ [f]) → Stp (blk v) (blk v') w w' → K v' w') (hg : g = w.heap.size := by first | rfl | (simp only [World.size_alloc, World.size_drew, World.size_setCell] <;> omega)) : xBuiltin Try.prog .append #[37, 37] 37 [false, false] [v, .slice (some ⟨g, 0, none⟩) 1 1] (w.alloc (.cells cs.toArray 40)) K := by
  subst hcs hg
  refine xAppL (s := 2) (n := F.length) (m := 1) (xs := F.flatMap fC) (news := fC f) (bytes := 24) (z := .agg #[.int .i64 0, .string ⟨#[]⟩]) (by kernel_rfl) (by kernel_rfl) (by rfl) (by decide) hO (by rfl) (by simp [fC, Value.oneCell']) (by omega) (by omega) fun v' w' h1 h2 => hK v' w' ?_ h2
  show Own w' 40 2 v' (F ++ [f]).length ((F ++ [f]).flatMap fC)
  rw [List.length_append, List.flatMap_append]
  simpa using h1
/-- a header, as a map keeps it -/
abbrev hdX (x : Nat → BitVec 64) (p : Nat) : Int × Value := ((p : Int), hd (pN (x p)) (bN (x p)) false 0)
structure WkIs (w0 w : World) (k r : Nat) (v : Value) (a : Option Addr) (c : Nat) (L : List (BitVec 64)) (base : Nat) (l : List Nat) (F : List Fnd) : Prop where
  blk : Blk w k 96 [.slice a L.length c, i64 (base : Int), .map (some r), v]
  map : MapIs w r (l.map (hdX fun p => wat L (p - base)))
  own : OwnF w v F
  kr : k ≠ r
  kv : k ∉ Go.Sh.blk v
  rv : r ∉ Go.Sh.blk v
  up : w0.heap.size ≤ k ∧ w0.heap.size ≤ r ∧ ∀ y ∈ Go.Sh.blk v, w0.heap.size ≤ y
  row : RowAt w a (wrds L)
  ra : ∀ b o, a = some ⟨b, o, none⟩ → L ≠ [] → b < w0.heap.size
  ext : Ext [] w0 w
section
variable {w0 w : World} {k r : Nat} {v : Value} {a : Option Addr} {c : Nat} {L : List (BitVec 64)} {base : Nat} {l : List Nat} {F : List Fnd}
theorem WkIs.ext0 {w' : World} (h : WkIs w0 w k r v a c L base l F) (hx : Ext [] w w') : WkIs w0 w' k r v a c L base l F :=
  ⟨h.blk.ext hx (by simp), h.map.ext0 hx, h.own.ext0 hx, h.kr, h.kv, h.rv, h.up, h.row.ext0 hx, h.ra, h.ext.trans hx⟩
theorem WkIs.rowx {w' : World} {M : List Nat} (h : WkIs w0 w k r v a c L base l F) (hx : Ext M w w') (hM : ∀ y ∈ M, w0.heap.size ≤ y) : RowAt w' a (wrds L) := by
  by_cases hL : L = []
  · subst hL; exact RowAt.nil
  · exact h.row.ext hx fun b o hb hm => by
      have := h.ra b o hb hL
      have := hM b hm
      omega
abbrev rsChk_0 := (And.intro @xBox_r (And.intro @loadK_some (And.intro @loadsK_s (And.intro @loadsK_n (And.intro @loadsR_s (And.intro @loadsR_n (And.intro @storesK_s (And.intro @storesK_n (And.intro @xPick_t (And.intro @xPick_f (And.intro @xGuard_tt (And.intro @xGuard_ff (And.intro @xGuard_tf (And.intro @xGuard_ft (And.intro @xGuard_u 
  (And.intro @xNil_r (And.intro @xIf_t (And.intro @xBin_add' (And.intro @xBin_sub' (And.intro @xBin_mul' (And.intro @xBin_quo' (And.intro @xBin_rem' (And.intro @xIf_f (And.intro @xIf_tt (And.intro @xEx0 (And.intro @xEx1 (And.intro @xEx2 (And.intro @xEx3 (And.intro @xBin_eqs (And.intro @xBin_nes (And.intro @xUn_not (And.intro @xMakeFunc_r (And.intro @xSq_r 
  (And.intro @xPur_s (And.intro @xRd_s (And.intro @xRe_s (And.intro @xDet_s (And.intro @xDet_ld (And.intro @xDet_ld2 (And.intro @xDet_ld3 (And.intro @xDet_ld4 (And.intro @xGuard_tt (And.intro @ld_37 (And.intro @fa_96_3 (And.intro @st_37 (And.intro @bd_40_0_1 @bs_37_1))))))))))))))))))))))))))))))))))))))))))))))
abbrev rsChk_1 := (And.intro @setCells_c (And.intro @setCells_n (And.intro @World.setCell_alloc_at (And.intro @World.setCell_alloc_past (And.intro @World.cell?_alloc_at (And.intro @World.cell?_alloc_past (And.intro @World.frozen?_alloc_at (And.intro @World.frozen?_alloc_past 
  (And.intro @World.size_alloc (And.intro @dlt_t (And.intro @dlt_f (And.intro @dle_t (And.intro @dle_f (And.intro @deq_t (And.intro @deq_f (And.intro @dne_t (And.intro @dne_f (And.intro @not_true_eq_false (And.intro @Bool.false_and (And.intro @Bool.true_and (And.intro @Bool.and_true (And.intro @Bool.and_false (And.intro @wrap_in (And.intro @Int.toNat_natCast 
  (And.intro @Nat.mul_one (And.intro @cells_int (And.intro @cells_bool (And.intro @cells_string (And.intro @cells_slice (And.intro @cells_pointer (And.intro @cells_agg (And.intro @one_int (And.intro @one_bool (And.intro @one_string (And.intro @one_slice (And.intro @one_pointer (And.intro @beq_tt (And.intro @beq_ff (And.intro @beq_tf 
  (And.intro @beq_ft (And.intro @cell_sets_b (And.intro @frozen_sets (And.intro @size_sets (And.intro @World.size_drew (And.intro @Nat.zero_add (And.intro @Nat.add_zero (And.intro @cell_drew (And.intro @frozen_drew (And.intro @cell_set_eq (And.intro @cell_set_o (And.intro @cell_set_b (And.intro @World.frozen?_setCell 
  (And.intro @decide_true (And.intro @decide_false (And.intro @not_false_eq_true (And.intro @Bool.not_true @Bool.not_false))))))))))))))))))))))))))))))))))))))))))))))))))))))))
theorem add_spec {at' : Nat} {s : List (BitVec 8)} (h : WkIs w0 w k r v a c L base l F) (hF : F.length ≤ 1000000) : Yld Try.prog n_check_walk_add #[ptr k, i64 (at' : Int), .string (strOf s)] w fun u w' => ∃ v', WkIs w0 w' k r v' a c L base l (F ++ [(at', s)]) ∧ Stp (k :: Go.Sh.blk v) (k :: Go.Sh.blk v') w w' := by
  have kb := fun i => h.blk.cell (i := i)
  have zk := h.blk.lt
  have zr := h.map.lt
  obtain ⟨a2, c2, hv, _⟩ := h.own.slice
  refine check_walk_add_of ?_
  unfold check_walk_add
  have hv2 := hv
  subst hv2
  simp (disch := (first | omega | decide | (simp only [World.size_alloc, World.size_setCell, World.size_drew, size_sets, List.mem_cons, List.not_mem_nil, or_false, not_false_eq_true] <;> omega) | fail)) only [↓rsChk_0, rsChk_1, Option.isNone_some, Option.isNone_none, tick_eq, tickV_eq, ne_eq, Int.reduceAdd, Int.reduceSub, Int.reduceMul, Int.reduceEq, Int.reduceLT, Int.reduceLE, Int.reduceToNat, Nat.reduceMul, Nat.reduceAdd, Nat.reduceSub, List.nil_append, List.cons_append, List.getElem?_toArray, List.getElem?_cons_zero, List.getElem?_cons_succ, List.setIfInBounds_toArray, List.set_cons_zero, List.set_cons_succ, Option.map_some, List.not_mem_nil, ←decide_not, kb]
  refine appFl h.own (f := (at', s)) rfl hF fun v' w1 O1 F1 => ?_
  have B1 := h.blk.ext F1.ext h.kv
  have k1 := fun i => B1.cell (i := i)
  have f1 := fun i => B1.frozen (i := i)
  obtain ⟨a3, c3, hv3, _⟩ := O1.slice
  have hkv : k ∉ Go.Sh.blk v' := fun hm => by
    rcases F1.at' k hm with h1 | h1
    · exact h.kv h1
    · omega
  have hrv : r ∉ Go.Sh.blk v' := fun hm => by
    rcases F1.at' r hm with h1 | h1
    · exact h.rv h1
    · omega
  have M1 := h.map.ext F1.ext h.rv
  have z1 := F1.ext.size
  have hup : ∀ y ∈ Go.Sh.blk v', w0.heap.size ≤ y := fun y hy => by
    rcases F1.at' y hy with h1 | h1
    · exact h.up.2.2 y h1
    · have := h.ext.size
      omega
  have R1 := h.rowx F1.ext (fun y hy => h.up.2.2 y hy)
  have X1 : Ext [] w0 w1 := h.ext.new F1.ext (fun y hy => h.up.2.2 y hy)
  have G1 := F1.ext
  have T1 := F1.at'
  subst hv3
  simp (disch := (first | omega | decide | (simp only [World.size_alloc, World.size_setCell, World.size_drew, size_sets, List.mem_cons, List.not_mem_nil, or_false, not_false_eq_true] <;> omega) | fail)) only [↓rsChk_0, rsChk_1, Option.isNone_some, Option.isNone_none, tick_eq, tickV_eq, ne_eq, Int.reduceAdd, Int.reduceSub, Int.reduceMul, Int.reduceEq, Int.reduceLT, Int.reduceLE, Int.reduceToNat, Nat.reduceMul, Nat.reduceAdd, Nat.reduceSub, List.nil_append, List.cons_append, List.getElem?_toArray, List.getElem?_cons_zero, List.getElem?_cons_succ, List.setIfInBounds_toArray, List.set_cons_zero, List.set_cons_succ, Option.map_some, List.not_mem_nil, ←decide_not, kb, k1, f1]
  have B2 := B1.set (i := 3) (v := .slice a3 (F ++ [(at', s)]).length c3)
  have X2 : Ext [k] w1 (w1.setCell ⟨k, 3, none⟩ (.slice a3 (F ++ [(at', s)]).length c3)) := Ext.set (w := w1) (b := k)
  refine ⟨_, ⟨B2, M1.ext X2 (by simpa using h.kr.symm), O1.ext X2 (fun y hy hm => by simp only [List.mem_singleton] at hm; subst hm; exact hkv hy), h.kr, hkv, hrv, ⟨h.up.1, h.up.2.1, hup⟩, ?_, h.ra, X1.set' (.inr h.up.1)⟩, ⟨(G1.more (fun y hy => List.mem_cons_of_mem _ hy)).set' (.inl (by simp)), fun y hy => ?_⟩⟩
  · by_cases hL : L = []
    · subst hL; exact RowAt.nil
    · exact R1.ext X2 fun b o hb hm => by
        have := h.ra b o hb hL
        simp only [List.mem_singleton] at hm
        have := h.up.1
        omega
  · rcases List.mem_cons.1 hy with rfl | hy
    · exact .inl (by simp)
    · rcases T1 y hy with h1 | h1
      · exact .inl (List.mem_cons_of_mem _ h1)
      · exact .inr h1
theorem zero_hd (w : World) : (zeroValue 123).run Try.prog w = .ok (hd 0 0 false 0) w := by kernel_rfl
theorem mget_hd {x : Nat → BitVec 64} {l : List Nat} {p : Nat} (hp : p ∈ l) : mget (l.map (hdX x)) (p : Int) = some (hd (pN (x p)) (bN (x p)) false 0) := by
  induction l with
  | nil => cases hp
  | cons q l ih =>
    rw [List.map_cons, mget]
    by_cases e : (q : Int) = p
    · have : q = p := by omega
      subst this
      exact if_pos rfl
    · rw [if_neg e]
      rcases List.mem_cons.1 hp with rfl | h
      · exact absurd rfl e
      · exact ih h
theorem mget_no {x : Nat → BitVec 64} {l : List Nat} {i : Int} (h : ∀ p ∈ l, (p : Int) ≠ i) : mget (l.map (hdX x)) i = none :=
  mget_none fun q hq => by
    obtain ⟨p, hp, rfl⟩ := List.mem_map.1 hq
    exact h p hp
abbrev rsChk_2 := (And.intro @xBox_r (And.intro @loadK_some (And.intro @loadsK_s (And.intro @loadsK_n (And.intro @loadsR_s (And.intro @loadsR_n (And.intro @storesK_s (And.intro @storesK_n (And.intro @xPick_t (And.intro @xPick_f (And.intro @xGuard_tt (And.intro @xGuard_ff (And.intro @xGuard_tf (And.intro @xGuard_ft (And.intro @xGuard_u 
  (And.intro @xNil_r (And.intro @xIf_t (And.intro @xBin_add' (And.intro @xBin_sub' (And.intro @xBin_mul' (And.intro @xBin_quo' (And.intro @xBin_rem' (And.intro @xIf_f (And.intro @xIf_tt (And.intro @xEx0 (And.intro @xEx1 (And.intro @xEx2 (And.intro @xEx3 (And.intro @xBin_eqs (And.intro @xBin_nes (And.intro @xUn_not (And.intro @xu8_add (And.intro @xu8_sub 
  (And.intro @xu8_eql (And.intro @xu8_leq (And.intro @xu16_add (And.intro @xu16_sub (And.intro @xu16_eql (And.intro @xu16_leq (And.intro @xu32_add (And.intro @xu32_sub (And.intro @xu32_eql (And.intro @xu32_leq (And.intro @xu64_add (And.intro @xu64_sub (And.intro @xu64_eql (And.intro @xu64_leq (And.intro @xi64_leq (And.intro @xi64_eql (And.intro @xMakeFunc_r 
  (And.intro @xSq_r (And.intro @xPur_s (And.intro @xRd_s (And.intro @xRe_s (And.intro @xDet_s (And.intro @xDet_ld (And.intro @xDet_ld2 (And.intro @xDet_ld3 (And.intro @xDet_ld4 (And.intro @xGuard_tt (And.intro @ld_3 (And.intro @ld_28 (And.intro @ld_94 (And.intro @fa_96_0 (And.intro @fa_96_1 (And.intro @fa_96_2 (And.intro @al_123 (And.intro @st_123 (And.intro @cv_3_69 
  (And.intro @cv_69_3 @ln_28))))))))))))))))))))))))))))))))))))))))))))))))))))))))))))))))))))))
theorem points_spec (h : WkIs w0 w k r v a c L base l F) (hl : ∀ p ∈ l, p < base + L.length) (hb : base + L.length ≤ 8192) (y : BitVec 64) : Gives Try.prog n_check_walk_points #[ptr k, u64 y] w (.bool (decide (PtrOk l y.toNat))) := by
  have kb := fun i => h.blk.cell (i := i)
  have zk := h.blk.lt
  have hy := y.isLt
  refine check_walk_points_of ?_
  unfold check_walk_points
  by_cases h0 : y.toNat = 0
  · have hx0 : y = BitVec.ofNat 64 0 := BitVec.eq_of_toNat_eq h0
    subst hx0
    simp (disch := (first | omega | decide | (simp only [World.size_alloc, World.size_setCell, World.size_drew, size_sets, List.mem_cons, List.not_mem_nil, or_false, not_false_eq_true] <;> omega) | fail)) only [↓rsChk_2, rsChk_1, Option.isNone_some, Option.isNone_none, tick_eq, tickV_eq, ne_eq, Int.reduceAdd, Int.reduceSub, Int.reduceMul, Int.reduceEq, Int.reduceLT, Int.reduceLE, Int.reduceToNat, Nat.reduceMul, Nat.reduceAdd, Nat.reduceSub, List.nil_append, List.cons_append, List.getElem?_toArray, List.getElem?_cons_zero, List.getElem?_cons_succ, List.setIfInBounds_toArray, List.set_cons_zero, List.set_cons_succ, Option.map_some, List.not_mem_nil, ←decide_not, eq_self]
    exact ⟨by rw [decide_eq_true (.inl rfl)], Ext.refl _ _⟩
  have hne : y ≠ BitVec.ofNat 64 0 := fun h => h0 (by rw [h]; rfl)
  have hs : (y - BitVec.ofNat 64 1).toNat = y.toNat - 1 := by
    rw [BitVec.toNat_sub]
    have : (BitVec.ofNat 64 1).toNat = 1 := by decide
    omega
  have hlk := fun (K : K1) => xLookup_ok (P := Try.prog) (K := K) (t := 94) (kt := 3) (et := 123) (by kernel_rfl) (by kernel_rfl) (zero_hd w) h.map ((y - BitVec.ofNat 64 1).toInt)
  by_cases hp : y.toNat - 1 ∈ l
  · have hlt := hl _ hp
    have hi : (y - BitVec.ofNat 64 1).toInt = ((y.toNat - 1 : Nat) : Int) := by rw [BitVec.toInt_eq_toNat_of_lt (by omega), hs]
    rw [hi, mget_hd hp] at hlk
    have hc : (BitVec.ofInt 64 ((base : Int) + (L.length : Int))).toNat = base + L.length := by
      rw [show (base : Int) + (L.length : Int) = ((base + L.length : Nat) : Int) by omega, BitVec.ofInt_natCast, BitVec.toNat_ofNat]
      omega
    have hle : decide (y.toNat ≤ (BitVec.ofInt 64 ((base : Int) + (L.length : Int))).toNat) = true := decide_eq_true (by omega)
    have hlk2 : ∀ K : K1, xLookup Try.prog 94 (.map (some r)) (i64 ((y.toNat - 1 : Nat) : Int)) true w K = K (.tuple #[hd (pN (wat L (y.toNat - 1 - base))) (bN (wat L (y.toNat - 1 - base))) false 0, .bool true]) w := hlk
    simp (disch := (first | omega | decide | (simp only [World.size_alloc, World.size_setCell, World.size_drew, size_sets, List.mem_cons, List.not_mem_nil, or_false, not_false_eq_true] <;> omega) | fail)) only [↓rsChk_2, rsChk_1, Option.isNone_some, Option.isNone_none, tick_eq, tickV_eq, ne_eq, Int.reduceAdd, Int.reduceSub, Int.reduceMul, Int.reduceEq, Int.reduceLT, Int.reduceLE, Int.reduceToNat, Nat.reduceMul, Nat.reduceAdd, Nat.reduceSub, List.nil_append, List.cons_append, List.getElem?_toArray, List.getElem?_cons_zero, List.getElem?_cons_succ, List.setIfInBounds_toArray, List.set_cons_zero, List.set_cons_succ, Option.map_some, List.not_mem_nil, ←decide_not, kb, decide_eq_false hne, hi, hlk2, hle]
    exact ⟨by rw [decide_eq_true (.inr ⟨by omega, by omega, hp⟩)], (Ext.alloc _ _ _).trans (Ext.drew _ _)⟩
  · have hno : mget (l.map (hdX fun p => wat L (p - base))) ((y - BitVec.ofNat 64 1).toInt) = none := mget_no fun p hpl e => by
      have hpb := hl p hpl
      have h5 : (y - BitVec.ofNat 64 1).toInt = ((y.toNat - 1 : Nat) : Int) := by
        rw [BitVec.toInt_eq_toNat_cond, hs]
        rw [BitVec.toInt_eq_toNat_cond, hs] at e
        split at e
        · rw [if_pos (by assumption)]
        · omega
      rw [h5] at e
      have : p = y.toNat - 1 := by omega
      exact hp (this ▸ hpl)
    have hno2 : ¬ PtrOk l y.toNat := by
      rintro (h1 | ⟨_, _, h1⟩)
      · exact h0 h1
      · exact hp h1
    rw [hno] at hlk
    have hlk2 : ∀ K : K1, xLookup Try.prog 94 (.map (some r)) (i64 ((y - BitVec.ofNat 64 1).toInt)) true w K = K (.tuple #[hd 0 0 false 0, .bool false]) w := hlk
    generalize hti : (y - BitVec.ofNat 64 1).toInt = ti at *
    simp (disch := (first | omega | decide | (simp only [World.size_alloc, World.size_setCell, World.size_drew, size_sets, List.mem_cons, List.not_mem_nil, or_false, not_false_eq_true] <;> omega) | fail)) only [↓rsChk_2, rsChk_1, Option.isNone_some, Option.isNone_none, tick_eq, tickV_eq, ne_eq, Int.reduceAdd, Int.reduceSub, Int.reduceMul, Int.reduceEq, Int.reduceLT, Int.reduceLE, Int.reduceToNat, Nat.reduceMul, Nat.reduceAdd, Nat.reduceSub, List.nil_append, List.cons_append, List.getElem?_toArray, List.getElem?_cons_zero, List.getElem?_cons_succ, List.setIfInBounds_toArray, List.set_cons_zero, List.set_cons_succ, Option.map_some, List.not_mem_nil, ←decide_not, kb, decide_eq_false hne, hti, hlk2]
    exact ⟨by rw [decide_eq_false hno2], (Ext.alloc _ _ _).trans (Ext.drew _ _)⟩
abbrev rsChk_3 := (And.intro @xBox_r (And.intro @loadK_some (And.intro @loadsK_s (And.intro @loadsK_n (And.intro @loadsR_s (And.intro @loadsR_n (And.intro @storesK_s (And.intro @storesK_n (And.intro @xPick_t (And.intro @xPick_f (And.intro @xGuard_tt (And.intro @xGuard_ff (And.intro @xGuard_tf (And.intro @xGuard_ft (And.intro @xGuard_u 
  (And.intro @xNil_r (And.intro @xIf_t (And.intro @xBin_add' (And.intro @xBin_sub' (And.intro @xBin_mul' (And.intro @xBin_quo' (And.intro @xBin_rem' (And.intro @xIf_f (And.intro @xIf_tt (And.intro @xEx0 (And.intro @xEx1 (And.intro @xEx2 (And.intro @xEx3 (And.intro @xBin_eqs (And.intro @xBin_nes (And.intro @xUn_not (And.intro @xu8_mul (And.intro @xu8_rem 
  (And.intro @xu8_shr (And.intro @xu8_neq (And.intro @xu8_gtr (And.intro @xu16_mul (And.intro @xu16_rem (And.intro @xu16_shr (And.intro @xu16_neq (And.intro @xu16_gtr (And.intro @xu32_mul (And.intro @xu32_rem (And.intro @xu32_shr (And.intro @xu32_neq (And.intro @xu32_gtr (And.intro @xu64_mul (And.intro @xu64_rem (And.intro @xu64_shr (And.intro @xu64_neq 
  (And.intro @xu64_gtr (And.intro @xi64_gtr (And.intro @xi64_neq (And.intro @xi64_shr (And.intro @xi64_neg (And.intro @xMakeFunc_r (And.intro @xSq_r (And.intro @xPur_s (And.intro @xRd_s (And.intro @xRe_s (And.intro @xDet_s (And.intro @xDet_ld (And.intro @xDet_ld2 (And.intro @xDet_ld3 (And.intro @xDet_ld4 @xGuard_tt)))))))))))))))))))))))))))))))))))))))))))))))))))))))))))))))))
theorem cpad_spec (x : BitVec 64) (n : Nat) (hn : n ≤ 100000) (w : World) : Gives Try.prog n_check_pad #[u64 x, i64 (n : Int)] w (.bool (decide (n % 8 ≠ 0 ∧ x >>> (8 * (n % 8)) ≠ 0#64))) := by
  refine check_pad_of ?_
  unfold check_pad
  have e1 : (n : Int) % 8 = ((n % 8 : Nat) : Int) := by omega
  have e2 : 8 * ((n % 8 : Nat) : Int) = ((8 * (n % 8) : Nat) : Int) := by omega
  by_cases h0 : n % 8 = 0
  · have e3 : ¬ 0 < (n : Int) % 8 := by omega
    simp (disch := (first | omega | decide | (simp only [World.size_alloc, World.size_setCell, World.size_drew, size_sets, List.mem_cons, List.not_mem_nil, or_false, not_false_eq_true] <;> omega) | fail)) only [↓rsChk_3, rsChk_1, Option.isNone_some, Option.isNone_none, tick_eq, tickV_eq, ne_eq, Int.reduceAdd, Int.reduceSub, Int.reduceMul, Int.reduceEq, Int.reduceLT, Int.reduceLE, Int.reduceToNat, Nat.reduceMul, Nat.reduceAdd, Nat.reduceSub, List.nil_append, List.cons_append, List.getElem?_toArray, List.getElem?_cons_zero, List.getElem?_cons_succ, List.setIfInBounds_toArray, List.set_cons_zero, List.set_cons_succ, Option.map_some, List.not_mem_nil, ←decide_not, eq_self]
    exact ⟨by rw [decide_eq_false (fun h => h.1 h0)], Ext.refl _ _⟩
  · have e3 : 0 < (n : Int) % 8 := by omega
    have e4 : (8 * ((n : Int) % 8)).toNat = 8 * (n % 8) := by omega
    by_cases h1 : x >>> (8 * (n % 8)) = BitVec.ofNat 64 0
    · simp (disch := (first | omega | decide | (simp only [World.size_alloc, World.size_setCell, World.size_drew, size_sets, List.mem_cons, List.not_mem_nil, or_false, not_false_eq_true] <;> omega) | fail)) only [↓rsChk_3, rsChk_1, Option.isNone_some, Option.isNone_none, tick_eq, tickV_eq, ne_eq, Int.reduceAdd, Int.reduceSub, Int.reduceMul, Int.reduceEq, Int.reduceLT, Int.reduceLE, Int.reduceToNat, Nat.reduceMul, Nat.reduceAdd, Nat.reduceSub, List.nil_append, List.cons_append, List.getElem?_toArray, List.getElem?_cons_zero, List.getElem?_cons_succ, List.setIfInBounds_toArray, List.set_cons_zero, List.set_cons_succ, Option.map_some, List.not_mem_nil, ←decide_not, e4, decide_eq_false (fun h : ¬ x >>> (8 * (n % 8)) = BitVec.ofNat 64 0 => h h1)]
      exact ⟨by rw [decide_eq_false (fun h => h.2 h1)], Ext.refl _ _⟩
    · simp (disch := (first | omega | decide | (simp only [World.size_alloc, World.size_setCell, World.size_drew, size_sets, List.mem_cons, List.not_mem_nil, or_false, not_false_eq_true] <;> omega) | fail)) only [↓rsChk_3, rsChk_1, Option.isNone_some, Option.isNone_none, tick_eq, tickV_eq, ne_eq, Int.reduceAdd, Int.reduceSub, Int.reduceMul, Int.reduceEq, Int.reduceLT, Int.reduceLE, Int.reduceToNat, Nat.reduceMul, Nat.reduceAdd, Nat.reduceSub, List.nil_append, List.cons_append, List.getElem?_toArray, List.getElem?_cons_zero, List.getElem?_cons_succ, List.setIfInBounds_toArray, List.set_cons_zero, List.set_cons_succ, Option.map_some, List.not_mem_nil, ←decide_not, e4, decide_eq_true h1]
      exact ⟨by rw [decide_eq_true ⟨h0, h1⟩], Ext.refl _ _⟩
end
end Go.Proofs.Ytdpmidgeipibbaa
