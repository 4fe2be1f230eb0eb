/- What the functions of the codec compute that read items. -/
import Derived.Test.YtlllabaipfmnjaaCodeZ
set_option linter.unusedVariables false
set_option linter.unusedSimpArgs false
set_option maxHeartbeats 4000000
namespace Go.Proofs.Ytlllabaipfmnjaa
open Go.Sh Go.RowKit

/-- a row of bytes that was made meanwhile -/
def BOut (w w' : World) (u : Value) (l : List (BitVec 8)) : Prop := ∃ a c, u = .slice a l.length c ∧ l.length ≤ c ∧ (a = none → c = 0) ∧ RowAt w' a (bys l) ∧ ∀ x, a = some x → w.heap.size ≤ x.block ∧ x.block < w'.heap.size
def WOut (w w' : World) (u : Value) (l : List (BitVec 64)) : Prop := ∃ a c, u = .slice a l.length c ∧ l.length ≤ c ∧ (a = none → c = 0) ∧ RowAt w' a (wrds l) ∧ ∀ x, a = some x → w.heap.size ≤ x.block ∧ x.block < w'.heap.size
/-- bytes taken off what is read -/
def takeN (l : List (BitVec 8)) (x : BitVec 64) (size : Nat) : Except Int (List (BitVec 8) × List (BitVec 8)) := if l.length / size < x.toNat then .error 3 else .ok (l.take (x.toNat * size), l.drop (x.toNat * size))
def decRaw (l : List (BitVec 8)) : Except Int (List (BitVec 8) × List (BitVec 8)) := match decU l with
  | .ok (x, m) => takeN m x 1
  | .error e => .error e
def decWords (l : List (BitVec 8)) : Except Int (List (BitVec 64) × List (BitVec 8)) := match decU l with
  | .ok (x, m) => (match takeN m x 8 with | .ok (b, r) => .ok (wordsOf b, r) | .error e => .error e)
  | .error e => .error e
def IntR (r : Except Int (BitVec 64 × List (BitVec 8))) (w w' : World) (g : Nat) (u : Value) : Prop := match r with
  | .ok (x, m) => u = i64 (zag x) ∧ DecTo w w' g m 0
  | .error e => u = i64 0 ∧ DecTo w w' g [] e
def RawR (r : Except Int (List (BitVec 8) × List (BitVec 8))) (w w' : World) (g : Nat) (u : Value) : Prop := match r with
  | .ok (b, m) => BOut w w' u b ∧ DecTo w w' g m 0
  | .error e => BOut w w' u [] ∧ DecTo w w' g [] e
def WordsR (r : Except Int (List (BitVec 64) × List (BitVec 8))) (w w' : World) (g : Nat) (u : Value) : Prop := match r with
  | .ok (b, m) => WOut w w' u b ∧ DecTo w w' g m 0
  | .error e => WOut w w' u [] ∧ DecTo w w' g [] e
theorem nilB (w w' : World) : BOut w w' (.slice none 0 0) [] := ⟨none, 0, rfl, Nat.le_refl _, fun _ => rfl, RowAt.nil, fun x hx => by cases hx⟩
section
variable {w : World} {g : Nat} {a : Option Addr} {c : Nat} {l : List (BitVec 8)} {e : Int}
theorem DecTo.refl {w w' : World} (h : DecIs w g a c l e) (hx : Ext [] w w') : DecTo w w' g l e := ⟨hx.more (by simp), a, c, h.ext0 hx⟩
theorem Dec_Uint_err (h : DecIs w g a c l e) (he : e ≠ 0) : Gives Try.prog n_codec_Dec_Uint #[ptr g] w (c64 0) := by
  refine codec_Dec_Uint_of ?_
  unfold codec_Dec_Uint
  have hl := h.err he
  subst hl
  refine xLoop_n 0 (fun k => [c64 0, i64 k]) (fun k w' => Ext [] w w') rfl (Ext.refl _ _) (fun k hk => by omega) ?_
  rintro u w1 hu F1 nxt
  simp only [List.map_cons, List.map_nil, List.cons.injEq, and_true] at hu
  rw [hu.1, hu.2]
  have h1 := h.ext0 F1
  have c0 : w1.cell? ⟨g, 0, none⟩ = some (.slice a 0 c) := by rw [h1.blk.cell]; rfl
  have c1 : w1.cell? ⟨g, 1, none⟩ = some (i64 e) := by rw [h1.blk.cell]; rfl
  have d1 : decide (e = 0) = false := decide_eq_false he
  unfold codec_Dec_Uint_l1
  simp (disch := (first | omega | decide | (simp only [World.size_alloc, World.size_setCell, World.size_drew, List.mem_cons, List.not_mem_nil, or_false, not_false_eq_true] <;> omega) | fail)) only [↓xBox_r, ↓loadK_some, ↓loadsK_s, ↓loadsK_n, ↓loadsR_s, ↓loadsR_n, ↓storesK_s, ↓storesK_n, setCells_c, setCells_n, World.setCell_alloc_at, World.setCell_alloc_past, World.cell?_alloc_at, World.cell?_alloc_past, 
      World.frozen?_alloc_at, World.frozen?_alloc_past, World.size_alloc, ↓xPick_t, ↓xPick_f, ↓xGuard_tt, ↓xGuard_ff, ↓xGuard_tf, ↓xGuard_ft, ↓xGuard_u, ↓xNil_r, Option.isNone_some, Option.isNone_none, ↓xIf_t, tick_eq, tickV_eq, ne_eq, 
      dlt_t, dlt_f, dle_t, dle_f, deq_t, deq_f, dne_t, dne_f, not_true_eq_false, Int.reduceAdd, Int.reduceSub, Int.reduceMul, Int.reduceEq, Int.reduceLT, Int.reduceLE, Bool.false_and, Bool.true_and, Bool.and_true, 
      Bool.and_false, ↓xBin_add', ↓xBin_sub', ↓xBin_mul', ↓xBin_quo', ↓xBin_rem', wrap_in, ↓xIf_f, ↓xIf_tt, ↓xEx0, ↓xEx1, ↓xEx2, ↓xEx3, ↓xBin_eqs, ↓xBin_nes, ↓xUn_not, ↓xu8_add, ↓xu8_mul, ↓xu8_and, ↓xu8_or, ↓xu8_shl, ↓xu8_eql, 
      ↓xu8_lss, ↓xu8_gtr, ↓xu8_geq, ↓xu16_add, ↓xu16_mul, ↓xu16_and, ↓xu16_or, ↓xu16_shl, ↓xu16_eql, ↓xu16_lss, ↓xu16_gtr, ↓xu16_geq, ↓xu32_add, ↓xu32_mul, ↓xu32_and, ↓xu32_or, ↓xu32_shl, ↓xu32_eql, ↓xu32_lss, ↓xu32_gtr, 
      ↓xu32_geq, ↓xu64_add, ↓xu64_mul, ↓xu64_and, ↓xu64_or, ↓xu64_shl, ↓xu64_eql, ↓xu64_lss, ↓xu64_gtr, ↓xu64_geq, ↓xi64_lss, ↓xi64_gtr, ↓xi64_geq, ↓xi64_eql, ↓xi64_and, ↓xi64_or, ↓xi64_shl, Int.toNat_natCast, Int.reduceToNat, 
      Nat.reduceMul, Nat.reduceAdd, Nat.reduceSub, Nat.mul_one, List.nil_append, List.cons_append, List.getElem?_toArray, List.getElem?_cons_zero, List.getElem?_cons_succ, cells_int, cells_bool, cells_string, cells_slice, 
      cells_pointer, cells_agg, one_int, one_bool, one_string, one_slice, one_pointer, List.setIfInBounds_toArray, List.set_cons_zero, List.set_cons_succ, ↓xSq_r, ↓xPur_s, ↓xRd_s, ↓xRe_s, ↓xDet_s, ↓xDet_ld, ↓xDet_ld2, ↓xDet_ld3, 
      ↓xDet_ld4, World.size_drew, Nat.zero_add, Nat.add_zero, cell_drew, frozen_drew, cell_set_eq, cell_set_o, cell_set_b, Option.map_some, World.frozen?_setCell, decide_true, decide_false, List.not_mem_nil, not_false_eq_true, 
      ↓xGuard_tt, Bool.not_true, Bool.not_false, ←decide_not, ↓ld_5, ↓ld_26, ↓ld_49, ↓fa_124_0, ↓fa_124_1, ↓st_26, ↓cv_5_29, ↓ia_26, ↓ln_26, ↓sh_26, ↓sl_26, ↓sm_26, c0, c1, d1]
  exact ⟨by trivial, F1⟩
theorem Dec_Int_spec (h : DecIs w g a c l 0) : Yld Try.prog n_codec_Dec_Int #[ptr g] w fun u w' => IntR (decU l) w w' g u := by
  refine codec_Dec_Int_of ?_
  unfold codec_Dec_Int
  refine codec_Dec_Uint_call (Yld.mono (Dec_Uint_spec h) ?_)
  intro u w1 hr
  have go : ∀ x : BitVec 64, ∀ K : K1, K (i64 (zag x)) w1 → (xBin Try.prog .shr 29 false (u64 x) true (c64 1) w1 fun t7 w => xConv Try.prog 29 2 t7 w fun t8 w => xBin Try.prog .and 29 false (u64 x) true (c64 1) w fun t10 w =>
      xConv Try.prog 29 2 t10 w fun t11 w => xUn Try.prog .neg t11 w fun t12 w => xBin Try.prog .xor 2 false t8 false t12 w fun t13 w => K t13 w) := by
    intro x K hK
    have hb := bit_zero x
    have hb1 : 0 ≤ (x &&& BitVec.ofNat 64 1).toInt ∧ (x &&& BitVec.ofNat 64 1).toInt ≤ 1 := by
      show 0 ≤ (x &&& o64).toInt ∧ (x &&& o64).toInt ≤ 1
      rw [hb]; split <;> omega
    simp (disch := (first | omega | decide | (simp only [World.size_alloc, World.size_setCell, World.size_drew, List.mem_cons, List.not_mem_nil, or_false, not_false_eq_true] <;> omega) | fail)) only [↓xBox_r, ↓loadK_some, ↓loadsK_s, ↓loadsK_n, ↓loadsR_s, ↓loadsR_n, ↓storesK_s, ↓storesK_n, setCells_c, setCells_n, World.setCell_alloc_at, World.setCell_alloc_past, World.cell?_alloc_at, World.cell?_alloc_past, 
      World.frozen?_alloc_at, World.frozen?_alloc_past, World.size_alloc, ↓xPick_t, ↓xPick_f, ↓xGuard_tt, ↓xGuard_ff, ↓xGuard_tf, ↓xGuard_ft, ↓xGuard_u, ↓xNil_r, Option.isNone_some, Option.isNone_none, ↓xIf_t, tick_eq, tickV_eq, ne_eq, 
      dlt_t, dlt_f, dle_t, dle_f, deq_t, deq_f, dne_t, dne_f, not_true_eq_false, Int.reduceAdd, Int.reduceSub, Int.reduceMul, Int.reduceEq, Int.reduceLT, Int.reduceLE, Bool.false_and, Bool.true_and, Bool.and_true, 
      Bool.and_false, ↓xBin_add', ↓xBin_sub', ↓xBin_mul', ↓xBin_quo', ↓xBin_rem', wrap_in, ↓xIf_f, ↓xIf_tt, ↓xEx0, ↓xEx1, ↓xEx2, ↓xEx3, ↓xBin_eqs, ↓xBin_nes, ↓xUn_not, ↓xu8_and, ↓xu8_xor, ↓xu8_com, ↓xu8_shr, ↓xu16_and, ↓xu16_xor, 
      ↓xu16_com, ↓xu16_shr, ↓xu32_and, ↓xu32_xor, ↓xu32_com, ↓xu32_shr, ↓xu64_and, ↓xu64_xor, ↓xu64_com, ↓xu64_shr, ↓xi64_and, ↓xi64_xor, ↓xi64_shr, ↓xi64_neg, Int.toNat_natCast, Int.reduceToNat, Nat.reduceMul, Nat.reduceAdd, 
      Nat.reduceSub, Nat.mul_one, List.nil_append, List.cons_append, List.getElem?_toArray, List.getElem?_cons_zero, List.getElem?_cons_succ, cells_int, cells_bool, cells_string, cells_slice, cells_pointer, cells_agg, one_int, 
      one_bool, one_string, one_slice, one_pointer, List.setIfInBounds_toArray, List.set_cons_zero, List.set_cons_succ, ↓xSq_r, ↓xPur_s, ↓xRd_s, ↓xRe_s, ↓xDet_s, ↓xDet_ld, ↓xDet_ld2, ↓xDet_ld3, ↓xDet_ld4, World.size_drew, 
      Nat.zero_add, Nat.add_zero, cell_drew, frozen_drew, cell_set_eq, cell_set_o, cell_set_b, Option.map_some, World.frozen?_setCell, decide_true, decide_false, List.not_mem_nil, not_false_eq_true, ↓xGuard_tt, Bool.not_true, 
      Bool.not_false, ←decide_not, ↓cv_29_2, eq_self]
    exact hK
  unfold UintR at hr
  unfold IntR
  cases hd : decU l with
  | ok p =>
    obtain ⟨x, m⟩ := p
    rw [hd] at hr
    obtain ⟨rfl, hT⟩ := hr
    exact go x _ ⟨rfl, hT⟩
  | error e =>
    rw [hd] at hr
    obtain ⟨rfl, hT⟩ := hr
    exact go z64 _ ⟨rfl, hT⟩
theorem Dec_Int_err (h : DecIs w g a c l e) (he : e ≠ 0) : Gives Try.prog n_codec_Dec_Int #[ptr g] w (i64 0) := by
  refine codec_Dec_Int_of ?_
  unfold codec_Dec_Int
  refine codec_Dec_Uint_call (Gives.to (Dec_Uint_err h he) fun w1 F1 => ?_)
  simp (disch := (first | omega | decide | (simp only [World.size_alloc, World.size_setCell, World.size_drew, List.mem_cons, List.not_mem_nil, or_false, not_false_eq_true] <;> omega) | fail)) only [↓xBox_r, ↓loadK_some, ↓loadsK_s, ↓loadsK_n, ↓loadsR_s, ↓loadsR_n, ↓storesK_s, ↓storesK_n, setCells_c, setCells_n, World.setCell_alloc_at, World.setCell_alloc_past, World.cell?_alloc_at, World.cell?_alloc_past, 
      World.frozen?_alloc_at, World.frozen?_alloc_past, World.size_alloc, ↓xPick_t, ↓xPick_f, ↓xGuard_tt, ↓xGuard_ff, ↓xGuard_tf, ↓xGuard_ft, ↓xGuard_u, ↓xNil_r, Option.isNone_some, Option.isNone_none, ↓xIf_t, tick_eq, tickV_eq, ne_eq, 
      dlt_t, dlt_f, dle_t, dle_f, deq_t, deq_f, dne_t, dne_f, not_true_eq_false, Int.reduceAdd, Int.reduceSub, Int.reduceMul, Int.reduceEq, Int.reduceLT, Int.reduceLE, Bool.false_and, Bool.true_and, Bool.and_true, 
      Bool.and_false, ↓xBin_add', ↓xBin_sub', ↓xBin_mul', ↓xBin_quo', ↓xBin_rem', wrap_in, ↓xIf_f, ↓xIf_tt, ↓xEx0, ↓xEx1, ↓xEx2, ↓xEx3, ↓xBin_eqs, ↓xBin_nes, ↓xUn_not, ↓xu8_and, ↓xu8_xor, ↓xu8_com, ↓xu8_shr, ↓xu16_and, ↓xu16_xor, 
      ↓xu16_com, ↓xu16_shr, ↓xu32_and, ↓xu32_xor, ↓xu32_com, ↓xu32_shr, ↓xu64_and, ↓xu64_xor, ↓xu64_com, ↓xu64_shr, ↓xi64_and, ↓xi64_xor, ↓xi64_shr, ↓xi64_neg, Int.toNat_natCast, Int.reduceToNat, Nat.reduceMul, Nat.reduceAdd, 
      Nat.reduceSub, Nat.mul_one, List.nil_append, List.cons_append, List.getElem?_toArray, List.getElem?_cons_zero, List.getElem?_cons_succ, cells_int, cells_bool, cells_string, cells_slice, cells_pointer, cells_agg, one_int, 
      one_bool, one_string, one_slice, one_pointer, List.setIfInBounds_toArray, List.set_cons_zero, List.set_cons_succ, ↓xSq_r, ↓xPur_s, ↓xRd_s, ↓xRe_s, ↓xDet_s, ↓xDet_ld, ↓xDet_ld2, ↓xDet_ld3, ↓xDet_ld4, World.size_drew, 
      Nat.zero_add, Nat.add_zero, cell_drew, frozen_drew, cell_set_eq, cell_set_o, cell_set_b, Option.map_some, World.frozen?_setCell, decide_true, decide_false, List.not_mem_nil, not_false_eq_true, ↓xGuard_tt, Bool.not_true, 
      Bool.not_false, ←decide_not, ↓cv_29_2, eq_self]
  exact ⟨rfl, F1⟩
theorem Dec_take_spec (x : BitVec 64) (size : Nat) (hs : 0 < size ∧ size ≤ 8) (h : DecIs w g a c l e) (h0 : e ≠ 0 → x = z64) : Yld Try.prog n_codec_Dec_take #[ptr g, u64 x, i64 size] w fun u w' => match takeN l x size with
    | .ok (b, m) => BOut w w' u b ∧ DecTo w w' g m e
    | .error e' => BOut w w' u [] ∧ DecTo w w' g [] e' := by
  refine codec_Dec_take_of ?_
  unfold codec_Dec_take
  have hb := h.big
  have c0 : w.cell? ⟨g, 0, none⟩ = some (.slice a l.length c) := by rw [h.blk.cell]; rfl
  have hq : l.length / size ≤ 1000000 := Nat.le_trans (Nat.div_le_self _ _) hb
  have hqi : ((l.length : Int) / (size : Int)) = ((l.length / size : Nat) : Int) := by simp
  have e1 : BitVec.ofInt 64 ((l.length : Int) / (size : Int)) = BitVec.ofNat 64 (l.length / size) := by rw [hqi]; exact BitVec.ofInt_natCast ..
  have e2 : (BitVec.ofNat 64 (l.length / size)).toNat = l.length / size := by rw [BitVec.toNat_ofNat]; exact Nat.mod_eq_of_lt (Nat.lt_of_le_of_lt hq (by decide))
  have hq0 : (0 : Int) ≤ (l.length : Int) / (size : Int) ∧ (l.length : Int) / (size : Int) ≤ 1000000 := by rw [hqi]; omega
  unfold takeN
  by_cases hx : l.length / size < x.toNat
  · rw [if_pos hx]
    have d1 : decide (l.length / size < x.toNat) = true := decide_eq_true hx
    simp (disch := (first | omega | decide | (simp only [World.size_alloc, World.size_setCell, World.size_drew, List.mem_cons, List.not_mem_nil, or_false, not_false_eq_true] <;> omega) | fail)) only [↓xBox_r, ↓loadK_some, ↓loadsK_s, ↓loadsK_n, ↓loadsR_s, ↓loadsR_n, ↓storesK_s, ↓storesK_n, setCells_c, setCells_n, World.setCell_alloc_at, World.setCell_alloc_past, World.cell?_alloc_at, World.cell?_alloc_past, 
      World.frozen?_alloc_at, World.frozen?_alloc_past, World.size_alloc, ↓xPick_t, ↓xPick_f, ↓xGuard_tt, ↓xGuard_ff, ↓xGuard_tf, ↓xGuard_ft, ↓xGuard_u, ↓xNil_r, Option.isNone_some, Option.isNone_none, ↓xIf_t, tick_eq, tickV_eq, ne_eq, 
      dlt_t, dlt_f, dle_t, dle_f, deq_t, deq_f, dne_t, dne_f, not_true_eq_false, Int.reduceAdd, Int.reduceSub, Int.reduceMul, Int.reduceEq, Int.reduceLT, Int.reduceLE, Bool.false_and, Bool.true_and, Bool.and_true, 
      Bool.and_false, ↓xBin_add', ↓xBin_sub', ↓xBin_mul', ↓xBin_quo', ↓xBin_rem', wrap_in, ↓xIf_f, ↓xIf_tt, ↓xEx0, ↓xEx1, ↓xEx2, ↓xEx3, ↓xBin_eqs, ↓xBin_nes, ↓xUn_not, ↓xu8_add, ↓xu8_mul, ↓xu8_quo, ↓xu8_gtr, ↓xu16_add, ↓xu16_mul, 
      ↓xu16_quo, ↓xu16_gtr, ↓xu32_add, ↓xu32_mul, ↓xu32_quo, ↓xu32_gtr, ↓xu64_add, ↓xu64_mul, ↓xu64_quo, ↓xu64_gtr, ↓xi64_gtr, Int.toNat_natCast, Int.reduceToNat, Nat.reduceMul, Nat.reduceAdd, Nat.reduceSub, Nat.mul_one, 
      List.nil_append, List.cons_append, List.getElem?_toArray, List.getElem?_cons_zero, List.getElem?_cons_succ, cells_int, cells_bool, cells_string, cells_slice, cells_pointer, cells_agg, one_int, one_bool, one_string, one_slice, 
      one_pointer, List.setIfInBounds_toArray, List.set_cons_zero, List.set_cons_succ, ↓xSq_r, ↓xPur_s, ↓xRd_s, ↓xRe_s, ↓xDet_s, ↓xDet_ld, ↓xDet_ld2, ↓xDet_ld3, ↓xDet_ld4, World.size_drew, Nat.zero_add, Nat.add_zero, cell_drew, 
      frozen_drew, cell_set_eq, cell_set_o, cell_set_b, Option.map_some, World.frozen?_setCell, decide_true, decide_false, List.not_mem_nil, not_false_eq_true, ↓xGuard_tt, Bool.not_true, Bool.not_false, ←decide_not, ↓ld_26, ↓fa_124_0, ↓st_26, ↓cv_3_29, ↓cv_29_3, ↓ln_26, ↓sh_26, ↓sl_26, ↓sm_26, c0, e1, e2, d1]
    refine codec_Dec_fail_call (Yld.mono (Dec_fail_spec 3 (by decide) h) ?_)
    rintro u w2 ⟨rfl, T⟩
    simp (disch := (first | omega | decide | (simp only [World.size_alloc, World.size_setCell, World.size_drew, List.mem_cons, List.not_mem_nil, or_false, not_false_eq_true] <;> omega) | fail)) only [↓xBox_r, ↓loadK_some, ↓loadsK_s, ↓loadsK_n, ↓loadsR_s, ↓loadsR_n, ↓storesK_s, ↓storesK_n, setCells_c, setCells_n, World.setCell_alloc_at, World.setCell_alloc_past, World.cell?_alloc_at, World.cell?_alloc_past, 
      World.frozen?_alloc_at, World.frozen?_alloc_past, World.size_alloc, ↓xPick_t, ↓xPick_f, ↓xGuard_tt, ↓xGuard_ff, ↓xGuard_tf, ↓xGuard_ft, ↓xGuard_u, ↓xNil_r, Option.isNone_some, Option.isNone_none, ↓xIf_t, tick_eq, tickV_eq, ne_eq, 
      dlt_t, dlt_f, dle_t, dle_f, deq_t, deq_f, dne_t, dne_f, not_true_eq_false, Int.reduceAdd, Int.reduceSub, Int.reduceMul, Int.reduceEq, Int.reduceLT, Int.reduceLE, Bool.false_and, Bool.true_and, Bool.and_true, 
      Bool.and_false, ↓xBin_add', ↓xBin_sub', ↓xBin_mul', ↓xBin_quo', ↓xBin_rem', wrap_in, ↓xIf_f, ↓xIf_tt, ↓xEx0, ↓xEx1, ↓xEx2, ↓xEx3, ↓xBin_eqs, ↓xBin_nes, ↓xUn_not, ↓xu8_add, ↓xu8_mul, ↓xu8_quo, ↓xu8_gtr, ↓xu16_add, ↓xu16_mul, 
      ↓xu16_quo, ↓xu16_gtr, ↓xu32_add, ↓xu32_mul, ↓xu32_quo, ↓xu32_gtr, ↓xu64_add, ↓xu64_mul, ↓xu64_quo, ↓xu64_gtr, ↓xi64_gtr, Int.toNat_natCast, Int.reduceToNat, Nat.reduceMul, Nat.reduceAdd, Nat.reduceSub, Nat.mul_one, 
      List.nil_append, List.cons_append, List.getElem?_toArray, List.getElem?_cons_zero, List.getElem?_cons_succ, cells_int, cells_bool, cells_string, cells_slice, cells_pointer, cells_agg, one_int, one_bool, one_string, one_slice, 
      one_pointer, List.setIfInBounds_toArray, List.set_cons_zero, List.set_cons_succ, ↓xSq_r, ↓xPur_s, ↓xRd_s, ↓xRe_s, ↓xDet_s, ↓xDet_ld, ↓xDet_ld2, ↓xDet_ld3, ↓xDet_ld4, World.size_drew, Nat.zero_add, Nat.add_zero, cell_drew, 
      frozen_drew, cell_set_eq, cell_set_o, cell_set_b, Option.map_some, World.frozen?_setCell, decide_true, decide_false, List.not_mem_nil, not_false_eq_true, ↓xGuard_tt, Bool.not_true, Bool.not_false, ←decide_not, ↓ld_26, ↓fa_124_0, ↓st_26, ↓cv_3_29, ↓cv_29_3, ↓ln_26, ↓sh_26, ↓sl_26, ↓sm_26, c0, e1, e2, d1]
    exact ⟨nilB _ _, T⟩
  · rw [if_neg hx]
    have d1 : decide (l.length / size < x.toNat) = false := decide_eq_false hx
    have hxi : x.toInt = x.toNat := BitVec.toInt_eq_toNat_of_lt (by have := x.isLt; omega)
    have hmul : x.toNat * size ≤ l.length := by
      have := Nat.div_mul_le_self l.length size
      exact Nat.le_trans (Nat.mul_le_mul_right _ (by omega)) this
    have hmi : (x.toNat : Int) * (size : Int) = ((x.toNat * size : Nat) : Int) := by simp
    have hm0 : (0 : Int) ≤ (x.toNat : Int) * (size : Int) ∧ (x.toNat : Int) * (size : Int) ≤ l.length := by rw [hmi]; omega
    have e3 : ((x.toNat : Int) * (size : Int)).toNat = x.toNat * size := by rw [hmi]; exact Int.toNat_natCast _
    have hcap := h.cap
    simp (disch := (first | omega | decide | (simp only [World.size_alloc, World.size_setCell, World.size_drew, List.mem_cons, List.not_mem_nil, or_false, not_false_eq_true] <;> omega) | fail)) only [↓xBox_r, ↓loadK_some, ↓loadsK_s, ↓loadsK_n, ↓loadsR_s, ↓loadsR_n, ↓storesK_s, ↓storesK_n, setCells_c, setCells_n, World.setCell_alloc_at, World.setCell_alloc_past, World.cell?_alloc_at, World.cell?_alloc_past, 
      World.frozen?_alloc_at, World.frozen?_alloc_past, World.size_alloc, ↓xPick_t, ↓xPick_f, ↓xGuard_tt, ↓xGuard_ff, ↓xGuard_tf, ↓xGuard_ft, ↓xGuard_u, ↓xNil_r, Option.isNone_some, Option.isNone_none, ↓xIf_t, tick_eq, tickV_eq, ne_eq, 
      dlt_t, dlt_f, dle_t, dle_f, deq_t, deq_f, dne_t, dne_f, not_true_eq_false, Int.reduceAdd, Int.reduceSub, Int.reduceMul, Int.reduceEq, Int.reduceLT, Int.reduceLE, Bool.false_and, Bool.true_and, Bool.and_true, 
      Bool.and_false, ↓xBin_add', ↓xBin_sub', ↓xBin_mul', ↓xBin_quo', ↓xBin_rem', wrap_in, ↓xIf_f, ↓xIf_tt, ↓xEx0, ↓xEx1, ↓xEx2, ↓xEx3, ↓xBin_eqs, ↓xBin_nes, ↓xUn_not, ↓xu8_add, ↓xu8_mul, ↓xu8_quo, ↓xu8_gtr, ↓xu16_add, ↓xu16_mul, 
      ↓xu16_quo, ↓xu16_gtr, ↓xu32_add, ↓xu32_mul, ↓xu32_quo, ↓xu32_gtr, ↓xu64_add, ↓xu64_mul, ↓xu64_quo, ↓xu64_gtr, ↓xi64_gtr, Int.toNat_natCast, Int.reduceToNat, Nat.reduceMul, Nat.reduceAdd, Nat.reduceSub, Nat.mul_one, 
      List.nil_append, List.cons_append, List.getElem?_toArray, List.getElem?_cons_zero, List.getElem?_cons_succ, cells_int, cells_bool, cells_string, cells_slice, cells_pointer, cells_agg, one_int, one_bool, one_string, one_slice, 
      one_pointer, List.setIfInBounds_toArray, List.set_cons_zero, List.set_cons_succ, ↓xSq_r, ↓xPur_s, ↓xRd_s, ↓xRe_s, ↓xDet_s, ↓xDet_ld, ↓xDet_ld2, ↓xDet_ld3, ↓xDet_ld4, World.size_drew, Nat.zero_add, Nat.add_zero, cell_drew, 
      frozen_drew, cell_set_eq, cell_set_o, cell_set_b, Option.map_some, World.frozen?_setCell, decide_true, decide_false, List.not_mem_nil, not_false_eq_true, ↓xGuard_tt, Bool.not_true, Bool.not_false, ←decide_not, ↓ld_26, ↓fa_124_0, ↓st_26, ↓cv_3_29, ↓cv_29_3, ↓ln_26, ↓sh_26, ↓sl_26, ↓sm_26, c0, e1, e2, d1, hxi, e3]
    have hrow : RowAt w a (bys (l.take (x.toNat * size))) := by have := h.row.take (x.toNat * size); rwa [← List.map_take] at this
    refine slices_Clone_byte_byte_call (Yld.mono (CloneB_spec (l.take (x.toNat * size)) a (x.toNat * size) c w (by simp; omega) (by simp; omega) hrow h.nil) ?_)
    rintro u w1 ⟨F1, a1, c1, rfl, hc1, hn1, R1, N1⟩
    simp (disch := (first | omega | decide | (simp only [World.size_alloc, World.size_setCell, World.size_drew, List.mem_cons, List.not_mem_nil, or_false, not_false_eq_true] <;> omega) | fail)) only [↓xBox_r, ↓loadK_some, ↓loadsK_s, ↓loadsK_n, ↓loadsR_s, ↓loadsR_n, ↓storesK_s, ↓storesK_n, setCells_c, setCells_n, World.setCell_alloc_at, World.setCell_alloc_past, World.cell?_alloc_at, World.cell?_alloc_past, 
      World.frozen?_alloc_at, World.frozen?_alloc_past, World.size_alloc, ↓xPick_t, ↓xPick_f, ↓xGuard_tt, ↓xGuard_ff, ↓xGuard_tf, ↓xGuard_ft, ↓xGuard_u, ↓xNil_r, Option.isNone_some, Option.isNone_none, ↓xIf_t, tick_eq, tickV_eq, ne_eq, 
      dlt_t, dlt_f, dle_t, dle_f, deq_t, deq_f, dne_t, dne_f, not_true_eq_false, Int.reduceAdd, Int.reduceSub, Int.reduceMul, Int.reduceEq, Int.reduceLT, Int.reduceLE, Bool.false_and, Bool.true_and, Bool.and_true, 
      Bool.and_false, ↓xBin_add', ↓xBin_sub', ↓xBin_mul', ↓xBin_quo', ↓xBin_rem', wrap_in, ↓xIf_f, ↓xIf_tt, ↓xEx0, ↓xEx1, ↓xEx2, ↓xEx3, ↓xBin_eqs, ↓xBin_nes, ↓xUn_not, ↓xu8_add, ↓xu8_mul, ↓xu8_quo, ↓xu8_gtr, ↓xu16_add, ↓xu16_mul, 
      ↓xu16_quo, ↓xu16_gtr, ↓xu32_add, ↓xu32_mul, ↓xu32_quo, ↓xu32_gtr, ↓xu64_add, ↓xu64_mul, ↓xu64_quo, ↓xu64_gtr, ↓xi64_gtr, Int.toNat_natCast, Int.reduceToNat, Nat.reduceMul, Nat.reduceAdd, Nat.reduceSub, Nat.mul_one, 
      List.nil_append, List.cons_append, List.getElem?_toArray, List.getElem?_cons_zero, List.getElem?_cons_succ, cells_int, cells_bool, cells_string, cells_slice, cells_pointer, cells_agg, one_int, one_bool, one_string, one_slice, 
      one_pointer, List.setIfInBounds_toArray, List.set_cons_zero, List.set_cons_succ, ↓xSq_r, ↓xPur_s, ↓xRd_s, ↓xRe_s, ↓xDet_s, ↓xDet_ld, ↓xDet_ld2, ↓xDet_ld3, ↓xDet_ld4, World.size_drew, Nat.zero_add, Nat.add_zero, cell_drew, 
      frozen_drew, cell_set_eq, cell_set_o, cell_set_b, Option.map_some, World.frozen?_setCell, decide_true, decide_false, List.not_mem_nil, not_false_eq_true, ↓xGuard_tt, Bool.not_true, Bool.not_false, ←decide_not, ↓ld_26, ↓fa_124_0, ↓st_26, ↓cv_3_29, ↓cv_29_3, ↓ln_26, ↓sh_26, ↓sl_26, ↓sm_26, c0, e1, e2, d1, hxi, e3]
    refine slices_Clip_byte_byte_call (Gives.to (ClipB_spec hc1) fun w3 F3 => ?_)
    have h3 := (h.ext0 F1).ext0 F3
    have c3 : w3.cell? ⟨g, 0, none⟩ = some (.slice a l.length c) := by rw [h3.blk.cell]; rfl
    have f3 : w3.frozen? ⟨g, 0, none⟩ = false := h3.blk.frozen
    simp (disch := (first | omega | decide | (simp only [World.size_alloc, World.size_setCell, World.size_drew, List.mem_cons, List.not_mem_nil, or_false, not_false_eq_true] <;> omega) | fail)) only [↓xBox_r, ↓loadK_some, ↓loadsK_s, ↓loadsK_n, ↓loadsR_s, ↓loadsR_n, ↓storesK_s, ↓storesK_n, setCells_c, setCells_n, World.setCell_alloc_at, World.setCell_alloc_past, World.cell?_alloc_at, World.cell?_alloc_past, 
      World.frozen?_alloc_at, World.frozen?_alloc_past, World.size_alloc, ↓xPick_t, ↓xPick_f, ↓xGuard_tt, ↓xGuard_ff, ↓xGuard_tf, ↓xGuard_ft, ↓xGuard_u, ↓xNil_r, Option.isNone_some, Option.isNone_none, ↓xIf_t, tick_eq, tickV_eq, ne_eq, 
      dlt_t, dlt_f, dle_t, dle_f, deq_t, deq_f, dne_t, dne_f, not_true_eq_false, Int.reduceAdd, Int.reduceSub, Int.reduceMul, Int.reduceEq, Int.reduceLT, Int.reduceLE, Bool.false_and, Bool.true_and, Bool.and_true, 
      Bool.and_false, ↓xBin_add', ↓xBin_sub', ↓xBin_mul', ↓xBin_quo', ↓xBin_rem', wrap_in, ↓xIf_f, ↓xIf_tt, ↓xEx0, ↓xEx1, ↓xEx2, ↓xEx3, ↓xBin_eqs, ↓xBin_nes, ↓xUn_not, ↓xu8_add, ↓xu8_mul, ↓xu8_quo, ↓xu8_gtr, ↓xu16_add, ↓xu16_mul, 
      ↓xu16_quo, ↓xu16_gtr, ↓xu32_add, ↓xu32_mul, ↓xu32_quo, ↓xu32_gtr, ↓xu64_add, ↓xu64_mul, ↓xu64_quo, ↓xu64_gtr, ↓xi64_gtr, Int.toNat_natCast, Int.reduceToNat, Nat.reduceMul, Nat.reduceAdd, Nat.reduceSub, Nat.mul_one, 
      List.nil_append, List.cons_append, List.getElem?_toArray, List.getElem?_cons_zero, List.getElem?_cons_succ, cells_int, cells_bool, cells_string, cells_slice, cells_pointer, cells_agg, one_int, one_bool, one_string, one_slice, 
      one_pointer, List.setIfInBounds_toArray, List.set_cons_zero, List.set_cons_succ, ↓xSq_r, ↓xPur_s, ↓xRd_s, ↓xRe_s, ↓xDet_s, ↓xDet_ld, ↓xDet_ld2, ↓xDet_ld3, ↓xDet_ld4, World.size_drew, Nat.zero_add, Nat.add_zero, cell_drew, 
      frozen_drew, cell_set_eq, cell_set_o, cell_set_b, Option.map_some, World.frozen?_setCell, decide_true, decide_false, List.not_mem_nil, not_false_eq_true, ↓xGuard_tt, Bool.not_true, Bool.not_false, ←decide_not, ↓ld_26, ↓fa_124_0, ↓st_26, ↓cv_3_29, ↓cv_29_3, ↓ln_26, ↓sh_26, ↓sl_26, ↓sm_26, c0, e1, e2, d1, hxi, e3, c3, f3]
    have hgl : g < w.heap.size := h.blk.lt
    refine ⟨⟨a1, _, rfl, Nat.le_refl _, fun hn => by have := hn1 hn; omega, (R1.ext0 F3).ext (Ext.set (b := g)) (fun b o eb hm => ?_), fun y hy => ⟨(N1 y hy).1, ?_⟩⟩, ?_⟩
    · simp at hm
      subst hm
      have := (N1 _ eb).1
      simp only at this
      omega
    · have := (N1 y hy).2
      have := F3.size
      rw [World.size_setCell]
      omega
    · have hr := h3.row.drop (x.toNat * size) c (by simpa using hcap)
      rw [← List.map_drop] at hr
      have hlen : l.length - x.toNat * size = (l.drop (x.toNat * size)).length := by simp
      rw [hlen]
      have hat : l.drop (x.toNat * size) ≠ [] → ∀ b o, (if c = x.toNat * size then a else a.map (·.add (x.toNat * size))) = some ⟨b, o, none⟩ → b ≠ g := by
        intro hne b o hh
        have hl0 : l ≠ [] := by intro e; rw [e] at hne; simp at hne
        obtain ⟨b0, o0, rfl, _, _⟩ := h.row.get (fun e => hl0 (List.map_eq_nil_iff.1 e))
        split at hh
        · exact h.ne hl0 _ _ hh
        · rw [Option.map_some, addr_add] at hh
          simp at hh
          rw [← hh.1]
          exact h.ne hl0 b0 o0 rfl
      refine ⟨((F1.trans F3).more (by simp)).set' (.inl (by simp)), _, _, h3.blk.set (i := 0), ?_, by simp; omega, fun hn => ?_, hat, by simp; omega, fun he => by rw [h.err he]; simp⟩
      · by_cases hne : l.drop (x.toNat * size) = []
        · rw [hne]; exact RowAt.nil
        · exact hr.ext (Ext.set (b := g)) (fun b o eb hm => hat hne b o eb (by simpa using hm))
      split at hn
      · rename_i hcx
        have := h.nil hn
        omega
      · have hn' : a = none := by cases a with | none => rfl | some a0 => simp at hn
        have := h.nil hn'
        omega
theorem Dec_Raw_spec (h : DecIs w g a c l 0) : Yld Try.prog n_codec_Dec_Raw #[ptr g] w fun u w' => RawR (decRaw l) w w' g u := by
  refine codec_Dec_Raw_of ?_
  unfold codec_Dec_Raw
  refine codec_Dec_Uint_call (Yld.mono (Dec_Uint_spec h) ?_)
  intro u w1 hr
  unfold UintR at hr
  unfold RawR decRaw
  cases hd : decU l with
  | ok p =>
    obtain ⟨x, m⟩ := p
    rw [hd] at hr
    obtain ⟨rfl, E1, a1, c1, h1⟩ := hr
    refine codec_Dec_take_call (Yld.mono (Dec_take_spec x 1 (by decide) h1 (fun hh => absurd rfl hh)) ?_)
    intro u w2 hr2
    simp only
    have hz := E1.size
    unfold takeN at hr2 ⊢
    split at hr2 <;> rename_i hsp
    · split at hsp
      · cases hsp
      · rename_i hlt
        cases hsp
        obtain ⟨⟨a2, c2, e2, q1, q2, q3, q4⟩, T⟩ := hr2
        exact ⟨⟨a2, c2, e2, q1, q2, q3, fun y hy => ⟨Nat.le_trans hz (q4 y hy).1, (q4 y hy).2⟩⟩, E1.trans T.1, T.2⟩
    · split at hsp
      · rename_i hlt
        cases hsp
        obtain ⟨⟨a2, c2, e2, q1, q2, q3, q4⟩, T⟩ := hr2
        exact ⟨⟨a2, c2, e2, q1, q2, q3, fun y hy => ⟨Nat.le_trans hz (q4 y hy).1, (q4 y hy).2⟩⟩, E1.trans T.1, T.2⟩
      · cases hsp
  | error e =>
    rw [hd] at hr
    obtain ⟨rfl, E1, a1, c1, h1⟩ := hr
    refine codec_Dec_take_call (Yld.mono (Dec_take_spec z64 1 (by decide) h1 (fun _ => rfl)) ?_)
    intro u w2 hr2
    simp only
    have hz := E1.size
    have e0 : takeN [] z64 1 = .ok ([], []) := rfl
    rw [e0] at hr2
    obtain ⟨⟨a2, c2, e2, q1, q2, q3, q4⟩, T⟩ := hr2
    exact ⟨⟨a2, c2, e2, q1, q2, q3, fun y hy => ⟨Nat.le_trans hz (q4 y hy).1, (q4 y hy).2⟩⟩, E1.trans T.1, T.2⟩
theorem words_loop {w : World} {b : List (BitVec 8)} {a : Option Addr} {c : Nat} {K : K1} (m : Nat) (hb : b.length = 8 * m) (hm : m ≤ 125000) (hr : RowAt w a (bys b)) (hc : b.length ≤ c)
    (hK : ∀ u w', Ext [] w w' → WOut w w' u (wordsOf b) → K u w') :
    xLoop [.slice none 0 0, i64 0] w [4, 5] fun u w nxt0 => codec_Dec_Words_l1 K nxt0 (.slice a b.length c) (u 4) (u 5) w := by
  have hwl : (wordsOf b).length = m := by simp [wordsOf, hb]
  refine xLoop_r m (fun k vs w' => ∃ s, vs = [s, i64 ((8 * k : Nat) : Int)] ∧ Ext [] w w' ∧ w'.ownsRow w.heap.size 29 1 s k (wrds ((wordsOf b).take k))) ⟨_, rfl, Ext.refl _ _, World.ownsRow_nil _ _ _ _⟩ ?_ ?_
  · rintro k hk u v1 ⟨s, hu, F, O⟩ nxt hnx
    simp only [List.map_cons, List.map_nil, List.cons.injEq, and_true] at hu
    rw [hu.1, hu.2]
    unfold codec_Dec_Words_l1
    simp (disch := (first | omega | decide | (simp only [World.size_alloc, World.size_setCell, World.size_drew, List.mem_cons, List.not_mem_nil, or_false, not_false_eq_true] <;> omega) | fail)) only [↓xBox_r, ↓loadK_some, ↓loadsK_s, ↓loadsK_n, ↓loadsR_s, ↓loadsR_n, ↓storesK_s, ↓storesK_n, setCells_c, setCells_n, World.setCell_alloc_at, World.setCell_alloc_past, World.cell?_alloc_at, World.cell?_alloc_past, 
      World.frozen?_alloc_at, World.frozen?_alloc_past, World.size_alloc, ↓xPick_t, ↓xPick_f, ↓xGuard_tt, ↓xGuard_ff, ↓xGuard_tf, ↓xGuard_ft, ↓xGuard_u, ↓xNil_r, Option.isNone_some, Option.isNone_none, ↓xIf_t, tick_eq, tickV_eq, ne_eq, 
      dlt_t, dlt_f, dle_t, dle_f, deq_t, deq_f, dne_t, dne_f, not_true_eq_false, Int.reduceAdd, Int.reduceSub, Int.reduceMul, Int.reduceEq, Int.reduceLT, Int.reduceLE, Bool.false_and, Bool.true_and, Bool.and_true, 
      Bool.and_false, ↓xBin_add', ↓xBin_sub', ↓xBin_mul', ↓xBin_quo', ↓xBin_rem', wrap_in, ↓xIf_f, ↓xIf_tt, ↓xEx0, ↓xEx1, ↓xEx2, ↓xEx3, ↓xBin_eqs, ↓xBin_nes, ↓xUn_not, ↓xu8_add, ↓xu8_lss, ↓xu16_add, ↓xu16_lss, ↓xu32_add, ↓xu32_lss, 
      ↓xu64_add, ↓xu64_lss, ↓xi64_lss, Int.toNat_natCast, Int.reduceToNat, Nat.reduceMul, Nat.reduceAdd, Nat.reduceSub, Nat.mul_one, List.nil_append, List.cons_append, List.getElem?_toArray, List.getElem?_cons_zero, List.getElem?_cons_succ, 
      cells_int, cells_bool, cells_string, cells_slice, cells_pointer, cells_agg, one_int, one_bool, one_string, one_slice, one_pointer, List.setIfInBounds_toArray, List.set_cons_zero, List.set_cons_succ, ↓xSq_r, ↓xPur_s, 
      ↓xRd_s, ↓xRe_s, ↓xDet_s, ↓xDet_ld, ↓xDet_ld2, ↓xDet_ld3, ↓xDet_ld4, World.size_drew, Nat.zero_add, Nat.add_zero, cell_drew, frozen_drew, cell_set_eq, cell_set_o, cell_set_b, Option.map_some, World.frozen?_setCell, 
      decide_true, decide_false, List.not_mem_nil, not_false_eq_true, ↓xGuard_tt, Bool.not_true, Bool.not_false, ←decide_not, ↓ln_26, ↓bs_30_0, ↓bs_30_1, eq_self]
    refine bits_Get_call (Gives.to (Get_spec b a c (8 * k) 8 v1 (by omega) (hr.ext0 F) (by unfold inside; omega)) fun v2 F2 => ?_)
    have hz := (F.trans F2).size
    simp (disch := (first | omega | decide | (simp only [World.size_alloc, World.size_setCell, World.size_drew, List.mem_cons, List.not_mem_nil, or_false, not_false_eq_true] <;> omega) | fail)) only [↓xBox_r, ↓loadK_some, ↓loadsK_s, ↓loadsK_n, ↓loadsR_s, ↓loadsR_n, ↓storesK_s, ↓storesK_n, setCells_c, setCells_n, World.setCell_alloc_at, World.setCell_alloc_past, World.cell?_alloc_at, World.cell?_alloc_past, 
      World.frozen?_alloc_at, World.frozen?_alloc_past, World.size_alloc, ↓xPick_t, ↓xPick_f, ↓xGuard_tt, ↓xGuard_ff, ↓xGuard_tf, ↓xGuard_ft, ↓xGuard_u, ↓xNil_r, Option.isNone_some, Option.isNone_none, ↓xIf_t, tick_eq, tickV_eq, ne_eq, 
      dlt_t, dlt_f, dle_t, dle_f, deq_t, deq_f, dne_t, dne_f, not_true_eq_false, Int.reduceAdd, Int.reduceSub, Int.reduceMul, Int.reduceEq, Int.reduceLT, Int.reduceLE, Bool.false_and, Bool.true_and, Bool.and_true, 
      Bool.and_false, ↓xBin_add', ↓xBin_sub', ↓xBin_mul', ↓xBin_quo', ↓xBin_rem', wrap_in, ↓xIf_f, ↓xIf_tt, ↓xEx0, ↓xEx1, ↓xEx2, ↓xEx3, ↓xBin_eqs, ↓xBin_nes, ↓xUn_not, ↓xu8_add, ↓xu8_lss, ↓xu16_add, ↓xu16_lss, ↓xu32_add, ↓xu32_lss, 
      ↓xu64_add, ↓xu64_lss, ↓xi64_lss, Int.toNat_natCast, Int.reduceToNat, Nat.reduceMul, Nat.reduceAdd, Nat.reduceSub, Nat.mul_one, List.nil_append, List.cons_append, List.getElem?_toArray, List.getElem?_cons_zero, List.getElem?_cons_succ, 
      cells_int, cells_bool, cells_string, cells_slice, cells_pointer, cells_agg, one_int, one_bool, one_string, one_slice, one_pointer, List.setIfInBounds_toArray, List.set_cons_zero, List.set_cons_succ, ↓xSq_r, ↓xPur_s, 
      ↓xRd_s, ↓xRe_s, ↓xDet_s, ↓xDet_ld, ↓xDet_ld2, ↓xDet_ld3, ↓xDet_ld4, World.size_drew, Nat.zero_add, Nat.add_zero, cell_drew, frozen_drew, cell_set_eq, cell_set_o, cell_set_b, Option.map_some, World.frozen?_setCell, 
      decide_true, decide_false, List.not_mem_nil, not_false_eq_true, ↓xGuard_tt, Bool.not_true, Bool.not_false, ←decide_not, ↓ln_26, ↓bs_30_0, ↓bs_30_1, eq_self]
    refine xAppend_own (e := 29) (base := w.heap.size) (news := wrds [getV b (8 * k) 8]) (z := .int .u64 0) (bytes := 8) (by kernel_rfl) (by kernel_rfl) (by rfl) (own_ext (own_ext O F2) (Ext.alloc [] v2 _)) (by rfl) ((Blk.new (e := 29) v2 (wrds [getV b (8 * k) 8])).row) (by simp) (by simp [Value.oneCell']) (by omega) (by omega) (by simp; omega) ?_
    intro v' w' hown hgr
    have F5 : Ext [] w w' := grownBy_new ((F.trans F2).trans (Ext.alloc _ _ _)) hgr (fun k hk => (O.lt k hk).1)
    simp (disch := (first | omega | decide | (simp only [World.size_alloc, World.size_setCell, World.size_drew, List.mem_cons, List.not_mem_nil, or_false, not_false_eq_true] <;> omega) | fail)) only [↓xBox_r, ↓loadK_some, ↓loadsK_s, ↓loadsK_n, ↓loadsR_s, ↓loadsR_n, ↓storesK_s, ↓storesK_n, setCells_c, setCells_n, World.setCell_alloc_at, World.setCell_alloc_past, World.cell?_alloc_at, World.cell?_alloc_past, 
      World.frozen?_alloc_at, World.frozen?_alloc_past, World.size_alloc, ↓xPick_t, ↓xPick_f, ↓xGuard_tt, ↓xGuard_ff, ↓xGuard_tf, ↓xGuard_ft, ↓xGuard_u, ↓xNil_r, Option.isNone_some, Option.isNone_none, ↓xIf_t, tick_eq, tickV_eq, ne_eq, 
      dlt_t, dlt_f, dle_t, dle_f, deq_t, deq_f, dne_t, dne_f, not_true_eq_false, Int.reduceAdd, Int.reduceSub, Int.reduceMul, Int.reduceEq, Int.reduceLT, Int.reduceLE, Bool.false_and, Bool.true_and, Bool.and_true, 
      Bool.and_false, ↓xBin_add', ↓xBin_sub', ↓xBin_mul', ↓xBin_quo', ↓xBin_rem', wrap_in, ↓xIf_f, ↓xIf_tt, ↓xEx0, ↓xEx1, ↓xEx2, ↓xEx3, ↓xBin_eqs, ↓xBin_nes, ↓xUn_not, ↓xu8_add, ↓xu8_lss, ↓xu16_add, ↓xu16_lss, ↓xu32_add, ↓xu32_lss, 
      ↓xu64_add, ↓xu64_lss, ↓xi64_lss, Int.toNat_natCast, Int.reduceToNat, Nat.reduceMul, Nat.reduceAdd, Nat.reduceSub, Nat.mul_one, List.nil_append, List.cons_append, List.getElem?_toArray, List.getElem?_cons_zero, List.getElem?_cons_succ, 
      cells_int, cells_bool, cells_string, cells_slice, cells_pointer, cells_agg, one_int, one_bool, one_string, one_slice, one_pointer, List.setIfInBounds_toArray, List.set_cons_zero, List.set_cons_succ, ↓xSq_r, ↓xPur_s, 
      ↓xRd_s, ↓xRe_s, ↓xDet_s, ↓xDet_ld, ↓xDet_ld2, ↓xDet_ld3, ↓xDet_ld4, World.size_drew, Nat.zero_add, Nat.add_zero, cell_drew, frozen_drew, cell_set_eq, cell_set_o, cell_set_b, Option.map_some, World.frozen?_setCell, 
      decide_true, decide_false, List.not_mem_nil, not_false_eq_true, ↓xGuard_tt, Bool.not_true, Bool.not_false, ←decide_not, ↓ln_26, ↓bs_30_0, ↓bs_30_1, eq_self]
    refine hnx _ _ ⟨v', by simp; omega, F5, ?_⟩
    have et : (wordsOf b).take (k + 1) = (wordsOf b).take k ++ [getV b (8 * k) 8] := by
      rw [List.take_succ_eq_append_getElem (by omega)]
      simp [wordsOf]
    rw [et, wrds, List.map_append]
    exact hown
  · rintro u v1 ⟨s, hu, F, O⟩ nxt
    simp only [List.map_cons, List.map_nil, List.cons.injEq, and_true] at hu
    rw [hu.1, hu.2]
    unfold codec_Dec_Words_l1
    rw [List.take_of_length_le (by omega)] at O
    obtain ⟨a2, c2, rfl, q1, q2, q3, q4⟩ := own_slice O
    simp (disch := (first | omega | decide | (simp only [World.size_alloc, World.size_setCell, World.size_drew, List.mem_cons, List.not_mem_nil, or_false, not_false_eq_true] <;> omega) | fail)) only [↓xBox_r, ↓loadK_some, ↓loadsK_s, ↓loadsK_n, ↓loadsR_s, ↓loadsR_n, ↓storesK_s, ↓storesK_n, setCells_c, setCells_n, World.setCell_alloc_at, World.setCell_alloc_past, World.cell?_alloc_at, World.cell?_alloc_past, 
      World.frozen?_alloc_at, World.frozen?_alloc_past, World.size_alloc, ↓xPick_t, ↓xPick_f, ↓xGuard_tt, ↓xGuard_ff, ↓xGuard_tf, ↓xGuard_ft, ↓xGuard_u, ↓xNil_r, Option.isNone_some, Option.isNone_none, ↓xIf_t, tick_eq, tickV_eq, ne_eq, 
      dlt_t, dlt_f, dle_t, dle_f, deq_t, deq_f, dne_t, dne_f, not_true_eq_false, Int.reduceAdd, Int.reduceSub, Int.reduceMul, Int.reduceEq, Int.reduceLT, Int.reduceLE, Bool.false_and, Bool.true_and, Bool.and_true, 
      Bool.and_false, ↓xBin_add', ↓xBin_sub', ↓xBin_mul', ↓xBin_quo', ↓xBin_rem', wrap_in, ↓xIf_f, ↓xIf_tt, ↓xEx0, ↓xEx1, ↓xEx2, ↓xEx3, ↓xBin_eqs, ↓xBin_nes, ↓xUn_not, ↓xu8_add, ↓xu8_lss, ↓xu16_add, ↓xu16_lss, ↓xu32_add, ↓xu32_lss, 
      ↓xu64_add, ↓xu64_lss, ↓xi64_lss, Int.toNat_natCast, Int.reduceToNat, Nat.reduceMul, Nat.reduceAdd, Nat.reduceSub, Nat.mul_one, List.nil_append, List.cons_append, List.getElem?_toArray, List.getElem?_cons_zero, List.getElem?_cons_succ, 
      cells_int, cells_bool, cells_string, cells_slice, cells_pointer, cells_agg, one_int, one_bool, one_string, one_slice, one_pointer, List.setIfInBounds_toArray, List.set_cons_zero, List.set_cons_succ, ↓xSq_r, ↓xPur_s, 
      ↓xRd_s, ↓xRe_s, ↓xDet_s, ↓xDet_ld, ↓xDet_ld2, ↓xDet_ld3, ↓xDet_ld4, World.size_drew, Nat.zero_add, Nat.add_zero, cell_drew, frozen_drew, cell_set_eq, cell_set_o, cell_set_b, Option.map_some, World.frozen?_setCell, 
      decide_true, decide_false, List.not_mem_nil, not_false_eq_true, ↓xGuard_tt, Bool.not_true, Bool.not_false, ←decide_not, ↓ln_26, ↓bs_30_0, ↓bs_30_1, eq_self]
    refine slices_Clip_uint64_uint64_call (Gives.to (ClipW_spec q2) fun w3 F3 => ?_)
    refine hK _ _ (F.trans F3) ⟨a2, m, by rw [hwl], by rw [hwl]; exact Nat.le_refl _, fun e => by have := q3 e; omega, q4.ext0 F3, fun y hy => ?_⟩
    have := O.lt y.block (by rw [hy]; rfl)
    exact ⟨this.1, Nat.lt_of_lt_of_le this.2 F3.size⟩
theorem Dec_Words_spec (h : DecIs w g a c l 0) : Yld Try.prog n_codec_Dec_Words #[ptr g] w fun u w' => WordsR (decWords l) w w' g u := by
  refine codec_Dec_Words_of ?_
  unfold codec_Dec_Words
  have tail : ∀ (w1 w2 : World) (u : Value) (b m : List (BitVec 8)) (e : Int) (x : Nat), Ext [g] w w1 → b.length = 8 * x → b.length ≤ 1000000 → BOut w1 w2 u b → DecTo w1 w2 g m e → ∀ K : K1, (∀ v w', WOut w w' v (wordsOf b) → DecTo w w' g m e → K v w') →
      xLoop [.slice none 0 0, i64 0] w2 [4, 5] fun t w nxt0 => codec_Dec_Words_l1 K nxt0 u (t 4) (t 5) w := by
    rintro w1 w2 u b m e x E1 hb hbl ⟨ab, cb, rfl, q1, q2, q3, q4⟩ ⟨E2, am, cm, hm⟩ K hK
    refine words_loop (K := K) x hb (by omega) q3 q1 fun v w' F hW => ?_
    obtain ⟨a5, c5, e5, r1, r2, r3, r4⟩ := hW
    have hz := (E1.trans E2).size
    exact hK _ _ ⟨a5, c5, e5, r1, r2, r3, fun y hy => ⟨Nat.le_trans hz (r4 y hy).1, (r4 y hy).2⟩⟩ ⟨(E1.trans E2).trans (F.more (by simp)), am, cm, hm.ext0 F⟩
  refine codec_Dec_Uint_call (Yld.mono (Dec_Uint_spec h) ?_)
  intro u w1 hr
  unfold UintR at hr
  unfold WordsR decWords
  cases hd : decU l with
  | ok p =>
    obtain ⟨x, m⟩ := p
    rw [hd] at hr
    obtain ⟨rfl, E1, a1, c1, h1⟩ := hr
    refine codec_Dec_take_call (Yld.mono (Dec_take_spec x 8 (by decide) h1 (fun hh => absurd rfl hh)) ?_)
    intro u w2 hr2
    simp only
    have hmb := h1.big
    cases ht : takeN m x 8 with
    | ok q =>
      obtain ⟨b, r⟩ := q
      rw [ht] at hr2
      have hbx : b = m.take (x.toNat * 8) ∧ ¬ m.length / 8 < x.toNat := by
        unfold takeN at ht
        split at ht
        · cases ht
        · rename_i hlt
          cases ht
          exact ⟨rfl, hlt⟩
      have hbl : b.length = 8 * x.toNat := by rw [hbx.1, List.length_take]; have := hbx.2; omega
      exact tail w1 w2 u b r 0 x.toNat E1 hbl (by rw [hbx.1, List.length_take]; omega) hr2.1 hr2.2 _ fun v w' p q => ⟨p, q⟩
    | error e =>
      rw [ht] at hr2
      exact tail w1 w2 u [] [] e 0 E1 rfl (by simp) hr2.1 hr2.2 _ fun v w' p q => ⟨p, q⟩
  | error e =>
    rw [hd] at hr
    obtain ⟨rfl, E1, a1, c1, h1⟩ := hr
    refine codec_Dec_take_call (Yld.mono (Dec_take_spec z64 8 (by decide) h1 (fun _ => rfl)) ?_)
    intro u w2 hr2
    have e0 : takeN [] z64 8 = .ok ([], []) := rfl
    rw [e0] at hr2
    exact tail w1 w2 u [] [] e 0 E1 rfl (by simp) hr2.1 hr2.2 _ fun v w' p q => ⟨p, q⟩
end
end Go.Proofs.Ytlllabaipfmnjaa
