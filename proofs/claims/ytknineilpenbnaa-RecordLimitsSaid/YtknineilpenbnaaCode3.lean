/- What the functions of the codec compute that read items. -/
import Derived.Test.YtknineilpenbnaaCodeZ
set_option linter.unusedVariables false
set_option linter.unusedSimpArgs false
set_option maxHeartbeats 4000000
namespace Go.Proofs.Ytknineilpenbnaa
open Go.Sh Go.RowKit

/-- a row of bytes that was made meanwhile -/
def BOut (w w' : World) (u : Value) (l : List (BitVec 8)) : Prop := ∃ a c, u = .slice a l.length c ∧ l.length ≤ c ∧ (a = none → c = 0) ∧ RowAt w' a (bys l) ∧ ∀ x, a = some x → w.heap.size ≤ x.block ∧ x.block < w'.heap.size
def WOut (w w' : World) (u : Value) (l : List (BitVec 64)) : Prop := ∃ a c, u = .slice a l.length c ∧ l.length ≤ c ∧ (a = none → c = 0) ∧ RowAt w' a (wrds l) ∧ ∀ x, a = some x → w.heap.size ≤ x.block ∧ x.block < w'.heap.size
/-- bytes taken off what is read -/
def takeN (l : List (BitVec 8)) (x : BitVec 64) (size : Nat) : Except Int (List (BitVec 8) × List (BitVec 8)) := if l.length / size < x.toNat then .error 3 else .ok (l.take (x.toNat * size), l.drop (x.toNat * size))
def decRaw (l : List (BitVec 8)) : Except Int (List (BitVec 8) × List (BitVec 8)) := match decU l with
  | .ok (x, m) => takeN m x 1
  | .error e => .error e
def decWords (l : List (BitVec 8)) : Except Int (List (BitVec 64) × List (BitVec 8)) := match decU l with
  | .ok (x, m) => (match takeN m x 8 with | .ok (b, r) => .ok (wordsOf b, r) | .error e => .error e)
  | .error e => .error e
def IntR (r : Except Int (BitVec 64 × List (BitVec 8))) (w w' : World) (g : Nat) (u : Value) : Prop := match r with
  | .ok (x, m) => u = i64 (zag x) ∧ DecTo w w' g m 0
  | .error e => u = i64 0 ∧ DecTo w w' g [] e
def RawR (r : Except Int (List (BitVec 8) × List (BitVec 8))) (w w' : World) (g : Nat) (u : Value) : Prop := match r with
  | .ok (b, m) => BOut w w' u b ∧ DecTo w w' g m 0
  | .error e => BOut w w' u [] ∧ DecTo w w' g [] e
def WordsR (r : Except Int (List (BitVec 64) × List (BitVec 8))) (w w' : World) (g : Nat) (u : Value) : Prop := match r with
  | .ok (b, m) => WOut w w' u b ∧ DecTo w w' g m 0
  | .error e => WOut w w' u [] ∧ DecTo w w' g [] e
theorem nilB (w w' : World) : BOut w w' (.slice none 0 0) [] := ⟨none, 0, rfl, Nat.le_refl _, fun _ => rfl, RowAt.nil, fun x hx => by cases hx⟩
section
variable {w : World} {g : Nat} {a : Option Addr} {c : Nat} {l : List (BitVec 8)} {e : Int}
theorem DecTo.refl {w w' : World} (h : DecIs w g a c l e) (hx : Ext [] w w') : DecTo w w' g l e := ⟨hx.more (by simp), a, c, h.ext0 hx⟩
abbrev rsCode3_0 := (And.intro @xBox_r (And.intro @loadK_some (And.intro @loadsK_s (And.intro @loadsK_n (And.intro @loadsR_s (And.intro @loadsR_n (And.intro @storesK_s (And.intro @storesK_n (And.intro @xPick_t (And.intro @xPick_f (And.intro @xGuard_tt (And.intro @xGuard_ff (And.intro @xGuard_tf (And.intro @xGuard_ft (And.intro @xGuard_u 
  (And.intro @xNil_r (And.intro @xIf_t (And.intro @xBin_add' (And.intro @xBin_sub' (And.intro @xBin_mul' (And.intro @xBin_quo' (And.intro @xBin_rem' (And.intro @xIf_f (And.intro @xIf_tt (And.intro @xEx0 (And.intro @xEx1 (And.intro @xEx2 (And.intro @xEx3 (And.intro @xBin_eqs (And.intro @xBin_nes (And.intro @xUn_not (And.intro @xu8_add (And.intro @xu8_mul 
  (And.intro @xu8_and (And.intro @xu8_or (And.intro @xu8_shl (And.intro @xu8_eql (And.intro @xu8_lss (And.intro @xu8_gtr (And.intro @xu8_geq (And.intro @xu16_add (And.intro @xu16_mul (And.intro @xu16_and (And.intro @xu16_or (And.intro @xu16_shl (And.intro @xu16_eql (And.intro @xu16_lss (And.intro @xu16_gtr (And.intro @xu16_geq (And.intro @xu32_add 
  (And.intro @xu32_mul (And.intro @xu32_and (And.intro @xu32_or (And.intro @xu32_shl (And.intro @xu32_eql (And.intro @xu32_lss (And.intro @xu32_gtr (And.intro @xu32_geq (And.intro @xu64_add (And.intro @xu64_mul (And.intro @xu64_and (And.intro @xu64_or (And.intro @xu64_shl (And.intro @xu64_eql (And.intro @xu64_lss (And.intro @xu64_gtr (And.intro @xu64_geq 
  (And.intro @xi64_lss (And.intro @xi64_gtr (And.intro @xi64_geq (And.intro @xi64_eql (And.intro @xi64_and (And.intro @xi64_or (And.intro @xi64_shl (And.intro @xMakeFunc_r (And.intro @xSq_r (And.intro @xPur_s (And.intro @xRd_s (And.intro @xRe_s (And.intro @xDet_s (And.intro @xDet_ld (And.intro @xDet_ld2 (And.intro @xDet_ld3 (And.intro @xDet_ld4 (And.intro @xGuard_tt 
  (And.intro @ld_5 (And.intro @ld_25 (And.intro @ld_29 (And.intro @fa_70_0 (And.intro @fa_70_1 (And.intro @st_25 (And.intro @cv_5_22 (And.intro @ia_25 (And.intro @ln_25 (And.intro @sh_25 (And.intro @sl_25 @sm_25))))))))))))))))))))))))))))))))))))))))))))))))))))))))))))))))))))))))))))))))))))))))))))))))
abbrev rsCode3_1 := (And.intro @setCells_c (And.intro @setCells_n (And.intro @World.setCell_alloc_at (And.intro @World.setCell_alloc_past (And.intro @World.cell?_alloc_at (And.intro @World.cell?_alloc_past (And.intro @World.frozen?_alloc_at (And.intro @World.frozen?_alloc_past 
  (And.intro @World.size_alloc (And.intro @dlt_t (And.intro @dlt_f (And.intro @dle_t (And.intro @dle_f (And.intro @deq_t (And.intro @deq_f (And.intro @dne_t (And.intro @dne_f (And.intro @not_true_eq_false (And.intro @Bool.false_and (And.intro @Bool.true_and (And.intro @Bool.and_true (And.intro @Bool.and_false (And.intro @wrap_in (And.intro @Int.toNat_natCast 
  (And.intro @Nat.mul_one (And.intro @cells_int (And.intro @cells_bool (And.intro @cells_string (And.intro @cells_slice (And.intro @cells_pointer (And.intro @cells_agg (And.intro @one_int (And.intro @one_bool (And.intro @one_string (And.intro @one_slice (And.intro @one_pointer (And.intro @beq_tt (And.intro @beq_ff (And.intro @beq_tf 
  (And.intro @beq_ft (And.intro @cell_sets_b (And.intro @frozen_sets (And.intro @size_sets (And.intro @World.size_drew (And.intro @Nat.zero_add (And.intro @Nat.add_zero (And.intro @cell_drew (And.intro @frozen_drew (And.intro @cell_set_eq (And.intro @cell_set_o (And.intro @cell_set_b (And.intro @World.frozen?_setCell 
  (And.intro @decide_true (And.intro @decide_false (And.intro @not_false_eq_true (And.intro @Bool.not_true @Bool.not_false))))))))))))))))))))))))))))))))))))))))))))))))))))))))
theorem Dec_Uint_err (h : DecIs w g a c l e) (he : e ≠ 0) : Gives Try.prog n_codec_Dec_Uint #[ptr g] w (c64 0) := by
  refine codec_Dec_Uint_of ?_
  unfold codec_Dec_Uint
  have hl := h.err he
  subst hl
  refine xLoop_n 0 (fun k => [c64 0, i64 k]) (fun k w' => Ext [] w w') rfl (Ext.refl _ _) (fun k hk => by omega) ?_
  rintro u w1 hu F1 nxt
  simp only [List.map_cons, List.map_nil, List.cons.injEq, and_true] at hu
  rw [hu.1, hu.2]
  have h1 := h.ext0 F1
  have c0 : w1.cell? ⟨g, 0, none⟩ = some (.slice a 0 c) := by rw [h1.blk.cell]; rfl
  have c1 : w1.cell? ⟨g, 1, none⟩ = some (i64 e) := by rw [h1.blk.cell]; rfl
  have d1 : decide (e = 0) = false := decide_eq_false he
  unfold codec_Dec_Uint_l1
  simp (disch := (first | omega | decide | (simp only [World.size_alloc, World.size_setCell, World.size_drew, size_sets, List.mem_cons, List.not_mem_nil, or_false, not_false_eq_true] <;> omega) | fail)) only [↓rsCode3_0, rsCode3_1, Option.isNone_some, Option.isNone_none, tick_eq, tickV_eq, ne_eq, Int.reduceAdd, Int.reduceSub, Int.reduceMul, Int.reduceEq, Int.reduceLT, Int.reduceLE, Int.reduceToNat, Nat.reduceMul, Nat.reduceAdd, Nat.reduceSub, List.nil_append, List.cons_append, List.getElem?_toArray, List.getElem?_cons_zero, List.getElem?_cons_succ, List.setIfInBounds_toArray, List.set_cons_zero, List.set_cons_succ, Option.map_some, List.not_mem_nil, ←decide_not, c0, c1, d1]
  exact ⟨by trivial, F1⟩
abbrev rsCode3_2 := (And.intro @xBox_r (And.intro @loadK_some (And.intro @loadsK_s (And.intro @loadsK_n (And.intro @loadsR_s (And.intro @loadsR_n (And.intro @storesK_s (And.intro @storesK_n (And.intro @xPick_t (And.intro @xPick_f (And.intro @xGuard_tt (And.intro @xGuard_ff (And.intro @xGuard_tf (And.intro @xGuard_ft (And.intro @xGuard_u 
  (And.intro @xNil_r (And.intro @xIf_t (And.intro @xBin_add' (And.intro @xBin_sub' (And.intro @xBin_mul' (And.intro @xBin_quo' (And.intro @xBin_rem' (And.intro @xIf_f (And.intro @xIf_tt (And.intro @xEx0 (And.intro @xEx1 (And.intro @xEx2 (And.intro @xEx3 (And.intro @xBin_eqs (And.intro @xBin_nes (And.intro @xUn_not (And.intro @xu8_add (And.intro @xu8_mul 
  (And.intro @xu8_quo (And.intro @xu8_gtr (And.intro @xu16_add (And.intro @xu16_mul (And.intro @xu16_quo (And.intro @xu16_gtr (And.intro @xu32_add (And.intro @xu32_mul (And.intro @xu32_quo (And.intro @xu32_gtr (And.intro @xu64_add (And.intro @xu64_mul (And.intro @xu64_quo (And.intro @xu64_gtr (And.intro @xi64_gtr (And.intro @xMakeFunc_r 
  (And.intro @xSq_r (And.intro @xPur_s (And.intro @xRd_s (And.intro @xRe_s (And.intro @xDet_s (And.intro @xDet_ld (And.intro @xDet_ld2 (And.intro @xDet_ld3 (And.intro @xDet_ld4 (And.intro @xGuard_tt (And.intro @ld_25 (And.intro @fa_70_0 (And.intro @st_25 (And.intro @cv_3_22 (And.intro @cv_22_3 (And.intro @ln_25 (And.intro @sh_25 (And.intro @sl_25 @sm_25)))))))))))))))))))))))))))))))))))))))))))))))))))))))))))))))))))
theorem Dec_take_spec (x : BitVec 64) (size : Nat) (hs : 0 < size ∧ size ≤ 8) (h : DecIs w g a c l e) (h0 : e ≠ 0 → x = z64) : Yld Try.prog n_codec_Dec_take #[ptr g, u64 x, i64 size] w fun u w' => match takeN l x size with
    | .ok (b, m) => BOut w w' u b ∧ DecTo w w' g m e
    | .error e' => BOut w w' u [] ∧ DecTo w w' g [] e' := by
  refine codec_Dec_take_of ?_
  unfold codec_Dec_take
  have hb := h.big
  have c0 : w.cell? ⟨g, 0, none⟩ = some (.slice a l.length c) := by rw [h.blk.cell]; rfl
  have hq : l.length / size ≤ 1000000 := Nat.le_trans (Nat.div_le_self _ _) hb
  have hqi : ((l.length : Int) / (size : Int)) = ((l.length / size : Nat) : Int) := by simp
  have e1 : BitVec.ofInt 64 ((l.length : Int) / (size : Int)) = BitVec.ofNat 64 (l.length / size) := by rw [hqi]; exact BitVec.ofInt_natCast ..
  have e2 : (BitVec.ofNat 64 (l.length / size)).toNat = l.length / size := by rw [BitVec.toNat_ofNat]; exact Nat.mod_eq_of_lt (Nat.lt_of_le_of_lt hq (by decide))
  have hq0 : (0 : Int) ≤ (l.length : Int) / (size : Int) ∧ (l.length : Int) / (size : Int) ≤ 1000000 := by rw [hqi]; omega
  unfold takeN
  by_cases hx : l.length / size < x.toNat
  · rw [if_pos hx]
    have d1 : decide (l.length / size < x.toNat) = true := decide_eq_true hx
    simp (disch := (first | omega | decide | (simp only [World.size_alloc, World.size_setCell, World.size_drew, size_sets, List.mem_cons, List.not_mem_nil, or_false, not_false_eq_true] <;> omega) | fail)) only [↓rsCode3_2, rsCode3_1, Option.isNone_some, Option.isNone_none, tick_eq, tickV_eq, ne_eq, Int.reduceAdd, Int.reduceSub, Int.reduceMul, Int.reduceEq, Int.reduceLT, Int.reduceLE, Int.reduceToNat, Nat.reduceMul, Nat.reduceAdd, Nat.reduceSub, List.nil_append, List.cons_append, List.getElem?_toArray, List.getElem?_cons_zero, List.getElem?_cons_succ, List.setIfInBounds_toArray, List.set_cons_zero, List.set_cons_succ, Option.map_some, List.not_mem_nil, ←decide_not, c0, e1, e2, d1]
    refine codec_Dec_fail_call (Yld.mono (Dec_fail_spec 3 (by decide) h) ?_)
    rintro u w2 ⟨rfl, T⟩
    simp (disch := (first | omega | decide | (simp only [World.size_alloc, World.size_setCell, World.size_drew, size_sets, List.mem_cons, List.not_mem_nil, or_false, not_false_eq_true] <;> omega) | fail)) only [↓rsCode3_2, rsCode3_1, Option.isNone_some, Option.isNone_none, tick_eq, tickV_eq, ne_eq, Int.reduceAdd, Int.reduceSub, Int.reduceMul, Int.reduceEq, Int.reduceLT, Int.reduceLE, Int.reduceToNat, Nat.reduceMul, Nat.reduceAdd, Nat.reduceSub, List.nil_append, List.cons_append, List.getElem?_toArray, List.getElem?_cons_zero, List.getElem?_cons_succ, List.setIfInBounds_toArray, List.set_cons_zero, List.set_cons_succ, Option.map_some, List.not_mem_nil, ←decide_not, c0, e1, e2, d1]
    exact ⟨nilB _ _, T⟩
  · rw [if_neg hx]
    have d1 : decide (l.length / size < x.toNat) = false := decide_eq_false hx
    have hxi : x.toInt = x.toNat := BitVec.toInt_eq_toNat_of_lt (by have := x.isLt; omega)
    have hmul : x.toNat * size ≤ l.length := by
      have := Nat.div_mul_le_self l.length size
      exact Nat.le_trans (Nat.mul_le_mul_right _ (by omega)) this
    have hmi : (x.toNat : Int) * (size : Int) = ((x.toNat * size : Nat) : Int) := by simp
    have hm0 : (0 : Int) ≤ (x.toNat : Int) * (size : Int) ∧ (x.toNat : Int) * (size : Int) ≤ l.length := by rw [hmi]; omega
    have e3 : ((x.toNat : Int) * (size : Int)).toNat = x.toNat * size := by rw [hmi]; exact Int.toNat_natCast _
    have hcap := h.cap
    simp (disch := (first | omega | decide | (simp only [World.size_alloc, World.size_setCell, World.size_drew, size_sets, List.mem_cons, List.not_mem_nil, or_false, not_false_eq_true] <;> omega) | fail)) only [↓rsCode3_2, rsCode3_1, Option.isNone_some, Option.isNone_none, tick_eq, tickV_eq, ne_eq, Int.reduceAdd, Int.reduceSub, Int.reduceMul, Int.reduceEq, Int.reduceLT, Int.reduceLE, Int.reduceToNat, Nat.reduceMul, Nat.reduceAdd, Nat.reduceSub, List.nil_append, List.cons_append, List.getElem?_toArray, List.getElem?_cons_zero, List.getElem?_cons_succ, List.setIfInBounds_toArray, List.set_cons_zero, List.set_cons_succ, Option.map_some, List.not_mem_nil, ←decide_not, c0, e1, e2, d1, hxi, e3]
    have hrow : RowAt w a (bys (l.take (x.toNat * size))) := by have := h.row.take (x.toNat * size); rwa [← List.map_take] at this
    refine slices_Clone_byte_byte_call (Yld.mono (CloneB_spec (l.take (x.toNat * size)) a (x.toNat * size) c w (by simp; omega) (by simp; omega) hrow h.nil) ?_)
    rintro u w1 ⟨F1, a1, c1, rfl, hc1, hn1, R1, N1⟩
    simp (disch := (first | omega | decide | (simp only [World.size_alloc, World.size_setCell, World.size_drew, size_sets, List.mem_cons, List.not_mem_nil, or_false, not_false_eq_true] <;> omega) | fail)) only [↓rsCode3_2, rsCode3_1, Option.isNone_some, Option.isNone_none, tick_eq, tickV_eq, ne_eq, Int.reduceAdd, Int.reduceSub, Int.reduceMul, Int.reduceEq, Int.reduceLT, Int.reduceLE, Int.reduceToNat, Nat.reduceMul, Nat.reduceAdd, Nat.reduceSub, List.nil_append, List.cons_append, List.getElem?_toArray, List.getElem?_cons_zero, List.getElem?_cons_succ, List.setIfInBounds_toArray, List.set_cons_zero, List.set_cons_succ, Option.map_some, List.not_mem_nil, ←decide_not, c0, e1, e2, d1, hxi, e3]
    refine slices_Clip_byte_byte_call (Gives.to (ClipB_spec hc1) fun w3 F3 => ?_)
    have h3 := (h.ext0 F1).ext0 F3
    have c3 : w3.cell? ⟨g, 0, none⟩ = some (.slice a l.length c) := by rw [h3.blk.cell]; rfl
    have f3 : w3.frozen? ⟨g, 0, none⟩ = false := h3.blk.frozen
    simp (disch := (first | omega | decide | (simp only [World.size_alloc, World.size_setCell, World.size_drew, size_sets, List.mem_cons, List.not_mem_nil, or_false, not_false_eq_true] <;> omega) | fail)) only [↓rsCode3_2, rsCode3_1, Option.isNone_some, Option.isNone_none, tick_eq, tickV_eq, ne_eq, Int.reduceAdd, Int.reduceSub, Int.reduceMul, Int.reduceEq, Int.reduceLT, Int.reduceLE, Int.reduceToNat, Nat.reduceMul, Nat.reduceAdd, Nat.reduceSub, List.nil_append, List.cons_append, List.getElem?_toArray, List.getElem?_cons_zero, List.getElem?_cons_succ, List.setIfInBounds_toArray, List.set_cons_zero, List.set_cons_succ, Option.map_some, List.not_mem_nil, ←decide_not, c0, e1, e2, d1, hxi, e3, c3, f3]
    have hgl : g < w.heap.size := h.blk.lt
    refine ⟨⟨a1, _, rfl, Nat.le_refl _, fun hn => by have := hn1 hn; omega, (R1.ext0 F3).ext (Ext.set (b := g)) (fun b o eb hm => ?_), fun y hy => ⟨(N1 y hy).1, ?_⟩⟩, ?_⟩
    · simp at hm
      subst hm
      have := (N1 _ eb).1
      simp only at this
      omega
    · have := (N1 y hy).2
      have := F3.size
      rw [World.size_setCell]
      omega
    · have hr := h3.row.drop (x.toNat * size) c (by simpa using hcap)
      rw [← List.map_drop] at hr
      have hlen : l.length - x.toNat * size = (l.drop (x.toNat * size)).length := by simp
      rw [hlen]
      have hat : l.drop (x.toNat * size) ≠ [] → ∀ b o, (if c = x.toNat * size then a else a.map (·.add (x.toNat * size))) = some ⟨b, o, none⟩ → b ≠ g := by
        intro hne b o hh
        have hl0 : l ≠ [] := by intro e; rw [e] at hne; simp at hne
        obtain ⟨b0, o0, rfl, _, _⟩ := h.row.get (fun e => hl0 (List.map_eq_nil_iff.1 e))
        split at hh
        · exact h.ne hl0 _ _ hh
        · rw [Option.map_some, addr_add] at hh
          simp at hh
          rw [← hh.1]
          exact h.ne hl0 b0 o0 rfl
      refine ⟨((F1.trans F3).more (by simp)).set' (.inl (by simp)), _, _, h3.blk.set (i := 0), ?_, by simp; omega, fun hn => ?_, hat, by simp; omega, fun he => by rw [h.err he]; simp⟩
      · by_cases hne : l.drop (x.toNat * size) = []
        · rw [hne]; exact RowAt.nil
        · exact hr.ext (Ext.set (b := g)) (fun b o eb hm => hat hne b o eb (by simpa using hm))
      split at hn
      · rename_i hcx
        have := h.nil hn
        omega
      · have hn' : a = none := by cases a with | none => rfl | some a0 => simp at hn
        have := h.nil hn'
        omega
theorem Dec_Raw_spec (h : DecIs w g a c l 0) : Yld Try.prog n_codec_Dec_Raw #[ptr g] w fun u w' => RawR (decRaw l) w w' g u := by
  refine codec_Dec_Raw_of ?_
  unfold codec_Dec_Raw
  refine codec_Dec_Uint_call (Yld.mono (Dec_Uint_spec h) ?_)
  intro u w1 hr
  unfold UintR at hr
  unfold RawR decRaw
  cases hd : decU l with
  | ok p =>
    obtain ⟨x, m⟩ := p
    rw [hd] at hr
    obtain ⟨rfl, E1, a1, c1, h1⟩ := hr
    refine codec_Dec_take_call (Yld.mono (Dec_take_spec x 1 (by decide) h1 (fun hh => absurd rfl hh)) ?_)
    intro u w2 hr2
    simp only
    have hz := E1.size
    unfold takeN at hr2 ⊢
    split at hr2 <;> rename_i hsp
    · split at hsp
      · cases hsp
      · rename_i hlt
        cases hsp
        obtain ⟨⟨a2, c2, e2, q1, q2, q3, q4⟩, T⟩ := hr2
        exact ⟨⟨a2, c2, e2, q1, q2, q3, fun y hy => ⟨Nat.le_trans hz (q4 y hy).1, (q4 y hy).2⟩⟩, E1.trans T.1, T.2⟩
    · split at hsp
      · rename_i hlt
        cases hsp
        obtain ⟨⟨a2, c2, e2, q1, q2, q3, q4⟩, T⟩ := hr2
        exact ⟨⟨a2, c2, e2, q1, q2, q3, fun y hy => ⟨Nat.le_trans hz (q4 y hy).1, (q4 y hy).2⟩⟩, E1.trans T.1, T.2⟩
      · cases hsp
  | error e =>
    rw [hd] at hr
    obtain ⟨rfl, E1, a1, c1, h1⟩ := hr
    refine codec_Dec_take_call (Yld.mono (Dec_take_spec z64 1 (by decide) h1 (fun _ => rfl)) ?_)
    intro u w2 hr2
    simp only
    have hz := E1.size
    have e0 : takeN [] z64 1 = .ok ([], []) := rfl
    rw [e0] at hr2
    obtain ⟨⟨a2, c2, e2, q1, q2, q3, q4⟩, T⟩ := hr2
    exact ⟨⟨a2, c2, e2, q1, q2, q3, fun y hy => ⟨Nat.le_trans hz (q4 y hy).1, (q4 y hy).2⟩⟩, E1.trans T.1, T.2⟩
end
end Go.Proofs.Ytknineilpenbnaa
