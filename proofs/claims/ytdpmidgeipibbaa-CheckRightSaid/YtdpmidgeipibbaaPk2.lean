/- A graph in words, by the document (sq). Words moved; the small example of the statements on words. Words moved, whichever way they lie on each other: the walk. Any calls on words, walked (sq). Names: a text as 32 bytes, and back (sq). What the functions on objects compute, where all is well (sq). What it is for objects to be well (sq). What is wrong in words that should be objects (sq). Looking at words that should be objects: what the program finds (sq). Looking at words that should be objects: all of them (sq). Looking at words that should be objects: each object, and a space (sq). Looking at spaces and images: what the program finds (sq). Looking at images without names (sq). The document's word on whether objects are well (sq). The document's findings in words that should be objects (sq). A Root's name in an image, read by the program and by the document (sq). What the statements on spaces call (sq). A space out of words, or none (sq). The statement on looking at spaces, walked (sq). Looking at any image: what the program finds (sq). A word is its eight bytes; two objects that are written (sq). -/
import Derived.Test.YtdpmidgeipibbaaPk1
import Derived.Test.YtdpmidgeipibbaaEng17
import Derived.Lib.Strings
import Derived.Lib.Bytealg
import Derived.Test.YtdpmidgeipibbaaEng15
section
set_option linter.unusedVariables false
set_option linter.unusedSimpArgs false
set_option maxHeartbeats 4000000
namespace Go.Proofs.Ytdpmidgeipibbaa
open Go.Sh Go.RowKit

def plL (ns : List GN) (R : Nat) (j : Nat) : List Nat := (List.range j).map fun i => 2 + 5 * R + gW (ns.take i)
def hdrW (R at' : Nat) : BitVec 64 := BitVec.ofNat 64 (R + at' * 65536)
def padS (l : List (BitVec 8)) : List (BitVec 8) := l ++ List.replicate (32 - l.length) (BitVec.ofNat 8 0)
def rtW (pl : List Nat) (r : GR) : List (BitVec 64) := wordsV (padS r.s) ++ [ptW pl r.to]
def ndW (pl : List Nat) (x : GN) : List (BitVec 64) := packW x.p.length x.d.length false 0 :: (x.p.map (ptW pl) ++ wordsV x.d)
def encW (ns : List GN) (rs : List GR) : List (BitVec 64) := [BitVec.ofNat 64 1296125772, hdrW rs.length (2 + 5 * rs.length + gW ns)] ++ rs.flatMap (rtW (plL ns rs.length ns.length)) ++ ns.flatMap (ndW (plL ns rs.length ns.length))
theorem padS_len {l : List (BitVec 8)} (h : l.length ≤ 32) : (padS l).length = 32 := by unfold padS; simp; omega
theorem rtW_len {pl : List Nat} {r : GR} (h : r.s.length ≤ 32) : (rtW pl r).length = 5 := by
  unfold rtW
  rw [List.length_append, wordsV_len, padS_len h]
  rfl
theorem ndW_len {pl : List Nat} {x : GN} : (ndW pl x).length = gsz x := by
  unfold ndW gsz
  simp [wordsV_len]
  omega
theorem rts_len {pl : List Nat} {rs : List GR} (h : ∀ r ∈ rs, r.s.length ≤ 32) : (rs.flatMap (rtW pl)).length = 5 * rs.length := by
  induction rs with
  | nil => rfl
  | cons r rs ih =>
    rw [List.flatMap_cons, List.length_append, rtW_len (h r (by simp)), ih fun x hx => h x (by simp [hx]), List.length_cons]
    omega
theorem nds_len {pl : List Nat} {ns : List GN} : (ns.flatMap (ndW pl)).length = gW ns := by
  induction ns with
  | nil => rfl
  | cons x ns ih =>
    rw [List.flatMap_cons, List.length_append, ndW_len, ih]
    simp [gW]
theorem encW_len {ns : List GN} {rs : List GR} (h : ∀ r ∈ rs, r.s.length ≤ 32) : (encW ns rs).length = 2 + 5 * rs.length + gW ns := by
  unfold encW
  rw [List.length_append, List.length_append, rts_len h, nds_len]
  simp
theorem plL_len (ns : List GN) (R j : Nat) : (plL ns R j).length = j := by simp [plL]
theorem plL_le {ns : List GN} {R j : Nat} (hj : j ≤ ns.length) (hR : R ≤ 80) (hn : ns.length ≤ 60) (h : ∀ x ∈ ns, x.p.length ≤ 64 ∧ x.d.length ≤ 1024) : ∀ p ∈ plL ns R j, p ≤ 1000000 := by
  intro p hp
  obtain ⟨i, hi, rfl⟩ := List.mem_map.1 hp
  have := gW_le (ns.take i) fun x hx => h x (List.mem_of_mem_take hx)
  rw [List.length_take] at this
  omega
abbrev rsGrp5_0 := (And.intro @xBox_r (And.intro @loadK_some (And.intro @loadsK_s (And.intro @loadsK_n (And.intro @loadsR_s (And.intro @loadsR_n (And.intro @storesK_s (And.intro @storesK_n (And.intro @xPick_t (And.intro @xPick_f (And.intro @xGuard_tt (And.intro @xGuard_ff (And.intro @xGuard_tf (And.intro @xGuard_ft (And.intro @xGuard_u 
  (And.intro @xNil_r (And.intro @xIf_t (And.intro @xBin_add' (And.intro @xBin_sub' (And.intro @xBin_mul' (And.intro @xBin_quo' (And.intro @xBin_rem' (And.intro @xIf_f (And.intro @xIf_tt (And.intro @xEx0 (And.intro @xEx1 (And.intro @xEx2 (And.intro @xEx3 (And.intro @xBin_eqs (And.intro @xBin_nes (And.intro @xUn_not (And.intro @xu8_add (And.intro @xu8_sub 
  (And.intro @xu8_mul (And.intro @xu8_shl (And.intro @xu8_neq (And.intro @xu8_lss (And.intro @xu8_gtr (And.intro @xu16_add (And.intro @xu16_sub (And.intro @xu16_mul (And.intro @xu16_shl (And.intro @xu16_neq (And.intro @xu16_lss (And.intro @xu16_gtr (And.intro @xu32_add (And.intro @xu32_sub (And.intro @xu32_mul (And.intro @xu32_shl (And.intro @xu32_neq 
  (And.intro @xu32_lss (And.intro @xu32_gtr (And.intro @xu64_add (And.intro @xu64_sub (And.intro @xu64_mul (And.intro @xu64_shl (And.intro @xu64_neq (And.intro @xu64_lss (And.intro @xu64_gtr (And.intro @xi64_lss (And.intro @xi64_gtr (And.intro @xi64_neq (And.intro @xi64_shl (And.intro @xi64_neg (And.intro @xMakeFunc_r (And.intro @xSq_r (And.intro @xPur_s 
  (And.intro @xRd_s (And.intro @xRe_s (And.intro @xDet_s (And.intro @xDet_ld (And.intro @xDet_ld2 (And.intro @xDet_ld3 (And.intro @xDet_ld4 (And.intro @xGuard_tt (And.intro @ld_3 (And.intro @ld_9 (And.intro @ld_31 (And.intro @ld_32 (And.intro @ld_34 (And.intro @ld_66 (And.intro @ld_70 (And.intro @ld_76 (And.intro @fa_34_0 (And.intro @fa_34_1 (And.intro @fa_76_0 
  (And.intro @fa_76_1 (And.intro @fa_78_0 (And.intro @fa_78_1 (And.intro @al_76 (And.intro @st_76 (And.intro @bd_84_0_1 (And.intro @bd_84_2_3 (And.intro @bd_84 (And.intro @cv_3_69 (And.intro @ia_31 (And.intro @ia_32 (And.intro @ia_66 (And.intro @ln_31 (And.intro @ln_32 (And.intro @ln_66 (And.intro @ln_70 (And.intro @ln_9 (And.intro @bs_28_0 (And.intro @bs_28_1 (And.intro @bs_28_2 
  (And.intro @bs_28_3 (And.intro @bs_66_0 @bs_66_1))))))))))))))))))))))))))))))))))))))))))))))))))))))))))))))))))))))))))))))))))))))))))))))))))))))))))))
abbrev rsGrp5_1 := (And.intro @setCells_c (And.intro @setCells_n (And.intro @World.setCell_alloc_at (And.intro @World.setCell_alloc_past (And.intro @World.cell?_alloc_at (And.intro @World.cell?_alloc_past (And.intro @World.frozen?_alloc_at (And.intro @World.frozen?_alloc_past 
  (And.intro @World.size_alloc (And.intro @dlt_t (And.intro @dlt_f (And.intro @dle_t (And.intro @dle_f (And.intro @deq_t (And.intro @deq_f (And.intro @dne_t (And.intro @dne_f (And.intro @not_true_eq_false (And.intro @Bool.false_and (And.intro @Bool.true_and (And.intro @Bool.and_true (And.intro @Bool.and_false (And.intro @wrap_in (And.intro @Int.toNat_natCast 
  (And.intro @Nat.mul_one (And.intro @cells_int (And.intro @cells_bool (And.intro @cells_string (And.intro @cells_slice (And.intro @cells_pointer (And.intro @cells_agg (And.intro @one_int (And.intro @one_bool (And.intro @one_string (And.intro @one_slice (And.intro @one_pointer (And.intro @beq_tt (And.intro @beq_ff (And.intro @beq_tf 
  (And.intro @beq_ft (And.intro @cell_sets_b (And.intro @frozen_sets (And.intro @size_sets (And.intro @World.size_drew (And.intro @Nat.zero_add (And.intro @Nat.add_zero (And.intro @cell_drew (And.intro @frozen_drew (And.intro @cell_set_eq (And.intro @cell_set_o (And.intro @cell_set_b (And.intro @World.frozen?_setCell 
  (And.intro @decide_true (And.intro @decide_false (And.intro @not_false_eq_true (And.intro @Bool.not_true @Bool.not_false))))))))))))))))))))))))))))))))))))))))))))))))))))))))
theorem Encode_spec {w : World} {na ra : Option Addr} {nc rc : Nat} {ns : List GN} {rs : List GR} (h : GIs w na nc ra rc ns rs) (hf : FewG ns rs) :
    Yld Try.prog n_loamref17_Encode #[gV na nc ra rc ns rs] w fun u w' => (∃ e : Int, e ≠ 0 ∧ u = .tuple #[.slice none 0 0, i64 e] ∧ Ext [] w w') ∨ (GoodG ns rs ∧ 2 + 5 * rs.length + gW ns ≤ 8192 ∧ ∃ a c, u = .tuple #[.slice a (encW ns rs).length c, i64 0] ∧ (encW ns rs).length ≤ c ∧ (a = none → c = 0) ∧ RowAt w' a (wrds (encW ns rs)) ∧ Ext [] w w') := by
  have hfn := hf.n
  have hfr := hf.r
  refine loamref17_Encode_of ?_
  unfold loamref17_Encode
  simp (disch := (first | omega | decide | (simp only [World.size_alloc, World.size_setCell, World.size_drew, size_sets, List.mem_cons, List.not_mem_nil, or_false, not_false_eq_true] <;> omega) | fail)) only [↓rsGrp5_0, rsGrp5_1, Option.isNone_some, Option.isNone_none, tick_eq, tickV_eq, ne_eq, Int.reduceAdd, Int.reduceSub, Int.reduceMul, Int.reduceEq, Int.reduceLT, Int.reduceLE, Int.reduceToNat, Nat.reduceMul, Nat.reduceAdd, Nat.reduceSub, List.nil_append, List.cons_append, List.getElem?_toArray, List.getElem?_cons_zero, List.getElem?_cons_succ, List.setIfInBounds_toArray, List.set_cons_zero, List.set_cons_succ, Option.map_some, List.not_mem_nil, ←decide_not, eq_self]
  have B : Blk (w.alloc (.cells #[.slice na ns.length nc, .slice ra rs.length rc] 34)) w.heap.size 34 [.slice na ns.length nc, .slice ra rs.length rc] := Blk.at rfl
  have X : Ext [] w (w.alloc (.cells #[.slice na ns.length nc, .slice ra rs.length rc] 34)) := Ext.alloc _ _ _
  have hy := h.ext0 X
  generalize w.heap.size = hb at *
  generalize w.alloc (.cells #[.slice na ns.length nc, .slice ra rs.length rc] 34) = y at *
  refine loamref17_Check_call (Yld.mono (GCheck_spec hy hf) ?_)
  rintro u w1 ⟨⟨e, rfl, he⟩, F1⟩
  by_cases hz : e = 0
  rotate_left
  · simp (disch := (first | omega | decide | (simp only [World.size_alloc, World.size_setCell, World.size_drew, size_sets, List.mem_cons, List.not_mem_nil, or_false, not_false_eq_true] <;> omega) | fail)) only [↓rsGrp5_0, rsGrp5_1, Option.isNone_some, Option.isNone_none, tick_eq, tickV_eq, ne_eq, Int.reduceAdd, Int.reduceSub, Int.reduceMul, Int.reduceEq, Int.reduceLT, Int.reduceLE, Int.reduceToNat, Nat.reduceMul, Nat.reduceAdd, Nat.reduceSub, List.nil_append, List.cons_append, List.getElem?_toArray, List.getElem?_cons_zero, List.getElem?_cons_succ, List.setIfInBounds_toArray, List.set_cons_zero, List.set_cons_succ, Option.map_some, List.not_mem_nil, ←decide_not, eq_self]
    exact .inl ⟨e, hz, by trivial, X.trans F1⟩
  have hg := he hz
  subst hz
  have k1 := fun i => (B.ext F1 (by simp)).cell (i := i)
  have hgr := hg.r
  have hgx := fun x hx => (hg.x x hx).2
  have hgs := fun r hr => (hg.s r hr).1.2.1
  have hle := gW_le ns hgx
  simp (disch := (first | omega | decide | (simp only [World.size_alloc, World.size_setCell, World.size_drew, size_sets, List.mem_cons, List.not_mem_nil, or_false, not_false_eq_true] <;> omega) | fail)) only [↓rsGrp5_0, rsGrp5_1, Option.isNone_some, Option.isNone_none, tick_eq, tickV_eq, ne_eq, Int.reduceAdd, Int.reduceSub, Int.reduceMul, Int.reduceEq, Int.reduceLT, Int.reduceLE, Int.reduceToNat, Nat.reduceMul, Nat.reduceAdd, Nat.reduceSub, List.nil_append, List.cons_append, List.getElem?_toArray, List.getElem?_cons_zero, List.getElem?_cons_succ, List.setIfInBounds_toArray, List.set_cons_zero, List.set_cons_succ, Option.map_some, List.not_mem_nil, ←decide_not, k1]
  refine loamref17_Need_call (Gives.to (GNeed_spec (hy.ext0 F1) hf hg) fun w2 F2 => ?_)
  by_cases h8 : 8192 < 2 + 5 * rs.length + gW ns
  · simp (disch := (first | omega | decide | (simp only [World.size_alloc, World.size_setCell, World.size_drew, size_sets, List.mem_cons, List.not_mem_nil, or_false, not_false_eq_true] <;> omega) | fail)) only [↓rsGrp5_0, rsGrp5_1, Option.isNone_some, Option.isNone_none, tick_eq, tickV_eq, ne_eq, Int.reduceAdd, Int.reduceSub, Int.reduceMul, Int.reduceEq, Int.reduceLT, Int.reduceLE, Int.reduceToNat, Nat.reduceMul, Nat.reduceAdd, Nat.reduceSub, List.nil_append, List.cons_append, List.getElem?_toArray, List.getElem?_cons_zero, List.getElem?_cons_succ, List.setIfInBounds_toArray, List.set_cons_zero, List.set_cons_succ, Option.map_some, List.not_mem_nil, ←decide_not, k1]
    exact .inl ⟨3, by decide, by trivial, X.trans (F1.trans F2)⟩
  have F12 := F1.trans F2
  have k2 := fun i => (B.ext F12 (by simp)).cell (i := i)
  have e0 : 2 + 5 * (rs.length : Int) = ((2 + 5 * rs.length + gW (ns.take 0) : Nat) : Int) := by simp [gW]
  simp (disch := (first | omega | decide | (simp only [World.size_alloc, World.size_setCell, World.size_drew, size_sets, List.mem_cons, List.not_mem_nil, or_false, not_false_eq_true] <;> omega) | fail)) only [↓rsGrp5_0, rsGrp5_1, Option.isNone_some, Option.isNone_none, tick_eq, tickV_eq, ne_eq, Int.reduceAdd, Int.reduceSub, Int.reduceMul, Int.reduceEq, Int.reduceLT, Int.reduceLE, Int.reduceToNat, Nat.reduceMul, Nat.reduceAdd, Nat.reduceSub, List.nil_append, List.cons_append, List.getElem?_toArray, List.getElem?_cons_zero, List.getElem?_cons_succ, List.setIfInBounds_toArray, List.set_cons_zero, List.set_cons_succ, Option.map_some, List.not_mem_nil, ←decide_not, k1, k2]
  rw [e0]
  refine xLoop_r ns.length (fun j vs w' => ∃ v, vs = [i64 ((2 + 5 * rs.length + gW (ns.take j) : Nat) : Int), v, i64 (j : Int)] ∧ NewI w2 w' v (plL ns rs.length j)) ⟨_, rfl, NewR.nil (Ext.refl _ _)⟩ ?_ ?_
  · rintro j hj u w3 ⟨v, hu, N⟩ nxt hnx
    simp only [List.map_cons, List.map_nil, List.cons.injEq, and_true] at hu
    rw [hu.1, hu.2.1, hu.2.2]
    have k3 := fun i => (B.ext (F12.trans N.1) (by simp)).cell (i := i)
    have hle2 := gW_le (ns.take j) fun x hx => hgx x (List.mem_of_mem_take hx)
    rw [List.length_take] at hle2
    have hsu := gW_take hj
    have hgj := hgx _ (List.getElem_mem hj)
    have hgs2 : gsz ns[j] ≤ 193 := by unfold gsz; omega
    have e1 : ((2 + 5 * rs.length + gW (ns.take j) : Nat) : Int) + (gsz ns[j] : Int) = ((2 + 5 * rs.length + gW (ns.take (j + 1)) : Nat) : Int) := by omega
    have hpl : plL ns rs.length (j + 1) = plL ns rs.length j ++ [2 + 5 * rs.length + gW (ns.take j)] := by unfold plL; rw [List.range_succ, List.map_append]; rfl
    unfold loamref17_Encode_l1
    simp (disch := (first | omega | decide | (simp only [World.size_alloc, World.size_setCell, World.size_drew, size_sets, List.mem_cons, List.not_mem_nil, or_false, not_false_eq_true] <;> omega) | fail)) only [↓rsGrp5_0, rsGrp5_1, Option.isNone_some, Option.isNone_none, tick_eq, tickV_eq, ne_eq, Int.reduceAdd, Int.reduceSub, Int.reduceMul, Int.reduceEq, Int.reduceLT, Int.reduceLE, Int.reduceToNat, Nat.reduceMul, Nat.reduceAdd, Nat.reduceSub, List.nil_append, List.cons_append, List.getElem?_toArray, List.getElem?_cons_zero, List.getElem?_cons_succ, List.setIfInBounds_toArray, List.set_cons_zero, List.set_cons_succ, Option.map_some, List.not_mem_nil, ←decide_not, k1, k2, k3]
    refine appIl N.2.1 rfl (by rw [plL_len]; omega) fun v' w4 O4 T4 => ?_
    have N4 := N.app O4 T4
    have k4 := fun i => (B.ext (F12.trans N4.1) (by simp)).cell (i := i)
    obtain ⟨b1, o1, ha1, z1, c1, c2⟩ := gn_at (hy.ext0 (F12.trans N4.1)).nr hj
    simp (disch := (first | omega | decide | (simp only [World.size_alloc, World.size_setCell, World.size_drew, size_sets, List.mem_cons, List.not_mem_nil, or_false, not_false_eq_true] <;> omega) | fail)) only [↓rsGrp5_0, rsGrp5_1, Option.isNone_some, Option.isNone_none, tick_eq, tickV_eq, ne_eq, Int.reduceAdd, Int.reduceSub, Int.reduceMul, Int.reduceEq, Int.reduceLT, Int.reduceLE, Int.reduceToNat, Nat.reduceMul, Nat.reduceAdd, Nat.reduceSub, List.nil_append, List.cons_append, List.getElem?_toArray, List.getElem?_cons_zero, List.getElem?_cons_succ, List.setIfInBounds_toArray, List.set_cons_zero, List.set_cons_succ, Option.map_some, List.not_mem_nil, ←decide_not, k1, k2, k3, k4, ha1, c1, c2]
    refine loamref17_size_call (Gives.to (gsize_spec ns[j] hgj.1 hgj.2) fun w5 F5 => ?_)
    simp (disch := (first | omega | decide | (simp only [World.size_alloc, World.size_setCell, World.size_drew, size_sets, List.mem_cons, List.not_mem_nil, or_false, not_false_eq_true] <;> omega) | fail)) only [↓rsGrp5_0, rsGrp5_1, Option.isNone_some, Option.isNone_none, tick_eq, tickV_eq, ne_eq, Int.reduceAdd, Int.reduceSub, Int.reduceMul, Int.reduceEq, Int.reduceLT, Int.reduceLE, Int.reduceToNat, Nat.reduceMul, Nat.reduceAdd, Nat.reduceSub, List.nil_append, List.cons_append, List.getElem?_toArray, List.getElem?_cons_zero, List.getElem?_cons_succ, List.setIfInBounds_toArray, List.set_cons_zero, List.set_cons_succ, Option.map_some, List.not_mem_nil, ←decide_not, k1, k2, k3, k4, ha1, c1, c2]
    rw [e1]
    refine hnx _ _ ⟨v', rfl, ?_⟩
    rw [hpl]
    exact N4.ext F5
  rintro u w3 ⟨v, hu, N⟩ nxt
  simp only [List.map_cons, List.map_nil, List.cons.injEq, and_true] at hu
  rw [hu.1, hu.2.1, hu.2.2]
  rw [List.take_length]
  have F3 := F12.trans N.1
  have k3 := fun i => (B.ext F3 (by simp)).cell (i := i)
  obtain ⟨ap, cp, rfl, hcp, _, hnp, hrp, _⟩ := N.2.1.slice
  have hpll := plL_len ns rs.length ns.length
  have hple := plL_le (ns := ns) (R := rs.length) (j := ns.length) (Nat.le_refl _) hfr hfn hgx
  have hen : encW ns rs = [BitVec.ofNat 64 1296125772, hdrW rs.length (2 + 5 * rs.length + gW ns)] ++ rs.flatMap (rtW (plL ns rs.length ns.length)) ++ ns.flatMap (ndW (plL ns rs.length ns.length)) := rfl
  have henl := encW_len (ns := ns) (rs := rs) hgs
  have hrl := rts_len (pl := plL ns rs.length ns.length) hgs
  generalize plL ns rs.length ns.length = pl at *
  generalize hat : 2 + 5 * rs.length + gW ns = at' at *
  have hh1 : BitVec.ofInt 64 (rs.length : Int) + (BitVec.ofInt 64 (at' : Int) <<< (BitVec.ofNat 64 16).toNat) = hdrW rs.length at' := by
    unfold hdrW
    rw [BitVec.ofInt_natCast, BitVec.ofInt_natCast, show (BitVec.ofNat 64 16).toNat = 16 by decide]
    apply BitVec.eq_of_toNat_eq
    rw [BitVec.toNat_add, BitVec.toNat_shiftLeft, BitVec.toNat_ofNat, BitVec.toNat_ofNat, BitVec.toNat_ofNat, Nat.shiftLeft_eq]
    omega
  unfold loamref17_Encode_l1
  simp (disch := (first | omega | decide | (simp only [World.size_alloc, World.size_setCell, World.size_drew, size_sets, List.mem_cons, List.not_mem_nil, or_false, not_false_eq_true] <;> omega) | fail)) only [↓rsGrp5_0, rsGrp5_1, Option.isNone_some, Option.isNone_none, tick_eq, tickV_eq, ne_eq, Int.reduceAdd, Int.reduceSub, Int.reduceMul, Int.reduceEq, Int.reduceLT, Int.reduceLE, Int.reduceToNat, Nat.reduceMul, Nat.reduceAdd, Nat.reduceSub, List.nil_append, List.cons_append, List.getElem?_toArray, List.getElem?_cons_zero, List.getElem?_cons_succ, List.setIfInBounds_toArray, List.set_cons_zero, List.set_cons_succ, Option.map_some, List.not_mem_nil, ←decide_not, k1, k2, k3, hh1]
  have NI : NewU w3 (w3.alloc (.cells #[u64 (BitVec.ofNat 64 1296125772), u64 (hdrW rs.length at')] 69)) (.slice (some ⟨w3.heap.size, 0, none⟩) 2 2) [BitVec.ofNat 64 1296125772, hdrW rs.length at'] :=
    ⟨Ext.alloc _ _ _, Own.lit (cs := [u64 (BitVec.ofNat 64 1296125772), u64 (hdrW rs.length at')]) (m := 2) (by decide) (by rfl), fun z hz => by simp [blk, Value.ownBlock] at hz; omega⟩
  have hHl : [BitVec.ofNat 64 1296125772, hdrW rs.length at'].length = 2 := rfl
  generalize w3.alloc (.cells #[u64 (BitVec.ofNat 64 1296125772), u64 (hdrW rs.length at')] 69) = w4 at *
  generalize [BitVec.ofNat 64 1296125772, hdrW rs.length at'] = H at *
  refine xLoop_r rs.length (fun j vs w' => ∃ v, vs = [v, i64 (j : Int)] ∧ NewU w3 w' v (H ++ (rs.take j).flatMap (rtW pl))) ⟨_, rfl, by simpa using NI⟩ ?_ ?_
  · rintro j hj u v1 ⟨v, hu, N4⟩ nxt hnx
    simp only [List.map_cons, List.map_nil, List.cons.injEq, and_true] at hu
    rw [hu.1, hu.2]
    have F4 := F3.trans N4.1
    have k4 := fun i => (B.ext F4 (by simp)).cell (i := i)
    have k4d := fun i => (B.ext (F4.trans (Ext.drew [] v1)) (by simp)).cell (i := i)
    obtain ⟨b1, o1, ha1, z1, c1, c2⟩ := gr_at (hy.ext0 (F4.trans (Ext.drew [] v1))).rr hj
    have hm := List.getElem_mem hj
    obtain ⟨⟨g1, g2, g3⟩, g4, g5⟩ := hg.s _ hm
    have hsz := strOf_size (l := rs[j].s)
    have hlo : (H ++ (rs.take j).flatMap (rtW pl)).length ≤ 400 := by
      rw [List.length_append, hHl, rts_len (pl := pl) (fun r hr => hgs r (List.mem_of_mem_take hr)), List.length_take]
      omega
    have hsu : H ++ (rs.take (j + 1)).flatMap (rtW pl) = (H ++ (rs.take j).flatMap (rtW pl) ++ wordsV (padS rs[j].s)) ++ [ptW pl rs[j].to] := by
      rw [List.take_add_one, List.getElem?_eq_getElem hj, List.flatMap_append]
      simp [rtW, List.append_assoc]
    generalize H ++ (rs.take j).flatMap (rtW pl) = O0 at *
    generalize hrj : rs[j] = rj at *
    unfold loamref17_Encode_l2
    simp (disch := (first | omega | decide | (simp only [World.size_alloc, World.size_setCell, World.size_drew, size_sets, List.mem_cons, List.not_mem_nil, or_false, not_false_eq_true] <;> omega) | fail)) only [↓rsGrp5_0, rsGrp5_1, Option.isNone_some, Option.isNone_none, tick_eq, tickV_eq, ne_eq, Int.reduceAdd, Int.reduceSub, Int.reduceMul, Int.reduceEq, Int.reduceLT, Int.reduceLE, Int.reduceToNat, Nat.reduceMul, Nat.reduceAdd, Nat.reduceSub, List.nil_append, List.cons_append, List.getElem?_toArray, List.getElem?_cons_zero, List.getElem?_cons_succ, List.setIfInBounds_toArray, List.set_cons_zero, List.set_cons_succ, Option.map_some, List.not_mem_nil, ←decide_not, k1, k2, k3, hh1, k4, k4d, ha1, c1]
    refine xConv_sb (e := 5) (by kernel_rfl) (by kernel_rfl) (by kernel_rfl) fun w5 cap F5d z5 hcap hcell hfrz hx => ?_
    have F5 := (Ext.drew [] v1).trans F5d
    have k5 := fun i => (B.ext (F4.trans F5) (by simp)).cell (i := i)
    obtain ⟨b5, o5, ha5, z5', c5, c6⟩ := gr_at (hy.ext0 (F4.trans F5)).rr hj
    rw [ha1] at ha5
    cases ha5
    rw [hrj] at c5 c6
    have e9 : 32 - ((strOf rj.s).size : Int) = ((32 - rj.s.length : Nat) : Int) := by omega
    have e7 : rj.s.length + (32 - rj.s.length) = (padS rj.s).length := by unfold padS; simp
    have hg32 := padS_len g2
    simp (disch := (first | omega | decide | (simp only [World.size_alloc, World.size_setCell, World.size_drew, size_sets, List.mem_cons, List.not_mem_nil, or_false, not_false_eq_true] <;> omega) | fail)) only [↓rsGrp5_0, rsGrp5_1, Option.isNone_some, Option.isNone_none, tick_eq, tickV_eq, ne_eq, Int.reduceAdd, Int.reduceSub, Int.reduceMul, Int.reduceEq, Int.reduceLT, Int.reduceLE, Int.reduceToNat, Nat.reduceMul, Nat.reduceAdd, Nat.reduceSub, List.nil_append, List.cons_append, List.getElem?_toArray, List.getElem?_cons_zero, List.getElem?_cons_succ, List.setIfInBounds_toArray, List.set_cons_zero, List.set_cons_succ, Option.map_some, List.not_mem_nil, ←decide_not, k1, k2, k3, hh1, k4, k4d, ha1, c1, k5, c5, e9]
    refine xAppZ (e := 5) (bytes := 1) (z := .int .u8 0) (zc := .int .u8 0) (xs := bys rj.s) (by kernel_rfl) (by kernel_rfl) (by kernel_rfl) (by rfl) (by rfl) (by decide) (by simp) hcap hcell hfrz hx (by omega) (by omega) fun a6 c6' w6 R6 hc6 hn6 F6 U6 => ?_
    have X6 : Ext [] v1 w6 := F5.new F6 (fun z hz => by simp only [List.mem_singleton, World.size_drew] at hz; omega)
    rw [e7] at hc6 ⊢
    have R6' : RowAt w6 a6 (bys (padS rj.s)) := by
      have : bys rj.s ++ List.replicate (32 - rj.s.length) (Value.int .u8 0) = bys (padS rj.s) := by unfold padS; simp [bys]
      rw [← this]
      exact R6
    simp (disch := (first | omega | decide | (simp only [World.size_alloc, World.size_setCell, World.size_drew, size_sets, List.mem_cons, List.not_mem_nil, or_false, not_false_eq_true] <;> omega) | fail)) only [↓rsGrp5_0, rsGrp5_1, Option.isNone_some, Option.isNone_none, tick_eq, tickV_eq, ne_eq, Int.reduceAdd, Int.reduceSub, Int.reduceMul, Int.reduceEq, Int.reduceLT, Int.reduceLE, Int.reduceToNat, Nat.reduceMul, Nat.reduceAdd, Nat.reduceSub, List.nil_append, List.cons_append, List.getElem?_toArray, List.getElem?_cons_zero, List.getElem?_cons_succ, List.setIfInBounds_toArray, List.set_cons_zero, List.set_cons_succ, Option.map_some, List.not_mem_nil, ←decide_not, k1, k2, k3, hh1, k4, k4d, ha1, c1, k5, c5, e9]
    refine loamref17_words_call (Yld.mono (rwords_spec (padS rj.s) a6 c6' R6' (by omega)) ?_)
    rintro u w7 N7
    obtain ⟨a7, c7, rfl, hc7, _, hn7, hr7, _⟩ := N7.2.1.slice
    have hwl : (wordsV (padS rj.s)).length = 4 := by rw [wordsV_len, hg32]
    have M7 := (N4.ext X6).ext N7.1
    refine appUs M7.2.1 hr7 hn7 hc7 (by omega) fun v8 w8 O8 T8 => ?_
    have N8 := M7.app O8 T8
    have F8 := F3.trans N8.1
    have k8 := fun i => (B.ext F8 (by simp)).cell (i := i)
    obtain ⟨b8, o8, ha8, z8, c8, c9⟩ := gr_at (hy.ext0 F8).rr hj
    rw [ha1] at ha8
    cases ha8
    rw [hrj] at c8 c9
    simp (disch := (first | omega | decide | (simp only [World.size_alloc, World.size_setCell, World.size_drew, size_sets, List.mem_cons, List.not_mem_nil, or_false, not_false_eq_true] <;> omega) | fail)) only [↓rsGrp5_0, rsGrp5_1, Option.isNone_some, Option.isNone_none, tick_eq, tickV_eq, ne_eq, Int.reduceAdd, Int.reduceSub, Int.reduceMul, Int.reduceEq, Int.reduceLT, Int.reduceLE, Int.reduceToNat, Nat.reduceMul, Nat.reduceAdd, Nat.reduceSub, List.nil_append, List.cons_append, List.getElem?_toArray, List.getElem?_cons_zero, List.getElem?_cons_succ, List.setIfInBounds_toArray, List.set_cons_zero, List.set_cons_succ, Option.map_some, List.not_mem_nil, ←decide_not, k1, k2, k3, hh1, k4, k4d, ha1, c1, k5, c5, e9, k8, c9]
    refine loamref17_point_call (Gives.to (point_spec pl ap cp rj.to (hrp.ext0 N8.1) g4 (by rw [hpll]; exact g5) (by omega) hple) fun w9 F9 => ?_)
    have N9 := N8.ext F9
    simp (disch := (first | omega | decide | (simp only [World.size_alloc, World.size_setCell, World.size_drew, size_sets, List.mem_cons, List.not_mem_nil, or_false, not_false_eq_true] <;> omega) | fail)) only [↓rsGrp5_0, rsGrp5_1, Option.isNone_some, Option.isNone_none, tick_eq, tickV_eq, ne_eq, Int.reduceAdd, Int.reduceSub, Int.reduceMul, Int.reduceEq, Int.reduceLT, Int.reduceLE, Int.reduceToNat, Nat.reduceMul, Nat.reduceAdd, Nat.reduceSub, List.nil_append, List.cons_append, List.getElem?_toArray, List.getElem?_cons_zero, List.getElem?_cons_succ, List.setIfInBounds_toArray, List.set_cons_zero, List.set_cons_succ, Option.map_some, List.not_mem_nil, ←decide_not, k1, k2, k3, hh1, k4, k4d, ha1, c1, k5, c5, e9, k8, c9]
    refine appU' N9.2.1 rfl (by rw [List.length_append]; omega) fun v10 w10 O10 T10 => ?_
    simp (disch := (first | omega | decide | (simp only [World.size_alloc, World.size_setCell, World.size_drew, size_sets, List.mem_cons, List.not_mem_nil, or_false, not_false_eq_true] <;> omega) | fail)) only [↓rsGrp5_0, rsGrp5_1, Option.isNone_some, Option.isNone_none, tick_eq, tickV_eq, ne_eq, Int.reduceAdd, Int.reduceSub, Int.reduceMul, Int.reduceEq, Int.reduceLT, Int.reduceLE, Int.reduceToNat, Nat.reduceMul, Nat.reduceAdd, Nat.reduceSub, List.nil_append, List.cons_append, List.getElem?_toArray, List.getElem?_cons_zero, List.getElem?_cons_succ, List.setIfInBounds_toArray, List.set_cons_zero, List.set_cons_succ, Option.map_some, List.not_mem_nil, ←decide_not, k1, k2, k3, hh1, k4, k4d, ha1, c1, k5, c5, e9, k8, c9]
    refine hnx _ _ ⟨v10, rfl, ?_⟩
    rw [hsu]
    exact N9.app O10 T10
  rintro u v1 ⟨v, hu, N4⟩ nxt
  simp only [List.map_cons, List.map_nil, List.cons.injEq, and_true] at hu
  rw [hu.1, hu.2]
  rw [List.take_length] at N4
  have hlH : (H ++ rs.flatMap (rtW pl)).length ≤ 400 := by rw [List.length_append, hHl, hrl]; omega
  generalize H ++ rs.flatMap (rtW pl) = H2 at *
  have k4 := fun i => (B.ext (F3.trans N4.1) (by simp)).cell (i := i)
  unfold loamref17_Encode_l2
  simp (disch := (first | omega | decide | (simp only [World.size_alloc, World.size_setCell, World.size_drew, size_sets, List.mem_cons, List.not_mem_nil, or_false, not_false_eq_true] <;> omega) | fail)) only [↓rsGrp5_0, rsGrp5_1, Option.isNone_some, Option.isNone_none, tick_eq, tickV_eq, ne_eq, Int.reduceAdd, Int.reduceSub, Int.reduceMul, Int.reduceEq, Int.reduceLT, Int.reduceLE, Int.reduceToNat, Nat.reduceMul, Nat.reduceAdd, Nat.reduceSub, List.nil_append, List.cons_append, List.getElem?_toArray, List.getElem?_cons_zero, List.getElem?_cons_succ, List.setIfInBounds_toArray, List.set_cons_zero, List.set_cons_succ, Option.map_some, List.not_mem_nil, ←decide_not, k1, k2, k3, hh1, k4]
  refine xLoop_r ns.length (fun j vs w' => ∃ v, vs = [v, i64 (j : Int)] ∧ NewU w3 w' v (H2 ++ (ns.take j).flatMap (ndW pl))) ⟨_, rfl, by simpa using N4⟩ ?_ ?_
  rotate_left
  · rintro u v2 ⟨v, hu, N5⟩ nxt
    simp only [List.map_cons, List.map_nil, List.cons.injEq, and_true] at hu
    rw [hu.1, hu.2]
    rw [List.take_length] at N5
    have F5 := F3.trans N5.1
    have k5 := fun i => (B.ext F5 (by simp)).cell (i := i)
    obtain ⟨a6, c6, rfl, hc6, _, hn6, hr6, _⟩ := N5.2.1.slice
    unfold loamref17_Encode_l3
    simp (disch := (first | omega | decide | (simp only [World.size_alloc, World.size_setCell, World.size_drew, size_sets, List.mem_cons, List.not_mem_nil, or_false, not_false_eq_true] <;> omega) | fail)) only [↓rsGrp5_0, rsGrp5_1, Option.isNone_some, Option.isNone_none, tick_eq, tickV_eq, ne_eq, Int.reduceAdd, Int.reduceSub, Int.reduceMul, Int.reduceEq, Int.reduceLT, Int.reduceLE, Int.reduceToNat, Nat.reduceMul, Nat.reduceAdd, Nat.reduceSub, List.nil_append, List.cons_append, List.getElem?_toArray, List.getElem?_cons_zero, List.getElem?_cons_succ, List.setIfInBounds_toArray, List.set_cons_zero, List.set_cons_succ, Option.map_some, List.not_mem_nil, ←decide_not, k1, k2, k3, hh1, k4, k5]
    rw [← hen] at hr6 hc6 ⊢
    exact .inr ⟨hg, by omega, a6, c6, by trivial, hc6, hn6, hr6, X.trans F5⟩
  rintro j hj u v2 ⟨v, hu, N5⟩ nxt hnx
  simp only [List.map_cons, List.map_nil, List.cons.injEq, and_true] at hu
  rw [hu.1, hu.2]
  have F5 := F3.trans N5.1
  have k5 := fun i => (B.ext F5 (by simp)).cell (i := i)
  obtain ⟨b1, o1, ha1, z1, c1, c2⟩ := gn_at (hy.ext0 F5).nr hj
  have hm := List.getElem_mem hj
  have hok := (hy.ext0 F5).ok _ hm
  have hgj := hg.x _ hm
  have hlo : (H2 ++ (ns.take j).flatMap (ndW pl)).length ≤ 20000 := by
    have := gW_le (ns.take j) fun x hx => hgx x (List.mem_of_mem_take hx)
    rw [List.length_take] at this
    rw [List.length_append, nds_len]
    omega
  have hsu : H2 ++ (ns.take (j + 1)).flatMap (ndW pl) = (H2 ++ (ns.take j).flatMap (ndW pl)) ++ [packW ns[j].p.length ns[j].d.length false 0] ++ ns[j].p.map (ptW pl) ++ wordsV ns[j].d := by
    rw [List.take_add_one, List.getElem?_eq_getElem hj, List.flatMap_append]
    simp [ndW, List.append_assoc]
  unfold loamref17_Encode_l3
  generalize H2 ++ (ns.take j).flatMap (ndW pl) = O0 at *
  generalize ns[j] = x at *
  simp (disch := (first | omega | decide | (simp only [World.size_alloc, World.size_setCell, World.size_drew, size_sets, List.mem_cons, List.not_mem_nil, or_false, not_false_eq_true] <;> omega) | fail)) only [↓rsGrp5_0, rsGrp5_1, Option.isNone_some, Option.isNone_none, tick_eq, tickV_eq, ne_eq, Int.reduceAdd, Int.reduceSub, Int.reduceMul, Int.reduceEq, Int.reduceLT, Int.reduceLE, Int.reduceToNat, Nat.reduceMul, Nat.reduceAdd, Nat.reduceSub, List.nil_append, List.cons_append, List.getElem?_toArray, List.getElem?_cons_zero, List.getElem?_cons_succ, List.setIfInBounds_toArray, List.set_cons_zero, List.set_cons_succ, Option.map_some, List.not_mem_nil, ←decide_not, k1, k2, k3, hh1, k4, k5, ha1, c1, c2]
  have C : Blk (v2.alloc (.cells #[.slice x.pa x.p.length x.pc, .slice x.da x.d.length x.dc] 76)) v2.heap.size 76 [.slice x.pa x.p.length x.pc, .slice x.da x.d.length x.dc] := Blk.at rfl
  have X1 : Ext [] v2 (v2.alloc (.cells #[.slice x.pa x.p.length x.pc, .slice x.da x.d.length x.dc] 76)) := Ext.alloc _ _ _
  have N6 := N5.ext X1
  have zv5 := N5.2.1.lt
  have hcv : v2.heap.size ∉ blk v := fun hm => by have := zv5 _ hm; omega
  generalize v2.heap.size = hc at *
  generalize v2.alloc (.cells #[.slice x.pa x.p.length x.pc, .slice x.da x.d.length x.dc] 76) = y1 at *
  have hr1 := (right_f (p := (x.p.length : Int)) (b := (x.d.length : Int)) (t := 0)).2 (by omega)
  refine loamref14_Pack_call (Gives.to (rPack_spec _ _ _ _ _) fun w6 F6 => ?_)
  have N7 := N6.ext F6
  have C6 := C.ext F6 (by simp)
  simp (disch := (first | omega | decide | (simp only [World.size_alloc, World.size_setCell, World.size_drew, size_sets, List.mem_cons, List.not_mem_nil, or_false, not_false_eq_true] <;> omega) | fail)) only [↓rsGrp5_0, rsGrp5_1, Option.isNone_some, Option.isNone_none, tick_eq, tickV_eq, ne_eq, Int.reduceAdd, Int.reduceSub, Int.reduceMul, Int.reduceEq, Int.reduceLT, Int.reduceLE, Int.reduceToNat, Nat.reduceMul, Nat.reduceAdd, Nat.reduceSub, List.nil_append, List.cons_append, List.getElem?_toArray, List.getElem?_cons_zero, List.getElem?_cons_succ, List.setIfInBounds_toArray, List.set_cons_zero, List.set_cons_succ, Option.map_some, List.not_mem_nil, ←decide_not, k1, k2, k3, hh1, k4, k5, ha1, c1, c2]
  refine appU' N7.2.1 rfl (by omega) fun v7 w7 O7 T7 => ?_
  have N8 := N7.app O7 T7
  have C7 := C6.ext T7.ext hcv
  have zc6 := C6.lt
  have hcv7 : hc ∉ blk v7 := fun hm => by
    rcases T7.at' _ hm with h1 | h1
    · exact hcv h1
    · omega
  refine xLoop_r x.p.length (fun k vs w' => ∃ v, vs = [v, i64 (k : Int)] ∧ NewU w3 w' v (O0 ++ [packW x.p.length x.d.length false 0] ++ (x.p.take k).map (ptW pl)) ∧ Blk w' hc 76 [.slice x.pa x.p.length x.pc, .slice x.da x.d.length x.dc] ∧ hc ∉ blk v) ⟨v7, rfl, by rw [List.take_zero, List.map_nil, List.append_nil]; exact N8, C7, hcv7⟩ ?_ ?_
  · rintro k hk u v8 ⟨v9, hu, N9, C9, hcv9⟩ nxt2 hnx2
    simp only [List.map_cons, List.map_nil, List.cons.injEq, and_true] at hu
    rw [hu.1, hu.2]
    have k9 := fun i => C9.cell (i := i)
    have hok9 := (hy.ext0 (F3.trans N9.1)).ok x hm
    obtain ⟨b3, o3, ha3, z3, c3⟩ := its_at hok9.pr hk
    have hpk := hgj.1 _ (List.getElem_mem hk)
    have hsk : O0 ++ [packW x.p.length x.d.length false 0] ++ (x.p.take (k + 1)).map (ptW pl) = (O0 ++ [packW x.p.length x.d.length false 0] ++ (x.p.take k).map (ptW pl)) ++ [ptW pl x.p[k]] := by
      rw [List.take_add_one, List.getElem?_eq_getElem hk, List.map_append]
      simp
    have hl9 : (O0 ++ [packW x.p.length x.d.length false 0] ++ (x.p.take k).map (ptW pl)).length ≤ 30000 := by
      simp only [List.length_append, List.length_map, List.length_take, List.length_cons, List.length_nil]
      omega
    generalize O0 ++ [packW x.p.length x.d.length false 0] ++ (x.p.take k).map (ptW pl) = O1 at *
    unfold loamref17_Encode_l4
    simp (disch := (first | omega | decide | (simp only [World.size_alloc, World.size_setCell, World.size_drew, size_sets, List.mem_cons, List.not_mem_nil, or_false, not_false_eq_true] <;> omega) | fail)) only [↓rsGrp5_0, rsGrp5_1, Option.isNone_some, Option.isNone_none, tick_eq, tickV_eq, ne_eq, Int.reduceAdd, Int.reduceSub, Int.reduceMul, Int.reduceEq, Int.reduceLT, Int.reduceLE, Int.reduceToNat, Nat.reduceMul, Nat.reduceAdd, Nat.reduceSub, List.nil_append, List.cons_append, List.getElem?_toArray, List.getElem?_cons_zero, List.getElem?_cons_succ, List.setIfInBounds_toArray, List.set_cons_zero, List.set_cons_succ, Option.map_some, List.not_mem_nil, ←decide_not, k1, k2, k3, hh1, k4, k5, ha1, c1, c2, k9, ha3, c3]
    refine loamref17_point_call (Gives.to (point_spec pl ap cp x.p[k] (hrp.ext0 N9.1) hpk.1 (by rw [hpll]; exact hpk.2) (by omega) hple) fun w10 F10 => ?_)
    have N10 := N9.ext F10
    have C10 := C9.ext F10 (by simp)
    have z10 := C10.lt
    simp (disch := (first | omega | decide | (simp only [World.size_alloc, World.size_setCell, World.size_drew, size_sets, List.mem_cons, List.not_mem_nil, or_false, not_false_eq_true] <;> omega) | fail)) only [↓rsGrp5_0, rsGrp5_1, Option.isNone_some, Option.isNone_none, tick_eq, tickV_eq, ne_eq, Int.reduceAdd, Int.reduceSub, Int.reduceMul, Int.reduceEq, Int.reduceLT, Int.reduceLE, Int.reduceToNat, Nat.reduceMul, Nat.reduceAdd, Nat.reduceSub, List.nil_append, List.cons_append, List.getElem?_toArray, List.getElem?_cons_zero, List.getElem?_cons_succ, List.setIfInBounds_toArray, List.set_cons_zero, List.set_cons_succ, Option.map_some, List.not_mem_nil, ←decide_not, k1, k2, k3, hh1, k4, k5, ha1, c1, c2, k9, ha3, c3]
    refine appU' N10.2.1 rfl (by omega) fun v11 w11 O11 T11 => ?_
    simp (disch := (first | omega | decide | (simp only [World.size_alloc, World.size_setCell, World.size_drew, size_sets, List.mem_cons, List.not_mem_nil, or_false, not_false_eq_true] <;> omega) | fail)) only [↓rsGrp5_0, rsGrp5_1, Option.isNone_some, Option.isNone_none, tick_eq, tickV_eq, ne_eq, Int.reduceAdd, Int.reduceSub, Int.reduceMul, Int.reduceEq, Int.reduceLT, Int.reduceLE, Int.reduceToNat, Nat.reduceMul, Nat.reduceAdd, Nat.reduceSub, List.nil_append, List.cons_append, List.getElem?_toArray, List.getElem?_cons_zero, List.getElem?_cons_succ, List.setIfInBounds_toArray, List.set_cons_zero, List.set_cons_succ, Option.map_some, List.not_mem_nil, ←decide_not, k1, k2, k3, hh1, k4, k5, ha1, c1, c2, k9, ha3, c3]
    refine hnx2 _ _ ⟨v11, rfl, by rw [hsk]; exact N10.app O11 T11, C10.ext T11.ext hcv9, fun hm => ?_⟩
    rcases T11.at' _ hm with h1 | h1
    · exact hcv9 h1
    · omega
  · rintro u v8 ⟨v9, hu, N9, C9, hcv9⟩ nxt2
    simp only [List.map_cons, List.map_nil, List.cons.injEq, and_true] at hu
    rw [hu.1, hu.2]
    rw [List.take_length] at N9
    have k9 := fun i => C9.cell (i := i)
    have hok9 := (hy.ext0 (F3.trans N9.1)).ok x hm
    have hl9 : (O0 ++ [packW x.p.length x.d.length false 0] ++ x.p.map (ptW pl)).length ≤ 30000 := by
      simp only [List.length_append, List.length_map, List.length_cons, List.length_nil]
      omega
    generalize O0 ++ [packW x.p.length x.d.length false 0] ++ x.p.map (ptW pl) = O1 at *
    unfold loamref17_Encode_l4
    simp (disch := (first | omega | decide | (simp only [World.size_alloc, World.size_setCell, World.size_drew, size_sets, List.mem_cons, List.not_mem_nil, or_false, not_false_eq_true] <;> omega) | fail)) only [↓rsGrp5_0, rsGrp5_1, Option.isNone_some, Option.isNone_none, tick_eq, tickV_eq, ne_eq, Int.reduceAdd, Int.reduceSub, Int.reduceMul, Int.reduceEq, Int.reduceLT, Int.reduceLE, Int.reduceToNat, Nat.reduceMul, Nat.reduceAdd, Nat.reduceSub, List.nil_append, List.cons_append, List.getElem?_toArray, List.getElem?_cons_zero, List.getElem?_cons_succ, List.setIfInBounds_toArray, List.set_cons_zero, List.set_cons_succ, Option.map_some, List.not_mem_nil, ←decide_not, k1, k2, k3, hh1, k4, k5, ha1, c1, c2, k9]
    refine loamref17_words_call (Yld.mono (rwords_spec x.d x.da x.dc hok9.dr (by omega)) ?_)
    rintro u w10 N10
    obtain ⟨a7, c7, rfl, hc7, _, hn7, hr7, _⟩ := N10.2.1.slice
    have M10 := N9.ext N10.1
    have hwl := wordsV_len x.d
    refine appUs M10.2.1 hr7 hn7 hc7 (by omega) fun v11 w11 O11 T11 => ?_
    simp (disch := (first | omega | decide | (simp only [World.size_alloc, World.size_setCell, World.size_drew, size_sets, List.mem_cons, List.not_mem_nil, or_false, not_false_eq_true] <;> omega) | fail)) only [↓rsGrp5_0, rsGrp5_1, Option.isNone_some, Option.isNone_none, tick_eq, tickV_eq, ne_eq, Int.reduceAdd, Int.reduceSub, Int.reduceMul, Int.reduceEq, Int.reduceLT, Int.reduceLE, Int.reduceToNat, Nat.reduceMul, Nat.reduceAdd, Nat.reduceSub, List.nil_append, List.cons_append, List.getElem?_toArray, List.getElem?_cons_zero, List.getElem?_cons_succ, List.setIfInBounds_toArray, List.set_cons_zero, List.set_cons_succ, Option.map_some, List.not_mem_nil, ←decide_not, k1, k2, k3, hh1, k4, k5, ha1, c1, c2, k9]
    refine hnx _ _ ⟨v11, rfl, ?_⟩
    rw [hsu]
    exact M10.app O11 T11
end Go.Proofs.Ytdpmidgeipibbaa
end
section
set_option linter.unusedVariables false
set_option linter.unusedSimpArgs false
set_option maxHeartbeats 4000000
namespace Go.Proofs.Ytdpmidgeipibbaa
open Go.Sh Go.RowKit

section
variable {w : World} {base g : Nat} {a : Option Addr} {c : Nat} {ws : List (BitVec 64)}
end
end Go.Proofs.Ytdpmidgeipibbaa
end
section
set_option linter.unusedVariables false
set_option linter.unusedSimpArgs false
set_option maxHeartbeats 4000000
namespace Go.Proofs.Ytdpmidgeipibbaa
open Go.Sh Go.RowKit

theorem RowAt.apart {w0 w w' : World} {a : Option Addr} {cs : List Value} {M : List Nat} (h : RowAt w0 a cs) (h0 : Ext [] w0 w) (hx : Ext M w w') (hm : ∀ g ∈ M, w0.heap.size ≤ g) : RowAt w' a cs := by
  by_cases hc : cs = []
  · rw [hc]; exact RowAt.nil
  · obtain ⟨b, o, rfl, hb, _⟩ := h.get hc
    refine (h.ext0 h0).ext hx fun b' o' e hmem => ?_
    cases e
    have := hm b hmem
    omega
section
variable {w : World} {base g : Nat} {a : Option Addr} {c : Nat} {ws : List (BitVec 64)}
end
end Go.Proofs.Ytdpmidgeipibbaa
end
section
set_option linter.unusedVariables false
set_option linter.unusedSimpArgs false
set_option maxHeartbeats 4000000
namespace Go.Proofs.Ytdpmidgeipibbaa
open Go.Sh Go.RowKit Go.ChangeShapes Go.WideShapes Go.ChangeAt

end Go.Proofs.Ytdpmidgeipibbaa
end
section
set_option linter.unusedVariables false
set_option linter.unusedSimpArgs false
set_option maxHeartbeats 4000000
namespace Go.Proofs.Ytdpmidgeipibbaa
open Go.Sh Go.RowKit

abbrev z8 : BitVec 8 := BitVec.ofNat 8 0
def cutN (l : List (BitVec 8)) : List (BitVec 8) := l.takeWhile fun c => decide (c ≠ z8)
def idxN (l : List (BitVec 8)) : Int := if z8 ∈ l then ((cutN l).length : Int) else -1
theorem cutN_le (l : List (BitVec 8)) : (cutN l).length ≤ l.length := (List.takeWhile_prefix _).length_le
theorem cutN_no (l : List (BitVec 8)) : z8 ∉ cutN l := fun h => by
  have := List.all_takeWhile (p := fun c : BitVec 8 => decide (c ≠ z8)) (l := l)
  have h2 := List.all_eq_true.1 this z8 h
  simp at h2
theorem cutN_take (l : List (BitVec 8)) : l.take (cutN l).length = cutN l := (List.prefix_iff_eq_take.1 (List.takeWhile_prefix _)).symm
theorem cutN_self {l : List (BitVec 8)} (h : z8 ∉ l) : cutN l = l := by
  induction l with
  | nil => rfl
  | cons c l ih =>
    have h1 : c ≠ z8 := fun e => h (e ▸ List.mem_cons_self ..)
    have := ih fun h2 => h (List.mem_cons_of_mem _ h2)
    unfold cutN at this ⊢
    rw [List.takeWhile_cons, if_pos (decide_eq_true h1), this]
theorem idx_lib : ∀ l : List (BitVec 8), Lib.indexByte (l.map UInt8.ofBitVec) 0 = idxN l
  | [] => rfl
  | c :: l => by
    have ih := idx_lib l
    rw [List.map_cons, Lib.indexByte]
    by_cases hc : c = z8
    · subst hc
      rw [if_pos (by decide)]
      unfold idxN cutN
      simp
    · rw [if_neg (by
        intro h
        have h2 : UInt8.ofBitVec c = 0 := eq_of_beq h
        exact hc (congrArg UInt8.toBitVec h2)), ih]
      have hcut : cutN (c :: l) = c :: cutN l := by
        unfold cutN
        rw [List.takeWhile_cons, if_pos (decide_eq_true hc)]
      unfold idxN
      by_cases hm : z8 ∈ l
      · rw [if_pos hm, if_pos (List.mem_cons_of_mem _ hm), hcut, if_neg (by
          intro h
          have h2 : ((cutN l).length : Int) = -1 := eq_of_beq h
          omega)]
        simp
      · have h3 : z8 ∉ c :: l := by
          rintro h
          rcases List.mem_cons.1 h with h | h
          · exact hc h.symm
          · exact hm h
        rw [if_neg hm, if_neg h3]
        rfl
theorem idxN_lt (l : List (BitVec 8)) : idxN l ≤ l.length := by
  have := cutN_le l
  unfold idxN
  split <;> omega
theorem call_ix (l : List (BitVec 8)) {w : World} {K : K1} (h : K (i64 (idxN l)) w) : xCall Try.prog (fnv n_internal_bytealg_IndexByteString) [.string (strOf l), c8 0] w K := by
  refine ⟨?_⟩
  have hr := run_callFunc_extern (P := Try.prog) (f := n_internal_bytealg_IndexByteString) (fn := ((Try.prog).funcs[n_internal_bytealg_IndexByteString]?).get (by kernel_rfl)) (by kernel_rfl) (by kernel_rfl) (by kernel_rfl) (by kernel_rfl) (e := Extern.BytealgIndexByte.indexByte) (by kernel_rfl) #[.string (strOf l), c8 0] w
  have hx := Lib.run_indexByteString (P := Try.prog) (strOf l) 0 w
  have e : Lib.indexByte (strOf l).data.toList ((0 : Int).toNat.toUInt8) = idxN l := by
    rw [← idx_lib]
    simp [strOf]
  rw [e] at hx
  have : ((do let d ← Deferred.ofValue (fnv n_internal_bytealg_IndexByteString) #[.string (strOf l), c8 0]; invoke d.target d.args : Sem Next)).run Try.prog w = .ok (.value (i64 (idxN l))) w := by
    have h3 : ((do let d ← Deferred.ofValue (fnv n_internal_bytealg_IndexByteString) #[.string (strOf l), c8 0]; invoke d.target d.args : Sem Next)).run Try.prog w = (callFunc n_internal_bytealg_IndexByteString #[.string (strOf l), c8 0]).run Try.prog w := by
      simp [Deferred.ofValue, invoke, Sem.run]
    rw [h3, hr]
    have hx2 : (Extern.BytealgIndexByte.indexByte #[.string (strOf l), c8 0]).run Try.prog w = .ok (i64 (idxN l)) w := hx
    rw [hx2]
    rfl
  show okN Try.prog _ K
  rw [show ([.string (strOf l), c8 0] : List Value).toArray = #[.string (strOf l), c8 0] from rfl, this]
  exact h
abbrev rsNm_0 := (And.intro @xBox_r (And.intro @loadK_some (And.intro @loadsK_s (And.intro @loadsK_n (And.intro @loadsR_s (And.intro @loadsR_n (And.intro @storesK_s (And.intro @storesK_n (And.intro @xPick_t (And.intro @xPick_f (And.intro @xGuard_tt (And.intro @xGuard_ff (And.intro @xGuard_tf (And.intro @xGuard_ft (And.intro @xGuard_u 
  (And.intro @xNil_r (And.intro @xIf_t (And.intro @xBin_add' (And.intro @xBin_sub' (And.intro @xBin_mul' (And.intro @xBin_quo' (And.intro @xBin_rem' (And.intro @xIf_f (And.intro @xIf_tt (And.intro @xEx0 (And.intro @xEx1 (And.intro @xEx2 (And.intro @xEx3 (And.intro @xBin_eqs (And.intro @xBin_nes (And.intro @xUn_not (And.intro @xMakeFunc_r (And.intro @xSq_r 
  (And.intro @xPur_s (And.intro @xRd_s (And.intro @xRe_s (And.intro @xDet_s (And.intro @xDet_ld (And.intro @xDet_ld2 (And.intro @xDet_ld3 (And.intro @xDet_ld4 @xGuard_tt)))))))))))))))))))))))))))))))))))))))))
abbrev rsNm_1 := (And.intro @setCells_c (And.intro @setCells_n (And.intro @World.setCell_alloc_at (And.intro @World.setCell_alloc_past (And.intro @World.cell?_alloc_at (And.intro @World.cell?_alloc_past (And.intro @World.frozen?_alloc_at (And.intro @World.frozen?_alloc_past 
  (And.intro @World.size_alloc (And.intro @dlt_t (And.intro @dlt_f (And.intro @dle_t (And.intro @dle_f (And.intro @deq_t (And.intro @deq_f (And.intro @dne_t (And.intro @dne_f (And.intro @not_true_eq_false (And.intro @Bool.false_and (And.intro @Bool.true_and (And.intro @Bool.and_true (And.intro @Bool.and_false (And.intro @wrap_in (And.intro @Int.toNat_natCast 
  (And.intro @Nat.mul_one (And.intro @cells_int (And.intro @cells_bool (And.intro @cells_string (And.intro @cells_slice (And.intro @cells_pointer (And.intro @cells_agg (And.intro @one_int (And.intro @one_bool (And.intro @one_string (And.intro @one_slice (And.intro @one_pointer (And.intro @beq_tt (And.intro @beq_ff (And.intro @beq_tf 
  (And.intro @beq_ft (And.intro @cell_sets_b (And.intro @frozen_sets (And.intro @size_sets (And.intro @World.size_drew (And.intro @Nat.zero_add (And.intro @Nat.add_zero (And.intro @cell_drew (And.intro @frozen_drew (And.intro @cell_set_eq (And.intro @cell_set_o (And.intro @cell_set_b (And.intro @World.frozen?_setCell 
  (And.intro @decide_true (And.intro @decide_false (And.intro @not_false_eq_true (And.intro @Bool.not_true @Bool.not_false))))))))))))))))))))))))))))))))))))))))))))))))))))))))
theorem byIx_spec (l : List (BitVec 8)) (w : World) : Gives Try.prog n_internal_stringslite_IndexByte #[.string (strOf l), c8 0] w (i64 (idxN l)) := by
  refine internal_stringslite_IndexByte_of ?_
  unfold internal_stringslite_IndexByte
  refine call_ix l ?_
  simp (disch := (first | omega | decide | (simp only [World.size_alloc, World.size_setCell, World.size_drew, size_sets, List.mem_cons, List.not_mem_nil, or_false, not_false_eq_true] <;> omega) | fail)) only [↓rsNm_0, rsNm_1, Option.isNone_some, Option.isNone_none, tick_eq, tickV_eq, ne_eq, Int.reduceAdd, Int.reduceSub, Int.reduceMul, Int.reduceEq, Int.reduceLT, Int.reduceLE, Int.reduceToNat, Nat.reduceMul, Nat.reduceAdd, Nat.reduceSub, List.nil_append, List.cons_append, List.getElem?_toArray, List.getElem?_cons_zero, List.getElem?_cons_succ, List.setIfInBounds_toArray, List.set_cons_zero, List.set_cons_succ, Option.map_some, List.not_mem_nil, ←decide_not, eq_self]
  exact ⟨by trivial, by (repeat (first | with_reducible exact Ext.refl _ _ | with_reducible assumption | with_reducible refine Ext.alloc' ?_ _ | with_reducible refine Ext.drew' ?_ | with_reducible refine Ext.set' ?_ ?_ | exact .inr (by first | omega | (simp only [World.size_alloc, World.size_drew, World.size_setCell] <;> omega)) | refine Ext.trans ?_ (by with_reducible assumption)))⟩
theorem strZ : ({ data := #[0] } : ByteArray) = strOf [z8] := by decide +kernel
abbrev rsNm_2 := (And.intro @xBox_r (And.intro @loadK_some (And.intro @loadsK_s (And.intro @loadsK_n (And.intro @loadsR_s (And.intro @loadsR_n (And.intro @storesK_s (And.intro @storesK_n (And.intro @xPick_t (And.intro @xPick_f (And.intro @xGuard_tt (And.intro @xGuard_ff (And.intro @xGuard_tf (And.intro @xGuard_ft (And.intro @xGuard_u 
  (And.intro @xNil_r (And.intro @xIf_t (And.intro @xBin_add' (And.intro @xBin_sub' (And.intro @xBin_mul' (And.intro @xBin_quo' (And.intro @xBin_rem' (And.intro @xIf_f (And.intro @xIf_tt (And.intro @xEx0 (And.intro @xEx1 (And.intro @xEx2 (And.intro @xEx3 (And.intro @xBin_eqs (And.intro @xBin_nes (And.intro @xUn_not (And.intro @xu8_add (And.intro @xu8_sub 
  (And.intro @xu8_eql (And.intro @xu8_leq (And.intro @xu8_geq (And.intro @xu16_add (And.intro @xu16_sub (And.intro @xu16_eql (And.intro @xu16_leq (And.intro @xu16_geq (And.intro @xu32_add (And.intro @xu32_sub (And.intro @xu32_eql (And.intro @xu32_leq (And.intro @xu32_geq (And.intro @xu64_add (And.intro @xu64_sub (And.intro @xu64_eql (And.intro @xu64_leq 
  (And.intro @xu64_geq (And.intro @xi64_leq (And.intro @xi64_geq (And.intro @xi64_eql (And.intro @xMakeFunc_r (And.intro @xSq_r (And.intro @xPur_s (And.intro @xRd_s (And.intro @xRe_s (And.intro @xDet_s (And.intro @xDet_ld (And.intro @xDet_ld2 (And.intro @xDet_ld3 (And.intro @xDet_ld4 (And.intro @xGuard_tt (And.intro @ld_3 @ln_9))))))))))))))))))))))))))))))))))))))))))))))))))))))))))))))))))
theorem sIndex_spec (l : List (BitVec 8)) (w : World) : Gives Try.prog n_internal_stringslite_Index #[.string (strOf l), .string ⟨#[0]⟩] w (i64 (idxN l)) := by
  have hi := idxN_lt l
  have h1 : (strOf [z8]).size = 1 := by decide +kernel
  have hix := fun (w : World) (K : K1) => ixS [z8] (j := 0) (by decide) w K
  have hix2 : ∀ (w : World) (K : K1), xIndex Try.prog 9 (.string (strOf [z8])) (.int .i64 0) w K = K (c8 0) w := hix
  rw [strZ]
  refine internal_stringslite_Index_of ?_
  unfold internal_stringslite_Index
  by_cases hl : strOf [z8] = strOf l
  · have : l = [z8] := (strOf_inj.1 hl).symm
    subst this
    have e : idxN [z8] = 0 := by decide +kernel
    rw [e]
    simp (disch := (first | omega | decide | (simp only [World.size_alloc, World.size_setCell, World.size_drew, size_sets, List.mem_cons, List.not_mem_nil, or_false, not_false_eq_true] <;> omega) | fail)) only [↓rsNm_2, rsNm_1, Option.isNone_some, Option.isNone_none, tick_eq, tickV_eq, ne_eq, Int.reduceAdd, Int.reduceSub, Int.reduceMul, Int.reduceEq, Int.reduceLT, Int.reduceLE, Int.reduceToNat, Nat.reduceMul, Nat.reduceAdd, Nat.reduceSub, List.nil_append, List.cons_append, List.getElem?_toArray, List.getElem?_cons_zero, List.getElem?_cons_succ, List.setIfInBounds_toArray, List.set_cons_zero, List.set_cons_succ, Option.map_some, List.not_mem_nil, ←decide_not, h1]
    exact ⟨by trivial, by (repeat (first | with_reducible exact Ext.refl _ _ | with_reducible assumption | with_reducible refine Ext.alloc' ?_ _ | with_reducible refine Ext.drew' ?_ | with_reducible refine Ext.set' ?_ ?_ | exact .inr (by first | omega | (simp only [World.size_alloc, World.size_drew, World.size_setCell] <;> omega)) | refine Ext.trans ?_ (by with_reducible assumption)))⟩
  · simp (disch := (first | omega | decide | (simp only [World.size_alloc, World.size_setCell, World.size_drew, size_sets, List.mem_cons, List.not_mem_nil, or_false, not_false_eq_true] <;> omega) | fail)) only [↓rsNm_2, rsNm_1, Option.isNone_some, Option.isNone_none, tick_eq, tickV_eq, ne_eq, Int.reduceAdd, Int.reduceSub, Int.reduceMul, Int.reduceEq, Int.reduceLT, Int.reduceLE, Int.reduceToNat, Nat.reduceMul, Nat.reduceAdd, Nat.reduceSub, List.nil_append, List.cons_append, List.getElem?_toArray, List.getElem?_cons_zero, List.getElem?_cons_succ, List.setIfInBounds_toArray, List.set_cons_zero, List.set_cons_succ, Option.map_some, List.not_mem_nil, ←decide_not, h1, decide_eq_false hl, hix2]
    refine internal_stringslite_IndexByte_call (Gives.to (byIx_spec l w) fun w1 F1 => ?_)
    simp (disch := (first | omega | decide | (simp only [World.size_alloc, World.size_setCell, World.size_drew, size_sets, List.mem_cons, List.not_mem_nil, or_false, not_false_eq_true] <;> omega) | fail)) only [↓rsNm_2, rsNm_1, Option.isNone_some, Option.isNone_none, tick_eq, tickV_eq, ne_eq, Int.reduceAdd, Int.reduceSub, Int.reduceMul, Int.reduceEq, Int.reduceLT, Int.reduceLE, Int.reduceToNat, Nat.reduceMul, Nat.reduceAdd, Nat.reduceSub, List.nil_append, List.cons_append, List.getElem?_toArray, List.getElem?_cons_zero, List.getElem?_cons_succ, List.setIfInBounds_toArray, List.set_cons_zero, List.set_cons_succ, Option.map_some, List.not_mem_nil, ←decide_not, h1, decide_eq_false hl, hix2]
    exact ⟨by trivial, F1⟩
theorem Index_spec (l : List (BitVec 8)) (w : World) : Gives Try.prog n_strings_Index #[.string (strOf l), .string ⟨#[0]⟩] w (i64 (idxN l)) := by
  refine strings_Index_of ?_
  unfold strings_Index
  refine internal_stringslite_Index_call (Gives.to (sIndex_spec l w) fun w1 F1 => ?_)
  simp (disch := (first | omega | decide | (simp only [World.size_alloc, World.size_setCell, World.size_drew, size_sets, List.mem_cons, List.not_mem_nil, or_false, not_false_eq_true] <;> omega) | fail)) only [↓rsNm_0, rsNm_1, Option.isNone_some, Option.isNone_none, tick_eq, tickV_eq, ne_eq, Int.reduceAdd, Int.reduceSub, Int.reduceMul, Int.reduceEq, Int.reduceLT, Int.reduceLE, Int.reduceToNat, Nat.reduceMul, Nat.reduceAdd, Nat.reduceSub, List.nil_append, List.cons_append, List.getElem?_toArray, List.getElem?_cons_zero, List.getElem?_cons_succ, List.setIfInBounds_toArray, List.set_cons_zero, List.set_cons_succ, Option.map_some, List.not_mem_nil, ←decide_not, eq_self]
  exact ⟨by trivial, F1⟩
abbrev rsNm_3 := (And.intro @xBox_r (And.intro @loadK_some (And.intro @loadsK_s (And.intro @loadsK_n (And.intro @loadsR_s (And.intro @loadsR_n (And.intro @storesK_s (And.intro @storesK_n (And.intro @xPick_t (And.intro @xPick_f (And.intro @xGuard_tt (And.intro @xGuard_ff (And.intro @xGuard_tf (And.intro @xGuard_ft (And.intro @xGuard_u 
  (And.intro @xNil_r (And.intro @xIf_t (And.intro @xBin_add' (And.intro @xBin_sub' (And.intro @xBin_mul' (And.intro @xBin_quo' (And.intro @xBin_rem' (And.intro @xIf_f (And.intro @xIf_tt (And.intro @xEx0 (And.intro @xEx1 (And.intro @xEx2 (And.intro @xEx3 (And.intro @xBin_eqs (And.intro @xBin_nes (And.intro @xUn_not (And.intro @xu8_geq (And.intro @xu16_geq 
  (And.intro @xu32_geq (And.intro @xu64_geq (And.intro @xi64_geq (And.intro @xMakeFunc_r (And.intro @xSq_r (And.intro @xPur_s (And.intro @xRd_s (And.intro @xRe_s (And.intro @xDet_s (And.intro @xDet_ld (And.intro @xDet_ld2 (And.intro @xDet_ld3 (And.intro @xDet_ld4 @xGuard_tt))))))))))))))))))))))))))))))))))))))))))))))
theorem Contains_spec (l : List (BitVec 8)) (w : World) : Gives Try.prog n_strings_Contains #[.string (strOf l), .string ⟨#[0]⟩] w (.bool (decide (z8 ∈ l))) := by
  refine strings_Contains_of ?_
  unfold strings_Contains
  refine strings_Index_call (Gives.to (Index_spec l w) fun w1 F1 => ?_)
  by_cases h : z8 ∈ l
  · have e : 0 ≤ idxN l := by unfold idxN; rw [if_pos h]; omega
    simp (disch := (first | omega | decide | (simp only [World.size_alloc, World.size_setCell, World.size_drew, size_sets, List.mem_cons, List.not_mem_nil, or_false, not_false_eq_true] <;> omega) | fail)) only [↓rsNm_3, rsNm_1, Option.isNone_some, Option.isNone_none, tick_eq, tickV_eq, ne_eq, Int.reduceAdd, Int.reduceSub, Int.reduceMul, Int.reduceEq, Int.reduceLT, Int.reduceLE, Int.reduceToNat, Nat.reduceMul, Nat.reduceAdd, Nat.reduceSub, List.nil_append, List.cons_append, List.getElem?_toArray, List.getElem?_cons_zero, List.getElem?_cons_succ, List.setIfInBounds_toArray, List.set_cons_zero, List.set_cons_succ, Option.map_some, List.not_mem_nil, ←decide_not, eq_self]
    exact ⟨by rw [decide_eq_true h], F1⟩
  · have e : ¬ 0 ≤ idxN l := by unfold idxN; rw [if_neg h]; decide
    simp (disch := (first | omega | decide | (simp only [World.size_alloc, World.size_setCell, World.size_drew, size_sets, List.mem_cons, List.not_mem_nil, or_false, not_false_eq_true] <;> omega) | fail)) only [↓rsNm_3, rsNm_1, Option.isNone_some, Option.isNone_none, tick_eq, tickV_eq, ne_eq, Int.reduceAdd, Int.reduceSub, Int.reduceMul, Int.reduceEq, Int.reduceLT, Int.reduceLE, Int.reduceToNat, Nat.reduceMul, Nat.reduceAdd, Nat.reduceSub, List.nil_append, List.cons_append, List.getElem?_toArray, List.getElem?_cons_zero, List.getElem?_cons_succ, List.setIfInBounds_toArray, List.set_cons_zero, List.set_cons_succ, Option.map_some, List.not_mem_nil, ←decide_not, eq_self]
    exact ⟨by rw [decide_eq_false h], F1⟩
abbrev rsNm_4 := (And.intro @xBox_r (And.intro @loadK_some (And.intro @loadsK_s (And.intro @loadsK_n (And.intro @loadsR_s (And.intro @loadsR_n (And.intro @storesK_s (And.intro @storesK_n (And.intro @xPick_t (And.intro @xPick_f (And.intro @xGuard_tt (And.intro @xGuard_ff (And.intro @xGuard_tf (And.intro @xGuard_ft (And.intro @xGuard_u 
  (And.intro @xNil_r (And.intro @xIf_t (And.intro @xBin_add' (And.intro @xBin_sub' (And.intro @xBin_mul' (And.intro @xBin_quo' (And.intro @xBin_rem' (And.intro @xIf_f (And.intro @xIf_tt (And.intro @xEx0 (And.intro @xEx1 (And.intro @xEx2 (And.intro @xEx3 (And.intro @xBin_eqs (And.intro @xBin_nes (And.intro @xUn_not (And.intro @xu8_add (And.intro @xu8_geq 
  (And.intro @xu16_add (And.intro @xu16_geq (And.intro @xu32_add (And.intro @xu32_geq (And.intro @xu64_add (And.intro @xu64_geq (And.intro @xi64_geq (And.intro @xMakeFunc_r (And.intro @xSq_r (And.intro @xPur_s (And.intro @xRd_s (And.intro @xRe_s (And.intro @xDet_s (And.intro @xDet_ld (And.intro @xDet_ld2 (And.intro @xDet_ld3 (And.intro @xDet_ld4 
  (And.intro @xGuard_tt @ln_9)))))))))))))))))))))))))))))))))))))))))))))))))))
theorem sCut_spec (l : List (BitVec 8)) (hlen : l.length ≤ 1000000) (w : World) : Yld Try.prog n_internal_stringslite_Cut #[.string (strOf l), .string ⟨#[0]⟩] w fun u w' => (∃ x b, u = .tuple #[.string (strOf (cutN l)), .string x, .bool b]) ∧ Ext [] w w' := by
  refine internal_stringslite_Cut_of ?_
  unfold internal_stringslite_Cut
  refine internal_stringslite_Index_call (Gives.to (sIndex_spec l w) fun w1 F1 => ?_)
  have h1 : ((({ data := #[0] } : ByteArray).size : Nat) : Int) = 1 := by decide +kernel
  have hcl := cutN_le l
  by_cases h : z8 ∈ l
  · have e : idxN l = ((cutN l).length : Int) := by unfold idxN; rw [if_pos h]
    have hlt : (cutN l).length < l.length := by
      rcases Nat.lt_or_ge (cutN l).length l.length with h5 | h5
      · exact h5
      · have h6 : cutN l = l := by
          have := cutN_take l
          rw [List.take_of_length_le (by omega)] at this
          exact this.symm
        have h7 := cutN_no l
        rw [h6] at h7
        exact absurd h h7
    have hsh := fun (w : World) (K : K1) => xSlice_sh (P := Try.prog) (t := 9) (w := w) (K := K) (k := .i64) (l := l) (h := ((cutN l).length : Int)) (by kernel_rfl) (by omega) (by omega)
    have hsl := fun (w : World) (K : K1) => xSlice_sl (P := Try.prog) (t := 9) (w := w) (K := K) (k := .i64) (l := l) (h := ((cutN l).length : Int) + 1) (by kernel_rfl) (by omega) (by omega)
    have ht : l.take (((cutN l).length : Int)).toNat = cutN l := by rw [Int.toNat_natCast]; exact cutN_take l
    rw [ht] at hsh
    rw [e]
    simp (disch := (first | omega | decide | (simp only [World.size_alloc, World.size_setCell, World.size_drew, size_sets, List.mem_cons, List.not_mem_nil, or_false, not_false_eq_true] <;> omega) | fail)) only [↓rsNm_4, rsNm_1, Option.isNone_some, Option.isNone_none, tick_eq, tickV_eq, ne_eq, Int.reduceAdd, Int.reduceSub, Int.reduceMul, Int.reduceEq, Int.reduceLT, Int.reduceLE, Int.reduceToNat, Nat.reduceMul, Nat.reduceAdd, Nat.reduceSub, List.nil_append, List.cons_append, List.getElem?_toArray, List.getElem?_cons_zero, List.getElem?_cons_succ, List.setIfInBounds_toArray, List.set_cons_zero, List.set_cons_succ, Option.map_some, List.not_mem_nil, ←decide_not, hsh, h1, hsl]
    exact ⟨⟨_, _, by trivial⟩, F1.trans (Ext.drew _ _)⟩
  · have e : idxN l = -1 := by unfold idxN; rw [if_neg h]
    have ec : cutN l = l := cutN_self h
    rw [e, ec]
    simp (disch := (first | omega | decide | (simp only [World.size_alloc, World.size_setCell, World.size_drew, size_sets, List.mem_cons, List.not_mem_nil, or_false, not_false_eq_true] <;> omega) | fail)) only [↓rsNm_4, rsNm_1, Option.isNone_some, Option.isNone_none, tick_eq, tickV_eq, ne_eq, Int.reduceAdd, Int.reduceSub, Int.reduceMul, Int.reduceEq, Int.reduceLT, Int.reduceLE, Int.reduceToNat, Nat.reduceMul, Nat.reduceAdd, Nat.reduceSub, List.nil_append, List.cons_append, List.getElem?_toArray, List.getElem?_cons_zero, List.getElem?_cons_succ, List.setIfInBounds_toArray, List.set_cons_zero, List.set_cons_succ, Option.map_some, List.not_mem_nil, ←decide_not, eq_self]
    exact ⟨⟨_, _, by trivial⟩, F1⟩
theorem Cut_spec (l : List (BitVec 8)) (hlen : l.length ≤ 1000000) (w : World) : Yld Try.prog n_strings_Cut #[.string (strOf l), .string ⟨#[0]⟩] w fun u w' => (∃ x b, u = .tuple #[.string (strOf (cutN l)), .string x, .bool b]) ∧ Ext [] w w' := by
  refine strings_Cut_of ?_
  unfold strings_Cut
  refine internal_stringslite_Cut_call (Yld.mono (sCut_spec l hlen w) ?_)
  rintro u w1 ⟨⟨x, b, rfl⟩, F1⟩
  simp (disch := (first | omega | decide | (simp only [World.size_alloc, World.size_setCell, World.size_drew, size_sets, List.mem_cons, List.not_mem_nil, or_false, not_false_eq_true] <;> omega) | fail)) only [↓rsNm_0, rsNm_1, Option.isNone_some, Option.isNone_none, tick_eq, tickV_eq, ne_eq, Int.reduceAdd, Int.reduceSub, Int.reduceMul, Int.reduceEq, Int.reduceLT, Int.reduceLE, Int.reduceToNat, Nat.reduceMul, Nat.reduceAdd, Nat.reduceSub, List.nil_append, List.cons_append, List.getElem?_toArray, List.getElem?_cons_zero, List.getElem?_cons_succ, List.setIfInBounds_toArray, List.set_cons_zero, List.set_cons_succ, Option.map_some, List.not_mem_nil, ←decide_not, eq_self]
  exact ⟨⟨_, _, by trivial⟩, F1⟩
theorem z32 : (#[c8 0, c8 0, c8 0, c8 0, c8 0, c8 0, c8 0, c8 0, c8 0, c8 0, c8 0, c8 0, c8 0, c8 0, c8 0, c8 0, c8 0, c8 0, c8 0, c8 0, c8 0, c8 0, c8 0, c8 0, c8 0, c8 0, c8 0, c8 0, c8 0, c8 0, c8 0, c8 0] : Array Value) = (bys (List.replicate 32 z8)).toArray := rfl
abbrev arV (l : List (BitVec 8)) : Value := .agg (bys l).toArray
theorem String_spec (l : List (BitVec 8)) (hl : l.length = 32) (w : World) : Gives Try.prog n_table_Name_String #[arV l] w (.string (strOf (cutN l))) := by
  refine table_Name_String_of ?_
  unfold table_Name_String
  have hsl := fun (a : Addr) (w : World) (K : K1) => xSlice_arr (P := Try.prog) (t := 157) (n := 32) (a := a) (w := w) (K := K) (by kernel_rfl) (by kernel_rfl) (by kernel_rfl) (by decide)
  have B : Blk (w.alloc (.cells (bys l).toArray 157)) w.heap.size 157 (bys l) := Blk.at rfl
  have hcv := fun (K : K1) => xConv_str (P := Try.prog) (s := 70) (d := 9) (e := 5) (a := some ⟨w.heap.size, 0, none⟩) (n := 32) (c := 32) (K := K) (by kernel_rfl) (by kernel_rfl) (by kernel_rfl) hl.symm B.row
  simp (disch := (first | omega | decide | (simp only [World.size_alloc, World.size_setCell, World.size_drew, size_sets, List.mem_cons, List.not_mem_nil, or_false, not_false_eq_true] <;> omega) | fail)) only [↓rsNm_0, rsNm_1, Option.isNone_some, Option.isNone_none, tick_eq, tickV_eq, ne_eq, Int.reduceAdd, Int.reduceSub, Int.reduceMul, Int.reduceEq, Int.reduceLT, Int.reduceLE, Int.reduceToNat, Nat.reduceMul, Nat.reduceAdd, Nat.reduceSub, List.nil_append, List.cons_append, List.getElem?_toArray, List.getElem?_cons_zero, List.getElem?_cons_succ, List.setIfInBounds_toArray, List.set_cons_zero, List.set_cons_succ, Option.map_some, List.not_mem_nil, ←decide_not, hsl, hcv]
  refine strings_Cut_call (Yld.mono (Cut_spec l (by omega) _) ?_)
  rintro u w1 ⟨⟨x, b, rfl⟩, F1⟩
  simp (disch := (first | omega | decide | (simp only [World.size_alloc, World.size_setCell, World.size_drew, size_sets, List.mem_cons, List.not_mem_nil, or_false, not_false_eq_true] <;> omega) | fail)) only [↓rsNm_0, rsNm_1, Option.isNone_some, Option.isNone_none, tick_eq, tickV_eq, ne_eq, Int.reduceAdd, Int.reduceSub, Int.reduceMul, Int.reduceEq, Int.reduceLT, Int.reduceLE, Int.reduceToNat, Nat.reduceMul, Nat.reduceAdd, Nat.reduceSub, List.nil_append, List.cons_append, List.getElem?_toArray, List.getElem?_cons_zero, List.getElem?_cons_succ, List.setIfInBounds_toArray, List.set_cons_zero, List.set_cons_succ, Option.map_some, List.not_mem_nil, ←decide_not, hsl, hcv]
  exact ⟨by trivial, (Ext.alloc _ _ _).trans F1⟩
def nmOk (l : List (BitVec 8)) : Prop := 1 ≤ l.length ∧ l.length ≤ 32 ∧ z8 ∉ l
instance (l : List (BitVec 8)) : Decidable (nmOk l) := by unfold nmOk; infer_instance
def fixN (l : List (BitVec 8)) : List (BitVec 8) := if nmOk l then l ++ List.replicate (32 - l.length) z8 else List.replicate 32 z8
theorem fixN_len (l : List (BitVec 8)) : (fixN l).length = 32 := by
  unfold fixN
  by_cases h : nmOk l
  · rw [if_pos h, List.length_append, List.length_replicate]
    have := h.2.1
    omega
  · rw [if_neg h, List.length_replicate]
abbrev rsNm_5 := (And.intro @xBox_r (And.intro @loadK_some (And.intro @loadsK_s (And.intro @loadsK_n (And.intro @loadsR_s (And.intro @loadsR_n (And.intro @storesK_s (And.intro @storesK_n (And.intro @xPick_t (And.intro @xPick_f (And.intro @xGuard_tt (And.intro @xGuard_ff (And.intro @xGuard_tf (And.intro @xGuard_ft (And.intro @xGuard_u 
  (And.intro @xNil_r (And.intro @xIf_t (And.intro @xBin_add' (And.intro @xBin_sub' (And.intro @xBin_mul' (And.intro @xBin_quo' (And.intro @xBin_rem' (And.intro @xIf_f (And.intro @xIf_tt (And.intro @xEx0 (And.intro @xEx1 (And.intro @xEx2 (And.intro @xEx3 (And.intro @xBin_eqs (And.intro @xBin_nes (And.intro @xUn_not (And.intro @xu8_lss (And.intro @xu8_gtr 
  (And.intro @xu16_lss (And.intro @xu16_gtr (And.intro @xu32_lss (And.intro @xu32_gtr (And.intro @xu64_lss (And.intro @xu64_gtr (And.intro @xi64_lss (And.intro @xi64_gtr (And.intro @xMakeFunc_r (And.intro @xSq_r (And.intro @xPur_s (And.intro @xRd_s (And.intro @xRe_s (And.intro @xDet_s (And.intro @xDet_ld (And.intro @xDet_ld2 (And.intro @xDet_ld3 
  (And.intro @xDet_ld4 (And.intro @xGuard_tt (And.intro @al_157 (And.intro @bd_157 @ln_9))))))))))))))))))))))))))))))))))))))))))))))))))))))
theorem Fix_spec (l : List (BitVec 8)) (w : World) : Gives Try.prog n_table_Fix #[.string (strOf l)] w (.tuple #[arV (fixN l), i64 (if nmOk l then 0 else 4 : Int)]) := by
  have hs := strOf_size (l := l)
  have hsl := fun (a : Addr) (w : World) (K : K1) => xSlice_arr (P := Try.prog) (t := 157) (n := 32) (a := a) (w := w) (K := K) (by kernel_rfl) (by kernel_rfl) (by kernel_rfl) (by decide)
  refine table_Fix_of ?_
  unfold table_Fix
  have bz : ∀ (y : World) (K : K1), xBuild Try.prog 157 [] y K = K (arV (List.replicate 32 z8)) y := fun y K => xBuild_ok (by kernel_rfl)
  have al : ∀ (y : World) (K : K1), xAlloc Try.prog 157 y K = K (ptr y.heap.size) (y.alloc (.cells (bys (List.replicate 32 z8)).toArray 157)) := fun y K => xAlloc_r (by kernel_rfl)
  rw [al, al]
  have B1 : Blk (w.alloc (.cells (bys (List.replicate 32 z8)).toArray 157)) w.heap.size 157 (bys (List.replicate 32 z8)) := Blk.at rfl
  have X1 : Ext [] w (w.alloc (.cells (bys (List.replicate 32 z8)).toArray 157)) := Ext.alloc _ _ _
  have zw : w.heap.size ≤ w.heap.size := Nat.le_refl _
  generalize w.alloc (.cells (bys (List.replicate 32 z8)).toArray 157) = y1 at *
  generalize hg : w.heap.size = g1 at B1 zw ⊢
  have B2 : Blk (y1.alloc (.cells (bys (List.replicate 32 z8)).toArray 157)) y1.heap.size 157 (bys (List.replicate 32 z8)) := Blk.at rfl
  have X2 : Ext [] y1 (y1.alloc (.cells (bys (List.replicate 32 z8)).toArray 157)) := Ext.alloc _ _ _
  have B12 := B1.ext X2 (by simp)
  have z1 := B1.lt
  generalize y1.alloc (.cells (bys (List.replicate 32 z8)).toArray 157) = y2 at *
  generalize hg2 : y1.heap.size = g2 at *
  have X12 := X1.trans X2
  have lst : ∀ l' : List (BitVec 8), l'.length = 32 → (((Try.prog).info? 157).map (·.size) = some (bys l').length) := fun l' h => by
    rw [List.length_map, h]; kernel_rfl
  have lag : ∀ l' : List (BitVec 8), l'.length = 32 → (aggN Try.prog 157 = some (bys l').length) := fun l' h => by
    rw [List.length_map, h]; kernel_rfl
  have one : ∀ l' : List (BitVec 8), ∀ v ∈ bys l', v.oneCell' = true := fun l' v hv => by
    obtain ⟨c, _, rfl⟩ := List.mem_map.1 hv; rfl
  have bad : ∀ y3 : World, Ext [] y2 y3 → ¬ nmOk l → xStore Try.prog 157 (ptr g1) (arV (List.replicate 32 z8)) y3 (fun _ w' => xLoadR Try.prog 157 (ptr g1) w' fun r0 => Value.tuple #[r0, .int .i64 4] = Value.tuple #[arV (fixN l), i64 (if nmOk l then 0 else 4 : Int)] ∧ Ext [] w w') := by
    intro y3 F3 hn
    have B3 := B12.ext F3 (by simp)
    rw [xStore_arr (lst _ (by simp)) B3 (by simp) (one _)]
    refine xLoadR_arr (lag _ (by simp)) (B3.put (by simp)) ?_
    refine ⟨?_, ?_⟩
    · unfold fixN
      rw [if_neg hn, if_neg hn]
    · exact (X12.trans F3).sets (.inr (by omega))
  by_cases h1 : l.length < 1
  · simp (disch := (first | omega | decide | (simp only [World.size_alloc, World.size_setCell, World.size_drew, size_sets, List.mem_cons, List.not_mem_nil, or_false, not_false_eq_true] <;> omega) | fail)) only [↓rsNm_5, rsNm_1, Option.isNone_some, Option.isNone_none, tick_eq, tickV_eq, ne_eq, Int.reduceAdd, Int.reduceSub, Int.reduceMul, Int.reduceEq, Int.reduceLT, Int.reduceLE, Int.reduceToNat, Nat.reduceMul, Nat.reduceAdd, Nat.reduceSub, List.nil_append, List.cons_append, List.getElem?_toArray, List.getElem?_cons_zero, List.getElem?_cons_succ, List.setIfInBounds_toArray, List.set_cons_zero, List.set_cons_succ, Option.map_some, List.not_mem_nil, ←decide_not, bz]
    exact bad y2 (Ext.refl _ _) (fun h => by have := h.1; omega)
  by_cases h2 : 32 < l.length
  · simp (disch := (first | omega | decide | (simp only [World.size_alloc, World.size_setCell, World.size_drew, size_sets, List.mem_cons, List.not_mem_nil, or_false, not_false_eq_true] <;> omega) | fail)) only [↓rsNm_5, rsNm_1, Option.isNone_some, Option.isNone_none, tick_eq, tickV_eq, ne_eq, Int.reduceAdd, Int.reduceSub, Int.reduceMul, Int.reduceEq, Int.reduceLT, Int.reduceLE, Int.reduceToNat, Nat.reduceMul, Nat.reduceAdd, Nat.reduceSub, List.nil_append, List.cons_append, List.getElem?_toArray, List.getElem?_cons_zero, List.getElem?_cons_succ, List.setIfInBounds_toArray, List.set_cons_zero, List.set_cons_succ, Option.map_some, List.not_mem_nil, ←decide_not, bz]
    exact bad y2 (Ext.refl _ _) (fun h => by have := h.2.1; omega)
  simp (disch := (first | omega | decide | (simp only [World.size_alloc, World.size_setCell, World.size_drew, size_sets, List.mem_cons, List.not_mem_nil, or_false, not_false_eq_true] <;> omega) | fail)) only [↓rsNm_5, rsNm_1, Option.isNone_some, Option.isNone_none, tick_eq, tickV_eq, ne_eq, Int.reduceAdd, Int.reduceSub, Int.reduceMul, Int.reduceEq, Int.reduceLT, Int.reduceLE, Int.reduceToNat, Nat.reduceMul, Nat.reduceAdd, Nat.reduceSub, List.nil_append, List.cons_append, List.getElem?_toArray, List.getElem?_cons_zero, List.getElem?_cons_succ, List.setIfInBounds_toArray, List.set_cons_zero, List.set_cons_succ, Option.map_some, List.not_mem_nil, ←decide_not, eq_self]
  refine strings_Contains_call (Gives.to (Contains_spec l y2) fun y3 F3 => ?_)
  by_cases h3 : z8 ∈ l
  · rw [decide_eq_true h3]
    simp (disch := (first | omega | decide | (simp only [World.size_alloc, World.size_setCell, World.size_drew, size_sets, List.mem_cons, List.not_mem_nil, or_false, not_false_eq_true] <;> omega) | fail)) only [↓rsNm_5, rsNm_1, Option.isNone_some, Option.isNone_none, tick_eq, tickV_eq, ne_eq, Int.reduceAdd, Int.reduceSub, Int.reduceMul, Int.reduceEq, Int.reduceLT, Int.reduceLE, Int.reduceToNat, Nat.reduceMul, Nat.reduceAdd, Nat.reduceSub, List.nil_append, List.cons_append, List.getElem?_toArray, List.getElem?_cons_zero, List.getElem?_cons_succ, List.setIfInBounds_toArray, List.set_cons_zero, List.set_cons_succ, Option.map_some, List.not_mem_nil, ←decide_not, bz]
    exact bad y3 F3 (fun h => h.2.2 h3)
  rw [decide_eq_false h3]
  have B3 := B2.ext F3 (by simp)
  have hcp := fun (K : K1) => xCopy_str (P := Try.prog) (w := y3) (K := K) (t := 70) (e := 5) (t2 := 9) (ty := 3) (c1 := false) (c2 := false) (b := g2) (o := 0) (n := 32) (c := 32) (l := l) (by kernel_rfl) (by kernel_rfl) (by omega) (B3.roomy (by simp; omega) (one l))
  have B4 := B3.sets (l := bys l) (o := 0) (by simp; omega)
  have X4 : Ext [] w (y3.setCells g2 0 (bys l)) := (X12.trans F3).sets (.inr (by omega))
  have B5 := (B12.ext F3 (by simp)).ext (Ext.sets (g := g2) (o := 0) (l := bys l) (Ext.refl [g2] y3) (.inl (by simp))) (by simp only [List.mem_singleton]; omega)
  have hok : nmOk l := ⟨by omega, by omega, h3⟩
  have e4 : (bys (List.replicate 32 z8)).take 0 ++ bys l ++ (bys (List.replicate 32 z8)).drop (0 + (bys l).length) = bys (fixN l) := by
    unfold fixN
    rw [if_pos hok, List.take_zero, List.nil_append, List.length_map, Nat.zero_add]
    show List.map _ l ++ List.drop l.length (List.map _ (List.replicate 32 z8)) = List.map _ (l ++ List.replicate (32 - l.length) z8)
    rw [List.map_replicate, List.drop_replicate, List.map_append, List.map_replicate]
  rw [e4] at B4
  have hld := fun (K : K1) => xLoad_arr (P := Try.prog) (K := K) (lag _ (fixN_len l)) B4
  have hst := fun (K : K1) => xStore_arr (P := Try.prog) (K := K) (lst _ (fixN_len l)) B5 (by simp [fixN_len]) (one _)
  simp (disch := (first | omega | decide | (simp only [World.size_alloc, World.size_setCell, World.size_drew, size_sets, List.mem_cons, List.not_mem_nil, or_false, not_false_eq_true] <;> omega) | fail)) only [↓rsNm_5, rsNm_1, Option.isNone_some, Option.isNone_none, tick_eq, tickV_eq, ne_eq, Int.reduceAdd, Int.reduceSub, Int.reduceMul, Int.reduceEq, Int.reduceLT, Int.reduceLE, Int.reduceToNat, Nat.reduceMul, Nat.reduceAdd, Nat.reduceSub, List.nil_append, List.cons_append, List.getElem?_toArray, List.getElem?_cons_zero, List.getElem?_cons_succ, List.setIfInBounds_toArray, List.set_cons_zero, List.set_cons_succ, Option.map_some, List.not_mem_nil, ←decide_not, hsl, hcp, hld, hst]
  refine xLoadR_arr (lag _ (fixN_len l)) (B5.put (by simp [fixN_len])) ?_
  exact ⟨by rw [if_pos hok], X4.sets (.inr (by omega))⟩
end Go.Proofs.Ytdpmidgeipibbaa
end
section
set_option linter.unusedVariables false
set_option linter.unusedSimpArgs false
set_option maxHeartbeats 4000000
namespace Go.Proofs.Ytdpmidgeipibbaa
open Go.Sh Go.RowKit

def pN (x : BitVec 64) : Nat := (uP x).toNat
def bN (x : BitVec 64) : Nat := (uB x).toNat
theorem okW_v {x : BitVec 64} (h : okW x) : vP x = pN x ∧ vB x = bN x ∧ vM x = false ∧ vT x = 0 ∧ unErr x = 0 ∧ szW x = 1 + pN x + (bN x + 7) / 8 ∧ pN x ≤ 64 ∧ bN x ≤ 1024 := by
  obtain ⟨_, e2, e3, _, _⟩ := okW_size h
  obtain ⟨h1, h2⟩ := h
  have h3 := h1.1
  rw [h2, right_f] at h3
  simp only [vP, vB, vT, if_pos h1, pN, bN]
  exact ⟨by omega, by omega, e3, by omega, e2, rfl, by omega, by omega⟩
/-- an object that ends by the top -/
structure ObjAt (ws : List (BitVec 64)) (b t o : Nat) : Prop where
  lo : b ≤ o
  ok : okW (wat ws o)
  hi : o + szW (wat ws o) ≤ t
theorem ObjAt.lt {ws : List (BitVec 64)} {b t o : Nat} (h : ObjAt ws b t o) : o < t := by
  have := h.hi
  have := szW_pos (x := wat ws o)
  omega
section
variable {w : World} {base s g : Nat} {a : Option Addr} {c : Nat} {ws : List (BitVec 64)} {b t e : Nat}
end
end Go.Proofs.Ytdpmidgeipibbaa
end
section
set_option linter.unusedVariables false
set_option linter.unusedSimpArgs false
set_option maxHeartbeats 4000000
namespace Go.Proofs.Ytdpmidgeipibbaa
open Go.Sh Go.RowKit

def PtrW (ws : List (BitVec 64)) (l : List Nat) (o : Nat) : Prop := ∀ i, i < pN (wat ws o) → (wat ws (o + 1 + i)).toNat = 0 ∨ ((wat ws (o + 1 + i)).toNat ≤ 8192 ∧ 1 ≤ (wat ws (o + 1 + i)).toNat ∧ (wat ws (o + 1 + i)).toNat - 1 ∈ l)
def PadW (ws : List (BitVec 64)) (o : Nat) : Prop := ∀ j, (o + 1 + pN (wat ws o)) * 8 + bN (wat ws o) ≤ j → j < (o + szW (wat ws o)) * 8 → byteW ws j = BitVec.ofNat 8 0
theorem Objs.count {ws : List (BitVec 64)} {t o : Nat} {l : List Nat} (h : Objs ws t o l) : o + l.length ≤ t := by
  induction h with
  | nil => simp
  | @cons o q h1 h2 h3 ih => have := szW_pos (x := wat ws o); simp only [List.length_cons]; omega
def WellP (ws : List (BitVec 64)) (b t : Nat) : Prop := ∃ l, objs ws b t = some l ∧ ∀ o ∈ l, PtrW ws l o ∧ PadW ws o
def WellIs (ws : List (BitVec 64)) (b t : Nat) (v : Int) : Prop := (WellP ws b t ∧ v = 0) ∨ (¬ WellP ws b t ∧ v = 2)
theorem WellIs.eq {ws : List (BitVec 64)} {b t : Nat} {v v' : Int} (h : WellIs ws b t v) (h' : WellIs ws b t v') : v = v' := by
  rcases h with ⟨h1, h2⟩ | ⟨h1, h2⟩ <;> rcases h' with ⟨h3, h4⟩ | ⟨h3, h4⟩
  · rw [h2, h4]
  · exact absurd h1 h3
  · exact absurd h3 h1
  · rw [h2, h4]
theorem WellIs.bad {ws : List (BitVec 64)} {b t o : Nat} {l : List Nat} (h : objs ws b t = some l) (ho : o ∈ l) (hb : ¬ (PtrW ws l o ∧ PadW ws o)) : WellIs ws b t 2 := by
  refine .inr ⟨?_, rfl⟩
  rintro ⟨l', h1, h2⟩
  rw [h] at h1
  cases h1
  exact hb (h2 o ho)
def PtrOk (l : List Nat) (x : Nat) : Prop := x = 0 ∨ (x ≤ 8192 ∧ 1 ≤ x ∧ x - 1 ∈ l)
instance (l : List Nat) (x : Nat) : Decidable (PtrOk l x) := by unfold PtrOk; infer_instance
end Go.Proofs.Ytdpmidgeipibbaa
end
section
set_option linter.unusedVariables false
set_option linter.unusedSimpArgs false
set_option maxHeartbeats 4000000
namespace Go.Proofs.Ytdpmidgeipibbaa
open Go.Sh Go.RowKit

/-- walking over words: places, and where it ends for want of an object -/
inductive Sc (x : Nat → BitVec 64) (t : Nat) : Nat → List Nat → Option Nat → Prop
  | done : Sc x t t [] none
  | bad {o : Nat} : o < t → ¬ (okW (x o) ∧ o + szW (x o) ≤ t) → Sc x t o [] (some o)
  | step {o : Nat} {l : List Nat} {b : Option Nat} : okW (x o) → o + szW (x o) ≤ t → Sc x t (o + szW (x o)) l b → Sc x t o (o :: l) b
theorem Sc.le {x : Nat → BitVec 64} {t o : Nat} {l : List Nat} {b : Option Nat} (h : Sc x t o l b) : o ≤ t := by
  cases h with
  | done => exact Nat.le_refl _
  | bad h1 _ => exact Nat.le_of_lt h1
  | step _ h2 _ => have := szW_pos (x := x o); omega
theorem Sc.ex (x : Nat → BitVec 64) (t : Nat) : ∀ (f o : Nat), t ≤ o + f → o ≤ t → ∃ l b, Sc x t o l b
  | 0, o, h1, h2 => by obtain rfl : o = t := by omega
                       exact ⟨_, _, .done⟩
  | f + 1, o, h1, h2 => by
    by_cases h : o = t
    · subst h; exact ⟨_, _, .done⟩
    · by_cases h3 : okW (x o) ∧ o + szW (x o) ≤ t
      · have := szW_pos (x := x o)
        obtain ⟨l, b, h4⟩ := Sc.ex x t f (o + szW (x o)) (by omega) h3.2
        exact ⟨_, _, .step h3.1 h3.2 h4⟩
      · exact ⟨_, _, .bad (by omega) h3⟩
theorem Sc.congr {x y : Nat → BitVec 64} {t o : Nat} {l : List Nat} {b : Option Nat} (h : Sc x t o l b) (e : ∀ i, o ≤ i → i < t → x i = y i) : Sc y t o l b := by
  induction h with
  | done => exact .done
  | @bad o h1 h2 => rw [e o (Nat.le_refl _) h1] at h2; exact .bad h1 h2
  | @step o l b h1 h2 h3 ih =>
    have hp := szW_pos (x := x o)
    have e1 := e o (Nat.le_refl _) (by omega)
    have ih := ih fun i hi => e i (by omega)
    rw [e1] at h1 h2 ih
    exact .step h1 h2 ih
theorem Sc.uniq {x : Nat → BitVec 64} {t o : Nat} {l l' : List Nat} {b b' : Option Nat} (h : Sc x t o l b) (h' : Sc x t o l' b') : l = l' ∧ b = b' := by
  induction h generalizing l' b' with
  | done =>
    cases h' with
    | done => exact ⟨rfl, rfl⟩
    | bad h1 _ => exact absurd h1 (Nat.lt_irrefl _)
    | step _ h2 _ => have := szW_pos (x := x t); omega
  | @bad o h1 h2 =>
    cases h' with
    | done => exact absurd h1 (Nat.lt_irrefl _)
    | bad _ _ => exact ⟨rfl, rfl⟩
    | step h3 h4 _ => exact absurd ⟨h3, h4⟩ h2
  | @step o l b h1 h2 h3 ih =>
    cases h' with
    | done => have := szW_pos (x := x t); omega
    | bad _ h5 => exact absurd ⟨h1, h2⟩ h5
    | step _ _ h6 => obtain ⟨rfl, rfl⟩ := ih h6; exact ⟨rfl, rfl⟩
theorem Sc.step_inv {x : Nat → BitVec 64} {t o : Nat} {l : List Nat} {b : Option Nat} (h : Sc x t o l b) (h1 : o < t) (h2 : okW (x o)) (h3 : o + szW (x o) ≤ t) : ∃ l', l = o :: l' ∧ Sc x t (o + szW (x o)) l' b := by
  cases h with
  | done => exact absurd h1 (Nat.lt_irrefl _)
  | bad _ h5 => exact absurd ⟨h2, h3⟩ h5
  | step _ _ h6 => exact ⟨_, rfl, h6⟩
theorem Sc.all {x : Nat → BitVec 64} {t o : Nat} {l : List Nat} {b : Option Nat} (h : Sc x t o l b) : l.Pairwise (· < ·) ∧ ∀ p ∈ l, o ≤ p ∧ okW (x p) ∧ p + szW (x p) ≤ t := by
  induction h with
  | done => exact ⟨.nil, by simp⟩
  | bad => exact ⟨.nil, by simp⟩
  | @step o l b h1 h2 h3 ih =>
    have hp := szW_pos (x := x o)
    refine ⟨List.pairwise_cons.2 ⟨fun p hq => ?_, ih.1⟩, fun p hq => ?_⟩
    · have := (ih.2 p hq).1
      omega
    · rcases List.mem_cons.1 hq with rfl | hq
      · exact ⟨Nat.le_refl _, h1, h2⟩
      · have := ih.2 p hq
        exact ⟨by omega, this.2⟩
theorem Sc.count {x : Nat → BitVec 64} {t o : Nat} {l : List Nat} {b : Option Nat} (h : Sc x t o l b) : o + l.length ≤ t := by
  induction h with
  | done => simp
  | bad h1 _ => simp; omega
  | @step o l b h1 h2 h3 ih => have := szW_pos (x := x o); simp only [List.length_cons]; omega
theorem Sc.objs {ws : List (BitVec 64)} {t o : Nat} {l : List Nat} (h : Sc (wat ws) t o l none) : Objs ws t o l := by
  generalize hb : (none : Option Nat) = b at h
  induction h with
  | done => exact .nil
  | bad => cases hb
  | step h1 h2 _ ih => exact .cons h1 h2 (ih hb)
/-! findings -/
abbrev Fnd := Nat × List (BitVec 8)
def sHead : List (BitVec 8) := [104#8, 101#8, 97#8, 100#8]
def sPtr : List (BitVec 8) := [112#8, 116#8, 114#8]
def sPad : List (BitVec 8) := [112#8, 97#8, 100#8]
def padX (x : Nat → BitVec 64) (o : Nat) : Prop := bN (x o) % 8 ≠ 0 ∧ x (o + szW (x o) - 1) >>> (8 * (bN (x o) % 8)) ≠ 0#64
instance (x : Nat → BitVec 64) (o : Nat) : Decidable (padX x o) := by unfold padX; infer_instance
def badF : Option Nat → List Fnd
  | none => []
  | some o => [(o, sHead)]
def ptrF (x : Nat → BitVec 64) (l : List Nat) (o : Nat) : Nat → List Fnd
  | 0 => []
  | k + 1 => ptrF x l o k ++ (if PtrOk l (x (o + 1 + k)).toNat then [] else [(o + 1 + k, sPtr)])
def padF (x : Nat → BitVec 64) (o : Nat) : List Fnd := if padX x o then [(o + szW (x o) - 1, sPad)] else []
def objF (x : Nat → BitVec 64) (l : List Nat) (o : Nat) : List Fnd := ptrF x l o (pN (x o)) ++ padF x o
def allF (x : Nat → BitVec 64) (l : List Nat) (b : Option Nat) : List Fnd := badF b ++ l.flatMap (objF x l)
theorem ptrF_len (x : Nat → BitVec 64) (l : List Nat) (o : Nat) : ∀ k, (ptrF x l o k).length ≤ k
  | 0 => Nat.le_refl _
  | k + 1 => by
    have := ptrF_len x l o k
    rw [ptrF, List.length_append]
    split <;> simp <;> omega
theorem ptrF_nil (x : Nat → BitVec 64) (l : List Nat) (o : Nat) : ∀ k, ptrF x l o k = [] ↔ ∀ i, i < k → PtrOk l (x (o + 1 + i)).toNat
  | 0 => by simp [ptrF]
  | k + 1 => by
    rw [ptrF, List.append_eq_nil_iff, ptrF_nil x l o k]
    constructor
    · rintro ⟨h1, h2⟩ i hi
      by_cases e : i = k
      · subst e
        by_cases h3 : PtrOk l (x (o + 1 + i)).toNat
        · exact h3
        · rw [if_neg h3] at h2; cases h2
      · exact h1 i (by omega)
    · intro h
      exact ⟨fun i hi => h i (by omega), if_pos (h k (by omega))⟩
theorem objF_len (x : Nat → BitVec 64) (l : List Nat) (o : Nat) : (objF x l o).length ≤ pN (x o) + 1 := by
  have := ptrF_len x l o (pN (x o))
  unfold objF padF
  rw [List.length_append]
  split <;> simp <;> omega
theorem szW_ge {y : BitVec 64} : pN y + 1 ≤ szW y := by unfold szW pN; omega
theorem Sc.fnd {x : Nat → BitVec 64} {t o : Nat} {l : List Nat} {b : Option Nat} (h : Sc x t o l b) (l' : List Nat) : ∀ j, ((l.take j).flatMap (objF x l')).length ≤ t - o := by
  induction h with
  | done => simp
  | bad => simp
  | @step o l b h1 h2 h3 ih =>
    intro j
    cases j with
    | zero => simp
    | succ j =>
      have := ih j
      have h4 := objF_len x l' o
      have h5 := szW_ge (y := x o)
      rw [List.take_succ_cons, List.flatMap_cons, List.length_append]
      omega
end Go.Proofs.Ytdpmidgeipibbaa
end
section
set_option linter.unusedVariables false
set_option linter.unusedSimpArgs false
set_option maxHeartbeats 4000000
namespace Go.Proofs.Ytdpmidgeipibbaa
open Go.Sh Go.RowKit

abbrev fC (f : Fnd) : List Value := [i64 (f.1 : Int), .string (strOf f.2)]
abbrev OwnF (w : World) (v : Value) (F : List Fnd) : Prop := Own w 40 2 v F.length (F.flatMap fC)
theorem fC_len (F : List Fnd) : (F.flatMap fC).length = F.length * 2 := by
  induction F with
  | nil => rfl
  | cons f F ih => rw [List.flatMap_cons, List.length_append, ih, List.length_cons]; simp [fC]; omega
theorem appFl {w : World} {K : K1} {v : Value} {F : List Fnd} {f : Fnd} {g : Nat} {cs : List Value} (hO : OwnF w v F) (hcs : cs = fC f) (hl : F.length ≤ 1000000)
    (hK : ∀ v' w', OwnF w' v' (F ++ [f]) → Stp (blk v) (blk v') w w' → K v' w') (hg : g = w.heap.size := by first | rfl | (simp only [World.size_alloc, World.size_drew, World.size_setCell] <;> omega)) : xBuiltin Try.prog .append #[37, 37] 37 [false, false] [v, .slice (some ⟨g, 0, none⟩) 1 1] (w.alloc (.cells cs.toArray 40)) K := by
  subst hcs hg
  refine xAppL (s := 2) (n := F.length) (m := 1) (xs := F.flatMap fC) (news := fC f) (bytes := 24) (z := .agg #[.int .i64 0, .string ⟨#[]⟩]) (by kernel_rfl) (by kernel_rfl) (by rfl) (by decide) hO (by rfl) (by simp [fC, Value.oneCell']) (by omega) (by omega) fun v' w' h1 h2 => hK v' w' ?_ h2
  show Own w' 40 2 v' (F ++ [f]).length ((F ++ [f]).flatMap fC)
  rw [List.length_append, List.flatMap_append]
  simpa using h1
/-- a header, as a map keeps it -/
abbrev hdX (x : Nat → BitVec 64) (p : Nat) : Int × Value := ((p : Int), hd (pN (x p)) (bN (x p)) false 0)
structure WkIs (w0 w : World) (k r : Nat) (v : Value) (a : Option Addr) (c : Nat) (L : List (BitVec 64)) (base : Nat) (l : List Nat) (F : List Fnd) : Prop where
  blk : Blk w k 96 [.slice a L.length c, i64 (base : Int), .map (some r), v]
  map : MapIs w r (l.map (hdX fun p => wat L (p - base)))
  own : OwnF w v F
  kr : k ≠ r
  kv : k ∉ Go.Sh.blk v
  rv : r ∉ Go.Sh.blk v
  up : w0.heap.size ≤ k ∧ w0.heap.size ≤ r ∧ ∀ y ∈ Go.Sh.blk v, w0.heap.size ≤ y
  row : RowAt w a (wrds L)
  ra : ∀ b o, a = some ⟨b, o, none⟩ → L ≠ [] → b < w0.heap.size
  ext : Ext [] w0 w
section
variable {w0 w : World} {k r : Nat} {v : Value} {a : Option Addr} {c : Nat} {L : List (BitVec 64)} {base : Nat} {l : List Nat} {F : List Fnd}
theorem WkIs.ext0 {w' : World} (h : WkIs w0 w k r v a c L base l F) (hx : Ext [] w w') : WkIs w0 w' k r v a c L base l F :=
  ⟨h.blk.ext hx (by simp), h.map.ext0 hx, h.own.ext0 hx, h.kr, h.kv, h.rv, h.up, h.row.ext0 hx, h.ra, h.ext.trans hx⟩
theorem WkIs.rowx {w' : World} {M : List Nat} (h : WkIs w0 w k r v a c L base l F) (hx : Ext M w w') (hM : ∀ y ∈ M, w0.heap.size ≤ y) : RowAt w' a (wrds L) := by
  by_cases hL : L = []
  · subst hL; exact RowAt.nil
  · exact h.row.ext hx fun b o hb hm => by
      have := h.ra b o hb hL
      have := hM b hm
      omega
abbrev rsChk_0 := (And.intro @xBox_r (And.intro @loadK_some (And.intro @loadsK_s (And.intro @loadsK_n (And.intro @loadsR_s (And.intro @loadsR_n (And.intro @storesK_s (And.intro @storesK_n (And.intro @xPick_t (And.intro @xPick_f (And.intro @xGuard_tt (And.intro @xGuard_ff (And.intro @xGuard_tf (And.intro @xGuard_ft (And.intro @xGuard_u 
  (And.intro @xNil_r (And.intro @xIf_t (And.intro @xBin_add' (And.intro @xBin_sub' (And.intro @xBin_mul' (And.intro @xBin_quo' (And.intro @xBin_rem' (And.intro @xIf_f (And.intro @xIf_tt (And.intro @xEx0 (And.intro @xEx1 (And.intro @xEx2 (And.intro @xEx3 (And.intro @xBin_eqs (And.intro @xBin_nes (And.intro @xUn_not (And.intro @xMakeFunc_r (And.intro @xSq_r 
  (And.intro @xPur_s (And.intro @xRd_s (And.intro @xRe_s (And.intro @xDet_s (And.intro @xDet_ld (And.intro @xDet_ld2 (And.intro @xDet_ld3 (And.intro @xDet_ld4 (And.intro @xGuard_tt (And.intro @ld_37 (And.intro @fa_96_3 (And.intro @st_37 (And.intro @bd_40_0_1 @bs_37_1))))))))))))))))))))))))))))))))))))))))))))))
abbrev rsChk_1 := (And.intro @setCells_c (And.intro @setCells_n (And.intro @World.setCell_alloc_at (And.intro @World.setCell_alloc_past (And.intro @World.cell?_alloc_at (And.intro @World.cell?_alloc_past (And.intro @World.frozen?_alloc_at (And.intro @World.frozen?_alloc_past 
  (And.intro @World.size_alloc (And.intro @dlt_t (And.intro @dlt_f (And.intro @dle_t (And.intro @dle_f (And.intro @deq_t (And.intro @deq_f (And.intro @dne_t (And.intro @dne_f (And.intro @not_true_eq_false (And.intro @Bool.false_and (And.intro @Bool.true_and (And.intro @Bool.and_true (And.intro @Bool.and_false (And.intro @wrap_in (And.intro @Int.toNat_natCast 
  (And.intro @Nat.mul_one (And.intro @cells_int (And.intro @cells_bool (And.intro @cells_string (And.intro @cells_slice (And.intro @cells_pointer (And.intro @cells_agg (And.intro @one_int (And.intro @one_bool (And.intro @one_string (And.intro @one_slice (And.intro @one_pointer (And.intro @beq_tt (And.intro @beq_ff (And.intro @beq_tf 
  (And.intro @beq_ft (And.intro @cell_sets_b (And.intro @frozen_sets (And.intro @size_sets (And.intro @World.size_drew (And.intro @Nat.zero_add (And.intro @Nat.add_zero (And.intro @cell_drew (And.intro @frozen_drew (And.intro @cell_set_eq (And.intro @cell_set_o (And.intro @cell_set_b (And.intro @World.frozen?_setCell 
  (And.intro @decide_true (And.intro @decide_false (And.intro @not_false_eq_true (And.intro @Bool.not_true @Bool.not_false))))))))))))))))))))))))))))))))))))))))))))))))))))))))
theorem add_spec {at' : Nat} {s : List (BitVec 8)} (h : WkIs w0 w k r v a c L base l F) (hF : F.length ≤ 1000000) : Yld Try.prog n_check_walk_add #[ptr k, i64 (at' : Int), .string (strOf s)] w fun u w' => ∃ v', WkIs w0 w' k r v' a c L base l (F ++ [(at', s)]) ∧ Stp (k :: Go.Sh.blk v) (k :: Go.Sh.blk v') w w' := by
  have kb := fun i => h.blk.cell (i := i)
  have zk := h.blk.lt
  have zr := h.map.lt
  obtain ⟨a2, c2, hv, _⟩ := h.own.slice
  refine check_walk_add_of ?_
  unfold check_walk_add
  have hv2 := hv
  subst hv2
  simp (disch := (first | omega | decide | (simp only [World.size_alloc, World.size_setCell, World.size_drew, size_sets, List.mem_cons, List.not_mem_nil, or_false, not_false_eq_true] <;> omega) | fail)) only [↓rsChk_0, rsChk_1, Option.isNone_some, Option.isNone_none, tick_eq, tickV_eq, ne_eq, Int.reduceAdd, Int.reduceSub, Int.reduceMul, Int.reduceEq, Int.reduceLT, Int.reduceLE, Int.reduceToNat, Nat.reduceMul, Nat.reduceAdd, Nat.reduceSub, List.nil_append, List.cons_append, List.getElem?_toArray, List.getElem?_cons_zero, List.getElem?_cons_succ, List.setIfInBounds_toArray, List.set_cons_zero, List.set_cons_succ, Option.map_some, List.not_mem_nil, ←decide_not, kb]
  refine appFl h.own (f := (at', s)) rfl hF fun v' w1 O1 F1 => ?_
  have B1 := h.blk.ext F1.ext h.kv
  have k1 := fun i => B1.cell (i := i)
  have f1 := fun i => B1.frozen (i := i)
  obtain ⟨a3, c3, hv3, _⟩ := O1.slice
  have hkv : k ∉ Go.Sh.blk v' := fun hm => by
    rcases F1.at' k hm with h1 | h1
    · exact h.kv h1
    · omega
  have hrv : r ∉ Go.Sh.blk v' := fun hm => by
    rcases F1.at' r hm with h1 | h1
    · exact h.rv h1
    · omega
  have M1 := h.map.ext F1.ext h.rv
  have z1 := F1.ext.size
  have hup : ∀ y ∈ Go.Sh.blk v', w0.heap.size ≤ y := fun y hy => by
    rcases F1.at' y hy with h1 | h1
    · exact h.up.2.2 y h1
    · have := h.ext.size
      omega
  have R1 := h.rowx F1.ext (fun y hy => h.up.2.2 y hy)
  have X1 : Ext [] w0 w1 := h.ext.new F1.ext (fun y hy => h.up.2.2 y hy)
  have G1 := F1.ext
  have T1 := F1.at'
  subst hv3
  simp (disch := (first | omega | decide | (simp only [World.size_alloc, World.size_setCell, World.size_drew, size_sets, List.mem_cons, List.not_mem_nil, or_false, not_false_eq_true] <;> omega) | fail)) only [↓rsChk_0, rsChk_1, Option.isNone_some, Option.isNone_none, tick_eq, tickV_eq, ne_eq, Int.reduceAdd, Int.reduceSub, Int.reduceMul, Int.reduceEq, Int.reduceLT, Int.reduceLE, Int.reduceToNat, Nat.reduceMul, Nat.reduceAdd, Nat.reduceSub, List.nil_append, List.cons_append, List.getElem?_toArray, List.getElem?_cons_zero, List.getElem?_cons_succ, List.setIfInBounds_toArray, List.set_cons_zero, List.set_cons_succ, Option.map_some, List.not_mem_nil, ←decide_not, kb, k1, f1]
  have B2 := B1.set (i := 3) (v := .slice a3 (F ++ [(at', s)]).length c3)
  have X2 : Ext [k] w1 (w1.setCell ⟨k, 3, none⟩ (.slice a3 (F ++ [(at', s)]).length c3)) := Ext.set (w := w1) (b := k)
  refine ⟨_, ⟨B2, M1.ext X2 (by simpa using h.kr.symm), O1.ext X2 (fun y hy hm => by simp only [List.mem_singleton] at hm; subst hm; exact hkv hy), h.kr, hkv, hrv, ⟨h.up.1, h.up.2.1, hup⟩, ?_, h.ra, X1.set' (.inr h.up.1)⟩, ⟨(G1.more (fun y hy => List.mem_cons_of_mem _ hy)).set' (.inl (by simp)), fun y hy => ?_⟩⟩
  · by_cases hL : L = []
    · subst hL; exact RowAt.nil
    · exact R1.ext X2 fun b o hb hm => by
        have := h.ra b o hb hL
        simp only [List.mem_singleton] at hm
        have := h.up.1
        omega
  · rcases List.mem_cons.1 hy with rfl | hy
    · exact .inl (by simp)
    · rcases T1 y hy with h1 | h1
      · exact .inl (List.mem_cons_of_mem _ h1)
      · exact .inr h1
theorem zero_hd (w : World) : (zeroValue 123).run Try.prog w = .ok (hd 0 0 false 0) w := by kernel_rfl
theorem mget_hd {x : Nat → BitVec 64} {l : List Nat} {p : Nat} (hp : p ∈ l) : mget (l.map (hdX x)) (p : Int) = some (hd (pN (x p)) (bN (x p)) false 0) := by
  induction l with
  | nil => cases hp
  | cons q l ih =>
    rw [List.map_cons, mget]
    by_cases e : (q : Int) = p
    · have : q = p := by omega
      subst this
      exact if_pos rfl
    · rw [if_neg e]
      rcases List.mem_cons.1 hp with rfl | h
      · exact absurd rfl e
      · exact ih h
theorem mget_no {x : Nat → BitVec 64} {l : List Nat} {i : Int} (h : ∀ p ∈ l, (p : Int) ≠ i) : mget (l.map (hdX x)) i = none :=
  mget_none fun q hq => by
    obtain ⟨p, hp, rfl⟩ := List.mem_map.1 hq
    exact h p hp
abbrev rsChk_2 := (And.intro @xBox_r (And.intro @loadK_some (And.intro @loadsK_s (And.intro @loadsK_n (And.intro @loadsR_s (And.intro @loadsR_n (And.intro @storesK_s (And.intro @storesK_n (And.intro @xPick_t (And.intro @xPick_f (And.intro @xGuard_tt (And.intro @xGuard_ff (And.intro @xGuard_tf (And.intro @xGuard_ft (And.intro @xGuard_u 
  (And.intro @xNil_r (And.intro @xIf_t (And.intro @xBin_add' (And.intro @xBin_sub' (And.intro @xBin_mul' (And.intro @xBin_quo' (And.intro @xBin_rem' (And.intro @xIf_f (And.intro @xIf_tt (And.intro @xEx0 (And.intro @xEx1 (And.intro @xEx2 (And.intro @xEx3 (And.intro @xBin_eqs (And.intro @xBin_nes (And.intro @xUn_not (And.intro @xu8_add (And.intro @xu8_sub 
  (And.intro @xu8_eql (And.intro @xu8_leq (And.intro @xu16_add (And.intro @xu16_sub (And.intro @xu16_eql (And.intro @xu16_leq (And.intro @xu32_add (And.intro @xu32_sub (And.intro @xu32_eql (And.intro @xu32_leq (And.intro @xu64_add (And.intro @xu64_sub (And.intro @xu64_eql (And.intro @xu64_leq (And.intro @xi64_leq (And.intro @xi64_eql (And.intro @xMakeFunc_r 
  (And.intro @xSq_r (And.intro @xPur_s (And.intro @xRd_s (And.intro @xRe_s (And.intro @xDet_s (And.intro @xDet_ld (And.intro @xDet_ld2 (And.intro @xDet_ld3 (And.intro @xDet_ld4 (And.intro @xGuard_tt (And.intro @ld_3 (And.intro @ld_28 (And.intro @ld_94 (And.intro @fa_96_0 (And.intro @fa_96_1 (And.intro @fa_96_2 (And.intro @al_123 (And.intro @st_123 (And.intro @cv_3_69 
  (And.intro @cv_69_3 @ln_28))))))))))))))))))))))))))))))))))))))))))))))))))))))))))))))))))))))
theorem points_spec (h : WkIs w0 w k r v a c L base l F) (hl : ∀ p ∈ l, p < base + L.length) (hb : base + L.length ≤ 8192) (y : BitVec 64) : Gives Try.prog n_check_walk_points #[ptr k, u64 y] w (.bool (decide (PtrOk l y.toNat))) := by
  have kb := fun i => h.blk.cell (i := i)
  have zk := h.blk.lt
  have hy := y.isLt
  refine check_walk_points_of ?_
  unfold check_walk_points
  by_cases h0 : y.toNat = 0
  · have hx0 : y = BitVec.ofNat 64 0 := BitVec.eq_of_toNat_eq h0
    subst hx0
    simp (disch := (first | omega | decide | (simp only [World.size_alloc, World.size_setCell, World.size_drew, size_sets, List.mem_cons, List.not_mem_nil, or_false, not_false_eq_true] <;> omega) | fail)) only [↓rsChk_2, rsChk_1, Option.isNone_some, Option.isNone_none, tick_eq, tickV_eq, ne_eq, Int.reduceAdd, Int.reduceSub, Int.reduceMul, Int.reduceEq, Int.reduceLT, Int.reduceLE, Int.reduceToNat, Nat.reduceMul, Nat.reduceAdd, Nat.reduceSub, List.nil_append, List.cons_append, List.getElem?_toArray, List.getElem?_cons_zero, List.getElem?_cons_succ, List.setIfInBounds_toArray, List.set_cons_zero, List.set_cons_succ, Option.map_some, List.not_mem_nil, ←decide_not, eq_self]
    exact ⟨by rw [decide_eq_true (.inl rfl)], Ext.refl _ _⟩
  have hne : y ≠ BitVec.ofNat 64 0 := fun h => h0 (by rw [h]; rfl)
  have hs : (y - BitVec.ofNat 64 1).toNat = y.toNat - 1 := by
    rw [BitVec.toNat_sub]
    have : (BitVec.ofNat 64 1).toNat = 1 := by decide
    omega
  have hlk := fun (K : K1) => xLookup_ok (P := Try.prog) (K := K) (t := 94) (kt := 3) (et := 123) (by kernel_rfl) (by kernel_rfl) (zero_hd w) h.map ((y - BitVec.ofNat 64 1).toInt)
  by_cases hp : y.toNat - 1 ∈ l
  · have hlt := hl _ hp
    have hi : (y - BitVec.ofNat 64 1).toInt = ((y.toNat - 1 : Nat) : Int) := by rw [BitVec.toInt_eq_toNat_of_lt (by omega), hs]
    rw [hi, mget_hd hp] at hlk
    have hc : (BitVec.ofInt 64 ((base : Int) + (L.length : Int))).toNat = base + L.length := by
      rw [show (base : Int) + (L.length : Int) = ((base + L.length : Nat) : Int) by omega, BitVec.ofInt_natCast, BitVec.toNat_ofNat]
      omega
    have hle : decide (y.toNat ≤ (BitVec.ofInt 64 ((base : Int) + (L.length : Int))).toNat) = true := decide_eq_true (by omega)
    have hlk2 : ∀ K : K1, xLookup Try.prog 94 (.map (some r)) (i64 ((y.toNat - 1 : Nat) : Int)) true w K = K (.tuple #[hd (pN (wat L (y.toNat - 1 - base))) (bN (wat L (y.toNat - 1 - base))) false 0, .bool true]) w := hlk
    simp (disch := (first | omega | decide | (simp only [World.size_alloc, World.size_setCell, World.size_drew, size_sets, List.mem_cons, List.not_mem_nil, or_false, not_false_eq_true] <;> omega) | fail)) only [↓rsChk_2, rsChk_1, Option.isNone_some, Option.isNone_none, tick_eq, tickV_eq, ne_eq, Int.reduceAdd, Int.reduceSub, Int.reduceMul, Int.reduceEq, Int.reduceLT, Int.reduceLE, Int.reduceToNat, Nat.reduceMul, Nat.reduceAdd, Nat.reduceSub, List.nil_append, List.cons_append, List.getElem?_toArray, List.getElem?_cons_zero, List.getElem?_cons_succ, List.setIfInBounds_toArray, List.set_cons_zero, List.set_cons_succ, Option.map_some, List.not_mem_nil, ←decide_not, kb, decide_eq_false hne, hi, hlk2, hle]
    exact ⟨by rw [decide_eq_true (.inr ⟨by omega, by omega, hp⟩)], (Ext.alloc _ _ _).trans (Ext.drew _ _)⟩
  · have hno : mget (l.map (hdX fun p => wat L (p - base))) ((y - BitVec.ofNat 64 1).toInt) = none := mget_no fun p hpl e => by
      have hpb := hl p hpl
      have h5 : (y - BitVec.ofNat 64 1).toInt = ((y.toNat - 1 : Nat) : Int) := by
        rw [BitVec.toInt_eq_toNat_cond, hs]
        rw [BitVec.toInt_eq_toNat_cond, hs] at e
        split at e
        · rw [if_pos (by assumption)]
        · omega
      rw [h5] at e
      have : p = y.toNat - 1 := by omega
      exact hp (this ▸ hpl)
    have hno2 : ¬ PtrOk l y.toNat := by
      rintro (h1 | ⟨_, _, h1⟩)
      · exact h0 h1
      · exact hp h1
    rw [hno] at hlk
    have hlk2 : ∀ K : K1, xLookup Try.prog 94 (.map (some r)) (i64 ((y - BitVec.ofNat 64 1).toInt)) true w K = K (.tuple #[hd 0 0 false 0, .bool false]) w := hlk
    generalize hti : (y - BitVec.ofNat 64 1).toInt = ti at *
    simp (disch := (first | omega | decide | (simp only [World.size_alloc, World.size_setCell, World.size_drew, size_sets, List.mem_cons, List.not_mem_nil, or_false, not_false_eq_true] <;> omega) | fail)) only [↓rsChk_2, rsChk_1, Option.isNone_some, Option.isNone_none, tick_eq, tickV_eq, ne_eq, Int.reduceAdd, Int.reduceSub, Int.reduceMul, Int.reduceEq, Int.reduceLT, Int.reduceLE, Int.reduceToNat, Nat.reduceMul, Nat.reduceAdd, Nat.reduceSub, List.nil_append, List.cons_append, List.getElem?_toArray, List.getElem?_cons_zero, List.getElem?_cons_succ, List.setIfInBounds_toArray, List.set_cons_zero, List.set_cons_succ, Option.map_some, List.not_mem_nil, ←decide_not, kb, decide_eq_false hne, hti, hlk2]
    exact ⟨by rw [decide_eq_false hno2], (Ext.alloc _ _ _).trans (Ext.drew _ _)⟩
abbrev rsChk_3 := (And.intro @xBox_r (And.intro @loadK_some (And.intro @loadsK_s (And.intro @loadsK_n (And.intro @loadsR_s (And.intro @loadsR_n (And.intro @storesK_s (And.intro @storesK_n (And.intro @xPick_t (And.intro @xPick_f (And.intro @xGuard_tt (And.intro @xGuard_ff (And.intro @xGuard_tf (And.intro @xGuard_ft (And.intro @xGuard_u 
  (And.intro @xNil_r (And.intro @xIf_t (And.intro @xBin_add' (And.intro @xBin_sub' (And.intro @xBin_mul' (And.intro @xBin_quo' (And.intro @xBin_rem' (And.intro @xIf_f (And.intro @xIf_tt (And.intro @xEx0 (And.intro @xEx1 (And.intro @xEx2 (And.intro @xEx3 (And.intro @xBin_eqs (And.intro @xBin_nes (And.intro @xUn_not (And.intro @xu8_mul (And.intro @xu8_rem 
  (And.intro @xu8_shr (And.intro @xu8_neq (And.intro @xu8_gtr (And.intro @xu16_mul (And.intro @xu16_rem (And.intro @xu16_shr (And.intro @xu16_neq (And.intro @xu16_gtr (And.intro @xu32_mul (And.intro @xu32_rem (And.intro @xu32_shr (And.intro @xu32_neq (And.intro @xu32_gtr (And.intro @xu64_mul (And.intro @xu64_rem (And.intro @xu64_shr (And.intro @xu64_neq 
  (And.intro @xu64_gtr (And.intro @xi64_gtr (And.intro @xi64_neq (And.intro @xi64_shr (And.intro @xi64_neg (And.intro @xMakeFunc_r (And.intro @xSq_r (And.intro @xPur_s (And.intro @xRd_s (And.intro @xRe_s (And.intro @xDet_s (And.intro @xDet_ld (And.intro @xDet_ld2 (And.intro @xDet_ld3 (And.intro @xDet_ld4 @xGuard_tt)))))))))))))))))))))))))))))))))))))))))))))))))))))))))))))))))
theorem cpad_spec (x : BitVec 64) (n : Nat) (hn : n ≤ 100000) (w : World) : Gives Try.prog n_check_pad #[u64 x, i64 (n : Int)] w (.bool (decide (n % 8 ≠ 0 ∧ x >>> (8 * (n % 8)) ≠ 0#64))) := by
  refine check_pad_of ?_
  unfold check_pad
  have e1 : (n : Int) % 8 = ((n % 8 : Nat) : Int) := by omega
  have e2 : 8 * ((n % 8 : Nat) : Int) = ((8 * (n % 8) : Nat) : Int) := by omega
  by_cases h0 : n % 8 = 0
  · have e3 : ¬ 0 < (n : Int) % 8 := by omega
    simp (disch := (first | omega | decide | (simp only [World.size_alloc, World.size_setCell, World.size_drew, size_sets, List.mem_cons, List.not_mem_nil, or_false, not_false_eq_true] <;> omega) | fail)) only [↓rsChk_3, rsChk_1, Option.isNone_some, Option.isNone_none, tick_eq, tickV_eq, ne_eq, Int.reduceAdd, Int.reduceSub, Int.reduceMul, Int.reduceEq, Int.reduceLT, Int.reduceLE, Int.reduceToNat, Nat.reduceMul, Nat.reduceAdd, Nat.reduceSub, List.nil_append, List.cons_append, List.getElem?_toArray, List.getElem?_cons_zero, List.getElem?_cons_succ, List.setIfInBounds_toArray, List.set_cons_zero, List.set_cons_succ, Option.map_some, List.not_mem_nil, ←decide_not, eq_self]
    exact ⟨by rw [decide_eq_false (fun h => h.1 h0)], Ext.refl _ _⟩
  · have e3 : 0 < (n : Int) % 8 := by omega
    have e4 : (8 * ((n : Int) % 8)).toNat = 8 * (n % 8) := by omega
    by_cases h1 : x >>> (8 * (n % 8)) = BitVec.ofNat 64 0
    · simp (disch := (first | omega | decide | (simp only [World.size_alloc, World.size_setCell, World.size_drew, size_sets, List.mem_cons, List.not_mem_nil, or_false, not_false_eq_true] <;> omega) | fail)) only [↓rsChk_3, rsChk_1, Option.isNone_some, Option.isNone_none, tick_eq, tickV_eq, ne_eq, Int.reduceAdd, Int.reduceSub, Int.reduceMul, Int.reduceEq, Int.reduceLT, Int.reduceLE, Int.reduceToNat, Nat.reduceMul, Nat.reduceAdd, Nat.reduceSub, List.nil_append, List.cons_append, List.getElem?_toArray, List.getElem?_cons_zero, List.getElem?_cons_succ, List.setIfInBounds_toArray, List.set_cons_zero, List.set_cons_succ, Option.map_some, List.not_mem_nil, ←decide_not, e4, decide_eq_false (fun h : ¬ x >>> (8 * (n % 8)) = BitVec.ofNat 64 0 => h h1)]
      exact ⟨by rw [decide_eq_false (fun h => h.2 h1)], Ext.refl _ _⟩
    · simp (disch := (first | omega | decide | (simp only [World.size_alloc, World.size_setCell, World.size_drew, size_sets, List.mem_cons, List.not_mem_nil, or_false, not_false_eq_true] <;> omega) | fail)) only [↓rsChk_3, rsChk_1, Option.isNone_some, Option.isNone_none, tick_eq, tickV_eq, ne_eq, Int.reduceAdd, Int.reduceSub, Int.reduceMul, Int.reduceEq, Int.reduceLT, Int.reduceLE, Int.reduceToNat, Nat.reduceMul, Nat.reduceAdd, Nat.reduceSub, List.nil_append, List.cons_append, List.getElem?_toArray, List.getElem?_cons_zero, List.getElem?_cons_succ, List.setIfInBounds_toArray, List.set_cons_zero, List.set_cons_succ, Option.map_some, List.not_mem_nil, ←decide_not, e4, decide_eq_true h1]
      exact ⟨by rw [decide_eq_true ⟨h0, h1⟩], Ext.refl _ _⟩
end
end Go.Proofs.Ytdpmidgeipibbaa
end
section
set_option linter.unusedVariables false
set_option linter.unusedSimpArgs false
set_option maxHeartbeats 4000000
namespace Go.Proofs.Ytdpmidgeipibbaa
open Go.Sh Go.RowKit

section
variable {w0 w : World} {k r : Nat} {v : Value} {a : Option Addr} {c : Nat} {L : List (BitVec 64)} {base : Nat} {l : List Nat} {F : List Fnd}
theorem WkIs.extM {w' : World} {M : List Nat} (h : WkIs w0 w k r v a c L base l F) (hx : Ext M w w') (h1 : k ∉ M) (h2 : r ∉ M) (h3 : ∀ y ∈ Go.Sh.blk v, y ∉ M) (h4 : ∀ y ∈ M, w0.heap.size ≤ y) : WkIs w0 w' k r v a c L base l F :=
  ⟨h.blk.ext hx h1, h.map.ext hx h2, h.own.ext hx h3, h.kr, h.kv, h.rv, h.up, h.rowx hx h4, h.ra, h.ext.new hx h4⟩
theorem WkIs.put {w' : World} {p : Nat} (h : WkIs w0 w k r v a c L base l F) (M : MapIs w' r ((l ++ [p]).map (hdX fun p => wat L (p - base)))) (hx : Ext [r] w w') : WkIs w0 w' k r v a c L base (l ++ [p]) F :=
  ⟨h.blk.ext hx (by simpa using h.kr), M, h.own.ext hx (fun y hy hm => by simp only [List.mem_singleton] at hm; subst hm; exact h.rv hy), h.kr, h.kv, h.rv, h.up, h.rowx hx (fun y hy => by simp only [List.mem_singleton] at hy; subst hy; exact h.up.2.1), h.ra, h.ext.new hx (fun y hy => by simp only [List.mem_singleton] at hy; subst hy; exact h.up.2.1)⟩
theorem word_at (h : WkIs w0 w k r v a c L base l F) {i : Nat} (hi : i < L.length) : ∃ b o, a = some ⟨b, o, none⟩ ∧ w.cell? ⟨b, o + i, none⟩ = some (u64 (wat L i)) := by
  obtain ⟨b5, o5, h5, z5, k5⟩ := h.row.at (i := i) (by simpa using hi)
  refine ⟨b5, o5, h5, ?_⟩
  simp only [List.getElem_map] at k5
  rw [k5]
  unfold wat
  rw [List.getD_eq_getElem?_getD, List.getElem?_eq_getElem hi]
  rfl
abbrev rsChk2_0 := (And.intro @xBox_r (And.intro @loadK_some (And.intro @loadsK_s (And.intro @loadsK_n (And.intro @loadsR_s (And.intro @loadsR_n (And.intro @storesK_s (And.intro @storesK_n (And.intro @xPick_t (And.intro @xPick_f (And.intro @xGuard_tt (And.intro @xGuard_ff (And.intro @xGuard_tf (And.intro @xGuard_ft (And.intro @xGuard_u 
  (And.intro @xNil_r (And.intro @xIf_t (And.intro @xBin_add' (And.intro @xBin_sub' (And.intro @xBin_mul' (And.intro @xBin_quo' (And.intro @xBin_rem' (And.intro @xIf_f (And.intro @xIf_tt (And.intro @xEx0 (And.intro @xEx1 (And.intro @xEx2 (And.intro @xEx3 (And.intro @xBin_eqs (And.intro @xBin_nes (And.intro @xUn_not (And.intro @xu8_add (And.intro @xu8_sub 
  (And.intro @xu8_neq (And.intro @xu8_lss (And.intro @xu8_gtr (And.intro @xu16_add (And.intro @xu16_sub (And.intro @xu16_neq (And.intro @xu16_lss (And.intro @xu16_gtr (And.intro @xu32_add (And.intro @xu32_sub (And.intro @xu32_neq (And.intro @xu32_lss (And.intro @xu32_gtr (And.intro @xu64_add (And.intro @xu64_sub (And.intro @xu64_neq (And.intro @xu64_lss 
  (And.intro @xu64_gtr (And.intro @xi64_lss (And.intro @xi64_gtr (And.intro @xi64_neq (And.intro @xi64_neg (And.intro @xMakeFunc_r (And.intro @xSq_r (And.intro @xPur_s (And.intro @xRd_s (And.intro @xRe_s (And.intro @xDet_s (And.intro @xDet_ld (And.intro @xDet_ld2 (And.intro @xDet_ld3 (And.intro @xDet_ld4 (And.intro @xGuard_tt (And.intro @ld_3 (And.intro @ld_4 
  (And.intro @ld_28 (And.intro @ld_69 (And.intro @ld_94 (And.intro @ld_123 (And.intro @fa_96_0 (And.intro @fa_96_1 (And.intro @fa_96_2 (And.intro @fa_123_2 (And.intro @al_123 (And.intro @st_123 (And.intro @ia_28 (And.intro @ln_28 (And.intro @bs_66_0 @bs_66_1)))))))))))))))))))))))))))))))))))))))))))))))))))))))))))))))))))))))))))))))))
abbrev rsChk2_1 := (And.intro @setCells_c (And.intro @setCells_n (And.intro @World.setCell_alloc_at (And.intro @World.setCell_alloc_past (And.intro @World.cell?_alloc_at (And.intro @World.cell?_alloc_past (And.intro @World.frozen?_alloc_at (And.intro @World.frozen?_alloc_past 
  (And.intro @World.size_alloc (And.intro @dlt_t (And.intro @dlt_f (And.intro @dle_t (And.intro @dle_f (And.intro @deq_t (And.intro @deq_f (And.intro @dne_t (And.intro @dne_f (And.intro @not_true_eq_false (And.intro @Bool.false_and (And.intro @Bool.true_and (And.intro @Bool.and_true (And.intro @Bool.and_false (And.intro @wrap_in (And.intro @Int.toNat_natCast 
  (And.intro @Nat.mul_one (And.intro @cells_int (And.intro @cells_bool (And.intro @cells_string (And.intro @cells_slice (And.intro @cells_pointer (And.intro @cells_agg (And.intro @one_int (And.intro @one_bool (And.intro @one_string (And.intro @one_slice (And.intro @one_pointer (And.intro @beq_tt (And.intro @beq_ff (And.intro @beq_tf 
  (And.intro @beq_ft (And.intro @cell_sets_b (And.intro @frozen_sets (And.intro @size_sets (And.intro @World.size_drew (And.intro @Nat.zero_add (And.intro @Nat.add_zero (And.intro @cell_drew (And.intro @frozen_drew (And.intro @cell_set_eq (And.intro @cell_set_o (And.intro @cell_set_b (And.intro @World.frozen?_setCell 
  (And.intro @decide_true (And.intro @decide_false (And.intro @not_false_eq_true (And.intro @Bool.not_true @Bool.not_false))))))))))))))))))))))))))))))))))))))))))))))))))))))))
theorem objects_spec (h : WkIs w0 w k r v a c L base [] []) (hb : base + L.length ≤ 8192) (hc0 : L.length ≤ c) : Yld Try.prog n_check_walk_objects #[ptr k] w fun u w' =>
    ∃ v' a2 c2 l bad, u = .slice a2 l.length c2 ∧ RowAt w' a2 (nums l) ∧ (∀ z o, a2 = some ⟨z, o, none⟩ → z < w'.heap.size ∧ z ≠ k ∧ z ∉ Go.Sh.blk v') ∧ Sc (fun p => wat L (p - base)) (base + L.length) base l bad ∧ WkIs w0 w' k r v' a c L base l (badF bad) := by
  obtain ⟨l, bad, hS⟩ := Sc.ex (fun p => wat L (p - base)) (base + L.length) L.length base (by omega) (by omega)
  refine check_walk_objects_of ?_
  unfold check_walk_objects
  simp (disch := (first | omega | decide | (simp only [World.size_alloc, World.size_setCell, World.size_drew, size_sets, List.mem_cons, List.not_mem_nil, or_false, not_false_eq_true] <;> omega) | fail)) only [↓rsChk2_0, rsChk2_1, Option.isNone_some, Option.isNone_none, tick_eq, tickV_eq, ne_eq, Int.reduceAdd, Int.reduceSub, Int.reduceMul, Int.reduceEq, Int.reduceLT, Int.reduceLE, Int.reduceToNat, Nat.reduceMul, Nat.reduceAdd, Nat.reduceSub, List.nil_append, List.cons_append, List.getElem?_toArray, List.getElem?_cons_zero, List.getElem?_cons_succ, List.setIfInBounds_toArray, List.set_cons_zero, List.set_cons_succ, Option.map_some, List.not_mem_nil, ←decide_not, eq_self]
  refine xLoop_r (L.length + 1) (fun j vs w' => ∃ (out : Value) (i : Nat) (p lr : List Nat), vs = [out, i64 (i : Int)] ∧ j ≤ i ∧ i ≤ L.length ∧ l = p ++ lr ∧ Sc (fun p => wat L (p - base)) (base + L.length) (base + i) lr bad ∧ (∀ q ∈ p, q < base + i) ∧ WkIs w0 w' k r v a c L base p [] ∧ OwnI w' out p ∧ k ∉ Go.Sh.blk out ∧ r ∉ Go.Sh.blk out ∧ (∀ y ∈ Go.Sh.blk out, y ∉ Go.Sh.blk v) ∧ ∀ y ∈ Go.Sh.blk out, w0.heap.size ≤ y)
    ⟨_, 0, [], l, rfl, Nat.le_refl _, Nat.zero_le _, rfl, hS, by simp, h, Own.nil, by simp [Go.Sh.blk, Value.ownBlock], by simp [Go.Sh.blk, Value.ownBlock], by simp [Go.Sh.blk, Value.ownBlock], by simp [Go.Sh.blk, Value.ownBlock]⟩ ?_ ?_
  rotate_left
  · rintro u v1 ⟨out, i, p, lr, hu, h1, h2, _⟩ nxt
    omega
  rintro j hj u v1 ⟨out, i, p, lr, hu, h1, h2, hl, hSc, hq, W, O, d1, d2, d3, d4⟩ nxt hnx
  simp only [List.map_cons, List.map_nil, List.cons.injEq, and_true] at hu
  rw [hu.1, hu.2]
  have kb := fun i => W.blk.cell (i := i)
  have zk := W.blk.lt
  have zo := O.lt
  have hcount := hSc.count
  have hpl : p.length ≤ 8192 := by have := hS.count; rw [hl, List.length_append] at this; omega
  have fin : ∀ (w' : World) (v' : Value) (lo : List Nat) (bb : Option Nat), lr = [] → bad = bb → WkIs w0 w' k r v' a c L base p (badF bb) → OwnI w' out p → k ∉ Go.Sh.blk out → (∀ y ∈ Go.Sh.blk out, y ∉ Go.Sh.blk v') →
      ∃ v' a2 c2 l bad, out = .slice a2 l.length c2 ∧ RowAt w' a2 (nums l) ∧ (∀ z o, a2 = some ⟨z, o, none⟩ → z < w'.heap.size ∧ z ≠ k ∧ z ∉ Go.Sh.blk v') ∧ Sc (fun p => wat L (p - base)) (base + L.length) base l bad ∧ WkIs w0 w' k r v' a c L base l (badF bad) := by
    intro w' v' lo bb hlr hbb W' O' e1 e2
    subst hlr hbb
    rw [List.append_nil] at hl
    subst hl
    have zo' := O'.lt
    obtain ⟨a2, c2, rfl, _, _, hn2, hr2, _⟩ := O'.slice
    refine ⟨v', a2, c2, l, bad, rfl, hr2, fun z o hz => ?_, hS, W'⟩
    have hm : z ∈ Go.Sh.blk (.slice a2 l.length c2) := by subst hz; simp [Go.Sh.blk, Value.ownBlock]
    exact ⟨zo' z hm, fun e => e1 (e ▸ hm), e2 z hm⟩
  unfold check_walk_objects_l1
  by_cases hi : i < L.length
  rotate_left
  · have hie : i = L.length := by omega
    subst hie
    have hu2 := hSc.uniq .done
    simp (disch := (first | omega | decide | (simp only [World.size_alloc, World.size_setCell, World.size_drew, size_sets, List.mem_cons, List.not_mem_nil, or_false, not_false_eq_true] <;> omega) | fail)) only [↓rsChk2_0, rsChk2_1, Option.isNone_some, Option.isNone_none, tick_eq, tickV_eq, ne_eq, Int.reduceAdd, Int.reduceSub, Int.reduceMul, Int.reduceEq, Int.reduceLT, Int.reduceLE, Int.reduceToNat, Nat.reduceMul, Nat.reduceAdd, Nat.reduceSub, List.nil_append, List.cons_append, List.getElem?_toArray, List.getElem?_cons_zero, List.getElem?_cons_succ, List.setIfInBounds_toArray, List.set_cons_zero, List.set_cons_succ, Option.map_some, List.not_mem_nil, ←decide_not, kb]
    exact fin v1 v [] none hu2.1 hu2.2 W O d1 d3
  obtain ⟨b1, o1, rfl, kw1⟩ := word_at W hi
  have hx : (fun p => wat L (p - base)) (base + i) = wat L i := by simp
  simp (disch := (first | omega | decide | (simp only [World.size_alloc, World.size_setCell, World.size_drew, size_sets, List.mem_cons, List.not_mem_nil, or_false, not_false_eq_true] <;> omega) | fail)) only [↓rsChk2_0, rsChk2_1, Option.isNone_some, Option.isNone_none, tick_eq, tickV_eq, ne_eq, Int.reduceAdd, Int.reduceSub, Int.reduceMul, Int.reduceEq, Int.reduceLT, Int.reduceLE, Int.reduceToNat, Nat.reduceMul, Nat.reduceAdd, Nat.reduceSub, List.nil_append, List.cons_append, List.getElem?_toArray, List.getElem?_cons_zero, List.getElem?_cons_succ, List.setIfInBounds_toArray, List.set_cons_zero, List.set_cons_succ, Option.map_some, List.not_mem_nil, ←decide_not, kb, kw1]
  have hun := Unpack_spec (wat L i) v1
  by_cases hok : okW (wat L i)
  · obtain ⟨v1', v2', v3', v4', v5', v6', v7', v8'⟩ := okW_v hok
    rw [v1', v2', v3', v4', v5'] at hun
    refine head_Unpack_call (Gives.to hun fun w2 F2 => ?_)
    have W2 := W.ext0 F2
    simp (disch := (first | omega | decide | (simp only [World.size_alloc, World.size_setCell, World.size_drew, size_sets, List.mem_cons, List.not_mem_nil, or_false, not_false_eq_true] <;> omega) | fail)) only [↓rsChk2_0, rsChk2_1, Option.isNone_some, Option.isNone_none, tick_eq, tickV_eq, ne_eq, Int.reduceAdd, Int.reduceSub, Int.reduceMul, Int.reduceEq, Int.reduceLT, Int.reduceLE, Int.reduceToNat, Nat.reduceMul, Nat.reduceAdd, Nat.reduceSub, List.nil_append, List.cons_append, List.getElem?_toArray, List.getElem?_cons_zero, List.getElem?_cons_succ, List.setIfInBounds_toArray, List.set_cons_zero, List.set_cons_succ, Option.map_some, List.not_mem_nil, ←decide_not, kb, kw1]
    have B : Blk (w2.alloc (.cells #[i64 (pN (wat L i)), i64 (bN (wat L i)), .bool false, i64 0] 123)) w2.heap.size 123 [i64 (pN (wat L i)), i64 (bN (wat L i)), .bool false, i64 0] := Blk.at rfl
    have X2 : Ext [] w2 (w2.alloc (.cells #[i64 (pN (wat L i)), i64 (bN (wat L i)), .bool false, i64 0] 123)) := Ext.alloc _ _ _
    have k2 := fun i => ((W2.ext0 X2).ext0 (Ext.drew [] _)).blk.cell (i := i)
    have k2' := fun i => W2.blk.cell (i := i)
    have zk2 := W2.blk.lt
    simp (disch := (first | omega | decide | (simp only [World.size_alloc, World.size_setCell, World.size_drew, size_sets, List.mem_cons, List.not_mem_nil, or_false, not_false_eq_true] <;> omega) | fail)) only [↓rsChk2_0, rsChk2_1, Option.isNone_some, Option.isNone_none, tick_eq, tickV_eq, ne_eq, Int.reduceAdd, Int.reduceSub, Int.reduceMul, Int.reduceEq, Int.reduceLT, Int.reduceLE, Int.reduceToNat, Nat.reduceMul, Nat.reduceAdd, Nat.reduceSub, List.nil_append, List.cons_append, List.getElem?_toArray, List.getElem?_cons_zero, List.getElem?_cons_succ, List.setIfInBounds_toArray, List.set_cons_zero, List.set_cons_succ, Option.map_some, List.not_mem_nil, ←decide_not, kb, kw1, k2']
    have hsz : ∀ w, Gives Try.prog n_head_Size #[hd (pN (wat L i)) (bN (wat L i)) false 0] w (i64 (szW (wat L i) : Int)) := fun w => by
      have := SizeW_spec hok w
      rw [v1', v2', v4'] at this
      exact this
    refine head_Size_call (Gives.to (hsz _) fun w3 F3d => ?_)
    have F3 := (Ext.drew [] _).trans F3d
    have W3 := (W2.ext0 X2).ext0 F3
    have k3 := fun i => W3.blk.cell (i := i)
    have B3 := B.ext F3 (by simp)
    have O3 := (O.ext0 F2).ext0 (X2.trans F3)
    have zh : v1.heap.size ≤ w2.heap.size := F2.size
    generalize w2.heap.size = hh at *
    by_cases hs : i + szW (wat L i) ≤ L.length
    · obtain ⟨lr', hlr', h5⟩ := hSc.step_inv (by omega) (by simpa only [Nat.add_sub_cancel_left] using hok) (by simp only [Nat.add_sub_cancel_left]; omega)
      simp only [Nat.add_sub_cancel_left] at h5
      have k3d := fun i => (W3.ext0 (Ext.drew [] w3)).blk.cell (i := i)
      have B3d := B3.ext (Ext.drew [] w3) (by simp)
      have kb3 := fun i => B3d.cell (i := i)
      have W3d := W3.ext0 (Ext.drew [] w3)
      have e1 : (base : Int) + (i : Int) = ((base + i : Nat) : Int) := by omega
      simp (disch := (first | omega | decide | (simp only [World.size_alloc, World.size_setCell, World.size_drew, size_sets, List.mem_cons, List.not_mem_nil, or_false, not_false_eq_true] <;> omega) | fail)) only [↓rsChk2_0, rsChk2_1, Option.isNone_some, Option.isNone_none, tick_eq, tickV_eq, ne_eq, Int.reduceAdd, Int.reduceSub, Int.reduceMul, Int.reduceEq, Int.reduceLT, Int.reduceLE, Int.reduceToNat, Nat.reduceMul, Nat.reduceAdd, Nat.reduceSub, List.nil_append, List.cons_append, List.getElem?_toArray, List.getElem?_cons_zero, List.getElem?_cons_succ, List.setIfInBounds_toArray, List.set_cons_zero, List.set_cons_succ, Option.map_some, List.not_mem_nil, ←decide_not, kb, kw1, k2', k3, k3d, kb3, e1]
      refine xMapUpdate_new (kt := 3) (et := 123) (by kernel_rfl) (by kernel_rfl) W3d.map (fun q hq2 => by
        obtain ⟨p', hp', rfl⟩ := List.mem_map.1 hq2
        have := hq p' hp'
        simp only
        omega) fun w4 M4 F4 => ?_
      have W4 := W3d.put (p := base + i) (by
        have hk : hdX (fun p => wat L (p - base)) (base + i) = (((base + i : Nat) : Int), hd (pN (wat L i)) (bN (wat L i)) false 0) := by simp only [hdX, Nat.add_sub_cancel_left]
        rw [List.map_append, List.map_singleton, hk]
        exact M4) F4
      have B4 := B3d.ext F4 (by have := W3d.map.lt; have := W.map.lt; simp only [List.mem_singleton]; omega)
      have O4 := (O3.ext0 (Ext.drew [] w3)).ext F4 (fun y hy hm => by simp only [List.mem_singleton] at hm; subst hm; exact d2 hy)
      have k4 := fun i => W4.blk.cell (i := i)
      have kb4 := fun i => B4.cell (i := i)
      have zo4 := O4.lt
      simp (disch := (first | omega | decide | (simp only [World.size_alloc, World.size_setCell, World.size_drew, size_sets, List.mem_cons, List.not_mem_nil, or_false, not_false_eq_true] <;> omega) | fail)) only [↓rsChk2_0, rsChk2_1, Option.isNone_some, Option.isNone_none, tick_eq, tickV_eq, ne_eq, Int.reduceAdd, Int.reduceSub, Int.reduceMul, Int.reduceEq, Int.reduceLT, Int.reduceLE, Int.reduceToNat, Nat.reduceMul, Nat.reduceAdd, Nat.reduceSub, List.nil_append, List.cons_append, List.getElem?_toArray, List.getElem?_cons_zero, List.getElem?_cons_succ, List.setIfInBounds_toArray, List.set_cons_zero, List.set_cons_succ, Option.map_some, List.not_mem_nil, ←decide_not, kb, kw1, k2', k3, k3d, kb3, e1, k4]
      refine appIl O4 rfl (by omega) fun out' w5 O5 F5 => ?_
      have hho : hh ∉ Go.Sh.blk out := fun hm => by have := zo _ hm; omega
      have B5 := B4.ext F5.ext hho
      have kb5 := fun i => B5.cell (i := i)
      have z5 := F5.ext.size
      have W5 := W4.extM F5.ext d1 d2 (fun y hy hm => d3 y hm hy) d4
      simp (disch := (first | omega | decide | (simp only [World.size_alloc, World.size_setCell, World.size_drew, size_sets, List.mem_cons, List.not_mem_nil, or_false, not_false_eq_true] <;> omega) | fail)) only [↓rsChk2_0, rsChk2_1, Option.isNone_some, Option.isNone_none, tick_eq, tickV_eq, ne_eq, Int.reduceAdd, Int.reduceSub, Int.reduceMul, Int.reduceEq, Int.reduceLT, Int.reduceLE, Int.reduceToNat, Nat.reduceMul, Nat.reduceAdd, Nat.reduceSub, List.nil_append, List.cons_append, List.getElem?_toArray, List.getElem?_cons_zero, List.getElem?_cons_succ, List.setIfInBounds_toArray, List.set_cons_zero, List.set_cons_succ, Option.map_some, List.not_mem_nil, ←decide_not, kb, kw1, k2', k3, k3d, kb3, e1, k4, kb5]
      refine head_Size_call (Gives.to (hsz _) fun w6 F6 => ?_)
      simp (disch := (first | omega | decide | (simp only [World.size_alloc, World.size_setCell, World.size_drew, size_sets, List.mem_cons, List.not_mem_nil, or_false, not_false_eq_true] <;> omega) | fail)) only [↓rsChk2_0, rsChk2_1, Option.isNone_some, Option.isNone_none, tick_eq, tickV_eq, ne_eq, Int.reduceAdd, Int.reduceSub, Int.reduceMul, Int.reduceEq, Int.reduceLT, Int.reduceLE, Int.reduceToNat, Nat.reduceMul, Nat.reduceAdd, Nat.reduceSub, List.nil_append, List.cons_append, List.getElem?_toArray, List.getElem?_cons_zero, List.getElem?_cons_succ, List.setIfInBounds_toArray, List.set_cons_zero, List.set_cons_succ, Option.map_some, List.not_mem_nil, ←decide_not, kb, kw1, k2', k3, k3d, kb3, e1, k4, kb5]
      have e3 : (i : Int) + (szW (wat L i) : Int) = ((i + szW (wat L i) : Nat) : Int) := by omega
      rw [e3]
      have hpos := szW_pos (x := wat L i)
      have zk4 := W4.blk.lt
      have zr4 := W4.map.lt
      refine hnx _ _ ⟨out', i + szW (wat L i), p ++ [base + i], lr', rfl, by omega, hs, by rw [hl, hlr']; simp, by rw [← Nat.add_assoc]; exact h5, fun q hq2 => ?_, W5.ext0 F6, O5.ext0 F6, fun hm => ?_, fun hm => ?_, fun y hy hm => ?_, fun y hy => ?_⟩
      · rcases List.mem_append.1 hq2 with h6 | h6
        · have := hq q h6; omega
        · simp only [List.mem_singleton] at h6; omega
      · rcases F5.at' k hm with h6 | h6
        · exact d1 h6
        · omega
      · rcases F5.at' r hm with h6 | h6
        · exact d2 h6
        · omega
      · rcases F5.at' y hy with h6 | h6
        · exact d3 y h6 hm
        · have := W4.own.lt y hm; omega
      · rcases F5.at' y hy with h6 | h6
        · exact d4 y h6
        · have := W4.ext.size; omega
    · have hu2 := hSc.uniq (.bad (by omega) (fun h6 => hs (by have := h6.2; simp only [Nat.add_sub_cancel_left] at this; omega)))
      have e1 : (base : Int) + (i : Int) = ((base + i : Nat) : Int) := by omega
      have cH : ({ data := #[104, 101, 97, 100] } : ByteArray) = strOf sHead := by decide +kernel
      simp (disch := (first | omega | decide | (simp only [World.size_alloc, World.size_setCell, World.size_drew, size_sets, List.mem_cons, List.not_mem_nil, or_false, not_false_eq_true] <;> omega) | fail)) only [↓rsChk2_0, rsChk2_1, Option.isNone_some, Option.isNone_none, tick_eq, tickV_eq, ne_eq, Int.reduceAdd, Int.reduceSub, Int.reduceMul, Int.reduceEq, Int.reduceLT, Int.reduceLE, Int.reduceToNat, Nat.reduceMul, Nat.reduceAdd, Nat.reduceSub, List.nil_append, List.cons_append, List.getElem?_toArray, List.getElem?_cons_zero, List.getElem?_cons_succ, List.setIfInBounds_toArray, List.set_cons_zero, List.set_cons_succ, Option.map_some, List.not_mem_nil, ←decide_not, kb, kw1, k2', k3, e1]
      rw [cH]
      refine check_walk_add_call (Yld.mono (add_spec (at' := base + i) (s := sHead) W3 (by simp)) ?_)
      rintro u w4 ⟨v', W4, F4⟩
      simp (disch := (first | omega | decide | (simp only [World.size_alloc, World.size_setCell, World.size_drew, size_sets, List.mem_cons, List.not_mem_nil, or_false, not_false_eq_true] <;> omega) | fail)) only [↓rsChk2_0, rsChk2_1, Option.isNone_some, Option.isNone_none, tick_eq, tickV_eq, ne_eq, Int.reduceAdd, Int.reduceSub, Int.reduceMul, Int.reduceEq, Int.reduceLT, Int.reduceLE, Int.reduceToNat, Nat.reduceMul, Nat.reduceAdd, Nat.reduceSub, List.nil_append, List.cons_append, List.getElem?_toArray, List.getElem?_cons_zero, List.getElem?_cons_succ, List.setIfInBounds_toArray, List.set_cons_zero, List.set_cons_succ, Option.map_some, List.not_mem_nil, ←decide_not, kb, kw1, k2', k3, e1]
      exact fin w4 v' [] (some (base + i)) hu2.1 hu2.2 W4 (O3.ext F4.ext (fun y hy hm => by
        rcases List.mem_cons.1 hm with rfl | hm
        · exact d1 hy
        · exact d3 y hy hm)) d1 (fun y hy hm => by
        rcases F4.at' y (List.mem_cons_of_mem _ hm) with h6 | h6
        · rcases List.mem_cons.1 h6 with rfl | h6
          · exact d1 hy
          · exact d3 y hy h6
        · have := O3.lt y hy; omega)
  · have hu2 := hSc.uniq (.bad (by omega) (fun h6 => hok (by have := h6.1; simpa only [Nat.add_sub_cancel_left] using this)))
    have e1 : (base : Int) + (i : Int) = ((base + i : Nat) : Int) := by omega
    have cH : ({ data := #[104, 101, 97, 100] } : ByteArray) = strOf sHead := by decide +kernel
    have tl : ∀ w3 : World, Ext [] v1 w3 → xCall Try.prog (fnv n_check_walk_add) [ptr k, i64 ((base + i : Nat) : Int), .string (strOf sHead)] w3 fun u w' => ∃ v' a2 c2 l bad, out = .slice a2 l.length c2 ∧ RowAt w' a2 (nums l) ∧ (∀ z o, a2 = some ⟨z, o, none⟩ → z < w'.heap.size ∧ z ≠ k ∧ z ∉ Go.Sh.blk v') ∧ Sc (fun p => wat L (p - base)) (base + L.length) base l bad ∧ WkIs w0 w' k r v' (some ⟨b1, o1, none⟩) c L base l (badF bad) := by
      intro w3 F3
      have W3 := W.ext0 F3
      have O3 := O.ext0 F3
      refine check_walk_add_call (Yld.mono (add_spec (at' := base + i) (s := sHead) W3 (by simp)) ?_)
      rintro u w4 ⟨v', W4, F4⟩
      exact fin w4 v' [] (some (base + i)) hu2.1 hu2.2 W4 (O3.ext F4.ext (fun y hy hm => by
        rcases List.mem_cons.1 hm with rfl | hm
        · exact d1 hy
        · exact d3 y hy hm)) d1 (fun y hy hm => by
        rcases F4.at' y (List.mem_cons_of_mem _ hm) with h6 | h6
        · rcases List.mem_cons.1 h6 with rfl | h6
          · exact d1 hy
          · exact d3 y hy h6
        · have := O3.lt y hy; omega)
    by_cases he : unErr (wat L i) = 0
    · rw [he, okW_not hok he] at hun
      refine head_Unpack_call (Gives.to hun fun w2 F2 => ?_)
      simp (disch := (first | omega | decide | (simp only [World.size_alloc, World.size_setCell, World.size_drew, size_sets, List.mem_cons, List.not_mem_nil, or_false, not_false_eq_true] <;> omega) | fail)) only [↓rsChk2_0, rsChk2_1, Option.isNone_some, Option.isNone_none, tick_eq, tickV_eq, ne_eq, Int.reduceAdd, Int.reduceSub, Int.reduceMul, Int.reduceEq, Int.reduceLT, Int.reduceLE, Int.reduceToNat, Nat.reduceMul, Nat.reduceAdd, Nat.reduceSub, List.nil_append, List.cons_append, List.getElem?_toArray, List.getElem?_cons_zero, List.getElem?_cons_succ, List.setIfInBounds_toArray, List.set_cons_zero, List.set_cons_succ, Option.map_some, List.not_mem_nil, ←decide_not, kb, kw1]
      have Y : Ext [] v1 (w2.alloc (.cells #[i64 (vP (wat L i)), i64 (vB (wat L i)), .bool true, i64 (vT (wat L i))] 123)).drew := F2.trans ((Ext.alloc _ _ _).trans (Ext.drew _ _))
      have k2 := fun i => (W.ext0 F2).blk.cell (i := i)
      have zk2 := (W.ext0 F2).blk.lt
      simp (disch := (first | omega | decide | (simp only [World.size_alloc, World.size_setCell, World.size_drew, size_sets, List.mem_cons, List.not_mem_nil, or_false, not_false_eq_true] <;> omega) | fail)) only [↓rsChk2_0, rsChk2_1, Option.isNone_some, Option.isNone_none, tick_eq, tickV_eq, ne_eq, Int.reduceAdd, Int.reduceSub, Int.reduceMul, Int.reduceEq, Int.reduceLT, Int.reduceLE, Int.reduceToNat, Nat.reduceMul, Nat.reduceAdd, Nat.reduceSub, List.nil_append, List.cons_append, List.getElem?_toArray, List.getElem?_cons_zero, List.getElem?_cons_succ, List.setIfInBounds_toArray, List.set_cons_zero, List.set_cons_succ, Option.map_some, List.not_mem_nil, ←decide_not, kb, kw1, k2, e1]
      rw [cH]
      exact tl _ Y
    · refine head_Unpack_call (Gives.to hun fun w2 F2 => ?_)
      simp (disch := (first | omega | decide | (simp only [World.size_alloc, World.size_setCell, World.size_drew, size_sets, List.mem_cons, List.not_mem_nil, or_false, not_false_eq_true] <;> omega) | fail)) only [↓rsChk2_0, rsChk2_1, Option.isNone_some, Option.isNone_none, tick_eq, tickV_eq, ne_eq, Int.reduceAdd, Int.reduceSub, Int.reduceMul, Int.reduceEq, Int.reduceLT, Int.reduceLE, Int.reduceToNat, Nat.reduceMul, Nat.reduceAdd, Nat.reduceSub, List.nil_append, List.cons_append, List.getElem?_toArray, List.getElem?_cons_zero, List.getElem?_cons_succ, List.setIfInBounds_toArray, List.set_cons_zero, List.set_cons_succ, Option.map_some, List.not_mem_nil, ←decide_not, kb, kw1]
      have Y : Ext [] v1 (w2.alloc (.cells #[i64 (vP (wat L i)), i64 (vB (wat L i)), .bool (vM (wat L i)), i64 (vT (wat L i))] 123)).drew := F2.trans ((Ext.alloc _ _ _).trans (Ext.drew _ _))
      have k2 := fun i => (W.ext0 F2).blk.cell (i := i)
      have zk2 := (W.ext0 F2).blk.lt
      simp (disch := (first | omega | decide | (simp only [World.size_alloc, World.size_setCell, World.size_drew, size_sets, List.mem_cons, List.not_mem_nil, or_false, not_false_eq_true] <;> omega) | fail)) only [↓rsChk2_0, rsChk2_1, Option.isNone_some, Option.isNone_none, tick_eq, tickV_eq, ne_eq, Int.reduceAdd, Int.reduceSub, Int.reduceMul, Int.reduceEq, Int.reduceLT, Int.reduceLE, Int.reduceToNat, Nat.reduceMul, Nat.reduceAdd, Nat.reduceSub, List.nil_append, List.cons_append, List.getElem?_toArray, List.getElem?_cons_zero, List.getElem?_cons_succ, List.setIfInBounds_toArray, List.set_cons_zero, List.set_cons_succ, Option.map_some, List.not_mem_nil, ←decide_not, kb, kw1, k2, e1]
      rw [cH]
      exact tl _ Y
end
end Go.Proofs.Ytdpmidgeipibbaa
end
section
set_option linter.unusedVariables false
set_option linter.unusedSimpArgs false
set_option maxHeartbeats 4000000
namespace Go.Proofs.Ytdpmidgeipibbaa
open Go.Sh Go.RowKit

section
variable {w0 w : World} {k r : Nat} {v : Value} {a : Option Addr} {c : Nat} {L : List (BitVec 64)} {base : Nat} {l : List Nat} {F : List Fnd}
abbrev rsChk3_0 := (And.intro @xBox_r (And.intro @loadK_some (And.intro @loadsK_s (And.intro @loadsK_n (And.intro @loadsR_s (And.intro @loadsR_n (And.intro @storesK_s (And.intro @storesK_n (And.intro @xPick_t (And.intro @xPick_f (And.intro @xGuard_tt (And.intro @xGuard_ff (And.intro @xGuard_tf (And.intro @xGuard_ft (And.intro @xGuard_u 
  (And.intro @xNil_r (And.intro @xIf_t (And.intro @xBin_add' (And.intro @xBin_sub' (And.intro @xBin_mul' (And.intro @xBin_quo' (And.intro @xBin_rem' (And.intro @xIf_f (And.intro @xIf_tt (And.intro @xEx0 (And.intro @xEx1 (And.intro @xEx2 (And.intro @xEx3 (And.intro @xBin_eqs (And.intro @xBin_nes (And.intro @xUn_not (And.intro @xu8_add (And.intro @xu8_sub 
  (And.intro @xu8_com (And.intro @xu8_leq (And.intro @xu16_add (And.intro @xu16_sub (And.intro @xu16_com (And.intro @xu16_leq (And.intro @xu32_add (And.intro @xu32_sub (And.intro @xu32_com (And.intro @xu32_leq (And.intro @xu64_add (And.intro @xu64_sub (And.intro @xu64_com (And.intro @xu64_leq (And.intro @xi64_leq (And.intro @xMakeFunc_r 
  (And.intro @xSq_r (And.intro @xPur_s (And.intro @xRd_s (And.intro @xRe_s (And.intro @xDet_s (And.intro @xDet_ld (And.intro @xDet_ld2 (And.intro @xDet_ld3 (And.intro @xDet_ld4 (And.intro @xGuard_tt (And.intro @ld_3 (And.intro @ld_28 (And.intro @ld_69 (And.intro @ld_94 (And.intro @ld_123 (And.intro @fa_96_0 (And.intro @fa_96_1 (And.intro @fa_96_2 (And.intro @fa_123_0 
  (And.intro @fa_123_1 (And.intro @al_123 (And.intro @st_123 @ia_28)))))))))))))))))))))))))))))))))))))))))))))))))))))))))))))))))))))))
abbrev rsChk3_1 := (And.intro @setCells_c (And.intro @setCells_n (And.intro @World.setCell_alloc_at (And.intro @World.setCell_alloc_past (And.intro @World.cell?_alloc_at (And.intro @World.cell?_alloc_past (And.intro @World.frozen?_alloc_at (And.intro @World.frozen?_alloc_past 
  (And.intro @World.size_alloc (And.intro @dlt_t (And.intro @dlt_f (And.intro @dle_t (And.intro @dle_f (And.intro @deq_t (And.intro @deq_f (And.intro @dne_t (And.intro @dne_f (And.intro @not_true_eq_false (And.intro @Bool.false_and (And.intro @Bool.true_and (And.intro @Bool.and_true (And.intro @Bool.and_false (And.intro @wrap_in (And.intro @Int.toNat_natCast 
  (And.intro @Nat.mul_one (And.intro @cells_int (And.intro @cells_bool (And.intro @cells_string (And.intro @cells_slice (And.intro @cells_pointer (And.intro @cells_agg (And.intro @one_int (And.intro @one_bool (And.intro @one_string (And.intro @one_slice (And.intro @one_pointer (And.intro @beq_tt (And.intro @beq_ff (And.intro @beq_tf 
  (And.intro @beq_ft (And.intro @cell_sets_b (And.intro @frozen_sets (And.intro @size_sets (And.intro @World.size_drew (And.intro @Nat.zero_add (And.intro @Nat.add_zero (And.intro @cell_drew (And.intro @frozen_drew (And.intro @cell_set_eq (And.intro @cell_set_o (And.intro @cell_set_b (And.intro @World.frozen?_setCell 
  (And.intro @decide_true (And.intro @decide_false (And.intro @not_false_eq_true (And.intro @Bool.not_true @Bool.not_false))))))))))))))))))))))))))))))))))))))))))))))))))))))))
theorem object_spec {o : Nat} (h : WkIs w0 w k r v a c L base l F) (hl : ∀ p ∈ l, p < base + L.length) (hb : base + L.length ≤ 8192) (hc0 : L.length ≤ c) (ho : o ∈ l) (hlo : base ≤ o) (hok : okW (wat L (o - base))) (hhi : o + szW (wat L (o - base)) ≤ base + L.length) (hF : F.length ≤ 100000) :
    Yld Try.prog n_check_walk_object #[ptr k, i64 (o : Int)] w fun u w' => ∃ v', WkIs w0 w' k r v' a c L base l (F ++ objF (fun p => wat L (p - base)) l o) ∧ Stp (k :: Go.Sh.blk v) (k :: Go.Sh.blk v') w w' := by
  obtain ⟨v1', v2', v3', v4', v5', v6', v7', v8'⟩ := okW_v hok
  have kb := fun i => h.blk.cell (i := i)
  have hlk := fun (K : K1) => xLookup_v (P := Try.prog) (K := K) (t := 94) (kt := 3) (et := 123) (by kernel_rfl) (by kernel_rfl) (zero_hd w) h.map (o : Int)
  rw [mget_hd ho] at hlk
  have hlk2 : ∀ K : K1, xLookup Try.prog 94 (.map (some r)) (i64 (o : Int)) false w K = K (hd (pN (wat L (o - base))) (bN (wat L (o - base))) false 0) w := hlk
  refine check_walk_object_of ?_
  unfold check_walk_object
  simp (disch := (first | omega | decide | (simp only [World.size_alloc, World.size_setCell, World.size_drew, size_sets, List.mem_cons, List.not_mem_nil, or_false, not_false_eq_true] <;> omega) | fail)) only [↓rsChk3_0, rsChk3_1, Option.isNone_some, Option.isNone_none, tick_eq, tickV_eq, ne_eq, Int.reduceAdd, Int.reduceSub, Int.reduceMul, Int.reduceEq, Int.reduceLT, Int.reduceLE, Int.reduceToNat, Nat.reduceMul, Nat.reduceAdd, Nat.reduceSub, List.nil_append, List.cons_append, List.getElem?_toArray, List.getElem?_cons_zero, List.getElem?_cons_succ, List.setIfInBounds_toArray, List.set_cons_zero, List.set_cons_succ, Option.map_some, List.not_mem_nil, ←decide_not, kb, hlk2]
  have B : Blk (w.alloc (.cells #[i64 (pN (wat L (o - base))), i64 (bN (wat L (o - base))), .bool false, i64 0] 123)) w.heap.size 123 [i64 (pN (wat L (o - base))), i64 (bN (wat L (o - base))), .bool false, i64 0] := Blk.at rfl
  have X : Ext [] w (w.alloc (.cells #[i64 (pN (wat L (o - base))), i64 (bN (wat L (o - base))), .bool false, i64 0] 123)) := Ext.alloc _ _ _
  have hy := h.ext0 X
  have zk := h.blk.lt
  have zv := h.own.lt
  have hhb : w.heap.size ∉ k :: Go.Sh.blk v := fun hm => by
    rcases List.mem_cons.1 hm with e | hm
    · omega
    · have := zv _ hm; omega
  have hsz : ∀ w, Gives Try.prog n_head_Size #[hd (pN (wat L (o - base))) (bN (wat L (o - base))) false 0] w (i64 (szW (wat L (o - base)) : Int)) := fun w => by
    have := SizeW_spec hok w
    rw [v1', v2', v4'] at this
    exact this
  have hobj : objF (fun p => wat L (p - base)) l o = ptrF (fun p => wat L (p - base)) l o (pN (wat L (o - base))) ++ padF (fun p => wat L (p - base)) o := rfl
  have hpl := ptrF_len (fun p => wat L (p - base)) l o
  have hpadF : padF (fun p => wat L (p - base)) o = if (bN (wat L (o - base)) % 8 ≠ 0 ∧ wat L (o + szW (wat L (o - base)) - 1 - base) >>> (8 * (bN (wat L (o - base)) % 8)) ≠ 0#64) then [(o + szW (wat L (o - base)) - 1, sPad)] else [] := rfl
  rw [hobj]
  generalize hP : pN (wat L (o - base)) = P at *
  generalize hN : bN (wat L (o - base)) = N at *
  generalize hZ : szW (wat L (o - base)) = Z at *
  generalize w.heap.size = hb0 at *
  generalize w.alloc (.cells #[i64 (P : Int), i64 (N : Int), .bool false, i64 0] 123) = y at *
  have e1 : (o : Int) + 1 = ((o + 1 + 0 : Nat) : Int) := by omega
  rw [e1]
  refine xLoop_n P (fun j => [i64 ((o + 1 + j : Nat) : Int)]) (fun j w' => ∃ v', WkIs w0 w' k r v' a c L base l (F ++ ptrF (fun p => wat L (p - base)) l o j) ∧ Stp (k :: Go.Sh.blk v) (k :: Go.Sh.blk v') y w') rfl ⟨v, by simpa [ptrF] using hy, Stp.refl _ _⟩ ?_ ?_
  · rintro j hj u w1 hu ⟨v', W, T⟩ nxt hnx
    simp only [List.map_cons, List.map_nil, List.cons.injEq, and_true] at hu
    rw [hu]
    have B1 := B.ext T.ext hhb
    have k1 := fun i => B1.cell (i := i)
    have Wd := W.ext0 (Ext.drew [] w1)
    have kd := fun i => Wd.blk.cell (i := i)
    have hi : o + 1 + j - base < L.length := by omega
    obtain ⟨b1, o1, rfl, kw1⟩ := word_at Wd hi
    have e2 : ((o + 1 + j : Nat) : Int) - (base : Int) = ((o + 1 + j - base : Nat) : Int) := by omega
    have e3 : ((o + 1 + j : Nat) : Int) + 1 = ((o + 1 + (j + 1) : Nat) : Int) := by omega
    have hle : ((o + 1 + j : Nat) : Int) ≤ (o : Int) + (P : Int) := by omega
    have hpj := hpl j
    have hs : ptrF (fun p => wat L (p - base)) l o (j + 1) = ptrF (fun p => wat L (p - base)) l o j ++ (if PtrOk l (wat L (o + 1 + j - base)).toNat then [] else [(o + 1 + j, sPtr)]) := rfl
    have hpt := points_spec Wd hl hb (wat L (o + 1 + j - base))
    unfold check_walk_object_l1
    generalize wat L (o + 1 + j - base) = xw at *
    generalize hq : o + 1 + j = q at *
    simp (disch := (first | omega | decide | (simp only [World.size_alloc, World.size_setCell, World.size_drew, size_sets, List.mem_cons, List.not_mem_nil, or_false, not_false_eq_true] <;> omega) | fail)) only [↓rsChk3_0, rsChk3_1, Option.isNone_some, Option.isNone_none, tick_eq, tickV_eq, ne_eq, Int.reduceAdd, Int.reduceSub, Int.reduceMul, Int.reduceEq, Int.reduceLT, Int.reduceLE, Int.reduceToNat, Nat.reduceMul, Nat.reduceAdd, Nat.reduceSub, List.nil_append, List.cons_append, List.getElem?_toArray, List.getElem?_cons_zero, List.getElem?_cons_succ, List.setIfInBounds_toArray, List.set_cons_zero, List.set_cons_succ, Option.map_some, List.not_mem_nil, ←decide_not, kb, hlk2, k1, kd, e2, kw1]
    refine check_walk_points_call (Gives.to hpt fun w2 F2d => ?_)
    have F2 := (Ext.drew [] _).trans F2d
    have W2 := W.ext0 F2
    by_cases hok2 : PtrOk l xw.toNat
    · rw [decide_eq_true hok2]
      rw [if_pos hok2, List.append_nil] at hs
      unfold check_walk_object_j1
      simp (disch := (first | omega | decide | (simp only [World.size_alloc, World.size_setCell, World.size_drew, size_sets, List.mem_cons, List.not_mem_nil, or_false, not_false_eq_true] <;> omega) | fail)) only [↓rsChk3_0, rsChk3_1, Option.isNone_some, Option.isNone_none, tick_eq, tickV_eq, ne_eq, Int.reduceAdd, Int.reduceSub, Int.reduceMul, Int.reduceEq, Int.reduceLT, Int.reduceLE, Int.reduceToNat, Nat.reduceMul, Nat.reduceAdd, Nat.reduceSub, List.nil_append, List.cons_append, List.getElem?_toArray, List.getElem?_cons_zero, List.getElem?_cons_succ, List.setIfInBounds_toArray, List.set_cons_zero, List.set_cons_succ, Option.map_some, List.not_mem_nil, ←decide_not, kb, hlk2, k1, kd, e2, kw1]
      rw [e3]
      exact hnx _ ⟨v', by rw [hs]; exact W2, ⟨T.ext.trans (F2.more (by simp)), T.at'⟩⟩
    · rw [decide_eq_false hok2]
      rw [if_neg hok2] at hs
      have cP : ({ data := #[112, 116, 114] } : ByteArray) = strOf sPtr := by decide +kernel
      simp (disch := (first | omega | decide | (simp only [World.size_alloc, World.size_setCell, World.size_drew, size_sets, List.mem_cons, List.not_mem_nil, or_false, not_false_eq_true] <;> omega) | fail)) only [↓rsChk3_0, rsChk3_1, Option.isNone_some, Option.isNone_none, tick_eq, tickV_eq, ne_eq, Int.reduceAdd, Int.reduceSub, Int.reduceMul, Int.reduceEq, Int.reduceLT, Int.reduceLE, Int.reduceToNat, Nat.reduceMul, Nat.reduceAdd, Nat.reduceSub, List.nil_append, List.cons_append, List.getElem?_toArray, List.getElem?_cons_zero, List.getElem?_cons_succ, List.setIfInBounds_toArray, List.set_cons_zero, List.set_cons_succ, Option.map_some, List.not_mem_nil, ←decide_not, kb, hlk2, k1, kd, e2, kw1]
      rw [cP]
      refine check_walk_add_call (Yld.mono (add_spec (at' := q) (s := sPtr) W2 (by rw [List.length_append]; omega)) ?_)
      rintro u w3 ⟨v3, W3, T3⟩
      unfold check_walk_object_j1
      simp (disch := (first | omega | decide | (simp only [World.size_alloc, World.size_setCell, World.size_drew, size_sets, List.mem_cons, List.not_mem_nil, or_false, not_false_eq_true] <;> omega) | fail)) only [↓rsChk3_0, rsChk3_1, Option.isNone_some, Option.isNone_none, tick_eq, tickV_eq, ne_eq, Int.reduceAdd, Int.reduceSub, Int.reduceMul, Int.reduceEq, Int.reduceLT, Int.reduceLE, Int.reduceToNat, Nat.reduceMul, Nat.reduceAdd, Nat.reduceSub, List.nil_append, List.cons_append, List.getElem?_toArray, List.getElem?_cons_zero, List.getElem?_cons_succ, List.setIfInBounds_toArray, List.set_cons_zero, List.set_cons_succ, Option.map_some, List.not_mem_nil, ←decide_not, kb, hlk2, k1, kd, e2, kw1]
      rw [e3]
      refine hnx _ ⟨v3, by rw [hs, ← List.append_assoc]; exact W3, ?_⟩
      exact (Stp.trans ⟨T.ext.trans (F2.more (by simp)), T.at'⟩ T3)
  · rintro u w1 hu ⟨v', W, T⟩ nxt
    simp only [List.map_cons, List.map_nil, List.cons.injEq, and_true] at hu
    rw [hu]
    have B1 := B.ext T.ext hhb
    have k1 := fun i => B1.cell (i := i)
    have hpj := hpl P
    unfold check_walk_object_l1
    simp (disch := (first | omega | decide | (simp only [World.size_alloc, World.size_setCell, World.size_drew, size_sets, List.mem_cons, List.not_mem_nil, or_false, not_false_eq_true] <;> omega) | fail)) only [↓rsChk3_0, rsChk3_1, Option.isNone_some, Option.isNone_none, tick_eq, tickV_eq, ne_eq, Int.reduceAdd, Int.reduceSub, Int.reduceMul, Int.reduceEq, Int.reduceLT, Int.reduceLE, Int.reduceToNat, Nat.reduceMul, Nat.reduceAdd, Nat.reduceSub, List.nil_append, List.cons_append, List.getElem?_toArray, List.getElem?_cons_zero, List.getElem?_cons_succ, List.setIfInBounds_toArray, List.set_cons_zero, List.set_cons_succ, Option.map_some, List.not_mem_nil, ←decide_not, kb, hlk2, k1]
    refine head_Size_call (Gives.to (hsz _) fun w2 F2 => ?_)
    have W2 := W.ext0 F2
    have kd := fun i => W2.blk.cell (i := i)
    have hi : o + Z - 1 - base < L.length := by omega
    obtain ⟨b1, o1, rfl, kw1⟩ := word_at W2 hi
    have e2 : (o : Int) + (Z : Int) - 1 = ((o + Z - 1 : Nat) : Int) := by omega
    have e3 : ((o + Z - 1 : Nat) : Int) - (base : Int) = ((o + Z - 1 - base : Nat) : Int) := by omega
    have B2 := B1.ext F2 (by simp)
    have k2 := fun i => B2.cell (i := i)
    have hpd := cpad_spec (wat L (o + Z - 1 - base)) N (by omega) w2.drew
    generalize wat L (o + Z - 1 - base) = xw at *
    simp (disch := (first | omega | decide | (simp only [World.size_alloc, World.size_setCell, World.size_drew, size_sets, List.mem_cons, List.not_mem_nil, or_false, not_false_eq_true] <;> omega) | fail)) only [↓rsChk3_0, rsChk3_1, Option.isNone_some, Option.isNone_none, tick_eq, tickV_eq, ne_eq, Int.reduceAdd, Int.reduceSub, Int.reduceMul, Int.reduceEq, Int.reduceLT, Int.reduceLE, Int.reduceToNat, Nat.reduceMul, Nat.reduceAdd, Nat.reduceSub, List.nil_append, List.cons_append, List.getElem?_toArray, List.getElem?_cons_zero, List.getElem?_cons_succ, List.setIfInBounds_toArray, List.set_cons_zero, List.set_cons_succ, Option.map_some, List.not_mem_nil, ←decide_not, kb, hlk2, k1]
    rw [e2]
    generalize hq : o + Z - 1 = q at *
    simp (disch := (first | omega | decide | (simp only [World.size_alloc, World.size_setCell, World.size_drew, size_sets, List.mem_cons, List.not_mem_nil, or_false, not_false_eq_true] <;> omega) | fail)) only [↓rsChk3_0, rsChk3_1, Option.isNone_some, Option.isNone_none, tick_eq, tickV_eq, ne_eq, Int.reduceAdd, Int.reduceSub, Int.reduceMul, Int.reduceEq, Int.reduceLT, Int.reduceLE, Int.reduceToNat, Nat.reduceMul, Nat.reduceAdd, Nat.reduceSub, List.nil_append, List.cons_append, List.getElem?_toArray, List.getElem?_cons_zero, List.getElem?_cons_succ, List.setIfInBounds_toArray, List.set_cons_zero, List.set_cons_succ, Option.map_some, List.not_mem_nil, ←decide_not, kb, hlk2, k1, kd, e3, kw1, k2]
    refine check_pad_call (Gives.to hpd fun w3 F3d => ?_)
    have F3 := (Ext.drew [] _).trans F3d
    have W3 := W2.ext0 F3
    have T3 : Stp (k :: Go.Sh.blk v) (k :: Go.Sh.blk v') y w3 := ⟨T.ext.trans ((F2.trans F3).more (by simp)), T.at'⟩
    have X0 : ∀ {v4 : Value} {w4 : World}, Stp (k :: Go.Sh.blk v) (k :: Go.Sh.blk v4) y w4 → Stp (k :: Go.Sh.blk v) (k :: Go.Sh.blk v4) w w4 := fun T4 => ⟨(X.more (by simp)).trans T4.ext, fun z hz => (T4.at' z hz).imp id fun h5 => Nat.le_trans X.size h5⟩
    by_cases hp : (N % 8 ≠ 0 ∧ xw >>> (8 * (N % 8)) ≠ 0#64)
    · rw [decide_eq_true hp]
      rw [if_pos hp] at hpadF
      have cP : ({ data := #[112, 97, 100] } : ByteArray) = strOf sPad := by decide +kernel
      simp (disch := (first | omega | decide | (simp only [World.size_alloc, World.size_setCell, World.size_drew, size_sets, List.mem_cons, List.not_mem_nil, or_false, not_false_eq_true] <;> omega) | fail)) only [↓rsChk3_0, rsChk3_1, Option.isNone_some, Option.isNone_none, tick_eq, tickV_eq, ne_eq, Int.reduceAdd, Int.reduceSub, Int.reduceMul, Int.reduceEq, Int.reduceLT, Int.reduceLE, Int.reduceToNat, Nat.reduceMul, Nat.reduceAdd, Nat.reduceSub, List.nil_append, List.cons_append, List.getElem?_toArray, List.getElem?_cons_zero, List.getElem?_cons_succ, List.setIfInBounds_toArray, List.set_cons_zero, List.set_cons_succ, Option.map_some, List.not_mem_nil, ←decide_not, kb, hlk2, k1, kd, e3, kw1, k2]
      rw [cP]
      refine check_walk_add_call (Yld.mono (add_spec (at' := q) (s := sPad) W3 (by rw [List.length_append]; omega)) ?_)
      rintro u w4 ⟨v4, W4, T4⟩
      refine ⟨v4, by rw [hpadF, ← List.append_assoc]; exact W4, X0 (T3.trans T4)⟩
    · rw [decide_eq_false hp]
      rw [if_neg hp] at hpadF
      simp (disch := (first | omega | decide | (simp only [World.size_alloc, World.size_setCell, World.size_drew, size_sets, List.mem_cons, List.not_mem_nil, or_false, not_false_eq_true] <;> omega) | fail)) only [↓rsChk3_0, rsChk3_1, Option.isNone_some, Option.isNone_none, tick_eq, tickV_eq, ne_eq, Int.reduceAdd, Int.reduceSub, Int.reduceMul, Int.reduceEq, Int.reduceLT, Int.reduceLE, Int.reduceToNat, Nat.reduceMul, Nat.reduceAdd, Nat.reduceSub, List.nil_append, List.cons_append, List.getElem?_toArray, List.getElem?_cons_zero, List.getElem?_cons_succ, List.setIfInBounds_toArray, List.set_cons_zero, List.set_cons_succ, Option.map_some, List.not_mem_nil, ←decide_not, kb, hlk2, k1, kd, e3, kw1, k2]
      refine ⟨v', by rw [hpadF, List.append_nil]; exact W3, X0 T3⟩
abbrev rsChk3_2 := (And.intro @xBox_r (And.intro @loadK_some (And.intro @loadsK_s (And.intro @loadsK_n (And.intro @loadsR_s (And.intro @loadsR_n (And.intro @storesK_s (And.intro @storesK_n (And.intro @xPick_t (And.intro @xPick_f (And.intro @xGuard_tt (And.intro @xGuard_ff (And.intro @xGuard_tf (And.intro @xGuard_ft (And.intro @xGuard_u 
  (And.intro @xNil_r (And.intro @xIf_t (And.intro @xBin_add' (And.intro @xBin_sub' (And.intro @xBin_mul' (And.intro @xBin_quo' (And.intro @xBin_rem' (And.intro @xIf_f (And.intro @xIf_tt (And.intro @xEx0 (And.intro @xEx1 (And.intro @xEx2 (And.intro @xEx3 (And.intro @xBin_eqs (And.intro @xBin_nes (And.intro @xUn_not (And.intro @xu8_add (And.intro @xu8_lss 
  (And.intro @xu16_add (And.intro @xu16_lss (And.intro @xu32_add (And.intro @xu32_lss (And.intro @xu64_add (And.intro @xu64_lss (And.intro @xi64_lss (And.intro @xMakeFunc_r (And.intro @xSq_r (And.intro @xPur_s (And.intro @xRd_s (And.intro @xRe_s (And.intro @xDet_s (And.intro @xDet_ld (And.intro @xDet_ld2 (And.intro @xDet_ld3 (And.intro @xDet_ld4 
  (And.intro @xGuard_tt (And.intro @ld_3 (And.intro @bd_96_0_1_2 (And.intro @ia_66 @ln_66))))))))))))))))))))))))))))))))))))))))))))))))))))))
theorem look_spec (w : World) (L : List (BitVec 64)) (a : Option Addr) (c base : Nat) (hrow : RowAt w a (wrds L)) (hb : base + L.length ≤ 8192) (hc0 : L.length ≤ c) : Yld Try.prog n_check_look #[.slice a L.length c, i64 (base : Int)] w fun u w' => ∃ k r v l bad, u = ptr k ∧ Sc (fun p => wat L (p - base)) (base + L.length) base l bad ∧ WkIs w w' k r v a c L base l (allF (fun p => wat L (p - base)) l bad) := by
  refine check_look_of ?_
  unfold check_look
  have hm := fun (K : K1) (w : World) => xMakeMap_r (P := Try.prog) (w := w) (K := K) (t := 94)
  simp (disch := (first | omega | decide | (simp only [World.size_alloc, World.size_setCell, World.size_drew, size_sets, List.mem_cons, List.not_mem_nil, or_false, not_false_eq_true] <;> omega) | fail)) only [↓rsChk3_2, rsChk3_1, Option.isNone_some, Option.isNone_none, tick_eq, tickV_eq, ne_eq, Int.reduceAdd, Int.reduceSub, Int.reduceMul, Int.reduceEq, Int.reduceLT, Int.reduceLE, Int.reduceToNat, Nat.reduceMul, Nat.reduceAdd, Nat.reduceSub, List.nil_append, List.cons_append, List.getElem?_toArray, List.getElem?_cons_zero, List.getElem?_cons_succ, List.setIfInBounds_toArray, List.set_cons_zero, List.set_cons_succ, Option.map_some, List.not_mem_nil, ←decide_not, hm]
  have X1 : Ext [] w (w.alloc (.map #[] 0)) := Ext.alloc _ _ _
  have M1 := MapIs.new w
  have W : WkIs w ((w.alloc (.map #[] 0)).alloc (.cells #[.slice a L.length c, i64 (base : Int), .map (some w.heap.size), .slice none 0 0] 96)) (w.heap.size + 1) w.heap.size (.slice none 0 0) a c L base [] [] := by
    have X2 : Ext [] (w.alloc (.map #[] 0)) ((w.alloc (.map #[] 0)).alloc (.cells #[.slice a L.length c, i64 (base : Int), .map (some w.heap.size), .slice none 0 0] 96)) := Ext.alloc _ _ _
    refine ⟨?_, M1.ext0 X2, Own.nil, by omega, by simp [Go.Sh.blk, Value.ownBlock], by simp [Go.Sh.blk, Value.ownBlock], ⟨by omega, Nat.le_refl _, by simp [Go.Sh.blk, Value.ownBlock]⟩, (hrow.ext0 X1).ext0 X2, fun b o hz hL => ?_, X1.trans X2⟩
    · have := Blk.at (w := w.alloc (.map #[] 0)) (e := 96) (cs := [.slice a L.length c, i64 (base : Int), .map (some w.heap.size), .slice none 0 0]) rfl
      rw [World.size_alloc] at this
      exact this
    · obtain ⟨b9, o9, h9, z9, _⟩ := hrow.get (by simpa using hL)
      rw [hz] at h9
      simp only [Option.some.injEq, Addr.mk.injEq, and_true] at h9
      omega
  simp only [World.size_alloc]
  generalize (w.alloc (.map #[] 0)).alloc (.cells #[.slice a L.length c, i64 (base : Int), .map (some w.heap.size), .slice none 0 0] 96) = y at *
  generalize w.heap.size + 1 = k at *
  refine check_walk_objects_call (Yld.mono (objects_spec W hb hc0) ?_)
  rintro u w1 ⟨v', a2, c2, l, bad, rfl, R1, D1, hS, W1⟩
  have hcount := hS.count
  obtain ⟨hsort, hall⟩ := hS.all
  have hlb : ∀ p ∈ l, p < base + L.length := fun p hp => by
    have := hall p hp
    have := szW_pos (x := wat L (p - base))
    omega
  simp (disch := (first | omega | decide | (simp only [World.size_alloc, World.size_setCell, World.size_drew, size_sets, List.mem_cons, List.not_mem_nil, or_false, not_false_eq_true] <;> omega) | fail)) only [↓rsChk3_2, rsChk3_1, Option.isNone_some, Option.isNone_none, tick_eq, tickV_eq, ne_eq, Int.reduceAdd, Int.reduceSub, Int.reduceMul, Int.reduceEq, Int.reduceLT, Int.reduceLE, Int.reduceToNat, Nat.reduceMul, Nat.reduceAdd, Nat.reduceSub, List.nil_append, List.cons_append, List.getElem?_toArray, List.getElem?_cons_zero, List.getElem?_cons_succ, List.setIfInBounds_toArray, List.set_cons_zero, List.set_cons_succ, Option.map_some, List.not_mem_nil, ←decide_not, hm]
  refine xLoop_n l.length (fun j => [i64 (j : Int)]) (fun j w' => ∃ v'', WkIs w w' k w.heap.size v'' a c L base l (badF bad ++ (l.take j).flatMap (objF (fun p => wat L (p - base)) l)) ∧ Stp (k :: Go.Sh.blk v') (k :: Go.Sh.blk v'') w1 w') rfl ⟨v', by simpa using W1, Stp.refl _ _⟩ ?_ ?_
  · rintro j hj u w2 hu ⟨v2, W2, T2⟩ nxt hnx
    simp only [List.map_cons, List.map_nil, List.cons.injEq, and_true] at hu
    rw [hu]
    have R2 := R1.ext T2.ext (fun z o hz hm => by
      obtain ⟨d1, d2, d3⟩ := D1 z o hz
      rcases List.mem_cons.1 hm with e | hm
      · exact d2 e
      · exact d3 hm)
    obtain ⟨b1, o1, rfl, z1, k1⟩ := R2.at (i := j) (by simpa using hj)
    simp only [List.getElem_map] at k1
    have hm := List.getElem_mem hj
    obtain ⟨g1, g2, g3⟩ := hall _ hm
    have hfl : (badF bad ++ (l.take j).flatMap (objF (fun p => wat L (p - base)) l)).length ≤ 100000 := by
      have h1 := hS.fnd l j
      have h2 : (badF bad).length ≤ 1 := by cases bad <;> simp [badF]
      rw [List.length_append]
      omega
    have hsucc : badF bad ++ (l.take (j + 1)).flatMap (objF (fun p => wat L (p - base)) l) = (badF bad ++ (l.take j).flatMap (objF (fun p => wat L (p - base)) l)) ++ objF (fun p => wat L (p - base)) l l[j] := by
      rw [List.take_add_one, List.getElem?_eq_getElem hj, List.flatMap_append, List.append_assoc]
      simp
    unfold check_look_l1
    simp (disch := (first | omega | decide | (simp only [World.size_alloc, World.size_setCell, World.size_drew, size_sets, List.mem_cons, List.not_mem_nil, or_false, not_false_eq_true] <;> omega) | fail)) only [↓rsChk3_2, rsChk3_1, Option.isNone_some, Option.isNone_none, tick_eq, tickV_eq, ne_eq, Int.reduceAdd, Int.reduceSub, Int.reduceMul, Int.reduceEq, Int.reduceLT, Int.reduceLE, Int.reduceToNat, Nat.reduceMul, Nat.reduceAdd, Nat.reduceSub, List.nil_append, List.cons_append, List.getElem?_toArray, List.getElem?_cons_zero, List.getElem?_cons_succ, List.setIfInBounds_toArray, List.set_cons_zero, List.set_cons_succ, Option.map_some, List.not_mem_nil, ←decide_not, hm, k1]
    refine check_walk_object_call (Yld.mono (object_spec W2 hlb hb hc0 hm g1 g2 g3 hfl) ?_)
    rintro u w3 ⟨v3, W3, T3⟩
    simp (disch := (first | omega | decide | (simp only [World.size_alloc, World.size_setCell, World.size_drew, size_sets, List.mem_cons, List.not_mem_nil, or_false, not_false_eq_true] <;> omega) | fail)) only [↓rsChk3_2, rsChk3_1, Option.isNone_some, Option.isNone_none, tick_eq, tickV_eq, ne_eq, Int.reduceAdd, Int.reduceSub, Int.reduceMul, Int.reduceEq, Int.reduceLT, Int.reduceLE, Int.reduceToNat, Nat.reduceMul, Nat.reduceAdd, Nat.reduceSub, List.nil_append, List.cons_append, List.getElem?_toArray, List.getElem?_cons_zero, List.getElem?_cons_succ, List.setIfInBounds_toArray, List.set_cons_zero, List.set_cons_succ, Option.map_some, List.not_mem_nil, ←decide_not, hm, k1]
    exact hnx _ ⟨v3, by rw [hsucc]; exact W3, T2.trans T3⟩
  · rintro u w2 hu ⟨v2, W2, T2⟩ nxt
    simp only [List.map_cons, List.map_nil, List.cons.injEq, and_true] at hu
    rw [hu]
    unfold check_look_l1
    simp (disch := (first | omega | decide | (simp only [World.size_alloc, World.size_setCell, World.size_drew, size_sets, List.mem_cons, List.not_mem_nil, or_false, not_false_eq_true] <;> omega) | fail)) only [↓rsChk3_2, rsChk3_1, Option.isNone_some, Option.isNone_none, tick_eq, tickV_eq, ne_eq, Int.reduceAdd, Int.reduceSub, Int.reduceMul, Int.reduceEq, Int.reduceLT, Int.reduceLE, Int.reduceToNat, Nat.reduceMul, Nat.reduceAdd, Nat.reduceSub, List.nil_append, List.cons_append, List.getElem?_toArray, List.getElem?_cons_zero, List.getElem?_cons_succ, List.setIfInBounds_toArray, List.set_cons_zero, List.set_cons_succ, Option.map_some, List.not_mem_nil, ←decide_not, hm]
    exact ⟨k, w.heap.size, v2, l, bad, by trivial, hS, by rw [List.take_length] at W2; exact W2⟩
end
end Go.Proofs.Ytdpmidgeipibbaa
end
section
set_option linter.unusedVariables false
set_option linter.unusedSimpArgs false
set_option maxHeartbeats 4000000
namespace Go.Proofs.Ytdpmidgeipibbaa
open Go.Sh Go.RowKit

theorem ptrF_congr {x y : Nat → BitVec 64} {l : List Nat} {o : Nat} : ∀ k, (∀ i, i < k → x (o + 1 + i) = y (o + 1 + i)) → ptrF x l o k = ptrF y l o k
  | 0, _ => rfl
  | k + 1, h => by
    rw [ptrF, ptrF, ptrF_congr k (fun i hi => h i (by omega)), h k (by omega)]
theorem flat_congr {α β : Type} {f g : α → List β} : ∀ l : List α, (∀ x ∈ l, f x = g x) → l.flatMap f = l.flatMap g
  | [], _ => rfl
  | x :: l, h => by rw [List.flatMap_cons, List.flatMap_cons, h x (by simp), flat_congr l fun y hy => h y (by simp [hy])]
theorem allF_congr {x y : Nat → BitVec 64} {b t : Nat} {l : List Nat} {bad : Option Nat} (h : Sc x t b l bad) (e : ∀ i, b ≤ i → i < t → x i = y i) : allF x l bad = allF y l bad := by
  unfold allF
  congr 1
  refine flat_congr l ?_
  intro o ho
  obtain ⟨h1, h2, h3⟩ := h.all.2 o ho
  have h4 := szW_ge (y := x o)
  have e0 := e o h1 (by omega)
  have e2 := e (o + szW (x o) - 1) (by omega) (by omega)
  have hp : padX x o ↔ padX y o := by unfold padX; rw [← e0, e2]
  have hpF : padF x o = padF y o := by
    unfold padF
    by_cases h6 : padX x o
    · rw [if_pos h6, if_pos (hp.1 h6), e0]
    · rw [if_neg h6, if_neg (fun h7 => h6 (hp.2 h7))]
  unfold objF
  rw [hpF, ptrF_congr (pN (x o)) (fun i hi => e _ (by omega) (by omega)), e0]
/-- findings, as a row -/
def FndR (w w' : World) (u : Value) (F : List Fnd) : Prop := Ext [] w w' ∧ ∃ a2 c2, u = .slice a2 F.length c2 ∧ F.length ≤ c2 ∧ (a2 = none → c2 = 0) ∧ RowAt w' a2 (F.flatMap fC)
abbrev rsChk4_0 := (And.intro @xBox_r (And.intro @loadK_some (And.intro @loadsK_s (And.intro @loadsK_n (And.intro @loadsR_s (And.intro @loadsR_n (And.intro @storesK_s (And.intro @storesK_n (And.intro @xPick_t (And.intro @xPick_f (And.intro @xGuard_tt (And.intro @xGuard_ff (And.intro @xGuard_tf (And.intro @xGuard_ft (And.intro @xGuard_u 
  (And.intro @xNil_r (And.intro @xIf_t (And.intro @xBin_add' (And.intro @xBin_sub' (And.intro @xBin_mul' (And.intro @xBin_quo' (And.intro @xBin_rem' (And.intro @xIf_f (And.intro @xIf_tt (And.intro @xEx0 (And.intro @xEx1 (And.intro @xEx2 (And.intro @xEx3 (And.intro @xBin_eqs (And.intro @xBin_nes (And.intro @xUn_not (And.intro @xMakeFunc_r (And.intro @xSq_r 
  (And.intro @xPur_s (And.intro @xRd_s (And.intro @xRe_s (And.intro @xDet_s (And.intro @xDet_ld (And.intro @xDet_ld2 (And.intro @xDet_ld3 (And.intro @xDet_ld4 (And.intro @xGuard_tt @ln_37))))))))))))))))))))))))))))))))))))))))))
abbrev rsChk4_1 := (And.intro @setCells_c (And.intro @setCells_n (And.intro @World.setCell_alloc_at (And.intro @World.setCell_alloc_past (And.intro @World.cell?_alloc_at (And.intro @World.cell?_alloc_past (And.intro @World.frozen?_alloc_at (And.intro @World.frozen?_alloc_past 
  (And.intro @World.size_alloc (And.intro @dlt_t (And.intro @dlt_f (And.intro @dle_t (And.intro @dle_f (And.intro @deq_t (And.intro @deq_f (And.intro @dne_t (And.intro @dne_f (And.intro @not_true_eq_false (And.intro @Bool.false_and (And.intro @Bool.true_and (And.intro @Bool.and_true (And.intro @Bool.and_false (And.intro @wrap_in (And.intro @Int.toNat_natCast 
  (And.intro @Nat.mul_one (And.intro @cells_int (And.intro @cells_bool (And.intro @cells_string (And.intro @cells_slice (And.intro @cells_pointer (And.intro @cells_agg (And.intro @one_int (And.intro @one_bool (And.intro @one_string (And.intro @one_slice (And.intro @one_pointer (And.intro @beq_tt (And.intro @beq_ff (And.intro @beq_tf 
  (And.intro @beq_ft (And.intro @cell_sets_b (And.intro @frozen_sets (And.intro @size_sets (And.intro @World.size_drew (And.intro @Nat.zero_add (And.intro @Nat.add_zero (And.intro @cell_drew (And.intro @frozen_drew (And.intro @cell_set_eq (And.intro @cell_set_o (And.intro @cell_set_b (And.intro @World.frozen?_setCell 
  (And.intro @decide_true (And.intro @decide_false (And.intro @not_false_eq_true (And.intro @Bool.not_true @Bool.not_false))))))))))))))))))))))))))))))))))))))))))))))))))))))))
theorem ClipF_spec {w : World} {b : Option Addr} {n m : Nat} (hm : n ≤ m) : Gives Try.prog n_slices_Clip_check_Finding_check_Finding #[.slice b n m] w (.slice b n n) := by
  refine slices_Clip_check_Finding_check_Finding_of ?_
  unfold slices_Clip_check_Finding_check_Finding
  have hs := fun (K : K1) (w : World) => xSlice_hms (P := Try.prog) (w := w) (K := K) (t := 37) (z := 2) (k := .i64) (k' := .i64) (a := b) (n := n) (c := m) (h := (n : Int)) (m := (n : Int)) (by kernel_rfl) (by kernel_rfl) (by omega) (by omega) (by omega)
  simp (disch := (first | omega | decide | (simp only [World.size_alloc, World.size_setCell, World.size_drew, size_sets, List.mem_cons, List.not_mem_nil, or_false, not_false_eq_true] <;> omega) | fail)) only [↓rsChk4_0, rsChk4_1, Option.isNone_some, Option.isNone_none, tick_eq, tickV_eq, ne_eq, Int.reduceAdd, Int.reduceSub, Int.reduceMul, Int.reduceEq, Int.reduceLT, Int.reduceLE, Int.reduceToNat, Nat.reduceMul, Nat.reduceAdd, Nat.reduceSub, List.nil_append, List.cons_append, List.getElem?_toArray, List.getElem?_cons_zero, List.getElem?_cons_succ, List.setIfInBounds_toArray, List.set_cons_zero, List.set_cons_succ, Option.map_some, List.not_mem_nil, ←decide_not, hs]
  exact ⟨by simp, Ext.refl _ _⟩
/-- what look leaves, as findings -/
theorem fnd_of {w0 w : World} {k r : Nat} {v : Value} {a : Option Addr} {c : Nat} {L : List (BitVec 64)} {base : Nat} {l : List Nat} {F : List Fnd} (W : WkIs w0 w k r v a c L base l F) : ∃ a2 c2, v = .slice a2 F.length c2 ∧ F.length ≤ c2 ∧ (a2 = none → c2 = 0) ∧ RowAt w a2 (F.flatMap fC) := by
  obtain ⟨a2, c2, hv, h1, h2, h3, h4, _⟩ := W.own.slice
  exact ⟨a2, c2, hv, h1, h3, h4⟩
section
variable {w : World} {base s g : Nat} {a : Option Addr} {c : Nat} {ws : List (BitVec 64)} {b t e : Nat}
end
end Go.Proofs.Ytdpmidgeipibbaa
end
section
set_option linter.unusedVariables false
set_option linter.unusedSimpArgs false
set_option maxHeartbeats 4000000
namespace Go.Proofs.Ytdpmidgeipibbaa
open Go.Sh Go.RowKit

def sMagic : List (BitVec 8) := [109#8, 97#8, 103#8, 105#8, 99#8]
def sSize : List (BitVec 8) := [115#8, 105#8, 122#8, 101#8]
def nR (l : List (BitVec 64)) : Nat := (fieldB (wat l 1) 0 16).toNat
def sizeOk (l : List (BitVec 64)) : Prop := 2 ≤ l.length ∧ fieldB (wat l 1) 48 16 = BitVec.ofNat 64 0 ∧ fieldB (wat l 1) 16 32 = BitVec.ofNat 64 l.length ∧ nR l ≤ 64 ∧ 2 + 5 * nR l ≤ l.length
instance (l : List (BitVec 64)) : Decidable (sizeOk l) := by unfold sizeOk; infer_instance
def magF (l : List (BitVec 64)) : List Fnd := if l.length < 1 ∨ wat l 0 ≠ BitVec.ofNat 64 1296125772 then [(0, sMagic)] else []
theorem nR_lt (l : List (BitVec 64)) : nR l < 65536 := by
  have h : (fieldB (wat l 1) 0 16).toNat = _ := field_nat (wat l 1) (a := 0) (n := 16) (by decide) (by decide)
  unfold nR
  rw [h]
  exact Nat.mod_lt _ (by decide)
theorem row_w {w : World} {a : Option Addr} {l : List (BitVec 64)} (h : RowAt w a (wrds l)) {i : Nat} (hi : i < l.length) : ∃ b o, a = some ⟨b, o, none⟩ ∧ b < w.heap.size ∧ w.cell? ⟨b, o + i, none⟩ = some (u64 (wat l i)) := by
  obtain ⟨b5, o5, h5, z5, k5⟩ := h.at (i := i) (by simpa using hi)
  refine ⟨b5, o5, h5, z5, ?_⟩
  simp only [List.getElem_map] at k5
  rw [k5]
  unfold wat
  rw [List.getD_eq_getElem?_getD, List.getElem?_eq_getElem hi]
  rfl
abbrev rsChk5_0 := (And.intro @xBox_r (And.intro @loadK_some (And.intro @loadsK_s (And.intro @loadsK_n (And.intro @loadsR_s (And.intro @loadsR_n (And.intro @storesK_s (And.intro @storesK_n (And.intro @xPick_t (And.intro @xPick_f (And.intro @xGuard_tt (And.intro @xGuard_ff (And.intro @xGuard_tf (And.intro @xGuard_ft (And.intro @xGuard_u 
  (And.intro @xNil_r (And.intro @xIf_t (And.intro @xBin_add' (And.intro @xBin_sub' (And.intro @xBin_mul' (And.intro @xBin_quo' (And.intro @xBin_rem' (And.intro @xIf_f (And.intro @xIf_tt (And.intro @xEx0 (And.intro @xEx1 (And.intro @xEx2 (And.intro @xEx3 (And.intro @xBin_eqs (And.intro @xBin_nes (And.intro @xUn_not (And.intro @xu8_add (And.intro @xu8_mul 
  (And.intro @xu8_eql (And.intro @xu8_lss (And.intro @xu8_leq (And.intro @xu16_add (And.intro @xu16_mul (And.intro @xu16_eql (And.intro @xu16_lss (And.intro @xu16_leq (And.intro @xu32_add (And.intro @xu32_mul (And.intro @xu32_eql (And.intro @xu32_lss (And.intro @xu32_leq (And.intro @xu64_add (And.intro @xu64_mul (And.intro @xu64_eql (And.intro @xu64_lss 
  (And.intro @xu64_leq (And.intro @xi64_lss (And.intro @xi64_leq (And.intro @xi64_eql (And.intro @xMakeFunc_r (And.intro @xSq_r (And.intro @xPur_s (And.intro @xRd_s (And.intro @xRe_s (And.intro @xDet_s (And.intro @xDet_ld (And.intro @xDet_ld2 (And.intro @xDet_ld3 (And.intro @xDet_ld4 (And.intro @xGuard_tt (And.intro @ld_69 (And.intro @cv_3_69 (And.intro @cv_69_3 
  (And.intro @ia_28 @ln_28)))))))))))))))))))))))))))))))))))))))))))))))))))))))))))))))))))))
abbrev rsChk5_1 := (And.intro @setCells_c (And.intro @setCells_n (And.intro @World.setCell_alloc_at (And.intro @World.setCell_alloc_past (And.intro @World.cell?_alloc_at (And.intro @World.cell?_alloc_past (And.intro @World.frozen?_alloc_at (And.intro @World.frozen?_alloc_past 
  (And.intro @World.size_alloc (And.intro @dlt_t (And.intro @dlt_f (And.intro @dle_t (And.intro @dle_f (And.intro @deq_t (And.intro @deq_f (And.intro @dne_t (And.intro @dne_f (And.intro @not_true_eq_false (And.intro @Bool.false_and (And.intro @Bool.true_and (And.intro @Bool.and_true (And.intro @Bool.and_false (And.intro @wrap_in (And.intro @Int.toNat_natCast 
  (And.intro @Nat.mul_one (And.intro @cells_int (And.intro @cells_bool (And.intro @cells_string (And.intro @cells_slice (And.intro @cells_pointer (And.intro @cells_agg (And.intro @one_int (And.intro @one_bool (And.intro @one_string (And.intro @one_slice (And.intro @one_pointer (And.intro @beq_tt (And.intro @beq_ff (And.intro @beq_tf 
  (And.intro @beq_ft (And.intro @cell_sets_b (And.intro @frozen_sets (And.intro @size_sets (And.intro @World.size_drew (And.intro @Nat.zero_add (And.intro @Nat.add_zero (And.intro @cell_drew (And.intro @frozen_drew (And.intro @cell_set_eq (And.intro @cell_set_o (And.intro @cell_set_b (And.intro @World.frozen?_setCell 
  (And.intro @decide_true (And.intro @decide_false (And.intro @not_false_eq_true (And.intro @Bool.not_true @Bool.not_false))))))))))))))))))))))))))))))))))))))))))))))))))))))))
theorem csize_spec (l : List (BitVec 64)) (a : Option Addr) (c : Nat) (w : World) (h : RowAt w a (wrds l)) (hl : l.length ≤ 100000) : Gives Try.prog n_check_size #[.slice a l.length c] w (.tuple #[i64 ((if l.length < 2 then 0 else nR l : Nat) : Int), .bool (decide (sizeOk l))]) := by
  refine check_size_of ?_
  unfold check_size
  by_cases h2 : l.length < 2
  · rw [if_pos h2, decide_eq_false (fun h => by have := h.1; omega)]
    simp (disch := (first | omega | decide | (simp only [World.size_alloc, World.size_setCell, World.size_drew, size_sets, List.mem_cons, List.not_mem_nil, or_false, not_false_eq_true] <;> omega) | fail)) only [↓rsChk5_0, rsChk5_1, Option.isNone_some, Option.isNone_none, tick_eq, tickV_eq, ne_eq, Int.reduceAdd, Int.reduceSub, Int.reduceMul, Int.reduceEq, Int.reduceLT, Int.reduceLE, Int.reduceToNat, Nat.reduceMul, Nat.reduceAdd, Nat.reduceSub, List.nil_append, List.cons_append, List.getElem?_toArray, List.getElem?_cons_zero, List.getElem?_cons_succ, List.setIfInBounds_toArray, List.set_cons_zero, List.set_cons_succ, Option.map_some, List.not_mem_nil, ←decide_not, eq_self]
    exact ⟨by trivial, Ext.refl _ _⟩
  rw [if_neg h2]
  obtain ⟨b1, o1, rfl, z1, k1⟩ := row_w h (i := 1) (by omega)
  have hnl := nR_lt l
  have hni : (fieldB (wat l 1) 0 16).toInt = (nR l : Int) := by
    unfold nR at *
    rw [BitVec.toInt_eq_toNat_of_lt (by omega)]
  simp (disch := (first | omega | decide | (simp only [World.size_alloc, World.size_setCell, World.size_drew, size_sets, List.mem_cons, List.not_mem_nil, or_false, not_false_eq_true] <;> omega) | fail)) only [↓rsChk5_0, rsChk5_1, Option.isNone_some, Option.isNone_none, tick_eq, tickV_eq, ne_eq, Int.reduceAdd, Int.reduceSub, Int.reduceMul, Int.reduceEq, Int.reduceLT, Int.reduceLE, Int.reduceToNat, Nat.reduceMul, Nat.reduceAdd, Nat.reduceSub, List.nil_append, List.cons_append, List.getElem?_toArray, List.getElem?_cons_zero, List.getElem?_cons_succ, List.setIfInBounds_toArray, List.set_cons_zero, List.set_cons_succ, Option.map_some, List.not_mem_nil, ←decide_not, k1]
  refine bits_Field_call (Gives.to (Field_spec _ _ _ _) fun w2 F2 => ?_)
  have k2 : w2.cell? ⟨b1, o1 + 1, none⟩ = some (u64 (wat l 1)) := F2.cell0 k1
  simp (disch := (first | omega | decide | (simp only [World.size_alloc, World.size_setCell, World.size_drew, size_sets, List.mem_cons, List.not_mem_nil, or_false, not_false_eq_true] <;> omega) | fail)) only [↓rsChk5_0, rsChk5_1, Option.isNone_some, Option.isNone_none, tick_eq, tickV_eq, ne_eq, Int.reduceAdd, Int.reduceSub, Int.reduceMul, Int.reduceEq, Int.reduceLT, Int.reduceLE, Int.reduceToNat, Nat.reduceMul, Nat.reduceAdd, Nat.reduceSub, List.nil_append, List.cons_append, List.getElem?_toArray, List.getElem?_cons_zero, List.getElem?_cons_succ, List.setIfInBounds_toArray, List.set_cons_zero, List.set_cons_succ, Option.map_some, List.not_mem_nil, ←decide_not, k1, k2, hni]
  refine bits_Field_call (Gives.to (Field_spec _ _ _ _) fun w3 F3 => ?_)
  have k3 : w3.cell? ⟨b1, o1 + 1, none⟩ = some (u64 (wat l 1)) := F3.cell0 k2
  have hcl : BitVec.ofInt 64 (l.length : Int) = BitVec.ofNat 64 l.length := by rw [BitVec.ofInt_natCast]
  by_cases g1 : fieldB (wat l 1) 48 16 = BitVec.ofNat 64 0
  rotate_left
  · have hs : ¬ sizeOk l := fun h => g1 h.2.1
    rw [decide_eq_false hs]
    simp (disch := (first | omega | decide | (simp only [World.size_alloc, World.size_setCell, World.size_drew, size_sets, List.mem_cons, List.not_mem_nil, or_false, not_false_eq_true] <;> omega) | fail)) only [↓rsChk5_0, rsChk5_1, Option.isNone_some, Option.isNone_none, tick_eq, tickV_eq, ne_eq, Int.reduceAdd, Int.reduceSub, Int.reduceMul, Int.reduceEq, Int.reduceLT, Int.reduceLE, Int.reduceToNat, Nat.reduceMul, Nat.reduceAdd, Nat.reduceSub, List.nil_append, List.cons_append, List.getElem?_toArray, List.getElem?_cons_zero, List.getElem?_cons_succ, List.setIfInBounds_toArray, List.set_cons_zero, List.set_cons_succ, Option.map_some, List.not_mem_nil, ←decide_not, k1, k2, hni, k3, decide_eq_false g1]
    exact ⟨by trivial, F2.trans F3⟩
  simp (disch := (first | omega | decide | (simp only [World.size_alloc, World.size_setCell, World.size_drew, size_sets, List.mem_cons, List.not_mem_nil, or_false, not_false_eq_true] <;> omega) | fail)) only [↓rsChk5_0, rsChk5_1, Option.isNone_some, Option.isNone_none, tick_eq, tickV_eq, ne_eq, Int.reduceAdd, Int.reduceSub, Int.reduceMul, Int.reduceEq, Int.reduceLT, Int.reduceLE, Int.reduceToNat, Nat.reduceMul, Nat.reduceAdd, Nat.reduceSub, List.nil_append, List.cons_append, List.getElem?_toArray, List.getElem?_cons_zero, List.getElem?_cons_succ, List.setIfInBounds_toArray, List.set_cons_zero, List.set_cons_succ, Option.map_some, List.not_mem_nil, ←decide_not, k1, k2, hni, k3, decide_eq_true g1]
  refine bits_Field_call (Gives.to (Field_spec _ _ _ _) fun w4 F4 => ?_)
  have X4 := F2.trans (F3.trans F4)
  by_cases g2 : fieldB (wat l 1) 16 32 = BitVec.ofNat 64 l.length
  rotate_left
  · have hs : ¬ sizeOk l := fun h => g2 h.2.2.1
    rw [decide_eq_false hs]
    simp (disch := (first | omega | decide | (simp only [World.size_alloc, World.size_setCell, World.size_drew, size_sets, List.mem_cons, List.not_mem_nil, or_false, not_false_eq_true] <;> omega) | fail)) only [↓rsChk5_0, rsChk5_1, Option.isNone_some, Option.isNone_none, tick_eq, tickV_eq, ne_eq, Int.reduceAdd, Int.reduceSub, Int.reduceMul, Int.reduceEq, Int.reduceLT, Int.reduceLE, Int.reduceToNat, Nat.reduceMul, Nat.reduceAdd, Nat.reduceSub, List.nil_append, List.cons_append, List.getElem?_toArray, List.getElem?_cons_zero, List.getElem?_cons_succ, List.setIfInBounds_toArray, List.set_cons_zero, List.set_cons_succ, Option.map_some, List.not_mem_nil, ←decide_not, k1, k2, hni, k3, decide_eq_true g1, hcl, decide_eq_false g2]
    exact ⟨by trivial, X4⟩
  by_cases g3 : nR l ≤ 64
  rotate_left
  · have hs : ¬ sizeOk l := fun h => g3 h.2.2.2.1
    rw [decide_eq_false hs]
    simp (disch := (first | omega | decide | (simp only [World.size_alloc, World.size_setCell, World.size_drew, size_sets, List.mem_cons, List.not_mem_nil, or_false, not_false_eq_true] <;> omega) | fail)) only [↓rsChk5_0, rsChk5_1, Option.isNone_some, Option.isNone_none, tick_eq, tickV_eq, ne_eq, Int.reduceAdd, Int.reduceSub, Int.reduceMul, Int.reduceEq, Int.reduceLT, Int.reduceLE, Int.reduceToNat, Nat.reduceMul, Nat.reduceAdd, Nat.reduceSub, List.nil_append, List.cons_append, List.getElem?_toArray, List.getElem?_cons_zero, List.getElem?_cons_succ, List.setIfInBounds_toArray, List.set_cons_zero, List.set_cons_succ, Option.map_some, List.not_mem_nil, ←decide_not, k1, k2, hni, k3, decide_eq_true g1, hcl, decide_eq_true g2]
    exact ⟨by trivial, X4⟩
  by_cases g4 : 2 + 5 * nR l ≤ l.length
  · have hs : sizeOk l := ⟨by omega, g1, g2, g3, g4⟩
    rw [decide_eq_true hs]
    simp (disch := (first | omega | decide | (simp only [World.size_alloc, World.size_setCell, World.size_drew, size_sets, List.mem_cons, List.not_mem_nil, or_false, not_false_eq_true] <;> omega) | fail)) only [↓rsChk5_0, rsChk5_1, Option.isNone_some, Option.isNone_none, tick_eq, tickV_eq, ne_eq, Int.reduceAdd, Int.reduceSub, Int.reduceMul, Int.reduceEq, Int.reduceLT, Int.reduceLE, Int.reduceToNat, Nat.reduceMul, Nat.reduceAdd, Nat.reduceSub, List.nil_append, List.cons_append, List.getElem?_toArray, List.getElem?_cons_zero, List.getElem?_cons_succ, List.setIfInBounds_toArray, List.set_cons_zero, List.set_cons_succ, Option.map_some, List.not_mem_nil, ←decide_not, k1, k2, hni, k3, decide_eq_true g1, hcl, decide_eq_true g2]
    exact ⟨by trivial, X4⟩
  · have hs : ¬ sizeOk l := fun h => g4 h.2.2.2.2
    rw [decide_eq_false hs]
    simp (disch := (first | omega | decide | (simp only [World.size_alloc, World.size_setCell, World.size_drew, size_sets, List.mem_cons, List.not_mem_nil, or_false, not_false_eq_true] <;> omega) | fail)) only [↓rsChk5_0, rsChk5_1, Option.isNone_some, Option.isNone_none, tick_eq, tickV_eq, ne_eq, Int.reduceAdd, Int.reduceSub, Int.reduceMul, Int.reduceEq, Int.reduceLT, Int.reduceLE, Int.reduceToNat, Nat.reduceMul, Nat.reduceAdd, Nat.reduceSub, List.nil_append, List.cons_append, List.getElem?_toArray, List.getElem?_cons_zero, List.getElem?_cons_succ, List.setIfInBounds_toArray, List.set_cons_zero, List.set_cons_succ, Option.map_some, List.not_mem_nil, ←decide_not, k1, k2, hni, k3, decide_eq_true g1, hcl, decide_eq_true g2]
    exact ⟨by trivial, X4⟩
theorem appFs {w : World} {K : K1} {v : Value} {F G : List Fnd} {a : Option Addr} {c : Nat} (hO : OwnF w v F) (hr : RowAt w a (G.flatMap fC)) (hn : a = none → c = 0) (hc : G.length ≤ c) (hl : F.length + G.length ≤ 1000000)
    (hK : ∀ v' w', OwnF w' v' (F ++ G) → Stp (blk v) (blk v') w w' → K v' w') : xBuiltin Try.prog .append #[37, 37] 37 [false, false] [v, .slice a G.length c] w K := by
  refine xApp (e := 40) (s := 2) (n := F.length) (m := G.length) (xs := F.flatMap fC) (news := G.flatMap fC) (bytes := 24) (z := .agg #[.int .i64 0, .string ⟨#[]⟩]) (by kernel_rfl) (by kernel_rfl) (by rfl) (by decide) hO (fC_len G) hr hn hc (fun u hu => ?_) (by omega) (by omega) fun v' w' h1 h2 => hK v' w' ?_ h2
  · obtain ⟨f, _, hf⟩ := List.mem_flatMap.1 hu
    simp only [fC, List.mem_cons, List.not_mem_nil, or_false] at hf
    rcases hf with rfl | rfl <;> rfl
  · show Own w' 40 2 v' (F ++ G).length ((F ++ G).flatMap fC)
    rw [List.length_append, List.flatMap_append]
    exact h1
theorem wat_drop (l : List (BitVec 64)) (n i : Nat) : wat (l.drop n) i = wat l (n + i) := by
  unfold wat
  simp only [List.getD_eq_getElem?_getD, List.getElem?_drop]
abbrev rsChk5_2 := (And.intro @xBox_r (And.intro @loadK_some (And.intro @loadsK_s (And.intro @loadsK_n (And.intro @loadsR_s (And.intro @loadsR_n (And.intro @storesK_s (And.intro @storesK_n (And.intro @xPick_t (And.intro @xPick_f (And.intro @xGuard_tt (And.intro @xGuard_ff (And.intro @xGuard_tf (And.intro @xGuard_ft (And.intro @xGuard_u 
  (And.intro @xNil_r (And.intro @xIf_t (And.intro @xBin_add' (And.intro @xBin_sub' (And.intro @xBin_mul' (And.intro @xBin_quo' (And.intro @xBin_rem' (And.intro @xIf_f (And.intro @xIf_tt (And.intro @xEx0 (And.intro @xEx1 (And.intro @xEx2 (And.intro @xEx3 (And.intro @xBin_eqs (And.intro @xBin_nes (And.intro @xUn_not (And.intro @xu8_add (And.intro @xu8_mul 
  (And.intro @xu8_com (And.intro @xu8_neq (And.intro @xu8_lss (And.intro @xu8_leq (And.intro @xu16_add (And.intro @xu16_mul (And.intro @xu16_com (And.intro @xu16_neq (And.intro @xu16_lss (And.intro @xu16_leq (And.intro @xu32_add (And.intro @xu32_mul (And.intro @xu32_com (And.intro @xu32_neq (And.intro @xu32_lss (And.intro @xu32_leq (And.intro @xu64_add 
  (And.intro @xu64_mul (And.intro @xu64_com (And.intro @xu64_neq (And.intro @xu64_lss (And.intro @xu64_leq (And.intro @xi64_lss (And.intro @xi64_leq (And.intro @xi64_neq (And.intro @xi64_neg (And.intro @xMakeFunc_r (And.intro @xSq_r (And.intro @xPur_s (And.intro @xRd_s (And.intro @xRe_s (And.intro @xDet_s (And.intro @xDet_ld (And.intro @xDet_ld2 
  (And.intro @xDet_ld3 (And.intro @xDet_ld4 (And.intro @xGuard_tt (And.intro @ld_37 (And.intro @ld_69 (And.intro @fa_96_3 (And.intro @bd_40_0_1 (And.intro @ia_28 (And.intro @ln_28 (And.intro @bs_37_1 (And.intro @sh_28 (And.intro @sl_28 (And.intro @sm_28 @sb_28))))))))))))))))))))))))))))))))))))))))))))))))))))))))))))))))))))))))))))))))
theorem Image_n0 (l : List (BitVec 64)) (a : Option Addr) (c : Nat) (w : World) (h : RowAt w a (wrds l)) (hc : l.length ≤ c) (hl : l.length ≤ 8192) (hn : sizeOk l → nR l = 0) :
    Yld Try.prog n_check_Image #[.slice a l.length c] w fun u w' => ∃ os bad, (sizeOk l → Sc (wat l) l.length 2 os bad) ∧ FndR w w' u (magF l ++ if sizeOk l then allF (wat l) os bad else [(1, sSize)]) := by
  refine check_Image_of ?_
  unfold check_Image
  have j8 : ∀ (v : Value) (w1 : World), Ext [] w w1 → OwnF w1 v (magF l) → (∀ y ∈ blk v, w.heap.size ≤ y) → check_Image_j8 (fun u w' => ∃ os bad, (sizeOk l → Sc (wat l) l.length 2 os bad) ∧ FndR w w' u (magF l ++ if sizeOk l then allF (wat l) os bad else [(1, sSize)])) (.slice a l.length c) v w1 := by
    intro v w1 F1 O1 hv
    have R1 := h.ext0 F1
    have lm : (magF l).length ≤ 1 := by unfold magF; split <;> simp
    unfold check_Image_j8
    refine check_size_call (Gives.to (csize_spec l a c w1 R1 (by omega)) fun w2 F2 => ?_)
    have O2 := O1.ext0 F2
    have R2 := R1.ext0 F2
    obtain ⟨a0, c0, rfl, hc0, _, hn0, hr0, _⟩ := O1.slice
    by_cases hs : sizeOk l
    · have h2 : ¬ l.length < 2 := by have := hs.1; omega
      rw [decide_eq_true hs, if_neg h2, hn hs]
      have hlk := fun (w : World) (R : RowAt w a (wrds l)) => look_spec w (l.drop 2) (if c = 2 then a else a.map (·.add 2)) (c - 2) 2 (by
        have := R.drop 2 c (by simpa using hc)
        rw [← List.map_drop] at this
        exact this) (by rw [List.length_drop]; omega) (by rw [List.length_drop]; omega)
      rw [List.length_drop] at hlk
      simp (disch := (first | omega | decide | (simp only [World.size_alloc, World.size_setCell, World.size_drew, size_sets, List.mem_cons, List.not_mem_nil, or_false, not_false_eq_true] <;> omega) | fail)) only [↓rsChk5_2, rsChk5_1, Option.isNone_some, Option.isNone_none, tick_eq, tickV_eq, ne_eq, Int.reduceAdd, Int.reduceSub, Int.reduceMul, Int.reduceEq, Int.reduceLT, Int.reduceLE, Int.reduceToNat, Nat.reduceMul, Nat.reduceAdd, Nat.reduceSub, List.nil_append, List.cons_append, List.getElem?_toArray, List.getElem?_cons_zero, List.getElem?_cons_succ, List.setIfInBounds_toArray, List.set_cons_zero, List.set_cons_succ, Option.map_some, List.not_mem_nil, ←decide_not, eq_self]
      refine check_look_call (Yld.mono (hlk w2 R2) ?_)
      rintro u w3 ⟨k, r, v, os, bad, rfl, hS, W⟩
      have hS2 : Sc (wat l) l.length 2 os bad := by
        have e1 : 2 + (l.length - 2) = l.length := by omega
        rw [e1] at hS
        exact hS.congr fun i h3 h4 => by rw [wat_drop]; congr 1; omega
      have hall : allF (fun p => wat (l.drop 2) (p - 2)) os bad = allF (wat l) os bad := by
        have e1 : 2 + (l.length - 2) = l.length := by omega
        rw [e1] at hS
        exact allF_congr hS fun i h3 h4 => by rw [wat_drop]; congr 1; omega
      rw [hall] at W
      have lf : (allF (wat l) os bad).length ≤ 100000 := by
        have h1 := hS2.fnd os os.length
        rw [List.take_length] at h1
        have h2 : (badF bad).length ≤ 1 := by cases bad <;> simp [badF]
        unfold allF
        rw [List.length_append]
        omega
      have O3 := O2.ext0 W.ext
      obtain ⟨a3, c3, hv3, hc3, hn3, hr3⟩ := fnd_of W
      have k3 := fun i => W.blk.cell (i := i)
      subst hv3
      simp (disch := (first | omega | decide | (simp only [World.size_alloc, World.size_setCell, World.size_drew, size_sets, List.mem_cons, List.not_mem_nil, or_false, not_false_eq_true] <;> omega) | fail)) only [↓rsChk5_2, rsChk5_1, Option.isNone_some, Option.isNone_none, tick_eq, tickV_eq, ne_eq, Int.reduceAdd, Int.reduceSub, Int.reduceMul, Int.reduceEq, Int.reduceLT, Int.reduceLE, Int.reduceToNat, Nat.reduceMul, Nat.reduceAdd, Nat.reduceSub, List.nil_append, List.cons_append, List.getElem?_toArray, List.getElem?_cons_zero, List.getElem?_cons_succ, List.setIfInBounds_toArray, List.set_cons_zero, List.set_cons_succ, Option.map_some, List.not_mem_nil, ←decide_not, eq_self]
      refine xLoop_n 0 (fun _ => [.string { data := #[] }, i64 2]) (fun _ w' => Ext [] w3 w') rfl (Ext.refl _ _) (fun j hj => by omega) ?_
      intro u w4 hu F4 nxt
      simp only [List.map_cons, List.map_nil, List.cons.injEq, and_true] at hu
      rw [hu.1, hu.2]
      have k4 := fun i => (W.blk.ext F4 (by simp)).cell (i := i)
      unfold check_Image_l2
      simp (disch := (first | omega | decide | (simp only [World.size_alloc, World.size_setCell, World.size_drew, size_sets, List.mem_cons, List.not_mem_nil, or_false, not_false_eq_true] <;> omega) | fail)) only [↓rsChk5_2, rsChk5_1, Option.isNone_some, Option.isNone_none, tick_eq, tickV_eq, ne_eq, Int.reduceAdd, Int.reduceSub, Int.reduceMul, Int.reduceEq, Int.reduceLT, Int.reduceLE, Int.reduceToNat, Nat.reduceMul, Nat.reduceAdd, Nat.reduceSub, List.nil_append, List.cons_append, List.getElem?_toArray, List.getElem?_cons_zero, List.getElem?_cons_succ, List.setIfInBounds_toArray, List.set_cons_zero, List.set_cons_succ, Option.map_some, List.not_mem_nil, ←decide_not, k4]
      refine appFs (O3.ext0 F4) (hr3.ext0 F4) hn3 hc3 (by omega) fun v' w5 O5 F5 => ?_
      have X5 : Ext [] w w5 := (((F1.trans F2).trans W.ext).trans F4).new F5.ext (fun y hy => hv y hy)
      obtain ⟨a6, c6, rfl, hc6, _, hn6, hr6, _⟩ := O5.slice
      refine slices_Clip_check_Finding_check_Finding_call (Gives.to (ClipF_spec hc6) fun w6 F6 => ?_)
      exact ⟨os, bad, fun _ => hS2, X5.trans F6, a6, _, by rw [if_pos hs], by rw [if_pos hs]; exact Nat.le_refl _, fun h => by have := hn6 h; omega, by rw [if_pos hs]; exact hr6.ext0 F6⟩
    · rw [decide_eq_false hs]
      have cS : ({ data := #[115, 105, 122, 101] } : ByteArray) = strOf sSize := by decide +kernel
      simp (disch := (first | omega | decide | (simp only [World.size_alloc, World.size_setCell, World.size_drew, size_sets, List.mem_cons, List.not_mem_nil, or_false, not_false_eq_true] <;> omega) | fail)) only [↓rsChk5_2, rsChk5_1, Option.isNone_some, Option.isNone_none, tick_eq, tickV_eq, ne_eq, Int.reduceAdd, Int.reduceSub, Int.reduceMul, Int.reduceEq, Int.reduceLT, Int.reduceLE, Int.reduceToNat, Nat.reduceMul, Nat.reduceAdd, Nat.reduceSub, List.nil_append, List.cons_append, List.getElem?_toArray, List.getElem?_cons_zero, List.getElem?_cons_succ, List.setIfInBounds_toArray, List.set_cons_zero, List.set_cons_succ, Option.map_some, List.not_mem_nil, ←decide_not, eq_self]
      rw [cS]
      refine appFl O2 (f := (1, sSize)) rfl (by omega) fun v' w3 O3 F3 => ?_
      have X3 : Ext [] w w3 := (F1.trans F2).new F3.ext (fun y hy => hv y hy)
      obtain ⟨a6, c6, rfl, hc6, _, hn6, hr6, _⟩ := O3.slice
      refine slices_Clip_check_Finding_check_Finding_call (Gives.to (ClipF_spec hc6) fun w6 F6 => ?_)
      exact ⟨[], none, fun h => absurd h hs, X3.trans F6, a6, _, by rw [if_neg hs], by rw [if_neg hs]; exact Nat.le_refl _, fun h => by have := hn6 h; omega, by rw [if_neg hs]; exact hr6.ext0 F6⟩
  have cM : ({ data := #[109, 97, 103, 105, 99] } : ByteArray) = strOf sMagic := by decide +kernel
  by_cases hm : l.length < 1
  · have hmg : magF l = [(0, sMagic)] := by unfold magF; rw [if_pos (.inl hm)]
    simp (disch := (first | omega | decide | (simp only [World.size_alloc, World.size_setCell, World.size_drew, size_sets, List.mem_cons, List.not_mem_nil, or_false, not_false_eq_true] <;> omega) | fail)) only [↓rsChk5_2, rsChk5_1, Option.isNone_some, Option.isNone_none, tick_eq, tickV_eq, ne_eq, Int.reduceAdd, Int.reduceSub, Int.reduceMul, Int.reduceEq, Int.reduceLT, Int.reduceLE, Int.reduceToNat, Nat.reduceMul, Nat.reduceAdd, Nat.reduceSub, List.nil_append, List.cons_append, List.getElem?_toArray, List.getElem?_cons_zero, List.getElem?_cons_succ, List.setIfInBounds_toArray, List.set_cons_zero, List.set_cons_succ, Option.map_some, List.not_mem_nil, ←decide_not, eq_self]
    rw [cM]
    refine appFl (F := []) Own.nil (f := (0, sMagic)) rfl (by simp) fun v' w3 O3 F3 => ?_
    exact j8 v' w3 (F3.ext.more (by simp [blk, Value.ownBlock])) (by rw [hmg]; exact O3) (fun y hy => by
      rcases F3.at' y hy with h1 | h1
      · simp [blk, Value.ownBlock] at h1
      · exact h1)
  obtain ⟨b1, o1, rfl, z1, k1⟩ := row_w h (i := 0) (by omega)
  have k1' : w.cell? ⟨b1, o1, none⟩ = some (u64 (wat l 0)) := k1
  by_cases hm2 : wat l 0 = BitVec.ofNat 64 1296125772
  · have hmg : magF l = [] := by unfold magF; rw [if_neg]; rintro (h1 | h1); exact hm h1; exact h1 hm2
    simp (disch := (first | omega | decide | (simp only [World.size_alloc, World.size_setCell, World.size_drew, size_sets, List.mem_cons, List.not_mem_nil, or_false, not_false_eq_true] <;> omega) | fail)) only [↓rsChk5_2, rsChk5_1, Option.isNone_some, Option.isNone_none, tick_eq, tickV_eq, ne_eq, Int.reduceAdd, Int.reduceSub, Int.reduceMul, Int.reduceEq, Int.reduceLT, Int.reduceLE, Int.reduceToNat, Nat.reduceMul, Nat.reduceAdd, Nat.reduceSub, List.nil_append, List.cons_append, List.getElem?_toArray, List.getElem?_cons_zero, List.getElem?_cons_succ, List.setIfInBounds_toArray, List.set_cons_zero, List.set_cons_succ, Option.map_some, List.not_mem_nil, ←decide_not, k1', hm2]
    exact j8 _ w (Ext.refl _ _) (by rw [hmg]; exact Own.nil) (by simp [blk, Value.ownBlock])
  · have hmg : magF l = [(0, sMagic)] := by unfold magF; rw [if_pos (.inr hm2)]
    simp (disch := (first | omega | decide | (simp only [World.size_alloc, World.size_setCell, World.size_drew, size_sets, List.mem_cons, List.not_mem_nil, or_false, not_false_eq_true] <;> omega) | fail)) only [↓rsChk5_2, rsChk5_1, Option.isNone_some, Option.isNone_none, tick_eq, tickV_eq, ne_eq, Int.reduceAdd, Int.reduceSub, Int.reduceMul, Int.reduceEq, Int.reduceLT, Int.reduceLE, Int.reduceToNat, Nat.reduceMul, Nat.reduceAdd, Nat.reduceSub, List.nil_append, List.cons_append, List.getElem?_toArray, List.getElem?_cons_zero, List.getElem?_cons_succ, List.setIfInBounds_toArray, List.set_cons_zero, List.set_cons_succ, Option.map_some, List.not_mem_nil, ←decide_not, k1', decide_eq_true hm2]
    rw [cM]
    refine appFl (F := []) Own.nil (f := (0, sMagic)) rfl (by simp) fun v' w3 O3 F3 => ?_
    exact j8 v' w3 (F3.ext.more (by simp [blk, Value.ownBlock])) (by rw [hmg]; exact O3) (fun y hy => by
      rcases F3.at' y hy with h1 | h1
      · simp [blk, Value.ownBlock] at h1
      · exact h1)
theorem fnd_at {w : World} {a : Option Addr} {F : List Fnd} (h : RowAt w a (F.flatMap fC)) {k : Nat} (hk : k < F.length) : ∃ b o, a = some ⟨b, o, none⟩ ∧ b < w.heap.size ∧ w.cell? ⟨b, o + k * 2, none⟩ = some (i64 (F[k].1 : Int)) ∧ w.cell? ⟨b, o + k * 2 + 1, none⟩ = some (.string (strOf F[k].2)) := by
  have hc : ∀ (l : List Fnd) (k : Nat) (h : k < l.length) (j : Nat), j < 2 → (l.flatMap fC)[k * 2 + j]? = (fC l[k])[j]? := by
    intro l
    induction l with
    | nil => intro k h; simp at h
    | cons x l ih =>
      intro k h j hj
      rw [List.flatMap_cons]
      cases k with
      | zero => rw [List.getElem?_append_left (by simp [fC]; omega)]; simp
      | succ k =>
        rw [List.getElem?_append_right (by simp [fC]; omega), show (k + 1) * 2 + j - (fC x).length = k * 2 + j by simp [fC]; omega]
        simpa using ih k (by simpa using h) j hj
  obtain ⟨b, o, rfl, hb, hcc⟩ := h.get (by intro e; have := congrArg List.length e; rw [fC_len] at this; simp only [List.length_nil] at this; omega)
  refine ⟨b, o, rfl, hb, ?_, ?_⟩
  · have := hcc (k * 2 + 0) _ ((hc F k hk 0 (by omega)).trans rfl); simpa using this
  · have := hcc (k * 2 + 1) _ ((hc F k hk 1 (by omega)).trans rfl); rw [Nat.add_assoc]; exact this
end Go.Proofs.Ytdpmidgeipibbaa
end
section
set_option linter.unusedVariables false
set_option linter.unusedSimpArgs false
set_option maxHeartbeats 4000000
namespace Go.Proofs.Ytdpmidgeipibbaa
open Go.Sh Go.RowKit

section
variable {w : World} {m : Nat} {r : Option Addr} {c : Nat} {ws : List (BitVec 64)} {b t e : Nat}
end
end Go.Proofs.Ytdpmidgeipibbaa
end
section
set_option linter.unusedVariables false
set_option linter.unusedSimpArgs false
set_option maxHeartbeats 4000000
namespace Go.Proofs.Ytdpmidgeipibbaa
open Go.Sh Go.RowKit

end Go.Proofs.Ytdpmidgeipibbaa
end
section
set_option linter.unusedVariables false
set_option linter.unusedSimpArgs false
set_option maxHeartbeats 4000000
namespace Go.Proofs.Ytdpmidgeipibbaa
open Go.Sh Go.RowKit

def nameS (q : List (BitVec 64)) (at' : Nat) : List (BitVec 8) := cutN (bytesW q (8 * at') 32)
def nameB (q : List (BitVec 64)) (at' : Nat) : Prop := nmOk (nameS q at') ∧ fixN (nameS q at') = bytesW q (8 * at') 32
instance (q : List (BitVec 64)) (at' : Nat) : Decidable (nameB q at') := by unfold nameB; infer_instance
theorem set_fill {α : Type} (L : List α) (z : α) (n j : Nat) (h : L.length = n) (hj : j < n) : (L.take j ++ List.replicate (n - j) z).set j (L[j]'(by omega)) = L.take (j + 1) ++ List.replicate (n - (j + 1)) z := by
  rw [List.set_append_right _ _ (by simp; omega), List.length_take, show j - min j L.length = 0 by omega, show n - j = (n - (j + 1)) + 1 by omega, List.replicate_succ, List.set_cons_zero, List.take_add_one, List.getElem?_eq_getElem (by omega)]
  simp only [Option.toList_some, List.append_assoc, List.singleton_append]
abbrev rsNm2_0 := (And.intro @xBox_r (And.intro @loadK_some (And.intro @loadsK_s (And.intro @loadsK_n (And.intro @loadsR_s (And.intro @loadsR_n (And.intro @storesK_s (And.intro @storesK_n (And.intro @xPick_t (And.intro @xPick_f (And.intro @xGuard_tt (And.intro @xGuard_ff (And.intro @xGuard_tf (And.intro @xGuard_ft (And.intro @xGuard_u 
  (And.intro @xNil_r (And.intro @xIf_t (And.intro @xBin_add' (And.intro @xBin_sub' (And.intro @xBin_mul' (And.intro @xBin_quo' (And.intro @xBin_rem' (And.intro @xIf_f (And.intro @xIf_tt (And.intro @xEx0 (And.intro @xEx1 (And.intro @xEx2 (And.intro @xEx3 (And.intro @xBin_eqs (And.intro @xBin_nes (And.intro @xUn_not (And.intro @xu8_add (And.intro @xu8_mul 
  (And.intro @xu8_rem (And.intro @xu8_quo (And.intro @xu8_shr (And.intro @xu8_eql (And.intro @xu8_lss (And.intro @xu16_add (And.intro @xu16_mul (And.intro @xu16_rem (And.intro @xu16_quo (And.intro @xu16_shr (And.intro @xu16_eql (And.intro @xu16_lss (And.intro @xu32_add (And.intro @xu32_mul (And.intro @xu32_rem (And.intro @xu32_quo (And.intro @xu32_shr 
  (And.intro @xu32_eql (And.intro @xu32_lss (And.intro @xu64_add (And.intro @xu64_mul (And.intro @xu64_rem (And.intro @xu64_quo (And.intro @xu64_shr (And.intro @xu64_eql (And.intro @xu64_lss (And.intro @xi64_lss (And.intro @xi64_eql (And.intro @xi64_shr (And.intro @xMakeFunc_r (And.intro @xSq_r (And.intro @xPur_s (And.intro @xRd_s (And.intro @xRe_s 
  (And.intro @xDet_s (And.intro @xDet_ld (And.intro @xDet_ld2 (And.intro @xDet_ld3 (And.intro @xDet_ld4 (And.intro @xGuard_tt (And.intro @ld_69 (And.intro @al_157 (And.intro @st_5 (And.intro @cv_69_5 (And.intro @ia_28 @ia_157))))))))))))))))))))))))))))))))))))))))))))))))))))))))))))))))))))))))))))))
abbrev rsNm2_1 := (And.intro @setCells_c (And.intro @setCells_n (And.intro @World.setCell_alloc_at (And.intro @World.setCell_alloc_past (And.intro @World.cell?_alloc_at (And.intro @World.cell?_alloc_past (And.intro @World.frozen?_alloc_at (And.intro @World.frozen?_alloc_past 
  (And.intro @World.size_alloc (And.intro @dlt_t (And.intro @dlt_f (And.intro @dle_t (And.intro @dle_f (And.intro @deq_t (And.intro @deq_f (And.intro @dne_t (And.intro @dne_f (And.intro @not_true_eq_false (And.intro @Bool.false_and (And.intro @Bool.true_and (And.intro @Bool.and_true (And.intro @Bool.and_false (And.intro @wrap_in (And.intro @Int.toNat_natCast 
  (And.intro @Nat.mul_one (And.intro @cells_int (And.intro @cells_bool (And.intro @cells_string (And.intro @cells_slice (And.intro @cells_pointer (And.intro @cells_agg (And.intro @one_int (And.intro @one_bool (And.intro @one_string (And.intro @one_slice (And.intro @one_pointer (And.intro @beq_tt (And.intro @beq_ff (And.intro @beq_tf 
  (And.intro @beq_ft (And.intro @cell_sets_b (And.intro @frozen_sets (And.intro @size_sets (And.intro @World.size_drew (And.intro @Nat.zero_add (And.intro @Nat.add_zero (And.intro @cell_drew (And.intro @frozen_drew (And.intro @cell_set_eq (And.intro @cell_set_o (And.intro @cell_set_b (And.intro @World.frozen?_setCell 
  (And.intro @decide_true (And.intro @decide_false (And.intro @not_false_eq_true (And.intro @Bool.not_true @Bool.not_false))))))))))))))))))))))))))))))))))))))))))))))))))))))))
theorem name_spec (q : List (BitVec 64)) (a : Option Addr) (c : Nat) (w : World) (h : RowAt w a (wrds q)) (hq : q.length = 4) (hn : q.length ≤ c) : Gives Try.prog n_check_name #[.slice a 4 c] w (.tuple #[.string (strOf (nameS q 0)), .bool (decide (nameB q 0))]) := by
  refine check_name_of ?_
  unfold check_name
  have al : ∀ (y : World) (K : K1), xAlloc Try.prog 157 y K = K (ptr y.heap.size) (y.alloc (.cells (bys (List.replicate 32 z8)).toArray 157)) := fun y K => xAlloc_r (by kernel_rfl)
  have lst : ∀ l' : List (BitVec 8), l'.length = 32 → (((Try.prog).info? 157).map (·.size) = some (bys l').length) := fun l' h => by
    rw [List.length_map, h]; kernel_rfl
  have lag : ∀ l' : List (BitVec 8), l'.length = 32 → (aggN Try.prog 157 = some (bys l').length) := fun l' h => by
    rw [List.length_map, h]; kernel_rfl
  have one : ∀ l' : List (BitVec 8), ∀ v ∈ bys l', v.oneCell' = true := fun l' v hv => by
    obtain ⟨c, _, rfl⟩ := List.mem_map.1 hv; rfl
  rw [al]
  have B1 : Blk (w.alloc (.cells (bys (List.replicate 32 z8)).toArray 157)) w.heap.size 157 (bys (List.replicate 32 z8)) := Blk.at rfl
  have X1 : Ext [] w (w.alloc (.cells (bys (List.replicate 32 z8)).toArray 157)) := Ext.alloc _ _ _
  have h1 := h.ext0 X1
  obtain ⟨b5, o5, rfl, hb5, _⟩ := h.get (by intro e; have := congrArg List.length e; simp only [List.length_map, List.length_nil] at this; omega)
  have hbl : (bytesW q (8 * 0) 32).length = 32 := bytesW_length ..
  generalize w.alloc (.cells (bys (List.replicate 32 z8)).toArray 157) = y1 at *
  generalize hg : w.heap.size = g at *
  refine xLoop_n 32 (fun j => [i64 (j : Int)]) (fun j w' => Ext [g] y1 w' ∧ Blk w' g 157 (bys ((bytesW q (8 * 0) 32).take j ++ List.replicate (32 - j) z8))) rfl ⟨Ext.refl _ _, by simpa using B1⟩ ?_ ?_
  · rintro j hj u w2 hu ⟨F2, B2⟩ nxt hnx
    simp only [List.map_cons, List.map_nil, List.cons.injEq, and_true] at hu
    rw [hu]
    have R2 := h1.ext F2 (fun b o hb => by
      simp only [Option.some.injEq, Addr.mk.injEq] at hb
      simp only [List.mem_singleton]
      omega)
    obtain ⟨b6, o6, h6, z6, k6⟩ := row_w R2 (i := j / 8) (by omega)
    simp only [Option.some.injEq, Addr.mk.injEq, and_true] at h6
    obtain ⟨rfl, rfl⟩ := h6
    have kb := fun i => B2.cell (i := i)
    have kf := fun i => B2.frozen (i := i)
    have kj : (bys ((bytesW q (8 * 0) 32).take j ++ List.replicate (32 - j) z8))[j]? = some (c8 0) := by
      rw [List.getElem?_map, List.getElem?_append_right (by simp; omega), List.length_take, List.getElem?_replicate, if_pos (by omega)]
      rfl
    have t1 : ((j : Int) / 8).toNat = j / 8 := by omega
    have t2 : (8 * ((j : Int) % 8)).toNat = 8 * (j % 8) := by omega
    have eb : (wat q (j / 8) >>> (8 * (j % 8))).setWidth 8 = byteW q j := rfl
    unfold check_name_l1
    simp (disch := (first | omega | decide | (simp only [World.size_alloc, World.size_setCell, World.size_drew, size_sets, List.mem_cons, List.not_mem_nil, or_false, not_false_eq_true] <;> omega) | fail)) only [↓rsNm2_0, rsNm2_1, Option.isNone_some, Option.isNone_none, tick_eq, tickV_eq, ne_eq, Int.reduceAdd, Int.reduceSub, Int.reduceMul, Int.reduceEq, Int.reduceLT, Int.reduceLE, Int.reduceToNat, Nat.reduceMul, Nat.reduceAdd, Nat.reduceSub, List.nil_append, List.cons_append, List.getElem?_toArray, List.getElem?_cons_zero, List.getElem?_cons_succ, List.setIfInBounds_toArray, List.set_cons_zero, List.set_cons_succ, Option.map_some, List.not_mem_nil, ←decide_not, t1, t2, k6, kb, kf, kj, eb]
    have e8 : byteW q j = (bytesW q (8 * 0) 32)[j]'(by omega) := by unfold bytesW; simp
    have B3 := B2.set (i := j) (v := u8 (byteW q j))
    have e9 : (bys ((bytesW q (8 * 0) 32).take j ++ List.replicate (32 - j) z8)).set j (u8 (byteW q j)) = bys ((bytesW q (8 * 0) 32).take (j + 1) ++ List.replicate (32 - (j + 1)) z8) := by
      rw [← set_fill _ z8 32 j hbl hj, ← e8]
      exact List.map_set.symm
    rw [e9] at B3
    exact hnx _ ⟨F2.set' (.inl (by simp)), B3⟩
  · rintro u w2 hu ⟨F2, B2⟩ nxt
    simp only [List.map_cons, List.map_nil, List.cons.injEq, and_true] at hu
    rw [hu]
    rw [List.take_of_length_le (by omega), Nat.sub_self, List.replicate_zero, List.append_nil] at B2
    have X2 : Ext [] w w2 := X1.new F2 (fun y hy => by simp only [List.mem_singleton] at hy; omega)
    have hns : nameS q 0 = cutN (bytesW q (8 * 0) 32) := rfl
    have hnb : nameB q 0 ↔ nmOk (nameS q 0) ∧ fixN (nameS q 0) = bytesW q (8 * 0) 32 := Iff.rfl
    generalize bytesW q (8 * 0) 32 = L at *
    have hld := fun (K : K1) => xLoad_arr (P := Try.prog) (K := K) (lag _ hbl) B2
    unfold check_name_l1
    simp (disch := (first | omega | decide | (simp only [World.size_alloc, World.size_setCell, World.size_drew, size_sets, List.mem_cons, List.not_mem_nil, or_false, not_false_eq_true] <;> omega) | fail)) only [↓rsNm2_0, rsNm2_1, Option.isNone_some, Option.isNone_none, tick_eq, tickV_eq, ne_eq, Int.reduceAdd, Int.reduceSub, Int.reduceMul, Int.reduceEq, Int.reduceLT, Int.reduceLE, Int.reduceToNat, Nat.reduceMul, Nat.reduceAdd, Nat.reduceSub, List.nil_append, List.cons_append, List.getElem?_toArray, List.getElem?_cons_zero, List.getElem?_cons_succ, List.setIfInBounds_toArray, List.set_cons_zero, List.set_cons_succ, Option.map_some, List.not_mem_nil, ←decide_not, hld]
    refine table_Name_String_call (Gives.to (String_spec L hbl w2) fun w3 F3 => ?_)
    rw [← hns]
    refine table_Fix_call (Gives.to (Fix_spec (nameS q 0) w3) fun w4 F4 => ?_)
    simp (disch := (first | omega | decide | (simp only [World.size_alloc, World.size_setCell, World.size_drew, size_sets, List.mem_cons, List.not_mem_nil, or_false, not_false_eq_true] <;> omega) | fail)) only [↓rsNm2_0, rsNm2_1, Option.isNone_some, Option.isNone_none, tick_eq, tickV_eq, ne_eq, Int.reduceAdd, Int.reduceSub, Int.reduceMul, Int.reduceEq, Int.reduceLT, Int.reduceLE, Int.reduceToNat, Nat.reduceMul, Nat.reduceAdd, Nat.reduceSub, List.nil_append, List.cons_append, List.getElem?_toArray, List.getElem?_cons_zero, List.getElem?_cons_succ, List.setIfInBounds_toArray, List.set_cons_zero, List.set_cons_succ, Option.map_some, List.not_mem_nil, ←decide_not, hld]
    rw [z32]
    have B4 : Blk (w4.alloc (.cells (bys (List.replicate 32 z8)).toArray 157)) w4.heap.size 157 (bys (List.replicate 32 z8)) := Blk.at rfl
    have X4 : Ext [] w4 (w4.alloc (.cells (bys (List.replicate 32 z8)).toArray 157)) := Ext.alloc _ _ _
    have BB := (B2.ext (F3.trans F4) (by simp)).ext X4 (by simp)
    have zg := (B2.ext (F3.trans F4) (by simp)).lt
    generalize w4.alloc (.cells (bys (List.replicate 32 z8)).toArray 157) = w5 at *
    generalize hg6 : w4.heap.size = g6 at *
    have hst := fun (K : K1) => xStore_arr (P := Try.prog) (K := K) (lst _ (fixN_len (nameS q 0))) B4 (by simp [fixN_len]) (one _)
    have B6 := B4.put (cs := bys (fixN (nameS q 0))) (by simp [fixN_len])
    have X6 : Ext [] w (w5.setCells g6 0 (bys (fixN (nameS q 0)))) := ((X2.trans (F3.trans F4)).trans X4).sets (.inr (by have := (X2.trans (F3.trans F4)).size; omega))
    have BB6 := BB.ext (Ext.sets (g := g6) (o := 0) (l := bys (fixN (nameS q 0))) (Ext.refl [g6] w5) (.inl (by simp))) (by simp only [List.mem_singleton]; omega)
    have BB7 := BB6.ext (Ext.drew [] _) (by simp)
    have hld7 := fun (K : K1) => xLoad_arr (P := Try.prog) (K := K) (lag _ hbl) BB7
    simp (disch := (first | omega | decide | (simp only [World.size_alloc, World.size_setCell, World.size_drew, size_sets, List.mem_cons, List.not_mem_nil, or_false, not_false_eq_true] <;> omega) | fail)) only [↓rsNm2_0, rsNm2_1, Option.isNone_some, Option.isNone_none, tick_eq, tickV_eq, ne_eq, Int.reduceAdd, Int.reduceSub, Int.reduceMul, Int.reduceEq, Int.reduceLT, Int.reduceLE, Int.reduceToNat, Nat.reduceMul, Nat.reduceAdd, Nat.reduceSub, List.nil_append, List.cons_append, List.getElem?_toArray, List.getElem?_cons_zero, List.getElem?_cons_succ, List.setIfInBounds_toArray, List.set_cons_zero, List.set_cons_succ, Option.map_some, List.not_mem_nil, ←decide_not, hld, hst, hld7]
    refine table_Name_String_call (Gives.to (String_spec L hbl _) fun w7 F7d => ?_)
    rw [← hns]
    have F7 := (Ext.drew [] _).trans F7d
    have BB8 := BB6.ext F7 (by simp)
    have B8 := B6.ext F7 (by simp)
    have hld8 := fun (K : K1) => xLoad_arr (P := Try.prog) (K := K) (lag _ hbl) BB8
    have hld9 := fun (K : K1) => xLoad_arr (P := Try.prog) (K := K) (lag _ (fixN_len (nameS q 0))) B8
    have heq := fun (w : World) (K : K1) => xBin_eqA (P := Try.prog) (t := 157) (e := 5) (n := 32) (w := w) (K := K) (cx := false) (cy := false) (by kernel_rfl) (by kernel_rfl) (by kernel_rfl) (by kernel_rfl) (by kernel_rfl) (fixN_len (nameS q 0)) hbl
    by_cases hok : nmOk (nameS q 0)
    · have e2 : decide (fixN (nameS q 0) = L) = decide (nameB q 0) := by
        rw [decide_eq_decide, hnb]
        exact ⟨fun h => ⟨hok, h⟩, fun h => h.2⟩
      rw [e2] at heq
      rw [if_pos hok]
      simp (disch := (first | omega | decide | (simp only [World.size_alloc, World.size_setCell, World.size_drew, size_sets, List.mem_cons, List.not_mem_nil, or_false, not_false_eq_true] <;> omega) | fail)) only [↓rsNm2_0, rsNm2_1, Option.isNone_some, Option.isNone_none, tick_eq, tickV_eq, ne_eq, Int.reduceAdd, Int.reduceSub, Int.reduceMul, Int.reduceEq, Int.reduceLT, Int.reduceLE, Int.reduceToNat, Nat.reduceMul, Nat.reduceAdd, Nat.reduceSub, List.nil_append, List.cons_append, List.getElem?_toArray, List.getElem?_cons_zero, List.getElem?_cons_succ, List.setIfInBounds_toArray, List.set_cons_zero, List.set_cons_succ, Option.map_some, List.not_mem_nil, ←decide_not, hld, hst, hld7, hld8, hld9, heq]
      exact ⟨by trivial, X6.trans F7⟩
    · have e2 : decide (nameB q 0) = false := decide_eq_false (fun h => hok (hnb.1 h).1)
      rw [if_neg hok, e2]
      simp (disch := (first | omega | decide | (simp only [World.size_alloc, World.size_setCell, World.size_drew, size_sets, List.mem_cons, List.not_mem_nil, or_false, not_false_eq_true] <;> omega) | fail)) only [↓rsNm2_0, rsNm2_1, Option.isNone_some, Option.isNone_none, tick_eq, tickV_eq, ne_eq, Int.reduceAdd, Int.reduceSub, Int.reduceMul, Int.reduceEq, Int.reduceLT, Int.reduceLE, Int.reduceToNat, Nat.reduceMul, Nat.reduceAdd, Nat.reduceSub, List.nil_append, List.cons_append, List.getElem?_toArray, List.getElem?_cons_zero, List.getElem?_cons_succ, List.setIfInBounds_toArray, List.set_cons_zero, List.set_cons_succ, Option.map_some, List.not_mem_nil, ←decide_not, hld, hst, hld7, hld8, hld9, heq]
      exact ⟨by trivial, X6.trans F7⟩
end Go.Proofs.Ytdpmidgeipibbaa
end
section
set_option linter.unusedVariables false
set_option linter.unusedSimpArgs false
set_option maxHeartbeats 4000000
namespace Go.Proofs.Ytdpmidgeipibbaa
open Go.Sh Go.RowKit

end Go.Proofs.Ytdpmidgeipibbaa
end
section
set_option linter.unusedVariables false
set_option linter.unusedSimpArgs false
set_option maxHeartbeats 4000000
namespace Go.Proofs.Ytdpmidgeipibbaa
open Go.Sh Go.RowKit Go.ChangeShapes Go.WideShapes Go.ChangeAt

end Go.Proofs.Ytdpmidgeipibbaa
end
section
set_option linter.unusedVariables false
set_option linter.unusedSimpArgs false
set_option maxHeartbeats 4000000
namespace Go.Proofs.Ytdpmidgeipibbaa
open Go.Sh Go.RowKit Go.ChangeShapes Go.WideShapes Go.ChangeAt

def imgF (l : List (BitVec 64)) (os : List Nat) (bad : Option Nat) : List Fnd := magF l ++ if sizeOk l then allF (wat l) os bad else [(1, sSize)]
abbrev rsChk7_0 := (And.intro @xBox_r (And.intro @loadK_some (And.intro @loadsK_s (And.intro @loadsK_n (And.intro @loadsR_s (And.intro @loadsR_n (And.intro @storesK_s (And.intro @storesK_n (And.intro @xPick_t (And.intro @xPick_f (And.intro @xGuard_tt (And.intro @xGuard_ff (And.intro @xGuard_tf (And.intro @xGuard_ft (And.intro @xGuard_u 
  (And.intro @xNil_r (And.intro @xIf_t (And.intro @xBin_add' (And.intro @xBin_sub' (And.intro @xBin_mul' (And.intro @xBin_quo' (And.intro @xBin_rem' (And.intro @xIf_f (And.intro @xIf_tt (And.intro @xEx0 (And.intro @xEx1 (And.intro @xEx2 (And.intro @xEx3 (And.intro @xBin_eqs (And.intro @xBin_nes (And.intro @xUn_not (And.intro @xu8_eql (And.intro @xu16_eql 
  (And.intro @xu32_eql (And.intro @xu64_eql (And.intro @xi64_eql (And.intro @xMakeFunc_r (And.intro @xSq_r (And.intro @xPur_s (And.intro @xRd_s (And.intro @xRe_s (And.intro @xDet_s (And.intro @xDet_ld (And.intro @xDet_ld2 (And.intro @xDet_ld3 (And.intro @xDet_ld4 (And.intro @xGuard_tt @ln_37)))))))))))))))))))))))))))))))))))))))))))))))
abbrev rsChk7_1 := (And.intro @setCells_c (And.intro @setCells_n (And.intro @World.setCell_alloc_at (And.intro @World.setCell_alloc_past (And.intro @World.cell?_alloc_at (And.intro @World.cell?_alloc_past (And.intro @World.frozen?_alloc_at (And.intro @World.frozen?_alloc_past 
  (And.intro @World.size_alloc (And.intro @dlt_t (And.intro @dlt_f (And.intro @dle_t (And.intro @dle_f (And.intro @deq_t (And.intro @deq_f (And.intro @dne_t (And.intro @dne_f (And.intro @not_true_eq_false (And.intro @Bool.false_and (And.intro @Bool.true_and (And.intro @Bool.and_true (And.intro @Bool.and_false (And.intro @wrap_in (And.intro @Int.toNat_natCast 
  (And.intro @Nat.mul_one (And.intro @cells_int (And.intro @cells_bool (And.intro @cells_string (And.intro @cells_slice (And.intro @cells_pointer (And.intro @cells_agg (And.intro @one_int (And.intro @one_bool (And.intro @one_string (And.intro @one_slice (And.intro @one_pointer (And.intro @beq_tt (And.intro @beq_ff (And.intro @beq_tf 
  (And.intro @beq_ft (And.intro @cell_sets_b (And.intro @frozen_sets (And.intro @size_sets (And.intro @World.size_drew (And.intro @Nat.zero_add (And.intro @Nat.add_zero (And.intro @cell_drew (And.intro @frozen_drew (And.intro @cell_set_eq (And.intro @cell_set_o (And.intro @cell_set_b (And.intro @World.frozen?_setCell 
  (And.intro @decide_true (And.intro @decide_false (And.intro @not_false_eq_true (And.intro @Bool.not_true @Bool.not_false))))))))))))))))))))))))))))))))))))))))))))))))))))))))
theorem CRight_n0 (l : List (BitVec 64)) (a : Option Addr) (c : Nat) (w : World) (h : RowAt w a (wrds l)) (hc : l.length ≤ c) (hl : l.length ≤ 8192) (hn : sizeOk l → nR l = 0) :
    Yld Try.prog n_check_Right #[.slice a l.length c] w fun u w' => ∃ os bad, (sizeOk l → Sc (wat l) l.length 2 os bad) ∧ u = .bool (decide ((imgF l os bad).length = 0)) ∧ Ext [] w w' := by
  refine check_Right_of ?_
  unfold check_Right
  refine check_Image_call (Yld.mono (Image_n0 l a c w h hc hl hn) ?_)
  rintro u w1 ⟨os, bad, hS, F1, a2, c2, rfl, _, _, R1⟩
  have hf : magF l ++ (if sizeOk l then allF (wat l) os bad else [(1, sSize)]) = imgF l os bad := rfl
  rw [hf]
  have e : decide (((imgF l os bad).length : Int) = 0) = decide ((imgF l os bad).length = 0) := by
    rw [decide_eq_decide]
    omega
  simp (disch := (first | omega | decide | (simp only [World.size_alloc, World.size_setCell, World.size_drew, size_sets, List.mem_cons, List.not_mem_nil, or_false, not_false_eq_true] <;> omega) | fail)) only [↓rsChk7_0, rsChk7_1, Option.isNone_some, Option.isNone_none, tick_eq, tickV_eq, ne_eq, Int.reduceAdd, Int.reduceSub, Int.reduceMul, Int.reduceEq, Int.reduceLT, Int.reduceLE, Int.reduceToNat, Nat.reduceMul, Nat.reduceAdd, Nat.reduceSub, List.nil_append, List.cons_append, List.getElem?_toArray, List.getElem?_cons_zero, List.getElem?_cons_succ, List.setIfInBounds_toArray, List.set_cons_zero, List.set_cons_succ, Option.map_some, List.not_mem_nil, ←decide_not, e]
  exact ⟨os, bad, hS, by trivial, F1⟩
def LA : List (BitVec 64) := [BitVec.ofNat 64 1296125772, BitVec.ofNat 64 196608, BitVec.ofNat 64 9223372036854775808]
def LB : List (BitVec 64) := [BitVec.ofNat 64 1296125772, BitVec.ofNat 64 196608, BitVec.ofNat 64 5]
theorem imgA (os : List Nat) (bad : Option Nat) (h : sizeOk LA → Sc (wat LA) LA.length 2 os bad) : imgF LA os bad = [] := by
  have hs : sizeOk LA := by decide +kernel
  have e : 2 + szW (wat LA 2) = LA.length := by decide +kernel
  obtain ⟨rfl, rfl⟩ := (h hs).uniq (.step (by decide +kernel) (by decide +kernel) (by rw [e]; exact .done))
  decide +kernel
theorem imgB (os : List Nat) (bad : Option Nat) (h : sizeOk LB → Sc (wat LB) LB.length 2 os bad) : imgF LB os bad = [(2, sHead)] := by
  have hs : sizeOk LB := by decide +kernel
  obtain ⟨rfl, rfl⟩ := (h hs).uniq (.bad (by decide +kernel) (by decide +kernel))
  decide +kernel
theorem imgN (os : List Nat) (bad : Option Nat) : imgF [] os bad = [(0, sMagic), (1, sSize)] := by
  unfold imgF
  rw [if_neg (by decide +kernel)]
  decide +kernel
theorem rowW (w : World) (l : List (BitVec 64)) : RowAt (w.alloc (.cells (wrds l).toArray 69)) (some ⟨w.heap.size, 0, none⟩) (wrds l) := (Blk.new (e := 69) w (wrds l)).row
abbrev rsChk7_2 := (And.intro @xBox_r (And.intro @loadK_some (And.intro @loadsK_s (And.intro @loadsK_n (And.intro @loadsR_s (And.intro @loadsR_n (And.intro @storesK_s (And.intro @storesK_n (And.intro @xPick_t (And.intro @xPick_f (And.intro @xGuard_tt (And.intro @xGuard_ff (And.intro @xGuard_tf (And.intro @xGuard_ft (And.intro @xGuard_u 
  (And.intro @xNil_r (And.intro @xIf_t (And.intro @xBin_add' (And.intro @xBin_sub' (And.intro @xBin_mul' (And.intro @xBin_quo' (And.intro @xBin_rem' (And.intro @xIf_f (And.intro @xIf_tt (And.intro @xEx0 (And.intro @xEx1 (And.intro @xEx2 (And.intro @xEx3 (And.intro @xBin_eqs (And.intro @xBin_nes (And.intro @xUn_not (And.intro @xu8_com (And.intro @xu8_eql 
  (And.intro @xu16_com (And.intro @xu16_eql (And.intro @xu32_com (And.intro @xu32_eql (And.intro @xu64_com (And.intro @xu64_eql (And.intro @xi64_eql (And.intro @xMakeFunc_r (And.intro @xSq_r (And.intro @xPur_s (And.intro @xRd_s (And.intro @xRe_s (And.intro @xDet_s (And.intro @xDet_ld (And.intro @xDet_ld2 (And.intro @xDet_ld3 (And.intro @xDet_ld4 
  (And.intro @xGuard_tt (And.intro @ld_3 (And.intro @ld_9 (And.intro @fa_40_0 (And.intro @fa_40_1 (And.intro @ia_37 (And.intro @ln_37 (And.intro @bs_28_0 (And.intro @bs_28_1 (And.intro @bs_28_2 @bs_28_3))))))))))))))))))))))))))))))))))))))))))))))))))))))))))))
theorem known26_spec (w : World) : Gives Try.prog n_loamlaw26_known #[] w (.bool true) := by
  refine loamlaw26_known_of ?_
  unfold loamlaw26_known
  simp (disch := (first | omega | decide | (simp only [World.size_alloc, World.size_setCell, World.size_drew, size_sets, List.mem_cons, List.not_mem_nil, or_false, not_false_eq_true] <;> omega) | fail)) only [↓rsChk7_2, rsChk7_1, Option.isNone_some, Option.isNone_none, tick_eq, tickV_eq, ne_eq, Int.reduceAdd, Int.reduceSub, Int.reduceMul, Int.reduceEq, Int.reduceLT, Int.reduceLE, Int.reduceToNat, Nat.reduceMul, Nat.reduceAdd, Nat.reduceSub, List.nil_append, List.cons_append, List.getElem?_toArray, List.getElem?_cons_zero, List.getElem?_cons_succ, List.setIfInBounds_toArray, List.set_cons_zero, List.set_cons_succ, Option.map_some, List.not_mem_nil, ←decide_not, eq_self]
  have RA : RowAt (w.alloc (.cells #[c64 1296125772, c64 196608, c64 9223372036854775808] 69)) (some ⟨w.heap.size, 0, none⟩) (wrds LA) := rowW w LA
  have XA : Ext [] w (w.alloc (.cells #[c64 1296125772, c64 196608, c64 9223372036854775808] 69)) := Ext.alloc _ _ _
  have RB := rowW (w.alloc (.cells #[c64 1296125772, c64 196608, c64 9223372036854775808] 69)) LB
  rw [World.size_alloc] at RB
  have RB' : RowAt ((w.alloc (.cells #[c64 1296125772, c64 196608, c64 9223372036854775808] 69)).alloc (.cells #[c64 1296125772, c64 196608, c64 5] 69)) (some ⟨w.heap.size + 1, 0, none⟩) (wrds LB) := RB
  have XB : Ext [] (w.alloc (.cells #[c64 1296125772, c64 196608, c64 9223372036854775808] 69)) ((w.alloc (.cells #[c64 1296125772, c64 196608, c64 9223372036854775808] 69)).alloc (.cells #[c64 1296125772, c64 196608, c64 5] 69)) := Ext.alloc _ _ _
  have RA2 := RA.ext0 XB
  have X2 := XA.trans XB
  generalize (w.alloc (.cells #[c64 1296125772, c64 196608, c64 9223372036854775808] 69)).alloc (.cells #[c64 1296125772, c64 196608, c64 5] 69) = y at *
  generalize w.heap.size + 1 = B at *
  generalize w.heap.size = A at *
  have cH : strOf sHead = { data := #[104, 101, 97, 100] } := by decide +kernel
  have cM : strOf sMagic = { data := #[109, 97, 103, 105, 99] } := by decide +kernel
  have cS : strOf sSize = { data := #[115, 105, 122, 101] } := by decide +kernel
  refine check_Image_call (Yld.mono (Image_n0 LB (some ⟨B, 0, none⟩) 3 y RB' (by decide) (by decide) (fun _ => by decide +kernel)) ?_)
  rintro u w3 ⟨os, bad, hS, F3, a5, c5, rfl, hc5, hn5, R5⟩
  have e5 : (magF LB ++ if sizeOk LB then allF (wat LB) os bad else [(1, sSize)]) = [(2, sHead)] := imgB os bad hS
  rw [e5] at R5 hc5 ⊢
  simp (disch := (first | omega | decide | (simp only [World.size_alloc, World.size_setCell, World.size_drew, size_sets, List.mem_cons, List.not_mem_nil, or_false, not_false_eq_true] <;> omega) | fail)) only [↓rsChk7_2, rsChk7_1, Option.isNone_some, Option.isNone_none, tick_eq, tickV_eq, ne_eq, Int.reduceAdd, Int.reduceSub, Int.reduceMul, Int.reduceEq, Int.reduceLT, Int.reduceLE, Int.reduceToNat, Nat.reduceMul, Nat.reduceAdd, Nat.reduceSub, List.nil_append, List.cons_append, List.getElem?_toArray, List.getElem?_cons_zero, List.getElem?_cons_succ, List.setIfInBounds_toArray, List.set_cons_zero, List.set_cons_succ, Option.map_some, List.not_mem_nil, ←decide_not, eq_self]
  refine check_Image_call (Yld.mono (Image_n0 [] none 0 w3 RowAt.nil (by decide) (by decide) (fun h => absurd h (by decide +kernel))) ?_)
  rintro u w4 ⟨os2, bad2, _, F4, a7, c7, rfl, hc7, hn7, R7⟩
  have e7 : (magF [] ++ if sizeOk [] then allF (wat []) os2 bad2 else [(1, sSize)]) = [(0, sMagic), (1, sSize)] := imgN os2 bad2
  rw [e7] at R7 hc7 ⊢
  simp (disch := (first | omega | decide | (simp only [World.size_alloc, World.size_setCell, World.size_drew, size_sets, List.mem_cons, List.not_mem_nil, or_false, not_false_eq_true] <;> omega) | fail)) only [↓rsChk7_2, rsChk7_1, Option.isNone_some, Option.isNone_none, tick_eq, tickV_eq, ne_eq, Int.reduceAdd, Int.reduceSub, Int.reduceMul, Int.reduceEq, Int.reduceLT, Int.reduceLE, Int.reduceToNat, Nat.reduceMul, Nat.reduceAdd, Nat.reduceSub, List.nil_append, List.cons_append, List.getElem?_toArray, List.getElem?_cons_zero, List.getElem?_cons_succ, List.setIfInBounds_toArray, List.set_cons_zero, List.set_cons_succ, Option.map_some, List.not_mem_nil, ←decide_not, eq_self]
  refine check_Right_call (Yld.mono (CRight_n0 LA (some ⟨A, 0, none⟩) 3 w4 ((RA2.ext0 F3).ext0 F4) (by decide) (by decide) (fun _ => by decide +kernel)) ?_)
  rintro u w5 ⟨os3, bad3, hS3, rfl, F5⟩
  have e8 : decide ((imgF LA os3 bad3).length = 0) = true := by rw [imgA os3 bad3 hS3]; rfl
  rw [e8]
  simp (disch := (first | omega | decide | (simp only [World.size_alloc, World.size_setCell, World.size_drew, size_sets, List.mem_cons, List.not_mem_nil, or_false, not_false_eq_true] <;> omega) | fail)) only [↓rsChk7_2, rsChk7_1, Option.isNone_some, Option.isNone_none, tick_eq, tickV_eq, ne_eq, Int.reduceAdd, Int.reduceSub, Int.reduceMul, Int.reduceEq, Int.reduceLT, Int.reduceLE, Int.reduceToNat, Nat.reduceMul, Nat.reduceAdd, Nat.reduceSub, List.nil_append, List.cons_append, List.getElem?_toArray, List.getElem?_cons_zero, List.getElem?_cons_succ, List.setIfInBounds_toArray, List.set_cons_zero, List.set_cons_succ, Option.map_some, List.not_mem_nil, ←decide_not, eq_self]
  refine check_Image_call (Yld.mono (Image_n0 LA (some ⟨A, 0, none⟩) 3 w5 (((RA2.ext0 F3).ext0 F4).ext0 F5) (by decide) (by decide) (fun _ => by decide +kernel)) ?_)
  rintro u w6 ⟨os4, bad4, hS4, F6, a9, c9, rfl, hc9, hn9, R9⟩
  have e9 : (magF LA ++ if sizeOk LA then allF (wat LA) os4 bad4 else [(1, sSize)]) = [] := imgA os4 bad4 hS4
  rw [e9]
  obtain ⟨b1, o1, rfl, z1, k1, k2⟩ := fnd_at (R5.ext0 (F4.trans (F5.trans F6))) (k := 0) (by simp)
  obtain ⟨b2, o2, rfl, z2, _, k3⟩ := fnd_at (R7.ext0 (F5.trans F6)) (k := 0) (by simp)
  obtain ⟨b3, o3, hb3, z3, _, k4⟩ := fnd_at (R7.ext0 (F5.trans F6)) (k := 1) (by simp)
  simp only [Option.some.injEq, Addr.mk.injEq, and_true] at hb3
  obtain ⟨rfl, rfl⟩ := hb3
  have k1' : w6.cell? ⟨b1, o1, none⟩ = some (i64 2) := k1
  have k2' : w6.cell? ⟨b1, o1 + 1, none⟩ = some (.string (strOf sHead)) := k2
  have k3' : w6.cell? ⟨b2, o2 + 1, none⟩ = some (.string (strOf sMagic)) := k3
  have k4' : w6.cell? ⟨b2, o2 + 2 + 1, none⟩ = some (.string (strOf sSize)) := k4
  rw [cH] at k2'
  rw [cM] at k3'
  rw [cS] at k4'
  simp (disch := (first | omega | decide | (simp only [World.size_alloc, World.size_setCell, World.size_drew, size_sets, List.mem_cons, List.not_mem_nil, or_false, not_false_eq_true] <;> omega) | fail)) only [↓rsChk7_2, rsChk7_1, Option.isNone_some, Option.isNone_none, tick_eq, tickV_eq, ne_eq, Int.reduceAdd, Int.reduceSub, Int.reduceMul, Int.reduceEq, Int.reduceLT, Int.reduceLE, Int.reduceToNat, Nat.reduceMul, Nat.reduceAdd, Nat.reduceSub, List.nil_append, List.cons_append, List.getElem?_toArray, List.getElem?_cons_zero, List.getElem?_cons_succ, List.setIfInBounds_toArray, List.set_cons_zero, List.set_cons_succ, Option.map_some, List.not_mem_nil, ←decide_not, k1', k2', k3', k4']
  refine check_Right_call (Yld.mono (CRight_n0 [] none 0 w6 RowAt.nil (by decide) (by decide) (fun h => absurd h (by decide +kernel))) ?_)
  rintro u w7 ⟨os5, bad5, _, rfl, F7⟩
  have e10 : decide ((imgF [] os5 bad5).length = 0) = false := by rw [imgN]; rfl
  rw [e10]
  simp (disch := (first | omega | decide | (simp only [World.size_alloc, World.size_setCell, World.size_drew, size_sets, List.mem_cons, List.not_mem_nil, or_false, not_false_eq_true] <;> omega) | fail)) only [↓rsChk7_2, rsChk7_1, Option.isNone_some, Option.isNone_none, tick_eq, tickV_eq, ne_eq, Int.reduceAdd, Int.reduceSub, Int.reduceMul, Int.reduceEq, Int.reduceLT, Int.reduceLE, Int.reduceToNat, Nat.reduceMul, Nat.reduceAdd, Nat.reduceSub, List.nil_append, List.cons_append, List.getElem?_toArray, List.getElem?_cons_zero, List.getElem?_cons_succ, List.setIfInBounds_toArray, List.set_cons_zero, List.set_cons_succ, Option.map_some, List.not_mem_nil, ←decide_not, k1', k2', k3', k4']
  exact ⟨by trivial, X2.trans (F3.trans (F4.trans (F5.trans (F6.trans F7))))⟩
end Go.Proofs.Ytdpmidgeipibbaa
end
section
set_option linter.unusedVariables false
set_option linter.unusedSimpArgs false
set_option maxHeartbeats 4000000
namespace Go.Proofs.Ytdpmidgeipibbaa
open Go.Sh Go.RowKit

def sName : List (BitVec 8) := [110#8, 97#8, 109#8, 101#8]
def sRoot : List (BitVec 8) := [114#8, 111#8, 111#8, 116#8]
def leN (s last : List (BitVec 8)) : Bool := Op.bytesLess (strOf s).toList (strOf last).toList || (strOf s).toList == (strOf last).toList
def lastAt (l : List (BitVec 64)) : Nat → List (BitVec 8)
  | 0 => []
  | i + 1 => if nameB l (2 + 5 * i) then nameS l (2 + 5 * i) else lastAt l i
def nmF (l : List (BitVec 64)) (i : Nat) : List Fnd := if ¬ nameB l (2 + 5 * i) ∨ leN (nameS l (2 + 5 * i)) (lastAt l i) = true then [(2 + 5 * i, sName)] else []
def rtF (l : List (BitVec 64)) (os : List Nat) (i : Nat) : List Fnd := if PtrOk os (wat l (2 + 5 * i + 4)).toNat then [] else [(2 + 5 * i + 4, sRoot)]
def rootsF (l : List (BitVec 64)) (os : List Nat) : Nat → List Fnd
  | 0 => []
  | i + 1 => rootsF l os i ++ (nmF l i ++ rtF l os i)
theorem rootsF_len (l : List (BitVec 64)) (os : List Nat) : ∀ i, (rootsF l os i).length ≤ 2 * i
  | 0 => by simp [rootsF]
  | i + 1 => by
    have ih := rootsF_len l os i
    have h1 : (nmF l i).length ≤ 1 := by unfold nmF; split <;> simp
    have h2 : (rtF l os i).length ≤ 1 := by unfold rtF; split <;> simp
    rw [rootsF, List.length_append, List.length_append]
    omega
def imgG (l : List (BitVec 64)) (os : List Nat) (bad : Option Nat) : List Fnd := magF l ++ if sizeOk l then allF (wat l) os bad ++ rootsF l os (nR l) else [(1, sSize)]
theorem nm_sub (l : List (BitVec 64)) (at' : Nat) : bytesW ((l.drop at').take 4) (8 * 0) 32 = bytesW l (8 * at') 32 := by
  unfold bytesW
  refine List.map_congr_left fun i hi => ?_
  have hi := List.mem_range.1 hi
  unfold byteW
  simp only [List.getD_eq_getElem?_getD]
  rw [List.getElem?_take, if_pos (by omega), List.getElem?_drop, show at' + (8 * 0 + i) / 8 = (8 * at' + i) / 8 by omega, show (8 * 0 + i) % 8 = (8 * at' + i) % 8 by omega]
theorem leS {cx cy : Bool} (a b : ByteArray) (w : World) (K : K1) : xBin Try.prog .leq 9 cx (.string a) cy (.string b) w K = K (.bool (Op.bytesLess a.toList b.toList || a.toList == b.toList)) w := xBin_ok (by simp [eqGuard, binOp, Op.stringOp])
theorem name_at (l : List (BitVec 64)) (at' : Nat) (a : Option Addr) (c : Nat) (w : World) (h : RowAt w a (wrds l)) (hc : l.length ≤ c) (h4 : at' + 4 ≤ l.length) :
    Gives Try.prog n_check_name #[.slice (if c = at' then a else a.map (·.add at')) 4 (c - at')] w (.tuple #[.string (strOf (nameS l at')), .bool (decide (nameB l at'))]) := by
  have hd := h.drop at' c (by simpa using hc)
  rw [← List.map_drop] at hd
  have ht : RowAt w (if c = at' then a else a.map (·.add at')) (wrds ((l.drop at').take 4)) := by
    rcases hd with h0 | ⟨b, o, h1, h2⟩
    · refine .inl ?_
      have : l.drop at' = [] := List.map_eq_nil_iff.1 h0
      rw [this]
      rfl
    · refine .inr ⟨b, o, h1, fun i x hx => h2 i x ?_⟩
      have hx : (List.map _ ((l.drop at').take 4))[i]? = some x := hx
      rw [List.map_take, List.getElem?_take] at hx
      split at hx
      · exact hx
      · cases hx
  have hl : ((l.drop at').take 4).length = 4 := by rw [List.length_take, List.length_drop]; omega
  have := name_spec ((l.drop at').take 4) _ (c - at') w ht hl (by omega)
  have e1 : nameS ((l.drop at').take 4) 0 = nameS l at' := by unfold nameS; rw [nm_sub]
  have e2 : nameB ((l.drop at').take 4) 0 ↔ nameB l at' := by unfold nameB; rw [e1, nm_sub]
  rw [e1, decide_eq_decide.2 e2] at this
  exact this
abbrev rsChk9_0 := (And.intro @xBox_r (And.intro @loadK_some (And.intro @loadsK_s (And.intro @loadsK_n (And.intro @loadsR_s (And.intro @loadsR_n (And.intro @storesK_s (And.intro @storesK_n (And.intro @xPick_t (And.intro @xPick_f (And.intro @xGuard_tt (And.intro @xGuard_ff (And.intro @xGuard_tf (And.intro @xGuard_ft (And.intro @xGuard_u 
  (And.intro @xNil_r (And.intro @xIf_t (And.intro @xBin_add' (And.intro @xBin_sub' (And.intro @xBin_mul' (And.intro @xBin_quo' (And.intro @xBin_rem' (And.intro @xIf_f (And.intro @xIf_tt (And.intro @xEx0 (And.intro @xEx1 (And.intro @xEx2 (And.intro @xEx3 (And.intro @xBin_eqs (And.intro @xBin_nes (And.intro @xUn_not (And.intro @xu8_add (And.intro @xu8_mul 
  (And.intro @xu8_com (And.intro @xu8_neq (And.intro @xu8_lss (And.intro @xu8_leq (And.intro @xu16_add (And.intro @xu16_mul (And.intro @xu16_com (And.intro @xu16_neq (And.intro @xu16_lss (And.intro @xu16_leq (And.intro @xu32_add (And.intro @xu32_mul (And.intro @xu32_com (And.intro @xu32_neq (And.intro @xu32_lss (And.intro @xu32_leq (And.intro @xu64_add 
  (And.intro @xu64_mul (And.intro @xu64_com (And.intro @xu64_neq (And.intro @xu64_lss (And.intro @xu64_leq (And.intro @xi64_lss (And.intro @xi64_leq (And.intro @xi64_neq (And.intro @xi64_neg (And.intro @xMakeFunc_r (And.intro @xSq_r (And.intro @xPur_s (And.intro @xRd_s (And.intro @xRe_s (And.intro @xDet_s (And.intro @xDet_ld (And.intro @xDet_ld2 
  (And.intro @xDet_ld3 (And.intro @xDet_ld4 (And.intro @xGuard_tt (And.intro @ld_37 (And.intro @ld_69 (And.intro @fa_96_3 (And.intro @bd_40_0_1 (And.intro @ia_28 (And.intro @ln_28 (And.intro @bs_37_1 (And.intro @sh_28 (And.intro @sl_28 (And.intro @sm_28 @sb_28))))))))))))))))))))))))))))))))))))))))))))))))))))))))))))))))))))))))))))))))
abbrev rsChk9_1 := (And.intro @setCells_c (And.intro @setCells_n (And.intro @World.setCell_alloc_at (And.intro @World.setCell_alloc_past (And.intro @World.cell?_alloc_at (And.intro @World.cell?_alloc_past (And.intro @World.frozen?_alloc_at (And.intro @World.frozen?_alloc_past 
  (And.intro @World.size_alloc (And.intro @dlt_t (And.intro @dlt_f (And.intro @dle_t (And.intro @dle_f (And.intro @deq_t (And.intro @deq_f (And.intro @dne_t (And.intro @dne_f (And.intro @not_true_eq_false (And.intro @Bool.false_and (And.intro @Bool.true_and (And.intro @Bool.and_true (And.intro @Bool.and_false (And.intro @wrap_in (And.intro @Int.toNat_natCast 
  (And.intro @Nat.mul_one (And.intro @cells_int (And.intro @cells_bool (And.intro @cells_string (And.intro @cells_slice (And.intro @cells_pointer (And.intro @cells_agg (And.intro @one_int (And.intro @one_bool (And.intro @one_string (And.intro @one_slice (And.intro @one_pointer (And.intro @beq_tt (And.intro @beq_ff (And.intro @beq_tf 
  (And.intro @beq_ft (And.intro @cell_sets_b (And.intro @frozen_sets (And.intro @size_sets (And.intro @World.size_drew (And.intro @Nat.zero_add (And.intro @Nat.add_zero (And.intro @cell_drew (And.intro @frozen_drew (And.intro @cell_set_eq (And.intro @cell_set_o (And.intro @cell_set_b (And.intro @World.frozen?_setCell 
  (And.intro @decide_true (And.intro @decide_false (And.intro @not_false_eq_true (And.intro @Bool.not_true @Bool.not_false))))))))))))))))))))))))))))))))))))))))))))))))))))))))
theorem Image_spec (l : List (BitVec 64)) (a : Option Addr) (c : Nat) (w : World) (h : RowAt w a (wrds l)) (hc : l.length ≤ c) (hl : l.length ≤ 8192) :
    Yld Try.prog n_check_Image #[.slice a l.length c] w fun u w' => ∃ os bad, (sizeOk l → Sc (wat l) l.length (2 + 5 * nR l) os bad) ∧ FndR w w' u (imgG l os bad) := by
  refine check_Image_of ?_
  unfold check_Image
  have j8 : ∀ (v : Value) (w1 : World), Ext [] w w1 → OwnF w1 v (magF l) → (∀ y ∈ blk v, w.heap.size ≤ y) → check_Image_j8 (fun u w' => ∃ os bad, (sizeOk l → Sc (wat l) l.length (2 + 5 * nR l) os bad) ∧ FndR w w' u (imgG l os bad)) (.slice a l.length c) v w1 := by
    intro v w1 F1 O1 hv
    have R1 := h.ext0 F1
    have lm : (magF l).length ≤ 1 := by unfold magF; split <;> simp
    unfold check_Image_j8
    refine check_size_call (Gives.to (csize_spec l a c w1 R1 (by omega)) fun w2 F2 => ?_)
    have O2 := O1.ext0 F2
    have R2 := R1.ext0 F2
    obtain ⟨a0, c0, rfl, hc0, _, hn0, hr0, _⟩ := O1.slice
    by_cases hs : sizeOk l
    · have h2 : ¬ l.length < 2 := by have := hs.1; omega
      have hn64 := hs.2.2.2.1
      have hfr := hs.2.2.2.2
      rw [decide_eq_true hs, if_neg h2]
      have hG : ∀ os bad, imgG l os bad = magF l ++ (allF (wat l) os bad ++ rootsF l os (nR l)) := fun os bad => by unfold imgG; rw [if_pos hs]
      generalize hN : nR l = N at *
      have e0 : (2 : Int) + 5 * (N : Int) = ((2 + 5 * N : Nat) : Int) := by omega
      have t0 : (2 + 5 * (N : Int)).toNat = 2 + 5 * N := by omega
      generalize hfrom : 2 + 5 * N = fr at *
      have hlk := fun (w : World) (R : RowAt w a (wrds l)) => look_spec w (l.drop fr) (if c = fr then a else a.map (·.add fr)) (c - fr) fr (by
        have := R.drop fr c (by simpa using hc)
        rw [← List.map_drop] at this
        exact this) (by rw [List.length_drop]; omega) (by rw [List.length_drop]; omega)
      rw [List.length_drop] at hlk
      simp (disch := (first | omega | decide | (simp only [World.size_alloc, World.size_setCell, World.size_drew, size_sets, List.mem_cons, List.not_mem_nil, or_false, not_false_eq_true] <;> omega) | fail)) only [↓rsChk9_0, rsChk9_1, Option.isNone_some, Option.isNone_none, tick_eq, tickV_eq, ne_eq, Int.reduceAdd, Int.reduceSub, Int.reduceMul, Int.reduceEq, Int.reduceLT, Int.reduceLE, Int.reduceToNat, Nat.reduceMul, Nat.reduceAdd, Nat.reduceSub, List.nil_append, List.cons_append, List.getElem?_toArray, List.getElem?_cons_zero, List.getElem?_cons_succ, List.setIfInBounds_toArray, List.set_cons_zero, List.set_cons_succ, Option.map_some, List.not_mem_nil, ←decide_not, t0, e0]
      refine check_look_call (Yld.mono (hlk w2 R2) ?_)
      rintro u w3 ⟨k, r, v, os, bad, rfl, hS, W⟩
      have e1 : fr + (l.length - fr) = l.length := by omega
      rw [e1] at hS
      have hS2 : Sc (wat l) l.length fr os bad := hS.congr fun i h3 h4 => by rw [wat_drop]; congr 1; omega
      have hall : allF (fun p => wat (l.drop fr) (p - fr)) os bad = allF (wat l) os bad := allF_congr hS fun i h3 h4 => by rw [wat_drop]; congr 1; omega
      rw [hall] at W
      have lf : (allF (wat l) os bad).length ≤ 90000 := by
        have h1 := hS2.fnd os os.length
        rw [List.take_length] at h1
        have h2 : (badF bad).length ≤ 1 := by cases bad <;> simp [badF]
        unfold allF
        rw [List.length_append]
        omega
      have hos : ∀ p ∈ os, p < fr + (l.drop fr).length := fun p hp => by
        have := (hS2.all).2 p hp
        have := szW_pos (x := wat l p)
        rw [List.length_drop]
        omega
      have hbl : fr + (l.drop fr).length ≤ 8192 := by rw [List.length_drop]; omega
      generalize hA : allF (wat l) os bad = A at *
      simp (disch := (first | omega | decide | (simp only [World.size_alloc, World.size_setCell, World.size_drew, size_sets, List.mem_cons, List.not_mem_nil, or_false, not_false_eq_true] <;> omega) | fail)) only [↓rsChk9_0, rsChk9_1, Option.isNone_some, Option.isNone_none, tick_eq, tickV_eq, ne_eq, Int.reduceAdd, Int.reduceSub, Int.reduceMul, Int.reduceEq, Int.reduceLT, Int.reduceLE, Int.reduceToNat, Nat.reduceMul, Nat.reduceAdd, Nat.reduceSub, List.nil_append, List.cons_append, List.getElem?_toArray, List.getElem?_cons_zero, List.getElem?_cons_succ, List.setIfInBounds_toArray, List.set_cons_zero, List.set_cons_succ, Option.map_some, List.not_mem_nil, ←decide_not, t0, e0]
      refine xLoop_r N (fun j vs w' => ∃ v', vs = [.string (strOf (lastAt l j)), i64 ((2 + 5 * j : Nat) : Int)] ∧ WkIs w2 w' k r v' (if c = fr then a else a.map (·.add fr)) (c - fr) (l.drop fr) fr os (A ++ rootsF l os j)) ⟨v, by rfl, by simpa [rootsF] using W⟩ ?_ ?_
      · rintro j hj u w4 ⟨v4, hu, W4⟩ nxt hnx
        simp only [List.map_cons, List.map_nil, List.cons.injEq, and_true] at hu
        rw [hu.1, hu.2]
        have hr := rootsF_len l os j
        have R4 := R2.ext0 W4.ext
        have t1 : (((2 + 5 * j : Nat) : Int)).toNat = 2 + 5 * j := by omega
        have e4 : ((2 + 5 * j : Nat) : Int) + 4 = ((2 + 5 * j + 4 : Nat) : Int) := by omega
        have t5 : 2 + 5 * j + 4 - (2 + 5 * j) = 4 := by omega
        have e5 : ((2 + 5 * j : Nat) : Int) + 5 = ((2 + 5 * (j + 1) : Nat) : Int) := by omega
        have hnm := fun (w : World) (R : RowAt w a (wrds l)) => name_at l (2 + 5 * j) a c w R hc (by omega)
        have hst : A ++ rootsF l os (j + 1) = (A ++ rootsF l os j ++ nmF l j) ++ rtF l os j := by rw [rootsF]; simp [List.append_assoc]
        have hlast : lastAt l (j + 1) = if nameB l (2 + 5 * j) then nameS l (2 + 5 * j) else lastAt l j := rfl
        have hnmF : nmF l j = if ¬ nameB l (2 + 5 * j) ∨ leN (nameS l (2 + 5 * j)) (lastAt l j) = true then [(2 + 5 * j, sName)] else [] := rfl
        have hrtF : rtF l os j = if PtrOk os (wat l (2 + 5 * j + 4)).toNat then [] else [(2 + 5 * j + 4, sRoot)] := rfl
        have cN : ({ data := #[110, 97, 109, 101] } : ByteArray) = strOf sName := by decide +kernel
        have cR : ({ data := #[114, 111, 111, 116] } : ByteArray) = strOf sRoot := by decide +kernel
        have hat : 2 + 5 * j + 4 < l.length := by omega
        generalize 2 + 5 * j = at' at *
        have last' : ∀ (x : List (BitVec 8)) (w5 : World) (v5 : Value), WkIs w2 w5 k r v5 (if c = fr then a else a.map (·.add fr)) (c - fr) (l.drop fr) fr os (A ++ rootsF l os j ++ nmF l j) → x = lastAt l (j + 1) →
            check_Image_j14 (fun u w' => ∃ os bad, (sizeOk l → Sc (wat l) l.length fr os bad) ∧ FndR w w' u (imgG l os bad)) nxt (.slice a l.length c) (ptr k) (.string (strOf x)) (i64 (at' : Int)) w5 := by
          intro x w5 v5 W5 hx
          have ln : (nmF l j).length ≤ 1 := by rw [hnmF]; split <;> simp
          obtain ⟨b1, o1, ha1, z1, k1⟩ := row_w (R2.ext0 W5.ext) (i := at' + 4) hat
          subst ha1
          unfold check_Image_j14
          simp (disch := (first | omega | decide | (simp only [World.size_alloc, World.size_setCell, World.size_drew, size_sets, List.mem_cons, List.not_mem_nil, or_false, not_false_eq_true] <;> omega) | fail)) only [↓rsChk9_0, rsChk9_1, Option.isNone_some, Option.isNone_none, tick_eq, tickV_eq, ne_eq, Int.reduceAdd, Int.reduceSub, Int.reduceMul, Int.reduceEq, Int.reduceLT, Int.reduceLE, Int.reduceToNat, Nat.reduceMul, Nat.reduceAdd, Nat.reduceSub, List.nil_append, List.cons_append, List.getElem?_toArray, List.getElem?_cons_zero, List.getElem?_cons_succ, List.setIfInBounds_toArray, List.set_cons_zero, List.set_cons_succ, Option.map_some, List.not_mem_nil, ←decide_not, t0, e0, e4, k1]
          refine check_walk_points_call (Gives.to (points_spec W5 hos hbl (wat l (at' + 4))) fun w6 F6 => ?_)
          have W6 := W5.ext0 F6
          by_cases hp : PtrOk os (wat l (at' + 4)).toNat
          · rw [decide_eq_true hp]
            rw [if_pos hp] at hrtF
            rw [hrtF, List.append_nil] at hst
            unfold check_Image_j15
            simp (disch := (first | omega | decide | (simp only [World.size_alloc, World.size_setCell, World.size_drew, size_sets, List.mem_cons, List.not_mem_nil, or_false, not_false_eq_true] <;> omega) | fail)) only [↓rsChk9_0, rsChk9_1, Option.isNone_some, Option.isNone_none, tick_eq, tickV_eq, ne_eq, Int.reduceAdd, Int.reduceSub, Int.reduceMul, Int.reduceEq, Int.reduceLT, Int.reduceLE, Int.reduceToNat, Nat.reduceMul, Nat.reduceAdd, Nat.reduceSub, List.nil_append, List.cons_append, List.getElem?_toArray, List.getElem?_cons_zero, List.getElem?_cons_succ, List.setIfInBounds_toArray, List.set_cons_zero, List.set_cons_succ, Option.map_some, List.not_mem_nil, ←decide_not, t0, e0, e4, k1, e5]
            exact hnx _ _ ⟨v5, by rw [hx], by rw [hst]; exact W6⟩
          · rw [decide_eq_false hp]
            rw [if_neg hp] at hrtF
            rw [hrtF] at hst
            simp (disch := (first | omega | decide | (simp only [World.size_alloc, World.size_setCell, World.size_drew, size_sets, List.mem_cons, List.not_mem_nil, or_false, not_false_eq_true] <;> omega) | fail)) only [↓rsChk9_0, rsChk9_1, Option.isNone_some, Option.isNone_none, tick_eq, tickV_eq, ne_eq, Int.reduceAdd, Int.reduceSub, Int.reduceMul, Int.reduceEq, Int.reduceLT, Int.reduceLE, Int.reduceToNat, Nat.reduceMul, Nat.reduceAdd, Nat.reduceSub, List.nil_append, List.cons_append, List.getElem?_toArray, List.getElem?_cons_zero, List.getElem?_cons_succ, List.setIfInBounds_toArray, List.set_cons_zero, List.set_cons_succ, Option.map_some, List.not_mem_nil, ←decide_not, t0, e0, e4, k1]
            rw [cR]
            refine check_walk_add_call (Yld.mono (add_spec (at' := at' + 4) (s := sRoot) W6 (by simp only [List.length_append]; omega)) ?_)
            rintro u w7 ⟨v7, W7, T7⟩
            unfold check_Image_j15
            simp (disch := (first | omega | decide | (simp only [World.size_alloc, World.size_setCell, World.size_drew, size_sets, List.mem_cons, List.not_mem_nil, or_false, not_false_eq_true] <;> omega) | fail)) only [↓rsChk9_0, rsChk9_1, Option.isNone_some, Option.isNone_none, tick_eq, tickV_eq, ne_eq, Int.reduceAdd, Int.reduceSub, Int.reduceMul, Int.reduceEq, Int.reduceLT, Int.reduceLE, Int.reduceToNat, Nat.reduceMul, Nat.reduceAdd, Nat.reduceSub, List.nil_append, List.cons_append, List.getElem?_toArray, List.getElem?_cons_zero, List.getElem?_cons_succ, List.setIfInBounds_toArray, List.set_cons_zero, List.set_cons_succ, Option.map_some, List.not_mem_nil, ←decide_not, t0, e0, e4, k1, e5]
            exact hnx _ _ ⟨v7, by rw [hx], by rw [hst]; exact W7⟩
        have step : ∀ (w5 : World) (v5 : Value), WkIs w2 w5 k r v5 (if c = fr then a else a.map (·.add fr)) (c - fr) (l.drop fr) fr os (A ++ rootsF l os j ++ nmF l j) →
            check_Image_j12 (fun u w' => ∃ os bad, (sizeOk l → Sc (wat l) l.length fr os bad) ∧ FndR w w' u (imgG l os bad)) nxt (.slice a l.length c) (ptr k) (.string (strOf (lastAt l j))) (i64 (at' : Int)) (.string (strOf (nameS l at'))) (.bool (decide (nameB l at'))) w5 := by
          intro w5 v5 W5
          unfold check_Image_j12
          by_cases hb : nameB l at'
          · rw [decide_eq_true hb]
            simp (disch := (first | omega | decide | (simp only [World.size_alloc, World.size_setCell, World.size_drew, size_sets, List.mem_cons, List.not_mem_nil, or_false, not_false_eq_true] <;> omega) | fail)) only [↓rsChk9_0, rsChk9_1, Option.isNone_some, Option.isNone_none, tick_eq, tickV_eq, ne_eq, Int.reduceAdd, Int.reduceSub, Int.reduceMul, Int.reduceEq, Int.reduceLT, Int.reduceLE, Int.reduceToNat, Nat.reduceMul, Nat.reduceAdd, Nat.reduceSub, List.nil_append, List.cons_append, List.getElem?_toArray, List.getElem?_cons_zero, List.getElem?_cons_succ, List.setIfInBounds_toArray, List.set_cons_zero, List.set_cons_succ, Option.map_some, List.not_mem_nil, ←decide_not, t0, e0]
            exact last' _ w5 v5 W5 (by rw [hlast, if_pos hb])
          · rw [decide_eq_false hb]
            simp (disch := (first | omega | decide | (simp only [World.size_alloc, World.size_setCell, World.size_drew, size_sets, List.mem_cons, List.not_mem_nil, or_false, not_false_eq_true] <;> omega) | fail)) only [↓rsChk9_0, rsChk9_1, Option.isNone_some, Option.isNone_none, tick_eq, tickV_eq, ne_eq, Int.reduceAdd, Int.reduceSub, Int.reduceMul, Int.reduceEq, Int.reduceLT, Int.reduceLE, Int.reduceToNat, Nat.reduceMul, Nat.reduceAdd, Nat.reduceSub, List.nil_append, List.cons_append, List.getElem?_toArray, List.getElem?_cons_zero, List.getElem?_cons_succ, List.setIfInBounds_toArray, List.set_cons_zero, List.set_cons_succ, Option.map_some, List.not_mem_nil, ←decide_not, t0, e0]
            exact last' _ w5 v5 W5 (by rw [hlast, if_neg hb])
        unfold check_Image_l2
        simp (disch := (first | omega | decide | (simp only [World.size_alloc, World.size_setCell, World.size_drew, size_sets, List.mem_cons, List.not_mem_nil, or_false, not_false_eq_true] <;> omega) | fail)) only [↓rsChk9_0, rsChk9_1, Option.isNone_some, Option.isNone_none, tick_eq, tickV_eq, ne_eq, Int.reduceAdd, Int.reduceSub, Int.reduceMul, Int.reduceEq, Int.reduceLT, Int.reduceLE, Int.reduceToNat, Nat.reduceMul, Nat.reduceAdd, Nat.reduceSub, List.nil_append, List.cons_append, List.getElem?_toArray, List.getElem?_cons_zero, List.getElem?_cons_succ, List.setIfInBounds_toArray, List.set_cons_zero, List.set_cons_succ, Option.map_some, List.not_mem_nil, ←decide_not, t0, e0, t1, e4, t5]
        have hle : ∀ (b : Bool), leN (nameS l at') (lastAt l j) = b → ∀ (w : World) (K : K1), xBin Try.prog .leq 9 false (.string (strOf (nameS l at'))) false (.string (strOf (lastAt l j))) w K = K (.bool b) w := fun b hb w K => by rw [leS, ← hb]; rfl
        have hlen : (A ++ rootsF l os j).length ≤ 1000000 := by rw [List.length_append]; omega
        have found : nmF l j = [(at', sName)] → ∀ (w5 : World), Ext [] w4 w5 → xCall Try.prog (fnv n_check_walk_add) [ptr k, i64 (at' : Int), .string (strOf sName)] w5 (fun _ w' => check_Image_j12 (fun u w' => ∃ os bad, (sizeOk l → Sc (wat l) l.length fr os bad) ∧ FndR w w' u (imgG l os bad)) nxt (.slice a l.length c) (ptr k) (.string (strOf (lastAt l j))) (i64 (at' : Int)) (.string (strOf (nameS l at'))) (.bool (decide (nameB l at'))) w') := by
          intro hf w5 F5
          refine check_walk_add_call (Yld.mono (add_spec (at' := at') (s := sName) (W4.ext0 F5) hlen) ?_)
          rintro u w6 ⟨v6, W6, T6⟩
          exact step w6 v6 (by rw [hf]; exact W6)
        refine check_name_call (Gives.to (hnm w4 R4) fun w5 F5 => ?_)
        by_cases hb : nameB l at'
        · have hd : decide (nameB l at') = true := decide_eq_true hb
          rw [hd] at found step ⊢
          cases hlb : leN (nameS l at') (lastAt l j) with
          | true =>
            simp (disch := (first | omega | decide | (simp only [World.size_alloc, World.size_setCell, World.size_drew, size_sets, List.mem_cons, List.not_mem_nil, or_false, not_false_eq_true] <;> omega) | fail)) only [↓rsChk9_0, rsChk9_1, Option.isNone_some, Option.isNone_none, tick_eq, tickV_eq, ne_eq, Int.reduceAdd, Int.reduceSub, Int.reduceMul, Int.reduceEq, Int.reduceLT, Int.reduceLE, Int.reduceToNat, Nat.reduceMul, Nat.reduceAdd, Nat.reduceSub, List.nil_append, List.cons_append, List.getElem?_toArray, List.getElem?_cons_zero, List.getElem?_cons_succ, List.setIfInBounds_toArray, List.set_cons_zero, List.set_cons_succ, Option.map_some, List.not_mem_nil, ←decide_not, t0, e0, t1, e4, t5, hle true hlb]
            rw [cN]
            exact found (by rw [hnmF, if_pos (.inr hlb)]) w5 F5
          | false =>
            simp (disch := (first | omega | decide | (simp only [World.size_alloc, World.size_setCell, World.size_drew, size_sets, List.mem_cons, List.not_mem_nil, or_false, not_false_eq_true] <;> omega) | fail)) only [↓rsChk9_0, rsChk9_1, Option.isNone_some, Option.isNone_none, tick_eq, tickV_eq, ne_eq, Int.reduceAdd, Int.reduceSub, Int.reduceMul, Int.reduceEq, Int.reduceLT, Int.reduceLE, Int.reduceToNat, Nat.reduceMul, Nat.reduceAdd, Nat.reduceSub, List.nil_append, List.cons_append, List.getElem?_toArray, List.getElem?_cons_zero, List.getElem?_cons_succ, List.setIfInBounds_toArray, List.set_cons_zero, List.set_cons_succ, Option.map_some, List.not_mem_nil, ←decide_not, t0, e0, t1, e4, t5, hle false hlb]
            have hz : nmF l j = [] := by rw [hnmF, if_neg (by rw [hlb]; rintro (h1 | h1); exact h1 hb; cases h1)]
            exact step w5 v4 (by
              rw [hz, List.append_nil]
              exact W4.ext0 F5)
        · have hd : decide (nameB l at') = false := decide_eq_false hb
          rw [hd] at found step ⊢
          simp (disch := (first | omega | decide | (simp only [World.size_alloc, World.size_setCell, World.size_drew, size_sets, List.mem_cons, List.not_mem_nil, or_false, not_false_eq_true] <;> omega) | fail)) only [↓rsChk9_0, rsChk9_1, Option.isNone_some, Option.isNone_none, tick_eq, tickV_eq, ne_eq, Int.reduceAdd, Int.reduceSub, Int.reduceMul, Int.reduceEq, Int.reduceLT, Int.reduceLE, Int.reduceToNat, Nat.reduceMul, Nat.reduceAdd, Nat.reduceSub, List.nil_append, List.cons_append, List.getElem?_toArray, List.getElem?_cons_zero, List.getElem?_cons_succ, List.setIfInBounds_toArray, List.set_cons_zero, List.set_cons_succ, Option.map_some, List.not_mem_nil, ←decide_not, t0, e0, t1, e4, t5]
          rw [cN]
          exact found (by rw [hnmF, if_pos (.inl hb)]) w5 F5
      · rintro u w4 ⟨v4, hu, W4⟩ nxt
        simp only [List.map_cons, List.map_nil, List.cons.injEq, and_true] at hu
        rw [hu.1, hu.2]
        have hr := rootsF_len l os N
        obtain ⟨a3, c3, hv3, hc3, hn3, hr3⟩ := fnd_of W4
        have k4 := fun i => W4.blk.cell (i := i)
        subst hv3
        unfold check_Image_l2
        simp (disch := (first | omega | decide | (simp only [World.size_alloc, World.size_setCell, World.size_drew, size_sets, List.mem_cons, List.not_mem_nil, or_false, not_false_eq_true] <;> omega) | fail)) only [↓rsChk9_0, rsChk9_1, Option.isNone_some, Option.isNone_none, tick_eq, tickV_eq, ne_eq, Int.reduceAdd, Int.reduceSub, Int.reduceMul, Int.reduceEq, Int.reduceLT, Int.reduceLE, Int.reduceToNat, Nat.reduceMul, Nat.reduceAdd, Nat.reduceSub, List.nil_append, List.cons_append, List.getElem?_toArray, List.getElem?_cons_zero, List.getElem?_cons_succ, List.setIfInBounds_toArray, List.set_cons_zero, List.set_cons_succ, Option.map_some, List.not_mem_nil, ←decide_not, t0, e0, k4]
        refine appFs (O2.ext0 W4.ext) hr3 hn3 hc3 (by rw [List.length_append]; omega) fun v' w5 O5 F5 => ?_
        have X5 : Ext [] w w5 := ((F1.trans F2).trans W4.ext).new F5.ext (fun y hy => hv y hy)
        have hGe : magF l ++ (A ++ rootsF l os N) = imgG l os bad := by rw [hG, hA]
        rw [hGe] at O5
        obtain ⟨a6, c6, rfl, hc6, _, hn6, hr6, _⟩ := O5.slice
        refine slices_Clip_check_Finding_check_Finding_call (Gives.to (ClipF_spec hc6) fun w6 F6 => ?_)
        exact ⟨os, bad, fun _ => hS2, X5.trans F6, a6, _, rfl, Nat.le_refl _, fun h => by have := hn6 h; omega, hr6.ext0 F6⟩
    · rw [decide_eq_false hs]
      have cS : ({ data := #[115, 105, 122, 101] } : ByteArray) = strOf sSize := by decide +kernel
      have hG : imgG l [] none = magF l ++ [(1, sSize)] := by unfold imgG; rw [if_neg hs]
      simp (disch := (first | omega | decide | (simp only [World.size_alloc, World.size_setCell, World.size_drew, size_sets, List.mem_cons, List.not_mem_nil, or_false, not_false_eq_true] <;> omega) | fail)) only [↓rsChk9_0, rsChk9_1, Option.isNone_some, Option.isNone_none, tick_eq, tickV_eq, ne_eq, Int.reduceAdd, Int.reduceSub, Int.reduceMul, Int.reduceEq, Int.reduceLT, Int.reduceLE, Int.reduceToNat, Nat.reduceMul, Nat.reduceAdd, Nat.reduceSub, List.nil_append, List.cons_append, List.getElem?_toArray, List.getElem?_cons_zero, List.getElem?_cons_succ, List.setIfInBounds_toArray, List.set_cons_zero, List.set_cons_succ, Option.map_some, List.not_mem_nil, ←decide_not, eq_self]
      rw [cS]
      refine appFl O2 (f := (1, sSize)) rfl (by omega) fun v' w3 O3 F3 => ?_
      have X3 : Ext [] w w3 := (F1.trans F2).new F3.ext (fun y hy => hv y hy)
      rw [← hG] at O3
      obtain ⟨a6, c6, rfl, hc6, _, hn6, hr6, _⟩ := O3.slice
      refine slices_Clip_check_Finding_check_Finding_call (Gives.to (ClipF_spec hc6) fun w6 F6 => ?_)
      exact ⟨[], none, fun h => absurd h hs, X3.trans F6, a6, _, rfl, Nat.le_refl _, fun h => by have := hn6 h; omega, hr6.ext0 F6⟩
  have cM : ({ data := #[109, 97, 103, 105, 99] } : ByteArray) = strOf sMagic := by decide +kernel
  by_cases hm : l.length < 1
  · have hmg : magF l = [(0, sMagic)] := by unfold magF; rw [if_pos (.inl hm)]
    simp (disch := (first | omega | decide | (simp only [World.size_alloc, World.size_setCell, World.size_drew, size_sets, List.mem_cons, List.not_mem_nil, or_false, not_false_eq_true] <;> omega) | fail)) only [↓rsChk9_0, rsChk9_1, Option.isNone_some, Option.isNone_none, tick_eq, tickV_eq, ne_eq, Int.reduceAdd, Int.reduceSub, Int.reduceMul, Int.reduceEq, Int.reduceLT, Int.reduceLE, Int.reduceToNat, Nat.reduceMul, Nat.reduceAdd, Nat.reduceSub, List.nil_append, List.cons_append, List.getElem?_toArray, List.getElem?_cons_zero, List.getElem?_cons_succ, List.setIfInBounds_toArray, List.set_cons_zero, List.set_cons_succ, Option.map_some, List.not_mem_nil, ←decide_not, eq_self]
    rw [cM]
    refine appFl (F := []) Own.nil (f := (0, sMagic)) rfl (by simp) fun v' w3 O3 F3 => ?_
    exact j8 v' w3 (F3.ext.more (by simp [blk, Value.ownBlock])) (by rw [hmg]; exact O3) (fun y hy => by
      rcases F3.at' y hy with h1 | h1
      · simp [blk, Value.ownBlock] at h1
      · exact h1)
  obtain ⟨b1, o1, rfl, z1, k1⟩ := row_w h (i := 0) (by omega)
  have k1' : w.cell? ⟨b1, o1, none⟩ = some (u64 (wat l 0)) := k1
  by_cases hm2 : wat l 0 = BitVec.ofNat 64 1296125772
  · have hmg : magF l = [] := by unfold magF; rw [if_neg]; rintro (h1 | h1); exact hm h1; exact h1 hm2
    simp (disch := (first | omega | decide | (simp only [World.size_alloc, World.size_setCell, World.size_drew, size_sets, List.mem_cons, List.not_mem_nil, or_false, not_false_eq_true] <;> omega) | fail)) only [↓rsChk9_0, rsChk9_1, Option.isNone_some, Option.isNone_none, tick_eq, tickV_eq, ne_eq, Int.reduceAdd, Int.reduceSub, Int.reduceMul, Int.reduceEq, Int.reduceLT, Int.reduceLE, Int.reduceToNat, Nat.reduceMul, Nat.reduceAdd, Nat.reduceSub, List.nil_append, List.cons_append, List.getElem?_toArray, List.getElem?_cons_zero, List.getElem?_cons_succ, List.setIfInBounds_toArray, List.set_cons_zero, List.set_cons_succ, Option.map_some, List.not_mem_nil, ←decide_not, k1', hm2]
    exact j8 _ w (Ext.refl _ _) (by rw [hmg]; exact Own.nil) (by simp [blk, Value.ownBlock])
  · have hmg : magF l = [(0, sMagic)] := by unfold magF; rw [if_pos (.inr hm2)]
    simp (disch := (first | omega | decide | (simp only [World.size_alloc, World.size_setCell, World.size_drew, size_sets, List.mem_cons, List.not_mem_nil, or_false, not_false_eq_true] <;> omega) | fail)) only [↓rsChk9_0, rsChk9_1, Option.isNone_some, Option.isNone_none, tick_eq, tickV_eq, ne_eq, Int.reduceAdd, Int.reduceSub, Int.reduceMul, Int.reduceEq, Int.reduceLT, Int.reduceLE, Int.reduceToNat, Nat.reduceMul, Nat.reduceAdd, Nat.reduceSub, List.nil_append, List.cons_append, List.getElem?_toArray, List.getElem?_cons_zero, List.getElem?_cons_succ, List.setIfInBounds_toArray, List.set_cons_zero, List.set_cons_succ, Option.map_some, List.not_mem_nil, ←decide_not, k1', decide_eq_true hm2]
    rw [cM]
    refine appFl (F := []) Own.nil (f := (0, sMagic)) rfl (by simp) fun v' w3 O3 F3 => ?_
    exact j8 v' w3 (F3.ext.more (by simp [blk, Value.ownBlock])) (by rw [hmg]; exact O3) (fun y hy => by
      rcases F3.at' y hy with h1 | h1
      · simp [blk, Value.ownBlock] at h1
      · exact h1)
abbrev rsChk9_2 := (And.intro @xBox_r (And.intro @loadK_some (And.intro @loadsK_s (And.intro @loadsK_n (And.intro @loadsR_s (And.intro @loadsR_n (And.intro @storesK_s (And.intro @storesK_n (And.intro @xPick_t (And.intro @xPick_f (And.intro @xGuard_tt (And.intro @xGuard_ff (And.intro @xGuard_tf (And.intro @xGuard_ft (And.intro @xGuard_u 
  (And.intro @xNil_r (And.intro @xIf_t (And.intro @xBin_add' (And.intro @xBin_sub' (And.intro @xBin_mul' (And.intro @xBin_quo' (And.intro @xBin_rem' (And.intro @xIf_f (And.intro @xIf_tt (And.intro @xEx0 (And.intro @xEx1 (And.intro @xEx2 (And.intro @xEx3 (And.intro @xBin_eqs (And.intro @xBin_nes (And.intro @xUn_not (And.intro @xu8_eql (And.intro @xu16_eql 
  (And.intro @xu32_eql (And.intro @xu64_eql (And.intro @xi64_eql (And.intro @xMakeFunc_r (And.intro @xSq_r (And.intro @xPur_s (And.intro @xRd_s (And.intro @xRe_s (And.intro @xDet_s (And.intro @xDet_ld (And.intro @xDet_ld2 (And.intro @xDet_ld3 (And.intro @xDet_ld4 (And.intro @xGuard_tt @ln_37)))))))))))))))))))))))))))))))))))))))))))))))
theorem ImRight_spec (l : List (BitVec 64)) (a : Option Addr) (c : Nat) (w : World) (h : RowAt w a (wrds l)) (hc : l.length ≤ c) (hl : l.length ≤ 8192) :
    Yld Try.prog n_check_Right #[.slice a l.length c] w fun u w' => ∃ os bad, (sizeOk l → Sc (wat l) l.length (2 + 5 * nR l) os bad) ∧ u = .bool (decide ((imgG l os bad).length = 0)) ∧ Ext [] w w' := by
  refine check_Right_of ?_
  unfold check_Right
  refine check_Image_call (Yld.mono (Image_spec l a c w h hc hl) ?_)
  rintro u w1 ⟨os, bad, hS, F1, a2, c2, rfl, _, _, R1⟩
  have e : decide (((imgG l os bad).length : Int) = 0) = decide ((imgG l os bad).length = 0) := by
    rw [decide_eq_decide]
    omega
  simp (disch := (first | omega | decide | (simp only [World.size_alloc, World.size_setCell, World.size_drew, size_sets, List.mem_cons, List.not_mem_nil, or_false, not_false_eq_true] <;> omega) | fail)) only [↓rsChk9_2, rsChk9_1, Option.isNone_some, Option.isNone_none, tick_eq, tickV_eq, ne_eq, Int.reduceAdd, Int.reduceSub, Int.reduceMul, Int.reduceEq, Int.reduceLT, Int.reduceLE, Int.reduceToNat, Nat.reduceMul, Nat.reduceAdd, Nat.reduceSub, List.nil_append, List.cons_append, List.getElem?_toArray, List.getElem?_cons_zero, List.getElem?_cons_succ, List.setIfInBounds_toArray, List.set_cons_zero, List.set_cons_succ, Option.map_some, List.not_mem_nil, ←decide_not, e]
  exact ⟨os, bad, hS, by trivial, F1⟩
end Go.Proofs.Ytdpmidgeipibbaa
end
section
set_option linter.unusedVariables false
set_option linter.unusedSimpArgs false
set_option maxHeartbeats 4000000
namespace Go.Proofs.Ytdpmidgeipibbaa
open Go.Sh Go.RowKit

theorem pack_v {P n : Nat} (hP : P ≤ 64) (hn : n ≤ 1024) : rightP (P : Int) (n : Int) false 0 ∧ okW (packW P n false 0) ∧ szW (packW P n false 0) = 1 + P + (n + 7) / 8 ∧ pN (packW P n false 0) = P ∧ bN (packW P n false 0) = n := by
  have hr : rightP (P : Int) (n : Int) false 0 := right_f.2 (by omega)
  obtain ⟨h1, h2⟩ := okW_pack hr
  obtain ⟨u1, u2, u3, u4⟩ := un_pack hr
  exact ⟨hr, h1, by rw [h2]; simp, by unfold pN; rw [u1]; simp, by unfold bN; rw [u2]; simp⟩
section
variable (P n k : Nat) (x y : List (BitVec 8))
variable {P n k x y}
end
end Go.Proofs.Ytdpmidgeipibbaa
end
