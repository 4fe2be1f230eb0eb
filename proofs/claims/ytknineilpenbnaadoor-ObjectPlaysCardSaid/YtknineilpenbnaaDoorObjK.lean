/- An object in words, and what the statements on objects know (sq). -/
import Derived.Test.YtknineilpenbnaaDoorObj2
set_option linter.unusedVariables false
set_option linter.unusedSimpArgs false
set_option maxHeartbeats 4000000
namespace Go.Proofs.YtknineilpenbnaaDoor
open Go.Sh Go.RowKit

theorem itoa_call {args : List Value} {w : World} {K : K1} (h : Yld Tryd.prog 55 args.toArray w K) : xCall Tryd.prog (fnv 55) args w K := xCall_of0 Tryd.func55 (by kernel_rfl) (by kernel_rfl) h
theorem wstr_call {args : List Value} {w : World} {K : K1} (h : Yld Tryd.prog 54 args.toArray w K) : xCall Tryd.prog (fnv 54) args w K := xCall_of0 Tryd.func54 (by kernel_rfl) (by kernel_rfl) h
theorem bstr_call {args : List Value} {w : World} {K : K1} (h : Yld Tryd.prog 57 args.toArray w K) : xCall Tryd.prog (fnv 57) args w K := xCall_of0 Tryd.func57 (by kernel_rfl) (by kernel_rfl) h
/-- a builder of strings, above all else that is known -/
def BldIs (w0 w : World) (b : Nat) (l : List UInt8) : Prop := Lib.IsBuilder 105 5 b b (Lib.byteCells l) w ∧ Ext [] w0 w ∧ w0.heap.size ≤ b ∧ b ≤ w.heap.size
theorem BldIs.new (w : World) : BldIs w (w.alloc (.cells #[.pointer none, .slice none 0 0] 105)) w.heap.size [] := ⟨Lib.fresh_isBuilder _ _ w, Ext.alloc _ _ _, Nat.le_refl _, by simp⟩
theorem below_ext {w0 w w' : World} {b : Nat} (h : Ext [] w0 w) (hb : w0.heap.size ≤ b) (k : Below b w w') : Ext [] w0 w' :=
  ⟨k.os.trans h.os, k.tape.trans h.tape, k.output.trans h.output, Nat.le_trans h.size k.size, fun j hj hm => (k.block j (by omega)).trans (h.block j hj hm)⟩
theorem BldIs.ext0 {w0 w w' : World} {b : Nat} {l : List UInt8} (h : BldIs w0 w b l) (hb : b < w.heap.size) (hx : Ext [] w w') (hI : Lib.IsBuilder 105 5 b b (Lib.byteCells l) w') : BldIs w0 w' b l := ⟨hI, h.2.1.trans hx, h.2.2.1, by have := hx.size; omega⟩
/-- the same, once it has been written -/
def BldU (w0 w : World) (b : Nat) (l : List UInt8) : Prop := Lib.BuilderAt 105 5 b b (ptr b) (Lib.byteCells l) w ∧ Ext [] w0 w ∧ w0.heap.size ≤ b ∧ b ≤ w.heap.size
theorem BldU.is {w0 w : World} {b : Nat} {l : List UInt8} (h : BldU w0 w b l) : BldIs w0 w b l := ⟨.inr h.1, h.2⟩
theorem BldU.ext {w0 w w' : World} {b : Nat} {l : List UInt8} (h : BldU w0 w b l) (hx : Ext [] w w') : BldU w0 w' b l := by
  obtain ⟨⟨hB, v, hc, ho, hne⟩, h2, h3, h4⟩ := h
  have hlt : b < w.heap.size := (Array.getElem?_eq_some_iff.1 hc).1
  exact ⟨⟨hB, v, by rw [hx.block b hlt (by simp)]; exact hc, own_ext ho hx, hne⟩, h2.trans hx, h3, Nat.le_trans h4 hx.size⟩
theorem wstr_spec {w0 w : World} {b : Nat} {l : List UInt8} {s : ByteArray} (h : BldIs w0 w b l) (hl : l.length + s.size ≤ 1000000) : Yld Tryd.prog 54 #[ptr b, .string s] w fun u w' => BldU w0 w' b (l ++ s.data.toList) := by
  obtain ⟨hI, hx, h0, hb⟩ := h
  refine Calls.mono (Tryd.Builder_WriteString b b _ s w hI (by simp [Lib.byteCells]; omega) hb) ?_
  rintro e w' ⟨rfl, hA, hB⟩
  refine ⟨_, rfl, ?_, below_ext hx h0 hB, h0, Nat.le_trans hb hB.size⟩
  have e1 : Lib.byteCells l ++ Lib.strCells s = Lib.byteCells (l ++ s.data.toList) := by simp [Lib.byteCells, Lib.strCells]
  rw [e1] at hA
  exact hA
/-- a builder and its row, each by itself -/
structure BuS (w0 w : World) (b : Nat) (v : Value) (m : List (BitVec 8)) : Prop where
  blk : Blk w b 105 [ptr b, v]
  own : OwnB w v m
  bv : b ∉ Go.Sh.blk v
  up : ∀ x ∈ Go.Sh.blk v, b ≤ x
  ext : Ext [] w0 w
  lo : w0.heap.size ≤ b
theorem BldU.s {w0 w : World} {b : Nat} {l : List UInt8} {m : List (BitVec 8)} (h : BldU w0 w b l) (hm : Lib.byteCells l = bys m) (hl : l.length = m.length) : ∃ v, BuS w0 w b v m := by
  obtain ⟨⟨hB, v, hc, ho, hne⟩, h2, h3, h4⟩ := h
  rw [hm] at ho
  have e : (bys m).length = m.length := by simp
  rw [e] at ho
  refine ⟨v, hc, Own.of ho, fun h => hne (by simpa [Go.Sh.blk] using h), fun x hx => ?_, h2, h3⟩
  exact (World.ownsRow.lt ho x (by simpa [Go.Sh.blk] using hx)).1
theorem BuS.is {w0 w : World} {b : Nat} {v : Value} {l : List UInt8} {m : List (BitVec 8)} (h : BuS w0 w b v m) (hm : Lib.byteCells l = bys m) : BldIs w0 w b l := by
  refine ⟨.inr ⟨Nat.le_refl _, v, h.blk, ?_, fun h' => h.bv (by simp [Go.Sh.blk, h'])⟩, h.ext, h.lo, Nat.le_of_lt h.blk.lt⟩
  rw [hm]
  have e : (bys m).length = m.length := by simp
  rw [e]
  exact Own.base h.own h.up
theorem cchk_call {args : List Value} {w : World} {K : K1} (h : Yld Tryd.prog 80 args.toArray w K) : xCall Tryd.prog (fnv 80) args w K := xCall_of0 Tryd.func80 (by kernel_rfl) (by kernel_rfl) h
set_option maxRecDepth 100000 in
theorem X72_240 : Builder.X72 Tryd.prog Tryd.lays240_ren := { sizeBuilder := by kernel_rfl, liesBuilder := by kernel_rfl }
abbrev rsObjK_0 := (And.intro @xBox_r (And.intro @loadK_some (And.intro @loadsK_s (And.intro @loadsK_n (And.intro @loadsR_s (And.intro @loadsR_n (And.intro @storesK_s (And.intro @storesK_n (And.intro @xPick_t (And.intro @xPick_f (And.intro @xGuard_tt (And.intro @xGuard_ff (And.intro @xGuard_tf (And.intro @xGuard_ft (And.intro @xGuard_u 
  (And.intro @xNil_r (And.intro @xIf_t (And.intro @xBin_add' (And.intro @xBin_sub' (And.intro @xBin_mul' (And.intro @xBin_quo' (And.intro @xBin_rem' (And.intro @xIf_f (And.intro @xIf_tt (And.intro @xEx0 (And.intro @xEx1 (And.intro @xEx2 (And.intro @xEx3 (And.intro @xBin_eqs (And.intro @xBin_nes (And.intro @xUn_not (And.intro @xMakeFunc_r (And.intro @xSq_r 
  (And.intro @xPur_s (And.intro @xRd_s (And.intro @xRe_s (And.intro @xDet_s (And.intro @xDet_ld (And.intro @xDet_ld2 (And.intro @xDet_ld3 (And.intro @xDet_ld4 (And.intro @xGuard_tt (And.intro @ld_22 (And.intro @fa_105_1 (And.intro @st_22 (And.intro @bs_22_1 @bs_22_2))))))))))))))))))))))))))))))))))))))))))))))
abbrev rsObjK_1 := (And.intro @setCells_c (And.intro @setCells_n (And.intro @World.setCell_alloc_at (And.intro @World.setCell_alloc_past (And.intro @World.cell?_alloc_at (And.intro @World.cell?_alloc_past (And.intro @World.frozen?_alloc_at (And.intro @World.frozen?_alloc_past 
  (And.intro @World.size_alloc (And.intro @dlt_t (And.intro @dlt_f (And.intro @dle_t (And.intro @dle_f (And.intro @deq_t (And.intro @deq_f (And.intro @dne_t (And.intro @dne_f (And.intro @not_true_eq_false (And.intro @Bool.false_and (And.intro @Bool.true_and (And.intro @Bool.and_true (And.intro @Bool.and_false (And.intro @wrap_in (And.intro @Int.toNat_natCast 
  (And.intro @Nat.mul_one (And.intro @cells_int (And.intro @cells_bool (And.intro @cells_string (And.intro @cells_slice (And.intro @cells_pointer (And.intro @cells_agg (And.intro @one_int (And.intro @one_bool (And.intro @one_string (And.intro @one_slice (And.intro @one_pointer (And.intro @beq_tt (And.intro @beq_ff (And.intro @beq_tf 
  (And.intro @beq_ft (And.intro @cell_sets_b (And.intro @frozen_sets (And.intro @size_sets (And.intro @World.size_drew (And.intro @Nat.zero_add (And.intro @Nat.add_zero (And.intro @cell_drew (And.intro @frozen_drew (And.intro @cell_set_eq (And.intro @cell_set_o (And.intro @cell_set_b (And.intro @World.frozen?_setCell 
  (And.intro @decide_true (And.intro @decide_false (And.intro @not_false_eq_true (And.intro @Bool.not_true @Bool.not_false))))))))))))))))))))))))))))))))))))))))))))))))))))))))
theorem wbyte_spec {w0 w : World} {b : Nat} {v : Value} {m : List (BitVec 8)} {x : BitVec 8} (h : BuS w0 w b v m) (hl : m.length ≤ 100000) : Yld Tryd.prog n_strings_Builder_WriteByte #[ptr b, u8 x] w fun u w' => Ext (b :: blk v) w w' ∧ ∃ v', BuS w0 w' b v' (m ++ [x]) ∧ ∀ y ∈ blk v', y ∈ blk v ∨ w.heap.size ≤ y := by
  have k := fun i => h.blk.cell (i := i)
  have hlt := h.blk.lt
  refine strings_Builder_WriteByte_of ?_
  unfold strings_Builder_WriteByte
  refine cchk_call (Calls.mono (Any.Builder_copyCheck_used Tryd.lays240 X72_240 b w (by rw [k]; rfl)) ?_)
  rintro e w' ⟨rfl, rfl⟩
  refine ⟨_, rfl, ?_⟩
  simp (disch := (first | omega | decide | (simp only [World.size_alloc, World.size_setCell, World.size_drew, size_sets, List.mem_cons, List.not_mem_nil, or_false, not_false_eq_true] <;> omega) | fail)) only [↓rsObjK_0, rsObjK_1, Option.isNone_some, Option.isNone_none, tick_eq, tickV_eq, ne_eq, Int.reduceAdd, Int.reduceSub, Int.reduceMul, Int.reduceEq, Int.reduceLT, Int.reduceLE, Int.reduceToNat, Nat.reduceMul, Nat.reduceAdd, Nat.reduceSub, List.nil_append, List.cons_append, List.getElem?_toArray, List.getElem?_cons_zero, List.getElem?_cons_succ, List.setIfInBounds_toArray, List.set_cons_zero, List.set_cons_succ, Option.map_some, List.not_mem_nil, ←decide_not, k]
  refine appBl h.own (m := [x]) rfl rfl (by simp; omega) fun v1 w1 O1 F1 => ?_
  have B1 := h.blk.ext F1.ext h.bv
  have k1 := fun i => B1.cell (i := i)
  have f1 := fun i => B1.frozen (i := i)
  obtain ⟨a1, c1, hv1, _⟩ := O1.slice
  have st : ∀ (K : K1), xStore Tryd.prog 22 (.pointer (some ⟨b, 1, none⟩)) v1 w1 K = K undef (w1.setCell ⟨b, 1, none⟩ v1) := by
    intro K
    rw [hv1]
    simp (disch := (first | omega | decide | (simp only [World.size_alloc, World.size_setCell, World.size_drew, size_sets, List.mem_cons, List.not_mem_nil, or_false, not_false_eq_true] <;> omega) | fail)) only [↓rsObjK_0, rsObjK_1, Option.isNone_some, Option.isNone_none, tick_eq, tickV_eq, ne_eq, Int.reduceAdd, Int.reduceSub, Int.reduceMul, Int.reduceEq, Int.reduceLT, Int.reduceLE, Int.reduceToNat, Nat.reduceMul, Nat.reduceAdd, Nat.reduceSub, List.nil_append, List.cons_append, List.getElem?_toArray, List.getElem?_cons_zero, List.getElem?_cons_succ, List.setIfInBounds_toArray, List.set_cons_zero, List.set_cons_succ, Option.map_some, List.not_mem_nil, ←decide_not, k1, f1]
  simp (disch := (first | omega | decide | (simp only [World.size_alloc, World.size_setCell, World.size_drew, size_sets, List.mem_cons, List.not_mem_nil, or_false, not_false_eq_true] <;> omega) | fail)) only [↓rsObjK_0, rsObjK_1, Option.isNone_some, Option.isNone_none, tick_eq, tickV_eq, ne_eq, Int.reduceAdd, Int.reduceSub, Int.reduceMul, Int.reduceEq, Int.reduceLT, Int.reduceLE, Int.reduceToNat, Nat.reduceMul, Nat.reduceAdd, Nat.reduceSub, List.nil_append, List.cons_append, List.getElem?_toArray, List.getElem?_cons_zero, List.getElem?_cons_succ, List.setIfInBounds_toArray, List.set_cons_zero, List.set_cons_succ, Option.map_some, List.not_mem_nil, ←decide_not, k, k1, f1, st]
  have B2 := B1.set (i := 1) (v := v1)
  have hz := F1.ext.size
  have hnb : b ∉ blk v1 := F1.apart (G := [b]) (by simpa using h.bv) (by simpa using hlt) b (by simp)
  have X2 : Ext (b :: blk v) w' (w1.setCell ⟨b, 1, none⟩ v1) := (F1.ext.more fun _ hx => List.mem_cons_of_mem _ hx).set' (.inl (by simp))
  have B3 : Blk (w1.setCell ⟨b, 1, none⟩ v1) b 105 [ptr b, v1] := B2
  have O3 : OwnB (w1.setCell ⟨b, 1, none⟩ v1) v1 (m ++ [x]) := O1.ext (Ext.set (w := w1) (b := b)) (fun y hy hm => hnb (by rw [List.mem_singleton.1 hm] at hy; exact hy))
  have up : ∀ y ∈ blk v1, b ≤ y := fun y hy => by
    rcases F1.at' y hy with h1 | h1
    · exact h.up y h1
    · omega
  have X3 : Ext [] w0 (w1.setCell ⟨b, 1, none⟩ v1) := h.ext.new X2 (fun y hy => by
    rcases List.mem_cons.1 hy with rfl | hy
    · exact h.lo
    · exact Nat.le_trans h.lo (h.up y hy))
  generalize w1.setCell ⟨b, 1, none⟩ v1 = w2 at *
  have hB : BuS w0 w2 b v1 (m ++ [x]) := BuS.mk B3 O3 hnb up X3 h.lo
  refine ⟨X2, ?_⟩
  exact ⟨v1, hB, F1.at'⟩
theorem BuS.ext0 {w0 w w' : World} {b : Nat} {v : Value} {m : List (BitVec 8)} (h : BuS w0 w b v m) (hx : Ext [] w w') : BuS w0 w' b v m := { blk := h.blk.ext hx (by simp), own := h.own.ext0 hx, bv := h.bv, up := h.up, ext := h.ext.trans hx, lo := h.lo }
/-- a builder beside a row that is read -/
def TL (w0 w : World) (b : Nat) (a5 : Option Addr) (R : List Value) (m : List (BitVec 8)) : Prop :=
  ∃ v, BuS w0 w b v m ∧ RowAt w a5 R ∧ ∀ z o, a5 = some ⟨z, o, none⟩ → z < w.heap.size ∧ z ≠ b ∧ z ∉ blk v
theorem TL.put {w0 w : World} {b : Nat} {a5 : Option Addr} {R : List Value} {m : List (BitVec 8)} (x : BitVec 8) (h : TL w0 w b a5 R m) (hl : m.length ≤ 100000) : Yld Tryd.prog n_strings_Builder_WriteByte #[ptr b, u8 x] w fun u w' => TL w0 w' b a5 R (m ++ [x]) := by
  obtain ⟨v, hB, hR, hA⟩ := h
  refine Yld.mono (wbyte_spec hB hl) ?_
  rintro u w' ⟨X, v', hB', hU⟩
  have hz := X.size
  refine ⟨v', hB', hR.ext X (fun z o hz hm => ?_), fun z o ha => ?_⟩
  · obtain ⟨h1, h2, h3⟩ := hA z o hz
    rcases List.mem_cons.1 hm with h | h
    · exact h2 h
    · exact h3 h
  · obtain ⟨h1, h2, h3⟩ := hA z o ha
    refine ⟨by omega, h2, fun hm => ?_⟩
    rcases hU z hm with h | h
    · exact h3 h
    · omega
theorem bstr_spec {w0 w : World} {b : Nat} {l : List UInt8} (h : BldIs w0 w b l) (hne : l ≠ []) : Yld Tryd.prog 57 #[ptr b] w fun u w' => u = .string ⟨l.toArray⟩ ∧ Ext [] w0 w' := by
  obtain ⟨hI, hx, h0, hb⟩ := h
  refine Calls.mono (Tryd.Builder_String b b l w hI hne) ?_
  rintro e w' ⟨rfl, hB⟩
  exact ⟨_, rfl, rfl, below_ext hx h0 hB⟩
theorem itoa_y (i : Nat) (hi : i < 100) (x : ByteArray) (hx : (⟨(Lib.decDigits i).toArray⟩ : ByteArray) = x) (w : World) : Yld Tryd.prog 55 #[i64 (i : Int)] w fun u w' => u = .string x ∧ w' = w := by
  refine Calls.mono (Tryd.strconv_Itoa_small i hi w) ?_
  rintro e w' ⟨rfl, rfl⟩
  exact ⟨_, rfl, by rw [hx], rfl⟩
theorem bld_ext {w w' : World} {T e : TypeId} {B b : Nat} {bs : List Value} (h : Lib.IsBuilder T e B b bs w) (hx : Ext [] w w') : Lib.IsBuilder T e B b bs w' := by
  have key : ∀ p, Lib.BuilderAt T e B b p bs w → Lib.BuilderAt T e B b p bs w' := by
    rintro p ⟨hB, v, hc, ho, hne⟩
    have hlt : b < w.heap.size := (Array.getElem?_eq_some_iff.1 hc).1
    exact ⟨hB, v, by rw [hx.block b hlt (by simp)]; exact hc, own_ext ho hx, hne⟩
  rcases h with h | h
  · exact .inl (key _ h)
  · exact .inr (key _ h)
theorem BldIs.ext {w0 w w' : World} {b : Nat} {l : List UInt8} (h : BldIs w0 w b l) (hx : Ext [] w w') : BldIs w0 w' b l := ⟨bld_ext h.1 hx, h.2.1.trans hx, h.2.2.1, Nat.le_trans h.2.2.2 hx.size⟩
theorem addS {cx cy : Bool} {a b c : ByteArray} {w : World} {K : K1} (h : a ++ b = c) (hs : a.size + b.size ≤ 1000000) : xBin Tryd.prog .add 9 cx (.string a) cy (.string b) w K = K (.string c) w := by
  subst h
  refine xBin_ok ?_
  have hn : ¬ (IntKind.i64.max < ((a.size + b.size : Nat) : Int)) := by
    have : IntKind.i64.max = 9223372036854775807 := by decide
    omega
  simp [eqGuard, binOp, Op.stringOp]
  omega
theorem digith0 (w : World) (K : K1) : xIndex Tryd.prog 9 (.string { data := #[48, 49, 50, 51, 52, 53, 54, 55, 56, 57, 97, 98, 99, 100, 101, 102] }) (u8 (BitVec.ofNat 8 0 >>> (BitVec.ofNat 64 4).toNat)) w K = K (.int .u8 48) w := xIndex_ok (by kernel_rfl)
theorem digitl0 (w : World) (K : K1) : xIndex Tryd.prog 9 (.string { data := #[48, 49, 50, 51, 52, 53, 54, 55, 56, 57, 97, 98, 99, 100, 101, 102] }) (u8 (BitVec.ofNat 8 0 &&& BitVec.ofNat 8 15)) w K = K (.int .u8 48) w := xIndex_ok (by kernel_rfl)
theorem digith1 (w : World) (K : K1) : xIndex Tryd.prog 9 (.string { data := #[48, 49, 50, 51, 52, 53, 54, 55, 56, 57, 97, 98, 99, 100, 101, 102] }) (u8 (BitVec.ofNat 8 120 >>> (BitVec.ofNat 64 4).toNat)) w K = K (.int .u8 55) w := xIndex_ok (by kernel_rfl)
theorem digitl1 (w : World) (K : K1) : xIndex Tryd.prog 9 (.string { data := #[48, 49, 50, 51, 52, 53, 54, 55, 56, 57, 97, 98, 99, 100, 101, 102] }) (u8 (BitVec.ofNat 8 120 &&& BitVec.ofNat 8 15)) w K = K (.int .u8 56) w := xIndex_ok (by kernel_rfl)
def txt (j : Nat) : List (BitVec 8) := [49#8, 32#8, 51#8, 58#8, 32#8, 48#8] ++ (if j = 0 then [] else if j = 1 then [32#8, 48#8, 48#8] else if j = 2 then [32#8, 48#8, 48#8, 55#8, 56#8] else [32#8, 48#8, 48#8, 55#8, 56#8, 48#8, 48#8])
abbrev rsObjK_2 := (And.intro @xBox_r (And.intro @loadK_some (And.intro @loadsK_s (And.intro @loadsK_n (And.intro @loadsR_s (And.intro @loadsR_n (And.intro @storesK_s (And.intro @storesK_n (And.intro @xPick_t (And.intro @xPick_f (And.intro @xGuard_tt (And.intro @xGuard_ff (And.intro @xGuard_tf (And.intro @xGuard_ft (And.intro @xGuard_u 
  (And.intro @xNil_r (And.intro @xIf_t (And.intro @xBin_add' (And.intro @xBin_sub' (And.intro @xBin_mul' (And.intro @xBin_quo' (And.intro @xBin_rem' (And.intro @xIf_f (And.intro @xIf_tt (And.intro @xEx0 (And.intro @xEx1 (And.intro @xEx2 (And.intro @xEx3 (And.intro @xBin_eqs (And.intro @xBin_nes (And.intro @xUn_not (And.intro @xu8_add (And.intro @xu8_and 
  (And.intro @xu8_shr (And.intro @xu8_eql (And.intro @xu8_neq (And.intro @xu8_lss (And.intro @xu16_add (And.intro @xu16_and (And.intro @xu16_shr (And.intro @xu16_eql (And.intro @xu16_neq (And.intro @xu16_lss (And.intro @xu32_add (And.intro @xu32_and (And.intro @xu32_shr (And.intro @xu32_eql (And.intro @xu32_neq (And.intro @xu32_lss (And.intro @xu64_add 
  (And.intro @xu64_and (And.intro @xu64_shr (And.intro @xu64_eql (And.intro @xu64_neq (And.intro @xu64_lss (And.intro @xi64_lss (And.intro @xi64_eql (And.intro @xi64_neq (And.intro @xi64_and (And.intro @xi64_shr (And.intro @xi64_neg (And.intro @xMakeFunc_r (And.intro @xSq_r (And.intro @xPur_s (And.intro @xRd_s (And.intro @xRe_s (And.intro @xDet_s 
  (And.intro @xDet_ld (And.intro @xDet_ld2 (And.intro @xDet_ld3 (And.intro @xDet_ld4 (And.intro @xGuard_tt (And.intro @ld_3 (And.intro @ld_5 (And.intro @fa_34_0 (And.intro @fa_34_1 (And.intro @al_34 (And.intro @al_105 (And.intro @st_34 (And.intro @ia_22 @ln_22))))))))))))))))))))))))))))))))))))))))))))))))))))))))))))))))))))))))))))))))
theorem Text_known {w : World} {base s g : Nat} {a : Option Addr} {c : Nat} {ws : List (BitVec 64)} {b t e : Nat} (S : SpIs w base s g a c ws b t e) (hO : ObjAt ws b t 0) (hp : pN (wat ws 0) = 1) (hb : bN (wat ws 0) = 3) (hq : ptrV b t (wat ws 1) = (0, 0)) (hy : bytesW ws 16 3 = [BitVec.ofNat 8 0, BitVec.ofNat 8 120, BitVec.ofNat 8 0]) :
    Yld Tryd.prog n_obj_Text #[ptr s, i64 0] w fun u w' => u = .string { data := #[49, 32, 51, 58, 32, 48, 32, 48, 48, 55, 56, 48, 48] } ∧ Ext [] w w' := by
  have hwh : Gives Tryd.prog n_obj_whole #[ptr s, i64 0] w (.tuple #[hd 1 3 false 0, i64 0]) := by
    have := whole_ok S hO
    rw [hp, hb] at this
    exact this
  refine obj_Text_of ?_
  unfold obj_Text
  refine obj_whole_call (Gives.to hwh fun w1 F1 => ?_)
  simp (disch := (first | omega | decide | (simp only [World.size_alloc, World.size_setCell, World.size_drew, size_sets, List.mem_cons, List.not_mem_nil, or_false, not_false_eq_true] <;> omega) | fail)) only [↓rsObjK_2, rsObjK_1, Option.isNone_some, Option.isNone_none, tick_eq, tickV_eq, ne_eq, Int.reduceAdd, Int.reduceSub, Int.reduceMul, Int.reduceEq, Int.reduceLT, Int.reduceLE, Int.reduceToNat, Nat.reduceMul, Nat.reduceAdd, Nat.reduceSub, List.nil_append, List.cons_append, List.getElem?_toArray, List.getElem?_cons_zero, List.getElem?_cons_succ, List.setIfInBounds_toArray, List.set_cons_zero, List.set_cons_succ, Option.map_some, List.not_mem_nil, ←decide_not, eq_self]
  have B : Blk (w1.alloc (.cells #[i64 1, i64 3, .bool false, i64 0] 34)) w1.heap.size 34 [i64 1, i64 3, .bool false, i64 0] := Blk.at rfl
  have X1 : Ext [] w1 (w1.alloc (.cells #[i64 1, i64 3, .bool false, i64 0] 34)) := Ext.alloc _ _ _
  have L : BldIs (w1.alloc (.cells #[i64 1, i64 3, .bool false, i64 0] 34)) ((w1.alloc (.cells #[i64 1, i64 3, .bool false, i64 0] 34)).alloc (.cells #[.pointer none, .slice none 0 0] 105)).drew (w1.heap.size + 1) [] := by
    have := (BldIs.new (w1.alloc (.cells #[i64 1, i64 3, .bool false, i64 0] 34))).ext (Ext.drew _ _)
    simpa using this
  simp only [size_sets, World.size_alloc]
  have S1 := S.ext0 (F1.trans X1)
  have Xy := F1.trans X1
  generalize w1.alloc (.cells #[i64 1, i64 3, .bool false, i64 0] 34) = y1 at *
  generalize (y1.alloc (.cells #[.pointer none, .slice none 0 0] 105)).drew = y2 at *
  generalize w1.heap.size + 1 = bb at *
  generalize w1.heap.size = hb0 at *
  have d1 : (⟨(Lib.decDigits 1).toArray⟩ : ByteArray) = { data := #[49] } := by simp [Lib.decDigits]
  have d3 : (⟨(Lib.decDigits 3).toArray⟩ : ByteArray) = { data := #[51] } := by simp [Lib.decDigits]
  have d0 : (⟨(Lib.decDigits 0).toArray⟩ : ByteArray) = { data := #[48] } := by simp [Lib.decDigits]
  refine itoa_call (Yld.mono (itoa_y 1 (by decide) _ d1 y2) ?_)
  rintro u w' ⟨rfl, rfl⟩
  have kb := fun i => (B.ext L.2.1 (by simp)).cell (i := i)
  have s1 : ∀ (w : World) (K : K1), xBin Tryd.prog .add 9 false (.string { data := #[49] }) true (.string { data := #[32] }) w K = K (.string { data := #[49, 32] }) w := fun w K => addS (by decide +kernel) (by decide)
  have s2 : ∀ (w : World) (K : K1), xBin Tryd.prog .add 9 false (.string { data := #[49, 32] }) false (.string { data := #[51] }) w K = K (.string { data := #[49, 32, 51] }) w := fun w K => addS (by decide +kernel) (by decide)
  have s3 : ∀ (w : World) (K : K1), xBin Tryd.prog .add 9 false (.string { data := #[49, 32, 51] }) true (.string { data := #[58] }) w K = K (.string { data := #[49, 32, 51, 58] }) w := fun w K => addS (by decide +kernel) (by decide)
  have s4 : ∀ (w : World) (K : K1), xBin Tryd.prog .add 9 true (.string { data := #[32] }) false (.string { data := #[48] }) w K = K (.string { data := #[32, 48] }) w := fun w K => addS (by decide +kernel) (by decide)
  simp (disch := (first | omega | decide | (simp only [World.size_alloc, World.size_setCell, World.size_drew, size_sets, List.mem_cons, List.not_mem_nil, or_false, not_false_eq_true] <;> omega) | fail)) only [↓rsObjK_2, rsObjK_1, Option.isNone_some, Option.isNone_none, tick_eq, tickV_eq, ne_eq, Int.reduceAdd, Int.reduceSub, Int.reduceMul, Int.reduceEq, Int.reduceLT, Int.reduceLE, Int.reduceToNat, Nat.reduceMul, Nat.reduceAdd, Nat.reduceSub, List.nil_append, List.cons_append, List.getElem?_toArray, List.getElem?_cons_zero, List.getElem?_cons_succ, List.setIfInBounds_toArray, List.set_cons_zero, List.set_cons_succ, Option.map_some, List.not_mem_nil, ←decide_not, kb, s1]
  refine itoa_call (Yld.mono (itoa_y 3 (by decide) _ d3 w') ?_)
  rintro u w'' ⟨rfl, rfl⟩
  simp (disch := (first | omega | decide | (simp only [World.size_alloc, World.size_setCell, World.size_drew, size_sets, List.mem_cons, List.not_mem_nil, or_false, not_false_eq_true] <;> omega) | fail)) only [↓rsObjK_2, rsObjK_1, Option.isNone_some, Option.isNone_none, tick_eq, tickV_eq, ne_eq, Int.reduceAdd, Int.reduceSub, Int.reduceMul, Int.reduceEq, Int.reduceLT, Int.reduceLE, Int.reduceToNat, Nat.reduceMul, Nat.reduceAdd, Nat.reduceSub, List.nil_append, List.cons_append, List.getElem?_toArray, List.getElem?_cons_zero, List.getElem?_cons_succ, List.setIfInBounds_toArray, List.set_cons_zero, List.set_cons_succ, Option.map_some, List.not_mem_nil, ←decide_not, kb, s1, s2, s3]
  refine wstr_call (Yld.mono (wstr_spec L (by decide)) ?_)
  intro u w3 L3
  have kb3 := fun i => (B.ext L3.2.1 (by simp)).cell (i := i)
  have hd1 : ({ data := #[49, 32, 51, 58] } : ByteArray).data.toList = [49, 32, 51, 58] := rfl
  rw [hd1, List.nil_append] at L3
  simp (disch := (first | omega | decide | (simp only [World.size_alloc, World.size_setCell, World.size_drew, size_sets, List.mem_cons, List.not_mem_nil, or_false, not_false_eq_true] <;> omega) | fail)) only [↓rsObjK_2, rsObjK_1, Option.isNone_some, Option.isNone_none, tick_eq, tickV_eq, ne_eq, Int.reduceAdd, Int.reduceSub, Int.reduceMul, Int.reduceEq, Int.reduceLT, Int.reduceLE, Int.reduceToNat, Nat.reduceMul, Nat.reduceAdd, Nat.reduceSub, List.nil_append, List.cons_append, List.getElem?_toArray, List.getElem?_cons_zero, List.getElem?_cons_succ, List.setIfInBounds_toArray, List.set_cons_zero, List.set_cons_succ, Option.map_some, List.not_mem_nil, ←decide_not, kb, s1, s2, s3, kb3]
  refine xLoop_n 1 (fun j => [i64 (j : Int)]) (fun j w' => BldU y1 w' bb (if j = 0 then [49, 32, 51, 58] else [49, 32, 51, 58, 32, 48])) rfl L3 ?_ ?_
  · intro j hj u v1 hu L4 nxt hnx
    simp only [List.map_cons, List.map_nil, List.cons.injEq, and_true] at hu
    rw [hu]
    obtain rfl : j = 0 := by omega
    rw [if_pos rfl] at L4
    have S4 := S1.ext0 L4.2.1
    have hP : Gives Tryd.prog n_obj_Ptr #[ptr s, i64 0, i64 0] v1 (.tuple #[i64 0, i64 0]) := by
      have := Ptr_ok (i := 0) S4 hO (by omega)
      rw [show 0 + 1 + 0 = 1 by rfl, hq] at this
      exact this
    unfold obj_Text_l1
    simp (disch := (first | omega | decide | (simp only [World.size_alloc, World.size_setCell, World.size_drew, size_sets, List.mem_cons, List.not_mem_nil, or_false, not_false_eq_true] <;> omega) | fail)) only [↓rsObjK_2, rsObjK_1, Option.isNone_some, Option.isNone_none, tick_eq, tickV_eq, ne_eq, Int.reduceAdd, Int.reduceSub, Int.reduceMul, Int.reduceEq, Int.reduceLT, Int.reduceLE, Int.reduceToNat, Nat.reduceMul, Nat.reduceAdd, Nat.reduceSub, List.nil_append, List.cons_append, List.getElem?_toArray, List.getElem?_cons_zero, List.getElem?_cons_succ, List.setIfInBounds_toArray, List.set_cons_zero, List.set_cons_succ, Option.map_some, List.not_mem_nil, ←decide_not, kb, s1, s2, s3, kb3]
    refine obj_Ptr_call (Gives.to hP fun w5 F5 => ?_)
    simp (disch := (first | omega | decide | (simp only [World.size_alloc, World.size_setCell, World.size_drew, size_sets, List.mem_cons, List.not_mem_nil, or_false, not_false_eq_true] <;> omega) | fail)) only [↓rsObjK_2, rsObjK_1, Option.isNone_some, Option.isNone_none, tick_eq, tickV_eq, ne_eq, Int.reduceAdd, Int.reduceSub, Int.reduceMul, Int.reduceEq, Int.reduceLT, Int.reduceLE, Int.reduceToNat, Nat.reduceMul, Nat.reduceAdd, Nat.reduceSub, List.nil_append, List.cons_append, List.getElem?_toArray, List.getElem?_cons_zero, List.getElem?_cons_succ, List.setIfInBounds_toArray, List.set_cons_zero, List.set_cons_succ, Option.map_some, List.not_mem_nil, ←decide_not, kb, s1, s2, s3, kb3]
    refine itoa_call (Yld.mono (itoa_y 0 (by decide) _ d0 w5) ?_)
    rintro u w6 ⟨rfl, rfl⟩
    simp (disch := (first | omega | decide | (simp only [World.size_alloc, World.size_setCell, World.size_drew, size_sets, List.mem_cons, List.not_mem_nil, or_false, not_false_eq_true] <;> omega) | fail)) only [↓rsObjK_2, rsObjK_1, Option.isNone_some, Option.isNone_none, tick_eq, tickV_eq, ne_eq, Int.reduceAdd, Int.reduceSub, Int.reduceMul, Int.reduceEq, Int.reduceLT, Int.reduceLE, Int.reduceToNat, Nat.reduceMul, Nat.reduceAdd, Nat.reduceSub, List.nil_append, List.cons_append, List.getElem?_toArray, List.getElem?_cons_zero, List.getElem?_cons_succ, List.setIfInBounds_toArray, List.set_cons_zero, List.set_cons_succ, Option.map_some, List.not_mem_nil, ←decide_not, kb, s1, s2, s3, kb3, s4]
    refine wstr_call (Yld.mono (wstr_spec (L4.ext F5).is (by decide)) ?_)
    intro u w7 L7
    have hd2 : ({ data := #[32, 48] } : ByteArray).data.toList = [32, 48] := rfl
    rw [hd2] at L7
    unfold obj_Text_j1
    simp (disch := (first | omega | decide | (simp only [World.size_alloc, World.size_setCell, World.size_drew, size_sets, List.mem_cons, List.not_mem_nil, or_false, not_false_eq_true] <;> omega) | fail)) only [↓rsObjK_2, rsObjK_1, Option.isNone_some, Option.isNone_none, tick_eq, tickV_eq, ne_eq, Int.reduceAdd, Int.reduceSub, Int.reduceMul, Int.reduceEq, Int.reduceLT, Int.reduceLE, Int.reduceToNat, Nat.reduceMul, Nat.reduceAdd, Nat.reduceSub, List.nil_append, List.cons_append, List.getElem?_toArray, List.getElem?_cons_zero, List.getElem?_cons_succ, List.setIfInBounds_toArray, List.set_cons_zero, List.set_cons_succ, Option.map_some, List.not_mem_nil, ←decide_not, kb, s1, s2, s3, kb3, s4]
    exact hnx _ L7
  · intro u v1 hu L4 nxt
    simp only [List.map_cons, List.map_nil, List.cons.injEq, and_true] at hu
    rw [hu]
    rw [if_neg (by decide)] at L4
    have S4 := S1.ext0 L4.2.1
    have kb4 := fun i => (B.ext L4.2.1 (by simp)).cell (i := i)
    unfold obj_Text_l1
    simp (disch := (first | omega | decide | (simp only [World.size_alloc, World.size_setCell, World.size_drew, size_sets, List.mem_cons, List.not_mem_nil, or_false, not_false_eq_true] <;> omega) | fail)) only [↓rsObjK_2, rsObjK_1, Option.isNone_some, Option.isNone_none, tick_eq, tickV_eq, ne_eq, Int.reduceAdd, Int.reduceSub, Int.reduceMul, Int.reduceEq, Int.reduceLT, Int.reduceLE, Int.reduceToNat, Nat.reduceMul, Nat.reduceAdd, Nat.reduceSub, List.nil_append, List.cons_append, List.getElem?_toArray, List.getElem?_cons_zero, List.getElem?_cons_succ, List.setIfInBounds_toArray, List.set_cons_zero, List.set_cons_succ, Option.map_some, List.not_mem_nil, ←decide_not, kb, s1, s2, s3, kb3, kb4]
    have hR : Yld Tryd.prog n_obj_Read #[ptr s, i64 0, i64 0, i64 3] v1 fun u w' => BytesR v1 w' u [BitVec.ofNat 8 0, BitVec.ofNat 8 120, BitVec.ofNat 8 0] := by
      have := ORead_ok (from' := 0) (n := 3) S4 hO (by omega)
      rw [hp, show (0 + 1 + 1) * 8 + 0 = 16 by rfl, hy] at this
      exact this
    refine obj_Read_call (Yld.mono hR ?_)
    rintro u w5 ⟨F5, a5, c5, rfl, hc5, R5, U5⟩
    simp (disch := (first | omega | decide | (simp only [World.size_alloc, World.size_setCell, World.size_drew, size_sets, List.mem_cons, List.not_mem_nil, or_false, not_false_eq_true] <;> omega) | fail)) only [↓rsObjK_2, rsObjK_1, Option.isNone_some, Option.isNone_none, tick_eq, tickV_eq, ne_eq, Int.reduceAdd, Int.reduceSub, Int.reduceMul, Int.reduceEq, Int.reduceLT, Int.reduceLE, Int.reduceToNat, Nat.reduceMul, Nat.reduceAdd, Nat.reduceSub, List.nil_append, List.cons_append, List.getElem?_toArray, List.getElem?_cons_zero, List.getElem?_cons_succ, List.setIfInBounds_toArray, List.set_cons_zero, List.set_cons_succ, Option.map_some, List.not_mem_nil, ←decide_not, kb, s1, s2, s3, kb3, kb4]
    obtain ⟨v5, L5⟩ := L4.s (m := txt 0) (by rfl) (by rfl)
    have zb := L5.blk.lt
    have zv := L5.own.lt
    have T5 : TL y1 w5 bb a5 (bys [BitVec.ofNat 8 0, BitVec.ofNat 8 120, BitVec.ofNat 8 0]) (txt 0) := by
      refine ⟨v5, L5.ext0 F5, R5, fun z o ha => ?_⟩
      obtain ⟨b9, o9, h9, z9, _⟩ := R5.get (by simp)
      have h10 := U5 _ ha
      rw [ha] at h9
      simp only [Option.some.injEq, Addr.mk.injEq, and_true] at h9
      simp only at h10
      refine ⟨by omega, by omega, fun hm => ?_⟩
      have := zv z hm
      omega
    refine xLoop_n 3 (fun j => [i64 (j : Int)]) (fun j w' => TL y1 w' bb a5 (bys [BitVec.ofNat 8 0, BitVec.ofNat 8 120, BitVec.ofNat 8 0]) (txt j)) rfl T5 ?_ ?_
    · intro j hj u v6 hu T6 nxt6 hnx6
      simp only [List.map_cons, List.map_nil, List.cons.injEq, and_true] at hu
      rw [hu]
      have T6' := T6
      obtain ⟨v9, L6, R6, A6⟩ := T6'
      obtain ⟨b7, o7, he7, z7, c7⟩ := R6.at (i := j) (by simpa using hj)
      unfold obj_Text_l2
      rw [he7] at *
      rcases (show j = 0 ∨ j = 1 ∨ j = 2 by omega) with rfl | rfl | rfl
      · have c7' : v6.cell? ⟨b7, o7, none⟩ = some (u8 (BitVec.ofNat 8 0)) := c7
        simp (disch := (first | omega | decide | (simp only [World.size_alloc, World.size_setCell, World.size_drew, size_sets, List.mem_cons, List.not_mem_nil, or_false, not_false_eq_true] <;> omega) | fail)) only [↓rsObjK_2, rsObjK_1, Option.isNone_some, Option.isNone_none, tick_eq, tickV_eq, ne_eq, Int.reduceAdd, Int.reduceSub, Int.reduceMul, Int.reduceEq, Int.reduceLT, Int.reduceLE, Int.reduceToNat, Nat.reduceMul, Nat.reduceAdd, Nat.reduceSub, List.nil_append, List.cons_append, List.getElem?_toArray, List.getElem?_cons_zero, List.getElem?_cons_succ, List.setIfInBounds_toArray, List.set_cons_zero, List.set_cons_succ, Option.map_some, List.not_mem_nil, ←decide_not, kb, s1, s2, s3, kb3, kb4, c7']
        refine strings_Builder_WriteByte_call (Yld.mono (TL.put 32#8 T6 (by decide)) ?_)
        intro u w8 T8
        unfold obj_Text_j2
        simp (disch := (first | omega | decide | (simp only [World.size_alloc, World.size_setCell, World.size_drew, size_sets, List.mem_cons, List.not_mem_nil, or_false, not_false_eq_true] <;> omega) | fail)) only [↓rsObjK_2, rsObjK_1, Option.isNone_some, Option.isNone_none, tick_eq, tickV_eq, ne_eq, Int.reduceAdd, Int.reduceSub, Int.reduceMul, Int.reduceEq, Int.reduceLT, Int.reduceLE, Int.reduceToNat, Nat.reduceMul, Nat.reduceAdd, Nat.reduceSub, List.nil_append, List.cons_append, List.getElem?_toArray, List.getElem?_cons_zero, List.getElem?_cons_succ, List.setIfInBounds_toArray, List.set_cons_zero, List.set_cons_succ, Option.map_some, List.not_mem_nil, ←decide_not, kb, s1, s2, s3, kb3, kb4, c7', digith0, digitl0]
        refine strings_Builder_WriteByte_call (Yld.mono (TL.put 48#8 T8 (by decide)) ?_)
        intro u w9 T9
        simp (disch := (first | omega | decide | (simp only [World.size_alloc, World.size_setCell, World.size_drew, size_sets, List.mem_cons, List.not_mem_nil, or_false, not_false_eq_true] <;> omega) | fail)) only [↓rsObjK_2, rsObjK_1, Option.isNone_some, Option.isNone_none, tick_eq, tickV_eq, ne_eq, Int.reduceAdd, Int.reduceSub, Int.reduceMul, Int.reduceEq, Int.reduceLT, Int.reduceLE, Int.reduceToNat, Nat.reduceMul, Nat.reduceAdd, Nat.reduceSub, List.nil_append, List.cons_append, List.getElem?_toArray, List.getElem?_cons_zero, List.getElem?_cons_succ, List.setIfInBounds_toArray, List.set_cons_zero, List.set_cons_succ, Option.map_some, List.not_mem_nil, ←decide_not, kb, s1, s2, s3, kb3, kb4, c7', digith0, digitl0]
        refine strings_Builder_WriteByte_call (Yld.mono (TL.put 48#8 T9 (by decide)) ?_)
        intro u w10 T10
        simp (disch := (first | omega | decide | (simp only [World.size_alloc, World.size_setCell, World.size_drew, size_sets, List.mem_cons, List.not_mem_nil, or_false, not_false_eq_true] <;> omega) | fail)) only [↓rsObjK_2, rsObjK_1, Option.isNone_some, Option.isNone_none, tick_eq, tickV_eq, ne_eq, Int.reduceAdd, Int.reduceSub, Int.reduceMul, Int.reduceEq, Int.reduceLT, Int.reduceLE, Int.reduceToNat, Nat.reduceMul, Nat.reduceAdd, Nat.reduceSub, List.nil_append, List.cons_append, List.getElem?_toArray, List.getElem?_cons_zero, List.getElem?_cons_succ, List.setIfInBounds_toArray, List.set_cons_zero, List.set_cons_succ, Option.map_some, List.not_mem_nil, ←decide_not, kb, s1, s2, s3, kb3, kb4, c7', digith0, digitl0]
        exact hnx6 _ T10
      · have c7' : v6.cell? ⟨b7, o7 + 1, none⟩ = some (u8 (BitVec.ofNat 8 120)) := c7
        simp (disch := (first | omega | decide | (simp only [World.size_alloc, World.size_setCell, World.size_drew, size_sets, List.mem_cons, List.not_mem_nil, or_false, not_false_eq_true] <;> omega) | fail)) only [↓rsObjK_2, rsObjK_1, Option.isNone_some, Option.isNone_none, tick_eq, tickV_eq, ne_eq, Int.reduceAdd, Int.reduceSub, Int.reduceMul, Int.reduceEq, Int.reduceLT, Int.reduceLE, Int.reduceToNat, Nat.reduceMul, Nat.reduceAdd, Nat.reduceSub, List.nil_append, List.cons_append, List.getElem?_toArray, List.getElem?_cons_zero, List.getElem?_cons_succ, List.setIfInBounds_toArray, List.set_cons_zero, List.set_cons_succ, Option.map_some, List.not_mem_nil, ←decide_not, kb, s1, s2, s3, kb3, kb4, c7']
        unfold obj_Text_j2
        simp (disch := (first | omega | decide | (simp only [World.size_alloc, World.size_setCell, World.size_drew, size_sets, List.mem_cons, List.not_mem_nil, or_false, not_false_eq_true] <;> omega) | fail)) only [↓rsObjK_2, rsObjK_1, Option.isNone_some, Option.isNone_none, tick_eq, tickV_eq, ne_eq, Int.reduceAdd, Int.reduceSub, Int.reduceMul, Int.reduceEq, Int.reduceLT, Int.reduceLE, Int.reduceToNat, Nat.reduceMul, Nat.reduceAdd, Nat.reduceSub, List.nil_append, List.cons_append, List.getElem?_toArray, List.getElem?_cons_zero, List.getElem?_cons_succ, List.setIfInBounds_toArray, List.set_cons_zero, List.set_cons_succ, Option.map_some, List.not_mem_nil, ←decide_not, kb, s1, s2, s3, kb3, kb4, c7', digith1, digitl1]
        refine strings_Builder_WriteByte_call (Yld.mono (TL.put 55#8 T6 (by decide)) ?_)
        intro u w9 T9
        simp (disch := (first | omega | decide | (simp only [World.size_alloc, World.size_setCell, World.size_drew, size_sets, List.mem_cons, List.not_mem_nil, or_false, not_false_eq_true] <;> omega) | fail)) only [↓rsObjK_2, rsObjK_1, Option.isNone_some, Option.isNone_none, tick_eq, tickV_eq, ne_eq, Int.reduceAdd, Int.reduceSub, Int.reduceMul, Int.reduceEq, Int.reduceLT, Int.reduceLE, Int.reduceToNat, Nat.reduceMul, Nat.reduceAdd, Nat.reduceSub, List.nil_append, List.cons_append, List.getElem?_toArray, List.getElem?_cons_zero, List.getElem?_cons_succ, List.setIfInBounds_toArray, List.set_cons_zero, List.set_cons_succ, Option.map_some, List.not_mem_nil, ←decide_not, kb, s1, s2, s3, kb3, kb4, c7', digith1, digitl1]
        refine strings_Builder_WriteByte_call (Yld.mono (TL.put 56#8 T9 (by decide)) ?_)
        intro u w10 T10
        simp (disch := (first | omega | decide | (simp only [World.size_alloc, World.size_setCell, World.size_drew, size_sets, List.mem_cons, List.not_mem_nil, or_false, not_false_eq_true] <;> omega) | fail)) only [↓rsObjK_2, rsObjK_1, Option.isNone_some, Option.isNone_none, tick_eq, tickV_eq, ne_eq, Int.reduceAdd, Int.reduceSub, Int.reduceMul, Int.reduceEq, Int.reduceLT, Int.reduceLE, Int.reduceToNat, Nat.reduceMul, Nat.reduceAdd, Nat.reduceSub, List.nil_append, List.cons_append, List.getElem?_toArray, List.getElem?_cons_zero, List.getElem?_cons_succ, List.setIfInBounds_toArray, List.set_cons_zero, List.set_cons_succ, Option.map_some, List.not_mem_nil, ←decide_not, kb, s1, s2, s3, kb3, kb4, c7', digith1, digitl1]
        exact hnx6 _ T10
      · have c7' : v6.cell? ⟨b7, o7 + 2, none⟩ = some (u8 (BitVec.ofNat 8 0)) := c7
        simp (disch := (first | omega | decide | (simp only [World.size_alloc, World.size_setCell, World.size_drew, size_sets, List.mem_cons, List.not_mem_nil, or_false, not_false_eq_true] <;> omega) | fail)) only [↓rsObjK_2, rsObjK_1, Option.isNone_some, Option.isNone_none, tick_eq, tickV_eq, ne_eq, Int.reduceAdd, Int.reduceSub, Int.reduceMul, Int.reduceEq, Int.reduceLT, Int.reduceLE, Int.reduceToNat, Nat.reduceMul, Nat.reduceAdd, Nat.reduceSub, List.nil_append, List.cons_append, List.getElem?_toArray, List.getElem?_cons_zero, List.getElem?_cons_succ, List.setIfInBounds_toArray, List.set_cons_zero, List.set_cons_succ, Option.map_some, List.not_mem_nil, ←decide_not, kb, s1, s2, s3, kb3, kb4, c7']
        unfold obj_Text_j2
        simp (disch := (first | omega | decide | (simp only [World.size_alloc, World.size_setCell, World.size_drew, size_sets, List.mem_cons, List.not_mem_nil, or_false, not_false_eq_true] <;> omega) | fail)) only [↓rsObjK_2, rsObjK_1, Option.isNone_some, Option.isNone_none, tick_eq, tickV_eq, ne_eq, Int.reduceAdd, Int.reduceSub, Int.reduceMul, Int.reduceEq, Int.reduceLT, Int.reduceLE, Int.reduceToNat, Nat.reduceMul, Nat.reduceAdd, Nat.reduceSub, List.nil_append, List.cons_append, List.getElem?_toArray, List.getElem?_cons_zero, List.getElem?_cons_succ, List.setIfInBounds_toArray, List.set_cons_zero, List.set_cons_succ, Option.map_some, List.not_mem_nil, ←decide_not, kb, s1, s2, s3, kb3, kb4, c7', digith0, digitl0]
        refine strings_Builder_WriteByte_call (Yld.mono (TL.put 48#8 T6 (by decide)) ?_)
        intro u w9 T9
        simp (disch := (first | omega | decide | (simp only [World.size_alloc, World.size_setCell, World.size_drew, size_sets, List.mem_cons, List.not_mem_nil, or_false, not_false_eq_true] <;> omega) | fail)) only [↓rsObjK_2, rsObjK_1, Option.isNone_some, Option.isNone_none, tick_eq, tickV_eq, ne_eq, Int.reduceAdd, Int.reduceSub, Int.reduceMul, Int.reduceEq, Int.reduceLT, Int.reduceLE, Int.reduceToNat, Nat.reduceMul, Nat.reduceAdd, Nat.reduceSub, List.nil_append, List.cons_append, List.getElem?_toArray, List.getElem?_cons_zero, List.getElem?_cons_succ, List.setIfInBounds_toArray, List.set_cons_zero, List.set_cons_succ, Option.map_some, List.not_mem_nil, ←decide_not, kb, s1, s2, s3, kb3, kb4, c7', digith0, digitl0]
        refine strings_Builder_WriteByte_call (Yld.mono (TL.put 48#8 T9 (by decide)) ?_)
        intro u w10 T10
        simp (disch := (first | omega | decide | (simp only [World.size_alloc, World.size_setCell, World.size_drew, size_sets, List.mem_cons, List.not_mem_nil, or_false, not_false_eq_true] <;> omega) | fail)) only [↓rsObjK_2, rsObjK_1, Option.isNone_some, Option.isNone_none, tick_eq, tickV_eq, ne_eq, Int.reduceAdd, Int.reduceSub, Int.reduceMul, Int.reduceEq, Int.reduceLT, Int.reduceLE, Int.reduceToNat, Nat.reduceMul, Nat.reduceAdd, Nat.reduceSub, List.nil_append, List.cons_append, List.getElem?_toArray, List.getElem?_cons_zero, List.getElem?_cons_succ, List.setIfInBounds_toArray, List.set_cons_zero, List.set_cons_succ, Option.map_some, List.not_mem_nil, ←decide_not, kb, s1, s2, s3, kb3, kb4, c7', digith0, digitl0]
        exact hnx6 _ T10
    · intro u v6 hu ⟨v9, L6, _, _⟩ nxt6
      simp only [List.map_cons, List.map_nil, List.cons.injEq, and_true] at hu
      rw [hu]
      unfold obj_Text_l2
      simp (disch := (first | omega | decide | (simp only [World.size_alloc, World.size_setCell, World.size_drew, size_sets, List.mem_cons, List.not_mem_nil, or_false, not_false_eq_true] <;> omega) | fail)) only [↓rsObjK_2, rsObjK_1, Option.isNone_some, Option.isNone_none, tick_eq, tickV_eq, ne_eq, Int.reduceAdd, Int.reduceSub, Int.reduceMul, Int.reduceEq, Int.reduceLT, Int.reduceLE, Int.reduceToNat, Nat.reduceMul, Nat.reduceAdd, Nat.reduceSub, List.nil_append, List.cons_append, List.getElem?_toArray, List.getElem?_cons_zero, List.getElem?_cons_succ, List.setIfInBounds_toArray, List.set_cons_zero, List.set_cons_succ, Option.map_some, List.not_mem_nil, ←decide_not, kb, s1, s2, s3, kb3, kb4]
      refine bstr_call (Yld.mono (bstr_spec (l := [49, 32, 51, 58, 32, 48, 32, 48, 48, 55, 56, 48, 48]) (L6.is (by rfl)) (by decide)) ?_)
      rintro u w9 ⟨rfl, F9⟩
      exact ⟨by rfl, Xy.trans F9⟩
end Go.Proofs.YtknineilpenbnaaDoor
