/- Any items, put and read again: walked (sq). -/
import Derived.Test.YtlllabaipfmnjaaCode7
set_option linter.unusedVariables false
set_option linter.unusedSimpArgs false
set_option maxHeartbeats 4000000
namespace Go.Proofs.Ytlllabaipfmnjaa
open Go.Sh Go.RowKit

theorem decRaw_enc (m r : List (BitVec 8)) (hm : m.length ≤ 1000000) : decRaw (uintB (BitVec.ofNat 64 m.length) ++ (m ++ r)) = .ok (m, r) := by
  unfold decRaw
  rw [dec_enc]
  have e : (BitVec.ofNat 64 m.length).toNat = m.length := by rw [BitVec.toNat_ofNat]; omega
  simp only [takeN, e, Nat.mul_one]
  rw [if_neg (by simp)]
  simp
theorem decWords_enc (ws : List (BitVec 64)) (r : List (BitVec 8)) (hm : ws.length ≤ 1000000) : decWords (uintB (BitVec.ofNat 64 ws.length) ++ (wordsB ws ++ r)) = .ok (ws, r) := by
  unfold decWords
  rw [dec_enc]
  have e : (BitVec.ofNat 64 ws.length).toNat = ws.length := by rw [BitVec.toNat_ofNat]; omega
  have hl := wordsB_length ws
  simp only [takeN, e]
  rw [if_neg (by rw [List.length_append, hl]; omega), Nat.mul_comm, ← hl, List.take_left' rfl, List.drop_left' rfl]
  simp only [wordsOf_B]
def itemB (x : Item) : List (BitVec 8) := if x.op = 1 then uintB x.u else if x.op = 2 then uintB (zig x.i) else if x.op = 3 then uintB (BitVec.ofNat 64 x.b.length) ++ x.b else if x.op = 4 then uintB (BitVec.ofNat 64 x.ws.length) ++ wordsB x.ws else []
def allB (l : List Item) : List (BitVec 8) := l.flatMap itemB
theorem itemB_le {x : Item} (h : x.b.length ≤ 500 ∧ x.ws.length ≤ 100) : (itemB x).length ≤ 1000 := by
  have h1 : ∀ y, (uintB y).length ≤ 10 := fun y => uintF_le
  have := h1 x.u
  have := h1 (zig x.i)
  have := h1 (BitVec.ofNat 64 x.b.length)
  have := h1 (BitVec.ofNat 64 x.ws.length)
  unfold itemB
  split
  · omega
  split
  · omega
  split
  · rw [List.length_append]; omega
  split
  · rw [List.length_append, wordsB_length]; omega
  · simp
theorem allB_le : ∀ {l : List Item}, (∀ x ∈ l, x.b.length ≤ 500 ∧ x.ws.length ≤ 100) → (allB l).length ≤ 1000 * l.length
  | [], _ => by simp [allB]
  | x :: l, h => by
    have h1 := itemB_le (h x (List.mem_cons_self ..))
    have h2 := allB_le (l := l) fun y hy => h y (List.mem_cons_of_mem _ hy)
    unfold allB at *
    rw [List.flatMap_cons, List.length_append, List.length_cons]
    omega
theorem allB_take {l : List Item} {k : Nat} (h : k < l.length) : allB (l.take (k + 1)) = allB (l.take k) ++ itemB l[k] := by
  rw [List.take_succ_eq_append_getElem h, allB, List.flatMap_append]
  simp [allB]
theorem allB_drop {l : List Item} {k : Nat} (h : k < l.length) : allB (l.drop k) = itemB l[k] ++ allB (l.drop (k + 1)) := by
  rw [List.drop_eq_getElem_cons h, allB, List.flatMap_cons]
  rfl
/-- what is written by both -/
structure BothI (w0 w : World) (g : Nat) (s v : Value) (l : List (BitVec 8)) : Prop where
  ext : Ext [] w0 w
  enc : EncIs w w0.heap.size g s l
  own : OwnB w v l
  ap : ∀ b ∈ blk v, b ∉ enB g s
  up : ∀ b ∈ blk v, w0.heap.size ≤ b
theorem BothI.put {w0 w w1 : World} {g : Nat} {s v : Value} {l m : List (BitVec 8)} (h : BothI w0 w g s v l) (hT : EncTo w w1 w0.heap.size g s m) :
    ∃ s1, Ext [] w0 w1 ∧ EncIs w1 w0.heap.size g s1 m ∧ OwnB w1 v l ∧ ∀ b ∈ blk v, b ∉ enB g s1 := by
  obtain ⟨s1, F, H, hs⟩ := hT
  have S : Stp (enB g s) (enB g s1) w w1 := ⟨F, hs⟩
  exact ⟨s1, S.new h.ext fun b hb => (h.enc.up b hb).1, H, h.own.stp S h.ap, S.apart h.ap h.own.lt⟩
theorem both_app {w0 w1 w2 : World} {K : K1} {g : Nat} {s v u : Value} {l m : List (BitVec 8)} (hx : Ext [] w0 w1) (H : EncIs w1 w0.heap.size g s (l ++ m)) (O : OwnB w1 v l) (ap : ∀ b ∈ blk v, b ∉ enB g s) (up : ∀ b ∈ blk v, w0.heap.size ≤ b)
    (hU : NewB w1 w2 u m) (hlen : l.length + m.length ≤ 4000000) (hK : ∀ v' w', BothI w0 w' g s v' (l ++ m) → K v' w') : xBuiltin Try.prog .append #[26, 26] 26 [false, false] [v, u] w2 K := by
  refine appBo (O.ext0 hU.1) hU.2.1 hlen fun v' w' O' S => hK v' w' ?_
  have hlt := (O.ext0 hU.1).lt
  have H2 := H.ext0 hU.1
  have hd : ∀ b ∈ enB g s, b ∉ blk v := fun b hb hv => ap b hv hb
  have h0 : w0.heap.size ≤ w2.heap.size := Nat.le_trans hx.size hU.1.size
  refine ⟨S.new (hx.trans hU.1) up, H2.ext S.ext hd, O', fun b hb he => ?_, S.up h0 up⟩
  exact S.apart hd (fun b hb => (H2.up b hb).2) b he hb
theorem ItemsArg.ext' {w w' : World} {l : List Item} {a : Option Addr} {n c : Nat} (h : ItemsArg w l a n c) (hx : Ext [] w w') : ItemsArg w' l a n c := h.ext0 hx

theorem CodeBack_spec (l : List Item) (a : Option Addr) (n c : Nat) (w : World) (hA : ItemsArg w l a n c) : Gives Try.prog n_loamlaw5_CodeBack #[.slice a n c] w (.bool true) := by
  refine loamlaw5_CodeBack_of ?_
  unfold loamlaw5_CodeBack
  refine loamlaw5_known_call (Gives.to (known5_spec _) fun w1 E1 => ?_)
  have z1 := E1.size
  try simp only [World.size_alloc, World.size_setCell, World.size_drew] at z1
  simp (disch := (first | omega | decide | (simp only [World.size_alloc, World.size_setCell, World.size_drew, List.mem_cons, List.not_mem_nil, or_false, not_false_eq_true] <;> omega) | fail)) only [↓xBox_r, ↓loadK_some, ↓loadsK_s, ↓loadsK_n, ↓loadsR_s, ↓loadsR_n, ↓storesK_s, ↓storesK_n, setCells_c, setCells_n, World.setCell_alloc_at, World.setCell_alloc_past, World.cell?_alloc_at, World.cell?_alloc_past, 
      World.frozen?_alloc_at, World.frozen?_alloc_past, World.size_alloc, ↓xPick_t, ↓xPick_f, ↓xGuard_tt, ↓xGuard_ff, ↓xGuard_tf, ↓xGuard_ft, ↓xGuard_u, ↓xNil_r, Option.isNone_some, Option.isNone_none, ↓xIf_t, tick_eq, tickV_eq, ne_eq, 
      dlt_t, dlt_f, dle_t, dle_f, deq_t, deq_f, dne_t, dne_f, not_true_eq_false, Int.reduceAdd, Int.reduceSub, Int.reduceMul, Int.reduceEq, Int.reduceLT, Int.reduceLE, Bool.false_and, Bool.true_and, Bool.and_true, 
      Bool.and_false, ↓xBin_add', ↓xBin_sub', ↓xBin_mul', ↓xBin_quo', ↓xBin_rem', wrap_in, ↓xIf_f, ↓xIf_tt, ↓xEx0, ↓xEx1, ↓xEx2, ↓xEx3, ↓xBin_eqs, ↓xBin_nes, ↓xUn_not, ↓xu8_add, ↓xu8_com, ↓xu8_eql, ↓xu8_neq, ↓xu8_lss, ↓xu16_add, 
      ↓xu16_com, ↓xu16_eql, ↓xu16_neq, ↓xu16_lss, ↓xu32_add, ↓xu32_com, ↓xu32_eql, ↓xu32_neq, ↓xu32_lss, ↓xu64_add, ↓xu64_com, ↓xu64_eql, ↓xu64_neq, ↓xu64_lss, ↓xi64_lss, ↓xi64_eql, ↓xi64_neq, ↓xi64_neg, Int.toNat_natCast, 
      Int.reduceToNat, Nat.reduceMul, Nat.reduceAdd, Nat.reduceSub, Nat.mul_one, List.nil_append, List.cons_append, List.getElem?_toArray, List.getElem?_cons_zero, List.getElem?_cons_succ, cells_int, cells_bool, cells_string, 
      cells_slice, cells_pointer, cells_agg, one_int, one_bool, one_string, one_slice, one_pointer, List.setIfInBounds_toArray, List.set_cons_zero, List.set_cons_succ, ↓xSq_r, ↓xPur_s, ↓xRd_s, ↓xRe_s, ↓xDet_s, ↓xDet_ld, 
      ↓xDet_ld2, ↓xDet_ld3, ↓xDet_ld4, World.size_drew, Nat.zero_add, Nat.add_zero, cell_drew, frozen_drew, cell_set_eq, cell_set_o, cell_set_b, Option.map_some, World.frozen?_setCell, decide_true, decide_false, List.not_mem_nil, 
      not_false_eq_true, ↓xGuard_tt, Bool.not_true, Bool.not_false, ←decide_not, ↓ld_2, ↓ld_3, ↓ld_26, ↓ld_29, ↓ld_30, ↓fa_32_0, ↓fa_32_1, ↓fa_32_2, ↓fa_32_3, ↓fa_32_4, ↓bd_28, ↓ia_22, ↓ln_22, eq_self]
  obtain ⟨r, hr, hfew⟩ := few5_spec l a n c w1 (hA.ext0 E1)
  refine loamlaw5_few_call (Gives.to hfew fun w2 E2 => ?_)
  cases r with
  | false =>
    simp (disch := (first | omega | decide | (simp only [World.size_alloc, World.size_setCell, World.size_drew, List.mem_cons, List.not_mem_nil, or_false, not_false_eq_true] <;> omega) | fail)) only [↓xBox_r, ↓loadK_some, ↓loadsK_s, ↓loadsK_n, ↓loadsR_s, ↓loadsR_n, ↓storesK_s, ↓storesK_n, setCells_c, setCells_n, World.setCell_alloc_at, World.setCell_alloc_past, World.cell?_alloc_at, World.cell?_alloc_past, 
      World.frozen?_alloc_at, World.frozen?_alloc_past, World.size_alloc, ↓xPick_t, ↓xPick_f, ↓xGuard_tt, ↓xGuard_ff, ↓xGuard_tf, ↓xGuard_ft, ↓xGuard_u, ↓xNil_r, Option.isNone_some, Option.isNone_none, ↓xIf_t, tick_eq, tickV_eq, ne_eq, 
      dlt_t, dlt_f, dle_t, dle_f, deq_t, deq_f, dne_t, dne_f, not_true_eq_false, Int.reduceAdd, Int.reduceSub, Int.reduceMul, Int.reduceEq, Int.reduceLT, Int.reduceLE, Bool.false_and, Bool.true_and, Bool.and_true, 
      Bool.and_false, ↓xBin_add', ↓xBin_sub', ↓xBin_mul', ↓xBin_quo', ↓xBin_rem', wrap_in, ↓xIf_f, ↓xIf_tt, ↓xEx0, ↓xEx1, ↓xEx2, ↓xEx3, ↓xBin_eqs, ↓xBin_nes, ↓xUn_not, ↓xu8_add, ↓xu8_com, ↓xu8_eql, ↓xu8_neq, ↓xu8_lss, ↓xu16_add, 
      ↓xu16_com, ↓xu16_eql, ↓xu16_neq, ↓xu16_lss, ↓xu32_add, ↓xu32_com, ↓xu32_eql, ↓xu32_neq, ↓xu32_lss, ↓xu64_add, ↓xu64_com, ↓xu64_eql, ↓xu64_neq, ↓xu64_lss, ↓xi64_lss, ↓xi64_eql, ↓xi64_neq, ↓xi64_neg, Int.toNat_natCast, 
      Int.reduceToNat, Nat.reduceMul, Nat.reduceAdd, Nat.reduceSub, Nat.mul_one, List.nil_append, List.cons_append, List.getElem?_toArray, List.getElem?_cons_zero, List.getElem?_cons_succ, cells_int, cells_bool, cells_string, 
      cells_slice, cells_pointer, cells_agg, one_int, one_bool, one_string, one_slice, one_pointer, List.setIfInBounds_toArray, List.set_cons_zero, List.set_cons_succ, ↓xSq_r, ↓xPur_s, ↓xRd_s, ↓xRe_s, ↓xDet_s, ↓xDet_ld, 
      ↓xDet_ld2, ↓xDet_ld3, ↓xDet_ld4, World.size_drew, Nat.zero_add, Nat.add_zero, cell_drew, frozen_drew, cell_set_eq, cell_set_o, cell_set_b, Option.map_some, World.frozen?_setCell, decide_true, decide_false, List.not_mem_nil, 
      not_false_eq_true, ↓xGuard_tt, Bool.not_true, Bool.not_false, ←decide_not, ↓ld_2, ↓ld_3, ↓ld_26, ↓ld_29, ↓ld_30, ↓fa_32_0, ↓fa_32_1, ↓fa_32_2, ↓fa_32_3, ↓fa_32_4, ↓bd_28, ↓ia_22, ↓ln_22, eq_self]
    exact ⟨by trivial, E1.trans E2⟩
  | true =>
  have hfw := hr rfl
  have h60 : l.length ≤ 60 := hfw.1
  have G0 := E1.trans E2
  simp (disch := (first | omega | decide | (simp only [World.size_alloc, World.size_setCell, World.size_drew, List.mem_cons, List.not_mem_nil, or_false, not_false_eq_true] <;> omega) | fail)) only [↓xBox_r, ↓loadK_some, ↓loadsK_s, ↓loadsK_n, ↓loadsR_s, ↓loadsR_n, ↓storesK_s, ↓storesK_n, setCells_c, setCells_n, World.setCell_alloc_at, World.setCell_alloc_past, World.cell?_alloc_at, World.cell?_alloc_past, 
      World.frozen?_alloc_at, World.frozen?_alloc_past, World.size_alloc, ↓xPick_t, ↓xPick_f, ↓xGuard_tt, ↓xGuard_ff, ↓xGuard_tf, ↓xGuard_ft, ↓xGuard_u, ↓xNil_r, Option.isNone_some, Option.isNone_none, ↓xIf_t, tick_eq, tickV_eq, ne_eq, 
      dlt_t, dlt_f, dle_t, dle_f, deq_t, deq_f, dne_t, dne_f, not_true_eq_false, Int.reduceAdd, Int.reduceSub, Int.reduceMul, Int.reduceEq, Int.reduceLT, Int.reduceLE, Bool.false_and, Bool.true_and, Bool.and_true, 
      Bool.and_false, ↓xBin_add', ↓xBin_sub', ↓xBin_mul', ↓xBin_quo', ↓xBin_rem', wrap_in, ↓xIf_f, ↓xIf_tt, ↓xEx0, ↓xEx1, ↓xEx2, ↓xEx3, ↓xBin_eqs, ↓xBin_nes, ↓xUn_not, ↓xu8_add, ↓xu8_com, ↓xu8_eql, ↓xu8_neq, ↓xu8_lss, ↓xu16_add, 
      ↓xu16_com, ↓xu16_eql, ↓xu16_neq, ↓xu16_lss, ↓xu32_add, ↓xu32_com, ↓xu32_eql, ↓xu32_neq, ↓xu32_lss, ↓xu64_add, ↓xu64_com, ↓xu64_eql, ↓xu64_neq, ↓xu64_lss, ↓xi64_lss, ↓xi64_eql, ↓xi64_neq, ↓xi64_neg, Int.toNat_natCast, 
      Int.reduceToNat, Nat.reduceMul, Nat.reduceAdd, Nat.reduceSub, Nat.mul_one, List.nil_append, List.cons_append, List.getElem?_toArray, List.getElem?_cons_zero, List.getElem?_cons_succ, cells_int, cells_bool, cells_string, 
      cells_slice, cells_pointer, cells_agg, one_int, one_bool, one_string, one_slice, one_pointer, List.setIfInBounds_toArray, List.set_cons_zero, List.set_cons_succ, ↓xSq_r, ↓xPur_s, ↓xRd_s, ↓xRe_s, ↓xDet_s, ↓xDet_ld, 
      ↓xDet_ld2, ↓xDet_ld3, ↓xDet_ld4, World.size_drew, Nat.zero_add, Nat.add_zero, cell_drew, frozen_drew, cell_set_eq, cell_set_o, cell_set_b, Option.map_some, World.frozen?_setCell, decide_true, decide_false, List.not_mem_nil, 
      not_false_eq_true, ↓xGuard_tt, Bool.not_true, Bool.not_false, ←decide_not, ↓ld_2, ↓ld_3, ↓ld_26, ↓ld_29, ↓ld_30, ↓fa_32_0, ↓fa_32_1, ↓fa_32_2, ↓fa_32_3, ↓fa_32_4, ↓bd_28, ↓ia_22, ↓ln_22, eq_self]
  have H0 := enc_new (w := w2) (Nat.le_refl w2.heap.size)
  have hln := hA.len
  have hA2 := hA.ext0 G0
  have hbig : ∀ k, (allB (l.take k)).length ≤ 60000 := fun k => by
    have := allB_le (l := l.take k) fun x hx => hfw.2 x (List.mem_of_mem_take hx)
    have h2 : (l.take k).length ≤ l.length := by simp; omega
    have := hfw.1
    omega
  have hloc : ∀ {x : Item}, x ∈ l → ∀ {w' : World} {M : List Nat}, ItemOkI w2 x → (∀ b ∈ M, w2.heap.size ≤ b) → (x.b ≠ [] → ∀ b o, x.ab = some ⟨b, o, none⟩ → b ∉ M) ∧ (x.ws ≠ [] → ∀ b o, x.aw = some ⟨b, o, none⟩ → b ∉ M) := fun {x} _ {w'} {M} hx hM =>
    ⟨fun hne b o e hb => by
      obtain ⟨b', o', e', hb', _⟩ := hx.rb.get (by simpa using hne)
      rw [e] at e'; cases e'
      have := hM b hb; omega, fun hne b o e hb => by
      obtain ⟨b', o', e', hb', _⟩ := hx.rw.get (by simpa using hne)
      rw [e] at e'; cases e'
      have := hM b hb; omega⟩
  refine xLoop_r l.length (fun k vs w' => ∃ s v, vs = [v, i64 k] ∧ BothI w2 w' w2.heap.size s v (allB (l.take k))) ⟨_, _, rfl, Ext.alloc _ _ _, H0, Own.nil, by simp [blk, Value.ownBlock], by simp [blk, Value.ownBlock]⟩ ?_ ?_
  · rintro k hk u v0 ⟨s, v, hu, hI⟩ nxt hnx
    simp only [List.map_cons, List.map_nil, List.cons.injEq, and_true] at hu
    rw [hu.1, hu.2]
    have hxk := hA2.each _ (List.getElem_mem hk)
    have hsz := hfw.2 _ (List.getElem_mem hk)
    have hB := hbig k
    have hlocM := hloc (List.getElem_mem hk) (w' := v0) hxk (fun b hb => (hI.enc.up b hb).1)
    obtain ⟨b, o, rfl, hb, q0, q1, q2, q3, q4⟩ := hA2.cell hk
    have p0 := hI.ext.cell0 q0
    have p1 := hI.ext.cell0 q1
    have p2 := hI.ext.cell0 q2
    have p3 := hI.ext.cell0 q3
    have p4 := hI.ext.cell0 q4
    have hiB : (itemB l[k]).length ≤ 1000 := itemB_le hsz
    have htk := allB_take hk
    unfold loamlaw5_CodeBack_l1
    by_cases g1 : l[k].op = 1
    · have hi : itemB l[k] = uintB l[k].u := by unfold itemB; rw [if_pos g1]
      rw [hi] at htk hiB
      simp (disch := (first | omega | decide | (simp only [World.size_alloc, World.size_setCell, World.size_drew, List.mem_cons, List.not_mem_nil, or_false, not_false_eq_true] <;> omega) | fail)) only [↓xBox_r, ↓loadK_some, ↓loadsK_s, ↓loadsK_n, ↓loadsR_s, ↓loadsR_n, ↓storesK_s, ↓storesK_n, setCells_c, setCells_n, World.setCell_alloc_at, World.setCell_alloc_past, World.cell?_alloc_at, World.cell?_alloc_past, 
      World.frozen?_alloc_at, World.frozen?_alloc_past, World.size_alloc, ↓xPick_t, ↓xPick_f, ↓xGuard_tt, ↓xGuard_ff, ↓xGuard_tf, ↓xGuard_ft, ↓xGuard_u, ↓xNil_r, Option.isNone_some, Option.isNone_none, ↓xIf_t, tick_eq, tickV_eq, ne_eq, 
      dlt_t, dlt_f, dle_t, dle_f, deq_t, deq_f, dne_t, dne_f, not_true_eq_false, Int.reduceAdd, Int.reduceSub, Int.reduceMul, Int.reduceEq, Int.reduceLT, Int.reduceLE, Bool.false_and, Bool.true_and, Bool.and_true, 
      Bool.and_false, ↓xBin_add', ↓xBin_sub', ↓xBin_mul', ↓xBin_quo', ↓xBin_rem', wrap_in, ↓xIf_f, ↓xIf_tt, ↓xEx0, ↓xEx1, ↓xEx2, ↓xEx3, ↓xBin_eqs, ↓xBin_nes, ↓xUn_not, ↓xu8_add, ↓xu8_com, ↓xu8_eql, ↓xu8_neq, ↓xu8_lss, ↓xu16_add, 
      ↓xu16_com, ↓xu16_eql, ↓xu16_neq, ↓xu16_lss, ↓xu32_add, ↓xu32_com, ↓xu32_eql, ↓xu32_neq, ↓xu32_lss, ↓xu64_add, ↓xu64_com, ↓xu64_eql, ↓xu64_neq, ↓xu64_lss, ↓xi64_lss, ↓xi64_eql, ↓xi64_neq, ↓xi64_neg, Int.toNat_natCast, 
      Int.reduceToNat, Nat.reduceMul, Nat.reduceAdd, Nat.reduceSub, Nat.mul_one, List.nil_append, List.cons_append, List.getElem?_toArray, List.getElem?_cons_zero, List.getElem?_cons_succ, cells_int, cells_bool, cells_string, 
      cells_slice, cells_pointer, cells_agg, one_int, one_bool, one_string, one_slice, one_pointer, List.setIfInBounds_toArray, List.set_cons_zero, List.set_cons_succ, ↓xSq_r, ↓xPur_s, ↓xRd_s, ↓xRe_s, ↓xDet_s, ↓xDet_ld, 
      ↓xDet_ld2, ↓xDet_ld3, ↓xDet_ld4, World.size_drew, Nat.zero_add, Nat.add_zero, cell_drew, frozen_drew, cell_set_eq, cell_set_o, cell_set_b, Option.map_some, World.frozen?_setCell, decide_true, decide_false, List.not_mem_nil, 
      not_false_eq_true, ↓xGuard_tt, Bool.not_true, Bool.not_false, ←decide_not, ↓ld_2, ↓ld_3, ↓ld_26, ↓ld_29, ↓ld_30, ↓fa_32_0, ↓fa_32_1, ↓fa_32_2, ↓fa_32_3, ↓fa_32_4, ↓bd_28, ↓ia_22, ↓ln_22, p0, g1, p1]
      refine codec_Enc_Uint_call (Yld.mono (Enc_Uint_spec l[k].u hI.enc (by omega)) ?_)
      rintro u1 v1 ⟨rfl, T1⟩
      obtain ⟨s1, X1, H1, O1, A1⟩ := hI.put T1
      have r1 := X1.cell0 q1
      simp (disch := (first | omega | decide | (simp only [World.size_alloc, World.size_setCell, World.size_drew, List.mem_cons, List.not_mem_nil, or_false, not_false_eq_true] <;> omega) | fail)) only [↓xBox_r, ↓loadK_some, ↓loadsK_s, ↓loadsK_n, ↓loadsR_s, ↓loadsR_n, ↓storesK_s, ↓storesK_n, setCells_c, setCells_n, World.setCell_alloc_at, World.setCell_alloc_past, World.cell?_alloc_at, World.cell?_alloc_past, 
      World.frozen?_alloc_at, World.frozen?_alloc_past, World.size_alloc, ↓xPick_t, ↓xPick_f, ↓xGuard_tt, ↓xGuard_ff, ↓xGuard_tf, ↓xGuard_ft, ↓xGuard_u, ↓xNil_r, Option.isNone_some, Option.isNone_none, ↓xIf_t, tick_eq, tickV_eq, ne_eq, 
      dlt_t, dlt_f, dle_t, dle_f, deq_t, deq_f, dne_t, dne_f, not_true_eq_false, Int.reduceAdd, Int.reduceSub, Int.reduceMul, Int.reduceEq, Int.reduceLT, Int.reduceLE, Bool.false_and, Bool.true_and, Bool.and_true, 
      Bool.and_false, ↓xBin_add', ↓xBin_sub', ↓xBin_mul', ↓xBin_quo', ↓xBin_rem', wrap_in, ↓xIf_f, ↓xIf_tt, ↓xEx0, ↓xEx1, ↓xEx2, ↓xEx3, ↓xBin_eqs, ↓xBin_nes, ↓xUn_not, ↓xu8_add, ↓xu8_com, ↓xu8_eql, ↓xu8_neq, ↓xu8_lss, ↓xu16_add, 
      ↓xu16_com, ↓xu16_eql, ↓xu16_neq, ↓xu16_lss, ↓xu32_add, ↓xu32_com, ↓xu32_eql, ↓xu32_neq, ↓xu32_lss, ↓xu64_add, ↓xu64_com, ↓xu64_eql, ↓xu64_neq, ↓xu64_lss, ↓xi64_lss, ↓xi64_eql, ↓xi64_neq, ↓xi64_neg, Int.toNat_natCast, 
      Int.reduceToNat, Nat.reduceMul, Nat.reduceAdd, Nat.reduceSub, Nat.mul_one, List.nil_append, List.cons_append, List.getElem?_toArray, List.getElem?_cons_zero, List.getElem?_cons_succ, cells_int, cells_bool, cells_string, 
      cells_slice, cells_pointer, cells_agg, one_int, one_bool, one_string, one_slice, one_pointer, List.setIfInBounds_toArray, List.set_cons_zero, List.set_cons_succ, ↓xSq_r, ↓xPur_s, ↓xRd_s, ↓xRe_s, ↓xDet_s, ↓xDet_ld, 
      ↓xDet_ld2, ↓xDet_ld3, ↓xDet_ld4, World.size_drew, Nat.zero_add, Nat.add_zero, cell_drew, frozen_drew, cell_set_eq, cell_set_o, cell_set_b, Option.map_some, World.frozen?_setCell, decide_true, decide_false, List.not_mem_nil, 
      not_false_eq_true, ↓xGuard_tt, Bool.not_true, Bool.not_false, ←decide_not, ↓ld_2, ↓ld_3, ↓ld_26, ↓ld_29, ↓ld_30, ↓fa_32_0, ↓fa_32_1, ↓fa_32_2, ↓fa_32_3, ↓fa_32_4, ↓bd_28, ↓ia_22, ↓ln_22, r1]
      refine loamref5_Uint_call (Yld.mono (rUint_spec l[k].u v1) ?_)
      intro u2 v2 hU
      simp (disch := (first | omega | decide | (simp only [World.size_alloc, World.size_setCell, World.size_drew, List.mem_cons, List.not_mem_nil, or_false, not_false_eq_true] <;> omega) | fail)) only [↓xBox_r, ↓loadK_some, ↓loadsK_s, ↓loadsK_n, ↓loadsR_s, ↓loadsR_n, ↓storesK_s, ↓storesK_n, setCells_c, setCells_n, World.setCell_alloc_at, World.setCell_alloc_past, World.cell?_alloc_at, World.cell?_alloc_past, 
      World.frozen?_alloc_at, World.frozen?_alloc_past, World.size_alloc, ↓xPick_t, ↓xPick_f, ↓xGuard_tt, ↓xGuard_ff, ↓xGuard_tf, ↓xGuard_ft, ↓xGuard_u, ↓xNil_r, Option.isNone_some, Option.isNone_none, ↓xIf_t, tick_eq, tickV_eq, ne_eq, 
      dlt_t, dlt_f, dle_t, dle_f, deq_t, deq_f, dne_t, dne_f, not_true_eq_false, Int.reduceAdd, Int.reduceSub, Int.reduceMul, Int.reduceEq, Int.reduceLT, Int.reduceLE, Bool.false_and, Bool.true_and, Bool.and_true, 
      Bool.and_false, ↓xBin_add', ↓xBin_sub', ↓xBin_mul', ↓xBin_quo', ↓xBin_rem', wrap_in, ↓xIf_f, ↓xIf_tt, ↓xEx0, ↓xEx1, ↓xEx2, ↓xEx3, ↓xBin_eqs, ↓xBin_nes, ↓xUn_not, ↓xu8_add, ↓xu8_com, ↓xu8_eql, ↓xu8_neq, ↓xu8_lss, ↓xu16_add, 
      ↓xu16_com, ↓xu16_eql, ↓xu16_neq, ↓xu16_lss, ↓xu32_add, ↓xu32_com, ↓xu32_eql, ↓xu32_neq, ↓xu32_lss, ↓xu64_add, ↓xu64_com, ↓xu64_eql, ↓xu64_neq, ↓xu64_lss, ↓xi64_lss, ↓xi64_eql, ↓xi64_neq, ↓xi64_neg, Int.toNat_natCast, 
      Int.reduceToNat, Nat.reduceMul, Nat.reduceAdd, Nat.reduceSub, Nat.mul_one, List.nil_append, List.cons_append, List.getElem?_toArray, List.getElem?_cons_zero, List.getElem?_cons_succ, cells_int, cells_bool, cells_string, 
      cells_slice, cells_pointer, cells_agg, one_int, one_bool, one_string, one_slice, one_pointer, List.setIfInBounds_toArray, List.set_cons_zero, List.set_cons_succ, ↓xSq_r, ↓xPur_s, ↓xRd_s, ↓xRe_s, ↓xDet_s, ↓xDet_ld, 
      ↓xDet_ld2, ↓xDet_ld3, ↓xDet_ld4, World.size_drew, Nat.zero_add, Nat.add_zero, cell_drew, frozen_drew, cell_set_eq, cell_set_o, cell_set_b, Option.map_some, World.frozen?_setCell, decide_true, decide_false, List.not_mem_nil, 
      not_false_eq_true, ↓xGuard_tt, Bool.not_true, Bool.not_false, ←decide_not, ↓ld_2, ↓ld_3, ↓ld_26, ↓ld_29, ↓ld_30, ↓fa_32_0, ↓fa_32_1, ↓fa_32_2, ↓fa_32_3, ↓fa_32_4, ↓bd_28, ↓ia_22, ↓ln_22, p0, g1, p1]
      refine both_app X1 H1 O1 A1 hI.up hU (by omega) fun v' w' hI' => ?_
      unfold loamlaw5_CodeBack_j1
      simp (disch := (first | omega | decide | (simp only [World.size_alloc, World.size_setCell, World.size_drew, List.mem_cons, List.not_mem_nil, or_false, not_false_eq_true] <;> omega) | fail)) only [↓xBox_r, ↓loadK_some, ↓loadsK_s, ↓loadsK_n, ↓loadsR_s, ↓loadsR_n, ↓storesK_s, ↓storesK_n, setCells_c, setCells_n, World.setCell_alloc_at, World.setCell_alloc_past, World.cell?_alloc_at, World.cell?_alloc_past, 
      World.frozen?_alloc_at, World.frozen?_alloc_past, World.size_alloc, ↓xPick_t, ↓xPick_f, ↓xGuard_tt, ↓xGuard_ff, ↓xGuard_tf, ↓xGuard_ft, ↓xGuard_u, ↓xNil_r, Option.isNone_some, Option.isNone_none, ↓xIf_t, tick_eq, tickV_eq, ne_eq, 
      dlt_t, dlt_f, dle_t, dle_f, deq_t, deq_f, dne_t, dne_f, not_true_eq_false, Int.reduceAdd, Int.reduceSub, Int.reduceMul, Int.reduceEq, Int.reduceLT, Int.reduceLE, Bool.false_and, Bool.true_and, Bool.and_true, 
      Bool.and_false, ↓xBin_add', ↓xBin_sub', ↓xBin_mul', ↓xBin_quo', ↓xBin_rem', wrap_in, ↓xIf_f, ↓xIf_tt, ↓xEx0, ↓xEx1, ↓xEx2, ↓xEx3, ↓xBin_eqs, ↓xBin_nes, ↓xUn_not, ↓xu8_add, ↓xu8_com, ↓xu8_eql, ↓xu8_neq, ↓xu8_lss, ↓xu16_add, 
      ↓xu16_com, ↓xu16_eql, ↓xu16_neq, ↓xu16_lss, ↓xu32_add, ↓xu32_com, ↓xu32_eql, ↓xu32_neq, ↓xu32_lss, ↓xu64_add, ↓xu64_com, ↓xu64_eql, ↓xu64_neq, ↓xu64_lss, ↓xi64_lss, ↓xi64_eql, ↓xi64_neq, ↓xi64_neg, Int.toNat_natCast, 
      Int.reduceToNat, Nat.reduceMul, Nat.reduceAdd, Nat.reduceSub, Nat.mul_one, List.nil_append, List.cons_append, List.getElem?_toArray, List.getElem?_cons_zero, List.getElem?_cons_succ, cells_int, cells_bool, cells_string, 
      cells_slice, cells_pointer, cells_agg, one_int, one_bool, one_string, one_slice, one_pointer, List.setIfInBounds_toArray, List.set_cons_zero, List.set_cons_succ, ↓xSq_r, ↓xPur_s, ↓xRd_s, ↓xRe_s, ↓xDet_s, ↓xDet_ld, 
      ↓xDet_ld2, ↓xDet_ld3, ↓xDet_ld4, World.size_drew, Nat.zero_add, Nat.add_zero, cell_drew, frozen_drew, cell_set_eq, cell_set_o, cell_set_b, Option.map_some, World.frozen?_setCell, decide_true, decide_false, List.not_mem_nil, 
      not_false_eq_true, ↓xGuard_tt, Bool.not_true, Bool.not_false, ←decide_not, ↓ld_2, ↓ld_3, ↓ld_26, ↓ld_29, ↓ld_30, ↓fa_32_0, ↓fa_32_1, ↓fa_32_2, ↓fa_32_3, ↓fa_32_4, ↓bd_28, ↓ia_22, ↓ln_22, p0, g1, p1]
      exact hnx _ _ ⟨s1, v', rfl, by rw [htk]; exact hI'⟩
    by_cases g2 : l[k].op = 2
    · have hi : itemB l[k] = uintB (zig l[k].i) := by unfold itemB; rw [if_neg g1, if_pos g2]
      rw [hi] at htk hiB
      simp (disch := (first | omega | decide | (simp only [World.size_alloc, World.size_setCell, World.size_drew, List.mem_cons, List.not_mem_nil, or_false, not_false_eq_true] <;> omega) | fail)) only [↓xBox_r, ↓loadK_some, ↓loadsK_s, ↓loadsK_n, ↓loadsR_s, ↓loadsR_n, ↓storesK_s, ↓storesK_n, setCells_c, setCells_n, World.setCell_alloc_at, World.setCell_alloc_past, World.cell?_alloc_at, World.cell?_alloc_past, 
      World.frozen?_alloc_at, World.frozen?_alloc_past, World.size_alloc, ↓xPick_t, ↓xPick_f, ↓xGuard_tt, ↓xGuard_ff, ↓xGuard_tf, ↓xGuard_ft, ↓xGuard_u, ↓xNil_r, Option.isNone_some, Option.isNone_none, ↓xIf_t, tick_eq, tickV_eq, ne_eq, 
      dlt_t, dlt_f, dle_t, dle_f, deq_t, deq_f, dne_t, dne_f, not_true_eq_false, Int.reduceAdd, Int.reduceSub, Int.reduceMul, Int.reduceEq, Int.reduceLT, Int.reduceLE, Bool.false_and, Bool.true_and, Bool.and_true, 
      Bool.and_false, ↓xBin_add', ↓xBin_sub', ↓xBin_mul', ↓xBin_quo', ↓xBin_rem', wrap_in, ↓xIf_f, ↓xIf_tt, ↓xEx0, ↓xEx1, ↓xEx2, ↓xEx3, ↓xBin_eqs, ↓xBin_nes, ↓xUn_not, ↓xu8_add, ↓xu8_com, ↓xu8_eql, ↓xu8_neq, ↓xu8_lss, ↓xu16_add, 
      ↓xu16_com, ↓xu16_eql, ↓xu16_neq, ↓xu16_lss, ↓xu32_add, ↓xu32_com, ↓xu32_eql, ↓xu32_neq, ↓xu32_lss, ↓xu64_add, ↓xu64_com, ↓xu64_eql, ↓xu64_neq, ↓xu64_lss, ↓xi64_lss, ↓xi64_eql, ↓xi64_neq, ↓xi64_neg, Int.toNat_natCast, 
      Int.reduceToNat, Nat.reduceMul, Nat.reduceAdd, Nat.reduceSub, Nat.mul_one, List.nil_append, List.cons_append, List.getElem?_toArray, List.getElem?_cons_zero, List.getElem?_cons_succ, cells_int, cells_bool, cells_string, 
      cells_slice, cells_pointer, cells_agg, one_int, one_bool, one_string, one_slice, one_pointer, List.setIfInBounds_toArray, List.set_cons_zero, List.set_cons_succ, ↓xSq_r, ↓xPur_s, ↓xRd_s, ↓xRe_s, ↓xDet_s, ↓xDet_ld, 
      ↓xDet_ld2, ↓xDet_ld3, ↓xDet_ld4, World.size_drew, Nat.zero_add, Nat.add_zero, cell_drew, frozen_drew, cell_set_eq, cell_set_o, cell_set_b, Option.map_some, World.frozen?_setCell, decide_true, decide_false, List.not_mem_nil, 
      not_false_eq_true, ↓xGuard_tt, Bool.not_true, Bool.not_false, ←decide_not, ↓ld_2, ↓ld_3, ↓ld_26, ↓ld_29, ↓ld_30, ↓fa_32_0, ↓fa_32_1, ↓fa_32_2, ↓fa_32_3, ↓fa_32_4, ↓bd_28, ↓ia_22, ↓ln_22, p0, g2, p2]
      refine codec_Enc_Int_call (Yld.mono (Enc_Int_spec l[k].i hI.enc (by omega)) ?_)
      rintro u1 v1 ⟨rfl, T1⟩
      obtain ⟨s1, X1, H1, O1, A1⟩ := hI.put T1
      have r2 := X1.cell0 q2
      simp (disch := (first | omega | decide | (simp only [World.size_alloc, World.size_setCell, World.size_drew, List.mem_cons, List.not_mem_nil, or_false, not_false_eq_true] <;> omega) | fail)) only [↓xBox_r, ↓loadK_some, ↓loadsK_s, ↓loadsK_n, ↓loadsR_s, ↓loadsR_n, ↓storesK_s, ↓storesK_n, setCells_c, setCells_n, World.setCell_alloc_at, World.setCell_alloc_past, World.cell?_alloc_at, World.cell?_alloc_past, 
      World.frozen?_alloc_at, World.frozen?_alloc_past, World.size_alloc, ↓xPick_t, ↓xPick_f, ↓xGuard_tt, ↓xGuard_ff, ↓xGuard_tf, ↓xGuard_ft, ↓xGuard_u, ↓xNil_r, Option.isNone_some, Option.isNone_none, ↓xIf_t, tick_eq, tickV_eq, ne_eq, 
      dlt_t, dlt_f, dle_t, dle_f, deq_t, deq_f, dne_t, dne_f, not_true_eq_false, Int.reduceAdd, Int.reduceSub, Int.reduceMul, Int.reduceEq, Int.reduceLT, Int.reduceLE, Bool.false_and, Bool.true_and, Bool.and_true, 
      Bool.and_false, ↓xBin_add', ↓xBin_sub', ↓xBin_mul', ↓xBin_quo', ↓xBin_rem', wrap_in, ↓xIf_f, ↓xIf_tt, ↓xEx0, ↓xEx1, ↓xEx2, ↓xEx3, ↓xBin_eqs, ↓xBin_nes, ↓xUn_not, ↓xu8_add, ↓xu8_com, ↓xu8_eql, ↓xu8_neq, ↓xu8_lss, ↓xu16_add, 
      ↓xu16_com, ↓xu16_eql, ↓xu16_neq, ↓xu16_lss, ↓xu32_add, ↓xu32_com, ↓xu32_eql, ↓xu32_neq, ↓xu32_lss, ↓xu64_add, ↓xu64_com, ↓xu64_eql, ↓xu64_neq, ↓xu64_lss, ↓xi64_lss, ↓xi64_eql, ↓xi64_neq, ↓xi64_neg, Int.toNat_natCast, 
      Int.reduceToNat, Nat.reduceMul, Nat.reduceAdd, Nat.reduceSub, Nat.mul_one, List.nil_append, List.cons_append, List.getElem?_toArray, List.getElem?_cons_zero, List.getElem?_cons_succ, cells_int, cells_bool, cells_string, 
      cells_slice, cells_pointer, cells_agg, one_int, one_bool, one_string, one_slice, one_pointer, List.setIfInBounds_toArray, List.set_cons_zero, List.set_cons_succ, ↓xSq_r, ↓xPur_s, ↓xRd_s, ↓xRe_s, ↓xDet_s, ↓xDet_ld, 
      ↓xDet_ld2, ↓xDet_ld3, ↓xDet_ld4, World.size_drew, Nat.zero_add, Nat.add_zero, cell_drew, frozen_drew, cell_set_eq, cell_set_o, cell_set_b, Option.map_some, World.frozen?_setCell, decide_true, decide_false, List.not_mem_nil, 
      not_false_eq_true, ↓xGuard_tt, Bool.not_true, Bool.not_false, ←decide_not, ↓ld_2, ↓ld_3, ↓ld_26, ↓ld_29, ↓ld_30, ↓fa_32_0, ↓fa_32_1, ↓fa_32_2, ↓fa_32_3, ↓fa_32_4, ↓bd_28, ↓ia_22, ↓ln_22, r2]
      refine loamref5_Zig_call (Gives.to (rZig_spec l[k].i hxk.int v1) fun v2 E4 => ?_)
      rw [← zig_eq hxk.int]
      refine loamref5_Uint_call (Yld.mono (rUint_spec (zig l[k].i) v2) ?_)
      intro u2 v3 hU
      simp (disch := (first | omega | decide | (simp only [World.size_alloc, World.size_setCell, World.size_drew, List.mem_cons, List.not_mem_nil, or_false, not_false_eq_true] <;> omega) | fail)) only [↓xBox_r, ↓loadK_some, ↓loadsK_s, ↓loadsK_n, ↓loadsR_s, ↓loadsR_n, ↓storesK_s, ↓storesK_n, setCells_c, setCells_n, World.setCell_alloc_at, World.setCell_alloc_past, World.cell?_alloc_at, World.cell?_alloc_past, 
      World.frozen?_alloc_at, World.frozen?_alloc_past, World.size_alloc, ↓xPick_t, ↓xPick_f, ↓xGuard_tt, ↓xGuard_ff, ↓xGuard_tf, ↓xGuard_ft, ↓xGuard_u, ↓xNil_r, Option.isNone_some, Option.isNone_none, ↓xIf_t, tick_eq, tickV_eq, ne_eq, 
      dlt_t, dlt_f, dle_t, dle_f, deq_t, deq_f, dne_t, dne_f, not_true_eq_false, Int.reduceAdd, Int.reduceSub, Int.reduceMul, Int.reduceEq, Int.reduceLT, Int.reduceLE, Bool.false_and, Bool.true_and, Bool.and_true, 
      Bool.and_false, ↓xBin_add', ↓xBin_sub', ↓xBin_mul', ↓xBin_quo', ↓xBin_rem', wrap_in, ↓xIf_f, ↓xIf_tt, ↓xEx0, ↓xEx1, ↓xEx2, ↓xEx3, ↓xBin_eqs, ↓xBin_nes, ↓xUn_not, ↓xu8_add, ↓xu8_com, ↓xu8_eql, ↓xu8_neq, ↓xu8_lss, ↓xu16_add, 
      ↓xu16_com, ↓xu16_eql, ↓xu16_neq, ↓xu16_lss, ↓xu32_add, ↓xu32_com, ↓xu32_eql, ↓xu32_neq, ↓xu32_lss, ↓xu64_add, ↓xu64_com, ↓xu64_eql, ↓xu64_neq, ↓xu64_lss, ↓xi64_lss, ↓xi64_eql, ↓xi64_neq, ↓xi64_neg, Int.toNat_natCast, 
      Int.reduceToNat, Nat.reduceMul, Nat.reduceAdd, Nat.reduceSub, Nat.mul_one, List.nil_append, List.cons_append, List.getElem?_toArray, List.getElem?_cons_zero, List.getElem?_cons_succ, cells_int, cells_bool, cells_string, 
      cells_slice, cells_pointer, cells_agg, one_int, one_bool, one_string, one_slice, one_pointer, List.setIfInBounds_toArray, List.set_cons_zero, List.set_cons_succ, ↓xSq_r, ↓xPur_s, ↓xRd_s, ↓xRe_s, ↓xDet_s, ↓xDet_ld, 
      ↓xDet_ld2, ↓xDet_ld3, ↓xDet_ld4, World.size_drew, Nat.zero_add, Nat.add_zero, cell_drew, frozen_drew, cell_set_eq, cell_set_o, cell_set_b, Option.map_some, World.frozen?_setCell, decide_true, decide_false, List.not_mem_nil, 
      not_false_eq_true, ↓xGuard_tt, Bool.not_true, Bool.not_false, ←decide_not, ↓ld_2, ↓ld_3, ↓ld_26, ↓ld_29, ↓ld_30, ↓fa_32_0, ↓fa_32_1, ↓fa_32_2, ↓fa_32_3, ↓fa_32_4, ↓bd_28, ↓ia_22, ↓ln_22, p0, g2, p2]
      refine both_app (X1.trans E4) (H1.ext0 E4) (O1.ext0 E4) A1 hI.up hU (by omega) fun v' w' hI' => ?_
      unfold loamlaw5_CodeBack_j1
      simp (disch := (first | omega | decide | (simp only [World.size_alloc, World.size_setCell, World.size_drew, List.mem_cons, List.not_mem_nil, or_false, not_false_eq_true] <;> omega) | fail)) only [↓xBox_r, ↓loadK_some, ↓loadsK_s, ↓loadsK_n, ↓loadsR_s, ↓loadsR_n, ↓storesK_s, ↓storesK_n, setCells_c, setCells_n, World.setCell_alloc_at, World.setCell_alloc_past, World.cell?_alloc_at, World.cell?_alloc_past, 
      World.frozen?_alloc_at, World.frozen?_alloc_past, World.size_alloc, ↓xPick_t, ↓xPick_f, ↓xGuard_tt, ↓xGuard_ff, ↓xGuard_tf, ↓xGuard_ft, ↓xGuard_u, ↓xNil_r, Option.isNone_some, Option.isNone_none, ↓xIf_t, tick_eq, tickV_eq, ne_eq, 
      dlt_t, dlt_f, dle_t, dle_f, deq_t, deq_f, dne_t, dne_f, not_true_eq_false, Int.reduceAdd, Int.reduceSub, Int.reduceMul, Int.reduceEq, Int.reduceLT, Int.reduceLE, Bool.false_and, Bool.true_and, Bool.and_true, 
      Bool.and_false, ↓xBin_add', ↓xBin_sub', ↓xBin_mul', ↓xBin_quo', ↓xBin_rem', wrap_in, ↓xIf_f, ↓xIf_tt, ↓xEx0, ↓xEx1, ↓xEx2, ↓xEx3, ↓xBin_eqs, ↓xBin_nes, ↓xUn_not, ↓xu8_add, ↓xu8_com, ↓xu8_eql, ↓xu8_neq, ↓xu8_lss, ↓xu16_add, 
      ↓xu16_com, ↓xu16_eql, ↓xu16_neq, ↓xu16_lss, ↓xu32_add, ↓xu32_com, ↓xu32_eql, ↓xu32_neq, ↓xu32_lss, ↓xu64_add, ↓xu64_com, ↓xu64_eql, ↓xu64_neq, ↓xu64_lss, ↓xi64_lss, ↓xi64_eql, ↓xi64_neq, ↓xi64_neg, Int.toNat_natCast, 
      Int.reduceToNat, Nat.reduceMul, Nat.reduceAdd, Nat.reduceSub, Nat.mul_one, List.nil_append, List.cons_append, List.getElem?_toArray, List.getElem?_cons_zero, List.getElem?_cons_succ, cells_int, cells_bool, cells_string, 
      cells_slice, cells_pointer, cells_agg, one_int, one_bool, one_string, one_slice, one_pointer, List.setIfInBounds_toArray, List.set_cons_zero, List.set_cons_succ, ↓xSq_r, ↓xPur_s, ↓xRd_s, ↓xRe_s, ↓xDet_s, ↓xDet_ld, 
      ↓xDet_ld2, ↓xDet_ld3, ↓xDet_ld4, World.size_drew, Nat.zero_add, Nat.add_zero, cell_drew, frozen_drew, cell_set_eq, cell_set_o, cell_set_b, Option.map_some, World.frozen?_setCell, decide_true, decide_false, List.not_mem_nil, 
      not_false_eq_true, ↓xGuard_tt, Bool.not_true, Bool.not_false, ←decide_not, ↓ld_2, ↓ld_3, ↓ld_26, ↓ld_29, ↓ld_30, ↓fa_32_0, ↓fa_32_1, ↓fa_32_2, ↓fa_32_3, ↓fa_32_4, ↓bd_28, ↓ia_22, ↓ln_22, p0, g2, p2]
      exact hnx _ _ ⟨s1, v', rfl, by rw [htk]; exact hI'⟩
    by_cases g3 : l[k].op = 3
    · have hi : itemB l[k] = uintB (BitVec.ofNat 64 l[k].b.length) ++ l[k].b := by unfold itemB; rw [if_neg g1, if_neg g2, if_pos g3]
      rw [hi] at htk hiB
      rw [List.length_append] at hiB
      simp (disch := (first | omega | decide | (simp only [World.size_alloc, World.size_setCell, World.size_drew, List.mem_cons, List.not_mem_nil, or_false, not_false_eq_true] <;> omega) | fail)) only [↓xBox_r, ↓loadK_some, ↓loadsK_s, ↓loadsK_n, ↓loadsR_s, ↓loadsR_n, ↓storesK_s, ↓storesK_n, setCells_c, setCells_n, World.setCell_alloc_at, World.setCell_alloc_past, World.cell?_alloc_at, World.cell?_alloc_past, 
      World.frozen?_alloc_at, World.frozen?_alloc_past, World.size_alloc, ↓xPick_t, ↓xPick_f, ↓xGuard_tt, ↓xGuard_ff, ↓xGuard_tf, ↓xGuard_ft, ↓xGuard_u, ↓xNil_r, Option.isNone_some, Option.isNone_none, ↓xIf_t, tick_eq, tickV_eq, ne_eq, 
      dlt_t, dlt_f, dle_t, dle_f, deq_t, deq_f, dne_t, dne_f, not_true_eq_false, Int.reduceAdd, Int.reduceSub, Int.reduceMul, Int.reduceEq, Int.reduceLT, Int.reduceLE, Bool.false_and, Bool.true_and, Bool.and_true, 
      Bool.and_false, ↓xBin_add', ↓xBin_sub', ↓xBin_mul', ↓xBin_quo', ↓xBin_rem', wrap_in, ↓xIf_f, ↓xIf_tt, ↓xEx0, ↓xEx1, ↓xEx2, ↓xEx3, ↓xBin_eqs, ↓xBin_nes, ↓xUn_not, ↓xu8_add, ↓xu8_com, ↓xu8_eql, ↓xu8_neq, ↓xu8_lss, ↓xu16_add, 
      ↓xu16_com, ↓xu16_eql, ↓xu16_neq, ↓xu16_lss, ↓xu32_add, ↓xu32_com, ↓xu32_eql, ↓xu32_neq, ↓xu32_lss, ↓xu64_add, ↓xu64_com, ↓xu64_eql, ↓xu64_neq, ↓xu64_lss, ↓xi64_lss, ↓xi64_eql, ↓xi64_neq, ↓xi64_neg, Int.toNat_natCast, 
      Int.reduceToNat, Nat.reduceMul, Nat.reduceAdd, Nat.reduceSub, Nat.mul_one, List.nil_append, List.cons_append, List.getElem?_toArray, List.getElem?_cons_zero, List.getElem?_cons_succ, cells_int, cells_bool, cells_string, 
      cells_slice, cells_pointer, cells_agg, one_int, one_bool, one_string, one_slice, one_pointer, List.setIfInBounds_toArray, List.set_cons_zero, List.set_cons_succ, ↓xSq_r, ↓xPur_s, ↓xRd_s, ↓xRe_s, ↓xDet_s, ↓xDet_ld, 
      ↓xDet_ld2, ↓xDet_ld3, ↓xDet_ld4, World.size_drew, Nat.zero_add, Nat.add_zero, cell_drew, frozen_drew, cell_set_eq, cell_set_o, cell_set_b, Option.map_some, World.frozen?_setCell, decide_true, decide_false, List.not_mem_nil, 
      not_false_eq_true, ↓xGuard_tt, Bool.not_true, Bool.not_false, ←decide_not, ↓ld_2, ↓ld_3, ↓ld_26, ↓ld_29, ↓ld_30, ↓fa_32_0, ↓fa_32_1, ↓fa_32_2, ↓fa_32_3, ↓fa_32_4, ↓bd_28, ↓ia_22, ↓ln_22, p0, g3, p3]
      refine codec_Enc_Raw_call (Yld.mono (Enc_Raw_spec l[k].b _ _ hI.enc (by omega) (hxk.rb.ext0 hI.ext) hxk.nb hlocM.1) ?_)
      rintro u1 v1 ⟨rfl, T1⟩
      obtain ⟨s1, X1, H1, O1, A1⟩ := hI.put T1
      have r3 := X1.cell0 q3
      simp (disch := (first | omega | decide | (simp only [World.size_alloc, World.size_setCell, World.size_drew, List.mem_cons, List.not_mem_nil, or_false, not_false_eq_true] <;> omega) | fail)) only [↓xBox_r, ↓loadK_some, ↓loadsK_s, ↓loadsK_n, ↓loadsR_s, ↓loadsR_n, ↓storesK_s, ↓storesK_n, setCells_c, setCells_n, World.setCell_alloc_at, World.setCell_alloc_past, World.cell?_alloc_at, World.cell?_alloc_past, 
      World.frozen?_alloc_at, World.frozen?_alloc_past, World.size_alloc, ↓xPick_t, ↓xPick_f, ↓xGuard_tt, ↓xGuard_ff, ↓xGuard_tf, ↓xGuard_ft, ↓xGuard_u, ↓xNil_r, Option.isNone_some, Option.isNone_none, ↓xIf_t, tick_eq, tickV_eq, ne_eq, 
      dlt_t, dlt_f, dle_t, dle_f, deq_t, deq_f, dne_t, dne_f, not_true_eq_false, Int.reduceAdd, Int.reduceSub, Int.reduceMul, Int.reduceEq, Int.reduceLT, Int.reduceLE, Bool.false_and, Bool.true_and, Bool.and_true, 
      Bool.and_false, ↓xBin_add', ↓xBin_sub', ↓xBin_mul', ↓xBin_quo', ↓xBin_rem', wrap_in, ↓xIf_f, ↓xIf_tt, ↓xEx0, ↓xEx1, ↓xEx2, ↓xEx3, ↓xBin_eqs, ↓xBin_nes, ↓xUn_not, ↓xu8_add, ↓xu8_com, ↓xu8_eql, ↓xu8_neq, ↓xu8_lss, ↓xu16_add, 
      ↓xu16_com, ↓xu16_eql, ↓xu16_neq, ↓xu16_lss, ↓xu32_add, ↓xu32_com, ↓xu32_eql, ↓xu32_neq, ↓xu32_lss, ↓xu64_add, ↓xu64_com, ↓xu64_eql, ↓xu64_neq, ↓xu64_lss, ↓xi64_lss, ↓xi64_eql, ↓xi64_neq, ↓xi64_neg, Int.toNat_natCast, 
      Int.reduceToNat, Nat.reduceMul, Nat.reduceAdd, Nat.reduceSub, Nat.mul_one, List.nil_append, List.cons_append, List.getElem?_toArray, List.getElem?_cons_zero, List.getElem?_cons_succ, cells_int, cells_bool, cells_string, 
      cells_slice, cells_pointer, cells_agg, one_int, one_bool, one_string, one_slice, one_pointer, List.setIfInBounds_toArray, List.set_cons_zero, List.set_cons_succ, ↓xSq_r, ↓xPur_s, ↓xRd_s, ↓xRe_s, ↓xDet_s, ↓xDet_ld, 
      ↓xDet_ld2, ↓xDet_ld3, ↓xDet_ld4, World.size_drew, Nat.zero_add, Nat.add_zero, cell_drew, frozen_drew, cell_set_eq, cell_set_o, cell_set_b, Option.map_some, World.frozen?_setCell, decide_true, decide_false, List.not_mem_nil, 
      not_false_eq_true, ↓xGuard_tt, Bool.not_true, Bool.not_false, ←decide_not, ↓ld_2, ↓ld_3, ↓ld_26, ↓ld_29, ↓ld_30, ↓fa_32_0, ↓fa_32_1, ↓fa_32_2, ↓fa_32_3, ↓fa_32_4, ↓bd_28, ↓ia_22, ↓ln_22, r3]
      refine loamref5_Raw_call (Yld.mono (rRaw_spec l[k].b _ _ v1 (hxk.rb.ext0 X1) (by omega) hxk.nb hxk.cb) ?_)
      intro u2 v2 hU
      simp (disch := (first | omega | decide | (simp only [World.size_alloc, World.size_setCell, World.size_drew, List.mem_cons, List.not_mem_nil, or_false, not_false_eq_true] <;> omega) | fail)) only [↓xBox_r, ↓loadK_some, ↓loadsK_s, ↓loadsK_n, ↓loadsR_s, ↓loadsR_n, ↓storesK_s, ↓storesK_n, setCells_c, setCells_n, World.setCell_alloc_at, World.setCell_alloc_past, World.cell?_alloc_at, World.cell?_alloc_past, 
      World.frozen?_alloc_at, World.frozen?_alloc_past, World.size_alloc, ↓xPick_t, ↓xPick_f, ↓xGuard_tt, ↓xGuard_ff, ↓xGuard_tf, ↓xGuard_ft, ↓xGuard_u, ↓xNil_r, Option.isNone_some, Option.isNone_none, ↓xIf_t, tick_eq, tickV_eq, ne_eq, 
      dlt_t, dlt_f, dle_t, dle_f, deq_t, deq_f, dne_t, dne_f, not_true_eq_false, Int.reduceAdd, Int.reduceSub, Int.reduceMul, Int.reduceEq, Int.reduceLT, Int.reduceLE, Bool.false_and, Bool.true_and, Bool.and_true, 
      Bool.and_false, ↓xBin_add', ↓xBin_sub', ↓xBin_mul', ↓xBin_quo', ↓xBin_rem', wrap_in, ↓xIf_f, ↓xIf_tt, ↓xEx0, ↓xEx1, ↓xEx2, ↓xEx3, ↓xBin_eqs, ↓xBin_nes, ↓xUn_not, ↓xu8_add, ↓xu8_com, ↓xu8_eql, ↓xu8_neq, ↓xu8_lss, ↓xu16_add, 
      ↓xu16_com, ↓xu16_eql, ↓xu16_neq, ↓xu16_lss, ↓xu32_add, ↓xu32_com, ↓xu32_eql, ↓xu32_neq, ↓xu32_lss, ↓xu64_add, ↓xu64_com, ↓xu64_eql, ↓xu64_neq, ↓xu64_lss, ↓xi64_lss, ↓xi64_eql, ↓xi64_neq, ↓xi64_neg, Int.toNat_natCast, 
      Int.reduceToNat, Nat.reduceMul, Nat.reduceAdd, Nat.reduceSub, Nat.mul_one, List.nil_append, List.cons_append, List.getElem?_toArray, List.getElem?_cons_zero, List.getElem?_cons_succ, cells_int, cells_bool, cells_string, 
      cells_slice, cells_pointer, cells_agg, one_int, one_bool, one_string, one_slice, one_pointer, List.setIfInBounds_toArray, List.set_cons_zero, List.set_cons_succ, ↓xSq_r, ↓xPur_s, ↓xRd_s, ↓xRe_s, ↓xDet_s, ↓xDet_ld, 
      ↓xDet_ld2, ↓xDet_ld3, ↓xDet_ld4, World.size_drew, Nat.zero_add, Nat.add_zero, cell_drew, frozen_drew, cell_set_eq, cell_set_o, cell_set_b, Option.map_some, World.frozen?_setCell, decide_true, decide_false, List.not_mem_nil, 
      not_false_eq_true, ↓xGuard_tt, Bool.not_true, Bool.not_false, ←decide_not, ↓ld_2, ↓ld_3, ↓ld_26, ↓ld_29, ↓ld_30, ↓fa_32_0, ↓fa_32_1, ↓fa_32_2, ↓fa_32_3, ↓fa_32_4, ↓bd_28, ↓ia_22, ↓ln_22, p0, g3, p3]
      refine both_app X1 H1 O1 A1 hI.up hU (by rw [List.length_append]; omega) fun v' w' hI' => ?_
      unfold loamlaw5_CodeBack_j1
      simp (disch := (first | omega | decide | (simp only [World.size_alloc, World.size_setCell, World.size_drew, List.mem_cons, List.not_mem_nil, or_false, not_false_eq_true] <;> omega) | fail)) only [↓xBox_r, ↓loadK_some, ↓loadsK_s, ↓loadsK_n, ↓loadsR_s, ↓loadsR_n, ↓storesK_s, ↓storesK_n, setCells_c, setCells_n, World.setCell_alloc_at, World.setCell_alloc_past, World.cell?_alloc_at, World.cell?_alloc_past, 
      World.frozen?_alloc_at, World.frozen?_alloc_past, World.size_alloc, ↓xPick_t, ↓xPick_f, ↓xGuard_tt, ↓xGuard_ff, ↓xGuard_tf, ↓xGuard_ft, ↓xGuard_u, ↓xNil_r, Option.isNone_some, Option.isNone_none, ↓xIf_t, tick_eq, tickV_eq, ne_eq, 
      dlt_t, dlt_f, dle_t, dle_f, deq_t, deq_f, dne_t, dne_f, not_true_eq_false, Int.reduceAdd, Int.reduceSub, Int.reduceMul, Int.reduceEq, Int.reduceLT, Int.reduceLE, Bool.false_and, Bool.true_and, Bool.and_true, 
      Bool.and_false, ↓xBin_add', ↓xBin_sub', ↓xBin_mul', ↓xBin_quo', ↓xBin_rem', wrap_in, ↓xIf_f, ↓xIf_tt, ↓xEx0, ↓xEx1, ↓xEx2, ↓xEx3, ↓xBin_eqs, ↓xBin_nes, ↓xUn_not, ↓xu8_add, ↓xu8_com, ↓xu8_eql, ↓xu8_neq, ↓xu8_lss, ↓xu16_add, 
      ↓xu16_com, ↓xu16_eql, ↓xu16_neq, ↓xu16_lss, ↓xu32_add, ↓xu32_com, ↓xu32_eql, ↓xu32_neq, ↓xu32_lss, ↓xu64_add, ↓xu64_com, ↓xu64_eql, ↓xu64_neq, ↓xu64_lss, ↓xi64_lss, ↓xi64_eql, ↓xi64_neq, ↓xi64_neg, Int.toNat_natCast, 
      Int.reduceToNat, Nat.reduceMul, Nat.reduceAdd, Nat.reduceSub, Nat.mul_one, List.nil_append, List.cons_append, List.getElem?_toArray, List.getElem?_cons_zero, List.getElem?_cons_succ, cells_int, cells_bool, cells_string, 
      cells_slice, cells_pointer, cells_agg, one_int, one_bool, one_string, one_slice, one_pointer, List.setIfInBounds_toArray, List.set_cons_zero, List.set_cons_succ, ↓xSq_r, ↓xPur_s, ↓xRd_s, ↓xRe_s, ↓xDet_s, ↓xDet_ld, 
      ↓xDet_ld2, ↓xDet_ld3, ↓xDet_ld4, World.size_drew, Nat.zero_add, Nat.add_zero, cell_drew, frozen_drew, cell_set_eq, cell_set_o, cell_set_b, Option.map_some, World.frozen?_setCell, decide_true, decide_false, List.not_mem_nil, 
      not_false_eq_true, ↓xGuard_tt, Bool.not_true, Bool.not_false, ←decide_not, ↓ld_2, ↓ld_3, ↓ld_26, ↓ld_29, ↓ld_30, ↓fa_32_0, ↓fa_32_1, ↓fa_32_2, ↓fa_32_3, ↓fa_32_4, ↓bd_28, ↓ia_22, ↓ln_22, p0, g3, p3]
      exact hnx _ _ ⟨s1, v', rfl, by rw [htk]; exact hI'⟩
    by_cases g4 : l[k].op = 4
    · have hi : itemB l[k] = uintB (BitVec.ofNat 64 l[k].ws.length) ++ wordsB l[k].ws := by unfold itemB; rw [if_neg g1, if_neg g2, if_neg g3, if_pos g4]
      rw [hi] at htk hiB
      rw [List.length_append] at hiB
      simp (disch := (first | omega | decide | (simp only [World.size_alloc, World.size_setCell, World.size_drew, List.mem_cons, List.not_mem_nil, or_false, not_false_eq_true] <;> omega) | fail)) only [↓xBox_r, ↓loadK_some, ↓loadsK_s, ↓loadsK_n, ↓loadsR_s, ↓loadsR_n, ↓storesK_s, ↓storesK_n, setCells_c, setCells_n, World.setCell_alloc_at, World.setCell_alloc_past, World.cell?_alloc_at, World.cell?_alloc_past, 
      World.frozen?_alloc_at, World.frozen?_alloc_past, World.size_alloc, ↓xPick_t, ↓xPick_f, ↓xGuard_tt, ↓xGuard_ff, ↓xGuard_tf, ↓xGuard_ft, ↓xGuard_u, ↓xNil_r, Option.isNone_some, Option.isNone_none, ↓xIf_t, tick_eq, tickV_eq, ne_eq, 
      dlt_t, dlt_f, dle_t, dle_f, deq_t, deq_f, dne_t, dne_f, not_true_eq_false, Int.reduceAdd, Int.reduceSub, Int.reduceMul, Int.reduceEq, Int.reduceLT, Int.reduceLE, Bool.false_and, Bool.true_and, Bool.and_true, 
      Bool.and_false, ↓xBin_add', ↓xBin_sub', ↓xBin_mul', ↓xBin_quo', ↓xBin_rem', wrap_in, ↓xIf_f, ↓xIf_tt, ↓xEx0, ↓xEx1, ↓xEx2, ↓xEx3, ↓xBin_eqs, ↓xBin_nes, ↓xUn_not, ↓xu8_add, ↓xu8_com, ↓xu8_eql, ↓xu8_neq, ↓xu8_lss, ↓xu16_add, 
      ↓xu16_com, ↓xu16_eql, ↓xu16_neq, ↓xu16_lss, ↓xu32_add, ↓xu32_com, ↓xu32_eql, ↓xu32_neq, ↓xu32_lss, ↓xu64_add, ↓xu64_com, ↓xu64_eql, ↓xu64_neq, ↓xu64_lss, ↓xi64_lss, ↓xi64_eql, ↓xi64_neq, ↓xi64_neg, Int.toNat_natCast, 
      Int.reduceToNat, Nat.reduceMul, Nat.reduceAdd, Nat.reduceSub, Nat.mul_one, List.nil_append, List.cons_append, List.getElem?_toArray, List.getElem?_cons_zero, List.getElem?_cons_succ, cells_int, cells_bool, cells_string, 
      cells_slice, cells_pointer, cells_agg, one_int, one_bool, one_string, one_slice, one_pointer, List.setIfInBounds_toArray, List.set_cons_zero, List.set_cons_succ, ↓xSq_r, ↓xPur_s, ↓xRd_s, ↓xRe_s, ↓xDet_s, ↓xDet_ld, 
      ↓xDet_ld2, ↓xDet_ld3, ↓xDet_ld4, World.size_drew, Nat.zero_add, Nat.add_zero, cell_drew, frozen_drew, cell_set_eq, cell_set_o, cell_set_b, Option.map_some, World.frozen?_setCell, decide_true, decide_false, List.not_mem_nil, 
      not_false_eq_true, ↓xGuard_tt, Bool.not_true, Bool.not_false, ←decide_not, ↓ld_2, ↓ld_3, ↓ld_26, ↓ld_29, ↓ld_30, ↓fa_32_0, ↓fa_32_1, ↓fa_32_2, ↓fa_32_3, ↓fa_32_4, ↓bd_28, ↓ia_22, ↓ln_22, p0, g4, p4]
      refine codec_Enc_Words_call (Yld.mono (Enc_Words_spec l[k].ws _ _ hI.enc (by omega) (hxk.rw.ext0 hI.ext) hlocM.2) ?_)
      rintro u1 v1 ⟨rfl, T1⟩
      obtain ⟨s1, X1, H1, O1, A1⟩ := hI.put T1
      have r4 := X1.cell0 q4
      simp (disch := (first | omega | decide | (simp only [World.size_alloc, World.size_setCell, World.size_drew, List.mem_cons, List.not_mem_nil, or_false, not_false_eq_true] <;> omega) | fail)) only [↓xBox_r, ↓loadK_some, ↓loadsK_s, ↓loadsK_n, ↓loadsR_s, ↓loadsR_n, ↓storesK_s, ↓storesK_n, setCells_c, setCells_n, World.setCell_alloc_at, World.setCell_alloc_past, World.cell?_alloc_at, World.cell?_alloc_past, 
      World.frozen?_alloc_at, World.frozen?_alloc_past, World.size_alloc, ↓xPick_t, ↓xPick_f, ↓xGuard_tt, ↓xGuard_ff, ↓xGuard_tf, ↓xGuard_ft, ↓xGuard_u, ↓xNil_r, Option.isNone_some, Option.isNone_none, ↓xIf_t, tick_eq, tickV_eq, ne_eq, 
      dlt_t, dlt_f, dle_t, dle_f, deq_t, deq_f, dne_t, dne_f, not_true_eq_false, Int.reduceAdd, Int.reduceSub, Int.reduceMul, Int.reduceEq, Int.reduceLT, Int.reduceLE, Bool.false_and, Bool.true_and, Bool.and_true, 
      Bool.and_false, ↓xBin_add', ↓xBin_sub', ↓xBin_mul', ↓xBin_quo', ↓xBin_rem', wrap_in, ↓xIf_f, ↓xIf_tt, ↓xEx0, ↓xEx1, ↓xEx2, ↓xEx3, ↓xBin_eqs, ↓xBin_nes, ↓xUn_not, ↓xu8_add, ↓xu8_com, ↓xu8_eql, ↓xu8_neq, ↓xu8_lss, ↓xu16_add, 
      ↓xu16_com, ↓xu16_eql, ↓xu16_neq, ↓xu16_lss, ↓xu32_add, ↓xu32_com, ↓xu32_eql, ↓xu32_neq, ↓xu32_lss, ↓xu64_add, ↓xu64_com, ↓xu64_eql, ↓xu64_neq, ↓xu64_lss, ↓xi64_lss, ↓xi64_eql, ↓xi64_neq, ↓xi64_neg, Int.toNat_natCast, 
      Int.reduceToNat, Nat.reduceMul, Nat.reduceAdd, Nat.reduceSub, Nat.mul_one, List.nil_append, List.cons_append, List.getElem?_toArray, List.getElem?_cons_zero, List.getElem?_cons_succ, cells_int, cells_bool, cells_string, 
      cells_slice, cells_pointer, cells_agg, one_int, one_bool, one_string, one_slice, one_pointer, List.setIfInBounds_toArray, List.set_cons_zero, List.set_cons_succ, ↓xSq_r, ↓xPur_s, ↓xRd_s, ↓xRe_s, ↓xDet_s, ↓xDet_ld, 
      ↓xDet_ld2, ↓xDet_ld3, ↓xDet_ld4, World.size_drew, Nat.zero_add, Nat.add_zero, cell_drew, frozen_drew, cell_set_eq, cell_set_o, cell_set_b, Option.map_some, World.frozen?_setCell, decide_true, decide_false, List.not_mem_nil, 
      not_false_eq_true, ↓xGuard_tt, Bool.not_true, Bool.not_false, ←decide_not, ↓ld_2, ↓ld_3, ↓ld_26, ↓ld_29, ↓ld_30, ↓fa_32_0, ↓fa_32_1, ↓fa_32_2, ↓fa_32_3, ↓fa_32_4, ↓bd_28, ↓ia_22, ↓ln_22, r4]
      refine loamref5_Words_call (Yld.mono (rWords_spec l[k].ws _ _ v1 (hxk.rw.ext0 X1) (by omega)) ?_)
      intro u2 v2 hU
      simp (disch := (first | omega | decide | (simp only [World.size_alloc, World.size_setCell, World.size_drew, List.mem_cons, List.not_mem_nil, or_false, not_false_eq_true] <;> omega) | fail)) only [↓xBox_r, ↓loadK_some, ↓loadsK_s, ↓loadsK_n, ↓loadsR_s, ↓loadsR_n, ↓storesK_s, ↓storesK_n, setCells_c, setCells_n, World.setCell_alloc_at, World.setCell_alloc_past, World.cell?_alloc_at, World.cell?_alloc_past, 
      World.frozen?_alloc_at, World.frozen?_alloc_past, World.size_alloc, ↓xPick_t, ↓xPick_f, ↓xGuard_tt, ↓xGuard_ff, ↓xGuard_tf, ↓xGuard_ft, ↓xGuard_u, ↓xNil_r, Option.isNone_some, Option.isNone_none, ↓xIf_t, tick_eq, tickV_eq, ne_eq, 
      dlt_t, dlt_f, dle_t, dle_f, deq_t, deq_f, dne_t, dne_f, not_true_eq_false, Int.reduceAdd, Int.reduceSub, Int.reduceMul, Int.reduceEq, Int.reduceLT, Int.reduceLE, Bool.false_and, Bool.true_and, Bool.and_true, 
      Bool.and_false, ↓xBin_add', ↓xBin_sub', ↓xBin_mul', ↓xBin_quo', ↓xBin_rem', wrap_in, ↓xIf_f, ↓xIf_tt, ↓xEx0, ↓xEx1, ↓xEx2, ↓xEx3, ↓xBin_eqs, ↓xBin_nes, ↓xUn_not, ↓xu8_add, ↓xu8_com, ↓xu8_eql, ↓xu8_neq, ↓xu8_lss, ↓xu16_add, 
      ↓xu16_com, ↓xu16_eql, ↓xu16_neq, ↓xu16_lss, ↓xu32_add, ↓xu32_com, ↓xu32_eql, ↓xu32_neq, ↓xu32_lss, ↓xu64_add, ↓xu64_com, ↓xu64_eql, ↓xu64_neq, ↓xu64_lss, ↓xi64_lss, ↓xi64_eql, ↓xi64_neq, ↓xi64_neg, Int.toNat_natCast, 
      Int.reduceToNat, Nat.reduceMul, Nat.reduceAdd, Nat.reduceSub, Nat.mul_one, List.nil_append, List.cons_append, List.getElem?_toArray, List.getElem?_cons_zero, List.getElem?_cons_succ, cells_int, cells_bool, cells_string, 
      cells_slice, cells_pointer, cells_agg, one_int, one_bool, one_string, one_slice, one_pointer, List.setIfInBounds_toArray, List.set_cons_zero, List.set_cons_succ, ↓xSq_r, ↓xPur_s, ↓xRd_s, ↓xRe_s, ↓xDet_s, ↓xDet_ld, 
      ↓xDet_ld2, ↓xDet_ld3, ↓xDet_ld4, World.size_drew, Nat.zero_add, Nat.add_zero, cell_drew, frozen_drew, cell_set_eq, cell_set_o, cell_set_b, Option.map_some, World.frozen?_setCell, decide_true, decide_false, List.not_mem_nil, 
      not_false_eq_true, ↓xGuard_tt, Bool.not_true, Bool.not_false, ←decide_not, ↓ld_2, ↓ld_3, ↓ld_26, ↓ld_29, ↓ld_30, ↓fa_32_0, ↓fa_32_1, ↓fa_32_2, ↓fa_32_3, ↓fa_32_4, ↓bd_28, ↓ia_22, ↓ln_22, p0, g4, p4]
      refine both_app X1 H1 O1 A1 hI.up hU (by rw [List.length_append]; omega) fun v' w' hI' => ?_
      unfold loamlaw5_CodeBack_j1
      simp (disch := (first | omega | decide | (simp only [World.size_alloc, World.size_setCell, World.size_drew, List.mem_cons, List.not_mem_nil, or_false, not_false_eq_true] <;> omega) | fail)) only [↓xBox_r, ↓loadK_some, ↓loadsK_s, ↓loadsK_n, ↓loadsR_s, ↓loadsR_n, ↓storesK_s, ↓storesK_n, setCells_c, setCells_n, World.setCell_alloc_at, World.setCell_alloc_past, World.cell?_alloc_at, World.cell?_alloc_past, 
      World.frozen?_alloc_at, World.frozen?_alloc_past, World.size_alloc, ↓xPick_t, ↓xPick_f, ↓xGuard_tt, ↓xGuard_ff, ↓xGuard_tf, ↓xGuard_ft, ↓xGuard_u, ↓xNil_r, Option.isNone_some, Option.isNone_none, ↓xIf_t, tick_eq, tickV_eq, ne_eq, 
      dlt_t, dlt_f, dle_t, dle_f, deq_t, deq_f, dne_t, dne_f, not_true_eq_false, Int.reduceAdd, Int.reduceSub, Int.reduceMul, Int.reduceEq, Int.reduceLT, Int.reduceLE, Bool.false_and, Bool.true_and, Bool.and_true, 
      Bool.and_false, ↓xBin_add', ↓xBin_sub', ↓xBin_mul', ↓xBin_quo', ↓xBin_rem', wrap_in, ↓xIf_f, ↓xIf_tt, ↓xEx0, ↓xEx1, ↓xEx2, ↓xEx3, ↓xBin_eqs, ↓xBin_nes, ↓xUn_not, ↓xu8_add, ↓xu8_com, ↓xu8_eql, ↓xu8_neq, ↓xu8_lss, ↓xu16_add, 
      ↓xu16_com, ↓xu16_eql, ↓xu16_neq, ↓xu16_lss, ↓xu32_add, ↓xu32_com, ↓xu32_eql, ↓xu32_neq, ↓xu32_lss, ↓xu64_add, ↓xu64_com, ↓xu64_eql, ↓xu64_neq, ↓xu64_lss, ↓xi64_lss, ↓xi64_eql, ↓xi64_neq, ↓xi64_neg, Int.toNat_natCast, 
      Int.reduceToNat, Nat.reduceMul, Nat.reduceAdd, Nat.reduceSub, Nat.mul_one, List.nil_append, List.cons_append, List.getElem?_toArray, List.getElem?_cons_zero, List.getElem?_cons_succ, cells_int, cells_bool, cells_string, 
      cells_slice, cells_pointer, cells_agg, one_int, one_bool, one_string, one_slice, one_pointer, List.setIfInBounds_toArray, List.set_cons_zero, List.set_cons_succ, ↓xSq_r, ↓xPur_s, ↓xRd_s, ↓xRe_s, ↓xDet_s, ↓xDet_ld, 
      ↓xDet_ld2, ↓xDet_ld3, ↓xDet_ld4, World.size_drew, Nat.zero_add, Nat.add_zero, cell_drew, frozen_drew, cell_set_eq, cell_set_o, cell_set_b, Option.map_some, World.frozen?_setCell, decide_true, decide_false, List.not_mem_nil, 
      not_false_eq_true, ↓xGuard_tt, Bool.not_true, Bool.not_false, ←decide_not, ↓ld_2, ↓ld_3, ↓ld_26, ↓ld_29, ↓ld_30, ↓fa_32_0, ↓fa_32_1, ↓fa_32_2, ↓fa_32_3, ↓fa_32_4, ↓bd_28, ↓ia_22, ↓ln_22, p0, g4, p4]
      exact hnx _ _ ⟨s1, v', rfl, by rw [htk]; exact hI'⟩
    · have hi : itemB l[k] = [] := by unfold itemB; rw [if_neg g1, if_neg g2, if_neg g3, if_neg g4]
      rw [hi, List.append_nil] at htk
      have d1 : decide (l[k].op = 1) = false := decide_eq_false g1
      have d2 : decide (l[k].op = 2) = false := decide_eq_false g2
      have d3 : decide (l[k].op = 3) = false := decide_eq_false g3
      have d4 : decide (l[k].op = 4) = false := decide_eq_false g4
      simp (disch := (first | omega | decide | (simp only [World.size_alloc, World.size_setCell, World.size_drew, List.mem_cons, List.not_mem_nil, or_false, not_false_eq_true] <;> omega) | fail)) only [↓xBox_r, ↓loadK_some, ↓loadsK_s, ↓loadsK_n, ↓loadsR_s, ↓loadsR_n, ↓storesK_s, ↓storesK_n, setCells_c, setCells_n, World.setCell_alloc_at, World.setCell_alloc_past, World.cell?_alloc_at, World.cell?_alloc_past, 
      World.frozen?_alloc_at, World.frozen?_alloc_past, World.size_alloc, ↓xPick_t, ↓xPick_f, ↓xGuard_tt, ↓xGuard_ff, ↓xGuard_tf, ↓xGuard_ft, ↓xGuard_u, ↓xNil_r, Option.isNone_some, Option.isNone_none, ↓xIf_t, tick_eq, tickV_eq, ne_eq, 
      dlt_t, dlt_f, dle_t, dle_f, deq_t, deq_f, dne_t, dne_f, not_true_eq_false, Int.reduceAdd, Int.reduceSub, Int.reduceMul, Int.reduceEq, Int.reduceLT, Int.reduceLE, Bool.false_and, Bool.true_and, Bool.and_true, 
      Bool.and_false, ↓xBin_add', ↓xBin_sub', ↓xBin_mul', ↓xBin_quo', ↓xBin_rem', wrap_in, ↓xIf_f, ↓xIf_tt, ↓xEx0, ↓xEx1, ↓xEx2, ↓xEx3, ↓xBin_eqs, ↓xBin_nes, ↓xUn_not, ↓xu8_add, ↓xu8_com, ↓xu8_eql, ↓xu8_neq, ↓xu8_lss, ↓xu16_add, 
      ↓xu16_com, ↓xu16_eql, ↓xu16_neq, ↓xu16_lss, ↓xu32_add, ↓xu32_com, ↓xu32_eql, ↓xu32_neq, ↓xu32_lss, ↓xu64_add, ↓xu64_com, ↓xu64_eql, ↓xu64_neq, ↓xu64_lss, ↓xi64_lss, ↓xi64_eql, ↓xi64_neq, ↓xi64_neg, Int.toNat_natCast, 
      Int.reduceToNat, Nat.reduceMul, Nat.reduceAdd, Nat.reduceSub, Nat.mul_one, List.nil_append, List.cons_append, List.getElem?_toArray, List.getElem?_cons_zero, List.getElem?_cons_succ, cells_int, cells_bool, cells_string, 
      cells_slice, cells_pointer, cells_agg, one_int, one_bool, one_string, one_slice, one_pointer, List.setIfInBounds_toArray, List.set_cons_zero, List.set_cons_succ, ↓xSq_r, ↓xPur_s, ↓xRd_s, ↓xRe_s, ↓xDet_s, ↓xDet_ld, 
      ↓xDet_ld2, ↓xDet_ld3, ↓xDet_ld4, World.size_drew, Nat.zero_add, Nat.add_zero, cell_drew, frozen_drew, cell_set_eq, cell_set_o, cell_set_b, Option.map_some, World.frozen?_setCell, decide_true, decide_false, List.not_mem_nil, 
      not_false_eq_true, ↓xGuard_tt, Bool.not_true, Bool.not_false, ←decide_not, ↓ld_2, ↓ld_3, ↓ld_26, ↓ld_29, ↓ld_30, ↓fa_32_0, ↓fa_32_1, ↓fa_32_2, ↓fa_32_3, ↓fa_32_4, ↓bd_28, ↓ia_22, ↓ln_22, p0, d1, d2, d3, d4]
      unfold loamlaw5_CodeBack_j1
      simp (disch := (first | omega | decide | (simp only [World.size_alloc, World.size_setCell, World.size_drew, List.mem_cons, List.not_mem_nil, or_false, not_false_eq_true] <;> omega) | fail)) only [↓xBox_r, ↓loadK_some, ↓loadsK_s, ↓loadsK_n, ↓loadsR_s, ↓loadsR_n, ↓storesK_s, ↓storesK_n, setCells_c, setCells_n, World.setCell_alloc_at, World.setCell_alloc_past, World.cell?_alloc_at, World.cell?_alloc_past, 
      World.frozen?_alloc_at, World.frozen?_alloc_past, World.size_alloc, ↓xPick_t, ↓xPick_f, ↓xGuard_tt, ↓xGuard_ff, ↓xGuard_tf, ↓xGuard_ft, ↓xGuard_u, ↓xNil_r, Option.isNone_some, Option.isNone_none, ↓xIf_t, tick_eq, tickV_eq, ne_eq, 
      dlt_t, dlt_f, dle_t, dle_f, deq_t, deq_f, dne_t, dne_f, not_true_eq_false, Int.reduceAdd, Int.reduceSub, Int.reduceMul, Int.reduceEq, Int.reduceLT, Int.reduceLE, Bool.false_and, Bool.true_and, Bool.and_true, 
      Bool.and_false, ↓xBin_add', ↓xBin_sub', ↓xBin_mul', ↓xBin_quo', ↓xBin_rem', wrap_in, ↓xIf_f, ↓xIf_tt, ↓xEx0, ↓xEx1, ↓xEx2, ↓xEx3, ↓xBin_eqs, ↓xBin_nes, ↓xUn_not, ↓xu8_add, ↓xu8_com, ↓xu8_eql, ↓xu8_neq, ↓xu8_lss, ↓xu16_add, 
      ↓xu16_com, ↓xu16_eql, ↓xu16_neq, ↓xu16_lss, ↓xu32_add, ↓xu32_com, ↓xu32_eql, ↓xu32_neq, ↓xu32_lss, ↓xu64_add, ↓xu64_com, ↓xu64_eql, ↓xu64_neq, ↓xu64_lss, ↓xi64_lss, ↓xi64_eql, ↓xi64_neq, ↓xi64_neg, Int.toNat_natCast, 
      Int.reduceToNat, Nat.reduceMul, Nat.reduceAdd, Nat.reduceSub, Nat.mul_one, List.nil_append, List.cons_append, List.getElem?_toArray, List.getElem?_cons_zero, List.getElem?_cons_succ, cells_int, cells_bool, cells_string, 
      cells_slice, cells_pointer, cells_agg, one_int, one_bool, one_string, one_slice, one_pointer, List.setIfInBounds_toArray, List.set_cons_zero, List.set_cons_succ, ↓xSq_r, ↓xPur_s, ↓xRd_s, ↓xRe_s, ↓xDet_s, ↓xDet_ld, 
      ↓xDet_ld2, ↓xDet_ld3, ↓xDet_ld4, World.size_drew, Nat.zero_add, Nat.add_zero, cell_drew, frozen_drew, cell_set_eq, cell_set_o, cell_set_b, Option.map_some, World.frozen?_setCell, decide_true, decide_false, List.not_mem_nil, 
      not_false_eq_true, ↓xGuard_tt, Bool.not_true, Bool.not_false, ←decide_not, ↓ld_2, ↓ld_3, ↓ld_26, ↓ld_29, ↓ld_30, ↓fa_32_0, ↓fa_32_1, ↓fa_32_2, ↓fa_32_3, ↓fa_32_4, ↓bd_28, ↓ia_22, ↓ln_22, p0, d1, d2, d3, d4]
      exact hnx _ _ ⟨s, v, rfl, by rw [htk]; exact hI⟩
  · rintro u v0 ⟨s, v, hu, hI⟩ nxt
    simp only [List.map_cons, List.map_nil, List.cons.injEq, and_true] at hu
    rw [hu.1, hu.2]
    rw [List.take_length] at hI
    have hB := hbig l.length
    rw [List.take_length] at hB
    generalize hL : allB l = L at *
    obtain ⟨av, cv, rfl, hcv, _, hnv, hrv, _⟩ := hI.own.slice
    unfold loamlaw5_CodeBack_l1
    have s0 := strB (c := cv) rfl (hrv.ext0 (Ext.drew [] v0))
    simp (disch := (first | omega | decide | (simp only [World.size_alloc, World.size_setCell, World.size_drew, List.mem_cons, List.not_mem_nil, or_false, not_false_eq_true] <;> omega) | fail)) only [↓xBox_r, ↓loadK_some, ↓loadsK_s, ↓loadsK_n, ↓loadsR_s, ↓loadsR_n, ↓storesK_s, ↓storesK_n, setCells_c, setCells_n, World.setCell_alloc_at, World.setCell_alloc_past, World.cell?_alloc_at, World.cell?_alloc_past, 
      World.frozen?_alloc_at, World.frozen?_alloc_past, World.size_alloc, ↓xPick_t, ↓xPick_f, ↓xGuard_tt, ↓xGuard_ff, ↓xGuard_tf, ↓xGuard_ft, ↓xGuard_u, ↓xNil_r, Option.isNone_some, Option.isNone_none, ↓xIf_t, tick_eq, tickV_eq, ne_eq, 
      dlt_t, dlt_f, dle_t, dle_f, deq_t, deq_f, dne_t, dne_f, not_true_eq_false, Int.reduceAdd, Int.reduceSub, Int.reduceMul, Int.reduceEq, Int.reduceLT, Int.reduceLE, Bool.false_and, Bool.true_and, Bool.and_true, 
      Bool.and_false, ↓xBin_add', ↓xBin_sub', ↓xBin_mul', ↓xBin_quo', ↓xBin_rem', wrap_in, ↓xIf_f, ↓xIf_tt, ↓xEx0, ↓xEx1, ↓xEx2, ↓xEx3, ↓xBin_eqs, ↓xBin_nes, ↓xUn_not, ↓xu8_add, ↓xu8_com, ↓xu8_eql, ↓xu8_neq, ↓xu8_lss, ↓xu16_add, 
      ↓xu16_com, ↓xu16_eql, ↓xu16_neq, ↓xu16_lss, ↓xu32_add, ↓xu32_com, ↓xu32_eql, ↓xu32_neq, ↓xu32_lss, ↓xu64_add, ↓xu64_com, ↓xu64_eql, ↓xu64_neq, ↓xu64_lss, ↓xi64_lss, ↓xi64_eql, ↓xi64_neq, ↓xi64_neg, Int.toNat_natCast, 
      Int.reduceToNat, Nat.reduceMul, Nat.reduceAdd, Nat.reduceSub, Nat.mul_one, List.nil_append, List.cons_append, List.getElem?_toArray, List.getElem?_cons_zero, List.getElem?_cons_succ, cells_int, cells_bool, cells_string, 
      cells_slice, cells_pointer, cells_agg, one_int, one_bool, one_string, one_slice, one_pointer, List.setIfInBounds_toArray, List.set_cons_zero, List.set_cons_succ, ↓xSq_r, ↓xPur_s, ↓xRd_s, ↓xRe_s, ↓xDet_s, ↓xDet_ld, 
      ↓xDet_ld2, ↓xDet_ld3, ↓xDet_ld4, World.size_drew, Nat.zero_add, Nat.add_zero, cell_drew, frozen_drew, cell_set_eq, cell_set_o, cell_set_b, Option.map_some, World.frozen?_setCell, decide_true, decide_false, List.not_mem_nil, 
      not_false_eq_true, ↓xGuard_tt, Bool.not_true, Bool.not_false, ←decide_not, ↓ld_2, ↓ld_3, ↓ld_26, ↓ld_29, ↓ld_30, ↓fa_32_0, ↓fa_32_1, ↓fa_32_2, ↓fa_32_3, ↓fa_32_4, ↓bd_28, ↓ia_22, ↓ln_22, s0]
    have H1 := hI.enc.ext0 (Ext.drew [] v0)
    refine codec_Enc_Bytes_call (Yld.mono (Enc_Bytes_spec H1 (by omega)) ?_)
    rintro u1 v1 ⟨F1, a1, c1, rfl, hc1, hn1, R1, N1⟩
    have s1 := strB (c := cv) rfl ((hrv.ext0 (Ext.drew [] v0)).ext0 F1)
    have s2 := strB (c := c1) rfl R1
    have dne : decide (strOf L ≠ strOf L) = false := decide_eq_false (fun h => h rfl)
    simp (disch := (first | omega | decide | (simp only [World.size_alloc, World.size_setCell, World.size_drew, List.mem_cons, List.not_mem_nil, or_false, not_false_eq_true] <;> omega) | fail)) only [↓xBox_r, ↓loadK_some, ↓loadsK_s, ↓loadsK_n, ↓loadsR_s, ↓loadsR_n, ↓storesK_s, ↓storesK_n, setCells_c, setCells_n, World.setCell_alloc_at, World.setCell_alloc_past, World.cell?_alloc_at, World.cell?_alloc_past, 
      World.frozen?_alloc_at, World.frozen?_alloc_past, World.size_alloc, ↓xPick_t, ↓xPick_f, ↓xGuard_tt, ↓xGuard_ff, ↓xGuard_tf, ↓xGuard_ft, ↓xGuard_u, ↓xNil_r, Option.isNone_some, Option.isNone_none, ↓xIf_t, tick_eq, tickV_eq, ne_eq, 
      dlt_t, dlt_f, dle_t, dle_f, deq_t, deq_f, dne_t, dne_f, not_true_eq_false, Int.reduceAdd, Int.reduceSub, Int.reduceMul, Int.reduceEq, Int.reduceLT, Int.reduceLE, Bool.false_and, Bool.true_and, Bool.and_true, 
      Bool.and_false, ↓xBin_add', ↓xBin_sub', ↓xBin_mul', ↓xBin_quo', ↓xBin_rem', wrap_in, ↓xIf_f, ↓xIf_tt, ↓xEx0, ↓xEx1, ↓xEx2, ↓xEx3, ↓xBin_eqs, ↓xBin_nes, ↓xUn_not, ↓xu8_add, ↓xu8_com, ↓xu8_eql, ↓xu8_neq, ↓xu8_lss, ↓xu16_add, 
      ↓xu16_com, ↓xu16_eql, ↓xu16_neq, ↓xu16_lss, ↓xu32_add, ↓xu32_com, ↓xu32_eql, ↓xu32_neq, ↓xu32_lss, ↓xu64_add, ↓xu64_com, ↓xu64_eql, ↓xu64_neq, ↓xu64_lss, ↓xi64_lss, ↓xi64_eql, ↓xi64_neq, ↓xi64_neg, Int.toNat_natCast, 
      Int.reduceToNat, Nat.reduceMul, Nat.reduceAdd, Nat.reduceSub, Nat.mul_one, List.nil_append, List.cons_append, List.getElem?_toArray, List.getElem?_cons_zero, List.getElem?_cons_succ, cells_int, cells_bool, cells_string, 
      cells_slice, cells_pointer, cells_agg, one_int, one_bool, one_string, one_slice, one_pointer, List.setIfInBounds_toArray, List.set_cons_zero, List.set_cons_succ, ↓xSq_r, ↓xPur_s, ↓xRd_s, ↓xRe_s, ↓xDet_s, ↓xDet_ld, 
      ↓xDet_ld2, ↓xDet_ld3, ↓xDet_ld4, World.size_drew, Nat.zero_add, Nat.add_zero, cell_drew, frozen_drew, cell_set_eq, cell_set_o, cell_set_b, Option.map_some, World.frozen?_setCell, decide_true, decide_false, List.not_mem_nil, 
      not_false_eq_true, ↓xGuard_tt, Bool.not_true, Bool.not_false, ←decide_not, ↓ld_2, ↓ld_3, ↓ld_26, ↓ld_29, ↓ld_30, ↓fa_32_0, ↓fa_32_1, ↓fa_32_2, ↓fa_32_3, ↓fa_32_4, ↓bd_28, ↓ia_22, ↓ln_22, s1, s2, dne]
    have X1 := (hI.ext.drew').trans F1
    refine codec_Of_call (Yld.mono (Dec_Of_spec L av L.length cv v1 rfl (by omega) ((hrv.ext0 (Ext.drew [] v0)).ext0 F1) hnv) ?_)
    rintro u2 v2 ⟨F2, gd, ad, cd, rfl, hgd, D2⟩
    have X2 := X1.trans F2
    have hz2 := X1.size
    simp (disch := (first | omega | decide | (simp only [World.size_alloc, World.size_setCell, World.size_drew, List.mem_cons, List.not_mem_nil, or_false, not_false_eq_true] <;> omega) | fail)) only [↓xBox_r, ↓loadK_some, ↓loadsK_s, ↓loadsK_n, ↓loadsR_s, ↓loadsR_n, ↓storesK_s, ↓storesK_n, setCells_c, setCells_n, World.setCell_alloc_at, World.setCell_alloc_past, World.cell?_alloc_at, World.cell?_alloc_past, 
      World.frozen?_alloc_at, World.frozen?_alloc_past, World.size_alloc, ↓xPick_t, ↓xPick_f, ↓xGuard_tt, ↓xGuard_ff, ↓xGuard_tf, ↓xGuard_ft, ↓xGuard_u, ↓xNil_r, Option.isNone_some, Option.isNone_none, ↓xIf_t, tick_eq, tickV_eq, ne_eq, 
      dlt_t, dlt_f, dle_t, dle_f, deq_t, deq_f, dne_t, dne_f, not_true_eq_false, Int.reduceAdd, Int.reduceSub, Int.reduceMul, Int.reduceEq, Int.reduceLT, Int.reduceLE, Bool.false_and, Bool.true_and, Bool.and_true, 
      Bool.and_false, ↓xBin_add', ↓xBin_sub', ↓xBin_mul', ↓xBin_quo', ↓xBin_rem', wrap_in, ↓xIf_f, ↓xIf_tt, ↓xEx0, ↓xEx1, ↓xEx2, ↓xEx3, ↓xBin_eqs, ↓xBin_nes, ↓xUn_not, ↓xu8_add, ↓xu8_com, ↓xu8_eql, ↓xu8_neq, ↓xu8_lss, ↓xu16_add, 
      ↓xu16_com, ↓xu16_eql, ↓xu16_neq, ↓xu16_lss, ↓xu32_add, ↓xu32_com, ↓xu32_eql, ↓xu32_neq, ↓xu32_lss, ↓xu64_add, ↓xu64_com, ↓xu64_eql, ↓xu64_neq, ↓xu64_lss, ↓xi64_lss, ↓xi64_eql, ↓xi64_neq, ↓xi64_neg, Int.toNat_natCast, 
      Int.reduceToNat, Nat.reduceMul, Nat.reduceAdd, Nat.reduceSub, Nat.mul_one, List.nil_append, List.cons_append, List.getElem?_toArray, List.getElem?_cons_zero, List.getElem?_cons_succ, cells_int, cells_bool, cells_string, 
      cells_slice, cells_pointer, cells_agg, one_int, one_bool, one_string, one_slice, one_pointer, List.setIfInBounds_toArray, List.set_cons_zero, List.set_cons_succ, ↓xSq_r, ↓xPur_s, ↓xRd_s, ↓xRe_s, ↓xDet_s, ↓xDet_ld, 
      ↓xDet_ld2, ↓xDet_ld3, ↓xDet_ld4, World.size_drew, Nat.zero_add, Nat.add_zero, cell_drew, frozen_drew, cell_set_eq, cell_set_o, cell_set_b, Option.map_some, World.frozen?_setCell, decide_true, decide_false, List.not_mem_nil, 
      not_false_eq_true, ↓xGuard_tt, Bool.not_true, Bool.not_false, ←decide_not, ↓ld_2, ↓ld_3, ↓ld_26, ↓ld_29, ↓ld_30, ↓fa_32_0, ↓fa_32_1, ↓fa_32_2, ↓fa_32_3, ↓fa_32_4, ↓bd_28, ↓ia_22, ↓ln_22, s0]
    refine xLoop_r l.length (fun k vs w' => vs = [i64 k] ∧ Ext [] w2 w' ∧ ∃ a c, DecIs w' gd a c (allB (l.drop k)) 0) ⟨rfl, X2, ad, cd, by rw [List.drop_zero, hL]; exact D2⟩ ?_ ?_
    · rintro k hk u v3 ⟨hu, X3, a3, c3, D3⟩ nxt hnx
      simp only [List.map_cons, List.map_nil, List.cons.injEq, and_true] at hu
      rw [hu]
      have hxk := hA2.each _ (List.getElem_mem hk)
      have hsz := hfw.2 _ (List.getElem_mem hk)
      obtain ⟨b, o, rfl, hb, q0, q1, q2, q3, q4⟩ := hA2.cell hk
      have p0 := X3.cell0 q0
      have Xd := X3.drew'
      have p1 := Xd.cell0 q1
      have p2 := Xd.cell0 q2
      have p3 := Xd.cell0 q3
      have p4 := Xd.cell0 q4
      have D4 := D3.ext0 (Ext.drew [] v3)
      have hdr := allB_drop hk
      rw [hdr] at D4 D3
      have gup : ∀ x ∈ [gd], w2.heap.size ≤ x := by simp; omega
      unfold loamlaw5_CodeBack_l2
      by_cases g1 : l[k].op = 1
      · have hi : itemB l[k] = uintB l[k].u := by unfold itemB; rw [if_pos g1]
        rw [hi] at D4
        simp (disch := (first | omega | decide | (simp only [World.size_alloc, World.size_setCell, World.size_drew, List.mem_cons, List.not_mem_nil, or_false, not_false_eq_true] <;> omega) | fail)) only [↓xBox_r, ↓loadK_some, ↓loadsK_s, ↓loadsK_n, ↓loadsR_s, ↓loadsR_n, ↓storesK_s, ↓storesK_n, setCells_c, setCells_n, World.setCell_alloc_at, World.setCell_alloc_past, World.cell?_alloc_at, World.cell?_alloc_past, 
      World.frozen?_alloc_at, World.frozen?_alloc_past, World.size_alloc, ↓xPick_t, ↓xPick_f, ↓xGuard_tt, ↓xGuard_ff, ↓xGuard_tf, ↓xGuard_ft, ↓xGuard_u, ↓xNil_r, Option.isNone_some, Option.isNone_none, ↓xIf_t, tick_eq, tickV_eq, ne_eq, 
      dlt_t, dlt_f, dle_t, dle_f, deq_t, deq_f, dne_t, dne_f, not_true_eq_false, Int.reduceAdd, Int.reduceSub, Int.reduceMul, Int.reduceEq, Int.reduceLT, Int.reduceLE, Bool.false_and, Bool.true_and, Bool.and_true, 
      Bool.and_false, ↓xBin_add', ↓xBin_sub', ↓xBin_mul', ↓xBin_quo', ↓xBin_rem', wrap_in, ↓xIf_f, ↓xIf_tt, ↓xEx0, ↓xEx1, ↓xEx2, ↓xEx3, ↓xBin_eqs, ↓xBin_nes, ↓xUn_not, ↓xu8_add, ↓xu8_com, ↓xu8_eql, ↓xu8_neq, ↓xu8_lss, ↓xu16_add, 
      ↓xu16_com, ↓xu16_eql, ↓xu16_neq, ↓xu16_lss, ↓xu32_add, ↓xu32_com, ↓xu32_eql, ↓xu32_neq, ↓xu32_lss, ↓xu64_add, ↓xu64_com, ↓xu64_eql, ↓xu64_neq, ↓xu64_lss, ↓xi64_lss, ↓xi64_eql, ↓xi64_neq, ↓xi64_neg, Int.toNat_natCast, 
      Int.reduceToNat, Nat.reduceMul, Nat.reduceAdd, Nat.reduceSub, Nat.mul_one, List.nil_append, List.cons_append, List.getElem?_toArray, List.getElem?_cons_zero, List.getElem?_cons_succ, cells_int, cells_bool, cells_string, 
      cells_slice, cells_pointer, cells_agg, one_int, one_bool, one_string, one_slice, one_pointer, List.setIfInBounds_toArray, List.set_cons_zero, List.set_cons_succ, ↓xSq_r, ↓xPur_s, ↓xRd_s, ↓xRe_s, ↓xDet_s, ↓xDet_ld, 
      ↓xDet_ld2, ↓xDet_ld3, ↓xDet_ld4, World.size_drew, Nat.zero_add, Nat.add_zero, cell_drew, frozen_drew, cell_set_eq, cell_set_o, cell_set_b, Option.map_some, World.frozen?_setCell, decide_true, decide_false, List.not_mem_nil, 
      not_false_eq_true, ↓xGuard_tt, Bool.not_true, Bool.not_false, ←decide_not, ↓ld_2, ↓ld_3, ↓ld_26, ↓ld_29, ↓ld_30, ↓fa_32_0, ↓fa_32_1, ↓fa_32_2, ↓fa_32_3, ↓fa_32_4, ↓bd_28, ↓ia_22, ↓ln_22, s0, p0, g1, p1]
        refine codec_Dec_Uint_call (Yld.mono (Dec_Uint_spec D4) ?_)
        intro u1 v4 hR
        rw [dec_enc] at hR
        obtain ⟨rfl, F4, D5⟩ := hR
        have X4 := Xd.new F4 gup
        have r1 := X4.cell0 q1
        have de : decide (l[k].u = l[k].u) = true := decide_eq_true rfl
        simp (disch := (first | omega | decide | (simp only [World.size_alloc, World.size_setCell, World.size_drew, List.mem_cons, List.not_mem_nil, or_false, not_false_eq_true] <;> omega) | fail)) only [↓xBox_r, ↓loadK_some, ↓loadsK_s, ↓loadsK_n, ↓loadsR_s, ↓loadsR_n, ↓storesK_s, ↓storesK_n, setCells_c, setCells_n, World.setCell_alloc_at, World.setCell_alloc_past, World.cell?_alloc_at, World.cell?_alloc_past, 
      World.frozen?_alloc_at, World.frozen?_alloc_past, World.size_alloc, ↓xPick_t, ↓xPick_f, ↓xGuard_tt, ↓xGuard_ff, ↓xGuard_tf, ↓xGuard_ft, ↓xGuard_u, ↓xNil_r, Option.isNone_some, Option.isNone_none, ↓xIf_t, tick_eq, tickV_eq, ne_eq, 
      dlt_t, dlt_f, dle_t, dle_f, deq_t, deq_f, dne_t, dne_f, not_true_eq_false, Int.reduceAdd, Int.reduceSub, Int.reduceMul, Int.reduceEq, Int.reduceLT, Int.reduceLE, Bool.false_and, Bool.true_and, Bool.and_true, 
      Bool.and_false, ↓xBin_add', ↓xBin_sub', ↓xBin_mul', ↓xBin_quo', ↓xBin_rem', wrap_in, ↓xIf_f, ↓xIf_tt, ↓xEx0, ↓xEx1, ↓xEx2, ↓xEx3, ↓xBin_eqs, ↓xBin_nes, ↓xUn_not, ↓xu8_add, ↓xu8_com, ↓xu8_eql, ↓xu8_neq, ↓xu8_lss, ↓xu16_add, 
      ↓xu16_com, ↓xu16_eql, ↓xu16_neq, ↓xu16_lss, ↓xu32_add, ↓xu32_com, ↓xu32_eql, ↓xu32_neq, ↓xu32_lss, ↓xu64_add, ↓xu64_com, ↓xu64_eql, ↓xu64_neq, ↓xu64_lss, ↓xi64_lss, ↓xi64_eql, ↓xi64_neq, ↓xi64_neg, Int.toNat_natCast, 
      Int.reduceToNat, Nat.reduceMul, Nat.reduceAdd, Nat.reduceSub, Nat.mul_one, List.nil_append, List.cons_append, List.getElem?_toArray, List.getElem?_cons_zero, List.getElem?_cons_succ, cells_int, cells_bool, cells_string, 
      cells_slice, cells_pointer, cells_agg, one_int, one_bool, one_string, one_slice, one_pointer, List.setIfInBounds_toArray, List.set_cons_zero, List.set_cons_succ, ↓xSq_r, ↓xPur_s, ↓xRd_s, ↓xRe_s, ↓xDet_s, ↓xDet_ld, 
      ↓xDet_ld2, ↓xDet_ld3, ↓xDet_ld4, World.size_drew, Nat.zero_add, Nat.add_zero, cell_drew, frozen_drew, cell_set_eq, cell_set_o, cell_set_b, Option.map_some, World.frozen?_setCell, decide_true, decide_false, List.not_mem_nil, 
      not_false_eq_true, ↓xGuard_tt, Bool.not_true, Bool.not_false, ←decide_not, ↓ld_2, ↓ld_3, ↓ld_26, ↓ld_29, ↓ld_30, ↓fa_32_0, ↓fa_32_1, ↓fa_32_2, ↓fa_32_3, ↓fa_32_4, ↓bd_28, ↓ia_22, ↓ln_22, r1, de]
        unfold loamlaw5_CodeBack_j2
        simp (disch := (first | omega | decide | (simp only [World.size_alloc, World.size_setCell, World.size_drew, List.mem_cons, List.not_mem_nil, or_false, not_false_eq_true] <;> omega) | fail)) only [↓xBox_r, ↓loadK_some, ↓loadsK_s, ↓loadsK_n, ↓loadsR_s, ↓loadsR_n, ↓storesK_s, ↓storesK_n, setCells_c, setCells_n, World.setCell_alloc_at, World.setCell_alloc_past, World.cell?_alloc_at, World.cell?_alloc_past, 
      World.frozen?_alloc_at, World.frozen?_alloc_past, World.size_alloc, ↓xPick_t, ↓xPick_f, ↓xGuard_tt, ↓xGuard_ff, ↓xGuard_tf, ↓xGuard_ft, ↓xGuard_u, ↓xNil_r, Option.isNone_some, Option.isNone_none, ↓xIf_t, tick_eq, tickV_eq, ne_eq, 
      dlt_t, dlt_f, dle_t, dle_f, deq_t, deq_f, dne_t, dne_f, not_true_eq_false, Int.reduceAdd, Int.reduceSub, Int.reduceMul, Int.reduceEq, Int.reduceLT, Int.reduceLE, Bool.false_and, Bool.true_and, Bool.and_true, 
      Bool.and_false, ↓xBin_add', ↓xBin_sub', ↓xBin_mul', ↓xBin_quo', ↓xBin_rem', wrap_in, ↓xIf_f, ↓xIf_tt, ↓xEx0, ↓xEx1, ↓xEx2, ↓xEx3, ↓xBin_eqs, ↓xBin_nes, ↓xUn_not, ↓xu8_add, ↓xu8_com, ↓xu8_eql, ↓xu8_neq, ↓xu8_lss, ↓xu16_add, 
      ↓xu16_com, ↓xu16_eql, ↓xu16_neq, ↓xu16_lss, ↓xu32_add, ↓xu32_com, ↓xu32_eql, ↓xu32_neq, ↓xu32_lss, ↓xu64_add, ↓xu64_com, ↓xu64_eql, ↓xu64_neq, ↓xu64_lss, ↓xi64_lss, ↓xi64_eql, ↓xi64_neq, ↓xi64_neg, Int.toNat_natCast, 
      Int.reduceToNat, Nat.reduceMul, Nat.reduceAdd, Nat.reduceSub, Nat.mul_one, List.nil_append, List.cons_append, List.getElem?_toArray, List.getElem?_cons_zero, List.getElem?_cons_succ, cells_int, cells_bool, cells_string, 
      cells_slice, cells_pointer, cells_agg, one_int, one_bool, one_string, one_slice, one_pointer, List.setIfInBounds_toArray, List.set_cons_zero, List.set_cons_succ, ↓xSq_r, ↓xPur_s, ↓xRd_s, ↓xRe_s, ↓xDet_s, ↓xDet_ld, 
      ↓xDet_ld2, ↓xDet_ld3, ↓xDet_ld4, World.size_drew, Nat.zero_add, Nat.add_zero, cell_drew, frozen_drew, cell_set_eq, cell_set_o, cell_set_b, Option.map_some, World.frozen?_setCell, decide_true, decide_false, List.not_mem_nil, 
      not_false_eq_true, ↓xGuard_tt, Bool.not_true, Bool.not_false, ←decide_not, ↓ld_2, ↓ld_3, ↓ld_26, ↓ld_29, ↓ld_30, ↓fa_32_0, ↓fa_32_1, ↓fa_32_2, ↓fa_32_3, ↓fa_32_4, ↓bd_28, ↓ia_22, ↓ln_22, s0, p0, g1, p1]
        exact hnx _ _ ⟨rfl, X4, D5⟩
      by_cases g2 : l[k].op = 2
      · have hi : itemB l[k] = uintB (zig l[k].i) := by unfold itemB; rw [if_neg g1, if_pos g2]
        rw [hi] at D4
        simp (disch := (first | omega | decide | (simp only [World.size_alloc, World.size_setCell, World.size_drew, List.mem_cons, List.not_mem_nil, or_false, not_false_eq_true] <;> omega) | fail)) only [↓xBox_r, ↓loadK_some, ↓loadsK_s, ↓loadsK_n, ↓loadsR_s, ↓loadsR_n, ↓storesK_s, ↓storesK_n, setCells_c, setCells_n, World.setCell_alloc_at, World.setCell_alloc_past, World.cell?_alloc_at, World.cell?_alloc_past, 
      World.frozen?_alloc_at, World.frozen?_alloc_past, World.size_alloc, ↓xPick_t, ↓xPick_f, ↓xGuard_tt, ↓xGuard_ff, ↓xGuard_tf, ↓xGuard_ft, ↓xGuard_u, ↓xNil_r, Option.isNone_some, Option.isNone_none, ↓xIf_t, tick_eq, tickV_eq, ne_eq, 
      dlt_t, dlt_f, dle_t, dle_f, deq_t, deq_f, dne_t, dne_f, not_true_eq_false, Int.reduceAdd, Int.reduceSub, Int.reduceMul, Int.reduceEq, Int.reduceLT, Int.reduceLE, Bool.false_and, Bool.true_and, Bool.and_true, 
      Bool.and_false, ↓xBin_add', ↓xBin_sub', ↓xBin_mul', ↓xBin_quo', ↓xBin_rem', wrap_in, ↓xIf_f, ↓xIf_tt, ↓xEx0, ↓xEx1, ↓xEx2, ↓xEx3, ↓xBin_eqs, ↓xBin_nes, ↓xUn_not, ↓xu8_add, ↓xu8_com, ↓xu8_eql, ↓xu8_neq, ↓xu8_lss, ↓xu16_add, 
      ↓xu16_com, ↓xu16_eql, ↓xu16_neq, ↓xu16_lss, ↓xu32_add, ↓xu32_com, ↓xu32_eql, ↓xu32_neq, ↓xu32_lss, ↓xu64_add, ↓xu64_com, ↓xu64_eql, ↓xu64_neq, ↓xu64_lss, ↓xi64_lss, ↓xi64_eql, ↓xi64_neq, ↓xi64_neg, Int.toNat_natCast, 
      Int.reduceToNat, Nat.reduceMul, Nat.reduceAdd, Nat.reduceSub, Nat.mul_one, List.nil_append, List.cons_append, List.getElem?_toArray, List.getElem?_cons_zero, List.getElem?_cons_succ, cells_int, cells_bool, cells_string, 
      cells_slice, cells_pointer, cells_agg, one_int, one_bool, one_string, one_slice, one_pointer, List.setIfInBounds_toArray, List.set_cons_zero, List.set_cons_succ, ↓xSq_r, ↓xPur_s, ↓xRd_s, ↓xRe_s, ↓xDet_s, ↓xDet_ld, 
      ↓xDet_ld2, ↓xDet_ld3, ↓xDet_ld4, World.size_drew, Nat.zero_add, Nat.add_zero, cell_drew, frozen_drew, cell_set_eq, cell_set_o, cell_set_b, Option.map_some, World.frozen?_setCell, decide_true, decide_false, List.not_mem_nil, 
      not_false_eq_true, ↓xGuard_tt, Bool.not_true, Bool.not_false, ←decide_not, ↓ld_2, ↓ld_3, ↓ld_26, ↓ld_29, ↓ld_30, ↓fa_32_0, ↓fa_32_1, ↓fa_32_2, ↓fa_32_3, ↓fa_32_4, ↓bd_28, ↓ia_22, ↓ln_22, s0, p0, g2, p2]
        refine codec_Dec_Int_call (Yld.mono (Dec_Int_spec D4) ?_)
        intro u1 v4 hR
        rw [dec_enc] at hR
        obtain ⟨rfl, F4, D5⟩ := hR
        have X4 := Xd.new F4 gup
        have r2 := X4.cell0 q2
        have ez := zag_zig hxk.int
        simp (disch := (first | omega | decide | (simp only [World.size_alloc, World.size_setCell, World.size_drew, List.mem_cons, List.not_mem_nil, or_false, not_false_eq_true] <;> omega) | fail)) only [↓xBox_r, ↓loadK_some, ↓loadsK_s, ↓loadsK_n, ↓loadsR_s, ↓loadsR_n, ↓storesK_s, ↓storesK_n, setCells_c, setCells_n, World.setCell_alloc_at, World.setCell_alloc_past, World.cell?_alloc_at, World.cell?_alloc_past, 
      World.frozen?_alloc_at, World.frozen?_alloc_past, World.size_alloc, ↓xPick_t, ↓xPick_f, ↓xGuard_tt, ↓xGuard_ff, ↓xGuard_tf, ↓xGuard_ft, ↓xGuard_u, ↓xNil_r, Option.isNone_some, Option.isNone_none, ↓xIf_t, tick_eq, tickV_eq, ne_eq, 
      dlt_t, dlt_f, dle_t, dle_f, deq_t, deq_f, dne_t, dne_f, not_true_eq_false, Int.reduceAdd, Int.reduceSub, Int.reduceMul, Int.reduceEq, Int.reduceLT, Int.reduceLE, Bool.false_and, Bool.true_and, Bool.and_true, 
      Bool.and_false, ↓xBin_add', ↓xBin_sub', ↓xBin_mul', ↓xBin_quo', ↓xBin_rem', wrap_in, ↓xIf_f, ↓xIf_tt, ↓xEx0, ↓xEx1, ↓xEx2, ↓xEx3, ↓xBin_eqs, ↓xBin_nes, ↓xUn_not, ↓xu8_add, ↓xu8_com, ↓xu8_eql, ↓xu8_neq, ↓xu8_lss, ↓xu16_add, 
      ↓xu16_com, ↓xu16_eql, ↓xu16_neq, ↓xu16_lss, ↓xu32_add, ↓xu32_com, ↓xu32_eql, ↓xu32_neq, ↓xu32_lss, ↓xu64_add, ↓xu64_com, ↓xu64_eql, ↓xu64_neq, ↓xu64_lss, ↓xi64_lss, ↓xi64_eql, ↓xi64_neq, ↓xi64_neg, Int.toNat_natCast, 
      Int.reduceToNat, Nat.reduceMul, Nat.reduceAdd, Nat.reduceSub, Nat.mul_one, List.nil_append, List.cons_append, List.getElem?_toArray, List.getElem?_cons_zero, List.getElem?_cons_succ, cells_int, cells_bool, cells_string, 
      cells_slice, cells_pointer, cells_agg, one_int, one_bool, one_string, one_slice, one_pointer, List.setIfInBounds_toArray, List.set_cons_zero, List.set_cons_succ, ↓xSq_r, ↓xPur_s, ↓xRd_s, ↓xRe_s, ↓xDet_s, ↓xDet_ld, 
      ↓xDet_ld2, ↓xDet_ld3, ↓xDet_ld4, World.size_drew, Nat.zero_add, Nat.add_zero, cell_drew, frozen_drew, cell_set_eq, cell_set_o, cell_set_b, Option.map_some, World.frozen?_setCell, decide_true, decide_false, List.not_mem_nil, 
      not_false_eq_true, ↓xGuard_tt, Bool.not_true, Bool.not_false, ←decide_not, ↓ld_2, ↓ld_3, ↓ld_26, ↓ld_29, ↓ld_30, ↓fa_32_0, ↓fa_32_1, ↓fa_32_2, ↓fa_32_3, ↓fa_32_4, ↓bd_28, ↓ia_22, ↓ln_22, r2, ez]
        unfold loamlaw5_CodeBack_j2
        simp (disch := (first | omega | decide | (simp only [World.size_alloc, World.size_setCell, World.size_drew, List.mem_cons, List.not_mem_nil, or_false, not_false_eq_true] <;> omega) | fail)) only [↓xBox_r, ↓loadK_some, ↓loadsK_s, ↓loadsK_n, ↓loadsR_s, ↓loadsR_n, ↓storesK_s, ↓storesK_n, setCells_c, setCells_n, World.setCell_alloc_at, World.setCell_alloc_past, World.cell?_alloc_at, World.cell?_alloc_past, 
      World.frozen?_alloc_at, World.frozen?_alloc_past, World.size_alloc, ↓xPick_t, ↓xPick_f, ↓xGuard_tt, ↓xGuard_ff, ↓xGuard_tf, ↓xGuard_ft, ↓xGuard_u, ↓xNil_r, Option.isNone_some, Option.isNone_none, ↓xIf_t, tick_eq, tickV_eq, ne_eq, 
      dlt_t, dlt_f, dle_t, dle_f, deq_t, deq_f, dne_t, dne_f, not_true_eq_false, Int.reduceAdd, Int.reduceSub, Int.reduceMul, Int.reduceEq, Int.reduceLT, Int.reduceLE, Bool.false_and, Bool.true_and, Bool.and_true, 
      Bool.and_false, ↓xBin_add', ↓xBin_sub', ↓xBin_mul', ↓xBin_quo', ↓xBin_rem', wrap_in, ↓xIf_f, ↓xIf_tt, ↓xEx0, ↓xEx1, ↓xEx2, ↓xEx3, ↓xBin_eqs, ↓xBin_nes, ↓xUn_not, ↓xu8_add, ↓xu8_com, ↓xu8_eql, ↓xu8_neq, ↓xu8_lss, ↓xu16_add, 
      ↓xu16_com, ↓xu16_eql, ↓xu16_neq, ↓xu16_lss, ↓xu32_add, ↓xu32_com, ↓xu32_eql, ↓xu32_neq, ↓xu32_lss, ↓xu64_add, ↓xu64_com, ↓xu64_eql, ↓xu64_neq, ↓xu64_lss, ↓xi64_lss, ↓xi64_eql, ↓xi64_neq, ↓xi64_neg, Int.toNat_natCast, 
      Int.reduceToNat, Nat.reduceMul, Nat.reduceAdd, Nat.reduceSub, Nat.mul_one, List.nil_append, List.cons_append, List.getElem?_toArray, List.getElem?_cons_zero, List.getElem?_cons_succ, cells_int, cells_bool, cells_string, 
      cells_slice, cells_pointer, cells_agg, one_int, one_bool, one_string, one_slice, one_pointer, List.setIfInBounds_toArray, List.set_cons_zero, List.set_cons_succ, ↓xSq_r, ↓xPur_s, ↓xRd_s, ↓xRe_s, ↓xDet_s, ↓xDet_ld, 
      ↓xDet_ld2, ↓xDet_ld3, ↓xDet_ld4, World.size_drew, Nat.zero_add, Nat.add_zero, cell_drew, frozen_drew, cell_set_eq, cell_set_o, cell_set_b, Option.map_some, World.frozen?_setCell, decide_true, decide_false, List.not_mem_nil, 
      not_false_eq_true, ↓xGuard_tt, Bool.not_true, Bool.not_false, ←decide_not, ↓ld_2, ↓ld_3, ↓ld_26, ↓ld_29, ↓ld_30, ↓fa_32_0, ↓fa_32_1, ↓fa_32_2, ↓fa_32_3, ↓fa_32_4, ↓bd_28, ↓ia_22, ↓ln_22, s0, p0, g2, p2]
        exact hnx _ _ ⟨rfl, X4, D5⟩
      by_cases g3 : l[k].op = 3
      · have hi : itemB l[k] = uintB (BitVec.ofNat 64 l[k].b.length) ++ l[k].b := by unfold itemB; rw [if_neg g1, if_neg g2, if_pos g3]
        rw [hi] at D4
        have s3 := strB (c := l[k].cb) rfl (hxk.rb.ext0 Xd)
        simp (disch := (first | omega | decide | (simp only [World.size_alloc, World.size_setCell, World.size_drew, List.mem_cons, List.not_mem_nil, or_false, not_false_eq_true] <;> omega) | fail)) only [↓xBox_r, ↓loadK_some, ↓loadsK_s, ↓loadsK_n, ↓loadsR_s, ↓loadsR_n, ↓storesK_s, ↓storesK_n, setCells_c, setCells_n, World.setCell_alloc_at, World.setCell_alloc_past, World.cell?_alloc_at, World.cell?_alloc_past, 
      World.frozen?_alloc_at, World.frozen?_alloc_past, World.size_alloc, ↓xPick_t, ↓xPick_f, ↓xGuard_tt, ↓xGuard_ff, ↓xGuard_tf, ↓xGuard_ft, ↓xGuard_u, ↓xNil_r, Option.isNone_some, Option.isNone_none, ↓xIf_t, tick_eq, tickV_eq, ne_eq, 
      dlt_t, dlt_f, dle_t, dle_f, deq_t, deq_f, dne_t, dne_f, not_true_eq_false, Int.reduceAdd, Int.reduceSub, Int.reduceMul, Int.reduceEq, Int.reduceLT, Int.reduceLE, Bool.false_and, Bool.true_and, Bool.and_true, 
      Bool.and_false, ↓xBin_add', ↓xBin_sub', ↓xBin_mul', ↓xBin_quo', ↓xBin_rem', wrap_in, ↓xIf_f, ↓xIf_tt, ↓xEx0, ↓xEx1, ↓xEx2, ↓xEx3, ↓xBin_eqs, ↓xBin_nes, ↓xUn_not, ↓xu8_add, ↓xu8_com, ↓xu8_eql, ↓xu8_neq, ↓xu8_lss, ↓xu16_add, 
      ↓xu16_com, ↓xu16_eql, ↓xu16_neq, ↓xu16_lss, ↓xu32_add, ↓xu32_com, ↓xu32_eql, ↓xu32_neq, ↓xu32_lss, ↓xu64_add, ↓xu64_com, ↓xu64_eql, ↓xu64_neq, ↓xu64_lss, ↓xi64_lss, ↓xi64_eql, ↓xi64_neq, ↓xi64_neg, Int.toNat_natCast, 
      Int.reduceToNat, Nat.reduceMul, Nat.reduceAdd, Nat.reduceSub, Nat.mul_one, List.nil_append, List.cons_append, List.getElem?_toArray, List.getElem?_cons_zero, List.getElem?_cons_succ, cells_int, cells_bool, cells_string, 
      cells_slice, cells_pointer, cells_agg, one_int, one_bool, one_string, one_slice, one_pointer, List.setIfInBounds_toArray, List.set_cons_zero, List.set_cons_succ, ↓xSq_r, ↓xPur_s, ↓xRd_s, ↓xRe_s, ↓xDet_s, ↓xDet_ld, 
      ↓xDet_ld2, ↓xDet_ld3, ↓xDet_ld4, World.size_drew, Nat.zero_add, Nat.add_zero, cell_drew, frozen_drew, cell_set_eq, cell_set_o, cell_set_b, Option.map_some, World.frozen?_setCell, decide_true, decide_false, List.not_mem_nil, 
      not_false_eq_true, ↓xGuard_tt, Bool.not_true, Bool.not_false, ←decide_not, ↓ld_2, ↓ld_3, ↓ld_26, ↓ld_29, ↓ld_30, ↓fa_32_0, ↓fa_32_1, ↓fa_32_2, ↓fa_32_3, ↓fa_32_4, ↓bd_28, ↓ia_22, ↓ln_22, s0, p0, g3, p3, s3]
        refine codec_Dec_Raw_call (Yld.mono (Dec_Raw_spec D4) ?_)
        intro u1 v4 hR
        rw [List.append_assoc, decRaw_enc _ _ (by omega)] at hR
        obtain ⟨⟨a4, c4, rfl, _, _, R4, _⟩, F4, D5⟩ := hR
        have X4 := Xd.new F4 gup
        have r3 := X4.cell0 q3
        have s4 := strB (c := l[k].cb) rfl (hxk.rb.ext0 X4)
        have s5 := strB (c := c4) rfl R4
        have de : decide (strOf l[k].b = strOf l[k].b) = true := decide_eq_true rfl
        simp (disch := (first | omega | decide | (simp only [World.size_alloc, World.size_setCell, World.size_drew, List.mem_cons, List.not_mem_nil, or_false, not_false_eq_true] <;> omega) | fail)) only [↓xBox_r, ↓loadK_some, ↓loadsK_s, ↓loadsK_n, ↓loadsR_s, ↓loadsR_n, ↓storesK_s, ↓storesK_n, setCells_c, setCells_n, World.setCell_alloc_at, World.setCell_alloc_past, World.cell?_alloc_at, World.cell?_alloc_past, 
      World.frozen?_alloc_at, World.frozen?_alloc_past, World.size_alloc, ↓xPick_t, ↓xPick_f, ↓xGuard_tt, ↓xGuard_ff, ↓xGuard_tf, ↓xGuard_ft, ↓xGuard_u, ↓xNil_r, Option.isNone_some, Option.isNone_none, ↓xIf_t, tick_eq, tickV_eq, ne_eq, 
      dlt_t, dlt_f, dle_t, dle_f, deq_t, deq_f, dne_t, dne_f, not_true_eq_false, Int.reduceAdd, Int.reduceSub, Int.reduceMul, Int.reduceEq, Int.reduceLT, Int.reduceLE, Bool.false_and, Bool.true_and, Bool.and_true, 
      Bool.and_false, ↓xBin_add', ↓xBin_sub', ↓xBin_mul', ↓xBin_quo', ↓xBin_rem', wrap_in, ↓xIf_f, ↓xIf_tt, ↓xEx0, ↓xEx1, ↓xEx2, ↓xEx3, ↓xBin_eqs, ↓xBin_nes, ↓xUn_not, ↓xu8_add, ↓xu8_com, ↓xu8_eql, ↓xu8_neq, ↓xu8_lss, ↓xu16_add, 
      ↓xu16_com, ↓xu16_eql, ↓xu16_neq, ↓xu16_lss, ↓xu32_add, ↓xu32_com, ↓xu32_eql, ↓xu32_neq, ↓xu32_lss, ↓xu64_add, ↓xu64_com, ↓xu64_eql, ↓xu64_neq, ↓xu64_lss, ↓xi64_lss, ↓xi64_eql, ↓xi64_neq, ↓xi64_neg, Int.toNat_natCast, 
      Int.reduceToNat, Nat.reduceMul, Nat.reduceAdd, Nat.reduceSub, Nat.mul_one, List.nil_append, List.cons_append, List.getElem?_toArray, List.getElem?_cons_zero, List.getElem?_cons_succ, cells_int, cells_bool, cells_string, 
      cells_slice, cells_pointer, cells_agg, one_int, one_bool, one_string, one_slice, one_pointer, List.setIfInBounds_toArray, List.set_cons_zero, List.set_cons_succ, ↓xSq_r, ↓xPur_s, ↓xRd_s, ↓xRe_s, ↓xDet_s, ↓xDet_ld, 
      ↓xDet_ld2, ↓xDet_ld3, ↓xDet_ld4, World.size_drew, Nat.zero_add, Nat.add_zero, cell_drew, frozen_drew, cell_set_eq, cell_set_o, cell_set_b, Option.map_some, World.frozen?_setCell, decide_true, decide_false, List.not_mem_nil, 
      not_false_eq_true, ↓xGuard_tt, Bool.not_true, Bool.not_false, ←decide_not, ↓ld_2, ↓ld_3, ↓ld_26, ↓ld_29, ↓ld_30, ↓fa_32_0, ↓fa_32_1, ↓fa_32_2, ↓fa_32_3, ↓fa_32_4, ↓bd_28, ↓ia_22, ↓ln_22, r3, s4, s5, de]
        unfold loamlaw5_CodeBack_j2
        simp (disch := (first | omega | decide | (simp only [World.size_alloc, World.size_setCell, World.size_drew, List.mem_cons, List.not_mem_nil, or_false, not_false_eq_true] <;> omega) | fail)) only [↓xBox_r, ↓loadK_some, ↓loadsK_s, ↓loadsK_n, ↓loadsR_s, ↓loadsR_n, ↓storesK_s, ↓storesK_n, setCells_c, setCells_n, World.setCell_alloc_at, World.setCell_alloc_past, World.cell?_alloc_at, World.cell?_alloc_past, 
      World.frozen?_alloc_at, World.frozen?_alloc_past, World.size_alloc, ↓xPick_t, ↓xPick_f, ↓xGuard_tt, ↓xGuard_ff, ↓xGuard_tf, ↓xGuard_ft, ↓xGuard_u, ↓xNil_r, Option.isNone_some, Option.isNone_none, ↓xIf_t, tick_eq, tickV_eq, ne_eq, 
      dlt_t, dlt_f, dle_t, dle_f, deq_t, deq_f, dne_t, dne_f, not_true_eq_false, Int.reduceAdd, Int.reduceSub, Int.reduceMul, Int.reduceEq, Int.reduceLT, Int.reduceLE, Bool.false_and, Bool.true_and, Bool.and_true, 
      Bool.and_false, ↓xBin_add', ↓xBin_sub', ↓xBin_mul', ↓xBin_quo', ↓xBin_rem', wrap_in, ↓xIf_f, ↓xIf_tt, ↓xEx0, ↓xEx1, ↓xEx2, ↓xEx3, ↓xBin_eqs, ↓xBin_nes, ↓xUn_not, ↓xu8_add, ↓xu8_com, ↓xu8_eql, ↓xu8_neq, ↓xu8_lss, ↓xu16_add, 
      ↓xu16_com, ↓xu16_eql, ↓xu16_neq, ↓xu16_lss, ↓xu32_add, ↓xu32_com, ↓xu32_eql, ↓xu32_neq, ↓xu32_lss, ↓xu64_add, ↓xu64_com, ↓xu64_eql, ↓xu64_neq, ↓xu64_lss, ↓xi64_lss, ↓xi64_eql, ↓xi64_neq, ↓xi64_neg, Int.toNat_natCast, 
      Int.reduceToNat, Nat.reduceMul, Nat.reduceAdd, Nat.reduceSub, Nat.mul_one, List.nil_append, List.cons_append, List.getElem?_toArray, List.getElem?_cons_zero, List.getElem?_cons_succ, cells_int, cells_bool, cells_string, 
      cells_slice, cells_pointer, cells_agg, one_int, one_bool, one_string, one_slice, one_pointer, List.setIfInBounds_toArray, List.set_cons_zero, List.set_cons_succ, ↓xSq_r, ↓xPur_s, ↓xRd_s, ↓xRe_s, ↓xDet_s, ↓xDet_ld, 
      ↓xDet_ld2, ↓xDet_ld3, ↓xDet_ld4, World.size_drew, Nat.zero_add, Nat.add_zero, cell_drew, frozen_drew, cell_set_eq, cell_set_o, cell_set_b, Option.map_some, World.frozen?_setCell, decide_true, decide_false, List.not_mem_nil, 
      not_false_eq_true, ↓xGuard_tt, Bool.not_true, Bool.not_false, ←decide_not, ↓ld_2, ↓ld_3, ↓ld_26, ↓ld_29, ↓ld_30, ↓fa_32_0, ↓fa_32_1, ↓fa_32_2, ↓fa_32_3, ↓fa_32_4, ↓bd_28, ↓ia_22, ↓ln_22, s0, p0, g3, p3, s3]
        exact hnx _ _ ⟨rfl, X4, D5⟩
      by_cases g4 : l[k].op = 4
      · have hi : itemB l[k] = uintB (BitVec.ofNat 64 l[k].ws.length) ++ wordsB l[k].ws := by unfold itemB; rw [if_neg g1, if_neg g2, if_neg g3, if_pos g4]
        rw [hi] at D4
        simp (disch := (first | omega | decide | (simp only [World.size_alloc, World.size_setCell, World.size_drew, List.mem_cons, List.not_mem_nil, or_false, not_false_eq_true] <;> omega) | fail)) only [↓xBox_r, ↓loadK_some, ↓loadsK_s, ↓loadsK_n, ↓loadsR_s, ↓loadsR_n, ↓storesK_s, ↓storesK_n, setCells_c, setCells_n, World.setCell_alloc_at, World.setCell_alloc_past, World.cell?_alloc_at, World.cell?_alloc_past, 
      World.frozen?_alloc_at, World.frozen?_alloc_past, World.size_alloc, ↓xPick_t, ↓xPick_f, ↓xGuard_tt, ↓xGuard_ff, ↓xGuard_tf, ↓xGuard_ft, ↓xGuard_u, ↓xNil_r, Option.isNone_some, Option.isNone_none, ↓xIf_t, tick_eq, tickV_eq, ne_eq, 
      dlt_t, dlt_f, dle_t, dle_f, deq_t, deq_f, dne_t, dne_f, not_true_eq_false, Int.reduceAdd, Int.reduceSub, Int.reduceMul, Int.reduceEq, Int.reduceLT, Int.reduceLE, Bool.false_and, Bool.true_and, Bool.and_true, 
      Bool.and_false, ↓xBin_add', ↓xBin_sub', ↓xBin_mul', ↓xBin_quo', ↓xBin_rem', wrap_in, ↓xIf_f, ↓xIf_tt, ↓xEx0, ↓xEx1, ↓xEx2, ↓xEx3, ↓xBin_eqs, ↓xBin_nes, ↓xUn_not, ↓xu8_add, ↓xu8_com, ↓xu8_eql, ↓xu8_neq, ↓xu8_lss, ↓xu16_add, 
      ↓xu16_com, ↓xu16_eql, ↓xu16_neq, ↓xu16_lss, ↓xu32_add, ↓xu32_com, ↓xu32_eql, ↓xu32_neq, ↓xu32_lss, ↓xu64_add, ↓xu64_com, ↓xu64_eql, ↓xu64_neq, ↓xu64_lss, ↓xi64_lss, ↓xi64_eql, ↓xi64_neq, ↓xi64_neg, Int.toNat_natCast, 
      Int.reduceToNat, Nat.reduceMul, Nat.reduceAdd, Nat.reduceSub, Nat.mul_one, List.nil_append, List.cons_append, List.getElem?_toArray, List.getElem?_cons_zero, List.getElem?_cons_succ, cells_int, cells_bool, cells_string, 
      cells_slice, cells_pointer, cells_agg, one_int, one_bool, one_string, one_slice, one_pointer, List.setIfInBounds_toArray, List.set_cons_zero, List.set_cons_succ, ↓xSq_r, ↓xPur_s, ↓xRd_s, ↓xRe_s, ↓xDet_s, ↓xDet_ld, 
      ↓xDet_ld2, ↓xDet_ld3, ↓xDet_ld4, World.size_drew, Nat.zero_add, Nat.add_zero, cell_drew, frozen_drew, cell_set_eq, cell_set_o, cell_set_b, Option.map_some, World.frozen?_setCell, decide_true, decide_false, List.not_mem_nil, 
      not_false_eq_true, ↓xGuard_tt, Bool.not_true, Bool.not_false, ←decide_not, ↓ld_2, ↓ld_3, ↓ld_26, ↓ld_29, ↓ld_30, ↓fa_32_0, ↓fa_32_1, ↓fa_32_2, ↓fa_32_3, ↓fa_32_4, ↓bd_28, ↓ia_22, ↓ln_22, s0, p0, g4, p4]
        refine codec_Dec_Words_call (Yld.mono (Dec_Words_spec D4) ?_)
        intro u1 v4 hR
        rw [List.append_assoc, decWords_enc _ _ (by omega)] at hR
        obtain ⟨⟨a4, c4, rfl, _, _, R4, _⟩, F4, D5⟩ := hR
        have X4 := Xd.new F4 gup
        have r4 := X4.cell0 q4
        simp (disch := (first | omega | decide | (simp only [World.size_alloc, World.size_setCell, World.size_drew, List.mem_cons, List.not_mem_nil, or_false, not_false_eq_true] <;> omega) | fail)) only [↓xBox_r, ↓loadK_some, ↓loadsK_s, ↓loadsK_n, ↓loadsR_s, ↓loadsR_n, ↓storesK_s, ↓storesK_n, setCells_c, setCells_n, World.setCell_alloc_at, World.setCell_alloc_past, World.cell?_alloc_at, World.cell?_alloc_past, 
      World.frozen?_alloc_at, World.frozen?_alloc_past, World.size_alloc, ↓xPick_t, ↓xPick_f, ↓xGuard_tt, ↓xGuard_ff, ↓xGuard_tf, ↓xGuard_ft, ↓xGuard_u, ↓xNil_r, Option.isNone_some, Option.isNone_none, ↓xIf_t, tick_eq, tickV_eq, ne_eq, 
      dlt_t, dlt_f, dle_t, dle_f, deq_t, deq_f, dne_t, dne_f, not_true_eq_false, Int.reduceAdd, Int.reduceSub, Int.reduceMul, Int.reduceEq, Int.reduceLT, Int.reduceLE, Bool.false_and, Bool.true_and, Bool.and_true, 
      Bool.and_false, ↓xBin_add', ↓xBin_sub', ↓xBin_mul', ↓xBin_quo', ↓xBin_rem', wrap_in, ↓xIf_f, ↓xIf_tt, ↓xEx0, ↓xEx1, ↓xEx2, ↓xEx3, ↓xBin_eqs, ↓xBin_nes, ↓xUn_not, ↓xu8_add, ↓xu8_com, ↓xu8_eql, ↓xu8_neq, ↓xu8_lss, ↓xu16_add, 
      ↓xu16_com, ↓xu16_eql, ↓xu16_neq, ↓xu16_lss, ↓xu32_add, ↓xu32_com, ↓xu32_eql, ↓xu32_neq, ↓xu32_lss, ↓xu64_add, ↓xu64_com, ↓xu64_eql, ↓xu64_neq, ↓xu64_lss, ↓xi64_lss, ↓xi64_eql, ↓xi64_neq, ↓xi64_neg, Int.toNat_natCast, 
      Int.reduceToNat, Nat.reduceMul, Nat.reduceAdd, Nat.reduceSub, Nat.mul_one, List.nil_append, List.cons_append, List.getElem?_toArray, List.getElem?_cons_zero, List.getElem?_cons_succ, cells_int, cells_bool, cells_string, 
      cells_slice, cells_pointer, cells_agg, one_int, one_bool, one_string, one_slice, one_pointer, List.setIfInBounds_toArray, List.set_cons_zero, List.set_cons_succ, ↓xSq_r, ↓xPur_s, ↓xRd_s, ↓xRe_s, ↓xDet_s, ↓xDet_ld, 
      ↓xDet_ld2, ↓xDet_ld3, ↓xDet_ld4, World.size_drew, Nat.zero_add, Nat.add_zero, cell_drew, frozen_drew, cell_set_eq, cell_set_o, cell_set_b, Option.map_some, World.frozen?_setCell, decide_true, decide_false, List.not_mem_nil, 
      not_false_eq_true, ↓xGuard_tt, Bool.not_true, Bool.not_false, ←decide_not, ↓ld_2, ↓ld_3, ↓ld_26, ↓ld_29, ↓ld_30, ↓fa_32_0, ↓fa_32_1, ↓fa_32_2, ↓fa_32_3, ↓fa_32_4, ↓bd_28, ↓ia_22, ↓ln_22, r4]
        refine loamlaw5_words_call (Gives.to (words5_spec l[k].ws l[k].ws _ _ _ _ v4 R4 (hxk.rw.ext0 X4) (by omega) (by omega)) fun v5 F5 => ?_)
        have de : decide (l[k].ws = l[k].ws) = true := decide_eq_true rfl
        simp (disch := (first | omega | decide | (simp only [World.size_alloc, World.size_setCell, World.size_drew, List.mem_cons, List.not_mem_nil, or_false, not_false_eq_true] <;> omega) | fail)) only [↓xBox_r, ↓loadK_some, ↓loadsK_s, ↓loadsK_n, ↓loadsR_s, ↓loadsR_n, ↓storesK_s, ↓storesK_n, setCells_c, setCells_n, World.setCell_alloc_at, World.setCell_alloc_past, World.cell?_alloc_at, World.cell?_alloc_past, 
      World.frozen?_alloc_at, World.frozen?_alloc_past, World.size_alloc, ↓xPick_t, ↓xPick_f, ↓xGuard_tt, ↓xGuard_ff, ↓xGuard_tf, ↓xGuard_ft, ↓xGuard_u, ↓xNil_r, Option.isNone_some, Option.isNone_none, ↓xIf_t, tick_eq, tickV_eq, ne_eq, 
      dlt_t, dlt_f, dle_t, dle_f, deq_t, deq_f, dne_t, dne_f, not_true_eq_false, Int.reduceAdd, Int.reduceSub, Int.reduceMul, Int.reduceEq, Int.reduceLT, Int.reduceLE, Bool.false_and, Bool.true_and, Bool.and_true, 
      Bool.and_false, ↓xBin_add', ↓xBin_sub', ↓xBin_mul', ↓xBin_quo', ↓xBin_rem', wrap_in, ↓xIf_f, ↓xIf_tt, ↓xEx0, ↓xEx1, ↓xEx2, ↓xEx3, ↓xBin_eqs, ↓xBin_nes, ↓xUn_not, ↓xu8_add, ↓xu8_com, ↓xu8_eql, ↓xu8_neq, ↓xu8_lss, ↓xu16_add, 
      ↓xu16_com, ↓xu16_eql, ↓xu16_neq, ↓xu16_lss, ↓xu32_add, ↓xu32_com, ↓xu32_eql, ↓xu32_neq, ↓xu32_lss, ↓xu64_add, ↓xu64_com, ↓xu64_eql, ↓xu64_neq, ↓xu64_lss, ↓xi64_lss, ↓xi64_eql, ↓xi64_neq, ↓xi64_neg, Int.toNat_natCast, 
      Int.reduceToNat, Nat.reduceMul, Nat.reduceAdd, Nat.reduceSub, Nat.mul_one, List.nil_append, List.cons_append, List.getElem?_toArray, List.getElem?_cons_zero, List.getElem?_cons_succ, cells_int, cells_bool, cells_string, 
      cells_slice, cells_pointer, cells_agg, one_int, one_bool, one_string, one_slice, one_pointer, List.setIfInBounds_toArray, List.set_cons_zero, List.set_cons_succ, ↓xSq_r, ↓xPur_s, ↓xRd_s, ↓xRe_s, ↓xDet_s, ↓xDet_ld, 
      ↓xDet_ld2, ↓xDet_ld3, ↓xDet_ld4, World.size_drew, Nat.zero_add, Nat.add_zero, cell_drew, frozen_drew, cell_set_eq, cell_set_o, cell_set_b, Option.map_some, World.frozen?_setCell, decide_true, decide_false, List.not_mem_nil, 
      not_false_eq_true, ↓xGuard_tt, Bool.not_true, Bool.not_false, ←decide_not, ↓ld_2, ↓ld_3, ↓ld_26, ↓ld_29, ↓ld_30, ↓fa_32_0, ↓fa_32_1, ↓fa_32_2, ↓fa_32_3, ↓fa_32_4, ↓bd_28, ↓ia_22, ↓ln_22, s0, p0, g4, p4, de]
        unfold loamlaw5_CodeBack_j2
        simp (disch := (first | omega | decide | (simp only [World.size_alloc, World.size_setCell, World.size_drew, List.mem_cons, List.not_mem_nil, or_false, not_false_eq_true] <;> omega) | fail)) only [↓xBox_r, ↓loadK_some, ↓loadsK_s, ↓loadsK_n, ↓loadsR_s, ↓loadsR_n, ↓storesK_s, ↓storesK_n, setCells_c, setCells_n, World.setCell_alloc_at, World.setCell_alloc_past, World.cell?_alloc_at, World.cell?_alloc_past, 
      World.frozen?_alloc_at, World.frozen?_alloc_past, World.size_alloc, ↓xPick_t, ↓xPick_f, ↓xGuard_tt, ↓xGuard_ff, ↓xGuard_tf, ↓xGuard_ft, ↓xGuard_u, ↓xNil_r, Option.isNone_some, Option.isNone_none, ↓xIf_t, tick_eq, tickV_eq, ne_eq, 
      dlt_t, dlt_f, dle_t, dle_f, deq_t, deq_f, dne_t, dne_f, not_true_eq_false, Int.reduceAdd, Int.reduceSub, Int.reduceMul, Int.reduceEq, Int.reduceLT, Int.reduceLE, Bool.false_and, Bool.true_and, Bool.and_true, 
      Bool.and_false, ↓xBin_add', ↓xBin_sub', ↓xBin_mul', ↓xBin_quo', ↓xBin_rem', wrap_in, ↓xIf_f, ↓xIf_tt, ↓xEx0, ↓xEx1, ↓xEx2, ↓xEx3, ↓xBin_eqs, ↓xBin_nes, ↓xUn_not, ↓xu8_add, ↓xu8_com, ↓xu8_eql, ↓xu8_neq, ↓xu8_lss, ↓xu16_add, 
      ↓xu16_com, ↓xu16_eql, ↓xu16_neq, ↓xu16_lss, ↓xu32_add, ↓xu32_com, ↓xu32_eql, ↓xu32_neq, ↓xu32_lss, ↓xu64_add, ↓xu64_com, ↓xu64_eql, ↓xu64_neq, ↓xu64_lss, ↓xi64_lss, ↓xi64_eql, ↓xi64_neq, ↓xi64_neg, Int.toNat_natCast, 
      Int.reduceToNat, Nat.reduceMul, Nat.reduceAdd, Nat.reduceSub, Nat.mul_one, List.nil_append, List.cons_append, List.getElem?_toArray, List.getElem?_cons_zero, List.getElem?_cons_succ, cells_int, cells_bool, cells_string, 
      cells_slice, cells_pointer, cells_agg, one_int, one_bool, one_string, one_slice, one_pointer, List.setIfInBounds_toArray, List.set_cons_zero, List.set_cons_succ, ↓xSq_r, ↓xPur_s, ↓xRd_s, ↓xRe_s, ↓xDet_s, ↓xDet_ld, 
      ↓xDet_ld2, ↓xDet_ld3, ↓xDet_ld4, World.size_drew, Nat.zero_add, Nat.add_zero, cell_drew, frozen_drew, cell_set_eq, cell_set_o, cell_set_b, Option.map_some, World.frozen?_setCell, decide_true, decide_false, List.not_mem_nil, 
      not_false_eq_true, ↓xGuard_tt, Bool.not_true, Bool.not_false, ←decide_not, ↓ld_2, ↓ld_3, ↓ld_26, ↓ld_29, ↓ld_30, ↓fa_32_0, ↓fa_32_1, ↓fa_32_2, ↓fa_32_3, ↓fa_32_4, ↓bd_28, ↓ia_22, ↓ln_22, s0, p0, g4, p4, de]
        obtain ⟨a5, c5, D6⟩ := D5
        exact hnx _ _ ⟨rfl, X4.trans F5, a5, c5, D6.ext0 F5⟩
      · have hi : itemB l[k] = [] := by unfold itemB; rw [if_neg g1, if_neg g2, if_neg g3, if_neg g4]
        rw [hi, List.nil_append] at D3
        have d1 : decide (l[k].op = 1) = false := decide_eq_false g1
        have d2 : decide (l[k].op = 2) = false := decide_eq_false g2
        have d3 : decide (l[k].op = 3) = false := decide_eq_false g3
        have d4 : decide (l[k].op = 4) = false := decide_eq_false g4
        simp (disch := (first | omega | decide | (simp only [World.size_alloc, World.size_setCell, World.size_drew, List.mem_cons, List.not_mem_nil, or_false, not_false_eq_true] <;> omega) | fail)) only [↓xBox_r, ↓loadK_some, ↓loadsK_s, ↓loadsK_n, ↓loadsR_s, ↓loadsR_n, ↓storesK_s, ↓storesK_n, setCells_c, setCells_n, World.setCell_alloc_at, World.setCell_alloc_past, World.cell?_alloc_at, World.cell?_alloc_past, 
      World.frozen?_alloc_at, World.frozen?_alloc_past, World.size_alloc, ↓xPick_t, ↓xPick_f, ↓xGuard_tt, ↓xGuard_ff, ↓xGuard_tf, ↓xGuard_ft, ↓xGuard_u, ↓xNil_r, Option.isNone_some, Option.isNone_none, ↓xIf_t, tick_eq, tickV_eq, ne_eq, 
      dlt_t, dlt_f, dle_t, dle_f, deq_t, deq_f, dne_t, dne_f, not_true_eq_false, Int.reduceAdd, Int.reduceSub, Int.reduceMul, Int.reduceEq, Int.reduceLT, Int.reduceLE, Bool.false_and, Bool.true_and, Bool.and_true, 
      Bool.and_false, ↓xBin_add', ↓xBin_sub', ↓xBin_mul', ↓xBin_quo', ↓xBin_rem', wrap_in, ↓xIf_f, ↓xIf_tt, ↓xEx0, ↓xEx1, ↓xEx2, ↓xEx3, ↓xBin_eqs, ↓xBin_nes, ↓xUn_not, ↓xu8_add, ↓xu8_com, ↓xu8_eql, ↓xu8_neq, ↓xu8_lss, ↓xu16_add, 
      ↓xu16_com, ↓xu16_eql, ↓xu16_neq, ↓xu16_lss, ↓xu32_add, ↓xu32_com, ↓xu32_eql, ↓xu32_neq, ↓xu32_lss, ↓xu64_add, ↓xu64_com, ↓xu64_eql, ↓xu64_neq, ↓xu64_lss, ↓xi64_lss, ↓xi64_eql, ↓xi64_neq, ↓xi64_neg, Int.toNat_natCast, 
      Int.reduceToNat, Nat.reduceMul, Nat.reduceAdd, Nat.reduceSub, Nat.mul_one, List.nil_append, List.cons_append, List.getElem?_toArray, List.getElem?_cons_zero, List.getElem?_cons_succ, cells_int, cells_bool, cells_string, 
      cells_slice, cells_pointer, cells_agg, one_int, one_bool, one_string, one_slice, one_pointer, List.setIfInBounds_toArray, List.set_cons_zero, List.set_cons_succ, ↓xSq_r, ↓xPur_s, ↓xRd_s, ↓xRe_s, ↓xDet_s, ↓xDet_ld, 
      ↓xDet_ld2, ↓xDet_ld3, ↓xDet_ld4, World.size_drew, Nat.zero_add, Nat.add_zero, cell_drew, frozen_drew, cell_set_eq, cell_set_o, cell_set_b, Option.map_some, World.frozen?_setCell, decide_true, decide_false, List.not_mem_nil, 
      not_false_eq_true, ↓xGuard_tt, Bool.not_true, Bool.not_false, ←decide_not, ↓ld_2, ↓ld_3, ↓ld_26, ↓ld_29, ↓ld_30, ↓fa_32_0, ↓fa_32_1, ↓fa_32_2, ↓fa_32_3, ↓fa_32_4, ↓bd_28, ↓ia_22, ↓ln_22, s0, p0, d1, d2, d3, d4]
        unfold loamlaw5_CodeBack_j2
        simp (disch := (first | omega | decide | (simp only [World.size_alloc, World.size_setCell, World.size_drew, List.mem_cons, List.not_mem_nil, or_false, not_false_eq_true] <;> omega) | fail)) only [↓xBox_r, ↓loadK_some, ↓loadsK_s, ↓loadsK_n, ↓loadsR_s, ↓loadsR_n, ↓storesK_s, ↓storesK_n, setCells_c, setCells_n, World.setCell_alloc_at, World.setCell_alloc_past, World.cell?_alloc_at, World.cell?_alloc_past, 
      World.frozen?_alloc_at, World.frozen?_alloc_past, World.size_alloc, ↓xPick_t, ↓xPick_f, ↓xGuard_tt, ↓xGuard_ff, ↓xGuard_tf, ↓xGuard_ft, ↓xGuard_u, ↓xNil_r, Option.isNone_some, Option.isNone_none, ↓xIf_t, tick_eq, tickV_eq, ne_eq, 
      dlt_t, dlt_f, dle_t, dle_f, deq_t, deq_f, dne_t, dne_f, not_true_eq_false, Int.reduceAdd, Int.reduceSub, Int.reduceMul, Int.reduceEq, Int.reduceLT, Int.reduceLE, Bool.false_and, Bool.true_and, Bool.and_true, 
      Bool.and_false, ↓xBin_add', ↓xBin_sub', ↓xBin_mul', ↓xBin_quo', ↓xBin_rem', wrap_in, ↓xIf_f, ↓xIf_tt, ↓xEx0, ↓xEx1, ↓xEx2, ↓xEx3, ↓xBin_eqs, ↓xBin_nes, ↓xUn_not, ↓xu8_add, ↓xu8_com, ↓xu8_eql, ↓xu8_neq, ↓xu8_lss, ↓xu16_add, 
      ↓xu16_com, ↓xu16_eql, ↓xu16_neq, ↓xu16_lss, ↓xu32_add, ↓xu32_com, ↓xu32_eql, ↓xu32_neq, ↓xu32_lss, ↓xu64_add, ↓xu64_com, ↓xu64_eql, ↓xu64_neq, ↓xu64_lss, ↓xi64_lss, ↓xi64_eql, ↓xi64_neq, ↓xi64_neg, Int.toNat_natCast, 
      Int.reduceToNat, Nat.reduceMul, Nat.reduceAdd, Nat.reduceSub, Nat.mul_one, List.nil_append, List.cons_append, List.getElem?_toArray, List.getElem?_cons_zero, List.getElem?_cons_succ, cells_int, cells_bool, cells_string, 
      cells_slice, cells_pointer, cells_agg, one_int, one_bool, one_string, one_slice, one_pointer, List.setIfInBounds_toArray, List.set_cons_zero, List.set_cons_succ, ↓xSq_r, ↓xPur_s, ↓xRd_s, ↓xRe_s, ↓xDet_s, ↓xDet_ld, 
      ↓xDet_ld2, ↓xDet_ld3, ↓xDet_ld4, World.size_drew, Nat.zero_add, Nat.add_zero, cell_drew, frozen_drew, cell_set_eq, cell_set_o, cell_set_b, Option.map_some, World.frozen?_setCell, decide_true, decide_false, List.not_mem_nil, 
      not_false_eq_true, ↓xGuard_tt, Bool.not_true, Bool.not_false, ←decide_not, ↓ld_2, ↓ld_3, ↓ld_26, ↓ld_29, ↓ld_30, ↓fa_32_0, ↓fa_32_1, ↓fa_32_2, ↓fa_32_3, ↓fa_32_4, ↓bd_28, ↓ia_22, ↓ln_22, s0, p0, d1, d2, d3, d4]
        exact hnx _ _ ⟨rfl, X3, a3, c3, D3⟩
    · rintro u v3 ⟨hu, X3, a3, c3, D3⟩ nxt
      simp only [List.map_cons, List.map_nil, List.cons.injEq, and_true] at hu
      rw [hu]
      rw [List.drop_length] at D3
      unfold loamlaw5_CodeBack_l2
      simp (disch := (first | omega | decide | (simp only [World.size_alloc, World.size_setCell, World.size_drew, List.mem_cons, List.not_mem_nil, or_false, not_false_eq_true] <;> omega) | fail)) only [↓xBox_r, ↓loadK_some, ↓loadsK_s, ↓loadsK_n, ↓loadsR_s, ↓loadsR_n, ↓storesK_s, ↓storesK_n, setCells_c, setCells_n, World.setCell_alloc_at, World.setCell_alloc_past, World.cell?_alloc_at, World.cell?_alloc_past, 
      World.frozen?_alloc_at, World.frozen?_alloc_past, World.size_alloc, ↓xPick_t, ↓xPick_f, ↓xGuard_tt, ↓xGuard_ff, ↓xGuard_tf, ↓xGuard_ft, ↓xGuard_u, ↓xNil_r, Option.isNone_some, Option.isNone_none, ↓xIf_t, tick_eq, tickV_eq, ne_eq, 
      dlt_t, dlt_f, dle_t, dle_f, deq_t, deq_f, dne_t, dne_f, not_true_eq_false, Int.reduceAdd, Int.reduceSub, Int.reduceMul, Int.reduceEq, Int.reduceLT, Int.reduceLE, Bool.false_and, Bool.true_and, Bool.and_true, 
      Bool.and_false, ↓xBin_add', ↓xBin_sub', ↓xBin_mul', ↓xBin_quo', ↓xBin_rem', wrap_in, ↓xIf_f, ↓xIf_tt, ↓xEx0, ↓xEx1, ↓xEx2, ↓xEx3, ↓xBin_eqs, ↓xBin_nes, ↓xUn_not, ↓xu8_add, ↓xu8_com, ↓xu8_eql, ↓xu8_neq, ↓xu8_lss, ↓xu16_add, 
      ↓xu16_com, ↓xu16_eql, ↓xu16_neq, ↓xu16_lss, ↓xu32_add, ↓xu32_com, ↓xu32_eql, ↓xu32_neq, ↓xu32_lss, ↓xu64_add, ↓xu64_com, ↓xu64_eql, ↓xu64_neq, ↓xu64_lss, ↓xi64_lss, ↓xi64_eql, ↓xi64_neq, ↓xi64_neg, Int.toNat_natCast, 
      Int.reduceToNat, Nat.reduceMul, Nat.reduceAdd, Nat.reduceSub, Nat.mul_one, List.nil_append, List.cons_append, List.getElem?_toArray, List.getElem?_cons_zero, List.getElem?_cons_succ, cells_int, cells_bool, cells_string, 
      cells_slice, cells_pointer, cells_agg, one_int, one_bool, one_string, one_slice, one_pointer, List.setIfInBounds_toArray, List.set_cons_zero, List.set_cons_succ, ↓xSq_r, ↓xPur_s, ↓xRd_s, ↓xRe_s, ↓xDet_s, ↓xDet_ld, 
      ↓xDet_ld2, ↓xDet_ld3, ↓xDet_ld4, World.size_drew, Nat.zero_add, Nat.add_zero, cell_drew, frozen_drew, cell_set_eq, cell_set_o, cell_set_b, Option.map_some, World.frozen?_setCell, decide_true, decide_false, List.not_mem_nil, 
      not_false_eq_true, ↓xGuard_tt, Bool.not_true, Bool.not_false, ←decide_not, ↓ld_2, ↓ld_3, ↓ld_26, ↓ld_29, ↓ld_30, ↓fa_32_0, ↓fa_32_1, ↓fa_32_2, ↓fa_32_3, ↓fa_32_4, ↓bd_28, ↓ia_22, ↓ln_22, s0]
      refine codec_Dec_Left_call (Gives.to (Dec_Left_spec D3) fun v4 F4 => ?_)
      simp (disch := (first | omega | decide | (simp only [World.size_alloc, World.size_setCell, World.size_drew, List.mem_cons, List.not_mem_nil, or_false, not_false_eq_true] <;> omega) | fail)) only [↓xBox_r, ↓loadK_some, ↓loadsK_s, ↓loadsK_n, ↓loadsR_s, ↓loadsR_n, ↓storesK_s, ↓storesK_n, setCells_c, setCells_n, World.setCell_alloc_at, World.setCell_alloc_past, World.cell?_alloc_at, World.cell?_alloc_past, 
      World.frozen?_alloc_at, World.frozen?_alloc_past, World.size_alloc, ↓xPick_t, ↓xPick_f, ↓xGuard_tt, ↓xGuard_ff, ↓xGuard_tf, ↓xGuard_ft, ↓xGuard_u, ↓xNil_r, Option.isNone_some, Option.isNone_none, ↓xIf_t, tick_eq, tickV_eq, ne_eq, 
      dlt_t, dlt_f, dle_t, dle_f, deq_t, deq_f, dne_t, dne_f, not_true_eq_false, Int.reduceAdd, Int.reduceSub, Int.reduceMul, Int.reduceEq, Int.reduceLT, Int.reduceLE, Bool.false_and, Bool.true_and, Bool.and_true, 
      Bool.and_false, ↓xBin_add', ↓xBin_sub', ↓xBin_mul', ↓xBin_quo', ↓xBin_rem', wrap_in, ↓xIf_f, ↓xIf_tt, ↓xEx0, ↓xEx1, ↓xEx2, ↓xEx3, ↓xBin_eqs, ↓xBin_nes, ↓xUn_not, ↓xu8_add, ↓xu8_com, ↓xu8_eql, ↓xu8_neq, ↓xu8_lss, ↓xu16_add, 
      ↓xu16_com, ↓xu16_eql, ↓xu16_neq, ↓xu16_lss, ↓xu32_add, ↓xu32_com, ↓xu32_eql, ↓xu32_neq, ↓xu32_lss, ↓xu64_add, ↓xu64_com, ↓xu64_eql, ↓xu64_neq, ↓xu64_lss, ↓xi64_lss, ↓xi64_eql, ↓xi64_neq, ↓xi64_neg, Int.toNat_natCast, 
      Int.reduceToNat, Nat.reduceMul, Nat.reduceAdd, Nat.reduceSub, Nat.mul_one, List.nil_append, List.cons_append, List.getElem?_toArray, List.getElem?_cons_zero, List.getElem?_cons_succ, cells_int, cells_bool, cells_string, 
      cells_slice, cells_pointer, cells_agg, one_int, one_bool, one_string, one_slice, one_pointer, List.setIfInBounds_toArray, List.set_cons_zero, List.set_cons_succ, ↓xSq_r, ↓xPur_s, ↓xRd_s, ↓xRe_s, ↓xDet_s, ↓xDet_ld, 
      ↓xDet_ld2, ↓xDet_ld3, ↓xDet_ld4, World.size_drew, Nat.zero_add, Nat.add_zero, cell_drew, frozen_drew, cell_set_eq, cell_set_o, cell_set_b, Option.map_some, World.frozen?_setCell, decide_true, decide_false, List.not_mem_nil, 
      not_false_eq_true, ↓xGuard_tt, Bool.not_true, Bool.not_false, ←decide_not, ↓ld_2, ↓ld_3, ↓ld_26, ↓ld_29, ↓ld_30, ↓fa_32_0, ↓fa_32_1, ↓fa_32_2, ↓fa_32_3, ↓fa_32_4, ↓bd_28, ↓ia_22, ↓ln_22, allB, List.flatMap_nil, List.length_nil]
      refine codec_Dec_Err_call (Gives.to (Dec_Err_spec (D3.ext0 F4)) fun v5 F5 => ?_)
      simp (disch := (first | omega | decide | (simp only [World.size_alloc, World.size_setCell, World.size_drew, List.mem_cons, List.not_mem_nil, or_false, not_false_eq_true] <;> omega) | fail)) only [↓xBox_r, ↓loadK_some, ↓loadsK_s, ↓loadsK_n, ↓loadsR_s, ↓loadsR_n, ↓storesK_s, ↓storesK_n, setCells_c, setCells_n, World.setCell_alloc_at, World.setCell_alloc_past, World.cell?_alloc_at, World.cell?_alloc_past, 
      World.frozen?_alloc_at, World.frozen?_alloc_past, World.size_alloc, ↓xPick_t, ↓xPick_f, ↓xGuard_tt, ↓xGuard_ff, ↓xGuard_tf, ↓xGuard_ft, ↓xGuard_u, ↓xNil_r, Option.isNone_some, Option.isNone_none, ↓xIf_t, tick_eq, tickV_eq, ne_eq, 
      dlt_t, dlt_f, dle_t, dle_f, deq_t, deq_f, dne_t, dne_f, not_true_eq_false, Int.reduceAdd, Int.reduceSub, Int.reduceMul, Int.reduceEq, Int.reduceLT, Int.reduceLE, Bool.false_and, Bool.true_and, Bool.and_true, 
      Bool.and_false, ↓xBin_add', ↓xBin_sub', ↓xBin_mul', ↓xBin_quo', ↓xBin_rem', wrap_in, ↓xIf_f, ↓xIf_tt, ↓xEx0, ↓xEx1, ↓xEx2, ↓xEx3, ↓xBin_eqs, ↓xBin_nes, ↓xUn_not, ↓xu8_add, ↓xu8_com, ↓xu8_eql, ↓xu8_neq, ↓xu8_lss, ↓xu16_add, 
      ↓xu16_com, ↓xu16_eql, ↓xu16_neq, ↓xu16_lss, ↓xu32_add, ↓xu32_com, ↓xu32_eql, ↓xu32_neq, ↓xu32_lss, ↓xu64_add, ↓xu64_com, ↓xu64_eql, ↓xu64_neq, ↓xu64_lss, ↓xi64_lss, ↓xi64_eql, ↓xi64_neq, ↓xi64_neg, Int.toNat_natCast, 
      Int.reduceToNat, Nat.reduceMul, Nat.reduceAdd, Nat.reduceSub, Nat.mul_one, List.nil_append, List.cons_append, List.getElem?_toArray, List.getElem?_cons_zero, List.getElem?_cons_succ, cells_int, cells_bool, cells_string, 
      cells_slice, cells_pointer, cells_agg, one_int, one_bool, one_string, one_slice, one_pointer, List.setIfInBounds_toArray, List.set_cons_zero, List.set_cons_succ, ↓xSq_r, ↓xPur_s, ↓xRd_s, ↓xRe_s, ↓xDet_s, ↓xDet_ld, 
      ↓xDet_ld2, ↓xDet_ld3, ↓xDet_ld4, World.size_drew, Nat.zero_add, Nat.add_zero, cell_drew, frozen_drew, cell_set_eq, cell_set_o, cell_set_b, Option.map_some, World.frozen?_setCell, decide_true, decide_false, List.not_mem_nil, 
      not_false_eq_true, ↓xGuard_tt, Bool.not_true, Bool.not_false, ←decide_not, ↓ld_2, ↓ld_3, ↓ld_26, ↓ld_29, ↓ld_30, ↓fa_32_0, ↓fa_32_1, ↓fa_32_2, ↓fa_32_3, ↓fa_32_4, ↓bd_28, ↓ia_22, ↓ln_22, s0]
      exact ⟨by trivial, (G0.trans X3).trans (F4.trans F5)⟩
end Go.Proofs.Ytlllabaipfmnjaa
