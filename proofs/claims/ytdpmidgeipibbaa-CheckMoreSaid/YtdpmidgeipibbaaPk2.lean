/- The statement on looking at spaces, walked (sq). Graphs that come in (sq). A graph as the document's (sq). What the document says of a graph: whether it may be, how many words it takes (sq). A graph's words, counted; bytes as words; places (sq). A graph in words, by the document (sq). The statement on images that are too long or too short, walked (sq). -/
import Derived.Test.YtdpmidgeipibbaaPk1
import Derived.Test.YtdpmidgeipibbaaEng16
section
set_option linter.unusedVariables false
set_option linter.unusedSimpArgs false
set_option maxHeartbeats 4000000
namespace Go.Proofs.Ytdpmidgeipibbaa
open Go.Sh Go.RowKit Go.ChangeShapes Go.WideShapes Go.ChangeAt

def imgF (l : List (BitVec 64)) (os : List Nat) (bad : Option Nat) : List Fnd := magF l ++ if sizeOk l then allF (wat l) os bad else [(1, sSize)]
abbrev rsChk7_0 := (And.intro @xBox_r (And.intro @loadK_some (And.intro @loadsK_s (And.intro @loadsK_n (And.intro @loadsR_s (And.intro @loadsR_n (And.intro @storesK_s (And.intro @storesK_n (And.intro @xPick_t (And.intro @xPick_f (And.intro @xGuard_tt (And.intro @xGuard_ff (And.intro @xGuard_tf (And.intro @xGuard_ft (And.intro @xGuard_u 
  (And.intro @xNil_r (And.intro @xIf_t (And.intro @xBin_add' (And.intro @xBin_sub' (And.intro @xBin_mul' (And.intro @xBin_quo' (And.intro @xBin_rem' (And.intro @xIf_f (And.intro @xIf_tt (And.intro @xEx0 (And.intro @xEx1 (And.intro @xEx2 (And.intro @xEx3 (And.intro @xBin_eqs (And.intro @xBin_nes (And.intro @xUn_not (And.intro @xu8_eql (And.intro @xu16_eql 
  (And.intro @xu32_eql (And.intro @xu64_eql (And.intro @xi64_eql (And.intro @xMakeFunc_r (And.intro @xSq_r (And.intro @xPur_s (And.intro @xRd_s (And.intro @xRe_s (And.intro @xDet_s (And.intro @xDet_ld (And.intro @xDet_ld2 (And.intro @xDet_ld3 (And.intro @xDet_ld4 (And.intro @xGuard_tt @ln_37)))))))))))))))))))))))))))))))))))))))))))))))
abbrev rsChk7_1 := (And.intro @setCells_c (And.intro @setCells_n (And.intro @World.setCell_alloc_at (And.intro @World.setCell_alloc_past (And.intro @World.cell?_alloc_at (And.intro @World.cell?_alloc_past (And.intro @World.frozen?_alloc_at (And.intro @World.frozen?_alloc_past 
  (And.intro @World.size_alloc (And.intro @dlt_t (And.intro @dlt_f (And.intro @dle_t (And.intro @dle_f (And.intro @deq_t (And.intro @deq_f (And.intro @dne_t (And.intro @dne_f (And.intro @not_true_eq_false (And.intro @Bool.false_and (And.intro @Bool.true_and (And.intro @Bool.and_true (And.intro @Bool.and_false (And.intro @wrap_in (And.intro @Int.toNat_natCast 
  (And.intro @Nat.mul_one (And.intro @cells_int (And.intro @cells_bool (And.intro @cells_string (And.intro @cells_slice (And.intro @cells_pointer (And.intro @cells_agg (And.intro @one_int (And.intro @one_bool (And.intro @one_string (And.intro @one_slice (And.intro @one_pointer (And.intro @beq_tt (And.intro @beq_ff (And.intro @beq_tf 
  (And.intro @beq_ft (And.intro @cell_sets_b (And.intro @frozen_sets (And.intro @size_sets (And.intro @World.size_drew (And.intro @Nat.zero_add (And.intro @Nat.add_zero (And.intro @cell_drew (And.intro @frozen_drew (And.intro @cell_set_eq (And.intro @cell_set_o (And.intro @cell_set_b (And.intro @World.frozen?_setCell 
  (And.intro @decide_true (And.intro @decide_false (And.intro @not_false_eq_true (And.intro @Bool.not_true @Bool.not_false))))))))))))))))))))))))))))))))))))))))))))))))))))))))
theorem CRight_n0 (l : List (BitVec 64)) (a : Option Addr) (c : Nat) (w : World) (h : RowAt w a (wrds l)) (hc : l.length ≤ c) (hl : l.length ≤ 8192) (hn : sizeOk l → nR l = 0) :
    Yld Try.prog n_check_Right #[.slice a l.length c] w fun u w' => ∃ os bad, (sizeOk l → Sc (wat l) l.length 2 os bad) ∧ u = .bool (decide ((imgF l os bad).length = 0)) ∧ Ext [] w w' := by
  refine check_Right_of ?_
  unfold check_Right
  refine check_Image_call (Yld.mono (Image_n0 l a c w h hc hl hn) ?_)
  rintro u w1 ⟨os, bad, hS, F1, a2, c2, rfl, _, _, R1⟩
  have hf : magF l ++ (if sizeOk l then allF (wat l) os bad else [(1, sSize)]) = imgF l os bad := rfl
  rw [hf]
  have e : decide (((imgF l os bad).length : Int) = 0) = decide ((imgF l os bad).length = 0) := by
    rw [decide_eq_decide]
    omega
  simp (disch := (first | omega | decide | (simp only [World.size_alloc, World.size_setCell, World.size_drew, size_sets, List.mem_cons, List.not_mem_nil, or_false, not_false_eq_true] <;> omega) | fail)) only [↓rsChk7_0, rsChk7_1, Option.isNone_some, Option.isNone_none, tick_eq, tickV_eq, ne_eq, Int.reduceAdd, Int.reduceSub, Int.reduceMul, Int.reduceEq, Int.reduceLT, Int.reduceLE, Int.reduceToNat, Nat.reduceMul, Nat.reduceAdd, Nat.reduceSub, List.nil_append, List.cons_append, List.getElem?_toArray, List.getElem?_cons_zero, List.getElem?_cons_succ, List.setIfInBounds_toArray, List.set_cons_zero, List.set_cons_succ, Option.map_some, List.not_mem_nil, ←decide_not, e]
  exact ⟨os, bad, hS, by trivial, F1⟩
def LA : List (BitVec 64) := [BitVec.ofNat 64 1296125772, BitVec.ofNat 64 196608, BitVec.ofNat 64 9223372036854775808]
def LB : List (BitVec 64) := [BitVec.ofNat 64 1296125772, BitVec.ofNat 64 196608, BitVec.ofNat 64 5]
theorem imgA (os : List Nat) (bad : Option Nat) (h : sizeOk LA → Sc (wat LA) LA.length 2 os bad) : imgF LA os bad = [] := by
  have hs : sizeOk LA := by decide +kernel
  have e : 2 + szW (wat LA 2) = LA.length := by decide +kernel
  obtain ⟨rfl, rfl⟩ := (h hs).uniq (.step (by decide +kernel) (by decide +kernel) (by rw [e]; exact .done))
  decide +kernel
theorem imgB (os : List Nat) (bad : Option Nat) (h : sizeOk LB → Sc (wat LB) LB.length 2 os bad) : imgF LB os bad = [(2, sHead)] := by
  have hs : sizeOk LB := by decide +kernel
  obtain ⟨rfl, rfl⟩ := (h hs).uniq (.bad (by decide +kernel) (by decide +kernel))
  decide +kernel
theorem imgN (os : List Nat) (bad : Option Nat) : imgF [] os bad = [(0, sMagic), (1, sSize)] := by
  unfold imgF
  rw [if_neg (by decide +kernel)]
  decide +kernel
theorem rowW (w : World) (l : List (BitVec 64)) : RowAt (w.alloc (.cells (wrds l).toArray 69)) (some ⟨w.heap.size, 0, none⟩) (wrds l) := (Blk.new (e := 69) w (wrds l)).row
abbrev rsChk7_2 := (And.intro @xBox_r (And.intro @loadK_some (And.intro @loadsK_s (And.intro @loadsK_n (And.intro @loadsR_s (And.intro @loadsR_n (And.intro @storesK_s (And.intro @storesK_n (And.intro @xPick_t (And.intro @xPick_f (And.intro @xGuard_tt (And.intro @xGuard_ff (And.intro @xGuard_tf (And.intro @xGuard_ft (And.intro @xGuard_u 
  (And.intro @xNil_r (And.intro @xIf_t (And.intro @xBin_add' (And.intro @xBin_sub' (And.intro @xBin_mul' (And.intro @xBin_quo' (And.intro @xBin_rem' (And.intro @xIf_f (And.intro @xIf_tt (And.intro @xEx0 (And.intro @xEx1 (And.intro @xEx2 (And.intro @xEx3 (And.intro @xBin_eqs (And.intro @xBin_nes (And.intro @xUn_not (And.intro @xu8_com (And.intro @xu8_eql 
  (And.intro @xu16_com (And.intro @xu16_eql (And.intro @xu32_com (And.intro @xu32_eql (And.intro @xu64_com (And.intro @xu64_eql (And.intro @xi64_eql (And.intro @xMakeFunc_r (And.intro @xSq_r (And.intro @xPur_s (And.intro @xRd_s (And.intro @xRe_s (And.intro @xDet_s (And.intro @xDet_ld (And.intro @xDet_ld2 (And.intro @xDet_ld3 (And.intro @xDet_ld4 
  (And.intro @xGuard_tt (And.intro @ld_3 (And.intro @ld_9 (And.intro @fa_40_0 (And.intro @fa_40_1 (And.intro @ia_37 (And.intro @ln_37 (And.intro @bs_28_0 (And.intro @bs_28_1 (And.intro @bs_28_2 @bs_28_3))))))))))))))))))))))))))))))))))))))))))))))))))))))))))))
theorem known26_spec (w : World) : Gives Try.prog n_loamlaw26_known #[] w (.bool true) := by
  refine loamlaw26_known_of ?_
  unfold loamlaw26_known
  simp (disch := (first | omega | decide | (simp only [World.size_alloc, World.size_setCell, World.size_drew, size_sets, List.mem_cons, List.not_mem_nil, or_false, not_false_eq_true] <;> omega) | fail)) only [↓rsChk7_2, rsChk7_1, Option.isNone_some, Option.isNone_none, tick_eq, tickV_eq, ne_eq, Int.reduceAdd, Int.reduceSub, Int.reduceMul, Int.reduceEq, Int.reduceLT, Int.reduceLE, Int.reduceToNat, Nat.reduceMul, Nat.reduceAdd, Nat.reduceSub, List.nil_append, List.cons_append, List.getElem?_toArray, List.getElem?_cons_zero, List.getElem?_cons_succ, List.setIfInBounds_toArray, List.set_cons_zero, List.set_cons_succ, Option.map_some, List.not_mem_nil, ←decide_not, eq_self]
  have RA : RowAt (w.alloc (.cells #[c64 1296125772, c64 196608, c64 9223372036854775808] 69)) (some ⟨w.heap.size, 0, none⟩) (wrds LA) := rowW w LA
  have XA : Ext [] w (w.alloc (.cells #[c64 1296125772, c64 196608, c64 9223372036854775808] 69)) := Ext.alloc _ _ _
  have RB := rowW (w.alloc (.cells #[c64 1296125772, c64 196608, c64 9223372036854775808] 69)) LB
  rw [World.size_alloc] at RB
  have RB' : RowAt ((w.alloc (.cells #[c64 1296125772, c64 196608, c64 9223372036854775808] 69)).alloc (.cells #[c64 1296125772, c64 196608, c64 5] 69)) (some ⟨w.heap.size + 1, 0, none⟩) (wrds LB) := RB
  have XB : Ext [] (w.alloc (.cells #[c64 1296125772, c64 196608, c64 9223372036854775808] 69)) ((w.alloc (.cells #[c64 1296125772, c64 196608, c64 9223372036854775808] 69)).alloc (.cells #[c64 1296125772, c64 196608, c64 5] 69)) := Ext.alloc _ _ _
  have RA2 := RA.ext0 XB
  have X2 := XA.trans XB
  generalize (w.alloc (.cells #[c64 1296125772, c64 196608, c64 9223372036854775808] 69)).alloc (.cells #[c64 1296125772, c64 196608, c64 5] 69) = y at *
  generalize w.heap.size + 1 = B at *
  generalize w.heap.size = A at *
  have cH : strOf sHead = { data := #[104, 101, 97, 100] } := by decide +kernel
  have cM : strOf sMagic = { data := #[109, 97, 103, 105, 99] } := by decide +kernel
  have cS : strOf sSize = { data := #[115, 105, 122, 101] } := by decide +kernel
  refine check_Image_call (Yld.mono (Image_n0 LB (some ⟨B, 0, none⟩) 3 y RB' (by decide) (by decide) (fun _ => by decide +kernel)) ?_)
  rintro u w3 ⟨os, bad, hS, F3, a5, c5, rfl, hc5, hn5, R5⟩
  have e5 : (magF LB ++ if sizeOk LB then allF (wat LB) os bad else [(1, sSize)]) = [(2, sHead)] := imgB os bad hS
  rw [e5] at R5 hc5 ⊢
  simp (disch := (first | omega | decide | (simp only [World.size_alloc, World.size_setCell, World.size_drew, size_sets, List.mem_cons, List.not_mem_nil, or_false, not_false_eq_true] <;> omega) | fail)) only [↓rsChk7_2, rsChk7_1, Option.isNone_some, Option.isNone_none, tick_eq, tickV_eq, ne_eq, Int.reduceAdd, Int.reduceSub, Int.reduceMul, Int.reduceEq, Int.reduceLT, Int.reduceLE, Int.reduceToNat, Nat.reduceMul, Nat.reduceAdd, Nat.reduceSub, List.nil_append, List.cons_append, List.getElem?_toArray, List.getElem?_cons_zero, List.getElem?_cons_succ, List.setIfInBounds_toArray, List.set_cons_zero, List.set_cons_succ, Option.map_some, List.not_mem_nil, ←decide_not, eq_self]
  refine check_Image_call (Yld.mono (Image_n0 [] none 0 w3 RowAt.nil (by decide) (by decide) (fun h => absurd h (by decide +kernel))) ?_)
  rintro u w4 ⟨os2, bad2, _, F4, a7, c7, rfl, hc7, hn7, R7⟩
  have e7 : (magF [] ++ if sizeOk [] then allF (wat []) os2 bad2 else [(1, sSize)]) = [(0, sMagic), (1, sSize)] := imgN os2 bad2
  rw [e7] at R7 hc7 ⊢
  simp (disch := (first | omega | decide | (simp only [World.size_alloc, World.size_setCell, World.size_drew, size_sets, List.mem_cons, List.not_mem_nil, or_false, not_false_eq_true] <;> omega) | fail)) only [↓rsChk7_2, rsChk7_1, Option.isNone_some, Option.isNone_none, tick_eq, tickV_eq, ne_eq, Int.reduceAdd, Int.reduceSub, Int.reduceMul, Int.reduceEq, Int.reduceLT, Int.reduceLE, Int.reduceToNat, Nat.reduceMul, Nat.reduceAdd, Nat.reduceSub, List.nil_append, List.cons_append, List.getElem?_toArray, List.getElem?_cons_zero, List.getElem?_cons_succ, List.setIfInBounds_toArray, List.set_cons_zero, List.set_cons_succ, Option.map_some, List.not_mem_nil, ←decide_not, eq_self]
  refine check_Right_call (Yld.mono (CRight_n0 LA (some ⟨A, 0, none⟩) 3 w4 ((RA2.ext0 F3).ext0 F4) (by decide) (by decide) (fun _ => by decide +kernel)) ?_)
  rintro u w5 ⟨os3, bad3, hS3, rfl, F5⟩
  have e8 : decide ((imgF LA os3 bad3).length = 0) = true := by rw [imgA os3 bad3 hS3]; rfl
  rw [e8]
  simp (disch := (first | omega | decide | (simp only [World.size_alloc, World.size_setCell, World.size_drew, size_sets, List.mem_cons, List.not_mem_nil, or_false, not_false_eq_true] <;> omega) | fail)) only [↓rsChk7_2, rsChk7_1, Option.isNone_some, Option.isNone_none, tick_eq, tickV_eq, ne_eq, Int.reduceAdd, Int.reduceSub, Int.reduceMul, Int.reduceEq, Int.reduceLT, Int.reduceLE, Int.reduceToNat, Nat.reduceMul, Nat.reduceAdd, Nat.reduceSub, List.nil_append, List.cons_append, List.getElem?_toArray, List.getElem?_cons_zero, List.getElem?_cons_succ, List.setIfInBounds_toArray, List.set_cons_zero, List.set_cons_succ, Option.map_some, List.not_mem_nil, ←decide_not, eq_self]
  refine check_Image_call (Yld.mono (Image_n0 LA (some ⟨A, 0, none⟩) 3 w5 (((RA2.ext0 F3).ext0 F4).ext0 F5) (by decide) (by decide) (fun _ => by decide +kernel)) ?_)
  rintro u w6 ⟨os4, bad4, hS4, F6, a9, c9, rfl, hc9, hn9, R9⟩
  have e9 : (magF LA ++ if sizeOk LA then allF (wat LA) os4 bad4 else [(1, sSize)]) = [] := imgA os4 bad4 hS4
  rw [e9]
  obtain ⟨b1, o1, rfl, z1, k1, k2⟩ := fnd_at (R5.ext0 (F4.trans (F5.trans F6))) (k := 0) (by simp)
  obtain ⟨b2, o2, rfl, z2, _, k3⟩ := fnd_at (R7.ext0 (F5.trans F6)) (k := 0) (by simp)
  obtain ⟨b3, o3, hb3, z3, _, k4⟩ := fnd_at (R7.ext0 (F5.trans F6)) (k := 1) (by simp)
  simp only [Option.some.injEq, Addr.mk.injEq, and_true] at hb3
  obtain ⟨rfl, rfl⟩ := hb3
  have k1' : w6.cell? ⟨b1, o1, none⟩ = some (i64 2) := k1
  have k2' : w6.cell? ⟨b1, o1 + 1, none⟩ = some (.string (strOf sHead)) := k2
  have k3' : w6.cell? ⟨b2, o2 + 1, none⟩ = some (.string (strOf sMagic)) := k3
  have k4' : w6.cell? ⟨b2, o2 + 2 + 1, none⟩ = some (.string (strOf sSize)) := k4
  rw [cH] at k2'
  rw [cM] at k3'
  rw [cS] at k4'
  simp (disch := (first | omega | decide | (simp only [World.size_alloc, World.size_setCell, World.size_drew, size_sets, List.mem_cons, List.not_mem_nil, or_false, not_false_eq_true] <;> omega) | fail)) only [↓rsChk7_2, rsChk7_1, Option.isNone_some, Option.isNone_none, tick_eq, tickV_eq, ne_eq, Int.reduceAdd, Int.reduceSub, Int.reduceMul, Int.reduceEq, Int.reduceLT, Int.reduceLE, Int.reduceToNat, Nat.reduceMul, Nat.reduceAdd, Nat.reduceSub, List.nil_append, List.cons_append, List.getElem?_toArray, List.getElem?_cons_zero, List.getElem?_cons_succ, List.setIfInBounds_toArray, List.set_cons_zero, List.set_cons_succ, Option.map_some, List.not_mem_nil, ←decide_not, k1', k2', k3', k4']
  refine check_Right_call (Yld.mono (CRight_n0 [] none 0 w6 RowAt.nil (by decide) (by decide) (fun h => absurd h (by decide +kernel))) ?_)
  rintro u w7 ⟨os5, bad5, _, rfl, F7⟩
  have e10 : decide ((imgF [] os5 bad5).length = 0) = false := by rw [imgN]; rfl
  rw [e10]
  simp (disch := (first | omega | decide | (simp only [World.size_alloc, World.size_setCell, World.size_drew, size_sets, List.mem_cons, List.not_mem_nil, or_false, not_false_eq_true] <;> omega) | fail)) only [↓rsChk7_2, rsChk7_1, Option.isNone_some, Option.isNone_none, tick_eq, tickV_eq, ne_eq, Int.reduceAdd, Int.reduceSub, Int.reduceMul, Int.reduceEq, Int.reduceLT, Int.reduceLE, Int.reduceToNat, Nat.reduceMul, Nat.reduceAdd, Nat.reduceSub, List.nil_append, List.cons_append, List.getElem?_toArray, List.getElem?_cons_zero, List.getElem?_cons_succ, List.setIfInBounds_toArray, List.set_cons_zero, List.set_cons_succ, Option.map_some, List.not_mem_nil, ←decide_not, k1', k2', k3', k4']
  exact ⟨by trivial, X2.trans (F3.trans (F4.trans (F5.trans (F6.trans F7))))⟩
end Go.Proofs.Ytdpmidgeipibbaa
end
section
set_option linter.unusedVariables false
set_option linter.unusedSimpArgs false
set_option maxHeartbeats 4000000
namespace Go.Proofs.Ytdpmidgeipibbaa
open Go.Sh Go.RowKit Go.ChangeShapes Go.WideShapes Go.ChangeAt

structure GN where
  p : List Int
  pa : Option Addr
  pc : Nat
  d : List (BitVec 8)
  da : Option Addr
  dc : Nat
structure GR where
  s : List (BitVec 8)
  to : Int
abbrev gnC (x : GN) : List Value := [.slice x.pa x.p.length x.pc, .slice x.da x.d.length x.dc]
abbrev grC (r : GR) : List Value := [.string (strOf r.s), i64 r.to]
abbrev its (l : List Int) : List Value := l.map fun i => i64 i
structure NOk (w : World) (x : GN) : Prop where
  pr : RowAt w x.pa (its x.p)
  pl : x.p.length ≤ x.pc
  pn : x.pa = none → x.pc = 0
  dr : RowAt w x.da (bys x.d)
  dl : x.d.length ≤ x.dc
  dn : x.da = none → x.dc = 0
theorem NOk.ext0 {w w' : World} {x : GN} (h : NOk w x) (hx : Ext [] w w') : NOk w' x := ⟨h.pr.ext0 hx, h.pl, h.pn, h.dr.ext0 hx, h.dl, h.dn⟩
/-- a graph's two rows -/
structure GIs (w : World) (na : Option Addr) (nc : Nat) (ra : Option Addr) (rc : Nat) (ns : List GN) (rs : List GR) : Prop where
  nr : RowAt w na (ns.flatMap gnC)
  nl : ns.length ≤ nc
  nn : na = none → nc = 0
  rr : RowAt w ra (rs.flatMap grC)
  rl : rs.length ≤ rc
  rn : ra = none → rc = 0
  ok : ∀ x ∈ ns, NOk w x
theorem GIs.ext0 {w w' : World} {na ra : Option Addr} {nc rc : Nat} {ns : List GN} {rs : List GR} (h : GIs w na nc ra rc ns rs) (hx : Ext [] w w') : GIs w' na nc ra rc ns rs :=
  ⟨h.nr.ext0 hx, h.nl, h.nn, h.rr.ext0 hx, h.rl, h.rn, fun x hm => (h.ok x hm).ext0 hx⟩
abbrev gV (na : Option Addr) (nc : Nat) (ra : Option Addr) (rc : Nat) (ns : List GN) (rs : List GR) : Value := .agg #[.slice na ns.length nc, .slice ra rs.length rc]
theorem pair_len {α : Type} {f : α → List Value} (hf : ∀ x, (f x).length = 2) (l : List α) : (l.flatMap f).length = l.length * 2 := by
  induction l with
  | nil => rfl
  | cons x l ih => rw [List.flatMap_cons, List.length_append, ih, List.length_cons, hf]; omega
theorem pair_cell {α : Type} {f : α → List Value} (hf : ∀ x, (f x).length = 2) : ∀ (l : List α) (k : Nat) (h : k < l.length) (j : Nat), j < 2 → (l.flatMap f)[k * 2 + j]? = (f l[k])[j]? := by
  intro l
  induction l with
  | nil => intro k h; simp at h
  | cons x l ih =>
    intro k h j hj
    rw [List.flatMap_cons]
    cases k with
    | zero => rw [List.getElem?_append_left (by rw [hf]; omega)]; simp
    | succ k =>
      rw [List.getElem?_append_right (by rw [hf]; omega), show (k + 1) * 2 + j - (f x).length = k * 2 + j by rw [hf]; omega]
      simpa using ih k (by simpa using h) j hj
theorem pair_at {α : Type} {f : α → List Value} (hf : ∀ x, (f x).length = 2) {w : World} {l : List α} {a : Option Addr} {k : Nat} (h : RowAt w a (l.flatMap f)) (hk : k < l.length) :
    ∃ b o, a = some ⟨b, o, none⟩ ∧ b < w.heap.size ∧ (∀ x, (f l[k])[0]? = some x → w.cell? ⟨b, o + k * 2, none⟩ = some x) ∧ ∀ x, (f l[k])[1]? = some x → w.cell? ⟨b, o + k * 2 + 1, none⟩ = some x := by
  obtain ⟨b, o, rfl, hb, hc⟩ := h.get (by intro e; have := congrArg List.length e; rw [pair_len hf] at this; simp only [List.length_nil] at this; omega)
  refine ⟨b, o, rfl, hb, fun x hx => ?_, fun x hx => ?_⟩
  · have := hc (k * 2 + 0) x ((pair_cell hf l k hk 0 (by omega)).trans hx); simpa using this
  · have := hc (k * 2 + 1) x ((pair_cell hf l k hk 1 (by omega)).trans hx); rw [Nat.add_assoc]; exact this
theorem gn_at {w : World} {l : List GN} {a : Option Addr} {k : Nat} (h : RowAt w a (l.flatMap gnC)) (hk : k < l.length) :
    ∃ b o, a = some ⟨b, o, none⟩ ∧ b < w.heap.size ∧ w.cell? ⟨b, o + k * 2, none⟩ = some (.slice l[k].pa l[k].p.length l[k].pc) ∧ w.cell? ⟨b, o + k * 2 + 1, none⟩ = some (.slice l[k].da l[k].d.length l[k].dc) := by
  obtain ⟨b, o, h1, h2, h3, h4⟩ := pair_at (fun _ => rfl) h hk
  exact ⟨b, o, h1, h2, h3 _ rfl, h4 _ rfl⟩
theorem gr_at {w : World} {l : List GR} {a : Option Addr} {k : Nat} (h : RowAt w a (l.flatMap grC)) (hk : k < l.length) :
    ∃ b o, a = some ⟨b, o, none⟩ ∧ b < w.heap.size ∧ w.cell? ⟨b, o + k * 2, none⟩ = some (.string (strOf l[k].s)) ∧ w.cell? ⟨b, o + k * 2 + 1, none⟩ = some (i64 l[k].to) := by
  obtain ⟨b, o, h1, h2, h3, h4⟩ := pair_at (fun _ => rfl) h hk
  exact ⟨b, o, h1, h2, h3 _ rfl, h4 _ rfl⟩
theorem list2 {α : Type} {l : List α} (h : l.length = 2) : ∃ a b, l = [a, b] := by
  match l, h with
  | [a, b], _ => exact ⟨a, b, rfl⟩
theorem gn_cells {W : World} {cs : List Value} (hl : cs.length = 2) (hc : ∀ (i : Nat) (d : Leaf) (c : Value), [Leaf.row .i64, .row .u8][i]? = some d → cs[i]? = some c → leafOk W d c) : ∃ x : GN, cs = gnC x ∧ NOk W x := by
  obtain ⟨c0, c1, rfl⟩ := list2 hl
  obtain ⟨a, n, c, zs, rfl, q1, q2, q3, q4, q5, q6⟩ := hc 0 _ _ rfl rfl
  obtain ⟨a', n', c', zs', rfl, r1, r2, r3, r4, r5, r6⟩ := hc 1 _ _ rfl rfl
  have B := bytesArg r1 r2 r3 r4 r5 r6
  refine ⟨⟨zs, a, c, zs'.map (BitVec.ofInt 8), a', c'⟩, ?_, ⟨q5, by simpa using (q1 ▸ q2), q4, B.row, by rw [← B.len]; exact r2, r4⟩⟩
  simp only [gnC]
  rw [← B.len, q1]
theorem gr_cells {W : World} {cs : List Value} (hl : cs.length = 2) (hc : ∀ (i : Nat) (d : Leaf) (c : Value), [Leaf.str, .int .i64][i]? = some d → cs[i]? = some c → leafOk W d c) : ∃ x : GR, cs = grC x := by
  obtain ⟨c0, c1, rfl⟩ := list2 hl
  obtain ⟨s, rfl⟩ := hc 0 _ _ rfl rfl
  obtain ⟨z, rfl, _⟩ := hc 1 _ _ rfl rfl
  have e : Go.Sh.strOf (s.data.toList.map UInt8.toBitVec) = s := by
    cases s with | mk d =>
    unfold Go.Sh.strOf
    congr 1
    rw [List.map_map]
    have : ∀ l : List UInt8, l.map (UInt8.ofBitVec ∘ UInt8.toBitVec) = l := fun l => (List.map_congr_left (g := id) fun x _ => rfl).trans (List.map_id _)
    rw [this]
  exact ⟨⟨s.data.toList.map UInt8.toBitVec, z⟩, by simp only [grC]; rw [e]⟩
set_option maxRecDepth 100000 in
theorem graph_open {H : Type} {enc : TypeId × Value → H} {W : World} {base : Nat} {v : Value} {d : DataW H} {p : List MemPlace} (hv : Value.okWide Try.prog W .any base 25 v) (h : DataW.Trod enc Try.prog W 0 (fun _ => true) true 25 v d p) :
    ∃ na nc ra rc ns rs, v = gV na nc ra rc ns rs ∧ GIs W na nc ra rc ns rs := by
  obtain ⟨a, n, c, b, m, k, C, D, rfl, ⟨h1, h2, h3⟩, ⟨g1, g2, g3⟩, hC, hR, hD, hR2⟩ := open_two (ea := 72) (eb := 74) (Fa := 2) (Fb := 2) (la := [.row .i64, .row .u8]) (lb := [.str, .int .i64]) (P := Try.prog) Try.underlying25 rfl rfl (by kernel_rfl) (by kernel_rfl) (by kernel_rfl) (by kernel_rfl) (by kernel_rfl) (by decide) (by kernel_rfl) (by kernel_rfl) (by kernel_rfl) (by decide) (by kernel_rfl) hv h
  have each : ∀ i, ∃ x : GN, i < n → C i = gnC x ∧ NOk W x := fun i => by
    by_cases hi : i < n
    · obtain ⟨x, h1, h2⟩ := gn_cells (hC i hi).1 (hC i hi).2
      exact ⟨x, fun _ => ⟨h1, h2⟩⟩
    · exact ⟨⟨[], none, 0, [], none, 0⟩, fun h => absurd h hi⟩
  have each2 : ∀ i, ∃ x : GR, i < m → D i = grC x := fun i => by
    by_cases hi : i < m
    · obtain ⟨x, h1⟩ := gr_cells (hD i hi).1 (hD i hi).2
      exact ⟨x, fun _ => h1⟩
    · exact ⟨⟨[], 0⟩, fun h => absurd h hi⟩
  obtain ⟨X, hX⟩ : ∃ X : Nat → GN, ∀ i, i < n → C i = gnC (X i) ∧ NOk W (X i) := ⟨fun i => Classical.choose (each i), fun i => Classical.choose_spec (each i)⟩
  obtain ⟨Y, hY⟩ : ∃ Y : Nat → GR, ∀ i, i < m → D i = grC (Y i) := ⟨fun i => Classical.choose (each2 i), fun i => Classical.choose_spec (each2 i)⟩
  refine ⟨a, c, b, k, (List.range n).map X, (List.range m).map Y, by simp [gV], ⟨?_, by simpa using h1, h3, ?_, by simpa using g1, g3, fun x hx => ?_⟩⟩
  · rw [flat_map (f := gnC) (X := X) fun i hi => (hX i hi).1] at hR
    exact hR
  · rw [flat_map (f := grC) (X := Y) fun i hi => hY i hi] at hR2
    exact hR2
  · obtain ⟨i, hi, rfl⟩ := List.mem_map.1 hx
    exact (hX i (List.mem_range.1 hi)).2
structure GP where
  na : Option Addr
  nc : Nat
  ra : Option Addr
  rc : Nat
  ns : List GN
  rs : List GR
abbrev gPV (a : GP) : Value := gV a.na a.nc a.ra a.rc a.ns a.rs
set_option maxRecDepth 100000 in
theorem graph_open1 {H : Type} {enc : TypeId × Value → H} {W : World} {base : Nat} {v : Value} {d : DataW H} {p : List MemPlace} (hv : Value.okWide Try.prog W .any base 25 v) (h : DataW.Trod enc Try.prog W 0 (fun _ => true) true 25 v d p) :
    ∃ a : GP, v = gPV a ∧ GIs W a.na a.nc a.ra a.rc a.ns a.rs := by
  obtain ⟨na, nc, ra, rc, ns, rs, h1, h2⟩ := graph_open hv h
  exact ⟨⟨na, nc, ra, rc, ns, rs⟩, h1, h2⟩
/-- a graph of which a play is worth its while -/
structure FewG (ns : List GN) (rs : List GR) : Prop where
  n : ns.length ≤ 60
  r : rs.length ≤ 80
  x : ∀ x ∈ ns, x.p.length ≤ 70 ∧ x.d.length ≤ 1100
  s : ∀ r ∈ rs, r.s.length ≤ 40
abbrev rsGrp_0 := (And.intro @xBox_r (And.intro @loadK_some (And.intro @loadsK_s (And.intro @loadsK_n (And.intro @loadsR_s (And.intro @loadsR_n (And.intro @storesK_s (And.intro @storesK_n (And.intro @xPick_t (And.intro @xPick_f (And.intro @xGuard_tt (And.intro @xGuard_ff (And.intro @xGuard_tf (And.intro @xGuard_ft (And.intro @xGuard_u 
  (And.intro @xNil_r (And.intro @xIf_t (And.intro @xBin_add' (And.intro @xBin_sub' (And.intro @xBin_mul' (And.intro @xBin_quo' (And.intro @xBin_rem' (And.intro @xIf_f (And.intro @xIf_tt (And.intro @xEx0 (And.intro @xEx1 (And.intro @xEx2 (And.intro @xEx3 (And.intro @xBin_eqs (And.intro @xBin_nes (And.intro @xUn_not (And.intro @xu8_add (And.intro @xu8_lss 
  (And.intro @xu8_gtr (And.intro @xu16_add (And.intro @xu16_lss (And.intro @xu16_gtr (And.intro @xu32_add (And.intro @xu32_lss (And.intro @xu32_gtr (And.intro @xu64_add (And.intro @xu64_lss (And.intro @xu64_gtr (And.intro @xi64_lss (And.intro @xi64_gtr (And.intro @xMakeFunc_r (And.intro @xSq_r (And.intro @xPur_s (And.intro @xRd_s (And.intro @xRe_s 
  (And.intro @xDet_s (And.intro @xDet_ld (And.intro @xDet_ld2 (And.intro @xDet_ld3 (And.intro @xDet_ld4 (And.intro @xGuard_tt (And.intro @ld_9 (And.intro @ld_22 (And.intro @ld_23 (And.intro @ld_66 (And.intro @ld_70 (And.intro @fa_25_0 (And.intro @fa_25_1 (And.intro @fa_72_0 (And.intro @fa_72_1 (And.intro @fa_74_0 (And.intro @ia_22 (And.intro @ia_23 (And.intro @ln_22 
  (And.intro @ln_23 (And.intro @ln_66 (And.intro @ln_70 @ln_9))))))))))))))))))))))))))))))))))))))))))))))))))))))))))))))))))))))))
abbrev rsGrp_1 := (And.intro @setCells_c (And.intro @setCells_n (And.intro @World.setCell_alloc_at (And.intro @World.setCell_alloc_past (And.intro @World.cell?_alloc_at (And.intro @World.cell?_alloc_past (And.intro @World.frozen?_alloc_at (And.intro @World.frozen?_alloc_past 
  (And.intro @World.size_alloc (And.intro @dlt_t (And.intro @dlt_f (And.intro @dle_t (And.intro @dle_f (And.intro @deq_t (And.intro @deq_f (And.intro @dne_t (And.intro @dne_f (And.intro @not_true_eq_false (And.intro @Bool.false_and (And.intro @Bool.true_and (And.intro @Bool.and_true (And.intro @Bool.and_false (And.intro @wrap_in (And.intro @Int.toNat_natCast 
  (And.intro @Nat.mul_one (And.intro @cells_int (And.intro @cells_bool (And.intro @cells_string (And.intro @cells_slice (And.intro @cells_pointer (And.intro @cells_agg (And.intro @one_int (And.intro @one_bool (And.intro @one_string (And.intro @one_slice (And.intro @one_pointer (And.intro @beq_tt (And.intro @beq_ff (And.intro @beq_tf 
  (And.intro @beq_ft (And.intro @cell_sets_b (And.intro @frozen_sets (And.intro @size_sets (And.intro @World.size_drew (And.intro @Nat.zero_add (And.intro @Nat.add_zero (And.intro @cell_drew (And.intro @frozen_drew (And.intro @cell_set_eq (And.intro @cell_set_o (And.intro @cell_set_b (And.intro @World.frozen?_setCell 
  (And.intro @decide_true (And.intro @decide_false (And.intro @not_false_eq_true (And.intro @Bool.not_true @Bool.not_false))))))))))))))))))))))))))))))))))))))))))))))))))))))))
theorem Few_spec {w : World} {na ra : Option Addr} {nc rc : Nat} {ns : List GN} {rs : List GR} (h : GIs w na nc ra rc ns rs) : Yld Try.prog n_loamlaw17_Few #[gV na nc ra rc ns rs] w fun u w' => (∃ b : Bool, u = .bool b ∧ (b = true → FewG ns rs)) ∧ Ext [] w w' := by
  refine loamlaw17_Few_of ?_
  unfold loamlaw17_Few
  simp (disch := (first | omega | decide | (simp only [World.size_alloc, World.size_setCell, World.size_drew, size_sets, List.mem_cons, List.not_mem_nil, or_false, not_false_eq_true] <;> omega) | fail)) only [↓rsGrp_0, rsGrp_1, Option.isNone_some, Option.isNone_none, tick_eq, tickV_eq, ne_eq, Int.reduceAdd, Int.reduceSub, Int.reduceMul, Int.reduceEq, Int.reduceLT, Int.reduceLE, Int.reduceToNat, Nat.reduceMul, Nat.reduceAdd, Nat.reduceSub, List.nil_append, List.cons_append, List.getElem?_toArray, List.getElem?_cons_zero, List.getElem?_cons_succ, List.setIfInBounds_toArray, List.set_cons_zero, List.set_cons_succ, Option.map_some, List.not_mem_nil, ←decide_not, eq_self]
  have B : Blk (w.alloc (.cells #[.slice na ns.length nc, .slice ra rs.length rc] 25)) w.heap.size 25 [.slice na ns.length nc, .slice ra rs.length rc] := Blk.at rfl
  have X : Ext [] w (w.alloc (.cells #[.slice na ns.length nc, .slice ra rs.length rc] 25)) := Ext.alloc _ _ _
  have hy := h.ext0 X
  by_cases h1 : 60 < ns.length
  · simp (disch := (first | omega | decide | (simp only [World.size_alloc, World.size_setCell, World.size_drew, size_sets, List.mem_cons, List.not_mem_nil, or_false, not_false_eq_true] <;> omega) | fail)) only [↓rsGrp_0, rsGrp_1, Option.isNone_some, Option.isNone_none, tick_eq, tickV_eq, ne_eq, Int.reduceAdd, Int.reduceSub, Int.reduceMul, Int.reduceEq, Int.reduceLT, Int.reduceLE, Int.reduceToNat, Nat.reduceMul, Nat.reduceAdd, Nat.reduceSub, List.nil_append, List.cons_append, List.getElem?_toArray, List.getElem?_cons_zero, List.getElem?_cons_succ, List.setIfInBounds_toArray, List.set_cons_zero, List.set_cons_succ, Option.map_some, List.not_mem_nil, ←decide_not, eq_self]
    exact ⟨⟨false, by trivial, fun h => by cases h⟩, X⟩
  by_cases h2 : 80 < rs.length
  · simp (disch := (first | omega | decide | (simp only [World.size_alloc, World.size_setCell, World.size_drew, size_sets, List.mem_cons, List.not_mem_nil, or_false, not_false_eq_true] <;> omega) | fail)) only [↓rsGrp_0, rsGrp_1, Option.isNone_some, Option.isNone_none, tick_eq, tickV_eq, ne_eq, Int.reduceAdd, Int.reduceSub, Int.reduceMul, Int.reduceEq, Int.reduceLT, Int.reduceLE, Int.reduceToNat, Nat.reduceMul, Nat.reduceAdd, Nat.reduceSub, List.nil_append, List.cons_append, List.getElem?_toArray, List.getElem?_cons_zero, List.getElem?_cons_succ, List.setIfInBounds_toArray, List.set_cons_zero, List.set_cons_succ, Option.map_some, List.not_mem_nil, ←decide_not, eq_self]
    exact ⟨⟨false, by trivial, fun h => by cases h⟩, X⟩
  simp (disch := (first | omega | decide | (simp only [World.size_alloc, World.size_setCell, World.size_drew, size_sets, List.mem_cons, List.not_mem_nil, or_false, not_false_eq_true] <;> omega) | fail)) only [↓rsGrp_0, rsGrp_1, Option.isNone_some, Option.isNone_none, tick_eq, tickV_eq, ne_eq, Int.reduceAdd, Int.reduceSub, Int.reduceMul, Int.reduceEq, Int.reduceLT, Int.reduceLE, Int.reduceToNat, Nat.reduceMul, Nat.reduceAdd, Nat.reduceSub, List.nil_append, List.cons_append, List.getElem?_toArray, List.getElem?_cons_zero, List.getElem?_cons_succ, List.setIfInBounds_toArray, List.set_cons_zero, List.set_cons_succ, Option.map_some, List.not_mem_nil, ←decide_not, eq_self]
  generalize w.heap.size = hb at *
  generalize w.alloc (.cells #[.slice na ns.length nc, .slice ra rs.length rc] 25) = y at *
  refine xLoop_n ns.length (fun j => [i64 (j : Int)]) (fun j w' => Ext [] y w' ∧ ∀ i (hi : i < ns.length), i < j → ns[i].p.length ≤ 70 ∧ ns[i].d.length ≤ 1100) rfl ⟨Ext.refl _ _, by intro i _ hi; omega⟩ ?_ ?_
  · intro j hj u v1 hu ⟨F, hq⟩ nxt hnx
    simp only [List.map_cons, List.map_nil, List.cons.injEq, and_true] at hu
    rw [hu]
    have k1 := fun i => (B.ext F (by simp)).cell (i := i)
    obtain ⟨b1, o1, rfl, z1, c1, c2⟩ := gn_at (hy.ext0 F).nr hj
    unfold loamlaw17_Few_l1
    by_cases g1 : 70 < ns[j].p.length
    · simp (disch := (first | omega | decide | (simp only [World.size_alloc, World.size_setCell, World.size_drew, size_sets, List.mem_cons, List.not_mem_nil, or_false, not_false_eq_true] <;> omega) | fail)) only [↓rsGrp_0, rsGrp_1, Option.isNone_some, Option.isNone_none, tick_eq, tickV_eq, ne_eq, Int.reduceAdd, Int.reduceSub, Int.reduceMul, Int.reduceEq, Int.reduceLT, Int.reduceLE, Int.reduceToNat, Nat.reduceMul, Nat.reduceAdd, Nat.reduceSub, List.nil_append, List.cons_append, List.getElem?_toArray, List.getElem?_cons_zero, List.getElem?_cons_succ, List.setIfInBounds_toArray, List.set_cons_zero, List.set_cons_succ, Option.map_some, List.not_mem_nil, ←decide_not, k1, c1, c2]
      exact ⟨⟨false, by trivial, fun h => by cases h⟩, X.trans F⟩
    by_cases g2 : 1100 < ns[j].d.length
    · simp (disch := (first | omega | decide | (simp only [World.size_alloc, World.size_setCell, World.size_drew, size_sets, List.mem_cons, List.not_mem_nil, or_false, not_false_eq_true] <;> omega) | fail)) only [↓rsGrp_0, rsGrp_1, Option.isNone_some, Option.isNone_none, tick_eq, tickV_eq, ne_eq, Int.reduceAdd, Int.reduceSub, Int.reduceMul, Int.reduceEq, Int.reduceLT, Int.reduceLE, Int.reduceToNat, Nat.reduceMul, Nat.reduceAdd, Nat.reduceSub, List.nil_append, List.cons_append, List.getElem?_toArray, List.getElem?_cons_zero, List.getElem?_cons_succ, List.setIfInBounds_toArray, List.set_cons_zero, List.set_cons_succ, Option.map_some, List.not_mem_nil, ←decide_not, k1, c1, c2]
      exact ⟨⟨false, by trivial, fun h => by cases h⟩, X.trans F⟩
    simp (disch := (first | omega | decide | (simp only [World.size_alloc, World.size_setCell, World.size_drew, size_sets, List.mem_cons, List.not_mem_nil, or_false, not_false_eq_true] <;> omega) | fail)) only [↓rsGrp_0, rsGrp_1, Option.isNone_some, Option.isNone_none, tick_eq, tickV_eq, ne_eq, Int.reduceAdd, Int.reduceSub, Int.reduceMul, Int.reduceEq, Int.reduceLT, Int.reduceLE, Int.reduceToNat, Nat.reduceMul, Nat.reduceAdd, Nat.reduceSub, List.nil_append, List.cons_append, List.getElem?_toArray, List.getElem?_cons_zero, List.getElem?_cons_succ, List.setIfInBounds_toArray, List.set_cons_zero, List.set_cons_succ, Option.map_some, List.not_mem_nil, ←decide_not, k1, c1, c2]
    refine hnx _ ⟨F, fun i hi hij => ?_⟩
    by_cases e : i = j
    · subst e; exact ⟨by omega, by omega⟩
    · exact hq i hi (by omega)
  · intro u v1 hu ⟨F, hq⟩ nxt
    simp only [List.map_cons, List.map_nil, List.cons.injEq, and_true] at hu
    rw [hu]
    have k1 := fun i => (B.ext F (by simp)).cell (i := i)
    unfold loamlaw17_Few_l1
    simp (disch := (first | omega | decide | (simp only [World.size_alloc, World.size_setCell, World.size_drew, size_sets, List.mem_cons, List.not_mem_nil, or_false, not_false_eq_true] <;> omega) | fail)) only [↓rsGrp_0, rsGrp_1, Option.isNone_some, Option.isNone_none, tick_eq, tickV_eq, ne_eq, Int.reduceAdd, Int.reduceSub, Int.reduceMul, Int.reduceEq, Int.reduceLT, Int.reduceLE, Int.reduceToNat, Nat.reduceMul, Nat.reduceAdd, Nat.reduceSub, List.nil_append, List.cons_append, List.getElem?_toArray, List.getElem?_cons_zero, List.getElem?_cons_succ, List.setIfInBounds_toArray, List.set_cons_zero, List.set_cons_succ, Option.map_some, List.not_mem_nil, ←decide_not, k1]
    refine xLoop_n rs.length (fun j => [i64 (j : Int)]) (fun j w' => Ext [] y w' ∧ ∀ i (hi : i < rs.length), i < j → rs[i].s.length ≤ 40) rfl ⟨F, by intro i _ hi; omega⟩ ?_ ?_
    · intro j hj u v2 hu ⟨F2, hq2⟩ nxt hnx
      simp only [List.map_cons, List.map_nil, List.cons.injEq, and_true] at hu
      rw [hu]
      have k2 := fun i => (B.ext F2 (by simp)).cell (i := i)
      obtain ⟨b1, o1, rfl, z1, c1, c2⟩ := gr_at (hy.ext0 F2).rr hj
      unfold loamlaw17_Few_l2
      have hsz := strOf_size (l := rs[j].s)
      by_cases g1 : 40 < (strOf rs[j].s).size
      · simp (disch := (first | omega | decide | (simp only [World.size_alloc, World.size_setCell, World.size_drew, size_sets, List.mem_cons, List.not_mem_nil, or_false, not_false_eq_true] <;> omega) | fail)) only [↓rsGrp_0, rsGrp_1, Option.isNone_some, Option.isNone_none, tick_eq, tickV_eq, ne_eq, Int.reduceAdd, Int.reduceSub, Int.reduceMul, Int.reduceEq, Int.reduceLT, Int.reduceLE, Int.reduceToNat, Nat.reduceMul, Nat.reduceAdd, Nat.reduceSub, List.nil_append, List.cons_append, List.getElem?_toArray, List.getElem?_cons_zero, List.getElem?_cons_succ, List.setIfInBounds_toArray, List.set_cons_zero, List.set_cons_succ, Option.map_some, List.not_mem_nil, ←decide_not, k1, k2, c1, c2]
        exact ⟨⟨false, by trivial, fun h => by cases h⟩, X.trans F2⟩
      simp (disch := (first | omega | decide | (simp only [World.size_alloc, World.size_setCell, World.size_drew, size_sets, List.mem_cons, List.not_mem_nil, or_false, not_false_eq_true] <;> omega) | fail)) only [↓rsGrp_0, rsGrp_1, Option.isNone_some, Option.isNone_none, tick_eq, tickV_eq, ne_eq, Int.reduceAdd, Int.reduceSub, Int.reduceMul, Int.reduceEq, Int.reduceLT, Int.reduceLE, Int.reduceToNat, Nat.reduceMul, Nat.reduceAdd, Nat.reduceSub, List.nil_append, List.cons_append, List.getElem?_toArray, List.getElem?_cons_zero, List.getElem?_cons_succ, List.setIfInBounds_toArray, List.set_cons_zero, List.set_cons_succ, Option.map_some, List.not_mem_nil, ←decide_not, k1, k2, c1, c2]
      refine hnx _ ⟨F2, fun i hi hij => ?_⟩
      by_cases e : i = j
      · subst e; omega
      · exact hq2 i hi (by omega)
    · intro u v2 hu ⟨F2, hq2⟩ nxt
      simp only [List.map_cons, List.map_nil, List.cons.injEq, and_true] at hu
      rw [hu]
      have k2 := fun i => (B.ext F2 (by simp)).cell (i := i)
      unfold loamlaw17_Few_l2
      simp (disch := (first | omega | decide | (simp only [World.size_alloc, World.size_setCell, World.size_drew, size_sets, List.mem_cons, List.not_mem_nil, or_false, not_false_eq_true] <;> omega) | fail)) only [↓rsGrp_0, rsGrp_1, Option.isNone_some, Option.isNone_none, tick_eq, tickV_eq, ne_eq, Int.reduceAdd, Int.reduceSub, Int.reduceMul, Int.reduceEq, Int.reduceLT, Int.reduceLE, Int.reduceToNat, Nat.reduceMul, Nat.reduceAdd, Nat.reduceSub, List.nil_append, List.cons_append, List.getElem?_toArray, List.getElem?_cons_zero, List.getElem?_cons_succ, List.setIfInBounds_toArray, List.set_cons_zero, List.set_cons_succ, Option.map_some, List.not_mem_nil, ←decide_not, k1, k2]
      refine ⟨⟨true, by trivial, fun _ => ⟨by omega, by omega, fun x hx => ?_, fun r hr => ?_⟩⟩, X.trans F2⟩
      · obtain ⟨i, hi, rfl⟩ := List.getElem_of_mem hx
        exact hq i hi hi
      · obtain ⟨i, hi, rfl⟩ := List.getElem_of_mem hr
        exact hq2 i hi hi
end Go.Proofs.Ytdpmidgeipibbaa
end
section
set_option linter.unusedVariables false
set_option linter.unusedSimpArgs false
set_option maxHeartbeats 4000000
namespace Go.Proofs.Ytdpmidgeipibbaa
open Go.Sh Go.RowKit

abbrev OwnN (w : World) (v : Value) (l : List GN) : Prop := Own w 76 2 v l.length (l.flatMap gnC)
abbrev OwnRt (w : World) (v : Value) (l : List GR) : Prop := Own w 78 2 v l.length (l.flatMap grC)
theorem appN {w : World} {K : K1} {v : Value} {l : List GN} {x : GN} {g : Nat} {cs : List Value} (hO : OwnN w v l) (hcs : cs = gnC x) (hl : l.length ≤ 1000000)
    (hK : ∀ v' w', OwnN w' v' (l ++ [x]) → Stp (blk v) (blk v') w w' → K v' w') (hg : g = w.heap.size := by first | rfl | (simp only [World.size_alloc, World.size_drew, World.size_setCell] <;> omega)) : xBuiltin Try.prog .append #[31, 31] 31 [false, false] [v, .slice (some ⟨g, 0, none⟩) 1 1] (w.alloc (.cells cs.toArray 76)) K := by
  subst hcs hg
  refine xAppL (s := 2) (n := l.length) (m := 1) (xs := l.flatMap gnC) (news := gnC x) (bytes := 48) (z := .agg #[.slice none 0 0, .slice none 0 0]) (by kernel_rfl) (by kernel_rfl) (by rfl) (by decide) hO (by rfl) (by simp [gnC, Value.oneCell']) (by omega) (by omega) fun v' w' h1 h2 => hK v' w' ?_ h2
  show Own w' 76 2 v' (l ++ [x]).length ((l ++ [x]).flatMap gnC)
  rw [List.length_append, List.flatMap_append]
  simpa using h1
theorem appR {w : World} {K : K1} {v : Value} {l : List GR} {x : GR} {g : Nat} {cs : List Value} (hO : OwnRt w v l) (hcs : cs = grC x) (hl : l.length ≤ 1000000)
    (hK : ∀ v' w', OwnRt w' v' (l ++ [x]) → Stp (blk v) (blk v') w w' → K v' w') (hg : g = w.heap.size := by first | rfl | (simp only [World.size_alloc, World.size_drew, World.size_setCell] <;> omega)) : xBuiltin Try.prog .append #[32, 32] 32 [false, false] [v, .slice (some ⟨g, 0, none⟩) 1 1] (w.alloc (.cells cs.toArray 78)) K := by
  subst hcs hg
  refine xAppL (s := 2) (n := l.length) (m := 1) (xs := l.flatMap grC) (news := grC x) (bytes := 24) (z := .agg #[.string ⟨#[]⟩, .int .i64 0]) (by kernel_rfl) (by kernel_rfl) (by rfl) (by decide) hO (by rfl) (by simp [grC, Value.oneCell']) (by omega) (by omega) fun v' w' h1 h2 => hK v' w' ?_ h2
  show Own w' 78 2 v' (l ++ [x]).length ((l ++ [x]).flatMap grC)
  rw [List.length_append, List.flatMap_append]
  simpa using h1
abbrev rsGrp2_0 := (And.intro @xBox_r (And.intro @loadK_some (And.intro @loadsK_s (And.intro @loadsK_n (And.intro @loadsR_s (And.intro @loadsR_n (And.intro @storesK_s (And.intro @storesK_n (And.intro @xPick_t (And.intro @xPick_f (And.intro @xGuard_tt (And.intro @xGuard_ff (And.intro @xGuard_tf (And.intro @xGuard_ft (And.intro @xGuard_u 
  (And.intro @xNil_r (And.intro @xIf_t (And.intro @xBin_add' (And.intro @xBin_sub' (And.intro @xBin_mul' (And.intro @xBin_quo' (And.intro @xBin_rem' (And.intro @xIf_f (And.intro @xIf_tt (And.intro @xEx0 (And.intro @xEx1 (And.intro @xEx2 (And.intro @xEx3 (And.intro @xBin_eqs (And.intro @xBin_nes (And.intro @xUn_not (And.intro @xu8_add (And.intro @xu8_lss 
  (And.intro @xu16_add (And.intro @xu16_lss (And.intro @xu32_add (And.intro @xu32_lss (And.intro @xu64_add (And.intro @xu64_lss (And.intro @xi64_lss (And.intro @xMakeFunc_r (And.intro @xSq_r (And.intro @xPur_s (And.intro @xRd_s (And.intro @xRe_s (And.intro @xDet_s (And.intro @xDet_ld (And.intro @xDet_ld2 (And.intro @xDet_ld3 (And.intro @xDet_ld4 
  (And.intro @xGuard_tt (And.intro @ld_3 (And.intro @ld_9 (And.intro @ld_22 (And.intro @ld_23 (And.intro @ld_31 (And.intro @ld_32 (And.intro @ld_34 (And.intro @ld_66 (And.intro @ld_70 (And.intro @lr_34 (And.intro @fa_25_0 (And.intro @fa_25_1 (And.intro @fa_34_0 (And.intro @fa_34_1 (And.intro @fa_72_0 (And.intro @fa_72_1 (And.intro @fa_74_0 (And.intro @fa_74_1 (And.intro @al_34 
  (And.intro @st_31 (And.intro @st_32 (And.intro @st_34 (And.intro @bd_34 (And.intro @bd_76_0_1 (And.intro @bd_76_1 (And.intro @bd_78_0_1 (And.intro @ia_22 (And.intro @ia_23 (And.intro @ln_22 (And.intro @ln_23 (And.intro @bs_31_1 @bs_32_1))))))))))))))))))))))))))))))))))))))))))))))))))))))))))))))))))))))))))))))))))
abbrev rsGrp2_1 := (And.intro @setCells_c (And.intro @setCells_n (And.intro @World.setCell_alloc_at (And.intro @World.setCell_alloc_past (And.intro @World.cell?_alloc_at (And.intro @World.cell?_alloc_past (And.intro @World.frozen?_alloc_at (And.intro @World.frozen?_alloc_past 
  (And.intro @World.size_alloc (And.intro @dlt_t (And.intro @dlt_f (And.intro @dle_t (And.intro @dle_f (And.intro @deq_t (And.intro @deq_f (And.intro @dne_t (And.intro @dne_f (And.intro @not_true_eq_false (And.intro @Bool.false_and (And.intro @Bool.true_and (And.intro @Bool.and_true (And.intro @Bool.and_false (And.intro @wrap_in (And.intro @Int.toNat_natCast 
  (And.intro @Nat.mul_one (And.intro @cells_int (And.intro @cells_bool (And.intro @cells_string (And.intro @cells_slice (And.intro @cells_pointer (And.intro @cells_agg (And.intro @one_int (And.intro @one_bool (And.intro @one_string (And.intro @one_slice (And.intro @one_pointer (And.intro @beq_tt (And.intro @beq_ff (And.intro @beq_tf 
  (And.intro @beq_ft (And.intro @cell_sets_b (And.intro @frozen_sets (And.intro @size_sets (And.intro @World.size_drew (And.intro @Nat.zero_add (And.intro @Nat.add_zero (And.intro @cell_drew (And.intro @frozen_drew (And.intro @cell_set_eq (And.intro @cell_set_o (And.intro @cell_set_b (And.intro @World.frozen?_setCell 
  (And.intro @decide_true (And.intro @decide_false (And.intro @not_false_eq_true (And.intro @Bool.not_true @Bool.not_false))))))))))))))))))))))))))))))))))))))))))))))))))))))))
theorem Of_spec17 {w : World} {na ra : Option Addr} {nc rc : Nat} {ns : List GN} {rs : List GR} (h : GIs w na nc ra rc ns rs) (hn : ns.length ≤ 100000) (hr : rs.length ≤ 100000) :
    Yld Try.prog n_loamlaw17_Of #[gV na nc ra rc ns rs] w fun u w' => Ext [] w w' ∧ ∃ na' nc' ra' rc', u = gV na' nc' ra' rc' ns rs ∧ GIs w' na' nc' ra' rc' ns rs := by
  refine loamlaw17_Of_of ?_
  unfold loamlaw17_Of
  simp (disch := (first | omega | decide | (simp only [World.size_alloc, World.size_setCell, World.size_drew, size_sets, List.mem_cons, List.not_mem_nil, or_false, not_false_eq_true] <;> omega) | fail)) only [↓rsGrp2_0, rsGrp2_1, Option.isNone_some, Option.isNone_none, tick_eq, tickV_eq, ne_eq, Int.reduceAdd, Int.reduceSub, Int.reduceMul, Int.reduceEq, Int.reduceLT, Int.reduceLE, Int.reduceToNat, Nat.reduceMul, Nat.reduceAdd, Nat.reduceSub, List.nil_append, List.cons_append, List.getElem?_toArray, List.getElem?_cons_zero, List.getElem?_cons_succ, List.setIfInBounds_toArray, List.set_cons_zero, List.set_cons_succ, Option.map_some, List.not_mem_nil, ←decide_not, eq_self]
  simp only [World.size_alloc]
  have Bg0 : Blk (w.alloc (.cells #[.slice na ns.length nc, .slice ra rs.length rc] 25)) w.heap.size 25 [.slice na ns.length nc, .slice ra rs.length rc] := Blk.at rfl
  have X0 : Ext [] w (w.alloc (.cells #[.slice na ns.length nc, .slice ra rs.length rc] 25)) := Ext.alloc _ _ _
  have zs1 : (w.alloc (.cells #[.slice na ns.length nc, .slice ra rs.length rc] 25)).heap.size = w.heap.size + 1 := World.size_alloc _ _
  generalize w.alloc (.cells #[.slice na ns.length nc, .slice ra rs.length rc] 25) = y1 at *
  have Bt0 : Blk (y1.alloc (.cells #[.slice none 0 0, .slice none 0 0] 34)) (w.heap.size + 1) 34 [.slice none 0 0, .slice none 0 0] := by
    have := Blk.at (w := y1) (e := 34) (cs := [.slice none 0 0, .slice none 0 0]) rfl
    rw [zs1] at this
    exact this
  have X1 : Ext [] y1 (y1.alloc (.cells #[.slice none 0 0, .slice none 0 0] 34)) := Ext.alloc _ _ _
  have zs2 : (y1.alloc (.cells #[.slice none 0 0, .slice none 0 0] 34)).heap.size = w.heap.size + 1 + 1 := by rw [World.size_alloc, zs1]
  generalize y1.alloc (.cells #[.slice none 0 0, .slice none 0 0] 34) = y2 at *
  have Bx0 : Blk (y2.alloc (.cells #[.slice none 0 0, .slice none 0 0] 34)) (w.heap.size + 1 + 1) 34 [.slice none 0 0, .slice none 0 0] := by
    have := Blk.at (w := y2) (e := 34) (cs := [.slice none 0 0, .slice none 0 0]) rfl
    rw [zs2] at this
    exact this
  have X2 : Ext [] y2 (y2.alloc (.cells #[.slice none 0 0, .slice none 0 0] 34)) := Ext.alloc _ _ _
  have zs3 : (y2.alloc (.cells #[.slice none 0 0, .slice none 0 0] 34)).heap.size = w.heap.size + 1 + 1 + 1 := by rw [World.size_alloc, zs2]
  generalize y2.alloc (.cells #[.slice none 0 0, .slice none 0 0] 34) = y at *
  have Xy : Ext [] w y := X0.trans (X1.trans X2)
  have Bg := (Bg0.ext X1 (by simp)).ext X2 (by simp)
  have Bt := Bt0.ext X2 (by simp)
  generalize hhx : w.heap.size + 1 + 1 = hx at *
  generalize hht : w.heap.size + 1 = ht at *
  have hg := h.ext0 Xy
  have fresh : ∀ {w' : World}, Ext [hx] y w' → Ext [] w w' := fun F => Xy.new F (fun z hz => by simp only [List.mem_singleton] at hz; omega)
  have nilb : ∀ z, z ∉ blk (.slice none 0 0) := by simp [blk, Value.ownBlock]
  refine xLoop_n ns.length (fun j => [i64 (j : Int)]) (fun j w' => Ext [hx] y w' ∧ ∃ v, OwnN w' v (ns.take j) ∧ Blk w' hx 34 [v, .slice none 0 0] ∧ ∀ z ∈ blk v, y.heap.size ≤ z) rfl ⟨Ext.refl _ _, _, Own.nil, Bx0, fun z hz => absurd hz (nilb z)⟩ ?_ ?_
  · rintro j hj u v1 hu ⟨F, v, O, B, U⟩ nxt hnx
    simp only [List.map_cons, List.map_nil, List.cons.injEq, and_true] at hu
    rw [hu]
    have kg := fun i => (Bg.ext F (by simp; omega)).cell (i := i)
    have kgd := fun i => ((Bg.ext F (by simp; omega)).ext (Ext.drew [] v1) (by simp)).cell (i := i)
    have kbd := fun i => (B.ext (Ext.drew [] v1) (by simp)).cell (i := i)
    have hgn := (h.ext0 ((fresh F).trans (Ext.drew [] v1))).nr
    obtain ⟨b1, o1, rfl, z1, c1, c2⟩ := gn_at hgn hj
    have hlen : (ns.take j).length = j := by rw [List.length_take]; omega
    have hsu : ns.take (j + 1) = ns.take j ++ [ns[j]] := by rw [List.take_add_one, List.getElem?_eq_getElem hj]; rfl
    obtain ⟨a0, c0, hv0, _⟩ := O.slice
    unfold loamlaw17_Of_l1
    subst hv0
    have Oa := O.ext0 (Ext.drew [] v1)
    have Ba := B.ext (Ext.drew [] v1) (by simp)
    have kba := fun i => (Ba.ext (Ext.alloc [] _ (.cells (gnC ns[j]).toArray 76)) (by simp)).cell (i := i)
    simp (disch := (first | omega | decide | (simp only [World.size_alloc, World.size_setCell, World.size_drew, size_sets, List.mem_cons, List.not_mem_nil, or_false, not_false_eq_true] <;> omega) | fail)) only [↓rsGrp2_0, rsGrp2_1, Option.isNone_some, Option.isNone_none, tick_eq, tickV_eq, ne_eq, Int.reduceAdd, Int.reduceSub, Int.reduceMul, Int.reduceEq, Int.reduceLT, Int.reduceLE, Int.reduceToNat, Nat.reduceMul, Nat.reduceAdd, Nat.reduceSub, List.nil_append, List.cons_append, List.getElem?_toArray, List.getElem?_cons_zero, List.getElem?_cons_succ, List.setIfInBounds_toArray, List.set_cons_zero, List.set_cons_succ, Option.map_some, List.not_mem_nil, ←decide_not, kg, kgd, kbd, c1, c2, kba]
    refine appN Oa rfl (by omega) fun v' w2 O2 T2 => ?_
    have hv := fun hm => U hx hm
    have B2 := Ba.ext T2.ext (fun hm => by have := hv hm; omega)
    obtain ⟨a3, c3, hv3, _⟩ := O2.slice
    have k2 := fun i => B2.cell (i := i)
    have f2 := fun i => B2.frozen (i := i)
    have hxv : hx ∉ blk v' := fun hm => by
      rcases T2.at' hx hm with h1 | h1
      · have := hv h1; omega
      · have := F.size
        simp only [World.size_alloc, World.size_drew] at h1
        omega
    have up2 : ∀ z ∈ blk v', y.heap.size ≤ z := fun z hz => by
      rcases T2.at' z hz with h1 | h1
      · exact U z h1
      · have := F.size
        simp only [World.size_alloc, World.size_drew] at h1
        omega
    have F2 : Ext [hx] y w2 := ((F.trans (Ext.drew _ v1))).cut T2.ext (fun z hz => .inr (U z hz))
    subst hv3
    simp (disch := (first | omega | decide | (simp only [World.size_alloc, World.size_setCell, World.size_drew, size_sets, List.mem_cons, List.not_mem_nil, or_false, not_false_eq_true] <;> omega) | fail)) only [↓rsGrp2_0, rsGrp2_1, Option.isNone_some, Option.isNone_none, tick_eq, tickV_eq, ne_eq, Int.reduceAdd, Int.reduceSub, Int.reduceMul, Int.reduceEq, Int.reduceLT, Int.reduceLE, Int.reduceToNat, Nat.reduceMul, Nat.reduceAdd, Nat.reduceSub, List.nil_append, List.cons_append, List.getElem?_toArray, List.getElem?_cons_zero, List.getElem?_cons_succ, List.setIfInBounds_toArray, List.set_cons_zero, List.set_cons_succ, Option.map_some, List.not_mem_nil, ←decide_not, kg, kgd, kbd, c1, c2, kba, k2, f2]
    have B3 := B2.set (i := 0) (v := .slice a3 (ns.take j ++ [ns[j]]).length c3)
    have O3 := O2.ext (Ext.set (w := w2) (b := hx) (o := 0) (v := .slice a3 (ns.take j ++ [ns[j]]).length c3)) (fun z hz hm => by simp only [List.mem_singleton] at hm; subst hm; exact hxv hz)
    rw [← hsu] at O3 B3 up2 ⊢
    exact hnx _ ⟨F2.set' (.inl (by simp)), _, O3, B3, up2⟩
  rintro u v1 hu ⟨F, v, O, B, U⟩ nxt
  simp only [List.map_cons, List.map_nil, List.cons.injEq, and_true] at hu
  rw [hu]
  rw [List.take_length] at O
  have kg := fun i => (Bg.ext F (by simp; omega)).cell (i := i)
  unfold loamlaw17_Of_l1
  simp (disch := (first | omega | decide | (simp only [World.size_alloc, World.size_setCell, World.size_drew, size_sets, List.mem_cons, List.not_mem_nil, or_false, not_false_eq_true] <;> omega) | fail)) only [↓rsGrp2_0, rsGrp2_1, Option.isNone_some, Option.isNone_none, tick_eq, tickV_eq, ne_eq, Int.reduceAdd, Int.reduceSub, Int.reduceMul, Int.reduceEq, Int.reduceLT, Int.reduceLE, Int.reduceToNat, Nat.reduceMul, Nat.reduceAdd, Nat.reduceSub, List.nil_append, List.cons_append, List.getElem?_toArray, List.getElem?_cons_zero, List.getElem?_cons_succ, List.setIfInBounds_toArray, List.set_cons_zero, List.set_cons_succ, Option.map_some, List.not_mem_nil, ←decide_not, kg]
  refine xLoop_n rs.length (fun j => [i64 (j : Int)]) (fun j w' => Ext [hx] y w' ∧ OwnN w' v ns ∧ ∃ v2, OwnRt w' v2 (rs.take j) ∧ Blk w' hx 34 [v, v2] ∧ (∀ z ∈ blk v2, y.heap.size ≤ z) ∧ ∀ z ∈ blk v2, z ∉ blk v) rfl ⟨F, O, _, Own.nil, B, fun z hz => absurd hz (nilb z), fun z hz => absurd hz (nilb z)⟩ ?_ ?_
  · rintro j hj u v3 hu ⟨F3, O3, v2, R3, B3, U3, D3⟩ nxt hnx
    simp only [List.map_cons, List.map_nil, List.cons.injEq, and_true] at hu
    rw [hu]
    have kg3 := fun i => (Bg.ext F3 (by simp; omega)).cell (i := i)
    have kgd := fun i => ((Bg.ext F3 (by simp; omega)).ext (Ext.drew [] v3) (by simp)).cell (i := i)
    have hgr := (h.ext0 ((fresh F3).trans (Ext.drew [] v3))).rr
    obtain ⟨b1, o1, rfl, z1, c1, c2⟩ := gr_at hgr hj
    have hlen : (rs.take j).length = j := by rw [List.length_take]; omega
    have hsu : rs.take (j + 1) = rs.take j ++ [rs[j]] := by rw [List.take_add_one, List.getElem?_eq_getElem hj]; rfl
    obtain ⟨a0, c0, hv0, _⟩ := R3.slice
    unfold loamlaw17_Of_l2
    subst hv0
    have Ra := R3.ext0 (Ext.drew [] v3)
    have Ba := B3.ext (Ext.drew [] v3) (by simp)
    have kbd := fun i => Ba.cell (i := i)
    have kba := fun i => (Ba.ext (Ext.alloc [] _ (.cells (grC rs[j]).toArray 78)) (by simp)).cell (i := i)
    simp (disch := (first | omega | decide | (simp only [World.size_alloc, World.size_setCell, World.size_drew, size_sets, List.mem_cons, List.not_mem_nil, or_false, not_false_eq_true] <;> omega) | fail)) only [↓rsGrp2_0, rsGrp2_1, Option.isNone_some, Option.isNone_none, tick_eq, tickV_eq, ne_eq, Int.reduceAdd, Int.reduceSub, Int.reduceMul, Int.reduceEq, Int.reduceLT, Int.reduceLE, Int.reduceToNat, Nat.reduceMul, Nat.reduceAdd, Nat.reduceSub, List.nil_append, List.cons_append, List.getElem?_toArray, List.getElem?_cons_zero, List.getElem?_cons_succ, List.setIfInBounds_toArray, List.set_cons_zero, List.set_cons_succ, Option.map_some, List.not_mem_nil, ←decide_not, kg, kg3, kgd, kbd, c1, c2, kba]
    refine appR Ra rfl (by omega) fun v' w2 O2 T2 => ?_
    have hv := fun hm => U3 hx hm
    have B2 := Ba.ext T2.ext (fun hm => by have := hv hm; omega)
    have N2 := (O3.ext0 (Ext.drew [] v3)).ext T2.ext (fun z hz hm => D3 z hm hz)
    obtain ⟨a3, c3, hv3, _⟩ := O2.slice
    have k2 := fun i => B2.cell (i := i)
    have f2 := fun i => B2.frozen (i := i)
    have zF := F3.size
    have hxv : hx ∉ blk v' := fun hm => by
      rcases T2.at' hx hm with h1 | h1
      · have := hv h1; omega
      · simp only [World.size_alloc, World.size_drew] at h1
        omega
    have up2 : ∀ z ∈ blk v', y.heap.size ≤ z := fun z hz => by
      rcases T2.at' z hz with h1 | h1
      · exact U3 z h1
      · simp only [World.size_alloc, World.size_drew] at h1
        omega
    have dd : ∀ z ∈ blk v', z ∉ blk v := fun z hz hm => by
      rcases T2.at' z hz with h1 | h1
      · exact D3 z h1 hm
      · have := O3.lt z hm
        simp only [World.size_alloc, World.size_drew] at h1
        omega
    have hxn : hx ∉ blk v := fun hm => by have := U hx hm; omega
    have F2 : Ext [hx] y w2 := ((F3.trans (Ext.drew _ v3))).cut T2.ext (fun z hz => .inr (U3 z hz))
    subst hv3
    simp (disch := (first | omega | decide | (simp only [World.size_alloc, World.size_setCell, World.size_drew, size_sets, List.mem_cons, List.not_mem_nil, or_false, not_false_eq_true] <;> omega) | fail)) only [↓rsGrp2_0, rsGrp2_1, Option.isNone_some, Option.isNone_none, tick_eq, tickV_eq, ne_eq, Int.reduceAdd, Int.reduceSub, Int.reduceMul, Int.reduceEq, Int.reduceLT, Int.reduceLE, Int.reduceToNat, Nat.reduceMul, Nat.reduceAdd, Nat.reduceSub, List.nil_append, List.cons_append, List.getElem?_toArray, List.getElem?_cons_zero, List.getElem?_cons_succ, List.setIfInBounds_toArray, List.set_cons_zero, List.set_cons_succ, Option.map_some, List.not_mem_nil, ←decide_not, kg, kg3, kgd, kbd, c1, c2, kba, k2, f2]
    have B4 := B2.set (i := 1) (v := .slice a3 (rs.take j ++ [rs[j]]).length c3)
    have Xs : Ext [hx] w2 (w2.setCell ⟨hx, 1, none⟩ (.slice a3 (rs.take j ++ [rs[j]]).length c3)) := Ext.set (w := w2) (b := hx)
    have O4 := O2.ext Xs (fun z hz hm => by simp only [List.mem_singleton] at hm; subst hm; exact hxv hz)
    have N4 := N2.ext Xs (fun z hz hm => by simp only [List.mem_singleton] at hm; subst hm; exact hxn hz)
    rw [← hsu] at O4 B4 N4 up2 dd ⊢
    exact hnx _ ⟨F2.set' (.inl (by simp)), N4, _, O4, B4, up2, dd⟩
  · rintro u v3 hu ⟨F3, O3, v2, R3, B3, U3, D3⟩ nxt
    simp only [List.map_cons, List.map_nil, List.cons.injEq, and_true] at hu
    rw [hu]
    rw [List.take_length] at R3
    have kg3 := fun i => (Bg.ext F3 (by simp; omega)).cell (i := i)
    have kb3 := fun i => B3.cell (i := i)
    have Bt3 := Bt.ext F3 (by simp; omega)
    have kt3 := fun i => Bt3.cell (i := i)
    have ft3 := fun i => Bt3.frozen (i := i)
    obtain ⟨a4, c4, rfl, hc4, _, hn4, hr4, _⟩ := O3.slice
    obtain ⟨a5, c5, rfl, hc5, _, hn5, hr5, _⟩ := R3.slice
    have X4 := fresh F3
    have hok := fun x hx => (h.ok x hx).ext0 X4
    have blt := fun (z : Nat) (hz : z ∈ blk (.slice a4 ns.length c4)) => U z hz
    have blt2 := fun (z : Nat) (hz : z ∈ blk (.slice a5 rs.length c5)) => U3 z hz
    unfold loamlaw17_Of_l2
    simp (disch := (first | omega | decide | (simp only [World.size_alloc, World.size_setCell, World.size_drew, size_sets, List.mem_cons, List.not_mem_nil, or_false, not_false_eq_true] <;> omega) | fail)) only [↓rsGrp2_0, rsGrp2_1, Option.isNone_some, Option.isNone_none, tick_eq, tickV_eq, ne_eq, Int.reduceAdd, Int.reduceSub, Int.reduceMul, Int.reduceEq, Int.reduceLT, Int.reduceLE, Int.reduceToNat, Nat.reduceMul, Nat.reduceAdd, Nat.reduceSub, List.nil_append, List.cons_append, List.getElem?_toArray, List.getElem?_cons_zero, List.getElem?_cons_succ, List.setIfInBounds_toArray, List.set_cons_zero, List.set_cons_succ, Option.map_some, List.not_mem_nil, ←decide_not, kg, kg3, kb3, kt3, ft3]
    have Xs : Ext [ht] v3 ((v3.setCell ⟨ht, 0, none⟩ (.slice a4 ns.length c4)).setCell ⟨ht, 1, none⟩ (.slice a5 rs.length c5)) := (Ext.set (w := v3) (b := ht)).trans Ext.set
    have hX : Ext [] w ((v3.setCell ⟨ht, 0, none⟩ (.slice a4 ns.length c4)).setCell ⟨ht, 1, none⟩ (.slice a5 rs.length c5)) := X4.new Xs (fun z hz => by simp only [List.mem_singleton] at hz; omega)
    refine ⟨hX, a4, c4, a5, c5, by trivial, ⟨hr4.ext Xs (fun z o hz hm => ?_), hc4, hn4, hr5.ext Xs (fun z o hz hm => ?_), hc5, hn5, fun x hx => (h.ok x hx).ext0 hX⟩⟩
    · have := blt z (by subst hz; simp [blk, Value.ownBlock])
      simp only [List.mem_singleton] at hm
      omega
    · have := blt2 z (by subst hz; simp [blk, Value.ownBlock])
      simp only [List.mem_singleton] at hm
      omega
end Go.Proofs.Ytdpmidgeipibbaa
end
section
set_option linter.unusedVariables false
set_option linter.unusedSimpArgs false
set_option maxHeartbeats 4000000
namespace Go.Proofs.Ytdpmidgeipibbaa
open Go.Sh Go.RowKit

theorem geS {cx cy : Bool} (a b : ByteArray) (w : World) (K : K1) : xBin Try.prog .geq 9 cx (.string a) cy (.string b) w K = K (.bool (!Op.bytesLess a.toList b.toList)) w := xBin_ok (by simp [eqGuard, binOp, Op.stringOp])
theorem ixS (l : List (BitVec 8)) {j : Nat} (hj : j < l.length) (w : World) (K : K1) : xIndex Try.prog 9 (.string (strOf l)) (i64 (j : Int)) w K = K (u8 l[j]) w := by
  refine xIndex_ok ?_
  have h := run_index_string (P := Try.prog) (w := w) 9 (strOf l) .i64 (j : Int) (by kernel_rfl)
  have hs := strOf_size (l := l)
  rw [h, dif_pos ⟨by omega, by omega⟩]
  have e : (strOf l)[((j : Int)).toNat]'(by omega) = UInt8.ofBitVec l[j] := by
    simp [strOf, ByteArray.getElem_eq_getElem_data]
  exact congrArg (fun z : UInt8 => Result.ok (Value.int .u8 (z.toNat : Int)) w) e
abbrev rsGrp3_0 := (And.intro @xBox_r (And.intro @loadK_some (And.intro @loadsK_s (And.intro @loadsK_n (And.intro @loadsR_s (And.intro @loadsR_n (And.intro @storesK_s (And.intro @storesK_n (And.intro @xPick_t (And.intro @xPick_f (And.intro @xGuard_tt (And.intro @xGuard_ff (And.intro @xGuard_tf (And.intro @xGuard_ft (And.intro @xGuard_u 
  (And.intro @xNil_r (And.intro @xIf_t (And.intro @xBin_add' (And.intro @xBin_sub' (And.intro @xBin_mul' (And.intro @xBin_quo' (And.intro @xBin_rem' (And.intro @xIf_f (And.intro @xIf_tt (And.intro @xEx0 (And.intro @xEx1 (And.intro @xEx2 (And.intro @xEx3 (And.intro @xBin_eqs (And.intro @xBin_nes (And.intro @xUn_not (And.intro @xu8_add (And.intro @xu8_eql 
  (And.intro @xu8_lss (And.intro @xu8_gtr (And.intro @xu16_add (And.intro @xu16_eql (And.intro @xu16_lss (And.intro @xu16_gtr (And.intro @xu32_add (And.intro @xu32_eql (And.intro @xu32_lss (And.intro @xu32_gtr (And.intro @xu64_add (And.intro @xu64_eql (And.intro @xu64_lss (And.intro @xu64_gtr (And.intro @xi64_lss (And.intro @xi64_gtr (And.intro @xi64_eql 
  (And.intro @xMakeFunc_r (And.intro @xSq_r (And.intro @xPur_s (And.intro @xRd_s (And.intro @xRe_s (And.intro @xDet_s (And.intro @xDet_ld (And.intro @xDet_ld2 (And.intro @xDet_ld3 (And.intro @xDet_ld4 (And.intro @xGuard_tt @ln_9)))))))))))))))))))))))))))))))))))))))))))))))))))))))))))))
abbrev rsGrp3_1 := (And.intro @setCells_c (And.intro @setCells_n (And.intro @World.setCell_alloc_at (And.intro @World.setCell_alloc_past (And.intro @World.cell?_alloc_at (And.intro @World.cell?_alloc_past (And.intro @World.frozen?_alloc_at (And.intro @World.frozen?_alloc_past 
  (And.intro @World.size_alloc (And.intro @dlt_t (And.intro @dlt_f (And.intro @dle_t (And.intro @dle_f (And.intro @deq_t (And.intro @deq_f (And.intro @dne_t (And.intro @dne_f (And.intro @not_true_eq_false (And.intro @Bool.false_and (And.intro @Bool.true_and (And.intro @Bool.and_true (And.intro @Bool.and_false (And.intro @wrap_in (And.intro @Int.toNat_natCast 
  (And.intro @Nat.mul_one (And.intro @cells_int (And.intro @cells_bool (And.intro @cells_string (And.intro @cells_slice (And.intro @cells_pointer (And.intro @cells_agg (And.intro @one_int (And.intro @one_bool (And.intro @one_string (And.intro @one_slice (And.intro @one_pointer (And.intro @beq_tt (And.intro @beq_ff (And.intro @beq_tf 
  (And.intro @beq_ft (And.intro @cell_sets_b (And.intro @frozen_sets (And.intro @size_sets (And.intro @World.size_drew (And.intro @Nat.zero_add (And.intro @Nat.add_zero (And.intro @cell_drew (And.intro @frozen_drew (And.intro @cell_set_eq (And.intro @cell_set_o (And.intro @cell_set_b (And.intro @World.frozen?_setCell 
  (And.intro @decide_true (And.intro @decide_false (And.intro @not_false_eq_true (And.intro @Bool.not_true @Bool.not_false))))))))))))))))))))))))))))))))))))))))))))))))))))))))
theorem Good_spec (l : List (BitVec 8)) (w : World) : Yld Try.prog n_loamref17_Good #[.string (strOf l)] w fun u w' => (∃ b : Bool, u = .bool b ∧ (b = true → 1 ≤ l.length ∧ l.length ≤ 32 ∧ ∀ c ∈ l, c ≠ BitVec.ofNat 8 0)) ∧ Ext [] w w' := by
  have hs := strOf_size (l := l)
  refine loamref17_Good_of ?_
  unfold loamref17_Good
  by_cases h1 : (strOf l).size < 1
  · simp (disch := (first | omega | decide | (simp only [World.size_alloc, World.size_setCell, World.size_drew, size_sets, List.mem_cons, List.not_mem_nil, or_false, not_false_eq_true] <;> omega) | fail)) only [↓rsGrp3_0, rsGrp3_1, Option.isNone_some, Option.isNone_none, tick_eq, tickV_eq, ne_eq, Int.reduceAdd, Int.reduceSub, Int.reduceMul, Int.reduceEq, Int.reduceLT, Int.reduceLE, Int.reduceToNat, Nat.reduceMul, Nat.reduceAdd, Nat.reduceSub, List.nil_append, List.cons_append, List.getElem?_toArray, List.getElem?_cons_zero, List.getElem?_cons_succ, List.setIfInBounds_toArray, List.set_cons_zero, List.set_cons_succ, Option.map_some, List.not_mem_nil, ←decide_not, eq_self]
    exact ⟨⟨false, by trivial, fun h => by cases h⟩, Ext.refl _ _⟩
  by_cases h2 : 32 < (strOf l).size
  · simp (disch := (first | omega | decide | (simp only [World.size_alloc, World.size_setCell, World.size_drew, size_sets, List.mem_cons, List.not_mem_nil, or_false, not_false_eq_true] <;> omega) | fail)) only [↓rsGrp3_0, rsGrp3_1, Option.isNone_some, Option.isNone_none, tick_eq, tickV_eq, ne_eq, Int.reduceAdd, Int.reduceSub, Int.reduceMul, Int.reduceEq, Int.reduceLT, Int.reduceLE, Int.reduceToNat, Nat.reduceMul, Nat.reduceAdd, Nat.reduceSub, List.nil_append, List.cons_append, List.getElem?_toArray, List.getElem?_cons_zero, List.getElem?_cons_succ, List.setIfInBounds_toArray, List.set_cons_zero, List.set_cons_succ, Option.map_some, List.not_mem_nil, ←decide_not, eq_self]
    exact ⟨⟨false, by trivial, fun h => by cases h⟩, Ext.refl _ _⟩
  simp (disch := (first | omega | decide | (simp only [World.size_alloc, World.size_setCell, World.size_drew, size_sets, List.mem_cons, List.not_mem_nil, or_false, not_false_eq_true] <;> omega) | fail)) only [↓rsGrp3_0, rsGrp3_1, Option.isNone_some, Option.isNone_none, tick_eq, tickV_eq, ne_eq, Int.reduceAdd, Int.reduceSub, Int.reduceMul, Int.reduceEq, Int.reduceLT, Int.reduceLE, Int.reduceToNat, Nat.reduceMul, Nat.reduceAdd, Nat.reduceSub, List.nil_append, List.cons_append, List.getElem?_toArray, List.getElem?_cons_zero, List.getElem?_cons_succ, List.setIfInBounds_toArray, List.set_cons_zero, List.set_cons_succ, Option.map_some, List.not_mem_nil, ←decide_not, eq_self]
  refine xLoop_n l.length (fun j => [i64 (j : Int)]) (fun j w' => Ext [] w w' ∧ ∀ i (hi : i < l.length), i < j → l[i] ≠ BitVec.ofNat 8 0) rfl ⟨Ext.refl _ _, by intro i _ hi; omega⟩ ?_ ?_
  · intro j hj u v1 hu ⟨F, hq⟩ nxt hnx
    simp only [List.map_cons, List.map_nil, List.cons.injEq, and_true] at hu
    rw [hu]
    have hix := fun w K => ixS l hj w K
    unfold loamref17_Good_l1
    by_cases hz : l[j] = BitVec.ofNat 8 0
    · rw [hz] at hix
      simp (disch := (first | omega | decide | (simp only [World.size_alloc, World.size_setCell, World.size_drew, size_sets, List.mem_cons, List.not_mem_nil, or_false, not_false_eq_true] <;> omega) | fail)) only [↓rsGrp3_0, rsGrp3_1, Option.isNone_some, Option.isNone_none, tick_eq, tickV_eq, ne_eq, Int.reduceAdd, Int.reduceSub, Int.reduceMul, Int.reduceEq, Int.reduceLT, Int.reduceLE, Int.reduceToNat, Nat.reduceMul, Nat.reduceAdd, Nat.reduceSub, List.nil_append, List.cons_append, List.getElem?_toArray, List.getElem?_cons_zero, List.getElem?_cons_succ, List.setIfInBounds_toArray, List.set_cons_zero, List.set_cons_succ, Option.map_some, List.not_mem_nil, ←decide_not, hix]
      exact ⟨⟨false, by trivial, fun h => by cases h⟩, F⟩
    · generalize hy : l[j] = y at *
      simp (disch := (first | omega | decide | (simp only [World.size_alloc, World.size_setCell, World.size_drew, size_sets, List.mem_cons, List.not_mem_nil, or_false, not_false_eq_true] <;> omega) | fail)) only [↓rsGrp3_0, rsGrp3_1, Option.isNone_some, Option.isNone_none, tick_eq, tickV_eq, ne_eq, Int.reduceAdd, Int.reduceSub, Int.reduceMul, Int.reduceEq, Int.reduceLT, Int.reduceLE, Int.reduceToNat, Nat.reduceMul, Nat.reduceAdd, Nat.reduceSub, List.nil_append, List.cons_append, List.getElem?_toArray, List.getElem?_cons_zero, List.getElem?_cons_succ, List.setIfInBounds_toArray, List.set_cons_zero, List.set_cons_succ, Option.map_some, List.not_mem_nil, ←decide_not, hix, decide_eq_false hz]
      refine hnx _ ⟨F, fun i hi hij => ?_⟩
      by_cases e : i = j
      · subst e; rw [hy]; exact hz
      · exact hq i hi (by omega)
  · intro u v1 hu ⟨F, hq⟩ nxt
    simp only [List.map_cons, List.map_nil, List.cons.injEq, and_true] at hu
    rw [hu]
    unfold loamref17_Good_l1
    simp (disch := (first | omega | decide | (simp only [World.size_alloc, World.size_setCell, World.size_drew, size_sets, List.mem_cons, List.not_mem_nil, or_false, not_false_eq_true] <;> omega) | fail)) only [↓rsGrp3_0, rsGrp3_1, Option.isNone_some, Option.isNone_none, tick_eq, tickV_eq, ne_eq, Int.reduceAdd, Int.reduceSub, Int.reduceMul, Int.reduceEq, Int.reduceLT, Int.reduceLE, Int.reduceToNat, Nat.reduceMul, Nat.reduceAdd, Nat.reduceSub, List.nil_append, List.cons_append, List.getElem?_toArray, List.getElem?_cons_zero, List.getElem?_cons_succ, List.setIfInBounds_toArray, List.set_cons_zero, List.set_cons_succ, Option.map_some, List.not_mem_nil, ←decide_not, eq_self]
    refine ⟨⟨true, by trivial, fun _ => ⟨by omega, by omega, fun c hc => ?_⟩⟩, F⟩
    obtain ⟨i, hi, rfl⟩ := List.getElem_of_mem hc
    exact hq i hi hi
structure GoodG (ns : List GN) (rs : List GR) : Prop where
  x : ∀ x ∈ ns, (∀ p ∈ x.p, 0 ≤ p ∧ p ≤ ns.length) ∧ x.p.length ≤ 64 ∧ x.d.length ≤ 1024
  r : rs.length ≤ 64
  s : ∀ r ∈ rs, (1 ≤ r.s.length ∧ r.s.length ≤ 32 ∧ ∀ c ∈ r.s, c ≠ BitVec.ofNat 8 0) ∧ 0 ≤ r.to ∧ r.to ≤ ns.length
  o : ∀ i (h : i + 1 < rs.length), Op.bytesLess (strOf rs[i].s).toList (strOf rs[i + 1].s).toList = true
theorem its_at {w : World} {l : List Int} {a : Option Addr} {k : Nat} (h : RowAt w a (its l)) (hk : k < l.length) : ∃ b o, a = some ⟨b, o, none⟩ ∧ b < w.heap.size ∧ w.cell? ⟨b, o + k, none⟩ = some (i64 l[k]) := by
  obtain ⟨b, o, h1, h2, h3⟩ := h.at (i := k) (by simpa using hk)
  simp only [List.getElem_map] at h3
  exact ⟨b, o, h1, h2, h3⟩
abbrev rsGrp3_2 := (And.intro @xBox_r (And.intro @loadK_some (And.intro @loadsK_s (And.intro @loadsK_n (And.intro @loadsR_s (And.intro @loadsR_n (And.intro @storesK_s (And.intro @storesK_n (And.intro @xPick_t (And.intro @xPick_f (And.intro @xGuard_tt (And.intro @xGuard_ff (And.intro @xGuard_tf (And.intro @xGuard_ft (And.intro @xGuard_u 
  (And.intro @xNil_r (And.intro @xIf_t (And.intro @xBin_add' (And.intro @xBin_sub' (And.intro @xBin_mul' (And.intro @xBin_quo' (And.intro @xBin_rem' (And.intro @xIf_f (And.intro @xIf_tt (And.intro @xEx0 (And.intro @xEx1 (And.intro @xEx2 (And.intro @xEx3 (And.intro @xBin_eqs (And.intro @xBin_nes (And.intro @xUn_not (And.intro @xu8_add (And.intro @xu8_sub 
  (And.intro @xu8_com (And.intro @xu8_lss (And.intro @xu8_gtr (And.intro @xu8_geq (And.intro @xu16_add (And.intro @xu16_sub (And.intro @xu16_com (And.intro @xu16_lss (And.intro @xu16_gtr (And.intro @xu16_geq (And.intro @xu32_add (And.intro @xu32_sub (And.intro @xu32_com (And.intro @xu32_lss (And.intro @xu32_gtr (And.intro @xu32_geq (And.intro @xu64_add 
  (And.intro @xu64_sub (And.intro @xu64_com (And.intro @xu64_lss (And.intro @xu64_gtr (And.intro @xu64_geq (And.intro @xi64_lss (And.intro @xi64_gtr (And.intro @xi64_geq (And.intro @xMakeFunc_r (And.intro @xSq_r (And.intro @xPur_s (And.intro @xRd_s (And.intro @xRe_s (And.intro @xDet_s (And.intro @xDet_ld (And.intro @xDet_ld2 (And.intro @xDet_ld3 
  (And.intro @xDet_ld4 (And.intro @xGuard_tt (And.intro @ld_3 (And.intro @ld_9 (And.intro @ld_31 (And.intro @ld_32 (And.intro @ld_66 (And.intro @ld_70 (And.intro @ld_76 (And.intro @ld_78 (And.intro @fa_34_0 (And.intro @fa_34_1 (And.intro @fa_76_0 (And.intro @fa_76_1 (And.intro @fa_78_0 (And.intro @fa_78_1 (And.intro @al_76 (And.intro @al_78 (And.intro @st_76 (And.intro @st_78 
  (And.intro @ia_31 (And.intro @ia_32 (And.intro @ia_66 (And.intro @ln_31 (And.intro @ln_32 (And.intro @ln_66 @ln_70)))))))))))))))))))))))))))))))))))))))))))))))))))))))))))))))))))))))))))))))))))))))))))))
theorem GCheck_spec {w : World} {na ra : Option Addr} {nc rc : Nat} {ns : List GN} {rs : List GR} (h : GIs w na nc ra rc ns rs) (hf : FewG ns rs) : Yld Try.prog n_loamref17_Check #[gV na nc ra rc ns rs] w fun u w' => (∃ e : Int, u = i64 e ∧ (e = 0 → GoodG ns rs)) ∧ Ext [] w w' := by
  have hfn := hf.n
  have hfr := hf.r
  refine loamref17_Check_of ?_
  unfold loamref17_Check
  simp (disch := (first | omega | decide | (simp only [World.size_alloc, World.size_setCell, World.size_drew, size_sets, List.mem_cons, List.not_mem_nil, or_false, not_false_eq_true] <;> omega) | fail)) only [↓rsGrp3_2, rsGrp3_1, Option.isNone_some, Option.isNone_none, tick_eq, tickV_eq, ne_eq, Int.reduceAdd, Int.reduceSub, Int.reduceMul, Int.reduceEq, Int.reduceLT, Int.reduceLE, Int.reduceToNat, Nat.reduceMul, Nat.reduceAdd, Nat.reduceSub, List.nil_append, List.cons_append, List.getElem?_toArray, List.getElem?_cons_zero, List.getElem?_cons_succ, List.setIfInBounds_toArray, List.set_cons_zero, List.set_cons_succ, Option.map_some, List.not_mem_nil, ←decide_not, eq_self]
  have B : Blk (w.alloc (.cells #[.slice na ns.length nc, .slice ra rs.length rc] 34)) w.heap.size 34 [.slice na ns.length nc, .slice ra rs.length rc] := Blk.at rfl
  have X : Ext [] w (w.alloc (.cells #[.slice na ns.length nc, .slice ra rs.length rc] 34)) := Ext.alloc _ _ _
  have hy := h.ext0 X
  generalize w.heap.size = hb at *
  generalize w.alloc (.cells #[.slice na ns.length nc, .slice ra rs.length rc] 34) = y at *
  have bad : ∀ {e : Int} {w' : World}, e ≠ 0 → Ext [] y w' → (∃ e' : Int, i64 e = i64 e' ∧ (e' = 0 → GoodG ns rs)) ∧ Ext [] w w' := fun he F => ⟨⟨_, rfl, fun h => absurd h he⟩, X.trans F⟩
  refine xLoop_n ns.length (fun j => [i64 (j : Int)]) (fun j w' => Ext [] y w' ∧ ∀ i (hi : i < ns.length), i < j → (∀ p ∈ ns[i].p, 0 ≤ p ∧ p ≤ ns.length) ∧ ns[i].p.length ≤ 64 ∧ ns[i].d.length ≤ 1024) rfl ⟨Ext.refl _ _, by intro i _ hi; omega⟩ ?_ ?_
  · intro j hj u v1 hu ⟨F, hq⟩ nxt hnx
    simp only [List.map_cons, List.map_nil, List.cons.injEq, and_true] at hu
    rw [hu]
    have k1 := fun i => (B.ext F (by simp)).cell (i := i)
    obtain ⟨b1, o1, ha1, z1, c1, c2⟩ := gn_at (hy.ext0 F).nr hj
    have hm := List.getElem_mem hj
    have hok := (hy.ext0 F).ok _ hm
    have hfx := hf.x _ hm
    have hqs : ((∀ p ∈ ns[j].p, 0 ≤ p ∧ p ≤ ns.length) ∧ ns[j].p.length ≤ 64 ∧ ns[j].d.length ≤ 1024) → ∀ i (hi : i < ns.length), i < j + 1 → (∀ p ∈ ns[i].p, 0 ≤ p ∧ p ≤ ns.length) ∧ ns[i].p.length ≤ 64 ∧ ns[i].d.length ≤ 1024 := fun h1 i hi hij => by
      by_cases e : i = j
      · subst e; exact h1
      · exact hq i hi (by omega)
    unfold loamref17_Check_l1
    generalize ns[j] = x at *
    simp (disch := (first | omega | decide | (simp only [World.size_alloc, World.size_setCell, World.size_drew, size_sets, List.mem_cons, List.not_mem_nil, or_false, not_false_eq_true] <;> omega) | fail)) only [↓rsGrp3_2, rsGrp3_1, Option.isNone_some, Option.isNone_none, tick_eq, tickV_eq, ne_eq, Int.reduceAdd, Int.reduceSub, Int.reduceMul, Int.reduceEq, Int.reduceLT, Int.reduceLE, Int.reduceToNat, Nat.reduceMul, Nat.reduceAdd, Nat.reduceSub, List.nil_append, List.cons_append, List.getElem?_toArray, List.getElem?_cons_zero, List.getElem?_cons_succ, List.setIfInBounds_toArray, List.set_cons_zero, List.set_cons_succ, Option.map_some, List.not_mem_nil, ←decide_not, k1, ha1, c1, c2]
    have C : Blk (v1.alloc (.cells #[.slice x.pa x.p.length x.pc, .slice x.da x.d.length x.dc] 76)) v1.heap.size 76 [.slice x.pa x.p.length x.pc, .slice x.da x.d.length x.dc] := Blk.at rfl
    have X1 : Ext [] v1 (v1.alloc (.cells #[.slice x.pa x.p.length x.pc, .slice x.da x.d.length x.dc] 76)) := Ext.alloc _ _ _
    generalize v1.heap.size = hc at *
    generalize v1.alloc (.cells #[.slice x.pa x.p.length x.pc, .slice x.da x.d.length x.dc] 76) = y1 at *
    refine xLoop_n x.p.length (fun k => [i64 (k : Int)]) (fun k w' => Ext [] y1 w' ∧ ∀ i (hi : i < x.p.length), i < k → 0 ≤ x.p[i] ∧ x.p[i] ≤ ns.length) rfl ⟨Ext.refl _ _, by intro i _ hi; omega⟩ ?_ ?_
    · intro k hk u v2 hu ⟨F2, hp⟩ nxt2 hnx2
      simp only [List.map_cons, List.map_nil, List.cons.injEq, and_true] at hu
      rw [hu]
      have k2 := fun i => (C.ext F2 (by simp)).cell (i := i)
      obtain ⟨b3, o3, ha3, z3, c3⟩ := its_at ((hok.ext0 X1).ext0 F2).pr hk
      unfold loamref17_Check_l2
      by_cases g1 : x.p[k] < 0
      · simp (disch := (first | omega | decide | (simp only [World.size_alloc, World.size_setCell, World.size_drew, size_sets, List.mem_cons, List.not_mem_nil, or_false, not_false_eq_true] <;> omega) | fail)) only [↓rsGrp3_2, rsGrp3_1, Option.isNone_some, Option.isNone_none, tick_eq, tickV_eq, ne_eq, Int.reduceAdd, Int.reduceSub, Int.reduceMul, Int.reduceEq, Int.reduceLT, Int.reduceLE, Int.reduceToNat, Nat.reduceMul, Nat.reduceAdd, Nat.reduceSub, List.nil_append, List.cons_append, List.getElem?_toArray, List.getElem?_cons_zero, List.getElem?_cons_succ, List.setIfInBounds_toArray, List.set_cons_zero, List.set_cons_succ, Option.map_some, List.not_mem_nil, ←decide_not, k1, ha1, c1, c2, k2, ha3, c3]
        exact bad (by decide) (F.trans (X1.trans F2))
      by_cases g2 : (ns.length : Int) < x.p[k]
      · simp (disch := (first | omega | decide | (simp only [World.size_alloc, World.size_setCell, World.size_drew, size_sets, List.mem_cons, List.not_mem_nil, or_false, not_false_eq_true] <;> omega) | fail)) only [↓rsGrp3_2, rsGrp3_1, Option.isNone_some, Option.isNone_none, tick_eq, tickV_eq, ne_eq, Int.reduceAdd, Int.reduceSub, Int.reduceMul, Int.reduceEq, Int.reduceLT, Int.reduceLE, Int.reduceToNat, Nat.reduceMul, Nat.reduceAdd, Nat.reduceSub, List.nil_append, List.cons_append, List.getElem?_toArray, List.getElem?_cons_zero, List.getElem?_cons_succ, List.setIfInBounds_toArray, List.set_cons_zero, List.set_cons_succ, Option.map_some, List.not_mem_nil, ←decide_not, k1, ha1, c1, c2, k2, ha3, c3]
        exact bad (by decide) (F.trans (X1.trans F2))
      simp (disch := (first | omega | decide | (simp only [World.size_alloc, World.size_setCell, World.size_drew, size_sets, List.mem_cons, List.not_mem_nil, or_false, not_false_eq_true] <;> omega) | fail)) only [↓rsGrp3_2, rsGrp3_1, Option.isNone_some, Option.isNone_none, tick_eq, tickV_eq, ne_eq, Int.reduceAdd, Int.reduceSub, Int.reduceMul, Int.reduceEq, Int.reduceLT, Int.reduceLE, Int.reduceToNat, Nat.reduceMul, Nat.reduceAdd, Nat.reduceSub, List.nil_append, List.cons_append, List.getElem?_toArray, List.getElem?_cons_zero, List.getElem?_cons_succ, List.setIfInBounds_toArray, List.set_cons_zero, List.set_cons_succ, Option.map_some, List.not_mem_nil, ←decide_not, k1, ha1, c1, c2, k2, ha3, c3]
      refine hnx2 _ ⟨F2, fun i hi hik => ?_⟩
      by_cases e : i = k
      · subst e; exact ⟨by omega, by omega⟩
      · exact hp i hi (by omega)
    · intro u v2 hu ⟨F2, hp⟩ nxt2
      simp only [List.map_cons, List.map_nil, List.cons.injEq, and_true] at hu
      rw [hu]
      have k2 := fun i => (C.ext F2 (by simp)).cell (i := i)
      unfold loamref17_Check_l2
      by_cases g1 : 64 < x.p.length
      · simp (disch := (first | omega | decide | (simp only [World.size_alloc, World.size_setCell, World.size_drew, size_sets, List.mem_cons, List.not_mem_nil, or_false, not_false_eq_true] <;> omega) | fail)) only [↓rsGrp3_2, rsGrp3_1, Option.isNone_some, Option.isNone_none, tick_eq, tickV_eq, ne_eq, Int.reduceAdd, Int.reduceSub, Int.reduceMul, Int.reduceEq, Int.reduceLT, Int.reduceLE, Int.reduceToNat, Nat.reduceMul, Nat.reduceAdd, Nat.reduceSub, List.nil_append, List.cons_append, List.getElem?_toArray, List.getElem?_cons_zero, List.getElem?_cons_succ, List.setIfInBounds_toArray, List.set_cons_zero, List.set_cons_succ, Option.map_some, List.not_mem_nil, ←decide_not, k1, ha1, c1, c2, k2]
        exact bad (by decide) (F.trans (X1.trans F2))
      by_cases g2 : 1024 < x.d.length
      · simp (disch := (first | omega | decide | (simp only [World.size_alloc, World.size_setCell, World.size_drew, size_sets, List.mem_cons, List.not_mem_nil, or_false, not_false_eq_true] <;> omega) | fail)) only [↓rsGrp3_2, rsGrp3_1, Option.isNone_some, Option.isNone_none, tick_eq, tickV_eq, ne_eq, Int.reduceAdd, Int.reduceSub, Int.reduceMul, Int.reduceEq, Int.reduceLT, Int.reduceLE, Int.reduceToNat, Nat.reduceMul, Nat.reduceAdd, Nat.reduceSub, List.nil_append, List.cons_append, List.getElem?_toArray, List.getElem?_cons_zero, List.getElem?_cons_succ, List.setIfInBounds_toArray, List.set_cons_zero, List.set_cons_succ, Option.map_some, List.not_mem_nil, ←decide_not, k1, ha1, c1, c2, k2]
        exact bad (by decide) (F.trans (X1.trans F2))
      simp (disch := (first | omega | decide | (simp only [World.size_alloc, World.size_setCell, World.size_drew, size_sets, List.mem_cons, List.not_mem_nil, or_false, not_false_eq_true] <;> omega) | fail)) only [↓rsGrp3_2, rsGrp3_1, Option.isNone_some, Option.isNone_none, tick_eq, tickV_eq, ne_eq, Int.reduceAdd, Int.reduceSub, Int.reduceMul, Int.reduceEq, Int.reduceLT, Int.reduceLE, Int.reduceToNat, Nat.reduceMul, Nat.reduceAdd, Nat.reduceSub, List.nil_append, List.cons_append, List.getElem?_toArray, List.getElem?_cons_zero, List.getElem?_cons_succ, List.setIfInBounds_toArray, List.set_cons_zero, List.set_cons_succ, Option.map_some, List.not_mem_nil, ←decide_not, k1, ha1, c1, c2, k2]
      refine hnx _ ⟨F.trans (X1.trans F2), hqs ⟨fun p hp2 => ?_, by omega, by omega⟩⟩
      obtain ⟨i, hi, rfl⟩ := List.getElem_of_mem hp2
      exact hp i hi hi
  intro u v1 hu ⟨F, hq⟩ nxt
  simp only [List.map_cons, List.map_nil, List.cons.injEq, and_true] at hu
  rw [hu]
  have k1 := fun i => (B.ext F (by simp)).cell (i := i)
  unfold loamref17_Check_l1
  by_cases g0 : 64 < rs.length
  · simp (disch := (first | omega | decide | (simp only [World.size_alloc, World.size_setCell, World.size_drew, size_sets, List.mem_cons, List.not_mem_nil, or_false, not_false_eq_true] <;> omega) | fail)) only [↓rsGrp3_2, rsGrp3_1, Option.isNone_some, Option.isNone_none, tick_eq, tickV_eq, ne_eq, Int.reduceAdd, Int.reduceSub, Int.reduceMul, Int.reduceEq, Int.reduceLT, Int.reduceLE, Int.reduceToNat, Nat.reduceMul, Nat.reduceAdd, Nat.reduceSub, List.nil_append, List.cons_append, List.getElem?_toArray, List.getElem?_cons_zero, List.getElem?_cons_succ, List.setIfInBounds_toArray, List.set_cons_zero, List.set_cons_succ, Option.map_some, List.not_mem_nil, ←decide_not, k1]
    exact bad (by decide) F
  simp (disch := (first | omega | decide | (simp only [World.size_alloc, World.size_setCell, World.size_drew, size_sets, List.mem_cons, List.not_mem_nil, or_false, not_false_eq_true] <;> omega) | fail)) only [↓rsGrp3_2, rsGrp3_1, Option.isNone_some, Option.isNone_none, tick_eq, tickV_eq, ne_eq, Int.reduceAdd, Int.reduceSub, Int.reduceMul, Int.reduceEq, Int.reduceLT, Int.reduceLE, Int.reduceToNat, Nat.reduceMul, Nat.reduceAdd, Nat.reduceSub, List.nil_append, List.cons_append, List.getElem?_toArray, List.getElem?_cons_zero, List.getElem?_cons_succ, List.setIfInBounds_toArray, List.set_cons_zero, List.set_cons_succ, Option.map_some, List.not_mem_nil, ←decide_not, k1]
  refine xLoop_n rs.length (fun j => [i64 (j : Int)]) (fun j w' => Ext [] y w' ∧ (∀ i (hi : i < rs.length), i < j → (1 ≤ rs[i].s.length ∧ rs[i].s.length ≤ 32 ∧ ∀ c ∈ rs[i].s, c ≠ BitVec.ofNat 8 0) ∧ 0 ≤ rs[i].to ∧ rs[i].to ≤ ns.length) ∧ ∀ i (h : i + 1 < rs.length), i + 1 < j → Op.bytesLess (strOf rs[i].s).toList (strOf rs[i + 1].s).toList = true) rfl ⟨F, by intro i _ hi; omega, by intro i _ hi; omega⟩ ?_ ?_
  rotate_left
  · intro u v2 hu ⟨F2, hq2, hq3⟩ nxt2
    simp only [List.map_cons, List.map_nil, List.cons.injEq, and_true] at hu
    rw [hu]
    have k2 := fun i => (B.ext F2 (by simp)).cell (i := i)
    unfold loamref17_Check_l3
    simp (disch := (first | omega | decide | (simp only [World.size_alloc, World.size_setCell, World.size_drew, size_sets, List.mem_cons, List.not_mem_nil, or_false, not_false_eq_true] <;> omega) | fail)) only [↓rsGrp3_2, rsGrp3_1, Option.isNone_some, Option.isNone_none, tick_eq, tickV_eq, ne_eq, Int.reduceAdd, Int.reduceSub, Int.reduceMul, Int.reduceEq, Int.reduceLT, Int.reduceLE, Int.reduceToNat, Nat.reduceMul, Nat.reduceAdd, Nat.reduceSub, List.nil_append, List.cons_append, List.getElem?_toArray, List.getElem?_cons_zero, List.getElem?_cons_succ, List.setIfInBounds_toArray, List.set_cons_zero, List.set_cons_succ, Option.map_some, List.not_mem_nil, ←decide_not, k1, k2]
    refine ⟨⟨0, by trivial, fun _ => ⟨fun x hx => ?_, by omega, fun r hr => ?_, fun i hi => hq3 i hi hi⟩⟩, X.trans F2⟩
    · obtain ⟨i, hi, rfl⟩ := List.getElem_of_mem hx
      exact hq i hi hi
    · obtain ⟨i, hi, rfl⟩ := List.getElem_of_mem hr
      exact hq2 i hi hi
  intro j hj u v2 hu ⟨F2, hq2, hq3⟩ nxt2 hnx2
  simp only [List.map_cons, List.map_nil, List.cons.injEq, and_true] at hu
  rw [hu]
  have k2 := fun i => (B.ext F2 (by simp)).cell (i := i)
  obtain ⟨b1, o1, ha1, z1, c1, c2⟩ := gr_at (hy.ext0 F2).rr hj
  unfold loamref17_Check_l3
  simp (disch := (first | omega | decide | (simp only [World.size_alloc, World.size_setCell, World.size_drew, size_sets, List.mem_cons, List.not_mem_nil, or_false, not_false_eq_true] <;> omega) | fail)) only [↓rsGrp3_2, rsGrp3_1, Option.isNone_some, Option.isNone_none, tick_eq, tickV_eq, ne_eq, Int.reduceAdd, Int.reduceSub, Int.reduceMul, Int.reduceEq, Int.reduceLT, Int.reduceLE, Int.reduceToNat, Nat.reduceMul, Nat.reduceAdd, Nat.reduceSub, List.nil_append, List.cons_append, List.getElem?_toArray, List.getElem?_cons_zero, List.getElem?_cons_succ, List.setIfInBounds_toArray, List.set_cons_zero, List.set_cons_succ, Option.map_some, List.not_mem_nil, ←decide_not, k1, k2, ha1, c1, c2]
  have C : Blk (v2.alloc (.cells #[.string (strOf rs[j].s), i64 rs[j].to] 78)) v2.heap.size 78 [.string (strOf rs[j].s), i64 rs[j].to] := Blk.at rfl
  have X1 : Ext [] v2 (v2.alloc (.cells #[.string (strOf rs[j].s), i64 rs[j].to] 78)) := Ext.alloc _ _ _
  have Bd := (B.ext F2 (by simp)).ext (X1.trans (Ext.drew [] _)) (by simp)
  have kd := fun i => Bd.cell (i := i)
  have hyd := hy.ext0 (F2.trans (X1.trans (Ext.drew [] _)))
  have hsz := C.lt
  generalize v2.heap.size = hc at *
  generalize hyy : v2.alloc (.cells #[.string (strOf rs[j].s), i64 rs[j].to] 78) = y2 at *
  have kc := fun i => (C.ext (Ext.drew [] y2) (by simp)).cell (i := i)
  refine loamref17_Good_call (Yld.mono (Good_spec rs[j].s _) ?_)
  rintro u w4 ⟨⟨bb, rfl, hbb⟩, F4d⟩
  have F4 := (Ext.drew [] y2).trans F4d
  have X4 : Ext [] y w4 := F2.trans (X1.trans F4)
  cases bb with
  | false =>
    simp (disch := (first | omega | decide | (simp only [World.size_alloc, World.size_setCell, World.size_drew, size_sets, List.mem_cons, List.not_mem_nil, or_false, not_false_eq_true] <;> omega) | fail)) only [↓rsGrp3_2, rsGrp3_1, Option.isNone_some, Option.isNone_none, tick_eq, tickV_eq, ne_eq, Int.reduceAdd, Int.reduceSub, Int.reduceMul, Int.reduceEq, Int.reduceLT, Int.reduceLE, Int.reduceToNat, Nat.reduceMul, Nat.reduceAdd, Nat.reduceSub, List.nil_append, List.cons_append, List.getElem?_toArray, List.getElem?_cons_zero, List.getElem?_cons_succ, List.setIfInBounds_toArray, List.set_cons_zero, List.set_cons_succ, Option.map_some, List.not_mem_nil, ←decide_not, k1, k2, ha1, c1, c2]
    exact bad (by decide) X4
  | true =>
  obtain ⟨g1, g2, g3⟩ := hbb rfl
  have k4 := fun i => (B.ext X4 (by simp)).cell (i := i)
  have kc4 := fun i => (C.ext F4 (by simp)).cell (i := i)
  have hq2s : (0 ≤ rs[j].to ∧ rs[j].to ≤ ns.length) → ∀ i (hi : i < rs.length), i < j + 1 → (1 ≤ rs[i].s.length ∧ rs[i].s.length ≤ 32 ∧ ∀ c ∈ rs[i].s, c ≠ BitVec.ofNat 8 0) ∧ 0 ≤ rs[i].to ∧ rs[i].to ≤ ns.length := fun h1 i hi hij => by
    by_cases e : i = j
    · subst e; exact ⟨⟨g1, g2, g3⟩, h1⟩
    · exact hq2 i hi (by omega)
  by_cases hj0 : j = 0
  · by_cases t1 : rs[j].to < 0
    · simp (disch := (first | omega | decide | (simp only [World.size_alloc, World.size_setCell, World.size_drew, size_sets, List.mem_cons, List.not_mem_nil, or_false, not_false_eq_true] <;> omega) | fail)) only [↓rsGrp3_2, rsGrp3_1, Option.isNone_some, Option.isNone_none, tick_eq, tickV_eq, ne_eq, Int.reduceAdd, Int.reduceSub, Int.reduceMul, Int.reduceEq, Int.reduceLT, Int.reduceLE, Int.reduceToNat, Nat.reduceMul, Nat.reduceAdd, Nat.reduceSub, List.nil_append, List.cons_append, List.getElem?_toArray, List.getElem?_cons_zero, List.getElem?_cons_succ, List.setIfInBounds_toArray, List.set_cons_zero, List.set_cons_succ, Option.map_some, List.not_mem_nil, ←decide_not, k1, k2, ha1, c1, c2, kc4]
      exact bad (by decide) X4
    by_cases t2 : (ns.length : Int) < rs[j].to
    · simp (disch := (first | omega | decide | (simp only [World.size_alloc, World.size_setCell, World.size_drew, size_sets, List.mem_cons, List.not_mem_nil, or_false, not_false_eq_true] <;> omega) | fail)) only [↓rsGrp3_2, rsGrp3_1, Option.isNone_some, Option.isNone_none, tick_eq, tickV_eq, ne_eq, Int.reduceAdd, Int.reduceSub, Int.reduceMul, Int.reduceEq, Int.reduceLT, Int.reduceLE, Int.reduceToNat, Nat.reduceMul, Nat.reduceAdd, Nat.reduceSub, List.nil_append, List.cons_append, List.getElem?_toArray, List.getElem?_cons_zero, List.getElem?_cons_succ, List.setIfInBounds_toArray, List.set_cons_zero, List.set_cons_succ, Option.map_some, List.not_mem_nil, ←decide_not, k1, k2, ha1, c1, c2, kc4]
      exact bad (by decide) X4
    simp (disch := (first | omega | decide | (simp only [World.size_alloc, World.size_setCell, World.size_drew, size_sets, List.mem_cons, List.not_mem_nil, or_false, not_false_eq_true] <;> omega) | fail)) only [↓rsGrp3_2, rsGrp3_1, Option.isNone_some, Option.isNone_none, tick_eq, tickV_eq, ne_eq, Int.reduceAdd, Int.reduceSub, Int.reduceMul, Int.reduceEq, Int.reduceLT, Int.reduceLE, Int.reduceToNat, Nat.reduceMul, Nat.reduceAdd, Nat.reduceSub, List.nil_append, List.cons_append, List.getElem?_toArray, List.getElem?_cons_zero, List.getElem?_cons_succ, List.setIfInBounds_toArray, List.set_cons_zero, List.set_cons_succ, Option.map_some, List.not_mem_nil, ←decide_not, k1, k2, ha1, c1, c2, kc4]
    exact hnx2 _ ⟨X4, hq2s ⟨by omega, by omega⟩, fun i hi hij => by omega⟩
  · obtain ⟨b5, o5, ha5, z5, c5, c6⟩ := gr_at (hy.ext0 X4).rr (k := j - 1) (by omega)
    rw [ha1] at ha5
    cases ha5
    have t3 : ((j : Int) - 1).toNat = j - 1 := by omega
    have e3 : (j : Int) - 1 = ((j - 1 : Nat) : Int) := by omega
    by_cases hlt : Op.bytesLess (strOf rs[j - 1].s).toList (strOf rs[j].s).toList = true
    · have hgs := fun w K => geS (cx := false) (cy := false) (strOf rs[j - 1].s) (strOf rs[j].s) w K
      rw [hlt] at hgs
      have hq3s : ∀ i (h : i + 1 < rs.length), i + 1 < j + 1 → Op.bytesLess (strOf rs[i].s).toList (strOf rs[i + 1].s).toList = true := fun i hi hij => by
        by_cases e : i + 1 = j
        · subst e
          exact hlt
        · exact hq3 i hi (by omega)
      by_cases t1 : rs[j].to < 0
      · simp (disch := (first | omega | decide | (simp only [World.size_alloc, World.size_setCell, World.size_drew, size_sets, List.mem_cons, List.not_mem_nil, or_false, not_false_eq_true] <;> omega) | fail)) only [↓rsGrp3_2, rsGrp3_1, Option.isNone_some, Option.isNone_none, tick_eq, tickV_eq, ne_eq, Int.reduceAdd, Int.reduceSub, Int.reduceMul, Int.reduceEq, Int.reduceLT, Int.reduceLE, Int.reduceToNat, Nat.reduceMul, Nat.reduceAdd, Nat.reduceSub, List.nil_append, List.cons_append, List.getElem?_toArray, List.getElem?_cons_zero, List.getElem?_cons_succ, List.setIfInBounds_toArray, List.set_cons_zero, List.set_cons_succ, Option.map_some, List.not_mem_nil, ←decide_not, k1, k2, ha1, c1, c2, kc4, k4, t3, c5, hgs]
        exact bad (by decide) X4
      by_cases t2 : (ns.length : Int) < rs[j].to
      · simp (disch := (first | omega | decide | (simp only [World.size_alloc, World.size_setCell, World.size_drew, size_sets, List.mem_cons, List.not_mem_nil, or_false, not_false_eq_true] <;> omega) | fail)) only [↓rsGrp3_2, rsGrp3_1, Option.isNone_some, Option.isNone_none, tick_eq, tickV_eq, ne_eq, Int.reduceAdd, Int.reduceSub, Int.reduceMul, Int.reduceEq, Int.reduceLT, Int.reduceLE, Int.reduceToNat, Nat.reduceMul, Nat.reduceAdd, Nat.reduceSub, List.nil_append, List.cons_append, List.getElem?_toArray, List.getElem?_cons_zero, List.getElem?_cons_succ, List.setIfInBounds_toArray, List.set_cons_zero, List.set_cons_succ, Option.map_some, List.not_mem_nil, ←decide_not, k1, k2, ha1, c1, c2, kc4, k4, t3, c5, hgs]
        exact bad (by decide) X4
      simp (disch := (first | omega | decide | (simp only [World.size_alloc, World.size_setCell, World.size_drew, size_sets, List.mem_cons, List.not_mem_nil, or_false, not_false_eq_true] <;> omega) | fail)) only [↓rsGrp3_2, rsGrp3_1, Option.isNone_some, Option.isNone_none, tick_eq, tickV_eq, ne_eq, Int.reduceAdd, Int.reduceSub, Int.reduceMul, Int.reduceEq, Int.reduceLT, Int.reduceLE, Int.reduceToNat, Nat.reduceMul, Nat.reduceAdd, Nat.reduceSub, List.nil_append, List.cons_append, List.getElem?_toArray, List.getElem?_cons_zero, List.getElem?_cons_succ, List.setIfInBounds_toArray, List.set_cons_zero, List.set_cons_succ, Option.map_some, List.not_mem_nil, ←decide_not, k1, k2, ha1, c1, c2, kc4, k4, t3, c5, hgs]
      exact hnx2 _ ⟨X4, hq2s ⟨by omega, by omega⟩, hq3s⟩
    · have hgs := fun w K => geS (cx := false) (cy := false) (strOf rs[j - 1].s) (strOf rs[j].s) w K
      have hlt' : Op.bytesLess (strOf rs[j - 1].s).toList (strOf rs[j].s).toList = false := by simpa using hlt
      rw [hlt'] at hgs
      simp (disch := (first | omega | decide | (simp only [World.size_alloc, World.size_setCell, World.size_drew, size_sets, List.mem_cons, List.not_mem_nil, or_false, not_false_eq_true] <;> omega) | fail)) only [↓rsGrp3_2, rsGrp3_1, Option.isNone_some, Option.isNone_none, tick_eq, tickV_eq, ne_eq, Int.reduceAdd, Int.reduceSub, Int.reduceMul, Int.reduceEq, Int.reduceLT, Int.reduceLE, Int.reduceToNat, Nat.reduceMul, Nat.reduceAdd, Nat.reduceSub, List.nil_append, List.cons_append, List.getElem?_toArray, List.getElem?_cons_zero, List.getElem?_cons_succ, List.setIfInBounds_toArray, List.set_cons_zero, List.set_cons_succ, Option.map_some, List.not_mem_nil, ←decide_not, k1, k2, ha1, c1, c2, kc4, k4, t3, c5, hgs]
      exact bad (by decide) X4
/-- a node's words -/
def gsz (x : GN) : Nat := 1 + x.p.length + (x.d.length + 7) / 8
abbrev rsGrp3_3 := (And.intro @xBox_r (And.intro @loadK_some (And.intro @loadsK_s (And.intro @loadsK_n (And.intro @loadsR_s (And.intro @loadsR_n (And.intro @storesK_s (And.intro @storesK_n (And.intro @xPick_t (And.intro @xPick_f (And.intro @xGuard_tt (And.intro @xGuard_ff (And.intro @xGuard_tf (And.intro @xGuard_ft (And.intro @xGuard_u 
  (And.intro @xNil_r (And.intro @xIf_t (And.intro @xBin_add' (And.intro @xBin_sub' (And.intro @xBin_mul' (And.intro @xBin_quo' (And.intro @xBin_rem' (And.intro @xIf_f (And.intro @xIf_tt (And.intro @xEx0 (And.intro @xEx1 (And.intro @xEx2 (And.intro @xEx3 (And.intro @xBin_eqs (And.intro @xBin_nes (And.intro @xUn_not (And.intro @xMakeFunc_r (And.intro @xSq_r 
  (And.intro @xPur_s (And.intro @xRd_s (And.intro @xRe_s (And.intro @xDet_s (And.intro @xDet_ld (And.intro @xDet_ld2 (And.intro @xDet_ld3 (And.intro @xDet_ld4 (And.intro @xGuard_tt (And.intro @ld_66 (And.intro @ld_70 (And.intro @fa_76_0 (And.intro @fa_76_1 (And.intro @bd_84_0_1 (And.intro @bd_84_2_3 (And.intro @bd_84 (And.intro @ln_66 @ln_70))))))))))))))))))))))))))))))))))))))))))))))))))
theorem gsize_spec {w : World} (x : GN) (h1 : x.p.length ≤ 64) (h2 : x.d.length ≤ 1024) : Gives Try.prog n_loamref17_size #[.agg #[.slice x.pa x.p.length x.pc, .slice x.da x.d.length x.dc]] w (i64 (gsz x : Int)) := by
  refine loamref17_size_of ?_
  unfold loamref17_size
  simp (disch := (first | omega | decide | (simp only [World.size_alloc, World.size_setCell, World.size_drew, size_sets, List.mem_cons, List.not_mem_nil, or_false, not_false_eq_true] <;> omega) | fail)) only [↓rsGrp3_3, rsGrp3_1, Option.isNone_some, Option.isNone_none, tick_eq, tickV_eq, ne_eq, Int.reduceAdd, Int.reduceSub, Int.reduceMul, Int.reduceEq, Int.reduceLT, Int.reduceLE, Int.reduceToNat, Nat.reduceMul, Nat.reduceAdd, Nat.reduceSub, List.nil_append, List.cons_append, List.getElem?_toArray, List.getElem?_cons_zero, List.getElem?_cons_succ, List.setIfInBounds_toArray, List.set_cons_zero, List.set_cons_succ, Option.map_some, List.not_mem_nil, ←decide_not, eq_self]
  have hr := rSize_spec (x.p.length : Int) (x.d.length : Int) false 0 (w.alloc (.cells #[.slice x.pa x.p.length x.pc, .slice x.da x.d.length x.dc] 76))
  have e : sizeV (x.p.length : Int) (x.d.length : Int) false 0 = (gsz x : Int) := by
    unfold sizeV gsz
    rw [if_pos ⟨right_f.2 (by omega), rfl⟩]
    omega
  rw [e] at hr
  refine loamref14_Size_call (Gives.to hr fun w1 F1 => ?_)
  exact ⟨by trivial, (Ext.alloc _ _ _).trans F1⟩
end Go.Proofs.Ytdpmidgeipibbaa
end
section
set_option linter.unusedVariables false
set_option linter.unusedSimpArgs false
set_option maxHeartbeats 4000000
namespace Go.Proofs.Ytdpmidgeipibbaa
open Go.Sh Go.RowKit

def gW (ns : List GN) : Nat := (ns.map gsz).sum
theorem gW_snoc (l : List GN) (x : GN) : gW (l ++ [x]) = gW l + gsz x := by simp [gW]
theorem gW_take {ns : List GN} {j : Nat} (hj : j < ns.length) : gW (ns.take (j + 1)) = gW (ns.take j) + gsz ns[j] := by
  rw [List.take_add_one, List.getElem?_eq_getElem hj]
  exact gW_snoc _ _
theorem gW_le (ns : List GN) (h : ∀ x ∈ ns, x.p.length ≤ 64 ∧ x.d.length ≤ 1024) : gW ns ≤ 193 * ns.length := by
  induction ns with
  | nil => simp [gW]
  | cons x ns ih =>
    have h1 := h x (by simp)
    have := ih fun y hy => h y (by simp [hy])
    have e : gW (x :: ns) = gsz x + gW ns := by simp [gW]
    rw [e, List.length_cons]
    unfold gsz
    omega
abbrev rsGrp4_0 := (And.intro @xBox_r (And.intro @loadK_some (And.intro @loadsK_s (And.intro @loadsK_n (And.intro @loadsR_s (And.intro @loadsR_n (And.intro @storesK_s (And.intro @storesK_n (And.intro @xPick_t (And.intro @xPick_f (And.intro @xGuard_tt (And.intro @xGuard_ff (And.intro @xGuard_tf (And.intro @xGuard_ft (And.intro @xGuard_u 
  (And.intro @xNil_r (And.intro @xIf_t (And.intro @xBin_add' (And.intro @xBin_sub' (And.intro @xBin_mul' (And.intro @xBin_quo' (And.intro @xBin_rem' (And.intro @xIf_f (And.intro @xIf_tt (And.intro @xEx0 (And.intro @xEx1 (And.intro @xEx2 (And.intro @xEx3 (And.intro @xBin_eqs (And.intro @xBin_nes (And.intro @xUn_not (And.intro @xu8_add (And.intro @xu8_lss 
  (And.intro @xu16_add (And.intro @xu16_lss (And.intro @xu32_add (And.intro @xu32_lss (And.intro @xu64_add (And.intro @xu64_lss (And.intro @xi64_lss (And.intro @xMakeFunc_r (And.intro @xSq_r (And.intro @xPur_s (And.intro @xRd_s (And.intro @xRe_s (And.intro @xDet_s (And.intro @xDet_ld (And.intro @xDet_ld2 (And.intro @xDet_ld3 (And.intro @xDet_ld4 
  (And.intro @xGuard_tt (And.intro @ld_31 (And.intro @ld_76 (And.intro @fa_34_0 (And.intro @ia_31 @ln_31)))))))))))))))))))))))))))))))))))))))))))))))))))))))
abbrev rsGrp4_1 := (And.intro @setCells_c (And.intro @setCells_n (And.intro @World.setCell_alloc_at (And.intro @World.setCell_alloc_past (And.intro @World.cell?_alloc_at (And.intro @World.cell?_alloc_past (And.intro @World.frozen?_alloc_at (And.intro @World.frozen?_alloc_past 
  (And.intro @World.size_alloc (And.intro @dlt_t (And.intro @dlt_f (And.intro @dle_t (And.intro @dle_f (And.intro @deq_t (And.intro @deq_f (And.intro @dne_t (And.intro @dne_f (And.intro @not_true_eq_false (And.intro @Bool.false_and (And.intro @Bool.true_and (And.intro @Bool.and_true (And.intro @Bool.and_false (And.intro @wrap_in (And.intro @Int.toNat_natCast 
  (And.intro @Nat.mul_one (And.intro @cells_int (And.intro @cells_bool (And.intro @cells_string (And.intro @cells_slice (And.intro @cells_pointer (And.intro @cells_agg (And.intro @one_int (And.intro @one_bool (And.intro @one_string (And.intro @one_slice (And.intro @one_pointer (And.intro @beq_tt (And.intro @beq_ff (And.intro @beq_tf 
  (And.intro @beq_ft (And.intro @cell_sets_b (And.intro @frozen_sets (And.intro @size_sets (And.intro @World.size_drew (And.intro @Nat.zero_add (And.intro @Nat.add_zero (And.intro @cell_drew (And.intro @frozen_drew (And.intro @cell_set_eq (And.intro @cell_set_o (And.intro @cell_set_b (And.intro @World.frozen?_setCell 
  (And.intro @decide_true (And.intro @decide_false (And.intro @not_false_eq_true (And.intro @Bool.not_true @Bool.not_false))))))))))))))))))))))))))))))))))))))))))))))))))))))))
theorem GWords_spec {w : World} {na ra : Option Addr} {nc rc : Nat} {ns : List GN} {rs : List GR} (h : GIs w na nc ra rc ns rs) (hf : FewG ns rs) (hg : GoodG ns rs) : Gives Try.prog n_loamref17_Words #[gV na nc ra rc ns rs] w (i64 (gW ns : Int)) := by
  have hfn := hf.n
  refine loamref17_Words_of ?_
  unfold loamref17_Words
  simp (disch := (first | omega | decide | (simp only [World.size_alloc, World.size_setCell, World.size_drew, size_sets, List.mem_cons, List.not_mem_nil, or_false, not_false_eq_true] <;> omega) | fail)) only [↓rsGrp4_0, rsGrp4_1, Option.isNone_some, Option.isNone_none, tick_eq, tickV_eq, ne_eq, Int.reduceAdd, Int.reduceSub, Int.reduceMul, Int.reduceEq, Int.reduceLT, Int.reduceLE, Int.reduceToNat, Nat.reduceMul, Nat.reduceAdd, Nat.reduceSub, List.nil_append, List.cons_append, List.getElem?_toArray, List.getElem?_cons_zero, List.getElem?_cons_succ, List.setIfInBounds_toArray, List.set_cons_zero, List.set_cons_succ, Option.map_some, List.not_mem_nil, ←decide_not, eq_self]
  have B : Blk (w.alloc (.cells #[.slice na ns.length nc, .slice ra rs.length rc] 34)) w.heap.size 34 [.slice na ns.length nc, .slice ra rs.length rc] := Blk.at rfl
  have X : Ext [] w (w.alloc (.cells #[.slice na ns.length nc, .slice ra rs.length rc] 34)) := Ext.alloc _ _ _
  have hy := h.ext0 X
  generalize w.heap.size = hb at *
  generalize w.alloc (.cells #[.slice na ns.length nc, .slice ra rs.length rc] 34) = y at *
  refine xLoop_n ns.length (fun j => [i64 (gW (ns.take j) : Int), i64 (j : Int)]) (fun j w' => Ext [] y w') rfl (Ext.refl _ _) ?_ ?_
  · intro j hj u v1 hu F nxt hnx
    simp only [List.map_cons, List.map_nil, List.cons.injEq, and_true] at hu
    rw [hu.1, hu.2]
    have k1 := fun i => (B.ext F (by simp)).cell (i := i)
    obtain ⟨b1, o1, ha1, z1, c1, c2⟩ := gn_at (hy.ext0 F).nr hj
    have hgx := hg.x _ (List.getElem_mem hj)
    have hle := gW_le (ns.take j) fun x hx => (hg.x x (List.mem_of_mem_take hx)).2
    rw [List.length_take] at hle
    have hsu := gW_take hj
    have e1 : (gW (ns.take j) : Int) + (gsz ns[j] : Int) = (gW (ns.take (j + 1)) : Int) := by omega
    have hgs : gsz ns[j] ≤ 193 := by unfold gsz; omega
    unfold loamref17_Words_l1
    simp (disch := (first | omega | decide | (simp only [World.size_alloc, World.size_setCell, World.size_drew, size_sets, List.mem_cons, List.not_mem_nil, or_false, not_false_eq_true] <;> omega) | fail)) only [↓rsGrp4_0, rsGrp4_1, Option.isNone_some, Option.isNone_none, tick_eq, tickV_eq, ne_eq, Int.reduceAdd, Int.reduceSub, Int.reduceMul, Int.reduceEq, Int.reduceLT, Int.reduceLE, Int.reduceToNat, Nat.reduceMul, Nat.reduceAdd, Nat.reduceSub, List.nil_append, List.cons_append, List.getElem?_toArray, List.getElem?_cons_zero, List.getElem?_cons_succ, List.setIfInBounds_toArray, List.set_cons_zero, List.set_cons_succ, Option.map_some, List.not_mem_nil, ←decide_not, k1, ha1, c1, c2]
    refine loamref17_size_call (Gives.to (gsize_spec ns[j] hgx.2.1 hgx.2.2) fun w2 F2 => ?_)
    simp (disch := (first | omega | decide | (simp only [World.size_alloc, World.size_setCell, World.size_drew, size_sets, List.mem_cons, List.not_mem_nil, or_false, not_false_eq_true] <;> omega) | fail)) only [↓rsGrp4_0, rsGrp4_1, Option.isNone_some, Option.isNone_none, tick_eq, tickV_eq, ne_eq, Int.reduceAdd, Int.reduceSub, Int.reduceMul, Int.reduceEq, Int.reduceLT, Int.reduceLE, Int.reduceToNat, Nat.reduceMul, Nat.reduceAdd, Nat.reduceSub, List.nil_append, List.cons_append, List.getElem?_toArray, List.getElem?_cons_zero, List.getElem?_cons_succ, List.setIfInBounds_toArray, List.set_cons_zero, List.set_cons_succ, Option.map_some, List.not_mem_nil, ←decide_not, k1, ha1, c1, c2]
    rw [e1]
    exact hnx _ (F.trans F2)
  · intro u v1 hu F nxt
    simp only [List.map_cons, List.map_nil, List.cons.injEq, and_true] at hu
    rw [hu.1, hu.2]
    have k1 := fun i => (B.ext F (by simp)).cell (i := i)
    unfold loamref17_Words_l1
    simp (disch := (first | omega | decide | (simp only [World.size_alloc, World.size_setCell, World.size_drew, size_sets, List.mem_cons, List.not_mem_nil, or_false, not_false_eq_true] <;> omega) | fail)) only [↓rsGrp4_0, rsGrp4_1, Option.isNone_some, Option.isNone_none, tick_eq, tickV_eq, ne_eq, Int.reduceAdd, Int.reduceSub, Int.reduceMul, Int.reduceEq, Int.reduceLT, Int.reduceLE, Int.reduceToNat, Nat.reduceMul, Nat.reduceAdd, Nat.reduceSub, List.nil_append, List.cons_append, List.getElem?_toArray, List.getElem?_cons_zero, List.getElem?_cons_succ, List.setIfInBounds_toArray, List.set_cons_zero, List.set_cons_succ, Option.map_some, List.not_mem_nil, ←decide_not, k1]
    exact ⟨by rw [List.take_length], X.trans F⟩
abbrev rsGrp4_2 := (And.intro @xBox_r (And.intro @loadK_some (And.intro @loadsK_s (And.intro @loadsK_n (And.intro @loadsR_s (And.intro @loadsR_n (And.intro @storesK_s (And.intro @storesK_n (And.intro @xPick_t (And.intro @xPick_f (And.intro @xGuard_tt (And.intro @xGuard_ff (And.intro @xGuard_tf (And.intro @xGuard_ft (And.intro @xGuard_u 
  (And.intro @xNil_r (And.intro @xIf_t (And.intro @xBin_add' (And.intro @xBin_sub' (And.intro @xBin_mul' (And.intro @xBin_quo' (And.intro @xBin_rem' (And.intro @xIf_f (And.intro @xIf_tt (And.intro @xEx0 (And.intro @xEx1 (And.intro @xEx2 (And.intro @xEx3 (And.intro @xBin_eqs (And.intro @xBin_nes (And.intro @xUn_not (And.intro @xu8_add (And.intro @xu8_mul 
  (And.intro @xu16_add (And.intro @xu16_mul (And.intro @xu32_add (And.intro @xu32_mul (And.intro @xu64_add (And.intro @xu64_mul (And.intro @xMakeFunc_r (And.intro @xSq_r (And.intro @xPur_s (And.intro @xRd_s (And.intro @xRe_s (And.intro @xDet_s (And.intro @xDet_ld (And.intro @xDet_ld2 (And.intro @xDet_ld3 (And.intro @xDet_ld4 (And.intro @xGuard_tt 
  (And.intro @ld_32 (And.intro @ld_34 (And.intro @fa_34_1 @ln_32)))))))))))))))))))))))))))))))))))))))))))))))))))))
theorem GNeed_spec {w : World} {na ra : Option Addr} {nc rc : Nat} {ns : List GN} {rs : List GR} (h : GIs w na nc ra rc ns rs) (hf : FewG ns rs) (hg : GoodG ns rs) : Gives Try.prog n_loamref17_Need #[gV na nc ra rc ns rs] w (i64 ((2 + 5 * rs.length + gW ns : Nat) : Int)) := by
  have hfn := hf.n
  have hfr := hf.r
  have hle := gW_le ns fun x hx => (hg.x x hx).2
  refine loamref17_Need_of ?_
  unfold loamref17_Need
  simp (disch := (first | omega | decide | (simp only [World.size_alloc, World.size_setCell, World.size_drew, size_sets, List.mem_cons, List.not_mem_nil, or_false, not_false_eq_true] <;> omega) | fail)) only [↓rsGrp4_2, rsGrp4_1, Option.isNone_some, Option.isNone_none, tick_eq, tickV_eq, ne_eq, Int.reduceAdd, Int.reduceSub, Int.reduceMul, Int.reduceEq, Int.reduceLT, Int.reduceLE, Int.reduceToNat, Nat.reduceMul, Nat.reduceAdd, Nat.reduceSub, List.nil_append, List.cons_append, List.getElem?_toArray, List.getElem?_cons_zero, List.getElem?_cons_succ, List.setIfInBounds_toArray, List.set_cons_zero, List.set_cons_succ, Option.map_some, List.not_mem_nil, ←decide_not, eq_self]
  have B : Blk (w.alloc (.cells #[.slice na ns.length nc, .slice ra rs.length rc] 34)) w.heap.size 34 [.slice na ns.length nc, .slice ra rs.length rc] := Blk.at rfl
  have X : Ext [] w (w.alloc (.cells #[.slice na ns.length nc, .slice ra rs.length rc] 34)) := Ext.alloc _ _ _
  have X1 := X.trans (Ext.drew [] _)
  refine loamref17_Words_call (Gives.to (GWords_spec (h.ext0 X1) hf hg) fun w2 F2d => ?_)
  have F2 := (Ext.drew [] _).trans F2d
  have k2 := fun i => (B.ext F2 (by simp)).cell (i := i)
  have e1 : 2 + 5 * (rs.length : Int) + (gW ns : Int) = ((2 + 5 * rs.length + gW ns : Nat) : Int) := by omega
  simp (disch := (first | omega | decide | (simp only [World.size_alloc, World.size_setCell, World.size_drew, size_sets, List.mem_cons, List.not_mem_nil, or_false, not_false_eq_true] <;> omega) | fail)) only [↓rsGrp4_2, rsGrp4_1, Option.isNone_some, Option.isNone_none, tick_eq, tickV_eq, ne_eq, Int.reduceAdd, Int.reduceSub, Int.reduceMul, Int.reduceEq, Int.reduceLT, Int.reduceLE, Int.reduceToNat, Nat.reduceMul, Nat.reduceAdd, Nat.reduceSub, List.nil_append, List.cons_append, List.getElem?_toArray, List.getElem?_cons_zero, List.getElem?_cons_succ, List.setIfInBounds_toArray, List.set_cons_zero, List.set_cons_succ, Option.map_some, List.not_mem_nil, ←decide_not, k2]
  exact ⟨by rw [e1], X.trans F2⟩
/-! bytes as words -/
def orV (l : List (BitVec 8)) (a : Nat) : Nat → BitVec 64
  | 0 => BitVec.ofNat 64 0
  | k + 1 => orV l a k ||| ((l.getD (a + k) (BitVec.ofNat 8 0)).setWidth 64 <<< (8 * k))
def wordV (l : List (BitVec 8)) (i : Nat) : BitVec 64 := orV l (8 * i) (min 8 (l.length - 8 * i))
def wordsV (l : List (BitVec 8)) : List (BitVec 64) := (List.range ((l.length + 7) / 8)).map (wordV l)
theorem wordsV_len (l : List (BitVec 8)) : (wordsV l).length = (l.length + 7) / 8 := by simp [wordsV]
theorem appU' {w : World} {K : K1} {v : Value} {l : List (BitVec 64)} {x : BitVec 64} {g : Nat} {cs : List Value} (hO : OwnU w v l) (hcs : cs = [u64 x]) (hl : l.length ≤ 100000)
    (hK : ∀ v' w', OwnU w' v' (l ++ [x]) → Stp (blk v) (blk v') w w' → K v' w') (hg : g = w.heap.size := by first | rfl | (simp only [World.size_alloc, World.size_drew, World.size_setCell] <;> omega)) : xBuiltin Try.prog .append #[28, 28] 28 [false, false] [v, .slice (some ⟨g, 0, none⟩) 1 1] (w.alloc (.cells cs.toArray 69)) K := by
  subst hcs hg
  refine xAppL (bytes := 8) (z := .int .u64 0) (by kernel_rfl) (by kernel_rfl) (by rfl) (by decide) hO (by simp) (by simp [Value.oneCell']) (by omega) (by omega) fun v' w' h1 h2 => hK v' w' ?_ h2
  show Own w' 69 1 v' (l ++ [x]).length (wrds (l ++ [x]))
  rw [List.length_append, wrds, List.map_append]
  exact h1
theorem appUs {w : World} {K : K1} {v : Value} {l m : List (BitVec 64)} {a : Option Addr} {c : Nat} (hO : OwnU w v l) (hr : RowAt w a (wrds m)) (hn : a = none → c = 0) (hc : m.length ≤ c) (hl : l.length + m.length ≤ 1000000)
    (hK : ∀ v' w', OwnU w' v' (l ++ m) → Stp (blk v) (blk v') w w' → K v' w') : xBuiltin Try.prog .append #[28, 28] 28 [false, false] [v, .slice a m.length c] w K := by
  refine xApp (e := 69) (s := 1) (n := l.length) (m := m.length) (xs := wrds l) (news := wrds m) (bytes := 8) (z := .int .u64 0) (by kernel_rfl) (by kernel_rfl) (by rfl) (by decide) hO (by simp) hr hn hc (fun u hu => by obtain ⟨x, _, rfl⟩ := List.mem_map.1 hu; rfl) (by omega) (by omega) fun v' w' h1 h2 => hK v' w' ?_ h2
  show Own w' 69 1 v' (l ++ m).length (wrds (l ++ m))
  rw [List.length_append, wrds, List.map_append]
  exact h1
abbrev rsGrp4_3 := (And.intro @xBox_r (And.intro @loadK_some (And.intro @loadsK_s (And.intro @loadsK_n (And.intro @loadsR_s (And.intro @loadsR_n (And.intro @storesK_s (And.intro @storesK_n (And.intro @xPick_t (And.intro @xPick_f (And.intro @xGuard_tt (And.intro @xGuard_ff (And.intro @xGuard_tf (And.intro @xGuard_ft (And.intro @xGuard_u 
  (And.intro @xNil_r (And.intro @xIf_t (And.intro @xBin_add' (And.intro @xBin_sub' (And.intro @xBin_mul' (And.intro @xBin_quo' (And.intro @xBin_rem' (And.intro @xIf_f (And.intro @xIf_tt (And.intro @xEx0 (And.intro @xEx1 (And.intro @xEx2 (And.intro @xEx3 (And.intro @xBin_eqs (And.intro @xBin_nes (And.intro @xUn_not (And.intro @xu8_add (And.intro @xu8_mul 
  (And.intro @xu8_or (And.intro @xu8_shl (And.intro @xu8_lss (And.intro @xu16_add (And.intro @xu16_mul (And.intro @xu16_or (And.intro @xu16_shl (And.intro @xu16_lss (And.intro @xu32_add (And.intro @xu32_mul (And.intro @xu32_or (And.intro @xu32_shl (And.intro @xu32_lss (And.intro @xu64_add (And.intro @xu64_mul (And.intro @xu64_or (And.intro @xu64_shl 
  (And.intro @xu64_lss (And.intro @xi64_lss (And.intro @xi64_or (And.intro @xi64_shl (And.intro @xMakeFunc_r (And.intro @xSq_r (And.intro @xPur_s (And.intro @xRd_s (And.intro @xRe_s (And.intro @xDet_s (And.intro @xDet_ld (And.intro @xDet_ld2 (And.intro @xDet_ld3 (And.intro @xDet_ld4 (And.intro @xGuard_tt (And.intro @ld_5 (And.intro @cv_3_77 (And.intro @cv_5_69 
  (And.intro @ia_70 (And.intro @ln_70 (And.intro @bs_28_0 (And.intro @bs_28_1 (And.intro @bs_28_2 @bs_28_3)))))))))))))))))))))))))))))))))))))))))))))))))))))))))))))))))))))))))
theorem rwords_spec {w : World} (l : List (BitVec 8)) (a : Option Addr) (c : Nat) (h : RowAt w a (bys l)) (hl : l.length ≤ 10000) : Yld Try.prog n_loamref17_words #[.slice a l.length c] w fun u w' => NewU w w' u (wordsV l) := by
  refine loamref17_words_of ?_
  unfold loamref17_words
  refine xLoop_r ((l.length + 7) / 8) (fun i vs w' => ∃ v, vs = [v, i64 ((8 * i : Nat) : Int)] ∧ NewU w w' v ((List.range i).map (wordV l))) ⟨_, rfl, NewR.nil (Ext.refl _ _)⟩ ?_ ?_
  · rintro i hi u v1 ⟨v, hu, N⟩ nxt hnx
    simp only [List.map_cons, List.map_nil, List.cons.injEq, and_true] at hu
    rw [hu.1, hu.2]
    have hlt : 8 * i < l.length := by omega
    unfold loamref17_words_l1
    simp (disch := (first | omega | decide | (simp only [World.size_alloc, World.size_setCell, World.size_drew, size_sets, List.mem_cons, List.not_mem_nil, or_false, not_false_eq_true] <;> omega) | fail)) only [↓rsGrp4_3, rsGrp4_1, Option.isNone_some, Option.isNone_none, tick_eq, tickV_eq, ne_eq, Int.reduceAdd, Int.reduceSub, Int.reduceMul, Int.reduceEq, Int.reduceLT, Int.reduceLE, Int.reduceToNat, Nat.reduceMul, Nat.reduceAdd, Nat.reduceSub, List.nil_append, List.cons_append, List.getElem?_toArray, List.getElem?_cons_zero, List.getElem?_cons_succ, List.setIfInBounds_toArray, List.set_cons_zero, List.set_cons_succ, Option.map_some, List.not_mem_nil, ←decide_not, eq_self]
    refine xLoop_n (min 8 (l.length - 8 * i)) (fun k => [u64 (orV l (8 * i) k), i64 (k : Int)]) (fun k w' => Ext [] v1 w') rfl (Ext.refl _ _) ?_ ?_
    · intro k hk u v2 hu F nxt2 hnx2
      simp only [List.map_cons, List.map_nil, List.cons.injEq, and_true] at hu
      rw [hu.1, hu.2]
      have hkl : 8 * i + k < l.length := by omega
      obtain ⟨b1, o1, rfl, z1, k1⟩ := ((h.ext0 N.1).ext0 F).at (i := 8 * i + k) (by simpa using hkl)
      simp only [List.getElem_map] at k1
      have e1 : ((8 * i : Nat) : Int) + (k : Int) = ((8 * i + k : Nat) : Int) := by omega
      have hsh : (BitVec.ofInt 64 (8 * (k : Int))).toNat = 8 * k := by
        rw [show 8 * (k : Int) = ((8 * k : Nat) : Int) by omega, BitVec.ofInt_natCast, BitVec.toNat_ofNat]
        omega
      have hs : orV l (8 * i) (k + 1) = orV l (8 * i) k ||| ((l[8 * i + k]).setWidth 64 <<< (8 * k)) := by
        rw [orV, List.getD_eq_getElem?_getD, List.getElem?_eq_getElem hkl]
        rfl
      have hk8 : k < 8 := by omega
      unfold loamref17_words_l2
      generalize orV l (8 * i) k = oo at *
      generalize hq : 8 * i + k = q at *
      simp (disch := (first | omega | decide | (simp only [World.size_alloc, World.size_setCell, World.size_drew, size_sets, List.mem_cons, List.not_mem_nil, or_false, not_false_eq_true] <;> omega) | fail)) only [↓rsGrp4_3, rsGrp4_1, Option.isNone_some, Option.isNone_none, tick_eq, tickV_eq, ne_eq, Int.reduceAdd, Int.reduceSub, Int.reduceMul, Int.reduceEq, Int.reduceLT, Int.reduceLE, Int.reduceToNat, Nat.reduceMul, Nat.reduceAdd, Nat.reduceSub, List.nil_append, List.cons_append, List.getElem?_toArray, List.getElem?_cons_zero, List.getElem?_cons_succ, List.setIfInBounds_toArray, List.set_cons_zero, List.set_cons_succ, Option.map_some, List.not_mem_nil, ←decide_not, e1, k1, hsh]
      rw [← hs]
      exact hnx2 _ F
    · intro u v2 hu F nxt2
      simp only [List.map_cons, List.map_nil, List.cons.injEq, and_true] at hu
      rw [hu.1, hu.2]
      have N2 := N.ext F
      have hw : orV l (8 * i) (min 8 (l.length - 8 * i)) = wordV l i := rfl
      have hsu : (List.range (i + 1)).map (wordV l) = (List.range i).map (wordV l) ++ [wordV l i] := by rw [List.range_succ, List.map_append]; rfl
      have e2 : ((8 * i : Nat) : Int) + 8 = ((8 * (i + 1) : Nat) : Int) := by omega
      unfold loamref17_words_l2
      rw [hw]
      by_cases h8 : l.length - 8 * i < 8
      · have hmin : min 8 (l.length - 8 * i) = l.length - 8 * i := by omega
        have e3 : ((8 * i : Nat) : Int) + ((l.length - 8 * i : Nat) : Int) = (l.length : Int) := by omega
        rw [hmin]
        simp (disch := (first | omega | decide | (simp only [World.size_alloc, World.size_setCell, World.size_drew, size_sets, List.mem_cons, List.not_mem_nil, or_false, not_false_eq_true] <;> omega) | fail)) only [↓rsGrp4_3, rsGrp4_1, Option.isNone_some, Option.isNone_none, tick_eq, tickV_eq, ne_eq, Int.reduceAdd, Int.reduceSub, Int.reduceMul, Int.reduceEq, Int.reduceLT, Int.reduceLE, Int.reduceToNat, Nat.reduceMul, Nat.reduceAdd, Nat.reduceSub, List.nil_append, List.cons_append, List.getElem?_toArray, List.getElem?_cons_zero, List.getElem?_cons_succ, List.setIfInBounds_toArray, List.set_cons_zero, List.set_cons_succ, Option.map_some, List.not_mem_nil, ←decide_not, e3]
        refine appU' N2.2.1 rfl (by simp; omega) fun v' w3 O3 F3 => ?_
        simp (disch := (first | omega | decide | (simp only [World.size_alloc, World.size_setCell, World.size_drew, size_sets, List.mem_cons, List.not_mem_nil, or_false, not_false_eq_true] <;> omega) | fail)) only [↓rsGrp4_3, rsGrp4_1, Option.isNone_some, Option.isNone_none, tick_eq, tickV_eq, ne_eq, Int.reduceAdd, Int.reduceSub, Int.reduceMul, Int.reduceEq, Int.reduceLT, Int.reduceLE, Int.reduceToNat, Nat.reduceMul, Nat.reduceAdd, Nat.reduceSub, List.nil_append, List.cons_append, List.getElem?_toArray, List.getElem?_cons_zero, List.getElem?_cons_succ, List.setIfInBounds_toArray, List.set_cons_zero, List.set_cons_succ, Option.map_some, List.not_mem_nil, ←decide_not, e3]
        rw [e2]
        refine hnx _ _ ⟨v', rfl, ?_⟩
        rw [hsu]
        exact N2.app O3 F3
      · have hmin : min 8 (l.length - 8 * i) = 8 := by omega
        rw [hmin]
        simp (disch := (first | omega | decide | (simp only [World.size_alloc, World.size_setCell, World.size_drew, size_sets, List.mem_cons, List.not_mem_nil, or_false, not_false_eq_true] <;> omega) | fail)) only [↓rsGrp4_3, rsGrp4_1, Option.isNone_some, Option.isNone_none, tick_eq, tickV_eq, ne_eq, Int.reduceAdd, Int.reduceSub, Int.reduceMul, Int.reduceEq, Int.reduceLT, Int.reduceLE, Int.reduceToNat, Nat.reduceMul, Nat.reduceAdd, Nat.reduceSub, List.nil_append, List.cons_append, List.getElem?_toArray, List.getElem?_cons_zero, List.getElem?_cons_succ, List.setIfInBounds_toArray, List.set_cons_zero, List.set_cons_succ, Option.map_some, List.not_mem_nil, ←decide_not, eq_self]
        refine appU' N2.2.1 rfl (by simp; omega) fun v' w3 O3 F3 => ?_
        simp (disch := (first | omega | decide | (simp only [World.size_alloc, World.size_setCell, World.size_drew, size_sets, List.mem_cons, List.not_mem_nil, or_false, not_false_eq_true] <;> omega) | fail)) only [↓rsGrp4_3, rsGrp4_1, Option.isNone_some, Option.isNone_none, tick_eq, tickV_eq, ne_eq, Int.reduceAdd, Int.reduceSub, Int.reduceMul, Int.reduceEq, Int.reduceLT, Int.reduceLE, Int.reduceToNat, Nat.reduceMul, Nat.reduceAdd, Nat.reduceSub, List.nil_append, List.cons_append, List.getElem?_toArray, List.getElem?_cons_zero, List.getElem?_cons_succ, List.setIfInBounds_toArray, List.set_cons_zero, List.set_cons_succ, Option.map_some, List.not_mem_nil, ←decide_not, eq_self]
        rw [e2]
        refine hnx _ _ ⟨v', rfl, ?_⟩
        rw [hsu]
        exact N2.app O3 F3
  · rintro u v1 ⟨v, hu, N⟩ nxt
    simp only [List.map_cons, List.map_nil, List.cons.injEq, and_true] at hu
    rw [hu.1, hu.2]
    have hge : ¬ 8 * ((l.length + 7) / 8) < l.length := by omega
    unfold loamref17_words_l1
    simp (disch := (first | omega | decide | (simp only [World.size_alloc, World.size_setCell, World.size_drew, size_sets, List.mem_cons, List.not_mem_nil, or_false, not_false_eq_true] <;> omega) | fail)) only [↓rsGrp4_3, rsGrp4_1, Option.isNone_some, Option.isNone_none, tick_eq, tickV_eq, ne_eq, Int.reduceAdd, Int.reduceSub, Int.reduceMul, Int.reduceEq, Int.reduceLT, Int.reduceLE, Int.reduceToNat, Nat.reduceMul, Nat.reduceAdd, Nat.reduceSub, List.nil_append, List.cons_append, List.getElem?_toArray, List.getElem?_cons_zero, List.getElem?_cons_succ, List.setIfInBounds_toArray, List.set_cons_zero, List.set_cons_succ, Option.map_some, List.not_mem_nil, ←decide_not, eq_self]
    exact N
def ptW (pl : List Nat) (to : Int) : BitVec 64 := if to = 0 then BitVec.ofNat 64 0 else BitVec.ofNat 64 (pl.getD (to.toNat - 1) 0 + 1)
abbrev rsGrp4_4 := (And.intro @xBox_r (And.intro @loadK_some (And.intro @loadsK_s (And.intro @loadsK_n (And.intro @loadsR_s (And.intro @loadsR_n (And.intro @storesK_s (And.intro @storesK_n (And.intro @xPick_t (And.intro @xPick_f (And.intro @xGuard_tt (And.intro @xGuard_ff (And.intro @xGuard_tf (And.intro @xGuard_ft (And.intro @xGuard_u 
  (And.intro @xNil_r (And.intro @xIf_t (And.intro @xBin_add' (And.intro @xBin_sub' (And.intro @xBin_mul' (And.intro @xBin_quo' (And.intro @xBin_rem' (And.intro @xIf_f (And.intro @xIf_tt (And.intro @xEx0 (And.intro @xEx1 (And.intro @xEx2 (And.intro @xEx3 (And.intro @xBin_eqs (And.intro @xBin_nes (And.intro @xUn_not (And.intro @xu8_add (And.intro @xu8_sub 
  (And.intro @xu8_eql (And.intro @xu16_add (And.intro @xu16_sub (And.intro @xu16_eql (And.intro @xu32_add (And.intro @xu32_sub (And.intro @xu32_eql (And.intro @xu64_add (And.intro @xu64_sub (And.intro @xu64_eql (And.intro @xi64_eql (And.intro @xMakeFunc_r (And.intro @xSq_r (And.intro @xPur_s (And.intro @xRd_s (And.intro @xRe_s (And.intro @xDet_s 
  (And.intro @xDet_ld (And.intro @xDet_ld2 (And.intro @xDet_ld3 (And.intro @xDet_ld4 (And.intro @xGuard_tt (And.intro @ld_3 (And.intro @cv_3_69 @ia_66)))))))))))))))))))))))))))))))))))))))))))))))))))))))))
theorem point_spec {w : World} (pl : List Nat) (a : Option Addr) (c : Nat) (to : Int) (h : RowAt w a (nums pl)) (h0 : 0 ≤ to) (h1 : to ≤ pl.length) (hl : pl.length ≤ 1000000) (hb : ∀ p ∈ pl, p ≤ 1000000) : Gives Try.prog n_loamref17_point #[.slice a pl.length c, i64 to] w (u64 (ptW pl to)) := by
  refine loamref17_point_of ?_
  unfold loamref17_point
  by_cases hz : to = 0
  · subst hz
    simp (disch := (first | omega | decide | (simp only [World.size_alloc, World.size_setCell, World.size_drew, size_sets, List.mem_cons, List.not_mem_nil, or_false, not_false_eq_true] <;> omega) | fail)) only [↓rsGrp4_4, rsGrp4_1, Option.isNone_some, Option.isNone_none, tick_eq, tickV_eq, ne_eq, Int.reduceAdd, Int.reduceSub, Int.reduceMul, Int.reduceEq, Int.reduceLT, Int.reduceLE, Int.reduceToNat, Nat.reduceMul, Nat.reduceAdd, Nat.reduceSub, List.nil_append, List.cons_append, List.getElem?_toArray, List.getElem?_cons_zero, List.getElem?_cons_succ, List.setIfInBounds_toArray, List.set_cons_zero, List.set_cons_succ, Option.map_some, List.not_mem_nil, ←decide_not, eq_self]
    exact ⟨by rfl, Ext.refl _ _⟩
  · have hi : to.toNat - 1 < pl.length := by omega
    obtain ⟨b1, o1, rfl, z1, k1⟩ := h.at (i := to.toNat - 1) (by simpa using hi)
    simp only [List.getElem_map] at k1
    have t1 : (to - 1).toNat = to.toNat - 1 := by omega
    have hbd := hb _ (List.getElem_mem hi)
    have e1 : ptW pl to = BitVec.ofNat 64 (pl[to.toNat - 1] + 1) := by
      unfold ptW
      rw [if_neg hz, List.getD_eq_getElem?_getD, List.getElem?_eq_getElem hi]
      rfl
    have e2 : BitVec.ofInt 64 ((pl[to.toNat - 1] : Int) + 1) = BitVec.ofNat 64 (pl[to.toNat - 1] + 1) := by
      rw [show (pl[to.toNat - 1] : Int) + 1 = ((pl[to.toNat - 1] + 1 : Nat) : Int) by omega, BitVec.ofInt_natCast]
    rw [e1]
    simp (disch := (first | omega | decide | (simp only [World.size_alloc, World.size_setCell, World.size_drew, size_sets, List.mem_cons, List.not_mem_nil, or_false, not_false_eq_true] <;> omega) | fail)) only [↓rsGrp4_4, rsGrp4_1, Option.isNone_some, Option.isNone_none, tick_eq, tickV_eq, ne_eq, Int.reduceAdd, Int.reduceSub, Int.reduceMul, Int.reduceEq, Int.reduceLT, Int.reduceLE, Int.reduceToNat, Nat.reduceMul, Nat.reduceAdd, Nat.reduceSub, List.nil_append, List.cons_append, List.getElem?_toArray, List.getElem?_cons_zero, List.getElem?_cons_succ, List.setIfInBounds_toArray, List.set_cons_zero, List.set_cons_succ, Option.map_some, List.not_mem_nil, ←decide_not, t1, k1, e2]
    exact ⟨by trivial, Ext.refl _ _⟩
end Go.Proofs.Ytdpmidgeipibbaa
end
section
set_option linter.unusedVariables false
set_option linter.unusedSimpArgs false
set_option maxHeartbeats 4000000
namespace Go.Proofs.Ytdpmidgeipibbaa
open Go.Sh Go.RowKit

def plL (ns : List GN) (R : Nat) (j : Nat) : List Nat := (List.range j).map fun i => 2 + 5 * R + gW (ns.take i)
def hdrW (R at' : Nat) : BitVec 64 := BitVec.ofNat 64 (R + at' * 65536)
def padS (l : List (BitVec 8)) : List (BitVec 8) := l ++ List.replicate (32 - l.length) (BitVec.ofNat 8 0)
def rtW (pl : List Nat) (r : GR) : List (BitVec 64) := wordsV (padS r.s) ++ [ptW pl r.to]
def ndW (pl : List Nat) (x : GN) : List (BitVec 64) := packW x.p.length x.d.length false 0 :: (x.p.map (ptW pl) ++ wordsV x.d)
def encW (ns : List GN) (rs : List GR) : List (BitVec 64) := [BitVec.ofNat 64 1296125772, hdrW rs.length (2 + 5 * rs.length + gW ns)] ++ rs.flatMap (rtW (plL ns rs.length ns.length)) ++ ns.flatMap (ndW (plL ns rs.length ns.length))
theorem padS_len {l : List (BitVec 8)} (h : l.length ≤ 32) : (padS l).length = 32 := by unfold padS; simp; omega
theorem rtW_len {pl : List Nat} {r : GR} (h : r.s.length ≤ 32) : (rtW pl r).length = 5 := by
  unfold rtW
  rw [List.length_append, wordsV_len, padS_len h]
  rfl
theorem ndW_len {pl : List Nat} {x : GN} : (ndW pl x).length = gsz x := by
  unfold ndW gsz
  simp [wordsV_len]
  omega
theorem rts_len {pl : List Nat} {rs : List GR} (h : ∀ r ∈ rs, r.s.length ≤ 32) : (rs.flatMap (rtW pl)).length = 5 * rs.length := by
  induction rs with
  | nil => rfl
  | cons r rs ih =>
    rw [List.flatMap_cons, List.length_append, rtW_len (h r (by simp)), ih fun x hx => h x (by simp [hx]), List.length_cons]
    omega
theorem nds_len {pl : List Nat} {ns : List GN} : (ns.flatMap (ndW pl)).length = gW ns := by
  induction ns with
  | nil => rfl
  | cons x ns ih =>
    rw [List.flatMap_cons, List.length_append, ndW_len, ih]
    simp [gW]
theorem encW_len {ns : List GN} {rs : List GR} (h : ∀ r ∈ rs, r.s.length ≤ 32) : (encW ns rs).length = 2 + 5 * rs.length + gW ns := by
  unfold encW
  rw [List.length_append, List.length_append, rts_len h, nds_len]
  simp
theorem plL_len (ns : List GN) (R j : Nat) : (plL ns R j).length = j := by simp [plL]
theorem plL_le {ns : List GN} {R j : Nat} (hj : j ≤ ns.length) (hR : R ≤ 80) (hn : ns.length ≤ 60) (h : ∀ x ∈ ns, x.p.length ≤ 64 ∧ x.d.length ≤ 1024) : ∀ p ∈ plL ns R j, p ≤ 1000000 := by
  intro p hp
  obtain ⟨i, hi, rfl⟩ := List.mem_map.1 hp
  have := gW_le (ns.take i) fun x hx => h x (List.mem_of_mem_take hx)
  rw [List.length_take] at this
  omega
abbrev rsGrp5_0 := (And.intro @xBox_r (And.intro @loadK_some (And.intro @loadsK_s (And.intro @loadsK_n (And.intro @loadsR_s (And.intro @loadsR_n (And.intro @storesK_s (And.intro @storesK_n (And.intro @xPick_t (And.intro @xPick_f (And.intro @xGuard_tt (And.intro @xGuard_ff (And.intro @xGuard_tf (And.intro @xGuard_ft (And.intro @xGuard_u 
  (And.intro @xNil_r (And.intro @xIf_t (And.intro @xBin_add' (And.intro @xBin_sub' (And.intro @xBin_mul' (And.intro @xBin_quo' (And.intro @xBin_rem' (And.intro @xIf_f (And.intro @xIf_tt (And.intro @xEx0 (And.intro @xEx1 (And.intro @xEx2 (And.intro @xEx3 (And.intro @xBin_eqs (And.intro @xBin_nes (And.intro @xUn_not (And.intro @xu8_add (And.intro @xu8_sub 
  (And.intro @xu8_mul (And.intro @xu8_shl (And.intro @xu8_neq (And.intro @xu8_lss (And.intro @xu8_gtr (And.intro @xu16_add (And.intro @xu16_sub (And.intro @xu16_mul (And.intro @xu16_shl (And.intro @xu16_neq (And.intro @xu16_lss (And.intro @xu16_gtr (And.intro @xu32_add (And.intro @xu32_sub (And.intro @xu32_mul (And.intro @xu32_shl (And.intro @xu32_neq 
  (And.intro @xu32_lss (And.intro @xu32_gtr (And.intro @xu64_add (And.intro @xu64_sub (And.intro @xu64_mul (And.intro @xu64_shl (And.intro @xu64_neq (And.intro @xu64_lss (And.intro @xu64_gtr (And.intro @xi64_lss (And.intro @xi64_gtr (And.intro @xi64_neq (And.intro @xi64_shl (And.intro @xi64_neg (And.intro @xMakeFunc_r (And.intro @xSq_r (And.intro @xPur_s 
  (And.intro @xRd_s (And.intro @xRe_s (And.intro @xDet_s (And.intro @xDet_ld (And.intro @xDet_ld2 (And.intro @xDet_ld3 (And.intro @xDet_ld4 (And.intro @xGuard_tt (And.intro @ld_3 (And.intro @ld_9 (And.intro @ld_31 (And.intro @ld_32 (And.intro @ld_34 (And.intro @ld_66 (And.intro @ld_70 (And.intro @ld_76 (And.intro @fa_34_0 (And.intro @fa_34_1 (And.intro @fa_76_0 
  (And.intro @fa_76_1 (And.intro @fa_78_0 (And.intro @fa_78_1 (And.intro @al_76 (And.intro @st_76 (And.intro @bd_84_0_1 (And.intro @bd_84_2_3 (And.intro @bd_84 (And.intro @cv_3_69 (And.intro @ia_31 (And.intro @ia_32 (And.intro @ia_66 (And.intro @ln_31 (And.intro @ln_32 (And.intro @ln_66 (And.intro @ln_70 (And.intro @ln_9 (And.intro @bs_28_0 (And.intro @bs_28_1 (And.intro @bs_28_2 
  (And.intro @bs_28_3 (And.intro @bs_66_0 @bs_66_1))))))))))))))))))))))))))))))))))))))))))))))))))))))))))))))))))))))))))))))))))))))))))))))))))))))))))))
abbrev rsGrp5_1 := (And.intro @setCells_c (And.intro @setCells_n (And.intro @World.setCell_alloc_at (And.intro @World.setCell_alloc_past (And.intro @World.cell?_alloc_at (And.intro @World.cell?_alloc_past (And.intro @World.frozen?_alloc_at (And.intro @World.frozen?_alloc_past 
  (And.intro @World.size_alloc (And.intro @dlt_t (And.intro @dlt_f (And.intro @dle_t (And.intro @dle_f (And.intro @deq_t (And.intro @deq_f (And.intro @dne_t (And.intro @dne_f (And.intro @not_true_eq_false (And.intro @Bool.false_and (And.intro @Bool.true_and (And.intro @Bool.and_true (And.intro @Bool.and_false (And.intro @wrap_in (And.intro @Int.toNat_natCast 
  (And.intro @Nat.mul_one (And.intro @cells_int (And.intro @cells_bool (And.intro @cells_string (And.intro @cells_slice (And.intro @cells_pointer (And.intro @cells_agg (And.intro @one_int (And.intro @one_bool (And.intro @one_string (And.intro @one_slice (And.intro @one_pointer (And.intro @beq_tt (And.intro @beq_ff (And.intro @beq_tf 
  (And.intro @beq_ft (And.intro @cell_sets_b (And.intro @frozen_sets (And.intro @size_sets (And.intro @World.size_drew (And.intro @Nat.zero_add (And.intro @Nat.add_zero (And.intro @cell_drew (And.intro @frozen_drew (And.intro @cell_set_eq (And.intro @cell_set_o (And.intro @cell_set_b (And.intro @World.frozen?_setCell 
  (And.intro @decide_true (And.intro @decide_false (And.intro @not_false_eq_true (And.intro @Bool.not_true @Bool.not_false))))))))))))))))))))))))))))))))))))))))))))))))))))))))
theorem Encode_spec {w : World} {na ra : Option Addr} {nc rc : Nat} {ns : List GN} {rs : List GR} (h : GIs w na nc ra rc ns rs) (hf : FewG ns rs) :
    Yld Try.prog n_loamref17_Encode #[gV na nc ra rc ns rs] w fun u w' => (∃ e : Int, e ≠ 0 ∧ u = .tuple #[.slice none 0 0, i64 e] ∧ Ext [] w w') ∨ (GoodG ns rs ∧ 2 + 5 * rs.length + gW ns ≤ 8192 ∧ ∃ a c, u = .tuple #[.slice a (encW ns rs).length c, i64 0] ∧ (encW ns rs).length ≤ c ∧ (a = none → c = 0) ∧ RowAt w' a (wrds (encW ns rs)) ∧ Ext [] w w') := by
  have hfn := hf.n
  have hfr := hf.r
  refine loamref17_Encode_of ?_
  unfold loamref17_Encode
  simp (disch := (first | omega | decide | (simp only [World.size_alloc, World.size_setCell, World.size_drew, size_sets, List.mem_cons, List.not_mem_nil, or_false, not_false_eq_true] <;> omega) | fail)) only [↓rsGrp5_0, rsGrp5_1, Option.isNone_some, Option.isNone_none, tick_eq, tickV_eq, ne_eq, Int.reduceAdd, Int.reduceSub, Int.reduceMul, Int.reduceEq, Int.reduceLT, Int.reduceLE, Int.reduceToNat, Nat.reduceMul, Nat.reduceAdd, Nat.reduceSub, List.nil_append, List.cons_append, List.getElem?_toArray, List.getElem?_cons_zero, List.getElem?_cons_succ, List.setIfInBounds_toArray, List.set_cons_zero, List.set_cons_succ, Option.map_some, List.not_mem_nil, ←decide_not, eq_self]
  have B : Blk (w.alloc (.cells #[.slice na ns.length nc, .slice ra rs.length rc] 34)) w.heap.size 34 [.slice na ns.length nc, .slice ra rs.length rc] := Blk.at rfl
  have X : Ext [] w (w.alloc (.cells #[.slice na ns.length nc, .slice ra rs.length rc] 34)) := Ext.alloc _ _ _
  have hy := h.ext0 X
  generalize w.heap.size = hb at *
  generalize w.alloc (.cells #[.slice na ns.length nc, .slice ra rs.length rc] 34) = y at *
  refine loamref17_Check_call (Yld.mono (GCheck_spec hy hf) ?_)
  rintro u w1 ⟨⟨e, rfl, he⟩, F1⟩
  by_cases hz : e = 0
  rotate_left
  · simp (disch := (first | omega | decide | (simp only [World.size_alloc, World.size_setCell, World.size_drew, size_sets, List.mem_cons, List.not_mem_nil, or_false, not_false_eq_true] <;> omega) | fail)) only [↓rsGrp5_0, rsGrp5_1, Option.isNone_some, Option.isNone_none, tick_eq, tickV_eq, ne_eq, Int.reduceAdd, Int.reduceSub, Int.reduceMul, Int.reduceEq, Int.reduceLT, Int.reduceLE, Int.reduceToNat, Nat.reduceMul, Nat.reduceAdd, Nat.reduceSub, List.nil_append, List.cons_append, List.getElem?_toArray, List.getElem?_cons_zero, List.getElem?_cons_succ, List.setIfInBounds_toArray, List.set_cons_zero, List.set_cons_succ, Option.map_some, List.not_mem_nil, ←decide_not, eq_self]
    exact .inl ⟨e, hz, by trivial, X.trans F1⟩
  have hg := he hz
  subst hz
  have k1 := fun i => (B.ext F1 (by simp)).cell (i := i)
  have hgr := hg.r
  have hgx := fun x hx => (hg.x x hx).2
  have hgs := fun r hr => (hg.s r hr).1.2.1
  have hle := gW_le ns hgx
  simp (disch := (first | omega | decide | (simp only [World.size_alloc, World.size_setCell, World.size_drew, size_sets, List.mem_cons, List.not_mem_nil, or_false, not_false_eq_true] <;> omega) | fail)) only [↓rsGrp5_0, rsGrp5_1, Option.isNone_some, Option.isNone_none, tick_eq, tickV_eq, ne_eq, Int.reduceAdd, Int.reduceSub, Int.reduceMul, Int.reduceEq, Int.reduceLT, Int.reduceLE, Int.reduceToNat, Nat.reduceMul, Nat.reduceAdd, Nat.reduceSub, List.nil_append, List.cons_append, List.getElem?_toArray, List.getElem?_cons_zero, List.getElem?_cons_succ, List.setIfInBounds_toArray, List.set_cons_zero, List.set_cons_succ, Option.map_some, List.not_mem_nil, ←decide_not, k1]
  refine loamref17_Need_call (Gives.to (GNeed_spec (hy.ext0 F1) hf hg) fun w2 F2 => ?_)
  by_cases h8 : 8192 < 2 + 5 * rs.length + gW ns
  · simp (disch := (first | omega | decide | (simp only [World.size_alloc, World.size_setCell, World.size_drew, size_sets, List.mem_cons, List.not_mem_nil, or_false, not_false_eq_true] <;> omega) | fail)) only [↓rsGrp5_0, rsGrp5_1, Option.isNone_some, Option.isNone_none, tick_eq, tickV_eq, ne_eq, Int.reduceAdd, Int.reduceSub, Int.reduceMul, Int.reduceEq, Int.reduceLT, Int.reduceLE, Int.reduceToNat, Nat.reduceMul, Nat.reduceAdd, Nat.reduceSub, List.nil_append, List.cons_append, List.getElem?_toArray, List.getElem?_cons_zero, List.getElem?_cons_succ, List.setIfInBounds_toArray, List.set_cons_zero, List.set_cons_succ, Option.map_some, List.not_mem_nil, ←decide_not, k1]
    exact .inl ⟨3, by decide, by trivial, X.trans (F1.trans F2)⟩
  have F12 := F1.trans F2
  have k2 := fun i => (B.ext F12 (by simp)).cell (i := i)
  have e0 : 2 + 5 * (rs.length : Int) = ((2 + 5 * rs.length + gW (ns.take 0) : Nat) : Int) := by simp [gW]
  simp (disch := (first | omega | decide | (simp only [World.size_alloc, World.size_setCell, World.size_drew, size_sets, List.mem_cons, List.not_mem_nil, or_false, not_false_eq_true] <;> omega) | fail)) only [↓rsGrp5_0, rsGrp5_1, Option.isNone_some, Option.isNone_none, tick_eq, tickV_eq, ne_eq, Int.reduceAdd, Int.reduceSub, Int.reduceMul, Int.reduceEq, Int.reduceLT, Int.reduceLE, Int.reduceToNat, Nat.reduceMul, Nat.reduceAdd, Nat.reduceSub, List.nil_append, List.cons_append, List.getElem?_toArray, List.getElem?_cons_zero, List.getElem?_cons_succ, List.setIfInBounds_toArray, List.set_cons_zero, List.set_cons_succ, Option.map_some, List.not_mem_nil, ←decide_not, k1, k2]
  rw [e0]
  refine xLoop_r ns.length (fun j vs w' => ∃ v, vs = [i64 ((2 + 5 * rs.length + gW (ns.take j) : Nat) : Int), v, i64 (j : Int)] ∧ NewI w2 w' v (plL ns rs.length j)) ⟨_, rfl, NewR.nil (Ext.refl _ _)⟩ ?_ ?_
  · rintro j hj u w3 ⟨v, hu, N⟩ nxt hnx
    simp only [List.map_cons, List.map_nil, List.cons.injEq, and_true] at hu
    rw [hu.1, hu.2.1, hu.2.2]
    have k3 := fun i => (B.ext (F12.trans N.1) (by simp)).cell (i := i)
    have hle2 := gW_le (ns.take j) fun x hx => hgx x (List.mem_of_mem_take hx)
    rw [List.length_take] at hle2
    have hsu := gW_take hj
    have hgj := hgx _ (List.getElem_mem hj)
    have hgs2 : gsz ns[j] ≤ 193 := by unfold gsz; omega
    have e1 : ((2 + 5 * rs.length + gW (ns.take j) : Nat) : Int) + (gsz ns[j] : Int) = ((2 + 5 * rs.length + gW (ns.take (j + 1)) : Nat) : Int) := by omega
    have hpl : plL ns rs.length (j + 1) = plL ns rs.length j ++ [2 + 5 * rs.length + gW (ns.take j)] := by unfold plL; rw [List.range_succ, List.map_append]; rfl
    unfold loamref17_Encode_l1
    simp (disch := (first | omega | decide | (simp only [World.size_alloc, World.size_setCell, World.size_drew, size_sets, List.mem_cons, List.not_mem_nil, or_false, not_false_eq_true] <;> omega) | fail)) only [↓rsGrp5_0, rsGrp5_1, Option.isNone_some, Option.isNone_none, tick_eq, tickV_eq, ne_eq, Int.reduceAdd, Int.reduceSub, Int.reduceMul, Int.reduceEq, Int.reduceLT, Int.reduceLE, Int.reduceToNat, Nat.reduceMul, Nat.reduceAdd, Nat.reduceSub, List.nil_append, List.cons_append, List.getElem?_toArray, List.getElem?_cons_zero, List.getElem?_cons_succ, List.setIfInBounds_toArray, List.set_cons_zero, List.set_cons_succ, Option.map_some, List.not_mem_nil, ←decide_not, k1, k2, k3]
    refine appIl N.2.1 rfl (by rw [plL_len]; omega) fun v' w4 O4 T4 => ?_
    have N4 := N.app O4 T4
    have k4 := fun i => (B.ext (F12.trans N4.1) (by simp)).cell (i := i)
    obtain ⟨b1, o1, ha1, z1, c1, c2⟩ := gn_at (hy.ext0 (F12.trans N4.1)).nr hj
    simp (disch := (first | omega | decide | (simp only [World.size_alloc, World.size_setCell, World.size_drew, size_sets, List.mem_cons, List.not_mem_nil, or_false, not_false_eq_true] <;> omega) | fail)) only [↓rsGrp5_0, rsGrp5_1, Option.isNone_some, Option.isNone_none, tick_eq, tickV_eq, ne_eq, Int.reduceAdd, Int.reduceSub, Int.reduceMul, Int.reduceEq, Int.reduceLT, Int.reduceLE, Int.reduceToNat, Nat.reduceMul, Nat.reduceAdd, Nat.reduceSub, List.nil_append, List.cons_append, List.getElem?_toArray, List.getElem?_cons_zero, List.getElem?_cons_succ, List.setIfInBounds_toArray, List.set_cons_zero, List.set_cons_succ, Option.map_some, List.not_mem_nil, ←decide_not, k1, k2, k3, k4, ha1, c1, c2]
    refine loamref17_size_call (Gives.to (gsize_spec ns[j] hgj.1 hgj.2) fun w5 F5 => ?_)
    simp (disch := (first | omega | decide | (simp only [World.size_alloc, World.size_setCell, World.size_drew, size_sets, List.mem_cons, List.not_mem_nil, or_false, not_false_eq_true] <;> omega) | fail)) only [↓rsGrp5_0, rsGrp5_1, Option.isNone_some, Option.isNone_none, tick_eq, tickV_eq, ne_eq, Int.reduceAdd, Int.reduceSub, Int.reduceMul, Int.reduceEq, Int.reduceLT, Int.reduceLE, Int.reduceToNat, Nat.reduceMul, Nat.reduceAdd, Nat.reduceSub, List.nil_append, List.cons_append, List.getElem?_toArray, List.getElem?_cons_zero, List.getElem?_cons_succ, List.setIfInBounds_toArray, List.set_cons_zero, List.set_cons_succ, Option.map_some, List.not_mem_nil, ←decide_not, k1, k2, k3, k4, ha1, c1, c2]
    rw [e1]
    refine hnx _ _ ⟨v', rfl, ?_⟩
    rw [hpl]
    exact N4.ext F5
  rintro u w3 ⟨v, hu, N⟩ nxt
  simp only [List.map_cons, List.map_nil, List.cons.injEq, and_true] at hu
  rw [hu.1, hu.2.1, hu.2.2]
  rw [List.take_length]
  have F3 := F12.trans N.1
  have k3 := fun i => (B.ext F3 (by simp)).cell (i := i)
  obtain ⟨ap, cp, rfl, hcp, _, hnp, hrp, _⟩ := N.2.1.slice
  have hpll := plL_len ns rs.length ns.length
  have hple := plL_le (ns := ns) (R := rs.length) (j := ns.length) (Nat.le_refl _) hfr hfn hgx
  have hen : encW ns rs = [BitVec.ofNat 64 1296125772, hdrW rs.length (2 + 5 * rs.length + gW ns)] ++ rs.flatMap (rtW (plL ns rs.length ns.length)) ++ ns.flatMap (ndW (plL ns rs.length ns.length)) := rfl
  have henl := encW_len (ns := ns) (rs := rs) hgs
  have hrl := rts_len (pl := plL ns rs.length ns.length) hgs
  generalize plL ns rs.length ns.length = pl at *
  generalize hat : 2 + 5 * rs.length + gW ns = at' at *
  have hh1 : BitVec.ofInt 64 (rs.length : Int) + (BitVec.ofInt 64 (at' : Int) <<< (BitVec.ofNat 64 16).toNat) = hdrW rs.length at' := by
    unfold hdrW
    rw [BitVec.ofInt_natCast, BitVec.ofInt_natCast, show (BitVec.ofNat 64 16).toNat = 16 by decide]
    apply BitVec.eq_of_toNat_eq
    rw [BitVec.toNat_add, BitVec.toNat_shiftLeft, BitVec.toNat_ofNat, BitVec.toNat_ofNat, BitVec.toNat_ofNat, Nat.shiftLeft_eq]
    omega
  unfold loamref17_Encode_l1
  simp (disch := (first | omega | decide | (simp only [World.size_alloc, World.size_setCell, World.size_drew, size_sets, List.mem_cons, List.not_mem_nil, or_false, not_false_eq_true] <;> omega) | fail)) only [↓rsGrp5_0, rsGrp5_1, Option.isNone_some, Option.isNone_none, tick_eq, tickV_eq, ne_eq, Int.reduceAdd, Int.reduceSub, Int.reduceMul, Int.reduceEq, Int.reduceLT, Int.reduceLE, Int.reduceToNat, Nat.reduceMul, Nat.reduceAdd, Nat.reduceSub, List.nil_append, List.cons_append, List.getElem?_toArray, List.getElem?_cons_zero, List.getElem?_cons_succ, List.setIfInBounds_toArray, List.set_cons_zero, List.set_cons_succ, Option.map_some, List.not_mem_nil, ←decide_not, k1, k2, k3, hh1]
  have NI : NewU w3 (w3.alloc (.cells #[u64 (BitVec.ofNat 64 1296125772), u64 (hdrW rs.length at')] 69)) (.slice (some ⟨w3.heap.size, 0, none⟩) 2 2) [BitVec.ofNat 64 1296125772, hdrW rs.length at'] :=
    ⟨Ext.alloc _ _ _, Own.lit (cs := [u64 (BitVec.ofNat 64 1296125772), u64 (hdrW rs.length at')]) (m := 2) (by decide) (by rfl), fun z hz => by simp [blk, Value.ownBlock] at hz; omega⟩
  have hHl : [BitVec.ofNat 64 1296125772, hdrW rs.length at'].length = 2 := rfl
  generalize w3.alloc (.cells #[u64 (BitVec.ofNat 64 1296125772), u64 (hdrW rs.length at')] 69) = w4 at *
  generalize [BitVec.ofNat 64 1296125772, hdrW rs.length at'] = H at *
  refine xLoop_r rs.length (fun j vs w' => ∃ v, vs = [v, i64 (j : Int)] ∧ NewU w3 w' v (H ++ (rs.take j).flatMap (rtW pl))) ⟨_, rfl, by simpa using NI⟩ ?_ ?_
  · rintro j hj u v1 ⟨v, hu, N4⟩ nxt hnx
    simp only [List.map_cons, List.map_nil, List.cons.injEq, and_true] at hu
    rw [hu.1, hu.2]
    have F4 := F3.trans N4.1
    have k4 := fun i => (B.ext F4 (by simp)).cell (i := i)
    have k4d := fun i => (B.ext (F4.trans (Ext.drew [] v1)) (by simp)).cell (i := i)
    obtain ⟨b1, o1, ha1, z1, c1, c2⟩ := gr_at (hy.ext0 (F4.trans (Ext.drew [] v1))).rr hj
    have hm := List.getElem_mem hj
    obtain ⟨⟨g1, g2, g3⟩, g4, g5⟩ := hg.s _ hm
    have hsz := strOf_size (l := rs[j].s)
    have hlo : (H ++ (rs.take j).flatMap (rtW pl)).length ≤ 400 := by
      rw [List.length_append, hHl, rts_len (pl := pl) (fun r hr => hgs r (List.mem_of_mem_take hr)), List.length_take]
      omega
    have hsu : H ++ (rs.take (j + 1)).flatMap (rtW pl) = (H ++ (rs.take j).flatMap (rtW pl) ++ wordsV (padS rs[j].s)) ++ [ptW pl rs[j].to] := by
      rw [List.take_add_one, List.getElem?_eq_getElem hj, List.flatMap_append]
      simp [rtW, List.append_assoc]
    generalize H ++ (rs.take j).flatMap (rtW pl) = O0 at *
    generalize hrj : rs[j] = rj at *
    unfold loamref17_Encode_l2
    simp (disch := (first | omega | decide | (simp only [World.size_alloc, World.size_setCell, World.size_drew, size_sets, List.mem_cons, List.not_mem_nil, or_false, not_false_eq_true] <;> omega) | fail)) only [↓rsGrp5_0, rsGrp5_1, Option.isNone_some, Option.isNone_none, tick_eq, tickV_eq, ne_eq, Int.reduceAdd, Int.reduceSub, Int.reduceMul, Int.reduceEq, Int.reduceLT, Int.reduceLE, Int.reduceToNat, Nat.reduceMul, Nat.reduceAdd, Nat.reduceSub, List.nil_append, List.cons_append, List.getElem?_toArray, List.getElem?_cons_zero, List.getElem?_cons_succ, List.setIfInBounds_toArray, List.set_cons_zero, List.set_cons_succ, Option.map_some, List.not_mem_nil, ←decide_not, k1, k2, k3, hh1, k4, k4d, ha1, c1]
    refine xConv_sb (e := 5) (by kernel_rfl) (by kernel_rfl) (by kernel_rfl) fun w5 cap F5d z5 hcap hcell hfrz hx => ?_
    have F5 := (Ext.drew [] v1).trans F5d
    have k5 := fun i => (B.ext (F4.trans F5) (by simp)).cell (i := i)
    obtain ⟨b5, o5, ha5, z5', c5, c6⟩ := gr_at (hy.ext0 (F4.trans F5)).rr hj
    rw [ha1] at ha5
    cases ha5
    rw [hrj] at c5 c6
    have e9 : 32 - ((strOf rj.s).size : Int) = ((32 - rj.s.length : Nat) : Int) := by omega
    have e7 : rj.s.length + (32 - rj.s.length) = (padS rj.s).length := by unfold padS; simp
    have hg32 := padS_len g2
    simp (disch := (first | omega | decide | (simp only [World.size_alloc, World.size_setCell, World.size_drew, size_sets, List.mem_cons, List.not_mem_nil, or_false, not_false_eq_true] <;> omega) | fail)) only [↓rsGrp5_0, rsGrp5_1, Option.isNone_some, Option.isNone_none, tick_eq, tickV_eq, ne_eq, Int.reduceAdd, Int.reduceSub, Int.reduceMul, Int.reduceEq, Int.reduceLT, Int.reduceLE, Int.reduceToNat, Nat.reduceMul, Nat.reduceAdd, Nat.reduceSub, List.nil_append, List.cons_append, List.getElem?_toArray, List.getElem?_cons_zero, List.getElem?_cons_succ, List.setIfInBounds_toArray, List.set_cons_zero, List.set_cons_succ, Option.map_some, List.not_mem_nil, ←decide_not, k1, k2, k3, hh1, k4, k4d, ha1, c1, k5, c5, e9]
    refine xAppZ (e := 5) (bytes := 1) (z := .int .u8 0) (zc := .int .u8 0) (xs := bys rj.s) (by kernel_rfl) (by kernel_rfl) (by kernel_rfl) (by rfl) (by rfl) (by decide) (by simp) hcap hcell hfrz hx (by omega) (by omega) fun a6 c6' w6 R6 hc6 hn6 F6 U6 => ?_
    have X6 : Ext [] v1 w6 := F5.new F6 (fun z hz => by simp only [List.mem_singleton, World.size_drew] at hz; omega)
    rw [e7] at hc6 ⊢
    have R6' : RowAt w6 a6 (bys (padS rj.s)) := by
      have : bys rj.s ++ List.replicate (32 - rj.s.length) (Value.int .u8 0) = bys (padS rj.s) := by unfold padS; simp [bys]
      rw [← this]
      exact R6
    simp (disch := (first | omega | decide | (simp only [World.size_alloc, World.size_setCell, World.size_drew, size_sets, List.mem_cons, List.not_mem_nil, or_false, not_false_eq_true] <;> omega) | fail)) only [↓rsGrp5_0, rsGrp5_1, Option.isNone_some, Option.isNone_none, tick_eq, tickV_eq, ne_eq, Int.reduceAdd, Int.reduceSub, Int.reduceMul, Int.reduceEq, Int.reduceLT, Int.reduceLE, Int.reduceToNat, Nat.reduceMul, Nat.reduceAdd, Nat.reduceSub, List.nil_append, List.cons_append, List.getElem?_toArray, List.getElem?_cons_zero, List.getElem?_cons_succ, List.setIfInBounds_toArray, List.set_cons_zero, List.set_cons_succ, Option.map_some, List.not_mem_nil, ←decide_not, k1, k2, k3, hh1, k4, k4d, ha1, c1, k5, c5, e9]
    refine loamref17_words_call (Yld.mono (rwords_spec (padS rj.s) a6 c6' R6' (by omega)) ?_)
    rintro u w7 N7
    obtain ⟨a7, c7, rfl, hc7, _, hn7, hr7, _⟩ := N7.2.1.slice
    have hwl : (wordsV (padS rj.s)).length = 4 := by rw [wordsV_len, hg32]
    have M7 := (N4.ext X6).ext N7.1
    refine appUs M7.2.1 hr7 hn7 hc7 (by omega) fun v8 w8 O8 T8 => ?_
    have N8 := M7.app O8 T8
    have F8 := F3.trans N8.1
    have k8 := fun i => (B.ext F8 (by simp)).cell (i := i)
    obtain ⟨b8, o8, ha8, z8, c8, c9⟩ := gr_at (hy.ext0 F8).rr hj
    rw [ha1] at ha8
    cases ha8
    rw [hrj] at c8 c9
    simp (disch := (first | omega | decide | (simp only [World.size_alloc, World.size_setCell, World.size_drew, size_sets, List.mem_cons, List.not_mem_nil, or_false, not_false_eq_true] <;> omega) | fail)) only [↓rsGrp5_0, rsGrp5_1, Option.isNone_some, Option.isNone_none, tick_eq, tickV_eq, ne_eq, Int.reduceAdd, Int.reduceSub, Int.reduceMul, Int.reduceEq, Int.reduceLT, Int.reduceLE, Int.reduceToNat, Nat.reduceMul, Nat.reduceAdd, Nat.reduceSub, List.nil_append, List.cons_append, List.getElem?_toArray, List.getElem?_cons_zero, List.getElem?_cons_succ, List.setIfInBounds_toArray, List.set_cons_zero, List.set_cons_succ, Option.map_some, List.not_mem_nil, ←decide_not, k1, k2, k3, hh1, k4, k4d, ha1, c1, k5, c5, e9, k8, c9]
    refine loamref17_point_call (Gives.to (point_spec pl ap cp rj.to (hrp.ext0 N8.1) g4 (by rw [hpll]; exact g5) (by omega) hple) fun w9 F9 => ?_)
    have N9 := N8.ext F9
    simp (disch := (first | omega | decide | (simp only [World.size_alloc, World.size_setCell, World.size_drew, size_sets, List.mem_cons, List.not_mem_nil, or_false, not_false_eq_true] <;> omega) | fail)) only [↓rsGrp5_0, rsGrp5_1, Option.isNone_some, Option.isNone_none, tick_eq, tickV_eq, ne_eq, Int.reduceAdd, Int.reduceSub, Int.reduceMul, Int.reduceEq, Int.reduceLT, Int.reduceLE, Int.reduceToNat, Nat.reduceMul, Nat.reduceAdd, Nat.reduceSub, List.nil_append, List.cons_append, List.getElem?_toArray, List.getElem?_cons_zero, List.getElem?_cons_succ, List.setIfInBounds_toArray, List.set_cons_zero, List.set_cons_succ, Option.map_some, List.not_mem_nil, ←decide_not, k1, k2, k3, hh1, k4, k4d, ha1, c1, k5, c5, e9, k8, c9]
    refine appU' N9.2.1 rfl (by rw [List.length_append]; omega) fun v10 w10 O10 T10 => ?_
    simp (disch := (first | omega | decide | (simp only [World.size_alloc, World.size_setCell, World.size_drew, size_sets, List.mem_cons, List.not_mem_nil, or_false, not_false_eq_true] <;> omega) | fail)) only [↓rsGrp5_0, rsGrp5_1, Option.isNone_some, Option.isNone_none, tick_eq, tickV_eq, ne_eq, Int.reduceAdd, Int.reduceSub, Int.reduceMul, Int.reduceEq, Int.reduceLT, Int.reduceLE, Int.reduceToNat, Nat.reduceMul, Nat.reduceAdd, Nat.reduceSub, List.nil_append, List.cons_append, List.getElem?_toArray, List.getElem?_cons_zero, List.getElem?_cons_succ, List.setIfInBounds_toArray, List.set_cons_zero, List.set_cons_succ, Option.map_some, List.not_mem_nil, ←decide_not, k1, k2, k3, hh1, k4, k4d, ha1, c1, k5, c5, e9, k8, c9]
    refine hnx _ _ ⟨v10, rfl, ?_⟩
    rw [hsu]
    exact N9.app O10 T10
  rintro u v1 ⟨v, hu, N4⟩ nxt
  simp only [List.map_cons, List.map_nil, List.cons.injEq, and_true] at hu
  rw [hu.1, hu.2]
  rw [List.take_length] at N4
  have hlH : (H ++ rs.flatMap (rtW pl)).length ≤ 400 := by rw [List.length_append, hHl, hrl]; omega
  generalize H ++ rs.flatMap (rtW pl) = H2 at *
  have k4 := fun i => (B.ext (F3.trans N4.1) (by simp)).cell (i := i)
  unfold loamref17_Encode_l2
  simp (disch := (first | omega | decide | (simp only [World.size_alloc, World.size_setCell, World.size_drew, size_sets, List.mem_cons, List.not_mem_nil, or_false, not_false_eq_true] <;> omega) | fail)) only [↓rsGrp5_0, rsGrp5_1, Option.isNone_some, Option.isNone_none, tick_eq, tickV_eq, ne_eq, Int.reduceAdd, Int.reduceSub, Int.reduceMul, Int.reduceEq, Int.reduceLT, Int.reduceLE, Int.reduceToNat, Nat.reduceMul, Nat.reduceAdd, Nat.reduceSub, List.nil_append, List.cons_append, List.getElem?_toArray, List.getElem?_cons_zero, List.getElem?_cons_succ, List.setIfInBounds_toArray, List.set_cons_zero, List.set_cons_succ, Option.map_some, List.not_mem_nil, ←decide_not, k1, k2, k3, hh1, k4]
  refine xLoop_r ns.length (fun j vs w' => ∃ v, vs = [v, i64 (j : Int)] ∧ NewU w3 w' v (H2 ++ (ns.take j).flatMap (ndW pl))) ⟨_, rfl, by simpa using N4⟩ ?_ ?_
  rotate_left
  · rintro u v2 ⟨v, hu, N5⟩ nxt
    simp only [List.map_cons, List.map_nil, List.cons.injEq, and_true] at hu
    rw [hu.1, hu.2]
    rw [List.take_length] at N5
    have F5 := F3.trans N5.1
    have k5 := fun i => (B.ext F5 (by simp)).cell (i := i)
    obtain ⟨a6, c6, rfl, hc6, _, hn6, hr6, _⟩ := N5.2.1.slice
    unfold loamref17_Encode_l3
    simp (disch := (first | omega | decide | (simp only [World.size_alloc, World.size_setCell, World.size_drew, size_sets, List.mem_cons, List.not_mem_nil, or_false, not_false_eq_true] <;> omega) | fail)) only [↓rsGrp5_0, rsGrp5_1, Option.isNone_some, Option.isNone_none, tick_eq, tickV_eq, ne_eq, Int.reduceAdd, Int.reduceSub, Int.reduceMul, Int.reduceEq, Int.reduceLT, Int.reduceLE, Int.reduceToNat, Nat.reduceMul, Nat.reduceAdd, Nat.reduceSub, List.nil_append, List.cons_append, List.getElem?_toArray, List.getElem?_cons_zero, List.getElem?_cons_succ, List.setIfInBounds_toArray, List.set_cons_zero, List.set_cons_succ, Option.map_some, List.not_mem_nil, ←decide_not, k1, k2, k3, hh1, k4, k5]
    rw [← hen] at hr6 hc6 ⊢
    exact .inr ⟨hg, by omega, a6, c6, by trivial, hc6, hn6, hr6, X.trans F5⟩
  rintro j hj u v2 ⟨v, hu, N5⟩ nxt hnx
  simp only [List.map_cons, List.map_nil, List.cons.injEq, and_true] at hu
  rw [hu.1, hu.2]
  have F5 := F3.trans N5.1
  have k5 := fun i => (B.ext F5 (by simp)).cell (i := i)
  obtain ⟨b1, o1, ha1, z1, c1, c2⟩ := gn_at (hy.ext0 F5).nr hj
  have hm := List.getElem_mem hj
  have hok := (hy.ext0 F5).ok _ hm
  have hgj := hg.x _ hm
  have hlo : (H2 ++ (ns.take j).flatMap (ndW pl)).length ≤ 20000 := by
    have := gW_le (ns.take j) fun x hx => hgx x (List.mem_of_mem_take hx)
    rw [List.length_take] at this
    rw [List.length_append, nds_len]
    omega
  have hsu : H2 ++ (ns.take (j + 1)).flatMap (ndW pl) = (H2 ++ (ns.take j).flatMap (ndW pl)) ++ [packW ns[j].p.length ns[j].d.length false 0] ++ ns[j].p.map (ptW pl) ++ wordsV ns[j].d := by
    rw [List.take_add_one, List.getElem?_eq_getElem hj, List.flatMap_append]
    simp [ndW, List.append_assoc]
  unfold loamref17_Encode_l3
  generalize H2 ++ (ns.take j).flatMap (ndW pl) = O0 at *
  generalize ns[j] = x at *
  simp (disch := (first | omega | decide | (simp only [World.size_alloc, World.size_setCell, World.size_drew, size_sets, List.mem_cons, List.not_mem_nil, or_false, not_false_eq_true] <;> omega) | fail)) only [↓rsGrp5_0, rsGrp5_1, Option.isNone_some, Option.isNone_none, tick_eq, tickV_eq, ne_eq, Int.reduceAdd, Int.reduceSub, Int.reduceMul, Int.reduceEq, Int.reduceLT, Int.reduceLE, Int.reduceToNat, Nat.reduceMul, Nat.reduceAdd, Nat.reduceSub, List.nil_append, List.cons_append, List.getElem?_toArray, List.getElem?_cons_zero, List.getElem?_cons_succ, List.setIfInBounds_toArray, List.set_cons_zero, List.set_cons_succ, Option.map_some, List.not_mem_nil, ←decide_not, k1, k2, k3, hh1, k4, k5, ha1, c1, c2]
  have C : Blk (v2.alloc (.cells #[.slice x.pa x.p.length x.pc, .slice x.da x.d.length x.dc] 76)) v2.heap.size 76 [.slice x.pa x.p.length x.pc, .slice x.da x.d.length x.dc] := Blk.at rfl
  have X1 : Ext [] v2 (v2.alloc (.cells #[.slice x.pa x.p.length x.pc, .slice x.da x.d.length x.dc] 76)) := Ext.alloc _ _ _
  have N6 := N5.ext X1
  have zv5 := N5.2.1.lt
  have hcv : v2.heap.size ∉ blk v := fun hm => by have := zv5 _ hm; omega
  generalize v2.heap.size = hc at *
  generalize v2.alloc (.cells #[.slice x.pa x.p.length x.pc, .slice x.da x.d.length x.dc] 76) = y1 at *
  have hr1 := (right_f (p := (x.p.length : Int)) (b := (x.d.length : Int)) (t := 0)).2 (by omega)
  refine loamref14_Pack_call (Gives.to (rPack_spec _ _ _ _ _) fun w6 F6 => ?_)
  have N7 := N6.ext F6
  have C6 := C.ext F6 (by simp)
  simp (disch := (first | omega | decide | (simp only [World.size_alloc, World.size_setCell, World.size_drew, size_sets, List.mem_cons, List.not_mem_nil, or_false, not_false_eq_true] <;> omega) | fail)) only [↓rsGrp5_0, rsGrp5_1, Option.isNone_some, Option.isNone_none, tick_eq, tickV_eq, ne_eq, Int.reduceAdd, Int.reduceSub, Int.reduceMul, Int.reduceEq, Int.reduceLT, Int.reduceLE, Int.reduceToNat, Nat.reduceMul, Nat.reduceAdd, Nat.reduceSub, List.nil_append, List.cons_append, List.getElem?_toArray, List.getElem?_cons_zero, List.getElem?_cons_succ, List.setIfInBounds_toArray, List.set_cons_zero, List.set_cons_succ, Option.map_some, List.not_mem_nil, ←decide_not, k1, k2, k3, hh1, k4, k5, ha1, c1, c2]
  refine appU' N7.2.1 rfl (by omega) fun v7 w7 O7 T7 => ?_
  have N8 := N7.app O7 T7
  have C7 := C6.ext T7.ext hcv
  have zc6 := C6.lt
  have hcv7 : hc ∉ blk v7 := fun hm => by
    rcases T7.at' _ hm with h1 | h1
    · exact hcv h1
    · omega
  refine xLoop_r x.p.length (fun k vs w' => ∃ v, vs = [v, i64 (k : Int)] ∧ NewU w3 w' v (O0 ++ [packW x.p.length x.d.length false 0] ++ (x.p.take k).map (ptW pl)) ∧ Blk w' hc 76 [.slice x.pa x.p.length x.pc, .slice x.da x.d.length x.dc] ∧ hc ∉ blk v) ⟨v7, rfl, by rw [List.take_zero, List.map_nil, List.append_nil]; exact N8, C7, hcv7⟩ ?_ ?_
  · rintro k hk u v8 ⟨v9, hu, N9, C9, hcv9⟩ nxt2 hnx2
    simp only [List.map_cons, List.map_nil, List.cons.injEq, and_true] at hu
    rw [hu.1, hu.2]
    have k9 := fun i => C9.cell (i := i)
    have hok9 := (hy.ext0 (F3.trans N9.1)).ok x hm
    obtain ⟨b3, o3, ha3, z3, c3⟩ := its_at hok9.pr hk
    have hpk := hgj.1 _ (List.getElem_mem hk)
    have hsk : O0 ++ [packW x.p.length x.d.length false 0] ++ (x.p.take (k + 1)).map (ptW pl) = (O0 ++ [packW x.p.length x.d.length false 0] ++ (x.p.take k).map (ptW pl)) ++ [ptW pl x.p[k]] := by
      rw [List.take_add_one, List.getElem?_eq_getElem hk, List.map_append]
      simp
    have hl9 : (O0 ++ [packW x.p.length x.d.length false 0] ++ (x.p.take k).map (ptW pl)).length ≤ 30000 := by
      simp only [List.length_append, List.length_map, List.length_take, List.length_cons, List.length_nil]
      omega
    generalize O0 ++ [packW x.p.length x.d.length false 0] ++ (x.p.take k).map (ptW pl) = O1 at *
    unfold loamref17_Encode_l4
    simp (disch := (first | omega | decide | (simp only [World.size_alloc, World.size_setCell, World.size_drew, size_sets, List.mem_cons, List.not_mem_nil, or_false, not_false_eq_true] <;> omega) | fail)) only [↓rsGrp5_0, rsGrp5_1, Option.isNone_some, Option.isNone_none, tick_eq, tickV_eq, ne_eq, Int.reduceAdd, Int.reduceSub, Int.reduceMul, Int.reduceEq, Int.reduceLT, Int.reduceLE, Int.reduceToNat, Nat.reduceMul, Nat.reduceAdd, Nat.reduceSub, List.nil_append, List.cons_append, List.getElem?_toArray, List.getElem?_cons_zero, List.getElem?_cons_succ, List.setIfInBounds_toArray, List.set_cons_zero, List.set_cons_succ, Option.map_some, List.not_mem_nil, ←decide_not, k1, k2, k3, hh1, k4, k5, ha1, c1, c2, k9, ha3, c3]
    refine loamref17_point_call (Gives.to (point_spec pl ap cp x.p[k] (hrp.ext0 N9.1) hpk.1 (by rw [hpll]; exact hpk.2) (by omega) hple) fun w10 F10 => ?_)
    have N10 := N9.ext F10
    have C10 := C9.ext F10 (by simp)
    have z10 := C10.lt
    simp (disch := (first | omega | decide | (simp only [World.size_alloc, World.size_setCell, World.size_drew, size_sets, List.mem_cons, List.not_mem_nil, or_false, not_false_eq_true] <;> omega) | fail)) only [↓rsGrp5_0, rsGrp5_1, Option.isNone_some, Option.isNone_none, tick_eq, tickV_eq, ne_eq, Int.reduceAdd, Int.reduceSub, Int.reduceMul, Int.reduceEq, Int.reduceLT, Int.reduceLE, Int.reduceToNat, Nat.reduceMul, Nat.reduceAdd, Nat.reduceSub, List.nil_append, List.cons_append, List.getElem?_toArray, List.getElem?_cons_zero, List.getElem?_cons_succ, List.setIfInBounds_toArray, List.set_cons_zero, List.set_cons_succ, Option.map_some, List.not_mem_nil, ←decide_not, k1, k2, k3, hh1, k4, k5, ha1, c1, c2, k9, ha3, c3]
    refine appU' N10.2.1 rfl (by omega) fun v11 w11 O11 T11 => ?_
    simp (disch := (first | omega | decide | (simp only [World.size_alloc, World.size_setCell, World.size_drew, size_sets, List.mem_cons, List.not_mem_nil, or_false, not_false_eq_true] <;> omega) | fail)) only [↓rsGrp5_0, rsGrp5_1, Option.isNone_some, Option.isNone_none, tick_eq, tickV_eq, ne_eq, Int.reduceAdd, Int.reduceSub, Int.reduceMul, Int.reduceEq, Int.reduceLT, Int.reduceLE, Int.reduceToNat, Nat.reduceMul, Nat.reduceAdd, Nat.reduceSub, List.nil_append, List.cons_append, List.getElem?_toArray, List.getElem?_cons_zero, List.getElem?_cons_succ, List.setIfInBounds_toArray, List.set_cons_zero, List.set_cons_succ, Option.map_some, List.not_mem_nil, ←decide_not, k1, k2, k3, hh1, k4, k5, ha1, c1, c2, k9, ha3, c3]
    refine hnx2 _ _ ⟨v11, rfl, by rw [hsk]; exact N10.app O11 T11, C10.ext T11.ext hcv9, fun hm => ?_⟩
    rcases T11.at' _ hm with h1 | h1
    · exact hcv9 h1
    · omega
  · rintro u v8 ⟨v9, hu, N9, C9, hcv9⟩ nxt2
    simp only [List.map_cons, List.map_nil, List.cons.injEq, and_true] at hu
    rw [hu.1, hu.2]
    rw [List.take_length] at N9
    have k9 := fun i => C9.cell (i := i)
    have hok9 := (hy.ext0 (F3.trans N9.1)).ok x hm
    have hl9 : (O0 ++ [packW x.p.length x.d.length false 0] ++ x.p.map (ptW pl)).length ≤ 30000 := by
      simp only [List.length_append, List.length_map, List.length_cons, List.length_nil]
      omega
    generalize O0 ++ [packW x.p.length x.d.length false 0] ++ x.p.map (ptW pl) = O1 at *
    unfold loamref17_Encode_l4
    simp (disch := (first | omega | decide | (simp only [World.size_alloc, World.size_setCell, World.size_drew, size_sets, List.mem_cons, List.not_mem_nil, or_false, not_false_eq_true] <;> omega) | fail)) only [↓rsGrp5_0, rsGrp5_1, Option.isNone_some, Option.isNone_none, tick_eq, tickV_eq, ne_eq, Int.reduceAdd, Int.reduceSub, Int.reduceMul, Int.reduceEq, Int.reduceLT, Int.reduceLE, Int.reduceToNat, Nat.reduceMul, Nat.reduceAdd, Nat.reduceSub, List.nil_append, List.cons_append, List.getElem?_toArray, List.getElem?_cons_zero, List.getElem?_cons_succ, List.setIfInBounds_toArray, List.set_cons_zero, List.set_cons_succ, Option.map_some, List.not_mem_nil, ←decide_not, k1, k2, k3, hh1, k4, k5, ha1, c1, c2, k9]
    refine loamref17_words_call (Yld.mono (rwords_spec x.d x.da x.dc hok9.dr (by omega)) ?_)
    rintro u w10 N10
    obtain ⟨a7, c7, rfl, hc7, _, hn7, hr7, _⟩ := N10.2.1.slice
    have M10 := N9.ext N10.1
    have hwl := wordsV_len x.d
    refine appUs M10.2.1 hr7 hn7 hc7 (by omega) fun v11 w11 O11 T11 => ?_
    simp (disch := (first | omega | decide | (simp only [World.size_alloc, World.size_setCell, World.size_drew, size_sets, List.mem_cons, List.not_mem_nil, or_false, not_false_eq_true] <;> omega) | fail)) only [↓rsGrp5_0, rsGrp5_1, Option.isNone_some, Option.isNone_none, tick_eq, tickV_eq, ne_eq, Int.reduceAdd, Int.reduceSub, Int.reduceMul, Int.reduceEq, Int.reduceLT, Int.reduceLE, Int.reduceToNat, Nat.reduceMul, Nat.reduceAdd, Nat.reduceSub, List.nil_append, List.cons_append, List.getElem?_toArray, List.getElem?_cons_zero, List.getElem?_cons_succ, List.setIfInBounds_toArray, List.set_cons_zero, List.set_cons_succ, Option.map_some, List.not_mem_nil, ←decide_not, k1, k2, k3, hh1, k4, k5, ha1, c1, c2, k9]
    refine hnx _ _ ⟨v11, rfl, ?_⟩
    rw [hsu]
    exact M10.app O11 T11
end Go.Proofs.Ytdpmidgeipibbaa
end
section
set_option linter.unusedVariables false
set_option linter.unusedSimpArgs false
set_option maxHeartbeats 4000000
namespace Go.Proofs.Ytdpmidgeipibbaa
open Go.Sh Go.RowKit Go.ChangeShapes Go.WideShapes Go.ChangeAt

theorem enc_head {ns : List GN} {rs : List GR} {t : List (BitVec 64)} {L : List (BitVec 64)} (h : L = encW ns rs ++ t) : wat L 0 = BitVec.ofNat 64 1296125772 ∧ wat L 1 = hdrW rs.length (2 + 5 * rs.length + gW ns) := by
  subst h
  exact ⟨rfl, rfl⟩
theorem wat_take {l : List (BitVec 64)} {n i : Nat} (h : i < n) : wat (l.take n) i = wat l i := by
  unfold wat
  simp only [List.getD_eq_getElem?_getD, List.getElem?_take, if_pos h]
theorem hdr_len {R at' n : Nat} (hR : R ≤ 64) (ha : at' ≤ 8192) (hn : n ≤ 9000) (h : fieldB (hdrW R at') 16 32 = BitVec.ofNat 64 n) : at' = n := by
  have h1 : (fieldB (hdrW R at') 16 32).toNat = _ := field_nat (hdrW R at') (a := 16) (n := 32) (by decide) (by decide)
  rw [h] at h1
  unfold hdrW at h1
  rw [BitVec.toNat_ofNat, BitVec.toNat_ofNat] at h1
  omega
theorem notSize {ns : List GN} {rs : List GR} {L : List (BitVec 64)} (hR : rs.length ≤ 64) (ha : 2 + 5 * rs.length + gW ns ≤ 8192) (hL : L.length ≤ 9000) (hne : L.length ≠ 2 + 5 * rs.length + gW ns) (h1 : 2 ≤ L.length → wat L 1 = hdrW rs.length (2 + 5 * rs.length + gW ns)) : ¬ sizeOk L := by
  rintro ⟨h2, h3, h4, _⟩
  rw [h1 h2] at h4
  exact hne (hdr_len hR ha hL h4).symm
theorem img_size {L : List (BitVec 64)} (h0 : 1 ≤ L.length) (h1 : wat L 0 = BitVec.ofNat 64 1296125772) (hs : ¬ sizeOk L) (os : List Nat) (bad : Option Nat) : (magF L ++ if sizeOk L then allF (wat L) os bad else [(1, sSize)]) = [(1, sSize)] := by
  rw [if_neg hs]
  unfold magF
  rw [if_neg]
  · rfl
  · rintro (h | h)
    · omega
    · exact h h1
abbrev rsChk8_0 := (And.intro @xBox_r (And.intro @loadK_some (And.intro @loadsK_s (And.intro @loadsK_n (And.intro @loadsR_s (And.intro @loadsR_n (And.intro @storesK_s (And.intro @storesK_n (And.intro @xPick_t (And.intro @xPick_f (And.intro @xGuard_tt (And.intro @xGuard_ff (And.intro @xGuard_tf (And.intro @xGuard_ft (And.intro @xGuard_u 
  (And.intro @xNil_r (And.intro @xIf_t (And.intro @xBin_add' (And.intro @xBin_sub' (And.intro @xBin_mul' (And.intro @xBin_quo' (And.intro @xBin_rem' (And.intro @xIf_f (And.intro @xIf_tt (And.intro @xEx0 (And.intro @xEx1 (And.intro @xEx2 (And.intro @xEx3 (And.intro @xBin_eqs (And.intro @xBin_nes (And.intro @xUn_not (And.intro @xu8_add (And.intro @xu8_sub 
  (And.intro @xu8_rem (And.intro @xu8_com (And.intro @xu8_eql (And.intro @xu8_neq (And.intro @xu8_gtr (And.intro @xu16_add (And.intro @xu16_sub (And.intro @xu16_rem (And.intro @xu16_com (And.intro @xu16_eql (And.intro @xu16_neq (And.intro @xu16_gtr (And.intro @xu32_add (And.intro @xu32_sub (And.intro @xu32_rem (And.intro @xu32_com (And.intro @xu32_eql 
  (And.intro @xu32_neq (And.intro @xu32_gtr (And.intro @xu64_add (And.intro @xu64_sub (And.intro @xu64_rem (And.intro @xu64_com (And.intro @xu64_eql (And.intro @xu64_neq (And.intro @xu64_gtr (And.intro @xi64_gtr (And.intro @xi64_eql (And.intro @xi64_neq (And.intro @xi64_neg (And.intro @xMakeFunc_r (And.intro @xSq_r (And.intro @xPur_s (And.intro @xRd_s 
  (And.intro @xRe_s (And.intro @xDet_s (And.intro @xDet_ld (And.intro @xDet_ld2 (And.intro @xDet_ld3 (And.intro @xDet_ld4 (And.intro @xGuard_tt (And.intro @ld_3 (And.intro @ld_9 (And.intro @ld_25 (And.intro @fa_40_0 (And.intro @fa_40_1 (And.intro @cv_5_3 (And.intro @ia_37 (And.intro @ln_28 (And.intro @ln_37 (And.intro @bs_28_0 (And.intro @bs_28_1 (And.intro @bs_28_2 
  (And.intro @bs_28_3 (And.intro @sh_28 (And.intro @sl_28 (And.intro @sm_28 @sb_28))))))))))))))))))))))))))))))))))))))))))))))))))))))))))))))))))))))))))))))))))))))))))
abbrev rsChk8_1 := (And.intro @setCells_c (And.intro @setCells_n (And.intro @World.setCell_alloc_at (And.intro @World.setCell_alloc_past (And.intro @World.cell?_alloc_at (And.intro @World.cell?_alloc_past (And.intro @World.frozen?_alloc_at (And.intro @World.frozen?_alloc_past 
  (And.intro @World.size_alloc (And.intro @dlt_t (And.intro @dlt_f (And.intro @dle_t (And.intro @dle_f (And.intro @deq_t (And.intro @deq_f (And.intro @dne_t (And.intro @dne_f (And.intro @not_true_eq_false (And.intro @Bool.false_and (And.intro @Bool.true_and (And.intro @Bool.and_true (And.intro @Bool.and_false (And.intro @wrap_in (And.intro @Int.toNat_natCast 
  (And.intro @Nat.mul_one (And.intro @cells_int (And.intro @cells_bool (And.intro @cells_string (And.intro @cells_slice (And.intro @cells_pointer (And.intro @cells_agg (And.intro @one_int (And.intro @one_bool (And.intro @one_string (And.intro @one_slice (And.intro @one_pointer (And.intro @beq_tt (And.intro @beq_ff (And.intro @beq_tf 
  (And.intro @beq_ft (And.intro @cell_sets_b (And.intro @frozen_sets (And.intro @size_sets (And.intro @World.size_drew (And.intro @Nat.zero_add (And.intro @Nat.add_zero (And.intro @cell_drew (And.intro @frozen_drew (And.intro @cell_set_eq (And.intro @cell_set_o (And.intro @cell_set_b (And.intro @World.frozen?_setCell 
  (And.intro @decide_true (And.intro @decide_false (And.intro @not_false_eq_true (And.intro @Bool.not_true @Bool.not_false))))))))))))))))))))))))))))))))))))))))))))))))))))))))
theorem CheckMore_walk (na ra : Option Addr) (nc rc : Nat) (ns : List GN) (rs : List GR) (x y : BitVec 8) (w : World) (h : GIs w na nc ra rc ns rs) : Gives Try.prog n_loamlaw26_CheckMore #[gV na nc ra rc ns rs, u8 x, u8 y] w (.bool true) := by
  refine loamlaw26_CheckMore_of ?_
  unfold loamlaw26_CheckMore
  simp (disch := (first | omega | decide | (simp only [World.size_alloc, World.size_setCell, World.size_drew, size_sets, List.mem_cons, List.not_mem_nil, or_false, not_false_eq_true] <;> omega) | fail)) only [↓rsChk8_0, rsChk8_1, Option.isNone_some, Option.isNone_none, tick_eq, tickV_eq, ne_eq, Int.reduceAdd, Int.reduceSub, Int.reduceMul, Int.reduceEq, Int.reduceLT, Int.reduceLE, Int.reduceToNat, Nat.reduceMul, Nat.reduceAdd, Nat.reduceSub, List.nil_append, List.cons_append, List.getElem?_toArray, List.getElem?_cons_zero, List.getElem?_cons_succ, List.setIfInBounds_toArray, List.set_cons_zero, List.set_cons_succ, Option.map_some, List.not_mem_nil, ←decide_not, eq_self]
  have B : Blk (w.alloc (.cells #[.slice na ns.length nc, .slice ra rs.length rc] 25)) w.heap.size 25 [.slice na ns.length nc, .slice ra rs.length rc] := Blk.at rfl
  have X : Ext [] w (w.alloc (.cells #[.slice na ns.length nc, .slice ra rs.length rc] 25)) := Ext.alloc _ _ _
  have hy := h.ext0 X
  generalize w.heap.size = hb at *
  generalize w.alloc (.cells #[.slice na ns.length nc, .slice ra rs.length rc] 25) = y0 at *
  refine loamlaw26_known_call (Gives.to (known26_spec y0) fun w1 F1 => ?_)
  have k1 := fun i => (B.ext F1 (by simp)).cell (i := i)
  simp (disch := (first | omega | decide | (simp only [World.size_alloc, World.size_setCell, World.size_drew, size_sets, List.mem_cons, List.not_mem_nil, or_false, not_false_eq_true] <;> omega) | fail)) only [↓rsChk8_0, rsChk8_1, Option.isNone_some, Option.isNone_none, tick_eq, tickV_eq, ne_eq, Int.reduceAdd, Int.reduceSub, Int.reduceMul, Int.reduceEq, Int.reduceLT, Int.reduceLE, Int.reduceToNat, Nat.reduceMul, Nat.reduceAdd, Nat.reduceSub, List.nil_append, List.cons_append, List.getElem?_toArray, List.getElem?_cons_zero, List.getElem?_cons_succ, List.setIfInBounds_toArray, List.set_cons_zero, List.set_cons_succ, Option.map_some, List.not_mem_nil, ←decide_not, k1]
  refine loamlaw17_Few_call (Yld.mono (Few_spec (hy.ext0 F1)) ?_)
  rintro u w2 ⟨⟨b, rfl, hfew⟩, F2⟩
  have F12 := F1.trans F2
  cases b with
  | false =>
    simp (disch := (first | omega | decide | (simp only [World.size_alloc, World.size_setCell, World.size_drew, size_sets, List.mem_cons, List.not_mem_nil, or_false, not_false_eq_true] <;> omega) | fail)) only [↓rsChk8_0, rsChk8_1, Option.isNone_some, Option.isNone_none, tick_eq, tickV_eq, ne_eq, Int.reduceAdd, Int.reduceSub, Int.reduceMul, Int.reduceEq, Int.reduceLT, Int.reduceLE, Int.reduceToNat, Nat.reduceMul, Nat.reduceAdd, Nat.reduceSub, List.nil_append, List.cons_append, List.getElem?_toArray, List.getElem?_cons_zero, List.getElem?_cons_succ, List.setIfInBounds_toArray, List.set_cons_zero, List.set_cons_succ, Option.map_some, List.not_mem_nil, ←decide_not, k1]
    exact ⟨by trivial, X.trans F12⟩
  | true =>
  have hf := hfew rfl
  have hfn := hf.n
  have hfr := hf.r
  have k2 := fun i => (B.ext F12 (by simp)).cell (i := i)
  simp (disch := (first | omega | decide | (simp only [World.size_alloc, World.size_setCell, World.size_drew, size_sets, List.mem_cons, List.not_mem_nil, or_false, not_false_eq_true] <;> omega) | fail)) only [↓rsChk8_0, rsChk8_1, Option.isNone_some, Option.isNone_none, tick_eq, tickV_eq, ne_eq, Int.reduceAdd, Int.reduceSub, Int.reduceMul, Int.reduceEq, Int.reduceLT, Int.reduceLE, Int.reduceToNat, Nat.reduceMul, Nat.reduceAdd, Nat.reduceSub, List.nil_append, List.cons_append, List.getElem?_toArray, List.getElem?_cons_zero, List.getElem?_cons_succ, List.setIfInBounds_toArray, List.set_cons_zero, List.set_cons_succ, Option.map_some, List.not_mem_nil, ←decide_not, k1, k2]
  refine loamlaw17_Of_call (Yld.mono (Of_spec17 (hy.ext0 F12) (by omega) (by omega)) ?_)
  rintro u w3 ⟨F3, na', nc', ra', rc', rfl, hG⟩
  simp (disch := (first | omega | decide | (simp only [World.size_alloc, World.size_setCell, World.size_drew, size_sets, List.mem_cons, List.not_mem_nil, or_false, not_false_eq_true] <;> omega) | fail)) only [↓rsChk8_0, rsChk8_1, Option.isNone_some, Option.isNone_none, tick_eq, tickV_eq, ne_eq, Int.reduceAdd, Int.reduceSub, Int.reduceMul, Int.reduceEq, Int.reduceLT, Int.reduceLE, Int.reduceToNat, Nat.reduceMul, Nat.reduceAdd, Nat.reduceSub, List.nil_append, List.cons_append, List.getElem?_toArray, List.getElem?_cons_zero, List.getElem?_cons_succ, List.setIfInBounds_toArray, List.set_cons_zero, List.set_cons_succ, Option.map_some, List.not_mem_nil, ←decide_not, k1, k2]
  refine loamref17_Encode_call (Yld.mono (Encode_spec hG hf) ?_)
  rintro u w4 hu
  rcases hu with ⟨e, he, rfl, F4⟩ | ⟨hg, h8, aE, cE, rfl, hcE, hnE, RE, F4⟩
  · simp (disch := (first | omega | decide | (simp only [World.size_alloc, World.size_setCell, World.size_drew, size_sets, List.mem_cons, List.not_mem_nil, or_false, not_false_eq_true] <;> omega) | fail)) only [↓rsChk8_0, rsChk8_1, Option.isNone_some, Option.isNone_none, tick_eq, tickV_eq, ne_eq, Int.reduceAdd, Int.reduceSub, Int.reduceMul, Int.reduceEq, Int.reduceLT, Int.reduceLE, Int.reduceToNat, Nat.reduceMul, Nat.reduceAdd, Nat.reduceSub, List.nil_append, List.cons_append, List.getElem?_toArray, List.getElem?_cons_zero, List.getElem?_cons_succ, List.setIfInBounds_toArray, List.set_cons_zero, List.set_cons_succ, Option.map_some, List.not_mem_nil, ←decide_not, k1, k2]
    exact ⟨by trivial, X.trans (F12.trans (F3.trans F4))⟩
  have X4 : Ext [] w w4 := X.trans (F12.trans (F3.trans F4))
  have hgs := fun r hr => (hg.s r hr).1.2.1
  have hgr := hg.r
  have hlen := encW_len (ns := ns) (rs := rs) hgs
  have hE0 := enc_head (ns := ns) (rs := rs) (t := []) (L := encW ns rs) (by simp)
  by_cases hbig : 8000 < (encW ns rs).length
  · simp (disch := (first | omega | decide | (simp only [World.size_alloc, World.size_setCell, World.size_drew, size_sets, List.mem_cons, List.not_mem_nil, or_false, not_false_eq_true] <;> omega) | fail)) only [↓rsChk8_0, rsChk8_1, Option.isNone_some, Option.isNone_none, tick_eq, tickV_eq, ne_eq, Int.reduceAdd, Int.reduceSub, Int.reduceMul, Int.reduceEq, Int.reduceLT, Int.reduceLE, Int.reduceToNat, Nat.reduceMul, Nat.reduceAdd, Nat.reduceSub, List.nil_append, List.cons_append, List.getElem?_toArray, List.getElem?_cons_zero, List.getElem?_cons_succ, List.setIfInBounds_toArray, List.set_cons_zero, List.set_cons_succ, Option.map_some, List.not_mem_nil, ←decide_not, k1, k2]
    exact ⟨by trivial, X4⟩
  have hE : encW ns rs = encW ns rs := rfl
  generalize hEE : encW ns rs = E at *
  generalize hat : 2 + 5 * rs.length + gW ns = at' at *
  have h2 : 2 ≤ E.length := by omega
  simp (disch := (first | omega | decide | (simp only [World.size_alloc, World.size_setCell, World.size_drew, size_sets, List.mem_cons, List.not_mem_nil, or_false, not_false_eq_true] <;> omega) | fail)) only [↓rsChk8_0, rsChk8_1, Option.isNone_some, Option.isNone_none, tick_eq, tickV_eq, ne_eq, Int.reduceAdd, Int.reduceSub, Int.reduceMul, Int.reduceEq, Int.reduceLT, Int.reduceLE, Int.reduceToNat, Nat.reduceMul, Nat.reduceAdd, Nat.reduceSub, List.nil_append, List.cons_append, List.getElem?_toArray, List.getElem?_cons_zero, List.getElem?_cons_succ, List.setIfInBounds_toArray, List.set_cons_zero, List.set_cons_succ, Option.map_some, List.not_mem_nil, ←decide_not, k1, k2]
  refine appUn RE hnE hcE (by omega) fun v5 w5 O5 F5 U5 => ?_
  obtain ⟨g, cap, rest, rfl, hB, hnc, hmc, hcl⟩ := O5.open (by omega)
  have ug := U5 g (by simp [blk, Value.ownBlock])
  have hx20 : (x % BitVec.ofNat 8 20).toNat = x.toNat % 20 := by rw [BitVec.toNat_umod]; rfl
  have e1 : 1 + ((x % BitVec.ofNat 8 20).toNat : Int) = ((1 + x.toNat % 20 : Nat) : Int) := by rw [hx20]; omega
  have hm20 : 1 + x.toNat % 20 ≤ 20 := by omega
  simp (disch := (first | omega | decide | (simp only [World.size_alloc, World.size_setCell, World.size_drew, size_sets, List.mem_cons, List.not_mem_nil, or_false, not_false_eq_true] <;> omega) | fail)) only [↓rsChk8_0, rsChk8_1, Option.isNone_some, Option.isNone_none, tick_eq, tickV_eq, ne_eq, Int.reduceAdd, Int.reduceSub, Int.reduceMul, Int.reduceEq, Int.reduceLT, Int.reduceLE, Int.reduceToNat, Nat.reduceMul, Nat.reduceAdd, Nat.reduceSub, List.nil_append, List.cons_append, List.getElem?_toArray, List.getElem?_cons_zero, List.getElem?_cons_succ, List.setIfInBounds_toArray, List.set_cons_zero, List.set_cons_succ, Option.map_some, List.not_mem_nil, ←decide_not, k1, k2, e1]
  generalize 1 + x.toNat % 20 = m at *
  refine xAppZ (e := 69) (bytes := 8) (z := .int .u64 0) (zc := .int .u64 0) (xs := wrds E) (by kernel_rfl) (by kernel_rfl) (by kernel_rfl) (by rfl) (by rfl) (by decide) (by simp) hnc (fun j hj => by rw [hB.cell, List.getElem?_eq_getElem (by omega)]; rfl) (fun j _ => hB.frozen) (fun i z hz => by rw [hB.cell, List.getElem?_append_left (List.getElem?_eq_some_iff.1 hz).1]; exact hz) (by omega) (by omega) fun a6 c6 w6 R6 hc6 hn6 F6 U6 => ?_
  have X6 : Ext [] w4 w6 := F5.new F6 (fun z hz => by simp only [List.mem_singleton] at hz; omega)
  have hLA : (E ++ List.replicate m (BitVec.ofNat 64 0)).length = E.length + m := by simp
  have R6' : RowAt w6 a6 (wrds (E ++ List.replicate m (BitVec.ofNat 64 0))) := by
    have : wrds E ++ List.replicate m (Value.int .u64 0) = wrds (E ++ List.replicate m (BitVec.ofNat 64 0)) := by simp [wrds]
    rw [← this]
    exact R6
  have hA1 : 2 ≤ (E ++ List.replicate m (BitVec.ofNat 64 0)).length → wat (E ++ List.replicate m (BitVec.ofNat 64 0)) 1 = hdrW rs.length at' := fun _ => by
    have h5 := hE0.2
    unfold wat at h5 ⊢
    rw [List.getD_eq_getElem?_getD, List.getElem?_append_left (by omega), ← List.getD_eq_getElem?_getD]
    exact h5
  have hA0 : wat (E ++ List.replicate m (BitVec.ofNat 64 0)) 0 = BitVec.ofNat 64 1296125772 := by
    have h5 := hE0.1
    unfold wat at h5 ⊢
    rw [List.getD_eq_getElem?_getD, List.getElem?_append_left (by omega), ← List.getD_eq_getElem?_getD]
    exact h5
  have hm1 : 1 ≤ m ∨ m = 0 := by omega
  have nA : ¬ sizeOk (E ++ List.replicate m (BitVec.ofNat 64 0)) := by
    subst hat
    exact notSize hgr h8 (by omega) (by omega) hA1
  have iA := img_size (L := E ++ List.replicate m (BitVec.ofNat 64 0)) (by omega) hA0 nA
  have hmod : (y.toNat : Int) % ((E.length : Int) - 1) = ((y.toNat % (E.length - 1) : Nat) : Int) := by
    rw [show (E.length : Int) - 1 = ((E.length - 1 : Nat) : Int) by omega]
    rfl
  have hr : y.toNat % (E.length - 1) < E.length - 1 := Nat.mod_lt _ (by omega)
  generalize y.toNat % (E.length - 1) = r at *
  have e3 : (E.length : Int) - 1 - (r : Int) = ((E.length - 1 - r : Nat) : Int) := by omega
  have hn1 : 1 ≤ E.length - 1 - r := by omega
  have hn2 : E.length - 1 - r < E.length := by omega
  generalize hnn : E.length - 1 - r = n at *
  simp (disch := (first | omega | decide | (simp only [World.size_alloc, World.size_setCell, World.size_drew, size_sets, List.mem_cons, List.not_mem_nil, or_false, not_false_eq_true] <;> omega) | fail)) only [↓rsChk8_0, rsChk8_1, Option.isNone_some, Option.isNone_none, tick_eq, tickV_eq, ne_eq, Int.reduceAdd, Int.reduceSub, Int.reduceMul, Int.reduceEq, Int.reduceLT, Int.reduceLE, Int.reduceToNat, Nat.reduceMul, Nat.reduceAdd, Nat.reduceSub, List.nil_append, List.cons_append, List.getElem?_toArray, List.getElem?_cons_zero, List.getElem?_cons_succ, List.setIfInBounds_toArray, List.set_cons_zero, List.set_cons_succ, Option.map_some, List.not_mem_nil, ←decide_not, k1, k2, e1, hmod, e3]
  generalize hLL : E ++ List.replicate m (BitVec.ofNat 64 0) = L at *
  rw [← hLA] at hc6 ⊢
  have hT : (E.take n).length = n := by rw [List.length_take]; omega
  have RB : ∀ {w' : World}, Ext [] w4 w' → RowAt w' aE (wrds (E.take n)) := fun {w'} F => by
    have := (RE.ext0 F).take n
    rw [← List.map_take] at this
    exact this
  have nB : ¬ sizeOk (E.take n) := by
    subst hat
    exact notSize hgr h8 (by omega) (by omega) (fun h5 => by rw [wat_take (by omega)]; exact hE0.2)
  have iB := img_size (L := E.take n) (by omega) (by rw [wat_take (by omega)]; exact hE0.1) nB
  refine check_Image_call (Yld.mono (Image_n0 L a6 c6 w6 R6' hc6 (by omega) (fun h => absurd h nA)) ?_)
  rintro u w7 ⟨os, bad, _, F7, a7, c7, rfl, hc7, hn7, R7⟩
  rw [iA] at R7 hc7 ⊢
  simp (disch := (first | omega | decide | (simp only [World.size_alloc, World.size_setCell, World.size_drew, size_sets, List.mem_cons, List.not_mem_nil, or_false, not_false_eq_true] <;> omega) | fail)) only [↓rsChk8_0, rsChk8_1, Option.isNone_some, Option.isNone_none, tick_eq, tickV_eq, ne_eq, Int.reduceAdd, Int.reduceSub, Int.reduceMul, Int.reduceEq, Int.reduceLT, Int.reduceLE, Int.reduceToNat, Nat.reduceMul, Nat.reduceAdd, Nat.reduceSub, List.nil_append, List.cons_append, List.getElem?_toArray, List.getElem?_cons_zero, List.getElem?_cons_succ, List.setIfInBounds_toArray, List.set_cons_zero, List.set_cons_succ, Option.map_some, List.not_mem_nil, ←decide_not, k1, k2, e1, hmod, e3]
  have hB7 := Image_n0 (E.take n) aE cE w7 (RB (X6.trans F7)) (by omega) (by omega) (fun h => absurd h nB)
  rw [hT] at hB7
  refine check_Image_call (Yld.mono hB7 ?_)
  rintro u w8 ⟨os2, bad2, _, F8, a8, c8, rfl, hc8, hn8, R8⟩
  rw [iB] at R8 hc8 ⊢
  obtain ⟨b1, o1, rfl, z1, k3, k4⟩ := fnd_at (R7.ext0 F8) (k := 0) (by simp)
  obtain ⟨b2, o2, rfl, z2, k5, k6⟩ := fnd_at R8 (k := 0) (by simp)
  have cS : strOf sSize = { data := #[115, 105, 122, 101] } := by decide +kernel
  have k3' : w8.cell? ⟨b1, o1, none⟩ = some (i64 1) := k3
  have k4' : w8.cell? ⟨b1, o1 + 1, none⟩ = some (.string (strOf sSize)) := k4
  have k5' : w8.cell? ⟨b2, o2, none⟩ = some (i64 1) := k5
  have k6' : w8.cell? ⟨b2, o2 + 1, none⟩ = some (.string (strOf sSize)) := k6
  rw [cS] at k4' k6'
  simp (disch := (first | omega | decide | (simp only [World.size_alloc, World.size_setCell, World.size_drew, size_sets, List.mem_cons, List.not_mem_nil, or_false, not_false_eq_true] <;> omega) | fail)) only [↓rsChk8_0, rsChk8_1, Option.isNone_some, Option.isNone_none, tick_eq, tickV_eq, ne_eq, Int.reduceAdd, Int.reduceSub, Int.reduceMul, Int.reduceEq, Int.reduceLT, Int.reduceLE, Int.reduceToNat, Nat.reduceMul, Nat.reduceAdd, Nat.reduceSub, List.nil_append, List.cons_append, List.getElem?_toArray, List.getElem?_cons_zero, List.getElem?_cons_succ, List.setIfInBounds_toArray, List.set_cons_zero, List.set_cons_succ, Option.map_some, List.not_mem_nil, ←decide_not, k1, k2, e1, hmod, e3, k3', k4', k5', k6']
  refine check_Right_call (Yld.mono (CRight_n0 L a6 c6 w8 ((R6'.ext0 F7).ext0 F8) hc6 (by omega) (fun h => absurd h nA)) ?_)
  rintro u w9 ⟨os3, bad3, _, rfl, F9⟩
  have e8 : decide ((imgF L os3 bad3).length = 0) = false := by
    have : imgF L os3 bad3 = [(1, sSize)] := iA os3 bad3
    rw [this]
    rfl
  rw [e8]
  simp (disch := (first | omega | decide | (simp only [World.size_alloc, World.size_setCell, World.size_drew, size_sets, List.mem_cons, List.not_mem_nil, or_false, not_false_eq_true] <;> omega) | fail)) only [↓rsChk8_0, rsChk8_1, Option.isNone_some, Option.isNone_none, tick_eq, tickV_eq, ne_eq, Int.reduceAdd, Int.reduceSub, Int.reduceMul, Int.reduceEq, Int.reduceLT, Int.reduceLE, Int.reduceToNat, Nat.reduceMul, Nat.reduceAdd, Nat.reduceSub, List.nil_append, List.cons_append, List.getElem?_toArray, List.getElem?_cons_zero, List.getElem?_cons_succ, List.setIfInBounds_toArray, List.set_cons_zero, List.set_cons_succ, Option.map_some, List.not_mem_nil, ←decide_not, k1, k2, e1, hmod, e3, k3', k4', k5', k6']
  have hB9 := CRight_n0 (E.take n) aE cE w9 (RB (X6.trans (F7.trans (F8.trans F9)))) (by omega) (by omega) (fun h => absurd h nB)
  rw [hT] at hB9
  refine check_Right_call (Yld.mono hB9 ?_)
  rintro u w10 ⟨os4, bad4, _, rfl, F10⟩
  have e9 : decide ((imgF (E.take n) os4 bad4).length = 0) = false := by
    have : imgF (E.take n) os4 bad4 = [(1, sSize)] := iB os4 bad4
    rw [this]
    rfl
  rw [e9]
  simp (disch := (first | omega | decide | (simp only [World.size_alloc, World.size_setCell, World.size_drew, size_sets, List.mem_cons, List.not_mem_nil, or_false, not_false_eq_true] <;> omega) | fail)) only [↓rsChk8_0, rsChk8_1, Option.isNone_some, Option.isNone_none, tick_eq, tickV_eq, ne_eq, Int.reduceAdd, Int.reduceSub, Int.reduceMul, Int.reduceEq, Int.reduceLT, Int.reduceLE, Int.reduceToNat, Nat.reduceMul, Nat.reduceAdd, Nat.reduceSub, List.nil_append, List.cons_append, List.getElem?_toArray, List.getElem?_cons_zero, List.getElem?_cons_succ, List.setIfInBounds_toArray, List.set_cons_zero, List.set_cons_succ, Option.map_some, List.not_mem_nil, ←decide_not, k1, k2, e1, hmod, e3, k3', k4', k5', k6']
  exact ⟨by trivial, X4.trans (X6.trans (F7.trans (F8.trans (F9.trans F10))))⟩
theorem CheckMore_spec (a : GP) (x y : Int) (hx : 0 ≤ x ∧ x ≤ 255) (hy : 0 ≤ y ∧ y ≤ 255) (w : World) (h : GIs w a.na a.nc a.ra a.rc a.ns a.rs) : Gives Try.prog n_loamlaw26_CheckMore #[gPV a, .int .u8 x, .int .u8 y] w (.bool true) := by
  rw [u8_of hx.1 hx.2, u8_of hy.1 hy.2]
  obtain ⟨na, nc, ra, rc, ns, rs⟩ := a
  exact CheckMore_walk na ra nc rc ns rs _ _ w h
end Go.Proofs.Ytdpmidgeipibbaa
end
