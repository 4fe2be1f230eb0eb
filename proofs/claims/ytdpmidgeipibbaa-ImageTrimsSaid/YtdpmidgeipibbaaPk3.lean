/- A graph trimmed, by the program: the walk (sq). The order in which nodes come, by the program (sq). A graph numbered as its nodes come, by the program (sq). Two graphs are equal, by the program (sq). Two graphs are equal, by the program and by the document (sq). Two graphs are the same but for their numbers, by the program (sq). Two graphs are equal, by the document (sq). What the statements on images begin with (sq). The statements ImageUnlike and ImageBack walked (sq). The statement ImageTrims walked (sq). -/
import Derived.Test.YtdpmidgeipibbaaPk2
section
set_option linter.unusedVariables false
set_option linter.unusedSimpArgs false
set_option maxHeartbeats 4000000
namespace Go.Proofs.Ytdpmidgeipibbaa
open Go.Sh Go.RowKit

def TrimR (w : World) (ns : List GN) (rs : List GR) (keep : List Int) (u : Value) (w' : World) : Prop := Ext [] w w' ∧ ∃ bs na' nc' ra' rc' ns' v, RchOk ns (tosL rs ++ keep) bs ∧ ns'.map bare = trNs ns bs ∧ u = .tuple #[gV na' nc' ra' rc' ns' (trRs rs bs), v] ∧ GIs w' na' nc' ra' rc' ns' (trRs rs bs) ∧ ∃ av cv, v = .slice av ns.length cv ∧ ns.length ≤ cv ∧ RowAt w' av (its (noL bs))
def noP (bs : List Bool) (j : Nat) : List Int := (List.range bs.length).map fun i => if i < j then noB bs i else 0
theorem noP_zero (bs : List Bool) : its (noP bs 0) = List.replicate bs.length (i64 0) := by
  refine List.ext_getElem (by simp [noP]) fun i h1 h2 => ?_
  simp [noP]
theorem noP_all (bs : List Bool) : noP bs bs.length = noL bs := by
  unfold noP noL
  refine List.map_congr_left fun i hi => ?_
  rw [if_pos (List.mem_range.1 hi)]
theorem noP_off (bs : List Bool) {j : Nat} (h : j < bs.length) (hb : bs[j] = false) : noP bs (j + 1) = noP bs j := by
  unfold noP
  refine List.map_congr_left fun i hi => ?_
  by_cases e : i = j
  · subst e
    rw [if_pos (by omega), if_neg (by omega)]
    unfold noB
    rw [getD_at h, hb]
    rfl
  · by_cases e2 : i < j
    · rw [if_pos (by omega), if_pos e2]
    · rw [if_neg (by omega), if_neg e2]
theorem noP_on (bs : List Bool) {j : Nat} (h : j < bs.length) (hb : bs[j] = true) : its (noP bs (j + 1)) = (its (noP bs j)).set j (i64 ((rk bs j : Int) + 1)) := by
  refine List.ext_getElem (by simp [noP]) fun i h1 h2 => ?_
  have hi : i < bs.length := by simpa [noP] using h1
  rw [List.getElem_set]
  by_cases e : j = i
  · subst e
    rw [if_pos rfl]
    simp only [noP, List.getElem_map, List.getElem_range]
    rw [if_pos (by omega)]
    unfold noB
    rw [getD_at h, hb]
    rfl
  · rw [if_neg e]
    simp only [noP, List.getElem_map, List.getElem_range]
    by_cases e2 : i < j
    · rw [if_pos (by omega), if_pos e2]
    · rw [if_neg (by omega), if_neg e2]
abbrev rsTri2_0 := (And.intro @xu8_add (And.intro @xu8_lss (And.intro @xu16_add (And.intro @xu16_lss (And.intro @xu32_add (And.intro @xu32_lss (And.intro @xu64_add (And.intro @xu64_lss (And.intro @xi64_lss (And.intro @ld_3 (And.intro @ld_4 (And.intro @ld_9 (And.intro @ld_22 (And.intro @ld_23 (And.intro @ld_25 (And.intro @ld_66 (And.intro @ld_72 (And.intro @ld_74 
  (And.intro @lr_25 (And.intro @fa_25_0 (And.intro @fa_25_1 (And.intro @fa_74_0 (And.intro @fa_74_1 (And.intro @al_25 (And.intro @al_66 (And.intro @al_72 (And.intro @al_74 (And.intro @st_3 (And.intro @st_22 (And.intro @st_23 (And.intro @st_25 (And.intro @st_66 (And.intro @st_72 (And.intro @st_74 (And.intro @bd_74_0_1 (And.intro @ia_22 (And.intro @ia_23 (And.intro @ia_66 
  (And.intro @ia_147 (And.intro @ln_147 (And.intro @ln_22 (And.intro @ln_23 (And.intro @bs_22_1 (And.intro @bs_23_1 @mk_66))))))))))))))))))))))))))))))))))))))))))))
theorem Trim_spec {w : World} {na ra : Option Addr} {nc rc : Nat} {ns : List GN} {rs : List GR} (h : GIs w na nc ra rc ns rs) (hf : FewH ns rs) {keep : List Int} {a : Option Addr} {c : Nat} (hk : RowAt w a (its keep)) (hkc : keep.length ≤ c) (hkn : a = none → c = 0) (hkl : keep.length ≤ 9000) :
    Yld Try.prog n_graph_Trim #[gV na nc ra rc ns rs, .slice a keep.length c] w fun u w' => TrimR w ns rs keep u w' := by
  have hfn := hf.n
  have hfr := hf.r
  refine graph_Trim_of ?_
  unfold graph_Trim
  have gbox : ∀ (y : World) (K : K1), xBox Try.prog 25 (gV na nc ra rc ns rs) y K = K (ptr y.heap.size) (y.alloc (.cells #[.slice na ns.length nc, .slice ra rs.length rc] 25)) := fun y K => xBox_r
  have al : ∀ (y : World) (K : K1), xAlloc Try.prog 25 y K = K (ptr y.heap.size) (y.alloc (.cells #[.slice none 0 0, .slice none 0 0] 25)) := fun y K => xAlloc_r (by kernel_rfl)
  rw [gbox, al]
  have B1 : Blk (w.alloc (.cells #[.slice na ns.length nc, .slice ra rs.length rc] 25)) w.heap.size 25 [.slice na ns.length nc, .slice ra rs.length rc] := Blk.at rfl
  have X1 : Ext [] w (w.alloc (.cells #[.slice na ns.length nc, .slice ra rs.length rc] 25)) := Ext.alloc _ _ _
  generalize w.alloc (.cells #[.slice na ns.length nc, .slice ra rs.length rc] 25) = y1 at *
  obtain ⟨g1, hg1⟩ : ∃ g, g = w.heap.size := ⟨_, rfl⟩
  rw [← hg1] at B1 ⊢
  have B2 : Blk (y1.alloc (.cells #[.slice none 0 0, .slice none 0 0] 25)) y1.heap.size 25 [.slice none 0 0, .slice none 0 0] := Blk.at rfl
  have X2 : Ext [] y1 (y1.alloc (.cells #[.slice none 0 0, .slice none 0 0] 25)) := Ext.alloc _ _ _
  have g1lt := B1.lt
  have X2d := X2.trans (Ext.drew [] _)
  have B12 := B1.ext X2d (by simp)
  have B2 := B2.ext (Ext.drew [] _) (by simp)
  generalize (y1.alloc (.cells #[.slice none 0 0, .slice none 0 0] 25)).drew = y2 at *
  obtain ⟨g4, hg4⟩ : ∃ g, g = y1.heap.size := ⟨_, rfl⟩
  rw [← hg4] at B2 ⊢
  have g4lt := B2.lt
  have X12 := X1.trans X2d
  have z1 := X1.size
  have G2 := h.ext0 X12
  have k1 := fun i => B12.cell (i := i)
  simp (disch := (first | omega | decide | (simp only [rsD] <;> omega) | fail)) only [↓rsC, rsK, rsL, ↓rsTri2_0, tick_eq, tickV_eq, ne_eq, Int.reduceAdd, Int.reduceSub, Int.reduceMul, Int.reduceEq, Int.reduceLT, Int.reduceLE, Int.reduceToNat, Nat.reduceMul, Nat.reduceAdd, Nat.reduceSub, ←decide_not, k1]
  refine graph_Named_call (Yld.mono (Named_spec G2 hfr) ?_)
  rintro u y3 ⟨F3, a3, rfl, R3, hn3, hs3, U3⟩
  have k3 := fun i => (B12.ext F3 (by simp)).cell (i := i)
  have tl : (tosL rs).length = rs.length := by simp
  simp (disch := (first | omega | decide | (simp only [rsD] <;> omega) | fail)) only [↓rsC, rsK, rsL, ↓rsTri2_0, tick_eq, tickV_eq, ne_eq, Int.reduceAdd, Int.reduceSub, Int.reduceMul, Int.reduceEq, Int.reduceLT, Int.reduceLE, Int.reduceToNat, Nat.reduceMul, Nat.reduceAdd, Nat.reduceSub, ←decide_not, k1, k3]
  have hap : ∀ (K : K1), (∀ a2 c2 w', Ext [] y3 w' → (a2 = none → c2 = 0) → RowAt w' a2 (its (tosL rs ++ keep)) → K (.slice a2 (tosL rs ++ keep).length c2) w') → xBuiltin Try.prog .append #[66, 66] 66 [false, false] [.slice a3 rs.length rs.length, .slice a keep.length c] y3 K := fun K hK => by
    have := appNo R3 (fun e => by rw [tl]; exact hn3 e) hs3 ((hk.ext0 X12).ext0 F3) hkc hkn ⟨by omega, by omega⟩ hK
    rw [tl] at this
    exact this
  refine hap _ fun a4 c4 y4 F4 hn4 R4 => ?_
  have F24 := F3.trans F4
  have k4 := fun i => (B12.ext F24 (by simp)).cell (i := i)
  simp (disch := (first | omega | decide | (simp only [rsD] <;> omega) | fail)) only [↓rsC, rsK, rsL, ↓rsTri2_0, tick_eq, tickV_eq, ne_eq, Int.reduceAdd, Int.reduceSub, Int.reduceMul, Int.reduceEq, Int.reduceLT, Int.reduceLE, Int.reduceToNat, Nat.reduceMul, Nat.reduceAdd, Nat.reduceSub, ←decide_not, k1, k3, k4]
  refine graph_Reach_call (Yld.mono (Reach_spec (G2.ext0 F24) hf R4 hn4 (by simp; omega)) ?_)
  rintro u y5 ⟨bs, hbs, N5⟩
  have F25 := F24.trans N5.1
  have hlen := hbs.len
  obtain ⟨ab, cb, hvb, hcb, _, hnb, Rb, _⟩ := N5.2.1.slice
  subst hvb
  have Ub : ∀ z, ab = some z → z.block < y5.heap.size := fun z hz => N5.2.1.lt _ (by rw [hz]; simp [blk, Value.ownBlock])
  have k5 := fun i => (B12.ext F25 (by simp)).cell (i := i)
  simp (disch := (first | omega | decide | (simp only [rsD] <;> omega) | fail)) only [↓rsC, rsK, rsL, ↓rsTri2_0, tick_eq, tickV_eq, ne_eq, Int.reduceAdd, Int.reduceSub, Int.reduceMul, Int.reduceEq, Int.reduceLT, Int.reduceLE, Int.reduceToNat, Nat.reduceMul, Nat.reduceAdd, Nat.reduceSub, ←decide_not, k1, k3, k4, k5]
  obtain ⟨nb, hnb⟩ : ∃ g, g = y5.heap.size := ⟨_, rfl⟩
  have Bn0 : Blk (y5.alloc (.cells (List.replicate ns.length (i64 0)).toArray 3)) nb 3 (its (noP bs 0)) := by
    rw [noP_zero, hlen]
    exact Blk.at hnb
  have X6 : Ext [] y5 (y5.alloc (.cells (List.replicate ns.length (i64 0)).toArray 3)) := Ext.alloc _ _ _
  have zs6 : (y5.alloc (.cells (List.replicate ns.length (i64 0)).toArray 3)).heap.size = nb + 1 := by rw [World.size_alloc, hnb]
  rw [← hnb]
  rw [show (y5.alloc (.cells (List.replicate ((ns.length : Int)).toNat (i64 0)).toArray 3)).heap.size = nb + 1 from zs6]
  have g1lt5 := (B12.ext F25 (by simp)).lt
  have g4lt5 := (B2.ext F25 (by simp)).lt
  generalize y5.alloc (.cells (List.replicate ns.length (i64 0)).toArray 3) = y6 at *
  have Bt0 : Blk (y6.alloc (.cells #[.slice (some ⟨nb, 0, none⟩) ns.length ns.length] 66)) (nb + 1) 66 [.slice (some ⟨nb, 0, none⟩) ns.length ns.length] := Blk.at zs6.symm
  have X7 : Ext [] y6 (y6.alloc (.cells #[.slice (some ⟨nb, 0, none⟩) ns.length ns.length] 66)) := Ext.alloc _ _ _
  have zs7 : (y6.alloc (.cells #[.slice (some ⟨nb, 0, none⟩) ns.length ns.length] 66)).heap.size = nb + 2 := by rw [World.size_alloc, zs6]
  have Bn1 := Bn0.ext X7 (by simp)
  generalize y6.alloc (.cells #[.slice (some ⟨nb, 0, none⟩) ns.length ns.length] 66) = y at *
  have X57 := X6.trans X7
  have F27 := F25.trans X57
  have Xy := X12.trans F27
  have B1y := B12.ext F27 (by simp)
  have B2y := B2.ext F27 (by simp)
  have zwy := X12.size
  have fresh : ∀ {w' : World}, Ext [nb] y w' → Ext [] w w' := fun F => Xy.new F (fun z hz => by simp only [List.mem_singleton] at hz; have := (X12.trans F25).size; omega)
  have Ra : ∀ {w' : World}, Ext [nb] y w' → RowAt w' ab (bls bs) := fun F => (Rb.ext0 X57).ext F fun b o hb hm => by
    have := Ub _ hb
    simp only [List.mem_singleton] at hm
    simp only at this
    omega
  have ne1 : g1 ∉ [nb] := by simp only [List.mem_singleton]; omega
  have net : nb + 1 ∉ [nb] := by simp only [List.mem_singleton]; omega
  refine xLoop_n bs.length (fun j => [i64 (rk bs j : Int), i64 (j : Int)]) (fun j w' => Ext [nb] y w' ∧ Blk w' nb 3 (its (noP bs j))) rfl ⟨Ext.refl _ _, Bn1⟩ ?_ ?_
  · rintro j hj u x1 hu ⟨F, B⟩ nxt hnx
    simp only [List.map_cons, List.map_nil, List.cons.injEq, and_true] at hu
    rw [hu.1, hu.2]
    obtain ⟨b, o, eab, _, cb2⟩ := (Ra F).at (i := j) (by simpa using hj)
    rw [List.getElem_map] at cb2
    have hrk := rk_le (bs := bs) j
    have hrs := rk_succ hj
    unfold graph_Trim_l1
    rw [eab]
    cases hb : bs[j] with
    | false =>
      rw [hb] at cb2 hrs
      have e : rk bs (j + 1) = rk bs j := by simpa using hrs
      simp (disch := (first | omega | decide | (simp only [rsD] <;> omega) | fail)) only [↓rsC, rsK, rsL, ↓rsTri2_0, tick_eq, tickV_eq, ne_eq, Int.reduceAdd, Int.reduceSub, Int.reduceMul, Int.reduceEq, Int.reduceLT, Int.reduceLE, Int.reduceToNat, Nat.reduceMul, Nat.reduceAdd, Nat.reduceSub, ←decide_not, k1, k3, k4, k5, cb2]
      unfold graph_Trim_j1
      simp (disch := (first | omega | decide | (simp only [rsD] <;> omega) | fail)) only [↓rsC, rsK, rsL, ↓rsTri2_0, tick_eq, tickV_eq, ne_eq, Int.reduceAdd, Int.reduceSub, Int.reduceMul, Int.reduceEq, Int.reduceLT, Int.reduceLE, Int.reduceToNat, Nat.reduceMul, Nat.reduceAdd, Nat.reduceSub, ←decide_not, k1, k3, k4, k5, cb2]
      rw [← e]
      exact hnx _ ⟨F, by rw [noP_off bs hj hb]; exact B⟩
    | true =>
      rw [hb] at cb2 hrs
      have e : (rk bs j : Int) + 1 = (rk bs (j + 1) : Int) := by
        simp only [if_true] at hrs
        omega
      have kt := fun i => (Bt0.ext F net).cell (i := i)
      have kn := fun i => B.cell (i := i)
      have fn := fun i => B.frozen (i := i)
      have cn : (its (noP bs j))[j]? = some (i64 0) := by
        rw [List.getElem?_map, noP, List.getElem?_map, List.getElem?_range hj]
        simp
      simp (disch := (first | omega | decide | (simp only [rsD] <;> omega) | fail)) only [↓rsC, rsK, rsL, ↓rsTri2_0, tick_eq, tickV_eq, ne_eq, Int.reduceAdd, Int.reduceSub, Int.reduceMul, Int.reduceEq, Int.reduceLT, Int.reduceLE, Int.reduceToNat, Nat.reduceMul, Nat.reduceAdd, Nat.reduceSub, ←decide_not, k1, k3, k4, k5, cb2, kt, kn, fn, cn]
      have B3 := B.set (i := j) (v := i64 ((rk bs j : Int) + 1))
      rw [← noP_on bs hj hb] at B3
      rw [e] at B3 ⊢
      unfold graph_Trim_j1
      simp (disch := (first | omega | decide | (simp only [rsD] <;> omega) | fail)) only [↓rsC, rsK, rsL, ↓rsTri2_0, tick_eq, tickV_eq, ne_eq, Int.reduceAdd, Int.reduceSub, Int.reduceMul, Int.reduceEq, Int.reduceLT, Int.reduceLE, Int.reduceToNat, Nat.reduceMul, Nat.reduceAdd, Nat.reduceSub, ←decide_not, k1, k3, k4, k5, cb2, kt, kn, fn, cn]
      exact hnx _ ⟨F.set' (.inl (by simp)), B3⟩
  rintro u x1 hu ⟨F, B⟩ nxt
  simp only [List.map_cons, List.map_nil, List.cons.injEq, and_true] at hu
  rw [hu.1, hu.2]
  rw [noP_all] at B
  have B11 := B1y.ext F ne1
  have Bt1 := Bt0.ext F net
  have k11 := fun i => B11.cell (i := i)
  have zg11 := B11.lt
  unfold graph_Trim_l1
  simp (disch := (first | omega | decide | (simp only [rsD] <;> omega) | fail)) only [↓rsC, rsK, rsL, ↓rsTri2_0, tick_eq, tickV_eq, ne_eq, Int.reduceAdd, Int.reduceSub, Int.reduceMul, Int.reduceEq, Int.reduceLT, Int.reduceLE, Int.reduceToNat, Nat.reduceMul, Nat.reduceAdd, Nat.reduceSub, ←decide_not, k1, k3, k4, k5, k11]
  obtain ⟨hx, hhx⟩ : ∃ g, g = x1.heap.size := ⟨_, rfl⟩
  have Bx0 : Blk (x1.alloc (.cells #[.slice none 0 0, .slice none 0 0] 25)) hx 25 [.slice none 0 0, .slice none 0 0] := Blk.at hhx
  have X8 : Ext [] x1 (x1.alloc (.cells #[.slice none 0 0, .slice none 0 0] 25)) := Ext.alloc _ _ _
  have zs8 : (x1.alloc (.cells #[.slice none 0 0, .slice none 0 0] 25)).heap.size = x1.heap.size + 1 := World.size_alloc _ _
  rw [← hhx] at zs8 ⊢
  have zB := B.lt
  have zBt := Bt1.lt
  have zF := F.size
  have Ry := Ra F
  have F8 := (fresh F).trans X8
  have B18 := B11.ext X8 (by simp)
  have B48 := (B2y.ext F (by simp only [List.mem_singleton]; omega)).ext X8 (by simp)
  have Bt8 := Bt1.ext X8 (by simp)
  have Bn8 := B.ext X8 (by simp)
  have Ry8 := Ry.ext0 X8
  have zw1 : w.heap.size ≤ x1.heap.size := (fresh F).size
  have ab8 : ∀ z, ab = some z → z.block < nb := fun z hz => by have := Ub z hz; omega
  generalize x1.alloc (.cells #[.slice none 0 0, .slice none 0 0] 25) = q at *
  have hlt : hx < q.heap.size := by omega
  have fresh2 : ∀ {w' : World}, Ext [hx] q w' → Ext [] w w' := fun F => F8.new F (fun z hz => by simp only [List.mem_singleton] at hz; omega)
  have nq1 : g1 ∉ [hx] := by simp only [List.mem_singleton]; omega
  have nq4 : g4 ∉ [hx] := by simp only [List.mem_singleton]; omega
  have nqt : nb + 1 ∉ [hx] := by simp only [List.mem_singleton]; omega
  have nqn : nb ∉ [hx] := by simp only [List.mem_singleton]; omega
  have Rq : ∀ {w' : World}, Ext [hx] q w' → RowAt w' ab (bls bs) := fun F => Ry8.ext F fun b o hb hm => by
    have := ab8 _ hb
    simp only [List.mem_singleton] at hm
    simp only at this
    omega
  have nilb : ∀ z, z ∉ blk (.slice none 0 0) := by simp [blk, Value.ownBlock]
  have hto : ∀ {w' : World}, Ext [hx] q w' → ∀ ps, FunTo w' (.func (.func n_graph_Trim_1) #[] #[ptr (nb + 1)]) ps (toB bs) := fun {w'} F ps => by
    refine funTo_trim (nb := nb) ?_ ?_ (by omega) ps
    · rw [hlen]
      exact Bt8.ext F nqt
    · exact (Bn8.ext F nqn).row
  refine xLoop_n ns.length (fun j => [i64 (j : Int)]) (fun j w' => Ext [hx] q w' ∧ ∃ v ns', ns'.map bare = sel (trN bs) (ns.take j) (bs.take j) ∧ OwnGN w' v ns' ∧ Blk w' hx 25 [v, .slice none 0 0] ∧ (∀ z ∈ blk v, q.heap.size ≤ z) ∧ ∀ x ∈ ns', NOk w' x ∧ Apt (hx :: blk v) x) rfl ⟨Ext.refl _ _, .slice none 0 0, [], by simp [sel], Own.nil, Bx0, fun z hz => absurd hz (nilb z), by simp⟩ ?_ ?_
  · rintro j hj u x2 hu ⟨F, v, ns', hns, O, B, U, A⟩ nxt2 hnx
    simp only [List.map_cons, List.map_nil, List.cons.injEq, and_true] at hu
    rw [hu]
    have hj' : j < bs.length := by omega
    obtain ⟨bn, on, ena, _, c1, c2⟩ := gn_at (h.nr.ext0 (fresh2 F)) hj
    obtain ⟨bb, ob, eab, _, cb2⟩ := (Rq F).at (i := j) (by simpa using hj')
    rw [List.getElem_map] at cb2
    have hst := sel_take (trN bs) ns bs j hj hj'
    have hnl : ns'.length ≤ 9000 := by
      have h1 := congrArg List.length hns
      rw [List.length_map, sel_len _ _ _ (by simp; omega)] at h1
      have h2 := List.countP_le_length (p := id) (l := bs.take j)
      rw [List.length_take] at h2
      omega
    have hxk := h.ok _ (List.getElem_mem hj)
    have lx := hf.x _ (List.getElem_mem hj)
    obtain ⟨a0, c0, hv0, _⟩ := O.slice
    subst hv0
    generalize ns[j] = x at *
    have zb2 := B.lt
    unfold graph_Trim_l2
    rw [ena, eab]
    cases hb : bs[j] with
    | false =>
      rw [hb] at cb2 hst
      have E9 : Ext [] x2 (x2.alloc (.cells #[.slice x.pa x.p.length x.pc, .slice x.da x.d.length x.dc] 72)) := Ext.alloc _ _ _
      simp (disch := (first | omega | decide | (simp only [rsD] <;> omega) | fail)) only [↓rsC, rsK, rsL, ↓rsTri2_0, tick_eq, tickV_eq, ne_eq, Int.reduceAdd, Int.reduceSub, Int.reduceMul, Int.reduceEq, Int.reduceLT, Int.reduceLE, Int.reduceToNat, Nat.reduceMul, Nat.reduceAdd, Nat.reduceSub, ←decide_not, k1, k3, k4, k5, k11, c1, c2, cb2]
      unfold graph_Trim_j2
      simp (disch := (first | omega | decide | (simp only [rsD] <;> omega) | fail)) only [↓rsC, rsK, rsL, ↓rsTri2_0, tick_eq, tickV_eq, ne_eq, Int.reduceAdd, Int.reduceSub, Int.reduceMul, Int.reduceEq, Int.reduceLT, Int.reduceLE, Int.reduceToNat, Nat.reduceMul, Nat.reduceAdd, Nat.reduceSub, ←decide_not, k1, k3, k4, k5, k11, c1, c2, cb2]
      exact hnx _ ⟨F.trans (E9.more (by simp)), _, ns', by rw [hns, hst]; simp, O.ext0 E9, B.ext E9 (by simp), U, fun x hx' => ⟨(A x hx').1.ext0 E9, (A x hx').2⟩⟩
    | true =>
      rw [hb] at cb2 hst
      have kb := fun i => B.cell (i := i)
      simp (disch := (first | omega | decide | (simp only [rsD] <;> omega) | fail)) only [↓rsC, rsK, rsL, ↓rsTri2_0, tick_eq, tickV_eq, ne_eq, Int.reduceAdd, Int.reduceSub, Int.reduceMul, Int.reduceEq, Int.reduceLT, Int.reduceLE, Int.reduceToNat, Nat.reduceMul, Nat.reduceAdd, Nat.reduceSub, ←decide_not, k1, k3, k4, k5, k11, c1, c2, cb2, kb]
      have E9 : Ext [] x2 (x2.alloc (.cells #[.slice x.pa x.p.length x.pc, .slice x.da x.d.length x.dc] 72)).drew := (Ext.alloc _ _ _).trans (Ext.drew [] _)
      generalize (x2.alloc (.cells #[.slice x.pa x.p.length x.pc, .slice x.da x.d.length x.dc] 72)).drew = x3 at *
      have F3 := F.trans (E9.more (by simp))
      refine graph_Node_apart_call (Yld.mono (apart_spec (hxk.ext0 (fresh2 F3)) lx (hto F3 x.p)) ?_)
      rintro u x4 ⟨F4, y', rfl, hyp, hyd, hyk, hfa, hfb⟩
      have F04 := F3.trans (F4.more (by simp))
      have E94 := E9.trans F4
      have B4 := B.ext E94 (by simp)
      have O4 := O.ext0 E94
      have zb4 := B4.lt
      have k4 := fun i => B4.cell (i := i)
      simp (disch := (first | omega | decide | (simp only [rsD] <;> omega) | fail)) only [↓rsC, rsK, rsL, ↓rsTri2_0, tick_eq, tickV_eq, ne_eq, Int.reduceAdd, Int.reduceSub, Int.reduceMul, Int.reduceEq, Int.reduceLT, Int.reduceLE, Int.reduceToNat, Nat.reduceMul, Nat.reduceAdd, Nat.reduceSub, ←decide_not, k1, k3, k4, k5, k11, c1, c2, cb2, kb]
      refine appGN O4 (x := y') rfl (by omega) fun v' x5 O5 T5 => ?_
      obtain ⟨F5, U5, n1, n2⟩ := grow F04 U hlt T5
      have B5 := B4.ext T5.ext n1
      obtain ⟨a3, c3, hv3, _⟩ := O5.slice
      have k5 := fun i => B5.cell (i := i)
      have f5 := fun i => B5.frozen (i := i)
      subst hv3
      simp (disch := (first | omega | decide | (simp only [rsD] <;> omega) | fail)) only [↓rsC, rsK, rsL, ↓rsTri2_0, tick_eq, tickV_eq, ne_eq, Int.reduceAdd, Int.reduceSub, Int.reduceMul, Int.reduceEq, Int.reduceLT, Int.reduceLE, Int.reduceToNat, Nat.reduceMul, Nat.reduceAdd, Nat.reduceSub, ←decide_not, k1, k3, k4, k5, k11, c1, c2, cb2, kb, f5]
      have B6 := B5.set (i := 0) (v := .slice a3 (ns' ++ [y']).length c3)
      have O6 := O5.ext (Ext.set (w := x5) (b := hx) (o := 0) (v := .slice a3 (ns' ++ [y']).length c3)) (fun z hz hm => by simp only [List.mem_singleton] at hm; subst hm; exact n2 hz)
      unfold graph_Trim_j2
      simp (disch := (first | omega | decide | (simp only [rsD] <;> omega) | fail)) only [↓rsC, rsK, rsL, ↓rsTri2_0, tick_eq, tickV_eq, ne_eq, Int.reduceAdd, Int.reduceSub, Int.reduceMul, Int.reduceEq, Int.reduceLT, Int.reduceLE, Int.reduceToNat, Nat.reduceMul, Nat.reduceAdd, Nat.reduceSub, ←decide_not, k1, k3, k4, k5, k11, c1, c2, cb2, kb, f5]
      refine hnx _ ⟨F5.set' (.inl (by simp)), _, ns' ++ [y'], ?_, O6, B6, U5, fun p hp => ?_⟩
      · rw [List.map_append, hns, hst]
        simp [bare, trN, hyp, hyd]
      · have z3x : x2.heap.size ≤ x3.heap.size := E9.size
        have hA : NOk x4 p ∧ Apt (hx :: blk (.slice a0 ns'.length c0)) p := by
          rcases List.mem_append.1 hp with hp | hp
          · exact ⟨(A p hp).1.ext0 E94, (A p hp).2⟩
          · rw [List.mem_singleton] at hp
            subst hp
            have hz2 := O.lt
            refine ⟨hyk, fun y hy _ hm => ?_, fun y hy _ hm => ?_⟩
            · have := hfa y hy
              rcases List.mem_cons.1 hm with e | e
              · omega
              · have := hz2 _ e; omega
            · have := hfb y hy
              rcases List.mem_cons.1 hm with e | e
              · omega
              · have := hz2 _ e; omega
        have hA2 := hA.1.ext (T5.ext.more (fun z hz => List.mem_cons_of_mem hx hz)) hA.2
        have hA3 : Apt (hx :: blk (.slice a3 (ns' ++ [y']).length c3)) p := hA.2.more hA.1 fun b hb => by
          rcases List.mem_cons.1 hb with e | e
          · exact .inl (by rw [e]; exact List.mem_cons_self ..)
          · exact (T5.at' b e).imp (List.mem_cons_of_mem _) id
        exact ⟨hA2.ext (Ext.set.more (by simp)) hA3, hA3⟩
  rintro u x2 hu ⟨F2, v, ns', hns, O, B2x, U, A⟩ nxt2
  simp only [List.map_cons, List.map_nil, List.cons.injEq, and_true] at hu
  rw [hu]
  have hns : ns'.map bare = trNs ns bs := by
    rw [hns, List.take_length, ← hlen, List.take_length]
    rfl
  have kq1 := fun i => (B18.ext F2 nq1).cell (i := i)
  unfold graph_Trim_l2
  simp (disch := (first | omega | decide | (simp only [rsD] <;> omega) | fail)) only [↓rsC, rsK, rsL, ↓rsTri2_0, tick_eq, tickV_eq, ne_eq, Int.reduceAdd, Int.reduceSub, Int.reduceMul, Int.reduceEq, Int.reduceLT, Int.reduceLE, Int.reduceToNat, Nat.reduceMul, Nat.reduceAdd, Nat.reduceSub, ←decide_not, k1, k3, k4, k5, k11, kq1]
  refine xLoop_n rs.length (fun j => [i64 (j : Int)]) (fun j w' => Ext [hx] q w' ∧ OwnGN w' v ns' ∧ ∃ v2, OwnGR w' v2 ((trRs rs bs).take j) ∧ Blk w' hx 25 [v, v2] ∧ (∀ z ∈ blk v2, q.heap.size ≤ z) ∧ (∀ z ∈ blk v2, z ∉ blk v) ∧ ∀ x ∈ ns', NOk w' x ∧ Apt (hx :: (blk v ++ blk v2)) x) rfl ⟨F2, O, .slice none 0 0, Own.nil, B2x, fun z hz => absurd hz (nilb z), fun z hz => absurd hz (nilb z), fun x hx' => ⟨(A x hx').1, by have := (A x hx').2; simpa [blk, Value.ownBlock] using this⟩⟩ ?_ ?_
  · rintro j hj u x1 hu ⟨F, O, v2, R, B, U2, D, A⟩ nxt3 hnx
    simp only [List.map_cons, List.map_nil, List.cons.injEq, and_true] at hu
    rw [hu]
    obtain ⟨a0, c0', hv0, _⟩ := R.slice
    subst hv0
    have hlr : (trRs rs bs).length = rs.length := by simp [trRs]
    have hlenj : ((trRs rs bs).take j).length = j := by rw [List.length_take]; omega
    obtain ⟨br, or', era, _, c1, c2⟩ := gr_at (h.rr.ext0 (fresh2 F)) hj
    have hsu : (trRs rs bs).take (j + 1) = (trRs rs bs).take j ++ [⟨rs[j].s, toB bs rs[j].to⟩] := by
      rw [List.take_add_one, List.getElem?_eq_getElem (by omega)]
      simp [trRs]
    generalize rs[j] = r at *
    have kb := fun i => B.cell (i := i)
    have zb := B.lt
    unfold graph_Trim_l3
    rw [era]
    simp (disch := (first | omega | decide | (simp only [rsD] <;> omega) | fail)) only [↓rsC, rsK, rsL, ↓rsTri2_0, tick_eq, tickV_eq, ne_eq, Int.reduceAdd, Int.reduceSub, Int.reduceMul, Int.reduceEq, Int.reduceLT, Int.reduceLE, Int.reduceToNat, Nat.reduceMul, Nat.reduceAdd, Nat.reduceSub, ←decide_not, k1, k3, k4, k5, k11, kq1, c1, c2, kb]
    have E9 : Ext [] x1 (x1.alloc (.cells #[.string (strOf r.s), i64 r.to] 74)).drew := (Ext.alloc _ _ _).trans (Ext.drew [] _)
    have Brr := (Blk.at (w := x1) (e := 74) (cs := [.string (strOf r.s), i64 r.to]) rfl).ext (Ext.drew [] _) (by simp)
    generalize (x1.alloc (.cells #[.string (strOf r.s), i64 r.to] 74)).drew = x3 at *
    have F3 := F.trans (E9.more (by simp))
    refine hto F3 [r.to] _ r.to _ (Ext.refl _ _) (by simp) fun x4 F4 => ?_
    have F04 := F3.trans (F4.more (by simp))
    have E94 := E9.trans F4
    have B4 := B.ext E94 (by simp)
    have Br4 := Brr.ext F4 (by simp)
    have R4' := R.ext0 E94
    have O4 := O.ext0 E94
    have zb4 := B4.lt
    have k4 := fun i => B4.cell (i := i)
    have k4r := fun i => Br4.cell (i := i)
    simp (disch := (first | omega | decide | (simp only [rsD] <;> omega) | fail)) only [↓rsC, rsK, rsL, ↓rsTri2_0, tick_eq, tickV_eq, ne_eq, Int.reduceAdd, Int.reduceSub, Int.reduceMul, Int.reduceEq, Int.reduceLT, Int.reduceLE, Int.reduceToNat, Nat.reduceMul, Nat.reduceAdd, Nat.reduceSub, ←decide_not, k1, k3, k4, k5, k11, kq1, c1, c2, kb, k4r]
    refine appGR R4' (x := ⟨r.s, toB bs r.to⟩) rfl (by omega) fun v' x5 R5 T5 => ?_
    obtain ⟨F5, U5, n1, n2⟩ := grow F04 U2 hlt T5
    have B5 := B4.ext T5.ext n1
    have O5 := O4.ext T5.ext (fun z hz hm => D z hm hz)
    obtain ⟨a3, c3, hv3, _⟩ := R5.slice
    have k5 := fun i => B5.cell (i := i)
    have f5 := fun i => B5.frozen (i := i)
    rw [← hsu] at R5 hv3
    subst hv3
    simp (disch := (first | omega | decide | (simp only [rsD] <;> omega) | fail)) only [↓rsC, rsK, rsL, ↓rsTri2_0, tick_eq, tickV_eq, ne_eq, Int.reduceAdd, Int.reduceSub, Int.reduceMul, Int.reduceEq, Int.reduceLT, Int.reduceLE, Int.reduceToNat, Nat.reduceMul, Nat.reduceAdd, Nat.reduceSub, ←decide_not, k1, k3, k4, k5, k11, kq1, c1, c2, kb, k4r, f5]
    have B6 := B5.set (i := 1) (v := .slice a3 ((trRs rs bs).take (j + 1)).length c3)
    have hxv : hx ∉ blk v := fun hm => by have := U _ hm; omega
    have D5 : ∀ z ∈ blk (.slice a3 ((trRs rs bs).take (j + 1)).length c3), z ∉ blk v := fun z hz hm => by
      rcases T5.at' z hz with h1 | h1
      · exact D z h1 hm
      · have := O4.lt z hm
        omega
    have R6 := R5.ext (Ext.set (w := x5) (b := hx) (o := 1) (v := .slice a3 ((trRs rs bs).take (j + 1)).length c3)) (fun z hz hm => by simp only [List.mem_singleton] at hm; subst hm; exact n2 hz)
    have O6 := O5.ext (Ext.set (w := x5) (b := hx) (o := 1) (v := .slice a3 ((trRs rs bs).take (j + 1)).length c3)) (fun z hz hm => by simp only [List.mem_singleton] at hm; subst hm; exact hxv hz)
    refine hnx _ ⟨F5.set' (.inl (by simp)), O6, _, R6, B6, U5, D5, fun q' hq => ?_⟩
    have hA : NOk x4 q' ∧ Apt (hx :: (blk v ++ blk (.slice a0 ((trRs rs bs).take j).length c0'))) q' := ⟨(A q' hq).1.ext0 E94, (A q' hq).2⟩
    have hA2 := hA.1.ext (T5.ext.more (fun z hz => List.mem_cons_of_mem hx (List.mem_append_right _ hz))) hA.2
    have hA3 : Apt (hx :: (blk v ++ blk (.slice a3 ((trRs rs bs).take (j + 1)).length c3))) q' := hA.2.more hA.1 fun b hb => by
      rcases List.mem_cons.1 hb with e | e
      · exact .inl (by rw [e]; exact List.mem_cons_self ..)
      · rcases List.mem_append.1 e with e | e
        · exact .inl (List.mem_cons_of_mem _ (List.mem_append_left _ e))
        · exact (T5.at' b e).imp (fun h => List.mem_cons_of_mem _ (List.mem_append_right _ h)) id
    exact ⟨hA2.ext (Ext.set.more (by simp)) hA3, hA3⟩
  rintro u x1 hu ⟨F, O, v2, R, B, U2, D, A⟩ nxt3
  simp only [List.map_cons, List.map_nil, List.cons.injEq, and_true] at hu
  rw [hu]
  have etk : (trRs rs bs).take rs.length = trRs rs bs := List.take_of_length_le (by simp [trRs])
  rw [etk] at R
  obtain ⟨na', nc', hvn, hnc, _, hnn, Rn, _⟩ := O.slice
  obtain ⟨ra', rc', hvr, hrc, _, hrn, Rr, _⟩ := R.slice
  subst hvn hvr
  have Ed := Ext.drew [] x1
  have Fd := F.trans (Ed.more (by simp))
  have B01 := B48.ext Fd nq4
  have Bxd := B.ext Ed (by simp)
  have Btd := Bt8.ext Fd nqt
  have kx := fun i => Bxd.cell (i := i)
  have k01 := fun i => B01.cell (i := i)
  have f01 := fun i => B01.frozen (i := i)
  have kt := fun i => Btd.cell (i := i)
  have g4t : g4 ≠ nb + 1 := by omega
  have nbt : nb + 1 ≠ g4 := by omega
  have hxlt := B.lt
  unfold graph_Trim_l3
  simp (disch := (first | omega | decide | (simp only [rsD] <;> omega) | fail)) only [↓rsC, rsK, rsL, ↓rsTri2_0, tick_eq, tickV_eq, ne_eq, Int.reduceAdd, Int.reduceSub, Int.reduceMul, Int.reduceEq, Int.reduceLT, Int.reduceLE, Int.reduceToNat, Nat.reduceMul, Nat.reduceAdd, Nat.reduceSub, ←decide_not, k1, k3, k4, k5, k11, kq1, kx, k01, f01, kt, g4t, nbt]
  have FE : Ext [g4] x1 ((x1.drew.setCell ⟨g4, 0, none⟩ (.slice na' ns'.length nc')).setCell ⟨g4, 1, none⟩ (.slice ra' (trRs rs bs).length rc')) := ((Ext.drew _ _).set' (.inl (by simp))).set' (.inl (by simp))
  have zw4 : w.heap.size ≤ g4 := by omega
  have Fw := fresh2 F
  refine ⟨((Fw.trans Ed).set' (.inr zw4)).set' (.inr zw4), bs, na', nc', ra', rc', ns', _, hbs, hns, rfl, ?_, some ⟨nb, 0, none⟩, ns.length, rfl, Nat.le_refl _, ?_⟩
  · have nna : ∀ b o, na' = some ⟨b, o, none⟩ → b ∉ [g4] := fun b o hb hm => by
      have := U b (by rw [hb]; simp [blk, Value.ownBlock])
      simp only [List.mem_singleton] at hm
      omega
    have nra : ∀ b o, ra' = some ⟨b, o, none⟩ → b ∉ [g4] := fun b o hb hm => by
      have := U2 b (by rw [hb]; simp [blk, Value.ownBlock])
      simp only [List.mem_singleton] at hm
      omega
    refine ⟨Rn.ext FE nna, hnc, hnn, Rr.ext FE nra, hrc, hrn, fun x hx' => ?_⟩
    have hA := A x hx'
    have hA2 := hA.2.cons hA.1 (B48.ext F nq4) (by simp)
    exact hA.1.ext (FE.more (by simp)) hA2
  · exact (Bn8.ext F nqn).row.ext FE fun b o hb hm => by
      cases hb
      simp only [List.mem_singleton] at hm
      omega
end Go.Proofs.Ytdpmidgeipibbaa
end
section
set_option linter.unusedVariables false
set_option linter.unusedSimpArgs false
set_option maxHeartbeats 4000000
namespace Go.Proofs.Ytdpmidgeipibbaa
open Go.Sh Go.RowKit

theorem zero_bl (w : World) : (zeroValue 4).run Try.prog w = .ok (.bool false) w := by kernel_rfl
theorem zero_in (w : World) : (zeroValue 3).run Try.prog w = .ok (i64 0) w := by kernel_rfl
abbrev seenL (out : List Int) : List (Int × Value) := out.map fun p => (p, .bool true)
theorem mget_seen (out : List Int) (p : Int) : (mget (seenL out) p).getD (.bool false) = .bool (decide (p ∈ out)) := by
  by_cases h : p ∈ out
  · obtain ⟨v, hv⟩ := mget_in (l := seenL out) (i := p) ⟨(p, .bool true), List.mem_map.2 ⟨p, h, rfl⟩, rfl⟩
    obtain ⟨q, hq, h1, h2⟩ := mget_some hv
    obtain ⟨x, _, rfl⟩ := List.mem_map.1 hq
    rw [hv, decide_eq_true h, ← h2]
    rfl
  · rw [mget_none (fun q hq e => by
      obtain ⟨x, hx, rfl⟩ := List.mem_map.1 hq
      simp only at e
      subst e
      exact h hx), decide_eq_false h]
    rfl
structure OrdS (y w : World) (b4 r : Nat) (out : List Int) : Prop where
  F : Ext [b4, r] y w
  B : ∃ v, Blk w b4 66 [v] ∧ OwnIt w v out ∧ ∀ z ∈ blk v, y.heap.size ≤ z
  M : MapIs w r (seenL out)
theorem OrdS.ext0 {y w w' : World} {b4 r : Nat} {out : List Int} (h : OrdS y w b4 r out) (hx : Ext [] w w') : OrdS y w' b4 r out := by
  obtain ⟨v, h1, h2, h3⟩ := h.B
  exact ⟨h.F.trans (hx.more (by simp)), ⟨v, h1.ext hx (by simp), h2.ext0 hx, h3⟩, h.M.ext0 hx⟩
abbrev rsCan1_0 := (And.intro @xu8_com (And.intro @xu8_leq (And.intro @xu8_geq (And.intro @xu16_com (And.intro @xu16_leq (And.intro @xu16_geq (And.intro @xu32_com (And.intro @xu32_leq (And.intro @xu32_geq (And.intro @xu64_com (And.intro @xu64_leq (And.intro @xu64_geq (And.intro @xi64_leq (And.intro @xi64_geq (And.intro @ld_22 (And.intro @ld_66 
  (And.intro @ld_194 (And.intro @fa_25_0 (And.intro @st_66 (And.intro @ln_22 (And.intro @bs_66_0 @bs_66_1)))))))))))))))))))))
theorem add_call {y w : World} {na ra : Option Addr} {nc rc : Nat} {ns : List GN} {rs : List GR} {g1 b3 b4 r : Nat} {out : List Int} (h : OrdS y w b4 r out) (hB1 : Blk y g1 25 [.slice na ns.length nc, .slice ra rs.length rc]) (hB3 : Blk y b3 194 [.map (some r)])
    (h13 : g1 ≠ b4 ∧ g1 ≠ r ∧ b3 ≠ b4 ∧ b3 ≠ r ∧ b4 ≠ r ∧ b4 < y.heap.size ∧ r < y.heap.size) (hn : ns.length ≤ 9000) (ho : out.length ≤ 9000) (p : Int) {K : K1} (hK : ∀ w', OrdS y w' b4 r (addN ns.length out p) → K (.tuple #[]) w') :
    xCall Try.prog (.func (.func n_canon_Order_1) #[] #[ptr g1, ptr b3, ptr b4]) [i64 p] w K := by
  refine canon_Order_1_callc (show Yld Try.prog n_canon_Order_1 #[i64 p, ptr g1, ptr b3, ptr b4] w K from ?_)
  refine canon_Order_1_of ?_
  unfold canon_Order_1
  have F := h.F
  obtain ⟨v, B, O, U⟩ := h.B
  have k1 := fun i => (hB1.ext F (by simp only [List.mem_cons, List.not_mem_nil, or_false]; omega)).cell (i := i)
  have B3 := hB3.ext F (by simp only [List.mem_cons, List.not_mem_nil, or_false]; omega)
  have k3 := fun i => B3.cell (i := i)
  have hlk := fun (K : K1) => xLookup_v (P := Try.prog) (K := K) (t := 194) (kt := 3) (et := 4) (by kernel_rfl) (by kernel_rfl) (zero_bl w) h.M p
  rw [mget_seen] at hlk
  by_cases h1 : 1 ≤ p
  case neg =>
    have e : addN ns.length out p = out := by unfold addN; rw [if_neg (fun h => h1 h.1.1)]
    rw [e] at hK
    simp (disch := (first | omega | decide | (simp only [rsD] <;> omega) | fail)) only [↓rsC, rsK, rsL, ↓rsCan1_0, tick_eq, tickV_eq, ne_eq, Int.reduceAdd, Int.reduceSub, Int.reduceMul, Int.reduceEq, Int.reduceLT, Int.reduceLE, Int.reduceToNat, Nat.reduceMul, Nat.reduceAdd, Nat.reduceSub, ←decide_not, h1]
    exact hK w h
  by_cases h2 : p ≤ (ns.length : Int)
  case neg =>
    have e : addN ns.length out p = out := by unfold addN; rw [if_neg (fun h => h2 h.1.2)]
    rw [e] at hK
    simp (disch := (first | omega | decide | (simp only [rsD] <;> omega) | fail)) only [↓rsC, rsK, rsL, ↓rsCan1_0, tick_eq, tickV_eq, ne_eq, Int.reduceAdd, Int.reduceSub, Int.reduceMul, Int.reduceEq, Int.reduceLT, Int.reduceLE, Int.reduceToNat, Nat.reduceMul, Nat.reduceAdd, Nat.reduceSub, ←decide_not, h1, k1, h2]
    exact hK w h
  by_cases hm : p ∈ out
  · have e : addN ns.length out p = out := by unfold addN; rw [if_neg (fun h => h.2 hm)]
    rw [e] at hK
    rw [decide_eq_true hm] at hlk
    simp (disch := (first | omega | decide | (simp only [rsD] <;> omega) | fail)) only [↓rsC, rsK, rsL, ↓rsCan1_0, tick_eq, tickV_eq, ne_eq, Int.reduceAdd, Int.reduceSub, Int.reduceMul, Int.reduceEq, Int.reduceLT, Int.reduceLE, Int.reduceToNat, Nat.reduceMul, Nat.reduceAdd, Nat.reduceSub, ←decide_not, h1, k1, h2, k3, hlk]
    exact hK w h
  have e : addN ns.length out p = out ++ [p] := by unfold addN; rw [if_pos ⟨⟨h1, h2⟩, hm⟩]
  rw [e] at hK
  rw [decide_eq_false hm] at hlk
  simp (disch := (first | omega | decide | (simp only [rsD] <;> omega) | fail)) only [↓rsC, rsK, rsL, ↓rsCan1_0, tick_eq, tickV_eq, ne_eq, Int.reduceAdd, Int.reduceSub, Int.reduceMul, Int.reduceEq, Int.reduceLT, Int.reduceLE, Int.reduceToNat, Nat.reduceMul, Nat.reduceAdd, Nat.reduceSub, ←decide_not, h1, k1, h2, k3, hlk]
  refine xMapUpdate_new (kt := 3) (et := 4) (by kernel_rfl) (by kernel_rfl) h.M (fun q hq e => by
    obtain ⟨x, hx, rfl⟩ := List.mem_map.1 hq
    simp only at e
    subst e
    exact hm hx) fun w1 M1 F1 => ?_
  obtain ⟨a0, c0, hv0, _⟩ := O.slice
  subst hv0
  have hrv : r ∉ blk (.slice a0 out.length c0) := fun hm => by have := U r hm; omega
  have hbv : b4 ∉ blk (.slice a0 out.length c0) := fun hm => by have := U b4 hm; omega
  have B1 := B.ext F1 (by simp only [List.mem_singleton]; omega)
  have O1 := O.ext F1 (fun z hz hm => by simp only [List.mem_singleton] at hm; subst hm; exact hrv hz)
  have F01 := F.cut F1 (fun z hz => .inl (by simp only [List.mem_singleton] at hz; subst hz; simp))
  have kb := fun i => B1.cell (i := i)
  have zb1 := B1.lt
  have zF := F01.size
  simp (disch := (first | omega | decide | (simp only [rsD] <;> omega) | fail)) only [↓rsC, rsK, rsL, ↓rsCan1_0, tick_eq, tickV_eq, ne_eq, Int.reduceAdd, Int.reduceSub, Int.reduceMul, Int.reduceEq, Int.reduceLT, Int.reduceLE, Int.reduceToNat, Nat.reduceMul, Nat.reduceAdd, Nat.reduceSub, ←decide_not, h1, k1, h2, k3, hlk, kb]
  refine appIt O1 rfl (by omega) fun v' w5 O5 T5 => ?_
  have up : ∀ z ∈ blk v', y.heap.size ≤ z := fun z hz => by
    rcases T5.at' z hz with h | h
    · exact U z h
    · omega
  have hbv' : b4 ∉ blk v' := fun hm => by have := up b4 hm; omega
  have B5 := B1.ext T5.ext hbv
  have M5 := M1.ext T5.ext hrv
  have F5 := F01.cut T5.ext (fun z hz => .inr (U z hz))
  obtain ⟨a3, c3, hv3, _⟩ := O5.slice
  have k5 := fun i => B5.cell (i := i)
  have f5 := fun i => B5.frozen (i := i)
  subst hv3
  simp (disch := (first | omega | decide | (simp only [rsD] <;> omega) | fail)) only [↓rsC, rsK, rsL, ↓rsCan1_0, tick_eq, tickV_eq, ne_eq, Int.reduceAdd, Int.reduceSub, Int.reduceMul, Int.reduceEq, Int.reduceLT, Int.reduceLE, Int.reduceToNat, Nat.reduceMul, Nat.reduceAdd, Nat.reduceSub, ←decide_not, h1, k1, h2, k3, hlk, kb, k5, f5]
  have E6 : Ext [b4] w5 (w5.setCell ⟨b4, 0, none⟩ (.slice a3 (out ++ [p]).length c3)) := Ext.set
  refine hK _ ⟨F5.set' (.inl (by simp)), ⟨_, B5.set (i := 0) (v := .slice a3 (out ++ [p]).length c3), O5.ext E6 (fun z hz hm => by simp only [List.mem_singleton] at hm; subst hm; exact hbv' hz), up⟩, ?_⟩
  have := M5.ext E6 (by simp only [List.mem_singleton]; omega)
  show MapIs _ r (seenL (out ++ [p]))
  rw [seenL, List.map_append]
  exact this
theorem addL_snoc (n : Nat) (out ps : List Int) (p : Int) : addL n out (ps ++ [p]) = addN n (addL n out ps) p := by
  unfold addL
  rw [List.foldl_append]
  rfl
theorem addL_len (n : Nat) : ∀ (ps out : List Int), out.length ≤ (addL n out ps).length
  | [], _ => Nat.le_refl _
  | p :: ps, out => by
    have h1 := addL_len n ps (addN n out p)
    have h2 : out.length ≤ (addN n out p).length := by
      unfold addN
      split
      · simp
      · exact Nat.le_refl _
    have e : addL n out (p :: ps) = addL n (addN n out p) ps := rfl
    rw [e]
    omega
abbrev rsCan1_1 := (And.intro @xu8_add (And.intro @xu8_sub (And.intro @xu8_lss (And.intro @xu16_add (And.intro @xu16_sub (And.intro @xu16_lss (And.intro @xu32_add (And.intro @xu32_sub (And.intro @xu32_lss (And.intro @xu64_add (And.intro @xu64_sub (And.intro @xu64_lss (And.intro @xi64_lss (And.intro @ld_3 (And.intro @ld_22 (And.intro @ld_23 (And.intro @ld_66 
  (And.intro @ld_74 (And.intro @fa_25_0 (And.intro @fa_25_1 (And.intro @fa_72_0 (And.intro @fa_74_1 (And.intro @al_66 (And.intro @al_74 (And.intro @al_194 (And.intro @st_74 (And.intro @st_194 (And.intro @ia_22 (And.intro @ia_23 (And.intro @ia_66 (And.intro @ln_23 @ln_66)))))))))))))))))))))))))))))))
theorem Order_spec {w : World} {na ra : Option Addr} {nc rc : Nat} {ns : List GN} {rs : List GR} (h : GIs w na nc ra rc ns rs) (hf : FewH ns rs) :
    Yld Try.prog n_canon_Order #[gV na nc ra rc ns rs] w fun u w' => Ext [] w w' ∧ ∃ a, u = .slice a (ordV ns (tosL rs)).length (ordV ns (tosL rs)).length ∧ RowAt w' a (its (ordV ns (tosL rs))) ∧ ∀ z, a = some z → w.heap.size ≤ z.block := by
  have hfn := hf.n
  have hfr := hf.r
  refine canon_Order_of ?_
  unfold canon_Order
  have gbox : ∀ (y : World) (K : K1), xBox Try.prog 25 (gV na nc ra rc ns rs) y K = K (ptr y.heap.size) (y.alloc (.cells #[.slice na ns.length nc, .slice ra rs.length rc] 25)) := fun y K => xBox_r
  rw [gbox]
  have B1 : Blk (w.alloc (.cells #[.slice na ns.length nc, .slice ra rs.length rc] 25)) w.heap.size 25 [.slice na ns.length nc, .slice ra rs.length rc] := Blk.at rfl
  have X1 : Ext [] w (w.alloc (.cells #[.slice na ns.length nc, .slice ra rs.length rc] 25)) := Ext.alloc _ _ _
  generalize w.alloc (.cells #[.slice na ns.length nc, .slice ra rs.length rc] 25) = y1 at *
  obtain ⟨g1, hg1⟩ : ∃ g, g = w.heap.size := ⟨_, rfl⟩
  rw [← hg1] at B1 ⊢
  have g1lt := B1.lt
  have k1 := fun i => B1.cell (i := i)
  have hm := fun (K : K1) (w : World) => xMakeMap_r (P := Try.prog) (w := w) (K := K) (t := 194)
  simp (disch := (first | omega | decide | (simp only [rsD] <;> omega) | fail)) only [↓rsC, rsK, rsL, ↓rsCan1_1, tick_eq, tickV_eq, ne_eq, Int.reduceAdd, Int.reduceSub, Int.reduceMul, Int.reduceEq, Int.reduceLT, Int.reduceLE, Int.reduceToNat, Nat.reduceMul, Nat.reduceAdd, Nat.reduceSub, ←decide_not, hm, k1]
  simp only [size_sets, World.size_alloc]
  have Mr0 := MapIs.new y1
  have Xm : Ext [] y1 (y1.alloc (.map #[] 0)) := Ext.alloc _ _ _
  have zm : (y1.alloc (.map #[] 0)).heap.size = y1.heap.size + 1 := World.size_alloc _ _
  generalize y1.alloc (.map #[] 0) = ym at *
  have Bb0 : Blk (ym.alloc (.cells #[.map none] 194)) (y1.heap.size + 1) 194 [.map none] := Blk.at zm.symm
  have Xb : Ext [] ym (ym.alloc (.cells #[.map none] 194)) := Ext.alloc _ _ _
  have zb : (ym.alloc (.cells #[.map none] 194)).heap.size = y1.heap.size + 2 := by rw [World.size_alloc, zm]
  generalize ym.alloc (.cells #[.map none] 194) = yb at *
  have Bb1 : Blk (yb.setCells (y1.heap.size + 1) 0 (Value.map (some y1.heap.size)).cells.toList) (y1.heap.size + 1) 194 [.map (some y1.heap.size)] := Bb0.put (cs := [.map (some y1.heap.size)]) rfl
  have Eb : Ext [y1.heap.size + 1] yb (yb.setCells (y1.heap.size + 1) 0 (Value.map (some y1.heap.size)).cells.toList) := Ext.sets (Ext.refl _ _) (.inl (by simp))
  have zc : (yb.setCells (y1.heap.size + 1) 0 (Value.map (some y1.heap.size)).cells.toList).heap.size = y1.heap.size + 2 := by rw [size_sets, zb]
  have X1c : Ext [] y1 (yb.setCells (y1.heap.size + 1) 0 (Value.map (some y1.heap.size)).cells.toList) := (Xm.trans Xb).sets (.inr (by omega))
  have Mr1 := (Mr0.ext0 Xb).ext Eb (by simp)
  generalize yb.setCells (y1.heap.size + 1) 0 (Value.map (some y1.heap.size)).cells.toList = yc at *
  have B40 : Blk (yc.alloc (.cells #[.slice none 0 0] 66)) (y1.heap.size + 2) 66 [.slice none 0 0] := Blk.at zc.symm
  have Xd : Ext [] yc (yc.alloc (.cells #[.slice none 0 0] 66)) := Ext.alloc _ _ _
  have zd : (yc.alloc (.cells #[.slice none 0 0] 66)).heap.size = y1.heap.size + 3 := by rw [World.size_alloc, zc]
  generalize yc.alloc (.cells #[.slice none 0 0] 66) = y at *
  have X1y := X1c.trans Xd
  have B1y := B1.ext X1y (by simp)
  have B3y := Bb1.ext Xd (by simp)
  have Mry := Mr1.ext0 Xd
  have zw := X1.size
  generalize y1.heap.size = r at *
  have nilb : ∀ z, z ∉ blk (.slice none 0 0) := by simp [blk, Value.ownBlock]
  have S0 : OrdS y y (r + 2) r [] := ⟨Ext.refl _ _, ⟨_, B40, Own.nil, fun z hz => absurd hz (nilb z)⟩, Mry⟩
  have hne : g1 ≠ r + 2 ∧ g1 ≠ r ∧ r + 1 ≠ r + 2 ∧ r + 1 ≠ r ∧ r + 2 ≠ r ∧ r + 2 < y.heap.size ∧ r < y.heap.size := by omega
  have hadd : ∀ {w' : World} {out : List Int} (S : OrdS y w' (r + 2) r out) (ho : OutOk ns.length out) (p : Int) {K : K1} (hK : ∀ w', OrdS y w' (r + 2) r (addN ns.length out p) → K (.tuple #[]) w'), xCall Try.prog (.func (.func n_canon_Order_1) #[] #[ptr g1, ptr (r + 1), ptr (r + 2)]) [i64 p] w' K := fun S ho p K hK => add_call S B1y B3y hne hfn (by have := ho.len; omega) p hK
  have Xw := X1.trans X1y
  have fresh : ∀ {w' : World} {out : List Int}, OrdS y w' (r + 2) r out → Ext [] w w' := fun S => Xw.new S.F (fun z hz => by simp only [List.mem_cons, List.not_mem_nil, or_false] at hz; omega)
  have ne1 : g1 ∉ [r + 2, r] := by simp only [List.mem_cons, List.not_mem_nil, or_false]; omega
  refine xLoop_n rs.length (fun j => [i64 (j : Int)]) (fun j w' => OrdS y w' (r + 2) r (addL ns.length [] ((tosL rs).take j)) ∧ OutOk ns.length (addL ns.length [] ((tosL rs).take j))) rfl ⟨by simpa [addL] using S0, OutOk.addL _ OutOk.nil⟩ ?_ ?_
  · rintro j hj u x1 hu ⟨S, hO⟩ nxt hnx
    simp only [List.map_cons, List.map_nil, List.cons.injEq, and_true] at hu
    rw [hu]
    obtain ⟨br, or', era, _, c1, c2⟩ := gr_at (h.rr.ext0 (fresh S)) hj
    have hsu : (tosL rs).take (j + 1) = (tosL rs).take j ++ [rs[j].to] := by
      rw [List.take_add_one, List.getElem?_eq_getElem (by simpa using hj)]
      simp
    generalize rs[j] = q at *
    unfold canon_Order_l1
    rw [era]
    simp (disch := (first | omega | decide | (simp only [rsD] <;> omega) | fail)) only [↓rsC, rsK, rsL, ↓rsCan1_1, tick_eq, tickV_eq, ne_eq, Int.reduceAdd, Int.reduceSub, Int.reduceMul, Int.reduceEq, Int.reduceLT, Int.reduceLE, Int.reduceToNat, Nat.reduceMul, Nat.reduceAdd, Nat.reduceSub, ←decide_not, hm, k1, c1, c2]
    have S2 := S.ext0 (Ext.alloc [] x1 (.cells #[.string (strOf q.s), i64 q.to] 74))
    refine hadd S2 hO q.to fun x2 S3 => ?_
    simp (disch := (first | omega | decide | (simp only [rsD] <;> omega) | fail)) only [↓rsC, rsK, rsL, ↓rsCan1_1, tick_eq, tickV_eq, ne_eq, Int.reduceAdd, Int.reduceSub, Int.reduceMul, Int.reduceEq, Int.reduceLT, Int.reduceLE, Int.reduceToNat, Nat.reduceMul, Nat.reduceAdd, Nat.reduceSub, ←decide_not, hm, k1, c1, c2]
    refine hnx _ ⟨?_, OutOk.addL _ OutOk.nil⟩
    rw [hsu, addL_snoc]
    exact S3
  · rintro u x1 hu ⟨S, hO⟩ nxt
    simp only [List.map_cons, List.map_nil, List.cons.injEq, and_true] at hu
    rw [hu]
    have etk : (tosL rs).take rs.length = tosL rs := by rw [show rs.length = (tosL rs).length by simp, List.take_length]
    rw [etk] at S hO
    unfold canon_Order_l1
    simp (disch := (first | omega | decide | (simp only [rsD] <;> omega) | fail)) only [↓rsC, rsK, rsL, ↓rsCan1_1, tick_eq, tickV_eq, ne_eq, Int.reduceAdd, Int.reduceSub, Int.reduceMul, Int.reduceEq, Int.reduceLT, Int.reduceLE, Int.reduceToNat, Nat.reduceMul, Nat.reduceAdd, Nat.reduceSub, ←decide_not, hm, k1]
    have hord : ∀ out i f, OutOk ns.length out → ns.length < i + f → ordV ns (tosL rs) = bfs ns f i out → out.length ≤ i → ordV ns (tosL rs) = out := fun out i f _ _ h1 h2 => by rw [h1, bfs_end h2]
    refine xLoop_r (ns.length + 1) (fun i vs w' => ∃ out, vs = [i64 (i : Int)] ∧ OrdS y w' (r + 2) r out ∧ OutOk ns.length out ∧ i ≤ out.length ∧ ordV ns (tosL rs) = bfs ns (ns.length + 1 - i) i out) ⟨_, rfl, S, hO, Nat.zero_le _, rfl⟩ ?_ ?_
    rotate_left
    · rintro u x2 ⟨out, hu, S2, hO2, hi, he⟩ nxt2
      have := hO2.len
      omega
    rintro i hi u x2 ⟨out, hu, S2, hO2, hil, he⟩ nxt2 hnx2
    simp only [List.map_cons, List.map_nil, List.cons.injEq, and_true] at hu
    rw [hu]
    have hol := hO2.len
    obtain ⟨v, B, O, U⟩ := S2.B
    obtain ⟨a0, c0, hv0, hc0, _, _, R0, _⟩ := O.slice
    subst hv0
    have kb := fun i => B.cell (i := i)
    unfold canon_Order_l2
    by_cases hlt : i < out.length
    · have Sd := S2.ext0 (Ext.drew [] x2)
      have kd := fun i => (B.ext (Ext.drew [] x2) (by simp)).cell (i := i)
      have kg := fun i => (B1y.ext Sd.F ne1).cell (i := i)
      obtain ⟨bo, oo, eo, _, co⟩ := its_at R0 hlt
      have hok := hO2.ok _ (List.getElem_mem hlt)
      have hq : out[i].toNat - 1 < ns.length := by omega
      obtain ⟨bn, on, ena, _, c1, c2⟩ := gn_at (h.nr.ext0 (fresh S2)) hq
      have hptr : ptrsOf ns out[i] = ns[out[i].toNat - 1].p := by unfold ptrsOf; rw [List.getElem?_eq_getElem hq]
      have hstep : bfs ns (ns.length + 1 - i) i out = bfs ns (ns.length + 1 - (i + 1)) (i + 1) (addL ns.length out ns[out[i].toNat - 1].p) := by
        rw [show ns.length + 1 - i = (ns.length + 1 - (i + 1)) + 1 by omega, bfs_step hlt, hptr]
      have hx := h.ok _ (List.getElem_mem hq)
      have tq : (out[i] - 1).toNat = out[i].toNat - 1 := by omega
      have hqb : out[i] ≤ 9000 := by omega
      have lx := hf.x _ (List.getElem_mem hq)
      generalize out[i] = q at *
      generalize ns[q.toNat - 1] = x at *
      subst ena
      rw [eo] at kb kd
      simp (disch := (first | omega | decide | (simp only [rsD] <;> omega) | fail)) only [↓rsC, rsK, rsL, ↓rsCan1_1, tick_eq, tickV_eq, ne_eq, Int.reduceAdd, Int.reduceSub, Int.reduceMul, Int.reduceEq, Int.reduceLT, Int.reduceLE, Int.reduceToNat, Nat.reduceMul, Nat.reduceAdd, Nat.reduceSub, ←decide_not, hm, k1, kb, kd, kg, co, tq, c1]
      refine xLoop_n x.p.length (fun k => [i64 (k : Int)]) (fun k w' => OrdS y w' (r + 2) r (addL ns.length out (x.p.take k)) ∧ OutOk ns.length (addL ns.length out (x.p.take k))) rfl ⟨by simpa [addL] using Sd, OutOk.addL _ hO2⟩ ?_ ?_
      · rintro k hk u x3 hu ⟨S3, hO3⟩ nxt3 hnx3
        simp only [List.map_cons, List.map_nil, List.cons.injEq, and_true] at hu
        rw [hu]
        obtain ⟨bp, op, ep, _, cp⟩ := its_at (hx.ext0 (fresh S3)).pr hk
        have hsu : x.p.take (k + 1) = x.p.take k ++ [x.p[k]] := by
          rw [List.take_add_one, List.getElem?_eq_getElem hk]
          rfl
        generalize x.p[k] = pk at *
        unfold canon_Order_l3
        rw [ep]
        simp (disch := (first | omega | decide | (simp only [rsD] <;> omega) | fail)) only [↓rsC, rsK, rsL, ↓rsCan1_1, tick_eq, tickV_eq, ne_eq, Int.reduceAdd, Int.reduceSub, Int.reduceMul, Int.reduceEq, Int.reduceLT, Int.reduceLE, Int.reduceToNat, Nat.reduceMul, Nat.reduceAdd, Nat.reduceSub, ←decide_not, hm, k1, kb, kd, kg, co, tq, c1, cp]
        refine hadd S3 hO3 pk fun x4 S4 => ?_
        simp (disch := (first | omega | decide | (simp only [rsD] <;> omega) | fail)) only [↓rsC, rsK, rsL, ↓rsCan1_1, tick_eq, tickV_eq, ne_eq, Int.reduceAdd, Int.reduceSub, Int.reduceMul, Int.reduceEq, Int.reduceLT, Int.reduceLE, Int.reduceToNat, Nat.reduceMul, Nat.reduceAdd, Nat.reduceSub, ←decide_not, hm, k1, kb, kd, kg, co, tq, c1, cp]
        refine hnx3 _ ⟨?_, OutOk.addL _ hO2⟩
        rw [hsu, addL_snoc]
        exact S4
      · rintro u x3 hu ⟨S3, hO3⟩ nxt3
        simp only [List.map_cons, List.map_nil, List.cons.injEq, and_true] at hu
        rw [hu]
        rw [List.take_length] at S3 hO3
        unfold canon_Order_l3
        simp (disch := (first | omega | decide | (simp only [rsD] <;> omega) | fail)) only [↓rsC, rsK, rsL, ↓rsCan1_1, tick_eq, tickV_eq, ne_eq, Int.reduceAdd, Int.reduceSub, Int.reduceMul, Int.reduceEq, Int.reduceLT, Int.reduceLE, Int.reduceToNat, Nat.reduceMul, Nat.reduceAdd, Nat.reduceSub, ←decide_not, hm, k1, kb, kd, kg, co, tq, c1]
        have hlen3 : i + 1 ≤ (addL ns.length out x.p).length := by
          have := addL_len ns.length x.p out
          omega
        exact hnx2 _ _ ⟨_, by simp, S3, hO3, hlen3, by rw [he, hstep]⟩
    · have e := hord out i (ns.length + 1 - i) hO2 (by omega) he (by omega)
      simp (disch := (first | omega | decide | (simp only [rsD] <;> omega) | fail)) only [↓rsC, rsK, rsL, ↓rsCan1_1, tick_eq, tickV_eq, ne_eq, Int.reduceAdd, Int.reduceSub, Int.reduceMul, Int.reduceEq, Int.reduceLT, Int.reduceLE, Int.reduceToNat, Nat.reduceMul, Nat.reduceAdd, Nat.reduceSub, ←decide_not, hm, k1, kb]
      refine slices_Clip_int_int_call (Gives.to (ClipI_spec hc0) fun x3 F3 => ?_)
      rw [e]
      exact ⟨(fresh S2).trans F3, a0, rfl, R0.ext0 F3, fun z hz => by have := U z.block (by rw [hz]; simp [blk, Value.ownBlock]); have := Xw.size; omega⟩
end Go.Proofs.Ytdpmidgeipibbaa
end
section
set_option linter.unusedVariables false
set_option linter.unusedSimpArgs false
set_option maxHeartbeats 4000000
namespace Go.Proofs.Ytdpmidgeipibbaa
open Go.Sh Go.RowKit

def numK (ord : List Int) (k : Nat) : List (Int × Value) := (List.range k).map fun i => (ord.getD i 0, i64 ((i : Int) + 1))
theorem numK_succ (ord : List Int) (k : Nat) : numK ord (k + 1) = numK ord k ++ [(ord.getD k 0, i64 ((k : Int) + 1))] := by
  unfold numK
  rw [List.range_succ, List.map_append]
  rfl
theorem mget_num {ord : List Int} (hd : ord.Nodup) (p : Int) : (mget (numK ord ord.length) p).getD (i64 0) = i64 (noV ord p) := by
  unfold noV
  by_cases h : p ∈ ord
  · rw [if_pos h]
    obtain ⟨i, hi, e⟩ := List.getElem_of_mem h
    have hg : ∀ i (hi : i < ord.length), ord.getD i 0 = ord[i] := fun i hi => by rw [List.getD_eq_getElem?_getD, List.getElem?_eq_getElem hi]; rfl
    obtain ⟨v, hv⟩ := mget_in (l := numK ord ord.length) (i := p) ⟨(ord.getD i 0, i64 ((i : Int) + 1)), List.mem_map.2 ⟨i, List.mem_range.2 hi, rfl⟩, by simp only; rw [hg i hi, e]⟩
    obtain ⟨q, hq, h1, h2⟩ := mget_some hv
    obtain ⟨k, hk, rfl⟩ := List.mem_map.1 hq
    have hk := List.mem_range.1 hk
    simp only at h1 h2
    rw [hg k hk] at h1
    rw [hv, ← h2, Option.getD_some]
    have : ord.idxOf p = k := by rw [← h1]; exact List.Nodup.idxOf_getElem hd k hk
    rw [this]
  · rw [if_neg h, mget_none (fun q hq e => by
      obtain ⟨k, hk, rfl⟩ := List.mem_map.1 hq
      have hk := List.mem_range.1 hk
      simp only at e
      rw [List.getD_eq_getElem?_getD, List.getElem?_eq_getElem hk, Option.getD_some] at e
      exact h (e ▸ List.getElem_mem hk))]
    rfl
abbrev rsCan2_0 := (And.intro @xu8_add (And.intro @xu8_sub (And.intro @xu8_lss (And.intro @xu16_add (And.intro @xu16_sub (And.intro @xu16_lss (And.intro @xu32_add (And.intro @xu32_sub (And.intro @xu32_lss (And.intro @xu64_add (And.intro @xu64_sub (And.intro @xu64_lss (And.intro @xi64_lss (And.intro @ld_3 (And.intro @ld_9 (And.intro @ld_22 (And.intro @ld_23 
  (And.intro @ld_25 (And.intro @ld_66 (And.intro @ld_70 (And.intro @ld_72 (And.intro @ld_74 (And.intro @lr_25 (And.intro @fa_25_0 (And.intro @fa_25_1 (And.intro @fa_72_0 (And.intro @fa_72_1 (And.intro @fa_74_0 (And.intro @fa_74_1 (And.intro @al_25 (And.intro @al_72 (And.intro @al_74 (And.intro @st_22 (And.intro @st_23 (And.intro @st_25 (And.intro @st_66 (And.intro @st_72 
  (And.intro @st_74 (And.intro @bd_72_0_1 (And.intro @bd_72_1 (And.intro @bd_74_0_1 (And.intro @ia_22 (And.intro @ia_23 (And.intro @ia_66 (And.intro @ln_23 (And.intro @ln_66 (And.intro @bs_22_1 (And.intro @bs_23_1 (And.intro @bs_66_0 @bs_66_1)))))))))))))))))))))))))))))))))))))))))))))))))
theorem Canon_spec {w : World} {na ra : Option Addr} {nc rc : Nat} {ns : List GN} {rs : List GR} (h : GIs w na nc ra rc ns rs) (hf : FewH ns rs) :
    Yld Try.prog n_canon_Canon #[gV na nc ra rc ns rs] w fun u w' => Ext [] w w' ∧ ∃ na' nc' ra' rc' ns', ns'.map bare = canNs ns rs ∧ u = gV na' nc' ra' rc' ns' (canRs ns rs) ∧ GIs w' na' nc' ra' rc' ns' (canRs ns rs) := by
  have hfn := hf.n
  have hfr := hf.r
  refine canon_Canon_of ?_
  unfold canon_Canon
  have gbox : ∀ (y : World) (K : K1), xBox Try.prog 25 (gV na nc ra rc ns rs) y K = K (ptr y.heap.size) (y.alloc (.cells #[.slice na ns.length nc, .slice ra rs.length rc] 25)) := fun y K => xBox_r
  have al : ∀ (y : World) (K : K1), xAlloc Try.prog 25 y K = K (ptr y.heap.size) (y.alloc (.cells #[.slice none 0 0, .slice none 0 0] 25)) := fun y K => xAlloc_r (by kernel_rfl)
  have hm : ∀ (y : World) (K : K1), xMakeMap Try.prog 184 none y K = K (.map (some y.heap.size)) (y.alloc (.map #[] 0)) := fun y K => xMakeMap_r
  rw [gbox, al, hm]
  have B1 : Blk (w.alloc (.cells #[.slice na ns.length nc, .slice ra rs.length rc] 25)) w.heap.size 25 [.slice na ns.length nc, .slice ra rs.length rc] := Blk.at rfl
  have X1 : Ext [] w (w.alloc (.cells #[.slice na ns.length nc, .slice ra rs.length rc] 25)) := Ext.alloc _ _ _
  generalize w.alloc (.cells #[.slice na ns.length nc, .slice ra rs.length rc] 25) = y1 at *
  obtain ⟨g1, hg1⟩ : ∃ g, g = w.heap.size := ⟨_, rfl⟩
  rw [← hg1] at B1 ⊢
  have B2 : Blk (y1.alloc (.cells #[.slice none 0 0, .slice none 0 0] 25)) y1.heap.size 25 [.slice none 0 0, .slice none 0 0] := Blk.at rfl
  have X2 : Ext [] y1 (y1.alloc (.cells #[.slice none 0 0, .slice none 0 0] 25)) := Ext.alloc _ _ _
  have g1lt := B1.lt
  have B12 := B1.ext X2 (by simp)
  have zw1 := X1.size
  generalize y1.alloc (.cells #[.slice none 0 0, .slice none 0 0] 25) = y2 at *
  obtain ⟨g2, hg2⟩ : ∃ g, g = y1.heap.size := ⟨_, rfl⟩
  rw [← hg2] at B2 ⊢
  have g2lt := B2.lt
  have Mr0 := MapIs.new y2
  have X3 : Ext [] y2 (y2.alloc (.map #[] 0)) := Ext.alloc _ _ _
  have B13 := B12.ext X3 (by simp)
  have B23 := B2.ext X3 (by simp)
  generalize y2.alloc (.map #[] 0) = y3 at *
  obtain ⟨r, hr⟩ : ∃ r, r = y2.heap.size := ⟨_, rfl⟩
  rw [← hr] at Mr0 ⊢
  have rlt := Mr0.lt
  have X13 := (X1.trans X2).trans X3
  have k1 := fun i => B13.cell (i := i)
  simp (disch := (first | omega | decide | (simp only [rsD] <;> omega) | fail)) only [↓rsC, rsK, rsL, ↓rsCan2_0, tick_eq, tickV_eq, ne_eq, Int.reduceAdd, Int.reduceSub, Int.reduceMul, Int.reduceEq, Int.reduceLT, Int.reduceLE, Int.reduceToNat, Nat.reduceMul, Nat.reduceAdd, Nat.reduceSub, ←decide_not, k1]
  refine canon_Order_call (Yld.mono (Order_spec (h.ext0 X13) hf) ?_)
  rintro u y4 ⟨F4, ao, rfl, Ro, Uo⟩
  have hO := ord_ok ns (tosL rs)
  have hcN : canNs ns rs = (ordV ns (tosL rs)).map (canN ns (ordV ns (tosL rs))) := rfl
  have hcR : canRs ns rs = rs.map fun r => ⟨r.s, noV (ordV ns (tosL rs)) r.to⟩ := rfl
  have hol := hO.len
  rw [hcN, hcR]
  generalize ordV ns (tosL rs) = ord at *
  have B14 := B13.ext F4 (by simp)
  have B24 := B23.ext F4 (by simp)
  have Mr4 := Mr0.ext0 F4
  have Xw := X13.trans F4
  simp (disch := (first | omega | decide | (simp only [rsD] <;> omega) | fail)) only [↓rsC, rsK, rsL, ↓rsCan2_0, tick_eq, tickV_eq, ne_eq, Int.reduceAdd, Int.reduceSub, Int.reduceMul, Int.reduceEq, Int.reduceLT, Int.reduceLE, Int.reduceToNat, Nat.reduceMul, Nat.reduceAdd, Nat.reduceSub, ←decide_not, k1]
  have ne1 : g1 ∉ [r] := by simp only [List.mem_singleton]; omega
  have ne2 : g2 ∉ [r] := by simp only [List.mem_singleton]; omega
  have fresh : ∀ {w' : World}, Ext [r] y4 w' → Ext [] w w' := fun F => Xw.new F (fun z hz => by simp only [List.mem_singleton] at hz; have := X2.size; omega)
  have Ra : ∀ {w' : World}, Ext [r] y4 w' → RowAt w' ao (its ord) := fun F => Ro.ext F fun b o hb hm => by
    have := Uo _ hb
    simp only [List.mem_singleton] at hm
    simp only at this
    omega
  have hg : ∀ i (hi : i < ord.length), ord.getD i 0 = ord[i] := fun i hi => by rw [List.getD_eq_getElem?_getD, List.getElem?_eq_getElem hi]; rfl
  refine xLoop_n ord.length (fun j => [i64 (j : Int)]) (fun j w' => Ext [r] y4 w' ∧ MapIs w' r (numK ord j)) rfl ⟨Ext.refl _ _, by simpa [numK] using Mr4⟩ ?_ ?_
  · rintro j hj u x1 hu ⟨F, M⟩ nxt hnx
    simp only [List.map_cons, List.map_nil, List.cons.injEq, and_true] at hu
    rw [hu]
    obtain ⟨b, o, eo, _, co⟩ := its_at (Ra F) hj
    have hnot : ∀ p ∈ numK ord j, p.1 ≠ ord[j] := fun p hp e => by
      obtain ⟨i, hi, rfl⟩ := List.mem_map.1 hp
      have hi := List.mem_range.1 hi
      simp only at e
      rw [hg i (by omega)] at e
      have := List.pairwise_iff_getElem.1 hO.nd i j (by omega) hj hi
      exact this e
    have hsu := numK_succ ord j
    rw [hg j hj] at hsu
    generalize ord[j] = q at *
    unfold canon_Canon_l1
    rw [eo]
    simp (disch := (first | omega | decide | (simp only [rsD] <;> omega) | fail)) only [↓rsC, rsK, rsL, ↓rsCan2_0, tick_eq, tickV_eq, ne_eq, Int.reduceAdd, Int.reduceSub, Int.reduceMul, Int.reduceEq, Int.reduceLT, Int.reduceLE, Int.reduceToNat, Nat.reduceMul, Nat.reduceAdd, Nat.reduceSub, ←decide_not, k1, co]
    refine xMapUpdate_new (kt := 3) (et := 3) (by kernel_rfl) (by kernel_rfl) M hnot fun x2 M2 F2 => ?_
    simp (disch := (first | omega | decide | (simp only [rsD] <;> omega) | fail)) only [↓rsC, rsK, rsL, ↓rsCan2_0, tick_eq, tickV_eq, ne_eq, Int.reduceAdd, Int.reduceSub, Int.reduceMul, Int.reduceEq, Int.reduceLT, Int.reduceLE, Int.reduceToNat, Nat.reduceMul, Nat.reduceAdd, Nat.reduceSub, ←decide_not, k1, co]
    rw [← hsu] at M2
    exact hnx _ ⟨F.trans F2, M2⟩
  rintro u x1 hu ⟨F, M⟩ nxt
  simp only [List.map_cons, List.map_nil, List.cons.injEq, and_true] at hu
  rw [hu]
  have B1x := B14.ext F ne1
  have B2x := B24.ext F ne2
  have g1x := B1x.lt
  have g2x := B2x.lt
  have rx := M.lt
  unfold canon_Canon_l1
  simp (disch := (first | omega | decide | (simp only [rsD] <;> omega) | fail)) only [↓rsC, rsK, rsL, ↓rsCan2_0, tick_eq, tickV_eq, ne_eq, Int.reduceAdd, Int.reduceSub, Int.reduceMul, Int.reduceEq, Int.reduceLT, Int.reduceLE, Int.reduceToNat, Nat.reduceMul, Nat.reduceAdd, Nat.reduceSub, ←decide_not, k1]
  obtain ⟨hx, hhx⟩ : ∃ g, g = x1.heap.size := ⟨_, rfl⟩
  have Bx0 : Blk (x1.alloc (.cells #[.slice none 0 0, .slice none 0 0] 25)) hx 25 [.slice none 0 0, .slice none 0 0] := Blk.at hhx
  have X8 : Ext [] x1 (x1.alloc (.cells #[.slice none 0 0, .slice none 0 0] 25)) := Ext.alloc _ _ _
  have zs8 : (x1.alloc (.cells #[.slice none 0 0, .slice none 0 0] 25)).heap.size = x1.heap.size + 1 := World.size_alloc _ _
  rw [← hhx] at zs8 ⊢
  have F8 := (fresh F).trans X8
  have B18 := B1x.ext X8 (by simp)
  have B28 := B2x.ext X8 (by simp)
  have M8 := M.ext0 X8
  have R8 := (Ra F).ext0 X8
  have zw8 := (fresh F).size
  have aolt : ord ≠ [] → ∀ z, ao = some z → z.block < x1.heap.size := fun he z hz => by
    obtain ⟨b2, o2, e2, hlt2, _⟩ := (Ra F).get (by simpa using he)
    rw [hz] at e2
    cases e2
    exact hlt2
  generalize x1.alloc (.cells #[.slice none 0 0, .slice none 0 0] 25) = q at *
  have hlt : hx < q.heap.size := by omega
  have fresh2 : ∀ {w' : World}, Ext [hx] q w' → Ext [] w w' := fun F => F8.new F (fun z hz => by simp only [List.mem_singleton] at hz; omega)
  have nq1 : g1 ∉ [hx] := by simp only [List.mem_singleton]; omega
  have nq2 : g2 ∉ [hx] := by simp only [List.mem_singleton]; omega
  have nqr : r ∉ [hx] := by simp only [List.mem_singleton]; omega
  have Rq : ∀ {w' : World}, Ext [hx] q w' → RowAt w' ao (its ord) := fun F => by
    by_cases he : ord = []
    · rw [he]; exact .nil
    · exact R8.ext F fun b o hb hm => by
        have := aolt he _ hb
        simp only [List.mem_singleton] at hm
        simp only at this
        omega
  have nilb : ∀ z, z ∉ blk (.slice none 0 0) := by simp [blk, Value.ownBlock]
  have hlk : ∀ {w' : World} (F : Ext [hx] q w') (p : Int) (K : K1), xLookup Try.prog 184 (.map (some r)) (i64 p) false w' K = K (i64 (noV ord p)) w' := fun {w'} F p K => by
    rw [xLookup_v (kt := 3) (et := 3) (by kernel_rfl) (by kernel_rfl) (zero_in w') (M8.ext F nqr) p, mget_num hO.nd]
  refine xLoop_n ord.length (fun j => [i64 (j : Int)]) (fun j w' => Ext [hx] q w' ∧ ∃ v ns', ns'.map bare = (ord.map (canN ns ord)).take j ∧ OwnGN w' v ns' ∧ Blk w' hx 25 [v, .slice none 0 0] ∧ (∀ z ∈ blk v, q.heap.size ≤ z) ∧ ∀ x ∈ ns', NOk w' x ∧ Apt (hx :: blk v) x) rfl ⟨Ext.refl _ _, .slice none 0 0, [], by simp, Own.nil, Bx0, fun z hz => absurd hz (nilb z), by simp⟩ ?_ ?_
  · rintro j hj u x2 hu ⟨F, v, ns', hns, O, B, U, A⟩ nxt2 hnx
    simp only [List.map_cons, List.map_nil, List.cons.injEq, and_true] at hu
    rw [hu]
    obtain ⟨bo, oo, eo, _, co⟩ := its_at (Rq F) hj
    have hok := hO.ok _ (List.getElem_mem hj)
    have hq : ord[j].toNat - 1 < ns.length := by omega
    obtain ⟨bn, on, ena, _, c1, c2⟩ := gn_at (h.nr.ext0 (fresh2 F)) hq
    have hsu : (ord.map (canN ns ord)).take (j + 1) = (ord.map (canN ns ord)).take j ++ [⟨ns[ord[j].toNat - 1].p.map (noV ord), none, 0, ns[ord[j].toNat - 1].d, none, 0⟩] := by
      rw [List.take_add_one, List.getElem?_eq_getElem (by simpa using hj)]
      simp [canN, ptrsOf, dataOf, List.getElem?_eq_getElem hq]
    have hnl : ns'.length ≤ 9000 := by
      have h1 := congrArg List.length hns
      rw [List.length_map, List.length_take, List.length_map] at h1
      omega
    have hc1 : ∀ {w' : World}, Ext [hx] q w' → w'.cell? ⟨bn, on + (ord[j].toNat - 1) * 2, none⟩ = some (.slice ns[ord[j].toNat - 1].pa ns[ord[j].toNat - 1].p.length ns[ord[j].toNat - 1].pc) ∧ bn < w'.heap.size := fun {w'} F' => by
      obtain ⟨b', o', e', z', d1, _⟩ := gn_at (h.nr.ext0 (fresh2 F')) hq
      rw [ena] at e'
      cases e'
      exact ⟨d1, z'⟩
    have hxk := h.ok _ (List.getElem_mem hq)
    have lx := hf.x _ (List.getElem_mem hq)
    have tq : (ord[j] - 1).toNat = ord[j].toNat - 1 := by omega
    have hqb : ord[j] ≤ 9000 := by omega
    generalize ord[j] = qn at *
    generalize ns[qn.toNat - 1] = x at *
    have kg := fun i => (B18.ext F nq1).cell (i := i)
    obtain ⟨a0, c0, hv0, _⟩ := O.slice
    subst hv0
    unfold canon_Canon_l2
    rw [eo]
    simp (disch := (first | omega | decide | (simp only [rsD] <;> omega) | fail)) only [↓rsC, rsK, rsL, ↓rsCan2_0, tick_eq, tickV_eq, ne_eq, Int.reduceAdd, Int.reduceSub, Int.reduceMul, Int.reduceEq, Int.reduceLT, Int.reduceLE, Int.reduceToNat, Nat.reduceMul, Nat.reduceAdd, Nat.reduceSub, ←decide_not, k1, co, kg, ena, tq, c2]
    have hx2 := hxk.ext0 (fresh2 F)
    refine slices_Clone_byte_byte_call (Yld.mono (CloneBt_spec x.d x.da x.dc x2 (by omega) hx2.dr hx2.dn) ?_)
    rintro u x3 N3
    obtain ⟨ad, cd, rfl, hcd, _, hnd, Rd, _⟩ := N3.2.1.slice
    have Ud : ∀ z, ad = some z → x2.heap.size ≤ z.block ∧ z.block < x3.heap.size := fun z hz => ⟨N3.2.2 _ (by rw [hz]; simp [blk, Value.ownBlock]), N3.2.1.lt _ (by rw [hz]; simp [blk, Value.ownBlock])⟩
    refine slices_Clip_byte_byte_call (Gives.to (ClipB_spec hcd) fun x4 F4 => ?_)
    have E24 := N3.1.trans F4
    have F04 := F.trans (E24.more (by simp))
    have z34 := F4.size
    have z23 := N3.1.size
    have kg4 := fun i => (B18.ext F04 nq1).cell (i := i)
    have zg4 := (B18.ext F04 nq1).lt
    obtain ⟨c14, zbn⟩ := hc1 F04
    simp (disch := (first | omega | decide | (simp only [rsD] <;> omega) | fail)) only [↓rsC, rsK, rsL, ↓rsCan2_0, tick_eq, tickV_eq, ne_eq, Int.reduceAdd, Int.reduceSub, Int.reduceMul, Int.reduceEq, Int.reduceLT, Int.reduceLE, Int.reduceToNat, Nat.reduceMul, Nat.reduceAdd, Nat.reduceSub, ←decide_not, k1, co, kg, ena, tq, c2, kg4, c14]
    obtain ⟨hn, hhn⟩ : ∃ g, g = x4.heap.size := ⟨_, rfl⟩
    have N50 : Blk (x4.alloc (.cells #[.slice none 0 0, .slice ad x.d.length x.d.length] 72)) hn 72 [.slice none 0 0, .slice ad x.d.length x.d.length] := Blk.at hhn
    have E45 : Ext [] x4 (x4.alloc (.cells #[.slice none 0 0, .slice ad x.d.length x.d.length] 72)) := Ext.alloc _ _ _
    rw [← hhn]
    have E25 := E24.trans E45
    generalize x4.alloc (.cells #[.slice none 0 0, .slice ad x.d.length x.d.length] 72) = x5 at *
    have hn5 := N50.lt
    have F05 := F.trans (E25.more (by simp))
    have B5 := B.ext E25 (by simp)
    have O5 := O.ext0 E25
    have Rd5 := (Rd.ext0 F4).ext0 E45
    have zF := F.size
    have hx2lt := B.lt
    have v2lt := O.lt
    have Fy : ∀ {w' : World}, Ext [hn] x5 w' → Ext [hx] q w' := fun F' => F05.cut F' (fun z hz => by simp only [List.mem_singleton] at hz; subst hz; exact .inr (by omega))
    have hxn : hx ∉ [hn] := by simp only [List.mem_singleton]; omega
    have hnv : hn ∉ blk (.slice a0 ns'.length c0) := fun hm => by have := v2lt _ hm; omega
    have hpl : (x.p.map (noV ord)).length = x.p.length := by simp
    refine xLoop_n x.p.length (fun k => [i64 (k : Int)]) (fun k w' => Ext [hn] x5 w' ∧ ∃ vp, OwnIt w' vp ((x.p.map (noV ord)).take k) ∧ Blk w' hn 72 [vp, .slice ad x.d.length x.d.length] ∧ ∀ z ∈ blk vp, x5.heap.size ≤ z) rfl ⟨Ext.refl _ _, .slice none 0 0, Own.nil, N50, fun z hz => absurd hz (nilb z)⟩ ?_ ?_
    · rintro k hk u x6 hu ⟨F6, vp, Op, Bp, Up⟩ nxt4 hn4
      simp only [List.map_cons, List.map_nil, List.cons.injEq, and_true] at hu
      rw [hu]
      obtain ⟨a1, c1', hv1, _⟩ := Op.slice
      subst hv1
      obtain ⟨bp, op, ep, _, cp⟩ := its_at (hxk.ext0 (fresh2 (Fy F6))).pr hk
      have hsu2 : (x.p.map (noV ord)).take (k + 1) = (x.p.map (noV ord)).take k ++ [noV ord x.p[k]] := by
        rw [List.take_add_one, List.getElem?_eq_getElem (by omega)]
        simp
      generalize x.p[k] = pk at *
      have kb := fun i => Bp.cell (i := i)
      have zbp := Bp.lt
      have hl2 := fun (K : K1) => hlk (Fy F6) pk K
      unfold canon_Canon_l3
      rw [ep]
      simp (disch := (first | omega | decide | (simp only [rsD] <;> omega) | fail)) only [↓rsC, rsK, rsL, ↓rsCan2_0, tick_eq, tickV_eq, ne_eq, Int.reduceAdd, Int.reduceSub, Int.reduceMul, Int.reduceEq, Int.reduceLT, Int.reduceLE, Int.reduceToNat, Nat.reduceMul, Nat.reduceAdd, Nat.reduceSub, ←decide_not, k1, co, kg, ena, tq, c2, kg4, c14, cp, kb, hl2]
      refine appIt Op rfl (by simp; omega) fun v' x7 O7 T7 => ?_
      obtain ⟨F7, U7, n1, n2⟩ := grow F6 Up hn5 T7
      have B7 := Bp.ext T7.ext n1
      obtain ⟨a3, c3, hv3, _⟩ := O7.slice
      have k7 := fun i => B7.cell (i := i)
      have f7 := fun i => B7.frozen (i := i)
      rw [← hsu2] at O7 hv3
      subst hv3
      simp (disch := (first | omega | decide | (simp only [rsD] <;> omega) | fail)) only [↓rsC, rsK, rsL, ↓rsCan2_0, tick_eq, tickV_eq, ne_eq, Int.reduceAdd, Int.reduceSub, Int.reduceMul, Int.reduceEq, Int.reduceLT, Int.reduceLE, Int.reduceToNat, Nat.reduceMul, Nat.reduceAdd, Nat.reduceSub, ←decide_not, k1, co, kg, ena, tq, c2, kg4, c14, cp, kb, hl2, k7, f7]
      have B8 := B7.set (i := 0) (v := .slice a3 ((x.p.map (noV ord)).take (k + 1)).length c3)
      have O8 := O7.ext (Ext.set (w := x7) (b := hn) (o := 0) (v := .slice a3 ((x.p.map (noV ord)).take (k + 1)).length c3)) (fun z hz hm => by simp only [List.mem_singleton] at hm; subst hm; exact n2 hz)
      exact hn4 _ ⟨F7.set' (.inl (by simp)), _, O8, B8, U7⟩
    · rintro u x6 hu ⟨F6, vp, Op, Bp, Up⟩ nxt4
      simp only [List.map_cons, List.map_nil, List.cons.injEq, and_true] at hu
      rw [hu]
      have etk : (x.p.map (noV ord)).take x.p.length = x.p.map (noV ord) := by rw [← hpl, List.take_length]
      rw [etk] at Op
      obtain ⟨a1, c1', hv1, hc1', _, hn1, R1, _⟩ := Op.slice
      subst hv1
      have kb := fun i => Bp.cell (i := i)
      have fb := fun i => Bp.frozen (i := i)
      unfold canon_Canon_l3
      simp (disch := (first | omega | decide | (simp only [rsD] <;> omega) | fail)) only [↓rsC, rsK, rsL, ↓rsCan2_0, tick_eq, tickV_eq, ne_eq, Int.reduceAdd, Int.reduceSub, Int.reduceMul, Int.reduceEq, Int.reduceLT, Int.reduceLE, Int.reduceToNat, Nat.reduceMul, Nat.reduceAdd, Nat.reduceSub, ←decide_not, k1, co, kg, ena, tq, c2, kg4, c14, kb]
      refine slices_Clip_int_int_call (Gives.to (ClipI_spec hc1') fun x7 F7 => ?_)
      have Bp7 := Bp.ext F7 (by simp)
      have kb7 := fun i => Bp7.cell (i := i)
      have fb7 := fun i => Bp7.frozen (i := i)
      have F57 := F6.trans (F7.more (by simp))
      have B7 := B5.ext F57 hxn
      have kx7 := fun i => B7.cell (i := i)
      have hne : hx ≠ hn := by simpa using hxn
      have zb7 := Bp7.lt
      have zx7 := B7.lt
      simp (disch := (first | omega | decide | (simp only [rsD] <;> omega) | fail)) only [↓rsC, rsK, rsL, ↓rsCan2_0, tick_eq, tickV_eq, ne_eq, Int.reduceAdd, Int.reduceSub, Int.reduceMul, Int.reduceEq, Int.reduceLT, Int.reduceLE, Int.reduceToNat, Nat.reduceMul, Nat.reduceAdd, Nat.reduceSub, ←decide_not, k1, co, kg, ena, tq, c2, kg4, c14, kb, kb7, fb7, kx7, hne]
      have E78 : Ext [hn] x7 (x7.setCell ⟨hn, 0, none⟩ (.slice a1 (x.p.map (noV ord)).length (x.p.map (noV ord)).length)) := Ext.set
      have F58 := F57.trans E78
      generalize x7.setCell ⟨hn, 0, none⟩ (.slice a1 (x.p.map (noV ord)).length (x.p.map (noV ord)).length) = x8 at *
      have O8 := O5.ext F58 (fun z hz hm => by simp only [List.mem_singleton] at hm; subst hm; exact hnv hz)
      have B8 := B5.ext F58 hxn
      have z58 := F58.size
      have nna1 : ∀ b o, a1 = some ⟨b, o, none⟩ → b ∉ [hn] := fun b o hb hm => by
        have := Up b (by rw [hb]; simp [blk, Value.ownBlock])
        simp only [List.mem_singleton] at hm
        omega
      have nad : ∀ b o, ad = some ⟨b, o, none⟩ → b ∉ [hn] := fun b o hb hm => by
        have := Ud _ hb
        simp only [List.mem_singleton] at hm
        simp only at this
        omega
      have NX : NOk x8 ⟨x.p.map (noV ord), a1, (x.p.map (noV ord)).length, x.d, ad, x.d.length⟩ := ⟨(R1.ext0 F7).ext E78 nna1, Nat.le_refl _, fun e => by have := hn1 e; simp only; omega, Rd5.ext F58 nad, Nat.le_refl _, fun e => by have := hnd e; simp only; omega⟩
      refine appGN O8 (x := ⟨x.p.map (noV ord), a1, (x.p.map (noV ord)).length, x.d, ad, x.d.length⟩) rfl (by omega) fun v' x9 O9 T9 => ?_
      obtain ⟨F9, U9, n1, n2⟩ := grow (Fy F58) U hlt T9
      have B9 := B8.ext T9.ext n1
      obtain ⟨a3, c3, hv3, _⟩ := O9.slice
      have k9 := fun i => B9.cell (i := i)
      have f9 := fun i => B9.frozen (i := i)
      obtain ⟨X, hX⟩ : ∃ X : GN, X = ⟨x.p.map (noV ord), a1, (x.p.map (noV ord)).length, x.d, ad, x.d.length⟩ := ⟨_, rfl⟩
      have hXp : bare X = ⟨x.p.map (noV ord), none, 0, x.d, none, 0⟩ := by rw [hX]; rfl
      have hXa : X.pa = a1 ∧ X.da = ad := by rw [hX]; exact ⟨rfl, rfl⟩
      rw [← hX] at NX O9 hv3
      subst hv3
      simp (disch := (first | omega | decide | (simp only [rsD] <;> omega) | fail)) only [↓rsC, rsK, rsL, ↓rsCan2_0, tick_eq, tickV_eq, ne_eq, Int.reduceAdd, Int.reduceSub, Int.reduceMul, Int.reduceEq, Int.reduceLT, Int.reduceLE, Int.reduceToNat, Nat.reduceMul, Nat.reduceAdd, Nat.reduceSub, ←decide_not, k1, co, kg, ena, tq, c2, kg4, c14, kb, kb7, fb7, kx7, hne, k9, f9]
      have B10 := B9.set (i := 0) (v := .slice a3 (ns' ++ [X]).length c3)
      have O10 := O9.ext (Ext.set (w := x9) (b := hx) (o := 0) (v := .slice a3 (ns' ++ [X]).length c3)) (fun z hz hm => by simp only [List.mem_singleton] at hm; subst hm; exact n2 hz)
      refine hnx _ ⟨F9.set' (.inl (by simp)), _, ns' ++ [X], ?_, O10, B10, U9, fun p hp => ?_⟩
      · rw [List.map_append, hns, hsu, List.map_cons, List.map_nil, hXp]
      · have hA : NOk x8 p ∧ Apt (hx :: blk (.slice a0 ns'.length c0)) p := by
          rcases List.mem_append.1 hp with hp | hp
          · have h1 := (A p hp).1.ext0 E25
            have h2 : Apt [hn] p := (A p hp).2.more (A p hp).1 (fun b hb => by
              rw [List.mem_singleton] at hb
              exact .inr (by omega))
            exact ⟨h1.ext F58 h2, (A p hp).2⟩
          · rw [List.mem_singleton] at hp
            subst hp
            refine ⟨NX, fun y hy _ hm => ?_, fun y hy _ hm => ?_⟩
            · rw [hXa.1] at hy
              have := Up y.block (by rw [hy]; simp [blk, Value.ownBlock])
              rcases List.mem_cons.1 hm with e | e
              · omega
              · have := v2lt _ e; omega
            · rw [hXa.2] at hy
              have := Ud y hy
              rcases List.mem_cons.1 hm with e | e
              · omega
              · have := v2lt _ e; omega
        have hA2 := hA.1.ext (T9.ext.more (fun z hz => List.mem_cons_of_mem hx hz)) hA.2
        have hA3 : Apt (hx :: blk (.slice a3 (ns' ++ [X]).length c3)) p := hA.2.more hA.1 fun b hb => by
          rcases List.mem_cons.1 hb with e | e
          · exact .inl (by rw [e]; exact List.mem_cons_self ..)
          · exact (T9.at' b e).imp (List.mem_cons_of_mem _) id
        exact ⟨hA2.ext (Ext.set.more (by simp)) hA3, hA3⟩
  rintro u x2 hu ⟨F2, v, ns', hns, O, B2q, U, A⟩ nxt2
  simp only [List.map_cons, List.map_nil, List.cons.injEq, and_true] at hu
  rw [hu]
  have hns : ns'.map bare = ord.map (canN ns ord) := by
    rw [hns]
    exact List.take_of_length_le (by simp)
  have kq1 := fun i => (B18.ext F2 nq1).cell (i := i)
  obtain ⟨rs', hrs⟩ : ∃ rs' : List GR, rs' = rs.map fun r => ⟨r.s, noV ord r.to⟩ := ⟨_, rfl⟩
  rw [← hrs]
  have hlr : rs'.length = rs.length := by rw [hrs]; simp
  unfold canon_Canon_l2
  simp (disch := (first | omega | decide | (simp only [rsD] <;> omega) | fail)) only [↓rsC, rsK, rsL, ↓rsCan2_0, tick_eq, tickV_eq, ne_eq, Int.reduceAdd, Int.reduceSub, Int.reduceMul, Int.reduceEq, Int.reduceLT, Int.reduceLE, Int.reduceToNat, Nat.reduceMul, Nat.reduceAdd, Nat.reduceSub, ←decide_not, k1, kq1]
  refine xLoop_n rs.length (fun j => [i64 (j : Int)]) (fun j w' => Ext [hx] q w' ∧ OwnGN w' v ns' ∧ ∃ v2, OwnGR w' v2 (rs'.take j) ∧ Blk w' hx 25 [v, v2] ∧ (∀ z ∈ blk v2, q.heap.size ≤ z) ∧ (∀ z ∈ blk v2, z ∉ blk v) ∧ ∀ x ∈ ns', NOk w' x ∧ Apt (hx :: (blk v ++ blk v2)) x) rfl ⟨F2, O, .slice none 0 0, Own.nil, B2q, fun z hz => absurd hz (nilb z), fun z hz => absurd hz (nilb z), fun x hx' => ⟨(A x hx').1, by have := (A x hx').2; simpa [blk, Value.ownBlock] using this⟩⟩ ?_ ?_
  · rintro j hj u x1 hu ⟨F, O, v2, R, B, U2, D, A⟩ nxt3 hnx
    simp only [List.map_cons, List.map_nil, List.cons.injEq, and_true] at hu
    rw [hu]
    obtain ⟨a0, c0', hv0, _⟩ := R.slice
    subst hv0
    have hlenj : (rs'.take j).length = j := by rw [List.length_take]; omega
    obtain ⟨br, or', era, _, c1, c2⟩ := gr_at (h.rr.ext0 (fresh2 F)) hj
    have hsu : rs'.take (j + 1) = rs'.take j ++ [⟨rs[j].s, noV ord rs[j].to⟩] := by
      rw [List.take_add_one, List.getElem?_eq_getElem (by omega)]
      simp [hrs]
    generalize rs[j] = rr at *
    have kb := fun i => B.cell (i := i)
    have zb := B.lt
    have E9 : Ext [] x1 (x1.alloc (.cells #[.string (strOf rr.s), i64 rr.to] 74)) := Ext.alloc _ _ _
    have hl2 := fun (K : K1) => hlk (F.trans (E9.more (by simp))) rr.to K
    unfold canon_Canon_l4
    rw [era]
    simp (disch := (first | omega | decide | (simp only [rsD] <;> omega) | fail)) only [↓rsC, rsK, rsL, ↓rsCan2_0, tick_eq, tickV_eq, ne_eq, Int.reduceAdd, Int.reduceSub, Int.reduceMul, Int.reduceEq, Int.reduceLT, Int.reduceLE, Int.reduceToNat, Nat.reduceMul, Nat.reduceAdd, Nat.reduceSub, ←decide_not, k1, kq1, c1, c2, kb, hl2]
    have F04 := F.trans (E9.more (by simp))
    have B4 := B.ext E9 (by simp)
    have R4' := R.ext0 E9
    have O4 := O.ext0 E9
    refine appGR R4' (x := ⟨rr.s, noV ord rr.to⟩) rfl (by omega) fun v' x5 R5 T5 => ?_
    obtain ⟨F5, U5, n1, n2⟩ := grow F04 U2 hlt T5
    have B5 := B4.ext T5.ext n1
    have O5 := O4.ext T5.ext (fun z hz hm => D z hm hz)
    obtain ⟨a3, c3, hv3, _⟩ := R5.slice
    have k5 := fun i => B5.cell (i := i)
    have f5 := fun i => B5.frozen (i := i)
    rw [← hsu] at R5 hv3
    subst hv3
    simp (disch := (first | omega | decide | (simp only [rsD] <;> omega) | fail)) only [↓rsC, rsK, rsL, ↓rsCan2_0, tick_eq, tickV_eq, ne_eq, Int.reduceAdd, Int.reduceSub, Int.reduceMul, Int.reduceEq, Int.reduceLT, Int.reduceLE, Int.reduceToNat, Nat.reduceMul, Nat.reduceAdd, Nat.reduceSub, ←decide_not, k1, kq1, c1, c2, kb, hl2, k5, f5]
    have B6 := B5.set (i := 1) (v := .slice a3 (rs'.take (j + 1)).length c3)
    have hxv : hx ∉ blk v := fun hm => by have := U _ hm; omega
    have D5 : ∀ z ∈ blk (.slice a3 (rs'.take (j + 1)).length c3), z ∉ blk v := fun z hz hm => by
      rcases T5.at' z hz with h1 | h1
      · exact D z h1 hm
      · have := O4.lt z hm
        omega
    have R6 := R5.ext (Ext.set (w := x5) (b := hx) (o := 1) (v := .slice a3 (rs'.take (j + 1)).length c3)) (fun z hz hm => by simp only [List.mem_singleton] at hm; subst hm; exact n2 hz)
    have O6 := O5.ext (Ext.set (w := x5) (b := hx) (o := 1) (v := .slice a3 (rs'.take (j + 1)).length c3)) (fun z hz hm => by simp only [List.mem_singleton] at hm; subst hm; exact hxv hz)
    refine hnx _ ⟨F5.set' (.inl (by simp)), O6, _, R6, B6, U5, D5, fun q' hq => ?_⟩
    have hA : NOk (x1.alloc (.cells #[.string (strOf rr.s), i64 rr.to] 74)) q' ∧ Apt (hx :: (blk v ++ blk (.slice a0 (rs'.take j).length c0'))) q' := ⟨(A q' hq).1.ext0 E9, (A q' hq).2⟩
    have hA2 := hA.1.ext (T5.ext.more (fun z hz => List.mem_cons_of_mem hx (List.mem_append_right _ hz))) hA.2
    have hA3 : Apt (hx :: (blk v ++ blk (.slice a3 (rs'.take (j + 1)).length c3))) q' := hA.2.more hA.1 fun b hb => by
      rcases List.mem_cons.1 hb with e | e
      · exact .inl (by rw [e]; exact List.mem_cons_self ..)
      · rcases List.mem_append.1 e with e | e
        · exact .inl (List.mem_cons_of_mem _ (List.mem_append_left _ e))
        · exact (T5.at' b e).imp (fun h => List.mem_cons_of_mem _ (List.mem_append_right _ h)) id
    exact ⟨hA2.ext (Ext.set.more (by simp)) hA3, hA3⟩
  rintro u x1 hu ⟨F, O, v2, R, B, U2, D, A⟩ nxt3
  simp only [List.map_cons, List.map_nil, List.cons.injEq, and_true] at hu
  rw [hu]
  have etk : rs'.take rs.length = rs' := List.take_of_length_le (by omega)
  rw [etk] at R
  obtain ⟨na', nc', hvn, hnc, _, hnn, Rn, _⟩ := O.slice
  obtain ⟨ra', rc', hvr, hrc, _, hrn, Rr, _⟩ := R.slice
  subst hvn hvr
  have Ed := Ext.drew [] x1
  have B3 := B.ext Ed (by simp)
  have k3d := fun i => B3.cell (i := i)
  unfold canon_Canon_l4
  simp (disch := (first | omega | decide | (simp only [rsD] <;> omega) | fail)) only [↓rsC, rsK, rsL, ↓rsCan2_0, tick_eq, tickV_eq, ne_eq, Int.reduceAdd, Int.reduceSub, Int.reduceMul, Int.reduceEq, Int.reduceLT, Int.reduceLE, Int.reduceToNat, Nat.reduceMul, Nat.reduceAdd, Nat.reduceSub, ←decide_not, k1, kq1, k3d]
  refine slices_Clip_graph_Node_graph_Node_call (Gives.to (ClipGN_spec hnc) fun x4 E4 => ?_)
  have B4 := B3.ext E4 (by simp)
  have k4 := fun i => B4.cell (i := i)
  simp (disch := (first | omega | decide | (simp only [rsD] <;> omega) | fail)) only [↓rsC, rsK, rsL, ↓rsCan2_0, tick_eq, tickV_eq, ne_eq, Int.reduceAdd, Int.reduceSub, Int.reduceMul, Int.reduceEq, Int.reduceLT, Int.reduceLE, Int.reduceToNat, Nat.reduceMul, Nat.reduceAdd, Nat.reduceSub, ←decide_not, k1, kq1, k3d, k4]
  refine slices_Clip_graph_Root_graph_Root_call (Gives.to (ClipGR_spec hrc) fun x5 E5 => ?_)
  have B5 := B4.ext E5 (by simp)
  have k5 := fun i => B5.cell (i := i)
  have f5 := fun i => B5.frozen (i := i)
  have E15 := Ed.trans (E4.trans E5)
  have B05 := (B28.ext F nq2).ext E15 (by simp)
  have k05 := fun i => B05.cell (i := i)
  have f05 := fun i => B05.frozen (i := i)
  have ne0x : g2 ≠ hx := by omega
  simp (disch := (first | omega | decide | (simp only [rsD] <;> omega) | fail)) only [↓rsC, rsK, rsL, ↓rsCan2_0, tick_eq, tickV_eq, ne_eq, Int.reduceAdd, Int.reduceSub, Int.reduceMul, Int.reduceEq, Int.reduceLT, Int.reduceLE, Int.reduceToNat, Nat.reduceMul, Nat.reduceAdd, Nat.reduceSub, ←decide_not, k1, kq1, k3d, k4, k5, f5, k05, f05, ne0x]
  have FE : Ext [g2, hx] x5 ((((x5.setCell ⟨hx, 0, none⟩ (.slice na' ns'.length ns'.length)).setCell ⟨hx, 1, none⟩ (.slice ra' rs'.length rs'.length)).setCell ⟨g2, 0, none⟩ (.slice na' ns'.length ns'.length)).setCell ⟨g2, 1, none⟩ (.slice ra' rs'.length rs'.length)) := ((((Ext.refl _ _).set' (.inl (by simp))).set' (.inl (by simp))).set' (.inl (by simp))).set' (.inl (by simp))
  have Fw := (fresh2 F).trans E15
  have zX : w.heap.size ≤ hx := by omega
  have zw2 : w.heap.size ≤ g2 := by omega
  refine ⟨(((Fw.set' (.inr zX)).set' (.inr zX)).set' (.inr zw2)).set' (.inr zw2), na', ns'.length, ra', rs'.length, ns', hns, rfl, ?_⟩
  have nna : ∀ b o, na' = some ⟨b, o, none⟩ → b ∉ [g2, hx] := fun b o hb hm => by
    have := U b (by rw [hb]; simp [blk, Value.ownBlock])
    simp only [List.mem_cons, List.not_mem_nil, or_false] at hm
    omega
  have nra : ∀ b o, ra' = some ⟨b, o, none⟩ → b ∉ [g2, hx] := fun b o hb hm => by
    have := U2 b (by rw [hb]; simp [blk, Value.ownBlock])
    simp only [List.mem_cons, List.not_mem_nil, or_false] at hm
    omega
  refine ⟨(Rn.ext0 E15).ext FE nna, Nat.le_refl _, fun e => by have := hnn e; omega, (Rr.ext0 E15).ext FE nra, Nat.le_refl _, fun e => by have := hrn e; omega, fun p hp => ?_⟩
  have hA := A p hp
  have hk := hA.1.ext0 E15
  have hA2 := hA.2.cons hk B05 (by simp)
  exact hk.ext (FE.more (by simp)) hA2
end Go.Proofs.Ytdpmidgeipibbaa
end
section
set_option linter.unusedVariables false
set_option linter.unusedSimpArgs false
set_option maxHeartbeats 4000000
namespace Go.Proofs.Ytdpmidgeipibbaa
open Go.Sh Go.RowKit

theorem strOf_inj {p q : List (BitVec 8)} : strOf p = strOf q ↔ p = q := by
  constructor
  · intro h
    have h2 : (strOf p).toList = (strOf q).toList := by rw [h]
    rw [strOf_list, strOf_list] at h2
    have := congrArg (List.map UInt8.toBitVec) h2
    rw [List.map_map, List.map_map] at this
    have e : (UInt8.toBitVec ∘ UInt8.ofBitVec) = id := rfl
    rw [e, List.map_id, List.map_id] at this
    exact this
  · intro h; rw [h]
abbrev rsEqg1_0 := (And.intro @xu8_add (And.intro @xu8_neq (And.intro @xu8_lss (And.intro @xu16_add (And.intro @xu16_neq (And.intro @xu16_lss (And.intro @xu32_add (And.intro @xu32_neq (And.intro @xu32_lss (And.intro @xu64_add (And.intro @xu64_neq (And.intro @xu64_lss (And.intro @xi64_lss (And.intro @xi64_neq (And.intro @xi64_neg (And.intro @ld_3 
  (And.intro @ia_66 @ln_66)))))))))))))))))
theorem EqualI_spec {w : World} {p q : List Int} {a a' : Option Addr} {c c' : Nat} (h : RowAt w a (its p)) (h' : RowAt w a' (its q)) (hp : p.length ≤ 1000000) (hq : q.length ≤ 1000000) : Gives Try.prog n_slices_Equal_int_int #[.slice a p.length c, .slice a' q.length c'] w (.bool (decide (p = q))) := by
  refine slices_Equal_int_int_of ?_
  unfold slices_Equal_int_int
  by_cases hne : p.length = q.length
  case neg =>
    have : ¬ ((p.length : Int) = q.length) := by omega
    simp (disch := (first | omega | decide | (simp only [rsD] <;> omega) | fail)) only [↓rsC, rsK, rsL, ↓rsEqg1_0, tick_eq, tickV_eq, ne_eq, Int.reduceAdd, Int.reduceSub, Int.reduceMul, Int.reduceEq, Int.reduceLT, Int.reduceLE, Int.reduceToNat, Nat.reduceMul, Nat.reduceAdd, Nat.reduceSub, ←decide_not, eq_self]
    exact ⟨by rw [decide_eq_false (fun e => hne (by rw [e]))], Ext.refl _ _⟩
  have : ((p.length : Int) = q.length) := by omega
  simp (disch := (first | omega | decide | (simp only [rsD] <;> omega) | fail)) only [↓rsC, rsK, rsL, ↓rsEqg1_0, tick_eq, tickV_eq, ne_eq, Int.reduceAdd, Int.reduceSub, Int.reduceMul, Int.reduceEq, Int.reduceLT, Int.reduceLE, Int.reduceToNat, Nat.reduceMul, Nat.reduceAdd, Nat.reduceSub, ←decide_not, eq_self]
  refine xLoop_n p.length (fun j => [i64 (j : Int)]) (fun j w' => Ext [] w w' ∧ ∀ i (hi : i < p.length) (hi' : i < q.length), i < j → p[i] = q[i]) rfl ⟨Ext.refl _ _, by intro i _ _ hi; omega⟩ ?_ ?_
  · rintro j hj u w1 hu ⟨F, hq2⟩ nxt hn
    simp only [List.map_cons, List.map_nil, List.cons.injEq, and_true] at hu
    rw [hu]
    unfold slices_Equal_int_int_l1
    have F1 := F.trans (Ext.drew [] w1)
    have hj' : j < q.length := by omega
    obtain ⟨b, o, rfl, hlt, hc⟩ := its_at (h.ext0 F1) hj
    obtain ⟨b', o', rfl, hlt', hc'⟩ := its_at (h'.ext0 F1) hj'
    by_cases e : p[j] = q[j]
    · have hnx : Ext [] w w1.drew ∧ ∀ i (hi : i < p.length) (hi' : i < q.length), i < j + 1 → p[i] = q[i] := ⟨F1, fun i hi hi' h3 => by
        by_cases ei : i = j
        · subst ei; exact e
        · exact hq2 i hi hi' (by omega)⟩
      rw [e] at hc
      generalize q[j] = z at *
      simp (disch := (first | omega | decide | (simp only [rsD] <;> omega) | fail)) only [↓rsC, rsK, rsL, ↓rsEqg1_0, tick_eq, tickV_eq, ne_eq, Int.reduceAdd, Int.reduceSub, Int.reduceMul, Int.reduceEq, Int.reduceLT, Int.reduceLE, Int.reduceToNat, Nat.reduceMul, Nat.reduceAdd, Nat.reduceSub, ←decide_not, hc, hc']
      exact hn _ hnx
    · have hno : ¬ p = q := fun e2 => e (by subst e2; rfl)
      generalize q[j] = z at *
      generalize p[j] = y at *
      simp (disch := (first | omega | decide | (simp only [rsD] <;> omega) | fail)) only [↓rsC, rsK, rsL, ↓rsEqg1_0, tick_eq, tickV_eq, ne_eq, Int.reduceAdd, Int.reduceSub, Int.reduceMul, Int.reduceEq, Int.reduceLT, Int.reduceLE, Int.reduceToNat, Nat.reduceMul, Nat.reduceAdd, Nat.reduceSub, ←decide_not, hc, hc', e]
      exact ⟨by rw [decide_eq_false hno], F1⟩
  · rintro u w1 hu ⟨F, hq2⟩ nxt
    simp only [List.map_cons, List.map_nil, List.cons.injEq, and_true] at hu
    rw [hu]
    unfold slices_Equal_int_int_l1
    simp (disch := (first | omega | decide | (simp only [rsD] <;> omega) | fail)) only [↓rsC, rsK, rsL, ↓rsEqg1_0, tick_eq, tickV_eq, ne_eq, Int.reduceAdd, Int.reduceSub, Int.reduceMul, Int.reduceEq, Int.reduceLT, Int.reduceLE, Int.reduceToNat, Nat.reduceMul, Nat.reduceAdd, Nat.reduceSub, ←decide_not, eq_self]
    refine ⟨?_, F⟩
    rw [decide_eq_true]
    exact List.ext_getElem hne fun i h1 h2 => hq2 i h1 h2 h1
abbrev rsEqg1_1 := (And.intro @xu8_eql (And.intro @xu16_eql (And.intro @xu32_eql (And.intro @xu64_eql @xi64_eql))))
theorem EqualB_spec {w : World} {p q : List (BitVec 8)} {a a' : Option Addr} {c c' : Nat} (h : RowAt w a (bys p)) (h' : RowAt w a' (bys q)) (hp : p.length ≤ 1000000) (hq : q.length ≤ 1000000) : Gives Try.prog n_bytes_Equal #[.slice a p.length c, .slice a' q.length c'] w (.bool (decide (p = q))) := by
  refine bytes_Equal_of ?_
  unfold bytes_Equal
  have hcv := fun (K : K1) => xConv_str (P := Try.prog) (w := w) (s := 70) (d := 9) (e := 5) (a := a) (n := p.length) (c := c) (l := p) (K := K) (by kernel_rfl) (by kernel_rfl) (by kernel_rfl) rfl h
  have hcv' := fun (K : K1) => xConv_str (P := Try.prog) (w := w) (s := 70) (d := 9) (e := 5) (a := a') (n := q.length) (c := c') (l := q) (K := K) (by kernel_rfl) (by kernel_rfl) (by kernel_rfl) rfl h'
  simp (disch := (first | omega | decide | (simp only [rsD] <;> omega) | fail)) only [↓rsC, rsK, rsL, ↓rsEqg1_1, tick_eq, tickV_eq, ne_eq, Int.reduceAdd, Int.reduceSub, Int.reduceMul, Int.reduceEq, Int.reduceLT, Int.reduceLE, Int.reduceToNat, Nat.reduceMul, Nat.reduceAdd, Nat.reduceSub, ←decide_not, hcv, hcv']
  exact ⟨by rw [decide_eq_decide.2 strOf_inj], Ext.refl _ _⟩
abbrev rsEqg1_2 := (And.intro @ld_66 (And.intro @ld_70 (And.intro @fa_72_0 @fa_72_1)))
theorem eqN_spec {w : World} {x y : GN} (hx : NOk w x) (hy : NOk w y) (lx : x.p.length ≤ 1000000 ∧ x.d.length ≤ 1000000) (ly : y.p.length ≤ 1000000 ∧ y.d.length ≤ 1000000) : Gives Try.prog n_graph_Equal_1 #[.agg (gnC x).toArray, .agg (gnC y).toArray] w (.bool (decide (x.p = y.p ∧ x.d = y.d))) := by
  refine graph_Equal_1_of ?_
  unfold graph_Equal_1
  have bx : ∀ (z : GN) (y : World) (K : K1), xBox Try.prog 72 (.agg (gnC z).toArray) y K = K (ptr y.heap.size) (y.alloc (.cells (gnC z).toArray 72)) := fun z y K => xBox_r
  rw [bx, bx]
  have B1 : Blk (w.alloc (.cells (gnC x).toArray 72)) w.heap.size 72 (gnC x) := Blk.at rfl
  have X1 : Ext [] w (w.alloc (.cells (gnC x).toArray 72)) := Ext.alloc _ _ _
  generalize w.alloc (.cells (gnC x).toArray 72) = y1 at *
  generalize w.heap.size = g1 at *
  have B2 : Blk (y1.alloc (.cells (gnC y).toArray 72)) y1.heap.size 72 (gnC y) := Blk.at rfl
  have X2 : Ext [] y1 (y1.alloc (.cells (gnC y).toArray 72)) := Ext.alloc _ _ _
  generalize y1.alloc (.cells (gnC y).toArray 72) = y2 at *
  generalize y1.heap.size = g2 at *
  have B12 := B1.ext X2 (by simp)
  have X12 := X1.trans X2
  have k1 := fun i => B12.cell (i := i)
  have k2 := fun i => B2.cell (i := i)
  have hx2 := hx.ext0 X12
  have hy2 := hy.ext0 X12
  simp (disch := (first | omega | decide | (simp only [rsD] <;> omega) | fail)) only [↓rsC, rsK, rsL, ↓rsEqg1_2, tick_eq, tickV_eq, ne_eq, Int.reduceAdd, Int.reduceSub, Int.reduceMul, Int.reduceEq, Int.reduceLT, Int.reduceLE, Int.reduceToNat, Nat.reduceMul, Nat.reduceAdd, Nat.reduceSub, ←decide_not, k1, k2]
  refine slices_Equal_int_int_call (Gives.to (EqualI_spec hx2.pr hy2.pr lx.1 ly.1) fun y3 F3 => ?_)
  have k3 := fun i => (B12.ext F3 (by simp)).cell (i := i)
  have k4 := fun i => (B2.ext F3 (by simp)).cell (i := i)
  by_cases hp : x.p = y.p
  · rw [decide_eq_true hp]
    simp (disch := (first | omega | decide | (simp only [rsD] <;> omega) | fail)) only [↓rsC, rsK, rsL, ↓rsEqg1_2, tick_eq, tickV_eq, ne_eq, Int.reduceAdd, Int.reduceSub, Int.reduceMul, Int.reduceEq, Int.reduceLT, Int.reduceLE, Int.reduceToNat, Nat.reduceMul, Nat.reduceAdd, Nat.reduceSub, ←decide_not, k1, k2, k3, k4]
    refine bytes_Equal_call (Gives.to (EqualB_spec (hx2.dr.ext0 F3) (hy2.dr.ext0 F3) lx.2 ly.2) fun y4 F4 => ?_)
    simp (disch := (first | omega | decide | (simp only [rsD] <;> omega) | fail)) only [↓rsC, rsK, rsL, ↓rsEqg1_2, tick_eq, tickV_eq, ne_eq, Int.reduceAdd, Int.reduceSub, Int.reduceMul, Int.reduceEq, Int.reduceLT, Int.reduceLE, Int.reduceToNat, Nat.reduceMul, Nat.reduceAdd, Nat.reduceSub, ←decide_not, k1, k2, k3, k4]
    have e : decide (x.d = y.d) = decide (x.p = y.p ∧ x.d = y.d) := decide_eq_decide.2 ⟨fun h => ⟨hp, h⟩, fun h => h.2⟩
    rw [e]
    exact ⟨rfl, X12.trans (F3.trans F4)⟩
  · rw [decide_eq_false hp]
    simp (disch := (first | omega | decide | (simp only [rsD] <;> omega) | fail)) only [↓rsC, rsK, rsL, ↓rsEqg1_2, tick_eq, tickV_eq, ne_eq, Int.reduceAdd, Int.reduceSub, Int.reduceMul, Int.reduceEq, Int.reduceLT, Int.reduceLE, Int.reduceToNat, Nat.reduceMul, Nat.reduceAdd, Nat.reduceSub, ←decide_not, k1, k2]
    exact ⟨by rw [decide_eq_false (fun h => hp h.1)], X12.trans F3⟩
abbrev SameN (ns ns' : List GN) : Prop := ns.map bare = ns'.map bare
abbrev SameG (ns : List GN) (rs : List GR) (ns' : List GN) (rs' : List GR) : Prop := SameN ns ns' ∧ rs = rs'
theorem bare_eq {x y : GN} : bare x = bare y ↔ x.p = y.p ∧ x.d = y.d := by
  constructor
  · intro h
    show (bare x).p = (bare y).p ∧ (bare x).d = (bare y).d
    rw [h]
    exact ⟨rfl, rfl⟩
  · rintro ⟨h1, h2⟩
    unfold bare
    rw [h1, h2]
theorem sameN_at {ns ns' : List GN} (hl : ns.length = ns'.length) : SameN ns ns' ↔ ∀ i (h : i < ns.length) (h' : i < ns'.length), ns[i].p = ns'[i].p ∧ ns[i].d = ns'[i].d := by
  constructor
  · intro h i h1 h2
    have : (ns.map bare)[i]? = (ns'.map bare)[i]? := by rw [h]
    rw [List.getElem?_map, List.getElem?_map, List.getElem?_eq_getElem h1, List.getElem?_eq_getElem h2] at this
    exact bare_eq.1 (Option.some.inj this)
  · intro h
    refine List.ext_getElem (by simpa using hl) fun i h1 h2 => ?_
    rw [List.getElem_map, List.getElem_map]
    exact bare_eq.2 (h i (by simpa using h1) (by simpa using h2))
abbrev BoolR (p : Prop) (w w' : World) (u : Value) : Prop := (∃ b : Bool, u = .bool b ∧ (b = true ↔ p)) ∧ Ext [] w w'
abbrev rsEqg1_3 := (And.intro @xu8_add (And.intro @xu8_com (And.intro @xu8_neq (And.intro @xu8_lss (And.intro @xu16_add (And.intro @xu16_com (And.intro @xu16_neq (And.intro @xu16_lss (And.intro @xu32_add (And.intro @xu32_com (And.intro @xu32_neq (And.intro @xu32_lss (And.intro @xu64_add (And.intro @xu64_com (And.intro @xu64_neq (And.intro @xu64_lss 
  (And.intro @xi64_lss (And.intro @xi64_neq (And.intro @xi64_neg (And.intro @ld_72 (And.intro @al_72 (And.intro @st_72 (And.intro @ia_22 @ln_22)))))))))))))))))))))))
theorem eqNs_spec {w : World} {ns ns' : List GN} {na na' : Option Addr} {nc nc' : Nat} (h : RowAt w na (ns.flatMap gnC)) (h' : RowAt w na' (ns'.flatMap gnC)) (hk : ∀ x ∈ ns, NOk w x) (hk' : ∀ x ∈ ns', NOk w x)
    (hf : ns.length ≤ 100000 ∧ ∀ x ∈ ns, x.p.length ≤ 1000000 ∧ x.d.length ≤ 1000000) (hf' : ns'.length ≤ 100000 ∧ ∀ x ∈ ns', x.p.length ≤ 1000000 ∧ x.d.length ≤ 1000000) :
    Yld Try.prog n_slices_EqualFunc_graph_Node_graph_Node_graph_Node_graph_Node #[.slice na ns.length nc, .slice na' ns'.length nc', .func (.func n_graph_Equal_1) #[] #[]] w fun u w' => BoolR (SameN ns ns') w w' u := by
  refine slices_EqualFunc_graph_Node_graph_Node_graph_Node_graph_Node_of ?_
  unfold slices_EqualFunc_graph_Node_graph_Node_graph_Node_graph_Node
  by_cases hne : ns.length = ns'.length
  case neg =>
    have : ¬ ((ns.length : Int) = ns'.length) := by omega
    simp (disch := (first | omega | decide | (simp only [rsD] <;> omega) | fail)) only [↓rsC, rsK, rsL, ↓rsEqg1_3, tick_eq, tickV_eq, ne_eq, Int.reduceAdd, Int.reduceSub, Int.reduceMul, Int.reduceEq, Int.reduceLT, Int.reduceLE, Int.reduceToNat, Nat.reduceMul, Nat.reduceAdd, Nat.reduceSub, ←decide_not, eq_self]
    exact ⟨⟨false, rfl, by simp; intro h; exact hne (by simpa using congrArg List.length h)⟩, Ext.refl _ _⟩
  have : ((ns.length : Int) = ns'.length) := by omega
  simp (disch := (first | omega | decide | (simp only [rsD] <;> omega) | fail)) only [↓rsC, rsK, rsL, ↓rsEqg1_3, tick_eq, tickV_eq, ne_eq, Int.reduceAdd, Int.reduceSub, Int.reduceMul, Int.reduceEq, Int.reduceLT, Int.reduceLE, Int.reduceToNat, Nat.reduceMul, Nat.reduceAdd, Nat.reduceSub, ←decide_not, eq_self]
  refine xLoop_n ns.length (fun j => [i64 (j : Int)]) (fun j w' => Ext [] w w' ∧ ∀ i (hi : i < ns.length) (hi' : i < ns'.length), i < j → ns[i].p = ns'[i].p ∧ ns[i].d = ns'[i].d) rfl ⟨Ext.refl _ _, by intro i _ _ hi; omega⟩ ?_ ?_
  · rintro j hj u w1 hu ⟨F, hq2⟩ nxt hn
    simp only [List.map_cons, List.map_nil, List.cons.injEq, and_true] at hu
    rw [hu]
    have hj' : j < ns'.length := by omega
    obtain ⟨b, o, rfl, hlt, c1, c2⟩ := gn_at (h.ext0 F) hj
    have m1 := List.getElem_mem hj
    have m2 := List.getElem_mem hj'
    have x1 := (hk _ m1).ext0 F
    have x2 := (hk' _ m2).ext0 F
    have l1 := hf.2 _ m1
    have l2 := hf'.2 _ m2
    unfold slices_EqualFunc_graph_Node_graph_Node_graph_Node_graph_Node_l1
    simp (disch := (first | omega | decide | (simp only [rsD] <;> omega) | fail)) only [↓rsC, rsK, rsL, ↓rsEqg1_3, tick_eq, tickV_eq, ne_eq, Int.reduceAdd, Int.reduceSub, Int.reduceMul, Int.reduceEq, Int.reduceLT, Int.reduceLE, Int.reduceToNat, Nat.reduceMul, Nat.reduceAdd, Nat.reduceSub, ←decide_not, c1, c2]
    have B1 : Blk (w1.alloc (.cells (gnC ns[j]).toArray 72)) w1.heap.size 72 (gnC ns[j]) := Blk.at rfl
    have X1 : Ext [] w1 (w1.alloc (.cells (gnC ns[j]).toArray 72)) := Ext.alloc _ _ _
    obtain ⟨bb, oo, rfl, hlt2, c3, c4⟩ := gn_at (h'.ext0 (F.trans X1)) hj'
    have x1 := x1.ext0 X1
    have x2 := x2.ext0 X1
    have F1 := F.trans X1
    generalize w1.alloc (.cells (gnC ns[j]).toArray 72) = y1 at *
    generalize w1.heap.size = g1 at *
    simp (disch := (first | omega | decide | (simp only [rsD] <;> omega) | fail)) only [↓rsC, rsK, rsL, ↓rsEqg1_3, tick_eq, tickV_eq, ne_eq, Int.reduceAdd, Int.reduceSub, Int.reduceMul, Int.reduceEq, Int.reduceLT, Int.reduceLE, Int.reduceToNat, Nat.reduceMul, Nat.reduceAdd, Nat.reduceSub, ←decide_not, c1, c2, c3, c4]
    have B2 : Blk (y1.alloc (.cells (gnC ns'[j]).toArray 72)) y1.heap.size 72 (gnC ns'[j]) := Blk.at rfl
    have X2 : Ext [] y1 (y1.alloc (.cells (gnC ns'[j]).toArray 72)) := Ext.alloc _ _ _
    have x1 := x1.ext0 X2
    have x2 := x2.ext0 X2
    have F2 := F1.trans X2
    have B12 := B1.ext X2 (by simp)
    generalize y1.alloc (.cells (gnC ns'[j]).toArray 72) = y2 at *
    generalize y1.heap.size = g2 at *
    have k1 := fun i => B12.cell (i := i)
    have k2 := fun i => B2.cell (i := i)
    simp (disch := (first | omega | decide | (simp only [rsD] <;> omega) | fail)) only [↓rsC, rsK, rsL, ↓rsEqg1_3, tick_eq, tickV_eq, ne_eq, Int.reduceAdd, Int.reduceSub, Int.reduceMul, Int.reduceEq, Int.reduceLT, Int.reduceLE, Int.reduceToNat, Nat.reduceMul, Nat.reduceAdd, Nat.reduceSub, ←decide_not, c1, c2, c3, c4, k1, k2]
    refine graph_Equal_1_call (Gives.to (eqN_spec x1 x2 l1 l2) fun y3 F3 => ?_)
    by_cases he : ns[j].p = ns'[j].p ∧ ns[j].d = ns'[j].d
    · rw [decide_eq_true he]
      simp (disch := (first | omega | decide | (simp only [rsD] <;> omega) | fail)) only [↓rsC, rsK, rsL, ↓rsEqg1_3, tick_eq, tickV_eq, ne_eq, Int.reduceAdd, Int.reduceSub, Int.reduceMul, Int.reduceEq, Int.reduceLT, Int.reduceLE, Int.reduceToNat, Nat.reduceMul, Nat.reduceAdd, Nat.reduceSub, ←decide_not, c1, c2, c3, c4, k1, k2]
      refine hn _ ⟨F2.trans F3, fun i hi hi' h3 => ?_⟩
      by_cases ei : i = j
      · subst ei; exact he
      · exact hq2 i hi hi' (by omega)
    · rw [decide_eq_false he]
      simp (disch := (first | omega | decide | (simp only [rsD] <;> omega) | fail)) only [↓rsC, rsK, rsL, ↓rsEqg1_3, tick_eq, tickV_eq, ne_eq, Int.reduceAdd, Int.reduceSub, Int.reduceMul, Int.reduceEq, Int.reduceLT, Int.reduceLE, Int.reduceToNat, Nat.reduceMul, Nat.reduceAdd, Nat.reduceSub, ←decide_not, c1, c2, c3, c4, k1, k2]
      exact ⟨⟨false, rfl, by simp only [Bool.false_eq_true, false_iff]; exact fun h => he ((sameN_at hne).1 h j hj hj')⟩, F2.trans F3⟩
  · rintro u w1 hu ⟨F, hq2⟩ nxt
    simp only [List.map_cons, List.map_nil, List.cons.injEq, and_true] at hu
    rw [hu]
    unfold slices_EqualFunc_graph_Node_graph_Node_graph_Node_graph_Node_l1
    simp (disch := (first | omega | decide | (simp only [rsD] <;> omega) | fail)) only [↓rsC, rsK, rsL, ↓rsEqg1_3, tick_eq, tickV_eq, ne_eq, Int.reduceAdd, Int.reduceSub, Int.reduceMul, Int.reduceEq, Int.reduceLT, Int.reduceLE, Int.reduceToNat, Nat.reduceMul, Nat.reduceAdd, Nat.reduceSub, ←decide_not, eq_self]
    exact ⟨⟨true, rfl, by simp only [true_iff]; exact (sameN_at hne).2 fun i h1 h2 => hq2 i h1 h2 h1⟩, F⟩
end Go.Proofs.Ytdpmidgeipibbaa
end
section
set_option linter.unusedVariables false
set_option linter.unusedSimpArgs false
set_option maxHeartbeats 4000000
namespace Go.Proofs.Ytdpmidgeipibbaa
open Go.Sh Go.RowKit

theorem rs_ext {rs rs' : List GR} (hl : rs.length = rs'.length) (h : ∀ i (h1 : i < rs.length) (h2 : i < rs'.length), rs[i].s = rs'[i].s ∧ rs[i].to = rs'[i].to) : rs = rs' := by
  refine List.ext_getElem hl fun i h1 h2 => ?_
  obtain ⟨e1, e2⟩ := h i h1 h2
  generalize rs[i] = x at *
  generalize rs'[i] = y at *
  cases x
  cases y
  simp only at e1 e2
  rw [e1, e2]
abbrev rsEqg2_0 := (And.intro @xu8_add (And.intro @xu8_neq (And.intro @xu8_lss (And.intro @xu16_add (And.intro @xu16_neq (And.intro @xu16_lss (And.intro @xu32_add (And.intro @xu32_neq (And.intro @xu32_lss (And.intro @xu64_add (And.intro @xu64_neq (And.intro @xu64_lss (And.intro @xi64_lss (And.intro @xi64_neq (And.intro @xi64_neg (And.intro @ld_74 
  (And.intro @ns_74 (And.intro @ia_23 @ln_23))))))))))))))))))
theorem eqRs_spec {w : World} {rs rs' : List GR} {ra ra' : Option Addr} {rc rc' : Nat} (h : RowAt w ra (rs.flatMap grC)) (h' : RowAt w ra' (rs'.flatMap grC)) (hf : rs.length ≤ 100000) (hf' : rs'.length ≤ 100000) :
    Yld Try.prog n_slices_Equal_graph_Root_graph_Root #[.slice ra rs.length rc, .slice ra' rs'.length rc'] w fun u w' => BoolR (rs = rs') w w' u := by
  refine slices_Equal_graph_Root_graph_Root_of ?_
  unfold slices_Equal_graph_Root_graph_Root
  by_cases hne : rs.length = rs'.length
  case neg =>
    have : ¬ ((rs.length : Int) = rs'.length) := by omega
    simp (disch := (first | omega | decide | (simp only [rsD] <;> omega) | fail)) only [↓rsC, rsK, rsL, ↓rsEqg2_0, tick_eq, tickV_eq, ne_eq, Int.reduceAdd, Int.reduceSub, Int.reduceMul, Int.reduceEq, Int.reduceLT, Int.reduceLE, Int.reduceToNat, Nat.reduceMul, Nat.reduceAdd, Nat.reduceSub, ←decide_not, eq_self]
    exact ⟨⟨false, rfl, by simp; intro h; exact hne (by rw [h])⟩, Ext.refl _ _⟩
  have : ((rs.length : Int) = rs'.length) := by omega
  simp (disch := (first | omega | decide | (simp only [rsD] <;> omega) | fail)) only [↓rsC, rsK, rsL, ↓rsEqg2_0, tick_eq, tickV_eq, ne_eq, Int.reduceAdd, Int.reduceSub, Int.reduceMul, Int.reduceEq, Int.reduceLT, Int.reduceLE, Int.reduceToNat, Nat.reduceMul, Nat.reduceAdd, Nat.reduceSub, ←decide_not, eq_self]
  refine xLoop_n rs.length (fun j => [i64 (j : Int)]) (fun j w' => Ext [] w w' ∧ ∀ i (hi : i < rs.length) (hi' : i < rs'.length), i < j → rs[i].s = rs'[i].s ∧ rs[i].to = rs'[i].to) rfl ⟨Ext.refl _ _, by intro i _ _ hi; omega⟩ ?_ ?_
  · rintro j hj u w1 hu ⟨F, hq2⟩ nxt hn
    simp only [List.map_cons, List.map_nil, List.cons.injEq, and_true] at hu
    rw [hu]
    have hj' : j < rs'.length := by omega
    have F1 := F.trans (Ext.drew [] w1)
    obtain ⟨b, o, rfl, hlt, c1, c2⟩ := gr_at (h.ext0 F1) hj
    obtain ⟨bb, oo, rfl, hlt2, c3, c4⟩ := gr_at (h'.ext0 F1) hj'
    unfold slices_Equal_graph_Root_graph_Root_l1
    by_cases he : rs[j].s = rs'[j].s ∧ rs[j].to = rs'[j].to
    · have hnx : ∀ i (hi : i < rs.length) (hi' : i < rs'.length), i < j + 1 → rs[i].s = rs'[i].s ∧ rs[i].to = rs'[i].to := fun i hi hi' h3 => by
        by_cases ei : i = j
        · subst ei; exact he
        · exact hq2 i hi hi' (by omega)
      rw [he.1] at c1
      rw [he.2] at c2
      generalize rs'[j] = y at *
      simp (disch := (first | omega | decide | (simp only [rsD] <;> omega) | fail)) only [↓rsC, rsK, rsL, ↓rsEqg2_0, tick_eq, tickV_eq, ne_eq, Int.reduceAdd, Int.reduceSub, Int.reduceMul, Int.reduceEq, Int.reduceLT, Int.reduceLE, Int.reduceToNat, Nat.reduceMul, Nat.reduceAdd, Nat.reduceSub, ←decide_not, c1, c2, c3, c4]
      exact hn _ ⟨F1, hnx⟩
    · have hno : ¬ rs = rs' := fun e2 => he (by subst e2; exact ⟨rfl, rfl⟩)
      have hb : (decide (strOf rs[j].s = strOf rs'[j].s) && decide (rs[j].to = rs'[j].to)) = false := by
        rw [Bool.and_eq_false_iff, decide_eq_false_iff_not, decide_eq_false_iff_not, strOf_inj]
        exact Classical.not_and_iff_not_or_not.1 he
      simp (disch := (first | omega | decide | (simp only [rsD] <;> omega) | fail)) only [↓rsC, rsK, rsL, ↓rsEqg2_0, tick_eq, tickV_eq, ne_eq, Int.reduceAdd, Int.reduceSub, Int.reduceMul, Int.reduceEq, Int.reduceLT, Int.reduceLE, Int.reduceToNat, Nat.reduceMul, Nat.reduceAdd, Nat.reduceSub, ←decide_not, c1, c2, c3, c4, hb]
      exact ⟨⟨false, rfl, by simpa using hno⟩, F1⟩
  · rintro u w1 hu ⟨F, hq2⟩ nxt
    simp only [List.map_cons, List.map_nil, List.cons.injEq, and_true] at hu
    rw [hu]
    unfold slices_Equal_graph_Root_graph_Root_l1
    simp (disch := (first | omega | decide | (simp only [rsD] <;> omega) | fail)) only [↓rsC, rsK, rsL, ↓rsEqg2_0, tick_eq, tickV_eq, ne_eq, Int.reduceAdd, Int.reduceSub, Int.reduceMul, Int.reduceEq, Int.reduceLT, Int.reduceLE, Int.reduceToNat, Nat.reduceMul, Nat.reduceAdd, Nat.reduceSub, ←decide_not, eq_self]
    exact ⟨⟨true, rfl, by simp only [true_iff]; exact rs_ext hne fun i h1 h2 => hq2 i h1 h2 h1⟩, F⟩
abbrev rsEqg2_1 := (And.intro @ld_22 (And.intro @ld_23 (And.intro @fa_25_0 @fa_25_1)))
theorem GEqual_spec {w : World} {ns ns' : List GN} {rs rs' : List GR} {na na' ra ra' : Option Addr} {nc nc' rc rc' : Nat} (h : GIs w na nc ra rc ns rs) (h' : GIs w na' nc' ra' rc' ns' rs') (hf : FewH ns rs) (hf' : FewH ns' rs') :
    Yld Try.prog n_graph_Equal #[gV na nc ra rc ns rs, gV na' nc' ra' rc' ns' rs'] w fun u w' => BoolR (SameG ns rs ns' rs') w w' u := by
  have few : ∀ {ns : List GN} {rs : List GR}, FewH ns rs → ns.length ≤ 100000 ∧ ∀ x ∈ ns, x.p.length ≤ 1000000 ∧ x.d.length ≤ 1000000 := fun hf => ⟨by have := hf.n; omega, fun x hx => by have := hf.x x hx; omega⟩
  refine graph_Equal_of ?_
  unfold graph_Equal
  have bx : ∀ (na : Option Addr) (nc : Nat) (ra : Option Addr) (rc : Nat) (ns : List GN) (rs : List GR) (y : World) (K : K1), xBox Try.prog 25 (gV na nc ra rc ns rs) y K = K (ptr y.heap.size) (y.alloc (.cells #[.slice na ns.length nc, .slice ra rs.length rc] 25)) := fun _ _ _ _ _ _ y K => xBox_r
  rw [bx, bx]
  have B1 : Blk (w.alloc (.cells #[.slice na ns.length nc, .slice ra rs.length rc] 25)) w.heap.size 25 [.slice na ns.length nc, .slice ra rs.length rc] := Blk.at rfl
  have X1 : Ext [] w (w.alloc (.cells #[.slice na ns.length nc, .slice ra rs.length rc] 25)) := Ext.alloc _ _ _
  generalize w.alloc (.cells #[.slice na ns.length nc, .slice ra rs.length rc] 25) = y1 at *
  generalize w.heap.size = g1 at *
  have B2 : Blk (y1.alloc (.cells #[.slice na' ns'.length nc', .slice ra' rs'.length rc'] 25)) y1.heap.size 25 [.slice na' ns'.length nc', .slice ra' rs'.length rc'] := Blk.at rfl
  have X2 : Ext [] y1 (y1.alloc (.cells #[.slice na' ns'.length nc', .slice ra' rs'.length rc'] 25)) := Ext.alloc _ _ _
  generalize y1.alloc (.cells #[.slice na' ns'.length nc', .slice ra' rs'.length rc'] 25) = y2 at *
  generalize y1.heap.size = g2 at *
  have X12 := X1.trans X2
  have B12 := B1.ext X2 (by simp)
  have g := h.ext0 X12
  have g' := h'.ext0 X12
  have k1 := fun i => B12.cell (i := i)
  have k2 := fun i => B2.cell (i := i)
  simp (disch := (first | omega | decide | (simp only [rsD] <;> omega) | fail)) only [↓rsC, rsK, rsL, ↓rsEqg2_1, tick_eq, tickV_eq, ne_eq, Int.reduceAdd, Int.reduceSub, Int.reduceMul, Int.reduceEq, Int.reduceLT, Int.reduceLE, Int.reduceToNat, Nat.reduceMul, Nat.reduceAdd, Nat.reduceSub, ←decide_not, k1, k2]
  refine slices_EqualFunc_graph_Node_graph_Node_graph_Node_graph_Node_call (Yld.mono (eqNs_spec g.nr g'.nr g.ok g'.ok (few hf) (few hf')) ?_)
  rintro u y3 ⟨⟨b, rfl, hb⟩, F3⟩
  have k3 := fun i => (B12.ext F3 (by simp)).cell (i := i)
  have k4 := fun i => (B2.ext F3 (by simp)).cell (i := i)
  cases b with
  | false =>
    simp (disch := (first | omega | decide | (simp only [rsD] <;> omega) | fail)) only [↓rsC, rsK, rsL, ↓rsEqg2_1, tick_eq, tickV_eq, ne_eq, Int.reduceAdd, Int.reduceSub, Int.reduceMul, Int.reduceEq, Int.reduceLT, Int.reduceLE, Int.reduceToNat, Nat.reduceMul, Nat.reduceAdd, Nat.reduceSub, ←decide_not, k1, k2]
    exact ⟨⟨false, rfl, by simp only [Bool.false_eq_true, false_iff]; exact fun h => by have := hb.2 h.1; cases this⟩, X12.trans F3⟩
  | true =>
    simp (disch := (first | omega | decide | (simp only [rsD] <;> omega) | fail)) only [↓rsC, rsK, rsL, ↓rsEqg2_1, tick_eq, tickV_eq, ne_eq, Int.reduceAdd, Int.reduceSub, Int.reduceMul, Int.reduceEq, Int.reduceLT, Int.reduceLE, Int.reduceToNat, Nat.reduceMul, Nat.reduceAdd, Nat.reduceSub, ←decide_not, k1, k2, k3, k4]
    refine slices_Equal_graph_Root_graph_Root_call (Yld.mono (eqRs_spec (g.rr.ext0 F3) (g'.rr.ext0 F3) (by have := hf.r; omega) (by have := hf'.r; omega)) ?_)
    rintro u y4 ⟨⟨b, rfl, hb2⟩, F4⟩
    simp (disch := (first | omega | decide | (simp only [rsD] <;> omega) | fail)) only [↓rsC, rsK, rsL, ↓rsEqg2_1, tick_eq, tickV_eq, ne_eq, Int.reduceAdd, Int.reduceSub, Int.reduceMul, Int.reduceEq, Int.reduceLT, Int.reduceLE, Int.reduceToNat, Nat.reduceMul, Nat.reduceAdd, Nat.reduceSub, ←decide_not, k1, k2, k3, k4]
    exact ⟨⟨b, rfl, ⟨fun h => ⟨hb.1 rfl, hb2.1 h⟩, fun h => hb2.2 h.2⟩⟩, X12.trans (F3.trans F4)⟩
end Go.Proofs.Ytdpmidgeipibbaa
end
section
set_option linter.unusedVariables false
set_option linter.unusedSimpArgs false
set_option maxHeartbeats 4000000
namespace Go.Proofs.Ytdpmidgeipibbaa
open Go.Sh Go.RowKit

theorem can_few {ns ns' : List GN} {rs : List GR} (hf : FewH ns rs) (h : ns'.map bare = canNs ns rs) : FewH ns' (canRs ns rs) := by
  have hl : ns'.length = (ordV ns (rs.map GR.to)).length := by
    have := congrArg List.length h
    simpa [canNs] using this
  have ho := (ord_ok ns (rs.map GR.to)).len
  refine ⟨by have := hf.n; omega, by simpa [canRs] using hf.r, fun x hx => ?_⟩
  have hm : bare x ∈ canNs ns rs := by rw [← h]; exact List.mem_map.2 ⟨x, hx, rfl⟩
  obtain ⟨q, _, e⟩ := List.mem_map.1 hm
  have e1 : x.p.length = (ptrsOf ns q).length := by
    have := congrArg (fun z => z.p.length) e
    simp only [canN, bare, List.length_map] at this
    exact this.symm
  have e2 : x.d.length = (dataOf ns q).length := by
    have := congrArg (fun z => z.d.length) e
    simp only [canN, bare] at this
    exact this.symm
  rw [e1, e2]
  unfold ptrsOf dataOf
  cases hq : ns[q.toNat - 1]? with
  | none => simp
  | some y => exact hf.x y (List.mem_of_getElem? hq)
theorem Same_spec {w : World} {ns ns' : List GN} {rs rs' : List GR} {na na' ra ra' : Option Addr} {nc nc' rc rc' : Nat} (h : GIs w na nc ra rc ns rs) (h' : GIs w na' nc' ra' rc' ns' rs') (hf : FewH ns rs) (hf' : FewH ns' rs') :
    Yld Try.prog n_canon_Same #[gV na nc ra rc ns rs, gV na' nc' ra' rc' ns' rs'] w fun u w' => BoolR (canNs ns rs = canNs ns' rs' ∧ canRs ns rs = canRs ns' rs') w w' u := by
  refine canon_Same_of ?_
  unfold canon_Same
  have bx : ∀ (na : Option Addr) (nc : Nat) (ra : Option Addr) (rc : Nat) (ns : List GN) (rs : List GR) (y : World) (K : K1), xBox Try.prog 25 (gV na nc ra rc ns rs) y K = K (ptr y.heap.size) (y.alloc (.cells #[.slice na ns.length nc, .slice ra rs.length rc] 25)) := fun _ _ _ _ _ _ y K => xBox_r
  rw [bx, bx]
  have B1 : Blk (w.alloc (.cells #[.slice na ns.length nc, .slice ra rs.length rc] 25)) w.heap.size 25 [.slice na ns.length nc, .slice ra rs.length rc] := Blk.at rfl
  have X1 : Ext [] w (w.alloc (.cells #[.slice na ns.length nc, .slice ra rs.length rc] 25)) := Ext.alloc _ _ _
  generalize w.alloc (.cells #[.slice na ns.length nc, .slice ra rs.length rc] 25) = y1 at *
  generalize w.heap.size = g1 at *
  have B2 : Blk (y1.alloc (.cells #[.slice na' ns'.length nc', .slice ra' rs'.length rc'] 25)) y1.heap.size 25 [.slice na' ns'.length nc', .slice ra' rs'.length rc'] := Blk.at rfl
  have X2 : Ext [] y1 (y1.alloc (.cells #[.slice na' ns'.length nc', .slice ra' rs'.length rc'] 25)) := Ext.alloc _ _ _
  have X2d := X2.trans (Ext.drew [] _)
  have B12 := B1.ext X2d (by simp)
  have B2 := B2.ext (Ext.drew [] _) (by simp)
  generalize (y1.alloc (.cells #[.slice na' ns'.length nc', .slice ra' rs'.length rc'] 25)).drew = y2 at *
  generalize y1.heap.size = g2 at *
  have X12 := X1.trans X2d
  have k1 := fun i => B12.cell (i := i)
  have k2 := fun i => B2.cell (i := i)
  simp (disch := (first | omega | decide | (simp only [rsD] <;> omega) | fail)) only [↓rsC, rsK, rsL, ↓ld_25, tick_eq, tickV_eq, ne_eq, Int.reduceAdd, Int.reduceSub, Int.reduceMul, Int.reduceEq, Int.reduceLT, Int.reduceLE, Int.reduceToNat, Nat.reduceMul, Nat.reduceAdd, Nat.reduceSub, ←decide_not, k1, k2]
  refine canon_Canon_call (Yld.mono (Canon_spec (h.ext0 X12) hf) ?_)
  rintro u y3 ⟨F3, na3, nc3, ra3, rc3, ns3, h3, rfl, G3⟩
  have k3 := fun i => (B2.ext F3 (by simp)).cell (i := i)
  simp (disch := (first | omega | decide | (simp only [rsD] <;> omega) | fail)) only [↓rsC, rsK, rsL, ↓ld_25, tick_eq, tickV_eq, ne_eq, Int.reduceAdd, Int.reduceSub, Int.reduceMul, Int.reduceEq, Int.reduceLT, Int.reduceLE, Int.reduceToNat, Nat.reduceMul, Nat.reduceAdd, Nat.reduceSub, ←decide_not, k1, k2, k3]
  refine canon_Canon_call (Yld.mono (Canon_spec ((h'.ext0 X12).ext0 F3) hf') ?_)
  rintro u y4 ⟨F4, na4, nc4, ra4, rc4, ns4, h4, rfl, G4⟩
  refine graph_Equal_call (Yld.mono (GEqual_spec (G3.ext0 F4) G4 (can_few hf h3) (can_few hf' h4)) ?_)
  rintro u y5 ⟨⟨b, rfl, hb⟩, F5⟩
  simp (disch := (first | omega | decide | (simp only [rsD] <;> omega) | fail)) only [↓rsC, rsK, rsL, ↓ld_25, tick_eq, tickV_eq, ne_eq, Int.reduceAdd, Int.reduceSub, Int.reduceMul, Int.reduceEq, Int.reduceLT, Int.reduceLE, Int.reduceToNat, Nat.reduceMul, Nat.reduceAdd, Nat.reduceSub, ←decide_not, k1, k2, k3]
  refine ⟨⟨b, rfl, hb.trans ?_⟩, X12.trans (F3.trans (F4.trans F5))⟩
  rw [← h3, ← h4]
end Go.Proofs.Ytdpmidgeipibbaa
end
section
set_option linter.unusedVariables false
set_option linter.unusedSimpArgs false
set_option maxHeartbeats 4000000
namespace Go.Proofs.Ytdpmidgeipibbaa
open Go.Sh Go.RowKit

end Go.Proofs.Ytdpmidgeipibbaa
end
section
set_option linter.unusedVariables false
set_option linter.unusedSimpArgs false
set_option maxHeartbeats 4000000
namespace Go.Proofs.Ytdpmidgeipibbaa
open Go.Sh Go.RowKit

def kN (a b : Nat) : GN := ⟨[1], some ⟨a, 0, none⟩, 1, [120#8], some ⟨b, 0, none⟩, 1⟩
def kR : GR := ⟨[97#8], 1⟩
def kW : List (BitVec 64) := [1296125772#64, 655361#64, 97#64, 0#64, 0#64, 0#64, 8#64, packW 1 1 false 0, 8#64, 120#64]
theorem k_bare (a b : Nat) : [kN a b].map bare = [⟨[1], none, 0, [120#8], none, 0⟩] := rfl
theorem k_enc (a b : Nat) : encW [kN a b] [kR] = kW := by
  rw [← bare_enc, k_bare]
  decide +kernel
theorem k_good (a b : Nat) : GoodG [kN a b] [kR] := by
  rw [← bare_good, k_bare]
  refine ⟨fun x hx => ?_, by decide, fun r hr => ?_, fun i hi => ?_⟩
  · rw [List.mem_singleton] at hx
    subst hx
    refine ⟨fun p hp => ?_, by decide, by decide⟩
    rw [List.mem_singleton] at hp
    subst hp
    decide
  · rw [List.mem_singleton] at hr
    subst hr
    decide
  · simp at hi
theorem k_need (a b : Nat) : 2 + 5 * [kR].length + gW [kN a b] = 10 := by
  rw [← bare_gW, k_bare]
  decide
theorem k_encC (a b : Nat) : encC [kN a b] [kR] = 0 := by
  unfold encC
  rw [chk_zero.2 (k_good a b), k_need]
  decide
theorem noDec : ∀ os, ¬ DecOk [] os := fun os D => by have := D.two; simp at this
/-- a graph's words, decoded: that graph -/
theorem decR_enc {w' : World} {ns : List GN} {rs : List GR} {u : Value} (hg : GoodG ns rs) (hN : 2 + 5 * rs.length + gW ns ≤ 8192) (D : DecR w' (encW ns rs) u) : ∃ na nc ra rc ns', SameN ns' ns ∧ u = .tuple #[gV na nc ra rc ns' rs, i64 0] ∧ GIs w' na nc ra rc ns' rs := by
  have h0 := dec_ok hg hN
  rcases D with ⟨os, na, nc, ra, rc, ns', DO, hb, rfl, G⟩ | ⟨hno, _⟩
  · obtain ⟨rfl, _⟩ := DO.sc.uniq h0.sc
    obtain ⟨e1, e2⟩ := dec_enc hg hN
    rw [e2] at G ⊢
    exact ⟨na, nc, ra, rc, ns', hb.trans e1, rfl, G⟩
  · exact absurd h0 (hno _)
theorem few_same {ns ns' : List GN} {rs : List GR} (h : SameN ns' ns) (hf : FewH ns rs) : FewH ns' rs := by
  have hl : ns'.length = ns.length := by simpa using congrArg List.length h
  refine ⟨by have := hf.n; omega, hf.r, fun x hx => ?_⟩
  obtain ⟨i, hi, rfl⟩ := List.getElem_of_mem hx
  obtain ⟨e1, e2⟩ := (sameN_at hl).1 h i hi (by omega)
  rw [e1, e2]
  exact hf.x _ (List.getElem_mem _)
theorem boolR_true {p : Prop} {w w' : World} {u : Value} (h : BoolR p w w' u) (hp : p) : u = .bool true ∧ Ext [] w w' := by
  obtain ⟨⟨b, rfl, hb⟩, F⟩ := h
  rw [hb.2 hp]
  exact ⟨rfl, F⟩
abbrev rsImg3_0 := (And.intro @xu8_add (And.intro @xu8_eql (And.intro @xu16_add (And.intro @xu16_eql (And.intro @xu32_add (And.intro @xu32_eql (And.intro @xu64_add (And.intro @xu64_eql (And.intro @xi64_eql (And.intro @ld_25 (And.intro @ld_69 (And.intro @al_25 (And.intro @st_25 (And.intro @bd_25_0_1 (And.intro @bd_25 (And.intro @bd_72_0_1 (And.intro @bd_72_1 
  (And.intro @bd_74_0_1 (And.intro @ia_28 (And.intro @ln_28 (And.intro @bs_22_1 (And.intro @bs_23_1 (And.intro @bs_66_0 (And.intro @bs_66_1 (And.intro @bs_70_0 @bs_70_1)))))))))))))))))))))))))
theorem known23_spec (w : World) : Gives Try.prog n_loamlaw23_known #[] w (.bool true) := by
  refine loamlaw23_known_of ?_
  unfold loamlaw23_known
  simp (disch := (first | omega | decide | (simp only [rsD] <;> omega) | fail)) only [↓rsC, rsK, rsL, ↓rsImg3_0, tick_eq, tickV_eq, ne_eq, Int.reduceAdd, Int.reduceSub, Int.reduceMul, Int.reduceEq, Int.reduceLT, Int.reduceLE, Int.reduceToNat, Nat.reduceMul, Nat.reduceAdd, Nat.reduceSub, ←decide_not, eq_self]
  have B1 : Blk (w.alloc (.cells #[i64 1] 3)) w.heap.size 3 [i64 1] := Blk.at rfl
  have X1 : Ext [] w (w.alloc (.cells #[i64 1] 3)) := Ext.alloc _ _ _
  have zs1 : (w.alloc (.cells #[i64 1] 3)).heap.size = w.heap.size + 1 := World.size_alloc _ _
  generalize w.alloc (.cells #[i64 1] 3) = y1 at *
  rw [← zs1]
  refine xConv_bytes (cs := bys [120#8]) (by kernel_rfl) (by kernel_rfl) fun y2 X2 R2 z2 => ?_
  have R1 := B1.row.ext0 X2
  generalize w.heap.size = g1 at *
  generalize y1.heap.size = g2 at *
  simp (disch := (first | omega | decide | (simp only [rsD] <;> omega) | fail)) only [↓rsC, rsK, rsL, ↓rsImg3_0, tick_eq, tickV_eq, ne_eq, Int.reduceAdd, Int.reduceSub, Int.reduceMul, Int.reduceEq, Int.reduceLT, Int.reduceLE, Int.reduceToNat, Nat.reduceMul, Nat.reduceAdd, Nat.reduceSub, ←decide_not, eq_self]
  have B3 : Blk (y2.alloc (.cells #[.slice (some ⟨g1, 0, none⟩) 1 1, .slice (some ⟨g2, 0, none⟩) 1 1] 72)) y2.heap.size 72 [.slice (some ⟨g1, 0, none⟩) 1 1, .slice (some ⟨g2, 0, none⟩) 1 1] := Blk.at rfl
  have X3 : Ext [] y2 (y2.alloc (.cells #[.slice (some ⟨g1, 0, none⟩) 1 1, .slice (some ⟨g2, 0, none⟩) 1 1] 72)) := Ext.alloc _ _ _
  have zs3 : (y2.alloc (.cells #[.slice (some ⟨g1, 0, none⟩) 1 1, .slice (some ⟨g2, 0, none⟩) 1 1] 72)).heap.size = y2.heap.size + 1 := World.size_alloc _ _
  generalize y2.alloc (.cells #[.slice (some ⟨g1, 0, none⟩) 1 1, .slice (some ⟨g2, 0, none⟩) 1 1] 72) = y3 at *
  rw [← zs3]
  generalize y2.heap.size = g3 at *
  have B4 : Blk (y3.alloc (.cells #[.string ⟨#[97]⟩, i64 1] 74)) y3.heap.size 74 [.string ⟨#[97]⟩, i64 1] := Blk.at rfl
  have X4 : Ext [] y3 (y3.alloc (.cells #[.string ⟨#[97]⟩, i64 1] 74)) := Ext.alloc _ _ _
  generalize y3.alloc (.cells #[.string ⟨#[97]⟩, i64 1] 74) = y4 at *
  generalize y3.heap.size = g4 at *
  have B5 : Blk (y4.alloc (.cells #[.slice (some ⟨g3, 0, none⟩) 1 1, .slice (some ⟨g4, 0, none⟩) 1 1] 25)) y4.heap.size 25 [.slice (some ⟨g3, 0, none⟩) 1 1, .slice (some ⟨g4, 0, none⟩) 1 1] := Blk.at rfl
  have X5 : Ext [] y4 (y4.alloc (.cells #[.slice (some ⟨g3, 0, none⟩) 1 1, .slice (some ⟨g4, 0, none⟩) 1 1] 25)) := Ext.alloc _ _ _
  generalize y4.alloc (.cells #[.slice (some ⟨g3, 0, none⟩) 1 1, .slice (some ⟨g4, 0, none⟩) 1 1] 25) = y5 at *
  generalize y4.heap.size = g5 at *
  have cA : ({ data := #[97] } : ByteArray) = strOf [97#8] := by decide +kernel
  have X25 := X3.trans (X4.trans X5)
  have Xw : Ext [] w y5 := X1.trans (X2.trans X25)
  have G : GIs y5 (some ⟨g3, 0, none⟩) 1 (some ⟨g4, 0, none⟩) 1 [kN g1 g2] [kR] := by
    refine ⟨(B3.ext (X4.trans X5) (by simp)).row, Nat.le_refl _, fun e => (by cases e), ?_, Nat.le_refl _, fun e => (by cases e), fun x hx => ?_⟩
    · have := (B4.ext X5 (by simp)).row
      rw [cA] at this
      exact this
    · rw [List.mem_singleton] at hx
      subst hx
      exact ⟨R1.ext0 X25, Nat.le_refl _, fun e => (by cases e), R2.ext0 X25, Nat.le_refl _, fun e => (by cases e)⟩
  have hf : FewH [kN g1 g2] [kR] := ⟨by simp, by simp, fun x hx => by rw [List.mem_singleton] at hx; subst hx; simp [kN]⟩
  have hneed := k_need g1 g2
  have hE : Yld Try.prog n_image_Encode #[.agg #[.slice (some ⟨g3, 0, none⟩) 1 1, .slice (some ⟨g4, 0, none⟩) 1 1]] y5 fun u w' => EncR y5 w' [kN g1 g2] [kR] u := iEncode_spec G hf
  refine image_Encode_call (Yld.mono hE ?_)
  rintro u y6 (⟨hne, _⟩ | ⟨_, _, _, ae, ce, rfl, hce, hae, R6, F6⟩)
  · exact absurd (k_encC g1 g2) hne
  have hD6 : ∀ {w' u}, DecR w' kW u → DecR w' (encW [kN g1 g2] [kR]) u := fun h => by rw [k_enc]; exact h
  rw [k_enc] at hce R6 ⊢
  simp (disch := (first | omega | decide | (simp only [rsD] <;> omega) | fail)) only [↓rsC, rsK, rsL, ↓rsImg3_0, tick_eq, tickV_eq, ne_eq, Int.reduceAdd, Int.reduceSub, Int.reduceMul, Int.reduceEq, Int.reduceLT, Int.reduceLE, Int.reduceToNat, Nat.reduceMul, Nat.reduceAdd, Nat.reduceSub, ←decide_not, eq_self]
  refine image_Decode_call (Yld.mono (iDecode_spec R6 hce hae (by decide)) ?_)
  rintro u y7 ⟨F7, D7⟩
  obtain ⟨na, nc, ra, rc, ns', hsame, rfl, G7⟩ := decR_enc (k_good g1 g2) (by omega) (hD6 D7)
  have hf7 := few_same hsame hf
  have hnl : ns'.length = 1 := by simpa using congrArg List.length hsame
  simp (disch := (first | omega | decide | (simp only [rsD] <;> omega) | fail)) only [↓rsC, rsK, rsL, ↓rsImg3_0, tick_eq, tickV_eq, ne_eq, Int.reduceAdd, Int.reduceSub, Int.reduceMul, Int.reduceEq, Int.reduceLT, Int.reduceLE, Int.reduceToNat, Nat.reduceMul, Nat.reduceAdd, Nat.reduceSub, ←decide_not, eq_self]
  have B8 : Blk (y7.alloc (.cells #[.slice na ns'.length nc, .slice ra [kR].length rc] 25)) y7.heap.size 25 [.slice na ns'.length nc, .slice ra [kR].length rc] := Blk.at rfl
  have X8 : Ext [] y7 (y7.alloc (.cells #[.slice na ns'.length nc, .slice ra [kR].length rc] 25)) := Ext.alloc _ _ _
  generalize y7.alloc (.cells #[.slice na ns'.length nc, .slice ra [kR].length rc] 25) = y8 at *
  generalize y7.heap.size = g8 at *
  refine image_Decode_call (Yld.mono (iDecode_spec (l := []) (a := none) (c := 0) .nil (Nat.le_refl _) (fun _ => rfl) (by decide)) ?_)
  rintro u y9 ⟨F9, D9⟩
  rcases D9 with ⟨os, _, _, _, _, _, DO, _⟩ | ⟨_, rfl⟩
  · exact absurd DO (noDec os)
  simp (disch := (first | omega | decide | (simp only [rsD] <;> omega) | fail)) only [↓rsC, rsK, rsL, ↓rsImg3_0, tick_eq, tickV_eq, ne_eq, Int.reduceAdd, Int.reduceSub, Int.reduceMul, Int.reduceEq, Int.reduceLT, Int.reduceLE, Int.reduceToNat, Nat.reduceMul, Nat.reduceAdd, Nat.reduceSub, ←decide_not, eq_self]
  have X10 : Ext [] y9 (y9.alloc (.cells #[.slice none 0 0, .slice none 0 0] 25)) := Ext.alloc _ _ _
  generalize y9.alloc (.cells #[.slice none 0 0, .slice none 0 0] 25) = y10 at *
  have F610 := F7.trans (X8.trans (F9.trans X10))
  have R10 := R6.ext0 F610
  have G10 := G.ext0 (F6.trans F610)
  have G10' := G7.ext0 (X8.trans (F9.trans X10))
  have B5x := (B5.ext (F6.trans F610) (by simp))
  have B8x := (B8.ext (F9.trans X10) (by simp))
  have hkw : ∀ i, i < kW.length → ∃ b o, ae = some ⟨b, o, none⟩ ∧ y10.cell? ⟨b, o + i, none⟩ = some (u64 (wat kW i)) := fun i hi => by
    obtain ⟨b, o, h1, _, h2⟩ := row_w R10 hi
    exact ⟨b, o, h1, h2⟩
  obtain ⟨bw, ow, rfl, c0⟩ := hkw 0 (by decide)
  have hkw : ∀ i, i < kW.length → y10.cell? ⟨bw, ow + i, none⟩ = some (u64 (wat kW i)) := fun i hi => by
    obtain ⟨b, o, h1, h2⟩ := hkw i hi
    cases h1
    exact h2
  rw [Nat.add_zero] at c0
  have c1 := hkw 1 (by decide)
  have c2 := hkw 2 (by decide)
  have c6 := hkw 6 (by decide)
  have c8 := hkw 8 (by decide)
  have c9 := hkw 9 (by decide)
  have e0 : wat kW 0 = BitVec.ofNat 64 1296125772 := rfl
  have e1 : wat kW 1 = BitVec.ofNat 64 655361 := rfl
  have e2 : wat kW 2 = BitVec.ofNat 64 97 := rfl
  have e6 : wat kW 6 = BitVec.ofNat 64 8 := rfl
  have e8 : wat kW 8 = BitVec.ofNat 64 8 := rfl
  have e9 : wat kW 9 = BitVec.ofNat 64 120 := rfl
  rw [e0] at c0
  rw [e1] at c1
  rw [e2] at c2
  rw [e6] at c6
  rw [e8] at c8
  rw [e9] at c9
  have k8 := fun i => B8x.cell (i := i)
  have k5 := fun i => B5x.cell (i := i)
  simp (disch := (first | omega | decide | (simp only [rsD] <;> omega) | fail)) only [↓rsC, rsK, rsL, ↓rsImg3_0, tick_eq, tickV_eq, ne_eq, Int.reduceAdd, Int.reduceSub, Int.reduceMul, Int.reduceEq, Int.reduceLT, Int.reduceLE, Int.reduceToNat, Nat.reduceMul, Nat.reduceAdd, Nat.reduceSub, ←decide_not, c0, c1, c2, c6, c8, c9, k8, k5]
  have hQ : Yld Try.prog n_graph_Equal #[.agg #[.slice na ns'.length nc, .slice ra [kR].length rc], .agg #[.slice (some ⟨g3, 0, none⟩) 1 1, .slice (some ⟨g4, 0, none⟩) 1 1]] y10 fun u w' => BoolR (SameG ns' [kR] [kN g1 g2] [kR]) y10 w' u := GEqual_spec G10' G10 hf7 hf
  refine graph_Equal_call (Yld.mono hQ ?_)
  intro u y11 hb
  obtain ⟨rfl, F11⟩ := boolR_true hb ⟨hsame, rfl⟩
  have k11 := fun i => (B5x.ext F11 (by simp)).cell (i := i)
  simp (disch := (first | omega | decide | (simp only [rsD] <;> omega) | fail)) only [↓rsC, rsK, rsL, ↓rsImg3_0, tick_eq, tickV_eq, ne_eq, Int.reduceAdd, Int.reduceSub, Int.reduceMul, Int.reduceEq, Int.reduceLT, Int.reduceLE, Int.reduceToNat, Nat.reduceMul, Nat.reduceAdd, Nat.reduceSub, ←decide_not, c0, c1, c2, c6, c8, c9, k8, k5, k11]
  have hNd : Gives Try.prog n_image_Need #[.agg #[.slice (some ⟨g3, 0, none⟩) 1 1, .slice (some ⟨g4, 0, none⟩) 1 1]] y11 (i64 ((10 : Nat) : Int)) := by
    have := gneed_spec (G10.ext0 F11) hf (k_good g1 g2)
    rw [hneed] at this
    exact this
  refine image_Need_call (Gives.to hNd fun y12 F12 => ?_)
  simp (disch := (first | omega | decide | (simp only [rsD] <;> omega) | fail)) only [↓rsC, rsK, rsL, ↓rsImg3_0, tick_eq, tickV_eq, ne_eq, Int.reduceAdd, Int.reduceSub, Int.reduceMul, Int.reduceEq, Int.reduceLT, Int.reduceLE, Int.reduceToNat, Nat.reduceMul, Nat.reduceAdd, Nat.reduceSub, ←decide_not, c0, c1, c2, c6, c8, c9, k8, k5, k11]
  exact ⟨by trivial, Xw.trans (F6.trans (F610.trans (F11.trans F12)))⟩
end Go.Proofs.Ytdpmidgeipibbaa
end
section
set_option linter.unusedVariables false
set_option linter.unusedSimpArgs false
set_option maxHeartbeats 4000000
namespace Go.Proofs.Ytdpmidgeipibbaa
open Go.Sh Go.RowKit

theorem gbox (na : Option Addr) (nc : Nat) (ra : Option Addr) (rc : Nat) (ns : List GN) (rs : List GR) (y : World) (K : K1) : xBox Try.prog 25 (gV na nc ra rc ns rs) y K = K (ptr y.heap.size) (y.alloc (.cells #[.slice na ns.length nc, .slice ra rs.length rc] 25)) := xBox_r
end Go.Proofs.Ytdpmidgeipibbaa
end
section
set_option linter.unusedVariables false
set_option linter.unusedSimpArgs false
set_option maxHeartbeats 4000000
namespace Go.Proofs.Ytdpmidgeipibbaa
open Go.Sh Go.RowKit

theorem ptrs_bare (ns : List GN) (q : Int) : ptrsOf (ns.map bare) q = ptrsOf ns q := by
  unfold ptrsOf
  rw [List.getElem?_map]
  cases ns[q.toNat - 1]? <;> rfl
theorem data_bare (ns : List GN) (q : Int) : dataOf (ns.map bare) q = dataOf ns q := by
  unfold dataOf
  rw [List.getElem?_map]
  cases ns[q.toNat - 1]? <;> rfl
theorem bfs_bare (ns : List GN) : ∀ (f i : Nat) (out : List Int), bfs (ns.map bare) f i out = bfs ns f i out
  | 0, _, _ => rfl
  | f + 1, i, out => by
    by_cases hi : i < out.length
    · rw [bfs_step hi, bfs_step hi, ptrs_bare, List.length_map]
      exact bfs_bare ns f (i + 1) _
    · rw [bfs_end (by omega), bfs_end (by omega)]
theorem can_bare (ns : List GN) (rs : List GR) : canNs (ns.map bare) rs = canNs ns rs ∧ canRs (ns.map bare) rs = canRs ns rs := by
  have ho : ∀ fr, ordV (ns.map bare) fr = ordV ns fr := fun fr => by
    unfold ordV
    rw [bfs_bare, List.length_map]
  unfold canNs canRs
  rw [ho]
  refine ⟨List.map_congr_left fun q _ => ?_, rfl⟩
  unfold canN
  rw [ptrs_bare, data_bare]
theorem trim_few {ns ns' : List GN} {rs : List GR} {bs : List Bool} {fr : List Int} (R : RchOk ns fr bs) (hf : FewH ns rs) (h : ns'.map bare = trNs ns bs) : FewH ns' (trRs rs bs) := by
  have hl : ns'.length = bs.countP id := by
    have := congrArg List.length h
    rw [List.length_map] at this
    rw [this]
    exact sel_len _ _ _ R.len
  have hc := List.countP_le_length (p := id) (l := bs)
  have hlen := R.len
  refine ⟨by have := hf.n; omega, by simpa [trRs] using hf.r, fun x hx => ?_⟩
  have hm : bare x ∈ trNs ns bs := by rw [← h]; exact List.mem_map.2 ⟨x, hx, rfl⟩
  obtain ⟨y, hy, e⟩ := sel_mem _ _ _ _ hm
  have e1 : x.p.length = y.p.length := by
    have := congrArg (fun z => z.p.length) e
    simpa [bare, trN] using this
  have e2 : x.d.length = y.d.length := by
    have := congrArg (fun z => z.d.length) e
    simpa [bare, trN] using this
  rw [e1, e2]
  exact hf.x y hy
abbrev rsImg7_0 := (And.intro @xu8_com (And.intro @xu8_eql (And.intro @xu8_neq (And.intro @xu8_leq (And.intro @xu8_gtr (And.intro @xu16_com (And.intro @xu16_eql (And.intro @xu16_neq (And.intro @xu16_leq (And.intro @xu16_gtr (And.intro @xu32_com (And.intro @xu32_eql (And.intro @xu32_neq (And.intro @xu32_leq (And.intro @xu32_gtr (And.intro @xu64_com 
  (And.intro @xu64_eql (And.intro @xu64_neq (And.intro @xu64_leq (And.intro @xu64_gtr (And.intro @xi64_leq (And.intro @xi64_gtr (And.intro @xi64_eql (And.intro @xi64_neq (And.intro @xi64_neg (And.intro @ld_25 (And.intro @al_25 @st_25)))))))))))))))))))))))))))
theorem ImageTrims_walk (na ra : Option Addr) (nc rc : Nat) (ns : List GN) (rs : List GR) (w : World) (h : GIs w na nc ra rc ns rs) : Gives Try.prog n_loamlaw23_ImageTrims #[gV na nc ra rc ns rs] w (.bool true) := by
  refine loamlaw23_ImageTrims_of ?_
  unfold loamlaw23_ImageTrims
  rw [gbox]
  have B1 : Blk (w.alloc (.cells #[.slice na ns.length nc, .slice ra rs.length rc] 25)) w.heap.size 25 [.slice na ns.length nc, .slice ra rs.length rc] := Blk.at rfl
  have X1 : Ext [] w (w.alloc (.cells #[.slice na ns.length nc, .slice ra rs.length rc] 25)) := Ext.alloc _ _ _
  have G := h.ext0 X1
  generalize w.alloc (.cells #[.slice na ns.length nc, .slice ra rs.length rc] 25) = y1 at *
  generalize w.heap.size = g1 at *
  refine loamlaw23_known_call (Gives.to (known23_spec y1) fun y3 F3 => ?_)
  have k3 := fun i => (B1.ext F3 (by simp)).cell (i := i)
  simp (disch := (first | omega | decide | (simp only [rsD] <;> omega) | fail)) only [↓rsC, rsK, rsL, ↓rsImg7_0, tick_eq, tickV_eq, ne_eq, Int.reduceAdd, Int.reduceSub, Int.reduceMul, Int.reduceEq, Int.reduceLT, Int.reduceLE, Int.reduceToNat, Nat.reduceMul, Nat.reduceAdd, Nat.reduceSub, ←decide_not, k3]
  refine loamlaw17_Few_call (Yld.mono (Few_spec (G.ext0 F3)) ?_)
  rintro u y4 ⟨⟨b, rfl, hb⟩, F4⟩
  have F14 := F3.trans F4
  cases b with
  | false =>
    simp (disch := (first | omega | decide | (simp only [rsD] <;> omega) | fail)) only [↓rsC, rsK, rsL, ↓rsImg7_0, tick_eq, tickV_eq, ne_eq, Int.reduceAdd, Int.reduceSub, Int.reduceMul, Int.reduceEq, Int.reduceLT, Int.reduceLE, Int.reduceToNat, Nat.reduceMul, Nat.reduceAdd, Nat.reduceSub, ←decide_not, k3]
    exact ⟨by trivial, X1.trans F14⟩
  | true =>
  have hf := hb rfl
  have k4 := fun i => (B1.ext F14 (by simp)).cell (i := i)
  simp (disch := (first | omega | decide | (simp only [rsD] <;> omega) | fail)) only [↓rsC, rsK, rsL, ↓rsImg7_0, tick_eq, tickV_eq, ne_eq, Int.reduceAdd, Int.reduceSub, Int.reduceMul, Int.reduceEq, Int.reduceLT, Int.reduceLE, Int.reduceToNat, Nat.reduceMul, Nat.reduceAdd, Nat.reduceSub, ←decide_not, k3, k4]
  refine loamlaw17_Of_call (Yld.mono (Of_spec17 (G.ext0 F14) (by have := hf.n; omega) (by have := hf.r; omega)) ?_)
  rintro u y5 ⟨F5, na5, nc5, ra5, rc5, rfl, G5⟩
  simp (disch := (first | omega | decide | (simp only [rsD] <;> omega) | fail)) only [↓rsC, rsK, rsL, ↓rsImg7_0, tick_eq, tickV_eq, ne_eq, Int.reduceAdd, Int.reduceSub, Int.reduceMul, Int.reduceEq, Int.reduceLT, Int.reduceLE, Int.reduceToNat, Nat.reduceMul, Nat.reduceAdd, Nat.reduceSub, ←decide_not, k3, k4]
  refine loamref17_Check_call (Yld.mono (GCheckX_spec G5 hf) ?_)
  rintro u y6 ⟨rfl, F6⟩
  have F16 := F14.trans (F5.trans F6)
  by_cases hc : chkV ns rs = 0
  case neg =>
    simp (disch := (first | omega | decide | (simp only [rsD] <;> omega) | fail)) only [↓rsC, rsK, rsL, ↓rsImg7_0, tick_eq, tickV_eq, ne_eq, Int.reduceAdd, Int.reduceSub, Int.reduceMul, Int.reduceEq, Int.reduceLT, Int.reduceLE, Int.reduceToNat, Nat.reduceMul, Nat.reduceAdd, Nat.reduceSub, ←decide_not, k3, k4, hc]
    exact ⟨by trivial, X1.trans F16⟩
  have hg := chk_zero.1 hc
  have k6 := fun i => (B1.ext F16 (by simp)).cell (i := i)
  simp (disch := (first | omega | decide | (simp only [rsD] <;> omega) | fail)) only [↓rsC, rsK, rsL, ↓rsImg7_0, tick_eq, tickV_eq, ne_eq, Int.reduceAdd, Int.reduceSub, Int.reduceMul, Int.reduceEq, Int.reduceLT, Int.reduceLE, Int.reduceToNat, Nat.reduceMul, Nat.reduceAdd, Nat.reduceSub, ←decide_not, k3, k4, hc, k6]
  refine graph_Trim_call (Yld.mono (Trim_spec (keep := []) (a := none) (c := 0) (G.ext0 F16) hf.h .nil (Nat.le_refl _) (fun _ => rfl) (by simp)) ?_)
  rintro u y7 ⟨F7, bs, na', nc', ra', rc', ns', v7, hbs, hns, rfl, G7, _⟩
  have hfew := trim_few hbs hf.h hns
  have hg7 : GoodG ns' (trRs rs bs) := by rw [← bare_good, hns]; exact trim_good hbs.len hg
  have hgW : gW ns' ≤ gW ns := by
    rw [← bare_gW ns', hns]
    exact trim_gW ns bs bs hbs.len
  have hrl : (trRs rs bs).length = rs.length := by simp [trRs]
  have hcan : canNs ns' (trRs rs bs) = canNs ns rs ∧ canRs ns' (trRs rs bs) = canRs ns rs := by
    rw [← (can_bare ns' _).1, ← (can_bare ns' _).2, hns]
    exact trim_can hbs fun r hr => List.mem_append_left _ (List.mem_map.2 ⟨r, hr, rfl⟩)
  generalize trRs rs bs = rs' at *
  simp (disch := (first | omega | decide | (simp only [rsD] <;> omega) | fail)) only [↓rsC, rsK, rsL, ↓rsImg7_0, tick_eq, tickV_eq, ne_eq, Int.reduceAdd, Int.reduceSub, Int.reduceMul, Int.reduceEq, Int.reduceLT, Int.reduceLE, Int.reduceToNat, Nat.reduceMul, Nat.reduceAdd, Nat.reduceSub, ←decide_not, k3, k4, hc, k6]
  have B8 : Blk (y7.alloc (.cells #[.slice na' ns'.length nc', .slice ra' rs'.length rc'] 25)) y7.heap.size 25 [.slice na' ns'.length nc', .slice ra' rs'.length rc'] := Blk.at rfl
  have X8 : Ext [] y7 (y7.alloc (.cells #[.slice na' ns'.length nc', .slice ra' rs'.length rc'] 25)) := Ext.alloc _ _ _
  have G8 := G7.ext0 X8
  generalize y7.alloc (.cells #[.slice na' ns'.length nc', .slice ra' rs'.length rc'] 25) = y8 at *
  generalize y7.heap.size = g8 at *
  have F18 := F16.trans (F7.trans X8)
  have k8 := fun i => B8.cell (i := i)
  refine image_Encode_call (Yld.mono (iEncode_spec G8 hfew) ?_)
  rintro u y9 (⟨hne, rfl, F9⟩ | ⟨_, _, hN, a9, c9, rfl, hc9, hn9, R9, F9⟩)
  · have hbig : 8192 < 2 + 5 * rs'.length + gW ns' := by
      refine Classical.byContradiction fun hno => hne ?_
      unfold encC
      rw [if_neg (by rw [chk_zero.2 hg7]; simp), if_neg hno]
    have k9 := fun i => (B8.ext F9 (by simp)).cell (i := i)
    simp (disch := (first | omega | decide | (simp only [rsD] <;> omega) | fail)) only [↓rsC, rsK, rsL, ↓rsImg7_0, tick_eq, tickV_eq, ne_eq, Int.reduceAdd, Int.reduceSub, Int.reduceMul, Int.reduceEq, Int.reduceLT, Int.reduceLE, Int.reduceToNat, Nat.reduceMul, Nat.reduceAdd, Nat.reduceSub, ←decide_not, k3, k4, hc, k6, hne, k9]
    refine image_Need_call (Gives.to (gneed_spec (G8.ext0 F9) hfew hg7) fun y10 F10 => ?_)
    have hbig' : (8192 : Int) < ((2 + 5 * rs'.length + gW ns' : Nat) : Int) := by omega
    simp (disch := (first | omega | decide | (simp only [rsD] <;> omega) | fail)) only [↓rsC, rsK, rsL, ↓rsImg7_0, tick_eq, tickV_eq, ne_eq, Int.reduceAdd, Int.reduceSub, Int.reduceMul, Int.reduceEq, Int.reduceLT, Int.reduceLE, Int.reduceToNat, Nat.reduceMul, Nat.reduceAdd, Nat.reduceSub, ←decide_not, k3, k4, hc, k6, hne, k9, hbig']
    exact ⟨by trivial, X1.trans (F18.trans (F9.trans F10))⟩
  have hlen := enc_len hg7
  simp (disch := (first | omega | decide | (simp only [rsD] <;> omega) | fail)) only [↓rsC, rsK, rsL, ↓rsImg7_0, tick_eq, tickV_eq, ne_eq, Int.reduceAdd, Int.reduceSub, Int.reduceMul, Int.reduceEq, Int.reduceLT, Int.reduceLE, Int.reduceToNat, Nat.reduceMul, Nat.reduceAdd, Nat.reduceSub, ←decide_not, k3, k4, hc, k6]
  refine image_Decode_call (Yld.mono (iDecode_spec R9 hc9 hn9 (by omega)) ?_)
  rintro u y10 ⟨F10, D⟩
  obtain ⟨na1, nc1, ra1, rc1, ns1, hsame, rfl, G1⟩ := decR_enc hg7 hN D
  have hf1 := few_same hsame hfew
  have hal : ∀ (K : Value → World → Prop), xAlloc Try.prog 25 y10 (fun t w => xStore Try.prog 25 t (gV na1 nc1 ra1 rc1 ns1 rs') w (fun _ w => K t w)) = K (ptr y10.heap.size) (y10.alloc (.cells #[.slice na1 ns1.length nc1, .slice ra1 rs'.length rc1] 25)) := by
    intro K
    simp (disch := (first | omega | decide | (simp only [rsD] <;> omega) | fail)) only [↓rsC, rsK, rsL, ↓rsImg7_0, tick_eq, tickV_eq, ne_eq, Int.reduceAdd, Int.reduceSub, Int.reduceMul, Int.reduceEq, Int.reduceLT, Int.reduceLE, Int.reduceToNat, Nat.reduceMul, Nat.reduceAdd, Nat.reduceSub, ←decide_not, k3, k4, hc, k6]
  rw [xEx0, xEx1, hal]
  have Xa : Ext [] y10 (y10.alloc (.cells #[.slice na1 ns1.length nc1, .slice ra1 rs'.length rc1] 25)).drew := (Ext.alloc _ _ _).trans (Ext.drew [] _)
  have Ba := (Blk.at (w := y10) (e := 25) (cs := [.slice na1 ns1.length nc1, .slice ra1 rs'.length rc1]) rfl).ext (Ext.drew [] _) (by simp)
  generalize (y10.alloc (.cells #[.slice na1 ns1.length nc1, .slice ra1 rs'.length rc1] 25)).drew = ya at *
  generalize y10.heap.size = ga at *
  have F8a := F9.trans (F10.trans Xa)
  have F1a := F18.trans F8a
  have k8a := fun i => (B8.ext F8a (by simp)).cell (i := i)
  have k1a := fun i => (B1.ext F1a (by simp)).cell (i := i)
  have kaa := fun i => Ba.cell (i := i)
  simp (disch := (first | omega | decide | (simp only [rsD] <;> omega) | fail)) only [↓rsC, rsK, rsL, ↓rsImg7_0, tick_eq, tickV_eq, ne_eq, Int.reduceAdd, Int.reduceSub, Int.reduceMul, Int.reduceEq, Int.reduceLT, Int.reduceLE, Int.reduceToNat, Nat.reduceMul, Nat.reduceAdd, Nat.reduceSub, ←decide_not, k3, k4, hc, k6, k8a, k1a]
  refine image_Need_call (Gives.to (gneed_spec (G8.ext0 F8a) hfew hg7) fun yb Fb => ?_)
  have k1b := fun i => (B1.ext (F1a.trans Fb) (by simp)).cell (i := i)
  simp (disch := (first | omega | decide | (simp only [rsD] <;> omega) | fail)) only [↓rsC, rsK, rsL, ↓rsImg7_0, tick_eq, tickV_eq, ne_eq, Int.reduceAdd, Int.reduceSub, Int.reduceMul, Int.reduceEq, Int.reduceLT, Int.reduceLE, Int.reduceToNat, Nat.reduceMul, Nat.reduceAdd, Nat.reduceSub, ←decide_not, k3, k4, hc, k6, k8a, k1a, k1b]
  refine image_Need_call (Gives.to (gneed_spec (G.ext0 (F1a.trans Fb)) hf.h hg) fun yc Fc => ?_)
  have Fbc := Fb.trans Fc
  have k1c := fun i => (B1.ext (F1a.trans Fbc) (by simp)).cell (i := i)
  have kac := fun i => (Ba.ext Fbc (by simp)).cell (i := i)
  have hle : ((2 + 5 * rs'.length + gW ns' : Nat) : Int) ≤ ((2 + 5 * rs.length + gW ns : Nat) : Int) := by omega
  simp (disch := (first | omega | decide | (simp only [rsD] <;> omega) | fail)) only [↓rsC, rsK, rsL, ↓rsImg7_0, tick_eq, tickV_eq, ne_eq, Int.reduceAdd, Int.reduceSub, Int.reduceMul, Int.reduceEq, Int.reduceLT, Int.reduceLE, Int.reduceToNat, Nat.reduceMul, Nat.reduceAdd, Nat.reduceSub, ←decide_not, k3, k4, hc, k6, k8a, k1a, k1b, hle, k1c, kac]
  refine canon_Same_call (Yld.mono (Same_spec ((G1.ext0 Xa).ext0 Fbc) (G.ext0 (F1a.trans Fbc)) hf1 hf.h) ?_)
  intro u yd hbd
  have hfin : canNs ns1 rs' = canNs ns rs ∧ canRs ns1 rs' = canRs ns rs := by
    have e1 := can_bare ns1 rs'
    have e2 := can_bare ns' rs'
    rw [hsame] at e1
    exact ⟨(e1.1.symm.trans e2.1).trans hcan.1, (e1.2.symm.trans e2.2).trans hcan.2⟩
  obtain ⟨rfl, Fd⟩ := boolR_true hbd hfin
  simp (disch := (first | omega | decide | (simp only [rsD] <;> omega) | fail)) only [↓rsC, rsK, rsL, ↓rsImg7_0, tick_eq, tickV_eq, ne_eq, Int.reduceAdd, Int.reduceSub, Int.reduceMul, Int.reduceEq, Int.reduceLT, Int.reduceLE, Int.reduceToNat, Nat.reduceMul, Nat.reduceAdd, Nat.reduceSub, ←decide_not, k3, k4, hc, k6, k8a, k1a, k1b, hle, k1c, kac]
  exact ⟨by trivial, X1.trans (F1a.trans (Fbc.trans Fd))⟩
theorem ImageTrims_spec (a : GP) (w : World) (h : GIs w a.na a.nc a.ra a.rc a.ns a.rs) : Gives Try.prog n_loamlaw23_ImageTrims #[gPV a] w (.bool true) := by
  obtain ⟨na, nc, ra, rc, ns, rs⟩ := a
  exact ImageTrims_walk na ra nc rc ns rs w h
end Go.Proofs.Ytdpmidgeipibbaa
end
