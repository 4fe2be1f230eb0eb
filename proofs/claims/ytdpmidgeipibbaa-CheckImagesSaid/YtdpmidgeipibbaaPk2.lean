/- Looking at words that should be objects: all of them (sq). Looking at words that should be objects: each object, and a space (sq). Looking at spaces and images: what the program finds (sq). Looking at images without names (sq). The document's word on whether objects are well (sq). The document's findings in words that should be objects (sq). A Root's name in an image, read by the program and by the document (sq). What the statements on spaces call (sq). A space out of words, or none (sq). The statement on looking at spaces, walked (sq). Looking at any image: what the program finds (sq). What is wrong in an image, by the document (sq). What is wrong in an image, by the document: all of it (sq). Whether a graph may be: by the program and by the document, and why not (sq). A graph's words, counted; bytes as words; places (sq). Whether a graph may be, by the document: exactly; how many words it takes, by the program (sq). A graph in words, by the document (sq). A word is its eight bytes; two objects that are written (sq). What a graph's words are, word by word; in them nothing is wrong. A graph in words, by the program: a name, a node (sq). A graph's words, as the program fills them in. -/
import Derived.Test.YtdpmidgeipibbaaPk1
section
set_option linter.unusedVariables false
set_option linter.unusedSimpArgs false
set_option maxHeartbeats 4000000
namespace Go.Proofs.Ytdpmidgeipibbaa
open Go.Sh Go.RowKit

section
variable {w0 w : World} {k r : Nat} {v : Value} {a : Option Addr} {c : Nat} {L : List (BitVec 64)} {base : Nat} {l : List Nat} {F : List Fnd}
theorem WkIs.extM {w' : World} {M : List Nat} (h : WkIs w0 w k r v a c L base l F) (hx : Ext M w w') (h1 : k ∉ M) (h2 : r ∉ M) (h3 : ∀ y ∈ Go.Sh.blk v, y ∉ M) (h4 : ∀ y ∈ M, w0.heap.size ≤ y) : WkIs w0 w' k r v a c L base l F :=
  ⟨h.blk.ext hx h1, h.map.ext hx h2, h.own.ext hx h3, h.kr, h.kv, h.rv, h.up, h.rowx hx h4, h.ra, h.ext.new hx h4⟩
theorem WkIs.put {w' : World} {p : Nat} (h : WkIs w0 w k r v a c L base l F) (M : MapIs w' r ((l ++ [p]).map (hdX fun p => wat L (p - base)))) (hx : Ext [r] w w') : WkIs w0 w' k r v a c L base (l ++ [p]) F :=
  ⟨h.blk.ext hx (by simpa using h.kr), M, h.own.ext hx (fun y hy hm => by simp only [List.mem_singleton] at hm; subst hm; exact h.rv hy), h.kr, h.kv, h.rv, h.up, h.rowx hx (fun y hy => by simp only [List.mem_singleton] at hy; subst hy; exact h.up.2.1), h.ra, h.ext.new hx (fun y hy => by simp only [List.mem_singleton] at hy; subst hy; exact h.up.2.1)⟩
theorem word_at (h : WkIs w0 w k r v a c L base l F) {i : Nat} (hi : i < L.length) : ∃ b o, a = some ⟨b, o, none⟩ ∧ w.cell? ⟨b, o + i, none⟩ = some (u64 (wat L i)) := by
  obtain ⟨b5, o5, h5, z5, k5⟩ := h.row.at (i := i) (by simpa using hi)
  refine ⟨b5, o5, h5, ?_⟩
  simp only [List.getElem_map] at k5
  rw [k5]
  unfold wat
  rw [List.getD_eq_getElem?_getD, List.getElem?_eq_getElem hi]
  rfl
abbrev rsChk2_0 := (And.intro @xu8_add (And.intro @xu8_sub (And.intro @xu8_neq (And.intro @xu8_lss (And.intro @xu8_gtr (And.intro @xu16_add (And.intro @xu16_sub (And.intro @xu16_neq (And.intro @xu16_lss (And.intro @xu16_gtr (And.intro @xu32_add (And.intro @xu32_sub (And.intro @xu32_neq (And.intro @xu32_lss (And.intro @xu32_gtr (And.intro @xu64_add 
  (And.intro @xu64_sub (And.intro @xu64_neq (And.intro @xu64_lss (And.intro @xu64_gtr (And.intro @xi64_lss (And.intro @xi64_gtr (And.intro @xi64_neq (And.intro @xi64_neg (And.intro @ld_3 (And.intro @ld_4 (And.intro @ld_28 (And.intro @ld_69 (And.intro @ld_94 (And.intro @ld_123 (And.intro @fa_96_0 (And.intro @fa_96_1 (And.intro @fa_96_2 (And.intro @fa_123_2 
  (And.intro @al_123 (And.intro @st_123 (And.intro @ia_28 (And.intro @ln_28 (And.intro @bs_66_0 @bs_66_1)))))))))))))))))))))))))))))))))))))))
theorem objects_spec (h : WkIs w0 w k r v a c L base [] []) (hb : base + L.length ≤ 8192) (hc0 : L.length ≤ c) : Yld Try.prog n_check_walk_objects #[ptr k] w fun u w' =>
    ∃ v' a2 c2 l bad, u = .slice a2 l.length c2 ∧ RowAt w' a2 (nums l) ∧ (∀ z o, a2 = some ⟨z, o, none⟩ → z < w'.heap.size ∧ z ≠ k ∧ z ∉ Go.Sh.blk v') ∧ Sc (fun p => wat L (p - base)) (base + L.length) base l bad ∧ WkIs w0 w' k r v' a c L base l (badF bad) := by
  obtain ⟨l, bad, hS⟩ := Sc.ex (fun p => wat L (p - base)) (base + L.length) L.length base (by omega) (by omega)
  refine check_walk_objects_of ?_
  unfold check_walk_objects
  simp (disch := (first | omega | decide | (simp only [rsD] <;> omega) | fail)) only [↓rsC, rsK, rsL, ↓rsChk2_0, tick_eq, tickV_eq, ne_eq, Int.reduceAdd, Int.reduceSub, Int.reduceMul, Int.reduceEq, Int.reduceLT, Int.reduceLE, Int.reduceToNat, Nat.reduceMul, Nat.reduceAdd, Nat.reduceSub, ←decide_not, eq_self]
  refine xLoop_r (L.length + 1) (fun j vs w' => ∃ (out : Value) (i : Nat) (p lr : List Nat), vs = [out, i64 (i : Int)] ∧ j ≤ i ∧ i ≤ L.length ∧ l = p ++ lr ∧ Sc (fun p => wat L (p - base)) (base + L.length) (base + i) lr bad ∧ (∀ q ∈ p, q < base + i) ∧ WkIs w0 w' k r v a c L base p [] ∧ OwnI w' out p ∧ k ∉ Go.Sh.blk out ∧ r ∉ Go.Sh.blk out ∧ (∀ y ∈ Go.Sh.blk out, y ∉ Go.Sh.blk v) ∧ ∀ y ∈ Go.Sh.blk out, w0.heap.size ≤ y)
    ⟨_, 0, [], l, rfl, Nat.le_refl _, Nat.zero_le _, rfl, hS, by simp, h, Own.nil, by simp [Go.Sh.blk, Value.ownBlock], by simp [Go.Sh.blk, Value.ownBlock], by simp [Go.Sh.blk, Value.ownBlock], by simp [Go.Sh.blk, Value.ownBlock]⟩ ?_ ?_
  rotate_left
  · rintro u v1 ⟨out, i, p, lr, hu, h1, h2, _⟩ nxt
    omega
  rintro j hj u v1 ⟨out, i, p, lr, hu, h1, h2, hl, hSc, hq, W, O, d1, d2, d3, d4⟩ nxt hnx
  simp only [List.map_cons, List.map_nil, List.cons.injEq, and_true] at hu
  rw [hu.1, hu.2]
  have kb := fun i => W.blk.cell (i := i)
  have zk := W.blk.lt
  have zo := O.lt
  have hcount := hSc.count
  have hpl : p.length ≤ 8192 := by have := hS.count; rw [hl, List.length_append] at this; omega
  have fin : ∀ (w' : World) (v' : Value) (lo : List Nat) (bb : Option Nat), lr = [] → bad = bb → WkIs w0 w' k r v' a c L base p (badF bb) → OwnI w' out p → k ∉ Go.Sh.blk out → (∀ y ∈ Go.Sh.blk out, y ∉ Go.Sh.blk v') →
      ∃ v' a2 c2 l bad, out = .slice a2 l.length c2 ∧ RowAt w' a2 (nums l) ∧ (∀ z o, a2 = some ⟨z, o, none⟩ → z < w'.heap.size ∧ z ≠ k ∧ z ∉ Go.Sh.blk v') ∧ Sc (fun p => wat L (p - base)) (base + L.length) base l bad ∧ WkIs w0 w' k r v' a c L base l (badF bad) := by
    intro w' v' lo bb hlr hbb W' O' e1 e2
    subst hlr hbb
    rw [List.append_nil] at hl
    subst hl
    have zo' := O'.lt
    obtain ⟨a2, c2, rfl, _, _, hn2, hr2, _⟩ := O'.slice
    refine ⟨v', a2, c2, l, bad, rfl, hr2, fun z o hz => ?_, hS, W'⟩
    have hm : z ∈ Go.Sh.blk (.slice a2 l.length c2) := by subst hz; simp [Go.Sh.blk, Value.ownBlock]
    exact ⟨zo' z hm, fun e => e1 (e ▸ hm), e2 z hm⟩
  unfold check_walk_objects_l1
  by_cases hi : i < L.length
  rotate_left
  · have hie : i = L.length := by omega
    subst hie
    have hu2 := hSc.uniq .done
    simp (disch := (first | omega | decide | (simp only [rsD] <;> omega) | fail)) only [↓rsC, rsK, rsL, ↓rsChk2_0, tick_eq, tickV_eq, ne_eq, Int.reduceAdd, Int.reduceSub, Int.reduceMul, Int.reduceEq, Int.reduceLT, Int.reduceLE, Int.reduceToNat, Nat.reduceMul, Nat.reduceAdd, Nat.reduceSub, ←decide_not, kb]
    exact fin v1 v [] none hu2.1 hu2.2 W O d1 d3
  obtain ⟨b1, o1, rfl, kw1⟩ := word_at W hi
  have hx : (fun p => wat L (p - base)) (base + i) = wat L i := by simp
  simp (disch := (first | omega | decide | (simp only [rsD] <;> omega) | fail)) only [↓rsC, rsK, rsL, ↓rsChk2_0, tick_eq, tickV_eq, ne_eq, Int.reduceAdd, Int.reduceSub, Int.reduceMul, Int.reduceEq, Int.reduceLT, Int.reduceLE, Int.reduceToNat, Nat.reduceMul, Nat.reduceAdd, Nat.reduceSub, ←decide_not, kb, kw1]
  have hun := Unpack_spec (wat L i) v1
  by_cases hok : okW (wat L i)
  · obtain ⟨v1', v2', v3', v4', v5', v6', v7', v8'⟩ := okW_v hok
    rw [v1', v2', v3', v4', v5'] at hun
    refine head_Unpack_call (Gives.to hun fun w2 F2 => ?_)
    have W2 := W.ext0 F2
    simp (disch := (first | omega | decide | (simp only [rsD] <;> omega) | fail)) only [↓rsC, rsK, rsL, ↓rsChk2_0, tick_eq, tickV_eq, ne_eq, Int.reduceAdd, Int.reduceSub, Int.reduceMul, Int.reduceEq, Int.reduceLT, Int.reduceLE, Int.reduceToNat, Nat.reduceMul, Nat.reduceAdd, Nat.reduceSub, ←decide_not, kb, kw1]
    have B : Blk (w2.alloc (.cells #[i64 (pN (wat L i)), i64 (bN (wat L i)), .bool false, i64 0] 123)) w2.heap.size 123 [i64 (pN (wat L i)), i64 (bN (wat L i)), .bool false, i64 0] := Blk.at rfl
    have X2 : Ext [] w2 (w2.alloc (.cells #[i64 (pN (wat L i)), i64 (bN (wat L i)), .bool false, i64 0] 123)) := Ext.alloc _ _ _
    have k2 := fun i => ((W2.ext0 X2).ext0 (Ext.drew [] _)).blk.cell (i := i)
    have k2' := fun i => W2.blk.cell (i := i)
    have zk2 := W2.blk.lt
    simp (disch := (first | omega | decide | (simp only [rsD] <;> omega) | fail)) only [↓rsC, rsK, rsL, ↓rsChk2_0, tick_eq, tickV_eq, ne_eq, Int.reduceAdd, Int.reduceSub, Int.reduceMul, Int.reduceEq, Int.reduceLT, Int.reduceLE, Int.reduceToNat, Nat.reduceMul, Nat.reduceAdd, Nat.reduceSub, ←decide_not, kb, kw1, k2']
    have hsz : ∀ w, Gives Try.prog n_head_Size #[hd (pN (wat L i)) (bN (wat L i)) false 0] w (i64 (szW (wat L i) : Int)) := fun w => by
      have := SizeW_spec hok w
      rw [v1', v2', v4'] at this
      exact this
    refine head_Size_call (Gives.to (hsz _) fun w3 F3d => ?_)
    have F3 := (Ext.drew [] _).trans F3d
    have W3 := (W2.ext0 X2).ext0 F3
    have k3 := fun i => W3.blk.cell (i := i)
    have B3 := B.ext F3 (by simp)
    have O3 := (O.ext0 F2).ext0 (X2.trans F3)
    have zh : v1.heap.size ≤ w2.heap.size := F2.size
    generalize w2.heap.size = hh at *
    by_cases hs : i + szW (wat L i) ≤ L.length
    · obtain ⟨lr', hlr', h5⟩ := hSc.step_inv (by omega) (by simpa only [Nat.add_sub_cancel_left] using hok) (by simp only [Nat.add_sub_cancel_left]; omega)
      simp only [Nat.add_sub_cancel_left] at h5
      have k3d := fun i => (W3.ext0 (Ext.drew [] w3)).blk.cell (i := i)
      have B3d := B3.ext (Ext.drew [] w3) (by simp)
      have kb3 := fun i => B3d.cell (i := i)
      have W3d := W3.ext0 (Ext.drew [] w3)
      have e1 : (base : Int) + (i : Int) = ((base + i : Nat) : Int) := by omega
      simp (disch := (first | omega | decide | (simp only [rsD] <;> omega) | fail)) only [↓rsC, rsK, rsL, ↓rsChk2_0, tick_eq, tickV_eq, ne_eq, Int.reduceAdd, Int.reduceSub, Int.reduceMul, Int.reduceEq, Int.reduceLT, Int.reduceLE, Int.reduceToNat, Nat.reduceMul, Nat.reduceAdd, Nat.reduceSub, ←decide_not, kb, kw1, k2', k3, k3d, kb3, e1]
      refine xMapUpdate_new (kt := 3) (et := 123) (by kernel_rfl) (by kernel_rfl) W3d.map (fun q hq2 => by
        obtain ⟨p', hp', rfl⟩ := List.mem_map.1 hq2
        have := hq p' hp'
        simp only
        omega) fun w4 M4 F4 => ?_
      have W4 := W3d.put (p := base + i) (by
        have hk : hdX (fun p => wat L (p - base)) (base + i) = (((base + i : Nat) : Int), hd (pN (wat L i)) (bN (wat L i)) false 0) := by simp only [hdX, Nat.add_sub_cancel_left]
        rw [List.map_append, List.map_singleton, hk]
        exact M4) F4
      have B4 := B3d.ext F4 (by have := W3d.map.lt; have := W.map.lt; simp only [List.mem_singleton]; omega)
      have O4 := (O3.ext0 (Ext.drew [] w3)).ext F4 (fun y hy hm => by simp only [List.mem_singleton] at hm; subst hm; exact d2 hy)
      have k4 := fun i => W4.blk.cell (i := i)
      have kb4 := fun i => B4.cell (i := i)
      have zo4 := O4.lt
      simp (disch := (first | omega | decide | (simp only [rsD] <;> omega) | fail)) only [↓rsC, rsK, rsL, ↓rsChk2_0, tick_eq, tickV_eq, ne_eq, Int.reduceAdd, Int.reduceSub, Int.reduceMul, Int.reduceEq, Int.reduceLT, Int.reduceLE, Int.reduceToNat, Nat.reduceMul, Nat.reduceAdd, Nat.reduceSub, ←decide_not, kb, kw1, k2', k3, k3d, kb3, e1, k4]
      refine appIl O4 rfl (by omega) fun out' w5 O5 F5 => ?_
      have hho : hh ∉ Go.Sh.blk out := fun hm => by have := zo _ hm; omega
      have B5 := B4.ext F5.ext hho
      have kb5 := fun i => B5.cell (i := i)
      have z5 := F5.ext.size
      have W5 := W4.extM F5.ext d1 d2 (fun y hy hm => d3 y hm hy) d4
      simp (disch := (first | omega | decide | (simp only [rsD] <;> omega) | fail)) only [↓rsC, rsK, rsL, ↓rsChk2_0, tick_eq, tickV_eq, ne_eq, Int.reduceAdd, Int.reduceSub, Int.reduceMul, Int.reduceEq, Int.reduceLT, Int.reduceLE, Int.reduceToNat, Nat.reduceMul, Nat.reduceAdd, Nat.reduceSub, ←decide_not, kb, kw1, k2', k3, k3d, kb3, e1, k4, kb5]
      refine head_Size_call (Gives.to (hsz _) fun w6 F6 => ?_)
      simp (disch := (first | omega | decide | (simp only [rsD] <;> omega) | fail)) only [↓rsC, rsK, rsL, ↓rsChk2_0, tick_eq, tickV_eq, ne_eq, Int.reduceAdd, Int.reduceSub, Int.reduceMul, Int.reduceEq, Int.reduceLT, Int.reduceLE, Int.reduceToNat, Nat.reduceMul, Nat.reduceAdd, Nat.reduceSub, ←decide_not, kb, kw1, k2', k3, k3d, kb3, e1, k4, kb5]
      have e3 : (i : Int) + (szW (wat L i) : Int) = ((i + szW (wat L i) : Nat) : Int) := by omega
      rw [e3]
      have hpos := szW_pos (x := wat L i)
      have zk4 := W4.blk.lt
      have zr4 := W4.map.lt
      refine hnx _ _ ⟨out', i + szW (wat L i), p ++ [base + i], lr', rfl, by omega, hs, by rw [hl, hlr']; simp, by rw [← Nat.add_assoc]; exact h5, fun q hq2 => ?_, W5.ext0 F6, O5.ext0 F6, fun hm => ?_, fun hm => ?_, fun y hy hm => ?_, fun y hy => ?_⟩
      · rcases List.mem_append.1 hq2 with h6 | h6
        · have := hq q h6; omega
        · simp only [List.mem_singleton] at h6; omega
      · rcases F5.at' k hm with h6 | h6
        · exact d1 h6
        · omega
      · rcases F5.at' r hm with h6 | h6
        · exact d2 h6
        · omega
      · rcases F5.at' y hy with h6 | h6
        · exact d3 y h6 hm
        · have := W4.own.lt y hm; omega
      · rcases F5.at' y hy with h6 | h6
        · exact d4 y h6
        · have := W4.ext.size; omega
    · have hu2 := hSc.uniq (.bad (by omega) (fun h6 => hs (by have := h6.2; simp only [Nat.add_sub_cancel_left] at this; omega)))
      have e1 : (base : Int) + (i : Int) = ((base + i : Nat) : Int) := by omega
      have cH : ({ data := #[104, 101, 97, 100] } : ByteArray) = strOf sHead := by decide +kernel
      simp (disch := (first | omega | decide | (simp only [rsD] <;> omega) | fail)) only [↓rsC, rsK, rsL, ↓rsChk2_0, tick_eq, tickV_eq, ne_eq, Int.reduceAdd, Int.reduceSub, Int.reduceMul, Int.reduceEq, Int.reduceLT, Int.reduceLE, Int.reduceToNat, Nat.reduceMul, Nat.reduceAdd, Nat.reduceSub, ←decide_not, kb, kw1, k2', k3, e1]
      rw [cH]
      refine check_walk_add_call (Yld.mono (add_spec (at' := base + i) (s := sHead) W3 (by simp)) ?_)
      rintro u w4 ⟨v', W4, F4⟩
      simp (disch := (first | omega | decide | (simp only [rsD] <;> omega) | fail)) only [↓rsC, rsK, rsL, ↓rsChk2_0, tick_eq, tickV_eq, ne_eq, Int.reduceAdd, Int.reduceSub, Int.reduceMul, Int.reduceEq, Int.reduceLT, Int.reduceLE, Int.reduceToNat, Nat.reduceMul, Nat.reduceAdd, Nat.reduceSub, ←decide_not, kb, kw1, k2', k3, e1]
      exact fin w4 v' [] (some (base + i)) hu2.1 hu2.2 W4 (O3.ext F4.ext (fun y hy hm => by
        rcases List.mem_cons.1 hm with rfl | hm
        · exact d1 hy
        · exact d3 y hy hm)) d1 (fun y hy hm => by
        rcases F4.at' y (List.mem_cons_of_mem _ hm) with h6 | h6
        · rcases List.mem_cons.1 h6 with rfl | h6
          · exact d1 hy
          · exact d3 y hy h6
        · have := O3.lt y hy; omega)
  · have hu2 := hSc.uniq (.bad (by omega) (fun h6 => hok (by have := h6.1; simpa only [Nat.add_sub_cancel_left] using this)))
    have e1 : (base : Int) + (i : Int) = ((base + i : Nat) : Int) := by omega
    have cH : ({ data := #[104, 101, 97, 100] } : ByteArray) = strOf sHead := by decide +kernel
    have tl : ∀ w3 : World, Ext [] v1 w3 → xCall Try.prog (fnv n_check_walk_add) [ptr k, i64 ((base + i : Nat) : Int), .string (strOf sHead)] w3 fun u w' => ∃ v' a2 c2 l bad, out = .slice a2 l.length c2 ∧ RowAt w' a2 (nums l) ∧ (∀ z o, a2 = some ⟨z, o, none⟩ → z < w'.heap.size ∧ z ≠ k ∧ z ∉ Go.Sh.blk v') ∧ Sc (fun p => wat L (p - base)) (base + L.length) base l bad ∧ WkIs w0 w' k r v' (some ⟨b1, o1, none⟩) c L base l (badF bad) := by
      intro w3 F3
      have W3 := W.ext0 F3
      have O3 := O.ext0 F3
      refine check_walk_add_call (Yld.mono (add_spec (at' := base + i) (s := sHead) W3 (by simp)) ?_)
      rintro u w4 ⟨v', W4, F4⟩
      exact fin w4 v' [] (some (base + i)) hu2.1 hu2.2 W4 (O3.ext F4.ext (fun y hy hm => by
        rcases List.mem_cons.1 hm with rfl | hm
        · exact d1 hy
        · exact d3 y hy hm)) d1 (fun y hy hm => by
        rcases F4.at' y (List.mem_cons_of_mem _ hm) with h6 | h6
        · rcases List.mem_cons.1 h6 with rfl | h6
          · exact d1 hy
          · exact d3 y hy h6
        · have := O3.lt y hy; omega)
    by_cases he : unErr (wat L i) = 0
    · rw [he, okW_not hok he] at hun
      refine head_Unpack_call (Gives.to hun fun w2 F2 => ?_)
      simp (disch := (first | omega | decide | (simp only [rsD] <;> omega) | fail)) only [↓rsC, rsK, rsL, ↓rsChk2_0, tick_eq, tickV_eq, ne_eq, Int.reduceAdd, Int.reduceSub, Int.reduceMul, Int.reduceEq, Int.reduceLT, Int.reduceLE, Int.reduceToNat, Nat.reduceMul, Nat.reduceAdd, Nat.reduceSub, ←decide_not, kb, kw1]
      have Y : Ext [] v1 (w2.alloc (.cells #[i64 (vP (wat L i)), i64 (vB (wat L i)), .bool true, i64 (vT (wat L i))] 123)).drew := F2.trans ((Ext.alloc _ _ _).trans (Ext.drew _ _))
      have k2 := fun i => (W.ext0 F2).blk.cell (i := i)
      have zk2 := (W.ext0 F2).blk.lt
      simp (disch := (first | omega | decide | (simp only [rsD] <;> omega) | fail)) only [↓rsC, rsK, rsL, ↓rsChk2_0, tick_eq, tickV_eq, ne_eq, Int.reduceAdd, Int.reduceSub, Int.reduceMul, Int.reduceEq, Int.reduceLT, Int.reduceLE, Int.reduceToNat, Nat.reduceMul, Nat.reduceAdd, Nat.reduceSub, ←decide_not, kb, kw1, k2, e1]
      rw [cH]
      exact tl _ Y
    · refine head_Unpack_call (Gives.to hun fun w2 F2 => ?_)
      simp (disch := (first | omega | decide | (simp only [rsD] <;> omega) | fail)) only [↓rsC, rsK, rsL, ↓rsChk2_0, tick_eq, tickV_eq, ne_eq, Int.reduceAdd, Int.reduceSub, Int.reduceMul, Int.reduceEq, Int.reduceLT, Int.reduceLE, Int.reduceToNat, Nat.reduceMul, Nat.reduceAdd, Nat.reduceSub, ←decide_not, kb, kw1]
      have Y : Ext [] v1 (w2.alloc (.cells #[i64 (vP (wat L i)), i64 (vB (wat L i)), .bool (vM (wat L i)), i64 (vT (wat L i))] 123)).drew := F2.trans ((Ext.alloc _ _ _).trans (Ext.drew _ _))
      have k2 := fun i => (W.ext0 F2).blk.cell (i := i)
      have zk2 := (W.ext0 F2).blk.lt
      simp (disch := (first | omega | decide | (simp only [rsD] <;> omega) | fail)) only [↓rsC, rsK, rsL, ↓rsChk2_0, tick_eq, tickV_eq, ne_eq, Int.reduceAdd, Int.reduceSub, Int.reduceMul, Int.reduceEq, Int.reduceLT, Int.reduceLE, Int.reduceToNat, Nat.reduceMul, Nat.reduceAdd, Nat.reduceSub, ←decide_not, kb, kw1, k2, e1]
      rw [cH]
      exact tl _ Y
end
end Go.Proofs.Ytdpmidgeipibbaa
end
section
set_option linter.unusedVariables false
set_option linter.unusedSimpArgs false
set_option maxHeartbeats 4000000
namespace Go.Proofs.Ytdpmidgeipibbaa
open Go.Sh Go.RowKit

section
variable {w0 w : World} {k r : Nat} {v : Value} {a : Option Addr} {c : Nat} {L : List (BitVec 64)} {base : Nat} {l : List Nat} {F : List Fnd}
abbrev rsChk3_0 := (And.intro @xu8_add (And.intro @xu8_sub (And.intro @xu8_com (And.intro @xu8_leq (And.intro @xu16_add (And.intro @xu16_sub (And.intro @xu16_com (And.intro @xu16_leq (And.intro @xu32_add (And.intro @xu32_sub (And.intro @xu32_com (And.intro @xu32_leq (And.intro @xu64_add (And.intro @xu64_sub (And.intro @xu64_com (And.intro @xu64_leq 
  (And.intro @xi64_leq (And.intro @ld_3 (And.intro @ld_28 (And.intro @ld_69 (And.intro @ld_94 (And.intro @ld_123 (And.intro @fa_96_0 (And.intro @fa_96_1 (And.intro @fa_96_2 (And.intro @fa_123_0 (And.intro @fa_123_1 (And.intro @al_123 (And.intro @st_123 @ia_28)))))))))))))))))))))))))))))
theorem object_spec {o : Nat} (h : WkIs w0 w k r v a c L base l F) (hl : ∀ p ∈ l, p < base + L.length) (hb : base + L.length ≤ 8192) (hc0 : L.length ≤ c) (ho : o ∈ l) (hlo : base ≤ o) (hok : okW (wat L (o - base))) (hhi : o + szW (wat L (o - base)) ≤ base + L.length) (hF : F.length ≤ 100000) :
    Yld Try.prog n_check_walk_object #[ptr k, i64 (o : Int)] w fun u w' => ∃ v', WkIs w0 w' k r v' a c L base l (F ++ objF (fun p => wat L (p - base)) l o) ∧ Stp (k :: Go.Sh.blk v) (k :: Go.Sh.blk v') w w' := by
  obtain ⟨v1', v2', v3', v4', v5', v6', v7', v8'⟩ := okW_v hok
  have kb := fun i => h.blk.cell (i := i)
  have hlk := fun (K : K1) => xLookup_v (P := Try.prog) (K := K) (t := 94) (kt := 3) (et := 123) (by kernel_rfl) (by kernel_rfl) (zero_hd w) h.map (o : Int)
  rw [mget_hd ho] at hlk
  have hlk2 : ∀ K : K1, xLookup Try.prog 94 (.map (some r)) (i64 (o : Int)) false w K = K (hd (pN (wat L (o - base))) (bN (wat L (o - base))) false 0) w := hlk
  refine check_walk_object_of ?_
  unfold check_walk_object
  simp (disch := (first | omega | decide | (simp only [rsD] <;> omega) | fail)) only [↓rsC, rsK, rsL, ↓rsChk3_0, tick_eq, tickV_eq, ne_eq, Int.reduceAdd, Int.reduceSub, Int.reduceMul, Int.reduceEq, Int.reduceLT, Int.reduceLE, Int.reduceToNat, Nat.reduceMul, Nat.reduceAdd, Nat.reduceSub, ←decide_not, kb, hlk2]
  have B : Blk (w.alloc (.cells #[i64 (pN (wat L (o - base))), i64 (bN (wat L (o - base))), .bool false, i64 0] 123)) w.heap.size 123 [i64 (pN (wat L (o - base))), i64 (bN (wat L (o - base))), .bool false, i64 0] := Blk.at rfl
  have X : Ext [] w (w.alloc (.cells #[i64 (pN (wat L (o - base))), i64 (bN (wat L (o - base))), .bool false, i64 0] 123)) := Ext.alloc _ _ _
  have hy := h.ext0 X
  have zk := h.blk.lt
  have zv := h.own.lt
  have hhb : w.heap.size ∉ k :: Go.Sh.blk v := fun hm => by
    rcases List.mem_cons.1 hm with e | hm
    · omega
    · have := zv _ hm; omega
  have hsz : ∀ w, Gives Try.prog n_head_Size #[hd (pN (wat L (o - base))) (bN (wat L (o - base))) false 0] w (i64 (szW (wat L (o - base)) : Int)) := fun w => by
    have := SizeW_spec hok w
    rw [v1', v2', v4'] at this
    exact this
  have hobj : objF (fun p => wat L (p - base)) l o = ptrF (fun p => wat L (p - base)) l o (pN (wat L (o - base))) ++ padF (fun p => wat L (p - base)) o := rfl
  have hpl := ptrF_len (fun p => wat L (p - base)) l o
  have hpadF : padF (fun p => wat L (p - base)) o = if (bN (wat L (o - base)) % 8 ≠ 0 ∧ wat L (o + szW (wat L (o - base)) - 1 - base) >>> (8 * (bN (wat L (o - base)) % 8)) ≠ 0#64) then [(o + szW (wat L (o - base)) - 1, sPad)] else [] := rfl
  rw [hobj]
  generalize hP : pN (wat L (o - base)) = P at *
  generalize hN : bN (wat L (o - base)) = N at *
  generalize hZ : szW (wat L (o - base)) = Z at *
  generalize w.heap.size = hb0 at *
  generalize w.alloc (.cells #[i64 (P : Int), i64 (N : Int), .bool false, i64 0] 123) = y at *
  have e1 : (o : Int) + 1 = ((o + 1 + 0 : Nat) : Int) := by omega
  rw [e1]
  refine xLoop_n P (fun j => [i64 ((o + 1 + j : Nat) : Int)]) (fun j w' => ∃ v', WkIs w0 w' k r v' a c L base l (F ++ ptrF (fun p => wat L (p - base)) l o j) ∧ Stp (k :: Go.Sh.blk v) (k :: Go.Sh.blk v') y w') rfl ⟨v, by simpa [ptrF] using hy, Stp.refl _ _⟩ ?_ ?_
  · rintro j hj u w1 hu ⟨v', W, T⟩ nxt hnx
    simp only [List.map_cons, List.map_nil, List.cons.injEq, and_true] at hu
    rw [hu]
    have B1 := B.ext T.ext hhb
    have k1 := fun i => B1.cell (i := i)
    have Wd := W.ext0 (Ext.drew [] w1)
    have kd := fun i => Wd.blk.cell (i := i)
    have hi : o + 1 + j - base < L.length := by omega
    obtain ⟨b1, o1, rfl, kw1⟩ := word_at Wd hi
    have e2 : ((o + 1 + j : Nat) : Int) - (base : Int) = ((o + 1 + j - base : Nat) : Int) := by omega
    have e3 : ((o + 1 + j : Nat) : Int) + 1 = ((o + 1 + (j + 1) : Nat) : Int) := by omega
    have hle : ((o + 1 + j : Nat) : Int) ≤ (o : Int) + (P : Int) := by omega
    have hpj := hpl j
    have hs : ptrF (fun p => wat L (p - base)) l o (j + 1) = ptrF (fun p => wat L (p - base)) l o j ++ (if PtrOk l (wat L (o + 1 + j - base)).toNat then [] else [(o + 1 + j, sPtr)]) := rfl
    have hpt := points_spec Wd hl hb (wat L (o + 1 + j - base))
    unfold check_walk_object_l1
    generalize wat L (o + 1 + j - base) = xw at *
    generalize hq : o + 1 + j = q at *
    simp (disch := (first | omega | decide | (simp only [rsD] <;> omega) | fail)) only [↓rsC, rsK, rsL, ↓rsChk3_0, tick_eq, tickV_eq, ne_eq, Int.reduceAdd, Int.reduceSub, Int.reduceMul, Int.reduceEq, Int.reduceLT, Int.reduceLE, Int.reduceToNat, Nat.reduceMul, Nat.reduceAdd, Nat.reduceSub, ←decide_not, kb, hlk2, k1, kd, e2, kw1]
    refine check_walk_points_call (Gives.to hpt fun w2 F2d => ?_)
    have F2 := (Ext.drew [] _).trans F2d
    have W2 := W.ext0 F2
    by_cases hok2 : PtrOk l xw.toNat
    · rw [decide_eq_true hok2]
      rw [if_pos hok2, List.append_nil] at hs
      unfold check_walk_object_j1
      simp (disch := (first | omega | decide | (simp only [rsD] <;> omega) | fail)) only [↓rsC, rsK, rsL, ↓rsChk3_0, tick_eq, tickV_eq, ne_eq, Int.reduceAdd, Int.reduceSub, Int.reduceMul, Int.reduceEq, Int.reduceLT, Int.reduceLE, Int.reduceToNat, Nat.reduceMul, Nat.reduceAdd, Nat.reduceSub, ←decide_not, kb, hlk2, k1, kd, e2, kw1]
      rw [e3]
      exact hnx _ ⟨v', by rw [hs]; exact W2, ⟨T.ext.trans (F2.more (by simp)), T.at'⟩⟩
    · rw [decide_eq_false hok2]
      rw [if_neg hok2] at hs
      have cP : ({ data := #[112, 116, 114] } : ByteArray) = strOf sPtr := by decide +kernel
      simp (disch := (first | omega | decide | (simp only [rsD] <;> omega) | fail)) only [↓rsC, rsK, rsL, ↓rsChk3_0, tick_eq, tickV_eq, ne_eq, Int.reduceAdd, Int.reduceSub, Int.reduceMul, Int.reduceEq, Int.reduceLT, Int.reduceLE, Int.reduceToNat, Nat.reduceMul, Nat.reduceAdd, Nat.reduceSub, ←decide_not, kb, hlk2, k1, kd, e2, kw1]
      rw [cP]
      refine check_walk_add_call (Yld.mono (add_spec (at' := q) (s := sPtr) W2 (by rw [List.length_append]; omega)) ?_)
      rintro u w3 ⟨v3, W3, T3⟩
      unfold check_walk_object_j1
      simp (disch := (first | omega | decide | (simp only [rsD] <;> omega) | fail)) only [↓rsC, rsK, rsL, ↓rsChk3_0, tick_eq, tickV_eq, ne_eq, Int.reduceAdd, Int.reduceSub, Int.reduceMul, Int.reduceEq, Int.reduceLT, Int.reduceLE, Int.reduceToNat, Nat.reduceMul, Nat.reduceAdd, Nat.reduceSub, ←decide_not, kb, hlk2, k1, kd, e2, kw1]
      rw [e3]
      refine hnx _ ⟨v3, by rw [hs, ← List.append_assoc]; exact W3, ?_⟩
      exact (Stp.trans ⟨T.ext.trans (F2.more (by simp)), T.at'⟩ T3)
  · rintro u w1 hu ⟨v', W, T⟩ nxt
    simp only [List.map_cons, List.map_nil, List.cons.injEq, and_true] at hu
    rw [hu]
    have B1 := B.ext T.ext hhb
    have k1 := fun i => B1.cell (i := i)
    have hpj := hpl P
    unfold check_walk_object_l1
    simp (disch := (first | omega | decide | (simp only [rsD] <;> omega) | fail)) only [↓rsC, rsK, rsL, ↓rsChk3_0, tick_eq, tickV_eq, ne_eq, Int.reduceAdd, Int.reduceSub, Int.reduceMul, Int.reduceEq, Int.reduceLT, Int.reduceLE, Int.reduceToNat, Nat.reduceMul, Nat.reduceAdd, Nat.reduceSub, ←decide_not, kb, hlk2, k1]
    refine head_Size_call (Gives.to (hsz _) fun w2 F2 => ?_)
    have W2 := W.ext0 F2
    have kd := fun i => W2.blk.cell (i := i)
    have hi : o + Z - 1 - base < L.length := by omega
    obtain ⟨b1, o1, rfl, kw1⟩ := word_at W2 hi
    have e2 : (o : Int) + (Z : Int) - 1 = ((o + Z - 1 : Nat) : Int) := by omega
    have e3 : ((o + Z - 1 : Nat) : Int) - (base : Int) = ((o + Z - 1 - base : Nat) : Int) := by omega
    have B2 := B1.ext F2 (by simp)
    have k2 := fun i => B2.cell (i := i)
    have hpd := cpad_spec (wat L (o + Z - 1 - base)) N (by omega) w2.drew
    generalize wat L (o + Z - 1 - base) = xw at *
    simp (disch := (first | omega | decide | (simp only [rsD] <;> omega) | fail)) only [↓rsC, rsK, rsL, ↓rsChk3_0, tick_eq, tickV_eq, ne_eq, Int.reduceAdd, Int.reduceSub, Int.reduceMul, Int.reduceEq, Int.reduceLT, Int.reduceLE, Int.reduceToNat, Nat.reduceMul, Nat.reduceAdd, Nat.reduceSub, ←decide_not, kb, hlk2, k1]
    rw [e2]
    generalize hq : o + Z - 1 = q at *
    simp (disch := (first | omega | decide | (simp only [rsD] <;> omega) | fail)) only [↓rsC, rsK, rsL, ↓rsChk3_0, tick_eq, tickV_eq, ne_eq, Int.reduceAdd, Int.reduceSub, Int.reduceMul, Int.reduceEq, Int.reduceLT, Int.reduceLE, Int.reduceToNat, Nat.reduceMul, Nat.reduceAdd, Nat.reduceSub, ←decide_not, kb, hlk2, k1, kd, e3, kw1, k2]
    refine check_pad_call (Gives.to hpd fun w3 F3d => ?_)
    have F3 := (Ext.drew [] _).trans F3d
    have W3 := W2.ext0 F3
    have T3 : Stp (k :: Go.Sh.blk v) (k :: Go.Sh.blk v') y w3 := ⟨T.ext.trans ((F2.trans F3).more (by simp)), T.at'⟩
    have X0 : ∀ {v4 : Value} {w4 : World}, Stp (k :: Go.Sh.blk v) (k :: Go.Sh.blk v4) y w4 → Stp (k :: Go.Sh.blk v) (k :: Go.Sh.blk v4) w w4 := fun T4 => ⟨(X.more (by simp)).trans T4.ext, fun z hz => (T4.at' z hz).imp id fun h5 => Nat.le_trans X.size h5⟩
    by_cases hp : (N % 8 ≠ 0 ∧ xw >>> (8 * (N % 8)) ≠ 0#64)
    · rw [decide_eq_true hp]
      rw [if_pos hp] at hpadF
      have cP : ({ data := #[112, 97, 100] } : ByteArray) = strOf sPad := by decide +kernel
      simp (disch := (first | omega | decide | (simp only [rsD] <;> omega) | fail)) only [↓rsC, rsK, rsL, ↓rsChk3_0, tick_eq, tickV_eq, ne_eq, Int.reduceAdd, Int.reduceSub, Int.reduceMul, Int.reduceEq, Int.reduceLT, Int.reduceLE, Int.reduceToNat, Nat.reduceMul, Nat.reduceAdd, Nat.reduceSub, ←decide_not, kb, hlk2, k1, kd, e3, kw1, k2]
      rw [cP]
      refine check_walk_add_call (Yld.mono (add_spec (at' := q) (s := sPad) W3 (by rw [List.length_append]; omega)) ?_)
      rintro u w4 ⟨v4, W4, T4⟩
      refine ⟨v4, by rw [hpadF, ← List.append_assoc]; exact W4, X0 (T3.trans T4)⟩
    · rw [decide_eq_false hp]
      rw [if_neg hp] at hpadF
      simp (disch := (first | omega | decide | (simp only [rsD] <;> omega) | fail)) only [↓rsC, rsK, rsL, ↓rsChk3_0, tick_eq, tickV_eq, ne_eq, Int.reduceAdd, Int.reduceSub, Int.reduceMul, Int.reduceEq, Int.reduceLT, Int.reduceLE, Int.reduceToNat, Nat.reduceMul, Nat.reduceAdd, Nat.reduceSub, ←decide_not, kb, hlk2, k1, kd, e3, kw1, k2]
      refine ⟨v', by rw [hpadF, List.append_nil]; exact W3, X0 T3⟩
abbrev rsChk3_1 := (And.intro @xu8_add (And.intro @xu8_lss (And.intro @xu16_add (And.intro @xu16_lss (And.intro @xu32_add (And.intro @xu32_lss (And.intro @xu64_add (And.intro @xu64_lss (And.intro @xi64_lss (And.intro @ld_3 (And.intro @bd_96_0_1_2 (And.intro @ia_66 @ln_66))))))))))))
theorem look_spec (w : World) (L : List (BitVec 64)) (a : Option Addr) (c base : Nat) (hrow : RowAt w a (wrds L)) (hb : base + L.length ≤ 8192) (hc0 : L.length ≤ c) : Yld Try.prog n_check_look #[.slice a L.length c, i64 (base : Int)] w fun u w' => ∃ k r v l bad, u = ptr k ∧ Sc (fun p => wat L (p - base)) (base + L.length) base l bad ∧ WkIs w w' k r v a c L base l (allF (fun p => wat L (p - base)) l bad) := by
  refine check_look_of ?_
  unfold check_look
  have hm := fun (K : K1) (w : World) => xMakeMap_r (P := Try.prog) (w := w) (K := K) (t := 94)
  simp (disch := (first | omega | decide | (simp only [rsD] <;> omega) | fail)) only [↓rsC, rsK, rsL, ↓rsChk3_1, tick_eq, tickV_eq, ne_eq, Int.reduceAdd, Int.reduceSub, Int.reduceMul, Int.reduceEq, Int.reduceLT, Int.reduceLE, Int.reduceToNat, Nat.reduceMul, Nat.reduceAdd, Nat.reduceSub, ←decide_not, hm]
  have X1 : Ext [] w (w.alloc (.map #[] 0)) := Ext.alloc _ _ _
  have M1 := MapIs.new w
  have W : WkIs w ((w.alloc (.map #[] 0)).alloc (.cells #[.slice a L.length c, i64 (base : Int), .map (some w.heap.size), .slice none 0 0] 96)) (w.heap.size + 1) w.heap.size (.slice none 0 0) a c L base [] [] := by
    have X2 : Ext [] (w.alloc (.map #[] 0)) ((w.alloc (.map #[] 0)).alloc (.cells #[.slice a L.length c, i64 (base : Int), .map (some w.heap.size), .slice none 0 0] 96)) := Ext.alloc _ _ _
    refine ⟨?_, M1.ext0 X2, Own.nil, by omega, by simp [Go.Sh.blk, Value.ownBlock], by simp [Go.Sh.blk, Value.ownBlock], ⟨by omega, Nat.le_refl _, by simp [Go.Sh.blk, Value.ownBlock]⟩, (hrow.ext0 X1).ext0 X2, fun b o hz hL => ?_, X1.trans X2⟩
    · have := Blk.at (w := w.alloc (.map #[] 0)) (e := 96) (cs := [.slice a L.length c, i64 (base : Int), .map (some w.heap.size), .slice none 0 0]) rfl
      rw [World.size_alloc] at this
      exact this
    · obtain ⟨b9, o9, h9, z9, _⟩ := hrow.get (by simpa using hL)
      rw [hz] at h9
      simp only [Option.some.injEq, Addr.mk.injEq, and_true] at h9
      omega
  simp only [World.size_alloc]
  generalize (w.alloc (.map #[] 0)).alloc (.cells #[.slice a L.length c, i64 (base : Int), .map (some w.heap.size), .slice none 0 0] 96) = y at *
  generalize w.heap.size + 1 = k at *
  refine check_walk_objects_call (Yld.mono (objects_spec W hb hc0) ?_)
  rintro u w1 ⟨v', a2, c2, l, bad, rfl, R1, D1, hS, W1⟩
  have hcount := hS.count
  obtain ⟨hsort, hall⟩ := hS.all
  have hlb : ∀ p ∈ l, p < base + L.length := fun p hp => by
    have := hall p hp
    have := szW_pos (x := wat L (p - base))
    omega
  simp (disch := (first | omega | decide | (simp only [rsD] <;> omega) | fail)) only [↓rsC, rsK, rsL, ↓rsChk3_1, tick_eq, tickV_eq, ne_eq, Int.reduceAdd, Int.reduceSub, Int.reduceMul, Int.reduceEq, Int.reduceLT, Int.reduceLE, Int.reduceToNat, Nat.reduceMul, Nat.reduceAdd, Nat.reduceSub, ←decide_not, hm]
  refine xLoop_n l.length (fun j => [i64 (j : Int)]) (fun j w' => ∃ v'', WkIs w w' k w.heap.size v'' a c L base l (badF bad ++ (l.take j).flatMap (objF (fun p => wat L (p - base)) l)) ∧ Stp (k :: Go.Sh.blk v') (k :: Go.Sh.blk v'') w1 w') rfl ⟨v', by simpa using W1, Stp.refl _ _⟩ ?_ ?_
  · rintro j hj u w2 hu ⟨v2, W2, T2⟩ nxt hnx
    simp only [List.map_cons, List.map_nil, List.cons.injEq, and_true] at hu
    rw [hu]
    have R2 := R1.ext T2.ext (fun z o hz hm => by
      obtain ⟨d1, d2, d3⟩ := D1 z o hz
      rcases List.mem_cons.1 hm with e | hm
      · exact d2 e
      · exact d3 hm)
    obtain ⟨b1, o1, rfl, z1, k1⟩ := R2.at (i := j) (by simpa using hj)
    simp only [List.getElem_map] at k1
    have hm := List.getElem_mem hj
    obtain ⟨g1, g2, g3⟩ := hall _ hm
    have hfl : (badF bad ++ (l.take j).flatMap (objF (fun p => wat L (p - base)) l)).length ≤ 100000 := by
      have h1 := hS.fnd l j
      have h2 : (badF bad).length ≤ 1 := by cases bad <;> simp [badF]
      rw [List.length_append]
      omega
    have hsucc : badF bad ++ (l.take (j + 1)).flatMap (objF (fun p => wat L (p - base)) l) = (badF bad ++ (l.take j).flatMap (objF (fun p => wat L (p - base)) l)) ++ objF (fun p => wat L (p - base)) l l[j] := by
      rw [List.take_add_one, List.getElem?_eq_getElem hj, List.flatMap_append, List.append_assoc]
      simp
    unfold check_look_l1
    simp (disch := (first | omega | decide | (simp only [rsD] <;> omega) | fail)) only [↓rsC, rsK, rsL, ↓rsChk3_1, tick_eq, tickV_eq, ne_eq, Int.reduceAdd, Int.reduceSub, Int.reduceMul, Int.reduceEq, Int.reduceLT, Int.reduceLE, Int.reduceToNat, Nat.reduceMul, Nat.reduceAdd, Nat.reduceSub, ←decide_not, hm, k1]
    refine check_walk_object_call (Yld.mono (object_spec W2 hlb hb hc0 hm g1 g2 g3 hfl) ?_)
    rintro u w3 ⟨v3, W3, T3⟩
    simp (disch := (first | omega | decide | (simp only [rsD] <;> omega) | fail)) only [↓rsC, rsK, rsL, ↓rsChk3_1, tick_eq, tickV_eq, ne_eq, Int.reduceAdd, Int.reduceSub, Int.reduceMul, Int.reduceEq, Int.reduceLT, Int.reduceLE, Int.reduceToNat, Nat.reduceMul, Nat.reduceAdd, Nat.reduceSub, ←decide_not, hm, k1]
    exact hnx _ ⟨v3, by rw [hsucc]; exact W3, T2.trans T3⟩
  · rintro u w2 hu ⟨v2, W2, T2⟩ nxt
    simp only [List.map_cons, List.map_nil, List.cons.injEq, and_true] at hu
    rw [hu]
    unfold check_look_l1
    simp (disch := (first | omega | decide | (simp only [rsD] <;> omega) | fail)) only [↓rsC, rsK, rsL, ↓rsChk3_1, tick_eq, tickV_eq, ne_eq, Int.reduceAdd, Int.reduceSub, Int.reduceMul, Int.reduceEq, Int.reduceLT, Int.reduceLE, Int.reduceToNat, Nat.reduceMul, Nat.reduceAdd, Nat.reduceSub, ←decide_not, hm]
    exact ⟨k, w.heap.size, v2, l, bad, by trivial, hS, by rw [List.take_length] at W2; exact W2⟩
end
end Go.Proofs.Ytdpmidgeipibbaa
end
section
set_option linter.unusedVariables false
set_option linter.unusedSimpArgs false
set_option maxHeartbeats 4000000
namespace Go.Proofs.Ytdpmidgeipibbaa
open Go.Sh Go.RowKit

theorem ptrF_congr {x y : Nat → BitVec 64} {l : List Nat} {o : Nat} : ∀ k, (∀ i, i < k → x (o + 1 + i) = y (o + 1 + i)) → ptrF x l o k = ptrF y l o k
  | 0, _ => rfl
  | k + 1, h => by
    rw [ptrF, ptrF, ptrF_congr k (fun i hi => h i (by omega)), h k (by omega)]
theorem flat_congr {α β : Type} {f g : α → List β} : ∀ l : List α, (∀ x ∈ l, f x = g x) → l.flatMap f = l.flatMap g
  | [], _ => rfl
  | x :: l, h => by rw [List.flatMap_cons, List.flatMap_cons, h x (by simp), flat_congr l fun y hy => h y (by simp [hy])]
theorem allF_congr {x y : Nat → BitVec 64} {b t : Nat} {l : List Nat} {bad : Option Nat} (h : Sc x t b l bad) (e : ∀ i, b ≤ i → i < t → x i = y i) : allF x l bad = allF y l bad := by
  unfold allF
  congr 1
  refine flat_congr l ?_
  intro o ho
  obtain ⟨h1, h2, h3⟩ := h.all.2 o ho
  have h4 := szW_ge (y := x o)
  have e0 := e o h1 (by omega)
  have e2 := e (o + szW (x o) - 1) (by omega) (by omega)
  have hp : padX x o ↔ padX y o := by unfold padX; rw [← e0, e2]
  have hpF : padF x o = padF y o := by
    unfold padF
    by_cases h6 : padX x o
    · rw [if_pos h6, if_pos (hp.1 h6), e0]
    · rw [if_neg h6, if_neg (fun h7 => h6 (hp.2 h7))]
  unfold objF
  rw [hpF, ptrF_congr (pN (x o)) (fun i hi => e _ (by omega) (by omega)), e0]
/-- findings, as a row -/
def FndR (w w' : World) (u : Value) (F : List Fnd) : Prop := Ext [] w w' ∧ ∃ a2 c2, u = .slice a2 F.length c2 ∧ F.length ≤ c2 ∧ (a2 = none → c2 = 0) ∧ RowAt w' a2 (F.flatMap fC)
theorem ClipF_spec {w : World} {b : Option Addr} {n m : Nat} (hm : n ≤ m) : Gives Try.prog n_slices_Clip_check_Finding_check_Finding #[.slice b n m] w (.slice b n n) := by
  refine slices_Clip_check_Finding_check_Finding_of ?_
  unfold slices_Clip_check_Finding_check_Finding
  have hs := fun (K : K1) (w : World) => xSlice_hms (P := Try.prog) (w := w) (K := K) (t := 37) (z := 2) (k := .i64) (k' := .i64) (a := b) (n := n) (c := m) (h := (n : Int)) (m := (n : Int)) (by kernel_rfl) (by kernel_rfl) (by omega) (by omega) (by omega)
  simp (disch := (first | omega | decide | (simp only [rsD] <;> omega) | fail)) only [↓rsC, rsK, rsL, ↓ln_37, tick_eq, tickV_eq, ne_eq, Int.reduceAdd, Int.reduceSub, Int.reduceMul, Int.reduceEq, Int.reduceLT, Int.reduceLE, Int.reduceToNat, Nat.reduceMul, Nat.reduceAdd, Nat.reduceSub, ←decide_not, hs]
  exact ⟨by simp, Ext.refl _ _⟩
/-- what look leaves, as findings -/
theorem fnd_of {w0 w : World} {k r : Nat} {v : Value} {a : Option Addr} {c : Nat} {L : List (BitVec 64)} {base : Nat} {l : List Nat} {F : List Fnd} (W : WkIs w0 w k r v a c L base l F) : ∃ a2 c2, v = .slice a2 F.length c2 ∧ F.length ≤ c2 ∧ (a2 = none → c2 = 0) ∧ RowAt w a2 (F.flatMap fC) := by
  obtain ⟨a2, c2, hv, h1, h2, h3, h4, _⟩ := W.own.slice
  exact ⟨a2, c2, hv, h1, h3, h4⟩
section
variable {w : World} {base s g : Nat} {a : Option Addr} {c : Nat} {ws : List (BitVec 64)} {b t e : Nat}
end
end Go.Proofs.Ytdpmidgeipibbaa
end
section
set_option linter.unusedVariables false
set_option linter.unusedSimpArgs false
set_option maxHeartbeats 4000000
namespace Go.Proofs.Ytdpmidgeipibbaa
open Go.Sh Go.RowKit

def sMagic : List (BitVec 8) := [109#8, 97#8, 103#8, 105#8, 99#8]
def sSize : List (BitVec 8) := [115#8, 105#8, 122#8, 101#8]
def nR (l : List (BitVec 64)) : Nat := (fieldB (wat l 1) 0 16).toNat
def sizeOk (l : List (BitVec 64)) : Prop := 2 ≤ l.length ∧ fieldB (wat l 1) 48 16 = BitVec.ofNat 64 0 ∧ fieldB (wat l 1) 16 32 = BitVec.ofNat 64 l.length ∧ nR l ≤ 64 ∧ 2 + 5 * nR l ≤ l.length
instance (l : List (BitVec 64)) : Decidable (sizeOk l) := by unfold sizeOk; infer_instance
def magF (l : List (BitVec 64)) : List Fnd := if l.length < 1 ∨ wat l 0 ≠ BitVec.ofNat 64 1296125772 then [(0, sMagic)] else []
theorem nR_lt (l : List (BitVec 64)) : nR l < 65536 := by
  have h : (fieldB (wat l 1) 0 16).toNat = _ := field_nat (wat l 1) (a := 0) (n := 16) (by decide) (by decide)
  unfold nR
  rw [h]
  exact Nat.mod_lt _ (by decide)
theorem row_w {w : World} {a : Option Addr} {l : List (BitVec 64)} (h : RowAt w a (wrds l)) {i : Nat} (hi : i < l.length) : ∃ b o, a = some ⟨b, o, none⟩ ∧ b < w.heap.size ∧ w.cell? ⟨b, o + i, none⟩ = some (u64 (wat l i)) := by
  obtain ⟨b5, o5, h5, z5, k5⟩ := h.at (i := i) (by simpa using hi)
  refine ⟨b5, o5, h5, z5, ?_⟩
  simp only [List.getElem_map] at k5
  rw [k5]
  unfold wat
  rw [List.getD_eq_getElem?_getD, List.getElem?_eq_getElem hi]
  rfl
abbrev rsChk5_0 := (And.intro @xu8_add (And.intro @xu8_mul (And.intro @xu8_eql (And.intro @xu8_lss (And.intro @xu8_leq (And.intro @xu16_add (And.intro @xu16_mul (And.intro @xu16_eql (And.intro @xu16_lss (And.intro @xu16_leq (And.intro @xu32_add (And.intro @xu32_mul (And.intro @xu32_eql (And.intro @xu32_lss (And.intro @xu32_leq (And.intro @xu64_add 
  (And.intro @xu64_mul (And.intro @xu64_eql (And.intro @xu64_lss (And.intro @xu64_leq (And.intro @xi64_lss (And.intro @xi64_leq (And.intro @xi64_eql (And.intro @ld_69 (And.intro @cv_3_69 (And.intro @cv_69_3 (And.intro @ia_28 @ln_28)))))))))))))))))))))))))))
theorem csize_spec (l : List (BitVec 64)) (a : Option Addr) (c : Nat) (w : World) (h : RowAt w a (wrds l)) (hl : l.length ≤ 100000) : Gives Try.prog n_check_size #[.slice a l.length c] w (.tuple #[i64 ((if l.length < 2 then 0 else nR l : Nat) : Int), .bool (decide (sizeOk l))]) := by
  refine check_size_of ?_
  unfold check_size
  by_cases h2 : l.length < 2
  · rw [if_pos h2, decide_eq_false (fun h => by have := h.1; omega)]
    simp (disch := (first | omega | decide | (simp only [rsD] <;> omega) | fail)) only [↓rsC, rsK, rsL, ↓rsChk5_0, tick_eq, tickV_eq, ne_eq, Int.reduceAdd, Int.reduceSub, Int.reduceMul, Int.reduceEq, Int.reduceLT, Int.reduceLE, Int.reduceToNat, Nat.reduceMul, Nat.reduceAdd, Nat.reduceSub, ←decide_not, eq_self]
    exact ⟨by trivial, Ext.refl _ _⟩
  rw [if_neg h2]
  obtain ⟨b1, o1, rfl, z1, k1⟩ := row_w h (i := 1) (by omega)
  have hnl := nR_lt l
  have hni : (fieldB (wat l 1) 0 16).toInt = (nR l : Int) := by
    unfold nR at *
    rw [BitVec.toInt_eq_toNat_of_lt (by omega)]
  simp (disch := (first | omega | decide | (simp only [rsD] <;> omega) | fail)) only [↓rsC, rsK, rsL, ↓rsChk5_0, tick_eq, tickV_eq, ne_eq, Int.reduceAdd, Int.reduceSub, Int.reduceMul, Int.reduceEq, Int.reduceLT, Int.reduceLE, Int.reduceToNat, Nat.reduceMul, Nat.reduceAdd, Nat.reduceSub, ←decide_not, k1]
  refine bits_Field_call (Gives.to (Field_spec _ _ _ _) fun w2 F2 => ?_)
  have k2 : w2.cell? ⟨b1, o1 + 1, none⟩ = some (u64 (wat l 1)) := F2.cell0 k1
  simp (disch := (first | omega | decide | (simp only [rsD] <;> omega) | fail)) only [↓rsC, rsK, rsL, ↓rsChk5_0, tick_eq, tickV_eq, ne_eq, Int.reduceAdd, Int.reduceSub, Int.reduceMul, Int.reduceEq, Int.reduceLT, Int.reduceLE, Int.reduceToNat, Nat.reduceMul, Nat.reduceAdd, Nat.reduceSub, ←decide_not, k1, k2, hni]
  refine bits_Field_call (Gives.to (Field_spec _ _ _ _) fun w3 F3 => ?_)
  have k3 : w3.cell? ⟨b1, o1 + 1, none⟩ = some (u64 (wat l 1)) := F3.cell0 k2
  have hcl : BitVec.ofInt 64 (l.length : Int) = BitVec.ofNat 64 l.length := by rw [BitVec.ofInt_natCast]
  by_cases g1 : fieldB (wat l 1) 48 16 = BitVec.ofNat 64 0
  rotate_left
  · have hs : ¬ sizeOk l := fun h => g1 h.2.1
    rw [decide_eq_false hs]
    simp (disch := (first | omega | decide | (simp only [rsD] <;> omega) | fail)) only [↓rsC, rsK, rsL, ↓rsChk5_0, tick_eq, tickV_eq, ne_eq, Int.reduceAdd, Int.reduceSub, Int.reduceMul, Int.reduceEq, Int.reduceLT, Int.reduceLE, Int.reduceToNat, Nat.reduceMul, Nat.reduceAdd, Nat.reduceSub, ←decide_not, k1, k2, hni, k3, decide_eq_false g1]
    exact ⟨by trivial, F2.trans F3⟩
  simp (disch := (first | omega | decide | (simp only [rsD] <;> omega) | fail)) only [↓rsC, rsK, rsL, ↓rsChk5_0, tick_eq, tickV_eq, ne_eq, Int.reduceAdd, Int.reduceSub, Int.reduceMul, Int.reduceEq, Int.reduceLT, Int.reduceLE, Int.reduceToNat, Nat.reduceMul, Nat.reduceAdd, Nat.reduceSub, ←decide_not, k1, k2, hni, k3, decide_eq_true g1]
  refine bits_Field_call (Gives.to (Field_spec _ _ _ _) fun w4 F4 => ?_)
  have X4 := F2.trans (F3.trans F4)
  by_cases g2 : fieldB (wat l 1) 16 32 = BitVec.ofNat 64 l.length
  rotate_left
  · have hs : ¬ sizeOk l := fun h => g2 h.2.2.1
    rw [decide_eq_false hs]
    simp (disch := (first | omega | decide | (simp only [rsD] <;> omega) | fail)) only [↓rsC, rsK, rsL, ↓rsChk5_0, tick_eq, tickV_eq, ne_eq, Int.reduceAdd, Int.reduceSub, Int.reduceMul, Int.reduceEq, Int.reduceLT, Int.reduceLE, Int.reduceToNat, Nat.reduceMul, Nat.reduceAdd, Nat.reduceSub, ←decide_not, k1, k2, hni, k3, decide_eq_true g1, hcl, decide_eq_false g2]
    exact ⟨by trivial, X4⟩
  by_cases g3 : nR l ≤ 64
  rotate_left
  · have hs : ¬ sizeOk l := fun h => g3 h.2.2.2.1
    rw [decide_eq_false hs]
    simp (disch := (first | omega | decide | (simp only [rsD] <;> omega) | fail)) only [↓rsC, rsK, rsL, ↓rsChk5_0, tick_eq, tickV_eq, ne_eq, Int.reduceAdd, Int.reduceSub, Int.reduceMul, Int.reduceEq, Int.reduceLT, Int.reduceLE, Int.reduceToNat, Nat.reduceMul, Nat.reduceAdd, Nat.reduceSub, ←decide_not, k1, k2, hni, k3, decide_eq_true g1, hcl, decide_eq_true g2]
    exact ⟨by trivial, X4⟩
  by_cases g4 : 2 + 5 * nR l ≤ l.length
  · have hs : sizeOk l := ⟨by omega, g1, g2, g3, g4⟩
    rw [decide_eq_true hs]
    simp (disch := (first | omega | decide | (simp only [rsD] <;> omega) | fail)) only [↓rsC, rsK, rsL, ↓rsChk5_0, tick_eq, tickV_eq, ne_eq, Int.reduceAdd, Int.reduceSub, Int.reduceMul, Int.reduceEq, Int.reduceLT, Int.reduceLE, Int.reduceToNat, Nat.reduceMul, Nat.reduceAdd, Nat.reduceSub, ←decide_not, k1, k2, hni, k3, decide_eq_true g1, hcl, decide_eq_true g2]
    exact ⟨by trivial, X4⟩
  · have hs : ¬ sizeOk l := fun h => g4 h.2.2.2.2
    rw [decide_eq_false hs]
    simp (disch := (first | omega | decide | (simp only [rsD] <;> omega) | fail)) only [↓rsC, rsK, rsL, ↓rsChk5_0, tick_eq, tickV_eq, ne_eq, Int.reduceAdd, Int.reduceSub, Int.reduceMul, Int.reduceEq, Int.reduceLT, Int.reduceLE, Int.reduceToNat, Nat.reduceMul, Nat.reduceAdd, Nat.reduceSub, ←decide_not, k1, k2, hni, k3, decide_eq_true g1, hcl, decide_eq_true g2]
    exact ⟨by trivial, X4⟩
theorem appFs {w : World} {K : K1} {v : Value} {F G : List Fnd} {a : Option Addr} {c : Nat} (hO : OwnF w v F) (hr : RowAt w a (G.flatMap fC)) (hn : a = none → c = 0) (hc : G.length ≤ c) (hl : F.length + G.length ≤ 1000000)
    (hK : ∀ v' w', OwnF w' v' (F ++ G) → Stp (blk v) (blk v') w w' → K v' w') : xBuiltin Try.prog .append #[37, 37] 37 [false, false] [v, .slice a G.length c] w K := by
  refine xApp (e := 40) (s := 2) (n := F.length) (m := G.length) (xs := F.flatMap fC) (news := G.flatMap fC) (bytes := 24) (z := .agg #[.int .i64 0, .string ⟨#[]⟩]) (by kernel_rfl) (by kernel_rfl) (by rfl) (by decide) hO (fC_len G) hr hn hc (fun u hu => ?_) (by omega) (by omega) fun v' w' h1 h2 => hK v' w' ?_ h2
  · obtain ⟨f, _, hf⟩ := List.mem_flatMap.1 hu
    simp only [fC, List.mem_cons, List.not_mem_nil, or_false] at hf
    rcases hf with rfl | rfl <;> rfl
  · show Own w' 40 2 v' (F ++ G).length ((F ++ G).flatMap fC)
    rw [List.length_append, List.flatMap_append]
    exact h1
theorem wat_drop (l : List (BitVec 64)) (n i : Nat) : wat (l.drop n) i = wat l (n + i) := by
  unfold wat
  simp only [List.getD_eq_getElem?_getD, List.getElem?_drop]
abbrev rsChk5_1 := (And.intro @xu8_add (And.intro @xu8_mul (And.intro @xu8_com (And.intro @xu8_neq (And.intro @xu8_lss (And.intro @xu8_leq (And.intro @xu16_add (And.intro @xu16_mul (And.intro @xu16_com (And.intro @xu16_neq (And.intro @xu16_lss (And.intro @xu16_leq (And.intro @xu32_add (And.intro @xu32_mul (And.intro @xu32_com (And.intro @xu32_neq 
  (And.intro @xu32_lss (And.intro @xu32_leq (And.intro @xu64_add (And.intro @xu64_mul (And.intro @xu64_com (And.intro @xu64_neq (And.intro @xu64_lss (And.intro @xu64_leq (And.intro @xi64_lss (And.intro @xi64_leq (And.intro @xi64_neq (And.intro @xi64_neg (And.intro @ld_37 (And.intro @ld_69 (And.intro @fa_96_3 (And.intro @bd_40_0_1 (And.intro @ia_28 
  (And.intro @ln_28 (And.intro @bs_37_1 (And.intro @sh_28 (And.intro @sl_28 (And.intro @sm_28 @sb_28))))))))))))))))))))))))))))))))))))))
theorem Image_n0 (l : List (BitVec 64)) (a : Option Addr) (c : Nat) (w : World) (h : RowAt w a (wrds l)) (hc : l.length ≤ c) (hl : l.length ≤ 8192) (hn : sizeOk l → nR l = 0) :
    Yld Try.prog n_check_Image #[.slice a l.length c] w fun u w' => ∃ os bad, (sizeOk l → Sc (wat l) l.length 2 os bad) ∧ FndR w w' u (magF l ++ if sizeOk l then allF (wat l) os bad else [(1, sSize)]) := by
  refine check_Image_of ?_
  unfold check_Image
  have j8 : ∀ (v : Value) (w1 : World), Ext [] w w1 → OwnF w1 v (magF l) → (∀ y ∈ blk v, w.heap.size ≤ y) → check_Image_j8 (fun u w' => ∃ os bad, (sizeOk l → Sc (wat l) l.length 2 os bad) ∧ FndR w w' u (magF l ++ if sizeOk l then allF (wat l) os bad else [(1, sSize)])) (.slice a l.length c) v w1 := by
    intro v w1 F1 O1 hv
    have R1 := h.ext0 F1
    have lm : (magF l).length ≤ 1 := by unfold magF; split <;> simp
    unfold check_Image_j8
    refine check_size_call (Gives.to (csize_spec l a c w1 R1 (by omega)) fun w2 F2 => ?_)
    have O2 := O1.ext0 F2
    have R2 := R1.ext0 F2
    obtain ⟨a0, c0, rfl, hc0, _, hn0, hr0, _⟩ := O1.slice
    by_cases hs : sizeOk l
    · have h2 : ¬ l.length < 2 := by have := hs.1; omega
      rw [decide_eq_true hs, if_neg h2, hn hs]
      have hlk := fun (w : World) (R : RowAt w a (wrds l)) => look_spec w (l.drop 2) (if c = 2 then a else a.map (·.add 2)) (c - 2) 2 (by
        have := R.drop 2 c (by simpa using hc)
        rw [← List.map_drop] at this
        exact this) (by rw [List.length_drop]; omega) (by rw [List.length_drop]; omega)
      rw [List.length_drop] at hlk
      simp (disch := (first | omega | decide | (simp only [rsD] <;> omega) | fail)) only [↓rsC, rsK, rsL, ↓rsChk5_1, tick_eq, tickV_eq, ne_eq, Int.reduceAdd, Int.reduceSub, Int.reduceMul, Int.reduceEq, Int.reduceLT, Int.reduceLE, Int.reduceToNat, Nat.reduceMul, Nat.reduceAdd, Nat.reduceSub, ←decide_not, eq_self]
      refine check_look_call (Yld.mono (hlk w2 R2) ?_)
      rintro u w3 ⟨k, r, v, os, bad, rfl, hS, W⟩
      have hS2 : Sc (wat l) l.length 2 os bad := by
        have e1 : 2 + (l.length - 2) = l.length := by omega
        rw [e1] at hS
        exact hS.congr fun i h3 h4 => by rw [wat_drop]; congr 1; omega
      have hall : allF (fun p => wat (l.drop 2) (p - 2)) os bad = allF (wat l) os bad := by
        have e1 : 2 + (l.length - 2) = l.length := by omega
        rw [e1] at hS
        exact allF_congr hS fun i h3 h4 => by rw [wat_drop]; congr 1; omega
      rw [hall] at W
      have lf : (allF (wat l) os bad).length ≤ 100000 := by
        have h1 := hS2.fnd os os.length
        rw [List.take_length] at h1
        have h2 : (badF bad).length ≤ 1 := by cases bad <;> simp [badF]
        unfold allF
        rw [List.length_append]
        omega
      have O3 := O2.ext0 W.ext
      obtain ⟨a3, c3, hv3, hc3, hn3, hr3⟩ := fnd_of W
      have k3 := fun i => W.blk.cell (i := i)
      subst hv3
      simp (disch := (first | omega | decide | (simp only [rsD] <;> omega) | fail)) only [↓rsC, rsK, rsL, ↓rsChk5_1, tick_eq, tickV_eq, ne_eq, Int.reduceAdd, Int.reduceSub, Int.reduceMul, Int.reduceEq, Int.reduceLT, Int.reduceLE, Int.reduceToNat, Nat.reduceMul, Nat.reduceAdd, Nat.reduceSub, ←decide_not, eq_self]
      refine xLoop_n 0 (fun _ => [.string { data := #[] }, i64 2]) (fun _ w' => Ext [] w3 w') rfl (Ext.refl _ _) (fun j hj => by omega) ?_
      intro u w4 hu F4 nxt
      simp only [List.map_cons, List.map_nil, List.cons.injEq, and_true] at hu
      rw [hu.1, hu.2]
      have k4 := fun i => (W.blk.ext F4 (by simp)).cell (i := i)
      unfold check_Image_l2
      simp (disch := (first | omega | decide | (simp only [rsD] <;> omega) | fail)) only [↓rsC, rsK, rsL, ↓rsChk5_1, tick_eq, tickV_eq, ne_eq, Int.reduceAdd, Int.reduceSub, Int.reduceMul, Int.reduceEq, Int.reduceLT, Int.reduceLE, Int.reduceToNat, Nat.reduceMul, Nat.reduceAdd, Nat.reduceSub, ←decide_not, k4]
      refine appFs (O3.ext0 F4) (hr3.ext0 F4) hn3 hc3 (by omega) fun v' w5 O5 F5 => ?_
      have X5 : Ext [] w w5 := (((F1.trans F2).trans W.ext).trans F4).new F5.ext (fun y hy => hv y hy)
      obtain ⟨a6, c6, rfl, hc6, _, hn6, hr6, _⟩ := O5.slice
      refine slices_Clip_check_Finding_check_Finding_call (Gives.to (ClipF_spec hc6) fun w6 F6 => ?_)
      exact ⟨os, bad, fun _ => hS2, X5.trans F6, a6, _, by rw [if_pos hs], by rw [if_pos hs]; exact Nat.le_refl _, fun h => by have := hn6 h; omega, by rw [if_pos hs]; exact hr6.ext0 F6⟩
    · rw [decide_eq_false hs]
      have cS : ({ data := #[115, 105, 122, 101] } : ByteArray) = strOf sSize := by decide +kernel
      simp (disch := (first | omega | decide | (simp only [rsD] <;> omega) | fail)) only [↓rsC, rsK, rsL, ↓rsChk5_1, tick_eq, tickV_eq, ne_eq, Int.reduceAdd, Int.reduceSub, Int.reduceMul, Int.reduceEq, Int.reduceLT, Int.reduceLE, Int.reduceToNat, Nat.reduceMul, Nat.reduceAdd, Nat.reduceSub, ←decide_not, eq_self]
      rw [cS]
      refine appFl O2 (f := (1, sSize)) rfl (by omega) fun v' w3 O3 F3 => ?_
      have X3 : Ext [] w w3 := (F1.trans F2).new F3.ext (fun y hy => hv y hy)
      obtain ⟨a6, c6, rfl, hc6, _, hn6, hr6, _⟩ := O3.slice
      refine slices_Clip_check_Finding_check_Finding_call (Gives.to (ClipF_spec hc6) fun w6 F6 => ?_)
      exact ⟨[], none, fun h => absurd h hs, X3.trans F6, a6, _, by rw [if_neg hs], by rw [if_neg hs]; exact Nat.le_refl _, fun h => by have := hn6 h; omega, by rw [if_neg hs]; exact hr6.ext0 F6⟩
  have cM : ({ data := #[109, 97, 103, 105, 99] } : ByteArray) = strOf sMagic := by decide +kernel
  by_cases hm : l.length < 1
  · have hmg : magF l = [(0, sMagic)] := by unfold magF; rw [if_pos (.inl hm)]
    simp (disch := (first | omega | decide | (simp only [rsD] <;> omega) | fail)) only [↓rsC, rsK, rsL, ↓rsChk5_1, tick_eq, tickV_eq, ne_eq, Int.reduceAdd, Int.reduceSub, Int.reduceMul, Int.reduceEq, Int.reduceLT, Int.reduceLE, Int.reduceToNat, Nat.reduceMul, Nat.reduceAdd, Nat.reduceSub, ←decide_not, eq_self]
    rw [cM]
    refine appFl (F := []) Own.nil (f := (0, sMagic)) rfl (by simp) fun v' w3 O3 F3 => ?_
    exact j8 v' w3 (F3.ext.more (by simp [blk, Value.ownBlock])) (by rw [hmg]; exact O3) (fun y hy => by
      rcases F3.at' y hy with h1 | h1
      · simp [blk, Value.ownBlock] at h1
      · exact h1)
  obtain ⟨b1, o1, rfl, z1, k1⟩ := row_w h (i := 0) (by omega)
  have k1' : w.cell? ⟨b1, o1, none⟩ = some (u64 (wat l 0)) := k1
  by_cases hm2 : wat l 0 = BitVec.ofNat 64 1296125772
  · have hmg : magF l = [] := by unfold magF; rw [if_neg]; rintro (h1 | h1); exact hm h1; exact h1 hm2
    simp (disch := (first | omega | decide | (simp only [rsD] <;> omega) | fail)) only [↓rsC, rsK, rsL, ↓rsChk5_1, tick_eq, tickV_eq, ne_eq, Int.reduceAdd, Int.reduceSub, Int.reduceMul, Int.reduceEq, Int.reduceLT, Int.reduceLE, Int.reduceToNat, Nat.reduceMul, Nat.reduceAdd, Nat.reduceSub, ←decide_not, k1', hm2]
    exact j8 _ w (Ext.refl _ _) (by rw [hmg]; exact Own.nil) (by simp [blk, Value.ownBlock])
  · have hmg : magF l = [(0, sMagic)] := by unfold magF; rw [if_pos (.inr hm2)]
    simp (disch := (first | omega | decide | (simp only [rsD] <;> omega) | fail)) only [↓rsC, rsK, rsL, ↓rsChk5_1, tick_eq, tickV_eq, ne_eq, Int.reduceAdd, Int.reduceSub, Int.reduceMul, Int.reduceEq, Int.reduceLT, Int.reduceLE, Int.reduceToNat, Nat.reduceMul, Nat.reduceAdd, Nat.reduceSub, ←decide_not, k1', decide_eq_true hm2]
    rw [cM]
    refine appFl (F := []) Own.nil (f := (0, sMagic)) rfl (by simp) fun v' w3 O3 F3 => ?_
    exact j8 v' w3 (F3.ext.more (by simp [blk, Value.ownBlock])) (by rw [hmg]; exact O3) (fun y hy => by
      rcases F3.at' y hy with h1 | h1
      · simp [blk, Value.ownBlock] at h1
      · exact h1)
theorem fnd_at {w : World} {a : Option Addr} {F : List Fnd} (h : RowAt w a (F.flatMap fC)) {k : Nat} (hk : k < F.length) : ∃ b o, a = some ⟨b, o, none⟩ ∧ b < w.heap.size ∧ w.cell? ⟨b, o + k * 2, none⟩ = some (i64 (F[k].1 : Int)) ∧ w.cell? ⟨b, o + k * 2 + 1, none⟩ = some (.string (strOf F[k].2)) := by
  have hc : ∀ (l : List Fnd) (k : Nat) (h : k < l.length) (j : Nat), j < 2 → (l.flatMap fC)[k * 2 + j]? = (fC l[k])[j]? := by
    intro l
    induction l with
    | nil => intro k h; simp at h
    | cons x l ih =>
      intro k h j hj
      rw [List.flatMap_cons]
      cases k with
      | zero => rw [List.getElem?_append_left (by simp [fC]; omega)]; simp
      | succ k =>
        rw [List.getElem?_append_right (by simp [fC]; omega), show (k + 1) * 2 + j - (fC x).length = k * 2 + j by simp [fC]; omega]
        simpa using ih k (by simpa using h) j hj
  obtain ⟨b, o, rfl, hb, hcc⟩ := h.get (by intro e; have := congrArg List.length e; rw [fC_len] at this; simp only [List.length_nil] at this; omega)
  refine ⟨b, o, rfl, hb, ?_, ?_⟩
  · have := hcc (k * 2 + 0) _ ((hc F k hk 0 (by omega)).trans rfl); simpa using this
  · have := hcc (k * 2 + 1) _ ((hc F k hk 1 (by omega)).trans rfl); rw [Nat.add_assoc]; exact this
abbrev rsChk5_2 := (And.intro @xu8_add (And.intro @xu8_neq (And.intro @xu8_lss (And.intro @xu16_add (And.intro @xu16_neq (And.intro @xu16_lss (And.intro @xu32_add (And.intro @xu32_neq (And.intro @xu32_lss (And.intro @xu64_add (And.intro @xu64_neq (And.intro @xu64_lss (And.intro @xi64_lss (And.intro @xi64_neq (And.intro @xi64_neg (And.intro @ld_3 
  (And.intro @ld_9 (And.intro @fa_40_0 (And.intro @fa_40_1 (And.intro @fa_105_0 (And.intro @fa_105_1 (And.intro @ia_37 (And.intro @ia_49 (And.intro @ln_37 @ln_49))))))))))))))))))))))))
theorem same26_spec {w : World} {F : List Fnd} {a a' : Option Addr} {c c' : Nat} (h : RowAt w a (F.flatMap fC)) (h' : RowAt w a' (F.flatMap fC)) (hl : F.length ≤ 1000000) : Gives Try.prog n_loamlaw26_same #[.slice a F.length c, .slice a' F.length c'] w (.bool true) := by
  refine loamlaw26_same_of ?_
  unfold loamlaw26_same
  simp (disch := (first | omega | decide | (simp only [rsD] <;> omega) | fail)) only [↓rsC, rsK, rsL, ↓rsChk5_2, tick_eq, tickV_eq, ne_eq, Int.reduceAdd, Int.reduceSub, Int.reduceMul, Int.reduceEq, Int.reduceLT, Int.reduceLE, Int.reduceToNat, Nat.reduceMul, Nat.reduceAdd, Nat.reduceSub, ←decide_not, eq_self]
  refine xLoop_n F.length (fun j => [i64 (j : Int)]) (fun _ w' => Ext [] w w') rfl (Ext.refl _ _) ?_ ?_
  · intro j hj u v1 hu F1 nxt hnx
    simp only [List.map_cons, List.map_nil, List.cons.injEq, and_true] at hu
    rw [hu]
    obtain ⟨b1, o1, rfl, z1, k1, k2⟩ := fnd_at ((h.ext0 F1).ext0 (Ext.drew [] v1)) hj
    obtain ⟨b3, o3, rfl, z3, k3, k4⟩ := fnd_at ((h'.ext0 F1).ext0 (Ext.drew [] v1)) hj
    have dne : decide (strOf F[j].2 ≠ strOf F[j].2) = false := decide_eq_false (fun h => h rfl)
    unfold loamlaw26_same_l1
    simp (disch := (first | omega | decide | (simp only [rsD] <;> omega) | fail)) only [↓rsC, rsK, rsL, ↓rsChk5_2, tick_eq, tickV_eq, ne_eq, Int.reduceAdd, Int.reduceSub, Int.reduceMul, Int.reduceEq, Int.reduceLT, Int.reduceLE, Int.reduceToNat, Nat.reduceMul, Nat.reduceAdd, Nat.reduceSub, ←decide_not, k1, k2, k3, k4, dne]
    exact hnx _ (F1.trans (Ext.drew _ _))
  · intro u v1 hu F1 nxt
    simp only [List.map_cons, List.map_nil, List.cons.injEq, and_true] at hu
    rw [hu]
    unfold loamlaw26_same_l1
    simp (disch := (first | omega | decide | (simp only [rsD] <;> omega) | fail)) only [↓rsC, rsK, rsL, ↓rsChk5_2, tick_eq, tickV_eq, ne_eq, Int.reduceAdd, Int.reduceSub, Int.reduceMul, Int.reduceEq, Int.reduceLT, Int.reduceLE, Int.reduceToNat, Nat.reduceMul, Nat.reduceAdd, Nat.reduceSub, ←decide_not, eq_self]
    exact ⟨by trivial, F1⟩
end Go.Proofs.Ytdpmidgeipibbaa
end
section
set_option linter.unusedVariables false
set_option linter.unusedSimpArgs false
set_option maxHeartbeats 4000000
namespace Go.Proofs.Ytdpmidgeipibbaa
open Go.Sh Go.RowKit

abbrev rsObjX_0 := (And.intro @xu8_add (And.intro @xu8_eql (And.intro @xu8_lss (And.intro @xu16_add (And.intro @xu16_eql (And.intro @xu16_lss (And.intro @xu32_add (And.intro @xu32_eql (And.intro @xu32_lss (And.intro @xu64_add (And.intro @xu64_eql (And.intro @xu64_lss (And.intro @xi64_lss (And.intro @xi64_eql (And.intro @ld_3 (And.intro @ia_66 @ln_66))))))))))))))))
theorem rAmong_spec {w : World} {l : List Nat} {a : Option Addr} {c : Nat} (h : RowAt w a (nums l)) (hl : l.length ≤ 1000000) (x : Nat) : Gives Try.prog n_loamref14_among #[.slice a l.length c, i64 (x : Int)] w (.bool (decide (x ∈ l))) := by
  refine loamref14_among_of ?_
  unfold loamref14_among
  simp (disch := (first | omega | decide | (simp only [rsD] <;> omega) | fail)) only [↓rsC, rsK, rsL, ↓rsObjX_0, tick_eq, tickV_eq, ne_eq, Int.reduceAdd, Int.reduceSub, Int.reduceMul, Int.reduceEq, Int.reduceLT, Int.reduceLE, Int.reduceToNat, Nat.reduceMul, Nat.reduceAdd, Nat.reduceSub, ←decide_not, eq_self]
  refine xLoop_n l.length (fun j => [i64 (j : Int)]) (fun j w' => Ext [] w w' ∧ ∀ i (hi : i < l.length), i < j → l[i] ≠ x) rfl ⟨Ext.refl _ _, by intro i _ hi; omega⟩ ?_ ?_
  · intro j hj u v1 hu ⟨F, hq⟩ nxt hnx
    simp only [List.map_cons, List.map_nil, List.cons.injEq, and_true] at hu
    rw [hu]
    obtain ⟨b1, o1, rfl, z1, k1⟩ := (h.ext0 F).at (i := j) (by simpa using hj)
    simp only [List.getElem_map] at k1
    have hm := List.getElem_mem hj
    unfold loamref14_among_l1
    by_cases he : l[j] = x
    · rw [he] at k1 hm
      simp (disch := (first | omega | decide | (simp only [rsD] <;> omega) | fail)) only [↓rsC, rsK, rsL, ↓rsObjX_0, tick_eq, tickV_eq, ne_eq, Int.reduceAdd, Int.reduceSub, Int.reduceMul, Int.reduceEq, Int.reduceLT, Int.reduceLE, Int.reduceToNat, Nat.reduceMul, Nat.reduceAdd, Nat.reduceSub, ←decide_not, k1]
      exact ⟨by rw [decide_eq_true hm], F⟩
    · generalize hy : l[j] = y at *
      simp (disch := (first | omega | decide | (simp only [rsD] <;> omega) | fail)) only [↓rsC, rsK, rsL, ↓rsObjX_0, tick_eq, tickV_eq, ne_eq, Int.reduceAdd, Int.reduceSub, Int.reduceMul, Int.reduceEq, Int.reduceLT, Int.reduceLE, Int.reduceToNat, Nat.reduceMul, Nat.reduceAdd, Nat.reduceSub, ←decide_not, k1]
      refine hnx _ ⟨F, fun i hi hij => ?_⟩
      by_cases e : i = j
      · subst e; rw [hy]; exact he
      · exact hq i hi (by omega)
  · intro u v1 hu ⟨F, hq⟩ nxt
    simp only [List.map_cons, List.map_nil, List.cons.injEq, and_true] at hu
    rw [hu]
    have hm : ¬ x ∈ l := fun hx => by
      obtain ⟨i, hi, he⟩ := List.getElem_of_mem hx
      exact hq i hi hi he
    unfold loamref14_among_l1
    simp (disch := (first | omega | decide | (simp only [rsD] <;> omega) | fail)) only [↓rsC, rsK, rsL, ↓rsObjX_0, tick_eq, tickV_eq, ne_eq, Int.reduceAdd, Int.reduceSub, Int.reduceMul, Int.reduceEq, Int.reduceLT, Int.reduceLE, Int.reduceToNat, Nat.reduceMul, Nat.reduceAdd, Nat.reduceSub, ←decide_not, eq_self]
    exact ⟨by rw [decide_eq_false hm], F⟩
abbrev rsObjX_1 := (And.intro @xu8_sub (And.intro @xu8_eql (And.intro @xu8_lss (And.intro @xu16_sub (And.intro @xu16_eql (And.intro @xu16_lss (And.intro @xu32_sub (And.intro @xu32_eql (And.intro @xu32_lss (And.intro @xu64_sub (And.intro @xu64_eql (And.intro @xu64_lss (And.intro @xi64_lss (And.intro @xi64_eql @cv_69_3))))))))))))))
theorem rPoints_spec {w : World} {l : List Nat} {a : Option Addr} {c : Nat} (h : RowAt w a (nums l)) (hl : l.length ≤ 1000000) (hb : ∀ y ∈ l, y < 8192) (x : BitVec 64) : Gives Try.prog n_loamref14_Points #[.slice a l.length c, u64 x] w (.bool (decide (PtrOk l x.toNat))) := by
  have hx := x.isLt
  refine loamref14_Points_of ?_
  unfold loamref14_Points
  by_cases h0 : x.toNat = 0
  · have hx0 : x = BitVec.ofNat 64 0 := BitVec.eq_of_toNat_eq h0
    subst hx0
    simp (disch := (first | omega | decide | (simp only [rsD] <;> omega) | fail)) only [↓rsC, rsK, rsL, ↓rsObjX_1, tick_eq, tickV_eq, ne_eq, Int.reduceAdd, Int.reduceSub, Int.reduceMul, Int.reduceEq, Int.reduceLT, Int.reduceLE, Int.reduceToNat, Nat.reduceMul, Nat.reduceAdd, Nat.reduceSub, ←decide_not, eq_self]
    exact ⟨by rw [decide_eq_true (.inl rfl)], Ext.refl _ _⟩
  have hne : x ≠ BitVec.ofNat 64 0 := fun h => h0 (by rw [h]; rfl)
  have hs : (x - BitVec.ofNat 64 1).toNat = x.toNat - 1 := by
    rw [BitVec.toNat_sub]
    have : (BitVec.ofNat 64 1).toNat = 1 := by decide
    omega
  have h30 : (BitVec.ofNat 64 1073741824).toNat = 1073741824 := by decide
  by_cases h1 : x.toNat - 1 < 1073741824
  · have hlt : decide ((x - BitVec.ofNat 64 1).toNat < (BitVec.ofNat 64 1073741824).toNat) = true := decide_eq_true (by omega)
    have hi : (x - BitVec.ofNat 64 1).toInt = ((x.toNat - 1 : Nat) : Int) := by rw [BitVec.toInt_eq_toNat_of_lt (by omega), hs]
    simp (disch := (first | omega | decide | (simp only [rsD] <;> omega) | fail)) only [↓rsC, rsK, rsL, ↓rsObjX_1, tick_eq, tickV_eq, ne_eq, Int.reduceAdd, Int.reduceSub, Int.reduceMul, Int.reduceEq, Int.reduceLT, Int.reduceLE, Int.reduceToNat, Nat.reduceMul, Nat.reduceAdd, Nat.reduceSub, ←decide_not, decide_eq_false hne, hlt, hi]
    refine loamref14_among_call (Gives.to (rAmong_spec h hl _) fun w1 F1 => ?_)
    simp (disch := (first | omega | decide | (simp only [rsD] <;> omega) | fail)) only [↓rsC, rsK, rsL, ↓rsObjX_1, tick_eq, tickV_eq, ne_eq, Int.reduceAdd, Int.reduceSub, Int.reduceMul, Int.reduceEq, Int.reduceLT, Int.reduceLE, Int.reduceToNat, Nat.reduceMul, Nat.reduceAdd, Nat.reduceSub, ←decide_not, decide_eq_false hne, hlt, hi]
    refine ⟨?_, F1⟩
    congr 1
    rw [decide_eq_decide]
    constructor
    · intro hm
      have := hb _ hm
      exact .inr ⟨by omega, by omega, hm⟩
    · rintro (h | ⟨_, _, h⟩)
      · exact absurd h h0
      · exact h
  · have hlt : decide ((x - BitVec.ofNat 64 1).toNat < (BitVec.ofNat 64 1073741824).toNat) = false := decide_eq_false (by omega)
    have hp : ¬ PtrOk l x.toNat := by
      rintro (h | ⟨h, _, _⟩)
      · exact h0 h
      · omega
    simp (disch := (first | omega | decide | (simp only [rsD] <;> omega) | fail)) only [↓rsC, rsK, rsL, ↓rsObjX_1, tick_eq, tickV_eq, ne_eq, Int.reduceAdd, Int.reduceSub, Int.reduceMul, Int.reduceEq, Int.reduceLT, Int.reduceLE, Int.reduceToNat, Nat.reduceMul, Nat.reduceAdd, Nat.reduceSub, ←decide_not, decide_eq_false hne, hlt]
    exact ⟨by rw [decide_eq_false hp], Ext.refl _ _⟩
section
variable {w : World} {m : Nat} {r : Option Addr} {c : Nat} {ws : List (BitVec 64)} {b t e : Nat}
abbrev rsObjX_2 := (And.intro @xu8_add (And.intro @xu8_mul (And.intro @xu8_neq (And.intro @xu8_lss (And.intro @xu16_add (And.intro @xu16_mul (And.intro @xu16_neq (And.intro @xu16_lss (And.intro @xu32_add (And.intro @xu32_mul (And.intro @xu32_neq (And.intro @xu32_lss (And.intro @xu64_add (And.intro @xu64_mul (And.intro @xu64_neq (And.intro @xu64_lss 
  (And.intro @xi64_lss (And.intro @xi64_neq (And.intro @xi64_neg (And.intro @ld_3 (And.intro @ld_28 (And.intro @ld_84 (And.intro @fa_46_0 (And.intro @fa_84_0 @fa_84_1))))))))))))))))))))))))
theorem rPad_spec {o : Nat} (S : RfIs w m r c ws b t e) (hO : ObjAt ws b t o) : Yld Try.prog n_loamref14_Space_Pad #[ptr m, i64 (o : Int), hd (pN (wat ws o)) (bN (wat ws o)) false 0] w fun u w' => (∃ k : Bool, u = .bool k ∧ (k = true ↔ ¬ PadW ws o)) ∧ Ext [] w w' := by
  obtain ⟨v1, v2, v3, v4, v5, v6, v7, v8⟩ := okW_v hO.ok
  have q2 := S.te
  have q3 := S.el
  have q4 := S.len
  have hhi := hO.hi
  have hsz : ∀ w, Gives Try.prog n_loamref14_Size #[hd (pN (wat ws o)) (bN (wat ws o)) false 0] w (i64 (szW (wat ws o) : Int)) := fun w => by
    have := rSizeW_spec hO.ok w
    rw [v1, v2, v4] at this
    exact this
  refine loamref14_Space_Pad_of ?_
  unfold loamref14_Space_Pad
  simp (disch := (first | omega | decide | (simp only [rsD] <;> omega) | fail)) only [↓rsC, rsK, rsL, ↓rsObjX_2, tick_eq, tickV_eq, ne_eq, Int.reduceAdd, Int.reduceSub, Int.reduceMul, Int.reduceEq, Int.reduceLT, Int.reduceLE, Int.reduceToNat, Nat.reduceMul, Nat.reduceAdd, Nat.reduceSub, ←decide_not, eq_self]
  have B : Blk (w.alloc (.cells #[i64 (pN (wat ws o)), i64 (bN (wat ws o)), .bool false, i64 0] 84)) w.heap.size 84 [i64 (pN (wat ws o)), i64 (bN (wat ws o)), .bool false, i64 0] := Blk.at rfl
  have X : Ext [] w (w.alloc (.cells #[i64 (pN (wat ws o)), i64 (bN (wat ws o)), .bool false, i64 0] 84)) := Ext.alloc _ _ _
  generalize w.alloc (.cells #[i64 (pN (wat ws o)), i64 (bN (wat ws o)), .bool false, i64 0] 84) = y at *
  have e0 : 8 * ((o : Int) + 1 + (pN (wat ws o) : Int)) + (bN (wat ws o) : Int) = (((o + 1 + pN (wat ws o)) * 8 + bN (wat ws o) + 0 : Nat) : Int) := by omega
  rw [e0]
  refine xLoop_n ((o + szW (wat ws o)) * 8 - ((o + 1 + pN (wat ws o)) * 8 + bN (wat ws o))) (fun j => [i64 (((o + 1 + pN (wat ws o)) * 8 + bN (wat ws o) + j : Nat) : Int)]) (fun j w' => Ext [] y w' ∧ ∀ i, (o + 1 + pN (wat ws o)) * 8 + bN (wat ws o) ≤ i → i < (o + 1 + pN (wat ws o)) * 8 + bN (wat ws o) + j → byteW ws i = BitVec.ofNat 8 0) rfl ⟨Ext.refl _ _, by intro i _ _; omega⟩ ?_ ?_
  · intro j hj u v1 hu ⟨F, hq⟩ nxt hnx
    simp only [List.map_cons, List.map_nil, List.cons.injEq, and_true] at hu
    rw [hu]
    generalize hA : (o + 1 + pN (wat ws o)) * 8 + bN (wat ws o) = A at *
    have kb := fun i => (B.ext F (by simp)).cell (i := i)
    unfold loamref14_Space_Pad_l1
    simp (disch := (first | omega | decide | (simp only [rsD] <;> omega) | fail)) only [↓rsC, rsK, rsL, ↓rsObjX_2, tick_eq, tickV_eq, ne_eq, Int.reduceAdd, Int.reduceSub, Int.reduceMul, Int.reduceEq, Int.reduceLT, Int.reduceLE, Int.reduceToNat, Nat.reduceMul, Nat.reduceAdd, Nat.reduceSub, ←decide_not, kb]
    refine loamref14_Size_call (Gives.to (hsz _) fun w2 F2 => ?_)
    have S2 := S.ext0 (X.trans (F.trans F2))
    have k2 := fun i => S2.blk.cell (i := i)
    simp (disch := (first | omega | decide | (simp only [rsD] <;> omega) | fail)) only [↓rsC, rsK, rsL, ↓rsObjX_2, tick_eq, tickV_eq, ne_eq, Int.reduceAdd, Int.reduceSub, Int.reduceMul, Int.reduceEq, Int.reduceLT, Int.reduceLE, Int.reduceToNat, Nat.reduceMul, Nat.reduceAdd, Nat.reduceSub, ←decide_not, kb, k2]
    refine loamref14_byteAt_call (Gives.to (rByteAt_spec ws r c (A + j) S2.row (by omega) (by omega)) fun w3 F3 => ?_)
    have X3 := F.trans (F2.trans F3)
    by_cases hz : byteW ws (A + j) = BitVec.ofNat 8 0
    · rw [hz]
      simp (disch := (first | omega | decide | (simp only [rsD] <;> omega) | fail)) only [↓rsC, rsK, rsL, ↓rsObjX_2, tick_eq, tickV_eq, ne_eq, Int.reduceAdd, Int.reduceSub, Int.reduceMul, Int.reduceEq, Int.reduceLT, Int.reduceLE, Int.reduceToNat, Nat.reduceMul, Nat.reduceAdd, Nat.reduceSub, ←decide_not, kb, k2]
      have e2 : ((A + j : Nat) : Int) + 1 = ((A + (j + 1) : Nat) : Int) := by omega
      rw [e2]
      refine hnx _ ⟨X3, fun i h1 h2 => ?_⟩
      by_cases e : i = A + j
      · subst e; exact hz
      · exact hq i h1 (by omega)
    · generalize hbw : byteW ws (A + j) = bw at *
      simp (disch := (first | omega | decide | (simp only [rsD] <;> omega) | fail)) only [↓rsC, rsK, rsL, ↓rsObjX_2, tick_eq, tickV_eq, ne_eq, Int.reduceAdd, Int.reduceSub, Int.reduceMul, Int.reduceEq, Int.reduceLT, Int.reduceLE, Int.reduceToNat, Nat.reduceMul, Nat.reduceAdd, Nat.reduceSub, ←decide_not, kb, k2, decide_eq_true hz]
      refine ⟨⟨true, by trivial, ⟨fun _ h => ?_, fun _ => rfl⟩⟩, X.trans X3⟩
      exact hz (hbw ▸ h (A + j) (by omega) (by omega))
  · intro u v1 hu ⟨F, hq⟩ nxt
    simp only [List.map_cons, List.map_nil, List.cons.injEq, and_true] at hu
    rw [hu]
    generalize hA : (o + 1 + pN (wat ws o)) * 8 + bN (wat ws o) = A at *
    have kb := fun i => (B.ext F (by simp)).cell (i := i)
    unfold loamref14_Space_Pad_l1
    simp (disch := (first | omega | decide | (simp only [rsD] <;> omega) | fail)) only [↓rsC, rsK, rsL, ↓rsObjX_2, tick_eq, tickV_eq, ne_eq, Int.reduceAdd, Int.reduceSub, Int.reduceMul, Int.reduceEq, Int.reduceLT, Int.reduceLE, Int.reduceToNat, Nat.reduceMul, Nat.reduceAdd, Nat.reduceSub, ←decide_not, kb]
    refine loamref14_Size_call (Gives.to (hsz _) fun w2 F2 => ?_)
    simp (disch := (first | omega | decide | (simp only [rsD] <;> omega) | fail)) only [↓rsC, rsK, rsL, ↓rsObjX_2, tick_eq, tickV_eq, ne_eq, Int.reduceAdd, Int.reduceSub, Int.reduceMul, Int.reduceEq, Int.reduceLT, Int.reduceLE, Int.reduceToNat, Nat.reduceMul, Nat.reduceAdd, Nat.reduceSub, ←decide_not, kb]
    refine ⟨⟨false, by trivial, ⟨(fun h => by cases h), fun h => absurd (fun i h1 h2 => hq i (by omega) (by omega)) h⟩⟩, X.trans (F.trans F2)⟩
end
end Go.Proofs.Ytdpmidgeipibbaa
end
section
set_option linter.unusedVariables false
set_option linter.unusedSimpArgs false
set_option maxHeartbeats 4000000
namespace Go.Proofs.Ytdpmidgeipibbaa
open Go.Sh Go.RowKit

theorem bdF (i : Int) (s : ByteArray) (w : World) (K : K1) : xBuild Try.prog 105 [(0, .int .i64 i), (1, .string s)] w K = K (.agg #[.int .i64 i, .string s]) w := xBuild_ok (by kernel_rfl)
def badI : Option Nat → Int
  | none => -1
  | some o => o
abbrev rsChk6_0 := (And.intro @xu8_add (And.intro @xu8_sub (And.intro @xu8_neq (And.intro @xu8_lss (And.intro @xu8_gtr (And.intro @xu16_add (And.intro @xu16_sub (And.intro @xu16_neq (And.intro @xu16_lss (And.intro @xu16_gtr (And.intro @xu32_add (And.intro @xu32_sub (And.intro @xu32_neq (And.intro @xu32_lss (And.intro @xu32_gtr (And.intro @xu64_add 
  (And.intro @xu64_sub (And.intro @xu64_neq (And.intro @xu64_lss (And.intro @xu64_gtr (And.intro @xi64_lss (And.intro @xi64_gtr (And.intro @xi64_neq (And.intro @xi64_neg (And.intro @ld_4 (And.intro @ld_69 (And.intro @ld_84 (And.intro @fa_84_2 (And.intro @al_84 (And.intro @st_84 (And.intro @ia_28 (And.intro @bs_66_0 @bs_66_1))))))))))))))))))))))))))))))))
theorem rFoundN_spec (ws : List (BitVec 64)) (a : Option Addr) (c b t : Nat) (w : World) (h : RowAt w a (wrds ws)) (hl : ws.length ≤ 8192) (hb : b ≤ t) (ht : t ≤ ws.length) :
    Yld Try.prog n_loamref17_Found #[.slice a ws.length c, i64 (b : Int), i64 (t : Int)] w fun u w' => ∃ l bad a2 c2, Sc (wat ws) t b l bad ∧ u = .tuple #[.slice a2 l.length c2, i64 (badI bad)] ∧ RowAt w' a2 (nums l) ∧ Ext [] w w' ∧ ∀ x, a2 = some x → w.heap.size ≤ x.block := by
  obtain ⟨l, bad, hS⟩ := Sc.ex (wat ws) t (t - b) b (by omega) hb
  have hall : ∀ (v : Value) (w' : World), NewI w w' v l → ∃ a2 c2, v = .slice a2 l.length c2 ∧ RowAt w' a2 (nums l) ∧ Ext [] w w' ∧ ∀ x, a2 = some x → w.heap.size ≤ x.block := by
    intro v w' N
    obtain ⟨a2, c2, rfl, _, _, _, hr2, _⟩ := N.2.1.slice
    exact ⟨a2, c2, rfl, hr2, N.1, fun x hx => N.2.2 x.block (by subst hx; simp [blk, Value.ownBlock])⟩
  refine loamref17_Found_of ?_
  unfold loamref17_Found
  refine xLoop_r (t - b + 1) (fun j vs w' => ∃ (out : Value) (o : Nat) (p lr : List Nat), vs = [out, i64 (o : Int)] ∧ b + j ≤ o ∧ o ≤ t ∧ l = p ++ lr ∧ Sc (wat ws) t o lr bad ∧ NewI w w' out p) ⟨_, b, [], l, rfl, Nat.le_refl _, hb, rfl, hS, NewR.nil (Ext.refl _ _)⟩ ?_ ?_
  rotate_left
  · rintro u v1 ⟨out, o, p, lr, hu, h1, h2, _⟩ nxt
    omega
  rintro j hj u v1 ⟨out, o, p, lr, hu, h1, h2, hlp, hSc, N⟩ nxt hnx
  simp only [List.map_cons, List.map_nil, List.cons.injEq, and_true] at hu
  rw [hu.1, hu.2]
  have hpl : p.length ≤ 8192 := by have := hS.count; rw [hlp, List.length_append] at this; omega
  unfold loamref17_Found_l1
  by_cases ho : o < t
  rotate_left
  · have e1 : o = t := by omega
    subst e1
    obtain ⟨rfl, rfl⟩ := hSc.uniq .done
    rw [List.append_nil] at hlp
    subst hlp
    obtain ⟨a2, c2, rfl, hr2, X2⟩ := hall _ _ N
    simp (disch := (first | omega | decide | (simp only [rsD] <;> omega) | fail)) only [↓rsC, rsK, rsL, ↓rsChk6_0, tick_eq, tickV_eq, ne_eq, Int.reduceAdd, Int.reduceSub, Int.reduceMul, Int.reduceEq, Int.reduceLT, Int.reduceLE, Int.reduceToNat, Nat.reduceMul, Nat.reduceAdd, Nat.reduceSub, ←decide_not, eq_self]
    exact ⟨l, none, a2, c2, hS, by trivial, hr2, X2⟩
  obtain ⟨b1, o1, rfl, z1, k1⟩ := row_w (h.ext0 N.1) (i := o) (by omega)
  simp (disch := (first | omega | decide | (simp only [rsD] <;> omega) | fail)) only [↓rsC, rsK, rsL, ↓rsChk6_0, tick_eq, tickV_eq, ne_eq, Int.reduceAdd, Int.reduceSub, Int.reduceMul, Int.reduceEq, Int.reduceLT, Int.reduceLE, Int.reduceToNat, Nat.reduceMul, Nat.reduceAdd, Nat.reduceSub, ←decide_not, k1]
  have hun := rUnpack_spec (wat ws o) v1
  have stop : ∀ w' : World, Ext [] v1 w' → ¬ (okW (wat ws o) ∧ o + szW (wat ws o) ≤ t) → ∃ l bad a2 c2, Sc (wat ws) t b l bad ∧ Value.tuple #[out, i64 (o : Int)] = .tuple #[.slice a2 l.length c2, i64 (badI bad)] ∧ RowAt w' a2 (nums l) ∧ Ext [] w w' ∧ ∀ x, a2 = some x → w.heap.size ≤ x.block := by
    intro w' F hn
    obtain ⟨rfl, rfl⟩ := hSc.uniq (.bad ho hn)
    rw [List.append_nil] at hlp
    subst hlp
    obtain ⟨a2, c2, rfl, hr2, X2⟩ := hall _ _ (N.ext F)
    exact ⟨l, some o, a2, c2, hS, rfl, hr2, X2⟩
  by_cases hok : okW (wat ws o)
  · obtain ⟨v1', v2', v3', v4', v5', v6', v7', v8'⟩ := okW_v hok
    rw [v1', v2', v3', v4', v5'] at hun
    have hsz : ∀ w, Gives Try.prog n_loamref14_Size #[hd (pN (wat ws o)) (bN (wat ws o)) false 0] w (i64 (szW (wat ws o) : Int)) := fun w => by
      have := rSizeW_spec hok w
      rw [v1', v2', v4'] at this
      exact this
    refine loamref14_Unpack_call (Gives.to hun fun w2 F2 => ?_)
    simp (disch := (first | omega | decide | (simp only [rsD] <;> omega) | fail)) only [↓rsC, rsK, rsL, ↓rsChk6_0, tick_eq, tickV_eq, ne_eq, Int.reduceAdd, Int.reduceSub, Int.reduceMul, Int.reduceEq, Int.reduceLT, Int.reduceLE, Int.reduceToNat, Nat.reduceMul, Nat.reduceAdd, Nat.reduceSub, ←decide_not, k1]
    have B : Blk (w2.alloc (.cells #[i64 (pN (wat ws o)), i64 (bN (wat ws o)), .bool false, i64 0] 84)) w2.heap.size 84 [i64 (pN (wat ws o)), i64 (bN (wat ws o)), .bool false, i64 0] := Blk.at rfl
    have X2 : Ext [] w2 (w2.alloc (.cells #[i64 (pN (wat ws o)), i64 (bN (wat ws o)), .bool false, i64 0] 84)) := Ext.alloc _ _ _
    refine loamref14_Size_call (Gives.to (hsz _) fun w3 F3 => ?_)
    have B3 := B.ext F3 (by simp)
    have X3 := F2.trans (X2.trans F3)
    have N3 := N.ext X3
    have zo := N.2.1.lt
    have z2 := F2.size
    by_cases hs : o + szW (wat ws o) ≤ t
    · obtain ⟨lr', rfl, h5⟩ := hSc.step_inv ho hok hs
      simp (disch := (first | omega | decide | (simp only [rsD] <;> omega) | fail)) only [↓rsC, rsK, rsL, ↓rsChk6_0, tick_eq, tickV_eq, ne_eq, Int.reduceAdd, Int.reduceSub, Int.reduceMul, Int.reduceEq, Int.reduceLT, Int.reduceLE, Int.reduceToNat, Nat.reduceMul, Nat.reduceAdd, Nat.reduceSub, ←decide_not, k1]
      refine appIl N3.2.1 rfl (by omega) fun v' w4 O4 F4 => ?_
      have B4 := B3.ext F4.ext (fun hm => by have := zo _ hm; omega)
      have k4 := fun i => B4.cell (i := i)
      simp (disch := (first | omega | decide | (simp only [rsD] <;> omega) | fail)) only [↓rsC, rsK, rsL, ↓rsChk6_0, tick_eq, tickV_eq, ne_eq, Int.reduceAdd, Int.reduceSub, Int.reduceMul, Int.reduceEq, Int.reduceLT, Int.reduceLE, Int.reduceToNat, Nat.reduceMul, Nat.reduceAdd, Nat.reduceSub, ←decide_not, k1, k4]
      refine loamref14_Size_call (Gives.to (hsz _) fun w5 F5 => ?_)
      simp (disch := (first | omega | decide | (simp only [rsD] <;> omega) | fail)) only [↓rsC, rsK, rsL, ↓rsChk6_0, tick_eq, tickV_eq, ne_eq, Int.reduceAdd, Int.reduceSub, Int.reduceMul, Int.reduceEq, Int.reduceLT, Int.reduceLE, Int.reduceToNat, Nat.reduceMul, Nat.reduceAdd, Nat.reduceSub, ←decide_not, k1, k4]
      have e6 : (o : Int) + (szW (wat ws o) : Int) = ((o + szW (wat ws o) : Nat) : Int) := by omega
      rw [e6]
      have hpos := szW_pos (x := wat ws o)
      exact hnx _ _ ⟨v', o + szW (wat ws o), p ++ [o], lr', rfl, by omega, hs, by rw [hlp]; simp, h5, (N3.app O4 F4).ext F5⟩
    · simp (disch := (first | omega | decide | (simp only [rsD] <;> omega) | fail)) only [↓rsC, rsK, rsL, ↓rsChk6_0, tick_eq, tickV_eq, ne_eq, Int.reduceAdd, Int.reduceSub, Int.reduceMul, Int.reduceEq, Int.reduceLT, Int.reduceLE, Int.reduceToNat, Nat.reduceMul, Nat.reduceAdd, Nat.reduceSub, ←decide_not, k1]
      exact stop _ X3 (fun h => hs h.2)
  · by_cases he : unErr (wat ws o) = 0
    · rw [he, okW_not hok he] at hun
      refine loamref14_Unpack_call (Gives.to hun fun w2 F2 => ?_)
      simp (disch := (first | omega | decide | (simp only [rsD] <;> omega) | fail)) only [↓rsC, rsK, rsL, ↓rsChk6_0, tick_eq, tickV_eq, ne_eq, Int.reduceAdd, Int.reduceSub, Int.reduceMul, Int.reduceEq, Int.reduceLT, Int.reduceLE, Int.reduceToNat, Nat.reduceMul, Nat.reduceAdd, Nat.reduceSub, ←decide_not, k1]
      exact stop _ (F2.trans (Ext.alloc _ _ _)) (fun h => hok h.1)
    · refine loamref14_Unpack_call (Gives.to hun fun w2 F2 => ?_)
      simp (disch := (first | omega | decide | (simp only [rsD] <;> omega) | fail)) only [↓rsC, rsK, rsL, ↓rsChk6_0, tick_eq, tickV_eq, ne_eq, Int.reduceAdd, Int.reduceSub, Int.reduceMul, Int.reduceEq, Int.reduceLT, Int.reduceLE, Int.reduceToNat, Nat.reduceMul, Nat.reduceAdd, Nat.reduceSub, ←decide_not, k1]
      exact stop _ (F2.trans (Ext.alloc _ _ _)) (fun h => hok h.1)
theorem rFound_spec (ws : List (BitVec 64)) (a : Option Addr) (c b t : Nat) (w : World) (h : RowAt w a (wrds ws)) (hl : ws.length ≤ 8192) (hb : b ≤ t) (ht : t ≤ ws.length) :
    Yld Try.prog n_loamref17_Found #[.slice a ws.length c, i64 (b : Int), i64 (t : Int)] w fun u w' => ∃ l bad a2 c2, Sc (wat ws) t b l bad ∧ u = .tuple #[.slice a2 l.length c2, i64 (badI bad)] ∧ RowAt w' a2 (nums l) ∧ Ext [] w w' :=
  Yld.mono (rFoundN_spec ws a c b t w h hl hb ht) fun u w' ⟨l, bad, a2, c2, h1, h2, h3, h4, _⟩ => ⟨l, bad, a2, c2, h1, h2, h3, h4⟩
abbrev NewFr (w w' : World) (v : Value) (F : List Fnd) : Prop := NewR 105 2 w w' v F.length (F.flatMap fC)
theorem appFr {w w0 : World} {K : K1} {v : Value} {F : List Fnd} {f : Fnd} {g : Nat} {cs : List Value} (N : NewFr w0 w v F) (hcs : cs = fC f) (hl : F.length ≤ 1000000)
    (hK : ∀ v' w', NewFr w0 w' v' (F ++ [f]) → Stp (blk v) (blk v') w w' → K v' w') (hg : g = w.heap.size := by first | rfl | (simp only [World.size_alloc, World.size_drew, World.size_setCell] <;> omega)) : xBuiltin Try.prog .append #[49, 49] 49 [false, false] [v, .slice (some ⟨g, 0, none⟩) 1 1] (w.alloc (.cells cs.toArray 105)) K := by
  subst hcs hg
  refine xAppL (s := 2) (n := F.length) (m := 1) (xs := F.flatMap fC) (news := fC f) (bytes := 24) (z := .agg #[.int .i64 0, .string ⟨#[]⟩]) (by kernel_rfl) (by kernel_rfl) (by rfl) (by decide) N.2.1 (by rfl) (by simp [fC, Value.oneCell']) (by omega) (by omega) fun v' w' h1 h2 => hK v' w' ?_ h2
  have h3 := N.app h1 h2
  show NewR 105 2 w0 w' v' (F ++ [f]).length ((F ++ [f]).flatMap fC)
  rw [List.length_append, List.flatMap_append]
  simpa using h3
abbrev rsChk6_1 := (And.intro @xu8_add (And.intro @xu8_sub (And.intro @xu8_com (And.intro @xu8_lss (And.intro @xu8_geq (And.intro @xu16_add (And.intro @xu16_sub (And.intro @xu16_com (And.intro @xu16_lss (And.intro @xu16_geq (And.intro @xu32_add (And.intro @xu32_sub (And.intro @xu32_com (And.intro @xu32_lss (And.intro @xu32_geq (And.intro @xu64_add 
  (And.intro @xu64_sub (And.intro @xu64_com (And.intro @xu64_lss (And.intro @xu64_geq (And.intro @xi64_lss (And.intro @xi64_geq (And.intro @ld_3 (And.intro @ld_69 (And.intro @ld_84 (And.intro @fa_84_0 (And.intro @al_84 (And.intro @st_84 (And.intro @bd_46_0_1_2_3 (And.intro @ia_28 (And.intro @ia_66 (And.intro @ln_66 @bs_49_1))))))))))))))))))))))))))))))))
theorem rSpaceF_spec (ws : List (BitVec 64)) (a : Option Addr) (c b t : Nat) (w : World) (h : RowAt w a (wrds ws)) (hc : ws.length ≤ c) (hn : a = none → c = 0) (hl : ws.length ≤ 8192) (hb : b ≤ t) (ht : t ≤ ws.length) :
    Yld Try.prog n_loamref17_Space #[.slice a ws.length c, i64 (b : Int), i64 (t : Int)] w fun u w' => ∃ l bad, Sc (wat ws) t b l bad ∧ FndR w w' u (allF (wat ws) l bad) := by
  refine loamref17_Space_of ?_
  unfold loamref17_Space
  refine loamref17_Found_call (Yld.mono (rFound_spec ws a c b t w h hl hb ht) ?_)
  rintro u w1 ⟨l, bad, a2, c2, hS, rfl, R1, F1⟩
  have hcount := hS.count
  obtain ⟨hsort, hall⟩ := hS.all
  have hlb : ∀ y ∈ l, y < 8192 := fun y hy => by
    have := hall y hy
    have := szW_pos (x := wat ws y)
    omega
  have hR1 := h.ext0 F1
  have hax : ∀ x, ws ≠ [] → x ∈ blkOf a → x < w1.heap.size := fun x hw hx => by
    rcases hR1.get (by simpa using hw) with ⟨b5, o5, rfl, hb5, _⟩
    simp only [blkOf, List.mem_singleton] at hx
    omega
  have lbad : (badF bad).length ≤ 1 := by cases bad <;> simp [badF]
  have j3 : ∀ (v : Value) (w2 : World), NewFr w1 w2 v (badF bad) → loamref17_Space_j3 (fun u w' => ∃ l bad, Sc (wat ws) t b l bad ∧ FndR w w' u (allF (wat ws) l bad)) (.slice a ws.length c) (i64 (b : Int)) (i64 (t : Int)) v (.slice a2 l.length c2) w2 := by
    intro v w2 N2
    unfold loamref17_Space_j3
    have hr2 := hR1.ext0 N2.1
    have Rf : RfIs (w2.alloc (.cells #[.slice a ws.length c, i64 (b : Int), i64 (t : Int), i64 (t : Int)] 46)) w2.heap.size a c ws b t t := by
      refine ⟨Blk.at rfl, hr2.ext0 (Ext.alloc _ _ _), hc, hn, ?_, by omega, by omega, by omega, by omega⟩
      intro hl2 hm2
      have := hax _ hl2 hm2
      have := N2.1.size
      omega
    have X3 : Ext [] w2 (w2.alloc (.cells #[.slice a ws.length c, i64 (b : Int), i64 (t : Int), i64 (t : Int)] 46)) := Ext.alloc _ _ _
    have zN := N2.2.1.lt
    simp (disch := (first | omega | decide | (simp only [rsD] <;> omega) | fail)) only [↓rsC, rsK, rsL, ↓rsChk6_1, tick_eq, tickV_eq, ne_eq, Int.reduceAdd, Int.reduceSub, Int.reduceMul, Int.reduceEq, Int.reduceLT, Int.reduceLE, Int.reduceToNat, Nat.reduceMul, Nat.reduceAdd, Nat.reduceSub, ←decide_not, eq_self]
    generalize hm : w2.heap.size = m at *
    generalize w2.alloc (.cells #[.slice a ws.length c, i64 (b : Int), i64 (t : Int), i64 (t : Int)] 46) = y at *
    have Ny := N2.ext X3
    have hmv : m ∉ blk v := fun h => by have := zN m h; omega
    have nextR : ∀ {v v' : Value} {w3 w4 : World} {F : List Fnd}, RfIs w3 m a c ws b t t → NewFr w1 w3 v F → m ∉ blk v → Stp (blk v) (blk v') w3 w4 → RfIs w4 m a c ws b t t ∧ m ∉ blk v' := by
      intro v v' w3 w4 F R N hv T
      refine ⟨R.ext T.ext hv (fun hw x hx hm2 => ?_), fun h => ?_⟩
      · have := hax x hw hx
        have := N.2.2 x hm2
        omega
      · rcases T.at' m h with h1 | h1
        · exact hv h1
        · have := R.blk.lt
          omega
    refine xLoop_r l.length (fun j vs w' => ∃ v, vs = [v, i64 (j : Int)] ∧ NewFr w1 w' v (badF bad ++ (l.take j).flatMap (objF (wat ws) l)) ∧ RfIs w' m a c ws b t t ∧ m ∉ blk v) ⟨v, rfl, by simpa using Ny, Rf, hmv⟩ ?_ ?_
    rotate_left
    · rintro u w3 ⟨v3, hu, N3, R3, hv3⟩ nxt
      simp only [List.map_cons, List.map_nil, List.cons.injEq, and_true] at hu
      rw [hu.1, hu.2]
      rw [List.take_length] at N3
      obtain ⟨a4, c4, rfl, hc4, _, hn4, hr4, _⟩ := N3.2.1.slice
      unfold loamref17_Space_l3
      simp (disch := (first | omega | decide | (simp only [rsD] <;> omega) | fail)) only [↓rsC, rsK, rsL, ↓rsChk6_1, tick_eq, tickV_eq, ne_eq, Int.reduceAdd, Int.reduceSub, Int.reduceMul, Int.reduceEq, Int.reduceLT, Int.reduceLE, Int.reduceToNat, Nat.reduceMul, Nat.reduceAdd, Nat.reduceSub, ←decide_not, eq_self]
      exact ⟨l, bad, hS, F1.trans N3.1, a4, c4, rfl, hc4, hn4, hr4⟩
    rintro j hj u w3 ⟨v3, hu, N3, R3, hv3⟩ nxt hnx
    simp only [List.map_cons, List.map_nil, List.cons.injEq, and_true] at hu
    rw [hu.1, hu.2]
    have hm3 := List.getElem_mem hj
    obtain ⟨g1, hok, g3⟩ := hall _ hm3
    have hsucc : badF bad ++ (l.take (j + 1)).flatMap (objF (wat ws) l) = (badF bad ++ (l.take j).flatMap (objF (wat ws) l)) ++ objF (wat ws) l l[j] := by
      rw [List.take_add_one, List.getElem?_eq_getElem hj, List.flatMap_append, List.append_assoc]
      simp
    have hfl : (badF bad ++ (l.take j).flatMap (objF (wat ws) l)).length ≤ 100000 := by
      have h1 := hS.fnd l j
      rw [List.length_append]
      omega
    have hne : l ≠ [] := fun h => by subst h; simp at hj
    obtain ⟨bL, oL, rfl, zL, kL⟩ := (R1.get (by simpa using hne))
    have kl : ∀ {w' : World}, Ext [] w1 w' → w'.cell? ⟨bL, oL + j, none⟩ = some (i64 (l[j] : Int)) := fun {w'} F' => by
      obtain ⟨b5, o5, h5, z5, k5⟩ := (R1.ext0 F').at (i := j) (by simpa using hj)
      cases h5
      simpa only [List.getElem_map] using k5
    obtain ⟨v1', v2', v3', v4', v5', v6', v7', v8'⟩ := okW_v hok
    have hO : ObjAt ws b t l[j] := ⟨g1, hok, g3⟩
    generalize badF bad ++ (l.take j).flatMap (objF (wat ws) l) = F0 at *
    generalize l[j] = o at *
    have hot := hO.lt
    obtain ⟨b1, o1, ha1, z1, k1⟩ := row_w (hR1.ext0 N3.1) (i := o) (by omega)
    have kl3 := kl N3.1
    have hun := rUnpack_spec (wat ws o) w3
    rw [v1', v2', v3', v4', v5'] at hun
    have hsz : ∀ w, Gives Try.prog n_loamref14_Size #[hd (pN (wat ws o)) (bN (wat ws o)) false 0] w (i64 (szW (wat ws o) : Int)) := fun w => by
      have := rSizeW_spec hok w
      rw [v1', v2', v4'] at this
      exact this
    have hpl := ptrF_len (wat ws) l o
    unfold loamref17_Space_l3
    simp (disch := (first | omega | decide | (simp only [rsD] <;> omega) | fail)) only [↓rsC, rsK, rsL, ↓rsChk6_1, tick_eq, tickV_eq, ne_eq, Int.reduceAdd, Int.reduceSub, Int.reduceMul, Int.reduceEq, Int.reduceLT, Int.reduceLE, Int.reduceToNat, Nat.reduceMul, Nat.reduceAdd, Nat.reduceSub, ←decide_not, kl3, ha1, k1]
    refine loamref14_Unpack_call (Gives.to hun fun w4 F4 => ?_)
    simp (disch := (first | omega | decide | (simp only [rsD] <;> omega) | fail)) only [↓rsC, rsK, rsL, ↓rsChk6_1, tick_eq, tickV_eq, ne_eq, Int.reduceAdd, Int.reduceSub, Int.reduceMul, Int.reduceEq, Int.reduceLT, Int.reduceLE, Int.reduceToNat, Nat.reduceMul, Nat.reduceAdd, Nat.reduceSub, ←decide_not, kl3, ha1, k1]
    have B : Blk (w4.alloc (.cells #[i64 (pN (wat ws o)), i64 (bN (wat ws o)), .bool false, i64 0] 84)) w4.heap.size 84 [i64 (pN (wat ws o)), i64 (bN (wat ws o)), .bool false, i64 0] := Blk.at rfl
    have X4 : Ext [] w4 (w4.alloc (.cells #[i64 (pN (wat ws o)), i64 (bN (wat ws o)), .bool false, i64 0] 84)) := Ext.alloc _ _ _
    have N4 := N3.ext (F4.trans X4)
    have R4 := (R3.ext0 F4).ext0 X4
    have z3 := N3.2.1.lt
    have z4 := F4.size
    have hb4 : w4.heap.size ∉ blk v3 := fun h => by have := z3 _ h; omega
    generalize hh : w4.heap.size = hd4 at *
    generalize w4.alloc (.cells #[i64 (pN (wat ws o)), i64 (bN (wat ws o)), .bool false, i64 0] 84) = y4 at *
    refine xLoop_r (pN (wat ws o)) (fun i vs w' => ∃ v, vs = [v, i64 (i : Int)] ∧ NewFr w1 w' v (F0 ++ ptrF (wat ws) l o i) ∧ RfIs w' m a c ws b t t ∧ m ∉ blk v ∧ Blk w' hd4 84 [i64 (pN (wat ws o)), i64 (bN (wat ws o)), .bool false, i64 0] ∧ hd4 ∉ blk v) ⟨v3, rfl, by simpa [ptrF] using N4, R4, hv3, B, hb4⟩ ?_ ?_
    · rintro i hi u w5 ⟨v5, hu, N5, R5, hv5, B5, hb5⟩ nxt2 hnx2
      simp only [List.map_cons, List.map_nil, List.cons.injEq, and_true] at hu
      rw [hu.1, hu.2]
      have k5 := fun i => B5.cell (i := i)
      have kl5 := kl N5.1
      obtain ⟨b6, o6, ha6, z6, k6⟩ := row_w (hR1.ext0 N5.1) (i := o + 1 + i) (by omega)
      rw [ha1] at ha6
      cases ha6
      have t1 : ((o : Int) + 1 + (i : Int)).toNat = o + 1 + i := by omega
      have e2 : (o : Int) + 1 + (i : Int) = ((o + 1 + i : Nat) : Int) := by omega
      have hpi := hpl i
      have hs : ptrF (wat ws) l o (i + 1) = ptrF (wat ws) l o i ++ (if PtrOk l (wat ws (o + 1 + i)).toNat then [] else [(o + 1 + i, sPtr)]) := rfl
      unfold loamref17_Space_l4
      simp (disch := (first | omega | decide | (simp only [rsD] <;> omega) | fail)) only [↓rsC, rsK, rsL, ↓rsChk6_1, tick_eq, tickV_eq, ne_eq, Int.reduceAdd, Int.reduceSub, Int.reduceMul, Int.reduceEq, Int.reduceLT, Int.reduceLE, Int.reduceToNat, Nat.reduceMul, Nat.reduceAdd, Nat.reduceSub, ←decide_not, kl3, ha1, k1, k5, kl5, t1, k6]
      refine loamref14_Points_call (Gives.to (rPoints_spec (R1.ext0 N5.1) (by omega) hlb _) fun w6 F6 => ?_)
      have N6 := N5.ext F6
      have R6 := R5.ext0 F6
      have B6 := B5.ext F6 (by simp)
      have kl6 := kl N6.1
      by_cases hp : PtrOk l (wat ws (o + 1 + i)).toNat
      · rw [decide_eq_true hp]
        rw [if_pos hp, List.append_nil] at hs
        unfold loamref17_Space_j4
        simp (disch := (first | omega | decide | (simp only [rsD] <;> omega) | fail)) only [↓rsC, rsK, rsL, ↓rsChk6_1, tick_eq, tickV_eq, ne_eq, Int.reduceAdd, Int.reduceSub, Int.reduceMul, Int.reduceEq, Int.reduceLT, Int.reduceLE, Int.reduceToNat, Nat.reduceMul, Nat.reduceAdd, Nat.reduceSub, ←decide_not, kl3, ha1, k1, k5, kl5, t1, k6]
        exact hnx2 _ _ ⟨v5, rfl, by rw [hs]; exact N6, R6, hv5, B6, hb5⟩
      · rw [decide_eq_false hp]
        rw [if_neg hp] at hs
        have cP : ({ data := #[112, 116, 114] } : ByteArray) = strOf sPtr := by decide +kernel
        simp (disch := (first | omega | decide | (simp only [rsD] <;> omega) | fail)) only [↓rsC, rsK, rsL, ↓rsChk6_1, tick_eq, tickV_eq, ne_eq, Int.reduceAdd, Int.reduceSub, Int.reduceMul, Int.reduceEq, Int.reduceLT, Int.reduceLE, Int.reduceToNat, Nat.reduceMul, Nat.reduceAdd, Nat.reduceSub, ←decide_not, kl3, ha1, k1, k5, kl5, t1, k6, kl6, e2, bdF]
        rw [cP]
        refine appFr N6 (f := (o + 1 + i, sPtr)) rfl (by rw [List.length_append]; omega) fun v7 w7 N7 T7 => ?_
        obtain ⟨R7, hv7⟩ := nextR R6 N6 hv5 T7
        unfold loamref17_Space_j4
        simp (disch := (first | omega | decide | (simp only [rsD] <;> omega) | fail)) only [↓rsC, rsK, rsL, ↓rsChk6_1, tick_eq, tickV_eq, ne_eq, Int.reduceAdd, Int.reduceSub, Int.reduceMul, Int.reduceEq, Int.reduceLT, Int.reduceLE, Int.reduceToNat, Nat.reduceMul, Nat.reduceAdd, Nat.reduceSub, ←decide_not, kl3, ha1, k1, k5, kl5, t1, k6, kl6, e2, bdF]
        refine hnx2 _ _ ⟨v7, rfl, by rw [hs, ← List.append_assoc]; exact N7, R7, hv7, B6.ext T7.ext hb5, fun h => ?_⟩
        rcases T7.at' _ h with h1 | h1
        · exact hb5 h1
        · have := B6.lt; omega
    · rintro u w5 ⟨v5, hu, N5, R5, hv5, B5, hb5⟩ nxt2
      simp only [List.map_cons, List.map_nil, List.cons.injEq, and_true] at hu
      rw [hu.1, hu.2]
      have k5 := fun i => B5.cell (i := i)
      have kl5 := kl (N5.1.trans (Ext.drew [] w5))
      have k5d := fun i => (B5.ext (Ext.drew [] w5) (by simp)).cell (i := i)
      have hpi := hpl (pN (wat ws o))
      have hobj : objF (wat ws) l o = ptrF (wat ws) l o (pN (wat ws o)) ++ padF (wat ws) o := rfl
      unfold loamref17_Space_l4
      simp (disch := (first | omega | decide | (simp only [rsD] <;> omega) | fail)) only [↓rsC, rsK, rsL, ↓rsChk6_1, tick_eq, tickV_eq, ne_eq, Int.reduceAdd, Int.reduceSub, Int.reduceMul, Int.reduceEq, Int.reduceLT, Int.reduceLE, Int.reduceToNat, Nat.reduceMul, Nat.reduceAdd, Nat.reduceSub, ←decide_not, kl3, ha1, k1, k5, kl5, k5d]
      refine loamref14_Space_Pad_call (Yld.mono (rPad_spec (R5.ext0 (Ext.drew [] w5)) hO) ?_)
      rintro u w6 ⟨⟨kk, rfl, hk⟩, F6d⟩
      have F6 := (Ext.drew [] _).trans F6d
      have N6 := N5.ext F6
      have R6 := R5.ext0 F6
      have B6 := B5.ext F6 (by simp)
      cases kk with
      | false =>
        have hpd : padF (wat ws) o = [] := by
          unfold padF
          rw [if_neg]
          intro h1
          have := hk.2 ((pad_iff hok).1 h1)
          cases this
        rw [hpd, List.append_nil] at hobj
        unfold loamref17_Space_j5
        simp (disch := (first | omega | decide | (simp only [rsD] <;> omega) | fail)) only [↓rsC, rsK, rsL, ↓rsChk6_1, tick_eq, tickV_eq, ne_eq, Int.reduceAdd, Int.reduceSub, Int.reduceMul, Int.reduceEq, Int.reduceLT, Int.reduceLE, Int.reduceToNat, Nat.reduceMul, Nat.reduceAdd, Nat.reduceSub, ←decide_not, kl3, ha1, k1, k5, kl5, k5d]
        exact hnx _ _ ⟨v5, rfl, by rw [hsucc, hobj]; exact N6, R6, hv5⟩
      | true =>
        have hpd : padF (wat ws) o = [(o + szW (wat ws o) - 1, sPad)] := by
          unfold padF
          rw [if_pos ((pad_iff hok).2 (hk.1 rfl))]
        rw [hpd] at hobj
        have kl6 := kl (N6.1.trans (Ext.drew [] w6))
        have k6d := fun i => (B6.ext (Ext.drew [] w6) (by simp)).cell (i := i)
        have e2 : (o : Int) + (szW (wat ws o) : Int) - 1 = ((o + szW (wat ws o) - 1 : Nat) : Int) := by have := szW_pos (x := wat ws o); omega
        have cP : ({ data := #[112, 97, 100] } : ByteArray) = strOf sPad := by decide +kernel
        simp (disch := (first | omega | decide | (simp only [rsD] <;> omega) | fail)) only [↓rsC, rsK, rsL, ↓rsChk6_1, tick_eq, tickV_eq, ne_eq, Int.reduceAdd, Int.reduceSub, Int.reduceMul, Int.reduceEq, Int.reduceLT, Int.reduceLE, Int.reduceToNat, Nat.reduceMul, Nat.reduceAdd, Nat.reduceSub, ←decide_not, kl3, ha1, k1, k5, kl5, k5d, kl6, k6d]
        refine loamref14_Size_call (Gives.to (hsz _) fun w7 F7d => ?_)
        have F7 := (Ext.drew [] _).trans F7d
        have N7 := N6.ext F7
        have R7 := R6.ext0 F7
        have kl7 := kl N7.1
        simp (disch := (first | omega | decide | (simp only [rsD] <;> omega) | fail)) only [↓rsC, rsK, rsL, ↓rsChk6_1, tick_eq, tickV_eq, ne_eq, Int.reduceAdd, Int.reduceSub, Int.reduceMul, Int.reduceEq, Int.reduceLT, Int.reduceLE, Int.reduceToNat, Nat.reduceMul, Nat.reduceAdd, Nat.reduceSub, ←decide_not, kl3, ha1, k1, k5, kl5, k5d, kl6, k6d, kl7, e2, bdF]
        rw [cP]
        refine appFr N7 (f := (o + szW (wat ws o) - 1, sPad)) rfl (by rw [List.length_append]; omega) fun v8 w8 N8 T8 => ?_
        obtain ⟨R8, hv8⟩ := nextR R7 N7 hv5 T8
        unfold loamref17_Space_j5
        simp (disch := (first | omega | decide | (simp only [rsD] <;> omega) | fail)) only [↓rsC, rsK, rsL, ↓rsChk6_1, tick_eq, tickV_eq, ne_eq, Int.reduceAdd, Int.reduceSub, Int.reduceMul, Int.reduceEq, Int.reduceLT, Int.reduceLE, Int.reduceToNat, Nat.reduceMul, Nat.reduceAdd, Nat.reduceSub, ←decide_not, kl3, ha1, k1, k5, kl5, k5d, kl6, k6d, kl7, e2, bdF]
        exact hnx _ _ ⟨v8, rfl, by rw [hsucc, hobj, ← List.append_assoc]; exact N8, R8, hv8⟩
  have cH : ({ data := #[104, 101, 97, 100] } : ByteArray) = strOf sHead := by decide +kernel
  cases bad with
  | none =>
    have eb : badI none = -1 := rfl
    rw [eb]
    simp (disch := (first | omega | decide | (simp only [rsD] <;> omega) | fail)) only [↓rsC, rsK, rsL, ↓rsChk6_1, tick_eq, tickV_eq, ne_eq, Int.reduceAdd, Int.reduceSub, Int.reduceMul, Int.reduceEq, Int.reduceLT, Int.reduceLE, Int.reduceToNat, Nat.reduceMul, Nat.reduceAdd, Nat.reduceSub, ←decide_not, eq_self]
    exact j3 _ _ (NewR.nil (Ext.refl _ _))
  | some o =>
    have eb : badI (some o) = (o : Int) := rfl
    rw [eb]
    simp (disch := (first | omega | decide | (simp only [rsD] <;> omega) | fail)) only [↓rsC, rsK, rsL, ↓rsChk6_1, tick_eq, tickV_eq, ne_eq, Int.reduceAdd, Int.reduceSub, Int.reduceMul, Int.reduceEq, Int.reduceLT, Int.reduceLE, Int.reduceToNat, Nat.reduceMul, Nat.reduceAdd, Nat.reduceSub, ←decide_not, bdF]
    rw [cH]
    refine appFr (w0 := w1) (F := []) (NewR.nil (Ext.refl _ _)) (f := (o, sHead)) rfl (by simp) fun v' w3 N3 F3 => ?_
    exact j3 v' w3 N3
end Go.Proofs.Ytdpmidgeipibbaa
end
section
set_option linter.unusedVariables false
set_option linter.unusedSimpArgs false
set_option maxHeartbeats 4000000
namespace Go.Proofs.Ytdpmidgeipibbaa
open Go.Sh Go.RowKit

def nameS (q : List (BitVec 64)) (at' : Nat) : List (BitVec 8) := cutN (bytesW q (8 * at') 32)
def nameB (q : List (BitVec 64)) (at' : Nat) : Prop := nmOk (nameS q at') ∧ fixN (nameS q at') = bytesW q (8 * at') 32
instance (q : List (BitVec 64)) (at' : Nat) : Decidable (nameB q at') := by unfold nameB; infer_instance
theorem set_fill {α : Type} (L : List α) (z : α) (n j : Nat) (h : L.length = n) (hj : j < n) : (L.take j ++ List.replicate (n - j) z).set j (L[j]'(by omega)) = L.take (j + 1) ++ List.replicate (n - (j + 1)) z := by
  rw [List.set_append_right _ _ (by simp; omega), List.length_take, show j - min j L.length = 0 by omega, show n - j = (n - (j + 1)) + 1 by omega, List.replicate_succ, List.set_cons_zero, List.take_add_one, List.getElem?_eq_getElem (by omega)]
  simp only [Option.toList_some, List.append_assoc, List.singleton_append]
abbrev rsNm2_0 := (And.intro @xu8_add (And.intro @xu8_mul (And.intro @xu8_rem (And.intro @xu8_quo (And.intro @xu8_shr (And.intro @xu8_eql (And.intro @xu8_lss (And.intro @xu16_add (And.intro @xu16_mul (And.intro @xu16_rem (And.intro @xu16_quo (And.intro @xu16_shr (And.intro @xu16_eql (And.intro @xu16_lss (And.intro @xu32_add (And.intro @xu32_mul 
  (And.intro @xu32_rem (And.intro @xu32_quo (And.intro @xu32_shr (And.intro @xu32_eql (And.intro @xu32_lss (And.intro @xu64_add (And.intro @xu64_mul (And.intro @xu64_rem (And.intro @xu64_quo (And.intro @xu64_shr (And.intro @xu64_eql (And.intro @xu64_lss (And.intro @xi64_lss (And.intro @xi64_eql (And.intro @xi64_shr (And.intro @ld_69 (And.intro @al_157 
  (And.intro @st_5 (And.intro @cv_69_5 (And.intro @ia_28 @ia_157))))))))))))))))))))))))))))))))))))
theorem name_spec (q : List (BitVec 64)) (a : Option Addr) (c : Nat) (w : World) (h : RowAt w a (wrds q)) (hq : q.length = 4) (hn : q.length ≤ c) : Gives Try.prog n_check_name #[.slice a 4 c] w (.tuple #[.string (strOf (nameS q 0)), .bool (decide (nameB q 0))]) := by
  refine check_name_of ?_
  unfold check_name
  have al : ∀ (y : World) (K : K1), xAlloc Try.prog 157 y K = K (ptr y.heap.size) (y.alloc (.cells (bys (List.replicate 32 z8)).toArray 157)) := fun y K => xAlloc_r (by kernel_rfl)
  have lst : ∀ l' : List (BitVec 8), l'.length = 32 → (((Try.prog).info? 157).map (·.size) = some (bys l').length) := fun l' h => by
    rw [List.length_map, h]; kernel_rfl
  have lag : ∀ l' : List (BitVec 8), l'.length = 32 → (aggN Try.prog 157 = some (bys l').length) := fun l' h => by
    rw [List.length_map, h]; kernel_rfl
  have one : ∀ l' : List (BitVec 8), ∀ v ∈ bys l', v.oneCell' = true := fun l' v hv => by
    obtain ⟨c, _, rfl⟩ := List.mem_map.1 hv; rfl
  rw [al]
  have B1 : Blk (w.alloc (.cells (bys (List.replicate 32 z8)).toArray 157)) w.heap.size 157 (bys (List.replicate 32 z8)) := Blk.at rfl
  have X1 : Ext [] w (w.alloc (.cells (bys (List.replicate 32 z8)).toArray 157)) := Ext.alloc _ _ _
  have h1 := h.ext0 X1
  obtain ⟨b5, o5, rfl, hb5, _⟩ := h.get (by intro e; have := congrArg List.length e; simp only [List.length_map, List.length_nil] at this; omega)
  have hbl : (bytesW q (8 * 0) 32).length = 32 := bytesW_length ..
  generalize w.alloc (.cells (bys (List.replicate 32 z8)).toArray 157) = y1 at *
  generalize hg : w.heap.size = g at *
  refine xLoop_n 32 (fun j => [i64 (j : Int)]) (fun j w' => Ext [g] y1 w' ∧ Blk w' g 157 (bys ((bytesW q (8 * 0) 32).take j ++ List.replicate (32 - j) z8))) rfl ⟨Ext.refl _ _, by simpa using B1⟩ ?_ ?_
  · rintro j hj u w2 hu ⟨F2, B2⟩ nxt hnx
    simp only [List.map_cons, List.map_nil, List.cons.injEq, and_true] at hu
    rw [hu]
    have R2 := h1.ext F2 (fun b o hb => by
      simp only [Option.some.injEq, Addr.mk.injEq] at hb
      simp only [List.mem_singleton]
      omega)
    obtain ⟨b6, o6, h6, z6, k6⟩ := row_w R2 (i := j / 8) (by omega)
    simp only [Option.some.injEq, Addr.mk.injEq, and_true] at h6
    obtain ⟨rfl, rfl⟩ := h6
    have kb := fun i => B2.cell (i := i)
    have kf := fun i => B2.frozen (i := i)
    have kj : (bys ((bytesW q (8 * 0) 32).take j ++ List.replicate (32 - j) z8))[j]? = some (c8 0) := by
      rw [List.getElem?_map, List.getElem?_append_right (by simp; omega), List.length_take, List.getElem?_replicate, if_pos (by omega)]
      rfl
    have t1 : ((j : Int) / 8).toNat = j / 8 := by omega
    have t2 : (8 * ((j : Int) % 8)).toNat = 8 * (j % 8) := by omega
    have eb : (wat q (j / 8) >>> (8 * (j % 8))).setWidth 8 = byteW q j := rfl
    unfold check_name_l1
    simp (disch := (first | omega | decide | (simp only [rsD] <;> omega) | fail)) only [↓rsC, rsK, rsL, ↓rsNm2_0, tick_eq, tickV_eq, ne_eq, Int.reduceAdd, Int.reduceSub, Int.reduceMul, Int.reduceEq, Int.reduceLT, Int.reduceLE, Int.reduceToNat, Nat.reduceMul, Nat.reduceAdd, Nat.reduceSub, ←decide_not, t1, t2, k6, kb, kf, kj, eb]
    have e8 : byteW q j = (bytesW q (8 * 0) 32)[j]'(by omega) := by unfold bytesW; simp
    have B3 := B2.set (i := j) (v := u8 (byteW q j))
    have e9 : (bys ((bytesW q (8 * 0) 32).take j ++ List.replicate (32 - j) z8)).set j (u8 (byteW q j)) = bys ((bytesW q (8 * 0) 32).take (j + 1) ++ List.replicate (32 - (j + 1)) z8) := by
      rw [← set_fill _ z8 32 j hbl hj, ← e8]
      exact List.map_set.symm
    rw [e9] at B3
    exact hnx _ ⟨F2.set' (.inl (by simp)), B3⟩
  · rintro u w2 hu ⟨F2, B2⟩ nxt
    simp only [List.map_cons, List.map_nil, List.cons.injEq, and_true] at hu
    rw [hu]
    rw [List.take_of_length_le (by omega), Nat.sub_self, List.replicate_zero, List.append_nil] at B2
    have X2 : Ext [] w w2 := X1.new F2 (fun y hy => by simp only [List.mem_singleton] at hy; omega)
    have hns : nameS q 0 = cutN (bytesW q (8 * 0) 32) := rfl
    have hnb : nameB q 0 ↔ nmOk (nameS q 0) ∧ fixN (nameS q 0) = bytesW q (8 * 0) 32 := Iff.rfl
    generalize bytesW q (8 * 0) 32 = L at *
    have hld := fun (K : K1) => xLoad_arr (P := Try.prog) (K := K) (lag _ hbl) B2
    unfold check_name_l1
    simp (disch := (first | omega | decide | (simp only [rsD] <;> omega) | fail)) only [↓rsC, rsK, rsL, ↓rsNm2_0, tick_eq, tickV_eq, ne_eq, Int.reduceAdd, Int.reduceSub, Int.reduceMul, Int.reduceEq, Int.reduceLT, Int.reduceLE, Int.reduceToNat, Nat.reduceMul, Nat.reduceAdd, Nat.reduceSub, ←decide_not, hld]
    refine table_Name_String_call (Gives.to (String_spec L hbl w2) fun w3 F3 => ?_)
    rw [← hns]
    refine table_Fix_call (Gives.to (Fix_spec (nameS q 0) w3) fun w4 F4 => ?_)
    simp (disch := (first | omega | decide | (simp only [rsD] <;> omega) | fail)) only [↓rsC, rsK, rsL, ↓rsNm2_0, tick_eq, tickV_eq, ne_eq, Int.reduceAdd, Int.reduceSub, Int.reduceMul, Int.reduceEq, Int.reduceLT, Int.reduceLE, Int.reduceToNat, Nat.reduceMul, Nat.reduceAdd, Nat.reduceSub, ←decide_not, hld]
    rw [z32]
    have B4 : Blk (w4.alloc (.cells (bys (List.replicate 32 z8)).toArray 157)) w4.heap.size 157 (bys (List.replicate 32 z8)) := Blk.at rfl
    have X4 : Ext [] w4 (w4.alloc (.cells (bys (List.replicate 32 z8)).toArray 157)) := Ext.alloc _ _ _
    have BB := (B2.ext (F3.trans F4) (by simp)).ext X4 (by simp)
    have zg := (B2.ext (F3.trans F4) (by simp)).lt
    generalize w4.alloc (.cells (bys (List.replicate 32 z8)).toArray 157) = w5 at *
    generalize hg6 : w4.heap.size = g6 at *
    have hst := fun (K : K1) => xStore_arr (P := Try.prog) (K := K) (lst _ (fixN_len (nameS q 0))) B4 (by simp [fixN_len]) (one _)
    have B6 := B4.put (cs := bys (fixN (nameS q 0))) (by simp [fixN_len])
    have X6 : Ext [] w (w5.setCells g6 0 (bys (fixN (nameS q 0)))) := ((X2.trans (F3.trans F4)).trans X4).sets (.inr (by have := (X2.trans (F3.trans F4)).size; omega))
    have BB6 := BB.ext (Ext.sets (g := g6) (o := 0) (l := bys (fixN (nameS q 0))) (Ext.refl [g6] w5) (.inl (by simp))) (by simp only [List.mem_singleton]; omega)
    have BB7 := BB6.ext (Ext.drew [] _) (by simp)
    have hld7 := fun (K : K1) => xLoad_arr (P := Try.prog) (K := K) (lag _ hbl) BB7
    simp (disch := (first | omega | decide | (simp only [rsD] <;> omega) | fail)) only [↓rsC, rsK, rsL, ↓rsNm2_0, tick_eq, tickV_eq, ne_eq, Int.reduceAdd, Int.reduceSub, Int.reduceMul, Int.reduceEq, Int.reduceLT, Int.reduceLE, Int.reduceToNat, Nat.reduceMul, Nat.reduceAdd, Nat.reduceSub, ←decide_not, hld, hst, hld7]
    refine table_Name_String_call (Gives.to (String_spec L hbl _) fun w7 F7d => ?_)
    rw [← hns]
    have F7 := (Ext.drew [] _).trans F7d
    have BB8 := BB6.ext F7 (by simp)
    have B8 := B6.ext F7 (by simp)
    have hld8 := fun (K : K1) => xLoad_arr (P := Try.prog) (K := K) (lag _ hbl) BB8
    have hld9 := fun (K : K1) => xLoad_arr (P := Try.prog) (K := K) (lag _ (fixN_len (nameS q 0))) B8
    have heq := fun (w : World) (K : K1) => xBin_eqA (P := Try.prog) (t := 157) (e := 5) (n := 32) (w := w) (K := K) (cx := false) (cy := false) (by kernel_rfl) (by kernel_rfl) (by kernel_rfl) (by kernel_rfl) (by kernel_rfl) (fixN_len (nameS q 0)) hbl
    by_cases hok : nmOk (nameS q 0)
    · have e2 : decide (fixN (nameS q 0) = L) = decide (nameB q 0) := by
        rw [decide_eq_decide, hnb]
        exact ⟨fun h => ⟨hok, h⟩, fun h => h.2⟩
      rw [e2] at heq
      rw [if_pos hok]
      simp (disch := (first | omega | decide | (simp only [rsD] <;> omega) | fail)) only [↓rsC, rsK, rsL, ↓rsNm2_0, tick_eq, tickV_eq, ne_eq, Int.reduceAdd, Int.reduceSub, Int.reduceMul, Int.reduceEq, Int.reduceLT, Int.reduceLE, Int.reduceToNat, Nat.reduceMul, Nat.reduceAdd, Nat.reduceSub, ←decide_not, hld, hst, hld7, hld8, hld9, heq]
      exact ⟨by trivial, X6.trans F7⟩
    · have e2 : decide (nameB q 0) = false := decide_eq_false (fun h => hok (hnb.1 h).1)
      rw [if_neg hok, e2]
      simp (disch := (first | omega | decide | (simp only [rsD] <;> omega) | fail)) only [↓rsC, rsK, rsL, ↓rsNm2_0, tick_eq, tickV_eq, ne_eq, Int.reduceAdd, Int.reduceSub, Int.reduceMul, Int.reduceEq, Int.reduceLT, Int.reduceLE, Int.reduceToNat, Nat.reduceMul, Nat.reduceAdd, Nat.reduceSub, ←decide_not, hld, hst, hld7, hld8, hld9, heq]
      exact ⟨by trivial, X6.trans F7⟩
end Go.Proofs.Ytdpmidgeipibbaa
end
section
set_option linter.unusedVariables false
set_option linter.unusedSimpArgs false
set_option maxHeartbeats 4000000
namespace Go.Proofs.Ytdpmidgeipibbaa
open Go.Sh Go.RowKit

end Go.Proofs.Ytdpmidgeipibbaa
end
section
set_option linter.unusedVariables false
set_option linter.unusedSimpArgs false
set_option maxHeartbeats 4000000
namespace Go.Proofs.Ytdpmidgeipibbaa
open Go.Sh Go.RowKit Go.ChangeShapes Go.WideShapes Go.ChangeAt

end Go.Proofs.Ytdpmidgeipibbaa
end
section
set_option linter.unusedVariables false
set_option linter.unusedSimpArgs false
set_option maxHeartbeats 4000000
namespace Go.Proofs.Ytdpmidgeipibbaa
open Go.Sh Go.RowKit Go.ChangeShapes Go.WideShapes Go.ChangeAt

def imgF (l : List (BitVec 64)) (os : List Nat) (bad : Option Nat) : List Fnd := magF l ++ if sizeOk l then allF (wat l) os bad else [(1, sSize)]
abbrev rsChk7_0 := (And.intro @xu8_eql (And.intro @xu16_eql (And.intro @xu32_eql (And.intro @xu64_eql (And.intro @xi64_eql @ln_37)))))
theorem CRight_n0 (l : List (BitVec 64)) (a : Option Addr) (c : Nat) (w : World) (h : RowAt w a (wrds l)) (hc : l.length ≤ c) (hl : l.length ≤ 8192) (hn : sizeOk l → nR l = 0) :
    Yld Try.prog n_check_Right #[.slice a l.length c] w fun u w' => ∃ os bad, (sizeOk l → Sc (wat l) l.length 2 os bad) ∧ u = .bool (decide ((imgF l os bad).length = 0)) ∧ Ext [] w w' := by
  refine check_Right_of ?_
  unfold check_Right
  refine check_Image_call (Yld.mono (Image_n0 l a c w h hc hl hn) ?_)
  rintro u w1 ⟨os, bad, hS, F1, a2, c2, rfl, _, _, R1⟩
  have hf : magF l ++ (if sizeOk l then allF (wat l) os bad else [(1, sSize)]) = imgF l os bad := rfl
  rw [hf]
  have e : decide (((imgF l os bad).length : Int) = 0) = decide ((imgF l os bad).length = 0) := by
    rw [decide_eq_decide]
    omega
  simp (disch := (first | omega | decide | (simp only [rsD] <;> omega) | fail)) only [↓rsC, rsK, rsL, ↓rsChk7_0, tick_eq, tickV_eq, ne_eq, Int.reduceAdd, Int.reduceSub, Int.reduceMul, Int.reduceEq, Int.reduceLT, Int.reduceLE, Int.reduceToNat, Nat.reduceMul, Nat.reduceAdd, Nat.reduceSub, ←decide_not, e]
  exact ⟨os, bad, hS, by trivial, F1⟩
def LA : List (BitVec 64) := [BitVec.ofNat 64 1296125772, BitVec.ofNat 64 196608, BitVec.ofNat 64 9223372036854775808]
def LB : List (BitVec 64) := [BitVec.ofNat 64 1296125772, BitVec.ofNat 64 196608, BitVec.ofNat 64 5]
theorem imgA (os : List Nat) (bad : Option Nat) (h : sizeOk LA → Sc (wat LA) LA.length 2 os bad) : imgF LA os bad = [] := by
  have hs : sizeOk LA := by decide +kernel
  have e : 2 + szW (wat LA 2) = LA.length := by decide +kernel
  obtain ⟨rfl, rfl⟩ := (h hs).uniq (.step (by decide +kernel) (by decide +kernel) (by rw [e]; exact .done))
  decide +kernel
theorem imgB (os : List Nat) (bad : Option Nat) (h : sizeOk LB → Sc (wat LB) LB.length 2 os bad) : imgF LB os bad = [(2, sHead)] := by
  have hs : sizeOk LB := by decide +kernel
  obtain ⟨rfl, rfl⟩ := (h hs).uniq (.bad (by decide +kernel) (by decide +kernel))
  decide +kernel
theorem imgN (os : List Nat) (bad : Option Nat) : imgF [] os bad = [(0, sMagic), (1, sSize)] := by
  unfold imgF
  rw [if_neg (by decide +kernel)]
  decide +kernel
theorem rowW (w : World) (l : List (BitVec 64)) : RowAt (w.alloc (.cells (wrds l).toArray 69)) (some ⟨w.heap.size, 0, none⟩) (wrds l) := (Blk.new (e := 69) w (wrds l)).row
abbrev rsChk7_1 := (And.intro @xu8_com (And.intro @xu8_eql (And.intro @xu16_com (And.intro @xu16_eql (And.intro @xu32_com (And.intro @xu32_eql (And.intro @xu64_com (And.intro @xu64_eql (And.intro @xi64_eql (And.intro @ld_3 (And.intro @ld_9 (And.intro @fa_40_0 (And.intro @fa_40_1 (And.intro @ia_37 (And.intro @ln_37 (And.intro @bs_28_0 (And.intro @bs_28_1 
  (And.intro @bs_28_2 @bs_28_3))))))))))))))))))
theorem known26_spec (w : World) : Gives Try.prog n_loamlaw26_known #[] w (.bool true) := by
  refine loamlaw26_known_of ?_
  unfold loamlaw26_known
  simp (disch := (first | omega | decide | (simp only [rsD] <;> omega) | fail)) only [↓rsC, rsK, rsL, ↓rsChk7_1, tick_eq, tickV_eq, ne_eq, Int.reduceAdd, Int.reduceSub, Int.reduceMul, Int.reduceEq, Int.reduceLT, Int.reduceLE, Int.reduceToNat, Nat.reduceMul, Nat.reduceAdd, Nat.reduceSub, ←decide_not, eq_self]
  have RA : RowAt (w.alloc (.cells #[c64 1296125772, c64 196608, c64 9223372036854775808] 69)) (some ⟨w.heap.size, 0, none⟩) (wrds LA) := rowW w LA
  have XA : Ext [] w (w.alloc (.cells #[c64 1296125772, c64 196608, c64 9223372036854775808] 69)) := Ext.alloc _ _ _
  have RB := rowW (w.alloc (.cells #[c64 1296125772, c64 196608, c64 9223372036854775808] 69)) LB
  rw [World.size_alloc] at RB
  have RB' : RowAt ((w.alloc (.cells #[c64 1296125772, c64 196608, c64 9223372036854775808] 69)).alloc (.cells #[c64 1296125772, c64 196608, c64 5] 69)) (some ⟨w.heap.size + 1, 0, none⟩) (wrds LB) := RB
  have XB : Ext [] (w.alloc (.cells #[c64 1296125772, c64 196608, c64 9223372036854775808] 69)) ((w.alloc (.cells #[c64 1296125772, c64 196608, c64 9223372036854775808] 69)).alloc (.cells #[c64 1296125772, c64 196608, c64 5] 69)) := Ext.alloc _ _ _
  have RA2 := RA.ext0 XB
  have X2 := XA.trans XB
  generalize (w.alloc (.cells #[c64 1296125772, c64 196608, c64 9223372036854775808] 69)).alloc (.cells #[c64 1296125772, c64 196608, c64 5] 69) = y at *
  generalize w.heap.size + 1 = B at *
  generalize w.heap.size = A at *
  have cH : strOf sHead = { data := #[104, 101, 97, 100] } := by decide +kernel
  have cM : strOf sMagic = { data := #[109, 97, 103, 105, 99] } := by decide +kernel
  have cS : strOf sSize = { data := #[115, 105, 122, 101] } := by decide +kernel
  refine check_Image_call (Yld.mono (Image_n0 LB (some ⟨B, 0, none⟩) 3 y RB' (by decide) (by decide) (fun _ => by decide +kernel)) ?_)
  rintro u w3 ⟨os, bad, hS, F3, a5, c5, rfl, hc5, hn5, R5⟩
  have e5 : (magF LB ++ if sizeOk LB then allF (wat LB) os bad else [(1, sSize)]) = [(2, sHead)] := imgB os bad hS
  rw [e5] at R5 hc5 ⊢
  simp (disch := (first | omega | decide | (simp only [rsD] <;> omega) | fail)) only [↓rsC, rsK, rsL, ↓rsChk7_1, tick_eq, tickV_eq, ne_eq, Int.reduceAdd, Int.reduceSub, Int.reduceMul, Int.reduceEq, Int.reduceLT, Int.reduceLE, Int.reduceToNat, Nat.reduceMul, Nat.reduceAdd, Nat.reduceSub, ←decide_not, eq_self]
  refine check_Image_call (Yld.mono (Image_n0 [] none 0 w3 RowAt.nil (by decide) (by decide) (fun h => absurd h (by decide +kernel))) ?_)
  rintro u w4 ⟨os2, bad2, _, F4, a7, c7, rfl, hc7, hn7, R7⟩
  have e7 : (magF [] ++ if sizeOk [] then allF (wat []) os2 bad2 else [(1, sSize)]) = [(0, sMagic), (1, sSize)] := imgN os2 bad2
  rw [e7] at R7 hc7 ⊢
  simp (disch := (first | omega | decide | (simp only [rsD] <;> omega) | fail)) only [↓rsC, rsK, rsL, ↓rsChk7_1, tick_eq, tickV_eq, ne_eq, Int.reduceAdd, Int.reduceSub, Int.reduceMul, Int.reduceEq, Int.reduceLT, Int.reduceLE, Int.reduceToNat, Nat.reduceMul, Nat.reduceAdd, Nat.reduceSub, ←decide_not, eq_self]
  refine check_Right_call (Yld.mono (CRight_n0 LA (some ⟨A, 0, none⟩) 3 w4 ((RA2.ext0 F3).ext0 F4) (by decide) (by decide) (fun _ => by decide +kernel)) ?_)
  rintro u w5 ⟨os3, bad3, hS3, rfl, F5⟩
  have e8 : decide ((imgF LA os3 bad3).length = 0) = true := by rw [imgA os3 bad3 hS3]; rfl
  rw [e8]
  simp (disch := (first | omega | decide | (simp only [rsD] <;> omega) | fail)) only [↓rsC, rsK, rsL, ↓rsChk7_1, tick_eq, tickV_eq, ne_eq, Int.reduceAdd, Int.reduceSub, Int.reduceMul, Int.reduceEq, Int.reduceLT, Int.reduceLE, Int.reduceToNat, Nat.reduceMul, Nat.reduceAdd, Nat.reduceSub, ←decide_not, eq_self]
  refine check_Image_call (Yld.mono (Image_n0 LA (some ⟨A, 0, none⟩) 3 w5 (((RA2.ext0 F3).ext0 F4).ext0 F5) (by decide) (by decide) (fun _ => by decide +kernel)) ?_)
  rintro u w6 ⟨os4, bad4, hS4, F6, a9, c9, rfl, hc9, hn9, R9⟩
  have e9 : (magF LA ++ if sizeOk LA then allF (wat LA) os4 bad4 else [(1, sSize)]) = [] := imgA os4 bad4 hS4
  rw [e9]
  obtain ⟨b1, o1, rfl, z1, k1, k2⟩ := fnd_at (R5.ext0 (F4.trans (F5.trans F6))) (k := 0) (by simp)
  obtain ⟨b2, o2, rfl, z2, _, k3⟩ := fnd_at (R7.ext0 (F5.trans F6)) (k := 0) (by simp)
  obtain ⟨b3, o3, hb3, z3, _, k4⟩ := fnd_at (R7.ext0 (F5.trans F6)) (k := 1) (by simp)
  simp only [Option.some.injEq, Addr.mk.injEq, and_true] at hb3
  obtain ⟨rfl, rfl⟩ := hb3
  have k1' : w6.cell? ⟨b1, o1, none⟩ = some (i64 2) := k1
  have k2' : w6.cell? ⟨b1, o1 + 1, none⟩ = some (.string (strOf sHead)) := k2
  have k3' : w6.cell? ⟨b2, o2 + 1, none⟩ = some (.string (strOf sMagic)) := k3
  have k4' : w6.cell? ⟨b2, o2 + 2 + 1, none⟩ = some (.string (strOf sSize)) := k4
  rw [cH] at k2'
  rw [cM] at k3'
  rw [cS] at k4'
  simp (disch := (first | omega | decide | (simp only [rsD] <;> omega) | fail)) only [↓rsC, rsK, rsL, ↓rsChk7_1, tick_eq, tickV_eq, ne_eq, Int.reduceAdd, Int.reduceSub, Int.reduceMul, Int.reduceEq, Int.reduceLT, Int.reduceLE, Int.reduceToNat, Nat.reduceMul, Nat.reduceAdd, Nat.reduceSub, ←decide_not, k1', k2', k3', k4']
  refine check_Right_call (Yld.mono (CRight_n0 [] none 0 w6 RowAt.nil (by decide) (by decide) (fun h => absurd h (by decide +kernel))) ?_)
  rintro u w7 ⟨os5, bad5, _, rfl, F7⟩
  have e10 : decide ((imgF [] os5 bad5).length = 0) = false := by rw [imgN]; rfl
  rw [e10]
  simp (disch := (first | omega | decide | (simp only [rsD] <;> omega) | fail)) only [↓rsC, rsK, rsL, ↓rsChk7_1, tick_eq, tickV_eq, ne_eq, Int.reduceAdd, Int.reduceSub, Int.reduceMul, Int.reduceEq, Int.reduceLT, Int.reduceLE, Int.reduceToNat, Nat.reduceMul, Nat.reduceAdd, Nat.reduceSub, ←decide_not, k1', k2', k3', k4']
  exact ⟨by trivial, X2.trans (F3.trans (F4.trans (F5.trans (F6.trans F7))))⟩
end Go.Proofs.Ytdpmidgeipibbaa
end
section
set_option linter.unusedVariables false
set_option linter.unusedSimpArgs false
set_option maxHeartbeats 4000000
namespace Go.Proofs.Ytdpmidgeipibbaa
open Go.Sh Go.RowKit

def sName : List (BitVec 8) := [110#8, 97#8, 109#8, 101#8]
def sRoot : List (BitVec 8) := [114#8, 111#8, 111#8, 116#8]
def leN (s last : List (BitVec 8)) : Bool := Op.bytesLess (strOf s).toList (strOf last).toList || (strOf s).toList == (strOf last).toList
def lastAt (l : List (BitVec 64)) : Nat → List (BitVec 8)
  | 0 => []
  | i + 1 => if nameB l (2 + 5 * i) then nameS l (2 + 5 * i) else lastAt l i
def nmF (l : List (BitVec 64)) (i : Nat) : List Fnd := if ¬ nameB l (2 + 5 * i) ∨ leN (nameS l (2 + 5 * i)) (lastAt l i) = true then [(2 + 5 * i, sName)] else []
def rtF (l : List (BitVec 64)) (os : List Nat) (i : Nat) : List Fnd := if PtrOk os (wat l (2 + 5 * i + 4)).toNat then [] else [(2 + 5 * i + 4, sRoot)]
def rootsF (l : List (BitVec 64)) (os : List Nat) : Nat → List Fnd
  | 0 => []
  | i + 1 => rootsF l os i ++ (nmF l i ++ rtF l os i)
theorem rootsF_len (l : List (BitVec 64)) (os : List Nat) : ∀ i, (rootsF l os i).length ≤ 2 * i
  | 0 => by simp [rootsF]
  | i + 1 => by
    have ih := rootsF_len l os i
    have h1 : (nmF l i).length ≤ 1 := by unfold nmF; split <;> simp
    have h2 : (rtF l os i).length ≤ 1 := by unfold rtF; split <;> simp
    rw [rootsF, List.length_append, List.length_append]
    omega
def imgG (l : List (BitVec 64)) (os : List Nat) (bad : Option Nat) : List Fnd := magF l ++ if sizeOk l then allF (wat l) os bad ++ rootsF l os (nR l) else [(1, sSize)]
theorem nm_sub (l : List (BitVec 64)) (at' : Nat) : bytesW ((l.drop at').take 4) (8 * 0) 32 = bytesW l (8 * at') 32 := by
  unfold bytesW
  refine List.map_congr_left fun i hi => ?_
  have hi := List.mem_range.1 hi
  unfold byteW
  simp only [List.getD_eq_getElem?_getD]
  rw [List.getElem?_take, if_pos (by omega), List.getElem?_drop, show at' + (8 * 0 + i) / 8 = (8 * at' + i) / 8 by omega, show (8 * 0 + i) % 8 = (8 * at' + i) % 8 by omega]
theorem leS {cx cy : Bool} (a b : ByteArray) (w : World) (K : K1) : xBin Try.prog .leq 9 cx (.string a) cy (.string b) w K = K (.bool (Op.bytesLess a.toList b.toList || a.toList == b.toList)) w := xBin_ok (by simp [eqGuard, binOp, Op.stringOp])
theorem name_at (l : List (BitVec 64)) (at' : Nat) (a : Option Addr) (c : Nat) (w : World) (h : RowAt w a (wrds l)) (hc : l.length ≤ c) (h4 : at' + 4 ≤ l.length) :
    Gives Try.prog n_check_name #[.slice (if c = at' then a else a.map (·.add at')) 4 (c - at')] w (.tuple #[.string (strOf (nameS l at')), .bool (decide (nameB l at'))]) := by
  have hd := h.drop at' c (by simpa using hc)
  rw [← List.map_drop] at hd
  have ht : RowAt w (if c = at' then a else a.map (·.add at')) (wrds ((l.drop at').take 4)) := by
    rcases hd with h0 | ⟨b, o, h1, h2⟩
    · refine .inl ?_
      have : l.drop at' = [] := List.map_eq_nil_iff.1 h0
      rw [this]
      rfl
    · refine .inr ⟨b, o, h1, fun i x hx => h2 i x ?_⟩
      have hx : (List.map _ ((l.drop at').take 4))[i]? = some x := hx
      rw [List.map_take, List.getElem?_take] at hx
      split at hx
      · exact hx
      · cases hx
  have hl : ((l.drop at').take 4).length = 4 := by rw [List.length_take, List.length_drop]; omega
  have := name_spec ((l.drop at').take 4) _ (c - at') w ht hl (by omega)
  have e1 : nameS ((l.drop at').take 4) 0 = nameS l at' := by unfold nameS; rw [nm_sub]
  have e2 : nameB ((l.drop at').take 4) 0 ↔ nameB l at' := by unfold nameB; rw [e1, nm_sub]
  rw [e1, decide_eq_decide.2 e2] at this
  exact this
abbrev rsChk9_0 := (And.intro @xu8_add (And.intro @xu8_mul (And.intro @xu8_com (And.intro @xu8_neq (And.intro @xu8_lss (And.intro @xu8_leq (And.intro @xu16_add (And.intro @xu16_mul (And.intro @xu16_com (And.intro @xu16_neq (And.intro @xu16_lss (And.intro @xu16_leq (And.intro @xu32_add (And.intro @xu32_mul (And.intro @xu32_com (And.intro @xu32_neq 
  (And.intro @xu32_lss (And.intro @xu32_leq (And.intro @xu64_add (And.intro @xu64_mul (And.intro @xu64_com (And.intro @xu64_neq (And.intro @xu64_lss (And.intro @xu64_leq (And.intro @xi64_lss (And.intro @xi64_leq (And.intro @xi64_neq (And.intro @xi64_neg (And.intro @ld_37 (And.intro @ld_69 (And.intro @fa_96_3 (And.intro @bd_40_0_1 (And.intro @ia_28 
  (And.intro @ln_28 (And.intro @bs_37_1 (And.intro @sh_28 (And.intro @sl_28 (And.intro @sm_28 @sb_28))))))))))))))))))))))))))))))))))))))
theorem Image_spec (l : List (BitVec 64)) (a : Option Addr) (c : Nat) (w : World) (h : RowAt w a (wrds l)) (hc : l.length ≤ c) (hl : l.length ≤ 8192) :
    Yld Try.prog n_check_Image #[.slice a l.length c] w fun u w' => ∃ os bad, (sizeOk l → Sc (wat l) l.length (2 + 5 * nR l) os bad) ∧ FndR w w' u (imgG l os bad) := by
  refine check_Image_of ?_
  unfold check_Image
  have j8 : ∀ (v : Value) (w1 : World), Ext [] w w1 → OwnF w1 v (magF l) → (∀ y ∈ blk v, w.heap.size ≤ y) → check_Image_j8 (fun u w' => ∃ os bad, (sizeOk l → Sc (wat l) l.length (2 + 5 * nR l) os bad) ∧ FndR w w' u (imgG l os bad)) (.slice a l.length c) v w1 := by
    intro v w1 F1 O1 hv
    have R1 := h.ext0 F1
    have lm : (magF l).length ≤ 1 := by unfold magF; split <;> simp
    unfold check_Image_j8
    refine check_size_call (Gives.to (csize_spec l a c w1 R1 (by omega)) fun w2 F2 => ?_)
    have O2 := O1.ext0 F2
    have R2 := R1.ext0 F2
    obtain ⟨a0, c0, rfl, hc0, _, hn0, hr0, _⟩ := O1.slice
    by_cases hs : sizeOk l
    · have h2 : ¬ l.length < 2 := by have := hs.1; omega
      have hn64 := hs.2.2.2.1
      have hfr := hs.2.2.2.2
      rw [decide_eq_true hs, if_neg h2]
      have hG : ∀ os bad, imgG l os bad = magF l ++ (allF (wat l) os bad ++ rootsF l os (nR l)) := fun os bad => by unfold imgG; rw [if_pos hs]
      generalize hN : nR l = N at *
      have e0 : (2 : Int) + 5 * (N : Int) = ((2 + 5 * N : Nat) : Int) := by omega
      have t0 : (2 + 5 * (N : Int)).toNat = 2 + 5 * N := by omega
      generalize hfrom : 2 + 5 * N = fr at *
      have hlk := fun (w : World) (R : RowAt w a (wrds l)) => look_spec w (l.drop fr) (if c = fr then a else a.map (·.add fr)) (c - fr) fr (by
        have := R.drop fr c (by simpa using hc)
        rw [← List.map_drop] at this
        exact this) (by rw [List.length_drop]; omega) (by rw [List.length_drop]; omega)
      rw [List.length_drop] at hlk
      simp (disch := (first | omega | decide | (simp only [rsD] <;> omega) | fail)) only [↓rsC, rsK, rsL, ↓rsChk9_0, tick_eq, tickV_eq, ne_eq, Int.reduceAdd, Int.reduceSub, Int.reduceMul, Int.reduceEq, Int.reduceLT, Int.reduceLE, Int.reduceToNat, Nat.reduceMul, Nat.reduceAdd, Nat.reduceSub, ←decide_not, t0, e0]
      refine check_look_call (Yld.mono (hlk w2 R2) ?_)
      rintro u w3 ⟨k, r, v, os, bad, rfl, hS, W⟩
      have e1 : fr + (l.length - fr) = l.length := by omega
      rw [e1] at hS
      have hS2 : Sc (wat l) l.length fr os bad := hS.congr fun i h3 h4 => by rw [wat_drop]; congr 1; omega
      have hall : allF (fun p => wat (l.drop fr) (p - fr)) os bad = allF (wat l) os bad := allF_congr hS fun i h3 h4 => by rw [wat_drop]; congr 1; omega
      rw [hall] at W
      have lf : (allF (wat l) os bad).length ≤ 90000 := by
        have h1 := hS2.fnd os os.length
        rw [List.take_length] at h1
        have h2 : (badF bad).length ≤ 1 := by cases bad <;> simp [badF]
        unfold allF
        rw [List.length_append]
        omega
      have hos : ∀ p ∈ os, p < fr + (l.drop fr).length := fun p hp => by
        have := (hS2.all).2 p hp
        have := szW_pos (x := wat l p)
        rw [List.length_drop]
        omega
      have hbl : fr + (l.drop fr).length ≤ 8192 := by rw [List.length_drop]; omega
      generalize hA : allF (wat l) os bad = A at *
      simp (disch := (first | omega | decide | (simp only [rsD] <;> omega) | fail)) only [↓rsC, rsK, rsL, ↓rsChk9_0, tick_eq, tickV_eq, ne_eq, Int.reduceAdd, Int.reduceSub, Int.reduceMul, Int.reduceEq, Int.reduceLT, Int.reduceLE, Int.reduceToNat, Nat.reduceMul, Nat.reduceAdd, Nat.reduceSub, ←decide_not, t0, e0]
      refine xLoop_r N (fun j vs w' => ∃ v', vs = [.string (strOf (lastAt l j)), i64 ((2 + 5 * j : Nat) : Int)] ∧ WkIs w2 w' k r v' (if c = fr then a else a.map (·.add fr)) (c - fr) (l.drop fr) fr os (A ++ rootsF l os j)) ⟨v, by rfl, by simpa [rootsF] using W⟩ ?_ ?_
      · rintro j hj u w4 ⟨v4, hu, W4⟩ nxt hnx
        simp only [List.map_cons, List.map_nil, List.cons.injEq, and_true] at hu
        rw [hu.1, hu.2]
        have hr := rootsF_len l os j
        have R4 := R2.ext0 W4.ext
        have t1 : (((2 + 5 * j : Nat) : Int)).toNat = 2 + 5 * j := by omega
        have e4 : ((2 + 5 * j : Nat) : Int) + 4 = ((2 + 5 * j + 4 : Nat) : Int) := by omega
        have t5 : 2 + 5 * j + 4 - (2 + 5 * j) = 4 := by omega
        have e5 : ((2 + 5 * j : Nat) : Int) + 5 = ((2 + 5 * (j + 1) : Nat) : Int) := by omega
        have hnm := fun (w : World) (R : RowAt w a (wrds l)) => name_at l (2 + 5 * j) a c w R hc (by omega)
        have hst : A ++ rootsF l os (j + 1) = (A ++ rootsF l os j ++ nmF l j) ++ rtF l os j := by rw [rootsF]; simp [List.append_assoc]
        have hlast : lastAt l (j + 1) = if nameB l (2 + 5 * j) then nameS l (2 + 5 * j) else lastAt l j := rfl
        have hnmF : nmF l j = if ¬ nameB l (2 + 5 * j) ∨ leN (nameS l (2 + 5 * j)) (lastAt l j) = true then [(2 + 5 * j, sName)] else [] := rfl
        have hrtF : rtF l os j = if PtrOk os (wat l (2 + 5 * j + 4)).toNat then [] else [(2 + 5 * j + 4, sRoot)] := rfl
        have cN : ({ data := #[110, 97, 109, 101] } : ByteArray) = strOf sName := by decide +kernel
        have cR : ({ data := #[114, 111, 111, 116] } : ByteArray) = strOf sRoot := by decide +kernel
        have hat : 2 + 5 * j + 4 < l.length := by omega
        generalize 2 + 5 * j = at' at *
        have last' : ∀ (x : List (BitVec 8)) (w5 : World) (v5 : Value), WkIs w2 w5 k r v5 (if c = fr then a else a.map (·.add fr)) (c - fr) (l.drop fr) fr os (A ++ rootsF l os j ++ nmF l j) → x = lastAt l (j + 1) →
            check_Image_j14 (fun u w' => ∃ os bad, (sizeOk l → Sc (wat l) l.length fr os bad) ∧ FndR w w' u (imgG l os bad)) nxt (.slice a l.length c) (ptr k) (.string (strOf x)) (i64 (at' : Int)) w5 := by
          intro x w5 v5 W5 hx
          have ln : (nmF l j).length ≤ 1 := by rw [hnmF]; split <;> simp
          obtain ⟨b1, o1, ha1, z1, k1⟩ := row_w (R2.ext0 W5.ext) (i := at' + 4) hat
          subst ha1
          unfold check_Image_j14
          simp (disch := (first | omega | decide | (simp only [rsD] <;> omega) | fail)) only [↓rsC, rsK, rsL, ↓rsChk9_0, tick_eq, tickV_eq, ne_eq, Int.reduceAdd, Int.reduceSub, Int.reduceMul, Int.reduceEq, Int.reduceLT, Int.reduceLE, Int.reduceToNat, Nat.reduceMul, Nat.reduceAdd, Nat.reduceSub, ←decide_not, t0, e0, e4, k1]
          refine check_walk_points_call (Gives.to (points_spec W5 hos hbl (wat l (at' + 4))) fun w6 F6 => ?_)
          have W6 := W5.ext0 F6
          by_cases hp : PtrOk os (wat l (at' + 4)).toNat
          · rw [decide_eq_true hp]
            rw [if_pos hp] at hrtF
            rw [hrtF, List.append_nil] at hst
            unfold check_Image_j15
            simp (disch := (first | omega | decide | (simp only [rsD] <;> omega) | fail)) only [↓rsC, rsK, rsL, ↓rsChk9_0, tick_eq, tickV_eq, ne_eq, Int.reduceAdd, Int.reduceSub, Int.reduceMul, Int.reduceEq, Int.reduceLT, Int.reduceLE, Int.reduceToNat, Nat.reduceMul, Nat.reduceAdd, Nat.reduceSub, ←decide_not, t0, e0, e4, k1, e5]
            exact hnx _ _ ⟨v5, by rw [hx], by rw [hst]; exact W6⟩
          · rw [decide_eq_false hp]
            rw [if_neg hp] at hrtF
            rw [hrtF] at hst
            simp (disch := (first | omega | decide | (simp only [rsD] <;> omega) | fail)) only [↓rsC, rsK, rsL, ↓rsChk9_0, tick_eq, tickV_eq, ne_eq, Int.reduceAdd, Int.reduceSub, Int.reduceMul, Int.reduceEq, Int.reduceLT, Int.reduceLE, Int.reduceToNat, Nat.reduceMul, Nat.reduceAdd, Nat.reduceSub, ←decide_not, t0, e0, e4, k1]
            rw [cR]
            refine check_walk_add_call (Yld.mono (add_spec (at' := at' + 4) (s := sRoot) W6 (by simp only [List.length_append]; omega)) ?_)
            rintro u w7 ⟨v7, W7, T7⟩
            unfold check_Image_j15
            simp (disch := (first | omega | decide | (simp only [rsD] <;> omega) | fail)) only [↓rsC, rsK, rsL, ↓rsChk9_0, tick_eq, tickV_eq, ne_eq, Int.reduceAdd, Int.reduceSub, Int.reduceMul, Int.reduceEq, Int.reduceLT, Int.reduceLE, Int.reduceToNat, Nat.reduceMul, Nat.reduceAdd, Nat.reduceSub, ←decide_not, t0, e0, e4, k1, e5]
            exact hnx _ _ ⟨v7, by rw [hx], by rw [hst]; exact W7⟩
        have step : ∀ (w5 : World) (v5 : Value), WkIs w2 w5 k r v5 (if c = fr then a else a.map (·.add fr)) (c - fr) (l.drop fr) fr os (A ++ rootsF l os j ++ nmF l j) →
            check_Image_j12 (fun u w' => ∃ os bad, (sizeOk l → Sc (wat l) l.length fr os bad) ∧ FndR w w' u (imgG l os bad)) nxt (.slice a l.length c) (ptr k) (.string (strOf (lastAt l j))) (i64 (at' : Int)) (.string (strOf (nameS l at'))) (.bool (decide (nameB l at'))) w5 := by
          intro w5 v5 W5
          unfold check_Image_j12
          by_cases hb : nameB l at'
          · rw [decide_eq_true hb]
            simp (disch := (first | omega | decide | (simp only [rsD] <;> omega) | fail)) only [↓rsC, rsK, rsL, ↓rsChk9_0, tick_eq, tickV_eq, ne_eq, Int.reduceAdd, Int.reduceSub, Int.reduceMul, Int.reduceEq, Int.reduceLT, Int.reduceLE, Int.reduceToNat, Nat.reduceMul, Nat.reduceAdd, Nat.reduceSub, ←decide_not, t0, e0]
            exact last' _ w5 v5 W5 (by rw [hlast, if_pos hb])
          · rw [decide_eq_false hb]
            simp (disch := (first | omega | decide | (simp only [rsD] <;> omega) | fail)) only [↓rsC, rsK, rsL, ↓rsChk9_0, tick_eq, tickV_eq, ne_eq, Int.reduceAdd, Int.reduceSub, Int.reduceMul, Int.reduceEq, Int.reduceLT, Int.reduceLE, Int.reduceToNat, Nat.reduceMul, Nat.reduceAdd, Nat.reduceSub, ←decide_not, t0, e0]
            exact last' _ w5 v5 W5 (by rw [hlast, if_neg hb])
        unfold check_Image_l2
        simp (disch := (first | omega | decide | (simp only [rsD] <;> omega) | fail)) only [↓rsC, rsK, rsL, ↓rsChk9_0, tick_eq, tickV_eq, ne_eq, Int.reduceAdd, Int.reduceSub, Int.reduceMul, Int.reduceEq, Int.reduceLT, Int.reduceLE, Int.reduceToNat, Nat.reduceMul, Nat.reduceAdd, Nat.reduceSub, ←decide_not, t0, e0, t1, e4, t5]
        have hle : ∀ (b : Bool), leN (nameS l at') (lastAt l j) = b → ∀ (w : World) (K : K1), xBin Try.prog .leq 9 false (.string (strOf (nameS l at'))) false (.string (strOf (lastAt l j))) w K = K (.bool b) w := fun b hb w K => by rw [leS, ← hb]; rfl
        have hlen : (A ++ rootsF l os j).length ≤ 1000000 := by rw [List.length_append]; omega
        have found : nmF l j = [(at', sName)] → ∀ (w5 : World), Ext [] w4 w5 → xCall Try.prog (fnv n_check_walk_add) [ptr k, i64 (at' : Int), .string (strOf sName)] w5 (fun _ w' => check_Image_j12 (fun u w' => ∃ os bad, (sizeOk l → Sc (wat l) l.length fr os bad) ∧ FndR w w' u (imgG l os bad)) nxt (.slice a l.length c) (ptr k) (.string (strOf (lastAt l j))) (i64 (at' : Int)) (.string (strOf (nameS l at'))) (.bool (decide (nameB l at'))) w') := by
          intro hf w5 F5
          refine check_walk_add_call (Yld.mono (add_spec (at' := at') (s := sName) (W4.ext0 F5) hlen) ?_)
          rintro u w6 ⟨v6, W6, T6⟩
          exact step w6 v6 (by rw [hf]; exact W6)
        refine check_name_call (Gives.to (hnm w4 R4) fun w5 F5 => ?_)
        by_cases hb : nameB l at'
        · have hd : decide (nameB l at') = true := decide_eq_true hb
          rw [hd] at found step ⊢
          cases hlb : leN (nameS l at') (lastAt l j) with
          | true =>
            simp (disch := (first | omega | decide | (simp only [rsD] <;> omega) | fail)) only [↓rsC, rsK, rsL, ↓rsChk9_0, tick_eq, tickV_eq, ne_eq, Int.reduceAdd, Int.reduceSub, Int.reduceMul, Int.reduceEq, Int.reduceLT, Int.reduceLE, Int.reduceToNat, Nat.reduceMul, Nat.reduceAdd, Nat.reduceSub, ←decide_not, t0, e0, t1, e4, t5, hle true hlb]
            rw [cN]
            exact found (by rw [hnmF, if_pos (.inr hlb)]) w5 F5
          | false =>
            simp (disch := (first | omega | decide | (simp only [rsD] <;> omega) | fail)) only [↓rsC, rsK, rsL, ↓rsChk9_0, tick_eq, tickV_eq, ne_eq, Int.reduceAdd, Int.reduceSub, Int.reduceMul, Int.reduceEq, Int.reduceLT, Int.reduceLE, Int.reduceToNat, Nat.reduceMul, Nat.reduceAdd, Nat.reduceSub, ←decide_not, t0, e0, t1, e4, t5, hle false hlb]
            have hz : nmF l j = [] := by rw [hnmF, if_neg (by rw [hlb]; rintro (h1 | h1); exact h1 hb; cases h1)]
            exact step w5 v4 (by
              rw [hz, List.append_nil]
              exact W4.ext0 F5)
        · have hd : decide (nameB l at') = false := decide_eq_false hb
          rw [hd] at found step ⊢
          simp (disch := (first | omega | decide | (simp only [rsD] <;> omega) | fail)) only [↓rsC, rsK, rsL, ↓rsChk9_0, tick_eq, tickV_eq, ne_eq, Int.reduceAdd, Int.reduceSub, Int.reduceMul, Int.reduceEq, Int.reduceLT, Int.reduceLE, Int.reduceToNat, Nat.reduceMul, Nat.reduceAdd, Nat.reduceSub, ←decide_not, t0, e0, t1, e4, t5]
          rw [cN]
          exact found (by rw [hnmF, if_pos (.inl hb)]) w5 F5
      · rintro u w4 ⟨v4, hu, W4⟩ nxt
        simp only [List.map_cons, List.map_nil, List.cons.injEq, and_true] at hu
        rw [hu.1, hu.2]
        have hr := rootsF_len l os N
        obtain ⟨a3, c3, hv3, hc3, hn3, hr3⟩ := fnd_of W4
        have k4 := fun i => W4.blk.cell (i := i)
        subst hv3
        unfold check_Image_l2
        simp (disch := (first | omega | decide | (simp only [rsD] <;> omega) | fail)) only [↓rsC, rsK, rsL, ↓rsChk9_0, tick_eq, tickV_eq, ne_eq, Int.reduceAdd, Int.reduceSub, Int.reduceMul, Int.reduceEq, Int.reduceLT, Int.reduceLE, Int.reduceToNat, Nat.reduceMul, Nat.reduceAdd, Nat.reduceSub, ←decide_not, t0, e0, k4]
        refine appFs (O2.ext0 W4.ext) hr3 hn3 hc3 (by rw [List.length_append]; omega) fun v' w5 O5 F5 => ?_
        have X5 : Ext [] w w5 := ((F1.trans F2).trans W4.ext).new F5.ext (fun y hy => hv y hy)
        have hGe : magF l ++ (A ++ rootsF l os N) = imgG l os bad := by rw [hG, hA]
        rw [hGe] at O5
        obtain ⟨a6, c6, rfl, hc6, _, hn6, hr6, _⟩ := O5.slice
        refine slices_Clip_check_Finding_check_Finding_call (Gives.to (ClipF_spec hc6) fun w6 F6 => ?_)
        exact ⟨os, bad, fun _ => hS2, X5.trans F6, a6, _, rfl, Nat.le_refl _, fun h => by have := hn6 h; omega, hr6.ext0 F6⟩
    · rw [decide_eq_false hs]
      have cS : ({ data := #[115, 105, 122, 101] } : ByteArray) = strOf sSize := by decide +kernel
      have hG : imgG l [] none = magF l ++ [(1, sSize)] := by unfold imgG; rw [if_neg hs]
      simp (disch := (first | omega | decide | (simp only [rsD] <;> omega) | fail)) only [↓rsC, rsK, rsL, ↓rsChk9_0, tick_eq, tickV_eq, ne_eq, Int.reduceAdd, Int.reduceSub, Int.reduceMul, Int.reduceEq, Int.reduceLT, Int.reduceLE, Int.reduceToNat, Nat.reduceMul, Nat.reduceAdd, Nat.reduceSub, ←decide_not, eq_self]
      rw [cS]
      refine appFl O2 (f := (1, sSize)) rfl (by omega) fun v' w3 O3 F3 => ?_
      have X3 : Ext [] w w3 := (F1.trans F2).new F3.ext (fun y hy => hv y hy)
      rw [← hG] at O3
      obtain ⟨a6, c6, rfl, hc6, _, hn6, hr6, _⟩ := O3.slice
      refine slices_Clip_check_Finding_check_Finding_call (Gives.to (ClipF_spec hc6) fun w6 F6 => ?_)
      exact ⟨[], none, fun h => absurd h hs, X3.trans F6, a6, _, rfl, Nat.le_refl _, fun h => by have := hn6 h; omega, hr6.ext0 F6⟩
  have cM : ({ data := #[109, 97, 103, 105, 99] } : ByteArray) = strOf sMagic := by decide +kernel
  by_cases hm : l.length < 1
  · have hmg : magF l = [(0, sMagic)] := by unfold magF; rw [if_pos (.inl hm)]
    simp (disch := (first | omega | decide | (simp only [rsD] <;> omega) | fail)) only [↓rsC, rsK, rsL, ↓rsChk9_0, tick_eq, tickV_eq, ne_eq, Int.reduceAdd, Int.reduceSub, Int.reduceMul, Int.reduceEq, Int.reduceLT, Int.reduceLE, Int.reduceToNat, Nat.reduceMul, Nat.reduceAdd, Nat.reduceSub, ←decide_not, eq_self]
    rw [cM]
    refine appFl (F := []) Own.nil (f := (0, sMagic)) rfl (by simp) fun v' w3 O3 F3 => ?_
    exact j8 v' w3 (F3.ext.more (by simp [blk, Value.ownBlock])) (by rw [hmg]; exact O3) (fun y hy => by
      rcases F3.at' y hy with h1 | h1
      · simp [blk, Value.ownBlock] at h1
      · exact h1)
  obtain ⟨b1, o1, rfl, z1, k1⟩ := row_w h (i := 0) (by omega)
  have k1' : w.cell? ⟨b1, o1, none⟩ = some (u64 (wat l 0)) := k1
  by_cases hm2 : wat l 0 = BitVec.ofNat 64 1296125772
  · have hmg : magF l = [] := by unfold magF; rw [if_neg]; rintro (h1 | h1); exact hm h1; exact h1 hm2
    simp (disch := (first | omega | decide | (simp only [rsD] <;> omega) | fail)) only [↓rsC, rsK, rsL, ↓rsChk9_0, tick_eq, tickV_eq, ne_eq, Int.reduceAdd, Int.reduceSub, Int.reduceMul, Int.reduceEq, Int.reduceLT, Int.reduceLE, Int.reduceToNat, Nat.reduceMul, Nat.reduceAdd, Nat.reduceSub, ←decide_not, k1', hm2]
    exact j8 _ w (Ext.refl _ _) (by rw [hmg]; exact Own.nil) (by simp [blk, Value.ownBlock])
  · have hmg : magF l = [(0, sMagic)] := by unfold magF; rw [if_pos (.inr hm2)]
    simp (disch := (first | omega | decide | (simp only [rsD] <;> omega) | fail)) only [↓rsC, rsK, rsL, ↓rsChk9_0, tick_eq, tickV_eq, ne_eq, Int.reduceAdd, Int.reduceSub, Int.reduceMul, Int.reduceEq, Int.reduceLT, Int.reduceLE, Int.reduceToNat, Nat.reduceMul, Nat.reduceAdd, Nat.reduceSub, ←decide_not, k1', decide_eq_true hm2]
    rw [cM]
    refine appFl (F := []) Own.nil (f := (0, sMagic)) rfl (by simp) fun v' w3 O3 F3 => ?_
    exact j8 v' w3 (F3.ext.more (by simp [blk, Value.ownBlock])) (by rw [hmg]; exact O3) (fun y hy => by
      rcases F3.at' y hy with h1 | h1
      · simp [blk, Value.ownBlock] at h1
      · exact h1)
abbrev rsChk9_1 := (And.intro @xu8_eql (And.intro @xu16_eql (And.intro @xu32_eql (And.intro @xu64_eql (And.intro @xi64_eql @ln_37)))))
theorem ImRight_spec (l : List (BitVec 64)) (a : Option Addr) (c : Nat) (w : World) (h : RowAt w a (wrds l)) (hc : l.length ≤ c) (hl : l.length ≤ 8192) :
    Yld Try.prog n_check_Right #[.slice a l.length c] w fun u w' => ∃ os bad, (sizeOk l → Sc (wat l) l.length (2 + 5 * nR l) os bad) ∧ u = .bool (decide ((imgG l os bad).length = 0)) ∧ Ext [] w w' := by
  refine check_Right_of ?_
  unfold check_Right
  refine check_Image_call (Yld.mono (Image_spec l a c w h hc hl) ?_)
  rintro u w1 ⟨os, bad, hS, F1, a2, c2, rfl, _, _, R1⟩
  have e : decide (((imgG l os bad).length : Int) = 0) = decide ((imgG l os bad).length = 0) := by
    rw [decide_eq_decide]
    omega
  simp (disch := (first | omega | decide | (simp only [rsD] <;> omega) | fail)) only [↓rsC, rsK, rsL, ↓rsChk9_1, tick_eq, tickV_eq, ne_eq, Int.reduceAdd, Int.reduceSub, Int.reduceMul, Int.reduceEq, Int.reduceLT, Int.reduceLE, Int.reduceToNat, Nat.reduceMul, Nat.reduceAdd, Nat.reduceSub, ←decide_not, e]
  exact ⟨os, bad, hS, by trivial, F1⟩
end Go.Proofs.Ytdpmidgeipibbaa
end
section
set_option linter.unusedVariables false
set_option linter.unusedSimpArgs false
set_option maxHeartbeats 4000000
namespace Go.Proofs.Ytdpmidgeipibbaa
open Go.Sh Go.RowKit

theorem cutN_is {l : List (BitVec 8)} {n : Nat} (hn : n ≤ l.length) (h1 : ∀ i (hi : i < l.length), i < n → l[i] ≠ z8) (h2 : ∀ h : n < l.length, l[n] = z8) : cutN l = l.take n := by
  have e : l = l.take n ++ l.drop n := (List.take_append_drop n l).symm
  have hz : z8 ∉ l.take n := fun hm => by
    obtain ⟨i, hi, he⟩ := List.getElem_of_mem hm
    rw [List.getElem_take] at he
    rw [List.length_take] at hi
    exact h1 i (by omega) (by omega) he
  have h3 : cutN (l.take n) = l.take n := cutN_self hz
  unfold cutN at h3 ⊢
  conv => lhs; rw [e]
  rw [List.takeWhile_append, h3, if_pos rfl]
  by_cases h : n < l.length
  · rw [List.drop_eq_getElem_cons h, List.takeWhile_cons, h2 h]
    simp
  · rw [List.drop_of_length_le (by omega)]
    simp
/-- a name with nothing but noughts behind it -/
theorem nameB_is {q : List (BitVec 64)} {at' n : Nat} (hn : n ≤ 32) (hc : nameS q at' = (bytesW q (8 * at') 32).take n) : nameB q at' ↔ 0 < n ∧ ∀ i (hi : i < (bytesW q (8 * at') 32).length), n ≤ i → (bytesW q (8 * at') 32)[i] = z8 := by
  have hbl : (bytesW q (8 * at') 32).length = 32 := bytesW_length
  have hsl : (nameS q at').length = n := by rw [hc, List.length_take, hbl]; omega
  unfold nameB
  generalize hL : bytesW q (8 * at') 32 = L at *
  have hno : z8 ∉ nameS q at' := by unfold nameS; exact cutN_no _
  constructor
  · rintro ⟨h1, h2⟩
    refine ⟨by have := h1.1; omega, fun i hi hni => ?_⟩
    unfold fixN at h2
    rw [if_pos h1] at h2
    have : L[i]? = (nameS q at' ++ List.replicate (32 - (nameS q at').length) z8)[i]? := by rw [h2]
    rw [List.getElem?_append_right (by omega), List.getElem?_replicate, if_pos (by omega), List.getElem?_eq_getElem hi] at this
    exact Option.some.inj this
  · rintro ⟨h1, h2⟩
    have hok : nmOk (nameS q at') := ⟨by omega, by omega, hno⟩
    refine ⟨hok, ?_⟩
    unfold fixN
    rw [if_pos hok]
    refine List.ext_getElem (by simp; omega) fun i h3 h4 => ?_
    by_cases hi : i < n
    · rw [List.getElem_append_left (by omega)]
      have e : (nameS q at')[i]? = (L.take n)[i]? := by rw [hc]
      rw [List.getElem?_eq_getElem (by omega), List.getElem?_take, if_pos hi, List.getElem?_eq_getElem h4] at e
      exact Option.some.inj e
    · rw [List.getElem_append_right (by omega), List.getElem_replicate, h2 i h4 (by omega)]
abbrev rsChk11_0 := (And.intro @xu8_add (And.intro @xu8_mul (And.intro @xu8_neq (And.intro @xu8_lss (And.intro @xu8_gtr (And.intro @xu16_add (And.intro @xu16_mul (And.intro @xu16_neq (And.intro @xu16_lss (And.intro @xu16_gtr (And.intro @xu32_add (And.intro @xu32_mul (And.intro @xu32_neq (And.intro @xu32_lss (And.intro @xu32_gtr (And.intro @xu64_add 
  (And.intro @xu64_mul (And.intro @xu64_neq (And.intro @xu64_lss (And.intro @xu64_gtr (And.intro @xi64_lss (And.intro @xi64_gtr (And.intro @xi64_neq (And.intro @xi64_neg (And.intro @ld_5 (And.intro @ia_70 (And.intro @sh_70 @sm_70)))))))))))))))))))))))))))
theorem rname_spec (l : List (BitVec 64)) (a : Option Addr) (c at' : Nat) (w : World) (h : RowAt w a (wrds l)) (hl : l.length ≤ 8192) (h4 : at' + 4 ≤ l.length) :
    Gives Try.prog n_loamref17_name #[.slice a l.length c, i64 (at' : Int)] w (.tuple #[.string (strOf (if nameB l at' then nameS l at' else [])), .bool (decide (nameB l at'))]) := by
  refine loamref17_name_of ?_
  unfold loamref17_name
  have e8 : 8 * (at' : Int) = ((8 * at' : Nat) : Int) := by omega
  simp (disch := (first | omega | decide | (simp only [rsD] <;> omega) | fail)) only [↓rsC, rsK, rsL, ↓rsChk11_0, tick_eq, tickV_eq, ne_eq, Int.reduceAdd, Int.reduceSub, Int.reduceMul, Int.reduceEq, Int.reduceLT, Int.reduceLE, Int.reduceToNat, Nat.reduceMul, Nat.reduceAdd, Nat.reduceSub, ←decide_not, e8]
  refine loamref14_Bytes_call (Yld.mono (rBytes_spec l a c (8 * at') 32 h (by omega) (by omega)) ?_)
  rintro u w1 N
  obtain ⟨b1, c1, rfl, hc1, _, _, R1, _⟩ := N.2.1.slice
  have F1 := N.1
  have hbl : (bytesW l (8 * at') 32).length = 32 := bytesW_length
  have hnS : nameS l at' = cutN (bytesW l (8 * at') 32) := rfl
  have hnB : ∀ n, n ≤ 32 → nameS l at' = (bytesW l (8 * at') 32).take n → (nameB l at' ↔ 0 < n ∧ ∀ i (hi : i < (bytesW l (8 * at') 32).length), n ≤ i → (bytesW l (8 * at') 32)[i] = z8) := fun n hn hc => nameB_is hn hc
  generalize hL : bytesW l (8 * at') 32 = L at *
  have fin : ∀ (n : Nat) (w2 : World) nxt, Ext [] w1 w2 → n ≤ 32 → (∀ i (hi : i < L.length), i < n → L[i] ≠ z8) → (∀ h : n < L.length, L[n] = z8) →
      loamref17_name_l1 (fun u w' => u = .tuple #[.string (strOf (if nameB l at' then nameS l at' else [])), .bool (decide (nameB l at'))] ∧ Ext [] w w') nxt (.slice b1 32 c1) (i64 (n : Int)) w2 := by
    intro n w2 nxt F2 hn h1 h2
    have hc : nameS l at' = L.take n := by rw [hnS]; exact cutN_is (by omega) h1 h2
    have hB := hnB n hn hc
    have inner : xLoop [i64 (n : Int)] w2 [8] (fun u wx nxt2 => loamref17_name_l2 (fun u w' => u = .tuple #[.string (strOf (if nameB l at' then nameS l at' else [])), .bool (decide (nameB l at'))] ∧ Ext [] w w') nxt2 (.slice b1 32 c1) (i64 (n : Int)) (u 8) wx) := by
      obtain ⟨m, hm⟩ : ∃ m, n + m = 32 := ⟨32 - n, by omega⟩
      refine xLoop_n m (fun j => [i64 ((n + j : Nat) : Int)]) (fun j w' => Ext [] w1 w' ∧ ∀ i (hi : i < L.length), n ≤ i → i < n + j → L[i] = z8) rfl ⟨F2, fun i hi h3 h4 => by omega⟩ ?_ ?_
      · rintro j hj u w3 hu ⟨F3, hq⟩ nxt hnx
        simp only [List.map_cons, List.map_nil, List.cons.injEq, and_true] at hu
        rw [hu]
        obtain ⟨bb, oo, rfl, hbl2, hcc⟩ := (R1.ext0 F3).at (i := n + j) (by simp; omega)
        rw [List.getElem_map] at hcc
        unfold loamref17_name_l2
        by_cases hz : L[n + j] = z8
        · rw [hz] at hcc
          simp (disch := (first | omega | decide | (simp only [rsD] <;> omega) | fail)) only [↓rsC, rsK, rsL, ↓rsChk11_0, tick_eq, tickV_eq, ne_eq, Int.reduceAdd, Int.reduceSub, Int.reduceMul, Int.reduceEq, Int.reduceLT, Int.reduceLE, Int.reduceToNat, Nat.reduceMul, Nat.reduceAdd, Nat.reduceSub, ←decide_not, e8, hcc]
          refine hnx _ ⟨F3, fun i hi h5 h6 => ?_⟩
          by_cases e : i = n + j
          · subst e; exact hz
          · exact hq i hi h5 (by omega)
        · have hnot : ¬ nameB l at' := fun hb => hz ((hB.1 hb).2 (n + j) (by omega) (by omega))
          have hz' : ¬ (L[n + j] = BitVec.ofNat 8 0) := hz
          generalize L[n + j] = y at *
          simp (disch := (first | omega | decide | (simp only [rsD] <;> omega) | fail)) only [↓rsC, rsK, rsL, ↓rsChk11_0, tick_eq, tickV_eq, ne_eq, Int.reduceAdd, Int.reduceSub, Int.reduceMul, Int.reduceEq, Int.reduceLT, Int.reduceLE, Int.reduceToNat, Nat.reduceMul, Nat.reduceAdd, Nat.reduceSub, ←decide_not, e8, hcc, hz']
          exact ⟨by rw [if_neg hnot, decide_eq_false hnot]; rfl, F1.trans F3⟩
      · rintro u w3 hu ⟨F3, hq⟩ nxt
        simp only [List.map_cons, List.map_nil, List.cons.injEq, and_true] at hu
        rw [hu]
        have Rn : RowAt w3 b1 (bys (L.take n)) := by
          rw [show bys (L.take n) = (bys L).take n by rw [← List.map_take]]
          exact (R1.ext0 F3).take n
        have hcv := fun (K : K1) => xConv_str (P := Try.prog) (w := w3) (s := 70) (d := 9) (e := 5) (a := b1) (n := n) (c := c1) (l := L.take n) (K := K) (by kernel_rfl) (by kernel_rfl) (by kernel_rfl) (by rw [List.length_take]; omega) Rn
        unfold loamref17_name_l2
        simp (disch := (first | omega | decide | (simp only [rsD] <;> omega) | fail)) only [↓rsC, rsK, rsL, ↓rsChk11_0, tick_eq, tickV_eq, ne_eq, Int.reduceAdd, Int.reduceSub, Int.reduceMul, Int.reduceEq, Int.reduceLT, Int.reduceLE, Int.reduceToNat, Nat.reduceMul, Nat.reduceAdd, Nat.reduceSub, ←decide_not, e8, hcv]
        refine ⟨?_, F1.trans F3⟩
        by_cases h0 : 0 < n
        · have hb : nameB l at' := hB.2 ⟨h0, fun i hi hni => hq i hi hni (by omega)⟩
          rw [if_pos hb, decide_eq_true hb, decide_eq_true (by omega), hc]
        · have hb : ¬ nameB l at' := fun h => h0 (hB.1 h).1
          have : n = 0 := by omega
          subst this
          rw [if_neg hb, decide_eq_false hb]
          simp
    unfold loamref17_name_l1
    by_cases hlt : n < 32
    · obtain ⟨bb, oo, rfl, hbl2, hcc⟩ := (R1.ext0 F2).at (i := n) (by simp; omega)
      have hz := h2 (by omega)
      have hcc2 : w2.cell? ⟨bb, oo + n, none⟩ = some (u8 z8) := by rw [hcc, List.getElem_map, hz]
      simp (disch := (first | omega | decide | (simp only [rsD] <;> omega) | fail)) only [↓rsC, rsK, rsL, ↓rsChk11_0, tick_eq, tickV_eq, ne_eq, Int.reduceAdd, Int.reduceSub, Int.reduceMul, Int.reduceEq, Int.reduceLT, Int.reduceLE, Int.reduceToNat, Nat.reduceMul, Nat.reduceAdd, Nat.reduceSub, ←decide_not, e8, hcc2]
      exact inner
    · have : n = 32 := by omega
      subst this
      simp (disch := (first | omega | decide | (simp only [rsD] <;> omega) | fail)) only [↓rsC, rsK, rsL, ↓rsChk11_0, tick_eq, tickV_eq, ne_eq, Int.reduceAdd, Int.reduceSub, Int.reduceMul, Int.reduceEq, Int.reduceLT, Int.reduceLE, Int.reduceToNat, Nat.reduceMul, Nat.reduceAdd, Nat.reduceSub, ←decide_not, e8]
      exact inner
  rw [hbl]
  refine xLoop_n 32 (fun j => [i64 (j : Int)]) (fun j w' => Ext [] w1 w' ∧ ∀ i (hi : i < L.length), i < j → L[i] ≠ z8) rfl ⟨Ext.refl _ _, fun i hi h => by omega⟩ ?_ ?_
  · rintro j hj u w2 hu ⟨F2, hq⟩ nxt hnx
    simp only [List.map_cons, List.map_nil, List.cons.injEq, and_true] at hu
    rw [hu]
    by_cases hz : L[j] = z8
    · exact fin j w2 nxt F2 (by omega) hq (fun _ => hz)
    · obtain ⟨bb, oo, rfl, hbl2, hcc⟩ := (R1.ext0 F2).at (i := j) (by simp; omega)
      rw [List.getElem_map] at hcc
      unfold loamref17_name_l1
      have hz' : ¬ (L[j] = BitVec.ofNat 8 0) := hz
      generalize hy : L[j] = y at *
      simp (disch := (first | omega | decide | (simp only [rsD] <;> omega) | fail)) only [↓rsC, rsK, rsL, ↓rsChk11_0, tick_eq, tickV_eq, ne_eq, Int.reduceAdd, Int.reduceSub, Int.reduceMul, Int.reduceEq, Int.reduceLT, Int.reduceLE, Int.reduceToNat, Nat.reduceMul, Nat.reduceAdd, Nat.reduceSub, ←decide_not, e8, hcc, hz']
      refine hnx _ ⟨F2, fun i hi hij => ?_⟩
      by_cases e : i = j
      · subst e; rw [hy]; exact hz
      · exact hq i hi (by omega)
  · rintro u w2 hu ⟨F2, hq⟩ nxt
    simp only [List.map_cons, List.map_nil, List.cons.injEq, and_true] at hu
    rw [hu]
    exact fin 32 w2 nxt F2 (Nat.le_refl _) hq (fun h => by omega)
end Go.Proofs.Ytdpmidgeipibbaa
end
section
set_option linter.unusedVariables false
set_option linter.unusedSimpArgs false
set_option maxHeartbeats 4000000
namespace Go.Proofs.Ytdpmidgeipibbaa
open Go.Sh Go.RowKit

theorem appFrs {w w0 : World} {K : K1} {v : Value} {F G : List Fnd} {a : Option Addr} {c : Nat} (N : NewFr w0 w v F) (hr : RowAt w a (G.flatMap fC)) (hn : a = none → c = 0) (hc : G.length ≤ c) (hl : F.length + G.length ≤ 1000000)
    (hK : ∀ v' w', NewFr w0 w' v' (F ++ G) → Stp (blk v) (blk v') w w' → K v' w') : xBuiltin Try.prog .append #[49, 49] 49 [false, false] [v, .slice a G.length c] w K := by
  refine xApp (e := 105) (s := 2) (n := F.length) (m := G.length) (xs := F.flatMap fC) (news := G.flatMap fC) (bytes := 24) (z := .agg #[.int .i64 0, .string ⟨#[]⟩]) (by kernel_rfl) (by kernel_rfl) (by rfl) (by decide) N.2.1 (fC_len G) hr hn hc (fun u hu => ?_) (by omega) (by omega) fun v' w' h1 h2 => hK v' w' ?_ h2
  · obtain ⟨f, _, hf⟩ := List.mem_flatMap.1 hu
    simp only [fC, List.mem_cons, List.not_mem_nil, or_false] at hf
    rcases hf with rfl | rfl <;> rfl
  · have h3 := N.app h1 h2
    show NewR 105 2 w0 w' v' (F ++ G).length ((F ++ G).flatMap fC)
    rw [List.length_append, List.flatMap_append]
    exact h3
theorem shr48 (x : BitVec 64) : x >>> (48 : Nat) = BitVec.ofNat 64 0 ↔ fieldB x 48 16 = BitVec.ofNat 64 0 := by
  have f2 : (fieldB x 48 16).toNat = _ := field_nat _ (a := 48) (n := 16) (by decide) (by decide)
  have hx := x.isLt
  constructor
  · intro h
    have := congrArg BitVec.toNat h
    rw [BitVec.toNat_ushiftRight, Nat.shiftRight_eq_div_pow, BitVec.toNat_ofNat] at this
    apply BitVec.eq_of_toNat_eq
    rw [f2, BitVec.toNat_ofNat]
    omega
  · intro h
    have := congrArg BitVec.toNat h
    rw [f2, BitVec.toNat_ofNat] at this
    apply BitVec.eq_of_toNat_eq
    rw [BitVec.toNat_ushiftRight, Nat.shiftRight_eq_div_pow, BitVec.toNat_ofNat]
    omega
theorem apart {w w' : World} {a : Option Addr} {l : List Nat} {v v' : Value} (T : Stp (blk v) (blk v') w w') (R : RowAt w a (nums l)) (D : l ≠ [] → ∀ y, a = some y → y.block ∉ blk v) : RowAt w' a (nums l) ∧ (l ≠ [] → ∀ y, a = some y → y.block ∉ blk v') := by
  by_cases hl : l = []
  · subst hl
    exact ⟨.nil, fun h => absurd rfl h⟩
  refine ⟨R.ext T.ext fun b o hb => D hl _ hb, fun _ y hy hm => ?_⟩
  rcases T.at' _ hm with h | h
  · exact D hl y hy h
  · obtain ⟨b, o, h1, h2, _⟩ := R.get (by simpa using hl)
    rw [hy] at h1
    cases h1
    simp only at h
    omega
abbrev rsChk12_0 := (And.intro @xu8_add (And.intro @xu8_mul (And.intro @xu8_com (And.intro @xu8_shr (And.intro @xu8_eql (And.intro @xu8_neq (And.intro @xu8_lss (And.intro @xu8_leq (And.intro @xu8_gtr (And.intro @xu16_add (And.intro @xu16_mul (And.intro @xu16_com (And.intro @xu16_shr (And.intro @xu16_eql (And.intro @xu16_neq (And.intro @xu16_lss 
  (And.intro @xu16_leq (And.intro @xu16_gtr (And.intro @xu32_add (And.intro @xu32_mul (And.intro @xu32_com (And.intro @xu32_shr (And.intro @xu32_eql (And.intro @xu32_neq (And.intro @xu32_lss (And.intro @xu32_leq (And.intro @xu32_gtr (And.intro @xu64_add (And.intro @xu64_mul (And.intro @xu64_com (And.intro @xu64_shr (And.intro @xu64_eql (And.intro @xu64_neq 
  (And.intro @xu64_lss (And.intro @xu64_leq (And.intro @xu64_gtr (And.intro @xi64_lss (And.intro @xi64_leq (And.intro @xi64_gtr (And.intro @xi64_eql (And.intro @xi64_neq (And.intro @xi64_shr (And.intro @xi64_neg (And.intro @ld_69 (And.intro @cv_3_69 (And.intro @cv_69_3 (And.intro @ia_28 (And.intro @ln_28 @bs_49_1))))))))))))))))))))))))))))))))))))))))))))))))
theorem rImage_spec (l : List (BitVec 64)) (a : Option Addr) (c : Nat) (w : World) (h : RowAt w a (wrds l)) (hc : l.length ≤ c) (hn : a = none → c = 0) (hl : l.length ≤ 8192) :
    Yld Try.prog n_loamref17_Image #[.slice a l.length c] w fun u w' => ∃ os bad, (sizeOk l → Sc (wat l) l.length (2 + 5 * nR l) os bad) ∧ FndR w w' u (imgG l os bad) := by
  refine loamref17_Image_of ?_
  unfold loamref17_Image
  have cS : ({ data := #[115, 105, 122, 101] } : ByteArray) = strOf sSize := by decide +kernel
  have cM : ({ data := #[109, 97, 103, 105, 99] } : ByteArray) = strOf sMagic := by decide +kernel
  have lm : (magF l).length ≤ 1 := by unfold magF; split <;> simp
  have toR : ∀ (v : Value) (w2 : World) (F : List Fnd), NewFr w w2 v F → FndR w w2 v F := fun v w2 F N => by
    obtain ⟨a4, c4, rfl, hc4, _, hn4, hr4, _⟩ := N.2.1.slice
    exact ⟨N.1, a4, c4, rfl, hc4, hn4, hr4⟩
  have bad : ∀ (v : Value) (w1 : World), NewFr w w1 v (magF l) → ¬ sizeOk l → xBuiltin Try.prog .append #[49, 49] 49 [false, false] [v, .slice (some ⟨w1.heap.size, 0, none⟩) 1 1] (w1.alloc (.cells #[i64 1, .string (strOf sSize)] 105)) fun u w' => ∃ os bad, (sizeOk l → Sc (wat l) l.length (2 + 5 * nR l) os bad) ∧ FndR w w' u (imgG l os bad) := by
    intro v w1 N hno
    refine appFr N (f := (1, sSize)) rfl (by omega) fun v2 w2 N2 _ => ?_
    refine ⟨[], none, fun h => absurd h hno, ?_⟩
    unfold imgG
    rw [if_neg hno]
    exact toR _ _ _ N2
  have j8 : ∀ (v : Value) (w1 : World), NewFr w w1 v (magF l) → loamref17_Image_j8 (fun u w' => ∃ os bad, (sizeOk l → Sc (wat l) l.length (2 + 5 * nR l) os bad) ∧ FndR w w' u (imgG l os bad)) (.slice a l.length c) v w1 := by
    intro v w1 N1
    have R1 := h.ext0 N1.1
    unfold loamref17_Image_j8
    by_cases h2 : l.length < 2
    · simp (disch := (first | omega | decide | (simp only [rsD] <;> omega) | fail)) only [↓rsC, rsK, rsL, ↓rsChk12_0, tick_eq, tickV_eq, ne_eq, Int.reduceAdd, Int.reduceSub, Int.reduceMul, Int.reduceEq, Int.reduceLT, Int.reduceLE, Int.reduceToNat, Nat.reduceMul, Nat.reduceAdd, Nat.reduceSub, ←decide_not, bdF]
      rw [cS]
      exact bad v w1 N1 fun h => by have := h.1; omega
    obtain ⟨b1, o1, ha1, z1, k1⟩ := row_w R1 (i := 1) (by omega)
    subst ha1
    simp (disch := (first | omega | decide | (simp only [rsD] <;> omega) | fail)) only [↓rsC, rsK, rsL, ↓rsChk12_0, tick_eq, tickV_eq, ne_eq, Int.reduceAdd, Int.reduceSub, Int.reduceMul, Int.reduceEq, Int.reduceLT, Int.reduceLE, Int.reduceToNat, Nat.reduceMul, Nat.reduceAdd, Nat.reduceSub, ←decide_not, k1]
    refine loamref1_Field_call (Gives.to (rField_spec _ _ _ w1) fun w2 F2 => ?_)
    have efr : (fieldB (wat l 1) 0 16).toInt = (nR l : Int) := by
      have : nR l < 65536 := nR_lt l
      exact BitVec.toInt_eq_toNat_of_lt (by unfold nR at this; omega)
    have hnr := nR_lt l
    obtain ⟨_, _, ha2, z2, k2⟩ := row_w (R1.ext0 F2) (i := 1) (by omega)
    cases ha2
    have N2 := N1.ext F2
    by_cases h48 : wat l 1 >>> (48 : Nat) = BitVec.ofNat 64 0
    case neg =>
      have h48' : ¬ (wat l 1 >>> (BitVec.ofNat 64 48).toNat = BitVec.ofNat 64 0) := h48
      simp (disch := (first | omega | decide | (simp only [rsD] <;> omega) | fail)) only [↓rsC, rsK, rsL, ↓rsChk12_0, tick_eq, tickV_eq, ne_eq, Int.reduceAdd, Int.reduceSub, Int.reduceMul, Int.reduceEq, Int.reduceLT, Int.reduceLE, Int.reduceToNat, Nat.reduceMul, Nat.reduceAdd, Nat.reduceSub, ←decide_not, k1, efr, k2, h48', bdF]
      rw [cS]
      exact bad v w2 N2 fun h => h48 ((shr48 _).2 h.2.1)
    have h48' : wat l 1 >>> (BitVec.ofNat 64 48).toNat = BitVec.ofNat 64 0 := h48
    simp (disch := (first | omega | decide | (simp only [rsD] <;> omega) | fail)) only [↓rsC, rsK, rsL, ↓rsChk12_0, tick_eq, tickV_eq, ne_eq, Int.reduceAdd, Int.reduceSub, Int.reduceMul, Int.reduceEq, Int.reduceLT, Int.reduceLE, Int.reduceToNat, Nat.reduceMul, Nat.reduceAdd, Nat.reduceSub, ←decide_not, k1, efr, k2, h48']
    rw [efr]
    refine loamref1_Field_call (Gives.to (rField_spec _ _ _ w2) fun w3 F3 => ?_)
    have N3 := N2.ext F3
    have R3 := h.ext0 N3.1
    have eL : BitVec.ofInt 64 (l.length : Int) = BitVec.ofNat 64 l.length := BitVec.ofInt_natCast _ _
    by_cases hL : fieldB (wat l 1) 16 32 = BitVec.ofNat 64 l.length
    case neg =>
      simp (disch := (first | omega | decide | (simp only [rsD] <;> omega) | fail)) only [↓rsC, rsK, rsL, ↓rsChk12_0, tick_eq, tickV_eq, ne_eq, Int.reduceAdd, Int.reduceSub, Int.reduceMul, Int.reduceEq, Int.reduceLT, Int.reduceLE, Int.reduceToNat, Nat.reduceMul, Nat.reduceAdd, Nat.reduceSub, ←decide_not, k1, efr, k2, h48', eL, hL, bdF]
      rw [cS]
      exact bad v w3 N3 fun h => hL h.2.2.1
    by_cases h64 : 64 < nR l
    · simp (disch := (first | omega | decide | (simp only [rsD] <;> omega) | fail)) only [↓rsC, rsK, rsL, ↓rsChk12_0, tick_eq, tickV_eq, ne_eq, Int.reduceAdd, Int.reduceSub, Int.reduceMul, Int.reduceEq, Int.reduceLT, Int.reduceLE, Int.reduceToNat, Nat.reduceMul, Nat.reduceAdd, Nat.reduceSub, ←decide_not, k1, efr, k2, h48', eL, hL, h64, bdF]
      rw [cS]
      exact bad v w3 N3 fun h => by have := h.2.2.2.1; omega
    by_cases hfr : l.length < 2 + 5 * nR l
    · simp (disch := (first | omega | decide | (simp only [rsD] <;> omega) | fail)) only [↓rsC, rsK, rsL, ↓rsChk12_0, tick_eq, tickV_eq, ne_eq, Int.reduceAdd, Int.reduceSub, Int.reduceMul, Int.reduceEq, Int.reduceLT, Int.reduceLE, Int.reduceToNat, Nat.reduceMul, Nat.reduceAdd, Nat.reduceSub, ←decide_not, k1, efr, k2, h48', eL, hL, h64, hfr, bdF]
      rw [cS]
      exact bad v w3 N3 fun h => by have := h.2.2.2.2; omega
    have hs : sizeOk l := ⟨by omega, (shr48 _).1 h48, hL, by omega, by omega⟩
    have e0 : (2 : Int) + 5 * (nR l : Int) = ((2 + 5 * nR l : Nat) : Int) := by omega
    simp (disch := (first | omega | decide | (simp only [rsD] <;> omega) | fail)) only [↓rsC, rsK, rsL, ↓rsChk12_0, tick_eq, tickV_eq, ne_eq, Int.reduceAdd, Int.reduceSub, Int.reduceMul, Int.reduceEq, Int.reduceLT, Int.reduceLE, Int.reduceToNat, Nat.reduceMul, Nat.reduceAdd, Nat.reduceSub, ←decide_not, k1, efr, k2, h48', eL, hL, h64, hfr]
    rw [e0]
    refine loamref17_Space_call (Yld.mono (rSpaceF_spec l _ c (2 + 5 * nR l) l.length w3 R3 hc hn hl (by omega) (Nat.le_refl _)) ?_)
    rintro u w4 ⟨os, bd, hS, F4, a4, c4, rfl, hc4, hn4, hr4⟩
    have lf : (allF (wat l) os bd).length ≤ 90000 := by
      have h1 := hS.fnd os os.length
      rw [List.take_length] at h1
      have h2 : (badF bd).length ≤ 1 := by cases bd <;> simp [badF]
      unfold allF
      rw [List.length_append]
      omega
    refine appFrs (N3.ext F4) hr4 hn4 hc4 (by omega) fun v5 w5 N5 T5 => ?_
    simp (disch := (first | omega | decide | (simp only [rsD] <;> omega) | fail)) only [↓rsC, rsK, rsL, ↓rsChk12_0, tick_eq, tickV_eq, ne_eq, Int.reduceAdd, Int.reduceSub, Int.reduceMul, Int.reduceEq, Int.reduceLT, Int.reduceLE, Int.reduceToNat, Nat.reduceMul, Nat.reduceAdd, Nat.reduceSub, ←decide_not, k1, efr, k2, h48', eL, hL, h64, hfr]
    rw [e0]
    refine loamref17_Found_call (Yld.mono (rFoundN_spec l _ c (2 + 5 * nR l) l.length w5 (h.ext0 N5.1) hl (by omega) (Nat.le_refl _)) ?_)
    rintro u w6 ⟨os', bd', a6, c6, hS', rfl, R6, F6, U6⟩
    obtain ⟨rfl, rfl⟩ := hS'.uniq hS
    have N6 := N5.ext F6
    have hlb : ∀ y ∈ os', y < 8192 := fun y hy => by
      have := hS.all.2 y hy
      have := szW_pos (x := wat l y)
      omega
    have hcount := hS.count
    have hG : imgG l os' bd' = magF l ++ allF (wat l) os' bd' ++ rootsF l os' (nR l) := by unfold imgG; rw [if_pos hs, List.append_assoc]
    have lA : (magF l ++ allF (wat l) os' bd').length ≤ 90001 := by rw [List.length_append]; omega
    generalize hA : magF l ++ allF (wat l) os' bd' = A at *
    simp (disch := (first | omega | decide | (simp only [rsD] <;> omega) | fail)) only [↓rsC, rsK, rsL, ↓rsChk12_0, tick_eq, tickV_eq, ne_eq, Int.reduceAdd, Int.reduceSub, Int.reduceMul, Int.reduceEq, Int.reduceLT, Int.reduceLE, Int.reduceToNat, Nat.reduceMul, Nat.reduceAdd, Nat.reduceSub, ←decide_not, k1, efr, k2, h48', eL, hL, h64, hfr]
    refine xLoop_r (nR l) (fun j vs w' => ∃ v', vs = [v', .string (strOf (lastAt l j)), i64 (j : Int)] ∧ NewFr w w' v' (A ++ rootsF l os' j) ∧ RowAt w' a6 (nums os') ∧ (os' ≠ [] → ∀ y, a6 = some y → y.block ∉ blk v')) ⟨v5, by rfl, by simpa [rootsF] using N6, R6, fun _ y hy hm => by have := U6 y hy; have := N5.2.1.lt _ hm; omega⟩ ?_ ?_
    · rintro j hj u w7 ⟨v7, hu, N7, R7, D7⟩ nxt hnx
      simp only [List.map_cons, List.map_nil, List.cons.injEq, and_true] at hu
      rw [hu.1, hu.2.1, hu.2.2]
      have hr := rootsF_len l os' j
      have e2 : (2 : Int) + 5 * (j : Int) = ((2 + 5 * j : Nat) : Int) := by omega
      have e4 : ((2 + 5 * j : Nat) : Int) + 4 = ((2 + 5 * j + 4 : Nat) : Int) := by omega
      have hst : A ++ rootsF l os' (j + 1) = (A ++ rootsF l os' j ++ nmF l j) ++ rtF l os' j := by rw [rootsF]; simp [List.append_assoc]
      have hlast : lastAt l (j + 1) = if nameB l (2 + 5 * j) then nameS l (2 + 5 * j) else lastAt l j := rfl
      have hnmF : nmF l j = if ¬ nameB l (2 + 5 * j) ∨ leN (nameS l (2 + 5 * j)) (lastAt l j) = true then [(2 + 5 * j, sName)] else [] := rfl
      have hrtF : rtF l os' j = if PtrOk os' (wat l (2 + 5 * j + 4)).toNat then [] else [(2 + 5 * j + 4, sRoot)] := rfl
      have cN : ({ data := #[110, 97, 109, 101] } : ByteArray) = strOf sName := by decide +kernel
      have cR : ({ data := #[114, 111, 111, 116] } : ByteArray) = strOf sRoot := by decide +kernel
      have hat : 2 + 5 * j + 4 < l.length := by omega
      have hnm := rname_spec l (some ⟨b1, o1, none⟩) c (2 + 5 * j) w7 (h.ext0 N7.1) hl (by omega)
      unfold loamref17_Image_l2
      simp (disch := (first | omega | decide | (simp only [rsD] <;> omega) | fail)) only [↓rsC, rsK, rsL, ↓rsChk12_0, tick_eq, tickV_eq, ne_eq, Int.reduceAdd, Int.reduceSub, Int.reduceMul, Int.reduceEq, Int.reduceLT, Int.reduceLE, Int.reduceToNat, Nat.reduceMul, Nat.reduceAdd, Nat.reduceSub, ←decide_not, k1, efr, k2, h48', eL, hL, h64, hfr, e2]
      rw [e2]
      refine loamref17_name_call (Gives.to hnm fun w8 F8 => ?_)
      have N8 := N7.ext F8
      have R8 := R7.ext0 F8
      generalize 2 + 5 * j = at' at *
      have j14 : ∀ (w9 : World) (v9 : Value), NewFr w w9 v9 (A ++ rootsF l os' j ++ nmF l j) → RowAt w9 a6 (nums os') → (os' ≠ [] → ∀ y, a6 = some y → y.block ∉ blk v9) → loamref17_Image_j14 (fun u w' => ∃ os bad, (sizeOk l → Sc (wat l) l.length (2 + 5 * nR l) os bad) ∧ FndR w w' u (imgG l os bad)) nxt (.slice (some ⟨b1, o1, none⟩) l.length c) v9 (.slice a6 os'.length c6) (.string (strOf (lastAt l (j + 1)))) (i64 (j : Int)) (i64 (at' : Int)) w9 := by
        intro w9 v9 N9 R9 D9
        have ln : (nmF l j).length ≤ 1 := by rw [hnmF]; split <;> simp
        obtain ⟨_, _, ha9, z9, k9⟩ := row_w (h.ext0 N9.1) (i := at' + 4) hat
        cases ha9
        unfold loamref17_Image_j14
        simp (disch := (first | omega | decide | (simp only [rsD] <;> omega) | fail)) only [↓rsC, rsK, rsL, ↓rsChk12_0, tick_eq, tickV_eq, ne_eq, Int.reduceAdd, Int.reduceSub, Int.reduceMul, Int.reduceEq, Int.reduceLT, Int.reduceLE, Int.reduceToNat, Nat.reduceMul, Nat.reduceAdd, Nat.reduceSub, ←decide_not, k1, efr, k2, h48', eL, hL, h64, hfr, e2, e4, k9]
        refine loamref14_Points_call (Gives.to (rPoints_spec R9 (by omega) hlb (wat l (at' + 4))) fun w10 F10 => ?_)
        have N10 := N9.ext F10
        by_cases hp : PtrOk os' (wat l (at' + 4)).toNat
        · rw [decide_eq_true hp]
          rw [if_pos hp] at hrtF
          rw [hrtF, List.append_nil] at hst
          unfold loamref17_Image_j15
          simp (disch := (first | omega | decide | (simp only [rsD] <;> omega) | fail)) only [↓rsC, rsK, rsL, ↓rsChk12_0, tick_eq, tickV_eq, ne_eq, Int.reduceAdd, Int.reduceSub, Int.reduceMul, Int.reduceEq, Int.reduceLT, Int.reduceLE, Int.reduceToNat, Nat.reduceMul, Nat.reduceAdd, Nat.reduceSub, ←decide_not, k1, efr, k2, h48', eL, hL, h64, hfr, e2, e4, k9]
          exact hnx _ _ ⟨v9, by rfl, by rw [hst]; exact N10, R9.ext0 F10, D9⟩
        · rw [decide_eq_false hp]
          rw [if_neg hp] at hrtF
          rw [hrtF] at hst
          simp (disch := (first | omega | decide | (simp only [rsD] <;> omega) | fail)) only [↓rsC, rsK, rsL, ↓rsChk12_0, tick_eq, tickV_eq, ne_eq, Int.reduceAdd, Int.reduceSub, Int.reduceMul, Int.reduceEq, Int.reduceLT, Int.reduceLE, Int.reduceToNat, Nat.reduceMul, Nat.reduceAdd, Nat.reduceSub, ←decide_not, k1, efr, k2, h48', eL, hL, h64, hfr, e2, e4, k9, bdF]
          rw [cR]
          refine appFr N10 (f := (at' + 4, sRoot)) rfl (by simp only [List.length_append]; omega) fun v11 w11 N11 T11 => ?_
          obtain ⟨R11, D11⟩ := apart T11 (R9.ext0 F10) D9
          unfold loamref17_Image_j15
          simp (disch := (first | omega | decide | (simp only [rsD] <;> omega) | fail)) only [↓rsC, rsK, rsL, ↓rsChk12_0, tick_eq, tickV_eq, ne_eq, Int.reduceAdd, Int.reduceSub, Int.reduceMul, Int.reduceEq, Int.reduceLT, Int.reduceLE, Int.reduceToNat, Nat.reduceMul, Nat.reduceAdd, Nat.reduceSub, ←decide_not, k1, efr, k2, h48', eL, hL, h64, hfr, e2, e4, k9, bdF]
          exact hnx _ _ ⟨v11, by rfl, by rw [hst]; exact N11, R11, D11⟩
      have j12 : ∀ (w9 : World) (v9 : Value), NewFr w w9 v9 (A ++ rootsF l os' j ++ nmF l j) → RowAt w9 a6 (nums os') → (os' ≠ [] → ∀ y, a6 = some y → y.block ∉ blk v9) → loamref17_Image_j12 (fun u w' => ∃ os bad, (sizeOk l → Sc (wat l) l.length (2 + 5 * nR l) os bad) ∧ FndR w w' u (imgG l os bad)) nxt (.slice (some ⟨b1, o1, none⟩) l.length c) v9 (.slice a6 os'.length c6) (.string (strOf (lastAt l j))) (i64 (j : Int)) (i64 (at' : Int)) (.string (strOf (if nameB l at' then nameS l at' else []))) (.bool (decide (nameB l at'))) w9 := by
        intro w9 v9 N9 R9 D9
        have h14 := j14 w9 v9 N9 R9 D9
        rw [hlast] at h14
        unfold loamref17_Image_j12
        by_cases hb : nameB l at'
        · rw [decide_eq_true hb, if_pos hb]
          rw [if_pos hb] at h14
          simp (disch := (first | omega | decide | (simp only [rsD] <;> omega) | fail)) only [↓rsC, rsK, rsL, ↓rsChk12_0, tick_eq, tickV_eq, ne_eq, Int.reduceAdd, Int.reduceSub, Int.reduceMul, Int.reduceEq, Int.reduceLT, Int.reduceLE, Int.reduceToNat, Nat.reduceMul, Nat.reduceAdd, Nat.reduceSub, ←decide_not, k1, efr, k2, h48', eL, hL, h64, hfr, e2]
          exact h14
        · rw [decide_eq_false hb]
          rw [if_neg hb] at h14
          simp (disch := (first | omega | decide | (simp only [rsD] <;> omega) | fail)) only [↓rsC, rsK, rsL, ↓rsChk12_0, tick_eq, tickV_eq, ne_eq, Int.reduceAdd, Int.reduceSub, Int.reduceMul, Int.reduceEq, Int.reduceLT, Int.reduceLE, Int.reduceToNat, Nat.reduceMul, Nat.reduceAdd, Nat.reduceSub, ←decide_not, k1, efr, k2, h48', eL, hL, h64, hfr, e2]
          exact h14
      have addN : ∀ w9 : World, Ext [] w8 w9 → nmF l j = [(at', sName)] → xBuiltin Try.prog .append #[49, 49] 49 [false, false] [v7, .slice (some ⟨w9.heap.size, 0, none⟩) 1 1] (w9.alloc (.cells #[i64 (at' : Int), .string (strOf sName)] 105)) fun t117 w => loamref17_Image_j12 (fun u w' => ∃ os bad, (sizeOk l → Sc (wat l) l.length (2 + 5 * nR l) os bad) ∧ FndR w w' u (imgG l os bad)) nxt (.slice (some ⟨b1, o1, none⟩) l.length c) t117 (.slice a6 os'.length c6) (.string (strOf (lastAt l j))) (i64 (j : Int)) (i64 (at' : Int)) (.string (strOf (if nameB l at' then nameS l at' else []))) (.bool (decide (nameB l at'))) w := by
        intro w9 F9 hf
        refine appFr (N8.ext F9) (f := (at', sName)) rfl (by simp only [List.length_append]; omega) fun v11 w11 N11 T11 => ?_
        obtain ⟨R11, D11⟩ := apart T11 (R8.ext0 F9) D7
        rw [← hf] at N11
        exact j12 w11 v11 N11 R11 D11
      by_cases hb : nameB l at'
      · have a2 := addN
        have j2 := j12
        rw [if_pos hb, decide_eq_true hb] at a2 j2 ⊢
        have hle := fun (cx cy : Bool) (K : K1) => leS (cx := cx) (cy := cy) (strOf (nameS l at')) (strOf (lastAt l j)) w8 K
        cases hq : leN (nameS l at') (lastAt l j) with
        | true =>
          have hq' : (Op.bytesLess (strOf (nameS l at')).toList (strOf (lastAt l j)).toList || (strOf (nameS l at')).toList == (strOf (lastAt l j)).toList) = true := hq
          rw [hq'] at hle
          simp (disch := (first | omega | decide | (simp only [rsD] <;> omega) | fail)) only [↓rsC, rsK, rsL, ↓rsChk12_0, tick_eq, tickV_eq, ne_eq, Int.reduceAdd, Int.reduceSub, Int.reduceMul, Int.reduceEq, Int.reduceLT, Int.reduceLE, Int.reduceToNat, Nat.reduceMul, Nat.reduceAdd, Nat.reduceSub, ←decide_not, k1, efr, k2, h48', eL, hL, h64, hfr, e2, hle, bdF]
          rw [cN]
          exact a2 w8 (Ext.refl _ _) (by rw [hnmF, if_pos (.inr hq)])
        | false =>
          have hq' : (Op.bytesLess (strOf (nameS l at')).toList (strOf (lastAt l j)).toList || (strOf (nameS l at')).toList == (strOf (lastAt l j)).toList) = false := hq
          rw [hq'] at hle
          have hnil : nmF l j = [] := by
            rw [hnmF, if_neg]
            rintro (h | h)
            · exact h hb
            · rw [hq] at h; cases h
          simp (disch := (first | omega | decide | (simp only [rsD] <;> omega) | fail)) only [↓rsC, rsK, rsL, ↓rsChk12_0, tick_eq, tickV_eq, ne_eq, Int.reduceAdd, Int.reduceSub, Int.reduceMul, Int.reduceEq, Int.reduceLT, Int.reduceLE, Int.reduceToNat, Nat.reduceMul, Nat.reduceAdd, Nat.reduceSub, ←decide_not, k1, efr, k2, h48', eL, hL, h64, hfr, e2, hle]
          exact j2 w8 v7 (by rw [hnil, List.append_nil]; exact N8) R8 D7
      · have a2 := addN
        rw [if_neg hb, decide_eq_false hb] at a2 ⊢
        simp (disch := (first | omega | decide | (simp only [rsD] <;> omega) | fail)) only [↓rsC, rsK, rsL, ↓rsChk12_0, tick_eq, tickV_eq, ne_eq, Int.reduceAdd, Int.reduceSub, Int.reduceMul, Int.reduceEq, Int.reduceLT, Int.reduceLE, Int.reduceToNat, Nat.reduceMul, Nat.reduceAdd, Nat.reduceSub, ←decide_not, k1, efr, k2, h48', eL, hL, h64, hfr, e2, bdF]
        rw [cN]
        exact a2 w8 (Ext.refl _ _) (by rw [hnmF, if_pos (.inl hb)])
    · rintro u w7 ⟨v7, hu, N7, _⟩ nxt
      simp only [List.map_cons, List.map_nil, List.cons.injEq, and_true] at hu
      rw [hu.1, hu.2.1, hu.2.2]
      unfold loamref17_Image_l2
      simp (disch := (first | omega | decide | (simp only [rsD] <;> omega) | fail)) only [↓rsC, rsK, rsL, ↓rsChk12_0, tick_eq, tickV_eq, ne_eq, Int.reduceAdd, Int.reduceSub, Int.reduceMul, Int.reduceEq, Int.reduceLT, Int.reduceLE, Int.reduceToNat, Nat.reduceMul, Nat.reduceAdd, Nat.reduceSub, ←decide_not, k1, efr, k2, h48', eL, hL, h64, hfr]
      exact ⟨os', bd', fun _ => hS, by rw [hG]; exact toR _ _ _ N7⟩
  have hM : ∀ w1 : World, Ext [] w w1 → magF l = [(0, sMagic)] → xBuiltin Try.prog .append #[49, 49] 49 [false, false] [.slice none 0 0, .slice (some ⟨w1.heap.size, 0, none⟩) 1 1] (w1.alloc (.cells #[i64 0, .string (strOf sMagic)] 105)) fun t24 wx => loamref17_Image_j8 (fun u w' => ∃ os bad, (sizeOk l → Sc (wat l) l.length (2 + 5 * nR l) os bad) ∧ FndR w w' u (imgG l os bad)) (.slice a l.length c) t24 wx := by
    intro w1 F1 hf
    refine appFr (w0 := w) (F := []) (NewR.nil F1) (f := (0, sMagic)) rfl (by simp) fun v2 w2 N2 _ => ?_
    refine j8 v2 w2 ?_
    rw [hf]
    exact N2
  by_cases h0 : l.length = 0
  · simp (disch := (first | omega | decide | (simp only [rsD] <;> omega) | fail)) only [↓rsC, rsK, rsL, ↓rsChk12_0, tick_eq, tickV_eq, ne_eq, Int.reduceAdd, Int.reduceSub, Int.reduceMul, Int.reduceEq, Int.reduceLT, Int.reduceLE, Int.reduceToNat, Nat.reduceMul, Nat.reduceAdd, Nat.reduceSub, ←decide_not, h0, bdF]
    rw [cM]
    exact hM w (Ext.refl _ _) (by unfold magF; rw [if_pos (.inl (by omega))])
  obtain ⟨b1, o1, ha1, z1, k1⟩ := row_w h (i := 0) (by omega)
  subst ha1
  rw [Nat.add_zero] at k1
  by_cases hm : wat l 0 = BitVec.ofNat 64 1296125772
  · simp (disch := (first | omega | decide | (simp only [rsD] <;> omega) | fail)) only [↓rsC, rsK, rsL, ↓rsChk12_0, tick_eq, tickV_eq, ne_eq, Int.reduceAdd, Int.reduceSub, Int.reduceMul, Int.reduceEq, Int.reduceLT, Int.reduceLE, Int.reduceToNat, Nat.reduceMul, Nat.reduceAdd, Nat.reduceSub, ←decide_not, k1, hm]
    refine j8 _ w ?_
    have : magF l = [] := by
      unfold magF
      rw [if_neg]
      rintro (h | h)
      · omega
      · exact h hm
    rw [this]
    exact NewR.nil (Ext.refl _ _)
  · simp (disch := (first | omega | decide | (simp only [rsD] <;> omega) | fail)) only [↓rsC, rsK, rsL, ↓rsChk12_0, tick_eq, tickV_eq, ne_eq, Int.reduceAdd, Int.reduceSub, Int.reduceMul, Int.reduceEq, Int.reduceLT, Int.reduceLE, Int.reduceToNat, Nat.reduceMul, Nat.reduceAdd, Nat.reduceSub, ←decide_not, k1, hm, bdF]
    rw [cM]
    exact hM w (Ext.refl _ _) (by unfold magF; rw [if_pos (.inr hm)])
end Go.Proofs.Ytdpmidgeipibbaa
end
section
set_option linter.unusedVariables false
set_option linter.unusedSimpArgs false
set_option maxHeartbeats 4000000
namespace Go.Proofs.Ytdpmidgeipibbaa
open Go.Sh Go.RowKit

/-- a graph that is not too big to be looked at -/
structure FewH (ns : List GN) (rs : List GR) : Prop where
  n : ns.length ≤ 9000
  r : rs.length ≤ 9000
  x : ∀ x ∈ ns, x.p.length ≤ 9000 ∧ x.d.length ≤ 9000
theorem FewG.h {ns : List GN} {rs : List GR} (h : FewG ns rs) : FewH ns rs := ⟨by have := h.n; omega, by have := h.r; omega, fun x hx => by have := h.x x hx; omega⟩
def firstE : List Int → Int
  | [] => 0
  | e :: l => if e = 0 then firstE l else e
theorem firstE_app {l m : List Int} (h : ∀ e ∈ l, e = 0) : firstE (l ++ m) = firstE m := by
  induction l with
  | nil => rfl
  | cons e l ih =>
    rw [List.cons_append, firstE, if_pos (h e (by simp))]
    exact ih fun x hx => h x (by simp [hx])
theorem firstE_at {l : List Int} {j : Nat} {e : Int} (hj : l[j]? = some e) (hq : ∀ i x, i < j → l[i]? = some x → x = 0) (he : e ≠ 0) : firstE l = e := by
  induction l generalizing j with
  | nil => simp at hj
  | cons x l ih =>
    cases j with
    | zero =>
      simp only [List.getElem?_cons_zero, Option.some.injEq] at hj
      subst hj
      rw [firstE, if_neg he]
    | succ j =>
      rw [firstE, if_pos (hq 0 x (by omega) rfl)]
      exact ih hj fun i y hi hy => hq (i + 1) y (by omega) hy
theorem firstE_zero {l : List Int} : firstE l = 0 ↔ ∀ e ∈ l, e = 0 := by
  induction l with
  | nil => simp [firstE]
  | cons e l ih =>
    rw [firstE]
    by_cases h : e = 0
    · rw [if_pos h, ih]
      simp [h]
    · rw [if_neg h]
      simp [h]
def ndE (n : Nat) (x : GN) : Int := if ∀ p ∈ x.p, 0 ≤ p ∧ p ≤ n then (if x.p.length ≤ 64 ∧ x.d.length ≤ 1024 then 0 else 3) else 1
def prevL (rs : List GR) (i : Nat) : Bool := match rs[i - 1]?, rs[i]? with
  | some a, some b => Op.bytesLess (strOf a.s).toList (strOf b.s).toList
  | _, _ => false
def rtE (n : Nat) (rs : List GR) (i : Nat) : Int := match rs[i]? with
  | none => 0
  | some r => if nmOk r.s ∧ (i = 0 ∨ prevL rs i = true) then (if 0 ≤ r.to ∧ r.to ≤ n then 0 else 1) else 4
def chkV (ns : List GN) (rs : List GR) : Int := firstE (ns.map (ndE ns.length) ++ ((if rs.length ≤ 64 then (0 : Int) else 3) :: (List.range rs.length).map (rtE ns.length rs)))
theorem prevL_get {rs : List GR} {i : Nat} (h0 : i ≠ 0) (hi : i < rs.length) : prevL rs i = Op.bytesLess (strOf (rs[i - 1]'(by omega)).s).toList (strOf rs[i].s).toList := by
  unfold prevL
  rw [List.getElem?_eq_getElem hi, List.getElem?_eq_getElem (show i - 1 < rs.length by omega)]
theorem rtE_get {n : Nat} {rs : List GR} {i : Nat} (hi : i < rs.length) : rtE n rs i = if nmOk rs[i].s ∧ (i = 0 ∨ prevL rs i = true) then (if 0 ≤ rs[i].to ∧ rs[i].to ≤ n then 0 else 1) else 4 := by
  unfold rtE
  rw [List.getElem?_eq_getElem hi]
section
variable {ns : List GN} {rs : List GR}
theorem chk_node {j : Nat} {e : Int} (hj : j < ns.length) (hq : ∀ i (hi : i < ns.length), i < j → ndE ns.length ns[i] = 0) (he : ndE ns.length ns[j] = e) (hne : e ≠ 0) : chkV ns rs = e := by
  unfold chkV
  refine firstE_at (j := j) ?_ (fun i x hi hx => ?_) hne
  · rw [List.getElem?_append_left (by simpa using hj), List.getElem?_map, List.getElem?_eq_getElem hj, Option.map_some, he]
  · rw [List.getElem?_append_left (by rw [List.length_map]; omega), List.getElem?_map, List.getElem?_eq_getElem (by omega)] at hx
    simp only [Option.map_some, Option.some.injEq] at hx
    rw [← hx]
    exact hq i (by omega) hi
theorem chk_nodes (hq : ∀ i (hi : i < ns.length), ndE ns.length ns[i] = 0) : chkV ns rs = firstE ((if rs.length ≤ 64 then (0 : Int) else 3) :: (List.range rs.length).map (rtE ns.length rs)) := by
  unfold chkV
  refine firstE_app fun e he => ?_
  obtain ⟨x, hx, rfl⟩ := List.mem_map.1 he
  obtain ⟨i, hi, rfl⟩ := List.getElem_of_mem hx
  exact hq i hi
theorem chk_len (hq : ∀ i (hi : i < ns.length), ndE ns.length ns[i] = 0) (h : 64 < rs.length) : chkV ns rs = 3 := by
  rw [chk_nodes hq, if_neg (by omega), firstE, if_neg (by decide)]
theorem chk_root {j : Nat} {e : Int} (hq : ∀ i (hi : i < ns.length), ndE ns.length ns[i] = 0) (h : ¬ 64 < rs.length) (hr : ∀ i, i < j → rtE ns.length rs i = 0) (hj : j < rs.length) (he : rtE ns.length rs j = e) (hne : e ≠ 0) : chkV ns rs = e := by
  rw [chk_nodes hq, if_pos (by omega), firstE, if_pos rfl]
  refine firstE_at (j := j) ?_ (fun i x hi hx => ?_) hne
  · rw [List.getElem?_map, List.getElem?_range hj, Option.map_some, he]
  · rw [List.getElem?_map, List.getElem?_range (by omega)] at hx
    simp only [Option.map_some, Option.some.injEq] at hx
    rw [← hx]
    exact hr i hi
theorem chk_ok (hq : ∀ i (hi : i < ns.length), ndE ns.length ns[i] = 0) (h : ¬ 64 < rs.length) (hr : ∀ i, i < rs.length → rtE ns.length rs i = 0) : chkV ns rs = 0 := by
  rw [chk_nodes hq, if_pos (by omega), firstE, if_pos rfl, firstE_zero]
  intro e he
  obtain ⟨i, hi, rfl⟩ := List.mem_map.1 he
  exact hr i (List.mem_range.1 hi)
theorem ndE_zero {n : Nat} {x : GN} : ndE n x = 0 ↔ (∀ p ∈ x.p, 0 ≤ p ∧ p ≤ n) ∧ x.p.length ≤ 64 ∧ x.d.length ≤ 1024 := by
  unfold ndE
  by_cases h1 : ∀ p ∈ x.p, 0 ≤ p ∧ p ≤ n
  · rw [if_pos h1]
    by_cases h2 : x.p.length ≤ 64 ∧ x.d.length ≤ 1024
    · rw [if_pos h2]; exact ⟨fun _ => ⟨h1, h2⟩, fun _ => rfl⟩
    · rw [if_neg h2]; exact ⟨fun h => by omega, fun h => absurd h.2 h2⟩
  · rw [if_neg h1]; exact ⟨fun h => by omega, fun h => absurd h.1 h1⟩
theorem nmOk_iff {s : List (BitVec 8)} : nmOk s ↔ 1 ≤ s.length ∧ s.length ≤ 32 ∧ ∀ c ∈ s, c ≠ BitVec.ofNat 8 0 := by
  unfold nmOk
  constructor
  · rintro ⟨h1, h2, h3⟩; exact ⟨h1, h2, fun c hc e => h3 (by rw [← (show c = z8 from e)]; exact hc)⟩
  · rintro ⟨h1, h2, h3⟩; exact ⟨h1, h2, fun h => h3 _ h rfl⟩
theorem chk_zero : chkV ns rs = 0 ↔ GoodG ns rs := by
  constructor
  · intro h
    unfold chkV at h
    rw [firstE_zero] at h
    have h1 : ∀ x ∈ ns, ndE ns.length x = 0 := fun x hx => h _ (List.mem_append_left _ (List.mem_map.2 ⟨x, hx, rfl⟩))
    have h2 : (if rs.length ≤ 64 then (0 : Int) else 3) = 0 := h _ (List.mem_append_right _ (List.mem_cons_self ..))
    have h3 : ∀ i, i < rs.length → rtE ns.length rs i = 0 := fun i hi => h _ (List.mem_append_right _ (List.mem_cons_of_mem _ (List.mem_map.2 ⟨i, List.mem_range.2 hi, rfl⟩)))
    have h4 : ∀ i (hi : i < rs.length), (nmOk rs[i].s ∧ (i = 0 ∨ prevL rs i = true)) ∧ 0 ≤ rs[i].to ∧ rs[i].to ≤ ns.length := fun i hi => by
      have := h3 i hi
      rw [rtE_get hi] at this
      by_cases q : nmOk rs[i].s ∧ (i = 0 ∨ prevL rs i = true)
      · rw [if_pos q] at this
        by_cases q2 : 0 ≤ rs[i].to ∧ rs[i].to ≤ ns.length
        · exact ⟨q, q2⟩
        · rw [if_neg q2] at this; omega
      · rw [if_neg q] at this; omega
    refine ⟨fun x hx => ndE_zero.1 (h1 x hx), ?_, fun r hr => ?_, fun i hi => ?_⟩
    · split at h2
      · assumption
      · omega
    · obtain ⟨i, hi, rfl⟩ := List.getElem_of_mem hr
      exact ⟨nmOk_iff.1 (h4 i hi).1.1, (h4 i hi).2⟩
    · have := (h4 (i + 1) hi).1.2
      rcases this with h5 | h5
      · omega
      · rw [prevL_get (by omega) hi] at h5
        exact h5
  · intro hg
    refine chk_ok (fun i hi => ndE_zero.2 (hg.x _ (List.getElem_mem hi))) (by have := hg.r; omega) fun i hi => ?_
    obtain ⟨h1, h2, h3⟩ := hg.s _ (List.getElem_mem hi)
    rw [rtE_get hi, if_pos, if_pos ⟨h2, h3⟩]
    refine ⟨nmOk_iff.2 h1, ?_⟩
    by_cases h0 : i = 0
    · exact .inl h0
    · right
      rw [prevL_get h0 hi]
      have := hg.o (i - 1) (by omega)
      have e : rs[i - 1 + 1]'(by omega) = rs[i] := by congr 1; omega
      rw [e] at this
      exact this
end
/-- one node, by the program -/
abbrev rsGck_1 := (And.intro @xu8_add (And.intro @xu8_lss (And.intro @xu8_gtr (And.intro @xu16_add (And.intro @xu16_lss (And.intro @xu16_gtr (And.intro @xu32_add (And.intro @xu32_lss (And.intro @xu32_gtr (And.intro @xu64_add (And.intro @xu64_lss (And.intro @xu64_gtr (And.intro @xi64_lss (And.intro @xi64_gtr (And.intro @ld_3 (And.intro @ld_22 
  (And.intro @ld_66 (And.intro @ld_70 (And.intro @fa_25_0 (And.intro @fa_72_0 (And.intro @fa_72_1 (And.intro @ia_66 (And.intro @ln_22 (And.intro @ln_66 @ln_70))))))))))))))))))))))))
theorem gnode_spec {w : World} {na ra : Option Addr} {nc rc : Nat} {ns : List GN} {rs : List GR} {x : GN} (hx : NOk w x) (hxl : x.p.length ≤ 1000000) : Gives Try.prog n_graph_Graph_node #[gV na nc ra rc ns rs, .agg (gnC x).toArray] w (i64 (ndE ns.length x)) := by
  refine graph_Graph_node_of ?_
  unfold graph_Graph_node
  simp (disch := (first | omega | decide | (simp only [rsD] <;> omega) | fail)) only [↓rsC, rsK, rsL, ↓rsGck_1, tick_eq, tickV_eq, ne_eq, Int.reduceAdd, Int.reduceSub, Int.reduceMul, Int.reduceEq, Int.reduceLT, Int.reduceLE, Int.reduceToNat, Nat.reduceMul, Nat.reduceAdd, Nat.reduceSub, ←decide_not, eq_self]
  simp only [World.size_alloc]
  have B : Blk (w.alloc (.cells #[.slice na ns.length nc, .slice ra rs.length rc] 25)) w.heap.size 25 [.slice na ns.length nc, .slice ra rs.length rc] := Blk.at rfl
  have X : Ext [] w (w.alloc (.cells #[.slice na ns.length nc, .slice ra rs.length rc] 25)) := Ext.alloc _ _ _
  have z1 := World.size_alloc w (.cells #[.slice na ns.length nc, .slice ra rs.length rc] 25)
  generalize hy1 : w.alloc (.cells #[.slice na ns.length nc, .slice ra rs.length rc] 25) = y1 at *
  have C : Blk (y1.alloc (.cells #[.slice x.pa x.p.length x.pc, .slice x.da x.d.length x.dc] 72)) y1.heap.size 72 [.slice x.pa x.p.length x.pc, .slice x.da x.d.length x.dc] := Blk.at rfl
  have X1 : Ext [] y1 (y1.alloc (.cells #[.slice x.pa x.p.length x.pc, .slice x.da x.d.length x.dc] 72)) := Ext.alloc _ _ _
  have B1 := B.ext X1 (by simp)
  have X2 := X.trans X1
  have hx2 := hx.ext0 X2
  rw [z1] at C
  generalize hy2 : y1.alloc (.cells #[.slice x.pa x.p.length x.pc, .slice x.da x.d.length x.dc] 72) = y2 at *
  generalize w.heap.size + 1 = g2 at *
  generalize w.heap.size = g1 at *
  refine xLoop_n x.p.length (fun k => [i64 (k : Int)]) (fun k w' => Ext [] y2 w' ∧ ∀ i (hi : i < x.p.length), i < k → 0 ≤ x.p[i] ∧ x.p[i] ≤ ns.length) rfl ⟨Ext.refl _ _, by intro i _ hi; omega⟩ ?_ ?_
  · intro k hk u v2 hu ⟨F2, hp⟩ nxt2 hnx2
    simp only [List.map_cons, List.map_nil, List.cons.injEq, and_true] at hu
    rw [hu]
    have k2 := fun i => (B1.ext F2 (by simp)).cell (i := i)
    obtain ⟨b3, o3, ha3, z3, c3⟩ := its_at (hx2.ext0 F2).pr hk
    have bad : ¬ (0 ≤ x.p[k] ∧ x.p[k] ≤ ns.length) → i64 1 = i64 (ndE ns.length x) := fun h => by
      unfold ndE
      rw [if_neg fun h2 => h (h2 _ (List.getElem_mem hk))]
    unfold graph_Graph_node_l1
    by_cases g1 : x.p[k] < 0
    · simp (disch := (first | omega | decide | (simp only [rsD] <;> omega) | fail)) only [↓rsC, rsK, rsL, ↓rsGck_1, tick_eq, tickV_eq, ne_eq, Int.reduceAdd, Int.reduceSub, Int.reduceMul, Int.reduceEq, Int.reduceLT, Int.reduceLE, Int.reduceToNat, Nat.reduceMul, Nat.reduceAdd, Nat.reduceSub, ←decide_not, k2, ha3, c3]
      exact ⟨bad (by omega), X2.trans F2⟩
    by_cases g2 : (ns.length : Int) < x.p[k]
    · simp (disch := (first | omega | decide | (simp only [rsD] <;> omega) | fail)) only [↓rsC, rsK, rsL, ↓rsGck_1, tick_eq, tickV_eq, ne_eq, Int.reduceAdd, Int.reduceSub, Int.reduceMul, Int.reduceEq, Int.reduceLT, Int.reduceLE, Int.reduceToNat, Nat.reduceMul, Nat.reduceAdd, Nat.reduceSub, ←decide_not, k2, ha3, c3]
      exact ⟨bad (by omega), X2.trans F2⟩
    simp (disch := (first | omega | decide | (simp only [rsD] <;> omega) | fail)) only [↓rsC, rsK, rsL, ↓rsGck_1, tick_eq, tickV_eq, ne_eq, Int.reduceAdd, Int.reduceSub, Int.reduceMul, Int.reduceEq, Int.reduceLT, Int.reduceLE, Int.reduceToNat, Nat.reduceMul, Nat.reduceAdd, Nat.reduceSub, ←decide_not, k2, ha3, c3]
    refine hnx2 _ ⟨F2, fun i hi hik => ?_⟩
    by_cases e : i = k
    · subst e; exact ⟨by omega, by omega⟩
    · exact hp i hi (by omega)
  · intro u v2 hu ⟨F2, hp⟩ nxt2
    simp only [List.map_cons, List.map_nil, List.cons.injEq, and_true] at hu
    rw [hu]
    have k2 := fun i => (C.ext F2 (by simp)).cell (i := i)
    have hpp : ∀ p ∈ x.p, 0 ≤ p ∧ p ≤ (ns.length : Int) := fun p hp2 => by
      obtain ⟨i, hi, rfl⟩ := List.getElem_of_mem hp2
      exact hp i hi hi
    have hE : ndE ns.length x = if x.p.length ≤ 64 ∧ x.d.length ≤ 1024 then 0 else 3 := by unfold ndE; rw [if_pos hpp]
    rw [hE]
    unfold graph_Graph_node_l1
    by_cases g1 : 64 < x.p.length
    · rw [if_neg (by omega)]
      simp (disch := (first | omega | decide | (simp only [rsD] <;> omega) | fail)) only [↓rsC, rsK, rsL, ↓rsGck_1, tick_eq, tickV_eq, ne_eq, Int.reduceAdd, Int.reduceSub, Int.reduceMul, Int.reduceEq, Int.reduceLT, Int.reduceLE, Int.reduceToNat, Nat.reduceMul, Nat.reduceAdd, Nat.reduceSub, ←decide_not, k2]
      exact ⟨by trivial, X2.trans F2⟩
    by_cases g2 : 1024 < x.d.length
    · rw [if_neg (by omega)]
      simp (disch := (first | omega | decide | (simp only [rsD] <;> omega) | fail)) only [↓rsC, rsK, rsL, ↓rsGck_1, tick_eq, tickV_eq, ne_eq, Int.reduceAdd, Int.reduceSub, Int.reduceMul, Int.reduceEq, Int.reduceLT, Int.reduceLE, Int.reduceToNat, Nat.reduceMul, Nat.reduceAdd, Nat.reduceSub, ←decide_not, k2]
      exact ⟨by trivial, X2.trans F2⟩
    rw [if_pos (by omega)]
    simp (disch := (first | omega | decide | (simp only [rsD] <;> omega) | fail)) only [↓rsC, rsK, rsL, ↓rsGck_1, tick_eq, tickV_eq, ne_eq, Int.reduceAdd, Int.reduceSub, Int.reduceMul, Int.reduceEq, Int.reduceLT, Int.reduceLE, Int.reduceToNat, Nat.reduceMul, Nat.reduceAdd, Nat.reduceSub, ←decide_not, k2]
    exact ⟨by trivial, X2.trans F2⟩
/-- one name, by the program -/
abbrev rsGck_2 := (And.intro @xu8_sub (And.intro @xu8_lss (And.intro @xu8_gtr (And.intro @xu8_geq (And.intro @xu16_sub (And.intro @xu16_lss (And.intro @xu16_gtr (And.intro @xu16_geq (And.intro @xu32_sub (And.intro @xu32_lss (And.intro @xu32_gtr (And.intro @xu32_geq (And.intro @xu64_sub (And.intro @xu64_lss (And.intro @xu64_gtr (And.intro @xu64_geq 
  (And.intro @xi64_lss (And.intro @xi64_gtr (And.intro @xi64_geq (And.intro @ld_3 (And.intro @ld_9 (And.intro @ld_22 (And.intro @ld_23 (And.intro @ld_74 (And.intro @fa_25_0 (And.intro @fa_25_1 (And.intro @fa_74_0 (And.intro @fa_74_1 (And.intro @al_74 (And.intro @st_74 (And.intro @ia_23 (And.intro @ln_22 @ln_9))))))))))))))))))))))))))))))))
theorem groot_spec {w : World} {na ra : Option Addr} {nc rc : Nat} {ns : List GN} {rs : List GR} (h : GIs w na nc ra rc ns rs) {j : Nat} (hj : j < rs.length) (hrl : rs.length ≤ 1000000) : Gives Try.prog n_graph_Graph_root #[gV na nc ra rc ns rs, i64 (j : Int)] w (i64 (rtE ns.length rs j)) := by
  have hrt := rtE_get (n := ns.length) hj
  have hsz := strOf_size (l := rs[j].s)
  obtain ⟨b1, o1, ha1, z1, c1, c2⟩ := gr_at h.rr hj
  subst ha1
  refine graph_Graph_root_of ?_
  unfold graph_Graph_root
  simp (disch := (first | omega | decide | (simp only [rsD] <;> omega) | fail)) only [↓rsC, rsK, rsL, ↓rsGck_2, tick_eq, tickV_eq, ne_eq, Int.reduceAdd, Int.reduceSub, Int.reduceMul, Int.reduceEq, Int.reduceLT, Int.reduceLE, Int.reduceToNat, Nat.reduceMul, Nat.reduceAdd, Nat.reduceSub, ←decide_not, c1, c2]
  simp only [World.size_alloc]
  have B : Blk (w.alloc (.cells #[.slice na ns.length nc, .slice (some ⟨b1, o1, none⟩) rs.length rc] 25)) w.heap.size 25 [.slice na ns.length nc, .slice (some ⟨b1, o1, none⟩) rs.length rc] := Blk.at rfl
  have X : Ext [] w (w.alloc (.cells #[.slice na ns.length nc, .slice (some ⟨b1, o1, none⟩) rs.length rc] 25)) := Ext.alloc _ _ _
  have s1 := World.size_alloc w (.cells #[.slice na ns.length nc, .slice (some ⟨b1, o1, none⟩) rs.length rc] 25)
  generalize w.alloc (.cells #[.slice na ns.length nc, .slice (some ⟨b1, o1, none⟩) rs.length rc] 25) = y1 at *
  have C : Blk (y1.alloc (.cells #[.string (strOf rs[j].s), i64 rs[j].to] 74)) y1.heap.size 74 [.string (strOf rs[j].s), i64 rs[j].to] := Blk.at rfl
  have X1 : Ext [] y1 (y1.alloc (.cells #[.string (strOf rs[j].s), i64 rs[j].to] 74)) := Ext.alloc _ _ _
  have B1 := B.ext X1 (by simp)
  have X2 := X.trans X1
  have hy := h.ext0 X2
  rw [s1] at C
  generalize y1.alloc (.cells #[.string (strOf rs[j].s), i64 rs[j].to] 74) = y2 at *
  generalize w.heap.size + 1 = g2 at *
  generalize w.heap.size = g1 at *
  have kc := fun i => C.cell (i := i)
  by_cases h1 : rs[j].s.length < 1
  · rw [hrt, if_neg (fun q => by have := q.1.1; omega)]
    simp (disch := (first | omega | decide | (simp only [rsD] <;> omega) | fail)) only [↓rsC, rsK, rsL, ↓rsGck_2, tick_eq, tickV_eq, ne_eq, Int.reduceAdd, Int.reduceSub, Int.reduceMul, Int.reduceEq, Int.reduceLT, Int.reduceLE, Int.reduceToNat, Nat.reduceMul, Nat.reduceAdd, Nat.reduceSub, ←decide_not, c1, c2, kc]
    exact ⟨by trivial, X2⟩
  by_cases h2 : 32 < rs[j].s.length
  · rw [hrt, if_neg (fun q => by have := q.1.2.1; omega)]
    simp (disch := (first | omega | decide | (simp only [rsD] <;> omega) | fail)) only [↓rsC, rsK, rsL, ↓rsGck_2, tick_eq, tickV_eq, ne_eq, Int.reduceAdd, Int.reduceSub, Int.reduceMul, Int.reduceEq, Int.reduceLT, Int.reduceLE, Int.reduceToNat, Nat.reduceMul, Nat.reduceAdd, Nat.reduceSub, ←decide_not, c1, c2, kc]
    exact ⟨by trivial, X2⟩
  simp (disch := (first | omega | decide | (simp only [rsD] <;> omega) | fail)) only [↓rsC, rsK, rsL, ↓rsGck_2, tick_eq, tickV_eq, ne_eq, Int.reduceAdd, Int.reduceSub, Int.reduceMul, Int.reduceEq, Int.reduceLT, Int.reduceLE, Int.reduceToNat, Nat.reduceMul, Nat.reduceAdd, Nat.reduceSub, ←decide_not, c1, c2, kc]
  refine strings_Contains_call (Gives.to (Contains_spec rs[j].s y2) fun y3 F3 => ?_)
  have X3 := X2.trans F3
  by_cases h3 : z8 ∈ rs[j].s
  · rw [decide_eq_true h3, hrt, if_neg (fun q => q.1.2.2 h3)]
    simp (disch := (first | omega | decide | (simp only [rsD] <;> omega) | fail)) only [↓rsC, rsK, rsL, ↓rsGck_2, tick_eq, tickV_eq, ne_eq, Int.reduceAdd, Int.reduceSub, Int.reduceMul, Int.reduceEq, Int.reduceLT, Int.reduceLE, Int.reduceToNat, Nat.reduceMul, Nat.reduceAdd, Nat.reduceSub, ←decide_not, c1, c2, kc]
    exact ⟨by trivial, X3⟩
  rw [decide_eq_false h3]
  have hok : nmOk rs[j].s := ⟨by omega, by omega, h3⟩
  have F3d := F3.trans (Ext.drew [] y3)
  have X4 := X2.trans F3d
  have kc4 := fun i => (C.ext F3d (by simp)).cell (i := i)
  have kb4 := fun i => (B1.ext F3d (by simp)).cell (i := i)
  have hlast : ∀ (b : Bool), (j = 0 ∨ prevL rs j = true ↔ b = true) → rtE ns.length rs j = if b = true then (if 0 ≤ rs[j].to ∧ rs[j].to ≤ ns.length then 0 else 1) else 4 := fun b hb => by
    rw [hrt]
    by_cases q : b = true
    · rw [if_pos ⟨hok, hb.2 q⟩, if_pos q]
    · rw [if_neg (fun q2 => q (hb.1 q2.2)), if_neg q]
  by_cases hj0 : j = 0
  · rw [hlast true ⟨fun _ => rfl, fun _ => .inl hj0⟩, if_pos rfl]
    by_cases t1 : rs[j].to < 0
    · rw [if_neg (by omega)]
      simp (disch := (first | omega | decide | (simp only [rsD] <;> omega) | fail)) only [↓rsC, rsK, rsL, ↓rsGck_2, tick_eq, tickV_eq, ne_eq, Int.reduceAdd, Int.reduceSub, Int.reduceMul, Int.reduceEq, Int.reduceLT, Int.reduceLE, Int.reduceToNat, Nat.reduceMul, Nat.reduceAdd, Nat.reduceSub, ←decide_not, c1, c2, kc, kc4, kb4]
      exact ⟨by trivial, X4⟩
    by_cases t2 : (ns.length : Int) < rs[j].to
    · rw [if_neg (by omega)]
      simp (disch := (first | omega | decide | (simp only [rsD] <;> omega) | fail)) only [↓rsC, rsK, rsL, ↓rsGck_2, tick_eq, tickV_eq, ne_eq, Int.reduceAdd, Int.reduceSub, Int.reduceMul, Int.reduceEq, Int.reduceLT, Int.reduceLE, Int.reduceToNat, Nat.reduceMul, Nat.reduceAdd, Nat.reduceSub, ←decide_not, c1, c2, kc, kc4, kb4]
      exact ⟨by trivial, X4⟩
    rw [if_pos (by omega)]
    simp (disch := (first | omega | decide | (simp only [rsD] <;> omega) | fail)) only [↓rsC, rsK, rsL, ↓rsGck_2, tick_eq, tickV_eq, ne_eq, Int.reduceAdd, Int.reduceSub, Int.reduceMul, Int.reduceEq, Int.reduceLT, Int.reduceLE, Int.reduceToNat, Nat.reduceMul, Nat.reduceAdd, Nat.reduceSub, ←decide_not, c1, c2, kc, kc4, kb4]
    exact ⟨by trivial, X4⟩
  · obtain ⟨b5, o5, ha5, z5, c5, c6⟩ := gr_at (hy.ext0 F3d).rr (k := j - 1) (by omega)
    cases ha5
    have t3 : ((j : Int) - 1).toNat = j - 1 := by omega
    have hgs := fun w K => geS (cx := false) (cy := false) (strOf rs[j - 1].s) (strOf rs[j].s) w K
    have hpl := prevL_get hj0 hj
    cases hlt : Op.bytesLess (strOf rs[j - 1].s).toList (strOf rs[j].s).toList with
    | true =>
      rw [hlt] at hgs hpl
      rw [hlast true ⟨fun _ => rfl, fun _ => .inr hpl⟩, if_pos rfl]
      by_cases t1 : rs[j].to < 0
      · rw [if_neg (by omega)]
        simp (disch := (first | omega | decide | (simp only [rsD] <;> omega) | fail)) only [↓rsC, rsK, rsL, ↓rsGck_2, tick_eq, tickV_eq, ne_eq, Int.reduceAdd, Int.reduceSub, Int.reduceMul, Int.reduceEq, Int.reduceLT, Int.reduceLE, Int.reduceToNat, Nat.reduceMul, Nat.reduceAdd, Nat.reduceSub, ←decide_not, c1, c2, kc, kc4, kb4, t3, c5, hgs]
        exact ⟨by trivial, X4⟩
      by_cases t2 : (ns.length : Int) < rs[j].to
      · rw [if_neg (by omega)]
        simp (disch := (first | omega | decide | (simp only [rsD] <;> omega) | fail)) only [↓rsC, rsK, rsL, ↓rsGck_2, tick_eq, tickV_eq, ne_eq, Int.reduceAdd, Int.reduceSub, Int.reduceMul, Int.reduceEq, Int.reduceLT, Int.reduceLE, Int.reduceToNat, Nat.reduceMul, Nat.reduceAdd, Nat.reduceSub, ←decide_not, c1, c2, kc, kc4, kb4, t3, c5, hgs]
        exact ⟨by trivial, X4⟩
      rw [if_pos (by omega)]
      simp (disch := (first | omega | decide | (simp only [rsD] <;> omega) | fail)) only [↓rsC, rsK, rsL, ↓rsGck_2, tick_eq, tickV_eq, ne_eq, Int.reduceAdd, Int.reduceSub, Int.reduceMul, Int.reduceEq, Int.reduceLT, Int.reduceLE, Int.reduceToNat, Nat.reduceMul, Nat.reduceAdd, Nat.reduceSub, ←decide_not, c1, c2, kc, kc4, kb4, t3, c5, hgs]
      exact ⟨by trivial, X4⟩
    | false =>
      rw [hlt] at hgs hpl
      rw [hlast false ⟨fun q => by rcases q with q | q; exact absurd q hj0; rw [hpl] at q; exact q, fun q => by cases q⟩, if_neg (by simp)]
      simp (disch := (first | omega | decide | (simp only [rsD] <;> omega) | fail)) only [↓rsC, rsK, rsL, ↓rsGck_2, tick_eq, tickV_eq, ne_eq, Int.reduceAdd, Int.reduceSub, Int.reduceMul, Int.reduceEq, Int.reduceLT, Int.reduceLE, Int.reduceToNat, Nat.reduceMul, Nat.reduceAdd, Nat.reduceSub, ←decide_not, c1, c2, kc, kc4, kb4, t3, c5, hgs]
      exact ⟨by trivial, X4⟩
/-- all, by the program -/
abbrev rsGck_3 := (And.intro @xu8_add (And.intro @xu8_neq (And.intro @xu8_lss (And.intro @xu8_gtr (And.intro @xu16_add (And.intro @xu16_neq (And.intro @xu16_lss (And.intro @xu16_gtr (And.intro @xu32_add (And.intro @xu32_neq (And.intro @xu32_lss (And.intro @xu32_gtr (And.intro @xu64_add (And.intro @xu64_neq (And.intro @xu64_lss (And.intro @xu64_gtr 
  (And.intro @xi64_lss (And.intro @xi64_gtr (And.intro @xi64_neq (And.intro @xi64_neg (And.intro @ld_22 (And.intro @ld_23 (And.intro @ld_25 (And.intro @ld_72 (And.intro @fa_25_0 (And.intro @fa_25_1 (And.intro @al_72 (And.intro @st_72 (And.intro @ia_22 (And.intro @ln_22 @ln_23))))))))))))))))))))))))))))))
theorem gcheck_spec {w : World} {na ra : Option Addr} {nc rc : Nat} {ns : List GN} {rs : List GR} (h : GIs w na nc ra rc ns rs) (hf : FewH ns rs) : Gives Try.prog n_graph_Check #[gV na nc ra rc ns rs] w (i64 (chkV ns rs)) := by
  have hfn := hf.n
  have hfr := hf.r
  refine graph_Check_of ?_
  unfold graph_Check
  simp (disch := (first | omega | decide | (simp only [rsD] <;> omega) | fail)) only [↓rsC, rsK, rsL, ↓rsGck_3, tick_eq, tickV_eq, ne_eq, Int.reduceAdd, Int.reduceSub, Int.reduceMul, Int.reduceEq, Int.reduceLT, Int.reduceLE, Int.reduceToNat, Nat.reduceMul, Nat.reduceAdd, Nat.reduceSub, ←decide_not, eq_self]
  have B : Blk (w.alloc (.cells #[.slice na ns.length nc, .slice ra rs.length rc] 25)) w.heap.size 25 [.slice na ns.length nc, .slice ra rs.length rc] := Blk.at rfl
  have X : Ext [] w (w.alloc (.cells #[.slice na ns.length nc, .slice ra rs.length rc] 25)) := Ext.alloc _ _ _
  have hy := h.ext0 X
  generalize w.heap.size = hb at *
  generalize w.alloc (.cells #[.slice na ns.length nc, .slice ra rs.length rc] 25) = y at *
  refine xLoop_n ns.length (fun j => [i64 (j : Int)]) (fun j w' => Ext [] y w' ∧ ∀ i (hi : i < ns.length), i < j → ndE ns.length ns[i] = 0) rfl ⟨Ext.refl _ _, by intro i _ hi; omega⟩ ?_ ?_
  · intro j hj u v1 hu ⟨F, hq⟩ nxt hnx
    simp only [List.map_cons, List.map_nil, List.cons.injEq, and_true] at hu
    rw [hu]
    have k1 := fun i => (B.ext F (by simp)).cell (i := i)
    obtain ⟨b1, o1, ha1, z1, c1, c2⟩ := gn_at (hy.ext0 F).nr hj
    have hm := List.getElem_mem hj
    have hok := (hy.ext0 F).ok _ hm
    have hfx := hf.x _ hm
    have zb := (B.ext F (by simp)).lt
    unfold graph_Check_l1
    simp (disch := (first | omega | decide | (simp only [rsD] <;> omega) | fail)) only [↓rsC, rsK, rsL, ↓rsGck_3, tick_eq, tickV_eq, ne_eq, Int.reduceAdd, Int.reduceSub, Int.reduceMul, Int.reduceEq, Int.reduceLT, Int.reduceLE, Int.reduceToNat, Nat.reduceMul, Nat.reduceAdd, Nat.reduceSub, ←decide_not, k1, ha1, c1, c2]
    simp only [← ha1]
    have X1 : Ext [] v1 (v1.alloc (.cells #[.slice ns[j].pa ns[j].p.length ns[j].pc, .slice ns[j].da ns[j].d.length ns[j].dc] 72)) := Ext.alloc _ _ _
    refine graph_Graph_node_call (Gives.to (gnode_spec (na := na) (nc := nc) (ra := ra) (rc := rc) (ns := ns) (rs := rs) (hok.ext0 X1) (by omega)) fun v2 F2 => ?_)
    have F3 := F.trans (X1.trans F2)
    by_cases he : ndE ns.length ns[j] = 0
    · rw [he]
      simp (disch := (first | omega | decide | (simp only [rsD] <;> omega) | fail)) only [↓rsC, rsK, rsL, ↓rsGck_3, tick_eq, tickV_eq, ne_eq, Int.reduceAdd, Int.reduceSub, Int.reduceMul, Int.reduceEq, Int.reduceLT, Int.reduceLE, Int.reduceToNat, Nat.reduceMul, Nat.reduceAdd, Nat.reduceSub, ←decide_not, k1, ha1, c1, c2]
      refine hnx _ ⟨F3, fun i hi hij => ?_⟩
      by_cases e : i = j
      · subst e; exact he
      · exact hq i hi (by omega)
    · have hc := chk_node (rs := rs) hj hq rfl he
      simp (disch := (first | omega | decide | (simp only [rsD] <;> omega) | fail)) only [↓rsC, rsK, rsL, ↓rsGck_3, tick_eq, tickV_eq, ne_eq, Int.reduceAdd, Int.reduceSub, Int.reduceMul, Int.reduceEq, Int.reduceLT, Int.reduceLE, Int.reduceToNat, Nat.reduceMul, Nat.reduceAdd, Nat.reduceSub, ←decide_not, k1, ha1, c1, c2]
      exact ⟨by rw [hc], X.trans F3⟩
  intro u v1 hu ⟨F, hq⟩ nxt
  simp only [List.map_cons, List.map_nil, List.cons.injEq, and_true] at hu
  rw [hu]
  have hq' : ∀ i (hi : i < ns.length), ndE ns.length ns[i] = 0 := fun i hi => hq i hi hi
  have k1 := fun i => (B.ext F (by simp)).cell (i := i)
  unfold graph_Check_l1
  by_cases g0 : 64 < rs.length
  · simp (disch := (first | omega | decide | (simp only [rsD] <;> omega) | fail)) only [↓rsC, rsK, rsL, ↓rsGck_3, tick_eq, tickV_eq, ne_eq, Int.reduceAdd, Int.reduceSub, Int.reduceMul, Int.reduceEq, Int.reduceLT, Int.reduceLE, Int.reduceToNat, Nat.reduceMul, Nat.reduceAdd, Nat.reduceSub, ←decide_not, k1]
    exact ⟨by rw [chk_len hq' g0], X.trans F⟩
  simp (disch := (first | omega | decide | (simp only [rsD] <;> omega) | fail)) only [↓rsC, rsK, rsL, ↓rsGck_3, tick_eq, tickV_eq, ne_eq, Int.reduceAdd, Int.reduceSub, Int.reduceMul, Int.reduceEq, Int.reduceLT, Int.reduceLE, Int.reduceToNat, Nat.reduceMul, Nat.reduceAdd, Nat.reduceSub, ←decide_not, k1]
  refine xLoop_n rs.length (fun j => [i64 (j : Int)]) (fun j w' => Ext [] y w' ∧ ∀ i, i < j → rtE ns.length rs i = 0) rfl ⟨F, by intro i hi; omega⟩ ?_ ?_
  · intro j hj u v2 hu ⟨F2, hr⟩ nxt2 hnx2
    simp only [List.map_cons, List.map_nil, List.cons.injEq, and_true] at hu
    rw [hu]
    have k2 := fun i => (B.ext F2 (by simp)).cell (i := i)
    unfold graph_Check_l2
    simp (disch := (first | omega | decide | (simp only [rsD] <;> omega) | fail)) only [↓rsC, rsK, rsL, ↓rsGck_3, tick_eq, tickV_eq, ne_eq, Int.reduceAdd, Int.reduceSub, Int.reduceMul, Int.reduceEq, Int.reduceLT, Int.reduceLE, Int.reduceToNat, Nat.reduceMul, Nat.reduceAdd, Nat.reduceSub, ←decide_not, k1, k2]
    refine graph_Graph_root_call (Gives.to (groot_spec (hy.ext0 F2) hj (by omega)) fun v3 F3 => ?_)
    by_cases he : rtE ns.length rs j = 0
    · rw [he]
      simp (disch := (first | omega | decide | (simp only [rsD] <;> omega) | fail)) only [↓rsC, rsK, rsL, ↓rsGck_3, tick_eq, tickV_eq, ne_eq, Int.reduceAdd, Int.reduceSub, Int.reduceMul, Int.reduceEq, Int.reduceLT, Int.reduceLE, Int.reduceToNat, Nat.reduceMul, Nat.reduceAdd, Nat.reduceSub, ←decide_not, k1, k2]
      refine hnx2 _ ⟨F2.trans F3, fun i hij => ?_⟩
      by_cases e : i = j
      · subst e; exact he
      · exact hr i (by omega)
    · have hc := chk_root hq' g0 hr hj rfl he
      simp (disch := (first | omega | decide | (simp only [rsD] <;> omega) | fail)) only [↓rsC, rsK, rsL, ↓rsGck_3, tick_eq, tickV_eq, ne_eq, Int.reduceAdd, Int.reduceSub, Int.reduceMul, Int.reduceEq, Int.reduceLT, Int.reduceLE, Int.reduceToNat, Nat.reduceMul, Nat.reduceAdd, Nat.reduceSub, ←decide_not, k1, k2]
      exact ⟨by rw [hc], X.trans (F2.trans F3)⟩
  · intro u v2 hu ⟨F2, hr⟩ nxt2
    simp only [List.map_cons, List.map_nil, List.cons.injEq, and_true] at hu
    rw [hu]
    unfold graph_Check_l2
    simp (disch := (first | omega | decide | (simp only [rsD] <;> omega) | fail)) only [↓rsC, rsK, rsL, ↓rsGck_3, tick_eq, tickV_eq, ne_eq, Int.reduceAdd, Int.reduceSub, Int.reduceMul, Int.reduceEq, Int.reduceLT, Int.reduceLE, Int.reduceToNat, Nat.reduceMul, Nat.reduceAdd, Nat.reduceSub, ←decide_not, k1]
    exact ⟨by rw [chk_ok hq' g0 hr], X.trans F2⟩
end Go.Proofs.Ytdpmidgeipibbaa
end
section
set_option linter.unusedVariables false
set_option linter.unusedSimpArgs false
set_option maxHeartbeats 4000000
namespace Go.Proofs.Ytdpmidgeipibbaa
open Go.Sh Go.RowKit

def gW (ns : List GN) : Nat := (ns.map gsz).sum
theorem gW_snoc (l : List GN) (x : GN) : gW (l ++ [x]) = gW l + gsz x := by simp [gW]
theorem gW_take {ns : List GN} {j : Nat} (hj : j < ns.length) : gW (ns.take (j + 1)) = gW (ns.take j) + gsz ns[j] := by
  rw [List.take_add_one, List.getElem?_eq_getElem hj]
  exact gW_snoc _ _
theorem gW_le (ns : List GN) (h : ∀ x ∈ ns, x.p.length ≤ 64 ∧ x.d.length ≤ 1024) : gW ns ≤ 193 * ns.length := by
  induction ns with
  | nil => simp [gW]
  | cons x ns ih =>
    have h1 := h x (by simp)
    have := ih fun y hy => h y (by simp [hy])
    have e : gW (x :: ns) = gsz x + gW ns := by simp [gW]
    rw [e, List.length_cons]
    unfold gsz
    omega
/-! bytes as words -/
def orV (l : List (BitVec 8)) (a : Nat) : Nat → BitVec 64
  | 0 => BitVec.ofNat 64 0
  | k + 1 => orV l a k ||| ((l.getD (a + k) (BitVec.ofNat 8 0)).setWidth 64 <<< (8 * k))
def wordV (l : List (BitVec 8)) (i : Nat) : BitVec 64 := orV l (8 * i) (min 8 (l.length - 8 * i))
def wordsV (l : List (BitVec 8)) : List (BitVec 64) := (List.range ((l.length + 7) / 8)).map (wordV l)
theorem wordsV_len (l : List (BitVec 8)) : (wordsV l).length = (l.length + 7) / 8 := by simp [wordsV]
def ptW (pl : List Nat) (to : Int) : BitVec 64 := if to = 0 then BitVec.ofNat 64 0 else BitVec.ofNat 64 (pl.getD (to.toNat - 1) 0 + 1)
end Go.Proofs.Ytdpmidgeipibbaa
end
section
set_option linter.unusedVariables false
set_option linter.unusedSimpArgs false
set_option maxHeartbeats 4000000
namespace Go.Proofs.Ytdpmidgeipibbaa
open Go.Sh Go.RowKit

/-- all nodes' words, by the program -/
abbrev rsGck2_1 := (And.intro @xu8_add (And.intro @xu8_lss (And.intro @xu16_add (And.intro @xu16_lss (And.intro @xu32_add (And.intro @xu32_lss (And.intro @xu64_add (And.intro @xu64_lss (And.intro @xi64_lss (And.intro @ld_22 (And.intro @ld_66 (And.intro @ld_70 (And.intro @ld_72 (And.intro @fa_25_0 (And.intro @fa_72_0 (And.intro @fa_72_1 (And.intro @al_72 
  (And.intro @st_72 (And.intro @bd_123_0_1 (And.intro @bd_123_2_3 (And.intro @bd_123 (And.intro @ia_22 (And.intro @ln_22 (And.intro @ln_66 @ln_70))))))))))))))))))))))))
theorem gwords_spec {w : World} {na ra : Option Addr} {nc rc : Nat} {ns : List GN} {rs : List GR} (h : GIs w na nc ra rc ns rs) (hf : FewH ns rs) (hg : GoodG ns rs) : Gives Try.prog n_graph_Words #[gV na nc ra rc ns rs] w (i64 (gW ns : Int)) := by
  have hfn := hf.n
  have hgs := fun x hx => (hg.x x hx).2
  refine graph_Words_of ?_
  unfold graph_Words
  simp (disch := (first | omega | decide | (simp only [rsD] <;> omega) | fail)) only [↓rsC, rsK, rsL, ↓rsGck2_1, tick_eq, tickV_eq, ne_eq, Int.reduceAdd, Int.reduceSub, Int.reduceMul, Int.reduceEq, Int.reduceLT, Int.reduceLE, Int.reduceToNat, Nat.reduceMul, Nat.reduceAdd, Nat.reduceSub, ←decide_not, eq_self]
  have B : Blk (w.alloc (.cells #[.slice na ns.length nc, .slice ra rs.length rc] 25)) w.heap.size 25 [.slice na ns.length nc, .slice ra rs.length rc] := Blk.at rfl
  have X : Ext [] w (w.alloc (.cells #[.slice na ns.length nc, .slice ra rs.length rc] 25)) := Ext.alloc _ _ _
  have hy := h.ext0 X
  generalize w.heap.size = hb at *
  generalize w.alloc (.cells #[.slice na ns.length nc, .slice ra rs.length rc] 25) = y at *
  refine xLoop_n ns.length (fun j => [i64 (gW (ns.take j) : Int), i64 (j : Int)]) (fun j w' => Ext [] y w') (by simp [gW]) (Ext.refl _ _) ?_ ?_
  · intro j hj u v1 hu F nxt hnx
    simp only [List.map_cons, List.map_nil, List.cons.injEq, and_true] at hu
    rw [hu.1, hu.2]
    obtain ⟨b1, o1, rfl, z1, c1, c2⟩ := gn_at (hy.ext0 F).nr hj
    have hm := List.getElem_mem hj
    obtain ⟨q1, q2⟩ := hgs _ hm
    have hle := gW_le (ns.take j) fun x hx => hgs x (List.mem_of_mem_take hx)
    rw [List.length_take] at hle
    have htk := gW_take hj
    unfold graph_Words_l1
    simp (disch := (first | omega | decide | (simp only [rsD] <;> omega) | fail)) only [↓rsC, rsK, rsL, ↓rsGck2_1, tick_eq, tickV_eq, ne_eq, Int.reduceAdd, Int.reduceSub, Int.reduceMul, Int.reduceEq, Int.reduceLT, Int.reduceLE, Int.reduceToNat, Nat.reduceMul, Nat.reduceAdd, Nat.reduceSub, ←decide_not, c1, c2]
    have hgs2 : gsz ns[j] ≤ 193 := by unfold gsz; omega
    have hsz := fun w => Size_spec (ns[j].p.length : Int) (ns[j].d.length : Int) false 0 w
    have e2 : sizeV (ns[j].p.length : Int) (ns[j].d.length : Int) false 0 = (gsz ns[j] : Int) := by
      unfold sizeV gsz
      rw [if_pos ⟨right_f.2 (by omega), rfl⟩]
      omega
    rw [e2] at hsz
    have e1 : (gW (ns.take j) : Int) + (gsz ns[j] : Int) = (gW (ns.take (j + 1)) : Int) := by omega
    refine head_Size_call (Gives.to (hsz _) fun w2 F2 => ?_)
    simp (disch := (first | omega | decide | (simp only [rsD] <;> omega) | fail)) only [↓rsC, rsK, rsL, ↓rsGck2_1, tick_eq, tickV_eq, ne_eq, Int.reduceAdd, Int.reduceSub, Int.reduceMul, Int.reduceEq, Int.reduceLT, Int.reduceLE, Int.reduceToNat, Nat.reduceMul, Nat.reduceAdd, Nat.reduceSub, ←decide_not, c1, c2]
    rw [e1]
    exact hnx _ (F.trans ((Ext.alloc _ _ _).trans F2))
  · intro u v1 hu F nxt
    simp only [List.map_cons, List.map_nil, List.cons.injEq, and_true] at hu
    rw [hu.1, hu.2]
    unfold graph_Words_l1
    simp (disch := (first | omega | decide | (simp only [rsD] <;> omega) | fail)) only [↓rsC, rsK, rsL, ↓rsGck2_1, tick_eq, tickV_eq, ne_eq, Int.reduceAdd, Int.reduceSub, Int.reduceMul, Int.reduceEq, Int.reduceLT, Int.reduceLE, Int.reduceToNat, Nat.reduceMul, Nat.reduceAdd, Nat.reduceSub, ←decide_not, eq_self]
    exact ⟨by rw [List.take_length], X.trans F⟩
abbrev rsGck2_2 := (And.intro @xu8_add (And.intro @xu8_mul (And.intro @xu16_add (And.intro @xu16_mul (And.intro @xu32_add (And.intro @xu32_mul (And.intro @xu64_add (And.intro @xu64_mul (And.intro @ld_23 (And.intro @ld_25 (And.intro @fa_25_1 @ln_23)))))))))))
theorem gneed_spec {w : World} {na ra : Option Addr} {nc rc : Nat} {ns : List GN} {rs : List GR} (h : GIs w na nc ra rc ns rs) (hf : FewH ns rs) (hg : GoodG ns rs) : Gives Try.prog n_image_Need #[gV na nc ra rc ns rs] w (i64 ((2 + 5 * rs.length + gW ns : Nat) : Int)) := by
  have hfn := hf.n
  have hfr := hf.r
  have hle := gW_le ns fun x hx => (hg.x x hx).2
  refine image_Need_of ?_
  unfold image_Need
  simp (disch := (first | omega | decide | (simp only [rsD] <;> omega) | fail)) only [↓rsC, rsK, rsL, ↓rsGck2_2, tick_eq, tickV_eq, ne_eq, Int.reduceAdd, Int.reduceSub, Int.reduceMul, Int.reduceEq, Int.reduceLT, Int.reduceLE, Int.reduceToNat, Nat.reduceMul, Nat.reduceAdd, Nat.reduceSub, ←decide_not, eq_self]
  have B : Blk (w.alloc (.cells #[.slice na ns.length nc, .slice ra rs.length rc] 25)) w.heap.size 25 [.slice na ns.length nc, .slice ra rs.length rc] := Blk.at rfl
  have X : Ext [] w (w.alloc (.cells #[.slice na ns.length nc, .slice ra rs.length rc] 25)) := Ext.alloc _ _ _
  generalize w.heap.size = hb at *
  generalize w.alloc (.cells #[.slice na ns.length nc, .slice ra rs.length rc] 25) = y at *
  have X1 := X.trans (Ext.drew [] _)
  refine graph_Words_call (Gives.to (gwords_spec (h.ext0 X1) hf hg) fun w2 F2d => ?_)
  have F2 := (Ext.drew [] _).trans F2d
  have k2 := fun i => (B.ext F2 (by simp)).cell (i := i)
  have e1 : 2 + 5 * (rs.length : Int) + (gW ns : Int) = ((2 + 5 * rs.length + gW ns : Nat) : Int) := by omega
  simp (disch := (first | omega | decide | (simp only [rsD] <;> omega) | fail)) only [↓rsC, rsK, rsL, ↓rsGck2_2, tick_eq, tickV_eq, ne_eq, Int.reduceAdd, Int.reduceSub, Int.reduceMul, Int.reduceEq, Int.reduceLT, Int.reduceLE, Int.reduceToNat, Nat.reduceMul, Nat.reduceAdd, Nat.reduceSub, ←decide_not, k2]
  exact ⟨by rw [e1], X.trans F2⟩
end Go.Proofs.Ytdpmidgeipibbaa
end
section
set_option linter.unusedVariables false
set_option linter.unusedSimpArgs false
set_option maxHeartbeats 4000000
namespace Go.Proofs.Ytdpmidgeipibbaa
open Go.Sh Go.RowKit

def plL (ns : List GN) (R : Nat) (j : Nat) : List Nat := (List.range j).map fun i => 2 + 5 * R + gW (ns.take i)
def hdrW (R at' : Nat) : BitVec 64 := BitVec.ofNat 64 (R + at' * 65536)
def padS (l : List (BitVec 8)) : List (BitVec 8) := l ++ List.replicate (32 - l.length) (BitVec.ofNat 8 0)
def rtW (pl : List Nat) (r : GR) : List (BitVec 64) := wordsV (padS r.s) ++ [ptW pl r.to]
def ndW (pl : List Nat) (x : GN) : List (BitVec 64) := packW x.p.length x.d.length false 0 :: (x.p.map (ptW pl) ++ wordsV x.d)
def encW (ns : List GN) (rs : List GR) : List (BitVec 64) := [BitVec.ofNat 64 1296125772, hdrW rs.length (2 + 5 * rs.length + gW ns)] ++ rs.flatMap (rtW (plL ns rs.length ns.length)) ++ ns.flatMap (ndW (plL ns rs.length ns.length))
theorem padS_len {l : List (BitVec 8)} (h : l.length ≤ 32) : (padS l).length = 32 := by unfold padS; simp; omega
theorem rtW_len {pl : List Nat} {r : GR} (h : r.s.length ≤ 32) : (rtW pl r).length = 5 := by
  unfold rtW
  rw [List.length_append, wordsV_len, padS_len h]
  rfl
theorem ndW_len {pl : List Nat} {x : GN} : (ndW pl x).length = gsz x := by
  unfold ndW gsz
  simp [wordsV_len]
  omega
theorem rts_len {pl : List Nat} {rs : List GR} (h : ∀ r ∈ rs, r.s.length ≤ 32) : (rs.flatMap (rtW pl)).length = 5 * rs.length := by
  induction rs with
  | nil => rfl
  | cons r rs ih =>
    rw [List.flatMap_cons, List.length_append, rtW_len (h r (by simp)), ih fun x hx => h x (by simp [hx]), List.length_cons]
    omega
theorem nds_len {pl : List Nat} {ns : List GN} : (ns.flatMap (ndW pl)).length = gW ns := by
  induction ns with
  | nil => rfl
  | cons x ns ih =>
    rw [List.flatMap_cons, List.length_append, ndW_len, ih]
    simp [gW]
theorem encW_len {ns : List GN} {rs : List GR} (h : ∀ r ∈ rs, r.s.length ≤ 32) : (encW ns rs).length = 2 + 5 * rs.length + gW ns := by
  unfold encW
  rw [List.length_append, List.length_append, rts_len h, nds_len]
  simp
theorem plL_len (ns : List GN) (R j : Nat) : (plL ns R j).length = j := by simp [plL]
def encC (ns : List GN) (rs : List GR) : Int := if chkV ns rs ≠ 0 then chkV ns rs else if 8192 < 2 + 5 * rs.length + gW ns then 3 else 0
/-- a graph in words, or why not -/
def EncR (w w' : World) (ns : List GN) (rs : List GR) (u : Value) : Prop := (encC ns rs ≠ 0 ∧ u = .tuple #[.slice none 0 0, i64 (encC ns rs)] ∧ Ext [] w w') ∨
  (encC ns rs = 0 ∧ GoodG ns rs ∧ 2 + 5 * rs.length + gW ns ≤ 8192 ∧ ∃ a c, u = .tuple #[.slice a (encW ns rs).length c, i64 0] ∧ (encW ns rs).length ≤ c ∧ (a = none → c = 0) ∧ RowAt w' a (wrds (encW ns rs)) ∧ Ext [] w w')
end Go.Proofs.Ytdpmidgeipibbaa
end
section
set_option linter.unusedVariables false
set_option linter.unusedSimpArgs false
set_option maxHeartbeats 4000000
namespace Go.Proofs.Ytdpmidgeipibbaa
open Go.Sh Go.RowKit

theorem wat_ext {ws ws' : List (BitVec 64)} {i : Nat} (h : ∀ r, r < 8 → byteW ws (8 * i + r) = byteW ws' (8 * i + r)) : wat ws i = wat ws' i := by
  apply BitVec.eq_of_getLsbD_eq
  intro k hk
  have h1 := congrArg (fun x => x.getLsbD (k % 8)) (h (k / 8) (by omega))
  simp only [byteW, BitVec.getLsbD_setWidth, BitVec.getLsbD_ushiftRight] at h1
  rw [show (8 * i + k / 8) / 8 = i by omega, show 8 * ((8 * i + k / 8) % 8) + k % 8 = k by omega] at h1
  have h2 : k % 8 < 8 := by omega
  simpa [wat, h2] using h1
theorem byte_zero {ws : List (BitVec 64)} {j : Nat} (h : wat ws (j / 8) = c0) : byteW ws j = BitVec.ofNat 8 0 := by
  unfold byteW
  rw [show ws.getD (j / 8) c0 = c0 from h]
  simp
theorem wat_rep {n i : Nat} : wat (List.replicate n c0) i = c0 := by
  unfold wat
  rw [List.getD_eq_getElem?_getD, List.getElem?_replicate]
  split <;> rfl
theorem wat_set_bytes {ws : List (BitVec 64)} {p i : Nat} {l : List (BitVec 8)} (h : p + l.length ≤ 8 * ws.length) (hi : 8 * i + 8 ≤ p ∨ p + l.length ≤ 8 * i) : wat (setBytesW ws p l) i = wat ws i := by
  refine wat_ext fun r hr => ?_
  rw [byte_set h, if_neg (by omega)]
theorem pack_v {P n : Nat} (hP : P ≤ 64) (hn : n ≤ 1024) : rightP (P : Int) (n : Int) false 0 ∧ okW (packW P n false 0) ∧ szW (packW P n false 0) = 1 + P + (n + 7) / 8 ∧ pN (packW P n false 0) = P ∧ bN (packW P n false 0) = n := by
  have hr : rightP (P : Int) (n : Int) false 0 := right_f.2 (by omega)
  obtain ⟨h1, h2⟩ := okW_pack hr
  obtain ⟨u1, u2, u3, u4⟩ := un_pack hr
  exact ⟨hr, h1, by rw [h2]; simp, by unfold pN; rw [u1]; simp, by unfold bN; rw [u2]; simp⟩
section
variable (P n k : Nat) (x y : List (BitVec 8))
variable {P n k x y}
end
end Go.Proofs.Ytdpmidgeipibbaa
end
section
set_option linter.unusedVariables false
set_option linter.unusedSimpArgs false
set_option maxHeartbeats 4000000
namespace Go.Proofs.Ytdpmidgeipibbaa
open Go.Sh Go.RowKit

theorem flat_at {α β : Type} (l : List α) (f : α → List β) {i k m : Nat} (hi : i < l.length) (hk : k < (f l[i]).length) (hm : ((l.take i).flatMap f).length = m) : (l.flatMap f)[m + k]? = (f l[i])[k]? := by
  have e : l = l.take i ++ l[i] :: l.drop (i + 1) := by rw [List.getElem_cons_drop, List.take_append_drop]
  have e2 : l.flatMap f = (l.take i).flatMap f ++ (f l[i] ++ (l.drop (i + 1)).flatMap f) := by
    conv => lhs; rw [e]
    rw [List.flatMap_append, List.flatMap_cons]
  rw [e2, List.getElem?_append_right (by omega), show m + k - ((l.take i).flatMap f).length = k by omega, List.getElem?_append_left hk]
theorem orV_bit (l : List (BitVec 8)) (a : Nat) : ∀ (k b : Nat), k ≤ 8 → (orV l a k).getLsbD b = (decide (b < 8 * k) && (l.getD (a + b / 8) (BitVec.ofNat 8 0)).getLsbD (b % 8))
  | 0, b, _ => by simp [orV]
  | k + 1, b, hk => by
    rw [orV, BitVec.getLsbD_or, orV_bit l a k b (by omega), BitVec.getLsbD_shiftLeft, BitVec.getLsbD_setWidth]
    by_cases h1 : b < 8 * k
    · have h2 : b < 8 * (k + 1) := by omega
      simp [h1, h2]
    · by_cases h2 : b < 8 * (k + 1)
      · have e1 : b / 8 = k := by omega
        have e2 : b - 8 * k = b % 8 := by omega
        have h3 : b < 64 := by omega
        have h4 : b % 8 < 64 := by omega
        simp [h1, h2, e1, e2, h3, h4]
      · have h5 : 8 ≤ b - 8 * k := by omega
        simp [h1, h2]
        intro _
        rw [BitVec.getLsbD_of_ge _ _ h5]
        simp
theorem wordV_bit (l : List (BitVec 8)) (i b : Nat) (hb : b < 64) : (wordV l i).getLsbD b = (l.getD (8 * i + b / 8) (BitVec.ofNat 8 0)).getLsbD (b % 8) := by
  unfold wordV
  rw [orV_bit _ _ _ _ (by omega)]
  by_cases h : b < 8 * min 8 (l.length - 8 * i)
  · rw [decide_eq_true h, Bool.true_and]
  · rw [decide_eq_false h, Bool.false_and]
    have : l.length ≤ 8 * i + b / 8 := by omega
    rw [List.getD_eq_getElem?_getD, List.getElem?_eq_none this]
    simp
theorem wordV_byte (l : List (BitVec 8)) (i r : Nat) (hr : r < 8) : (wordV l i >>> (8 * r)).setWidth 8 = l.getD (8 * i + r) (BitVec.ofNat 8 0) := by
  apply BitVec.eq_of_getLsbD_eq
  intro k hk
  rw [BitVec.getLsbD_setWidth, decide_eq_true hk, Bool.true_and, BitVec.getLsbD_ushiftRight, wordV_bit _ _ _ (by omega), show (8 * r + k) / 8 = r by omega, show (8 * r + k) % 8 = k by omega]
theorem wordV_pad (l : List (BitVec 8)) (h : l.length % 8 ≠ 0) : wordV l ((l.length + 7) / 8 - 1) >>> (8 * (l.length % 8)) = 0#64 := by
  apply BitVec.eq_of_getLsbD_eq
  intro k hk
  rw [BitVec.getLsbD_ushiftRight]
  by_cases h2 : 8 * (l.length % 8) + k < 64
  · rw [wordV_bit _ _ _ h2, List.getD_eq_getElem?_getD, List.getElem?_eq_none (by omega)]
    simp
  · rw [BitVec.getLsbD_of_ge _ _ (by omega)]
    simp
theorem wordsV_at (l : List (BitVec 8)) {i : Nat} (h : i < (l.length + 7) / 8) : (wordsV l)[i]? = some (wordV l i) := by
  unfold wordsV
  rw [List.getElem?_map, List.getElem?_range h]
  rfl
theorem cut_fill (n : Nat) : ∀ s : List (BitVec 8), z8 ∉ s → cutN (s ++ List.replicate n z8) = s
  | [], _ => by
    cases n with
    | zero => rfl
    | succ n => rw [List.nil_append, List.replicate_succ]; unfold cutN; rw [List.takeWhile_cons, if_neg (by simp)]
  | c :: s, h => by
    have h1 : c ≠ z8 := fun e => h (e ▸ List.mem_cons_self ..)
    have ih := cut_fill n s fun h2 => h (List.mem_cons_of_mem _ h2)
    unfold cutN at ih ⊢
    rw [List.cons_append, List.takeWhile_cons, if_pos (decide_eq_true h1), ih]
theorem cut_pad {s : List (BitVec 8)} (h : z8 ∉ s) : cutN (padS s) = s := cut_fill _ s h
theorem strOf_list (s : List (BitVec 8)) : (strOf s).toList = s.map UInt8.ofBitVec := by
  rw [ByteArray.toList_eq]
  simp [strOf]
section
variable {ns : List GN} {rs : List GR}
abbrev plE (ns : List GN) (rs : List GR) : List Nat := plL ns rs.length ns.length
theorem wat_some {l : List (BitVec 64)} {i : Nat} {x : BitVec 64} (h : l[i]? = some x) : wat l i = x := by
  unfold wat
  rw [List.getD_eq_getElem?_getD, h]
  rfl
theorem enc_root (hs : ∀ r ∈ rs, r.s.length ≤ 32) {i k : Nat} (hi : i < rs.length) (hk : k < 5) : (encW ns rs)[2 + 5 * i + k]? = (rtW (plE ns rs) rs[i])[k]? := by
  have hl : ((rs.take i).flatMap (rtW (plE ns rs))).length = 5 * i := by
    rw [rts_len fun r hr => hs r (List.mem_of_mem_take hr), List.length_take]
    omega
  unfold encW
  rw [List.append_assoc, List.getElem?_append_right (by simp; omega), List.getElem?_append_left (by rw [rts_len hs]; simp; omega), show 2 + 5 * i + k - ([BitVec.ofNat 64 1296125772, hdrW rs.length (2 + 5 * rs.length + gW ns)] : List (BitVec 64)).length = 5 * i + k by simp; omega]
  exact flat_at rs _ hi (by rw [rtW_len (hs _ (List.getElem_mem hi))]; exact hk) hl
abbrev plc (ns : List GN) (rs : List GR) (j : Nat) : Nat := 2 + 5 * rs.length + gW (ns.take j)
theorem gW_le_all {ns : List GN} : ∀ {j : Nat}, gW (ns.take j) ≤ gW ns := fun {j} => by
  conv => rhs; rw [← List.take_append_drop j ns]
  unfold gW
  rw [List.map_append, List.sum_append]
  omega
theorem enc_node (hs : ∀ r ∈ rs, r.s.length ≤ 32) {j k : Nat} (hj : j < ns.length) (hk : k < gsz ns[j]) : (encW ns rs)[plc ns rs j + k]? = (ndW (plE ns rs) ns[j])[k]? := by
  unfold encW
  have h2 : ([BitVec.ofNat 64 1296125772, hdrW rs.length (2 + 5 * rs.length + gW ns)] ++ rs.flatMap (rtW (plE ns rs))).length = 2 + 5 * rs.length := by
    rw [List.length_append, rts_len hs]
    rfl
  rw [List.getElem?_append_right (by rw [h2]; unfold plc; omega), h2, show plc ns rs j + k - (2 + 5 * rs.length) = gW (ns.take j) + k by unfold plc; omega]
  exact flat_at ns _ hj (by rw [ndW_len]; exact hk) nds_len
theorem pl_get {j : Nat} (hj : j < ns.length) : (plE ns rs)[j]? = some (plc ns rs j) := by
  unfold plE plL
  rw [List.getElem?_map, List.getElem?_range hj]
  rfl
theorem pl_mem {p : Nat} : p ∈ plE ns rs ↔ ∃ j, j < ns.length ∧ p = plc ns rs j := by
  unfold plE plL
  simp only [List.mem_map, List.mem_range]
  exact ⟨fun ⟨j, h1, h2⟩ => ⟨j, h1, h2.symm⟩, fun ⟨j, h1, h2⟩ => ⟨j, h1, h2.symm⟩⟩
theorem plc_lt {j : Nat} (hj : j < ns.length) : plc ns rs j + gsz ns[j] ≤ 2 + 5 * rs.length + gW ns := by
  have := gW_take hj
  have h2 := @gW_le_all ns (j + 1)
  unfold plc
  omega
variable (hg : GoodG ns rs) (hN : 2 + 5 * rs.length + gW ns ≤ 8192)
include hg
theorem enc_len : (encW ns rs).length = 2 + 5 * rs.length + gW ns := encW_len fun r hr => (hg.s r hr).1.2.1
theorem enc_hd {j : Nat} (hj : j < ns.length) : wat (encW ns rs) (plc ns rs j) = packW ns[j].p.length ns[j].d.length false 0 :=
  wat_some ((enc_node (ns := ns) (rs := rs) (fun r hr => (hg.s r hr).1.2.1) hj (k := 0) (by unfold gsz; omega)).trans rfl)
theorem enc_ptr {j k : Nat} (hj : j < ns.length) (hk : k < ns[j].p.length) : wat (encW ns rs) (plc ns rs j + 1 + k) = ptW (plE ns rs) ns[j].p[k] := by
  refine wat_some ?_
  rw [Nat.add_assoc, enc_node (fun r hr => (hg.s r hr).1.2.1) hj (by unfold gsz; omega), Nat.add_comm 1 k]
  unfold ndW
  rw [List.getElem?_cons_succ, List.getElem?_append_left (by simpa using hk), List.getElem?_map, List.getElem?_eq_getElem hk]
  rfl
theorem enc_dat {j k : Nat} (hj : j < ns.length) (hk : k < (ns[j].d.length + 7) / 8) : wat (encW ns rs) (plc ns rs j + 1 + ns[j].p.length + k) = wordV ns[j].d k := by
  refine wat_some ?_
  rw [show plc ns rs j + 1 + ns[j].p.length + k = plc ns rs j + (ns[j].p.length + k + 1) by omega, enc_node (fun r hr => (hg.s r hr).1.2.1) hj (by unfold gsz; omega)]
  unfold ndW
  rw [List.getElem?_cons_succ, List.getElem?_append_right (by simp), List.length_map, show ns[j].p.length + k - ns[j].p.length = k by omega]
  exact wordsV_at _ hk
theorem enc_sz {j : Nat} (hj : j < ns.length) : okW (wat (encW ns rs) (plc ns rs j)) ∧ szW (wat (encW ns rs) (plc ns rs j)) = gsz ns[j] ∧ pN (wat (encW ns rs) (plc ns rs j)) = ns[j].p.length ∧ bN (wat (encW ns rs) (plc ns rs j)) = ns[j].d.length := by
  obtain ⟨_, h1, h2⟩ := hg.x _ (List.getElem_mem hj)
  obtain ⟨_, q1, q2, q3, q4⟩ := pack_v h1 h2
  rw [enc_hd hg hj]
  exact ⟨q1, q2, q3, q4⟩
theorem enc_sc : Sc (wat (encW ns rs)) (encW ns rs).length (2 + 5 * rs.length) (plE ns rs) none := by
  have hl := enc_len hg
  have key : ∀ d j, j + d = ns.length → Sc (wat (encW ns rs)) (encW ns rs).length (plc ns rs j) ((List.range' j d).map (plc ns rs)) none := by
    intro d
    induction d with
    | zero =>
      intro j hj
      have e : plc ns rs j = (encW ns rs).length := by
        rw [hl]
        unfold plc
        rw [List.take_of_length_le (by omega)]
      rw [e]
      exact .done
    | succ d ih =>
      intro j hj
      have hjl : j < ns.length := by omega
      obtain ⟨h1, h2, _, _⟩ := enc_sz hg hjl
      have h3 := plc_lt (ns := ns) (rs := rs) hjl
      have h4 : plc ns rs j + gsz ns[j] = plc ns rs (j + 1) := by
        have := gW_take hjl
        unfold plc
        omega
      rw [List.range'_succ, List.map_cons]
      refine .step h1 (by rw [h2, hl]; exact h3) ?_
      rw [h2, h4]
      exact ih (j + 1) (by omega)
  have := key ns.length 0 (by omega)
  rw [← List.range_eq_range'] at this
  exact this
omit hg in
include hN in
theorem pt_ok {to : Int} (h0 : 0 ≤ to) (h1 : to ≤ ns.length) : PtrOk (plE ns rs) (ptW (plE ns rs) to).toNat := by
  unfold ptW
  by_cases h : to = 0
  · rw [if_pos h]
    exact .inl rfl
  · rw [if_neg h]
    have hj : to.toNat - 1 < ns.length := by omega
    have h3 := plc_lt (ns := ns) (rs := rs) hj
    have h4 : 1 ≤ gsz ns[to.toNat - 1] := by unfold gsz; omega
    rw [List.getD_eq_getElem?_getD, pl_get hj, Option.getD_some, BitVec.toNat_ofNat, Nat.mod_eq_of_lt (by omega)]
    exact .inr ⟨by omega, by omega, pl_mem.2 ⟨_, hj, by omega⟩⟩
include hN in
theorem enc_all : allF (wat (encW ns rs)) (plE ns rs) none = [] := by
  unfold allF
  rw [badF, List.nil_append, List.flatMap_eq_nil_iff]
  intro p hp
  obtain ⟨j, hj, rfl⟩ := pl_mem.1 hp
  obtain ⟨h1, h2, h3, h4⟩ := enc_sz hg hj
  unfold objF
  rw [List.append_eq_nil_iff]
  constructor
  · rw [ptrF_nil]
    intro i hi
    rw [h3] at hi
    rw [enc_ptr hg hj hi]
    obtain ⟨q1, _⟩ := hg.x _ (List.getElem_mem hj)
    have := q1 _ (List.getElem_mem hi)
    exact pt_ok hN this.1 this.2
  · unfold padF
    rw [if_neg]
    rintro ⟨q1, q2⟩
    rw [h2, h4] at q2
    rw [h4] at q1
    refine q2 ?_
    have hk : (ns[j].d.length + 7) / 8 - 1 < (ns[j].d.length + 7) / 8 := by omega
    rw [show plc ns rs j + gsz ns[j] - 1 = plc ns rs j + 1 + ns[j].p.length + ((ns[j].d.length + 7) / 8 - 1) by unfold gsz; omega, enc_dat hg hj hk]
    exact wordV_pad _ q1
theorem enc_name {i : Nat} (hi : i < rs.length) : bytesW (encW ns rs) (8 * (2 + 5 * i)) 32 = padS rs[i].s := by
  have h32 := (hg.s _ (List.getElem_mem hi)).1.2.1
  refine List.ext_getElem (by rw [bytesW_length, padS_len h32]) fun j h1 h2 => ?_
  rw [bytesW_length] at h1
  have e1 : ∀ h : j < (bytesW (encW ns rs) (8 * (2 + 5 * i)) 32).length, (bytesW (encW ns rs) (8 * (2 + 5 * i)) 32)[j]'h = byteW (encW ns rs) (8 * (2 + 5 * i) + j) := fun h => by simp [bytesW]
  have e2 : wat (encW ns rs) (2 + 5 * i + j / 8) = wordV (padS rs[i].s) (j / 8) := by
    refine wat_some ?_
    rw [enc_root (fun r hr => (hg.s r hr).1.2.1) hi (by omega)]
    unfold rtW
    have hl : j / 8 < ((padS rs[i].s).length + 7) / 8 := by rw [padS_len h32]; omega
    rw [List.getElem?_append_left (by rw [wordsV_len]; exact hl), wordsV_at _ hl]
  rw [e1]
  unfold byteW
  rw [show (8 * (2 + 5 * i) + j) / 8 = 2 + 5 * i + j / 8 by omega, show (8 * (2 + 5 * i) + j) % 8 = j % 8 by omega]
  rw [show (encW ns rs).getD (2 + 5 * i + j / 8) c0 = wordV (padS rs[i].s) (j / 8) from e2, wordV_byte _ _ _ (by omega), show 8 * (j / 8) + j % 8 = j by omega, List.getD_eq_getElem?_getD, List.getElem?_eq_getElem h2]
  rfl
theorem enc_rt {i : Nat} (hi : i < rs.length) : wat (encW ns rs) (2 + 5 * i + 4) = ptW (plE ns rs) rs[i].to := by
  have h32 := (hg.s _ (List.getElem_mem hi)).1.2.1
  refine wat_some ?_
  rw [enc_root (fun r hr => (hg.s r hr).1.2.1) hi (by omega)]
  unfold rtW
  rw [List.getElem?_append_right (by rw [wordsV_len, padS_len h32]; decide), wordsV_len, padS_len h32]
  rfl
theorem enc_nm {i : Nat} (hi : i < rs.length) : nameS (encW ns rs) (2 + 5 * i) = rs[i].s ∧ nameB (encW ns rs) (2 + 5 * i) := by
  obtain ⟨⟨h1, h2, h3⟩, _⟩ := hg.s _ (List.getElem_mem hi)
  have hz : z8 ∉ rs[i].s := fun h => h3 _ h rfl
  have e1 : nameS (encW ns rs) (2 + 5 * i) = rs[i].s := by unfold nameS; rw [enc_name hg hi, cut_pad hz]
  refine ⟨e1, ?_⟩
  have hok : nmOk rs[i].s := ⟨h1, h2, hz⟩
  unfold nameB
  rw [e1, enc_name hg hi]
  refine ⟨hok, ?_⟩
  unfold fixN padS
  rw [if_pos hok]
end
theorem bytesLess_as : ∀ x y : List UInt8, Op.bytesLess x y = true → (Op.bytesLess y x || y == x) = false
  | _, [], h => by simp [Op.bytesLess] at h
  | [], b :: y, h => by simp [Op.bytesLess]
  | a :: x, b :: y, h => by
    rw [Op.bytesLess] at h ⊢
    rw [Bool.or_eq_true] at h
    rcases h with h | h
    · have h1 : a < b := by simpa using h
      have h2 : ¬ b < a := by
        intro h3
        exact absurd (UInt8.lt_trans h1 h3) (UInt8.lt_irrefl _)
      have h4 : b ≠ a := by
        rintro rfl
        exact UInt8.lt_irrefl _ h1
      simp [h2, h4]
    · rw [Bool.and_eq_true] at h
      obtain ⟨h1, h2⟩ := h
      have h3 : a = b := eq_of_beq h1
      subst h3
      have := bytesLess_as x y h2
      simp only [Bool.or_eq_false_iff] at this ⊢
      refine ⟨by simp [this.1], ?_⟩
      have h5 := this.2
      simp only [beq_eq_false_iff_ne, ne_eq, List.cons.injEq, true_and] at h5 ⊢
      exact h5
section
variable {ns : List GN} {rs : List GR} (hg : GoodG ns rs) (hN : 2 + 5 * rs.length + gW ns ≤ 8192)
include hg hN
theorem enc_roots : ∀ j, j ≤ rs.length → rootsF (encW ns rs) (plE ns rs) j = [] ∧ lastAt (encW ns rs) j = (if h : 0 < j ∧ j ≤ rs.length then rs[j - 1].s else [])
  | 0, _ => ⟨rfl, by simp [lastAt]⟩
  | j + 1, hj => by
    obtain ⟨ih1, ih2⟩ := enc_roots j (by omega)
    have hi : j < rs.length := by omega
    obtain ⟨e1, e2⟩ := enc_nm hg hi
    obtain ⟨⟨q1, _, _⟩, q4, q5⟩ := hg.s _ (List.getElem_mem hi)
    have hle : leN rs[j].s (lastAt (encW ns rs) j) = false := by
      rw [ih2]
      unfold leN
      by_cases h0 : 0 < j
      · rw [dif_pos ⟨h0, by omega⟩]
        have ho := hg.o (j - 1) (by omega)
        have e3 : rs[j - 1 + 1]'(by omega) = rs[j] := by congr 1; omega
        rw [e3] at ho
        exact bytesLess_as _ _ ho
      · rw [dif_neg (by omega), strOf_list, strOf_list]
        cases hs : rs[j].s with
        | nil => rw [hs] at q1; simp at q1
        | cons c t => simp [Op.bytesLess]
    refine ⟨?_, ?_⟩
    · rw [rootsF, ih1, List.nil_append]
      have hp := pt_ok hN q4 q5
      unfold nmF rtF
      rw [e1, enc_rt hg hi, if_pos hp, if_neg]
      · rfl
      · rintro (h | h)
        · exact h e2
        · rw [hle] at h; cases h
    · rw [lastAt, if_pos e2, e1, dif_pos ⟨by omega, hj⟩]
      rfl
theorem enc_ok : sizeOk (encW ns rs) ∧ nR (encW ns rs) = rs.length ∧ magF (encW ns rs) = [] := by
  have hl := enc_len hg
  have hr := hg.r
  have w0 : wat (encW ns rs) 0 = BitVec.ofNat 64 1296125772 := rfl
  have w1 : wat (encW ns rs) 1 = hdrW rs.length (2 + 5 * rs.length + gW ns) := rfl
  have hN' := hN
  generalize hT : 2 + 5 * rs.length + gW ns = T at *
  have hn : (hdrW rs.length T).toNat = rs.length + T * 65536 := by
    unfold hdrW
    rw [BitVec.toNat_ofNat]
    omega
  have f0 : (fieldB (hdrW rs.length T) 0 16).toNat = _ := field_nat _ (a := 0) (n := 16) (by decide) (by decide)
  have f1 : (fieldB (hdrW rs.length T) 16 32).toNat = _ := field_nat _ (a := 16) (n := 32) (by decide) (by decide)
  have f2 : (fieldB (hdrW rs.length T) 48 16).toNat = _ := field_nat _ (a := 48) (n := 16) (by decide) (by decide)
  rw [hn] at f0 f1 f2
  have hnR : nR (encW ns rs) = rs.length := by
    unfold nR
    rw [w1, f0]
    omega
  refine ⟨⟨by omega, ?_, ?_, by omega, by omega⟩, hnR, ?_⟩
  · apply BitVec.eq_of_toNat_eq
    rw [w1, f2, BitVec.toNat_ofNat]
    omega
  · apply BitVec.eq_of_toNat_eq
    rw [w1, f1, hl, BitVec.toNat_ofNat]
    omega
  · unfold magF
    rw [if_neg]
    rintro (h | h)
    · omega
    · exact h w0
theorem enc_img {os : List Nat} {bad : Option Nat} (h : sizeOk (encW ns rs) → Sc (wat (encW ns rs)) (encW ns rs).length (2 + 5 * nR (encW ns rs)) os bad) : imgG (encW ns rs) os bad = [] := by
  obtain ⟨h1, h2, h3⟩ := enc_ok hg hN
  have hS := h h1
  rw [h2] at hS
  obtain ⟨rfl, rfl⟩ := hS.uniq (enc_sc hg)
  unfold imgG
  rw [h3, if_pos h1, h2, enc_all hg hN, (enc_roots hg hN rs.length (Nat.le_refl _)).1]
  rfl
end
end Go.Proofs.Ytdpmidgeipibbaa
end
section
set_option linter.unusedVariables false
set_option linter.unusedSimpArgs false
set_option maxHeartbeats 4000000
namespace Go.Proofs.Ytdpmidgeipibbaa
open Go.Sh Go.RowKit

def setsK (ws : List (BitVec 64)) (i : Nat) (l : List (BitVec 64)) : Nat → List (BitVec 64)
  | 0 => ws
  | k + 1 => (setsK ws i l k).set (i + k) (l.getD k c0)
theorem setsK_len (ws : List (BitVec 64)) (i : Nat) (l : List (BitVec 64)) : ∀ k, (setsK ws i l k).length = ws.length
  | 0 => rfl
  | k + 1 => by rw [setsK, List.length_set, setsK_len ws i l k]
theorem wat_setsK (ws : List (BitVec 64)) (i : Nat) (l : List (BitVec 64)) (j : Nat) : ∀ k, i + k ≤ ws.length → wat (setsK ws i l k) j = if i ≤ j ∧ j < i + k then l.getD (j - i) c0 else wat ws j
  | 0, _ => by rw [if_neg (by omega)]; rfl
  | k + 1, h => by
    rw [setsK, wat_set (by rw [setsK_len]; omega), wat_setsK ws i l j k (by omega)]
    by_cases e : j = i + k
    · subst e
      rw [if_pos rfl, if_pos (by omega), show i + k - i = k by omega]
    · rw [if_neg e]
      by_cases h2 : i ≤ j ∧ j < i + k
      · rw [if_pos h2, if_pos (by omega)]
      · rw [if_neg h2, if_neg (by omega)]
theorem wat_setB {ws : List (BitVec 64)} {q : Nat} {l : List (BitVec 8)} (h : q * 8 + l.length ≤ 8 * ws.length) (hz : ∀ i, q ≤ i → i < q + (l.length + 7) / 8 → wat ws i = c0) (i : Nat) :
    wat (setBytesW ws (q * 8) l) i = if q ≤ i ∧ i < q + (l.length + 7) / 8 then wordV l (i - q) else wat ws i := by
  by_cases hi : q ≤ i ∧ i < q + (l.length + 7) / 8
  · rw [if_pos hi]
    apply BitVec.eq_of_getLsbD_eq
    intro k hk
    have hb := byte_set (ws := ws) (at' := q * 8) (l := l) (j := 8 * i + k / 8) h
    have h0 : byteW ws (8 * i + k / 8) = BitVec.ofNat 8 0 := byte_zero (by rw [show (8 * i + k / 8) / 8 = i by omega]; exact hz i hi.1 hi.2)
    rw [h0] at hb
    have h1 := congrArg (fun x => x.getLsbD (k % 8)) hb
    have hk8 : k % 8 < 8 := by omega
    simp only [byteW, BitVec.getLsbD_setWidth, BitVec.getLsbD_ushiftRight, hk8, decide_true, Bool.true_and] at h1
    rw [show (8 * i + k / 8) / 8 = i by omega, show 8 * ((8 * i + k / 8) % 8) + k % 8 = k by omega] at h1
    have h2 : wat (setBytesW ws (q * 8) l) i = (setBytesW ws (q * 8) l).getD i c0 := rfl
    rw [h2, h1, wordV_bit _ _ _ hk]
    by_cases h3 : q * 8 ≤ 8 * i + k / 8 ∧ 8 * i + k / 8 < q * 8 + l.length
    · rw [if_pos h3, show 8 * i + k / 8 - q * 8 = 8 * (i - q) + k / 8 by omega]
    · rw [if_neg h3, List.getD_eq_getElem?_getD (l := l), List.getElem?_eq_none (by omega)]
      rfl
  · rw [if_neg hi]
    exact wat_set_bytes h (by omega)
section
variable {w : World} {base g : Nat} {a : Option Addr} {c : Nat} {ws : List (BitVec 64)}
abbrev rsImg1_0 := (And.intro @xu8_add (And.intro @xu8_sub (And.intro @xu8_eql (And.intro @xu16_add (And.intro @xu16_sub (And.intro @xu16_eql (And.intro @xu32_add (And.intro @xu32_sub (And.intro @xu32_eql (And.intro @xu64_add (And.intro @xu64_sub (And.intro @xu64_eql (And.intro @xi64_eql (And.intro @ld_3 (And.intro @ld_66 (And.intro @cv_3_69 @ia_66))))))))))))))))
theorem to_spec {w : World} (pl : List Nat) (pb : Nat) (ap : Option Addr) (cp : Nat) (p : Int) (hc : w.cell? ⟨pb, 0, none⟩ = some (.slice ap pl.length cp)) (hr : RowAt w ap (nums pl)) (h0 : 0 ≤ p) (h1 : p ≤ pl.length) (hl : pl.length ≤ 1000000) (hb : ∀ q ∈ pl, q ≤ 1000000) : Gives Try.prog n_image_Encode_1 #[i64 p, ptr pb] w (u64 (ptW pl p)) := by
  refine image_Encode_1_of ?_
  unfold image_Encode_1 ptW
  by_cases hp : p = 0
  · subst hp
    rw [if_pos rfl]
    simp (disch := (first | omega | decide | (simp only [rsD] <;> omega) | fail)) only [↓rsC, rsK, rsL, ↓rsImg1_0, tick_eq, tickV_eq, ne_eq, Int.reduceAdd, Int.reduceSub, Int.reduceMul, Int.reduceEq, Int.reduceLT, Int.reduceLE, Int.reduceToNat, Nat.reduceMul, Nat.reduceAdd, Nat.reduceSub, ←decide_not, eq_self]
    exact ⟨by trivial, Ext.refl _ _⟩
  · rw [if_neg hp]
    have hj : p.toNat - 1 < pl.length := by omega
    obtain ⟨b5, o5, rfl, z5, k5⟩ := hr.at (i := p.toNat - 1) (by simpa using hj)
    simp only [List.getElem_map] at k5
    have hb2 := hb _ (List.getElem_mem hj)
    have t1 : (p - 1).toNat = p.toNat - 1 := by omega
    have e2 : BitVec.ofInt 64 ((pl[p.toNat - 1] : Int) + 1) = BitVec.ofNat 64 (pl[p.toNat - 1] + 1) := by
      rw [show (pl[p.toNat - 1] : Int) + 1 = ((pl[p.toNat - 1] + 1 : Nat) : Int) by omega, BitVec.ofInt_natCast]
    rw [List.getD_eq_getElem?_getD, List.getElem?_eq_getElem hj, Option.getD_some]
    simp (disch := (first | omega | decide | (simp only [rsD] <;> omega) | fail)) only [↓rsC, rsK, rsL, ↓rsImg1_0, tick_eq, tickV_eq, ne_eq, Int.reduceAdd, Int.reduceSub, Int.reduceMul, Int.reduceEq, Int.reduceLT, Int.reduceLE, Int.reduceToNat, Nat.reduceMul, Nat.reduceAdd, Nat.reduceSub, ←decide_not, hc, t1, k5, e2]
    exact ⟨by trivial, Ext.refl _ _⟩
abbrev rsImg1_1 := (And.intro @xu8_add (And.intro @xu8_mul (And.intro @xu16_add (And.intro @xu16_mul (And.intro @xu32_add (And.intro @xu32_mul (And.intro @xu64_add (And.intro @xu64_mul @al_157))))))))
theorem iroot_spec {s : List (BitVec 8)} (h : MemIs w base g a c ws) (hs : nmOk s) (at' : Nat) (hat : at' + 5 ≤ ws.length) (to : BitVec 64) : Yld Try.prog n_image_root #[ptr g, i64 (at' : Int), .string (strOf s), u64 to] w fun u w' => Ext (blkOf a) w w' ∧ MemIs w' base g a c ((setBytesW ws (at' * 8) (padS s)).set (at' + 4) to) := by
  have hl := h.len
  have hf : fixN s = padS s := by unfold fixN padS; rw [if_pos hs]
  have h32 : (padS s).length = 32 := padS_len hs.2.1
  have hsl := fun (a : Addr) (w : World) (K : K1) => xSlice_arr (P := Try.prog) (t := 157) (n := 32) (a := a) (w := w) (K := K) (by kernel_rfl) (by kernel_rfl) (by kernel_rfl) (by decide)
  have one : ∀ l' : List (BitVec 8), ∀ v ∈ bys l', v.oneCell' = true := fun l' v hv => by
    obtain ⟨c, _, rfl⟩ := List.mem_map.1 hv; rfl
  have lst : ((Try.prog).info? 157).map (·.size) = some (bys (padS s)).length := by
    rw [List.length_map, h32]; kernel_rfl
  refine image_root_of ?_
  unfold image_root
  refine table_Fix_call (Gives.to (Fix_spec s w) fun w1 F1 => ?_)
  rw [hf]
  have h1 := h.ext0 F1
  simp (disch := (first | omega | decide | (simp only [rsD] <;> omega) | fail)) only [↓rsC, rsK, rsL, ↓rsImg1_1, tick_eq, tickV_eq, ne_eq, Int.reduceAdd, Int.reduceSub, Int.reduceMul, Int.reduceEq, Int.reduceLT, Int.reduceLE, Int.reduceToNat, Nat.reduceMul, Nat.reduceAdd, Nat.reduceSub, ←decide_not, eq_self]
  rw [z32]
  have B : Blk (w1.alloc (.cells (bys (List.replicate 32 z8)).toArray 157)) w1.heap.size 157 (bys (List.replicate 32 z8)) := Blk.at rfl
  have X : Ext [] w1 (w1.alloc (.cells (bys (List.replicate 32 z8)).toArray 157)) := Ext.alloc _ _ _
  have h2 := h1.ext0 X
  have hblt := fun hw => h1.blt hw
  have zg := h1.lt
  generalize w1.alloc (.cells (bys (List.replicate 32 z8)).toArray 157) = w2 at *
  generalize hn : w1.heap.size = nb at *
  have hst := fun (K : K1) => xStore_arr (P := Try.prog) (K := K) lst B (by simp [h32]) (one _)
  have B2 := B.put (cs := bys (padS s)) (by simp [h32])
  have X2 : Ext [nb] w2 (w2.setCells nb 0 (bys (padS s))) := Ext.sets (Ext.refl _ _) (.inl (by simp))
  have h3 := h2.ext X2 (by simp only [List.mem_singleton]; omega) (fun hw y hy hm => by simp only [List.mem_singleton] at hm; have := hblt hw y hy; omega)
  have e1 : (at' : Int) * 8 = ((at' * 8 : Nat) : Int) := by omega
  have e4 : (at' : Int) + 4 = ((at' + 4 : Nat) : Int) := by omega
  have X3 : Ext [] w (w2.setCells nb 0 (bys (padS s))) := (F1.trans X).sets (.inr (by have := F1.size; omega))
  have R3 := B2.row
  simp (disch := (first | omega | decide | (simp only [rsD] <;> omega) | fail)) only [↓rsC, rsK, rsL, ↓rsImg1_1, tick_eq, tickV_eq, ne_eq, Int.reduceAdd, Int.reduceSub, Int.reduceMul, Int.reduceEq, Int.reduceLT, Int.reduceLE, Int.reduceToNat, Nat.reduceMul, Nat.reduceAdd, Nat.reduceSub, ←decide_not, hst, hsl, e1]
  generalize w2.setCells nb 0 (bys (padS s)) = w3 at *
  have hsb := SetBytes_ok (at' * 8) (padS s) (some ⟨nb, 0, none⟩) 32 h3 R3 (fun hw _ b o hb hm => by
    cases hb
    have := hblt hw _ hm
    omega) (by omega)
  rw [h32] at hsb
  refine mem_Mem_SetBytes_call (Yld.mono hsb ?_)
  rintro u w4 ⟨rfl, F4, h4⟩
  simp (disch := (first | omega | decide | (simp only [rsD] <;> omega) | fail)) only [↓rsC, rsK, rsL, ↓rsImg1_1, tick_eq, tickV_eq, ne_eq, Int.reduceAdd, Int.reduceSub, Int.reduceMul, Int.reduceEq, Int.reduceLT, Int.reduceLE, Int.reduceToNat, Nat.reduceMul, Nat.reduceAdd, Nat.reduceSub, ←decide_not, hst, hsl, e1, e4]
  refine mem_Mem_Set_call (Yld.mono (Set_ok (at' + 4) to h4 (by rw [setBytesW_length]; omega)) ?_)
  rintro u w5 ⟨rfl, F5, h5⟩
  exact ⟨(X3.more (by simp)).trans (F4.trans F5), h5⟩
abbrev rsImg1_2 := (And.intro @xu8_add (And.intro @xu8_mul (And.intro @xu8_lss (And.intro @xu16_add (And.intro @xu16_mul (And.intro @xu16_lss (And.intro @xu32_add (And.intro @xu32_mul (And.intro @xu32_lss (And.intro @xu64_add (And.intro @xu64_mul (And.intro @xu64_lss (And.intro @xi64_lss (And.intro @ld_3 (And.intro @ld_66 (And.intro @ld_70 (And.intro @fa_72_0 
  (And.intro @fa_72_1 (And.intro @ia_66 @ln_66)))))))))))))))))))
theorem inode_spec (h : MemIs w base g a c ws) (x : GN) (pl : List Nat) (pb : Nat) (ap : Option Addr) (cp at' : Nat) (hl : pl.length ≤ 1000000) (hb : ∀ q ∈ pl, q ≤ 1000000) (hp : ∀ p ∈ x.p, 0 ≤ p ∧ p ≤ pl.length)
    (hK : ∀ w', Ext (blkOf a) w w' → NOk w' x ∧ w'.cell? ⟨pb, 0, none⟩ = some (.slice ap pl.length cp) ∧ RowAt w' ap (nums pl)) (hap : x.d ≠ [] → ∀ b o, x.da = some ⟨b, o, none⟩ → b ∉ blkOf a) (hat : at' + 1 + x.p.length + (x.d.length + 7) / 8 ≤ ws.length) :
    Yld Try.prog n_image_node #[ptr g, i64 (at' : Int), .agg (gnC x).toArray, .func (.func n_image_Encode_1) #[] #[ptr pb]] w fun u w' => Ext (blkOf a) w w' ∧ MemIs w' base g a c (setBytesW (setsK ws (at' + 1) (x.p.map (ptW pl)) x.p.length) ((at' + 1 + x.p.length) * 8) x.d) := by
  have hwl := h.len
  refine image_node_of ?_
  unfold image_node
  simp (disch := (first | omega | decide | (simp only [rsD] <;> omega) | fail)) only [↓rsC, rsK, rsL, ↓rsImg1_2, tick_eq, tickV_eq, ne_eq, Int.reduceAdd, Int.reduceSub, Int.reduceMul, Int.reduceEq, Int.reduceLT, Int.reduceLE, Int.reduceToNat, Nat.reduceMul, Nat.reduceAdd, Nat.reduceSub, ←decide_not, eq_self]
  have B : Blk (w.alloc (.cells #[.slice x.pa x.p.length x.pc, .slice x.da x.d.length x.dc] 72)) w.heap.size 72 [.slice x.pa x.p.length x.pc, .slice x.da x.d.length x.dc] := Blk.at rfl
  have X : Ext [] w (w.alloc (.cells #[.slice x.pa x.p.length x.pc, .slice x.da x.d.length x.dc] 72)) := Ext.alloc _ _ _
  have h1 := h.ext0 X
  have hblt := fun hw => h.blt hw
  generalize w.alloc (.cells #[.slice x.pa x.p.length x.pc, .slice x.da x.d.length x.dc] 72) = y at *
  have hnb : w.heap.size ∉ blkOf a := fun hm => by
    by_cases hw : ws = []
    · subst hw; simp at hat
    · have := hblt hw _ hm; omega
  generalize w.heap.size = nb at *
  have Xa : Ext (blkOf a) w y := X.more (by simp)
  refine xLoop_n x.p.length (fun k => [i64 (k : Int)]) (fun k w' => Ext (blkOf a) y w' ∧ MemIs w' base g a c (setsK ws (at' + 1) (x.p.map (ptW pl)) k)) rfl ⟨Ext.refl _ _, h1⟩ ?_ ?_
  · rintro k hk u w2 hu ⟨F2, h2⟩ nxt hnx
    simp only [List.map_cons, List.map_nil, List.cons.injEq, and_true] at hu
    rw [hu]
    obtain ⟨hx2, hc2, hr2⟩ := hK w2 (Xa.trans F2)
    obtain ⟨b3, o3, ha3, z3, c3⟩ := its_at hx2.pr hk
    have hpk := hp _ (List.getElem_mem hk)
    have e1 : (at' : Int) + 1 + (k : Int) = ((at' + 1 + k : Nat) : Int) := by omega
    unfold image_node_l1
    simp (disch := (first | omega | decide | (simp only [rsD] <;> omega) | fail)) only [↓rsC, rsK, rsL, ↓rsImg1_2, tick_eq, tickV_eq, ne_eq, Int.reduceAdd, Int.reduceSub, Int.reduceMul, Int.reduceEq, Int.reduceLT, Int.reduceLE, Int.reduceToNat, Nat.reduceMul, Nat.reduceAdd, Nat.reduceSub, ←decide_not, ha3, c3, e1]
    refine image_Encode_1_callc (Gives.to (to_spec pl pb ap cp x.p[k] hc2 hr2 hpk.1 hpk.2 hl hb) fun w3 F3 => ?_)
    have h3 := h2.ext0 F3
    refine mem_Mem_Set_call (Yld.mono (Set_ok (at' + 1 + k) (ptW pl x.p[k]) h3 (by rw [setsK_len]; omega)) ?_)
    rintro u w4 ⟨rfl, F4, h4⟩
    simp (disch := (first | omega | decide | (simp only [rsD] <;> omega) | fail)) only [↓rsC, rsK, rsL, ↓rsImg1_2, tick_eq, tickV_eq, ne_eq, Int.reduceAdd, Int.reduceSub, Int.reduceMul, Int.reduceEq, Int.reduceLT, Int.reduceLE, Int.reduceToNat, Nat.reduceMul, Nat.reduceAdd, Nat.reduceSub, ←decide_not, ha3, c3, e1]
    have es : (setsK ws (at' + 1) (x.p.map (ptW pl)) k).set (at' + 1 + k) (ptW pl x.p[k]) = setsK ws (at' + 1) (x.p.map (ptW pl)) (k + 1) := by
      rw [setsK, List.getD_eq_getElem?_getD, List.getElem?_map, List.getElem?_eq_getElem hk]
      rfl
    rw [es] at h4
    exact hnx _ ⟨F2.trans ((F3.more (by simp)).trans F4), h4⟩
  · rintro u w2 hu ⟨F2, h2⟩ nxt
    simp only [List.map_cons, List.map_nil, List.cons.injEq, and_true] at hu
    rw [hu]
    obtain ⟨hx2, _, _⟩ := hK w2 (Xa.trans F2)
    have k2 := fun i => (B.ext F2 hnb).cell (i := i)
    have e1 : ((at' : Int) + 1 + (x.p.length : Int)) * 8 = (((at' + 1 + x.p.length) * 8 : Nat) : Int) := by omega
    unfold image_node_l1
    simp (disch := (first | omega | decide | (simp only [rsD] <;> omega) | fail)) only [↓rsC, rsK, rsL, ↓rsImg1_2, tick_eq, tickV_eq, ne_eq, Int.reduceAdd, Int.reduceSub, Int.reduceMul, Int.reduceEq, Int.reduceLT, Int.reduceLE, Int.reduceToNat, Nat.reduceMul, Nat.reduceAdd, Nat.reduceSub, ←decide_not, k2, e1]
    refine mem_Mem_SetBytes_call (Yld.mono (SetBytes_ok ((at' + 1 + x.p.length) * 8) x.d x.da x.dc h2 hx2.dr (fun _ hd => hap hd) (by rw [setsK_len]; omega)) ?_)
    rintro u w3 ⟨rfl, F3, h3⟩
    exact ⟨Xa.trans (F2.trans F3), h3⟩
end
end Go.Proofs.Ytdpmidgeipibbaa
end
section
set_option linter.unusedVariables false
set_option linter.unusedSimpArgs false
set_option maxHeartbeats 4000000
namespace Go.Proofs.Ytdpmidgeipibbaa
open Go.Sh Go.RowKit

structure PhI (ns : List GN) (rs : List GR) (D : Nat → Prop) (ws : List (BitVec 64)) : Prop where
  len : ws.length = 2 + 5 * rs.length + gW ns
  yes : ∀ i, i < ws.length → D i → wat ws i = wat (encW ns rs) i
  no : ∀ i, i < ws.length → ¬ D i → wat ws i = c0
section
variable {ns : List GN} {rs : List GR}
theorem gW_mono {k j : Nat} (h : k ≤ j) : gW (ns.take k) ≤ gW (ns.take j) := by
  have e : ns.take k = (ns.take j).take k := by rw [List.take_take, Nat.min_eq_left h]
  rw [e]
  exact gW_le_all
theorem plc_mono {k j : Nat} (h : k ≤ j) : plc ns rs k ≤ plc ns rs j := by
  have := gW_mono (ns := ns) h
  unfold plc
  omega
theorem plc_step {j : Nat} (hj : j < ns.length) : plc ns rs (j + 1) = plc ns rs j + gsz ns[j] := by
  have := gW_take hj
  unfold plc
  omega
theorem plc_end : plc ns rs ns.length = 2 + 5 * rs.length + gW ns := by unfold plc; rw [List.take_length]
theorem plc_ge {j : Nat} : 2 + 5 * rs.length ≤ plc ns rs j := by unfold plc; omega
theorem plc_not {j k i : Nat} (hj : j < ns.length) (h1 : plc ns rs j < i) (h2 : i < plc ns rs (j + 1)) : i ≠ plc ns rs k := by
  rintro rfl
  rcases Nat.lt_or_ge j k with h | h
  · have := plc_mono (ns := ns) (rs := rs) (show j + 1 ≤ k from h)
    omega
  · have := plc_mono (ns := ns) (rs := rs) h
    omega
theorem PhI.congr {D D' : Nat → Prop} {ws : List (BitVec 64)} (h : PhI ns rs D ws) (e : ∀ i, i < ws.length → (D i ↔ D' i)) : PhI ns rs D' ws :=
  ⟨h.len, fun i hi hd => h.yes i hi ((e i hi).2 hd), fun i hi hd => h.no i hi (fun h2 => hd ((e i hi).1 h2))⟩
theorem ph_zero : PhI ns rs (fun _ => False) (List.replicate (2 + 5 * rs.length + gW ns) c0) :=
  ⟨by simp, fun _ _ h => h.elim, fun i _ _ => wat_rep⟩
variable (hg : GoodG ns rs)
include hg
omit hg in
theorem ph_head {ws : List (BitVec 64)} (h : PhI ns rs (fun _ => False) ws) : PhI ns rs (fun i => i < 2) ((ws.set 0 (BitVec.ofNat 64 1296125772)).set 1 (hdrW rs.length (2 + 5 * rs.length + gW ns))) := by
  have hl := h.len
  have hw : ∀ i, wat ((ws.set 0 (BitVec.ofNat 64 1296125772)).set 1 (hdrW rs.length (2 + 5 * rs.length + gW ns))) i = if i = 1 then hdrW rs.length (2 + 5 * rs.length + gW ns) else if i = 0 then BitVec.ofNat 64 1296125772 else wat ws i := fun i => by
    rw [wat_set (by simp; omega), wat_set (by omega)]
  refine ⟨by simpa using hl, fun i hi hd => ?_, fun i hi hd => ?_⟩
  · rw [hw]
    have : i = 0 ∨ i = 1 := by omega
    rcases this with rfl | rfl
    · rfl
    · rfl
  · rw [hw, if_neg (by omega), if_neg (by omega)]
    exact h.no i (by simpa using hi) (fun h => h)
theorem ph_alloc {ws : List (BitVec 64)} {j : Nat} (hj : j < ns.length) (h : PhI ns rs (fun i => i < 2 ∨ ∃ k, k < j ∧ i = plc ns rs k) ws) :
    PhI ns rs (fun i => i < 2 ∨ ∃ k, k < j + 1 ∧ i = plc ns rs k) (alW ws (plc ns rs j) (packW ns[j].p.length ns[j].d.length false 0) (gsz ns[j])) := by
  have hl := h.len
  have h3 := plc_lt (ns := ns) (rs := rs) hj
  have h4 : 1 ≤ gsz ns[j] := by unfold gsz; omega
  have h5 := plc_step (ns := ns) (rs := rs) hj
  have h6 := plc_ge (ns := ns) (rs := rs) (j := j)
  have hw := fun i => wat_alW (ws := ws) (t := plc ns rs j) (n := gsz ns[j]) (i := i) (x := packW ns[j].p.length ns[j].d.length false 0) (by omega)
  refine ⟨by simpa using hl, fun i hi hd => ?_, fun i hi hd => ?_⟩
  · rw [alW_length] at hi
    rw [hw]
    by_cases e : i = plc ns rs j
    · rw [if_pos e, e, enc_hd hg hj]
    · have hD : i < 2 ∨ ∃ k, k < j ∧ i = plc ns rs k := by
        rcases hd with hd | ⟨k, hk, rfl⟩
        · exact .inl hd
        · refine .inr ⟨k, ?_, rfl⟩
          rcases Nat.lt_or_ge k j with q | q
          · exact q
          · exact absurd (by rw [show k = j by omega]) e
      rw [if_neg e, if_neg, h.yes i hi hD]
      rintro ⟨q1, q2⟩
      rcases hD with q | ⟨k, _, q⟩
      · omega
      · exact plc_not hj (by omega) (by omega) q
  · rw [alW_length] at hi
    rw [hw, if_neg (fun e => hd (.inr ⟨j, by omega, e⟩))]
    split
    · rfl
    · refine h.no i hi fun q => hd ?_
      rcases q with q | ⟨k, hk, q⟩
      · exact .inl q
      · exact .inr ⟨k, by omega, q⟩
theorem ph_node {ws : List (BitVec 64)} {j : Nat} (hj : j < ns.length) (h : PhI ns rs (fun i => i < 2 ∨ (∃ k, k < ns.length ∧ i = plc ns rs k) ∨ (2 + 5 * rs.length ≤ i ∧ i < plc ns rs j)) ws) :
    PhI ns rs (fun i => i < 2 ∨ (∃ k, k < ns.length ∧ i = plc ns rs k) ∨ (2 + 5 * rs.length ≤ i ∧ i < plc ns rs (j + 1))) (setBytesW (setsK ws (plc ns rs j + 1) (ns[j].p.map (ptW (plE ns rs))) ns[j].p.length) ((plc ns rs j + 1 + ns[j].p.length) * 8) ns[j].d) := by
  have hl := h.len
  have h3 := plc_lt (ns := ns) (rs := rs) hj
  have h5 := plc_step (ns := ns) (rs := rs) hj
  have h6 := plc_ge (ns := ns) (rs := rs) (j := j)
  have hz : gsz ns[j] = 1 + ns[j].p.length + (ns[j].d.length + 7) / 8 := rfl
  have hno : ∀ i, plc ns rs j < i → i < plc ns rs (j + 1) → wat ws i = c0 := fun i q1 q2 => h.no i (by omega) (by
    rintro (q | ⟨k, _, q⟩ | q)
    · omega
    · exact plc_not hj q1 q2 q
    · omega)
  have hw : ∀ i, wat (setBytesW (setsK ws (plc ns rs j + 1) (ns[j].p.map (ptW (plE ns rs))) ns[j].p.length) ((plc ns rs j + 1 + ns[j].p.length) * 8) ns[j].d) i = if plc ns rs j + 1 + ns[j].p.length ≤ i ∧ i < plc ns rs j + 1 + ns[j].p.length + (ns[j].d.length + 7) / 8 then wordV ns[j].d (i - (plc ns rs j + 1 + ns[j].p.length)) else if plc ns rs j + 1 ≤ i ∧ i < plc ns rs j + 1 + ns[j].p.length then (ns[j].p.map (ptW (plE ns rs))).getD (i - (plc ns rs j + 1)) c0 else wat ws i := fun i => by
    rw [wat_setB (by rw [setsK_len]; omega) (fun i q1 q2 => by
      rw [wat_setsK _ _ _ _ _ (by omega), if_neg (by omega)]
      exact hno i (by omega) (by omega)), wat_setsK _ _ _ _ _ (by omega)]
  refine ⟨by rw [setBytesW_length, setsK_len]; exact hl, fun i hi hd => ?_, fun i hi hd => ?_⟩
  · rw [setBytesW_length, setsK_len] at hi
    rw [hw]
    by_cases q1 : plc ns rs j + 1 + ns[j].p.length ≤ i ∧ i < plc ns rs j + 1 + ns[j].p.length + (ns[j].d.length + 7) / 8
    · rw [if_pos q1]
      have := enc_dat hg hj (k := i - (plc ns rs j + 1 + ns[j].p.length)) (by omega)
      rw [show plc ns rs j + 1 + ns[j].p.length + (i - (plc ns rs j + 1 + ns[j].p.length)) = i by omega] at this
      exact this.symm
    · rw [if_neg q1]
      by_cases q2 : plc ns rs j + 1 ≤ i ∧ i < plc ns rs j + 1 + ns[j].p.length
      · rw [if_pos q2]
        have hk : i - (plc ns rs j + 1) < ns[j].p.length := by omega
        have := enc_ptr hg hj hk
        rw [show plc ns rs j + 1 + (i - (plc ns rs j + 1)) = i by omega] at this
        rw [this, List.getD_eq_getElem?_getD, List.getElem?_map, List.getElem?_eq_getElem hk]
        rfl
      · rw [if_neg q2]
        refine h.yes i hi ?_
        rcases hd with q | q | ⟨q3, q4⟩
        · exact .inl q
        · exact .inr (.inl q)
        · by_cases q5 : i = plc ns rs j
          · exact .inr (.inl ⟨j, hj, q5⟩)
          · exact .inr (.inr ⟨q3, by omega⟩)
  · rw [setBytesW_length, setsK_len] at hi
    have hni : ¬ (plc ns rs j ≤ i ∧ i < plc ns rs (j + 1)) := fun q => hd (.inr (.inr ⟨by omega, q.2⟩))
    rw [hw, if_neg (by omega), if_neg (by omega)]
    refine h.no i hi fun q => hd ?_
    rcases q with q | q | ⟨q3, q4⟩
    · exact .inl q
    · exact .inr (.inl q)
    · exact .inr (.inr ⟨q3, by omega⟩)
theorem ph_root {ws : List (BitVec 64)} {j : Nat} (hj : j < rs.length) (h : PhI ns rs (fun i => i < 2 + 5 * j ∨ 2 + 5 * rs.length ≤ i) ws) :
    PhI ns rs (fun i => i < 2 + 5 * (j + 1) ∨ 2 + 5 * rs.length ≤ i) ((setBytesW ws ((2 + 5 * j) * 8) (padS rs[j].s)).set (2 + 5 * j + 4) (ptW (plE ns rs) rs[j].to)) := by
  have hl := h.len
  have h32 : (padS rs[j].s).length = 32 := padS_len (hg.s _ (List.getElem_mem hj)).1.2.1
  have hw : ∀ i, wat ((setBytesW ws ((2 + 5 * j) * 8) (padS rs[j].s)).set (2 + 5 * j + 4) (ptW (plE ns rs) rs[j].to)) i = if i = 2 + 5 * j + 4 then ptW (plE ns rs) rs[j].to else if 2 + 5 * j ≤ i ∧ i < 2 + 5 * j + 4 then wordV (padS rs[j].s) (i - (2 + 5 * j)) else wat ws i := fun i => by
    rw [wat_set (by rw [setBytesW_length]; omega), wat_setB (by omega) (fun i q1 q2 => h.no i (by omega) (by omega)), h32]
  refine ⟨by rw [List.length_set, setBytesW_length]; exact hl, fun i hi hd => ?_, fun i hi hd => ?_⟩
  · rw [List.length_set, setBytesW_length] at hi
    rw [hw]
    by_cases q1 : i = 2 + 5 * j + 4
    · rw [if_pos q1, q1, enc_rt hg hj]
    · rw [if_neg q1]
      by_cases q2 : 2 + 5 * j ≤ i ∧ i < 2 + 5 * j + 4
      · rw [if_pos q2]
        symm
        refine wat_some ?_
        rw [show i = 2 + 5 * j + (i - (2 + 5 * j)) by omega, enc_root (fun r hr => (hg.s r hr).1.2.1) hj (by omega)]
        unfold rtW
        have hlw : i - (2 + 5 * j) < ((padS rs[j].s).length + 7) / 8 := by rw [h32]; omega
        rw [List.getElem?_append_left (by rw [wordsV_len]; exact hlw), wordsV_at _ hlw]
        congr 2
        omega
      · rw [if_neg q2]
        exact h.yes i hi (by omega)
  · rw [List.length_set, setBytesW_length] at hi
    rw [hw, if_neg (by omega), if_neg (by omega)]
    exact h.no i hi (by omega)
omit hg in
theorem ph_mid {ws : List (BitVec 64)} (h : PhI ns rs (fun i => i < 2 ∨ ∃ k, k < ns.length ∧ i = plc ns rs k) ws) : PhI ns rs (fun i => i < 2 ∨ (∃ k, k < ns.length ∧ i = plc ns rs k) ∨ (2 + 5 * rs.length ≤ i ∧ i < plc ns rs 0)) ws :=
  h.congr fun i _ => by
    have e : plc ns rs 0 = 2 + 5 * rs.length := by unfold plc; simp [gW]
    constructor
    · rintro (q | q)
      · exact .inl q
      · exact .inr (.inl q)
    · rintro (q | q | q)
      · exact .inl q
      · exact .inr q
      · omega
omit hg in
theorem ph_mid2 {ws : List (BitVec 64)} (h : PhI ns rs (fun i => i < 2 ∨ (∃ k, k < ns.length ∧ i = plc ns rs k) ∨ (2 + 5 * rs.length ≤ i ∧ i < plc ns rs ns.length)) ws) : PhI ns rs (fun i => i < 2 + 5 * 0 ∨ 2 + 5 * rs.length ≤ i) ws :=
  h.congr fun i hi => by
    have hl := h.len
    rw [plc_end]
    constructor
    · rintro (q | ⟨k, hk, q⟩ | q)
      · exact .inl (by omega)
      · have := plc_ge (ns := ns) (rs := rs) (j := k)
        exact .inr (by omega)
      · exact .inr (by omega)
    · rintro (q | q)
      · exact .inl (by omega)
      · exact .inr (.inr ⟨q, by omega⟩)
theorem ph_end {ws : List (BitVec 64)} (h : PhI ns rs (fun i => i < 2 + 5 * rs.length ∨ 2 + 5 * rs.length ≤ i) ws) : ws = encW ns rs := by
  have hl := h.len
  have hE := enc_len hg
  refine List.ext_getElem (by omega) fun i h1 h2 => ?_
  have := h.yes i h1 (by omega)
  unfold wat at this
  rw [List.getD_eq_getElem?_getD, List.getElem?_eq_getElem h1, List.getD_eq_getElem?_getD, List.getElem?_eq_getElem h2] at this
  exact this
end
end Go.Proofs.Ytdpmidgeipibbaa
end
