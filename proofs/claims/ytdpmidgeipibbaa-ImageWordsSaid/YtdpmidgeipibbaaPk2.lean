/- Whether a graph may be: by the program and by the document, and why not (sq). A graph's words, counted; bytes as words; places (sq). Whether a graph may be, by the document: exactly; how many words it takes, by the program (sq). A graph in words, by the document (sq). What the functions on objects compute, where all is well (sq). What it is for objects to be well (sq). What is wrong in words that should be objects (sq). Looking at words that should be objects: what the program finds (sq). Looking at words that should be objects: all of them (sq). Looking at words that should be objects: each object, and a space (sq). Looking at spaces and images: what the program finds (sq). Looking at images without names (sq). The document's word on whether objects are well (sq). The document's findings in words that should be objects (sq). A Root's name in an image, read by the program and by the document (sq). What the statements on spaces call (sq). A space out of words, or none (sq). The statement on looking at spaces, walked (sq). Looking at any image: what the program finds (sq). A word is its eight bytes; two objects that are written (sq). What a graph's words are, word by word; in them nothing is wrong. A graph in words, by the program: a name, a node (sq). A graph's words, as the program fills them in. A graph in words, by the program (sq). Looking for a number in a rising row; are two rows of words the same; an image's reader (sq). An image's reader reads a node (sq). What an image's words are read as, and what its graph's words are. Words with nothing wrong are those of the graph that they are read as. -/
import Derived.Test.YtdpmidgeipibbaaPk1
import Derived.Test.YtdpmidgeipibbaaEng15
section
set_option linter.unusedVariables false
set_option linter.unusedSimpArgs false
set_option maxHeartbeats 4000000
namespace Go.Proofs.Ytdpmidgeipibbaa
open Go.Sh Go.RowKit

/-- a graph that is not too big to be looked at -/
structure FewH (ns : List GN) (rs : List GR) : Prop where
  n : ns.length ≤ 9000
  r : rs.length ≤ 9000
  x : ∀ x ∈ ns, x.p.length ≤ 9000 ∧ x.d.length ≤ 9000
theorem FewG.h {ns : List GN} {rs : List GR} (h : FewG ns rs) : FewH ns rs := ⟨by have := h.n; omega, by have := h.r; omega, fun x hx => by have := h.x x hx; omega⟩
def firstE : List Int → Int
  | [] => 0
  | e :: l => if e = 0 then firstE l else e
theorem firstE_app {l m : List Int} (h : ∀ e ∈ l, e = 0) : firstE (l ++ m) = firstE m := by
  induction l with
  | nil => rfl
  | cons e l ih =>
    rw [List.cons_append, firstE, if_pos (h e (by simp))]
    exact ih fun x hx => h x (by simp [hx])
theorem firstE_at {l : List Int} {j : Nat} {e : Int} (hj : l[j]? = some e) (hq : ∀ i x, i < j → l[i]? = some x → x = 0) (he : e ≠ 0) : firstE l = e := by
  induction l generalizing j with
  | nil => simp at hj
  | cons x l ih =>
    cases j with
    | zero =>
      simp only [List.getElem?_cons_zero, Option.some.injEq] at hj
      subst hj
      rw [firstE, if_neg he]
    | succ j =>
      rw [firstE, if_pos (hq 0 x (by omega) rfl)]
      exact ih hj fun i y hi hy => hq (i + 1) y (by omega) hy
theorem firstE_zero {l : List Int} : firstE l = 0 ↔ ∀ e ∈ l, e = 0 := by
  induction l with
  | nil => simp [firstE]
  | cons e l ih =>
    rw [firstE]
    by_cases h : e = 0
    · rw [if_pos h, ih]
      simp [h]
    · rw [if_neg h]
      simp [h]
def ndE (n : Nat) (x : GN) : Int := if ∀ p ∈ x.p, 0 ≤ p ∧ p ≤ n then (if x.p.length ≤ 64 ∧ x.d.length ≤ 1024 then 0 else 3) else 1
def prevL (rs : List GR) (i : Nat) : Bool := match rs[i - 1]?, rs[i]? with
  | some a, some b => Op.bytesLess (strOf a.s).toList (strOf b.s).toList
  | _, _ => false
def rtE (n : Nat) (rs : List GR) (i : Nat) : Int := match rs[i]? with
  | none => 0
  | some r => if nmOk r.s ∧ (i = 0 ∨ prevL rs i = true) then (if 0 ≤ r.to ∧ r.to ≤ n then 0 else 1) else 4
def chkV (ns : List GN) (rs : List GR) : Int := firstE (ns.map (ndE ns.length) ++ ((if rs.length ≤ 64 then (0 : Int) else 3) :: (List.range rs.length).map (rtE ns.length rs)))
theorem prevL_get {rs : List GR} {i : Nat} (h0 : i ≠ 0) (hi : i < rs.length) : prevL rs i = Op.bytesLess (strOf (rs[i - 1]'(by omega)).s).toList (strOf rs[i].s).toList := by
  unfold prevL
  rw [List.getElem?_eq_getElem hi, List.getElem?_eq_getElem (show i - 1 < rs.length by omega)]
theorem rtE_get {n : Nat} {rs : List GR} {i : Nat} (hi : i < rs.length) : rtE n rs i = if nmOk rs[i].s ∧ (i = 0 ∨ prevL rs i = true) then (if 0 ≤ rs[i].to ∧ rs[i].to ≤ n then 0 else 1) else 4 := by
  unfold rtE
  rw [List.getElem?_eq_getElem hi]
section
variable {ns : List GN} {rs : List GR}
theorem chk_node {j : Nat} {e : Int} (hj : j < ns.length) (hq : ∀ i (hi : i < ns.length), i < j → ndE ns.length ns[i] = 0) (he : ndE ns.length ns[j] = e) (hne : e ≠ 0) : chkV ns rs = e := by
  unfold chkV
  refine firstE_at (j := j) ?_ (fun i x hi hx => ?_) hne
  · rw [List.getElem?_append_left (by simpa using hj), List.getElem?_map, List.getElem?_eq_getElem hj, Option.map_some, he]
  · rw [List.getElem?_append_left (by rw [List.length_map]; omega), List.getElem?_map, List.getElem?_eq_getElem (by omega)] at hx
    simp only [Option.map_some, Option.some.injEq] at hx
    rw [← hx]
    exact hq i (by omega) hi
theorem chk_nodes (hq : ∀ i (hi : i < ns.length), ndE ns.length ns[i] = 0) : chkV ns rs = firstE ((if rs.length ≤ 64 then (0 : Int) else 3) :: (List.range rs.length).map (rtE ns.length rs)) := by
  unfold chkV
  refine firstE_app fun e he => ?_
  obtain ⟨x, hx, rfl⟩ := List.mem_map.1 he
  obtain ⟨i, hi, rfl⟩ := List.getElem_of_mem hx
  exact hq i hi
theorem chk_len (hq : ∀ i (hi : i < ns.length), ndE ns.length ns[i] = 0) (h : 64 < rs.length) : chkV ns rs = 3 := by
  rw [chk_nodes hq, if_neg (by omega), firstE, if_neg (by decide)]
theorem chk_root {j : Nat} {e : Int} (hq : ∀ i (hi : i < ns.length), ndE ns.length ns[i] = 0) (h : ¬ 64 < rs.length) (hr : ∀ i, i < j → rtE ns.length rs i = 0) (hj : j < rs.length) (he : rtE ns.length rs j = e) (hne : e ≠ 0) : chkV ns rs = e := by
  rw [chk_nodes hq, if_pos (by omega), firstE, if_pos rfl]
  refine firstE_at (j := j) ?_ (fun i x hi hx => ?_) hne
  · rw [List.getElem?_map, List.getElem?_range hj, Option.map_some, he]
  · rw [List.getElem?_map, List.getElem?_range (by omega)] at hx
    simp only [Option.map_some, Option.some.injEq] at hx
    rw [← hx]
    exact hr i hi
theorem chk_ok (hq : ∀ i (hi : i < ns.length), ndE ns.length ns[i] = 0) (h : ¬ 64 < rs.length) (hr : ∀ i, i < rs.length → rtE ns.length rs i = 0) : chkV ns rs = 0 := by
  rw [chk_nodes hq, if_pos (by omega), firstE, if_pos rfl, firstE_zero]
  intro e he
  obtain ⟨i, hi, rfl⟩ := List.mem_map.1 he
  exact hr i (List.mem_range.1 hi)
theorem ndE_zero {n : Nat} {x : GN} : ndE n x = 0 ↔ (∀ p ∈ x.p, 0 ≤ p ∧ p ≤ n) ∧ x.p.length ≤ 64 ∧ x.d.length ≤ 1024 := by
  unfold ndE
  by_cases h1 : ∀ p ∈ x.p, 0 ≤ p ∧ p ≤ n
  · rw [if_pos h1]
    by_cases h2 : x.p.length ≤ 64 ∧ x.d.length ≤ 1024
    · rw [if_pos h2]; exact ⟨fun _ => ⟨h1, h2⟩, fun _ => rfl⟩
    · rw [if_neg h2]; exact ⟨fun h => by omega, fun h => absurd h.2 h2⟩
  · rw [if_neg h1]; exact ⟨fun h => by omega, fun h => absurd h.1 h1⟩
theorem nmOk_iff {s : List (BitVec 8)} : nmOk s ↔ 1 ≤ s.length ∧ s.length ≤ 32 ∧ ∀ c ∈ s, c ≠ BitVec.ofNat 8 0 := by
  unfold nmOk
  constructor
  · rintro ⟨h1, h2, h3⟩; exact ⟨h1, h2, fun c hc e => h3 (by rw [← (show c = z8 from e)]; exact hc)⟩
  · rintro ⟨h1, h2, h3⟩; exact ⟨h1, h2, fun h => h3 _ h rfl⟩
theorem chk_zero : chkV ns rs = 0 ↔ GoodG ns rs := by
  constructor
  · intro h
    unfold chkV at h
    rw [firstE_zero] at h
    have h1 : ∀ x ∈ ns, ndE ns.length x = 0 := fun x hx => h _ (List.mem_append_left _ (List.mem_map.2 ⟨x, hx, rfl⟩))
    have h2 : (if rs.length ≤ 64 then (0 : Int) else 3) = 0 := h _ (List.mem_append_right _ (List.mem_cons_self ..))
    have h3 : ∀ i, i < rs.length → rtE ns.length rs i = 0 := fun i hi => h _ (List.mem_append_right _ (List.mem_cons_of_mem _ (List.mem_map.2 ⟨i, List.mem_range.2 hi, rfl⟩)))
    have h4 : ∀ i (hi : i < rs.length), (nmOk rs[i].s ∧ (i = 0 ∨ prevL rs i = true)) ∧ 0 ≤ rs[i].to ∧ rs[i].to ≤ ns.length := fun i hi => by
      have := h3 i hi
      rw [rtE_get hi] at this
      by_cases q : nmOk rs[i].s ∧ (i = 0 ∨ prevL rs i = true)
      · rw [if_pos q] at this
        by_cases q2 : 0 ≤ rs[i].to ∧ rs[i].to ≤ ns.length
        · exact ⟨q, q2⟩
        · rw [if_neg q2] at this; omega
      · rw [if_neg q] at this; omega
    refine ⟨fun x hx => ndE_zero.1 (h1 x hx), ?_, fun r hr => ?_, fun i hi => ?_⟩
    · split at h2
      · assumption
      · omega
    · obtain ⟨i, hi, rfl⟩ := List.getElem_of_mem hr
      exact ⟨nmOk_iff.1 (h4 i hi).1.1, (h4 i hi).2⟩
    · have := (h4 (i + 1) hi).1.2
      rcases this with h5 | h5
      · omega
      · rw [prevL_get (by omega) hi] at h5
        exact h5
  · intro hg
    refine chk_ok (fun i hi => ndE_zero.2 (hg.x _ (List.getElem_mem hi))) (by have := hg.r; omega) fun i hi => ?_
    obtain ⟨h1, h2, h3⟩ := hg.s _ (List.getElem_mem hi)
    rw [rtE_get hi, if_pos, if_pos ⟨h2, h3⟩]
    refine ⟨nmOk_iff.2 h1, ?_⟩
    by_cases h0 : i = 0
    · exact .inl h0
    · right
      rw [prevL_get h0 hi]
      have := hg.o (i - 1) (by omega)
      have e : rs[i - 1 + 1]'(by omega) = rs[i] := by congr 1; omega
      rw [e] at this
      exact this
end
/-- one node, by the program -/
abbrev rsGck_1 := (And.intro @xu8_add (And.intro @xu8_lss (And.intro @xu8_gtr (And.intro @xu16_add (And.intro @xu16_lss (And.intro @xu16_gtr (And.intro @xu32_add (And.intro @xu32_lss (And.intro @xu32_gtr (And.intro @xu64_add (And.intro @xu64_lss (And.intro @xu64_gtr (And.intro @xi64_lss (And.intro @xi64_gtr (And.intro @ld_3 (And.intro @ld_22 
  (And.intro @ld_66 (And.intro @ld_70 (And.intro @fa_25_0 (And.intro @fa_72_0 (And.intro @fa_72_1 (And.intro @ia_66 (And.intro @ln_22 (And.intro @ln_66 @ln_70))))))))))))))))))))))))
theorem gnode_spec {w : World} {na ra : Option Addr} {nc rc : Nat} {ns : List GN} {rs : List GR} {x : GN} (hx : NOk w x) (hxl : x.p.length ≤ 1000000) : Gives Try.prog n_graph_Graph_node #[gV na nc ra rc ns rs, .agg (gnC x).toArray] w (i64 (ndE ns.length x)) := by
  refine graph_Graph_node_of ?_
  unfold graph_Graph_node
  simp (disch := (first | omega | decide | (simp only [rsD] <;> omega) | fail)) only [↓rsC, rsK, rsL, ↓rsGck_1, tick_eq, tickV_eq, ne_eq, Int.reduceAdd, Int.reduceSub, Int.reduceMul, Int.reduceEq, Int.reduceLT, Int.reduceLE, Int.reduceToNat, Nat.reduceMul, Nat.reduceAdd, Nat.reduceSub, ←decide_not, eq_self]
  simp only [World.size_alloc]
  have B : Blk (w.alloc (.cells #[.slice na ns.length nc, .slice ra rs.length rc] 25)) w.heap.size 25 [.slice na ns.length nc, .slice ra rs.length rc] := Blk.at rfl
  have X : Ext [] w (w.alloc (.cells #[.slice na ns.length nc, .slice ra rs.length rc] 25)) := Ext.alloc _ _ _
  have z1 := World.size_alloc w (.cells #[.slice na ns.length nc, .slice ra rs.length rc] 25)
  generalize hy1 : w.alloc (.cells #[.slice na ns.length nc, .slice ra rs.length rc] 25) = y1 at *
  have C : Blk (y1.alloc (.cells #[.slice x.pa x.p.length x.pc, .slice x.da x.d.length x.dc] 72)) y1.heap.size 72 [.slice x.pa x.p.length x.pc, .slice x.da x.d.length x.dc] := Blk.at rfl
  have X1 : Ext [] y1 (y1.alloc (.cells #[.slice x.pa x.p.length x.pc, .slice x.da x.d.length x.dc] 72)) := Ext.alloc _ _ _
  have B1 := B.ext X1 (by simp)
  have X2 := X.trans X1
  have hx2 := hx.ext0 X2
  rw [z1] at C
  generalize hy2 : y1.alloc (.cells #[.slice x.pa x.p.length x.pc, .slice x.da x.d.length x.dc] 72) = y2 at *
  generalize w.heap.size + 1 = g2 at *
  generalize w.heap.size = g1 at *
  refine xLoop_n x.p.length (fun k => [i64 (k : Int)]) (fun k w' => Ext [] y2 w' ∧ ∀ i (hi : i < x.p.length), i < k → 0 ≤ x.p[i] ∧ x.p[i] ≤ ns.length) rfl ⟨Ext.refl _ _, by intro i _ hi; omega⟩ ?_ ?_
  · intro k hk u v2 hu ⟨F2, hp⟩ nxt2 hnx2
    simp only [List.map_cons, List.map_nil, List.cons.injEq, and_true] at hu
    rw [hu]
    have k2 := fun i => (B1.ext F2 (by simp)).cell (i := i)
    obtain ⟨b3, o3, ha3, z3, c3⟩ := its_at (hx2.ext0 F2).pr hk
    have bad : ¬ (0 ≤ x.p[k] ∧ x.p[k] ≤ ns.length) → i64 1 = i64 (ndE ns.length x) := fun h => by
      unfold ndE
      rw [if_neg fun h2 => h (h2 _ (List.getElem_mem hk))]
    unfold graph_Graph_node_l1
    by_cases g1 : x.p[k] < 0
    · simp (disch := (first | omega | decide | (simp only [rsD] <;> omega) | fail)) only [↓rsC, rsK, rsL, ↓rsGck_1, tick_eq, tickV_eq, ne_eq, Int.reduceAdd, Int.reduceSub, Int.reduceMul, Int.reduceEq, Int.reduceLT, Int.reduceLE, Int.reduceToNat, Nat.reduceMul, Nat.reduceAdd, Nat.reduceSub, ←decide_not, k2, ha3, c3]
      exact ⟨bad (by omega), X2.trans F2⟩
    by_cases g2 : (ns.length : Int) < x.p[k]
    · simp (disch := (first | omega | decide | (simp only [rsD] <;> omega) | fail)) only [↓rsC, rsK, rsL, ↓rsGck_1, tick_eq, tickV_eq, ne_eq, Int.reduceAdd, Int.reduceSub, Int.reduceMul, Int.reduceEq, Int.reduceLT, Int.reduceLE, Int.reduceToNat, Nat.reduceMul, Nat.reduceAdd, Nat.reduceSub, ←decide_not, k2, ha3, c3]
      exact ⟨bad (by omega), X2.trans F2⟩
    simp (disch := (first | omega | decide | (simp only [rsD] <;> omega) | fail)) only [↓rsC, rsK, rsL, ↓rsGck_1, tick_eq, tickV_eq, ne_eq, Int.reduceAdd, Int.reduceSub, Int.reduceMul, Int.reduceEq, Int.reduceLT, Int.reduceLE, Int.reduceToNat, Nat.reduceMul, Nat.reduceAdd, Nat.reduceSub, ←decide_not, k2, ha3, c3]
    refine hnx2 _ ⟨F2, fun i hi hik => ?_⟩
    by_cases e : i = k
    · subst e; exact ⟨by omega, by omega⟩
    · exact hp i hi (by omega)
  · intro u v2 hu ⟨F2, hp⟩ nxt2
    simp only [List.map_cons, List.map_nil, List.cons.injEq, and_true] at hu
    rw [hu]
    have k2 := fun i => (C.ext F2 (by simp)).cell (i := i)
    have hpp : ∀ p ∈ x.p, 0 ≤ p ∧ p ≤ (ns.length : Int) := fun p hp2 => by
      obtain ⟨i, hi, rfl⟩ := List.getElem_of_mem hp2
      exact hp i hi hi
    have hE : ndE ns.length x = if x.p.length ≤ 64 ∧ x.d.length ≤ 1024 then 0 else 3 := by unfold ndE; rw [if_pos hpp]
    rw [hE]
    unfold graph_Graph_node_l1
    by_cases g1 : 64 < x.p.length
    · rw [if_neg (by omega)]
      simp (disch := (first | omega | decide | (simp only [rsD] <;> omega) | fail)) only [↓rsC, rsK, rsL, ↓rsGck_1, tick_eq, tickV_eq, ne_eq, Int.reduceAdd, Int.reduceSub, Int.reduceMul, Int.reduceEq, Int.reduceLT, Int.reduceLE, Int.reduceToNat, Nat.reduceMul, Nat.reduceAdd, Nat.reduceSub, ←decide_not, k2]
      exact ⟨by trivial, X2.trans F2⟩
    by_cases g2 : 1024 < x.d.length
    · rw [if_neg (by omega)]
      simp (disch := (first | omega | decide | (simp only [rsD] <;> omega) | fail)) only [↓rsC, rsK, rsL, ↓rsGck_1, tick_eq, tickV_eq, ne_eq, Int.reduceAdd, Int.reduceSub, Int.reduceMul, Int.reduceEq, Int.reduceLT, Int.reduceLE, Int.reduceToNat, Nat.reduceMul, Nat.reduceAdd, Nat.reduceSub, ←decide_not, k2]
      exact ⟨by trivial, X2.trans F2⟩
    rw [if_pos (by omega)]
    simp (disch := (first | omega | decide | (simp only [rsD] <;> omega) | fail)) only [↓rsC, rsK, rsL, ↓rsGck_1, tick_eq, tickV_eq, ne_eq, Int.reduceAdd, Int.reduceSub, Int.reduceMul, Int.reduceEq, Int.reduceLT, Int.reduceLE, Int.reduceToNat, Nat.reduceMul, Nat.reduceAdd, Nat.reduceSub, ←decide_not, k2]
    exact ⟨by trivial, X2.trans F2⟩
/-- one name, by the program -/
abbrev rsGck_2 := (And.intro @xu8_sub (And.intro @xu8_lss (And.intro @xu8_gtr (And.intro @xu8_geq (And.intro @xu16_sub (And.intro @xu16_lss (And.intro @xu16_gtr (And.intro @xu16_geq (And.intro @xu32_sub (And.intro @xu32_lss (And.intro @xu32_gtr (And.intro @xu32_geq (And.intro @xu64_sub (And.intro @xu64_lss (And.intro @xu64_gtr (And.intro @xu64_geq 
  (And.intro @xi64_lss (And.intro @xi64_gtr (And.intro @xi64_geq (And.intro @ld_3 (And.intro @ld_9 (And.intro @ld_22 (And.intro @ld_23 (And.intro @ld_74 (And.intro @fa_25_0 (And.intro @fa_25_1 (And.intro @fa_74_0 (And.intro @fa_74_1 (And.intro @al_74 (And.intro @st_74 (And.intro @ia_23 (And.intro @ln_22 @ln_9))))))))))))))))))))))))))))))))
theorem groot_spec {w : World} {na ra : Option Addr} {nc rc : Nat} {ns : List GN} {rs : List GR} (h : GIs w na nc ra rc ns rs) {j : Nat} (hj : j < rs.length) (hrl : rs.length ≤ 1000000) : Gives Try.prog n_graph_Graph_root #[gV na nc ra rc ns rs, i64 (j : Int)] w (i64 (rtE ns.length rs j)) := by
  have hrt := rtE_get (n := ns.length) hj
  have hsz := strOf_size (l := rs[j].s)
  obtain ⟨b1, o1, ha1, z1, c1, c2⟩ := gr_at h.rr hj
  subst ha1
  refine graph_Graph_root_of ?_
  unfold graph_Graph_root
  simp (disch := (first | omega | decide | (simp only [rsD] <;> omega) | fail)) only [↓rsC, rsK, rsL, ↓rsGck_2, tick_eq, tickV_eq, ne_eq, Int.reduceAdd, Int.reduceSub, Int.reduceMul, Int.reduceEq, Int.reduceLT, Int.reduceLE, Int.reduceToNat, Nat.reduceMul, Nat.reduceAdd, Nat.reduceSub, ←decide_not, c1, c2]
  simp only [World.size_alloc]
  have B : Blk (w.alloc (.cells #[.slice na ns.length nc, .slice (some ⟨b1, o1, none⟩) rs.length rc] 25)) w.heap.size 25 [.slice na ns.length nc, .slice (some ⟨b1, o1, none⟩) rs.length rc] := Blk.at rfl
  have X : Ext [] w (w.alloc (.cells #[.slice na ns.length nc, .slice (some ⟨b1, o1, none⟩) rs.length rc] 25)) := Ext.alloc _ _ _
  have s1 := World.size_alloc w (.cells #[.slice na ns.length nc, .slice (some ⟨b1, o1, none⟩) rs.length rc] 25)
  generalize w.alloc (.cells #[.slice na ns.length nc, .slice (some ⟨b1, o1, none⟩) rs.length rc] 25) = y1 at *
  have C : Blk (y1.alloc (.cells #[.string (strOf rs[j].s), i64 rs[j].to] 74)) y1.heap.size 74 [.string (strOf rs[j].s), i64 rs[j].to] := Blk.at rfl
  have X1 : Ext [] y1 (y1.alloc (.cells #[.string (strOf rs[j].s), i64 rs[j].to] 74)) := Ext.alloc _ _ _
  have B1 := B.ext X1 (by simp)
  have X2 := X.trans X1
  have hy := h.ext0 X2
  rw [s1] at C
  generalize y1.alloc (.cells #[.string (strOf rs[j].s), i64 rs[j].to] 74) = y2 at *
  generalize w.heap.size + 1 = g2 at *
  generalize w.heap.size = g1 at *
  have kc := fun i => C.cell (i := i)
  by_cases h1 : rs[j].s.length < 1
  · rw [hrt, if_neg (fun q => by have := q.1.1; omega)]
    simp (disch := (first | omega | decide | (simp only [rsD] <;> omega) | fail)) only [↓rsC, rsK, rsL, ↓rsGck_2, tick_eq, tickV_eq, ne_eq, Int.reduceAdd, Int.reduceSub, Int.reduceMul, Int.reduceEq, Int.reduceLT, Int.reduceLE, Int.reduceToNat, Nat.reduceMul, Nat.reduceAdd, Nat.reduceSub, ←decide_not, c1, c2, kc]
    exact ⟨by trivial, X2⟩
  by_cases h2 : 32 < rs[j].s.length
  · rw [hrt, if_neg (fun q => by have := q.1.2.1; omega)]
    simp (disch := (first | omega | decide | (simp only [rsD] <;> omega) | fail)) only [↓rsC, rsK, rsL, ↓rsGck_2, tick_eq, tickV_eq, ne_eq, Int.reduceAdd, Int.reduceSub, Int.reduceMul, Int.reduceEq, Int.reduceLT, Int.reduceLE, Int.reduceToNat, Nat.reduceMul, Nat.reduceAdd, Nat.reduceSub, ←decide_not, c1, c2, kc]
    exact ⟨by trivial, X2⟩
  simp (disch := (first | omega | decide | (simp only [rsD] <;> omega) | fail)) only [↓rsC, rsK, rsL, ↓rsGck_2, tick_eq, tickV_eq, ne_eq, Int.reduceAdd, Int.reduceSub, Int.reduceMul, Int.reduceEq, Int.reduceLT, Int.reduceLE, Int.reduceToNat, Nat.reduceMul, Nat.reduceAdd, Nat.reduceSub, ←decide_not, c1, c2, kc]
  refine strings_Contains_call (Gives.to (Contains_spec rs[j].s y2) fun y3 F3 => ?_)
  have X3 := X2.trans F3
  by_cases h3 : z8 ∈ rs[j].s
  · rw [decide_eq_true h3, hrt, if_neg (fun q => q.1.2.2 h3)]
    simp (disch := (first | omega | decide | (simp only [rsD] <;> omega) | fail)) only [↓rsC, rsK, rsL, ↓rsGck_2, tick_eq, tickV_eq, ne_eq, Int.reduceAdd, Int.reduceSub, Int.reduceMul, Int.reduceEq, Int.reduceLT, Int.reduceLE, Int.reduceToNat, Nat.reduceMul, Nat.reduceAdd, Nat.reduceSub, ←decide_not, c1, c2, kc]
    exact ⟨by trivial, X3⟩
  rw [decide_eq_false h3]
  have hok : nmOk rs[j].s := ⟨by omega, by omega, h3⟩
  have F3d := F3.trans (Ext.drew [] y3)
  have X4 := X2.trans F3d
  have kc4 := fun i => (C.ext F3d (by simp)).cell (i := i)
  have kb4 := fun i => (B1.ext F3d (by simp)).cell (i := i)
  have hlast : ∀ (b : Bool), (j = 0 ∨ prevL rs j = true ↔ b = true) → rtE ns.length rs j = if b = true then (if 0 ≤ rs[j].to ∧ rs[j].to ≤ ns.length then 0 else 1) else 4 := fun b hb => by
    rw [hrt]
    by_cases q : b = true
    · rw [if_pos ⟨hok, hb.2 q⟩, if_pos q]
    · rw [if_neg (fun q2 => q (hb.1 q2.2)), if_neg q]
  by_cases hj0 : j = 0
  · rw [hlast true ⟨fun _ => rfl, fun _ => .inl hj0⟩, if_pos rfl]
    by_cases t1 : rs[j].to < 0
    · rw [if_neg (by omega)]
      simp (disch := (first | omega | decide | (simp only [rsD] <;> omega) | fail)) only [↓rsC, rsK, rsL, ↓rsGck_2, tick_eq, tickV_eq, ne_eq, Int.reduceAdd, Int.reduceSub, Int.reduceMul, Int.reduceEq, Int.reduceLT, Int.reduceLE, Int.reduceToNat, Nat.reduceMul, Nat.reduceAdd, Nat.reduceSub, ←decide_not, c1, c2, kc, kc4, kb4]
      exact ⟨by trivial, X4⟩
    by_cases t2 : (ns.length : Int) < rs[j].to
    · rw [if_neg (by omega)]
      simp (disch := (first | omega | decide | (simp only [rsD] <;> omega) | fail)) only [↓rsC, rsK, rsL, ↓rsGck_2, tick_eq, tickV_eq, ne_eq, Int.reduceAdd, Int.reduceSub, Int.reduceMul, Int.reduceEq, Int.reduceLT, Int.reduceLE, Int.reduceToNat, Nat.reduceMul, Nat.reduceAdd, Nat.reduceSub, ←decide_not, c1, c2, kc, kc4, kb4]
      exact ⟨by trivial, X4⟩
    rw [if_pos (by omega)]
    simp (disch := (first | omega | decide | (simp only [rsD] <;> omega) | fail)) only [↓rsC, rsK, rsL, ↓rsGck_2, tick_eq, tickV_eq, ne_eq, Int.reduceAdd, Int.reduceSub, Int.reduceMul, Int.reduceEq, Int.reduceLT, Int.reduceLE, Int.reduceToNat, Nat.reduceMul, Nat.reduceAdd, Nat.reduceSub, ←decide_not, c1, c2, kc, kc4, kb4]
    exact ⟨by trivial, X4⟩
  · obtain ⟨b5, o5, ha5, z5, c5, c6⟩ := gr_at (hy.ext0 F3d).rr (k := j - 1) (by omega)
    cases ha5
    have t3 : ((j : Int) - 1).toNat = j - 1 := by omega
    have hgs := fun w K => geS (cx := false) (cy := false) (strOf rs[j - 1].s) (strOf rs[j].s) w K
    have hpl := prevL_get hj0 hj
    cases hlt : Op.bytesLess (strOf rs[j - 1].s).toList (strOf rs[j].s).toList with
    | true =>
      rw [hlt] at hgs hpl
      rw [hlast true ⟨fun _ => rfl, fun _ => .inr hpl⟩, if_pos rfl]
      by_cases t1 : rs[j].to < 0
      · rw [if_neg (by omega)]
        simp (disch := (first | omega | decide | (simp only [rsD] <;> omega) | fail)) only [↓rsC, rsK, rsL, ↓rsGck_2, tick_eq, tickV_eq, ne_eq, Int.reduceAdd, Int.reduceSub, Int.reduceMul, Int.reduceEq, Int.reduceLT, Int.reduceLE, Int.reduceToNat, Nat.reduceMul, Nat.reduceAdd, Nat.reduceSub, ←decide_not, c1, c2, kc, kc4, kb4, t3, c5, hgs]
        exact ⟨by trivial, X4⟩
      by_cases t2 : (ns.length : Int) < rs[j].to
      · rw [if_neg (by omega)]
        simp (disch := (first | omega | decide | (simp only [rsD] <;> omega) | fail)) only [↓rsC, rsK, rsL, ↓rsGck_2, tick_eq, tickV_eq, ne_eq, Int.reduceAdd, Int.reduceSub, Int.reduceMul, Int.reduceEq, Int.reduceLT, Int.reduceLE, Int.reduceToNat, Nat.reduceMul, Nat.reduceAdd, Nat.reduceSub, ←decide_not, c1, c2, kc, kc4, kb4, t3, c5, hgs]
        exact ⟨by trivial, X4⟩
      rw [if_pos (by omega)]
      simp (disch := (first | omega | decide | (simp only [rsD] <;> omega) | fail)) only [↓rsC, rsK, rsL, ↓rsGck_2, tick_eq, tickV_eq, ne_eq, Int.reduceAdd, Int.reduceSub, Int.reduceMul, Int.reduceEq, Int.reduceLT, Int.reduceLE, Int.reduceToNat, Nat.reduceMul, Nat.reduceAdd, Nat.reduceSub, ←decide_not, c1, c2, kc, kc4, kb4, t3, c5, hgs]
      exact ⟨by trivial, X4⟩
    | false =>
      rw [hlt] at hgs hpl
      rw [hlast false ⟨fun q => by rcases q with q | q; exact absurd q hj0; rw [hpl] at q; exact q, fun q => by cases q⟩, if_neg (by simp)]
      simp (disch := (first | omega | decide | (simp only [rsD] <;> omega) | fail)) only [↓rsC, rsK, rsL, ↓rsGck_2, tick_eq, tickV_eq, ne_eq, Int.reduceAdd, Int.reduceSub, Int.reduceMul, Int.reduceEq, Int.reduceLT, Int.reduceLE, Int.reduceToNat, Nat.reduceMul, Nat.reduceAdd, Nat.reduceSub, ←decide_not, c1, c2, kc, kc4, kb4, t3, c5, hgs]
      exact ⟨by trivial, X4⟩
/-- all, by the program -/
abbrev rsGck_3 := (And.intro @xu8_add (And.intro @xu8_neq (And.intro @xu8_lss (And.intro @xu8_gtr (And.intro @xu16_add (And.intro @xu16_neq (And.intro @xu16_lss (And.intro @xu16_gtr (And.intro @xu32_add (And.intro @xu32_neq (And.intro @xu32_lss (And.intro @xu32_gtr (And.intro @xu64_add (And.intro @xu64_neq (And.intro @xu64_lss (And.intro @xu64_gtr 
  (And.intro @xi64_lss (And.intro @xi64_gtr (And.intro @xi64_neq (And.intro @xi64_neg (And.intro @ld_22 (And.intro @ld_23 (And.intro @ld_25 (And.intro @ld_72 (And.intro @fa_25_0 (And.intro @fa_25_1 (And.intro @al_72 (And.intro @st_72 (And.intro @ia_22 (And.intro @ln_22 @ln_23))))))))))))))))))))))))))))))
theorem gcheck_spec {w : World} {na ra : Option Addr} {nc rc : Nat} {ns : List GN} {rs : List GR} (h : GIs w na nc ra rc ns rs) (hf : FewH ns rs) : Gives Try.prog n_graph_Check #[gV na nc ra rc ns rs] w (i64 (chkV ns rs)) := by
  have hfn := hf.n
  have hfr := hf.r
  refine graph_Check_of ?_
  unfold graph_Check
  simp (disch := (first | omega | decide | (simp only [rsD] <;> omega) | fail)) only [↓rsC, rsK, rsL, ↓rsGck_3, tick_eq, tickV_eq, ne_eq, Int.reduceAdd, Int.reduceSub, Int.reduceMul, Int.reduceEq, Int.reduceLT, Int.reduceLE, Int.reduceToNat, Nat.reduceMul, Nat.reduceAdd, Nat.reduceSub, ←decide_not, eq_self]
  have B : Blk (w.alloc (.cells #[.slice na ns.length nc, .slice ra rs.length rc] 25)) w.heap.size 25 [.slice na ns.length nc, .slice ra rs.length rc] := Blk.at rfl
  have X : Ext [] w (w.alloc (.cells #[.slice na ns.length nc, .slice ra rs.length rc] 25)) := Ext.alloc _ _ _
  have hy := h.ext0 X
  generalize w.heap.size = hb at *
  generalize w.alloc (.cells #[.slice na ns.length nc, .slice ra rs.length rc] 25) = y at *
  refine xLoop_n ns.length (fun j => [i64 (j : Int)]) (fun j w' => Ext [] y w' ∧ ∀ i (hi : i < ns.length), i < j → ndE ns.length ns[i] = 0) rfl ⟨Ext.refl _ _, by intro i _ hi; omega⟩ ?_ ?_
  · intro j hj u v1 hu ⟨F, hq⟩ nxt hnx
    simp only [List.map_cons, List.map_nil, List.cons.injEq, and_true] at hu
    rw [hu]
    have k1 := fun i => (B.ext F (by simp)).cell (i := i)
    obtain ⟨b1, o1, ha1, z1, c1, c2⟩ := gn_at (hy.ext0 F).nr hj
    have hm := List.getElem_mem hj
    have hok := (hy.ext0 F).ok _ hm
    have hfx := hf.x _ hm
    have zb := (B.ext F (by simp)).lt
    unfold graph_Check_l1
    simp (disch := (first | omega | decide | (simp only [rsD] <;> omega) | fail)) only [↓rsC, rsK, rsL, ↓rsGck_3, tick_eq, tickV_eq, ne_eq, Int.reduceAdd, Int.reduceSub, Int.reduceMul, Int.reduceEq, Int.reduceLT, Int.reduceLE, Int.reduceToNat, Nat.reduceMul, Nat.reduceAdd, Nat.reduceSub, ←decide_not, k1, ha1, c1, c2]
    simp only [← ha1]
    have X1 : Ext [] v1 (v1.alloc (.cells #[.slice ns[j].pa ns[j].p.length ns[j].pc, .slice ns[j].da ns[j].d.length ns[j].dc] 72)) := Ext.alloc _ _ _
    refine graph_Graph_node_call (Gives.to (gnode_spec (na := na) (nc := nc) (ra := ra) (rc := rc) (ns := ns) (rs := rs) (hok.ext0 X1) (by omega)) fun v2 F2 => ?_)
    have F3 := F.trans (X1.trans F2)
    by_cases he : ndE ns.length ns[j] = 0
    · rw [he]
      simp (disch := (first | omega | decide | (simp only [rsD] <;> omega) | fail)) only [↓rsC, rsK, rsL, ↓rsGck_3, tick_eq, tickV_eq, ne_eq, Int.reduceAdd, Int.reduceSub, Int.reduceMul, Int.reduceEq, Int.reduceLT, Int.reduceLE, Int.reduceToNat, Nat.reduceMul, Nat.reduceAdd, Nat.reduceSub, ←decide_not, k1, ha1, c1, c2]
      refine hnx _ ⟨F3, fun i hi hij => ?_⟩
      by_cases e : i = j
      · subst e; exact he
      · exact hq i hi (by omega)
    · have hc := chk_node (rs := rs) hj hq rfl he
      simp (disch := (first | omega | decide | (simp only [rsD] <;> omega) | fail)) only [↓rsC, rsK, rsL, ↓rsGck_3, tick_eq, tickV_eq, ne_eq, Int.reduceAdd, Int.reduceSub, Int.reduceMul, Int.reduceEq, Int.reduceLT, Int.reduceLE, Int.reduceToNat, Nat.reduceMul, Nat.reduceAdd, Nat.reduceSub, ←decide_not, k1, ha1, c1, c2]
      exact ⟨by rw [hc], X.trans F3⟩
  intro u v1 hu ⟨F, hq⟩ nxt
  simp only [List.map_cons, List.map_nil, List.cons.injEq, and_true] at hu
  rw [hu]
  have hq' : ∀ i (hi : i < ns.length), ndE ns.length ns[i] = 0 := fun i hi => hq i hi hi
  have k1 := fun i => (B.ext F (by simp)).cell (i := i)
  unfold graph_Check_l1
  by_cases g0 : 64 < rs.length
  · simp (disch := (first | omega | decide | (simp only [rsD] <;> omega) | fail)) only [↓rsC, rsK, rsL, ↓rsGck_3, tick_eq, tickV_eq, ne_eq, Int.reduceAdd, Int.reduceSub, Int.reduceMul, Int.reduceEq, Int.reduceLT, Int.reduceLE, Int.reduceToNat, Nat.reduceMul, Nat.reduceAdd, Nat.reduceSub, ←decide_not, k1]
    exact ⟨by rw [chk_len hq' g0], X.trans F⟩
  simp (disch := (first | omega | decide | (simp only [rsD] <;> omega) | fail)) only [↓rsC, rsK, rsL, ↓rsGck_3, tick_eq, tickV_eq, ne_eq, Int.reduceAdd, Int.reduceSub, Int.reduceMul, Int.reduceEq, Int.reduceLT, Int.reduceLE, Int.reduceToNat, Nat.reduceMul, Nat.reduceAdd, Nat.reduceSub, ←decide_not, k1]
  refine xLoop_n rs.length (fun j => [i64 (j : Int)]) (fun j w' => Ext [] y w' ∧ ∀ i, i < j → rtE ns.length rs i = 0) rfl ⟨F, by intro i hi; omega⟩ ?_ ?_
  · intro j hj u v2 hu ⟨F2, hr⟩ nxt2 hnx2
    simp only [List.map_cons, List.map_nil, List.cons.injEq, and_true] at hu
    rw [hu]
    have k2 := fun i => (B.ext F2 (by simp)).cell (i := i)
    unfold graph_Check_l2
    simp (disch := (first | omega | decide | (simp only [rsD] <;> omega) | fail)) only [↓rsC, rsK, rsL, ↓rsGck_3, tick_eq, tickV_eq, ne_eq, Int.reduceAdd, Int.reduceSub, Int.reduceMul, Int.reduceEq, Int.reduceLT, Int.reduceLE, Int.reduceToNat, Nat.reduceMul, Nat.reduceAdd, Nat.reduceSub, ←decide_not, k1, k2]
    refine graph_Graph_root_call (Gives.to (groot_spec (hy.ext0 F2) hj (by omega)) fun v3 F3 => ?_)
    by_cases he : rtE ns.length rs j = 0
    · rw [he]
      simp (disch := (first | omega | decide | (simp only [rsD] <;> omega) | fail)) only [↓rsC, rsK, rsL, ↓rsGck_3, tick_eq, tickV_eq, ne_eq, Int.reduceAdd, Int.reduceSub, Int.reduceMul, Int.reduceEq, Int.reduceLT, Int.reduceLE, Int.reduceToNat, Nat.reduceMul, Nat.reduceAdd, Nat.reduceSub, ←decide_not, k1, k2]
      refine hnx2 _ ⟨F2.trans F3, fun i hij => ?_⟩
      by_cases e : i = j
      · subst e; exact he
      · exact hr i (by omega)
    · have hc := chk_root hq' g0 hr hj rfl he
      simp (disch := (first | omega | decide | (simp only [rsD] <;> omega) | fail)) only [↓rsC, rsK, rsL, ↓rsGck_3, tick_eq, tickV_eq, ne_eq, Int.reduceAdd, Int.reduceSub, Int.reduceMul, Int.reduceEq, Int.reduceLT, Int.reduceLE, Int.reduceToNat, Nat.reduceMul, Nat.reduceAdd, Nat.reduceSub, ←decide_not, k1, k2]
      exact ⟨by rw [hc], X.trans (F2.trans F3)⟩
  · intro u v2 hu ⟨F2, hr⟩ nxt2
    simp only [List.map_cons, List.map_nil, List.cons.injEq, and_true] at hu
    rw [hu]
    unfold graph_Check_l2
    simp (disch := (first | omega | decide | (simp only [rsD] <;> omega) | fail)) only [↓rsC, rsK, rsL, ↓rsGck_3, tick_eq, tickV_eq, ne_eq, Int.reduceAdd, Int.reduceSub, Int.reduceMul, Int.reduceEq, Int.reduceLT, Int.reduceLE, Int.reduceToNat, Nat.reduceMul, Nat.reduceAdd, Nat.reduceSub, ←decide_not, k1]
    exact ⟨by rw [chk_ok hq' g0 hr], X.trans F2⟩
end Go.Proofs.Ytdpmidgeipibbaa
end
section
set_option linter.unusedVariables false
set_option linter.unusedSimpArgs false
set_option maxHeartbeats 4000000
namespace Go.Proofs.Ytdpmidgeipibbaa
open Go.Sh Go.RowKit

def gW (ns : List GN) : Nat := (ns.map gsz).sum
theorem gW_snoc (l : List GN) (x : GN) : gW (l ++ [x]) = gW l + gsz x := by simp [gW]
theorem gW_take {ns : List GN} {j : Nat} (hj : j < ns.length) : gW (ns.take (j + 1)) = gW (ns.take j) + gsz ns[j] := by
  rw [List.take_add_one, List.getElem?_eq_getElem hj]
  exact gW_snoc _ _
theorem gW_le (ns : List GN) (h : ∀ x ∈ ns, x.p.length ≤ 64 ∧ x.d.length ≤ 1024) : gW ns ≤ 193 * ns.length := by
  induction ns with
  | nil => simp [gW]
  | cons x ns ih =>
    have h1 := h x (by simp)
    have := ih fun y hy => h y (by simp [hy])
    have e : gW (x :: ns) = gsz x + gW ns := by simp [gW]
    rw [e, List.length_cons]
    unfold gsz
    omega
/-! bytes as words -/
def orV (l : List (BitVec 8)) (a : Nat) : Nat → BitVec 64
  | 0 => BitVec.ofNat 64 0
  | k + 1 => orV l a k ||| ((l.getD (a + k) (BitVec.ofNat 8 0)).setWidth 64 <<< (8 * k))
def wordV (l : List (BitVec 8)) (i : Nat) : BitVec 64 := orV l (8 * i) (min 8 (l.length - 8 * i))
def wordsV (l : List (BitVec 8)) : List (BitVec 64) := (List.range ((l.length + 7) / 8)).map (wordV l)
theorem wordsV_len (l : List (BitVec 8)) : (wordsV l).length = (l.length + 7) / 8 := by simp [wordsV]
def ptW (pl : List Nat) (to : Int) : BitVec 64 := if to = 0 then BitVec.ofNat 64 0 else BitVec.ofNat 64 (pl.getD (to.toNat - 1) 0 + 1)
end Go.Proofs.Ytdpmidgeipibbaa
end
section
set_option linter.unusedVariables false
set_option linter.unusedSimpArgs false
set_option maxHeartbeats 4000000
namespace Go.Proofs.Ytdpmidgeipibbaa
open Go.Sh Go.RowKit

/-- all nodes' words, by the program -/
abbrev rsGck2_1 := (And.intro @xu8_add (And.intro @xu8_lss (And.intro @xu16_add (And.intro @xu16_lss (And.intro @xu32_add (And.intro @xu32_lss (And.intro @xu64_add (And.intro @xu64_lss (And.intro @xi64_lss (And.intro @ld_22 (And.intro @ld_66 (And.intro @ld_70 (And.intro @ld_72 (And.intro @fa_25_0 (And.intro @fa_72_0 (And.intro @fa_72_1 (And.intro @al_72 
  (And.intro @st_72 (And.intro @bd_123_0_1 (And.intro @bd_123_2_3 (And.intro @bd_123 (And.intro @ia_22 (And.intro @ln_22 (And.intro @ln_66 @ln_70))))))))))))))))))))))))
theorem gwords_spec {w : World} {na ra : Option Addr} {nc rc : Nat} {ns : List GN} {rs : List GR} (h : GIs w na nc ra rc ns rs) (hf : FewH ns rs) (hg : GoodG ns rs) : Gives Try.prog n_graph_Words #[gV na nc ra rc ns rs] w (i64 (gW ns : Int)) := by
  have hfn := hf.n
  have hgs := fun x hx => (hg.x x hx).2
  refine graph_Words_of ?_
  unfold graph_Words
  simp (disch := (first | omega | decide | (simp only [rsD] <;> omega) | fail)) only [↓rsC, rsK, rsL, ↓rsGck2_1, tick_eq, tickV_eq, ne_eq, Int.reduceAdd, Int.reduceSub, Int.reduceMul, Int.reduceEq, Int.reduceLT, Int.reduceLE, Int.reduceToNat, Nat.reduceMul, Nat.reduceAdd, Nat.reduceSub, ←decide_not, eq_self]
  have B : Blk (w.alloc (.cells #[.slice na ns.length nc, .slice ra rs.length rc] 25)) w.heap.size 25 [.slice na ns.length nc, .slice ra rs.length rc] := Blk.at rfl
  have X : Ext [] w (w.alloc (.cells #[.slice na ns.length nc, .slice ra rs.length rc] 25)) := Ext.alloc _ _ _
  have hy := h.ext0 X
  generalize w.heap.size = hb at *
  generalize w.alloc (.cells #[.slice na ns.length nc, .slice ra rs.length rc] 25) = y at *
  refine xLoop_n ns.length (fun j => [i64 (gW (ns.take j) : Int), i64 (j : Int)]) (fun j w' => Ext [] y w') (by simp [gW]) (Ext.refl _ _) ?_ ?_
  · intro j hj u v1 hu F nxt hnx
    simp only [List.map_cons, List.map_nil, List.cons.injEq, and_true] at hu
    rw [hu.1, hu.2]
    obtain ⟨b1, o1, rfl, z1, c1, c2⟩ := gn_at (hy.ext0 F).nr hj
    have hm := List.getElem_mem hj
    obtain ⟨q1, q2⟩ := hgs _ hm
    have hle := gW_le (ns.take j) fun x hx => hgs x (List.mem_of_mem_take hx)
    rw [List.length_take] at hle
    have htk := gW_take hj
    unfold graph_Words_l1
    simp (disch := (first | omega | decide | (simp only [rsD] <;> omega) | fail)) only [↓rsC, rsK, rsL, ↓rsGck2_1, tick_eq, tickV_eq, ne_eq, Int.reduceAdd, Int.reduceSub, Int.reduceMul, Int.reduceEq, Int.reduceLT, Int.reduceLE, Int.reduceToNat, Nat.reduceMul, Nat.reduceAdd, Nat.reduceSub, ←decide_not, c1, c2]
    have hgs2 : gsz ns[j] ≤ 193 := by unfold gsz; omega
    have hsz := fun w => Size_spec (ns[j].p.length : Int) (ns[j].d.length : Int) false 0 w
    have e2 : sizeV (ns[j].p.length : Int) (ns[j].d.length : Int) false 0 = (gsz ns[j] : Int) := by
      unfold sizeV gsz
      rw [if_pos ⟨right_f.2 (by omega), rfl⟩]
      omega
    rw [e2] at hsz
    have e1 : (gW (ns.take j) : Int) + (gsz ns[j] : Int) = (gW (ns.take (j + 1)) : Int) := by omega
    refine head_Size_call (Gives.to (hsz _) fun w2 F2 => ?_)
    simp (disch := (first | omega | decide | (simp only [rsD] <;> omega) | fail)) only [↓rsC, rsK, rsL, ↓rsGck2_1, tick_eq, tickV_eq, ne_eq, Int.reduceAdd, Int.reduceSub, Int.reduceMul, Int.reduceEq, Int.reduceLT, Int.reduceLE, Int.reduceToNat, Nat.reduceMul, Nat.reduceAdd, Nat.reduceSub, ←decide_not, c1, c2]
    rw [e1]
    exact hnx _ (F.trans ((Ext.alloc _ _ _).trans F2))
  · intro u v1 hu F nxt
    simp only [List.map_cons, List.map_nil, List.cons.injEq, and_true] at hu
    rw [hu.1, hu.2]
    unfold graph_Words_l1
    simp (disch := (first | omega | decide | (simp only [rsD] <;> omega) | fail)) only [↓rsC, rsK, rsL, ↓rsGck2_1, tick_eq, tickV_eq, ne_eq, Int.reduceAdd, Int.reduceSub, Int.reduceMul, Int.reduceEq, Int.reduceLT, Int.reduceLE, Int.reduceToNat, Nat.reduceMul, Nat.reduceAdd, Nat.reduceSub, ←decide_not, eq_self]
    exact ⟨by rw [List.take_length], X.trans F⟩
abbrev rsGck2_2 := (And.intro @xu8_add (And.intro @xu8_mul (And.intro @xu16_add (And.intro @xu16_mul (And.intro @xu32_add (And.intro @xu32_mul (And.intro @xu64_add (And.intro @xu64_mul (And.intro @ld_23 (And.intro @ld_25 (And.intro @fa_25_1 @ln_23)))))))))))
theorem gneed_spec {w : World} {na ra : Option Addr} {nc rc : Nat} {ns : List GN} {rs : List GR} (h : GIs w na nc ra rc ns rs) (hf : FewH ns rs) (hg : GoodG ns rs) : Gives Try.prog n_image_Need #[gV na nc ra rc ns rs] w (i64 ((2 + 5 * rs.length + gW ns : Nat) : Int)) := by
  have hfn := hf.n
  have hfr := hf.r
  have hle := gW_le ns fun x hx => (hg.x x hx).2
  refine image_Need_of ?_
  unfold image_Need
  simp (disch := (first | omega | decide | (simp only [rsD] <;> omega) | fail)) only [↓rsC, rsK, rsL, ↓rsGck2_2, tick_eq, tickV_eq, ne_eq, Int.reduceAdd, Int.reduceSub, Int.reduceMul, Int.reduceEq, Int.reduceLT, Int.reduceLE, Int.reduceToNat, Nat.reduceMul, Nat.reduceAdd, Nat.reduceSub, ←decide_not, eq_self]
  have B : Blk (w.alloc (.cells #[.slice na ns.length nc, .slice ra rs.length rc] 25)) w.heap.size 25 [.slice na ns.length nc, .slice ra rs.length rc] := Blk.at rfl
  have X : Ext [] w (w.alloc (.cells #[.slice na ns.length nc, .slice ra rs.length rc] 25)) := Ext.alloc _ _ _
  generalize w.heap.size = hb at *
  generalize w.alloc (.cells #[.slice na ns.length nc, .slice ra rs.length rc] 25) = y at *
  have X1 := X.trans (Ext.drew [] _)
  refine graph_Words_call (Gives.to (gwords_spec (h.ext0 X1) hf hg) fun w2 F2d => ?_)
  have F2 := (Ext.drew [] _).trans F2d
  have k2 := fun i => (B.ext F2 (by simp)).cell (i := i)
  have e1 : 2 + 5 * (rs.length : Int) + (gW ns : Int) = ((2 + 5 * rs.length + gW ns : Nat) : Int) := by omega
  simp (disch := (first | omega | decide | (simp only [rsD] <;> omega) | fail)) only [↓rsC, rsK, rsL, ↓rsGck2_2, tick_eq, tickV_eq, ne_eq, Int.reduceAdd, Int.reduceSub, Int.reduceMul, Int.reduceEq, Int.reduceLT, Int.reduceLE, Int.reduceToNat, Nat.reduceMul, Nat.reduceAdd, Nat.reduceSub, ←decide_not, k2]
  exact ⟨by rw [e1], X.trans F2⟩
end Go.Proofs.Ytdpmidgeipibbaa
end
section
set_option linter.unusedVariables false
set_option linter.unusedSimpArgs false
set_option maxHeartbeats 4000000
namespace Go.Proofs.Ytdpmidgeipibbaa
open Go.Sh Go.RowKit

def plL (ns : List GN) (R : Nat) (j : Nat) : List Nat := (List.range j).map fun i => 2 + 5 * R + gW (ns.take i)
def hdrW (R at' : Nat) : BitVec 64 := BitVec.ofNat 64 (R + at' * 65536)
def padS (l : List (BitVec 8)) : List (BitVec 8) := l ++ List.replicate (32 - l.length) (BitVec.ofNat 8 0)
def rtW (pl : List Nat) (r : GR) : List (BitVec 64) := wordsV (padS r.s) ++ [ptW pl r.to]
def ndW (pl : List Nat) (x : GN) : List (BitVec 64) := packW x.p.length x.d.length false 0 :: (x.p.map (ptW pl) ++ wordsV x.d)
def encW (ns : List GN) (rs : List GR) : List (BitVec 64) := [BitVec.ofNat 64 1296125772, hdrW rs.length (2 + 5 * rs.length + gW ns)] ++ rs.flatMap (rtW (plL ns rs.length ns.length)) ++ ns.flatMap (ndW (plL ns rs.length ns.length))
theorem padS_len {l : List (BitVec 8)} (h : l.length ≤ 32) : (padS l).length = 32 := by unfold padS; simp; omega
theorem rtW_len {pl : List Nat} {r : GR} (h : r.s.length ≤ 32) : (rtW pl r).length = 5 := by
  unfold rtW
  rw [List.length_append, wordsV_len, padS_len h]
  rfl
theorem ndW_len {pl : List Nat} {x : GN} : (ndW pl x).length = gsz x := by
  unfold ndW gsz
  simp [wordsV_len]
  omega
theorem rts_len {pl : List Nat} {rs : List GR} (h : ∀ r ∈ rs, r.s.length ≤ 32) : (rs.flatMap (rtW pl)).length = 5 * rs.length := by
  induction rs with
  | nil => rfl
  | cons r rs ih =>
    rw [List.flatMap_cons, List.length_append, rtW_len (h r (by simp)), ih fun x hx => h x (by simp [hx]), List.length_cons]
    omega
theorem nds_len {pl : List Nat} {ns : List GN} : (ns.flatMap (ndW pl)).length = gW ns := by
  induction ns with
  | nil => rfl
  | cons x ns ih =>
    rw [List.flatMap_cons, List.length_append, ndW_len, ih]
    simp [gW]
theorem encW_len {ns : List GN} {rs : List GR} (h : ∀ r ∈ rs, r.s.length ≤ 32) : (encW ns rs).length = 2 + 5 * rs.length + gW ns := by
  unfold encW
  rw [List.length_append, List.length_append, rts_len h, nds_len]
  simp
theorem plL_len (ns : List GN) (R j : Nat) : (plL ns R j).length = j := by simp [plL]
def encC (ns : List GN) (rs : List GR) : Int := if chkV ns rs ≠ 0 then chkV ns rs else if 8192 < 2 + 5 * rs.length + gW ns then 3 else 0
/-- a graph in words, or why not -/
def EncR (w w' : World) (ns : List GN) (rs : List GR) (u : Value) : Prop := (encC ns rs ≠ 0 ∧ u = .tuple #[.slice none 0 0, i64 (encC ns rs)] ∧ Ext [] w w') ∨
  (encC ns rs = 0 ∧ GoodG ns rs ∧ 2 + 5 * rs.length + gW ns ≤ 8192 ∧ ∃ a c, u = .tuple #[.slice a (encW ns rs).length c, i64 0] ∧ (encW ns rs).length ≤ c ∧ (a = none → c = 0) ∧ RowAt w' a (wrds (encW ns rs)) ∧ Ext [] w w')
end Go.Proofs.Ytdpmidgeipibbaa
end
section
set_option linter.unusedVariables false
set_option linter.unusedSimpArgs false
set_option maxHeartbeats 4000000
namespace Go.Proofs.Ytdpmidgeipibbaa
open Go.Sh Go.RowKit

def pN (x : BitVec 64) : Nat := (uP x).toNat
def bN (x : BitVec 64) : Nat := (uB x).toNat
theorem okW_v {x : BitVec 64} (h : okW x) : vP x = pN x ∧ vB x = bN x ∧ vM x = false ∧ vT x = 0 ∧ unErr x = 0 ∧ szW x = 1 + pN x + (bN x + 7) / 8 ∧ pN x ≤ 64 ∧ bN x ≤ 1024 := by
  obtain ⟨_, e2, e3, _, _⟩ := okW_size h
  obtain ⟨h1, h2⟩ := h
  have h3 := h1.1
  rw [h2, right_f] at h3
  simp only [vP, vB, vT, if_pos h1, pN, bN]
  exact ⟨by omega, by omega, e3, by omega, e2, rfl, by omega, by omega⟩
/-- an object that ends by the top -/
structure ObjAt (ws : List (BitVec 64)) (b t o : Nat) : Prop where
  lo : b ≤ o
  ok : okW (wat ws o)
  hi : o + szW (wat ws o) ≤ t
theorem ObjAt.lt {ws : List (BitVec 64)} {b t o : Nat} (h : ObjAt ws b t o) : o < t := by
  have := h.hi
  have := szW_pos (x := wat ws o)
  omega
section
variable {w : World} {base s g : Nat} {a : Option Addr} {c : Nat} {ws : List (BitVec 64)} {b t e : Nat}
abbrev rsObj_0 := (And.intro @xu8_sub (And.intro @xu8_neq (And.intro @xu8_gtr (And.intro @xu16_sub (And.intro @xu16_neq (And.intro @xu16_gtr (And.intro @xu32_sub (And.intro @xu32_neq (And.intro @xu32_gtr (And.intro @xu64_sub (And.intro @xu64_neq (And.intro @xu64_gtr (And.intro @xi64_gtr (And.intro @xi64_neq (And.intro @xi64_neg (And.intro @ld_3 
  (And.intro @ld_4 (And.intro @ld_123 (And.intro @lr_123 (And.intro @fa_102_2 (And.intro @fa_123_2 (And.intro @al_123 (And.intro @st_123 (And.intro @bd_123_0_1 (And.intro @bd_123_2_3 @bd_123)))))))))))))))))))))))))
theorem whole_ok {o : Nat} (S : SpIs w base s g a c ws b t e) (h : ObjAt ws b t o) : Gives Try.prog n_obj_whole #[ptr s, i64 (o : Int)] w (.tuple #[hd (pN (wat ws o)) (bN (wat ws o)) false 0, i64 0]) := by
  obtain ⟨v1, v2, v3, v4, v5, v6, v7, v8⟩ := okW_v h.ok
  have q1 := S.te
  have q2 := S.el
  have q3 := S.mem.len
  have hlt := h.lt
  have hhi := h.hi
  have hh := SHead_in (o := o) S h.lo hlt
  rw [v1, v2, v3, v4, v5] at hh
  refine obj_whole_of ?_
  unfold obj_whole
  simp (disch := (first | omega | decide | (simp only [rsD] <;> omega) | fail)) only [↓rsC, rsK, rsL, ↓rsObj_0, tick_eq, tickV_eq, ne_eq, Int.reduceAdd, Int.reduceSub, Int.reduceMul, Int.reduceEq, Int.reduceLT, Int.reduceLE, Int.reduceToNat, Nat.reduceMul, Nat.reduceAdd, Nat.reduceSub, ←decide_not, eq_self]
  have B : Blk (w.alloc (.cells #[i64 0, i64 0, .bool false, i64 0] 123)) w.heap.size 123 [i64 0, i64 0, .bool false, i64 0] := Blk.at rfl
  have X : Ext [] w (w.alloc (.cells #[i64 0, i64 0, .bool false, i64 0] 123)) := Ext.alloc _ _ _
  have zs := S.blk.lt
  generalize w.alloc (.cells #[i64 0, i64 0, .bool false, i64 0] 123) = y at *
  have hh2 := SHead_in (o := o) (S.ext0 X) h.lo hlt
  rw [v1, v2, v3, v4, v5] at hh2
  refine space_Space_Head_call (Gives.to hh2 fun w1 F1 => ?_)
  have B1 := B.ext F1 (by simp)
  have S1 := (S.ext0 X).ext0 F1
  have z1 := B1.lt
  have zs1 := S1.blk.lt
  have ks := fun i => S1.blk.cell (i := i)
  simp (disch := (first | omega | decide | (simp only [rsD] <;> omega) | fail)) only [↓rsC, rsK, rsL, ↓rsObj_0, tick_eq, tickV_eq, ne_eq, Int.reduceAdd, Int.reduceSub, Int.reduceMul, Int.reduceEq, Int.reduceLT, Int.reduceLE, Int.reduceToNat, Nat.reduceMul, Nat.reduceAdd, Nat.reduceSub, ←decide_not, ks]
  have C : Blk (w1.alloc (.cells #[i64 (pN (wat ws o)), i64 (bN (wat ws o)), .bool false, i64 0] 123)) w1.heap.size 123 [i64 (pN (wat ws o)), i64 (bN (wat ws o)), .bool false, i64 0] := Blk.at rfl
  have X1 : Ext [] w1 (w1.alloc (.cells #[i64 (pN (wat ws o)), i64 (bN (wat ws o)), .bool false, i64 0] 123)) := Ext.alloc _ _ _
  have B2 := B1.ext X1 (by simp)
  have S2 := S1.ext0 X1
  have hsz : Gives Try.prog n_head_Size #[hd (pN (wat ws o)) (bN (wat ws o)) false 0] (w1.alloc (.cells #[i64 (pN (wat ws o)), i64 (bN (wat ws o)), .bool false, i64 0] 123)).drew (i64 (szW (wat ws o) : Int)) := by
    have := SizeW_spec h.ok (w1.alloc (.cells #[i64 (pN (wat ws o)), i64 (bN (wat ws o)), .bool false, i64 0] 123)).drew
    rw [v1, v2, v4] at this
    exact this
  refine head_Size_call (Gives.to hsz fun w3 F3d => ?_)
  have F3 := (Ext.drew [] _).trans F3d
  have B3 := B2.ext F3 (by simp)
  have C3 := C.ext F3 (by simp)
  have S3 := S2.ext0 F3
  have k3 := fun i => S3.blk.cell (i := i)
  have kb := fun i => B3.cell (i := i)
  have fb := fun i => B3.frozen (i := i)
  have kc := fun i => C3.cell (i := i)
  simp (disch := (first | omega | decide | (simp only [rsD] <;> omega) | fail)) only [↓rsC, rsK, rsL, ↓rsObj_0, tick_eq, tickV_eq, ne_eq, Int.reduceAdd, Int.reduceSub, Int.reduceMul, Int.reduceEq, Int.reduceLT, Int.reduceLE, Int.reduceToNat, Nat.reduceMul, Nat.reduceAdd, Nat.reduceSub, ←decide_not, ks, k3, kc, kb, fb]
  exact ⟨by trivial, ((((X.trans (F1.trans (X1.trans F3))).set' (.inr (Nat.le_refl _))).set' (.inr (Nat.le_refl _))).set' (.inr (Nat.le_refl _))).set' (.inr (Nat.le_refl _))⟩

abbrev rsObj_1 := (And.intro @xu8_add (And.intro @xu8_sub (And.intro @xu8_mul (And.intro @xu8_neq (And.intro @xu8_lss (And.intro @xu8_gtr (And.intro @xu16_add (And.intro @xu16_sub (And.intro @xu16_mul (And.intro @xu16_neq (And.intro @xu16_lss (And.intro @xu16_gtr (And.intro @xu32_add (And.intro @xu32_sub (And.intro @xu32_mul (And.intro @xu32_neq 
  (And.intro @xu32_lss (And.intro @xu32_gtr (And.intro @xu64_add (And.intro @xu64_sub (And.intro @xu64_mul (And.intro @xu64_neq (And.intro @xu64_lss (And.intro @xu64_gtr (And.intro @xi64_lss (And.intro @xi64_gtr (And.intro @xi64_neq (And.intro @xi64_neg (And.intro @ld_3 (And.intro @fa_123_0 (And.intro @fa_123_1 (And.intro @al_123 @st_123))))))))))))))))))))))))))))))))
theorem bytes_ok {o from' n : Nat} (S : SpIs w base s g a c ws b t e) (h : ObjAt ws b t o) (hn : from' + n ≤ bN (wat ws o)) : Gives Try.prog n_obj_bytes #[ptr s, i64 (o : Int), i64 (from' : Int), i64 (n : Int)] w (.tuple #[i64 (((o + 1 + pN (wat ws o)) * 8 + from' : Nat) : Int), i64 0]) := by
  obtain ⟨v1, v2, v3, v4, v5, v6, v7, v8⟩ := okW_v h.ok
  have q1 := S.te
  have q2 := S.el
  have q3 := S.mem.len
  have hhi := h.hi
  have e1 : (((o : Int) + 1 + (pN (wat ws o) : Int)) * 8 + from') = (((o + 1 + pN (wat ws o)) * 8 + from' : Nat) : Int) := by omega
  refine obj_bytes_of ?_
  unfold obj_bytes
  refine obj_whole_call (Gives.to (whole_ok S h) fun w1 F1 => ?_)
  simp (disch := (first | omega | decide | (simp only [rsD] <;> omega) | fail)) only [↓rsC, rsK, rsL, ↓rsObj_1, tick_eq, tickV_eq, ne_eq, Int.reduceAdd, Int.reduceSub, Int.reduceMul, Int.reduceEq, Int.reduceLT, Int.reduceLE, Int.reduceToNat, Nat.reduceMul, Nat.reduceAdd, Nat.reduceSub, ←decide_not, eq_self]
  exact ⟨by rw [← e1], by (repeat (first | with_reducible exact Ext.refl _ _ | with_reducible assumption | with_reducible refine Ext.alloc' ?_ _ | with_reducible refine Ext.drew' ?_ | with_reducible refine Ext.set' ?_ ?_ | exact .inr (by first | omega | (simp only [World.size_alloc, World.size_drew, World.size_setCell] <;> omega)) | refine Ext.trans ?_ (by with_reducible assumption)))⟩
end
end Go.Proofs.Ytdpmidgeipibbaa
end
section
set_option linter.unusedVariables false
set_option linter.unusedSimpArgs false
set_option maxHeartbeats 4000000
namespace Go.Proofs.Ytdpmidgeipibbaa
open Go.Sh Go.RowKit

def PtrW (ws : List (BitVec 64)) (l : List Nat) (o : Nat) : Prop := ∀ i, i < pN (wat ws o) → (wat ws (o + 1 + i)).toNat = 0 ∨ ((wat ws (o + 1 + i)).toNat ≤ 8192 ∧ 1 ≤ (wat ws (o + 1 + i)).toNat ∧ (wat ws (o + 1 + i)).toNat - 1 ∈ l)
def PadW (ws : List (BitVec 64)) (o : Nat) : Prop := ∀ j, (o + 1 + pN (wat ws o)) * 8 + bN (wat ws o) ≤ j → j < (o + szW (wat ws o)) * 8 → byteW ws j = BitVec.ofNat 8 0
theorem Objs.count {ws : List (BitVec 64)} {t o : Nat} {l : List Nat} (h : Objs ws t o l) : o + l.length ≤ t := by
  induction h with
  | nil => simp
  | @cons o q h1 h2 h3 ih => have := szW_pos (x := wat ws o); simp only [List.length_cons]; omega
def WellP (ws : List (BitVec 64)) (b t : Nat) : Prop := ∃ l, objs ws b t = some l ∧ ∀ o ∈ l, PtrW ws l o ∧ PadW ws o
def WellIs (ws : List (BitVec 64)) (b t : Nat) (v : Int) : Prop := (WellP ws b t ∧ v = 0) ∨ (¬ WellP ws b t ∧ v = 2)
theorem WellIs.bad {ws : List (BitVec 64)} {b t o : Nat} {l : List Nat} (h : objs ws b t = some l) (ho : o ∈ l) (hb : ¬ (PtrW ws l o ∧ PadW ws o)) : WellIs ws b t 2 := by
  refine .inr ⟨?_, rfl⟩
  rintro ⟨l', h1, h2⟩
  rw [h] at h1
  cases h1
  exact hb (h2 o ho)
def PtrOk (l : List Nat) (x : Nat) : Prop := x = 0 ∨ (x ≤ 8192 ∧ 1 ≤ x ∧ x - 1 ∈ l)
instance (l : List Nat) (x : Nat) : Decidable (PtrOk l x) := by unfold PtrOk; infer_instance
end Go.Proofs.Ytdpmidgeipibbaa
end
section
set_option linter.unusedVariables false
set_option linter.unusedSimpArgs false
set_option maxHeartbeats 4000000
namespace Go.Proofs.Ytdpmidgeipibbaa
open Go.Sh Go.RowKit

/-- walking over words: places, and where it ends for want of an object -/
inductive Sc (x : Nat → BitVec 64) (t : Nat) : Nat → List Nat → Option Nat → Prop
  | done : Sc x t t [] none
  | bad {o : Nat} : o < t → ¬ (okW (x o) ∧ o + szW (x o) ≤ t) → Sc x t o [] (some o)
  | step {o : Nat} {l : List Nat} {b : Option Nat} : okW (x o) → o + szW (x o) ≤ t → Sc x t (o + szW (x o)) l b → Sc x t o (o :: l) b
theorem Sc.le {x : Nat → BitVec 64} {t o : Nat} {l : List Nat} {b : Option Nat} (h : Sc x t o l b) : o ≤ t := by
  cases h with
  | done => exact Nat.le_refl _
  | bad h1 _ => exact Nat.le_of_lt h1
  | step _ h2 _ => have := szW_pos (x := x o); omega
theorem Sc.ex (x : Nat → BitVec 64) (t : Nat) : ∀ (f o : Nat), t ≤ o + f → o ≤ t → ∃ l b, Sc x t o l b
  | 0, o, h1, h2 => by obtain rfl : o = t := by omega
                       exact ⟨_, _, .done⟩
  | f + 1, o, h1, h2 => by
    by_cases h : o = t
    · subst h; exact ⟨_, _, .done⟩
    · by_cases h3 : okW (x o) ∧ o + szW (x o) ≤ t
      · have := szW_pos (x := x o)
        obtain ⟨l, b, h4⟩ := Sc.ex x t f (o + szW (x o)) (by omega) h3.2
        exact ⟨_, _, .step h3.1 h3.2 h4⟩
      · exact ⟨_, _, .bad (by omega) h3⟩
theorem Sc.congr {x y : Nat → BitVec 64} {t o : Nat} {l : List Nat} {b : Option Nat} (h : Sc x t o l b) (e : ∀ i, o ≤ i → i < t → x i = y i) : Sc y t o l b := by
  induction h with
  | done => exact .done
  | @bad o h1 h2 => rw [e o (Nat.le_refl _) h1] at h2; exact .bad h1 h2
  | @step o l b h1 h2 h3 ih =>
    have hp := szW_pos (x := x o)
    have e1 := e o (Nat.le_refl _) (by omega)
    have ih := ih fun i hi => e i (by omega)
    rw [e1] at h1 h2 ih
    exact .step h1 h2 ih
theorem Sc.uniq {x : Nat → BitVec 64} {t o : Nat} {l l' : List Nat} {b b' : Option Nat} (h : Sc x t o l b) (h' : Sc x t o l' b') : l = l' ∧ b = b' := by
  induction h generalizing l' b' with
  | done =>
    cases h' with
    | done => exact ⟨rfl, rfl⟩
    | bad h1 _ => exact absurd h1 (Nat.lt_irrefl _)
    | step _ h2 _ => have := szW_pos (x := x t); omega
  | @bad o h1 h2 =>
    cases h' with
    | done => exact absurd h1 (Nat.lt_irrefl _)
    | bad _ _ => exact ⟨rfl, rfl⟩
    | step h3 h4 _ => exact absurd ⟨h3, h4⟩ h2
  | @step o l b h1 h2 h3 ih =>
    cases h' with
    | done => have := szW_pos (x := x t); omega
    | bad _ h5 => exact absurd ⟨h1, h2⟩ h5
    | step _ _ h6 => obtain ⟨rfl, rfl⟩ := ih h6; exact ⟨rfl, rfl⟩
theorem Sc.step_inv {x : Nat → BitVec 64} {t o : Nat} {l : List Nat} {b : Option Nat} (h : Sc x t o l b) (h1 : o < t) (h2 : okW (x o)) (h3 : o + szW (x o) ≤ t) : ∃ l', l = o :: l' ∧ Sc x t (o + szW (x o)) l' b := by
  cases h with
  | done => exact absurd h1 (Nat.lt_irrefl _)
  | bad _ h5 => exact absurd ⟨h2, h3⟩ h5
  | step _ _ h6 => exact ⟨_, rfl, h6⟩
theorem Sc.all {x : Nat → BitVec 64} {t o : Nat} {l : List Nat} {b : Option Nat} (h : Sc x t o l b) : l.Pairwise (· < ·) ∧ ∀ p ∈ l, o ≤ p ∧ okW (x p) ∧ p + szW (x p) ≤ t := by
  induction h with
  | done => exact ⟨.nil, by simp⟩
  | bad => exact ⟨.nil, by simp⟩
  | @step o l b h1 h2 h3 ih =>
    have hp := szW_pos (x := x o)
    refine ⟨List.pairwise_cons.2 ⟨fun p hq => ?_, ih.1⟩, fun p hq => ?_⟩
    · have := (ih.2 p hq).1
      omega
    · rcases List.mem_cons.1 hq with rfl | hq
      · exact ⟨Nat.le_refl _, h1, h2⟩
      · have := ih.2 p hq
        exact ⟨by omega, this.2⟩
theorem Sc.count {x : Nat → BitVec 64} {t o : Nat} {l : List Nat} {b : Option Nat} (h : Sc x t o l b) : o + l.length ≤ t := by
  induction h with
  | done => simp
  | bad h1 _ => simp; omega
  | @step o l b h1 h2 h3 ih => have := szW_pos (x := x o); simp only [List.length_cons]; omega
theorem Sc.objs {ws : List (BitVec 64)} {t o : Nat} {l : List Nat} (h : Sc (wat ws) t o l none) : Objs ws t o l := by
  generalize hb : (none : Option Nat) = b at h
  induction h with
  | done => exact .nil
  | bad => cases hb
  | step h1 h2 _ ih => exact .cons h1 h2 (ih hb)
theorem Objs.sc {ws : List (BitVec 64)} {t o : Nat} {l : List Nat} (h : Objs ws t o l) : Sc (wat ws) t o l none := by
  induction h with
  | nil => exact .done
  | cons h1 h2 _ ih => exact .step h1 h2 ih
/-! findings -/
abbrev Fnd := Nat × List (BitVec 8)
def sHead : List (BitVec 8) := [104#8, 101#8, 97#8, 100#8]
def sPtr : List (BitVec 8) := [112#8, 116#8, 114#8]
def sPad : List (BitVec 8) := [112#8, 97#8, 100#8]
def padX (x : Nat → BitVec 64) (o : Nat) : Prop := bN (x o) % 8 ≠ 0 ∧ x (o + szW (x o) - 1) >>> (8 * (bN (x o) % 8)) ≠ 0#64
instance (x : Nat → BitVec 64) (o : Nat) : Decidable (padX x o) := by unfold padX; infer_instance
def badF : Option Nat → List Fnd
  | none => []
  | some o => [(o, sHead)]
def ptrF (x : Nat → BitVec 64) (l : List Nat) (o : Nat) : Nat → List Fnd
  | 0 => []
  | k + 1 => ptrF x l o k ++ (if PtrOk l (x (o + 1 + k)).toNat then [] else [(o + 1 + k, sPtr)])
def padF (x : Nat → BitVec 64) (o : Nat) : List Fnd := if padX x o then [(o + szW (x o) - 1, sPad)] else []
def objF (x : Nat → BitVec 64) (l : List Nat) (o : Nat) : List Fnd := ptrF x l o (pN (x o)) ++ padF x o
def allF (x : Nat → BitVec 64) (l : List Nat) (b : Option Nat) : List Fnd := badF b ++ l.flatMap (objF x l)
theorem ptrF_len (x : Nat → BitVec 64) (l : List Nat) (o : Nat) : ∀ k, (ptrF x l o k).length ≤ k
  | 0 => Nat.le_refl _
  | k + 1 => by
    have := ptrF_len x l o k
    rw [ptrF, List.length_append]
    split <;> simp <;> omega
theorem ptrF_nil (x : Nat → BitVec 64) (l : List Nat) (o : Nat) : ∀ k, ptrF x l o k = [] ↔ ∀ i, i < k → PtrOk l (x (o + 1 + i)).toNat
  | 0 => by simp [ptrF]
  | k + 1 => by
    rw [ptrF, List.append_eq_nil_iff, ptrF_nil x l o k]
    constructor
    · rintro ⟨h1, h2⟩ i hi
      by_cases e : i = k
      · subst e
        by_cases h3 : PtrOk l (x (o + 1 + i)).toNat
        · exact h3
        · rw [if_neg h3] at h2; cases h2
      · exact h1 i (by omega)
    · intro h
      exact ⟨fun i hi => h i (by omega), if_pos (h k (by omega))⟩
theorem objF_len (x : Nat → BitVec 64) (l : List Nat) (o : Nat) : (objF x l o).length ≤ pN (x o) + 1 := by
  have := ptrF_len x l o (pN (x o))
  unfold objF padF
  rw [List.length_append]
  split <;> simp <;> omega
theorem szW_ge {y : BitVec 64} : pN y + 1 ≤ szW y := by unfold szW pN; omega
theorem Sc.fnd {x : Nat → BitVec 64} {t o : Nat} {l : List Nat} {b : Option Nat} (h : Sc x t o l b) (l' : List Nat) : ∀ j, ((l.take j).flatMap (objF x l')).length ≤ t - o := by
  induction h with
  | done => simp
  | bad => simp
  | @step o l b h1 h2 h3 ih =>
    intro j
    cases j with
    | zero => simp
    | succ j =>
      have := ih j
      have h4 := objF_len x l' o
      have h5 := szW_ge (y := x o)
      rw [List.take_succ_cons, List.flatMap_cons, List.length_append]
      omega
/-- the last word's bytes behind the object's -/
theorem pad_iff {ws : List (BitVec 64)} {o : Nat} (h : okW (wat ws o)) : padX (wat ws) o ↔ ¬ PadW ws o := by
  obtain ⟨v1, v2, v3, v4, v5, v6, v7, v8⟩ := okW_v h
  unfold padX PadW
  rw [v6]
  generalize pN (wat ws o) = p at *
  generalize bN (wat ws o) = b at *
  have hA : (o + 1 + p) * 8 + b = 8 * (o + 1 + p + b / 8) + b % 8 := by omega
  have hbit : ∀ j, byteW ws j = BitVec.ofNat 8 0 ↔ ∀ i, i < 8 → (wat ws (j / 8)).getLsbD (8 * (j % 8) + i) = false := by
    intro j
    have e : byteW ws j = ((wat ws (j / 8)) >>> (8 * (j % 8))).setWidth 8 := rfl
    rw [e]
    constructor
    · intro h i hi
      have := congrArg (fun z => z.getLsbD i) h
      simp only [BitVec.getLsbD_setWidth, BitVec.getLsbD_ushiftRight, hi, decide_true, Bool.true_and] at this
      rw [this]
      simp
    · intro h
      apply BitVec.eq_of_getLsbD_eq
      intro i hi
      simp only [BitVec.getLsbD_setWidth, BitVec.getLsbD_ushiftRight, hi, decide_true, Bool.true_and, h i hi]
      simp
  by_cases hz : b % 8 = 0
  · constructor
    · rintro ⟨h1, _⟩; exact absurd hz h1
    · intro h1
      exact absurd (fun j h2 h3 => by omega) h1
  · have hq : o + (1 + p + (b + 7) / 8) - 1 = o + 1 + p + b / 8 := by omega
    rw [hq]
    generalize hQ : o + 1 + p + b / 8 = q at *
    constructor
    · rintro ⟨_, h1⟩ h2
      apply h1
      apply BitVec.eq_of_getLsbD_eq
      intro i hi
      rw [BitVec.getLsbD_ushiftRight]
      simp only [BitVec.getLsbD_zero]
      by_cases h3 : 8 * (b % 8) + i < 64
      · have h4 := (hbit (8 * q + (8 * (b % 8) + i) / 8)).1 (h2 _ (by omega) (by omega)) ((8 * (b % 8) + i) % 8) (by omega)
        rw [show (8 * q + (8 * (b % 8) + i) / 8) / 8 = q by omega, show 8 * ((8 * q + (8 * (b % 8) + i) / 8) % 8) + (8 * (b % 8) + i) % 8 = 8 * (b % 8) + i by omega] at h4
        exact h4
      · exact BitVec.getLsbD_of_ge _ _ (by omega)
    · intro h1
      refine ⟨hz, fun h2 => h1 fun j h3 h4 => (hbit j).2 fun i hi => ?_⟩
      have h5 := congrArg (fun z => z.getLsbD (8 * (j % 8) + i - 8 * (b % 8))) h2
      simp only [BitVec.getLsbD_ushiftRight, BitVec.getLsbD_zero] at h5
      rw [show 8 * (b % 8) + (8 * (j % 8) + i - 8 * (b % 8)) = 8 * (j % 8) + i by omega] at h5
      rw [show j / 8 = q by omega]
      exact h5
end Go.Proofs.Ytdpmidgeipibbaa
end
section
set_option linter.unusedVariables false
set_option linter.unusedSimpArgs false
set_option maxHeartbeats 4000000
namespace Go.Proofs.Ytdpmidgeipibbaa
open Go.Sh Go.RowKit

abbrev fC (f : Fnd) : List Value := [i64 (f.1 : Int), .string (strOf f.2)]
abbrev OwnF (w : World) (v : Value) (F : List Fnd) : Prop := Own w 40 2 v F.length (F.flatMap fC)
theorem fC_len (F : List Fnd) : (F.flatMap fC).length = F.length * 2 := by
  induction F with
  | nil => rfl
  | cons f F ih => rw [List.flatMap_cons, List.length_append, ih, List.length_cons]; simp [fC]; omega
/-- a header, as a map keeps it -/
abbrev hdX (x : Nat → BitVec 64) (p : Nat) : Int × Value := ((p : Int), hd (pN (x p)) (bN (x p)) false 0)
structure WkIs (w0 w : World) (k r : Nat) (v : Value) (a : Option Addr) (c : Nat) (L : List (BitVec 64)) (base : Nat) (l : List Nat) (F : List Fnd) : Prop where
  blk : Blk w k 96 [.slice a L.length c, i64 (base : Int), .map (some r), v]
  map : MapIs w r (l.map (hdX fun p => wat L (p - base)))
  own : OwnF w v F
  kr : k ≠ r
  kv : k ∉ Go.Sh.blk v
  rv : r ∉ Go.Sh.blk v
  up : w0.heap.size ≤ k ∧ w0.heap.size ≤ r ∧ ∀ y ∈ Go.Sh.blk v, w0.heap.size ≤ y
  row : RowAt w a (wrds L)
  ra : ∀ b o, a = some ⟨b, o, none⟩ → L ≠ [] → b < w0.heap.size
  ext : Ext [] w0 w
section
variable {w0 w : World} {k r : Nat} {v : Value} {a : Option Addr} {c : Nat} {L : List (BitVec 64)} {base : Nat} {l : List Nat} {F : List Fnd}
theorem WkIs.ext0 {w' : World} (h : WkIs w0 w k r v a c L base l F) (hx : Ext [] w w') : WkIs w0 w' k r v a c L base l F :=
  ⟨h.blk.ext hx (by simp), h.map.ext0 hx, h.own.ext0 hx, h.kr, h.kv, h.rv, h.up, h.row.ext0 hx, h.ra, h.ext.trans hx⟩
theorem WkIs.rowx {w' : World} {M : List Nat} (h : WkIs w0 w k r v a c L base l F) (hx : Ext M w w') (hM : ∀ y ∈ M, w0.heap.size ≤ y) : RowAt w' a (wrds L) := by
  by_cases hL : L = []
  · subst hL; exact RowAt.nil
  · exact h.row.ext hx fun b o hb hm => by
      have := h.ra b o hb hL
      have := hM b hm
      omega
end
end Go.Proofs.Ytdpmidgeipibbaa
end
section
set_option linter.unusedVariables false
set_option linter.unusedSimpArgs false
set_option maxHeartbeats 4000000
namespace Go.Proofs.Ytdpmidgeipibbaa
open Go.Sh Go.RowKit

section
variable {w0 w : World} {k r : Nat} {v : Value} {a : Option Addr} {c : Nat} {L : List (BitVec 64)} {base : Nat} {l : List Nat} {F : List Fnd}
theorem WkIs.put {w' : World} {p : Nat} (h : WkIs w0 w k r v a c L base l F) (M : MapIs w' r ((l ++ [p]).map (hdX fun p => wat L (p - base)))) (hx : Ext [r] w w') : WkIs w0 w' k r v a c L base (l ++ [p]) F :=
  ⟨h.blk.ext hx (by simpa using h.kr), M, h.own.ext hx (fun y hy hm => by simp only [List.mem_singleton] at hm; subst hm; exact h.rv hy), h.kr, h.kv, h.rv, h.up, h.rowx hx (fun y hy => by simp only [List.mem_singleton] at hy; subst hy; exact h.up.2.1), h.ra, h.ext.new hx (fun y hy => by simp only [List.mem_singleton] at hy; subst hy; exact h.up.2.1)⟩
end
end Go.Proofs.Ytdpmidgeipibbaa
end
section
set_option linter.unusedVariables false
set_option linter.unusedSimpArgs false
set_option maxHeartbeats 4000000
namespace Go.Proofs.Ytdpmidgeipibbaa
open Go.Sh Go.RowKit

section
end
end Go.Proofs.Ytdpmidgeipibbaa
end
section
set_option linter.unusedVariables false
set_option linter.unusedSimpArgs false
set_option maxHeartbeats 4000000
namespace Go.Proofs.Ytdpmidgeipibbaa
open Go.Sh Go.RowKit

/-- findings, as a row -/
def FndR (w w' : World) (u : Value) (F : List Fnd) : Prop := Ext [] w w' ∧ ∃ a2 c2, u = .slice a2 F.length c2 ∧ F.length ≤ c2 ∧ (a2 = none → c2 = 0) ∧ RowAt w' a2 (F.flatMap fC)
section
end
end Go.Proofs.Ytdpmidgeipibbaa
end
section
set_option linter.unusedVariables false
set_option linter.unusedSimpArgs false
set_option maxHeartbeats 4000000
namespace Go.Proofs.Ytdpmidgeipibbaa
open Go.Sh Go.RowKit

def sMagic : List (BitVec 8) := [109#8, 97#8, 103#8, 105#8, 99#8]
def sSize : List (BitVec 8) := [115#8, 105#8, 122#8, 101#8]
def nR (l : List (BitVec 64)) : Nat := (fieldB (wat l 1) 0 16).toNat
def sizeOk (l : List (BitVec 64)) : Prop := 2 ≤ l.length ∧ fieldB (wat l 1) 48 16 = BitVec.ofNat 64 0 ∧ fieldB (wat l 1) 16 32 = BitVec.ofNat 64 l.length ∧ nR l ≤ 64 ∧ 2 + 5 * nR l ≤ l.length
instance (l : List (BitVec 64)) : Decidable (sizeOk l) := by unfold sizeOk; infer_instance
def magF (l : List (BitVec 64)) : List Fnd := if l.length < 1 ∨ wat l 0 ≠ BitVec.ofNat 64 1296125772 then [(0, sMagic)] else []
theorem nR_lt (l : List (BitVec 64)) : nR l < 65536 := by
  have h : (fieldB (wat l 1) 0 16).toNat = _ := field_nat (wat l 1) (a := 0) (n := 16) (by decide) (by decide)
  unfold nR
  rw [h]
  exact Nat.mod_lt _ (by decide)
theorem row_w {w : World} {a : Option Addr} {l : List (BitVec 64)} (h : RowAt w a (wrds l)) {i : Nat} (hi : i < l.length) : ∃ b o, a = some ⟨b, o, none⟩ ∧ b < w.heap.size ∧ w.cell? ⟨b, o + i, none⟩ = some (u64 (wat l i)) := by
  obtain ⟨b5, o5, h5, z5, k5⟩ := h.at (i := i) (by simpa using hi)
  refine ⟨b5, o5, h5, z5, ?_⟩
  simp only [List.getElem_map] at k5
  rw [k5]
  unfold wat
  rw [List.getD_eq_getElem?_getD, List.getElem?_eq_getElem hi]
  rfl
end Go.Proofs.Ytdpmidgeipibbaa
end
section
set_option linter.unusedVariables false
set_option linter.unusedSimpArgs false
set_option maxHeartbeats 4000000
namespace Go.Proofs.Ytdpmidgeipibbaa
open Go.Sh Go.RowKit

abbrev rsObjX_0 := (And.intro @xu8_add (And.intro @xu8_eql (And.intro @xu8_lss (And.intro @xu16_add (And.intro @xu16_eql (And.intro @xu16_lss (And.intro @xu32_add (And.intro @xu32_eql (And.intro @xu32_lss (And.intro @xu64_add (And.intro @xu64_eql (And.intro @xu64_lss (And.intro @xi64_lss (And.intro @xi64_eql (And.intro @ld_3 (And.intro @ia_66 @ln_66))))))))))))))))
theorem rAmong_spec {w : World} {l : List Nat} {a : Option Addr} {c : Nat} (h : RowAt w a (nums l)) (hl : l.length ≤ 1000000) (x : Nat) : Gives Try.prog n_loamref14_among #[.slice a l.length c, i64 (x : Int)] w (.bool (decide (x ∈ l))) := by
  refine loamref14_among_of ?_
  unfold loamref14_among
  simp (disch := (first | omega | decide | (simp only [rsD] <;> omega) | fail)) only [↓rsC, rsK, rsL, ↓rsObjX_0, tick_eq, tickV_eq, ne_eq, Int.reduceAdd, Int.reduceSub, Int.reduceMul, Int.reduceEq, Int.reduceLT, Int.reduceLE, Int.reduceToNat, Nat.reduceMul, Nat.reduceAdd, Nat.reduceSub, ←decide_not, eq_self]
  refine xLoop_n l.length (fun j => [i64 (j : Int)]) (fun j w' => Ext [] w w' ∧ ∀ i (hi : i < l.length), i < j → l[i] ≠ x) rfl ⟨Ext.refl _ _, by intro i _ hi; omega⟩ ?_ ?_
  · intro j hj u v1 hu ⟨F, hq⟩ nxt hnx
    simp only [List.map_cons, List.map_nil, List.cons.injEq, and_true] at hu
    rw [hu]
    obtain ⟨b1, o1, rfl, z1, k1⟩ := (h.ext0 F).at (i := j) (by simpa using hj)
    simp only [List.getElem_map] at k1
    have hm := List.getElem_mem hj
    unfold loamref14_among_l1
    by_cases he : l[j] = x
    · rw [he] at k1 hm
      simp (disch := (first | omega | decide | (simp only [rsD] <;> omega) | fail)) only [↓rsC, rsK, rsL, ↓rsObjX_0, tick_eq, tickV_eq, ne_eq, Int.reduceAdd, Int.reduceSub, Int.reduceMul, Int.reduceEq, Int.reduceLT, Int.reduceLE, Int.reduceToNat, Nat.reduceMul, Nat.reduceAdd, Nat.reduceSub, ←decide_not, k1]
      exact ⟨by rw [decide_eq_true hm], F⟩
    · generalize hy : l[j] = y at *
      simp (disch := (first | omega | decide | (simp only [rsD] <;> omega) | fail)) only [↓rsC, rsK, rsL, ↓rsObjX_0, tick_eq, tickV_eq, ne_eq, Int.reduceAdd, Int.reduceSub, Int.reduceMul, Int.reduceEq, Int.reduceLT, Int.reduceLE, Int.reduceToNat, Nat.reduceMul, Nat.reduceAdd, Nat.reduceSub, ←decide_not, k1]
      refine hnx _ ⟨F, fun i hi hij => ?_⟩
      by_cases e : i = j
      · subst e; rw [hy]; exact he
      · exact hq i hi (by omega)
  · intro u v1 hu ⟨F, hq⟩ nxt
    simp only [List.map_cons, List.map_nil, List.cons.injEq, and_true] at hu
    rw [hu]
    have hm : ¬ x ∈ l := fun hx => by
      obtain ⟨i, hi, he⟩ := List.getElem_of_mem hx
      exact hq i hi hi he
    unfold loamref14_among_l1
    simp (disch := (first | omega | decide | (simp only [rsD] <;> omega) | fail)) only [↓rsC, rsK, rsL, ↓rsObjX_0, tick_eq, tickV_eq, ne_eq, Int.reduceAdd, Int.reduceSub, Int.reduceMul, Int.reduceEq, Int.reduceLT, Int.reduceLE, Int.reduceToNat, Nat.reduceMul, Nat.reduceAdd, Nat.reduceSub, ←decide_not, eq_self]
    exact ⟨by rw [decide_eq_false hm], F⟩
abbrev rsObjX_1 := (And.intro @xu8_sub (And.intro @xu8_eql (And.intro @xu8_lss (And.intro @xu16_sub (And.intro @xu16_eql (And.intro @xu16_lss (And.intro @xu32_sub (And.intro @xu32_eql (And.intro @xu32_lss (And.intro @xu64_sub (And.intro @xu64_eql (And.intro @xu64_lss (And.intro @xi64_lss (And.intro @xi64_eql @cv_69_3))))))))))))))
theorem rPoints_spec {w : World} {l : List Nat} {a : Option Addr} {c : Nat} (h : RowAt w a (nums l)) (hl : l.length ≤ 1000000) (hb : ∀ y ∈ l, y < 8192) (x : BitVec 64) : Gives Try.prog n_loamref14_Points #[.slice a l.length c, u64 x] w (.bool (decide (PtrOk l x.toNat))) := by
  have hx := x.isLt
  refine loamref14_Points_of ?_
  unfold loamref14_Points
  by_cases h0 : x.toNat = 0
  · have hx0 : x = BitVec.ofNat 64 0 := BitVec.eq_of_toNat_eq h0
    subst hx0
    simp (disch := (first | omega | decide | (simp only [rsD] <;> omega) | fail)) only [↓rsC, rsK, rsL, ↓rsObjX_1, tick_eq, tickV_eq, ne_eq, Int.reduceAdd, Int.reduceSub, Int.reduceMul, Int.reduceEq, Int.reduceLT, Int.reduceLE, Int.reduceToNat, Nat.reduceMul, Nat.reduceAdd, Nat.reduceSub, ←decide_not, eq_self]
    exact ⟨by rw [decide_eq_true (.inl rfl)], Ext.refl _ _⟩
  have hne : x ≠ BitVec.ofNat 64 0 := fun h => h0 (by rw [h]; rfl)
  have hs : (x - BitVec.ofNat 64 1).toNat = x.toNat - 1 := by
    rw [BitVec.toNat_sub]
    have : (BitVec.ofNat 64 1).toNat = 1 := by decide
    omega
  have h30 : (BitVec.ofNat 64 1073741824).toNat = 1073741824 := by decide
  by_cases h1 : x.toNat - 1 < 1073741824
  · have hlt : decide ((x - BitVec.ofNat 64 1).toNat < (BitVec.ofNat 64 1073741824).toNat) = true := decide_eq_true (by omega)
    have hi : (x - BitVec.ofNat 64 1).toInt = ((x.toNat - 1 : Nat) : Int) := by rw [BitVec.toInt_eq_toNat_of_lt (by omega), hs]
    simp (disch := (first | omega | decide | (simp only [rsD] <;> omega) | fail)) only [↓rsC, rsK, rsL, ↓rsObjX_1, tick_eq, tickV_eq, ne_eq, Int.reduceAdd, Int.reduceSub, Int.reduceMul, Int.reduceEq, Int.reduceLT, Int.reduceLE, Int.reduceToNat, Nat.reduceMul, Nat.reduceAdd, Nat.reduceSub, ←decide_not, decide_eq_false hne, hlt, hi]
    refine loamref14_among_call (Gives.to (rAmong_spec h hl _) fun w1 F1 => ?_)
    simp (disch := (first | omega | decide | (simp only [rsD] <;> omega) | fail)) only [↓rsC, rsK, rsL, ↓rsObjX_1, tick_eq, tickV_eq, ne_eq, Int.reduceAdd, Int.reduceSub, Int.reduceMul, Int.reduceEq, Int.reduceLT, Int.reduceLE, Int.reduceToNat, Nat.reduceMul, Nat.reduceAdd, Nat.reduceSub, ←decide_not, decide_eq_false hne, hlt, hi]
    refine ⟨?_, F1⟩
    congr 1
    rw [decide_eq_decide]
    constructor
    · intro hm
      have := hb _ hm
      exact .inr ⟨by omega, by omega, hm⟩
    · rintro (h | ⟨_, _, h⟩)
      · exact absurd h h0
      · exact h
  · have hlt : decide ((x - BitVec.ofNat 64 1).toNat < (BitVec.ofNat 64 1073741824).toNat) = false := decide_eq_false (by omega)
    have hp : ¬ PtrOk l x.toNat := by
      rintro (h | ⟨h, _, _⟩)
      · exact h0 h
      · omega
    simp (disch := (first | omega | decide | (simp only [rsD] <;> omega) | fail)) only [↓rsC, rsK, rsL, ↓rsObjX_1, tick_eq, tickV_eq, ne_eq, Int.reduceAdd, Int.reduceSub, Int.reduceMul, Int.reduceEq, Int.reduceLT, Int.reduceLE, Int.reduceToNat, Nat.reduceMul, Nat.reduceAdd, Nat.reduceSub, ←decide_not, decide_eq_false hne, hlt]
    exact ⟨by rw [decide_eq_false hp], Ext.refl _ _⟩
section
variable {w : World} {m : Nat} {r : Option Addr} {c : Nat} {ws : List (BitVec 64)} {b t e : Nat}
abbrev rsObjX_2 := (And.intro @xu8_add (And.intro @xu8_mul (And.intro @xu8_neq (And.intro @xu8_lss (And.intro @xu16_add (And.intro @xu16_mul (And.intro @xu16_neq (And.intro @xu16_lss (And.intro @xu32_add (And.intro @xu32_mul (And.intro @xu32_neq (And.intro @xu32_lss (And.intro @xu64_add (And.intro @xu64_mul (And.intro @xu64_neq (And.intro @xu64_lss 
  (And.intro @xi64_lss (And.intro @xi64_neq (And.intro @xi64_neg (And.intro @ld_3 (And.intro @ld_28 (And.intro @ld_84 (And.intro @fa_46_0 (And.intro @fa_84_0 @fa_84_1))))))))))))))))))))))))
theorem rPad_spec {o : Nat} (S : RfIs w m r c ws b t e) (hO : ObjAt ws b t o) : Yld Try.prog n_loamref14_Space_Pad #[ptr m, i64 (o : Int), hd (pN (wat ws o)) (bN (wat ws o)) false 0] w fun u w' => (∃ k : Bool, u = .bool k ∧ (k = true ↔ ¬ PadW ws o)) ∧ Ext [] w w' := by
  obtain ⟨v1, v2, v3, v4, v5, v6, v7, v8⟩ := okW_v hO.ok
  have q2 := S.te
  have q3 := S.el
  have q4 := S.len
  have hhi := hO.hi
  have hsz : ∀ w, Gives Try.prog n_loamref14_Size #[hd (pN (wat ws o)) (bN (wat ws o)) false 0] w (i64 (szW (wat ws o) : Int)) := fun w => by
    have := rSizeW_spec hO.ok w
    rw [v1, v2, v4] at this
    exact this
  refine loamref14_Space_Pad_of ?_
  unfold loamref14_Space_Pad
  simp (disch := (first | omega | decide | (simp only [rsD] <;> omega) | fail)) only [↓rsC, rsK, rsL, ↓rsObjX_2, tick_eq, tickV_eq, ne_eq, Int.reduceAdd, Int.reduceSub, Int.reduceMul, Int.reduceEq, Int.reduceLT, Int.reduceLE, Int.reduceToNat, Nat.reduceMul, Nat.reduceAdd, Nat.reduceSub, ←decide_not, eq_self]
  have B : Blk (w.alloc (.cells #[i64 (pN (wat ws o)), i64 (bN (wat ws o)), .bool false, i64 0] 84)) w.heap.size 84 [i64 (pN (wat ws o)), i64 (bN (wat ws o)), .bool false, i64 0] := Blk.at rfl
  have X : Ext [] w (w.alloc (.cells #[i64 (pN (wat ws o)), i64 (bN (wat ws o)), .bool false, i64 0] 84)) := Ext.alloc _ _ _
  generalize w.alloc (.cells #[i64 (pN (wat ws o)), i64 (bN (wat ws o)), .bool false, i64 0] 84) = y at *
  have e0 : 8 * ((o : Int) + 1 + (pN (wat ws o) : Int)) + (bN (wat ws o) : Int) = (((o + 1 + pN (wat ws o)) * 8 + bN (wat ws o) + 0 : Nat) : Int) := by omega
  rw [e0]
  refine xLoop_n ((o + szW (wat ws o)) * 8 - ((o + 1 + pN (wat ws o)) * 8 + bN (wat ws o))) (fun j => [i64 (((o + 1 + pN (wat ws o)) * 8 + bN (wat ws o) + j : Nat) : Int)]) (fun j w' => Ext [] y w' ∧ ∀ i, (o + 1 + pN (wat ws o)) * 8 + bN (wat ws o) ≤ i → i < (o + 1 + pN (wat ws o)) * 8 + bN (wat ws o) + j → byteW ws i = BitVec.ofNat 8 0) rfl ⟨Ext.refl _ _, by intro i _ _; omega⟩ ?_ ?_
  · intro j hj u v1 hu ⟨F, hq⟩ nxt hnx
    simp only [List.map_cons, List.map_nil, List.cons.injEq, and_true] at hu
    rw [hu]
    generalize hA : (o + 1 + pN (wat ws o)) * 8 + bN (wat ws o) = A at *
    have kb := fun i => (B.ext F (by simp)).cell (i := i)
    unfold loamref14_Space_Pad_l1
    simp (disch := (first | omega | decide | (simp only [rsD] <;> omega) | fail)) only [↓rsC, rsK, rsL, ↓rsObjX_2, tick_eq, tickV_eq, ne_eq, Int.reduceAdd, Int.reduceSub, Int.reduceMul, Int.reduceEq, Int.reduceLT, Int.reduceLE, Int.reduceToNat, Nat.reduceMul, Nat.reduceAdd, Nat.reduceSub, ←decide_not, kb]
    refine loamref14_Size_call (Gives.to (hsz _) fun w2 F2 => ?_)
    have S2 := S.ext0 (X.trans (F.trans F2))
    have k2 := fun i => S2.blk.cell (i := i)
    simp (disch := (first | omega | decide | (simp only [rsD] <;> omega) | fail)) only [↓rsC, rsK, rsL, ↓rsObjX_2, tick_eq, tickV_eq, ne_eq, Int.reduceAdd, Int.reduceSub, Int.reduceMul, Int.reduceEq, Int.reduceLT, Int.reduceLE, Int.reduceToNat, Nat.reduceMul, Nat.reduceAdd, Nat.reduceSub, ←decide_not, kb, k2]
    refine loamref14_byteAt_call (Gives.to (rByteAt_spec ws r c (A + j) S2.row (by omega) (by omega)) fun w3 F3 => ?_)
    have X3 := F.trans (F2.trans F3)
    by_cases hz : byteW ws (A + j) = BitVec.ofNat 8 0
    · rw [hz]
      simp (disch := (first | omega | decide | (simp only [rsD] <;> omega) | fail)) only [↓rsC, rsK, rsL, ↓rsObjX_2, tick_eq, tickV_eq, ne_eq, Int.reduceAdd, Int.reduceSub, Int.reduceMul, Int.reduceEq, Int.reduceLT, Int.reduceLE, Int.reduceToNat, Nat.reduceMul, Nat.reduceAdd, Nat.reduceSub, ←decide_not, kb, k2]
      have e2 : ((A + j : Nat) : Int) + 1 = ((A + (j + 1) : Nat) : Int) := by omega
      rw [e2]
      refine hnx _ ⟨X3, fun i h1 h2 => ?_⟩
      by_cases e : i = A + j
      · subst e; exact hz
      · exact hq i h1 (by omega)
    · generalize hbw : byteW ws (A + j) = bw at *
      simp (disch := (first | omega | decide | (simp only [rsD] <;> omega) | fail)) only [↓rsC, rsK, rsL, ↓rsObjX_2, tick_eq, tickV_eq, ne_eq, Int.reduceAdd, Int.reduceSub, Int.reduceMul, Int.reduceEq, Int.reduceLT, Int.reduceLE, Int.reduceToNat, Nat.reduceMul, Nat.reduceAdd, Nat.reduceSub, ←decide_not, kb, k2, decide_eq_true hz]
      refine ⟨⟨true, by trivial, ⟨fun _ h => ?_, fun _ => rfl⟩⟩, X.trans X3⟩
      exact hz (hbw ▸ h (A + j) (by omega) (by omega))
  · intro u v1 hu ⟨F, hq⟩ nxt
    simp only [List.map_cons, List.map_nil, List.cons.injEq, and_true] at hu
    rw [hu]
    generalize hA : (o + 1 + pN (wat ws o)) * 8 + bN (wat ws o) = A at *
    have kb := fun i => (B.ext F (by simp)).cell (i := i)
    unfold loamref14_Space_Pad_l1
    simp (disch := (first | omega | decide | (simp only [rsD] <;> omega) | fail)) only [↓rsC, rsK, rsL, ↓rsObjX_2, tick_eq, tickV_eq, ne_eq, Int.reduceAdd, Int.reduceSub, Int.reduceMul, Int.reduceEq, Int.reduceLT, Int.reduceLE, Int.reduceToNat, Nat.reduceMul, Nat.reduceAdd, Nat.reduceSub, ←decide_not, kb]
    refine loamref14_Size_call (Gives.to (hsz _) fun w2 F2 => ?_)
    simp (disch := (first | omega | decide | (simp only [rsD] <;> omega) | fail)) only [↓rsC, rsK, rsL, ↓rsObjX_2, tick_eq, tickV_eq, ne_eq, Int.reduceAdd, Int.reduceSub, Int.reduceMul, Int.reduceEq, Int.reduceLT, Int.reduceLE, Int.reduceToNat, Nat.reduceMul, Nat.reduceAdd, Nat.reduceSub, ←decide_not, kb]
    refine ⟨⟨false, by trivial, ⟨(fun h => by cases h), fun h => absurd (fun i h1 h2 => hq i (by omega) (by omega)) h⟩⟩, X.trans (F.trans F2)⟩
end
end Go.Proofs.Ytdpmidgeipibbaa
end
section
set_option linter.unusedVariables false
set_option linter.unusedSimpArgs false
set_option maxHeartbeats 4000000
namespace Go.Proofs.Ytdpmidgeipibbaa
open Go.Sh Go.RowKit

theorem bdF (i : Int) (s : ByteArray) (w : World) (K : K1) : xBuild Try.prog 105 [(0, .int .i64 i), (1, .string s)] w K = K (.agg #[.int .i64 i, .string s]) w := xBuild_ok (by kernel_rfl)
def badI : Option Nat → Int
  | none => -1
  | some o => o
abbrev rsChk6_0 := (And.intro @xu8_add (And.intro @xu8_sub (And.intro @xu8_neq (And.intro @xu8_lss (And.intro @xu8_gtr (And.intro @xu16_add (And.intro @xu16_sub (And.intro @xu16_neq (And.intro @xu16_lss (And.intro @xu16_gtr (And.intro @xu32_add (And.intro @xu32_sub (And.intro @xu32_neq (And.intro @xu32_lss (And.intro @xu32_gtr (And.intro @xu64_add 
  (And.intro @xu64_sub (And.intro @xu64_neq (And.intro @xu64_lss (And.intro @xu64_gtr (And.intro @xi64_lss (And.intro @xi64_gtr (And.intro @xi64_neq (And.intro @xi64_neg (And.intro @ld_4 (And.intro @ld_69 (And.intro @ld_84 (And.intro @fa_84_2 (And.intro @al_84 (And.intro @st_84 (And.intro @ia_28 (And.intro @bs_66_0 @bs_66_1))))))))))))))))))))))))))))))))
theorem rFoundN_spec (ws : List (BitVec 64)) (a : Option Addr) (c b t : Nat) (w : World) (h : RowAt w a (wrds ws)) (hl : ws.length ≤ 8192) (hb : b ≤ t) (ht : t ≤ ws.length) :
    Yld Try.prog n_loamref17_Found #[.slice a ws.length c, i64 (b : Int), i64 (t : Int)] w fun u w' => ∃ l bad a2 c2, Sc (wat ws) t b l bad ∧ u = .tuple #[.slice a2 l.length c2, i64 (badI bad)] ∧ RowAt w' a2 (nums l) ∧ Ext [] w w' ∧ ∀ x, a2 = some x → w.heap.size ≤ x.block := by
  obtain ⟨l, bad, hS⟩ := Sc.ex (wat ws) t (t - b) b (by omega) hb
  have hall : ∀ (v : Value) (w' : World), NewI w w' v l → ∃ a2 c2, v = .slice a2 l.length c2 ∧ RowAt w' a2 (nums l) ∧ Ext [] w w' ∧ ∀ x, a2 = some x → w.heap.size ≤ x.block := by
    intro v w' N
    obtain ⟨a2, c2, rfl, _, _, _, hr2, _⟩ := N.2.1.slice
    exact ⟨a2, c2, rfl, hr2, N.1, fun x hx => N.2.2 x.block (by subst hx; simp [blk, Value.ownBlock])⟩
  refine loamref17_Found_of ?_
  unfold loamref17_Found
  refine xLoop_r (t - b + 1) (fun j vs w' => ∃ (out : Value) (o : Nat) (p lr : List Nat), vs = [out, i64 (o : Int)] ∧ b + j ≤ o ∧ o ≤ t ∧ l = p ++ lr ∧ Sc (wat ws) t o lr bad ∧ NewI w w' out p) ⟨_, b, [], l, rfl, Nat.le_refl _, hb, rfl, hS, NewR.nil (Ext.refl _ _)⟩ ?_ ?_
  rotate_left
  · rintro u v1 ⟨out, o, p, lr, hu, h1, h2, _⟩ nxt
    omega
  rintro j hj u v1 ⟨out, o, p, lr, hu, h1, h2, hlp, hSc, N⟩ nxt hnx
  simp only [List.map_cons, List.map_nil, List.cons.injEq, and_true] at hu
  rw [hu.1, hu.2]
  have hpl : p.length ≤ 8192 := by have := hS.count; rw [hlp, List.length_append] at this; omega
  unfold loamref17_Found_l1
  by_cases ho : o < t
  rotate_left
  · have e1 : o = t := by omega
    subst e1
    obtain ⟨rfl, rfl⟩ := hSc.uniq .done
    rw [List.append_nil] at hlp
    subst hlp
    obtain ⟨a2, c2, rfl, hr2, X2⟩ := hall _ _ N
    simp (disch := (first | omega | decide | (simp only [rsD] <;> omega) | fail)) only [↓rsC, rsK, rsL, ↓rsChk6_0, tick_eq, tickV_eq, ne_eq, Int.reduceAdd, Int.reduceSub, Int.reduceMul, Int.reduceEq, Int.reduceLT, Int.reduceLE, Int.reduceToNat, Nat.reduceMul, Nat.reduceAdd, Nat.reduceSub, ←decide_not, eq_self]
    exact ⟨l, none, a2, c2, hS, by trivial, hr2, X2⟩
  obtain ⟨b1, o1, rfl, z1, k1⟩ := row_w (h.ext0 N.1) (i := o) (by omega)
  simp (disch := (first | omega | decide | (simp only [rsD] <;> omega) | fail)) only [↓rsC, rsK, rsL, ↓rsChk6_0, tick_eq, tickV_eq, ne_eq, Int.reduceAdd, Int.reduceSub, Int.reduceMul, Int.reduceEq, Int.reduceLT, Int.reduceLE, Int.reduceToNat, Nat.reduceMul, Nat.reduceAdd, Nat.reduceSub, ←decide_not, k1]
  have hun := rUnpack_spec (wat ws o) v1
  have stop : ∀ w' : World, Ext [] v1 w' → ¬ (okW (wat ws o) ∧ o + szW (wat ws o) ≤ t) → ∃ l bad a2 c2, Sc (wat ws) t b l bad ∧ Value.tuple #[out, i64 (o : Int)] = .tuple #[.slice a2 l.length c2, i64 (badI bad)] ∧ RowAt w' a2 (nums l) ∧ Ext [] w w' ∧ ∀ x, a2 = some x → w.heap.size ≤ x.block := by
    intro w' F hn
    obtain ⟨rfl, rfl⟩ := hSc.uniq (.bad ho hn)
    rw [List.append_nil] at hlp
    subst hlp
    obtain ⟨a2, c2, rfl, hr2, X2⟩ := hall _ _ (N.ext F)
    exact ⟨l, some o, a2, c2, hS, rfl, hr2, X2⟩
  by_cases hok : okW (wat ws o)
  · obtain ⟨v1', v2', v3', v4', v5', v6', v7', v8'⟩ := okW_v hok
    rw [v1', v2', v3', v4', v5'] at hun
    have hsz : ∀ w, Gives Try.prog n_loamref14_Size #[hd (pN (wat ws o)) (bN (wat ws o)) false 0] w (i64 (szW (wat ws o) : Int)) := fun w => by
      have := rSizeW_spec hok w
      rw [v1', v2', v4'] at this
      exact this
    refine loamref14_Unpack_call (Gives.to hun fun w2 F2 => ?_)
    simp (disch := (first | omega | decide | (simp only [rsD] <;> omega) | fail)) only [↓rsC, rsK, rsL, ↓rsChk6_0, tick_eq, tickV_eq, ne_eq, Int.reduceAdd, Int.reduceSub, Int.reduceMul, Int.reduceEq, Int.reduceLT, Int.reduceLE, Int.reduceToNat, Nat.reduceMul, Nat.reduceAdd, Nat.reduceSub, ←decide_not, k1]
    have B : Blk (w2.alloc (.cells #[i64 (pN (wat ws o)), i64 (bN (wat ws o)), .bool false, i64 0] 84)) w2.heap.size 84 [i64 (pN (wat ws o)), i64 (bN (wat ws o)), .bool false, i64 0] := Blk.at rfl
    have X2 : Ext [] w2 (w2.alloc (.cells #[i64 (pN (wat ws o)), i64 (bN (wat ws o)), .bool false, i64 0] 84)) := Ext.alloc _ _ _
    refine loamref14_Size_call (Gives.to (hsz _) fun w3 F3 => ?_)
    have B3 := B.ext F3 (by simp)
    have X3 := F2.trans (X2.trans F3)
    have N3 := N.ext X3
    have zo := N.2.1.lt
    have z2 := F2.size
    by_cases hs : o + szW (wat ws o) ≤ t
    · obtain ⟨lr', rfl, h5⟩ := hSc.step_inv ho hok hs
      simp (disch := (first | omega | decide | (simp only [rsD] <;> omega) | fail)) only [↓rsC, rsK, rsL, ↓rsChk6_0, tick_eq, tickV_eq, ne_eq, Int.reduceAdd, Int.reduceSub, Int.reduceMul, Int.reduceEq, Int.reduceLT, Int.reduceLE, Int.reduceToNat, Nat.reduceMul, Nat.reduceAdd, Nat.reduceSub, ←decide_not, k1]
      refine appIl N3.2.1 rfl (by omega) fun v' w4 O4 F4 => ?_
      have B4 := B3.ext F4.ext (fun hm => by have := zo _ hm; omega)
      have k4 := fun i => B4.cell (i := i)
      simp (disch := (first | omega | decide | (simp only [rsD] <;> omega) | fail)) only [↓rsC, rsK, rsL, ↓rsChk6_0, tick_eq, tickV_eq, ne_eq, Int.reduceAdd, Int.reduceSub, Int.reduceMul, Int.reduceEq, Int.reduceLT, Int.reduceLE, Int.reduceToNat, Nat.reduceMul, Nat.reduceAdd, Nat.reduceSub, ←decide_not, k1, k4]
      refine loamref14_Size_call (Gives.to (hsz _) fun w5 F5 => ?_)
      simp (disch := (first | omega | decide | (simp only [rsD] <;> omega) | fail)) only [↓rsC, rsK, rsL, ↓rsChk6_0, tick_eq, tickV_eq, ne_eq, Int.reduceAdd, Int.reduceSub, Int.reduceMul, Int.reduceEq, Int.reduceLT, Int.reduceLE, Int.reduceToNat, Nat.reduceMul, Nat.reduceAdd, Nat.reduceSub, ←decide_not, k1, k4]
      have e6 : (o : Int) + (szW (wat ws o) : Int) = ((o + szW (wat ws o) : Nat) : Int) := by omega
      rw [e6]
      have hpos := szW_pos (x := wat ws o)
      exact hnx _ _ ⟨v', o + szW (wat ws o), p ++ [o], lr', rfl, by omega, hs, by rw [hlp]; simp, h5, (N3.app O4 F4).ext F5⟩
    · simp (disch := (first | omega | decide | (simp only [rsD] <;> omega) | fail)) only [↓rsC, rsK, rsL, ↓rsChk6_0, tick_eq, tickV_eq, ne_eq, Int.reduceAdd, Int.reduceSub, Int.reduceMul, Int.reduceEq, Int.reduceLT, Int.reduceLE, Int.reduceToNat, Nat.reduceMul, Nat.reduceAdd, Nat.reduceSub, ←decide_not, k1]
      exact stop _ X3 (fun h => hs h.2)
  · by_cases he : unErr (wat ws o) = 0
    · rw [he, okW_not hok he] at hun
      refine loamref14_Unpack_call (Gives.to hun fun w2 F2 => ?_)
      simp (disch := (first | omega | decide | (simp only [rsD] <;> omega) | fail)) only [↓rsC, rsK, rsL, ↓rsChk6_0, tick_eq, tickV_eq, ne_eq, Int.reduceAdd, Int.reduceSub, Int.reduceMul, Int.reduceEq, Int.reduceLT, Int.reduceLE, Int.reduceToNat, Nat.reduceMul, Nat.reduceAdd, Nat.reduceSub, ←decide_not, k1]
      exact stop _ (F2.trans (Ext.alloc _ _ _)) (fun h => hok h.1)
    · refine loamref14_Unpack_call (Gives.to hun fun w2 F2 => ?_)
      simp (disch := (first | omega | decide | (simp only [rsD] <;> omega) | fail)) only [↓rsC, rsK, rsL, ↓rsChk6_0, tick_eq, tickV_eq, ne_eq, Int.reduceAdd, Int.reduceSub, Int.reduceMul, Int.reduceEq, Int.reduceLT, Int.reduceLE, Int.reduceToNat, Nat.reduceMul, Nat.reduceAdd, Nat.reduceSub, ←decide_not, k1]
      exact stop _ (F2.trans (Ext.alloc _ _ _)) (fun h => hok h.1)
theorem rFound_spec (ws : List (BitVec 64)) (a : Option Addr) (c b t : Nat) (w : World) (h : RowAt w a (wrds ws)) (hl : ws.length ≤ 8192) (hb : b ≤ t) (ht : t ≤ ws.length) :
    Yld Try.prog n_loamref17_Found #[.slice a ws.length c, i64 (b : Int), i64 (t : Int)] w fun u w' => ∃ l bad a2 c2, Sc (wat ws) t b l bad ∧ u = .tuple #[.slice a2 l.length c2, i64 (badI bad)] ∧ RowAt w' a2 (nums l) ∧ Ext [] w w' :=
  Yld.mono (rFoundN_spec ws a c b t w h hl hb ht) fun u w' ⟨l, bad, a2, c2, h1, h2, h3, h4, _⟩ => ⟨l, bad, a2, c2, h1, h2, h3, h4⟩
abbrev NewFr (w w' : World) (v : Value) (F : List Fnd) : Prop := NewR 105 2 w w' v F.length (F.flatMap fC)
theorem appFr {w w0 : World} {K : K1} {v : Value} {F : List Fnd} {f : Fnd} {g : Nat} {cs : List Value} (N : NewFr w0 w v F) (hcs : cs = fC f) (hl : F.length ≤ 1000000)
    (hK : ∀ v' w', NewFr w0 w' v' (F ++ [f]) → Stp (blk v) (blk v') w w' → K v' w') (hg : g = w.heap.size := by first | rfl | (simp only [World.size_alloc, World.size_drew, World.size_setCell] <;> omega)) : xBuiltin Try.prog .append #[49, 49] 49 [false, false] [v, .slice (some ⟨g, 0, none⟩) 1 1] (w.alloc (.cells cs.toArray 105)) K := by
  subst hcs hg
  refine xAppL (s := 2) (n := F.length) (m := 1) (xs := F.flatMap fC) (news := fC f) (bytes := 24) (z := .agg #[.int .i64 0, .string ⟨#[]⟩]) (by kernel_rfl) (by kernel_rfl) (by rfl) (by decide) N.2.1 (by rfl) (by simp [fC, Value.oneCell']) (by omega) (by omega) fun v' w' h1 h2 => hK v' w' ?_ h2
  have h3 := N.app h1 h2
  show NewR 105 2 w0 w' v' (F ++ [f]).length ((F ++ [f]).flatMap fC)
  rw [List.length_append, List.flatMap_append]
  simpa using h3
abbrev rsChk6_1 := (And.intro @xu8_add (And.intro @xu8_sub (And.intro @xu8_com (And.intro @xu8_lss (And.intro @xu8_geq (And.intro @xu16_add (And.intro @xu16_sub (And.intro @xu16_com (And.intro @xu16_lss (And.intro @xu16_geq (And.intro @xu32_add (And.intro @xu32_sub (And.intro @xu32_com (And.intro @xu32_lss (And.intro @xu32_geq (And.intro @xu64_add 
  (And.intro @xu64_sub (And.intro @xu64_com (And.intro @xu64_lss (And.intro @xu64_geq (And.intro @xi64_lss (And.intro @xi64_geq (And.intro @ld_3 (And.intro @ld_69 (And.intro @ld_84 (And.intro @fa_84_0 (And.intro @al_84 (And.intro @st_84 (And.intro @bd_46_0_1_2_3 (And.intro @ia_28 (And.intro @ia_66 (And.intro @ln_66 @bs_49_1))))))))))))))))))))))))))))))))
theorem rSpaceF_spec (ws : List (BitVec 64)) (a : Option Addr) (c b t : Nat) (w : World) (h : RowAt w a (wrds ws)) (hc : ws.length ≤ c) (hn : a = none → c = 0) (hl : ws.length ≤ 8192) (hb : b ≤ t) (ht : t ≤ ws.length) :
    Yld Try.prog n_loamref17_Space #[.slice a ws.length c, i64 (b : Int), i64 (t : Int)] w fun u w' => ∃ l bad, Sc (wat ws) t b l bad ∧ FndR w w' u (allF (wat ws) l bad) := by
  refine loamref17_Space_of ?_
  unfold loamref17_Space
  refine loamref17_Found_call (Yld.mono (rFound_spec ws a c b t w h hl hb ht) ?_)
  rintro u w1 ⟨l, bad, a2, c2, hS, rfl, R1, F1⟩
  have hcount := hS.count
  obtain ⟨hsort, hall⟩ := hS.all
  have hlb : ∀ y ∈ l, y < 8192 := fun y hy => by
    have := hall y hy
    have := szW_pos (x := wat ws y)
    omega
  have hR1 := h.ext0 F1
  have hax : ∀ x, ws ≠ [] → x ∈ blkOf a → x < w1.heap.size := fun x hw hx => by
    rcases hR1.get (by simpa using hw) with ⟨b5, o5, rfl, hb5, _⟩
    simp only [blkOf, List.mem_singleton] at hx
    omega
  have lbad : (badF bad).length ≤ 1 := by cases bad <;> simp [badF]
  have j3 : ∀ (v : Value) (w2 : World), NewFr w1 w2 v (badF bad) → loamref17_Space_j3 (fun u w' => ∃ l bad, Sc (wat ws) t b l bad ∧ FndR w w' u (allF (wat ws) l bad)) (.slice a ws.length c) (i64 (b : Int)) (i64 (t : Int)) v (.slice a2 l.length c2) w2 := by
    intro v w2 N2
    unfold loamref17_Space_j3
    have hr2 := hR1.ext0 N2.1
    have Rf : RfIs (w2.alloc (.cells #[.slice a ws.length c, i64 (b : Int), i64 (t : Int), i64 (t : Int)] 46)) w2.heap.size a c ws b t t := by
      refine ⟨Blk.at rfl, hr2.ext0 (Ext.alloc _ _ _), hc, hn, ?_, by omega, by omega, by omega, by omega⟩
      intro hl2 hm2
      have := hax _ hl2 hm2
      have := N2.1.size
      omega
    have X3 : Ext [] w2 (w2.alloc (.cells #[.slice a ws.length c, i64 (b : Int), i64 (t : Int), i64 (t : Int)] 46)) := Ext.alloc _ _ _
    have zN := N2.2.1.lt
    simp (disch := (first | omega | decide | (simp only [rsD] <;> omega) | fail)) only [↓rsC, rsK, rsL, ↓rsChk6_1, tick_eq, tickV_eq, ne_eq, Int.reduceAdd, Int.reduceSub, Int.reduceMul, Int.reduceEq, Int.reduceLT, Int.reduceLE, Int.reduceToNat, Nat.reduceMul, Nat.reduceAdd, Nat.reduceSub, ←decide_not, eq_self]
    generalize hm : w2.heap.size = m at *
    generalize w2.alloc (.cells #[.slice a ws.length c, i64 (b : Int), i64 (t : Int), i64 (t : Int)] 46) = y at *
    have Ny := N2.ext X3
    have hmv : m ∉ blk v := fun h => by have := zN m h; omega
    have nextR : ∀ {v v' : Value} {w3 w4 : World} {F : List Fnd}, RfIs w3 m a c ws b t t → NewFr w1 w3 v F → m ∉ blk v → Stp (blk v) (blk v') w3 w4 → RfIs w4 m a c ws b t t ∧ m ∉ blk v' := by
      intro v v' w3 w4 F R N hv T
      refine ⟨R.ext T.ext hv (fun hw x hx hm2 => ?_), fun h => ?_⟩
      · have := hax x hw hx
        have := N.2.2 x hm2
        omega
      · rcases T.at' m h with h1 | h1
        · exact hv h1
        · have := R.blk.lt
          omega
    refine xLoop_r l.length (fun j vs w' => ∃ v, vs = [v, i64 (j : Int)] ∧ NewFr w1 w' v (badF bad ++ (l.take j).flatMap (objF (wat ws) l)) ∧ RfIs w' m a c ws b t t ∧ m ∉ blk v) ⟨v, rfl, by simpa using Ny, Rf, hmv⟩ ?_ ?_
    rotate_left
    · rintro u w3 ⟨v3, hu, N3, R3, hv3⟩ nxt
      simp only [List.map_cons, List.map_nil, List.cons.injEq, and_true] at hu
      rw [hu.1, hu.2]
      rw [List.take_length] at N3
      obtain ⟨a4, c4, rfl, hc4, _, hn4, hr4, _⟩ := N3.2.1.slice
      unfold loamref17_Space_l3
      simp (disch := (first | omega | decide | (simp only [rsD] <;> omega) | fail)) only [↓rsC, rsK, rsL, ↓rsChk6_1, tick_eq, tickV_eq, ne_eq, Int.reduceAdd, Int.reduceSub, Int.reduceMul, Int.reduceEq, Int.reduceLT, Int.reduceLE, Int.reduceToNat, Nat.reduceMul, Nat.reduceAdd, Nat.reduceSub, ←decide_not, eq_self]
      exact ⟨l, bad, hS, F1.trans N3.1, a4, c4, rfl, hc4, hn4, hr4⟩
    rintro j hj u w3 ⟨v3, hu, N3, R3, hv3⟩ nxt hnx
    simp only [List.map_cons, List.map_nil, List.cons.injEq, and_true] at hu
    rw [hu.1, hu.2]
    have hm3 := List.getElem_mem hj
    obtain ⟨g1, hok, g3⟩ := hall _ hm3
    have hsucc : badF bad ++ (l.take (j + 1)).flatMap (objF (wat ws) l) = (badF bad ++ (l.take j).flatMap (objF (wat ws) l)) ++ objF (wat ws) l l[j] := by
      rw [List.take_add_one, List.getElem?_eq_getElem hj, List.flatMap_append, List.append_assoc]
      simp
    have hfl : (badF bad ++ (l.take j).flatMap (objF (wat ws) l)).length ≤ 100000 := by
      have h1 := hS.fnd l j
      rw [List.length_append]
      omega
    have hne : l ≠ [] := fun h => by subst h; simp at hj
    obtain ⟨bL, oL, rfl, zL, kL⟩ := (R1.get (by simpa using hne))
    have kl : ∀ {w' : World}, Ext [] w1 w' → w'.cell? ⟨bL, oL + j, none⟩ = some (i64 (l[j] : Int)) := fun {w'} F' => by
      obtain ⟨b5, o5, h5, z5, k5⟩ := (R1.ext0 F').at (i := j) (by simpa using hj)
      cases h5
      simpa only [List.getElem_map] using k5
    obtain ⟨v1', v2', v3', v4', v5', v6', v7', v8'⟩ := okW_v hok
    have hO : ObjAt ws b t l[j] := ⟨g1, hok, g3⟩
    generalize badF bad ++ (l.take j).flatMap (objF (wat ws) l) = F0 at *
    generalize l[j] = o at *
    have hot := hO.lt
    obtain ⟨b1, o1, ha1, z1, k1⟩ := row_w (hR1.ext0 N3.1) (i := o) (by omega)
    have kl3 := kl N3.1
    have hun := rUnpack_spec (wat ws o) w3
    rw [v1', v2', v3', v4', v5'] at hun
    have hsz : ∀ w, Gives Try.prog n_loamref14_Size #[hd (pN (wat ws o)) (bN (wat ws o)) false 0] w (i64 (szW (wat ws o) : Int)) := fun w => by
      have := rSizeW_spec hok w
      rw [v1', v2', v4'] at this
      exact this
    have hpl := ptrF_len (wat ws) l o
    unfold loamref17_Space_l3
    simp (disch := (first | omega | decide | (simp only [rsD] <;> omega) | fail)) only [↓rsC, rsK, rsL, ↓rsChk6_1, tick_eq, tickV_eq, ne_eq, Int.reduceAdd, Int.reduceSub, Int.reduceMul, Int.reduceEq, Int.reduceLT, Int.reduceLE, Int.reduceToNat, Nat.reduceMul, Nat.reduceAdd, Nat.reduceSub, ←decide_not, kl3, ha1, k1]
    refine loamref14_Unpack_call (Gives.to hun fun w4 F4 => ?_)
    simp (disch := (first | omega | decide | (simp only [rsD] <;> omega) | fail)) only [↓rsC, rsK, rsL, ↓rsChk6_1, tick_eq, tickV_eq, ne_eq, Int.reduceAdd, Int.reduceSub, Int.reduceMul, Int.reduceEq, Int.reduceLT, Int.reduceLE, Int.reduceToNat, Nat.reduceMul, Nat.reduceAdd, Nat.reduceSub, ←decide_not, kl3, ha1, k1]
    have B : Blk (w4.alloc (.cells #[i64 (pN (wat ws o)), i64 (bN (wat ws o)), .bool false, i64 0] 84)) w4.heap.size 84 [i64 (pN (wat ws o)), i64 (bN (wat ws o)), .bool false, i64 0] := Blk.at rfl
    have X4 : Ext [] w4 (w4.alloc (.cells #[i64 (pN (wat ws o)), i64 (bN (wat ws o)), .bool false, i64 0] 84)) := Ext.alloc _ _ _
    have N4 := N3.ext (F4.trans X4)
    have R4 := (R3.ext0 F4).ext0 X4
    have z3 := N3.2.1.lt
    have z4 := F4.size
    have hb4 : w4.heap.size ∉ blk v3 := fun h => by have := z3 _ h; omega
    generalize hh : w4.heap.size = hd4 at *
    generalize w4.alloc (.cells #[i64 (pN (wat ws o)), i64 (bN (wat ws o)), .bool false, i64 0] 84) = y4 at *
    refine xLoop_r (pN (wat ws o)) (fun i vs w' => ∃ v, vs = [v, i64 (i : Int)] ∧ NewFr w1 w' v (F0 ++ ptrF (wat ws) l o i) ∧ RfIs w' m a c ws b t t ∧ m ∉ blk v ∧ Blk w' hd4 84 [i64 (pN (wat ws o)), i64 (bN (wat ws o)), .bool false, i64 0] ∧ hd4 ∉ blk v) ⟨v3, rfl, by simpa [ptrF] using N4, R4, hv3, B, hb4⟩ ?_ ?_
    · rintro i hi u w5 ⟨v5, hu, N5, R5, hv5, B5, hb5⟩ nxt2 hnx2
      simp only [List.map_cons, List.map_nil, List.cons.injEq, and_true] at hu
      rw [hu.1, hu.2]
      have k5 := fun i => B5.cell (i := i)
      have kl5 := kl N5.1
      obtain ⟨b6, o6, ha6, z6, k6⟩ := row_w (hR1.ext0 N5.1) (i := o + 1 + i) (by omega)
      rw [ha1] at ha6
      cases ha6
      have t1 : ((o : Int) + 1 + (i : Int)).toNat = o + 1 + i := by omega
      have e2 : (o : Int) + 1 + (i : Int) = ((o + 1 + i : Nat) : Int) := by omega
      have hpi := hpl i
      have hs : ptrF (wat ws) l o (i + 1) = ptrF (wat ws) l o i ++ (if PtrOk l (wat ws (o + 1 + i)).toNat then [] else [(o + 1 + i, sPtr)]) := rfl
      unfold loamref17_Space_l4
      simp (disch := (first | omega | decide | (simp only [rsD] <;> omega) | fail)) only [↓rsC, rsK, rsL, ↓rsChk6_1, tick_eq, tickV_eq, ne_eq, Int.reduceAdd, Int.reduceSub, Int.reduceMul, Int.reduceEq, Int.reduceLT, Int.reduceLE, Int.reduceToNat, Nat.reduceMul, Nat.reduceAdd, Nat.reduceSub, ←decide_not, kl3, ha1, k1, k5, kl5, t1, k6]
      refine loamref14_Points_call (Gives.to (rPoints_spec (R1.ext0 N5.1) (by omega) hlb _) fun w6 F6 => ?_)
      have N6 := N5.ext F6
      have R6 := R5.ext0 F6
      have B6 := B5.ext F6 (by simp)
      have kl6 := kl N6.1
      by_cases hp : PtrOk l (wat ws (o + 1 + i)).toNat
      · rw [decide_eq_true hp]
        rw [if_pos hp, List.append_nil] at hs
        unfold loamref17_Space_j4
        simp (disch := (first | omega | decide | (simp only [rsD] <;> omega) | fail)) only [↓rsC, rsK, rsL, ↓rsChk6_1, tick_eq, tickV_eq, ne_eq, Int.reduceAdd, Int.reduceSub, Int.reduceMul, Int.reduceEq, Int.reduceLT, Int.reduceLE, Int.reduceToNat, Nat.reduceMul, Nat.reduceAdd, Nat.reduceSub, ←decide_not, kl3, ha1, k1, k5, kl5, t1, k6]
        exact hnx2 _ _ ⟨v5, rfl, by rw [hs]; exact N6, R6, hv5, B6, hb5⟩
      · rw [decide_eq_false hp]
        rw [if_neg hp] at hs
        have cP : ({ data := #[112, 116, 114] } : ByteArray) = strOf sPtr := by decide +kernel
        simp (disch := (first | omega | decide | (simp only [rsD] <;> omega) | fail)) only [↓rsC, rsK, rsL, ↓rsChk6_1, tick_eq, tickV_eq, ne_eq, Int.reduceAdd, Int.reduceSub, Int.reduceMul, Int.reduceEq, Int.reduceLT, Int.reduceLE, Int.reduceToNat, Nat.reduceMul, Nat.reduceAdd, Nat.reduceSub, ←decide_not, kl3, ha1, k1, k5, kl5, t1, k6, kl6, e2, bdF]
        rw [cP]
        refine appFr N6 (f := (o + 1 + i, sPtr)) rfl (by rw [List.length_append]; omega) fun v7 w7 N7 T7 => ?_
        obtain ⟨R7, hv7⟩ := nextR R6 N6 hv5 T7
        unfold loamref17_Space_j4
        simp (disch := (first | omega | decide | (simp only [rsD] <;> omega) | fail)) only [↓rsC, rsK, rsL, ↓rsChk6_1, tick_eq, tickV_eq, ne_eq, Int.reduceAdd, Int.reduceSub, Int.reduceMul, Int.reduceEq, Int.reduceLT, Int.reduceLE, Int.reduceToNat, Nat.reduceMul, Nat.reduceAdd, Nat.reduceSub, ←decide_not, kl3, ha1, k1, k5, kl5, t1, k6, kl6, e2, bdF]
        refine hnx2 _ _ ⟨v7, rfl, by rw [hs, ← List.append_assoc]; exact N7, R7, hv7, B6.ext T7.ext hb5, fun h => ?_⟩
        rcases T7.at' _ h with h1 | h1
        · exact hb5 h1
        · have := B6.lt; omega
    · rintro u w5 ⟨v5, hu, N5, R5, hv5, B5, hb5⟩ nxt2
      simp only [List.map_cons, List.map_nil, List.cons.injEq, and_true] at hu
      rw [hu.1, hu.2]
      have k5 := fun i => B5.cell (i := i)
      have kl5 := kl (N5.1.trans (Ext.drew [] w5))
      have k5d := fun i => (B5.ext (Ext.drew [] w5) (by simp)).cell (i := i)
      have hpi := hpl (pN (wat ws o))
      have hobj : objF (wat ws) l o = ptrF (wat ws) l o (pN (wat ws o)) ++ padF (wat ws) o := rfl
      unfold loamref17_Space_l4
      simp (disch := (first | omega | decide | (simp only [rsD] <;> omega) | fail)) only [↓rsC, rsK, rsL, ↓rsChk6_1, tick_eq, tickV_eq, ne_eq, Int.reduceAdd, Int.reduceSub, Int.reduceMul, Int.reduceEq, Int.reduceLT, Int.reduceLE, Int.reduceToNat, Nat.reduceMul, Nat.reduceAdd, Nat.reduceSub, ←decide_not, kl3, ha1, k1, k5, kl5, k5d]
      refine loamref14_Space_Pad_call (Yld.mono (rPad_spec (R5.ext0 (Ext.drew [] w5)) hO) ?_)
      rintro u w6 ⟨⟨kk, rfl, hk⟩, F6d⟩
      have F6 := (Ext.drew [] _).trans F6d
      have N6 := N5.ext F6
      have R6 := R5.ext0 F6
      have B6 := B5.ext F6 (by simp)
      cases kk with
      | false =>
        have hpd : padF (wat ws) o = [] := by
          unfold padF
          rw [if_neg]
          intro h1
          have := hk.2 ((pad_iff hok).1 h1)
          cases this
        rw [hpd, List.append_nil] at hobj
        unfold loamref17_Space_j5
        simp (disch := (first | omega | decide | (simp only [rsD] <;> omega) | fail)) only [↓rsC, rsK, rsL, ↓rsChk6_1, tick_eq, tickV_eq, ne_eq, Int.reduceAdd, Int.reduceSub, Int.reduceMul, Int.reduceEq, Int.reduceLT, Int.reduceLE, Int.reduceToNat, Nat.reduceMul, Nat.reduceAdd, Nat.reduceSub, ←decide_not, kl3, ha1, k1, k5, kl5, k5d]
        exact hnx _ _ ⟨v5, rfl, by rw [hsucc, hobj]; exact N6, R6, hv5⟩
      | true =>
        have hpd : padF (wat ws) o = [(o + szW (wat ws o) - 1, sPad)] := by
          unfold padF
          rw [if_pos ((pad_iff hok).2 (hk.1 rfl))]
        rw [hpd] at hobj
        have kl6 := kl (N6.1.trans (Ext.drew [] w6))
        have k6d := fun i => (B6.ext (Ext.drew [] w6) (by simp)).cell (i := i)
        have e2 : (o : Int) + (szW (wat ws o) : Int) - 1 = ((o + szW (wat ws o) - 1 : Nat) : Int) := by have := szW_pos (x := wat ws o); omega
        have cP : ({ data := #[112, 97, 100] } : ByteArray) = strOf sPad := by decide +kernel
        simp (disch := (first | omega | decide | (simp only [rsD] <;> omega) | fail)) only [↓rsC, rsK, rsL, ↓rsChk6_1, tick_eq, tickV_eq, ne_eq, Int.reduceAdd, Int.reduceSub, Int.reduceMul, Int.reduceEq, Int.reduceLT, Int.reduceLE, Int.reduceToNat, Nat.reduceMul, Nat.reduceAdd, Nat.reduceSub, ←decide_not, kl3, ha1, k1, k5, kl5, k5d, kl6, k6d]
        refine loamref14_Size_call (Gives.to (hsz _) fun w7 F7d => ?_)
        have F7 := (Ext.drew [] _).trans F7d
        have N7 := N6.ext F7
        have R7 := R6.ext0 F7
        have kl7 := kl N7.1
        simp (disch := (first | omega | decide | (simp only [rsD] <;> omega) | fail)) only [↓rsC, rsK, rsL, ↓rsChk6_1, tick_eq, tickV_eq, ne_eq, Int.reduceAdd, Int.reduceSub, Int.reduceMul, Int.reduceEq, Int.reduceLT, Int.reduceLE, Int.reduceToNat, Nat.reduceMul, Nat.reduceAdd, Nat.reduceSub, ←decide_not, kl3, ha1, k1, k5, kl5, k5d, kl6, k6d, kl7, e2, bdF]
        rw [cP]
        refine appFr N7 (f := (o + szW (wat ws o) - 1, sPad)) rfl (by rw [List.length_append]; omega) fun v8 w8 N8 T8 => ?_
        obtain ⟨R8, hv8⟩ := nextR R7 N7 hv5 T8
        unfold loamref17_Space_j5
        simp (disch := (first | omega | decide | (simp only [rsD] <;> omega) | fail)) only [↓rsC, rsK, rsL, ↓rsChk6_1, tick_eq, tickV_eq, ne_eq, Int.reduceAdd, Int.reduceSub, Int.reduceMul, Int.reduceEq, Int.reduceLT, Int.reduceLE, Int.reduceToNat, Nat.reduceMul, Nat.reduceAdd, Nat.reduceSub, ←decide_not, kl3, ha1, k1, k5, kl5, k5d, kl6, k6d, kl7, e2, bdF]
        exact hnx _ _ ⟨v8, rfl, by rw [hsucc, hobj, ← List.append_assoc]; exact N8, R8, hv8⟩
  have cH : ({ data := #[104, 101, 97, 100] } : ByteArray) = strOf sHead := by decide +kernel
  cases bad with
  | none =>
    have eb : badI none = -1 := rfl
    rw [eb]
    simp (disch := (first | omega | decide | (simp only [rsD] <;> omega) | fail)) only [↓rsC, rsK, rsL, ↓rsChk6_1, tick_eq, tickV_eq, ne_eq, Int.reduceAdd, Int.reduceSub, Int.reduceMul, Int.reduceEq, Int.reduceLT, Int.reduceLE, Int.reduceToNat, Nat.reduceMul, Nat.reduceAdd, Nat.reduceSub, ←decide_not, eq_self]
    exact j3 _ _ (NewR.nil (Ext.refl _ _))
  | some o =>
    have eb : badI (some o) = (o : Int) := rfl
    rw [eb]
    simp (disch := (first | omega | decide | (simp only [rsD] <;> omega) | fail)) only [↓rsC, rsK, rsL, ↓rsChk6_1, tick_eq, tickV_eq, ne_eq, Int.reduceAdd, Int.reduceSub, Int.reduceMul, Int.reduceEq, Int.reduceLT, Int.reduceLE, Int.reduceToNat, Nat.reduceMul, Nat.reduceAdd, Nat.reduceSub, ←decide_not, bdF]
    rw [cH]
    refine appFr (w0 := w1) (F := []) (NewR.nil (Ext.refl _ _)) (f := (o, sHead)) rfl (by simp) fun v' w3 N3 F3 => ?_
    exact j3 v' w3 N3
end Go.Proofs.Ytdpmidgeipibbaa
end
section
set_option linter.unusedVariables false
set_option linter.unusedSimpArgs false
set_option maxHeartbeats 4000000
namespace Go.Proofs.Ytdpmidgeipibbaa
open Go.Sh Go.RowKit

def nameS (q : List (BitVec 64)) (at' : Nat) : List (BitVec 8) := cutN (bytesW q (8 * at') 32)
def nameB (q : List (BitVec 64)) (at' : Nat) : Prop := nmOk (nameS q at') ∧ fixN (nameS q at') = bytesW q (8 * at') 32
instance (q : List (BitVec 64)) (at' : Nat) : Decidable (nameB q at') := by unfold nameB; infer_instance
end Go.Proofs.Ytdpmidgeipibbaa
end
section
set_option linter.unusedVariables false
set_option linter.unusedSimpArgs false
set_option maxHeartbeats 4000000
namespace Go.Proofs.Ytdpmidgeipibbaa
open Go.Sh Go.RowKit

end Go.Proofs.Ytdpmidgeipibbaa
end
section
set_option linter.unusedVariables false
set_option linter.unusedSimpArgs false
set_option maxHeartbeats 4000000
namespace Go.Proofs.Ytdpmidgeipibbaa
open Go.Sh Go.RowKit Go.ChangeShapes Go.WideShapes Go.ChangeAt

end Go.Proofs.Ytdpmidgeipibbaa
end
section
set_option linter.unusedVariables false
set_option linter.unusedSimpArgs false
set_option maxHeartbeats 4000000
namespace Go.Proofs.Ytdpmidgeipibbaa
open Go.Sh Go.RowKit Go.ChangeShapes Go.WideShapes Go.ChangeAt

end Go.Proofs.Ytdpmidgeipibbaa
end
section
set_option linter.unusedVariables false
set_option linter.unusedSimpArgs false
set_option maxHeartbeats 4000000
namespace Go.Proofs.Ytdpmidgeipibbaa
open Go.Sh Go.RowKit

def sName : List (BitVec 8) := [110#8, 97#8, 109#8, 101#8]
def sRoot : List (BitVec 8) := [114#8, 111#8, 111#8, 116#8]
def leN (s last : List (BitVec 8)) : Bool := Op.bytesLess (strOf s).toList (strOf last).toList || (strOf s).toList == (strOf last).toList
def lastAt (l : List (BitVec 64)) : Nat → List (BitVec 8)
  | 0 => []
  | i + 1 => if nameB l (2 + 5 * i) then nameS l (2 + 5 * i) else lastAt l i
def nmF (l : List (BitVec 64)) (i : Nat) : List Fnd := if ¬ nameB l (2 + 5 * i) ∨ leN (nameS l (2 + 5 * i)) (lastAt l i) = true then [(2 + 5 * i, sName)] else []
def rtF (l : List (BitVec 64)) (os : List Nat) (i : Nat) : List Fnd := if PtrOk os (wat l (2 + 5 * i + 4)).toNat then [] else [(2 + 5 * i + 4, sRoot)]
def rootsF (l : List (BitVec 64)) (os : List Nat) : Nat → List Fnd
  | 0 => []
  | i + 1 => rootsF l os i ++ (nmF l i ++ rtF l os i)
theorem rootsF_len (l : List (BitVec 64)) (os : List Nat) : ∀ i, (rootsF l os i).length ≤ 2 * i
  | 0 => by simp [rootsF]
  | i + 1 => by
    have ih := rootsF_len l os i
    have h1 : (nmF l i).length ≤ 1 := by unfold nmF; split <;> simp
    have h2 : (rtF l os i).length ≤ 1 := by unfold rtF; split <;> simp
    rw [rootsF, List.length_append, List.length_append]
    omega
def imgG (l : List (BitVec 64)) (os : List Nat) (bad : Option Nat) : List Fnd := magF l ++ if sizeOk l then allF (wat l) os bad ++ rootsF l os (nR l) else [(1, sSize)]
theorem leS {cx cy : Bool} (a b : ByteArray) (w : World) (K : K1) : xBin Try.prog .leq 9 cx (.string a) cy (.string b) w K = K (.bool (Op.bytesLess a.toList b.toList || a.toList == b.toList)) w := xBin_ok (by simp [eqGuard, binOp, Op.stringOp])
end Go.Proofs.Ytdpmidgeipibbaa
end
section
set_option linter.unusedVariables false
set_option linter.unusedSimpArgs false
set_option maxHeartbeats 4000000
namespace Go.Proofs.Ytdpmidgeipibbaa
open Go.Sh Go.RowKit

theorem wat_ext {ws ws' : List (BitVec 64)} {i : Nat} (h : ∀ r, r < 8 → byteW ws (8 * i + r) = byteW ws' (8 * i + r)) : wat ws i = wat ws' i := by
  apply BitVec.eq_of_getLsbD_eq
  intro k hk
  have h1 := congrArg (fun x => x.getLsbD (k % 8)) (h (k / 8) (by omega))
  simp only [byteW, BitVec.getLsbD_setWidth, BitVec.getLsbD_ushiftRight] at h1
  rw [show (8 * i + k / 8) / 8 = i by omega, show 8 * ((8 * i + k / 8) % 8) + k % 8 = k by omega] at h1
  have h2 : k % 8 < 8 := by omega
  simpa [wat, h2] using h1
theorem byte_zero {ws : List (BitVec 64)} {j : Nat} (h : wat ws (j / 8) = c0) : byteW ws j = BitVec.ofNat 8 0 := by
  unfold byteW
  rw [show ws.getD (j / 8) c0 = c0 from h]
  simp
theorem wat_rep {n i : Nat} : wat (List.replicate n c0) i = c0 := by
  unfold wat
  rw [List.getD_eq_getElem?_getD, List.getElem?_replicate]
  split <;> rfl
theorem wat_set_bytes {ws : List (BitVec 64)} {p i : Nat} {l : List (BitVec 8)} (h : p + l.length ≤ 8 * ws.length) (hi : 8 * i + 8 ≤ p ∨ p + l.length ≤ 8 * i) : wat (setBytesW ws p l) i = wat ws i := by
  refine wat_ext fun r hr => ?_
  rw [byte_set h, if_neg (by omega)]
theorem pack_v {P n : Nat} (hP : P ≤ 64) (hn : n ≤ 1024) : rightP (P : Int) (n : Int) false 0 ∧ okW (packW P n false 0) ∧ szW (packW P n false 0) = 1 + P + (n + 7) / 8 ∧ pN (packW P n false 0) = P ∧ bN (packW P n false 0) = n := by
  have hr : rightP (P : Int) (n : Int) false 0 := right_f.2 (by omega)
  obtain ⟨h1, h2⟩ := okW_pack hr
  obtain ⟨u1, u2, u3, u4⟩ := un_pack hr
  exact ⟨hr, h1, by rw [h2]; simp, by unfold pN; rw [u1]; simp, by unfold bN; rw [u2]; simp⟩
section
end
end Go.Proofs.Ytdpmidgeipibbaa
end
section
set_option linter.unusedVariables false
set_option linter.unusedSimpArgs false
set_option maxHeartbeats 4000000
namespace Go.Proofs.Ytdpmidgeipibbaa
open Go.Sh Go.RowKit

theorem flat_at {α β : Type} (l : List α) (f : α → List β) {i k m : Nat} (hi : i < l.length) (hk : k < (f l[i]).length) (hm : ((l.take i).flatMap f).length = m) : (l.flatMap f)[m + k]? = (f l[i])[k]? := by
  have e : l = l.take i ++ l[i] :: l.drop (i + 1) := by rw [List.getElem_cons_drop, List.take_append_drop]
  have e2 : l.flatMap f = (l.take i).flatMap f ++ (f l[i] ++ (l.drop (i + 1)).flatMap f) := by
    conv => lhs; rw [e]
    rw [List.flatMap_append, List.flatMap_cons]
  rw [e2, List.getElem?_append_right (by omega), show m + k - ((l.take i).flatMap f).length = k by omega, List.getElem?_append_left hk]
theorem orV_bit (l : List (BitVec 8)) (a : Nat) : ∀ (k b : Nat), k ≤ 8 → (orV l a k).getLsbD b = (decide (b < 8 * k) && (l.getD (a + b / 8) (BitVec.ofNat 8 0)).getLsbD (b % 8))
  | 0, b, _ => by simp [orV]
  | k + 1, b, hk => by
    rw [orV, BitVec.getLsbD_or, orV_bit l a k b (by omega), BitVec.getLsbD_shiftLeft, BitVec.getLsbD_setWidth]
    by_cases h1 : b < 8 * k
    · have h2 : b < 8 * (k + 1) := by omega
      simp [h1, h2]
    · by_cases h2 : b < 8 * (k + 1)
      · have e1 : b / 8 = k := by omega
        have e2 : b - 8 * k = b % 8 := by omega
        have h3 : b < 64 := by omega
        have h4 : b % 8 < 64 := by omega
        simp [h1, h2, e1, e2, h3, h4]
      · have h5 : 8 ≤ b - 8 * k := by omega
        simp [h1, h2]
        intro _
        rw [BitVec.getLsbD_of_ge _ _ h5]
        simp
theorem wordV_bit (l : List (BitVec 8)) (i b : Nat) (hb : b < 64) : (wordV l i).getLsbD b = (l.getD (8 * i + b / 8) (BitVec.ofNat 8 0)).getLsbD (b % 8) := by
  unfold wordV
  rw [orV_bit _ _ _ _ (by omega)]
  by_cases h : b < 8 * min 8 (l.length - 8 * i)
  · rw [decide_eq_true h, Bool.true_and]
  · rw [decide_eq_false h, Bool.false_and]
    have : l.length ≤ 8 * i + b / 8 := by omega
    rw [List.getD_eq_getElem?_getD, List.getElem?_eq_none this]
    simp
theorem wordV_byte (l : List (BitVec 8)) (i r : Nat) (hr : r < 8) : (wordV l i >>> (8 * r)).setWidth 8 = l.getD (8 * i + r) (BitVec.ofNat 8 0) := by
  apply BitVec.eq_of_getLsbD_eq
  intro k hk
  rw [BitVec.getLsbD_setWidth, decide_eq_true hk, Bool.true_and, BitVec.getLsbD_ushiftRight, wordV_bit _ _ _ (by omega), show (8 * r + k) / 8 = r by omega, show (8 * r + k) % 8 = k by omega]
theorem wordV_pad (l : List (BitVec 8)) (h : l.length % 8 ≠ 0) : wordV l ((l.length + 7) / 8 - 1) >>> (8 * (l.length % 8)) = 0#64 := by
  apply BitVec.eq_of_getLsbD_eq
  intro k hk
  rw [BitVec.getLsbD_ushiftRight]
  by_cases h2 : 8 * (l.length % 8) + k < 64
  · rw [wordV_bit _ _ _ h2, List.getD_eq_getElem?_getD, List.getElem?_eq_none (by omega)]
    simp
  · rw [BitVec.getLsbD_of_ge _ _ (by omega)]
    simp
theorem wordsV_at (l : List (BitVec 8)) {i : Nat} (h : i < (l.length + 7) / 8) : (wordsV l)[i]? = some (wordV l i) := by
  unfold wordsV
  rw [List.getElem?_map, List.getElem?_range h]
  rfl
theorem cut_fill (n : Nat) : ∀ s : List (BitVec 8), z8 ∉ s → cutN (s ++ List.replicate n z8) = s
  | [], _ => by
    cases n with
    | zero => rfl
    | succ n => rw [List.nil_append, List.replicate_succ]; unfold cutN; rw [List.takeWhile_cons, if_neg (by simp)]
  | c :: s, h => by
    have h1 : c ≠ z8 := fun e => h (e ▸ List.mem_cons_self ..)
    have ih := cut_fill n s fun h2 => h (List.mem_cons_of_mem _ h2)
    unfold cutN at ih ⊢
    rw [List.cons_append, List.takeWhile_cons, if_pos (decide_eq_true h1), ih]
theorem cut_pad {s : List (BitVec 8)} (h : z8 ∉ s) : cutN (padS s) = s := cut_fill _ s h
theorem strOf_list (s : List (BitVec 8)) : (strOf s).toList = s.map UInt8.ofBitVec := by
  rw [ByteArray.toList_eq]
  simp [strOf]
section
variable {ns : List GN} {rs : List GR}
abbrev plE (ns : List GN) (rs : List GR) : List Nat := plL ns rs.length ns.length
theorem wat_some {l : List (BitVec 64)} {i : Nat} {x : BitVec 64} (h : l[i]? = some x) : wat l i = x := by
  unfold wat
  rw [List.getD_eq_getElem?_getD, h]
  rfl
theorem enc_root (hs : ∀ r ∈ rs, r.s.length ≤ 32) {i k : Nat} (hi : i < rs.length) (hk : k < 5) : (encW ns rs)[2 + 5 * i + k]? = (rtW (plE ns rs) rs[i])[k]? := by
  have hl : ((rs.take i).flatMap (rtW (plE ns rs))).length = 5 * i := by
    rw [rts_len fun r hr => hs r (List.mem_of_mem_take hr), List.length_take]
    omega
  unfold encW
  rw [List.append_assoc, List.getElem?_append_right (by simp; omega), List.getElem?_append_left (by rw [rts_len hs]; simp; omega), show 2 + 5 * i + k - ([BitVec.ofNat 64 1296125772, hdrW rs.length (2 + 5 * rs.length + gW ns)] : List (BitVec 64)).length = 5 * i + k by simp; omega]
  exact flat_at rs _ hi (by rw [rtW_len (hs _ (List.getElem_mem hi))]; exact hk) hl
abbrev plc (ns : List GN) (rs : List GR) (j : Nat) : Nat := 2 + 5 * rs.length + gW (ns.take j)
theorem gW_le_all {ns : List GN} : ∀ {j : Nat}, gW (ns.take j) ≤ gW ns := fun {j} => by
  conv => rhs; rw [← List.take_append_drop j ns]
  unfold gW
  rw [List.map_append, List.sum_append]
  omega
theorem enc_node (hs : ∀ r ∈ rs, r.s.length ≤ 32) {j k : Nat} (hj : j < ns.length) (hk : k < gsz ns[j]) : (encW ns rs)[plc ns rs j + k]? = (ndW (plE ns rs) ns[j])[k]? := by
  unfold encW
  have h2 : ([BitVec.ofNat 64 1296125772, hdrW rs.length (2 + 5 * rs.length + gW ns)] ++ rs.flatMap (rtW (plE ns rs))).length = 2 + 5 * rs.length := by
    rw [List.length_append, rts_len hs]
    rfl
  rw [List.getElem?_append_right (by rw [h2]; unfold plc; omega), h2, show plc ns rs j + k - (2 + 5 * rs.length) = gW (ns.take j) + k by unfold plc; omega]
  exact flat_at ns _ hj (by rw [ndW_len]; exact hk) nds_len
theorem pl_get {j : Nat} (hj : j < ns.length) : (plE ns rs)[j]? = some (plc ns rs j) := by
  unfold plE plL
  rw [List.getElem?_map, List.getElem?_range hj]
  rfl
theorem pl_mem {p : Nat} : p ∈ plE ns rs ↔ ∃ j, j < ns.length ∧ p = plc ns rs j := by
  unfold plE plL
  simp only [List.mem_map, List.mem_range]
  exact ⟨fun ⟨j, h1, h2⟩ => ⟨j, h1, h2.symm⟩, fun ⟨j, h1, h2⟩ => ⟨j, h1, h2.symm⟩⟩
theorem plc_lt {j : Nat} (hj : j < ns.length) : plc ns rs j + gsz ns[j] ≤ 2 + 5 * rs.length + gW ns := by
  have := gW_take hj
  have h2 := @gW_le_all ns (j + 1)
  unfold plc
  omega
variable (hg : GoodG ns rs) (hN : 2 + 5 * rs.length + gW ns ≤ 8192)
include hg
theorem enc_len : (encW ns rs).length = 2 + 5 * rs.length + gW ns := encW_len fun r hr => (hg.s r hr).1.2.1
theorem enc_hd {j : Nat} (hj : j < ns.length) : wat (encW ns rs) (plc ns rs j) = packW ns[j].p.length ns[j].d.length false 0 :=
  wat_some ((enc_node (ns := ns) (rs := rs) (fun r hr => (hg.s r hr).1.2.1) hj (k := 0) (by unfold gsz; omega)).trans rfl)
theorem enc_ptr {j k : Nat} (hj : j < ns.length) (hk : k < ns[j].p.length) : wat (encW ns rs) (plc ns rs j + 1 + k) = ptW (plE ns rs) ns[j].p[k] := by
  refine wat_some ?_
  rw [Nat.add_assoc, enc_node (fun r hr => (hg.s r hr).1.2.1) hj (by unfold gsz; omega), Nat.add_comm 1 k]
  unfold ndW
  rw [List.getElem?_cons_succ, List.getElem?_append_left (by simpa using hk), List.getElem?_map, List.getElem?_eq_getElem hk]
  rfl
theorem enc_dat {j k : Nat} (hj : j < ns.length) (hk : k < (ns[j].d.length + 7) / 8) : wat (encW ns rs) (plc ns rs j + 1 + ns[j].p.length + k) = wordV ns[j].d k := by
  refine wat_some ?_
  rw [show plc ns rs j + 1 + ns[j].p.length + k = plc ns rs j + (ns[j].p.length + k + 1) by omega, enc_node (fun r hr => (hg.s r hr).1.2.1) hj (by unfold gsz; omega)]
  unfold ndW
  rw [List.getElem?_cons_succ, List.getElem?_append_right (by simp), List.length_map, show ns[j].p.length + k - ns[j].p.length = k by omega]
  exact wordsV_at _ hk
theorem enc_sz {j : Nat} (hj : j < ns.length) : okW (wat (encW ns rs) (plc ns rs j)) ∧ szW (wat (encW ns rs) (plc ns rs j)) = gsz ns[j] ∧ pN (wat (encW ns rs) (plc ns rs j)) = ns[j].p.length ∧ bN (wat (encW ns rs) (plc ns rs j)) = ns[j].d.length := by
  obtain ⟨_, h1, h2⟩ := hg.x _ (List.getElem_mem hj)
  obtain ⟨_, q1, q2, q3, q4⟩ := pack_v h1 h2
  rw [enc_hd hg hj]
  exact ⟨q1, q2, q3, q4⟩
theorem enc_sc : Sc (wat (encW ns rs)) (encW ns rs).length (2 + 5 * rs.length) (plE ns rs) none := by
  have hl := enc_len hg
  have key : ∀ d j, j + d = ns.length → Sc (wat (encW ns rs)) (encW ns rs).length (plc ns rs j) ((List.range' j d).map (plc ns rs)) none := by
    intro d
    induction d with
    | zero =>
      intro j hj
      have e : plc ns rs j = (encW ns rs).length := by
        rw [hl]
        unfold plc
        rw [List.take_of_length_le (by omega)]
      rw [e]
      exact .done
    | succ d ih =>
      intro j hj
      have hjl : j < ns.length := by omega
      obtain ⟨h1, h2, _, _⟩ := enc_sz hg hjl
      have h3 := plc_lt (ns := ns) (rs := rs) hjl
      have h4 : plc ns rs j + gsz ns[j] = plc ns rs (j + 1) := by
        have := gW_take hjl
        unfold plc
        omega
      rw [List.range'_succ, List.map_cons]
      refine .step h1 (by rw [h2, hl]; exact h3) ?_
      rw [h2, h4]
      exact ih (j + 1) (by omega)
  have := key ns.length 0 (by omega)
  rw [← List.range_eq_range'] at this
  exact this
omit hg in
include hN in
theorem pt_ok {to : Int} (h0 : 0 ≤ to) (h1 : to ≤ ns.length) : PtrOk (plE ns rs) (ptW (plE ns rs) to).toNat := by
  unfold ptW
  by_cases h : to = 0
  · rw [if_pos h]
    exact .inl rfl
  · rw [if_neg h]
    have hj : to.toNat - 1 < ns.length := by omega
    have h3 := plc_lt (ns := ns) (rs := rs) hj
    have h4 : 1 ≤ gsz ns[to.toNat - 1] := by unfold gsz; omega
    rw [List.getD_eq_getElem?_getD, pl_get hj, Option.getD_some, BitVec.toNat_ofNat, Nat.mod_eq_of_lt (by omega)]
    exact .inr ⟨by omega, by omega, pl_mem.2 ⟨_, hj, by omega⟩⟩
include hN in
theorem enc_all : allF (wat (encW ns rs)) (plE ns rs) none = [] := by
  unfold allF
  rw [badF, List.nil_append, List.flatMap_eq_nil_iff]
  intro p hp
  obtain ⟨j, hj, rfl⟩ := pl_mem.1 hp
  obtain ⟨h1, h2, h3, h4⟩ := enc_sz hg hj
  unfold objF
  rw [List.append_eq_nil_iff]
  constructor
  · rw [ptrF_nil]
    intro i hi
    rw [h3] at hi
    rw [enc_ptr hg hj hi]
    obtain ⟨q1, _⟩ := hg.x _ (List.getElem_mem hj)
    have := q1 _ (List.getElem_mem hi)
    exact pt_ok hN this.1 this.2
  · unfold padF
    rw [if_neg]
    rintro ⟨q1, q2⟩
    rw [h2, h4] at q2
    rw [h4] at q1
    refine q2 ?_
    have hk : (ns[j].d.length + 7) / 8 - 1 < (ns[j].d.length + 7) / 8 := by omega
    rw [show plc ns rs j + gsz ns[j] - 1 = plc ns rs j + 1 + ns[j].p.length + ((ns[j].d.length + 7) / 8 - 1) by unfold gsz; omega, enc_dat hg hj hk]
    exact wordV_pad _ q1
theorem enc_name {i : Nat} (hi : i < rs.length) : bytesW (encW ns rs) (8 * (2 + 5 * i)) 32 = padS rs[i].s := by
  have h32 := (hg.s _ (List.getElem_mem hi)).1.2.1
  refine List.ext_getElem (by rw [bytesW_length, padS_len h32]) fun j h1 h2 => ?_
  rw [bytesW_length] at h1
  have e1 : ∀ h : j < (bytesW (encW ns rs) (8 * (2 + 5 * i)) 32).length, (bytesW (encW ns rs) (8 * (2 + 5 * i)) 32)[j]'h = byteW (encW ns rs) (8 * (2 + 5 * i) + j) := fun h => by simp [bytesW]
  have e2 : wat (encW ns rs) (2 + 5 * i + j / 8) = wordV (padS rs[i].s) (j / 8) := by
    refine wat_some ?_
    rw [enc_root (fun r hr => (hg.s r hr).1.2.1) hi (by omega)]
    unfold rtW
    have hl : j / 8 < ((padS rs[i].s).length + 7) / 8 := by rw [padS_len h32]; omega
    rw [List.getElem?_append_left (by rw [wordsV_len]; exact hl), wordsV_at _ hl]
  rw [e1]
  unfold byteW
  rw [show (8 * (2 + 5 * i) + j) / 8 = 2 + 5 * i + j / 8 by omega, show (8 * (2 + 5 * i) + j) % 8 = j % 8 by omega]
  rw [show (encW ns rs).getD (2 + 5 * i + j / 8) c0 = wordV (padS rs[i].s) (j / 8) from e2, wordV_byte _ _ _ (by omega), show 8 * (j / 8) + j % 8 = j by omega, List.getD_eq_getElem?_getD, List.getElem?_eq_getElem h2]
  rfl
theorem enc_rt {i : Nat} (hi : i < rs.length) : wat (encW ns rs) (2 + 5 * i + 4) = ptW (plE ns rs) rs[i].to := by
  have h32 := (hg.s _ (List.getElem_mem hi)).1.2.1
  refine wat_some ?_
  rw [enc_root (fun r hr => (hg.s r hr).1.2.1) hi (by omega)]
  unfold rtW
  rw [List.getElem?_append_right (by rw [wordsV_len, padS_len h32]; decide), wordsV_len, padS_len h32]
  rfl
theorem enc_nm {i : Nat} (hi : i < rs.length) : nameS (encW ns rs) (2 + 5 * i) = rs[i].s ∧ nameB (encW ns rs) (2 + 5 * i) := by
  obtain ⟨⟨h1, h2, h3⟩, _⟩ := hg.s _ (List.getElem_mem hi)
  have hz : z8 ∉ rs[i].s := fun h => h3 _ h rfl
  have e1 : nameS (encW ns rs) (2 + 5 * i) = rs[i].s := by unfold nameS; rw [enc_name hg hi, cut_pad hz]
  refine ⟨e1, ?_⟩
  have hok : nmOk rs[i].s := ⟨h1, h2, hz⟩
  unfold nameB
  rw [e1, enc_name hg hi]
  refine ⟨hok, ?_⟩
  unfold fixN padS
  rw [if_pos hok]
end
theorem bytesLess_as : ∀ x y : List UInt8, Op.bytesLess x y = true → (Op.bytesLess y x || y == x) = false
  | _, [], h => by simp [Op.bytesLess] at h
  | [], b :: y, h => by simp [Op.bytesLess]
  | a :: x, b :: y, h => by
    rw [Op.bytesLess] at h ⊢
    rw [Bool.or_eq_true] at h
    rcases h with h | h
    · have h1 : a < b := by simpa using h
      have h2 : ¬ b < a := by
        intro h3
        exact absurd (UInt8.lt_trans h1 h3) (UInt8.lt_irrefl _)
      have h4 : b ≠ a := by
        rintro rfl
        exact UInt8.lt_irrefl _ h1
      simp [h2, h4]
    · rw [Bool.and_eq_true] at h
      obtain ⟨h1, h2⟩ := h
      have h3 : a = b := eq_of_beq h1
      subst h3
      have := bytesLess_as x y h2
      simp only [Bool.or_eq_false_iff] at this ⊢
      refine ⟨by simp [this.1], ?_⟩
      have h5 := this.2
      simp only [beq_eq_false_iff_ne, ne_eq, List.cons.injEq, true_and] at h5 ⊢
      exact h5
section
variable {ns : List GN} {rs : List GR} (hg : GoodG ns rs) (hN : 2 + 5 * rs.length + gW ns ≤ 8192)
include hg hN
theorem enc_roots : ∀ j, j ≤ rs.length → rootsF (encW ns rs) (plE ns rs) j = [] ∧ lastAt (encW ns rs) j = (if h : 0 < j ∧ j ≤ rs.length then rs[j - 1].s else [])
  | 0, _ => ⟨rfl, by simp [lastAt]⟩
  | j + 1, hj => by
    obtain ⟨ih1, ih2⟩ := enc_roots j (by omega)
    have hi : j < rs.length := by omega
    obtain ⟨e1, e2⟩ := enc_nm hg hi
    obtain ⟨⟨q1, _, _⟩, q4, q5⟩ := hg.s _ (List.getElem_mem hi)
    have hle : leN rs[j].s (lastAt (encW ns rs) j) = false := by
      rw [ih2]
      unfold leN
      by_cases h0 : 0 < j
      · rw [dif_pos ⟨h0, by omega⟩]
        have ho := hg.o (j - 1) (by omega)
        have e3 : rs[j - 1 + 1]'(by omega) = rs[j] := by congr 1; omega
        rw [e3] at ho
        exact bytesLess_as _ _ ho
      · rw [dif_neg (by omega), strOf_list, strOf_list]
        cases hs : rs[j].s with
        | nil => rw [hs] at q1; simp at q1
        | cons c t => simp [Op.bytesLess]
    refine ⟨?_, ?_⟩
    · rw [rootsF, ih1, List.nil_append]
      have hp := pt_ok hN q4 q5
      unfold nmF rtF
      rw [e1, enc_rt hg hi, if_pos hp, if_neg]
      · rfl
      · rintro (h | h)
        · exact h e2
        · rw [hle] at h; cases h
    · rw [lastAt, if_pos e2, e1, dif_pos ⟨by omega, hj⟩]
      rfl
theorem enc_ok : sizeOk (encW ns rs) ∧ nR (encW ns rs) = rs.length ∧ magF (encW ns rs) = [] := by
  have hl := enc_len hg
  have hr := hg.r
  have w0 : wat (encW ns rs) 0 = BitVec.ofNat 64 1296125772 := rfl
  have w1 : wat (encW ns rs) 1 = hdrW rs.length (2 + 5 * rs.length + gW ns) := rfl
  have hN' := hN
  generalize hT : 2 + 5 * rs.length + gW ns = T at *
  have hn : (hdrW rs.length T).toNat = rs.length + T * 65536 := by
    unfold hdrW
    rw [BitVec.toNat_ofNat]
    omega
  have f0 : (fieldB (hdrW rs.length T) 0 16).toNat = _ := field_nat _ (a := 0) (n := 16) (by decide) (by decide)
  have f1 : (fieldB (hdrW rs.length T) 16 32).toNat = _ := field_nat _ (a := 16) (n := 32) (by decide) (by decide)
  have f2 : (fieldB (hdrW rs.length T) 48 16).toNat = _ := field_nat _ (a := 48) (n := 16) (by decide) (by decide)
  rw [hn] at f0 f1 f2
  have hnR : nR (encW ns rs) = rs.length := by
    unfold nR
    rw [w1, f0]
    omega
  refine ⟨⟨by omega, ?_, ?_, by omega, by omega⟩, hnR, ?_⟩
  · apply BitVec.eq_of_toNat_eq
    rw [w1, f2, BitVec.toNat_ofNat]
    omega
  · apply BitVec.eq_of_toNat_eq
    rw [w1, f1, hl, BitVec.toNat_ofNat]
    omega
  · unfold magF
    rw [if_neg]
    rintro (h | h)
    · omega
    · exact h w0
theorem enc_img {os : List Nat} {bad : Option Nat} (h : sizeOk (encW ns rs) → Sc (wat (encW ns rs)) (encW ns rs).length (2 + 5 * nR (encW ns rs)) os bad) : imgG (encW ns rs) os bad = [] := by
  obtain ⟨h1, h2, h3⟩ := enc_ok hg hN
  have hS := h h1
  rw [h2] at hS
  obtain ⟨rfl, rfl⟩ := hS.uniq (enc_sc hg)
  unfold imgG
  rw [h3, if_pos h1, h2, enc_all hg hN, (enc_roots hg hN rs.length (Nat.le_refl _)).1]
  rfl
end
end Go.Proofs.Ytdpmidgeipibbaa
end
section
set_option linter.unusedVariables false
set_option linter.unusedSimpArgs false
set_option maxHeartbeats 4000000
namespace Go.Proofs.Ytdpmidgeipibbaa
open Go.Sh Go.RowKit

def setsK (ws : List (BitVec 64)) (i : Nat) (l : List (BitVec 64)) : Nat → List (BitVec 64)
  | 0 => ws
  | k + 1 => (setsK ws i l k).set (i + k) (l.getD k c0)
theorem setsK_len (ws : List (BitVec 64)) (i : Nat) (l : List (BitVec 64)) : ∀ k, (setsK ws i l k).length = ws.length
  | 0 => rfl
  | k + 1 => by rw [setsK, List.length_set, setsK_len ws i l k]
theorem wat_setsK (ws : List (BitVec 64)) (i : Nat) (l : List (BitVec 64)) (j : Nat) : ∀ k, i + k ≤ ws.length → wat (setsK ws i l k) j = if i ≤ j ∧ j < i + k then l.getD (j - i) c0 else wat ws j
  | 0, _ => by rw [if_neg (by omega)]; rfl
  | k + 1, h => by
    rw [setsK, wat_set (by rw [setsK_len]; omega), wat_setsK ws i l j k (by omega)]
    by_cases e : j = i + k
    · subst e
      rw [if_pos rfl, if_pos (by omega), show i + k - i = k by omega]
    · rw [if_neg e]
      by_cases h2 : i ≤ j ∧ j < i + k
      · rw [if_pos h2, if_pos (by omega)]
      · rw [if_neg h2, if_neg (by omega)]
theorem wat_setB {ws : List (BitVec 64)} {q : Nat} {l : List (BitVec 8)} (h : q * 8 + l.length ≤ 8 * ws.length) (hz : ∀ i, q ≤ i → i < q + (l.length + 7) / 8 → wat ws i = c0) (i : Nat) :
    wat (setBytesW ws (q * 8) l) i = if q ≤ i ∧ i < q + (l.length + 7) / 8 then wordV l (i - q) else wat ws i := by
  by_cases hi : q ≤ i ∧ i < q + (l.length + 7) / 8
  · rw [if_pos hi]
    apply BitVec.eq_of_getLsbD_eq
    intro k hk
    have hb := byte_set (ws := ws) (at' := q * 8) (l := l) (j := 8 * i + k / 8) h
    have h0 : byteW ws (8 * i + k / 8) = BitVec.ofNat 8 0 := byte_zero (by rw [show (8 * i + k / 8) / 8 = i by omega]; exact hz i hi.1 hi.2)
    rw [h0] at hb
    have h1 := congrArg (fun x => x.getLsbD (k % 8)) hb
    have hk8 : k % 8 < 8 := by omega
    simp only [byteW, BitVec.getLsbD_setWidth, BitVec.getLsbD_ushiftRight, hk8, decide_true, Bool.true_and] at h1
    rw [show (8 * i + k / 8) / 8 = i by omega, show 8 * ((8 * i + k / 8) % 8) + k % 8 = k by omega] at h1
    have h2 : wat (setBytesW ws (q * 8) l) i = (setBytesW ws (q * 8) l).getD i c0 := rfl
    rw [h2, h1, wordV_bit _ _ _ hk]
    by_cases h3 : q * 8 ≤ 8 * i + k / 8 ∧ 8 * i + k / 8 < q * 8 + l.length
    · rw [if_pos h3, show 8 * i + k / 8 - q * 8 = 8 * (i - q) + k / 8 by omega]
    · rw [if_neg h3, List.getD_eq_getElem?_getD (l := l), List.getElem?_eq_none (by omega)]
      rfl
  · rw [if_neg hi]
    exact wat_set_bytes h (by omega)
section
variable {w : World} {base g : Nat} {a : Option Addr} {c : Nat} {ws : List (BitVec 64)}
abbrev rsImg1_0 := (And.intro @xu8_add (And.intro @xu8_sub (And.intro @xu8_eql (And.intro @xu16_add (And.intro @xu16_sub (And.intro @xu16_eql (And.intro @xu32_add (And.intro @xu32_sub (And.intro @xu32_eql (And.intro @xu64_add (And.intro @xu64_sub (And.intro @xu64_eql (And.intro @xi64_eql (And.intro @ld_3 (And.intro @ld_66 (And.intro @cv_3_69 @ia_66))))))))))))))))
theorem to_spec {w : World} (pl : List Nat) (pb : Nat) (ap : Option Addr) (cp : Nat) (p : Int) (hc : w.cell? ⟨pb, 0, none⟩ = some (.slice ap pl.length cp)) (hr : RowAt w ap (nums pl)) (h0 : 0 ≤ p) (h1 : p ≤ pl.length) (hl : pl.length ≤ 1000000) (hb : ∀ q ∈ pl, q ≤ 1000000) : Gives Try.prog n_image_Encode_1 #[i64 p, ptr pb] w (u64 (ptW pl p)) := by
  refine image_Encode_1_of ?_
  unfold image_Encode_1 ptW
  by_cases hp : p = 0
  · subst hp
    rw [if_pos rfl]
    simp (disch := (first | omega | decide | (simp only [rsD] <;> omega) | fail)) only [↓rsC, rsK, rsL, ↓rsImg1_0, tick_eq, tickV_eq, ne_eq, Int.reduceAdd, Int.reduceSub, Int.reduceMul, Int.reduceEq, Int.reduceLT, Int.reduceLE, Int.reduceToNat, Nat.reduceMul, Nat.reduceAdd, Nat.reduceSub, ←decide_not, eq_self]
    exact ⟨by trivial, Ext.refl _ _⟩
  · rw [if_neg hp]
    have hj : p.toNat - 1 < pl.length := by omega
    obtain ⟨b5, o5, rfl, z5, k5⟩ := hr.at (i := p.toNat - 1) (by simpa using hj)
    simp only [List.getElem_map] at k5
    have hb2 := hb _ (List.getElem_mem hj)
    have t1 : (p - 1).toNat = p.toNat - 1 := by omega
    have e2 : BitVec.ofInt 64 ((pl[p.toNat - 1] : Int) + 1) = BitVec.ofNat 64 (pl[p.toNat - 1] + 1) := by
      rw [show (pl[p.toNat - 1] : Int) + 1 = ((pl[p.toNat - 1] + 1 : Nat) : Int) by omega, BitVec.ofInt_natCast]
    rw [List.getD_eq_getElem?_getD, List.getElem?_eq_getElem hj, Option.getD_some]
    simp (disch := (first | omega | decide | (simp only [rsD] <;> omega) | fail)) only [↓rsC, rsK, rsL, ↓rsImg1_0, tick_eq, tickV_eq, ne_eq, Int.reduceAdd, Int.reduceSub, Int.reduceMul, Int.reduceEq, Int.reduceLT, Int.reduceLE, Int.reduceToNat, Nat.reduceMul, Nat.reduceAdd, Nat.reduceSub, ←decide_not, hc, t1, k5, e2]
    exact ⟨by trivial, Ext.refl _ _⟩
abbrev rsImg1_1 := (And.intro @xu8_add (And.intro @xu8_mul (And.intro @xu16_add (And.intro @xu16_mul (And.intro @xu32_add (And.intro @xu32_mul (And.intro @xu64_add (And.intro @xu64_mul @al_157))))))))
theorem iroot_spec {s : List (BitVec 8)} (h : MemIs w base g a c ws) (hs : nmOk s) (at' : Nat) (hat : at' + 5 ≤ ws.length) (to : BitVec 64) : Yld Try.prog n_image_root #[ptr g, i64 (at' : Int), .string (strOf s), u64 to] w fun u w' => Ext (blkOf a) w w' ∧ MemIs w' base g a c ((setBytesW ws (at' * 8) (padS s)).set (at' + 4) to) := by
  have hl := h.len
  have hf : fixN s = padS s := by unfold fixN padS; rw [if_pos hs]
  have h32 : (padS s).length = 32 := padS_len hs.2.1
  have hsl := fun (a : Addr) (w : World) (K : K1) => xSlice_arr (P := Try.prog) (t := 157) (n := 32) (a := a) (w := w) (K := K) (by kernel_rfl) (by kernel_rfl) (by kernel_rfl) (by decide)
  have one : ∀ l' : List (BitVec 8), ∀ v ∈ bys l', v.oneCell' = true := fun l' v hv => by
    obtain ⟨c, _, rfl⟩ := List.mem_map.1 hv; rfl
  have lst : ((Try.prog).info? 157).map (·.size) = some (bys (padS s)).length := by
    rw [List.length_map, h32]; kernel_rfl
  refine image_root_of ?_
  unfold image_root
  refine table_Fix_call (Gives.to (Fix_spec s w) fun w1 F1 => ?_)
  rw [hf]
  have h1 := h.ext0 F1
  simp (disch := (first | omega | decide | (simp only [rsD] <;> omega) | fail)) only [↓rsC, rsK, rsL, ↓rsImg1_1, tick_eq, tickV_eq, ne_eq, Int.reduceAdd, Int.reduceSub, Int.reduceMul, Int.reduceEq, Int.reduceLT, Int.reduceLE, Int.reduceToNat, Nat.reduceMul, Nat.reduceAdd, Nat.reduceSub, ←decide_not, eq_self]
  rw [z32]
  have B : Blk (w1.alloc (.cells (bys (List.replicate 32 z8)).toArray 157)) w1.heap.size 157 (bys (List.replicate 32 z8)) := Blk.at rfl
  have X : Ext [] w1 (w1.alloc (.cells (bys (List.replicate 32 z8)).toArray 157)) := Ext.alloc _ _ _
  have h2 := h1.ext0 X
  have hblt := fun hw => h1.blt hw
  have zg := h1.lt
  generalize w1.alloc (.cells (bys (List.replicate 32 z8)).toArray 157) = w2 at *
  generalize hn : w1.heap.size = nb at *
  have hst := fun (K : K1) => xStore_arr (P := Try.prog) (K := K) lst B (by simp [h32]) (one _)
  have B2 := B.put (cs := bys (padS s)) (by simp [h32])
  have X2 : Ext [nb] w2 (w2.setCells nb 0 (bys (padS s))) := Ext.sets (Ext.refl _ _) (.inl (by simp))
  have h3 := h2.ext X2 (by simp only [List.mem_singleton]; omega) (fun hw y hy hm => by simp only [List.mem_singleton] at hm; have := hblt hw y hy; omega)
  have e1 : (at' : Int) * 8 = ((at' * 8 : Nat) : Int) := by omega
  have e4 : (at' : Int) + 4 = ((at' + 4 : Nat) : Int) := by omega
  have X3 : Ext [] w (w2.setCells nb 0 (bys (padS s))) := (F1.trans X).sets (.inr (by have := F1.size; omega))
  have R3 := B2.row
  simp (disch := (first | omega | decide | (simp only [rsD] <;> omega) | fail)) only [↓rsC, rsK, rsL, ↓rsImg1_1, tick_eq, tickV_eq, ne_eq, Int.reduceAdd, Int.reduceSub, Int.reduceMul, Int.reduceEq, Int.reduceLT, Int.reduceLE, Int.reduceToNat, Nat.reduceMul, Nat.reduceAdd, Nat.reduceSub, ←decide_not, hst, hsl, e1]
  generalize w2.setCells nb 0 (bys (padS s)) = w3 at *
  have hsb := SetBytes_ok (at' * 8) (padS s) (some ⟨nb, 0, none⟩) 32 h3 R3 (fun hw _ b o hb hm => by
    cases hb
    have := hblt hw _ hm
    omega) (by omega)
  rw [h32] at hsb
  refine mem_Mem_SetBytes_call (Yld.mono hsb ?_)
  rintro u w4 ⟨rfl, F4, h4⟩
  simp (disch := (first | omega | decide | (simp only [rsD] <;> omega) | fail)) only [↓rsC, rsK, rsL, ↓rsImg1_1, tick_eq, tickV_eq, ne_eq, Int.reduceAdd, Int.reduceSub, Int.reduceMul, Int.reduceEq, Int.reduceLT, Int.reduceLE, Int.reduceToNat, Nat.reduceMul, Nat.reduceAdd, Nat.reduceSub, ←decide_not, hst, hsl, e1, e4]
  refine mem_Mem_Set_call (Yld.mono (Set_ok (at' + 4) to h4 (by rw [setBytesW_length]; omega)) ?_)
  rintro u w5 ⟨rfl, F5, h5⟩
  exact ⟨(X3.more (by simp)).trans (F4.trans F5), h5⟩
abbrev rsImg1_2 := (And.intro @xu8_add (And.intro @xu8_mul (And.intro @xu8_lss (And.intro @xu16_add (And.intro @xu16_mul (And.intro @xu16_lss (And.intro @xu32_add (And.intro @xu32_mul (And.intro @xu32_lss (And.intro @xu64_add (And.intro @xu64_mul (And.intro @xu64_lss (And.intro @xi64_lss (And.intro @ld_3 (And.intro @ld_66 (And.intro @ld_70 (And.intro @fa_72_0 
  (And.intro @fa_72_1 (And.intro @ia_66 @ln_66)))))))))))))))))))
theorem inode_spec (h : MemIs w base g a c ws) (x : GN) (pl : List Nat) (pb : Nat) (ap : Option Addr) (cp at' : Nat) (hl : pl.length ≤ 1000000) (hb : ∀ q ∈ pl, q ≤ 1000000) (hp : ∀ p ∈ x.p, 0 ≤ p ∧ p ≤ pl.length)
    (hK : ∀ w', Ext (blkOf a) w w' → NOk w' x ∧ w'.cell? ⟨pb, 0, none⟩ = some (.slice ap pl.length cp) ∧ RowAt w' ap (nums pl)) (hap : x.d ≠ [] → ∀ b o, x.da = some ⟨b, o, none⟩ → b ∉ blkOf a) (hat : at' + 1 + x.p.length + (x.d.length + 7) / 8 ≤ ws.length) :
    Yld Try.prog n_image_node #[ptr g, i64 (at' : Int), .agg (gnC x).toArray, .func (.func n_image_Encode_1) #[] #[ptr pb]] w fun u w' => Ext (blkOf a) w w' ∧ MemIs w' base g a c (setBytesW (setsK ws (at' + 1) (x.p.map (ptW pl)) x.p.length) ((at' + 1 + x.p.length) * 8) x.d) := by
  have hwl := h.len
  refine image_node_of ?_
  unfold image_node
  simp (disch := (first | omega | decide | (simp only [rsD] <;> omega) | fail)) only [↓rsC, rsK, rsL, ↓rsImg1_2, tick_eq, tickV_eq, ne_eq, Int.reduceAdd, Int.reduceSub, Int.reduceMul, Int.reduceEq, Int.reduceLT, Int.reduceLE, Int.reduceToNat, Nat.reduceMul, Nat.reduceAdd, Nat.reduceSub, ←decide_not, eq_self]
  have B : Blk (w.alloc (.cells #[.slice x.pa x.p.length x.pc, .slice x.da x.d.length x.dc] 72)) w.heap.size 72 [.slice x.pa x.p.length x.pc, .slice x.da x.d.length x.dc] := Blk.at rfl
  have X : Ext [] w (w.alloc (.cells #[.slice x.pa x.p.length x.pc, .slice x.da x.d.length x.dc] 72)) := Ext.alloc _ _ _
  have h1 := h.ext0 X
  have hblt := fun hw => h.blt hw
  generalize w.alloc (.cells #[.slice x.pa x.p.length x.pc, .slice x.da x.d.length x.dc] 72) = y at *
  have hnb : w.heap.size ∉ blkOf a := fun hm => by
    by_cases hw : ws = []
    · subst hw; simp at hat
    · have := hblt hw _ hm; omega
  generalize w.heap.size = nb at *
  have Xa : Ext (blkOf a) w y := X.more (by simp)
  refine xLoop_n x.p.length (fun k => [i64 (k : Int)]) (fun k w' => Ext (blkOf a) y w' ∧ MemIs w' base g a c (setsK ws (at' + 1) (x.p.map (ptW pl)) k)) rfl ⟨Ext.refl _ _, h1⟩ ?_ ?_
  · rintro k hk u w2 hu ⟨F2, h2⟩ nxt hnx
    simp only [List.map_cons, List.map_nil, List.cons.injEq, and_true] at hu
    rw [hu]
    obtain ⟨hx2, hc2, hr2⟩ := hK w2 (Xa.trans F2)
    obtain ⟨b3, o3, ha3, z3, c3⟩ := its_at hx2.pr hk
    have hpk := hp _ (List.getElem_mem hk)
    have e1 : (at' : Int) + 1 + (k : Int) = ((at' + 1 + k : Nat) : Int) := by omega
    unfold image_node_l1
    simp (disch := (first | omega | decide | (simp only [rsD] <;> omega) | fail)) only [↓rsC, rsK, rsL, ↓rsImg1_2, tick_eq, tickV_eq, ne_eq, Int.reduceAdd, Int.reduceSub, Int.reduceMul, Int.reduceEq, Int.reduceLT, Int.reduceLE, Int.reduceToNat, Nat.reduceMul, Nat.reduceAdd, Nat.reduceSub, ←decide_not, ha3, c3, e1]
    refine image_Encode_1_callc (Gives.to (to_spec pl pb ap cp x.p[k] hc2 hr2 hpk.1 hpk.2 hl hb) fun w3 F3 => ?_)
    have h3 := h2.ext0 F3
    refine mem_Mem_Set_call (Yld.mono (Set_ok (at' + 1 + k) (ptW pl x.p[k]) h3 (by rw [setsK_len]; omega)) ?_)
    rintro u w4 ⟨rfl, F4, h4⟩
    simp (disch := (first | omega | decide | (simp only [rsD] <;> omega) | fail)) only [↓rsC, rsK, rsL, ↓rsImg1_2, tick_eq, tickV_eq, ne_eq, Int.reduceAdd, Int.reduceSub, Int.reduceMul, Int.reduceEq, Int.reduceLT, Int.reduceLE, Int.reduceToNat, Nat.reduceMul, Nat.reduceAdd, Nat.reduceSub, ←decide_not, ha3, c3, e1]
    have es : (setsK ws (at' + 1) (x.p.map (ptW pl)) k).set (at' + 1 + k) (ptW pl x.p[k]) = setsK ws (at' + 1) (x.p.map (ptW pl)) (k + 1) := by
      rw [setsK, List.getD_eq_getElem?_getD, List.getElem?_map, List.getElem?_eq_getElem hk]
      rfl
    rw [es] at h4
    exact hnx _ ⟨F2.trans ((F3.more (by simp)).trans F4), h4⟩
  · rintro u w2 hu ⟨F2, h2⟩ nxt
    simp only [List.map_cons, List.map_nil, List.cons.injEq, and_true] at hu
    rw [hu]
    obtain ⟨hx2, _, _⟩ := hK w2 (Xa.trans F2)
    have k2 := fun i => (B.ext F2 hnb).cell (i := i)
    have e1 : ((at' : Int) + 1 + (x.p.length : Int)) * 8 = (((at' + 1 + x.p.length) * 8 : Nat) : Int) := by omega
    unfold image_node_l1
    simp (disch := (first | omega | decide | (simp only [rsD] <;> omega) | fail)) only [↓rsC, rsK, rsL, ↓rsImg1_2, tick_eq, tickV_eq, ne_eq, Int.reduceAdd, Int.reduceSub, Int.reduceMul, Int.reduceEq, Int.reduceLT, Int.reduceLE, Int.reduceToNat, Nat.reduceMul, Nat.reduceAdd, Nat.reduceSub, ←decide_not, k2, e1]
    refine mem_Mem_SetBytes_call (Yld.mono (SetBytes_ok ((at' + 1 + x.p.length) * 8) x.d x.da x.dc h2 hx2.dr (fun _ hd => hap hd) (by rw [setsK_len]; omega)) ?_)
    rintro u w3 ⟨rfl, F3, h3⟩
    exact ⟨Xa.trans (F2.trans F3), h3⟩
end
end Go.Proofs.Ytdpmidgeipibbaa
end
section
set_option linter.unusedVariables false
set_option linter.unusedSimpArgs false
set_option maxHeartbeats 4000000
namespace Go.Proofs.Ytdpmidgeipibbaa
open Go.Sh Go.RowKit

structure PhI (ns : List GN) (rs : List GR) (D : Nat → Prop) (ws : List (BitVec 64)) : Prop where
  len : ws.length = 2 + 5 * rs.length + gW ns
  yes : ∀ i, i < ws.length → D i → wat ws i = wat (encW ns rs) i
  no : ∀ i, i < ws.length → ¬ D i → wat ws i = c0
section
variable {ns : List GN} {rs : List GR}
theorem gW_mono {k j : Nat} (h : k ≤ j) : gW (ns.take k) ≤ gW (ns.take j) := by
  have e : ns.take k = (ns.take j).take k := by rw [List.take_take, Nat.min_eq_left h]
  rw [e]
  exact gW_le_all
theorem plc_mono {k j : Nat} (h : k ≤ j) : plc ns rs k ≤ plc ns rs j := by
  have := gW_mono (ns := ns) h
  unfold plc
  omega
theorem plc_step {j : Nat} (hj : j < ns.length) : plc ns rs (j + 1) = plc ns rs j + gsz ns[j] := by
  have := gW_take hj
  unfold plc
  omega
theorem plc_end : plc ns rs ns.length = 2 + 5 * rs.length + gW ns := by unfold plc; rw [List.take_length]
theorem plc_ge {j : Nat} : 2 + 5 * rs.length ≤ plc ns rs j := by unfold plc; omega
theorem plc_not {j k i : Nat} (hj : j < ns.length) (h1 : plc ns rs j < i) (h2 : i < plc ns rs (j + 1)) : i ≠ plc ns rs k := by
  rintro rfl
  rcases Nat.lt_or_ge j k with h | h
  · have := plc_mono (ns := ns) (rs := rs) (show j + 1 ≤ k from h)
    omega
  · have := plc_mono (ns := ns) (rs := rs) h
    omega
theorem PhI.congr {D D' : Nat → Prop} {ws : List (BitVec 64)} (h : PhI ns rs D ws) (e : ∀ i, i < ws.length → (D i ↔ D' i)) : PhI ns rs D' ws :=
  ⟨h.len, fun i hi hd => h.yes i hi ((e i hi).2 hd), fun i hi hd => h.no i hi (fun h2 => hd ((e i hi).1 h2))⟩
theorem ph_zero : PhI ns rs (fun _ => False) (List.replicate (2 + 5 * rs.length + gW ns) c0) :=
  ⟨by simp, fun _ _ h => h.elim, fun i _ _ => wat_rep⟩
variable (hg : GoodG ns rs)
include hg
omit hg in
theorem ph_head {ws : List (BitVec 64)} (h : PhI ns rs (fun _ => False) ws) : PhI ns rs (fun i => i < 2) ((ws.set 0 (BitVec.ofNat 64 1296125772)).set 1 (hdrW rs.length (2 + 5 * rs.length + gW ns))) := by
  have hl := h.len
  have hw : ∀ i, wat ((ws.set 0 (BitVec.ofNat 64 1296125772)).set 1 (hdrW rs.length (2 + 5 * rs.length + gW ns))) i = if i = 1 then hdrW rs.length (2 + 5 * rs.length + gW ns) else if i = 0 then BitVec.ofNat 64 1296125772 else wat ws i := fun i => by
    rw [wat_set (by simp; omega), wat_set (by omega)]
  refine ⟨by simpa using hl, fun i hi hd => ?_, fun i hi hd => ?_⟩
  · rw [hw]
    have : i = 0 ∨ i = 1 := by omega
    rcases this with rfl | rfl
    · rfl
    · rfl
  · rw [hw, if_neg (by omega), if_neg (by omega)]
    exact h.no i (by simpa using hi) (fun h => h)
theorem ph_alloc {ws : List (BitVec 64)} {j : Nat} (hj : j < ns.length) (h : PhI ns rs (fun i => i < 2 ∨ ∃ k, k < j ∧ i = plc ns rs k) ws) :
    PhI ns rs (fun i => i < 2 ∨ ∃ k, k < j + 1 ∧ i = plc ns rs k) (alW ws (plc ns rs j) (packW ns[j].p.length ns[j].d.length false 0) (gsz ns[j])) := by
  have hl := h.len
  have h3 := plc_lt (ns := ns) (rs := rs) hj
  have h4 : 1 ≤ gsz ns[j] := by unfold gsz; omega
  have h5 := plc_step (ns := ns) (rs := rs) hj
  have h6 := plc_ge (ns := ns) (rs := rs) (j := j)
  have hw := fun i => wat_alW (ws := ws) (t := plc ns rs j) (n := gsz ns[j]) (i := i) (x := packW ns[j].p.length ns[j].d.length false 0) (by omega)
  refine ⟨by simpa using hl, fun i hi hd => ?_, fun i hi hd => ?_⟩
  · rw [alW_length] at hi
    rw [hw]
    by_cases e : i = plc ns rs j
    · rw [if_pos e, e, enc_hd hg hj]
    · have hD : i < 2 ∨ ∃ k, k < j ∧ i = plc ns rs k := by
        rcases hd with hd | ⟨k, hk, rfl⟩
        · exact .inl hd
        · refine .inr ⟨k, ?_, rfl⟩
          rcases Nat.lt_or_ge k j with q | q
          · exact q
          · exact absurd (by rw [show k = j by omega]) e
      rw [if_neg e, if_neg, h.yes i hi hD]
      rintro ⟨q1, q2⟩
      rcases hD with q | ⟨k, _, q⟩
      · omega
      · exact plc_not hj (by omega) (by omega) q
  · rw [alW_length] at hi
    rw [hw, if_neg (fun e => hd (.inr ⟨j, by omega, e⟩))]
    split
    · rfl
    · refine h.no i hi fun q => hd ?_
      rcases q with q | ⟨k, hk, q⟩
      · exact .inl q
      · exact .inr ⟨k, by omega, q⟩
theorem ph_node {ws : List (BitVec 64)} {j : Nat} (hj : j < ns.length) (h : PhI ns rs (fun i => i < 2 ∨ (∃ k, k < ns.length ∧ i = plc ns rs k) ∨ (2 + 5 * rs.length ≤ i ∧ i < plc ns rs j)) ws) :
    PhI ns rs (fun i => i < 2 ∨ (∃ k, k < ns.length ∧ i = plc ns rs k) ∨ (2 + 5 * rs.length ≤ i ∧ i < plc ns rs (j + 1))) (setBytesW (setsK ws (plc ns rs j + 1) (ns[j].p.map (ptW (plE ns rs))) ns[j].p.length) ((plc ns rs j + 1 + ns[j].p.length) * 8) ns[j].d) := by
  have hl := h.len
  have h3 := plc_lt (ns := ns) (rs := rs) hj
  have h5 := plc_step (ns := ns) (rs := rs) hj
  have h6 := plc_ge (ns := ns) (rs := rs) (j := j)
  have hz : gsz ns[j] = 1 + ns[j].p.length + (ns[j].d.length + 7) / 8 := rfl
  have hno : ∀ i, plc ns rs j < i → i < plc ns rs (j + 1) → wat ws i = c0 := fun i q1 q2 => h.no i (by omega) (by
    rintro (q | ⟨k, _, q⟩ | q)
    · omega
    · exact plc_not hj q1 q2 q
    · omega)
  have hw : ∀ i, wat (setBytesW (setsK ws (plc ns rs j + 1) (ns[j].p.map (ptW (plE ns rs))) ns[j].p.length) ((plc ns rs j + 1 + ns[j].p.length) * 8) ns[j].d) i = if plc ns rs j + 1 + ns[j].p.length ≤ i ∧ i < plc ns rs j + 1 + ns[j].p.length + (ns[j].d.length + 7) / 8 then wordV ns[j].d (i - (plc ns rs j + 1 + ns[j].p.length)) else if plc ns rs j + 1 ≤ i ∧ i < plc ns rs j + 1 + ns[j].p.length then (ns[j].p.map (ptW (plE ns rs))).getD (i - (plc ns rs j + 1)) c0 else wat ws i := fun i => by
    rw [wat_setB (by rw [setsK_len]; omega) (fun i q1 q2 => by
      rw [wat_setsK _ _ _ _ _ (by omega), if_neg (by omega)]
      exact hno i (by omega) (by omega)), wat_setsK _ _ _ _ _ (by omega)]
  refine ⟨by rw [setBytesW_length, setsK_len]; exact hl, fun i hi hd => ?_, fun i hi hd => ?_⟩
  · rw [setBytesW_length, setsK_len] at hi
    rw [hw]
    by_cases q1 : plc ns rs j + 1 + ns[j].p.length ≤ i ∧ i < plc ns rs j + 1 + ns[j].p.length + (ns[j].d.length + 7) / 8
    · rw [if_pos q1]
      have := enc_dat hg hj (k := i - (plc ns rs j + 1 + ns[j].p.length)) (by omega)
      rw [show plc ns rs j + 1 + ns[j].p.length + (i - (plc ns rs j + 1 + ns[j].p.length)) = i by omega] at this
      exact this.symm
    · rw [if_neg q1]
      by_cases q2 : plc ns rs j + 1 ≤ i ∧ i < plc ns rs j + 1 + ns[j].p.length
      · rw [if_pos q2]
        have hk : i - (plc ns rs j + 1) < ns[j].p.length := by omega
        have := enc_ptr hg hj hk
        rw [show plc ns rs j + 1 + (i - (plc ns rs j + 1)) = i by omega] at this
        rw [this, List.getD_eq_getElem?_getD, List.getElem?_map, List.getElem?_eq_getElem hk]
        rfl
      · rw [if_neg q2]
        refine h.yes i hi ?_
        rcases hd with q | q | ⟨q3, q4⟩
        · exact .inl q
        · exact .inr (.inl q)
        · by_cases q5 : i = plc ns rs j
          · exact .inr (.inl ⟨j, hj, q5⟩)
          · exact .inr (.inr ⟨q3, by omega⟩)
  · rw [setBytesW_length, setsK_len] at hi
    have hni : ¬ (plc ns rs j ≤ i ∧ i < plc ns rs (j + 1)) := fun q => hd (.inr (.inr ⟨by omega, q.2⟩))
    rw [hw, if_neg (by omega), if_neg (by omega)]
    refine h.no i hi fun q => hd ?_
    rcases q with q | q | ⟨q3, q4⟩
    · exact .inl q
    · exact .inr (.inl q)
    · exact .inr (.inr ⟨q3, by omega⟩)
theorem ph_root {ws : List (BitVec 64)} {j : Nat} (hj : j < rs.length) (h : PhI ns rs (fun i => i < 2 + 5 * j ∨ 2 + 5 * rs.length ≤ i) ws) :
    PhI ns rs (fun i => i < 2 + 5 * (j + 1) ∨ 2 + 5 * rs.length ≤ i) ((setBytesW ws ((2 + 5 * j) * 8) (padS rs[j].s)).set (2 + 5 * j + 4) (ptW (plE ns rs) rs[j].to)) := by
  have hl := h.len
  have h32 : (padS rs[j].s).length = 32 := padS_len (hg.s _ (List.getElem_mem hj)).1.2.1
  have hw : ∀ i, wat ((setBytesW ws ((2 + 5 * j) * 8) (padS rs[j].s)).set (2 + 5 * j + 4) (ptW (plE ns rs) rs[j].to)) i = if i = 2 + 5 * j + 4 then ptW (plE ns rs) rs[j].to else if 2 + 5 * j ≤ i ∧ i < 2 + 5 * j + 4 then wordV (padS rs[j].s) (i - (2 + 5 * j)) else wat ws i := fun i => by
    rw [wat_set (by rw [setBytesW_length]; omega), wat_setB (by omega) (fun i q1 q2 => h.no i (by omega) (by omega)), h32]
  refine ⟨by rw [List.length_set, setBytesW_length]; exact hl, fun i hi hd => ?_, fun i hi hd => ?_⟩
  · rw [List.length_set, setBytesW_length] at hi
    rw [hw]
    by_cases q1 : i = 2 + 5 * j + 4
    · rw [if_pos q1, q1, enc_rt hg hj]
    · rw [if_neg q1]
      by_cases q2 : 2 + 5 * j ≤ i ∧ i < 2 + 5 * j + 4
      · rw [if_pos q2]
        symm
        refine wat_some ?_
        rw [show i = 2 + 5 * j + (i - (2 + 5 * j)) by omega, enc_root (fun r hr => (hg.s r hr).1.2.1) hj (by omega)]
        unfold rtW
        have hlw : i - (2 + 5 * j) < ((padS rs[j].s).length + 7) / 8 := by rw [h32]; omega
        rw [List.getElem?_append_left (by rw [wordsV_len]; exact hlw), wordsV_at _ hlw]
        congr 2
        omega
      · rw [if_neg q2]
        exact h.yes i hi (by omega)
  · rw [List.length_set, setBytesW_length] at hi
    rw [hw, if_neg (by omega), if_neg (by omega)]
    exact h.no i hi (by omega)
omit hg in
theorem ph_mid {ws : List (BitVec 64)} (h : PhI ns rs (fun i => i < 2 ∨ ∃ k, k < ns.length ∧ i = plc ns rs k) ws) : PhI ns rs (fun i => i < 2 ∨ (∃ k, k < ns.length ∧ i = plc ns rs k) ∨ (2 + 5 * rs.length ≤ i ∧ i < plc ns rs 0)) ws :=
  h.congr fun i _ => by
    have e : plc ns rs 0 = 2 + 5 * rs.length := by unfold plc; simp [gW]
    constructor
    · rintro (q | q)
      · exact .inl q
      · exact .inr (.inl q)
    · rintro (q | q | q)
      · exact .inl q
      · exact .inr q
      · omega
omit hg in
theorem ph_mid2 {ws : List (BitVec 64)} (h : PhI ns rs (fun i => i < 2 ∨ (∃ k, k < ns.length ∧ i = plc ns rs k) ∨ (2 + 5 * rs.length ≤ i ∧ i < plc ns rs ns.length)) ws) : PhI ns rs (fun i => i < 2 + 5 * 0 ∨ 2 + 5 * rs.length ≤ i) ws :=
  h.congr fun i hi => by
    have hl := h.len
    rw [plc_end]
    constructor
    · rintro (q | ⟨k, hk, q⟩ | q)
      · exact .inl (by omega)
      · have := plc_ge (ns := ns) (rs := rs) (j := k)
        exact .inr (by omega)
      · exact .inr (by omega)
    · rintro (q | q)
      · exact .inl (by omega)
      · exact .inr (.inr ⟨q, by omega⟩)
theorem ph_end {ws : List (BitVec 64)} (h : PhI ns rs (fun i => i < 2 + 5 * rs.length ∨ 2 + 5 * rs.length ≤ i) ws) : ws = encW ns rs := by
  have hl := h.len
  have hE := enc_len hg
  refine List.ext_getElem (by omega) fun i h1 h2 => ?_
  have := h.yes i h1 (by omega)
  unfold wat at this
  rw [List.getD_eq_getElem?_getD, List.getElem?_eq_getElem h1, List.getD_eq_getElem?_getD, List.getElem?_eq_getElem h2] at this
  exact this
end
end Go.Proofs.Ytdpmidgeipibbaa
end
section
set_option linter.unusedVariables false
set_option linter.unusedSimpArgs false
set_option maxHeartbeats 4000000
namespace Go.Proofs.Ytdpmidgeipibbaa
open Go.Sh Go.RowKit

theorem hdr_with {R N : Nat} (hR : R ≤ 64) (hN : N ≤ 8192) : withB (BitVec.ofInt 64 (R : Int)) 16 32 (BitVec.ofInt 64 (N : Int)) = hdrW R N := by
  have := with_nat (BitVec.ofInt 64 (R : Int)) (BitVec.ofInt 64 (N : Int)) (a := 16) (n := 32) (by decide) (by decide)
  apply BitVec.eq_of_toNat_eq
  unfold hdrW
  rw [BitVec.ofInt_natCast, BitVec.ofInt_natCast] at *
  rw [BitVec.toNat_ofNat, BitVec.toNat_ofNat] at this
  rw [BitVec.toNat_ofNat]
  have e : (withB (BitVec.ofNat 64 R) ((16 : Nat) : Int) ((32 : Nat) : Int) (BitVec.ofNat 64 N)) = withB (BitVec.ofNat 64 R) 16 32 (BitVec.ofNat 64 N) := rfl
  rw [e] at this
  omega
abbrev rsImg2_0 := (And.intro @xu8_add (And.intro @xu8_mul (And.intro @xu8_neq (And.intro @xu8_lss (And.intro @xu16_add (And.intro @xu16_mul (And.intro @xu16_neq (And.intro @xu16_lss (And.intro @xu32_add (And.intro @xu32_mul (And.intro @xu32_neq (And.intro @xu32_lss (And.intro @xu64_add (And.intro @xu64_mul (And.intro @xu64_neq (And.intro @xu64_lss 
  (And.intro @xi64_lss (And.intro @xi64_neq (And.intro @xi64_neg (And.intro @ld_3 (And.intro @ld_9 (And.intro @ld_22 (And.intro @ld_23 (And.intro @ld_25 (And.intro @ld_66 (And.intro @ld_70 (And.intro @ld_72 (And.intro @ld_74 (And.intro @fa_25_0 (And.intro @fa_25_1 (And.intro @fa_72_0 (And.intro @fa_72_1 (And.intro @fa_74_0 (And.intro @fa_74_1 (And.intro @al_66 (And.intro @al_72 
  (And.intro @al_74 (And.intro @st_66 (And.intro @st_72 (And.intro @st_74 (And.intro @bd_123_0_1 (And.intro @bd_123_2_3 (And.intro @bd_123 (And.intro @cv_3_69 (And.intro @ia_22 (And.intro @ia_23 (And.intro @ia_66 (And.intro @ln_22 (And.intro @ln_23 (And.intro @ln_66 (And.intro @ln_70 (And.intro @bs_66_0 @bs_66_1))))))))))))))))))))))))))))))))))))))))))))))))))))
theorem iEncode_spec {w : World} {na ra : Option Addr} {nc rc : Nat} {ns : List GN} {rs : List GR} (h : GIs w na nc ra rc ns rs) (hf : FewH ns rs) : Yld Try.prog n_image_Encode #[gV na nc ra rc ns rs] w fun u w' => EncR w w' ns rs u := by
  have hfn := hf.n
  have hfr := hf.r
  refine image_Encode_of ?_
  unfold image_Encode
  simp (disch := (first | omega | decide | (simp only [rsD] <;> omega) | fail)) only [↓rsC, rsK, rsL, ↓rsImg2_0, tick_eq, tickV_eq, ne_eq, Int.reduceAdd, Int.reduceSub, Int.reduceMul, Int.reduceEq, Int.reduceLT, Int.reduceLE, Int.reduceToNat, Nat.reduceMul, Nat.reduceAdd, Nat.reduceSub, ←decide_not, eq_self]
  have B : Blk (w.alloc (.cells #[.slice na ns.length nc, .slice ra rs.length rc] 25)) w.heap.size 25 [.slice na ns.length nc, .slice ra rs.length rc] := Blk.at rfl
  have X : Ext [] w (w.alloc (.cells #[.slice na ns.length nc, .slice ra rs.length rc] 25)) := Ext.alloc _ _ _
  have hy := h.ext0 X
  generalize w.heap.size = hb at *
  generalize w.alloc (.cells #[.slice na ns.length nc, .slice ra rs.length rc] 25) = y at *
  refine graph_Check_call (Gives.to (gcheck_spec hy hf) fun w1 F1 => ?_)
  by_cases hz : chkV ns rs = 0
  rotate_left
  · have hc : encC ns rs = chkV ns rs := by unfold encC; rw [if_pos hz]
    simp (disch := (first | omega | decide | (simp only [rsD] <;> omega) | fail)) only [↓rsC, rsK, rsL, ↓rsImg2_0, tick_eq, tickV_eq, ne_eq, Int.reduceAdd, Int.reduceSub, Int.reduceMul, Int.reduceEq, Int.reduceLT, Int.reduceLE, Int.reduceToNat, Nat.reduceMul, Nat.reduceAdd, Nat.reduceSub, ←decide_not, eq_self]
    exact .inl ⟨by rw [hc]; exact hz, by rw [hc], X.trans F1⟩
  have hg := chk_zero.1 hz
  rw [hz]
  have k1 := fun i => (B.ext F1 (by simp)).cell (i := i)
  have hgr := hg.r
  have hgx := fun x hx => (hg.x x hx).2
  have hle := gW_le ns hgx
  simp (disch := (first | omega | decide | (simp only [rsD] <;> omega) | fail)) only [↓rsC, rsK, rsL, ↓rsImg2_0, tick_eq, tickV_eq, ne_eq, Int.reduceAdd, Int.reduceSub, Int.reduceMul, Int.reduceEq, Int.reduceLT, Int.reduceLE, Int.reduceToNat, Nat.reduceMul, Nat.reduceAdd, Nat.reduceSub, ←decide_not, k1]
  refine image_Need_call (Gives.to (gneed_spec (hy.ext0 F1) hf hg) fun w2 F2 => ?_)
  have F12 := F1.trans F2
  by_cases h8 : 8192 < 2 + 5 * rs.length + gW ns
  · have hc : encC ns rs = 3 := by unfold encC; rw [if_neg (by rw [hz]; simp), if_pos h8]
    refine mem_New_call (Gives.to (New_bad _ w2 (.inr (by omega))) fun w3 F3 => ?_)
    simp (disch := (first | omega | decide | (simp only [rsD] <;> omega) | fail)) only [↓rsC, rsK, rsL, ↓rsImg2_0, tick_eq, tickV_eq, ne_eq, Int.reduceAdd, Int.reduceSub, Int.reduceMul, Int.reduceEq, Int.reduceLT, Int.reduceLE, Int.reduceToNat, Nat.reduceMul, Nat.reduceAdd, Nat.reduceSub, ←decide_not, k1]
    exact .inl ⟨by rw [hc]; decide, by rw [hc], X.trans (F12.trans F3)⟩
  have hc0 : encC ns rs = 0 := by unfold encC; rw [if_neg (by rw [hz]; simp), if_neg h8]
  refine mem_New_call (Yld.mono (New_spec (2 + 5 * rs.length + gW ns) w2 (by omega)) ?_)
  rintro u w3 ⟨F3, g, a, c, rfl, M3⟩
  have P3 := ph_zero (ns := ns) (rs := rs)
  generalize hw3 : List.replicate (2 + 5 * rs.length + gW ns) c0 = ws3 at *
  have L3 := P3.len
  have hup := M3.up
  have hbase := F12.size
  have Y3 := F12.trans F3
  have hne3 : ws3 ≠ [] := fun e => by rw [e] at L3; simp at L3; omega
  have hbb := B.lt
  simp (disch := (first | omega | decide | (simp only [rsD] <;> omega) | fail)) only [↓rsC, rsK, rsL, ↓rsImg2_0, tick_eq, tickV_eq, ne_eq, Int.reduceAdd, Int.reduceSub, Int.reduceMul, Int.reduceEq, Int.reduceLT, Int.reduceLE, Int.reduceToNat, Nat.reduceMul, Nat.reduceAdd, Nat.reduceSub, ←decide_not, k1]
  refine mem_Mem_Set_call (Yld.mono (Set_ok 0 (BitVec.ofNat 64 1296125772) M3 (by omega)) ?_)
  rintro u w4 ⟨rfl, F4, M4⟩
  have Y4 : Ext [] y w4 := Y3.new F4 (fun z hz => by have := hup z hz; omega)
  have Bd := B.ext (Y4.trans (Ext.drew [] w4)) (by simp)
  have kd := fun i => Bd.cell (i := i)
  simp (disch := (first | omega | decide | (simp only [rsD] <;> omega) | fail)) only [↓rsC, rsK, rsL, ↓rsImg2_0, tick_eq, tickV_eq, ne_eq, Int.reduceAdd, Int.reduceSub, Int.reduceMul, Int.reduceEq, Int.reduceLT, Int.reduceLE, Int.reduceToNat, Nat.reduceMul, Nat.reduceAdd, Nat.reduceSub, ←decide_not, k1, kd]
  refine mem_Mem_Len_call (Gives.to (Len_spec (M4.ext0 (Ext.drew [] w4))) fun w5 F5d => ?_)
  have F5 := (Ext.drew [] w4).trans F5d
  have M5 := M4.ext0 F5
  have Y5 := Y4.trans F5
  have k5 := fun i => (B.ext Y5 (by simp)).cell (i := i)
  have el5 : (ws3.set 0 (BitVec.ofNat 64 1296125772)).length = 2 + 5 * rs.length + gW ns := by rw [List.length_set]; exact L3
  rw [el5]
  simp (disch := (first | omega | decide | (simp only [rsD] <;> omega) | fail)) only [↓rsC, rsK, rsL, ↓rsImg2_0, tick_eq, tickV_eq, ne_eq, Int.reduceAdd, Int.reduceSub, Int.reduceMul, Int.reduceEq, Int.reduceLT, Int.reduceLE, Int.reduceToNat, Nat.reduceMul, Nat.reduceAdd, Nat.reduceSub, ←decide_not, k1, kd, k5]
  have hwi := fun w => With_spec (BitVec.ofInt 64 (rs.length : Int)) (BitVec.ofInt 64 ((2 + 5 * rs.length + gW ns : Nat) : Int)) 16 32 w
  rw [hdr_with hgr (by omega)] at hwi
  refine bits_With_call (Gives.to (hwi w5) fun w6 F6 => ?_)
  have M6 := M5.ext0 F6
  refine mem_Mem_Set_call (Yld.mono (Set_ok 1 (hdrW rs.length (2 + 5 * rs.length + gW ns)) M6 (by omega)) ?_)
  rintro u w7 ⟨rfl, F7, M7⟩
  have P7 := ph_head P3
  have Y7 : Ext [] y w7 := (Y5.trans F6).new F7 (fun z hz => by have := hup z hz; omega)
  generalize (ws3.set 0 (BitVec.ofNat 64 1296125772)).set 1 (hdrW rs.length (2 + 5 * rs.length + gW ns)) = ws7 at *
  have L7 := P7.len
  have Bd7 := B.ext (Y7.trans (Ext.drew [] w7)) (by simp)
  have kd7 := fun i => Bd7.cell (i := i)
  simp (disch := (first | omega | decide | (simp only [rsD] <;> omega) | fail)) only [↓rsC, rsK, rsL, ↓rsImg2_0, tick_eq, tickV_eq, ne_eq, Int.reduceAdd, Int.reduceSub, Int.reduceMul, Int.reduceEq, Int.reduceLT, Int.reduceLE, Int.reduceToNat, Nat.reduceMul, Nat.reduceAdd, Nat.reduceSub, ←decide_not, k1, kd, k5, kd7]
  refine mem_Mem_Len_call (Gives.to (Len_spec (M7.ext0 (Ext.drew [] w7))) fun w8 F8d => ?_)
  have F8 := (Ext.drew [] w7).trans F8d
  have M8 := M7.ext0 F8
  have Y8 := Y7.trans F8
  have k8 := fun i => (B.ext Y8 (by simp)).cell (i := i)
  have e8 : (2 : Int) + 5 * (rs.length : Int) = ((2 + 5 * rs.length : Nat) : Int) := by omega
  simp (disch := (first | omega | decide | (simp only [rsD] <;> omega) | fail)) only [↓rsC, rsK, rsL, ↓rsImg2_0, tick_eq, tickV_eq, ne_eq, Int.reduceAdd, Int.reduceSub, Int.reduceMul, Int.reduceEq, Int.reduceLT, Int.reduceLE, Int.reduceToNat, Nat.reduceMul, Nat.reduceAdd, Nat.reduceSub, ←decide_not, k1, kd, k5, kd7, k8, e8]
  refine space_New_call (Yld.mono (SNew_ok (b := 2 + 5 * rs.length) (e := ws7.length) M8 (by omega) (Nat.le_refl _)) ?_)
  rintro u w9 ⟨F9, s, rfl, hs1, hs2, S9⟩
  have Y9 := Y8.trans F9
  have k9 := fun i => (B.ext Y9 (by simp)).cell (i := i)
  have zb9 := (B.ext Y9 (by simp)).lt
  simp (disch := (first | omega | decide | (simp only [rsD] <;> omega) | fail)) only [↓rsC, rsK, rsL, ↓rsImg2_0, tick_eq, tickV_eq, ne_eq, Int.reduceAdd, Int.reduceSub, Int.reduceMul, Int.reduceEq, Int.reduceLT, Int.reduceLE, Int.reduceToNat, Nat.reduceMul, Nat.reduceAdd, Nat.reduceSub, ←decide_not, k1, kd, k5, kd7, k8, e8, k9]
  have C : Blk (w9.alloc (.cells #[.slice none 0 0] 66)) w9.heap.size 66 [.slice none 0 0] := Blk.at rfl
  have X9 : Ext [] w9 (w9.alloc (.cells #[.slice none 0 0] 66)) := Ext.alloc _ _ _
  have S10 := S9.ext0 X9
  have Y10 := Y9.trans X9
  have hne7 : ws7 ≠ [] := fun e => by rw [e] at L7; simp at L7; omega
  have zg9 := S9.mem.lt
  have za9 := S9.mem.blt hne7
  have hga := S9.mem.apart hne7
  have hsa := S9.sa hne7
  have hyb : ∀ z ∈ blkOf a, y.heap.size ≤ z := fun z hz => by have := hup z hz; omega
  have hys : y.heap.size ≤ s := by have := Y8.size; omega
  have hyg : y.heap.size ≤ g := by have := S9.mem.lo; omega
  have hpby : y.heap.size ≤ w9.heap.size := Y9.size
  generalize w9.alloc (.cells #[.slice none 0 0] 66) = y9 at *
  generalize w9.heap.size = pb at *
  have e0 : plc ns rs 0 = 2 + 5 * rs.length := by unfold plc; simp [gW]
  have hNe : ws7.length = plc ns rs ns.length := by rw [L7, plc_end]
  rw [hNe] at S10
  have hples : ∀ j, j ≤ ns.length → ∀ p ∈ plL ns rs.length j, p ≤ 1000000 := fun j hj p hp => by
    obtain ⟨k, hk, rfl⟩ := List.mem_map.1 hp
    have := List.mem_range.1 hk
    have := plc_mono (ns := ns) (rs := rs) (show k ≤ ns.length by omega)
    rw [plc_end] at this
    have e : plc ns rs k = 2 + 5 * rs.length + gW (ns.take k) := rfl
    omega
  have hpbx : pb ∉ s :: blkOf a := fun hm => by
    rcases List.mem_cons.1 hm with e | hm
    · omega
    · have := za9 pb hm; omega
  refine xLoop_n ns.length (fun j => [i64 (j : Int)]) (fun j w' => ∃ v ws, SpIs w' w2.heap.size s g a c ws (2 + 5 * rs.length) (plc ns rs j) (plc ns rs ns.length) ∧ PhI ns rs (fun i => i < 2 ∨ ∃ k, k < j ∧ i = plc ns rs k) ws ∧ Blk w' pb 66 [v] ∧ OwnI w' v (plL ns rs.length j) ∧ pb ∉ blk v ∧ s ∉ blk v ∧ (∀ z ∈ blk v, z ∉ blkOf a) ∧ (∀ z ∈ blk v, y.heap.size ≤ z) ∧ g ∉ blk v ∧ Ext [] y w') rfl
    ⟨.slice none 0 0, ws7, by rw [e0]; exact S10, P7.congr (fun i _ => by simp), C, Own.nil, by simp [blk, Value.ownBlock], by simp [blk, Value.ownBlock], by simp [blk, Value.ownBlock], by simp [blk, Value.ownBlock], by simp [blk, Value.ownBlock], Y10⟩ ?_ ?_
  · rintro j hj u v1 hu ⟨v, ws, S, Ph, Cp, O, d1, d2, d3, d4, d5, Y⟩ nxt hnx
    simp only [List.map_cons, List.map_nil, List.cons.injEq, and_true] at hu
    rw [hu]
    have L := Ph.len
    have hne : ws ≠ [] := fun e => by rw [e] at L; simp at L; omega
    obtain ⟨b1, o1, ha1, z1, c1, c2⟩ := gn_at (hy.ext0 Y).nr hj
    obtain ⟨q1, q2⟩ := hgx _ (List.getElem_mem hj)
    obtain ⟨hr, _, hsz, _, _⟩ := pack_v q1 q2
    have hst := plc_step (ns := ns) (rs := rs) hj
    have hmn := plc_mono (ns := ns) (rs := rs) (show j + 1 ≤ ns.length from hj)
    have hPn := ph_alloc hg hj Ph
    have hpll : (plL ns rs.length j).length = j := plL_len _ _ _
    have hplj : plL ns rs.length (j + 1) = plL ns rs.length j ++ [plc ns rs j] := by
      unfold plL
      rw [List.range_succ, List.map_append]
      rfl
    have zv := O.lt
    have zp := Cp.lt
    obtain ⟨av, cv, hv, _⟩ := O.slice
    subst hv
    have kp := fun i => Cp.cell (i := i)
    unfold image_Encode_l1
    simp (disch := (first | omega | decide | (simp only [rsD] <;> omega) | fail)) only [↓rsC, rsK, rsL, ↓rsImg2_0, tick_eq, tickV_eq, ne_eq, Int.reduceAdd, Int.reduceSub, Int.reduceMul, Int.reduceEq, Int.reduceLT, Int.reduceLE, Int.reduceToNat, Nat.reduceMul, Nat.reduceAdd, Nat.reduceSub, ←decide_not, k1, kd, k5, kd7, k8, e8, k9, ha1, c1, c2]
    have X1 : Ext [] v1 (v1.alloc (.cells #[.slice ns[j].pa ns[j].p.length ns[j].pc, .slice ns[j].da ns[j].d.length ns[j].dc] 72)) := Ext.alloc _ _ _
    refine space_Space_Alloc_call (Yld.mono (SAlloc_ok (n := gsz ns[j]) (S.ext0 X1) hr (by rw [hsz]; rfl) (by omega)) ?_)
    rintro u v2 ⟨rfl, F2, S2⟩
    have F2' : Ext (s :: blkOf a) v1 v2 := (X1.more (by simp)).trans F2
    have Cp2 := Cp.ext F2' hpbx
    have O2 := O.ext F2' (fun z hz hm => by
      rcases List.mem_cons.1 hm with rfl | hm
      · exact d2 hz
      · exact d3 z hz hm)
    have k2 := fun i => Cp2.cell (i := i)
    have Y2 := Y.new F2' (fun z hz => by
      rcases List.mem_cons.1 hz with rfl | hz
      · exact hys
      · exact hyb z hz)
    simp (disch := (first | omega | decide | (simp only [rsD] <;> omega) | fail)) only [↓rsC, rsK, rsL, ↓rsImg2_0, tick_eq, tickV_eq, ne_eq, Int.reduceAdd, Int.reduceSub, Int.reduceMul, Int.reduceEq, Int.reduceLT, Int.reduceLE, Int.reduceToNat, Nat.reduceMul, Nat.reduceAdd, Nat.reduceSub, ←decide_not, k1, kd, k5, kd7, k8, e8, k9, ha1, c1, c2, k2]
    refine appIl O2 rfl (by rw [hpll]; omega) fun v' v3 O3 T3 => ?_
    have z2 := F2'.size
    have zs := S.blk.lt
    have zg := S.mem.lt
    have zaa := S.mem.blt hne
    have Cp3 := Cp2.ext T3.ext d1
    rw [← hst] at S2
    have S3 := S2.ext T3.ext d2 d5 (fun _ z hz hm => d3 z hm hz)
    have Y3' := Y2.new T3.ext d4
    have G3 := T3.at'
    have k3 := fun i => Cp3.cell (i := i)
    have f3 := fun i => Cp3.frozen (i := i)
    have nin : ∀ z, z < v2.heap.size → z ∉ blk (.slice av (plL ns rs.length j).length cv) → z ∉ blk v' := fun z h1 h2 hm => by
      rcases G3 z hm with h3 | h3
      · exact h2 h3
      · omega
    have npb := nin pb (by omega) d1
    have ns' := nin s (by omega) d2
    have ng' := nin g (by omega) d5
    have na' : ∀ z ∈ blk v', z ∉ blkOf a := fun z hz hm => nin z (by have := zaa z hm; omega) (fun h => d3 z h hm) hz
    have ny' : ∀ z ∈ blk v', y.heap.size ≤ z := fun z hz => by
      rcases G3 z hz with h3 | h3
      · exact d4 z h3
      · have := Y2.size; omega
    obtain ⟨a3, c3, hv3, _⟩ := O3.slice
    subst hv3
    simp (disch := (first | omega | decide | (simp only [rsD] <;> omega) | fail)) only [↓rsC, rsK, rsL, ↓rsImg2_0, tick_eq, tickV_eq, ne_eq, Int.reduceAdd, Int.reduceSub, Int.reduceMul, Int.reduceEq, Int.reduceLT, Int.reduceLE, Int.reduceToNat, Nat.reduceMul, Nat.reduceAdd, Nat.reduceSub, ←decide_not, k1, kd, k5, kd7, k8, e8, k9, ha1, c1, c2, k2, k3, f3]
    have Cp4 := Cp3.set (i := 0) (v := .slice a3 (plL ns rs.length j ++ [plc ns rs j]).length c3)
    have X4 : Ext [pb] v3 (v3.setCell ⟨pb, 0, none⟩ (.slice a3 (plL ns rs.length j ++ [plc ns rs j]).length c3)) := Ext.set (w := v3) (b := pb)
    refine hnx _ ⟨_, _, S3.ext X4 (by simp only [List.mem_singleton]; omega) (by simp only [List.mem_singleton]; omega) (fun _ z hz hm => by simp only [List.mem_singleton] at hm; have := za9 z hz; omega), hPn, Cp4, ?_, npb, ns', na', ny', ng', Y3'.set' (.inr hpby)⟩
    rw [hplj]
    exact O3.ext X4 (fun z hz hm => by simp only [List.mem_singleton] at hm; subst hm; exact npb hz)
  rintro u v1 hu ⟨v, ws, S, Ph, Cp, O, d1, d2, d3, d4, d5, Y⟩ nxt
  simp only [List.map_cons, List.map_nil, List.cons.injEq, and_true] at hu
  rw [hu]
  have zb1 := (B.ext Y (by simp)).lt
  have k1 := fun i => (B.ext Y (by simp)).cell (i := i)
  obtain ⟨av, cv, hv, hcv, _, hnv, hrv, _⟩ := O.slice
  subst hv
  have Pm := ph_mid Ph
  have L1 := Ph.len
  have hne1 : ws ≠ [] := fun e => by rw [e] at L1; simp at L1; omega
  have za1 := S.mem.blt hne1
  have hbk : ∀ {w' : World}, Ext (blkOf a) v1 w' → Ext [] y w' := fun F => Y.new F hyb
  have hKp : ∀ {w' : World}, Ext (blkOf a) v1 w' → w'.cell? ⟨pb, 0, none⟩ = some (.slice av (plE ns rs).length cv) ∧ RowAt w' av (nums (plE ns rs)) := fun {w'} F => by
    have h1 := (Cp.ext F (fun hm => hpbx (List.mem_cons_of_mem _ hm))).cell (i := 0)
    refine ⟨h1, hrv.ext F fun b o hb hm => ?_⟩
    exact d3 b (by rw [hb]; simp [blk, Value.ownBlock]) hm
  have hpll : (plE ns rs).length = ns.length := plL_len _ _ _
  have M1 := S.mem
  unfold image_Encode_l1
  simp (disch := (first | omega | decide | (simp only [rsD] <;> omega) | fail)) only [↓rsC, rsK, rsL, ↓rsImg2_0, tick_eq, tickV_eq, ne_eq, Int.reduceAdd, Int.reduceSub, Int.reduceMul, Int.reduceEq, Int.reduceLT, Int.reduceLE, Int.reduceToNat, Nat.reduceMul, Nat.reduceAdd, Nat.reduceSub, ←decide_not, k1, kd, k5, kd7, k8, e8, k9]
  refine xLoop_n ns.length (fun j => [i64 (j : Int)]) (fun j w' => ∃ ws, Ext (blkOf a) v1 w' ∧ MemIs w' w2.heap.size g a c ws ∧ PhI ns rs (fun i => i < 2 ∨ (∃ k, k < ns.length ∧ i = plc ns rs k) ∨ (2 + 5 * rs.length ≤ i ∧ i < plc ns rs j)) ws) rfl ⟨ws, Ext.refl _ _, M1, Pm⟩ ?_ ?_
  · rintro j hj u v2 hu ⟨ws2, F2, M2, P2⟩ nxt2 hnx2
    simp only [List.map_cons, List.map_nil, List.cons.injEq, and_true] at hu
    rw [hu]
    have Y2 := hbk F2
    obtain ⟨b1, o1, ha1, z1, c1, c2⟩ := gn_at (hy.ext0 Y2).nr hj
    obtain ⟨kp, rp⟩ := hKp F2
    have hPn := ph_node hg hj P2
    have L2 := P2.len
    have hlt := plc_lt (ns := ns) (rs := rs) hj
    have hgz : gsz ns[j] = 1 + ns[j].p.length + (ns[j].d.length + 7) / 8 := rfl
    obtain ⟨bp, op, hap, zp, kpl⟩ := rp.at (i := j) (by simpa [hpll] using hj)
    have kpj : v2.cell? ⟨bp, op + j, none⟩ = some (i64 ((plc ns rs j : Nat) : Int)) := by
      rw [kpl]
      have := pl_get (rs := rs) hj
      simp only [List.getElem_map]
      have h2 : (plE ns rs)[j]'(by rw [hpll]; exact hj) = plc ns rs j := by
        rw [List.getElem?_eq_getElem (by rw [hpll]; exact hj)] at this
        exact Option.some.inj this
      rw [h2]
    have zpb : pb < v2.heap.size := World.block_lt_of_cell? v2 ⟨pb, 0, none⟩ kp
    obtain ⟨hxp, _, _⟩ := hg.x _ (List.getElem_mem hj)
    have hxok := hy.ok _ (List.getElem_mem hj)
    unfold image_Encode_l2
    simp (disch := (first | omega | decide | (simp only [rsD] <;> omega) | fail)) only [↓rsC, rsK, rsL, ↓rsImg2_0, tick_eq, tickV_eq, ne_eq, Int.reduceAdd, Int.reduceSub, Int.reduceMul, Int.reduceEq, Int.reduceLT, Int.reduceLE, Int.reduceToNat, Nat.reduceMul, Nat.reduceAdd, Nat.reduceSub, ←decide_not, k1, kd, k5, kd7, k8, e8, k9, ha1, c1, c2, kp, hap, kpj]
    have X3 : Ext [] v2 (v2.alloc (.cells #[.slice ns[j].pa ns[j].p.length ns[j].pc, .slice ns[j].da ns[j].d.length ns[j].dc] 72)).drew := (Ext.alloc _ _ _).trans (Ext.drew _ _)
    have Fx := fun {w' : World} (F : Ext (blkOf a) (v2.alloc (.cells #[.slice ns[j].pa ns[j].p.length ns[j].pc, .slice ns[j].da ns[j].d.length ns[j].dc] 72)).drew w') => F2.trans ((X3.more (by simp)).trans F)
    refine image_node_call (Yld.mono (inode_spec (M2.ext0 X3) ns[j] (plE ns rs) pb av cv (plc ns rs j) (by omega) (hples _ (Nat.le_refl _)) (fun p hp => by rw [hpll]; exact hxp p hp) (fun w' F => ⟨hxok.ext0 (hbk (Fx F)), hKp (Fx F)⟩) (fun hd b o hb hm => by
      obtain ⟨b', o', h1, h2, _⟩ := hxok.dr.get (by simpa using hd)
      rw [hb] at h1
      cases h1
      have := hyb _ hm
      omega) (by omega)) ?_)
    rintro u v4 ⟨F4, M4⟩
    simp (disch := (first | omega | decide | (simp only [rsD] <;> omega) | fail)) only [↓rsC, rsK, rsL, ↓rsImg2_0, tick_eq, tickV_eq, ne_eq, Int.reduceAdd, Int.reduceSub, Int.reduceMul, Int.reduceEq, Int.reduceLT, Int.reduceLE, Int.reduceToNat, Nat.reduceMul, Nat.reduceAdd, Nat.reduceSub, ←decide_not, k1, kd, k5, kd7, k8, e8, k9, ha1, c1, c2, kp, hap, kpj]
    exact hnx2 _ ⟨_, Fx F4, M4, hPn⟩
  rintro u v2 hu ⟨ws2, F2, M2, P2⟩ nxt2
  simp only [List.map_cons, List.map_nil, List.cons.injEq, and_true] at hu
  rw [hu]
  have Pr := ph_mid2 P2
  have k2 := fun i => (B.ext (hbk F2) (by simp)).cell (i := i)
  unfold image_Encode_l2
  simp (disch := (first | omega | decide | (simp only [rsD] <;> omega) | fail)) only [↓rsC, rsK, rsL, ↓rsImg2_0, tick_eq, tickV_eq, ne_eq, Int.reduceAdd, Int.reduceSub, Int.reduceMul, Int.reduceEq, Int.reduceLT, Int.reduceLE, Int.reduceToNat, Nat.reduceMul, Nat.reduceAdd, Nat.reduceSub, ←decide_not, k1, kd, k5, kd7, k8, e8, k9, k2]
  refine xLoop_n rs.length (fun j => [i64 (j : Int)]) (fun j w' => ∃ ws, Ext (blkOf a) v1 w' ∧ MemIs w' w2.heap.size g a c ws ∧ PhI ns rs (fun i => i < 2 + 5 * j ∨ 2 + 5 * rs.length ≤ i) ws) rfl ⟨ws2, F2, M2, Pr⟩ ?_ ?_
  · rintro j hj u v3 hu ⟨ws3, F3, M3, P3⟩ nxt3 hnx3
    simp only [List.map_cons, List.map_nil, List.cons.injEq, and_true] at hu
    rw [hu]
    have Y3 := hbk F3
    obtain ⟨b1, o1, ha1, z1, c1, c2⟩ := gr_at (hy.ext0 Y3).rr hj
    obtain ⟨kp, rp⟩ := hKp F3
    have hPn := ph_root hg hj P3
    have L3 := P3.len
    have zpb : pb < v3.heap.size := World.block_lt_of_cell? v3 ⟨pb, 0, none⟩ kp
    obtain ⟨hnm, ht0, ht1⟩ := hg.s _ (List.getElem_mem hj)
    have e5 : (2 : Int) + 5 * (j : Int) = ((2 + 5 * j : Nat) : Int) := by omega
    unfold image_Encode_l3
    simp (disch := (first | omega | decide | (simp only [rsD] <;> omega) | fail)) only [↓rsC, rsK, rsL, ↓rsImg2_0, tick_eq, tickV_eq, ne_eq, Int.reduceAdd, Int.reduceSub, Int.reduceMul, Int.reduceEq, Int.reduceLT, Int.reduceLE, Int.reduceToNat, Nat.reduceMul, Nat.reduceAdd, Nat.reduceSub, ←decide_not, k1, kd, k5, kd7, k8, e8, k9, k2, ha1, c1, c2, e5]
    have C3 : Blk (v3.alloc (.cells #[.string (strOf rs[j].s), i64 rs[j].to] 74)) v3.heap.size 74 [.string (strOf rs[j].s), i64 rs[j].to] := Blk.at rfl
    have C3d := C3.ext (Ext.drew [] _) (by simp)
    have X3 : Ext [] v3 (v3.alloc (.cells #[.string (strOf rs[j].s), i64 rs[j].to] 74)).drew := (Ext.alloc _ _ _).trans (Ext.drew _ _)
    have M4 := M3.ext0 X3
    have Fx : Ext (blkOf a) v1 (v3.alloc (.cells #[.string (strOf rs[j].s), i64 rs[j].to] 74)).drew := F3.trans (X3.more (by simp))
    obtain ⟨kp4, rp4⟩ := hKp Fx
    generalize (v3.alloc (.cells #[.string (strOf rs[j].s), i64 rs[j].to] 74)).drew = y3 at *
    generalize v3.heap.size = nb at *
    refine image_Encode_1_callc (Gives.to (to_spec (plE ns rs) pb av cv rs[j].to kp4 rp4 ht0 (by rw [hpll]; exact ht1) (by omega) (hples _ (Nat.le_refl _))) fun v4 F4 => ?_)
    have k4 := fun i => (C3d.ext F4 (by simp)).cell (i := i)
    simp (disch := (first | omega | decide | (simp only [rsD] <;> omega) | fail)) only [↓rsC, rsK, rsL, ↓rsImg2_0, tick_eq, tickV_eq, ne_eq, Int.reduceAdd, Int.reduceSub, Int.reduceMul, Int.reduceEq, Int.reduceLT, Int.reduceLE, Int.reduceToNat, Nat.reduceMul, Nat.reduceAdd, Nat.reduceSub, ←decide_not, k1, kd, k5, kd7, k8, e8, k9, k2, ha1, c1, c2, e5, k4]
    refine image_root_call (Yld.mono (iroot_spec (M4.ext0 F4) (nmOk_iff.2 hnm) (2 + 5 * j) (by omega) (ptW (plE ns rs) rs[j].to)) ?_)
    rintro u v5 ⟨F5, M5⟩
    simp (disch := (first | omega | decide | (simp only [rsD] <;> omega) | fail)) only [↓rsC, rsK, rsL, ↓rsImg2_0, tick_eq, tickV_eq, ne_eq, Int.reduceAdd, Int.reduceSub, Int.reduceMul, Int.reduceEq, Int.reduceLT, Int.reduceLE, Int.reduceToNat, Nat.reduceMul, Nat.reduceAdd, Nat.reduceSub, ←decide_not, k1, kd, k5, kd7, k8, e8, k9, k2, ha1, c1, c2, e5, k4]
    exact hnx3 _ ⟨_, Fx.trans ((F4.more (by simp)).trans F5), M5, hPn⟩
  · rintro u v3 hu ⟨ws3, F3, M3, P3⟩ nxt3
    simp only [List.map_cons, List.map_nil, List.cons.injEq, and_true] at hu
    rw [hu]
    have hE := ph_end hg P3
    subst hE
    unfold image_Encode_l3
    simp (disch := (first | omega | decide | (simp only [rsD] <;> omega) | fail)) only [↓rsC, rsK, rsL, ↓rsImg2_0, tick_eq, tickV_eq, ne_eq, Int.reduceAdd, Int.reduceSub, Int.reduceMul, Int.reduceEq, Int.reduceLT, Int.reduceLE, Int.reduceToNat, Nat.reduceMul, Nat.reduceAdd, Nat.reduceSub, ←decide_not, k1, kd, k5, kd7, k8, e8, k9, k2]
    refine mem_Mem_Words_call (Yld.mono (Words_spec M3) ?_)
    rintro u v4 ⟨F4, a4, c4, rfl, hc4, hn4, O4, _⟩
    exact .inr ⟨hc0, hg, by omega, a4, c4, by trivial, hc4, hn4, O4.row, X.trans ((hbk F3).trans F4)⟩
end Go.Proofs.Ytdpmidgeipibbaa
end
section
set_option linter.unusedVariables false
set_option linter.unusedSimpArgs false
set_option maxHeartbeats 4000000
namespace Go.Proofs.Ytdpmidgeipibbaa
open Go.Sh Go.RowKit

/-- how many numbers of a row are less than one -/
def lowN (os : List Nat) (x : Nat) : Nat := os.countP fun y => decide (y < x)
theorem lowN_at {os : List Nat} {x i : Nat} (hi : i ≤ os.length) (h1 : ∀ k (hk : k < os.length), k < i → os[k] < x) (h2 : ∀ k (hk : k < os.length), i ≤ k → x ≤ os[k]) : lowN os x = i := by
  unfold lowN
  have e : os = os.take i ++ os.drop i := (List.take_append_drop i os).symm
  rw [e, List.countP_append]
  have a1 : (os.take i).countP (fun y => decide (y < x)) = i := by
    rw [List.countP_eq_length.2, List.length_take, Nat.min_eq_left hi]
    intro y hy
    obtain ⟨k, hk, rfl⟩ := List.getElem_of_mem hy
    rw [List.length_take] at hk
    rw [List.getElem_take]
    exact decide_eq_true (h1 k (by omega) (by omega))
  have a2 : (os.drop i).countP (fun y => decide (y < x)) = 0 := by
    rw [List.countP_eq_zero]
    intro y hy
    obtain ⟨k, hk, rfl⟩ := List.getElem_of_mem hy
    rw [List.length_drop] at hk
    rw [List.getElem_drop]
    have := h2 (i + k) (by omega) (by omega)
    simp; omega
  omega
abbrev rsDec1_0 := (And.intro @xu8_neq (And.intro @xu16_neq (And.intro @xu32_neq (And.intro @xu64_neq (And.intro @xi64_neq @xi64_neg)))))
theorem cNaN_spec (i : Int) (w : World) : Gives Try.prog n_cmp_isNaN_int #[i64 i] w (.bool false) := by
  refine cmp_isNaN_int_of ?_
  unfold cmp_isNaN_int
  simp (disch := (first | omega | decide | (simp only [rsD] <;> omega) | fail)) only [↓rsC, rsK, rsL, ↓rsDec1_0, tick_eq, tickV_eq, ne_eq, Int.reduceAdd, Int.reduceSub, Int.reduceMul, Int.reduceEq, Int.reduceLT, Int.reduceLE, Int.reduceToNat, Nat.reduceMul, Nat.reduceAdd, Nat.reduceSub, ←decide_not, eq_self]
  exact ⟨by trivial, Ext.refl _ _⟩
theorem sNaN_spec (i : Int) (w : World) : Gives Try.prog n_slices_isNaN_int #[i64 i] w (.bool false) := by
  refine slices_isNaN_int_of ?_
  unfold slices_isNaN_int
  simp (disch := (first | omega | decide | (simp only [rsD] <;> omega) | fail)) only [↓rsC, rsK, rsL, ↓rsDec1_0, tick_eq, tickV_eq, ne_eq, Int.reduceAdd, Int.reduceSub, Int.reduceMul, Int.reduceEq, Int.reduceLT, Int.reduceLE, Int.reduceToNat, Nat.reduceMul, Nat.reduceAdd, Nat.reduceSub, ←decide_not, eq_self]
  exact ⟨by trivial, Ext.refl _ _⟩
abbrev rsDec1_1 := (And.intro @xu8_com (And.intro @xu8_lss (And.intro @xu16_com (And.intro @xu16_lss (And.intro @xu32_com (And.intro @xu32_lss (And.intro @xu64_com (And.intro @xu64_lss @xi64_lss))))))))
theorem cLess_spec (i j : Int) (w : World) : Gives Try.prog n_cmp_Less_int #[i64 i, i64 j] w (.bool (decide (i < j))) := by
  refine cmp_Less_int_of ?_
  unfold cmp_Less_int
  simp (disch := (first | omega | decide | (simp only [rsD] <;> omega) | fail)) only [↓rsC, rsK, rsL, ↓rsDec1_1, tick_eq, tickV_eq, ne_eq, Int.reduceAdd, Int.reduceSub, Int.reduceMul, Int.reduceEq, Int.reduceLT, Int.reduceLE, Int.reduceToNat, Nat.reduceMul, Nat.reduceAdd, Nat.reduceSub, ←decide_not, eq_self]
  refine cmp_isNaN_int_call (Gives.to (cNaN_spec i w) fun w1 F1 => ?_)
  simp (disch := (first | omega | decide | (simp only [rsD] <;> omega) | fail)) only [↓rsC, rsK, rsL, ↓rsDec1_1, tick_eq, tickV_eq, ne_eq, Int.reduceAdd, Int.reduceSub, Int.reduceMul, Int.reduceEq, Int.reduceLT, Int.reduceLE, Int.reduceToNat, Nat.reduceMul, Nat.reduceAdd, Nat.reduceSub, ←decide_not, eq_self]
  exact ⟨by trivial, F1⟩
abbrev rsDec1_2 := (And.intro @xu8_add (And.intro @xu8_shr (And.intro @xu8_eql (And.intro @xu8_lss (And.intro @xu16_add (And.intro @xu16_shr (And.intro @xu16_eql (And.intro @xu16_lss (And.intro @xu32_add (And.intro @xu32_shr (And.intro @xu32_eql (And.intro @xu32_lss (And.intro @xu64_add (And.intro @xu64_shr (And.intro @xu64_eql (And.intro @xu64_lss 
  (And.intro @xi64_lss (And.intro @xi64_eql (And.intro @xi64_shr (And.intro @ld_3 (And.intro @cv_3_77 (And.intro @cv_77_3 (And.intro @ia_66 @ln_66)))))))))))))))))))))))
theorem BSearch_spec {w : World} {os : List Nat} {a : Option Addr} {c : Nat} (h : RowAt w a (nums os)) (hs : os.Pairwise (· < ·)) (hl : os.length ≤ 100000) (hb : ∀ y ∈ os, y ≤ 1000000) (x : Nat) (hx : x ≤ 1000000) :
    Gives Try.prog n_slices_BinarySearch_int_int #[.slice a os.length c, i64 (x : Int)] w (.tuple #[i64 (lowN os x : Int), .bool (decide (x ∈ os))]) := by
  have hinc : ∀ i j (hi : i < os.length) (hj : j < os.length), i < j → os[i] < os[j] := fun i j hi hj hij => List.pairwise_iff_getElem.1 hs i j hi hj hij
  have at' : ∀ (w' : World), Ext [] w w' → ∀ j (hj : j < os.length), ∃ b o, a = some ⟨b, o, none⟩ ∧ b < w'.heap.size ∧ w'.cell? ⟨b, o + j, none⟩ = some (i64 (os[j] : Int)) := fun w' F j hj => by
    obtain ⟨b, o, ha, hlt, hc⟩ := (h.ext0 F).at (i := j) (by simpa using hj)
    exact ⟨b, o, ha, hlt, by rw [hc]; simp⟩
  refine slices_BinarySearch_int_int_of ?_
  unfold slices_BinarySearch_int_int
  simp (disch := (first | omega | decide | (simp only [rsD] <;> omega) | fail)) only [↓rsC, rsK, rsL, ↓rsDec1_2, tick_eq, tickV_eq, ne_eq, Int.reduceAdd, Int.reduceSub, Int.reduceMul, Int.reduceEq, Int.reduceLT, Int.reduceLE, Int.reduceToNat, Nat.reduceMul, Nat.reduceAdd, Nat.reduceSub, ←decide_not, eq_self]
  have fin : ∀ (i : Nat) (w' : World) nxt, Ext [] w w' → i ≤ os.length → (∀ k (hk : k < os.length), k < i → os[k] < x) → (∀ k (hk : k < os.length), i ≤ k → x ≤ os[k]) → slices_BinarySearch_int_int_l1 (fun v w' => v = .tuple #[i64 (lowN os x : Int), .bool (decide (x ∈ os))] ∧ Ext [] w w') nxt (.slice a os.length c) (i64 (x : Int)) (i64 (os.length : Int)) (i64 (i : Int)) (i64 (i : Int)) w' := fun i w' nxt F hi h1 h2 => by
    rw [lowN_at hi h1 h2]
    unfold slices_BinarySearch_int_int_l1
    by_cases hlt : i < os.length
    · obtain ⟨b, o, rfl, hlt3, hc⟩ := at' w' F i hlt
      by_cases he : os[i] = x
      · have hm : x ∈ os := by rw [← he]; exact List.getElem_mem _
        rw [he] at hc
        simp (disch := (first | omega | decide | (simp only [rsD] <;> omega) | fail)) only [↓rsC, rsK, rsL, ↓rsDec1_2, tick_eq, tickV_eq, ne_eq, Int.reduceAdd, Int.reduceSub, Int.reduceMul, Int.reduceEq, Int.reduceLT, Int.reduceLE, Int.reduceToNat, Nat.reduceMul, Nat.reduceAdd, Nat.reduceSub, ←decide_not, hc]
        exact ⟨by rw [decide_eq_true hm], F⟩
      · have hm : x ∉ os := fun hm => by
          obtain ⟨k, hk, e⟩ := List.getElem_of_mem hm
          by_cases hki : k < i
          · have := h1 k hk hki; omega
          · have := h2 i hlt (by omega)
            by_cases e2 : k = i
            · subst e2; exact he e
            · have := hinc i k hlt hk (by omega); omega
        have hz := hb _ (List.getElem_mem hlt)
        generalize os[i] = z at *
        simp (disch := (first | omega | decide | (simp only [rsD] <;> omega) | fail)) only [↓rsC, rsK, rsL, ↓rsDec1_2, tick_eq, tickV_eq, ne_eq, Int.reduceAdd, Int.reduceSub, Int.reduceMul, Int.reduceEq, Int.reduceLT, Int.reduceLE, Int.reduceToNat, Nat.reduceMul, Nat.reduceAdd, Nat.reduceSub, ←decide_not, hc]
        refine slices_isNaN_int_call (Gives.to (sNaN_spec _ w') fun w1 F1 => ?_)
        simp (disch := (first | omega | decide | (simp only [rsD] <;> omega) | fail)) only [↓rsC, rsK, rsL, ↓rsDec1_2, tick_eq, tickV_eq, ne_eq, Int.reduceAdd, Int.reduceSub, Int.reduceMul, Int.reduceEq, Int.reduceLT, Int.reduceLE, Int.reduceToNat, Nat.reduceMul, Nat.reduceAdd, Nat.reduceSub, ←decide_not, hc]
        exact ⟨by rw [decide_eq_false hm], F.trans F1⟩
    · have hm : x ∉ os := fun hm => by
        obtain ⟨k, hk, e⟩ := List.getElem_of_mem hm
        have := h1 k hk (by omega); omega
      simp (disch := (first | omega | decide | (simp only [rsD] <;> omega) | fail)) only [↓rsC, rsK, rsL, ↓rsDec1_2, tick_eq, tickV_eq, ne_eq, Int.reduceAdd, Int.reduceSub, Int.reduceMul, Int.reduceEq, Int.reduceLT, Int.reduceLE, Int.reduceToNat, Nat.reduceMul, Nat.reduceAdd, Nat.reduceSub, ←decide_not, eq_self]
      exact ⟨by rw [decide_eq_false hm], F⟩
  refine xLoop_r os.length (fun k vs w' => ∃ i j, vs = [i64 ((i : Nat) : Int), i64 ((j : Nat) : Int)] ∧ i ≤ j ∧ j ≤ os.length ∧ j ≤ i + (os.length - k) ∧ Ext [] w w' ∧ (∀ k (hk : k < os.length), k < i → os[k] < x) ∧ (∀ k (hk : k < os.length), j ≤ k → x ≤ os[k])) ⟨0, os.length, rfl, by omega, by omega, by omega, Ext.refl _ _, fun k hk h => by omega, fun k hk h => by omega⟩ ?_ ?_
  · rintro k hk u w1 ⟨i, j, hu, h1, h2, h3, F, h4, h5⟩ nxt hn
    simp only [List.map_cons, List.map_nil, List.cons.injEq, and_true] at hu
    rw [hu.1, hu.2]
    by_cases hij : i = j
    · subst hij
      exact fin i w1 nxt F h2 h4 h5
    · have hm : (i + j) / 2 < os.length := by omega
      obtain ⟨b, o, rfl, hlt3, hc⟩ := at' w1 F _ hm
      unfold slices_BinarySearch_int_int_l1
      have em : (BitVec.ofInt 64 ((i : Int) + (j : Int)) >>> 1).toInt = (((i + j) / 2 : Nat) : Int) := by
        have e0 : ((i : Int) + (j : Int)) = ((i + j : Nat) : Int) := by omega
        rw [e0, BitVec.ofInt_natCast]
        have e1 : (BitVec.ofNat 64 (i + j) >>> 1).toNat = (i + j) / 2 := by
          rw [BitVec.toNat_ushiftRight, BitVec.toNat_ofNat, Nat.mod_eq_of_lt (by omega), Nat.shiftRight_eq_div_pow]
        rw [BitVec.toInt_eq_toNat_of_lt (by rw [e1]; omega), e1]
      have em1 : (BitVec.ofInt 64 ((i : Int) + (j : Int)) >>> (1#64).toNat).toInt = (((i + j) / 2 : Nat) : Int) := em
      have em2 : (BitVec.ofInt 64 ((i : Int) + (j : Int)) >>> (((1#64).toNat : Int)).toNat).toInt = (((i + j) / 2 : Nat) : Int) := em
      have hm0 := List.getElem_mem (l := os) hm
      have hmb := hb _ hm0
      have hlow : ∀ k (hk : k < os.length), k < (i + j) / 2 + 1 → os[(i + j) / 2] < x → os[k] < x := fun k hk hk2 hx2 => by
        by_cases e : k = (i + j) / 2
        · subst e; exact hx2
        · have := hinc k _ hk hm (by omega); omega
      have hhigh : ∀ k (hk : k < os.length), (i + j) / 2 ≤ k → x ≤ os[(i + j) / 2] → x ≤ os[k] := fun k hk hk2 hx2 => by
        by_cases e : k = (i + j) / 2
        · subst e; exact hx2
        · have := hinc _ k hm hk (by omega); omega
      generalize os[(i + j) / 2] = z at *
      generalize hq : (i + j) / 2 = q at *
      simp (disch := (first | omega | decide | (simp only [rsD] <;> omega) | fail)) only [↓rsC, rsK, rsL, ↓rsDec1_2, tick_eq, tickV_eq, ne_eq, Int.reduceAdd, Int.reduceSub, Int.reduceMul, Int.reduceEq, Int.reduceLT, Int.reduceLE, Int.reduceToNat, Nat.reduceMul, Nat.reduceAdd, Nat.reduceSub, ←decide_not, hc, em1, em2]
      refine cmp_Less_int_call (Gives.to (cLess_spec _ _ w1) fun w2 F2 => ?_)
      by_cases hz : z < x
      · have hz' : (z : Int) < (x : Int) := by omega
        rw [decide_eq_true hz']
        simp (disch := (first | omega | decide | (simp only [rsD] <;> omega) | fail)) only [↓rsC, rsK, rsL, ↓rsDec1_2, tick_eq, tickV_eq, ne_eq, Int.reduceAdd, Int.reduceSub, Int.reduceMul, Int.reduceEq, Int.reduceLT, Int.reduceLE, Int.reduceToNat, Nat.reduceMul, Nat.reduceAdd, Nat.reduceSub, ←decide_not, hc, em1, em2]
        exact hn _ _ ⟨q + 1, j, by simp, by omega, h2, by omega, F.trans F2, fun k hk hk2 => hlow k hk hk2 hz, h5⟩
      · have hz' : ¬ (z : Int) < (x : Int) := by omega
        rw [decide_eq_false hz']
        simp (disch := (first | omega | decide | (simp only [rsD] <;> omega) | fail)) only [↓rsC, rsK, rsL, ↓rsDec1_2, tick_eq, tickV_eq, ne_eq, Int.reduceAdd, Int.reduceSub, Int.reduceMul, Int.reduceEq, Int.reduceLT, Int.reduceLE, Int.reduceToNat, Nat.reduceMul, Nat.reduceAdd, Nat.reduceSub, ←decide_not, hc, em1, em2]
        exact hn _ _ ⟨i, q, by simp, by omega, by omega, by omega, F.trans F2, h4, fun k hk hk2 => hhigh k hk hk2 (by omega)⟩
  · rintro u w1 ⟨i, j, hu, h1, h2, h3, F, h4, h5⟩ nxt
    simp only [List.map_cons, List.map_nil, List.cons.injEq, and_true] at hu
    rw [hu.1, hu.2]
    have : i = j := by omega
    subst this
    exact fin i w1 nxt F h2 h4 h5
abbrev rsDec1_3 := (And.intro @xu8_add (And.intro @xu8_neq (And.intro @xu8_lss (And.intro @xu16_add (And.intro @xu16_neq (And.intro @xu16_lss (And.intro @xu32_add (And.intro @xu32_neq (And.intro @xu32_lss (And.intro @xu64_add (And.intro @xu64_neq (And.intro @xu64_lss (And.intro @xi64_lss (And.intro @xi64_neq (And.intro @xi64_neg (And.intro @ld_69 
  (And.intro @ia_28 @ln_28)))))))))))))))))
theorem EqualW_spec {w : World} {p q : List (BitVec 64)} {a a' : Option Addr} {c c' : Nat} (h : RowAt w a (wrds p)) (h' : RowAt w a' (wrds q)) (hp : p.length ≤ 1000000) (hq : q.length ≤ 1000000) : Gives Try.prog n_slices_Equal_uint64_uint64 #[.slice a p.length c, .slice a' q.length c'] w (.bool (decide (p = q))) := by
  refine slices_Equal_uint64_uint64_of ?_
  unfold slices_Equal_uint64_uint64
  by_cases hne : p.length = q.length
  case neg =>
    have : ¬ ((p.length : Int) = q.length) := by omega
    simp (disch := (first | omega | decide | (simp only [rsD] <;> omega) | fail)) only [↓rsC, rsK, rsL, ↓rsDec1_3, tick_eq, tickV_eq, ne_eq, Int.reduceAdd, Int.reduceSub, Int.reduceMul, Int.reduceEq, Int.reduceLT, Int.reduceLE, Int.reduceToNat, Nat.reduceMul, Nat.reduceAdd, Nat.reduceSub, ←decide_not, eq_self]
    exact ⟨by rw [decide_eq_false (fun e => hne (by rw [e]))], Ext.refl _ _⟩
  have : ((p.length : Int) = q.length) := by omega
  simp (disch := (first | omega | decide | (simp only [rsD] <;> omega) | fail)) only [↓rsC, rsK, rsL, ↓rsDec1_3, tick_eq, tickV_eq, ne_eq, Int.reduceAdd, Int.reduceSub, Int.reduceMul, Int.reduceEq, Int.reduceLT, Int.reduceLE, Int.reduceToNat, Nat.reduceMul, Nat.reduceAdd, Nat.reduceSub, ←decide_not, eq_self]
  refine xLoop_n p.length (fun j => [i64 (j : Int)]) (fun j w' => Ext [] w w' ∧ ∀ i, i < j → wat p i = wat q i) rfl ⟨Ext.refl _ _, by intro i hi; omega⟩ ?_ ?_
  · rintro j hj u w1 hu ⟨F, hq2⟩ nxt hn
    simp only [List.map_cons, List.map_nil, List.cons.injEq, and_true] at hu
    rw [hu]
    unfold slices_Equal_uint64_uint64_l1
    have F1 := F.trans (Ext.drew [] w1)
    obtain ⟨b, o, rfl, hlt, hc⟩ := row_w (h.ext0 F1) (i := j) (by omega)
    obtain ⟨b', o', rfl, hlt', hc'⟩ := row_w (h'.ext0 F1) (i := j) (by omega)
    by_cases e : wat p j = wat q j
    · rw [e] at hc
      simp (disch := (first | omega | decide | (simp only [rsD] <;> omega) | fail)) only [↓rsC, rsK, rsL, ↓rsDec1_3, tick_eq, tickV_eq, ne_eq, Int.reduceAdd, Int.reduceSub, Int.reduceMul, Int.reduceEq, Int.reduceLT, Int.reduceLE, Int.reduceToNat, Nat.reduceMul, Nat.reduceAdd, Nat.reduceSub, ←decide_not, hc, hc']
      exact hn _ ⟨F1, fun i hi => by
        by_cases ei : i = j
        · subst ei; exact e
        · exact hq2 i (by omega)⟩
    · have e' : ¬ (wat q j = wat p j) := fun h => e h.symm
      simp (disch := (first | omega | decide | (simp only [rsD] <;> omega) | fail)) only [↓rsC, rsK, rsL, ↓rsDec1_3, tick_eq, tickV_eq, ne_eq, Int.reduceAdd, Int.reduceSub, Int.reduceMul, Int.reduceEq, Int.reduceLT, Int.reduceLE, Int.reduceToNat, Nat.reduceMul, Nat.reduceAdd, Nat.reduceSub, ←decide_not, hc, hc', e]
      exact ⟨by rw [decide_eq_false (fun e2 => e (by rw [e2]))], F1⟩
  · rintro u w1 hu ⟨F, hq2⟩ nxt
    simp only [List.map_cons, List.map_nil, List.cons.injEq, and_true] at hu
    rw [hu]
    unfold slices_Equal_uint64_uint64_l1
    simp (disch := (first | omega | decide | (simp only [rsD] <;> omega) | fail)) only [↓rsC, rsK, rsL, ↓rsDec1_3, tick_eq, tickV_eq, ne_eq, Int.reduceAdd, Int.reduceSub, Int.reduceMul, Int.reduceEq, Int.reduceLT, Int.reduceLE, Int.reduceToNat, Nat.reduceMul, Nat.reduceAdd, Nat.reduceSub, ←decide_not, eq_self]
    refine ⟨?_, F⟩
    rw [decide_eq_true]
    refine List.ext_getElem hne fun i h1 h2 => ?_
    have := hq2 i h1
    unfold wat at this
    simpa [List.getD_eq_getElem?_getD, List.getElem?_eq_getElem h1, List.getElem?_eq_getElem h2] using this
/-- the number that a pointer's word is for -/
def numb (os : List Nat) (x : BitVec 64) : Int := if x.toNat = 0 ∨ 8192 < x.toNat then 0 else if x.toNat - 1 ∈ os then (lowN os (x.toNat - 1) : Int) + 1 else 0
abbrev rdV (s : Nat) (pa : Option Addr) (n pc : Nat) : Value := .agg #[ptr s, .slice pa n pc]
abbrev rsDec1_4 := (And.intro @xu8_add (And.intro @xu8_sub (And.intro @xu8_com (And.intro @xu8_eql (And.intro @xu8_gtr (And.intro @xu16_add (And.intro @xu16_sub (And.intro @xu16_com (And.intro @xu16_eql (And.intro @xu16_gtr (And.intro @xu32_add (And.intro @xu32_sub (And.intro @xu32_com (And.intro @xu32_eql (And.intro @xu32_gtr (And.intro @xu64_add 
  (And.intro @xu64_sub (And.intro @xu64_com (And.intro @xu64_eql (And.intro @xu64_gtr (And.intro @xi64_gtr (And.intro @xi64_eql (And.intro @ld_66 (And.intro @fa_132_1 @cv_69_3))))))))))))))))))))))))
theorem number_spec {w : World} {os : List Nat} {pa : Option Addr} {pc s : Nat} (h : RowAt w pa (nums os)) (hs : os.Pairwise (· < ·)) (hl : os.length ≤ 100000) (hb : ∀ y ∈ os, y ≤ 1000000) (x : BitVec 64) :
    Gives Try.prog n_image_reader_number #[rdV s pa os.length pc, u64 x] w (i64 (numb os x)) := by
  refine image_reader_number_of ?_
  unfold image_reader_number
  unfold numb
  simp (disch := (first | omega | decide | (simp only [rsD] <;> omega) | fail)) only [↓rsC, rsK, rsL, ↓rsDec1_4, tick_eq, tickV_eq, ne_eq, Int.reduceAdd, Int.reduceSub, Int.reduceMul, Int.reduceEq, Int.reduceLT, Int.reduceLE, Int.reduceToNat, Nat.reduceMul, Nat.reduceAdd, Nat.reduceSub, ←decide_not, eq_self]
  have B : Blk (w.alloc (.cells #[ptr s, .slice pa os.length pc] 132)) w.heap.size 132 [ptr s, .slice pa os.length pc] := Blk.at rfl
  have X : Ext [] w (w.alloc (.cells #[ptr s, .slice pa os.length pc] 132)) := Ext.alloc _ _ _
  generalize w.alloc (.cells #[ptr s, .slice pa os.length pc] 132) = w1 at *
  have zb := B.lt
  generalize w.heap.size = g at *
  have k := fun i => B.cell (i := i)
  by_cases h0 : x = BitVec.ofNat 64 0
  · have e0 : x.toNat = 0 := by rw [h0]; rfl
    rw [if_pos (.inl e0)]
    simp (disch := (first | omega | decide | (simp only [rsD] <;> omega) | fail)) only [↓rsC, rsK, rsL, ↓rsDec1_4, tick_eq, tickV_eq, ne_eq, Int.reduceAdd, Int.reduceSub, Int.reduceMul, Int.reduceEq, Int.reduceLT, Int.reduceLE, Int.reduceToNat, Nat.reduceMul, Nat.reduceAdd, Nat.reduceSub, ←decide_not, h0]
    exact ⟨by trivial, X⟩
  have n0 : x.toNat ≠ 0 := fun e => h0 (BitVec.eq_of_toNat_eq (by rw [e]; rfl))
  by_cases h1 : 8192 < x.toNat
  · rw [if_pos (.inr h1)]
    have hgt : (BitVec.ofNat 64 8192).toNat < x.toNat := h1
    simp (disch := (first | omega | decide | (simp only [rsD] <;> omega) | fail)) only [↓rsC, rsK, rsL, ↓rsDec1_4, tick_eq, tickV_eq, ne_eq, Int.reduceAdd, Int.reduceSub, Int.reduceMul, Int.reduceEq, Int.reduceLT, Int.reduceLE, Int.reduceToNat, Nat.reduceMul, Nat.reduceAdd, Nat.reduceSub, ←decide_not, h0, hgt]
    exact ⟨by trivial, X⟩
  rw [if_neg (by omega)]
  have hgt : ¬ (BitVec.ofNat 64 8192).toNat < x.toNat := h1
  have ex : x.toInt = (x.toNat : Int) := BitVec.toInt_eq_toNat_of_lt (by omega)
  have ex1 : (x.toNat : Int) - 1 = ((x.toNat - 1 : Nat) : Int) := by omega
  have hx1 : x.toNat - 1 ≤ 8191 := by omega
  simp (disch := (first | omega | decide | (simp only [rsD] <;> omega) | fail)) only [↓rsC, rsK, rsL, ↓rsDec1_4, tick_eq, tickV_eq, ne_eq, Int.reduceAdd, Int.reduceSub, Int.reduceMul, Int.reduceEq, Int.reduceLT, Int.reduceLE, Int.reduceToNat, Nat.reduceMul, Nat.reduceAdd, Nat.reduceSub, ←decide_not, h0, hgt, k, ex, ex1]
  refine slices_BinarySearch_int_int_call (Gives.to (BSearch_spec (h.ext0 X) hs hl hb (x.toNat - 1) (by omega)) fun w2 F2 => ?_)
  by_cases hm : x.toNat - 1 ∈ os
  · rw [decide_eq_true hm, if_pos hm]
    have hlo : lowN os (x.toNat - 1) ≤ os.length := List.countP_le_length
    simp (disch := (first | omega | decide | (simp only [rsD] <;> omega) | fail)) only [↓rsC, rsK, rsL, ↓rsDec1_4, tick_eq, tickV_eq, ne_eq, Int.reduceAdd, Int.reduceSub, Int.reduceMul, Int.reduceEq, Int.reduceLT, Int.reduceLE, Int.reduceToNat, Nat.reduceMul, Nat.reduceAdd, Nat.reduceSub, ←decide_not, h0, hgt, k, ex, ex1]
    exact ⟨by trivial, X.trans F2⟩
  · rw [decide_eq_false hm, if_neg hm]
    simp (disch := (first | omega | decide | (simp only [rsD] <;> omega) | fail)) only [↓rsC, rsK, rsL, ↓rsDec1_4, tick_eq, tickV_eq, ne_eq, Int.reduceAdd, Int.reduceSub, Int.reduceMul, Int.reduceEq, Int.reduceLT, Int.reduceLE, Int.reduceToNat, Nat.reduceMul, Nat.reduceAdd, Nat.reduceSub, ←decide_not, h0, hgt, k, ex, ex1]
    exact ⟨by trivial, X.trans F2⟩
abbrev rsDec1_5 := (And.intro @xu8_add (And.intro @xu8_mul (And.intro @xu16_add (And.intro @xu16_mul (And.intro @xu32_add (And.intro @xu32_mul (And.intro @xu64_add (And.intro @xu64_mul (And.intro @ld_42 (And.intro @ld_99 (And.intro @ld_132 (And.intro @lr_74 (And.intro @fa_102_0 (And.intro @fa_132_0 (And.intro @al_74 (And.intro @al_157 (And.intro @st_74 @bd_74_0_1)))))))))))))))))
theorem rroot_spec {w : World} {base s g : Nat} {a : Option Addr} {c : Nat} {ws : List (BitVec 64)} {b t e : Nat} {os : List Nat} {pa : Option Addr} {pc : Nat} (S : SpIs w base s g a c ws b t e) (h : RowAt w pa (nums os)) (hs : os.Pairwise (· < ·)) (hl : os.length ≤ 100000) (hb : ∀ y ∈ os, y ≤ 1000000) (at' : Nat) (hat : at' + 5 ≤ ws.length) :
    Gives Try.prog n_image_reader_root #[rdV s pa os.length pc, i64 (at' : Int)] w (.agg #[.string (strOf (nameS ws at')), i64 (numb os (wat ws (at' + 4)))]) := by
  have hwl := S.mem.len
  have hsl := fun (a : Addr) (w : World) (K : K1) => xSlice_arr (P := Try.prog) (t := 157) (n := 32) (a := a) (w := w) (K := K) (by kernel_rfl) (by kernel_rfl) (by kernel_rfl) (by decide)
  have one : ∀ l' : List (BitVec 8), ∀ v ∈ bys l', v.oneCell' = true := fun l' v hv => by
    obtain ⟨c, _, rfl⟩ := List.mem_map.1 hv; rfl
  have lag : ∀ l' : List (BitVec 8), l'.length = 32 → (aggN Try.prog 157 = some (bys l').length) := fun l' h => by
    rw [List.length_map, h]; kernel_rfl
  refine image_reader_root_of ?_
  unfold image_reader_root
  have bx : ∀ (y : World) (K : K1), xBox Try.prog 132 (rdV s pa os.length pc) y K = K (ptr y.heap.size) (y.alloc (.cells #[ptr s, .slice pa os.length pc] 132)) := fun y K => xBox_r
  have al : ∀ (y : World) (K : K1), xAlloc Try.prog 74 y K = K (ptr y.heap.size) (y.alloc (.cells #[.string ⟨#[]⟩, i64 0] 74)) := fun y K => xAlloc_r (by kernel_rfl)
  have al2 : ∀ (y : World) (K : K1), xAlloc Try.prog 157 y K = K (ptr y.heap.size) (y.alloc (.cells (bys (List.replicate 32 z8)).toArray 157)) := fun y K => xAlloc_r (by kernel_rfl)
  rw [bx, al, al2]
  have B1 : Blk (w.alloc (.cells #[ptr s, .slice pa os.length pc] 132)) w.heap.size 132 [ptr s, .slice pa os.length pc] := Blk.at rfl
  have X1 : Ext [] w (w.alloc (.cells #[ptr s, .slice pa os.length pc] 132)) := Ext.alloc _ _ _
  generalize w.alloc (.cells #[ptr s, .slice pa os.length pc] 132) = y1 at *
  have zw : w.heap.size ≤ w.heap.size := Nat.le_refl _
  generalize w.heap.size = g1 at B1 zw ⊢
  have B2 : Blk (y1.alloc (.cells #[.string ⟨#[]⟩, i64 0] 74)) y1.heap.size 74 [.string ⟨#[]⟩, i64 0] := Blk.at rfl
  have X2 : Ext [] y1 (y1.alloc (.cells #[.string ⟨#[]⟩, i64 0] 74)) := Ext.alloc _ _ _
  have z1 := B1.lt
  have z1w := X1.size
  generalize y1.alloc (.cells #[.string ⟨#[]⟩, i64 0] 74) = y2 at *
  generalize y1.heap.size = g2 at *
  have B3 : Blk (y2.alloc (.cells (bys (List.replicate 32 z8)).toArray 157)) y2.heap.size 157 (bys (List.replicate 32 z8)) := Blk.at rfl
  have X3 : Ext [] y2 (y2.alloc (.cells (bys (List.replicate 32 z8)).toArray 157)) := Ext.alloc _ _ _
  have z2 := B2.lt
  generalize y2.alloc (.cells (bys (List.replicate 32 z8)).toArray 157) = y3 at *
  generalize y2.heap.size = g3 at *
  have X13 := (X1.trans X2).trans X3
  have S3 := S.ext0 X13
  have B13 := (B1.ext X2 (by simp)).ext X3 (by simp)
  have B23 := B2.ext X3 (by simp)
  have h3 := h.ext0 X13
  have z3 := B3.lt
  have k1 := fun i => B13.cell (i := i)
  have kS := fun i => S3.blk.cell (i := i)
  have e1 : (at' : Int) * 8 = ((at' * 8 : Nat) : Int) := by omega
  have e4 : (at' : Int) + 4 = ((at' + 4 : Nat) : Int) := by omega
  simp (disch := (first | omega | decide | (simp only [rsD] <;> omega) | fail)) only [↓rsC, rsK, rsL, ↓rsDec1_5, tick_eq, tickV_eq, ne_eq, Int.reduceAdd, Int.reduceSub, Int.reduceMul, Int.reduceEq, Int.reduceLT, Int.reduceLE, Int.reduceToNat, Nat.reduceMul, Nat.reduceAdd, Nat.reduceSub, ←decide_not, k1, kS, e1]
  refine mem_Mem_Bytes_call (Yld.mono (Bytes_ok (at' * 8) 32 S3.mem (by omega)) ?_)
  rintro u y4 ⟨F4, a4, c4, rfl, q4, R4, _⟩
  rw [bytesW_length]
  have B34 := B3.ext F4 (by simp)
  have hcp := fun (K : K1) => xCopy_all (P := Try.prog) (w := y4) (K := K) (t := 70) (e := 5) (ty := 3) (c1 := false) (c2 := false) (b := g3) (o := 0) (n := 32) (c := 32) (m := 32) (c' := c4) (a := a4) (cs := bys (bytesW ws (at' * 8) 32)) (by kernel_rfl) (by kernel_rfl) (by simp [bytesW_length]) (Nat.le_refl _) R4 (B34.roomy (by simp [bytesW_length]) (one _))
  have B35 := B34.put (cs := bys (bytesW ws (at' * 8) 32)) (by simp [bytesW_length])
  have X4 : Ext [g3] y3 (y4.setCells g3 0 (bys (bytesW ws (at' * 8) 32))) := (F4.more (by simp)).trans (Ext.sets (Ext.refl _ _) (.inl (by simp)))
  have X5 : Ext [] w (y4.setCells g3 0 (bys (bytesW ws (at' * 8) 32))) := (X13.trans F4).sets (.inr (by omega))
  have B14 := B13.ext X4 (by simp only [List.mem_singleton]; omega)
  have B24 := B23.ext X4 (by simp only [List.mem_singleton]; omega)
  have k1 := fun i => (B13.ext F4 (by simp)).cell (i := i)
  have kS := fun i => (S3.ext0 F4).blk.cell (i := i)
  have zz1 := (B13.ext F4 (by simp)).lt
  have zz2 := (S3.ext0 F4).blk.lt
  have ns3 : s ≠ g3 := by have := S.blk.lt; omega
  simp (disch := (first | omega | decide | (simp only [rsD] <;> omega) | fail)) only [↓rsC, rsK, rsL, ↓rsDec1_5, tick_eq, tickV_eq, ne_eq, Int.reduceAdd, Int.reduceSub, Int.reduceMul, Int.reduceEq, Int.reduceLT, Int.reduceLE, Int.reduceToNat, Nat.reduceMul, Nat.reduceAdd, Nat.reduceSub, ←decide_not, k1, kS, e1, hsl, hcp, e4]
  generalize y4.setCells g3 0 (bys (bytesW ws (at' * 8) 32)) = y5 at *
  have S5 := S.ext0 X5
  refine mem_Mem_Get_call (Gives.to (Get_ok (at' + 4) S5.mem (by omega)) fun y6 F6 => ?_)
  simp (disch := (first | omega | decide | (simp only [rsD] <;> omega) | fail)) only [↓rsC, rsK, rsL, ↓rsDec1_5, tick_eq, tickV_eq, ne_eq, Int.reduceAdd, Int.reduceSub, Int.reduceMul, Int.reduceEq, Int.reduceLT, Int.reduceLE, Int.reduceToNat, Nat.reduceMul, Nat.reduceAdd, Nat.reduceSub, ←decide_not, k1, kS, e1, hsl, hcp, e4]
  have F7 := F6.trans (Ext.drew [] y6)
  have B37 := B35.ext F7 (by simp)
  have B17 := B14.ext F7 (by simp)
  have B27 := B24.ext F7 (by simp)
  have X7 := X5.trans F7
  generalize y6.drew = y7 at *
  have hla := fun (K : K1) => xLoad_arr (P := Try.prog) (K := K) (lag _ bytesW_length) B37
  have k7 := fun i => B17.cell (i := i)
  simp (disch := (first | omega | decide | (simp only [rsD] <;> omega) | fail)) only [↓rsC, rsK, rsL, ↓rsDec1_5, tick_eq, tickV_eq, ne_eq, Int.reduceAdd, Int.reduceSub, Int.reduceMul, Int.reduceEq, Int.reduceLT, Int.reduceLE, Int.reduceToNat, Nat.reduceMul, Nat.reduceAdd, Nat.reduceSub, ←decide_not, k1, kS, e1, hsl, hcp, e4, hla, k7]
  refine table_Name_String_call (Gives.to (String_spec _ bytesW_length y7) fun y8 F8 => ?_)
  have k8 := fun i => (B17.ext F8 (by simp)).cell (i := i)
  simp (disch := (first | omega | decide | (simp only [rsD] <;> omega) | fail)) only [↓rsC, rsK, rsL, ↓rsDec1_5, tick_eq, tickV_eq, ne_eq, Int.reduceAdd, Int.reduceSub, Int.reduceMul, Int.reduceEq, Int.reduceLT, Int.reduceLE, Int.reduceToNat, Nat.reduceMul, Nat.reduceAdd, Nat.reduceSub, ←decide_not, k1, kS, e1, hsl, hcp, e4, hla, k7, k8]
  refine image_reader_number_call (Gives.to (number_spec (h.ext0 (X7.trans F8)) hs hl hb _) fun y9 F9 => ?_)
  have B29 := (B27.ext F8 (by simp)).ext F9 (by simp)
  have f9 := fun i => B29.frozen (i := i)
  have k9 := fun i => B29.cell (i := i)
  simp (disch := (first | omega | decide | (simp only [rsD] <;> omega) | fail)) only [↓rsC, rsK, rsL, ↓rsDec1_5, tick_eq, tickV_eq, ne_eq, Int.reduceAdd, Int.reduceSub, Int.reduceMul, Int.reduceEq, Int.reduceLT, Int.reduceLE, Int.reduceToNat, Nat.reduceMul, Nat.reduceAdd, Nat.reduceSub, ←decide_not, k1, kS, e1, hsl, hcp, e4, hla, k7, k8, f9, k9]
  refine ⟨?_, ((X7.trans (F8.trans F9)).set' (.inr (by omega))).set' (.inr (by omega))⟩
  unfold nameS wat
  rw [Nat.mul_comm]
end Go.Proofs.Ytdpmidgeipibbaa
end
section
set_option linter.unusedVariables false
set_option linter.unusedSimpArgs false
set_option maxHeartbeats 4000000
namespace Go.Proofs.Ytdpmidgeipibbaa
open Go.Sh Go.RowKit

/-- bytes of their own, with no room behind them -/
def BytesC (w w' : World) (u : Value) (l : List (BitVec 8)) : Prop := Ext [] w w' ∧ ∃ a, u = .tuple #[.slice a l.length l.length, i64 0] ∧ RowAt w' a (bys l) ∧ ∀ x, a = some x → w.heap.size ≤ x.block
abbrev rsDec2_0 := (And.intro @xu8_add (And.intro @xu8_mul (And.intro @xu8_rem (And.intro @xu8_quo (And.intro @xu8_com (And.intro @xu8_shr (And.intro @xu8_lss (And.intro @xu16_add (And.intro @xu16_mul (And.intro @xu16_rem (And.intro @xu16_quo (And.intro @xu16_com (And.intro @xu16_shr (And.intro @xu16_lss (And.intro @xu32_add (And.intro @xu32_mul 
  (And.intro @xu32_rem (And.intro @xu32_quo (And.intro @xu32_com (And.intro @xu32_shr (And.intro @xu32_lss (And.intro @xu64_add (And.intro @xu64_mul (And.intro @xu64_rem (And.intro @xu64_quo (And.intro @xu64_com (And.intro @xu64_shr (And.intro @xu64_lss (And.intro @xi64_lss (And.intro @xi64_shr (And.intro @ld_28 (And.intro @ld_69 (And.intro @fa_165_0 
  (And.intro @cv_69_5 (And.intro @ia_28 (And.intro @ln_28 (And.intro @bs_70_0 @bs_70_1)))))))))))))))))))))))))))))))))))))
theorem Bytes_okC {w : World} {base g : Nat} {a : Option Addr} {c : Nat} {ws : List (BitVec 64)} (at' n : Nat) (h : MemIs w base g a c ws) (hi : at' + n ≤ 8 * ws.length) : Yld Try.prog n_mem_Mem_Bytes #[ptr g, i64 at', i64 n] w fun u w' => BytesC w w' u (bytesW ws at' n) := by
  refine mem_Mem_Bytes_of ?_
  unfold mem_Mem_Bytes
  have hl := h.len
  simp (disch := (first | omega | decide | (simp only [rsD] <;> omega) | fail)) only [↓rsC, rsK, rsL, ↓rsDec2_0, tick_eq, tickV_eq, ne_eq, Int.reduceAdd, Int.reduceSub, Int.reduceMul, Int.reduceEq, Int.reduceLT, Int.reduceLE, Int.reduceToNat, Nat.reduceMul, Nat.reduceAdd, Nat.reduceSub, ←decide_not, h.hd]
  refine mem_in_call (Gives.to (min_spec _ _ _ _ (by omega) (by omega)) fun w1 E1 => ?_)
  have z1 := E1.size
  try simp only [World.size_alloc, World.size_setCell, World.size_drew] at z1
  have hv : decide (among (at' : Int) n (ws.length * 8)) = true := decide_eq_true (by unfold among; omega)
  simp (disch := (first | omega | decide | (simp only [rsD] <;> omega) | fail)) only [↓rsC, rsK, rsL, ↓rsDec2_0, tick_eq, tickV_eq, ne_eq, Int.reduceAdd, Int.reduceSub, Int.reduceMul, Int.reduceEq, Int.reduceLT, Int.reduceLE, Int.reduceToNat, Nat.reduceMul, Nat.reduceAdd, Nat.reduceSub, ←decide_not, h.hd, hv]
  refine xLoop_r n (fun k vs w' => ∃ u, vs = [u, i64 ((at' : Int) + k)] ∧ Ext [] w w' ∧ w'.ownsRow w.heap.size 5 1 u k (bys (bytesW ws at' k))) ⟨_, by simp, E1, own_nil⟩ ?_ ?_
  · rintro k hk u v1 ⟨s, hu, F1, O1⟩ nxt hnx
    simp only [List.map_cons, List.map_nil, List.cons.injEq, and_true] at hu
    rw [hu.1, hu.2]
    have h1 := h.ext0 F1
    obtain ⟨b, o, rfl, hb, hc⟩ := h1.own.row.at (i := (at' + k) / 8) (by simp; omega)
    simp only [List.getElem_map] at hc
    have t1 : (((at' : Int) + k) / 8).toNat = (at' + k) / 8 := by omega
    have t2 : (8 * (((at' : Int) + k) % 8)).toNat = 8 * ((at' + k) % 8) := by omega
    unfold mem_Mem_Bytes_l1
    have eb : (ws[(at' + k) / 8] >>> (8 * ((at' + k) % 8))).setWidth 8 = byteW ws (at' + k) := by
      unfold byteW
      rw [List.getD_eq_getElem?_getD, List.getElem?_eq_getElem (by omega)]
      rfl
    simp (disch := (first | omega | decide | (simp only [rsD] <;> omega) | fail)) only [↓rsC, rsK, rsL, ↓rsDec2_0, tick_eq, tickV_eq, ne_eq, Int.reduceAdd, Int.reduceSub, Int.reduceMul, Int.reduceEq, Int.reduceLT, Int.reduceLE, Int.reduceToNat, Nat.reduceMul, Nat.reduceAdd, Nat.reduceSub, ←decide_not, h.hd, hv, h1.hd, t1, hc, t2, eb]
    refine xAppend_own (e := 5) (base := w.heap.size) (news := bys [byteW ws (at' + k)]) (z := .int .u8 0) (bytes := 1) (by kernel_rfl) (by kernel_rfl) (by rfl) (own_ext O1 (Ext.alloc [] v1 _)) (by rfl) (lit_row v1 [byteW ws (at' + k)]) (by simp) bys_ok (by omega) (by omega) (Nat.le_trans F1.size (Ext.alloc [] v1 _).size) ?_
    intro v' w' hown hgr
    have F2 : Ext [] w w' := grownBy_new (F1.trans (Ext.alloc [] v1 _)) hgr (fun g hg => (O1.lt g hg).1)
    simp (disch := (first | omega | decide | (simp only [rsD] <;> omega) | fail)) only [↓rsC, rsK, rsL, ↓rsDec2_0, tick_eq, tickV_eq, ne_eq, Int.reduceAdd, Int.reduceSub, Int.reduceMul, Int.reduceEq, Int.reduceLT, Int.reduceLE, Int.reduceToNat, Nat.reduceMul, Nat.reduceAdd, Nat.reduceSub, ←decide_not, h.hd, hv, h1.hd, t1, hc, t2, eb]
    refine hnx _ _ ⟨v', by simp [Int.add_assoc], F2, ?_⟩
    unfold bytesW
    rw [List.range_succ, List.map_append]
    simpa [bys, bytesW] using hown
  · rintro u v1 ⟨s, hu, F1, O1⟩ nxt
    simp only [List.map_cons, List.map_nil, List.cons.injEq, and_true] at hu
    rw [hu.1, hu.2]
    obtain ⟨a2, c2, rfl, hl2, hc2, hn2, R2⟩ := own_slice O1
    unfold mem_Mem_Bytes_l1
    simp (disch := (first | omega | decide | (simp only [rsD] <;> omega) | fail)) only [↓rsC, rsK, rsL, ↓rsDec2_0, tick_eq, tickV_eq, ne_eq, Int.reduceAdd, Int.reduceSub, Int.reduceMul, Int.reduceEq, Int.reduceLT, Int.reduceLE, Int.reduceToNat, Nat.reduceMul, Nat.reduceAdd, Nat.reduceSub, ←decide_not, h.hd, hv]
    refine slices_Clip_byte_byte_call (Gives.to (ClipB_spec hc2) fun w2 F2 => ?_)
    simp (disch := (first | omega | decide | (simp only [rsD] <;> omega) | fail)) only [↓rsC, rsK, rsL, ↓rsDec2_0, tick_eq, tickV_eq, ne_eq, Int.reduceAdd, Int.reduceSub, Int.reduceMul, Int.reduceEq, Int.reduceLT, Int.reduceLE, Int.reduceToNat, Nat.reduceMul, Nat.reduceAdd, Nat.reduceSub, ←decide_not, h.hd, hv]
    exact ⟨F1.trans F2, a2, by rw [bytesW_length], R2.ext0 F2, fun x hx => by subst hx; exact (O1.lt x.block rfl).1⟩
abbrev rsDec2_1 := (And.intro @xu8_neq (And.intro @xu16_neq (And.intro @xu32_neq (And.intro @xu64_neq (And.intro @xi64_neq (And.intro @xi64_neg (And.intro @ld_99 @fa_102_0)))))))
theorem ORead_okC {w : World} {base s g : Nat} {a : Option Addr} {c : Nat} {ws : List (BitVec 64)} {b t e o from' n : Nat} (S : SpIs w base s g a c ws b t e) (h : ObjAt ws b t o) (hn : from' + n ≤ bN (wat ws o)) : Yld Try.prog n_obj_Read #[ptr s, i64 (o : Int), i64 (from' : Int), i64 (n : Int)] w fun u w' => BytesC w w' u (bytesW ws ((o + 1 + pN (wat ws o)) * 8 + from') n) := by
  obtain ⟨v1, v2, v3, v4, v5, v6, v7, v8⟩ := okW_v h.ok
  have q1 := S.te
  have q2 := S.el
  have hhi := h.hi
  refine obj_Read_of ?_
  unfold obj_Read
  refine obj_bytes_call (Gives.to (bytes_ok S h hn) fun w1 F1 => ?_)
  have S1 := S.ext0 F1
  have k1 := fun i => S1.blk.cell (i := i)
  simp (disch := (first | omega | decide | (simp only [rsD] <;> omega) | fail)) only [↓rsC, rsK, rsL, ↓rsDec2_1, tick_eq, tickV_eq, ne_eq, Int.reduceAdd, Int.reduceSub, Int.reduceMul, Int.reduceEq, Int.reduceLT, Int.reduceLE, Int.reduceToNat, Nat.reduceMul, Nat.reduceAdd, Nat.reduceSub, ←decide_not, k1]
  refine mem_Mem_Bytes_call (Yld.mono (Bytes_okC ((o + 1 + pN (wat ws o)) * 8 + from') n S1.mem (by omega)) ?_)
  rintro u w2 ⟨F2, a2, rfl, R2, U2⟩
  have z1 := F1.size
  simp (disch := (first | omega | decide | (simp only [rsD] <;> omega) | fail)) only [↓rsC, rsK, rsL, ↓rsDec2_1, tick_eq, tickV_eq, ne_eq, Int.reduceAdd, Int.reduceSub, Int.reduceMul, Int.reduceEq, Int.reduceLT, Int.reduceLE, Int.reduceToNat, Nat.reduceMul, Nat.reduceAdd, Nat.reduceSub, ←decide_not, k1]
  exact ⟨F1.trans F2, a2, rfl, R2, fun x hx => by have := U2 x hx; omega⟩
abbrev OwnIt (w : World) (v : Value) (l : List Int) : Prop := Own w 3 1 v l.length (its l)
theorem appIt {w : World} {K : K1} {v : Value} {l : List Int} {o : Int} {g : Nat} {cs : List Value} (hO : OwnIt w v l) (hcs : cs = [i64 o]) (hl : l.length ≤ 100000)
    (hK : ∀ v' w', OwnIt w' v' (l ++ [o]) → Stp (blk v) (blk v') w w' → K v' w') (hg : g = w.heap.size := by first | rfl | (simp only [World.size_alloc, World.size_drew, World.size_setCell] <;> omega)) : xBuiltin Try.prog .append #[66, 66] 66 [false, false] [v, .slice (some ⟨g, 0, none⟩) 1 1] (w.alloc (.cells cs.toArray 3)) K := by
  subst hcs hg
  refine xAppL (bytes := 8) (z := .int .i64 0) (by kernel_rfl) (by kernel_rfl) (by rfl) (by decide) hO (by simp) (by simp [Value.oneCell']) (by omega) (by omega) fun v' w' h1 h2 => hK v' w' ?_ h2
  show Own w' 3 1 v' (l ++ [o]).length (its (l ++ [o]))
  rw [List.length_append, its, List.map_append]
  exact h1
/-- a row grows that lies behind a block -/
theorem grow {y w1 w2 : World} {hx : Nat} {v v' : Value} (F : Ext [hx] y w1) (U : ∀ z ∈ blk v, y.heap.size ≤ z) (hlt : hx < y.heap.size) (T : Stp (blk v) (blk v') w1 w2) : Ext [hx] y w2 ∧ (∀ z ∈ blk v', y.heap.size ≤ z) ∧ hx ∉ blk v ∧ hx ∉ blk v' := by
  have up : ∀ z ∈ blk v', y.heap.size ≤ z := fun z hz => by
    rcases T.at' z hz with h1 | h1
    · exact U z h1
    · have := F.size; omega
  exact ⟨F.cut T.ext (fun z hz => .inr (U z hz)), up, fun h => by have := U _ h; omega, fun h => by have := up _ h; omega⟩
/-- the node that stands at a place -/
def decP (ws : List (BitVec 64)) (os : List Nat) (o : Nat) : List Int := (List.range (pN (wat ws o))).map fun k => numb os (wat ws (o + 1 + k))
def decD (ws : List (BitVec 64)) (o : Nat) : List (BitVec 8) := bytesW ws ((o + 1 + pN (wat ws o)) * 8) (bN (wat ws o))
abbrev rsDec2_2 := (And.intro @xu8_add (And.intro @xu8_lss (And.intro @xu16_add (And.intro @xu16_lss (And.intro @xu32_add (And.intro @xu32_lss (And.intro @xu64_add (And.intro @xu64_lss (And.intro @xi64_lss (And.intro @ld_3 (And.intro @ld_42 (And.intro @ld_66 (And.intro @ld_72 (And.intro @ld_99 (And.intro @ld_132 (And.intro @lr_72 (And.intro @fa_72_0 (And.intro @fa_72_1 
  (And.intro @fa_102_0 (And.intro @fa_123_0 (And.intro @fa_123_1 (And.intro @fa_132_0 (And.intro @al_72 (And.intro @al_123 (And.intro @st_66 (And.intro @st_70 (And.intro @st_72 (And.intro @st_123 (And.intro @bs_66_0 @bs_66_1)))))))))))))))))))))))))))))
theorem rnode_spec {w : World} {base s g : Nat} {a : Option Addr} {c : Nat} {ws : List (BitVec 64)} {b t e o : Nat} {os : List Nat} {pa : Option Addr} {pc : Nat} (S : SpIs w base s g a c ws b t e) (hO : ObjAt ws b t o) (h : RowAt w pa (nums os)) (hs : os.Pairwise (· < ·)) (hl : os.length ≤ 100000) (hb : ∀ y ∈ os, y ≤ 1000000) :
    Yld Try.prog n_image_reader_node #[rdV s pa os.length pc, i64 (o : Int)] w fun u w' => Ext [] w w' ∧ ∃ x : GN, u = .agg (gnC x).toArray ∧ x.p = decP ws os o ∧ x.d = decD ws o ∧ NOk w' x ∧ (∀ y, x.pa = some y → w.heap.size ≤ y.block) ∧ ∀ y, x.da = some y → w.heap.size ≤ y.block := by
  have hwl := S.mem.len
  have hto := hO.lt
  have q1 := S.te
  have q2 := S.el
  obtain ⟨v1, v2, v3, v4, v5, v6, v7, v8⟩ := okW_v hO.ok
  have hhi := hO.hi
  refine image_reader_node_of ?_
  unfold image_reader_node
  have bx : ∀ (y : World) (K : K1), xBox Try.prog 132 (rdV s pa os.length pc) y K = K (ptr y.heap.size) (y.alloc (.cells #[ptr s, .slice pa os.length pc] 132)) := fun y K => xBox_r
  have al : ∀ (y : World) (K : K1), xAlloc Try.prog 72 y K = K (ptr y.heap.size) (y.alloc (.cells #[.slice none 0 0, .slice none 0 0] 72)) := fun y K => xAlloc_r (by kernel_rfl)
  rw [bx, al]
  have B1 : Blk (w.alloc (.cells #[ptr s, .slice pa os.length pc] 132)) w.heap.size 132 [ptr s, .slice pa os.length pc] := Blk.at rfl
  have X1 : Ext [] w (w.alloc (.cells #[ptr s, .slice pa os.length pc] 132)) := Ext.alloc _ _ _
  generalize w.alloc (.cells #[ptr s, .slice pa os.length pc] 132) = y1 at *
  have zw : w.heap.size ≤ w.heap.size := Nat.le_refl _
  generalize w.heap.size = g1 at B1 zw ⊢
  have B2 : Blk (y1.alloc (.cells #[.slice none 0 0, .slice none 0 0] 72)) y1.heap.size 72 [.slice none 0 0, .slice none 0 0] := Blk.at rfl
  have X2 : Ext [] y1 (y1.alloc (.cells #[.slice none 0 0, .slice none 0 0] 72)) := Ext.alloc _ _ _
  have z1 := B1.lt
  have z1w := X1.size
  generalize y1.alloc (.cells #[.slice none 0 0, .slice none 0 0] 72) = y2 at *
  generalize y1.heap.size = g2 at *
  have B12 := B1.ext X2 (by simp)
  have z2 := B2.lt
  have X12 := X1.trans X2
  have S2 := S.ext0 X12
  have k1 := fun i => B12.cell (i := i)
  simp (disch := (first | omega | decide | (simp only [rsD] <;> omega) | fail)) only [↓rsC, rsK, rsL, ↓rsDec2_2, tick_eq, tickV_eq, ne_eq, Int.reduceAdd, Int.reduceSub, Int.reduceMul, Int.reduceEq, Int.reduceLT, Int.reduceLE, Int.reduceToNat, Nat.reduceMul, Nat.reduceAdd, Nat.reduceSub, ←decide_not, k1]
  refine space_Space_Head_call (Gives.to (SHead_in S2 hO.lo hto) fun y3 F3 => ?_)
  rw [v1, v2, v3, v4, v5]
  have B13 := B12.ext F3 (by simp)
  have B23 := B2.ext F3 (by simp)
  have z3 := F3.size
  simp (disch := (first | omega | decide | (simp only [rsD] <;> omega) | fail)) only [↓rsC, rsK, rsL, ↓rsDec2_2, tick_eq, tickV_eq, ne_eq, Int.reduceAdd, Int.reduceSub, Int.reduceMul, Int.reduceEq, Int.reduceLT, Int.reduceLE, Int.reduceToNat, Nat.reduceMul, Nat.reduceAdd, Nat.reduceSub, ←decide_not, k1]
  simp only [size_sets, World.size_alloc]
  have Bh0 : Blk (y3.alloc (.cells #[i64 (pN (wat ws o) : Int), i64 (bN (wat ws o) : Int), .bool false, i64 0] 123)) y3.heap.size 123 [i64 (pN (wat ws o) : Int), i64 (bN (wat ws o) : Int), .bool false, i64 0] := Blk.at rfl
  have X3 : Ext [] y3 (y3.alloc (.cells #[i64 (pN (wat ws o) : Int), i64 (bN (wat ws o) : Int), .bool false, i64 0] 123)) := Ext.alloc _ _ _
  have zs4 : (y3.alloc (.cells #[i64 (pN (wat ws o) : Int), i64 (bN (wat ws o) : Int), .bool false, i64 0] 123)).heap.size = y3.heap.size + 1 := World.size_alloc _ _
  generalize y3.alloc (.cells #[i64 (pN (wat ws o) : Int), i64 (bN (wat ws o) : Int), .bool false, i64 0] 123) = y4 at *
  have Bx0 : Blk (y4.alloc (.cells #[.slice none 0 0, .slice none 0 0] 72)) (y3.heap.size + 1) 72 [.slice none 0 0, .slice none 0 0] := Blk.at zs4.symm
  have X4 : Ext [] y4 (y4.alloc (.cells #[.slice none 0 0, .slice none 0 0] 72)) := Ext.alloc _ _ _
  have zs5 : (y4.alloc (.cells #[.slice none 0 0, .slice none 0 0] 72)).heap.size = y3.heap.size + 1 + 1 := by rw [World.size_alloc, zs4]
  generalize y4.alloc (.cells #[.slice none 0 0, .slice none 0 0] 72) = y at *
  have Bh := Bh0.ext X4 (by simp)
  have Xy : Ext [] w y := X12.trans (F3.trans (X3.trans X4))
  have B14 := B13.ext (X3.trans X4) (by simp)
  have B24 := B23.ext (X3.trans X4) (by simp)
  generalize hhx : y3.heap.size + 1 = hx at *
  have hlt : hx < y.heap.size := by omega
  have g12 := B13.lt
  have g23 := B23.lt
  generalize y3.heap.size = gh at *
  have fresh : ∀ {w' : World}, Ext [hx] y w' → Ext [] w w' := fun F => Xy.new F (fun z hz => by simp only [List.mem_singleton] at hz; have := F3.size; omega)
  have ne1 : g1 ∉ [hx] := by simp only [List.mem_singleton]; omega
  have ne2 : g2 ∉ [hx] := by simp only [List.mem_singleton]; omega
  have neh : gh ∉ [hx] := by simp only [List.mem_singleton]; omega
  have nilb : ∀ z, z ∉ blk (.slice none 0 0) := by simp [blk, Value.ownBlock]
  have hpl : (decP ws os o).length = pN (wat ws o) := by simp [decP]
  refine xLoop_n (pN (wat ws o)) (fun j => [i64 (j : Int)]) (fun j w' => Ext [hx] y w' ∧ ∃ v, OwnIt w' v ((decP ws os o).take j) ∧ Blk w' hx 72 [v, .slice none 0 0] ∧ ∀ z ∈ blk v, y.heap.size ≤ z) rfl ⟨Ext.refl _ _, _, Own.nil, Bx0, fun z hz => absurd hz (nilb z)⟩ ?_ ?_
  · rintro j hj u x1 hu ⟨F, v, O, B, U⟩ nxt hnx
    simp only [List.map_cons, List.map_nil, List.cons.injEq, and_true] at hu
    rw [hu]
    have Sx := S.ext0 (fresh F)
    have kr := fun i => (B14.ext F ne1).cell (i := i)
    have kS := fun i => Sx.blk.cell (i := i)
    obtain ⟨a0, c0, hv0, _⟩ := O.slice
    subst hv0
    unfold image_reader_node_l1
    have ei : (o : Int) + 1 + (j : Int) = ((o + 1 + j : Nat) : Int) := by omega
    simp (disch := (first | omega | decide | (simp only [rsD] <;> omega) | fail)) only [↓rsC, rsK, rsL, ↓rsDec2_2, tick_eq, tickV_eq, ne_eq, Int.reduceAdd, Int.reduceSub, Int.reduceMul, Int.reduceEq, Int.reduceLT, Int.reduceLE, Int.reduceToNat, Nat.reduceMul, Nat.reduceAdd, Nat.reduceSub, ←decide_not, k1, kr, kS, ei]
    have hget : Gives Try.prog n_mem_Mem_Get #[ptr g, i64 ((o + 1 + j : Nat) : Int)] x1 (.tuple #[u64 (wat ws (o + 1 + j)), i64 0]) := Get_ok (o + 1 + j) Sx.mem (by omega)
    refine mem_Mem_Get_call (Gives.to hget fun x2 E2 => ?_)
    have E3 := E2.trans (Ext.drew [] x2)
    have kr3 := fun i => ((B14.ext F ne1).ext E3 (by simp)).cell (i := i)
    have kb3 := fun i => (B.ext E3 (by simp)).cell (i := i)
    simp (disch := (first | omega | decide | (simp only [rsD] <;> omega) | fail)) only [↓rsC, rsK, rsL, ↓rsDec2_2, tick_eq, tickV_eq, ne_eq, Int.reduceAdd, Int.reduceSub, Int.reduceMul, Int.reduceEq, Int.reduceLT, Int.reduceLE, Int.reduceToNat, Nat.reduceMul, Nat.reduceAdd, Nat.reduceSub, ←decide_not, k1, kr, kS, ei, kr3, kb3]
    refine image_reader_number_call (Gives.to (number_spec (h.ext0 ((fresh F).trans E3)) hs hl hb _) fun x4 E4 => ?_)
    have F4 := (F.trans (E3.more (by simp))).trans (E4.more (by simp))
    have B4 := (B.ext E3 (by simp)).ext E4 (by simp)
    have O4 := (O.ext0 E3).ext0 E4
    have kb4 := fun i => B4.cell (i := i)
    have zb4 := B4.lt
    simp (disch := (first | omega | decide | (simp only [rsD] <;> omega) | fail)) only [↓rsC, rsK, rsL, ↓rsDec2_2, tick_eq, tickV_eq, ne_eq, Int.reduceAdd, Int.reduceSub, Int.reduceMul, Int.reduceEq, Int.reduceLT, Int.reduceLE, Int.reduceToNat, Nat.reduceMul, Nat.reduceAdd, Nat.reduceSub, ←decide_not, k1, kr, kS, ei, kr3, kb3, kb4]
    refine appIt O4 rfl (by simp; omega) fun v' x5 O5 T5 => ?_
    obtain ⟨F5, U5, n1, n2⟩ := grow F4 U hlt T5
    have B5 := B4.ext T5.ext n1
    obtain ⟨a3, c3, hv3, _⟩ := O5.slice
    have k5 := fun i => B5.cell (i := i)
    have f5 := fun i => B5.frozen (i := i)
    subst hv3
    simp (disch := (first | omega | decide | (simp only [rsD] <;> omega) | fail)) only [↓rsC, rsK, rsL, ↓rsDec2_2, tick_eq, tickV_eq, ne_eq, Int.reduceAdd, Int.reduceSub, Int.reduceMul, Int.reduceEq, Int.reduceLT, Int.reduceLE, Int.reduceToNat, Nat.reduceMul, Nat.reduceAdd, Nat.reduceSub, ←decide_not, k1, kr, kS, ei, kr3, kb3, kb4, k5, f5]
    have B6 := B5.set (i := 0) (v := .slice a3 ((decP ws os o).take j ++ [numb os (wat ws (o + 1 + j))]).length c3)
    have O6 := O5.ext (Ext.set (w := x5) (b := hx) (o := 0) (v := .slice a3 ((decP ws os o).take j ++ [numb os (wat ws (o + 1 + j))]).length c3)) (fun z hz hm => by simp only [List.mem_singleton] at hm; subst hm; exact n2 hz)
    have hsu : (decP ws os o).take (j + 1) = (decP ws os o).take j ++ [numb os (wat ws (o + 1 + j))] := by
      rw [List.take_add_one, List.getElem?_eq_getElem (by omega)]
      simp [decP]
    rw [← hsu] at O6 B6 U5 ⊢
    exact hnx _ ⟨F5.set' (.inl (by simp)), _, O6, B6, U5⟩
  · rintro u x1 hu ⟨F, v, O, B, U⟩ nxt
    simp only [List.map_cons, List.map_nil, List.cons.injEq, and_true] at hu
    rw [hu]
    have etk : (decP ws os o).take (pN (wat ws o)) = decP ws os o := by rw [← hpl, List.take_length]
    rw [etk] at O
    have Sx := S.ext0 (fresh F)
    have kr := fun i => (B14.ext F ne1).cell (i := i)
    have kh := fun i => (Bh.ext F neh).cell (i := i)
    obtain ⟨a0, c0, hv0, hc0, _, hn0, R0, _⟩ := O.slice
    subst hv0
    unfold image_reader_node_l1
    simp (disch := (first | omega | decide | (simp only [rsD] <;> omega) | fail)) only [↓rsC, rsK, rsL, ↓rsDec2_2, tick_eq, tickV_eq, ne_eq, Int.reduceAdd, Int.reduceSub, Int.reduceMul, Int.reduceEq, Int.reduceLT, Int.reduceLE, Int.reduceToNat, Nat.reduceMul, Nat.reduceAdd, Nat.reduceSub, ←decide_not, k1, kr, kh]
    have hrd := ORead_okC (from' := 0) (n := bN (wat ws o)) Sx hO (by omega)
    refine obj_Read_call (Yld.mono hrd ?_)
    rintro u x2 ⟨F2, a2, rfl, R2, U2⟩
    rw [bytesW_length]
    have B2 := B.ext F2 (by simp)
    have k2 := fun i => B2.cell (i := i)
    have f2 := fun i => B2.frozen (i := i)
    have O2 := O.ext0 F2
    simp (disch := (first | omega | decide | (simp only [rsD] <;> omega) | fail)) only [↓rsC, rsK, rsL, ↓rsDec2_2, tick_eq, tickV_eq, ne_eq, Int.reduceAdd, Int.reduceSub, Int.reduceMul, Int.reduceEq, Int.reduceLT, Int.reduceLE, Int.reduceToNat, Nat.reduceMul, Nat.reduceAdd, Nat.reduceSub, ←decide_not, k1, kr, kh, k2, f2]
    refine slices_Clip_int_int_call (Gives.to (ClipI_spec hc0) fun x3 F3' => ?_)
    have Fs : Ext [hx] x2 (x2.setCell ⟨hx, 1, none⟩ (.slice a2 (bN (wat ws o)) (bN (wat ws o)))) := Ext.set
    have B3 := (B2.set (i := 1) (v := .slice a2 (bN (wat ws o)) (bN (wat ws o)))).ext F3' (by simp)
    have F3x := ((F.trans (F2.more (by simp))).trans Fs).trans (F3'.more (by simp))
    have k3 := fun i => B3.cell (i := i)
    have f3 := fun i => B3.frozen (i := i)
    have B24x := B24.ext F3x ne2
    have k24 := fun i => B24x.cell (i := i)
    have f24 := fun i => B24x.frozen (i := i)
    have Rp := ((R0.ext0 F2).ext Fs (fun b o hb hm => by
      simp only [List.mem_singleton] at hm
      have := U b (by subst hb; simp [blk, Value.ownBlock])
      omega)).ext0 F3'
    have Rd := (R2.ext Fs (fun b o hb hm => by
      simp only [List.mem_singleton] at hm
      have := U2 _ hb
      have := F.size
      simp only at *
      omega)).ext0 F3'
    have g2x : g2 ≠ hx := by omega
    simp (disch := (first | omega | decide | (simp only [rsD] <;> omega) | fail)) only [↓rsC, rsK, rsL, ↓rsDec2_2, tick_eq, tickV_eq, ne_eq, Int.reduceAdd, Int.reduceSub, Int.reduceMul, Int.reduceEq, Int.reduceLT, Int.reduceLE, Int.reduceToNat, Nat.reduceMul, Nat.reduceAdd, Nat.reduceSub, ←decide_not, k1, kr, kh, k2, f2, k3, f3, k24, f24, g2x]
    have zF := F.size
    have nda : ∀ b o, a2 = some ⟨b, o, none⟩ → b ∉ [hx, g2] := fun b o hb hm => by
      have := U2 _ hb
      simp only [List.mem_cons, List.not_mem_nil, or_false] at hm
      simp only at this
      omega
    have npa : ∀ b o, a0 = some ⟨b, o, none⟩ → b ∉ [hx, g2] := fun b o hb hm => by
      have := U b (by subst hb; simp [blk, Value.ownBlock])
      simp only [List.mem_cons, List.not_mem_nil, or_false] at hm
      omega
    have FE : Ext [hx, g2] x3 (((x3.setCell ⟨hx, 0, none⟩ (.slice a0 (decP ws os o).length (decP ws os o).length)).setCell ⟨g2, 0, none⟩ (.slice a0 (decP ws os o).length (decP ws os o).length)).setCell ⟨g2, 1, none⟩ (.slice a2 (bN (wat ws o)) (bN (wat ws o)))) := (((Ext.refl _ _).set' (.inl (by simp))).set' (.inl (by simp))).set' (.inl (by simp))
    refine ⟨(((fresh F3x).set' (.inr (by have := F3.size; omega))).set' (.inr (by omega))).set' (.inr (by omega)), ⟨decP ws os o, a0, (decP ws os o).length, decD ws o, a2, bN (wat ws o)⟩, ?_, rfl, rfl, ?_, fun y' hy' => ?_, fun y' hy' => ?_⟩
    · have : (decD ws o).length = bN (wat ws o) := bytesW_length
      simp only [gnC, this]
    · have hd : (decD ws o).length = bN (wat ws o) := bytesW_length
      refine ⟨Rp.ext FE npa, Nat.le_refl _, fun e => ?_, Rd.ext FE nda, by rw [hd]; exact Nat.le_refl _, fun e => ?_⟩
      · have := hn0 e; simp only; omega
      · rcases Rd with h | ⟨b, o, h, _⟩
        · have := congrArg List.length h
          simp only [List.length_map, bytesW_length, List.length_nil] at this
          exact this
        · simp only at e; rw [e] at h; cases h
    · have := U y'.block (by simp only at hy'; rw [hy']; simp [blk, Value.ownBlock])
      have := Xy.size
      omega
    · have := U2 y' hy'
      have := Xy.size
      omega
end Go.Proofs.Ytdpmidgeipibbaa
end
section
set_option linter.unusedVariables false
set_option linter.unusedSimpArgs false
set_option maxHeartbeats 4000000
namespace Go.Proofs.Ytdpmidgeipibbaa
open Go.Sh Go.RowKit

theorem lowN_get {os : List Nat} (hs : os.Pairwise (· < ·)) {i : Nat} (hi : i < os.length) : lowN os os[i] = i := by
  have hinc : ∀ i j (hi : i < os.length) (hj : j < os.length), i < j → os[i] < os[j] := fun i j hi hj hij => List.pairwise_iff_getElem.1 hs i j hi hj hij
  refine lowN_at (Nat.le_of_lt hi) (fun k hk h => hinc k i hk hi h) fun k hk h => ?_
  by_cases e : i = k
  · subst e; exact Nat.le_refl _
  · exact Nat.le_of_lt (hinc i k hi hk (by omega))
theorem lowN_mem {os : List Nat} (hs : os.Pairwise (· < ·)) {x : Nat} (hx : x ∈ os) : ∃ h : lowN os x < os.length, os[lowN os x] = x := by
  obtain ⟨i, hi, rfl⟩ := List.getElem_of_mem hx
  have := lowN_get hs hi
  exact ⟨by rw [this]; exact hi, by simp only [this]⟩
theorem numb_ran {os : List Nat} (hs : os.Pairwise (· < ·)) (x : BitVec 64) : 0 ≤ numb os x ∧ numb os x ≤ os.length := by
  unfold numb
  split
  · omega
  · split
    · rename_i h
      obtain ⟨h1, _⟩ := lowN_mem hs h
      omega
    · omega
theorem numb_zero {os : List Nat} {x : BitVec 64} (h : x.toNat = 0) : numb os x = 0 := by unfold numb; rw [if_pos (.inl h)]
theorem numb_some {os : List Nat} {x : BitVec 64} (h0 : x.toNat ≠ 0) (h1 : x.toNat ≤ 8192) (h2 : x.toNat - 1 ∈ os) : numb os x = (lowN os (x.toNat - 1) : Int) + 1 := by
  unfold numb; rw [if_neg (by omega), if_pos h2]
theorem ptW_numb {os : List Nat} (hs : os.Pairwise (· < ·)) {x : BitVec 64} (h : PtrOk os x.toNat) : ptW os (numb os x) = x := by
  rcases h with h | ⟨h1, h2, h3⟩
  · rw [numb_zero h]
    unfold ptW
    rw [if_pos rfl]
    exact BitVec.eq_of_toNat_eq (by rw [h]; rfl)
  · rw [numb_some (by omega) h1 h3]
    unfold ptW
    rw [if_neg (by omega)]
    obtain ⟨q1, q2⟩ := lowN_mem hs h3
    rw [show ((lowN os (x.toNat - 1) : Int) + 1).toNat - 1 = lowN os (x.toNat - 1) by omega, List.getD_eq_getElem?_getD, List.getElem?_eq_getElem q1, Option.getD_some, q2]
    apply BitVec.eq_of_toNat_eq
    rw [BitVec.toNat_ofNat]
    omega
theorem numb_ptW {os : List Nat} (hs : os.Pairwise (· < ·)) (hb : ∀ y ∈ os, y < 8192) {to : Int} (h0 : 0 ≤ to) (h1 : to ≤ os.length) : numb os (ptW os to) = to := by
  unfold ptW
  by_cases h : to = 0
  · rw [if_pos h]
    unfold numb
    rw [if_pos (.inl rfl), h]
  · rw [if_neg h]
    have hj : to.toNat - 1 < os.length := by omega
    have hb' := hb _ (List.getElem_mem hj)
    rw [List.getD_eq_getElem?_getD, List.getElem?_eq_getElem hj, Option.getD_some]
    have e : (BitVec.ofNat 64 (os[to.toNat - 1] + 1)).toNat = os[to.toNat - 1] + 1 := by rw [BitVec.toNat_ofNat]; omega
    unfold numb
    rw [e, if_neg (by omega), Nat.add_sub_cancel, if_pos (List.getElem_mem hj), lowN_get hs hj]
    omega
theorem bytesLess_tri : ∀ x y : List UInt8, (Op.bytesLess x y || x == y) = false → Op.bytesLess y x = true
  | [], [], h => by simp at h
  | [], b :: y, h => by simp [Op.bytesLess] at h
  | a :: x, [], h => by simp [Op.bytesLess]
  | a :: x, b :: y, h => by
    rw [Op.bytesLess] at h ⊢
    rw [Bool.or_eq_false_iff, Bool.or_eq_false_iff] at h
    obtain ⟨⟨h1, h2⟩, h3⟩ := h
    have h1 : ¬ a < b := by simpa using h1
    by_cases e : a = b
    · subst e
      have h4 : (Op.bytesLess x y || x == y) = false := by
        rw [Bool.or_eq_false_iff]
        refine ⟨by simpa using h2, ?_⟩
        simp only [beq_eq_false_iff_ne, ne_eq, List.cons.injEq, true_and] at h3 ⊢
        exact h3
      have := bytesLess_tri x y h4
      simp [this]
    · have : b < a := by
        rcases UInt8.lt_or_lt_of_ne e with h | h
        · exact absurd h h1
        · exact h
      simp [this]
theorem byteW_bit (ws : List (BitVec 64)) (i r : Nat) : (byteW ws i).getLsbD r = (decide (r < 8) && (wat ws (i / 8)).getLsbD (8 * (i % 8) + r)) := by
  unfold byteW wat
  rw [BitVec.getLsbD_setWidth, BitVec.getLsbD_ushiftRight]
theorem bytesW_at {ws : List (BitVec 64)} {a n i : Nat} (hi : i < n) : (bytesW ws a n).getD i (BitVec.ofNat 8 0) = byteW ws (a + i) := by
  rw [List.getD_eq_getElem?_getD, bytesW, List.getElem?_map, List.getElem?_range hi]
  rfl
theorem wordV_bytes {ws : List (BitVec 64)} {q n k b : Nat} (hb : b < 64) : (wordV (bytesW ws (q * 8) n) k).getLsbD b = (decide (8 * k + b / 8 < n) && (wat ws (q + k)).getLsbD b) := by
  rw [wordV_bit _ _ _ hb]
  by_cases h : 8 * k + b / 8 < n
  · rw [bytesW_at h, byteW_bit, show (q * 8 + (8 * k + b / 8)) / 8 = q + k by omega, show 8 * ((q * 8 + (8 * k + b / 8)) % 8) + b % 8 = b by omega]
    have : b % 8 < 8 := by omega
    simp [h, this]
  · rw [List.getD_eq_getElem?_getD, List.getElem?_eq_none (by rw [bytesW_length]; omega)]
    simp [h]
theorem wordV_whole {ws : List (BitVec 64)} {q n k : Nat} (h : 8 * k + 8 ≤ n) : wordV (bytesW ws (q * 8) n) k = wat ws (q + k) := by
  apply BitVec.eq_of_getLsbD_eq
  intro b hb
  rw [wordV_bytes hb]
  have : 8 * k + b / 8 < n := by omega
  simp [this]
theorem wordV_last {ws : List (BitVec 64)} {q n k : Nat} (hk : k = n / 8) (hz : wat ws (q + k) >>> (8 * (n % 8)) = 0#64) : wordV (bytesW ws (q * 8) n) k = wat ws (q + k) := by
  apply BitVec.eq_of_getLsbD_eq
  intro b hb
  rw [wordV_bytes hb]
  by_cases h : 8 * k + b / 8 < n
  · simp [h]
  · have := congrArg (fun z => z.getLsbD (b - 8 * (n % 8))) hz
    simp only [BitVec.getLsbD_ushiftRight, BitVec.getLsbD_zero] at this
    rw [show 8 * (n % 8) + (b - 8 * (n % 8)) = b by omega] at this
    simp [h, this]
theorem Sc.sum {x : Nat → BitVec 64} {t o : Nat} {l : List Nat} (h : Sc x t o l none) : (∀ j (hj : j < l.length), l[j] = o + ((l.take j).map fun p => szW (x p)).sum) ∧ o + (l.map fun p => szW (x p)).sum = t := by
  generalize hb : (none : Option Nat) = b at h
  induction h with
  | done => exact ⟨fun j hj => by simp at hj, by simp⟩
  | bad => cases hb
  | @step o l b h1 h2 h3 ih =>
    obtain ⟨i1, i2⟩ := ih hb
    refine ⟨fun j hj => ?_, by simp only [List.map_cons, List.sum_cons]; omega⟩
    cases j with
    | zero => simp
    | succ j =>
      simp only [List.getElem_cons_succ, List.take_succ_cons, List.map_cons, List.sum_cons]
      rw [i1 j (by simpa using hj)]
      omega
/-! the graph that words are read as -/
def bare (x : GN) : GN := ⟨x.p, none, 0, x.d, none, 0⟩
def decN (l : List (BitVec 64)) (os : List Nat) (o : Nat) : GN := ⟨decP l os o, none, 0, decD l o, none, 0⟩
def decNs (l : List (BitVec 64)) (os : List Nat) : List GN := os.map (decN l os)
def decRs (l : List (BitVec 64)) (os : List Nat) : List GR := (List.range (nR l)).map fun i => ⟨nameS l (2 + 5 * i), numb os (wat l (2 + 5 * i + 4))⟩
theorem decNs_get {l : List (BitVec 64)} {os : List Nat} {j : Nat} (h : j < (decNs l os).length) : (decNs l os)[j] = decN l os (os[j]'(by simpa [decNs] using h)) := by simp [decNs]
theorem decRs_get {l : List (BitVec 64)} {os : List Nat} {j : Nat} (h : j < (decRs l os).length) : (decRs l os)[j] = ⟨nameS l (2 + 5 * j), numb os (wat l (2 + 5 * j + 4))⟩ := by simp [decRs]
theorem decNs_len {l : List (BitVec 64)} {os : List Nat} : (decNs l os).length = os.length := by simp [decNs]
theorem decRs_len {l : List (BitVec 64)} {os : List Nat} : (decRs l os).length = nR l := by simp [decRs]
structure DecOk (l : List (BitVec 64)) (os : List Nat) : Prop where
  two : 2 ≤ l.length
  room : 2 + 5 * nR l ≤ l.length
  sc : Sc (wat l) l.length (2 + 5 * nR l) os none
  good : GoodG (decNs l os) (decRs l os)
  enc : encW (decNs l os) (decRs l os) = l
theorem bare_gW (ns : List GN) : gW (ns.map bare) = gW ns := by
  unfold gW
  rw [List.map_map]
  rfl
theorem bare_plL (ns : List GN) (R j : Nat) : plL (ns.map bare) R j = plL ns R j := by
  unfold plL
  refine List.map_congr_left fun i _ => ?_
  rw [← List.map_take, bare_gW]
theorem bare_enc (ns : List GN) (rs : List GR) : encW (ns.map bare) rs = encW ns rs := by
  unfold encW
  rw [bare_gW, List.length_map, bare_plL, List.flatMap_map]
  rfl
theorem bare_good {ns : List GN} {rs : List GR} : GoodG (ns.map bare) rs ↔ GoodG ns rs := by
  constructor
  · intro h
    refine ⟨fun x hx => ?_, h.r, fun r hr => ?_, h.o⟩
    · have := h.x (bare x) (List.mem_map.2 ⟨x, hx, rfl⟩)
      rw [List.length_map] at this
      exact this
    · have := h.s r hr
      rw [List.length_map] at this
      exact this
  · intro h
    refine ⟨fun x hx => ?_, h.r, fun r hr => ?_, h.o⟩
    · obtain ⟨y, hy, rfl⟩ := List.mem_map.1 hx
      have := h.x y hy
      rw [List.length_map]
      exact this
    · have := h.s r hr
      rw [List.length_map]
      exact this
section
variable {ns : List GN} {rs : List GR} (hg : GoodG ns rs) (hN : 2 + 5 * rs.length + gW ns ≤ 8192)
include hg hN
theorem pl_sorted : (plE ns rs).Pairwise (· < ·) ∧ ∀ y ∈ plE ns rs, y < 8192 := by
  have h := (enc_sc hg).all
  have hl := enc_len hg
  refine ⟨h.1, fun y hy => ?_⟩
  have := (h.2 y hy).2.2
  have := szW_pos (x := wat (encW ns rs) y)
  omega
/-- a graph's words are read as that graph -/
theorem dec_enc : decNs (encW ns rs) (plE ns rs) = ns.map bare ∧ decRs (encW ns rs) (plE ns rs) = rs := by
  obtain ⟨hs, hb⟩ := pl_sorted hg hN
  have hpl : (plE ns rs).length = ns.length := plL_len _ _ _
  constructor
  · refine List.ext_getElem (by simp [decNs, hpl]) fun j h1 h2 => ?_
    have hj : j < ns.length := by simpa using h2
    have e1 : (plE ns rs)[j]'(by omega) = plc ns rs j := by
      have := pl_get (ns := ns) (rs := rs) hj
      rw [List.getElem?_eq_getElem (by omega)] at this
      exact Option.some.inj this
    rw [decNs_get, List.getElem_map, e1]
    obtain ⟨q1, q2, q3, q4⟩ := enc_sz hg hj
    unfold decN bare decP decD
    rw [q3, q4]
    have ep : (List.range ns[j].p.length).map (fun k => numb (plE ns rs) (wat (encW ns rs) (plc ns rs j + 1 + k))) = ns[j].p := by
      refine List.ext_getElem (by simp) fun k h3 h4 => ?_
      rw [List.getElem_map, List.getElem_range, enc_ptr hg hj h4]
      have hx := (hg.x _ (List.getElem_mem hj)).1 _ (List.getElem_mem h4)
      exact numb_ptW hs hb hx.1 (by rw [hpl]; exact hx.2)
    have ed : bytesW (encW ns rs) ((plc ns rs j + 1 + ns[j].p.length) * 8) ns[j].d.length = ns[j].d := by
      refine List.ext_getElem bytesW_length fun k h3 h4 => ?_
      have e2 : ∀ h : k < (bytesW (encW ns rs) ((plc ns rs j + 1 + ns[j].p.length) * 8) ns[j].d.length).length, (bytesW (encW ns rs) ((plc ns rs j + 1 + ns[j].p.length) * 8) ns[j].d.length)[k]'h = byteW (encW ns rs) ((plc ns rs j + 1 + ns[j].p.length) * 8 + k) := fun h => by simp [bytesW]
      rw [e2]
      have e3 := enc_dat hg hj (k := k / 8) (by omega)
      unfold wat at e3
      unfold byteW
      rw [show ((plc ns rs j + 1 + ns[j].p.length) * 8 + k) / 8 = plc ns rs j + 1 + ns[j].p.length + k / 8 by omega, show ((plc ns rs j + 1 + ns[j].p.length) * 8 + k) % 8 = k % 8 by omega, e3, wordV_byte _ _ _ (by omega), show 8 * (k / 8) + k % 8 = k by omega, List.getD_eq_getElem?_getD, List.getElem?_eq_getElem h4]
      rfl
    rw [ep, ed]
  · have hnR := (enc_ok hg hN).2.1
    refine List.ext_getElem (by rw [decRs_len, hnR]) fun i h1 h2 => ?_
    rw [decRs_get, (enc_nm hg h2).1, enc_rt hg h2]
    have hx := (hg.s _ (List.getElem_mem h2)).2
    rw [numb_ptW hs hb hx.1 (by rw [hpl]; exact hx.2)]
theorem dec_ok : DecOk (encW ns rs) (plE ns rs) := by
  obtain ⟨e1, e2⟩ := dec_enc hg hN
  have hl := enc_len hg
  have hk := enc_ok hg hN
  have hsc := enc_sc hg
  rw [← hk.2.1] at hsc
  refine ⟨by omega, by rw [hk.2.1]; omega, hsc, ?_, ?_⟩
  · rw [e1, e2]; exact bare_good.2 hg
  · rw [e1, e2, bare_enc]
end
end Go.Proofs.Ytdpmidgeipibbaa
end
section
set_option linter.unusedVariables false
set_option linter.unusedSimpArgs false
set_option maxHeartbeats 4000000
namespace Go.Proofs.Ytdpmidgeipibbaa
open Go.Sh Go.RowKit

theorem Sc.cover {x : Nat → BitVec 64} {t o : Nat} {l : List Nat} (h : Sc x t o l none) : ∀ i, o ≤ i → i < t → ∃ p ∈ l, p ≤ i ∧ i < p + szW (x p) := by
  generalize hb : (none : Option Nat) = b at h
  induction h with
  | done => intro i h1 h2; omega
  | bad => cases hb
  | @step o l b h1 h2 h3 ih =>
    intro i h4 h5
    by_cases h6 : i < o + szW (x o)
    · exact ⟨o, List.mem_cons_self .., h4, h6⟩
    · obtain ⟨p, hp, h7, h8⟩ := ih hb i (by omega) h5
      exact ⟨p, List.mem_cons_of_mem _ hp, h7, h8⟩
theorem okW_pack_eq {x : BitVec 64} (h : okW x) : packW (pN x) (bN x) false 0 = x := by
  obtain ⟨⟨h1, h2⟩, h3⟩ := h
  have ht : uT x = 0 := by unfold uT; rw [h3]; rfl
  have hp : 0 ≤ uP x := by unfold uP; rw [h3]; simp; omega
  have hbb : 0 ≤ uB x := by unfold uB; rw [h3]; simp; omega
  rw [h3, ht] at h2
  unfold pN bN
  rw [Int.toNat_of_nonneg hp, Int.toNat_of_nonneg hbb]
  exact h2
theorem roots_in {l : List (BitVec 64)} {os : List Nat} : ∀ R, rootsF l os R = [] → ∀ i, i < R → nameB l (2 + 5 * i) ∧ leN (nameS l (2 + 5 * i)) (lastAt l i) = false ∧ PtrOk os (wat l (2 + 5 * i + 4)).toNat
  | 0, _, i, hi => by omega
  | R + 1, h, i, hi => by
    rw [rootsF, List.append_eq_nil_iff, List.append_eq_nil_iff] at h
    obtain ⟨h1, h2, h3⟩ := h
    by_cases e : i = R
    · subst e
      unfold nmF at h2
      unfold rtF at h3
      split at h2
      · cases h2
      rename_i h4
      split at h3
      · rename_i h5
        refine ⟨Classical.byContradiction fun hn => h4 (.inl hn), ?_, h5⟩
        cases hq : leN (nameS l (2 + 5 * i)) (lastAt l i)
        · rfl
        · exact absurd (.inr hq) h4
      · cases h3
    · exact roots_in R h1 i (by omega)
theorem last_in {l : List (BitVec 64)} : ∀ i, (∀ j, j < i → nameB l (2 + 5 * j)) → 0 < i → lastAt l i = nameS l (2 + 5 * (i - 1))
  | 0, _, h => by omega
  | i + 1, h, _ => by rw [lastAt, if_pos (h i (by omega))]; rfl
/-- what is known of words with nothing wrong -/
structure Fine (l : List (BitVec 64)) (os : List Nat) : Prop where
  len : l.length ≤ 8192
  sz : sizeOk l
  mag : wat l 0 = BitVec.ofNat 64 1296125772
  sc : Sc (wat l) l.length (2 + 5 * nR l) os none
  ptr : ∀ o ∈ os, ∀ k, k < pN (wat l o) → PtrOk os (wat l (o + 1 + k)).toNat
  pad : ∀ o ∈ os, ¬ padX (wat l) o
  rt : ∀ i, i < nR l → nameB l (2 + 5 * i) ∧ leN (nameS l (2 + 5 * i)) (lastAt l i) = false ∧ PtrOk os (wat l (2 + 5 * i + 4)).toNat
theorem img_fine {l : List (BitVec 64)} {os : List Nat} {bad : Option Nat} (hl : l.length ≤ 8192) (hS : sizeOk l → Sc (wat l) l.length (2 + 5 * nR l) os bad) (h : imgG l os bad = []) : Fine l os := by
  unfold imgG at h
  rw [List.append_eq_nil_iff] at h
  obtain ⟨h1, h2⟩ := h
  split at h2
  rotate_left
  · cases h2
  rename_i hz
  rw [List.append_eq_nil_iff] at h2
  obtain ⟨h3, h4⟩ := h2
  unfold allF at h3
  rw [List.append_eq_nil_iff, List.flatMap_eq_nil_iff] at h3
  obtain ⟨h5, h6⟩ := h3
  have hb : bad = none := by cases bad with
    | none => rfl
    | some b => cases h5
  subst hb
  have ho : ∀ o ∈ os, (∀ k, k < pN (wat l o) → PtrOk os (wat l (o + 1 + k)).toNat) ∧ ¬ padX (wat l) o := fun o hm => by
    have := h6 o hm
    unfold objF at this
    rw [List.append_eq_nil_iff, ptrF_nil] at this
    refine ⟨this.1, fun hp => ?_⟩
    have h7 := this.2
    unfold padF at h7
    rw [if_pos hp] at h7
    cases h7
  refine ⟨hl, hz, ?_, hS hz, fun o hm => (ho o hm).1, fun o hm => (ho o hm).2, roots_in _ h4⟩
  unfold magF at h1
  split at h1
  · cases h1
  · rename_i h7
    exact Classical.byContradiction fun h8 => h7 (.inr h8)
section
variable {l : List (BitVec 64)} {os : List Nat} (F : Fine l os)
include F
theorem fine_good : GoodG (decNs l os) (decRs l os) := by
  have hs := F.sc.all.1
  refine ⟨fun x hx => ?_, ?_, fun r hr => ?_, fun i hi => ?_⟩
  · obtain ⟨o, ho, rfl⟩ := List.mem_map.1 hx
    obtain ⟨_, hok, _⟩ := F.sc.all.2 o ho
    obtain ⟨v1, v2, v3, v4, v5, v6, v7, v8⟩ := okW_v hok
    refine ⟨fun p hp => ?_, by simpa [decN, decP] using v7, by simpa [decN, decD, bytesW_length] using v8⟩
    obtain ⟨k, hk, rfl⟩ := List.mem_map.1 hp
    rw [decNs_len]
    exact numb_ran hs _
  · rw [decRs_len]; exact F.sz.2.2.2.1
  · obtain ⟨i, hi, rfl⟩ := List.mem_map.1 hr
    obtain ⟨h1, _, _⟩ := F.rt i (List.mem_range.1 hi)
    refine ⟨nmOk_iff.1 h1.1, ?_⟩
    rw [decNs_len]
    exact numb_ran hs _
  · have hi' : i + 1 < nR l := by rwa [decRs_len] at hi
    rw [decRs_get, decRs_get]
    obtain ⟨_, h2, _⟩ := F.rt (i + 1) hi'
    rw [last_in (i + 1) (fun j hj => (F.rt j (by omega)).1) (by omega)] at h2
    unfold leN at h2
    exact bytesLess_tri _ _ h2
theorem fine_sz {o : Nat} (ho : o ∈ os) : gsz (decN l os o) = szW (wat l o) := by
  obtain ⟨_, hok, _⟩ := F.sc.all.2 o ho
  obtain ⟨v1, v2, v3, v4, v5, v6, v7, v8⟩ := okW_v hok
  rw [v6]
  simp [gsz, decN, decP, decD, bytesW_length]
theorem fine_gW (j : Nat) : gW ((decNs l os).take j) = ((os.take j).map fun p => szW (wat l p)).sum := by
  unfold gW decNs
  rw [← List.map_take, List.map_map]
  congr 1
  exact List.map_congr_left fun o ho => fine_sz F (List.mem_of_mem_take ho)
theorem fine_plc {j : Nat} (hj : j < os.length) : plc (decNs l os) (decRs l os) j = os[j] := by
  unfold plc
  rw [fine_gW F, decRs_len, F.sc.sum.1 j hj]
theorem fine_pl : plE (decNs l os) (decRs l os) = os := by
  refine List.ext_getElem (by rw [plL_len, decNs_len]) fun j h1 h2 => ?_
  have := pl_get (ns := decNs l os) (rs := decRs l os) (j := j) (by rw [decNs_len]; exact h2)
  rw [List.getElem?_eq_getElem h1] at this
  rw [Option.some.inj this, fine_plc F h2]
theorem fine_all : 2 + 5 * (decRs l os).length + gW (decNs l os) = l.length := by
  have h := fine_gW F (decNs l os).length
  rw [List.take_length, decNs_len, List.take_length] at h
  rw [h, decRs_len]
  exact F.sc.sum.2
theorem fine_hdr : wat l 1 = hdrW (nR l) l.length := by
  obtain ⟨h1, h2, h3, h4, h5⟩ := F.sz
  have hl := F.len
  have f0 : (fieldB (wat l 1) 0 16).toNat = _ := field_nat _ (a := 0) (n := 16) (by decide) (by decide)
  have f1 : (fieldB (wat l 1) 16 32).toNat = _ := field_nat _ (a := 16) (n := 32) (by decide) (by decide)
  have f2 : (fieldB (wat l 1) 48 16).toNat = _ := field_nat _ (a := 48) (n := 16) (by decide) (by decide)
  have e0 : nR l = _ := f0
  have e1 := congrArg BitVec.toNat h3
  have e2 := congrArg BitVec.toNat h2
  rw [f1, BitVec.toNat_ofNat] at e1
  rw [f2, BitVec.toNat_ofNat] at e2
  apply BitVec.eq_of_toNat_eq
  unfold hdrW
  rw [BitVec.toNat_ofNat]
  have := (wat l 1).isLt
  omega
theorem fine_enc : encW (decNs l os) (decRs l os) = l := by
  have hg := fine_good F
  have hl := F.len
  have ha := fine_all F
  have hE := enc_len hg
  have hs := F.sc.all.1
  have hR : (decRs l os).length = nR l := decRs_len
  have hpl := fine_pl F
  have key : ∀ i, i < l.length → wat (encW (decNs l os) (decRs l os)) i = wat l i := by
    intro i hi
    by_cases h0 : i = 0
    · subst h0
      rw [F.mag]; rfl
    by_cases h1 : i = 1
    · subst h1
      rw [fine_hdr F, ← hR, ← ha]; rfl
    by_cases h2 : i < 2 + 5 * nR l
    · have hj : (i - 2) / 5 < nR l := by omega
      have hj' : (i - 2) / 5 < (decRs l os).length := by omega
      obtain ⟨n1, n2, n3⟩ := F.rt _ hj
      by_cases h4 : (i - 2) % 5 = 4
      · have := enc_rt hg hj'
        rw [show 2 + 5 * ((i - 2) / 5) + 4 = i by omega, hpl, decRs_get] at this
        rw [this]
        rw [show 2 + 5 * ((i - 2) / 5) + 4 = i by omega] at n3 ⊢
        exact ptW_numb hs n3
      · have e : (encW (decNs l os) (decRs l os))[2 + 5 * ((i - 2) / 5) + (i - 2) % 5]? = _ := enc_root (fun r hr => (hg.s r hr).1.2.1) hj' (k := (i - 2) % 5) (by omega)
        rw [show 2 + 5 * ((i - 2) / 5) + (i - 2) % 5 = i by omega, decRs_get] at e
        have hp : padS (nameS l (2 + 5 * ((i - 2) / 5))) = bytesW l ((2 + 5 * ((i - 2) / 5)) * 8) 32 := by
          have := n1.2
          unfold fixN at this
          rw [if_pos n1.1] at this
          rw [Nat.mul_comm _ 8]
          exact this
        unfold rtW at e
        simp only [hp] at e
        have hw : (i - 2) % 5 < ((bytesW l ((2 + 5 * ((i - 2) / 5)) * 8) 32).length + 7) / 8 := by rw [bytesW_length]; omega
        rw [List.getElem?_append_left (by rw [wordsV_len]; exact hw), wordsV_at _ hw, wordV_whole (by omega)] at e
        rw [wat_some e]
        congr 1
        omega
    · obtain ⟨o, ho, h3, h4⟩ := F.sc.cover i (by omega) hi
      obtain ⟨_, hok, _⟩ := F.sc.all.2 o ho
      obtain ⟨v1, v2, v3, v4, v5, v6, v7, v8⟩ := okW_v hok
      have hpt := F.ptr o ho
      have hpad := F.pad o ho
      obtain ⟨j, hj, rfl⟩ := List.getElem_of_mem ho
      have hj' : j < (decNs l os).length := by rw [decNs_len]; exact hj
      have hpc := fine_plc F hj
      have hx : (decNs l os)[j] = decN l os os[j] := decNs_get hj'
      have xp : (decNs l os)[j].p.length = pN (wat l os[j]) := by rw [hx]; simp [decN, decP]
      have xd : (decNs l os)[j].d.length = bN (wat l os[j]) := by rw [hx]; simp [decN, decD, bytesW_length]
      by_cases c0 : i = os[j]
      · have := enc_hd hg hj'
        rw [hpc, xp, xd, okW_pack_eq hok] at this
        rw [c0]
        exact this
      by_cases c1 : i < os[j] + 1 + pN (wat l os[j])
      · have hk : i - os[j] - 1 < (decNs l os)[j].p.length := by rw [xp]; omega
        have := enc_ptr hg hj' hk
        have xe : (decNs l os)[j].p[i - os[j] - 1] = numb os (wat l (os[j] + 1 + (i - os[j] - 1))) := by
          simp only [hx, decN, decP]
          rw [List.getElem_map, List.getElem_range]
        rw [hpc, hpl, xe, show os[j] + 1 + (i - os[j] - 1) = i by omega] at this
        have hq := hpt (i - os[j] - 1) (by omega)
        rw [show os[j] + 1 + (i - os[j] - 1) = i by omega] at hq
        rw [this]
        exact ptW_numb hs hq
      · have hk : i - os[j] - 1 - pN (wat l os[j]) < ((decNs l os)[j].d.length + 7) / 8 := by rw [xd]; omega
        have := enc_dat hg hj' hk
        have xe : (decNs l os)[j].d = bytesW l ((os[j] + 1 + pN (wat l os[j])) * 8) (bN (wat l os[j])) := by rw [hx]; rfl
        rw [hpc, xp, xe, show os[j] + 1 + pN (wat l os[j]) + (i - os[j] - 1 - pN (wat l os[j])) = i by omega] at this
        rw [this]
        by_cases c2 : 8 * (i - os[j] - 1 - pN (wat l os[j])) + 8 ≤ bN (wat l os[j])
        · rw [wordV_whole c2]
          congr 1
          omega
        · have hz : wat l (os[j] + szW (wat l os[j]) - 1) >>> (8 * (bN (wat l os[j]) % 8)) = 0#64 := Classical.byContradiction fun hn => hpad ⟨by omega, hn⟩
          rw [xd] at hk
          rw [show os[j] + szW (wat l os[j]) - 1 = os[j] + 1 + pN (wat l os[j]) + (i - os[j] - 1 - pN (wat l os[j])) by omega] at hz
          rw [wordV_last (by omega) hz]
          congr 1
          omega
  refine List.ext_getElem (by omega) fun i h1 h2 => ?_
  have := key i h2
  unfold wat at this
  rw [List.getD_eq_getElem?_getD, List.getElem?_eq_getElem h1, List.getD_eq_getElem?_getD, List.getElem?_eq_getElem h2] at this
  exact this
theorem fine_dec : DecOk l os := ⟨F.sz.1, F.sz.2.2.2.2, F.sc, fine_good F, fine_enc F⟩
end
/-- words are a graph's just if nothing is wrong -/
theorem img_dec {l : List (BitVec 64)} {os : List Nat} {bad : Option Nat} (hl : l.length ≤ 8192) (hS : sizeOk l → Sc (wat l) l.length (2 + 5 * nR l) os bad) : imgG l os bad = [] ↔ ∃ os', DecOk l os' := by
  constructor
  · intro h
    exact ⟨os, fine_dec (img_fine hl hS h)⟩
  · rintro ⟨os', D⟩
    have hlen := enc_len D.good
    rw [D.enc] at hlen
    have := enc_img (os := os) (bad := bad) D.good (by omega)
    rw [D.enc] at this
    exact this hS
end Go.Proofs.Ytdpmidgeipibbaa
end
