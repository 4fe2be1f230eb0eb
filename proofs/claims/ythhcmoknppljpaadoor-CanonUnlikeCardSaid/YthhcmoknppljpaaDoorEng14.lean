/- Things with blocks of their own: what a step changes, where they lie; rows that are appended to, of any size of element. -/
import Derived.Test.YthhcmoknppljpaaDoorEng11
set_option linter.unusedVariables false
set_option linter.unusedSimpArgs false
namespace Go.Sh
open Go.RowKit Go.ChangeShapes Go.WideShapes Go.ChangeAt
noncomputable section
variable {P : Program} {w : World} {K : K1} {t e : TypeId}

/-! ### steps -/
/-- a step that changes the blocks F alone, behind which the thing lies at F' : some of F, and new ones -/
structure Stp (F F' : List Nat) (w w' : World) : Prop where
  ext : Ext F w w'
  at' : ∀ b ∈ F', b ∈ F ∨ w.heap.size ≤ b
theorem Stp.refl (F : List Nat) (w : World) : Stp F F w w := ⟨Ext.refl F w, fun b h => .inl h⟩
theorem Stp.of {F : List Nat} {w' : World} (h : Ext [] w w') : Stp F F w w' := ⟨h.more (by simp), fun b h => .inl h⟩
theorem Stp.trans {F G H : List Nat} {a b c : World} (h : Stp F G a b) (k : Stp G H b c) : Stp F H a c :=
  ⟨h.ext.cut k.ext h.at', fun x hx => (k.at' x hx).elim (h.at' x) fun hb => .inr (Nat.le_trans h.ext.size hb)⟩
theorem Stp.size {F F' : List Nat} {w' : World} (h : Stp F F' w w') : w.heap.size ≤ w'.heap.size := h.ext.size
/-- the same, among more -/
theorem Stp.left {F F' : List Nat} {w' : World} (h : Stp F F' w w') (G : List Nat) : Stp (F ++ G) (F' ++ G) w w' :=
  ⟨h.ext.more fun x hx => List.mem_append_left _ hx, fun b hb => (List.mem_append.1 hb).elim (fun hb => (h.at' b hb).imp (List.mem_append_left _) id) fun hb => .inl (List.mem_append_right _ hb)⟩
theorem Stp.right {F F' : List Nat} {w' : World} (h : Stp F F' w w') (G : List Nat) : Stp (G ++ F) (G ++ F') w w' :=
  ⟨h.ext.more fun x hx => List.mem_append_right _ hx, fun b hb => (List.mem_append.1 hb).elim (fun hb => .inl (List.mem_append_left _ hb)) fun hb => (h.at' b hb).imp (List.mem_append_right _) id⟩
theorem Stp.cons {F F' : List Nat} {w' : World} (h : Stp F F' w w') (g : Nat) : Stp (g :: F) (g :: F') w w' := h.right [g]
theorem Stp.sub {F F' G G' : List Nat} {w' : World} (h : Stp F F' w w') (h1 : ∀ b ∈ F, b ∈ G) (h2 : ∀ b ∈ G', b ∈ F' ∨ b ∈ G) : Stp G G' w w' :=
  ⟨h.ext.more h1, fun b hb => (h2 b hb).elim (fun hb => (h.at' b hb).imp (h1 b) id) .inl⟩
/-- what lay apart lies apart -/
theorem Stp.apart {F F' G : List Nat} {w' : World} (h : Stp F F' w w') (hd : ∀ b ∈ G, b ∉ F) (hl : ∀ b ∈ G, b < w.heap.size) : ∀ b ∈ G, b ∉ F' := fun b hb hf =>
  (h.at' b hf).elim (hd b hb) fun hge => by have := hl b hb; omega
theorem Stp.up {F F' : List Nat} {w0 w' : World} (h : Stp F F' w w') (h0 : w0.heap.size ≤ w.heap.size) (hu : ∀ b ∈ F, w0.heap.size ≤ b) : ∀ b ∈ F', w0.heap.size ≤ b := fun b hb =>
  (h.at' b hb).elim (hu b) fun hge => Nat.le_trans h0 hge
/-- seen from where one began, what is one's own does not count -/
theorem Stp.new {F F' : List Nat} {w0 w' : World} (h : Stp F F' w w') (h0 : Ext [] w0 w) (hu : ∀ b ∈ F, w0.heap.size ≤ b) : Ext [] w0 w' := h0.new h.ext hu
theorem Blk.at {g : Nat} {cs : List Value} (h : g = w.heap.size) : Blk (w.alloc (.cells cs.toArray e)) g e cs := h ▸ Blk.new w cs

/-! ### rows of one's own -/
abbrev blk (v : Value) : List Nat := v.ownBlock.toList
def Own (w : World) (e : TypeId) (s : Nat) (v : Value) (n : Nat) (cs : List Value) : Prop := w.ownsRow 0 e s v n cs
theorem Own.lt {s n : Nat} {v : Value} {cs : List Value} (h : Own w e s v n cs) : ∀ b ∈ blk v, b < w.heap.size := fun b hb => (World.ownsRow.lt h b (by simpa using hb)).2
theorem Own.ext {s n : Nat} {v : Value} {cs : List Value} {M : List Nat} {w' : World} (h : Own w e s v n cs) (hx : Ext M w w') (hm : ∀ b ∈ blk v, b ∉ M) : Own w' e s v n cs := by
  refine ⟨h.1, ?_⟩
  rcases h.2 with h0 | ⟨g, cap, cur, rfl, hb, hg, h1, h2, h3, h4⟩
  · exact .inl h0
  · refine .inr ⟨g, cap, cur, rfl, hb, ?_, h1, h2, h3, h4⟩
    rw [hx.block g (Array.getElem?_eq_some_iff.1 hg).1 (hm g (by simp [blk, Value.ownBlock]))]
    exact hg
theorem Own.ext0 {s n : Nat} {v : Value} {cs : List Value} {w' : World} (h : Own w e s v n cs) (hx : Ext [] w w') : Own w' e s v n cs := h.ext hx (by simp)
theorem Own.nil {s : Nat} : Own w e s (.slice none 0 0) 0 [] := World.ownsRow_nil w 0 e s
theorem Own.of {base s n : Nat} {v : Value} {cs : List Value} (h : w.ownsRow base e s v n cs) : Own w e s v n cs := by
  refine ⟨h.1, ?_⟩
  rcases h.2 with h0 | ⟨g, cap, cur, rfl, hb, r⟩
  · exact .inl h0
  · exact .inr ⟨g, cap, cur, rfl, Nat.zero_le _, r⟩
theorem Own.base {base s n : Nat} {v : Value} {cs : List Value} (h : Own w e s v n cs) (hb : ∀ b ∈ blk v, base ≤ b) : w.ownsRow base e s v n cs := by
  refine ⟨h.1, ?_⟩
  rcases h.2 with h0 | ⟨g, cap, cur, rfl, _, r⟩
  · exact .inl h0
  · exact .inr ⟨g, cap, cur, rfl, hb g (by simp [blk, Value.ownBlock]), r⟩
theorem Own.len {s n : Nat} {v : Value} {cs : List Value} (h : Own w e s v n cs) : cs.length = n * s := h.1
/-- it is a slice, and its cells stand there -/
theorem Own.slice {s n : Nat} {v : Value} {cs : List Value} (h : Own w e s v n cs) : ∃ a c, v = .slice a n c ∧ n ≤ c ∧ c ≤ maxLen ∧ (a = none → c = 0) ∧ RowAt w a cs ∧ ∀ x, a = some x → x.off = 0 ∧ x.spot = none := by
  rcases h.2 with ⟨hv, h0⟩ | ⟨g, cap, cur, hv, hb, hg, hnc, hm, hs, ht⟩
  · subst h0
    have : cs = [] := List.eq_nil_of_length_eq_zero (by have := h.1; omega)
    exact ⟨none, 0, hv, Nat.le_refl _, Nat.zero_le _, fun _ => rfl, .inl this, fun x hx => by cases hx⟩
  · refine ⟨_, cap, hv, hnc, hm, fun h => (by cases h), .inr ⟨g, 0, rfl, fun i x hi => ?_⟩, fun x hx => by cases hx; exact ⟨rfl, rfl⟩⟩
    subst hv
    have := World.ownsRow.cells h (g := g) rfl i x hi
    rwa [addr_add] at this
/-- opened: the block, and what lies behind the row -/
theorem Own.open {s n : Nat} {v : Value} {cs : List Value} (h : Own w e s v n cs) (hn : 0 < n) :
    ∃ g cap rest, v = .slice (some ⟨g, 0, none⟩) n cap ∧ Blk w g e (cs ++ rest) ∧ n ≤ cap ∧ cap ≤ maxLen ∧ (cs ++ rest).length = cap * s := by
  rcases h.2 with ⟨_, h0⟩ | ⟨g, cap, cur, hv, hb, hg, hnc, hm, hs, ht⟩
  · omega
  · refine ⟨g, cap, cur.toList.drop (n * s), hv, ?_, hnc, hm, ?_⟩
    · unfold Blk
      rw [← ht, List.take_append_drop, hg]
    · rw [← ht, List.take_append_drop]; simpa using hs
theorem Own.close {s n g cap : Nat} {cs rest : List Value} (hB : Blk w g e (cs ++ rest)) (hnc : n ≤ cap) (hm : cap ≤ maxLen) (hl : (cs ++ rest).length = cap * s) (hcs : cs.length = n * s) : Own w e s (.slice (some ⟨g, 0, none⟩) n cap) n cs :=
  ⟨hcs, .inr ⟨g, cap, _, rfl, Nat.zero_le _, hB, hnc, hm, by simpa using hl, by simp [← hcs]⟩⟩
/-- one cell written -/
theorem Own.set {s n i : Nat} {v : Value} {cs : List Value} {x : Value} (h : Own w e s v n cs) (hi : i < cs.length) :
    ∃ g cap, v = .slice (some ⟨g, 0, none⟩) n cap ∧ (w.cell? ⟨g, i, none⟩).isSome = true ∧ w.frozen? ⟨g, i, none⟩ = false ∧ Own (w.setCell ⟨g, i, none⟩ x) e s v n (cs.set i x) ∧ Stp (blk v) (blk v) w (w.setCell ⟨g, i, none⟩ x) := by
  have hn : 0 < n := by
    have := h.1
    cases n with
    | zero => simp at this; subst this; simp at hi
    | succ n => omega
  obtain ⟨g, cap, rest, rfl, hB, hnc, hm, hl⟩ := h.open hn
  refine ⟨g, cap, rfl, ?_, hB.frozen, ?_, ⟨Ext.set.more (by simp [blk, Value.ownBlock]), fun b hb => .inl hb⟩⟩
  · rw [hB.cell]; simp; omega
  · have hB2 := hB.set (i := i) (v := x)
    rw [List.set_append_left _ _ hi] at hB2
    exact Own.close hB2 hnc hm (by simpa using hl) (by rw [List.length_set]; exact h.1)

/-- an append -/
theorem xApp {ty : TypeId} {c1 c2 : Bool} {bytes s n m c : Nat} {v : Value} {a : Option Addr} {xs news : List Value} {z : Value}
    (ht : P.underlying t = some (.slice e)) (hi : (P.info? e).map (fun i => (i.size, i.bytes, i.zero)) = some (s, bytes, some z)) (hzs : z.cells.size = s) (hs0 : 0 < s)
    (hown : Own w e s v n xs) (hm : news.length = m * s) (hsrc : RowAt w a news) (hnil : a = none → c = 0) (hmc : m ≤ c) (h1 : ∀ u ∈ news, u.oneCell' = true) (hlen : n + m ≤ 4294967296) (hbytes : (n + m) * bytes ≤ 140737488355328)
    (hK : ∀ v' w', Own w' e s v' (n + m) (xs ++ news) → Stp (blk v) (blk v') w w' → K v' w') : xBuiltin P .append #[t, t] ty [c1, c2] [v, .slice a m c] w K := by
  cases hq : P.info? e with
  | none => rw [hq] at hi; cases hi
  | some i =>
    rw [hq] at hi
    simp only [Option.map_some, Option.some.injEq, Prod.mk.injEq] at hi
    obtain ⟨hs, hby, hz⟩ := hi
    have hown' : w.ownsRow 0 e s v n xs := hown
    cases a with
    | none =>
      have hm0 : m = 0 := by have := hnil rfl; omega
      subst hm0
      have hn : news = [] := List.eq_nil_of_length_eq_zero (by simpa using hm)
      subst hn
      have := run_append_owned_none (P := P) w 0 t ty e i s ht hq v n xs hown'
      rw [hnil rfl]
      rw [xBuiltin_okv (v := v) (w' := w) (by simp [builtin, this])]
      exact hK v w (by simpa using hown) (Stp.refl _ _)
    | some a =>
      by_cases hm0 : m = 0
      · subst hm0
        have hn : news = [] := List.eq_nil_of_length_eq_zero (by simpa using hm)
        subst hn
        rcases hown.2 with ⟨rfl, rfl⟩ | ⟨g, cap, cur, rfl, hbg, hgc, hnc, hcm, hcs, htake⟩
        · have : (Builtin.append_ #[t, t] ty #[.slice none 0 0, .slice (some a) 0 c]).run P w = .ok (.slice none 0 0) w := by
            simp [Builtin.append_, run_underlying ht, sizeOf, typeInfo, hq, Builtin.lenOf, Builtin.firstCells, loadCells, loadCellsFrom]
          rw [xBuiltin_okv (v := .slice none 0 0) (w' := w) (by simp [builtin, this])]
          exact hK _ w (by simpa using hown) (Stp.refl _ _)
        · have h3 := run_append_room (P := P) w t ty e i ht hq g n cap cur hgc a 0 c [] (by simp) (by simp) (by simp) (by omega) (by rw [hs, hcs]; simp; exact Nat.mul_le_mul_right _ hnc)
          simp only [List.length_nil, Nat.add_zero, List.append_nil, List.take_append_drop] at h3
          have hsame : w.setRow g cur.toList.toArray = w := by
            have hh : (w.setRow g cur.toList.toArray).heap = w.heap := by
              apply Array.ext_getElem?
              intro j
              by_cases hj : j = g
              · subst hj
                rw [setRow_heap w j cur _ e _ hgc, hgc]
              · unfold World.setRow
                rw [Array.getElem?_modify, if_neg (Ne.symm hj)]
            have : ∀ (w1 : World), w1.heap = w.heap → w1.tape = w.tape → w1.drawn = w.drawn → w1.os = w.os → w1.output = w.output → w1 = w := by
              intro w1 a1 a2 a3 a4 a5
              cases w1; cases w
              simp only at a1 a2 a3 a4 a5
              subst a1 a2 a3 a4 a5
              rfl
            exact this _ hh rfl rfl rfl rfl
          rw [hsame] at h3
          rw [xBuiltin_okv (v := .slice (some ⟨g, 0, none⟩) n cap) (w' := w) (by simp [builtin, h3])]
          exact hK _ w (by simpa using hown) (Stp.refl _ _)
      have hnews : ∀ j u, news[j]? = some u → w.cell? (a.add j) = some u := fun j u hj => by
          rcases hsrc with h | ⟨b, o, h, h2⟩
          · subst h; simp at hj
          · simp only [Option.some.injEq] at h; subst h; rw [addr_add]; exact h2 j u hj
      obtain ⟨v', w', hr, ho, hg, _⟩ := run_append_own (P := P) w 0 t ty e i z s bytes ht hq hz hs hby hzs hs0 v n xs hown' a m c news hm hnews h1 (by simp only [maxLen]; omega) hbytes (Nat.zero_le _)
      have hwhere : v'.ownBlock = v.ownBlock ∨ v'.ownBlock = some w.heap.size := by
        rcases hown'.2 with ⟨rfl, rfl⟩ | ⟨g, cap, cur, rfl, hbg, hgc, hnc, hcm, hcs, htake⟩
        · have h3 := run_append_nil (P := P) w t ty e i z ht hq hz a m c news (by rw [hs]; exact hm) hnews (by omega) (by omega) (by rw [hby]; have hb := hbytes; simp only [Nat.zero_add] at hb; omega)
          rw [h3] at hr
          cases hr
          exact .inr rfl
        · by_cases hroom : n + m ≤ cap
          · have h3 := run_append_room (P := P) w t ty e i ht hq g n cap cur hgc a m c news (by rw [hs]; exact hm) hnews h1 hroom (by
              rw [hs, hcs, hm, ← Nat.add_mul]; exact Nat.mul_le_mul_right _ hroom)
            rw [h3] at hr
            cases hr
            exact .inl rfl
          · have holds : ∀ j u, xs[j]? = some u → w.cell? ((⟨g, 0, none⟩ : Addr).add j) = some u := hown'.cells (g := g) rfl
            have h3 := run_append_grow (P := P) w t ty e i z ht hq hz ⟨g, 0, none⟩ n cap xs (by rw [hs]; exact hown.1) holds a m c news (by rw [hs]; exact hm) hnews (by omega) (by omega) (growslice_fits (by omega) (by rw [hby]; exact hbytes))
            rw [h3] at hr
            cases hr
            exact .inr rfl
      rw [xBuiltin_okv (v := v') (w' := w') (by simp [builtin, hr])]
      refine hK v' w' ho ⟨grownBy_ext hg fun g hg => by simp [blk, hg], fun b hb => ?_⟩
      have hb' : v'.ownBlock = some b := by simpa [blk] using hb
      rcases hwhere with h | h
      · exact .inl (by rw [h] at hb'; simpa [blk] using hb')
      · rw [h] at hb'; cases hb'; exact .inr (Nat.le_refl _)
/-- an append of what stands in a literal -/
theorem xAppL {ty : TypeId} {c1 c2 : Bool} {bytes s n m g : Nat} {v : Value} {xs news : List Value} {z : Value}
    (ht : P.underlying t = some (.slice e)) (hi : (P.info? e).map (fun i => (i.size, i.bytes, i.zero)) = some (s, bytes, some z)) (hzs : z.cells.size = s) (hs0 : 0 < s)
    (hown : Own w e s v n xs) (hm : news.length = m * s) (h1 : ∀ u ∈ news, u.oneCell' = true) (hlen : n + m ≤ 4294967296) (hbytes : (n + m) * bytes ≤ 140737488355328)
    (hK : ∀ v' w', Own w' e s v' (n + m) (xs ++ news) → Stp (blk v) (blk v') w w' → K v' w') (hg : g = w.heap.size := by first | rfl | (simp only [World.size_alloc, World.size_drew, World.size_setCell] <;> omega)) :
    xBuiltin P .append #[t, t] ty [c1, c2] [v, .slice (some ⟨g, 0, none⟩) m m] (w.alloc (.cells news.toArray e)) K := by
  subst hg
  exact xApp ht hi hzs hs0 (hown.ext0 (Ext.alloc [] w _)) hm (Blk.new w news).row (fun h => by cases h) (Nat.le_refl _) h1 hlen hbytes fun v' w' ho hs =>
    hK v' w' ho ⟨(Ext.alloc _ w _).trans hs.ext, fun b hb => (hs.at' b hb).imp id fun h => by simp at h; omega⟩
/-- made anew -/
theorem Own.made {n : Nat} {z : Value} (hn : n ≤ maxLen) : Own (w.alloc (.cells (List.replicate n z).toArray e)) e 1 (.slice (some ⟨w.heap.size, 0, none⟩) n n) n (List.replicate n z) := by
  have hB := Blk.new (e := e) w (List.replicate n z)
  refine Own.close (rest := []) (by rw [List.append_nil]; exact hB) (Nat.le_refl _) hn (by simp) (by simp)
theorem Own.lit {m g : Nat} {cs : List Value} (hm : m ≤ maxLen) (hl : cs.length = m * 1) (hg : g = w.heap.size := by first | rfl | (simp only [World.size_alloc, World.size_drew, World.size_setCell] <;> omega)) : Own (w.alloc (.cells cs.toArray e)) e 1 (.slice (some ⟨g, 0, none⟩) m m) m cs := by
  subst hg
  have hB := Blk.new (e := e) w cs
  exact Own.close (rest := []) (by rw [List.append_nil]; exact hB) (Nat.le_refl _) hm (by simpa using hl) hl
/-- a new row, behind a call -/
def NewR (e : TypeId) (s : Nat) (w w' : World) (u : Value) (n : Nat) (cs : List Value) : Prop := Ext [] w w' ∧ Own w' e s u n cs ∧ ∀ b ∈ blk u, w.heap.size ≤ b
theorem NewR.app {e : TypeId} {s n m : Nat} {w0 w' : World} {v v' : Value} {cs cs' : List Value} (h : NewR e s w0 w v n cs) (ho : Own w' e s v' m cs') (hs : Stp (blk v) (blk v') w w') : NewR e s w0 w' v' m cs' :=
  ⟨hs.new h.1 h.2.2, ho, hs.up h.1.size h.2.2⟩
theorem NewR.ext {e : TypeId} {s n : Nat} {w0 w' : World} {v : Value} {cs : List Value} (h : NewR e s w0 w v n cs) (hx : Ext [] w w') : NewR e s w0 w' v n cs := ⟨h.1.trans hx, h.2.1.ext0 hx, h.2.2⟩
theorem NewR.pre {e : TypeId} {s n : Nat} {w0 w1 w' : World} {v : Value} {cs : List Value} (hx : Ext [] w0 w1) (h : NewR e s w1 w' v n cs) : NewR e s w0 w' v n cs := ⟨hx.trans h.1, h.2.1, fun b hb => Nat.le_trans hx.size (h.2.2 b hb)⟩
theorem NewR.nil {e : TypeId} {s : Nat} {w0 : World} (hx : Ext [] w0 w) : NewR e s w0 w (.slice none 0 0) 0 [] := ⟨hx, Own.nil, by simp [blk, Value.ownBlock]⟩
theorem cell_sets_b {b b' o o' : Nat} {l : List Value} (h : b' ≠ b) : (w.setCells b o l).cell? ⟨b', o', none⟩ = w.cell? ⟨b', o', none⟩ := setCells_other l w b o (fun i _ e => h (congrArg Addr.block e))
theorem frozen_sets {b o : Nat} {l : List Value} {a : Addr} : (w.setCells b o l).frozen? a = w.frozen? a := setCells_frozen l w b o
theorem size_sets {b : Nat} : ∀ {l : List Value} {w : World} {o : Nat}, (w.setCells b o l).heap.size = w.heap.size
  | [], w, o => rfl
  | v :: l, w, o => by rw [setCells_c, size_sets (l := l), World.size_setCell]
theorem beq_tt : (true == true) = true := id rfl
theorem beq_ff : (false == false) = true := id rfl
theorem beq_tf : (true == false) = false := id rfl
theorem beq_ft : (false == true) = false := id rfl
theorem xMakeFunc_r {fn : Fn} {a b : List Value} : xMakeFunc P fn a b w K = K (.func fn a.toArray b.toArray) w := propext ⟨fun h => h.out, fun h => ⟨h⟩⟩
theorem strOf_size {l : List (BitVec 8)} : (strOf l).size = l.length := by simp [strOf, ByteArray.size]
/-! ### equality of structs in structs -/
/-! ### structs that came in: their cells -/
/-- a cell that came in: a number, a truth value, a row of numbers, a string -/
inductive Leaf where
  | int (k : IntKind)
  | bool
  | row (k : IntKind)
  | str
def leavesF (P : Program) (ih : TypeId → Option (List Leaf)) (fs : List Field) : Nat → Option (List Leaf) :=
  List.rec (motive := fun _ => Nat → Option (List Leaf)) (fun _ => some []) (fun f _ rec o => if f.offset = o then (match ih f.type with
    | some l => if l.length = P.cellsOf f.type then (match rec (o + l.length) with | some r => some (l ++ r) | none => none) else none
    | none => none) else none) fs
def leaves (P : Program) (n : Nat) : TypeId → Option (List Leaf) :=
  Nat.rec (motive := fun _ => TypeId → Option (List Leaf)) (fun _ => none) (fun _ ih t => match P.underlying t with
    | some (.int k) => some [.int k]
    | some .bool => some [.bool]
    | some .string => some [.str]
    | some (.slice e) => (match P.underlying e with | some (.int k) => if P.cellsOf e = 1 then some [.row k] else none | _ => none)
    | some (.struct fs) => (match leavesF P ih fs.toList 0 with | some l => if l.length = P.cellsOf t then some l else none | none => none)
    | _ => none) n
def leafOk (W : World) (d : Leaf) (c : Value) : Prop := match d with
  | .int k => ∃ z, c = .int k z ∧ (Lit.int k z).wf = true
  | .bool => ∃ b, c = .bool b
  | .str => ∃ b, c = .string b
  | .row k => ∃ a n c', ∃ zs : List Int, c = .slice a n c' ∧ n = zs.length ∧ n ≤ c' ∧ c' ≤ maxLen ∧ (a = none → c' = 0) ∧ RowAt W a (zs.map (Value.int k)) ∧ ∀ z ∈ zs, (Lit.int k z).wf = true
theorem leaves_ok {H : Type} {enc : TypeId × Value → H} {W : World} {base : Nat} : ∀ (n : Nat) (t : TypeId) (fuel : Nat) (cs : List Value) (x : DataW H × List MemPlace) (l : List Leaf), leaves P n t = some l →
    DataW.trod enc P W base (fun _ => true) true fuel t cs = some x → cs.length = l.length ∧ ∀ (i : Nat) (d : Leaf) (c : Value), l[i]? = some d → cs[i]? = some c → leafOk W d c
  | 0, _, _, _, _, _, h, _ => by cases h
  | n + 1, t, fuel, cs, x, l, h, hf => by
    have h' : (match (generalizing := false) P.underlying t with
      | some (.int k) => some [.int k]
      | some .bool => some [.bool]
      | some .string => some [.str]
      | some (.slice e) => (match P.underlying e with | some (.int k) => if P.cellsOf e = 1 then some [.row k] else none | _ => none)
      | some (.struct fs) => (match leavesF P (leaves P n) fs.toList 0 with | some l => if l.length = P.cellsOf t then some l else none | none => none)
      | _ => none) = some l := h
    cases hu : P.underlying t with
    | none => rw [hu] at h'; cases h'
    | some u =>
      rw [hu] at h'
      cases u <;> try (cases h'; done)
      case int k =>
        cases h'
        obtain ⟨z, rfl, _, hz⟩ := DataW.trod_int hu hf
        refine ⟨rfl, fun i d c h1 h2 => ?_⟩
        cases i with
        | zero => simp at h1 h2; subst h1 h2; exact ⟨z, rfl, hz⟩
        | succ i => simp at h1
      case bool =>
        cases h'
        obtain ⟨z, rfl, _⟩ := DataW.trod_bool hu hf
        refine ⟨rfl, fun i d c h1 h2 => ?_⟩
        cases i with
        | zero => simp at h1 h2; subst h1 h2; exact ⟨z, rfl⟩
        | succ i => simp at h1
      case string =>
        cases h'
        obtain ⟨z, rfl, _⟩ := DataW.trod_string hu hf
        refine ⟨rfl, fun i d c h1 h2 => ?_⟩
        cases i with
        | zero => simp at h1 h2; subst h1 h2; exact ⟨z, rfl⟩
        | succ i => simp at h1
      case slice e =>
        simp only at h'
        cases he : P.underlying e with
        | none => rw [he] at h'; cases h'
        | some u =>
          rw [he] at h'
          cases u <;> try (cases h'; done)
          rename_i k
          simp only at h'
          split at h'
          · rename_i hce
            cases h'
            obtain ⟨a, m, c, zs, rfl, q1, q2, q3, q4, q5, q6⟩ := trod_row hu he hce hf
            refine ⟨rfl, fun i d c h1 h2 => ?_⟩
            cases i with
            | zero => simp at h1 h2; subst h1 h2; exact ⟨a, m, _, zs, rfl, q1, q2, q3, q4, q5, q6⟩
            | succ i => simp at h1
          · cases h'
      case struct fs =>
        simp only at h'
        cases hl : leavesF P (leaves P n) fs.toList 0 with
        | none => rw [hl] at h'; cases h'
        | some l0 =>
          rw [hl] at h'
          simp only at h'
          split at h'
          · rename_i hlen
            cases h'
            obtain ⟨xs, m, _, _, hcs, hxs, hall⟩ := DataW.trod_struct hu hf
            refine ⟨by rw [hcs, hlen], ?_⟩
            have key : ∀ (fl : List Field) (o j : Nat) (l : List Leaf), (∀ i f, fl[i]? = some f → fs[j + i]? = some f) → leavesF P (leaves P n) fl o = some l → ∀ (i : Nat) (d : Leaf) (c : Value), l[i]? = some d → cs[o + i]? = some c → leafOk W d c := by
              intro fl
              induction fl with
              | nil => intro o j l _ hl i d c h1; cases hl; simp at h1
              | cons f fl ih =>
                intro o j l hfs hl i d c h1 h2
                have hl' : (if f.offset = o then (match leaves P n f.type with
                  | some l => if l.length = P.cellsOf f.type then (match leavesF P (leaves P n) fl (o + l.length) with | some r => some (l ++ r) | none => none) else none
                  | none => none) else none) = some l := hl
                split at hl'
                · rename_i ho
                  cases hlf : leaves P n f.type with
                  | none => rw [hlf] at hl'; cases hl'
                  | some lf =>
                    rw [hlf] at hl'
                    simp only at hl'
                    split at hl'
                    · rename_i hc
                      cases hr : leavesF P (leaves P n) fl (o + lf.length) with
                      | none => rw [hr] at hl'; cases hl'
                      | some r =>
                        rw [hr] at hl'
                        cases hl'
                        have hf0 : fs[j]? = some f := by simpa using hfs 0 f rfl
                        have hj : j < xs.length := by rw [hxs]; exact (Array.getElem?_eq_some_iff.1 hf0).1
                        have h3 := hall j f hf0
                        rw [List.getElem?_eq_getElem hj] at h3
                        obtain ⟨h4, h5⟩ := leaves_ok n f.type _ _ _ lf hlf h3
                        by_cases hi : i < lf.length
                        · rw [List.getElem?_append_left hi] at h1
                          refine h5 i d c h1 ?_
                          rw [List.getElem?_take, if_pos (by omega), List.getElem?_drop, ho]
                          exact h2
                        · rw [List.getElem?_append_right (by omega)] at h1
                          refine ih (o + lf.length) (j + 1) r (fun i' f' hf' => by have := hfs (i' + 1) f' (by simpa using hf'); rwa [Nat.add_assoc, Nat.add_comm 1 i']) hr (i - lf.length) d c h1 ?_
                          rw [show o + lf.length + (i - lf.length) = o + i by omega]
                          exact h2
                    · cases hl'
                · cases hl'
            intro i d c h1 h2
            exact key fs.toList 0 0 _ (fun i f hf => by simpa using hf) hl i d c h1 (by simpa using h2)
          · cases h'
theorem flat_map {α : Type} {n : Nat} {C : Nat → List Value} {f : α → List Value} {X : Nat → α} (h : ∀ i, i < n → C i = f (X i)) : (List.range n).flatMap C = ((List.range n).map X).flatMap f := by
  rw [List.flatMap_map]
  have : ∀ l : List Nat, (∀ i ∈ l, i < n) → l.flatMap C = l.flatMap fun i => f (X i) := by
    intro l
    induction l with
    | nil => intro _; rfl
    | cons i l ih => intro hl; rw [List.flatMap_cons, List.flatMap_cons, ih fun j hj => hl j (List.mem_cons_of_mem _ hj), h i (hl i (List.mem_cons_self ..))]
  exact this _ fun i hi => List.mem_range.1 hi
end
end Go.Sh
