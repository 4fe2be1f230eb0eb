/- Rows of bytes of one's own (sq). -/
import Derived.Test.YtknineilpenbnaaDoorRules
import Derived.Test.YtknineilpenbnaaDoorEng14
set_option linter.unusedVariables false
set_option linter.unusedSimpArgs false
set_option maxHeartbeats 4000000
namespace Go.Proofs.YtknineilpenbnaaDoor
open Go.Sh Go.RowKit

abbrev OwnB (w : World) (v : Value) (l : List (BitVec 8)) : Prop := Own w 5 1 v l.length (bys l)
abbrev NewB (w w' : World) (u : Value) (l : List (BitVec 8)) : Prop := NewR 5 1 w w' u l.length (bys l)
theorem bys_one (l : List (BitVec 8)) : ∀ u ∈ bys l, u.oneCell' = true := by simp [Value.oneCell']
theorem appB {w : World} {K : K1} {v : Value} {l m : List (BitVec 8)} {a : Option Addr} {k c : Nat} (hO : OwnB w v l) (hm : k = m.length) (hs : RowAt w a (bys m)) (hnil : a = none → c = 0) (hmc : k ≤ c) (hl : l.length + m.length ≤ 4000000)
    (hK : ∀ v' w', OwnB w' v' (l ++ m) → Stp (blk v) (blk v') w w' → K v' w') : xBuiltin Tryd.prog .append #[22, 22] 22 [false, false] [v, .slice a k c] w K := by
  subst hm
  refine xApp (bytes := 1) (z := .int .u8 0) (by kernel_rfl) (by kernel_rfl) (by rfl) (by decide) hO (by simp) hs hnil hmc (bys_one m) (by omega) (by omega) fun v' w' h1 h2 => hK v' w' ?_ h2
  show Own w' 5 1 v' (l ++ m).length (bys (l ++ m))
  rw [List.length_append, bys, List.map_append]
  exact h1
theorem appBo {w : World} {K : K1} {v u : Value} {l m : List (BitVec 8)} (hO : OwnB w v l) (hs : OwnB w u m) (hl : l.length + m.length ≤ 4000000)
    (hK : ∀ v' w', OwnB w' v' (l ++ m) → Stp (blk v) (blk v') w w' → K v' w') : xBuiltin Tryd.prog .append #[22, 22] 22 [false, false] [v, u] w K := by
  obtain ⟨a, c, rfl, hc, _, hn, hr, _⟩ := hs.slice
  exact appB hO rfl hr hn hc hl hK
theorem appBl {w : World} {K : K1} {v : Value} {l m : List (BitVec 8)} {k g : Nat} {cs : List Value} (hO : OwnB w v l) (hcs : cs = bys m) (hk : k = m.length) (hl : l.length + m.length ≤ 4000000)
    (hK : ∀ v' w', OwnB w' v' (l ++ m) → Stp (blk v) (blk v') w w' → K v' w') (hg : g = w.heap.size := by first | rfl | (simp only [World.size_alloc, World.size_drew, World.size_setCell] <;> omega)) : xBuiltin Tryd.prog .append #[22, 22] 22 [false, false] [v, .slice (some ⟨g, 0, none⟩) k k] (w.alloc (.cells cs.toArray 5)) K := by
  subst hcs hk hg
  refine xAppL (bytes := 1) (z := .int .u8 0) (by kernel_rfl) (by kernel_rfl) (by rfl) (by decide) hO (by simp) (bys_one m) (by omega) (by omega) fun v' w' h1 h2 => hK v' w' ?_ h2
  show Own w' 5 1 v' (l ++ m).length (bys (l ++ m))
  rw [List.length_append, bys, List.map_append]
  exact h1
/-- onto a row without room -/
theorem appBg {w : World} {K : K1} {l m : List (BitVec 8)} {b a : Option Addr} {n k c cap : Nat} (hr : RowAt w b (bys l)) (hn : n = l.length) (hb : b ≠ none) (hcap : cap < n + m.length) (hcm : cap ≤ 4000000) (hm : k = m.length) (hk : 0 < k) (hs : RowAt w a (bys m)) (hl : l.length + m.length ≤ 4000000)
    (hK : ∀ v' w', NewB w w' v' (l ++ m) → K v' w') : xBuiltin Tryd.prog .append #[22, 22] 22 [false, false] [.slice b n cap, .slice a k c] w K := by
  subst hm hn
  refine xAppG (e := 5) (s := 1) (bytes := 1) (z := .int .u8 0) (by kernel_rfl) (by kernel_rfl) (by rfl) (by decide) hr (by simp) hb hcap (by omega) (by simp) hk hs (by omega) (by omega) fun v' w' h1 => hK v' w' ?_
  show NewR 5 1 w w' v' (l ++ m).length (bys (l ++ m))
  rw [List.length_append, bys, List.map_append]
  exact h1
theorem NewR.toB {w w' : World} {u : Value} {l : List (BitVec 8)} (h : NewB w w' u l) : ∃ a c, u = .slice a l.length c ∧ l.length ≤ c ∧ (a = none → c = 0) ∧ RowAt w' a (bys l) ∧ ∀ x, a = some x → w.heap.size ≤ x.block ∧ x.block < w'.heap.size := by
  obtain ⟨h1, h2, h3⟩ := h
  have hlt := h2.lt
  obtain ⟨a, c, rfl, hc, _, hn, hr, _⟩ := h2.slice
  refine ⟨a, c, rfl, hc, hn, hr, fun x hx => ?_⟩
  subst hx
  exact ⟨h3 x.block (by simp [blk, Value.ownBlock]), hlt x.block (by simp [blk, Value.ownBlock])⟩
theorem strB {w : World} {a : Option Addr} {n c : Nat} {l : List (BitVec 8)} (hn : n = l.length) (h : RowAt w a (bys l)) : ∀ K, xConv Tryd.prog 22 9 (.slice a n c) w K = K (.string (strOf l)) w :=
  fun K => xConv_str (e := 5) (by kernel_rfl) (by kernel_rfl) (by kernel_rfl) hn h
end Go.Proofs.YtknineilpenbnaaDoor
