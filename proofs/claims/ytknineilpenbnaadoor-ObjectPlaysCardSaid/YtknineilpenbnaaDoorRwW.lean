/- Rows of words of one's own (sq). -/
import Derived.Test.YtknineilpenbnaaDoorRules
import Derived.Test.YtknineilpenbnaaDoorEng14
set_option linter.unusedVariables false
set_option linter.unusedSimpArgs false
set_option maxHeartbeats 4000000
namespace Go.Proofs.YtknineilpenbnaaDoor
open Go.Sh Go.RowKit

abbrev OwnU (w : World) (v : Value) (l : List (BitVec 64)) : Prop := Own w 69 1 v l.length (wrds l)
theorem appUn {w : World} {K : K1} {m : List (BitVec 64)} {a : Option Addr} {c g : Nat} (hs : RowAt w a (wrds m)) (hnil : a = none → c = 0) (hmc : m.length ≤ c) (hl : m.length ≤ 100000)
    (hK : ∀ v' w', OwnU w' v' m → Ext [] w w' → (∀ b ∈ blk v', w.heap.size ≤ b) → K v' w') (hg : g = w.heap.size := by first | rfl | (simp only [World.size_alloc, World.size_drew, World.size_setCell] <;> omega)) : xBuiltin Tryd.prog .append #[44, 44] 44 [false, false] [.slice (some ⟨g, 0, none⟩) 0 0, .slice a m.length c] (w.alloc (.cells #[] 69)) K := by
  subst hg
  refine xApp (e := 69) (s := 1) (n := 0) (xs := []) (news := wrds m) (bytes := 8) (z := .int .u64 0) (by kernel_rfl) (by kernel_rfl) (by rfl) (by decide) (Own.lit (cs := []) (m := 0) (by decide) (by rfl)) (by simp) (hs.ext0 (Ext.alloc _ _ _)) hnil hmc (by simp [Value.oneCell']) (by omega) (by omega) fun v' w' h1 h2 => ?_
  simp only [Nat.zero_add, List.nil_append] at h1
  have X : Ext [] w (w.alloc (.cells #[] 69)) := Ext.alloc _ _ _
  have U := h2.up (w0 := w) X.size (by simp [blk, Value.ownBlock])
  exact hK v' w' h1 (h2.new X (by simp [blk, Value.ownBlock])) U
/-- one word of an own row: what a load and a store need -/
theorem OwnU.at {w : World} {v : Value} {l : List (BitVec 64)} {i : Nat} (h : OwnU w v l) (hi : i < l.length) (x : BitVec 64) :
    ∃ g cap, v = .slice (some ⟨g, 0, none⟩) l.length cap ∧ w.cell? ⟨g, i, none⟩ = some (u64 l[i]) ∧ w.frozen? ⟨g, i, none⟩ = false ∧ OwnU (w.setCell ⟨g, i, none⟩ (u64 x)) v (l.set i x) ∧ Ext (blk v) w (w.setCell ⟨g, i, none⟩ (u64 x)) ∧ g < w.heap.size := by
  obtain ⟨g, cap, rest, rfl, hB, hnc, hm, hl⟩ := h.open (by omega)
  have c1 : w.cell? ⟨g, i, none⟩ = some (u64 l[i]) := by rw [hB.cell, List.getElem?_append_left (by simpa using hi)]; simp [hi]
  have B2 := hB.set (i := i) (v := u64 x)
  rw [List.set_append_left _ _ (by simpa using hi)] at B2
  have e2 : (wrds l).set i (u64 x) = wrds (l.set i x) := by simp [wrds, List.map_set]
  rw [e2] at B2
  refine ⟨g, cap, rfl, c1, hB.frozen, ?_, (Ext.set (w := w) (b := g)).more (by simp [blk, Value.ownBlock]), hB.lt⟩
  have := Own.close (n := l.length) (s := 1) B2 hnc hm (by simpa using hl) (by simp)
  show Own _ _ _ _ (l.set i x).length _
  rw [List.length_set]
  exact this
end Go.Proofs.YtknineilpenbnaaDoor
