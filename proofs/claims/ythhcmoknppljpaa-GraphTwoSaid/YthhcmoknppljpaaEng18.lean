/- An append of nothing to a row that is only read; a row of one's own without its last. -/
import Derived.Test.YthhcmoknppljpaaEng17
import Derived.ArgAppend
namespace Go.Sh
open Go Go.RowKit
section
variable {P : Program} {w : World} {K : K1} {t e : TypeId}
theorem xApp0 {ty : TypeId} {c1 c2 : Bool} {a : Option Addr} {g o n cap c : Nat} (ht : P.underlying t = some (.slice e)) (hi : (P.info? e).isSome = true) (hn : n ≤ cap) (hac : a = none → c = 0) :
    xBuiltin P .append #[t, t] ty [c1, c2] [.slice (some ⟨g, o, none⟩) n cap, .slice a 0 c] w K = K (.slice (some ⟨g, o, none⟩) n cap) w := by
  cases hq : P.info? e with
  | none => rw [hq] at hi; cases hi
  | some i =>
    cases a with
    | none =>
      have : (Builtin.append_ #[t, t] ty #[.slice (some ⟨g, o, none⟩) n cap, .slice none 0 c]).run P w = .ok (.slice (some ⟨g, o, none⟩) n cap) w := by
        simp [Builtin.append_, run_underlying ht, sizeOf, typeInfo, hq, Builtin.lenOf, Builtin.firstCells, hn, storeCells]
      rw [xBuiltin_okv (v := .slice (some ⟨g, o, none⟩) n cap) (w' := w) (by simp [builtin, this])]
    | some a =>
      have := run_append_room_cells (P := P) w t ty e i ht hq g o n cap a 0 c [] (by simp) (by simp) (by simp) (by omega) (by simp) (by simp)
      simp only [Nat.add_zero] at this
      have h2 : w.setCells g (o + n * i.size) [] = w := rfl
      rw [h2] at this
      rw [xBuiltin_okv (v := .slice (some ⟨g, o, none⟩) n cap) (w' := w) (by simp [builtin, this])]
/-- one's own row, but for its last -/
theorem Own.pop {n : Nat} {v : Value} {cs : List Value} (h : Own w e 1 v (n + 1) cs) : ∃ a c, v = .slice (some a) (n + 1) c ∧ Own w e 1 (.slice (some a) n c) n (cs.take n) ∧ blk (.slice (some a) n c) = blk v := by
  obtain ⟨g, cap, rest, rfl, hB, hnc, hcm, hl⟩ := h.open (by omega)
  have hlen := h.len
  refine ⟨⟨g, 0, none⟩, cap, rfl, Own.close (rest := cs.drop n ++ rest) ?_ (by omega) hcm ?_ ?_, rfl⟩
  · rw [← List.append_assoc, List.take_append_drop]
    exact hB
  · rw [← List.append_assoc, List.take_append_drop]
    exact hl
  · rw [List.length_take]
    omega
end
end Go.Sh
