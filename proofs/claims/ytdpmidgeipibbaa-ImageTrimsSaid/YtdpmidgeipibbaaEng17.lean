/- Rows of bytes of a fixed length: as values, in memory, cut; strings that are cut. -/
import Derived.Test.YtdpmidgeipibbaaEng16
import Derived.ChangeKeysEq
set_option linter.unusedVariables false
set_option linter.unusedSimpArgs false
namespace Go.Sh
open Go.RowKit
noncomputable section
variable {P : Program} {w : World} {K : K1} {t tx ty e : TypeId}

theorem xLoad_arr {g : Nat} {e' : TypeId} {cs : List Value} (h : aggN P t = some cs.length) (B : Blk w g e' cs) : xLoad P t (.pointer (some ⟨g, 0, none⟩)) w K = K (.agg cs.toArray) w :=
  xLoad_agg h fun j v hj => by rw [addr_add, B.cell, Nat.zero_add]; exact hj
theorem xLoadR_arr {g : Nat} {e' : TypeId} {cs : List Value} {k : Value → Prop} (h : aggN P t = some cs.length) (B : Blk w g e' cs) (hk : k (.agg cs.toArray)) : xLoadR P t (.pointer (some ⟨g, 0, none⟩)) w k :=
  xLoadR_agg h (fun j v hj => by rw [addr_add, B.cell, Nat.zero_add]; exact hj) hk
theorem xStore_arr {g : Nat} {e' : TypeId} {old cs : List Value} (h : (P.info? t).map (·.size) = some cs.length) (B : Blk w g e' old) (ho : old.length = cs.length) (h1 : ∀ v ∈ cs, v.oneCell' = true) :
    xStore P t (.pointer (some ⟨g, 0, none⟩)) (.agg cs.toArray) w K = K undef (w.setCells g 0 cs) := by
  rw [xStore_an h (by simp [cells_agg]), storesK_ok]
  · simp only [cells_agg]
  · intro x hx
    obtain ⟨i, hi, rfl⟩ := List.mem_map.1 hx
    have hi' : i < cs.length := List.mem_range.1 hi
    refine ⟨by rw [B.cell]; simp; omega, B.frozen, ?_⟩
    simp only [cells_agg]
    rw [show cs.toArray[i]? = some cs[i] by simp [hi']]
    exact h1 _ (List.getElem_mem hi')
theorem Blk.put {g : Nat} {e' : TypeId} {old cs : List Value} (B : Blk w g e' old) (ho : old.length = cs.length) : Blk (w.setCells g 0 cs) g e' cs := by
  have := B.sets (l := cs) (o := 0) (by omega)
  simpa [← ho] using this
theorem xSlice_arr {n : Nat} {a : Addr} (ht : P.underlying t = some (.array (P.arrayLen t) (P.elem t))) (hn : P.arrayLen t = n) (hs : (P.info? (P.elem t)).map (·.size) = some 1) (h0 : n ≠ 0) :
    xSlice P t (.pointer (some a)) none none none w K = K (.slice (some a) n n) w := by
  have hr := run_sliceAt_array_all (P := P) w t a ht
  have : (Instr.sliceAt t (.pointer (some a)) none none none).run P w = .ok (.slice (some a) n n) w := by
    rw [hr]
    cases hq : P.info? (P.elem t) with
    | none => rw [hq] at hs; cases hs
    | some i =>
      have hi : i.size = 1 := by simpa [hq] using hs
      simp [sizeOf, typeInfo, hq, hi, slicedAt, hn, Ne.symm h0, h0, Addr.add]
  exact propext ⟨fun hx => by have hx := hx.out; rw [this] at hx; exact hx, fun hx => ⟨by rw [this]; exact hx⟩⟩
theorem strOf_take {l : List (BitVec 8)} {n : Nat} (h : n ≤ l.length) : (strOf l).extract 0 n = strOf (l.take n) := by
  unfold strOf
  rw [ByteArray.extract_mk]
  simp [List.map_take]
theorem strOf_drop {l : List (BitVec 8)} {n : Nat} (h : n ≤ l.length) : (strOf l).extract n (strOf l).size = strOf (l.drop n) := by
  rw [strOf_size]
  unfold strOf
  rw [ByteArray.extract_mk, List.map_drop]
  congr 2
  rw [List.take_of_length_le]
  simp
theorem xSlice_sh {k : IntKind} {l : List (BitVec 8)} {h : Int} (ht : P.underlying t = some .string) (h0 : 0 ≤ h) (h1 : h ≤ l.length) :
    xSlice P t (.string (strOf l)) none (some (.int k h)) none w K = K (.string (strOf (l.take h.toNat))) w := by
  have hr := run_slice_string_h (P := P) w t (strOf l) ht k h h0 (by rw [strOf_size]; exact h1)
  rw [strOf_take (by omega)] at hr
  have : (Instr.sliceAt t (.string (strOf l)) none (some (.int k h)) none).run P w = .ok (.string (strOf (l.take h.toNat))) w := by
    rw [run_sliceAt_string w t _ _ _ _ ht, hr]
  exact propext ⟨fun hx => by have hx := hx.out; rw [this] at hx; exact hx, fun hx => ⟨by rw [this]; exact hx⟩⟩
theorem xSlice_sl {k : IntKind} {l : List (BitVec 8)} {h : Int} (ht : P.underlying t = some .string) (h0 : 0 ≤ h) (h1 : h ≤ l.length) :
    xSlice P t (.string (strOf l)) (some (.int k h)) none none w K = K (.string (strOf (l.drop h.toNat))) w := by
  have hr := run_slice_string_l (P := P) w t (strOf l) ht k h h0 (by rw [strOf_size]; exact h1)
  rw [strOf_drop (by omega)] at hr
  have : (Instr.sliceAt t (.string (strOf l)) (some (.int k h)) none none).run P w = .ok (.string (strOf (l.drop h.toNat))) w := by
    rw [run_sliceAt_string w t _ _ _ _ ht, hr]
  exact propext ⟨fun hx => by have hx := hx.out; rw [this] at hx; exact hx, fun hx => ⟨by rw [this]; exact hx⟩⟩
end
end Go.Sh
