/- Rows of bytes of a fixed length: as values, in memory, cut; strings that are cut. -/
import Derived.Test.YtdpmidgeipibbaaEng16
import Derived.ChangeKeysEq
set_option linter.unusedVariables false
set_option linter.unusedSimpArgs false
namespace Go.Sh
open Go.RowKit
noncomputable section
variable {P : Program} {w : World} {K : K1} {t tx ty e : TypeId}

theorem xLoad_arr {g : Nat} {e' : TypeId} {cs : List Value} (h : aggN P t = some cs.length) (B : Blk w g e' cs) : xLoad P t (.pointer (some ⟨g, 0, none⟩)) w K = K (.agg cs.toArray) w :=
  xLoad_agg h fun j v hj => by rw [addr_add, B.cell, Nat.zero_add]; exact hj
theorem xLoadR_arr {g : Nat} {e' : TypeId} {cs : List Value} {k : Value → Prop} (h : aggN P t = some cs.length) (B : Blk w g e' cs) (hk : k (.agg cs.toArray)) : xLoadR P t (.pointer (some ⟨g, 0, none⟩)) w k :=
  xLoadR_agg h (fun j v hj => by rw [addr_add, B.cell, Nat.zero_add]; exact hj) hk
theorem xStore_arr {g : Nat} {e' : TypeId} {old cs : List Value} (h : (P.info? t).map (·.size) = some cs.length) (B : Blk w g e' old) (ho : old.length = cs.length) (h1 : ∀ v ∈ cs, v.oneCell' = true) :
    xStore P t (.pointer (some ⟨g, 0, none⟩)) (.agg cs.toArray) w K = K undef (w.setCells g 0 cs) := by
  rw [xStore_an h (by simp [cells_agg]), storesK_ok]
  · simp only [cells_agg]
  · intro x hx
    obtain ⟨i, hi, rfl⟩ := List.mem_map.1 hx
    have hi' : i < cs.length := List.mem_range.1 hi
    refine ⟨by rw [B.cell]; simp; omega, B.frozen, ?_⟩
    simp only [cells_agg]
    rw [show cs.toArray[i]? = some cs[i] by simp [hi']]
    exact h1 _ (List.getElem_mem hi')
theorem Blk.put {g : Nat} {e' : TypeId} {old cs : List Value} (B : Blk w g e' old) (ho : old.length = cs.length) : Blk (w.setCells g 0 cs) g e' cs := by
  have := B.sets (l := cs) (o := 0) (by omega)
  simpa [← ho] using this
theorem xSlice_arr {n : Nat} {a : Addr} (ht : P.underlying t = some (.array (P.arrayLen t) (P.elem t))) (hn : P.arrayLen t = n) (hs : (P.info? (P.elem t)).map (·.size) = some 1) (h0 : n ≠ 0) :
    xSlice P t (.pointer (some a)) none none none w K = K (.slice (some a) n n) w := by
  have hr := run_sliceAt_array_all (P := P) w t a ht
  have : (Instr.sliceAt t (.pointer (some a)) none none none).run P w = .ok (.slice (some a) n n) w := by
    rw [hr]
    cases hq : P.info? (P.elem t) with
    | none => rw [hq] at hs; cases hs
    | some i =>
      have hi : i.size = 1 := by simpa [hq] using hs
      simp [sizeOf, typeInfo, hq, hi, slicedAt, hn, Ne.symm h0, h0, Addr.add]
  exact propext ⟨fun hx => by have hx := hx.out; rw [this] at hx; exact hx, fun hx => ⟨by rw [this]; exact hx⟩⟩
theorem eqA_items (d : Nat) {e : TypeId} (he : P.underlying e = some (.int .u8)) (hc : P.cellsOf e = 1) : ∀ (is : List Nat) (xs ys : List (BitVec 8)), (∀ i ∈ is, i < xs.length ∧ i < ys.length) →
    (Op.eqItems (d + 1) e (P.cellsOf e) (bys xs).toArray (bys ys).toArray is).run P w = .ok (decide (∀ i ∈ is, xs[i]? = ys[i]?)) w := by
  intro is
  induction is with
  | nil => intro xs ys h; simp [Op.eqItems]
  | cons i is ih =>
    intro xs ys h
    obtain ⟨h1, h2⟩ := h i (by simp)
    have pt : ∀ zs : List (BitVec 8), (hz : i < zs.length) → (part e (bys zs).toArray (i * P.cellsOf e)).run P w = .ok (u8 zs[i]) w := fun zs hz => run_partT (by
      unfold partT
      rw [he, hc]
      simp [hz])
    have eq : (Op.equalIn (d + 1) e (u8 xs[i]) (u8 ys[i])).run P w = .ok (decide (xs[i]? = ys[i]?)) w := by
      rw [run_equalIn_int w d e _ .u8 _ _ he]
      congr 1
      rw [List.getElem?_eq_getElem h1, List.getElem?_eq_getElem h2]
      by_cases q : xs[i] = ys[i]
      · rw [q]; simp
      · have : ((xs[i].toNat : Int) == (ys[i].toNat : Int)) = false := by
          simp only [beq_eq_false_iff_ne, ne_eq]
          intro hq
          exact q (BitVec.eq_of_toNat_eq (by omega))
        rw [this]
        simp [q]
    simp only [Op.eqItems, Sem.run_bind, pt xs h1, pt ys h2, Result.andThen_ok, eq]
    by_cases q : xs[i]? = ys[i]?
    · rw [decide_eq_true q]
      simp only [Bool.not_true, Bool.false_eq_true, if_false]
      rw [ih xs ys fun j hj => h j (by simp [hj])]
      simp [q]
    · rw [decide_eq_false q]
      simp [q]
theorem xBin_eqA {n : Nat} {xs ys : List (BitVec 8)} {cx cy : Bool} (hu : P.underlying t = some (.array n e)) (he : P.underlying e = some (.int .u8)) (hc : P.cellsOf e = 1) (hi : (P.info? e).isSome = true) (hm : P.eqGuardType P.depth t = false) (hx : xs.length = n) (hy : ys.length = n) :
    xBin P .eql t cx (.agg (bys xs).toArray) cy (.agg (bys ys).toArray) w K = K (.bool (decide (xs = ys))) w := by
  obtain ⟨i, hi⟩ := Option.isSome_iff_exists.1 hi
  have hd : Op.equalIn 10000 t (.agg (bys xs).toArray) (.agg (bys ys).toArray) = Op.equalIn (9999 + 1) t (.agg (bys xs).toArray) (.agg (bys ys).toArray) := rfl
  refine xBin_ok ?_
  rw [Sem.run_bind, run_eqGuard_agg _ _ _ _ _ _ _ hm, Result.andThen_ok, run_eql_struct, hd, run_equalIn_array w 9999 _ _ hu hi]
  have := eqA_items (P := P) (w := w) 9998 he hc (List.range n) xs ys (by simp [hx, hy])
  rw [this, Result.andThen_ok]
  congr 2
  rw [Bool.eq_iff_iff, decide_eq_true_eq, decide_eq_true_eq]
  constructor
  · intro h
    refine List.ext_getElem? fun i => ?_
    by_cases hi : i < n
    · exact h i (by simpa using hi)
    · rw [List.getElem?_eq_none (by omega), List.getElem?_eq_none (by omega)]
  · rintro rfl
    intro i _
    rfl
theorem strOf_take {l : List (BitVec 8)} {n : Nat} (h : n ≤ l.length) : (strOf l).extract 0 n = strOf (l.take n) := by
  unfold strOf
  rw [ByteArray.extract_mk]
  simp [List.map_take]
theorem strOf_drop {l : List (BitVec 8)} {n : Nat} (h : n ≤ l.length) : (strOf l).extract n (strOf l).size = strOf (l.drop n) := by
  rw [strOf_size]
  unfold strOf
  rw [ByteArray.extract_mk, List.map_drop]
  congr 2
  rw [List.take_of_length_le]
  simp
theorem xSlice_sh {k : IntKind} {l : List (BitVec 8)} {h : Int} (ht : P.underlying t = some .string) (h0 : 0 ≤ h) (h1 : h ≤ l.length) :
    xSlice P t (.string (strOf l)) none (some (.int k h)) none w K = K (.string (strOf (l.take h.toNat))) w := by
  have hr := run_slice_string_h (P := P) w t (strOf l) ht k h h0 (by rw [strOf_size]; exact h1)
  rw [strOf_take (by omega)] at hr
  have : (Instr.sliceAt t (.string (strOf l)) none (some (.int k h)) none).run P w = .ok (.string (strOf (l.take h.toNat))) w := by
    rw [run_sliceAt_string w t _ _ _ _ ht, hr]
  exact propext ⟨fun hx => by have hx := hx.out; rw [this] at hx; exact hx, fun hx => ⟨by rw [this]; exact hx⟩⟩
theorem xSlice_sl {k : IntKind} {l : List (BitVec 8)} {h : Int} (ht : P.underlying t = some .string) (h0 : 0 ≤ h) (h1 : h ≤ l.length) :
    xSlice P t (.string (strOf l)) (some (.int k h)) none none w K = K (.string (strOf (l.drop h.toNat))) w := by
  have hr := run_slice_string_l (P := P) w t (strOf l) ht k h h0 (by rw [strOf_size]; exact h1)
  rw [strOf_drop (by omega)] at hr
  have : (Instr.sliceAt t (.string (strOf l)) (some (.int k h)) none none).run P w = .ok (.string (strOf (l.drop h.toNat))) w := by
    rw [run_sliceAt_string w t _ _ _ _ ht, hr]
  exact propext ⟨fun hx => by have hx := hx.out; rw [this] at hx; exact hx, fun hx => ⟨by rw [this]; exact hx⟩⟩
end
end Go.Sh
