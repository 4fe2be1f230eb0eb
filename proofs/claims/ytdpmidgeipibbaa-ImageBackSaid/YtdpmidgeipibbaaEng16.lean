/- Rows with zeros put behind them; a string's bytes as a row. -/
import Derived.Test.YtdpmidgeipibbaaEng15
import Derived.Laws.IdiomStrings
set_option linter.unusedVariables false
set_option linter.unusedSimpArgs false
namespace Go.Sh
open Go.RowKit
noncomputable section
variable {P : Program} {w : World} {K : K1} {t tx ty e : TypeId}

theorem zeroCells_one (z : Value) (n : Nat) : Builtin.zeroCells #[z] n = (List.replicate n z).toArray := by
  apply Array.ext
  · simp [Builtin.zeroCells]
  · intro j h1 h2
    simp [Builtin.zeroCells, Nat.mod_one]
theorem run_zeros_room {i : TypeInfo} {z zc : Value} (ht : P.underlying t = some (.slice e)) (hk : P.underlying tx = some (.int .i64)) (hi : P.info? e = some i) (hz : i.zero = some z) (hs : i.size = 1) (hzc : z.cells = #[zc]) (h1 : zc.oneCell' = true)
    (b o n c m : Nat) (hroom : n + m ≤ c) (hm : m ≤ 1000000) (hb : i.bytes ≤ 1000) (hc : ∀ j, j < m → (w.cell? ⟨b, o + n + j, none⟩).isSome = true) (hf : ∀ j, j < m → w.frozen? ⟨b, o + n + j, none⟩ = false) :
    (Builtin.append_ #[t, tx] ty #[.slice (some ⟨b, o, none⟩) n c, .int .i64 (m : Int)]).run P w = .ok (.slice (some ⟨b, o, none⟩) (n + m) c) (w.setCells b (o + n) (List.replicate m zc)) := by
  have hst := run_storeCells_cells (P := P) b (o + n) (List.replicate m zc) 0 w (by simpa using hc) (by simpa using hf) (by simp; exact fun _ => h1)
  simp only [Nat.add_zero] at hst
  have hw : IntKind.i64.wrap (m : Int) = (m : Int) := wrap_in (by omega) (by omega)
  have hw0 : IntKind.i64.wrap 0 = 0 := by decide
  have hmb : ¬ (281474976710656 < (m : Int) * (i.bytes : Int)) := by
    have h3 : m * i.bytes ≤ 1000000 * 1000 := Nat.mul_le_mul hm hb
    have h4 : ((m * i.bytes : Nat) : Int) = (m : Int) * (i.bytes : Int) := by simp
    omega
  have hneg : ¬ ((m : Int) < 0) := by omega
  by_cases hm0 : m = 0
  · subst hm0
    have hnc : n ≤ c := by omega
    simp only [List.replicate_zero] at hst ⊢
    simp [Builtin.append_, run_underlying ht, run_underlying hk, sizeOf, typeInfo, zeroValue, hi, hz, hs, asInt, asIntOf, hw, hw0, hnc, hzc, zeroCells_one, Addr.add_lit, hst, Result.andThen]
  · simp [Builtin.append_, run_underlying ht, run_underlying hk, sizeOf, typeInfo, zeroValue, hi, hz, hs, asInt, asIntOf, hw, hw0, hroom, hmb, hneg, hzc, zeroCells_one, Addr.add_lit, hm0, hst, Result.andThen]
theorem run_zeros_grow {i : TypeInfo} {z zc : Value} (ht : P.underlying t = some (.slice e)) (hk : P.underlying tx = some (.int .i64)) (hi : P.info? e = some i) (hz : i.zero = some z) (hs : i.size = 1) (hzc : z.cells = #[zc])
    (base : Option Addr) (n c m : Nat) (olds : List Value) (hold : (Builtin.firstCells 1 n (.slice base n c)).run P w.drew = .ok olds.toArray w.drew) (hroom : c < n + m) (hm : m ≤ 1000000) (hn : n ≤ 1000000) (hb : i.bytes ≤ 1000)
    (hfit : Builtin.nextslicecap (n + m) c * i.bytes ≤ 281474976710656) :
    (Builtin.append_ #[t, tx] ty #[.slice base n c, .int .i64 (m : Int)]).run P w = .ok (.slice (some ⟨w.heap.size, 0, none⟩) (n + m) (grownCap w (n + m) c e)) (w.drew.alloc (.cells (olds ++ List.replicate m zc ++ List.replicate (grownCap w (n + m) c e - (n + m)) zc).toArray e)) := by
  have hw : IntKind.i64.wrap (m : Int) = (m : Int) := wrap_in (by omega) (by omega)
  have hw0 : IntKind.i64.wrap 0 = 0 := by decide
  have hmb : ¬ (281474976710656 < (m : Int) * (i.bytes : Int)) := by
    have h3 : m * i.bytes ≤ 1000000 * 1000 := Nat.mul_le_mul hm hb
    have h4 : ((m * i.bytes : Nat) : Int) = (m : Int) * (i.bytes : Int) := by simp
    omega
  have hneg : ¬ ((m : Int) < 0) := by omega
  have hnr : ¬ (n + m ≤ c) := by omega
  have h63 : ¬ (9223372036854775807 < (n : Int) + (m : Int)) := by omega
  have h48 : ¬ (281474976710656 < Builtin.nextslicecap (n + m) c * i.bytes) := by omega
  by_cases hm0 : m = 0
  · subst hm0
    simp only [Nat.add_zero] at *
    have h63' : ¬ (9223372036854775807 < (n : Int)) := by omega
    simp [Builtin.append_, run_underlying ht, run_underlying hk, sizeOf, typeInfo, zeroValue, hi, hz, hs, asInt, asIntOf, hw, hw0, hnr, h63', h48, hold, hzc, zeroCells_one, Question.forced, newRow, grownCap, Result.andThen]
    congr 2
    apply Array.ext'
    simp
  · simp [Builtin.append_, run_underlying ht, run_underlying hk, sizeOf, typeInfo, zeroValue, hi, hz, hs, asInt, asIntOf, hw, hw0, hnr, h63, h48, hmb, hneg, hold, hzc, zeroCells_one, hm0, Question.forced, newRow, grownCap, Result.andThen]
    congr 2
    apply Array.ext'
    simp
/-- zeros behind a row that may have room -/
theorem xAppZ {c1 c2 : Bool} {bytes g n c m : Nat} {z zc : Value} {xs : List Value} (ht : P.underlying t = some (.slice e)) (hk : P.underlying tx = some (.int .i64)) (hi : (P.info? e).map (fun i => (i.size, i.bytes, i.zero)) = some (1, bytes, some z)) (hzc : z.cells = #[zc]) (h1 : zc.oneCell' = true) (hbb : bytes ≤ 1000)
    (hxn : xs.length = n) (hnc : n ≤ c) (hcell : ∀ j, j < c → (w.cell? ⟨g, j, none⟩).isSome = true) (hfr : ∀ j, j < c → w.frozen? ⟨g, j, none⟩ = false) (hx : ∀ i x, xs[i]? = some x → w.cell? ⟨g, i, none⟩ = some x) (hm : m ≤ 1000000) (hn : n ≤ 1000000)
    (hK : ∀ a' c' w', RowAt w' a' (xs ++ List.replicate m zc) → n + m ≤ c' → (a' = none → c' = 0) → Ext [g] w w' → (∀ z o, a' = some ⟨z, o, none⟩ → z = g ∨ w.heap.size ≤ z) → K (.slice a' (n + m) c') w') :
    xBuiltin P .append #[t, tx] ty [c1, c2] [.slice (some ⟨g, 0, none⟩) n c, .int .i64 (m : Int)] w K := by
  cases hq : P.info? e with
  | none => rw [hq] at hi; cases hi
  | some i =>
    rw [hq] at hi
    simp only [Option.map_some, Option.some.injEq, Prod.mk.injEq] at hi
    obtain ⟨hs, hby, hz⟩ := hi
    have hlen : (xs ++ List.replicate m zc).length = n + m := by simp [hxn]
    by_cases hroom : n + m ≤ c
    · have hr := run_zeros_room (P := P) (w := w) (ty := ty) ht hk hq hz hs hzc h1 g 0 n c m hroom hm (by omega) (fun j hj => hcell _ (by omega)) (fun j hj => hfr _ (by omega))
      rw [xBuiltin_okv (v := .slice (some ⟨g, 0, none⟩) (n + m) c) (w' := w.setCells g (0 + n) (List.replicate m zc)) (by simp [builtin, hr])]
      refine hK _ _ _ (.inr ⟨g, 0, rfl, fun j x hj => ?_⟩) hroom (fun h => by cases h) ((Ext.refl [g] w).sets (.inl (by simp))) (fun z o hz => .inl (by cases hz; rfl))
      by_cases hjn : j < n
      · rw [World.cell?_setCells_out g _ _ _ _ (fun _ _ => .inl (by simp only; omega))]
        rw [List.getElem?_append_left (by omega)] at hj
        have := hx j x hj
        simpa using this
      · rw [List.getElem?_append_right (by omega), hxn] at hj
        have hjm : j - n < (List.replicate m zc).length := (List.getElem?_eq_some_iff.1 hj).1
        have h5 := World.cell?_setCells_in g (List.replicate m zc) (0 + n) w (fun k hk2 => hcell _ (by simp at hk2; omega)) (j - n) hjm
        rw [show 0 + n + (j - n) = 0 + j by omega] at h5
        rw [h5]
        rw [List.getElem?_eq_getElem hjm] at hj
        exact hj
    · have hold := run_firstCells_some (P := P) w.drew 1 n ⟨g, 0, none⟩ n c xs (by rw [hxn, Nat.mul_one]) (fun j x hj => by
        have := hx j x hj
        rw [cell_add, Nat.zero_add]
        exact this)
      have hr := run_zeros_grow (P := P) (w := w) (ty := ty) ht hk hq hz hs hzc (some ⟨g, 0, none⟩) n c m xs hold (by omega) hm hn (by omega) (growslice_fits (by omega) (by rw [hby]; have : (n + m) * bytes ≤ 2000000 * 1000 := Nat.mul_le_mul (by omega) hbb; omega))
      rw [xBuiltin_okv (v := .slice (some ⟨w.heap.size, 0, none⟩) (n + m) (grownCap w (n + m) c e)) (w' := w.drew.alloc (.cells (xs ++ List.replicate m zc ++ List.replicate (grownCap w (n + m) c e - (n + m)) zc).toArray e)) (by simp [builtin, hr])]
      have hB := (Blk.new (e := e) w.drew (xs ++ List.replicate m zc ++ List.replicate (grownCap w (n + m) c e - (n + m)) zc)).row.take (xs ++ List.replicate m zc).length
      rw [List.take_left' rfl] at hB
      refine hK _ _ _ hB (grownCap_ge _ _ _ _) (fun h => by cases h) (((Ext.drew [] w).trans (Ext.alloc _ _ _)).more (by simp)) (fun z o hz => .inr (by cases hz; exact Nat.le_refl _))
theorem xConv_okv {s d : TypeId} {x v : Value} {w' : World} (h : (convert s d x).run P w = .ok v w') : xConv P s d x w K = K v w' :=
  propext ⟨fun hx => by rw [← okV_ok (K := K) h]; exact hx.out, fun hk => ⟨by rw [okV_ok h]; exact hk⟩⟩
/-- a string's bytes, as a row that may have room -/
theorem xConv_sb {src dst : TypeId} {l : List (BitVec 8)} (hs : P.underlying src = some .string) (hd : P.underlying dst = some (.slice e)) (he : P.underlying e = some (.int .u8))
    (hK : ∀ w' cap, Ext [] w w' → w.heap.size < w'.heap.size → l.length ≤ cap → (∀ j, j < cap → (w'.cell? ⟨w.heap.size, j, none⟩).isSome = true) → (∀ j, j < cap → w'.frozen? ⟨w.heap.size, j, none⟩ = false) → (∀ i x, (bys l)[i]? = some x → w'.cell? ⟨w.heap.size, i, none⟩ = some x) → K (.slice (some ⟨w.heap.size, 0, none⟩) l.length cap) w') :
    xConv P src dst (.string (strOf l)) w K := by
  have hr := run_bytes_of_string (P := P) w src dst e (strOf l) hs hd he
  rw [strOf_size] at hr
  rw [xConv_okv hr]
  have hcap := grownCap_ge w l.length 0 e
  generalize grownCap w l.length 0 e = cap at *
  have hbr : bytesRow (strOf l) cap = (bys l ++ List.replicate (cap - l.length) (Value.int .u8 0)).toArray := by
    unfold bytesRow
    rw [strOf_size]
    apply Array.ext'
    simp [strOf, bys, Function.comp_def]
  rw [hbr]
  have hsz : (bys l ++ List.replicate (cap - l.length) (Value.int .u8 0)).toArray.size = cap := by simp; omega
  rw [hsz]
  have hh : (w.drew.alloc (.cells (bys l ++ List.replicate (cap - l.length) (Value.int .u8 0)).toArray e (cap, cap + 1))).heap[w.heap.size]? = some (.cells (bys l ++ List.replicate (cap - l.length) (Value.int .u8 0)).toArray e (cap, cap + 1)) := by
    show (w.heap.push _)[w.heap.size]? = _
    simp
  have hc : ∀ j, (w.drew.alloc (.cells (bys l ++ List.replicate (cap - l.length) (Value.int .u8 0)).toArray e (cap, cap + 1))).cell? ⟨w.heap.size, j, none⟩ = (bys l ++ List.replicate (cap - l.length) (Value.int .u8 0))[j]? := by
    intro j
    unfold World.cell?
    simp only [hh]
    simp
  refine hK _ cap ((Ext.drew [] w).trans (Ext.alloc _ _ _)) (by simp) hcap (fun j hj => ?_) (fun j hj => ?_) (fun i x hx => ?_)
  · rw [hc, List.getElem?_eq_getElem (by simp; omega)]
    rfl
  · unfold World.frozen?
    rw [hh]
    simp
    omega
  · rw [hc, List.getElem?_append_left (by have := (List.getElem?_eq_some_iff.1 hx).1; exact this)]
    exact hx
end
end Go.Sh
