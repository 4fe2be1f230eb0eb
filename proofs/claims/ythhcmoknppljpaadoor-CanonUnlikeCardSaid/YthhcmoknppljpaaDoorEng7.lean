/- Rules: stores, and regions whose order is open. -/
import Derived.Test.YthhcmoknppljpaaDoorEng6
set_option linter.unusedVariables false
set_option linter.unusedSimpArgs false
namespace Go.Sh
open Go.RowKit
noncomputable section
variable {P : Program} {w : World} {K : K1}

/-! ### what a world that has kept another holds -/
theorem Ext.cell_o {w w' : World} {b o : Nat} (h : Ext [] w w') (hb : b < w.heap.size) : w'.cell? ⟨b, o, none⟩ = w.cell? ⟨b, o, none⟩ := h.cell hb (by simp)
theorem Ext.frozen_o {w w' : World} {b o : Nat} (h : Ext [] w w') (hb : b < w.heap.size) : w'.frozen? ⟨b, o, none⟩ = w.frozen? ⟨b, o, none⟩ := World.frozen?_of_block (a := ⟨b, o, none⟩) (h.block b hb (by simp))
theorem Ext.set {w : World} {b o : Nat} {v : Value} : Ext [b] w (w.setCell ⟨b, o, none⟩ v) :=
  ⟨rfl, rfl, rfl, by simp, fun k hk hm => by
    have : ¬ b = k := fun e => hm (by simp [e])
    simp [World.setCell, Array.getElem?_modify, this]⟩
theorem Ext.cut {M N : List Nat} {a b c : World} (h : Ext M a b) (k : Ext N b c) (hN : ∀ x ∈ N, x ∈ M ∨ a.heap.size ≤ x) : Ext M a c :=
  ⟨k.os.trans h.os, k.tape.trans h.tape, k.output.trans h.output, Nat.le_trans h.size k.size, fun i hi hm =>
    (k.block i (Nat.lt_of_lt_of_le hi h.size) fun hn => (hN i hn).elim hm (fun h => Nat.not_lt.2 h hi)).trans (h.block i hi hm)⟩
theorem Ext.set' {M : List Nat} {a w : World} {b o : Nat} {v : Value} (h : Ext M a w) (hb : b ∈ M ∨ a.heap.size ≤ b) : Ext M a (w.setCell ⟨b, o, none⟩ v) :=
  h.cut Ext.set (by intro x hx; simp at hx; subst hx; exact hb)
theorem Ext.alloc' {M : List Nat} {a w : World} (h : Ext M a w) (o : Obj) : Ext M a (w.alloc o) := h.trans (Ext.alloc M w o)
theorem Ext.drew' {M : List Nat} {a w : World} (h : Ext M a w) : Ext M a w.drew := h.trans (Ext.drew M w)
theorem Ext.more {M N : List Nat} {a w : World} (h : Ext M a w) (hs : ∀ x ∈ M, x ∈ N) : Ext N a w := ⟨h.os, h.tape, h.output, h.size, fun k hk hm => h.block k hk fun h => hm (hs k h)⟩
theorem Ext.new {a w c : World} {N : List Nat} (h : Ext [] a w) (k : Ext N w c) (hN : ∀ x ∈ N, a.heap.size ≤ x) : Ext [] a c := h.cut k fun x hx => .inr (hN x hx)

/-! ### stores -/
def storesK (P : Program) (t : TypeId) (a : Addr) (v : Value) (w : World) (K : K1) : List (Option Value × Bool × Bool) → Prop
  | [] => K undef (w.setCells a.block a.off v.cells.toList)
  | (some _, false, true) :: l => storesK P t a v w K l
  | _ => xStore P t (.pointer (some a)) v w K
theorem storesK_s {t : TypeId} {a : Addr} {v u : Value} {l : List (Option Value × Bool × Bool)} : storesK P t a v w K ((some u, false, true) :: l) = storesK P t a v w K l := id rfl
theorem storesK_n {t : TypeId} {a : Addr} {v : Value} : storesK P t a v w K [] = K undef (w.setCells a.block a.off v.cells.toList) := id rfl
theorem storesK_all {t : TypeId} {a : Addr} {v : Value} : ∀ l : List (Option Value × Bool × Bool), ((∀ x ∈ l, x.1.isSome = true ∧ x.2.1 = false ∧ x.2.2 = true) ∧ storesK P t a v w K l = K undef (w.setCells a.block a.off v.cells.toList)) ∨
    storesK P t a v w K l = xStore P t (.pointer (some a)) v w K
  | [] => .inl ⟨by simp, rfl⟩
  | (none, _, _) :: l => .inr rfl
  | (some u, true, _) :: l => .inr rfl
  | (some u, false, false) :: l => .inr rfl
  | (some u, false, true) :: l => by
    rcases storesK_all (t := t) (a := a) (v := v) l with ⟨h1, h2⟩ | h
    · exact .inl ⟨fun x hx => by
        rcases List.mem_cons.1 hx with rfl | hx
        · exact ⟨rfl, rfl, rfl⟩
        · exact h1 x hx, h2⟩
    · exact .inr h
theorem xStore_an {t : TypeId} {b o n : Nat} {v : Value} (h : (P.info? t).map (·.size) = some n) (hv : v.cells.size = n) :
    xStore P t (.pointer (some ⟨b, o, none⟩)) v w K = storesK P t ⟨b, o, none⟩ v w K ((List.range n).map fun i => (w.cell? ⟨b, o + i, none⟩, w.frozen? ⟨b, o + i, none⟩, (v.cells[i]?.getD undef).oneCell')) := by
  rcases storesK_all (P := P) (w := w) (K := K) (t := t) (a := ⟨b, o, none⟩) (v := v) ((List.range n).map fun i => (w.cell? ⟨b, o + i, none⟩, w.frozen? ⟨b, o + i, none⟩, (v.cells[i]?.getD undef).oneCell')) with ⟨h1, h2⟩ | h'
  · rw [h2]
    have hx : ∀ i, i < n → (w.cell? ⟨b, o + i, none⟩).isSome = true ∧ w.frozen? ⟨b, o + i, none⟩ = false ∧ (v.cells[i]?.getD undef).oneCell' = true := fun i hi => h1 _ (List.mem_map.2 ⟨i, by simpa using hi, rfl⟩)
    have hl : v.cells.toList.length = n := by simp [hv]
    have := run_storeCells_cells (P := P) b o v.cells.toList 0 w (fun j hj => (hx j (by omega)).1) (fun j hj => (hx j (by omega)).2.1) (fun x hm => by
      obtain ⟨i, hi, he⟩ := List.getElem_of_mem hm
      have := (hx i (by omega)).2.2
      rw [show v.cells[i]? = some x by rw [← he]; simp at hi ⊢] at this
      exact this)
    refine xStore_ok (u := ()) ?_
    cases hq : P.info? t with
    | none => simp [hq] at h
    | some i =>
      have hs : i.size = n := by simpa [hq] using h
      simpa [Instr.storeAt, Instr.sureAddr, storeVar, sizeOf, typeInfo, hq, hv, hs] using this
  · rw [h']
theorem cell_drew {w : World} {a : Addr} : w.drew.cell? a = w.cell? a := id rfl
theorem frozen_drew {w : World} {a : Addr} : w.drew.frozen? a = w.frozen? a := id rfl
theorem cell_set_eq {w : World} {a : Addr} {v : Value} : (w.setCell a v).cell? a = (w.cell? a).map fun _ => v := by
  cases h : w.cell? a with
  | some u => rw [World.cell?_setCell_same _ _ _ h]; rfl
  | none =>
    simp only [World.cell?, World.setCell, Array.getElem?_modify] at h ⊢
    cases hh : w.heap[a.block]? with
    | none => simp
    | some o =>
      rw [hh] at h
      cases o <;> simp_all
theorem cell_set_o {w : World} {b o o' : Nat} {v : Value} (h : o ≠ o') : (w.setCell ⟨b, o, none⟩ v).cell? ⟨b, o', none⟩ = w.cell? ⟨b, o', none⟩ := World.cell?_setCell_other _ _ _ _ (by simp [h])
theorem cell_set_b {w : World} {b b' o o' : Nat} {v : Value} (h : b ≠ b') : (w.setCell ⟨b, o, none⟩ v).cell? ⟨b', o', none⟩ = w.cell? ⟨b', o', none⟩ := World.cell?_setCell_other _ _ _ _ (by simp [h])
theorem cells_int {k : IntKind} {n : Int} : Value.cells (.int k n) = #[.int k n] := id rfl
theorem cells_bool {b : Bool} : Value.cells (.bool b) = #[.bool b] := id rfl
theorem cells_string {b : ByteArray} : Value.cells (.string b) = #[.string b] := id rfl
theorem cells_slice {a : Option Addr} {n c : Nat} : Value.cells (.slice a n c) = #[.slice a n c] := id rfl
theorem cells_pointer {a : Option Addr} : Value.cells (.pointer a) = #[.pointer a] := id rfl
theorem cells_agg {c : Array Value} : Value.cells (.agg c) = c := id rfl
theorem one_int {k : IntKind} {n : Int} : Value.oneCell' (.int k n) = true := id rfl
theorem one_bool {b : Bool} : Value.oneCell' (.bool b) = true := id rfl
theorem one_string {b : ByteArray} : Value.oneCell' (.string b) = true := id rfl
theorem one_slice {a : Option Addr} {n c : Nat} : Value.oneCell' (.slice a n c) = true := id rfl
theorem one_pointer {a : Option Addr} : Value.oneCell' (.pointer a) = true := id rfl
theorem setCells_c {w : World} {b o : Nat} {v : Value} {l : List Value} : w.setCells b o (v :: l) = (w.setCell ⟨b, o, none⟩ v).setCells b (o + 1) l := id rfl
theorem setCells_n {w : World} {b o : Nat} : w.setCells b o [] = w := id rfl

/-! ### regions whose order is open -/
/-- what such a region may leave: all but some blocks as they were, and what is held stays held -/
structure Lq (M : List Nat) (L : List (Addr × Value)) (w w' : World) : Prop where
  ext : Ext M w w'
  held : ∀ x ∈ L, w.cell? x.1 = some x.2 → w'.cell? x.1 = some x.2
  shape : ∀ b o, b < w.heap.size → (w'.cell? ⟨b, o, none⟩).isSome = (w.cell? ⟨b, o, none⟩).isSome ∧ w'.frozen? ⟨b, o, none⟩ = w.frozen? ⟨b, o, none⟩
theorem Lq.refl (M : List Nat) (L : List (Addr × Value)) (w : World) : Lq M L w w := ⟨Ext.refl M w, fun _ _ => id, fun _ _ _ => ⟨rfl, rfl⟩⟩
theorem Lq.trans {M : List Nat} {L : List (Addr × Value)} {a b c : World} (h : Lq M L a b) (k : Lq M L b c) : Lq M L a c :=
  ⟨h.ext.trans k.ext, fun x hx => k.held x hx ∘ h.held x hx, fun i o hi => ⟨(k.shape i o (Nat.lt_of_lt_of_le hi h.ext.size)).1.trans (h.shape i o hi).1, (k.shape i o (Nat.lt_of_lt_of_le hi h.ext.size)).2.trans (h.shape i o hi).2⟩⟩
theorem Lq.of {M : List Nat} {L : List (Addr × Value)} {w w' : World} (h : Ext [] w w') : Lq M L w w' :=
  ⟨h.more (by simp), fun x _ hx => h.cell0 hx, fun b o hb => ⟨by rw [h.cell_o hb], h.frozen_o hb⟩⟩
section
variable {M : List Nat} {L : List (Addr × Value)} {w0 : World} {next : Value → Prop} {t : TypeId} {b o : Nat}
theorem xDet_s {x : Value} : xDet (Lq M L) (Lq M L w0) (fun w K => K x w) next = next x :=
  propext ⟨fun h => by
    obtain ⟨y, hy, hn⟩ := h.out
    obtain rfl := (hy w0 (Lq.refl M L w0)).1
    exact hn, fun h => ⟨x, fun w _ => ⟨rfl, Lq.refl M L w⟩, h⟩⟩
theorem xDet_c {r r' : World → K1 → Prop} (h : ∀ w, Lq M L w0 w → ∀ K, r w K = r' w K) : xDet (Lq M L) (Lq M L w0) r next = xDet (Lq M L) (Lq M L w0) r' next :=
  propext ⟨fun hx => by obtain ⟨y, hy, hn⟩ := hx.out; exact ⟨y, fun w hw => by rw [← h w hw]; exact hy w hw, hn⟩,
    fun hx => by obtain ⟨y, hy, hn⟩ := hx.out; exact ⟨y, fun w hw => by rw [h w hw]; exact hy w hw, hn⟩⟩
theorem Lq.cell {w : World} (h : Lq M L w0 w) (hb : b < w0.heap.size) (hm : b ∉ M) : w.cell? ⟨b, o, none⟩ = w0.cell? ⟨b, o, none⟩ := h.ext.cell hb hm
theorem xDet_ld {a : Addr} (hb : b < w0.heap.size) (hm : b ∉ M) : xDet (Lq M L) (Lq M L w0) (fun w K => loadK P t a (w.cell? ⟨b, o, none⟩) w K) next = xDet (Lq M L) (Lq M L w0) (fun w K => loadK P t a (w0.cell? ⟨b, o, none⟩) w K) next :=
  xDet_c fun w hw K => by rw [hw.cell hb hm]
theorem xDet_ld2 {a : Addr} {o1 o2 : Nat} (hb : b < w0.heap.size) (hm : b ∉ M) : xDet (Lq M L) (Lq M L w0) (fun w K => loadsK P t a w K [w.cell? ⟨b, o1, none⟩, w.cell? ⟨b, o2, none⟩] []) next =
    xDet (Lq M L) (Lq M L w0) (fun w K => loadsK P t a w K [w0.cell? ⟨b, o1, none⟩, w0.cell? ⟨b, o2, none⟩] []) next :=
  xDet_c fun w hw K => by rw [hw.cell hb hm, hw.cell hb hm]
theorem xDet_ld3 {a : Addr} {o1 o2 o3 : Nat} (hb : b < w0.heap.size) (hm : b ∉ M) : xDet (Lq M L) (Lq M L w0) (fun w K => loadsK P t a w K [w.cell? ⟨b, o1, none⟩, w.cell? ⟨b, o2, none⟩, w.cell? ⟨b, o3, none⟩] []) next =
    xDet (Lq M L) (Lq M L w0) (fun w K => loadsK P t a w K [w0.cell? ⟨b, o1, none⟩, w0.cell? ⟨b, o2, none⟩, w0.cell? ⟨b, o3, none⟩] []) next :=
  xDet_c fun w hw K => by rw [hw.cell hb hm, hw.cell hb hm, hw.cell hb hm]
theorem xDet_ld4 {a : Addr} {o1 o2 o3 o4 : Nat} (hb : b < w0.heap.size) (hm : b ∉ M) : xDet (Lq M L) (Lq M L w0) (fun w K => loadsK P t a w K [w.cell? ⟨b, o1, none⟩, w.cell? ⟨b, o2, none⟩, w.cell? ⟨b, o3, none⟩, w.cell? ⟨b, o4, none⟩] []) next =
    xDet (Lq M L) (Lq M L w0) (fun w K => loadsK P t a w K [w0.cell? ⟨b, o1, none⟩, w0.cell? ⟨b, o2, none⟩, w0.cell? ⟨b, o3, none⟩, w0.cell? ⟨b, o4, none⟩] []) next :=
  xDet_c fun w hw K => by rw [hw.cell hb hm, hw.cell hb hm, hw.cell hb hm, hw.cell hb hm]
end
theorem setCells_other {a : Addr} : ∀ (l : List Value) (w : World) (b o : Nat), (∀ i, i < l.length → a ≠ ⟨b, o + i, none⟩) → (w.setCells b o l).cell? a = w.cell? a
  | [], w, b, o, _ => rfl
  | v :: l, w, b, o, h => by
    rw [setCells_c, setCells_other l _ b (o + 1) (fun i hi => by have := h (i + 1) (by simpa using hi); rwa [Nat.add_assoc, Nat.add_comm 1])]
    exact World.cell?_setCell_other _ _ _ _ (fun e => h 0 (by simp) (by simp [e]))
theorem setCells_frozen {a : Addr} : ∀ (l : List Value) (w : World) (b o : Nat), (w.setCells b o l).frozen? a = w.frozen? a
  | [], w, b, o => rfl
  | v :: l, w, b, o => by rw [setCells_c, setCells_frozen l, World.frozen?_setCell]
theorem setCells_ext {M : List Nat} {a : World} (b : Nat) (hb : b ∈ M ∨ a.heap.size ≤ b) : ∀ (l : List Value) (w : World) (o : Nat), Ext M a w → Ext M a (w.setCells b o l)
  | [], w, o, h => h
  | v :: l, w, o, h => by rw [setCells_c]; exact setCells_ext b hb l _ (o + 1) (h.set' hb)
/-- what a function computes, where it leaves all that was there -/
abbrev Gives (P : Program) (f : FuncId) (args : Array Value) (w : World) (v : Value) : Prop := Yld P f args w fun u w' => u = v ∧ Ext [] w w'
theorem Gives.to {f : FuncId} {args : Array Value} {v : Value} (h : Gives P f args w v) (hk : ∀ w', Ext [] w w' → K v w') : Yld P f args w K := h.mono fun _ w' ⟨h1, h2⟩ => h1 ▸ hk w' h2
/-- A loop: what holds at its head, and what falls. -/
theorem xLoop_of {vs : List Value} {w0 : World} {S : List Nat} {B : Env → World → (List Value → World → Prop) → Prop} (I : List Value → World → Prop) (μ : List Value → World → Nat) (h0 : I vs w0)
    (h : ∀ (u : Env) (w : World), I (S.map u) w → B u w fun vs' w' => I vs' w' ∧ μ vs' w' < μ (S.map u) w) : xLoop vs w0 S B := ⟨I, μ, h0, h⟩
end
end Go.Sh
