/- Any items, put and read again: what comes in, and the document's bytes. -/
import Derived.Test.YtlllabaipfmnjaaCode5
import Derived.WalkKit
set_option linter.unusedVariables false
set_option linter.unusedSimpArgs false
set_option maxHeartbeats 4000000
namespace Go.Proofs.Ytlllabaipfmnjaa
open Go.Sh Go.RowKit Go.ChangeShapes Go.WideShapes Go.ChangeAt

structure Item where
  op : Int
  u : BitVec 64
  i : Int
  ab : Option Addr
  cb : Nat
  b : List (BitVec 8)
  aw : Option Addr
  cw : Nat
  ws : List (BitVec 64)
def cellsI (x : Item) : List Value := [i64 x.op, u64 x.u, i64 x.i, .slice x.ab x.b.length x.cb, .slice x.aw x.ws.length x.cw]
structure ItemOkI (w : World) (x : Item) : Prop where
  int : inI64 x.i
  cb : x.b.length ≤ x.cb
  nb : x.ab = none → x.cb = 0
  rb : RowAt w x.ab (bys x.b)
  cw : x.ws.length ≤ x.cw
  nw : x.aw = none → x.cw = 0
  rw : RowAt w x.aw (wrds x.ws)
structure ItemsArg (w : World) (l : List Item) (a : Option Addr) (n c : Nat) : Prop where
  len : n = l.length
  cap : n ≤ c
  nil : a = none → c = 0
  row : RowAt w a (l.flatMap cellsI)
  each : ∀ x ∈ l, ItemOkI w x
theorem list5 {α : Type} {l : List α} (h : l.length = 5) : ∃ a b c d e, l = [a, b, c, d, e] := by
  match l, h with
  | [a, b, c, d, e], _ => exact ⟨a, b, c, d, e, rfl⟩
set_option maxRecDepth 100000 in
theorem items_open {H : Type} {enc : TypeId × Value → H} {W : World} {base : Nat} {v : Value} {d : DataW H} {p : List MemPlace} (hv : Value.okWide Try.prog W .any base 22 v) (h : DataW.Trod enc Try.prog W 0 (fun _ => true) true 22 v d p) :
    ∃ a n c l, v = .slice a n c ∧ ItemsArg W l a n c := by
  obtain ⟨a, n, c, rfl⟩ := okWide_slice Try.underlying22 hv
  obtain ⟨fuel, hf⟩ := h
  obtain ⟨a', n', c', C, hcs, hn, hm, hnil, hC, hR⟩ := trod_cells Try.underlying22 (F := 5) (by kernel_rfl) (by decide) hf
  simp [Value.cells] at hcs
  obtain ⟨rfl, rfl, rfl⟩ := hcs
  have each : ∀ i, ∃ x : Item, i < n → C i = cellsI x ∧ ItemOkI W x := by
    intro i
    by_cases hi : i < n
    · obtain ⟨hl, fu, xx, hx⟩ := hC i hi
      obtain ⟨_, m, hf⟩ := trod_fields Try.underlying32 (F := 5) (by kernel_rfl) (by kernel_rfl) (by kernel_rfl) hx
      obtain ⟨c0, c1, c2, c3, c4, hc⟩ := list5 hl
      rw [hc] at hf
      obtain ⟨y0, h0⟩ := hf 0 _ c0 rfl rfl
      obtain ⟨y1, h1⟩ := hf 1 _ c1 rfl rfl
      obtain ⟨y2, h2⟩ := hf 2 _ c2 rfl rfl
      obtain ⟨y3, h3⟩ := hf 3 _ c3 rfl rfl
      obtain ⟨y4, h4⟩ := hf 4 _ c4 rfl rfl
      obtain ⟨z0, e0, _, w0⟩ := DataW.trod_int Try.underlying3 h0
      obtain ⟨z1, e1, _, w1⟩ := DataW.trod_int Try.underlying29 h1
      obtain ⟨z2, e2, _, w2⟩ := DataW.trod_int Try.underlying2 h2
      obtain ⟨a3, n3, c3', zs3, e3, l3, k3, b3, nl3, r3, f3⟩ := trod_row Try.underlying26 Try.underlying5 (by kernel_rfl) h3
      obtain ⟨a4, n4, c4', zs4, e4, l4, k4, b4, nl4, r4, f4⟩ := trod_row Try.underlying30 Try.underlying29 (by kernel_rfl) h4
      simp at e0 e1 e2 e3 e4
      subst e0 e1 e2 e3 e4
      have B := bytesArg l3 k3 b3 nl3 r3 f3
      have Wd := wordsArg l4 k4 b4 nl4 r4 f4
      refine ⟨⟨z0, BitVec.ofInt 64 z1, z2, a3, c3', zs3.map (BitVec.ofInt 8), a4, c4', zs4.map (BitVec.ofInt 64)⟩, fun _ => ⟨?_, wf_i64 w2, ?_, nl3, B.row, ?_, nl4, Wd.row⟩⟩
      · rw [hc]
        unfold cellsI
        simp only [List.length_map]
        rw [← l3, ← l4, ← u64_of (wf_u64 w1).1 (wf_u64 w1).2]
      · simp only [List.length_map]; omega
      · simp only [List.length_map]; omega
    · exact ⟨⟨0, z64, 0, none, 0, [], none, 0, []⟩, fun h => absurd h hi⟩
  have hX : ∃ X : Nat → Item, ∀ i, i < n → C i = cellsI (X i) ∧ ItemOkI W (X i) := ⟨fun i => Classical.choose (each i), fun i => Classical.choose_spec (each i)⟩
  obtain ⟨X, hX⟩ := hX
  refine ⟨a, n, c, (List.range n).map X, rfl, by simp, hn, hnil, ?_, fun x hx => ?_⟩
  · have e : (List.range n).flatMap C = ((List.range n).map X).flatMap cellsI := by
      rw [List.flatMap_map]
      have : ∀ l : List Nat, (∀ i ∈ l, i < n) → l.flatMap C = l.flatMap fun i => cellsI (X i) := by
        intro l
        induction l with
        | nil => intro _; rfl
        | cons i l ih =>
          intro h
          rw [List.flatMap_cons, List.flatMap_cons, ih fun j hj => h j (List.mem_cons_of_mem _ hj), (hX i (h i (List.mem_cons_self ..))).1]
      exact this _ fun i hi => List.mem_range.1 hi
    rw [← e]; exact hR
  · obtain ⟨i, hi, rfl⟩ := List.mem_map.1 hx
    exact (hX i (List.mem_range.1 hi)).2
theorem ItemOkI.ext0 {w w' : World} {x : Item} (h : ItemOkI w x) (hx : Ext [] w w') : ItemOkI w' x := ⟨h.int, h.cb, h.nb, h.rb.ext0 hx, h.cw, h.nw, h.rw.ext0 hx⟩
theorem ItemsArg.ext0 {w w' : World} {l : List Item} {a : Option Addr} {n c : Nat} (h : ItemsArg w l a n c) (hx : Ext [] w w') : ItemsArg w' l a n c := ⟨h.len, h.cap, h.nil, h.row.ext0 hx, fun x hm => (h.each x hm).ext0 hx⟩
theorem ItemsArg.cell {w : World} {l : List Item} {a : Option Addr} {n c k : Nat} (h : ItemsArg w l a n c) (hk : k < l.length) :
    ∃ b o, a = some ⟨b, o, none⟩ ∧ b < w.heap.size ∧ w.cell? ⟨b, o + k * 5, none⟩ = some (i64 l[k].op) ∧ w.cell? ⟨b, o + k * 5 + 1, none⟩ = some (u64 l[k].u) ∧ w.cell? ⟨b, o + k * 5 + 2, none⟩ = some (i64 l[k].i) ∧
      w.cell? ⟨b, o + k * 5 + 3, none⟩ = some (.slice l[k].ab l[k].b.length l[k].cb) ∧ w.cell? ⟨b, o + k * 5 + 4, none⟩ = some (.slice l[k].aw l[k].ws.length l[k].cw) := by
  obtain ⟨b, o, rfl, hb, hc⟩ := row_elem (F := 5) (by decide) h.row (fun x _ => rfl) hk
  exact ⟨b, o, rfl, hb, hc 0 _ rfl, hc 1 _ rfl, hc 2 _ rfl, hc 3 _ rfl, hc 4 _ rfl⟩
end Go.Proofs.Ytlllabaipfmnjaa
