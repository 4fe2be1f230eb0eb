/- Rows of bytes of one's own (sq). Fields of words, in plain Lean: what is taken and put, as numbers. Headers of objects, in plain Lean: which may be, their words, and back. Signs, fields, turns, in plain Lean. Numbers in bytes, in plain Lean. What the functions on bits compute. What the functions on headers compute. What a word is as a header, walked. The small example of the statements on bits; and the statements on numbers alone, walked. What the reference's functions on bytes compute. Words and their bytes, in plain Lean. What the functions on words compute. Rows of words of one's own (sq). Objects one behind the other: what places are (sq). Graphs that come in (sq). Strings put one behind the other (sq). Builders of strings; digits; the document's Decimal and Hex (sq). A builder of strings, with what it leaves alone (sq). A graph as the document's (sq). What the functions on spaces compute (sq). Walking over a space, emptying it, its twin (sq). The document's spaces, walked (sq). What the document says of a graph: whether it may be, how many words it takes (sq). Words moved; the small example of the statements on words. Words moved, whichever way they lie on each other: the walk. Any calls on words, walked (sq). Names: a text as 32 bytes, and back (sq). Whether a graph may be: by the program and by the document, and why not (sq). A graph's words, counted; bytes as words; places (sq). Whether a graph may be, by the document: exactly; how many words it takes, by the program (sq). A graph in words, by the document (sq). What the functions on objects compute, where all is well (sq). What it is for objects to be well (sq). What is wrong in words that should be objects (sq). Looking at words that should be objects: what the program finds (sq). Looking at words that should be objects: all of them (sq). Looking at words that should be objects: each object, and a space (sq). Looking at spaces and images: what the program finds (sq). Looking at images without names (sq). The document's word on whether objects are well (sq). The document's findings in words that should be objects (sq). A Root's name in an image, read by the program and by the document (sq). What the statements on spaces call (sq). A space out of words, or none (sq). The statement on looking at spaces, walked (sq). Looking at any image: what the program finds (sq). A word is its eight bytes; two objects that are written (sq). What a graph's words are, word by word; in them nothing is wrong. A graph in words, by the program: a name, a node (sq). A graph's words, as the program fills them in. A graph in words, by the program (sq). Looking for a number in a rising row; are two rows of words the same; an image's reader (sq). An image's reader reads a node (sq). What an image's words are read as, and what its graph's words are. A graph as a text. Which nodes come from others. The order in which nodes come from names, and a graph numbered so. A graph without the nodes that nothing leads to. Words with nothing wrong are those of the graph that they are read as. An image decoded (sq). Which nodes come from others, by the program (sq). What names lead to; a node apart (sq). A node apart (sq). A graph trimmed, by the program (sq). A graph trimmed, by the program: the walk (sq). The order in which nodes come, by the program (sq). A graph numbered as its nodes come, by the program (sq). Two graphs are equal, by the program (sq). Two graphs are equal, by the program and by the document (sq). Two graphs are the same but for their numbers, by the program (sq). A node put behind others. A graph's canon as a text, by the program (sq). -/
import Derived.Test.YthhcmoknppljpaaDoorRules
import Derived.Test.YthhcmoknppljpaaDoorEng14
import Derived.Test.YthhcmoknppljpaaDoorEng11
import Derived.Test.YthhcmoknppljpaaDoorEng16
import Derived.Test.YthhcmoknppljpaaDoorShelf
import Derived.Shelf.Strings.BuilderK
import Derived.Test.YthhcmoknppljpaaDoorEng17
import Derived.Lib.Strings
import Derived.Lib.Bytealg
import Derived.Test.YthhcmoknppljpaaDoorEng15
import Derived.Test.YthhcmoknppljpaaDoorEng18
section
set_option linter.unusedVariables false
set_option linter.unusedSimpArgs false
set_option maxHeartbeats 4000000
namespace Go.Proofs.YthhcmoknppljpaaDoor
open Go.Sh Go.RowKit

abbrev OwnB (w : World) (v : Value) (l : List (BitVec 8)) : Prop := Own w 5 1 v l.length (bys l)
theorem bys_one (l : List (BitVec 8)) : ∀ u ∈ bys l, u.oneCell' = true := by simp [Value.oneCell']
theorem appBl {w : World} {K : K1} {v : Value} {l m : List (BitVec 8)} {k g : Nat} {cs : List Value} (hO : OwnB w v l) (hcs : cs = bys m) (hk : k = m.length) (hl : l.length + m.length ≤ 4000000)
    (hK : ∀ v' w', OwnB w' v' (l ++ m) → Stp (blk v) (blk v') w w' → K v' w') (hg : g = w.heap.size := by first | rfl | (simp only [World.size_alloc, World.size_drew, World.size_setCell] <;> omega)) : xBuiltin Tryd.prog .append #[45, 45] 45 [false, false] [v, .slice (some ⟨g, 0, none⟩) k k] (w.alloc (.cells cs.toArray 5)) K := by
  subst hcs hk hg
  refine xAppL (bytes := 1) (z := .int .u8 0) (by kernel_rfl) (by kernel_rfl) (by rfl) (by decide) hO (by simp) (bys_one m) (by omega) (by omega) fun v' w' h1 h2 => hK v' w' ?_ h2
  show Own w' 5 1 v' (l ++ m).length (bys (l ++ m))
  rw [List.length_append, bys, List.map_append]
  exact h1
end Go.Proofs.YthhcmoknppljpaaDoor
end
section
set_option linter.unusedVariables false
set_option linter.unusedSimpArgs false
set_option maxHeartbeats 4000000
namespace Go.Proofs.YthhcmoknppljpaaDoor
open Go.Sh Go.RowKit

abbrev i64 (n : Int) : Value := .int .i64 n
def ones (n : Nat) : BitVec 64 := BitVec.allOnes 64 >>> (64 - n)
/-- n ones from a bit on -/
def maskB (a n : Int) : BitVec 64 := (BitVec.ofNat 64 18446744073709551615 >>> (64 - n).toNat) <<< a.toNat
def maskOk (a n : Int) : Prop := 0 ≤ a ∧ a < 64 ∧ 1 ≤ n ∧ n ≤ 64 - a
instance (a n : Int) : Decidable (maskOk a n) := by unfold maskOk; infer_instance
def fieldB (x : BitVec 64) (a n : Int) : BitVec 64 := if maskOk a n then (x &&& maskB a n) >>> a.toNat else 0
end Go.Proofs.YthhcmoknppljpaaDoor
end
section
set_option linter.unusedVariables false
set_option linter.unusedSimpArgs false
set_option maxHeartbeats 4000000
namespace Go.Proofs.YthhcmoknppljpaaDoor
open Go.Sh Go.RowKit

abbrev hd (p b : Int) (m : Bool) (t : Int) : Value := .agg #[i64 p, i64 b, .bool m, i64 t]
def rightP (p b : Int) (m : Bool) (t : Int) : Prop := (m = true ∧ p = 0 ∧ b = 0 ∧ 0 ≤ t ∧ t < 8192) ∨ (m = false ∧ t = 0 ∧ 0 ≤ p ∧ p ≤ 64 ∧ 0 ≤ b ∧ b ≤ 1024)
instance (p b : Int) (m : Bool) (t : Int) : Decidable (rightP p b m t) := by unfold rightP; infer_instance
theorem right_t {p b t : Int} : rightP p b true t ↔ p = 0 ∧ b = 0 ∧ 0 ≤ t ∧ t < 8192 := by simp [rightP]
theorem right_f {p b t : Int} : rightP p b false t ↔ t = 0 ∧ 0 ≤ p ∧ p ≤ 64 ∧ 0 ≤ b ∧ b ≤ 1024 := by simp [rightP]
def packI (p b : Int) (m : Bool) (t : Int) : Int := if m then 9223372036854775809 + t * 4294967296 else 9223372036854775808 + p * 2 + b * 65536
def packW (p b : Int) (m : Bool) (t : Int) : BitVec 64 := if rightP p b m t then BitVec.ofInt 64 (packI p b m t) else BitVec.ofNat 64 0
theorem ofInt_nat {n : Int} (h0 : 0 ≤ n) (h1 : n < 18446744073709551616) : ((BitVec.ofInt 64 n).toNat : Int) = n := by
  rw [BitVec.toNat_ofInt]; omega
/-! a word as a header -/
def uM (x : BitVec 64) : Bool := decide (x.toNat % 2 = 1)
def uP (x : BitVec 64) : Int := if uM x then 0 else (x.toNat / 2 % 256 : Nat)
def uB (x : BitVec 64) : Int := if uM x then 0 else (x.toNat / 65536 % 4096 : Nat)
def uT (x : BitVec 64) : Int := if uM x then (x.toNat / 4294967296 % 65536 : Nat) else 0
def isHead (x : BitVec 64) : Prop := rightP (uP x) (uB x) (uM x) (uT x) ∧ packW (uP x) (uB x) (uM x) (uT x) = x
instance (x : BitVec 64) : Decidable (isHead x) := by unfold isHead; infer_instance
theorem packI_in {p b t : Int} {m : Bool} (h : rightP p b m t) : 0 ≤ packI p b m t ∧ packI p b m t < 18446744073709551616 := by
  unfold packI
  cases m
  · rw [right_f] at h; simp; omega
  · rw [right_t] at h; simp; omega
theorem packW_nat {p b t : Int} {m : Bool} (h : rightP p b m t) : ((packW p b m t).toNat : Int) = packI p b m t := by
  unfold packW
  rw [if_pos h, ofInt_nat (packI_in h).1 (packI_in h).2]
theorem un_pack {p b t : Int} {m : Bool} (h : rightP p b m t) : uP (packW p b m t) = p ∧ uB (packW p b m t) = b ∧ uM (packW p b m t) = m ∧ uT (packW p b m t) = t := by
  have hn := packW_nat h
  unfold packI at hn
  cases m
  · rw [right_f] at h
    simp only [Bool.false_eq_true, if_false] at hn
    have hm : uM (packW p b false t) = false := by unfold uM; rw [decide_eq_false]; omega
    refine ⟨?_, ?_, hm, ?_⟩
    · unfold uP; rw [hm]; simp; omega
    · unfold uB; rw [hm]; simp; omega
    · unfold uT; rw [hm]; simp; omega
  · rw [right_t] at h
    simp only [if_true] at hn
    have hm : uM (packW p b true t) = true := by unfold uM; rw [decide_eq_true]; omega
    refine ⟨?_, ?_, hm, ?_⟩
    · unfold uP; rw [hm]; simp; omega
    · unfold uB; rw [hm]; simp; omega
    · unfold uT; rw [hm]; simp; omega
theorem un_pack_is {p b t : Int} {m : Bool} (h : rightP p b m t) : isHead (packW p b m t) := by
  obtain ⟨h1, h2, h3, h4⟩ := un_pack h
  unfold isHead
  rw [h1, h2, h3, h4]
  exact ⟨h, rfl⟩
end Go.Proofs.YthhcmoknppljpaaDoor
end
section
set_option linter.unusedVariables false
set_option linter.unusedSimpArgs false
set_option maxHeartbeats 4000000
namespace Go.Proofs.YthhcmoknppljpaaDoor
open Go.Sh Go.RowKit

/-! signs -/
/-! fields by their bits -/
/-! turns -/
end Go.Proofs.YthhcmoknppljpaaDoor
end
section
set_option linter.unusedVariables false
set_option linter.unusedSimpArgs false
set_option maxHeartbeats 4000000
namespace Go.Proofs.YthhcmoknppljpaaDoor
open Go.Sh Go.RowKit

def inside (at' n size : Int) : Prop := 1 ≤ n ∧ n ≤ 8 ∧ 0 ≤ at' ∧ n ≤ size ∧ at' ≤ size - n
instance (at' n size : Int) : Decidable (inside at' n size) := by unfold inside; infer_instance
end Go.Proofs.YthhcmoknppljpaaDoor
end
section
set_option linter.unusedVariables false
set_option linter.unusedSimpArgs false
set_option maxHeartbeats 4000000
namespace Go.Proofs.YthhcmoknppljpaaDoor
open Go.Sh Go.RowKit


end Go.Proofs.YthhcmoknppljpaaDoor
end
section
set_option linter.unusedVariables false
set_option linter.unusedSimpArgs false
set_option maxHeartbeats 4000000
namespace Go.Proofs.YthhcmoknppljpaaDoor
open Go.Sh Go.RowKit

end Go.Proofs.YthhcmoknppljpaaDoor
end
section
set_option linter.unusedVariables false
set_option linter.unusedSimpArgs false
set_option maxHeartbeats 4000000
namespace Go.Proofs.YthhcmoknppljpaaDoor
open Go.Sh Go.RowKit

end Go.Proofs.YthhcmoknppljpaaDoor
end
section
set_option linter.unusedVariables false
set_option linter.unusedSimpArgs false
set_option maxHeartbeats 4000000
namespace Go.Proofs.YthhcmoknppljpaaDoor
open Go.Sh Go.RowKit

end Go.Proofs.YthhcmoknppljpaaDoor
end
section
set_option linter.unusedVariables false
set_option linter.unusedSimpArgs false
set_option maxHeartbeats 4000000
namespace Go.Proofs.YthhcmoknppljpaaDoor
open Go.Sh Go.RowKit

theorem bys_ok {l : List (BitVec 8)} : ∀ u ∈ bys l, u.oneCell' = true := by simp [Value.oneCell']
end Go.Proofs.YthhcmoknppljpaaDoor
end
section
set_option linter.unusedVariables false
set_option linter.unusedSimpArgs false
set_option maxHeartbeats 4000000
namespace Go.Proofs.YthhcmoknppljpaaDoor
open Go.Sh Go.RowKit

abbrev c0 : BitVec 64 := BitVec.ofNat 64 0
def byteW (ws : List (BitVec 64)) (i : Nat) : BitVec 8 := ((ws.getD (i / 8) c0) >>> (8 * (i % 8))).setWidth 8
def bytesW (ws : List (BitVec 64)) (at' n : Nat) : List (BitVec 8) := (List.range n).map fun i => byteW ws (at' + i)
/-- n things from a place on -/
def among (at' n all : Int) : Prop := 0 ≤ at' ∧ 0 ≤ n ∧ n ≤ all ∧ at' ≤ all - n
instance (at' n all : Int) : Decidable (among at' n all) := by unfold among; infer_instance
end Go.Proofs.YthhcmoknppljpaaDoor
end
section
set_option linter.unusedVariables false
set_option linter.unusedSimpArgs false
set_option maxHeartbeats 4000000
namespace Go.Proofs.YthhcmoknppljpaaDoor
open Go.Sh Go.RowKit

abbrev ptr (g : Nat) : Value := .pointer (some ⟨g, 0, none⟩)
def blkOf : Option Addr → List Nat
  | some a => [a.block]
  | none => []
/-- words of one's own -/
def OwnW (w : World) (base : Nat) (a : Option Addr) (c : Nat) (ws : List (BitVec 64)) : Prop :=
  ws = [] ∨ ∃ gs rest, a = some ⟨gs, 0, none⟩ ∧ base ≤ gs ∧ Blk w gs 89 (wrds ws ++ rest) ∧ c ≤ (wrds ws ++ rest).length
structure MemIs (w : World) (base g : Nat) (a : Option Addr) (c : Nat) (ws : List (BitVec 64)) : Prop where
  lo : base ≤ g
  hd : w.cell? ⟨g, 0, none⟩ = some (.slice a ws.length c)
  len : ws.length ≤ 8192
  cap : ws.length ≤ c
  nil : a = none → c = 0
  own : OwnW w base a c ws
  apart : ws ≠ [] → g ∉ blkOf a
  up : ∀ x ∈ blkOf a, base ≤ x
theorem MemIs.lt {w : World} {base g : Nat} {a : Option Addr} {c : Nat} {ws : List (BitVec 64)} (h : MemIs w base g a c ws) : g < w.heap.size := World.block_lt_of_cell? w ⟨g, 0, none⟩ h.hd
theorem OwnW.row {w : World} {base : Nat} {a : Option Addr} {c : Nat} {ws : List (BitVec 64)} (h : OwnW w base a c ws) : RowAt w a (wrds ws) := by
  rcases h with rfl | ⟨gs, rest, rfl, _, hB, _⟩
  · exact RowAt.nil
  · have := hB.row.take (wrds ws).length
    rwa [List.take_left' rfl] at this
theorem OwnW.ext {w w' : World} {base : Nat} {a : Option Addr} {c : Nat} {ws : List (BitVec 64)} {M : List Nat} (h : OwnW w base a c ws) (hx : Ext M w w') (hm : ws ≠ [] → ∀ g ∈ blkOf a, g ∉ M) : OwnW w' base a c ws := by
  rcases h with rfl | ⟨gs, rest, rfl, hb, hB, hc⟩
  · exact .inl rfl
  · by_cases hw : ws = []
    · exact .inl hw
    · exact .inr ⟨gs, rest, rfl, hb, hB.ext hx (hm hw gs (by simp [blkOf])), hc⟩
theorem MemIs.ext {w w' : World} {base g : Nat} {a : Option Addr} {c : Nat} {ws : List (BitVec 64)} {M : List Nat} (h : MemIs w base g a c ws) (hx : Ext M w w') (hg : g ∉ M) (hm : ws ≠ [] → ∀ g ∈ blkOf a, g ∉ M) : MemIs w' base g a c ws :=
  ⟨h.lo, by rw [hx.cell (a := ⟨g, 0, none⟩) h.lt hg]; exact h.hd, h.len, h.cap, h.nil, h.own.ext hx hm, h.apart, h.up⟩
theorem MemIs.ext0 {w w' : World} {base g : Nat} {a : Option Addr} {c : Nat} {ws : List (BitVec 64)} (h : MemIs w base g a c ws) (hx : Ext [] w w') : MemIs w' base g a c ws := h.ext hx (by simp) (by simp)

section
variable {w : World} {base g : Nat} {a : Option Addr} {c : Nat} {ws : List (BitVec 64)}
abbrev rsMem_0 := (And.intro @ln_45 (And.intro @sh_45 @sm_45))
theorem ClipB_spec {b : Option Addr} {n m : Nat} (hm : n ≤ m) : Gives Tryd.prog n_slices_Clip_byte_byte #[.slice b n m] w (.slice b n n) := by
  refine slices_Clip_byte_byte_of ?_
  unfold slices_Clip_byte_byte
  simp (disch := (first | omega | decide | (simp only [rsD] <;> omega) | fail)) only [↓rsC, rsK, rsL, ↓rsMem_0, tick_eq, tickV_eq, ne_eq, Int.reduceAdd, Int.reduceSub, Int.reduceMul, Int.reduceEq, Int.reduceLT, Int.reduceLE, Int.reduceToNat, Nat.reduceMul, Nat.reduceAdd, Nat.reduceSub, ←decide_not, eq_self]
  exact ⟨by trivial, by (repeat (first | with_reducible exact Ext.refl _ _ | with_reducible assumption | with_reducible refine Ext.alloc' ?_ _ | with_reducible refine Ext.drew' ?_ | with_reducible refine Ext.set' ?_ ?_ | exact .inr (by first | omega | (simp only [World.size_alloc, World.size_drew, World.size_setCell] <;> omega)) | refine Ext.trans ?_ (by with_reducible assumption)))⟩

end
end Go.Proofs.YthhcmoknppljpaaDoor
end
section
set_option linter.unusedVariables false
set_option linter.unusedSimpArgs false
set_option maxHeartbeats 4000000
namespace Go.Proofs.YthhcmoknppljpaaDoor
open Go.Sh Go.RowKit

abbrev OwnU (w : World) (v : Value) (l : List (BitVec 64)) : Prop := Own w 89 1 v l.length (wrds l)
/-- one word of an own row: what a load and a store need -/
theorem OwnU.at {w : World} {v : Value} {l : List (BitVec 64)} {i : Nat} (h : OwnU w v l) (hi : i < l.length) (x : BitVec 64) :
    ∃ g cap, v = .slice (some ⟨g, 0, none⟩) l.length cap ∧ w.cell? ⟨g, i, none⟩ = some (u64 l[i]) ∧ w.frozen? ⟨g, i, none⟩ = false ∧ OwnU (w.setCell ⟨g, i, none⟩ (u64 x)) v (l.set i x) ∧ Ext (blk v) w (w.setCell ⟨g, i, none⟩ (u64 x)) ∧ g < w.heap.size := by
  obtain ⟨g, cap, rest, rfl, hB, hnc, hm, hl⟩ := h.open (by omega)
  have c1 : w.cell? ⟨g, i, none⟩ = some (u64 l[i]) := by rw [hB.cell, List.getElem?_append_left (by simpa using hi)]; simp [hi]
  have B2 := hB.set (i := i) (v := u64 x)
  rw [List.set_append_left _ _ (by simpa using hi)] at B2
  have e2 : (wrds l).set i (u64 x) = wrds (l.set i x) := by simp [wrds, List.map_set]
  rw [e2] at B2
  refine ⟨g, cap, rfl, c1, hB.frozen, ?_, (Ext.set (w := w) (b := g)).more (by simp [blk, Value.ownBlock]), hB.lt⟩
  have := Own.close (n := l.length) (s := 1) B2 hnc hm (by simpa using hl) (by simp)
  show Own _ _ _ _ (l.set i x).length _
  rw [List.length_set]
  exact this
end Go.Proofs.YthhcmoknppljpaaDoor
end
section
set_option linter.unusedVariables false
set_option linter.unusedSimpArgs false
set_option maxHeartbeats 4000000
namespace Go.Proofs.YthhcmoknppljpaaDoor
open Go.Sh Go.RowKit

def szW (x : BitVec 64) : Nat := 1 + (uP x).toNat + ((uB x).toNat + 7) / 8
def okW (x : BitVec 64) : Prop := isHead x ∧ uM x = false
instance (x : BitVec 64) : Decidable (okW x) := by unfold okW isHead rightP; infer_instance
theorem okW_pack {p b : Int} (h : rightP p b false 0) : okW (packW p b false 0) ∧ szW (packW p b false 0) = 1 + p.toNat + (b.toNat + 7) / 8 := by
  obtain ⟨h1, h2, h3, h4⟩ := un_pack h
  exact ⟨⟨un_pack_is h, h3⟩, by unfold szW; rw [h1, h2]⟩
def wat (ws : List (BitVec 64)) (i : Nat) : BitVec 64 := ws.getD i c0
def walk (ws : List (BitVec 64)) (t : Nat) : Nat → Nat → Option (List Nat)
  | 0, _ => some []
  | f + 1, o => if o < t then (if okW (wat ws o) ∧ o + szW (wat ws o) ≤ t then (walk ws t f (o + szW (wat ws o))).map (o :: ·) else none) else some []
def objs (ws : List (BitVec 64)) (b t : Nat) : Option (List Nat) := walk ws t t b
inductive Objs (ws : List (BitVec 64)) (t : Nat) : Nat → List Nat → Prop
  | nil : Objs ws t t []
  | cons {o : Nat} {l : List Nat} : okW (wat ws o) → o + szW (wat ws o) ≤ t → Objs ws t (o + szW (wat ws o)) l → Objs ws t o (o :: l)
theorem szW_pos {x : BitVec 64} : 1 ≤ szW x := by unfold szW; omega
theorem Objs.le {ws : List (BitVec 64)} {t o : Nat} {l : List Nat} (h : Objs ws t o l) : o ≤ t := by
  induction h with
  | nil => exact Nat.le_refl _
  | cons _ h2 _ _ => omega
theorem Objs.walk {ws : List (BitVec 64)} {t o : Nat} {l : List Nat} (h : Objs ws t o l) : ∀ f, t ≤ o + f → Go.Proofs.YthhcmoknppljpaaDoor.walk ws t f o = some l := by
  induction h with
  | nil =>
    intro f hf
    cases f with
    | zero => rfl
    | succ f => unfold Go.Proofs.YthhcmoknppljpaaDoor.walk; rw [if_neg (Nat.lt_irrefl _)]
  | @cons o l h1 h2 h3 ih =>
    intro f hf
    have hp := szW_pos (x := wat ws o)
    have hle := h3.le
    cases f with
    | zero => omega
    | succ f => unfold Go.Proofs.YthhcmoknppljpaaDoor.walk; rw [if_pos (by omega), if_pos ⟨h1, h2⟩, ih f (by omega)]; rfl
theorem Objs.more {ws ws' : List (BitVec 64)} {t n o : Nat} {l : List Nat} (h : Objs ws t o l) (hs : ∀ i, i < t → wat ws' i = wat ws i) (hk : okW (wat ws' t)) (hn : n = szW (wat ws' t)) : Objs ws' (t + n) o (l ++ [t]) := by
  induction h with
  | nil => subst hn; exact .cons hk (Nat.le_refl _) .nil
  | @cons o l h1 h2 h3 ih =>
    have hp := szW_pos (x := wat ws o)
    have hle := h3.le
    have e := hs o (by omega)
    rw [← e] at h1 h2 ih
    exact .cons h1 (by omega) ih
/-- nought from a place on -/
def zr (ws : List (BitVec 64)) (o n : Nat) : List (BitVec 64) := ws.mapIdx fun i x => if o ≤ i ∧ i < o + n then c0 else x
@[simp] theorem zr_length {ws : List (BitVec 64)} {o n : Nat} : (zr ws o n).length = ws.length := by simp [zr]
def alW (ws : List (BitVec 64)) (t : Nat) (x : BitVec 64) (n : Nat) : List (BitVec 64) := zr (ws.set t x) (t + 1) (n - 1)
@[simp] theorem alW_length {ws : List (BitVec 64)} {t n : Nat} {x : BitVec 64} : (alW ws t x n).length = ws.length := by simp [alW]
theorem wat_zr {ws : List (BitVec 64)} {o n i : Nat} : wat (zr ws o n) i = if o ≤ i ∧ i < o + n then c0 else wat ws i := by
  unfold wat zr
  simp only [List.getD_eq_getElem?_getD, List.getElem?_mapIdx]
  cases ws[i]? with
  | none => simp
  | some x => simp
theorem wat_set {ws : List (BitVec 64)} {t i : Nat} {x : BitVec 64} (ht : t < ws.length) : wat (ws.set t x) i = if i = t then x else wat ws i := by
  unfold wat
  simp only [List.getD_eq_getElem?_getD, List.getElem?_set]
  by_cases h : t = i
  · subst h; simp [ht]
  · rw [if_neg h, if_neg (fun e => h e.symm)]
theorem wat_alW {ws : List (BitVec 64)} {t n i : Nat} {x : BitVec 64} (ht : t < ws.length) : wat (alW ws t x n) i = if i = t then x else if t + 1 ≤ i ∧ i < t + 1 + (n - 1) then c0 else wat ws i := by
  unfold alW
  rw [wat_zr, wat_set ht]
  by_cases h : i = t
  · subst h; rw [if_neg (by omega)]; simp
  · simp [h]
theorem Objs.alloc {ws : List (BitVec 64)} {b t n : Nat} {l : List Nat} {p bb : Int} (h : Objs ws t b l) (ht : t < ws.length) (hr : rightP p bb false 0) (hn : n = szW (packW p bb false 0)) : Objs (alW ws t (packW p bb false 0) n) (t + n) b (l ++ [t]) := by
  have e : wat (alW ws t (packW p bb false 0) n) t = packW p bb false 0 := by rw [wat_alW ht, if_pos rfl]
  refine h.more (fun i hi => ?_) (by rw [e]; exact (okW_pack hr).1) (by rw [e]; exact hn)
  rw [wat_alW ht, if_neg (by omega), if_neg (by omega)]
/-! rows of numbers and of words -/
end Go.Proofs.YthhcmoknppljpaaDoor
end
section
set_option linter.unusedVariables false
set_option linter.unusedSimpArgs false
set_option maxHeartbeats 4000000
namespace Go.Proofs.YthhcmoknppljpaaDoor
open Go.Sh Go.RowKit Go.ChangeShapes Go.WideShapes Go.ChangeAt

structure GN where
  p : List Int
  pa : Option Addr
  pc : Nat
  d : List (BitVec 8)
  da : Option Addr
  dc : Nat
structure GR where
  s : List (BitVec 8)
  to : Int
abbrev gnC (x : GN) : List Value := [.slice x.pa x.p.length x.pc, .slice x.da x.d.length x.dc]
abbrev grC (r : GR) : List Value := [.string (strOf r.s), i64 r.to]
abbrev its (l : List Int) : List Value := l.map fun i => i64 i
structure NOk (w : World) (x : GN) : Prop where
  pr : RowAt w x.pa (its x.p)
  pl : x.p.length ≤ x.pc
  pn : x.pa = none → x.pc = 0
  dr : RowAt w x.da (bys x.d)
  dl : x.d.length ≤ x.dc
  dn : x.da = none → x.dc = 0
theorem NOk.ext0 {w w' : World} {x : GN} (h : NOk w x) (hx : Ext [] w w') : NOk w' x := ⟨h.pr.ext0 hx, h.pl, h.pn, h.dr.ext0 hx, h.dl, h.dn⟩
/-- a graph's two rows -/
structure GIs (w : World) (na : Option Addr) (nc : Nat) (ra : Option Addr) (rc : Nat) (ns : List GN) (rs : List GR) : Prop where
  nr : RowAt w na (ns.flatMap gnC)
  nl : ns.length ≤ nc
  nn : na = none → nc = 0
  rr : RowAt w ra (rs.flatMap grC)
  rl : rs.length ≤ rc
  rn : ra = none → rc = 0
  ok : ∀ x ∈ ns, NOk w x
theorem GIs.ext0 {w w' : World} {na ra : Option Addr} {nc rc : Nat} {ns : List GN} {rs : List GR} (h : GIs w na nc ra rc ns rs) (hx : Ext [] w w') : GIs w' na nc ra rc ns rs :=
  ⟨h.nr.ext0 hx, h.nl, h.nn, h.rr.ext0 hx, h.rl, h.rn, fun x hm => (h.ok x hm).ext0 hx⟩
abbrev gV (na : Option Addr) (nc : Nat) (ra : Option Addr) (rc : Nat) (ns : List GN) (rs : List GR) : Value := .agg #[.slice na ns.length nc, .slice ra rs.length rc]
theorem pair_len {α : Type} {f : α → List Value} (hf : ∀ x, (f x).length = 2) (l : List α) : (l.flatMap f).length = l.length * 2 := by
  induction l with
  | nil => rfl
  | cons x l ih => rw [List.flatMap_cons, List.length_append, ih, List.length_cons, hf]; omega
theorem pair_cell {α : Type} {f : α → List Value} (hf : ∀ x, (f x).length = 2) : ∀ (l : List α) (k : Nat) (h : k < l.length) (j : Nat), j < 2 → (l.flatMap f)[k * 2 + j]? = (f l[k])[j]? := by
  intro l
  induction l with
  | nil => intro k h; simp at h
  | cons x l ih =>
    intro k h j hj
    rw [List.flatMap_cons]
    cases k with
    | zero => rw [List.getElem?_append_left (by rw [hf]; omega)]; simp
    | succ k =>
      rw [List.getElem?_append_right (by rw [hf]; omega), show (k + 1) * 2 + j - (f x).length = k * 2 + j by rw [hf]; omega]
      simpa using ih k (by simpa using h) j hj
theorem pair_at {α : Type} {f : α → List Value} (hf : ∀ x, (f x).length = 2) {w : World} {l : List α} {a : Option Addr} {k : Nat} (h : RowAt w a (l.flatMap f)) (hk : k < l.length) :
    ∃ b o, a = some ⟨b, o, none⟩ ∧ b < w.heap.size ∧ (∀ x, (f l[k])[0]? = some x → w.cell? ⟨b, o + k * 2, none⟩ = some x) ∧ ∀ x, (f l[k])[1]? = some x → w.cell? ⟨b, o + k * 2 + 1, none⟩ = some x := by
  obtain ⟨b, o, rfl, hb, hc⟩ := h.get (by intro e; have := congrArg List.length e; rw [pair_len hf] at this; simp only [List.length_nil] at this; omega)
  refine ⟨b, o, rfl, hb, fun x hx => ?_, fun x hx => ?_⟩
  · have := hc (k * 2 + 0) x ((pair_cell hf l k hk 0 (by omega)).trans hx); simpa using this
  · have := hc (k * 2 + 1) x ((pair_cell hf l k hk 1 (by omega)).trans hx); rw [Nat.add_assoc]; exact this
theorem gn_at {w : World} {l : List GN} {a : Option Addr} {k : Nat} (h : RowAt w a (l.flatMap gnC)) (hk : k < l.length) :
    ∃ b o, a = some ⟨b, o, none⟩ ∧ b < w.heap.size ∧ w.cell? ⟨b, o + k * 2, none⟩ = some (.slice l[k].pa l[k].p.length l[k].pc) ∧ w.cell? ⟨b, o + k * 2 + 1, none⟩ = some (.slice l[k].da l[k].d.length l[k].dc) := by
  obtain ⟨b, o, h1, h2, h3, h4⟩ := pair_at (fun _ => rfl) h hk
  exact ⟨b, o, h1, h2, h3 _ rfl, h4 _ rfl⟩
theorem gr_at {w : World} {l : List GR} {a : Option Addr} {k : Nat} (h : RowAt w a (l.flatMap grC)) (hk : k < l.length) :
    ∃ b o, a = some ⟨b, o, none⟩ ∧ b < w.heap.size ∧ w.cell? ⟨b, o + k * 2, none⟩ = some (.string (strOf l[k].s)) ∧ w.cell? ⟨b, o + k * 2 + 1, none⟩ = some (i64 l[k].to) := by
  obtain ⟨b, o, h1, h2, h3, h4⟩ := pair_at (fun _ => rfl) h hk
  exact ⟨b, o, h1, h2, h3 _ rfl, h4 _ rfl⟩
theorem list2 {α : Type} {l : List α} (h : l.length = 2) : ∃ a b, l = [a, b] := by
  match l, h with
  | [a, b], _ => exact ⟨a, b, rfl⟩
theorem gn_cells {W : World} {cs : List Value} (hl : cs.length = 2) (hc : ∀ (i : Nat) (d : Leaf) (c : Value), [Leaf.row .i64, .row .u8][i]? = some d → cs[i]? = some c → leafOk W d c) : ∃ x : GN, cs = gnC x ∧ NOk W x := by
  obtain ⟨c0, c1, rfl⟩ := list2 hl
  obtain ⟨a, n, c, zs, rfl, q1, q2, q3, q4, q5, q6⟩ := hc 0 _ _ rfl rfl
  obtain ⟨a', n', c', zs', rfl, r1, r2, r3, r4, r5, r6⟩ := hc 1 _ _ rfl rfl
  have B := bytesArg r1 r2 r3 r4 r5 r6
  refine ⟨⟨zs, a, c, zs'.map (BitVec.ofInt 8), a', c'⟩, ?_, ⟨q5, by simpa using (q1 ▸ q2), q4, B.row, by rw [← B.len]; exact r2, r4⟩⟩
  simp only [gnC]
  rw [← B.len, q1]
theorem gr_cells {W : World} {cs : List Value} (hl : cs.length = 2) (hc : ∀ (i : Nat) (d : Leaf) (c : Value), [Leaf.str, .int .i64][i]? = some d → cs[i]? = some c → leafOk W d c) : ∃ x : GR, cs = grC x := by
  obtain ⟨c0, c1, rfl⟩ := list2 hl
  obtain ⟨s, rfl⟩ := hc 0 _ _ rfl rfl
  obtain ⟨z, rfl, _⟩ := hc 1 _ _ rfl rfl
  have e : Go.Sh.strOf (s.data.toList.map UInt8.toBitVec) = s := by
    cases s with | mk d =>
    unfold Go.Sh.strOf
    congr 1
    rw [List.map_map]
    have : ∀ l : List UInt8, l.map (UInt8.ofBitVec ∘ UInt8.toBitVec) = l := fun l => (List.map_congr_left (g := id) fun x _ => rfl).trans (List.map_id _)
    rw [this]
  exact ⟨⟨s.data.toList.map UInt8.toBitVec, z⟩, by simp only [grC]; rw [e]⟩
set_option maxRecDepth 100000 in
theorem graph_open {H : Type} {enc : TypeId × Value → H} {W : World} {base : Nat} {v : Value} {d : DataW H} {p : List MemPlace} (hv : Value.okWide Tryd.prog W .any base 25 v) (h : DataW.Trod enc Tryd.prog W 0 (fun _ => true) true 25 v d p) :
    ∃ na nc ra rc ns rs, v = gV na nc ra rc ns rs ∧ GIs W na nc ra rc ns rs := by
  obtain ⟨a, n, c, b, m, k, C, D, rfl, ⟨h1, h2, h3⟩, ⟨g1, g2, g3⟩, hC, hR, hD, hR2⟩ := open_two (ea := 52) (eb := 55) (Fa := 2) (Fb := 2) (la := [.row .i64, .row .u8]) (lb := [.str, .int .i64]) (P := Tryd.prog) Tryd.underlying25 rfl rfl (by kernel_rfl) (by kernel_rfl) (by kernel_rfl) (by kernel_rfl) (by kernel_rfl) (by decide) (by kernel_rfl) (by kernel_rfl) (by kernel_rfl) (by decide) (by kernel_rfl) hv h
  have each : ∀ i, ∃ x : GN, i < n → C i = gnC x ∧ NOk W x := fun i => by
    by_cases hi : i < n
    · obtain ⟨x, h1, h2⟩ := gn_cells (hC i hi).1 (hC i hi).2
      exact ⟨x, fun _ => ⟨h1, h2⟩⟩
    · exact ⟨⟨[], none, 0, [], none, 0⟩, fun h => absurd h hi⟩
  have each2 : ∀ i, ∃ x : GR, i < m → D i = grC x := fun i => by
    by_cases hi : i < m
    · obtain ⟨x, h1⟩ := gr_cells (hD i hi).1 (hD i hi).2
      exact ⟨x, fun _ => h1⟩
    · exact ⟨⟨[], 0⟩, fun h => absurd h hi⟩
  obtain ⟨X, hX⟩ : ∃ X : Nat → GN, ∀ i, i < n → C i = gnC (X i) ∧ NOk W (X i) := ⟨fun i => Classical.choose (each i), fun i => Classical.choose_spec (each i)⟩
  obtain ⟨Y, hY⟩ : ∃ Y : Nat → GR, ∀ i, i < m → D i = grC (Y i) := ⟨fun i => Classical.choose (each2 i), fun i => Classical.choose_spec (each2 i)⟩
  refine ⟨a, c, b, k, (List.range n).map X, (List.range m).map Y, by simp [gV], ⟨?_, by simpa using h1, h3, ?_, by simpa using g1, g3, fun x hx => ?_⟩⟩
  · rw [flat_map (f := gnC) (X := X) fun i hi => (hX i hi).1] at hR
    exact hR
  · rw [flat_map (f := grC) (X := Y) fun i hi => hY i hi] at hR2
    exact hR2
  · obtain ⟨i, hi, rfl⟩ := List.mem_map.1 hx
    exact (hX i (List.mem_range.1 hi)).2
structure GP where
  na : Option Addr
  nc : Nat
  ra : Option Addr
  rc : Nat
  ns : List GN
  rs : List GR
abbrev gPV (a : GP) : Value := gV a.na a.nc a.ra a.rc a.ns a.rs
set_option maxRecDepth 100000 in
theorem graph_open1 {H : Type} {enc : TypeId × Value → H} {W : World} {base : Nat} {v : Value} {d : DataW H} {p : List MemPlace} (hv : Value.okWide Tryd.prog W .any base 25 v) (h : DataW.Trod enc Tryd.prog W 0 (fun _ => true) true 25 v d p) :
    ∃ a : GP, v = gPV a ∧ GIs W a.na a.nc a.ra a.rc a.ns a.rs := by
  obtain ⟨na, nc, ra, rc, ns, rs, h1, h2⟩ := graph_open hv h
  exact ⟨⟨na, nc, ra, rc, ns, rs⟩, h1, h2⟩
/-- a graph of which a play is worth its while -/
structure FewG (ns : List GN) (rs : List GR) : Prop where
  n : ns.length ≤ 60
  r : rs.length ≤ 80
  x : ∀ x ∈ ns, x.p.length ≤ 70 ∧ x.d.length ≤ 1100
  s : ∀ r ∈ rs, r.s.length ≤ 40
abbrev rsGrp_0 := (And.intro @xu8_add (And.intro @xu8_lss (And.intro @xu8_gtr (And.intro @xu16_add (And.intro @xu16_lss (And.intro @xu16_gtr (And.intro @xu32_add (And.intro @xu32_lss (And.intro @xu32_gtr (And.intro @xu64_add (And.intro @xu64_lss (And.intro @xu64_gtr (And.intro @xi64_lss (And.intro @xi64_gtr (And.intro @ld_9 (And.intro @ld_22 
  (And.intro @ld_23 (And.intro @ld_40 (And.intro @ld_45 (And.intro @fa_25_0 (And.intro @fa_25_1 (And.intro @fa_52_0 (And.intro @fa_52_1 (And.intro @fa_55_0 (And.intro @ia_22 (And.intro @ia_23 (And.intro @ln_22 (And.intro @ln_23 (And.intro @ln_40 (And.intro @ln_45 @ln_9))))))))))))))))))))))))))))))
theorem Few_spec {w : World} {na ra : Option Addr} {nc rc : Nat} {ns : List GN} {rs : List GR} (h : GIs w na nc ra rc ns rs) : Yld Tryd.prog n_loamlaw17_Few #[gV na nc ra rc ns rs] w fun u w' => (∃ b : Bool, u = .bool b ∧ (b = true → FewG ns rs)) ∧ Ext [] w w' := by
  refine loamlaw17_Few_of ?_
  unfold loamlaw17_Few
  simp (disch := (first | omega | decide | (simp only [rsD] <;> omega) | fail)) only [↓rsC, rsK, rsL, ↓rsGrp_0, tick_eq, tickV_eq, ne_eq, Int.reduceAdd, Int.reduceSub, Int.reduceMul, Int.reduceEq, Int.reduceLT, Int.reduceLE, Int.reduceToNat, Nat.reduceMul, Nat.reduceAdd, Nat.reduceSub, ←decide_not, eq_self]
  have B : Blk (w.alloc (.cells #[.slice na ns.length nc, .slice ra rs.length rc] 25)) w.heap.size 25 [.slice na ns.length nc, .slice ra rs.length rc] := Blk.at rfl
  have X : Ext [] w (w.alloc (.cells #[.slice na ns.length nc, .slice ra rs.length rc] 25)) := Ext.alloc _ _ _
  have hy := h.ext0 X
  by_cases h1 : 60 < ns.length
  · simp (disch := (first | omega | decide | (simp only [rsD] <;> omega) | fail)) only [↓rsC, rsK, rsL, ↓rsGrp_0, tick_eq, tickV_eq, ne_eq, Int.reduceAdd, Int.reduceSub, Int.reduceMul, Int.reduceEq, Int.reduceLT, Int.reduceLE, Int.reduceToNat, Nat.reduceMul, Nat.reduceAdd, Nat.reduceSub, ←decide_not, eq_self]
    exact ⟨⟨false, by trivial, fun h => by cases h⟩, X⟩
  by_cases h2 : 80 < rs.length
  · simp (disch := (first | omega | decide | (simp only [rsD] <;> omega) | fail)) only [↓rsC, rsK, rsL, ↓rsGrp_0, tick_eq, tickV_eq, ne_eq, Int.reduceAdd, Int.reduceSub, Int.reduceMul, Int.reduceEq, Int.reduceLT, Int.reduceLE, Int.reduceToNat, Nat.reduceMul, Nat.reduceAdd, Nat.reduceSub, ←decide_not, eq_self]
    exact ⟨⟨false, by trivial, fun h => by cases h⟩, X⟩
  simp (disch := (first | omega | decide | (simp only [rsD] <;> omega) | fail)) only [↓rsC, rsK, rsL, ↓rsGrp_0, tick_eq, tickV_eq, ne_eq, Int.reduceAdd, Int.reduceSub, Int.reduceMul, Int.reduceEq, Int.reduceLT, Int.reduceLE, Int.reduceToNat, Nat.reduceMul, Nat.reduceAdd, Nat.reduceSub, ←decide_not, eq_self]
  generalize w.heap.size = hb at *
  generalize w.alloc (.cells #[.slice na ns.length nc, .slice ra rs.length rc] 25) = y at *
  refine xLoop_n ns.length (fun j => [i64 (j : Int)]) (fun j w' => Ext [] y w' ∧ ∀ i (hi : i < ns.length), i < j → ns[i].p.length ≤ 70 ∧ ns[i].d.length ≤ 1100) rfl ⟨Ext.refl _ _, by intro i _ hi; omega⟩ ?_ ?_
  · intro j hj u v1 hu ⟨F, hq⟩ nxt hnx
    simp only [List.map_cons, List.map_nil, List.cons.injEq, and_true] at hu
    rw [hu]
    have k1 := fun i => (B.ext F (by simp)).cell (i := i)
    obtain ⟨b1, o1, rfl, z1, c1, c2⟩ := gn_at (hy.ext0 F).nr hj
    unfold loamlaw17_Few_l1
    by_cases g1 : 70 < ns[j].p.length
    · simp (disch := (first | omega | decide | (simp only [rsD] <;> omega) | fail)) only [↓rsC, rsK, rsL, ↓rsGrp_0, tick_eq, tickV_eq, ne_eq, Int.reduceAdd, Int.reduceSub, Int.reduceMul, Int.reduceEq, Int.reduceLT, Int.reduceLE, Int.reduceToNat, Nat.reduceMul, Nat.reduceAdd, Nat.reduceSub, ←decide_not, k1, c1, c2]
      exact ⟨⟨false, by trivial, fun h => by cases h⟩, X.trans F⟩
    by_cases g2 : 1100 < ns[j].d.length
    · simp (disch := (first | omega | decide | (simp only [rsD] <;> omega) | fail)) only [↓rsC, rsK, rsL, ↓rsGrp_0, tick_eq, tickV_eq, ne_eq, Int.reduceAdd, Int.reduceSub, Int.reduceMul, Int.reduceEq, Int.reduceLT, Int.reduceLE, Int.reduceToNat, Nat.reduceMul, Nat.reduceAdd, Nat.reduceSub, ←decide_not, k1, c1, c2]
      exact ⟨⟨false, by trivial, fun h => by cases h⟩, X.trans F⟩
    simp (disch := (first | omega | decide | (simp only [rsD] <;> omega) | fail)) only [↓rsC, rsK, rsL, ↓rsGrp_0, tick_eq, tickV_eq, ne_eq, Int.reduceAdd, Int.reduceSub, Int.reduceMul, Int.reduceEq, Int.reduceLT, Int.reduceLE, Int.reduceToNat, Nat.reduceMul, Nat.reduceAdd, Nat.reduceSub, ←decide_not, k1, c1, c2]
    refine hnx _ ⟨F, fun i hi hij => ?_⟩
    by_cases e : i = j
    · subst e; exact ⟨by omega, by omega⟩
    · exact hq i hi (by omega)
  · intro u v1 hu ⟨F, hq⟩ nxt
    simp only [List.map_cons, List.map_nil, List.cons.injEq, and_true] at hu
    rw [hu]
    have k1 := fun i => (B.ext F (by simp)).cell (i := i)
    unfold loamlaw17_Few_l1
    simp (disch := (first | omega | decide | (simp only [rsD] <;> omega) | fail)) only [↓rsC, rsK, rsL, ↓rsGrp_0, tick_eq, tickV_eq, ne_eq, Int.reduceAdd, Int.reduceSub, Int.reduceMul, Int.reduceEq, Int.reduceLT, Int.reduceLE, Int.reduceToNat, Nat.reduceMul, Nat.reduceAdd, Nat.reduceSub, ←decide_not, k1]
    refine xLoop_n rs.length (fun j => [i64 (j : Int)]) (fun j w' => Ext [] y w' ∧ ∀ i (hi : i < rs.length), i < j → rs[i].s.length ≤ 40) rfl ⟨F, by intro i _ hi; omega⟩ ?_ ?_
    · intro j hj u v2 hu ⟨F2, hq2⟩ nxt hnx
      simp only [List.map_cons, List.map_nil, List.cons.injEq, and_true] at hu
      rw [hu]
      have k2 := fun i => (B.ext F2 (by simp)).cell (i := i)
      obtain ⟨b1, o1, rfl, z1, c1, c2⟩ := gr_at (hy.ext0 F2).rr hj
      unfold loamlaw17_Few_l2
      have hsz := strOf_size (l := rs[j].s)
      by_cases g1 : 40 < (strOf rs[j].s).size
      · simp (disch := (first | omega | decide | (simp only [rsD] <;> omega) | fail)) only [↓rsC, rsK, rsL, ↓rsGrp_0, tick_eq, tickV_eq, ne_eq, Int.reduceAdd, Int.reduceSub, Int.reduceMul, Int.reduceEq, Int.reduceLT, Int.reduceLE, Int.reduceToNat, Nat.reduceMul, Nat.reduceAdd, Nat.reduceSub, ←decide_not, k1, k2, c1, c2]
        exact ⟨⟨false, by trivial, fun h => by cases h⟩, X.trans F2⟩
      simp (disch := (first | omega | decide | (simp only [rsD] <;> omega) | fail)) only [↓rsC, rsK, rsL, ↓rsGrp_0, tick_eq, tickV_eq, ne_eq, Int.reduceAdd, Int.reduceSub, Int.reduceMul, Int.reduceEq, Int.reduceLT, Int.reduceLE, Int.reduceToNat, Nat.reduceMul, Nat.reduceAdd, Nat.reduceSub, ←decide_not, k1, k2, c1, c2]
      refine hnx _ ⟨F2, fun i hi hij => ?_⟩
      by_cases e : i = j
      · subst e; omega
      · exact hq2 i hi (by omega)
    · intro u v2 hu ⟨F2, hq2⟩ nxt
      simp only [List.map_cons, List.map_nil, List.cons.injEq, and_true] at hu
      rw [hu]
      have k2 := fun i => (B.ext F2 (by simp)).cell (i := i)
      unfold loamlaw17_Few_l2
      simp (disch := (first | omega | decide | (simp only [rsD] <;> omega) | fail)) only [↓rsC, rsK, rsL, ↓rsGrp_0, tick_eq, tickV_eq, ne_eq, Int.reduceAdd, Int.reduceSub, Int.reduceMul, Int.reduceEq, Int.reduceLT, Int.reduceLE, Int.reduceToNat, Nat.reduceMul, Nat.reduceAdd, Nat.reduceSub, ←decide_not, k1, k2]
      refine ⟨⟨true, by trivial, fun _ => ⟨by omega, by omega, fun x hx => ?_, fun r hr => ?_⟩⟩, X.trans F2⟩
      · obtain ⟨i, hi, rfl⟩ := List.getElem_of_mem hx
        exact hq i hi hi
      · obtain ⟨i, hi, rfl⟩ := List.getElem_of_mem hr
        exact hq2 i hi hi
end Go.Proofs.YthhcmoknppljpaaDoor
end
section
set_option linter.unusedVariables false
set_option linter.unusedSimpArgs false
set_option maxHeartbeats 4000000
namespace Go.Proofs.YthhcmoknppljpaaDoor
open Go.Sh Go.RowKit

theorem addS {cx cy : Bool} {a b c : ByteArray} {w : World} {K : K1} (h : a ++ b = c) (hs : a.size + b.size ≤ 1000000) : xBin Tryd.prog .add 9 cx (.string a) cy (.string b) w K = K (.string c) w := by
  subst h
  refine xBin_ok ?_
  have hn : ¬ (IntKind.i64.max < ((a.size + b.size : Nat) : Int)) := by
    have : IntKind.i64.max = 9223372036854775807 := by decide
    omega
  simp [eqGuard, binOp, Op.stringOp]
  omega
theorem strOf_append (a b : List (BitVec 8)) : strOf a ++ strOf b = strOf (a ++ b) := by
  apply ByteArray.ext
  simp [strOf, ByteArray.data_append]
theorem addB {cx cy : Bool} (a b : List (BitVec 8)) (hs : a.length + b.length ≤ 1000000) (w : World) (K : K1) : xBin Tryd.prog .add 9 cx (.string (strOf a)) cy (.string (strOf b)) w K = K (.string (strOf (a ++ b))) w :=
  addS (strOf_append a b) (by rw [strOf_size, strOf_size]; exact hs)
end Go.Proofs.YthhcmoknppljpaaDoor
end
section
set_option linter.unusedVariables false
set_option linter.unusedSimpArgs false
set_option maxHeartbeats 4000000
namespace Go.Proofs.YthhcmoknppljpaaDoor
open Go.Sh Go.RowKit

theorem itoa_call {args : List Value} {w : World} {K : K1} (h : Yld Tryd.prog 32 args.toArray w K) : xCall Tryd.prog (fnv 32) args w K := xCall_of0 Tryd.func32 (by kernel_rfl) (by kernel_rfl) h
theorem bstr_call {args : List Value} {w : World} {K : K1} (h : Yld Tryd.prog 34 args.toArray w K) : xCall Tryd.prog (fnv 34) args w K := xCall_of0 Tryd.func34 (by kernel_rfl) (by kernel_rfl) h
theorem cchk_call {args : List Value} {w : World} {K : K1} (h : Yld Tryd.prog 47 args.toArray w K) : xCall Tryd.prog (fnv 47) args w K := xCall_of0 Tryd.func47 (by kernel_rfl) (by kernel_rfl) h
/-- a builder of strings, above all else that is known -/
def BldIs (w0 w : World) (b : Nat) (l : List UInt8) : Prop := Lib.IsBuilder 65 5 b b (Lib.byteCells l) w ∧ Ext [] w0 w ∧ w0.heap.size ≤ b ∧ b ≤ w.heap.size
theorem BldIs.new (w : World) : BldIs w (w.alloc (.cells #[.pointer none, .slice none 0 0] 65)) w.heap.size [] := ⟨Lib.fresh_isBuilder _ _ w, Ext.alloc _ _ _, Nat.le_refl _, by simp⟩
theorem below_ext {w0 w w' : World} {b : Nat} (h : Ext [] w0 w) (hb : w0.heap.size ≤ b) (k : Below b w w') : Ext [] w0 w' :=
  ⟨k.os.trans h.os, k.tape.trans h.tape, k.output.trans h.output, Nat.le_trans h.size k.size, fun j hj hm => (k.block j (by omega)).trans (h.block j hj hm)⟩
theorem BldIs.ext0 {w0 w w' : World} {b : Nat} {l : List UInt8} (h : BldIs w0 w b l) (hb : b < w.heap.size) (hx : Ext [] w w') (hI : Lib.IsBuilder 65 5 b b (Lib.byteCells l) w') : BldIs w0 w' b l := ⟨hI, h.2.1.trans hx, h.2.2.1, by have := hx.size; omega⟩
/-- the same, once it has been written -/
def BldU (w0 w : World) (b : Nat) (l : List UInt8) : Prop := Lib.BuilderAt 65 5 b b (ptr b) (Lib.byteCells l) w ∧ Ext [] w0 w ∧ w0.heap.size ≤ b ∧ b ≤ w.heap.size
theorem BldU.is {w0 w : World} {b : Nat} {l : List UInt8} (h : BldU w0 w b l) : BldIs w0 w b l := ⟨.inr h.1, h.2⟩
theorem BldU.ext {w0 w w' : World} {b : Nat} {l : List UInt8} (h : BldU w0 w b l) (hx : Ext [] w w') : BldU w0 w' b l := by
  obtain ⟨⟨hB, v, hc, ho, hne⟩, h2, h3, h4⟩ := h
  have hlt : b < w.heap.size := (Array.getElem?_eq_some_iff.1 hc).1
  exact ⟨⟨hB, v, by rw [hx.block b hlt (by simp)]; exact hc, own_ext ho hx, hne⟩, h2.trans hx, h3, Nat.le_trans h4 hx.size⟩
/-- a builder and its row, each by itself -/
structure BuS (w0 w : World) (b : Nat) (v : Value) (m : List (BitVec 8)) : Prop where
  blk : Blk w b 65 [ptr b, v]
  own : OwnB w v m
  bv : b ∉ Go.Sh.blk v
  up : ∀ x ∈ Go.Sh.blk v, b ≤ x
  ext : Ext [] w0 w
  lo : w0.heap.size ≤ b
theorem BldU.s {w0 w : World} {b : Nat} {l : List UInt8} {m : List (BitVec 8)} (h : BldU w0 w b l) (hm : Lib.byteCells l = bys m) (hl : l.length = m.length) : ∃ v, BuS w0 w b v m := by
  obtain ⟨⟨hB, v, hc, ho, hne⟩, h2, h3, h4⟩ := h
  rw [hm] at ho
  have e : (bys m).length = m.length := by simp
  rw [e] at ho
  refine ⟨v, hc, Own.of ho, fun h => hne (by simpa [Go.Sh.blk] using h), fun x hx => ?_, h2, h3⟩
  exact (World.ownsRow.lt ho x (by simpa [Go.Sh.blk] using hx)).1
theorem BuS.is {w0 w : World} {b : Nat} {v : Value} {l : List UInt8} {m : List (BitVec 8)} (h : BuS w0 w b v m) (hm : Lib.byteCells l = bys m) : BldIs w0 w b l := by
  refine ⟨.inr ⟨Nat.le_refl _, v, h.blk, ?_, fun h' => h.bv (by simp [Go.Sh.blk, h'])⟩, h.ext, h.lo, Nat.le_of_lt h.blk.lt⟩
  rw [hm]
  have e : (bys m).length = m.length := by simp
  rw [e]
  exact Own.base h.own h.up
set_option maxRecDepth 100000 in
theorem X72_240 : Builder.X72 Tryd.prog Tryd.lays240_ren := { sizeBuilder := by kernel_rfl, liesBuilder := by kernel_rfl }
abbrev rsBldK_0 := (And.intro @ld_45 (And.intro @fa_65_1 (And.intro @st_45 (And.intro @bs_45_0 (And.intro @bs_45_1 @bs_45_2)))))
theorem wbyte_spec {w0 w : World} {b : Nat} {v : Value} {m : List (BitVec 8)} {x : BitVec 8} (h : BuS w0 w b v m) (hl : m.length ≤ 1000000) : Yld Tryd.prog n_strings_Builder_WriteByte #[ptr b, u8 x] w fun u w' => Ext (b :: blk v) w w' ∧ ∃ v', BuS w0 w' b v' (m ++ [x]) ∧ ∀ y ∈ blk v', y ∈ blk v ∨ w.heap.size ≤ y := by
  have k := fun i => h.blk.cell (i := i)
  have hlt := h.blk.lt
  refine strings_Builder_WriteByte_of ?_
  unfold strings_Builder_WriteByte
  refine cchk_call (Calls.mono (Any.Builder_copyCheck_used Tryd.lays240 X72_240 b w (by rw [k]; rfl)) ?_)
  rintro e w' ⟨rfl, rfl⟩
  refine ⟨_, rfl, ?_⟩
  simp (disch := (first | omega | decide | (simp only [rsD] <;> omega) | fail)) only [↓rsC, rsK, rsL, ↓rsBldK_0, tick_eq, tickV_eq, ne_eq, Int.reduceAdd, Int.reduceSub, Int.reduceMul, Int.reduceEq, Int.reduceLT, Int.reduceLE, Int.reduceToNat, Nat.reduceMul, Nat.reduceAdd, Nat.reduceSub, ←decide_not, k]
  refine appBl h.own (m := [x]) rfl rfl (by simp; omega) fun v1 w1 O1 F1 => ?_
  have B1 := h.blk.ext F1.ext h.bv
  have k1 := fun i => B1.cell (i := i)
  have f1 := fun i => B1.frozen (i := i)
  obtain ⟨a1, c1, hv1, _⟩ := O1.slice
  have st : ∀ (K : K1), xStore Tryd.prog 45 (.pointer (some ⟨b, 1, none⟩)) v1 w1 K = K undef (w1.setCell ⟨b, 1, none⟩ v1) := by
    intro K
    rw [hv1]
    simp (disch := (first | omega | decide | (simp only [rsD] <;> omega) | fail)) only [↓rsC, rsK, rsL, ↓rsBldK_0, tick_eq, tickV_eq, ne_eq, Int.reduceAdd, Int.reduceSub, Int.reduceMul, Int.reduceEq, Int.reduceLT, Int.reduceLE, Int.reduceToNat, Nat.reduceMul, Nat.reduceAdd, Nat.reduceSub, ←decide_not, k1, f1]
  simp (disch := (first | omega | decide | (simp only [rsD] <;> omega) | fail)) only [↓rsC, rsK, rsL, ↓rsBldK_0, tick_eq, tickV_eq, ne_eq, Int.reduceAdd, Int.reduceSub, Int.reduceMul, Int.reduceEq, Int.reduceLT, Int.reduceLE, Int.reduceToNat, Nat.reduceMul, Nat.reduceAdd, Nat.reduceSub, ←decide_not, k, k1, f1, st]
  have B2 := B1.set (i := 1) (v := v1)
  have hz := F1.ext.size
  have hnb : b ∉ blk v1 := F1.apart (G := [b]) (by simpa using h.bv) (by simpa using hlt) b (by simp)
  have X2 : Ext (b :: blk v) w' (w1.setCell ⟨b, 1, none⟩ v1) := (F1.ext.more fun _ hx => List.mem_cons_of_mem _ hx).set' (.inl (by simp))
  have B3 : Blk (w1.setCell ⟨b, 1, none⟩ v1) b 65 [ptr b, v1] := B2
  have O3 : OwnB (w1.setCell ⟨b, 1, none⟩ v1) v1 (m ++ [x]) := O1.ext (Ext.set (w := w1) (b := b)) (fun y hy hm => hnb (by rw [List.mem_singleton.1 hm] at hy; exact hy))
  have up : ∀ y ∈ blk v1, b ≤ y := fun y hy => by
    rcases F1.at' y hy with h1 | h1
    · exact h.up y h1
    · omega
  have X3 : Ext [] w0 (w1.setCell ⟨b, 1, none⟩ v1) := h.ext.new X2 (fun y hy => by
    rcases List.mem_cons.1 hy with rfl | hy
    · exact h.lo
    · exact Nat.le_trans h.lo (h.up y hy))
  generalize w1.setCell ⟨b, 1, none⟩ v1 = w2 at *
  have hB : BuS w0 w2 b v1 (m ++ [x]) := BuS.mk B3 O3 hnb up X3 h.lo
  refine ⟨X2, ?_⟩
  exact ⟨v1, hB, F1.at'⟩
theorem BuS.ext0 {w0 w w' : World} {b : Nat} {v : Value} {m : List (BitVec 8)} (h : BuS w0 w b v m) (hx : Ext [] w w') : BuS w0 w' b v m := { blk := h.blk.ext hx (by simp), own := h.own.ext0 hx, bv := h.bv, up := h.up, ext := h.ext.trans hx, lo := h.lo }
/-- a builder beside a row that is read -/
def TL (w0 w : World) (b : Nat) (a5 : Option Addr) (R : List Value) (m : List (BitVec 8)) : Prop :=
  ∃ v, BuS w0 w b v m ∧ RowAt w a5 R ∧ ∀ z o, a5 = some ⟨z, o, none⟩ → z < w.heap.size ∧ z ≠ b ∧ z ∉ blk v
theorem TL.put {w0 w : World} {b : Nat} {a5 : Option Addr} {R : List Value} {m : List (BitVec 8)} (x : BitVec 8) (h : TL w0 w b a5 R m) (hl : m.length ≤ 1000000) : Yld Tryd.prog n_strings_Builder_WriteByte #[ptr b, u8 x] w fun u w' => TL w0 w' b a5 R (m ++ [x]) := by
  obtain ⟨v, hB, hR, hA⟩ := h
  refine Yld.mono (wbyte_spec hB hl) ?_
  rintro u w' ⟨X, v', hB', hU⟩
  have hz := X.size
  refine ⟨v', hB', hR.ext X (fun z o hz hm => ?_), fun z o ha => ?_⟩
  · obtain ⟨h1, h2, h3⟩ := hA z o hz
    rcases List.mem_cons.1 hm with h | h
    · exact h2 h
    · exact h3 h
  · obtain ⟨h1, h2, h3⟩ := hA z o ha
    refine ⟨by omega, h2, fun hm => ?_⟩
    rcases hU z hm with h | h
    · exact h3 h
    · omega
theorem bld_ext {w w' : World} {T e : TypeId} {B b : Nat} {bs : List Value} (h : Lib.IsBuilder T e B b bs w) (hx : Ext [] w w') : Lib.IsBuilder T e B b bs w' := by
  have key : ∀ p, Lib.BuilderAt T e B b p bs w → Lib.BuilderAt T e B b p bs w' := by
    rintro p ⟨hB, v, hc, ho, hne⟩
    have hlt : b < w.heap.size := (Array.getElem?_eq_some_iff.1 hc).1
    exact ⟨hB, v, by rw [hx.block b hlt (by simp)]; exact hc, own_ext ho hx, hne⟩
  rcases h with h | h
  · exact .inl (key _ h)
  · exact .inr (key _ h)
theorem BldIs.ext {w0 w w' : World} {b : Nat} {l : List UInt8} (h : BldIs w0 w b l) (hx : Ext [] w w') : BldIs w0 w' b l := ⟨bld_ext h.1 hx, h.2.1.trans hx, h.2.2.1, Nat.le_trans h.2.2.2 hx.size⟩
/-- a number's digits -/
def dB (n : Nat) : List (BitVec 8) := (Lib.decDigits n).map UInt8.toBitVec
theorem strOf_dB (n : Nat) : strOf (dB n) = ⟨(Lib.decDigits n).toArray⟩ := by
  unfold strOf dB
  rw [List.map_map]
  congr 2
  exact (List.map_congr_left (g := id) fun x _ => rfl).trans (List.map_id _)
theorem dB_small {n : Nat} (h : n < 10) : dB n = [BitVec.ofNat 8 (48 + n)] := by
  unfold dB
  rw [Lib.decDigits, dif_pos h]
  rfl
theorem dB_big {n : Nat} (h : ¬ n < 10) : dB n = dB (n / 10) ++ [BitVec.ofNat 8 (48 + n % 10)] := by
  unfold dB
  rw [Lib.decDigits, dif_neg h, List.map_append]
  rfl
theorem dB_len : ∀ (k n : Nat), n < 10 ^ (k + 1) → (dB n).length ≤ k + 1
  | 0, n, h => by rw [dB_small (by simpa using h)]; simp
  | k + 1, n, h => by
    by_cases h1 : n < 10
    · rw [dB_small h1]; simp
    · rw [dB_big h1, List.length_append]
      have := dB_len k (n / 10) (by rw [Nat.pow_succ] at h; omega)
      simp only [List.length_cons, List.length_nil]
      omega
abbrev B8 (m : List (BitVec 8)) : List UInt8 := m.map UInt8.ofBitVec
theorem cells_B8 (m : List (BitVec 8)) : Lib.byteCells (B8 m) = bys m := by
  simp [Lib.byteCells, bys, B8]
def hexL : List (BitVec 8) := [48#8, 49#8, 50#8, 51#8, 52#8, 53#8, 54#8, 55#8, 56#8, 57#8, 97#8, 98#8, 99#8, 100#8, 101#8, 102#8]
def hexH (x : BitVec 8) : BitVec 8 := hexL.getD x.toNat 0#8
theorem digit_at (x : BitVec 8) (hx : x.toNat < 16) (w : World) (K : K1) : xIndex Tryd.prog 9 (.string { data := #[48, 49, 50, 51, 52, 53, 54, 55, 56, 57, 97, 98, 99, 100, 101, 102] }) (u8 x) w K = K (u8 (hexH x)) w := by
  have hc : x.toNat = 0 ∨ x.toNat = 1 ∨ x.toNat = 2 ∨ x.toNat = 3 ∨ x.toNat = 4 ∨ x.toNat = 5 ∨ x.toNat = 6 ∨ x.toNat = 7 ∨ x.toNat = 8 ∨ x.toNat = 9 ∨ x.toNat = 10 ∨ x.toNat = 11 ∨ x.toNat = 12 ∨ x.toNat = 13 ∨ x.toNat = 14 ∨ x.toNat = 15 := by omega
  have key : ∀ i, i < 16 → x.toNat = i → x = BitVec.ofNat 8 i := fun i hi h => BitVec.eq_of_toNat_eq (by rw [h, BitVec.toNat_ofNat]; omega)
  rcases hc with h | h | h | h | h | h | h | h | h | h | h | h | h | h | h | h <;>
    (have := key _ (by decide) h; subst this; exact xIndex_ok (by kernel_rfl))
theorem hi_lt (x : BitVec 8) : (x >>> (BitVec.ofNat 64 4).toNat).toNat < 16 := by
  have := x.isLt
  rw [show (BitVec.ofNat 64 4).toNat = 4 by decide, BitVec.toNat_ushiftRight, Nat.shiftRight_eq_div_pow]
  omega
theorem lo_lt (x : BitVec 8) : (x &&& BitVec.ofNat 8 15).toNat < 16 := by
  rw [BitVec.toNat_and, show (BitVec.ofNat 8 15).toNat = 2 ^ 4 - 1 by decide, Nat.and_two_pow_sub_one_eq_mod]
  omega
def hex2 (x : BitVec 8) : List (BitVec 8) := [hexH (x >>> (BitVec.ofNat 64 4).toNat), hexH (x &&& BitVec.ofNat 8 15)]
def hexB (l : List (BitVec 8)) : List (BitVec 8) := l.flatMap hex2
theorem hexB_len (l : List (BitVec 8)) : (hexB l).length = 2 * l.length := by
  induction l with
  | nil => rfl
  | cons x l ih => unfold hexB at *; rw [List.flatMap_cons, List.length_append, ih, List.length_cons]; simp [hex2]; omega
theorem hexB_succ {l : List (BitVec 8)} {j : Nat} (hj : j < l.length) : hexB (l.take (j + 1)) = hexB (l.take j) ++ hex2 l[j] := by
  unfold hexB
  rw [List.take_add_one, List.getElem?_eq_getElem hj, List.flatMap_append]
  simp
theorem itoa_s (i : Nat) (hi : i < 100) (w : World) : Gives Tryd.prog 32 #[i64 (i : Int)] w (.string (strOf (dB i))) := by
  refine Calls.mono (Tryd.strconv_Itoa_small i hi w) ?_
  rintro e w' ⟨rfl, rfl⟩
  exact ⟨_, rfl, by rw [strOf_dB], Ext.refl _ _⟩
end Go.Proofs.YthhcmoknppljpaaDoor
end
section
set_option linter.unusedVariables false
set_option linter.unusedSimpArgs false
set_option maxHeartbeats 4000000
namespace Go.Proofs.YthhcmoknppljpaaDoor
open Go.Sh Go.RowKit

theorem atF_below {T e : TypeId} {B b : Nat} {p : Value} {bs : List Value} {W W' : World} (h : Lib.BuilderAtF T e B b p bs W) (hb : Below W.heap.size W W') : Lib.BuilderAtF T e B b p bs W' := by
  have hlt := h.lt
  obtain ⟨hB, v, hv, hown, hne⟩ := h
  exact ⟨hB, v, (hb.block b hlt).trans hv, hown.kept (row := none) ⟨hb.os, hb.tape, hb.output, hb.size, fun k hk _ => hb.block k hk⟩ (Classical.em _), hne⟩
/-- a builder that holds bytes, above all else that is known -/
def Bd (w0 w : World) (b : Nat) (m : List (BitVec 8)) : Prop := Lib.IsBuilderF 65 5 b b (bys m) w ∧ Ext [] w0 w ∧ w0.heap.size ≤ b ∧ b < w.heap.size
theorem Bd.new (w : World) : Bd w (w.alloc (.cells #[.pointer none, .slice none 0 0] 65)) w.heap.size [] := ⟨Lib.IsBuilderF.of (Lib.fresh_isBuilder _ _ w), Ext.alloc _ _ _, Nat.le_refl _, by simp⟩
theorem Bd.ext {w0 w w' : World} {b : Nat} {m : List (BitVec 8)} (h : Bd w0 w b m) (hx : Ext [] w w') : Bd w0 w' b m :=
  ⟨h.1.elim (fun x => .inl (atF_below x hx.below)) (fun x => .inr (atF_below x hx.below)), h.2.1.trans hx, h.2.2.1, Nat.lt_of_lt_of_le h.2.2.2 hx.size⟩
abbrev Others (b : Nat) (w w' : World) : Prop := Lib.OthersKept 5 (some b) w w'
theorem others_blk {w w' : World} {b g : Nat} {e : TypeId} {cs : List Value} (h : Others b w w') (B : Blk w g e cs) (hb : g ≠ b) (he : e ≠ 5) : Blk w' g e cs := by
  refine h g _ B (by simpa using hb) fun c fz hc => ?_
  injection hc with h1 h2
  exact he h2
theorem bd_str {w0 w : World} {b : Nat} {m s : List (BitVec 8)} (h : Bd w0 w b m) (hl : m.length + s.length ≤ 1000000) : Yld Tryd.prog 31 #[ptr b, .string (strOf s)] w fun u w' => Bd w0 w' b (m ++ s) ∧ Others b w w' := by
  obtain ⟨hI, hx, h0, hb⟩ := h
  refine Calls.mono (Any.Builder_WriteString_k Tryd.lays166 Tryd.Builder_Extra_166 b b _ (strOf s) w hI (by rw [strOf_size]; simp; omega) (Nat.le_of_lt hb)) ?_
  rintro e w' ⟨rfl, hA, hB, hK⟩
  have e1 : bys m ++ Lib.strCells (strOf s) = bys (m ++ s) := by
    rw [bys, bys, List.map_append]
    congr 1
    simp [Lib.strCells, strOf, bys]
  rw [e1] at hA
  exact ⟨_, rfl, ⟨.inr hA, below_ext hx h0 hB, h0, hA.lt⟩, hK⟩
theorem bd_byte {w0 w : World} {b : Nat} {m : List (BitVec 8)} {x : BitVec 8} (h : Bd w0 w b m) (hl : m.length ≤ 1000000) : Yld Tryd.prog n_strings_Builder_WriteByte #[ptr b, u8 x] w fun u w' => Bd w0 w' b (m ++ [x]) ∧ Others b w w' := by
  obtain ⟨hI, hx, h0, hb⟩ := h
  refine Calls.mono (Any.Builder_WriteByte_k Tryd.lays167 Tryd.Builder_Extra_167 b b _ (x.toNat : Int) w hI (by simp; omega) (Nat.le_of_lt hb)) ?_
  rintro e w' ⟨rfl, hA, hB, hK⟩
  have e1 : bys m ++ [.int .u8 (x.toNat : Int)] = bys (m ++ [x]) := by simp [bys]
  rw [e1] at hA
  exact ⟨_, rfl, ⟨.inr hA, below_ext hx h0 hB, h0, hA.lt⟩, hK⟩
theorem bd_end {w0 w : World} {b : Nat} {m : List (BitVec 8)} (h : Bd w0 w b m) : Yld Tryd.prog 34 #[ptr b] w fun u w' => u = .string (strOf m) ∧ Ext [] w0 w' := by
  obtain ⟨hI, hx, h0, hb⟩ := h
  rw [← cells_B8] at hI
  refine Calls.mono (Any.Builder_String_any_k Tryd.lays169 Tryd.Builder_Extra_169 b b (B8 m) w hI (Nat.le_of_lt hb)) ?_
  rintro e w' ⟨rfl, _, hB, _⟩
  exact ⟨_, rfl, by rfl, below_ext hx h0 hB⟩
end Go.Proofs.YthhcmoknppljpaaDoor
end
section
set_option linter.unusedVariables false
set_option linter.unusedSimpArgs false
set_option maxHeartbeats 4000000
namespace Go.Proofs.YthhcmoknppljpaaDoor
open Go.Sh Go.RowKit

abbrev OwnN (w : World) (v : Value) (l : List GN) : Prop := Own w 49 2 v l.length (l.flatMap gnC)
abbrev OwnRt (w : World) (v : Value) (l : List GR) : Prop := Own w 56 2 v l.length (l.flatMap grC)
theorem appN {w : World} {K : K1} {v : Value} {l : List GN} {x : GN} {g : Nat} {cs : List Value} (hO : OwnN w v l) (hcs : cs = gnC x) (hl : l.length ≤ 1000000)
    (hK : ∀ v' w', OwnN w' v' (l ++ [x]) → Stp (blk v) (blk v') w w' → K v' w') (hg : g = w.heap.size := by first | rfl | (simp only [World.size_alloc, World.size_drew, World.size_setCell] <;> omega)) : xBuiltin Tryd.prog .append #[29, 29] 29 [false, false] [v, .slice (some ⟨g, 0, none⟩) 1 1] (w.alloc (.cells cs.toArray 49)) K := by
  subst hcs hg
  refine xAppL (s := 2) (n := l.length) (m := 1) (xs := l.flatMap gnC) (news := gnC x) (bytes := 48) (z := .agg #[.slice none 0 0, .slice none 0 0]) (by kernel_rfl) (by kernel_rfl) (by rfl) (by decide) hO (by rfl) (by simp [gnC, Value.oneCell']) (by omega) (by omega) fun v' w' h1 h2 => hK v' w' ?_ h2
  show Own w' 49 2 v' (l ++ [x]).length ((l ++ [x]).flatMap gnC)
  rw [List.length_append, List.flatMap_append]
  simpa using h1
theorem appR {w : World} {K : K1} {v : Value} {l : List GR} {x : GR} {g : Nat} {cs : List Value} (hO : OwnRt w v l) (hcs : cs = grC x) (hl : l.length ≤ 1000000)
    (hK : ∀ v' w', OwnRt w' v' (l ++ [x]) → Stp (blk v) (blk v') w w' → K v' w') (hg : g = w.heap.size := by first | rfl | (simp only [World.size_alloc, World.size_drew, World.size_setCell] <;> omega)) : xBuiltin Tryd.prog .append #[30, 30] 30 [false, false] [v, .slice (some ⟨g, 0, none⟩) 1 1] (w.alloc (.cells cs.toArray 56)) K := by
  subst hcs hg
  refine xAppL (s := 2) (n := l.length) (m := 1) (xs := l.flatMap grC) (news := grC x) (bytes := 24) (z := .agg #[.string ⟨#[]⟩, .int .i64 0]) (by kernel_rfl) (by kernel_rfl) (by rfl) (by decide) hO (by rfl) (by simp [grC, Value.oneCell']) (by omega) (by omega) fun v' w' h1 h2 => hK v' w' ?_ h2
  show Own w' 56 2 v' (l ++ [x]).length ((l ++ [x]).flatMap grC)
  rw [List.length_append, List.flatMap_append]
  simpa using h1
abbrev rsGrp2_0 := (And.intro @xu8_add (And.intro @xu8_lss (And.intro @xu16_add (And.intro @xu16_lss (And.intro @xu32_add (And.intro @xu32_lss (And.intro @xu64_add (And.intro @xu64_lss (And.intro @xi64_lss (And.intro @ld_3 (And.intro @ld_9 (And.intro @ld_22 (And.intro @ld_23 (And.intro @ld_29 (And.intro @ld_30 (And.intro @ld_32 (And.intro @ld_40 (And.intro @ld_45 
  (And.intro @lr_32 (And.intro @fa_25_0 (And.intro @fa_25_1 (And.intro @fa_32_0 (And.intro @fa_32_1 (And.intro @fa_52_0 (And.intro @fa_52_1 (And.intro @fa_55_0 (And.intro @fa_55_1 (And.intro @al_32 (And.intro @st_29 (And.intro @st_30 (And.intro @st_32 (And.intro @bd_32 (And.intro @bd_49_0 (And.intro @bd_49_0_1 (And.intro @bd_49_1 (And.intro @bd_56_0_1 
  (And.intro @ia_22 (And.intro @ia_23 (And.intro @ln_22 (And.intro @ln_23 (And.intro @bs_29_1 @bs_30_1)))))))))))))))))))))))))))))))))))))))))
theorem Of_spec17 {w : World} {na ra : Option Addr} {nc rc : Nat} {ns : List GN} {rs : List GR} (h : GIs w na nc ra rc ns rs) (hn : ns.length ≤ 100000) (hr : rs.length ≤ 100000) :
    Yld Tryd.prog n_loamlaw17_Of #[gV na nc ra rc ns rs] w fun u w' => Ext [] w w' ∧ ∃ na' nc' ra' rc', u = gV na' nc' ra' rc' ns rs ∧ GIs w' na' nc' ra' rc' ns rs := by
  refine loamlaw17_Of_of ?_
  unfold loamlaw17_Of
  simp (disch := (first | omega | decide | (simp only [rsD] <;> omega) | fail)) only [↓rsC, rsK, rsL, ↓rsGrp2_0, tick_eq, tickV_eq, ne_eq, Int.reduceAdd, Int.reduceSub, Int.reduceMul, Int.reduceEq, Int.reduceLT, Int.reduceLE, Int.reduceToNat, Nat.reduceMul, Nat.reduceAdd, Nat.reduceSub, ←decide_not, eq_self]
  simp only [World.size_alloc]
  have Bg0 : Blk (w.alloc (.cells #[.slice na ns.length nc, .slice ra rs.length rc] 25)) w.heap.size 25 [.slice na ns.length nc, .slice ra rs.length rc] := Blk.at rfl
  have X0 : Ext [] w (w.alloc (.cells #[.slice na ns.length nc, .slice ra rs.length rc] 25)) := Ext.alloc _ _ _
  have zs1 : (w.alloc (.cells #[.slice na ns.length nc, .slice ra rs.length rc] 25)).heap.size = w.heap.size + 1 := World.size_alloc _ _
  generalize w.alloc (.cells #[.slice na ns.length nc, .slice ra rs.length rc] 25) = y1 at *
  have Bt0 : Blk (y1.alloc (.cells #[.slice none 0 0, .slice none 0 0] 32)) (w.heap.size + 1) 32 [.slice none 0 0, .slice none 0 0] := by
    have := Blk.at (w := y1) (e := 32) (cs := [.slice none 0 0, .slice none 0 0]) rfl
    rw [zs1] at this
    exact this
  have X1 : Ext [] y1 (y1.alloc (.cells #[.slice none 0 0, .slice none 0 0] 32)) := Ext.alloc _ _ _
  have zs2 : (y1.alloc (.cells #[.slice none 0 0, .slice none 0 0] 32)).heap.size = w.heap.size + 1 + 1 := by rw [World.size_alloc, zs1]
  generalize y1.alloc (.cells #[.slice none 0 0, .slice none 0 0] 32) = y2 at *
  have Bx0 : Blk (y2.alloc (.cells #[.slice none 0 0, .slice none 0 0] 32)) (w.heap.size + 1 + 1) 32 [.slice none 0 0, .slice none 0 0] := by
    have := Blk.at (w := y2) (e := 32) (cs := [.slice none 0 0, .slice none 0 0]) rfl
    rw [zs2] at this
    exact this
  have X2 : Ext [] y2 (y2.alloc (.cells #[.slice none 0 0, .slice none 0 0] 32)) := Ext.alloc _ _ _
  have zs3 : (y2.alloc (.cells #[.slice none 0 0, .slice none 0 0] 32)).heap.size = w.heap.size + 1 + 1 + 1 := by rw [World.size_alloc, zs2]
  generalize y2.alloc (.cells #[.slice none 0 0, .slice none 0 0] 32) = y at *
  have Xy : Ext [] w y := X0.trans (X1.trans X2)
  have Bg := (Bg0.ext X1 (by simp)).ext X2 (by simp)
  have Bt := Bt0.ext X2 (by simp)
  generalize hhx : w.heap.size + 1 + 1 = hx at *
  generalize hht : w.heap.size + 1 = ht at *
  have hg := h.ext0 Xy
  have fresh : ∀ {w' : World}, Ext [hx] y w' → Ext [] w w' := fun F => Xy.new F (fun z hz => by simp only [List.mem_singleton] at hz; omega)
  have nilb : ∀ z, z ∉ blk (.slice none 0 0) := by simp [blk, Value.ownBlock]
  refine xLoop_n ns.length (fun j => [i64 (j : Int)]) (fun j w' => Ext [hx] y w' ∧ ∃ v, OwnN w' v (ns.take j) ∧ Blk w' hx 32 [v, .slice none 0 0] ∧ ∀ z ∈ blk v, y.heap.size ≤ z) rfl ⟨Ext.refl _ _, _, Own.nil, Bx0, fun z hz => absurd hz (nilb z)⟩ ?_ ?_
  · rintro j hj u v1 hu ⟨F, v, O, B, U⟩ nxt hnx
    simp only [List.map_cons, List.map_nil, List.cons.injEq, and_true] at hu
    rw [hu]
    have kg := fun i => (Bg.ext F (by simp; omega)).cell (i := i)
    have kgd := fun i => ((Bg.ext F (by simp; omega)).ext (Ext.drew [] v1) (by simp)).cell (i := i)
    have kbd := fun i => (B.ext (Ext.drew [] v1) (by simp)).cell (i := i)
    have hgn := (h.ext0 ((fresh F).trans (Ext.drew [] v1))).nr
    obtain ⟨b1, o1, rfl, z1, c1, c2⟩ := gn_at hgn hj
    have hlen : (ns.take j).length = j := by rw [List.length_take]; omega
    have hsu : ns.take (j + 1) = ns.take j ++ [ns[j]] := by rw [List.take_add_one, List.getElem?_eq_getElem hj]; rfl
    obtain ⟨a0, c0, hv0, _⟩ := O.slice
    unfold loamlaw17_Of_l1
    subst hv0
    have Oa := O.ext0 (Ext.drew [] v1)
    have Ba := B.ext (Ext.drew [] v1) (by simp)
    have kba := fun i => (Ba.ext (Ext.alloc [] _ (.cells (gnC ns[j]).toArray 49)) (by simp)).cell (i := i)
    simp (disch := (first | omega | decide | (simp only [rsD] <;> omega) | fail)) only [↓rsC, rsK, rsL, ↓rsGrp2_0, tick_eq, tickV_eq, ne_eq, Int.reduceAdd, Int.reduceSub, Int.reduceMul, Int.reduceEq, Int.reduceLT, Int.reduceLE, Int.reduceToNat, Nat.reduceMul, Nat.reduceAdd, Nat.reduceSub, ←decide_not, kg, kgd, kbd, c1, c2, kba]
    refine appN Oa rfl (by omega) fun v' w2 O2 T2 => ?_
    have hv := fun hm => U hx hm
    have B2 := Ba.ext T2.ext (fun hm => by have := hv hm; omega)
    obtain ⟨a3, c3, hv3, _⟩ := O2.slice
    have k2 := fun i => B2.cell (i := i)
    have f2 := fun i => B2.frozen (i := i)
    have hxv : hx ∉ blk v' := fun hm => by
      rcases T2.at' hx hm with h1 | h1
      · have := hv h1; omega
      · have := F.size
        simp only [World.size_alloc, World.size_drew] at h1
        omega
    have up2 : ∀ z ∈ blk v', y.heap.size ≤ z := fun z hz => by
      rcases T2.at' z hz with h1 | h1
      · exact U z h1
      · have := F.size
        simp only [World.size_alloc, World.size_drew] at h1
        omega
    have F2 : Ext [hx] y w2 := ((F.trans (Ext.drew _ v1))).cut T2.ext (fun z hz => .inr (U z hz))
    subst hv3
    simp (disch := (first | omega | decide | (simp only [rsD] <;> omega) | fail)) only [↓rsC, rsK, rsL, ↓rsGrp2_0, tick_eq, tickV_eq, ne_eq, Int.reduceAdd, Int.reduceSub, Int.reduceMul, Int.reduceEq, Int.reduceLT, Int.reduceLE, Int.reduceToNat, Nat.reduceMul, Nat.reduceAdd, Nat.reduceSub, ←decide_not, kg, kgd, kbd, c1, c2, kba, k2, f2]
    have B3 := B2.set (i := 0) (v := .slice a3 (ns.take j ++ [ns[j]]).length c3)
    have O3 := O2.ext (Ext.set (w := w2) (b := hx) (o := 0) (v := .slice a3 (ns.take j ++ [ns[j]]).length c3)) (fun z hz hm => by simp only [List.mem_singleton] at hm; subst hm; exact hxv hz)
    rw [← hsu] at O3 B3 up2 ⊢
    exact hnx _ ⟨F2.set' (.inl (by simp)), _, O3, B3, up2⟩
  rintro u v1 hu ⟨F, v, O, B, U⟩ nxt
  simp only [List.map_cons, List.map_nil, List.cons.injEq, and_true] at hu
  rw [hu]
  rw [List.take_length] at O
  have kg := fun i => (Bg.ext F (by simp; omega)).cell (i := i)
  unfold loamlaw17_Of_l1
  simp (disch := (first | omega | decide | (simp only [rsD] <;> omega) | fail)) only [↓rsC, rsK, rsL, ↓rsGrp2_0, tick_eq, tickV_eq, ne_eq, Int.reduceAdd, Int.reduceSub, Int.reduceMul, Int.reduceEq, Int.reduceLT, Int.reduceLE, Int.reduceToNat, Nat.reduceMul, Nat.reduceAdd, Nat.reduceSub, ←decide_not, kg]
  refine xLoop_n rs.length (fun j => [i64 (j : Int)]) (fun j w' => Ext [hx] y w' ∧ OwnN w' v ns ∧ ∃ v2, OwnRt w' v2 (rs.take j) ∧ Blk w' hx 32 [v, v2] ∧ (∀ z ∈ blk v2, y.heap.size ≤ z) ∧ ∀ z ∈ blk v2, z ∉ blk v) rfl ⟨F, O, _, Own.nil, B, fun z hz => absurd hz (nilb z), fun z hz => absurd hz (nilb z)⟩ ?_ ?_
  · rintro j hj u v3 hu ⟨F3, O3, v2, R3, B3, U3, D3⟩ nxt hnx
    simp only [List.map_cons, List.map_nil, List.cons.injEq, and_true] at hu
    rw [hu]
    have kg3 := fun i => (Bg.ext F3 (by simp; omega)).cell (i := i)
    have kgd := fun i => ((Bg.ext F3 (by simp; omega)).ext (Ext.drew [] v3) (by simp)).cell (i := i)
    have hgr := (h.ext0 ((fresh F3).trans (Ext.drew [] v3))).rr
    obtain ⟨b1, o1, rfl, z1, c1, c2⟩ := gr_at hgr hj
    have hlen : (rs.take j).length = j := by rw [List.length_take]; omega
    have hsu : rs.take (j + 1) = rs.take j ++ [rs[j]] := by rw [List.take_add_one, List.getElem?_eq_getElem hj]; rfl
    obtain ⟨a0, c0, hv0, _⟩ := R3.slice
    unfold loamlaw17_Of_l2
    subst hv0
    have Ra := R3.ext0 (Ext.drew [] v3)
    have Ba := B3.ext (Ext.drew [] v3) (by simp)
    have kbd := fun i => Ba.cell (i := i)
    have kba := fun i => (Ba.ext (Ext.alloc [] _ (.cells (grC rs[j]).toArray 56)) (by simp)).cell (i := i)
    simp (disch := (first | omega | decide | (simp only [rsD] <;> omega) | fail)) only [↓rsC, rsK, rsL, ↓rsGrp2_0, tick_eq, tickV_eq, ne_eq, Int.reduceAdd, Int.reduceSub, Int.reduceMul, Int.reduceEq, Int.reduceLT, Int.reduceLE, Int.reduceToNat, Nat.reduceMul, Nat.reduceAdd, Nat.reduceSub, ←decide_not, kg, kg3, kgd, kbd, c1, c2, kba]
    refine appR Ra rfl (by omega) fun v' w2 O2 T2 => ?_
    have hv := fun hm => U3 hx hm
    have B2 := Ba.ext T2.ext (fun hm => by have := hv hm; omega)
    have N2 := (O3.ext0 (Ext.drew [] v3)).ext T2.ext (fun z hz hm => D3 z hm hz)
    obtain ⟨a3, c3, hv3, _⟩ := O2.slice
    have k2 := fun i => B2.cell (i := i)
    have f2 := fun i => B2.frozen (i := i)
    have zF := F3.size
    have hxv : hx ∉ blk v' := fun hm => by
      rcases T2.at' hx hm with h1 | h1
      · have := hv h1; omega
      · simp only [World.size_alloc, World.size_drew] at h1
        omega
    have up2 : ∀ z ∈ blk v', y.heap.size ≤ z := fun z hz => by
      rcases T2.at' z hz with h1 | h1
      · exact U3 z h1
      · simp only [World.size_alloc, World.size_drew] at h1
        omega
    have dd : ∀ z ∈ blk v', z ∉ blk v := fun z hz hm => by
      rcases T2.at' z hz with h1 | h1
      · exact D3 z h1 hm
      · have := O3.lt z hm
        simp only [World.size_alloc, World.size_drew] at h1
        omega
    have hxn : hx ∉ blk v := fun hm => by have := U hx hm; omega
    have F2 : Ext [hx] y w2 := ((F3.trans (Ext.drew _ v3))).cut T2.ext (fun z hz => .inr (U3 z hz))
    subst hv3
    simp (disch := (first | omega | decide | (simp only [rsD] <;> omega) | fail)) only [↓rsC, rsK, rsL, ↓rsGrp2_0, tick_eq, tickV_eq, ne_eq, Int.reduceAdd, Int.reduceSub, Int.reduceMul, Int.reduceEq, Int.reduceLT, Int.reduceLE, Int.reduceToNat, Nat.reduceMul, Nat.reduceAdd, Nat.reduceSub, ←decide_not, kg, kg3, kgd, kbd, c1, c2, kba, k2, f2]
    have B4 := B2.set (i := 1) (v := .slice a3 (rs.take j ++ [rs[j]]).length c3)
    have Xs : Ext [hx] w2 (w2.setCell ⟨hx, 1, none⟩ (.slice a3 (rs.take j ++ [rs[j]]).length c3)) := Ext.set (w := w2) (b := hx)
    have O4 := O2.ext Xs (fun z hz hm => by simp only [List.mem_singleton] at hm; subst hm; exact hxv hz)
    have N4 := N2.ext Xs (fun z hz hm => by simp only [List.mem_singleton] at hm; subst hm; exact hxn hz)
    rw [← hsu] at O4 B4 N4 up2 dd ⊢
    exact hnx _ ⟨F2.set' (.inl (by simp)), N4, _, O4, B4, up2, dd⟩
  · rintro u v3 hu ⟨F3, O3, v2, R3, B3, U3, D3⟩ nxt
    simp only [List.map_cons, List.map_nil, List.cons.injEq, and_true] at hu
    rw [hu]
    rw [List.take_length] at R3
    have kg3 := fun i => (Bg.ext F3 (by simp; omega)).cell (i := i)
    have kb3 := fun i => B3.cell (i := i)
    have Bt3 := Bt.ext F3 (by simp; omega)
    have kt3 := fun i => Bt3.cell (i := i)
    have ft3 := fun i => Bt3.frozen (i := i)
    obtain ⟨a4, c4, rfl, hc4, _, hn4, hr4, _⟩ := O3.slice
    obtain ⟨a5, c5, rfl, hc5, _, hn5, hr5, _⟩ := R3.slice
    have X4 := fresh F3
    have hok := fun x hx => (h.ok x hx).ext0 X4
    have blt := fun (z : Nat) (hz : z ∈ blk (.slice a4 ns.length c4)) => U z hz
    have blt2 := fun (z : Nat) (hz : z ∈ blk (.slice a5 rs.length c5)) => U3 z hz
    unfold loamlaw17_Of_l2
    simp (disch := (first | omega | decide | (simp only [rsD] <;> omega) | fail)) only [↓rsC, rsK, rsL, ↓rsGrp2_0, tick_eq, tickV_eq, ne_eq, Int.reduceAdd, Int.reduceSub, Int.reduceMul, Int.reduceEq, Int.reduceLT, Int.reduceLE, Int.reduceToNat, Nat.reduceMul, Nat.reduceAdd, Nat.reduceSub, ←decide_not, kg, kg3, kb3, kt3, ft3]
    have Xs : Ext [ht] v3 ((v3.setCell ⟨ht, 0, none⟩ (.slice a4 ns.length c4)).setCell ⟨ht, 1, none⟩ (.slice a5 rs.length c5)) := (Ext.set (w := v3) (b := ht)).trans Ext.set
    have hX : Ext [] w ((v3.setCell ⟨ht, 0, none⟩ (.slice a4 ns.length c4)).setCell ⟨ht, 1, none⟩ (.slice a5 rs.length c5)) := X4.new Xs (fun z hz => by simp only [List.mem_singleton] at hz; omega)
    refine ⟨hX, a4, c4, a5, c5, by trivial, ⟨hr4.ext Xs (fun z o hz hm => ?_), hc4, hn4, hr5.ext Xs (fun z o hz hm => ?_), hc5, hn5, fun x hx => (h.ok x hx).ext0 hX⟩⟩
    · have := blt z (by subst hz; simp [blk, Value.ownBlock])
      simp only [List.mem_singleton] at hm
      omega
    · have := blt2 z (by subst hz; simp [blk, Value.ownBlock])
      simp only [List.mem_singleton] at hm
      omega
end Go.Proofs.YthhcmoknppljpaaDoor
end
section
set_option linter.unusedVariables false
set_option linter.unusedSimpArgs false
set_option maxHeartbeats 4000000
namespace Go.Proofs.YthhcmoknppljpaaDoor
open Go.Sh Go.RowKit

theorem MemIs.blt {w : World} {base g : Nat} {a : Option Addr} {c : Nat} {ws : List (BitVec 64)} (h : MemIs w base g a c ws) (hw : ws ≠ []) : ∀ x ∈ blkOf a, x < w.heap.size := by
  rcases h.own with e | ⟨gs, rest, rfl, _, hB, _⟩
  · exact absurd e hw
  · simp [blkOf, hB.lt]
section
variable {w : World} {base s g : Nat} {a : Option Addr} {c : Nat} {ws : List (BitVec 64)} {b t e : Nat}
def mayP (b t e n : Int) : Prop := 0 ≤ b ∧ b ≤ t ∧ t ≤ e ∧ e ≤ n
instance (b t e n : Int) : Decidable (mayP b t e n) := by unfold mayP; infer_instance
/-! a place's header -/
end
end Go.Proofs.YthhcmoknppljpaaDoor
end
section
set_option linter.unusedVariables false
set_option linter.unusedSimpArgs false
set_option maxHeartbeats 4000000
namespace Go.Proofs.YthhcmoknppljpaaDoor
open Go.Sh Go.RowKit

abbrev rsSpc2_0 := (And.intro @ln_40 (And.intro @sh_40 (And.intro @sl_40 @sm_40)))
theorem ClipI_spec {w : World} {b : Option Addr} {n m : Nat} (hm : n ≤ m) : Gives Tryd.prog n_slices_Clip_int_int #[.slice b n m] w (.slice b n n) := by
  refine slices_Clip_int_int_of ?_
  unfold slices_Clip_int_int
  simp (disch := (first | omega | decide | (simp only [rsD] <;> omega) | fail)) only [↓rsC, rsK, rsL, ↓rsSpc2_0, tick_eq, tickV_eq, ne_eq, Int.reduceAdd, Int.reduceSub, Int.reduceMul, Int.reduceEq, Int.reduceLT, Int.reduceLE, Int.reduceToNat, Nat.reduceMul, Nat.reduceAdd, Nat.reduceSub, ←decide_not, eq_self]
  exact ⟨by trivial, by (repeat (first | with_reducible exact Ext.refl _ _ | with_reducible assumption | with_reducible refine Ext.alloc' ?_ _ | with_reducible refine Ext.drew' ?_ | with_reducible refine Ext.set' ?_ ?_ | exact .inr (by first | omega | (simp only [World.size_alloc, World.size_drew, World.size_setCell] <;> omega)) | refine Ext.trans ?_ (by with_reducible assumption)))⟩
section
end
end Go.Proofs.YthhcmoknppljpaaDoor
end
section
set_option linter.unusedVariables false
set_option linter.unusedSimpArgs false
set_option maxHeartbeats 4000000
namespace Go.Proofs.YthhcmoknppljpaaDoor
open Go.Sh Go.RowKit

section
end
end Go.Proofs.YthhcmoknppljpaaDoor
end
section
set_option linter.unusedVariables false
set_option linter.unusedSimpArgs false
set_option maxHeartbeats 4000000
namespace Go.Proofs.YthhcmoknppljpaaDoor
open Go.Sh Go.RowKit

theorem geS {cx cy : Bool} (a b : ByteArray) (w : World) (K : K1) : xBin Tryd.prog .geq 9 cx (.string a) cy (.string b) w K = K (.bool (!Op.bytesLess a.toList b.toList)) w := xBin_ok (by simp [eqGuard, binOp, Op.stringOp])
theorem ixS (l : List (BitVec 8)) {j : Nat} (hj : j < l.length) (w : World) (K : K1) : xIndex Tryd.prog 9 (.string (strOf l)) (i64 (j : Int)) w K = K (u8 l[j]) w := by
  refine xIndex_ok ?_
  have h := run_index_string (P := Tryd.prog) (w := w) 9 (strOf l) .i64 (j : Int) (by kernel_rfl)
  have hs := strOf_size (l := l)
  rw [h, dif_pos ⟨by omega, by omega⟩]
  have e : (strOf l)[((j : Int)).toNat]'(by omega) = UInt8.ofBitVec l[j] := by
    simp [strOf, ByteArray.getElem_eq_getElem_data]
  exact congrArg (fun z : UInt8 => Result.ok (Value.int .u8 (z.toNat : Int)) w) e
theorem its_at {w : World} {l : List Int} {a : Option Addr} {k : Nat} (h : RowAt w a (its l)) (hk : k < l.length) : ∃ b o, a = some ⟨b, o, none⟩ ∧ b < w.heap.size ∧ w.cell? ⟨b, o + k, none⟩ = some (i64 l[k]) := by
  obtain ⟨b, o, h1, h2, h3⟩ := h.at (i := k) (by simpa using hk)
  simp only [List.getElem_map] at h3
  exact ⟨b, o, h1, h2, h3⟩
/-- a node's words -/
def gsz (x : GN) : Nat := 1 + x.p.length + (x.d.length + 7) / 8
end Go.Proofs.YthhcmoknppljpaaDoor
end
section
set_option linter.unusedVariables false
set_option linter.unusedSimpArgs false
set_option maxHeartbeats 4000000
namespace Go.Proofs.YthhcmoknppljpaaDoor
open Go.Sh Go.RowKit

section
end
end Go.Proofs.YthhcmoknppljpaaDoor
end
section
set_option linter.unusedVariables false
set_option linter.unusedSimpArgs false
set_option maxHeartbeats 4000000
namespace Go.Proofs.YthhcmoknppljpaaDoor
open Go.Sh Go.RowKit

theorem RowAt.apart {w0 w w' : World} {a : Option Addr} {cs : List Value} {M : List Nat} (h : RowAt w0 a cs) (h0 : Ext [] w0 w) (hx : Ext M w w') (hm : ∀ g ∈ M, w0.heap.size ≤ g) : RowAt w' a cs := by
  by_cases hc : cs = []
  · rw [hc]; exact RowAt.nil
  · obtain ⟨b, o, rfl, hb, _⟩ := h.get hc
    refine (h.ext0 h0).ext hx fun b' o' e hmem => ?_
    cases e
    have := hm b hmem
    omega
section
end
end Go.Proofs.YthhcmoknppljpaaDoor
end
section
set_option linter.unusedVariables false
set_option linter.unusedSimpArgs false
set_option maxHeartbeats 4000000
namespace Go.Proofs.YthhcmoknppljpaaDoor
open Go.Sh Go.RowKit Go.ChangeShapes Go.WideShapes Go.ChangeAt

end Go.Proofs.YthhcmoknppljpaaDoor
end
section
set_option linter.unusedVariables false
set_option linter.unusedSimpArgs false
set_option maxHeartbeats 4000000
namespace Go.Proofs.YthhcmoknppljpaaDoor
open Go.Sh Go.RowKit

abbrev z8 : BitVec 8 := BitVec.ofNat 8 0
def cutN (l : List (BitVec 8)) : List (BitVec 8) := l.takeWhile fun c => decide (c ≠ z8)
def nmOk (l : List (BitVec 8)) : Prop := 1 ≤ l.length ∧ l.length ≤ 32 ∧ z8 ∉ l
instance (l : List (BitVec 8)) : Decidable (nmOk l) := by unfold nmOk; infer_instance
def fixN (l : List (BitVec 8)) : List (BitVec 8) := if nmOk l then l ++ List.replicate (32 - l.length) z8 else List.replicate 32 z8
end Go.Proofs.YthhcmoknppljpaaDoor
end
section
set_option linter.unusedVariables false
set_option linter.unusedSimpArgs false
set_option maxHeartbeats 4000000
namespace Go.Proofs.YthhcmoknppljpaaDoor
open Go.Sh Go.RowKit

/-- a graph that is not too big to be looked at -/
structure FewH (ns : List GN) (rs : List GR) : Prop where
  n : ns.length ≤ 9000
  r : rs.length ≤ 9000
  x : ∀ x ∈ ns, x.p.length ≤ 9000 ∧ x.d.length ≤ 9000
theorem FewG.h {ns : List GN} {rs : List GR} (h : FewG ns rs) : FewH ns rs := ⟨by have := h.n; omega, by have := h.r; omega, fun x hx => by have := h.x x hx; omega⟩
def firstE : List Int → Int
  | [] => 0
  | e :: l => if e = 0 then firstE l else e
theorem firstE_app {l m : List Int} (h : ∀ e ∈ l, e = 0) : firstE (l ++ m) = firstE m := by
  induction l with
  | nil => rfl
  | cons e l ih =>
    rw [List.cons_append, firstE, if_pos (h e (by simp))]
    exact ih fun x hx => h x (by simp [hx])
theorem firstE_at {l : List Int} {j : Nat} {e : Int} (hj : l[j]? = some e) (hq : ∀ i x, i < j → l[i]? = some x → x = 0) (he : e ≠ 0) : firstE l = e := by
  induction l generalizing j with
  | nil => simp at hj
  | cons x l ih =>
    cases j with
    | zero =>
      simp only [List.getElem?_cons_zero, Option.some.injEq] at hj
      subst hj
      rw [firstE, if_neg he]
    | succ j =>
      rw [firstE, if_pos (hq 0 x (by omega) rfl)]
      exact ih hj fun i y hi hy => hq (i + 1) y (by omega) hy
theorem firstE_zero {l : List Int} : firstE l = 0 ↔ ∀ e ∈ l, e = 0 := by
  induction l with
  | nil => simp [firstE]
  | cons e l ih =>
    rw [firstE]
    by_cases h : e = 0
    · rw [if_pos h, ih]
      simp [h]
    · rw [if_neg h]
      simp [h]
def ndE (n : Nat) (x : GN) : Int := if ∀ p ∈ x.p, 0 ≤ p ∧ p ≤ n then (if x.p.length ≤ 64 ∧ x.d.length ≤ 1024 then 0 else 3) else 1
def prevL (rs : List GR) (i : Nat) : Bool := match rs[i - 1]?, rs[i]? with
  | some a, some b => Op.bytesLess (strOf a.s).toList (strOf b.s).toList
  | _, _ => false
def rtE (n : Nat) (rs : List GR) (i : Nat) : Int := match rs[i]? with
  | none => 0
  | some r => if nmOk r.s ∧ (i = 0 ∨ prevL rs i = true) then (if 0 ≤ r.to ∧ r.to ≤ n then 0 else 1) else 4
def chkV (ns : List GN) (rs : List GR) : Int := firstE (ns.map (ndE ns.length) ++ ((if rs.length ≤ 64 then (0 : Int) else 3) :: (List.range rs.length).map (rtE ns.length rs)))
theorem prevL_get {rs : List GR} {i : Nat} (h0 : i ≠ 0) (hi : i < rs.length) : prevL rs i = Op.bytesLess (strOf (rs[i - 1]'(by omega)).s).toList (strOf rs[i].s).toList := by
  unfold prevL
  rw [List.getElem?_eq_getElem hi, List.getElem?_eq_getElem (show i - 1 < rs.length by omega)]
theorem rtE_get {n : Nat} {rs : List GR} {i : Nat} (hi : i < rs.length) : rtE n rs i = if nmOk rs[i].s ∧ (i = 0 ∨ prevL rs i = true) then (if 0 ≤ rs[i].to ∧ rs[i].to ≤ n then 0 else 1) else 4 := by
  unfold rtE
  rw [List.getElem?_eq_getElem hi]
section
variable {ns : List GN} {rs : List GR}
theorem chk_node {j : Nat} {e : Int} (hj : j < ns.length) (hq : ∀ i (hi : i < ns.length), i < j → ndE ns.length ns[i] = 0) (he : ndE ns.length ns[j] = e) (hne : e ≠ 0) : chkV ns rs = e := by
  unfold chkV
  refine firstE_at (j := j) ?_ (fun i x hi hx => ?_) hne
  · rw [List.getElem?_append_left (by simpa using hj), List.getElem?_map, List.getElem?_eq_getElem hj, Option.map_some, he]
  · rw [List.getElem?_append_left (by rw [List.length_map]; omega), List.getElem?_map, List.getElem?_eq_getElem (by omega)] at hx
    simp only [Option.map_some, Option.some.injEq] at hx
    rw [← hx]
    exact hq i (by omega) hi
theorem chk_nodes (hq : ∀ i (hi : i < ns.length), ndE ns.length ns[i] = 0) : chkV ns rs = firstE ((if rs.length ≤ 64 then (0 : Int) else 3) :: (List.range rs.length).map (rtE ns.length rs)) := by
  unfold chkV
  refine firstE_app fun e he => ?_
  obtain ⟨x, hx, rfl⟩ := List.mem_map.1 he
  obtain ⟨i, hi, rfl⟩ := List.getElem_of_mem hx
  exact hq i hi
theorem chk_len (hq : ∀ i (hi : i < ns.length), ndE ns.length ns[i] = 0) (h : 64 < rs.length) : chkV ns rs = 3 := by
  rw [chk_nodes hq, if_neg (by omega), firstE, if_neg (by decide)]
theorem chk_root {j : Nat} {e : Int} (hq : ∀ i (hi : i < ns.length), ndE ns.length ns[i] = 0) (h : ¬ 64 < rs.length) (hr : ∀ i, i < j → rtE ns.length rs i = 0) (hj : j < rs.length) (he : rtE ns.length rs j = e) (hne : e ≠ 0) : chkV ns rs = e := by
  rw [chk_nodes hq, if_pos (by omega), firstE, if_pos rfl]
  refine firstE_at (j := j) ?_ (fun i x hi hx => ?_) hne
  · rw [List.getElem?_map, List.getElem?_range hj, Option.map_some, he]
  · rw [List.getElem?_map, List.getElem?_range (by omega)] at hx
    simp only [Option.map_some, Option.some.injEq] at hx
    rw [← hx]
    exact hr i hi
theorem chk_ok (hq : ∀ i (hi : i < ns.length), ndE ns.length ns[i] = 0) (h : ¬ 64 < rs.length) (hr : ∀ i, i < rs.length → rtE ns.length rs i = 0) : chkV ns rs = 0 := by
  rw [chk_nodes hq, if_pos (by omega), firstE, if_pos rfl, firstE_zero]
  intro e he
  obtain ⟨i, hi, rfl⟩ := List.mem_map.1 he
  exact hr i (List.mem_range.1 hi)
theorem nmOk_iff {s : List (BitVec 8)} : nmOk s ↔ 1 ≤ s.length ∧ s.length ≤ 32 ∧ ∀ c ∈ s, c ≠ BitVec.ofNat 8 0 := by
  unfold nmOk
  constructor
  · rintro ⟨h1, h2, h3⟩; exact ⟨h1, h2, fun c hc e => h3 (by rw [← (show c = z8 from e)]; exact hc)⟩
  · rintro ⟨h1, h2, h3⟩; exact ⟨h1, h2, fun h => h3 _ h rfl⟩
end
abbrev rsGck_0 := (And.intro @xu8_add (And.intro @xu8_eql (And.intro @xu8_lss (And.intro @xu8_gtr (And.intro @xu16_add (And.intro @xu16_eql (And.intro @xu16_lss (And.intro @xu16_gtr (And.intro @xu32_add (And.intro @xu32_eql (And.intro @xu32_lss (And.intro @xu32_gtr (And.intro @xu64_add (And.intro @xu64_eql (And.intro @xu64_lss (And.intro @xu64_gtr 
  (And.intro @xi64_lss (And.intro @xi64_gtr (And.intro @xi64_eql @ln_9)))))))))))))))))))
theorem GoodX_spec (l : List (BitVec 8)) (w : World) : Gives Tryd.prog n_loamref17_Good #[.string (strOf l)] w (.bool (decide (nmOk l))) := by
  have hs := strOf_size (l := l)
  refine loamref17_Good_of ?_
  unfold loamref17_Good
  by_cases h1 : (strOf l).size < 1
  · simp (disch := (first | omega | decide | (simp only [rsD] <;> omega) | fail)) only [↓rsC, rsK, rsL, ↓rsGck_0, tick_eq, tickV_eq, ne_eq, Int.reduceAdd, Int.reduceSub, Int.reduceMul, Int.reduceEq, Int.reduceLT, Int.reduceLE, Int.reduceToNat, Nat.reduceMul, Nat.reduceAdd, Nat.reduceSub, ←decide_not, eq_self]
    exact ⟨by rw [decide_eq_false (fun h => by have := h.1; omega)], Ext.refl _ _⟩
  by_cases h2 : 32 < (strOf l).size
  · simp (disch := (first | omega | decide | (simp only [rsD] <;> omega) | fail)) only [↓rsC, rsK, rsL, ↓rsGck_0, tick_eq, tickV_eq, ne_eq, Int.reduceAdd, Int.reduceSub, Int.reduceMul, Int.reduceEq, Int.reduceLT, Int.reduceLE, Int.reduceToNat, Nat.reduceMul, Nat.reduceAdd, Nat.reduceSub, ←decide_not, eq_self]
    exact ⟨by rw [decide_eq_false (fun h => by have := h.2.1; omega)], Ext.refl _ _⟩
  simp (disch := (first | omega | decide | (simp only [rsD] <;> omega) | fail)) only [↓rsC, rsK, rsL, ↓rsGck_0, tick_eq, tickV_eq, ne_eq, Int.reduceAdd, Int.reduceSub, Int.reduceMul, Int.reduceEq, Int.reduceLT, Int.reduceLE, Int.reduceToNat, Nat.reduceMul, Nat.reduceAdd, Nat.reduceSub, ←decide_not, eq_self]
  refine xLoop_n l.length (fun j => [i64 (j : Int)]) (fun j w' => Ext [] w w' ∧ ∀ i (hi : i < l.length), i < j → l[i] ≠ BitVec.ofNat 8 0) rfl ⟨Ext.refl _ _, by intro i _ hi; omega⟩ ?_ ?_
  · intro j hj u v1 hu ⟨F, hq⟩ nxt hnx
    simp only [List.map_cons, List.map_nil, List.cons.injEq, and_true] at hu
    rw [hu]
    have hix := fun w K => ixS l hj w K
    unfold loamref17_Good_l1
    by_cases hz : l[j] = BitVec.ofNat 8 0
    · have hno : ¬ nmOk l := fun h => h.2.2 (by show BitVec.ofNat 8 0 ∈ l; rw [← hz]; exact List.getElem_mem hj)
      rw [hz] at hix
      simp (disch := (first | omega | decide | (simp only [rsD] <;> omega) | fail)) only [↓rsC, rsK, rsL, ↓rsGck_0, tick_eq, tickV_eq, ne_eq, Int.reduceAdd, Int.reduceSub, Int.reduceMul, Int.reduceEq, Int.reduceLT, Int.reduceLE, Int.reduceToNat, Nat.reduceMul, Nat.reduceAdd, Nat.reduceSub, ←decide_not, hix]
      exact ⟨by rw [decide_eq_false hno], F⟩
    · generalize hy : l[j] = y at *
      simp (disch := (first | omega | decide | (simp only [rsD] <;> omega) | fail)) only [↓rsC, rsK, rsL, ↓rsGck_0, tick_eq, tickV_eq, ne_eq, Int.reduceAdd, Int.reduceSub, Int.reduceMul, Int.reduceEq, Int.reduceLT, Int.reduceLE, Int.reduceToNat, Nat.reduceMul, Nat.reduceAdd, Nat.reduceSub, ←decide_not, hix, decide_eq_false hz]
      refine hnx _ ⟨F, fun i hi hij => ?_⟩
      by_cases e : i = j
      · subst e; rw [hy]; exact hz
      · exact hq i hi (by omega)
  · intro u v1 hu ⟨F, hq⟩ nxt
    simp only [List.map_cons, List.map_nil, List.cons.injEq, and_true] at hu
    rw [hu]
    unfold loamref17_Good_l1
    simp (disch := (first | omega | decide | (simp only [rsD] <;> omega) | fail)) only [↓rsC, rsK, rsL, ↓rsGck_0, tick_eq, tickV_eq, ne_eq, Int.reduceAdd, Int.reduceSub, Int.reduceMul, Int.reduceEq, Int.reduceLT, Int.reduceLE, Int.reduceToNat, Nat.reduceMul, Nat.reduceAdd, Nat.reduceSub, ←decide_not, eq_self]
    refine ⟨?_, F⟩
    rw [decide_eq_true]
    refine nmOk_iff.2 ⟨by omega, by omega, fun c hc => ?_⟩
    obtain ⟨i, hi, rfl⟩ := List.getElem_of_mem hc
    exact hq i hi hi


end Go.Proofs.YthhcmoknppljpaaDoor
end
section
set_option linter.unusedVariables false
set_option linter.unusedSimpArgs false
set_option maxHeartbeats 4000000
namespace Go.Proofs.YthhcmoknppljpaaDoor
open Go.Sh Go.RowKit

def gW (ns : List GN) : Nat := (ns.map gsz).sum
def orV (l : List (BitVec 8)) (a : Nat) : Nat → BitVec 64
  | 0 => BitVec.ofNat 64 0
  | k + 1 => orV l a k ||| ((l.getD (a + k) (BitVec.ofNat 8 0)).setWidth 64 <<< (8 * k))
def wordV (l : List (BitVec 8)) (i : Nat) : BitVec 64 := orV l (8 * i) (min 8 (l.length - 8 * i))
def wordsV (l : List (BitVec 8)) : List (BitVec 64) := (List.range ((l.length + 7) / 8)).map (wordV l)
def ptW (pl : List Nat) (to : Int) : BitVec 64 := if to = 0 then BitVec.ofNat 64 0 else BitVec.ofNat 64 (pl.getD (to.toNat - 1) 0 + 1)
end Go.Proofs.YthhcmoknppljpaaDoor
end
section
set_option linter.unusedVariables false
set_option linter.unusedSimpArgs false
set_option maxHeartbeats 4000000
namespace Go.Proofs.YthhcmoknppljpaaDoor
open Go.Sh Go.RowKit

abbrev rsGck2_0 := (And.intro @xu8_add (And.intro @xu8_sub (And.intro @xu8_com (And.intro @xu8_lss (And.intro @xu8_gtr (And.intro @xu8_geq (And.intro @xu16_add (And.intro @xu16_sub (And.intro @xu16_com (And.intro @xu16_lss (And.intro @xu16_gtr (And.intro @xu16_geq (And.intro @xu32_add (And.intro @xu32_sub (And.intro @xu32_com (And.intro @xu32_lss 
  (And.intro @xu32_gtr (And.intro @xu32_geq (And.intro @xu64_add (And.intro @xu64_sub (And.intro @xu64_com (And.intro @xu64_lss (And.intro @xu64_gtr (And.intro @xu64_geq (And.intro @xi64_lss (And.intro @xi64_gtr (And.intro @xi64_geq (And.intro @ld_3 (And.intro @ld_9 (And.intro @ld_29 (And.intro @ld_30 (And.intro @ld_40 (And.intro @ld_45 (And.intro @ld_49 
  (And.intro @ld_56 (And.intro @fa_32_0 (And.intro @fa_32_1 (And.intro @fa_49_0 (And.intro @fa_49_1 (And.intro @fa_56_0 (And.intro @fa_56_1 (And.intro @al_49 (And.intro @al_56 (And.intro @st_49 (And.intro @st_56 (And.intro @ia_29 (And.intro @ia_30 (And.intro @ia_40 (And.intro @ln_29 (And.intro @ln_30 (And.intro @ln_40 @ln_45)))))))))))))))))))))))))))))))))))))))))))))))))))
theorem GCheckX_spec {w : World} {na ra : Option Addr} {nc rc : Nat} {ns : List GN} {rs : List GR} (h : GIs w na nc ra rc ns rs) (hf : FewG ns rs) : Gives Tryd.prog n_loamref17_Check #[gV na nc ra rc ns rs] w (i64 (chkV ns rs)) := by
  have hfn := hf.n
  have hfr := hf.r
  refine loamref17_Check_of ?_
  unfold loamref17_Check
  simp (disch := (first | omega | decide | (simp only [rsD] <;> omega) | fail)) only [↓rsC, rsK, rsL, ↓rsGck2_0, tick_eq, tickV_eq, ne_eq, Int.reduceAdd, Int.reduceSub, Int.reduceMul, Int.reduceEq, Int.reduceLT, Int.reduceLE, Int.reduceToNat, Nat.reduceMul, Nat.reduceAdd, Nat.reduceSub, ←decide_not, eq_self]
  have B : Blk (w.alloc (.cells #[.slice na ns.length nc, .slice ra rs.length rc] 32)) w.heap.size 32 [.slice na ns.length nc, .slice ra rs.length rc] := Blk.at rfl
  have X : Ext [] w (w.alloc (.cells #[.slice na ns.length nc, .slice ra rs.length rc] 32)) := Ext.alloc _ _ _
  have hy := h.ext0 X
  generalize w.heap.size = hb at *
  generalize w.alloc (.cells #[.slice na ns.length nc, .slice ra rs.length rc] 32) = y at *
  refine xLoop_n ns.length (fun j => [i64 (j : Int)]) (fun j w' => Ext [] y w' ∧ ∀ i (hi : i < ns.length), i < j → ndE ns.length ns[i] = 0) rfl ⟨Ext.refl _ _, by intro i _ hi; omega⟩ ?_ ?_
  · intro j hj u v1 hu ⟨F, hq⟩ nxt hnx
    simp only [List.map_cons, List.map_nil, List.cons.injEq, and_true] at hu
    rw [hu]
    have k1 := fun i => (B.ext F (by simp)).cell (i := i)
    obtain ⟨b1, o1, ha1, z1, c1, c2⟩ := gn_at (hy.ext0 F).nr hj
    have hm := List.getElem_mem hj
    have hok := (hy.ext0 F).ok _ hm
    have hfx := hf.x _ hm
    have hqs : ndE ns.length ns[j] = 0 → ∀ i (hi : i < ns.length), i < j + 1 → ndE ns.length ns[i] = 0 := fun h1 i hi hij => by
      by_cases e : i = j
      · subst e; exact h1
      · exact hq i hi (by omega)
    have hbad := fun {e : Int} (he : ndE ns.length ns[j] = e) (hne : e ≠ 0) => chk_node (rs := rs) hj hq he hne
    unfold loamref17_Check_l1
    generalize ns[j] = x at *
    simp (disch := (first | omega | decide | (simp only [rsD] <;> omega) | fail)) only [↓rsC, rsK, rsL, ↓rsGck2_0, tick_eq, tickV_eq, ne_eq, Int.reduceAdd, Int.reduceSub, Int.reduceMul, Int.reduceEq, Int.reduceLT, Int.reduceLE, Int.reduceToNat, Nat.reduceMul, Nat.reduceAdd, Nat.reduceSub, ←decide_not, k1, ha1, c1, c2]
    have C : Blk (v1.alloc (.cells #[.slice x.pa x.p.length x.pc, .slice x.da x.d.length x.dc] 49)) v1.heap.size 49 [.slice x.pa x.p.length x.pc, .slice x.da x.d.length x.dc] := Blk.at rfl
    have X1 : Ext [] v1 (v1.alloc (.cells #[.slice x.pa x.p.length x.pc, .slice x.da x.d.length x.dc] 49)) := Ext.alloc _ _ _
    generalize v1.heap.size = hc at *
    generalize v1.alloc (.cells #[.slice x.pa x.p.length x.pc, .slice x.da x.d.length x.dc] 49) = y1 at *
    refine xLoop_n x.p.length (fun k => [i64 (k : Int)]) (fun k w' => Ext [] y1 w' ∧ ∀ i (hi : i < x.p.length), i < k → 0 ≤ x.p[i] ∧ x.p[i] ≤ ns.length) rfl ⟨Ext.refl _ _, by intro i _ hi; omega⟩ ?_ ?_
    · intro k hk u v2 hu ⟨F2, hp⟩ nxt2 hnx2
      simp only [List.map_cons, List.map_nil, List.cons.injEq, and_true] at hu
      rw [hu]
      have k2 := fun i => (C.ext F2 (by simp)).cell (i := i)
      obtain ⟨b3, o3, ha3, z3, c3⟩ := its_at ((hok.ext0 X1).ext0 F2).pr hk
      have bad1 : ¬ (0 ≤ x.p[k] ∧ x.p[k] ≤ ns.length) → ndE ns.length x = 1 := fun h => by
        unfold ndE
        rw [if_neg fun h2 => h (h2 _ (List.getElem_mem hk))]
      unfold loamref17_Check_l2
      by_cases g1 : x.p[k] < 0
      · simp (disch := (first | omega | decide | (simp only [rsD] <;> omega) | fail)) only [↓rsC, rsK, rsL, ↓rsGck2_0, tick_eq, tickV_eq, ne_eq, Int.reduceAdd, Int.reduceSub, Int.reduceMul, Int.reduceEq, Int.reduceLT, Int.reduceLE, Int.reduceToNat, Nat.reduceMul, Nat.reduceAdd, Nat.reduceSub, ←decide_not, k1, ha1, c1, c2, k2, ha3, c3]
        exact ⟨by rw [hbad (bad1 (by omega)) (by decide)], X.trans (F.trans (X1.trans F2))⟩
      by_cases g2 : (ns.length : Int) < x.p[k]
      · simp (disch := (first | omega | decide | (simp only [rsD] <;> omega) | fail)) only [↓rsC, rsK, rsL, ↓rsGck2_0, tick_eq, tickV_eq, ne_eq, Int.reduceAdd, Int.reduceSub, Int.reduceMul, Int.reduceEq, Int.reduceLT, Int.reduceLE, Int.reduceToNat, Nat.reduceMul, Nat.reduceAdd, Nat.reduceSub, ←decide_not, k1, ha1, c1, c2, k2, ha3, c3]
        exact ⟨by rw [hbad (bad1 (by omega)) (by decide)], X.trans (F.trans (X1.trans F2))⟩
      simp (disch := (first | omega | decide | (simp only [rsD] <;> omega) | fail)) only [↓rsC, rsK, rsL, ↓rsGck2_0, tick_eq, tickV_eq, ne_eq, Int.reduceAdd, Int.reduceSub, Int.reduceMul, Int.reduceEq, Int.reduceLT, Int.reduceLE, Int.reduceToNat, Nat.reduceMul, Nat.reduceAdd, Nat.reduceSub, ←decide_not, k1, ha1, c1, c2, k2, ha3, c3]
      refine hnx2 _ ⟨F2, fun i hi hik => ?_⟩
      by_cases e : i = k
      · subst e; exact ⟨by omega, by omega⟩
      · exact hp i hi (by omega)
    · intro u v2 hu ⟨F2, hp⟩ nxt2
      simp only [List.map_cons, List.map_nil, List.cons.injEq, and_true] at hu
      rw [hu]
      have k2 := fun i => (C.ext F2 (by simp)).cell (i := i)
      have hpp : ∀ p ∈ x.p, 0 ≤ p ∧ p ≤ (ns.length : Int) := fun p hp2 => by
        obtain ⟨i, hi, rfl⟩ := List.getElem_of_mem hp2
        exact hp i hi hi
      have hE : ndE ns.length x = if x.p.length ≤ 64 ∧ x.d.length ≤ 1024 then 0 else 3 := by unfold ndE; rw [if_pos hpp]
      unfold loamref17_Check_l2
      by_cases g1 : 64 < x.p.length
      · simp (disch := (first | omega | decide | (simp only [rsD] <;> omega) | fail)) only [↓rsC, rsK, rsL, ↓rsGck2_0, tick_eq, tickV_eq, ne_eq, Int.reduceAdd, Int.reduceSub, Int.reduceMul, Int.reduceEq, Int.reduceLT, Int.reduceLE, Int.reduceToNat, Nat.reduceMul, Nat.reduceAdd, Nat.reduceSub, ←decide_not, k1, ha1, c1, c2, k2]
        exact ⟨by rw [hbad (e := 3) (by rw [hE, if_neg (by omega)]) (by decide)], X.trans (F.trans (X1.trans F2))⟩
      by_cases g2 : 1024 < x.d.length
      · simp (disch := (first | omega | decide | (simp only [rsD] <;> omega) | fail)) only [↓rsC, rsK, rsL, ↓rsGck2_0, tick_eq, tickV_eq, ne_eq, Int.reduceAdd, Int.reduceSub, Int.reduceMul, Int.reduceEq, Int.reduceLT, Int.reduceLE, Int.reduceToNat, Nat.reduceMul, Nat.reduceAdd, Nat.reduceSub, ←decide_not, k1, ha1, c1, c2, k2]
        exact ⟨by rw [hbad (e := 3) (by rw [hE, if_neg (by omega)]) (by decide)], X.trans (F.trans (X1.trans F2))⟩
      simp (disch := (first | omega | decide | (simp only [rsD] <;> omega) | fail)) only [↓rsC, rsK, rsL, ↓rsGck2_0, tick_eq, tickV_eq, ne_eq, Int.reduceAdd, Int.reduceSub, Int.reduceMul, Int.reduceEq, Int.reduceLT, Int.reduceLE, Int.reduceToNat, Nat.reduceMul, Nat.reduceAdd, Nat.reduceSub, ←decide_not, k1, ha1, c1, c2, k2]
      exact hnx _ ⟨F.trans (X1.trans F2), hqs (by rw [hE, if_pos (by omega)])⟩
  intro u v1 hu ⟨F, hq⟩ nxt
  simp only [List.map_cons, List.map_nil, List.cons.injEq, and_true] at hu
  rw [hu]
  have hq' : ∀ i (hi : i < ns.length), ndE ns.length ns[i] = 0 := fun i hi => hq i hi hi
  have k1 := fun i => (B.ext F (by simp)).cell (i := i)
  unfold loamref17_Check_l1
  by_cases g0 : 64 < rs.length
  · simp (disch := (first | omega | decide | (simp only [rsD] <;> omega) | fail)) only [↓rsC, rsK, rsL, ↓rsGck2_0, tick_eq, tickV_eq, ne_eq, Int.reduceAdd, Int.reduceSub, Int.reduceMul, Int.reduceEq, Int.reduceLT, Int.reduceLE, Int.reduceToNat, Nat.reduceMul, Nat.reduceAdd, Nat.reduceSub, ←decide_not, k1]
    exact ⟨by rw [chk_len hq' g0], X.trans F⟩
  simp (disch := (first | omega | decide | (simp only [rsD] <;> omega) | fail)) only [↓rsC, rsK, rsL, ↓rsGck2_0, tick_eq, tickV_eq, ne_eq, Int.reduceAdd, Int.reduceSub, Int.reduceMul, Int.reduceEq, Int.reduceLT, Int.reduceLE, Int.reduceToNat, Nat.reduceMul, Nat.reduceAdd, Nat.reduceSub, ←decide_not, k1]
  refine xLoop_n rs.length (fun j => [i64 (j : Int)]) (fun j w' => Ext [] y w' ∧ ∀ i, i < j → rtE ns.length rs i = 0) rfl ⟨F, by intro i hi; omega⟩ ?_ ?_
  rotate_left
  · intro u v2 hu ⟨F2, hr⟩ nxt2
    simp only [List.map_cons, List.map_nil, List.cons.injEq, and_true] at hu
    rw [hu]
    have k2 := fun i => (B.ext F2 (by simp)).cell (i := i)
    unfold loamref17_Check_l3
    simp (disch := (first | omega | decide | (simp only [rsD] <;> omega) | fail)) only [↓rsC, rsK, rsL, ↓rsGck2_0, tick_eq, tickV_eq, ne_eq, Int.reduceAdd, Int.reduceSub, Int.reduceMul, Int.reduceEq, Int.reduceLT, Int.reduceLE, Int.reduceToNat, Nat.reduceMul, Nat.reduceAdd, Nat.reduceSub, ←decide_not, k1, k2]
    exact ⟨by rw [chk_ok hq' g0 hr], X.trans F2⟩
  intro j hj u v2 hu ⟨F2, hr⟩ nxt2 hnx2
  simp only [List.map_cons, List.map_nil, List.cons.injEq, and_true] at hu
  rw [hu]
  have hbad := fun {e : Int} (he : rtE ns.length rs j = e) (hne : e ≠ 0) => chk_root hq' g0 hr hj he hne
  have hrt := rtE_get (n := ns.length) hj
  have hsuc : rtE ns.length rs j = 0 → ∀ i, i < j + 1 → rtE ns.length rs i = 0 := fun h1 i hij => by
    by_cases e : i = j
    · subst e; exact h1
    · exact hr i (by omega)
  have k2 := fun i => (B.ext F2 (by simp)).cell (i := i)
  obtain ⟨b1, o1, ha1, z1, c1, c2⟩ := gr_at (hy.ext0 F2).rr hj
  unfold loamref17_Check_l3
  simp (disch := (first | omega | decide | (simp only [rsD] <;> omega) | fail)) only [↓rsC, rsK, rsL, ↓rsGck2_0, tick_eq, tickV_eq, ne_eq, Int.reduceAdd, Int.reduceSub, Int.reduceMul, Int.reduceEq, Int.reduceLT, Int.reduceLE, Int.reduceToNat, Nat.reduceMul, Nat.reduceAdd, Nat.reduceSub, ←decide_not, k1, k2, ha1, c1, c2]
  have C : Blk (v2.alloc (.cells #[.string (strOf rs[j].s), i64 rs[j].to] 56)) v2.heap.size 56 [.string (strOf rs[j].s), i64 rs[j].to] := Blk.at rfl
  have X1 : Ext [] v2 (v2.alloc (.cells #[.string (strOf rs[j].s), i64 rs[j].to] 56)) := Ext.alloc _ _ _
  have hsz := C.lt
  generalize v2.heap.size = hc at *
  generalize hyy : v2.alloc (.cells #[.string (strOf rs[j].s), i64 rs[j].to] 56) = y2 at *
  refine loamref17_Good_call (Gives.to (GoodX_spec rs[j].s _) fun w4 F4d => ?_)
  have F4 := (Ext.drew [] y2).trans F4d
  have X4 : Ext [] y w4 := F2.trans (X1.trans F4)
  have k4 := fun i => (B.ext X4 (by simp)).cell (i := i)
  have kc4 := fun i => (C.ext F4 (by simp)).cell (i := i)
  by_cases hok : nmOk rs[j].s
  rotate_left
  · rw [decide_eq_false hok]
    simp (disch := (first | omega | decide | (simp only [rsD] <;> omega) | fail)) only [↓rsC, rsK, rsL, ↓rsGck2_0, tick_eq, tickV_eq, ne_eq, Int.reduceAdd, Int.reduceSub, Int.reduceMul, Int.reduceEq, Int.reduceLT, Int.reduceLE, Int.reduceToNat, Nat.reduceMul, Nat.reduceAdd, Nat.reduceSub, ←decide_not, k1, k2, ha1, c1, c2]
    exact ⟨by rw [hbad (e := 4) (by rw [hrt, if_neg (fun q => hok q.1)]) (by decide)], X.trans X4⟩
  rw [decide_eq_true hok]
  have hlast : ∀ (b : Bool), (j = 0 ∨ prevL rs j = true ↔ b = true) → rtE ns.length rs j = if b = true then (if 0 ≤ rs[j].to ∧ rs[j].to ≤ ns.length then 0 else 1) else 4 := fun b hb => by
    rw [hrt]
    by_cases q : b = true
    · rw [if_pos ⟨hok, hb.2 q⟩, if_pos q]
    · rw [if_neg (fun q2 => q (hb.1 q2.2)), if_neg q]
  by_cases hj0 : j = 0
  · have hl := hlast true ⟨fun _ => rfl, fun _ => .inl hj0⟩
    rw [if_pos rfl] at hl
    by_cases t1 : rs[j].to < 0
    · simp (disch := (first | omega | decide | (simp only [rsD] <;> omega) | fail)) only [↓rsC, rsK, rsL, ↓rsGck2_0, tick_eq, tickV_eq, ne_eq, Int.reduceAdd, Int.reduceSub, Int.reduceMul, Int.reduceEq, Int.reduceLT, Int.reduceLE, Int.reduceToNat, Nat.reduceMul, Nat.reduceAdd, Nat.reduceSub, ←decide_not, k1, k2, ha1, c1, c2, kc4]
      exact ⟨by rw [hbad (e := 1) (by rw [hl, if_neg (by omega)]) (by decide)], X.trans X4⟩
    by_cases t2 : (ns.length : Int) < rs[j].to
    · simp (disch := (first | omega | decide | (simp only [rsD] <;> omega) | fail)) only [↓rsC, rsK, rsL, ↓rsGck2_0, tick_eq, tickV_eq, ne_eq, Int.reduceAdd, Int.reduceSub, Int.reduceMul, Int.reduceEq, Int.reduceLT, Int.reduceLE, Int.reduceToNat, Nat.reduceMul, Nat.reduceAdd, Nat.reduceSub, ←decide_not, k1, k2, ha1, c1, c2, kc4]
      exact ⟨by rw [hbad (e := 1) (by rw [hl, if_neg (by omega)]) (by decide)], X.trans X4⟩
    simp (disch := (first | omega | decide | (simp only [rsD] <;> omega) | fail)) only [↓rsC, rsK, rsL, ↓rsGck2_0, tick_eq, tickV_eq, ne_eq, Int.reduceAdd, Int.reduceSub, Int.reduceMul, Int.reduceEq, Int.reduceLT, Int.reduceLE, Int.reduceToNat, Nat.reduceMul, Nat.reduceAdd, Nat.reduceSub, ←decide_not, k1, k2, ha1, c1, c2, kc4]
    exact hnx2 _ ⟨X4, hsuc (by rw [hl, if_pos (by omega)])⟩
  · obtain ⟨b5, o5, ha5, z5, c5, c6⟩ := gr_at (hy.ext0 X4).rr (k := j - 1) (by omega)
    rw [ha1] at ha5
    cases ha5
    have t3 : ((j : Int) - 1).toNat = j - 1 := by omega
    have hgs := fun w K => geS (cx := false) (cy := false) (strOf rs[j - 1].s) (strOf rs[j].s) w K
    have hpl := prevL_get hj0 hj
    cases hlt : Op.bytesLess (strOf rs[j - 1].s).toList (strOf rs[j].s).toList with
    | true =>
      rw [hlt] at hgs hpl
      have hl := hlast true ⟨fun _ => rfl, fun _ => .inr hpl⟩
      rw [if_pos rfl] at hl
      by_cases t1 : rs[j].to < 0
      · simp (disch := (first | omega | decide | (simp only [rsD] <;> omega) | fail)) only [↓rsC, rsK, rsL, ↓rsGck2_0, tick_eq, tickV_eq, ne_eq, Int.reduceAdd, Int.reduceSub, Int.reduceMul, Int.reduceEq, Int.reduceLT, Int.reduceLE, Int.reduceToNat, Nat.reduceMul, Nat.reduceAdd, Nat.reduceSub, ←decide_not, k1, k2, ha1, c1, c2, kc4, k4, t3, c5, hgs]
        exact ⟨by rw [hbad (e := 1) (by rw [hl, if_neg (by omega)]) (by decide)], X.trans X4⟩
      by_cases t2 : (ns.length : Int) < rs[j].to
      · simp (disch := (first | omega | decide | (simp only [rsD] <;> omega) | fail)) only [↓rsC, rsK, rsL, ↓rsGck2_0, tick_eq, tickV_eq, ne_eq, Int.reduceAdd, Int.reduceSub, Int.reduceMul, Int.reduceEq, Int.reduceLT, Int.reduceLE, Int.reduceToNat, Nat.reduceMul, Nat.reduceAdd, Nat.reduceSub, ←decide_not, k1, k2, ha1, c1, c2, kc4, k4, t3, c5, hgs]
        exact ⟨by rw [hbad (e := 1) (by rw [hl, if_neg (by omega)]) (by decide)], X.trans X4⟩
      simp (disch := (first | omega | decide | (simp only [rsD] <;> omega) | fail)) only [↓rsC, rsK, rsL, ↓rsGck2_0, tick_eq, tickV_eq, ne_eq, Int.reduceAdd, Int.reduceSub, Int.reduceMul, Int.reduceEq, Int.reduceLT, Int.reduceLE, Int.reduceToNat, Nat.reduceMul, Nat.reduceAdd, Nat.reduceSub, ←decide_not, k1, k2, ha1, c1, c2, kc4, k4, t3, c5, hgs]
      exact hnx2 _ ⟨X4, hsuc (by rw [hl, if_pos (by omega)])⟩
    | false =>
      rw [hlt] at hgs hpl
      have hl := hlast false ⟨fun q => by rcases q with q | q; exact absurd q hj0; rw [hpl] at q; exact q, fun q => by cases q⟩
      rw [if_neg (by simp)] at hl
      simp (disch := (first | omega | decide | (simp only [rsD] <;> omega) | fail)) only [↓rsC, rsK, rsL, ↓rsGck2_0, tick_eq, tickV_eq, ne_eq, Int.reduceAdd, Int.reduceSub, Int.reduceMul, Int.reduceEq, Int.reduceLT, Int.reduceLE, Int.reduceToNat, Nat.reduceMul, Nat.reduceAdd, Nat.reduceSub, ←decide_not, k1, k2, ha1, c1, c2, kc4, k4, t3, c5, hgs]
      exact ⟨by rw [hbad hl (by decide)], X.trans X4⟩
end Go.Proofs.YthhcmoknppljpaaDoor
end
section
set_option linter.unusedVariables false
set_option linter.unusedSimpArgs false
set_option maxHeartbeats 4000000
namespace Go.Proofs.YthhcmoknppljpaaDoor
open Go.Sh Go.RowKit

def plL (ns : List GN) (R : Nat) (j : Nat) : List Nat := (List.range j).map fun i => 2 + 5 * R + gW (ns.take i)
def hdrW (R at' : Nat) : BitVec 64 := BitVec.ofNat 64 (R + at' * 65536)
def padS (l : List (BitVec 8)) : List (BitVec 8) := l ++ List.replicate (32 - l.length) (BitVec.ofNat 8 0)
def rtW (pl : List Nat) (r : GR) : List (BitVec 64) := wordsV (padS r.s) ++ [ptW pl r.to]
def ndW (pl : List Nat) (x : GN) : List (BitVec 64) := packW x.p.length x.d.length false 0 :: (x.p.map (ptW pl) ++ wordsV x.d)
def encW (ns : List GN) (rs : List GR) : List (BitVec 64) := [BitVec.ofNat 64 1296125772, hdrW rs.length (2 + 5 * rs.length + gW ns)] ++ rs.flatMap (rtW (plL ns rs.length ns.length)) ++ ns.flatMap (ndW (plL ns rs.length ns.length))
end Go.Proofs.YthhcmoknppljpaaDoor
end
section
set_option linter.unusedVariables false
set_option linter.unusedSimpArgs false
set_option maxHeartbeats 4000000
namespace Go.Proofs.YthhcmoknppljpaaDoor
open Go.Sh Go.RowKit

def pN (x : BitVec 64) : Nat := (uP x).toNat
def bN (x : BitVec 64) : Nat := (uB x).toNat
/-- an object that ends by the top -/
structure ObjAt (ws : List (BitVec 64)) (b t o : Nat) : Prop where
  lo : b ≤ o
  ok : okW (wat ws o)
  hi : o + szW (wat ws o) ≤ t
theorem ObjAt.lt {ws : List (BitVec 64)} {b t o : Nat} (h : ObjAt ws b t o) : o < t := by
  have := h.hi
  have := szW_pos (x := wat ws o)
  omega
section
end
end Go.Proofs.YthhcmoknppljpaaDoor
end
section
set_option linter.unusedVariables false
set_option linter.unusedSimpArgs false
set_option maxHeartbeats 4000000
namespace Go.Proofs.YthhcmoknppljpaaDoor
open Go.Sh Go.RowKit

def PtrW (ws : List (BitVec 64)) (l : List Nat) (o : Nat) : Prop := ∀ i, i < pN (wat ws o) → (wat ws (o + 1 + i)).toNat = 0 ∨ ((wat ws (o + 1 + i)).toNat ≤ 8192 ∧ 1 ≤ (wat ws (o + 1 + i)).toNat ∧ (wat ws (o + 1 + i)).toNat - 1 ∈ l)
def PadW (ws : List (BitVec 64)) (o : Nat) : Prop := ∀ j, (o + 1 + pN (wat ws o)) * 8 + bN (wat ws o) ≤ j → j < (o + szW (wat ws o)) * 8 → byteW ws j = BitVec.ofNat 8 0
theorem Objs.count {ws : List (BitVec 64)} {t o : Nat} {l : List Nat} (h : Objs ws t o l) : o + l.length ≤ t := by
  induction h with
  | nil => simp
  | @cons o q h1 h2 h3 ih => have := szW_pos (x := wat ws o); simp only [List.length_cons]; omega
def WellP (ws : List (BitVec 64)) (b t : Nat) : Prop := ∃ l, objs ws b t = some l ∧ ∀ o ∈ l, PtrW ws l o ∧ PadW ws o
def WellIs (ws : List (BitVec 64)) (b t : Nat) (v : Int) : Prop := (WellP ws b t ∧ v = 0) ∨ (¬ WellP ws b t ∧ v = 2)
theorem WellIs.bad {ws : List (BitVec 64)} {b t o : Nat} {l : List Nat} (h : objs ws b t = some l) (ho : o ∈ l) (hb : ¬ (PtrW ws l o ∧ PadW ws o)) : WellIs ws b t 2 := by
  refine .inr ⟨?_, rfl⟩
  rintro ⟨l', h1, h2⟩
  rw [h] at h1
  cases h1
  exact hb (h2 o ho)
def PtrOk (l : List Nat) (x : Nat) : Prop := x = 0 ∨ (x ≤ 8192 ∧ 1 ≤ x ∧ x - 1 ∈ l)
instance (l : List Nat) (x : Nat) : Decidable (PtrOk l x) := by unfold PtrOk; infer_instance
end Go.Proofs.YthhcmoknppljpaaDoor
end
section
set_option linter.unusedVariables false
set_option linter.unusedSimpArgs false
set_option maxHeartbeats 4000000
namespace Go.Proofs.YthhcmoknppljpaaDoor
open Go.Sh Go.RowKit

/-- walking over words: places, and where it ends for want of an object -/
inductive Sc (x : Nat → BitVec 64) (t : Nat) : Nat → List Nat → Option Nat → Prop
  | done : Sc x t t [] none
  | bad {o : Nat} : o < t → ¬ (okW (x o) ∧ o + szW (x o) ≤ t) → Sc x t o [] (some o)
  | step {o : Nat} {l : List Nat} {b : Option Nat} : okW (x o) → o + szW (x o) ≤ t → Sc x t (o + szW (x o)) l b → Sc x t o (o :: l) b
theorem Sc.le {x : Nat → BitVec 64} {t o : Nat} {l : List Nat} {b : Option Nat} (h : Sc x t o l b) : o ≤ t := by
  cases h with
  | done => exact Nat.le_refl _
  | bad h1 _ => exact Nat.le_of_lt h1
  | step _ h2 _ => have := szW_pos (x := x o); omega
theorem Sc.congr {x y : Nat → BitVec 64} {t o : Nat} {l : List Nat} {b : Option Nat} (h : Sc x t o l b) (e : ∀ i, o ≤ i → i < t → x i = y i) : Sc y t o l b := by
  induction h with
  | done => exact .done
  | @bad o h1 h2 => rw [e o (Nat.le_refl _) h1] at h2; exact .bad h1 h2
  | @step o l b h1 h2 h3 ih =>
    have hp := szW_pos (x := x o)
    have e1 := e o (Nat.le_refl _) (by omega)
    have ih := ih fun i hi => e i (by omega)
    rw [e1] at h1 h2 ih
    exact .step h1 h2 ih
theorem Sc.all {x : Nat → BitVec 64} {t o : Nat} {l : List Nat} {b : Option Nat} (h : Sc x t o l b) : l.Pairwise (· < ·) ∧ ∀ p ∈ l, o ≤ p ∧ okW (x p) ∧ p + szW (x p) ≤ t := by
  induction h with
  | done => exact ⟨.nil, by simp⟩
  | bad => exact ⟨.nil, by simp⟩
  | @step o l b h1 h2 h3 ih =>
    have hp := szW_pos (x := x o)
    refine ⟨List.pairwise_cons.2 ⟨fun p hq => ?_, ih.1⟩, fun p hq => ?_⟩
    · have := (ih.2 p hq).1
      omega
    · rcases List.mem_cons.1 hq with rfl | hq
      · exact ⟨Nat.le_refl _, h1, h2⟩
      · have := ih.2 p hq
        exact ⟨by omega, this.2⟩
theorem Sc.count {x : Nat → BitVec 64} {t o : Nat} {l : List Nat} {b : Option Nat} (h : Sc x t o l b) : o + l.length ≤ t := by
  induction h with
  | done => simp
  | bad h1 _ => simp; omega
  | @step o l b h1 h2 h3 ih => have := szW_pos (x := x o); simp only [List.length_cons]; omega
theorem Sc.objs {ws : List (BitVec 64)} {t o : Nat} {l : List Nat} (h : Sc (wat ws) t o l none) : Objs ws t o l := by
  generalize hb : (none : Option Nat) = b at h
  induction h with
  | done => exact .nil
  | bad => cases hb
  | step h1 h2 _ ih => exact .cons h1 h2 (ih hb)
/-! findings -/
def padX (x : Nat → BitVec 64) (o : Nat) : Prop := bN (x o) % 8 ≠ 0 ∧ x (o + szW (x o) - 1) >>> (8 * (bN (x o) % 8)) ≠ 0#64
instance (x : Nat → BitVec 64) (o : Nat) : Decidable (padX x o) := by unfold padX; infer_instance
end Go.Proofs.YthhcmoknppljpaaDoor
end
section
set_option linter.unusedVariables false
set_option linter.unusedSimpArgs false
set_option maxHeartbeats 4000000
namespace Go.Proofs.YthhcmoknppljpaaDoor
open Go.Sh Go.RowKit

section
end
end Go.Proofs.YthhcmoknppljpaaDoor
end
section
set_option linter.unusedVariables false
set_option linter.unusedSimpArgs false
set_option maxHeartbeats 4000000
namespace Go.Proofs.YthhcmoknppljpaaDoor
open Go.Sh Go.RowKit

section
end
end Go.Proofs.YthhcmoknppljpaaDoor
end
section
set_option linter.unusedVariables false
set_option linter.unusedSimpArgs false
set_option maxHeartbeats 4000000
namespace Go.Proofs.YthhcmoknppljpaaDoor
open Go.Sh Go.RowKit

section
end
end Go.Proofs.YthhcmoknppljpaaDoor
end
section
set_option linter.unusedVariables false
set_option linter.unusedSimpArgs false
set_option maxHeartbeats 4000000
namespace Go.Proofs.YthhcmoknppljpaaDoor
open Go.Sh Go.RowKit

section
end
end Go.Proofs.YthhcmoknppljpaaDoor
end
section
set_option linter.unusedVariables false
set_option linter.unusedSimpArgs false
set_option maxHeartbeats 4000000
namespace Go.Proofs.YthhcmoknppljpaaDoor
open Go.Sh Go.RowKit

def nR (l : List (BitVec 64)) : Nat := (fieldB (wat l 1) 0 16).toNat
def sizeOk (l : List (BitVec 64)) : Prop := 2 ≤ l.length ∧ fieldB (wat l 1) 48 16 = BitVec.ofNat 64 0 ∧ fieldB (wat l 1) 16 32 = BitVec.ofNat 64 l.length ∧ nR l ≤ 64 ∧ 2 + 5 * nR l ≤ l.length
instance (l : List (BitVec 64)) : Decidable (sizeOk l) := by unfold sizeOk; infer_instance
end Go.Proofs.YthhcmoknppljpaaDoor
end
section
set_option linter.unusedVariables false
set_option linter.unusedSimpArgs false
set_option maxHeartbeats 4000000
namespace Go.Proofs.YthhcmoknppljpaaDoor
open Go.Sh Go.RowKit

section
end
end Go.Proofs.YthhcmoknppljpaaDoor
end
section
set_option linter.unusedVariables false
set_option linter.unusedSimpArgs false
set_option maxHeartbeats 4000000
namespace Go.Proofs.YthhcmoknppljpaaDoor
open Go.Sh Go.RowKit

end Go.Proofs.YthhcmoknppljpaaDoor
end
section
set_option linter.unusedVariables false
set_option linter.unusedSimpArgs false
set_option maxHeartbeats 4000000
namespace Go.Proofs.YthhcmoknppljpaaDoor
open Go.Sh Go.RowKit

def nameS (q : List (BitVec 64)) (at' : Nat) : List (BitVec 8) := cutN (bytesW q (8 * at') 32)
def nameB (q : List (BitVec 64)) (at' : Nat) : Prop := nmOk (nameS q at') ∧ fixN (nameS q at') = bytesW q (8 * at') 32
instance (q : List (BitVec 64)) (at' : Nat) : Decidable (nameB q at') := by unfold nameB; infer_instance
end Go.Proofs.YthhcmoknppljpaaDoor
end
section
set_option linter.unusedVariables false
set_option linter.unusedSimpArgs false
set_option maxHeartbeats 4000000
namespace Go.Proofs.YthhcmoknppljpaaDoor
open Go.Sh Go.RowKit

end Go.Proofs.YthhcmoknppljpaaDoor
end
section
set_option linter.unusedVariables false
set_option linter.unusedSimpArgs false
set_option maxHeartbeats 4000000
namespace Go.Proofs.YthhcmoknppljpaaDoor
open Go.Sh Go.RowKit Go.ChangeShapes Go.WideShapes Go.ChangeAt

end Go.Proofs.YthhcmoknppljpaaDoor
end
section
set_option linter.unusedVariables false
set_option linter.unusedSimpArgs false
set_option maxHeartbeats 4000000
namespace Go.Proofs.YthhcmoknppljpaaDoor
open Go.Sh Go.RowKit Go.ChangeShapes Go.WideShapes Go.ChangeAt

end Go.Proofs.YthhcmoknppljpaaDoor
end
section
set_option linter.unusedVariables false
set_option linter.unusedSimpArgs false
set_option maxHeartbeats 4000000
namespace Go.Proofs.YthhcmoknppljpaaDoor
open Go.Sh Go.RowKit

end Go.Proofs.YthhcmoknppljpaaDoor
end
section
set_option linter.unusedVariables false
set_option linter.unusedSimpArgs false
set_option maxHeartbeats 4000000
namespace Go.Proofs.YthhcmoknppljpaaDoor
open Go.Sh Go.RowKit

section
end
end Go.Proofs.YthhcmoknppljpaaDoor
end
section
set_option linter.unusedVariables false
set_option linter.unusedSimpArgs false
set_option maxHeartbeats 4000000
namespace Go.Proofs.YthhcmoknppljpaaDoor
open Go.Sh Go.RowKit

theorem strOf_list (s : List (BitVec 8)) : (strOf s).toList = s.map UInt8.ofBitVec := by
  rw [ByteArray.toList_eq]
  simp [strOf]
section
end
section
end
end Go.Proofs.YthhcmoknppljpaaDoor
end
section
set_option linter.unusedVariables false
set_option linter.unusedSimpArgs false
set_option maxHeartbeats 4000000
namespace Go.Proofs.YthhcmoknppljpaaDoor
open Go.Sh Go.RowKit

section
end
end Go.Proofs.YthhcmoknppljpaaDoor
end
section
set_option linter.unusedVariables false
set_option linter.unusedSimpArgs false
set_option maxHeartbeats 4000000
namespace Go.Proofs.YthhcmoknppljpaaDoor
open Go.Sh Go.RowKit

structure PhI (ns : List GN) (rs : List GR) (D : Nat → Prop) (ws : List (BitVec 64)) : Prop where
  len : ws.length = 2 + 5 * rs.length + gW ns
  yes : ∀ i, i < ws.length → D i → wat ws i = wat (encW ns rs) i
  no : ∀ i, i < ws.length → ¬ D i → wat ws i = c0
section
variable {ns : List GN} {rs : List GR}
theorem PhI.congr {D D' : Nat → Prop} {ws : List (BitVec 64)} (h : PhI ns rs D ws) (e : ∀ i, i < ws.length → (D i ↔ D' i)) : PhI ns rs D' ws :=
  ⟨h.len, fun i hi hd => h.yes i hi ((e i hi).2 hd), fun i hi hd => h.no i hi (fun h2 => hd ((e i hi).1 h2))⟩
end
end Go.Proofs.YthhcmoknppljpaaDoor
end
section
set_option linter.unusedVariables false
set_option linter.unusedSimpArgs false
set_option maxHeartbeats 4000000
namespace Go.Proofs.YthhcmoknppljpaaDoor
open Go.Sh Go.RowKit

end Go.Proofs.YthhcmoknppljpaaDoor
end
section
set_option linter.unusedVariables false
set_option linter.unusedSimpArgs false
set_option maxHeartbeats 4000000
namespace Go.Proofs.YthhcmoknppljpaaDoor
open Go.Sh Go.RowKit

end Go.Proofs.YthhcmoknppljpaaDoor
end
section
set_option linter.unusedVariables false
set_option linter.unusedSimpArgs false
set_option maxHeartbeats 4000000
namespace Go.Proofs.YthhcmoknppljpaaDoor
open Go.Sh Go.RowKit

abbrev OwnIt (w : World) (v : Value) (l : List Int) : Prop := Own w 3 1 v l.length (its l)
theorem appIt {w : World} {K : K1} {v : Value} {l : List Int} {o : Int} {g : Nat} {cs : List Value} (hO : OwnIt w v l) (hcs : cs = [i64 o]) (hl : l.length ≤ 100000)
    (hK : ∀ v' w', OwnIt w' v' (l ++ [o]) → Stp (blk v) (blk v') w w' → K v' w') (hg : g = w.heap.size := by first | rfl | (simp only [World.size_alloc, World.size_drew, World.size_setCell] <;> omega)) : xBuiltin Tryd.prog .append #[40, 40] 40 [false, false] [v, .slice (some ⟨g, 0, none⟩) 1 1] (w.alloc (.cells cs.toArray 3)) K := by
  subst hcs hg
  refine xAppL (bytes := 8) (z := .int .i64 0) (by kernel_rfl) (by kernel_rfl) (by rfl) (by decide) hO (by simp) (by simp [Value.oneCell']) (by omega) (by omega) fun v' w' h1 h2 => hK v' w' ?_ h2
  show Own w' 3 1 v' (l ++ [o]).length (its (l ++ [o]))
  rw [List.length_append, its, List.map_append]
  exact h1
/-- a row grows that lies behind a block -/
theorem grow {y w1 w2 : World} {hx : Nat} {v v' : Value} (F : Ext [hx] y w1) (U : ∀ z ∈ blk v, y.heap.size ≤ z) (hlt : hx < y.heap.size) (T : Stp (blk v) (blk v') w1 w2) : Ext [hx] y w2 ∧ (∀ z ∈ blk v', y.heap.size ≤ z) ∧ hx ∉ blk v ∧ hx ∉ blk v' := by
  have up : ∀ z ∈ blk v', y.heap.size ≤ z := fun z hz => by
    rcases T.at' z hz with h1 | h1
    · exact U z h1
    · have := F.size; omega
  exact ⟨F.cut T.ext (fun z hz => .inr (U z hz)), up, fun h => by have := U _ h; omega, fun h => by have := up _ h; omega⟩
end Go.Proofs.YthhcmoknppljpaaDoor
end
section
set_option linter.unusedVariables false
set_option linter.unusedSimpArgs false
set_option maxHeartbeats 4000000
namespace Go.Proofs.YthhcmoknppljpaaDoor
open Go.Sh Go.RowKit

theorem Sc.sum {x : Nat → BitVec 64} {t o : Nat} {l : List Nat} (h : Sc x t o l none) : (∀ j (hj : j < l.length), l[j] = o + ((l.take j).map fun p => szW (x p)).sum) ∧ o + (l.map fun p => szW (x p)).sum = t := by
  generalize hb : (none : Option Nat) = b at h
  induction h with
  | done => exact ⟨fun j hj => by simp at hj, by simp⟩
  | bad => cases hb
  | @step o l b h1 h2 h3 ih =>
    obtain ⟨i1, i2⟩ := ih hb
    refine ⟨fun j hj => ?_, by simp only [List.map_cons, List.sum_cons]; omega⟩
    cases j with
    | zero => simp
    | succ j =>
      simp only [List.getElem_cons_succ, List.take_succ_cons, List.map_cons, List.sum_cons]
      rw [i1 j (by simpa using hj)]
      omega
/-! the graph that words are read as -/
def bare (x : GN) : GN := ⟨x.p, none, 0, x.d, none, 0⟩
section
end
end Go.Proofs.YthhcmoknppljpaaDoor
end
section
set_option linter.unusedVariables false
set_option linter.unusedSimpArgs false
set_option maxHeartbeats 4000000
namespace Go.Proofs.YthhcmoknppljpaaDoor
open Go.Sh Go.RowKit

def rootB (r : GR) : List (BitVec 8) := r.s ++ [32#8, 45#8, 62#8, 32#8] ++ dB r.to.toNat ++ [10#8]
def rootsB (rs : List GR) : List (BitVec 8) := rs.flatMap rootB
def ptrB (p : Int) : List (BitVec 8) := [32#8] ++ dB p.toNat
def ptrsB (l : List Int) : List (BitVec 8) := l.flatMap ptrB
def dataB (d : List (BitVec 8)) : List (BitVec 8) := if d = [] then [] else [32#8, 120#8] ++ hexB d
def nodeB (i : Nat) (x : GN) : List (BitVec 8) := dB (i + 1) ++ [58#8] ++ ptrsB x.p ++ dataB x.d ++ [10#8]
def nodesB (ns : List GN) (k : Nat) : List (BitVec 8) := (List.range k).flatMap fun i => match ns[i]? with
  | some x => nodeB i x
  | none => []
def txtB (ns : List GN) (rs : List GR) : List (BitVec 8) := rootsB rs ++ nodesB ns ns.length
theorem nodesB_succ {ns : List GN} {k : Nat} (h : k < ns.length) : nodesB ns (k + 1) = nodesB ns k ++ nodeB k ns[k] := by
  unfold nodesB
  rw [List.range_succ, List.flatMap_append, List.flatMap_singleton, List.getElem?_eq_getElem h]
theorem rootsB_succ {rs : List GR} {k : Nat} (h : k < rs.length) : rootsB (rs.take (k + 1)) = rootsB (rs.take k) ++ rootB rs[k] := by
  unfold rootsB
  rw [List.take_add_one, List.getElem?_eq_getElem h, Option.toList_some, List.flatMap_append, List.flatMap_singleton]
theorem ptrsB_succ {l : List Int} {k : Nat} (h : k < l.length) : ptrsB (l.take (k + 1)) = ptrsB (l.take k) ++ ptrB l[k] := by
  unfold ptrsB
  rw [List.take_add_one, List.getElem?_eq_getElem h, Option.toList_some, List.flatMap_append, List.flatMap_singleton]
theorem txt_bare (ns : List GN) (rs : List GR) : txtB (ns.map bare) rs = txtB ns rs := by
  unfold txtB nodesB
  rw [List.length_map]
  congr 1
  refine congrArg (fun f => (List.range ns.length).flatMap f) (funext fun i => ?_)
  rw [List.getElem?_map]
  cases ns[i]? <;> rfl
/-- small enough to be told -/
structure TxS (ns : List GN) (rs : List GR) : Prop where
  n : ns.length ≤ 70
  r : rs.length ≤ 80
  s : ∀ r ∈ rs, r.s.length ≤ 40 ∧ 0 ≤ r.to ∧ r.to ≤ 90
  x : ∀ x ∈ ns, (∀ p ∈ x.p, 0 ≤ p ∧ p ≤ 90) ∧ x.p.length ≤ 70 ∧ x.d.length ≤ 1100
theorem dB_two {n : Nat} (h : n < 100) : (dB n).length ≤ 2 := dB_len 1 n h
theorem flat_le {α : Type} {f : α → List (BitVec 8)} {B : Nat} : ∀ (l : List α), (∀ x ∈ l, (f x).length ≤ B) → (l.flatMap f).length ≤ l.length * B
  | [], _ => by simp
  | x :: l, h => by
    have h1 := h x (by simp)
    have h2 := flat_le l fun y hy => h y (by simp [hy])
    rw [List.flatMap_cons, List.length_append, List.length_cons, Nat.succ_mul]
    omega
theorem rootB_len {r : GR} (h : r.s.length ≤ 40 ∧ 0 ≤ r.to ∧ r.to ≤ 90) : (rootB r).length ≤ 50 := by
  have := dB_two (n := r.to.toNat) (by omega)
  simp only [rootB, List.length_append, List.length_cons, List.length_nil]
  omega
theorem ptrB_len {p : Int} (h : 0 ≤ p ∧ p ≤ 90) : (ptrB p).length ≤ 3 := by
  have := dB_two (n := p.toNat) (by omega)
  simp only [ptrB, List.length_append, List.length_cons, List.length_nil]
  omega
theorem dataB_len (d : List (BitVec 8)) : (dataB d).length ≤ 2 + 2 * d.length := by
  unfold dataB
  split
  · simp
  · rw [List.length_append, hexB_len]
    simp
theorem nodeB_len {i : Nat} {x : GN} (hi : i < 90) (h : (∀ p ∈ x.p, 0 ≤ p ∧ p ≤ 90) ∧ x.p.length ≤ 70 ∧ x.d.length ≤ 1100) : (nodeB i x).length ≤ 2500 := by
  have h1 := dB_two (n := i + 1) (by omega)
  have h2 := flat_le (f := ptrB) (B := 3) x.p fun p hp => ptrB_len (h.1 p hp)
  have h3 := dataB_len x.d
  simp only [nodeB, ptrsB, List.length_append, List.length_cons, List.length_nil]
  omega
theorem nodesB_len {ns : List GN} {rs : List GR} (h : TxS ns rs) : ∀ k, k ≤ ns.length → (nodesB ns k).length ≤ k * 2500
  | 0, _ => by simp [nodesB]
  | k + 1, hk => by
    have h1 := nodesB_len h k (by omega)
    have h2 := nodeB_len (i := k) (by have := h.n; omega) (h.x _ (List.getElem_mem (by omega : k < ns.length)))
    rw [nodesB_succ (by omega), List.length_append, Nat.succ_mul]
    omega
theorem rootsB_len {ns : List GN} {rs : List GR} (h : TxS ns rs) (k : Nat) : (rootsB (rs.take k)).length ≤ 4000 := by
  have h1 := flat_le (f := rootB) (B := 50) (rs.take k) fun r hr => rootB_len (h.s r (List.mem_of_mem_take hr))
  have h2 := h.r
  rw [List.length_take] at h1
  unfold rootsB
  have : min k rs.length * 50 ≤ 80 * 50 := Nat.mul_le_mul_right _ (by omega)
  omega
end Go.Proofs.YthhcmoknppljpaaDoor
end
section
set_option linter.unusedVariables false
set_option linter.unusedSimpArgs false
set_option maxHeartbeats 4000000
namespace Go.Proofs.YthhcmoknppljpaaDoor
open Go.Sh Go.RowKit

/-- a number that is a node's -/
abbrev okNo (n : Nat) (p : Int) : Prop := 1 ≤ p ∧ p ≤ n
inductive Rch (ns : List GN) (fr : List Int) : Int → Prop
  | base {p : Int} : p ∈ fr → okNo ns.length p → Rch ns fr p
  | step {i : Nat} {p : Int} (h : i < ns.length) : Rch ns fr ((i : Int) + 1) → p ∈ ns[i].p → okNo ns.length p → Rch ns fr p
theorem Rch.ok {ns : List GN} {fr : List Int} {p : Int} (h : Rch ns fr p) : okNo ns.length p := by
  cases h with
  | base _ h => exact h
  | step _ _ _ h => exact h
section
end
end Go.Proofs.YthhcmoknppljpaaDoor
end
section
set_option linter.unusedVariables false
set_option linter.unusedSimpArgs false
set_option maxHeartbeats 4000000
namespace Go.Proofs.YthhcmoknppljpaaDoor
open Go.Sh Go.RowKit

theorem nodup_len : ∀ (n : Nat) (l : List Int), l.Nodup → (∀ p ∈ l, okNo n p) → l.length ≤ n
  | 0, l, _, h => by
    cases l with
    | nil => simp
    | cons p l => have := h p (List.mem_cons_self ..); omega
  | n + 1, l, hd, h => by
    have h2 := nodup_len n (l.erase ((n : Int) + 1)) (hd.erase _) fun p hp => by
      have h3 := (hd.mem_erase_iff).1 hp
      have := h p h3.2
      have := h3.1
      omega
    by_cases hm : ((n : Int) + 1) ∈ l
    · rw [List.length_erase_of_mem hm] at h2
      omega
    · rw [List.erase_of_not_mem hm] at h2
      omega
def addN (n : Nat) (out : List Int) (p : Int) : List Int := if okNo n p ∧ p ∉ out then out ++ [p] else out
def addL (n : Nat) (out : List Int) (ps : List Int) : List Int := ps.foldl (addN n) out
def ptrsOf (ns : List GN) (q : Int) : List Int := match ns[q.toNat - 1]? with
  | some x => x.p
  | none => []
def dataOf (ns : List GN) (q : Int) : List (BitVec 8) := match ns[q.toNat - 1]? with
  | some x => x.d
  | none => []
def bfs (ns : List GN) : Nat → Nat → List Int → List Int
  | 0, _, out => out
  | f + 1, i, out => match out[i]? with
    | none => out
    | some q => bfs ns f (i + 1) (addL ns.length out (ptrsOf ns q))
def ordV (ns : List GN) (fr : List Int) : List Int := bfs ns (ns.length + 1) 0 (addL ns.length [] fr)
def noV (ord : List Int) (p : Int) : Int := if p ∈ ord then (ord.idxOf p : Int) + 1 else 0
def canN (ns : List GN) (ord : List Int) (q : Int) : GN := ⟨(ptrsOf ns q).map (noV ord), none, 0, dataOf ns q, none, 0⟩
def canNs (ns : List GN) (rs : List GR) : List GN := (ordV ns (rs.map GR.to)).map (canN ns (ordV ns (rs.map GR.to)))
def canRs (ns : List GN) (rs : List GR) : List GR := rs.map fun r => ⟨r.s, noV (ordV ns (rs.map GR.to)) r.to⟩
/-- numbers of nodes, none twice -/
structure OutOk (n : Nat) (out : List Int) : Prop where
  nd : out.Nodup
  ok : ∀ p ∈ out, okNo n p
theorem OutOk.len {n : Nat} {out : List Int} (h : OutOk n out) : out.length ≤ n := nodup_len n out h.nd h.ok
theorem OutOk.nil {n : Nat} : OutOk n [] := ⟨List.nodup_nil, by simp⟩
theorem OutOk.add {n : Nat} {out : List Int} (h : OutOk n out) (p : Int) : OutOk n (addN n out p) := by
  unfold addN
  split
  · rename_i hp
    refine ⟨?_, fun q hq => ?_⟩
    · rw [List.nodup_append]
      refine ⟨h.nd, by simp, fun a ha b hb => ?_⟩
      rw [List.mem_singleton] at hb
      subst hb
      intro e
      subst e
      exact hp.2 ha
    · rcases List.mem_append.1 hq with hq | hq
      · exact h.ok q hq
      · rw [List.mem_singleton] at hq
        subst hq
        exact hp.1
  · exact h
theorem OutOk.addL {n : Nat} : ∀ (ps : List Int) {out : List Int}, OutOk n out → OutOk n (addL n out ps)
  | [], _, h => h
  | p :: ps, _, h => OutOk.addL ps (h.add p)
theorem addN_sub {n : Nat} {out : List Int} {p q : Int} (h : q ∈ out) : q ∈ addN n out p := by
  unfold addN
  split
  · exact List.mem_append_left _ h
  · exact h
theorem addL_sub {n : Nat} : ∀ (ps : List Int) {out : List Int} {q : Int}, q ∈ out → q ∈ addL n out ps
  | [], _, _, h => h
  | p :: ps, _, _, h => addL_sub ps (addN_sub h)
theorem bfs_ok {ns : List GN} : ∀ (f i : Nat) {out : List Int}, OutOk ns.length out → OutOk ns.length (bfs ns f i out)
  | 0, _, _, h => h
  | f + 1, i, out, h => by
    rw [bfs]
    split
    · exact h
    · exact bfs_ok f (i + 1) (OutOk.addL _ h)
theorem ord_ok (ns : List GN) (fr : List Int) : OutOk ns.length (ordV ns fr) := bfs_ok _ _ (OutOk.addL _ OutOk.nil)
theorem bfs_end {ns : List GN} {out : List Int} {i : Nat} (h : out.length ≤ i) : ∀ f, bfs ns f i out = out
  | 0 => rfl
  | f + 1 => by rw [bfs, List.getElem?_eq_none h]
theorem bfs_step {ns : List GN} {out : List Int} {i f : Nat} (h : i < out.length) : bfs ns (f + 1) i out = bfs ns f (i + 1) (addL ns.length out (ptrsOf ns out[i])) := by
  rw [bfs, List.getElem?_eq_getElem h]
theorem bfs_fuel {ns : List GN} : ∀ (f f' i : Nat) {out : List Int}, OutOk ns.length out → ns.length < i + f → ns.length < i + f' → bfs ns f i out = bfs ns f' i out
  | 0, f', i, out, h, h1, _ => by have := h.len; rw [bfs_end (by omega), bfs_end (by omega)]
  | f + 1, 0, i, out, h, _, h2 => by have := h.len; rw [bfs_end (by omega), bfs_end (by omega)]
  | f + 1, f' + 1, i, out, h, h1, h2 => by
    by_cases hi : i < out.length
    · rw [bfs_step hi, bfs_step hi]
      exact bfs_fuel f f' (i + 1) (OutOk.addL _ h) (by omega) (by omega)
    · rw [bfs_end (by omega), bfs_end (by omega)]
/-! a graph in other numbers -/
structure Iso (ns ns' : List GN) (D : Int → Prop) (φ : Int → Int) : Prop where
  inj : ∀ p q, D p → D q → φ p = φ q → p = q
  ok : ∀ p, D p → okNo ns.length p ∧ okNo ns'.length (φ p)
  node : ∀ q, D q → ptrsOf ns' (φ q) = (ptrsOf ns q).map φ ∧ dataOf ns' (φ q) = dataOf ns q
  clos : ∀ q, D q → ∀ p ∈ ptrsOf ns q, D p ∨ (¬ okNo ns.length p ∧ ¬ okNo ns'.length (φ p))
section
variable {ns ns' : List GN} {D : Int → Prop} {φ : Int → Int} (I : Iso ns ns' D φ)
include I
theorem iso_mem {out : List Int} (ho : ∀ q ∈ out, D q) {p : Int} (hp : D p) : φ p ∈ out.map φ ↔ p ∈ out := by
  constructor
  · intro h
    obtain ⟨q, hq, e⟩ := List.mem_map.1 h
    rw [← I.inj q p (ho q hq) hp e]
    exact hq
  · intro h
    exact List.mem_map.2 ⟨p, h, rfl⟩
theorem iso_add {out : List Int} (ho : ∀ q ∈ out, D q) {p : Int} (hp : D p ∨ (¬ okNo ns.length p ∧ ¬ okNo ns'.length (φ p))) : addN ns'.length (out.map φ) (φ p) = (addN ns.length out p).map φ ∧ ∀ q ∈ addN ns.length out p, D q := by
  unfold addN
  rcases hp with hp | hp
  · obtain ⟨h1, h2⟩ := I.ok p hp
    have h3 := iso_mem I ho hp
    by_cases hm : p ∈ out
    · rw [if_neg (fun h => h.2 (h3.2 hm)), if_neg (fun h => h.2 hm)]
      exact ⟨rfl, ho⟩
    · rw [if_pos ⟨h2, fun h => hm (h3.1 h)⟩, if_pos ⟨h1, hm⟩]
      refine ⟨by simp, fun q hq => ?_⟩
      rcases List.mem_append.1 hq with hq | hq
      · exact ho q hq
      · rw [List.mem_singleton] at hq
        subst hq
        exact hp
  · rw [if_neg (fun h => hp.2 h.1), if_neg (fun h => hp.1 h.1)]
    exact ⟨rfl, ho⟩
theorem iso_addL : ∀ (ps : List Int) {out : List Int}, (∀ q ∈ out, D q) → (∀ p ∈ ps, D p ∨ (¬ okNo ns.length p ∧ ¬ okNo ns'.length (φ p))) → addL ns'.length (out.map φ) (ps.map φ) = (addL ns.length out ps).map φ ∧ ∀ q ∈ addL ns.length out ps, D q
  | [], _, ho, _ => ⟨rfl, ho⟩
  | p :: ps, out, ho, hp => by
    obtain ⟨h1, h2⟩ := iso_add I ho (hp p (List.mem_cons_self ..))
    have h3 := iso_addL ps h2 fun q hq => hp q (List.mem_cons_of_mem _ hq)
    unfold addL at h3 ⊢
    rw [List.map_cons, List.foldl_cons, List.foldl_cons, h1]
    exact h3
theorem iso_bfs : ∀ (f i : Nat) {out : List Int}, (∀ q ∈ out, D q) → bfs ns' f i (out.map φ) = (bfs ns f i out).map φ ∧ ∀ q ∈ bfs ns f i out, D q
  | 0, _, _, ho => ⟨rfl, ho⟩
  | f + 1, i, out, ho => by
    by_cases hi : i < out.length
    · rw [bfs_step (by simpa using hi), bfs_step hi, List.getElem_map]
      have hq := ho _ (List.getElem_mem hi)
      rw [(I.node _ hq).1]
      obtain ⟨h1, h2⟩ := iso_addL I _ ho (I.clos _ hq)
      rw [h1]
      exact iso_bfs f (i + 1) h2
    · rw [bfs_end (by simp; omega), bfs_end (by omega)]
      exact ⟨rfl, ho⟩
theorem iso_idx : ∀ (l : List Int) (p : Int), (∀ q ∈ l, D q) → D p → (l.map φ).idxOf (φ p) = l.idxOf p
  | [], _, _, _ => rfl
  | q :: l, p, hl, hp => by
    rw [List.map_cons, List.idxOf_cons, List.idxOf_cons]
    have hq := hl q (List.mem_cons_self ..)
    by_cases e : q = p
    · subst e
      simp
    · have e2 : ¬ φ q = φ p := fun h => e (I.inj q p hq hp h)
      have b1 : (q == p) = false := by simpa using e
      have b2 : (φ q == φ p) = false := by simpa using e2
      rw [b1, b2, cond_false, cond_false, iso_idx l p (fun x hx => hl x (List.mem_cons_of_mem _ hx)) hp]
theorem iso_no {ord : List Int} (ho : ∀ q ∈ ord, D q) {p : Int} (hp : D p ∨ (¬ okNo ns.length p ∧ ¬ okNo ns'.length (φ p))) : noV (ord.map φ) (φ p) = noV ord p := by
  unfold noV
  rcases hp with hp | hp
  · have h3 := iso_mem I ho hp
    by_cases hm : p ∈ ord
    · rw [if_pos (h3.2 hm), if_pos hm, iso_idx I ord p ho hp]
    · rw [if_neg (fun h => hm (h3.1 h)), if_neg hm]
  · rw [if_neg (fun h => ?_), if_neg (fun h => hp.1 (I.ok p (ho p h)).1)]
    obtain ⟨q, hq, e⟩ := List.mem_map.1 h
    rw [← e] at hp
    exact hp.2 (I.ok q (ho q hq)).2
theorem iso_ord {fr : List Int} (hf : ∀ p ∈ fr, D p ∨ (¬ okNo ns.length p ∧ ¬ okNo ns'.length (φ p))) : ordV ns' (fr.map φ) = (ordV ns fr).map φ ∧ ∀ q ∈ ordV ns fr, D q := by
  obtain ⟨h1, h2⟩ := iso_addL I fr (out := []) (by simp) hf
  rw [List.map_nil] at h1
  have o1 : OutOk ns.length (addL ns.length [] fr) := OutOk.addL _ OutOk.nil
  have o2 : OutOk ns'.length (addL ns'.length [] (fr.map φ)) := OutOk.addL _ OutOk.nil
  obtain ⟨h3, _⟩ := iso_bfs I (ns'.length + ns.length + 1) 0 h2
  unfold ordV
  rw [bfs_fuel (ns'.length + 1) (ns'.length + ns.length + 1) 0 o2 (by omega) (by omega), h1, h3, bfs_fuel (ns'.length + ns.length + 1) (ns.length + 1) 0 o1 (by omega) (by omega)]
  exact ⟨rfl, (iso_bfs I _ 0 h2).2⟩
theorem iso_can {rs rs' : List GR} (hr : rs' = rs.map fun r => ⟨r.s, φ r.to⟩) (hf : ∀ r ∈ rs, D r.to ∨ (¬ okNo ns.length r.to ∧ ¬ okNo ns'.length (φ r.to))) : canNs ns' rs' = canNs ns rs ∧ canRs ns' rs' = canRs ns rs := by
  have e : rs'.map GR.to = (rs.map GR.to).map φ := by rw [hr, List.map_map, List.map_map]; rfl
  obtain ⟨h1, h2⟩ := iso_ord I (fr := rs.map GR.to) (fun p hp => by
    obtain ⟨r, hr', rfl⟩ := List.mem_map.1 hp
    exact hf r hr')
  unfold canNs canRs
  rw [e, h1]
  constructor
  · rw [List.map_map]
    refine List.map_congr_left fun q hq => ?_
    have hD := h2 q hq
    show canN ns' _ (φ q) = canN ns _ q
    unfold canN
    rw [(I.node q hD).1, (I.node q hD).2, List.map_map]
    congr 1
    refine List.map_congr_left fun p hp => ?_
    exact iso_no I h2 (I.clos q hD p hp)
  · rw [hr, List.map_map]
    refine List.map_congr_left fun r hr' => ?_
    show (⟨r.s, noV _ (φ r.to)⟩ : GR) = _
    rw [iso_no I h2 (hf r hr')]
end
end Go.Proofs.YthhcmoknppljpaaDoor
end
section
set_option linter.unusedVariables false
set_option linter.unusedSimpArgs false
set_option maxHeartbeats 4000000
namespace Go.Proofs.YthhcmoknppljpaaDoor
open Go.Sh Go.RowKit

section
end
end Go.Proofs.YthhcmoknppljpaaDoor
end
section
set_option linter.unusedVariables false
set_option linter.unusedSimpArgs false
set_option maxHeartbeats 4000000
namespace Go.Proofs.YthhcmoknppljpaaDoor
open Go.Sh Go.RowKit

section
end
end Go.Proofs.YthhcmoknppljpaaDoor
end
section
set_option linter.unusedVariables false
set_option linter.unusedSimpArgs false
set_option maxHeartbeats 4000000
namespace Go.Proofs.YthhcmoknppljpaaDoor
open Go.Sh Go.RowKit

/-- a node's rows lie apart from blocks -/
structure Apt (M : List Nat) (x : GN) : Prop where
  p : ∀ y, x.pa = some y → x.p ≠ [] → y.block ∉ M
  d : ∀ y, x.da = some y → x.d ≠ [] → y.block ∉ M
theorem NOk.ext {w w' : World} {M : List Nat} {x : GN} (h : NOk w x) (hx : Ext M w w') (ha : Apt M x) : NOk w' x := by
  refine ⟨?_, h.pl, h.pn, ?_, h.dl, h.dn⟩
  · by_cases e : x.p = []
    · rw [e]; exact .nil
    · exact h.pr.ext hx fun b o hb => ha.p _ hb e
  · by_cases e : x.d = []
    · rw [e]; exact .nil
    · exact h.dr.ext hx fun b o hb => ha.d _ hb e
theorem NOk.lt {w : World} {x : GN} (h : NOk w x) : (∀ y, x.pa = some y → x.p ≠ [] → y.block < w.heap.size) ∧ ∀ y, x.da = some y → x.d ≠ [] → y.block < w.heap.size := by
  constructor
  · intro y hy hn
    obtain ⟨b, o, h1, h2, _⟩ := h.pr.get (by simpa using hn)
    rw [hy] at h1
    cases h1
    exact h2
  · intro y hy hn
    obtain ⟨b, o, h1, h2, _⟩ := h.dr.get (by simpa using hn)
    rw [hy] at h1
    cases h1
    exact h2
/-- the blocks grow, but only by new ones -/
theorem Apt.more {w : World} {M M' : List Nat} {x : GN} (h : Apt M x) (hk : NOk w x) (hm : ∀ b ∈ M', b ∈ M ∨ w.heap.size ≤ b) : Apt M' x := by
  obtain ⟨h1, h2⟩ := hk.lt
  constructor
  · intro y hy hn hb
    rcases hm _ hb with h3 | h3
    · exact h.p y hy hn h3
    · have := h1 y hy hn; omega
  · intro y hy hn hb
    rcases hm _ hb with h3 | h3
    · exact h.d y hy hn h3
    · have := h2 y hy hn; omega
/-- a block that holds other things -/
theorem Apt.cons {w : World} {M : List Nat} {x : GN} {g : Nat} {e : TypeId} {cells : List Value} (h : Apt M x) (hk : NOk w x) (B : Blk w g e cells) (hc : ∀ v ∈ cells, (∀ i, v ≠ i64 i) ∧ ∀ c : BitVec 8, v ≠ u8 c) : Apt (g :: M) x := by
  constructor
  · intro y hy hn hm
    rcases List.mem_cons.1 hm with hm | hm
    · obtain ⟨b, o, h1, h2, h3⟩ := hk.pr.get (by simpa using hn)
      rw [hy] at h1
      cases h1
      simp only at hm
      subst hm
      have hl : 0 < (its x.p).length := by simpa using List.length_pos_iff.2 hn
      have h4 := h3 0 _ (List.getElem?_eq_getElem hl)
      rw [B.cell] at h4
      have h5 := List.mem_of_getElem? h4
      rw [List.getElem_map] at h5
      exact (hc _ h5).1 _ rfl
    · exact h.p y hy hn hm
  · intro y hy hn hm
    rcases List.mem_cons.1 hm with hm | hm
    · obtain ⟨b, o, h1, h2, h3⟩ := hk.dr.get (by simpa using hn)
      rw [hy] at h1
      cases h1
      simp only at hm
      subst hm
      have hl : 0 < (bys x.d).length := by simpa using List.length_pos_iff.2 hn
      have h4 := h3 0 _ (List.getElem?_eq_getElem hl)
      rw [B.cell] at h4
      have h5 := List.mem_of_getElem? h4
      rw [List.getElem_map] at h5
      exact (hc _ h5).2 _ rfl
    · exact h.d y hy hn hm
abbrev OwnGN (w : World) (v : Value) (l : List GN) : Prop := Own w 52 2 v l.length (l.flatMap gnC)
abbrev OwnGR (w : World) (v : Value) (l : List GR) : Prop := Own w 55 2 v l.length (l.flatMap grC)
set_option maxRecDepth 100000 in
theorem appGN {w : World} {K : K1} {v : Value} {l : List GN} {x : GN} {g : Nat} {cs : List Value} (hO : OwnGN w v l) (hcs : cs = gnC x) (hl : l.length ≤ 1000000)
    (hK : ∀ v' w', OwnGN w' v' (l ++ [x]) → Stp (blk v) (blk v') w w' → K v' w') (hg : g = w.heap.size := by first | rfl | (simp only [World.size_alloc, World.size_drew, World.size_setCell] <;> omega)) : xBuiltin Tryd.prog .append #[22, 22] 22 [false, false] [v, .slice (some ⟨g, 0, none⟩) 1 1] (w.alloc (.cells cs.toArray 52)) K := by
  subst hcs hg
  refine xAppL (s := 2) (n := l.length) (m := 1) (xs := l.flatMap gnC) (news := gnC x) (bytes := 48) (z := .agg #[.slice none 0 0, .slice none 0 0]) (by kernel_rfl) (by kernel_rfl) (by rfl) (by decide) hO (by rfl) (by simp [gnC, Value.oneCell']) (by omega) (by omega) fun v' w' h1 h2 => hK v' w' ?_ h2
  show Own w' 52 2 v' (l ++ [x]).length ((l ++ [x]).flatMap gnC)
  rw [List.length_append, List.flatMap_append]
  simpa using h1
set_option maxRecDepth 100000 in
theorem appGR {w : World} {K : K1} {v : Value} {l : List GR} {x : GR} {g : Nat} {cs : List Value} (hO : OwnGR w v l) (hcs : cs = grC x) (hl : l.length ≤ 1000000)
    (hK : ∀ v' w', OwnGR w' v' (l ++ [x]) → Stp (blk v) (blk v') w w' → K v' w') (hg : g = w.heap.size := by first | rfl | (simp only [World.size_alloc, World.size_drew, World.size_setCell] <;> omega)) : xBuiltin Tryd.prog .append #[23, 23] 23 [false, false] [v, .slice (some ⟨g, 0, none⟩) 1 1] (w.alloc (.cells cs.toArray 55)) K := by
  subst hcs hg
  refine xAppL (s := 2) (n := l.length) (m := 1) (xs := l.flatMap grC) (news := grC x) (bytes := 24) (z := .agg #[.string ⟨#[]⟩, .int .i64 0]) (by kernel_rfl) (by kernel_rfl) (by rfl) (by decide) hO (by rfl) (by simp [grC, Value.oneCell']) (by omega) (by omega) fun v' w' h1 h2 => hK v' w' ?_ h2
  show Own w' 55 2 v' (l ++ [x]).length ((l ++ [x]).flatMap grC)
  rw [List.length_append, List.flatMap_append]
  simpa using h1
theorem ClipGN_spec {w : World} {b : Option Addr} {n m : Nat} (hm : n ≤ m) : Gives Tryd.prog n_slices_Clip_graph_Node_graph_Node #[.slice b n m] w (.slice b n n) := by
  refine slices_Clip_graph_Node_graph_Node_of ?_
  unfold slices_Clip_graph_Node_graph_Node
  have hs := fun (K : K1) (w : World) => xSlice_hms (P := Tryd.prog) (w := w) (K := K) (t := 22) (z := 2) (k := .i64) (k' := .i64) (a := b) (n := n) (c := m) (h := (n : Int)) (m := (n : Int)) (by kernel_rfl) (by kernel_rfl) (by omega) (by omega) (by omega)
  simp (disch := (first | omega | decide | (simp only [rsD] <;> omega) | fail)) only [↓rsC, rsK, rsL, ↓ln_22, tick_eq, tickV_eq, ne_eq, Int.reduceAdd, Int.reduceSub, Int.reduceMul, Int.reduceEq, Int.reduceLT, Int.reduceLE, Int.reduceToNat, Nat.reduceMul, Nat.reduceAdd, Nat.reduceSub, ←decide_not, hs]
  exact ⟨by simp, Ext.refl _ _⟩
theorem ClipGR_spec {w : World} {b : Option Addr} {n m : Nat} (hm : n ≤ m) : Gives Tryd.prog n_slices_Clip_graph_Root_graph_Root #[.slice b n m] w (.slice b n n) := by
  refine slices_Clip_graph_Root_graph_Root_of ?_
  unfold slices_Clip_graph_Root_graph_Root
  have hs := fun (K : K1) (w : World) => xSlice_hms (P := Tryd.prog) (w := w) (K := K) (t := 23) (z := 2) (k := .i64) (k' := .i64) (a := b) (n := n) (c := m) (h := (n : Int)) (m := (n : Int)) (by kernel_rfl) (by kernel_rfl) (by omega) (by omega) (by omega)
  simp (disch := (first | omega | decide | (simp only [rsD] <;> omega) | fail)) only [↓rsC, rsK, rsL, ↓ln_23, tick_eq, tickV_eq, ne_eq, Int.reduceAdd, Int.reduceSub, Int.reduceMul, Int.reduceEq, Int.reduceLT, Int.reduceLE, Int.reduceToNat, Nat.reduceMul, Nat.reduceAdd, Nat.reduceSub, ←decide_not, hs]
  exact ⟨by simp, Ext.refl _ _⟩
end Go.Proofs.YthhcmoknppljpaaDoor
end
section
set_option linter.unusedVariables false
set_option linter.unusedSimpArgs false
set_option maxHeartbeats 4000000
namespace Go.Proofs.YthhcmoknppljpaaDoor
open Go.Sh Go.RowKit

end Go.Proofs.YthhcmoknppljpaaDoor
end
section
set_option linter.unusedVariables false
set_option linter.unusedSimpArgs false
set_option maxHeartbeats 4000000
namespace Go.Proofs.YthhcmoknppljpaaDoor
open Go.Sh Go.RowKit

abbrev tosL (rs : List GR) : List Int := rs.map GR.to
end Go.Proofs.YthhcmoknppljpaaDoor
end
section
set_option linter.unusedVariables false
set_option linter.unusedSimpArgs false
set_option maxHeartbeats 4000000
namespace Go.Proofs.YthhcmoknppljpaaDoor
open Go.Sh Go.RowKit

abbrev NewBt (w w' : World) (v : Value) (l : List (BitVec 8)) : Prop := NewR 5 1 w w' v l.length (bys l)
abbrev rsNam2_0 := (And.intro @xu8_eql (And.intro @xu16_eql (And.intro @xu32_eql (And.intro @xu64_eql (And.intro @xi64_eql (And.intro @bs_45_0 (And.intro @bs_45_1 (And.intro @bs_45_2 @nq_45))))))))
theorem CloneBt_spec (l : List (BitVec 8)) (a : Option Addr) (c : Nat) (w : World) (hl : l.length ≤ 1000000) (h : RowAt w a (bys l)) (hn : a = none → c = 0) :
    Yld Tryd.prog n_slices_Clone_byte_byte #[.slice a l.length c] w fun u w' => NewBt w w' u l := by
  refine slices_Clone_byte_byte_of ?_
  unfold slices_Clone_byte_byte
  cases a with
  | none =>
    have hw : l = [] := by rcases h with h | ⟨b, o, h, _⟩; simpa using h; cases h
    subst hw
    simp (disch := (first | omega | decide | (simp only [rsD] <;> omega) | fail)) only [↓rsC, rsK, rsL, ↓rsNam2_0, tick_eq, tickV_eq, ne_eq, Int.reduceAdd, Int.reduceSub, Int.reduceMul, Int.reduceEq, Int.reduceLT, Int.reduceLE, Int.reduceToNat, Nat.reduceMul, Nat.reduceAdd, Nat.reduceSub, ←decide_not, eq_self]
    exact NewR.nil (Ext.refl _ _)
  | some a =>
    simp (disch := (first | omega | decide | (simp only [rsD] <;> omega) | fail)) only [↓rsC, rsK, rsL, ↓rsNam2_0, tick_eq, tickV_eq, ne_eq, Int.reduceAdd, Int.reduceSub, Int.reduceMul, Int.reduceEq, Int.reduceLT, Int.reduceLE, Int.reduceToNat, Nat.reduceMul, Nat.reduceAdd, Nat.reduceSub, ←decide_not, eq_self]
    refine xAppend_own (e := 5) (base := w.heap.size) (xs := []) (news := bys l) (z := .int .u8 0) (bytes := 1) (by kernel_rfl) (by kernel_rfl) (by rfl) (World.ownsRow_lit w #[] 0 (Nat.le_refl _) (by decide) (by rfl)) (by simp) (h.ext0 (Ext.alloc _ _ _)) hn bys_ok (by omega) (by omega) (by simp) ?_
    intro v' w' hown hgr
    rw [Nat.zero_add, List.nil_append] at hown
    have F2 : Ext [] w w' := grownBy_new (Ext.alloc [] w _) hgr (fun k hk => by simp [Value.ownBlock] at hk; omega)
    exact ⟨F2, Own.of hown, fun b hb => (World.ownsRow.lt hown b (by simpa using hb)).1⟩
/-- what a function on numbers gives, wherever one goes on -/
def FunTo (w : World) (t : Value) (ps : List Int) (φ : Int → Int) : Prop := ∀ (w' : World) (p : Int) (K : K1), Ext [] w w' → p ∈ ps → (∀ w'', Ext [] w' w'' → K (i64 (φ p)) w'') → xCall Tryd.prog t [i64 p] w' K
/-- a node's rows are blocks that may be written -/
structure NBl (w : World) (x : GN) : Prop where
  p : x.p = [] ∨ ∃ g rest, x.pa = some ⟨g, 0, none⟩ ∧ Blk w g 3 (its x.p ++ rest)
  d : x.d = [] ∨ ∃ g rest, x.da = some ⟨g, 0, none⟩ ∧ Blk w g 5 (bys x.d ++ rest)
theorem NBl.ext {w w' : World} {M : List Nat} {x : GN} (h : NBl w x) (hx : Ext M w w') (ha : (∀ y, x.pa = some y → x.p ≠ [] → y.block ∉ M) ∧ ∀ y, x.da = some y → x.d ≠ [] → y.block ∉ M) : NBl w' x := by
  constructor
  · rcases h.p with h1 | ⟨g, rest, h1, h2⟩
    · exact .inl h1
    · by_cases e : x.p = []
      · exact .inl e
      · exact .inr ⟨g, rest, h1, h2.ext hx (ha.1 _ h1 e)⟩
  · rcases h.d with h1 | ⟨g, rest, h1, h2⟩
    · exact .inl h1
    · by_cases e : x.d = []
      · exact .inl e
      · exact .inr ⟨g, rest, h1, h2.ext hx (ha.2 _ h1 e)⟩
theorem Own.blk1 {w : World} {e : TypeId} {n c : Nat} {a : Option Addr} {cs : List Value} (h : Own w e 1 (.slice a n c) n cs) : cs = [] ∨ ∃ g rest, a = some ⟨g, 0, none⟩ ∧ Blk w g e (cs ++ rest) := by
  by_cases hn : n = 0
  · exact .inl (List.eq_nil_of_length_eq_zero (by rw [h.len, hn]))
  · obtain ⟨g, cap, rest, hv, hB, _⟩ := h.open (by omega)
    cases hv
    exact .inr ⟨g, rest, rfl, hB⟩
abbrev rsNam2_1 := (And.intro @xu8_add (And.intro @xu8_lss (And.intro @xu16_add (And.intro @xu16_lss (And.intro @xu32_add (And.intro @xu32_lss (And.intro @xu64_add (And.intro @xu64_lss (And.intro @xi64_lss (And.intro @ld_3 (And.intro @ld_40 (And.intro @ld_45 (And.intro @ld_52 (And.intro @lr_52 (And.intro @fa_52_0 (And.intro @fa_52_1 (And.intro @al_52 
  (And.intro @st_40 (And.intro @st_52 (And.intro @bd_52_0 (And.intro @bd_52_0_1 (And.intro @bd_52_1 (And.intro @bd_52 (And.intro @ia_40 (And.intro @ln_40 (And.intro @bs_40_0 @bs_40_1))))))))))))))))))))))))))
theorem apartB_spec {w : World} {x : GN} (hx : NOk w x) (lx : x.p.length ≤ 9000 ∧ x.d.length ≤ 9000) {t : Value} {φ : Int → Int} (hto : FunTo w t x.p φ) :
    Yld Tryd.prog n_graph_Node_apart #[.agg (gnC x).toArray, t] w fun u w' => Ext [] w w' ∧ ∃ y : GN, u = .agg (gnC y).toArray ∧ y.p = x.p.map φ ∧ y.d = x.d ∧ NOk w' y ∧ (∀ z, y.pa = some z → w.heap.size ≤ z.block) ∧ (∀ z, y.da = some z → w.heap.size ≤ z.block) ∧ NBl w' y := by
  refine graph_Node_apart_of ?_
  unfold graph_Node_apart
  have bx : ∀ (y : World) (K : K1), xBox Tryd.prog 52 (.agg (gnC x).toArray) y K = K (ptr y.heap.size) (y.alloc (.cells (gnC x).toArray 52)) := fun y K => xBox_r
  have al : ∀ (y : World) (K : K1), xAlloc Tryd.prog 52 y K = K (ptr y.heap.size) (y.alloc (.cells #[.slice none 0 0, .slice none 0 0] 52)) := fun y K => xAlloc_r (by kernel_rfl)
  rw [bx, al]
  have B1 : Blk (w.alloc (.cells (gnC x).toArray 52)) w.heap.size 52 (gnC x) := Blk.at rfl
  have X1 : Ext [] w (w.alloc (.cells (gnC x).toArray 52)) := Ext.alloc _ _ _
  generalize w.alloc (.cells (gnC x).toArray 52) = y1 at *
  have zw : w.heap.size ≤ w.heap.size := Nat.le_refl _
  generalize w.heap.size = g1 at B1 zw ⊢
  have B2 : Blk (y1.alloc (.cells #[.slice none 0 0, .slice none 0 0] 52)) y1.heap.size 52 [.slice none 0 0, .slice none 0 0] := Blk.at rfl
  have X2 : Ext [] y1 (y1.alloc (.cells #[.slice none 0 0, .slice none 0 0] 52)) := Ext.alloc _ _ _
  have z1 := B1.lt
  have z1w := X1.size
  generalize y1.alloc (.cells #[.slice none 0 0, .slice none 0 0] 52) = y2 at *
  generalize y1.heap.size = g2 at *
  have B12 := B1.ext X2 (by simp)
  have z2 := B2.lt
  have X12 := X1.trans X2
  have k1 := fun i => B12.cell (i := i)
  simp (disch := (first | omega | decide | (simp only [rsD] <;> omega) | fail)) only [↓rsC, rsK, rsL, ↓rsNam2_1, tick_eq, tickV_eq, ne_eq, Int.reduceAdd, Int.reduceSub, Int.reduceMul, Int.reduceEq, Int.reduceLT, Int.reduceLE, Int.reduceToNat, Nat.reduceMul, Nat.reduceAdd, Nat.reduceSub, ←decide_not, k1]
  have hx2 := hx.ext0 X12
  refine slices_Clone_byte_byte_call (Yld.mono (CloneBt_spec x.d x.da x.dc y2 (by omega) hx2.dr hx2.dn) ?_)
  rintro u y3 N3
  obtain ⟨ad, cd, rfl, hcd, _, hnd, Rd, _⟩ := N3.2.1.slice
  have Bd := Own.blk1 N3.2.1
  have Ud : ∀ z, ad = some z → y2.heap.size ≤ z.block ∧ z.block < y3.heap.size := fun z hz => ⟨N3.2.2 _ (by rw [hz]; simp [blk, Value.ownBlock]), N3.2.1.lt _ (by rw [hz]; simp [blk, Value.ownBlock])⟩
  refine slices_Clip_byte_byte_call (Gives.to (ClipB_spec hcd) fun y4 F4 => ?_)
  have F24 := N3.1.trans F4
  have z4 := F4.size
  have z3 := N3.1.size
  have k4 := fun i => (B12.ext F24 (by simp)).cell (i := i)
  have g1lt := (B12.ext F24 (by simp)).lt
  simp (disch := (first | omega | decide | (simp only [rsD] <;> omega) | fail)) only [↓rsC, rsK, rsL, ↓rsNam2_1, tick_eq, tickV_eq, ne_eq, Int.reduceAdd, Int.reduceSub, Int.reduceMul, Int.reduceEq, Int.reduceLT, Int.reduceLE, Int.reduceToNat, Nat.reduceMul, Nat.reduceAdd, Nat.reduceSub, ←decide_not, k1, k4]
  have z2' := X12.size
  obtain ⟨hh, hhh⟩ : ∃ g, g = y4.heap.size := ⟨_, rfl⟩
  have Bx0 : Blk (y4.alloc (.cells #[.slice none 0 0, .slice ad x.d.length x.d.length] 52)) hh 52 [.slice none 0 0, .slice ad x.d.length x.d.length] := Blk.at hhh
  have X5 : Ext [] y4 (y4.alloc (.cells #[.slice none 0 0, .slice ad x.d.length x.d.length] 52)) := Ext.alloc _ _ _
  have zs5 : (y4.alloc (.cells #[.slice none 0 0, .slice ad x.d.length x.d.length] 52)).heap.size = y4.heap.size + 1 := World.size_alloc _ _
  rw [← hhh] at zs5 ⊢
  generalize y4.alloc (.cells #[.slice none 0 0, .slice ad x.d.length x.d.length] 52) = y at *
  have hlt : hh < y.heap.size := by omega
  have Xy : Ext [] w y := X12.trans (F24.trans X5)
  have B1y := (B12.ext F24 (by simp)).ext X5 (by simp)
  have B2y := (B2.ext F24 (by simp)).ext X5 (by simp)
  have hxy := hx.ext0 Xy
  have Rdy := (Rd.ext0 F4).ext0 X5
  have fresh : ∀ {w' : World}, Ext [hh] y w' → Ext [] w w' := fun F => Xy.new F (fun z hz => by simp only [List.mem_singleton] at hz; omega)
  have ne2 : g2 ∉ [hh] := by simp only [List.mem_singleton]; omega
  have nilb : ∀ z, z ∉ blk (.slice none 0 0) := by simp [blk, Value.ownBlock]
  have hpl : (x.p.map φ).length = x.p.length := by simp
  refine xLoop_n x.p.length (fun j => [i64 (j : Int)]) (fun j w' => Ext [hh] y w' ∧ ∃ v, OwnIt w' v ((x.p.map φ).take j) ∧ Blk w' hh 52 [v, .slice ad x.d.length x.d.length] ∧ ∀ z ∈ blk v, y.heap.size ≤ z) rfl ⟨Ext.refl _ _, _, Own.nil, Bx0, fun z hz => absurd hz (nilb z)⟩ ?_ ?_
  · rintro j hj u x1 hu ⟨F, v, O, B, U⟩ nxt hnx
    simp only [List.map_cons, List.map_nil, List.cons.injEq, and_true] at hu
    rw [hu]
    obtain ⟨a0, c0, hv0, _⟩ := O.slice
    subst hv0
    obtain ⟨bp, op, ep, _, cp⟩ := its_at ((hx.ext0 (fresh F)).pr) hj
    have hm : x.p[j] ∈ x.p := List.getElem_mem hj
    have hsu : (x.p.map φ).take (j + 1) = (x.p.map φ).take j ++ [φ x.p[j]] := by
      rw [List.take_add_one, List.getElem?_eq_getElem (by omega)]
      simp
    generalize x.p[j] = p at *
    have Ed := Ext.drew [] x1
    have kb := fun i => (B.ext Ed (by simp)).cell (i := i)
    unfold graph_Node_apart_l1
    rw [ep]
    simp (disch := (first | omega | decide | (simp only [rsD] <;> omega) | fail)) only [↓rsC, rsK, rsL, ↓rsNam2_1, tick_eq, tickV_eq, ne_eq, Int.reduceAdd, Int.reduceSub, Int.reduceMul, Int.reduceEq, Int.reduceLT, Int.reduceLE, Int.reduceToNat, Nat.reduceMul, Nat.reduceAdd, Nat.reduceSub, ←decide_not, k1, k4, cp, kb]
    refine hto _ p _ ((fresh F).trans Ed) hm fun x4 E4 => ?_
    have E3 := Ed.trans E4
    have F4' := F.trans (E3.more (by simp))
    have B4 := B.ext E3 (by simp)
    have O4 := O.ext0 E3
    have zb4 := B4.lt
    have k5 := fun i => B4.cell (i := i)
    simp (disch := (first | omega | decide | (simp only [rsD] <;> omega) | fail)) only [↓rsC, rsK, rsL, ↓rsNam2_1, tick_eq, tickV_eq, ne_eq, Int.reduceAdd, Int.reduceSub, Int.reduceMul, Int.reduceEq, Int.reduceLT, Int.reduceLE, Int.reduceToNat, Nat.reduceMul, Nat.reduceAdd, Nat.reduceSub, ←decide_not, k1, k4, cp, kb, k5]
    refine appIt O4 rfl (by simp; omega) fun v' x5 O5 T5 => ?_
    obtain ⟨F5, U5, n1, n2⟩ := grow F4' U hlt T5
    have B5 := B4.ext T5.ext n1
    obtain ⟨a3, c3, hv3, _⟩ := O5.slice
    have k6 := fun i => B5.cell (i := i)
    have f6 := fun i => B5.frozen (i := i)
    rw [← hsu] at O5 hv3
    subst hv3
    simp (disch := (first | omega | decide | (simp only [rsD] <;> omega) | fail)) only [↓rsC, rsK, rsL, ↓rsNam2_1, tick_eq, tickV_eq, ne_eq, Int.reduceAdd, Int.reduceSub, Int.reduceMul, Int.reduceEq, Int.reduceLT, Int.reduceLE, Int.reduceToNat, Nat.reduceMul, Nat.reduceAdd, Nat.reduceSub, ←decide_not, k1, k4, cp, kb, k5, k6, f6]
    have B6 := B5.set (i := 0) (v := .slice a3 ((x.p.map φ).take (j + 1)).length c3)
    have O6 := O5.ext (Ext.set (w := x5) (b := hh) (o := 0) (v := .slice a3 ((x.p.map φ).take (j + 1)).length c3)) (fun z hz hm => by simp only [List.mem_singleton] at hm; subst hm; exact n2 hz)
    exact hnx _ ⟨F5.set' (.inl (by simp)), _, O6, B6, U5⟩
  · rintro u x1 hu ⟨F, v, O, B, U⟩ nxt
    simp only [List.map_cons, List.map_nil, List.cons.injEq, and_true] at hu
    rw [hu]
    have etk : (x.p.map φ).take x.p.length = x.p.map φ := by rw [← hpl, List.take_length]
    rw [etk] at O
    obtain ⟨a0, c0, hv0, hc0, _, hn0, R0, _⟩ := O.slice
    subst hv0
    have Bp := Own.blk1 O
    have kb := fun i => B.cell (i := i)
    have fb := fun i => B.frozen (i := i)
    unfold graph_Node_apart_l1
    simp (disch := (first | omega | decide | (simp only [rsD] <;> omega) | fail)) only [↓rsC, rsK, rsL, ↓rsNam2_1, tick_eq, tickV_eq, ne_eq, Int.reduceAdd, Int.reduceSub, Int.reduceMul, Int.reduceEq, Int.reduceLT, Int.reduceLE, Int.reduceToNat, Nat.reduceMul, Nat.reduceAdd, Nat.reduceSub, ←decide_not, k1, k4, kb, fb]
    refine slices_Clip_int_int_call (Gives.to (ClipI_spec hc0) fun x3 F3' => ?_)
    have B3 := B.ext F3' (by simp)
    have F3x := F.trans (F3'.more (by simp))
    have k3 := fun i => B3.cell (i := i)
    have f3 := fun i => B3.frozen (i := i)
    have B24x := B2y.ext F3x ne2
    have k24 := fun i => B24x.cell (i := i)
    have f24 := fun i => B24x.frozen (i := i)
    have g2x : g2 ≠ hh := by omega
    have Rp := R0.ext0 F3'
    have zF := F.size
    have zF3 := F3'.size
    simp (disch := (first | omega | decide | (simp only [rsD] <;> omega) | fail)) only [↓rsC, rsK, rsL, ↓rsNam2_1, tick_eq, tickV_eq, ne_eq, Int.reduceAdd, Int.reduceSub, Int.reduceMul, Int.reduceEq, Int.reduceLT, Int.reduceLE, Int.reduceToNat, Nat.reduceMul, Nat.reduceAdd, Nat.reduceSub, ←decide_not, k1, k4, kb, fb, k3, f3, k24, f24, g2x]
    have FE : Ext [hh, g2] x3 (((x3.setCell ⟨hh, 0, none⟩ (.slice a0 (x.p.map φ).length (x.p.map φ).length)).setCell ⟨g2, 0, none⟩ (.slice a0 (x.p.map φ).length (x.p.map φ).length)).setCell ⟨g2, 1, none⟩ (.slice ad x.d.length x.d.length)) := (((Ext.refl _ _).set' (.inl (by simp))).set' (.inl (by simp))).set' (.inl (by simp))
    have nda : ∀ b o, ad = some ⟨b, o, none⟩ → b ∉ [hh, g2] := fun b o hb hm => by
      have := Ud _ hb
      simp only [List.mem_cons, List.not_mem_nil, or_false] at hm
      simp only at this
      omega
    have npa : ∀ b o, a0 = some ⟨b, o, none⟩ → b ∉ [hh, g2] := fun b o hb hm => by
      have := U b (by subst hb; simp [blk, Value.ownBlock])
      simp only [List.mem_cons, List.not_mem_nil, or_false] at hm
      omega
    have Rdx := Rdy.ext F (fun b o hb hm => by
      have := Ud _ hb
      simp only [List.mem_singleton] at hm
      simp only at this
      omega)
    refine ⟨(((fresh F3x).set' (.inr (by omega))).set' (.inr (by omega))).set' (.inr (by omega)), ⟨x.p.map φ, a0, (x.p.map φ).length, x.d, ad, x.d.length⟩, rfl, rfl, rfl, ⟨Rp.ext FE npa, Nat.le_refl _, fun e => by have := hn0 e; simp only; omega, (Rdx.ext0 F3').ext FE nda, Nat.le_refl _, fun e => by have := hnd e; simp only; omega⟩, fun z hz => ?_, fun z hz => ?_, ⟨?_, ?_⟩⟩
    · have := U z.block (by simp only at hz; rw [hz]; simp [blk, Value.ownBlock])
      have := Xy.size
      omega
    · have := Ud z hz
      have := X12.size
      omega
    · rcases Bp with e | ⟨g, rest, e1, e2⟩
      · exact .inl (by simpa [its] using e)
      · exact .inr ⟨g, rest, e1, (e2.ext F3' (by simp)).ext FE (npa _ _ e1)⟩
    · rcases Bd with e | ⟨g, rest, e1, e2⟩
      · exact .inl (by simpa [bys] using e)
      · refine .inr ⟨g, rest, e1, ((((e2.ext F4 (by simp)).ext X5 (by simp)).ext F (fun hm => ?_)).ext F3' (by simp)).ext FE (nda _ _ e1)⟩
        have := Ud _ e1
        simp only [List.mem_singleton] at hm
        simp only at this
        omega
end Go.Proofs.YthhcmoknppljpaaDoor
end
section
set_option linter.unusedVariables false
set_option linter.unusedSimpArgs false
set_option maxHeartbeats 4000000
namespace Go.Proofs.YthhcmoknppljpaaDoor
open Go.Sh Go.RowKit

end Go.Proofs.YthhcmoknppljpaaDoor
end
section
set_option linter.unusedVariables false
set_option linter.unusedSimpArgs false
set_option maxHeartbeats 4000000
namespace Go.Proofs.YthhcmoknppljpaaDoor
open Go.Sh Go.RowKit

end Go.Proofs.YthhcmoknppljpaaDoor
end
section
set_option linter.unusedVariables false
set_option linter.unusedSimpArgs false
set_option maxHeartbeats 4000000
namespace Go.Proofs.YthhcmoknppljpaaDoor
open Go.Sh Go.RowKit

theorem zero_bl (w : World) : (zeroValue 4).run Tryd.prog w = .ok (.bool false) w := by kernel_rfl
theorem zero_in (w : World) : (zeroValue 3).run Tryd.prog w = .ok (i64 0) w := by kernel_rfl
abbrev seenL (out : List Int) : List (Int × Value) := out.map fun p => (p, .bool true)
theorem mget_seen (out : List Int) (p : Int) : (mget (seenL out) p).getD (.bool false) = .bool (decide (p ∈ out)) := by
  by_cases h : p ∈ out
  · obtain ⟨v, hv⟩ := mget_in (l := seenL out) (i := p) ⟨(p, .bool true), List.mem_map.2 ⟨p, h, rfl⟩, rfl⟩
    obtain ⟨q, hq, h1, h2⟩ := mget_some hv
    obtain ⟨x, _, rfl⟩ := List.mem_map.1 hq
    rw [hv, decide_eq_true h, ← h2]
    rfl
  · rw [mget_none (fun q hq e => by
      obtain ⟨x, hx, rfl⟩ := List.mem_map.1 hq
      simp only at e
      subst e
      exact h hx), decide_eq_false h]
    rfl
structure OrdS (y w : World) (b4 r : Nat) (out : List Int) : Prop where
  F : Ext [b4, r] y w
  B : ∃ v, Blk w b4 40 [v] ∧ OwnIt w v out ∧ ∀ z ∈ blk v, y.heap.size ≤ z
  M : MapIs w r (seenL out)
theorem OrdS.ext0 {y w w' : World} {b4 r : Nat} {out : List Int} (h : OrdS y w b4 r out) (hx : Ext [] w w') : OrdS y w' b4 r out := by
  obtain ⟨v, h1, h2, h3⟩ := h.B
  exact ⟨h.F.trans (hx.more (by simp)), ⟨v, h1.ext hx (by simp), h2.ext0 hx, h3⟩, h.M.ext0 hx⟩
abbrev rsCan1_0 := (And.intro @xu8_com (And.intro @xu8_leq (And.intro @xu8_geq (And.intro @xu16_com (And.intro @xu16_leq (And.intro @xu16_geq (And.intro @xu32_com (And.intro @xu32_leq (And.intro @xu32_geq (And.intro @xu64_com (And.intro @xu64_leq (And.intro @xu64_geq (And.intro @xi64_leq (And.intro @xi64_geq (And.intro @ld_22 (And.intro @ld_40 
  (And.intro @ld_75 (And.intro @fa_25_0 (And.intro @st_40 (And.intro @ln_22 (And.intro @bs_40_0 @bs_40_1)))))))))))))))))))))
theorem add_call {y w : World} {na ra : Option Addr} {nc rc : Nat} {ns : List GN} {rs : List GR} {g1 b3 b4 r : Nat} {out : List Int} (h : OrdS y w b4 r out) (hB1 : Blk y g1 25 [.slice na ns.length nc, .slice ra rs.length rc]) (hB3 : Blk y b3 75 [.map (some r)])
    (h13 : g1 ≠ b4 ∧ g1 ≠ r ∧ b3 ≠ b4 ∧ b3 ≠ r ∧ b4 ≠ r ∧ b4 < y.heap.size ∧ r < y.heap.size) (hn : ns.length ≤ 9000) (ho : out.length ≤ 9000) (p : Int) {K : K1} (hK : ∀ w', OrdS y w' b4 r (addN ns.length out p) → K (.tuple #[]) w') :
    xCall Tryd.prog (.func (.func n_canon_Order_1) #[] #[ptr g1, ptr b3, ptr b4]) [i64 p] w K := by
  refine canon_Order_1_callc (show Yld Tryd.prog n_canon_Order_1 #[i64 p, ptr g1, ptr b3, ptr b4] w K from ?_)
  refine canon_Order_1_of ?_
  unfold canon_Order_1
  have F := h.F
  obtain ⟨v, B, O, U⟩ := h.B
  have k1 := fun i => (hB1.ext F (by simp only [List.mem_cons, List.not_mem_nil, or_false]; omega)).cell (i := i)
  have B3 := hB3.ext F (by simp only [List.mem_cons, List.not_mem_nil, or_false]; omega)
  have k3 := fun i => B3.cell (i := i)
  have hlk := fun (K : K1) => xLookup_v (P := Tryd.prog) (K := K) (t := 75) (kt := 3) (et := 4) (by kernel_rfl) (by kernel_rfl) (zero_bl w) h.M p
  rw [mget_seen] at hlk
  by_cases h1 : 1 ≤ p
  case neg =>
    have e : addN ns.length out p = out := by unfold addN; rw [if_neg (fun h => h1 h.1.1)]
    rw [e] at hK
    simp (disch := (first | omega | decide | (simp only [rsD] <;> omega) | fail)) only [↓rsC, rsK, rsL, ↓rsCan1_0, tick_eq, tickV_eq, ne_eq, Int.reduceAdd, Int.reduceSub, Int.reduceMul, Int.reduceEq, Int.reduceLT, Int.reduceLE, Int.reduceToNat, Nat.reduceMul, Nat.reduceAdd, Nat.reduceSub, ←decide_not, h1]
    exact hK w h
  by_cases h2 : p ≤ (ns.length : Int)
  case neg =>
    have e : addN ns.length out p = out := by unfold addN; rw [if_neg (fun h => h2 h.1.2)]
    rw [e] at hK
    simp (disch := (first | omega | decide | (simp only [rsD] <;> omega) | fail)) only [↓rsC, rsK, rsL, ↓rsCan1_0, tick_eq, tickV_eq, ne_eq, Int.reduceAdd, Int.reduceSub, Int.reduceMul, Int.reduceEq, Int.reduceLT, Int.reduceLE, Int.reduceToNat, Nat.reduceMul, Nat.reduceAdd, Nat.reduceSub, ←decide_not, h1, k1, h2]
    exact hK w h
  by_cases hm : p ∈ out
  · have e : addN ns.length out p = out := by unfold addN; rw [if_neg (fun h => h.2 hm)]
    rw [e] at hK
    rw [decide_eq_true hm] at hlk
    simp (disch := (first | omega | decide | (simp only [rsD] <;> omega) | fail)) only [↓rsC, rsK, rsL, ↓rsCan1_0, tick_eq, tickV_eq, ne_eq, Int.reduceAdd, Int.reduceSub, Int.reduceMul, Int.reduceEq, Int.reduceLT, Int.reduceLE, Int.reduceToNat, Nat.reduceMul, Nat.reduceAdd, Nat.reduceSub, ←decide_not, h1, k1, h2, k3, hlk]
    exact hK w h
  have e : addN ns.length out p = out ++ [p] := by unfold addN; rw [if_pos ⟨⟨h1, h2⟩, hm⟩]
  rw [e] at hK
  rw [decide_eq_false hm] at hlk
  simp (disch := (first | omega | decide | (simp only [rsD] <;> omega) | fail)) only [↓rsC, rsK, rsL, ↓rsCan1_0, tick_eq, tickV_eq, ne_eq, Int.reduceAdd, Int.reduceSub, Int.reduceMul, Int.reduceEq, Int.reduceLT, Int.reduceLE, Int.reduceToNat, Nat.reduceMul, Nat.reduceAdd, Nat.reduceSub, ←decide_not, h1, k1, h2, k3, hlk]
  refine xMapUpdate_new (kt := 3) (et := 4) (by kernel_rfl) (by kernel_rfl) h.M (fun q hq e => by
    obtain ⟨x, hx, rfl⟩ := List.mem_map.1 hq
    simp only at e
    subst e
    exact hm hx) fun w1 M1 F1 => ?_
  obtain ⟨a0, c0, hv0, _⟩ := O.slice
  subst hv0
  have hrv : r ∉ blk (.slice a0 out.length c0) := fun hm => by have := U r hm; omega
  have hbv : b4 ∉ blk (.slice a0 out.length c0) := fun hm => by have := U b4 hm; omega
  have B1 := B.ext F1 (by simp only [List.mem_singleton]; omega)
  have O1 := O.ext F1 (fun z hz hm => by simp only [List.mem_singleton] at hm; subst hm; exact hrv hz)
  have F01 := F.cut F1 (fun z hz => .inl (by simp only [List.mem_singleton] at hz; subst hz; simp))
  have kb := fun i => B1.cell (i := i)
  have zb1 := B1.lt
  have zF := F01.size
  simp (disch := (first | omega | decide | (simp only [rsD] <;> omega) | fail)) only [↓rsC, rsK, rsL, ↓rsCan1_0, tick_eq, tickV_eq, ne_eq, Int.reduceAdd, Int.reduceSub, Int.reduceMul, Int.reduceEq, Int.reduceLT, Int.reduceLE, Int.reduceToNat, Nat.reduceMul, Nat.reduceAdd, Nat.reduceSub, ←decide_not, h1, k1, h2, k3, hlk, kb]
  refine appIt O1 rfl (by omega) fun v' w5 O5 T5 => ?_
  have up : ∀ z ∈ blk v', y.heap.size ≤ z := fun z hz => by
    rcases T5.at' z hz with h | h
    · exact U z h
    · omega
  have hbv' : b4 ∉ blk v' := fun hm => by have := up b4 hm; omega
  have B5 := B1.ext T5.ext hbv
  have M5 := M1.ext T5.ext hrv
  have F5 := F01.cut T5.ext (fun z hz => .inr (U z hz))
  obtain ⟨a3, c3, hv3, _⟩ := O5.slice
  have k5 := fun i => B5.cell (i := i)
  have f5 := fun i => B5.frozen (i := i)
  subst hv3
  simp (disch := (first | omega | decide | (simp only [rsD] <;> omega) | fail)) only [↓rsC, rsK, rsL, ↓rsCan1_0, tick_eq, tickV_eq, ne_eq, Int.reduceAdd, Int.reduceSub, Int.reduceMul, Int.reduceEq, Int.reduceLT, Int.reduceLE, Int.reduceToNat, Nat.reduceMul, Nat.reduceAdd, Nat.reduceSub, ←decide_not, h1, k1, h2, k3, hlk, kb, k5, f5]
  have E6 : Ext [b4] w5 (w5.setCell ⟨b4, 0, none⟩ (.slice a3 (out ++ [p]).length c3)) := Ext.set
  refine hK _ ⟨F5.set' (.inl (by simp)), ⟨_, B5.set (i := 0) (v := .slice a3 (out ++ [p]).length c3), O5.ext E6 (fun z hz hm => by simp only [List.mem_singleton] at hm; subst hm; exact hbv' hz), up⟩, ?_⟩
  have := M5.ext E6 (by simp only [List.mem_singleton]; omega)
  show MapIs _ r (seenL (out ++ [p]))
  rw [seenL, List.map_append]
  exact this
theorem addL_snoc (n : Nat) (out ps : List Int) (p : Int) : addL n out (ps ++ [p]) = addN n (addL n out ps) p := by
  unfold addL
  rw [List.foldl_append]
  rfl
theorem addL_len (n : Nat) : ∀ (ps out : List Int), out.length ≤ (addL n out ps).length
  | [], _ => Nat.le_refl _
  | p :: ps, out => by
    have h1 := addL_len n ps (addN n out p)
    have h2 : out.length ≤ (addN n out p).length := by
      unfold addN
      split
      · simp
      · exact Nat.le_refl _
    have e : addL n out (p :: ps) = addL n (addN n out p) ps := rfl
    rw [e]
    omega
abbrev rsCan1_1 := (And.intro @xu8_add (And.intro @xu8_sub (And.intro @xu8_lss (And.intro @xu16_add (And.intro @xu16_sub (And.intro @xu16_lss (And.intro @xu32_add (And.intro @xu32_sub (And.intro @xu32_lss (And.intro @xu64_add (And.intro @xu64_sub (And.intro @xu64_lss (And.intro @xi64_lss (And.intro @ld_3 (And.intro @ld_22 (And.intro @ld_23 (And.intro @ld_40 
  (And.intro @ld_55 (And.intro @fa_25_0 (And.intro @fa_25_1 (And.intro @fa_52_0 (And.intro @fa_55_1 (And.intro @al_40 (And.intro @al_55 (And.intro @al_75 (And.intro @st_55 (And.intro @st_75 (And.intro @ia_22 (And.intro @ia_23 (And.intro @ia_40 (And.intro @ln_23 @ln_40)))))))))))))))))))))))))))))))
theorem Order_spec {w : World} {na ra : Option Addr} {nc rc : Nat} {ns : List GN} {rs : List GR} (h : GIs w na nc ra rc ns rs) (hf : FewH ns rs) :
    Yld Tryd.prog n_canon_Order #[gV na nc ra rc ns rs] w fun u w' => Ext [] w w' ∧ ∃ a, u = .slice a (ordV ns (tosL rs)).length (ordV ns (tosL rs)).length ∧ RowAt w' a (its (ordV ns (tosL rs))) ∧ ∀ z, a = some z → w.heap.size ≤ z.block := by
  have hfn := hf.n
  have hfr := hf.r
  refine canon_Order_of ?_
  unfold canon_Order
  have gbox : ∀ (y : World) (K : K1), xBox Tryd.prog 25 (gV na nc ra rc ns rs) y K = K (ptr y.heap.size) (y.alloc (.cells #[.slice na ns.length nc, .slice ra rs.length rc] 25)) := fun y K => xBox_r
  rw [gbox]
  have B1 : Blk (w.alloc (.cells #[.slice na ns.length nc, .slice ra rs.length rc] 25)) w.heap.size 25 [.slice na ns.length nc, .slice ra rs.length rc] := Blk.at rfl
  have X1 : Ext [] w (w.alloc (.cells #[.slice na ns.length nc, .slice ra rs.length rc] 25)) := Ext.alloc _ _ _
  generalize w.alloc (.cells #[.slice na ns.length nc, .slice ra rs.length rc] 25) = y1 at *
  obtain ⟨g1, hg1⟩ : ∃ g, g = w.heap.size := ⟨_, rfl⟩
  rw [← hg1] at B1 ⊢
  have g1lt := B1.lt
  have k1 := fun i => B1.cell (i := i)
  have hm := fun (K : K1) (w : World) => xMakeMap_r (P := Tryd.prog) (w := w) (K := K) (t := 75)
  simp (disch := (first | omega | decide | (simp only [rsD] <;> omega) | fail)) only [↓rsC, rsK, rsL, ↓rsCan1_1, tick_eq, tickV_eq, ne_eq, Int.reduceAdd, Int.reduceSub, Int.reduceMul, Int.reduceEq, Int.reduceLT, Int.reduceLE, Int.reduceToNat, Nat.reduceMul, Nat.reduceAdd, Nat.reduceSub, ←decide_not, hm, k1]
  simp only [size_sets, World.size_alloc]
  have Mr0 := MapIs.new y1
  have Xm : Ext [] y1 (y1.alloc (.map #[] 0)) := Ext.alloc _ _ _
  have zm : (y1.alloc (.map #[] 0)).heap.size = y1.heap.size + 1 := World.size_alloc _ _
  generalize y1.alloc (.map #[] 0) = ym at *
  have Bb0 : Blk (ym.alloc (.cells #[.map none] 75)) (y1.heap.size + 1) 75 [.map none] := Blk.at zm.symm
  have Xb : Ext [] ym (ym.alloc (.cells #[.map none] 75)) := Ext.alloc _ _ _
  have zb : (ym.alloc (.cells #[.map none] 75)).heap.size = y1.heap.size + 2 := by rw [World.size_alloc, zm]
  generalize ym.alloc (.cells #[.map none] 75) = yb at *
  have Bb1 : Blk (yb.setCells (y1.heap.size + 1) 0 (Value.map (some y1.heap.size)).cells.toList) (y1.heap.size + 1) 75 [.map (some y1.heap.size)] := Bb0.put (cs := [.map (some y1.heap.size)]) rfl
  have Eb : Ext [y1.heap.size + 1] yb (yb.setCells (y1.heap.size + 1) 0 (Value.map (some y1.heap.size)).cells.toList) := Ext.sets (Ext.refl _ _) (.inl (by simp))
  have zc : (yb.setCells (y1.heap.size + 1) 0 (Value.map (some y1.heap.size)).cells.toList).heap.size = y1.heap.size + 2 := by rw [size_sets, zb]
  have X1c : Ext [] y1 (yb.setCells (y1.heap.size + 1) 0 (Value.map (some y1.heap.size)).cells.toList) := (Xm.trans Xb).sets (.inr (by omega))
  have Mr1 := (Mr0.ext0 Xb).ext Eb (by simp)
  generalize yb.setCells (y1.heap.size + 1) 0 (Value.map (some y1.heap.size)).cells.toList = yc at *
  have B40 : Blk (yc.alloc (.cells #[.slice none 0 0] 40)) (y1.heap.size + 2) 40 [.slice none 0 0] := Blk.at zc.symm
  have Xd : Ext [] yc (yc.alloc (.cells #[.slice none 0 0] 40)) := Ext.alloc _ _ _
  have zd : (yc.alloc (.cells #[.slice none 0 0] 40)).heap.size = y1.heap.size + 3 := by rw [World.size_alloc, zc]
  generalize yc.alloc (.cells #[.slice none 0 0] 40) = y at *
  have X1y := X1c.trans Xd
  have B1y := B1.ext X1y (by simp)
  have B3y := Bb1.ext Xd (by simp)
  have Mry := Mr1.ext0 Xd
  have zw := X1.size
  generalize y1.heap.size = r at *
  have nilb : ∀ z, z ∉ blk (.slice none 0 0) := by simp [blk, Value.ownBlock]
  have S0 : OrdS y y (r + 2) r [] := ⟨Ext.refl _ _, ⟨_, B40, Own.nil, fun z hz => absurd hz (nilb z)⟩, Mry⟩
  have hne : g1 ≠ r + 2 ∧ g1 ≠ r ∧ r + 1 ≠ r + 2 ∧ r + 1 ≠ r ∧ r + 2 ≠ r ∧ r + 2 < y.heap.size ∧ r < y.heap.size := by omega
  have hadd : ∀ {w' : World} {out : List Int} (S : OrdS y w' (r + 2) r out) (ho : OutOk ns.length out) (p : Int) {K : K1} (hK : ∀ w', OrdS y w' (r + 2) r (addN ns.length out p) → K (.tuple #[]) w'), xCall Tryd.prog (.func (.func n_canon_Order_1) #[] #[ptr g1, ptr (r + 1), ptr (r + 2)]) [i64 p] w' K := fun S ho p K hK => add_call S B1y B3y hne hfn (by have := ho.len; omega) p hK
  have Xw := X1.trans X1y
  have fresh : ∀ {w' : World} {out : List Int}, OrdS y w' (r + 2) r out → Ext [] w w' := fun S => Xw.new S.F (fun z hz => by simp only [List.mem_cons, List.not_mem_nil, or_false] at hz; omega)
  have ne1 : g1 ∉ [r + 2, r] := by simp only [List.mem_cons, List.not_mem_nil, or_false]; omega
  refine xLoop_n rs.length (fun j => [i64 (j : Int)]) (fun j w' => OrdS y w' (r + 2) r (addL ns.length [] ((tosL rs).take j)) ∧ OutOk ns.length (addL ns.length [] ((tosL rs).take j))) rfl ⟨by simpa [addL] using S0, OutOk.addL _ OutOk.nil⟩ ?_ ?_
  · rintro j hj u x1 hu ⟨S, hO⟩ nxt hnx
    simp only [List.map_cons, List.map_nil, List.cons.injEq, and_true] at hu
    rw [hu]
    obtain ⟨br, or', era, _, c1, c2⟩ := gr_at (h.rr.ext0 (fresh S)) hj
    have hsu : (tosL rs).take (j + 1) = (tosL rs).take j ++ [rs[j].to] := by
      rw [List.take_add_one, List.getElem?_eq_getElem (by simpa using hj)]
      simp
    generalize rs[j] = q at *
    unfold canon_Order_l1
    rw [era]
    simp (disch := (first | omega | decide | (simp only [rsD] <;> omega) | fail)) only [↓rsC, rsK, rsL, ↓rsCan1_1, tick_eq, tickV_eq, ne_eq, Int.reduceAdd, Int.reduceSub, Int.reduceMul, Int.reduceEq, Int.reduceLT, Int.reduceLE, Int.reduceToNat, Nat.reduceMul, Nat.reduceAdd, Nat.reduceSub, ←decide_not, hm, k1, c1, c2]
    have S2 := S.ext0 (Ext.alloc [] x1 (.cells #[.string (strOf q.s), i64 q.to] 55))
    refine hadd S2 hO q.to fun x2 S3 => ?_
    simp (disch := (first | omega | decide | (simp only [rsD] <;> omega) | fail)) only [↓rsC, rsK, rsL, ↓rsCan1_1, tick_eq, tickV_eq, ne_eq, Int.reduceAdd, Int.reduceSub, Int.reduceMul, Int.reduceEq, Int.reduceLT, Int.reduceLE, Int.reduceToNat, Nat.reduceMul, Nat.reduceAdd, Nat.reduceSub, ←decide_not, hm, k1, c1, c2]
    refine hnx _ ⟨?_, OutOk.addL _ OutOk.nil⟩
    rw [hsu, addL_snoc]
    exact S3
  · rintro u x1 hu ⟨S, hO⟩ nxt
    simp only [List.map_cons, List.map_nil, List.cons.injEq, and_true] at hu
    rw [hu]
    have etk : (tosL rs).take rs.length = tosL rs := by rw [show rs.length = (tosL rs).length by simp, List.take_length]
    rw [etk] at S hO
    unfold canon_Order_l1
    simp (disch := (first | omega | decide | (simp only [rsD] <;> omega) | fail)) only [↓rsC, rsK, rsL, ↓rsCan1_1, tick_eq, tickV_eq, ne_eq, Int.reduceAdd, Int.reduceSub, Int.reduceMul, Int.reduceEq, Int.reduceLT, Int.reduceLE, Int.reduceToNat, Nat.reduceMul, Nat.reduceAdd, Nat.reduceSub, ←decide_not, hm, k1]
    have hord : ∀ out i f, OutOk ns.length out → ns.length < i + f → ordV ns (tosL rs) = bfs ns f i out → out.length ≤ i → ordV ns (tosL rs) = out := fun out i f _ _ h1 h2 => by rw [h1, bfs_end h2]
    refine xLoop_r (ns.length + 1) (fun i vs w' => ∃ out, vs = [i64 (i : Int)] ∧ OrdS y w' (r + 2) r out ∧ OutOk ns.length out ∧ i ≤ out.length ∧ ordV ns (tosL rs) = bfs ns (ns.length + 1 - i) i out) ⟨_, rfl, S, hO, Nat.zero_le _, rfl⟩ ?_ ?_
    rotate_left
    · rintro u x2 ⟨out, hu, S2, hO2, hi, he⟩ nxt2
      have := hO2.len
      omega
    rintro i hi u x2 ⟨out, hu, S2, hO2, hil, he⟩ nxt2 hnx2
    simp only [List.map_cons, List.map_nil, List.cons.injEq, and_true] at hu
    rw [hu]
    have hol := hO2.len
    obtain ⟨v, B, O, U⟩ := S2.B
    obtain ⟨a0, c0, hv0, hc0, _, _, R0, _⟩ := O.slice
    subst hv0
    have kb := fun i => B.cell (i := i)
    unfold canon_Order_l2
    by_cases hlt : i < out.length
    · have Sd := S2.ext0 (Ext.drew [] x2)
      have kd := fun i => (B.ext (Ext.drew [] x2) (by simp)).cell (i := i)
      have kg := fun i => (B1y.ext Sd.F ne1).cell (i := i)
      obtain ⟨bo, oo, eo, _, co⟩ := its_at R0 hlt
      have hok := hO2.ok _ (List.getElem_mem hlt)
      have hq : out[i].toNat - 1 < ns.length := by omega
      obtain ⟨bn, on, ena, _, c1, c2⟩ := gn_at (h.nr.ext0 (fresh S2)) hq
      have hptr : ptrsOf ns out[i] = ns[out[i].toNat - 1].p := by unfold ptrsOf; rw [List.getElem?_eq_getElem hq]
      have hstep : bfs ns (ns.length + 1 - i) i out = bfs ns (ns.length + 1 - (i + 1)) (i + 1) (addL ns.length out ns[out[i].toNat - 1].p) := by
        rw [show ns.length + 1 - i = (ns.length + 1 - (i + 1)) + 1 by omega, bfs_step hlt, hptr]
      have hx := h.ok _ (List.getElem_mem hq)
      have tq : (out[i] - 1).toNat = out[i].toNat - 1 := by omega
      have hqb : out[i] ≤ 9000 := by omega
      have lx := hf.x _ (List.getElem_mem hq)
      generalize out[i] = q at *
      generalize ns[q.toNat - 1] = x at *
      subst ena
      rw [eo] at kb kd
      simp (disch := (first | omega | decide | (simp only [rsD] <;> omega) | fail)) only [↓rsC, rsK, rsL, ↓rsCan1_1, tick_eq, tickV_eq, ne_eq, Int.reduceAdd, Int.reduceSub, Int.reduceMul, Int.reduceEq, Int.reduceLT, Int.reduceLE, Int.reduceToNat, Nat.reduceMul, Nat.reduceAdd, Nat.reduceSub, ←decide_not, hm, k1, kb, kd, kg, co, tq, c1]
      refine xLoop_n x.p.length (fun k => [i64 (k : Int)]) (fun k w' => OrdS y w' (r + 2) r (addL ns.length out (x.p.take k)) ∧ OutOk ns.length (addL ns.length out (x.p.take k))) rfl ⟨by simpa [addL] using Sd, OutOk.addL _ hO2⟩ ?_ ?_
      · rintro k hk u x3 hu ⟨S3, hO3⟩ nxt3 hnx3
        simp only [List.map_cons, List.map_nil, List.cons.injEq, and_true] at hu
        rw [hu]
        obtain ⟨bp, op, ep, _, cp⟩ := its_at (hx.ext0 (fresh S3)).pr hk
        have hsu : x.p.take (k + 1) = x.p.take k ++ [x.p[k]] := by
          rw [List.take_add_one, List.getElem?_eq_getElem hk]
          rfl
        generalize x.p[k] = pk at *
        unfold canon_Order_l3
        rw [ep]
        simp (disch := (first | omega | decide | (simp only [rsD] <;> omega) | fail)) only [↓rsC, rsK, rsL, ↓rsCan1_1, tick_eq, tickV_eq, ne_eq, Int.reduceAdd, Int.reduceSub, Int.reduceMul, Int.reduceEq, Int.reduceLT, Int.reduceLE, Int.reduceToNat, Nat.reduceMul, Nat.reduceAdd, Nat.reduceSub, ←decide_not, hm, k1, kb, kd, kg, co, tq, c1, cp]
        refine hadd S3 hO3 pk fun x4 S4 => ?_
        simp (disch := (first | omega | decide | (simp only [rsD] <;> omega) | fail)) only [↓rsC, rsK, rsL, ↓rsCan1_1, tick_eq, tickV_eq, ne_eq, Int.reduceAdd, Int.reduceSub, Int.reduceMul, Int.reduceEq, Int.reduceLT, Int.reduceLE, Int.reduceToNat, Nat.reduceMul, Nat.reduceAdd, Nat.reduceSub, ←decide_not, hm, k1, kb, kd, kg, co, tq, c1, cp]
        refine hnx3 _ ⟨?_, OutOk.addL _ hO2⟩
        rw [hsu, addL_snoc]
        exact S4
      · rintro u x3 hu ⟨S3, hO3⟩ nxt3
        simp only [List.map_cons, List.map_nil, List.cons.injEq, and_true] at hu
        rw [hu]
        rw [List.take_length] at S3 hO3
        unfold canon_Order_l3
        simp (disch := (first | omega | decide | (simp only [rsD] <;> omega) | fail)) only [↓rsC, rsK, rsL, ↓rsCan1_1, tick_eq, tickV_eq, ne_eq, Int.reduceAdd, Int.reduceSub, Int.reduceMul, Int.reduceEq, Int.reduceLT, Int.reduceLE, Int.reduceToNat, Nat.reduceMul, Nat.reduceAdd, Nat.reduceSub, ←decide_not, hm, k1, kb, kd, kg, co, tq, c1]
        have hlen3 : i + 1 ≤ (addL ns.length out x.p).length := by
          have := addL_len ns.length x.p out
          omega
        exact hnx2 _ _ ⟨_, by simp, S3, hO3, hlen3, by rw [he, hstep]⟩
    · have e := hord out i (ns.length + 1 - i) hO2 (by omega) he (by omega)
      simp (disch := (first | omega | decide | (simp only [rsD] <;> omega) | fail)) only [↓rsC, rsK, rsL, ↓rsCan1_1, tick_eq, tickV_eq, ne_eq, Int.reduceAdd, Int.reduceSub, Int.reduceMul, Int.reduceEq, Int.reduceLT, Int.reduceLE, Int.reduceToNat, Nat.reduceMul, Nat.reduceAdd, Nat.reduceSub, ←decide_not, hm, k1, kb]
      refine slices_Clip_int_int_call (Gives.to (ClipI_spec hc0) fun x3 F3 => ?_)
      rw [e]
      exact ⟨(fresh S2).trans F3, a0, rfl, R0.ext0 F3, fun z hz => by have := U z.block (by rw [hz]; simp [blk, Value.ownBlock]); have := Xw.size; omega⟩
end Go.Proofs.YthhcmoknppljpaaDoor
end
section
set_option linter.unusedVariables false
set_option linter.unusedSimpArgs false
set_option maxHeartbeats 4000000
namespace Go.Proofs.YthhcmoknppljpaaDoor
open Go.Sh Go.RowKit

def numK (ord : List Int) (k : Nat) : List (Int × Value) := (List.range k).map fun i => (ord.getD i 0, i64 ((i : Int) + 1))
theorem numK_succ (ord : List Int) (k : Nat) : numK ord (k + 1) = numK ord k ++ [(ord.getD k 0, i64 ((k : Int) + 1))] := by
  unfold numK
  rw [List.range_succ, List.map_append]
  rfl
theorem mget_num {ord : List Int} (hd : ord.Nodup) (p : Int) : (mget (numK ord ord.length) p).getD (i64 0) = i64 (noV ord p) := by
  unfold noV
  by_cases h : p ∈ ord
  · rw [if_pos h]
    obtain ⟨i, hi, e⟩ := List.getElem_of_mem h
    have hg : ∀ i (hi : i < ord.length), ord.getD i 0 = ord[i] := fun i hi => by rw [List.getD_eq_getElem?_getD, List.getElem?_eq_getElem hi]; rfl
    obtain ⟨v, hv⟩ := mget_in (l := numK ord ord.length) (i := p) ⟨(ord.getD i 0, i64 ((i : Int) + 1)), List.mem_map.2 ⟨i, List.mem_range.2 hi, rfl⟩, by simp only; rw [hg i hi, e]⟩
    obtain ⟨q, hq, h1, h2⟩ := mget_some hv
    obtain ⟨k, hk, rfl⟩ := List.mem_map.1 hq
    have hk := List.mem_range.1 hk
    simp only at h1 h2
    rw [hg k hk] at h1
    rw [hv, ← h2, Option.getD_some]
    have : ord.idxOf p = k := by rw [← h1]; exact List.Nodup.idxOf_getElem hd k hk
    rw [this]
  · rw [if_neg h, mget_none (fun q hq e => by
      obtain ⟨k, hk, rfl⟩ := List.mem_map.1 hq
      have hk := List.mem_range.1 hk
      simp only at e
      rw [List.getD_eq_getElem?_getD, List.getElem?_eq_getElem hk, Option.getD_some] at e
      exact h (e ▸ List.getElem_mem hk))]
    rfl
abbrev rsCan2_0 := (And.intro @xu8_add (And.intro @xu8_sub (And.intro @xu8_lss (And.intro @xu16_add (And.intro @xu16_sub (And.intro @xu16_lss (And.intro @xu32_add (And.intro @xu32_sub (And.intro @xu32_lss (And.intro @xu64_add (And.intro @xu64_sub (And.intro @xu64_lss (And.intro @xi64_lss (And.intro @ld_3 (And.intro @ld_9 (And.intro @ld_22 (And.intro @ld_23 
  (And.intro @ld_25 (And.intro @ld_40 (And.intro @ld_45 (And.intro @ld_52 (And.intro @ld_55 (And.intro @lr_25 (And.intro @fa_25_0 (And.intro @fa_25_1 (And.intro @fa_52_0 (And.intro @fa_52_1 (And.intro @fa_55_0 (And.intro @fa_55_1 (And.intro @al_25 (And.intro @al_52 (And.intro @al_55 (And.intro @st_22 (And.intro @st_23 (And.intro @st_25 (And.intro @st_40 (And.intro @st_52 
  (And.intro @st_55 (And.intro @bd_52_0 (And.intro @bd_52_0_1 (And.intro @bd_52_1 (And.intro @bd_52 (And.intro @bd_55_0_1 (And.intro @ia_22 (And.intro @ia_23 (And.intro @ia_40 (And.intro @ln_23 (And.intro @ln_40 (And.intro @bs_22_1 (And.intro @bs_22_2 (And.intro @bs_22_3 (And.intro @bs_23_0 (And.intro @bs_23_1 (And.intro @bs_40_0 @bs_40_1))))))))))))))))))))))))))))))))))))))))))))))))))))))
theorem CanonF_spec {w : World} {na ra : Option Addr} {nc rc : Nat} {ns : List GN} {rs : List GR} (h : GIs w na nc ra rc ns rs) (hf : FewH ns rs) :
    Yld Tryd.prog n_canon_Canon #[gV na nc ra rc ns rs] w fun u w' => Ext [] w w' ∧ ∃ na' nc' ra' rc' ns', ns'.map bare = canNs ns rs ∧ u = gV na' nc' ra' rc' ns' (canRs ns rs) ∧ GIs w' na' nc' ra' rc' ns' (canRs ns rs) ∧ (∀ z, na' = some z → w.heap.size ≤ z.block) ∧ ∀ z, ra' = some z → w.heap.size ≤ z.block := by
  have hfn := hf.n
  have hfr := hf.r
  refine canon_Canon_of ?_
  unfold canon_Canon
  have gbox : ∀ (y : World) (K : K1), xBox Tryd.prog 25 (gV na nc ra rc ns rs) y K = K (ptr y.heap.size) (y.alloc (.cells #[.slice na ns.length nc, .slice ra rs.length rc] 25)) := fun y K => xBox_r
  have al : ∀ (y : World) (K : K1), xAlloc Tryd.prog 25 y K = K (ptr y.heap.size) (y.alloc (.cells #[.slice none 0 0, .slice none 0 0] 25)) := fun y K => xAlloc_r (by kernel_rfl)
  have hm : ∀ (y : World) (K : K1), xMakeMap Tryd.prog 58 none y K = K (.map (some y.heap.size)) (y.alloc (.map #[] 0)) := fun y K => xMakeMap_r
  rw [gbox, al, hm]
  have B1 : Blk (w.alloc (.cells #[.slice na ns.length nc, .slice ra rs.length rc] 25)) w.heap.size 25 [.slice na ns.length nc, .slice ra rs.length rc] := Blk.at rfl
  have X1 : Ext [] w (w.alloc (.cells #[.slice na ns.length nc, .slice ra rs.length rc] 25)) := Ext.alloc _ _ _
  generalize w.alloc (.cells #[.slice na ns.length nc, .slice ra rs.length rc] 25) = y1 at *
  obtain ⟨g1, hg1⟩ : ∃ g, g = w.heap.size := ⟨_, rfl⟩
  rw [← hg1] at B1 ⊢
  have B2 : Blk (y1.alloc (.cells #[.slice none 0 0, .slice none 0 0] 25)) y1.heap.size 25 [.slice none 0 0, .slice none 0 0] := Blk.at rfl
  have X2 : Ext [] y1 (y1.alloc (.cells #[.slice none 0 0, .slice none 0 0] 25)) := Ext.alloc _ _ _
  have g1lt := B1.lt
  have B12 := B1.ext X2 (by simp)
  have zw1 := X1.size
  generalize y1.alloc (.cells #[.slice none 0 0, .slice none 0 0] 25) = y2 at *
  obtain ⟨g2, hg2⟩ : ∃ g, g = y1.heap.size := ⟨_, rfl⟩
  rw [← hg2] at B2 ⊢
  have g2lt := B2.lt
  have Mr0 := MapIs.new y2
  have X3 : Ext [] y2 (y2.alloc (.map #[] 0)) := Ext.alloc _ _ _
  have B13 := B12.ext X3 (by simp)
  have B23 := B2.ext X3 (by simp)
  generalize y2.alloc (.map #[] 0) = y3 at *
  obtain ⟨r, hr⟩ : ∃ r, r = y2.heap.size := ⟨_, rfl⟩
  rw [← hr] at Mr0 ⊢
  have rlt := Mr0.lt
  have X13 := (X1.trans X2).trans X3
  have k1 := fun i => B13.cell (i := i)
  simp (disch := (first | omega | decide | (simp only [rsD] <;> omega) | fail)) only [↓rsC, rsK, rsL, ↓rsCan2_0, tick_eq, tickV_eq, ne_eq, Int.reduceAdd, Int.reduceSub, Int.reduceMul, Int.reduceEq, Int.reduceLT, Int.reduceLE, Int.reduceToNat, Nat.reduceMul, Nat.reduceAdd, Nat.reduceSub, ←decide_not, k1]
  refine canon_Order_call (Yld.mono (Order_spec (h.ext0 X13) hf) ?_)
  rintro u y4 ⟨F4, ao, rfl, Ro, Uo⟩
  have hO := ord_ok ns (tosL rs)
  have hcN : canNs ns rs = (ordV ns (tosL rs)).map (canN ns (ordV ns (tosL rs))) := rfl
  have hcR : canRs ns rs = rs.map fun r => ⟨r.s, noV (ordV ns (tosL rs)) r.to⟩ := rfl
  have hol := hO.len
  rw [hcN, hcR]
  generalize ordV ns (tosL rs) = ord at *
  have B14 := B13.ext F4 (by simp)
  have B24 := B23.ext F4 (by simp)
  have Mr4 := Mr0.ext0 F4
  have Xw := X13.trans F4
  simp (disch := (first | omega | decide | (simp only [rsD] <;> omega) | fail)) only [↓rsC, rsK, rsL, ↓rsCan2_0, tick_eq, tickV_eq, ne_eq, Int.reduceAdd, Int.reduceSub, Int.reduceMul, Int.reduceEq, Int.reduceLT, Int.reduceLE, Int.reduceToNat, Nat.reduceMul, Nat.reduceAdd, Nat.reduceSub, ←decide_not, k1]
  have ne1 : g1 ∉ [r] := by simp only [List.mem_singleton]; omega
  have ne2 : g2 ∉ [r] := by simp only [List.mem_singleton]; omega
  have fresh : ∀ {w' : World}, Ext [r] y4 w' → Ext [] w w' := fun F => Xw.new F (fun z hz => by simp only [List.mem_singleton] at hz; have := X2.size; omega)
  have Ra : ∀ {w' : World}, Ext [r] y4 w' → RowAt w' ao (its ord) := fun F => Ro.ext F fun b o hb hm => by
    have := Uo _ hb
    simp only [List.mem_singleton] at hm
    simp only at this
    omega
  have hg : ∀ i (hi : i < ord.length), ord.getD i 0 = ord[i] := fun i hi => by rw [List.getD_eq_getElem?_getD, List.getElem?_eq_getElem hi]; rfl
  refine xLoop_n ord.length (fun j => [i64 (j : Int)]) (fun j w' => Ext [r] y4 w' ∧ MapIs w' r (numK ord j)) rfl ⟨Ext.refl _ _, by simpa [numK] using Mr4⟩ ?_ ?_
  · rintro j hj u x1 hu ⟨F, M⟩ nxt hnx
    simp only [List.map_cons, List.map_nil, List.cons.injEq, and_true] at hu
    rw [hu]
    obtain ⟨b, o, eo, _, co⟩ := its_at (Ra F) hj
    have hnot : ∀ p ∈ numK ord j, p.1 ≠ ord[j] := fun p hp e => by
      obtain ⟨i, hi, rfl⟩ := List.mem_map.1 hp
      have hi := List.mem_range.1 hi
      simp only at e
      rw [hg i (by omega)] at e
      have := List.pairwise_iff_getElem.1 hO.nd i j (by omega) hj hi
      exact this e
    have hsu := numK_succ ord j
    rw [hg j hj] at hsu
    generalize ord[j] = q at *
    unfold canon_Canon_l1
    rw [eo]
    simp (disch := (first | omega | decide | (simp only [rsD] <;> omega) | fail)) only [↓rsC, rsK, rsL, ↓rsCan2_0, tick_eq, tickV_eq, ne_eq, Int.reduceAdd, Int.reduceSub, Int.reduceMul, Int.reduceEq, Int.reduceLT, Int.reduceLE, Int.reduceToNat, Nat.reduceMul, Nat.reduceAdd, Nat.reduceSub, ←decide_not, k1, co]
    refine xMapUpdate_new (kt := 3) (et := 3) (by kernel_rfl) (by kernel_rfl) M hnot fun x2 M2 F2 => ?_
    simp (disch := (first | omega | decide | (simp only [rsD] <;> omega) | fail)) only [↓rsC, rsK, rsL, ↓rsCan2_0, tick_eq, tickV_eq, ne_eq, Int.reduceAdd, Int.reduceSub, Int.reduceMul, Int.reduceEq, Int.reduceLT, Int.reduceLE, Int.reduceToNat, Nat.reduceMul, Nat.reduceAdd, Nat.reduceSub, ←decide_not, k1, co]
    rw [← hsu] at M2
    exact hnx _ ⟨F.trans F2, M2⟩
  rintro u x1 hu ⟨F, M⟩ nxt
  simp only [List.map_cons, List.map_nil, List.cons.injEq, and_true] at hu
  rw [hu]
  have B1x := B14.ext F ne1
  have B2x := B24.ext F ne2
  have g1x := B1x.lt
  have g2x := B2x.lt
  have rx := M.lt
  unfold canon_Canon_l1
  simp (disch := (first | omega | decide | (simp only [rsD] <;> omega) | fail)) only [↓rsC, rsK, rsL, ↓rsCan2_0, tick_eq, tickV_eq, ne_eq, Int.reduceAdd, Int.reduceSub, Int.reduceMul, Int.reduceEq, Int.reduceLT, Int.reduceLE, Int.reduceToNat, Nat.reduceMul, Nat.reduceAdd, Nat.reduceSub, ←decide_not, k1]
  obtain ⟨hx, hhx⟩ : ∃ g, g = x1.heap.size := ⟨_, rfl⟩
  have Bx0 : Blk (x1.alloc (.cells #[.slice none 0 0, .slice none 0 0] 25)) hx 25 [.slice none 0 0, .slice none 0 0] := Blk.at hhx
  have X8 : Ext [] x1 (x1.alloc (.cells #[.slice none 0 0, .slice none 0 0] 25)) := Ext.alloc _ _ _
  have zs8 : (x1.alloc (.cells #[.slice none 0 0, .slice none 0 0] 25)).heap.size = x1.heap.size + 1 := World.size_alloc _ _
  rw [← hhx] at zs8 ⊢
  have F8 := (fresh F).trans X8
  have B18 := B1x.ext X8 (by simp)
  have B28 := B2x.ext X8 (by simp)
  have M8 := M.ext0 X8
  have R8 := (Ra F).ext0 X8
  have zw8 := (fresh F).size
  have aolt : ord ≠ [] → ∀ z, ao = some z → z.block < x1.heap.size := fun he z hz => by
    obtain ⟨b2, o2, e2, hlt2, _⟩ := (Ra F).get (by simpa using he)
    rw [hz] at e2
    cases e2
    exact hlt2
  generalize x1.alloc (.cells #[.slice none 0 0, .slice none 0 0] 25) = q at *
  have hlt : hx < q.heap.size := by omega
  have fresh2 : ∀ {w' : World}, Ext [hx] q w' → Ext [] w w' := fun F => F8.new F (fun z hz => by simp only [List.mem_singleton] at hz; omega)
  have nq1 : g1 ∉ [hx] := by simp only [List.mem_singleton]; omega
  have nq2 : g2 ∉ [hx] := by simp only [List.mem_singleton]; omega
  have nqr : r ∉ [hx] := by simp only [List.mem_singleton]; omega
  have Rq : ∀ {w' : World}, Ext [hx] q w' → RowAt w' ao (its ord) := fun F => by
    by_cases he : ord = []
    · rw [he]; exact .nil
    · exact R8.ext F fun b o hb hm => by
        have := aolt he _ hb
        simp only [List.mem_singleton] at hm
        simp only at this
        omega
  have nilb : ∀ z, z ∉ blk (.slice none 0 0) := by simp [blk, Value.ownBlock]
  have hlk : ∀ {w' : World} (F : Ext [hx] q w') (p : Int) (K : K1), xLookup Tryd.prog 58 (.map (some r)) (i64 p) false w' K = K (i64 (noV ord p)) w' := fun {w'} F p K => by
    rw [xLookup_v (kt := 3) (et := 3) (by kernel_rfl) (by kernel_rfl) (zero_in w') (M8.ext F nqr) p, mget_num hO.nd]
  refine xLoop_n ord.length (fun j => [i64 (j : Int)]) (fun j w' => Ext [hx] q w' ∧ ∃ v ns', ns'.map bare = (ord.map (canN ns ord)).take j ∧ OwnGN w' v ns' ∧ Blk w' hx 25 [v, .slice none 0 0] ∧ (∀ z ∈ blk v, q.heap.size ≤ z) ∧ ∀ x ∈ ns', NOk w' x ∧ Apt (hx :: blk v) x) rfl ⟨Ext.refl _ _, .slice none 0 0, [], by simp, Own.nil, Bx0, fun z hz => absurd hz (nilb z), by simp⟩ ?_ ?_
  · rintro j hj u x2 hu ⟨F, v, ns', hns, O, B, U, A⟩ nxt2 hnx
    simp only [List.map_cons, List.map_nil, List.cons.injEq, and_true] at hu
    rw [hu]
    obtain ⟨bo, oo, eo, _, co⟩ := its_at (Rq F) hj
    have hok := hO.ok _ (List.getElem_mem hj)
    have hq : ord[j].toNat - 1 < ns.length := by omega
    obtain ⟨bn, on, ena, _, c1, c2⟩ := gn_at (h.nr.ext0 (fresh2 F)) hq
    have hsu : (ord.map (canN ns ord)).take (j + 1) = (ord.map (canN ns ord)).take j ++ [⟨ns[ord[j].toNat - 1].p.map (noV ord), none, 0, ns[ord[j].toNat - 1].d, none, 0⟩] := by
      rw [List.take_add_one, List.getElem?_eq_getElem (by simpa using hj)]
      simp [canN, ptrsOf, dataOf, List.getElem?_eq_getElem hq]
    have hnl : ns'.length ≤ 9000 := by
      have h1 := congrArg List.length hns
      rw [List.length_map, List.length_take, List.length_map] at h1
      omega
    have hc1 : ∀ {w' : World}, Ext [hx] q w' → w'.cell? ⟨bn, on + (ord[j].toNat - 1) * 2, none⟩ = some (.slice ns[ord[j].toNat - 1].pa ns[ord[j].toNat - 1].p.length ns[ord[j].toNat - 1].pc) ∧ bn < w'.heap.size := fun {w'} F' => by
      obtain ⟨b', o', e', z', d1, _⟩ := gn_at (h.nr.ext0 (fresh2 F')) hq
      rw [ena] at e'
      cases e'
      exact ⟨d1, z'⟩
    have hxk := h.ok _ (List.getElem_mem hq)
    have lx := hf.x _ (List.getElem_mem hq)
    have tq : (ord[j] - 1).toNat = ord[j].toNat - 1 := by omega
    have hqb : ord[j] ≤ 9000 := by omega
    generalize ord[j] = qn at *
    generalize ns[qn.toNat - 1] = x at *
    have kg := fun i => (B18.ext F nq1).cell (i := i)
    obtain ⟨a0, c0, hv0, _⟩ := O.slice
    subst hv0
    unfold canon_Canon_l2
    rw [eo]
    simp (disch := (first | omega | decide | (simp only [rsD] <;> omega) | fail)) only [↓rsC, rsK, rsL, ↓rsCan2_0, tick_eq, tickV_eq, ne_eq, Int.reduceAdd, Int.reduceSub, Int.reduceMul, Int.reduceEq, Int.reduceLT, Int.reduceLE, Int.reduceToNat, Nat.reduceMul, Nat.reduceAdd, Nat.reduceSub, ←decide_not, k1, co, kg, ena, tq, c2]
    have hx2 := hxk.ext0 (fresh2 F)
    refine slices_Clone_byte_byte_call (Yld.mono (CloneBt_spec x.d x.da x.dc x2 (by omega) hx2.dr hx2.dn) ?_)
    rintro u x3 N3
    obtain ⟨ad, cd, rfl, hcd, _, hnd, Rd, _⟩ := N3.2.1.slice
    have Ud : ∀ z, ad = some z → x2.heap.size ≤ z.block ∧ z.block < x3.heap.size := fun z hz => ⟨N3.2.2 _ (by rw [hz]; simp [blk, Value.ownBlock]), N3.2.1.lt _ (by rw [hz]; simp [blk, Value.ownBlock])⟩
    refine slices_Clip_byte_byte_call (Gives.to (ClipB_spec hcd) fun x4 F4 => ?_)
    have E24 := N3.1.trans F4
    have F04 := F.trans (E24.more (by simp))
    have z34 := F4.size
    have z23 := N3.1.size
    have kg4 := fun i => (B18.ext F04 nq1).cell (i := i)
    have zg4 := (B18.ext F04 nq1).lt
    obtain ⟨c14, zbn⟩ := hc1 F04
    simp (disch := (first | omega | decide | (simp only [rsD] <;> omega) | fail)) only [↓rsC, rsK, rsL, ↓rsCan2_0, tick_eq, tickV_eq, ne_eq, Int.reduceAdd, Int.reduceSub, Int.reduceMul, Int.reduceEq, Int.reduceLT, Int.reduceLE, Int.reduceToNat, Nat.reduceMul, Nat.reduceAdd, Nat.reduceSub, ←decide_not, k1, co, kg, ena, tq, c2, kg4, c14]
    obtain ⟨hn, hhn⟩ : ∃ g, g = x4.heap.size := ⟨_, rfl⟩
    have N50 : Blk (x4.alloc (.cells #[.slice none 0 0, .slice ad x.d.length x.d.length] 52)) hn 52 [.slice none 0 0, .slice ad x.d.length x.d.length] := Blk.at hhn
    have E45 : Ext [] x4 (x4.alloc (.cells #[.slice none 0 0, .slice ad x.d.length x.d.length] 52)) := Ext.alloc _ _ _
    rw [← hhn]
    have E25 := E24.trans E45
    generalize x4.alloc (.cells #[.slice none 0 0, .slice ad x.d.length x.d.length] 52) = x5 at *
    have hn5 := N50.lt
    have F05 := F.trans (E25.more (by simp))
    have B5 := B.ext E25 (by simp)
    have O5 := O.ext0 E25
    have Rd5 := (Rd.ext0 F4).ext0 E45
    have zF := F.size
    have hx2lt := B.lt
    have v2lt := O.lt
    have Fy : ∀ {w' : World}, Ext [hn] x5 w' → Ext [hx] q w' := fun F' => F05.cut F' (fun z hz => by simp only [List.mem_singleton] at hz; subst hz; exact .inr (by omega))
    have hxn : hx ∉ [hn] := by simp only [List.mem_singleton]; omega
    have hnv : hn ∉ blk (.slice a0 ns'.length c0) := fun hm => by have := v2lt _ hm; omega
    have hpl : (x.p.map (noV ord)).length = x.p.length := by simp
    refine xLoop_n x.p.length (fun k => [i64 (k : Int)]) (fun k w' => Ext [hn] x5 w' ∧ ∃ vp, OwnIt w' vp ((x.p.map (noV ord)).take k) ∧ Blk w' hn 52 [vp, .slice ad x.d.length x.d.length] ∧ ∀ z ∈ blk vp, x5.heap.size ≤ z) rfl ⟨Ext.refl _ _, .slice none 0 0, Own.nil, N50, fun z hz => absurd hz (nilb z)⟩ ?_ ?_
    · rintro k hk u x6 hu ⟨F6, vp, Op, Bp, Up⟩ nxt4 hn4
      simp only [List.map_cons, List.map_nil, List.cons.injEq, and_true] at hu
      rw [hu]
      obtain ⟨a1, c1', hv1, _⟩ := Op.slice
      subst hv1
      obtain ⟨bp, op, ep, _, cp⟩ := its_at (hxk.ext0 (fresh2 (Fy F6))).pr hk
      have hsu2 : (x.p.map (noV ord)).take (k + 1) = (x.p.map (noV ord)).take k ++ [noV ord x.p[k]] := by
        rw [List.take_add_one, List.getElem?_eq_getElem (by omega)]
        simp
      generalize x.p[k] = pk at *
      have kb := fun i => Bp.cell (i := i)
      have zbp := Bp.lt
      have hl2 := fun (K : K1) => hlk (Fy F6) pk K
      unfold canon_Canon_l3
      rw [ep]
      simp (disch := (first | omega | decide | (simp only [rsD] <;> omega) | fail)) only [↓rsC, rsK, rsL, ↓rsCan2_0, tick_eq, tickV_eq, ne_eq, Int.reduceAdd, Int.reduceSub, Int.reduceMul, Int.reduceEq, Int.reduceLT, Int.reduceLE, Int.reduceToNat, Nat.reduceMul, Nat.reduceAdd, Nat.reduceSub, ←decide_not, k1, co, kg, ena, tq, c2, kg4, c14, cp, kb, hl2]
      refine appIt Op rfl (by simp; omega) fun v' x7 O7 T7 => ?_
      obtain ⟨F7, U7, n1, n2⟩ := grow F6 Up hn5 T7
      have B7 := Bp.ext T7.ext n1
      obtain ⟨a3, c3, hv3, _⟩ := O7.slice
      have k7 := fun i => B7.cell (i := i)
      have f7 := fun i => B7.frozen (i := i)
      rw [← hsu2] at O7 hv3
      subst hv3
      simp (disch := (first | omega | decide | (simp only [rsD] <;> omega) | fail)) only [↓rsC, rsK, rsL, ↓rsCan2_0, tick_eq, tickV_eq, ne_eq, Int.reduceAdd, Int.reduceSub, Int.reduceMul, Int.reduceEq, Int.reduceLT, Int.reduceLE, Int.reduceToNat, Nat.reduceMul, Nat.reduceAdd, Nat.reduceSub, ←decide_not, k1, co, kg, ena, tq, c2, kg4, c14, cp, kb, hl2, k7, f7]
      have B8 := B7.set (i := 0) (v := .slice a3 ((x.p.map (noV ord)).take (k + 1)).length c3)
      have O8 := O7.ext (Ext.set (w := x7) (b := hn) (o := 0) (v := .slice a3 ((x.p.map (noV ord)).take (k + 1)).length c3)) (fun z hz hm => by simp only [List.mem_singleton] at hm; subst hm; exact n2 hz)
      exact hn4 _ ⟨F7.set' (.inl (by simp)), _, O8, B8, U7⟩
    · rintro u x6 hu ⟨F6, vp, Op, Bp, Up⟩ nxt4
      simp only [List.map_cons, List.map_nil, List.cons.injEq, and_true] at hu
      rw [hu]
      have etk : (x.p.map (noV ord)).take x.p.length = x.p.map (noV ord) := by rw [← hpl, List.take_length]
      rw [etk] at Op
      obtain ⟨a1, c1', hv1, hc1', _, hn1, R1, _⟩ := Op.slice
      subst hv1
      have kb := fun i => Bp.cell (i := i)
      have fb := fun i => Bp.frozen (i := i)
      unfold canon_Canon_l3
      simp (disch := (first | omega | decide | (simp only [rsD] <;> omega) | fail)) only [↓rsC, rsK, rsL, ↓rsCan2_0, tick_eq, tickV_eq, ne_eq, Int.reduceAdd, Int.reduceSub, Int.reduceMul, Int.reduceEq, Int.reduceLT, Int.reduceLE, Int.reduceToNat, Nat.reduceMul, Nat.reduceAdd, Nat.reduceSub, ←decide_not, k1, co, kg, ena, tq, c2, kg4, c14, kb]
      refine slices_Clip_int_int_call (Gives.to (ClipI_spec hc1') fun x7 F7 => ?_)
      have Bp7 := Bp.ext F7 (by simp)
      have kb7 := fun i => Bp7.cell (i := i)
      have fb7 := fun i => Bp7.frozen (i := i)
      have F57 := F6.trans (F7.more (by simp))
      have B7 := B5.ext F57 hxn
      have kx7 := fun i => B7.cell (i := i)
      have hne : hx ≠ hn := by simpa using hxn
      have zb7 := Bp7.lt
      have zx7 := B7.lt
      simp (disch := (first | omega | decide | (simp only [rsD] <;> omega) | fail)) only [↓rsC, rsK, rsL, ↓rsCan2_0, tick_eq, tickV_eq, ne_eq, Int.reduceAdd, Int.reduceSub, Int.reduceMul, Int.reduceEq, Int.reduceLT, Int.reduceLE, Int.reduceToNat, Nat.reduceMul, Nat.reduceAdd, Nat.reduceSub, ←decide_not, k1, co, kg, ena, tq, c2, kg4, c14, kb, kb7, fb7, kx7, hne]
      have E78 : Ext [hn] x7 (x7.setCell ⟨hn, 0, none⟩ (.slice a1 (x.p.map (noV ord)).length (x.p.map (noV ord)).length)) := Ext.set
      have F58 := F57.trans E78
      generalize x7.setCell ⟨hn, 0, none⟩ (.slice a1 (x.p.map (noV ord)).length (x.p.map (noV ord)).length) = x8 at *
      have O8 := O5.ext F58 (fun z hz hm => by simp only [List.mem_singleton] at hm; subst hm; exact hnv hz)
      have B8 := B5.ext F58 hxn
      have z58 := F58.size
      have nna1 : ∀ b o, a1 = some ⟨b, o, none⟩ → b ∉ [hn] := fun b o hb hm => by
        have := Up b (by rw [hb]; simp [blk, Value.ownBlock])
        simp only [List.mem_singleton] at hm
        omega
      have nad : ∀ b o, ad = some ⟨b, o, none⟩ → b ∉ [hn] := fun b o hb hm => by
        have := Ud _ hb
        simp only [List.mem_singleton] at hm
        simp only at this
        omega
      have NX : NOk x8 ⟨x.p.map (noV ord), a1, (x.p.map (noV ord)).length, x.d, ad, x.d.length⟩ := ⟨(R1.ext0 F7).ext E78 nna1, Nat.le_refl _, fun e => by have := hn1 e; simp only; omega, Rd5.ext F58 nad, Nat.le_refl _, fun e => by have := hnd e; simp only; omega⟩
      refine appGN O8 (x := ⟨x.p.map (noV ord), a1, (x.p.map (noV ord)).length, x.d, ad, x.d.length⟩) rfl (by omega) fun v' x9 O9 T9 => ?_
      obtain ⟨F9, U9, n1, n2⟩ := grow (Fy F58) U hlt T9
      have B9 := B8.ext T9.ext n1
      obtain ⟨a3, c3, hv3, _⟩ := O9.slice
      have k9 := fun i => B9.cell (i := i)
      have f9 := fun i => B9.frozen (i := i)
      obtain ⟨X, hX⟩ : ∃ X : GN, X = ⟨x.p.map (noV ord), a1, (x.p.map (noV ord)).length, x.d, ad, x.d.length⟩ := ⟨_, rfl⟩
      have hXp : bare X = ⟨x.p.map (noV ord), none, 0, x.d, none, 0⟩ := by rw [hX]; rfl
      have hXa : X.pa = a1 ∧ X.da = ad := by rw [hX]; exact ⟨rfl, rfl⟩
      rw [← hX] at NX O9 hv3
      subst hv3
      simp (disch := (first | omega | decide | (simp only [rsD] <;> omega) | fail)) only [↓rsC, rsK, rsL, ↓rsCan2_0, tick_eq, tickV_eq, ne_eq, Int.reduceAdd, Int.reduceSub, Int.reduceMul, Int.reduceEq, Int.reduceLT, Int.reduceLE, Int.reduceToNat, Nat.reduceMul, Nat.reduceAdd, Nat.reduceSub, ←decide_not, k1, co, kg, ena, tq, c2, kg4, c14, kb, kb7, fb7, kx7, hne, k9, f9]
      have B10 := B9.set (i := 0) (v := .slice a3 (ns' ++ [X]).length c3)
      have O10 := O9.ext (Ext.set (w := x9) (b := hx) (o := 0) (v := .slice a3 (ns' ++ [X]).length c3)) (fun z hz hm => by simp only [List.mem_singleton] at hm; subst hm; exact n2 hz)
      refine hnx _ ⟨F9.set' (.inl (by simp)), _, ns' ++ [X], ?_, O10, B10, U9, fun p hp => ?_⟩
      · rw [List.map_append, hns, hsu, List.map_cons, List.map_nil, hXp]
      · have hA : NOk x8 p ∧ Apt (hx :: blk (.slice a0 ns'.length c0)) p := by
          rcases List.mem_append.1 hp with hp | hp
          · have h1 := (A p hp).1.ext0 E25
            have h2 : Apt [hn] p := (A p hp).2.more (A p hp).1 (fun b hb => by
              rw [List.mem_singleton] at hb
              exact .inr (by omega))
            exact ⟨h1.ext F58 h2, (A p hp).2⟩
          · rw [List.mem_singleton] at hp
            subst hp
            refine ⟨NX, fun y hy _ hm => ?_, fun y hy _ hm => ?_⟩
            · rw [hXa.1] at hy
              have := Up y.block (by rw [hy]; simp [blk, Value.ownBlock])
              rcases List.mem_cons.1 hm with e | e
              · omega
              · have := v2lt _ e; omega
            · rw [hXa.2] at hy
              have := Ud y hy
              rcases List.mem_cons.1 hm with e | e
              · omega
              · have := v2lt _ e; omega
        have hA2 := hA.1.ext (T9.ext.more (fun z hz => List.mem_cons_of_mem hx hz)) hA.2
        have hA3 : Apt (hx :: blk (.slice a3 (ns' ++ [X]).length c3)) p := hA.2.more hA.1 fun b hb => by
          rcases List.mem_cons.1 hb with e | e
          · exact .inl (by rw [e]; exact List.mem_cons_self ..)
          · exact (T9.at' b e).imp (List.mem_cons_of_mem _) id
        exact ⟨hA2.ext (Ext.set.more (by simp)) hA3, hA3⟩
  rintro u x2 hu ⟨F2, v, ns', hns, O, B2q, U, A⟩ nxt2
  simp only [List.map_cons, List.map_nil, List.cons.injEq, and_true] at hu
  rw [hu]
  have hns : ns'.map bare = ord.map (canN ns ord) := by
    rw [hns]
    exact List.take_of_length_le (by simp)
  have kq1 := fun i => (B18.ext F2 nq1).cell (i := i)
  obtain ⟨rs', hrs⟩ : ∃ rs' : List GR, rs' = rs.map fun r => ⟨r.s, noV ord r.to⟩ := ⟨_, rfl⟩
  rw [← hrs]
  have hlr : rs'.length = rs.length := by rw [hrs]; simp
  unfold canon_Canon_l2
  simp (disch := (first | omega | decide | (simp only [rsD] <;> omega) | fail)) only [↓rsC, rsK, rsL, ↓rsCan2_0, tick_eq, tickV_eq, ne_eq, Int.reduceAdd, Int.reduceSub, Int.reduceMul, Int.reduceEq, Int.reduceLT, Int.reduceLE, Int.reduceToNat, Nat.reduceMul, Nat.reduceAdd, Nat.reduceSub, ←decide_not, k1, kq1]
  refine xLoop_n rs.length (fun j => [i64 (j : Int)]) (fun j w' => Ext [hx] q w' ∧ OwnGN w' v ns' ∧ ∃ v2, OwnGR w' v2 (rs'.take j) ∧ Blk w' hx 25 [v, v2] ∧ (∀ z ∈ blk v2, q.heap.size ≤ z) ∧ (∀ z ∈ blk v2, z ∉ blk v) ∧ ∀ x ∈ ns', NOk w' x ∧ Apt (hx :: (blk v ++ blk v2)) x) rfl ⟨F2, O, .slice none 0 0, Own.nil, B2q, fun z hz => absurd hz (nilb z), fun z hz => absurd hz (nilb z), fun x hx' => ⟨(A x hx').1, by have := (A x hx').2; simpa [blk, Value.ownBlock] using this⟩⟩ ?_ ?_
  · rintro j hj u x1 hu ⟨F, O, v2, R, B, U2, D, A⟩ nxt3 hnx
    simp only [List.map_cons, List.map_nil, List.cons.injEq, and_true] at hu
    rw [hu]
    obtain ⟨a0, c0', hv0, _⟩ := R.slice
    subst hv0
    have hlenj : (rs'.take j).length = j := by rw [List.length_take]; omega
    obtain ⟨br, or', era, _, c1, c2⟩ := gr_at (h.rr.ext0 (fresh2 F)) hj
    have hsu : rs'.take (j + 1) = rs'.take j ++ [⟨rs[j].s, noV ord rs[j].to⟩] := by
      rw [List.take_add_one, List.getElem?_eq_getElem (by omega)]
      simp [hrs]
    generalize rs[j] = rr at *
    have kb := fun i => B.cell (i := i)
    have zb := B.lt
    have E9 : Ext [] x1 (x1.alloc (.cells #[.string (strOf rr.s), i64 rr.to] 55)) := Ext.alloc _ _ _
    have hl2 := fun (K : K1) => hlk (F.trans (E9.more (by simp))) rr.to K
    unfold canon_Canon_l4
    rw [era]
    simp (disch := (first | omega | decide | (simp only [rsD] <;> omega) | fail)) only [↓rsC, rsK, rsL, ↓rsCan2_0, tick_eq, tickV_eq, ne_eq, Int.reduceAdd, Int.reduceSub, Int.reduceMul, Int.reduceEq, Int.reduceLT, Int.reduceLE, Int.reduceToNat, Nat.reduceMul, Nat.reduceAdd, Nat.reduceSub, ←decide_not, k1, kq1, c1, c2, kb, hl2]
    have F04 := F.trans (E9.more (by simp))
    have B4 := B.ext E9 (by simp)
    have R4' := R.ext0 E9
    have O4 := O.ext0 E9
    refine appGR R4' (x := ⟨rr.s, noV ord rr.to⟩) rfl (by omega) fun v' x5 R5 T5 => ?_
    obtain ⟨F5, U5, n1, n2⟩ := grow F04 U2 hlt T5
    have B5 := B4.ext T5.ext n1
    have O5 := O4.ext T5.ext (fun z hz hm => D z hm hz)
    obtain ⟨a3, c3, hv3, _⟩ := R5.slice
    have k5 := fun i => B5.cell (i := i)
    have f5 := fun i => B5.frozen (i := i)
    rw [← hsu] at R5 hv3
    subst hv3
    simp (disch := (first | omega | decide | (simp only [rsD] <;> omega) | fail)) only [↓rsC, rsK, rsL, ↓rsCan2_0, tick_eq, tickV_eq, ne_eq, Int.reduceAdd, Int.reduceSub, Int.reduceMul, Int.reduceEq, Int.reduceLT, Int.reduceLE, Int.reduceToNat, Nat.reduceMul, Nat.reduceAdd, Nat.reduceSub, ←decide_not, k1, kq1, c1, c2, kb, hl2, k5, f5]
    have B6 := B5.set (i := 1) (v := .slice a3 (rs'.take (j + 1)).length c3)
    have hxv : hx ∉ blk v := fun hm => by have := U _ hm; omega
    have D5 : ∀ z ∈ blk (.slice a3 (rs'.take (j + 1)).length c3), z ∉ blk v := fun z hz hm => by
      rcases T5.at' z hz with h1 | h1
      · exact D z h1 hm
      · have := O4.lt z hm
        omega
    have R6 := R5.ext (Ext.set (w := x5) (b := hx) (o := 1) (v := .slice a3 (rs'.take (j + 1)).length c3)) (fun z hz hm => by simp only [List.mem_singleton] at hm; subst hm; exact n2 hz)
    have O6 := O5.ext (Ext.set (w := x5) (b := hx) (o := 1) (v := .slice a3 (rs'.take (j + 1)).length c3)) (fun z hz hm => by simp only [List.mem_singleton] at hm; subst hm; exact hxv hz)
    refine hnx _ ⟨F5.set' (.inl (by simp)), O6, _, R6, B6, U5, D5, fun q' hq => ?_⟩
    have hA : NOk (x1.alloc (.cells #[.string (strOf rr.s), i64 rr.to] 55)) q' ∧ Apt (hx :: (blk v ++ blk (.slice a0 (rs'.take j).length c0'))) q' := ⟨(A q' hq).1.ext0 E9, (A q' hq).2⟩
    have hA2 := hA.1.ext (T5.ext.more (fun z hz => List.mem_cons_of_mem hx (List.mem_append_right _ hz))) hA.2
    have hA3 : Apt (hx :: (blk v ++ blk (.slice a3 (rs'.take (j + 1)).length c3))) q' := hA.2.more hA.1 fun b hb => by
      rcases List.mem_cons.1 hb with e | e
      · exact .inl (by rw [e]; exact List.mem_cons_self ..)
      · rcases List.mem_append.1 e with e | e
        · exact .inl (List.mem_cons_of_mem _ (List.mem_append_left _ e))
        · exact (T5.at' b e).imp (fun h => List.mem_cons_of_mem _ (List.mem_append_right _ h)) id
    exact ⟨hA2.ext (Ext.set.more (by simp)) hA3, hA3⟩
  rintro u x1 hu ⟨F, O, v2, R, B, U2, D, A⟩ nxt3
  simp only [List.map_cons, List.map_nil, List.cons.injEq, and_true] at hu
  rw [hu]
  have etk : rs'.take rs.length = rs' := List.take_of_length_le (by omega)
  rw [etk] at R
  obtain ⟨na', nc', hvn, hnc, _, hnn, Rn, _⟩ := O.slice
  obtain ⟨ra', rc', hvr, hrc, _, hrn, Rr, _⟩ := R.slice
  subst hvn hvr
  have Ed := Ext.drew [] x1
  have B3 := B.ext Ed (by simp)
  have k3d := fun i => B3.cell (i := i)
  unfold canon_Canon_l4
  simp (disch := (first | omega | decide | (simp only [rsD] <;> omega) | fail)) only [↓rsC, rsK, rsL, ↓rsCan2_0, tick_eq, tickV_eq, ne_eq, Int.reduceAdd, Int.reduceSub, Int.reduceMul, Int.reduceEq, Int.reduceLT, Int.reduceLE, Int.reduceToNat, Nat.reduceMul, Nat.reduceAdd, Nat.reduceSub, ←decide_not, k1, kq1, k3d]
  refine slices_Clip_graph_Node_graph_Node_call (Gives.to (ClipGN_spec hnc) fun x4 E4 => ?_)
  have B4 := B3.ext E4 (by simp)
  have k4 := fun i => B4.cell (i := i)
  simp (disch := (first | omega | decide | (simp only [rsD] <;> omega) | fail)) only [↓rsC, rsK, rsL, ↓rsCan2_0, tick_eq, tickV_eq, ne_eq, Int.reduceAdd, Int.reduceSub, Int.reduceMul, Int.reduceEq, Int.reduceLT, Int.reduceLE, Int.reduceToNat, Nat.reduceMul, Nat.reduceAdd, Nat.reduceSub, ←decide_not, k1, kq1, k3d, k4]
  refine slices_Clip_graph_Root_graph_Root_call (Gives.to (ClipGR_spec hrc) fun x5 E5 => ?_)
  have B5 := B4.ext E5 (by simp)
  have k5 := fun i => B5.cell (i := i)
  have f5 := fun i => B5.frozen (i := i)
  have E15 := Ed.trans (E4.trans E5)
  have B05 := (B28.ext F nq2).ext E15 (by simp)
  have k05 := fun i => B05.cell (i := i)
  have f05 := fun i => B05.frozen (i := i)
  have ne0x : g2 ≠ hx := by omega
  simp (disch := (first | omega | decide | (simp only [rsD] <;> omega) | fail)) only [↓rsC, rsK, rsL, ↓rsCan2_0, tick_eq, tickV_eq, ne_eq, Int.reduceAdd, Int.reduceSub, Int.reduceMul, Int.reduceEq, Int.reduceLT, Int.reduceLE, Int.reduceToNat, Nat.reduceMul, Nat.reduceAdd, Nat.reduceSub, ←decide_not, k1, kq1, k3d, k4, k5, f5, k05, f05, ne0x]
  have FE : Ext [g2, hx] x5 ((((x5.setCell ⟨hx, 0, none⟩ (.slice na' ns'.length ns'.length)).setCell ⟨hx, 1, none⟩ (.slice ra' rs'.length rs'.length)).setCell ⟨g2, 0, none⟩ (.slice na' ns'.length ns'.length)).setCell ⟨g2, 1, none⟩ (.slice ra' rs'.length rs'.length)) := ((((Ext.refl _ _).set' (.inl (by simp))).set' (.inl (by simp))).set' (.inl (by simp))).set' (.inl (by simp))
  have Fw := (fresh2 F).trans E15
  have zX : w.heap.size ≤ hx := by omega
  have zw2 : w.heap.size ≤ g2 := by omega
  refine ⟨(((Fw.set' (.inr zX)).set' (.inr zX)).set' (.inr zw2)).set' (.inr zw2), na', ns'.length, ra', rs'.length, ns', hns, rfl, ?_, fun z hz => by have := U z.block (by rw [hz]; simp [blk, Value.ownBlock]); omega, fun z hz => by have := U2 z.block (by rw [hz]; simp [blk, Value.ownBlock]); omega⟩
  have nna : ∀ b o, na' = some ⟨b, o, none⟩ → b ∉ [g2, hx] := fun b o hb hm => by
    have := U b (by rw [hb]; simp [blk, Value.ownBlock])
    simp only [List.mem_cons, List.not_mem_nil, or_false] at hm
    omega
  have nra : ∀ b o, ra' = some ⟨b, o, none⟩ → b ∉ [g2, hx] := fun b o hb hm => by
    have := U2 b (by rw [hb]; simp [blk, Value.ownBlock])
    simp only [List.mem_cons, List.not_mem_nil, or_false] at hm
    omega
  refine ⟨(Rn.ext0 E15).ext FE nna, Nat.le_refl _, fun e => by have := hnn e; omega, (Rr.ext0 E15).ext FE nra, Nat.le_refl _, fun e => by have := hrn e; omega, fun p hp => ?_⟩
  have hA := A p hp
  have hk := hA.1.ext0 E15
  have hA2 := hA.2.cons hk B05 (by simp)
  exact hk.ext (FE.more (by simp)) hA2
theorem Canon_spec {w : World} {na ra : Option Addr} {nc rc : Nat} {ns : List GN} {rs : List GR} (h : GIs w na nc ra rc ns rs) (hf : FewH ns rs) :
    Yld Tryd.prog n_canon_Canon #[gV na nc ra rc ns rs] w fun u w' => Ext [] w w' ∧ ∃ na' nc' ra' rc' ns', ns'.map bare = canNs ns rs ∧ u = gV na' nc' ra' rc' ns' (canRs ns rs) ∧ GIs w' na' nc' ra' rc' ns' (canRs ns rs) :=
  Yld.mono (CanonF_spec h hf) fun u w' ⟨h1, na', nc', ra', rc', ns', h2, h3, h4, _⟩ => ⟨h1, na', nc', ra', rc', ns', h2, h3, h4⟩
end Go.Proofs.YthhcmoknppljpaaDoor
end
section
set_option linter.unusedVariables false
set_option linter.unusedSimpArgs false
set_option maxHeartbeats 4000000
namespace Go.Proofs.YthhcmoknppljpaaDoor
open Go.Sh Go.RowKit

theorem strOf_inj {p q : List (BitVec 8)} : strOf p = strOf q ↔ p = q := by
  constructor
  · intro h
    have h2 : (strOf p).toList = (strOf q).toList := by rw [h]
    rw [strOf_list, strOf_list] at h2
    have := congrArg (List.map UInt8.toBitVec) h2
    rw [List.map_map, List.map_map] at this
    have e : (UInt8.toBitVec ∘ UInt8.ofBitVec) = id := rfl
    rw [e, List.map_id, List.map_id] at this
    exact this
  · intro h; rw [h]
abbrev rsEqg1_0 := (And.intro @xu8_add (And.intro @xu8_neq (And.intro @xu8_lss (And.intro @xu16_add (And.intro @xu16_neq (And.intro @xu16_lss (And.intro @xu32_add (And.intro @xu32_neq (And.intro @xu32_lss (And.intro @xu64_add (And.intro @xu64_neq (And.intro @xu64_lss (And.intro @xi64_lss (And.intro @xi64_neq (And.intro @xi64_neg (And.intro @ld_3 
  (And.intro @ia_40 @ln_40)))))))))))))))))
theorem EqualI_spec {w : World} {p q : List Int} {a a' : Option Addr} {c c' : Nat} (h : RowAt w a (its p)) (h' : RowAt w a' (its q)) (hp : p.length ≤ 1000000) (hq : q.length ≤ 1000000) : Gives Tryd.prog n_slices_Equal_int_int #[.slice a p.length c, .slice a' q.length c'] w (.bool (decide (p = q))) := by
  refine slices_Equal_int_int_of ?_
  unfold slices_Equal_int_int
  by_cases hne : p.length = q.length
  case neg =>
    have : ¬ ((p.length : Int) = q.length) := by omega
    simp (disch := (first | omega | decide | (simp only [rsD] <;> omega) | fail)) only [↓rsC, rsK, rsL, ↓rsEqg1_0, tick_eq, tickV_eq, ne_eq, Int.reduceAdd, Int.reduceSub, Int.reduceMul, Int.reduceEq, Int.reduceLT, Int.reduceLE, Int.reduceToNat, Nat.reduceMul, Nat.reduceAdd, Nat.reduceSub, ←decide_not, eq_self]
    exact ⟨by rw [decide_eq_false (fun e => hne (by rw [e]))], Ext.refl _ _⟩
  have : ((p.length : Int) = q.length) := by omega
  simp (disch := (first | omega | decide | (simp only [rsD] <;> omega) | fail)) only [↓rsC, rsK, rsL, ↓rsEqg1_0, tick_eq, tickV_eq, ne_eq, Int.reduceAdd, Int.reduceSub, Int.reduceMul, Int.reduceEq, Int.reduceLT, Int.reduceLE, Int.reduceToNat, Nat.reduceMul, Nat.reduceAdd, Nat.reduceSub, ←decide_not, eq_self]
  refine xLoop_n p.length (fun j => [i64 (j : Int)]) (fun j w' => Ext [] w w' ∧ ∀ i (hi : i < p.length) (hi' : i < q.length), i < j → p[i] = q[i]) rfl ⟨Ext.refl _ _, by intro i _ _ hi; omega⟩ ?_ ?_
  · rintro j hj u w1 hu ⟨F, hq2⟩ nxt hn
    simp only [List.map_cons, List.map_nil, List.cons.injEq, and_true] at hu
    rw [hu]
    unfold slices_Equal_int_int_l1
    have F1 := F.trans (Ext.drew [] w1)
    have hj' : j < q.length := by omega
    obtain ⟨b, o, rfl, hlt, hc⟩ := its_at (h.ext0 F1) hj
    obtain ⟨b', o', rfl, hlt', hc'⟩ := its_at (h'.ext0 F1) hj'
    by_cases e : p[j] = q[j]
    · have hnx : Ext [] w w1.drew ∧ ∀ i (hi : i < p.length) (hi' : i < q.length), i < j + 1 → p[i] = q[i] := ⟨F1, fun i hi hi' h3 => by
        by_cases ei : i = j
        · subst ei; exact e
        · exact hq2 i hi hi' (by omega)⟩
      rw [e] at hc
      generalize q[j] = z at *
      simp (disch := (first | omega | decide | (simp only [rsD] <;> omega) | fail)) only [↓rsC, rsK, rsL, ↓rsEqg1_0, tick_eq, tickV_eq, ne_eq, Int.reduceAdd, Int.reduceSub, Int.reduceMul, Int.reduceEq, Int.reduceLT, Int.reduceLE, Int.reduceToNat, Nat.reduceMul, Nat.reduceAdd, Nat.reduceSub, ←decide_not, hc, hc']
      exact hn _ hnx
    · have hno : ¬ p = q := fun e2 => e (by subst e2; rfl)
      generalize q[j] = z at *
      generalize p[j] = y at *
      simp (disch := (first | omega | decide | (simp only [rsD] <;> omega) | fail)) only [↓rsC, rsK, rsL, ↓rsEqg1_0, tick_eq, tickV_eq, ne_eq, Int.reduceAdd, Int.reduceSub, Int.reduceMul, Int.reduceEq, Int.reduceLT, Int.reduceLE, Int.reduceToNat, Nat.reduceMul, Nat.reduceAdd, Nat.reduceSub, ←decide_not, hc, hc', e]
      exact ⟨by rw [decide_eq_false hno], F1⟩
  · rintro u w1 hu ⟨F, hq2⟩ nxt
    simp only [List.map_cons, List.map_nil, List.cons.injEq, and_true] at hu
    rw [hu]
    unfold slices_Equal_int_int_l1
    simp (disch := (first | omega | decide | (simp only [rsD] <;> omega) | fail)) only [↓rsC, rsK, rsL, ↓rsEqg1_0, tick_eq, tickV_eq, ne_eq, Int.reduceAdd, Int.reduceSub, Int.reduceMul, Int.reduceEq, Int.reduceLT, Int.reduceLE, Int.reduceToNat, Nat.reduceMul, Nat.reduceAdd, Nat.reduceSub, ←decide_not, eq_self]
    refine ⟨?_, F⟩
    rw [decide_eq_true]
    exact List.ext_getElem hne fun i h1 h2 => hq2 i h1 h2 h1
abbrev rsEqg1_1 := (And.intro @xu8_eql (And.intro @xu16_eql (And.intro @xu32_eql (And.intro @xu64_eql @xi64_eql))))
theorem EqualB_spec {w : World} {p q : List (BitVec 8)} {a a' : Option Addr} {c c' : Nat} (h : RowAt w a (bys p)) (h' : RowAt w a' (bys q)) (hp : p.length ≤ 1000000) (hq : q.length ≤ 1000000) : Gives Tryd.prog n_bytes_Equal #[.slice a p.length c, .slice a' q.length c'] w (.bool (decide (p = q))) := by
  refine bytes_Equal_of ?_
  unfold bytes_Equal
  have hcv := fun (K : K1) => xConv_str (P := Tryd.prog) (w := w) (s := 45) (d := 9) (e := 5) (a := a) (n := p.length) (c := c) (l := p) (K := K) (by kernel_rfl) (by kernel_rfl) (by kernel_rfl) rfl h
  have hcv' := fun (K : K1) => xConv_str (P := Tryd.prog) (w := w) (s := 45) (d := 9) (e := 5) (a := a') (n := q.length) (c := c') (l := q) (K := K) (by kernel_rfl) (by kernel_rfl) (by kernel_rfl) rfl h'
  simp (disch := (first | omega | decide | (simp only [rsD] <;> omega) | fail)) only [↓rsC, rsK, rsL, ↓rsEqg1_1, tick_eq, tickV_eq, ne_eq, Int.reduceAdd, Int.reduceSub, Int.reduceMul, Int.reduceEq, Int.reduceLT, Int.reduceLE, Int.reduceToNat, Nat.reduceMul, Nat.reduceAdd, Nat.reduceSub, ←decide_not, hcv, hcv']
  exact ⟨by rw [decide_eq_decide.2 strOf_inj], Ext.refl _ _⟩
abbrev rsEqg1_2 := (And.intro @ld_40 (And.intro @ld_45 (And.intro @fa_52_0 @fa_52_1)))
theorem eqN_spec {w : World} {x y : GN} (hx : NOk w x) (hy : NOk w y) (lx : x.p.length ≤ 1000000 ∧ x.d.length ≤ 1000000) (ly : y.p.length ≤ 1000000 ∧ y.d.length ≤ 1000000) : Gives Tryd.prog n_graph_Equal_1 #[.agg (gnC x).toArray, .agg (gnC y).toArray] w (.bool (decide (x.p = y.p ∧ x.d = y.d))) := by
  refine graph_Equal_1_of ?_
  unfold graph_Equal_1
  have bx : ∀ (z : GN) (y : World) (K : K1), xBox Tryd.prog 52 (.agg (gnC z).toArray) y K = K (ptr y.heap.size) (y.alloc (.cells (gnC z).toArray 52)) := fun z y K => xBox_r
  rw [bx, bx]
  have B1 : Blk (w.alloc (.cells (gnC x).toArray 52)) w.heap.size 52 (gnC x) := Blk.at rfl
  have X1 : Ext [] w (w.alloc (.cells (gnC x).toArray 52)) := Ext.alloc _ _ _
  generalize w.alloc (.cells (gnC x).toArray 52) = y1 at *
  generalize w.heap.size = g1 at *
  have B2 : Blk (y1.alloc (.cells (gnC y).toArray 52)) y1.heap.size 52 (gnC y) := Blk.at rfl
  have X2 : Ext [] y1 (y1.alloc (.cells (gnC y).toArray 52)) := Ext.alloc _ _ _
  generalize y1.alloc (.cells (gnC y).toArray 52) = y2 at *
  generalize y1.heap.size = g2 at *
  have B12 := B1.ext X2 (by simp)
  have X12 := X1.trans X2
  have k1 := fun i => B12.cell (i := i)
  have k2 := fun i => B2.cell (i := i)
  have hx2 := hx.ext0 X12
  have hy2 := hy.ext0 X12
  simp (disch := (first | omega | decide | (simp only [rsD] <;> omega) | fail)) only [↓rsC, rsK, rsL, ↓rsEqg1_2, tick_eq, tickV_eq, ne_eq, Int.reduceAdd, Int.reduceSub, Int.reduceMul, Int.reduceEq, Int.reduceLT, Int.reduceLE, Int.reduceToNat, Nat.reduceMul, Nat.reduceAdd, Nat.reduceSub, ←decide_not, k1, k2]
  refine slices_Equal_int_int_call (Gives.to (EqualI_spec hx2.pr hy2.pr lx.1 ly.1) fun y3 F3 => ?_)
  have k3 := fun i => (B12.ext F3 (by simp)).cell (i := i)
  have k4 := fun i => (B2.ext F3 (by simp)).cell (i := i)
  by_cases hp : x.p = y.p
  · rw [decide_eq_true hp]
    simp (disch := (first | omega | decide | (simp only [rsD] <;> omega) | fail)) only [↓rsC, rsK, rsL, ↓rsEqg1_2, tick_eq, tickV_eq, ne_eq, Int.reduceAdd, Int.reduceSub, Int.reduceMul, Int.reduceEq, Int.reduceLT, Int.reduceLE, Int.reduceToNat, Nat.reduceMul, Nat.reduceAdd, Nat.reduceSub, ←decide_not, k1, k2, k3, k4]
    refine bytes_Equal_call (Gives.to (EqualB_spec (hx2.dr.ext0 F3) (hy2.dr.ext0 F3) lx.2 ly.2) fun y4 F4 => ?_)
    simp (disch := (first | omega | decide | (simp only [rsD] <;> omega) | fail)) only [↓rsC, rsK, rsL, ↓rsEqg1_2, tick_eq, tickV_eq, ne_eq, Int.reduceAdd, Int.reduceSub, Int.reduceMul, Int.reduceEq, Int.reduceLT, Int.reduceLE, Int.reduceToNat, Nat.reduceMul, Nat.reduceAdd, Nat.reduceSub, ←decide_not, k1, k2, k3, k4]
    have e : decide (x.d = y.d) = decide (x.p = y.p ∧ x.d = y.d) := decide_eq_decide.2 ⟨fun h => ⟨hp, h⟩, fun h => h.2⟩
    rw [e]
    exact ⟨rfl, X12.trans (F3.trans F4)⟩
  · rw [decide_eq_false hp]
    simp (disch := (first | omega | decide | (simp only [rsD] <;> omega) | fail)) only [↓rsC, rsK, rsL, ↓rsEqg1_2, tick_eq, tickV_eq, ne_eq, Int.reduceAdd, Int.reduceSub, Int.reduceMul, Int.reduceEq, Int.reduceLT, Int.reduceLE, Int.reduceToNat, Nat.reduceMul, Nat.reduceAdd, Nat.reduceSub, ←decide_not, k1, k2]
    exact ⟨by rw [decide_eq_false (fun h => hp h.1)], X12.trans F3⟩
abbrev SameN (ns ns' : List GN) : Prop := ns.map bare = ns'.map bare
abbrev SameG (ns : List GN) (rs : List GR) (ns' : List GN) (rs' : List GR) : Prop := SameN ns ns' ∧ rs = rs'
theorem bare_eq {x y : GN} : bare x = bare y ↔ x.p = y.p ∧ x.d = y.d := by
  constructor
  · intro h
    show (bare x).p = (bare y).p ∧ (bare x).d = (bare y).d
    rw [h]
    exact ⟨rfl, rfl⟩
  · rintro ⟨h1, h2⟩
    unfold bare
    rw [h1, h2]
theorem sameN_at {ns ns' : List GN} (hl : ns.length = ns'.length) : SameN ns ns' ↔ ∀ i (h : i < ns.length) (h' : i < ns'.length), ns[i].p = ns'[i].p ∧ ns[i].d = ns'[i].d := by
  constructor
  · intro h i h1 h2
    have : (ns.map bare)[i]? = (ns'.map bare)[i]? := by rw [h]
    rw [List.getElem?_map, List.getElem?_map, List.getElem?_eq_getElem h1, List.getElem?_eq_getElem h2] at this
    exact bare_eq.1 (Option.some.inj this)
  · intro h
    refine List.ext_getElem (by simpa using hl) fun i h1 h2 => ?_
    rw [List.getElem_map, List.getElem_map]
    exact bare_eq.2 (h i (by simpa using h1) (by simpa using h2))
abbrev BoolR (p : Prop) (w w' : World) (u : Value) : Prop := (∃ b : Bool, u = .bool b ∧ (b = true ↔ p)) ∧ Ext [] w w'
abbrev rsEqg1_3 := (And.intro @xu8_add (And.intro @xu8_com (And.intro @xu8_neq (And.intro @xu8_lss (And.intro @xu16_add (And.intro @xu16_com (And.intro @xu16_neq (And.intro @xu16_lss (And.intro @xu32_add (And.intro @xu32_com (And.intro @xu32_neq (And.intro @xu32_lss (And.intro @xu64_add (And.intro @xu64_com (And.intro @xu64_neq (And.intro @xu64_lss 
  (And.intro @xi64_lss (And.intro @xi64_neq (And.intro @xi64_neg (And.intro @ld_52 (And.intro @al_52 (And.intro @st_52 (And.intro @ia_22 @ln_22)))))))))))))))))))))))
theorem eqNs_spec {w : World} {ns ns' : List GN} {na na' : Option Addr} {nc nc' : Nat} (h : RowAt w na (ns.flatMap gnC)) (h' : RowAt w na' (ns'.flatMap gnC)) (hk : ∀ x ∈ ns, NOk w x) (hk' : ∀ x ∈ ns', NOk w x)
    (hf : ns.length ≤ 100000 ∧ ∀ x ∈ ns, x.p.length ≤ 1000000 ∧ x.d.length ≤ 1000000) (hf' : ns'.length ≤ 100000 ∧ ∀ x ∈ ns', x.p.length ≤ 1000000 ∧ x.d.length ≤ 1000000) :
    Yld Tryd.prog n_slices_EqualFunc_graph_Node_graph_Node_graph_Node_graph_Node #[.slice na ns.length nc, .slice na' ns'.length nc', .func (.func n_graph_Equal_1) #[] #[]] w fun u w' => BoolR (SameN ns ns') w w' u := by
  refine slices_EqualFunc_graph_Node_graph_Node_graph_Node_graph_Node_of ?_
  unfold slices_EqualFunc_graph_Node_graph_Node_graph_Node_graph_Node
  by_cases hne : ns.length = ns'.length
  case neg =>
    have : ¬ ((ns.length : Int) = ns'.length) := by omega
    simp (disch := (first | omega | decide | (simp only [rsD] <;> omega) | fail)) only [↓rsC, rsK, rsL, ↓rsEqg1_3, tick_eq, tickV_eq, ne_eq, Int.reduceAdd, Int.reduceSub, Int.reduceMul, Int.reduceEq, Int.reduceLT, Int.reduceLE, Int.reduceToNat, Nat.reduceMul, Nat.reduceAdd, Nat.reduceSub, ←decide_not, eq_self]
    exact ⟨⟨false, rfl, by simp; intro h; exact hne (by simpa using congrArg List.length h)⟩, Ext.refl _ _⟩
  have : ((ns.length : Int) = ns'.length) := by omega
  simp (disch := (first | omega | decide | (simp only [rsD] <;> omega) | fail)) only [↓rsC, rsK, rsL, ↓rsEqg1_3, tick_eq, tickV_eq, ne_eq, Int.reduceAdd, Int.reduceSub, Int.reduceMul, Int.reduceEq, Int.reduceLT, Int.reduceLE, Int.reduceToNat, Nat.reduceMul, Nat.reduceAdd, Nat.reduceSub, ←decide_not, eq_self]
  refine xLoop_n ns.length (fun j => [i64 (j : Int)]) (fun j w' => Ext [] w w' ∧ ∀ i (hi : i < ns.length) (hi' : i < ns'.length), i < j → ns[i].p = ns'[i].p ∧ ns[i].d = ns'[i].d) rfl ⟨Ext.refl _ _, by intro i _ _ hi; omega⟩ ?_ ?_
  · rintro j hj u w1 hu ⟨F, hq2⟩ nxt hn
    simp only [List.map_cons, List.map_nil, List.cons.injEq, and_true] at hu
    rw [hu]
    have hj' : j < ns'.length := by omega
    obtain ⟨b, o, rfl, hlt, c1, c2⟩ := gn_at (h.ext0 F) hj
    have m1 := List.getElem_mem hj
    have m2 := List.getElem_mem hj'
    have x1 := (hk _ m1).ext0 F
    have x2 := (hk' _ m2).ext0 F
    have l1 := hf.2 _ m1
    have l2 := hf'.2 _ m2
    unfold slices_EqualFunc_graph_Node_graph_Node_graph_Node_graph_Node_l1
    simp (disch := (first | omega | decide | (simp only [rsD] <;> omega) | fail)) only [↓rsC, rsK, rsL, ↓rsEqg1_3, tick_eq, tickV_eq, ne_eq, Int.reduceAdd, Int.reduceSub, Int.reduceMul, Int.reduceEq, Int.reduceLT, Int.reduceLE, Int.reduceToNat, Nat.reduceMul, Nat.reduceAdd, Nat.reduceSub, ←decide_not, c1, c2]
    have B1 : Blk (w1.alloc (.cells (gnC ns[j]).toArray 52)) w1.heap.size 52 (gnC ns[j]) := Blk.at rfl
    have X1 : Ext [] w1 (w1.alloc (.cells (gnC ns[j]).toArray 52)) := Ext.alloc _ _ _
    obtain ⟨bb, oo, rfl, hlt2, c3, c4⟩ := gn_at (h'.ext0 (F.trans X1)) hj'
    have x1 := x1.ext0 X1
    have x2 := x2.ext0 X1
    have F1 := F.trans X1
    generalize w1.alloc (.cells (gnC ns[j]).toArray 52) = y1 at *
    generalize w1.heap.size = g1 at *
    simp (disch := (first | omega | decide | (simp only [rsD] <;> omega) | fail)) only [↓rsC, rsK, rsL, ↓rsEqg1_3, tick_eq, tickV_eq, ne_eq, Int.reduceAdd, Int.reduceSub, Int.reduceMul, Int.reduceEq, Int.reduceLT, Int.reduceLE, Int.reduceToNat, Nat.reduceMul, Nat.reduceAdd, Nat.reduceSub, ←decide_not, c1, c2, c3, c4]
    have B2 : Blk (y1.alloc (.cells (gnC ns'[j]).toArray 52)) y1.heap.size 52 (gnC ns'[j]) := Blk.at rfl
    have X2 : Ext [] y1 (y1.alloc (.cells (gnC ns'[j]).toArray 52)) := Ext.alloc _ _ _
    have x1 := x1.ext0 X2
    have x2 := x2.ext0 X2
    have F2 := F1.trans X2
    have B12 := B1.ext X2 (by simp)
    generalize y1.alloc (.cells (gnC ns'[j]).toArray 52) = y2 at *
    generalize y1.heap.size = g2 at *
    have k1 := fun i => B12.cell (i := i)
    have k2 := fun i => B2.cell (i := i)
    simp (disch := (first | omega | decide | (simp only [rsD] <;> omega) | fail)) only [↓rsC, rsK, rsL, ↓rsEqg1_3, tick_eq, tickV_eq, ne_eq, Int.reduceAdd, Int.reduceSub, Int.reduceMul, Int.reduceEq, Int.reduceLT, Int.reduceLE, Int.reduceToNat, Nat.reduceMul, Nat.reduceAdd, Nat.reduceSub, ←decide_not, c1, c2, c3, c4, k1, k2]
    refine graph_Equal_1_call (Gives.to (eqN_spec x1 x2 l1 l2) fun y3 F3 => ?_)
    by_cases he : ns[j].p = ns'[j].p ∧ ns[j].d = ns'[j].d
    · rw [decide_eq_true he]
      simp (disch := (first | omega | decide | (simp only [rsD] <;> omega) | fail)) only [↓rsC, rsK, rsL, ↓rsEqg1_3, tick_eq, tickV_eq, ne_eq, Int.reduceAdd, Int.reduceSub, Int.reduceMul, Int.reduceEq, Int.reduceLT, Int.reduceLE, Int.reduceToNat, Nat.reduceMul, Nat.reduceAdd, Nat.reduceSub, ←decide_not, c1, c2, c3, c4, k1, k2]
      refine hn _ ⟨F2.trans F3, fun i hi hi' h3 => ?_⟩
      by_cases ei : i = j
      · subst ei; exact he
      · exact hq2 i hi hi' (by omega)
    · rw [decide_eq_false he]
      simp (disch := (first | omega | decide | (simp only [rsD] <;> omega) | fail)) only [↓rsC, rsK, rsL, ↓rsEqg1_3, tick_eq, tickV_eq, ne_eq, Int.reduceAdd, Int.reduceSub, Int.reduceMul, Int.reduceEq, Int.reduceLT, Int.reduceLE, Int.reduceToNat, Nat.reduceMul, Nat.reduceAdd, Nat.reduceSub, ←decide_not, c1, c2, c3, c4, k1, k2]
      exact ⟨⟨false, rfl, by simp only [Bool.false_eq_true, false_iff]; exact fun h => he ((sameN_at hne).1 h j hj hj')⟩, F2.trans F3⟩
  · rintro u w1 hu ⟨F, hq2⟩ nxt
    simp only [List.map_cons, List.map_nil, List.cons.injEq, and_true] at hu
    rw [hu]
    unfold slices_EqualFunc_graph_Node_graph_Node_graph_Node_graph_Node_l1
    simp (disch := (first | omega | decide | (simp only [rsD] <;> omega) | fail)) only [↓rsC, rsK, rsL, ↓rsEqg1_3, tick_eq, tickV_eq, ne_eq, Int.reduceAdd, Int.reduceSub, Int.reduceMul, Int.reduceEq, Int.reduceLT, Int.reduceLE, Int.reduceToNat, Nat.reduceMul, Nat.reduceAdd, Nat.reduceSub, ←decide_not, eq_self]
    exact ⟨⟨true, rfl, by simp only [true_iff]; exact (sameN_at hne).2 fun i h1 h2 => hq2 i h1 h2 h1⟩, F⟩
end Go.Proofs.YthhcmoknppljpaaDoor
end
section
set_option linter.unusedVariables false
set_option linter.unusedSimpArgs false
set_option maxHeartbeats 4000000
namespace Go.Proofs.YthhcmoknppljpaaDoor
open Go.Sh Go.RowKit

theorem rs_ext {rs rs' : List GR} (hl : rs.length = rs'.length) (h : ∀ i (h1 : i < rs.length) (h2 : i < rs'.length), rs[i].s = rs'[i].s ∧ rs[i].to = rs'[i].to) : rs = rs' := by
  refine List.ext_getElem hl fun i h1 h2 => ?_
  obtain ⟨e1, e2⟩ := h i h1 h2
  generalize rs[i] = x at *
  generalize rs'[i] = y at *
  cases x
  cases y
  simp only at e1 e2
  rw [e1, e2]
abbrev rsEqg2_0 := (And.intro @xu8_add (And.intro @xu8_neq (And.intro @xu8_lss (And.intro @xu16_add (And.intro @xu16_neq (And.intro @xu16_lss (And.intro @xu32_add (And.intro @xu32_neq (And.intro @xu32_lss (And.intro @xu64_add (And.intro @xu64_neq (And.intro @xu64_lss (And.intro @xi64_lss (And.intro @xi64_neq (And.intro @xi64_neg (And.intro @ld_55 
  (And.intro @ns_55 (And.intro @ia_23 @ln_23))))))))))))))))))
theorem eqRs_spec {w : World} {rs rs' : List GR} {ra ra' : Option Addr} {rc rc' : Nat} (h : RowAt w ra (rs.flatMap grC)) (h' : RowAt w ra' (rs'.flatMap grC)) (hf : rs.length ≤ 100000) (hf' : rs'.length ≤ 100000) :
    Yld Tryd.prog n_slices_Equal_graph_Root_graph_Root #[.slice ra rs.length rc, .slice ra' rs'.length rc'] w fun u w' => BoolR (rs = rs') w w' u := by
  refine slices_Equal_graph_Root_graph_Root_of ?_
  unfold slices_Equal_graph_Root_graph_Root
  by_cases hne : rs.length = rs'.length
  case neg =>
    have : ¬ ((rs.length : Int) = rs'.length) := by omega
    simp (disch := (first | omega | decide | (simp only [rsD] <;> omega) | fail)) only [↓rsC, rsK, rsL, ↓rsEqg2_0, tick_eq, tickV_eq, ne_eq, Int.reduceAdd, Int.reduceSub, Int.reduceMul, Int.reduceEq, Int.reduceLT, Int.reduceLE, Int.reduceToNat, Nat.reduceMul, Nat.reduceAdd, Nat.reduceSub, ←decide_not, eq_self]
    exact ⟨⟨false, rfl, by simp; intro h; exact hne (by rw [h])⟩, Ext.refl _ _⟩
  have : ((rs.length : Int) = rs'.length) := by omega
  simp (disch := (first | omega | decide | (simp only [rsD] <;> omega) | fail)) only [↓rsC, rsK, rsL, ↓rsEqg2_0, tick_eq, tickV_eq, ne_eq, Int.reduceAdd, Int.reduceSub, Int.reduceMul, Int.reduceEq, Int.reduceLT, Int.reduceLE, Int.reduceToNat, Nat.reduceMul, Nat.reduceAdd, Nat.reduceSub, ←decide_not, eq_self]
  refine xLoop_n rs.length (fun j => [i64 (j : Int)]) (fun j w' => Ext [] w w' ∧ ∀ i (hi : i < rs.length) (hi' : i < rs'.length), i < j → rs[i].s = rs'[i].s ∧ rs[i].to = rs'[i].to) rfl ⟨Ext.refl _ _, by intro i _ _ hi; omega⟩ ?_ ?_
  · rintro j hj u w1 hu ⟨F, hq2⟩ nxt hn
    simp only [List.map_cons, List.map_nil, List.cons.injEq, and_true] at hu
    rw [hu]
    have hj' : j < rs'.length := by omega
    have F1 := F.trans (Ext.drew [] w1)
    obtain ⟨b, o, rfl, hlt, c1, c2⟩ := gr_at (h.ext0 F1) hj
    obtain ⟨bb, oo, rfl, hlt2, c3, c4⟩ := gr_at (h'.ext0 F1) hj'
    unfold slices_Equal_graph_Root_graph_Root_l1
    by_cases he : rs[j].s = rs'[j].s ∧ rs[j].to = rs'[j].to
    · have hnx : ∀ i (hi : i < rs.length) (hi' : i < rs'.length), i < j + 1 → rs[i].s = rs'[i].s ∧ rs[i].to = rs'[i].to := fun i hi hi' h3 => by
        by_cases ei : i = j
        · subst ei; exact he
        · exact hq2 i hi hi' (by omega)
      rw [he.1] at c1
      rw [he.2] at c2
      generalize rs'[j] = y at *
      simp (disch := (first | omega | decide | (simp only [rsD] <;> omega) | fail)) only [↓rsC, rsK, rsL, ↓rsEqg2_0, tick_eq, tickV_eq, ne_eq, Int.reduceAdd, Int.reduceSub, Int.reduceMul, Int.reduceEq, Int.reduceLT, Int.reduceLE, Int.reduceToNat, Nat.reduceMul, Nat.reduceAdd, Nat.reduceSub, ←decide_not, c1, c2, c3, c4]
      exact hn _ ⟨F1, hnx⟩
    · have hno : ¬ rs = rs' := fun e2 => he (by subst e2; exact ⟨rfl, rfl⟩)
      have hb : (decide (strOf rs[j].s = strOf rs'[j].s) && decide (rs[j].to = rs'[j].to)) = false := by
        rw [Bool.and_eq_false_iff, decide_eq_false_iff_not, decide_eq_false_iff_not, strOf_inj]
        exact Classical.not_and_iff_not_or_not.1 he
      simp (disch := (first | omega | decide | (simp only [rsD] <;> omega) | fail)) only [↓rsC, rsK, rsL, ↓rsEqg2_0, tick_eq, tickV_eq, ne_eq, Int.reduceAdd, Int.reduceSub, Int.reduceMul, Int.reduceEq, Int.reduceLT, Int.reduceLE, Int.reduceToNat, Nat.reduceMul, Nat.reduceAdd, Nat.reduceSub, ←decide_not, c1, c2, c3, c4, hb]
      exact ⟨⟨false, rfl, by simpa using hno⟩, F1⟩
  · rintro u w1 hu ⟨F, hq2⟩ nxt
    simp only [List.map_cons, List.map_nil, List.cons.injEq, and_true] at hu
    rw [hu]
    unfold slices_Equal_graph_Root_graph_Root_l1
    simp (disch := (first | omega | decide | (simp only [rsD] <;> omega) | fail)) only [↓rsC, rsK, rsL, ↓rsEqg2_0, tick_eq, tickV_eq, ne_eq, Int.reduceAdd, Int.reduceSub, Int.reduceMul, Int.reduceEq, Int.reduceLT, Int.reduceLE, Int.reduceToNat, Nat.reduceMul, Nat.reduceAdd, Nat.reduceSub, ←decide_not, eq_self]
    exact ⟨⟨true, rfl, by simp only [true_iff]; exact rs_ext hne fun i h1 h2 => hq2 i h1 h2 h1⟩, F⟩
abbrev rsEqg2_1 := (And.intro @ld_22 (And.intro @ld_23 (And.intro @fa_25_0 @fa_25_1)))
theorem GEqual_spec {w : World} {ns ns' : List GN} {rs rs' : List GR} {na na' ra ra' : Option Addr} {nc nc' rc rc' : Nat} (h : GIs w na nc ra rc ns rs) (h' : GIs w na' nc' ra' rc' ns' rs') (hf : FewH ns rs) (hf' : FewH ns' rs') :
    Yld Tryd.prog n_graph_Equal #[gV na nc ra rc ns rs, gV na' nc' ra' rc' ns' rs'] w fun u w' => BoolR (SameG ns rs ns' rs') w w' u := by
  have few : ∀ {ns : List GN} {rs : List GR}, FewH ns rs → ns.length ≤ 100000 ∧ ∀ x ∈ ns, x.p.length ≤ 1000000 ∧ x.d.length ≤ 1000000 := fun hf => ⟨by have := hf.n; omega, fun x hx => by have := hf.x x hx; omega⟩
  refine graph_Equal_of ?_
  unfold graph_Equal
  have bx : ∀ (na : Option Addr) (nc : Nat) (ra : Option Addr) (rc : Nat) (ns : List GN) (rs : List GR) (y : World) (K : K1), xBox Tryd.prog 25 (gV na nc ra rc ns rs) y K = K (ptr y.heap.size) (y.alloc (.cells #[.slice na ns.length nc, .slice ra rs.length rc] 25)) := fun _ _ _ _ _ _ y K => xBox_r
  rw [bx, bx]
  have B1 : Blk (w.alloc (.cells #[.slice na ns.length nc, .slice ra rs.length rc] 25)) w.heap.size 25 [.slice na ns.length nc, .slice ra rs.length rc] := Blk.at rfl
  have X1 : Ext [] w (w.alloc (.cells #[.slice na ns.length nc, .slice ra rs.length rc] 25)) := Ext.alloc _ _ _
  generalize w.alloc (.cells #[.slice na ns.length nc, .slice ra rs.length rc] 25) = y1 at *
  generalize w.heap.size = g1 at *
  have B2 : Blk (y1.alloc (.cells #[.slice na' ns'.length nc', .slice ra' rs'.length rc'] 25)) y1.heap.size 25 [.slice na' ns'.length nc', .slice ra' rs'.length rc'] := Blk.at rfl
  have X2 : Ext [] y1 (y1.alloc (.cells #[.slice na' ns'.length nc', .slice ra' rs'.length rc'] 25)) := Ext.alloc _ _ _
  generalize y1.alloc (.cells #[.slice na' ns'.length nc', .slice ra' rs'.length rc'] 25) = y2 at *
  generalize y1.heap.size = g2 at *
  have X12 := X1.trans X2
  have B12 := B1.ext X2 (by simp)
  have g := h.ext0 X12
  have g' := h'.ext0 X12
  have k1 := fun i => B12.cell (i := i)
  have k2 := fun i => B2.cell (i := i)
  simp (disch := (first | omega | decide | (simp only [rsD] <;> omega) | fail)) only [↓rsC, rsK, rsL, ↓rsEqg2_1, tick_eq, tickV_eq, ne_eq, Int.reduceAdd, Int.reduceSub, Int.reduceMul, Int.reduceEq, Int.reduceLT, Int.reduceLE, Int.reduceToNat, Nat.reduceMul, Nat.reduceAdd, Nat.reduceSub, ←decide_not, k1, k2]
  refine slices_EqualFunc_graph_Node_graph_Node_graph_Node_graph_Node_call (Yld.mono (eqNs_spec g.nr g'.nr g.ok g'.ok (few hf) (few hf')) ?_)
  rintro u y3 ⟨⟨b, rfl, hb⟩, F3⟩
  have k3 := fun i => (B12.ext F3 (by simp)).cell (i := i)
  have k4 := fun i => (B2.ext F3 (by simp)).cell (i := i)
  cases b with
  | false =>
    simp (disch := (first | omega | decide | (simp only [rsD] <;> omega) | fail)) only [↓rsC, rsK, rsL, ↓rsEqg2_1, tick_eq, tickV_eq, ne_eq, Int.reduceAdd, Int.reduceSub, Int.reduceMul, Int.reduceEq, Int.reduceLT, Int.reduceLE, Int.reduceToNat, Nat.reduceMul, Nat.reduceAdd, Nat.reduceSub, ←decide_not, k1, k2]
    exact ⟨⟨false, rfl, by simp only [Bool.false_eq_true, false_iff]; exact fun h => by have := hb.2 h.1; cases this⟩, X12.trans F3⟩
  | true =>
    simp (disch := (first | omega | decide | (simp only [rsD] <;> omega) | fail)) only [↓rsC, rsK, rsL, ↓rsEqg2_1, tick_eq, tickV_eq, ne_eq, Int.reduceAdd, Int.reduceSub, Int.reduceMul, Int.reduceEq, Int.reduceLT, Int.reduceLE, Int.reduceToNat, Nat.reduceMul, Nat.reduceAdd, Nat.reduceSub, ←decide_not, k1, k2, k3, k4]
    refine slices_Equal_graph_Root_graph_Root_call (Yld.mono (eqRs_spec (g.rr.ext0 F3) (g'.rr.ext0 F3) (by have := hf.r; omega) (by have := hf'.r; omega)) ?_)
    rintro u y4 ⟨⟨b, rfl, hb2⟩, F4⟩
    simp (disch := (first | omega | decide | (simp only [rsD] <;> omega) | fail)) only [↓rsC, rsK, rsL, ↓rsEqg2_1, tick_eq, tickV_eq, ne_eq, Int.reduceAdd, Int.reduceSub, Int.reduceMul, Int.reduceEq, Int.reduceLT, Int.reduceLE, Int.reduceToNat, Nat.reduceMul, Nat.reduceAdd, Nat.reduceSub, ←decide_not, k1, k2, k3, k4]
    exact ⟨⟨b, rfl, ⟨fun h => ⟨hb.1 rfl, hb2.1 h⟩, fun h => hb2.2 h.2⟩⟩, X12.trans (F3.trans F4)⟩
end Go.Proofs.YthhcmoknppljpaaDoor
end
section
set_option linter.unusedVariables false
set_option linter.unusedSimpArgs false
set_option maxHeartbeats 4000000
namespace Go.Proofs.YthhcmoknppljpaaDoor
open Go.Sh Go.RowKit

theorem can_few {ns ns' : List GN} {rs : List GR} (hf : FewH ns rs) (h : ns'.map bare = canNs ns rs) : FewH ns' (canRs ns rs) := by
  have hl : ns'.length = (ordV ns (rs.map GR.to)).length := by
    have := congrArg List.length h
    simpa [canNs] using this
  have ho := (ord_ok ns (rs.map GR.to)).len
  refine ⟨by have := hf.n; omega, by simpa [canRs] using hf.r, fun x hx => ?_⟩
  have hm : bare x ∈ canNs ns rs := by rw [← h]; exact List.mem_map.2 ⟨x, hx, rfl⟩
  obtain ⟨q, _, e⟩ := List.mem_map.1 hm
  have e1 : x.p.length = (ptrsOf ns q).length := by
    have := congrArg (fun z => z.p.length) e
    simp only [canN, bare, List.length_map] at this
    exact this.symm
  have e2 : x.d.length = (dataOf ns q).length := by
    have := congrArg (fun z => z.d.length) e
    simp only [canN, bare] at this
    exact this.symm
  rw [e1, e2]
  unfold ptrsOf dataOf
  cases hq : ns[q.toNat - 1]? with
  | none => simp
  | some y => exact hf.x y (List.mem_of_getElem? hq)
theorem CSame_spec {w : World} {ns ns' : List GN} {rs rs' : List GR} {na na' ra ra' : Option Addr} {nc nc' rc rc' : Nat} (h : GIs w na nc ra rc ns rs) (h' : GIs w na' nc' ra' rc' ns' rs') (hf : FewH ns rs) (hf' : FewH ns' rs') :
    Yld Tryd.prog n_canon_Same #[gV na nc ra rc ns rs, gV na' nc' ra' rc' ns' rs'] w fun u w' => BoolR (canNs ns rs = canNs ns' rs' ∧ canRs ns rs = canRs ns' rs') w w' u := by
  refine canon_Same_of ?_
  unfold canon_Same
  have bx : ∀ (na : Option Addr) (nc : Nat) (ra : Option Addr) (rc : Nat) (ns : List GN) (rs : List GR) (y : World) (K : K1), xBox Tryd.prog 25 (gV na nc ra rc ns rs) y K = K (ptr y.heap.size) (y.alloc (.cells #[.slice na ns.length nc, .slice ra rs.length rc] 25)) := fun _ _ _ _ _ _ y K => xBox_r
  rw [bx, bx]
  have B1 : Blk (w.alloc (.cells #[.slice na ns.length nc, .slice ra rs.length rc] 25)) w.heap.size 25 [.slice na ns.length nc, .slice ra rs.length rc] := Blk.at rfl
  have X1 : Ext [] w (w.alloc (.cells #[.slice na ns.length nc, .slice ra rs.length rc] 25)) := Ext.alloc _ _ _
  generalize w.alloc (.cells #[.slice na ns.length nc, .slice ra rs.length rc] 25) = y1 at *
  generalize w.heap.size = g1 at *
  have B2 : Blk (y1.alloc (.cells #[.slice na' ns'.length nc', .slice ra' rs'.length rc'] 25)) y1.heap.size 25 [.slice na' ns'.length nc', .slice ra' rs'.length rc'] := Blk.at rfl
  have X2 : Ext [] y1 (y1.alloc (.cells #[.slice na' ns'.length nc', .slice ra' rs'.length rc'] 25)) := Ext.alloc _ _ _
  have X2d := X2.trans (Ext.drew [] _)
  have B12 := B1.ext X2d (by simp)
  have B2 := B2.ext (Ext.drew [] _) (by simp)
  generalize (y1.alloc (.cells #[.slice na' ns'.length nc', .slice ra' rs'.length rc'] 25)).drew = y2 at *
  generalize y1.heap.size = g2 at *
  have X12 := X1.trans X2d
  have k1 := fun i => B12.cell (i := i)
  have k2 := fun i => B2.cell (i := i)
  simp (disch := (first | omega | decide | (simp only [rsD] <;> omega) | fail)) only [↓rsC, rsK, rsL, ↓ld_25, tick_eq, tickV_eq, ne_eq, Int.reduceAdd, Int.reduceSub, Int.reduceMul, Int.reduceEq, Int.reduceLT, Int.reduceLE, Int.reduceToNat, Nat.reduceMul, Nat.reduceAdd, Nat.reduceSub, ←decide_not, k1, k2]
  refine canon_Canon_call (Yld.mono (Canon_spec (h.ext0 X12) hf) ?_)
  rintro u y3 ⟨F3, na3, nc3, ra3, rc3, ns3, h3, rfl, G3⟩
  have k3 := fun i => (B2.ext F3 (by simp)).cell (i := i)
  simp (disch := (first | omega | decide | (simp only [rsD] <;> omega) | fail)) only [↓rsC, rsK, rsL, ↓ld_25, tick_eq, tickV_eq, ne_eq, Int.reduceAdd, Int.reduceSub, Int.reduceMul, Int.reduceEq, Int.reduceLT, Int.reduceLE, Int.reduceToNat, Nat.reduceMul, Nat.reduceAdd, Nat.reduceSub, ←decide_not, k1, k2, k3]
  refine canon_Canon_call (Yld.mono (Canon_spec ((h'.ext0 X12).ext0 F3) hf') ?_)
  rintro u y4 ⟨F4, na4, nc4, ra4, rc4, ns4, h4, rfl, G4⟩
  refine graph_Equal_call (Yld.mono (GEqual_spec (G3.ext0 F4) G4 (can_few hf h3) (can_few hf' h4)) ?_)
  rintro u y5 ⟨⟨b, rfl, hb⟩, F5⟩
  simp (disch := (first | omega | decide | (simp only [rsD] <;> omega) | fail)) only [↓rsC, rsK, rsL, ↓ld_25, tick_eq, tickV_eq, ne_eq, Int.reduceAdd, Int.reduceSub, Int.reduceMul, Int.reduceEq, Int.reduceLT, Int.reduceLE, Int.reduceToNat, Nat.reduceMul, Nat.reduceAdd, Nat.reduceSub, ←decide_not, k1, k2, k3]
  refine ⟨⟨b, rfl, hb.trans ?_⟩, X12.trans (F3.trans (F4.trans F5))⟩
  rw [← h3, ← h4]
end Go.Proofs.YthhcmoknppljpaaDoor
end
section
set_option linter.unusedVariables false
set_option linter.unusedSimpArgs false
set_option maxHeartbeats 4000000
namespace Go.Proofs.YthhcmoknppljpaaDoor
open Go.Sh Go.RowKit

theorem GIs.away {y w' : World} {na ra : Option Addr} {nc rc g : Nat} {ns : List GN} {rs : List GR} {e : TypeId} {cells : List Value} (G : GIs y na nc ra rc ns rs) (B : Blk y g e cells) (hc : ∀ v ∈ cells, (∀ i, v ≠ i64 i) ∧ ∀ c : BitVec 8, v ≠ u8 c) (hn : ∀ z, na = some z → z.block ≠ g) (hr : ∀ z, ra = some z → z.block ≠ g) (F : Ext [g] y w') : GIs w' na nc ra rc ns rs := by
  refine ⟨G.nr.ext F fun b o hb hm => ?_, G.nl, G.nn, G.rr.ext F fun b o hb hm => ?_, G.rl, G.rn, fun x hx => ?_⟩
  · simp only [List.mem_singleton] at hm
    exact hn _ hb hm
  · simp only [List.mem_singleton] at hm
    exact hr _ hb hm
  · have hk := G.ok x hx
    have h0 : Apt [] x := ⟨fun _ _ _ h => (by cases h), fun _ _ _ h => (by cases h)⟩
    exact hk.ext F (h0.cons hk B hc)
end Go.Proofs.YthhcmoknppljpaaDoor
end
section
set_option linter.unusedVariables false
set_option linter.unusedSimpArgs false
set_option maxHeartbeats 4000000
namespace Go.Proofs.YthhcmoknppljpaaDoor
open Go.Sh Go.RowKit

abbrev rsTx1_0 := (And.intro @xu8_add (And.intro @xu8_and (And.intro @xu8_shr (And.intro @xu8_eql (And.intro @xu8_lss (And.intro @xu16_add (And.intro @xu16_and (And.intro @xu16_shr (And.intro @xu16_eql (And.intro @xu16_lss (And.intro @xu32_add (And.intro @xu32_and (And.intro @xu32_shr (And.intro @xu32_eql (And.intro @xu32_lss (And.intro @xu64_add 
  (And.intro @xu64_and (And.intro @xu64_shr (And.intro @xu64_eql (And.intro @xu64_lss (And.intro @xi64_lss (And.intro @xi64_eql (And.intro @xi64_and (And.intro @xi64_shr (And.intro @ld_3 (And.intro @ld_5 (And.intro @ld_9 (And.intro @ld_22 (And.intro @ld_23 (And.intro @ld_25 (And.intro @ld_40 (And.intro @ld_45 (And.intro @ld_52 (And.intro @ld_55 (And.intro @fa_25_0 
  (And.intro @fa_25_1 (And.intro @fa_52_0 (And.intro @fa_52_1 (And.intro @fa_55_0 (And.intro @fa_55_1 (And.intro @al_52 (And.intro @al_55 (And.intro @al_65 (And.intro @st_25 (And.intro @st_52 (And.intro @st_55 (And.intro @ia_22 (And.intro @ia_23 (And.intro @ia_40 (And.intro @ia_45 (And.intro @ln_22 (And.intro @ln_23 (And.intro @ln_40 @ln_45)))))))))))))))))))))))))))))))))))))))))))))))))))))
theorem CText_spec {w : World} {na ra : Option Addr} {nc rc : Nat} {ns : List GN} {rs : List GR} (h : GIs w na nc ra rc ns rs) (hf : FewH ns rs) (ht : TxS (canNs ns rs) (canRs ns rs)) :
    Yld Tryd.prog n_canon_Text #[gV na nc ra rc ns rs] w fun u w' => u = .string (strOf (txtB (canNs ns rs) (canRs ns rs))) ∧ Ext [] w w' := by
  refine canon_Text_of ?_
  unfold canon_Text
  have gbox : ∀ (y : World) (K : K1), xBox Tryd.prog 25 (gV na nc ra rc ns rs) y K = K (ptr y.heap.size) (y.alloc (.cells #[.slice na ns.length nc, .slice ra rs.length rc] 25)) := fun y K => xBox_r
  rw [gbox]
  have B1 : Blk (w.alloc (.cells #[.slice na ns.length nc, .slice ra rs.length rc] 25)) w.heap.size 25 [.slice na ns.length nc, .slice ra rs.length rc] := Blk.at rfl
  have X1 : Ext [] w (w.alloc (.cells #[.slice na ns.length nc, .slice ra rs.length rc] 25)) := Ext.alloc _ _ _
  have G := h.ext0 X1
  generalize w.alloc (.cells #[.slice na ns.length nc, .slice ra rs.length rc] 25) = y1 at *
  obtain ⟨g1, hg1⟩ : ∃ g, g = w.heap.size := ⟨_, rfl⟩
  rw [← hg1] at B1 ⊢
  have g1lt := B1.lt
  have k1 := fun i => B1.cell (i := i)
  simp (disch := (first | omega | decide | (simp only [rsD] <;> omega) | fail)) only [↓rsC, rsK, rsL, ↓rsTx1_0, tick_eq, tickV_eq, ne_eq, Int.reduceAdd, Int.reduceSub, Int.reduceMul, Int.reduceEq, Int.reduceLT, Int.reduceLE, Int.reduceToNat, Nat.reduceMul, Nat.reduceAdd, Nat.reduceSub, ←decide_not, k1]
  refine canon_Canon_call (Yld.mono (CanonF_spec G hf) ?_)
  rintro u y2 ⟨F2, na', nc', ra', rc', ns', hns, rfl, G2, hn2, hr2⟩
  have htb := txt_bare ns' (canRs ns rs)
  rw [hns] at htb
  rw [htb]
  have ht' : TxS ns' (canRs ns rs) := by
    refine ⟨by have := ht.n; rw [← hns] at this; simpa using this, ht.r, ht.s, fun x hx => ?_⟩
    exact ht.x (bare x) (by rw [← hns]; exact List.mem_map.2 ⟨x, hx, rfl⟩)
  generalize canRs ns rs = rs' at *
  have B12 := B1.ext F2 (by simp)
  have k2 := fun i => B12.cell (i := i)
  have f2 := fun i => B12.frozen (i := i)
  have zg := B12.lt
  simp (disch := (first | omega | decide | (simp only [rsD] <;> omega) | fail)) only [↓rsC, rsK, rsL, ↓rsTx1_0, tick_eq, tickV_eq, ne_eq, Int.reduceAdd, Int.reduceSub, Int.reduceMul, Int.reduceEq, Int.reduceLT, Int.reduceLE, Int.reduceToNat, Nat.reduceMul, Nat.reduceAdd, Nat.reduceSub, ←decide_not, k1, k2, f2]
  simp only [size_sets]
  have FE : Ext [g1] y2 ((y2.setCell ⟨g1, 0, none⟩ (.slice na' ns'.length nc')).setCell ⟨g1, 1, none⟩ (.slice ra' rs'.length rc')) := ((Ext.refl _ _).set' (.inl (by simp))).set' (.inl (by simp))
  have zw1 : w.heap.size ≤ g1 := by omega
  have Fw : Ext [] w ((y2.setCell ⟨g1, 0, none⟩ (.slice na' ns'.length nc')).setCell ⟨g1, 1, none⟩ (.slice ra' rs'.length rc')) := ((X1.trans F2).set' (.inr zw1)).set' (.inr zw1)
  have G3 := G2.away B12 (by simp) (fun z hz => by have := hn2 z hz; omega) (fun z hz => by have := hr2 z hz; omega) FE
  have B13 : Blk ((y2.setCell ⟨g1, 0, none⟩ (.slice na' ns'.length nc')).setCell ⟨g1, 1, none⟩ (.slice ra' rs'.length rc')) g1 25 [.slice na' ns'.length nc', .slice ra' rs'.length rc'] := (B12.set (i := 0)).set (i := 1)
  have zs3 : ((y2.setCell ⟨g1, 0, none⟩ (.slice na' ns'.length nc')).setCell ⟨g1, 1, none⟩ (.slice ra' rs'.length rc')).heap.size = y2.heap.size := by simp only [World.size_setCell]
  generalize (y2.setCell ⟨g1, 0, none⟩ (.slice na' ns'.length nc')).setCell ⟨g1, 1, none⟩ (.slice ra' rs'.length rc') = y3 at *
  rw [← zs3]
  have D0 := Bd.new y3
  generalize y3.alloc (.cells #[.pointer none, .slice none 0 0] 65) = y4 at *
  generalize y3.heap.size = bb at *
  have hrl := ht'.r
  have hnl := ht'.n
  refine xLoop_n rs'.length (fun j => [i64 (j : Int)]) (fun j w' => Bd y3 w' bb (rootsB (rs'.take j))) rfl D0 ?_ ?_
  · rintro j hj u x1 hu D nxt hnx
    simp only [List.map_cons, List.map_nil, List.cons.injEq, and_true] at hu
    rw [hu]
    obtain ⟨br, or', era, zbr, c1, c2⟩ := gr_at (G3.rr.ext0 D.2.1) hj
    have hsu := rootsB_succ hj
    have hs := ht'.s _ (List.getElem_mem hj)
    have hpre := rootsB_len ht' j
    have hrb := rootB_len hs
    generalize rs'[j] = r at *
    have hrB : rootB r = r.s ++ [32#8, 45#8, 62#8, 32#8] ++ dB r.to.toNat ++ [10#8] := rfl
    obtain ⟨q, hq⟩ : ∃ q : Nat, q = r.to.toNat := ⟨_, rfl⟩
    have hq2 : r.to = (q : Int) := by omega
    rw [← hq] at hrB
    rw [hq2] at c2
    have hdq := dB_two (n := q) (by omega)
    have Br : Blk (x1.alloc (.cells #[.string (strOf r.s), i64 (q : Int)] 55)).drew x1.heap.size 55 [.string (strOf r.s), i64 (q : Int)] := (Blk.at rfl : Blk (x1.alloc (.cells #[.string (strOf r.s), i64 (q : Int)] 55)) x1.heap.size 55 [.string (strOf r.s), i64 (q : Int)]).ext (Ext.drew [] _) (by simp)
    have Dd := D.ext ((Ext.alloc [] x1 (.cells #[.string (strOf r.s), i64 (q : Int)] 55)).trans (Ext.drew [] _))
    have cA : ({ data := #[32, 45, 62, 32] } : ByteArray) = strOf [32#8, 45#8, 62#8, 32#8] := by decide +kernel
    have cB : ({ data := #[10] } : ByteArray) = strOf [10#8] := by decide +kernel
    have a1 := fun (w : World) (K : K1) => addB (cx := false) (cy := true) r.s [32#8, 45#8, 62#8, 32#8] (by simp; omega) w K
    have a2 := fun (w : World) (K : K1) => addB (cx := false) (cy := false) (r.s ++ [32#8, 45#8, 62#8, 32#8]) (dB q) (by simp; omega) w K
    have a3 := fun (w : World) (K : K1) => addB (cx := false) (cy := true) (r.s ++ [32#8, 45#8, 62#8, 32#8] ++ dB q) [10#8] (by simp; omega) w K
    unfold canon_Text_l1
    rw [era]
    simp (disch := (first | omega | decide | (simp only [rsD] <;> omega) | fail)) only [↓rsC, rsK, rsL, ↓rsTx1_0, tick_eq, tickV_eq, ne_eq, Int.reduceAdd, Int.reduceSub, Int.reduceMul, Int.reduceEq, Int.reduceLT, Int.reduceLE, Int.reduceToNat, Nat.reduceMul, Nat.reduceAdd, Nat.reduceSub, ←decide_not, k1, k2, f2, c1, c2, cA, cB, a1]
    generalize (x1.alloc (.cells #[.string (strOf r.s), i64 (q : Int)] 55)).drew = x2 at *
    generalize x1.heap.size = ht at *
    refine itoa_call (Gives.to (itoa_s q (by omega) x2) fun x3 F3 => ?_)
    have kr := fun i => (Br.ext F3 (by simp)).cell (i := i)
    simp (disch := (first | omega | decide | (simp only [rsD] <;> omega) | fail)) only [↓rsC, rsK, rsL, ↓rsTx1_0, tick_eq, tickV_eq, ne_eq, Int.reduceAdd, Int.reduceSub, Int.reduceMul, Int.reduceEq, Int.reduceLT, Int.reduceLE, Int.reduceToNat, Nat.reduceMul, Nat.reduceAdd, Nat.reduceSub, ←decide_not, k1, k2, f2, c1, c2, cA, cB, a1, kr, a2, a3]
    refine strings_Builder_WriteString_call (Yld.mono (bd_str (s := r.s ++ [32#8, 45#8, 62#8, 32#8] ++ dB q ++ [10#8]) (Dd.ext F3) (by rw [← hrB]; omega)) ?_)
    rintro u x4 ⟨D4, _⟩
    rw [← hrB, ← hsu] at D4
    simp (disch := (first | omega | decide | (simp only [rsD] <;> omega) | fail)) only [↓rsC, rsK, rsL, ↓rsTx1_0, tick_eq, tickV_eq, ne_eq, Int.reduceAdd, Int.reduceSub, Int.reduceMul, Int.reduceEq, Int.reduceLT, Int.reduceLE, Int.reduceToNat, Nat.reduceMul, Nat.reduceAdd, Nat.reduceSub, ←decide_not, k1, k2, f2, c1, c2, cA, cB, a1, kr, a2, a3]
    exact hnx _ D4
  rintro u x1 hu D nxt
  simp only [List.map_cons, List.map_nil, List.cons.injEq, and_true] at hu
  rw [hu]
  have hpre0 := rootsB_len ht' rs'.length
  rw [List.take_length] at D hpre0
  have k13 := fun i => (B13.ext D.2.1 (by simp)).cell (i := i)
  unfold canon_Text_l1
  simp (disch := (first | omega | decide | (simp only [rsD] <;> omega) | fail)) only [↓rsC, rsK, rsL, ↓rsTx1_0, tick_eq, tickV_eq, ne_eq, Int.reduceAdd, Int.reduceSub, Int.reduceMul, Int.reduceEq, Int.reduceLT, Int.reduceLE, Int.reduceToNat, Nat.reduceMul, Nat.reduceAdd, Nat.reduceSub, ←decide_not, k1, k2, f2, k13]
  refine xLoop_n ns'.length (fun j => [i64 (j : Int)]) (fun j w' => Bd y3 w' bb (rootsB rs' ++ nodesB ns' j)) rfl (by simpa [nodesB] using D) ?_ ?_
  · rintro j hj u x2 hu D2 nxt2 hnx
    simp only [List.map_cons, List.map_nil, List.cons.injEq, and_true] at hu
    rw [hu]
    obtain ⟨bn, on, ena, zbn, c1, c2⟩ := gn_at (G3.nr.ext0 D2.2.1) hj
    have hsu := nodesB_succ hj
    have hxs := ht'.x _ (List.getElem_mem hj)
    have hxk := G3.ok _ (List.getElem_mem hj)
    have hpn := nodesB_len ht' j (by omega)
    have hpn2 : (nodesB ns' j).length ≤ 175000 := by
      have : j * 2500 ≤ 70 * 2500 := Nat.mul_le_mul_right _ (by omega)
      omega
    generalize ns'[j] = x at *
    have hnB : nodeB j x = dB (j + 1) ++ [58#8] ++ ptrsB x.p ++ dataB x.d ++ [10#8] := rfl
    have hdj := dB_two (n := j + 1) (by omega)
    have hp3 := fun k => flat_le (f := ptrB) (B := 3) (x.p.take k) fun p hp => ptrB_len (hxs.1 p (List.mem_of_mem_take hp))
    have hp4 : ∀ k, (ptrsB (x.p.take k)).length ≤ 210 := fun k => by
      have h1 := hp3 k
      rw [List.length_take] at h1
      unfold ptrsB
      have : min k x.p.length * 3 ≤ 70 * 3 := Nat.mul_le_mul_right _ (by omega)
      omega
    have Bn : Blk (x2.alloc (.cells #[.slice x.pa x.p.length x.pc, .slice x.da x.d.length x.dc] 52)) x2.heap.size 52 [.slice x.pa x.p.length x.pc, .slice x.da x.d.length x.dc] := Blk.at rfl
    have D3 := D2.ext (Ext.alloc [] x2 (.cells #[.slice x.pa x.p.length x.pc, .slice x.da x.d.length x.dc] 52))
    have hne : x2.heap.size ≠ bb := by have := D2.2.2.2; omega
    have cC : ({ data := #[58] } : ByteArray) = strOf [58#8] := by decide +kernel
    have cS : ({ data := #[32] } : ByteArray) = strOf [32#8] := by decide +kernel
    have cX : ({ data := #[32, 120] } : ByteArray) = strOf [32#8, 120#8] := by decide +kernel
    have a1 := fun (w : World) (K : K1) => addB (cx := false) (cy := true) (dB (j + 1)) [58#8] (by simp; omega) w K
    unfold canon_Text_l2
    rw [ena]
    simp (disch := (first | omega | decide | (simp only [rsD] <;> omega) | fail)) only [↓rsC, rsK, rsL, ↓rsTx1_0, tick_eq, tickV_eq, ne_eq, Int.reduceAdd, Int.reduceSub, Int.reduceMul, Int.reduceEq, Int.reduceLT, Int.reduceLE, Int.reduceToNat, Nat.reduceMul, Nat.reduceAdd, Nat.reduceSub, ←decide_not, k1, k2, f2, k13, c1, c2]
    generalize x2.alloc (.cells #[.slice x.pa x.p.length x.pc, .slice x.da x.d.length x.dc] 52) = x3 at *
    generalize x2.heap.size = ht at *
    have ej : (j : Int) + 1 = ((j + 1 : Nat) : Int) := by omega
    rw [ej]
    refine itoa_call (Gives.to (itoa_s (j + 1) (by omega) x3) fun x4 F4 => ?_)
    simp (disch := (first | omega | decide | (simp only [rsD] <;> omega) | fail)) only [↓rsC, rsK, rsL, ↓rsTx1_0, tick_eq, tickV_eq, ne_eq, Int.reduceAdd, Int.reduceSub, Int.reduceMul, Int.reduceEq, Int.reduceLT, Int.reduceLE, Int.reduceToNat, Nat.reduceMul, Nat.reduceAdd, Nat.reduceSub, ←decide_not, k1, k2, f2, k13, c1, c2, cC, a1]
    refine strings_Builder_WriteString_call (Yld.mono (bd_str (s := dB (j + 1) ++ [58#8]) (D3.ext F4) (by simp; omega)) ?_)
    rintro u x5 ⟨D5, O5⟩
    have Bn5 := others_blk O5 (Bn.ext F4 (by simp)) hne (by decide)
    have kn5 := fun i => Bn5.cell (i := i)
    simp (disch := (first | omega | decide | (simp only [rsD] <;> omega) | fail)) only [↓rsC, rsK, rsL, ↓rsTx1_0, tick_eq, tickV_eq, ne_eq, Int.reduceAdd, Int.reduceSub, Int.reduceMul, Int.reduceEq, Int.reduceLT, Int.reduceLE, Int.reduceToNat, Nat.reduceMul, Nat.reduceAdd, Nat.reduceSub, ←decide_not, k1, k2, f2, k13, c1, c2, cC, a1, kn5]
    refine xLoop_n x.p.length (fun k => [i64 (k : Int)]) (fun k w' => Bd y3 w' bb (rootsB rs' ++ nodesB ns' j ++ (dB (j + 1) ++ [58#8]) ++ ptrsB (x.p.take k)) ∧ Blk w' ht 52 [.slice x.pa x.p.length x.pc, .slice x.da x.d.length x.dc]) rfl ⟨by simpa [ptrsB] using D5, Bn5⟩ ?_ ?_
    · rintro k hk u x6 hu ⟨D6, Bn6⟩ nxt4 hnx4
      simp only [List.map_cons, List.map_nil, List.cons.injEq, and_true] at hu
      rw [hu]
      obtain ⟨bp, op, ep, _, cp⟩ := its_at (hxk.ext0 D6.2.1).pr hk
      have hsu2 := ptrsB_succ hk
      have hpk := hxs.1 _ (List.getElem_mem hk)
      have hp5 := hp4 k
      generalize x.p[k] = pk at *
      obtain ⟨q, rfl⟩ : ∃ q : Nat, pk = (q : Int) := ⟨pk.toNat, by omega⟩
      have hpB : ptrB (q : Int) = [32#8] ++ dB q := by unfold ptrB; simp
      have hdq := dB_two (n := q) (by omega)
      have a2 := fun (w : World) (K : K1) => addB (cx := true) (cy := false) [32#8] (dB q) (by simp; omega) w K
      unfold canon_Text_l3
      rw [ep]
      simp (disch := (first | omega | decide | (simp only [rsD] <;> omega) | fail)) only [↓rsC, rsK, rsL, ↓rsTx1_0, tick_eq, tickV_eq, ne_eq, Int.reduceAdd, Int.reduceSub, Int.reduceMul, Int.reduceEq, Int.reduceLT, Int.reduceLE, Int.reduceToNat, Nat.reduceMul, Nat.reduceAdd, Nat.reduceSub, ←decide_not, k1, k2, f2, k13, c1, c2, cC, a1, kn5, cp]
      refine itoa_call (Gives.to (itoa_s q (by omega) x6) fun x7 F7 => ?_)
      simp (disch := (first | omega | decide | (simp only [rsD] <;> omega) | fail)) only [↓rsC, rsK, rsL, ↓rsTx1_0, tick_eq, tickV_eq, ne_eq, Int.reduceAdd, Int.reduceSub, Int.reduceMul, Int.reduceEq, Int.reduceLT, Int.reduceLE, Int.reduceToNat, Nat.reduceMul, Nat.reduceAdd, Nat.reduceSub, ←decide_not, k1, k2, f2, k13, c1, c2, cC, a1, kn5, cp, cS, a2]
      refine strings_Builder_WriteString_call (Yld.mono (bd_str (s := [32#8] ++ dB q) (D6.ext F7) (by simp; omega)) ?_)
      rintro u x8 ⟨D8, O8⟩
      have Bn8 := others_blk O8 (Bn6.ext F7 (by simp)) hne (by decide)
      rw [← hpB, List.append_assoc _ (ptrsB _), ← hsu2] at D8
      simp (disch := (first | omega | decide | (simp only [rsD] <;> omega) | fail)) only [↓rsC, rsK, rsL, ↓rsTx1_0, tick_eq, tickV_eq, ne_eq, Int.reduceAdd, Int.reduceSub, Int.reduceMul, Int.reduceEq, Int.reduceLT, Int.reduceLE, Int.reduceToNat, Nat.reduceMul, Nat.reduceAdd, Nat.reduceSub, ←decide_not, k1, k2, f2, k13, c1, c2, cC, a1, kn5, cp, cS, a2]
      exact hnx4 _ ⟨D8, Bn8⟩
    rintro u x6 hu ⟨D6, Bn6⟩ nxt4
    simp only [List.map_cons, List.map_nil, List.cons.injEq, and_true] at hu
    rw [hu]
    have hp5 := hp4 x.p.length
    rw [List.take_length] at D6 hp5
    obtain ⟨pre, hpre⟩ : ∃ pre, pre = rootsB rs' ++ nodesB ns' j ++ (dB (j + 1) ++ [58#8]) ++ ptrsB x.p := ⟨_, rfl⟩
    have hprel : pre.length ≤ 180000 := by rw [hpre]; simp; omega
    have hfin : rootsB rs' ++ nodesB ns' (j + 1) = pre ++ dataB x.d ++ [10#8] := by rw [hsu, hnB, hpre]; simp
    rw [← hpre] at D6
    have kn6 := fun i => Bn6.cell (i := i)
    unfold canon_Text_l3
    simp (disch := (first | omega | decide | (simp only [rsD] <;> omega) | fail)) only [↓rsC, rsK, rsL, ↓rsTx1_0, tick_eq, tickV_eq, ne_eq, Int.reduceAdd, Int.reduceSub, Int.reduceMul, Int.reduceEq, Int.reduceLT, Int.reduceLE, Int.reduceToNat, Nat.reduceMul, Nat.reduceAdd, Nat.reduceSub, ←decide_not, k1, k2, f2, k13, c1, c2, cC, a1, kn5, kn6]
    have hd0 : ∀ k, 0 < k → k ≤ x.d.length → dataB (x.d.take k) = [32#8, 120#8] ++ hexB (x.d.take k) := fun k hk hkl => by
      unfold dataB
      rw [if_neg]
      intro h
      have := congrArg List.length h
      rw [List.length_take, List.length_nil] at this
      omega
    refine xLoop_n x.d.length (fun k => [i64 (k : Int)]) (fun k w' => Bd y3 w' bb (pre ++ dataB (x.d.take k))) rfl (by simpa [dataB] using D6) ?_ ?_
    · rintro k hk u x7 hu D7 nxt5 hnx5
      simp only [List.map_cons, List.map_nil, List.cons.injEq, and_true] at hu
      rw [hu]
      obtain ⟨bd, od, ed, _, cd⟩ := (hxk.ext0 D7.2.1).dr.at (i := k) (by simpa using hk)
      rw [List.getElem_map] at cd
      have hhs := hexB_succ hk
      have hlk := hexB_len (x.d.take k)
      rw [List.length_take] at hlk
      have hdl := hxs.2.2
      generalize x.d[k] = c at *
      have dh := digit_at (c >>> (BitVec.ofNat 64 4).toNat) (hi_lt c)
      have dl := digit_at (c &&& BitVec.ofNat 8 15) (lo_lt c)
      have join : ∀ {x8 : World} {m : List (BitVec 8)}, Bd y3 x8 bb m → m = pre ++ ([32#8, 120#8] ++ hexB (x.d.take k)) → canon_Text_j1 (fun u w' => u = .string (strOf (txtB ns' rs')) ∧ Ext [] w w') nxt5 (ptr bb) (u8 c) (i64 (k : Int)) x8 := by
        rintro x8 m D8 rfl
        unfold canon_Text_j1
        simp (disch := (first | omega | decide | (simp only [rsD] <;> omega) | fail)) only [↓rsC, rsK, rsL, ↓rsTx1_0, tick_eq, tickV_eq, ne_eq, Int.reduceAdd, Int.reduceSub, Int.reduceMul, Int.reduceEq, Int.reduceLT, Int.reduceLE, Int.reduceToNat, Nat.reduceMul, Nat.reduceAdd, Nat.reduceSub, ←decide_not, k1, k2, f2, k13, c1, c2, cC, a1, kn5, kn6, dh]
        refine strings_Builder_WriteByte_call (Yld.mono (bd_byte D8 (by simp; omega)) ?_)
        rintro u x9 ⟨D9, _⟩
        simp (disch := (first | omega | decide | (simp only [rsD] <;> omega) | fail)) only [↓rsC, rsK, rsL, ↓rsTx1_0, tick_eq, tickV_eq, ne_eq, Int.reduceAdd, Int.reduceSub, Int.reduceMul, Int.reduceEq, Int.reduceLT, Int.reduceLE, Int.reduceToNat, Nat.reduceMul, Nat.reduceAdd, Nat.reduceSub, ←decide_not, k1, k2, f2, k13, c1, c2, cC, a1, kn5, kn6, dh, dl]
        refine strings_Builder_WriteByte_call (Yld.mono (bd_byte D9 (by simp; omega)) ?_)
        rintro u x10 ⟨D10, _⟩
        simp (disch := (first | omega | decide | (simp only [rsD] <;> omega) | fail)) only [↓rsC, rsK, rsL, ↓rsTx1_0, tick_eq, tickV_eq, ne_eq, Int.reduceAdd, Int.reduceSub, Int.reduceMul, Int.reduceEq, Int.reduceLT, Int.reduceLE, Int.reduceToNat, Nat.reduceMul, Nat.reduceAdd, Nat.reduceSub, ←decide_not, k1, k2, f2, k13, c1, c2, cC, a1, kn5, kn6, dh, dl]
        refine hnx5 _ ?_
        rw [hd0 (k + 1) (by omega) (by omega), hhs]
        simpa [hex2] using D10
      unfold canon_Text_l4
      rw [ed]
      by_cases h0 : k = 0
      · have h00 : (k : Int) = 0 := by omega
        simp (disch := (first | omega | decide | (simp only [rsD] <;> omega) | fail)) only [↓rsC, rsK, rsL, ↓rsTx1_0, tick_eq, tickV_eq, ne_eq, Int.reduceAdd, Int.reduceSub, Int.reduceMul, Int.reduceEq, Int.reduceLT, Int.reduceLE, Int.reduceToNat, Nat.reduceMul, Nat.reduceAdd, Nat.reduceSub, ←decide_not, k1, k2, f2, k13, c1, c2, cC, a1, kn5, kn6, cd, cX]
        have e0 : x.d.take k = [] := by rw [h0]; rfl
        have ed0 : dataB (x.d.take k) = [] := by rw [e0]; rfl
        have eh0 : hexB (x.d.take k) = [] := by rw [e0]; rfl
        rw [ed0, List.append_nil] at D7
        rw [eh0] at join
        refine strings_Builder_WriteString_call (Yld.mono (bd_str (s := [32#8, 120#8]) D7 (by simp; omega)) ?_)
        rintro u x8 ⟨D8, _⟩
        exact join D8 (by simp)
      · have h00 : ¬ (k : Int) = 0 := by omega
        simp (disch := (first | omega | decide | (simp only [rsD] <;> omega) | fail)) only [↓rsC, rsK, rsL, ↓rsTx1_0, tick_eq, tickV_eq, ne_eq, Int.reduceAdd, Int.reduceSub, Int.reduceMul, Int.reduceEq, Int.reduceLT, Int.reduceLE, Int.reduceToNat, Nat.reduceMul, Nat.reduceAdd, Nat.reduceSub, ←decide_not, k1, k2, f2, k13, c1, c2, cC, a1, kn5, kn6, cd]
        rw [hd0 k (by omega) (by omega)] at D7
        exact join D7 rfl
    rintro u x7 hu D7 nxt5
    simp only [List.map_cons, List.map_nil, List.cons.injEq, and_true] at hu
    rw [hu]
    rw [List.take_length] at D7
    have hdb := dataB_len x.d
    have hdl := hxs.2.2
    unfold canon_Text_l4
    simp (disch := (first | omega | decide | (simp only [rsD] <;> omega) | fail)) only [↓rsC, rsK, rsL, ↓rsTx1_0, tick_eq, tickV_eq, ne_eq, Int.reduceAdd, Int.reduceSub, Int.reduceMul, Int.reduceEq, Int.reduceLT, Int.reduceLE, Int.reduceToNat, Nat.reduceMul, Nat.reduceAdd, Nat.reduceSub, ←decide_not, k1, k2, f2, k13, c1, c2, cC, a1, kn5, kn6]
    refine strings_Builder_WriteByte_call (Yld.mono (bd_byte (x := 10#8) D7 (by simp; omega)) ?_)
    rintro u x8 ⟨D8, _⟩
    rw [← hfin] at D8
    simp (disch := (first | omega | decide | (simp only [rsD] <;> omega) | fail)) only [↓rsC, rsK, rsL, ↓rsTx1_0, tick_eq, tickV_eq, ne_eq, Int.reduceAdd, Int.reduceSub, Int.reduceMul, Int.reduceEq, Int.reduceLT, Int.reduceLE, Int.reduceToNat, Nat.reduceMul, Nat.reduceAdd, Nat.reduceSub, ←decide_not, k1, k2, f2, k13, c1, c2, cC, a1, kn5, kn6]
    exact hnx _ D8
  rintro u x2 hu D2 nxt2
  simp only [List.map_cons, List.map_nil, List.cons.injEq, and_true] at hu
  rw [hu]
  unfold canon_Text_l2
  simp (disch := (first | omega | decide | (simp only [rsD] <;> omega) | fail)) only [↓rsC, rsK, rsL, ↓rsTx1_0, tick_eq, tickV_eq, ne_eq, Int.reduceAdd, Int.reduceSub, Int.reduceMul, Int.reduceEq, Int.reduceLT, Int.reduceLE, Int.reduceToNat, Nat.reduceMul, Nat.reduceAdd, Nat.reduceSub, ←decide_not, k1, k2, f2, k13]
  refine bstr_call (Yld.mono (bd_end D2) ?_)
  rintro u x3 ⟨rfl, F3⟩
  exact ⟨rfl, Fw.trans F3⟩
end Go.Proofs.YthhcmoknppljpaaDoor
end
