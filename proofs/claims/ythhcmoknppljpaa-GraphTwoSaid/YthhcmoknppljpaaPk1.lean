/- Rows of bytes of one's own (sq). Fields of words, in plain Lean: what is taken and put, as numbers. Headers of objects, in plain Lean: which may be, their words, and back. Signs, fields, turns, in plain Lean. Numbers in bytes, in plain Lean. What the functions on bits compute. What the functions on headers compute. What a word is as a header, walked. The small example of the statements on bits; and the statements on numbers alone, walked. What the reference's functions on bytes compute. Words and their bytes, in plain Lean. What the functions on words compute. Rows of words of one's own (sq). Objects one behind the other: what places are (sq). Graphs that come in (sq). Which nodes come from others. A graph as the document's (sq). What the functions on spaces compute (sq). Walking over a space, emptying it, its twin (sq). The document's spaces, walked (sq). What the document says of a graph: whether it may be, how many words it takes (sq). Words moved; the small example of the statements on words. Words moved, whichever way they lie on each other: the walk. Any calls on words, walked (sq). Names: a text as 32 bytes, and back (sq). Whether a graph may be: by the program and by the document, and why not (sq). A graph's words, counted; bytes as words; places (sq). Whether a graph may be, by the document: exactly; how many words it takes, by the program (sq). A graph in words, by the document (sq). What the functions on objects compute, where all is well (sq). What it is for objects to be well (sq). What is wrong in words that should be objects (sq). Looking at words that should be objects: what the program finds (sq). Looking at words that should be objects: all of them (sq). Looking at words that should be objects: each object, and a space (sq). Looking at spaces and images: what the program finds (sq). Looking at images without names (sq). The document's word on whether objects are well (sq). The document's findings in words that should be objects (sq). A Root's name in an image, read by the program and by the document (sq). What the statements on spaces call (sq). A space out of words, or none (sq). The statement on looking at spaces, walked (sq). Looking at any image: what the program finds (sq). A word is its eight bytes; two objects that are written (sq). What a graph's words are, word by word; in them nothing is wrong. A graph in words, by the program: a name, a node (sq). A graph's words, as the program fills them in. A graph in words, by the program (sq). Looking for a number in a rising row; are two rows of words the same; an image's reader (sq). An image's reader reads a node (sq). What an image's words are read as, and what its graph's words are. The order in which nodes come from names, and a graph numbered so. A graph without the nodes that nothing leads to. Words with nothing wrong are those of the graph that they are read as. An image decoded (sq). Which nodes come from others, by the program (sq). What names lead to; a node apart (sq). A node apart (sq). A graph trimmed, by the program (sq). A graph trimmed, by the program: the walk (sq). A graph's twin, by the program (sq). The nodes that come in an order are those that are reached; a graph trimmed is a graph picked. Two graphs are equal, by the program (sq). -/
import Derived.Test.YthhcmoknppljpaaRules
import Derived.Test.YthhcmoknppljpaaEng14
import Derived.Test.YthhcmoknppljpaaEng11
import Derived.Test.YthhcmoknppljpaaEng16
import Derived.Test.YthhcmoknppljpaaEng17
import Derived.Lib.Strings
import Derived.Lib.Bytealg
import Derived.Test.YthhcmoknppljpaaEng15
import Derived.Test.YthhcmoknppljpaaEng18
section
set_option linter.unusedVariables false
set_option linter.unusedSimpArgs false
set_option maxHeartbeats 4000000
namespace Go.Proofs.Ythhcmoknppljpaa
open Go.Sh Go.RowKit

abbrev NewB (w w' : World) (u : Value) (l : List (BitVec 8)) : Prop := NewR 5 1 w w' u l.length (bys l)
theorem NewR.toB {w w' : World} {u : Value} {l : List (BitVec 8)} (h : NewB w w' u l) : ∃ a c, u = .slice a l.length c ∧ l.length ≤ c ∧ (a = none → c = 0) ∧ RowAt w' a (bys l) ∧ ∀ x, a = some x → w.heap.size ≤ x.block ∧ x.block < w'.heap.size := by
  obtain ⟨h1, h2, h3⟩ := h
  have hlt := h2.lt
  obtain ⟨a, c, rfl, hc, _, hn, hr, _⟩ := h2.slice
  refine ⟨a, c, rfl, hc, hn, hr, fun x hx => ?_⟩
  subst hx
  exact ⟨h3 x.block (by simp [blk, Value.ownBlock]), hlt x.block (by simp [blk, Value.ownBlock])⟩
end Go.Proofs.Ythhcmoknppljpaa
end
section
set_option linter.unusedVariables false
set_option linter.unusedSimpArgs false
set_option maxHeartbeats 4000000
namespace Go.Proofs.Ythhcmoknppljpaa
open Go.Sh Go.RowKit

abbrev i64 (n : Int) : Value := .int .i64 n
def ones (n : Nat) : BitVec 64 := BitVec.allOnes 64 >>> (64 - n)
/-- n ones from a bit on -/
def maskB (a n : Int) : BitVec 64 := (BitVec.ofNat 64 18446744073709551615 >>> (64 - n).toNat) <<< a.toNat
def maskOk (a n : Int) : Prop := 0 ≤ a ∧ a < 64 ∧ 1 ≤ n ∧ n ≤ 64 - a
instance (a n : Int) : Decidable (maskOk a n) := by unfold maskOk; infer_instance
def fieldB (x : BitVec 64) (a n : Int) : BitVec 64 := if maskOk a n then (x &&& maskB a n) >>> a.toNat else 0
end Go.Proofs.Ythhcmoknppljpaa
end
section
set_option linter.unusedVariables false
set_option linter.unusedSimpArgs false
set_option maxHeartbeats 4000000
namespace Go.Proofs.Ythhcmoknppljpaa
open Go.Sh Go.RowKit

abbrev hd (p b : Int) (m : Bool) (t : Int) : Value := .agg #[i64 p, i64 b, .bool m, i64 t]
def rightP (p b : Int) (m : Bool) (t : Int) : Prop := (m = true ∧ p = 0 ∧ b = 0 ∧ 0 ≤ t ∧ t < 8192) ∨ (m = false ∧ t = 0 ∧ 0 ≤ p ∧ p ≤ 64 ∧ 0 ≤ b ∧ b ≤ 1024)
instance (p b : Int) (m : Bool) (t : Int) : Decidable (rightP p b m t) := by unfold rightP; infer_instance
def rightV (p b : Int) (m : Bool) (t : Int) : Bool := decide (rightP p b m t)
theorem right_t {p b t : Int} : rightP p b true t ↔ p = 0 ∧ b = 0 ∧ 0 ≤ t ∧ t < 8192 := by simp [rightP]
theorem right_f {p b t : Int} : rightP p b false t ↔ t = 0 ∧ 0 ≤ p ∧ p ≤ 64 ∧ 0 ≤ b ∧ b ≤ 1024 := by simp [rightP]
def packI (p b : Int) (m : Bool) (t : Int) : Int := if m then 9223372036854775809 + t * 4294967296 else 9223372036854775808 + p * 2 + b * 65536
def packW (p b : Int) (m : Bool) (t : Int) : BitVec 64 := if rightP p b m t then BitVec.ofInt 64 (packI p b m t) else BitVec.ofNat 64 0
theorem ofInt_nat {n : Int} (h0 : 0 ≤ n) (h1 : n < 18446744073709551616) : ((BitVec.ofInt 64 n).toNat : Int) = n := by
  rw [BitVec.toNat_ofInt]; omega
/-! a word as a header -/
def uM (x : BitVec 64) : Bool := decide (x.toNat % 2 = 1)
def uP (x : BitVec 64) : Int := if uM x then 0 else (x.toNat / 2 % 256 : Nat)
def uB (x : BitVec 64) : Int := if uM x then 0 else (x.toNat / 65536 % 4096 : Nat)
def uT (x : BitVec 64) : Int := if uM x then (x.toNat / 4294967296 % 65536 : Nat) else 0
def isHead (x : BitVec 64) : Prop := rightP (uP x) (uB x) (uM x) (uT x) ∧ packW (uP x) (uB x) (uM x) (uT x) = x
instance (x : BitVec 64) : Decidable (isHead x) := by unfold isHead; infer_instance
theorem packI_in {p b t : Int} {m : Bool} (h : rightP p b m t) : 0 ≤ packI p b m t ∧ packI p b m t < 18446744073709551616 := by
  unfold packI
  cases m
  · rw [right_f] at h; simp; omega
  · rw [right_t] at h; simp; omega
theorem packW_nat {p b t : Int} {m : Bool} (h : rightP p b m t) : ((packW p b m t).toNat : Int) = packI p b m t := by
  unfold packW
  rw [if_pos h, ofInt_nat (packI_in h).1 (packI_in h).2]
theorem un_pack {p b t : Int} {m : Bool} (h : rightP p b m t) : uP (packW p b m t) = p ∧ uB (packW p b m t) = b ∧ uM (packW p b m t) = m ∧ uT (packW p b m t) = t := by
  have hn := packW_nat h
  unfold packI at hn
  cases m
  · rw [right_f] at h
    simp only [Bool.false_eq_true, if_false] at hn
    have hm : uM (packW p b false t) = false := by unfold uM; rw [decide_eq_false]; omega
    refine ⟨?_, ?_, hm, ?_⟩
    · unfold uP; rw [hm]; simp; omega
    · unfold uB; rw [hm]; simp; omega
    · unfold uT; rw [hm]; simp; omega
  · rw [right_t] at h
    simp only [if_true] at hn
    have hm : uM (packW p b true t) = true := by unfold uM; rw [decide_eq_true]; omega
    refine ⟨?_, ?_, hm, ?_⟩
    · unfold uP; rw [hm]; simp; omega
    · unfold uB; rw [hm]; simp; omega
    · unfold uT; rw [hm]; simp; omega
theorem un_pack_is {p b t : Int} {m : Bool} (h : rightP p b m t) : isHead (packW p b m t) := by
  obtain ⟨h1, h2, h3, h4⟩ := un_pack h
  unfold isHead
  rw [h1, h2, h3, h4]
  exact ⟨h, rfl⟩
end Go.Proofs.Ythhcmoknppljpaa
end
section
set_option linter.unusedVariables false
set_option linter.unusedSimpArgs false
set_option maxHeartbeats 4000000
namespace Go.Proofs.Ythhcmoknppljpaa
open Go.Sh Go.RowKit

/-! signs -/
/-! fields by their bits -/
/-! turns -/
end Go.Proofs.Ythhcmoknppljpaa
end
section
set_option linter.unusedVariables false
set_option linter.unusedSimpArgs false
set_option maxHeartbeats 4000000
namespace Go.Proofs.Ythhcmoknppljpaa
open Go.Sh Go.RowKit

def inside (at' n size : Int) : Prop := 1 ≤ n ∧ n ≤ 8 ∧ 0 ≤ at' ∧ n ≤ size ∧ at' ≤ size - n
instance (at' n size : Int) : Decidable (inside at' n size) := by unfold inside; infer_instance
end Go.Proofs.Ythhcmoknppljpaa
end
section
set_option linter.unusedVariables false
set_option linter.unusedSimpArgs false
set_option maxHeartbeats 4000000
namespace Go.Proofs.Ythhcmoknppljpaa
open Go.Sh Go.RowKit


end Go.Proofs.Ythhcmoknppljpaa
end
section
set_option linter.unusedVariables false
set_option linter.unusedSimpArgs false
set_option maxHeartbeats 4000000
namespace Go.Proofs.Ythhcmoknppljpaa
open Go.Sh Go.RowKit

abbrev rsHead_0 := (And.intro @xu8_eql (And.intro @xu8_lss (And.intro @xu8_leq (And.intro @xu8_geq (And.intro @xu16_eql (And.intro @xu16_lss (And.intro @xu16_leq (And.intro @xu16_geq (And.intro @xu32_eql (And.intro @xu32_lss (And.intro @xu32_leq (And.intro @xu32_geq (And.intro @xu64_eql (And.intro @xu64_lss (And.intro @xu64_leq (And.intro @xu64_geq 
  (And.intro @xi64_lss (And.intro @xi64_leq (And.intro @xi64_geq (And.intro @xi64_eql (And.intro @ld_3 (And.intro @ld_4 (And.intro @fa_70_0 (And.intro @fa_70_1 (And.intro @fa_70_2 @fa_70_3)))))))))))))))))))))))))
theorem Right_spec (p b : Int) (m : Bool) (t : Int) (w : World) : Gives Try.prog n_head_Right #[hd p b m t] w (.bool (rightV p b m t)) := by
  refine head_Right_of ?_
  unfold head_Right
  simp (disch := (first | omega | decide | (simp only [rsD] <;> omega) | fail)) only [↓rsC, rsK, rsL, ↓rsHead_0, tick_eq, tickV_eq, ne_eq, Int.reduceAdd, Int.reduceSub, Int.reduceMul, Int.reduceEq, Int.reduceLT, Int.reduceLE, Int.reduceToNat, Nat.reduceMul, Nat.reduceAdd, Nat.reduceSub, ←decide_not, eq_self]
  cases m
  · simp (disch := (first | omega | decide | (simp only [rsD] <;> omega) | fail)) only [↓rsC, rsK, rsL, ↓rsHead_0, tick_eq, tickV_eq, ne_eq, Int.reduceAdd, Int.reduceSub, Int.reduceMul, Int.reduceEq, Int.reduceLT, Int.reduceLE, Int.reduceToNat, Nat.reduceMul, Nat.reduceAdd, Nat.reduceSub, ←decide_not, eq_self]
    by_cases g1 : ¬ t = 0
    · have hv : rightV p b false t = false := decide_eq_false (by rw [right_f]; omega)
      simp (disch := (first | omega | decide | (simp only [rsD] <;> omega) | fail)) only [↓rsC, rsK, rsL, ↓rsHead_0, tick_eq, tickV_eq, ne_eq, Int.reduceAdd, Int.reduceSub, Int.reduceMul, Int.reduceEq, Int.reduceLT, Int.reduceLE, Int.reduceToNat, Nat.reduceMul, Nat.reduceAdd, Nat.reduceSub, ←decide_not, eq_self, g1, hv]
      exact ⟨by trivial, by (repeat (first | with_reducible exact Ext.refl _ _ | with_reducible assumption | with_reducible refine Ext.alloc' ?_ _ | with_reducible refine Ext.drew' ?_ | with_reducible refine Ext.set' ?_ ?_ | exact .inr (by first | omega | (simp only [World.size_alloc, World.size_drew, World.size_setCell] <;> omega)) | refine Ext.trans ?_ (by with_reducible assumption)))⟩
    replace g1 := Decidable.not_not.1 g1
    by_cases g2 : ¬ 0 ≤ p
    · have hv : rightV p b false t = false := decide_eq_false (by rw [right_f]; omega)
      simp (disch := (first | omega | decide | (simp only [rsD] <;> omega) | fail)) only [↓rsC, rsK, rsL, ↓rsHead_0, tick_eq, tickV_eq, ne_eq, Int.reduceAdd, Int.reduceSub, Int.reduceMul, Int.reduceEq, Int.reduceLT, Int.reduceLE, Int.reduceToNat, Nat.reduceMul, Nat.reduceAdd, Nat.reduceSub, ←decide_not, eq_true g1, g2, hv]
      exact ⟨by trivial, by (repeat (first | with_reducible exact Ext.refl _ _ | with_reducible assumption | with_reducible refine Ext.alloc' ?_ _ | with_reducible refine Ext.drew' ?_ | with_reducible refine Ext.set' ?_ ?_ | exact .inr (by first | omega | (simp only [World.size_alloc, World.size_drew, World.size_setCell] <;> omega)) | refine Ext.trans ?_ (by with_reducible assumption)))⟩
    replace g2 := Decidable.not_not.1 g2
    by_cases g3 : ¬ p ≤ 64
    · have hv : rightV p b false t = false := decide_eq_false (by rw [right_f]; omega)
      simp (disch := (first | omega | decide | (simp only [rsD] <;> omega) | fail)) only [↓rsC, rsK, rsL, ↓rsHead_0, tick_eq, tickV_eq, ne_eq, Int.reduceAdd, Int.reduceSub, Int.reduceMul, Int.reduceEq, Int.reduceLT, Int.reduceLE, Int.reduceToNat, Nat.reduceMul, Nat.reduceAdd, Nat.reduceSub, ←decide_not, eq_true g1, eq_true g2, g3, hv]
      exact ⟨by trivial, by (repeat (first | with_reducible exact Ext.refl _ _ | with_reducible assumption | with_reducible refine Ext.alloc' ?_ _ | with_reducible refine Ext.drew' ?_ | with_reducible refine Ext.set' ?_ ?_ | exact .inr (by first | omega | (simp only [World.size_alloc, World.size_drew, World.size_setCell] <;> omega)) | refine Ext.trans ?_ (by with_reducible assumption)))⟩
    replace g3 := Decidable.not_not.1 g3
    by_cases g4 : ¬ 0 ≤ b
    · have hv : rightV p b false t = false := decide_eq_false (by rw [right_f]; omega)
      simp (disch := (first | omega | decide | (simp only [rsD] <;> omega) | fail)) only [↓rsC, rsK, rsL, ↓rsHead_0, tick_eq, tickV_eq, ne_eq, Int.reduceAdd, Int.reduceSub, Int.reduceMul, Int.reduceEq, Int.reduceLT, Int.reduceLE, Int.reduceToNat, Nat.reduceMul, Nat.reduceAdd, Nat.reduceSub, ←decide_not, eq_true g1, eq_true g2, eq_true g3, g4, hv]
      exact ⟨by trivial, by (repeat (first | with_reducible exact Ext.refl _ _ | with_reducible assumption | with_reducible refine Ext.alloc' ?_ _ | with_reducible refine Ext.drew' ?_ | with_reducible refine Ext.set' ?_ ?_ | exact .inr (by first | omega | (simp only [World.size_alloc, World.size_drew, World.size_setCell] <;> omega)) | refine Ext.trans ?_ (by with_reducible assumption)))⟩
    replace g4 := Decidable.not_not.1 g4
    by_cases g5 : ¬ b ≤ 1024
    · have hv : rightV p b false t = false := decide_eq_false (by rw [right_f]; omega)
      simp (disch := (first | omega | decide | (simp only [rsD] <;> omega) | fail)) only [↓rsC, rsK, rsL, ↓rsHead_0, tick_eq, tickV_eq, ne_eq, Int.reduceAdd, Int.reduceSub, Int.reduceMul, Int.reduceEq, Int.reduceLT, Int.reduceLE, Int.reduceToNat, Nat.reduceMul, Nat.reduceAdd, Nat.reduceSub, ←decide_not, eq_true g1, eq_true g2, eq_true g3, eq_true g4, g5, hv]
      exact ⟨by trivial, by (repeat (first | with_reducible exact Ext.refl _ _ | with_reducible assumption | with_reducible refine Ext.alloc' ?_ _ | with_reducible refine Ext.drew' ?_ | with_reducible refine Ext.set' ?_ ?_ | exact .inr (by first | omega | (simp only [World.size_alloc, World.size_drew, World.size_setCell] <;> omega)) | refine Ext.trans ?_ (by with_reducible assumption)))⟩
    replace g5 := Decidable.not_not.1 g5
    have hv : rightV p b false t = true := decide_eq_true (by rw [right_f]; omega)
    simp (disch := (first | omega | decide | (simp only [rsD] <;> omega) | fail)) only [↓rsC, rsK, rsL, ↓rsHead_0, tick_eq, tickV_eq, ne_eq, Int.reduceAdd, Int.reduceSub, Int.reduceMul, Int.reduceEq, Int.reduceLT, Int.reduceLE, Int.reduceToNat, Nat.reduceMul, Nat.reduceAdd, Nat.reduceSub, ←decide_not, eq_true g1, eq_true g2, eq_true g3, eq_true g4, eq_true g5, hv]
    exact ⟨by trivial, by (repeat (first | with_reducible exact Ext.refl _ _ | with_reducible assumption | with_reducible refine Ext.alloc' ?_ _ | with_reducible refine Ext.drew' ?_ | with_reducible refine Ext.set' ?_ ?_ | exact .inr (by first | omega | (simp only [World.size_alloc, World.size_drew, World.size_setCell] <;> omega)) | refine Ext.trans ?_ (by with_reducible assumption)))⟩
  · simp (disch := (first | omega | decide | (simp only [rsD] <;> omega) | fail)) only [↓rsC, rsK, rsL, ↓rsHead_0, tick_eq, tickV_eq, ne_eq, Int.reduceAdd, Int.reduceSub, Int.reduceMul, Int.reduceEq, Int.reduceLT, Int.reduceLE, Int.reduceToNat, Nat.reduceMul, Nat.reduceAdd, Nat.reduceSub, ←decide_not, eq_self]
    by_cases g1 : ¬ p = 0
    · have hv : rightV p b true t = false := decide_eq_false (by rw [right_t]; omega)
      simp (disch := (first | omega | decide | (simp only [rsD] <;> omega) | fail)) only [↓rsC, rsK, rsL, ↓rsHead_0, tick_eq, tickV_eq, ne_eq, Int.reduceAdd, Int.reduceSub, Int.reduceMul, Int.reduceEq, Int.reduceLT, Int.reduceLE, Int.reduceToNat, Nat.reduceMul, Nat.reduceAdd, Nat.reduceSub, ←decide_not, eq_self, g1, hv]
      exact ⟨by trivial, by (repeat (first | with_reducible exact Ext.refl _ _ | with_reducible assumption | with_reducible refine Ext.alloc' ?_ _ | with_reducible refine Ext.drew' ?_ | with_reducible refine Ext.set' ?_ ?_ | exact .inr (by first | omega | (simp only [World.size_alloc, World.size_drew, World.size_setCell] <;> omega)) | refine Ext.trans ?_ (by with_reducible assumption)))⟩
    replace g1 := Decidable.not_not.1 g1
    by_cases g2 : ¬ b = 0
    · have hv : rightV p b true t = false := decide_eq_false (by rw [right_t]; omega)
      simp (disch := (first | omega | decide | (simp only [rsD] <;> omega) | fail)) only [↓rsC, rsK, rsL, ↓rsHead_0, tick_eq, tickV_eq, ne_eq, Int.reduceAdd, Int.reduceSub, Int.reduceMul, Int.reduceEq, Int.reduceLT, Int.reduceLE, Int.reduceToNat, Nat.reduceMul, Nat.reduceAdd, Nat.reduceSub, ←decide_not, eq_true g1, g2, hv]
      exact ⟨by trivial, by (repeat (first | with_reducible exact Ext.refl _ _ | with_reducible assumption | with_reducible refine Ext.alloc' ?_ _ | with_reducible refine Ext.drew' ?_ | with_reducible refine Ext.set' ?_ ?_ | exact .inr (by first | omega | (simp only [World.size_alloc, World.size_drew, World.size_setCell] <;> omega)) | refine Ext.trans ?_ (by with_reducible assumption)))⟩
    replace g2 := Decidable.not_not.1 g2
    by_cases g3 : ¬ 0 ≤ t
    · have hv : rightV p b true t = false := decide_eq_false (by rw [right_t]; omega)
      simp (disch := (first | omega | decide | (simp only [rsD] <;> omega) | fail)) only [↓rsC, rsK, rsL, ↓rsHead_0, tick_eq, tickV_eq, ne_eq, Int.reduceAdd, Int.reduceSub, Int.reduceMul, Int.reduceEq, Int.reduceLT, Int.reduceLE, Int.reduceToNat, Nat.reduceMul, Nat.reduceAdd, Nat.reduceSub, ←decide_not, eq_true g1, eq_true g2, g3, hv]
      exact ⟨by trivial, by (repeat (first | with_reducible exact Ext.refl _ _ | with_reducible assumption | with_reducible refine Ext.alloc' ?_ _ | with_reducible refine Ext.drew' ?_ | with_reducible refine Ext.set' ?_ ?_ | exact .inr (by first | omega | (simp only [World.size_alloc, World.size_drew, World.size_setCell] <;> omega)) | refine Ext.trans ?_ (by with_reducible assumption)))⟩
    replace g3 := Decidable.not_not.1 g3
    by_cases g4 : ¬ t < 8192
    · have hv : rightV p b true t = false := decide_eq_false (by rw [right_t]; omega)
      simp (disch := (first | omega | decide | (simp only [rsD] <;> omega) | fail)) only [↓rsC, rsK, rsL, ↓rsHead_0, tick_eq, tickV_eq, ne_eq, Int.reduceAdd, Int.reduceSub, Int.reduceMul, Int.reduceEq, Int.reduceLT, Int.reduceLE, Int.reduceToNat, Nat.reduceMul, Nat.reduceAdd, Nat.reduceSub, ←decide_not, eq_true g1, eq_true g2, eq_true g3, g4, hv]
      exact ⟨by trivial, by (repeat (first | with_reducible exact Ext.refl _ _ | with_reducible assumption | with_reducible refine Ext.alloc' ?_ _ | with_reducible refine Ext.drew' ?_ | with_reducible refine Ext.set' ?_ ?_ | exact .inr (by first | omega | (simp only [World.size_alloc, World.size_drew, World.size_setCell] <;> omega)) | refine Ext.trans ?_ (by with_reducible assumption)))⟩
    replace g4 := Decidable.not_not.1 g4
    have hv : rightV p b true t = true := decide_eq_true (by rw [right_t]; omega)
    simp (disch := (first | omega | decide | (simp only [rsD] <;> omega) | fail)) only [↓rsC, rsK, rsL, ↓rsHead_0, tick_eq, tickV_eq, ne_eq, Int.reduceAdd, Int.reduceSub, Int.reduceMul, Int.reduceEq, Int.reduceLT, Int.reduceLE, Int.reduceToNat, Nat.reduceMul, Nat.reduceAdd, Nat.reduceSub, ←decide_not, eq_true g1, eq_true g2, eq_true g3, eq_true g4, hv]
    exact ⟨by trivial, by (repeat (first | with_reducible exact Ext.refl _ _ | with_reducible assumption | with_reducible refine Ext.alloc' ?_ _ | with_reducible refine Ext.drew' ?_ | with_reducible refine Ext.set' ?_ ?_ | exact .inr (by first | omega | (simp only [World.size_alloc, World.size_drew, World.size_setCell] <;> omega)) | refine Ext.trans ?_ (by with_reducible assumption)))⟩
def sizeV (p b : Int) (m : Bool) (t : Int) : Int := if rightP p b m t ∧ m = false then 1 + p + (b + 7) / 8 else 0
abbrev rsHead_2 := (And.intro @xu8_add (And.intro @xu8_sub (And.intro @xu8_quo (And.intro @xu8_com (And.intro @xu16_add (And.intro @xu16_sub (And.intro @xu16_quo (And.intro @xu16_com (And.intro @xu32_add (And.intro @xu32_sub (And.intro @xu32_quo (And.intro @xu32_com (And.intro @xu64_add (And.intro @xu64_sub (And.intro @xu64_quo (And.intro @xu64_com 
  (And.intro @ld_3 (And.intro @ld_4 (And.intro @ld_70 (And.intro @fa_70_0 (And.intro @fa_70_1 @fa_70_2)))))))))))))))))))))
theorem Size_spec (p b : Int) (m : Bool) (t : Int) (w : World) : Gives Try.prog n_head_Size #[hd p b m t] w (i64 (sizeV p b m t)) := by
  refine head_Size_of ?_
  unfold head_Size
  simp (disch := (first | omega | decide | (simp only [rsD] <;> omega) | fail)) only [↓rsC, rsK, rsL, ↓rsHead_2, tick_eq, tickV_eq, ne_eq, Int.reduceAdd, Int.reduceSub, Int.reduceMul, Int.reduceEq, Int.reduceLT, Int.reduceLE, Int.reduceToNat, Nat.reduceMul, Nat.reduceAdd, Nat.reduceSub, ←decide_not, eq_self]
  refine head_Right_call (Gives.to (Right_spec _ _ _ _ _) fun w1 E1 => ?_)
  have z1 := E1.size
  try simp only [World.size_alloc, World.size_setCell, World.size_drew] at z1
  have e1_0 : ∀ o, w1.cell? ⟨w.heap.size, o, none⟩ = _ := fun o => E1.cell_o (by first | omega | (simp only [World.size_alloc, World.size_setCell, World.size_drew, size_sets] <;> omega))
  by_cases h : rightP p b m t
  rotate_left
  · have h1 : rightV p b m t = false := decide_eq_false h
    simp (disch := (first | omega | decide | (simp only [rsD] <;> omega) | fail)) only [↓rsC, rsK, rsL, ↓rsHead_2, tick_eq, tickV_eq, ne_eq, Int.reduceAdd, Int.reduceSub, Int.reduceMul, Int.reduceEq, Int.reduceLT, Int.reduceLE, Int.reduceToNat, Nat.reduceMul, Nat.reduceAdd, Nat.reduceSub, ←decide_not, e1_0, h1]
    exact ⟨by simp [sizeV, h], by (repeat (first | with_reducible exact Ext.refl _ _ | with_reducible assumption | with_reducible refine Ext.alloc' ?_ _ | with_reducible refine Ext.drew' ?_ | with_reducible refine Ext.set' ?_ ?_ | exact .inr (by first | omega | (simp only [World.size_alloc, World.size_drew, World.size_setCell] <;> omega)) | refine Ext.trans ?_ (by with_reducible assumption)))⟩
  have h1 : rightV p b m t = true := decide_eq_true h
  cases m
  · have hr := right_f.1 h
    simp (disch := (first | omega | decide | (simp only [rsD] <;> omega) | fail)) only [↓rsC, rsK, rsL, ↓rsHead_2, tick_eq, tickV_eq, ne_eq, Int.reduceAdd, Int.reduceSub, Int.reduceMul, Int.reduceEq, Int.reduceLT, Int.reduceLE, Int.reduceToNat, Nat.reduceMul, Nat.reduceAdd, Nat.reduceSub, ←decide_not, e1_0, h1]
    exact ⟨by simp [sizeV, h]; omega, by (repeat (first | with_reducible exact Ext.refl _ _ | with_reducible assumption | with_reducible refine Ext.alloc' ?_ _ | with_reducible refine Ext.drew' ?_ | with_reducible refine Ext.set' ?_ ?_ | exact .inr (by first | omega | (simp only [World.size_alloc, World.size_drew, World.size_setCell] <;> omega)) | refine Ext.trans ?_ (by with_reducible assumption)))⟩
  · simp (disch := (first | omega | decide | (simp only [rsD] <;> omega) | fail)) only [↓rsC, rsK, rsL, ↓rsHead_2, tick_eq, tickV_eq, ne_eq, Int.reduceAdd, Int.reduceSub, Int.reduceMul, Int.reduceEq, Int.reduceLT, Int.reduceLE, Int.reduceToNat, Nat.reduceMul, Nat.reduceAdd, Nat.reduceSub, ←decide_not, e1_0, h1]
    exact ⟨by simp [sizeV], by (repeat (first | with_reducible exact Ext.refl _ _ | with_reducible assumption | with_reducible refine Ext.alloc' ?_ _ | with_reducible refine Ext.drew' ?_ | with_reducible refine Ext.set' ?_ ?_ | exact .inr (by first | omega | (simp only [World.size_alloc, World.size_drew, World.size_setCell] <;> omega)) | refine Ext.trans ?_ (by with_reducible assumption)))⟩
end Go.Proofs.Ythhcmoknppljpaa
end
section
set_option linter.unusedVariables false
set_option linter.unusedSimpArgs false
set_option maxHeartbeats 4000000
namespace Go.Proofs.Ythhcmoknppljpaa
open Go.Sh Go.RowKit

end Go.Proofs.Ythhcmoknppljpaa
end
section
set_option linter.unusedVariables false
set_option linter.unusedSimpArgs false
set_option maxHeartbeats 4000000
namespace Go.Proofs.Ythhcmoknppljpaa
open Go.Sh Go.RowKit

end Go.Proofs.Ythhcmoknppljpaa
end
section
set_option linter.unusedVariables false
set_option linter.unusedSimpArgs false
set_option maxHeartbeats 4000000
namespace Go.Proofs.Ythhcmoknppljpaa
open Go.Sh Go.RowKit

theorem bys_ok {l : List (BitVec 8)} : ∀ u ∈ bys l, u.oneCell' = true := by simp [Value.oneCell']
end Go.Proofs.Ythhcmoknppljpaa
end
section
set_option linter.unusedVariables false
set_option linter.unusedSimpArgs false
set_option maxHeartbeats 4000000
namespace Go.Proofs.Ythhcmoknppljpaa
open Go.Sh Go.RowKit

abbrev c0 : BitVec 64 := BitVec.ofNat 64 0
def byteW (ws : List (BitVec 64)) (i : Nat) : BitVec 8 := ((ws.getD (i / 8) c0) >>> (8 * (i % 8))).setWidth 8
def bytesW (ws : List (BitVec 64)) (at' n : Nat) : List (BitVec 8) := (List.range n).map fun i => byteW ws (at' + i)
/-- n things from a place on -/
def among (at' n all : Int) : Prop := 0 ≤ at' ∧ 0 ≤ n ∧ n ≤ all ∧ at' ≤ all - n
instance (at' n all : Int) : Decidable (among at' n all) := by unfold among; infer_instance
end Go.Proofs.Ythhcmoknppljpaa
end
section
set_option linter.unusedVariables false
set_option linter.unusedSimpArgs false
set_option maxHeartbeats 4000000
namespace Go.Proofs.Ythhcmoknppljpaa
open Go.Sh Go.RowKit

abbrev ptr (g : Nat) : Value := .pointer (some ⟨g, 0, none⟩)
section
variable {w : World} {base g : Nat} {a : Option Addr} {c : Nat} {ws : List (BitVec 64)}
abbrev rsMem_0 := (And.intro @ln_51 (And.intro @sh_51 @sm_51))
theorem ClipB_spec {b : Option Addr} {n m : Nat} (hm : n ≤ m) : Gives Try.prog n_slices_Clip_byte_byte #[.slice b n m] w (.slice b n n) := by
  refine slices_Clip_byte_byte_of ?_
  unfold slices_Clip_byte_byte
  simp (disch := (first | omega | decide | (simp only [rsD] <;> omega) | fail)) only [↓rsC, rsK, rsL, ↓rsMem_0, tick_eq, tickV_eq, ne_eq, Int.reduceAdd, Int.reduceSub, Int.reduceMul, Int.reduceEq, Int.reduceLT, Int.reduceLE, Int.reduceToNat, Nat.reduceMul, Nat.reduceAdd, Nat.reduceSub, ←decide_not, eq_self]
  exact ⟨by trivial, by (repeat (first | with_reducible exact Ext.refl _ _ | with_reducible assumption | with_reducible refine Ext.alloc' ?_ _ | with_reducible refine Ext.drew' ?_ | with_reducible refine Ext.set' ?_ ?_ | exact .inr (by first | omega | (simp only [World.size_alloc, World.size_drew, World.size_setCell] <;> omega)) | refine Ext.trans ?_ (by with_reducible assumption)))⟩

end
end Go.Proofs.Ythhcmoknppljpaa
end
section
set_option linter.unusedVariables false
set_option linter.unusedSimpArgs false
set_option maxHeartbeats 4000000
namespace Go.Proofs.Ythhcmoknppljpaa
open Go.Sh Go.RowKit


end Go.Proofs.Ythhcmoknppljpaa
end
section
set_option linter.unusedVariables false
set_option linter.unusedSimpArgs false
set_option maxHeartbeats 4000000
namespace Go.Proofs.Ythhcmoknppljpaa
open Go.Sh Go.RowKit

def szW (x : BitVec 64) : Nat := 1 + (uP x).toNat + ((uB x).toNat + 7) / 8
def okW (x : BitVec 64) : Prop := isHead x ∧ uM x = false
instance (x : BitVec 64) : Decidable (okW x) := by unfold okW isHead rightP; infer_instance
theorem okW_pack {p b : Int} (h : rightP p b false 0) : okW (packW p b false 0) ∧ szW (packW p b false 0) = 1 + p.toNat + (b.toNat + 7) / 8 := by
  obtain ⟨h1, h2, h3, h4⟩ := un_pack h
  exact ⟨⟨un_pack_is h, h3⟩, by unfold szW; rw [h1, h2]⟩
def wat (ws : List (BitVec 64)) (i : Nat) : BitVec 64 := ws.getD i c0
def walk (ws : List (BitVec 64)) (t : Nat) : Nat → Nat → Option (List Nat)
  | 0, _ => some []
  | f + 1, o => if o < t then (if okW (wat ws o) ∧ o + szW (wat ws o) ≤ t then (walk ws t f (o + szW (wat ws o))).map (o :: ·) else none) else some []
def objs (ws : List (BitVec 64)) (b t : Nat) : Option (List Nat) := walk ws t t b
inductive Objs (ws : List (BitVec 64)) (t : Nat) : Nat → List Nat → Prop
  | nil : Objs ws t t []
  | cons {o : Nat} {l : List Nat} : okW (wat ws o) → o + szW (wat ws o) ≤ t → Objs ws t (o + szW (wat ws o)) l → Objs ws t o (o :: l)
theorem szW_pos {x : BitVec 64} : 1 ≤ szW x := by unfold szW; omega
theorem Objs.le {ws : List (BitVec 64)} {t o : Nat} {l : List Nat} (h : Objs ws t o l) : o ≤ t := by
  induction h with
  | nil => exact Nat.le_refl _
  | cons _ h2 _ _ => omega
theorem Objs.walk {ws : List (BitVec 64)} {t o : Nat} {l : List Nat} (h : Objs ws t o l) : ∀ f, t ≤ o + f → Go.Proofs.Ythhcmoknppljpaa.walk ws t f o = some l := by
  induction h with
  | nil =>
    intro f hf
    cases f with
    | zero => rfl
    | succ f => unfold Go.Proofs.Ythhcmoknppljpaa.walk; rw [if_neg (Nat.lt_irrefl _)]
  | @cons o l h1 h2 h3 ih =>
    intro f hf
    have hp := szW_pos (x := wat ws o)
    have hle := h3.le
    cases f with
    | zero => omega
    | succ f => unfold Go.Proofs.Ythhcmoknppljpaa.walk; rw [if_pos (by omega), if_pos ⟨h1, h2⟩, ih f (by omega)]; rfl
theorem Objs.more {ws ws' : List (BitVec 64)} {t n o : Nat} {l : List Nat} (h : Objs ws t o l) (hs : ∀ i, i < t → wat ws' i = wat ws i) (hk : okW (wat ws' t)) (hn : n = szW (wat ws' t)) : Objs ws' (t + n) o (l ++ [t]) := by
  induction h with
  | nil => subst hn; exact .cons hk (Nat.le_refl _) .nil
  | @cons o l h1 h2 h3 ih =>
    have hp := szW_pos (x := wat ws o)
    have hle := h3.le
    have e := hs o (by omega)
    rw [← e] at h1 h2 ih
    exact .cons h1 (by omega) ih
/-- nought from a place on -/
def zr (ws : List (BitVec 64)) (o n : Nat) : List (BitVec 64) := ws.mapIdx fun i x => if o ≤ i ∧ i < o + n then c0 else x
@[simp] theorem zr_length {ws : List (BitVec 64)} {o n : Nat} : (zr ws o n).length = ws.length := by simp [zr]
def alW (ws : List (BitVec 64)) (t : Nat) (x : BitVec 64) (n : Nat) : List (BitVec 64) := zr (ws.set t x) (t + 1) (n - 1)
@[simp] theorem alW_length {ws : List (BitVec 64)} {t n : Nat} {x : BitVec 64} : (alW ws t x n).length = ws.length := by simp [alW]
theorem wat_zr {ws : List (BitVec 64)} {o n i : Nat} : wat (zr ws o n) i = if o ≤ i ∧ i < o + n then c0 else wat ws i := by
  unfold wat zr
  simp only [List.getD_eq_getElem?_getD, List.getElem?_mapIdx]
  cases ws[i]? with
  | none => simp
  | some x => simp
theorem wat_set {ws : List (BitVec 64)} {t i : Nat} {x : BitVec 64} (ht : t < ws.length) : wat (ws.set t x) i = if i = t then x else wat ws i := by
  unfold wat
  simp only [List.getD_eq_getElem?_getD, List.getElem?_set]
  by_cases h : t = i
  · subst h; simp [ht]
  · rw [if_neg h, if_neg (fun e => h e.symm)]
theorem wat_alW {ws : List (BitVec 64)} {t n i : Nat} {x : BitVec 64} (ht : t < ws.length) : wat (alW ws t x n) i = if i = t then x else if t + 1 ≤ i ∧ i < t + 1 + (n - 1) then c0 else wat ws i := by
  unfold alW
  rw [wat_zr, wat_set ht]
  by_cases h : i = t
  · subst h; rw [if_neg (by omega)]; simp
  · simp [h]
theorem Objs.alloc {ws : List (BitVec 64)} {b t n : Nat} {l : List Nat} {p bb : Int} (h : Objs ws t b l) (ht : t < ws.length) (hr : rightP p bb false 0) (hn : n = szW (packW p bb false 0)) : Objs (alW ws t (packW p bb false 0) n) (t + n) b (l ++ [t]) := by
  have e : wat (alW ws t (packW p bb false 0) n) t = packW p bb false 0 := by rw [wat_alW ht, if_pos rfl]
  refine h.more (fun i hi => ?_) (by rw [e]; exact (okW_pack hr).1) (by rw [e]; exact hn)
  rw [wat_alW ht, if_neg (by omega), if_neg (by omega)]
/-! rows of numbers and of words -/
end Go.Proofs.Ythhcmoknppljpaa
end
section
set_option linter.unusedVariables false
set_option linter.unusedSimpArgs false
set_option maxHeartbeats 4000000
namespace Go.Proofs.Ythhcmoknppljpaa
open Go.Sh Go.RowKit Go.ChangeShapes Go.WideShapes Go.ChangeAt

structure GN where
  p : List Int
  pa : Option Addr
  pc : Nat
  d : List (BitVec 8)
  da : Option Addr
  dc : Nat
structure GR where
  s : List (BitVec 8)
  to : Int
abbrev gnC (x : GN) : List Value := [.slice x.pa x.p.length x.pc, .slice x.da x.d.length x.dc]
abbrev grC (r : GR) : List Value := [.string (strOf r.s), i64 r.to]
abbrev its (l : List Int) : List Value := l.map fun i => i64 i
structure NOk (w : World) (x : GN) : Prop where
  pr : RowAt w x.pa (its x.p)
  pl : x.p.length ≤ x.pc
  pn : x.pa = none → x.pc = 0
  dr : RowAt w x.da (bys x.d)
  dl : x.d.length ≤ x.dc
  dn : x.da = none → x.dc = 0
theorem NOk.ext0 {w w' : World} {x : GN} (h : NOk w x) (hx : Ext [] w w') : NOk w' x := ⟨h.pr.ext0 hx, h.pl, h.pn, h.dr.ext0 hx, h.dl, h.dn⟩
/-- a graph's two rows -/
structure GIs (w : World) (na : Option Addr) (nc : Nat) (ra : Option Addr) (rc : Nat) (ns : List GN) (rs : List GR) : Prop where
  nr : RowAt w na (ns.flatMap gnC)
  nl : ns.length ≤ nc
  nn : na = none → nc = 0
  rr : RowAt w ra (rs.flatMap grC)
  rl : rs.length ≤ rc
  rn : ra = none → rc = 0
  ok : ∀ x ∈ ns, NOk w x
theorem GIs.ext0 {w w' : World} {na ra : Option Addr} {nc rc : Nat} {ns : List GN} {rs : List GR} (h : GIs w na nc ra rc ns rs) (hx : Ext [] w w') : GIs w' na nc ra rc ns rs :=
  ⟨h.nr.ext0 hx, h.nl, h.nn, h.rr.ext0 hx, h.rl, h.rn, fun x hm => (h.ok x hm).ext0 hx⟩
abbrev gV (na : Option Addr) (nc : Nat) (ra : Option Addr) (rc : Nat) (ns : List GN) (rs : List GR) : Value := .agg #[.slice na ns.length nc, .slice ra rs.length rc]
theorem pair_len {α : Type} {f : α → List Value} (hf : ∀ x, (f x).length = 2) (l : List α) : (l.flatMap f).length = l.length * 2 := by
  induction l with
  | nil => rfl
  | cons x l ih => rw [List.flatMap_cons, List.length_append, ih, List.length_cons, hf]; omega
theorem pair_cell {α : Type} {f : α → List Value} (hf : ∀ x, (f x).length = 2) : ∀ (l : List α) (k : Nat) (h : k < l.length) (j : Nat), j < 2 → (l.flatMap f)[k * 2 + j]? = (f l[k])[j]? := by
  intro l
  induction l with
  | nil => intro k h; simp at h
  | cons x l ih =>
    intro k h j hj
    rw [List.flatMap_cons]
    cases k with
    | zero => rw [List.getElem?_append_left (by rw [hf]; omega)]; simp
    | succ k =>
      rw [List.getElem?_append_right (by rw [hf]; omega), show (k + 1) * 2 + j - (f x).length = k * 2 + j by rw [hf]; omega]
      simpa using ih k (by simpa using h) j hj
theorem pair_at {α : Type} {f : α → List Value} (hf : ∀ x, (f x).length = 2) {w : World} {l : List α} {a : Option Addr} {k : Nat} (h : RowAt w a (l.flatMap f)) (hk : k < l.length) :
    ∃ b o, a = some ⟨b, o, none⟩ ∧ b < w.heap.size ∧ (∀ x, (f l[k])[0]? = some x → w.cell? ⟨b, o + k * 2, none⟩ = some x) ∧ ∀ x, (f l[k])[1]? = some x → w.cell? ⟨b, o + k * 2 + 1, none⟩ = some x := by
  obtain ⟨b, o, rfl, hb, hc⟩ := h.get (by intro e; have := congrArg List.length e; rw [pair_len hf] at this; simp only [List.length_nil] at this; omega)
  refine ⟨b, o, rfl, hb, fun x hx => ?_, fun x hx => ?_⟩
  · have := hc (k * 2 + 0) x ((pair_cell hf l k hk 0 (by omega)).trans hx); simpa using this
  · have := hc (k * 2 + 1) x ((pair_cell hf l k hk 1 (by omega)).trans hx); rw [Nat.add_assoc]; exact this
theorem gn_at {w : World} {l : List GN} {a : Option Addr} {k : Nat} (h : RowAt w a (l.flatMap gnC)) (hk : k < l.length) :
    ∃ b o, a = some ⟨b, o, none⟩ ∧ b < w.heap.size ∧ w.cell? ⟨b, o + k * 2, none⟩ = some (.slice l[k].pa l[k].p.length l[k].pc) ∧ w.cell? ⟨b, o + k * 2 + 1, none⟩ = some (.slice l[k].da l[k].d.length l[k].dc) := by
  obtain ⟨b, o, h1, h2, h3, h4⟩ := pair_at (fun _ => rfl) h hk
  exact ⟨b, o, h1, h2, h3 _ rfl, h4 _ rfl⟩
theorem gr_at {w : World} {l : List GR} {a : Option Addr} {k : Nat} (h : RowAt w a (l.flatMap grC)) (hk : k < l.length) :
    ∃ b o, a = some ⟨b, o, none⟩ ∧ b < w.heap.size ∧ w.cell? ⟨b, o + k * 2, none⟩ = some (.string (strOf l[k].s)) ∧ w.cell? ⟨b, o + k * 2 + 1, none⟩ = some (i64 l[k].to) := by
  obtain ⟨b, o, h1, h2, h3, h4⟩ := pair_at (fun _ => rfl) h hk
  exact ⟨b, o, h1, h2, h3 _ rfl, h4 _ rfl⟩
theorem list2 {α : Type} {l : List α} (h : l.length = 2) : ∃ a b, l = [a, b] := by
  match l, h with
  | [a, b], _ => exact ⟨a, b, rfl⟩
theorem gn_cells {W : World} {cs : List Value} (hl : cs.length = 2) (hc : ∀ (i : Nat) (d : Leaf) (c : Value), [Leaf.row .i64, .row .u8][i]? = some d → cs[i]? = some c → leafOk W d c) : ∃ x : GN, cs = gnC x ∧ NOk W x := by
  obtain ⟨c0, c1, rfl⟩ := list2 hl
  obtain ⟨a, n, c, zs, rfl, q1, q2, q3, q4, q5, q6⟩ := hc 0 _ _ rfl rfl
  obtain ⟨a', n', c', zs', rfl, r1, r2, r3, r4, r5, r6⟩ := hc 1 _ _ rfl rfl
  have B := bytesArg r1 r2 r3 r4 r5 r6
  refine ⟨⟨zs, a, c, zs'.map (BitVec.ofInt 8), a', c'⟩, ?_, ⟨q5, by simpa using (q1 ▸ q2), q4, B.row, by rw [← B.len]; exact r2, r4⟩⟩
  simp only [gnC]
  rw [← B.len, q1]
theorem gr_cells {W : World} {cs : List Value} (hl : cs.length = 2) (hc : ∀ (i : Nat) (d : Leaf) (c : Value), [Leaf.str, .int .i64][i]? = some d → cs[i]? = some c → leafOk W d c) : ∃ x : GR, cs = grC x := by
  obtain ⟨c0, c1, rfl⟩ := list2 hl
  obtain ⟨s, rfl⟩ := hc 0 _ _ rfl rfl
  obtain ⟨z, rfl, _⟩ := hc 1 _ _ rfl rfl
  have e : Go.Sh.strOf (s.data.toList.map UInt8.toBitVec) = s := by
    cases s with | mk d =>
    unfold Go.Sh.strOf
    congr 1
    rw [List.map_map]
    have : ∀ l : List UInt8, l.map (UInt8.ofBitVec ∘ UInt8.toBitVec) = l := fun l => (List.map_congr_left (g := id) fun x _ => rfl).trans (List.map_id _)
    rw [this]
  exact ⟨⟨s.data.toList.map UInt8.toBitVec, z⟩, by simp only [grC]; rw [e]⟩
set_option maxRecDepth 100000 in
theorem graph_open {H : Type} {enc : TypeId × Value → H} {W : World} {base : Nat} {v : Value} {d : DataW H} {p : List MemPlace} (hv : Value.okWide Try.prog W .any base 25 v) (h : DataW.Trod enc Try.prog W 0 (fun _ => true) true 25 v d p) :
    ∃ na nc ra rc ns rs, v = gV na nc ra rc ns rs ∧ GIs W na nc ra rc ns rs := by
  obtain ⟨a, n, c, b, m, k, C, D, rfl, ⟨h1, h2, h3⟩, ⟨g1, g2, g3⟩, hC, hR, hD, hR2⟩ := open_two (ea := 53) (eb := 58) (Fa := 2) (Fb := 2) (la := [.row .i64, .row .u8]) (lb := [.str, .int .i64]) (P := Try.prog) Try.underlying25 rfl rfl (by kernel_rfl) (by kernel_rfl) (by kernel_rfl) (by kernel_rfl) (by kernel_rfl) (by decide) (by kernel_rfl) (by kernel_rfl) (by kernel_rfl) (by decide) (by kernel_rfl) hv h
  have each : ∀ i, ∃ x : GN, i < n → C i = gnC x ∧ NOk W x := fun i => by
    by_cases hi : i < n
    · obtain ⟨x, h1, h2⟩ := gn_cells (hC i hi).1 (hC i hi).2
      exact ⟨x, fun _ => ⟨h1, h2⟩⟩
    · exact ⟨⟨[], none, 0, [], none, 0⟩, fun h => absurd h hi⟩
  have each2 : ∀ i, ∃ x : GR, i < m → D i = grC x := fun i => by
    by_cases hi : i < m
    · obtain ⟨x, h1⟩ := gr_cells (hD i hi).1 (hD i hi).2
      exact ⟨x, fun _ => h1⟩
    · exact ⟨⟨[], 0⟩, fun h => absurd h hi⟩
  obtain ⟨X, hX⟩ : ∃ X : Nat → GN, ∀ i, i < n → C i = gnC (X i) ∧ NOk W (X i) := ⟨fun i => Classical.choose (each i), fun i => Classical.choose_spec (each i)⟩
  obtain ⟨Y, hY⟩ : ∃ Y : Nat → GR, ∀ i, i < m → D i = grC (Y i) := ⟨fun i => Classical.choose (each2 i), fun i => Classical.choose_spec (each2 i)⟩
  refine ⟨a, c, b, k, (List.range n).map X, (List.range m).map Y, by simp [gV], ⟨?_, by simpa using h1, h3, ?_, by simpa using g1, g3, fun x hx => ?_⟩⟩
  · rw [flat_map (f := gnC) (X := X) fun i hi => (hX i hi).1] at hR
    exact hR
  · rw [flat_map (f := grC) (X := Y) fun i hi => hY i hi] at hR2
    exact hR2
  · obtain ⟨i, hi, rfl⟩ := List.mem_map.1 hx
    exact (hX i (List.mem_range.1 hi)).2
structure GP where
  na : Option Addr
  nc : Nat
  ra : Option Addr
  rc : Nat
  ns : List GN
  rs : List GR
abbrev gPV (a : GP) : Value := gV a.na a.nc a.ra a.rc a.ns a.rs
set_option maxRecDepth 100000 in
theorem graph_open1 {H : Type} {enc : TypeId × Value → H} {W : World} {base : Nat} {v : Value} {d : DataW H} {p : List MemPlace} (hv : Value.okWide Try.prog W .any base 25 v) (h : DataW.Trod enc Try.prog W 0 (fun _ => true) true 25 v d p) :
    ∃ a : GP, v = gPV a ∧ GIs W a.na a.nc a.ra a.rc a.ns a.rs := by
  obtain ⟨na, nc, ra, rc, ns, rs, h1, h2⟩ := graph_open hv h
  exact ⟨⟨na, nc, ra, rc, ns, rs⟩, h1, h2⟩
/-- a graph of which a play is worth its while -/
structure FewG (ns : List GN) (rs : List GR) : Prop where
  n : ns.length ≤ 60
  r : rs.length ≤ 80
  x : ∀ x ∈ ns, x.p.length ≤ 70 ∧ x.d.length ≤ 1100
  s : ∀ r ∈ rs, r.s.length ≤ 40
abbrev rsGrp_0 := (And.intro @xu8_add (And.intro @xu8_lss (And.intro @xu8_gtr (And.intro @xu16_add (And.intro @xu16_lss (And.intro @xu16_gtr (And.intro @xu32_add (And.intro @xu32_lss (And.intro @xu32_gtr (And.intro @xu64_add (And.intro @xu64_lss (And.intro @xu64_gtr (And.intro @xi64_lss (And.intro @xi64_gtr (And.intro @ld_9 (And.intro @ld_22 
  (And.intro @ld_23 (And.intro @ld_26 (And.intro @ld_51 (And.intro @fa_25_0 (And.intro @fa_25_1 (And.intro @fa_53_0 (And.intro @fa_53_1 (And.intro @fa_58_0 (And.intro @ia_22 (And.intro @ia_23 (And.intro @ln_22 (And.intro @ln_23 (And.intro @ln_26 (And.intro @ln_51 @ln_9))))))))))))))))))))))))))))))
theorem Few_spec {w : World} {na ra : Option Addr} {nc rc : Nat} {ns : List GN} {rs : List GR} (h : GIs w na nc ra rc ns rs) : Yld Try.prog n_loamlaw17_Few #[gV na nc ra rc ns rs] w fun u w' => (∃ b : Bool, u = .bool b ∧ (b = true → FewG ns rs)) ∧ Ext [] w w' := by
  refine loamlaw17_Few_of ?_
  unfold loamlaw17_Few
  simp (disch := (first | omega | decide | (simp only [rsD] <;> omega) | fail)) only [↓rsC, rsK, rsL, ↓rsGrp_0, tick_eq, tickV_eq, ne_eq, Int.reduceAdd, Int.reduceSub, Int.reduceMul, Int.reduceEq, Int.reduceLT, Int.reduceLE, Int.reduceToNat, Nat.reduceMul, Nat.reduceAdd, Nat.reduceSub, ←decide_not, eq_self]
  have B : Blk (w.alloc (.cells #[.slice na ns.length nc, .slice ra rs.length rc] 25)) w.heap.size 25 [.slice na ns.length nc, .slice ra rs.length rc] := Blk.at rfl
  have X : Ext [] w (w.alloc (.cells #[.slice na ns.length nc, .slice ra rs.length rc] 25)) := Ext.alloc _ _ _
  have hy := h.ext0 X
  by_cases h1 : 60 < ns.length
  · simp (disch := (first | omega | decide | (simp only [rsD] <;> omega) | fail)) only [↓rsC, rsK, rsL, ↓rsGrp_0, tick_eq, tickV_eq, ne_eq, Int.reduceAdd, Int.reduceSub, Int.reduceMul, Int.reduceEq, Int.reduceLT, Int.reduceLE, Int.reduceToNat, Nat.reduceMul, Nat.reduceAdd, Nat.reduceSub, ←decide_not, eq_self]
    exact ⟨⟨false, by trivial, fun h => by cases h⟩, X⟩
  by_cases h2 : 80 < rs.length
  · simp (disch := (first | omega | decide | (simp only [rsD] <;> omega) | fail)) only [↓rsC, rsK, rsL, ↓rsGrp_0, tick_eq, tickV_eq, ne_eq, Int.reduceAdd, Int.reduceSub, Int.reduceMul, Int.reduceEq, Int.reduceLT, Int.reduceLE, Int.reduceToNat, Nat.reduceMul, Nat.reduceAdd, Nat.reduceSub, ←decide_not, eq_self]
    exact ⟨⟨false, by trivial, fun h => by cases h⟩, X⟩
  simp (disch := (first | omega | decide | (simp only [rsD] <;> omega) | fail)) only [↓rsC, rsK, rsL, ↓rsGrp_0, tick_eq, tickV_eq, ne_eq, Int.reduceAdd, Int.reduceSub, Int.reduceMul, Int.reduceEq, Int.reduceLT, Int.reduceLE, Int.reduceToNat, Nat.reduceMul, Nat.reduceAdd, Nat.reduceSub, ←decide_not, eq_self]
  generalize w.heap.size = hb at *
  generalize w.alloc (.cells #[.slice na ns.length nc, .slice ra rs.length rc] 25) = y at *
  refine xLoop_n ns.length (fun j => [i64 (j : Int)]) (fun j w' => Ext [] y w' ∧ ∀ i (hi : i < ns.length), i < j → ns[i].p.length ≤ 70 ∧ ns[i].d.length ≤ 1100) rfl ⟨Ext.refl _ _, by intro i _ hi; omega⟩ ?_ ?_
  · intro j hj u v1 hu ⟨F, hq⟩ nxt hnx
    simp only [List.map_cons, List.map_nil, List.cons.injEq, and_true] at hu
    rw [hu]
    have k1 := fun i => (B.ext F (by simp)).cell (i := i)
    obtain ⟨b1, o1, rfl, z1, c1, c2⟩ := gn_at (hy.ext0 F).nr hj
    unfold loamlaw17_Few_l1
    by_cases g1 : 70 < ns[j].p.length
    · simp (disch := (first | omega | decide | (simp only [rsD] <;> omega) | fail)) only [↓rsC, rsK, rsL, ↓rsGrp_0, tick_eq, tickV_eq, ne_eq, Int.reduceAdd, Int.reduceSub, Int.reduceMul, Int.reduceEq, Int.reduceLT, Int.reduceLE, Int.reduceToNat, Nat.reduceMul, Nat.reduceAdd, Nat.reduceSub, ←decide_not, k1, c1, c2]
      exact ⟨⟨false, by trivial, fun h => by cases h⟩, X.trans F⟩
    by_cases g2 : 1100 < ns[j].d.length
    · simp (disch := (first | omega | decide | (simp only [rsD] <;> omega) | fail)) only [↓rsC, rsK, rsL, ↓rsGrp_0, tick_eq, tickV_eq, ne_eq, Int.reduceAdd, Int.reduceSub, Int.reduceMul, Int.reduceEq, Int.reduceLT, Int.reduceLE, Int.reduceToNat, Nat.reduceMul, Nat.reduceAdd, Nat.reduceSub, ←decide_not, k1, c1, c2]
      exact ⟨⟨false, by trivial, fun h => by cases h⟩, X.trans F⟩
    simp (disch := (first | omega | decide | (simp only [rsD] <;> omega) | fail)) only [↓rsC, rsK, rsL, ↓rsGrp_0, tick_eq, tickV_eq, ne_eq, Int.reduceAdd, Int.reduceSub, Int.reduceMul, Int.reduceEq, Int.reduceLT, Int.reduceLE, Int.reduceToNat, Nat.reduceMul, Nat.reduceAdd, Nat.reduceSub, ←decide_not, k1, c1, c2]
    refine hnx _ ⟨F, fun i hi hij => ?_⟩
    by_cases e : i = j
    · subst e; exact ⟨by omega, by omega⟩
    · exact hq i hi (by omega)
  · intro u v1 hu ⟨F, hq⟩ nxt
    simp only [List.map_cons, List.map_nil, List.cons.injEq, and_true] at hu
    rw [hu]
    have k1 := fun i => (B.ext F (by simp)).cell (i := i)
    unfold loamlaw17_Few_l1
    simp (disch := (first | omega | decide | (simp only [rsD] <;> omega) | fail)) only [↓rsC, rsK, rsL, ↓rsGrp_0, tick_eq, tickV_eq, ne_eq, Int.reduceAdd, Int.reduceSub, Int.reduceMul, Int.reduceEq, Int.reduceLT, Int.reduceLE, Int.reduceToNat, Nat.reduceMul, Nat.reduceAdd, Nat.reduceSub, ←decide_not, k1]
    refine xLoop_n rs.length (fun j => [i64 (j : Int)]) (fun j w' => Ext [] y w' ∧ ∀ i (hi : i < rs.length), i < j → rs[i].s.length ≤ 40) rfl ⟨F, by intro i _ hi; omega⟩ ?_ ?_
    · intro j hj u v2 hu ⟨F2, hq2⟩ nxt hnx
      simp only [List.map_cons, List.map_nil, List.cons.injEq, and_true] at hu
      rw [hu]
      have k2 := fun i => (B.ext F2 (by simp)).cell (i := i)
      obtain ⟨b1, o1, rfl, z1, c1, c2⟩ := gr_at (hy.ext0 F2).rr hj
      unfold loamlaw17_Few_l2
      have hsz := strOf_size (l := rs[j].s)
      by_cases g1 : 40 < (strOf rs[j].s).size
      · simp (disch := (first | omega | decide | (simp only [rsD] <;> omega) | fail)) only [↓rsC, rsK, rsL, ↓rsGrp_0, tick_eq, tickV_eq, ne_eq, Int.reduceAdd, Int.reduceSub, Int.reduceMul, Int.reduceEq, Int.reduceLT, Int.reduceLE, Int.reduceToNat, Nat.reduceMul, Nat.reduceAdd, Nat.reduceSub, ←decide_not, k1, k2, c1, c2]
        exact ⟨⟨false, by trivial, fun h => by cases h⟩, X.trans F2⟩
      simp (disch := (first | omega | decide | (simp only [rsD] <;> omega) | fail)) only [↓rsC, rsK, rsL, ↓rsGrp_0, tick_eq, tickV_eq, ne_eq, Int.reduceAdd, Int.reduceSub, Int.reduceMul, Int.reduceEq, Int.reduceLT, Int.reduceLE, Int.reduceToNat, Nat.reduceMul, Nat.reduceAdd, Nat.reduceSub, ←decide_not, k1, k2, c1, c2]
      refine hnx _ ⟨F2, fun i hi hij => ?_⟩
      by_cases e : i = j
      · subst e; omega
      · exact hq2 i hi (by omega)
    · intro u v2 hu ⟨F2, hq2⟩ nxt
      simp only [List.map_cons, List.map_nil, List.cons.injEq, and_true] at hu
      rw [hu]
      have k2 := fun i => (B.ext F2 (by simp)).cell (i := i)
      unfold loamlaw17_Few_l2
      simp (disch := (first | omega | decide | (simp only [rsD] <;> omega) | fail)) only [↓rsC, rsK, rsL, ↓rsGrp_0, tick_eq, tickV_eq, ne_eq, Int.reduceAdd, Int.reduceSub, Int.reduceMul, Int.reduceEq, Int.reduceLT, Int.reduceLE, Int.reduceToNat, Nat.reduceMul, Nat.reduceAdd, Nat.reduceSub, ←decide_not, k1, k2]
      refine ⟨⟨true, by trivial, fun _ => ⟨by omega, by omega, fun x hx => ?_, fun r hr => ?_⟩⟩, X.trans F2⟩
      · obtain ⟨i, hi, rfl⟩ := List.getElem_of_mem hx
        exact hq i hi hi
      · obtain ⟨i, hi, rfl⟩ := List.getElem_of_mem hr
        exact hq2 i hi hi
end Go.Proofs.Ythhcmoknppljpaa
end
section
set_option linter.unusedVariables false
set_option linter.unusedSimpArgs false
set_option maxHeartbeats 4000000
namespace Go.Proofs.Ythhcmoknppljpaa
open Go.Sh Go.RowKit

/-- a number that is a node's -/
abbrev okNo (n : Nat) (p : Int) : Prop := 1 ≤ p ∧ p ≤ n
inductive Rch (ns : List GN) (fr : List Int) : Int → Prop
  | base {p : Int} : p ∈ fr → okNo ns.length p → Rch ns fr p
  | step {i : Nat} {p : Int} (h : i < ns.length) : Rch ns fr ((i : Int) + 1) → p ∈ ns[i].p → okNo ns.length p → Rch ns fr p
theorem Rch.ok {ns : List GN} {fr : List Int} {p : Int} (h : Rch ns fr p) : okNo ns.length p := by
  cases h with
  | base _ h => exact h
  | step _ _ _ h => exact h
/-- which are reached, as a row -/
structure RchOk (ns : List GN) (fr : List Int) (bs : List Bool) : Prop where
  len : bs.length = ns.length
  iff : ∀ i (h : i < bs.length), bs[i] = true ↔ Rch ns fr ((i : Int) + 1)
/-- what stands while one goes over the nodes -/
structure RchI (ns : List GN) (fr : List Int) (out : List Bool) (l : List Int) : Prop where
  len : out.length = ns.length
  sound : ∀ i, out.getD i false = true → Rch ns fr ((i : Int) + 1)
  stack : ∀ p ∈ l, okNo ns.length p → Rch ns fr p
  base : ∀ p ∈ fr, okNo ns.length p → p ∈ l ∨ out.getD (p.toNat - 1) false = true
  clos : ∀ i (h : i < ns.length), out.getD i false = true → ∀ p ∈ ns[i].p, okNo ns.length p → p ∈ l ∨ out.getD (p.toNat - 1) false = true
def wtR : List GN → List Bool → Nat
  | x :: ns, b :: out => (if b then 0 else x.p.length + 1) + wtR ns out
  | _, _ => 0
theorem wtR_set : ∀ (ns : List GN) (out : List Bool) (i : Nat) (h : i < ns.length) (h' : i < out.length), out[i] = false → wtR ns (out.set i true) + (ns[i].p.length + 1) = wtR ns out
  | [], _, i, h, _, _ => by simp at h
  | _ :: _, [], i, _, h, _ => by simp at h
  | x :: ns, b :: out, 0, _, _, e => by
    simp only [List.getElem_cons_zero] at e
    subst e
    simp [wtR]
    omega
  | x :: ns, b :: out, i + 1, h, h', e => by
    simp only [List.getElem_cons_succ] at e
    have := wtR_set ns out i (by simpa using h) (by simpa using h') e
    simp only [List.set_cons_succ, wtR, List.getElem_cons_succ]
    omega
theorem wtR_le {B : Nat} : ∀ (ns : List GN) (out : List Bool), (∀ x ∈ ns, x.p.length ≤ B) → wtR ns out ≤ ns.length * (B + 1)
  | [], _, _ => by simp [wtR]
  | _ :: _, [], _ => by simp [wtR]
  | x :: ns, b :: out, h => by
    have h1 := wtR_le ns out fun y hy => h y (List.mem_cons_of_mem _ hy)
    have h2 := h x (List.mem_cons_self ..)
    rw [wtR, List.length_cons, Nat.add_mul]
    split <;> omega
section
variable {ns : List GN} {fr : List Int}
theorem rch_init : RchI ns fr (List.replicate ns.length false) fr := by
  have hz : ∀ i, (List.replicate ns.length false).getD i false = false := fun i => by
    rw [List.getD_eq_getElem?_getD, List.getElem?_replicate]
    split <;> rfl
  exact ⟨by simp, fun i h => (by rw [hz] at h; cases h), fun p hp ho => .base hp ho, fun p hp _ => .inl hp, fun i _ h => (by rw [hz] at h; cases h)⟩
theorem rch_done {out : List Bool} (I : RchI ns fr out []) : RchOk ns fr out := by
  refine ⟨I.len, fun i h => ⟨fun e => I.sound i (by rw [List.getD_eq_getElem?_getD, List.getElem?_eq_getElem h]; exact e), fun e => ?_⟩⟩
  have key : ∀ p, Rch ns fr p → out.getD (p.toNat - 1) false = true := by
    intro p hp
    induction hp with
    | base h1 h2 =>
      rcases I.base _ h1 h2 with h | h
      · cases h
      · exact h
    | @step i p hi h1 h2 h3 ih =>
      have e1 : ((i : Int) + 1).toNat - 1 = i := by omega
      rw [e1] at ih
      rcases I.clos i hi ih p h2 h3 with h | h
      · cases h
      · exact h
  have := key _ e
  rw [show ((i : Int) + 1).toNat - 1 = i by omega, List.getD_eq_getElem?_getD, List.getElem?_eq_getElem h] at this
  exact this
/-- a number that is not a node's, or one that is known -/
theorem rch_skip {out : List Bool} {l : List Int} {q : Int} (I : RchI ns fr out (l ++ [q])) (h : okNo ns.length q → out.getD (q.toNat - 1) false = true) : RchI ns fr out l := by
  have key : ∀ p : Int, okNo ns.length p → p ∈ l ++ [q] ∨ out.getD (p.toNat - 1) false = true → p ∈ l ∨ out.getD (p.toNat - 1) false = true := fun p ho hp => by
    rcases hp with hp | hp
    · rcases List.mem_append.1 hp with hp | hp
      · exact .inl hp
      · rw [List.mem_singleton] at hp
        subst hp
        exact .inr (h ho)
    · exact .inr hp
  exact ⟨I.len, I.sound, fun p hp ho => I.stack p (List.mem_append_left _ hp) ho, fun p hp ho => key p ho (I.base p hp ho), fun i hi hb p hp ho => key p ho (I.clos i hi hb p hp ho)⟩
theorem rch_new {out : List Bool} {l : List Int} {q : Int} (I : RchI ns fr out (l ++ [q])) (ho : okNo ns.length q) (hi : q.toNat - 1 < ns.length) : RchI ns fr (out.set (q.toNat - 1) true) (l ++ ns[q.toNat - 1].p) := by
  have hlen := I.len
  have hR : Rch ns fr q := I.stack q (List.mem_append_right _ (List.mem_singleton.2 rfl)) ho
  have hq : ((q.toNat - 1 : Nat) : Int) + 1 = q := by omega
  have hg : ∀ i, (out.set (q.toNat - 1) true).getD i false = if i = q.toNat - 1 then true else out.getD i false := fun i => by
    rw [List.getD_eq_getElem?_getD, List.getElem?_set, List.getD_eq_getElem?_getD]
    by_cases e : q.toNat - 1 = i
    · subst e
      rw [if_pos rfl, if_pos (by omega), if_pos rfl]
      rfl
    · rw [if_neg e, if_neg (fun h => e h.symm)]
  have keep : ∀ p : Int, okNo ns.length p → p ∈ l ++ [q] ∨ out.getD (p.toNat - 1) false = true → p ∈ l ++ ns[q.toNat - 1].p ∨ (out.set (q.toNat - 1) true).getD (p.toNat - 1) false = true := fun p hp h => by
    rw [hg]
    rcases h with h | h
    · rcases List.mem_append.1 h with h | h
      · exact .inl (List.mem_append_left _ h)
      · rw [List.mem_singleton] at h
        subst h
        exact .inr (if_pos rfl)
    · right
      split
      · rfl
      · exact h
  refine ⟨by simpa using hlen, fun i hb => ?_, fun p hp hpo => ?_, fun p hp hpo => keep p hpo (I.base p hp hpo), fun i h hb p hp hpo => ?_⟩
  · rw [hg] at hb
    split at hb
    · rename_i e
      subst e
      rw [hq]; exact hR
    · exact I.sound i hb
  · rcases List.mem_append.1 hp with hp | hp
    · exact I.stack p (List.mem_append_left _ hp) hpo
    · exact .step hi (by rw [hq]; exact hR) hp hpo
  · rw [hg] at hb
    split at hb
    · rename_i e
      subst e
      exact .inl (List.mem_append_right _ hp)
    · exact keep p hpo (I.clos i h hb p hp hpo)
end
end Go.Proofs.Ythhcmoknppljpaa
end
section
set_option linter.unusedVariables false
set_option linter.unusedSimpArgs false
set_option maxHeartbeats 4000000
namespace Go.Proofs.Ythhcmoknppljpaa
open Go.Sh Go.RowKit

abbrev OwnN (w : World) (v : Value) (l : List GN) : Prop := Own w 60 2 v l.length (l.flatMap gnC)
abbrev OwnRt (w : World) (v : Value) (l : List GR) : Prop := Own w 61 2 v l.length (l.flatMap grC)
theorem appN {w : World} {K : K1} {v : Value} {l : List GN} {x : GN} {g : Nat} {cs : List Value} (hO : OwnN w v l) (hcs : cs = gnC x) (hl : l.length ≤ 1000000)
    (hK : ∀ v' w', OwnN w' v' (l ++ [x]) → Stp (blk v) (blk v') w w' → K v' w') (hg : g = w.heap.size := by first | rfl | (simp only [World.size_alloc, World.size_drew, World.size_setCell] <;> omega)) : xBuiltin Try.prog .append #[29, 29] 29 [false, false] [v, .slice (some ⟨g, 0, none⟩) 1 1] (w.alloc (.cells cs.toArray 60)) K := by
  subst hcs hg
  refine xAppL (s := 2) (n := l.length) (m := 1) (xs := l.flatMap gnC) (news := gnC x) (bytes := 48) (z := .agg #[.slice none 0 0, .slice none 0 0]) (by kernel_rfl) (by kernel_rfl) (by rfl) (by decide) hO (by rfl) (by simp [gnC, Value.oneCell']) (by omega) (by omega) fun v' w' h1 h2 => hK v' w' ?_ h2
  show Own w' 60 2 v' (l ++ [x]).length ((l ++ [x]).flatMap gnC)
  rw [List.length_append, List.flatMap_append]
  simpa using h1
theorem appR {w : World} {K : K1} {v : Value} {l : List GR} {x : GR} {g : Nat} {cs : List Value} (hO : OwnRt w v l) (hcs : cs = grC x) (hl : l.length ≤ 1000000)
    (hK : ∀ v' w', OwnRt w' v' (l ++ [x]) → Stp (blk v) (blk v') w w' → K v' w') (hg : g = w.heap.size := by first | rfl | (simp only [World.size_alloc, World.size_drew, World.size_setCell] <;> omega)) : xBuiltin Try.prog .append #[30, 30] 30 [false, false] [v, .slice (some ⟨g, 0, none⟩) 1 1] (w.alloc (.cells cs.toArray 61)) K := by
  subst hcs hg
  refine xAppL (s := 2) (n := l.length) (m := 1) (xs := l.flatMap grC) (news := grC x) (bytes := 24) (z := .agg #[.string ⟨#[]⟩, .int .i64 0]) (by kernel_rfl) (by kernel_rfl) (by rfl) (by decide) hO (by rfl) (by simp [grC, Value.oneCell']) (by omega) (by omega) fun v' w' h1 h2 => hK v' w' ?_ h2
  show Own w' 61 2 v' (l ++ [x]).length ((l ++ [x]).flatMap grC)
  rw [List.length_append, List.flatMap_append]
  simpa using h1
abbrev rsGrp2_0 := (And.intro @xu8_add (And.intro @xu8_lss (And.intro @xu16_add (And.intro @xu16_lss (And.intro @xu32_add (And.intro @xu32_lss (And.intro @xu64_add (And.intro @xu64_lss (And.intro @xi64_lss (And.intro @ld_3 (And.intro @ld_9 (And.intro @ld_22 (And.intro @ld_23 (And.intro @ld_26 (And.intro @ld_29 (And.intro @ld_30 (And.intro @ld_32 (And.intro @ld_51 
  (And.intro @lr_32 (And.intro @fa_25_0 (And.intro @fa_25_1 (And.intro @fa_32_0 (And.intro @fa_32_1 (And.intro @fa_53_0 (And.intro @fa_53_1 (And.intro @fa_58_0 (And.intro @fa_58_1 (And.intro @al_32 (And.intro @st_29 (And.intro @st_30 (And.intro @st_32 (And.intro @bd_32 (And.intro @bd_60_0_1 (And.intro @bd_60_1 (And.intro @bd_61_0_1 (And.intro @ia_22 (And.intro @ia_23 
  (And.intro @ln_22 (And.intro @ln_23 (And.intro @bs_29_1 @bs_30_1))))))))))))))))))))))))))))))))))))))))
theorem Of_spec17 {w : World} {na ra : Option Addr} {nc rc : Nat} {ns : List GN} {rs : List GR} (h : GIs w na nc ra rc ns rs) (hn : ns.length ≤ 100000) (hr : rs.length ≤ 100000) :
    Yld Try.prog n_loamlaw17_Of #[gV na nc ra rc ns rs] w fun u w' => Ext [] w w' ∧ ∃ na' nc' ra' rc', u = gV na' nc' ra' rc' ns rs ∧ GIs w' na' nc' ra' rc' ns rs := by
  refine loamlaw17_Of_of ?_
  unfold loamlaw17_Of
  simp (disch := (first | omega | decide | (simp only [rsD] <;> omega) | fail)) only [↓rsC, rsK, rsL, ↓rsGrp2_0, tick_eq, tickV_eq, ne_eq, Int.reduceAdd, Int.reduceSub, Int.reduceMul, Int.reduceEq, Int.reduceLT, Int.reduceLE, Int.reduceToNat, Nat.reduceMul, Nat.reduceAdd, Nat.reduceSub, ←decide_not, eq_self]
  simp only [World.size_alloc]
  have Bg0 : Blk (w.alloc (.cells #[.slice na ns.length nc, .slice ra rs.length rc] 25)) w.heap.size 25 [.slice na ns.length nc, .slice ra rs.length rc] := Blk.at rfl
  have X0 : Ext [] w (w.alloc (.cells #[.slice na ns.length nc, .slice ra rs.length rc] 25)) := Ext.alloc _ _ _
  have zs1 : (w.alloc (.cells #[.slice na ns.length nc, .slice ra rs.length rc] 25)).heap.size = w.heap.size + 1 := World.size_alloc _ _
  generalize w.alloc (.cells #[.slice na ns.length nc, .slice ra rs.length rc] 25) = y1 at *
  have Bt0 : Blk (y1.alloc (.cells #[.slice none 0 0, .slice none 0 0] 32)) (w.heap.size + 1) 32 [.slice none 0 0, .slice none 0 0] := by
    have := Blk.at (w := y1) (e := 32) (cs := [.slice none 0 0, .slice none 0 0]) rfl
    rw [zs1] at this
    exact this
  have X1 : Ext [] y1 (y1.alloc (.cells #[.slice none 0 0, .slice none 0 0] 32)) := Ext.alloc _ _ _
  have zs2 : (y1.alloc (.cells #[.slice none 0 0, .slice none 0 0] 32)).heap.size = w.heap.size + 1 + 1 := by rw [World.size_alloc, zs1]
  generalize y1.alloc (.cells #[.slice none 0 0, .slice none 0 0] 32) = y2 at *
  have Bx0 : Blk (y2.alloc (.cells #[.slice none 0 0, .slice none 0 0] 32)) (w.heap.size + 1 + 1) 32 [.slice none 0 0, .slice none 0 0] := by
    have := Blk.at (w := y2) (e := 32) (cs := [.slice none 0 0, .slice none 0 0]) rfl
    rw [zs2] at this
    exact this
  have X2 : Ext [] y2 (y2.alloc (.cells #[.slice none 0 0, .slice none 0 0] 32)) := Ext.alloc _ _ _
  have zs3 : (y2.alloc (.cells #[.slice none 0 0, .slice none 0 0] 32)).heap.size = w.heap.size + 1 + 1 + 1 := by rw [World.size_alloc, zs2]
  generalize y2.alloc (.cells #[.slice none 0 0, .slice none 0 0] 32) = y at *
  have Xy : Ext [] w y := X0.trans (X1.trans X2)
  have Bg := (Bg0.ext X1 (by simp)).ext X2 (by simp)
  have Bt := Bt0.ext X2 (by simp)
  generalize hhx : w.heap.size + 1 + 1 = hx at *
  generalize hht : w.heap.size + 1 = ht at *
  have hg := h.ext0 Xy
  have fresh : ∀ {w' : World}, Ext [hx] y w' → Ext [] w w' := fun F => Xy.new F (fun z hz => by simp only [List.mem_singleton] at hz; omega)
  have nilb : ∀ z, z ∉ blk (.slice none 0 0) := by simp [blk, Value.ownBlock]
  refine xLoop_n ns.length (fun j => [i64 (j : Int)]) (fun j w' => Ext [hx] y w' ∧ ∃ v, OwnN w' v (ns.take j) ∧ Blk w' hx 32 [v, .slice none 0 0] ∧ ∀ z ∈ blk v, y.heap.size ≤ z) rfl ⟨Ext.refl _ _, _, Own.nil, Bx0, fun z hz => absurd hz (nilb z)⟩ ?_ ?_
  · rintro j hj u v1 hu ⟨F, v, O, B, U⟩ nxt hnx
    simp only [List.map_cons, List.map_nil, List.cons.injEq, and_true] at hu
    rw [hu]
    have kg := fun i => (Bg.ext F (by simp; omega)).cell (i := i)
    have kgd := fun i => ((Bg.ext F (by simp; omega)).ext (Ext.drew [] v1) (by simp)).cell (i := i)
    have kbd := fun i => (B.ext (Ext.drew [] v1) (by simp)).cell (i := i)
    have hgn := (h.ext0 ((fresh F).trans (Ext.drew [] v1))).nr
    obtain ⟨b1, o1, rfl, z1, c1, c2⟩ := gn_at hgn hj
    have hlen : (ns.take j).length = j := by rw [List.length_take]; omega
    have hsu : ns.take (j + 1) = ns.take j ++ [ns[j]] := by rw [List.take_add_one, List.getElem?_eq_getElem hj]; rfl
    obtain ⟨a0, c0, hv0, _⟩ := O.slice
    unfold loamlaw17_Of_l1
    subst hv0
    have Oa := O.ext0 (Ext.drew [] v1)
    have Ba := B.ext (Ext.drew [] v1) (by simp)
    have kba := fun i => (Ba.ext (Ext.alloc [] _ (.cells (gnC ns[j]).toArray 60)) (by simp)).cell (i := i)
    simp (disch := (first | omega | decide | (simp only [rsD] <;> omega) | fail)) only [↓rsC, rsK, rsL, ↓rsGrp2_0, tick_eq, tickV_eq, ne_eq, Int.reduceAdd, Int.reduceSub, Int.reduceMul, Int.reduceEq, Int.reduceLT, Int.reduceLE, Int.reduceToNat, Nat.reduceMul, Nat.reduceAdd, Nat.reduceSub, ←decide_not, kg, kgd, kbd, c1, c2, kba]
    refine appN Oa rfl (by omega) fun v' w2 O2 T2 => ?_
    have hv := fun hm => U hx hm
    have B2 := Ba.ext T2.ext (fun hm => by have := hv hm; omega)
    obtain ⟨a3, c3, hv3, _⟩ := O2.slice
    have k2 := fun i => B2.cell (i := i)
    have f2 := fun i => B2.frozen (i := i)
    have hxv : hx ∉ blk v' := fun hm => by
      rcases T2.at' hx hm with h1 | h1
      · have := hv h1; omega
      · have := F.size
        simp only [World.size_alloc, World.size_drew] at h1
        omega
    have up2 : ∀ z ∈ blk v', y.heap.size ≤ z := fun z hz => by
      rcases T2.at' z hz with h1 | h1
      · exact U z h1
      · have := F.size
        simp only [World.size_alloc, World.size_drew] at h1
        omega
    have F2 : Ext [hx] y w2 := ((F.trans (Ext.drew _ v1))).cut T2.ext (fun z hz => .inr (U z hz))
    subst hv3
    simp (disch := (first | omega | decide | (simp only [rsD] <;> omega) | fail)) only [↓rsC, rsK, rsL, ↓rsGrp2_0, tick_eq, tickV_eq, ne_eq, Int.reduceAdd, Int.reduceSub, Int.reduceMul, Int.reduceEq, Int.reduceLT, Int.reduceLE, Int.reduceToNat, Nat.reduceMul, Nat.reduceAdd, Nat.reduceSub, ←decide_not, kg, kgd, kbd, c1, c2, kba, k2, f2]
    have B3 := B2.set (i := 0) (v := .slice a3 (ns.take j ++ [ns[j]]).length c3)
    have O3 := O2.ext (Ext.set (w := w2) (b := hx) (o := 0) (v := .slice a3 (ns.take j ++ [ns[j]]).length c3)) (fun z hz hm => by simp only [List.mem_singleton] at hm; subst hm; exact hxv hz)
    rw [← hsu] at O3 B3 up2 ⊢
    exact hnx _ ⟨F2.set' (.inl (by simp)), _, O3, B3, up2⟩
  rintro u v1 hu ⟨F, v, O, B, U⟩ nxt
  simp only [List.map_cons, List.map_nil, List.cons.injEq, and_true] at hu
  rw [hu]
  rw [List.take_length] at O
  have kg := fun i => (Bg.ext F (by simp; omega)).cell (i := i)
  unfold loamlaw17_Of_l1
  simp (disch := (first | omega | decide | (simp only [rsD] <;> omega) | fail)) only [↓rsC, rsK, rsL, ↓rsGrp2_0, tick_eq, tickV_eq, ne_eq, Int.reduceAdd, Int.reduceSub, Int.reduceMul, Int.reduceEq, Int.reduceLT, Int.reduceLE, Int.reduceToNat, Nat.reduceMul, Nat.reduceAdd, Nat.reduceSub, ←decide_not, kg]
  refine xLoop_n rs.length (fun j => [i64 (j : Int)]) (fun j w' => Ext [hx] y w' ∧ OwnN w' v ns ∧ ∃ v2, OwnRt w' v2 (rs.take j) ∧ Blk w' hx 32 [v, v2] ∧ (∀ z ∈ blk v2, y.heap.size ≤ z) ∧ ∀ z ∈ blk v2, z ∉ blk v) rfl ⟨F, O, _, Own.nil, B, fun z hz => absurd hz (nilb z), fun z hz => absurd hz (nilb z)⟩ ?_ ?_
  · rintro j hj u v3 hu ⟨F3, O3, v2, R3, B3, U3, D3⟩ nxt hnx
    simp only [List.map_cons, List.map_nil, List.cons.injEq, and_true] at hu
    rw [hu]
    have kg3 := fun i => (Bg.ext F3 (by simp; omega)).cell (i := i)
    have kgd := fun i => ((Bg.ext F3 (by simp; omega)).ext (Ext.drew [] v3) (by simp)).cell (i := i)
    have hgr := (h.ext0 ((fresh F3).trans (Ext.drew [] v3))).rr
    obtain ⟨b1, o1, rfl, z1, c1, c2⟩ := gr_at hgr hj
    have hlen : (rs.take j).length = j := by rw [List.length_take]; omega
    have hsu : rs.take (j + 1) = rs.take j ++ [rs[j]] := by rw [List.take_add_one, List.getElem?_eq_getElem hj]; rfl
    obtain ⟨a0, c0, hv0, _⟩ := R3.slice
    unfold loamlaw17_Of_l2
    subst hv0
    have Ra := R3.ext0 (Ext.drew [] v3)
    have Ba := B3.ext (Ext.drew [] v3) (by simp)
    have kbd := fun i => Ba.cell (i := i)
    have kba := fun i => (Ba.ext (Ext.alloc [] _ (.cells (grC rs[j]).toArray 61)) (by simp)).cell (i := i)
    simp (disch := (first | omega | decide | (simp only [rsD] <;> omega) | fail)) only [↓rsC, rsK, rsL, ↓rsGrp2_0, tick_eq, tickV_eq, ne_eq, Int.reduceAdd, Int.reduceSub, Int.reduceMul, Int.reduceEq, Int.reduceLT, Int.reduceLE, Int.reduceToNat, Nat.reduceMul, Nat.reduceAdd, Nat.reduceSub, ←decide_not, kg, kg3, kgd, kbd, c1, c2, kba]
    refine appR Ra rfl (by omega) fun v' w2 O2 T2 => ?_
    have hv := fun hm => U3 hx hm
    have B2 := Ba.ext T2.ext (fun hm => by have := hv hm; omega)
    have N2 := (O3.ext0 (Ext.drew [] v3)).ext T2.ext (fun z hz hm => D3 z hm hz)
    obtain ⟨a3, c3, hv3, _⟩ := O2.slice
    have k2 := fun i => B2.cell (i := i)
    have f2 := fun i => B2.frozen (i := i)
    have zF := F3.size
    have hxv : hx ∉ blk v' := fun hm => by
      rcases T2.at' hx hm with h1 | h1
      · have := hv h1; omega
      · simp only [World.size_alloc, World.size_drew] at h1
        omega
    have up2 : ∀ z ∈ blk v', y.heap.size ≤ z := fun z hz => by
      rcases T2.at' z hz with h1 | h1
      · exact U3 z h1
      · simp only [World.size_alloc, World.size_drew] at h1
        omega
    have dd : ∀ z ∈ blk v', z ∉ blk v := fun z hz hm => by
      rcases T2.at' z hz with h1 | h1
      · exact D3 z h1 hm
      · have := O3.lt z hm
        simp only [World.size_alloc, World.size_drew] at h1
        omega
    have hxn : hx ∉ blk v := fun hm => by have := U hx hm; omega
    have F2 : Ext [hx] y w2 := ((F3.trans (Ext.drew _ v3))).cut T2.ext (fun z hz => .inr (U3 z hz))
    subst hv3
    simp (disch := (first | omega | decide | (simp only [rsD] <;> omega) | fail)) only [↓rsC, rsK, rsL, ↓rsGrp2_0, tick_eq, tickV_eq, ne_eq, Int.reduceAdd, Int.reduceSub, Int.reduceMul, Int.reduceEq, Int.reduceLT, Int.reduceLE, Int.reduceToNat, Nat.reduceMul, Nat.reduceAdd, Nat.reduceSub, ←decide_not, kg, kg3, kgd, kbd, c1, c2, kba, k2, f2]
    have B4 := B2.set (i := 1) (v := .slice a3 (rs.take j ++ [rs[j]]).length c3)
    have Xs : Ext [hx] w2 (w2.setCell ⟨hx, 1, none⟩ (.slice a3 (rs.take j ++ [rs[j]]).length c3)) := Ext.set (w := w2) (b := hx)
    have O4 := O2.ext Xs (fun z hz hm => by simp only [List.mem_singleton] at hm; subst hm; exact hxv hz)
    have N4 := N2.ext Xs (fun z hz hm => by simp only [List.mem_singleton] at hm; subst hm; exact hxn hz)
    rw [← hsu] at O4 B4 N4 up2 dd ⊢
    exact hnx _ ⟨F2.set' (.inl (by simp)), N4, _, O4, B4, up2, dd⟩
  · rintro u v3 hu ⟨F3, O3, v2, R3, B3, U3, D3⟩ nxt
    simp only [List.map_cons, List.map_nil, List.cons.injEq, and_true] at hu
    rw [hu]
    rw [List.take_length] at R3
    have kg3 := fun i => (Bg.ext F3 (by simp; omega)).cell (i := i)
    have kb3 := fun i => B3.cell (i := i)
    have Bt3 := Bt.ext F3 (by simp; omega)
    have kt3 := fun i => Bt3.cell (i := i)
    have ft3 := fun i => Bt3.frozen (i := i)
    obtain ⟨a4, c4, rfl, hc4, _, hn4, hr4, _⟩ := O3.slice
    obtain ⟨a5, c5, rfl, hc5, _, hn5, hr5, _⟩ := R3.slice
    have X4 := fresh F3
    have hok := fun x hx => (h.ok x hx).ext0 X4
    have blt := fun (z : Nat) (hz : z ∈ blk (.slice a4 ns.length c4)) => U z hz
    have blt2 := fun (z : Nat) (hz : z ∈ blk (.slice a5 rs.length c5)) => U3 z hz
    unfold loamlaw17_Of_l2
    simp (disch := (first | omega | decide | (simp only [rsD] <;> omega) | fail)) only [↓rsC, rsK, rsL, ↓rsGrp2_0, tick_eq, tickV_eq, ne_eq, Int.reduceAdd, Int.reduceSub, Int.reduceMul, Int.reduceEq, Int.reduceLT, Int.reduceLE, Int.reduceToNat, Nat.reduceMul, Nat.reduceAdd, Nat.reduceSub, ←decide_not, kg, kg3, kb3, kt3, ft3]
    have Xs : Ext [ht] v3 ((v3.setCell ⟨ht, 0, none⟩ (.slice a4 ns.length c4)).setCell ⟨ht, 1, none⟩ (.slice a5 rs.length c5)) := (Ext.set (w := v3) (b := ht)).trans Ext.set
    have hX : Ext [] w ((v3.setCell ⟨ht, 0, none⟩ (.slice a4 ns.length c4)).setCell ⟨ht, 1, none⟩ (.slice a5 rs.length c5)) := X4.new Xs (fun z hz => by simp only [List.mem_singleton] at hz; omega)
    refine ⟨hX, a4, c4, a5, c5, by trivial, ⟨hr4.ext Xs (fun z o hz hm => ?_), hc4, hn4, hr5.ext Xs (fun z o hz hm => ?_), hc5, hn5, fun x hx => (h.ok x hx).ext0 hX⟩⟩
    · have := blt z (by subst hz; simp [blk, Value.ownBlock])
      simp only [List.mem_singleton] at hm
      omega
    · have := blt2 z (by subst hz; simp [blk, Value.ownBlock])
      simp only [List.mem_singleton] at hm
      omega
end Go.Proofs.Ythhcmoknppljpaa
end
section
set_option linter.unusedVariables false
set_option linter.unusedSimpArgs false
set_option maxHeartbeats 4000000
namespace Go.Proofs.Ythhcmoknppljpaa
open Go.Sh Go.RowKit

section
variable {w : World} {base s g : Nat} {a : Option Addr} {c : Nat} {ws : List (BitVec 64)} {b t e : Nat}
def mayP (b t e n : Int) : Prop := 0 ≤ b ∧ b ≤ t ∧ t ≤ e ∧ e ≤ n
instance (b t e n : Int) : Decidable (mayP b t e n) := by unfold mayP; infer_instance
/-! a place's header -/
end
end Go.Proofs.Ythhcmoknppljpaa
end
section
set_option linter.unusedVariables false
set_option linter.unusedSimpArgs false
set_option maxHeartbeats 4000000
namespace Go.Proofs.Ythhcmoknppljpaa
open Go.Sh Go.RowKit

abbrev rsSpc2_0 := (And.intro @ln_26 (And.intro @sh_26 @sm_26))
theorem ClipI_spec {w : World} {b : Option Addr} {n m : Nat} (hm : n ≤ m) : Gives Try.prog n_slices_Clip_int_int #[.slice b n m] w (.slice b n n) := by
  refine slices_Clip_int_int_of ?_
  unfold slices_Clip_int_int
  simp (disch := (first | omega | decide | (simp only [rsD] <;> omega) | fail)) only [↓rsC, rsK, rsL, ↓rsSpc2_0, tick_eq, tickV_eq, ne_eq, Int.reduceAdd, Int.reduceSub, Int.reduceMul, Int.reduceEq, Int.reduceLT, Int.reduceLE, Int.reduceToNat, Nat.reduceMul, Nat.reduceAdd, Nat.reduceSub, ←decide_not, eq_self]
  exact ⟨by trivial, by (repeat (first | with_reducible exact Ext.refl _ _ | with_reducible assumption | with_reducible refine Ext.alloc' ?_ _ | with_reducible refine Ext.drew' ?_ | with_reducible refine Ext.set' ?_ ?_ | exact .inr (by first | omega | (simp only [World.size_alloc, World.size_drew, World.size_setCell] <;> omega)) | refine Ext.trans ?_ (by with_reducible assumption)))⟩
section
end
end Go.Proofs.Ythhcmoknppljpaa
end
section
set_option linter.unusedVariables false
set_option linter.unusedSimpArgs false
set_option maxHeartbeats 4000000
namespace Go.Proofs.Ythhcmoknppljpaa
open Go.Sh Go.RowKit

section
end
end Go.Proofs.Ythhcmoknppljpaa
end
section
set_option linter.unusedVariables false
set_option linter.unusedSimpArgs false
set_option maxHeartbeats 4000000
namespace Go.Proofs.Ythhcmoknppljpaa
open Go.Sh Go.RowKit

theorem geS {cx cy : Bool} (a b : ByteArray) (w : World) (K : K1) : xBin Try.prog .geq 9 cx (.string a) cy (.string b) w K = K (.bool (!Op.bytesLess a.toList b.toList)) w := xBin_ok (by simp [eqGuard, binOp, Op.stringOp])
theorem ixS (l : List (BitVec 8)) {j : Nat} (hj : j < l.length) (w : World) (K : K1) : xIndex Try.prog 9 (.string (strOf l)) (i64 (j : Int)) w K = K (u8 l[j]) w := by
  refine xIndex_ok ?_
  have h := run_index_string (P := Try.prog) (w := w) 9 (strOf l) .i64 (j : Int) (by kernel_rfl)
  have hs := strOf_size (l := l)
  rw [h, dif_pos ⟨by omega, by omega⟩]
  have e : (strOf l)[((j : Int)).toNat]'(by omega) = UInt8.ofBitVec l[j] := by
    simp [strOf, ByteArray.getElem_eq_getElem_data]
  exact congrArg (fun z : UInt8 => Result.ok (Value.int .u8 (z.toNat : Int)) w) e
structure GoodG (ns : List GN) (rs : List GR) : Prop where
  x : ∀ x ∈ ns, (∀ p ∈ x.p, 0 ≤ p ∧ p ≤ ns.length) ∧ x.p.length ≤ 64 ∧ x.d.length ≤ 1024
  r : rs.length ≤ 64
  s : ∀ r ∈ rs, (1 ≤ r.s.length ∧ r.s.length ≤ 32 ∧ ∀ c ∈ r.s, c ≠ BitVec.ofNat 8 0) ∧ 0 ≤ r.to ∧ r.to ≤ ns.length
  o : ∀ i (h : i + 1 < rs.length), Op.bytesLess (strOf rs[i].s).toList (strOf rs[i + 1].s).toList = true
theorem its_at {w : World} {l : List Int} {a : Option Addr} {k : Nat} (h : RowAt w a (its l)) (hk : k < l.length) : ∃ b o, a = some ⟨b, o, none⟩ ∧ b < w.heap.size ∧ w.cell? ⟨b, o + k, none⟩ = some (i64 l[k]) := by
  obtain ⟨b, o, h1, h2, h3⟩ := h.at (i := k) (by simpa using hk)
  simp only [List.getElem_map] at h3
  exact ⟨b, o, h1, h2, h3⟩
/-- a node's words -/
def gsz (x : GN) : Nat := 1 + x.p.length + (x.d.length + 7) / 8
end Go.Proofs.Ythhcmoknppljpaa
end
section
set_option linter.unusedVariables false
set_option linter.unusedSimpArgs false
set_option maxHeartbeats 4000000
namespace Go.Proofs.Ythhcmoknppljpaa
open Go.Sh Go.RowKit

section
end
end Go.Proofs.Ythhcmoknppljpaa
end
section
set_option linter.unusedVariables false
set_option linter.unusedSimpArgs false
set_option maxHeartbeats 4000000
namespace Go.Proofs.Ythhcmoknppljpaa
open Go.Sh Go.RowKit

theorem RowAt.apart {w0 w w' : World} {a : Option Addr} {cs : List Value} {M : List Nat} (h : RowAt w0 a cs) (h0 : Ext [] w0 w) (hx : Ext M w w') (hm : ∀ g ∈ M, w0.heap.size ≤ g) : RowAt w' a cs := by
  by_cases hc : cs = []
  · rw [hc]; exact RowAt.nil
  · obtain ⟨b, o, rfl, hb, _⟩ := h.get hc
    refine (h.ext0 h0).ext hx fun b' o' e hmem => ?_
    cases e
    have := hm b hmem
    omega
section
end
end Go.Proofs.Ythhcmoknppljpaa
end
section
set_option linter.unusedVariables false
set_option linter.unusedSimpArgs false
set_option maxHeartbeats 4000000
namespace Go.Proofs.Ythhcmoknppljpaa
open Go.Sh Go.RowKit Go.ChangeShapes Go.WideShapes Go.ChangeAt

end Go.Proofs.Ythhcmoknppljpaa
end
section
set_option linter.unusedVariables false
set_option linter.unusedSimpArgs false
set_option maxHeartbeats 4000000
namespace Go.Proofs.Ythhcmoknppljpaa
open Go.Sh Go.RowKit

abbrev z8 : BitVec 8 := BitVec.ofNat 8 0
def cutN (l : List (BitVec 8)) : List (BitVec 8) := l.takeWhile fun c => decide (c ≠ z8)
def idxN (l : List (BitVec 8)) : Int := if z8 ∈ l then ((cutN l).length : Int) else -1
theorem cutN_le (l : List (BitVec 8)) : (cutN l).length ≤ l.length := (List.takeWhile_prefix _).length_le
theorem idx_lib : ∀ l : List (BitVec 8), Lib.indexByte (l.map UInt8.ofBitVec) 0 = idxN l
  | [] => rfl
  | c :: l => by
    have ih := idx_lib l
    rw [List.map_cons, Lib.indexByte]
    by_cases hc : c = z8
    · subst hc
      rw [if_pos (by decide)]
      unfold idxN cutN
      simp
    · rw [if_neg (by
        intro h
        have h2 : UInt8.ofBitVec c = 0 := eq_of_beq h
        exact hc (congrArg UInt8.toBitVec h2)), ih]
      have hcut : cutN (c :: l) = c :: cutN l := by
        unfold cutN
        rw [List.takeWhile_cons, if_pos (decide_eq_true hc)]
      unfold idxN
      by_cases hm : z8 ∈ l
      · rw [if_pos hm, if_pos (List.mem_cons_of_mem _ hm), hcut, if_neg (by
          intro h
          have h2 : ((cutN l).length : Int) = -1 := eq_of_beq h
          omega)]
        simp
      · have h3 : z8 ∉ c :: l := by
          rintro h
          rcases List.mem_cons.1 h with h | h
          · exact hc h.symm
          · exact hm h
        rw [if_neg hm, if_neg h3]
        rfl
theorem idxN_lt (l : List (BitVec 8)) : idxN l ≤ l.length := by
  have := cutN_le l
  unfold idxN
  split <;> omega
theorem call_ix (l : List (BitVec 8)) {w : World} {K : K1} (h : K (i64 (idxN l)) w) : xCall Try.prog (fnv n_internal_bytealg_IndexByteString) [.string (strOf l), c8 0] w K := by
  refine ⟨?_⟩
  have hr := run_callFunc_extern (P := Try.prog) (f := n_internal_bytealg_IndexByteString) (fn := ((Try.prog).funcs[n_internal_bytealg_IndexByteString]?).get (by kernel_rfl)) (by kernel_rfl) (by kernel_rfl) (by kernel_rfl) (by kernel_rfl) (e := Extern.BytealgIndexByte.indexByte) (by kernel_rfl) #[.string (strOf l), c8 0] w
  have hx := Lib.run_indexByteString (P := Try.prog) (strOf l) 0 w
  have e : Lib.indexByte (strOf l).data.toList ((0 : Int).toNat.toUInt8) = idxN l := by
    rw [← idx_lib]
    simp [strOf]
  rw [e] at hx
  have : ((do let d ← Deferred.ofValue (fnv n_internal_bytealg_IndexByteString) #[.string (strOf l), c8 0]; invoke d.target d.args : Sem Next)).run Try.prog w = .ok (.value (i64 (idxN l))) w := by
    have h3 : ((do let d ← Deferred.ofValue (fnv n_internal_bytealg_IndexByteString) #[.string (strOf l), c8 0]; invoke d.target d.args : Sem Next)).run Try.prog w = (callFunc n_internal_bytealg_IndexByteString #[.string (strOf l), c8 0]).run Try.prog w := by
      simp [Deferred.ofValue, invoke, Sem.run]
    rw [h3, hr]
    have hx2 : (Extern.BytealgIndexByte.indexByte #[.string (strOf l), c8 0]).run Try.prog w = .ok (i64 (idxN l)) w := hx
    rw [hx2]
    rfl
  show okN Try.prog _ K
  rw [show ([.string (strOf l), c8 0] : List Value).toArray = #[.string (strOf l), c8 0] from rfl, this]
  exact h
theorem byIx_spec (l : List (BitVec 8)) (w : World) : Gives Try.prog n_internal_stringslite_IndexByte #[.string (strOf l), c8 0] w (i64 (idxN l)) := by
  refine internal_stringslite_IndexByte_of ?_
  unfold internal_stringslite_IndexByte
  refine call_ix l ?_
  simp (disch := (first | omega | decide | (simp only [rsD] <;> omega) | fail)) only [↓rsC, rsK, rsL, tick_eq, tickV_eq, ne_eq, Int.reduceAdd, Int.reduceSub, Int.reduceMul, Int.reduceEq, Int.reduceLT, Int.reduceLE, Int.reduceToNat, Nat.reduceMul, Nat.reduceAdd, Nat.reduceSub, ←decide_not, eq_self]
  exact ⟨by trivial, by (repeat (first | with_reducible exact Ext.refl _ _ | with_reducible assumption | with_reducible refine Ext.alloc' ?_ _ | with_reducible refine Ext.drew' ?_ | with_reducible refine Ext.set' ?_ ?_ | exact .inr (by first | omega | (simp only [World.size_alloc, World.size_drew, World.size_setCell] <;> omega)) | refine Ext.trans ?_ (by with_reducible assumption)))⟩
theorem strZ : ({ data := #[0] } : ByteArray) = strOf [z8] := by decide +kernel
abbrev rsNm_0 := (And.intro @xu8_add (And.intro @xu8_sub (And.intro @xu8_eql (And.intro @xu8_leq (And.intro @xu8_geq (And.intro @xu16_add (And.intro @xu16_sub (And.intro @xu16_eql (And.intro @xu16_leq (And.intro @xu16_geq (And.intro @xu32_add (And.intro @xu32_sub (And.intro @xu32_eql (And.intro @xu32_leq (And.intro @xu32_geq (And.intro @xu64_add 
  (And.intro @xu64_sub (And.intro @xu64_eql (And.intro @xu64_leq (And.intro @xu64_geq (And.intro @xi64_leq (And.intro @xi64_geq (And.intro @xi64_eql (And.intro @ld_3 @ln_9))))))))))))))))))))))))
theorem sIndex_spec (l : List (BitVec 8)) (w : World) : Gives Try.prog n_internal_stringslite_Index #[.string (strOf l), .string ⟨#[0]⟩] w (i64 (idxN l)) := by
  have hi := idxN_lt l
  have h1 : (strOf [z8]).size = 1 := by decide +kernel
  have hix := fun (w : World) (K : K1) => ixS [z8] (j := 0) (by decide) w K
  have hix2 : ∀ (w : World) (K : K1), xIndex Try.prog 9 (.string (strOf [z8])) (.int .i64 0) w K = K (c8 0) w := hix
  rw [strZ]
  refine internal_stringslite_Index_of ?_
  unfold internal_stringslite_Index
  by_cases hl : strOf [z8] = strOf l
  · have : l = [z8] := (strOf_inj.1 hl).symm
    subst this
    have e : idxN [z8] = 0 := by decide +kernel
    rw [e]
    simp (disch := (first | omega | decide | (simp only [rsD] <;> omega) | fail)) only [↓rsC, rsK, rsL, ↓rsNm_0, tick_eq, tickV_eq, ne_eq, Int.reduceAdd, Int.reduceSub, Int.reduceMul, Int.reduceEq, Int.reduceLT, Int.reduceLE, Int.reduceToNat, Nat.reduceMul, Nat.reduceAdd, Nat.reduceSub, ←decide_not, h1]
    exact ⟨by trivial, by (repeat (first | with_reducible exact Ext.refl _ _ | with_reducible assumption | with_reducible refine Ext.alloc' ?_ _ | with_reducible refine Ext.drew' ?_ | with_reducible refine Ext.set' ?_ ?_ | exact .inr (by first | omega | (simp only [World.size_alloc, World.size_drew, World.size_setCell] <;> omega)) | refine Ext.trans ?_ (by with_reducible assumption)))⟩
  · simp (disch := (first | omega | decide | (simp only [rsD] <;> omega) | fail)) only [↓rsC, rsK, rsL, ↓rsNm_0, tick_eq, tickV_eq, ne_eq, Int.reduceAdd, Int.reduceSub, Int.reduceMul, Int.reduceEq, Int.reduceLT, Int.reduceLE, Int.reduceToNat, Nat.reduceMul, Nat.reduceAdd, Nat.reduceSub, ←decide_not, h1, decide_eq_false hl, hix2]
    refine internal_stringslite_IndexByte_call (Gives.to (byIx_spec l w) fun w1 F1 => ?_)
    simp (disch := (first | omega | decide | (simp only [rsD] <;> omega) | fail)) only [↓rsC, rsK, rsL, ↓rsNm_0, tick_eq, tickV_eq, ne_eq, Int.reduceAdd, Int.reduceSub, Int.reduceMul, Int.reduceEq, Int.reduceLT, Int.reduceLE, Int.reduceToNat, Nat.reduceMul, Nat.reduceAdd, Nat.reduceSub, ←decide_not, h1, decide_eq_false hl, hix2]
    exact ⟨by trivial, F1⟩
theorem Index_spec (l : List (BitVec 8)) (w : World) : Gives Try.prog n_strings_Index #[.string (strOf l), .string ⟨#[0]⟩] w (i64 (idxN l)) := by
  refine strings_Index_of ?_
  unfold strings_Index
  refine internal_stringslite_Index_call (Gives.to (sIndex_spec l w) fun w1 F1 => ?_)
  simp (disch := (first | omega | decide | (simp only [rsD] <;> omega) | fail)) only [↓rsC, rsK, rsL, tick_eq, tickV_eq, ne_eq, Int.reduceAdd, Int.reduceSub, Int.reduceMul, Int.reduceEq, Int.reduceLT, Int.reduceLE, Int.reduceToNat, Nat.reduceMul, Nat.reduceAdd, Nat.reduceSub, ←decide_not, eq_self]
  exact ⟨by trivial, F1⟩
abbrev rsNm_1 := (And.intro @xu8_geq (And.intro @xu16_geq (And.intro @xu32_geq (And.intro @xu64_geq @xi64_geq))))
theorem Contains_spec (l : List (BitVec 8)) (w : World) : Gives Try.prog n_strings_Contains #[.string (strOf l), .string ⟨#[0]⟩] w (.bool (decide (z8 ∈ l))) := by
  refine strings_Contains_of ?_
  unfold strings_Contains
  refine strings_Index_call (Gives.to (Index_spec l w) fun w1 F1 => ?_)
  by_cases h : z8 ∈ l
  · have e : 0 ≤ idxN l := by unfold idxN; rw [if_pos h]; omega
    simp (disch := (first | omega | decide | (simp only [rsD] <;> omega) | fail)) only [↓rsC, rsK, rsL, ↓rsNm_1, tick_eq, tickV_eq, ne_eq, Int.reduceAdd, Int.reduceSub, Int.reduceMul, Int.reduceEq, Int.reduceLT, Int.reduceLE, Int.reduceToNat, Nat.reduceMul, Nat.reduceAdd, Nat.reduceSub, ←decide_not, eq_self]
    exact ⟨by rw [decide_eq_true h], F1⟩
  · have e : ¬ 0 ≤ idxN l := by unfold idxN; rw [if_neg h]; decide
    simp (disch := (first | omega | decide | (simp only [rsD] <;> omega) | fail)) only [↓rsC, rsK, rsL, ↓rsNm_1, tick_eq, tickV_eq, ne_eq, Int.reduceAdd, Int.reduceSub, Int.reduceMul, Int.reduceEq, Int.reduceLT, Int.reduceLE, Int.reduceToNat, Nat.reduceMul, Nat.reduceAdd, Nat.reduceSub, ←decide_not, eq_self]
    exact ⟨by rw [decide_eq_false h], F1⟩
def nmOk (l : List (BitVec 8)) : Prop := 1 ≤ l.length ∧ l.length ≤ 32 ∧ z8 ∉ l
instance (l : List (BitVec 8)) : Decidable (nmOk l) := by unfold nmOk; infer_instance
def fixN (l : List (BitVec 8)) : List (BitVec 8) := if nmOk l then l ++ List.replicate (32 - l.length) z8 else List.replicate 32 z8
end Go.Proofs.Ythhcmoknppljpaa
end
section
set_option linter.unusedVariables false
set_option linter.unusedSimpArgs false
set_option maxHeartbeats 4000000
namespace Go.Proofs.Ythhcmoknppljpaa
open Go.Sh Go.RowKit

/-- a graph that is not too big to be looked at -/
structure FewH (ns : List GN) (rs : List GR) : Prop where
  n : ns.length ≤ 9000
  r : rs.length ≤ 9000
  x : ∀ x ∈ ns, x.p.length ≤ 9000 ∧ x.d.length ≤ 9000
theorem FewG.h {ns : List GN} {rs : List GR} (h : FewG ns rs) : FewH ns rs := ⟨by have := h.n; omega, by have := h.r; omega, fun x hx => by have := h.x x hx; omega⟩
def firstE : List Int → Int
  | [] => 0
  | e :: l => if e = 0 then firstE l else e
theorem firstE_app {l m : List Int} (h : ∀ e ∈ l, e = 0) : firstE (l ++ m) = firstE m := by
  induction l with
  | nil => rfl
  | cons e l ih =>
    rw [List.cons_append, firstE, if_pos (h e (by simp))]
    exact ih fun x hx => h x (by simp [hx])
theorem firstE_at {l : List Int} {j : Nat} {e : Int} (hj : l[j]? = some e) (hq : ∀ i x, i < j → l[i]? = some x → x = 0) (he : e ≠ 0) : firstE l = e := by
  induction l generalizing j with
  | nil => simp at hj
  | cons x l ih =>
    cases j with
    | zero =>
      simp only [List.getElem?_cons_zero, Option.some.injEq] at hj
      subst hj
      rw [firstE, if_neg he]
    | succ j =>
      rw [firstE, if_pos (hq 0 x (by omega) rfl)]
      exact ih hj fun i y hi hy => hq (i + 1) y (by omega) hy
theorem firstE_zero {l : List Int} : firstE l = 0 ↔ ∀ e ∈ l, e = 0 := by
  induction l with
  | nil => simp [firstE]
  | cons e l ih =>
    rw [firstE]
    by_cases h : e = 0
    · rw [if_pos h, ih]
      simp [h]
    · rw [if_neg h]
      simp [h]
def ndE (n : Nat) (x : GN) : Int := if ∀ p ∈ x.p, 0 ≤ p ∧ p ≤ n then (if x.p.length ≤ 64 ∧ x.d.length ≤ 1024 then 0 else 3) else 1
def prevL (rs : List GR) (i : Nat) : Bool := match rs[i - 1]?, rs[i]? with
  | some a, some b => Op.bytesLess (strOf a.s).toList (strOf b.s).toList
  | _, _ => false
def rtE (n : Nat) (rs : List GR) (i : Nat) : Int := match rs[i]? with
  | none => 0
  | some r => if nmOk r.s ∧ (i = 0 ∨ prevL rs i = true) then (if 0 ≤ r.to ∧ r.to ≤ n then 0 else 1) else 4
def chkV (ns : List GN) (rs : List GR) : Int := firstE (ns.map (ndE ns.length) ++ ((if rs.length ≤ 64 then (0 : Int) else 3) :: (List.range rs.length).map (rtE ns.length rs)))
theorem prevL_get {rs : List GR} {i : Nat} (h0 : i ≠ 0) (hi : i < rs.length) : prevL rs i = Op.bytesLess (strOf (rs[i - 1]'(by omega)).s).toList (strOf rs[i].s).toList := by
  unfold prevL
  rw [List.getElem?_eq_getElem hi, List.getElem?_eq_getElem (show i - 1 < rs.length by omega)]
theorem rtE_get {n : Nat} {rs : List GR} {i : Nat} (hi : i < rs.length) : rtE n rs i = if nmOk rs[i].s ∧ (i = 0 ∨ prevL rs i = true) then (if 0 ≤ rs[i].to ∧ rs[i].to ≤ n then 0 else 1) else 4 := by
  unfold rtE
  rw [List.getElem?_eq_getElem hi]
section
variable {ns : List GN} {rs : List GR}
theorem chk_node {j : Nat} {e : Int} (hj : j < ns.length) (hq : ∀ i (hi : i < ns.length), i < j → ndE ns.length ns[i] = 0) (he : ndE ns.length ns[j] = e) (hne : e ≠ 0) : chkV ns rs = e := by
  unfold chkV
  refine firstE_at (j := j) ?_ (fun i x hi hx => ?_) hne
  · rw [List.getElem?_append_left (by simpa using hj), List.getElem?_map, List.getElem?_eq_getElem hj, Option.map_some, he]
  · rw [List.getElem?_append_left (by rw [List.length_map]; omega), List.getElem?_map, List.getElem?_eq_getElem (by omega)] at hx
    simp only [Option.map_some, Option.some.injEq] at hx
    rw [← hx]
    exact hq i (by omega) hi
theorem chk_nodes (hq : ∀ i (hi : i < ns.length), ndE ns.length ns[i] = 0) : chkV ns rs = firstE ((if rs.length ≤ 64 then (0 : Int) else 3) :: (List.range rs.length).map (rtE ns.length rs)) := by
  unfold chkV
  refine firstE_app fun e he => ?_
  obtain ⟨x, hx, rfl⟩ := List.mem_map.1 he
  obtain ⟨i, hi, rfl⟩ := List.getElem_of_mem hx
  exact hq i hi
theorem chk_len (hq : ∀ i (hi : i < ns.length), ndE ns.length ns[i] = 0) (h : 64 < rs.length) : chkV ns rs = 3 := by
  rw [chk_nodes hq, if_neg (by omega), firstE, if_neg (by decide)]
theorem chk_root {j : Nat} {e : Int} (hq : ∀ i (hi : i < ns.length), ndE ns.length ns[i] = 0) (h : ¬ 64 < rs.length) (hr : ∀ i, i < j → rtE ns.length rs i = 0) (hj : j < rs.length) (he : rtE ns.length rs j = e) (hne : e ≠ 0) : chkV ns rs = e := by
  rw [chk_nodes hq, if_pos (by omega), firstE, if_pos rfl]
  refine firstE_at (j := j) ?_ (fun i x hi hx => ?_) hne
  · rw [List.getElem?_map, List.getElem?_range hj, Option.map_some, he]
  · rw [List.getElem?_map, List.getElem?_range (by omega)] at hx
    simp only [Option.map_some, Option.some.injEq] at hx
    rw [← hx]
    exact hr i hi
theorem chk_ok (hq : ∀ i (hi : i < ns.length), ndE ns.length ns[i] = 0) (h : ¬ 64 < rs.length) (hr : ∀ i, i < rs.length → rtE ns.length rs i = 0) : chkV ns rs = 0 := by
  rw [chk_nodes hq, if_pos (by omega), firstE, if_pos rfl, firstE_zero]
  intro e he
  obtain ⟨i, hi, rfl⟩ := List.mem_map.1 he
  exact hr i (List.mem_range.1 hi)
theorem ndE_zero {n : Nat} {x : GN} : ndE n x = 0 ↔ (∀ p ∈ x.p, 0 ≤ p ∧ p ≤ n) ∧ x.p.length ≤ 64 ∧ x.d.length ≤ 1024 := by
  unfold ndE
  by_cases h1 : ∀ p ∈ x.p, 0 ≤ p ∧ p ≤ n
  · rw [if_pos h1]
    by_cases h2 : x.p.length ≤ 64 ∧ x.d.length ≤ 1024
    · rw [if_pos h2]; exact ⟨fun _ => ⟨h1, h2⟩, fun _ => rfl⟩
    · rw [if_neg h2]; exact ⟨fun h => by omega, fun h => absurd h.2 h2⟩
  · rw [if_neg h1]; exact ⟨fun h => by omega, fun h => absurd h.1 h1⟩
theorem nmOk_iff {s : List (BitVec 8)} : nmOk s ↔ 1 ≤ s.length ∧ s.length ≤ 32 ∧ ∀ c ∈ s, c ≠ BitVec.ofNat 8 0 := by
  unfold nmOk
  constructor
  · rintro ⟨h1, h2, h3⟩; exact ⟨h1, h2, fun c hc e => h3 (by rw [← (show c = z8 from e)]; exact hc)⟩
  · rintro ⟨h1, h2, h3⟩; exact ⟨h1, h2, fun h => h3 _ h rfl⟩
theorem chk_zero : chkV ns rs = 0 ↔ GoodG ns rs := by
  constructor
  · intro h
    unfold chkV at h
    rw [firstE_zero] at h
    have h1 : ∀ x ∈ ns, ndE ns.length x = 0 := fun x hx => h _ (List.mem_append_left _ (List.mem_map.2 ⟨x, hx, rfl⟩))
    have h2 : (if rs.length ≤ 64 then (0 : Int) else 3) = 0 := h _ (List.mem_append_right _ (List.mem_cons_self ..))
    have h3 : ∀ i, i < rs.length → rtE ns.length rs i = 0 := fun i hi => h _ (List.mem_append_right _ (List.mem_cons_of_mem _ (List.mem_map.2 ⟨i, List.mem_range.2 hi, rfl⟩)))
    have h4 : ∀ i (hi : i < rs.length), (nmOk rs[i].s ∧ (i = 0 ∨ prevL rs i = true)) ∧ 0 ≤ rs[i].to ∧ rs[i].to ≤ ns.length := fun i hi => by
      have := h3 i hi
      rw [rtE_get hi] at this
      by_cases q : nmOk rs[i].s ∧ (i = 0 ∨ prevL rs i = true)
      · rw [if_pos q] at this
        by_cases q2 : 0 ≤ rs[i].to ∧ rs[i].to ≤ ns.length
        · exact ⟨q, q2⟩
        · rw [if_neg q2] at this; omega
      · rw [if_neg q] at this; omega
    refine ⟨fun x hx => ndE_zero.1 (h1 x hx), ?_, fun r hr => ?_, fun i hi => ?_⟩
    · split at h2
      · assumption
      · omega
    · obtain ⟨i, hi, rfl⟩ := List.getElem_of_mem hr
      exact ⟨nmOk_iff.1 (h4 i hi).1.1, (h4 i hi).2⟩
    · have := (h4 (i + 1) hi).1.2
      rcases this with h5 | h5
      · omega
      · rw [prevL_get (by omega) hi] at h5
        exact h5
  · intro hg
    refine chk_ok (fun i hi => ndE_zero.2 (hg.x _ (List.getElem_mem hi))) (by have := hg.r; omega) fun i hi => ?_
    obtain ⟨h1, h2, h3⟩ := hg.s _ (List.getElem_mem hi)
    rw [rtE_get hi, if_pos, if_pos ⟨h2, h3⟩]
    refine ⟨nmOk_iff.2 h1, ?_⟩
    by_cases h0 : i = 0
    · exact .inl h0
    · right
      rw [prevL_get h0 hi]
      have := hg.o (i - 1) (by omega)
      have e : rs[i - 1 + 1]'(by omega) = rs[i] := by congr 1; omega
      rw [e] at this
      exact this
end
/-- one node, by the program -/
abbrev rsGck_1 := (And.intro @xu8_add (And.intro @xu8_lss (And.intro @xu8_gtr (And.intro @xu16_add (And.intro @xu16_lss (And.intro @xu16_gtr (And.intro @xu32_add (And.intro @xu32_lss (And.intro @xu32_gtr (And.intro @xu64_add (And.intro @xu64_lss (And.intro @xu64_gtr (And.intro @xi64_lss (And.intro @xi64_gtr (And.intro @ld_3 (And.intro @ld_22 
  (And.intro @ld_26 (And.intro @ld_51 (And.intro @fa_25_0 (And.intro @fa_53_0 (And.intro @fa_53_1 (And.intro @ia_26 (And.intro @ln_22 (And.intro @ln_26 @ln_51))))))))))))))))))))))))
theorem gnode_spec {w : World} {na ra : Option Addr} {nc rc : Nat} {ns : List GN} {rs : List GR} {x : GN} (hx : NOk w x) (hxl : x.p.length ≤ 1000000) : Gives Try.prog n_graph_Graph_node #[gV na nc ra rc ns rs, .agg (gnC x).toArray] w (i64 (ndE ns.length x)) := by
  refine graph_Graph_node_of ?_
  unfold graph_Graph_node
  simp (disch := (first | omega | decide | (simp only [rsD] <;> omega) | fail)) only [↓rsC, rsK, rsL, ↓rsGck_1, tick_eq, tickV_eq, ne_eq, Int.reduceAdd, Int.reduceSub, Int.reduceMul, Int.reduceEq, Int.reduceLT, Int.reduceLE, Int.reduceToNat, Nat.reduceMul, Nat.reduceAdd, Nat.reduceSub, ←decide_not, eq_self]
  simp only [World.size_alloc]
  have B : Blk (w.alloc (.cells #[.slice na ns.length nc, .slice ra rs.length rc] 25)) w.heap.size 25 [.slice na ns.length nc, .slice ra rs.length rc] := Blk.at rfl
  have X : Ext [] w (w.alloc (.cells #[.slice na ns.length nc, .slice ra rs.length rc] 25)) := Ext.alloc _ _ _
  have z1 := World.size_alloc w (.cells #[.slice na ns.length nc, .slice ra rs.length rc] 25)
  generalize hy1 : w.alloc (.cells #[.slice na ns.length nc, .slice ra rs.length rc] 25) = y1 at *
  have C : Blk (y1.alloc (.cells #[.slice x.pa x.p.length x.pc, .slice x.da x.d.length x.dc] 53)) y1.heap.size 53 [.slice x.pa x.p.length x.pc, .slice x.da x.d.length x.dc] := Blk.at rfl
  have X1 : Ext [] y1 (y1.alloc (.cells #[.slice x.pa x.p.length x.pc, .slice x.da x.d.length x.dc] 53)) := Ext.alloc _ _ _
  have B1 := B.ext X1 (by simp)
  have X2 := X.trans X1
  have hx2 := hx.ext0 X2
  rw [z1] at C
  generalize hy2 : y1.alloc (.cells #[.slice x.pa x.p.length x.pc, .slice x.da x.d.length x.dc] 53) = y2 at *
  generalize w.heap.size + 1 = g2 at *
  generalize w.heap.size = g1 at *
  refine xLoop_n x.p.length (fun k => [i64 (k : Int)]) (fun k w' => Ext [] y2 w' ∧ ∀ i (hi : i < x.p.length), i < k → 0 ≤ x.p[i] ∧ x.p[i] ≤ ns.length) rfl ⟨Ext.refl _ _, by intro i _ hi; omega⟩ ?_ ?_
  · intro k hk u v2 hu ⟨F2, hp⟩ nxt2 hnx2
    simp only [List.map_cons, List.map_nil, List.cons.injEq, and_true] at hu
    rw [hu]
    have k2 := fun i => (B1.ext F2 (by simp)).cell (i := i)
    obtain ⟨b3, o3, ha3, z3, c3⟩ := its_at (hx2.ext0 F2).pr hk
    have bad : ¬ (0 ≤ x.p[k] ∧ x.p[k] ≤ ns.length) → i64 1 = i64 (ndE ns.length x) := fun h => by
      unfold ndE
      rw [if_neg fun h2 => h (h2 _ (List.getElem_mem hk))]
    unfold graph_Graph_node_l1
    by_cases g1 : x.p[k] < 0
    · simp (disch := (first | omega | decide | (simp only [rsD] <;> omega) | fail)) only [↓rsC, rsK, rsL, ↓rsGck_1, tick_eq, tickV_eq, ne_eq, Int.reduceAdd, Int.reduceSub, Int.reduceMul, Int.reduceEq, Int.reduceLT, Int.reduceLE, Int.reduceToNat, Nat.reduceMul, Nat.reduceAdd, Nat.reduceSub, ←decide_not, k2, ha3, c3]
      exact ⟨bad (by omega), X2.trans F2⟩
    by_cases g2 : (ns.length : Int) < x.p[k]
    · simp (disch := (first | omega | decide | (simp only [rsD] <;> omega) | fail)) only [↓rsC, rsK, rsL, ↓rsGck_1, tick_eq, tickV_eq, ne_eq, Int.reduceAdd, Int.reduceSub, Int.reduceMul, Int.reduceEq, Int.reduceLT, Int.reduceLE, Int.reduceToNat, Nat.reduceMul, Nat.reduceAdd, Nat.reduceSub, ←decide_not, k2, ha3, c3]
      exact ⟨bad (by omega), X2.trans F2⟩
    simp (disch := (first | omega | decide | (simp only [rsD] <;> omega) | fail)) only [↓rsC, rsK, rsL, ↓rsGck_1, tick_eq, tickV_eq, ne_eq, Int.reduceAdd, Int.reduceSub, Int.reduceMul, Int.reduceEq, Int.reduceLT, Int.reduceLE, Int.reduceToNat, Nat.reduceMul, Nat.reduceAdd, Nat.reduceSub, ←decide_not, k2, ha3, c3]
    refine hnx2 _ ⟨F2, fun i hi hik => ?_⟩
    by_cases e : i = k
    · subst e; exact ⟨by omega, by omega⟩
    · exact hp i hi (by omega)
  · intro u v2 hu ⟨F2, hp⟩ nxt2
    simp only [List.map_cons, List.map_nil, List.cons.injEq, and_true] at hu
    rw [hu]
    have k2 := fun i => (C.ext F2 (by simp)).cell (i := i)
    have hpp : ∀ p ∈ x.p, 0 ≤ p ∧ p ≤ (ns.length : Int) := fun p hp2 => by
      obtain ⟨i, hi, rfl⟩ := List.getElem_of_mem hp2
      exact hp i hi hi
    have hE : ndE ns.length x = if x.p.length ≤ 64 ∧ x.d.length ≤ 1024 then 0 else 3 := by unfold ndE; rw [if_pos hpp]
    rw [hE]
    unfold graph_Graph_node_l1
    by_cases g1 : 64 < x.p.length
    · rw [if_neg (by omega)]
      simp (disch := (first | omega | decide | (simp only [rsD] <;> omega) | fail)) only [↓rsC, rsK, rsL, ↓rsGck_1, tick_eq, tickV_eq, ne_eq, Int.reduceAdd, Int.reduceSub, Int.reduceMul, Int.reduceEq, Int.reduceLT, Int.reduceLE, Int.reduceToNat, Nat.reduceMul, Nat.reduceAdd, Nat.reduceSub, ←decide_not, k2]
      exact ⟨by trivial, X2.trans F2⟩
    by_cases g2 : 1024 < x.d.length
    · rw [if_neg (by omega)]
      simp (disch := (first | omega | decide | (simp only [rsD] <;> omega) | fail)) only [↓rsC, rsK, rsL, ↓rsGck_1, tick_eq, tickV_eq, ne_eq, Int.reduceAdd, Int.reduceSub, Int.reduceMul, Int.reduceEq, Int.reduceLT, Int.reduceLE, Int.reduceToNat, Nat.reduceMul, Nat.reduceAdd, Nat.reduceSub, ←decide_not, k2]
      exact ⟨by trivial, X2.trans F2⟩
    rw [if_pos (by omega)]
    simp (disch := (first | omega | decide | (simp only [rsD] <;> omega) | fail)) only [↓rsC, rsK, rsL, ↓rsGck_1, tick_eq, tickV_eq, ne_eq, Int.reduceAdd, Int.reduceSub, Int.reduceMul, Int.reduceEq, Int.reduceLT, Int.reduceLE, Int.reduceToNat, Nat.reduceMul, Nat.reduceAdd, Nat.reduceSub, ←decide_not, k2]
    exact ⟨by trivial, X2.trans F2⟩
/-- one name, by the program -/
abbrev rsGck_2 := (And.intro @xu8_sub (And.intro @xu8_lss (And.intro @xu8_gtr (And.intro @xu8_geq (And.intro @xu16_sub (And.intro @xu16_lss (And.intro @xu16_gtr (And.intro @xu16_geq (And.intro @xu32_sub (And.intro @xu32_lss (And.intro @xu32_gtr (And.intro @xu32_geq (And.intro @xu64_sub (And.intro @xu64_lss (And.intro @xu64_gtr (And.intro @xu64_geq 
  (And.intro @xi64_lss (And.intro @xi64_gtr (And.intro @xi64_geq (And.intro @ld_3 (And.intro @ld_9 (And.intro @ld_22 (And.intro @ld_23 (And.intro @ld_58 (And.intro @fa_25_0 (And.intro @fa_25_1 (And.intro @fa_58_0 (And.intro @fa_58_1 (And.intro @al_58 (And.intro @st_58 (And.intro @ia_23 (And.intro @ln_22 @ln_9))))))))))))))))))))))))))))))))
theorem groot_spec {w : World} {na ra : Option Addr} {nc rc : Nat} {ns : List GN} {rs : List GR} (h : GIs w na nc ra rc ns rs) {j : Nat} (hj : j < rs.length) (hrl : rs.length ≤ 1000000) : Gives Try.prog n_graph_Graph_root #[gV na nc ra rc ns rs, i64 (j : Int)] w (i64 (rtE ns.length rs j)) := by
  have hrt := rtE_get (n := ns.length) hj
  have hsz := strOf_size (l := rs[j].s)
  obtain ⟨b1, o1, ha1, z1, c1, c2⟩ := gr_at h.rr hj
  subst ha1
  refine graph_Graph_root_of ?_
  unfold graph_Graph_root
  simp (disch := (first | omega | decide | (simp only [rsD] <;> omega) | fail)) only [↓rsC, rsK, rsL, ↓rsGck_2, tick_eq, tickV_eq, ne_eq, Int.reduceAdd, Int.reduceSub, Int.reduceMul, Int.reduceEq, Int.reduceLT, Int.reduceLE, Int.reduceToNat, Nat.reduceMul, Nat.reduceAdd, Nat.reduceSub, ←decide_not, c1, c2]
  simp only [World.size_alloc]
  have B : Blk (w.alloc (.cells #[.slice na ns.length nc, .slice (some ⟨b1, o1, none⟩) rs.length rc] 25)) w.heap.size 25 [.slice na ns.length nc, .slice (some ⟨b1, o1, none⟩) rs.length rc] := Blk.at rfl
  have X : Ext [] w (w.alloc (.cells #[.slice na ns.length nc, .slice (some ⟨b1, o1, none⟩) rs.length rc] 25)) := Ext.alloc _ _ _
  have s1 := World.size_alloc w (.cells #[.slice na ns.length nc, .slice (some ⟨b1, o1, none⟩) rs.length rc] 25)
  generalize w.alloc (.cells #[.slice na ns.length nc, .slice (some ⟨b1, o1, none⟩) rs.length rc] 25) = y1 at *
  have C : Blk (y1.alloc (.cells #[.string (strOf rs[j].s), i64 rs[j].to] 58)) y1.heap.size 58 [.string (strOf rs[j].s), i64 rs[j].to] := Blk.at rfl
  have X1 : Ext [] y1 (y1.alloc (.cells #[.string (strOf rs[j].s), i64 rs[j].to] 58)) := Ext.alloc _ _ _
  have B1 := B.ext X1 (by simp)
  have X2 := X.trans X1
  have hy := h.ext0 X2
  rw [s1] at C
  generalize y1.alloc (.cells #[.string (strOf rs[j].s), i64 rs[j].to] 58) = y2 at *
  generalize w.heap.size + 1 = g2 at *
  generalize w.heap.size = g1 at *
  have kc := fun i => C.cell (i := i)
  by_cases h1 : rs[j].s.length < 1
  · rw [hrt, if_neg (fun q => by have := q.1.1; omega)]
    simp (disch := (first | omega | decide | (simp only [rsD] <;> omega) | fail)) only [↓rsC, rsK, rsL, ↓rsGck_2, tick_eq, tickV_eq, ne_eq, Int.reduceAdd, Int.reduceSub, Int.reduceMul, Int.reduceEq, Int.reduceLT, Int.reduceLE, Int.reduceToNat, Nat.reduceMul, Nat.reduceAdd, Nat.reduceSub, ←decide_not, c1, c2, kc]
    exact ⟨by trivial, X2⟩
  by_cases h2 : 32 < rs[j].s.length
  · rw [hrt, if_neg (fun q => by have := q.1.2.1; omega)]
    simp (disch := (first | omega | decide | (simp only [rsD] <;> omega) | fail)) only [↓rsC, rsK, rsL, ↓rsGck_2, tick_eq, tickV_eq, ne_eq, Int.reduceAdd, Int.reduceSub, Int.reduceMul, Int.reduceEq, Int.reduceLT, Int.reduceLE, Int.reduceToNat, Nat.reduceMul, Nat.reduceAdd, Nat.reduceSub, ←decide_not, c1, c2, kc]
    exact ⟨by trivial, X2⟩
  simp (disch := (first | omega | decide | (simp only [rsD] <;> omega) | fail)) only [↓rsC, rsK, rsL, ↓rsGck_2, tick_eq, tickV_eq, ne_eq, Int.reduceAdd, Int.reduceSub, Int.reduceMul, Int.reduceEq, Int.reduceLT, Int.reduceLE, Int.reduceToNat, Nat.reduceMul, Nat.reduceAdd, Nat.reduceSub, ←decide_not, c1, c2, kc]
  refine strings_Contains_call (Gives.to (Contains_spec rs[j].s y2) fun y3 F3 => ?_)
  have X3 := X2.trans F3
  by_cases h3 : z8 ∈ rs[j].s
  · rw [decide_eq_true h3, hrt, if_neg (fun q => q.1.2.2 h3)]
    simp (disch := (first | omega | decide | (simp only [rsD] <;> omega) | fail)) only [↓rsC, rsK, rsL, ↓rsGck_2, tick_eq, tickV_eq, ne_eq, Int.reduceAdd, Int.reduceSub, Int.reduceMul, Int.reduceEq, Int.reduceLT, Int.reduceLE, Int.reduceToNat, Nat.reduceMul, Nat.reduceAdd, Nat.reduceSub, ←decide_not, c1, c2, kc]
    exact ⟨by trivial, X3⟩
  rw [decide_eq_false h3]
  have hok : nmOk rs[j].s := ⟨by omega, by omega, h3⟩
  have F3d := F3.trans (Ext.drew [] y3)
  have X4 := X2.trans F3d
  have kc4 := fun i => (C.ext F3d (by simp)).cell (i := i)
  have kb4 := fun i => (B1.ext F3d (by simp)).cell (i := i)
  have hlast : ∀ (b : Bool), (j = 0 ∨ prevL rs j = true ↔ b = true) → rtE ns.length rs j = if b = true then (if 0 ≤ rs[j].to ∧ rs[j].to ≤ ns.length then 0 else 1) else 4 := fun b hb => by
    rw [hrt]
    by_cases q : b = true
    · rw [if_pos ⟨hok, hb.2 q⟩, if_pos q]
    · rw [if_neg (fun q2 => q (hb.1 q2.2)), if_neg q]
  by_cases hj0 : j = 0
  · rw [hlast true ⟨fun _ => rfl, fun _ => .inl hj0⟩, if_pos rfl]
    by_cases t1 : rs[j].to < 0
    · rw [if_neg (by omega)]
      simp (disch := (first | omega | decide | (simp only [rsD] <;> omega) | fail)) only [↓rsC, rsK, rsL, ↓rsGck_2, tick_eq, tickV_eq, ne_eq, Int.reduceAdd, Int.reduceSub, Int.reduceMul, Int.reduceEq, Int.reduceLT, Int.reduceLE, Int.reduceToNat, Nat.reduceMul, Nat.reduceAdd, Nat.reduceSub, ←decide_not, c1, c2, kc, kc4, kb4]
      exact ⟨by trivial, X4⟩
    by_cases t2 : (ns.length : Int) < rs[j].to
    · rw [if_neg (by omega)]
      simp (disch := (first | omega | decide | (simp only [rsD] <;> omega) | fail)) only [↓rsC, rsK, rsL, ↓rsGck_2, tick_eq, tickV_eq, ne_eq, Int.reduceAdd, Int.reduceSub, Int.reduceMul, Int.reduceEq, Int.reduceLT, Int.reduceLE, Int.reduceToNat, Nat.reduceMul, Nat.reduceAdd, Nat.reduceSub, ←decide_not, c1, c2, kc, kc4, kb4]
      exact ⟨by trivial, X4⟩
    rw [if_pos (by omega)]
    simp (disch := (first | omega | decide | (simp only [rsD] <;> omega) | fail)) only [↓rsC, rsK, rsL, ↓rsGck_2, tick_eq, tickV_eq, ne_eq, Int.reduceAdd, Int.reduceSub, Int.reduceMul, Int.reduceEq, Int.reduceLT, Int.reduceLE, Int.reduceToNat, Nat.reduceMul, Nat.reduceAdd, Nat.reduceSub, ←decide_not, c1, c2, kc, kc4, kb4]
    exact ⟨by trivial, X4⟩
  · obtain ⟨b5, o5, ha5, z5, c5, c6⟩ := gr_at (hy.ext0 F3d).rr (k := j - 1) (by omega)
    cases ha5
    have t3 : ((j : Int) - 1).toNat = j - 1 := by omega
    have hgs := fun w K => geS (cx := false) (cy := false) (strOf rs[j - 1].s) (strOf rs[j].s) w K
    have hpl := prevL_get hj0 hj
    cases hlt : Op.bytesLess (strOf rs[j - 1].s).toList (strOf rs[j].s).toList with
    | true =>
      rw [hlt] at hgs hpl
      rw [hlast true ⟨fun _ => rfl, fun _ => .inr hpl⟩, if_pos rfl]
      by_cases t1 : rs[j].to < 0
      · rw [if_neg (by omega)]
        simp (disch := (first | omega | decide | (simp only [rsD] <;> omega) | fail)) only [↓rsC, rsK, rsL, ↓rsGck_2, tick_eq, tickV_eq, ne_eq, Int.reduceAdd, Int.reduceSub, Int.reduceMul, Int.reduceEq, Int.reduceLT, Int.reduceLE, Int.reduceToNat, Nat.reduceMul, Nat.reduceAdd, Nat.reduceSub, ←decide_not, c1, c2, kc, kc4, kb4, t3, c5, hgs]
        exact ⟨by trivial, X4⟩
      by_cases t2 : (ns.length : Int) < rs[j].to
      · rw [if_neg (by omega)]
        simp (disch := (first | omega | decide | (simp only [rsD] <;> omega) | fail)) only [↓rsC, rsK, rsL, ↓rsGck_2, tick_eq, tickV_eq, ne_eq, Int.reduceAdd, Int.reduceSub, Int.reduceMul, Int.reduceEq, Int.reduceLT, Int.reduceLE, Int.reduceToNat, Nat.reduceMul, Nat.reduceAdd, Nat.reduceSub, ←decide_not, c1, c2, kc, kc4, kb4, t3, c5, hgs]
        exact ⟨by trivial, X4⟩
      rw [if_pos (by omega)]
      simp (disch := (first | omega | decide | (simp only [rsD] <;> omega) | fail)) only [↓rsC, rsK, rsL, ↓rsGck_2, tick_eq, tickV_eq, ne_eq, Int.reduceAdd, Int.reduceSub, Int.reduceMul, Int.reduceEq, Int.reduceLT, Int.reduceLE, Int.reduceToNat, Nat.reduceMul, Nat.reduceAdd, Nat.reduceSub, ←decide_not, c1, c2, kc, kc4, kb4, t3, c5, hgs]
      exact ⟨by trivial, X4⟩
    | false =>
      rw [hlt] at hgs hpl
      rw [hlast false ⟨fun q => by rcases q with q | q; exact absurd q hj0; rw [hpl] at q; exact q, fun q => by cases q⟩, if_neg (by simp)]
      simp (disch := (first | omega | decide | (simp only [rsD] <;> omega) | fail)) only [↓rsC, rsK, rsL, ↓rsGck_2, tick_eq, tickV_eq, ne_eq, Int.reduceAdd, Int.reduceSub, Int.reduceMul, Int.reduceEq, Int.reduceLT, Int.reduceLE, Int.reduceToNat, Nat.reduceMul, Nat.reduceAdd, Nat.reduceSub, ←decide_not, c1, c2, kc, kc4, kb4, t3, c5, hgs]
      exact ⟨by trivial, X4⟩
/-- all, by the program -/
abbrev rsGck_3 := (And.intro @xu8_add (And.intro @xu8_neq (And.intro @xu8_lss (And.intro @xu8_gtr (And.intro @xu16_add (And.intro @xu16_neq (And.intro @xu16_lss (And.intro @xu16_gtr (And.intro @xu32_add (And.intro @xu32_neq (And.intro @xu32_lss (And.intro @xu32_gtr (And.intro @xu64_add (And.intro @xu64_neq (And.intro @xu64_lss (And.intro @xu64_gtr 
  (And.intro @xi64_lss (And.intro @xi64_gtr (And.intro @xi64_neq (And.intro @xi64_neg (And.intro @ld_22 (And.intro @ld_23 (And.intro @ld_25 (And.intro @ld_53 (And.intro @fa_25_0 (And.intro @fa_25_1 (And.intro @al_53 (And.intro @st_53 (And.intro @ia_22 (And.intro @ln_22 @ln_23))))))))))))))))))))))))))))))
theorem gcheck_spec {w : World} {na ra : Option Addr} {nc rc : Nat} {ns : List GN} {rs : List GR} (h : GIs w na nc ra rc ns rs) (hf : FewH ns rs) : Gives Try.prog n_graph_Check #[gV na nc ra rc ns rs] w (i64 (chkV ns rs)) := by
  have hfn := hf.n
  have hfr := hf.r
  refine graph_Check_of ?_
  unfold graph_Check
  simp (disch := (first | omega | decide | (simp only [rsD] <;> omega) | fail)) only [↓rsC, rsK, rsL, ↓rsGck_3, tick_eq, tickV_eq, ne_eq, Int.reduceAdd, Int.reduceSub, Int.reduceMul, Int.reduceEq, Int.reduceLT, Int.reduceLE, Int.reduceToNat, Nat.reduceMul, Nat.reduceAdd, Nat.reduceSub, ←decide_not, eq_self]
  have B : Blk (w.alloc (.cells #[.slice na ns.length nc, .slice ra rs.length rc] 25)) w.heap.size 25 [.slice na ns.length nc, .slice ra rs.length rc] := Blk.at rfl
  have X : Ext [] w (w.alloc (.cells #[.slice na ns.length nc, .slice ra rs.length rc] 25)) := Ext.alloc _ _ _
  have hy := h.ext0 X
  generalize w.heap.size = hb at *
  generalize w.alloc (.cells #[.slice na ns.length nc, .slice ra rs.length rc] 25) = y at *
  refine xLoop_n ns.length (fun j => [i64 (j : Int)]) (fun j w' => Ext [] y w' ∧ ∀ i (hi : i < ns.length), i < j → ndE ns.length ns[i] = 0) rfl ⟨Ext.refl _ _, by intro i _ hi; omega⟩ ?_ ?_
  · intro j hj u v1 hu ⟨F, hq⟩ nxt hnx
    simp only [List.map_cons, List.map_nil, List.cons.injEq, and_true] at hu
    rw [hu]
    have k1 := fun i => (B.ext F (by simp)).cell (i := i)
    obtain ⟨b1, o1, ha1, z1, c1, c2⟩ := gn_at (hy.ext0 F).nr hj
    have hm := List.getElem_mem hj
    have hok := (hy.ext0 F).ok _ hm
    have hfx := hf.x _ hm
    have zb := (B.ext F (by simp)).lt
    unfold graph_Check_l1
    simp (disch := (first | omega | decide | (simp only [rsD] <;> omega) | fail)) only [↓rsC, rsK, rsL, ↓rsGck_3, tick_eq, tickV_eq, ne_eq, Int.reduceAdd, Int.reduceSub, Int.reduceMul, Int.reduceEq, Int.reduceLT, Int.reduceLE, Int.reduceToNat, Nat.reduceMul, Nat.reduceAdd, Nat.reduceSub, ←decide_not, k1, ha1, c1, c2]
    simp only [← ha1]
    have X1 : Ext [] v1 (v1.alloc (.cells #[.slice ns[j].pa ns[j].p.length ns[j].pc, .slice ns[j].da ns[j].d.length ns[j].dc] 53)) := Ext.alloc _ _ _
    refine graph_Graph_node_call (Gives.to (gnode_spec (na := na) (nc := nc) (ra := ra) (rc := rc) (ns := ns) (rs := rs) (hok.ext0 X1) (by omega)) fun v2 F2 => ?_)
    have F3 := F.trans (X1.trans F2)
    by_cases he : ndE ns.length ns[j] = 0
    · rw [he]
      simp (disch := (first | omega | decide | (simp only [rsD] <;> omega) | fail)) only [↓rsC, rsK, rsL, ↓rsGck_3, tick_eq, tickV_eq, ne_eq, Int.reduceAdd, Int.reduceSub, Int.reduceMul, Int.reduceEq, Int.reduceLT, Int.reduceLE, Int.reduceToNat, Nat.reduceMul, Nat.reduceAdd, Nat.reduceSub, ←decide_not, k1, ha1, c1, c2]
      refine hnx _ ⟨F3, fun i hi hij => ?_⟩
      by_cases e : i = j
      · subst e; exact he
      · exact hq i hi (by omega)
    · have hc := chk_node (rs := rs) hj hq rfl he
      simp (disch := (first | omega | decide | (simp only [rsD] <;> omega) | fail)) only [↓rsC, rsK, rsL, ↓rsGck_3, tick_eq, tickV_eq, ne_eq, Int.reduceAdd, Int.reduceSub, Int.reduceMul, Int.reduceEq, Int.reduceLT, Int.reduceLE, Int.reduceToNat, Nat.reduceMul, Nat.reduceAdd, Nat.reduceSub, ←decide_not, k1, ha1, c1, c2]
      exact ⟨by rw [hc], X.trans F3⟩
  intro u v1 hu ⟨F, hq⟩ nxt
  simp only [List.map_cons, List.map_nil, List.cons.injEq, and_true] at hu
  rw [hu]
  have hq' : ∀ i (hi : i < ns.length), ndE ns.length ns[i] = 0 := fun i hi => hq i hi hi
  have k1 := fun i => (B.ext F (by simp)).cell (i := i)
  unfold graph_Check_l1
  by_cases g0 : 64 < rs.length
  · simp (disch := (first | omega | decide | (simp only [rsD] <;> omega) | fail)) only [↓rsC, rsK, rsL, ↓rsGck_3, tick_eq, tickV_eq, ne_eq, Int.reduceAdd, Int.reduceSub, Int.reduceMul, Int.reduceEq, Int.reduceLT, Int.reduceLE, Int.reduceToNat, Nat.reduceMul, Nat.reduceAdd, Nat.reduceSub, ←decide_not, k1]
    exact ⟨by rw [chk_len hq' g0], X.trans F⟩
  simp (disch := (first | omega | decide | (simp only [rsD] <;> omega) | fail)) only [↓rsC, rsK, rsL, ↓rsGck_3, tick_eq, tickV_eq, ne_eq, Int.reduceAdd, Int.reduceSub, Int.reduceMul, Int.reduceEq, Int.reduceLT, Int.reduceLE, Int.reduceToNat, Nat.reduceMul, Nat.reduceAdd, Nat.reduceSub, ←decide_not, k1]
  refine xLoop_n rs.length (fun j => [i64 (j : Int)]) (fun j w' => Ext [] y w' ∧ ∀ i, i < j → rtE ns.length rs i = 0) rfl ⟨F, by intro i hi; omega⟩ ?_ ?_
  · intro j hj u v2 hu ⟨F2, hr⟩ nxt2 hnx2
    simp only [List.map_cons, List.map_nil, List.cons.injEq, and_true] at hu
    rw [hu]
    have k2 := fun i => (B.ext F2 (by simp)).cell (i := i)
    unfold graph_Check_l2
    simp (disch := (first | omega | decide | (simp only [rsD] <;> omega) | fail)) only [↓rsC, rsK, rsL, ↓rsGck_3, tick_eq, tickV_eq, ne_eq, Int.reduceAdd, Int.reduceSub, Int.reduceMul, Int.reduceEq, Int.reduceLT, Int.reduceLE, Int.reduceToNat, Nat.reduceMul, Nat.reduceAdd, Nat.reduceSub, ←decide_not, k1, k2]
    refine graph_Graph_root_call (Gives.to (groot_spec (hy.ext0 F2) hj (by omega)) fun v3 F3 => ?_)
    by_cases he : rtE ns.length rs j = 0
    · rw [he]
      simp (disch := (first | omega | decide | (simp only [rsD] <;> omega) | fail)) only [↓rsC, rsK, rsL, ↓rsGck_3, tick_eq, tickV_eq, ne_eq, Int.reduceAdd, Int.reduceSub, Int.reduceMul, Int.reduceEq, Int.reduceLT, Int.reduceLE, Int.reduceToNat, Nat.reduceMul, Nat.reduceAdd, Nat.reduceSub, ←decide_not, k1, k2]
      refine hnx2 _ ⟨F2.trans F3, fun i hij => ?_⟩
      by_cases e : i = j
      · subst e; exact he
      · exact hr i (by omega)
    · have hc := chk_root hq' g0 hr hj rfl he
      simp (disch := (first | omega | decide | (simp only [rsD] <;> omega) | fail)) only [↓rsC, rsK, rsL, ↓rsGck_3, tick_eq, tickV_eq, ne_eq, Int.reduceAdd, Int.reduceSub, Int.reduceMul, Int.reduceEq, Int.reduceLT, Int.reduceLE, Int.reduceToNat, Nat.reduceMul, Nat.reduceAdd, Nat.reduceSub, ←decide_not, k1, k2]
      exact ⟨by rw [hc], X.trans (F2.trans F3)⟩
  · intro u v2 hu ⟨F2, hr⟩ nxt2
    simp only [List.map_cons, List.map_nil, List.cons.injEq, and_true] at hu
    rw [hu]
    unfold graph_Check_l2
    simp (disch := (first | omega | decide | (simp only [rsD] <;> omega) | fail)) only [↓rsC, rsK, rsL, ↓rsGck_3, tick_eq, tickV_eq, ne_eq, Int.reduceAdd, Int.reduceSub, Int.reduceMul, Int.reduceEq, Int.reduceLT, Int.reduceLE, Int.reduceToNat, Nat.reduceMul, Nat.reduceAdd, Nat.reduceSub, ←decide_not, k1]
    exact ⟨by rw [chk_ok hq' g0 hr], X.trans F2⟩
end Go.Proofs.Ythhcmoknppljpaa
end
section
set_option linter.unusedVariables false
set_option linter.unusedSimpArgs false
set_option maxHeartbeats 4000000
namespace Go.Proofs.Ythhcmoknppljpaa
open Go.Sh Go.RowKit

def gW (ns : List GN) : Nat := (ns.map gsz).sum
theorem gW_snoc (l : List GN) (x : GN) : gW (l ++ [x]) = gW l + gsz x := by simp [gW]
theorem gW_take {ns : List GN} {j : Nat} (hj : j < ns.length) : gW (ns.take (j + 1)) = gW (ns.take j) + gsz ns[j] := by
  rw [List.take_add_one, List.getElem?_eq_getElem hj]
  exact gW_snoc _ _
theorem gW_le (ns : List GN) (h : ∀ x ∈ ns, x.p.length ≤ 64 ∧ x.d.length ≤ 1024) : gW ns ≤ 193 * ns.length := by
  induction ns with
  | nil => simp [gW]
  | cons x ns ih =>
    have h1 := h x (by simp)
    have := ih fun y hy => h y (by simp [hy])
    have e : gW (x :: ns) = gsz x + gW ns := by simp [gW]
    rw [e, List.length_cons]
    unfold gsz
    omega
def orV (l : List (BitVec 8)) (a : Nat) : Nat → BitVec 64
  | 0 => BitVec.ofNat 64 0
  | k + 1 => orV l a k ||| ((l.getD (a + k) (BitVec.ofNat 8 0)).setWidth 64 <<< (8 * k))
def wordV (l : List (BitVec 8)) (i : Nat) : BitVec 64 := orV l (8 * i) (min 8 (l.length - 8 * i))
def wordsV (l : List (BitVec 8)) : List (BitVec 64) := (List.range ((l.length + 7) / 8)).map (wordV l)
def ptW (pl : List Nat) (to : Int) : BitVec 64 := if to = 0 then BitVec.ofNat 64 0 else BitVec.ofNat 64 (pl.getD (to.toNat - 1) 0 + 1)
end Go.Proofs.Ythhcmoknppljpaa
end
section
set_option linter.unusedVariables false
set_option linter.unusedSimpArgs false
set_option maxHeartbeats 4000000
namespace Go.Proofs.Ythhcmoknppljpaa
open Go.Sh Go.RowKit

/-- all nodes' words, by the program -/
abbrev rsGck2_1 := (And.intro @xu8_add (And.intro @xu8_lss (And.intro @xu16_add (And.intro @xu16_lss (And.intro @xu32_add (And.intro @xu32_lss (And.intro @xu64_add (And.intro @xu64_lss (And.intro @xi64_lss (And.intro @ld_22 (And.intro @ld_26 (And.intro @ld_51 (And.intro @ld_53 (And.intro @fa_25_0 (And.intro @fa_53_0 (And.intro @fa_53_1 (And.intro @al_53 
  (And.intro @st_53 (And.intro @bd_70_0_1 (And.intro @ia_22 (And.intro @ln_22 (And.intro @ln_26 @ln_51))))))))))))))))))))))
theorem gwords_spec {w : World} {na ra : Option Addr} {nc rc : Nat} {ns : List GN} {rs : List GR} (h : GIs w na nc ra rc ns rs) (hf : FewH ns rs) (hg : GoodG ns rs) : Gives Try.prog n_graph_Words #[gV na nc ra rc ns rs] w (i64 (gW ns : Int)) := by
  have hfn := hf.n
  have hgs := fun x hx => (hg.x x hx).2
  refine graph_Words_of ?_
  unfold graph_Words
  simp (disch := (first | omega | decide | (simp only [rsD] <;> omega) | fail)) only [↓rsC, rsK, rsL, ↓rsGck2_1, tick_eq, tickV_eq, ne_eq, Int.reduceAdd, Int.reduceSub, Int.reduceMul, Int.reduceEq, Int.reduceLT, Int.reduceLE, Int.reduceToNat, Nat.reduceMul, Nat.reduceAdd, Nat.reduceSub, ←decide_not, eq_self]
  have B : Blk (w.alloc (.cells #[.slice na ns.length nc, .slice ra rs.length rc] 25)) w.heap.size 25 [.slice na ns.length nc, .slice ra rs.length rc] := Blk.at rfl
  have X : Ext [] w (w.alloc (.cells #[.slice na ns.length nc, .slice ra rs.length rc] 25)) := Ext.alloc _ _ _
  have hy := h.ext0 X
  generalize w.heap.size = hb at *
  generalize w.alloc (.cells #[.slice na ns.length nc, .slice ra rs.length rc] 25) = y at *
  refine xLoop_n ns.length (fun j => [i64 (gW (ns.take j) : Int), i64 (j : Int)]) (fun j w' => Ext [] y w') (by simp [gW]) (Ext.refl _ _) ?_ ?_
  · intro j hj u v1 hu F nxt hnx
    simp only [List.map_cons, List.map_nil, List.cons.injEq, and_true] at hu
    rw [hu.1, hu.2]
    obtain ⟨b1, o1, rfl, z1, c1, c2⟩ := gn_at (hy.ext0 F).nr hj
    have hm := List.getElem_mem hj
    obtain ⟨q1, q2⟩ := hgs _ hm
    have hle := gW_le (ns.take j) fun x hx => hgs x (List.mem_of_mem_take hx)
    rw [List.length_take] at hle
    have htk := gW_take hj
    unfold graph_Words_l1
    simp (disch := (first | omega | decide | (simp only [rsD] <;> omega) | fail)) only [↓rsC, rsK, rsL, ↓rsGck2_1, tick_eq, tickV_eq, ne_eq, Int.reduceAdd, Int.reduceSub, Int.reduceMul, Int.reduceEq, Int.reduceLT, Int.reduceLE, Int.reduceToNat, Nat.reduceMul, Nat.reduceAdd, Nat.reduceSub, ←decide_not, c1, c2]
    have hgs2 : gsz ns[j] ≤ 193 := by unfold gsz; omega
    have hsz := fun w => Size_spec (ns[j].p.length : Int) (ns[j].d.length : Int) false 0 w
    have e2 : sizeV (ns[j].p.length : Int) (ns[j].d.length : Int) false 0 = (gsz ns[j] : Int) := by
      unfold sizeV gsz
      rw [if_pos ⟨right_f.2 (by omega), rfl⟩]
      omega
    rw [e2] at hsz
    have e1 : (gW (ns.take j) : Int) + (gsz ns[j] : Int) = (gW (ns.take (j + 1)) : Int) := by omega
    refine head_Size_call (Gives.to (hsz _) fun w2 F2 => ?_)
    simp (disch := (first | omega | decide | (simp only [rsD] <;> omega) | fail)) only [↓rsC, rsK, rsL, ↓rsGck2_1, tick_eq, tickV_eq, ne_eq, Int.reduceAdd, Int.reduceSub, Int.reduceMul, Int.reduceEq, Int.reduceLT, Int.reduceLE, Int.reduceToNat, Nat.reduceMul, Nat.reduceAdd, Nat.reduceSub, ←decide_not, c1, c2]
    rw [e1]
    exact hnx _ (F.trans ((Ext.alloc _ _ _).trans F2))
  · intro u v1 hu F nxt
    simp only [List.map_cons, List.map_nil, List.cons.injEq, and_true] at hu
    rw [hu.1, hu.2]
    unfold graph_Words_l1
    simp (disch := (first | omega | decide | (simp only [rsD] <;> omega) | fail)) only [↓rsC, rsK, rsL, ↓rsGck2_1, tick_eq, tickV_eq, ne_eq, Int.reduceAdd, Int.reduceSub, Int.reduceMul, Int.reduceEq, Int.reduceLT, Int.reduceLE, Int.reduceToNat, Nat.reduceMul, Nat.reduceAdd, Nat.reduceSub, ←decide_not, eq_self]
    exact ⟨by rw [List.take_length], X.trans F⟩
end Go.Proofs.Ythhcmoknppljpaa
end
section
set_option linter.unusedVariables false
set_option linter.unusedSimpArgs false
set_option maxHeartbeats 4000000
namespace Go.Proofs.Ythhcmoknppljpaa
open Go.Sh Go.RowKit

def plL (ns : List GN) (R : Nat) (j : Nat) : List Nat := (List.range j).map fun i => 2 + 5 * R + gW (ns.take i)
def hdrW (R at' : Nat) : BitVec 64 := BitVec.ofNat 64 (R + at' * 65536)
def padS (l : List (BitVec 8)) : List (BitVec 8) := l ++ List.replicate (32 - l.length) (BitVec.ofNat 8 0)
def rtW (pl : List Nat) (r : GR) : List (BitVec 64) := wordsV (padS r.s) ++ [ptW pl r.to]
def ndW (pl : List Nat) (x : GN) : List (BitVec 64) := packW x.p.length x.d.length false 0 :: (x.p.map (ptW pl) ++ wordsV x.d)
def encW (ns : List GN) (rs : List GR) : List (BitVec 64) := [BitVec.ofNat 64 1296125772, hdrW rs.length (2 + 5 * rs.length + gW ns)] ++ rs.flatMap (rtW (plL ns rs.length ns.length)) ++ ns.flatMap (ndW (plL ns rs.length ns.length))
end Go.Proofs.Ythhcmoknppljpaa
end
section
set_option linter.unusedVariables false
set_option linter.unusedSimpArgs false
set_option maxHeartbeats 4000000
namespace Go.Proofs.Ythhcmoknppljpaa
open Go.Sh Go.RowKit

def pN (x : BitVec 64) : Nat := (uP x).toNat
def bN (x : BitVec 64) : Nat := (uB x).toNat
/-- an object that ends by the top -/
structure ObjAt (ws : List (BitVec 64)) (b t o : Nat) : Prop where
  lo : b ≤ o
  ok : okW (wat ws o)
  hi : o + szW (wat ws o) ≤ t
theorem ObjAt.lt {ws : List (BitVec 64)} {b t o : Nat} (h : ObjAt ws b t o) : o < t := by
  have := h.hi
  have := szW_pos (x := wat ws o)
  omega
section
end
end Go.Proofs.Ythhcmoknppljpaa
end
section
set_option linter.unusedVariables false
set_option linter.unusedSimpArgs false
set_option maxHeartbeats 4000000
namespace Go.Proofs.Ythhcmoknppljpaa
open Go.Sh Go.RowKit

def PtrW (ws : List (BitVec 64)) (l : List Nat) (o : Nat) : Prop := ∀ i, i < pN (wat ws o) → (wat ws (o + 1 + i)).toNat = 0 ∨ ((wat ws (o + 1 + i)).toNat ≤ 8192 ∧ 1 ≤ (wat ws (o + 1 + i)).toNat ∧ (wat ws (o + 1 + i)).toNat - 1 ∈ l)
def PadW (ws : List (BitVec 64)) (o : Nat) : Prop := ∀ j, (o + 1 + pN (wat ws o)) * 8 + bN (wat ws o) ≤ j → j < (o + szW (wat ws o)) * 8 → byteW ws j = BitVec.ofNat 8 0
theorem Objs.count {ws : List (BitVec 64)} {t o : Nat} {l : List Nat} (h : Objs ws t o l) : o + l.length ≤ t := by
  induction h with
  | nil => simp
  | @cons o q h1 h2 h3 ih => have := szW_pos (x := wat ws o); simp only [List.length_cons]; omega
def WellP (ws : List (BitVec 64)) (b t : Nat) : Prop := ∃ l, objs ws b t = some l ∧ ∀ o ∈ l, PtrW ws l o ∧ PadW ws o
def WellIs (ws : List (BitVec 64)) (b t : Nat) (v : Int) : Prop := (WellP ws b t ∧ v = 0) ∨ (¬ WellP ws b t ∧ v = 2)
theorem WellIs.eq {ws : List (BitVec 64)} {b t : Nat} {v v' : Int} (h : WellIs ws b t v) (h' : WellIs ws b t v') : v = v' := by
  rcases h with ⟨h1, h2⟩ | ⟨h1, h2⟩ <;> rcases h' with ⟨h3, h4⟩ | ⟨h3, h4⟩
  · rw [h2, h4]
  · exact absurd h1 h3
  · exact absurd h3 h1
  · rw [h2, h4]
theorem WellIs.bad {ws : List (BitVec 64)} {b t o : Nat} {l : List Nat} (h : objs ws b t = some l) (ho : o ∈ l) (hb : ¬ (PtrW ws l o ∧ PadW ws o)) : WellIs ws b t 2 := by
  refine .inr ⟨?_, rfl⟩
  rintro ⟨l', h1, h2⟩
  rw [h] at h1
  cases h1
  exact hb (h2 o ho)
def PtrOk (l : List Nat) (x : Nat) : Prop := x = 0 ∨ (x ≤ 8192 ∧ 1 ≤ x ∧ x - 1 ∈ l)
instance (l : List Nat) (x : Nat) : Decidable (PtrOk l x) := by unfold PtrOk; infer_instance
end Go.Proofs.Ythhcmoknppljpaa
end
section
set_option linter.unusedVariables false
set_option linter.unusedSimpArgs false
set_option maxHeartbeats 4000000
namespace Go.Proofs.Ythhcmoknppljpaa
open Go.Sh Go.RowKit

/-- walking over words: places, and where it ends for want of an object -/
inductive Sc (x : Nat → BitVec 64) (t : Nat) : Nat → List Nat → Option Nat → Prop
  | done : Sc x t t [] none
  | bad {o : Nat} : o < t → ¬ (okW (x o) ∧ o + szW (x o) ≤ t) → Sc x t o [] (some o)
  | step {o : Nat} {l : List Nat} {b : Option Nat} : okW (x o) → o + szW (x o) ≤ t → Sc x t (o + szW (x o)) l b → Sc x t o (o :: l) b
theorem Sc.le {x : Nat → BitVec 64} {t o : Nat} {l : List Nat} {b : Option Nat} (h : Sc x t o l b) : o ≤ t := by
  cases h with
  | done => exact Nat.le_refl _
  | bad h1 _ => exact Nat.le_of_lt h1
  | step _ h2 _ => have := szW_pos (x := x o); omega
theorem Sc.congr {x y : Nat → BitVec 64} {t o : Nat} {l : List Nat} {b : Option Nat} (h : Sc x t o l b) (e : ∀ i, o ≤ i → i < t → x i = y i) : Sc y t o l b := by
  induction h with
  | done => exact .done
  | @bad o h1 h2 => rw [e o (Nat.le_refl _) h1] at h2; exact .bad h1 h2
  | @step o l b h1 h2 h3 ih =>
    have hp := szW_pos (x := x o)
    have e1 := e o (Nat.le_refl _) (by omega)
    have ih := ih fun i hi => e i (by omega)
    rw [e1] at h1 h2 ih
    exact .step h1 h2 ih
theorem Sc.all {x : Nat → BitVec 64} {t o : Nat} {l : List Nat} {b : Option Nat} (h : Sc x t o l b) : l.Pairwise (· < ·) ∧ ∀ p ∈ l, o ≤ p ∧ okW (x p) ∧ p + szW (x p) ≤ t := by
  induction h with
  | done => exact ⟨.nil, by simp⟩
  | bad => exact ⟨.nil, by simp⟩
  | @step o l b h1 h2 h3 ih =>
    have hp := szW_pos (x := x o)
    refine ⟨List.pairwise_cons.2 ⟨fun p hq => ?_, ih.1⟩, fun p hq => ?_⟩
    · have := (ih.2 p hq).1
      omega
    · rcases List.mem_cons.1 hq with rfl | hq
      · exact ⟨Nat.le_refl _, h1, h2⟩
      · have := ih.2 p hq
        exact ⟨by omega, this.2⟩
theorem Sc.count {x : Nat → BitVec 64} {t o : Nat} {l : List Nat} {b : Option Nat} (h : Sc x t o l b) : o + l.length ≤ t := by
  induction h with
  | done => simp
  | bad h1 _ => simp; omega
  | @step o l b h1 h2 h3 ih => have := szW_pos (x := x o); simp only [List.length_cons]; omega
theorem Sc.objs {ws : List (BitVec 64)} {t o : Nat} {l : List Nat} (h : Sc (wat ws) t o l none) : Objs ws t o l := by
  generalize hb : (none : Option Nat) = b at h
  induction h with
  | done => exact .nil
  | bad => cases hb
  | step h1 h2 _ ih => exact .cons h1 h2 (ih hb)
theorem Objs.sc {ws : List (BitVec 64)} {t o : Nat} {l : List Nat} (h : Objs ws t o l) : Sc (wat ws) t o l none := by
  induction h with
  | nil => exact .done
  | cons h1 h2 _ ih => exact .step h1 h2 ih
/-! findings -/
def padX (x : Nat → BitVec 64) (o : Nat) : Prop := bN (x o) % 8 ≠ 0 ∧ x (o + szW (x o) - 1) >>> (8 * (bN (x o) % 8)) ≠ 0#64
instance (x : Nat → BitVec 64) (o : Nat) : Decidable (padX x o) := by unfold padX; infer_instance
end Go.Proofs.Ythhcmoknppljpaa
end
section
set_option linter.unusedVariables false
set_option linter.unusedSimpArgs false
set_option maxHeartbeats 4000000
namespace Go.Proofs.Ythhcmoknppljpaa
open Go.Sh Go.RowKit

section
end
end Go.Proofs.Ythhcmoknppljpaa
end
section
set_option linter.unusedVariables false
set_option linter.unusedSimpArgs false
set_option maxHeartbeats 4000000
namespace Go.Proofs.Ythhcmoknppljpaa
open Go.Sh Go.RowKit

section
end
end Go.Proofs.Ythhcmoknppljpaa
end
section
set_option linter.unusedVariables false
set_option linter.unusedSimpArgs false
set_option maxHeartbeats 4000000
namespace Go.Proofs.Ythhcmoknppljpaa
open Go.Sh Go.RowKit

section
end
end Go.Proofs.Ythhcmoknppljpaa
end
section
set_option linter.unusedVariables false
set_option linter.unusedSimpArgs false
set_option maxHeartbeats 4000000
namespace Go.Proofs.Ythhcmoknppljpaa
open Go.Sh Go.RowKit

section
end
end Go.Proofs.Ythhcmoknppljpaa
end
section
set_option linter.unusedVariables false
set_option linter.unusedSimpArgs false
set_option maxHeartbeats 4000000
namespace Go.Proofs.Ythhcmoknppljpaa
open Go.Sh Go.RowKit

def nR (l : List (BitVec 64)) : Nat := (fieldB (wat l 1) 0 16).toNat
def sizeOk (l : List (BitVec 64)) : Prop := 2 ≤ l.length ∧ fieldB (wat l 1) 48 16 = BitVec.ofNat 64 0 ∧ fieldB (wat l 1) 16 32 = BitVec.ofNat 64 l.length ∧ nR l ≤ 64 ∧ 2 + 5 * nR l ≤ l.length
instance (l : List (BitVec 64)) : Decidable (sizeOk l) := by unfold sizeOk; infer_instance
end Go.Proofs.Ythhcmoknppljpaa
end
section
set_option linter.unusedVariables false
set_option linter.unusedSimpArgs false
set_option maxHeartbeats 4000000
namespace Go.Proofs.Ythhcmoknppljpaa
open Go.Sh Go.RowKit

section
end
end Go.Proofs.Ythhcmoknppljpaa
end
section
set_option linter.unusedVariables false
set_option linter.unusedSimpArgs false
set_option maxHeartbeats 4000000
namespace Go.Proofs.Ythhcmoknppljpaa
open Go.Sh Go.RowKit

end Go.Proofs.Ythhcmoknppljpaa
end
section
set_option linter.unusedVariables false
set_option linter.unusedSimpArgs false
set_option maxHeartbeats 4000000
namespace Go.Proofs.Ythhcmoknppljpaa
open Go.Sh Go.RowKit

def nameS (q : List (BitVec 64)) (at' : Nat) : List (BitVec 8) := cutN (bytesW q (8 * at') 32)
def nameB (q : List (BitVec 64)) (at' : Nat) : Prop := nmOk (nameS q at') ∧ fixN (nameS q at') = bytesW q (8 * at') 32
instance (q : List (BitVec 64)) (at' : Nat) : Decidable (nameB q at') := by unfold nameB; infer_instance
end Go.Proofs.Ythhcmoknppljpaa
end
section
set_option linter.unusedVariables false
set_option linter.unusedSimpArgs false
set_option maxHeartbeats 4000000
namespace Go.Proofs.Ythhcmoknppljpaa
open Go.Sh Go.RowKit

end Go.Proofs.Ythhcmoknppljpaa
end
section
set_option linter.unusedVariables false
set_option linter.unusedSimpArgs false
set_option maxHeartbeats 4000000
namespace Go.Proofs.Ythhcmoknppljpaa
open Go.Sh Go.RowKit Go.ChangeShapes Go.WideShapes Go.ChangeAt

end Go.Proofs.Ythhcmoknppljpaa
end
section
set_option linter.unusedVariables false
set_option linter.unusedSimpArgs false
set_option maxHeartbeats 4000000
namespace Go.Proofs.Ythhcmoknppljpaa
open Go.Sh Go.RowKit Go.ChangeShapes Go.WideShapes Go.ChangeAt

end Go.Proofs.Ythhcmoknppljpaa
end
section
set_option linter.unusedVariables false
set_option linter.unusedSimpArgs false
set_option maxHeartbeats 4000000
namespace Go.Proofs.Ythhcmoknppljpaa
open Go.Sh Go.RowKit

end Go.Proofs.Ythhcmoknppljpaa
end
section
set_option linter.unusedVariables false
set_option linter.unusedSimpArgs false
set_option maxHeartbeats 4000000
namespace Go.Proofs.Ythhcmoknppljpaa
open Go.Sh Go.RowKit

section
end
end Go.Proofs.Ythhcmoknppljpaa
end
section
set_option linter.unusedVariables false
set_option linter.unusedSimpArgs false
set_option maxHeartbeats 4000000
namespace Go.Proofs.Ythhcmoknppljpaa
open Go.Sh Go.RowKit

theorem strOf_list (s : List (BitVec 8)) : (strOf s).toList = s.map UInt8.ofBitVec := by
  rw [ByteArray.toList_eq]
  simp [strOf]
section
end
section
end
end Go.Proofs.Ythhcmoknppljpaa
end
section
set_option linter.unusedVariables false
set_option linter.unusedSimpArgs false
set_option maxHeartbeats 4000000
namespace Go.Proofs.Ythhcmoknppljpaa
open Go.Sh Go.RowKit

section
end
end Go.Proofs.Ythhcmoknppljpaa
end
section
set_option linter.unusedVariables false
set_option linter.unusedSimpArgs false
set_option maxHeartbeats 4000000
namespace Go.Proofs.Ythhcmoknppljpaa
open Go.Sh Go.RowKit

structure PhI (ns : List GN) (rs : List GR) (D : Nat → Prop) (ws : List (BitVec 64)) : Prop where
  len : ws.length = 2 + 5 * rs.length + gW ns
  yes : ∀ i, i < ws.length → D i → wat ws i = wat (encW ns rs) i
  no : ∀ i, i < ws.length → ¬ D i → wat ws i = c0
section
variable {ns : List GN} {rs : List GR}
theorem PhI.congr {D D' : Nat → Prop} {ws : List (BitVec 64)} (h : PhI ns rs D ws) (e : ∀ i, i < ws.length → (D i ↔ D' i)) : PhI ns rs D' ws :=
  ⟨h.len, fun i hi hd => h.yes i hi ((e i hi).2 hd), fun i hi hd => h.no i hi (fun h2 => hd ((e i hi).1 h2))⟩
end
end Go.Proofs.Ythhcmoknppljpaa
end
section
set_option linter.unusedVariables false
set_option linter.unusedSimpArgs false
set_option maxHeartbeats 4000000
namespace Go.Proofs.Ythhcmoknppljpaa
open Go.Sh Go.RowKit

end Go.Proofs.Ythhcmoknppljpaa
end
section
set_option linter.unusedVariables false
set_option linter.unusedSimpArgs false
set_option maxHeartbeats 4000000
namespace Go.Proofs.Ythhcmoknppljpaa
open Go.Sh Go.RowKit

end Go.Proofs.Ythhcmoknppljpaa
end
section
set_option linter.unusedVariables false
set_option linter.unusedSimpArgs false
set_option maxHeartbeats 4000000
namespace Go.Proofs.Ythhcmoknppljpaa
open Go.Sh Go.RowKit

abbrev OwnIt (w : World) (v : Value) (l : List Int) : Prop := Own w 3 1 v l.length (its l)
theorem appIt {w : World} {K : K1} {v : Value} {l : List Int} {o : Int} {g : Nat} {cs : List Value} (hO : OwnIt w v l) (hcs : cs = [i64 o]) (hl : l.length ≤ 100000)
    (hK : ∀ v' w', OwnIt w' v' (l ++ [o]) → Stp (blk v) (blk v') w w' → K v' w') (hg : g = w.heap.size := by first | rfl | (simp only [World.size_alloc, World.size_drew, World.size_setCell] <;> omega)) : xBuiltin Try.prog .append #[26, 26] 26 [false, false] [v, .slice (some ⟨g, 0, none⟩) 1 1] (w.alloc (.cells cs.toArray 3)) K := by
  subst hcs hg
  refine xAppL (bytes := 8) (z := .int .i64 0) (by kernel_rfl) (by kernel_rfl) (by rfl) (by decide) hO (by simp) (by simp [Value.oneCell']) (by omega) (by omega) fun v' w' h1 h2 => hK v' w' ?_ h2
  show Own w' 3 1 v' (l ++ [o]).length (its (l ++ [o]))
  rw [List.length_append, its, List.map_append]
  exact h1
/-- a row grows that lies behind a block -/
theorem grow {y w1 w2 : World} {hx : Nat} {v v' : Value} (F : Ext [hx] y w1) (U : ∀ z ∈ blk v, y.heap.size ≤ z) (hlt : hx < y.heap.size) (T : Stp (blk v) (blk v') w1 w2) : Ext [hx] y w2 ∧ (∀ z ∈ blk v', y.heap.size ≤ z) ∧ hx ∉ blk v ∧ hx ∉ blk v' := by
  have up : ∀ z ∈ blk v', y.heap.size ≤ z := fun z hz => by
    rcases T.at' z hz with h1 | h1
    · exact U z h1
    · have := F.size; omega
  exact ⟨F.cut T.ext (fun z hz => .inr (U z hz)), up, fun h => by have := U _ h; omega, fun h => by have := up _ h; omega⟩
end Go.Proofs.Ythhcmoknppljpaa
end
section
set_option linter.unusedVariables false
set_option linter.unusedSimpArgs false
set_option maxHeartbeats 4000000
namespace Go.Proofs.Ythhcmoknppljpaa
open Go.Sh Go.RowKit

theorem Sc.sum {x : Nat → BitVec 64} {t o : Nat} {l : List Nat} (h : Sc x t o l none) : (∀ j (hj : j < l.length), l[j] = o + ((l.take j).map fun p => szW (x p)).sum) ∧ o + (l.map fun p => szW (x p)).sum = t := by
  generalize hb : (none : Option Nat) = b at h
  induction h with
  | done => exact ⟨fun j hj => by simp at hj, by simp⟩
  | bad => cases hb
  | @step o l b h1 h2 h3 ih =>
    obtain ⟨i1, i2⟩ := ih hb
    refine ⟨fun j hj => ?_, by simp only [List.map_cons, List.sum_cons]; omega⟩
    cases j with
    | zero => simp
    | succ j =>
      simp only [List.getElem_cons_succ, List.take_succ_cons, List.map_cons, List.sum_cons]
      rw [i1 j (by simpa using hj)]
      omega
/-! the graph that words are read as -/
def bare (x : GN) : GN := ⟨x.p, none, 0, x.d, none, 0⟩
theorem bare_gW (ns : List GN) : gW (ns.map bare) = gW ns := by
  unfold gW
  rw [List.map_map]
  rfl
section
end
end Go.Proofs.Ythhcmoknppljpaa
end
section
set_option linter.unusedVariables false
set_option linter.unusedSimpArgs false
set_option maxHeartbeats 4000000
namespace Go.Proofs.Ythhcmoknppljpaa
open Go.Sh Go.RowKit

theorem nodup_len : ∀ (n : Nat) (l : List Int), l.Nodup → (∀ p ∈ l, okNo n p) → l.length ≤ n
  | 0, l, _, h => by
    cases l with
    | nil => simp
    | cons p l => have := h p (List.mem_cons_self ..); omega
  | n + 1, l, hd, h => by
    have h2 := nodup_len n (l.erase ((n : Int) + 1)) (hd.erase _) fun p hp => by
      have h3 := (hd.mem_erase_iff).1 hp
      have := h p h3.2
      have := h3.1
      omega
    by_cases hm : ((n : Int) + 1) ∈ l
    · rw [List.length_erase_of_mem hm] at h2
      omega
    · rw [List.erase_of_not_mem hm] at h2
      omega
def addN (n : Nat) (out : List Int) (p : Int) : List Int := if okNo n p ∧ p ∉ out then out ++ [p] else out
def addL (n : Nat) (out : List Int) (ps : List Int) : List Int := ps.foldl (addN n) out
def ptrsOf (ns : List GN) (q : Int) : List Int := match ns[q.toNat - 1]? with
  | some x => x.p
  | none => []
def bfs (ns : List GN) : Nat → Nat → List Int → List Int
  | 0, _, out => out
  | f + 1, i, out => match out[i]? with
    | none => out
    | some q => bfs ns f (i + 1) (addL ns.length out (ptrsOf ns q))
def ordV (ns : List GN) (fr : List Int) : List Int := bfs ns (ns.length + 1) 0 (addL ns.length [] fr)
/-- numbers of nodes, none twice -/
structure OutOk (n : Nat) (out : List Int) : Prop where
  nd : out.Nodup
  ok : ∀ p ∈ out, okNo n p
theorem OutOk.len {n : Nat} {out : List Int} (h : OutOk n out) : out.length ≤ n := nodup_len n out h.nd h.ok
theorem OutOk.nil {n : Nat} : OutOk n [] := ⟨List.nodup_nil, by simp⟩
theorem OutOk.add {n : Nat} {out : List Int} (h : OutOk n out) (p : Int) : OutOk n (addN n out p) := by
  unfold addN
  split
  · rename_i hp
    refine ⟨?_, fun q hq => ?_⟩
    · rw [List.nodup_append]
      refine ⟨h.nd, by simp, fun a ha b hb => ?_⟩
      rw [List.mem_singleton] at hb
      subst hb
      intro e
      subst e
      exact hp.2 ha
    · rcases List.mem_append.1 hq with hq | hq
      · exact h.ok q hq
      · rw [List.mem_singleton] at hq
        subst hq
        exact hp.1
  · exact h
theorem OutOk.addL {n : Nat} : ∀ (ps : List Int) {out : List Int}, OutOk n out → OutOk n (addL n out ps)
  | [], _, h => h
  | p :: ps, _, h => OutOk.addL ps (h.add p)
theorem addN_sub {n : Nat} {out : List Int} {p q : Int} (h : q ∈ out) : q ∈ addN n out p := by
  unfold addN
  split
  · exact List.mem_append_left _ h
  · exact h
theorem addL_sub {n : Nat} : ∀ (ps : List Int) {out : List Int} {q : Int}, q ∈ out → q ∈ addL n out ps
  | [], _, _, h => h
  | p :: ps, _, _, h => addL_sub ps (addN_sub h)
theorem bfs_end {ns : List GN} {out : List Int} {i : Nat} (h : out.length ≤ i) : ∀ f, bfs ns f i out = out
  | 0 => rfl
  | f + 1 => by rw [bfs, List.getElem?_eq_none h]
theorem bfs_step {ns : List GN} {out : List Int} {i f : Nat} (h : i < out.length) : bfs ns (f + 1) i out = bfs ns f (i + 1) (addL ns.length out (ptrsOf ns out[i])) := by
  rw [bfs, List.getElem?_eq_getElem h]
/-! a graph in other numbers -/
section
end
end Go.Proofs.Ythhcmoknppljpaa
end
section
set_option linter.unusedVariables false
set_option linter.unusedSimpArgs false
set_option maxHeartbeats 4000000
namespace Go.Proofs.Ythhcmoknppljpaa
open Go.Sh Go.RowKit

def rk (bs : List Bool) (i : Nat) : Nat := (bs.take i).countP id
def sel {α β : Type} (f : α → β) (l : List α) (bs : List Bool) : List β := (l.zip bs).flatMap fun y => if y.2 then [f y.1] else []
theorem sel_cons {α β : Type} (f : α → β) (x : α) (l : List α) (b : Bool) (bs : List Bool) : sel f (x :: l) (b :: bs) = (if b then [f x] else []) ++ sel f l bs := by
  unfold sel
  rw [List.zip_cons_cons, List.flatMap_cons]
theorem sel_len {α β : Type} (f : α → β) : ∀ (l : List α) (bs : List Bool), bs.length = l.length → (sel f l bs).length = bs.countP id
  | [], [], _ => rfl
  | [], _ :: _, h => by simp at h
  | _ :: _, [], h => by simp at h
  | x :: l, b :: bs, h => by
    rw [sel_cons, List.length_append, sel_len f l bs (by simpa using h), List.countP_cons]
    cases b <;> simp <;> omega
theorem sel_mem {α β : Type} (f : α → β) : ∀ (l : List α) (bs : List Bool) (y : β), y ∈ sel f l bs → ∃ x ∈ l, y = f x
  | [], _, y, h => by simp [sel] at h
  | _ :: _, [], y, h => by simp [sel] at h
  | x :: l, b :: bs, y, h => by
    rw [sel_cons] at h
    rcases List.mem_append.1 h with h | h
    · cases b
      · simp at h
      · simp at h
        exact ⟨x, List.mem_cons_self .., h⟩
    · obtain ⟨z, hz, e⟩ := sel_mem f l bs y h
      exact ⟨z, List.mem_cons_of_mem _ hz, e⟩
theorem sel_take {α β : Type} (f : α → β) (l : List α) (bs : List Bool) (k : Nat) (h : k < l.length) (h' : k < bs.length) : sel f (l.take (k + 1)) (bs.take (k + 1)) = sel f (l.take k) (bs.take k) ++ (if bs[k] then [f l[k]] else []) := by
  unfold sel
  rw [List.take_add_one, List.take_add_one, List.getElem?_eq_getElem h, List.getElem?_eq_getElem h', Option.toList_some, Option.toList_some, List.zip_append (by simp; omega), List.flatMap_append]
  simp
theorem rk_succ {bs : List Bool} {k : Nat} (h : k < bs.length) : rk bs (k + 1) = rk bs k + (if bs[k] then 1 else 0) := by
  unfold rk
  rw [List.take_add_one, List.getElem?_eq_getElem h, Option.toList_some, List.countP_append]
  cases bs[k] <;> simp
theorem rk_le {bs : List Bool} (i : Nat) : rk bs i ≤ i := by
  unfold rk
  have := List.countP_le_length (p := id) (l := bs.take i)
  rw [List.length_take] at this
  omega
def noB (bs : List Bool) (i : Nat) : Int := if bs.getD i false then (rk bs i : Int) + 1 else 0
def toB (bs : List Bool) (p : Int) : Int := if okNo bs.length p then noB bs (p.toNat - 1) else 0
def trN (bs : List Bool) (x : GN) : GN := ⟨x.p.map (toB bs), none, 0, x.d, none, 0⟩
def trNs (ns : List GN) (bs : List Bool) : List GN := sel (trN bs) ns bs
def trRs (rs : List GR) (bs : List Bool) : List GR := rs.map fun r => ⟨r.s, toB bs r.to⟩
theorem getD_at {bs : List Bool} {i : Nat} (h : i < bs.length) : bs.getD i false = bs[i] := by rw [List.getD_eq_getElem?_getD, List.getElem?_eq_getElem h]; rfl
section
end
end Go.Proofs.Ythhcmoknppljpaa
end
section
set_option linter.unusedVariables false
set_option linter.unusedSimpArgs false
set_option maxHeartbeats 4000000
namespace Go.Proofs.Ythhcmoknppljpaa
open Go.Sh Go.RowKit

section
end
end Go.Proofs.Ythhcmoknppljpaa
end
section
set_option linter.unusedVariables false
set_option linter.unusedSimpArgs false
set_option maxHeartbeats 4000000
namespace Go.Proofs.Ythhcmoknppljpaa
open Go.Sh Go.RowKit

/-- a node's rows lie apart from blocks -/
structure Apt (M : List Nat) (x : GN) : Prop where
  p : ∀ y, x.pa = some y → x.p ≠ [] → y.block ∉ M
  d : ∀ y, x.da = some y → x.d ≠ [] → y.block ∉ M
theorem NOk.ext {w w' : World} {M : List Nat} {x : GN} (h : NOk w x) (hx : Ext M w w') (ha : Apt M x) : NOk w' x := by
  refine ⟨?_, h.pl, h.pn, ?_, h.dl, h.dn⟩
  · by_cases e : x.p = []
    · rw [e]; exact .nil
    · exact h.pr.ext hx fun b o hb => ha.p _ hb e
  · by_cases e : x.d = []
    · rw [e]; exact .nil
    · exact h.dr.ext hx fun b o hb => ha.d _ hb e
theorem NOk.lt {w : World} {x : GN} (h : NOk w x) : (∀ y, x.pa = some y → x.p ≠ [] → y.block < w.heap.size) ∧ ∀ y, x.da = some y → x.d ≠ [] → y.block < w.heap.size := by
  constructor
  · intro y hy hn
    obtain ⟨b, o, h1, h2, _⟩ := h.pr.get (by simpa using hn)
    rw [hy] at h1
    cases h1
    exact h2
  · intro y hy hn
    obtain ⟨b, o, h1, h2, _⟩ := h.dr.get (by simpa using hn)
    rw [hy] at h1
    cases h1
    exact h2
/-- the blocks grow, but only by new ones -/
theorem Apt.more {w : World} {M M' : List Nat} {x : GN} (h : Apt M x) (hk : NOk w x) (hm : ∀ b ∈ M', b ∈ M ∨ w.heap.size ≤ b) : Apt M' x := by
  obtain ⟨h1, h2⟩ := hk.lt
  constructor
  · intro y hy hn hb
    rcases hm _ hb with h3 | h3
    · exact h.p y hy hn h3
    · have := h1 y hy hn; omega
  · intro y hy hn hb
    rcases hm _ hb with h3 | h3
    · exact h.d y hy hn h3
    · have := h2 y hy hn; omega
/-- a block that holds other things -/
theorem Apt.cons {w : World} {M : List Nat} {x : GN} {g : Nat} {e : TypeId} {cells : List Value} (h : Apt M x) (hk : NOk w x) (B : Blk w g e cells) (hc : ∀ v ∈ cells, (∀ i, v ≠ i64 i) ∧ ∀ c : BitVec 8, v ≠ u8 c) : Apt (g :: M) x := by
  constructor
  · intro y hy hn hm
    rcases List.mem_cons.1 hm with hm | hm
    · obtain ⟨b, o, h1, h2, h3⟩ := hk.pr.get (by simpa using hn)
      rw [hy] at h1
      cases h1
      simp only at hm
      subst hm
      have hl : 0 < (its x.p).length := by simpa using List.length_pos_iff.2 hn
      have h4 := h3 0 _ (List.getElem?_eq_getElem hl)
      rw [B.cell] at h4
      have h5 := List.mem_of_getElem? h4
      rw [List.getElem_map] at h5
      exact (hc _ h5).1 _ rfl
    · exact h.p y hy hn hm
  · intro y hy hn hm
    rcases List.mem_cons.1 hm with hm | hm
    · obtain ⟨b, o, h1, h2, h3⟩ := hk.dr.get (by simpa using hn)
      rw [hy] at h1
      cases h1
      simp only at hm
      subst hm
      have hl : 0 < (bys x.d).length := by simpa using List.length_pos_iff.2 hn
      have h4 := h3 0 _ (List.getElem?_eq_getElem hl)
      rw [B.cell] at h4
      have h5 := List.mem_of_getElem? h4
      rw [List.getElem_map] at h5
      exact (hc _ h5).2 _ rfl
    · exact h.d y hy hn hm
abbrev OwnGN (w : World) (v : Value) (l : List GN) : Prop := Own w 53 2 v l.length (l.flatMap gnC)
abbrev OwnGR (w : World) (v : Value) (l : List GR) : Prop := Own w 58 2 v l.length (l.flatMap grC)
set_option maxRecDepth 100000 in
theorem appGN {w : World} {K : K1} {v : Value} {l : List GN} {x : GN} {g : Nat} {cs : List Value} (hO : OwnGN w v l) (hcs : cs = gnC x) (hl : l.length ≤ 1000000)
    (hK : ∀ v' w', OwnGN w' v' (l ++ [x]) → Stp (blk v) (blk v') w w' → K v' w') (hg : g = w.heap.size := by first | rfl | (simp only [World.size_alloc, World.size_drew, World.size_setCell] <;> omega)) : xBuiltin Try.prog .append #[22, 22] 22 [false, false] [v, .slice (some ⟨g, 0, none⟩) 1 1] (w.alloc (.cells cs.toArray 53)) K := by
  subst hcs hg
  refine xAppL (s := 2) (n := l.length) (m := 1) (xs := l.flatMap gnC) (news := gnC x) (bytes := 48) (z := .agg #[.slice none 0 0, .slice none 0 0]) (by kernel_rfl) (by kernel_rfl) (by rfl) (by decide) hO (by rfl) (by simp [gnC, Value.oneCell']) (by omega) (by omega) fun v' w' h1 h2 => hK v' w' ?_ h2
  show Own w' 53 2 v' (l ++ [x]).length ((l ++ [x]).flatMap gnC)
  rw [List.length_append, List.flatMap_append]
  simpa using h1
set_option maxRecDepth 100000 in
theorem appGR {w : World} {K : K1} {v : Value} {l : List GR} {x : GR} {g : Nat} {cs : List Value} (hO : OwnGR w v l) (hcs : cs = grC x) (hl : l.length ≤ 1000000)
    (hK : ∀ v' w', OwnGR w' v' (l ++ [x]) → Stp (blk v) (blk v') w w' → K v' w') (hg : g = w.heap.size := by first | rfl | (simp only [World.size_alloc, World.size_drew, World.size_setCell] <;> omega)) : xBuiltin Try.prog .append #[23, 23] 23 [false, false] [v, .slice (some ⟨g, 0, none⟩) 1 1] (w.alloc (.cells cs.toArray 58)) K := by
  subst hcs hg
  refine xAppL (s := 2) (n := l.length) (m := 1) (xs := l.flatMap grC) (news := grC x) (bytes := 24) (z := .agg #[.string ⟨#[]⟩, .int .i64 0]) (by kernel_rfl) (by kernel_rfl) (by rfl) (by decide) hO (by rfl) (by simp [grC, Value.oneCell']) (by omega) (by omega) fun v' w' h1 h2 => hK v' w' ?_ h2
  show Own w' 58 2 v' (l ++ [x]).length ((l ++ [x]).flatMap grC)
  rw [List.length_append, List.flatMap_append]
  simpa using h1
theorem ClipGN_spec {w : World} {b : Option Addr} {n m : Nat} (hm : n ≤ m) : Gives Try.prog n_slices_Clip_graph_Node_graph_Node #[.slice b n m] w (.slice b n n) := by
  refine slices_Clip_graph_Node_graph_Node_of ?_
  unfold slices_Clip_graph_Node_graph_Node
  have hs := fun (K : K1) (w : World) => xSlice_hms (P := Try.prog) (w := w) (K := K) (t := 22) (z := 2) (k := .i64) (k' := .i64) (a := b) (n := n) (c := m) (h := (n : Int)) (m := (n : Int)) (by kernel_rfl) (by kernel_rfl) (by omega) (by omega) (by omega)
  simp (disch := (first | omega | decide | (simp only [rsD] <;> omega) | fail)) only [↓rsC, rsK, rsL, ↓ln_22, tick_eq, tickV_eq, ne_eq, Int.reduceAdd, Int.reduceSub, Int.reduceMul, Int.reduceEq, Int.reduceLT, Int.reduceLE, Int.reduceToNat, Nat.reduceMul, Nat.reduceAdd, Nat.reduceSub, ←decide_not, hs]
  exact ⟨by simp, Ext.refl _ _⟩
theorem ClipGR_spec {w : World} {b : Option Addr} {n m : Nat} (hm : n ≤ m) : Gives Try.prog n_slices_Clip_graph_Root_graph_Root #[.slice b n m] w (.slice b n n) := by
  refine slices_Clip_graph_Root_graph_Root_of ?_
  unfold slices_Clip_graph_Root_graph_Root
  have hs := fun (K : K1) (w : World) => xSlice_hms (P := Try.prog) (w := w) (K := K) (t := 23) (z := 2) (k := .i64) (k' := .i64) (a := b) (n := n) (c := m) (h := (n : Int)) (m := (n : Int)) (by kernel_rfl) (by kernel_rfl) (by omega) (by omega) (by omega)
  simp (disch := (first | omega | decide | (simp only [rsD] <;> omega) | fail)) only [↓rsC, rsK, rsL, ↓ln_23, tick_eq, tickV_eq, ne_eq, Int.reduceAdd, Int.reduceSub, Int.reduceMul, Int.reduceEq, Int.reduceLT, Int.reduceLE, Int.reduceToNat, Nat.reduceMul, Nat.reduceAdd, Nat.reduceSub, ←decide_not, hs]
  exact ⟨by simp, Ext.refl _ _⟩
end Go.Proofs.Ythhcmoknppljpaa
end
section
set_option linter.unusedVariables false
set_option linter.unusedSimpArgs false
set_option maxHeartbeats 4000000
namespace Go.Proofs.Ythhcmoknppljpaa
open Go.Sh Go.RowKit

abbrev NewIt (w w' : World) (v : Value) (l : List Int) : Prop := NewR 3 1 w w' v l.length (its l)
abbrev bls (l : List Bool) : List Value := l.map fun b => .bool b
abbrev rsRea1_0 := (And.intro @xu8_eql (And.intro @xu16_eql (And.intro @xu32_eql (And.intro @xu64_eql (And.intro @xi64_eql (And.intro @bs_26_0 (And.intro @bs_26_1 @nq_26)))))))
theorem CloneI_spec (l : List Int) (a : Option Addr) (c : Nat) (w : World) (hl : l.length ≤ 1000000) (h : RowAt w a (its l)) (hn : a = none → c = 0) :
    Yld Try.prog n_slices_Clone_int_int #[.slice a l.length c] w fun u w' => NewIt w w' u l := by
  refine slices_Clone_int_int_of ?_
  unfold slices_Clone_int_int
  cases a with
  | none =>
    have hw : l = [] := by rcases h with h | ⟨b, o, h, _⟩; simpa using h; cases h
    subst hw
    simp (disch := (first | omega | decide | (simp only [rsD] <;> omega) | fail)) only [↓rsC, rsK, rsL, ↓rsRea1_0, tick_eq, tickV_eq, ne_eq, Int.reduceAdd, Int.reduceSub, Int.reduceMul, Int.reduceEq, Int.reduceLT, Int.reduceLE, Int.reduceToNat, Nat.reduceMul, Nat.reduceAdd, Nat.reduceSub, ←decide_not, eq_self]
    exact NewR.nil (Ext.refl _ _)
  | some a =>
    simp (disch := (first | omega | decide | (simp only [rsD] <;> omega) | fail)) only [↓rsC, rsK, rsL, ↓rsRea1_0, tick_eq, tickV_eq, ne_eq, Int.reduceAdd, Int.reduceSub, Int.reduceMul, Int.reduceEq, Int.reduceLT, Int.reduceLE, Int.reduceToNat, Nat.reduceMul, Nat.reduceAdd, Nat.reduceSub, ←decide_not, eq_self]
    refine xAppend_own (e := 3) (base := w.heap.size) (xs := []) (news := its l) (z := .int .i64 0) (bytes := 8) (by kernel_rfl) (by kernel_rfl) (by rfl) (World.ownsRow_lit w #[] 0 (Nat.le_refl _) (by decide) (by rfl)) (by simp) (h.ext0 (Ext.alloc _ _ _)) hn (by simp [Value.oneCell']) (by omega) (by omega) (by simp) ?_
    intro v' w' hown hgr
    rw [Nat.zero_add, List.nil_append] at hown
    have F2 : Ext [] w w' := grownBy_new (Ext.alloc [] w _) hgr (fun k hk => by simp [Value.ownBlock] at hk; omega)
    exact ⟨F2, Own.of hown, fun b hb => (World.ownsRow.lt hown b (by simpa using hb)).1⟩
abbrev rsRea1_1 := (And.intro @xu8_sub (And.intro @xu8_lss (And.intro @xu8_gtr (And.intro @xu16_sub (And.intro @xu16_lss (And.intro @xu16_gtr (And.intro @xu32_sub (And.intro @xu32_lss (And.intro @xu32_gtr (And.intro @xu64_sub (And.intro @xu64_lss (And.intro @xu64_gtr (And.intro @xi64_lss (And.intro @xi64_gtr (And.intro @ld_3 (And.intro @ld_4 
  (And.intro @ld_22 (And.intro @ld_26 (And.intro @fa_25_0 (And.intro @fa_53_0 (And.intro @st_4 (And.intro @ia_22 (And.intro @ia_26 (And.intro @ia_37 (And.intro @ln_22 (And.intro @ln_26 (And.intro @mk_37 (And.intro @sh_26 @sm_26))))))))))))))))))))))))))))
theorem Reach_spec {w : World} {na ra : Option Addr} {nc rc : Nat} {ns : List GN} {rs : List GR} (h : GIs w na nc ra rc ns rs) (hf : FewH ns rs) {fr : List Int} {a : Option Addr} {c : Nat} (hfr : RowAt w a (its fr)) (hn : a = none → c = 0) (hl : fr.length ≤ 1000000) :
    Yld Try.prog n_graph_Reach #[gV na nc ra rc ns rs, .slice a fr.length c] w fun u w' => ∃ bs, RchOk ns fr bs ∧ NewR 4 1 w w' u bs.length (bls bs) := by
  have hfn := hf.n
  refine graph_Reach_of ?_
  unfold graph_Reach
  have gbox : ∀ (y : World) (K : K1), xBox Try.prog 25 (gV na nc ra rc ns rs) y K = K (ptr y.heap.size) (y.alloc (.cells #[.slice na ns.length nc, .slice ra rs.length rc] 25)) := fun y K => xBox_r
  rw [gbox]
  have B1 : Blk (w.alloc (.cells #[.slice na ns.length nc, .slice ra rs.length rc] 25)) w.heap.size 25 [.slice na ns.length nc, .slice ra rs.length rc] := Blk.at rfl
  have X1 : Ext [] w (w.alloc (.cells #[.slice na ns.length nc, .slice ra rs.length rc] 25)) := Ext.alloc _ _ _
  generalize w.alloc (.cells #[.slice na ns.length nc, .slice ra rs.length rc] 25) = y1 at *
  generalize hg1 : w.heap.size = g1 at *
  have k1 := fun i => B1.cell (i := i)
  simp (disch := (first | omega | decide | (simp only [rsD] <;> omega) | fail)) only [↓rsC, rsK, rsL, ↓rsRea1_1, tick_eq, tickV_eq, ne_eq, Int.reduceAdd, Int.reduceSub, Int.reduceMul, Int.reduceEq, Int.reduceLT, Int.reduceLE, Int.reduceToNat, Nat.reduceMul, Nat.reduceAdd, Nat.reduceSub, ←decide_not, k1]
  have B2 : Blk (y1.alloc (.cells (List.replicate ns.length (Value.bool false)).toArray 4)) y1.heap.size 4 (bls (List.replicate ns.length false)) := by
    rw [show bls (List.replicate ns.length false) = List.replicate ns.length (Value.bool false) from List.map_replicate]
    exact Blk.at rfl
  have X2 : Ext [] y1 (y1.alloc (.cells (List.replicate ns.length (Value.bool false)).toArray 4)) := Ext.alloc _ _ _
  have B12 := B1.ext X2 (by simp)
  have z1 := X1.size
  have z1' := B1.lt
  generalize y1.alloc (.cells (List.replicate ns.length (Value.bool false)).toArray 4) = y2 at *
  obtain ⟨ob, hob⟩ : ∃ g, g = y1.heap.size := ⟨_, rfl⟩
  rw [← hob] at B2 ⊢
  have zob := B2.lt
  have X12 := X1.trans X2
  have G2 := h.ext0 X12
  refine slices_Clone_int_int_call (Yld.mono (CloneI_spec fr a c y2 hl (hfr.ext0 X12) hn) ?_)
  rintro v y3 N3
  obtain ⟨N, hN⟩ : ∃ N, N = wtR ns (List.replicate ns.length false) + fr.length := ⟨_, rfl⟩
  have hNb : N ≤ 90000000 := by
    have h1 := wtR_le (B := 9000) ns (List.replicate ns.length false) (fun x hx => (hf.x x hx).1)
    have h2 : ns.length * 9001 ≤ 9000 * 9001 := Nat.mul_le_mul_right _ hfn
    omega
  have fresh : ∀ {w' : World}, Ext [ob] y2 w' → Ext [] w w' := fun F => X12.new F (fun z hz => by simp only [List.mem_singleton] at hz; omega)
  have ne1 : g1 ∉ [ob] := by simp only [List.mem_singleton]; omega
  have fin : ∀ (out : List Bool) (v : Value) (w' : World) nxt, RchI ns fr out [] → Ext [ob] y2 w' → Blk w' ob 4 (bls out) → OwnIt w' v [] → graph_Reach_l1 (fun u w' => ∃ bs, RchOk ns fr bs ∧ NewR 4 1 w w' u bs.length (bls bs)) nxt (ptr g1) (.slice (some ⟨ob, 0, none⟩) ns.length ns.length) v w' := by
    intro out v w' nxt I F B O
    obtain ⟨a0, c0, hv, _⟩ := O.slice
    subst hv
    unfold graph_Reach_l1
    simp (disch := (first | omega | decide | (simp only [rsD] <;> omega) | fail)) only [↓rsC, rsK, rsL, ↓rsRea1_1, tick_eq, tickV_eq, ne_eq, Int.reduceAdd, Int.reduceSub, Int.reduceMul, Int.reduceEq, Int.reduceLT, Int.reduceLE, Int.reduceToNat, Nat.reduceMul, Nat.reduceAdd, Nat.reduceSub, ←decide_not, k1]
    have hlen := I.len
    refine ⟨out, rch_done I, fresh F, ?_, fun z hz => ?_⟩
    · rw [← hlen]
      exact Own.close (rest := []) (by rw [List.append_nil]; exact B) (Nat.le_refl _) (by simp only [maxLen]; omega) (by simp) (by simp)
    · simp [blk, Value.ownBlock] at hz
      omega
  refine xLoop_r N (fun k vs w' => ∃ out l v, vs = [v] ∧ RchI ns fr out l ∧ wtR ns out + l.length ≤ N - k ∧ Ext [ob] y2 w' ∧ Blk w' ob 4 (bls out) ∧ OwnIt w' v l ∧ ∀ z ∈ blk v, y2.heap.size ≤ z) ⟨_, fr, v, rfl, rch_init, by omega, N3.1.more (by simp), B2.ext N3.1 (by simp), N3.2.1, N3.2.2⟩ ?_ ?_
  rotate_left
  · rintro u w4 ⟨out, l, v4, hu, I, hw, F, B, O, U⟩ nxt
    simp only [List.map_cons, List.map_nil, List.cons.injEq, and_true] at hu
    rw [hu]
    have hl0 : l = [] := List.eq_nil_of_length_eq_zero (by omega)
    subst hl0
    exact fin out v4 w4 nxt I F B O
  rintro k hk u w4 ⟨out, l, v4, hu, I, hw, F, B, O, U⟩ nxt hnx
  simp only [List.map_cons, List.map_nil, List.cons.injEq, and_true] at hu
  rw [hu]
  rcases List.eq_nil_or_concat l with hl0 | ⟨l', q, hl0⟩
  · subst hl0
    exact fin out v4 w4 nxt I F B O
  rw [List.concat_eq_append] at hl0
  subst hl0
  have hll : (l' ++ [q]).length = l'.length + 1 := by simp
  rw [hll] at hw
  have O' : Own w4 3 1 v4 (l'.length + 1) (its (l' ++ [q])) := by
    have := O
    unfold OwnIt at this
    rw [hll] at this
    exact this
  obtain ⟨a4, c4, rfl, Op, hblk⟩ := O'.pop
  have htk : (its (l' ++ [q])).take l'.length = its l' := by simp
  rw [htk] at Op
  obtain ⟨_, _, hvv, hc4, _, _, R4, _⟩ := O'.slice
  cases hvv
  obtain ⟨bq, oq, eq, _, cq⟩ := R4.at (i := l'.length) (by simp)
  cases eq
  have hcq : w4.cell? ⟨bq, oq + l'.length, none⟩ = some (i64 q) := by rw [cq]; simp
  have k1 := fun i => (B12.ext F ne1).cell (i := i)
  have t1 : (((l'.length + 1 : Nat) : Int) - 1).toNat = l'.length := by omega
  have e1 : ((l'.length + 1 : Nat) : Int) - 1 = (l'.length : Int) := by omega
  have hpos : 0 < ((l'.length + 1 : Nat) : Int) := by omega
  unfold graph_Reach_l1
  simp (disch := (first | omega | decide | (simp only [rsD] <;> omega) | fail)) only [↓rsC, rsK, rsL, ↓rsRea1_1, tick_eq, tickV_eq, ne_eq, Int.reduceAdd, Int.reduceSub, Int.reduceMul, Int.reduceEq, Int.reduceLT, Int.reduceLE, Int.reduceToNat, Nat.reduceMul, Nat.reduceAdd, Nat.reduceSub, ←decide_not, k1, e1, t1, hcq]
  rw [t1]
  have U' : ∀ z ∈ blk (.slice (some ⟨bq, oq, none⟩) l'.length c4), y2.heap.size ≤ z := fun z hz => U z (by rw [← hblk]; exact hz)
  have skip : (okNo ns.length q → out.getD (q.toNat - 1) false = true) → nxt [.slice (some ⟨bq, oq, none⟩) l'.length c4] w4 := fun hs => hnx _ _ ⟨out, l', _, rfl, rch_skip I hs, by omega, F, B, Op, U'⟩
  have hlen := I.len
  by_cases hq1 : q < 1
  · simp (disch := (first | omega | decide | (simp only [rsD] <;> omega) | fail)) only [↓rsC, rsK, rsL, ↓rsRea1_1, tick_eq, tickV_eq, ne_eq, Int.reduceAdd, Int.reduceSub, Int.reduceMul, Int.reduceEq, Int.reduceLT, Int.reduceLE, Int.reduceToNat, Nat.reduceMul, Nat.reduceAdd, Nat.reduceSub, ←decide_not, k1, e1, t1, hcq, hq1]
    exact skip fun ho => by omega
  by_cases hq2 : (ns.length : Int) < q
  · simp (disch := (first | omega | decide | (simp only [rsD] <;> omega) | fail)) only [↓rsC, rsK, rsL, ↓rsRea1_1, tick_eq, tickV_eq, ne_eq, Int.reduceAdd, Int.reduceSub, Int.reduceMul, Int.reduceEq, Int.reduceLT, Int.reduceLE, Int.reduceToNat, Nat.reduceMul, Nat.reduceAdd, Nat.reduceSub, ←decide_not, k1, e1, t1, hcq, hq1, hq2]
    exact skip fun ho => by omega
  have hi : q.toNat - 1 < ns.length := by omega
  have hi' : q.toNat - 1 < out.length := by omega
  have tq : (q - 1).toNat = q.toNat - 1 := by omega
  have hqb : q ≤ 9000 := by omega
  have kb := fun i => B.cell (i := i)
  have fb := fun i => B.frozen (i := i)
  have cb : (bls out)[q.toNat - 1]? = some (.bool out[q.toNat - 1]) := by simp [hi']
  cases hob2 : out[q.toNat - 1] with
  | true =>
    rw [hob2] at cb
    simp (disch := (first | omega | decide | (simp only [rsD] <;> omega) | fail)) only [↓rsC, rsK, rsL, ↓rsRea1_1, tick_eq, tickV_eq, ne_eq, Int.reduceAdd, Int.reduceSub, Int.reduceMul, Int.reduceEq, Int.reduceLT, Int.reduceLE, Int.reduceToNat, Nat.reduceMul, Nat.reduceAdd, Nat.reduceSub, ←decide_not, k1, e1, t1, hcq, hq1, hq2, kb, tq, cb]
    exact skip fun _ => by rw [getD_at hi', hob2]
  | false =>
    rw [hob2] at cb
    obtain ⟨bn, on, rfl, zn, _, _⟩ := gn_at h.nr hi
    obtain ⟨_, _, en, _, c1, c2⟩ := gn_at (h.nr.ext0 (fresh F)) hi
    cases en
    have hx := h.ok _ (List.getElem_mem hi)
    have lx := hf.x _ (List.getElem_mem hi)
    have hws := wtR_set ns out (q.toNat - 1) hi hi' hob2
    have Inew := rch_new I ⟨by omega, by omega⟩ hi
    have nbo : bn ≠ ob := by omega
    generalize ns[q.toNat - 1] = x at *
    simp (disch := (first | omega | decide | (simp only [rsD] <;> omega) | fail)) only [↓rsC, rsK, rsL, ↓rsRea1_1, tick_eq, tickV_eq, ne_eq, Int.reduceAdd, Int.reduceSub, Int.reduceMul, Int.reduceEq, Int.reduceLT, Int.reduceLE, Int.reduceToNat, Nat.reduceMul, Nat.reduceAdd, Nat.reduceSub, ←decide_not, k1, e1, t1, hcq, hq1, hq2, kb, tq, cb, fb, c1]
    have E5 : Ext [ob] w4 (w4.setCell ⟨ob, q.toNat - 1, none⟩ (.bool true)) := Ext.set
    have B5 := B.set (i := q.toNat - 1) (v := .bool true)
    have eb : (bls out).set (q.toNat - 1) (.bool true) = bls (out.set (q.toNat - 1) true) := List.map_set.symm
    rw [eb] at B5
    have F5 := F.trans E5
    have nob : ob ∉ blk (.slice (some ⟨bq, oq, none⟩) l'.length c4) := fun hm => by have := U' _ hm; omega
    have O5 := Op.ext E5 (fun z hz hm => by simp only [List.mem_singleton] at hm; subst hm; exact nob hz)
    generalize w4.setCell ⟨ob, q.toNat - 1, none⟩ (.bool true) = w5 at *
    have hx5 := hx.ext0 (fresh F5)
    refine xApp (e := 3) (s := 1) (n := l'.length) (m := x.p.length) (xs := its l') (news := its x.p) (bytes := 8) (z := .int .i64 0) (by kernel_rfl) (by kernel_rfl) (by rfl) (by decide) O5 (by simp) hx5.pr hx5.pn hx5.pl (by simp [Value.oneCell']) (by omega) (by omega) fun v' w6 O6 T6 => ?_
    obtain ⟨F6, U6, _, _⟩ := grow F5 U' zob T6
    have hl2 : (l' ++ x.p).length = l'.length + x.p.length := by simp
    refine hnx _ _ ⟨out.set (q.toNat - 1) true, l' ++ x.p, v', rfl, Inew, by omega, F6, B5.ext T6.ext nob, ?_, U6⟩
    show Own w6 3 1 v' (l' ++ x.p).length (its (l' ++ x.p))
    rw [hl2, its, List.map_append]
    exact O6
end Go.Proofs.Ythhcmoknppljpaa
end
section
set_option linter.unusedVariables false
set_option linter.unusedSimpArgs false
set_option maxHeartbeats 4000000
namespace Go.Proofs.Ythhcmoknppljpaa
open Go.Sh Go.RowKit

abbrev tosL (rs : List GR) : List Int := rs.map GR.to
abbrev rsNam1_0 := (And.intro @xu8_add (And.intro @xu8_lss (And.intro @xu16_add (And.intro @xu16_lss (And.intro @xu32_add (And.intro @xu32_lss (And.intro @xu64_add (And.intro @xu64_lss (And.intro @xi64_lss (And.intro @ld_3 (And.intro @ld_23 (And.intro @ld_58 (And.intro @fa_25_1 (And.intro @fa_58_1 (And.intro @al_58 (And.intro @st_58 (And.intro @ia_23 
  (And.intro @ln_23 (And.intro @bs_26_0 @bs_26_1)))))))))))))))))))
theorem Named_spec {w : World} {na ra : Option Addr} {nc rc : Nat} {ns : List GN} {rs : List GR} (h : GIs w na nc ra rc ns rs) (hrl : rs.length ≤ 9000) :
    Yld Try.prog n_graph_Named #[gV na nc ra rc ns rs] w fun u w' => Ext [] w w' ∧ ∃ a, u = .slice a rs.length rs.length ∧ RowAt w' a (its (tosL rs)) ∧ (a = none → rs.length = 0) ∧ (a = none ∨ ∃ g, a = some ⟨g, 0, none⟩) ∧ ∀ y, a = some y → w.heap.size ≤ y.block := by
  refine graph_Named_of ?_
  unfold graph_Named
  have gbox : ∀ (y : World) (K : K1), xBox Try.prog 25 (gV na nc ra rc ns rs) y K = K (ptr y.heap.size) (y.alloc (.cells #[.slice na ns.length nc, .slice ra rs.length rc] 25)) := fun y K => xBox_r
  rw [gbox]
  have B1 : Blk (w.alloc (.cells #[.slice na ns.length nc, .slice ra rs.length rc] 25)) w.heap.size 25 [.slice na ns.length nc, .slice ra rs.length rc] := Blk.at rfl
  have X1 : Ext [] w (w.alloc (.cells #[.slice na ns.length nc, .slice ra rs.length rc] 25)) := Ext.alloc _ _ _
  have h1 := h.ext0 X1
  generalize w.alloc (.cells #[.slice na ns.length nc, .slice ra rs.length rc] 25) = y1 at *
  generalize hg1 : w.heap.size = g1 at *
  have k1 := fun i => B1.cell (i := i)
  simp (disch := (first | omega | decide | (simp only [rsD] <;> omega) | fail)) only [↓rsC, rsK, rsL, ↓rsNam1_0, tick_eq, tickV_eq, ne_eq, Int.reduceAdd, Int.reduceSub, Int.reduceMul, Int.reduceEq, Int.reduceLT, Int.reduceLE, Int.reduceToNat, Nat.reduceMul, Nat.reduceAdd, Nat.reduceSub, ←decide_not, k1]
  refine xLoop_r rs.length (fun j vs w' => ∃ v, vs = [v, i64 (j : Int)] ∧ NewIt y1 w' v ((tosL rs).take j)) ⟨_, rfl, NewR.nil (Ext.refl _ _)⟩ ?_ ?_
  · rintro j hj u w2 ⟨v, hu, N⟩ nxt hnx
    simp only [List.map_cons, List.map_nil, List.cons.injEq, and_true] at hu
    rw [hu.1, hu.2]
    obtain ⟨b, o, rfl, hlt, c1, c2⟩ := gr_at (h1.rr.ext0 N.1) hj
    have hlen : ((tosL rs).take j).length = j := by simp; omega
    have hsu : (tosL rs).take (j + 1) = (tosL rs).take j ++ [rs[j].to] := by
      rw [List.take_add_one, List.getElem?_eq_getElem (by simpa using hj)]
      simp
    generalize rs[j] = r at *
    obtain ⟨a0, c0, hv0, _⟩ := N.2.1.slice
    subst hv0
    unfold graph_Named_l1
    simp (disch := (first | omega | decide | (simp only [rsD] <;> omega) | fail)) only [↓rsC, rsK, rsL, ↓rsNam1_0, tick_eq, tickV_eq, ne_eq, Int.reduceAdd, Int.reduceSub, Int.reduceMul, Int.reduceEq, Int.reduceLT, Int.reduceLE, Int.reduceToNat, Nat.reduceMul, Nat.reduceAdd, Nat.reduceSub, ←decide_not, k1, c1, c2]
    have X3 : Ext [] w2 (w2.alloc (.cells #[.string (strOf r.s), i64 r.to] 58)) := Ext.alloc _ _ _
    have N3 := N.ext X3
    refine appIt N3.2.1 (o := r.to) rfl (by omega) fun v' x5 O5 T5 => ?_
    have N5 := N3.app O5 T5
    rw [← hsu] at N5
    simp (disch := (first | omega | decide | (simp only [rsD] <;> omega) | fail)) only [↓rsC, rsK, rsL, ↓rsNam1_0, tick_eq, tickV_eq, ne_eq, Int.reduceAdd, Int.reduceSub, Int.reduceMul, Int.reduceEq, Int.reduceLT, Int.reduceLE, Int.reduceToNat, Nat.reduceMul, Nat.reduceAdd, Nat.reduceSub, ←decide_not, k1, c1, c2]
    exact hnx _ _ ⟨v', by simp, N5⟩
  · rintro u w2 ⟨v, hu, N⟩ nxt
    simp only [List.map_cons, List.map_nil, List.cons.injEq, and_true] at hu
    rw [hu.1, hu.2]
    have etk : (tosL rs).take rs.length = tosL rs := by rw [show rs.length = (tosL rs).length by simp, List.take_length]
    rw [etk] at N
    obtain ⟨a0, c0, hv0, hc0, _, hn0, R0, hs0⟩ := N.2.1.slice
    subst hv0
    have hU := N.2.2
    have hl : (tosL rs).length = rs.length := by simp
    unfold graph_Named_l1
    rw [hl] at hc0 ⊢
    simp (disch := (first | omega | decide | (simp only [rsD] <;> omega) | fail)) only [↓rsC, rsK, rsL, ↓rsNam1_0, tick_eq, tickV_eq, ne_eq, Int.reduceAdd, Int.reduceSub, Int.reduceMul, Int.reduceEq, Int.reduceLT, Int.reduceLE, Int.reduceToNat, Nat.reduceMul, Nat.reduceAdd, Nat.reduceSub, ←decide_not, k1]
    refine slices_Clip_int_int_call (Gives.to (ClipI_spec hc0) fun w3 F3 => ?_)
    refine ⟨X1.trans (N.1.trans F3), a0, rfl, R0.ext0 F3, fun e => by have := hn0 e; omega, ?_, fun y hy => ?_⟩
    · cases a0 with
      | none => exact .inl rfl
      | some x =>
        obtain ⟨h1, h2⟩ := hs0 x rfl
        obtain ⟨b, o, s⟩ := x
        simp only at h1 h2
        subst h1 h2
        exact .inr ⟨b, rfl⟩
    · have := hU y.block (by rw [hy]; simp [blk, Value.ownBlock])
      have := X1.size
      omega
end Go.Proofs.Ythhcmoknppljpaa
end
section
set_option linter.unusedVariables false
set_option linter.unusedSimpArgs false
set_option maxHeartbeats 4000000
namespace Go.Proofs.Ythhcmoknppljpaa
open Go.Sh Go.RowKit

abbrev NewBt (w w' : World) (v : Value) (l : List (BitVec 8)) : Prop := NewR 5 1 w w' v l.length (bys l)
abbrev rsNam2_0 := (And.intro @xu8_eql (And.intro @xu16_eql (And.intro @xu32_eql (And.intro @xu64_eql (And.intro @xi64_eql (And.intro @bs_51_0 (And.intro @bs_51_1 (And.intro @bs_51_2 @nq_51))))))))
theorem CloneBt_spec (l : List (BitVec 8)) (a : Option Addr) (c : Nat) (w : World) (hl : l.length ≤ 1000000) (h : RowAt w a (bys l)) (hn : a = none → c = 0) :
    Yld Try.prog n_slices_Clone_byte_byte #[.slice a l.length c] w fun u w' => NewBt w w' u l := by
  refine slices_Clone_byte_byte_of ?_
  unfold slices_Clone_byte_byte
  cases a with
  | none =>
    have hw : l = [] := by rcases h with h | ⟨b, o, h, _⟩; simpa using h; cases h
    subst hw
    simp (disch := (first | omega | decide | (simp only [rsD] <;> omega) | fail)) only [↓rsC, rsK, rsL, ↓rsNam2_0, tick_eq, tickV_eq, ne_eq, Int.reduceAdd, Int.reduceSub, Int.reduceMul, Int.reduceEq, Int.reduceLT, Int.reduceLE, Int.reduceToNat, Nat.reduceMul, Nat.reduceAdd, Nat.reduceSub, ←decide_not, eq_self]
    exact NewR.nil (Ext.refl _ _)
  | some a =>
    simp (disch := (first | omega | decide | (simp only [rsD] <;> omega) | fail)) only [↓rsC, rsK, rsL, ↓rsNam2_0, tick_eq, tickV_eq, ne_eq, Int.reduceAdd, Int.reduceSub, Int.reduceMul, Int.reduceEq, Int.reduceLT, Int.reduceLE, Int.reduceToNat, Nat.reduceMul, Nat.reduceAdd, Nat.reduceSub, ←decide_not, eq_self]
    refine xAppend_own (e := 5) (base := w.heap.size) (xs := []) (news := bys l) (z := .int .u8 0) (bytes := 1) (by kernel_rfl) (by kernel_rfl) (by rfl) (World.ownsRow_lit w #[] 0 (Nat.le_refl _) (by decide) (by rfl)) (by simp) (h.ext0 (Ext.alloc _ _ _)) hn bys_ok (by omega) (by omega) (by simp) ?_
    intro v' w' hown hgr
    rw [Nat.zero_add, List.nil_append] at hown
    have F2 : Ext [] w w' := grownBy_new (Ext.alloc [] w _) hgr (fun k hk => by simp [Value.ownBlock] at hk; omega)
    exact ⟨F2, Own.of hown, fun b hb => (World.ownsRow.lt hown b (by simpa using hb)).1⟩
/-- what a function on numbers gives, wherever one goes on -/
def FunTo (w : World) (t : Value) (ps : List Int) (φ : Int → Int) : Prop := ∀ (w' : World) (p : Int) (K : K1), Ext [] w w' → p ∈ ps → (∀ w'', Ext [] w' w'' → K (i64 (φ p)) w'') → xCall Try.prog t [i64 p] w' K
/-- a node's rows are blocks that may be written -/
structure NBl (w : World) (x : GN) : Prop where
  p : x.p = [] ∨ ∃ g rest, x.pa = some ⟨g, 0, none⟩ ∧ Blk w g 3 (its x.p ++ rest)
  d : x.d = [] ∨ ∃ g rest, x.da = some ⟨g, 0, none⟩ ∧ Blk w g 5 (bys x.d ++ rest)
theorem NBl.ext {w w' : World} {M : List Nat} {x : GN} (h : NBl w x) (hx : Ext M w w') (ha : (∀ y, x.pa = some y → x.p ≠ [] → y.block ∉ M) ∧ ∀ y, x.da = some y → x.d ≠ [] → y.block ∉ M) : NBl w' x := by
  constructor
  · rcases h.p with h1 | ⟨g, rest, h1, h2⟩
    · exact .inl h1
    · by_cases e : x.p = []
      · exact .inl e
      · exact .inr ⟨g, rest, h1, h2.ext hx (ha.1 _ h1 e)⟩
  · rcases h.d with h1 | ⟨g, rest, h1, h2⟩
    · exact .inl h1
    · by_cases e : x.d = []
      · exact .inl e
      · exact .inr ⟨g, rest, h1, h2.ext hx (ha.2 _ h1 e)⟩
theorem Own.blk1 {w : World} {e : TypeId} {n c : Nat} {a : Option Addr} {cs : List Value} (h : Own w e 1 (.slice a n c) n cs) : cs = [] ∨ ∃ g rest, a = some ⟨g, 0, none⟩ ∧ Blk w g e (cs ++ rest) := by
  by_cases hn : n = 0
  · exact .inl (List.eq_nil_of_length_eq_zero (by rw [h.len, hn]))
  · obtain ⟨g, cap, rest, hv, hB, _⟩ := h.open (by omega)
    cases hv
    exact .inr ⟨g, rest, rfl, hB⟩
abbrev rsNam2_1 := (And.intro @xu8_add (And.intro @xu8_lss (And.intro @xu16_add (And.intro @xu16_lss (And.intro @xu32_add (And.intro @xu32_lss (And.intro @xu64_add (And.intro @xu64_lss (And.intro @xi64_lss (And.intro @ld_3 (And.intro @ld_26 (And.intro @ld_51 (And.intro @ld_53 (And.intro @lr_53 (And.intro @fa_53_0 (And.intro @fa_53_1 (And.intro @al_53 
  (And.intro @st_26 (And.intro @st_53 (And.intro @bd_53_0 (And.intro @bd_53_0_1 (And.intro @bd_53_1 (And.intro @bd_53 (And.intro @ia_26 (And.intro @ln_26 (And.intro @bs_26_0 @bs_26_1))))))))))))))))))))))))))
theorem apartB_spec {w : World} {x : GN} (hx : NOk w x) (lx : x.p.length ≤ 9000 ∧ x.d.length ≤ 9000) {t : Value} {φ : Int → Int} (hto : FunTo w t x.p φ) :
    Yld Try.prog n_graph_Node_apart #[.agg (gnC x).toArray, t] w fun u w' => Ext [] w w' ∧ ∃ y : GN, u = .agg (gnC y).toArray ∧ y.p = x.p.map φ ∧ y.d = x.d ∧ NOk w' y ∧ (∀ z, y.pa = some z → w.heap.size ≤ z.block) ∧ (∀ z, y.da = some z → w.heap.size ≤ z.block) ∧ NBl w' y := by
  refine graph_Node_apart_of ?_
  unfold graph_Node_apart
  have bx : ∀ (y : World) (K : K1), xBox Try.prog 53 (.agg (gnC x).toArray) y K = K (ptr y.heap.size) (y.alloc (.cells (gnC x).toArray 53)) := fun y K => xBox_r
  have al : ∀ (y : World) (K : K1), xAlloc Try.prog 53 y K = K (ptr y.heap.size) (y.alloc (.cells #[.slice none 0 0, .slice none 0 0] 53)) := fun y K => xAlloc_r (by kernel_rfl)
  rw [bx, al]
  have B1 : Blk (w.alloc (.cells (gnC x).toArray 53)) w.heap.size 53 (gnC x) := Blk.at rfl
  have X1 : Ext [] w (w.alloc (.cells (gnC x).toArray 53)) := Ext.alloc _ _ _
  generalize w.alloc (.cells (gnC x).toArray 53) = y1 at *
  have zw : w.heap.size ≤ w.heap.size := Nat.le_refl _
  generalize w.heap.size = g1 at B1 zw ⊢
  have B2 : Blk (y1.alloc (.cells #[.slice none 0 0, .slice none 0 0] 53)) y1.heap.size 53 [.slice none 0 0, .slice none 0 0] := Blk.at rfl
  have X2 : Ext [] y1 (y1.alloc (.cells #[.slice none 0 0, .slice none 0 0] 53)) := Ext.alloc _ _ _
  have z1 := B1.lt
  have z1w := X1.size
  generalize y1.alloc (.cells #[.slice none 0 0, .slice none 0 0] 53) = y2 at *
  generalize y1.heap.size = g2 at *
  have B12 := B1.ext X2 (by simp)
  have z2 := B2.lt
  have X12 := X1.trans X2
  have k1 := fun i => B12.cell (i := i)
  simp (disch := (first | omega | decide | (simp only [rsD] <;> omega) | fail)) only [↓rsC, rsK, rsL, ↓rsNam2_1, tick_eq, tickV_eq, ne_eq, Int.reduceAdd, Int.reduceSub, Int.reduceMul, Int.reduceEq, Int.reduceLT, Int.reduceLE, Int.reduceToNat, Nat.reduceMul, Nat.reduceAdd, Nat.reduceSub, ←decide_not, k1]
  have hx2 := hx.ext0 X12
  refine slices_Clone_byte_byte_call (Yld.mono (CloneBt_spec x.d x.da x.dc y2 (by omega) hx2.dr hx2.dn) ?_)
  rintro u y3 N3
  obtain ⟨ad, cd, rfl, hcd, _, hnd, Rd, _⟩ := N3.2.1.slice
  have Bd := Own.blk1 N3.2.1
  have Ud : ∀ z, ad = some z → y2.heap.size ≤ z.block ∧ z.block < y3.heap.size := fun z hz => ⟨N3.2.2 _ (by rw [hz]; simp [blk, Value.ownBlock]), N3.2.1.lt _ (by rw [hz]; simp [blk, Value.ownBlock])⟩
  refine slices_Clip_byte_byte_call (Gives.to (ClipB_spec hcd) fun y4 F4 => ?_)
  have F24 := N3.1.trans F4
  have z4 := F4.size
  have z3 := N3.1.size
  have k4 := fun i => (B12.ext F24 (by simp)).cell (i := i)
  have g1lt := (B12.ext F24 (by simp)).lt
  simp (disch := (first | omega | decide | (simp only [rsD] <;> omega) | fail)) only [↓rsC, rsK, rsL, ↓rsNam2_1, tick_eq, tickV_eq, ne_eq, Int.reduceAdd, Int.reduceSub, Int.reduceMul, Int.reduceEq, Int.reduceLT, Int.reduceLE, Int.reduceToNat, Nat.reduceMul, Nat.reduceAdd, Nat.reduceSub, ←decide_not, k1, k4]
  have z2' := X12.size
  obtain ⟨hh, hhh⟩ : ∃ g, g = y4.heap.size := ⟨_, rfl⟩
  have Bx0 : Blk (y4.alloc (.cells #[.slice none 0 0, .slice ad x.d.length x.d.length] 53)) hh 53 [.slice none 0 0, .slice ad x.d.length x.d.length] := Blk.at hhh
  have X5 : Ext [] y4 (y4.alloc (.cells #[.slice none 0 0, .slice ad x.d.length x.d.length] 53)) := Ext.alloc _ _ _
  have zs5 : (y4.alloc (.cells #[.slice none 0 0, .slice ad x.d.length x.d.length] 53)).heap.size = y4.heap.size + 1 := World.size_alloc _ _
  rw [← hhh] at zs5 ⊢
  generalize y4.alloc (.cells #[.slice none 0 0, .slice ad x.d.length x.d.length] 53) = y at *
  have hlt : hh < y.heap.size := by omega
  have Xy : Ext [] w y := X12.trans (F24.trans X5)
  have B1y := (B12.ext F24 (by simp)).ext X5 (by simp)
  have B2y := (B2.ext F24 (by simp)).ext X5 (by simp)
  have hxy := hx.ext0 Xy
  have Rdy := (Rd.ext0 F4).ext0 X5
  have fresh : ∀ {w' : World}, Ext [hh] y w' → Ext [] w w' := fun F => Xy.new F (fun z hz => by simp only [List.mem_singleton] at hz; omega)
  have ne2 : g2 ∉ [hh] := by simp only [List.mem_singleton]; omega
  have nilb : ∀ z, z ∉ blk (.slice none 0 0) := by simp [blk, Value.ownBlock]
  have hpl : (x.p.map φ).length = x.p.length := by simp
  refine xLoop_n x.p.length (fun j => [i64 (j : Int)]) (fun j w' => Ext [hh] y w' ∧ ∃ v, OwnIt w' v ((x.p.map φ).take j) ∧ Blk w' hh 53 [v, .slice ad x.d.length x.d.length] ∧ ∀ z ∈ blk v, y.heap.size ≤ z) rfl ⟨Ext.refl _ _, _, Own.nil, Bx0, fun z hz => absurd hz (nilb z)⟩ ?_ ?_
  · rintro j hj u x1 hu ⟨F, v, O, B, U⟩ nxt hnx
    simp only [List.map_cons, List.map_nil, List.cons.injEq, and_true] at hu
    rw [hu]
    obtain ⟨a0, c0, hv0, _⟩ := O.slice
    subst hv0
    obtain ⟨bp, op, ep, _, cp⟩ := its_at ((hx.ext0 (fresh F)).pr) hj
    have hm : x.p[j] ∈ x.p := List.getElem_mem hj
    have hsu : (x.p.map φ).take (j + 1) = (x.p.map φ).take j ++ [φ x.p[j]] := by
      rw [List.take_add_one, List.getElem?_eq_getElem (by omega)]
      simp
    generalize x.p[j] = p at *
    have Ed := Ext.drew [] x1
    have kb := fun i => (B.ext Ed (by simp)).cell (i := i)
    unfold graph_Node_apart_l1
    rw [ep]
    simp (disch := (first | omega | decide | (simp only [rsD] <;> omega) | fail)) only [↓rsC, rsK, rsL, ↓rsNam2_1, tick_eq, tickV_eq, ne_eq, Int.reduceAdd, Int.reduceSub, Int.reduceMul, Int.reduceEq, Int.reduceLT, Int.reduceLE, Int.reduceToNat, Nat.reduceMul, Nat.reduceAdd, Nat.reduceSub, ←decide_not, k1, k4, cp, kb]
    refine hto _ p _ ((fresh F).trans Ed) hm fun x4 E4 => ?_
    have E3 := Ed.trans E4
    have F4' := F.trans (E3.more (by simp))
    have B4 := B.ext E3 (by simp)
    have O4 := O.ext0 E3
    have zb4 := B4.lt
    have k5 := fun i => B4.cell (i := i)
    simp (disch := (first | omega | decide | (simp only [rsD] <;> omega) | fail)) only [↓rsC, rsK, rsL, ↓rsNam2_1, tick_eq, tickV_eq, ne_eq, Int.reduceAdd, Int.reduceSub, Int.reduceMul, Int.reduceEq, Int.reduceLT, Int.reduceLE, Int.reduceToNat, Nat.reduceMul, Nat.reduceAdd, Nat.reduceSub, ←decide_not, k1, k4, cp, kb, k5]
    refine appIt O4 rfl (by simp; omega) fun v' x5 O5 T5 => ?_
    obtain ⟨F5, U5, n1, n2⟩ := grow F4' U hlt T5
    have B5 := B4.ext T5.ext n1
    obtain ⟨a3, c3, hv3, _⟩ := O5.slice
    have k6 := fun i => B5.cell (i := i)
    have f6 := fun i => B5.frozen (i := i)
    rw [← hsu] at O5 hv3
    subst hv3
    simp (disch := (first | omega | decide | (simp only [rsD] <;> omega) | fail)) only [↓rsC, rsK, rsL, ↓rsNam2_1, tick_eq, tickV_eq, ne_eq, Int.reduceAdd, Int.reduceSub, Int.reduceMul, Int.reduceEq, Int.reduceLT, Int.reduceLE, Int.reduceToNat, Nat.reduceMul, Nat.reduceAdd, Nat.reduceSub, ←decide_not, k1, k4, cp, kb, k5, k6, f6]
    have B6 := B5.set (i := 0) (v := .slice a3 ((x.p.map φ).take (j + 1)).length c3)
    have O6 := O5.ext (Ext.set (w := x5) (b := hh) (o := 0) (v := .slice a3 ((x.p.map φ).take (j + 1)).length c3)) (fun z hz hm => by simp only [List.mem_singleton] at hm; subst hm; exact n2 hz)
    exact hnx _ ⟨F5.set' (.inl (by simp)), _, O6, B6, U5⟩
  · rintro u x1 hu ⟨F, v, O, B, U⟩ nxt
    simp only [List.map_cons, List.map_nil, List.cons.injEq, and_true] at hu
    rw [hu]
    have etk : (x.p.map φ).take x.p.length = x.p.map φ := by rw [← hpl, List.take_length]
    rw [etk] at O
    obtain ⟨a0, c0, hv0, hc0, _, hn0, R0, _⟩ := O.slice
    subst hv0
    have Bp := Own.blk1 O
    have kb := fun i => B.cell (i := i)
    have fb := fun i => B.frozen (i := i)
    unfold graph_Node_apart_l1
    simp (disch := (first | omega | decide | (simp only [rsD] <;> omega) | fail)) only [↓rsC, rsK, rsL, ↓rsNam2_1, tick_eq, tickV_eq, ne_eq, Int.reduceAdd, Int.reduceSub, Int.reduceMul, Int.reduceEq, Int.reduceLT, Int.reduceLE, Int.reduceToNat, Nat.reduceMul, Nat.reduceAdd, Nat.reduceSub, ←decide_not, k1, k4, kb, fb]
    refine slices_Clip_int_int_call (Gives.to (ClipI_spec hc0) fun x3 F3' => ?_)
    have B3 := B.ext F3' (by simp)
    have F3x := F.trans (F3'.more (by simp))
    have k3 := fun i => B3.cell (i := i)
    have f3 := fun i => B3.frozen (i := i)
    have B24x := B2y.ext F3x ne2
    have k24 := fun i => B24x.cell (i := i)
    have f24 := fun i => B24x.frozen (i := i)
    have g2x : g2 ≠ hh := by omega
    have Rp := R0.ext0 F3'
    have zF := F.size
    have zF3 := F3'.size
    simp (disch := (first | omega | decide | (simp only [rsD] <;> omega) | fail)) only [↓rsC, rsK, rsL, ↓rsNam2_1, tick_eq, tickV_eq, ne_eq, Int.reduceAdd, Int.reduceSub, Int.reduceMul, Int.reduceEq, Int.reduceLT, Int.reduceLE, Int.reduceToNat, Nat.reduceMul, Nat.reduceAdd, Nat.reduceSub, ←decide_not, k1, k4, kb, fb, k3, f3, k24, f24, g2x]
    have FE : Ext [hh, g2] x3 (((x3.setCell ⟨hh, 0, none⟩ (.slice a0 (x.p.map φ).length (x.p.map φ).length)).setCell ⟨g2, 0, none⟩ (.slice a0 (x.p.map φ).length (x.p.map φ).length)).setCell ⟨g2, 1, none⟩ (.slice ad x.d.length x.d.length)) := (((Ext.refl _ _).set' (.inl (by simp))).set' (.inl (by simp))).set' (.inl (by simp))
    have nda : ∀ b o, ad = some ⟨b, o, none⟩ → b ∉ [hh, g2] := fun b o hb hm => by
      have := Ud _ hb
      simp only [List.mem_cons, List.not_mem_nil, or_false] at hm
      simp only at this
      omega
    have npa : ∀ b o, a0 = some ⟨b, o, none⟩ → b ∉ [hh, g2] := fun b o hb hm => by
      have := U b (by subst hb; simp [blk, Value.ownBlock])
      simp only [List.mem_cons, List.not_mem_nil, or_false] at hm
      omega
    have Rdx := Rdy.ext F (fun b o hb hm => by
      have := Ud _ hb
      simp only [List.mem_singleton] at hm
      simp only at this
      omega)
    refine ⟨(((fresh F3x).set' (.inr (by omega))).set' (.inr (by omega))).set' (.inr (by omega)), ⟨x.p.map φ, a0, (x.p.map φ).length, x.d, ad, x.d.length⟩, rfl, rfl, rfl, ⟨Rp.ext FE npa, Nat.le_refl _, fun e => by have := hn0 e; simp only; omega, (Rdx.ext0 F3').ext FE nda, Nat.le_refl _, fun e => by have := hnd e; simp only; omega⟩, fun z hz => ?_, fun z hz => ?_, ⟨?_, ?_⟩⟩
    · have := U z.block (by simp only at hz; rw [hz]; simp [blk, Value.ownBlock])
      have := Xy.size
      omega
    · have := Ud z hz
      have := X12.size
      omega
    · rcases Bp with e | ⟨g, rest, e1, e2⟩
      · exact .inl (by simpa [its] using e)
      · exact .inr ⟨g, rest, e1, (e2.ext F3' (by simp)).ext FE (npa _ _ e1)⟩
    · rcases Bd with e | ⟨g, rest, e1, e2⟩
      · exact .inl (by simpa [bys] using e)
      · refine .inr ⟨g, rest, e1, ((((e2.ext F4 (by simp)).ext X5 (by simp)).ext F (fun hm => ?_)).ext F3' (by simp)).ext FE (nda _ _ e1)⟩
        have := Ud _ e1
        simp only [List.mem_singleton] at hm
        simp only at this
        omega
theorem apart_spec {w : World} {x : GN} (hx : NOk w x) (lx : x.p.length ≤ 9000 ∧ x.d.length ≤ 9000) {t : Value} {φ : Int → Int} (hto : FunTo w t x.p φ) :
    Yld Try.prog n_graph_Node_apart #[.agg (gnC x).toArray, t] w fun u w' => Ext [] w w' ∧ ∃ y : GN, u = .agg (gnC y).toArray ∧ y.p = x.p.map φ ∧ y.d = x.d ∧ NOk w' y ∧ (∀ z, y.pa = some z → w.heap.size ≤ z.block) ∧ ∀ z, y.da = some z → w.heap.size ≤ z.block := by
  refine Yld.mono (apartB_spec hx lx hto) ?_
  rintro u w' ⟨h1, y, h2, h3, h4, h5, h6, h7, _⟩
  exact ⟨h1, y, h2, h3, h4, h5, h6, h7⟩
end Go.Proofs.Ythhcmoknppljpaa
end
section
set_option linter.unusedVariables false
set_option linter.unusedSimpArgs false
set_option maxHeartbeats 4000000
namespace Go.Proofs.Ythhcmoknppljpaa
open Go.Sh Go.RowKit

/-- numbers behind a row that has no room -/
theorem appNo {w : World} {K : K1} {xs ys : List Int} {a a' : Option Addr} {c : Nat} (hx : RowAt w a (its xs)) (ha : a = none → xs.length = 0) (hs : a = none ∨ ∃ g, a = some ⟨g, 0, none⟩) (hy : RowAt w a' (its ys)) (hc : ys.length ≤ c) (hn : a' = none → c = 0) (hl : xs.length ≤ 1000000 ∧ ys.length ≤ 1000000)
    (hK : ∀ a2 c2 w', Ext [] w w' → (a2 = none → c2 = 0) → RowAt w' a2 (its (xs ++ ys)) → K (.slice a2 (xs ++ ys).length c2) w') : xBuiltin Try.prog .append #[26, 26] 26 [false, false] [.slice a xs.length xs.length, .slice a' ys.length c] w K := by
  have hll : (xs ++ ys).length = xs.length + ys.length := by simp
  rcases hs with rfl | ⟨g, rfl⟩
  · have h0 := ha rfl
    have e : xs = [] := List.eq_nil_of_length_eq_zero h0
    subst e
    refine xApp (e := 3) (s := 1) (n := 0) (m := ys.length) (xs := []) (news := its ys) (bytes := 8) (z := .int .i64 0) (by kernel_rfl) (by kernel_rfl) (by rfl) (by decide) Own.nil (by simp) hy hn hc (by simp [Value.oneCell']) (by omega) (by omega) fun v' w' O T => ?_
    obtain ⟨a2, c2, rfl, _, _, hn2, R2, _⟩ := O.slice
    have := hK a2 c2 w' T.ext hn2 R2
    rw [hll] at this
    exact this
  · by_cases hk : ys.length = 0
    · have e : ys = [] := List.eq_nil_of_length_eq_zero hk
      subst e
      have hap := fun (K : K1) => xApp0 (P := Try.prog) (w := w) (K := K) (t := 26) (e := 3) (ty := 26) (c1 := false) (c2 := false) (a := a') (g := g) (o := 0) (n := xs.length) (cap := xs.length) (c := c) (by kernel_rfl) (by kernel_rfl) (Nat.le_refl _) hn
      rw [List.length_nil, hap]
      have := hK (some ⟨g, 0, none⟩) xs.length w (Ext.refl _ _) (fun e => by cases e) (by rw [List.append_nil]; exact hx)
      rw [List.append_nil] at this
      exact this
    · refine xAppG (e := 3) (s := 1) (n := xs.length) (m := ys.length) (c := c) (cap := xs.length) (xs := its xs) (news := its ys) (bytes := 8) (z := .int .i64 0) (by kernel_rfl) (by kernel_rfl) (by rfl) (by decide) hx (by simp) (by simp) (by omega) (by omega) (by simp) (by omega) hy (by omega) (by omega) fun v' w' N => ?_
      obtain ⟨a2, c2, rfl, _, _, hn2, R2, _⟩ := N.2.1.slice
      have := hK a2 c2 w' N.1 hn2 (by rw [its, List.map_append]; exact R2)
      rw [hll] at this
      exact this
def noL (bs : List Bool) : List Int := (List.range bs.length).map (noB bs)
abbrev rsTri1_0 := (And.intro @xu8_sub (And.intro @xu8_lss (And.intro @xu8_gtr (And.intro @xu16_sub (And.intro @xu16_lss (And.intro @xu16_gtr (And.intro @xu32_sub (And.intro @xu32_lss (And.intro @xu32_gtr (And.intro @xu64_sub (And.intro @xu64_lss (And.intro @xu64_gtr (And.intro @xi64_lss (And.intro @xi64_gtr (And.intro @ld_3 (And.intro @ld_26 
  (And.intro @ia_26 @ln_26)))))))))))))))))
theorem toB_spec {w : World} {bs : List Bool} {tb nb : Nat} (hc : w.cell? ⟨tb, 0, none⟩ = some (.slice (some ⟨nb, 0, none⟩) bs.length bs.length)) (hr : RowAt w (some ⟨nb, 0, none⟩) (its (noL bs))) (hl : bs.length ≤ 9000) (p : Int) :
    Gives Try.prog n_graph_Trim_1 #[i64 p, ptr tb] w (i64 (toB bs p)) := by
  refine graph_Trim_1_of ?_
  unfold graph_Trim_1
  unfold toB
  by_cases h1 : p < 1
  · rw [if_neg (by omega)]
    simp (disch := (first | omega | decide | (simp only [rsD] <;> omega) | fail)) only [↓rsC, rsK, rsL, ↓rsTri1_0, tick_eq, tickV_eq, ne_eq, Int.reduceAdd, Int.reduceSub, Int.reduceMul, Int.reduceEq, Int.reduceLT, Int.reduceLE, Int.reduceToNat, Nat.reduceMul, Nat.reduceAdd, Nat.reduceSub, ←decide_not, h1]
    exact ⟨by trivial, Ext.refl _ _⟩
  by_cases h2 : (bs.length : Int) < p
  · rw [if_neg (by omega)]
    simp (disch := (first | omega | decide | (simp only [rsD] <;> omega) | fail)) only [↓rsC, rsK, rsL, ↓rsTri1_0, tick_eq, tickV_eq, ne_eq, Int.reduceAdd, Int.reduceSub, Int.reduceMul, Int.reduceEq, Int.reduceLT, Int.reduceLE, Int.reduceToNat, Nat.reduceMul, Nat.reduceAdd, Nat.reduceSub, ←decide_not, h1, hc, h2]
    exact ⟨by trivial, Ext.refl _ _⟩
  rw [if_pos (by omega)]
  have hi : p.toNat - 1 < (noL bs).length := by simp [noL]; omega
  obtain ⟨b, o, e, _, c1⟩ := its_at hr hi
  cases e
  have e2 : (noL bs)[p.toNat - 1] = noB bs (p.toNat - 1) := by simp [noL]
  rw [e2, Nat.zero_add] at c1
  have tp : (p - 1).toNat = p.toNat - 1 := by omega
  have hpb : p ≤ 9000 := by omega
  simp (disch := (first | omega | decide | (simp only [rsD] <;> omega) | fail)) only [↓rsC, rsK, rsL, ↓rsTri1_0, tick_eq, tickV_eq, ne_eq, Int.reduceAdd, Int.reduceSub, Int.reduceMul, Int.reduceEq, Int.reduceLT, Int.reduceLE, Int.reduceToNat, Nat.reduceMul, Nat.reduceAdd, Nat.reduceSub, ←decide_not, h1, hc, h2, tp, c1]
  exact ⟨by trivial, Ext.refl _ _⟩
theorem funTo_trim {w : World} {bs : List Bool} {tb nb : Nat} (hc : Blk w tb 26 [.slice (some ⟨nb, 0, none⟩) bs.length bs.length]) (hr : RowAt w (some ⟨nb, 0, none⟩) (its (noL bs))) (hl : bs.length ≤ 9000) (ps : List Int) :
    FunTo w (.func (.func n_graph_Trim_1) #[] #[ptr tb]) ps (toB bs) := by
  intro w' p K F _ hK
  refine graph_Trim_1_callc (Gives.to (toB_spec (w := w') ?_ (hr.ext0 F) hl p) hK)
  rw [(hc.ext F (by simp)).cell]
  rfl
end Go.Proofs.Ythhcmoknppljpaa
end
section
set_option linter.unusedVariables false
set_option linter.unusedSimpArgs false
set_option maxHeartbeats 4000000
namespace Go.Proofs.Ythhcmoknppljpaa
open Go.Sh Go.RowKit

def TrimR (w : World) (ns : List GN) (rs : List GR) (keep : List Int) (u : Value) (w' : World) : Prop := Ext [] w w' ∧ ∃ bs na' nc' ra' rc' ns' v, RchOk ns (tosL rs ++ keep) bs ∧ ns'.map bare = trNs ns bs ∧ u = .tuple #[gV na' nc' ra' rc' ns' (trRs rs bs), v] ∧ GIs w' na' nc' ra' rc' ns' (trRs rs bs) ∧ ∃ av cv, v = .slice av ns.length cv ∧ ns.length ≤ cv ∧ RowAt w' av (its (noL bs))
def noP (bs : List Bool) (j : Nat) : List Int := (List.range bs.length).map fun i => if i < j then noB bs i else 0
theorem noP_zero (bs : List Bool) : its (noP bs 0) = List.replicate bs.length (i64 0) := by
  refine List.ext_getElem (by simp [noP]) fun i h1 h2 => ?_
  simp [noP]
theorem noP_all (bs : List Bool) : noP bs bs.length = noL bs := by
  unfold noP noL
  refine List.map_congr_left fun i hi => ?_
  rw [if_pos (List.mem_range.1 hi)]
theorem noP_off (bs : List Bool) {j : Nat} (h : j < bs.length) (hb : bs[j] = false) : noP bs (j + 1) = noP bs j := by
  unfold noP
  refine List.map_congr_left fun i hi => ?_
  by_cases e : i = j
  · subst e
    rw [if_pos (by omega), if_neg (by omega)]
    unfold noB
    rw [getD_at h, hb]
    rfl
  · by_cases e2 : i < j
    · rw [if_pos (by omega), if_pos e2]
    · rw [if_neg (by omega), if_neg e2]
theorem noP_on (bs : List Bool) {j : Nat} (h : j < bs.length) (hb : bs[j] = true) : its (noP bs (j + 1)) = (its (noP bs j)).set j (i64 ((rk bs j : Int) + 1)) := by
  refine List.ext_getElem (by simp [noP]) fun i h1 h2 => ?_
  have hi : i < bs.length := by simpa [noP] using h1
  rw [List.getElem_set]
  by_cases e : j = i
  · subst e
    rw [if_pos rfl]
    simp only [noP, List.getElem_map, List.getElem_range]
    rw [if_pos (by omega)]
    unfold noB
    rw [getD_at h, hb]
    rfl
  · rw [if_neg e]
    simp only [noP, List.getElem_map, List.getElem_range]
    by_cases e2 : i < j
    · rw [if_pos (by omega), if_pos e2]
    · rw [if_neg (by omega), if_neg e2]
abbrev rsTri2_0 := (And.intro @xu8_add (And.intro @xu8_lss (And.intro @xu16_add (And.intro @xu16_lss (And.intro @xu32_add (And.intro @xu32_lss (And.intro @xu64_add (And.intro @xu64_lss (And.intro @xi64_lss (And.intro @ld_3 (And.intro @ld_4 (And.intro @ld_9 (And.intro @ld_22 (And.intro @ld_23 (And.intro @ld_25 (And.intro @ld_26 (And.intro @ld_53 (And.intro @ld_58 
  (And.intro @lr_25 (And.intro @fa_25_0 (And.intro @fa_25_1 (And.intro @fa_58_0 (And.intro @fa_58_1 (And.intro @al_25 (And.intro @al_26 (And.intro @al_53 (And.intro @al_58 (And.intro @st_3 (And.intro @st_22 (And.intro @st_23 (And.intro @st_25 (And.intro @st_26 (And.intro @st_53 (And.intro @st_58 (And.intro @bd_58_0_1 (And.intro @ia_22 (And.intro @ia_23 (And.intro @ia_26 
  (And.intro @ia_37 (And.intro @ln_22 (And.intro @ln_23 (And.intro @ln_37 (And.intro @bs_22_1 (And.intro @bs_22_3 (And.intro @bs_23_0 (And.intro @bs_23_1 @mk_26))))))))))))))))))))))))))))))))))))))))))))))
theorem Trim_spec {w : World} {na ra : Option Addr} {nc rc : Nat} {ns : List GN} {rs : List GR} (h : GIs w na nc ra rc ns rs) (hf : FewH ns rs) {keep : List Int} {a : Option Addr} {c : Nat} (hk : RowAt w a (its keep)) (hkc : keep.length ≤ c) (hkn : a = none → c = 0) (hkl : keep.length ≤ 9000) :
    Yld Try.prog n_graph_Trim #[gV na nc ra rc ns rs, .slice a keep.length c] w fun u w' => TrimR w ns rs keep u w' := by
  have hfn := hf.n
  have hfr := hf.r
  refine graph_Trim_of ?_
  unfold graph_Trim
  have gbox : ∀ (y : World) (K : K1), xBox Try.prog 25 (gV na nc ra rc ns rs) y K = K (ptr y.heap.size) (y.alloc (.cells #[.slice na ns.length nc, .slice ra rs.length rc] 25)) := fun y K => xBox_r
  have al : ∀ (y : World) (K : K1), xAlloc Try.prog 25 y K = K (ptr y.heap.size) (y.alloc (.cells #[.slice none 0 0, .slice none 0 0] 25)) := fun y K => xAlloc_r (by kernel_rfl)
  rw [gbox, al]
  have B1 : Blk (w.alloc (.cells #[.slice na ns.length nc, .slice ra rs.length rc] 25)) w.heap.size 25 [.slice na ns.length nc, .slice ra rs.length rc] := Blk.at rfl
  have X1 : Ext [] w (w.alloc (.cells #[.slice na ns.length nc, .slice ra rs.length rc] 25)) := Ext.alloc _ _ _
  generalize w.alloc (.cells #[.slice na ns.length nc, .slice ra rs.length rc] 25) = y1 at *
  obtain ⟨g1, hg1⟩ : ∃ g, g = w.heap.size := ⟨_, rfl⟩
  rw [← hg1] at B1 ⊢
  have B2 : Blk (y1.alloc (.cells #[.slice none 0 0, .slice none 0 0] 25)) y1.heap.size 25 [.slice none 0 0, .slice none 0 0] := Blk.at rfl
  have X2 : Ext [] y1 (y1.alloc (.cells #[.slice none 0 0, .slice none 0 0] 25)) := Ext.alloc _ _ _
  have g1lt := B1.lt
  have X2d := X2.trans (Ext.drew [] _)
  have B12 := B1.ext X2d (by simp)
  have B2 := B2.ext (Ext.drew [] _) (by simp)
  generalize (y1.alloc (.cells #[.slice none 0 0, .slice none 0 0] 25)).drew = y2 at *
  obtain ⟨g4, hg4⟩ : ∃ g, g = y1.heap.size := ⟨_, rfl⟩
  rw [← hg4] at B2 ⊢
  have g4lt := B2.lt
  have X12 := X1.trans X2d
  have z1 := X1.size
  have G2 := h.ext0 X12
  have k1 := fun i => B12.cell (i := i)
  simp (disch := (first | omega | decide | (simp only [rsD] <;> omega) | fail)) only [↓rsC, rsK, rsL, ↓rsTri2_0, tick_eq, tickV_eq, ne_eq, Int.reduceAdd, Int.reduceSub, Int.reduceMul, Int.reduceEq, Int.reduceLT, Int.reduceLE, Int.reduceToNat, Nat.reduceMul, Nat.reduceAdd, Nat.reduceSub, ←decide_not, k1]
  refine graph_Named_call (Yld.mono (Named_spec G2 hfr) ?_)
  rintro u y3 ⟨F3, a3, rfl, R3, hn3, hs3, U3⟩
  have k3 := fun i => (B12.ext F3 (by simp)).cell (i := i)
  have tl : (tosL rs).length = rs.length := by simp
  simp (disch := (first | omega | decide | (simp only [rsD] <;> omega) | fail)) only [↓rsC, rsK, rsL, ↓rsTri2_0, tick_eq, tickV_eq, ne_eq, Int.reduceAdd, Int.reduceSub, Int.reduceMul, Int.reduceEq, Int.reduceLT, Int.reduceLE, Int.reduceToNat, Nat.reduceMul, Nat.reduceAdd, Nat.reduceSub, ←decide_not, k1, k3]
  have hap : ∀ (K : K1), (∀ a2 c2 w', Ext [] y3 w' → (a2 = none → c2 = 0) → RowAt w' a2 (its (tosL rs ++ keep)) → K (.slice a2 (tosL rs ++ keep).length c2) w') → xBuiltin Try.prog .append #[26, 26] 26 [false, false] [.slice a3 rs.length rs.length, .slice a keep.length c] y3 K := fun K hK => by
    have := appNo R3 (fun e => by rw [tl]; exact hn3 e) hs3 ((hk.ext0 X12).ext0 F3) hkc hkn ⟨by omega, by omega⟩ hK
    rw [tl] at this
    exact this
  refine hap _ fun a4 c4 y4 F4 hn4 R4 => ?_
  have F24 := F3.trans F4
  have k4 := fun i => (B12.ext F24 (by simp)).cell (i := i)
  simp (disch := (first | omega | decide | (simp only [rsD] <;> omega) | fail)) only [↓rsC, rsK, rsL, ↓rsTri2_0, tick_eq, tickV_eq, ne_eq, Int.reduceAdd, Int.reduceSub, Int.reduceMul, Int.reduceEq, Int.reduceLT, Int.reduceLE, Int.reduceToNat, Nat.reduceMul, Nat.reduceAdd, Nat.reduceSub, ←decide_not, k1, k3, k4]
  refine graph_Reach_call (Yld.mono (Reach_spec (G2.ext0 F24) hf R4 hn4 (by simp; omega)) ?_)
  rintro u y5 ⟨bs, hbs, N5⟩
  have F25 := F24.trans N5.1
  have hlen := hbs.len
  obtain ⟨ab, cb, hvb, hcb, _, hnb, Rb, _⟩ := N5.2.1.slice
  subst hvb
  have Ub : ∀ z, ab = some z → z.block < y5.heap.size := fun z hz => N5.2.1.lt _ (by rw [hz]; simp [blk, Value.ownBlock])
  have k5 := fun i => (B12.ext F25 (by simp)).cell (i := i)
  simp (disch := (first | omega | decide | (simp only [rsD] <;> omega) | fail)) only [↓rsC, rsK, rsL, ↓rsTri2_0, tick_eq, tickV_eq, ne_eq, Int.reduceAdd, Int.reduceSub, Int.reduceMul, Int.reduceEq, Int.reduceLT, Int.reduceLE, Int.reduceToNat, Nat.reduceMul, Nat.reduceAdd, Nat.reduceSub, ←decide_not, k1, k3, k4, k5]
  obtain ⟨nb, hnb⟩ : ∃ g, g = y5.heap.size := ⟨_, rfl⟩
  have Bn0 : Blk (y5.alloc (.cells (List.replicate ns.length (i64 0)).toArray 3)) nb 3 (its (noP bs 0)) := by
    rw [noP_zero, hlen]
    exact Blk.at hnb
  have X6 : Ext [] y5 (y5.alloc (.cells (List.replicate ns.length (i64 0)).toArray 3)) := Ext.alloc _ _ _
  have zs6 : (y5.alloc (.cells (List.replicate ns.length (i64 0)).toArray 3)).heap.size = nb + 1 := by rw [World.size_alloc, hnb]
  rw [← hnb]
  rw [show (y5.alloc (.cells (List.replicate ((ns.length : Int)).toNat (i64 0)).toArray 3)).heap.size = nb + 1 from zs6]
  have g1lt5 := (B12.ext F25 (by simp)).lt
  have g4lt5 := (B2.ext F25 (by simp)).lt
  generalize y5.alloc (.cells (List.replicate ns.length (i64 0)).toArray 3) = y6 at *
  have Bt0 : Blk (y6.alloc (.cells #[.slice (some ⟨nb, 0, none⟩) ns.length ns.length] 26)) (nb + 1) 26 [.slice (some ⟨nb, 0, none⟩) ns.length ns.length] := Blk.at zs6.symm
  have X7 : Ext [] y6 (y6.alloc (.cells #[.slice (some ⟨nb, 0, none⟩) ns.length ns.length] 26)) := Ext.alloc _ _ _
  have zs7 : (y6.alloc (.cells #[.slice (some ⟨nb, 0, none⟩) ns.length ns.length] 26)).heap.size = nb + 2 := by rw [World.size_alloc, zs6]
  have Bn1 := Bn0.ext X7 (by simp)
  generalize y6.alloc (.cells #[.slice (some ⟨nb, 0, none⟩) ns.length ns.length] 26) = y at *
  have X57 := X6.trans X7
  have F27 := F25.trans X57
  have Xy := X12.trans F27
  have B1y := B12.ext F27 (by simp)
  have B2y := B2.ext F27 (by simp)
  have zwy := X12.size
  have fresh : ∀ {w' : World}, Ext [nb] y w' → Ext [] w w' := fun F => Xy.new F (fun z hz => by simp only [List.mem_singleton] at hz; have := (X12.trans F25).size; omega)
  have Ra : ∀ {w' : World}, Ext [nb] y w' → RowAt w' ab (bls bs) := fun F => (Rb.ext0 X57).ext F fun b o hb hm => by
    have := Ub _ hb
    simp only [List.mem_singleton] at hm
    simp only at this
    omega
  have ne1 : g1 ∉ [nb] := by simp only [List.mem_singleton]; omega
  have net : nb + 1 ∉ [nb] := by simp only [List.mem_singleton]; omega
  refine xLoop_n bs.length (fun j => [i64 (rk bs j : Int), i64 (j : Int)]) (fun j w' => Ext [nb] y w' ∧ Blk w' nb 3 (its (noP bs j))) rfl ⟨Ext.refl _ _, Bn1⟩ ?_ ?_
  · rintro j hj u x1 hu ⟨F, B⟩ nxt hnx
    simp only [List.map_cons, List.map_nil, List.cons.injEq, and_true] at hu
    rw [hu.1, hu.2]
    obtain ⟨b, o, eab, _, cb2⟩ := (Ra F).at (i := j) (by simpa using hj)
    rw [List.getElem_map] at cb2
    have hrk := rk_le (bs := bs) j
    have hrs := rk_succ hj
    unfold graph_Trim_l1
    rw [eab]
    cases hb : bs[j] with
    | false =>
      rw [hb] at cb2 hrs
      have e : rk bs (j + 1) = rk bs j := by simpa using hrs
      simp (disch := (first | omega | decide | (simp only [rsD] <;> omega) | fail)) only [↓rsC, rsK, rsL, ↓rsTri2_0, tick_eq, tickV_eq, ne_eq, Int.reduceAdd, Int.reduceSub, Int.reduceMul, Int.reduceEq, Int.reduceLT, Int.reduceLE, Int.reduceToNat, Nat.reduceMul, Nat.reduceAdd, Nat.reduceSub, ←decide_not, k1, k3, k4, k5, cb2]
      unfold graph_Trim_j1
      simp (disch := (first | omega | decide | (simp only [rsD] <;> omega) | fail)) only [↓rsC, rsK, rsL, ↓rsTri2_0, tick_eq, tickV_eq, ne_eq, Int.reduceAdd, Int.reduceSub, Int.reduceMul, Int.reduceEq, Int.reduceLT, Int.reduceLE, Int.reduceToNat, Nat.reduceMul, Nat.reduceAdd, Nat.reduceSub, ←decide_not, k1, k3, k4, k5, cb2]
      rw [← e]
      exact hnx _ ⟨F, by rw [noP_off bs hj hb]; exact B⟩
    | true =>
      rw [hb] at cb2 hrs
      have e : (rk bs j : Int) + 1 = (rk bs (j + 1) : Int) := by
        simp only [if_true] at hrs
        omega
      have kt := fun i => (Bt0.ext F net).cell (i := i)
      have kn := fun i => B.cell (i := i)
      have fn := fun i => B.frozen (i := i)
      have cn : (its (noP bs j))[j]? = some (i64 0) := by
        rw [List.getElem?_map, noP, List.getElem?_map, List.getElem?_range hj]
        simp
      simp (disch := (first | omega | decide | (simp only [rsD] <;> omega) | fail)) only [↓rsC, rsK, rsL, ↓rsTri2_0, tick_eq, tickV_eq, ne_eq, Int.reduceAdd, Int.reduceSub, Int.reduceMul, Int.reduceEq, Int.reduceLT, Int.reduceLE, Int.reduceToNat, Nat.reduceMul, Nat.reduceAdd, Nat.reduceSub, ←decide_not, k1, k3, k4, k5, cb2, kt, kn, fn, cn]
      have B3 := B.set (i := j) (v := i64 ((rk bs j : Int) + 1))
      rw [← noP_on bs hj hb] at B3
      rw [e] at B3 ⊢
      unfold graph_Trim_j1
      simp (disch := (first | omega | decide | (simp only [rsD] <;> omega) | fail)) only [↓rsC, rsK, rsL, ↓rsTri2_0, tick_eq, tickV_eq, ne_eq, Int.reduceAdd, Int.reduceSub, Int.reduceMul, Int.reduceEq, Int.reduceLT, Int.reduceLE, Int.reduceToNat, Nat.reduceMul, Nat.reduceAdd, Nat.reduceSub, ←decide_not, k1, k3, k4, k5, cb2, kt, kn, fn, cn]
      exact hnx _ ⟨F.set' (.inl (by simp)), B3⟩
  rintro u x1 hu ⟨F, B⟩ nxt
  simp only [List.map_cons, List.map_nil, List.cons.injEq, and_true] at hu
  rw [hu.1, hu.2]
  rw [noP_all] at B
  have B11 := B1y.ext F ne1
  have Bt1 := Bt0.ext F net
  have k11 := fun i => B11.cell (i := i)
  have zg11 := B11.lt
  unfold graph_Trim_l1
  simp (disch := (first | omega | decide | (simp only [rsD] <;> omega) | fail)) only [↓rsC, rsK, rsL, ↓rsTri2_0, tick_eq, tickV_eq, ne_eq, Int.reduceAdd, Int.reduceSub, Int.reduceMul, Int.reduceEq, Int.reduceLT, Int.reduceLE, Int.reduceToNat, Nat.reduceMul, Nat.reduceAdd, Nat.reduceSub, ←decide_not, k1, k3, k4, k5, k11]
  obtain ⟨hx, hhx⟩ : ∃ g, g = x1.heap.size := ⟨_, rfl⟩
  have Bx0 : Blk (x1.alloc (.cells #[.slice none 0 0, .slice none 0 0] 25)) hx 25 [.slice none 0 0, .slice none 0 0] := Blk.at hhx
  have X8 : Ext [] x1 (x1.alloc (.cells #[.slice none 0 0, .slice none 0 0] 25)) := Ext.alloc _ _ _
  have zs8 : (x1.alloc (.cells #[.slice none 0 0, .slice none 0 0] 25)).heap.size = x1.heap.size + 1 := World.size_alloc _ _
  rw [← hhx] at zs8 ⊢
  have zB := B.lt
  have zBt := Bt1.lt
  have zF := F.size
  have Ry := Ra F
  have F8 := (fresh F).trans X8
  have B18 := B11.ext X8 (by simp)
  have B48 := (B2y.ext F (by simp only [List.mem_singleton]; omega)).ext X8 (by simp)
  have Bt8 := Bt1.ext X8 (by simp)
  have Bn8 := B.ext X8 (by simp)
  have Ry8 := Ry.ext0 X8
  have zw1 : w.heap.size ≤ x1.heap.size := (fresh F).size
  have ab8 : ∀ z, ab = some z → z.block < nb := fun z hz => by have := Ub z hz; omega
  generalize x1.alloc (.cells #[.slice none 0 0, .slice none 0 0] 25) = q at *
  have hlt : hx < q.heap.size := by omega
  have fresh2 : ∀ {w' : World}, Ext [hx] q w' → Ext [] w w' := fun F => F8.new F (fun z hz => by simp only [List.mem_singleton] at hz; omega)
  have nq1 : g1 ∉ [hx] := by simp only [List.mem_singleton]; omega
  have nq4 : g4 ∉ [hx] := by simp only [List.mem_singleton]; omega
  have nqt : nb + 1 ∉ [hx] := by simp only [List.mem_singleton]; omega
  have nqn : nb ∉ [hx] := by simp only [List.mem_singleton]; omega
  have Rq : ∀ {w' : World}, Ext [hx] q w' → RowAt w' ab (bls bs) := fun F => Ry8.ext F fun b o hb hm => by
    have := ab8 _ hb
    simp only [List.mem_singleton] at hm
    simp only at this
    omega
  have nilb : ∀ z, z ∉ blk (.slice none 0 0) := by simp [blk, Value.ownBlock]
  have hto : ∀ {w' : World}, Ext [hx] q w' → ∀ ps, FunTo w' (.func (.func n_graph_Trim_1) #[] #[ptr (nb + 1)]) ps (toB bs) := fun {w'} F ps => by
    refine funTo_trim (nb := nb) ?_ ?_ (by omega) ps
    · rw [hlen]
      exact Bt8.ext F nqt
    · exact (Bn8.ext F nqn).row
  refine xLoop_n ns.length (fun j => [i64 (j : Int)]) (fun j w' => Ext [hx] q w' ∧ ∃ v ns', ns'.map bare = sel (trN bs) (ns.take j) (bs.take j) ∧ OwnGN w' v ns' ∧ Blk w' hx 25 [v, .slice none 0 0] ∧ (∀ z ∈ blk v, q.heap.size ≤ z) ∧ ∀ x ∈ ns', NOk w' x ∧ Apt (hx :: blk v) x) rfl ⟨Ext.refl _ _, .slice none 0 0, [], by simp [sel], Own.nil, Bx0, fun z hz => absurd hz (nilb z), by simp⟩ ?_ ?_
  · rintro j hj u x2 hu ⟨F, v, ns', hns, O, B, U, A⟩ nxt2 hnx
    simp only [List.map_cons, List.map_nil, List.cons.injEq, and_true] at hu
    rw [hu]
    have hj' : j < bs.length := by omega
    obtain ⟨bn, on, ena, _, c1, c2⟩ := gn_at (h.nr.ext0 (fresh2 F)) hj
    obtain ⟨bb, ob, eab, _, cb2⟩ := (Rq F).at (i := j) (by simpa using hj')
    rw [List.getElem_map] at cb2
    have hst := sel_take (trN bs) ns bs j hj hj'
    have hnl : ns'.length ≤ 9000 := by
      have h1 := congrArg List.length hns
      rw [List.length_map, sel_len _ _ _ (by simp; omega)] at h1
      have h2 := List.countP_le_length (p := id) (l := bs.take j)
      rw [List.length_take] at h2
      omega
    have hxk := h.ok _ (List.getElem_mem hj)
    have lx := hf.x _ (List.getElem_mem hj)
    obtain ⟨a0, c0, hv0, _⟩ := O.slice
    subst hv0
    generalize ns[j] = x at *
    have zb2 := B.lt
    unfold graph_Trim_l2
    rw [ena, eab]
    cases hb : bs[j] with
    | false =>
      rw [hb] at cb2 hst
      have E9 : Ext [] x2 (x2.alloc (.cells #[.slice x.pa x.p.length x.pc, .slice x.da x.d.length x.dc] 53)) := Ext.alloc _ _ _
      simp (disch := (first | omega | decide | (simp only [rsD] <;> omega) | fail)) only [↓rsC, rsK, rsL, ↓rsTri2_0, tick_eq, tickV_eq, ne_eq, Int.reduceAdd, Int.reduceSub, Int.reduceMul, Int.reduceEq, Int.reduceLT, Int.reduceLE, Int.reduceToNat, Nat.reduceMul, Nat.reduceAdd, Nat.reduceSub, ←decide_not, k1, k3, k4, k5, k11, c1, c2, cb2]
      unfold graph_Trim_j2
      simp (disch := (first | omega | decide | (simp only [rsD] <;> omega) | fail)) only [↓rsC, rsK, rsL, ↓rsTri2_0, tick_eq, tickV_eq, ne_eq, Int.reduceAdd, Int.reduceSub, Int.reduceMul, Int.reduceEq, Int.reduceLT, Int.reduceLE, Int.reduceToNat, Nat.reduceMul, Nat.reduceAdd, Nat.reduceSub, ←decide_not, k1, k3, k4, k5, k11, c1, c2, cb2]
      exact hnx _ ⟨F.trans (E9.more (by simp)), _, ns', by rw [hns, hst]; simp, O.ext0 E9, B.ext E9 (by simp), U, fun x hx' => ⟨(A x hx').1.ext0 E9, (A x hx').2⟩⟩
    | true =>
      rw [hb] at cb2 hst
      have kb := fun i => B.cell (i := i)
      simp (disch := (first | omega | decide | (simp only [rsD] <;> omega) | fail)) only [↓rsC, rsK, rsL, ↓rsTri2_0, tick_eq, tickV_eq, ne_eq, Int.reduceAdd, Int.reduceSub, Int.reduceMul, Int.reduceEq, Int.reduceLT, Int.reduceLE, Int.reduceToNat, Nat.reduceMul, Nat.reduceAdd, Nat.reduceSub, ←decide_not, k1, k3, k4, k5, k11, c1, c2, cb2, kb]
      have E9 : Ext [] x2 (x2.alloc (.cells #[.slice x.pa x.p.length x.pc, .slice x.da x.d.length x.dc] 53)).drew := (Ext.alloc _ _ _).trans (Ext.drew [] _)
      generalize (x2.alloc (.cells #[.slice x.pa x.p.length x.pc, .slice x.da x.d.length x.dc] 53)).drew = x3 at *
      have F3 := F.trans (E9.more (by simp))
      refine graph_Node_apart_call (Yld.mono (apart_spec (hxk.ext0 (fresh2 F3)) lx (hto F3 x.p)) ?_)
      rintro u x4 ⟨F4, y', rfl, hyp, hyd, hyk, hfa, hfb⟩
      have F04 := F3.trans (F4.more (by simp))
      have E94 := E9.trans F4
      have B4 := B.ext E94 (by simp)
      have O4 := O.ext0 E94
      have zb4 := B4.lt
      have k4 := fun i => B4.cell (i := i)
      simp (disch := (first | omega | decide | (simp only [rsD] <;> omega) | fail)) only [↓rsC, rsK, rsL, ↓rsTri2_0, tick_eq, tickV_eq, ne_eq, Int.reduceAdd, Int.reduceSub, Int.reduceMul, Int.reduceEq, Int.reduceLT, Int.reduceLE, Int.reduceToNat, Nat.reduceMul, Nat.reduceAdd, Nat.reduceSub, ←decide_not, k1, k3, k4, k5, k11, c1, c2, cb2, kb]
      refine appGN O4 (x := y') rfl (by omega) fun v' x5 O5 T5 => ?_
      obtain ⟨F5, U5, n1, n2⟩ := grow F04 U hlt T5
      have B5 := B4.ext T5.ext n1
      obtain ⟨a3, c3, hv3, _⟩ := O5.slice
      have k5 := fun i => B5.cell (i := i)
      have f5 := fun i => B5.frozen (i := i)
      subst hv3
      simp (disch := (first | omega | decide | (simp only [rsD] <;> omega) | fail)) only [↓rsC, rsK, rsL, ↓rsTri2_0, tick_eq, tickV_eq, ne_eq, Int.reduceAdd, Int.reduceSub, Int.reduceMul, Int.reduceEq, Int.reduceLT, Int.reduceLE, Int.reduceToNat, Nat.reduceMul, Nat.reduceAdd, Nat.reduceSub, ←decide_not, k1, k3, k4, k5, k11, c1, c2, cb2, kb, f5]
      have B6 := B5.set (i := 0) (v := .slice a3 (ns' ++ [y']).length c3)
      have O6 := O5.ext (Ext.set (w := x5) (b := hx) (o := 0) (v := .slice a3 (ns' ++ [y']).length c3)) (fun z hz hm => by simp only [List.mem_singleton] at hm; subst hm; exact n2 hz)
      unfold graph_Trim_j2
      simp (disch := (first | omega | decide | (simp only [rsD] <;> omega) | fail)) only [↓rsC, rsK, rsL, ↓rsTri2_0, tick_eq, tickV_eq, ne_eq, Int.reduceAdd, Int.reduceSub, Int.reduceMul, Int.reduceEq, Int.reduceLT, Int.reduceLE, Int.reduceToNat, Nat.reduceMul, Nat.reduceAdd, Nat.reduceSub, ←decide_not, k1, k3, k4, k5, k11, c1, c2, cb2, kb, f5]
      refine hnx _ ⟨F5.set' (.inl (by simp)), _, ns' ++ [y'], ?_, O6, B6, U5, fun p hp => ?_⟩
      · rw [List.map_append, hns, hst]
        simp [bare, trN, hyp, hyd]
      · have z3x : x2.heap.size ≤ x3.heap.size := E9.size
        have hA : NOk x4 p ∧ Apt (hx :: blk (.slice a0 ns'.length c0)) p := by
          rcases List.mem_append.1 hp with hp | hp
          · exact ⟨(A p hp).1.ext0 E94, (A p hp).2⟩
          · rw [List.mem_singleton] at hp
            subst hp
            have hz2 := O.lt
            refine ⟨hyk, fun y hy _ hm => ?_, fun y hy _ hm => ?_⟩
            · have := hfa y hy
              rcases List.mem_cons.1 hm with e | e
              · omega
              · have := hz2 _ e; omega
            · have := hfb y hy
              rcases List.mem_cons.1 hm with e | e
              · omega
              · have := hz2 _ e; omega
        have hA2 := hA.1.ext (T5.ext.more (fun z hz => List.mem_cons_of_mem hx hz)) hA.2
        have hA3 : Apt (hx :: blk (.slice a3 (ns' ++ [y']).length c3)) p := hA.2.more hA.1 fun b hb => by
          rcases List.mem_cons.1 hb with e | e
          · exact .inl (by rw [e]; exact List.mem_cons_self ..)
          · exact (T5.at' b e).imp (List.mem_cons_of_mem _) id
        exact ⟨hA2.ext (Ext.set.more (by simp)) hA3, hA3⟩
  rintro u x2 hu ⟨F2, v, ns', hns, O, B2x, U, A⟩ nxt2
  simp only [List.map_cons, List.map_nil, List.cons.injEq, and_true] at hu
  rw [hu]
  have hns : ns'.map bare = trNs ns bs := by
    rw [hns, List.take_length, ← hlen, List.take_length]
    rfl
  have kq1 := fun i => (B18.ext F2 nq1).cell (i := i)
  unfold graph_Trim_l2
  simp (disch := (first | omega | decide | (simp only [rsD] <;> omega) | fail)) only [↓rsC, rsK, rsL, ↓rsTri2_0, tick_eq, tickV_eq, ne_eq, Int.reduceAdd, Int.reduceSub, Int.reduceMul, Int.reduceEq, Int.reduceLT, Int.reduceLE, Int.reduceToNat, Nat.reduceMul, Nat.reduceAdd, Nat.reduceSub, ←decide_not, k1, k3, k4, k5, k11, kq1]
  refine xLoop_n rs.length (fun j => [i64 (j : Int)]) (fun j w' => Ext [hx] q w' ∧ OwnGN w' v ns' ∧ ∃ v2, OwnGR w' v2 ((trRs rs bs).take j) ∧ Blk w' hx 25 [v, v2] ∧ (∀ z ∈ blk v2, q.heap.size ≤ z) ∧ (∀ z ∈ blk v2, z ∉ blk v) ∧ ∀ x ∈ ns', NOk w' x ∧ Apt (hx :: (blk v ++ blk v2)) x) rfl ⟨F2, O, .slice none 0 0, Own.nil, B2x, fun z hz => absurd hz (nilb z), fun z hz => absurd hz (nilb z), fun x hx' => ⟨(A x hx').1, by have := (A x hx').2; simpa [blk, Value.ownBlock] using this⟩⟩ ?_ ?_
  · rintro j hj u x1 hu ⟨F, O, v2, R, B, U2, D, A⟩ nxt3 hnx
    simp only [List.map_cons, List.map_nil, List.cons.injEq, and_true] at hu
    rw [hu]
    obtain ⟨a0, c0', hv0, _⟩ := R.slice
    subst hv0
    have hlr : (trRs rs bs).length = rs.length := by simp [trRs]
    have hlenj : ((trRs rs bs).take j).length = j := by rw [List.length_take]; omega
    obtain ⟨br, or', era, _, c1, c2⟩ := gr_at (h.rr.ext0 (fresh2 F)) hj
    have hsu : (trRs rs bs).take (j + 1) = (trRs rs bs).take j ++ [⟨rs[j].s, toB bs rs[j].to⟩] := by
      rw [List.take_add_one, List.getElem?_eq_getElem (by omega)]
      simp [trRs]
    generalize rs[j] = r at *
    have kb := fun i => B.cell (i := i)
    have zb := B.lt
    unfold graph_Trim_l3
    rw [era]
    simp (disch := (first | omega | decide | (simp only [rsD] <;> omega) | fail)) only [↓rsC, rsK, rsL, ↓rsTri2_0, tick_eq, tickV_eq, ne_eq, Int.reduceAdd, Int.reduceSub, Int.reduceMul, Int.reduceEq, Int.reduceLT, Int.reduceLE, Int.reduceToNat, Nat.reduceMul, Nat.reduceAdd, Nat.reduceSub, ←decide_not, k1, k3, k4, k5, k11, kq1, c1, c2, kb]
    have E9 : Ext [] x1 (x1.alloc (.cells #[.string (strOf r.s), i64 r.to] 58)).drew := (Ext.alloc _ _ _).trans (Ext.drew [] _)
    have Brr := (Blk.at (w := x1) (e := 58) (cs := [.string (strOf r.s), i64 r.to]) rfl).ext (Ext.drew [] _) (by simp)
    generalize (x1.alloc (.cells #[.string (strOf r.s), i64 r.to] 58)).drew = x3 at *
    have F3 := F.trans (E9.more (by simp))
    refine hto F3 [r.to] _ r.to _ (Ext.refl _ _) (by simp) fun x4 F4 => ?_
    have F04 := F3.trans (F4.more (by simp))
    have E94 := E9.trans F4
    have B4 := B.ext E94 (by simp)
    have Br4 := Brr.ext F4 (by simp)
    have R4' := R.ext0 E94
    have O4 := O.ext0 E94
    have zb4 := B4.lt
    have k4 := fun i => B4.cell (i := i)
    have k4r := fun i => Br4.cell (i := i)
    simp (disch := (first | omega | decide | (simp only [rsD] <;> omega) | fail)) only [↓rsC, rsK, rsL, ↓rsTri2_0, tick_eq, tickV_eq, ne_eq, Int.reduceAdd, Int.reduceSub, Int.reduceMul, Int.reduceEq, Int.reduceLT, Int.reduceLE, Int.reduceToNat, Nat.reduceMul, Nat.reduceAdd, Nat.reduceSub, ←decide_not, k1, k3, k4, k5, k11, kq1, c1, c2, kb, k4r]
    refine appGR R4' (x := ⟨r.s, toB bs r.to⟩) rfl (by omega) fun v' x5 R5 T5 => ?_
    obtain ⟨F5, U5, n1, n2⟩ := grow F04 U2 hlt T5
    have B5 := B4.ext T5.ext n1
    have O5 := O4.ext T5.ext (fun z hz hm => D z hm hz)
    obtain ⟨a3, c3, hv3, _⟩ := R5.slice
    have k5 := fun i => B5.cell (i := i)
    have f5 := fun i => B5.frozen (i := i)
    rw [← hsu] at R5 hv3
    subst hv3
    simp (disch := (first | omega | decide | (simp only [rsD] <;> omega) | fail)) only [↓rsC, rsK, rsL, ↓rsTri2_0, tick_eq, tickV_eq, ne_eq, Int.reduceAdd, Int.reduceSub, Int.reduceMul, Int.reduceEq, Int.reduceLT, Int.reduceLE, Int.reduceToNat, Nat.reduceMul, Nat.reduceAdd, Nat.reduceSub, ←decide_not, k1, k3, k4, k5, k11, kq1, c1, c2, kb, k4r, f5]
    have B6 := B5.set (i := 1) (v := .slice a3 ((trRs rs bs).take (j + 1)).length c3)
    have hxv : hx ∉ blk v := fun hm => by have := U _ hm; omega
    have D5 : ∀ z ∈ blk (.slice a3 ((trRs rs bs).take (j + 1)).length c3), z ∉ blk v := fun z hz hm => by
      rcases T5.at' z hz with h1 | h1
      · exact D z h1 hm
      · have := O4.lt z hm
        omega
    have R6 := R5.ext (Ext.set (w := x5) (b := hx) (o := 1) (v := .slice a3 ((trRs rs bs).take (j + 1)).length c3)) (fun z hz hm => by simp only [List.mem_singleton] at hm; subst hm; exact n2 hz)
    have O6 := O5.ext (Ext.set (w := x5) (b := hx) (o := 1) (v := .slice a3 ((trRs rs bs).take (j + 1)).length c3)) (fun z hz hm => by simp only [List.mem_singleton] at hm; subst hm; exact hxv hz)
    refine hnx _ ⟨F5.set' (.inl (by simp)), O6, _, R6, B6, U5, D5, fun q' hq => ?_⟩
    have hA : NOk x4 q' ∧ Apt (hx :: (blk v ++ blk (.slice a0 ((trRs rs bs).take j).length c0'))) q' := ⟨(A q' hq).1.ext0 E94, (A q' hq).2⟩
    have hA2 := hA.1.ext (T5.ext.more (fun z hz => List.mem_cons_of_mem hx (List.mem_append_right _ hz))) hA.2
    have hA3 : Apt (hx :: (blk v ++ blk (.slice a3 ((trRs rs bs).take (j + 1)).length c3))) q' := hA.2.more hA.1 fun b hb => by
      rcases List.mem_cons.1 hb with e | e
      · exact .inl (by rw [e]; exact List.mem_cons_self ..)
      · rcases List.mem_append.1 e with e | e
        · exact .inl (List.mem_cons_of_mem _ (List.mem_append_left _ e))
        · exact (T5.at' b e).imp (fun h => List.mem_cons_of_mem _ (List.mem_append_right _ h)) id
    exact ⟨hA2.ext (Ext.set.more (by simp)) hA3, hA3⟩
  rintro u x1 hu ⟨F, O, v2, R, B, U2, D, A⟩ nxt3
  simp only [List.map_cons, List.map_nil, List.cons.injEq, and_true] at hu
  rw [hu]
  have etk : (trRs rs bs).take rs.length = trRs rs bs := List.take_of_length_le (by simp [trRs])
  rw [etk] at R
  obtain ⟨na', nc', hvn, hnc, _, hnn, Rn, _⟩ := O.slice
  obtain ⟨ra', rc', hvr, hrc, _, hrn, Rr, _⟩ := R.slice
  subst hvn hvr
  have Ed := Ext.drew [] x1
  have Fd := F.trans (Ed.more (by simp))
  have B01 := B48.ext Fd nq4
  have Bxd := B.ext Ed (by simp)
  have Btd := Bt8.ext Fd nqt
  have kx := fun i => Bxd.cell (i := i)
  have k01 := fun i => B01.cell (i := i)
  have f01 := fun i => B01.frozen (i := i)
  have kt := fun i => Btd.cell (i := i)
  have g4t : g4 ≠ nb + 1 := by omega
  have nbt : nb + 1 ≠ g4 := by omega
  have hxlt := B.lt
  unfold graph_Trim_l3
  simp (disch := (first | omega | decide | (simp only [rsD] <;> omega) | fail)) only [↓rsC, rsK, rsL, ↓rsTri2_0, tick_eq, tickV_eq, ne_eq, Int.reduceAdd, Int.reduceSub, Int.reduceMul, Int.reduceEq, Int.reduceLT, Int.reduceLE, Int.reduceToNat, Nat.reduceMul, Nat.reduceAdd, Nat.reduceSub, ←decide_not, k1, k3, k4, k5, k11, kq1, kx, k01, f01, kt, g4t, nbt]
  have FE : Ext [g4] x1 ((x1.drew.setCell ⟨g4, 0, none⟩ (.slice na' ns'.length nc')).setCell ⟨g4, 1, none⟩ (.slice ra' (trRs rs bs).length rc')) := ((Ext.drew _ _).set' (.inl (by simp))).set' (.inl (by simp))
  have zw4 : w.heap.size ≤ g4 := by omega
  have Fw := fresh2 F
  refine ⟨((Fw.trans Ed).set' (.inr zw4)).set' (.inr zw4), bs, na', nc', ra', rc', ns', _, hbs, hns, rfl, ?_, some ⟨nb, 0, none⟩, ns.length, rfl, Nat.le_refl _, ?_⟩
  · have nna : ∀ b o, na' = some ⟨b, o, none⟩ → b ∉ [g4] := fun b o hb hm => by
      have := U b (by rw [hb]; simp [blk, Value.ownBlock])
      simp only [List.mem_singleton] at hm
      omega
    have nra : ∀ b o, ra' = some ⟨b, o, none⟩ → b ∉ [g4] := fun b o hb hm => by
      have := U2 b (by rw [hb]; simp [blk, Value.ownBlock])
      simp only [List.mem_singleton] at hm
      omega
    refine ⟨Rn.ext FE nna, hnc, hnn, Rr.ext FE nra, hrc, hrn, fun x hx' => ?_⟩
    have hA := A x hx'
    have hA2 := hA.2.cons hA.1 (B48.ext F nq4) (by simp)
    exact hA.1.ext (FE.more (by simp)) hA2
  · exact (Bn8.ext F nqn).row.ext FE fun b o hb hm => by
      cases hb
      simp only [List.mem_singleton] at hm
      omega
end Go.Proofs.Ythhcmoknppljpaa
end
section
set_option linter.unusedVariables false
set_option linter.unusedSimpArgs false
set_option maxHeartbeats 4000000
namespace Go.Proofs.Ythhcmoknppljpaa
open Go.Sh Go.RowKit

theorem twin_to (w : World) (ps : List Int) : FunTo w (.func (.func n_graph_Twin_1) #[] #[]) ps id := by
  intro w' p K F _ hK
  refine graph_Twin_1_callc (show Yld Try.prog n_graph_Twin_1 #[i64 p] w' K from ?_)
  refine graph_Twin_1_of ?_
  unfold graph_Twin_1
  exact hK w' (Ext.refl _ _)
abbrev rsTwi1_0 := (And.intro @xu8_eql (And.intro @xu16_eql (And.intro @xu32_eql (And.intro @xu64_eql (And.intro @xi64_eql (And.intro @bs_23_0 (And.intro @bs_23_1 @nq_23)))))))
theorem CloneR_spec (l : List GR) (a : Option Addr) (c : Nat) (w : World) (hl : l.length ≤ 9000) (h : RowAt w a (l.flatMap grC)) (hc : l.length ≤ c) (hn : a = none → c = 0) :
    Yld Try.prog n_slices_Clone_graph_Root_graph_Root #[.slice a l.length c] w fun u w' => NewR 58 2 w w' u l.length (l.flatMap grC) := by
  refine slices_Clone_graph_Root_graph_Root_of ?_
  unfold slices_Clone_graph_Root_graph_Root
  cases a with
  | none =>
    have h0 : l = [] := List.eq_nil_of_length_eq_zero (by have := hn rfl; omega)
    subst h0
    simp (disch := (first | omega | decide | (simp only [rsD] <;> omega) | fail)) only [↓rsC, rsK, rsL, ↓rsTwi1_0, tick_eq, tickV_eq, ne_eq, Int.reduceAdd, Int.reduceSub, Int.reduceMul, Int.reduceEq, Int.reduceLT, Int.reduceLE, Int.reduceToNat, Nat.reduceMul, Nat.reduceAdd, Nat.reduceSub, ←decide_not, eq_self]
    exact NewR.nil (Ext.refl _ _)
  | some a =>
    have hlc : (l.flatMap grC).length = l.length * 2 := pair_len (fun _ => rfl) l
    simp (disch := (first | omega | decide | (simp only [rsD] <;> omega) | fail)) only [↓rsC, rsK, rsL, ↓rsTwi1_0, tick_eq, tickV_eq, ne_eq, Int.reduceAdd, Int.reduceSub, Int.reduceMul, Int.reduceEq, Int.reduceLT, Int.reduceLE, Int.reduceToNat, Nat.reduceMul, Nat.reduceAdd, Nat.reduceSub, ←decide_not, eq_self]
    have B : Blk (w.alloc (.cells #[] 58)) w.heap.size 58 [] := Blk.at (cs := []) rfl
    have O : Own (w.alloc (.cells #[] 58)) 58 2 (.slice (some ⟨w.heap.size, 0, none⟩) 0 0) 0 [] := Own.close (rest := []) (by rw [List.append_nil]; exact B) (Nat.le_refl _) (by decide) (by rfl) (by rfl)
    have N0 : NewR 58 2 w (w.alloc (.cells #[] 58)) (.slice (some ⟨w.heap.size, 0, none⟩) 0 0) 0 [] := ⟨Ext.alloc _ _ _, O, by simp [blk, Value.ownBlock]⟩
    refine xApp (e := 58) (s := 2) (n := 0) (m := l.length) (xs := []) (news := l.flatMap grC) (bytes := 24) (z := .agg #[.string ⟨#[]⟩, .int .i64 0]) (by kernel_rfl) (by kernel_rfl) (by rfl) (by decide) O hlc (h.ext0 (Ext.alloc _ _ _)) hn hc (fun u hu => ?_) (by omega) (by omega) fun v' w' O' T' => ?_
    · obtain ⟨f, _, hf⟩ := List.mem_flatMap.1 hu
      simp only [grC, List.mem_cons, List.not_mem_nil, or_false] at hf
      rcases hf with rfl | rfl <;> rfl
    · have := N0.app O' T'
      rw [Nat.zero_add, List.nil_append] at this
      exact this
theorem Apt.sub2 {M M' : List Nat} {x : GN} (h : Apt M x) (hm : ∀ b ∈ M', b ∈ M) : Apt M' x := ⟨fun y hy hn hb => h.p y hy hn (hm _ hb), fun y hy hn hb => h.d y hy hn (hm _ hb)⟩
/-- a node's blocks -/
def nbk (x : GN) : List Nat := (x.pa.toList ++ x.da.toList).map (·.block)
theorem mem_nbk {x : GN} {b : Nat} : b ∈ nbk x ↔ (∃ y, x.pa = some y ∧ y.block = b) ∨ ∃ y, x.da = some y ∧ y.block = b := by
  unfold nbk
  rw [List.mem_map]
  constructor
  · rintro ⟨y, hy, e⟩
    rcases List.mem_append.1 hy with h | h
    · exact .inl ⟨y, by simpa using h, e⟩
    · exact .inr ⟨y, by simpa using h, e⟩
  · rintro (⟨y, h, e⟩ | ⟨y, h, e⟩)
    · exact ⟨y, List.mem_append_left _ (by simp [h]), e⟩
    · exact ⟨y, List.mem_append_right _ (by simp [h]), e⟩
/-- nodes that one may write, apart from all there was at w, and from each other -/
structure Own1 (w w' : World) (M : List Nat) (x : GN) : Prop where
  ok : NOk w' x
  bl : NBl w' x
  fr : ∀ b ∈ nbk x, w.heap.size ≤ b
  ap : Apt M x
def TwinR (w : World) (ns : List GN) (rs : List GR) (u : Value) (w' : World) : Prop := Ext [] w w' ∧ ∃ na' nc' ra' rc' ns', ns'.map bare = ns.map bare ∧ u = gV na' nc' ra' rc' ns' rs ∧ GIs w' na' nc' ra' rc' ns' rs ∧ (∀ x ∈ ns', Own1 w w' (na'.toList.map (·.block)) x) ∧ ns'.Pairwise fun x y => Apt (nbk y) x
abbrev rsTwi1_1 := (And.intro @xu8_add (And.intro @xu8_lss (And.intro @xu16_add (And.intro @xu16_lss (And.intro @xu32_add (And.intro @xu32_lss (And.intro @xu64_add (And.intro @xu64_lss (And.intro @xi64_lss (And.intro @ld_22 (And.intro @ld_23 (And.intro @ld_25 (And.intro @ld_53 (And.intro @lr_25 (And.intro @fa_25_0 (And.intro @fa_25_1 (And.intro @al_25 
  (And.intro @al_53 (And.intro @st_22 (And.intro @st_23 (And.intro @st_25 (And.intro @st_53 (And.intro @ia_22 (And.intro @ln_22 (And.intro @bs_22_1 @bs_22_3)))))))))))))))))))))))))
theorem GTwin_spec {w : World} {na ra : Option Addr} {nc rc : Nat} {ns : List GN} {rs : List GR} (h : GIs w na nc ra rc ns rs) (hf : FewH ns rs) :
    Yld Try.prog n_graph_Twin #[gV na nc ra rc ns rs] w (TwinR w ns rs) := by
  have hfn := hf.n
  have hfr := hf.r
  refine graph_Twin_of ?_
  unfold graph_Twin
  have gbox : ∀ (y : World) (K : K1), xBox Try.prog 25 (gV na nc ra rc ns rs) y K = K (ptr y.heap.size) (y.alloc (.cells #[.slice na ns.length nc, .slice ra rs.length rc] 25)) := fun y K => xBox_r
  have al : ∀ (y : World) (K : K1), xAlloc Try.prog 25 y K = K (ptr y.heap.size) (y.alloc (.cells #[.slice none 0 0, .slice none 0 0] 25)) := fun y K => xAlloc_r (by kernel_rfl)
  rw [gbox, al, al]
  have B1 : Blk (w.alloc (.cells #[.slice na ns.length nc, .slice ra rs.length rc] 25)) w.heap.size 25 [.slice na ns.length nc, .slice ra rs.length rc] := Blk.at rfl
  have X1 : Ext [] w (w.alloc (.cells #[.slice na ns.length nc, .slice ra rs.length rc] 25)) := Ext.alloc _ _ _
  generalize w.alloc (.cells #[.slice na ns.length nc, .slice ra rs.length rc] 25) = y1 at *
  obtain ⟨g1, hg1⟩ : ∃ g, g = w.heap.size := ⟨_, rfl⟩
  rw [← hg1] at B1 ⊢
  have g1lt := B1.lt
  have zw1 := X1.size
  have B2 : Blk (y1.alloc (.cells #[.slice none 0 0, .slice none 0 0] 25)) y1.heap.size 25 [.slice none 0 0, .slice none 0 0] := Blk.at rfl
  have X2 : Ext [] y1 (y1.alloc (.cells #[.slice none 0 0, .slice none 0 0] 25)) := Ext.alloc _ _ _
  have B12 := B1.ext X2 (by simp)
  generalize y1.alloc (.cells #[.slice none 0 0, .slice none 0 0] 25) = y2 at *
  obtain ⟨g2, hg2⟩ : ∃ g, g = y1.heap.size := ⟨_, rfl⟩
  rw [← hg2] at B2 ⊢
  have g2lt := B2.lt
  have B18 := B12.ext (Ext.alloc [] y2 (.cells #[.slice none 0 0, .slice none 0 0] 25)) (by simp)
  have B28 := B2.ext (Ext.alloc [] y2 (.cells #[.slice none 0 0, .slice none 0 0] 25)) (by simp)
  have Bx0 : Blk (y2.alloc (.cells #[.slice none 0 0, .slice none 0 0] 25)) y2.heap.size 25 [.slice none 0 0, .slice none 0 0] := Blk.at rfl
  have X3 : Ext [] y2 (y2.alloc (.cells #[.slice none 0 0, .slice none 0 0] 25)) := Ext.alloc _ _ _
  have zs8 : (y2.alloc (.cells #[.slice none 0 0, .slice none 0 0] 25)).heap.size = y2.heap.size + 1 := World.size_alloc _ _
  generalize y2.alloc (.cells #[.slice none 0 0, .slice none 0 0] 25) = q at *
  obtain ⟨hx, hhx⟩ : ∃ g, g = y2.heap.size := ⟨_, rfl⟩
  rw [← hhx] at Bx0 zs8 ⊢
  have F8 := (X1.trans X2).trans X3
  have hlt : hx < q.heap.size := by omega
  have fresh2 : ∀ {w' : World}, Ext [hx] q w' → Ext [] w w' := fun F => F8.new F (fun z hz => by simp only [List.mem_singleton] at hz; omega)
  have nq1 : g1 ∉ [hx] := by simp only [List.mem_singleton]; omega
  have nq4 : g2 ∉ [hx] := by simp only [List.mem_singleton]; omega
  have nilb : ∀ z, z ∉ blk (.slice none 0 0) := by simp [blk, Value.ownBlock]
  have k1 := fun i => B18.cell (i := i)
  simp (disch := (first | omega | decide | (simp only [rsD] <;> omega) | fail)) only [↓rsC, rsK, rsL, ↓rsTwi1_1, tick_eq, tickV_eq, ne_eq, Int.reduceAdd, Int.reduceSub, Int.reduceMul, Int.reduceEq, Int.reduceLT, Int.reduceLE, Int.reduceToNat, Nat.reduceMul, Nat.reduceAdd, Nat.reduceSub, ←decide_not, k1]
  refine xLoop_n ns.length (fun j => [i64 (j : Int)]) (fun j w' => Ext [hx] q w' ∧ ∃ v ns', ns'.map bare = (ns.take j).map bare ∧ OwnGN w' v ns' ∧ Blk w' hx 25 [v, .slice none 0 0] ∧ (∀ z ∈ blk v, q.heap.size ≤ z) ∧ (∀ x ∈ ns', NOk w' x ∧ Apt (hx :: blk v) x ∧ NBl w' x ∧ ∀ b ∈ nbk x, q.heap.size ≤ b) ∧ ns'.Pairwise fun x y => Apt (nbk y) x) rfl ⟨Ext.refl _ _, .slice none 0 0, [], by simp, Own.nil, Bx0, fun z hz => absurd hz (nilb z), by simp, .nil⟩ ?_ ?_
  · rintro j hj u x2 hu ⟨F, v, ns', hns, O, B, U, A, Q⟩ nxt2 hnx
    simp only [List.map_cons, List.map_nil, List.cons.injEq, and_true] at hu
    rw [hu]
    obtain ⟨bn, on, ena, _, c1, c2⟩ := gn_at (h.nr.ext0 (fresh2 F)) hj
    have hst : ns.take (j + 1) = ns.take j ++ [ns[j]] := by rw [List.take_add_one, List.getElem?_eq_getElem hj]; rfl
    have hnl : ns'.length ≤ 9000 := by
      have h1 := congrArg List.length hns
      rw [List.length_map, List.length_map, List.length_take] at h1
      omega
    have hxk := h.ok _ (List.getElem_mem hj)
    have lx := hf.x _ (List.getElem_mem hj)
    obtain ⟨a0, c0, hv0, _⟩ := O.slice
    subst hv0
    generalize ns[j] = x at *
    have zb2 := B.lt
    have kb := fun i => B.cell (i := i)
    unfold graph_Twin_l1
    rw [ena]
    simp (disch := (first | omega | decide | (simp only [rsD] <;> omega) | fail)) only [↓rsC, rsK, rsL, ↓rsTwi1_1, tick_eq, tickV_eq, ne_eq, Int.reduceAdd, Int.reduceSub, Int.reduceMul, Int.reduceEq, Int.reduceLT, Int.reduceLE, Int.reduceToNat, Nat.reduceMul, Nat.reduceAdd, Nat.reduceSub, ←decide_not, k1, c1, c2, kb]
    have E9 : Ext [] x2 (x2.alloc (.cells #[.slice x.pa x.p.length x.pc, .slice x.da x.d.length x.dc] 53)).drew := (Ext.alloc _ _ _).trans (Ext.drew [] _)
    generalize (x2.alloc (.cells #[.slice x.pa x.p.length x.pc, .slice x.da x.d.length x.dc] 53)).drew = x3 at *
    have F3 := F.trans (E9.more (by simp))
    refine graph_Node_apart_call (Yld.mono (apartB_spec (hxk.ext0 (fresh2 F3)) lx (twin_to x3 x.p)) ?_)
    rintro u x4 ⟨F4, y', rfl, hyp, hyd, hyk, hfa, hfb, hnb⟩
    have F04 := F3.trans (F4.more (by simp))
    have E94 := E9.trans F4
    have B4 := B.ext E94 (by simp)
    have O4 := O.ext0 E94
    have zb4 := B4.lt
    have k4 := fun i => B4.cell (i := i)
    simp (disch := (first | omega | decide | (simp only [rsD] <;> omega) | fail)) only [↓rsC, rsK, rsL, ↓rsTwi1_1, tick_eq, tickV_eq, ne_eq, Int.reduceAdd, Int.reduceSub, Int.reduceMul, Int.reduceEq, Int.reduceLT, Int.reduceLE, Int.reduceToNat, Nat.reduceMul, Nat.reduceAdd, Nat.reduceSub, ←decide_not, k1, c1, c2, kb, k4]
    refine appGN O4 (x := y') rfl (by omega) fun v' x5 O5 T5 => ?_
    obtain ⟨F5, U5, n1, n2⟩ := grow F04 U hlt T5
    have B5 := B4.ext T5.ext n1
    obtain ⟨a3, c3, hv3, _⟩ := O5.slice
    have k5 := fun i => B5.cell (i := i)
    have f5 := fun i => B5.frozen (i := i)
    subst hv3
    simp (disch := (first | omega | decide | (simp only [rsD] <;> omega) | fail)) only [↓rsC, rsK, rsL, ↓rsTwi1_1, tick_eq, tickV_eq, ne_eq, Int.reduceAdd, Int.reduceSub, Int.reduceMul, Int.reduceEq, Int.reduceLT, Int.reduceLE, Int.reduceToNat, Nat.reduceMul, Nat.reduceAdd, Nat.reduceSub, ←decide_not, k1, c1, c2, kb, k4, k5, f5]
    have B6 := B5.set (i := 0) (v := .slice a3 (ns' ++ [y']).length c3)
    have O6 := O5.ext (Ext.set (w := x5) (b := hx) (o := 0) (v := .slice a3 (ns' ++ [y']).length c3)) (fun z hz hm => by simp only [List.mem_singleton] at hm; subst hm; exact n2 hz)
    refine hnx _ ⟨F5.set' (.inl (by simp)), _, ns' ++ [y'], ?_, O6, B6, U5, fun p hp => ?_, ?_⟩
    · rw [List.map_append, hns, hst, List.map_append]
      simp [bare, hyp, hyd]
    · have z3x : x2.heap.size ≤ x3.heap.size := E9.size
      have hA : NOk x4 p ∧ Apt (hx :: blk (.slice a0 ns'.length c0)) p ∧ NBl x4 p ∧ ∀ b ∈ nbk p, q.heap.size ≤ b := by
        rcases List.mem_append.1 hp with hp | hp
        · exact ⟨(A p hp).1.ext0 E94, (A p hp).2.1, (A p hp).2.2.1.ext E94 ⟨by simp, by simp⟩, (A p hp).2.2.2⟩
        · rw [List.mem_singleton] at hp
          subst hp
          have hz2 := O.lt
          have zq := F.size
          refine ⟨hyk, ⟨fun y hy _ hm => ?_, fun y hy _ hm => ?_⟩, hnb, fun b hb => ?_⟩
          · have := hfa y hy
            rcases List.mem_cons.1 hm with e | e
            · omega
            · have := hz2 _ e; omega
          · have := hfb y hy
            rcases List.mem_cons.1 hm with e | e
            · omega
            · have := hz2 _ e; omega
          · rcases mem_nbk.1 hb with ⟨y, e1, e2⟩ | ⟨y, e1, e2⟩
            · have := hfa y e1; omega
            · have := hfb y e1; omega
      have hA2 := hA.1.ext (T5.ext.more (fun z hz => List.mem_cons_of_mem hx hz)) hA.2.1
      have hB2 := hA.2.2.1.ext (T5.ext.more (fun z hz => List.mem_cons_of_mem hx hz)) ⟨hA.2.1.p, hA.2.1.d⟩
      have hA3 : Apt (hx :: blk (.slice a3 (ns' ++ [y']).length c3)) p := hA.2.1.more hA.1 fun b hb => by
        rcases List.mem_cons.1 hb with e | e
        · exact .inl (by rw [e]; exact List.mem_cons_self ..)
        · exact (T5.at' b e).imp (List.mem_cons_of_mem _) id
      exact ⟨hA2.ext (Ext.set.more (by simp)) hA3, hA3, hB2.ext (Ext.set.more (by simp)) ⟨hA3.p, hA3.d⟩, hA.2.2.2⟩
    · rw [List.pairwise_append]
      refine ⟨Q, List.pairwise_singleton _ _, fun p hp z hz => ?_⟩
      rw [List.mem_singleton] at hz
      subst hz
      have hl := (A p hp).1.lt
      have z3x : x2.heap.size ≤ x3.heap.size := E9.size
      have hfz : ∀ b ∈ nbk z, x3.heap.size ≤ b := fun b hb => by
        rcases mem_nbk.1 hb with ⟨y, e1, e2⟩ | ⟨y, e1, e2⟩
        · have := hfa y e1; omega
        · have := hfb y e1; omega
      exact ⟨fun y hy hn hm => by have := hl.1 y hy hn; have := hfz _ hm; omega, fun y hy hn hm => by have := hl.2 y hy hn; have := hfz _ hm; omega⟩
  rintro u x1 hu ⟨F, v, ns', hns, O, B, U, A, Q⟩ nxt2
  simp only [List.map_cons, List.map_nil, List.cons.injEq, and_true] at hu
  rw [hu]
  rw [List.take_length] at hns
  have kq1 := fun i => (B18.ext F nq1).cell (i := i)
  unfold graph_Twin_l1
  simp (disch := (first | omega | decide | (simp only [rsD] <;> omega) | fail)) only [↓rsC, rsK, rsL, ↓rsTwi1_1, tick_eq, tickV_eq, ne_eq, Int.reduceAdd, Int.reduceSub, Int.reduceMul, Int.reduceEq, Int.reduceLT, Int.reduceLE, Int.reduceToNat, Nat.reduceMul, Nat.reduceAdd, Nat.reduceSub, ←decide_not, k1, kq1]
  refine slices_Clone_graph_Root_graph_Root_call (Yld.mono (CloneR_spec rs ra rc x1 hfr (h.rr.ext0 (fresh2 F)) h.rl h.rn) ?_)
  rintro u x3 N3
  obtain ⟨ra', rc', rfl, hrc, _, hrn, Rr, _⟩ := N3.2.1.slice
  have Ur : ∀ z, ra' = some z → x1.heap.size ≤ z.block := fun z hz => N3.2.2 _ (by rw [hz]; simp [blk, Value.ownBlock])
  refine slices_Clip_graph_Root_graph_Root_call (Gives.to (ClipGR_spec hrc) fun x4 E4 => ?_)
  have E14 := N3.1.trans E4
  obtain ⟨na', nc', hvn, hnc, _, hnn, Rn, _⟩ := O.slice
  subst hvn
  have B4 := B.ext E14 (by simp)
  have k4 := fun i => B4.cell (i := i)
  have f4 := fun i => B4.frozen (i := i)
  simp (disch := (first | omega | decide | (simp only [rsD] <;> omega) | fail)) only [↓rsC, rsK, rsL, ↓rsTwi1_1, tick_eq, tickV_eq, ne_eq, Int.reduceAdd, Int.reduceSub, Int.reduceMul, Int.reduceEq, Int.reduceLT, Int.reduceLE, Int.reduceToNat, Nat.reduceMul, Nat.reduceAdd, Nat.reduceSub, ←decide_not, k1, kq1, k4, f4]
  have E5 : Ext [hx] x4 (x4.setCell ⟨hx, 1, none⟩ (.slice ra' rs.length rs.length)) := Ext.set
  have B5 := B4.set (i := 1) (v := .slice ra' rs.length rs.length)
  generalize x4.setCell ⟨hx, 1, none⟩ (.slice ra' rs.length rs.length) = x5 at *
  refine slices_Clip_graph_Node_graph_Node_call (Gives.to (ClipGN_spec hnc) fun x6 E6 => ?_)
  have B6 := B5.ext E6 (by simp)
  have F16 : Ext [hx] x1 x6 := ((E14.more (by simp)).trans E5).trans (E6.more (by simp))
  have k6 := fun i => B6.cell (i := i)
  have f6 := fun i => B6.frozen (i := i)
  have B26 := (B28.ext F nq4).ext F16 nq4
  have k26 := fun i => B26.cell (i := i)
  have f26 := fun i => B26.frozen (i := i)
  have ne0x : g2 ≠ hx := by omega
  simp (disch := (first | omega | decide | (simp only [rsD] <;> omega) | fail)) only [↓rsC, rsK, rsL, ↓rsTwi1_1, tick_eq, tickV_eq, ne_eq, Int.reduceAdd, Int.reduceSub, Int.reduceMul, Int.reduceEq, Int.reduceLT, Int.reduceLE, Int.reduceToNat, Nat.reduceMul, Nat.reduceAdd, Nat.reduceSub, ←decide_not, k1, kq1, k4, f4, k6, f6, k26, f26, ne0x]
  have FE : Ext [g2, hx] x6 (((x6.setCell ⟨hx, 0, none⟩ (.slice na' ns'.length ns'.length)).setCell ⟨g2, 0, none⟩ (.slice na' ns'.length ns'.length)).setCell ⟨g2, 1, none⟩ (.slice ra' rs.length rs.length)) := (((Ext.refl _ _).set' (.inl (by simp))).set' (.inl (by simp))).set' (.inl (by simp))
  have Fw := fresh2 (F.trans F16)
  have zX : w.heap.size ≤ hx := by omega
  have zw2 : w.heap.size ≤ g2 := by omega
  have zq1 := F.size
  refine ⟨((Fw.set' (.inr zX)).set' (.inr zw2)).set' (.inr zw2), na', ns'.length, ra', rs.length, ns', hns, rfl, ?_, fun p hp => ?_, Q⟩
  · have nna : ∀ b o, na' = some ⟨b, o, none⟩ → b ∉ [g2, hx] := fun b o hb hm => by
      have := U b (by rw [hb]; simp [blk, Value.ownBlock])
      simp only [List.mem_cons, List.not_mem_nil, or_false] at hm
      omega
    have nra : ∀ b o, ra' = some ⟨b, o, none⟩ → b ∉ [g2, hx] := fun b o hb hm => by
      have := Ur _ hb
      simp only [List.mem_cons, List.not_mem_nil, or_false] at hm
      simp only at this
      omega
    refine ⟨(Rn.ext F16 (fun b o hb hm => nna b o hb (by simp only [List.mem_singleton] at hm; simp [hm]))).ext FE nna, Nat.le_refl _, fun e => by have := hnn e; omega, (((Rr.ext0 E4).ext E5 (fun b o hb hm => nra b o hb (by simp only [List.mem_singleton] at hm; simp [hm]))).ext0 E6).ext FE nra, Nat.le_refl _, fun e => by have := hrn e; omega, fun p hp => ?_⟩
    have hA := A p hp
    have hk := hA.1.ext F16 (hA.2.1.sub2 (by simp))
    have hA2 := hA.2.1.cons hk B26 (by simp)
    exact hk.ext (FE.more (by simp)) hA2
  · have hA := A p hp
    have hk := hA.1.ext F16 (hA.2.1.sub2 (by simp))
    have hA2 := hA.2.1.cons hk B26 (by simp)
    have hA3 := hA.2.1.sub2 (M' := [hx]) (by simp)
    refine ⟨hk.ext (FE.more (by simp)) hA2, (hA.2.2.1.ext F16 ⟨hA3.p, hA3.d⟩).ext (FE.more (by simp)) ⟨hA2.p, hA2.d⟩, fun b hb => by have := hA.2.2.2 b hb; have := F8.size; omega, hA.2.1.sub2 fun b hb => ?_⟩
    refine List.mem_cons_of_mem _ ?_
    cases na' with
    | none => simp at hb
    | some y => simpa [blk, Value.ownBlock] using hb
end Go.Proofs.Ythhcmoknppljpaa
end
section
set_option linter.unusedVariables false
set_option linter.unusedSimpArgs false
set_option maxHeartbeats 4000000
namespace Go.Proofs.Ythhcmoknppljpaa
open Go.Sh Go.RowKit

theorem addN_mem {n : Nat} {out : List Int} {p q : Int} : q ∈ addN n out p ↔ q ∈ out ∨ (q = p ∧ okNo n p) := by
  unfold addN
  split
  · rename_i h
    rw [List.mem_append, List.mem_singleton]
    constructor
    · rintro (h1 | h1)
      · exact .inl h1
      · exact .inr ⟨h1, h.1⟩
    · rintro (h1 | h1)
      · exact .inl h1
      · exact .inr h1.1
  · rename_i h
    constructor
    · exact .inl
    · rintro (h1 | ⟨rfl, h1⟩)
      · exact h1
      · exact Classical.byContradiction fun h2 => h ⟨h1, h2⟩
theorem addL_mem {n : Nat} : ∀ (ps : List Int) {out : List Int} {q : Int}, q ∈ addL n out ps ↔ q ∈ out ∨ (q ∈ ps ∧ okNo n q)
  | [], out, q => by simp [addL]
  | p :: ps, out, q => by
    have e : addL n out (p :: ps) = addL n (addN n out p) ps := rfl
    rw [e, addL_mem ps, addN_mem, List.mem_cons]
    constructor
    · rintro ((h | ⟨rfl, h⟩) | h)
      · exact .inl h
      · exact .inr ⟨.inl rfl, h⟩
      · exact .inr ⟨.inr h.1, h.2⟩
    · rintro (h | ⟨rfl | h, h2⟩)
      · exact .inl (.inl h)
      · exact .inl (.inr ⟨rfl, h2⟩)
      · exact .inr ⟨h, h2⟩
theorem addN_pre {n : Nat} {out : List Int} {p : Int} {k : Nat} (h : k < out.length) : (addN n out p)[k]? = out[k]? := by
  unfold addN
  split
  · rw [List.getElem?_append_left h]
  · rfl
theorem addN_len' {n : Nat} {out : List Int} {p : Int} : out.length ≤ (addN n out p).length := by
  unfold addN
  split
  · simp
  · exact Nat.le_refl _
theorem addL_pre {n : Nat} : ∀ (ps : List Int) {out : List Int} {k : Nat}, k < out.length → (addL n out ps)[k]? = out[k]?
  | [], _, _, _ => rfl
  | p :: ps, out, k, h => by
    have e : addL n out (p :: ps) = addL n (addN n out p) ps := rfl
    have := addN_len' (n := n) (out := out) (p := p)
    rw [e, addL_pre ps (by omega), addN_pre h]
theorem bfs_mem {ns : List GN} {fr : List Int} : ∀ (f i : Nat) (out : List Int), OutOk ns.length out → ns.length < i + f → (∀ q ∈ out, Rch ns fr q) → (∀ p ∈ fr, okNo ns.length p → p ∈ out) →
    (∀ k q, k < i → out[k]? = some q → ∀ p ∈ ptrsOf ns q, okNo ns.length p → p ∈ out) → ∀ q, q ∈ bfs ns f i out ↔ Rch ns fr q := by
  have fin : ∀ (i : Nat) (out : List Int), out.length ≤ i → (∀ q ∈ out, Rch ns fr q) → (∀ p ∈ fr, okNo ns.length p → p ∈ out) →
      (∀ k q, k < i → out[k]? = some q → ∀ p ∈ ptrsOf ns q, okNo ns.length p → p ∈ out) → ∀ q, q ∈ out ↔ Rch ns fr q := by
    intro i out hi h1 h2 h3 q
    refine ⟨h1 q, fun h => ?_⟩
    induction h with
    | base a b => exact h2 _ a b
    | @step j p hj a b c ih =>
      obtain ⟨k, hk, e⟩ := List.getElem_of_mem ih
      refine h3 k _ (by omega) (by rw [List.getElem?_eq_getElem hk, e]) p ?_ c
      unfold ptrsOf
      rw [show ((j : Int) + 1).toNat - 1 = j by omega, List.getElem?_eq_getElem hj]
      exact b
  intro f
  induction f with
  | zero =>
    intro i out ho hf h1 h2 h3
    have := ho.len
    exact fin i out (by omega) h1 h2 h3
  | succ f ih =>
    intro i out ho hf h1 h2 h3
    by_cases hi : i < out.length
    · rw [bfs_step hi]
      refine ih (i + 1) _ (OutOk.addL _ ho) (by omega) (fun q hq => ?_) (fun p hp hpo => addL_sub _ (h2 p hp hpo)) fun k q hk hq p hp hpo => ?_
      · rcases (addL_mem _).1 hq with h | ⟨h, h4⟩
        · exact h1 q h
        · have hq1 := ho.ok _ (List.getElem_mem hi)
          have hj : out[i].toNat - 1 < ns.length := by omega
          unfold ptrsOf at h
          rw [List.getElem?_eq_getElem hj] at h
          refine .step hj ?_ h h4
          have e : ((out[i].toNat - 1 : Nat) : Int) + 1 = out[i] := by omega
          rw [e]
          exact h1 _ (List.getElem_mem hi)
      · by_cases hki : k < i
        · rw [addL_pre _ (by omega)] at hq
          exact addL_sub _ (h3 k q hki hq p hp hpo)
        · have e : k = i := by omega
          subst e
          rw [addL_pre _ hi, List.getElem?_eq_getElem hi] at hq
          have e2 := Option.some.inj hq
          subst e2
          exact (addL_mem _).2 (.inr ⟨hp, hpo⟩)
    · rw [bfs_end (by omega)]
      exact fin i out (by omega) h1 h2 h3
theorem ord_mem (ns : List GN) (fr : List Int) (q : Int) : q ∈ ordV ns fr ↔ Rch ns fr q := by
  unfold ordV
  refine bfs_mem _ _ _ (OutOk.addL _ OutOk.nil) (by omega) (fun q hq => ?_) (fun p hp hpo => (addL_mem _).2 (.inr ⟨hp, hpo⟩)) (fun k q hk => by omega) q
  rcases (addL_mem _).1 hq with h | ⟨h, h2⟩
  · cases h
  · exact .base h h2
/-! picked in their own order -/
end Go.Proofs.Ythhcmoknppljpaa
end
section
set_option linter.unusedVariables false
set_option linter.unusedSimpArgs false
set_option maxHeartbeats 4000000
namespace Go.Proofs.Ythhcmoknppljpaa
open Go.Sh Go.RowKit

theorem strOf_inj {p q : List (BitVec 8)} : strOf p = strOf q ↔ p = q := by
  constructor
  · intro h
    have h2 : (strOf p).toList = (strOf q).toList := by rw [h]
    rw [strOf_list, strOf_list] at h2
    have := congrArg (List.map UInt8.toBitVec) h2
    rw [List.map_map, List.map_map] at this
    have e : (UInt8.toBitVec ∘ UInt8.ofBitVec) = id := rfl
    rw [e, List.map_id, List.map_id] at this
    exact this
  · intro h; rw [h]
abbrev rsEqg1_0 := (And.intro @xu8_add (And.intro @xu8_neq (And.intro @xu8_lss (And.intro @xu16_add (And.intro @xu16_neq (And.intro @xu16_lss (And.intro @xu32_add (And.intro @xu32_neq (And.intro @xu32_lss (And.intro @xu64_add (And.intro @xu64_neq (And.intro @xu64_lss (And.intro @xi64_lss (And.intro @xi64_neq (And.intro @xi64_neg (And.intro @ld_3 
  (And.intro @ia_26 @ln_26)))))))))))))))))
theorem EqualI_spec {w : World} {p q : List Int} {a a' : Option Addr} {c c' : Nat} (h : RowAt w a (its p)) (h' : RowAt w a' (its q)) (hp : p.length ≤ 1000000) (hq : q.length ≤ 1000000) : Gives Try.prog n_slices_Equal_int_int #[.slice a p.length c, .slice a' q.length c'] w (.bool (decide (p = q))) := by
  refine slices_Equal_int_int_of ?_
  unfold slices_Equal_int_int
  by_cases hne : p.length = q.length
  case neg =>
    have : ¬ ((p.length : Int) = q.length) := by omega
    simp (disch := (first | omega | decide | (simp only [rsD] <;> omega) | fail)) only [↓rsC, rsK, rsL, ↓rsEqg1_0, tick_eq, tickV_eq, ne_eq, Int.reduceAdd, Int.reduceSub, Int.reduceMul, Int.reduceEq, Int.reduceLT, Int.reduceLE, Int.reduceToNat, Nat.reduceMul, Nat.reduceAdd, Nat.reduceSub, ←decide_not, eq_self]
    exact ⟨by rw [decide_eq_false (fun e => hne (by rw [e]))], Ext.refl _ _⟩
  have : ((p.length : Int) = q.length) := by omega
  simp (disch := (first | omega | decide | (simp only [rsD] <;> omega) | fail)) only [↓rsC, rsK, rsL, ↓rsEqg1_0, tick_eq, tickV_eq, ne_eq, Int.reduceAdd, Int.reduceSub, Int.reduceMul, Int.reduceEq, Int.reduceLT, Int.reduceLE, Int.reduceToNat, Nat.reduceMul, Nat.reduceAdd, Nat.reduceSub, ←decide_not, eq_self]
  refine xLoop_n p.length (fun j => [i64 (j : Int)]) (fun j w' => Ext [] w w' ∧ ∀ i (hi : i < p.length) (hi' : i < q.length), i < j → p[i] = q[i]) rfl ⟨Ext.refl _ _, by intro i _ _ hi; omega⟩ ?_ ?_
  · rintro j hj u w1 hu ⟨F, hq2⟩ nxt hn
    simp only [List.map_cons, List.map_nil, List.cons.injEq, and_true] at hu
    rw [hu]
    unfold slices_Equal_int_int_l1
    have F1 := F.trans (Ext.drew [] w1)
    have hj' : j < q.length := by omega
    obtain ⟨b, o, rfl, hlt, hc⟩ := its_at (h.ext0 F1) hj
    obtain ⟨b', o', rfl, hlt', hc'⟩ := its_at (h'.ext0 F1) hj'
    by_cases e : p[j] = q[j]
    · have hnx : Ext [] w w1.drew ∧ ∀ i (hi : i < p.length) (hi' : i < q.length), i < j + 1 → p[i] = q[i] := ⟨F1, fun i hi hi' h3 => by
        by_cases ei : i = j
        · subst ei; exact e
        · exact hq2 i hi hi' (by omega)⟩
      rw [e] at hc
      generalize q[j] = z at *
      simp (disch := (first | omega | decide | (simp only [rsD] <;> omega) | fail)) only [↓rsC, rsK, rsL, ↓rsEqg1_0, tick_eq, tickV_eq, ne_eq, Int.reduceAdd, Int.reduceSub, Int.reduceMul, Int.reduceEq, Int.reduceLT, Int.reduceLE, Int.reduceToNat, Nat.reduceMul, Nat.reduceAdd, Nat.reduceSub, ←decide_not, hc, hc']
      exact hn _ hnx
    · have hno : ¬ p = q := fun e2 => e (by subst e2; rfl)
      generalize q[j] = z at *
      generalize p[j] = y at *
      simp (disch := (first | omega | decide | (simp only [rsD] <;> omega) | fail)) only [↓rsC, rsK, rsL, ↓rsEqg1_0, tick_eq, tickV_eq, ne_eq, Int.reduceAdd, Int.reduceSub, Int.reduceMul, Int.reduceEq, Int.reduceLT, Int.reduceLE, Int.reduceToNat, Nat.reduceMul, Nat.reduceAdd, Nat.reduceSub, ←decide_not, hc, hc', e]
      exact ⟨by rw [decide_eq_false hno], F1⟩
  · rintro u w1 hu ⟨F, hq2⟩ nxt
    simp only [List.map_cons, List.map_nil, List.cons.injEq, and_true] at hu
    rw [hu]
    unfold slices_Equal_int_int_l1
    simp (disch := (first | omega | decide | (simp only [rsD] <;> omega) | fail)) only [↓rsC, rsK, rsL, ↓rsEqg1_0, tick_eq, tickV_eq, ne_eq, Int.reduceAdd, Int.reduceSub, Int.reduceMul, Int.reduceEq, Int.reduceLT, Int.reduceLE, Int.reduceToNat, Nat.reduceMul, Nat.reduceAdd, Nat.reduceSub, ←decide_not, eq_self]
    refine ⟨?_, F⟩
    rw [decide_eq_true]
    exact List.ext_getElem hne fun i h1 h2 => hq2 i h1 h2 h1
abbrev rsEqg1_1 := (And.intro @xu8_eql (And.intro @xu16_eql (And.intro @xu32_eql (And.intro @xu64_eql @xi64_eql))))
theorem EqualB_spec {w : World} {p q : List (BitVec 8)} {a a' : Option Addr} {c c' : Nat} (h : RowAt w a (bys p)) (h' : RowAt w a' (bys q)) (hp : p.length ≤ 1000000) (hq : q.length ≤ 1000000) : Gives Try.prog n_bytes_Equal #[.slice a p.length c, .slice a' q.length c'] w (.bool (decide (p = q))) := by
  refine bytes_Equal_of ?_
  unfold bytes_Equal
  have hcv := fun (K : K1) => xConv_str (P := Try.prog) (w := w) (s := 51) (d := 9) (e := 5) (a := a) (n := p.length) (c := c) (l := p) (K := K) (by kernel_rfl) (by kernel_rfl) (by kernel_rfl) rfl h
  have hcv' := fun (K : K1) => xConv_str (P := Try.prog) (w := w) (s := 51) (d := 9) (e := 5) (a := a') (n := q.length) (c := c') (l := q) (K := K) (by kernel_rfl) (by kernel_rfl) (by kernel_rfl) rfl h'
  simp (disch := (first | omega | decide | (simp only [rsD] <;> omega) | fail)) only [↓rsC, rsK, rsL, ↓rsEqg1_1, tick_eq, tickV_eq, ne_eq, Int.reduceAdd, Int.reduceSub, Int.reduceMul, Int.reduceEq, Int.reduceLT, Int.reduceLE, Int.reduceToNat, Nat.reduceMul, Nat.reduceAdd, Nat.reduceSub, ←decide_not, hcv, hcv']
  exact ⟨by rw [decide_eq_decide.2 strOf_inj], Ext.refl _ _⟩
abbrev rsEqg1_2 := (And.intro @ld_26 (And.intro @ld_51 (And.intro @fa_53_0 @fa_53_1)))
theorem eqN_spec {w : World} {x y : GN} (hx : NOk w x) (hy : NOk w y) (lx : x.p.length ≤ 1000000 ∧ x.d.length ≤ 1000000) (ly : y.p.length ≤ 1000000 ∧ y.d.length ≤ 1000000) : Gives Try.prog n_graph_Equal_1 #[.agg (gnC x).toArray, .agg (gnC y).toArray] w (.bool (decide (x.p = y.p ∧ x.d = y.d))) := by
  refine graph_Equal_1_of ?_
  unfold graph_Equal_1
  have bx : ∀ (z : GN) (y : World) (K : K1), xBox Try.prog 53 (.agg (gnC z).toArray) y K = K (ptr y.heap.size) (y.alloc (.cells (gnC z).toArray 53)) := fun z y K => xBox_r
  rw [bx, bx]
  have B1 : Blk (w.alloc (.cells (gnC x).toArray 53)) w.heap.size 53 (gnC x) := Blk.at rfl
  have X1 : Ext [] w (w.alloc (.cells (gnC x).toArray 53)) := Ext.alloc _ _ _
  generalize w.alloc (.cells (gnC x).toArray 53) = y1 at *
  generalize w.heap.size = g1 at *
  have B2 : Blk (y1.alloc (.cells (gnC y).toArray 53)) y1.heap.size 53 (gnC y) := Blk.at rfl
  have X2 : Ext [] y1 (y1.alloc (.cells (gnC y).toArray 53)) := Ext.alloc _ _ _
  generalize y1.alloc (.cells (gnC y).toArray 53) = y2 at *
  generalize y1.heap.size = g2 at *
  have B12 := B1.ext X2 (by simp)
  have X12 := X1.trans X2
  have k1 := fun i => B12.cell (i := i)
  have k2 := fun i => B2.cell (i := i)
  have hx2 := hx.ext0 X12
  have hy2 := hy.ext0 X12
  simp (disch := (first | omega | decide | (simp only [rsD] <;> omega) | fail)) only [↓rsC, rsK, rsL, ↓rsEqg1_2, tick_eq, tickV_eq, ne_eq, Int.reduceAdd, Int.reduceSub, Int.reduceMul, Int.reduceEq, Int.reduceLT, Int.reduceLE, Int.reduceToNat, Nat.reduceMul, Nat.reduceAdd, Nat.reduceSub, ←decide_not, k1, k2]
  refine slices_Equal_int_int_call (Gives.to (EqualI_spec hx2.pr hy2.pr lx.1 ly.1) fun y3 F3 => ?_)
  have k3 := fun i => (B12.ext F3 (by simp)).cell (i := i)
  have k4 := fun i => (B2.ext F3 (by simp)).cell (i := i)
  by_cases hp : x.p = y.p
  · rw [decide_eq_true hp]
    simp (disch := (first | omega | decide | (simp only [rsD] <;> omega) | fail)) only [↓rsC, rsK, rsL, ↓rsEqg1_2, tick_eq, tickV_eq, ne_eq, Int.reduceAdd, Int.reduceSub, Int.reduceMul, Int.reduceEq, Int.reduceLT, Int.reduceLE, Int.reduceToNat, Nat.reduceMul, Nat.reduceAdd, Nat.reduceSub, ←decide_not, k1, k2, k3, k4]
    refine bytes_Equal_call (Gives.to (EqualB_spec (hx2.dr.ext0 F3) (hy2.dr.ext0 F3) lx.2 ly.2) fun y4 F4 => ?_)
    simp (disch := (first | omega | decide | (simp only [rsD] <;> omega) | fail)) only [↓rsC, rsK, rsL, ↓rsEqg1_2, tick_eq, tickV_eq, ne_eq, Int.reduceAdd, Int.reduceSub, Int.reduceMul, Int.reduceEq, Int.reduceLT, Int.reduceLE, Int.reduceToNat, Nat.reduceMul, Nat.reduceAdd, Nat.reduceSub, ←decide_not, k1, k2, k3, k4]
    have e : decide (x.d = y.d) = decide (x.p = y.p ∧ x.d = y.d) := decide_eq_decide.2 ⟨fun h => ⟨hp, h⟩, fun h => h.2⟩
    rw [e]
    exact ⟨rfl, X12.trans (F3.trans F4)⟩
  · rw [decide_eq_false hp]
    simp (disch := (first | omega | decide | (simp only [rsD] <;> omega) | fail)) only [↓rsC, rsK, rsL, ↓rsEqg1_2, tick_eq, tickV_eq, ne_eq, Int.reduceAdd, Int.reduceSub, Int.reduceMul, Int.reduceEq, Int.reduceLT, Int.reduceLE, Int.reduceToNat, Nat.reduceMul, Nat.reduceAdd, Nat.reduceSub, ←decide_not, k1, k2]
    exact ⟨by rw [decide_eq_false (fun h => hp h.1)], X12.trans F3⟩
abbrev SameN (ns ns' : List GN) : Prop := ns.map bare = ns'.map bare
abbrev SameG (ns : List GN) (rs : List GR) (ns' : List GN) (rs' : List GR) : Prop := SameN ns ns' ∧ rs = rs'
theorem bare_eq {x y : GN} : bare x = bare y ↔ x.p = y.p ∧ x.d = y.d := by
  constructor
  · intro h
    show (bare x).p = (bare y).p ∧ (bare x).d = (bare y).d
    rw [h]
    exact ⟨rfl, rfl⟩
  · rintro ⟨h1, h2⟩
    unfold bare
    rw [h1, h2]
theorem sameN_at {ns ns' : List GN} (hl : ns.length = ns'.length) : SameN ns ns' ↔ ∀ i (h : i < ns.length) (h' : i < ns'.length), ns[i].p = ns'[i].p ∧ ns[i].d = ns'[i].d := by
  constructor
  · intro h i h1 h2
    have : (ns.map bare)[i]? = (ns'.map bare)[i]? := by rw [h]
    rw [List.getElem?_map, List.getElem?_map, List.getElem?_eq_getElem h1, List.getElem?_eq_getElem h2] at this
    exact bare_eq.1 (Option.some.inj this)
  · intro h
    refine List.ext_getElem (by simpa using hl) fun i h1 h2 => ?_
    rw [List.getElem_map, List.getElem_map]
    exact bare_eq.2 (h i (by simpa using h1) (by simpa using h2))
abbrev BoolR (p : Prop) (w w' : World) (u : Value) : Prop := (∃ b : Bool, u = .bool b ∧ (b = true ↔ p)) ∧ Ext [] w w'
abbrev rsEqg1_3 := (And.intro @xu8_add (And.intro @xu8_com (And.intro @xu8_neq (And.intro @xu8_lss (And.intro @xu16_add (And.intro @xu16_com (And.intro @xu16_neq (And.intro @xu16_lss (And.intro @xu32_add (And.intro @xu32_com (And.intro @xu32_neq (And.intro @xu32_lss (And.intro @xu64_add (And.intro @xu64_com (And.intro @xu64_neq (And.intro @xu64_lss 
  (And.intro @xi64_lss (And.intro @xi64_neq (And.intro @xi64_neg (And.intro @ld_53 (And.intro @al_53 (And.intro @st_53 (And.intro @ia_22 @ln_22)))))))))))))))))))))))
theorem eqNs_spec {w : World} {ns ns' : List GN} {na na' : Option Addr} {nc nc' : Nat} (h : RowAt w na (ns.flatMap gnC)) (h' : RowAt w na' (ns'.flatMap gnC)) (hk : ∀ x ∈ ns, NOk w x) (hk' : ∀ x ∈ ns', NOk w x)
    (hf : ns.length ≤ 100000 ∧ ∀ x ∈ ns, x.p.length ≤ 1000000 ∧ x.d.length ≤ 1000000) (hf' : ns'.length ≤ 100000 ∧ ∀ x ∈ ns', x.p.length ≤ 1000000 ∧ x.d.length ≤ 1000000) :
    Yld Try.prog n_slices_EqualFunc_graph_Node_graph_Node_graph_Node_graph_Node #[.slice na ns.length nc, .slice na' ns'.length nc', .func (.func n_graph_Equal_1) #[] #[]] w fun u w' => BoolR (SameN ns ns') w w' u := by
  refine slices_EqualFunc_graph_Node_graph_Node_graph_Node_graph_Node_of ?_
  unfold slices_EqualFunc_graph_Node_graph_Node_graph_Node_graph_Node
  by_cases hne : ns.length = ns'.length
  case neg =>
    have : ¬ ((ns.length : Int) = ns'.length) := by omega
    simp (disch := (first | omega | decide | (simp only [rsD] <;> omega) | fail)) only [↓rsC, rsK, rsL, ↓rsEqg1_3, tick_eq, tickV_eq, ne_eq, Int.reduceAdd, Int.reduceSub, Int.reduceMul, Int.reduceEq, Int.reduceLT, Int.reduceLE, Int.reduceToNat, Nat.reduceMul, Nat.reduceAdd, Nat.reduceSub, ←decide_not, eq_self]
    exact ⟨⟨false, rfl, by simp; intro h; exact hne (by simpa using congrArg List.length h)⟩, Ext.refl _ _⟩
  have : ((ns.length : Int) = ns'.length) := by omega
  simp (disch := (first | omega | decide | (simp only [rsD] <;> omega) | fail)) only [↓rsC, rsK, rsL, ↓rsEqg1_3, tick_eq, tickV_eq, ne_eq, Int.reduceAdd, Int.reduceSub, Int.reduceMul, Int.reduceEq, Int.reduceLT, Int.reduceLE, Int.reduceToNat, Nat.reduceMul, Nat.reduceAdd, Nat.reduceSub, ←decide_not, eq_self]
  refine xLoop_n ns.length (fun j => [i64 (j : Int)]) (fun j w' => Ext [] w w' ∧ ∀ i (hi : i < ns.length) (hi' : i < ns'.length), i < j → ns[i].p = ns'[i].p ∧ ns[i].d = ns'[i].d) rfl ⟨Ext.refl _ _, by intro i _ _ hi; omega⟩ ?_ ?_
  · rintro j hj u w1 hu ⟨F, hq2⟩ nxt hn
    simp only [List.map_cons, List.map_nil, List.cons.injEq, and_true] at hu
    rw [hu]
    have hj' : j < ns'.length := by omega
    obtain ⟨b, o, rfl, hlt, c1, c2⟩ := gn_at (h.ext0 F) hj
    have m1 := List.getElem_mem hj
    have m2 := List.getElem_mem hj'
    have x1 := (hk _ m1).ext0 F
    have x2 := (hk' _ m2).ext0 F
    have l1 := hf.2 _ m1
    have l2 := hf'.2 _ m2
    unfold slices_EqualFunc_graph_Node_graph_Node_graph_Node_graph_Node_l1
    simp (disch := (first | omega | decide | (simp only [rsD] <;> omega) | fail)) only [↓rsC, rsK, rsL, ↓rsEqg1_3, tick_eq, tickV_eq, ne_eq, Int.reduceAdd, Int.reduceSub, Int.reduceMul, Int.reduceEq, Int.reduceLT, Int.reduceLE, Int.reduceToNat, Nat.reduceMul, Nat.reduceAdd, Nat.reduceSub, ←decide_not, c1, c2]
    have B1 : Blk (w1.alloc (.cells (gnC ns[j]).toArray 53)) w1.heap.size 53 (gnC ns[j]) := Blk.at rfl
    have X1 : Ext [] w1 (w1.alloc (.cells (gnC ns[j]).toArray 53)) := Ext.alloc _ _ _
    obtain ⟨bb, oo, rfl, hlt2, c3, c4⟩ := gn_at (h'.ext0 (F.trans X1)) hj'
    have x1 := x1.ext0 X1
    have x2 := x2.ext0 X1
    have F1 := F.trans X1
    generalize w1.alloc (.cells (gnC ns[j]).toArray 53) = y1 at *
    generalize w1.heap.size = g1 at *
    simp (disch := (first | omega | decide | (simp only [rsD] <;> omega) | fail)) only [↓rsC, rsK, rsL, ↓rsEqg1_3, tick_eq, tickV_eq, ne_eq, Int.reduceAdd, Int.reduceSub, Int.reduceMul, Int.reduceEq, Int.reduceLT, Int.reduceLE, Int.reduceToNat, Nat.reduceMul, Nat.reduceAdd, Nat.reduceSub, ←decide_not, c1, c2, c3, c4]
    have B2 : Blk (y1.alloc (.cells (gnC ns'[j]).toArray 53)) y1.heap.size 53 (gnC ns'[j]) := Blk.at rfl
    have X2 : Ext [] y1 (y1.alloc (.cells (gnC ns'[j]).toArray 53)) := Ext.alloc _ _ _
    have x1 := x1.ext0 X2
    have x2 := x2.ext0 X2
    have F2 := F1.trans X2
    have B12 := B1.ext X2 (by simp)
    generalize y1.alloc (.cells (gnC ns'[j]).toArray 53) = y2 at *
    generalize y1.heap.size = g2 at *
    have k1 := fun i => B12.cell (i := i)
    have k2 := fun i => B2.cell (i := i)
    simp (disch := (first | omega | decide | (simp only [rsD] <;> omega) | fail)) only [↓rsC, rsK, rsL, ↓rsEqg1_3, tick_eq, tickV_eq, ne_eq, Int.reduceAdd, Int.reduceSub, Int.reduceMul, Int.reduceEq, Int.reduceLT, Int.reduceLE, Int.reduceToNat, Nat.reduceMul, Nat.reduceAdd, Nat.reduceSub, ←decide_not, c1, c2, c3, c4, k1, k2]
    refine graph_Equal_1_call (Gives.to (eqN_spec x1 x2 l1 l2) fun y3 F3 => ?_)
    by_cases he : ns[j].p = ns'[j].p ∧ ns[j].d = ns'[j].d
    · rw [decide_eq_true he]
      simp (disch := (first | omega | decide | (simp only [rsD] <;> omega) | fail)) only [↓rsC, rsK, rsL, ↓rsEqg1_3, tick_eq, tickV_eq, ne_eq, Int.reduceAdd, Int.reduceSub, Int.reduceMul, Int.reduceEq, Int.reduceLT, Int.reduceLE, Int.reduceToNat, Nat.reduceMul, Nat.reduceAdd, Nat.reduceSub, ←decide_not, c1, c2, c3, c4, k1, k2]
      refine hn _ ⟨F2.trans F3, fun i hi hi' h3 => ?_⟩
      by_cases ei : i = j
      · subst ei; exact he
      · exact hq2 i hi hi' (by omega)
    · rw [decide_eq_false he]
      simp (disch := (first | omega | decide | (simp only [rsD] <;> omega) | fail)) only [↓rsC, rsK, rsL, ↓rsEqg1_3, tick_eq, tickV_eq, ne_eq, Int.reduceAdd, Int.reduceSub, Int.reduceMul, Int.reduceEq, Int.reduceLT, Int.reduceLE, Int.reduceToNat, Nat.reduceMul, Nat.reduceAdd, Nat.reduceSub, ←decide_not, c1, c2, c3, c4, k1, k2]
      exact ⟨⟨false, rfl, by simp only [Bool.false_eq_true, false_iff]; exact fun h => he ((sameN_at hne).1 h j hj hj')⟩, F2.trans F3⟩
  · rintro u w1 hu ⟨F, hq2⟩ nxt
    simp only [List.map_cons, List.map_nil, List.cons.injEq, and_true] at hu
    rw [hu]
    unfold slices_EqualFunc_graph_Node_graph_Node_graph_Node_graph_Node_l1
    simp (disch := (first | omega | decide | (simp only [rsD] <;> omega) | fail)) only [↓rsC, rsK, rsL, ↓rsEqg1_3, tick_eq, tickV_eq, ne_eq, Int.reduceAdd, Int.reduceSub, Int.reduceMul, Int.reduceEq, Int.reduceLT, Int.reduceLE, Int.reduceToNat, Nat.reduceMul, Nat.reduceAdd, Nat.reduceSub, ←decide_not, eq_self]
    exact ⟨⟨true, rfl, by simp only [true_iff]; exact (sameN_at hne).2 fun i h1 h2 => hq2 i h1 h2 h1⟩, F⟩
end Go.Proofs.Ythhcmoknppljpaa
end
