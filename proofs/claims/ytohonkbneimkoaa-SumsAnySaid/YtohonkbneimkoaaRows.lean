/-
  No cell of these rows narrows 'for every input' (looked for: loops, veiled, ifaces, maps, wideKeys, modest, calm, conditions, laid).
  DERIVED. THE GIVEN ROWS OF THIS SEAT. 12 by the template 'for every input the law returns true; each argument reads behind the call as it read before'; 0 by the template 'total and deterministic' (their statements: YtohonkbneimkoaaTotals.lean).
  GIVEN WITH THE SEED: the statements are not yours to turn. If you find one false, say at which input.
  Laid BY PROGRAM, IN A SANDBOX (cutbox-rows.mjs): the forced cells as the released guide's own fill.sh prints them over the translation bf7c63707098706e… (all of the seat's roots in one cut). By AI agents, Wed Nov 11 2026. No macro, syntax, notation, axiom, sorry.
-/
import Derived.Test.YtohonkbneimkoaaChecked
import GoSem.Claim
import GoSem.ClaimJoined
import GoSem.ClaimMapViews
import Derived.JoinedTies
import Derived.KernelRfl
namespace Go.Proofs.Ytohonkbneimkoaa
/- THE CELL 'sum', in the pinned program and in every row, IS THE sha256 OF THE DUMP (.gsa) THAT YtohonkbneimkoaaProg.lean LOADS. Nothing in Lean hashes anything: it is a label: what it is worth is what the hold of that sum in a sandbox is worth. -/
noncomputable def Try.pinned : Pinned := { name := "ytohonkbneimkoaa", sum := "bf7c63707098706e953abde67b1ebfa22c979a4e68c75b3b5941f9fcf4d0e0e6", checked := Try.checked }
namespace Rows
def none {H : Type} : Left H := { results := [], args := [] }

/-- 'loamlaw4.GeomAny': WHATEVER THE INPUT: true; the input reads as it did. -/
def geomAnySpec : ChangeSpec := { name := "geomAny", fn := fun _ => fun
  | [d1, d2, d3, d4] => { results := [.lit (.bool true)], args := [d1, d2, d3, d4] }
  | _ => none }
def geomAnyRow : OpenClaim := { program := "ytohonkbneimkoaa", sum := "bf7c63707098706e953abde67b1ebfa22c979a4e68c75b3b5941f9fcf4d0e0e6", func := "loam/loamlaw4.GeomAny", spec := "geomAny", apart := false }
def GeomAnySaid : Prop := geomAnyRow.holds Try.pinned (OpenSpec.ofChange geomAnySpec)

/-- ITS FALSE NEIGHBOUR: 'it returns false'. Refute it at one input. -/
def geomAnyWrong : ChangeSpec := { name := "geomAny", fn := fun _ => fun
  | [d1, d2, d3, d4] => { results := [.lit (.bool false)], args := [d1, d2, d3, d4] }
  | _ => none }
def GeomAnyWrongFalsely : Prop := geomAnyRow.holds Try.pinned (OpenSpec.ofChange geomAnyWrong)

/-- 'loamlaw4.GeomParts': WHATEVER THE INPUT: true; the input reads as it did. -/
def geomPartsSpec : ChangeSpec := { name := "geomParts", fn := fun _ => fun
  | [d1, d2, d3] => { results := [.lit (.bool true)], args := [d1, d2, d3] }
  | _ => none }
def geomPartsRow : OpenClaim := { program := "ytohonkbneimkoaa", sum := "bf7c63707098706e953abde67b1ebfa22c979a4e68c75b3b5941f9fcf4d0e0e6", func := "loam/loamlaw4.GeomParts", spec := "geomParts", apart := false }
def GeomPartsSaid : Prop := geomPartsRow.holds Try.pinned (OpenSpec.ofChange geomPartsSpec)

/-- ITS FALSE NEIGHBOUR: 'it returns false'. Refute it at one input. -/
def geomPartsWrong : ChangeSpec := { name := "geomParts", fn := fun _ => fun
  | [d1, d2, d3] => { results := [.lit (.bool false)], args := [d1, d2, d3] }
  | _ => none }
def GeomPartsWrongFalsely : Prop := geomPartsRow.holds Try.pinned (OpenSpec.ofChange geomPartsWrong)

/-- 'loamlaw4.GeomGrows': WHATEVER THE INPUT: true; the input reads as it did. -/
def geomGrowsSpec : ChangeSpec := { name := "geomGrows", fn := fun _ => fun
  | [d1, d2, d3] => { results := [.lit (.bool true)], args := [d1, d2, d3] }
  | _ => none }
def geomGrowsRow : OpenClaim := { program := "ytohonkbneimkoaa", sum := "bf7c63707098706e953abde67b1ebfa22c979a4e68c75b3b5941f9fcf4d0e0e6", func := "loam/loamlaw4.GeomGrows", spec := "geomGrows", apart := false }
def GeomGrowsSaid : Prop := geomGrowsRow.holds Try.pinned (OpenSpec.ofChange geomGrowsSpec)

/-- ITS FALSE NEIGHBOUR: 'it returns false'. Refute it at one input. -/
def geomGrowsWrong : ChangeSpec := { name := "geomGrows", fn := fun _ => fun
  | [d1, d2, d3] => { results := [.lit (.bool false)], args := [d1, d2, d3] }
  | _ => none }
def GeomGrowsWrongFalsely : Prop := geomGrowsRow.holds Try.pinned (OpenSpec.ofChange geomGrowsWrong)

/-- 'loamlaw4.GeomWords': WHATEVER THE INPUT: true; the input reads as it did. -/
def geomWordsSpec : ChangeSpec := { name := "geomWords", fn := fun _ => fun
  | [d1, d2, d3, d4] => { results := [.lit (.bool true)], args := [d1, d2, d3, d4] }
  | _ => none }
def geomWordsRow : OpenClaim := { program := "ytohonkbneimkoaa", sum := "bf7c63707098706e953abde67b1ebfa22c979a4e68c75b3b5941f9fcf4d0e0e6", func := "loam/loamlaw4.GeomWords", spec := "geomWords", apart := false }
def GeomWordsSaid : Prop := geomWordsRow.holds Try.pinned (OpenSpec.ofChange geomWordsSpec)

/-- ITS FALSE NEIGHBOUR: 'it returns false'. Refute it at one input. -/
def geomWordsWrong : ChangeSpec := { name := "geomWords", fn := fun _ => fun
  | [d1, d2, d3, d4] => { results := [.lit (.bool false)], args := [d1, d2, d3, d4] }
  | _ => none }
def GeomWordsWrongFalsely : Prop := geomWordsRow.holds Try.pinned (OpenSpec.ofChange geomWordsWrong)

/-- 'loamlaw2.SumsAny': WHATEVER THE INPUT: true; the input reads as it did. -/
def sumsAnySpec : ChangeSpec := { name := "sumsAny", fn := fun _ => fun
  | [d1, d2] => { results := [.lit (.bool true)], args := [d1, d2] }
  | _ => none }
def sumsAnyRow : OpenClaim := { program := "ytohonkbneimkoaa", sum := "bf7c63707098706e953abde67b1ebfa22c979a4e68c75b3b5941f9fcf4d0e0e6", func := "loam/loamlaw2.SumsAny", spec := "sumsAny", apart := false }
def SumsAnySaid : Prop := sumsAnyRow.holds Try.pinned (OpenSpec.ofChange sumsAnySpec)

/-- ITS FALSE NEIGHBOUR: 'it returns false'. Refute it at one input. -/
def sumsAnyWrong : ChangeSpec := { name := "sumsAny", fn := fun _ => fun
  | [d1, d2] => { results := [.lit (.bool false)], args := [d1, d2] }
  | _ => none }
def SumsAnyWrongFalsely : Prop := sumsAnyRow.holds Try.pinned (OpenSpec.ofChange sumsAnyWrong)

/-- 'loamlaw2.SumsTurned': WHATEVER THE INPUT: true; the input reads as it did. -/
def sumsTurnedSpec : ChangeSpec := { name := "sumsTurned", fn := fun _ => fun
  | [d1, d2, d3] => { results := [.lit (.bool true)], args := [d1, d2, d3] }
  | _ => none }
def sumsTurnedRow : OpenClaim := { program := "ytohonkbneimkoaa", sum := "bf7c63707098706e953abde67b1ebfa22c979a4e68c75b3b5941f9fcf4d0e0e6", func := "loam/loamlaw2.SumsTurned", spec := "sumsTurned", apart := false }
def SumsTurnedSaid : Prop := sumsTurnedRow.holds Try.pinned (OpenSpec.ofChange sumsTurnedSpec)

/-- ITS FALSE NEIGHBOUR: 'it returns false'. Refute it at one input. -/
def sumsTurnedWrong : ChangeSpec := { name := "sumsTurned", fn := fun _ => fun
  | [d1, d2, d3] => { results := [.lit (.bool false)], args := [d1, d2, d3] }
  | _ => none }
def SumsTurnedWrongFalsely : Prop := sumsTurnedRow.holds Try.pinned (OpenSpec.ofChange sumsTurnedWrong)

/-- 'loamlaw2.SumsSeal': WHATEVER THE INPUT: true; the input reads as it did. -/
def sumsSealSpec : ChangeSpec := { name := "sumsSeal", fn := fun _ => fun
  | [d] => { results := [.lit (.bool true)], args := [d] }
  | _ => none }
def sumsSealRow : OpenClaim := { program := "ytohonkbneimkoaa", sum := "bf7c63707098706e953abde67b1ebfa22c979a4e68c75b3b5941f9fcf4d0e0e6", func := "loam/loamlaw2.SumsSeal", spec := "sumsSeal", apart := false }
def SumsSealSaid : Prop := sumsSealRow.holds Try.pinned (OpenSpec.ofChange sumsSealSpec)

/-- ITS FALSE NEIGHBOUR: 'it returns false'. Refute it at one input. -/
def sumsSealWrong : ChangeSpec := { name := "sumsSeal", fn := fun _ => fun
  | [d] => { results := [.lit (.bool false)], args := [d] }
  | _ => none }
def SumsSealWrongFalsely : Prop := sumsSealRow.holds Try.pinned (OpenSpec.ofChange sumsSealWrong)

/-- 'loamlaw2.SumsXor': WHATEVER THE INPUT: true; the input reads as it did. -/
def sumsXorSpec : ChangeSpec := { name := "sumsXor", fn := fun _ => fun
  | [d1, d2] => { results := [.lit (.bool true)], args := [d1, d2] }
  | _ => none }
def sumsXorRow : OpenClaim := { program := "ytohonkbneimkoaa", sum := "bf7c63707098706e953abde67b1ebfa22c979a4e68c75b3b5941f9fcf4d0e0e6", func := "loam/loamlaw2.SumsXor", spec := "sumsXor", apart := false }
def SumsXorSaid : Prop := sumsXorRow.holds Try.pinned (OpenSpec.ofChange sumsXorSpec)

/-- ITS FALSE NEIGHBOUR: 'it returns false'. Refute it at one input. -/
def sumsXorWrong : ChangeSpec := { name := "sumsXor", fn := fun _ => fun
  | [d1, d2] => { results := [.lit (.bool false)], args := [d1, d2] }
  | _ => none }
def SumsXorWrongFalsely : Prop := sumsXorRow.holds Try.pinned (OpenSpec.ofChange sumsXorWrong)

/-- 'loamlaw14.HeadBack': WHATEVER THE INPUT: true; the input reads as it did. -/
def headBackSpec : ChangeSpec := { name := "headBack", fn := fun _ => fun
  | [d] => { results := [.lit (.bool true)], args := [d] }
  | _ => none }
def headBackRow : OpenClaim := { program := "ytohonkbneimkoaa", sum := "bf7c63707098706e953abde67b1ebfa22c979a4e68c75b3b5941f9fcf4d0e0e6", func := "loam/loamlaw14.HeadBack", spec := "headBack", apart := false }
def HeadBackSaid : Prop := headBackRow.holds Try.pinned (OpenSpec.ofChange headBackSpec)

/-- ITS FALSE NEIGHBOUR: 'it returns false'. Refute it at one input. -/
def headBackWrong : ChangeSpec := { name := "headBack", fn := fun _ => fun
  | [d] => { results := [.lit (.bool false)], args := [d] }
  | _ => none }
def HeadBackWrongFalsely : Prop := headBackRow.holds Try.pinned (OpenSpec.ofChange headBackWrong)

/-- 'loamlaw14.HeadWords': WHATEVER THE INPUT: true; the input reads as it did. -/
def headWordsSpec : ChangeSpec := { name := "headWords", fn := fun _ => fun
  | [d] => { results := [.lit (.bool true)], args := [d] }
  | _ => none }
def headWordsRow : OpenClaim := { program := "ytohonkbneimkoaa", sum := "bf7c63707098706e953abde67b1ebfa22c979a4e68c75b3b5941f9fcf4d0e0e6", func := "loam/loamlaw14.HeadWords", spec := "headWords", apart := false }
def HeadWordsSaid : Prop := headWordsRow.holds Try.pinned (OpenSpec.ofChange headWordsSpec)

/-- ITS FALSE NEIGHBOUR: 'it returns false'. Refute it at one input. -/
def headWordsWrong : ChangeSpec := { name := "headWords", fn := fun _ => fun
  | [d] => { results := [.lit (.bool false)], args := [d] }
  | _ => none }
def HeadWordsWrongFalsely : Prop := headWordsRow.holds Try.pinned (OpenSpec.ofChange headWordsWrong)

/-- 'loamlaw14.HeadSizes': WHATEVER THE INPUT: true; the input reads as it did. -/
def headSizesSpec : ChangeSpec := { name := "headSizes", fn := fun _ => fun
  | [d1, d2] => { results := [.lit (.bool true)], args := [d1, d2] }
  | _ => none }
def headSizesRow : OpenClaim := { program := "ytohonkbneimkoaa", sum := "bf7c63707098706e953abde67b1ebfa22c979a4e68c75b3b5941f9fcf4d0e0e6", func := "loam/loamlaw14.HeadSizes", spec := "headSizes", apart := false }
def HeadSizesSaid : Prop := headSizesRow.holds Try.pinned (OpenSpec.ofChange headSizesSpec)

/-- ITS FALSE NEIGHBOUR: 'it returns false'. Refute it at one input. -/
def headSizesWrong : ChangeSpec := { name := "headSizes", fn := fun _ => fun
  | [d1, d2] => { results := [.lit (.bool false)], args := [d1, d2] }
  | _ => none }
def HeadSizesWrongFalsely : Prop := headSizesRow.holds Try.pinned (OpenSpec.ofChange headSizesWrong)

/-- 'loamlaw14.HeadUnlike': WHATEVER THE INPUT: true; the input reads as it did. -/
def headUnlikeSpec : ChangeSpec := { name := "headUnlike", fn := fun _ => fun
  | [d1, d2] => { results := [.lit (.bool true)], args := [d1, d2] }
  | _ => none }
def headUnlikeRow : OpenClaim := { program := "ytohonkbneimkoaa", sum := "bf7c63707098706e953abde67b1ebfa22c979a4e68c75b3b5941f9fcf4d0e0e6", func := "loam/loamlaw14.HeadUnlike", spec := "headUnlike", apart := false }
def HeadUnlikeSaid : Prop := headUnlikeRow.holds Try.pinned (OpenSpec.ofChange headUnlikeSpec)

/-- ITS FALSE NEIGHBOUR: 'it returns false'. Refute it at one input. -/
def headUnlikeWrong : ChangeSpec := { name := "headUnlike", fn := fun _ => fun
  | [d1, d2] => { results := [.lit (.bool false)], args := [d1, d2] }
  | _ => none }
def HeadUnlikeWrongFalsely : Prop := headUnlikeRow.holds Try.pinned (OpenSpec.ofChange headUnlikeWrong)

/- THE SECOND FORM. 'bulk': how many values and letters a reading holds, each counted each time it is reached (what is shared counts as often as it is met; a slice's spare places count too). A statement '..UptoSaid' is the law's where the arguments, and the package variables that the reading takes, are together of bulk at most 1048576: NARROWER than '..Said'. Prove '..Said' where nothing that the law and all that it calls make is longer than what came in: it says more and counts as full. Else prove '..UptoSaid'. A law counts once. -/
mutual
def uptoBulk {H : Type} : DataW H → Nat
  | .lit (.string bytes) => bytes.length + 1
  | .lit _ => 1
  | .nil => 1
  | .ptr d => uptoBulk d + 1
  | .slice elems spare => uptoBulkAll elems + uptoBulkAll spare + 1
  | .agg parts => uptoBulkAll parts + 1
  | .iface _ d => uptoBulk d + 1
  | .map entries => uptoBulkEntries entries + 1
  | .held _ => 1
def uptoBulkAll {H : Type} : List (DataW H) → Nat
  | [] => 0
  | d :: r => uptoBulk d + uptoBulkAll r
def uptoBulkEntries {H : Type} : List (Lit × DataW H) → Nat
  | [] => 0
  | x :: r => uptoBulkEntry x + uptoBulkEntries r
def uptoBulkEntry {H : Type} : Lit × DataW H → Nat
  | (.string bytes, d) => bytes.length + uptoBulk d + 1
  | (_, d) => uptoBulk d + 1
 end
def uptoSmall : (H : Type) → List (DataW H) → Bool := fun _ ds => decide (uptoBulkAll ds ≤ 1048576)
def OpenSpec.upto (s : _root_.Go.ChangeSpec) : _root_.Go.OpenSpec := { _root_.Go.OpenSpec.ofChange s with cond := some uptoSmall }

/-- 'loamlaw4.GeomAny', WHERE WHAT IT READS IS OF BULK AT MOST 1048576: true; the input reads as it did. -/
def geomAnyUptoRow : OpenClaim := { program := "ytohonkbneimkoaa", sum := "bf7c63707098706e953abde67b1ebfa22c979a4e68c75b3b5941f9fcf4d0e0e6", func := "loam/loamlaw4.GeomAny", spec := "geomAny", apart := false, narrowed := true }
def GeomAnyUptoSaid : Prop := geomAnyUptoRow.holds Try.pinned (OpenSpec.upto geomAnySpec)

/-- 'loamlaw4.GeomParts', WHERE WHAT IT READS IS OF BULK AT MOST 1048576: true; the input reads as it did. -/
def geomPartsUptoRow : OpenClaim := { program := "ytohonkbneimkoaa", sum := "bf7c63707098706e953abde67b1ebfa22c979a4e68c75b3b5941f9fcf4d0e0e6", func := "loam/loamlaw4.GeomParts", spec := "geomParts", apart := false, narrowed := true }
def GeomPartsUptoSaid : Prop := geomPartsUptoRow.holds Try.pinned (OpenSpec.upto geomPartsSpec)

/-- 'loamlaw4.GeomGrows', WHERE WHAT IT READS IS OF BULK AT MOST 1048576: true; the input reads as it did. -/
def geomGrowsUptoRow : OpenClaim := { program := "ytohonkbneimkoaa", sum := "bf7c63707098706e953abde67b1ebfa22c979a4e68c75b3b5941f9fcf4d0e0e6", func := "loam/loamlaw4.GeomGrows", spec := "geomGrows", apart := false, narrowed := true }
def GeomGrowsUptoSaid : Prop := geomGrowsUptoRow.holds Try.pinned (OpenSpec.upto geomGrowsSpec)

/-- 'loamlaw4.GeomWords', WHERE WHAT IT READS IS OF BULK AT MOST 1048576: true; the input reads as it did. -/
def geomWordsUptoRow : OpenClaim := { program := "ytohonkbneimkoaa", sum := "bf7c63707098706e953abde67b1ebfa22c979a4e68c75b3b5941f9fcf4d0e0e6", func := "loam/loamlaw4.GeomWords", spec := "geomWords", apart := false, narrowed := true }
def GeomWordsUptoSaid : Prop := geomWordsUptoRow.holds Try.pinned (OpenSpec.upto geomWordsSpec)

/-- 'loamlaw2.SumsAny', WHERE WHAT IT READS IS OF BULK AT MOST 1048576: true; the input reads as it did. -/
def sumsAnyUptoRow : OpenClaim := { program := "ytohonkbneimkoaa", sum := "bf7c63707098706e953abde67b1ebfa22c979a4e68c75b3b5941f9fcf4d0e0e6", func := "loam/loamlaw2.SumsAny", spec := "sumsAny", apart := false, narrowed := true }
def SumsAnyUptoSaid : Prop := sumsAnyUptoRow.holds Try.pinned (OpenSpec.upto sumsAnySpec)

/-- 'loamlaw2.SumsTurned', WHERE WHAT IT READS IS OF BULK AT MOST 1048576: true; the input reads as it did. -/
def sumsTurnedUptoRow : OpenClaim := { program := "ytohonkbneimkoaa", sum := "bf7c63707098706e953abde67b1ebfa22c979a4e68c75b3b5941f9fcf4d0e0e6", func := "loam/loamlaw2.SumsTurned", spec := "sumsTurned", apart := false, narrowed := true }
def SumsTurnedUptoSaid : Prop := sumsTurnedUptoRow.holds Try.pinned (OpenSpec.upto sumsTurnedSpec)

/-- 'loamlaw2.SumsSeal', WHERE WHAT IT READS IS OF BULK AT MOST 1048576: true; the input reads as it did. -/
def sumsSealUptoRow : OpenClaim := { program := "ytohonkbneimkoaa", sum := "bf7c63707098706e953abde67b1ebfa22c979a4e68c75b3b5941f9fcf4d0e0e6", func := "loam/loamlaw2.SumsSeal", spec := "sumsSeal", apart := false, narrowed := true }
def SumsSealUptoSaid : Prop := sumsSealUptoRow.holds Try.pinned (OpenSpec.upto sumsSealSpec)

/-- 'loamlaw2.SumsXor', WHERE WHAT IT READS IS OF BULK AT MOST 1048576: true; the input reads as it did. -/
def sumsXorUptoRow : OpenClaim := { program := "ytohonkbneimkoaa", sum := "bf7c63707098706e953abde67b1ebfa22c979a4e68c75b3b5941f9fcf4d0e0e6", func := "loam/loamlaw2.SumsXor", spec := "sumsXor", apart := false, narrowed := true }
def SumsXorUptoSaid : Prop := sumsXorUptoRow.holds Try.pinned (OpenSpec.upto sumsXorSpec)

/-- 'loamlaw14.HeadBack', WHERE WHAT IT READS IS OF BULK AT MOST 1048576: true; the input reads as it did. -/
def headBackUptoRow : OpenClaim := { program := "ytohonkbneimkoaa", sum := "bf7c63707098706e953abde67b1ebfa22c979a4e68c75b3b5941f9fcf4d0e0e6", func := "loam/loamlaw14.HeadBack", spec := "headBack", apart := false, narrowed := true }
def HeadBackUptoSaid : Prop := headBackUptoRow.holds Try.pinned (OpenSpec.upto headBackSpec)

/-- 'loamlaw14.HeadWords', WHERE WHAT IT READS IS OF BULK AT MOST 1048576: true; the input reads as it did. -/
def headWordsUptoRow : OpenClaim := { program := "ytohonkbneimkoaa", sum := "bf7c63707098706e953abde67b1ebfa22c979a4e68c75b3b5941f9fcf4d0e0e6", func := "loam/loamlaw14.HeadWords", spec := "headWords", apart := false, narrowed := true }
def HeadWordsUptoSaid : Prop := headWordsUptoRow.holds Try.pinned (OpenSpec.upto headWordsSpec)

/-- 'loamlaw14.HeadSizes', WHERE WHAT IT READS IS OF BULK AT MOST 1048576: true; the input reads as it did. -/
def headSizesUptoRow : OpenClaim := { program := "ytohonkbneimkoaa", sum := "bf7c63707098706e953abde67b1ebfa22c979a4e68c75b3b5941f9fcf4d0e0e6", func := "loam/loamlaw14.HeadSizes", spec := "headSizes", apart := false, narrowed := true }
def HeadSizesUptoSaid : Prop := headSizesUptoRow.holds Try.pinned (OpenSpec.upto headSizesSpec)

/-- 'loamlaw14.HeadUnlike', WHERE WHAT IT READS IS OF BULK AT MOST 1048576: true; the input reads as it did. -/
def headUnlikeUptoRow : OpenClaim := { program := "ytohonkbneimkoaa", sum := "bf7c63707098706e953abde67b1ebfa22c979a4e68c75b3b5941f9fcf4d0e0e6", func := "loam/loamlaw14.HeadUnlike", spec := "headUnlike", apart := false, narrowed := true }
def HeadUnlikeUptoSaid : Prop := headUnlikeUptoRow.holds Try.pinned (OpenSpec.upto headUnlikeSpec)

end Rows
end Go.Proofs.Ytohonkbneimkoaa
