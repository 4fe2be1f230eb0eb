/-
  No cell of these rows narrows 'for every input' (looked for: loops, veiled, ifaces, maps, wideKeys, modest, calm, conditions, laid).
  DERIVED. THE GIVEN ROWS OF THIS SEAT. 11 by the template 'for every input the law returns true; each argument reads behind the call as it read before'; 0 by the template 'total and deterministic' (their statements: YtlllabaipfmnjaaTotals.lean).
  GIVEN WITH THE SEED: the statements are not yours to turn. If you find one false, say at which input.
  Laid BY PROGRAM, IN A SANDBOX (cutbox-rows.mjs): the forced cells as the released guide's own fill.sh prints them over the translation 7423b58d48fdca55… (all of the seat's roots in one cut). By AI agents, Wed Nov 11 2026. No macro, syntax, notation, axiom, sorry.
-/
import Derived.Test.YtlllabaipfmnjaaChecked
import GoSem.Claim
import GoSem.ClaimJoined
import GoSem.ClaimMapViews
import Derived.JoinedTies
import Derived.KernelRfl
namespace Go.Proofs.Ytlllabaipfmnjaa
/- THE CELL 'sum', in the pinned program and in every row, IS THE sha256 OF THE DUMP (.gsa) THAT YtlllabaipfmnjaaProg.lean LOADS. Nothing in Lean hashes anything: it is a label: what it is worth is what the hold of that sum in a sandbox is worth. -/
noncomputable def Try.pinned : Pinned := { name := "ytlllabaipfmnjaa", sum := "7423b58d48fdca553fe1a469ea0eeebd7df2448df5cf6b62a9447ada7bd1f4c5", checked := Try.checked }
namespace Rows
def none {H : Type} : Left H := { results := [], args := [] }

/-- 'loamlaw5.CodeBack': WHATEVER THE INPUT: true; the input reads as it did. -/
def codeBackSpec : ChangeSpec := { name := "codeBack", fn := fun _ => fun
  | [d] => { results := [.lit (.bool true)], args := [d] }
  | _ => none }
def codeBackRow : OpenClaim := { program := "ytlllabaipfmnjaa", sum := "7423b58d48fdca553fe1a469ea0eeebd7df2448df5cf6b62a9447ada7bd1f4c5", func := "loam/loamlaw5.CodeBack", spec := "codeBack", apart := false }
def CodeBackSaid : Prop := codeBackRow.holds Try.pinned (OpenSpec.ofChange codeBackSpec)

/-- ITS FALSE NEIGHBOUR: 'it returns false'. Refute it at one input. -/
def codeBackWrong : ChangeSpec := { name := "codeBack", fn := fun _ => fun
  | [d] => { results := [.lit (.bool false)], args := [d] }
  | _ => none }
def CodeBackWrongFalsely : Prop := codeBackRow.holds Try.pinned (OpenSpec.ofChange codeBackWrong)

/-- 'loamlaw5.CodeShort': WHATEVER THE INPUT: true; the input reads as it did. -/
def codeShortSpec : ChangeSpec := { name := "codeShort", fn := fun _ => fun
  | [d1, d2] => { results := [.lit (.bool true)], args := [d1, d2] }
  | _ => none }
def codeShortRow : OpenClaim := { program := "ytlllabaipfmnjaa", sum := "7423b58d48fdca553fe1a469ea0eeebd7df2448df5cf6b62a9447ada7bd1f4c5", func := "loam/loamlaw5.CodeShort", spec := "codeShort", apart := false }
def CodeShortSaid : Prop := codeShortRow.holds Try.pinned (OpenSpec.ofChange codeShortSpec)

/-- ITS FALSE NEIGHBOUR: 'it returns false'. Refute it at one input. -/
def codeShortWrong : ChangeSpec := { name := "codeShort", fn := fun _ => fun
  | [d1, d2] => { results := [.lit (.bool false)], args := [d1, d2] }
  | _ => none }
def CodeShortWrongFalsely : Prop := codeShortRow.holds Try.pinned (OpenSpec.ofChange codeShortWrong)

/-- 'loamlaw5.CodeSigns': WHATEVER THE INPUT: true; the input reads as it did. -/
def codeSignsSpec : ChangeSpec := { name := "codeSigns", fn := fun _ => fun
  | [d] => { results := [.lit (.bool true)], args := [d] }
  | _ => none }
def codeSignsRow : OpenClaim := { program := "ytlllabaipfmnjaa", sum := "7423b58d48fdca553fe1a469ea0eeebd7df2448df5cf6b62a9447ada7bd1f4c5", func := "loam/loamlaw5.CodeSigns", spec := "codeSigns", apart := false }
def CodeSignsSaid : Prop := codeSignsRow.holds Try.pinned (OpenSpec.ofChange codeSignsSpec)

/-- ITS FALSE NEIGHBOUR: 'it returns false'. Refute it at one input. -/
def codeSignsWrong : ChangeSpec := { name := "codeSigns", fn := fun _ => fun
  | [d] => { results := [.lit (.bool false)], args := [d] }
  | _ => none }
def CodeSignsWrongFalsely : Prop := codeSignsRow.holds Try.pinned (OpenSpec.ofChange codeSignsWrong)

/-- 'loamlaw6.SuperBack': WHATEVER THE INPUT: true; the input reads as it did. -/
def superBackSpec : ChangeSpec := { name := "superBack", fn := fun _ => fun
  | [d1, d2] => { results := [.lit (.bool true)], args := [d1, d2] }
  | _ => none }
def superBackRow : OpenClaim := { program := "ytlllabaipfmnjaa", sum := "7423b58d48fdca553fe1a469ea0eeebd7df2448df5cf6b62a9447ada7bd1f4c5", func := "loam/loamlaw6.SuperBack", spec := "superBack", unfollowed := true, recurses := true, apart := false }
def SuperBackSaid : Prop := superBackRow.holds Try.pinned (OpenSpec.ofChange superBackSpec)

/-- ITS FALSE NEIGHBOUR: 'it returns false'. Refute it at one input. -/
def superBackWrong : ChangeSpec := { name := "superBack", fn := fun _ => fun
  | [d1, d2] => { results := [.lit (.bool false)], args := [d1, d2] }
  | _ => none }
def SuperBackWrongFalsely : Prop := superBackRow.holds Try.pinned (OpenSpec.ofChange superBackWrong)

/-- 'loamlaw6.SuperBytes': WHATEVER THE INPUT: true; the input reads as it did. -/
def superBytesSpec : ChangeSpec := { name := "superBytes", fn := fun _ => fun
  | [d] => { results := [.lit (.bool true)], args := [d] }
  | _ => none }
def superBytesRow : OpenClaim := { program := "ytlllabaipfmnjaa", sum := "7423b58d48fdca553fe1a469ea0eeebd7df2448df5cf6b62a9447ada7bd1f4c5", func := "loam/loamlaw6.SuperBytes", spec := "superBytes", unfollowed := true, recurses := true, apart := false }
def SuperBytesSaid : Prop := superBytesRow.holds Try.pinned (OpenSpec.ofChange superBytesSpec)

/-- ITS FALSE NEIGHBOUR: 'it returns false'. Refute it at one input. -/
def superBytesWrong : ChangeSpec := { name := "superBytes", fn := fun _ => fun
  | [d] => { results := [.lit (.bool false)], args := [d] }
  | _ => none }
def SuperBytesWrongFalsely : Prop := superBytesRow.holds Try.pinned (OpenSpec.ofChange superBytesWrong)

/-- 'loamlaw6.SuperLimits': WHATEVER THE INPUT: true; the input reads as it did. -/
def superLimitsSpec : ChangeSpec := { name := "superLimits", fn := fun _ => fun
  | [d1, d2, d3] => { results := [.lit (.bool true)], args := [d1, d2, d3] }
  | _ => none }
def superLimitsRow : OpenClaim := { program := "ytlllabaipfmnjaa", sum := "7423b58d48fdca553fe1a469ea0eeebd7df2448df5cf6b62a9447ada7bd1f4c5", func := "loam/loamlaw6.SuperLimits", spec := "superLimits", unfollowed := true, recurses := true, apart := false }
def SuperLimitsSaid : Prop := superLimitsRow.holds Try.pinned (OpenSpec.ofChange superLimitsSpec)

/-- ITS FALSE NEIGHBOUR: 'it returns false'. Refute it at one input. -/
def superLimitsWrong : ChangeSpec := { name := "superLimits", fn := fun _ => fun
  | [d1, d2, d3] => { results := [.lit (.bool false)], args := [d1, d2, d3] }
  | _ => none }
def SuperLimitsWrongFalsely : Prop := superLimitsRow.holds Try.pinned (OpenSpec.ofChange superLimitsWrong)

/-- 'loamlaw6.SuperUnlike': WHATEVER THE INPUT: true; the input reads as it did. -/
def superUnlikeSpec : ChangeSpec := { name := "superUnlike", fn := fun _ => fun
  | [d1, d2] => { results := [.lit (.bool true)], args := [d1, d2] }
  | _ => none }
def superUnlikeRow : OpenClaim := { program := "ytlllabaipfmnjaa", sum := "7423b58d48fdca553fe1a469ea0eeebd7df2448df5cf6b62a9447ada7bd1f4c5", func := "loam/loamlaw6.SuperUnlike", spec := "superUnlike", unfollowed := true, recurses := true, apart := false }
def SuperUnlikeSaid : Prop := superUnlikeRow.holds Try.pinned (OpenSpec.ofChange superUnlikeSpec)

/-- ITS FALSE NEIGHBOUR: 'it returns false'. Refute it at one input. -/
def superUnlikeWrong : ChangeSpec := { name := "superUnlike", fn := fun _ => fun
  | [d1, d2] => { results := [.lit (.bool false)], args := [d1, d2] }
  | _ => none }
def SuperUnlikeWrongFalsely : Prop := superUnlikeRow.holds Try.pinned (OpenSpec.ofChange superUnlikeWrong)

/-- 'loamlaw15.SpaceFills': WHATEVER THE INPUT: true; the input reads as it did. -/
def spaceFillsSpec : ChangeSpec := { name := "spaceFills", fn := fun _ => fun
  | [d1, d2, d3] => { results := [.lit (.bool true)], args := [d1, d2, d3] }
  | _ => none }
def spaceFillsRow : OpenClaim := { program := "ytlllabaipfmnjaa", sum := "7423b58d48fdca553fe1a469ea0eeebd7df2448df5cf6b62a9447ada7bd1f4c5", func := "loam/loamlaw15.SpaceFills", spec := "spaceFills", apart := false }
def SpaceFillsSaid : Prop := spaceFillsRow.holds Try.pinned (OpenSpec.ofChange spaceFillsSpec)

/-- ITS FALSE NEIGHBOUR: 'it returns false'. Refute it at one input. -/
def spaceFillsWrong : ChangeSpec := { name := "spaceFills", fn := fun _ => fun
  | [d1, d2, d3] => { results := [.lit (.bool false)], args := [d1, d2, d3] }
  | _ => none }
def SpaceFillsWrongFalsely : Prop := spaceFillsRow.holds Try.pinned (OpenSpec.ofChange spaceFillsWrong)

/-- 'loamlaw15.SpaceClears': WHATEVER THE INPUT: true; the input reads as it did. -/
def spaceClearsSpec : ChangeSpec := { name := "spaceClears", fn := fun _ => fun
  | [d1, d2] => { results := [.lit (.bool true)], args := [d1, d2] }
  | _ => none }
def spaceClearsRow : OpenClaim := { program := "ytlllabaipfmnjaa", sum := "7423b58d48fdca553fe1a469ea0eeebd7df2448df5cf6b62a9447ada7bd1f4c5", func := "loam/loamlaw15.SpaceClears", spec := "spaceClears", apart := false }
def SpaceClearsSaid : Prop := spaceClearsRow.holds Try.pinned (OpenSpec.ofChange spaceClearsSpec)

/-- ITS FALSE NEIGHBOUR: 'it returns false'. Refute it at one input. -/
def spaceClearsWrong : ChangeSpec := { name := "spaceClears", fn := fun _ => fun
  | [d1, d2] => { results := [.lit (.bool false)], args := [d1, d2] }
  | _ => none }
def SpaceClearsWrongFalsely : Prop := spaceClearsRow.holds Try.pinned (OpenSpec.ofChange spaceClearsWrong)

/-- 'loamlaw15.SpacePlays': WHATEVER THE INPUT: true; the input reads as it did. -/
def spacePlaysSpec : ChangeSpec := { name := "spacePlays", fn := fun _ => fun
  | [d1, d2, d3, d4] => { results := [.lit (.bool true)], args := [d1, d2, d3, d4] }
  | _ => none }
def spacePlaysRow : OpenClaim := { program := "ytlllabaipfmnjaa", sum := "7423b58d48fdca553fe1a469ea0eeebd7df2448df5cf6b62a9447ada7bd1f4c5", func := "loam/loamlaw15.SpacePlays", spec := "spacePlays", apart := false }
def SpacePlaysSaid : Prop := spacePlaysRow.holds Try.pinned (OpenSpec.ofChange spacePlaysSpec)

/-- ITS FALSE NEIGHBOUR: 'it returns false'. Refute it at one input. -/
def spacePlaysWrong : ChangeSpec := { name := "spacePlays", fn := fun _ => fun
  | [d1, d2, d3, d4] => { results := [.lit (.bool false)], args := [d1, d2, d3, d4] }
  | _ => none }
def SpacePlaysWrongFalsely : Prop := spacePlaysRow.holds Try.pinned (OpenSpec.ofChange spacePlaysWrong)

/-- 'loamlaw15.SpaceWords': WHATEVER THE INPUT: true; the input reads as it did. -/
def spaceWordsSpec : ChangeSpec := { name := "spaceWords", fn := fun _ => fun
  | [d1, d2, d3, d4] => { results := [.lit (.bool true)], args := [d1, d2, d3, d4] }
  | _ => none }
def spaceWordsRow : OpenClaim := { program := "ytlllabaipfmnjaa", sum := "7423b58d48fdca553fe1a469ea0eeebd7df2448df5cf6b62a9447ada7bd1f4c5", func := "loam/loamlaw15.SpaceWords", spec := "spaceWords", apart := false }
def SpaceWordsSaid : Prop := spaceWordsRow.holds Try.pinned (OpenSpec.ofChange spaceWordsSpec)

/-- ITS FALSE NEIGHBOUR: 'it returns false'. Refute it at one input. -/
def spaceWordsWrong : ChangeSpec := { name := "spaceWords", fn := fun _ => fun
  | [d1, d2, d3, d4] => { results := [.lit (.bool false)], args := [d1, d2, d3, d4] }
  | _ => none }
def SpaceWordsWrongFalsely : Prop := spaceWordsRow.holds Try.pinned (OpenSpec.ofChange spaceWordsWrong)

/- THE SECOND FORM. 'bulk': how many values and letters a reading holds, each counted each time it is reached (what is shared counts as often as it is met; a slice's spare places count too). A statement '..UptoSaid' is the law's where the arguments, and the package variables that the reading takes, are together of bulk at most 1048576: NARROWER than '..Said'. Prove '..Said' where nothing that the law and all that it calls make is longer than what came in: it says more and counts as full. Else prove '..UptoSaid'. A law counts once. -/
mutual
def uptoBulk {H : Type} : DataW H → Nat
  | .lit (.string bytes) => bytes.length + 1
  | .lit _ => 1
  | .nil => 1
  | .ptr d => uptoBulk d + 1
  | .slice elems spare => uptoBulkAll elems + uptoBulkAll spare + 1
  | .agg parts => uptoBulkAll parts + 1
  | .iface _ d => uptoBulk d + 1
  | .map entries => uptoBulkEntries entries + 1
  | .held _ => 1
def uptoBulkAll {H : Type} : List (DataW H) → Nat
  | [] => 0
  | d :: r => uptoBulk d + uptoBulkAll r
def uptoBulkEntries {H : Type} : List (Lit × DataW H) → Nat
  | [] => 0
  | x :: r => uptoBulkEntry x + uptoBulkEntries r
def uptoBulkEntry {H : Type} : Lit × DataW H → Nat
  | (.string bytes, d) => bytes.length + uptoBulk d + 1
  | (_, d) => uptoBulk d + 1
 end
def uptoSmall : (H : Type) → List (DataW H) → Bool := fun _ ds => decide (uptoBulkAll ds ≤ 1048576)
def OpenSpec.upto (s : _root_.Go.ChangeSpec) : _root_.Go.OpenSpec := { _root_.Go.OpenSpec.ofChange s with cond := some uptoSmall }

/-- 'loamlaw5.CodeBack', WHERE WHAT IT READS IS OF BULK AT MOST 1048576: true; the input reads as it did. -/
def codeBackUptoRow : OpenClaim := { program := "ytlllabaipfmnjaa", sum := "7423b58d48fdca553fe1a469ea0eeebd7df2448df5cf6b62a9447ada7bd1f4c5", func := "loam/loamlaw5.CodeBack", spec := "codeBack", apart := false, narrowed := true }
def CodeBackUptoSaid : Prop := codeBackUptoRow.holds Try.pinned (OpenSpec.upto codeBackSpec)

/-- 'loamlaw5.CodeShort', WHERE WHAT IT READS IS OF BULK AT MOST 1048576: true; the input reads as it did. -/
def codeShortUptoRow : OpenClaim := { program := "ytlllabaipfmnjaa", sum := "7423b58d48fdca553fe1a469ea0eeebd7df2448df5cf6b62a9447ada7bd1f4c5", func := "loam/loamlaw5.CodeShort", spec := "codeShort", apart := false, narrowed := true }
def CodeShortUptoSaid : Prop := codeShortUptoRow.holds Try.pinned (OpenSpec.upto codeShortSpec)

/-- 'loamlaw5.CodeSigns', WHERE WHAT IT READS IS OF BULK AT MOST 1048576: true; the input reads as it did. -/
def codeSignsUptoRow : OpenClaim := { program := "ytlllabaipfmnjaa", sum := "7423b58d48fdca553fe1a469ea0eeebd7df2448df5cf6b62a9447ada7bd1f4c5", func := "loam/loamlaw5.CodeSigns", spec := "codeSigns", apart := false, narrowed := true }
def CodeSignsUptoSaid : Prop := codeSignsUptoRow.holds Try.pinned (OpenSpec.upto codeSignsSpec)

/-- 'loamlaw6.SuperBack', WHERE WHAT IT READS IS OF BULK AT MOST 1048576: true; the input reads as it did. -/
def superBackUptoRow : OpenClaim := { program := "ytlllabaipfmnjaa", sum := "7423b58d48fdca553fe1a469ea0eeebd7df2448df5cf6b62a9447ada7bd1f4c5", func := "loam/loamlaw6.SuperBack", spec := "superBack", unfollowed := true, recurses := true, apart := false, narrowed := true }
def SuperBackUptoSaid : Prop := superBackUptoRow.holds Try.pinned (OpenSpec.upto superBackSpec)

/-- 'loamlaw6.SuperBytes', WHERE WHAT IT READS IS OF BULK AT MOST 1048576: true; the input reads as it did. -/
def superBytesUptoRow : OpenClaim := { program := "ytlllabaipfmnjaa", sum := "7423b58d48fdca553fe1a469ea0eeebd7df2448df5cf6b62a9447ada7bd1f4c5", func := "loam/loamlaw6.SuperBytes", spec := "superBytes", unfollowed := true, recurses := true, apart := false, narrowed := true }
def SuperBytesUptoSaid : Prop := superBytesUptoRow.holds Try.pinned (OpenSpec.upto superBytesSpec)

/-- 'loamlaw6.SuperLimits', WHERE WHAT IT READS IS OF BULK AT MOST 1048576: true; the input reads as it did. -/
def superLimitsUptoRow : OpenClaim := { program := "ytlllabaipfmnjaa", sum := "7423b58d48fdca553fe1a469ea0eeebd7df2448df5cf6b62a9447ada7bd1f4c5", func := "loam/loamlaw6.SuperLimits", spec := "superLimits", unfollowed := true, recurses := true, apart := false, narrowed := true }
def SuperLimitsUptoSaid : Prop := superLimitsUptoRow.holds Try.pinned (OpenSpec.upto superLimitsSpec)

/-- 'loamlaw6.SuperUnlike', WHERE WHAT IT READS IS OF BULK AT MOST 1048576: true; the input reads as it did. -/
def superUnlikeUptoRow : OpenClaim := { program := "ytlllabaipfmnjaa", sum := "7423b58d48fdca553fe1a469ea0eeebd7df2448df5cf6b62a9447ada7bd1f4c5", func := "loam/loamlaw6.SuperUnlike", spec := "superUnlike", unfollowed := true, recurses := true, apart := false, narrowed := true }
def SuperUnlikeUptoSaid : Prop := superUnlikeUptoRow.holds Try.pinned (OpenSpec.upto superUnlikeSpec)

/-- 'loamlaw15.SpaceFills', WHERE WHAT IT READS IS OF BULK AT MOST 1048576: true; the input reads as it did. -/
def spaceFillsUptoRow : OpenClaim := { program := "ytlllabaipfmnjaa", sum := "7423b58d48fdca553fe1a469ea0eeebd7df2448df5cf6b62a9447ada7bd1f4c5", func := "loam/loamlaw15.SpaceFills", spec := "spaceFills", apart := false, narrowed := true }
def SpaceFillsUptoSaid : Prop := spaceFillsUptoRow.holds Try.pinned (OpenSpec.upto spaceFillsSpec)

/-- 'loamlaw15.SpaceClears', WHERE WHAT IT READS IS OF BULK AT MOST 1048576: true; the input reads as it did. -/
def spaceClearsUptoRow : OpenClaim := { program := "ytlllabaipfmnjaa", sum := "7423b58d48fdca553fe1a469ea0eeebd7df2448df5cf6b62a9447ada7bd1f4c5", func := "loam/loamlaw15.SpaceClears", spec := "spaceClears", apart := false, narrowed := true }
def SpaceClearsUptoSaid : Prop := spaceClearsUptoRow.holds Try.pinned (OpenSpec.upto spaceClearsSpec)

/-- 'loamlaw15.SpacePlays', WHERE WHAT IT READS IS OF BULK AT MOST 1048576: true; the input reads as it did. -/
def spacePlaysUptoRow : OpenClaim := { program := "ytlllabaipfmnjaa", sum := "7423b58d48fdca553fe1a469ea0eeebd7df2448df5cf6b62a9447ada7bd1f4c5", func := "loam/loamlaw15.SpacePlays", spec := "spacePlays", apart := false, narrowed := true }
def SpacePlaysUptoSaid : Prop := spacePlaysUptoRow.holds Try.pinned (OpenSpec.upto spacePlaysSpec)

/-- 'loamlaw15.SpaceWords', WHERE WHAT IT READS IS OF BULK AT MOST 1048576: true; the input reads as it did. -/
def spaceWordsUptoRow : OpenClaim := { program := "ytlllabaipfmnjaa", sum := "7423b58d48fdca553fe1a469ea0eeebd7df2448df5cf6b62a9447ada7bd1f4c5", func := "loam/loamlaw15.SpaceWords", spec := "spaceWords", apart := false, narrowed := true }
def SpaceWordsUptoSaid : Prop := spaceWordsUptoRow.holds Try.pinned (OpenSpec.upto spaceWordsSpec)

end Rows
end Go.Proofs.Ytlllabaipfmnjaa
