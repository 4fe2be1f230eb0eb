/-
  No cell of these rows narrows 'for every input' (looked for: loops, veiled, ifaces, maps, wideKeys, modest, calm, conditions, laid).
  DERIVED. THE GIVEN ROWS OF THIS SEAT. 8 by the template 'for every input the law returns true; each argument reads behind the call as it read before'; 0 by the template 'total and deterministic' (their statements: YtdpmidgeipibbaaTotals.lean).
  GIVEN WITH THE SEED: the statements are not yours to turn. If you find one false, say at which input.
  Laid BY PROGRAM, IN A SANDBOX (cutbox-rows.mjs): the forced cells as the released guide's own fill.sh prints them over the translation ba1d1f8e073d5edb… (all of the seat's roots in one cut). By AI agents, Wed Nov 11 2026. No macro, syntax, notation, axiom, sorry.
-/
import Derived.Test.YtdpmidgeipibbaaChecked
import GoSem.Claim
import GoSem.ClaimJoined
import GoSem.ClaimMapViews
import Derived.JoinedTies
import Derived.KernelRfl
namespace Go.Proofs.Ytdpmidgeipibbaa
/- THE CELL 'sum', in the pinned program and in every row, IS THE sha256 OF THE DUMP (.gsa) THAT YtdpmidgeipibbaaProg.lean LOADS. Nothing in Lean hashes anything: it is a label: what it is worth is what the hold of that sum in a sandbox is worth. -/
noncomputable def Try.pinned : Pinned := { name := "ytdpmidgeipibbaa", sum := "ba1d1f8e073d5edbd3111865f5dc81c7d302be00b40b7f6012bfa425944ad07f", checked := Try.checked }
namespace Rows
def none {H : Type} : Left H := { results := [], args := [] }

/-- 'loamlaw26.CheckRight': WHATEVER THE INPUT: true; the input reads as it did. -/
def checkRightSpec : ChangeSpec := { name := "checkRight", fn := fun _ => fun
  | [d] => { results := [.lit (.bool true)], args := [d] }
  | _ => none }
def checkRightRow : OpenClaim := { program := "ytdpmidgeipibbaa", sum := "ba1d1f8e073d5edbd3111865f5dc81c7d302be00b40b7f6012bfa425944ad07f", func := "loam/loamlaw26.CheckRight", spec := "checkRight", inPlace := ["internal/bytealg.IndexByteString", "internal/bytealg.IndexString"], named := ["internal/bytealg.MaxLen"], apart := false }
def CheckRightSaid : Prop := checkRightRow.holds Try.pinned (OpenSpec.ofChange checkRightSpec)

/-- ITS FALSE NEIGHBOUR: 'it returns false'. Refute it at one input. -/
def checkRightWrong : ChangeSpec := { name := "checkRight", fn := fun _ => fun
  | [d] => { results := [.lit (.bool false)], args := [d] }
  | _ => none }
def CheckRightWrongFalsely : Prop := checkRightRow.holds Try.pinned (OpenSpec.ofChange checkRightWrong)

/-- 'loamlaw26.CheckMore': WHATEVER THE INPUT: true; the input reads as it did. -/
def checkMoreSpec : ChangeSpec := { name := "checkMore", fn := fun _ => fun
  | [d1, d2, d3] => { results := [.lit (.bool true)], args := [d1, d2, d3] }
  | _ => none }
def checkMoreRow : OpenClaim := { program := "ytdpmidgeipibbaa", sum := "ba1d1f8e073d5edbd3111865f5dc81c7d302be00b40b7f6012bfa425944ad07f", func := "loam/loamlaw26.CheckMore", spec := "checkMore", inPlace := ["internal/bytealg.IndexByteString", "internal/bytealg.IndexString"], named := ["internal/bytealg.MaxLen"], apart := false }
def CheckMoreSaid : Prop := checkMoreRow.holds Try.pinned (OpenSpec.ofChange checkMoreSpec)

/-- ITS FALSE NEIGHBOUR: 'it returns false'. Refute it at one input. -/
def checkMoreWrong : ChangeSpec := { name := "checkMore", fn := fun _ => fun
  | [d1, d2, d3] => { results := [.lit (.bool false)], args := [d1, d2, d3] }
  | _ => none }
def CheckMoreWrongFalsely : Prop := checkMoreRow.holds Try.pinned (OpenSpec.ofChange checkMoreWrong)

/-- 'loamlaw26.CheckSpaces': WHATEVER THE INPUT: true; the input reads as it did. -/
def checkSpacesSpec : ChangeSpec := { name := "checkSpaces", fn := fun _ => fun
  | [d1, d2, d3] => { results := [.lit (.bool true)], args := [d1, d2, d3] }
  | _ => none }
def checkSpacesRow : OpenClaim := { program := "ytdpmidgeipibbaa", sum := "ba1d1f8e073d5edbd3111865f5dc81c7d302be00b40b7f6012bfa425944ad07f", func := "loam/loamlaw26.CheckSpaces", spec := "checkSpaces", inPlace := ["internal/bytealg.IndexByteString", "internal/bytealg.IndexString"], named := ["internal/bytealg.MaxLen"], apart := false }
def CheckSpacesSaid : Prop := checkSpacesRow.holds Try.pinned (OpenSpec.ofChange checkSpacesSpec)

/-- ITS FALSE NEIGHBOUR: 'it returns false'. Refute it at one input. -/
def checkSpacesWrong : ChangeSpec := { name := "checkSpaces", fn := fun _ => fun
  | [d1, d2, d3] => { results := [.lit (.bool false)], args := [d1, d2, d3] }
  | _ => none }
def CheckSpacesWrongFalsely : Prop := checkSpacesRow.holds Try.pinned (OpenSpec.ofChange checkSpacesWrong)

/-- 'loamlaw23.ImageBack': WHATEVER THE INPUT: true; the input reads as it did. -/
def imageBackSpec : ChangeSpec := { name := "imageBack", fn := fun _ => fun
  | [d] => { results := [.lit (.bool true)], args := [d] }
  | _ => none }
def imageBackRow : OpenClaim := { program := "ytdpmidgeipibbaa", sum := "ba1d1f8e073d5edbd3111865f5dc81c7d302be00b40b7f6012bfa425944ad07f", func := "loam/loamlaw23.ImageBack", spec := "imageBack", inPlace := ["internal/bytealg.IndexByteString", "internal/bytealg.IndexString"], unfollowed := true, recurses := true, named := ["internal/bytealg.MaxLen"], apart := false }
def ImageBackSaid : Prop := imageBackRow.holds Try.pinned (OpenSpec.ofChange imageBackSpec)

/-- ITS FALSE NEIGHBOUR: 'it returns false'. Refute it at one input. -/
def imageBackWrong : ChangeSpec := { name := "imageBack", fn := fun _ => fun
  | [d] => { results := [.lit (.bool false)], args := [d] }
  | _ => none }
def ImageBackWrongFalsely : Prop := imageBackRow.holds Try.pinned (OpenSpec.ofChange imageBackWrong)

/-- 'loamlaw23.ImageWords': WHATEVER THE INPUT: true; the input reads as it did. -/
def imageWordsSpec : ChangeSpec := { name := "imageWords", fn := fun _ => fun
  | [d] => { results := [.lit (.bool true)], args := [d] }
  | _ => none }
def imageWordsRow : OpenClaim := { program := "ytdpmidgeipibbaa", sum := "ba1d1f8e073d5edbd3111865f5dc81c7d302be00b40b7f6012bfa425944ad07f", func := "loam/loamlaw23.ImageWords", spec := "imageWords", inPlace := ["internal/bytealg.IndexByteString", "internal/bytealg.IndexString"], unfollowed := true, recurses := true, named := ["internal/bytealg.MaxLen"], apart := false }
def ImageWordsSaid : Prop := imageWordsRow.holds Try.pinned (OpenSpec.ofChange imageWordsSpec)

/-- ITS FALSE NEIGHBOUR: 'it returns false'. Refute it at one input. -/
def imageWordsWrong : ChangeSpec := { name := "imageWords", fn := fun _ => fun
  | [d] => { results := [.lit (.bool false)], args := [d] }
  | _ => none }
def ImageWordsWrongFalsely : Prop := imageWordsRow.holds Try.pinned (OpenSpec.ofChange imageWordsWrong)

/-- 'loamlaw23.ImageUnlike': WHATEVER THE INPUT: true; the input reads as it did. -/
def imageUnlikeSpec : ChangeSpec := { name := "imageUnlike", fn := fun _ => fun
  | [d1, d2] => { results := [.lit (.bool true)], args := [d1, d2] }
  | _ => none }
def imageUnlikeRow : OpenClaim := { program := "ytdpmidgeipibbaa", sum := "ba1d1f8e073d5edbd3111865f5dc81c7d302be00b40b7f6012bfa425944ad07f", func := "loam/loamlaw23.ImageUnlike", spec := "imageUnlike", inPlace := ["internal/bytealg.IndexByteString", "internal/bytealg.IndexString"], unfollowed := true, recurses := true, named := ["internal/bytealg.MaxLen"], apart := false }
def ImageUnlikeSaid : Prop := imageUnlikeRow.holds Try.pinned (OpenSpec.ofChange imageUnlikeSpec)

/-- ITS FALSE NEIGHBOUR: 'it returns false'. Refute it at one input. -/
def imageUnlikeWrong : ChangeSpec := { name := "imageUnlike", fn := fun _ => fun
  | [d1, d2] => { results := [.lit (.bool false)], args := [d1, d2] }
  | _ => none }
def ImageUnlikeWrongFalsely : Prop := imageUnlikeRow.holds Try.pinned (OpenSpec.ofChange imageUnlikeWrong)

/-- 'loamlaw26.CheckImages': WHATEVER THE INPUT: true; the input reads as it did. -/
def checkImagesSpec : ChangeSpec := { name := "checkImages", fn := fun _ => fun
  | [d] => { results := [.lit (.bool true)], args := [d] }
  | _ => none }
def checkImagesRow : OpenClaim := { program := "ytdpmidgeipibbaa", sum := "ba1d1f8e073d5edbd3111865f5dc81c7d302be00b40b7f6012bfa425944ad07f", func := "loam/loamlaw26.CheckImages", spec := "checkImages", inPlace := ["internal/bytealg.IndexByteString", "internal/bytealg.IndexString"], unfollowed := true, recurses := true, named := ["internal/bytealg.MaxLen"], apart := false }
def CheckImagesSaid : Prop := checkImagesRow.holds Try.pinned (OpenSpec.ofChange checkImagesSpec)

/-- ITS FALSE NEIGHBOUR: 'it returns false'. Refute it at one input. -/
def checkImagesWrong : ChangeSpec := { name := "checkImages", fn := fun _ => fun
  | [d] => { results := [.lit (.bool false)], args := [d] }
  | _ => none }
def CheckImagesWrongFalsely : Prop := checkImagesRow.holds Try.pinned (OpenSpec.ofChange checkImagesWrong)

/-- 'loamlaw23.ImageTrims': WHATEVER THE INPUT: true; the input reads as it did. -/
def imageTrimsSpec : ChangeSpec := { name := "imageTrims", fn := fun _ => fun
  | [d] => { results := [.lit (.bool true)], args := [d] }
  | _ => none }
def imageTrimsRow : OpenClaim := { program := "ytdpmidgeipibbaa", sum := "ba1d1f8e073d5edbd3111865f5dc81c7d302be00b40b7f6012bfa425944ad07f", func := "loam/loamlaw23.ImageTrims", spec := "imageTrims", inPlace := ["internal/bytealg.IndexByteString", "internal/bytealg.IndexString"], unfollowed := true, recurses := true, named := ["internal/bytealg.MaxLen"], apart := false }
def ImageTrimsSaid : Prop := imageTrimsRow.holds Try.pinned (OpenSpec.ofChange imageTrimsSpec)

/-- ITS FALSE NEIGHBOUR: 'it returns false'. Refute it at one input. -/
def imageTrimsWrong : ChangeSpec := { name := "imageTrims", fn := fun _ => fun
  | [d] => { results := [.lit (.bool false)], args := [d] }
  | _ => none }
def ImageTrimsWrongFalsely : Prop := imageTrimsRow.holds Try.pinned (OpenSpec.ofChange imageTrimsWrong)

/- THE SECOND FORM. 'bulk': how many values and letters a reading holds, each counted each time it is reached (what is shared counts as often as it is met; a slice's spare places count too). A statement '..UptoSaid' is the law's where the arguments, and the package variables that the reading takes, are together of bulk at most 1048576: NARROWER than '..Said'. Prove '..Said' where nothing that the law and all that it calls make is longer than what came in: it says more and counts as full. Else prove '..UptoSaid'. A law counts once. -/
mutual
def uptoBulk {H : Type} : DataW H → Nat
  | .lit (.string bytes) => bytes.length + 1
  | .lit _ => 1
  | .nil => 1
  | .ptr d => uptoBulk d + 1
  | .slice elems spare => uptoBulkAll elems + uptoBulkAll spare + 1
  | .agg parts => uptoBulkAll parts + 1
  | .iface _ d => uptoBulk d + 1
  | .map entries => uptoBulkEntries entries + 1
  | .held _ => 1
def uptoBulkAll {H : Type} : List (DataW H) → Nat
  | [] => 0
  | d :: r => uptoBulk d + uptoBulkAll r
def uptoBulkEntries {H : Type} : List (Lit × DataW H) → Nat
  | [] => 0
  | x :: r => uptoBulkEntry x + uptoBulkEntries r
def uptoBulkEntry {H : Type} : Lit × DataW H → Nat
  | (.string bytes, d) => bytes.length + uptoBulk d + 1
  | (_, d) => uptoBulk d + 1
 end
def uptoSmall : (H : Type) → List (DataW H) → Bool := fun _ ds => decide (uptoBulkAll ds ≤ 1048576)
def OpenSpec.upto (s : _root_.Go.ChangeSpec) : _root_.Go.OpenSpec := { _root_.Go.OpenSpec.ofChange s with cond := some uptoSmall }

/-- 'loamlaw26.CheckRight', WHERE WHAT IT READS IS OF BULK AT MOST 1048576: true; the input reads as it did. -/
def checkRightUptoRow : OpenClaim := { program := "ytdpmidgeipibbaa", sum := "ba1d1f8e073d5edbd3111865f5dc81c7d302be00b40b7f6012bfa425944ad07f", func := "loam/loamlaw26.CheckRight", spec := "checkRight", inPlace := ["internal/bytealg.IndexByteString", "internal/bytealg.IndexString"], named := ["internal/bytealg.MaxLen"], apart := false, narrowed := true }
def CheckRightUptoSaid : Prop := checkRightUptoRow.holds Try.pinned (OpenSpec.upto checkRightSpec)

/-- 'loamlaw26.CheckMore', WHERE WHAT IT READS IS OF BULK AT MOST 1048576: true; the input reads as it did. -/
def checkMoreUptoRow : OpenClaim := { program := "ytdpmidgeipibbaa", sum := "ba1d1f8e073d5edbd3111865f5dc81c7d302be00b40b7f6012bfa425944ad07f", func := "loam/loamlaw26.CheckMore", spec := "checkMore", inPlace := ["internal/bytealg.IndexByteString", "internal/bytealg.IndexString"], named := ["internal/bytealg.MaxLen"], apart := false, narrowed := true }
def CheckMoreUptoSaid : Prop := checkMoreUptoRow.holds Try.pinned (OpenSpec.upto checkMoreSpec)

/-- 'loamlaw26.CheckSpaces', WHERE WHAT IT READS IS OF BULK AT MOST 1048576: true; the input reads as it did. -/
def checkSpacesUptoRow : OpenClaim := { program := "ytdpmidgeipibbaa", sum := "ba1d1f8e073d5edbd3111865f5dc81c7d302be00b40b7f6012bfa425944ad07f", func := "loam/loamlaw26.CheckSpaces", spec := "checkSpaces", inPlace := ["internal/bytealg.IndexByteString", "internal/bytealg.IndexString"], named := ["internal/bytealg.MaxLen"], apart := false, narrowed := true }
def CheckSpacesUptoSaid : Prop := checkSpacesUptoRow.holds Try.pinned (OpenSpec.upto checkSpacesSpec)

/-- 'loamlaw23.ImageBack', WHERE WHAT IT READS IS OF BULK AT MOST 1048576: true; the input reads as it did. -/
def imageBackUptoRow : OpenClaim := { program := "ytdpmidgeipibbaa", sum := "ba1d1f8e073d5edbd3111865f5dc81c7d302be00b40b7f6012bfa425944ad07f", func := "loam/loamlaw23.ImageBack", spec := "imageBack", inPlace := ["internal/bytealg.IndexByteString", "internal/bytealg.IndexString"], unfollowed := true, recurses := true, named := ["internal/bytealg.MaxLen"], apart := false, narrowed := true }
def ImageBackUptoSaid : Prop := imageBackUptoRow.holds Try.pinned (OpenSpec.upto imageBackSpec)

/-- 'loamlaw23.ImageWords', WHERE WHAT IT READS IS OF BULK AT MOST 1048576: true; the input reads as it did. -/
def imageWordsUptoRow : OpenClaim := { program := "ytdpmidgeipibbaa", sum := "ba1d1f8e073d5edbd3111865f5dc81c7d302be00b40b7f6012bfa425944ad07f", func := "loam/loamlaw23.ImageWords", spec := "imageWords", inPlace := ["internal/bytealg.IndexByteString", "internal/bytealg.IndexString"], unfollowed := true, recurses := true, named := ["internal/bytealg.MaxLen"], apart := false, narrowed := true }
def ImageWordsUptoSaid : Prop := imageWordsUptoRow.holds Try.pinned (OpenSpec.upto imageWordsSpec)

/-- 'loamlaw23.ImageUnlike', WHERE WHAT IT READS IS OF BULK AT MOST 1048576: true; the input reads as it did. -/
def imageUnlikeUptoRow : OpenClaim := { program := "ytdpmidgeipibbaa", sum := "ba1d1f8e073d5edbd3111865f5dc81c7d302be00b40b7f6012bfa425944ad07f", func := "loam/loamlaw23.ImageUnlike", spec := "imageUnlike", inPlace := ["internal/bytealg.IndexByteString", "internal/bytealg.IndexString"], unfollowed := true, recurses := true, named := ["internal/bytealg.MaxLen"], apart := false, narrowed := true }
def ImageUnlikeUptoSaid : Prop := imageUnlikeUptoRow.holds Try.pinned (OpenSpec.upto imageUnlikeSpec)

/-- 'loamlaw26.CheckImages', WHERE WHAT IT READS IS OF BULK AT MOST 1048576: true; the input reads as it did. -/
def checkImagesUptoRow : OpenClaim := { program := "ytdpmidgeipibbaa", sum := "ba1d1f8e073d5edbd3111865f5dc81c7d302be00b40b7f6012bfa425944ad07f", func := "loam/loamlaw26.CheckImages", spec := "checkImages", inPlace := ["internal/bytealg.IndexByteString", "internal/bytealg.IndexString"], unfollowed := true, recurses := true, named := ["internal/bytealg.MaxLen"], apart := false, narrowed := true }
def CheckImagesUptoSaid : Prop := checkImagesUptoRow.holds Try.pinned (OpenSpec.upto checkImagesSpec)

/-- 'loamlaw23.ImageTrims', WHERE WHAT IT READS IS OF BULK AT MOST 1048576: true; the input reads as it did. -/
def imageTrimsUptoRow : OpenClaim := { program := "ytdpmidgeipibbaa", sum := "ba1d1f8e073d5edbd3111865f5dc81c7d302be00b40b7f6012bfa425944ad07f", func := "loam/loamlaw23.ImageTrims", spec := "imageTrims", inPlace := ["internal/bytealg.IndexByteString", "internal/bytealg.IndexString"], unfollowed := true, recurses := true, named := ["internal/bytealg.MaxLen"], apart := false, narrowed := true }
def ImageTrimsUptoSaid : Prop := imageTrimsUptoRow.holds Try.pinned (OpenSpec.upto imageTrimsSpec)

end Rows
end Go.Proofs.Ytdpmidgeipibbaa
