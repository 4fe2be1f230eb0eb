/-
  No cell of these rows narrows 'for every input' (looked for: loops, veiled, ifaces, maps, wideKeys, modest, calm, conditions, laid).
  DERIVED. THE GIVEN ROWS OF THIS SEAT. 5 by the template 'for every input the law returns true; each argument reads behind the call as it read before'; 0 by the template 'total and deterministic' (their statements: YthhcmoknppljpaaTotals.lean).
  GIVEN WITH THE SEED: the statements are not yours to turn. If you find one false, say at which input.
  Laid BY PROGRAM, IN A SANDBOX (cutbox-rows.mjs): the forced cells as the released guide's own fill.sh prints them over the translation 93a1693f5c69284a… (all of the seat's roots in one cut). By AI agents, Wed Nov 11 2026. No macro, syntax, notation, axiom, sorry.
-/
import Derived.Test.YthhcmoknppljpaaChecked
import GoSem.Claim
import GoSem.ClaimJoined
import GoSem.ClaimMapViews
import Derived.JoinedTies
import Derived.KernelRfl
namespace Go.Proofs.Ythhcmoknppljpaa
/- THE CELL 'sum', in the pinned program and in every row, IS THE sha256 OF THE DUMP (.gsa) THAT YthhcmoknppljpaaProg.lean LOADS. Nothing in Lean hashes anything: it is a label: what it is worth is what the hold of that sum in a sandbox is worth. -/
noncomputable def Try.pinned : Pinned := { name := "ythhcmoknppljpaa", sum := "93a1693f5c69284a723802851c44900117bb47dab17ebe73a0fd3d27e2adcfbe", checked := Try.checked }
namespace Rows
def none {H : Type} : Left H := { results := [], args := [] }

/-- 'loamlaw17.GraphAny': WHATEVER THE INPUT: true; the input reads as it did. -/
def graphAnySpec : ChangeSpec := { name := "graphAny", fn := fun _ => fun
  | [d1, d2] => { results := [.lit (.bool true)], args := [d1, d2] }
  | _ => none }
def graphAnyRow : OpenClaim := { program := "ythhcmoknppljpaa", sum := "93a1693f5c69284a723802851c44900117bb47dab17ebe73a0fd3d27e2adcfbe", func := "loam/loamlaw17.GraphAny", spec := "graphAny", inPlace := ["internal/bytealg.IndexByteString", "internal/bytealg.IndexString"], unfollowed := true, recurses := true, named := ["internal/bytealg.MaxLen"], apart := false }
def GraphAnySaid : Prop := graphAnyRow.holds Try.pinned (OpenSpec.ofChange graphAnySpec)

/-- ITS FALSE NEIGHBOUR: 'it returns false'. Refute it at one input. -/
def graphAnyWrong : ChangeSpec := { name := "graphAny", fn := fun _ => fun
  | [d1, d2] => { results := [.lit (.bool false)], args := [d1, d2] }
  | _ => none }
def GraphAnyWrongFalsely : Prop := graphAnyRow.holds Try.pinned (OpenSpec.ofChange graphAnyWrong)

/-- 'loamlaw17.GraphTwo': WHATEVER THE INPUT: true; the input reads as it did. -/
def graphTwoSpec : ChangeSpec := { name := "graphTwo", fn := fun _ => fun
  | [d1, d2] => { results := [.lit (.bool true)], args := [d1, d2] }
  | _ => none }
def graphTwoRow : OpenClaim := { program := "ythhcmoknppljpaa", sum := "93a1693f5c69284a723802851c44900117bb47dab17ebe73a0fd3d27e2adcfbe", func := "loam/loamlaw17.GraphTwo", spec := "graphTwo", inPlace := ["internal/bytealg.IndexByteString", "internal/bytealg.IndexString"], unfollowed := true, recurses := true, named := ["internal/bytealg.MaxLen"], apart := false }
def GraphTwoSaid : Prop := graphTwoRow.holds Try.pinned (OpenSpec.ofChange graphTwoSpec)

/-- ITS FALSE NEIGHBOUR: 'it returns false'. Refute it at one input. -/
def graphTwoWrong : ChangeSpec := { name := "graphTwo", fn := fun _ => fun
  | [d1, d2] => { results := [.lit (.bool false)], args := [d1, d2] }
  | _ => none }
def GraphTwoWrongFalsely : Prop := graphTwoRow.holds Try.pinned (OpenSpec.ofChange graphTwoWrong)

/-- 'loamlaw17.GraphTrims': WHATEVER THE INPUT: true; the input reads as it did. -/
def graphTrimsSpec : ChangeSpec := { name := "graphTrims", fn := fun _ => fun
  | [d1, d2] => { results := [.lit (.bool true)], args := [d1, d2] }
  | _ => none }
def graphTrimsRow : OpenClaim := { program := "ythhcmoknppljpaa", sum := "93a1693f5c69284a723802851c44900117bb47dab17ebe73a0fd3d27e2adcfbe", func := "loam/loamlaw17.GraphTrims", spec := "graphTrims", inPlace := ["internal/bytealg.IndexByteString", "internal/bytealg.IndexString"], unfollowed := true, recurses := true, named := ["internal/bytealg.MaxLen"], apart := false }
def GraphTrimsSaid : Prop := graphTrimsRow.holds Try.pinned (OpenSpec.ofChange graphTrimsSpec)

/-- ITS FALSE NEIGHBOUR: 'it returns false'. Refute it at one input. -/
def graphTrimsWrong : ChangeSpec := { name := "graphTrims", fn := fun _ => fun
  | [d1, d2] => { results := [.lit (.bool false)], args := [d1, d2] }
  | _ => none }
def GraphTrimsWrongFalsely : Prop := graphTrimsRow.holds Try.pinned (OpenSpec.ofChange graphTrimsWrong)

/-- 'loamlaw17.GraphChains': WHATEVER THE INPUT: true; the input reads as it did. -/
def graphChainsSpec : ChangeSpec := { name := "graphChains", fn := fun _ => fun
  | [d1, d2] => { results := [.lit (.bool true)], args := [d1, d2] }
  | _ => none }
def graphChainsRow : OpenClaim := { program := "ythhcmoknppljpaa", sum := "93a1693f5c69284a723802851c44900117bb47dab17ebe73a0fd3d27e2adcfbe", func := "loam/loamlaw17.GraphChains", spec := "graphChains", inPlace := ["internal/bytealg.IndexByteString", "internal/bytealg.IndexString"], unfollowed := true, recurses := true, named := ["internal/bytealg.MaxLen"], apart := false }
def GraphChainsSaid : Prop := graphChainsRow.holds Try.pinned (OpenSpec.ofChange graphChainsSpec)

/-- ITS FALSE NEIGHBOUR: 'it returns false'. Refute it at one input. -/
def graphChainsWrong : ChangeSpec := { name := "graphChains", fn := fun _ => fun
  | [d1, d2] => { results := [.lit (.bool false)], args := [d1, d2] }
  | _ => none }
def GraphChainsWrongFalsely : Prop := graphChainsRow.holds Try.pinned (OpenSpec.ofChange graphChainsWrong)

/-- 'loamlaw17.GraphLimits': WHATEVER THE INPUT: true; the input reads as it did. -/
def graphLimitsSpec : ChangeSpec := { name := "graphLimits", fn := fun _ => fun
  | [d1, d2, d3] => { results := [.lit (.bool true)], args := [d1, d2, d3] }
  | _ => none }
def graphLimitsRow : OpenClaim := { program := "ythhcmoknppljpaa", sum := "93a1693f5c69284a723802851c44900117bb47dab17ebe73a0fd3d27e2adcfbe", func := "loam/loamlaw17.GraphLimits", spec := "graphLimits", inPlace := ["internal/bytealg.IndexByteString", "internal/bytealg.IndexString"], unfollowed := true, recurses := true, named := ["internal/bytealg.MaxLen"], apart := false }
def GraphLimitsSaid : Prop := graphLimitsRow.holds Try.pinned (OpenSpec.ofChange graphLimitsSpec)

/-- ITS FALSE NEIGHBOUR: 'it returns false'. Refute it at one input. -/
def graphLimitsWrong : ChangeSpec := { name := "graphLimits", fn := fun _ => fun
  | [d1, d2, d3] => { results := [.lit (.bool false)], args := [d1, d2, d3] }
  | _ => none }
def GraphLimitsWrongFalsely : Prop := graphLimitsRow.holds Try.pinned (OpenSpec.ofChange graphLimitsWrong)

/- THE SECOND FORM. 'bulk': how many values and letters a reading holds, each counted each time it is reached (what is shared counts as often as it is met; a slice's spare places count too). A statement '..UptoSaid' is the law's where the arguments, and the package variables that the reading takes, are together of bulk at most 1048576: NARROWER than '..Said'. Prove '..Said' where nothing that the law and all that it calls make is longer than what came in: it says more and counts as full. Else prove '..UptoSaid'. A law counts once. -/
mutual
def uptoBulk {H : Type} : DataW H → Nat
  | .lit (.string bytes) => bytes.length + 1
  | .lit _ => 1
  | .nil => 1
  | .ptr d => uptoBulk d + 1
  | .slice elems spare => uptoBulkAll elems + uptoBulkAll spare + 1
  | .agg parts => uptoBulkAll parts + 1
  | .iface _ d => uptoBulk d + 1
  | .map entries => uptoBulkEntries entries + 1
  | .held _ => 1
def uptoBulkAll {H : Type} : List (DataW H) → Nat
  | [] => 0
  | d :: r => uptoBulk d + uptoBulkAll r
def uptoBulkEntries {H : Type} : List (Lit × DataW H) → Nat
  | [] => 0
  | x :: r => uptoBulkEntry x + uptoBulkEntries r
def uptoBulkEntry {H : Type} : Lit × DataW H → Nat
  | (.string bytes, d) => bytes.length + uptoBulk d + 1
  | (_, d) => uptoBulk d + 1
 end
def uptoSmall : (H : Type) → List (DataW H) → Bool := fun _ ds => decide (uptoBulkAll ds ≤ 1048576)
def OpenSpec.upto (s : _root_.Go.ChangeSpec) : _root_.Go.OpenSpec := { _root_.Go.OpenSpec.ofChange s with cond := some uptoSmall }

/-- 'loamlaw17.GraphAny', WHERE WHAT IT READS IS OF BULK AT MOST 1048576: true; the input reads as it did. -/
def graphAnyUptoRow : OpenClaim := { program := "ythhcmoknppljpaa", sum := "93a1693f5c69284a723802851c44900117bb47dab17ebe73a0fd3d27e2adcfbe", func := "loam/loamlaw17.GraphAny", spec := "graphAny", inPlace := ["internal/bytealg.IndexByteString", "internal/bytealg.IndexString"], unfollowed := true, recurses := true, named := ["internal/bytealg.MaxLen"], apart := false, narrowed := true }
def GraphAnyUptoSaid : Prop := graphAnyUptoRow.holds Try.pinned (OpenSpec.upto graphAnySpec)

/-- 'loamlaw17.GraphTwo', WHERE WHAT IT READS IS OF BULK AT MOST 1048576: true; the input reads as it did. -/
def graphTwoUptoRow : OpenClaim := { program := "ythhcmoknppljpaa", sum := "93a1693f5c69284a723802851c44900117bb47dab17ebe73a0fd3d27e2adcfbe", func := "loam/loamlaw17.GraphTwo", spec := "graphTwo", inPlace := ["internal/bytealg.IndexByteString", "internal/bytealg.IndexString"], unfollowed := true, recurses := true, named := ["internal/bytealg.MaxLen"], apart := false, narrowed := true }
def GraphTwoUptoSaid : Prop := graphTwoUptoRow.holds Try.pinned (OpenSpec.upto graphTwoSpec)

/-- 'loamlaw17.GraphTrims', WHERE WHAT IT READS IS OF BULK AT MOST 1048576: true; the input reads as it did. -/
def graphTrimsUptoRow : OpenClaim := { program := "ythhcmoknppljpaa", sum := "93a1693f5c69284a723802851c44900117bb47dab17ebe73a0fd3d27e2adcfbe", func := "loam/loamlaw17.GraphTrims", spec := "graphTrims", inPlace := ["internal/bytealg.IndexByteString", "internal/bytealg.IndexString"], unfollowed := true, recurses := true, named := ["internal/bytealg.MaxLen"], apart := false, narrowed := true }
def GraphTrimsUptoSaid : Prop := graphTrimsUptoRow.holds Try.pinned (OpenSpec.upto graphTrimsSpec)

/-- 'loamlaw17.GraphChains', WHERE WHAT IT READS IS OF BULK AT MOST 1048576: true; the input reads as it did. -/
def graphChainsUptoRow : OpenClaim := { program := "ythhcmoknppljpaa", sum := "93a1693f5c69284a723802851c44900117bb47dab17ebe73a0fd3d27e2adcfbe", func := "loam/loamlaw17.GraphChains", spec := "graphChains", inPlace := ["internal/bytealg.IndexByteString", "internal/bytealg.IndexString"], unfollowed := true, recurses := true, named := ["internal/bytealg.MaxLen"], apart := false, narrowed := true }
def GraphChainsUptoSaid : Prop := graphChainsUptoRow.holds Try.pinned (OpenSpec.upto graphChainsSpec)

/-- 'loamlaw17.GraphLimits', WHERE WHAT IT READS IS OF BULK AT MOST 1048576: true; the input reads as it did. -/
def graphLimitsUptoRow : OpenClaim := { program := "ythhcmoknppljpaa", sum := "93a1693f5c69284a723802851c44900117bb47dab17ebe73a0fd3d27e2adcfbe", func := "loam/loamlaw17.GraphLimits", spec := "graphLimits", inPlace := ["internal/bytealg.IndexByteString", "internal/bytealg.IndexString"], unfollowed := true, recurses := true, named := ["internal/bytealg.MaxLen"], apart := false, narrowed := true }
def GraphLimitsUptoSaid : Prop := graphLimitsUptoRow.holds Try.pinned (OpenSpec.upto graphLimitsSpec)

end Rows
end Go.Proofs.Ythhcmoknppljpaa
