/-
  No cell of these rows narrows 'for every input' (looked for: loops, veiled, ifaces, maps, wideKeys, modest, calm, conditions, laid).
  DERIVED. THE GIVEN ROWS OF THIS SEAT. 12 by the template 'for every input the law returns true; each argument reads behind the call as it read before'; 0 by the template 'total and deterministic' (their statements: YtlijgnekpggejaaTotals.lean).
  GIVEN WITH THE SEED: the statements are not yours to turn. If you find one false, say at which input.
  Laid BY PROGRAM, IN A SANDBOX (cutbox-rows.mjs): the forced cells as the released guide's own fill.sh prints them over the translation 83f00b5c2cd7f563… (all of the seat's roots in one cut). By AI agents, Wed Nov 11 2026. No macro, syntax, notation, axiom, sorry.
-/
import Derived.Test.YtlijgnekpggejaaChecked
import GoSem.Claim
import GoSem.ClaimJoined
import GoSem.ClaimMapViews
import Derived.JoinedTies
import Derived.KernelRfl
namespace Go.Proofs.Ytlijgnekpggejaa
/- THE CELL 'sum', in the pinned program and in every row, IS THE sha256 OF THE DUMP (.gsa) THAT YtlijgnekpggejaaProg.lean LOADS. Nothing in Lean hashes anything: it is a label: what it is worth is what the hold of that sum in a sandbox is worth. -/
noncomputable def Try.pinned : Pinned := { name := "ytlijgnekpggejaa", sum := "83f00b5c2cd7f5634eb3741b5ab17db8da1e2e473aa13ba41a67b2ec4f564ded", checked := Try.checked }
namespace Rows
def none {H : Type} : Left H := { results := [], args := [] }

/-- 'loamlaw1.BitsBytes': WHATEVER THE INPUT: true; the input reads as it did. -/
def bitsBytesSpec : ChangeSpec := { name := "bitsBytes", fn := fun _ => fun
  | [d1, d2, d3, d4] => { results := [.lit (.bool true)], args := [d1, d2, d3, d4] }
  | _ => none }
def bitsBytesRow : OpenClaim := { program := "ytlijgnekpggejaa", sum := "83f00b5c2cd7f5634eb3741b5ab17db8da1e2e473aa13ba41a67b2ec4f564ded", func := "loam/loamlaw1.BitsBytes", spec := "bitsBytes", apart := false }
def BitsBytesSaid : Prop := bitsBytesRow.holds Try.pinned (OpenSpec.ofChange bitsBytesSpec)

/-- ITS FALSE NEIGHBOUR: 'it returns false'. Refute it at one input. -/
def bitsBytesWrong : ChangeSpec := { name := "bitsBytes", fn := fun _ => fun
  | [d1, d2, d3, d4] => { results := [.lit (.bool false)], args := [d1, d2, d3, d4] }
  | _ => none }
def BitsBytesWrongFalsely : Prop := bitsBytesRow.holds Try.pinned (OpenSpec.ofChange bitsBytesWrong)

/-- 'loamlaw1.BitsSigns': WHATEVER THE INPUT: true; the input reads as it did. -/
def bitsSignsSpec : ChangeSpec := { name := "bitsSigns", fn := fun _ => fun
  | [d1, d2] => { results := [.lit (.bool true)], args := [d1, d2] }
  | _ => none }
def bitsSignsRow : OpenClaim := { program := "ytlijgnekpggejaa", sum := "83f00b5c2cd7f5634eb3741b5ab17db8da1e2e473aa13ba41a67b2ec4f564ded", func := "loam/loamlaw1.BitsSigns", spec := "bitsSigns", apart := false }
def BitsSignsSaid : Prop := bitsSignsRow.holds Try.pinned (OpenSpec.ofChange bitsSignsSpec)

/-- ITS FALSE NEIGHBOUR: 'it returns false'. Refute it at one input. -/
def bitsSignsWrong : ChangeSpec := { name := "bitsSigns", fn := fun _ => fun
  | [d1, d2] => { results := [.lit (.bool false)], args := [d1, d2] }
  | _ => none }
def BitsSignsWrongFalsely : Prop := bitsSignsRow.holds Try.pinned (OpenSpec.ofChange bitsSignsWrong)

/-- 'loamlaw1.BitsFields': WHATEVER THE INPUT: true; the input reads as it did. -/
def bitsFieldsSpec : ChangeSpec := { name := "bitsFields", fn := fun _ => fun
  | [d1, d2, d3, d4] => { results := [.lit (.bool true)], args := [d1, d2, d3, d4] }
  | _ => none }
def bitsFieldsRow : OpenClaim := { program := "ytlijgnekpggejaa", sum := "83f00b5c2cd7f5634eb3741b5ab17db8da1e2e473aa13ba41a67b2ec4f564ded", func := "loam/loamlaw1.BitsFields", spec := "bitsFields", apart := false }
def BitsFieldsSaid : Prop := bitsFieldsRow.holds Try.pinned (OpenSpec.ofChange bitsFieldsSpec)

/-- ITS FALSE NEIGHBOUR: 'it returns false'. Refute it at one input. -/
def bitsFieldsWrong : ChangeSpec := { name := "bitsFields", fn := fun _ => fun
  | [d1, d2, d3, d4] => { results := [.lit (.bool false)], args := [d1, d2, d3, d4] }
  | _ => none }
def BitsFieldsWrongFalsely : Prop := bitsFieldsRow.holds Try.pinned (OpenSpec.ofChange bitsFieldsWrong)

/-- 'loamlaw1.BitsTurns': WHATEVER THE INPUT: true; the input reads as it did. -/
def bitsTurnsSpec : ChangeSpec := { name := "bitsTurns", fn := fun _ => fun
  | [d1, d2, d3] => { results := [.lit (.bool true)], args := [d1, d2, d3] }
  | _ => none }
def bitsTurnsRow : OpenClaim := { program := "ytlijgnekpggejaa", sum := "83f00b5c2cd7f5634eb3741b5ab17db8da1e2e473aa13ba41a67b2ec4f564ded", func := "loam/loamlaw1.BitsTurns", spec := "bitsTurns", apart := false }
def BitsTurnsSaid : Prop := bitsTurnsRow.holds Try.pinned (OpenSpec.ofChange bitsTurnsSpec)

/-- ITS FALSE NEIGHBOUR: 'it returns false'. Refute it at one input. -/
def bitsTurnsWrong : ChangeSpec := { name := "bitsTurns", fn := fun _ => fun
  | [d1, d2, d3] => { results := [.lit (.bool false)], args := [d1, d2, d3] }
  | _ => none }
def BitsTurnsWrongFalsely : Prop := bitsTurnsRow.holds Try.pinned (OpenSpec.ofChange bitsTurnsWrong)

/-- 'loamlaw1.BitsMerge': WHATEVER THE INPUT: true; the input reads as it did. -/
def bitsMergeSpec : ChangeSpec := { name := "bitsMerge", fn := fun _ => fun
  | [d1, d2] => { results := [.lit (.bool true)], args := [d1, d2] }
  | _ => none }
def bitsMergeRow : OpenClaim := { program := "ytlijgnekpggejaa", sum := "83f00b5c2cd7f5634eb3741b5ab17db8da1e2e473aa13ba41a67b2ec4f564ded", func := "loam/loamlaw1.BitsMerge", spec := "bitsMerge", apart := false }
def BitsMergeSaid : Prop := bitsMergeRow.holds Try.pinned (OpenSpec.ofChange bitsMergeSpec)

/-- ITS FALSE NEIGHBOUR: 'it returns false'. Refute it at one input. -/
def bitsMergeWrong : ChangeSpec := { name := "bitsMerge", fn := fun _ => fun
  | [d1, d2] => { results := [.lit (.bool false)], args := [d1, d2] }
  | _ => none }
def BitsMergeWrongFalsely : Prop := bitsMergeRow.holds Try.pinned (OpenSpec.ofChange bitsMergeWrong)

/-- 'loamlaw1.BitsParts': WHATEVER THE INPUT: true; the input reads as it did. -/
def bitsPartsSpec : ChangeSpec := { name := "bitsParts", fn := fun _ => fun
  | [d1, d2, d3] => { results := [.lit (.bool true)], args := [d1, d2, d3] }
  | _ => none }
def bitsPartsRow : OpenClaim := { program := "ytlijgnekpggejaa", sum := "83f00b5c2cd7f5634eb3741b5ab17db8da1e2e473aa13ba41a67b2ec4f564ded", func := "loam/loamlaw1.BitsParts", spec := "bitsParts", apart := false }
def BitsPartsSaid : Prop := bitsPartsRow.holds Try.pinned (OpenSpec.ofChange bitsPartsSpec)

/-- ITS FALSE NEIGHBOUR: 'it returns false'. Refute it at one input. -/
def bitsPartsWrong : ChangeSpec := { name := "bitsParts", fn := fun _ => fun
  | [d1, d2, d3] => { results := [.lit (.bool false)], args := [d1, d2, d3] }
  | _ => none }
def BitsPartsWrongFalsely : Prop := bitsPartsRow.holds Try.pinned (OpenSpec.ofChange bitsPartsWrong)

/-- 'loamlaw1.BitsNarrow': WHATEVER THE INPUT: true; the input reads as it did. -/
def bitsNarrowSpec : ChangeSpec := { name := "bitsNarrow", fn := fun _ => fun
  | [d1, d2, d3] => { results := [.lit (.bool true)], args := [d1, d2, d3] }
  | _ => none }
def bitsNarrowRow : OpenClaim := { program := "ytlijgnekpggejaa", sum := "83f00b5c2cd7f5634eb3741b5ab17db8da1e2e473aa13ba41a67b2ec4f564ded", func := "loam/loamlaw1.BitsNarrow", spec := "bitsNarrow", apart := false }
def BitsNarrowSaid : Prop := bitsNarrowRow.holds Try.pinned (OpenSpec.ofChange bitsNarrowSpec)

/-- ITS FALSE NEIGHBOUR: 'it returns false'. Refute it at one input. -/
def bitsNarrowWrong : ChangeSpec := { name := "bitsNarrow", fn := fun _ => fun
  | [d1, d2, d3] => { results := [.lit (.bool false)], args := [d1, d2, d3] }
  | _ => none }
def BitsNarrowWrongFalsely : Prop := bitsNarrowRow.holds Try.pinned (OpenSpec.ofChange bitsNarrowWrong)

/-- 'loamlaw13.MemBytes': WHATEVER THE INPUT: true; the input reads as it did. -/
def memBytesSpec : ChangeSpec := { name := "memBytes", fn := fun _ => fun
  | [d1, d2, d3] => { results := [.lit (.bool true)], args := [d1, d2, d3] }
  | _ => none }
def memBytesRow : OpenClaim := { program := "ytlijgnekpggejaa", sum := "83f00b5c2cd7f5634eb3741b5ab17db8da1e2e473aa13ba41a67b2ec4f564ded", func := "loam/loamlaw13.MemBytes", spec := "memBytes", apart := false }
def MemBytesSaid : Prop := memBytesRow.holds Try.pinned (OpenSpec.ofChange memBytesSpec)

/-- ITS FALSE NEIGHBOUR: 'it returns false'. Refute it at one input. -/
def memBytesWrong : ChangeSpec := { name := "memBytes", fn := fun _ => fun
  | [d1, d2, d3] => { results := [.lit (.bool false)], args := [d1, d2, d3] }
  | _ => none }
def MemBytesWrongFalsely : Prop := memBytesRow.holds Try.pinned (OpenSpec.ofChange memBytesWrong)

/-- 'loamlaw13.MemSizes': WHATEVER THE INPUT: true; the input reads as it did. -/
def memSizesSpec : ChangeSpec := { name := "memSizes", fn := fun _ => fun
  | [d] => { results := [.lit (.bool true)], args := [d] }
  | _ => none }
def memSizesRow : OpenClaim := { program := "ytlijgnekpggejaa", sum := "83f00b5c2cd7f5634eb3741b5ab17db8da1e2e473aa13ba41a67b2ec4f564ded", func := "loam/loamlaw13.MemSizes", spec := "memSizes", apart := false }
def MemSizesSaid : Prop := memSizesRow.holds Try.pinned (OpenSpec.ofChange memSizesSpec)

/-- ITS FALSE NEIGHBOUR: 'it returns false'. Refute it at one input. -/
def memSizesWrong : ChangeSpec := { name := "memSizes", fn := fun _ => fun
  | [d] => { results := [.lit (.bool false)], args := [d] }
  | _ => none }
def MemSizesWrongFalsely : Prop := memSizesRow.holds Try.pinned (OpenSpec.ofChange memSizesWrong)

/-- 'loamlaw13.MemMoves': WHATEVER THE INPUT: true; the input reads as it did. -/
def memMovesSpec : ChangeSpec := { name := "memMoves", fn := fun _ => fun
  | [d1, d2, d3, d4] => { results := [.lit (.bool true)], args := [d1, d2, d3, d4] }
  | _ => none }
def memMovesRow : OpenClaim := { program := "ytlijgnekpggejaa", sum := "83f00b5c2cd7f5634eb3741b5ab17db8da1e2e473aa13ba41a67b2ec4f564ded", func := "loam/loamlaw13.MemMoves", spec := "memMoves", apart := false }
def MemMovesSaid : Prop := memMovesRow.holds Try.pinned (OpenSpec.ofChange memMovesSpec)

/-- ITS FALSE NEIGHBOUR: 'it returns false'. Refute it at one input. -/
def memMovesWrong : ChangeSpec := { name := "memMoves", fn := fun _ => fun
  | [d1, d2, d3, d4] => { results := [.lit (.bool false)], args := [d1, d2, d3, d4] }
  | _ => none }
def MemMovesWrongFalsely : Prop := memMovesRow.holds Try.pinned (OpenSpec.ofChange memMovesWrong)

/-- 'loamlaw13.MemPlays': WHATEVER THE INPUT: true; the input reads as it did. -/
def memPlaysSpec : ChangeSpec := { name := "memPlays", fn := fun _ => fun
  | [d1, d2] => { results := [.lit (.bool true)], args := [d1, d2] }
  | _ => none }
def memPlaysRow : OpenClaim := { program := "ytlijgnekpggejaa", sum := "83f00b5c2cd7f5634eb3741b5ab17db8da1e2e473aa13ba41a67b2ec4f564ded", func := "loam/loamlaw13.MemPlays", spec := "memPlays", apart := false }
def MemPlaysSaid : Prop := memPlaysRow.holds Try.pinned (OpenSpec.ofChange memPlaysSpec)

/-- ITS FALSE NEIGHBOUR: 'it returns false'. Refute it at one input. -/
def memPlaysWrong : ChangeSpec := { name := "memPlays", fn := fun _ => fun
  | [d1, d2] => { results := [.lit (.bool false)], args := [d1, d2] }
  | _ => none }
def MemPlaysWrongFalsely : Prop := memPlaysRow.holds Try.pinned (OpenSpec.ofChange memPlaysWrong)

/-- 'loamlaw13.MemFields': WHATEVER THE INPUT: true; the input reads as it did. -/
def memFieldsSpec : ChangeSpec := { name := "memFields", fn := fun _ => fun
  | [d1, d2] => { results := [.lit (.bool true)], args := [d1, d2] }
  | _ => none }
def memFieldsRow : OpenClaim := { program := "ytlijgnekpggejaa", sum := "83f00b5c2cd7f5634eb3741b5ab17db8da1e2e473aa13ba41a67b2ec4f564ded", func := "loam/loamlaw13.MemFields", spec := "memFields", apart := false }
def MemFieldsSaid : Prop := memFieldsRow.holds Try.pinned (OpenSpec.ofChange memFieldsSpec)

/-- ITS FALSE NEIGHBOUR: 'it returns false'. Refute it at one input. -/
def memFieldsWrong : ChangeSpec := { name := "memFields", fn := fun _ => fun
  | [d1, d2] => { results := [.lit (.bool false)], args := [d1, d2] }
  | _ => none }
def MemFieldsWrongFalsely : Prop := memFieldsRow.holds Try.pinned (OpenSpec.ofChange memFieldsWrong)

/- THE SECOND FORM. 'bulk': how many values and letters a reading holds, each counted each time it is reached (what is shared counts as often as it is met; a slice's spare places count too). A statement '..UptoSaid' is the law's where the arguments, and the package variables that the reading takes, are together of bulk at most 1048576: NARROWER than '..Said'. Prove '..Said' where nothing that the law and all that it calls make is longer than what came in: it says more and counts as full. Else prove '..UptoSaid'. A law counts once. -/
mutual
def uptoBulk {H : Type} : DataW H → Nat
  | .lit (.string bytes) => bytes.length + 1
  | .lit _ => 1
  | .nil => 1
  | .ptr d => uptoBulk d + 1
  | .slice elems spare => uptoBulkAll elems + uptoBulkAll spare + 1
  | .agg parts => uptoBulkAll parts + 1
  | .iface _ d => uptoBulk d + 1
  | .map entries => uptoBulkEntries entries + 1
  | .held _ => 1
def uptoBulkAll {H : Type} : List (DataW H) → Nat
  | [] => 0
  | d :: r => uptoBulk d + uptoBulkAll r
def uptoBulkEntries {H : Type} : List (Lit × DataW H) → Nat
  | [] => 0
  | x :: r => uptoBulkEntry x + uptoBulkEntries r
def uptoBulkEntry {H : Type} : Lit × DataW H → Nat
  | (.string bytes, d) => bytes.length + uptoBulk d + 1
  | (_, d) => uptoBulk d + 1
 end
def uptoSmall : (H : Type) → List (DataW H) → Bool := fun _ ds => decide (uptoBulkAll ds ≤ 1048576)
def OpenSpec.upto (s : _root_.Go.ChangeSpec) : _root_.Go.OpenSpec := { _root_.Go.OpenSpec.ofChange s with cond := some uptoSmall }

/-- 'loamlaw1.BitsBytes', WHERE WHAT IT READS IS OF BULK AT MOST 1048576: true; the input reads as it did. -/
def bitsBytesUptoRow : OpenClaim := { program := "ytlijgnekpggejaa", sum := "83f00b5c2cd7f5634eb3741b5ab17db8da1e2e473aa13ba41a67b2ec4f564ded", func := "loam/loamlaw1.BitsBytes", spec := "bitsBytes", apart := false, narrowed := true }
def BitsBytesUptoSaid : Prop := bitsBytesUptoRow.holds Try.pinned (OpenSpec.upto bitsBytesSpec)

/-- 'loamlaw1.BitsSigns', WHERE WHAT IT READS IS OF BULK AT MOST 1048576: true; the input reads as it did. -/
def bitsSignsUptoRow : OpenClaim := { program := "ytlijgnekpggejaa", sum := "83f00b5c2cd7f5634eb3741b5ab17db8da1e2e473aa13ba41a67b2ec4f564ded", func := "loam/loamlaw1.BitsSigns", spec := "bitsSigns", apart := false, narrowed := true }
def BitsSignsUptoSaid : Prop := bitsSignsUptoRow.holds Try.pinned (OpenSpec.upto bitsSignsSpec)

/-- 'loamlaw1.BitsFields', WHERE WHAT IT READS IS OF BULK AT MOST 1048576: true; the input reads as it did. -/
def bitsFieldsUptoRow : OpenClaim := { program := "ytlijgnekpggejaa", sum := "83f00b5c2cd7f5634eb3741b5ab17db8da1e2e473aa13ba41a67b2ec4f564ded", func := "loam/loamlaw1.BitsFields", spec := "bitsFields", apart := false, narrowed := true }
def BitsFieldsUptoSaid : Prop := bitsFieldsUptoRow.holds Try.pinned (OpenSpec.upto bitsFieldsSpec)

/-- 'loamlaw1.BitsTurns', WHERE WHAT IT READS IS OF BULK AT MOST 1048576: true; the input reads as it did. -/
def bitsTurnsUptoRow : OpenClaim := { program := "ytlijgnekpggejaa", sum := "83f00b5c2cd7f5634eb3741b5ab17db8da1e2e473aa13ba41a67b2ec4f564ded", func := "loam/loamlaw1.BitsTurns", spec := "bitsTurns", apart := false, narrowed := true }
def BitsTurnsUptoSaid : Prop := bitsTurnsUptoRow.holds Try.pinned (OpenSpec.upto bitsTurnsSpec)

/-- 'loamlaw1.BitsMerge', WHERE WHAT IT READS IS OF BULK AT MOST 1048576: true; the input reads as it did. -/
def bitsMergeUptoRow : OpenClaim := { program := "ytlijgnekpggejaa", sum := "83f00b5c2cd7f5634eb3741b5ab17db8da1e2e473aa13ba41a67b2ec4f564ded", func := "loam/loamlaw1.BitsMerge", spec := "bitsMerge", apart := false, narrowed := true }
def BitsMergeUptoSaid : Prop := bitsMergeUptoRow.holds Try.pinned (OpenSpec.upto bitsMergeSpec)

/-- 'loamlaw1.BitsParts', WHERE WHAT IT READS IS OF BULK AT MOST 1048576: true; the input reads as it did. -/
def bitsPartsUptoRow : OpenClaim := { program := "ytlijgnekpggejaa", sum := "83f00b5c2cd7f5634eb3741b5ab17db8da1e2e473aa13ba41a67b2ec4f564ded", func := "loam/loamlaw1.BitsParts", spec := "bitsParts", apart := false, narrowed := true }
def BitsPartsUptoSaid : Prop := bitsPartsUptoRow.holds Try.pinned (OpenSpec.upto bitsPartsSpec)

/-- 'loamlaw1.BitsNarrow', WHERE WHAT IT READS IS OF BULK AT MOST 1048576: true; the input reads as it did. -/
def bitsNarrowUptoRow : OpenClaim := { program := "ytlijgnekpggejaa", sum := "83f00b5c2cd7f5634eb3741b5ab17db8da1e2e473aa13ba41a67b2ec4f564ded", func := "loam/loamlaw1.BitsNarrow", spec := "bitsNarrow", apart := false, narrowed := true }
def BitsNarrowUptoSaid : Prop := bitsNarrowUptoRow.holds Try.pinned (OpenSpec.upto bitsNarrowSpec)

/-- 'loamlaw13.MemBytes', WHERE WHAT IT READS IS OF BULK AT MOST 1048576: true; the input reads as it did. -/
def memBytesUptoRow : OpenClaim := { program := "ytlijgnekpggejaa", sum := "83f00b5c2cd7f5634eb3741b5ab17db8da1e2e473aa13ba41a67b2ec4f564ded", func := "loam/loamlaw13.MemBytes", spec := "memBytes", apart := false, narrowed := true }
def MemBytesUptoSaid : Prop := memBytesUptoRow.holds Try.pinned (OpenSpec.upto memBytesSpec)

/-- 'loamlaw13.MemSizes', WHERE WHAT IT READS IS OF BULK AT MOST 1048576: true; the input reads as it did. -/
def memSizesUptoRow : OpenClaim := { program := "ytlijgnekpggejaa", sum := "83f00b5c2cd7f5634eb3741b5ab17db8da1e2e473aa13ba41a67b2ec4f564ded", func := "loam/loamlaw13.MemSizes", spec := "memSizes", apart := false, narrowed := true }
def MemSizesUptoSaid : Prop := memSizesUptoRow.holds Try.pinned (OpenSpec.upto memSizesSpec)

/-- 'loamlaw13.MemMoves', WHERE WHAT IT READS IS OF BULK AT MOST 1048576: true; the input reads as it did. -/
def memMovesUptoRow : OpenClaim := { program := "ytlijgnekpggejaa", sum := "83f00b5c2cd7f5634eb3741b5ab17db8da1e2e473aa13ba41a67b2ec4f564ded", func := "loam/loamlaw13.MemMoves", spec := "memMoves", apart := false, narrowed := true }
def MemMovesUptoSaid : Prop := memMovesUptoRow.holds Try.pinned (OpenSpec.upto memMovesSpec)

/-- 'loamlaw13.MemPlays', WHERE WHAT IT READS IS OF BULK AT MOST 1048576: true; the input reads as it did. -/
def memPlaysUptoRow : OpenClaim := { program := "ytlijgnekpggejaa", sum := "83f00b5c2cd7f5634eb3741b5ab17db8da1e2e473aa13ba41a67b2ec4f564ded", func := "loam/loamlaw13.MemPlays", spec := "memPlays", apart := false, narrowed := true }
def MemPlaysUptoSaid : Prop := memPlaysUptoRow.holds Try.pinned (OpenSpec.upto memPlaysSpec)

/-- 'loamlaw13.MemFields', WHERE WHAT IT READS IS OF BULK AT MOST 1048576: true; the input reads as it did. -/
def memFieldsUptoRow : OpenClaim := { program := "ytlijgnekpggejaa", sum := "83f00b5c2cd7f5634eb3741b5ab17db8da1e2e473aa13ba41a67b2ec4f564ded", func := "loam/loamlaw13.MemFields", spec := "memFields", apart := false, narrowed := true }
def MemFieldsUptoSaid : Prop := memFieldsUptoRow.holds Try.pinned (OpenSpec.upto memFieldsSpec)

end Rows
end Go.Proofs.Ytlijgnekpggejaa
