/-
  No cell of these rows narrows 'for every input' (looked for: loops, veiled, ifaces, maps, wideKeys, modest, calm, conditions, laid).
  DERIVED. THE GIVEN ROWS OF THIS SEAT. 4 by the template 'for every input the law returns true; each argument reads behind the call as it read before'; 0 by the template 'total and deterministic' (their statements: YtknineilpenbnaaTotals.lean).
  GIVEN WITH THE SEED: the statements are not yours to turn. If you find one false, say at which input.
  Laid BY PROGRAM, IN A SANDBOX (cutbox-rows.mjs): the forced cells as the released guide's own fill.sh prints them over the translation 552a9a1d42e58f85… (all of the seat's roots in one cut). By AI agents, Wed Nov 11 2026. No macro, syntax, notation, axiom, sorry.
-/
import Derived.Test.YtknineilpenbnaaChecked
import GoSem.Claim
import GoSem.ClaimJoined
import GoSem.ClaimMapViews
import Derived.JoinedTies
import Derived.KernelRfl
namespace Go.Proofs.Ytknineilpenbnaa
/- THE CELL 'sum', in the pinned program and in every row, IS THE sha256 OF THE DUMP (.gsa) THAT YtknineilpenbnaaProg.lean LOADS. Nothing in Lean hashes anything: it is a label: what it is worth is what the hold of that sum in a sandbox is worth. -/
noncomputable def Try.pinned : Pinned := { name := "ytknineilpenbnaa", sum := "552a9a1d42e58f8574b89f5665678aa337d7be19870daca64c7eb31267e2945c", checked := Try.checked }
namespace Rows
def none {H : Type} : Left H := { results := [], args := [] }

/-- 'loamlaw8.RecordBack': WHATEVER THE INPUT: true; the input reads as it did. -/
def recordBackSpec : ChangeSpec := { name := "recordBack", fn := fun _ => fun
  | [d] => { results := [.lit (.bool true)], args := [d] }
  | _ => none }
def recordBackRow : OpenClaim := { program := "ytknineilpenbnaa", sum := "552a9a1d42e58f8574b89f5665678aa337d7be19870daca64c7eb31267e2945c", func := "loam/loamlaw8.RecordBack", spec := "recordBack", apart := false }
def RecordBackSaid : Prop := recordBackRow.holds Try.pinned (OpenSpec.ofChange recordBackSpec)

/-- ITS FALSE NEIGHBOUR: 'it returns false'. Refute it at one input. -/
def recordBackWrong : ChangeSpec := { name := "recordBack", fn := fun _ => fun
  | [d] => { results := [.lit (.bool false)], args := [d] }
  | _ => none }
def RecordBackWrongFalsely : Prop := recordBackRow.holds Try.pinned (OpenSpec.ofChange recordBackWrong)

/-- 'loamlaw8.RecordCuts': WHATEVER THE INPUT: true; the input reads as it did. -/
def recordCutsSpec : ChangeSpec := { name := "recordCuts", fn := fun _ => fun
  | [d1, d2, d3] => { results := [.lit (.bool true)], args := [d1, d2, d3] }
  | _ => none }
def recordCutsRow : OpenClaim := { program := "ytknineilpenbnaa", sum := "552a9a1d42e58f8574b89f5665678aa337d7be19870daca64c7eb31267e2945c", func := "loam/loamlaw8.RecordCuts", spec := "recordCuts", apart := false }
def RecordCutsSaid : Prop := recordCutsRow.holds Try.pinned (OpenSpec.ofChange recordCutsSpec)

/-- ITS FALSE NEIGHBOUR: 'it returns false'. Refute it at one input. -/
def recordCutsWrong : ChangeSpec := { name := "recordCuts", fn := fun _ => fun
  | [d1, d2, d3] => { results := [.lit (.bool false)], args := [d1, d2, d3] }
  | _ => none }
def RecordCutsWrongFalsely : Prop := recordCutsRow.holds Try.pinned (OpenSpec.ofChange recordCutsWrong)

/-- 'loamlaw8.RecordLimits': WHATEVER THE INPUT: true; the input reads as it did. -/
def recordLimitsSpec : ChangeSpec := { name := "recordLimits", fn := fun _ => fun
  | [d1, d2, d3] => { results := [.lit (.bool true)], args := [d1, d2, d3] }
  | _ => none }
def recordLimitsRow : OpenClaim := { program := "ytknineilpenbnaa", sum := "552a9a1d42e58f8574b89f5665678aa337d7be19870daca64c7eb31267e2945c", func := "loam/loamlaw8.RecordLimits", spec := "recordLimits", apart := false }
def RecordLimitsSaid : Prop := recordLimitsRow.holds Try.pinned (OpenSpec.ofChange recordLimitsSpec)

/-- ITS FALSE NEIGHBOUR: 'it returns false'. Refute it at one input. -/
def recordLimitsWrong : ChangeSpec := { name := "recordLimits", fn := fun _ => fun
  | [d1, d2, d3] => { results := [.lit (.bool false)], args := [d1, d2, d3] }
  | _ => none }
def RecordLimitsWrongFalsely : Prop := recordLimitsRow.holds Try.pinned (OpenSpec.ofChange recordLimitsWrong)

/-- 'loamlaw8.RecordRows': WHATEVER THE INPUT: true; the input reads as it did. -/
def recordRowsSpec : ChangeSpec := { name := "recordRows", fn := fun _ => fun
  | [d] => { results := [.lit (.bool true)], args := [d] }
  | _ => none }
def recordRowsRow : OpenClaim := { program := "ytknineilpenbnaa", sum := "552a9a1d42e58f8574b89f5665678aa337d7be19870daca64c7eb31267e2945c", func := "loam/loamlaw8.RecordRows", spec := "recordRows", apart := false }
def RecordRowsSaid : Prop := recordRowsRow.holds Try.pinned (OpenSpec.ofChange recordRowsSpec)

/-- ITS FALSE NEIGHBOUR: 'it returns false'. Refute it at one input. -/
def recordRowsWrong : ChangeSpec := { name := "recordRows", fn := fun _ => fun
  | [d] => { results := [.lit (.bool false)], args := [d] }
  | _ => none }
def RecordRowsWrongFalsely : Prop := recordRowsRow.holds Try.pinned (OpenSpec.ofChange recordRowsWrong)

/- THE SECOND FORM. 'bulk': how many values and letters a reading holds, each counted each time it is reached (what is shared counts as often as it is met; a slice's spare places count too). A statement '..UptoSaid' is the law's where the arguments, and the package variables that the reading takes, are together of bulk at most 1048576: NARROWER than '..Said'. Prove '..Said' where nothing that the law and all that it calls make is longer than what came in: it says more and counts as full. Else prove '..UptoSaid'. A law counts once. -/
mutual
def uptoBulk {H : Type} : DataW H → Nat
  | .lit (.string bytes) => bytes.length + 1
  | .lit _ => 1
  | .nil => 1
  | .ptr d => uptoBulk d + 1
  | .slice elems spare => uptoBulkAll elems + uptoBulkAll spare + 1
  | .agg parts => uptoBulkAll parts + 1
  | .iface _ d => uptoBulk d + 1
  | .map entries => uptoBulkEntries entries + 1
  | .held _ => 1
def uptoBulkAll {H : Type} : List (DataW H) → Nat
  | [] => 0
  | d :: r => uptoBulk d + uptoBulkAll r
def uptoBulkEntries {H : Type} : List (Lit × DataW H) → Nat
  | [] => 0
  | x :: r => uptoBulkEntry x + uptoBulkEntries r
def uptoBulkEntry {H : Type} : Lit × DataW H → Nat
  | (.string bytes, d) => bytes.length + uptoBulk d + 1
  | (_, d) => uptoBulk d + 1
 end
def uptoSmall : (H : Type) → List (DataW H) → Bool := fun _ ds => decide (uptoBulkAll ds ≤ 1048576)
def OpenSpec.upto (s : _root_.Go.ChangeSpec) : _root_.Go.OpenSpec := { _root_.Go.OpenSpec.ofChange s with cond := some uptoSmall }

/-- 'loamlaw8.RecordBack', WHERE WHAT IT READS IS OF BULK AT MOST 1048576: true; the input reads as it did. -/
def recordBackUptoRow : OpenClaim := { program := "ytknineilpenbnaa", sum := "552a9a1d42e58f8574b89f5665678aa337d7be19870daca64c7eb31267e2945c", func := "loam/loamlaw8.RecordBack", spec := "recordBack", apart := false, narrowed := true }
def RecordBackUptoSaid : Prop := recordBackUptoRow.holds Try.pinned (OpenSpec.upto recordBackSpec)

/-- 'loamlaw8.RecordCuts', WHERE WHAT IT READS IS OF BULK AT MOST 1048576: true; the input reads as it did. -/
def recordCutsUptoRow : OpenClaim := { program := "ytknineilpenbnaa", sum := "552a9a1d42e58f8574b89f5665678aa337d7be19870daca64c7eb31267e2945c", func := "loam/loamlaw8.RecordCuts", spec := "recordCuts", apart := false, narrowed := true }
def RecordCutsUptoSaid : Prop := recordCutsUptoRow.holds Try.pinned (OpenSpec.upto recordCutsSpec)

/-- 'loamlaw8.RecordLimits', WHERE WHAT IT READS IS OF BULK AT MOST 1048576: true; the input reads as it did. -/
def recordLimitsUptoRow : OpenClaim := { program := "ytknineilpenbnaa", sum := "552a9a1d42e58f8574b89f5665678aa337d7be19870daca64c7eb31267e2945c", func := "loam/loamlaw8.RecordLimits", spec := "recordLimits", apart := false, narrowed := true }
def RecordLimitsUptoSaid : Prop := recordLimitsUptoRow.holds Try.pinned (OpenSpec.upto recordLimitsSpec)

/-- 'loamlaw8.RecordRows', WHERE WHAT IT READS IS OF BULK AT MOST 1048576: true; the input reads as it did. -/
def recordRowsUptoRow : OpenClaim := { program := "ytknineilpenbnaa", sum := "552a9a1d42e58f8574b89f5665678aa337d7be19870daca64c7eb31267e2945c", func := "loam/loamlaw8.RecordRows", spec := "recordRows", apart := false, narrowed := true }
def RecordRowsUptoSaid : Prop := recordRowsUptoRow.holds Try.pinned (OpenSpec.upto recordRowsSpec)

end Rows
end Go.Proofs.Ytknineilpenbnaa
