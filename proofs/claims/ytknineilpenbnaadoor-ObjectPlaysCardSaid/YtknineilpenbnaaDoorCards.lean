/-
  DERIVED. GIVEN WITH THE SEED: THE CARDS: each row of YtknineilpenbnaaDoorRows.lean that lists a variable, with what it lists TIED to the program's text (the seventh form; the later family's looks); each row that meets fmt, with fmt's text TOLD by the authors' own Lean function (tested against real Go, not proved from fmt's source: count such statements apart). THE CARD IS WHAT COUNTS. Prove the row's statement (the work); the ties are given (YtknineilpenbnaaDoorTie.lean); close each card by the builder's one call (the guide's Derived/Test/ToyasCard.lean, 'card_holds'). Laid BY PROGRAM, IN A SANDBOX (cutbox-door.mjs). By AI agents, Wed Nov 11 2026. No macro, syntax, notation, axiom, sorry.
-/
import Derived.Test.YtknineilpenbnaaDoorRows
import GoSem.ClaimSeven
namespace Go.Proofs.YtknineilpenbnaaDoor
namespace Rows

/-- THE TIED CARD OF 'loamlaw16.ObjectApart'. -/
def objectApartCard : Claim7 := { stood := { row := objectApartRow, standIns := [], harness := (true, "19c0ff9d5b17b3e97bd6ba1fa3ce60c8cf3000509dab192f60d2c2e297c100d2"), looks := false }, kinds := [], alts := [], laidByText := true, laidKinds := [.data, .data, .data], laidTests := true, laidLooks := .later }
def ObjectApartCardSaid : Prop := Claim7.holds Tryd.pinned (.plain (OpenSpec.ofChange objectApartSpec)) objectApartCard

/-- THE TIED CARD OF 'loamlaw16.ObjectPtrs'. -/
def objectPtrsCard : Claim7 := { stood := { row := objectPtrsRow, standIns := [], harness := (true, "19c0ff9d5b17b3e97bd6ba1fa3ce60c8cf3000509dab192f60d2c2e297c100d2"), looks := false }, kinds := [], alts := [], laidByText := true, laidKinds := [.data, .data, .data], laidTests := true, laidLooks := .later }
def ObjectPtrsCardSaid : Prop := Claim7.holds Tryd.pinned (.plain (OpenSpec.ofChange objectPtrsSpec)) objectPtrsCard

/-- THE TIED CARD OF 'loamlaw16.ObjectWell'. -/
def objectWellCard : Claim7 := { stood := { row := objectWellRow, standIns := [], harness := (true, "19c0ff9d5b17b3e97bd6ba1fa3ce60c8cf3000509dab192f60d2c2e297c100d2"), looks := false }, kinds := [], alts := [], laidByText := true, laidKinds := [.data, .data, .data], laidTests := true, laidLooks := .later }
def ObjectWellCardSaid : Prop := Claim7.holds Tryd.pinned (.plain (OpenSpec.ofChange objectWellSpec)) objectWellCard

/-- THE TIED CARD OF 'loamlaw16.ObjectPlays'. -/
def objectPlaysCard : Claim7 := { stood := { row := objectPlaysRow, standIns := [], harness := (true, "19c0ff9d5b17b3e97bd6ba1fa3ce60c8cf3000509dab192f60d2c2e297c100d2"), looks := false }, kinds := [], alts := [], laidByText := true, laidKinds := [.data, .data, .data], laidTests := true, laidLooks := .later }
def ObjectPlaysCardSaid : Prop := Claim7.holds Tryd.pinned (.plain (OpenSpec.ofChange objectPlaysSpec)) objectPlaysCard

/-- THE SECOND FORM's CARD OF 'loamlaw16.ObjectApart'. -/
def objectApartUptoCard : Claim7 := { stood := { row := objectApartUptoRow, standIns := [], harness := (true, "19c0ff9d5b17b3e97bd6ba1fa3ce60c8cf3000509dab192f60d2c2e297c100d2"), looks := false }, kinds := [], alts := [], laidByText := true, laidKinds := [.data, .data, .data], laidTests := true, laidLooks := .later }
def ObjectApartUptoCardSaid : Prop := Claim7.holds Tryd.pinned (.plain (OpenSpec.upto objectApartSpec)) objectApartUptoCard

/-- THE SECOND FORM's CARD OF 'loamlaw16.ObjectPtrs'. -/
def objectPtrsUptoCard : Claim7 := { stood := { row := objectPtrsUptoRow, standIns := [], harness := (true, "19c0ff9d5b17b3e97bd6ba1fa3ce60c8cf3000509dab192f60d2c2e297c100d2"), looks := false }, kinds := [], alts := [], laidByText := true, laidKinds := [.data, .data, .data], laidTests := true, laidLooks := .later }
def ObjectPtrsUptoCardSaid : Prop := Claim7.holds Tryd.pinned (.plain (OpenSpec.upto objectPtrsSpec)) objectPtrsUptoCard

/-- THE SECOND FORM's CARD OF 'loamlaw16.ObjectWell'. -/
def objectWellUptoCard : Claim7 := { stood := { row := objectWellUptoRow, standIns := [], harness := (true, "19c0ff9d5b17b3e97bd6ba1fa3ce60c8cf3000509dab192f60d2c2e297c100d2"), looks := false }, kinds := [], alts := [], laidByText := true, laidKinds := [.data, .data, .data], laidTests := true, laidLooks := .later }
def ObjectWellUptoCardSaid : Prop := Claim7.holds Tryd.pinned (.plain (OpenSpec.upto objectWellSpec)) objectWellUptoCard

/-- THE SECOND FORM's CARD OF 'loamlaw16.ObjectPlays'. -/
def objectPlaysUptoCard : Claim7 := { stood := { row := objectPlaysUptoRow, standIns := [], harness := (true, "19c0ff9d5b17b3e97bd6ba1fa3ce60c8cf3000509dab192f60d2c2e297c100d2"), looks := false }, kinds := [], alts := [], laidByText := true, laidKinds := [.data, .data, .data], laidTests := true, laidLooks := .later }
def ObjectPlaysUptoCardSaid : Prop := Claim7.holds Tryd.pinned (.plain (OpenSpec.upto objectPlaysSpec)) objectPlaysUptoCard
end Rows
end Go.Proofs.YtknineilpenbnaaDoor
