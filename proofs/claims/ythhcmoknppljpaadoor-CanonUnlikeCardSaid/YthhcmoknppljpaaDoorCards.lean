/-
  DERIVED. GIVEN WITH THE SEED: THE CARDS: each row of YthhcmoknppljpaaDoorRows.lean that lists a variable, with what it lists TIED to the program's text (the seventh form; the later family's looks); each row that meets fmt, with fmt's text TOLD by the authors' own Lean function (tested against real Go, not proved from fmt's source: count such statements apart). THE CARD IS WHAT COUNTS. Prove the row's statement (the work); the ties are given (YthhcmoknppljpaaDoorTie.lean); close each card by the builder's one call (the guide's Derived/Test/ToyasCard.lean, 'card_holds'). Laid BY PROGRAM, IN A SANDBOX (cutbox-door.mjs). By AI agents, Wed Nov 11 2026. No macro, syntax, notation, axiom, sorry.
-/
import Derived.Test.YthhcmoknppljpaaDoorRows
import GoSem.ClaimSeven
namespace Go.Proofs.YthhcmoknppljpaaDoor
namespace Rows

/-- THE TIED CARD OF 'loamlaw18.CanonAny'. -/
def canonAnyCard : Claim7 := { stood := { row := canonAnyRow, standIns := [], harness := (true, "951687fa000d9c105ddb988a2098679cd808f61cc62620e067a1f545dd23d005"), looks := false }, kinds := [], alts := [], laidByText := true, laidKinds := [.data, .data, .data], laidTests := true, laidLooks := .later }
def CanonAnyCardSaid : Prop := Claim7.holds Tryd.pinned (.plain (OpenSpec.ofChange canonAnySpec)) canonAnyCard

/-- THE TIED CARD OF 'loamlaw18.CanonTwo'. -/
def canonTwoCard : Claim7 := { stood := { row := canonTwoRow, standIns := [], harness := (true, "951687fa000d9c105ddb988a2098679cd808f61cc62620e067a1f545dd23d005"), looks := false }, kinds := [], alts := [], laidByText := true, laidKinds := [.data, .data, .data], laidTests := true, laidLooks := .later }
def CanonTwoCardSaid : Prop := Claim7.holds Tryd.pinned (.plain (OpenSpec.ofChange canonTwoSpec)) canonTwoCard

/-- THE TIED CARD OF 'loamlaw18.CanonTurned'. -/
def canonTurnedCard : Claim7 := { stood := { row := canonTurnedRow, standIns := [], harness := (true, "951687fa000d9c105ddb988a2098679cd808f61cc62620e067a1f545dd23d005"), looks := false }, kinds := [], alts := [], laidByText := true, laidKinds := [.data, .data, .data], laidTests := true, laidLooks := .later }
def CanonTurnedCardSaid : Prop := Claim7.holds Tryd.pinned (.plain (OpenSpec.ofChange canonTurnedSpec)) canonTurnedCard

/-- THE TIED CARD OF 'loamlaw18.CanonUnlike'. -/
def canonUnlikeCard : Claim7 := { stood := { row := canonUnlikeRow, standIns := [], harness := (true, "951687fa000d9c105ddb988a2098679cd808f61cc62620e067a1f545dd23d005"), looks := false }, kinds := [], alts := [], laidByText := true, laidKinds := [.data, .data, .data], laidTests := true, laidLooks := .later }
def CanonUnlikeCardSaid : Prop := Claim7.holds Tryd.pinned (.plain (OpenSpec.ofChange canonUnlikeSpec)) canonUnlikeCard

/-- THE SECOND FORM's CARD OF 'loamlaw18.CanonAny'. -/
def canonAnyUptoCard : Claim7 := { stood := { row := canonAnyUptoRow, standIns := [], harness := (true, "951687fa000d9c105ddb988a2098679cd808f61cc62620e067a1f545dd23d005"), looks := false }, kinds := [], alts := [], laidByText := true, laidKinds := [.data, .data, .data], laidTests := true, laidLooks := .later }
def CanonAnyUptoCardSaid : Prop := Claim7.holds Tryd.pinned (.plain (OpenSpec.upto canonAnySpec)) canonAnyUptoCard

/-- THE SECOND FORM's CARD OF 'loamlaw18.CanonTwo'. -/
def canonTwoUptoCard : Claim7 := { stood := { row := canonTwoUptoRow, standIns := [], harness := (true, "951687fa000d9c105ddb988a2098679cd808f61cc62620e067a1f545dd23d005"), looks := false }, kinds := [], alts := [], laidByText := true, laidKinds := [.data, .data, .data], laidTests := true, laidLooks := .later }
def CanonTwoUptoCardSaid : Prop := Claim7.holds Tryd.pinned (.plain (OpenSpec.upto canonTwoSpec)) canonTwoUptoCard

/-- THE SECOND FORM's CARD OF 'loamlaw18.CanonTurned'. -/
def canonTurnedUptoCard : Claim7 := { stood := { row := canonTurnedUptoRow, standIns := [], harness := (true, "951687fa000d9c105ddb988a2098679cd808f61cc62620e067a1f545dd23d005"), looks := false }, kinds := [], alts := [], laidByText := true, laidKinds := [.data, .data, .data], laidTests := true, laidLooks := .later }
def CanonTurnedUptoCardSaid : Prop := Claim7.holds Tryd.pinned (.plain (OpenSpec.upto canonTurnedSpec)) canonTurnedUptoCard

/-- THE SECOND FORM's CARD OF 'loamlaw18.CanonUnlike'. -/
def canonUnlikeUptoCard : Claim7 := { stood := { row := canonUnlikeUptoRow, standIns := [], harness := (true, "951687fa000d9c105ddb988a2098679cd808f61cc62620e067a1f545dd23d005"), looks := false }, kinds := [], alts := [], laidByText := true, laidKinds := [.data, .data, .data], laidTests := true, laidLooks := .later }
def CanonUnlikeUptoCardSaid : Prop := Claim7.holds Tryd.pinned (.plain (OpenSpec.upto canonUnlikeSpec)) canonUnlikeUptoCard
end Rows
end Go.Proofs.YthhcmoknppljpaaDoor
