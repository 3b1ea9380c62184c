/-
  DERIVED. GIVEN WITH THE SEED: THE CARDS: each row of YtmggcdegekbncaaGreatDoorRows.lean that lists a variable, with what it lists TIED to the program's text (the seventh form; the later family's looks); each row that meets fmt, with fmt's text TOLD by the authors' own Lean function (tested against real Go, not proved from fmt's source: count such statements apart). THE CARD IS WHAT COUNTS. Prove the row's statement (the work); the ties are given (YtmggcdegekbncaaGreatDoorTie.lean); close each card by the builder's one call (the guide's Derived/Test/ToyasCard.lean, 'card_holds'). Laid BY PROGRAM, IN A SANDBOX (cutbox-door.mjs). By AI agents, Wed Nov 11 2026. No macro, syntax, notation, axiom, sorry.
-/
import Derived.Test.YtmggcdegekbncaaGreatDoorRows
import GoSem.ClaimSeven
namespace Go.Proofs.YtmggcdegekbncaaGreatDoor
namespace Rows

/-- THE TIED CARD OF 'semigrouptop.TopResiduals'. -/
def topResidualsCard : Claim7 := { stood := { row := topResidualsRow, standIns := [], harness := (true, "5b53a146dfe30044fc2a22ddc844396a0cbe366a6d6c897623b8ca78e6b0bdd8"), looks := false }, kinds := [], alts := [], laidByText := true, laidKinds := [.data], laidTests := true, laidLooks := .later }
def TopResidualsCardSaid : Prop := Claim7.holds Tryz.pinned (.plain (OpenSpec.ofChange topResidualsSpec)) topResidualsCard

/-- THE TIED CARD OF 'semigrouptop.TopDerivatives'. -/
def topDerivativesCard : Claim7 := { stood := { row := topDerivativesRow, standIns := [], harness := (true, "5b53a146dfe30044fc2a22ddc844396a0cbe366a6d6c897623b8ca78e6b0bdd8"), looks := false }, kinds := [], alts := [], laidByText := true, laidKinds := [.data], laidTests := true, laidLooks := .later }
def TopDerivativesCardSaid : Prop := Claim7.holds Tryz.pinned (.plain (OpenSpec.ofChange topDerivativesSpec)) topDerivativesCard

/-- THE TIED CARD OF 'semigrouptop.TopReachable'. -/
def topReachableCard : Claim7 := { stood := { row := topReachableRow, standIns := [], harness := (true, "5b53a146dfe30044fc2a22ddc844396a0cbe366a6d6c897623b8ca78e6b0bdd8"), looks := false }, kinds := [], alts := [], laidByText := true, laidKinds := [.data], laidTests := true, laidLooks := .later }
def TopReachableCardSaid : Prop := Claim7.holds Tryz.pinned (.plain (OpenSpec.ofChange topReachableSpec)) topReachableCard

/-- THE SECOND FORM's CARD OF 'semigrouptop.TopResiduals'. -/
def topResidualsUptoCard : Claim7 := { stood := { row := topResidualsUptoRow, standIns := [], harness := (true, "5b53a146dfe30044fc2a22ddc844396a0cbe366a6d6c897623b8ca78e6b0bdd8"), looks := false }, kinds := [], alts := [], laidByText := true, laidKinds := [.data], laidTests := true, laidLooks := .later }
def TopResidualsUptoCardSaid : Prop := Claim7.holds Tryz.pinned (.plain (OpenSpec.upto topResidualsSpec)) topResidualsUptoCard

/-- THE SECOND FORM's CARD OF 'semigrouptop.TopDerivatives'. -/
def topDerivativesUptoCard : Claim7 := { stood := { row := topDerivativesUptoRow, standIns := [], harness := (true, "5b53a146dfe30044fc2a22ddc844396a0cbe366a6d6c897623b8ca78e6b0bdd8"), looks := false }, kinds := [], alts := [], laidByText := true, laidKinds := [.data], laidTests := true, laidLooks := .later }
def TopDerivativesUptoCardSaid : Prop := Claim7.holds Tryz.pinned (.plain (OpenSpec.upto topDerivativesSpec)) topDerivativesUptoCard

/-- THE SECOND FORM's CARD OF 'semigrouptop.TopReachable'. -/
def topReachableUptoCard : Claim7 := { stood := { row := topReachableUptoRow, standIns := [], harness := (true, "5b53a146dfe30044fc2a22ddc844396a0cbe366a6d6c897623b8ca78e6b0bdd8"), looks := false }, kinds := [], alts := [], laidByText := true, laidKinds := [.data], laidTests := true, laidLooks := .later }
def TopReachableUptoCardSaid : Prop := Claim7.holds Tryz.pinned (.plain (OpenSpec.upto topReachableSpec)) topReachableUptoCard
end Rows
end Go.Proofs.YtmggcdegekbncaaGreatDoor
