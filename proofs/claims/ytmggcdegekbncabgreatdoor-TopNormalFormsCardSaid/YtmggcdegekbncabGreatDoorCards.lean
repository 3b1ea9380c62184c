/-
  DERIVED. GIVEN WITH THE SEED: THE CARDS: each row of YtmggcdegekbncabGreatDoorRows.lean that lists a variable, with what it lists TIED to the program's text (the seventh form; the later family's looks); each row that meets fmt, with fmt's text TOLD by the authors' own Lean function (tested against real Go, not proved from fmt's source: count such statements apart). THE CARD IS WHAT COUNTS. Prove the row's statement (the work); the ties are given (YtmggcdegekbncabGreatDoorTie.lean); close each card by the builder's one call (the guide's Derived/Test/ToyasCard.lean, 'card_holds'). Laid BY PROGRAM, IN A SANDBOX (cutbox-door.mjs). By AI agents, Wed Nov 11 2026. No macro, syntax, notation, axiom, sorry.
-/
import Derived.Test.YtmggcdegekbncabGreatDoorRows
import GoSem.ClaimSeven
namespace Go.Proofs.YtmggcdegekbncabGreatDoor
namespace Rows

/-- THE TIED CARD OF 'semigrouptop.TopUnions'. -/
def topUnionsCard : Claim7 := { stood := { row := topUnionsRow, standIns := [], harness := (true, "24b1abc4aa689a56369b3395035bc5a3309b5ebd810d4bb744ce95404dcd3f7b"), looks := true }, kinds := [], alts := [], laidByText := true, laidKinds := [.data], laidTests := true, laidLooks := .later }
def TopUnionsCardSaid : Prop := Claim7.holds Tryz.pinned (.plain (OpenSpec.ofChange topUnionsSpec)) topUnionsCard

/-- THE TIED CARD OF 'semigrouptop.TopAnyBudgets'. -/
def topAnyBudgetsCard : Claim7 := { stood := { row := topAnyBudgetsRow, standIns := [], harness := (true, "24b1abc4aa689a56369b3395035bc5a3309b5ebd810d4bb744ce95404dcd3f7b"), looks := true }, kinds := [], alts := [], laidByText := true, laidKinds := [.data], laidTests := true, laidLooks := .later }
def TopAnyBudgetsCardSaid : Prop := Claim7.holds Tryz.pinned (.plain (OpenSpec.ofChange topAnyBudgetsSpec)) topAnyBudgetsCard

/-- THE TIED CARD OF 'semigrouptop.TopNormalForms'. -/
def topNormalFormsCard : Claim7 := { stood := { row := topNormalFormsRow, standIns := [], harness := (true, "24b1abc4aa689a56369b3395035bc5a3309b5ebd810d4bb744ce95404dcd3f7b"), looks := true }, kinds := [], alts := [], laidByText := true, laidKinds := [.data], laidTests := true, laidLooks := .later }
def TopNormalFormsCardSaid : Prop := Claim7.holds Tryz.pinned (.plain (OpenSpec.ofChange topNormalFormsSpec)) topNormalFormsCard

/-- THE SECOND FORM's CARD OF 'semigrouptop.TopUnions'. -/
def topUnionsUptoCard : Claim7 := { stood := { row := topUnionsUptoRow, standIns := [], harness := (true, "24b1abc4aa689a56369b3395035bc5a3309b5ebd810d4bb744ce95404dcd3f7b"), looks := true }, kinds := [], alts := [], laidByText := true, laidKinds := [.data], laidTests := true, laidLooks := .later }
def TopUnionsUptoCardSaid : Prop := Claim7.holds Tryz.pinned (.plain (OpenSpec.upto topUnionsSpec)) topUnionsUptoCard

/-- THE SECOND FORM's CARD OF 'semigrouptop.TopAnyBudgets'. -/
def topAnyBudgetsUptoCard : Claim7 := { stood := { row := topAnyBudgetsUptoRow, standIns := [], harness := (true, "24b1abc4aa689a56369b3395035bc5a3309b5ebd810d4bb744ce95404dcd3f7b"), looks := true }, kinds := [], alts := [], laidByText := true, laidKinds := [.data], laidTests := true, laidLooks := .later }
def TopAnyBudgetsUptoCardSaid : Prop := Claim7.holds Tryz.pinned (.plain (OpenSpec.upto topAnyBudgetsSpec)) topAnyBudgetsUptoCard

/-- THE SECOND FORM's CARD OF 'semigrouptop.TopNormalForms'. -/
def topNormalFormsUptoCard : Claim7 := { stood := { row := topNormalFormsUptoRow, standIns := [], harness := (true, "24b1abc4aa689a56369b3395035bc5a3309b5ebd810d4bb744ce95404dcd3f7b"), looks := true }, kinds := [], alts := [], laidByText := true, laidKinds := [.data], laidTests := true, laidLooks := .later }
def TopNormalFormsUptoCardSaid : Prop := Claim7.holds Tryz.pinned (.plain (OpenSpec.upto topNormalFormsSpec)) topNormalFormsUptoCard
end Rows
end Go.Proofs.YtmggcdegekbncabGreatDoor
