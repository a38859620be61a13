/-
  DERIVED. GIVEN WITH THE SEED: THE CARDS: each row of YtnofpgegbhegnaaGreatDoorRows.lean that lists a variable, with what it lists TIED to the program's text (the seventh form; the later family's looks); each row that meets fmt, with fmt's text TOLD by the authors' own Lean function (tested against real Go, not proved from fmt's source: count such statements apart). THE CARD IS WHAT COUNTS. Prove the row's statement (the work); the ties are given (YtnofpgegbhegnaaGreatDoorTie.lean); close each card by the builder's one call (the guide's Derived/Test/ToyasCard.lean, 'card_holds'). Laid BY PROGRAM, IN A SANDBOX (cutbox-door.mjs). By AI agents, Wed Nov 11 2026. No macro, syntax, notation, axiom, sorry.
-/
import Derived.Test.YtnofpgegbhegnaaGreatDoorRows
import GoSem.ClaimSeven
namespace Go.Proofs.YtnofpgegbhegnaaGreatDoor
namespace Rows

/-- THE TIED CARD OF 'matinslaw10.WalKeeps'. -/
def walKeepsCard : Claim7 := { stood := { row := walKeepsRow, standIns := [], harness := (true, "754a6daf7d70580ff1cd962476f6525b7c3af9a1d6e68dd34ce493659ed1ef64"), looks := true }, kinds := [], alts := [], laidByText := true, laidKinds := [.data, .data, .data, .sentinel, .sentinel], laidTests := true, laidLooks := .later }
def WalKeepsCardSaid : Prop := Claim7.holds Tryz.pinned (.plain (OpenSpec.ofChange walKeepsSpec)) walKeepsCard

/-- THE TIED CARD OF 'matinslaw10.WalAgain'. -/
def walAgainCard : Claim7 := { stood := { row := walAgainRow, standIns := [], harness := (true, "754a6daf7d70580ff1cd962476f6525b7c3af9a1d6e68dd34ce493659ed1ef64"), looks := true }, kinds := [], alts := [], laidByText := true, laidKinds := [.data, .data, .data, .sentinel, .sentinel], laidTests := true, laidLooks := .later }
def WalAgainCardSaid : Prop := Claim7.holds Tryz.pinned (.plain (OpenSpec.ofChange walAgainSpec)) walAgainCard

/-- THE TIED CARD OF 'matinslaw10.WalLays'. -/
def walLaysCard : Claim7 := { stood := { row := walLaysRow, standIns := [], harness := (true, "754a6daf7d70580ff1cd962476f6525b7c3af9a1d6e68dd34ce493659ed1ef64"), looks := true }, kinds := [], alts := [], laidByText := true, laidKinds := [.data, .data, .data, .sentinel, .sentinel], laidTests := true, laidLooks := .later }
def WalLaysCardSaid : Prop := Claim7.holds Tryz.pinned (.plain (OpenSpec.ofChange walLaysSpec)) walLaysCard

/-- THE SECOND FORM's CARD OF 'matinslaw10.WalKeeps'. -/
def walKeepsUptoCard : Claim7 := { stood := { row := walKeepsUptoRow, standIns := [], harness := (true, "754a6daf7d70580ff1cd962476f6525b7c3af9a1d6e68dd34ce493659ed1ef64"), looks := true }, kinds := [], alts := [], laidByText := true, laidKinds := [.data, .data, .data, .sentinel, .sentinel], laidTests := true, laidLooks := .later }
def WalKeepsUptoCardSaid : Prop := Claim7.holds Tryz.pinned (.plain (OpenSpec.upto walKeepsSpec)) walKeepsUptoCard

/-- THE SECOND FORM's CARD OF 'matinslaw10.WalAgain'. -/
def walAgainUptoCard : Claim7 := { stood := { row := walAgainUptoRow, standIns := [], harness := (true, "754a6daf7d70580ff1cd962476f6525b7c3af9a1d6e68dd34ce493659ed1ef64"), looks := true }, kinds := [], alts := [], laidByText := true, laidKinds := [.data, .data, .data, .sentinel, .sentinel], laidTests := true, laidLooks := .later }
def WalAgainUptoCardSaid : Prop := Claim7.holds Tryz.pinned (.plain (OpenSpec.upto walAgainSpec)) walAgainUptoCard

/-- THE SECOND FORM's CARD OF 'matinslaw10.WalLays'. -/
def walLaysUptoCard : Claim7 := { stood := { row := walLaysUptoRow, standIns := [], harness := (true, "754a6daf7d70580ff1cd962476f6525b7c3af9a1d6e68dd34ce493659ed1ef64"), looks := true }, kinds := [], alts := [], laidByText := true, laidKinds := [.data, .data, .data, .sentinel, .sentinel], laidTests := true, laidLooks := .later }
def WalLaysUptoCardSaid : Prop := Claim7.holds Tryz.pinned (.plain (OpenSpec.upto walLaysSpec)) walLaysUptoCard
end Rows
end Go.Proofs.YtnofpgegbhegnaaGreatDoor
