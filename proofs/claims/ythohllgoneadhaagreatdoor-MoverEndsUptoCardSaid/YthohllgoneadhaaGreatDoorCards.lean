/-
  DERIVED. GIVEN WITH THE SEED: THE CARDS: each row of YthohllgoneadhaaGreatDoorRows.lean that lists a variable, with what it lists TIED to the program's text (the seventh form; the later family's looks); each row that meets fmt, with fmt's text TOLD by the authors' own Lean function (tested against real Go, not proved from fmt's source: count such statements apart). THE CARD IS WHAT COUNTS. Prove the row's statement (the work); the ties are given (YthohllgoneadhaaGreatDoorTie.lean); close each card by the builder's one call (the guide's Derived/Test/ToyasCard.lean, 'card_holds'). Laid BY PROGRAM, IN A SANDBOX (cutbox-door.mjs). By AI agents, Wed Nov 11 2026. No macro, syntax, notation, axiom, sorry.
-/
import Derived.Test.YthohllgoneadhaaGreatDoorRows
import GoSem.ClaimSeven
namespace Go.Proofs.YthohllgoneadhaaGreatDoor
namespace Rows

/-- THE TIED CARD OF 'matinslaw20.MoverEnds'. -/
def moverEndsCard : Claim7 := { stood := { row := moverEndsRow, standIns := [], harness := (true, "986135c4aaa8d9a804f6149f99421aae9b9ac462f9ae8a1718320e07303e27c3"), looks := true }, kinds := [], alts := [], laidByText := true, laidKinds := [.data, .data, .data, .data, .sentinel, .sentinel, .data, .pinned], laidTests := true, laidLooks := .later }
def MoverEndsCardSaid : Prop := Claim7.holds Tryz.pinned (.plain (OpenSpec.ofChange moverEndsSpec)) moverEndsCard

/-- THE TIED CARD OF 'matinslaw20.MoverLate'. -/
def moverLateCard : Claim7 := { stood := { row := moverLateRow, standIns := [], harness := (true, "986135c4aaa8d9a804f6149f99421aae9b9ac462f9ae8a1718320e07303e27c3"), looks := true }, kinds := [], alts := [], laidByText := true, laidKinds := [.data, .data, .data, .data, .sentinel, .sentinel, .data, .pinned], laidTests := true, laidLooks := .later }
def MoverLateCardSaid : Prop := Claim7.holds Tryz.pinned (.plain (OpenSpec.ofChange moverLateSpec)) moverLateCard

/-- THE TIED CARD OF 'matinslaw20.MoverForgets'. -/
def moverForgetsCard : Claim7 := { stood := { row := moverForgetsRow, standIns := [], harness := (true, "986135c4aaa8d9a804f6149f99421aae9b9ac462f9ae8a1718320e07303e27c3"), looks := true }, kinds := [], alts := [], laidByText := true, laidKinds := [.data, .data, .data, .data, .sentinel, .sentinel, .data, .pinned], laidTests := true, laidLooks := .later }
def MoverForgetsCardSaid : Prop := Claim7.holds Tryz.pinned (.plain (OpenSpec.ofChange moverForgetsSpec)) moverForgetsCard

/-- THE SECOND FORM's CARD OF 'matinslaw20.MoverEnds'. -/
def moverEndsUptoCard : Claim7 := { stood := { row := moverEndsUptoRow, standIns := [], harness := (true, "986135c4aaa8d9a804f6149f99421aae9b9ac462f9ae8a1718320e07303e27c3"), looks := true }, kinds := [], alts := [], laidByText := true, laidKinds := [.data, .data, .data, .data, .sentinel, .sentinel, .data, .pinned], laidTests := true, laidLooks := .later }
def MoverEndsUptoCardSaid : Prop := Claim7.holds Tryz.pinned (.plain (OpenSpec.upto moverEndsSpec)) moverEndsUptoCard

/-- THE SECOND FORM's CARD OF 'matinslaw20.MoverLate'. -/
def moverLateUptoCard : Claim7 := { stood := { row := moverLateUptoRow, standIns := [], harness := (true, "986135c4aaa8d9a804f6149f99421aae9b9ac462f9ae8a1718320e07303e27c3"), looks := true }, kinds := [], alts := [], laidByText := true, laidKinds := [.data, .data, .data, .data, .sentinel, .sentinel, .data, .pinned], laidTests := true, laidLooks := .later }
def MoverLateUptoCardSaid : Prop := Claim7.holds Tryz.pinned (.plain (OpenSpec.upto moverLateSpec)) moverLateUptoCard

/-- THE SECOND FORM's CARD OF 'matinslaw20.MoverForgets'. -/
def moverForgetsUptoCard : Claim7 := { stood := { row := moverForgetsUptoRow, standIns := [], harness := (true, "986135c4aaa8d9a804f6149f99421aae9b9ac462f9ae8a1718320e07303e27c3"), looks := true }, kinds := [], alts := [], laidByText := true, laidKinds := [.data, .data, .data, .data, .sentinel, .sentinel, .data, .pinned], laidTests := true, laidLooks := .later }
def MoverForgetsUptoCardSaid : Prop := Claim7.holds Tryz.pinned (.plain (OpenSpec.upto moverForgetsSpec)) moverForgetsUptoCard
end Rows
end Go.Proofs.YthohllgoneadhaaGreatDoor
