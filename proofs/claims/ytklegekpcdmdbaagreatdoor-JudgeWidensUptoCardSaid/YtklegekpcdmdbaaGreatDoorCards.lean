/-
  DERIVED. GIVEN WITH THE SEED: THE CARDS: each row of YtklegekpcdmdbaaGreatDoorRows.lean that lists a variable, with what it lists TIED to the program's text (the seventh form; the later family's looks); each row that meets fmt, with fmt's text TOLD by the authors' own Lean function (tested against real Go, not proved from fmt's source: count such statements apart). THE CARD IS WHAT COUNTS. Prove the row's statement (the work); the ties are given (YtklegekpcdmdbaaGreatDoorTie.lean); close each card by the builder's one call (the guide's Derived/Test/ToyasCard.lean, 'card_holds'). Laid BY PROGRAM, IN A SANDBOX (cutbox-door.mjs). By AI agents, Wed Nov 11 2026. No macro, syntax, notation, axiom, sorry.
-/
import Derived.Test.YtklegekpcdmdbaaGreatDoorRows
import GoSem.ClaimSeven
namespace Go.Proofs.YtklegekpcdmdbaaGreatDoor
namespace Rows

/-- THE TIED CARD OF 'matinslaw24.JudgeWidens'. -/
def judgeWidensCard : Claim7 := { stood := { row := judgeWidensRow, standIns := [], harness := (true, "c51f09a76a1ab5a9759c89667145d9f7b2705ab154020cf18fdcf6bf0b37582e"), looks := true }, kinds := [], alts := [], laidByText := true, laidKinds := [.data, .data, .data, .data, .sentinel, .sentinel, .data, .pinned], laidTests := true, laidLooks := .later }
def JudgeWidensCardSaid : Prop := Claim7.holds Tryz.pinned (.plain (OpenSpec.ofChange judgeWidensSpec)) judgeWidensCard

/-- THE SECOND FORM's CARD OF 'matinslaw24.JudgeWidens'. -/
def judgeWidensUptoCard : Claim7 := { stood := { row := judgeWidensUptoRow, standIns := [], harness := (true, "c51f09a76a1ab5a9759c89667145d9f7b2705ab154020cf18fdcf6bf0b37582e"), looks := true }, kinds := [], alts := [], laidByText := true, laidKinds := [.data, .data, .data, .data, .sentinel, .sentinel, .data, .pinned], laidTests := true, laidLooks := .later }
def JudgeWidensUptoCardSaid : Prop := Claim7.holds Tryz.pinned (.plain (OpenSpec.upto judgeWidensSpec)) judgeWidensUptoCard
end Rows
end Go.Proofs.YtklegekpcdmdbaaGreatDoor
