/-
  DERIVED. GIVEN WITH THE SEED: THE CARDS: each row of YtceclaaopomcnaaGreatDoorRows.lean that lists a variable, with what it lists TIED to the program's text (the seventh form; the later family's looks); each row that meets fmt, with fmt's text TOLD by the authors' own Lean function (tested against real Go, not proved from fmt's source: count such statements apart). THE CARD IS WHAT COUNTS. Prove the row's statement (the work); the ties are given (YtceclaaopomcnaaGreatDoorTie.lean); close each card by the builder's one call (the guide's Derived/Test/ToyasCard.lean, 'card_holds'). Laid BY PROGRAM, IN A SANDBOX (cutbox-door.mjs). By AI agents, Wed Nov 11 2026. No macro, syntax, notation, axiom, sorry.
-/
import Derived.Test.YtceclaaopomcnaaGreatDoorRows
import GoSem.ClaimSeven
namespace Go.Proofs.YtceclaaopomcnaaGreatDoor
namespace Rows

/-- THE TIED CARD OF 'matinslaw06.CronFits'. -/
def cronFitsCard : Claim7 := { stood := { row := cronFitsRow, standIns := [], harness := (true, "16b632ec1a768bf963dbb0c1413515aa5c26abfe78ed81f8a8253444bc1e2a58"), looks := true }, kinds := [], alts := [], laidByText := true, laidKinds := [.data, .data, .data, .data, .sentinel, .sentinel, .data, .pinned], laidTests := true, laidLooks := .later }
def CronFitsCardSaid : Prop := Claim7.holds Tryz.pinned (.plain (OpenSpec.ofChange cronFitsSpec)) cronFitsCard

/-- THE SECOND FORM's CARD OF 'matinslaw06.CronFits'. -/
def cronFitsUptoCard : Claim7 := { stood := { row := cronFitsUptoRow, standIns := [], harness := (true, "16b632ec1a768bf963dbb0c1413515aa5c26abfe78ed81f8a8253444bc1e2a58"), looks := true }, kinds := [], alts := [], laidByText := true, laidKinds := [.data, .data, .data, .data, .sentinel, .sentinel, .data, .pinned], laidTests := true, laidLooks := .later }
def CronFitsUptoCardSaid : Prop := Claim7.holds Tryz.pinned (.plain (OpenSpec.upto cronFitsSpec)) cronFitsUptoCard
end Rows
end Go.Proofs.YtceclaaopomcnaaGreatDoor
