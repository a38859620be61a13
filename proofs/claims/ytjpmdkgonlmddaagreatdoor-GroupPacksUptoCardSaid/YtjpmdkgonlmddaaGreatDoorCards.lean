/-
  DERIVED. GIVEN WITH THE SEED: THE CARDS: each row of YtjpmdkgonlmddaaGreatDoorRows.lean that lists a variable, with what it lists TIED to the program's text (the seventh form; the later family's looks); each row that meets fmt, with fmt's text TOLD by the authors' own Lean function (tested against real Go, not proved from fmt's source: count such statements apart). THE CARD IS WHAT COUNTS. Prove the row's statement (the work); the ties are given (YtjpmdkgonlmddaaGreatDoorTie.lean); close each card by the builder's one call (the guide's Derived/Test/ToyasCard.lean, 'card_holds'). Laid BY PROGRAM, IN A SANDBOX (cutbox-door.mjs). By AI agents, Wed Nov 11 2026. No macro, syntax, notation, axiom, sorry.
-/
import Derived.Test.YtjpmdkgonlmddaaGreatDoorRows
import GoSem.ClaimSeven
namespace Go.Proofs.YtjpmdkgonlmddaaGreatDoor
namespace Rows

/-- THE TIED CARD OF 'matinslaw22.GroupWires'. -/
def groupWiresCard : Claim7 := { stood := { row := groupWiresRow, standIns := [], harness := (true, "9912967a0018da5830f2f29743a383efe4b4b3ae7c60ac5de267f7a4d85e6fb1"), looks := true }, kinds := [], alts := [], laidByText := true, laidKinds := [.data, .data, .data, .sentinel, .sentinel], laidTests := true, laidLooks := .later }
def GroupWiresCardSaid : Prop := Claim7.holds Tryz.pinned (.plain (OpenSpec.ofChange groupWiresSpec)) groupWiresCard

/-- THE TIED CARD OF 'matinslaw22.GroupVotes'. -/
def groupVotesCard : Claim7 := { stood := { row := groupVotesRow, standIns := [], harness := (true, "9912967a0018da5830f2f29743a383efe4b4b3ae7c60ac5de267f7a4d85e6fb1"), looks := true }, kinds := [], alts := [], laidByText := true, laidKinds := [.data, .data, .data, .sentinel, .sentinel], laidTests := true, laidLooks := .later }
def GroupVotesCardSaid : Prop := Claim7.holds Tryz.pinned (.plain (OpenSpec.ofChange groupVotesSpec)) groupVotesCard

/-- THE TIED CARD OF 'matinslaw22.GroupMinority'. -/
def groupMinorityCard : Claim7 := { stood := { row := groupMinorityRow, standIns := [], harness := (true, "9912967a0018da5830f2f29743a383efe4b4b3ae7c60ac5de267f7a4d85e6fb1"), looks := true }, kinds := [], alts := [], laidByText := true, laidKinds := [.data, .data, .data, .sentinel, .sentinel], laidTests := true, laidLooks := .later }
def GroupMinorityCardSaid : Prop := Claim7.holds Tryz.pinned (.plain (OpenSpec.ofChange groupMinoritySpec)) groupMinorityCard

/-- THE TIED CARD OF 'matinslaw22.GroupPacks'. -/
def groupPacksCard : Claim7 := { stood := { row := groupPacksRow, standIns := [], harness := (true, "9912967a0018da5830f2f29743a383efe4b4b3ae7c60ac5de267f7a4d85e6fb1"), looks := true }, kinds := [], alts := [], laidByText := true, laidKinds := [.data, .data, .data, .sentinel, .sentinel], laidTests := true, laidLooks := .later }
def GroupPacksCardSaid : Prop := Claim7.holds Tryz.pinned (.plain (OpenSpec.ofChange groupPacksSpec)) groupPacksCard

/-- THE TIED CARD OF 'matinslaw22.GroupAgain'. -/
def groupAgainCard : Claim7 := { stood := { row := groupAgainRow, standIns := [], harness := (true, "9912967a0018da5830f2f29743a383efe4b4b3ae7c60ac5de267f7a4d85e6fb1"), looks := true }, kinds := [], alts := [], laidByText := true, laidKinds := [.data, .data, .data, .sentinel, .sentinel], laidTests := true, laidLooks := .later }
def GroupAgainCardSaid : Prop := Claim7.holds Tryz.pinned (.plain (OpenSpec.ofChange groupAgainSpec)) groupAgainCard

/-- THE TIED CARD OF 'matinslaw22.GroupSafe'. -/
def groupSafeCard : Claim7 := { stood := { row := groupSafeRow, standIns := [], harness := (true, "9912967a0018da5830f2f29743a383efe4b4b3ae7c60ac5de267f7a4d85e6fb1"), looks := true }, kinds := [], alts := [], laidByText := true, laidKinds := [.data, .data, .data, .sentinel, .sentinel], laidTests := true, laidLooks := .later }
def GroupSafeCardSaid : Prop := Claim7.holds Tryz.pinned (.plain (OpenSpec.ofChange groupSafeSpec)) groupSafeCard

/-- THE SECOND FORM's CARD OF 'matinslaw22.GroupWires'. -/
def groupWiresUptoCard : Claim7 := { stood := { row := groupWiresUptoRow, standIns := [], harness := (true, "9912967a0018da5830f2f29743a383efe4b4b3ae7c60ac5de267f7a4d85e6fb1"), looks := true }, kinds := [], alts := [], laidByText := true, laidKinds := [.data, .data, .data, .sentinel, .sentinel], laidTests := true, laidLooks := .later }
def GroupWiresUptoCardSaid : Prop := Claim7.holds Tryz.pinned (.plain (OpenSpec.upto groupWiresSpec)) groupWiresUptoCard

/-- THE SECOND FORM's CARD OF 'matinslaw22.GroupVotes'. -/
def groupVotesUptoCard : Claim7 := { stood := { row := groupVotesUptoRow, standIns := [], harness := (true, "9912967a0018da5830f2f29743a383efe4b4b3ae7c60ac5de267f7a4d85e6fb1"), looks := true }, kinds := [], alts := [], laidByText := true, laidKinds := [.data, .data, .data, .sentinel, .sentinel], laidTests := true, laidLooks := .later }
def GroupVotesUptoCardSaid : Prop := Claim7.holds Tryz.pinned (.plain (OpenSpec.upto groupVotesSpec)) groupVotesUptoCard

/-- THE SECOND FORM's CARD OF 'matinslaw22.GroupMinority'. -/
def groupMinorityUptoCard : Claim7 := { stood := { row := groupMinorityUptoRow, standIns := [], harness := (true, "9912967a0018da5830f2f29743a383efe4b4b3ae7c60ac5de267f7a4d85e6fb1"), looks := true }, kinds := [], alts := [], laidByText := true, laidKinds := [.data, .data, .data, .sentinel, .sentinel], laidTests := true, laidLooks := .later }
def GroupMinorityUptoCardSaid : Prop := Claim7.holds Tryz.pinned (.plain (OpenSpec.upto groupMinoritySpec)) groupMinorityUptoCard

/-- THE SECOND FORM's CARD OF 'matinslaw22.GroupPacks'. -/
def groupPacksUptoCard : Claim7 := { stood := { row := groupPacksUptoRow, standIns := [], harness := (true, "9912967a0018da5830f2f29743a383efe4b4b3ae7c60ac5de267f7a4d85e6fb1"), looks := true }, kinds := [], alts := [], laidByText := true, laidKinds := [.data, .data, .data, .sentinel, .sentinel], laidTests := true, laidLooks := .later }
def GroupPacksUptoCardSaid : Prop := Claim7.holds Tryz.pinned (.plain (OpenSpec.upto groupPacksSpec)) groupPacksUptoCard

/-- THE SECOND FORM's CARD OF 'matinslaw22.GroupAgain'. -/
def groupAgainUptoCard : Claim7 := { stood := { row := groupAgainUptoRow, standIns := [], harness := (true, "9912967a0018da5830f2f29743a383efe4b4b3ae7c60ac5de267f7a4d85e6fb1"), looks := true }, kinds := [], alts := [], laidByText := true, laidKinds := [.data, .data, .data, .sentinel, .sentinel], laidTests := true, laidLooks := .later }
def GroupAgainUptoCardSaid : Prop := Claim7.holds Tryz.pinned (.plain (OpenSpec.upto groupAgainSpec)) groupAgainUptoCard

/-- THE SECOND FORM's CARD OF 'matinslaw22.GroupSafe'. -/
def groupSafeUptoCard : Claim7 := { stood := { row := groupSafeUptoRow, standIns := [], harness := (true, "9912967a0018da5830f2f29743a383efe4b4b3ae7c60ac5de267f7a4d85e6fb1"), looks := true }, kinds := [], alts := [], laidByText := true, laidKinds := [.data, .data, .data, .sentinel, .sentinel], laidTests := true, laidLooks := .later }
def GroupSafeUptoCardSaid : Prop := Claim7.holds Tryz.pinned (.plain (OpenSpec.upto groupSafeSpec)) groupSafeUptoCard
end Rows
end Go.Proofs.YtjpmdkgonlmddaaGreatDoor
