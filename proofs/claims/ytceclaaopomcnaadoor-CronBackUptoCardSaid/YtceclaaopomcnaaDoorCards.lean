/-
  DERIVED. GIVEN WITH THE SEED: THE CARDS: each row of YtceclaaopomcnaaDoorRows.lean that lists a variable, with what it lists TIED to the program's text (the seventh form; the later family's looks); each row that meets fmt, with fmt's text TOLD by the authors' own Lean function (tested against real Go, not proved from fmt's source: count such statements apart). THE CARD IS WHAT COUNTS. Prove the row's statement (the work); the ties are given (YtceclaaopomcnaaDoorTie.lean); close each card by the builder's one call (the guide's Derived/Test/ToyasCard.lean, 'card_holds'). Laid BY PROGRAM, IN A SANDBOX (cutbox-door.mjs). By AI agents, Wed Nov 11 2026. No macro, syntax, notation, axiom, sorry.
-/
import Derived.Test.YtceclaaopomcnaaDoorRows
import GoSem.ClaimSeven
namespace Go.Proofs.YtceclaaopomcnaaDoor
namespace Rows

/-- THE TIED CARD OF 'matinslaw06.CronBack'. -/
def cronBackCard : Claim7 := { stood := { row := cronBackRow, standIns := [], harness := (true, "84aa60500698f2968bcb683df5d8f0975653d8deca978f567173918699f8ceb2"), looks := true }, kinds := [], alts := [], laidByText := true, laidKinds := [.data, .data, .data, .data, .sentinel, .sentinel, .data, .pinned], laidTests := true, laidLooks := .later }
def CronBackCardSaid : Prop := Claim7.holds Tryd.pinned (.plain (OpenSpec.ofChange cronBackSpec)) cronBackCard

/-- THE TIED CARD OF 'matinslaw06.CronLists'. -/
def cronListsCard : Claim7 := { stood := { row := cronListsRow, standIns := [], harness := (true, "84aa60500698f2968bcb683df5d8f0975653d8deca978f567173918699f8ceb2"), looks := true }, kinds := [], alts := [], laidByText := true, laidKinds := [.data, .data, .data, .data, .sentinel, .sentinel, .data, .pinned], laidTests := true, laidLooks := .later }
def CronListsCardSaid : Prop := Claim7.holds Tryd.pinned (.plain (OpenSpec.ofChange cronListsSpec)) cronListsCard

/-- THE TIED CARD OF 'matinslaw06.CronEither'. -/
def cronEitherCard : Claim7 := { stood := { row := cronEitherRow, standIns := [], harness := (true, "84aa60500698f2968bcb683df5d8f0975653d8deca978f567173918699f8ceb2"), looks := true }, kinds := [], alts := [], laidByText := true, laidKinds := [.data, .data, .data, .data, .sentinel, .sentinel, .data, .pinned], laidTests := true, laidLooks := .later }
def CronEitherCardSaid : Prop := Claim7.holds Tryd.pinned (.plain (OpenSpec.ofChange cronEitherSpec)) cronEitherCard

/-- THE TIED CARD OF 'matinslaw06.CronMore'. -/
def cronMoreCard : Claim7 := { stood := { row := cronMoreRow, standIns := [], harness := (true, "84aa60500698f2968bcb683df5d8f0975653d8deca978f567173918699f8ceb2"), looks := true }, kinds := [], alts := [], laidByText := true, laidKinds := [.data, .data, .data, .data, .sentinel, .sentinel, .data, .pinned], laidTests := true, laidLooks := .later }
def CronMoreCardSaid : Prop := Claim7.holds Tryd.pinned (.plain (OpenSpec.ofChange cronMoreSpec)) cronMoreCard

/-- THE SECOND FORM's CARD OF 'matinslaw06.CronBack'. -/
def cronBackUptoCard : Claim7 := { stood := { row := cronBackUptoRow, standIns := [], harness := (true, "84aa60500698f2968bcb683df5d8f0975653d8deca978f567173918699f8ceb2"), looks := true }, kinds := [], alts := [], laidByText := true, laidKinds := [.data, .data, .data, .data, .sentinel, .sentinel, .data, .pinned], laidTests := true, laidLooks := .later }
def CronBackUptoCardSaid : Prop := Claim7.holds Tryd.pinned (.plain (OpenSpec.upto cronBackSpec)) cronBackUptoCard

/-- THE SECOND FORM's CARD OF 'matinslaw06.CronLists'. -/
def cronListsUptoCard : Claim7 := { stood := { row := cronListsUptoRow, standIns := [], harness := (true, "84aa60500698f2968bcb683df5d8f0975653d8deca978f567173918699f8ceb2"), looks := true }, kinds := [], alts := [], laidByText := true, laidKinds := [.data, .data, .data, .data, .sentinel, .sentinel, .data, .pinned], laidTests := true, laidLooks := .later }
def CronListsUptoCardSaid : Prop := Claim7.holds Tryd.pinned (.plain (OpenSpec.upto cronListsSpec)) cronListsUptoCard

/-- THE SECOND FORM's CARD OF 'matinslaw06.CronEither'. -/
def cronEitherUptoCard : Claim7 := { stood := { row := cronEitherUptoRow, standIns := [], harness := (true, "84aa60500698f2968bcb683df5d8f0975653d8deca978f567173918699f8ceb2"), looks := true }, kinds := [], alts := [], laidByText := true, laidKinds := [.data, .data, .data, .data, .sentinel, .sentinel, .data, .pinned], laidTests := true, laidLooks := .later }
def CronEitherUptoCardSaid : Prop := Claim7.holds Tryd.pinned (.plain (OpenSpec.upto cronEitherSpec)) cronEitherUptoCard

/-- THE SECOND FORM's CARD OF 'matinslaw06.CronMore'. -/
def cronMoreUptoCard : Claim7 := { stood := { row := cronMoreUptoRow, standIns := [], harness := (true, "84aa60500698f2968bcb683df5d8f0975653d8deca978f567173918699f8ceb2"), looks := true }, kinds := [], alts := [], laidByText := true, laidKinds := [.data, .data, .data, .data, .sentinel, .sentinel, .data, .pinned], laidTests := true, laidLooks := .later }
def CronMoreUptoCardSaid : Prop := Claim7.holds Tryd.pinned (.plain (OpenSpec.upto cronMoreSpec)) cronMoreUptoCard
end Rows
end Go.Proofs.YtceclaaopomcnaaDoor
