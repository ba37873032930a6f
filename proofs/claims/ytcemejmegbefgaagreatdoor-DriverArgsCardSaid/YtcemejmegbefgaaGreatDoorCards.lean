/-
  DERIVED. GIVEN WITH THE SEED: THE CARDS: each row of YtcemejmegbefgaaGreatDoorRows.lean that lists a variable, with what it lists TIED to the program's text (the seventh form; the later family's looks); each row that meets fmt, with fmt's text TOLD by the authors' own Lean function (tested against real Go, not proved from fmt's source: count such statements apart). THE CARD IS WHAT COUNTS. Prove the row's statement (the work); the ties are given (YtcemejmegbefgaaGreatDoorTie.lean); close each card by the builder's one call (the guide's Derived/Test/ToyasCard.lean, 'card_holds'). Laid BY PROGRAM, IN A SANDBOX (cutbox-door.mjs). By AI agents, Wed Nov 11 2026. No macro, syntax, notation, axiom, sorry.
-/
import Derived.Test.YtcemejmegbefgaaGreatDoorRows
import GoSem.ClaimSeven
namespace Go.Proofs.YtcemejmegbefgaaGreatDoor
namespace Rows

/-- THE TIED CARD OF 'emendationlaw17.WordsSpans'. -/
def wordsSpansCard : Claim7 := { stood := { row := wordsSpansRow, standIns := [], harness := (true, "963a2704b1532683a1b4fa3e279bae82c4fdfe2c063d9760b979aa73ddecfeb5"), looks := true }, kinds := [], alts := [], laidByText := true, laidKinds := [.data, .pinned], laidTests := true, laidLooks := .later }
def WordsSpansCardSaid : Prop := Claim7.holds Tryz.pinned (.plain (OpenSpec.ofChange wordsSpansSpec)) wordsSpansCard

/-- THE TIED CARD OF 'emendationlaw17.WordsSides'. -/
def wordsSidesCard : Claim7 := { stood := { row := wordsSidesRow, standIns := [], harness := (true, "963a2704b1532683a1b4fa3e279bae82c4fdfe2c063d9760b979aa73ddecfeb5"), looks := true }, kinds := [], alts := [], laidByText := true, laidKinds := [.data, .pinned], laidTests := true, laidLooks := .later }
def WordsSidesCardSaid : Prop := Claim7.holds Tryz.pinned (.plain (OpenSpec.ofChange wordsSidesSpec)) wordsSidesCard

/-- THE TIED CARD OF 'emendationlaw20.DriverDecodes'. -/
def driverDecodesCard : Claim7 := { stood := { row := driverDecodesRow, standIns := [], harness := (true, "963a2704b1532683a1b4fa3e279bae82c4fdfe2c063d9760b979aa73ddecfeb5"), looks := true }, kinds := [], alts := [], laidByText := true, laidKinds := [.data, .data, .data, .data, .sentinel, .sentinel, .pinned], laidTests := true, laidLooks := .later }
def DriverDecodesCardSaid : Prop := Claim7.holds Tryz.pinned (.plain (OpenSpec.ofChange driverDecodesSpec)) driverDecodesCard

/-- THE TIED CARD OF 'emendationlaw20.DriverArgs'. -/
def driverArgsCard : Claim7 := { stood := { row := driverArgsRow, standIns := [], harness := (true, "963a2704b1532683a1b4fa3e279bae82c4fdfe2c063d9760b979aa73ddecfeb5"), looks := true }, kinds := [], alts := [], laidByText := true, laidKinds := [.data, .data, .data, .data, .sentinel, .sentinel, .pinned], laidTests := true, laidLooks := .later }
def DriverArgsCardSaid : Prop := Claim7.holds Tryz.pinned (.plain (OpenSpec.ofChange driverArgsSpec)) driverArgsCard

/-- THE SECOND FORM's CARD OF 'emendationlaw17.WordsSpans'. -/
def wordsSpansUptoCard : Claim7 := { stood := { row := wordsSpansUptoRow, standIns := [], harness := (true, "963a2704b1532683a1b4fa3e279bae82c4fdfe2c063d9760b979aa73ddecfeb5"), looks := true }, kinds := [], alts := [], laidByText := true, laidKinds := [.data, .pinned], laidTests := true, laidLooks := .later }
def WordsSpansUptoCardSaid : Prop := Claim7.holds Tryz.pinned (.plain (OpenSpec.upto wordsSpansSpec)) wordsSpansUptoCard

/-- THE SECOND FORM's CARD OF 'emendationlaw17.WordsSides'. -/
def wordsSidesUptoCard : Claim7 := { stood := { row := wordsSidesUptoRow, standIns := [], harness := (true, "963a2704b1532683a1b4fa3e279bae82c4fdfe2c063d9760b979aa73ddecfeb5"), looks := true }, kinds := [], alts := [], laidByText := true, laidKinds := [.data, .pinned], laidTests := true, laidLooks := .later }
def WordsSidesUptoCardSaid : Prop := Claim7.holds Tryz.pinned (.plain (OpenSpec.upto wordsSidesSpec)) wordsSidesUptoCard

/-- THE SECOND FORM's CARD OF 'emendationlaw20.DriverDecodes'. -/
def driverDecodesUptoCard : Claim7 := { stood := { row := driverDecodesUptoRow, standIns := [], harness := (true, "963a2704b1532683a1b4fa3e279bae82c4fdfe2c063d9760b979aa73ddecfeb5"), looks := true }, kinds := [], alts := [], laidByText := true, laidKinds := [.data, .data, .data, .data, .sentinel, .sentinel, .pinned], laidTests := true, laidLooks := .later }
def DriverDecodesUptoCardSaid : Prop := Claim7.holds Tryz.pinned (.plain (OpenSpec.upto driverDecodesSpec)) driverDecodesUptoCard

/-- THE SECOND FORM's CARD OF 'emendationlaw20.DriverArgs'. -/
def driverArgsUptoCard : Claim7 := { stood := { row := driverArgsUptoRow, standIns := [], harness := (true, "963a2704b1532683a1b4fa3e279bae82c4fdfe2c063d9760b979aa73ddecfeb5"), looks := true }, kinds := [], alts := [], laidByText := true, laidKinds := [.data, .data, .data, .data, .sentinel, .sentinel, .pinned], laidTests := true, laidLooks := .later }
def DriverArgsUptoCardSaid : Prop := Claim7.holds Tryz.pinned (.plain (OpenSpec.upto driverArgsSpec)) driverArgsUptoCard
end Rows
end Go.Proofs.YtcemejmegbefgaaGreatDoor
