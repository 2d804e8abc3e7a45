/-
  DERIVED. GIVEN WITH THE SEED: THE CARDS: each row of YtlfjocbnbceceaaGreatDoorRows.lean that lists a variable, with what it lists TIED to the program's text (the seventh form; the later family's looks); each row that meets fmt, with fmt's text TOLD by the authors' own Lean function (tested against real Go, not proved from fmt's source: count such statements apart). THE CARD IS WHAT COUNTS. Prove the row's statement (the work); the ties are given (YtlfjocbnbceceaaGreatDoorTie.lean); close each card by the builder's one call (the guide's Derived/Test/ToyasCard.lean, 'card_holds'). Laid BY PROGRAM, IN A SANDBOX (cutbox-door.mjs). By AI agents, Wed Nov 11 2026. No macro, syntax, notation, axiom, sorry.
-/
import Derived.Test.YtlfjocbnbceceaaGreatDoorRows
import GoSem.ClaimSeven
namespace Go.Proofs.YtlfjocbnbceceaaGreatDoor
namespace Rows

/-- THE TIED CARD OF 'bitextlaw25.CheckLimits'. -/
def checkLimitsCard : Claim7 := { stood := { row := checkLimitsRow, standIns := [], harness := (true, "907db1ae15659b00343a070b710f557552c9d2e77055f59bba0731c23201cc82"), looks := false }, kinds := [], alts := [], laidByText := true, laidKinds := [.data, .data, .data, .data, .pinned], laidTests := true, laidLooks := .later }
def CheckLimitsCardSaid : Prop := Claim7.holds Tryz.pinned (.plain (OpenSpec.ofChange checkLimitsSpec)) checkLimitsCard

/-- THE TIED CARD OF 'bitextlaw25.CheckValidates'. -/
def checkValidatesCard : Claim7 := { stood := { row := checkValidatesRow, standIns := [], harness := (true, "907db1ae15659b00343a070b710f557552c9d2e77055f59bba0731c23201cc82"), looks := false }, kinds := [], alts := [], laidByText := true, laidKinds := [.data, .data, .data, .data, .pinned], laidTests := true, laidLooks := .later }
def CheckValidatesCardSaid : Prop := Claim7.holds Tryz.pinned (.plain (OpenSpec.ofChange checkValidatesSpec)) checkValidatesCard

/-- THE TIED CARD OF 'bitextlaw25.CheckRuns'. -/
def checkRunsCard : Claim7 := { stood := { row := checkRunsRow, standIns := [], harness := (true, "907db1ae15659b00343a070b710f557552c9d2e77055f59bba0731c23201cc82"), looks := false }, kinds := [], alts := [], laidByText := true, laidKinds := [.data, .data, .data, .data, .pinned], laidTests := true, laidLooks := .later }
def CheckRunsCardSaid : Prop := Claim7.holds Tryz.pinned (.plain (OpenSpec.ofChange checkRunsSpec)) checkRunsCard

/-- THE TIED CARD OF 'bitextlaw25.CheckOrdered'. -/
def checkOrderedCard : Claim7 := { stood := { row := checkOrderedRow, standIns := [], harness := (true, "907db1ae15659b00343a070b710f557552c9d2e77055f59bba0731c23201cc82"), looks := false }, kinds := [], alts := [], laidByText := true, laidKinds := [.data, .data, .data, .data, .pinned], laidTests := true, laidLooks := .later }
def CheckOrderedCardSaid : Prop := Claim7.holds Tryz.pinned (.plain (OpenSpec.ofChange checkOrderedSpec)) checkOrderedCard

/-- THE TIED CARD OF 'bitextlaw25.CheckSelf'. -/
def checkSelfCard : Claim7 := { stood := { row := checkSelfRow, standIns := [], harness := (true, "907db1ae15659b00343a070b710f557552c9d2e77055f59bba0731c23201cc82"), looks := false }, kinds := [], alts := [], laidByText := true, laidKinds := [.data, .data, .data, .data, .pinned], laidTests := true, laidLooks := .later }
def CheckSelfCardSaid : Prop := Claim7.holds Tryz.pinned (.plain (OpenSpec.ofChange checkSelfSpec)) checkSelfCard

/-- THE TIED CARD OF 'bitextlaw25.CheckLevels'. -/
def checkLevelsCard : Claim7 := { stood := { row := checkLevelsRow, standIns := [], harness := (true, "907db1ae15659b00343a070b710f557552c9d2e77055f59bba0731c23201cc82"), looks := false }, kinds := [], alts := [], laidByText := true, laidKinds := [.data, .data, .data, .data, .pinned], laidTests := true, laidLooks := .later }
def CheckLevelsCardSaid : Prop := Claim7.holds Tryz.pinned (.plain (OpenSpec.ofChange checkLevelsSpec)) checkLevelsCard

/-- THE TIED CARD OF 'bitextlaw25.CheckCompatible'. -/
def checkCompatibleCard : Claim7 := { stood := { row := checkCompatibleRow, standIns := [], harness := (true, "907db1ae15659b00343a070b710f557552c9d2e77055f59bba0731c23201cc82"), looks := false }, kinds := [], alts := [], laidByText := true, laidKinds := [.data, .data, .data, .data, .pinned], laidTests := true, laidLooks := .later }
def CheckCompatibleCardSaid : Prop := Claim7.holds Tryz.pinned (.plain (OpenSpec.ofChange checkCompatibleSpec)) checkCompatibleCard

/-- THE TIED CARD OF 'bitextlaw25.CheckRefuses'. -/
def checkRefusesCard : Claim7 := { stood := { row := checkRefusesRow, standIns := [], harness := (true, "907db1ae15659b00343a070b710f557552c9d2e77055f59bba0731c23201cc82"), looks := false }, kinds := [], alts := [], laidByText := true, laidKinds := [.data, .data, .data, .data, .pinned], laidTests := true, laidLooks := .later }
def CheckRefusesCardSaid : Prop := Claim7.holds Tryz.pinned (.plain (OpenSpec.ofChange checkRefusesSpec)) checkRefusesCard

/-- THE SECOND FORM's CARD OF 'bitextlaw25.CheckLimits'. -/
def checkLimitsUptoCard : Claim7 := { stood := { row := checkLimitsUptoRow, standIns := [], harness := (true, "907db1ae15659b00343a070b710f557552c9d2e77055f59bba0731c23201cc82"), looks := false }, kinds := [], alts := [], laidByText := true, laidKinds := [.data, .data, .data, .data, .pinned], laidTests := true, laidLooks := .later }
def CheckLimitsUptoCardSaid : Prop := Claim7.holds Tryz.pinned (.plain (OpenSpec.upto checkLimitsSpec)) checkLimitsUptoCard

/-- THE SECOND FORM's CARD OF 'bitextlaw25.CheckValidates'. -/
def checkValidatesUptoCard : Claim7 := { stood := { row := checkValidatesUptoRow, standIns := [], harness := (true, "907db1ae15659b00343a070b710f557552c9d2e77055f59bba0731c23201cc82"), looks := false }, kinds := [], alts := [], laidByText := true, laidKinds := [.data, .data, .data, .data, .pinned], laidTests := true, laidLooks := .later }
def CheckValidatesUptoCardSaid : Prop := Claim7.holds Tryz.pinned (.plain (OpenSpec.upto checkValidatesSpec)) checkValidatesUptoCard

/-- THE SECOND FORM's CARD OF 'bitextlaw25.CheckRuns'. -/
def checkRunsUptoCard : Claim7 := { stood := { row := checkRunsUptoRow, standIns := [], harness := (true, "907db1ae15659b00343a070b710f557552c9d2e77055f59bba0731c23201cc82"), looks := false }, kinds := [], alts := [], laidByText := true, laidKinds := [.data, .data, .data, .data, .pinned], laidTests := true, laidLooks := .later }
def CheckRunsUptoCardSaid : Prop := Claim7.holds Tryz.pinned (.plain (OpenSpec.upto checkRunsSpec)) checkRunsUptoCard

/-- THE SECOND FORM's CARD OF 'bitextlaw25.CheckOrdered'. -/
def checkOrderedUptoCard : Claim7 := { stood := { row := checkOrderedUptoRow, standIns := [], harness := (true, "907db1ae15659b00343a070b710f557552c9d2e77055f59bba0731c23201cc82"), looks := false }, kinds := [], alts := [], laidByText := true, laidKinds := [.data, .data, .data, .data, .pinned], laidTests := true, laidLooks := .later }
def CheckOrderedUptoCardSaid : Prop := Claim7.holds Tryz.pinned (.plain (OpenSpec.upto checkOrderedSpec)) checkOrderedUptoCard

/-- THE SECOND FORM's CARD OF 'bitextlaw25.CheckSelf'. -/
def checkSelfUptoCard : Claim7 := { stood := { row := checkSelfUptoRow, standIns := [], harness := (true, "907db1ae15659b00343a070b710f557552c9d2e77055f59bba0731c23201cc82"), looks := false }, kinds := [], alts := [], laidByText := true, laidKinds := [.data, .data, .data, .data, .pinned], laidTests := true, laidLooks := .later }
def CheckSelfUptoCardSaid : Prop := Claim7.holds Tryz.pinned (.plain (OpenSpec.upto checkSelfSpec)) checkSelfUptoCard

/-- THE SECOND FORM's CARD OF 'bitextlaw25.CheckLevels'. -/
def checkLevelsUptoCard : Claim7 := { stood := { row := checkLevelsUptoRow, standIns := [], harness := (true, "907db1ae15659b00343a070b710f557552c9d2e77055f59bba0731c23201cc82"), looks := false }, kinds := [], alts := [], laidByText := true, laidKinds := [.data, .data, .data, .data, .pinned], laidTests := true, laidLooks := .later }
def CheckLevelsUptoCardSaid : Prop := Claim7.holds Tryz.pinned (.plain (OpenSpec.upto checkLevelsSpec)) checkLevelsUptoCard

/-- THE SECOND FORM's CARD OF 'bitextlaw25.CheckCompatible'. -/
def checkCompatibleUptoCard : Claim7 := { stood := { row := checkCompatibleUptoRow, standIns := [], harness := (true, "907db1ae15659b00343a070b710f557552c9d2e77055f59bba0731c23201cc82"), looks := false }, kinds := [], alts := [], laidByText := true, laidKinds := [.data, .data, .data, .data, .pinned], laidTests := true, laidLooks := .later }
def CheckCompatibleUptoCardSaid : Prop := Claim7.holds Tryz.pinned (.plain (OpenSpec.upto checkCompatibleSpec)) checkCompatibleUptoCard

/-- THE SECOND FORM's CARD OF 'bitextlaw25.CheckRefuses'. -/
def checkRefusesUptoCard : Claim7 := { stood := { row := checkRefusesUptoRow, standIns := [], harness := (true, "907db1ae15659b00343a070b710f557552c9d2e77055f59bba0731c23201cc82"), looks := false }, kinds := [], alts := [], laidByText := true, laidKinds := [.data, .data, .data, .data, .pinned], laidTests := true, laidLooks := .later }
def CheckRefusesUptoCardSaid : Prop := Claim7.holds Tryz.pinned (.plain (OpenSpec.upto checkRefusesSpec)) checkRefusesUptoCard
end Rows
end Go.Proofs.YtlfjocbnbceceaaGreatDoor
