/-
  DERIVED. GIVEN WITH THE SEED: THE CARDS: each row of YtkklomiipkipnaaGreatDoorRows.lean that lists a variable, with what it lists TIED to the program's text (the seventh form; the later family's looks); each row that meets fmt, with fmt's text TOLD by the authors' own Lean function (tested against real Go, not proved from fmt's source: count such statements apart). THE CARD IS WHAT COUNTS. Prove the row's statement (the work); the ties are given (YtkklomiipkipnaaGreatDoorTie.lean); close each card by the builder's one call (the guide's Derived/Test/ToyasCard.lean, 'card_holds'). Laid BY PROGRAM, IN A SANDBOX (cutbox-door.mjs). By AI agents, Wed Nov 11 2026. No macro, syntax, notation, axiom, sorry.
-/
import Derived.Test.YtkklomiipkipnaaGreatDoorRows
import GoSem.ClaimSeven
namespace Go.Proofs.YtkklomiipkipnaaGreatDoor
namespace Rows

/-- THE TIED CARD OF 'bitextlaw24.TermSpots'. -/
def termSpotsCard : Claim7 := { stood := { row := termSpotsRow, standIns := [], harness := (true, "f6762b73534b532382139b3c71bdd7e26ece7fc20497a7f332a9f31b03185f5f"), looks := false }, kinds := [], alts := [], laidByText := true, laidKinds := [.data, .pinned], laidTests := true, laidLooks := .later }
def TermSpotsCardSaid : Prop := Claim7.holds Tryz.pinned (.plain (OpenSpec.ofChange termSpotsSpec)) termSpotsCard

/-- THE TIED CARD OF 'bitextlaw24.TermOrdered'. -/
def termOrderedCard : Claim7 := { stood := { row := termOrderedRow, standIns := [], harness := (true, "f6762b73534b532382139b3c71bdd7e26ece7fc20497a7f332a9f31b03185f5f"), looks := false }, kinds := [], alts := [], laidByText := true, laidKinds := [.data, .pinned], laidTests := true, laidLooks := .later }
def TermOrderedCardSaid : Prop := Claim7.holds Tryz.pinned (.plain (OpenSpec.ofChange termOrderedSpec)) termOrderedCard

/-- THE TIED CARD OF 'bitextlaw24.TermLongest'. -/
def termLongestCard : Claim7 := { stood := { row := termLongestRow, standIns := [], harness := (true, "f6762b73534b532382139b3c71bdd7e26ece7fc20497a7f332a9f31b03185f5f"), looks := false }, kinds := [], alts := [], laidByText := true, laidKinds := [.data, .pinned], laidTests := true, laidLooks := .later }
def TermLongestCardSaid : Prop := Claim7.holds Tryz.pinned (.plain (OpenSpec.ofChange termLongestSpec)) termLongestCard

/-- THE TIED CARD OF 'bitextlaw24.TermHas'. -/
def termHasCard : Claim7 := { stood := { row := termHasRow, standIns := [], harness := (true, "f6762b73534b532382139b3c71bdd7e26ece7fc20497a7f332a9f31b03185f5f"), looks := false }, kinds := [], alts := [], laidByText := true, laidKinds := [.data, .pinned], laidTests := true, laidLooks := .later }
def TermHasCardSaid : Prop := Claim7.holds Tryz.pinned (.plain (OpenSpec.ofChange termHasSpec)) termHasCard

/-- THE TIED CARD OF 'bitextlaw24.TermExtends'. -/
def termExtendsCard : Claim7 := { stood := { row := termExtendsRow, standIns := [], harness := (true, "f6762b73534b532382139b3c71bdd7e26ece7fc20497a7f332a9f31b03185f5f"), looks := false }, kinds := [], alts := [], laidByText := true, laidKinds := [.data, .pinned], laidTests := true, laidLooks := .later }
def TermExtendsCardSaid : Prop := Claim7.holds Tryz.pinned (.plain (OpenSpec.ofChange termExtendsSpec)) termExtendsCard

/-- THE TIED CARD OF 'bitextlaw24.TermJudges'. -/
def termJudgesCard : Claim7 := { stood := { row := termJudgesRow, standIns := [], harness := (true, "f6762b73534b532382139b3c71bdd7e26ece7fc20497a7f332a9f31b03185f5f"), looks := false }, kinds := [], alts := [], laidByText := true, laidKinds := [.data, .pinned], laidTests := true, laidLooks := .later }
def TermJudgesCardSaid : Prop := Claim7.holds Tryz.pinned (.plain (OpenSpec.ofChange termJudgesSpec)) termJudgesCard

/-- THE TIED CARD OF 'bitextlaw24.TermLimits'. -/
def termLimitsCard : Claim7 := { stood := { row := termLimitsRow, standIns := [], harness := (true, "f6762b73534b532382139b3c71bdd7e26ece7fc20497a7f332a9f31b03185f5f"), looks := false }, kinds := [], alts := [], laidByText := true, laidKinds := [.data, .pinned], laidTests := true, laidLooks := .later }
def TermLimitsCardSaid : Prop := Claim7.holds Tryz.pinned (.plain (OpenSpec.ofChange termLimitsSpec)) termLimitsCard

/-- THE TIED CARD OF 'bitextlaw24.TermValidates'. -/
def termValidatesCard : Claim7 := { stood := { row := termValidatesRow, standIns := [], harness := (true, "f6762b73534b532382139b3c71bdd7e26ece7fc20497a7f332a9f31b03185f5f"), looks := false }, kinds := [], alts := [], laidByText := true, laidKinds := [.data, .pinned], laidTests := true, laidLooks := .later }
def TermValidatesCardSaid : Prop := Claim7.holds Tryz.pinned (.plain (OpenSpec.ofChange termValidatesSpec)) termValidatesCard

/-- THE SECOND FORM's CARD OF 'bitextlaw24.TermSpots'. -/
def termSpotsUptoCard : Claim7 := { stood := { row := termSpotsUptoRow, standIns := [], harness := (true, "f6762b73534b532382139b3c71bdd7e26ece7fc20497a7f332a9f31b03185f5f"), looks := false }, kinds := [], alts := [], laidByText := true, laidKinds := [.data, .pinned], laidTests := true, laidLooks := .later }
def TermSpotsUptoCardSaid : Prop := Claim7.holds Tryz.pinned (.plain (OpenSpec.upto termSpotsSpec)) termSpotsUptoCard

/-- THE SECOND FORM's CARD OF 'bitextlaw24.TermOrdered'. -/
def termOrderedUptoCard : Claim7 := { stood := { row := termOrderedUptoRow, standIns := [], harness := (true, "f6762b73534b532382139b3c71bdd7e26ece7fc20497a7f332a9f31b03185f5f"), looks := false }, kinds := [], alts := [], laidByText := true, laidKinds := [.data, .pinned], laidTests := true, laidLooks := .later }
def TermOrderedUptoCardSaid : Prop := Claim7.holds Tryz.pinned (.plain (OpenSpec.upto termOrderedSpec)) termOrderedUptoCard

/-- THE SECOND FORM's CARD OF 'bitextlaw24.TermLongest'. -/
def termLongestUptoCard : Claim7 := { stood := { row := termLongestUptoRow, standIns := [], harness := (true, "f6762b73534b532382139b3c71bdd7e26ece7fc20497a7f332a9f31b03185f5f"), looks := false }, kinds := [], alts := [], laidByText := true, laidKinds := [.data, .pinned], laidTests := true, laidLooks := .later }
def TermLongestUptoCardSaid : Prop := Claim7.holds Tryz.pinned (.plain (OpenSpec.upto termLongestSpec)) termLongestUptoCard

/-- THE SECOND FORM's CARD OF 'bitextlaw24.TermHas'. -/
def termHasUptoCard : Claim7 := { stood := { row := termHasUptoRow, standIns := [], harness := (true, "f6762b73534b532382139b3c71bdd7e26ece7fc20497a7f332a9f31b03185f5f"), looks := false }, kinds := [], alts := [], laidByText := true, laidKinds := [.data, .pinned], laidTests := true, laidLooks := .later }
def TermHasUptoCardSaid : Prop := Claim7.holds Tryz.pinned (.plain (OpenSpec.upto termHasSpec)) termHasUptoCard

/-- THE SECOND FORM's CARD OF 'bitextlaw24.TermExtends'. -/
def termExtendsUptoCard : Claim7 := { stood := { row := termExtendsUptoRow, standIns := [], harness := (true, "f6762b73534b532382139b3c71bdd7e26ece7fc20497a7f332a9f31b03185f5f"), looks := false }, kinds := [], alts := [], laidByText := true, laidKinds := [.data, .pinned], laidTests := true, laidLooks := .later }
def TermExtendsUptoCardSaid : Prop := Claim7.holds Tryz.pinned (.plain (OpenSpec.upto termExtendsSpec)) termExtendsUptoCard

/-- THE SECOND FORM's CARD OF 'bitextlaw24.TermJudges'. -/
def termJudgesUptoCard : Claim7 := { stood := { row := termJudgesUptoRow, standIns := [], harness := (true, "f6762b73534b532382139b3c71bdd7e26ece7fc20497a7f332a9f31b03185f5f"), looks := false }, kinds := [], alts := [], laidByText := true, laidKinds := [.data, .pinned], laidTests := true, laidLooks := .later }
def TermJudgesUptoCardSaid : Prop := Claim7.holds Tryz.pinned (.plain (OpenSpec.upto termJudgesSpec)) termJudgesUptoCard

/-- THE SECOND FORM's CARD OF 'bitextlaw24.TermLimits'. -/
def termLimitsUptoCard : Claim7 := { stood := { row := termLimitsUptoRow, standIns := [], harness := (true, "f6762b73534b532382139b3c71bdd7e26ece7fc20497a7f332a9f31b03185f5f"), looks := false }, kinds := [], alts := [], laidByText := true, laidKinds := [.data, .pinned], laidTests := true, laidLooks := .later }
def TermLimitsUptoCardSaid : Prop := Claim7.holds Tryz.pinned (.plain (OpenSpec.upto termLimitsSpec)) termLimitsUptoCard

/-- THE SECOND FORM's CARD OF 'bitextlaw24.TermValidates'. -/
def termValidatesUptoCard : Claim7 := { stood := { row := termValidatesUptoRow, standIns := [], harness := (true, "f6762b73534b532382139b3c71bdd7e26ece7fc20497a7f332a9f31b03185f5f"), looks := false }, kinds := [], alts := [], laidByText := true, laidKinds := [.data, .pinned], laidTests := true, laidLooks := .later }
def TermValidatesUptoCardSaid : Prop := Claim7.holds Tryz.pinned (.plain (OpenSpec.upto termValidatesSpec)) termValidatesUptoCard
end Rows
end Go.Proofs.YtkklomiipkipnaaGreatDoor
