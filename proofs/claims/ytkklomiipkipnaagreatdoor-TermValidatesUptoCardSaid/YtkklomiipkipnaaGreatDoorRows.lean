/-
  NARROWER THAN 'FOR EVERY INPUT', by the rows' own cells (each row's printed sentence says how): TermSpots: laid · TermOrdered: laid · TermLongest: laid · TermHas: laid · TermExtends: laid · TermJudges: laid · TermLimits: laid · TermValidates: laid.
  DERIVED. THE GIVEN ROWS OF THIS SEAT. 8 by the template 'for every input the law returns true; each argument reads behind the call as it read before'; 0 by the template 'total and deterministic' (their statements: YtkklomiipkipnaaGreatDoorTotals.lean).
  GIVEN WITH THE SEED: the statements are not yours to turn. If you find one false, say at which input.
  Laid BY PROGRAM, IN A SANDBOX (cutbox-rows.mjs): the forced cells as the released guide's own fill.sh prints them over the translation 51e8b95f15f527e2… (all of the seat's roots in one cut). By AI agents, Wed Nov 11 2026. No macro, syntax, notation, axiom, sorry.
-/
import Derived.Test.YtkklomiipkipnaaGreatDoorChecked
import GoSem.PinnedTables
import GoSem.Claim
import GoSem.ClaimJoined
import GoSem.ClaimMapViews
import Derived.JoinedTies
import Derived.KernelRfl
namespace Go.Proofs.YtkklomiipkipnaaGreatDoor
/- THE CELL 'sum', in the pinned program and in every row, IS THE sha256 OF THE DUMP (.gsa) THAT YtkklomiipkipnaaGreatDoorProg.lean LOADS. Nothing in Lean hashes anything: it is a label: what it is worth is what the hold of that sum in a sandbox is worth. -/
noncomputable def Tryz.pinned : Pinned := { name := "ytkklomiipkipnaagreatdoor", sum := "51e8b95f15f527e26a34f28a63f9e8ca3866c4ca4cb7af5c06c0e3a90e1bea9e", checked := Tryz.checked }
namespace Rows
def none {H : Type} : Left H := { results := [], args := [] }

/- WHAT THE LISTED PACKAGE-LEVEL VARIABLES READ AS WHEN THE CALL BEGINS. Each datum BY PROGRAM (the guide's laid-datum.mjs) off the statement by which the dump's own 'gosem.cut.vars' lays the variable. In a bare row this is a premise. The card (YtkklomiipkipnaaGreatDoorCards.lean) ties it to the program's text. -/
def laid_unicode_utf8_acceptRanges {H : Type} : DataW H := .agg [.agg [.lit (.int .u8 128), .lit (.int .u8 191)], .agg [.lit (.int .u8 160), .lit (.int .u8 191)], .agg [.lit (.int .u8 128), .lit (.int .u8 159)], .agg [.lit (.int .u8 144), .lit (.int .u8 191)], .agg [.lit (.int .u8 128), .lit (.int .u8 143)], .agg [.lit (.int .u8 0), .lit (.int .u8 0)], .agg [.lit (.int .u8 0), .lit (.int .u8 0)], .agg [.lit (.int .u8 0), .lit (.int .u8 0)], .agg [.lit (.int .u8 0), .lit (.int .u8 0)], .agg [.lit (.int .u8 0), .lit (.int .u8 0)], .agg [.lit (.int .u8 0), .lit (.int .u8 0)], .agg [.lit (.int .u8 0), .lit (.int .u8 0)], .agg [.lit (.int .u8 0), .lit (.int .u8 0)], .agg [.lit (.int .u8 0), .lit (.int .u8 0)], .agg [.lit (.int .u8 0), .lit (.int .u8 0)], .agg [.lit (.int .u8 0), .lit (.int .u8 0)]]
/-- One of Go's own tables, pinned by name: the form's constant. -/
def laid_unicode_utf8_first : DataW Unit := Go.Pinned.utf8First

/-- 'bitextlaw24.TermSpots': WHATEVER THE INPUT: true; the input reads as it did. -/
def termSpotsSpec : ChangeSpec := { name := "termSpots", fn := fun _ => fun
  | [d1, d2, d3, d4] => { results := [.lit (.bool true)], args := [d1, d2, d3, d4] }
  | _ => none }
def termSpotsRow : OpenClaim := { program := "ytkklomiipkipnaagreatdoor", sum := "51e8b95f15f527e26a34f28a63f9e8ca3866c4ca4cb7af5c06c0e3a90e1bea9e", func := "bitext/bitextlaw24.TermSpots", spec := "termSpots", inPlace := ["internal/bytealg.CountString", "internal/bytealg.IndexByteString", "internal/bytealg.IndexString"], unfollowed := true, recurses := true, named := ["unicode/utf8.first", "unicode/utf8.acceptRanges", "internal/bytealg.MaxLen"], apart := false, laid := [("unicode/utf8.acceptRanges", laid_unicode_utf8_acceptRanges), ("unicode/utf8.first", laid_unicode_utf8_first)] }
def TermSpotsSaid : Prop := termSpotsRow.holds Tryz.pinned (OpenSpec.ofChange termSpotsSpec)

/-- ITS FALSE NEIGHBOUR: 'it returns false'. Refute it at one input. -/
def termSpotsWrong : ChangeSpec := { name := "termSpots", fn := fun _ => fun
  | [d1, d2, d3, d4] => { results := [.lit (.bool false)], args := [d1, d2, d3, d4] }
  | _ => none }
def TermSpotsWrongFalsely : Prop := termSpotsRow.holds Tryz.pinned (OpenSpec.ofChange termSpotsWrong)

/-- 'bitextlaw24.TermOrdered': WHATEVER THE INPUT: true; the input reads as it did. -/
def termOrderedSpec : ChangeSpec := { name := "termOrdered", fn := fun _ => fun
  | [d] => { results := [.lit (.bool true)], args := [d] }
  | _ => none }
def termOrderedRow : OpenClaim := { program := "ytkklomiipkipnaagreatdoor", sum := "51e8b95f15f527e26a34f28a63f9e8ca3866c4ca4cb7af5c06c0e3a90e1bea9e", func := "bitext/bitextlaw24.TermOrdered", spec := "termOrdered", inPlace := ["internal/bytealg.CountString", "internal/bytealg.IndexByteString", "internal/bytealg.IndexString"], unfollowed := true, recurses := true, named := ["unicode/utf8.first", "unicode/utf8.acceptRanges", "internal/bytealg.MaxLen"], apart := false, laid := [("unicode/utf8.acceptRanges", laid_unicode_utf8_acceptRanges), ("unicode/utf8.first", laid_unicode_utf8_first)] }
def TermOrderedSaid : Prop := termOrderedRow.holds Tryz.pinned (OpenSpec.ofChange termOrderedSpec)

/-- ITS FALSE NEIGHBOUR: 'it returns false'. Refute it at one input. -/
def termOrderedWrong : ChangeSpec := { name := "termOrdered", fn := fun _ => fun
  | [d] => { results := [.lit (.bool false)], args := [d] }
  | _ => none }
def TermOrderedWrongFalsely : Prop := termOrderedRow.holds Tryz.pinned (OpenSpec.ofChange termOrderedWrong)

/-- 'bitextlaw24.TermLongest': WHATEVER THE INPUT: true; the input reads as it did. -/
def termLongestSpec : ChangeSpec := { name := "termLongest", fn := fun _ => fun
  | [d1, d2] => { results := [.lit (.bool true)], args := [d1, d2] }
  | _ => none }
def termLongestRow : OpenClaim := { program := "ytkklomiipkipnaagreatdoor", sum := "51e8b95f15f527e26a34f28a63f9e8ca3866c4ca4cb7af5c06c0e3a90e1bea9e", func := "bitext/bitextlaw24.TermLongest", spec := "termLongest", inPlace := ["internal/bytealg.CountString", "internal/bytealg.IndexByteString", "internal/bytealg.IndexString"], unfollowed := true, recurses := true, named := ["unicode/utf8.first", "unicode/utf8.acceptRanges", "internal/bytealg.MaxLen"], apart := false, laid := [("unicode/utf8.acceptRanges", laid_unicode_utf8_acceptRanges), ("unicode/utf8.first", laid_unicode_utf8_first)] }
def TermLongestSaid : Prop := termLongestRow.holds Tryz.pinned (OpenSpec.ofChange termLongestSpec)

/-- ITS FALSE NEIGHBOUR: 'it returns false'. Refute it at one input. -/
def termLongestWrong : ChangeSpec := { name := "termLongest", fn := fun _ => fun
  | [d1, d2] => { results := [.lit (.bool false)], args := [d1, d2] }
  | _ => none }
def TermLongestWrongFalsely : Prop := termLongestRow.holds Tryz.pinned (OpenSpec.ofChange termLongestWrong)

/-- 'bitextlaw24.TermHas': WHATEVER THE INPUT: true; the input reads as it did. -/
def termHasSpec : ChangeSpec := { name := "termHas", fn := fun _ => fun
  | [d1, d2, d3] => { results := [.lit (.bool true)], args := [d1, d2, d3] }
  | _ => none }
def termHasRow : OpenClaim := { program := "ytkklomiipkipnaagreatdoor", sum := "51e8b95f15f527e26a34f28a63f9e8ca3866c4ca4cb7af5c06c0e3a90e1bea9e", func := "bitext/bitextlaw24.TermHas", spec := "termHas", inPlace := ["internal/bytealg.CountString", "internal/bytealg.IndexByteString", "internal/bytealg.IndexString"], unfollowed := true, recurses := true, named := ["unicode/utf8.first", "unicode/utf8.acceptRanges", "internal/bytealg.MaxLen"], apart := false, laid := [("unicode/utf8.acceptRanges", laid_unicode_utf8_acceptRanges), ("unicode/utf8.first", laid_unicode_utf8_first)] }
def TermHasSaid : Prop := termHasRow.holds Tryz.pinned (OpenSpec.ofChange termHasSpec)

/-- ITS FALSE NEIGHBOUR: 'it returns false'. Refute it at one input. -/
def termHasWrong : ChangeSpec := { name := "termHas", fn := fun _ => fun
  | [d1, d2, d3] => { results := [.lit (.bool false)], args := [d1, d2, d3] }
  | _ => none }
def TermHasWrongFalsely : Prop := termHasRow.holds Tryz.pinned (OpenSpec.ofChange termHasWrong)

/-- 'bitextlaw24.TermExtends': WHATEVER THE INPUT: true; the input reads as it did. -/
def termExtendsSpec : ChangeSpec := { name := "termExtends", fn := fun _ => fun
  | [d1, d2] => { results := [.lit (.bool true)], args := [d1, d2] }
  | _ => none }
def termExtendsRow : OpenClaim := { program := "ytkklomiipkipnaagreatdoor", sum := "51e8b95f15f527e26a34f28a63f9e8ca3866c4ca4cb7af5c06c0e3a90e1bea9e", func := "bitext/bitextlaw24.TermExtends", spec := "termExtends", inPlace := ["internal/bytealg.CountString", "internal/bytealg.IndexByteString", "internal/bytealg.IndexString"], unfollowed := true, recurses := true, named := ["unicode/utf8.first", "unicode/utf8.acceptRanges", "internal/bytealg.MaxLen"], apart := false, laid := [("unicode/utf8.acceptRanges", laid_unicode_utf8_acceptRanges), ("unicode/utf8.first", laid_unicode_utf8_first)] }
def TermExtendsSaid : Prop := termExtendsRow.holds Tryz.pinned (OpenSpec.ofChange termExtendsSpec)

/-- ITS FALSE NEIGHBOUR: 'it returns false'. Refute it at one input. -/
def termExtendsWrong : ChangeSpec := { name := "termExtends", fn := fun _ => fun
  | [d1, d2] => { results := [.lit (.bool false)], args := [d1, d2] }
  | _ => none }
def TermExtendsWrongFalsely : Prop := termExtendsRow.holds Tryz.pinned (OpenSpec.ofChange termExtendsWrong)

/-- 'bitextlaw24.TermJudges': WHATEVER THE INPUT: true; the input reads as it did. -/
def termJudgesSpec : ChangeSpec := { name := "termJudges", fn := fun _ => fun
  | [d1, d2, d3, d4, d5] => { results := [.lit (.bool true)], args := [d1, d2, d3, d4, d5] }
  | _ => none }
def termJudgesRow : OpenClaim := { program := "ytkklomiipkipnaagreatdoor", sum := "51e8b95f15f527e26a34f28a63f9e8ca3866c4ca4cb7af5c06c0e3a90e1bea9e", func := "bitext/bitextlaw24.TermJudges", spec := "termJudges", inPlace := ["internal/bytealg.CountString", "internal/bytealg.IndexByteString", "internal/bytealg.IndexString"], unfollowed := true, recurses := true, named := ["unicode/utf8.first", "unicode/utf8.acceptRanges", "internal/bytealg.MaxLen"], apart := false, laid := [("unicode/utf8.acceptRanges", laid_unicode_utf8_acceptRanges), ("unicode/utf8.first", laid_unicode_utf8_first)] }
def TermJudgesSaid : Prop := termJudgesRow.holds Tryz.pinned (OpenSpec.ofChange termJudgesSpec)

/-- ITS FALSE NEIGHBOUR: 'it returns false'. Refute it at one input. -/
def termJudgesWrong : ChangeSpec := { name := "termJudges", fn := fun _ => fun
  | [d1, d2, d3, d4, d5] => { results := [.lit (.bool false)], args := [d1, d2, d3, d4, d5] }
  | _ => none }
def TermJudgesWrongFalsely : Prop := termJudgesRow.holds Tryz.pinned (OpenSpec.ofChange termJudgesWrong)

/-- 'bitextlaw24.TermLimits': WHATEVER THE INPUT: true; the input reads as it did. -/
def termLimitsSpec : ChangeSpec := { name := "termLimits", fn := fun _ => fun
  | [d1, d2, d3, d4] => { results := [.lit (.bool true)], args := [d1, d2, d3, d4] }
  | _ => none }
def termLimitsRow : OpenClaim := { program := "ytkklomiipkipnaagreatdoor", sum := "51e8b95f15f527e26a34f28a63f9e8ca3866c4ca4cb7af5c06c0e3a90e1bea9e", func := "bitext/bitextlaw24.TermLimits", spec := "termLimits", inPlace := ["internal/bytealg.CountString", "internal/bytealg.IndexByteString", "internal/bytealg.IndexString"], unfollowed := true, recurses := true, named := ["unicode/utf8.first", "unicode/utf8.acceptRanges", "internal/bytealg.MaxLen"], apart := false, laid := [("unicode/utf8.acceptRanges", laid_unicode_utf8_acceptRanges), ("unicode/utf8.first", laid_unicode_utf8_first)] }
def TermLimitsSaid : Prop := termLimitsRow.holds Tryz.pinned (OpenSpec.ofChange termLimitsSpec)

/-- ITS FALSE NEIGHBOUR: 'it returns false'. Refute it at one input. -/
def termLimitsWrong : ChangeSpec := { name := "termLimits", fn := fun _ => fun
  | [d1, d2, d3, d4] => { results := [.lit (.bool false)], args := [d1, d2, d3, d4] }
  | _ => none }
def TermLimitsWrongFalsely : Prop := termLimitsRow.holds Tryz.pinned (OpenSpec.ofChange termLimitsWrong)

/-- 'bitextlaw24.TermValidates': WHATEVER THE INPUT: true; the input reads as it did. -/
def termValidatesSpec : ChangeSpec := { name := "termValidates", fn := fun _ => fun
  | [d1, d2, d3, d4] => { results := [.lit (.bool true)], args := [d1, d2, d3, d4] }
  | _ => none }
def termValidatesRow : OpenClaim := { program := "ytkklomiipkipnaagreatdoor", sum := "51e8b95f15f527e26a34f28a63f9e8ca3866c4ca4cb7af5c06c0e3a90e1bea9e", func := "bitext/bitextlaw24.TermValidates", spec := "termValidates", inPlace := ["internal/bytealg.CountString", "internal/bytealg.IndexByteString", "internal/bytealg.IndexString"], unfollowed := true, recurses := true, named := ["unicode/utf8.first", "unicode/utf8.acceptRanges", "internal/bytealg.MaxLen"], apart := false, laid := [("unicode/utf8.acceptRanges", laid_unicode_utf8_acceptRanges), ("unicode/utf8.first", laid_unicode_utf8_first)] }
def TermValidatesSaid : Prop := termValidatesRow.holds Tryz.pinned (OpenSpec.ofChange termValidatesSpec)

/-- ITS FALSE NEIGHBOUR: 'it returns false'. Refute it at one input. -/
def termValidatesWrong : ChangeSpec := { name := "termValidates", fn := fun _ => fun
  | [d1, d2, d3, d4] => { results := [.lit (.bool false)], args := [d1, d2, d3, d4] }
  | _ => none }
def TermValidatesWrongFalsely : Prop := termValidatesRow.holds Tryz.pinned (OpenSpec.ofChange termValidatesWrong)

/- THE SECOND FORM. 'bulk': how many values and letters a reading holds, each counted each time it is reached (what is shared counts as often as it is met; a slice's spare places count too). A statement '..UptoSaid' is the law's where the arguments, and the package variables that the reading takes, are together of bulk at most 1048576: NARROWER than '..Said'. Prove '..Said' where nothing that the law and all that it calls make is longer than what came in: it says more and counts as full. Else prove '..UptoSaid'. A law counts once. -/
mutual
def uptoBulk {H : Type} : DataW H → Nat
  | .lit (.string bytes) => bytes.length + 1
  | .lit _ => 1
  | .nil => 1
  | .ptr d => uptoBulk d + 1
  | .slice elems spare => uptoBulkAll elems + uptoBulkAll spare + 1
  | .agg parts => uptoBulkAll parts + 1
  | .iface _ d => uptoBulk d + 1
  | .map entries => uptoBulkEntries entries + 1
  | .held _ => 1
def uptoBulkAll {H : Type} : List (DataW H) → Nat
  | [] => 0
  | d :: r => uptoBulk d + uptoBulkAll r
def uptoBulkEntries {H : Type} : List (Lit × DataW H) → Nat
  | [] => 0
  | x :: r => uptoBulkEntry x + uptoBulkEntries r
def uptoBulkEntry {H : Type} : Lit × DataW H → Nat
  | (.string bytes, d) => bytes.length + uptoBulk d + 1
  | (_, d) => uptoBulk d + 1
 end
def uptoSmall : (H : Type) → List (DataW H) → Bool := fun _ ds => decide (uptoBulkAll ds ≤ 1048576)
def OpenSpec.upto (s : _root_.Go.ChangeSpec) : _root_.Go.OpenSpec := { _root_.Go.OpenSpec.ofChange s with cond := some uptoSmall }

/-- 'bitextlaw24.TermSpots', WHERE WHAT IT READS IS OF BULK AT MOST 1048576: true; the input reads as it did. -/
def termSpotsUptoRow : OpenClaim := { program := "ytkklomiipkipnaagreatdoor", sum := "51e8b95f15f527e26a34f28a63f9e8ca3866c4ca4cb7af5c06c0e3a90e1bea9e", func := "bitext/bitextlaw24.TermSpots", spec := "termSpots", inPlace := ["internal/bytealg.CountString", "internal/bytealg.IndexByteString", "internal/bytealg.IndexString"], unfollowed := true, recurses := true, named := ["unicode/utf8.first", "unicode/utf8.acceptRanges", "internal/bytealg.MaxLen"], apart := false, laid := [("unicode/utf8.acceptRanges", laid_unicode_utf8_acceptRanges), ("unicode/utf8.first", laid_unicode_utf8_first)], narrowed := true }
def TermSpotsUptoSaid : Prop := termSpotsUptoRow.holds Tryz.pinned (OpenSpec.upto termSpotsSpec)

/-- 'bitextlaw24.TermOrdered', WHERE WHAT IT READS IS OF BULK AT MOST 1048576: true; the input reads as it did. -/
def termOrderedUptoRow : OpenClaim := { program := "ytkklomiipkipnaagreatdoor", sum := "51e8b95f15f527e26a34f28a63f9e8ca3866c4ca4cb7af5c06c0e3a90e1bea9e", func := "bitext/bitextlaw24.TermOrdered", spec := "termOrdered", inPlace := ["internal/bytealg.CountString", "internal/bytealg.IndexByteString", "internal/bytealg.IndexString"], unfollowed := true, recurses := true, named := ["unicode/utf8.first", "unicode/utf8.acceptRanges", "internal/bytealg.MaxLen"], apart := false, laid := [("unicode/utf8.acceptRanges", laid_unicode_utf8_acceptRanges), ("unicode/utf8.first", laid_unicode_utf8_first)], narrowed := true }
def TermOrderedUptoSaid : Prop := termOrderedUptoRow.holds Tryz.pinned (OpenSpec.upto termOrderedSpec)

/-- 'bitextlaw24.TermLongest', WHERE WHAT IT READS IS OF BULK AT MOST 1048576: true; the input reads as it did. -/
def termLongestUptoRow : OpenClaim := { program := "ytkklomiipkipnaagreatdoor", sum := "51e8b95f15f527e26a34f28a63f9e8ca3866c4ca4cb7af5c06c0e3a90e1bea9e", func := "bitext/bitextlaw24.TermLongest", spec := "termLongest", inPlace := ["internal/bytealg.CountString", "internal/bytealg.IndexByteString", "internal/bytealg.IndexString"], unfollowed := true, recurses := true, named := ["unicode/utf8.first", "unicode/utf8.acceptRanges", "internal/bytealg.MaxLen"], apart := false, laid := [("unicode/utf8.acceptRanges", laid_unicode_utf8_acceptRanges), ("unicode/utf8.first", laid_unicode_utf8_first)], narrowed := true }
def TermLongestUptoSaid : Prop := termLongestUptoRow.holds Tryz.pinned (OpenSpec.upto termLongestSpec)

/-- 'bitextlaw24.TermHas', WHERE WHAT IT READS IS OF BULK AT MOST 1048576: true; the input reads as it did. -/
def termHasUptoRow : OpenClaim := { program := "ytkklomiipkipnaagreatdoor", sum := "51e8b95f15f527e26a34f28a63f9e8ca3866c4ca4cb7af5c06c0e3a90e1bea9e", func := "bitext/bitextlaw24.TermHas", spec := "termHas", inPlace := ["internal/bytealg.CountString", "internal/bytealg.IndexByteString", "internal/bytealg.IndexString"], unfollowed := true, recurses := true, named := ["unicode/utf8.first", "unicode/utf8.acceptRanges", "internal/bytealg.MaxLen"], apart := false, laid := [("unicode/utf8.acceptRanges", laid_unicode_utf8_acceptRanges), ("unicode/utf8.first", laid_unicode_utf8_first)], narrowed := true }
def TermHasUptoSaid : Prop := termHasUptoRow.holds Tryz.pinned (OpenSpec.upto termHasSpec)

/-- 'bitextlaw24.TermExtends', WHERE WHAT IT READS IS OF BULK AT MOST 1048576: true; the input reads as it did. -/
def termExtendsUptoRow : OpenClaim := { program := "ytkklomiipkipnaagreatdoor", sum := "51e8b95f15f527e26a34f28a63f9e8ca3866c4ca4cb7af5c06c0e3a90e1bea9e", func := "bitext/bitextlaw24.TermExtends", spec := "termExtends", inPlace := ["internal/bytealg.CountString", "internal/bytealg.IndexByteString", "internal/bytealg.IndexString"], unfollowed := true, recurses := true, named := ["unicode/utf8.first", "unicode/utf8.acceptRanges", "internal/bytealg.MaxLen"], apart := false, laid := [("unicode/utf8.acceptRanges", laid_unicode_utf8_acceptRanges), ("unicode/utf8.first", laid_unicode_utf8_first)], narrowed := true }
def TermExtendsUptoSaid : Prop := termExtendsUptoRow.holds Tryz.pinned (OpenSpec.upto termExtendsSpec)

/-- 'bitextlaw24.TermJudges', WHERE WHAT IT READS IS OF BULK AT MOST 1048576: true; the input reads as it did. -/
def termJudgesUptoRow : OpenClaim := { program := "ytkklomiipkipnaagreatdoor", sum := "51e8b95f15f527e26a34f28a63f9e8ca3866c4ca4cb7af5c06c0e3a90e1bea9e", func := "bitext/bitextlaw24.TermJudges", spec := "termJudges", inPlace := ["internal/bytealg.CountString", "internal/bytealg.IndexByteString", "internal/bytealg.IndexString"], unfollowed := true, recurses := true, named := ["unicode/utf8.first", "unicode/utf8.acceptRanges", "internal/bytealg.MaxLen"], apart := false, laid := [("unicode/utf8.acceptRanges", laid_unicode_utf8_acceptRanges), ("unicode/utf8.first", laid_unicode_utf8_first)], narrowed := true }
def TermJudgesUptoSaid : Prop := termJudgesUptoRow.holds Tryz.pinned (OpenSpec.upto termJudgesSpec)

/-- 'bitextlaw24.TermLimits', WHERE WHAT IT READS IS OF BULK AT MOST 1048576: true; the input reads as it did. -/
def termLimitsUptoRow : OpenClaim := { program := "ytkklomiipkipnaagreatdoor", sum := "51e8b95f15f527e26a34f28a63f9e8ca3866c4ca4cb7af5c06c0e3a90e1bea9e", func := "bitext/bitextlaw24.TermLimits", spec := "termLimits", inPlace := ["internal/bytealg.CountString", "internal/bytealg.IndexByteString", "internal/bytealg.IndexString"], unfollowed := true, recurses := true, named := ["unicode/utf8.first", "unicode/utf8.acceptRanges", "internal/bytealg.MaxLen"], apart := false, laid := [("unicode/utf8.acceptRanges", laid_unicode_utf8_acceptRanges), ("unicode/utf8.first", laid_unicode_utf8_first)], narrowed := true }
def TermLimitsUptoSaid : Prop := termLimitsUptoRow.holds Tryz.pinned (OpenSpec.upto termLimitsSpec)

/-- 'bitextlaw24.TermValidates', WHERE WHAT IT READS IS OF BULK AT MOST 1048576: true; the input reads as it did. -/
def termValidatesUptoRow : OpenClaim := { program := "ytkklomiipkipnaagreatdoor", sum := "51e8b95f15f527e26a34f28a63f9e8ca3866c4ca4cb7af5c06c0e3a90e1bea9e", func := "bitext/bitextlaw24.TermValidates", spec := "termValidates", inPlace := ["internal/bytealg.CountString", "internal/bytealg.IndexByteString", "internal/bytealg.IndexString"], unfollowed := true, recurses := true, named := ["unicode/utf8.first", "unicode/utf8.acceptRanges", "internal/bytealg.MaxLen"], apart := false, laid := [("unicode/utf8.acceptRanges", laid_unicode_utf8_acceptRanges), ("unicode/utf8.first", laid_unicode_utf8_first)], narrowed := true }
def TermValidatesUptoSaid : Prop := termValidatesUptoRow.holds Tryz.pinned (OpenSpec.upto termValidatesSpec)

end Rows
end Go.Proofs.YtkklomiipkipnaaGreatDoor
