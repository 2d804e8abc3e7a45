/-
  No cell of these rows narrows 'for every input' (looked for: loops, veiled, ifaces, maps, wideKeys, modest, calm, conditions, laid).
  DERIVED. THE GIVEN ROWS OF THIS SEAT. 18 by the template 'for every input the law returns true; each argument reads behind the call as it read before'; 0 by the template 'total and deterministic' (their statements: YtomklacppmaljaaTotals.lean).
  GIVEN WITH THE SEED: the statements are not yours to turn. If you find one false, say at which input.
  Laid BY PROGRAM, IN A SANDBOX (cutbox-rows.mjs): the forced cells as the released guide's own fill.sh prints them over the translation 496ea930b4b8f2cd… (all of the seat's roots in one cut). By AI agents, Wed Nov 11 2026. No macro, syntax, notation, axiom, sorry.
-/
import Derived.Test.YtomklacppmaljaaChecked
import GoSem.Claim
import GoSem.ClaimJoined
import GoSem.ClaimMapViews
import Derived.JoinedTies
import Derived.KernelRfl
namespace Go.Proofs.Ytomklacppmaljaa
/- THE CELL 'sum', in the pinned program and in every row, IS THE sha256 OF THE DUMP (.gsa) THAT YtomklacppmaljaaProg.lean LOADS. Nothing in Lean hashes anything: it is a label: what it is worth is what the hold of that sum in a sandbox is worth. -/
noncomputable def Try.pinned : Pinned := { name := "ytomklacppmaljaa", sum := "496ea930b4b8f2cd05afafbaa3076645d1cdb8b089872e9ae2a858924ba3a1c1", checked := Try.checked }
namespace Rows
def none {H : Type} : Left H := { results := [], args := [] }

/-- 'bitextlaw23.InflectFinds': WHATEVER THE INPUT: true; the input reads as it did. -/
def inflectFindsSpec : ChangeSpec := { name := "inflectFinds", fn := fun _ => fun
  | [d1, d2, d3] => { results := [.lit (.bool true)], args := [d1, d2, d3] }
  | _ => none }
def inflectFindsRow : OpenClaim := { program := "ytomklacppmaljaa", sum := "496ea930b4b8f2cd05afafbaa3076645d1cdb8b089872e9ae2a858924ba3a1c1", func := "bitext/bitextlaw23.InflectFinds", spec := "inflectFinds", unfollowed := true, recurses := true, plainKeys := false, apart := false }
def InflectFindsSaid : Prop := inflectFindsRow.holds Try.pinned (OpenSpec.ofChange inflectFindsSpec)

/-- ITS FALSE NEIGHBOUR: 'it returns false'. Refute it at one input. -/
def inflectFindsWrong : ChangeSpec := { name := "inflectFinds", fn := fun _ => fun
  | [d1, d2, d3] => { results := [.lit (.bool false)], args := [d1, d2, d3] }
  | _ => none }
def InflectFindsWrongFalsely : Prop := inflectFindsRow.holds Try.pinned (OpenSpec.ofChange inflectFindsWrong)

/-- 'bitextlaw23.InflectForms': WHATEVER THE INPUT: true; the input reads as it did. -/
def inflectFormsSpec : ChangeSpec := { name := "inflectForms", fn := fun _ => fun
  | [d1, d2, d3] => { results := [.lit (.bool true)], args := [d1, d2, d3] }
  | _ => none }
def inflectFormsRow : OpenClaim := { program := "ytomklacppmaljaa", sum := "496ea930b4b8f2cd05afafbaa3076645d1cdb8b089872e9ae2a858924ba3a1c1", func := "bitext/bitextlaw23.InflectForms", spec := "inflectForms", unfollowed := true, recurses := true, plainKeys := false, apart := false }
def InflectFormsSaid : Prop := inflectFormsRow.holds Try.pinned (OpenSpec.ofChange inflectFormsSpec)

/-- ITS FALSE NEIGHBOUR: 'it returns false'. Refute it at one input. -/
def inflectFormsWrong : ChangeSpec := { name := "inflectForms", fn := fun _ => fun
  | [d1, d2, d3] => { results := [.lit (.bool false)], args := [d1, d2, d3] }
  | _ => none }
def InflectFormsWrongFalsely : Prop := inflectFormsRow.holds Try.pinned (OpenSpec.ofChange inflectFormsWrong)

/-- 'bitextlaw23.InflectStems': WHATEVER THE INPUT: true; the input reads as it did. -/
def inflectStemsSpec : ChangeSpec := { name := "inflectStems", fn := fun _ => fun
  | [d1, d2, d3, d4] => { results := [.lit (.bool true)], args := [d1, d2, d3, d4] }
  | _ => none }
def inflectStemsRow : OpenClaim := { program := "ytomklacppmaljaa", sum := "496ea930b4b8f2cd05afafbaa3076645d1cdb8b089872e9ae2a858924ba3a1c1", func := "bitext/bitextlaw23.InflectStems", spec := "inflectStems", unfollowed := true, recurses := true, plainKeys := false, apart := false }
def InflectStemsSaid : Prop := inflectStemsRow.holds Try.pinned (OpenSpec.ofChange inflectStemsSpec)

/-- ITS FALSE NEIGHBOUR: 'it returns false'. Refute it at one input. -/
def inflectStemsWrong : ChangeSpec := { name := "inflectStems", fn := fun _ => fun
  | [d1, d2, d3, d4] => { results := [.lit (.bool false)], args := [d1, d2, d3, d4] }
  | _ => none }
def InflectStemsWrongFalsely : Prop := inflectStemsRow.holds Try.pinned (OpenSpec.ofChange inflectStemsWrong)

/-- 'bitextlaw23.InflectDuals': WHATEVER THE INPUT: true; the input reads as it did. -/
def inflectDualsSpec : ChangeSpec := { name := "inflectDuals", fn := fun _ => fun
  | [d1, d2, d3] => { results := [.lit (.bool true)], args := [d1, d2, d3] }
  | _ => none }
def inflectDualsRow : OpenClaim := { program := "ytomklacppmaljaa", sum := "496ea930b4b8f2cd05afafbaa3076645d1cdb8b089872e9ae2a858924ba3a1c1", func := "bitext/bitextlaw23.InflectDuals", spec := "inflectDuals", unfollowed := true, recurses := true, plainKeys := false, apart := false }
def InflectDualsSaid : Prop := inflectDualsRow.holds Try.pinned (OpenSpec.ofChange inflectDualsSpec)

/-- ITS FALSE NEIGHBOUR: 'it returns false'. Refute it at one input. -/
def inflectDualsWrong : ChangeSpec := { name := "inflectDuals", fn := fun _ => fun
  | [d1, d2, d3] => { results := [.lit (.bool false)], args := [d1, d2, d3] }
  | _ => none }
def InflectDualsWrongFalsely : Prop := inflectDualsRow.holds Try.pinned (OpenSpec.ofChange inflectDualsWrong)

/-- 'bitextlaw23.InflectValidates': WHATEVER THE INPUT: true; the input reads as it did. -/
def inflectValidatesSpec : ChangeSpec := { name := "inflectValidates", fn := fun _ => fun
  | [d1, d2, d3, d4] => { results := [.lit (.bool true)], args := [d1, d2, d3, d4] }
  | _ => none }
def inflectValidatesRow : OpenClaim := { program := "ytomklacppmaljaa", sum := "496ea930b4b8f2cd05afafbaa3076645d1cdb8b089872e9ae2a858924ba3a1c1", func := "bitext/bitextlaw23.InflectValidates", spec := "inflectValidates", unfollowed := true, recurses := true, plainKeys := false, apart := false }
def InflectValidatesSaid : Prop := inflectValidatesRow.holds Try.pinned (OpenSpec.ofChange inflectValidatesSpec)

/-- ITS FALSE NEIGHBOUR: 'it returns false'. Refute it at one input. -/
def inflectValidatesWrong : ChangeSpec := { name := "inflectValidates", fn := fun _ => fun
  | [d1, d2, d3, d4] => { results := [.lit (.bool false)], args := [d1, d2, d3, d4] }
  | _ => none }
def InflectValidatesWrongFalsely : Prop := inflectValidatesRow.holds Try.pinned (OpenSpec.ofChange inflectValidatesWrong)

/-- 'bitextlaw23.InflectLimits': WHATEVER THE INPUT: true; the input reads as it did. -/
def inflectLimitsSpec : ChangeSpec := { name := "inflectLimits", fn := fun _ => fun
  | [d1, d2, d3] => { results := [.lit (.bool true)], args := [d1, d2, d3] }
  | _ => none }
def inflectLimitsRow : OpenClaim := { program := "ytomklacppmaljaa", sum := "496ea930b4b8f2cd05afafbaa3076645d1cdb8b089872e9ae2a858924ba3a1c1", func := "bitext/bitextlaw23.InflectLimits", spec := "inflectLimits", unfollowed := true, recurses := true, plainKeys := false, apart := false }
def InflectLimitsSaid : Prop := inflectLimitsRow.holds Try.pinned (OpenSpec.ofChange inflectLimitsSpec)

/-- ITS FALSE NEIGHBOUR: 'it returns false'. Refute it at one input. -/
def inflectLimitsWrong : ChangeSpec := { name := "inflectLimits", fn := fun _ => fun
  | [d1, d2, d3] => { results := [.lit (.bool false)], args := [d1, d2, d3] }
  | _ => none }
def InflectLimitsWrongFalsely : Prop := inflectLimitsRow.holds Try.pinned (OpenSpec.ofChange inflectLimitsWrong)

/-- 'bitextlaw23.InflectLong': WHATEVER THE INPUT: true; the input reads as it did. -/
def inflectLongSpec : ChangeSpec := { name := "inflectLong", fn := fun _ => fun
  | [d] => { results := [.lit (.bool true)], args := [d] }
  | _ => none }
def inflectLongRow : OpenClaim := { program := "ytomklacppmaljaa", sum := "496ea930b4b8f2cd05afafbaa3076645d1cdb8b089872e9ae2a858924ba3a1c1", func := "bitext/bitextlaw23.InflectLong", spec := "inflectLong", inPlace := ["internal/bytealg.IndexByteString", "internal/bytealg.IndexString"], unfollowed := true, recurses := true, named := ["internal/bytealg.MaxLen"], plainKeys := false, apart := false }
def InflectLongSaid : Prop := inflectLongRow.holds Try.pinned (OpenSpec.ofChange inflectLongSpec)

/-- ITS FALSE NEIGHBOUR: 'it returns false'. Refute it at one input. -/
def inflectLongWrong : ChangeSpec := { name := "inflectLong", fn := fun _ => fun
  | [d] => { results := [.lit (.bool false)], args := [d] }
  | _ => none }
def InflectLongWrongFalsely : Prop := inflectLongRow.holds Try.pinned (OpenSpec.ofChange inflectLongWrong)

/-- 'bitextlaw23.InflectParses': WHATEVER THE INPUT: true; the input reads as it did. -/
def inflectParsesSpec : ChangeSpec := { name := "inflectParses", fn := fun _ => fun
  | [d1, d2, d3, d4] => { results := [.lit (.bool true)], args := [d1, d2, d3, d4] }
  | _ => none }
def inflectParsesRow : OpenClaim := { program := "ytomklacppmaljaa", sum := "496ea930b4b8f2cd05afafbaa3076645d1cdb8b089872e9ae2a858924ba3a1c1", func := "bitext/bitextlaw23.InflectParses", spec := "inflectParses", inPlace := ["internal/bytealg.IndexByteString", "internal/bytealg.IndexString"], unfollowed := true, recurses := true, named := ["internal/bytealg.MaxLen"], plainKeys := false, apart := false }
def InflectParsesSaid : Prop := inflectParsesRow.holds Try.pinned (OpenSpec.ofChange inflectParsesSpec)

/-- ITS FALSE NEIGHBOUR: 'it returns false'. Refute it at one input. -/
def inflectParsesWrong : ChangeSpec := { name := "inflectParses", fn := fun _ => fun
  | [d1, d2, d3, d4] => { results := [.lit (.bool false)], args := [d1, d2, d3, d4] }
  | _ => none }
def InflectParsesWrongFalsely : Prop := inflectParsesRow.holds Try.pinned (OpenSpec.ofChange inflectParsesWrong)

/-- 'bitextlaw23.InflectFormats': WHATEVER THE INPUT: true; the input reads as it did. -/
def inflectFormatsSpec : ChangeSpec := { name := "inflectFormats", fn := fun _ => fun
  | [d1, d2] => { results := [.lit (.bool true)], args := [d1, d2] }
  | _ => none }
def inflectFormatsRow : OpenClaim := { program := "ytomklacppmaljaa", sum := "496ea930b4b8f2cd05afafbaa3076645d1cdb8b089872e9ae2a858924ba3a1c1", func := "bitext/bitextlaw23.InflectFormats", spec := "inflectFormats", inPlace := ["internal/abi.NoEscape", "internal/bytealg.IndexByteString", "internal/bytealg.IndexString"], unfollowed := true, recurses := true, named := ["internal/bytealg.MaxLen"], plainKeys := false, apart := false }
def InflectFormatsSaid : Prop := inflectFormatsRow.holds Try.pinned (OpenSpec.ofChange inflectFormatsSpec)

/-- ITS FALSE NEIGHBOUR: 'it returns false'. Refute it at one input. -/
def inflectFormatsWrong : ChangeSpec := { name := "inflectFormats", fn := fun _ => fun
  | [d1, d2] => { results := [.lit (.bool false)], args := [d1, d2] }
  | _ => none }
def InflectFormatsWrongFalsely : Prop := inflectFormatsRow.holds Try.pinned (OpenSpec.ofChange inflectFormatsWrong)

/-- 'bitextlaw14.ShingleWords': WHATEVER THE INPUT: true; the input reads as it did. -/
def shingleWordsSpec : ChangeSpec := { name := "shingleWords", fn := fun _ => fun
  | [d1, d2, d3] => { results := [.lit (.bool true)], args := [d1, d2, d3] }
  | _ => none }
def shingleWordsRow : OpenClaim := { program := "ytomklacppmaljaa", sum := "496ea930b4b8f2cd05afafbaa3076645d1cdb8b089872e9ae2a858924ba3a1c1", func := "bitext/bitextlaw14.ShingleWords", spec := "shingleWords", unfollowed := true, recurses := true, plainKeys := false, apart := false }
def ShingleWordsSaid : Prop := shingleWordsRow.holds Try.pinned (OpenSpec.ofChange shingleWordsSpec)

/-- ITS FALSE NEIGHBOUR: 'it returns false'. Refute it at one input. -/
def shingleWordsWrong : ChangeSpec := { name := "shingleWords", fn := fun _ => fun
  | [d1, d2, d3] => { results := [.lit (.bool false)], args := [d1, d2, d3] }
  | _ => none }
def ShingleWordsWrongFalsely : Prop := shingleWordsRow.holds Try.pinned (OpenSpec.ofChange shingleWordsWrong)

/-- 'bitextlaw14.ShingleGrams': WHATEVER THE INPUT: true; the input reads as it did. -/
def shingleGramsSpec : ChangeSpec := { name := "shingleGrams", fn := fun _ => fun
  | [d] => { results := [.lit (.bool true)], args := [d] }
  | _ => none }
def shingleGramsRow : OpenClaim := { program := "ytomklacppmaljaa", sum := "496ea930b4b8f2cd05afafbaa3076645d1cdb8b089872e9ae2a858924ba3a1c1", func := "bitext/bitextlaw14.ShingleGrams", spec := "shingleGrams", unfollowed := true, recurses := true, plainKeys := false, apart := false }
def ShingleGramsSaid : Prop := shingleGramsRow.holds Try.pinned (OpenSpec.ofChange shingleGramsSpec)

/-- ITS FALSE NEIGHBOUR: 'it returns false'. Refute it at one input. -/
def shingleGramsWrong : ChangeSpec := { name := "shingleGrams", fn := fun _ => fun
  | [d] => { results := [.lit (.bool false)], args := [d] }
  | _ => none }
def ShingleGramsWrongFalsely : Prop := shingleGramsRow.holds Try.pinned (OpenSpec.ofChange shingleGramsWrong)

/-- 'bitextlaw14.ShingleMissing': WHATEVER THE INPUT: true; the input reads as it did. -/
def shingleMissingSpec : ChangeSpec := { name := "shingleMissing", fn := fun _ => fun
  | [d1, d2, d3, d4] => { results := [.lit (.bool true)], args := [d1, d2, d3, d4] }
  | _ => none }
def shingleMissingRow : OpenClaim := { program := "ytomklacppmaljaa", sum := "496ea930b4b8f2cd05afafbaa3076645d1cdb8b089872e9ae2a858924ba3a1c1", func := "bitext/bitextlaw14.ShingleMissing", spec := "shingleMissing", unfollowed := true, recurses := true, plainKeys := false, apart := false }
def ShingleMissingSaid : Prop := shingleMissingRow.holds Try.pinned (OpenSpec.ofChange shingleMissingSpec)

/-- ITS FALSE NEIGHBOUR: 'it returns false'. Refute it at one input. -/
def shingleMissingWrong : ChangeSpec := { name := "shingleMissing", fn := fun _ => fun
  | [d1, d2, d3, d4] => { results := [.lit (.bool false)], args := [d1, d2, d3, d4] }
  | _ => none }
def ShingleMissingWrongFalsely : Prop := shingleMissingRow.holds Try.pinned (OpenSpec.ofChange shingleMissingWrong)

/-- 'bitextlaw14.ShingleBounds': WHATEVER THE INPUT: true; the input reads as it did. -/
def shingleBoundsSpec : ChangeSpec := { name := "shingleBounds", fn := fun _ => fun
  | [d1, d2, d3, d4] => { results := [.lit (.bool true)], args := [d1, d2, d3, d4] }
  | _ => none }
def shingleBoundsRow : OpenClaim := { program := "ytomklacppmaljaa", sum := "496ea930b4b8f2cd05afafbaa3076645d1cdb8b089872e9ae2a858924ba3a1c1", func := "bitext/bitextlaw14.ShingleBounds", spec := "shingleBounds", unfollowed := true, recurses := true, plainKeys := false, apart := false }
def ShingleBoundsSaid : Prop := shingleBoundsRow.holds Try.pinned (OpenSpec.ofChange shingleBoundsSpec)

/-- ITS FALSE NEIGHBOUR: 'it returns false'. Refute it at one input. -/
def shingleBoundsWrong : ChangeSpec := { name := "shingleBounds", fn := fun _ => fun
  | [d1, d2, d3, d4] => { results := [.lit (.bool false)], args := [d1, d2, d3, d4] }
  | _ => none }
def ShingleBoundsWrongFalsely : Prop := shingleBoundsRow.holds Try.pinned (OpenSpec.ofChange shingleBoundsWrong)

/-- 'bitextlaw14.ShingleBelow': WHATEVER THE INPUT: true; the input reads as it did. -/
def shingleBelowSpec : ChangeSpec := { name := "shingleBelow", fn := fun _ => fun
  | [d1, d2, d3, d4] => { results := [.lit (.bool true)], args := [d1, d2, d3, d4] }
  | _ => none }
def shingleBelowRow : OpenClaim := { program := "ytomklacppmaljaa", sum := "496ea930b4b8f2cd05afafbaa3076645d1cdb8b089872e9ae2a858924ba3a1c1", func := "bitext/bitextlaw14.ShingleBelow", spec := "shingleBelow", unfollowed := true, recurses := true, plainKeys := false, apart := false }
def ShingleBelowSaid : Prop := shingleBelowRow.holds Try.pinned (OpenSpec.ofChange shingleBelowSpec)

/-- ITS FALSE NEIGHBOUR: 'it returns false'. Refute it at one input. -/
def shingleBelowWrong : ChangeSpec := { name := "shingleBelow", fn := fun _ => fun
  | [d1, d2, d3, d4] => { results := [.lit (.bool false)], args := [d1, d2, d3, d4] }
  | _ => none }
def ShingleBelowWrongFalsely : Prop := shingleBelowRow.holds Try.pinned (OpenSpec.ofChange shingleBelowWrong)

/-- 'bitextlaw14.ShingleSymmetric': WHATEVER THE INPUT: true; the input reads as it did. -/
def shingleSymmetricSpec : ChangeSpec := { name := "shingleSymmetric", fn := fun _ => fun
  | [d1, d2] => { results := [.lit (.bool true)], args := [d1, d2] }
  | _ => none }
def shingleSymmetricRow : OpenClaim := { program := "ytomklacppmaljaa", sum := "496ea930b4b8f2cd05afafbaa3076645d1cdb8b089872e9ae2a858924ba3a1c1", func := "bitext/bitextlaw14.ShingleSymmetric", spec := "shingleSymmetric", unfollowed := true, recurses := true, plainKeys := false, apart := false }
def ShingleSymmetricSaid : Prop := shingleSymmetricRow.holds Try.pinned (OpenSpec.ofChange shingleSymmetricSpec)

/-- ITS FALSE NEIGHBOUR: 'it returns false'. Refute it at one input. -/
def shingleSymmetricWrong : ChangeSpec := { name := "shingleSymmetric", fn := fun _ => fun
  | [d1, d2] => { results := [.lit (.bool false)], args := [d1, d2] }
  | _ => none }
def ShingleSymmetricWrongFalsely : Prop := shingleSymmetricRow.holds Try.pinned (OpenSpec.ofChange shingleSymmetricWrong)

/-- 'bitextlaw14.ShingleOrder': WHATEVER THE INPUT: true; the input reads as it did. -/
def shingleOrderSpec : ChangeSpec := { name := "shingleOrder", fn := fun _ => fun
  | [d] => { results := [.lit (.bool true)], args := [d] }
  | _ => none }
def shingleOrderRow : OpenClaim := { program := "ytomklacppmaljaa", sum := "496ea930b4b8f2cd05afafbaa3076645d1cdb8b089872e9ae2a858924ba3a1c1", func := "bitext/bitextlaw14.ShingleOrder", spec := "shingleOrder", unfollowed := true, recurses := true, plainKeys := false, apart := false }
def ShingleOrderSaid : Prop := shingleOrderRow.holds Try.pinned (OpenSpec.ofChange shingleOrderSpec)

/-- ITS FALSE NEIGHBOUR: 'it returns false'. Refute it at one input. -/
def shingleOrderWrong : ChangeSpec := { name := "shingleOrder", fn := fun _ => fun
  | [d] => { results := [.lit (.bool false)], args := [d] }
  | _ => none }
def ShingleOrderWrongFalsely : Prop := shingleOrderRow.holds Try.pinned (OpenSpec.ofChange shingleOrderWrong)

/-- 'bitextlaw20.AlignSides': WHATEVER THE INPUT: true; the input reads as it did. -/
def alignSidesSpec : ChangeSpec := { name := "alignSides", fn := fun _ => fun
  | [d1, d2, d3] => { results := [.lit (.bool true)], args := [d1, d2, d3] }
  | _ => none }
def alignSidesRow : OpenClaim := { program := "ytomklacppmaljaa", sum := "496ea930b4b8f2cd05afafbaa3076645d1cdb8b089872e9ae2a858924ba3a1c1", func := "bitext/bitextlaw20.AlignSides", spec := "alignSides", inPlace := ["internal/bytealg.IndexByteString", "internal/bytealg.IndexString"], unfollowed := true, recurses := true, named := ["internal/bytealg.MaxLen"], plainKeys := false, apart := false }
def AlignSidesSaid : Prop := alignSidesRow.holds Try.pinned (OpenSpec.ofChange alignSidesSpec)

/-- ITS FALSE NEIGHBOUR: 'it returns false'. Refute it at one input. -/
def alignSidesWrong : ChangeSpec := { name := "alignSides", fn := fun _ => fun
  | [d1, d2, d3] => { results := [.lit (.bool false)], args := [d1, d2, d3] }
  | _ => none }
def AlignSidesWrongFalsely : Prop := alignSidesRow.holds Try.pinned (OpenSpec.ofChange alignSidesWrong)

/-- 'bitextlaw20.AlignLimits': WHATEVER THE INPUT: true; the input reads as it did. -/
def alignLimitsSpec : ChangeSpec := { name := "alignLimits", fn := fun _ => fun
  | [d1, d2] => { results := [.lit (.bool true)], args := [d1, d2] }
  | _ => none }
def alignLimitsRow : OpenClaim := { program := "ytomklacppmaljaa", sum := "496ea930b4b8f2cd05afafbaa3076645d1cdb8b089872e9ae2a858924ba3a1c1", func := "bitext/bitextlaw20.AlignLimits", spec := "alignLimits", inPlace := ["internal/bytealg.IndexByteString", "internal/bytealg.IndexString"], unfollowed := true, recurses := true, named := ["internal/bytealg.MaxLen"], plainKeys := false, apart := false }
def AlignLimitsSaid : Prop := alignLimitsRow.holds Try.pinned (OpenSpec.ofChange alignLimitsSpec)

/-- ITS FALSE NEIGHBOUR: 'it returns false'. Refute it at one input. -/
def alignLimitsWrong : ChangeSpec := { name := "alignLimits", fn := fun _ => fun
  | [d1, d2] => { results := [.lit (.bool false)], args := [d1, d2] }
  | _ => none }
def AlignLimitsWrongFalsely : Prop := alignLimitsRow.holds Try.pinned (OpenSpec.ofChange alignLimitsWrong)

/- THE SECOND FORM. 'bulk': how many values and letters a reading holds, each counted each time it is reached (what is shared counts as often as it is met; a slice's spare places count too). A statement '..UptoSaid' is the law's where the arguments, and the package variables that the reading takes, are together of bulk at most 1048576: NARROWER than '..Said'. Prove '..Said' where nothing that the law and all that it calls make is longer than what came in: it says more and counts as full. Else prove '..UptoSaid'. A law counts once. -/
mutual
def uptoBulk {H : Type} : DataW H → Nat
  | .lit (.string bytes) => bytes.length + 1
  | .lit _ => 1
  | .nil => 1
  | .ptr d => uptoBulk d + 1
  | .slice elems spare => uptoBulkAll elems + uptoBulkAll spare + 1
  | .agg parts => uptoBulkAll parts + 1
  | .iface _ d => uptoBulk d + 1
  | .map entries => uptoBulkEntries entries + 1
  | .held _ => 1
def uptoBulkAll {H : Type} : List (DataW H) → Nat
  | [] => 0
  | d :: r => uptoBulk d + uptoBulkAll r
def uptoBulkEntries {H : Type} : List (Lit × DataW H) → Nat
  | [] => 0
  | x :: r => uptoBulkEntry x + uptoBulkEntries r
def uptoBulkEntry {H : Type} : Lit × DataW H → Nat
  | (.string bytes, d) => bytes.length + uptoBulk d + 1
  | (_, d) => uptoBulk d + 1
 end
def uptoSmall : (H : Type) → List (DataW H) → Bool := fun _ ds => decide (uptoBulkAll ds ≤ 1048576)
def OpenSpec.upto (s : _root_.Go.ChangeSpec) : _root_.Go.OpenSpec := { _root_.Go.OpenSpec.ofChange s with cond := some uptoSmall }

/-- 'bitextlaw23.InflectFinds', WHERE WHAT IT READS IS OF BULK AT MOST 1048576: true; the input reads as it did. -/
def inflectFindsUptoRow : OpenClaim := { program := "ytomklacppmaljaa", sum := "496ea930b4b8f2cd05afafbaa3076645d1cdb8b089872e9ae2a858924ba3a1c1", func := "bitext/bitextlaw23.InflectFinds", spec := "inflectFinds", unfollowed := true, recurses := true, plainKeys := false, apart := false, narrowed := true }
def InflectFindsUptoSaid : Prop := inflectFindsUptoRow.holds Try.pinned (OpenSpec.upto inflectFindsSpec)

/-- 'bitextlaw23.InflectForms', WHERE WHAT IT READS IS OF BULK AT MOST 1048576: true; the input reads as it did. -/
def inflectFormsUptoRow : OpenClaim := { program := "ytomklacppmaljaa", sum := "496ea930b4b8f2cd05afafbaa3076645d1cdb8b089872e9ae2a858924ba3a1c1", func := "bitext/bitextlaw23.InflectForms", spec := "inflectForms", unfollowed := true, recurses := true, plainKeys := false, apart := false, narrowed := true }
def InflectFormsUptoSaid : Prop := inflectFormsUptoRow.holds Try.pinned (OpenSpec.upto inflectFormsSpec)

/-- 'bitextlaw23.InflectStems', WHERE WHAT IT READS IS OF BULK AT MOST 1048576: true; the input reads as it did. -/
def inflectStemsUptoRow : OpenClaim := { program := "ytomklacppmaljaa", sum := "496ea930b4b8f2cd05afafbaa3076645d1cdb8b089872e9ae2a858924ba3a1c1", func := "bitext/bitextlaw23.InflectStems", spec := "inflectStems", unfollowed := true, recurses := true, plainKeys := false, apart := false, narrowed := true }
def InflectStemsUptoSaid : Prop := inflectStemsUptoRow.holds Try.pinned (OpenSpec.upto inflectStemsSpec)

/-- 'bitextlaw23.InflectDuals', WHERE WHAT IT READS IS OF BULK AT MOST 1048576: true; the input reads as it did. -/
def inflectDualsUptoRow : OpenClaim := { program := "ytomklacppmaljaa", sum := "496ea930b4b8f2cd05afafbaa3076645d1cdb8b089872e9ae2a858924ba3a1c1", func := "bitext/bitextlaw23.InflectDuals", spec := "inflectDuals", unfollowed := true, recurses := true, plainKeys := false, apart := false, narrowed := true }
def InflectDualsUptoSaid : Prop := inflectDualsUptoRow.holds Try.pinned (OpenSpec.upto inflectDualsSpec)

/-- 'bitextlaw23.InflectValidates', WHERE WHAT IT READS IS OF BULK AT MOST 1048576: true; the input reads as it did. -/
def inflectValidatesUptoRow : OpenClaim := { program := "ytomklacppmaljaa", sum := "496ea930b4b8f2cd05afafbaa3076645d1cdb8b089872e9ae2a858924ba3a1c1", func := "bitext/bitextlaw23.InflectValidates", spec := "inflectValidates", unfollowed := true, recurses := true, plainKeys := false, apart := false, narrowed := true }
def InflectValidatesUptoSaid : Prop := inflectValidatesUptoRow.holds Try.pinned (OpenSpec.upto inflectValidatesSpec)

/-- 'bitextlaw23.InflectLimits', WHERE WHAT IT READS IS OF BULK AT MOST 1048576: true; the input reads as it did. -/
def inflectLimitsUptoRow : OpenClaim := { program := "ytomklacppmaljaa", sum := "496ea930b4b8f2cd05afafbaa3076645d1cdb8b089872e9ae2a858924ba3a1c1", func := "bitext/bitextlaw23.InflectLimits", spec := "inflectLimits", unfollowed := true, recurses := true, plainKeys := false, apart := false, narrowed := true }
def InflectLimitsUptoSaid : Prop := inflectLimitsUptoRow.holds Try.pinned (OpenSpec.upto inflectLimitsSpec)

/-- 'bitextlaw23.InflectLong', WHERE WHAT IT READS IS OF BULK AT MOST 1048576: true; the input reads as it did. -/
def inflectLongUptoRow : OpenClaim := { program := "ytomklacppmaljaa", sum := "496ea930b4b8f2cd05afafbaa3076645d1cdb8b089872e9ae2a858924ba3a1c1", func := "bitext/bitextlaw23.InflectLong", spec := "inflectLong", inPlace := ["internal/bytealg.IndexByteString", "internal/bytealg.IndexString"], unfollowed := true, recurses := true, named := ["internal/bytealg.MaxLen"], plainKeys := false, apart := false, narrowed := true }
def InflectLongUptoSaid : Prop := inflectLongUptoRow.holds Try.pinned (OpenSpec.upto inflectLongSpec)

/-- 'bitextlaw23.InflectParses', WHERE WHAT IT READS IS OF BULK AT MOST 1048576: true; the input reads as it did. -/
def inflectParsesUptoRow : OpenClaim := { program := "ytomklacppmaljaa", sum := "496ea930b4b8f2cd05afafbaa3076645d1cdb8b089872e9ae2a858924ba3a1c1", func := "bitext/bitextlaw23.InflectParses", spec := "inflectParses", inPlace := ["internal/bytealg.IndexByteString", "internal/bytealg.IndexString"], unfollowed := true, recurses := true, named := ["internal/bytealg.MaxLen"], plainKeys := false, apart := false, narrowed := true }
def InflectParsesUptoSaid : Prop := inflectParsesUptoRow.holds Try.pinned (OpenSpec.upto inflectParsesSpec)

/-- 'bitextlaw23.InflectFormats', WHERE WHAT IT READS IS OF BULK AT MOST 1048576: true; the input reads as it did. -/
def inflectFormatsUptoRow : OpenClaim := { program := "ytomklacppmaljaa", sum := "496ea930b4b8f2cd05afafbaa3076645d1cdb8b089872e9ae2a858924ba3a1c1", func := "bitext/bitextlaw23.InflectFormats", spec := "inflectFormats", inPlace := ["internal/abi.NoEscape", "internal/bytealg.IndexByteString", "internal/bytealg.IndexString"], unfollowed := true, recurses := true, named := ["internal/bytealg.MaxLen"], plainKeys := false, apart := false, narrowed := true }
def InflectFormatsUptoSaid : Prop := inflectFormatsUptoRow.holds Try.pinned (OpenSpec.upto inflectFormatsSpec)

/-- 'bitextlaw14.ShingleWords', WHERE WHAT IT READS IS OF BULK AT MOST 1048576: true; the input reads as it did. -/
def shingleWordsUptoRow : OpenClaim := { program := "ytomklacppmaljaa", sum := "496ea930b4b8f2cd05afafbaa3076645d1cdb8b089872e9ae2a858924ba3a1c1", func := "bitext/bitextlaw14.ShingleWords", spec := "shingleWords", unfollowed := true, recurses := true, plainKeys := false, apart := false, narrowed := true }
def ShingleWordsUptoSaid : Prop := shingleWordsUptoRow.holds Try.pinned (OpenSpec.upto shingleWordsSpec)

/-- 'bitextlaw14.ShingleGrams', WHERE WHAT IT READS IS OF BULK AT MOST 1048576: true; the input reads as it did. -/
def shingleGramsUptoRow : OpenClaim := { program := "ytomklacppmaljaa", sum := "496ea930b4b8f2cd05afafbaa3076645d1cdb8b089872e9ae2a858924ba3a1c1", func := "bitext/bitextlaw14.ShingleGrams", spec := "shingleGrams", unfollowed := true, recurses := true, plainKeys := false, apart := false, narrowed := true }
def ShingleGramsUptoSaid : Prop := shingleGramsUptoRow.holds Try.pinned (OpenSpec.upto shingleGramsSpec)

/-- 'bitextlaw14.ShingleMissing', WHERE WHAT IT READS IS OF BULK AT MOST 1048576: true; the input reads as it did. -/
def shingleMissingUptoRow : OpenClaim := { program := "ytomklacppmaljaa", sum := "496ea930b4b8f2cd05afafbaa3076645d1cdb8b089872e9ae2a858924ba3a1c1", func := "bitext/bitextlaw14.ShingleMissing", spec := "shingleMissing", unfollowed := true, recurses := true, plainKeys := false, apart := false, narrowed := true }
def ShingleMissingUptoSaid : Prop := shingleMissingUptoRow.holds Try.pinned (OpenSpec.upto shingleMissingSpec)

/-- 'bitextlaw14.ShingleBounds', WHERE WHAT IT READS IS OF BULK AT MOST 1048576: true; the input reads as it did. -/
def shingleBoundsUptoRow : OpenClaim := { program := "ytomklacppmaljaa", sum := "496ea930b4b8f2cd05afafbaa3076645d1cdb8b089872e9ae2a858924ba3a1c1", func := "bitext/bitextlaw14.ShingleBounds", spec := "shingleBounds", unfollowed := true, recurses := true, plainKeys := false, apart := false, narrowed := true }
def ShingleBoundsUptoSaid : Prop := shingleBoundsUptoRow.holds Try.pinned (OpenSpec.upto shingleBoundsSpec)

/-- 'bitextlaw14.ShingleBelow', WHERE WHAT IT READS IS OF BULK AT MOST 1048576: true; the input reads as it did. -/
def shingleBelowUptoRow : OpenClaim := { program := "ytomklacppmaljaa", sum := "496ea930b4b8f2cd05afafbaa3076645d1cdb8b089872e9ae2a858924ba3a1c1", func := "bitext/bitextlaw14.ShingleBelow", spec := "shingleBelow", unfollowed := true, recurses := true, plainKeys := false, apart := false, narrowed := true }
def ShingleBelowUptoSaid : Prop := shingleBelowUptoRow.holds Try.pinned (OpenSpec.upto shingleBelowSpec)

/-- 'bitextlaw14.ShingleSymmetric', WHERE WHAT IT READS IS OF BULK AT MOST 1048576: true; the input reads as it did. -/
def shingleSymmetricUptoRow : OpenClaim := { program := "ytomklacppmaljaa", sum := "496ea930b4b8f2cd05afafbaa3076645d1cdb8b089872e9ae2a858924ba3a1c1", func := "bitext/bitextlaw14.ShingleSymmetric", spec := "shingleSymmetric", unfollowed := true, recurses := true, plainKeys := false, apart := false, narrowed := true }
def ShingleSymmetricUptoSaid : Prop := shingleSymmetricUptoRow.holds Try.pinned (OpenSpec.upto shingleSymmetricSpec)

/-- 'bitextlaw14.ShingleOrder', WHERE WHAT IT READS IS OF BULK AT MOST 1048576: true; the input reads as it did. -/
def shingleOrderUptoRow : OpenClaim := { program := "ytomklacppmaljaa", sum := "496ea930b4b8f2cd05afafbaa3076645d1cdb8b089872e9ae2a858924ba3a1c1", func := "bitext/bitextlaw14.ShingleOrder", spec := "shingleOrder", unfollowed := true, recurses := true, plainKeys := false, apart := false, narrowed := true }
def ShingleOrderUptoSaid : Prop := shingleOrderUptoRow.holds Try.pinned (OpenSpec.upto shingleOrderSpec)

/-- 'bitextlaw20.AlignSides', WHERE WHAT IT READS IS OF BULK AT MOST 1048576: true; the input reads as it did. -/
def alignSidesUptoRow : OpenClaim := { program := "ytomklacppmaljaa", sum := "496ea930b4b8f2cd05afafbaa3076645d1cdb8b089872e9ae2a858924ba3a1c1", func := "bitext/bitextlaw20.AlignSides", spec := "alignSides", inPlace := ["internal/bytealg.IndexByteString", "internal/bytealg.IndexString"], unfollowed := true, recurses := true, named := ["internal/bytealg.MaxLen"], plainKeys := false, apart := false, narrowed := true }
def AlignSidesUptoSaid : Prop := alignSidesUptoRow.holds Try.pinned (OpenSpec.upto alignSidesSpec)

/-- 'bitextlaw20.AlignLimits', WHERE WHAT IT READS IS OF BULK AT MOST 1048576: true; the input reads as it did. -/
def alignLimitsUptoRow : OpenClaim := { program := "ytomklacppmaljaa", sum := "496ea930b4b8f2cd05afafbaa3076645d1cdb8b089872e9ae2a858924ba3a1c1", func := "bitext/bitextlaw20.AlignLimits", spec := "alignLimits", inPlace := ["internal/bytealg.IndexByteString", "internal/bytealg.IndexString"], unfollowed := true, recurses := true, named := ["internal/bytealg.MaxLen"], plainKeys := false, apart := false, narrowed := true }
def AlignLimitsUptoSaid : Prop := alignLimitsUptoRow.holds Try.pinned (OpenSpec.upto alignLimitsSpec)

end Rows
end Go.Proofs.Ytomklacppmaljaa
