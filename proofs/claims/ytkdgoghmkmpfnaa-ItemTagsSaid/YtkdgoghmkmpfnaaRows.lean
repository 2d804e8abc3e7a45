/-
  No cell of these rows narrows 'for every input' (looked for: loops, veiled, ifaces, maps, wideKeys, modest, calm, conditions, laid).
  DERIVED. THE GIVEN ROWS OF THIS SEAT. 13 by the template 'for every input the law returns true; each argument reads behind the call as it read before'; 0 by the template 'total and deterministic' (their statements: YtkdgoghmkmpfnaaTotals.lean).
  GIVEN WITH THE SEED: the statements are not yours to turn. If you find one false, say at which input.
  Laid BY PROGRAM, IN A SANDBOX (cutbox-rows.mjs): the forced cells as the released guide's own fill.sh prints them over the translation c2f7d8094f1fbf25… (all of the seat's roots in one cut). By AI agents, Wed Nov 11 2026. No macro, syntax, notation, axiom, sorry.
-/
import Derived.Test.YtkdgoghmkmpfnaaChecked
import GoSem.Claim
import GoSem.ClaimJoined
import GoSem.ClaimMapViews
import Derived.JoinedTies
import Derived.KernelRfl
namespace Go.Proofs.Ytkdgoghmkmpfnaa
/- THE CELL 'sum', in the pinned program and in every row, IS THE sha256 OF THE DUMP (.gsa) THAT YtkdgoghmkmpfnaaProg.lean LOADS. Nothing in Lean hashes anything: it is a label: what it is worth is what the hold of that sum in a sandbox is worth. -/
noncomputable def Try.pinned : Pinned := { name := "ytkdgoghmkmpfnaa", sum := "c2f7d8094f1fbf25986dbf6e3f9c092ce6852ba23da331bdb532ed129e409664", checked := Try.checked }
namespace Rows
def none {H : Type} : Left H := { results := [], args := [] }

/-- 'bitextlaw3.ItemTags': WHATEVER THE INPUT: true; the input reads as it did. -/
def itemTagsSpec : ChangeSpec := { name := "itemTags", fn := fun _ => fun
  | [d1, d2, d3, d4] => { results := [.lit (.bool true)], args := [d1, d2, d3, d4] }
  | _ => none }
def itemTagsRow : OpenClaim := { program := "ytkdgoghmkmpfnaa", sum := "c2f7d8094f1fbf25986dbf6e3f9c092ce6852ba23da331bdb532ed129e409664", func := "bitext/bitextlaw3.ItemTags", spec := "itemTags", inPlace := ["internal/bytealg.IndexByteString", "internal/bytealg.IndexString"], named := ["internal/bytealg.MaxLen"], plainKeys := false, apart := false }
def ItemTagsSaid : Prop := itemTagsRow.holds Try.pinned (OpenSpec.ofChange itemTagsSpec)

/-- ITS FALSE NEIGHBOUR: 'it returns false'. Refute it at one input. -/
def itemTagsWrong : ChangeSpec := { name := "itemTags", fn := fun _ => fun
  | [d1, d2, d3, d4] => { results := [.lit (.bool false)], args := [d1, d2, d3, d4] }
  | _ => none }
def ItemTagsWrongFalsely : Prop := itemTagsRow.holds Try.pinned (OpenSpec.ofChange itemTagsWrong)

/-- 'bitextlaw3.ItemContents': WHATEVER THE INPUT: true; the input reads as it did. -/
def itemContentsSpec : ChangeSpec := { name := "itemContents", fn := fun _ => fun
  | [d] => { results := [.lit (.bool true)], args := [d] }
  | _ => none }
def itemContentsRow : OpenClaim := { program := "ytkdgoghmkmpfnaa", sum := "c2f7d8094f1fbf25986dbf6e3f9c092ce6852ba23da331bdb532ed129e409664", func := "bitext/bitextlaw3.ItemContents", spec := "itemContents", inPlace := ["internal/bytealg.IndexByteString", "internal/bytealg.IndexString"], named := ["internal/bytealg.MaxLen"], plainKeys := false, apart := false }
def ItemContentsSaid : Prop := itemContentsRow.holds Try.pinned (OpenSpec.ofChange itemContentsSpec)

/-- ITS FALSE NEIGHBOUR: 'it returns false'. Refute it at one input. -/
def itemContentsWrong : ChangeSpec := { name := "itemContents", fn := fun _ => fun
  | [d] => { results := [.lit (.bool false)], args := [d] }
  | _ => none }
def ItemContentsWrongFalsely : Prop := itemContentsRow.holds Try.pinned (OpenSpec.ofChange itemContentsWrong)

/-- 'bitextlaw3.ItemValidates': WHATEVER THE INPUT: true; the input reads as it did. -/
def itemValidatesSpec : ChangeSpec := { name := "itemValidates", fn := fun _ => fun
  | [d1, d2, d3, d4] => { results := [.lit (.bool true)], args := [d1, d2, d3, d4] }
  | _ => none }
def itemValidatesRow : OpenClaim := { program := "ytkdgoghmkmpfnaa", sum := "c2f7d8094f1fbf25986dbf6e3f9c092ce6852ba23da331bdb532ed129e409664", func := "bitext/bitextlaw3.ItemValidates", spec := "itemValidates", inPlace := ["internal/bytealg.IndexByteString", "internal/bytealg.IndexString"], named := ["internal/bytealg.MaxLen"], plainKeys := false, apart := false }
def ItemValidatesSaid : Prop := itemValidatesRow.holds Try.pinned (OpenSpec.ofChange itemValidatesSpec)

/-- ITS FALSE NEIGHBOUR: 'it returns false'. Refute it at one input. -/
def itemValidatesWrong : ChangeSpec := { name := "itemValidates", fn := fun _ => fun
  | [d1, d2, d3, d4] => { results := [.lit (.bool false)], args := [d1, d2, d3, d4] }
  | _ => none }
def ItemValidatesWrongFalsely : Prop := itemValidatesRow.holds Try.pinned (OpenSpec.ofChange itemValidatesWrong)

/-- 'bitextlaw3.ItemLimits': WHATEVER THE INPUT: true; the input reads as it did. -/
def itemLimitsSpec : ChangeSpec := { name := "itemLimits", fn := fun _ => fun
  | [d1, d2] => { results := [.lit (.bool true)], args := [d1, d2] }
  | _ => none }
def itemLimitsRow : OpenClaim := { program := "ytkdgoghmkmpfnaa", sum := "c2f7d8094f1fbf25986dbf6e3f9c092ce6852ba23da331bdb532ed129e409664", func := "bitext/bitextlaw3.ItemLimits", spec := "itemLimits", inPlace := ["internal/bytealg.IndexByteString", "internal/bytealg.IndexString"], named := ["internal/bytealg.MaxLen"], plainKeys := false, apart := false }
def ItemLimitsSaid : Prop := itemLimitsRow.holds Try.pinned (OpenSpec.ofChange itemLimitsSpec)

/-- ITS FALSE NEIGHBOUR: 'it returns false'. Refute it at one input. -/
def itemLimitsWrong : ChangeSpec := { name := "itemLimits", fn := fun _ => fun
  | [d1, d2] => { results := [.lit (.bool false)], args := [d1, d2] }
  | _ => none }
def ItemLimitsWrongFalsely : Prop := itemLimitsRow.holds Try.pinned (OpenSpec.ofChange itemLimitsWrong)

/-- 'bitextlaw3.ItemShapes': WHATEVER THE INPUT: true; the input reads as it did. -/
def itemShapesSpec : ChangeSpec := { name := "itemShapes", fn := fun _ => fun
  | [d1, d2] => { results := [.lit (.bool true)], args := [d1, d2] }
  | _ => none }
def itemShapesRow : OpenClaim := { program := "ytkdgoghmkmpfnaa", sum := "c2f7d8094f1fbf25986dbf6e3f9c092ce6852ba23da331bdb532ed129e409664", func := "bitext/bitextlaw3.ItemShapes", spec := "itemShapes", inPlace := ["internal/bytealg.IndexByteString", "internal/bytealg.IndexString"], named := ["internal/bytealg.MaxLen"], plainKeys := false, apart := false }
def ItemShapesSaid : Prop := itemShapesRow.holds Try.pinned (OpenSpec.ofChange itemShapesSpec)

/-- ITS FALSE NEIGHBOUR: 'it returns false'. Refute it at one input. -/
def itemShapesWrong : ChangeSpec := { name := "itemShapes", fn := fun _ => fun
  | [d1, d2] => { results := [.lit (.bool false)], args := [d1, d2] }
  | _ => none }
def ItemShapesWrongFalsely : Prop := itemShapesRow.holds Try.pinned (OpenSpec.ofChange itemShapesWrong)

/-- 'bitextlaw3.ItemSlices': WHATEVER THE INPUT: true; the input reads as it did. -/
def itemSlicesSpec : ChangeSpec := { name := "itemSlices", fn := fun _ => fun
  | [d1, d2, d3, d4] => { results := [.lit (.bool true)], args := [d1, d2, d3, d4] }
  | _ => none }
def itemSlicesRow : OpenClaim := { program := "ytkdgoghmkmpfnaa", sum := "c2f7d8094f1fbf25986dbf6e3f9c092ce6852ba23da331bdb532ed129e409664", func := "bitext/bitextlaw3.ItemSlices", spec := "itemSlices", inPlace := ["internal/bytealg.IndexByteString", "internal/bytealg.IndexString"], named := ["internal/bytealg.MaxLen"], plainKeys := false, apart := false }
def ItemSlicesSaid : Prop := itemSlicesRow.holds Try.pinned (OpenSpec.ofChange itemSlicesSpec)

/-- ITS FALSE NEIGHBOUR: 'it returns false'. Refute it at one input. -/
def itemSlicesWrong : ChangeSpec := { name := "itemSlices", fn := fun _ => fun
  | [d1, d2, d3, d4] => { results := [.lit (.bool false)], args := [d1, d2, d3, d4] }
  | _ => none }
def ItemSlicesWrongFalsely : Prop := itemSlicesRow.holds Try.pinned (OpenSpec.ofChange itemSlicesWrong)

/-- 'bitextlaw3.ItemConcats': WHATEVER THE INPUT: true; the input reads as it did. -/
def itemConcatsSpec : ChangeSpec := { name := "itemConcats", fn := fun _ => fun
  | [d1, d2, d3] => { results := [.lit (.bool true)], args := [d1, d2, d3] }
  | _ => none }
def itemConcatsRow : OpenClaim := { program := "ytkdgoghmkmpfnaa", sum := "c2f7d8094f1fbf25986dbf6e3f9c092ce6852ba23da331bdb532ed129e409664", func := "bitext/bitextlaw3.ItemConcats", spec := "itemConcats", inPlace := ["internal/bytealg.IndexByteString", "internal/bytealg.IndexString"], named := ["internal/bytealg.MaxLen"], plainKeys := false, apart := false }
def ItemConcatsSaid : Prop := itemConcatsRow.holds Try.pinned (OpenSpec.ofChange itemConcatsSpec)

/-- ITS FALSE NEIGHBOUR: 'it returns false'. Refute it at one input. -/
def itemConcatsWrong : ChangeSpec := { name := "itemConcats", fn := fun _ => fun
  | [d1, d2, d3] => { results := [.lit (.bool false)], args := [d1, d2, d3] }
  | _ => none }
def ItemConcatsWrongFalsely : Prop := itemConcatsRow.holds Try.pinned (OpenSpec.ofChange itemConcatsWrong)

/-- 'bitextlaw3.ItemRenames': WHATEVER THE INPUT: true; the input reads as it did. -/
def itemRenamesSpec : ChangeSpec := { name := "itemRenames", fn := fun _ => fun
  | [d1, d2, d3, d4] => { results := [.lit (.bool true)], args := [d1, d2, d3, d4] }
  | _ => none }
def itemRenamesRow : OpenClaim := { program := "ytkdgoghmkmpfnaa", sum := "c2f7d8094f1fbf25986dbf6e3f9c092ce6852ba23da331bdb532ed129e409664", func := "bitext/bitextlaw3.ItemRenames", spec := "itemRenames", inPlace := ["internal/bytealg.IndexByteString", "internal/bytealg.IndexString"], named := ["internal/bytealg.MaxLen"], plainKeys := false, apart := false }
def ItemRenamesSaid : Prop := itemRenamesRow.holds Try.pinned (OpenSpec.ofChange itemRenamesSpec)

/-- ITS FALSE NEIGHBOUR: 'it returns false'. Refute it at one input. -/
def itemRenamesWrong : ChangeSpec := { name := "itemRenames", fn := fun _ => fun
  | [d1, d2, d3, d4] => { results := [.lit (.bool false)], args := [d1, d2, d3, d4] }
  | _ => none }
def ItemRenamesWrongFalsely : Prop := itemRenamesRow.holds Try.pinned (OpenSpec.ofChange itemRenamesWrong)

/-- 'bitextlaw3.ItemRenumbers': WHATEVER THE INPUT: true; the input reads as it did. -/
def itemRenumbersSpec : ChangeSpec := { name := "itemRenumbers", fn := fun _ => fun
  | [d] => { results := [.lit (.bool true)], args := [d] }
  | _ => none }
def itemRenumbersRow : OpenClaim := { program := "ytkdgoghmkmpfnaa", sum := "c2f7d8094f1fbf25986dbf6e3f9c092ce6852ba23da331bdb532ed129e409664", func := "bitext/bitextlaw3.ItemRenumbers", spec := "itemRenumbers", inPlace := ["internal/bytealg.IndexByteString", "internal/bytealg.IndexString"], named := ["internal/bytealg.MaxLen"], plainKeys := false, apart := false }
def ItemRenumbersSaid : Prop := itemRenumbersRow.holds Try.pinned (OpenSpec.ofChange itemRenumbersSpec)

/-- ITS FALSE NEIGHBOUR: 'it returns false'. Refute it at one input. -/
def itemRenumbersWrong : ChangeSpec := { name := "itemRenumbers", fn := fun _ => fun
  | [d] => { results := [.lit (.bool false)], args := [d] }
  | _ => none }
def ItemRenumbersWrongFalsely : Prop := itemRenumbersRow.holds Try.pinned (OpenSpec.ofChange itemRenumbersWrong)

/-- 'bitextlaw3.ItemPairs': WHATEVER THE INPUT: true; the input reads as it did. -/
def itemPairsSpec : ChangeSpec := { name := "itemPairs", fn := fun _ => fun
  | [d1, d2, d3, d4] => { results := [.lit (.bool true)], args := [d1, d2, d3, d4] }
  | _ => none }
def itemPairsRow : OpenClaim := { program := "ytkdgoghmkmpfnaa", sum := "c2f7d8094f1fbf25986dbf6e3f9c092ce6852ba23da331bdb532ed129e409664", func := "bitext/bitextlaw3.ItemPairs", spec := "itemPairs", inPlace := ["internal/bytealg.IndexByteString", "internal/bytealg.IndexString"], named := ["internal/bytealg.MaxLen"], plainKeys := false, apart := false }
def ItemPairsSaid : Prop := itemPairsRow.holds Try.pinned (OpenSpec.ofChange itemPairsSpec)

/-- ITS FALSE NEIGHBOUR: 'it returns false'. Refute it at one input. -/
def itemPairsWrong : ChangeSpec := { name := "itemPairs", fn := fun _ => fun
  | [d1, d2, d3, d4] => { results := [.lit (.bool false)], args := [d1, d2, d3, d4] }
  | _ => none }
def ItemPairsWrongFalsely : Prop := itemPairsRow.holds Try.pinned (OpenSpec.ofChange itemPairsWrong)

/-- 'bitextlaw3.ItemFits': WHATEVER THE INPUT: true; the input reads as it did. -/
def itemFitsSpec : ChangeSpec := { name := "itemFits", fn := fun _ => fun
  | [d1, d2, d3, d4] => { results := [.lit (.bool true)], args := [d1, d2, d3, d4] }
  | _ => none }
def itemFitsRow : OpenClaim := { program := "ytkdgoghmkmpfnaa", sum := "c2f7d8094f1fbf25986dbf6e3f9c092ce6852ba23da331bdb532ed129e409664", func := "bitext/bitextlaw3.ItemFits", spec := "itemFits", inPlace := ["internal/bytealg.IndexByteString", "internal/bytealg.IndexString"], recurses := true, named := ["internal/bytealg.MaxLen"], plainKeys := false, apart := false }
def ItemFitsSaid : Prop := itemFitsRow.holds Try.pinned (OpenSpec.ofChange itemFitsSpec)

/-- ITS FALSE NEIGHBOUR: 'it returns false'. Refute it at one input. -/
def itemFitsWrong : ChangeSpec := { name := "itemFits", fn := fun _ => fun
  | [d1, d2, d3, d4] => { results := [.lit (.bool false)], args := [d1, d2, d3, d4] }
  | _ => none }
def ItemFitsWrongFalsely : Prop := itemFitsRow.holds Try.pinned (OpenSpec.ofChange itemFitsWrong)

/-- 'bitextlaw3.ItemJoins': WHATEVER THE INPUT: true; the input reads as it did. -/
def itemJoinsSpec : ChangeSpec := { name := "itemJoins", fn := fun _ => fun
  | [d1, d2, d3] => { results := [.lit (.bool true)], args := [d1, d2, d3] }
  | _ => none }
def itemJoinsRow : OpenClaim := { program := "ytkdgoghmkmpfnaa", sum := "c2f7d8094f1fbf25986dbf6e3f9c092ce6852ba23da331bdb532ed129e409664", func := "bitext/bitextlaw3.ItemJoins", spec := "itemJoins", inPlace := ["internal/bytealg.IndexByteString", "internal/bytealg.IndexString"], recurses := true, named := ["internal/bytealg.MaxLen"], plainKeys := false, apart := false }
def ItemJoinsSaid : Prop := itemJoinsRow.holds Try.pinned (OpenSpec.ofChange itemJoinsSpec)

/-- ITS FALSE NEIGHBOUR: 'it returns false'. Refute it at one input. -/
def itemJoinsWrong : ChangeSpec := { name := "itemJoins", fn := fun _ => fun
  | [d1, d2, d3] => { results := [.lit (.bool false)], args := [d1, d2, d3] }
  | _ => none }
def ItemJoinsWrongFalsely : Prop := itemJoinsRow.holds Try.pinned (OpenSpec.ofChange itemJoinsWrong)

/-- 'bitextlaw3.ItemParts': WHATEVER THE INPUT: true; the input reads as it did. -/
def itemPartsSpec : ChangeSpec := { name := "itemParts", fn := fun _ => fun
  | [d1, d2] => { results := [.lit (.bool true)], args := [d1, d2] }
  | _ => none }
def itemPartsRow : OpenClaim := { program := "ytkdgoghmkmpfnaa", sum := "c2f7d8094f1fbf25986dbf6e3f9c092ce6852ba23da331bdb532ed129e409664", func := "bitext/bitextlaw3.ItemParts", spec := "itemParts", inPlace := ["internal/bytealg.IndexByteString", "internal/bytealg.IndexString"], recurses := true, named := ["internal/bytealg.MaxLen"], plainKeys := false, apart := false }
def ItemPartsSaid : Prop := itemPartsRow.holds Try.pinned (OpenSpec.ofChange itemPartsSpec)

/-- ITS FALSE NEIGHBOUR: 'it returns false'. Refute it at one input. -/
def itemPartsWrong : ChangeSpec := { name := "itemParts", fn := fun _ => fun
  | [d1, d2] => { results := [.lit (.bool false)], args := [d1, d2] }
  | _ => none }
def ItemPartsWrongFalsely : Prop := itemPartsRow.holds Try.pinned (OpenSpec.ofChange itemPartsWrong)

/- THE SECOND FORM. 'bulk': how many values and letters a reading holds, each counted each time it is reached (what is shared counts as often as it is met; a slice's spare places count too). A statement '..UptoSaid' is the law's where the arguments, and the package variables that the reading takes, are together of bulk at most 1048576: NARROWER than '..Said'. Prove '..Said' where nothing that the law and all that it calls make is longer than what came in: it says more and counts as full. Else prove '..UptoSaid'. A law counts once. -/
mutual
def uptoBulk {H : Type} : DataW H → Nat
  | .lit (.string bytes) => bytes.length + 1
  | .lit _ => 1
  | .nil => 1
  | .ptr d => uptoBulk d + 1
  | .slice elems spare => uptoBulkAll elems + uptoBulkAll spare + 1
  | .agg parts => uptoBulkAll parts + 1
  | .iface _ d => uptoBulk d + 1
  | .map entries => uptoBulkEntries entries + 1
  | .held _ => 1
def uptoBulkAll {H : Type} : List (DataW H) → Nat
  | [] => 0
  | d :: r => uptoBulk d + uptoBulkAll r
def uptoBulkEntries {H : Type} : List (Lit × DataW H) → Nat
  | [] => 0
  | x :: r => uptoBulkEntry x + uptoBulkEntries r
def uptoBulkEntry {H : Type} : Lit × DataW H → Nat
  | (.string bytes, d) => bytes.length + uptoBulk d + 1
  | (_, d) => uptoBulk d + 1
 end
def uptoSmall : (H : Type) → List (DataW H) → Bool := fun _ ds => decide (uptoBulkAll ds ≤ 1048576)
def OpenSpec.upto (s : _root_.Go.ChangeSpec) : _root_.Go.OpenSpec := { _root_.Go.OpenSpec.ofChange s with cond := some uptoSmall }

/-- 'bitextlaw3.ItemTags', WHERE WHAT IT READS IS OF BULK AT MOST 1048576: true; the input reads as it did. -/
def itemTagsUptoRow : OpenClaim := { program := "ytkdgoghmkmpfnaa", sum := "c2f7d8094f1fbf25986dbf6e3f9c092ce6852ba23da331bdb532ed129e409664", func := "bitext/bitextlaw3.ItemTags", spec := "itemTags", inPlace := ["internal/bytealg.IndexByteString", "internal/bytealg.IndexString"], named := ["internal/bytealg.MaxLen"], plainKeys := false, apart := false, narrowed := true }
def ItemTagsUptoSaid : Prop := itemTagsUptoRow.holds Try.pinned (OpenSpec.upto itemTagsSpec)

/-- 'bitextlaw3.ItemContents', WHERE WHAT IT READS IS OF BULK AT MOST 1048576: true; the input reads as it did. -/
def itemContentsUptoRow : OpenClaim := { program := "ytkdgoghmkmpfnaa", sum := "c2f7d8094f1fbf25986dbf6e3f9c092ce6852ba23da331bdb532ed129e409664", func := "bitext/bitextlaw3.ItemContents", spec := "itemContents", inPlace := ["internal/bytealg.IndexByteString", "internal/bytealg.IndexString"], named := ["internal/bytealg.MaxLen"], plainKeys := false, apart := false, narrowed := true }
def ItemContentsUptoSaid : Prop := itemContentsUptoRow.holds Try.pinned (OpenSpec.upto itemContentsSpec)

/-- 'bitextlaw3.ItemValidates', WHERE WHAT IT READS IS OF BULK AT MOST 1048576: true; the input reads as it did. -/
def itemValidatesUptoRow : OpenClaim := { program := "ytkdgoghmkmpfnaa", sum := "c2f7d8094f1fbf25986dbf6e3f9c092ce6852ba23da331bdb532ed129e409664", func := "bitext/bitextlaw3.ItemValidates", spec := "itemValidates", inPlace := ["internal/bytealg.IndexByteString", "internal/bytealg.IndexString"], named := ["internal/bytealg.MaxLen"], plainKeys := false, apart := false, narrowed := true }
def ItemValidatesUptoSaid : Prop := itemValidatesUptoRow.holds Try.pinned (OpenSpec.upto itemValidatesSpec)

/-- 'bitextlaw3.ItemLimits', WHERE WHAT IT READS IS OF BULK AT MOST 1048576: true; the input reads as it did. -/
def itemLimitsUptoRow : OpenClaim := { program := "ytkdgoghmkmpfnaa", sum := "c2f7d8094f1fbf25986dbf6e3f9c092ce6852ba23da331bdb532ed129e409664", func := "bitext/bitextlaw3.ItemLimits", spec := "itemLimits", inPlace := ["internal/bytealg.IndexByteString", "internal/bytealg.IndexString"], named := ["internal/bytealg.MaxLen"], plainKeys := false, apart := false, narrowed := true }
def ItemLimitsUptoSaid : Prop := itemLimitsUptoRow.holds Try.pinned (OpenSpec.upto itemLimitsSpec)

/-- 'bitextlaw3.ItemShapes', WHERE WHAT IT READS IS OF BULK AT MOST 1048576: true; the input reads as it did. -/
def itemShapesUptoRow : OpenClaim := { program := "ytkdgoghmkmpfnaa", sum := "c2f7d8094f1fbf25986dbf6e3f9c092ce6852ba23da331bdb532ed129e409664", func := "bitext/bitextlaw3.ItemShapes", spec := "itemShapes", inPlace := ["internal/bytealg.IndexByteString", "internal/bytealg.IndexString"], named := ["internal/bytealg.MaxLen"], plainKeys := false, apart := false, narrowed := true }
def ItemShapesUptoSaid : Prop := itemShapesUptoRow.holds Try.pinned (OpenSpec.upto itemShapesSpec)

/-- 'bitextlaw3.ItemSlices', WHERE WHAT IT READS IS OF BULK AT MOST 1048576: true; the input reads as it did. -/
def itemSlicesUptoRow : OpenClaim := { program := "ytkdgoghmkmpfnaa", sum := "c2f7d8094f1fbf25986dbf6e3f9c092ce6852ba23da331bdb532ed129e409664", func := "bitext/bitextlaw3.ItemSlices", spec := "itemSlices", inPlace := ["internal/bytealg.IndexByteString", "internal/bytealg.IndexString"], named := ["internal/bytealg.MaxLen"], plainKeys := false, apart := false, narrowed := true }
def ItemSlicesUptoSaid : Prop := itemSlicesUptoRow.holds Try.pinned (OpenSpec.upto itemSlicesSpec)

/-- 'bitextlaw3.ItemConcats', WHERE WHAT IT READS IS OF BULK AT MOST 1048576: true; the input reads as it did. -/
def itemConcatsUptoRow : OpenClaim := { program := "ytkdgoghmkmpfnaa", sum := "c2f7d8094f1fbf25986dbf6e3f9c092ce6852ba23da331bdb532ed129e409664", func := "bitext/bitextlaw3.ItemConcats", spec := "itemConcats", inPlace := ["internal/bytealg.IndexByteString", "internal/bytealg.IndexString"], named := ["internal/bytealg.MaxLen"], plainKeys := false, apart := false, narrowed := true }
def ItemConcatsUptoSaid : Prop := itemConcatsUptoRow.holds Try.pinned (OpenSpec.upto itemConcatsSpec)

/-- 'bitextlaw3.ItemRenames', WHERE WHAT IT READS IS OF BULK AT MOST 1048576: true; the input reads as it did. -/
def itemRenamesUptoRow : OpenClaim := { program := "ytkdgoghmkmpfnaa", sum := "c2f7d8094f1fbf25986dbf6e3f9c092ce6852ba23da331bdb532ed129e409664", func := "bitext/bitextlaw3.ItemRenames", spec := "itemRenames", inPlace := ["internal/bytealg.IndexByteString", "internal/bytealg.IndexString"], named := ["internal/bytealg.MaxLen"], plainKeys := false, apart := false, narrowed := true }
def ItemRenamesUptoSaid : Prop := itemRenamesUptoRow.holds Try.pinned (OpenSpec.upto itemRenamesSpec)

/-- 'bitextlaw3.ItemRenumbers', WHERE WHAT IT READS IS OF BULK AT MOST 1048576: true; the input reads as it did. -/
def itemRenumbersUptoRow : OpenClaim := { program := "ytkdgoghmkmpfnaa", sum := "c2f7d8094f1fbf25986dbf6e3f9c092ce6852ba23da331bdb532ed129e409664", func := "bitext/bitextlaw3.ItemRenumbers", spec := "itemRenumbers", inPlace := ["internal/bytealg.IndexByteString", "internal/bytealg.IndexString"], named := ["internal/bytealg.MaxLen"], plainKeys := false, apart := false, narrowed := true }
def ItemRenumbersUptoSaid : Prop := itemRenumbersUptoRow.holds Try.pinned (OpenSpec.upto itemRenumbersSpec)

/-- 'bitextlaw3.ItemPairs', WHERE WHAT IT READS IS OF BULK AT MOST 1048576: true; the input reads as it did. -/
def itemPairsUptoRow : OpenClaim := { program := "ytkdgoghmkmpfnaa", sum := "c2f7d8094f1fbf25986dbf6e3f9c092ce6852ba23da331bdb532ed129e409664", func := "bitext/bitextlaw3.ItemPairs", spec := "itemPairs", inPlace := ["internal/bytealg.IndexByteString", "internal/bytealg.IndexString"], named := ["internal/bytealg.MaxLen"], plainKeys := false, apart := false, narrowed := true }
def ItemPairsUptoSaid : Prop := itemPairsUptoRow.holds Try.pinned (OpenSpec.upto itemPairsSpec)

/-- 'bitextlaw3.ItemFits', WHERE WHAT IT READS IS OF BULK AT MOST 1048576: true; the input reads as it did. -/
def itemFitsUptoRow : OpenClaim := { program := "ytkdgoghmkmpfnaa", sum := "c2f7d8094f1fbf25986dbf6e3f9c092ce6852ba23da331bdb532ed129e409664", func := "bitext/bitextlaw3.ItemFits", spec := "itemFits", inPlace := ["internal/bytealg.IndexByteString", "internal/bytealg.IndexString"], recurses := true, named := ["internal/bytealg.MaxLen"], plainKeys := false, apart := false, narrowed := true }
def ItemFitsUptoSaid : Prop := itemFitsUptoRow.holds Try.pinned (OpenSpec.upto itemFitsSpec)

/-- 'bitextlaw3.ItemJoins', WHERE WHAT IT READS IS OF BULK AT MOST 1048576: true; the input reads as it did. -/
def itemJoinsUptoRow : OpenClaim := { program := "ytkdgoghmkmpfnaa", sum := "c2f7d8094f1fbf25986dbf6e3f9c092ce6852ba23da331bdb532ed129e409664", func := "bitext/bitextlaw3.ItemJoins", spec := "itemJoins", inPlace := ["internal/bytealg.IndexByteString", "internal/bytealg.IndexString"], recurses := true, named := ["internal/bytealg.MaxLen"], plainKeys := false, apart := false, narrowed := true }
def ItemJoinsUptoSaid : Prop := itemJoinsUptoRow.holds Try.pinned (OpenSpec.upto itemJoinsSpec)

/-- 'bitextlaw3.ItemParts', WHERE WHAT IT READS IS OF BULK AT MOST 1048576: true; the input reads as it did. -/
def itemPartsUptoRow : OpenClaim := { program := "ytkdgoghmkmpfnaa", sum := "c2f7d8094f1fbf25986dbf6e3f9c092ce6852ba23da331bdb532ed129e409664", func := "bitext/bitextlaw3.ItemParts", spec := "itemParts", inPlace := ["internal/bytealg.IndexByteString", "internal/bytealg.IndexString"], recurses := true, named := ["internal/bytealg.MaxLen"], plainKeys := false, apart := false, narrowed := true }
def ItemPartsUptoSaid : Prop := itemPartsUptoRow.holds Try.pinned (OpenSpec.upto itemPartsSpec)

end Rows
end Go.Proofs.Ytkdgoghmkmpfnaa
