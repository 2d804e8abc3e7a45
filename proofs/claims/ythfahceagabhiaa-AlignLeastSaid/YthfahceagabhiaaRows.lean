/-
  No cell of these rows narrows 'for every input' (looked for: loops, veiled, ifaces, maps, wideKeys, modest, calm, conditions, laid).
  DERIVED. THE GIVEN ROWS OF THIS SEAT. 8 by the template 'for every input the law returns true; each argument reads behind the call as it read before'; 0 by the template 'total and deterministic' (their statements: YthfahceagabhiaaTotals.lean).
  GIVEN WITH THE SEED: the statements are not yours to turn. If you find one false, say at which input.
  Laid BY PROGRAM, IN A SANDBOX (cutbox-rows.mjs): the forced cells as the released guide's own fill.sh prints them over the translation 508d76c8e417f1cf… (all of the seat's roots in one cut). By AI agents, Wed Nov 11 2026. No macro, syntax, notation, axiom, sorry.
-/
import Derived.Test.YthfahceagabhiaaChecked
import GoSem.Claim
import GoSem.ClaimJoined
import GoSem.ClaimMapViews
import Derived.JoinedTies
import Derived.KernelRfl
namespace Go.Proofs.Ythfahceagabhiaa
/- THE CELL 'sum', in the pinned program and in every row, IS THE sha256 OF THE DUMP (.gsa) THAT YthfahceagabhiaaProg.lean LOADS. Nothing in Lean hashes anything: it is a label: what it is worth is what the hold of that sum in a sandbox is worth. -/
noncomputable def Try.pinned : Pinned := { name := "ythfahceagabhiaa", sum := "508d76c8e417f1cf3997badcb57433efad4400a8327a62f6f1ba86dafe17caff", checked := Try.checked }
namespace Rows
def none {H : Type} : Left H := { results := [], args := [] }

/-- 'bitextlaw20.AlignCosts': WHATEVER THE INPUT: true; the input reads as it did. -/
def alignCostsSpec : ChangeSpec := { name := "alignCosts", fn := fun _ => fun
  | [d1, d2, d3, d4] => { results := [.lit (.bool true)], args := [d1, d2, d3, d4] }
  | _ => none }
def alignCostsRow : OpenClaim := { program := "ythfahceagabhiaa", sum := "508d76c8e417f1cf3997badcb57433efad4400a8327a62f6f1ba86dafe17caff", func := "bitext/bitextlaw20.AlignCosts", spec := "alignCosts", apart := false }
def AlignCostsSaid : Prop := alignCostsRow.holds Try.pinned (OpenSpec.ofChange alignCostsSpec)

/-- ITS FALSE NEIGHBOUR: 'it returns false'. Refute it at one input. -/
def alignCostsWrong : ChangeSpec := { name := "alignCosts", fn := fun _ => fun
  | [d1, d2, d3, d4] => { results := [.lit (.bool false)], args := [d1, d2, d3, d4] }
  | _ => none }
def AlignCostsWrongFalsely : Prop := alignCostsRow.holds Try.pinned (OpenSpec.ofChange alignCostsWrong)

/-- 'bitextlaw20.AlignSays': WHATEVER THE INPUT: true; the input reads as it did. -/
def alignSaysSpec : ChangeSpec := { name := "alignSays", fn := fun _ => fun
  | [d1, d2, d3, d4] => { results := [.lit (.bool true)], args := [d1, d2, d3, d4] }
  | _ => none }
def alignSaysRow : OpenClaim := { program := "ythfahceagabhiaa", sum := "508d76c8e417f1cf3997badcb57433efad4400a8327a62f6f1ba86dafe17caff", func := "bitext/bitextlaw20.AlignSays", spec := "alignSays", apart := false }
def AlignSaysSaid : Prop := alignSaysRow.holds Try.pinned (OpenSpec.ofChange alignSaysSpec)

/-- ITS FALSE NEIGHBOUR: 'it returns false'. Refute it at one input. -/
def alignSaysWrong : ChangeSpec := { name := "alignSays", fn := fun _ => fun
  | [d1, d2, d3, d4] => { results := [.lit (.bool false)], args := [d1, d2, d3, d4] }
  | _ => none }
def AlignSaysWrongFalsely : Prop := alignSaysRow.holds Try.pinned (OpenSpec.ofChange alignSaysWrong)

/-- 'bitextlaw20.AlignSelf': WHATEVER THE INPUT: true; the input reads as it did. -/
def alignSelfSpec : ChangeSpec := { name := "alignSelf", fn := fun _ => fun
  | [d1, d2] => { results := [.lit (.bool true)], args := [d1, d2] }
  | _ => none }
def alignSelfRow : OpenClaim := { program := "ythfahceagabhiaa", sum := "508d76c8e417f1cf3997badcb57433efad4400a8327a62f6f1ba86dafe17caff", func := "bitext/bitextlaw20.AlignSelf", spec := "alignSelf", apart := false }
def AlignSelfSaid : Prop := alignSelfRow.holds Try.pinned (OpenSpec.ofChange alignSelfSpec)

/-- ITS FALSE NEIGHBOUR: 'it returns false'. Refute it at one input. -/
def alignSelfWrong : ChangeSpec := { name := "alignSelf", fn := fun _ => fun
  | [d1, d2] => { results := [.lit (.bool false)], args := [d1, d2] }
  | _ => none }
def AlignSelfWrongFalsely : Prop := alignSelfRow.holds Try.pinned (OpenSpec.ofChange alignSelfWrong)

/-- 'bitextlaw20.AlignCovers': WHATEVER THE INPUT: true; the input reads as it did. -/
def alignCoversSpec : ChangeSpec := { name := "alignCovers", fn := fun _ => fun
  | [d1, d2] => { results := [.lit (.bool true)], args := [d1, d2] }
  | _ => none }
def alignCoversRow : OpenClaim := { program := "ythfahceagabhiaa", sum := "508d76c8e417f1cf3997badcb57433efad4400a8327a62f6f1ba86dafe17caff", func := "bitext/bitextlaw20.AlignCovers", spec := "alignCovers", apart := false }
def AlignCoversSaid : Prop := alignCoversRow.holds Try.pinned (OpenSpec.ofChange alignCoversSpec)

/-- ITS FALSE NEIGHBOUR: 'it returns false'. Refute it at one input. -/
def alignCoversWrong : ChangeSpec := { name := "alignCovers", fn := fun _ => fun
  | [d1, d2] => { results := [.lit (.bool false)], args := [d1, d2] }
  | _ => none }
def AlignCoversWrongFalsely : Prop := alignCoversRow.holds Try.pinned (OpenSpec.ofChange alignCoversWrong)

/-- 'bitextlaw20.AlignPrices': WHATEVER THE INPUT: true; the input reads as it did. -/
def alignPricesSpec : ChangeSpec := { name := "alignPrices", fn := fun _ => fun
  | [d1, d2, d3, d4, d5] => { results := [.lit (.bool true)], args := [d1, d2, d3, d4, d5] }
  | _ => none }
def alignPricesRow : OpenClaim := { program := "ythfahceagabhiaa", sum := "508d76c8e417f1cf3997badcb57433efad4400a8327a62f6f1ba86dafe17caff", func := "bitext/bitextlaw20.AlignPrices", spec := "alignPrices", apart := false }
def AlignPricesSaid : Prop := alignPricesRow.holds Try.pinned (OpenSpec.ofChange alignPricesSpec)

/-- ITS FALSE NEIGHBOUR: 'it returns false'. Refute it at one input. -/
def alignPricesWrong : ChangeSpec := { name := "alignPrices", fn := fun _ => fun
  | [d1, d2, d3, d4, d5] => { results := [.lit (.bool false)], args := [d1, d2, d3, d4, d5] }
  | _ => none }
def AlignPricesWrongFalsely : Prop := alignPricesRow.holds Try.pinned (OpenSpec.ofChange alignPricesWrong)

/-- 'bitextlaw20.AlignLeast': WHATEVER THE INPUT: true; the input reads as it did. -/
def alignLeastSpec : ChangeSpec := { name := "alignLeast", fn := fun _ => fun
  | [d1, d2, d3] => { results := [.lit (.bool true)], args := [d1, d2, d3] }
  | _ => none }
def alignLeastRow : OpenClaim := { program := "ythfahceagabhiaa", sum := "508d76c8e417f1cf3997badcb57433efad4400a8327a62f6f1ba86dafe17caff", func := "bitext/bitextlaw20.AlignLeast", spec := "alignLeast", apart := false }
def AlignLeastSaid : Prop := alignLeastRow.holds Try.pinned (OpenSpec.ofChange alignLeastSpec)

/-- ITS FALSE NEIGHBOUR: 'it returns false'. Refute it at one input. -/
def alignLeastWrong : ChangeSpec := { name := "alignLeast", fn := fun _ => fun
  | [d1, d2, d3] => { results := [.lit (.bool false)], args := [d1, d2, d3] }
  | _ => none }
def AlignLeastWrongFalsely : Prop := alignLeastRow.holds Try.pinned (OpenSpec.ofChange alignLeastWrong)

/-- 'bitextlaw20.AlignSides': WHATEVER THE INPUT: true; the input reads as it did. -/
def alignSidesSpec : ChangeSpec := { name := "alignSides", fn := fun _ => fun
  | [d1, d2, d3] => { results := [.lit (.bool true)], args := [d1, d2, d3] }
  | _ => none }
def alignSidesRow : OpenClaim := { program := "ythfahceagabhiaa", sum := "508d76c8e417f1cf3997badcb57433efad4400a8327a62f6f1ba86dafe17caff", func := "bitext/bitextlaw20.AlignSides", spec := "alignSides", inPlace := ["internal/bytealg.IndexByteString", "internal/bytealg.IndexString"], unfollowed := true, recurses := true, named := ["internal/bytealg.MaxLen"], apart := false }
def AlignSidesSaid : Prop := alignSidesRow.holds Try.pinned (OpenSpec.ofChange alignSidesSpec)

/-- ITS FALSE NEIGHBOUR: 'it returns false'. Refute it at one input. -/
def alignSidesWrong : ChangeSpec := { name := "alignSides", fn := fun _ => fun
  | [d1, d2, d3] => { results := [.lit (.bool false)], args := [d1, d2, d3] }
  | _ => none }
def AlignSidesWrongFalsely : Prop := alignSidesRow.holds Try.pinned (OpenSpec.ofChange alignSidesWrong)

/-- 'bitextlaw20.AlignLimits': WHATEVER THE INPUT: true; the input reads as it did. -/
def alignLimitsSpec : ChangeSpec := { name := "alignLimits", fn := fun _ => fun
  | [d1, d2] => { results := [.lit (.bool true)], args := [d1, d2] }
  | _ => none }
def alignLimitsRow : OpenClaim := { program := "ythfahceagabhiaa", sum := "508d76c8e417f1cf3997badcb57433efad4400a8327a62f6f1ba86dafe17caff", func := "bitext/bitextlaw20.AlignLimits", spec := "alignLimits", inPlace := ["internal/bytealg.IndexByteString", "internal/bytealg.IndexString"], unfollowed := true, recurses := true, named := ["internal/bytealg.MaxLen"], apart := false }
def AlignLimitsSaid : Prop := alignLimitsRow.holds Try.pinned (OpenSpec.ofChange alignLimitsSpec)

/-- ITS FALSE NEIGHBOUR: 'it returns false'. Refute it at one input. -/
def alignLimitsWrong : ChangeSpec := { name := "alignLimits", fn := fun _ => fun
  | [d1, d2] => { results := [.lit (.bool false)], args := [d1, d2] }
  | _ => none }
def AlignLimitsWrongFalsely : Prop := alignLimitsRow.holds Try.pinned (OpenSpec.ofChange alignLimitsWrong)

/- THE SECOND FORM. 'bulk': how many values and letters a reading holds, each counted each time it is reached (what is shared counts as often as it is met; a slice's spare places count too). A statement '..UptoSaid' is the law's where the arguments, and the package variables that the reading takes, are together of bulk at most 1048576: NARROWER than '..Said'. Prove '..Said' where nothing that the law and all that it calls make is longer than what came in: it says more and counts as full. Else prove '..UptoSaid'. A law counts once. -/
mutual
def uptoBulk {H : Type} : DataW H → Nat
  | .lit (.string bytes) => bytes.length + 1
  | .lit _ => 1
  | .nil => 1
  | .ptr d => uptoBulk d + 1
  | .slice elems spare => uptoBulkAll elems + uptoBulkAll spare + 1
  | .agg parts => uptoBulkAll parts + 1
  | .iface _ d => uptoBulk d + 1
  | .map entries => uptoBulkEntries entries + 1
  | .held _ => 1
def uptoBulkAll {H : Type} : List (DataW H) → Nat
  | [] => 0
  | d :: r => uptoBulk d + uptoBulkAll r
def uptoBulkEntries {H : Type} : List (Lit × DataW H) → Nat
  | [] => 0
  | x :: r => uptoBulkEntry x + uptoBulkEntries r
def uptoBulkEntry {H : Type} : Lit × DataW H → Nat
  | (.string bytes, d) => bytes.length + uptoBulk d + 1
  | (_, d) => uptoBulk d + 1
 end
def uptoSmall : (H : Type) → List (DataW H) → Bool := fun _ ds => decide (uptoBulkAll ds ≤ 1048576)
def OpenSpec.upto (s : _root_.Go.ChangeSpec) : _root_.Go.OpenSpec := { _root_.Go.OpenSpec.ofChange s with cond := some uptoSmall }

/-- 'bitextlaw20.AlignCosts', WHERE WHAT IT READS IS OF BULK AT MOST 1048576: true; the input reads as it did. -/
def alignCostsUptoRow : OpenClaim := { program := "ythfahceagabhiaa", sum := "508d76c8e417f1cf3997badcb57433efad4400a8327a62f6f1ba86dafe17caff", func := "bitext/bitextlaw20.AlignCosts", spec := "alignCosts", apart := false, narrowed := true }
def AlignCostsUptoSaid : Prop := alignCostsUptoRow.holds Try.pinned (OpenSpec.upto alignCostsSpec)

/-- 'bitextlaw20.AlignSays', WHERE WHAT IT READS IS OF BULK AT MOST 1048576: true; the input reads as it did. -/
def alignSaysUptoRow : OpenClaim := { program := "ythfahceagabhiaa", sum := "508d76c8e417f1cf3997badcb57433efad4400a8327a62f6f1ba86dafe17caff", func := "bitext/bitextlaw20.AlignSays", spec := "alignSays", apart := false, narrowed := true }
def AlignSaysUptoSaid : Prop := alignSaysUptoRow.holds Try.pinned (OpenSpec.upto alignSaysSpec)

/-- 'bitextlaw20.AlignSelf', WHERE WHAT IT READS IS OF BULK AT MOST 1048576: true; the input reads as it did. -/
def alignSelfUptoRow : OpenClaim := { program := "ythfahceagabhiaa", sum := "508d76c8e417f1cf3997badcb57433efad4400a8327a62f6f1ba86dafe17caff", func := "bitext/bitextlaw20.AlignSelf", spec := "alignSelf", apart := false, narrowed := true }
def AlignSelfUptoSaid : Prop := alignSelfUptoRow.holds Try.pinned (OpenSpec.upto alignSelfSpec)

/-- 'bitextlaw20.AlignCovers', WHERE WHAT IT READS IS OF BULK AT MOST 1048576: true; the input reads as it did. -/
def alignCoversUptoRow : OpenClaim := { program := "ythfahceagabhiaa", sum := "508d76c8e417f1cf3997badcb57433efad4400a8327a62f6f1ba86dafe17caff", func := "bitext/bitextlaw20.AlignCovers", spec := "alignCovers", apart := false, narrowed := true }
def AlignCoversUptoSaid : Prop := alignCoversUptoRow.holds Try.pinned (OpenSpec.upto alignCoversSpec)

/-- 'bitextlaw20.AlignPrices', WHERE WHAT IT READS IS OF BULK AT MOST 1048576: true; the input reads as it did. -/
def alignPricesUptoRow : OpenClaim := { program := "ythfahceagabhiaa", sum := "508d76c8e417f1cf3997badcb57433efad4400a8327a62f6f1ba86dafe17caff", func := "bitext/bitextlaw20.AlignPrices", spec := "alignPrices", apart := false, narrowed := true }
def AlignPricesUptoSaid : Prop := alignPricesUptoRow.holds Try.pinned (OpenSpec.upto alignPricesSpec)

/-- 'bitextlaw20.AlignLeast', WHERE WHAT IT READS IS OF BULK AT MOST 1048576: true; the input reads as it did. -/
def alignLeastUptoRow : OpenClaim := { program := "ythfahceagabhiaa", sum := "508d76c8e417f1cf3997badcb57433efad4400a8327a62f6f1ba86dafe17caff", func := "bitext/bitextlaw20.AlignLeast", spec := "alignLeast", apart := false, narrowed := true }
def AlignLeastUptoSaid : Prop := alignLeastUptoRow.holds Try.pinned (OpenSpec.upto alignLeastSpec)

/-- 'bitextlaw20.AlignSides', WHERE WHAT IT READS IS OF BULK AT MOST 1048576: true; the input reads as it did. -/
def alignSidesUptoRow : OpenClaim := { program := "ythfahceagabhiaa", sum := "508d76c8e417f1cf3997badcb57433efad4400a8327a62f6f1ba86dafe17caff", func := "bitext/bitextlaw20.AlignSides", spec := "alignSides", inPlace := ["internal/bytealg.IndexByteString", "internal/bytealg.IndexString"], unfollowed := true, recurses := true, named := ["internal/bytealg.MaxLen"], apart := false, narrowed := true }
def AlignSidesUptoSaid : Prop := alignSidesUptoRow.holds Try.pinned (OpenSpec.upto alignSidesSpec)

/-- 'bitextlaw20.AlignLimits', WHERE WHAT IT READS IS OF BULK AT MOST 1048576: true; the input reads as it did. -/
def alignLimitsUptoRow : OpenClaim := { program := "ythfahceagabhiaa", sum := "508d76c8e417f1cf3997badcb57433efad4400a8327a62f6f1ba86dafe17caff", func := "bitext/bitextlaw20.AlignLimits", spec := "alignLimits", inPlace := ["internal/bytealg.IndexByteString", "internal/bytealg.IndexString"], unfollowed := true, recurses := true, named := ["internal/bytealg.MaxLen"], apart := false, narrowed := true }
def AlignLimitsUptoSaid : Prop := alignLimitsUptoRow.holds Try.pinned (OpenSpec.upto alignLimitsSpec)

end Rows
end Go.Proofs.Ythfahceagabhiaa
