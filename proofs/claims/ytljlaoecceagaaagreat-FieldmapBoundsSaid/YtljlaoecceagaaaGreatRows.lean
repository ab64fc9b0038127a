/-
  No cell of these rows narrows 'for every input' (looked for: loops, veiled, ifaces, maps, wideKeys, modest, calm, conditions, laid).
  DERIVED. THE GIVEN ROWS OF THIS SEAT. 4 by the template 'for every input the law returns true; each argument reads behind the call as it read before'; 0 by the template 'total and deterministic' (their statements: YtljlaoecceagaaaGreatTotals.lean).
  GIVEN WITH THE SEED: the statements are not yours to turn. If you find one false, say at which input.
  Laid BY PROGRAM, IN A SANDBOX (cutbox-rows.mjs): the forced cells as the released guide's own fill.sh prints them over the translation d53f2091e91a1935… (all of the seat's roots in one cut). By AI agents, Wed Nov 11 2026. No macro, syntax, notation, axiom, sorry.
-/
import Derived.Test.YtljlaoecceagaaaGreatChecked
import GoSem.Claim
import GoSem.ClaimJoined
import GoSem.ClaimMapViews
import Derived.JoinedTies
import Derived.KernelRfl
namespace Go.Proofs.YtljlaoecceagaaaGreat
/- THE CELL 'sum', in the pinned program and in every row, IS THE sha256 OF THE DUMP (.gsa) THAT YtljlaoecceagaaaGreatProg.lean LOADS. Nothing in Lean hashes anything: it is a label: what it is worth is what the hold of that sum in a sandbox is worth. -/
noncomputable def Tryz.pinned : Pinned := { name := "ytljlaoecceagaaagreat", sum := "d53f2091e91a1935951c31559e1480b806be14724d3633cbab67c8b0160e9319", checked := Tryz.checked }
namespace Rows
def none {H : Type} : Left H := { results := [], args := [] }

/-- 'galoislaw32.FieldfactorBounds': WHATEVER THE INPUT: true; the input reads as it did. -/
def fieldfactorBoundsSpec : ChangeSpec := { name := "fieldfactorBounds", fn := fun _ => fun
  | [d1, d2] => { results := [.lit (.bool true)], args := [d1, d2] }
  | _ => none }
def fieldfactorBoundsRow : OpenClaim := { program := "ytljlaoecceagaaagreat", sum := "d53f2091e91a1935951c31559e1480b806be14724d3633cbab67c8b0160e9319", func := "galois/galoislaw32.FieldfactorBounds", spec := "fieldfactorBounds", inPlace := ["math/bits.Add64", "math/bits.Sub64"], unfollowed := true, recurses := true, named := ["math/bits.divideError", "math/bits.overflowError"], apart := false }
def FieldfactorBoundsSaid : Prop := fieldfactorBoundsRow.holds Tryz.pinned (OpenSpec.ofChange fieldfactorBoundsSpec)

/-- ITS FALSE NEIGHBOUR: 'it returns false'. Refute it at one input. -/
def fieldfactorBoundsWrong : ChangeSpec := { name := "fieldfactorBounds", fn := fun _ => fun
  | [d1, d2] => { results := [.lit (.bool false)], args := [d1, d2] }
  | _ => none }
def FieldfactorBoundsWrongFalsely : Prop := fieldfactorBoundsRow.holds Tryz.pinned (OpenSpec.ofChange fieldfactorBoundsWrong)

/-- 'galoislaw35.FieldmapBounds': WHATEVER THE INPUT: true; the input reads as it did. -/
def fieldmapBoundsSpec : ChangeSpec := { name := "fieldmapBounds", fn := fun _ => fun
  | [d1, d2] => { results := [.lit (.bool true)], args := [d1, d2] }
  | _ => none }
def fieldmapBoundsRow : OpenClaim := { program := "ytljlaoecceagaaagreat", sum := "d53f2091e91a1935951c31559e1480b806be14724d3633cbab67c8b0160e9319", func := "galois/galoislaw35.FieldmapBounds", spec := "fieldmapBounds", inPlace := ["math/bits.Add64", "math/bits.Sub64"], unfollowed := true, recurses := true, named := ["math/bits.divideError", "math/bits.overflowError"], apart := false }
def FieldmapBoundsSaid : Prop := fieldmapBoundsRow.holds Tryz.pinned (OpenSpec.ofChange fieldmapBoundsSpec)

/-- ITS FALSE NEIGHBOUR: 'it returns false'. Refute it at one input. -/
def fieldmapBoundsWrong : ChangeSpec := { name := "fieldmapBounds", fn := fun _ => fun
  | [d1, d2] => { results := [.lit (.bool false)], args := [d1, d2] }
  | _ => none }
def FieldmapBoundsWrongFalsely : Prop := fieldmapBoundsRow.holds Tryz.pinned (OpenSpec.ofChange fieldmapBoundsWrong)

/-- 'galoislaw33.AdjoinBounds': WHATEVER THE INPUT: true; the input reads as it did. -/
def adjoinBoundsSpec : ChangeSpec := { name := "adjoinBounds", fn := fun _ => fun
  | [d1, d2] => { results := [.lit (.bool true)], args := [d1, d2] }
  | _ => none }
def adjoinBoundsRow : OpenClaim := { program := "ytljlaoecceagaaagreat", sum := "d53f2091e91a1935951c31559e1480b806be14724d3633cbab67c8b0160e9319", func := "galois/galoislaw33.AdjoinBounds", spec := "adjoinBounds", inPlace := ["math/bits.Add64", "math/bits.Sub64"], unfollowed := true, recurses := true, named := ["math/bits.divideError", "math/bits.overflowError"], apart := false }
def AdjoinBoundsSaid : Prop := adjoinBoundsRow.holds Tryz.pinned (OpenSpec.ofChange adjoinBoundsSpec)

/-- ITS FALSE NEIGHBOUR: 'it returns false'. Refute it at one input. -/
def adjoinBoundsWrong : ChangeSpec := { name := "adjoinBounds", fn := fun _ => fun
  | [d1, d2] => { results := [.lit (.bool false)], args := [d1, d2] }
  | _ => none }
def AdjoinBoundsWrongFalsely : Prop := adjoinBoundsRow.holds Tryz.pinned (OpenSpec.ofChange adjoinBoundsWrong)

/-- 'galoislaw37.SplittingLimits': WHATEVER THE INPUT: true; the input reads as it did. -/
def splittingLimitsSpec : ChangeSpec := { name := "splittingLimits", fn := fun _ => fun
  | [d1, d2] => { results := [.lit (.bool true)], args := [d1, d2] }
  | _ => none }
def splittingLimitsRow : OpenClaim := { program := "ytljlaoecceagaaagreat", sum := "d53f2091e91a1935951c31559e1480b806be14724d3633cbab67c8b0160e9319", func := "galois/galoislaw37.SplittingLimits", spec := "splittingLimits", inPlace := ["math/bits.Add64", "math/bits.Sub64"], unfollowed := true, recurses := true, named := ["math/bits.divideError", "math/bits.overflowError"], apart := false }
def SplittingLimitsSaid : Prop := splittingLimitsRow.holds Tryz.pinned (OpenSpec.ofChange splittingLimitsSpec)

/-- ITS FALSE NEIGHBOUR: 'it returns false'. Refute it at one input. -/
def splittingLimitsWrong : ChangeSpec := { name := "splittingLimits", fn := fun _ => fun
  | [d1, d2] => { results := [.lit (.bool false)], args := [d1, d2] }
  | _ => none }
def SplittingLimitsWrongFalsely : Prop := splittingLimitsRow.holds Tryz.pinned (OpenSpec.ofChange splittingLimitsWrong)

/- THE SECOND FORM. 'bulk': how many values and letters a reading holds, each counted each time it is reached (what is shared counts as often as it is met; a slice's spare places count too). A statement '..UptoSaid' is the law's where the arguments, and the package variables that the reading takes, are together of bulk at most 1048576: NARROWER than '..Said'. Prove '..Said' where nothing that the law and all that it calls make is longer than what came in: it says more and counts as full. Else prove '..UptoSaid'. A law counts once. -/
mutual
def uptoBulk {H : Type} : DataW H → Nat
  | .lit (.string bytes) => bytes.length + 1
  | .lit _ => 1
  | .nil => 1
  | .ptr d => uptoBulk d + 1
  | .slice elems spare => uptoBulkAll elems + uptoBulkAll spare + 1
  | .agg parts => uptoBulkAll parts + 1
  | .iface _ d => uptoBulk d + 1
  | .map entries => uptoBulkEntries entries + 1
  | .held _ => 1
def uptoBulkAll {H : Type} : List (DataW H) → Nat
  | [] => 0
  | d :: r => uptoBulk d + uptoBulkAll r
def uptoBulkEntries {H : Type} : List (Lit × DataW H) → Nat
  | [] => 0
  | x :: r => uptoBulkEntry x + uptoBulkEntries r
def uptoBulkEntry {H : Type} : Lit × DataW H → Nat
  | (.string bytes, d) => bytes.length + uptoBulk d + 1
  | (_, d) => uptoBulk d + 1
 end
def uptoSmall : (H : Type) → List (DataW H) → Bool := fun _ ds => decide (uptoBulkAll ds ≤ 1048576)
def OpenSpec.upto (s : _root_.Go.ChangeSpec) : _root_.Go.OpenSpec := { _root_.Go.OpenSpec.ofChange s with cond := some uptoSmall }

/-- 'galoislaw32.FieldfactorBounds', WHERE WHAT IT READS IS OF BULK AT MOST 1048576: true; the input reads as it did. -/
def fieldfactorBoundsUptoRow : OpenClaim := { program := "ytljlaoecceagaaagreat", sum := "d53f2091e91a1935951c31559e1480b806be14724d3633cbab67c8b0160e9319", func := "galois/galoislaw32.FieldfactorBounds", spec := "fieldfactorBounds", inPlace := ["math/bits.Add64", "math/bits.Sub64"], unfollowed := true, recurses := true, named := ["math/bits.divideError", "math/bits.overflowError"], apart := false, narrowed := true }
def FieldfactorBoundsUptoSaid : Prop := fieldfactorBoundsUptoRow.holds Tryz.pinned (OpenSpec.upto fieldfactorBoundsSpec)

/-- 'galoislaw35.FieldmapBounds', WHERE WHAT IT READS IS OF BULK AT MOST 1048576: true; the input reads as it did. -/
def fieldmapBoundsUptoRow : OpenClaim := { program := "ytljlaoecceagaaagreat", sum := "d53f2091e91a1935951c31559e1480b806be14724d3633cbab67c8b0160e9319", func := "galois/galoislaw35.FieldmapBounds", spec := "fieldmapBounds", inPlace := ["math/bits.Add64", "math/bits.Sub64"], unfollowed := true, recurses := true, named := ["math/bits.divideError", "math/bits.overflowError"], apart := false, narrowed := true }
def FieldmapBoundsUptoSaid : Prop := fieldmapBoundsUptoRow.holds Tryz.pinned (OpenSpec.upto fieldmapBoundsSpec)

/-- 'galoislaw33.AdjoinBounds', WHERE WHAT IT READS IS OF BULK AT MOST 1048576: true; the input reads as it did. -/
def adjoinBoundsUptoRow : OpenClaim := { program := "ytljlaoecceagaaagreat", sum := "d53f2091e91a1935951c31559e1480b806be14724d3633cbab67c8b0160e9319", func := "galois/galoislaw33.AdjoinBounds", spec := "adjoinBounds", inPlace := ["math/bits.Add64", "math/bits.Sub64"], unfollowed := true, recurses := true, named := ["math/bits.divideError", "math/bits.overflowError"], apart := false, narrowed := true }
def AdjoinBoundsUptoSaid : Prop := adjoinBoundsUptoRow.holds Tryz.pinned (OpenSpec.upto adjoinBoundsSpec)

/-- 'galoislaw37.SplittingLimits', WHERE WHAT IT READS IS OF BULK AT MOST 1048576: true; the input reads as it did. -/
def splittingLimitsUptoRow : OpenClaim := { program := "ytljlaoecceagaaagreat", sum := "d53f2091e91a1935951c31559e1480b806be14724d3633cbab67c8b0160e9319", func := "galois/galoislaw37.SplittingLimits", spec := "splittingLimits", inPlace := ["math/bits.Add64", "math/bits.Sub64"], unfollowed := true, recurses := true, named := ["math/bits.divideError", "math/bits.overflowError"], apart := false, narrowed := true }
def SplittingLimitsUptoSaid : Prop := splittingLimitsUptoRow.holds Tryz.pinned (OpenSpec.upto splittingLimitsSpec)

end Rows
end Go.Proofs.YtljlaoecceagaaaGreat
