/-
  No cell of these rows narrows 'for every input' (looked for: loops, veiled, ifaces, maps, wideKeys, modest, calm, conditions, laid).
  DERIVED. THE GIVEN ROWS OF THIS SEAT. 4 by the template 'for every input the law returns true; each argument reads behind the call as it read before'; 0 by the template 'total and deterministic' (their statements: YthljpappkomocaaGreatTotals.lean).
  GIVEN WITH THE SEED: the statements are not yours to turn. If you find one false, say at which input.
  Laid BY PROGRAM, IN A SANDBOX (cutbox-rows.mjs): the forced cells as the released guide's own fill.sh prints them over the translation b84064e981a201a9… (all of the seat's roots in one cut). By AI agents, Wed Nov 11 2026. No macro, syntax, notation, axiom, sorry.
-/
import Derived.Test.YthljpappkomocaaGreatChecked
import GoSem.Claim
import GoSem.ClaimJoined
import GoSem.ClaimMapViews
import Derived.JoinedTies
import Derived.KernelRfl
namespace Go.Proofs.YthljpappkomocaaGreat
/- THE CELL 'sum', in the pinned program and in every row, IS THE sha256 OF THE DUMP (.gsa) THAT YthljpappkomocaaGreatProg.lean LOADS. Nothing in Lean hashes anything: it is a label: what it is worth is what the hold of that sum in a sandbox is worth. -/
noncomputable def Tryz.pinned : Pinned := { name := "ythljpappkomocaagreat", sum := "b84064e981a201a9449fd63f40a81064fec2ee444f31cfdd2080f54b21fef572", checked := Tryz.checked }
namespace Rows
def none {H : Type} : Left H := { results := [], args := [] }

/-- 'galoislaw33.AdjoinBounds': WHATEVER THE INPUT: true; the input reads as it did. -/
def adjoinBoundsSpec : ChangeSpec := { name := "adjoinBounds", fn := fun _ => fun
  | [d1, d2] => { results := [.lit (.bool true)], args := [d1, d2] }
  | _ => none }
def adjoinBoundsRow : OpenClaim := { program := "ythljpappkomocaagreat", sum := "b84064e981a201a9449fd63f40a81064fec2ee444f31cfdd2080f54b21fef572", func := "galois/galoislaw33.AdjoinBounds", spec := "adjoinBounds", inPlace := ["math/bits.Add64", "math/bits.Sub64"], unfollowed := true, recurses := true, named := ["math/bits.divideError", "math/bits.overflowError"], apart := false }
def AdjoinBoundsSaid : Prop := adjoinBoundsRow.holds Tryz.pinned (OpenSpec.ofChange adjoinBoundsSpec)

/-- ITS FALSE NEIGHBOUR: 'it returns false'. Refute it at one input. -/
def adjoinBoundsWrong : ChangeSpec := { name := "adjoinBounds", fn := fun _ => fun
  | [d1, d2] => { results := [.lit (.bool false)], args := [d1, d2] }
  | _ => none }
def AdjoinBoundsWrongFalsely : Prop := adjoinBoundsRow.holds Tryz.pinned (OpenSpec.ofChange adjoinBoundsWrong)

/-- 'galoislaw33.AdjoinGenerates': WHATEVER THE INPUT: true; the input reads as it did. -/
def adjoinGeneratesSpec : ChangeSpec := { name := "adjoinGenerates", fn := fun _ => fun
  | [d1, d2] => { results := [.lit (.bool true)], args := [d1, d2] }
  | _ => none }
def adjoinGeneratesRow : OpenClaim := { program := "ythljpappkomocaagreat", sum := "b84064e981a201a9449fd63f40a81064fec2ee444f31cfdd2080f54b21fef572", func := "galois/galoislaw33.AdjoinGenerates", spec := "adjoinGenerates", inPlace := ["math/bits.Add64", "math/bits.Sub64"], unfollowed := true, recurses := true, named := ["math/bits.divideError", "math/bits.overflowError"], apart := false }
def AdjoinGeneratesSaid : Prop := adjoinGeneratesRow.holds Tryz.pinned (OpenSpec.ofChange adjoinGeneratesSpec)

/-- ITS FALSE NEIGHBOUR: 'it returns false'. Refute it at one input. -/
def adjoinGeneratesWrong : ChangeSpec := { name := "adjoinGenerates", fn := fun _ => fun
  | [d1, d2] => { results := [.lit (.bool false)], args := [d1, d2] }
  | _ => none }
def AdjoinGeneratesWrongFalsely : Prop := adjoinGeneratesRow.holds Tryz.pinned (OpenSpec.ofChange adjoinGeneratesWrong)

/-- 'galoislaw33.AdjoinExpresses': WHATEVER THE INPUT: true; the input reads as it did. -/
def adjoinExpressesSpec : ChangeSpec := { name := "adjoinExpresses", fn := fun _ => fun
  | [d1, d2, d3] => { results := [.lit (.bool true)], args := [d1, d2, d3] }
  | _ => none }
def adjoinExpressesRow : OpenClaim := { program := "ythljpappkomocaagreat", sum := "b84064e981a201a9449fd63f40a81064fec2ee444f31cfdd2080f54b21fef572", func := "galois/galoislaw33.AdjoinExpresses", spec := "adjoinExpresses", inPlace := ["math/bits.Add64", "math/bits.Sub64"], unfollowed := true, recurses := true, named := ["math/bits.divideError", "math/bits.overflowError"], apart := false }
def AdjoinExpressesSaid : Prop := adjoinExpressesRow.holds Tryz.pinned (OpenSpec.ofChange adjoinExpressesSpec)

/-- ITS FALSE NEIGHBOUR: 'it returns false'. Refute it at one input. -/
def adjoinExpressesWrong : ChangeSpec := { name := "adjoinExpresses", fn := fun _ => fun
  | [d1, d2, d3] => { results := [.lit (.bool false)], args := [d1, d2, d3] }
  | _ => none }
def AdjoinExpressesWrongFalsely : Prop := adjoinExpressesRow.holds Tryz.pinned (OpenSpec.ofChange adjoinExpressesWrong)

/-- 'galoislaw37.SplittingLimits': WHATEVER THE INPUT: true; the input reads as it did. -/
def splittingLimitsSpec : ChangeSpec := { name := "splittingLimits", fn := fun _ => fun
  | [d1, d2] => { results := [.lit (.bool true)], args := [d1, d2] }
  | _ => none }
def splittingLimitsRow : OpenClaim := { program := "ythljpappkomocaagreat", sum := "b84064e981a201a9449fd63f40a81064fec2ee444f31cfdd2080f54b21fef572", func := "galois/galoislaw37.SplittingLimits", spec := "splittingLimits", inPlace := ["math/bits.Add64", "math/bits.Sub64"], unfollowed := true, recurses := true, named := ["math/bits.divideError", "math/bits.overflowError"], apart := false }
def SplittingLimitsSaid : Prop := splittingLimitsRow.holds Tryz.pinned (OpenSpec.ofChange splittingLimitsSpec)

/-- ITS FALSE NEIGHBOUR: 'it returns false'. Refute it at one input. -/
def splittingLimitsWrong : ChangeSpec := { name := "splittingLimits", fn := fun _ => fun
  | [d1, d2] => { results := [.lit (.bool false)], args := [d1, d2] }
  | _ => none }
def SplittingLimitsWrongFalsely : Prop := splittingLimitsRow.holds Tryz.pinned (OpenSpec.ofChange splittingLimitsWrong)

/- THE SECOND FORM. 'bulk': how many values and letters a reading holds, each counted each time it is reached (what is shared counts as often as it is met; a slice's spare places count too). A statement '..UptoSaid' is the law's where the arguments, and the package variables that the reading takes, are together of bulk at most 1048576: NARROWER than '..Said'. Prove '..Said' where nothing that the law and all that it calls make is longer than what came in: it says more and counts as full. Else prove '..UptoSaid'. A law counts once. -/
mutual
def uptoBulk {H : Type} : DataW H → Nat
  | .lit (.string bytes) => bytes.length + 1
  | .lit _ => 1
  | .nil => 1
  | .ptr d => uptoBulk d + 1
  | .slice elems spare => uptoBulkAll elems + uptoBulkAll spare + 1
  | .agg parts => uptoBulkAll parts + 1
  | .iface _ d => uptoBulk d + 1
  | .map entries => uptoBulkEntries entries + 1
  | .held _ => 1
def uptoBulkAll {H : Type} : List (DataW H) → Nat
  | [] => 0
  | d :: r => uptoBulk d + uptoBulkAll r
def uptoBulkEntries {H : Type} : List (Lit × DataW H) → Nat
  | [] => 0
  | x :: r => uptoBulkEntry x + uptoBulkEntries r
def uptoBulkEntry {H : Type} : Lit × DataW H → Nat
  | (.string bytes, d) => bytes.length + uptoBulk d + 1
  | (_, d) => uptoBulk d + 1
 end
def uptoSmall : (H : Type) → List (DataW H) → Bool := fun _ ds => decide (uptoBulkAll ds ≤ 1048576)
def OpenSpec.upto (s : _root_.Go.ChangeSpec) : _root_.Go.OpenSpec := { _root_.Go.OpenSpec.ofChange s with cond := some uptoSmall }

/-- 'galoislaw33.AdjoinBounds', WHERE WHAT IT READS IS OF BULK AT MOST 1048576: true; the input reads as it did. -/
def adjoinBoundsUptoRow : OpenClaim := { program := "ythljpappkomocaagreat", sum := "b84064e981a201a9449fd63f40a81064fec2ee444f31cfdd2080f54b21fef572", func := "galois/galoislaw33.AdjoinBounds", spec := "adjoinBounds", inPlace := ["math/bits.Add64", "math/bits.Sub64"], unfollowed := true, recurses := true, named := ["math/bits.divideError", "math/bits.overflowError"], apart := false, narrowed := true }
def AdjoinBoundsUptoSaid : Prop := adjoinBoundsUptoRow.holds Tryz.pinned (OpenSpec.upto adjoinBoundsSpec)

/-- 'galoislaw33.AdjoinGenerates', WHERE WHAT IT READS IS OF BULK AT MOST 1048576: true; the input reads as it did. -/
def adjoinGeneratesUptoRow : OpenClaim := { program := "ythljpappkomocaagreat", sum := "b84064e981a201a9449fd63f40a81064fec2ee444f31cfdd2080f54b21fef572", func := "galois/galoislaw33.AdjoinGenerates", spec := "adjoinGenerates", inPlace := ["math/bits.Add64", "math/bits.Sub64"], unfollowed := true, recurses := true, named := ["math/bits.divideError", "math/bits.overflowError"], apart := false, narrowed := true }
def AdjoinGeneratesUptoSaid : Prop := adjoinGeneratesUptoRow.holds Tryz.pinned (OpenSpec.upto adjoinGeneratesSpec)

/-- 'galoislaw33.AdjoinExpresses', WHERE WHAT IT READS IS OF BULK AT MOST 1048576: true; the input reads as it did. -/
def adjoinExpressesUptoRow : OpenClaim := { program := "ythljpappkomocaagreat", sum := "b84064e981a201a9449fd63f40a81064fec2ee444f31cfdd2080f54b21fef572", func := "galois/galoislaw33.AdjoinExpresses", spec := "adjoinExpresses", inPlace := ["math/bits.Add64", "math/bits.Sub64"], unfollowed := true, recurses := true, named := ["math/bits.divideError", "math/bits.overflowError"], apart := false, narrowed := true }
def AdjoinExpressesUptoSaid : Prop := adjoinExpressesUptoRow.holds Tryz.pinned (OpenSpec.upto adjoinExpressesSpec)

/-- 'galoislaw37.SplittingLimits', WHERE WHAT IT READS IS OF BULK AT MOST 1048576: true; the input reads as it did. -/
def splittingLimitsUptoRow : OpenClaim := { program := "ythljpappkomocaagreat", sum := "b84064e981a201a9449fd63f40a81064fec2ee444f31cfdd2080f54b21fef572", func := "galois/galoislaw37.SplittingLimits", spec := "splittingLimits", inPlace := ["math/bits.Add64", "math/bits.Sub64"], unfollowed := true, recurses := true, named := ["math/bits.divideError", "math/bits.overflowError"], apart := false, narrowed := true }
def SplittingLimitsUptoSaid : Prop := splittingLimitsUptoRow.holds Tryz.pinned (OpenSpec.upto splittingLimitsSpec)

end Rows
end Go.Proofs.YthljpappkomocaaGreat
