/- Closed facts of the row. -/
import Derived.Test.YtljlaoecceagaaaGreatChecked
import Derived.Test.YtljlaoecceagaaaGreatRows
import Derived.WalkKit
import Derived.ProofKit
import Derived.OpenShut
set_option linter.all false
set_option maxHeartbeats 0
set_option maxRecDepth 100000
namespace Go.Proofs.YtljlaoecceagaaaGreat.fieldmapBounds
theorem closed_facts : joinedFacts Tryz.pinned.checked.prog 4 Tryz.f4 Rows.fieldmapBoundsSpec Rows.fieldmapBoundsRow = true := by
  unfold joinedFacts
  simp only [Bool.and_eq_true]
  repeat' (refine And.intro ?_ ?_)
  all_goals decide +kernel
end Go.Proofs.YtljlaoecceagaaaGreat.fieldmapBounds
