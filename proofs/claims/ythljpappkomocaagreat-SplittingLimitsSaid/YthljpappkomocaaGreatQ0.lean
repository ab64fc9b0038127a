/- Closed facts of the row. -/
import Derived.Test.YthljpappkomocaaGreatChecked
import Derived.Test.YthljpappkomocaaGreatRows
import Derived.WalkKit
import Derived.ProofKit
import Derived.OpenShut
set_option linter.all false
set_option maxHeartbeats 0
set_option maxRecDepth 100000
namespace Go.Proofs.YthljpappkomocaaGreat.splittingLimits
def closed_facts:joinedFacts Tryz.pinned.checked.prog 6 Tryz.f6 Rows.splittingLimitsSpec Rows.splittingLimitsRow=true:=by
 unfold joinedFacts;simp only[Bool.and_eq_true]
 repeat' (refine And.intro ?_ ?_)
 all_goals decide+kernel
end Go.Proofs.YthljpappkomocaaGreat.splittingLimits
