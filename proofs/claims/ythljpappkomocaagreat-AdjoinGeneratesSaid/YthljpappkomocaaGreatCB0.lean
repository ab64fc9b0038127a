/- Residuals of functions, printed by a program. -/
import Derived.Test.YthljpappkomocaaGreatCA0
set_option linter.all false
set_option maxRecDepth 1000000
set_option maxHeartbeats 0
namespace Go.Proofs.YthljpappkomocaaGreat
open Ev
noncomputable section
end
end Go.Proofs.YthljpappkomocaaGreat
