/- By the kernel. -/
import Derived.Test.YthljpappkomocaaGreatLA0
import Derived.KernelRfl
set_option linter.all false
set_option maxRecDepth 1000000
set_option maxHeartbeats 0
namespace Go.Proofs.YthljpappkomocaaGreat.B
open Ev
noncomputable section
def kr0:t7 tb0 289 tk0=some tv0:=eX
end
end Go.Proofs.YthljpappkomocaaGreat.B
