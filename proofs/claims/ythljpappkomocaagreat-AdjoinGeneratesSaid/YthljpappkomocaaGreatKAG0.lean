/- By the kernel. -/
import Derived.Test.YthljpappkomocaaGreatL0
import Derived.KernelRfl
set_option linter.all false
set_option maxRecDepth 1000000
set_option maxHeartbeats 0
namespace Go.Proofs.YthljpappkomocaaGreat
open Ev
noncomputable section
theorem kr3:OJ tb3 388 tk3=some tv3:=by kernel_rfl
end
end Go.Proofs.YthljpappkomocaaGreat
