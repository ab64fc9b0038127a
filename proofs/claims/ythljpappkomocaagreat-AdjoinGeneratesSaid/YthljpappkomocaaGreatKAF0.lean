/- By the kernel. -/
import Derived.Test.YthljpappkomocaaGreatL0
import Derived.KernelRfl
set_option linter.all false
set_option maxRecDepth 1000000
set_option maxHeartbeats 0
namespace Go.Proofs.YthljpappkomocaaGreat
open Ev
noncomputable section
theorem kr2:OJ tb2 425 tk2=some tv2:=by kernel_rfl
end
end Go.Proofs.YthljpappkomocaaGreat
