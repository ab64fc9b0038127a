/- By the kernel. -/
import Derived.Test.YthljpappkomocaaGreatL0
import Derived.KernelRfl
set_option linter.all false
set_option maxRecDepth 1000000
set_option maxHeartbeats 0
namespace Go.Proofs.YthljpappkomocaaGreat
open Ev
noncomputable section
theorem kr1:OJ tb1 305 tk1=some tv1:=by kernel_rfl
end
end Go.Proofs.YthljpappkomocaaGreat
