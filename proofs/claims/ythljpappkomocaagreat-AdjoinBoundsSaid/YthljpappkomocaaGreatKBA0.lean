/- Results of calls, by the kernel. -/
import Derived.Test.YthljpappkomocaaGreatCA0
import Derived.KernelRfl
set_option linter.all false
set_option maxRecDepth 1000000
set_option maxHeartbeats 0
namespace Go.Proofs.YthljpappkomocaaGreat
open Ev
noncomputable section
theorem zgL : zn 1000000 zdf = some zcM := by kernel_rfl
theorem zgK : zn 1000000 zde = some zcL := by kernel_rfl
theorem zgJ : zn 1000000 zdd = some zcK := by kernel_rfl
end
end Go.Proofs.YthljpappkomocaaGreat
