/- Results of calls, by the kernel. -/
import Derived.Test.YthljpappkomocaaGreatCA0
import Derived.KernelRfl
set_option linter.all false
set_option maxRecDepth 1000000
set_option maxHeartbeats 0
namespace Go.Proofs.YthljpappkomocaaGreat
open Ev
noncomputable section
theorem zk7 : z8A 1000000 zg3 = some zfG := by kernel_rfl
theorem zk6 : z8A 1000000 zg2 = some zfF := by kernel_rfl
end
end Go.Proofs.YthljpappkomocaaGreat
