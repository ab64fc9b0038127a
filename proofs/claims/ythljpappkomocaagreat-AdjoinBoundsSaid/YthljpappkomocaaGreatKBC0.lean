/- Results of calls, by the kernel. -/
import Derived.Test.YthljpappkomocaaGreatCA0
import Derived.KernelRfl
set_option linter.all false
set_option maxRecDepth 1000000
set_option maxHeartbeats 0
namespace Go.Proofs.YthljpappkomocaaGreat
open Ev
noncomputable section
theorem zk5 : z8A 1000000 zg1 = some zfE := by kernel_rfl
end
end Go.Proofs.YthljpappkomocaaGreat
