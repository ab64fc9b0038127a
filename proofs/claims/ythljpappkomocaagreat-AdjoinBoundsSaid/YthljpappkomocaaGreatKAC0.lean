/- Results of calls, by the kernel. -/
import Derived.Test.YthljpappkomocaaGreatCA0
import Derived.KernelRfl
set_option linter.all false
set_option maxRecDepth 1000000
set_option maxHeartbeats 0
namespace Go.Proofs.YthljpappkomocaaGreat
open Ev
noncomputable section
theorem zbD : z10 1000000 z7y = some z7g := by kernel_rfl
theorem zbB : z10 1000000 z7w = some z7e := by kernel_rfl
end
end Go.Proofs.YthljpappkomocaaGreat
