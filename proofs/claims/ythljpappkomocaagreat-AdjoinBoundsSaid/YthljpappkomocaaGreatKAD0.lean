/- Results of calls, by the kernel. -/
import Derived.Test.YthljpappkomocaaGreatCA0
import Derived.KernelRfl
set_option linter.all false
set_option maxRecDepth 1000000
set_option maxHeartbeats 0
namespace Go.Proofs.YthljpappkomocaaGreat
open Ev
noncomputable section
theorem zbC : z10 1000000 z7x = some z7f := by kernel_rfl
theorem zbA : z10 1000000 z7v = some z7d := by kernel_rfl
end
end Go.Proofs.YthljpappkomocaaGreat
