/- Results of calls, by the kernel. -/
import Derived.Test.YthljpappkomocaaGreatCA0
import Derived.KernelRfl
set_option linter.all false
set_option maxRecDepth 1000000
set_option maxHeartbeats 0
namespace Go.Proofs.YthljpappkomocaaGreat
open Ev
noncomputable section
theorem zbr : za 1000000 z7m = some z74 := by kernel_rfl
theorem zbq : za 1000000 z7l = some z73 := by kernel_rfl
end
end Go.Proofs.YthljpappkomocaaGreat
