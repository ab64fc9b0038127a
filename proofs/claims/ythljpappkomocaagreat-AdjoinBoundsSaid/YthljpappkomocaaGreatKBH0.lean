/- Results of calls, by the kernel. -/
import Derived.Test.YthljpappkomocaaGreatCA0
import Derived.KernelRfl
set_option linter.all false
set_option maxRecDepth 1000000
set_option maxHeartbeats 0
namespace Go.Proofs.YthljpappkomocaaGreat
open Ev
noncomputable section
theorem zbn : za 1000000 z7i = some z70 := by kernel_rfl
theorem zbm : za 1000000 z7h = some z6Z := by kernel_rfl
end
end Go.Proofs.YthljpappkomocaaGreat
