/- The law at arguments in range, by the kernel. -/
import Derived.Test.YthljpappkomocaaGreatCC0
import Derived.Test.YthljpappkomocaaGreatB0
import Derived.KernelRfl
set_option linter.all false
set_option maxRecDepth 1000000
set_option maxHeartbeats 0
namespace Go.Proofs.YthljpappkomocaaGreat
open Ev
noncomputable section
theorem G7 : allB 65 (fun d => isT (z8 1000000 [ni 7, ni d])) = true := by kernel_rfl
theorem G8 : allB 65 (fun d => isT (z8 1000000 [ni 8, ni d])) = true := by kernel_rfl
end
end Go.Proofs.YthljpappkomocaaGreat
