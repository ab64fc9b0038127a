/- Results of calls, by the kernel. -/
import Derived.Test.YtljlaoecceagaaaGreatD0
import Derived.KernelRfl
set_option linter.all false
set_option linter.unusedVariables false
set_option maxRecDepth 1000000
set_option maxHeartbeats 0
namespace Go.Proofs.YtljlaoecceagaaaGreat
open Ev
noncomputable section
theorem K_fieldfactor_factor_1 : R_fieldfactor_factor 1000000 k_fieldfactor_factor_1 = some v_fieldfactor_factor_1 := by kernel_rfl
end
end Go.Proofs.YtljlaoecceagaaaGreat
