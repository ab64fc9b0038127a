/- Results of calls, by the kernel. -/
import Derived.Test.YtljlaoecceagaaaGreatD0
import Derived.KernelRfl
set_option linter.all false
set_option linter.unusedVariables false
set_option maxRecDepth 1000000
set_option maxHeartbeats 0
namespace Go.Proofs.YtljlaoecceagaaaGreat
open Ev
noncomputable section
theorem K_fieldfactor_factor_0 : R_fieldfactor_factor 1000000 k_fieldfactor_factor_0 = some v_fieldfactor_factor_0 := by kernel_rfl
theorem K_fieldfactor_factor_2 : R_fieldfactor_factor 1000000 k_fieldfactor_factor_2 = some v_fieldfactor_factor_2 := by kernel_rfl
end
end Go.Proofs.YtljlaoecceagaaaGreat
