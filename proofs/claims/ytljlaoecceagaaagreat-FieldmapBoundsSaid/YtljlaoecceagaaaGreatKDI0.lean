/- Results of calls, by the kernel. -/
import Derived.Test.YtljlaoecceagaaaGreatC0
import Derived.KernelRfl
set_option linter.all false
set_option linter.unusedVariables false
set_option maxRecDepth 1000000
set_option maxHeartbeats 0
namespace Go.Proofs.YtljlaoecceagaaaGreat
open Ev
noncomputable section
theorem K_zf_Factors_0 : R_zf_Factors 1000000 k_zf_Factors_0 = some v_zf_Factors_0 := by kernel_rfl
theorem K_zf_Factors_1 : R_zf_Factors 1000000 k_zf_Factors_1 = some v_zf_Factors_1 := by kernel_rfl
end
end Go.Proofs.YtljlaoecceagaaaGreat
