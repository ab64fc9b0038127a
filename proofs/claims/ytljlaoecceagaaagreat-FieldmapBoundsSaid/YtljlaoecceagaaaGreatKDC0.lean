/- Results of calls, by the kernel. -/
import Derived.Test.YtljlaoecceagaaaGreatD0
import Derived.KernelRfl
set_option linter.all false
set_option linter.unusedVariables false
set_option maxRecDepth 1000000
set_option maxHeartbeats 0
namespace Go.Proofs.YtljlaoecceagaaaGreat
open Ev
noncomputable section
theorem K_numberfield_Check_19 : R_numberfield_Check 1000000 k_numberfield_Check_19 = some v_numberfield_Check_19 := by kernel_rfl
theorem K_numberfield_Check_20 : R_numberfield_Check 1000000 k_numberfield_Check_20 = some v_numberfield_Check_20 := by kernel_rfl
end
end Go.Proofs.YtljlaoecceagaaaGreat
