/- Results of calls, by the kernel. -/
import Derived.Test.YtljlaoecceagaaaGreatD0
import Derived.KernelRfl
set_option linter.all false
set_option linter.unusedVariables false
set_option maxRecDepth 1000000
set_option maxHeartbeats 0
namespace Go.Proofs.YtljlaoecceagaaaGreat
open Ev
noncomputable section
theorem K_numberfield_Check_17 : R_numberfield_Check 1000000 k_numberfield_Check_17 = some v_numberfield_Check_17 := by kernel_rfl
theorem K_numberfield_Check_18 : R_numberfield_Check 1000000 k_numberfield_Check_18 = some v_numberfield_Check_18 := by kernel_rfl
end
end Go.Proofs.YtljlaoecceagaaaGreat
