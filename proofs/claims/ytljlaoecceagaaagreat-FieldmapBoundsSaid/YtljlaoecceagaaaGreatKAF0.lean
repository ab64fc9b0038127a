/- Results of calls, by the kernel. -/
import Derived.Test.YtljlaoecceagaaaGreatD0
import Derived.KernelRfl
set_option linter.all false
set_option linter.unusedVariables false
set_option maxRecDepth 1000000
set_option maxHeartbeats 0
namespace Go.Proofs.YtljlaoecceagaaaGreat
open Ev
noncomputable section
theorem K_numberfield_Check_11 : R_numberfield_Check 1000000 k_numberfield_Check_11 = some v_numberfield_Check_11 := by kernel_rfl
end
end Go.Proofs.YtljlaoecceagaaaGreat
