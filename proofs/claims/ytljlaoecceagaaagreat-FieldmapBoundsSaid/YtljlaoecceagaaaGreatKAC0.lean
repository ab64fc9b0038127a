/- Results of calls, by the kernel. -/
import Derived.Test.YtljlaoecceagaaaGreatD0
import Derived.KernelRfl
set_option linter.all false
set_option linter.unusedVariables false
set_option maxRecDepth 1000000
set_option maxHeartbeats 0
namespace Go.Proofs.YtljlaoecceagaaaGreat
open Ev
noncomputable section
theorem K_numberfield_Check_25 : R_numberfield_Check 1000000 k_numberfield_Check_25 = some v_numberfield_Check_25 := by kernel_rfl
theorem K_numberfield_Check_26 : R_numberfield_Check 1000000 k_numberfield_Check_26 = some v_numberfield_Check_26 := by kernel_rfl
theorem K_numberfield_Check_27 : R_numberfield_Check 1000000 k_numberfield_Check_27 = some v_numberfield_Check_27 := by kernel_rfl
theorem K_numberfield_Check_28 : R_numberfield_Check 1000000 k_numberfield_Check_28 = some v_numberfield_Check_28 := by kernel_rfl
theorem K_numberfield_Check_29 : R_numberfield_Check 1000000 k_numberfield_Check_29 = some v_numberfield_Check_29 := by kernel_rfl
theorem K_numberfield_Check_30 : R_numberfield_Check 1000000 k_numberfield_Check_30 = some v_numberfield_Check_30 := by kernel_rfl
theorem K_numberfield_Check_31 : R_numberfield_Check 1000000 k_numberfield_Check_31 = some v_numberfield_Check_31 := by kernel_rfl
theorem K_numberfield_Check_32 : R_numberfield_Check 1000000 k_numberfield_Check_32 = some v_numberfield_Check_32 := by kernel_rfl
theorem K_numberfield_Check_33 : R_numberfield_Check 1000000 k_numberfield_Check_33 = some v_numberfield_Check_33 := by kernel_rfl
theorem K_numberfield_Check_34 : R_numberfield_Check 1000000 k_numberfield_Check_34 = some v_numberfield_Check_34 := by kernel_rfl
theorem K_numberfield_Check_38 : R_numberfield_Check 1000000 k_numberfield_Check_38 = some v_numberfield_Check_38 := by kernel_rfl
theorem K_numberfield_Check_40 : R_numberfield_Check 1000000 k_numberfield_Check_40 = some v_numberfield_Check_40 := by kernel_rfl
end
end Go.Proofs.YtljlaoecceagaaaGreat
