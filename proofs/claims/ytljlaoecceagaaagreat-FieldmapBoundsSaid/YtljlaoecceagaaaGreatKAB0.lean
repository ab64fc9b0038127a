/- Results of calls, by the kernel. -/
import Derived.Test.YtljlaoecceagaaaGreatD0
import Derived.KernelRfl
set_option linter.all false
set_option linter.unusedVariables false
set_option maxRecDepth 1000000
set_option maxHeartbeats 0
namespace Go.Proofs.YtljlaoecceagaaaGreat
open Ev
noncomputable section
theorem K_numberfield_Check_0 : R_numberfield_Check 1000000 k_numberfield_Check_0 = some v_numberfield_Check_0 := by kernel_rfl
theorem K_numberfield_Check_1 : R_numberfield_Check 1000000 k_numberfield_Check_1 = some v_numberfield_Check_1 := by kernel_rfl
theorem K_numberfield_Check_2 : R_numberfield_Check 1000000 k_numberfield_Check_2 = some v_numberfield_Check_2 := by kernel_rfl
theorem K_numberfield_Check_3 : R_numberfield_Check 1000000 k_numberfield_Check_3 = some v_numberfield_Check_3 := by kernel_rfl
theorem K_numberfield_Check_4 : R_numberfield_Check 1000000 k_numberfield_Check_4 = some v_numberfield_Check_4 := by kernel_rfl
theorem K_numberfield_Check_5 : R_numberfield_Check 1000000 k_numberfield_Check_5 = some v_numberfield_Check_5 := by kernel_rfl
theorem K_numberfield_Check_6 : R_numberfield_Check 1000000 k_numberfield_Check_6 = some v_numberfield_Check_6 := by kernel_rfl
theorem K_numberfield_Check_7 : R_numberfield_Check 1000000 k_numberfield_Check_7 = some v_numberfield_Check_7 := by kernel_rfl
theorem K_numberfield_Check_8 : R_numberfield_Check 1000000 k_numberfield_Check_8 = some v_numberfield_Check_8 := by kernel_rfl
theorem K_numberfield_Check_9 : R_numberfield_Check 1000000 k_numberfield_Check_9 = some v_numberfield_Check_9 := by kernel_rfl
theorem K_numberfield_Check_10 : R_numberfield_Check 1000000 k_numberfield_Check_10 = some v_numberfield_Check_10 := by kernel_rfl
theorem K_numberfield_Check_14 : R_numberfield_Check 1000000 k_numberfield_Check_14 = some v_numberfield_Check_14 := by kernel_rfl
theorem K_numberfield_Check_16 : R_numberfield_Check 1000000 k_numberfield_Check_16 = some v_numberfield_Check_16 := by kernel_rfl
theorem K_galoislaw35_awake_0 : R_galoislaw35_awake 1000000 k_galoislaw35_awake_0 = some v_galoislaw35_awake_0 := by kernel_rfl
end
end Go.Proofs.YtljlaoecceagaaaGreat
