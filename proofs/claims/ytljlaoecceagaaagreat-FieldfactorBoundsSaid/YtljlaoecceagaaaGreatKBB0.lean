/- Results of calls, by the kernel. -/
import Derived.Test.YtljlaoecceagaaaGreatC0
import Derived.KernelRfl
set_option linter.all false
set_option linter.unusedVariables false
set_option maxRecDepth 1000000
set_option maxHeartbeats 0
namespace Go.Proofs.YtljlaoecceagaaaGreat
open Ev
noncomputable section
theorem K_zf_kernel_5 : R_zf_kernel 1000000 k_zf_kernel_5 = some v_zf_kernel_5 := by kernel_rfl
theorem K_zf_kernel_6 : R_zf_kernel 1000000 k_zf_kernel_6 = some v_zf_kernel_6 := by kernel_rfl
theorem K_zf_kernel_7 : R_zf_kernel 1000000 k_zf_kernel_7 = some v_zf_kernel_7 := by kernel_rfl
theorem K_zf_kernel_8 : R_zf_kernel 1000000 k_zf_kernel_8 = some v_zf_kernel_8 := by kernel_rfl
theorem K_zf_kernel_9 : R_zf_kernel 1000000 k_zf_kernel_9 = some v_zf_kernel_9 := by kernel_rfl
theorem K_numberfield_Check_16 : R_numberfield_Check 1000000 k_numberfield_Check_16 = some v_numberfield_Check_16 := by kernel_rfl
end
end Go.Proofs.YtljlaoecceagaaaGreat
