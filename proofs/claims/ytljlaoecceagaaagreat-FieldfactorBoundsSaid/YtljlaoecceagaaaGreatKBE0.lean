/- Results of calls, by the kernel. -/
import Derived.Test.YtljlaoecceagaaaGreatC0
import Derived.KernelRfl
set_option linter.all false
set_option linter.unusedVariables false
set_option maxRecDepth 1000000
set_option maxHeartbeats 0
namespace Go.Proofs.YtljlaoecceagaaaGreat
open Ev
noncomputable section
theorem K_zf_kernel_15 : R_zf_kernel 1000000 k_zf_kernel_15 = some v_zf_kernel_15 := by kernel_rfl
theorem K_zf_kernel_16 : R_zf_kernel 1000000 k_zf_kernel_16 = some v_zf_kernel_16 := by kernel_rfl
theorem K_zf_kernel_17 : R_zf_kernel 1000000 k_zf_kernel_17 = some v_zf_kernel_17 := by kernel_rfl
theorem K_zf_kernel_18 : R_zf_kernel 1000000 k_zf_kernel_18 = some v_zf_kernel_18 := by kernel_rfl
theorem K_zf_kernel_19 : R_zf_kernel 1000000 k_zf_kernel_19 = some v_zf_kernel_19 := by kernel_rfl
theorem K_numberfield_Check_19 : R_numberfield_Check 1000000 k_numberfield_Check_19 = some v_numberfield_Check_19 := by kernel_rfl
end
end Go.Proofs.YtljlaoecceagaaaGreat
