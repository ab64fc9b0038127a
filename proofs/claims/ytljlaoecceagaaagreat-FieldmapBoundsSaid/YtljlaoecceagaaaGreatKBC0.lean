/- Results of calls, by the kernel. -/
import Derived.Test.YtljlaoecceagaaaGreatC0
import Derived.KernelRfl
set_option linter.all false
set_option linter.unusedVariables false
set_option maxRecDepth 1000000
set_option maxHeartbeats 0
namespace Go.Proofs.YtljlaoecceagaaaGreat
open Ev
noncomputable section
theorem K_zf_kernel_24 : R_zf_kernel 1000000 k_zf_kernel_24 = some v_zf_kernel_24 := by kernel_rfl
theorem K_zf_kernel_25 : R_zf_kernel 1000000 k_zf_kernel_25 = some v_zf_kernel_25 := by kernel_rfl
theorem K_zf_kernel_26 : R_zf_kernel 1000000 k_zf_kernel_26 = some v_zf_kernel_26 := by kernel_rfl
theorem K_zf_kernel_27 : R_zf_kernel 1000000 k_zf_kernel_27 = some v_zf_kernel_27 := by kernel_rfl
theorem K_zf_kernel_28 : R_zf_kernel 1000000 k_zf_kernel_28 = some v_zf_kernel_28 := by kernel_rfl
theorem K_zf_kernel_29 : R_zf_kernel 1000000 k_zf_kernel_29 = some v_zf_kernel_29 := by kernel_rfl
theorem K_zf_kernel_30 : R_zf_kernel 1000000 k_zf_kernel_30 = some v_zf_kernel_30 := by kernel_rfl
theorem K_zf_kernel_31 : R_zf_kernel 1000000 k_zf_kernel_31 = some v_zf_kernel_31 := by kernel_rfl
end
end Go.Proofs.YtljlaoecceagaaaGreat
