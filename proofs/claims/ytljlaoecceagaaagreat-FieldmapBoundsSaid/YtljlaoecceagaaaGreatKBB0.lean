/- Results of calls, by the kernel. -/
import Derived.Test.YtljlaoecceagaaaGreatC0
import Derived.KernelRfl
set_option linter.all false
set_option linter.unusedVariables false
set_option maxRecDepth 1000000
set_option maxHeartbeats 0
namespace Go.Proofs.YtljlaoecceagaaaGreat
open Ev
noncomputable section
theorem K_zf_kernel_16 : R_zf_kernel 1000000 k_zf_kernel_16 = some v_zf_kernel_16 := by kernel_rfl
theorem K_zf_kernel_17 : R_zf_kernel 1000000 k_zf_kernel_17 = some v_zf_kernel_17 := by kernel_rfl
theorem K_zf_kernel_18 : R_zf_kernel 1000000 k_zf_kernel_18 = some v_zf_kernel_18 := by kernel_rfl
theorem K_zf_kernel_19 : R_zf_kernel 1000000 k_zf_kernel_19 = some v_zf_kernel_19 := by kernel_rfl
theorem K_zf_kernel_20 : R_zf_kernel 1000000 k_zf_kernel_20 = some v_zf_kernel_20 := by kernel_rfl
theorem K_zf_kernel_21 : R_zf_kernel 1000000 k_zf_kernel_21 = some v_zf_kernel_21 := by kernel_rfl
theorem K_zf_kernel_22 : R_zf_kernel 1000000 k_zf_kernel_22 = some v_zf_kernel_22 := by kernel_rfl
theorem K_zf_kernel_23 : R_zf_kernel 1000000 k_zf_kernel_23 = some v_zf_kernel_23 := by kernel_rfl
end
end Go.Proofs.YtljlaoecceagaaaGreat
