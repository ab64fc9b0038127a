/- Results of calls, by the kernel. -/
import Derived.Test.YtljlaoecceagaaaGreatC0
import Derived.KernelRfl
set_option linter.all false
set_option linter.unusedVariables false
set_option maxRecDepth 1000000
set_option maxHeartbeats 0
namespace Go.Proofs.YtljlaoecceagaaaGreat
open Ev
noncomputable section
theorem K_zf_kernel_8 : R_zf_kernel 1000000 k_zf_kernel_8 = some v_zf_kernel_8 := by kernel_rfl
theorem K_zf_kernel_9 : R_zf_kernel 1000000 k_zf_kernel_9 = some v_zf_kernel_9 := by kernel_rfl
theorem K_zf_kernel_10 : R_zf_kernel 1000000 k_zf_kernel_10 = some v_zf_kernel_10 := by kernel_rfl
theorem K_zf_kernel_11 : R_zf_kernel 1000000 k_zf_kernel_11 = some v_zf_kernel_11 := by kernel_rfl
theorem K_zf_kernel_12 : R_zf_kernel 1000000 k_zf_kernel_12 = some v_zf_kernel_12 := by kernel_rfl
theorem K_zf_kernel_13 : R_zf_kernel 1000000 k_zf_kernel_13 = some v_zf_kernel_13 := by kernel_rfl
theorem K_zf_kernel_14 : R_zf_kernel 1000000 k_zf_kernel_14 = some v_zf_kernel_14 := by kernel_rfl
theorem K_zf_kernel_15 : R_zf_kernel 1000000 k_zf_kernel_15 = some v_zf_kernel_15 := by kernel_rfl
end
end Go.Proofs.YtljlaoecceagaaaGreat
