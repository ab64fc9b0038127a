/- Results of calls, by the kernel. -/
import Derived.Test.YtljlaoecceagaaaGreatC0
import Derived.KernelRfl
set_option linter.all false
set_option linter.unusedVariables false
set_option maxRecDepth 1000000
set_option maxHeartbeats 0
namespace Go.Proofs.YtljlaoecceagaaaGreat
open Ev
noncomputable section
theorem K_zf_kernel_0 : R_zf_kernel 1000000 k_zf_kernel_0 = some v_zf_kernel_0 := by kernel_rfl
theorem K_zf_kernel_1 : R_zf_kernel 1000000 k_zf_kernel_1 = some v_zf_kernel_1 := by kernel_rfl
theorem K_zf_kernel_2 : R_zf_kernel 1000000 k_zf_kernel_2 = some v_zf_kernel_2 := by kernel_rfl
theorem K_zf_kernel_3 : R_zf_kernel 1000000 k_zf_kernel_3 = some v_zf_kernel_3 := by kernel_rfl
theorem K_zf_kernel_4 : R_zf_kernel 1000000 k_zf_kernel_4 = some v_zf_kernel_4 := by kernel_rfl
theorem K_zf_kernel_5 : R_zf_kernel 1000000 k_zf_kernel_5 = some v_zf_kernel_5 := by kernel_rfl
theorem K_zf_kernel_6 : R_zf_kernel 1000000 k_zf_kernel_6 = some v_zf_kernel_6 := by kernel_rfl
theorem K_zf_kernel_7 : R_zf_kernel 1000000 k_zf_kernel_7 = some v_zf_kernel_7 := by kernel_rfl
end
end Go.Proofs.YtljlaoecceagaaaGreat
