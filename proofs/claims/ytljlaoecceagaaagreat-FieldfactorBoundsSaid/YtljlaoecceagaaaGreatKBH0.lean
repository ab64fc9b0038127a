/- Results of calls, by the kernel. -/
import Derived.Test.YtljlaoecceagaaaGreatC0
import Derived.KernelRfl
set_option linter.all false
set_option linter.unusedVariables false
set_option maxRecDepth 1000000
set_option maxHeartbeats 0
namespace Go.Proofs.YtljlaoecceagaaaGreat
open Ev
noncomputable section
theorem K_zf_kernel_30 : R_zf_kernel 1000000 k_zf_kernel_30 = some v_zf_kernel_30 := by kernel_rfl
theorem K_zf_kernel_31 : R_zf_kernel 1000000 k_zf_kernel_31 = some v_zf_kernel_31 := by kernel_rfl
theorem K_zf_kernel_32 : R_zf_kernel 1000000 k_zf_kernel_32 = some v_zf_kernel_32 := by kernel_rfl
theorem K_zf_kernel_33 : R_zf_kernel 1000000 k_zf_kernel_33 = some v_zf_kernel_33 := by kernel_rfl
theorem K_zf_kernel_34 : R_zf_kernel 1000000 k_zf_kernel_34 = some v_zf_kernel_34 := by kernel_rfl
end
end Go.Proofs.YtljlaoecceagaaaGreat
