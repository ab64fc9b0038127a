/- Results of calls, by the kernel. -/
import Derived.Test.YtljlaoecceagaaaGreatC0
import Derived.KernelRfl
set_option linter.all false
set_option linter.unusedVariables false
set_option maxRecDepth 1000000
set_option maxHeartbeats 0
namespace Go.Proofs.YtljlaoecceagaaaGreat
open Ev
noncomputable section
theorem K_zf_kernel_32 : R_zf_kernel 1000000 k_zf_kernel_32 = some v_zf_kernel_32 := by kernel_rfl
theorem K_zf_kernel_33 : R_zf_kernel 1000000 k_zf_kernel_33 = some v_zf_kernel_33 := by kernel_rfl
theorem K_zf_kernel_34 : R_zf_kernel 1000000 k_zf_kernel_34 = some v_zf_kernel_34 := by kernel_rfl
theorem K_zf_kernel_35 : R_zf_kernel 1000000 k_zf_kernel_35 = some v_zf_kernel_35 := by kernel_rfl
theorem K_zf_kernel_36 : R_zf_kernel 1000000 k_zf_kernel_36 = some v_zf_kernel_36 := by kernel_rfl
theorem K_zf_kernel_37 : R_zf_kernel 1000000 k_zf_kernel_37 = some v_zf_kernel_37 := by kernel_rfl
theorem K_zf_kernel_38 : R_zf_kernel 1000000 k_zf_kernel_38 = some v_zf_kernel_38 := by kernel_rfl
theorem K_zf_kernel_39 : R_zf_kernel 1000000 k_zf_kernel_39 = some v_zf_kernel_39 := by kernel_rfl
end
end Go.Proofs.YtljlaoecceagaaaGreat
