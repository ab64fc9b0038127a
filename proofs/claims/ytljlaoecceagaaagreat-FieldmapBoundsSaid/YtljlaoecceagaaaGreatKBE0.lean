/- Results of calls, by the kernel. -/
import Derived.Test.YtljlaoecceagaaaGreatC0
import Derived.KernelRfl
set_option linter.all false
set_option linter.unusedVariables false
set_option maxRecDepth 1000000
set_option maxHeartbeats 0
namespace Go.Proofs.YtljlaoecceagaaaGreat
open Ev
noncomputable section
theorem K_zf_kernel_40 : R_zf_kernel 1000000 k_zf_kernel_40 = some v_zf_kernel_40 := by kernel_rfl
theorem K_zf_kernel_41 : R_zf_kernel 1000000 k_zf_kernel_41 = some v_zf_kernel_41 := by kernel_rfl
theorem K_zf_kernel_42 : R_zf_kernel 1000000 k_zf_kernel_42 = some v_zf_kernel_42 := by kernel_rfl
theorem K_zf_kernel_43 : R_zf_kernel 1000000 k_zf_kernel_43 = some v_zf_kernel_43 := by kernel_rfl
theorem K_zf_kernel_44 : R_zf_kernel 1000000 k_zf_kernel_44 = some v_zf_kernel_44 := by kernel_rfl
theorem K_zf_kernel_45 : R_zf_kernel 1000000 k_zf_kernel_45 = some v_zf_kernel_45 := by kernel_rfl
theorem K_zf_kernel_46 : R_zf_kernel 1000000 k_zf_kernel_46 = some v_zf_kernel_46 := by kernel_rfl
theorem K_zf_kernel_47 : R_zf_kernel 1000000 k_zf_kernel_47 = some v_zf_kernel_47 := by kernel_rfl
end
end Go.Proofs.YtljlaoecceagaaaGreat
