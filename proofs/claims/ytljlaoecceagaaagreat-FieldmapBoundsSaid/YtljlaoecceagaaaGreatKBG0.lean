/- Results of calls, by the kernel. -/
import Derived.Test.YtljlaoecceagaaaGreatC0
import Derived.KernelRfl
set_option linter.all false
set_option linter.unusedVariables false
set_option maxRecDepth 1000000
set_option maxHeartbeats 0
namespace Go.Proofs.YtljlaoecceagaaaGreat
open Ev
noncomputable section
theorem K_zf_kernel_56 : R_zf_kernel 1000000 k_zf_kernel_56 = some v_zf_kernel_56 := by kernel_rfl
theorem K_zf_kernel_57 : R_zf_kernel 1000000 k_zf_kernel_57 = some v_zf_kernel_57 := by kernel_rfl
theorem K_zf_kernel_58 : R_zf_kernel 1000000 k_zf_kernel_58 = some v_zf_kernel_58 := by kernel_rfl
theorem K_zf_kernel_59 : R_zf_kernel 1000000 k_zf_kernel_59 = some v_zf_kernel_59 := by kernel_rfl
theorem K_zf_kernel_60 : R_zf_kernel 1000000 k_zf_kernel_60 = some v_zf_kernel_60 := by kernel_rfl
theorem K_zf_kernel_61 : R_zf_kernel 1000000 k_zf_kernel_61 = some v_zf_kernel_61 := by kernel_rfl
theorem K_zf_kernel_62 : R_zf_kernel 1000000 k_zf_kernel_62 = some v_zf_kernel_62 := by kernel_rfl
theorem K_zf_kernel_63 : R_zf_kernel 1000000 k_zf_kernel_63 = some v_zf_kernel_63 := by kernel_rfl
end
end Go.Proofs.YtljlaoecceagaaaGreat
