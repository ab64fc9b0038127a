/- Results of calls, by the kernel. -/
import Derived.Test.YtljlaoecceagaaaGreatC0
import Derived.KernelRfl
set_option linter.all false
set_option linter.unusedVariables false
set_option maxRecDepth 1000000
set_option maxHeartbeats 0
namespace Go.Proofs.YtljlaoecceagaaaGreat
open Ev
noncomputable section
theorem K_zf_kernel_64 : R_zf_kernel 1000000 k_zf_kernel_64 = some v_zf_kernel_64 := by kernel_rfl
theorem K_zf_kernel_65 : R_zf_kernel 1000000 k_zf_kernel_65 = some v_zf_kernel_65 := by kernel_rfl
theorem K_zf_kernel_66 : R_zf_kernel 1000000 k_zf_kernel_66 = some v_zf_kernel_66 := by kernel_rfl
theorem K_zf_kernel_67 : R_zf_kernel 1000000 k_zf_kernel_67 = some v_zf_kernel_67 := by kernel_rfl
theorem K_zf_kernel_68 : R_zf_kernel 1000000 k_zf_kernel_68 = some v_zf_kernel_68 := by kernel_rfl
theorem K_zf_kernel_69 : R_zf_kernel 1000000 k_zf_kernel_69 = some v_zf_kernel_69 := by kernel_rfl
theorem K_zf_kernel_70 : R_zf_kernel 1000000 k_zf_kernel_70 = some v_zf_kernel_70 := by kernel_rfl
theorem K_zf_kernel_71 : R_zf_kernel 1000000 k_zf_kernel_71 = some v_zf_kernel_71 := by kernel_rfl
end
end Go.Proofs.YtljlaoecceagaaaGreat
