/- Results of calls, by the kernel. -/
import Derived.Test.YtljlaoecceagaaaGreatC0
import Derived.KernelRfl
set_option linter.all false
set_option linter.unusedVariables false
set_option maxRecDepth 1000000
set_option maxHeartbeats 0
namespace Go.Proofs.YtljlaoecceagaaaGreat
open Ev
noncomputable section
theorem K_zf_kernel_48 : R_zf_kernel 1000000 k_zf_kernel_48 = some v_zf_kernel_48 := by kernel_rfl
theorem K_zf_kernel_49 : R_zf_kernel 1000000 k_zf_kernel_49 = some v_zf_kernel_49 := by kernel_rfl
theorem K_zf_kernel_50 : R_zf_kernel 1000000 k_zf_kernel_50 = some v_zf_kernel_50 := by kernel_rfl
theorem K_zf_kernel_51 : R_zf_kernel 1000000 k_zf_kernel_51 = some v_zf_kernel_51 := by kernel_rfl
theorem K_zf_kernel_52 : R_zf_kernel 1000000 k_zf_kernel_52 = some v_zf_kernel_52 := by kernel_rfl
theorem K_zf_kernel_53 : R_zf_kernel 1000000 k_zf_kernel_53 = some v_zf_kernel_53 := by kernel_rfl
theorem K_zf_kernel_54 : R_zf_kernel 1000000 k_zf_kernel_54 = some v_zf_kernel_54 := by kernel_rfl
theorem K_zf_kernel_55 : R_zf_kernel 1000000 k_zf_kernel_55 = some v_zf_kernel_55 := by kernel_rfl
end
end Go.Proofs.YtljlaoecceagaaaGreat
