/- Results of calls, by the kernel. -/
import Derived.Test.YtljlaoecceagaaaGreatC0
import Derived.KernelRfl
set_option linter.all false
set_option linter.unusedVariables false
set_option maxRecDepth 1000000
set_option maxHeartbeats 0
namespace Go.Proofs.YtljlaoecceagaaaGreat
open Ev
noncomputable section
theorem K_zf_kernel_72 : R_zf_kernel 1000000 k_zf_kernel_72 = some v_zf_kernel_72 := by kernel_rfl
theorem K_zf_kernel_73 : R_zf_kernel 1000000 k_zf_kernel_73 = some v_zf_kernel_73 := by kernel_rfl
theorem K_zf_kernel_74 : R_zf_kernel 1000000 k_zf_kernel_74 = some v_zf_kernel_74 := by kernel_rfl
end
end Go.Proofs.YtljlaoecceagaaaGreat
