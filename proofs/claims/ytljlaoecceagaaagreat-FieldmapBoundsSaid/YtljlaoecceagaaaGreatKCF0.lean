/- Results of calls, by the kernel. -/
import Derived.Test.YtljlaoecceagaaaGreatC0
import Derived.KernelRfl
set_option linter.all false
set_option linter.unusedVariables false
set_option maxRecDepth 1000000
set_option maxHeartbeats 0
namespace Go.Proofs.YtljlaoecceagaaaGreat
open Ev
noncomputable section
theorem K_zf_pair_12 : R_zf_pair 1000000 k_zf_pair_12 = some v_zf_pair_12 := by kernel_rfl
theorem K_zf_pair_13 : R_zf_pair 1000000 k_zf_pair_13 = some v_zf_pair_13 := by kernel_rfl
end
end Go.Proofs.YtljlaoecceagaaaGreat
