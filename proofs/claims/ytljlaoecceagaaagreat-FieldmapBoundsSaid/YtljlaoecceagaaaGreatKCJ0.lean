/- Results of calls, by the kernel. -/
import Derived.Test.YtljlaoecceagaaaGreatC0
import Derived.KernelRfl
set_option linter.all false
set_option linter.unusedVariables false
set_option maxRecDepth 1000000
set_option maxHeartbeats 0
namespace Go.Proofs.YtljlaoecceagaaaGreat
open Ev
noncomputable section
theorem K_zf_ring_mul_30 : R_zf_ring_mul 1000000 k_zf_ring_mul_30 = some v_zf_ring_mul_30 := by kernel_rfl
theorem K_zf_ring_mul_31 : R_zf_ring_mul 1000000 k_zf_ring_mul_31 = some v_zf_ring_mul_31 := by kernel_rfl
theorem K_zf_ring_mul_32 : R_zf_ring_mul 1000000 k_zf_ring_mul_32 = some v_zf_ring_mul_32 := by kernel_rfl
theorem K_zf_ring_mul_33 : R_zf_ring_mul 1000000 k_zf_ring_mul_33 = some v_zf_ring_mul_33 := by kernel_rfl
theorem K_zf_ring_mul_34 : R_zf_ring_mul 1000000 k_zf_ring_mul_34 = some v_zf_ring_mul_34 := by kernel_rfl
theorem K_zf_ring_mul_35 : R_zf_ring_mul 1000000 k_zf_ring_mul_35 = some v_zf_ring_mul_35 := by kernel_rfl
theorem K_zf_ring_mul_36 : R_zf_ring_mul 1000000 k_zf_ring_mul_36 = some v_zf_ring_mul_36 := by kernel_rfl
theorem K_zf_ring_mul_37 : R_zf_ring_mul 1000000 k_zf_ring_mul_37 = some v_zf_ring_mul_37 := by kernel_rfl
theorem K_zf_ring_mul_38 : R_zf_ring_mul 1000000 k_zf_ring_mul_38 = some v_zf_ring_mul_38 := by kernel_rfl
theorem K_zf_ring_mul_39 : R_zf_ring_mul 1000000 k_zf_ring_mul_39 = some v_zf_ring_mul_39 := by kernel_rfl
theorem K_zf_ring_mul_40 : R_zf_ring_mul 1000000 k_zf_ring_mul_40 = some v_zf_ring_mul_40 := by kernel_rfl
theorem K_zf_ring_mul_41 : R_zf_ring_mul 1000000 k_zf_ring_mul_41 = some v_zf_ring_mul_41 := by kernel_rfl
theorem K_zf_ring_mul_42 : R_zf_ring_mul 1000000 k_zf_ring_mul_42 = some v_zf_ring_mul_42 := by kernel_rfl
theorem K_zf_ring_mul_43 : R_zf_ring_mul 1000000 k_zf_ring_mul_43 = some v_zf_ring_mul_43 := by kernel_rfl
theorem K_zf_ring_mul_44 : R_zf_ring_mul 1000000 k_zf_ring_mul_44 = some v_zf_ring_mul_44 := by kernel_rfl
theorem K_zf_ring_mul_45 : R_zf_ring_mul 1000000 k_zf_ring_mul_45 = some v_zf_ring_mul_45 := by kernel_rfl
theorem K_zf_ring_mul_46 : R_zf_ring_mul 1000000 k_zf_ring_mul_46 = some v_zf_ring_mul_46 := by kernel_rfl
theorem K_zf_ring_mul_47 : R_zf_ring_mul 1000000 k_zf_ring_mul_47 = some v_zf_ring_mul_47 := by kernel_rfl
theorem K_zf_ring_mul_48 : R_zf_ring_mul 1000000 k_zf_ring_mul_48 = some v_zf_ring_mul_48 := by kernel_rfl
theorem K_zf_ring_mul_49 : R_zf_ring_mul 1000000 k_zf_ring_mul_49 = some v_zf_ring_mul_49 := by kernel_rfl
theorem K_zf_ring_mul_50 : R_zf_ring_mul 1000000 k_zf_ring_mul_50 = some v_zf_ring_mul_50 := by kernel_rfl
theorem K_zf_ring_mul_51 : R_zf_ring_mul 1000000 k_zf_ring_mul_51 = some v_zf_ring_mul_51 := by kernel_rfl
theorem K_zf_ring_mul_52 : R_zf_ring_mul 1000000 k_zf_ring_mul_52 = some v_zf_ring_mul_52 := by kernel_rfl
theorem K_zf_ring_mul_53 : R_zf_ring_mul 1000000 k_zf_ring_mul_53 = some v_zf_ring_mul_53 := by kernel_rfl
theorem K_zf_ring_mul_54 : R_zf_ring_mul 1000000 k_zf_ring_mul_54 = some v_zf_ring_mul_54 := by kernel_rfl
theorem K_zf_ring_mul_55 : R_zf_ring_mul 1000000 k_zf_ring_mul_55 = some v_zf_ring_mul_55 := by kernel_rfl
theorem K_zf_ring_mul_56 : R_zf_ring_mul 1000000 k_zf_ring_mul_56 = some v_zf_ring_mul_56 := by kernel_rfl
theorem K_zf_ring_mul_57 : R_zf_ring_mul 1000000 k_zf_ring_mul_57 = some v_zf_ring_mul_57 := by kernel_rfl
theorem K_zf_ring_mul_58 : R_zf_ring_mul 1000000 k_zf_ring_mul_58 = some v_zf_ring_mul_58 := by kernel_rfl
end
end Go.Proofs.YtljlaoecceagaaaGreat
