/- Results of calls, by the kernel. -/
import Derived.Test.YtljlaoecceagaaaGreatC0
import Derived.KernelRfl
set_option linter.all false
set_option linter.unusedVariables false
set_option maxRecDepth 1000000
set_option maxHeartbeats 0
namespace Go.Proofs.YtljlaoecceagaaaGreat
open Ev
noncomputable section
theorem K_zf_ring_mul_0 : R_zf_ring_mul 1000000 k_zf_ring_mul_0 = some v_zf_ring_mul_0 := by kernel_rfl
theorem K_zf_ring_mul_1 : R_zf_ring_mul 1000000 k_zf_ring_mul_1 = some v_zf_ring_mul_1 := by kernel_rfl
theorem K_zf_ring_mul_2 : R_zf_ring_mul 1000000 k_zf_ring_mul_2 = some v_zf_ring_mul_2 := by kernel_rfl
theorem K_zf_ring_mul_3 : R_zf_ring_mul 1000000 k_zf_ring_mul_3 = some v_zf_ring_mul_3 := by kernel_rfl
theorem K_zf_ring_mul_4 : R_zf_ring_mul 1000000 k_zf_ring_mul_4 = some v_zf_ring_mul_4 := by kernel_rfl
theorem K_zf_ring_mul_5 : R_zf_ring_mul 1000000 k_zf_ring_mul_5 = some v_zf_ring_mul_5 := by kernel_rfl
theorem K_zf_ring_mul_6 : R_zf_ring_mul 1000000 k_zf_ring_mul_6 = some v_zf_ring_mul_6 := by kernel_rfl
theorem K_zf_ring_mul_7 : R_zf_ring_mul 1000000 k_zf_ring_mul_7 = some v_zf_ring_mul_7 := by kernel_rfl
theorem K_zf_ring_mul_8 : R_zf_ring_mul 1000000 k_zf_ring_mul_8 = some v_zf_ring_mul_8 := by kernel_rfl
theorem K_zf_ring_mul_9 : R_zf_ring_mul 1000000 k_zf_ring_mul_9 = some v_zf_ring_mul_9 := by kernel_rfl
theorem K_zf_ring_mul_10 : R_zf_ring_mul 1000000 k_zf_ring_mul_10 = some v_zf_ring_mul_10 := by kernel_rfl
theorem K_zf_ring_mul_11 : R_zf_ring_mul 1000000 k_zf_ring_mul_11 = some v_zf_ring_mul_11 := by kernel_rfl
theorem K_zf_ring_mul_12 : R_zf_ring_mul 1000000 k_zf_ring_mul_12 = some v_zf_ring_mul_12 := by kernel_rfl
theorem K_zf_ring_mul_13 : R_zf_ring_mul 1000000 k_zf_ring_mul_13 = some v_zf_ring_mul_13 := by kernel_rfl
theorem K_zf_ring_mul_14 : R_zf_ring_mul 1000000 k_zf_ring_mul_14 = some v_zf_ring_mul_14 := by kernel_rfl
theorem K_zf_ring_mul_15 : R_zf_ring_mul 1000000 k_zf_ring_mul_15 = some v_zf_ring_mul_15 := by kernel_rfl
theorem K_zf_ring_mul_16 : R_zf_ring_mul 1000000 k_zf_ring_mul_16 = some v_zf_ring_mul_16 := by kernel_rfl
theorem K_zf_ring_mul_17 : R_zf_ring_mul 1000000 k_zf_ring_mul_17 = some v_zf_ring_mul_17 := by kernel_rfl
theorem K_zf_ring_mul_18 : R_zf_ring_mul 1000000 k_zf_ring_mul_18 = some v_zf_ring_mul_18 := by kernel_rfl
theorem K_zf_ring_mul_19 : R_zf_ring_mul 1000000 k_zf_ring_mul_19 = some v_zf_ring_mul_19 := by kernel_rfl
theorem K_zf_ring_mul_20 : R_zf_ring_mul 1000000 k_zf_ring_mul_20 = some v_zf_ring_mul_20 := by kernel_rfl
theorem K_zf_ring_mul_21 : R_zf_ring_mul 1000000 k_zf_ring_mul_21 = some v_zf_ring_mul_21 := by kernel_rfl
theorem K_zf_ring_mul_22 : R_zf_ring_mul 1000000 k_zf_ring_mul_22 = some v_zf_ring_mul_22 := by kernel_rfl
theorem K_zf_ring_mul_23 : R_zf_ring_mul 1000000 k_zf_ring_mul_23 = some v_zf_ring_mul_23 := by kernel_rfl
theorem K_zf_ring_mul_24 : R_zf_ring_mul 1000000 k_zf_ring_mul_24 = some v_zf_ring_mul_24 := by kernel_rfl
theorem K_zf_ring_mul_25 : R_zf_ring_mul 1000000 k_zf_ring_mul_25 = some v_zf_ring_mul_25 := by kernel_rfl
theorem K_zf_ring_mul_26 : R_zf_ring_mul 1000000 k_zf_ring_mul_26 = some v_zf_ring_mul_26 := by kernel_rfl
theorem K_zf_ring_mul_27 : R_zf_ring_mul 1000000 k_zf_ring_mul_27 = some v_zf_ring_mul_27 := by kernel_rfl
theorem K_zf_ring_mul_28 : R_zf_ring_mul 1000000 k_zf_ring_mul_28 = some v_zf_ring_mul_28 := by kernel_rfl
theorem K_zf_ring_mul_29 : R_zf_ring_mul 1000000 k_zf_ring_mul_29 = some v_zf_ring_mul_29 := by kernel_rfl
theorem K_zf_ring_divide_0 : R_zf_ring_divide 1000000 k_zf_ring_divide_0 = some v_zf_ring_divide_0 := by kernel_rfl
theorem K_zf_ring_divide_1 : R_zf_ring_divide 1000000 k_zf_ring_divide_1 = some v_zf_ring_divide_1 := by kernel_rfl
theorem K_zf_ring_divide_2 : R_zf_ring_divide 1000000 k_zf_ring_divide_2 = some v_zf_ring_divide_2 := by kernel_rfl
theorem K_zf_ring_divide_3 : R_zf_ring_divide 1000000 k_zf_ring_divide_3 = some v_zf_ring_divide_3 := by kernel_rfl
theorem K_zf_ring_divide_4 : R_zf_ring_divide 1000000 k_zf_ring_divide_4 = some v_zf_ring_divide_4 := by kernel_rfl
theorem K_zf_ring_divide_5 : R_zf_ring_divide 1000000 k_zf_ring_divide_5 = some v_zf_ring_divide_5 := by kernel_rfl
theorem K_zf_ring_divide_6 : R_zf_ring_divide 1000000 k_zf_ring_divide_6 = some v_zf_ring_divide_6 := by kernel_rfl
theorem K_zf_ring_divide_7 : R_zf_ring_divide 1000000 k_zf_ring_divide_7 = some v_zf_ring_divide_7 := by kernel_rfl
theorem K_zf_ring_divide_8 : R_zf_ring_divide 1000000 k_zf_ring_divide_8 = some v_zf_ring_divide_8 := by kernel_rfl
theorem K_zf_ring_divide_9 : R_zf_ring_divide 1000000 k_zf_ring_divide_9 = some v_zf_ring_divide_9 := by kernel_rfl
theorem K_zf_ring_divide_10 : R_zf_ring_divide 1000000 k_zf_ring_divide_10 = some v_zf_ring_divide_10 := by kernel_rfl
theorem K_zf_ring_divide_11 : R_zf_ring_divide 1000000 k_zf_ring_divide_11 = some v_zf_ring_divide_11 := by kernel_rfl
theorem K_zf_ring_divide_12 : R_zf_ring_divide 1000000 k_zf_ring_divide_12 = some v_zf_ring_divide_12 := by kernel_rfl
theorem K_zf_ring_divide_13 : R_zf_ring_divide 1000000 k_zf_ring_divide_13 = some v_zf_ring_divide_13 := by kernel_rfl
end
end Go.Proofs.YtljlaoecceagaaaGreat
