/- The law at arguments in range, by the kernel. -/
import Derived.Test.YtljlaoecceagaaaGreatD0
import Derived.Test.YtljlaoecceagaaaGreatB0
import Derived.KernelRfl
set_option linter.all false
set_option linter.unusedVariables false
set_option maxRecDepth 1000000
set_option maxHeartbeats 0
namespace Go.Proofs.YtljlaoecceagaaaGreat
open Ev
noncomputable section
theorem G1 : allB 25 (fun d => isT (R_galoislaw35_FieldmapBounds 1000000 [ni 1, ni d])) = true := by kernel_rfl
theorem G2 : allB 25 (fun d => isT (R_galoislaw35_FieldmapBounds 1000000 [ni 2, ni d])) = true := by kernel_rfl
theorem G3 : allB 25 (fun d => isT (R_galoislaw35_FieldmapBounds 1000000 [ni 3, ni d])) = true := by kernel_rfl
theorem G4 : allB 25 (fun d => isT (R_galoislaw35_FieldmapBounds 1000000 [ni 4, ni d])) = true := by kernel_rfl
theorem G5 : allB 25 (fun d => isT (R_galoislaw35_FieldmapBounds 1000000 [ni 5, ni d])) = true := by kernel_rfl
theorem G6 : allB 25 (fun d => isT (R_galoislaw35_FieldmapBounds 1000000 [ni 6, ni d])) = true := by kernel_rfl
theorem G7 : allB 25 (fun d => isT (R_galoislaw35_FieldmapBounds 1000000 [ni 7, ni d])) = true := by kernel_rfl
theorem G8 : allB 25 (fun d => isT (R_galoislaw35_FieldmapBounds 1000000 [ni 8, ni d])) = true := by kernel_rfl
theorem G9 : allB 25 (fun d => isT (R_galoislaw35_FieldmapBounds 1000000 [ni 9, ni d])) = true := by kernel_rfl
theorem G10 : allB 25 (fun d => isT (R_galoislaw35_FieldmapBounds 1000000 [ni 10, ni d])) = true := by kernel_rfl
theorem G11 : allB 25 (fun d => isT (R_galoislaw35_FieldmapBounds 1000000 [ni 11, ni d])) = true := by kernel_rfl
theorem G12 : allB 25 (fun d => isT (R_galoislaw35_FieldmapBounds 1000000 [ni 12, ni d])) = true := by kernel_rfl
theorem G13 : allB 25 (fun d => isT (R_galoislaw35_FieldmapBounds 1000000 [ni 13, ni d])) = true := by kernel_rfl
theorem G14 : allB 25 (fun d => isT (R_galoislaw35_FieldmapBounds 1000000 [ni 14, ni d])) = true := by kernel_rfl
theorem G15 : allB 25 (fun d => isT (R_galoislaw35_FieldmapBounds 1000000 [ni 15, ni d])) = true := by kernel_rfl
theorem G16 : allB 25 (fun d => isT (R_galoislaw35_FieldmapBounds 1000000 [ni 16, ni d])) = true := by kernel_rfl
theorem G17 : allB 25 (fun d => isT (R_galoislaw35_FieldmapBounds 1000000 [ni 17, ni d])) = true := by kernel_rfl
theorem G18 : allB 25 (fun d => isT (R_galoislaw35_FieldmapBounds 1000000 [ni 18, ni d])) = true := by kernel_rfl
theorem G19 : allB 25 (fun d => isT (R_galoislaw35_FieldmapBounds 1000000 [ni 19, ni d])) = true := by kernel_rfl
theorem G20 : allB 25 (fun d => isT (R_galoislaw35_FieldmapBounds 1000000 [ni 20, ni d])) = true := by kernel_rfl
theorem G21 : allB 25 (fun d => isT (R_galoislaw35_FieldmapBounds 1000000 [ni 21, ni d])) = true := by kernel_rfl
theorem G22 : allB 25 (fun d => isT (R_galoislaw35_FieldmapBounds 1000000 [ni 22, ni d])) = true := by kernel_rfl
theorem G23 : allB 25 (fun d => isT (R_galoislaw35_FieldmapBounds 1000000 [ni 23, ni d])) = true := by kernel_rfl
theorem G24 : allB 25 (fun d => isT (R_galoislaw35_FieldmapBounds 1000000 [ni 24, ni d])) = true := by kernel_rfl
end
end Go.Proofs.YtljlaoecceagaaaGreat
