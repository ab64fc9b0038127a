/- Results of calls, by the kernel. -/
import Derived.Test.YthljpappkomocaaGreatCA0
import Derived.KernelRfl
set_option linter.all false
set_option maxRecDepth 1000000
set_option maxHeartbeats 0
namespace Go.Proofs.YthljpappkomocaaGreat
open Ev
noncomputable section
theorem ziB : zn 1000000 zen = some ze8 := by kernel_rfl
theorem ziA : zn 1000000 zem = some ze7 := by kernel_rfl
theorem ziz : zn 1000000 zel = some ze6 := by kernel_rfl
theorem ziy : zn 1000000 zek = some ze5 := by kernel_rfl
theorem zix : zn 1000000 zej = some ze4 := by kernel_rfl
theorem ziw : zn 1000000 zei = some ze3 := by kernel_rfl
theorem ziv : zn 1000000 zeh = some ze2 := by kernel_rfl
theorem ziu : zn 1000000 zeg = some ze1 := by kernel_rfl
end
end Go.Proofs.YthljpappkomocaaGreat
