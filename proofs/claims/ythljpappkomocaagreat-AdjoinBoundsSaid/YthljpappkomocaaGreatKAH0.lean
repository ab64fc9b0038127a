/- Results of calls, by the kernel. -/
import Derived.Test.YthljpappkomocaaGreatCA0
import Derived.KernelRfl
set_option linter.all false
set_option maxRecDepth 1000000
set_option maxHeartbeats 0
namespace Go.Proofs.YthljpappkomocaaGreat
open Ev
noncomputable section
theorem zit : zn 1000000 zef = some ze0 := by kernel_rfl
theorem zis : zn 1000000 zee = some zdZ := by kernel_rfl
theorem zh7 : zn 1000000 zdB = some zd8 := by kernel_rfl
theorem zh6 : zn 1000000 zdA = some zd7 := by kernel_rfl
theorem zh5 : zn 1000000 zdz = some zd6 := by kernel_rfl
theorem zh4 : zn 1000000 zdy = some zd5 := by kernel_rfl
theorem zh3 : zn 1000000 zdx = some zd4 := by kernel_rfl
theorem zh2 : zn 1000000 zdw = some zd3 := by kernel_rfl
end
end Go.Proofs.YthljpappkomocaaGreat
