/- Results of calls, by the kernel. -/
import Derived.Test.YthljpappkomocaaGreatCA0
import Derived.KernelRfl
set_option linter.all false
set_option maxRecDepth 1000000
set_option maxHeartbeats 0
namespace Go.Proofs.YthljpappkomocaaGreat
open Ev
noncomputable section
theorem zgT : zn 1000000 zdn = some zcU := by kernel_rfl
theorem zgS : zn 1000000 zdm = some zcT := by kernel_rfl
theorem zgR : zn 1000000 zdl = some zcS := by kernel_rfl
theorem zgQ : zn 1000000 zdk = some zcR := by kernel_rfl
theorem zgP : zn 1000000 zdj = some zcQ := by kernel_rfl
theorem zgO : zn 1000000 zdi = some zcP := by kernel_rfl
theorem zgN : zn 1000000 zdh = some zcO := by kernel_rfl
theorem zgM : zn 1000000 zdg = some zcN := by kernel_rfl
end
end Go.Proofs.YthljpappkomocaaGreat
