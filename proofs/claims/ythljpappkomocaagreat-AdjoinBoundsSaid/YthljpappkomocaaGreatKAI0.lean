/- Results of calls, by the kernel. -/
import Derived.Test.YthljpappkomocaaGreatCA0
import Derived.KernelRfl
set_option linter.all false
set_option maxRecDepth 1000000
set_option maxHeartbeats 0
namespace Go.Proofs.YthljpappkomocaaGreat
open Ev
noncomputable section
theorem zh1 : zn 1000000 zdv = some zd2 := by kernel_rfl
theorem zh0 : zn 1000000 zdu = some zd1 := by kernel_rfl
theorem zgZ : zn 1000000 zdt = some zd0 := by kernel_rfl
theorem zgY : zn 1000000 zds = some zcZ := by kernel_rfl
theorem zgX : zn 1000000 zdr = some zcY := by kernel_rfl
theorem zgW : zn 1000000 zdq = some zcX := by kernel_rfl
theorem zgV : zn 1000000 zdp = some zcW := by kernel_rfl
theorem zgU : zn 1000000 zdo = some zcV := by kernel_rfl
end
end Go.Proofs.YthljpappkomocaaGreat
