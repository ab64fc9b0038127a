/- By the kernel. -/
import Derived.Test.YthljpappkomocaaGreatLA0
import Derived.KernelRfl
set_option linter.all false
set_option maxRecDepth 1000000
set_option maxHeartbeats 0
namespace Go.Proofs.YthljpappkomocaaGreat.B
open Ev Tryz
noncomputable section
def z4L:tY prog xL sq0:=by unfold tY;kernel_rfl
end
end Go.Proofs.YthljpappkomocaaGreat.B
