/- By the kernel. -/
import Derived.Test.YthljpappkomocaaGreatLA0
import Derived.KernelRfl
set_option linter.all false
set_option maxRecDepth 1000000
set_option maxHeartbeats 0
namespace Go.Proofs.YthljpappkomocaaGreat.B
open Ev
noncomputable section
def ku3:t7 xy 303 uk3=some uv3:=eX
end
end Go.Proofs.YthljpappkomocaaGreat.B
