/- Results of calls, by the kernel. -/
import Derived.Test.YthljpappkomocaaGreatCC0
import Derived.KernelRfl
set_option linter.all false
set_option maxRecDepth 1000000
set_option maxHeartbeats 0
namespace Go.Proofs.YthljpappkomocaaGreat
open Ev
noncomputable section
theorem zcx : za 1000000 z8s = some z8f := by kernel_rfl
theorem zcv : za 1000000 z8q = some z8d := by kernel_rfl
theorem zcu : za 1000000 z8p = some z8c := by kernel_rfl
theorem zct : za 1000000 z8o = some z8b := by kernel_rfl
theorem zcs : za 1000000 z8n = some z8a := by kernel_rfl
theorem zcr : za 1000000 z8m = some z89 := by kernel_rfl
theorem zcq : za 1000000 z8l = some z88 := by kernel_rfl
theorem zcp : za 1000000 z8k = some z87 := by kernel_rfl
theorem zco : za 1000000 z8j = some z86 := by kernel_rfl
theorem zbz : za 1000000 z7u = some z7c := by kernel_rfl
theorem zby : za 1000000 z7t = some z7b := by kernel_rfl
theorem zbu : za 1000000 z7p = some z77 := by kernel_rfl
theorem zbs : za 1000000 z7n = some z75 := by kernel_rfl
theorem zcy : z1F 1000000 z8t = some z8g := by kernel_rfl
end
end Go.Proofs.YthljpappkomocaaGreat
