/- Results of calls, by the kernel. -/
import Derived.Test.YthljpappkomocaaGreatCA0
import Derived.KernelRfl
set_option linter.all false
set_option maxRecDepth 1000000
set_option maxHeartbeats 0
namespace Go.Proofs.YthljpappkomocaaGreat
open Ev
noncomputable section
theorem zgG : zb 1000000 zc6 = some zbN := by kernel_rfl
theorem zgF : zb 1000000 zc5 = some zbM := by kernel_rfl
theorem zgE : zb 1000000 zc4 = some zbL := by kernel_rfl
theorem zgD : zb 1000000 zc3 = some zbK := by kernel_rfl
theorem zgC : zb 1000000 zc2 = some zbJ := by kernel_rfl
theorem zgB : zb 1000000 zc1 = some zbI := by kernel_rfl
theorem zgA : zb 1000000 zc0 = some zbH := by kernel_rfl
theorem zgz : zb 1000000 zbZ = some zbG := by kernel_rfl
theorem zgy : zb 1000000 zbY = some zbF := by kernel_rfl
theorem zgx : zb 1000000 zbX = some zbE := by kernel_rfl
theorem zfs : zb 1000000 zbj = some zaY := by kernel_rfl
theorem zfr : zb 1000000 zbi = some zaX := by kernel_rfl
theorem zfq : zb 1000000 zbh = some zaW := by kernel_rfl
theorem zfp : zb 1000000 zbg = some zaV := by kernel_rfl
theorem zfo : zb 1000000 zbf = some zaU := by kernel_rfl
theorem zfn : zb 1000000 zbe = some zaT := by kernel_rfl
theorem zfm : zb 1000000 zbd = some zaS := by kernel_rfl
theorem zfl : zb 1000000 zbc = some zaR := by kernel_rfl
theorem zfk : zb 1000000 zbb = some zaQ := by kernel_rfl
theorem zfj : zb 1000000 zba = some zaP := by kernel_rfl
theorem zfi : zb 1000000 zb9 = some zaO := by kernel_rfl
theorem zfh : zb 1000000 zb8 = some zaN := by kernel_rfl
theorem zfg : zb 1000000 zb7 = some zaM := by kernel_rfl
theorem zff : zb 1000000 zb6 = some zaL := by kernel_rfl
theorem zfe : zb 1000000 zb5 = some zaK := by kernel_rfl
theorem zfd : zb 1000000 zb4 = some zaJ := by kernel_rfl
theorem zfc : zb 1000000 zb3 = some zaI := by kernel_rfl
theorem zfb : zb 1000000 zb2 = some zaH := by kernel_rfl
theorem zfa : zb 1000000 zb1 = some zaG := by kernel_rfl
theorem zeD : zQ 1000000 z9N = some z9D := by kernel_rfl
theorem zeC : zQ 1000000 z9M = some z9C := by kernel_rfl
theorem zeB : zQ 1000000 z9L = some z9B := by kernel_rfl
theorem zeA : zQ 1000000 z9K = some z9A := by kernel_rfl
theorem zez : zQ 1000000 z9J = some z9z := by kernel_rfl
theorem zey : zQ 1000000 z9I = some z9y := by kernel_rfl
theorem zex : zQ 1000000 z9H = some z9x := by kernel_rfl
end
end Go.Proofs.YthljpappkomocaaGreat
