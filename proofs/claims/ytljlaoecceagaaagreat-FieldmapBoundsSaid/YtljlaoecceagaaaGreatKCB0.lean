/- Results of two calls of zf.pair, by the kernel, one of them in parts. -/
import Derived.Test.YtljlaoecceagaaaGreatC0
import Derived.KernelRfl
set_option linter.all false
set_option maxRecDepth 1000000
set_option maxHeartbeats 0
namespace Go.Proofs.YtljlaoecceagaaaGreat
open Ev
noncomputable section
theorem tabM_same {f : List D → Option D} : ∀ {L : List (List D × D)}, (∀ e, e ∈ L → f e.1 = some e.2) → ∀ xs, tabM L f xs = f xs
  | [], _, xs => rfl
  | e :: L, h, xs => by
    show cnd (eqA xs e.1) (some e.2) (tabM L f xs) = f xs
    cases hq : eqA xs e.1 with
    | true =>
      have hx : xs = e.1 := eqLL_eq (eqN_eq 40) hq
      rw [cnd_true, hx]
      exact (h e (List.mem_cons_self ..)).symm
    | false =>
      rw [cnd_false]
      exact tabM_same (fun e' he => h e' (List.mem_cons_of_mem _ he)) xs
theorem ok_nil {f : List D → Option D} : ∀ e : List D × D, e ∈ [] → f e.1 = some e.2 := fun e h => by cases h
theorem ok_cons {f : List D → Option D} {L : List (List D × D)} {k : List D} {v : D} (h : f k = some v) (hL : ∀ e, e ∈ L → f e.1 = some e.2) : ∀ e, e ∈ (k, v) :: L → f e.1 = some e.2 := fun e he => by
  rcases List.mem_cons.1 he with rfl | he
  · exact h
  · exact hL e he
abbrev fM : List D → Option D := tabM B_zf_ring_mul (R_zf_ring_mul 1000000)
abbrev fD : List D → Option D := tabM B_zf_ring_divide (R_zf_ring_divide 1000000)
def pairF (φ : Nat) (fm fd : List D → Option D) : List D → Option D :=
 fun as =>
(fun (s : LS) =>
 u1 as fun a1 r81 =>
 u1 r81 fun a2 r82 =>
 u1 r82 fun a3 r83 =>
 u1 r83 fun a4 r84 =>
 u1 r84 fun a5 r85 =>
 u0 r85 (
 isoK (R_fp_Xgcd φ) [a2, a4, a5] s fun x6 s =>
 kExt x6 0 s fun x7 s =>
 kExt x6 1 s fun x8 s =>
 kExt x6 2 s fun x9 s =>
 isoK (R_zf_lifted φ) [a4] s fun x10 s =>
 isoK (R_zf_lifted φ) [a5] s fun x11 s =>
 isoK (R_zf_lifted φ) [x8] s fun x12 s =>
 isoK (R_zf_lifted φ) [x9] s fun x13 s =>
 isoK (R_exact_IntOf φ) [a2] s fun x14 s =>
 kAlloc [(.b false), (.n 0)] s fun x15 s =>
 kStore 2 s x15 x14 fun _ s =>
 lp (fun (_ _ _ _ _ _ _ _ : D) (_ : LS) => none) (fun (q16 : D → D → D → D → D → D → D → D → LS → Rs) (x17 x18 x19 x20 x21 x22 x23 x24 : D) (s : LS) =>
 kLss x24 x23 fun x25 =>
 kCond x25
(kLoadn 2 s x22 fun x26 s =>
 kLoadn 2 s x22 fun x27 s =>
 isoK intMulM [x26, x27] s fun x28 s =>
 kStore 2 s x22 x28 fun _ s =>
 kLoadn 2 s x22 fun x29 s =>
 kBuild [(.b false), (.n 0)] [(0, 2, x29)] s fun x30 s =>
 kAlloc [(.b false), (.n 0)] s fun x31 s =>
 kStore 2 s x31 x30 fun _ s =>
 kLoadn 2 s x31 fun x32 s =>
 kLoadn 2 s x31 fun x33 s =>
 isoK (R_zf_ring_reduce φ) [x33, x17] s fun x34 s =>
 kLoadn 2 s x31 fun x35 s =>
 isoK fm [x35, x18, x19] s fun x36 s =>
 isoK (R_zf_ring_combine φ) [x32, x34, x36, (.i .i64 (.negSucc 0))] s fun x37 s =>
 kLoadn 2 s x31 fun x38 s =>
 kLoadn 2 s x31 fun x39 s =>
 isoK fm [x39, x20, x37] s fun x40 s =>
 isoK fd [x38, x40, x19] s fun x41 s =>
 kExt x41 0 s fun x42 s =>
 kExt x41 1 s fun x43 s =>
 kLoadn 2 s x31 fun x44 s =>
 kLoadn 2 s x31 fun x45 s =>
 kLoadn 2 s x31 fun x46 s =>
 isoK fm [x46, x21, x37] s fun x47 s =>
 kLoadn 2 s x31 fun x48 s =>
 isoK fm [x48, x42, x18] s fun x49 s =>
 isoK (R_zf_ring_combine φ) [x45, x47, x49, (.i .i64 (.ofNat 1))] s fun x50 s =>
 isoK (R_zf_ring_combine φ) [x44, x18, x50, (.i .i64 (.ofNat 1))] s fun x51 s =>
 kLoadn 2 s x31 fun x52 s =>
 isoK (R_zf_ring_combine φ) [x52, x19, x43, (.i .i64 (.ofNat 1))] s fun x53 s =>
 kLoadn 2 s x31 fun x54 s =>
 kLoadn 2 s x31 fun x55 s =>
 kLoadn 2 s x31 fun x56 s =>
 isoK fm [x56, x20, x51] s fun x57 s =>
 kLoadn 2 s x31 fun x58 s =>
 isoK fm [x58, x21, x53] s fun x59 s =>
 isoK (R_zf_ring_combine φ) [x55, x57, x59, (.i .i64 (.ofNat 1))] s fun x60 s =>
 isoK (R_exact_IntOf φ) [(.i .i64 (.ofNat 1))] s fun x61 s =>
 kBsl 1 [(.b false), (.n 0)] [(0, 2, x61)] s fun x62 s =>
 isoK (R_zf_ring_combine φ) [x54, x60, x62, (.i .i64 (.negSucc 0))] s fun x63 s =>
 kLoadn 2 s x31 fun x64 s =>
 kLoadn 2 s x31 fun x65 s =>
 isoK fm [x65, x20, x63] s fun x66 s =>
 isoK fd [x64, x66, x53] s fun x67 s =>
 kExt x67 0 s fun x68 s =>
 kExt x67 1 s fun x69 s =>
 kLoadn 2 s x31 fun x70 s =>
 isoK (R_zf_ring_combine φ) [x70, x20, x69, (.i .i64 (.negSucc 0))] s fun x71 s =>
 kLoadn 2 s x31 fun x72 s =>
 kLoadn 2 s x31 fun x73 s =>
 kLoadn 2 s x31 fun x74 s =>
 isoK fm [x74, x21, x63] s fun x75 s =>
 kLoadn 2 s x31 fun x76 s =>
 isoK fm [x76, x68, x51] s fun x77 s =>
 isoK (R_zf_ring_combine φ) [x73, x75, x77, (.i .i64 (.ofNat 1))] s fun x78 s =>
 isoK (R_zf_ring_combine φ) [x72, x21, x78, (.i .i64 (.negSucc 0))] s fun x79 s =>
 kAdd x24 (.i .i64 (.ofNat 1)) fun x80 =>
 q16 x17 x51 x53 x71 x79 x22 x23 x80 s)
(retK false s (.tup [x18, x19]) some)) φ a1 x10 x11 x12 x13 x15 a3 (.i .i64 (.ofNat 0)) s)) s0
def km0 : List D := [(.agg [(.b false), (.n 4)]), (zi [0,1,0,1,0,1,0,1,0,1,0,1,0,1,0,1,0,1] true), (zi [0,2,2,2,2,2,2,2,2,2,2,2,2,2,2,2,2,2,2] false)]
def vm0 : D := (zi [0,0,2,2,0,0,2,2,0,0,2,2,0,0,2,2,0,0,2,2,0,0,2,2,0,0,2,2,0,0,2,2,0,0,2,2] false)
theorem pm0 : fM km0 = some vm0 := by kernel_rfl
def km1 : List D := [(.agg [(.b false), (.n 4)]), (zi [0,1,0,1,0,1,0,1,0,1,0,1,0,1,0,1,0,1] true), (zi [0,0,2,0,2,0,2,0,2,0,2,0,2,0,2,0,2,0,2] false)]
def vm1 : D := (zi [0,0,0,2,0,0,0,2,0,0,0,2,0,0,0,2,0,0,0,2,0,0,0,2,0,0,0,2,0,0,0,2,0,0,0,2] false)
theorem pm1 : fM km1 = some vm1 := by kernel_rfl
def km2 : List D := [(.agg [(.b false), (.n 16)]), (zi [2,1,0,3,2,1,0,3,2,1,0,3,2,1,0,3,2,1] false), (zi [12,12,12,12,12,12,12,12,12,12,12,12,12,12,12,12,12,12,12] false)]
def vm2 : D := (zi [8,4,4,8,0,12,12,0,8,4,4,8,0,12,12,0,8,4,4,12,0,0,12,4,8,8,4,12,0,0,12,4,8,8,4,12] false)
theorem pm2 : fM km2 = some vm2 := by kernel_rfl
def km3 : List D := [(.agg [(.b false), (.n 16)]), (zi [2,1,0,3,2,1,0,3,2,1,0,3,2,1,0,3,2,1] false), (zi [4,8,4,8,8,8,4,8,8,8,4,8,8,8,4,8,8,8,4] false)]
def vm3 : D := (zi [8,4,0,0,8,8,8,12,8,12,0,8,8,0,8,4,8,4,0,4,0,0,8,8,0,12,0,12,0,8,8,0,0,4,0,4] false)
theorem pm3 : fM km3 = some vm3 := by kernel_rfl
def Lm : List (List D × D) := [(km0, vm0), (km1, vm1), (km2, vm2), (km3, vm3)]
theorem okm : ∀ e, e ∈ Lm → fM e.1 = some e.2 := ok_cons pm0 (ok_cons pm1 (ok_cons pm2 (ok_cons pm3 (ok_nil))))
def kd0 : List D := [(.agg [(.b false), (.n 4)]), (zi [0,0,2,2,0,0,2,2,0,0,2,2,0,0,2,2,0,0,2,2,0,0,2,2,0,0,2,2,0,0,2,2,0,0,2,2] false), (zi [1,1,1,1,1,1,1,1,1,1,1,1,1,1,1,1,1,1,1] true)]
def vd0 : D := (.tup [(zi [0,2,0,2,0,2,0,2,0,2,0,2,0,2,0,2,0,2] false), (zi [0,2,0,2,0,2,0,2,0,2,0,2,0,2,0,2,0,2] false)])
theorem pd0 : fD kd0 = some vd0 := by kernel_rfl
def kd1 : List D := [(.agg [(.b false), (.n 4)]), (zi [0,0,0,2,0,0,0,2,0,0,0,2,0,0,0,2,0,0,0,2,0,0,0,2,0,0,0,2,0,0,0,2,0,0,0,2] false), (zi [1,3,1,3,1,3,1,3,1,3,1,3,1,3,1,3,1,3,1] false)]
def vd1 : D := (.tup [(zi [2,2,0,0,2,2,0,0,2,2,0,0,2,2,0,0,2,2] false), (zi [2,0,0,2,2,0,0,2,2,0,0,2,2,0,0,2,2] false)])
theorem pd1 : fD kd1 = some vd1 := by kernel_rfl
def kd2 : List D := [(.agg [(.b false), (.n 16)]), (zi [8,4,4,8,0,12,12,0,8,4,4,8,0,12,12,0,8,4,4,12,0,0,12,4,8,8,4,12,0,0,12,4,8,8,4,12] false), (zi [1,3,1,3,1,3,1,3,1,3,1,3,1,3,1,3,1,3,1] false)]
def vd2 : D := (.tup [(zi [0,12,0,12,0,12,0,12,0,12,0,12,0,12,0,12,0,12] false), (zi [8,8,0,0,8,8,0,0,8,8,0,0,8,8,0,0,8,8] false)])
theorem pd2 : fD kd2 = some vd2 := by kernel_rfl
def kd3 : List D := [(.agg [(.b false), (.n 16)]), (zi [8,4,0,0,8,8,8,12,8,12,0,8,8,0,8,4,8,4,0,4,0,0,8,8,0,12,0,12,0,8,8,0,0,4,0,4] false), (zi [9,11,1,3,9,11,1,3,9,11,1,3,9,11,1,3,9,11,1] false)]
def vd3 : D := (.tup [(zi [4,4,0,8,0,8,12,12,12,12,8,0,8,0,4,4,4,4] false), (zi [4,4,0,8,0,8,12,12,12,12,8,0,8,0,4,4,4,4] false)])
theorem pd3 : fD kd3 = some vd3 := by kernel_rfl
def Ld : List (List D × D) := [(kd0, vd0), (kd1, vd1), (kd2, vd2), (kd3, vd3)]
theorem okd : ∀ e, e ∈ Ld → fD e.1 = some e.2 := ok_cons pd0 (ok_cons pd1 (ok_cons pd2 (ok_cons pd3 (ok_nil))))
theorem pair_eq : R_zf_pair 1000000 = pairF 1000000 fM fD := rfl
theorem pair4 : pairF 1000000 (tabM Lm fM) (tabM Ld fD) k_zf_pair_4 = some v_zf_pair_4 := by kernel_rfl
theorem same4 : pairF 1000000 (tabM Lm fM) (tabM Ld fD) = pairF 1000000 fM fD := by
  have e1 : tabM Lm fM = fM := funext (tabM_same okm)
  have e2 : tabM Ld fD = fD := funext (tabM_same okd)
  rw [e1, e2]
theorem K_zf_pair_4 : R_zf_pair 1000000 k_zf_pair_4 = some v_zf_pair_4 := (congrFun (pair_eq.trans same4.symm) _).trans pair4
theorem K_zf_pair_5 : R_zf_pair 1000000 k_zf_pair_5 = some v_zf_pair_5 := by kernel_rfl
end
end Go.Proofs.YtljlaoecceagaaaGreat
