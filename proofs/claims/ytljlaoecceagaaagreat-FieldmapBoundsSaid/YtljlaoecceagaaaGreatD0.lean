/- Residuals of functions, printed by a program. -/
import Derived.Test.YtljlaoecceagaaaGreatC0
set_option linter.all false
set_option linter.unusedVariables false
set_option maxRecDepth 1000000
set_option maxHeartbeats 0
namespace Go.Proofs.YtljlaoecceagaaaGreat
open Ev
noncomputable section
def R_numberfield_Check (φ : Nat) : List D → Option D :=
fun as =>
(fun (s : LS) =>
 u1 as fun a1 r13 =>
 u0 r13 (
 kBox a1 s fun x2 s =>
 kLoadn 1 s x2 fun x3 s =>
 isoK (R_numberfield_Form φ) [x3] s fun x4 s =>
 kNeq x4 (.i .i64 (.ofNat 0)) fun x5 =>
 kCond x5
(retK false s x4 some)
(kFaddr 0 s x2 fun x6 s =>
 kLoad1 s x6 fun x7 s =>
 isoK (R_zfactor_IsIrreducible φ) [x7] s fun x8 s =>
 kExt x8 0 s fun x9 s =>
 kExt x8 1 s fun x10 s =>
 kNeq x10 (.i .i64 (.ofNat 0)) fun x11 =>
 kCond x11
(retK false s x10 some)
(kNot x9 s fun x12 s =>
 kCond x12
(retK false s (.i .i64 (.ofNat 8)) some)
(retK false s (.i .i64 (.ofNat 0)) some))))) s0
def k_numberfield_Check_0 : List D := [(.agg [(qi [(true,2),(false,0),(false,1)] false)])]
def v_numberfield_Check_0 : D := (.i .i64 (.ofNat 0))
def k_numberfield_Check_1 : List D := [(.agg [(qi [(true,2),(false,0),(false,0),(false,1)] false)])]
def v_numberfield_Check_1 : D := (.i .i64 (.ofNat 0))
def k_numberfield_Check_2 : List D := [(.agg [(qi [(true,2),(false,0),(false,0),(false,0),(false,1)] false)])]
def v_numberfield_Check_2 : D := (.i .i64 (.ofNat 0))
def k_numberfield_Check_3 : List D := [(.agg [(qi [(true,2),(false,0),(false,0),(false,0),(false,0),(false,1)] false)])]
def v_numberfield_Check_3 : D := (.i .i64 (.ofNat 0))
def k_numberfield_Check_4 : List D := [(.agg [(qi [(true,2),(false,0),(false,0),(false,0),(false,0),(false,0),(false,1)] false)])]
def v_numberfield_Check_4 : D := (.i .i64 (.ofNat 0))
def k_numberfield_Check_5 : List D := [(.agg [(qi [(true,2),(false,0),(false,0),(false,0),(false,0),(false,0),(false,0),(false,1)] false)])]
def v_numberfield_Check_5 : D := (.i .i64 (.ofNat 0))
def k_numberfield_Check_6 : List D := [(.agg [(qi [(true,2),(false,0),(false,0),(false,0),(false,0),(false,0),(false,0),(false,0),(false,1)] false)])]
def v_numberfield_Check_6 : D := (.i .i64 (.ofNat 0))
def k_numberfield_Check_7 : List D := [(.agg [(qi [(true,2),(false,0),(false,0),(false,0),(false,0),(false,0),(false,0),(false,0),(false,0),(false,1)] false)])]
def v_numberfield_Check_7 : D := (.i .i64 (.ofNat 0))
def k_numberfield_Check_8 : List D := [(.agg [(qi [(true,2),(false,0),(false,0),(false,0),(false,0),(false,0),(false,0),(false,0),(false,0),(false,0),(false,1)] false)])]
def v_numberfield_Check_8 : D := (.i .i64 (.ofNat 0))
def k_numberfield_Check_9 : List D := [(.agg [(qi [(true,2),(false,0),(false,0),(false,0),(false,0),(false,0),(false,0),(false,0),(false,0),(false,0),(false,0),(false,1)] false)])]
def v_numberfield_Check_9 : D := (.i .i64 (.ofNat 0))
def k_numberfield_Check_10 : List D := [(.agg [(qi [(true,2),(false,0),(false,0),(false,0),(false,0),(false,0),(false,0),(false,0),(false,0),(false,0),(false,0),(false,0),(false,1)] false)])]
def v_numberfield_Check_10 : D := (.i .i64 (.ofNat 0))
def k_numberfield_Check_11 : List D := [(.agg [(qi [(true,2),(false,0),(false,0),(false,0),(false,0),(false,0),(false,0),(false,0),(false,0),(false,0),(false,0),(false,0),(false,0),(false,1)] false)])]
def v_numberfield_Check_11 : D := (.i .i64 (.ofNat 0))
def k_numberfield_Check_12 : List D := [(.agg [(qi [(true,2),(false,0),(false,0),(false,0),(false,0),(false,0),(false,0),(false,0),(false,0),(false,0),(false,0),(false,0),(false,0),(false,0),(false,1)] false)])]
def v_numberfield_Check_12 : D := (.i .i64 (.ofNat 0))
def k_numberfield_Check_13 : List D := [(.agg [(qi [(true,2),(false,0),(false,0),(false,0),(false,0),(false,0),(false,0),(false,0),(false,0),(false,0),(false,0),(false,0),(false,0),(false,0),(false,0),(false,1)] false)])]
def v_numberfield_Check_13 : D := (.i .i64 (.ofNat 0))
def k_numberfield_Check_14 : List D := [(.agg [(qi [(true,2),(false,0),(false,0),(false,0),(false,0),(false,0),(false,0),(false,0),(false,0),(false,0),(false,0),(false,0),(false,0),(false,0),(false,0),(false,0),(false,1)] false)])]
def v_numberfield_Check_14 : D := (.i .i64 (.ofNat 0))
def k_numberfield_Check_15 : List D := [(.agg [(qi [(true,2),(false,0),(false,0),(false,0),(false,0),(false,0),(false,0),(false,0),(false,0),(false,0),(false,0),(false,0),(false,0),(false,0),(false,0),(false,0),(false,0),(false,1)] false)])]
def v_numberfield_Check_15 : D := (.i .i64 (.ofNat 0))
def k_numberfield_Check_16 : List D := [(.agg [(qi [(true,2),(false,0),(false,0),(false,0),(false,0),(false,0),(false,0),(false,0),(false,0),(false,0),(false,0),(false,0),(false,0),(false,0),(false,0),(false,0),(false,0),(false,0),(false,1)] false)])]
def v_numberfield_Check_16 : D := (.i .i64 (.ofNat 0))
def k_numberfield_Check_17 : List D := [(.agg [(qi [(true,2),(false,0),(false,0),(false,0),(false,0),(false,0),(false,0),(false,0),(false,0),(false,0),(false,0),(false,0),(false,0),(false,0),(false,0),(false,0),(false,0),(false,0),(false,0),(false,1)] false)])]
def v_numberfield_Check_17 : D := (.i .i64 (.ofNat 0))
def k_numberfield_Check_18 : List D := [(.agg [(qi [(true,2),(false,0),(false,0),(false,0),(false,0),(false,0),(false,0),(false,0),(false,0),(false,0),(false,0),(false,0),(false,0),(false,0),(false,0),(false,0),(false,0),(false,0),(false,0),(false,0),(false,1)] false)])]
def v_numberfield_Check_18 : D := (.i .i64 (.ofNat 0))
def k_numberfield_Check_19 : List D := [(.agg [(qi [(true,2),(false,0),(false,0),(false,0),(false,0),(false,0),(false,0),(false,0),(false,0),(false,0),(false,0),(false,0),(false,0),(false,0),(false,0),(false,0),(false,0),(false,0),(false,0),(false,0),(false,0),(false,1)] false)])]
def v_numberfield_Check_19 : D := (.i .i64 (.ofNat 0))
def k_numberfield_Check_20 : List D := [(.agg [(qi [(true,2),(false,0),(false,0),(false,0),(false,0),(false,0),(false,0),(false,0),(false,0),(false,0),(false,0),(false,0),(false,0),(false,0),(false,0),(false,0),(false,0),(false,0),(false,0),(false,0),(false,0),(false,0),(false,1)] false)])]
def v_numberfield_Check_20 : D := (.i .i64 (.ofNat 0))
def k_numberfield_Check_21 : List D := [(.agg [(qi [(true,2),(false,0),(false,0),(false,0),(false,0),(false,0),(false,0),(false,0),(false,0),(false,0),(false,0),(false,0),(false,0),(false,0),(false,0),(false,0),(false,0),(false,0),(false,0),(false,0),(false,0),(false,0),(false,0),(false,1)] false)])]
def v_numberfield_Check_21 : D := (.i .i64 (.ofNat 0))
def k_numberfield_Check_22 : List D := [(.agg [(qi [(true,2),(false,0),(false,0),(false,0),(false,0),(false,0),(false,0),(false,0),(false,0),(false,0),(false,0),(false,0),(false,0),(false,0),(false,0),(false,0),(false,0),(false,0),(false,0),(false,0),(false,0),(false,0),(false,0),(false,0),(false,1)] false)])]
def v_numberfield_Check_22 : D := (.i .i64 (.ofNat 0))
def k_numberfield_Check_23 : List D := [(.agg [(qi [(false,1),(false,0),(false,1)] false)])]
def v_numberfield_Check_23 : D := (.i .i64 (.ofNat 0))
def k_numberfield_Check_24 : List D := [(.agg [(qi [(true,1),(true,3),(false,0),(false,1)] false)])]
def v_numberfield_Check_24 : D := (.i .i64 (.ofNat 0))
def k_numberfield_Check_25 : List D := [(.agg [(qi [(true,3),(false,0),(false,0),(false,1)] false)])]
def v_numberfield_Check_25 : D := (.i .i64 (.ofNat 0))
def k_numberfield_Check_26 : List D := [(.agg [(qi [(true,3),(false,0),(false,0),(false,0),(false,1)] false)])]
def v_numberfield_Check_26 : D := (.i .i64 (.ofNat 0))
def k_numberfield_Check_27 : List D := [(.agg [(qi [(true,3),(false,0),(false,0),(false,0),(false,0),(false,1)] false)])]
def v_numberfield_Check_27 : D := (.i .i64 (.ofNat 0))
def k_numberfield_Check_28 : List D := [(.agg [(qi [(true,3),(false,0),(false,0),(false,0),(false,0),(false,0),(false,1)] false)])]
def v_numberfield_Check_28 : D := (.i .i64 (.ofNat 0))
def k_numberfield_Check_29 : List D := [(.agg [(qi [(true,3),(false,0),(false,0),(false,0),(false,0),(false,0),(false,0),(false,1)] false)])]
def v_numberfield_Check_29 : D := (.i .i64 (.ofNat 0))
def k_numberfield_Check_30 : List D := [(.agg [(qi [(true,3),(false,0),(false,0),(false,0),(false,0),(false,0),(false,0),(false,0),(false,1)] false)])]
def v_numberfield_Check_30 : D := (.i .i64 (.ofNat 0))
def k_numberfield_Check_31 : List D := [(.agg [(qi [(true,3),(false,0),(false,0),(false,0),(false,0),(false,0),(false,0),(false,0),(false,0),(false,1)] false)])]
def v_numberfield_Check_31 : D := (.i .i64 (.ofNat 0))
def k_numberfield_Check_32 : List D := [(.agg [(qi [(true,3),(false,0),(false,0),(false,0),(false,0),(false,0),(false,0),(false,0),(false,0),(false,0),(false,1)] false)])]
def v_numberfield_Check_32 : D := (.i .i64 (.ofNat 0))
def k_numberfield_Check_33 : List D := [(.agg [(qi [(true,3),(false,0),(false,0),(false,0),(false,0),(false,0),(false,0),(false,0),(false,0),(false,0),(false,0),(false,1)] false)])]
def v_numberfield_Check_33 : D := (.i .i64 (.ofNat 0))
def k_numberfield_Check_34 : List D := [(.agg [(qi [(true,3),(false,0),(false,0),(false,0),(false,0),(false,0),(false,0),(false,0),(false,0),(false,0),(false,0),(false,0),(false,1)] false)])]
def v_numberfield_Check_34 : D := (.i .i64 (.ofNat 0))
def k_numberfield_Check_35 : List D := [(.agg [(qi [(true,3),(false,0),(false,0),(false,0),(false,0),(false,0),(false,0),(false,0),(false,0),(false,0),(false,0),(false,0),(false,0),(false,1)] false)])]
def v_numberfield_Check_35 : D := (.i .i64 (.ofNat 0))
def k_numberfield_Check_36 : List D := [(.agg [(qi [(true,3),(false,0),(false,0),(false,0),(false,0),(false,0),(false,0),(false,0),(false,0),(false,0),(false,0),(false,0),(false,0),(false,0),(false,1)] false)])]
def v_numberfield_Check_36 : D := (.i .i64 (.ofNat 0))
def k_numberfield_Check_37 : List D := [(.agg [(qi [(true,3),(false,0),(false,0),(false,0),(false,0),(false,0),(false,0),(false,0),(false,0),(false,0),(false,0),(false,0),(false,0),(false,0),(false,0),(false,1)] false)])]
def v_numberfield_Check_37 : D := (.i .i64 (.ofNat 0))
def k_numberfield_Check_38 : List D := [(.agg [(qi [(true,3),(false,0),(false,0),(false,0),(false,0),(false,0),(false,0),(false,0),(false,0),(false,0),(false,0),(false,0),(false,0),(false,0),(false,0),(false,0),(false,1)] false)])]
def v_numberfield_Check_38 : D := (.i .i64 (.ofNat 0))
def k_numberfield_Check_39 : List D := [(.agg [(qi [(true,3),(false,0),(false,0),(false,0),(false,0),(false,0),(false,0),(false,0),(false,0),(false,0),(false,0),(false,0),(false,0),(false,0),(false,0),(false,0),(false,0),(false,1)] false)])]
def v_numberfield_Check_39 : D := (.i .i64 (.ofNat 0))
def k_numberfield_Check_40 : List D := [(.agg [(qi [(true,3),(false,0),(false,0),(false,0),(false,0),(false,0),(false,0),(false,0),(false,0),(false,0),(false,0),(false,0),(false,0),(false,0),(false,0),(false,0),(false,0),(false,0),(false,1)] false)])]
def v_numberfield_Check_40 : D := (.i .i64 (.ofNat 0))
def k_numberfield_Check_41 : List D := [(.agg [(qi [(true,3),(false,0),(false,0),(false,0),(false,0),(false,0),(false,0),(false,0),(false,0),(false,0),(false,0),(false,0),(false,0),(false,0),(false,0),(false,0),(false,0),(false,0),(false,0),(false,1)] false)])]
def v_numberfield_Check_41 : D := (.i .i64 (.ofNat 0))
def k_numberfield_Check_42 : List D := [(.agg [(qi [(true,3),(false,0),(false,0),(false,0),(false,0),(false,0),(false,0),(false,0),(false,0),(false,0),(false,0),(false,0),(false,0),(false,0),(false,0),(false,0),(false,0),(false,0),(false,0),(false,0),(false,1)] false)])]
def v_numberfield_Check_42 : D := (.i .i64 (.ofNat 0))
def k_numberfield_Check_43 : List D := [(.agg [(qi [(true,3),(false,0),(false,0),(false,0),(false,0),(false,0),(false,0),(false,0),(false,0),(false,0),(false,0),(false,0),(false,0),(false,0),(false,0),(false,0),(false,0),(false,0),(false,0),(false,0),(false,0),(false,1)] false)])]
def v_numberfield_Check_43 : D := (.i .i64 (.ofNat 0))
def k_numberfield_Check_44 : List D := [(.agg [(qi [(true,3),(false,0),(false,0),(false,0),(false,0),(false,0),(false,0),(false,0),(false,0),(false,0),(false,0),(false,0),(false,0),(false,0),(false,0),(false,0),(false,0),(false,0),(false,0),(false,0),(false,0),(false,0),(false,1)] false)])]
def v_numberfield_Check_44 : D := (.i .i64 (.ofNat 0))
def k_numberfield_Check_45 : List D := [(.agg [(qi [(true,3),(false,0),(false,0),(false,0),(false,0),(false,0),(false,0),(false,0),(false,0),(false,0),(false,0),(false,0),(false,0),(false,0),(false,0),(false,0),(false,0),(false,0),(false,0),(false,0),(false,0),(false,0),(false,0),(false,1)] false)])]
def v_numberfield_Check_45 : D := (.i .i64 (.ofNat 0))
def k_numberfield_Check_46 : List D := [(.agg [(qi [(true,3),(false,0),(false,0),(false,0),(false,0),(false,0),(false,0),(false,0),(false,0),(false,0),(false,0),(false,0),(false,0),(false,0),(false,0),(false,0),(false,0),(false,0),(false,0),(false,0),(false,0),(false,0),(false,0),(false,0),(false,1)] false)])]
def v_numberfield_Check_46 : D := (.i .i64 (.ofNat 0))
def B_numberfield_Check : List (List D × D) := [(k_numberfield_Check_0, v_numberfield_Check_0), (k_numberfield_Check_1, v_numberfield_Check_1), (k_numberfield_Check_2, v_numberfield_Check_2), (k_numberfield_Check_3, v_numberfield_Check_3), (k_numberfield_Check_4, v_numberfield_Check_4), (k_numberfield_Check_5, v_numberfield_Check_5), (k_numberfield_Check_6, v_numberfield_Check_6), (k_numberfield_Check_7, v_numberfield_Check_7), (k_numberfield_Check_8, v_numberfield_Check_8), (k_numberfield_Check_9, v_numberfield_Check_9), (k_numberfield_Check_10, v_numberfield_Check_10), (k_numberfield_Check_11, v_numberfield_Check_11), (k_numberfield_Check_12, v_numberfield_Check_12), (k_numberfield_Check_13, v_numberfield_Check_13), (k_numberfield_Check_14, v_numberfield_Check_14), (k_numberfield_Check_15, v_numberfield_Check_15), (k_numberfield_Check_16, v_numberfield_Check_16), (k_numberfield_Check_17, v_numberfield_Check_17), (k_numberfield_Check_18, v_numberfield_Check_18), (k_numberfield_Check_19, v_numberfield_Check_19), (k_numberfield_Check_20, v_numberfield_Check_20), (k_numberfield_Check_21, v_numberfield_Check_21), (k_numberfield_Check_22, v_numberfield_Check_22), (k_numberfield_Check_23, v_numberfield_Check_23), (k_numberfield_Check_24, v_numberfield_Check_24), (k_numberfield_Check_25, v_numberfield_Check_25), (k_numberfield_Check_26, v_numberfield_Check_26), (k_numberfield_Check_27, v_numberfield_Check_27), (k_numberfield_Check_28, v_numberfield_Check_28), (k_numberfield_Check_29, v_numberfield_Check_29), (k_numberfield_Check_30, v_numberfield_Check_30), (k_numberfield_Check_31, v_numberfield_Check_31), (k_numberfield_Check_32, v_numberfield_Check_32), (k_numberfield_Check_33, v_numberfield_Check_33), (k_numberfield_Check_34, v_numberfield_Check_34), (k_numberfield_Check_35, v_numberfield_Check_35), (k_numberfield_Check_36, v_numberfield_Check_36), (k_numberfield_Check_37, v_numberfield_Check_37), (k_numberfield_Check_38, v_numberfield_Check_38), (k_numberfield_Check_39, v_numberfield_Check_39), (k_numberfield_Check_40, v_numberfield_Check_40), (k_numberfield_Check_41, v_numberfield_Check_41), (k_numberfield_Check_42, v_numberfield_Check_42), (k_numberfield_Check_43, v_numberfield_Check_43), (k_numberfield_Check_44, v_numberfield_Check_44), (k_numberfield_Check_45, v_numberfield_Check_45), (k_numberfield_Check_46, v_numberfield_Check_46)]
def T157 (φ : Nat) : FTab := setT (T156 φ) 156 (.iso (tabM B_numberfield_Check (R_numberfield_Check φ)))
def TD157 (φ : Nat) : FTab := TD156 φ
def R_fieldfactor_check (φ : Nat) : List D → Option D :=
fun as =>
(fun (s : LS) =>
 u1 as fun a1 r17 =>
 u1 r17 fun a2 r18 =>
 u1 r18 fun a3 r19 =>
 u0 r19 (
 kBox a1 s fun x4 s =>
 kLoadn 1 s x4 fun x5 s =>
 isoK (tabM B_numberfield_Check (R_numberfield_Check φ)) [x5] s fun x6 s =>
 kNeq x6 (.i .i64 (.ofNat 0)) fun x7 =>
 kCond x7
(retK false s x6 some)
(kNeq a2 (.i .i64 (.ofNat 0)) fun x8 =>
 kCond x8
(retK false s a2 some)
(kEql a3 (.i .i64 (.ofNat 0)) fun x9 =>
 kCond x9
(retK false s (.i .i64 (.ofNat 6)) some)
(kFaddr 0 s x4 fun x10 s =>
 kLoad1 s x10 fun x11 s =>
 kLen x11 s fun x12 s =>
 kSub x12 (.i .i64 (.ofNat 1)) fun x13 =>
 kSub a3 (.i .i64 (.ofNat 1)) fun x14 =>
 kMul x13 x14 fun x15 =>
 kGtr x15 (.i .i64 (.ofNat 64)) fun x16 =>
 kCond x16
(retK false s (.i .i64 (.ofNat 4)) some)
(retK false s (.i .i64 (.ofNat 0)) some)))))) s0
def T158 (φ : Nat) : FTab := setT (T157 φ) 157 (.iso (R_fieldfactor_check φ))
def TD158 (φ : Nat) : FTab := TD157 φ
def R_ff_fieldOf (φ : Nat) : List D → Option D :=
fun as =>
(fun (s : LS) =>
 u1 as fun a1 r12 =>
 u0 r12 (
 kBox a1 s fun x2 s =>
 kAlloc [(.tree [] 0 true), (.i .i64 (.ofNat 0))] s fun x3 s =>
 kFaddr 0 s x2 fun x4 s =>
 kLoad1 s x4 fun x5 s =>
 kFaddr 0 s x2 fun x6 s =>
 kLoad1 s x6 fun x7 s =>
 kLen x7 s fun x8 s =>
 kSub x8 (.i .i64 (.ofNat 1)) fun x9 =>
 kBuild [(.tree [] 0 true), (.i .i64 (.ofNat 0))] [(0, 1, x5), (1, 1, x9)] s fun x10 s =>
 kStore 2 s x3 x10 fun _ s =>
 kLoadn 2 s x3 fun x11 _ =>
 retK false s x11 some)) s0
def T159 (φ : Nat) : FTab := setT (T158 φ) 158 (.iso (R_ff_fieldOf φ))
def TD159 (φ : Nat) : FTab := TD158 φ
def R_exact_PAdd (φ : Nat) : List D → Option D :=
fun as =>
(fun (s : LS) =>
 u1 as fun a1 r21 =>
 u1 r21 fun a2 r22 =>
 u0 r22 (
 kLen a1 s fun x3 s =>
 kLen a2 s fun x4 s =>
 kS (.max (.c x3) (.c x4)) s fun x5 s =>
 kMksl 3 40 [(.b false), (.n 0), (.n 0)] s x5 x5 fun x6 s =>
 kLen x6 s fun x7 s =>
 lp (fun (_ _ _ _ _ : D) (_ : LS) => none) (fun (q8 : D → D → D → D → D → LS → Rs) (x9 x10 x11 x12 x13 : D) (s : LS) =>
 kLss x13 x12 fun x14 =>
 kCond x14
(isoK (R_exact_PCoef φ) [x9, x13] s fun x15 s =>
 isoK (R_exact_PCoef φ) [x10, x13] s fun x16 s =>
 isoK (R_exact_Add φ) [x15, x16] s fun x17 s =>
 kIaddr 3 s x11 x13 fun x18 s =>
 kStore 3 s x18 x17 fun _ s =>
 kAdd x13 (.i .i64 (.ofNat 1)) fun x19 =>
 q8 x9 x10 x11 x12 x19 s)
(isoK (R_exact_PTrim φ) [x11] s fun x20 s =>
 retK false s x20 some)) φ a1 a2 x6 x7 (.i .i64 (.ofNat 0)) s)) s0
def T160 (φ : Nat) : FTab := setT (T159 φ) 159 (.iso (R_exact_PAdd φ))
def TD160 (φ : Nat) : FTab := cnd true (setT (TD159 φ) 159 (.iso (R_exact_PAdd φ))) (TD159 φ)
def R_exact_PMul (φ : Nat) : List D → Option D :=
fun as =>
(fun (s : LS) =>
 u1 as fun a1 r72 =>
 u1 r72 fun a2 r73 =>
 u0 r73 (
 kLen a1 s fun x3 s =>
 kEql x3 (.i .i64 (.ofNat 0)) fun x4 =>
 kGuard x4 false (fun k => k a2 s) s fun x5 s =>
 kGuard x4 false (fun k => kLen x5 s k) s fun x6 s =>
 kGuard x4 false (fun k => kEql x6 (.i .i64 (.ofNat 0)) fun d => k d s) s fun x7 s =>
 kPick x4 (.b true) x7 s fun x8 s =>
 kCond x8
(retK false s (.tree [] 0 true) some)
(kLen a1 s fun x9 s =>
 kLen a2 s fun x10 s =>
 kAdd x9 x10 fun x11 =>
 kSub x11 (.i .i64 (.ofNat 1)) fun x12 =>
 kMksl 3 40 [(.b false), (.n 0), (.n 0)] s x12 x12 fun x13 s =>
 kLen x13 s fun x14 s =>
 lp (fun (_ _ _ _ _ : D) (_ : LS) => none) (fun (q15 : D → D → D → D → D → LS → Rs) (x16 x17 x18 x19 x20 : D) (s : LS) =>
 kLss x20 x19 fun x21 =>
 kCond x21
(isoK (R_exact_Int φ) [(.i .i64 (.ofNat 0))] s fun x22 s =>
 kIaddr 3 s x18 x20 fun x23 s =>
 kStore 3 s x23 x22 fun _ s =>
 kAdd x20 (.i .i64 (.ofNat 1)) fun x24 =>
 q15 x16 x17 x18 x19 x24 s)
(kLen x16 s fun x25 s =>
 lp (fun (_ _ _ _ _ : D) (_ : LS) => none) (fun (q26 : D → D → D → D → D → LS → Rs) (x27 x28 x29 x30 x31 : D) (s : LS) =>
 kLss x31 x30 fun x32 =>
 kCond x32
(jn (fun (x34 x35 x36 x37 x38 : D) (s : LS) =>
 kAdd x38 (.i .i64 (.ofNat 1)) fun x39 =>
 q26 x34 x35 x36 x37 x39 s) fun j33 =>
 kIaddr 3 s x29 x31 fun x40 s =>
 kLoadn 3 s x40 fun x41 s =>
 kAlloc [(.b false), (.n 0), (.n 0)] s fun x42 s =>
 kStore 3 s x42 x41 fun _ s =>
 kLoadn 3 s x42 fun x43 s =>
 isoK (R_exact_IsZero φ) [x43] s fun x44 s =>
 kCond x44
(j33 x27 x28 x29 x30 x31 s)
(kLen x27 s fun x45 s =>
 lp (fun (_ _ _ _ _ _ _ _ _ _ : D) (_ : LS) => none) (fun (q46 : D → D → D → D → D → D → D → D → D → D → LS → Rs) (x47 x48 x49 x50 x51 x52 x53 x54 x55 x56 : D) (s : LS) =>
 kLss x56 x55 fun x57 =>
 kCond x57
(kIaddr 3 s x54 x56 fun x58 s =>
 kLoadn 3 s x58 fun x59 s =>
 kAlloc [(.b false), (.n 0), (.n 0)] s fun x60 s =>
 kStore 3 s x60 x59 fun _ s =>
 kAdd x49 x56 fun x61 =>
 kAdd x49 x56 fun x62 =>
 kIaddr 3 s x48 x62 fun x63 s =>
 kLoadn 3 s x63 fun x64 s =>
 kLoadn 3 s x50 fun x65 s =>
 kLoadn 3 s x60 fun x66 s =>
 isoK (R_exact_Mul φ) [x65, x66] s fun x67 s =>
 isoK (R_exact_Add φ) [x64, x67] s fun x68 s =>
 kIaddr 3 s x48 x61 fun x69 s =>
 kStore 3 s x69 x68 fun _ s =>
 kAdd x56 (.i .i64 (.ofNat 1)) fun x70 =>
 q46 x47 x48 x49 x50 x51 x52 x53 x54 x55 x70 s)
(j33 x47 x48 x51 x52 x53 s)) φ x27 x28 x31 x42 x29 x30 x31 x27 x45 (.i .i64 (.ofNat 0)) s))
(isoK (R_exact_PTrim φ) [x28] s fun x71 s =>
 retK false s x71 some)) φ x17 x18 x16 x25 (.i .i64 (.ofNat 0)) s)) φ a1 a2 x13 x14 (.i .i64 (.ofNat 0)) s))) s0
def T161 (φ : Nat) : FTab := setT (T160 φ) 160 (.iso (R_exact_PMul φ))
def TD161 (φ : Nat) : FTab := TD160 φ
def R_ff_trim (φ : Nat) : List D → Option D :=
fun as =>
(fun (s : LS) =>
 u1 as fun a1 r18 =>
 u0 r18 (
 lp (fun (_ : D) (_ : LS) => none) (fun (q2 : D → LS → Rs) (x3 : D) (s : LS) =>
 kLen x3 s fun x4 s =>
 kGtr x4 (.i .i64 (.ofNat 0)) fun x5 =>
 kGuard x5 true (fun k => k x3 s) s fun x6 s =>
 kGuard x5 true (fun k => k x3 s) s fun x7 s =>
 kGuard x5 true (fun k => kLen x7 s k) s fun x8 s =>
 kGuard x5 true (fun k => kSub x8 (.i .i64 (.ofNat 1)) fun d => k d s) s fun x9 s =>
 kGuard x5 true (fun k => kIaddr 1 s x6 x9 k) s fun x10 s =>
 kGuard x5 true (fun k => kLoad1 s x10 k) s fun x11 s =>
 kGuard x5 true (fun k => kLen x11 s k) s fun x12 s =>
 kGuard x5 true (fun k => kEql x12 (.i .i64 (.ofNat 0)) fun d => k d s) s fun x13 s =>
 kPick x5 x13 (.b false) s fun x14 s =>
 kCond x14
(kLen x3 s fun x15 s =>
 kSub x15 (.i .i64 (.ofNat 1)) fun x16 =>
 kSlice 1 s x3 none (some x16) none fun x17 s =>
 q2 x17 s)
(retK false s x3 some)) φ a1 s)) s0
def T162 (φ : Nat) : FTab := setT (T161 φ) 161 (.iso (R_ff_trim φ))
def TD162 (φ : Nat) : FTab := TD161 φ
def R_ff_field_reduce (φ : Nat) : List D → Option D :=
fun as =>
(fun (s : LS) =>
 u1 as fun a1 r13 =>
 u1 r13 fun a2 r14 =>
 u0 r14 (
 kBox a1 s fun x3 s =>
 kLen a2 s fun x4 s =>
 kFaddr 1 s x3 fun x5 s =>
 kLoad1 s x5 fun x6 s =>
 kLeq x4 x6 fun x7 =>
 kCond x7
(retK false s a2 some)
(kFaddr 0 s x3 fun x8 s =>
 kLoad1 s x8 fun x9 s =>
 isoK (R_exact_PDivMod φ) [a2, x9] s fun x10 s =>
 kExt x10 0 s fun x11 s =>
 kExt x10 1 s fun x12 s =>
 retK false s x12 some))) s0
def T163 (φ : Nat) : FTab := setT (T162 φ) 162 (.iso (R_ff_field_reduce φ))
def TD163 (φ : Nat) : FTab := TD162 φ
def R_ff_field_product (φ : Nat) : List D → Option D :=
fun as =>
(fun (s : LS) =>
 u1 as fun a1 r67 =>
 u1 r67 fun a2 r68 =>
 u1 r68 fun a3 r69 =>
 u0 r69 (
 kBox a1 s fun x4 s =>
 kLen a2 s fun x5 s =>
 kEql x5 (.i .i64 (.ofNat 0)) fun x6 =>
 kGuard x6 false (fun k => k a3 s) s fun x7 s =>
 kGuard x6 false (fun k => kLen x7 s k) s fun x8 s =>
 kGuard x6 false (fun k => kEql x8 (.i .i64 (.ofNat 0)) fun d => k d s) s fun x9 s =>
 kPick x6 (.b true) x9 s fun x10 s =>
 kCond x10
(retK false s (.tree [] 0 true) some)
(kLen a2 s fun x11 s =>
 kLen a3 s fun x12 s =>
 kAdd x11 x12 fun x13 =>
 kSub x13 (.i .i64 (.ofNat 1)) fun x14 =>
 kMksl 1 24 [(.tree [] 0 true)] s x14 x14 fun x15 s =>
 kLen a2 s fun x16 s =>
 lp (fun (_ _ _ _ _ _ : D) (_ : LS) => none) (fun (q17 : D → D → D → D → D → D → LS → Rs) (x18 x19 x20 x21 x22 x23 : D) (s : LS) =>
 kLss x23 x22 fun x24 =>
 kCond x24
(kIaddr 1 s x21 x23 fun x25 s =>
 kLoad1 s x25 fun x26 s =>
 kLen x18 s fun x27 s =>
 lp (fun (_ _ _ _ _ _ _ _ _ _ _ : D) (_ : LS) => none) (fun (q28 : D → D → D → D → D → D → D → D → D → D → D → LS → Rs) (x29 x30 x31 x32 x33 x34 x35 x36 x37 x38 x39 : D) (s : LS) =>
 kLss x39 x38 fun x40 =>
 kCond x40
(kIaddr 1 s x37 x39 fun x41 s =>
 kLoad1 s x41 fun x42 s =>
 kAdd x32 x39 fun x43 =>
 kAdd x32 x39 fun x44 =>
 kIaddr 1 s x31 x44 fun x45 s =>
 kLoad1 s x45 fun x46 s =>
 isoK (R_exact_PMul φ) [x33, x42] s fun x47 s =>
 isoK (R_exact_PAdd φ) [x46, x47] s fun x48 s =>
 kIaddr 1 s x31 x43 fun x49 s =>
 kStore 1 s x49 x48 fun _ s =>
 kAdd x39 (.i .i64 (.ofNat 1)) fun x50 =>
 q28 x29 x30 x31 x32 x33 x34 x35 x36 x37 x38 x50 s)
(kAdd x36 (.i .i64 (.ofNat 1)) fun x51 =>
 q17 x29 x30 x31 x34 x35 x51 s)) φ x18 x19 x20 x23 x26 x21 x22 x23 x18 x27 (.i .i64 (.ofNat 0)) s)
(kLen x20 s fun x52 s =>
 lp (fun (_ _ _ _ _ : D) (_ : LS) => none) (fun (q53 : D → D → D → D → D → LS → Rs) (x54 x55 x56 x57 x58 : D) (s : LS) =>
 kLss x58 x57 fun x59 =>
 kCond x59
(kIaddr 1 s x56 x58 fun x60 s =>
 kLoad1 s x60 fun x61 s =>
 kLoadn 2 s x54 fun x62 s =>
 isoK (R_ff_field_reduce φ) [x62, x61] s fun x63 s =>
 kIaddr 1 s x55 x58 fun x64 s =>
 kStore 1 s x64 x63 fun _ s =>
 kAdd x58 (.i .i64 (.ofNat 1)) fun x65 =>
 q53 x54 x55 x56 x57 x65 s)
(isoK (R_ff_trim φ) [x55] s fun x66 s =>
 retK false s x66 some)) φ x19 x20 x20 x52 (.i .i64 (.ofNat 0)) s)) φ a3 x4 x15 a2 x16 (.i .i64 (.ofNat 0)) s))) s0
def T164 (φ : Nat) : FTab := setT (T163 φ) 163 (.iso (R_ff_field_product φ))
def TD164 (φ : Nat) : FTab := TD163 φ
def R_ff_field_scale (φ : Nat) : List D → Option D :=
fun as =>
(fun (s : LS) =>
 u1 as fun a1 r8 =>
 u1 r8 fun a2 r9 =>
 u1 r9 fun a3 r10 =>
 u0 r10 (
 kBox a1 s fun x4 s =>
 kLoadn 2 s x4 fun x5 s =>
 kBsl 1 [(.tree [] 0 true)] [(0, 1, a3)] s fun x6 s =>
 isoK (R_ff_field_product φ) [x5, a2, x6] s fun x7 s =>
 retK false s x7 some)) s0
def T165 (φ : Nat) : FTab := setT (T164 φ) 164 (.iso (R_ff_field_scale φ))
def TD165 (φ : Nat) : FTab := TD164 φ
def R_exact_POf (φ : Nat) : List D → Option D :=
fun as =>
(fun (s : LS) =>
 u1 as fun a1 r17 =>
 u0 r17 (
 kLen a1 s fun x2 s =>
 kMksl 3 40 [(.b false), (.n 0), (.n 0)] s x2 x2 fun x3 s =>
 kLen a1 s fun x4 s =>
 lp (fun (_ _ _ _ : D) (_ : LS) => none) (fun (q5 : D → D → D → D → LS → Rs) (x6 x7 x8 x9 : D) (s : LS) =>
 kLss x9 x8 fun x10 =>
 kCond x10
(kIaddr 1 s x7 x9 fun x11 s =>
 kLoad1 s x11 fun x12 s =>
 isoK (R_exact_Int φ) [x12] s fun x13 s =>
 kIaddr 3 s x6 x9 fun x14 s =>
 kStore 3 s x14 x13 fun _ s =>
 kAdd x9 (.i .i64 (.ofNat 1)) fun x15 =>
 q5 x6 x7 x8 x15 s)
(isoK (R_exact_PTrim φ) [x6] s fun x16 s =>
 retK false s x16 some)) φ x3 a1 x4 (.i .i64 (.ofNat 0)) s)) s0
def T166 (φ : Nat) : FTab := setT (T165 φ) 165 (.iso (R_exact_POf φ))
def TD166 (φ : Nat) : FTab := TD165 φ
def R_ff_field_inverse (φ : Nat) : List D → Option D :=
fun as =>
(fun (s : LS) =>
 u1 as fun a1 r27 =>
 u1 r27 fun a2 r28 =>
 u0 r28 (
 kBox a1 s fun x3 s =>
 kFaddr 0 s x3 fun x4 s =>
 kLoad1 s x4 fun x5 s =>
 kBsl 1 [(.i .i64 (.ofNat 0))] [(0, 1, (.i .i64 (.ofNat 1)))] s fun x6 s =>
 isoK (R_exact_POf φ) [x6] s fun x7 s =>
 lp (fun (_ _ _ _ _ : D) (_ : LS) => none) (fun (q8 : D → D → D → D → D → LS → Rs) (x9 x10 x11 x12 x13 : D) (s : LS) =>
 kLen x11 s fun x14 s =>
 kGtr x14 (.i .i64 (.ofNat 1)) fun x15 =>
 kCond x15
(isoK (R_exact_PDivMod φ) [x10, x11] s fun x16 s =>
 kExt x16 0 s fun x17 s =>
 kExt x16 1 s fun x18 s =>
 isoK (R_exact_PMul φ) [x17, x13] s fun x19 s =>
 isoK (R_exact_PSub φ) [x12, x19] s fun x20 s =>
 q8 x9 x11 x18 x13 x20 s)
(kLoadn 2 s x9 fun x21 s =>
 kIaddr 3 s x11 (.i .i64 (.ofNat 0)) fun x22 s =>
 kLoadn 3 s x22 fun x23 s =>
 isoK (R_exact_Inverse φ) [x23] s fun x24 s =>
 isoK (R_exact_PScale φ) [x13, x24] s fun x25 s =>
 isoK (R_ff_field_reduce φ) [x21, x25] s fun x26 s =>
 retK false s x26 some)) φ x3 x5 a2 (.tree [] 0 true) x7 s)) s0
def T167 (φ : Nat) : FTab := setT (T166 φ) 166 (.iso (R_ff_field_inverse φ))
def TD167 (φ : Nat) : FTab := TD166 φ
def R_ff_field_monic (φ : Nat) : List D → Option D :=
fun as =>
(fun (s : LS) =>
 u1 as fun a1 r14 =>
 u1 r14 fun a2 r15 =>
 u0 r15 (
 kBox a1 s fun x3 s =>
 kLen a2 s fun x4 s =>
 kEql x4 (.i .i64 (.ofNat 0)) fun x5 =>
 kCond x5
(retK false s (.tree [] 0 true) some)
(kLoadn 2 s x3 fun x6 s =>
 kLoadn 2 s x3 fun x7 s =>
 kLen a2 s fun x8 s =>
 kSub x8 (.i .i64 (.ofNat 1)) fun x9 =>
 kIaddr 1 s a2 x9 fun x10 s =>
 kLoad1 s x10 fun x11 s =>
 isoK (R_ff_field_inverse φ) [x7, x11] s fun x12 s =>
 isoK (R_ff_field_scale φ) [x6, a2, x12] s fun x13 s =>
 retK false s x13 some))) s0
def T168 (φ : Nat) : FTab := setT (T167 φ) 167 (.iso (R_ff_field_monic φ))
def TD168 (φ : Nat) : FTab := TD167 φ
def R_ff_field_mul (φ : Nat) : List D → Option D :=
fun as =>
(fun (s : LS) =>
 u1 as fun a1 r8 =>
 u1 r8 fun a2 r9 =>
 u1 r9 fun a3 r10 =>
 u0 r10 (
 kBox a1 s fun x4 s =>
 kLoadn 2 s x4 fun x5 s =>
 isoK (R_exact_PMul φ) [a2, a3] s fun x6 s =>
 isoK (R_ff_field_reduce φ) [x5, x6] s fun x7 s =>
 retK false s x7 some)) s0
def T169 (φ : Nat) : FTab := setT (T168 φ) 168 (.iso (R_ff_field_mul φ))
def TD169 (φ : Nat) : FTab := TD168 φ
def R_ff_field_divMod (φ : Nat) : List D → Option D :=
fun as =>
(fun (s : LS) =>
 u1 as fun a1 r54 =>
 u1 r54 fun a2 r55 =>
 u1 r55 fun a3 r56 =>
 u0 r56 (
 kBox a1 s fun x4 s =>
 kBsl 0 [(.tree [] 0 true)] [] s fun x5 s =>
 kApp 1 24 s x5 a2 fun x6 s =>
 kLen a3 s fun x7 s =>
 kSub x7 (.i .i64 (.ofNat 1)) fun x8 =>
 kLen a2 s fun x9 s =>
 kSub x9 x8 fun x10 =>
 kS (.max (.c (.i .i64 (.ofNat 0))) (.c x10)) s fun x11 s =>
 kMksl 1 24 [(.tree [] 0 true)] s x11 x11 fun x12 s =>
 kLen x12 s fun x13 s =>
 kSub x13 (.i .i64 (.ofNat 1)) fun x14 =>
 lp (fun (_ _ _ _ _ _ : D) (_ : LS) => none) (fun (q15 : D → D → D → D → D → D → LS → Rs) (x16 x17 x18 x19 x20 x21 : D) (s : LS) =>
 kGeq x21 (.i .i64 (.ofNat 0)) fun x22 =>
 kCond x22
(kAdd x21 x19 fun x23 =>
 kIaddr 1 s x18 x23 fun x24 s =>
 kLoad1 s x24 fun x25 s =>
 kIaddr 1 s x20 x21 fun x26 s =>
 kStore 1 s x26 x25 fun _ s =>
 kLen x16 s fun x27 s =>
 lp (fun (_ _ _ _ _ _ _ _ _ _ : D) (_ : LS) => none) (fun (q28 : D → D → D → D → D → D → D → D → D → D → LS → Rs) (x29 x30 x31 x32 x33 x34 x35 x36 x37 x38 : D) (s : LS) =>
 kLss x38 x37 fun x39 =>
 kCond x39
(kIaddr 1 s x36 x38 fun x40 s =>
 kLoad1 s x40 fun x41 s =>
 kAdd x34 x38 fun x42 =>
 kAdd x34 x38 fun x43 =>
 kIaddr 1 s x31 x43 fun x44 s =>
 kLoad1 s x44 fun x45 s =>
 kLoadn 2 s x30 fun x46 s =>
 isoK (R_ff_field_mul φ) [x46, x35, x41] s fun x47 s =>
 isoK (R_exact_PSub φ) [x45, x47] s fun x48 s =>
 kIaddr 1 s x31 x42 fun x49 s =>
 kStore 1 s x49 x48 fun _ s =>
 kAdd x38 (.i .i64 (.ofNat 1)) fun x50 =>
 q28 x29 x30 x31 x32 x33 x34 x35 x36 x37 x50 s)
(kSub x34 (.i .i64 (.ofNat 1)) fun x51 =>
 q15 x29 x30 x31 x32 x33 x51 s)) φ x16 x17 x18 x19 x20 x21 x25 x16 x27 (.i .i64 (.ofNat 0)) s)
(isoK (R_ff_trim φ) [x20] s fun x52 s =>
 isoK (R_ff_trim φ) [x18] s fun x53 s =>
 retK false s (.tup [x52, x53]) some)) φ a3 x4 x6 x8 x12 x14 s)) s0
def T170 (φ : Nat) : FTab := setT (T169 φ) 169 (.iso (R_ff_field_divMod φ))
def TD170 (φ : Nat) : FTab := TD169 φ
def R_ff_field_gcd (φ : Nat) : List D → Option D :=
fun as =>
(fun (s : LS) =>
 u1 as fun a1 r21 =>
 u1 r21 fun a2 r22 =>
 u1 r22 fun a3 r23 =>
 u0 r23 (
 kBox a1 s fun x4 s =>
 kLoadn 2 s x4 fun x5 s =>
 isoK (R_ff_field_monic φ) [x5, a3] s fun x6 s =>
 lp (fun (_ _ _ : D) (_ : LS) => none) (fun (q7 : D → D → D → LS → Rs) (x8 x9 x10 : D) (s : LS) =>
 kLen x9 s fun x11 s =>
 kGtr x11 (.i .i64 (.ofNat 0)) fun x12 =>
 kCond x12
(kLoadn 2 s x10 fun x13 s =>
 isoK (R_ff_field_divMod φ) [x13, x8, x9] s fun x14 s =>
 kExt x14 0 s fun x15 s =>
 kExt x14 1 s fun x16 s =>
 kLoadn 2 s x10 fun x17 s =>
 isoK (R_ff_field_monic φ) [x17, x16] s fun x18 s =>
 q7 x9 x18 x10 s)
(kLoadn 2 s x10 fun x19 s =>
 isoK (R_ff_field_monic φ) [x19, x8] s fun x20 s =>
 retK false s x20 some)) φ a2 x6 x4 s)) s0
def T171 (φ : Nat) : FTab := setT (T170 φ) 170 (.iso (R_ff_field_gcd φ))
def TD171 (φ : Nat) : FTab := TD170 φ
def R_ff_derivative (φ : Nat) : List D → Option D :=
fun as =>
(fun (s : LS) =>
 u1 as fun a1 r16 =>
 u0 r16 (
 lp (fun (_ _ _ : D) (_ : LS) => none) (fun (q2 : D → D → D → LS → Rs) (x3 x4 x5 : D) (s : LS) =>
 kLen x3 s fun x6 s =>
 kLss x5 x6 fun x7 =>
 kCond x7
(kIaddr 1 s x3 x5 fun x8 s =>
 kLoad1 s x8 fun x9 s =>
 isoK (R_exact_Int φ) [x5] s fun x10 s =>
 isoK (R_exact_PScale φ) [x9, x10] s fun x11 s =>
 kBsl 1 [(.tree [] 0 true)] [(0, 1, x11)] s fun x12 s =>
 kApp 1 24 s x4 x12 fun x13 s =>
 kAdd x5 (.i .i64 (.ofNat 1)) fun x14 =>
 q2 x3 x13 x14 s)
(isoK (R_ff_trim φ) [x4] s fun x15 s =>
 retK false s x15 some)) φ a1 (.tree [] 0 true) (.i .i64 (.ofNat 1)) s)) s0
def T172 (φ : Nat) : FTab := setT (T171 φ) 171 (.iso (R_ff_derivative φ))
def TD172 (φ : Nat) : FTab := TD171 φ
def R_ff_field_parts (φ : Nat) : List D → Option D :=
fun as =>
(fun (s : LS) =>
 u1 as fun a1 r41 =>
 u1 r41 fun a2 r42 =>
 u0 r42 (
 kBox a1 s fun x3 s =>
 kLoadn 2 s x3 fun x4 s =>
 isoK (R_ff_derivative φ) [a2] s fun x5 s =>
 isoK (R_ff_field_gcd φ) [x4, a2, x5] s fun x6 s =>
 kLoadn 2 s x3 fun x7 s =>
 isoK (R_ff_field_divMod φ) [x7, a2, x6] s fun x8 s =>
 kExt x8 0 s fun x9 s =>
 kExt x8 1 s fun x10 s =>
 lp (fun (_ _ _ _ _ : D) (_ : LS) => none) (fun (q11 : D → D → D → D → D → LS → Rs) (x12 x13 x14 x15 x16 : D) (s : LS) =>
 kLen x15 s fun x17 s =>
 kGtr x17 (.i .i64 (.ofNat 1)) fun x18 =>
 kCond x18
(kLoadn 2 s x12 fun x19 s =>
 isoK (R_ff_field_gcd φ) [x19, x15, x14] s fun x20 s =>
 kLoadn 2 s x12 fun x21 s =>
 isoK (R_ff_field_divMod φ) [x21, x15, x20] s fun x22 s =>
 kExt x22 0 s fun x23 s =>
 kExt x22 1 s fun x24 s =>
 jn (fun (x26 x27 x28 x29 x30 : D) (s : LS) =>
 kLoadn 2 s x26 fun x31 s =>
 isoK (R_ff_field_divMod φ) [x31, x28, x30] s fun x32 s =>
 kExt x32 0 s fun x33 s =>
 kExt x32 1 s fun x34 s =>
 kAdd x29 (.i .i64 (.ofNat 1)) fun x35 =>
 q11 x26 x27 x33 x30 x35 s) fun j25 =>
 kLen x23 s fun x36 s =>
 kGtr x36 (.i .i64 (.ofNat 1)) fun x37 =>
 kCond x37
(kBuild [(.tree [] 0 true), (.i .i64 (.ofNat 0))] [(0, 1, x23), (1, 1, x16)] s fun x38 s =>
 kBsl 1 [(.tree [] 0 true), (.i .i64 (.ofNat 0))] [(0, 2, x38)] s fun x39 s =>
 kApp 2 32 s x13 x39 fun x40 s =>
 j25 x12 x40 x14 x16 x20 s)
(j25 x12 x13 x14 x16 x20 s))
(retK false s x13 some)) φ x3 (.tree [] 0 true) x6 x9 (.i .i64 (.ofNat 1)) s)) s0
def T173 (φ : Nat) : FTab := setT (T172 φ) 172 (.iso (R_ff_field_parts φ))
def TD173 (φ : Nat) : FTab := TD172 φ
def R_ff_field_generator (φ : Nat) : List D → Option D :=
fun as =>
(fun (s : LS) =>
 u1 as fun a1 r7 =>
 u0 r7 (
 kBox a1 s fun x2 s =>
 kLoadn 2 s x2 fun x3 s =>
 kBsl 2 [(.i .i64 (.ofNat 0))] [(0, 1, (.i .i64 (.ofNat 0))), (1, 1, (.i .i64 (.ofNat 1)))] s fun x4 s =>
 isoK (R_exact_POf φ) [x4] s fun x5 s =>
 isoK (R_ff_field_reduce φ) [x3, x5] s fun x6 s =>
 retK false s x6 some)) s0
def T174 (φ : Nat) : FTab := setT (T173 φ) 173 (.iso (R_ff_field_generator φ))
def TD174 (φ : Nat) : FTab := TD173 φ
def R_ff_field_split_1 (φ : Nat) : List D → Option D :=
fun as =>
(fun (s : LS) =>
 u1 as fun a1 r7 =>
 u1 r7 fun a2 r8 =>
 u0 r8 (
 kLoadn 2 s a2 fun x3 s =>
 isoK (R_ff_field_generator φ) [x3] s fun x4 s =>
 isoK (R_exact_Int φ) [a1] s fun x5 s =>
 isoK (R_exact_PScale φ) [x4, x5] s fun x6 s =>
 retK false s x6 some)) s0
def T175 (φ : Nat) : FTab := setT (T174 φ) 174 (.iso (R_ff_field_split_1 φ))
def TD175 (φ : Nat) : FTab := cnd true (setT (TD174 φ) 174 (.iso (R_ff_field_split_1 φ))) (TD174 φ)
def R_ff_at (φ : Nat) : List D → Option D :=
fun as =>
(fun (s : LS) =>
 u1 as fun a1 r7 =>
 u1 r7 fun a2 r8 =>
 u0 r8 (
 kLen a1 s fun x3 s =>
 kLss a2 x3 fun x4 =>
 kCond x4
(kIaddr 1 s a1 a2 fun x5 s =>
 kLoad1 s x5 fun x6 s =>
 retK false s x6 some)
(retK false s (.tree [] 0 true) some))) s0
def T176 (φ : Nat) : FTab := setT (T175 φ) 175 (.iso (R_ff_at φ))
def TD176 (φ : Nat) : FTab := TD175 φ
def R_ff_combine (φ : Nat) : List D → Option D :=
fun as =>
(fun (s : LS) =>
 u1 as fun a1 r22 =>
 u1 r22 fun a2 r23 =>
 u1 r23 fun a3 r24 =>
 u0 r24 (
 kLen a1 s fun x4 s =>
 kLen a2 s fun x5 s =>
 kS (.max (.c x4) (.c x5)) s fun x6 s =>
 lp (fun (_ _ _ _ _ _ : D) (_ : LS) => none) (fun (q7 : D → D → D → D → D → D → LS → Rs) (x8 x9 x10 x11 x12 x13 : D) (s : LS) =>
 kLss x13 x12 fun x14 =>
 kCond x14
(isoK (R_ff_at φ) [x8, x13] s fun x15 s =>
 isoK (R_ff_at φ) [x9, x13] s fun x16 s =>
 dynK (TD176 φ) false x10 [x15, x16] s fun x17 s =>
 kBsl 1 [(.tree [] 0 true)] [(0, 1, x17)] s fun x18 s =>
 kApp 1 24 s x11 x18 fun x19 s =>
 kAdd x13 (.i .i64 (.ofNat 1)) fun x20 =>
 q7 x8 x9 x10 x19 x12 x20 s)
(isoK (R_ff_trim φ) [x11] s fun x21 s =>
 retK false s x21 some)) φ a1 a2 a3 (.tree [] 0 true) x6 (.i .i64 (.ofNat 0)) s)) s0
def T177 (φ : Nat) : FTab := setT (T176 φ) 176 (.iso (R_ff_combine φ))
def TD177 (φ : Nat) : FTab := TD176 φ
def R_ff_field_shift (φ : Nat) : List D → Option D :=
fun as =>
(fun (s : LS) =>
 u1 as fun a1 r26 =>
 u1 r26 fun a2 r27 =>
 u1 r27 fun a3 r28 =>
 u0 r28 (
 kBox a1 s fun x4 s =>
 kBsl 1 [(.i .i64 (.ofNat 0))] [(0, 1, (.i .i64 (.ofNat 1)))] s fun x5 s =>
 isoK (R_exact_POf φ) [x5] s fun x6 s =>
 kBsl 2 [(.tree [] 0 true)] [(0, 1, a3), (1, 1, x6)] s fun x7 s =>
 isoK (R_ff_trim φ) [x7] s fun x8 s =>
 kLen a2 s fun x9 s =>
 kSub x9 (.i .i64 (.ofNat 1)) fun x10 =>
 lp (fun (_ _ _ _ _ : D) (_ : LS) => none) (fun (q11 : D → D → D → D → D → LS → Rs) (x12 x13 x14 x15 x16 : D) (s : LS) =>
 kGeq x16 (.i .i64 (.ofNat 0)) fun x17 =>
 kCond x17
(kLoadn 2 s x13 fun x18 s =>
 isoK (R_ff_field_product φ) [x18, x14, x15] s fun x19 s =>
 kIaddr 1 s x12 x16 fun x20 s =>
 kLoad1 s x20 fun x21 s =>
 kBsl 1 [(.tree [] 0 true)] [(0, 1, x21)] s fun x22 s =>
 isoK (R_ff_trim φ) [x22] s fun x23 s =>
 isoK (R_ff_combine φ) [x19, x23, (.fn 159 [])] s fun x24 s =>
 kSub x16 (.i .i64 (.ofNat 1)) fun x25 =>
 q11 x12 x13 x24 x15 x25 s)
(retK false s x14 some)) φ a2 x4 (.tree [] 0 true) x8 x10 s)) s0
def T178 (φ : Nat) : FTab := setT (T177 φ) 177 (.iso (R_ff_field_shift φ))
def TD178 (φ : Nat) : FTab := TD177 φ
def R_exact_NatPow (φ : Nat) : List D → Option D :=
fun as =>
(fun (s : LS) =>
 u1 as fun a1 r20 =>
 u1 r20 fun a2 r21 =>
 u0 r21 (
 kBsl 1 [(.i .u64 (.ofNat 0))] [(0, 1, (.i .u64 (.ofNat 1)))] s fun x3 s =>
 isoK wordsM [a1] s fun x4 s =>
 lp (fun (_ _ _ : D) (_ : LS) => none) (fun (q5 : D → D → D → LS → Rs) (x6 x7 x8 : D) (s : LS) =>
 kGtr x6 (.i .i64 (.ofNat 0)) fun x9 =>
 kCond x9
(jn (fun (x11 x12 x13 : D) (s : LS) =>
 isoK (R_exact_mulWords φ) [x13, x13] s fun x14 s =>
 kShr x11 (.i .u64 (.ofNat 1)) fun x15 =>
 q5 x15 x12 x14 s) fun j10 =>
 kAnd x6 (.i .i64 (.ofNat 1)) fun x16 =>
 kEql x16 (.i .i64 (.ofNat 1)) fun x17 =>
 kCond x17
(isoK (R_exact_mulWords φ) [x7, x8] s fun x18 s =>
 j10 x6 x18 x8 s)
(j10 x6 x7 x8 s))
(isoK packM [x7] s fun x19 s =>
 retK false s x19 some)) φ a2 x3 x4 s)) s0
def T179 (φ : Nat) : FTab := setT (T178 φ) 178 (.iso (R_exact_NatPow φ))
def TD179 (φ : Nat) : FTab := TD178 φ
def R_exact_IntPow (φ : Nat) : List D → Option D :=
fun as =>
(fun (s : LS) =>
 u1 as fun a1 r16 =>
 u1 r16 fun a2 r17 =>
 u0 r17 (
 kBox a1 s fun x3 s =>
 kAlloc [(.b false), (.n 0)] s fun x4 s =>
 kFaddr 0 s x3 fun x5 s =>
 kLoad1 s x5 fun x6 s =>
 kGuard x6 true (fun k => k a2 s) s fun x7 s =>
 kGuard x6 true (fun k => kRem x7 (.i .i64 (.ofNat 2)) fun d => k d s) s fun x8 s =>
 kGuard x6 true (fun k => kEql x8 (.i .i64 (.ofNat 1)) fun d => k d s) s fun x9 s =>
 kPick x6 x9 (.b false) s fun x10 s =>
 kFaddr 1 s x3 fun x11 s =>
 kLoad1 s x11 fun x12 s =>
 isoK (R_exact_NatPow φ) [x12, a2] s fun x13 s =>
 isoK (R_exact_IntMake φ) [x10, x13] s fun x14 s =>
 kStore 2 s x4 x14 fun _ s =>
 kLoadn 2 s x4 fun x15 _ =>
 retK false s x15 some)) s0
def T180 (φ : Nat) : FTab := setT (T179 φ) 179 (.iso (R_exact_IntPow φ))
def TD180 (φ : Nat) : FTab := TD179 φ
def R_exact_Pow (φ : Nat) : List D → Option D :=
fun as =>
(fun (s : LS) =>
 u1 as fun a1 r13 =>
 u1 r13 fun a2 r14 =>
 u0 r14 (
 kBox a1 s fun x3 s =>
 kAlloc [(.b false), (.n 0), (.n 0)] s fun x4 s =>
 kFaddr 0 s x3 fun x5 s =>
 kLoadn 2 s x5 fun x6 s =>
 isoK (R_exact_IntPow φ) [x6, a2] s fun x7 s =>
 kFaddr 2 s x3 fun x8 s =>
 kLoad1 s x8 fun x9 s =>
 isoK (R_exact_NatPow φ) [x9, a2] s fun x10 s =>
 kBuild [(.b false), (.n 0), (.n 0)] [(0, 2, x7), (2, 1, x10)] s fun x11 s =>
 kStore 3 s x4 x11 fun _ s =>
 kLoadn 3 s x4 fun x12 _ =>
 retK false s x12 some)) s0
def T181 (φ : Nat) : FTab := setT (T180 φ) 180 (.iso (R_exact_Pow φ))
def TD181 (φ : Nat) : FTab := TD180 φ
def R_ff_field_norm (φ : Nat) : List D → Option D :=
fun as =>
(fun (s : LS) =>
 u1 as fun a1 r55 =>
 u1 r55 fun a2 r56 =>
 u0 r56 (
 kBox a1 s fun x3 s =>
 kAlloc [(.b false), (.n 0), (.n 0)] s fun x4 s =>
 kFaddr 0 s x3 fun x5 s =>
 kLoad1 s x5 fun x6 s =>
 isoK (R_exact_Int φ) [(.i .i64 (.ofNat 1))] s fun x7 s =>
 kAlloc [(.b false), (.n 0), (.n 0)] s fun x8 s =>
 kStore 3 s x8 x7 fun _ s =>
 lp (fun (_ _ _ _ : D) (_ : LS) => none) (fun (q9 : D → D → D → D → LS → Rs) (x10 x11 x12 x13 : D) (s : LS) =>
 kLen x11 s fun x14 s =>
 kSub x14 (.i .i64 (.ofNat 1)) fun x15 =>
 kLen x12 s fun x16 s =>
 kSub x16 (.i .i64 (.ofNat 1)) fun x17 =>
 kLss x17 (.i .i64 (.ofNat 0)) fun x18 =>
 kCond x18
(isoK (R_exact_Int φ) [(.i .i64 (.ofNat 0))] s fun x19 s =>
 kStore 3 s x10 x19 fun _ s =>
 kLoadn 3 s x10 fun x20 _ =>
 retK false s x20 some)
(kEql x17 (.i .i64 (.ofNat 0)) fun x21 =>
 kCond x21
(kLoadn 3 s x13 fun x22 s =>
 kIaddr 3 s x12 (.i .i64 (.ofNat 0)) fun x23 s =>
 kLoadn 3 s x23 fun x24 s =>
 isoK (R_exact_Pow φ) [x24, x15] s fun x25 s =>
 isoK (R_exact_Mul φ) [x22, x25] s fun x26 s =>
 kStore 3 s x10 x26 fun _ s =>
 kLoadn 3 s x10 fun x27 _ =>
 retK false s x27 some)
(isoK (R_exact_PDivMod φ) [x11, x12] s fun x28 s =>
 kExt x28 0 s fun x29 s =>
 kExt x28 1 s fun x30 s =>
 kLen x30 s fun x31 s =>
 kEql x31 (.i .i64 (.ofNat 0)) fun x32 =>
 kCond x32
(isoK (R_exact_Int φ) [(.i .i64 (.ofNat 0))] s fun x33 s =>
 kStore 3 s x10 x33 fun _ s =>
 kLoadn 3 s x10 fun x34 _ =>
 retK false s x34 some)
(jn (fun (x36 x37 x38 x39 x40 x41 : D) (s : LS) =>
 kLoadn 3 s x38 fun x42 s =>
 kIaddr 3 s x37 x40 fun x43 s =>
 kLoadn 3 s x43 fun x44 s =>
 kLen x41 s fun x45 s =>
 kSub x45 (.i .i64 (.ofNat 1)) fun x46 =>
 kSub x39 x46 fun x47 =>
 isoK (R_exact_Pow φ) [x44, x47] s fun x48 s =>
 isoK (R_exact_Mul φ) [x42, x48] s fun x49 s =>
 kStore 3 s x38 x49 fun _ s =>
 q9 x36 x37 x41 x38 s) fun j35 =>
 kMul x15 x17 fun x50 =>
 kRem x50 (.i .i64 (.ofNat 2)) fun x51 =>
 kEql x51 (.i .i64 (.ofNat 1)) fun x52 =>
 kCond x52
(kLoadn 3 s x13 fun x53 s =>
 isoK (R_exact_Neg φ) [x53] s fun x54 s =>
 kStore 3 s x13 x54 fun _ s =>
 j35 x10 x12 x13 x15 x17 x30 s)
(j35 x10 x12 x13 x15 x17 x30 s))))) φ x4 x6 a2 x8 s)) s0
def T182 (φ : Nat) : FTab := setT (T181 φ) 181 (.iso (R_ff_field_norm φ))
def TD182 (φ : Nat) : FTab := TD181 φ
def R_ff_eval (φ : Nat) : List D → Option D :=
fun as =>
(fun (s : LS) =>
 u1 as fun a1 r18 =>
 u1 r18 fun a2 r19 =>
 u0 r19 (
 kBox a2 s fun x3 s =>
 kLen a1 s fun x4 s =>
 kSub x4 (.i .i64 (.ofNat 1)) fun x5 =>
 lp (fun (_ _ _ _ : D) (_ : LS) => none) (fun (q6 : D → D → D → D → LS → Rs) (x7 x8 x9 x10 : D) (s : LS) =>
 kGeq x10 (.i .i64 (.ofNat 0)) fun x11 =>
 kCond x11
(kLoadn 3 s x8 fun x12 s =>
 isoK (R_exact_PScale φ) [x9, x12] s fun x13 s =>
 kIaddr 1 s x7 x10 fun x14 s =>
 kLoad1 s x14 fun x15 s =>
 isoK (R_exact_PAdd φ) [x13, x15] s fun x16 s =>
 kSub x10 (.i .i64 (.ofNat 1)) fun x17 =>
 q6 x7 x8 x16 x17 s)
(retK false s x9 some)) φ a1 x3 (.tree [] 0 true) x5 s)) s0
def T183 (φ : Nat) : FTab := setT (T182 φ) 182 (.iso (R_ff_eval φ))
def TD183 (φ : Nat) : FTab := TD182 φ
def R_exact_PEval (φ : Nat) : List D → Option D :=
fun as =>
(fun (s : LS) =>
 u1 as fun a1 r25 =>
 u1 r25 fun a2 r26 =>
 u0 r26 (
 kBox a2 s fun x3 s =>
 kAlloc [(.b false), (.n 0), (.n 0)] s fun x4 s =>
 isoK (R_exact_Int φ) [(.i .i64 (.ofNat 0))] s fun x5 s =>
 kAlloc [(.b false), (.n 0), (.n 0)] s fun x6 s =>
 kStore 3 s x6 x5 fun _ s =>
 kLen a1 s fun x7 s =>
 kSub x7 (.i .i64 (.ofNat 1)) fun x8 =>
 lp (fun (_ _ _ _ _ : D) (_ : LS) => none) (fun (q9 : D → D → D → D → D → LS → Rs) (x10 x11 x12 x13 x14 : D) (s : LS) =>
 kGeq x14 (.i .i64 (.ofNat 0)) fun x15 =>
 kCond x15
(kLoadn 3 s x13 fun x16 s =>
 kLoadn 3 s x11 fun x17 s =>
 isoK (R_exact_Mul φ) [x16, x17] s fun x18 s =>
 kIaddr 3 s x10 x14 fun x19 s =>
 kLoadn 3 s x19 fun x20 s =>
 isoK (R_exact_Add φ) [x18, x20] s fun x21 s =>
 kStore 3 s x13 x21 fun _ s =>
 kSub x14 (.i .i64 (.ofNat 1)) fun x22 =>
 q9 x10 x11 x12 x13 x22 s)
(kLoadn 3 s x13 fun x23 s =>
 kStore 3 s x12 x23 fun _ s =>
 kLoadn 3 s x12 fun x24 _ =>
 retK false s x24 some)) φ a1 x3 x4 x6 x8 s)) s0
def T184 (φ : Nat) : FTab := setT (T183 φ) 183 (.iso (R_exact_PEval φ))
def TD184 (φ : Nat) : FTab := TD183 φ
def R_exact_Div (φ : Nat) : List D → Option D :=
fun as =>
(fun (s : LS) =>
 u1 as fun a1 r11 =>
 u1 r11 fun a2 r12 =>
 u0 r12 (
 kBox a1 s fun x3 s =>
 kBox a2 s fun x4 s =>
 kAlloc [(.b false), (.n 0), (.n 0)] s fun x5 s =>
 kLoadn 3 s x3 fun x6 s =>
 kLoadn 3 s x4 fun x7 s =>
 isoK (R_exact_Inverse φ) [x7] s fun x8 s =>
 isoK (R_exact_Mul φ) [x6, x8] s fun x9 s =>
 kStore 3 s x5 x9 fun _ s =>
 kLoadn 3 s x5 fun x10 _ =>
 retK false s x10 some)) s0
def T185 (φ : Nat) : FTab := setT (T184 φ) 184 (.iso (R_exact_Div φ))
def TD185 (φ : Nat) : FTab := TD184 φ
def R_ff_field_polyNorm (φ : Nat) : List D → Option D :=
fun as =>
(fun (s : LS) =>
 u1 as fun a1 r46 =>
 u1 r46 fun a2 r47 =>
 u0 r47 (
 kBox a1 s fun x3 s =>
 kFaddr 1 s x3 fun x4 s =>
 kLoad1 s x4 fun x5 s =>
 kLen a2 s fun x6 s =>
 kSub x6 (.i .i64 (.ofNat 1)) fun x7 =>
 kMul x5 x7 fun x8 =>
 kAdd x8 (.i .i64 (.ofNat 1)) fun x9 =>
 kBsl 1 [(.i .i64 (.ofNat 0))] [(0, 1, (.i .i64 (.ofNat 1)))] s fun x10 s =>
 isoK (R_exact_POf φ) [x10] s fun x11 s =>
 lp (fun (_ _ _ _ _ _ _ : D) (_ : LS) => none) (fun (q12 : D → D → D → D → D → D → D → LS → Rs) (x13 x14 x15 x16 x17 x18 x19 : D) (s : LS) =>
 kLss x19 x18 fun x20 =>
 kCond x20
(isoK (R_exact_Int φ) [x19] s fun x21 s =>
 kAlloc [(.b false), (.n 0), (.n 0)] s fun x22 s =>
 kStore 3 s x22 x21 fun _ s =>
 kLoadn 2 s x14 fun x23 s =>
 kLoadn 3 s x22 fun x24 s =>
 isoK (R_ff_eval φ) [x13, x24] s fun x25 s =>
 isoK (R_ff_field_norm φ) [x23, x25] s fun x26 s =>
 kLoadn 3 s x22 fun x27 s =>
 isoK (R_exact_PEval φ) [x16, x27] s fun x28 s =>
 isoK (R_exact_Sub φ) [x26, x28] s fun x29 s =>
 kAlloc [(.b false), (.n 0), (.n 0)] s fun x30 s =>
 kStore 3 s x30 x29 fun _ s =>
 kLoadn 3 s x22 fun x31 s =>
 isoK (R_exact_PEval φ) [x17, x31] s fun x32 s =>
 kBsl 1 [(.b false), (.n 0), (.n 0)] [(0, 3, x32)] s fun x33 s =>
 kApp 3 40 s x15 x33 fun x34 s =>
 kLoadn 3 s x30 fun x35 s =>
 kIaddr 3 s x34 x19 fun x36 s =>
 kLoadn 3 s x36 fun x37 s =>
 isoK (R_exact_Div φ) [x35, x37] s fun x38 s =>
 isoK (R_exact_PScale φ) [x17, x38] s fun x39 s =>
 isoK (R_exact_PAdd φ) [x16, x39] s fun x40 s =>
 kS (.neg (.c x19)) s fun x41 s =>
 kBsl 2 [(.i .i64 (.ofNat 0))] [(0, 1, x41), (1, 1, (.i .i64 (.ofNat 1)))] s fun x42 s =>
 isoK (R_exact_POf φ) [x42] s fun x43 s =>
 isoK (R_exact_PMul φ) [x17, x43] s fun x44 s =>
 kAdd x19 (.i .i64 (.ofNat 1)) fun x45 =>
 q12 x13 x14 x34 x40 x44 x18 x45 s)
(retK false s x16 some)) φ a2 x3 (.tree [] 0 true) (.tree [] 0 true) x11 x9 (.i .i64 (.ofNat 0)) s)) s0
def T186 (φ : Nat) : FTab := setT (T185 φ) 185 (.iso (R_ff_field_polyNorm φ))
def TD186 (φ : Nat) : FTab := TD185 φ
def R_ff_rational (φ : Nat) : List D → Option D :=
fun as =>
(fun (s : LS) =>
 u1 as fun a1 r19 =>
 u0 r19 (
 kLen a1 s fun x2 s =>
 lp (fun (_ _ _ _ : D) (_ : LS) => none) (fun (q3 : D → D → D → D → LS → Rs) (x4 x5 x6 x7 : D) (s : LS) =>
 kLss x7 x6 fun x8 =>
 kCond x8
(kIaddr 2 s x5 x7 fun x9 s =>
 kLoadn 2 s x9 fun x10 s =>
 kAlloc [(.b false), (.n 0)] s fun x11 s =>
 kStore 2 s x11 x10 fun _ s =>
 kLoadn 2 s x11 fun x12 s =>
 isoK (R_exact_Whole φ) [x12] s fun x13 s =>
 kBsl 1 [(.b false), (.n 0), (.n 0)] [(0, 3, x13)] s fun x14 s =>
 isoK (R_exact_PTrim φ) [x14] s fun x15 s =>
 kBsl 1 [(.tree [] 0 true)] [(0, 1, x15)] s fun x16 s =>
 kApp 1 24 s x4 x16 fun x17 s =>
 kAdd x7 (.i .i64 (.ofNat 1)) fun x18 =>
 q3 x17 x5 x6 x18 s)
(retK false s x4 some)) φ (.tree [] 0 true) a1 x2 (.i .i64 (.ofNat 0)) s)) s0
def T187 (φ : Nat) : FTab := setT (T186 φ) 186 (.iso (R_ff_rational φ))
def TD187 (φ : Nat) : FTab := TD186 φ
def R_ff_field_split (φ : Nat) : List D → Option D :=
fun as =>
(fun (s : LS) =>
 u1 as fun a1 r51 =>
 u1 r51 fun a2 r52 =>
 u0 r52 (
 kBox a1 s fun x3 s =>
 kLen a2 s fun x4 s =>
 kEql x4 (.i .i64 (.ofNat 2)) fun x5 =>
 kCond x5
(kBsl 1 [(.tree [] 0 true)] [(0, 1, a2)] s fun x6 s =>
 retK false s x6 some)
(lp (fun (_ _ _ _ : D) (_ : LS) => none) (fun (q7 : D → D → D → D → LS → Rs) (x8 x9 x10 x11 : D) (s : LS) =>
 kLoadn 2 s x9 fun x12 s =>
 dynK (TD187 φ) true x11 [x10] s fun x13 s =>
 isoK (R_ff_field_shift φ) [x12, x8, x13] s fun x14 s =>
 kLoadn 2 s x9 fun x15 s =>
 isoK (R_ff_field_polyNorm φ) [x15, x14] s fun x16 s =>
 isoK (R_exact_PDerivative φ) [x16] s fun x17 s =>
 isoK (R_exact_PGcd φ) [x16, x17] s fun x18 s =>
 kLen x18 s fun x19 s =>
 kLeq x19 (.i .i64 (.ofNat 1)) fun x20 =>
 kCond x20
(isoK (tabM B_zf_Factors (R_zf_Factors φ)) [x16] s fun x21 s =>
 kLen x21 s fun x22 s =>
 lp (fun (_ _ _ _ _ _ _ _ : D) (_ : LS) => none) (fun (q23 : D → D → D → D → D → D → D → D → LS → Rs) (x24 x25 x26 x27 x28 x29 x30 x31 : D) (s : LS) =>
 kLss x31 x30 fun x32 =>
 kCond x32
(kIaddr 2 s x29 x31 fun x33 s =>
 kLoadn 2 s x33 fun x34 s =>
 kAlloc [(.tree [] 0 true), (.i .i64 (.ofNat 0))] s fun x35 s =>
 kStore 2 s x35 x34 fun _ s =>
 kLoadn 2 s x24 fun x36 s =>
 kFaddr 0 s x35 fun x37 s =>
 kLoad1 s x37 fun x38 s =>
 isoK (R_ff_rational φ) [x38] s fun x39 s =>
 isoK (R_ff_field_gcd φ) [x36, x26, x39] s fun x40 s =>
 kLoadn 2 s x24 fun x41 s =>
 kS (.neg (.c x25)) s fun x42 s =>
 dynK (TD187 φ) true x27 [x42] s fun x43 s =>
 isoK (R_ff_field_shift φ) [x41, x40, x43] s fun x44 s =>
 kBsl 1 [(.tree [] 0 true)] [(0, 1, x44)] s fun x45 s =>
 kApp 1 24 s x28 x45 fun x46 s =>
 kAdd x31 (.i .i64 (.ofNat 1)) fun x47 =>
 q23 x24 x25 x26 x27 x46 x29 x30 x47 s)
(retK false s x28 some)) φ x9 x10 x14 x11 (.tree [] 0 true) x21 x22 (.i .i64 (.ofNat 0)) s)
(kGtr x10 (.i .i64 (.ofNat 0)) fun x48 =>
 kCond x48
(kS (.neg (.c x10)) s fun x49 s =>
 q7 x8 x9 x49 x11 s)
(kSub (.i .i64 (.ofNat 1)) x10 fun x50 =>
 q7 x8 x9 x50 x11 s))) φ a2 x3 (.i .i64 (.ofNat 0)) (.fn 174 [x3]) s))) s0
def T188 (φ : Nat) : FTab := setT (T187 φ) 187 (.iso (R_ff_field_split φ))
def TD188 (φ : Nat) : FTab := TD187 φ
def R_ff_Factor (φ : Nat) : List D → Option D :=
fun as =>
(fun (s : LS) =>
 u1 as fun a1 r47 =>
 u1 r47 fun a2 r48 =>
 u0 r48 (
 kBox a1 s fun x3 s =>
 kLoadn 1 s x3 fun x4 s =>
 isoK (R_ff_fieldOf φ) [x4] s fun x5 s =>
 kAlloc [(.tree [] 0 true), (.i .i64 (.ofNat 0))] s fun x6 s =>
 kStore 2 s x6 x5 fun _ s =>
 kLoadn 2 s x6 fun x7 s =>
 kLoadn 2 s x6 fun x8 s =>
 isoK (R_ff_field_monic φ) [x8, a2] s fun x9 s =>
 isoK (R_ff_field_parts φ) [x7, x9] s fun x10 s =>
 kLen x10 s fun x11 s =>
 lp (fun (_ _ _ _ _ : D) (_ : LS) => none) (fun (q12 : D → D → D → D → D → LS → Rs) (x13 x14 x15 x16 x17 : D) (s : LS) =>
 kLss x17 x16 fun x18 =>
 kCond x18
(kIaddr 2 s x15 x17 fun x19 s =>
 kLoadn 2 s x19 fun x20 s =>
 kAlloc [(.tree [] 0 true), (.i .i64 (.ofNat 0))] s fun x21 s =>
 kStore 2 s x21 x20 fun _ s =>
 kLoadn 2 s x13 fun x22 s =>
 kFaddr 0 s x21 fun x23 s =>
 kLoad1 s x23 fun x24 s =>
 isoK (R_ff_field_split φ) [x22, x24] s fun x25 s =>
 kLen x25 s fun x26 s =>
 lp (fun (_ _ _ _ _ _ _ _ _ : D) (_ : LS) => none) (fun (q27 : D → D → D → D → D → D → D → D → D → LS → Rs) (x28 x29 x30 x31 x32 x33 x34 x35 x36 : D) (s : LS) =>
 kLss x36 x35 fun x37 =>
 kCond x37
(kIaddr 1 s x34 x36 fun x38 s =>
 kLoad1 s x38 fun x39 s =>
 kFaddr 1 s x30 fun x40 s =>
 kLoad1 s x40 fun x41 s =>
 kBuild [(.tree [] 0 true), (.i .i64 (.ofNat 0))] [(0, 1, x39), (1, 1, x41)] s fun x42 s =>
 kBsl 1 [(.tree [] 0 true), (.i .i64 (.ofNat 0))] [(0, 2, x42)] s fun x43 s =>
 kApp 2 32 s x29 x43 fun x44 s =>
 kAdd x36 (.i .i64 (.ofNat 1)) fun x45 =>
 q27 x28 x44 x30 x31 x32 x33 x34 x35 x45 s)
(kAdd x33 (.i .i64 (.ofNat 1)) fun x46 =>
 q12 x28 x29 x31 x32 x46 s)) φ x13 x14 x21 x15 x16 x17 x25 x26 (.i .i64 (.ofNat 0)) s)
(retK true s x14 some)) φ x6 (.tree [] 0 true) x10 x11 (.i .i64 (.ofNat 0)) s)) s0
def T189 (φ : Nat) : FTab := setT (T188 φ) 188 (.iso (R_ff_Factor φ))
def TD189 (φ : Nat) : FTab := TD188 φ
def R_exact_Cmp (φ : Nat) : List D → Option D :=
fun as =>
(fun (s : LS) =>
 u1 as fun a1 r36 =>
 u1 r36 fun a2 r37 =>
 u0 r37 (
 kBox a1 s fun x3 s =>
 kBox a2 s fun x4 s =>
 kFaddr 2 s x3 fun x5 s =>
 kLoad1 s x5 fun x6 s =>
 kFaddr 2 s x4 fun x7 s =>
 kLoad1 s x7 fun x8 s =>
 kEql x6 x8 fun x9 =>
 kCond x9
(kFaddr 0 s x3 fun x10 s =>
 kLoadn 2 s x10 fun x11 s =>
 kFaddr 0 s x4 fun x12 s =>
 kLoadn 2 s x12 fun x13 s =>
 isoK (R_exact_IntCmp φ) [x11, x13] s fun x14 s =>
 retK false s x14 some)
(kFaddr 0 s x3 fun x15 s =>
 kFaddr 0 s x15 fun x16 s =>
 kLoad1 s x16 fun x17 s =>
 kFaddr 0 s x3 fun x18 s =>
 kFaddr 1 s x18 fun x19 s =>
 kLoad1 s x19 fun x20 s =>
 kFaddr 2 s x4 fun x21 s =>
 kLoad1 s x21 fun x22 s =>
 isoK natMulM [x20, x22] s fun x23 s =>
 isoK (R_exact_IntMake φ) [x17, x23] s fun x24 s =>
 kFaddr 0 s x4 fun x25 s =>
 kFaddr 0 s x25 fun x26 s =>
 kLoad1 s x26 fun x27 s =>
 kFaddr 0 s x4 fun x28 s =>
 kFaddr 1 s x28 fun x29 s =>
 kLoad1 s x29 fun x30 s =>
 kFaddr 2 s x3 fun x31 s =>
 kLoad1 s x31 fun x32 s =>
 isoK natMulM [x30, x32] s fun x33 s =>
 isoK (R_exact_IntMake φ) [x27, x33] s fun x34 s =>
 isoK (R_exact_IntCmp φ) [x24, x34] s fun x35 s =>
 retK false s x35 some))) s0
def T190 (φ : Nat) : FTab := setT (T189 φ) 189 (.iso (R_exact_Cmp φ))
def TD190 (φ : Nat) : FTab := TD189 φ
def R_qpoly_Compare (φ : Nat) : List D → Option D :=
fun as =>
(fun (s : LS) =>
 u1 as fun a1 r25 =>
 u1 r25 fun a2 r26 =>
 u0 r26 (
 kLen a1 s fun x3 s =>
 kLen a2 s fun x4 s =>
 kNeq x3 x4 fun x5 =>
 kCond x5
(kLen a1 s fun x6 s =>
 kLen a2 s fun x7 s =>
 kSub x6 x7 fun x8 =>
 kS (.min (.c (.i .i64 (.ofNat 1))) (.c x8)) s fun x9 s =>
 kS (.max (.c (.i .i64 (.negSucc 0))) (.c x9)) s fun x10 s =>
 retK false s x10 some)
(kLen a1 s fun x11 s =>
 lp (fun (_ _ _ _ : D) (_ : LS) => none) (fun (q12 : D → D → D → D → LS → Rs) (x13 x14 x15 x16 : D) (s : LS) =>
 kLss x16 x15 fun x17 =>
 kCond x17
(kIaddr 3 s x13 x16 fun x18 s =>
 kLoadn 3 s x18 fun x19 s =>
 kIaddr 3 s x14 x16 fun x20 s =>
 kLoadn 3 s x20 fun x21 s =>
 isoK (R_exact_Cmp φ) [x19, x21] s fun x22 s =>
 kNeq x22 (.i .i64 (.ofNat 0)) fun x23 =>
 kCond x23
(retK false s x22 some)
(kAdd x16 (.i .i64 (.ofNat 1)) fun x24 =>
 q12 x13 x14 x15 x24 s))
(retK false s (.i .i64 (.ofNat 0)) some)) φ a1 a2 x11 (.i .i64 (.ofNat 0)) s))) s0
def T191 (φ : Nat) : FTab := setT (T190 φ) 190 (.iso (R_qpoly_Compare φ))
def TD191 (φ : Nat) : FTab := cnd true (setT (TD190 φ) 190 (.iso (R_qpoly_Compare φ))) (TD190 φ)
def R_fieldpoly_Compare (φ : Nat) : List D → Option D :=
fun as =>
(fun (s : LS) =>
 u1 as fun a1 r25 =>
 u1 r25 fun a2 r26 =>
 u0 r26 (
 kLen a1 s fun x3 s =>
 kLen a2 s fun x4 s =>
 kNeq x3 x4 fun x5 =>
 kCond x5
(kLen a1 s fun x6 s =>
 kLen a2 s fun x7 s =>
 kSub x6 x7 fun x8 =>
 kS (.min (.c (.i .i64 (.ofNat 1))) (.c x8)) s fun x9 s =>
 kS (.max (.c (.i .i64 (.negSucc 0))) (.c x9)) s fun x10 s =>
 retK false s x10 some)
(kLen a1 s fun x11 s =>
 lp (fun (_ _ _ _ : D) (_ : LS) => none) (fun (q12 : D → D → D → D → LS → Rs) (x13 x14 x15 x16 : D) (s : LS) =>
 kLss x16 x15 fun x17 =>
 kCond x17
(kIaddr 1 s x13 x16 fun x18 s =>
 kLoad1 s x18 fun x19 s =>
 kIaddr 1 s x14 x16 fun x20 s =>
 kLoad1 s x20 fun x21 s =>
 isoK (R_qpoly_Compare φ) [x19, x21] s fun x22 s =>
 kNeq x22 (.i .i64 (.ofNat 0)) fun x23 =>
 kCond x23
(retK false s x22 some)
(kAdd x16 (.i .i64 (.ofNat 1)) fun x24 =>
 q12 x13 x14 x15 x24 s))
(retK false s (.i .i64 (.ofNat 0)) some)) φ a1 a2 x11 (.i .i64 (.ofNat 0)) s))) s0
def T192 (φ : Nat) : FTab := setT (T191 φ) 191 (.iso (R_fieldpoly_Compare φ))
def TD192 (φ : Nat) : FTab := TD191 φ
def R_fieldfactor_factor_1 (φ : Nat) : List D → Option D :=
fun as =>
(fun (s : LS) =>
 u1 as fun a1 r10 =>
 u1 r10 fun a2 r11 =>
 u0 r11 (
 kBox a1 s fun x3 s =>
 kBox a2 s fun x4 s =>
 kFaddr 0 s x3 fun x5 s =>
 kLoad1 s x5 fun x6 s =>
 kFaddr 0 s x4 fun x7 s =>
 kLoad1 s x7 fun x8 s =>
 isoK (R_fieldpoly_Compare φ) [x6, x8] s fun x9 s =>
 retK false s x9 some)) s0
def T193 (φ : Nat) : FTab := setT (T192 φ) 192 (.iso (R_fieldfactor_factor_1 φ))
def TD193 (φ : Nat) : FTab := cnd true (setT (TD192 φ) 192 (.iso (R_fieldfactor_factor_1 φ))) (TD192 φ)
def R_slices_insertionSortCmpFunc_api_FPower (φ : Nat) : List D → LS → (D → LS → Rs) → Rs :=
fun as s k =>
 u1 as fun a1 r44 =>
 u1 r44 fun a2 r45 =>
 u1 r45 fun a3 r46 =>
 u1 r46 fun a4 r47 =>
 u0 r47 (
 kAdd a2 (.i .i64 (.ofNat 1)) fun x5 =>
 lp (fun (_ _ _ _ _ : D) (_ : LS) => none) (fun (q6 : D → D → D → D → D → LS → Rs) (x7 x8 x9 x10 x11 : D) (s : LS) =>
 kLss x11 x9 fun x12 =>
 kCond x12
(lp (fun (_ _ _ _ _ _ : D) (_ : LS) => none) (fun (q13 : D → D → D → D → D → D → LS → Rs) (x14 x15 x16 x17 x18 x19 : D) (s : LS) =>
 kGtr x19 x15 fun x20 =>
 kGuard x20 true (fun k => k x17 s) s fun x21 s =>
 kGuard x20 true (fun k => k x14 s) s fun x22 s =>
 kGuard x20 true (fun k => k x19 s) s fun x23 s =>
 kGuard x20 true (fun k => kIaddr 2 s x22 x23 k) s fun x24 s =>
 kGuard x20 true (fun k => kLoadn 2 s x24 k) s fun x25 s =>
 kGuard x20 true (fun k => k x14 s) s fun x26 s =>
 kGuard x20 true (fun k => k x19 s) s fun x27 s =>
 kGuard x20 true (fun k => kSub x27 (.i .i64 (.ofNat 1)) fun d => k d s) s fun x28 s =>
 kGuard x20 true (fun k => kIaddr 2 s x26 x28 k) s fun x29 s =>
 kGuard x20 true (fun k => kLoadn 2 s x29 k) s fun x30 s =>
 kGuard x20 true (fun k => dynK (TD193 φ) false x21 [x25, x30] s k) s fun x31 s =>
 kGuard x20 true (fun k => kLss x31 (.i .i64 (.ofNat 0)) fun d => k d s) s fun x32 s =>
 kPick x20 x32 (.b false) s fun x33 s =>
 kCond x33
(kSub x19 (.i .i64 (.ofNat 1)) fun x34 =>
 kSub x19 (.i .i64 (.ofNat 1)) fun x35 =>
 kIaddr 2 s x14 x35 fun x36 s =>
 kLoadn 2 s x36 fun x37 s =>
 kIaddr 2 s x14 x19 fun x38 s =>
 kLoadn 2 s x38 fun x39 s =>
 kIaddr 2 s x14 x19 fun x40 s =>
 kStore 2 s x40 x37 fun _ s =>
 kIaddr 2 s x14 x34 fun x41 s =>
 kStore 2 s x41 x39 fun _ s =>
 kSub x19 (.i .i64 (.ofNat 1)) fun x42 =>
 q13 x14 x15 x16 x17 x18 x42 s)
(kAdd x18 (.i .i64 (.ofNat 1)) fun x43 =>
 q6 x14 x15 x16 x17 x43 s)) φ x7 x8 x9 x10 x11 x11 s)
(k (.tup []) s)) φ a1 a2 a3 a4 x5 s)
def T194 (φ : Nat) : FTab := setT (T193 φ) 193 (.mem (R_slices_insertionSortCmpFunc_api_FPower φ))
def TD194 (φ : Nat) : FTab := TD193 φ
def R_slices_siftDownCmpFunc_api_FPower (φ : Nat) : List D → LS → (D → LS → Rs) → Rs :=
fun as s k =>
 u1 as fun a1 r61 =>
 u1 r61 fun a2 r62 =>
 u1 r62 fun a3 r63 =>
 u1 r63 fun a4 r64 =>
 u1 r64 fun a5 r65 =>
 u0 r65 (
 lp (fun (_ _ _ _ _ : D) (_ : LS) => none) (fun (q6 : D → D → D → D → D → LS → Rs) (x7 x8 x9 x10 x11 : D) (s : LS) =>
 kMul (.i .i64 (.ofNat 2)) x11 fun x12 =>
 kAdd x12 (.i .i64 (.ofNat 1)) fun x13 =>
 kGeq x13 x8 fun x14 =>
 kCond x14
(k (.tup []) s)
(jn (fun (x16 x17 x18 x19 x20 x21 : D) (s : LS) =>
 kAdd x18 x20 fun x22 =>
 kIaddr 2 s x16 x22 fun x23 s =>
 kLoadn 2 s x23 fun x24 s =>
 kAdd x18 x21 fun x25 =>
 kIaddr 2 s x16 x25 fun x26 s =>
 kLoadn 2 s x26 fun x27 s =>
 dynK (TD194 φ) false x19 [x24, x27] s fun x28 s =>
 kLss x28 (.i .i64 (.ofNat 0)) fun x29 =>
 kNot x29 s fun x30 s =>
 kCond x30
(k (.tup []) s)
(kAdd x18 x20 fun x31 =>
 kAdd x18 x21 fun x32 =>
 kAdd x18 x21 fun x33 =>
 kIaddr 2 s x16 x33 fun x34 s =>
 kLoadn 2 s x34 fun x35 s =>
 kAdd x18 x20 fun x36 =>
 kIaddr 2 s x16 x36 fun x37 s =>
 kLoadn 2 s x37 fun x38 s =>
 kIaddr 2 s x16 x31 fun x39 s =>
 kStore 2 s x39 x35 fun _ s =>
 kIaddr 2 s x16 x32 fun x40 s =>
 kStore 2 s x40 x38 fun _ s =>
 q6 x16 x17 x18 x19 x21 s)) fun j15 =>
 kAdd x13 (.i .i64 (.ofNat 1)) fun x41 =>
 kLss x41 x8 fun x42 =>
 kGuard x42 true (fun k => k x10 s) s fun x43 s =>
 kGuard x42 true (fun k => k x7 s) s fun x44 s =>
 kGuard x42 true (fun k => k x9 s) s fun x45 s =>
 kGuard x42 true (fun k => k x13 s) s fun x46 s =>
 kGuard x42 true (fun k => kAdd x45 x46 fun d => k d s) s fun x47 s =>
 kGuard x42 true (fun k => kIaddr 2 s x44 x47 k) s fun x48 s =>
 kGuard x42 true (fun k => kLoadn 2 s x48 k) s fun x49 s =>
 kGuard x42 true (fun k => k x7 s) s fun x50 s =>
 kGuard x42 true (fun k => k x9 s) s fun x51 s =>
 kGuard x42 true (fun k => k x13 s) s fun x52 s =>
 kGuard x42 true (fun k => kAdd x51 x52 fun d => k d s) s fun x53 s =>
 kGuard x42 true (fun k => kAdd x53 (.i .i64 (.ofNat 1)) fun d => k d s) s fun x54 s =>
 kGuard x42 true (fun k => kIaddr 2 s x50 x54 k) s fun x55 s =>
 kGuard x42 true (fun k => kLoadn 2 s x55 k) s fun x56 s =>
 kGuard x42 true (fun k => dynK (TD194 φ) false x43 [x49, x56] s k) s fun x57 s =>
 kGuard x42 true (fun k => kLss x57 (.i .i64 (.ofNat 0)) fun d => k d s) s fun x58 s =>
 kPick x42 x58 (.b false) s fun x59 s =>
 kCond x59
(kAdd x13 (.i .i64 (.ofNat 1)) fun x60 =>
 j15 x7 x8 x9 x10 x11 x60 s)
(j15 x7 x8 x9 x10 x11 x13 s))) φ a1 a3 a4 a5 a2 s)
def T195 (φ : Nat) : FTab := setT (T194 φ) 194 (.mem (R_slices_siftDownCmpFunc_api_FPower φ))
def TD195 (φ : Nat) : FTab := TD194 φ
def R_slices_heapSortCmpFunc_api_FPower (φ : Nat) : List D → LS → (D → LS → Rs) → Rs :=
fun as s k =>
 u1 as fun a1 r36 =>
 u1 r36 fun a2 r37 =>
 u1 r37 fun a3 r38 =>
 u1 r38 fun a4 r39 =>
 u0 r39 (
 kSub a3 a2 fun x5 =>
 kSub x5 (.i .i64 (.ofNat 1)) fun x6 =>
 kQuo x6 (.i .i64 (.ofNat 2)) fun x7 =>
 lp (fun (_ _ _ _ _ _ : D) (_ : LS) => none) (fun (q8 : D → D → D → D → D → D → LS → Rs) (x9 x10 x11 x12 x13 x14 : D) (s : LS) =>
 kGeq x14 (.i .i64 (.ofNat 0)) fun x15 =>
 kCond x15
((R_slices_siftDownCmpFunc_api_FPower φ) [x9, x14, x13, x11, x10] s fun x16 s =>
 kSub x14 (.i .i64 (.ofNat 1)) fun x17 =>
 q8 x9 x10 x11 x12 x13 x17 s)
(kSub x13 (.i .i64 (.ofNat 1)) fun x18 =>
 lp (fun (_ _ _ _ _ : D) (_ : LS) => none) (fun (q19 : D → D → D → D → D → LS → Rs) (x20 x21 x22 x23 x24 : D) (s : LS) =>
 kGeq x24 (.i .i64 (.ofNat 0)) fun x25 =>
 kCond x25
(kAdd x22 x24 fun x26 =>
 kAdd x22 x24 fun x27 =>
 kIaddr 2 s x20 x27 fun x28 s =>
 kLoadn 2 s x28 fun x29 s =>
 kIaddr 2 s x20 x22 fun x30 s =>
 kLoadn 2 s x30 fun x31 s =>
 kIaddr 2 s x20 x22 fun x32 s =>
 kStore 2 s x32 x29 fun _ s =>
 kIaddr 2 s x20 x26 fun x33 s =>
 kStore 2 s x33 x31 fun _ s =>
(R_slices_siftDownCmpFunc_api_FPower φ) [x20, x23, x24, x22, x21] s fun x34 s =>
 kSub x24 (.i .i64 (.ofNat 1)) fun x35 =>
 q19 x20 x21 x22 x23 x35 s)
(k (.tup []) s)) φ x9 x10 x11 x12 x18 s)) φ a1 a4 a2 (.i .i64 (.ofNat 0)) x5 x7 s)
def T196 (φ : Nat) : FTab := setT (T195 φ) 195 (.mem (R_slices_heapSortCmpFunc_api_FPower φ))
def TD196 (φ : Nat) : FTab := TD195 φ
def R_slices_breakPatternsCmpFunc_api_FPower (φ : Nat) : List D → LS → (D → LS → Rs) → Rs :=
fun as s k =>
 u1 as fun a1 r49 =>
 u1 r49 fun a2 r50 =>
 u1 r50 fun a3 r51 =>
 u1 r51 fun a4 r52 =>
 u0 r52 (
 kSub a3 a2 fun x5 =>
 kGeq x5 (.i .i64 (.ofNat 8)) fun x6 =>
 kCond x6
(kToInt .u64 x5 s fun x7 s =>
 kAlloc [(.i .u64 (.ofNat 0))] s fun x8 s =>
 kStore 1 s x8 x7 fun _ s =>
(R_slices_nextPowerOfTwo φ) [x5] s fun x9 s =>
 kQuo x5 (.i .i64 (.ofNat 4)) fun x10 =>
 kMul x10 (.i .i64 (.ofNat 2)) fun x11 =>
 kAdd a2 x11 fun x12 =>
 kSub x12 (.i .i64 (.ofNat 1)) fun x13 =>
 lp (fun (_ _ _ _ _ _ : D) (_ : LS) => none) (fun (q14 : D → D → D → D → D → D → LS → Rs) (x15 x16 x17 x18 x19 x20 : D) (s : LS) =>
 kQuo x17 (.i .i64 (.ofNat 4)) fun x21 =>
 kMul x21 (.i .i64 (.ofNat 2)) fun x22 =>
 kAdd x16 x22 fun x23 =>
 kAdd x23 (.i .i64 (.ofNat 1)) fun x24 =>
 kLeq x20 x24 fun x25 =>
 kCond x25
(isoK (R_slices_xorshift_Next φ) [x18] s fun x26 s =>
 kSub x19 (.i .u64 (.ofNat 1)) fun x27 =>
 kAnd x26 x27 fun x28 =>
 kToInt .i64 x28 s fun x29 s =>
 jn (fun (x31 x32 x33 x34 x35 x36 x37 : D) (s : LS) =>
 kAdd x32 x37 fun x38 =>
 kAdd x32 x37 fun x39 =>
 kIaddr 2 s x31 x39 fun x40 s =>
 kLoadn 2 s x40 fun x41 s =>
 kIaddr 2 s x31 x36 fun x42 s =>
 kLoadn 2 s x42 fun x43 s =>
 kIaddr 2 s x31 x36 fun x44 s =>
 kStore 2 s x44 x41 fun _ s =>
 kIaddr 2 s x31 x38 fun x45 s =>
 kStore 2 s x45 x43 fun _ s =>
 kAdd x36 (.i .i64 (.ofNat 1)) fun x46 =>
 q14 x31 x32 x33 x34 x35 x46 s) fun j30 =>
 kGeq x29 x17 fun x47 =>
 kCond x47
(kSub x29 x17 fun x48 =>
 j30 x15 x16 x17 x18 x19 x20 x48 s)
(j30 x15 x16 x17 x18 x19 x20 x29 s))
(k (.tup []) s)) φ a1 a2 x5 x8 x9 x13 s)
(k (.tup []) s))
def T197 (φ : Nat) : FTab := setT (T196 φ) 196 (.mem (R_slices_breakPatternsCmpFunc_api_FPower φ))
def TD197 (φ : Nat) : FTab := TD196 φ
def R_slices_order2CmpFunc_api_FPower (φ : Nat) : List D → LS → (D → LS → Rs) → Rs :=
fun as s k =>
 u1 as fun a1 r16 =>
 u1 r16 fun a2 r17 =>
 u1 r17 fun a3 r18 =>
 u1 r18 fun a4 r19 =>
 u1 r19 fun a5 r20 =>
 u0 r20 (
 kIaddr 2 s a1 a3 fun x6 s =>
 kLoadn 2 s x6 fun x7 s =>
 kIaddr 2 s a1 a2 fun x8 s =>
 kLoadn 2 s x8 fun x9 s =>
 dynK (TD197 φ) false a5 [x7, x9] s fun x10 s =>
 kLss x10 (.i .i64 (.ofNat 0)) fun x11 =>
 kCond x11
(kNilc s a4 fun x12 s =>
 kLoad1 s x12 fun x13 s =>
 kAdd x13 (.i .i64 (.ofNat 1)) fun x14 =>
 kNilc s a4 fun x15 s =>
 kStore 1 s x15 x14 fun _ s =>
 k (.tup [a3, a2]) s)
(k (.tup [a2, a3]) s))
def T198 (φ : Nat) : FTab := setT (T197 φ) 197 (.mem (R_slices_order2CmpFunc_api_FPower φ))
def TD198 (φ : Nat) : FTab := TD197 φ
def R_slices_medianCmpFunc_api_FPower (φ : Nat) : List D → LS → (D → LS → Rs) → Rs :=
fun as s k =>
 u1 as fun a1 r16 =>
 u1 r16 fun a2 r17 =>
 u1 r17 fun a3 r18 =>
 u1 r18 fun a4 r19 =>
 u1 r19 fun a5 r20 =>
 u1 r20 fun a6 r21 =>
 u0 r21 (
(R_slices_order2CmpFunc_api_FPower φ) [a1, a2, a3, a5, a6] s fun x7 s =>
 kExt x7 0 s fun x8 s =>
 kExt x7 1 s fun x9 s =>
(R_slices_order2CmpFunc_api_FPower φ) [a1, x9, a4, a5, a6] s fun x10 s =>
 kExt x10 0 s fun x11 s =>
 kExt x10 1 s fun x12 s =>
(R_slices_order2CmpFunc_api_FPower φ) [a1, x8, x11, a5, a6] s fun x13 s =>
 kExt x13 0 s fun x14 s =>
 kExt x13 1 s fun x15 s =>
 k x15 s)
def T199 (φ : Nat) : FTab := setT (T198 φ) 198 (.mem (R_slices_medianCmpFunc_api_FPower φ))
def TD199 (φ : Nat) : FTab := TD198 φ
def R_slices_medianAdjacentCmpFunc_api_FPower (φ : Nat) : List D → LS → (D → LS → Rs) → Rs :=
fun as s k =>
 u1 as fun a1 r8 =>
 u1 r8 fun a2 r9 =>
 u1 r9 fun a3 r10 =>
 u1 r10 fun a4 r11 =>
 u0 r11 (
 kSub a2 (.i .i64 (.ofNat 1)) fun x5 =>
 kAdd a2 (.i .i64 (.ofNat 1)) fun x6 =>
(R_slices_medianCmpFunc_api_FPower φ) [a1, x5, a2, x6, a3, a4] s fun x7 s =>
 k x7 s)
def T200 (φ : Nat) : FTab := setT (T199 φ) 199 (.mem (R_slices_medianAdjacentCmpFunc_api_FPower φ))
def TD200 (φ : Nat) : FTab := TD199 φ
def R_slices_choosePivotCmpFunc_api_FPower (φ : Nat) : List D → LS → (D → LS → Rs) → Rs :=
fun as s k =>
 u1 as fun a1 r35 =>
 u1 r35 fun a2 r36 =>
 u1 r36 fun a3 r37 =>
 u1 r37 fun a4 r38 =>
 u0 r38 (
 kSub a3 a2 fun x5 =>
 kAlloc [(.i .i64 (.ofNat 0))] s fun x6 s =>
 kQuo x5 (.i .i64 (.ofNat 4)) fun x7 =>
 kMul x7 (.i .i64 (.ofNat 1)) fun x8 =>
 kAdd a2 x8 fun x9 =>
 kQuo x5 (.i .i64 (.ofNat 4)) fun x10 =>
 kMul x10 (.i .i64 (.ofNat 2)) fun x11 =>
 kAdd a2 x11 fun x12 =>
 kQuo x5 (.i .i64 (.ofNat 4)) fun x13 =>
 kMul x13 (.i .i64 (.ofNat 3)) fun x14 =>
 kAdd a2 x14 fun x15 =>
 jn (fun (x17 x18 : D) (s : LS) =>
 kLoad1 s x17 fun x19 s =>
 kEql x19 (.i .i64 (.ofNat 0)) fun x20 =>
 kCond x20
(k (.tup [x18, (.i .i64 (.ofNat 1))]) s)
(kEql x19 (.i .i64 (.ofNat 12)) fun x21 =>
 kCond x21
(k (.tup [x18, (.i .i64 (.ofNat 2))]) s)
(k (.tup [x18, (.i .i64 (.ofNat 0))]) s))) fun j16 =>
 kGeq x5 (.i .i64 (.ofNat 8)) fun x22 =>
 kCond x22
(jn (fun (x24 x25 x26 x27 x28 x29 : D) (s : LS) =>
(R_slices_medianCmpFunc_api_FPower φ) [x24, x27, x28, x29, x26, x25] s fun x30 s =>
 j16 x26 x30 s) fun j23 =>
 kGeq x5 (.i .i64 (.ofNat 50)) fun x31 =>
 kCond x31
((R_slices_medianAdjacentCmpFunc_api_FPower φ) [a1, x9, x6, a4] s fun x32 s =>
(R_slices_medianAdjacentCmpFunc_api_FPower φ) [a1, x12, x6, a4] s fun x33 s =>
(R_slices_medianAdjacentCmpFunc_api_FPower φ) [a1, x15, x6, a4] s fun x34 s =>
 j23 a1 a4 x6 x32 x33 x34 s)
(j23 a1 a4 x6 x9 x12 x15 s))
(j16 x6 x12 s))
def T201 (φ : Nat) : FTab := setT (T200 φ) 200 (.mem (R_slices_choosePivotCmpFunc_api_FPower φ))
def TD201 (φ : Nat) : FTab := TD200 φ
def R_slices_reverseRangeCmpFunc_api_FPower (φ : Nat) : List D → LS → (D → LS → Rs) → Rs :=
fun as s k =>
 u1 as fun a1 r19 =>
 u1 r19 fun a2 r20 =>
 u1 r20 fun a3 r21 =>
 u1 r21 fun a4 r22 =>
 u0 r22 (
 kSub a3 (.i .i64 (.ofNat 1)) fun x5 =>
 lp (fun (_ _ _ : D) (_ : LS) => none) (fun (q6 : D → D → D → LS → Rs) (x7 x8 x9 : D) (s : LS) =>
 kLss x8 x9 fun x10 =>
 kCond x10
(kIaddr 2 s x7 x9 fun x11 s =>
 kLoadn 2 s x11 fun x12 s =>
 kIaddr 2 s x7 x8 fun x13 s =>
 kLoadn 2 s x13 fun x14 s =>
 kIaddr 2 s x7 x8 fun x15 s =>
 kStore 2 s x15 x12 fun _ s =>
 kIaddr 2 s x7 x9 fun x16 s =>
 kStore 2 s x16 x14 fun _ s =>
 kAdd x8 (.i .i64 (.ofNat 1)) fun x17 =>
 kSub x9 (.i .i64 (.ofNat 1)) fun x18 =>
 q6 x7 x17 x18 s)
(k (.tup []) s)) φ a1 a2 x5 s)
def T202 (φ : Nat) : FTab := setT (T201 φ) 201 (.mem (R_slices_reverseRangeCmpFunc_api_FPower φ))
def TD202 (φ : Nat) : FTab := TD201 φ
def R_slices_partialInsertionSortCmpFunc_api_FPower (φ : Nat) : List D → LS → (D → LS → Rs) → Rs :=
fun as s k =>
 u1 as fun a1 r121 =>
 u1 r121 fun a2 r122 =>
 u1 r122 fun a3 r123 =>
 u1 r123 fun a4 r124 =>
 u0 r124 (
 kAdd a2 (.i .i64 (.ofNat 1)) fun x5 =>
 lp (fun (_ _ _ _ _ _ : D) (_ : LS) => none) (fun (q6 : D → D → D → D → D → D → LS → Rs) (x7 x8 x9 x10 x11 x12 : D) (s : LS) =>
 kLss x12 (.i .i64 (.ofNat 5)) fun x13 =>
 kCond x13
(jn (fun (x15 x16 x17 x18 x19 x20 : D) (s : LS) =>
 kAdd x20 (.i .i64 (.ofNat 1)) fun x21 =>
 q6 x15 x16 x17 x18 x19 x21 s) fun j14 =>
 lp (fun (_ _ _ _ _ _ : D) (_ : LS) => none) (fun (q22 : D → D → D → D → D → D → LS → Rs) (x23 x24 x25 x26 x27 x28 : D) (s : LS) =>
 kLss x27 x25 fun x29 =>
 kGuard x29 true (fun k => k x26 s) s fun x30 s =>
 kGuard x29 true (fun k => k x23 s) s fun x31 s =>
 kGuard x29 true (fun k => k x27 s) s fun x32 s =>
 kGuard x29 true (fun k => kIaddr 2 s x31 x32 k) s fun x33 s =>
 kGuard x29 true (fun k => kLoadn 2 s x33 k) s fun x34 s =>
 kGuard x29 true (fun k => k x23 s) s fun x35 s =>
 kGuard x29 true (fun k => k x27 s) s fun x36 s =>
 kGuard x29 true (fun k => kSub x36 (.i .i64 (.ofNat 1)) fun d => k d s) s fun x37 s =>
 kGuard x29 true (fun k => kIaddr 2 s x35 x37 k) s fun x38 s =>
 kGuard x29 true (fun k => kLoadn 2 s x38 k) s fun x39 s =>
 kGuard x29 true (fun k => dynK (TD202 φ) false x30 [x34, x39] s k) s fun x40 s =>
 kGuard x29 true (fun k => kLss x40 (.i .i64 (.ofNat 0)) fun d => k d s) s fun x41 s =>
 kGuard x29 true (fun k => kNot x41 s k) s fun x42 s =>
 kPick x29 x42 (.b false) s fun x43 s =>
 kCond x43
(kAdd x27 (.i .i64 (.ofNat 1)) fun x44 =>
 q22 x23 x24 x25 x26 x44 x28 s)
(kEql x27 x25 fun x45 =>
 kCond x45
(k (.b true) s)
(kSub x25 x24 fun x46 =>
 kLss x46 (.i .i64 (.ofNat 50)) fun x47 =>
 kCond x47
(k (.b false) s)
(kSub x27 (.i .i64 (.ofNat 1)) fun x48 =>
 kSub x27 (.i .i64 (.ofNat 1)) fun x49 =>
 kIaddr 2 s x23 x49 fun x50 s =>
 kLoadn 2 s x50 fun x51 s =>
 kIaddr 2 s x23 x27 fun x52 s =>
 kLoadn 2 s x52 fun x53 s =>
 kIaddr 2 s x23 x27 fun x54 s =>
 kStore 2 s x54 x51 fun _ s =>
 kIaddr 2 s x23 x48 fun x55 s =>
 kStore 2 s x55 x53 fun _ s =>
 jn (fun (x57 x58 x59 x60 x61 x62 : D) (s : LS) =>
 kSub x59 x61 fun x63 =>
 kGeq x63 (.i .i64 (.ofNat 2)) fun x64 =>
 kCond x64
(kAdd x61 (.i .i64 (.ofNat 1)) fun x65 =>
 lp (fun (_ _ _ _ _ _ _ : D) (_ : LS) => none) (fun (q66 : D → D → D → D → D → D → D → LS → Rs) (x67 x68 x69 x70 x71 x72 x73 : D) (s : LS) =>
 kLss x73 x69 fun x74 =>
 kCond x74
(kIaddr 2 s x67 x73 fun x75 s =>
 kLoadn 2 s x75 fun x76 s =>
 kSub x73 (.i .i64 (.ofNat 1)) fun x77 =>
 kIaddr 2 s x67 x77 fun x78 s =>
 kLoadn 2 s x78 fun x79 s =>
 dynK (TD202 φ) false x70 [x76, x79] s fun x80 s =>
 kLss x80 (.i .i64 (.ofNat 0)) fun x81 =>
 kNot x81 s fun x82 s =>
 kCond x82
(j14 x67 x68 x69 x70 x71 x72 s)
(kSub x73 (.i .i64 (.ofNat 1)) fun x83 =>
 kSub x73 (.i .i64 (.ofNat 1)) fun x84 =>
 kIaddr 2 s x67 x84 fun x85 s =>
 kLoadn 2 s x85 fun x86 s =>
 kIaddr 2 s x67 x73 fun x87 s =>
 kLoadn 2 s x87 fun x88 s =>
 kIaddr 2 s x67 x73 fun x89 s =>
 kStore 2 s x89 x86 fun _ s =>
 kIaddr 2 s x67 x83 fun x90 s =>
 kStore 2 s x90 x88 fun _ s =>
 kAdd x73 (.i .i64 (.ofNat 1)) fun x91 =>
 q66 x67 x68 x69 x70 x71 x72 x91 s))
(j14 x67 x68 x69 x70 x71 x72 s)) φ x57 x58 x59 x60 x61 x62 x65 s)
(j14 x57 x58 x59 x60 x61 x62 s)) fun j56 =>
 kSub x27 x24 fun x92 =>
 kGeq x92 (.i .i64 (.ofNat 2)) fun x93 =>
 kCond x93
(kSub x27 (.i .i64 (.ofNat 1)) fun x94 =>
 lp (fun (_ _ _ _ _ _ _ : D) (_ : LS) => none) (fun (q95 : D → D → D → D → D → D → D → LS → Rs) (x96 x97 x98 x99 x100 x101 x102 : D) (s : LS) =>
 kGeq x102 (.i .i64 (.ofNat 1)) fun x103 =>
 kCond x103
(kIaddr 2 s x96 x102 fun x104 s =>
 kLoadn 2 s x104 fun x105 s =>
 kSub x102 (.i .i64 (.ofNat 1)) fun x106 =>
 kIaddr 2 s x96 x106 fun x107 s =>
 kLoadn 2 s x107 fun x108 s =>
 dynK (TD202 φ) false x99 [x105, x108] s fun x109 s =>
 kLss x109 (.i .i64 (.ofNat 0)) fun x110 =>
 kNot x110 s fun x111 s =>
 kCond x111
(j56 x96 x97 x98 x99 x100 x101 s)
(kSub x102 (.i .i64 (.ofNat 1)) fun x112 =>
 kSub x102 (.i .i64 (.ofNat 1)) fun x113 =>
 kIaddr 2 s x96 x113 fun x114 s =>
 kLoadn 2 s x114 fun x115 s =>
 kIaddr 2 s x96 x102 fun x116 s =>
 kLoadn 2 s x116 fun x117 s =>
 kIaddr 2 s x96 x102 fun x118 s =>
 kStore 2 s x118 x115 fun _ s =>
 kIaddr 2 s x96 x112 fun x119 s =>
 kStore 2 s x119 x117 fun _ s =>
 kSub x102 (.i .i64 (.ofNat 1)) fun x120 =>
 q95 x96 x97 x98 x99 x100 x101 x120 s))
(j56 x96 x97 x98 x99 x100 x101 s)) φ x23 x24 x25 x26 x27 x28 x94 s)
(j56 x23 x24 x25 x26 x27 x28 s))))) φ x7 x8 x9 x10 x11 x12 s)
(k (.b false) s)) φ a1 a2 a3 a4 x5 (.i .i64 (.ofNat 0)) s)
def T203 (φ : Nat) : FTab := setT (T202 φ) 202 (.mem (R_slices_partialInsertionSortCmpFunc_api_FPower φ))
def TD203 (φ : Nat) : FTab := TD202 φ
def R_slices_partitionEqualCmpFunc_api_FPower (φ : Nat) : List D → LS → (D → LS → Rs) → Rs :=
fun as s k =>
 u1 as fun a1 r70 =>
 u1 r70 fun a2 r71 =>
 u1 r71 fun a3 r72 =>
 u1 r72 fun a4 r73 =>
 u1 r73 fun a5 r74 =>
 u0 r74 (
 kIaddr 2 s a1 a4 fun x6 s =>
 kLoadn 2 s x6 fun x7 s =>
 kIaddr 2 s a1 a2 fun x8 s =>
 kLoadn 2 s x8 fun x9 s =>
 kIaddr 2 s a1 a2 fun x10 s =>
 kStore 2 s x10 x7 fun _ s =>
 kIaddr 2 s a1 a4 fun x11 s =>
 kStore 2 s x11 x9 fun _ s =>
 kAdd a2 (.i .i64 (.ofNat 1)) fun x12 =>
 kSub a3 (.i .i64 (.ofNat 1)) fun x13 =>
 lp (fun (_ _ _ _ _ : D) (_ : LS) => none) (fun (q14 : D → D → D → D → D → LS → Rs) (x15 x16 x17 x18 x19 : D) (s : LS) =>
 lp (fun (_ _ _ _ _ : D) (_ : LS) => none) (fun (q20 : D → D → D → D → D → LS → Rs) (x21 x22 x23 x24 x25 : D) (s : LS) =>
 kLeq x24 x25 fun x26 =>
 kGuard x26 true (fun k => k x23 s) s fun x27 s =>
 kGuard x26 true (fun k => k x21 s) s fun x28 s =>
 kGuard x26 true (fun k => k x22 s) s fun x29 s =>
 kGuard x26 true (fun k => kIaddr 2 s x28 x29 k) s fun x30 s =>
 kGuard x26 true (fun k => kLoadn 2 s x30 k) s fun x31 s =>
 kGuard x26 true (fun k => k x21 s) s fun x32 s =>
 kGuard x26 true (fun k => k x24 s) s fun x33 s =>
 kGuard x26 true (fun k => kIaddr 2 s x32 x33 k) s fun x34 s =>
 kGuard x26 true (fun k => kLoadn 2 s x34 k) s fun x35 s =>
 kGuard x26 true (fun k => dynK (TD203 φ) false x27 [x31, x35] s k) s fun x36 s =>
 kGuard x26 true (fun k => kLss x36 (.i .i64 (.ofNat 0)) fun d => k d s) s fun x37 s =>
 kGuard x26 true (fun k => kNot x37 s k) s fun x38 s =>
 kPick x26 x38 (.b false) s fun x39 s =>
 kCond x39
(kAdd x24 (.i .i64 (.ofNat 1)) fun x40 =>
 q20 x21 x22 x23 x40 x25 s)
(lp (fun (_ _ _ _ _ : D) (_ : LS) => none) (fun (q41 : D → D → D → D → D → LS → Rs) (x42 x43 x44 x45 x46 : D) (s : LS) =>
 kLeq x45 x46 fun x47 =>
 kGuard x47 true (fun k => k x44 s) s fun x48 s =>
 kGuard x47 true (fun k => k x42 s) s fun x49 s =>
 kGuard x47 true (fun k => k x43 s) s fun x50 s =>
 kGuard x47 true (fun k => kIaddr 2 s x49 x50 k) s fun x51 s =>
 kGuard x47 true (fun k => kLoadn 2 s x51 k) s fun x52 s =>
 kGuard x47 true (fun k => k x42 s) s fun x53 s =>
 kGuard x47 true (fun k => k x46 s) s fun x54 s =>
 kGuard x47 true (fun k => kIaddr 2 s x53 x54 k) s fun x55 s =>
 kGuard x47 true (fun k => kLoadn 2 s x55 k) s fun x56 s =>
 kGuard x47 true (fun k => dynK (TD203 φ) false x48 [x52, x56] s k) s fun x57 s =>
 kGuard x47 true (fun k => kLss x57 (.i .i64 (.ofNat 0)) fun d => k d s) s fun x58 s =>
 kPick x47 x58 (.b false) s fun x59 s =>
 kCond x59
(kSub x46 (.i .i64 (.ofNat 1)) fun x60 =>
 q41 x42 x43 x44 x45 x60 s)
(kGtr x45 x46 fun x61 =>
 kCond x61
(k x45 s)
(kIaddr 2 s x42 x46 fun x62 s =>
 kLoadn 2 s x62 fun x63 s =>
 kIaddr 2 s x42 x45 fun x64 s =>
 kLoadn 2 s x64 fun x65 s =>
 kIaddr 2 s x42 x45 fun x66 s =>
 kStore 2 s x66 x63 fun _ s =>
 kIaddr 2 s x42 x46 fun x67 s =>
 kStore 2 s x67 x65 fun _ s =>
 kAdd x45 (.i .i64 (.ofNat 1)) fun x68 =>
 kSub x46 (.i .i64 (.ofNat 1)) fun x69 =>
 q14 x42 x43 x44 x68 x69 s))) φ x21 x22 x23 x24 x25 s)) φ x15 x16 x17 x18 x19 s) φ a1 a2 a5 x12 x13 s)
def T204 (φ : Nat) : FTab := setT (T203 φ) 203 (.mem (R_slices_partitionEqualCmpFunc_api_FPower φ))
def TD204 (φ : Nat) : FTab := TD203 φ
def R_slices_partitionCmpFunc_api_FPower (φ : Nat) : List D → LS → (D → LS → Rs) → Rs :=
fun as s k =>
 u1 as fun a1 r132 =>
 u1 r132 fun a2 r133 =>
 u1 r133 fun a3 r134 =>
 u1 r134 fun a4 r135 =>
 u1 r135 fun a5 r136 =>
 u0 r136 (
 kIaddr 2 s a1 a4 fun x6 s =>
 kLoadn 2 s x6 fun x7 s =>
 kIaddr 2 s a1 a2 fun x8 s =>
 kLoadn 2 s x8 fun x9 s =>
 kIaddr 2 s a1 a2 fun x10 s =>
 kStore 2 s x10 x7 fun _ s =>
 kIaddr 2 s a1 a4 fun x11 s =>
 kStore 2 s x11 x9 fun _ s =>
 kAdd a2 (.i .i64 (.ofNat 1)) fun x12 =>
 kSub a3 (.i .i64 (.ofNat 1)) fun x13 =>
 lp (fun (_ _ _ _ _ : D) (_ : LS) => none) (fun (q14 : D → D → D → D → D → LS → Rs) (x15 x16 x17 x18 x19 : D) (s : LS) =>
 kLeq x18 x19 fun x20 =>
 kGuard x20 true (fun k => k x17 s) s fun x21 s =>
 kGuard x20 true (fun k => k x15 s) s fun x22 s =>
 kGuard x20 true (fun k => k x18 s) s fun x23 s =>
 kGuard x20 true (fun k => kIaddr 2 s x22 x23 k) s fun x24 s =>
 kGuard x20 true (fun k => kLoadn 2 s x24 k) s fun x25 s =>
 kGuard x20 true (fun k => k x15 s) s fun x26 s =>
 kGuard x20 true (fun k => k x16 s) s fun x27 s =>
 kGuard x20 true (fun k => kIaddr 2 s x26 x27 k) s fun x28 s =>
 kGuard x20 true (fun k => kLoadn 2 s x28 k) s fun x29 s =>
 kGuard x20 true (fun k => dynK (TD204 φ) false x21 [x25, x29] s k) s fun x30 s =>
 kGuard x20 true (fun k => kLss x30 (.i .i64 (.ofNat 0)) fun d => k d s) s fun x31 s =>
 kPick x20 x31 (.b false) s fun x32 s =>
 kCond x32
(kAdd x18 (.i .i64 (.ofNat 1)) fun x33 =>
 q14 x15 x16 x17 x33 x19 s)
(lp (fun (_ _ _ _ _ : D) (_ : LS) => none) (fun (q34 : D → D → D → D → D → LS → Rs) (x35 x36 x37 x38 x39 : D) (s : LS) =>
 kLeq x38 x39 fun x40 =>
 kGuard x40 true (fun k => k x37 s) s fun x41 s =>
 kGuard x40 true (fun k => k x35 s) s fun x42 s =>
 kGuard x40 true (fun k => k x39 s) s fun x43 s =>
 kGuard x40 true (fun k => kIaddr 2 s x42 x43 k) s fun x44 s =>
 kGuard x40 true (fun k => kLoadn 2 s x44 k) s fun x45 s =>
 kGuard x40 true (fun k => k x35 s) s fun x46 s =>
 kGuard x40 true (fun k => k x36 s) s fun x47 s =>
 kGuard x40 true (fun k => kIaddr 2 s x46 x47 k) s fun x48 s =>
 kGuard x40 true (fun k => kLoadn 2 s x48 k) s fun x49 s =>
 kGuard x40 true (fun k => dynK (TD204 φ) false x41 [x45, x49] s k) s fun x50 s =>
 kGuard x40 true (fun k => kLss x50 (.i .i64 (.ofNat 0)) fun d => k d s) s fun x51 s =>
 kGuard x40 true (fun k => kNot x51 s k) s fun x52 s =>
 kPick x40 x52 (.b false) s fun x53 s =>
 kCond x53
(kSub x39 (.i .i64 (.ofNat 1)) fun x54 =>
 q34 x35 x36 x37 x38 x54 s)
(kGtr x38 x39 fun x55 =>
 kCond x55
(kIaddr 2 s x35 x36 fun x56 s =>
 kLoadn 2 s x56 fun x57 s =>
 kIaddr 2 s x35 x39 fun x58 s =>
 kLoadn 2 s x58 fun x59 s =>
 kIaddr 2 s x35 x39 fun x60 s =>
 kStore 2 s x60 x57 fun _ s =>
 kIaddr 2 s x35 x36 fun x61 s =>
 kStore 2 s x61 x59 fun _ s =>
 k (.tup [x39, (.b true)]) s)
(kIaddr 2 s x35 x39 fun x62 s =>
 kLoadn 2 s x62 fun x63 s =>
 kIaddr 2 s x35 x38 fun x64 s =>
 kLoadn 2 s x64 fun x65 s =>
 kIaddr 2 s x35 x38 fun x66 s =>
 kStore 2 s x66 x63 fun _ s =>
 kIaddr 2 s x35 x39 fun x67 s =>
 kStore 2 s x67 x65 fun _ s =>
 kAdd x38 (.i .i64 (.ofNat 1)) fun x68 =>
 kSub x39 (.i .i64 (.ofNat 1)) fun x69 =>
 lp (fun (_ _ _ _ _ : D) (_ : LS) => none) (fun (q70 : D → D → D → D → D → LS → Rs) (x71 x72 x73 x74 x75 : D) (s : LS) =>
 lp (fun (_ _ _ _ _ : D) (_ : LS) => none) (fun (q76 : D → D → D → D → D → LS → Rs) (x77 x78 x79 x80 x81 : D) (s : LS) =>
 kLeq x80 x81 fun x82 =>
 kGuard x82 true (fun k => k x79 s) s fun x83 s =>
 kGuard x82 true (fun k => k x77 s) s fun x84 s =>
 kGuard x82 true (fun k => k x80 s) s fun x85 s =>
 kGuard x82 true (fun k => kIaddr 2 s x84 x85 k) s fun x86 s =>
 kGuard x82 true (fun k => kLoadn 2 s x86 k) s fun x87 s =>
 kGuard x82 true (fun k => k x77 s) s fun x88 s =>
 kGuard x82 true (fun k => k x78 s) s fun x89 s =>
 kGuard x82 true (fun k => kIaddr 2 s x88 x89 k) s fun x90 s =>
 kGuard x82 true (fun k => kLoadn 2 s x90 k) s fun x91 s =>
 kGuard x82 true (fun k => dynK (TD204 φ) false x83 [x87, x91] s k) s fun x92 s =>
 kGuard x82 true (fun k => kLss x92 (.i .i64 (.ofNat 0)) fun d => k d s) s fun x93 s =>
 kPick x82 x93 (.b false) s fun x94 s =>
 kCond x94
(kAdd x80 (.i .i64 (.ofNat 1)) fun x95 =>
 q76 x77 x78 x79 x95 x81 s)
(lp (fun (_ _ _ _ _ : D) (_ : LS) => none) (fun (q96 : D → D → D → D → D → LS → Rs) (x97 x98 x99 x100 x101 : D) (s : LS) =>
 kLeq x100 x101 fun x102 =>
 kGuard x102 true (fun k => k x99 s) s fun x103 s =>
 kGuard x102 true (fun k => k x97 s) s fun x104 s =>
 kGuard x102 true (fun k => k x101 s) s fun x105 s =>
 kGuard x102 true (fun k => kIaddr 2 s x104 x105 k) s fun x106 s =>
 kGuard x102 true (fun k => kLoadn 2 s x106 k) s fun x107 s =>
 kGuard x102 true (fun k => k x97 s) s fun x108 s =>
 kGuard x102 true (fun k => k x98 s) s fun x109 s =>
 kGuard x102 true (fun k => kIaddr 2 s x108 x109 k) s fun x110 s =>
 kGuard x102 true (fun k => kLoadn 2 s x110 k) s fun x111 s =>
 kGuard x102 true (fun k => dynK (TD204 φ) false x103 [x107, x111] s k) s fun x112 s =>
 kGuard x102 true (fun k => kLss x112 (.i .i64 (.ofNat 0)) fun d => k d s) s fun x113 s =>
 kGuard x102 true (fun k => kNot x113 s k) s fun x114 s =>
 kPick x102 x114 (.b false) s fun x115 s =>
 kCond x115
(kSub x101 (.i .i64 (.ofNat 1)) fun x116 =>
 q96 x97 x98 x99 x100 x116 s)
(kGtr x100 x101 fun x117 =>
 kCond x117
(kIaddr 2 s x97 x98 fun x118 s =>
 kLoadn 2 s x118 fun x119 s =>
 kIaddr 2 s x97 x101 fun x120 s =>
 kLoadn 2 s x120 fun x121 s =>
 kIaddr 2 s x97 x101 fun x122 s =>
 kStore 2 s x122 x119 fun _ s =>
 kIaddr 2 s x97 x98 fun x123 s =>
 kStore 2 s x123 x121 fun _ s =>
 k (.tup [x101, (.b false)]) s)
(kIaddr 2 s x97 x101 fun x124 s =>
 kLoadn 2 s x124 fun x125 s =>
 kIaddr 2 s x97 x100 fun x126 s =>
 kLoadn 2 s x126 fun x127 s =>
 kIaddr 2 s x97 x100 fun x128 s =>
 kStore 2 s x128 x125 fun _ s =>
 kIaddr 2 s x97 x101 fun x129 s =>
 kStore 2 s x129 x127 fun _ s =>
 kAdd x100 (.i .i64 (.ofNat 1)) fun x130 =>
 kSub x101 (.i .i64 (.ofNat 1)) fun x131 =>
 q70 x97 x98 x99 x130 x131 s))) φ x77 x78 x79 x80 x81 s)) φ x71 x72 x73 x74 x75 s) φ x35 x36 x37 x68 x69 s))) φ x15 x16 x17 x18 x19 s)) φ a1 a2 a5 x12 x13 s)
def T205 (φ : Nat) : FTab := setT (T204 φ) 204 (.mem (R_slices_partitionCmpFunc_api_FPower φ))
def TD205 (φ : Nat) : FTab := TD204 φ
def Q_slices_pdqsortCmpFunc_api_FPower (φ : Nat) (ih : List D → LS → (D → LS → Rs) → Rs) : List D → LS → (D → LS → Rs) → Rs :=
fun as s k =>
 u1 as fun a1 r95 =>
 u1 r95 fun a2 r96 =>
 u1 r96 fun a3 r97 =>
 u1 r97 fun a4 r98 =>
 u1 r98 fun a5 r99 =>
 u0 r99 (
 lp (fun (_ _ _ _ _ _ _ : D) (_ : LS) => none) (fun (q6 : D → D → D → D → D → D → D → LS → Rs) (x7 x8 x9 x10 x11 x12 x13 : D) (s : LS) =>
 kSub x9 x8 fun x14 =>
 kLeq x14 (.i .i64 (.ofNat 12)) fun x15 =>
 kCond x15
((R_slices_insertionSortCmpFunc_api_FPower φ) [x7, x8, x9, x11] s fun x16 s =>
 k (.tup []) s)
(kEql x10 (.i .i64 (.ofNat 0)) fun x17 =>
 kCond x17
((R_slices_heapSortCmpFunc_api_FPower φ) [x7, x8, x9, x11] s fun x18 s =>
 k (.tup []) s)
(jn (fun (x20 x21 x22 x23 x24 x25 x26 x27 : D) (s : LS) =>
(R_slices_choosePivotCmpFunc_api_FPower φ) [x20, x21, x22, x24] s fun x28 s =>
 kExt x28 0 s fun x29 s =>
 kExt x28 1 s fun x30 s =>
 jn (fun (x32 x33 x34 x35 x36 x37 x38 x39 x40 x41 : D) (s : LS) =>
 jn (fun (x43 x44 x45 x46 x47 x48 x49 x50 x51 : D) (s : LS) =>
 kGtr x44 (.i .i64 (.ofNat 0)) fun x52 =>
 kGuard x52 true (fun k => k x47 s) s fun x53 s =>
 kGuard x52 true (fun k => k x43 s) s fun x54 s =>
 kGuard x52 true (fun k => k x44 s) s fun x55 s =>
 kGuard x52 true (fun k => kSub x55 (.i .i64 (.ofNat 1)) fun d => k d s) s fun x56 s =>
 kGuard x52 true (fun k => kIaddr 2 s x54 x56 k) s fun x57 s =>
 kGuard x52 true (fun k => kLoadn 2 s x57 k) s fun x58 s =>
 kGuard x52 true (fun k => k x43 s) s fun x59 s =>
 kGuard x52 true (fun k => k x51 s) s fun x60 s =>
 kGuard x52 true (fun k => kIaddr 2 s x59 x60 k) s fun x61 s =>
 kGuard x52 true (fun k => kLoadn 2 s x61 k) s fun x62 s =>
 kGuard x52 true (fun k => dynK (cnd false (setT (TD205 φ) 205 (.mem ih)) (TD205 φ)) false x53 [x58, x62] s k) s fun x63 s =>
 kGuard x52 true (fun k => kLss x63 (.i .i64 (.ofNat 0)) fun d => k d s) s fun x64 s =>
 kGuard x52 true (fun k => kNot x64 s k) s fun x65 s =>
 kPick x52 x65 (.b false) s fun x66 s =>
 kCond x66
((R_slices_partitionEqualCmpFunc_api_FPower φ) [x43, x44, x45, x51, x47] s fun x67 s =>
 q6 x43 x67 x45 x46 x47 x48 x49 s)
((R_slices_partitionCmpFunc_api_FPower φ) [x43, x44, x45, x51, x47] s fun x68 s =>
 kExt x68 0 s fun x69 s =>
 kExt x68 1 s fun x70 s =>
 kSub x69 x44 fun x71 =>
 kSub x45 x69 fun x72 =>
 kQuo x50 (.i .i64 (.ofNat 8)) fun x73 =>
 kLss x71 x72 fun x74 =>
 kCond x74
(kGeq x71 x73 fun x75 =>
 ih [x43, x44, x69, x46, x47] s fun x76 s =>
 kAdd x69 (.i .i64 (.ofNat 1)) fun x77 =>
 q6 x43 x77 x45 x46 x47 x75 x70 s)
(kGeq x72 x73 fun x78 =>
 kAdd x69 (.i .i64 (.ofNat 1)) fun x79 =>
 ih [x43, x79, x45, x46, x47] s fun x80 s =>
 q6 x43 x44 x69 x46 x47 x78 x70 s))) fun j42 =>
 kGuard x37 true (fun k => k x38 s) s fun x81 s =>
 kPick x37 x81 (.b false) s fun x82 s =>
 kGuard x82 true (fun k => k x41 s) s fun x83 s =>
 kGuard x82 true (fun k => kEql x83 (.i .i64 (.ofNat 1)) fun d => k d s) s fun x84 s =>
 kPick x82 x84 (.b false) s fun x85 s =>
 kCond x85
((R_slices_partialInsertionSortCmpFunc_api_FPower φ) [x32, x33, x34, x36] s fun x86 s =>
 kCond x86
(k (.tup []) s)
(j42 x32 x33 x34 x35 x36 x37 x38 x39 x40 s))
(j42 x32 x33 x34 x35 x36 x37 x38 x39 x40 s)) fun j31 =>
 kEql x30 (.i .i64 (.ofNat 2)) fun x87 =>
 kCond x87
((R_slices_reverseRangeCmpFunc_api_FPower φ) [x20, x21, x22, x24] s fun x88 s =>
 kSub x22 (.i .i64 (.ofNat 1)) fun x89 =>
 kSub x29 x21 fun x90 =>
 kSub x89 x90 fun x91 =>
 j31 x20 x21 x22 x23 x24 x25 x26 x27 x91 (.i .i64 (.ofNat 1)) s)
(j31 x20 x21 x22 x23 x24 x25 x26 x27 x29 x30 s)) fun j19 =>
 kNot x12 s fun x92 s =>
 kCond x92
((R_slices_breakPatternsCmpFunc_api_FPower φ) [x7, x8, x9, x11] s fun x93 s =>
 kSub x10 (.i .i64 (.ofNat 1)) fun x94 =>
 j19 x7 x8 x9 x94 x11 x12 x13 x14 s)
(j19 x7 x8 x9 x10 x11 x12 x13 x14 s)))) φ a1 a2 a3 a4 a5 (.b true) (.b true) s)
def R_slices_pdqsortCmpFunc_api_FPower (φ : Nat) : List D → LS → (D → LS → Rs) → Rs := lp (fun _ _ _ => none) (Q_slices_pdqsortCmpFunc_api_FPower φ) φ
def T206 (φ : Nat) : FTab := setT (T205 φ) 205 (.mem (R_slices_pdqsortCmpFunc_api_FPower φ))
def TD206 (φ : Nat) : FTab := TD205 φ
def R_slices_SortFunc_api_FPower_api_FPower (φ : Nat) : List D → LS → (D → LS → Rs) → Rs :=
fun as s k =>
 u1 as fun a1 r7 =>
 u1 r7 fun a2 r8 =>
 u0 r8 (
 kLen a1 s fun x3 s =>
 kToInt .u64 x3 s fun x4 s =>
 isoK (R_math_bits_Len φ) [x4] s fun x5 s =>
(R_slices_pdqsortCmpFunc_api_FPower φ) [a1, (.i .i64 (.ofNat 0)), x3, x5, a2] s fun x6 s =>
 k (.tup []) s)
def T207 (φ : Nat) : FTab := setT (T206 φ) 206 (.mem (R_slices_SortFunc_api_FPower_api_FPower φ))
def TD207 (φ : Nat) : FTab := TD206 φ
def R_fieldfactor_factor (φ : Nat) : List D → Option D :=
fun as =>
(fun (s : LS) =>
 u1 as fun a1 r7 =>
 u1 r7 fun a2 r8 =>
 u0 r8 (
 kBox a1 s fun x3 s =>
 kLoadn 1 s x3 fun x4 s =>
 isoK (R_ff_Factor φ) [x4, a2] s fun x5 s =>
(R_slices_SortFunc_api_FPower_api_FPower φ) [x5, (.fn 192 [])] s fun x6 s =>
 retK false s x5 some)) s0
def k_fieldfactor_factor_0 : List D := [(.agg [(qi [(true,2),(false,0),(false,0),(false,0),(false,1)] false)]), (.tree [(qi [(true,2)] true), (.tree [] 0 true), (qi [(false,1)] true)] 3 false)]
def v_fieldfactor_factor_0 : D := (.tree [(.tree [(qi [(false,0),(false,0),(true,1)] true), (qi [(false,1)] true)] 2 false), (.i .i64 (.ofNat 1)), (.tree [(qi [(false,0),(false,0),(false,1)] true), (qi [(false,1)] true)] 2 false), (.i .i64 (.ofNat 1))] 2 false)
def k_fieldfactor_factor_1 : List D := [(.agg [(qi [(true,2),(false,0),(false,1)] false)]), (.tree [(qi [(false,1)] true), (.tree [] 0 true), (qi [(false,1)] true)] 3 false)]
def v_fieldfactor_factor_1 : D := (.tree [(.tree [(qi [(false,1)] true), (.tree [] 0 true), (qi [(false,1)] true)] 3 false), (.i .i64 (.ofNat 1))] 1 false)
def k_fieldfactor_factor_2 : List D := [(.agg [(qi [(true,1),(true,3),(false,0),(false,1)] false)]), (.tree [(qi [(true,1)] true), (qi [(true,3)] true), (.tree [] 0 true), (qi [(false,1)] true)] 4 false)]
def v_fieldfactor_factor_2 : D := (.tree [(.tree [(qi [(false,0),(true,1)] true), (qi [(false,1)] true)] 2 false), (.i .i64 (.ofNat 1)), (.tree [(qi [(true,2),(false,0),(false,1)] true), (qi [(false,1)] true)] 2 false), (.i .i64 (.ofNat 1)), (.tree [(qi [(false,2),(false,1),(true,1)] true), (qi [(false,1)] true)] 2 false), (.i .i64 (.ofNat 1))] 3 false)
def B_fieldfactor_factor : List (List D × D) := [(k_fieldfactor_factor_0, v_fieldfactor_factor_0), (k_fieldfactor_factor_1, v_fieldfactor_factor_1), (k_fieldfactor_factor_2, v_fieldfactor_factor_2)]
def T208 (φ : Nat) : FTab := setT (T207 φ) 207 (.iso (tabM B_fieldfactor_factor (R_fieldfactor_factor φ)))
def TD208 (φ : Nat) : FTab := TD207 φ
def R_fieldfactor_linear (φ : Nat) : List D → Option D :=
fun as =>
(fun (s : LS) =>
 u1 as fun a1 r32 =>
 u1 r32 fun a2 r33 =>
 u0 r33 (
 jn (fun (x4 : D) (s : LS) =>
 retK false s x4 some) fun j3 =>
 kLen a1 s fun x5 s =>
 lp (fun (_ _ _ _ _ : D) (_ : LS) => none) (fun (q6 : D → D → D → D → D → LS → Rs) (x7 x8 x9 x10 x11 : D) (s : LS) =>
 kLss x11 x10 fun x12 =>
 kCond x12
(jn (fun (x14 x15 x16 x17 x18 : D) (s : LS) =>
 kAdd x18 (.i .i64 (.ofNat 1)) fun x19 =>
 q6 x14 x15 x16 x17 x19 s) fun j13 =>
 kLen x9 s fun x20 s =>
 kEql x20 x8 fun x21 =>
 kCond x21
(j3 x9 s)
(kIaddr 2 s x7 x11 fun x22 s =>
 kFaddr 0 s x22 fun x23 s =>
 kLoad1 s x23 fun x24 s =>
 kLen x24 s fun x25 s =>
 kEql x25 (.i .i64 (.ofNat 2)) fun x26 =>
 kCond x26
(kIaddr 2 s x7 x11 fun x27 s =>
 kFaddr 0 s x27 fun x28 s =>
 kLoad1 s x28 fun x29 s =>
 kBsl 1 [(.tree [] 0 true)] [(0, 1, x29)] s fun x30 s =>
 kApp 1 24 s x9 x30 fun x31 s =>
 j13 x7 x8 x31 x10 x11 s)
(j13 x7 x8 x9 x10 x11 s)))
(j3 x9 s)) φ a1 a2 (.tree [] 0 true) x5 (.i .i64 (.ofNat 0)) s)) s0
def T209 (φ : Nat) : FTab := setT (T208 φ) 208 (.iso (R_fieldfactor_linear φ))
def TD209 (φ : Nat) : FTab := TD208 φ
def R_exact_PLarge (φ : Nat) : List D → Option D :=
fun as =>
(fun (s : LS) =>
 u1 as fun a1 r7 =>
 u0 r7 (
 kLen a1 s fun x2 s =>
 kGtr x2 (.i .i64 (.ofNat 65)) fun x3 =>
 kGuard x3 false (fun k => k a1 s) s fun x4 s =>
 kGuard x3 false (fun k => (R_slices_ContainsFunc_api_Poly_api_Rat φ) [x4, (.fn 49 [])] s k) s fun x5 s =>
 kPick x3 (.b true) x5 s fun x6 s =>
 retK false s x6 some)) s0
def T210 (φ : Nat) : FTab := setT (T209 φ) 209 (.iso (R_exact_PLarge φ))
def TD210 (φ : Nat) : FTab := cnd true (setT (TD209 φ) 209 (.iso (R_exact_PLarge φ))) (TD209 φ)
def R_slices_IndexFunc_api_Poly_api_Poly (φ : Nat) : List D → LS → (D → LS → Rs) → Rs :=
fun as s k =>
 u1 as fun a1 r14 =>
 u1 r14 fun a2 r15 =>
 u0 r15 (
 kLen a1 s fun x3 s =>
 lp (fun (_ _ _ _ : D) (_ : LS) => none) (fun (q4 : D → D → D → D → LS → Rs) (x5 x6 x7 x8 : D) (s : LS) =>
 kLss x8 x7 fun x9 =>
 kCond x9
(kIaddr 1 s x5 x8 fun x10 s =>
 kLoad1 s x10 fun x11 s =>
 dynK (TD210 φ) false x6 [x11] s fun x12 s =>
 kCond x12
(k x8 s)
(kAdd x8 (.i .i64 (.ofNat 1)) fun x13 =>
 q4 x5 x6 x7 x13 s))
(k (.i .i64 (.negSucc 0)) s)) φ a1 a2 x3 (.i .i64 (.ofNat 0)) s)
def T211 (φ : Nat) : FTab := setT (T210 φ) 210 (.mem (R_slices_IndexFunc_api_Poly_api_Poly φ))
def TD211 (φ : Nat) : FTab := TD210 φ
def R_slices_ContainsFunc_api_Poly_api_Poly (φ : Nat) : List D → LS → (D → LS → Rs) → Rs :=
fun as s k =>
 u1 as fun a1 r5 =>
 u1 r5 fun a2 r6 =>
 u0 r6 (
(R_slices_IndexFunc_api_Poly_api_Poly φ) [a1, a2] s fun x3 s =>
 kGeq x3 (.i .i64 (.ofNat 0)) fun x4 =>
 k x4 s)
def T212 (φ : Nat) : FTab := setT (T211 φ) 211 (.mem (R_slices_ContainsFunc_api_Poly_api_Poly φ))
def TD212 (φ : Nat) : FTab := TD211 φ
def R_slices_insertionSortCmpFunc_api_Poly (φ : Nat) : List D → LS → (D → LS → Rs) → Rs :=
fun as s k =>
 u1 as fun a1 r44 =>
 u1 r44 fun a2 r45 =>
 u1 r45 fun a3 r46 =>
 u1 r46 fun a4 r47 =>
 u0 r47 (
 kAdd a2 (.i .i64 (.ofNat 1)) fun x5 =>
 lp (fun (_ _ _ _ _ : D) (_ : LS) => none) (fun (q6 : D → D → D → D → D → LS → Rs) (x7 x8 x9 x10 x11 : D) (s : LS) =>
 kLss x11 x9 fun x12 =>
 kCond x12
(lp (fun (_ _ _ _ _ _ : D) (_ : LS) => none) (fun (q13 : D → D → D → D → D → D → LS → Rs) (x14 x15 x16 x17 x18 x19 : D) (s : LS) =>
 kGtr x19 x15 fun x20 =>
 kGuard x20 true (fun k => k x17 s) s fun x21 s =>
 kGuard x20 true (fun k => k x14 s) s fun x22 s =>
 kGuard x20 true (fun k => k x19 s) s fun x23 s =>
 kGuard x20 true (fun k => kIaddr 1 s x22 x23 k) s fun x24 s =>
 kGuard x20 true (fun k => kLoad1 s x24 k) s fun x25 s =>
 kGuard x20 true (fun k => k x14 s) s fun x26 s =>
 kGuard x20 true (fun k => k x19 s) s fun x27 s =>
 kGuard x20 true (fun k => kSub x27 (.i .i64 (.ofNat 1)) fun d => k d s) s fun x28 s =>
 kGuard x20 true (fun k => kIaddr 1 s x26 x28 k) s fun x29 s =>
 kGuard x20 true (fun k => kLoad1 s x29 k) s fun x30 s =>
 kGuard x20 true (fun k => dynK (TD212 φ) false x21 [x25, x30] s k) s fun x31 s =>
 kGuard x20 true (fun k => kLss x31 (.i .i64 (.ofNat 0)) fun d => k d s) s fun x32 s =>
 kPick x20 x32 (.b false) s fun x33 s =>
 kCond x33
(kSub x19 (.i .i64 (.ofNat 1)) fun x34 =>
 kSub x19 (.i .i64 (.ofNat 1)) fun x35 =>
 kIaddr 1 s x14 x35 fun x36 s =>
 kLoad1 s x36 fun x37 s =>
 kIaddr 1 s x14 x19 fun x38 s =>
 kLoad1 s x38 fun x39 s =>
 kIaddr 1 s x14 x19 fun x40 s =>
 kStore 1 s x40 x37 fun _ s =>
 kIaddr 1 s x14 x34 fun x41 s =>
 kStore 1 s x41 x39 fun _ s =>
 kSub x19 (.i .i64 (.ofNat 1)) fun x42 =>
 q13 x14 x15 x16 x17 x18 x42 s)
(kAdd x18 (.i .i64 (.ofNat 1)) fun x43 =>
 q6 x14 x15 x16 x17 x43 s)) φ x7 x8 x9 x10 x11 x11 s)
(k (.tup []) s)) φ a1 a2 a3 a4 x5 s)
def T213 (φ : Nat) : FTab := setT (T212 φ) 212 (.mem (R_slices_insertionSortCmpFunc_api_Poly φ))
def TD213 (φ : Nat) : FTab := TD212 φ
def R_slices_siftDownCmpFunc_api_Poly (φ : Nat) : List D → LS → (D → LS → Rs) → Rs :=
fun as s k =>
 u1 as fun a1 r61 =>
 u1 r61 fun a2 r62 =>
 u1 r62 fun a3 r63 =>
 u1 r63 fun a4 r64 =>
 u1 r64 fun a5 r65 =>
 u0 r65 (
 lp (fun (_ _ _ _ _ : D) (_ : LS) => none) (fun (q6 : D → D → D → D → D → LS → Rs) (x7 x8 x9 x10 x11 : D) (s : LS) =>
 kMul (.i .i64 (.ofNat 2)) x11 fun x12 =>
 kAdd x12 (.i .i64 (.ofNat 1)) fun x13 =>
 kGeq x13 x8 fun x14 =>
 kCond x14
(k (.tup []) s)
(jn (fun (x16 x17 x18 x19 x20 x21 : D) (s : LS) =>
 kAdd x18 x20 fun x22 =>
 kIaddr 1 s x16 x22 fun x23 s =>
 kLoad1 s x23 fun x24 s =>
 kAdd x18 x21 fun x25 =>
 kIaddr 1 s x16 x25 fun x26 s =>
 kLoad1 s x26 fun x27 s =>
 dynK (TD213 φ) false x19 [x24, x27] s fun x28 s =>
 kLss x28 (.i .i64 (.ofNat 0)) fun x29 =>
 kNot x29 s fun x30 s =>
 kCond x30
(k (.tup []) s)
(kAdd x18 x20 fun x31 =>
 kAdd x18 x21 fun x32 =>
 kAdd x18 x21 fun x33 =>
 kIaddr 1 s x16 x33 fun x34 s =>
 kLoad1 s x34 fun x35 s =>
 kAdd x18 x20 fun x36 =>
 kIaddr 1 s x16 x36 fun x37 s =>
 kLoad1 s x37 fun x38 s =>
 kIaddr 1 s x16 x31 fun x39 s =>
 kStore 1 s x39 x35 fun _ s =>
 kIaddr 1 s x16 x32 fun x40 s =>
 kStore 1 s x40 x38 fun _ s =>
 q6 x16 x17 x18 x19 x21 s)) fun j15 =>
 kAdd x13 (.i .i64 (.ofNat 1)) fun x41 =>
 kLss x41 x8 fun x42 =>
 kGuard x42 true (fun k => k x10 s) s fun x43 s =>
 kGuard x42 true (fun k => k x7 s) s fun x44 s =>
 kGuard x42 true (fun k => k x9 s) s fun x45 s =>
 kGuard x42 true (fun k => k x13 s) s fun x46 s =>
 kGuard x42 true (fun k => kAdd x45 x46 fun d => k d s) s fun x47 s =>
 kGuard x42 true (fun k => kIaddr 1 s x44 x47 k) s fun x48 s =>
 kGuard x42 true (fun k => kLoad1 s x48 k) s fun x49 s =>
 kGuard x42 true (fun k => k x7 s) s fun x50 s =>
 kGuard x42 true (fun k => k x9 s) s fun x51 s =>
 kGuard x42 true (fun k => k x13 s) s fun x52 s =>
 kGuard x42 true (fun k => kAdd x51 x52 fun d => k d s) s fun x53 s =>
 kGuard x42 true (fun k => kAdd x53 (.i .i64 (.ofNat 1)) fun d => k d s) s fun x54 s =>
 kGuard x42 true (fun k => kIaddr 1 s x50 x54 k) s fun x55 s =>
 kGuard x42 true (fun k => kLoad1 s x55 k) s fun x56 s =>
 kGuard x42 true (fun k => dynK (TD213 φ) false x43 [x49, x56] s k) s fun x57 s =>
 kGuard x42 true (fun k => kLss x57 (.i .i64 (.ofNat 0)) fun d => k d s) s fun x58 s =>
 kPick x42 x58 (.b false) s fun x59 s =>
 kCond x59
(kAdd x13 (.i .i64 (.ofNat 1)) fun x60 =>
 j15 x7 x8 x9 x10 x11 x60 s)
(j15 x7 x8 x9 x10 x11 x13 s))) φ a1 a3 a4 a5 a2 s)
def T214 (φ : Nat) : FTab := setT (T213 φ) 213 (.mem (R_slices_siftDownCmpFunc_api_Poly φ))
def TD214 (φ : Nat) : FTab := TD213 φ
def R_slices_heapSortCmpFunc_api_Poly (φ : Nat) : List D → LS → (D → LS → Rs) → Rs :=
fun as s k =>
 u1 as fun a1 r36 =>
 u1 r36 fun a2 r37 =>
 u1 r37 fun a3 r38 =>
 u1 r38 fun a4 r39 =>
 u0 r39 (
 kSub a3 a2 fun x5 =>
 kSub x5 (.i .i64 (.ofNat 1)) fun x6 =>
 kQuo x6 (.i .i64 (.ofNat 2)) fun x7 =>
 lp (fun (_ _ _ _ _ _ : D) (_ : LS) => none) (fun (q8 : D → D → D → D → D → D → LS → Rs) (x9 x10 x11 x12 x13 x14 : D) (s : LS) =>
 kGeq x14 (.i .i64 (.ofNat 0)) fun x15 =>
 kCond x15
((R_slices_siftDownCmpFunc_api_Poly φ) [x9, x14, x13, x11, x10] s fun x16 s =>
 kSub x14 (.i .i64 (.ofNat 1)) fun x17 =>
 q8 x9 x10 x11 x12 x13 x17 s)
(kSub x13 (.i .i64 (.ofNat 1)) fun x18 =>
 lp (fun (_ _ _ _ _ : D) (_ : LS) => none) (fun (q19 : D → D → D → D → D → LS → Rs) (x20 x21 x22 x23 x24 : D) (s : LS) =>
 kGeq x24 (.i .i64 (.ofNat 0)) fun x25 =>
 kCond x25
(kAdd x22 x24 fun x26 =>
 kAdd x22 x24 fun x27 =>
 kIaddr 1 s x20 x27 fun x28 s =>
 kLoad1 s x28 fun x29 s =>
 kIaddr 1 s x20 x22 fun x30 s =>
 kLoad1 s x30 fun x31 s =>
 kIaddr 1 s x20 x22 fun x32 s =>
 kStore 1 s x32 x29 fun _ s =>
 kIaddr 1 s x20 x26 fun x33 s =>
 kStore 1 s x33 x31 fun _ s =>
(R_slices_siftDownCmpFunc_api_Poly φ) [x20, x23, x24, x22, x21] s fun x34 s =>
 kSub x24 (.i .i64 (.ofNat 1)) fun x35 =>
 q19 x20 x21 x22 x23 x35 s)
(k (.tup []) s)) φ x9 x10 x11 x12 x18 s)) φ a1 a4 a2 (.i .i64 (.ofNat 0)) x5 x7 s)
def T215 (φ : Nat) : FTab := setT (T214 φ) 214 (.mem (R_slices_heapSortCmpFunc_api_Poly φ))
def TD215 (φ : Nat) : FTab := TD214 φ
def R_slices_breakPatternsCmpFunc_api_Poly (φ : Nat) : List D → LS → (D → LS → Rs) → Rs :=
fun as s k =>
 u1 as fun a1 r49 =>
 u1 r49 fun a2 r50 =>
 u1 r50 fun a3 r51 =>
 u1 r51 fun a4 r52 =>
 u0 r52 (
 kSub a3 a2 fun x5 =>
 kGeq x5 (.i .i64 (.ofNat 8)) fun x6 =>
 kCond x6
(kToInt .u64 x5 s fun x7 s =>
 kAlloc [(.i .u64 (.ofNat 0))] s fun x8 s =>
 kStore 1 s x8 x7 fun _ s =>
(R_slices_nextPowerOfTwo φ) [x5] s fun x9 s =>
 kQuo x5 (.i .i64 (.ofNat 4)) fun x10 =>
 kMul x10 (.i .i64 (.ofNat 2)) fun x11 =>
 kAdd a2 x11 fun x12 =>
 kSub x12 (.i .i64 (.ofNat 1)) fun x13 =>
 lp (fun (_ _ _ _ _ _ : D) (_ : LS) => none) (fun (q14 : D → D → D → D → D → D → LS → Rs) (x15 x16 x17 x18 x19 x20 : D) (s : LS) =>
 kQuo x17 (.i .i64 (.ofNat 4)) fun x21 =>
 kMul x21 (.i .i64 (.ofNat 2)) fun x22 =>
 kAdd x16 x22 fun x23 =>
 kAdd x23 (.i .i64 (.ofNat 1)) fun x24 =>
 kLeq x20 x24 fun x25 =>
 kCond x25
(isoK (R_slices_xorshift_Next φ) [x18] s fun x26 s =>
 kSub x19 (.i .u64 (.ofNat 1)) fun x27 =>
 kAnd x26 x27 fun x28 =>
 kToInt .i64 x28 s fun x29 s =>
 jn (fun (x31 x32 x33 x34 x35 x36 x37 : D) (s : LS) =>
 kAdd x32 x37 fun x38 =>
 kAdd x32 x37 fun x39 =>
 kIaddr 1 s x31 x39 fun x40 s =>
 kLoad1 s x40 fun x41 s =>
 kIaddr 1 s x31 x36 fun x42 s =>
 kLoad1 s x42 fun x43 s =>
 kIaddr 1 s x31 x36 fun x44 s =>
 kStore 1 s x44 x41 fun _ s =>
 kIaddr 1 s x31 x38 fun x45 s =>
 kStore 1 s x45 x43 fun _ s =>
 kAdd x36 (.i .i64 (.ofNat 1)) fun x46 =>
 q14 x31 x32 x33 x34 x35 x46 s) fun j30 =>
 kGeq x29 x17 fun x47 =>
 kCond x47
(kSub x29 x17 fun x48 =>
 j30 x15 x16 x17 x18 x19 x20 x48 s)
(j30 x15 x16 x17 x18 x19 x20 x29 s))
(k (.tup []) s)) φ a1 a2 x5 x8 x9 x13 s)
(k (.tup []) s))
def T216 (φ : Nat) : FTab := setT (T215 φ) 215 (.mem (R_slices_breakPatternsCmpFunc_api_Poly φ))
def TD216 (φ : Nat) : FTab := TD215 φ
def R_slices_order2CmpFunc_api_Poly (φ : Nat) : List D → LS → (D → LS → Rs) → Rs :=
fun as s k =>
 u1 as fun a1 r16 =>
 u1 r16 fun a2 r17 =>
 u1 r17 fun a3 r18 =>
 u1 r18 fun a4 r19 =>
 u1 r19 fun a5 r20 =>
 u0 r20 (
 kIaddr 1 s a1 a3 fun x6 s =>
 kLoad1 s x6 fun x7 s =>
 kIaddr 1 s a1 a2 fun x8 s =>
 kLoad1 s x8 fun x9 s =>
 dynK (TD216 φ) false a5 [x7, x9] s fun x10 s =>
 kLss x10 (.i .i64 (.ofNat 0)) fun x11 =>
 kCond x11
(kNilc s a4 fun x12 s =>
 kLoad1 s x12 fun x13 s =>
 kAdd x13 (.i .i64 (.ofNat 1)) fun x14 =>
 kNilc s a4 fun x15 s =>
 kStore 1 s x15 x14 fun _ s =>
 k (.tup [a3, a2]) s)
(k (.tup [a2, a3]) s))
def T217 (φ : Nat) : FTab := setT (T216 φ) 216 (.mem (R_slices_order2CmpFunc_api_Poly φ))
def TD217 (φ : Nat) : FTab := TD216 φ
def R_slices_medianCmpFunc_api_Poly (φ : Nat) : List D → LS → (D → LS → Rs) → Rs :=
fun as s k =>
 u1 as fun a1 r16 =>
 u1 r16 fun a2 r17 =>
 u1 r17 fun a3 r18 =>
 u1 r18 fun a4 r19 =>
 u1 r19 fun a5 r20 =>
 u1 r20 fun a6 r21 =>
 u0 r21 (
(R_slices_order2CmpFunc_api_Poly φ) [a1, a2, a3, a5, a6] s fun x7 s =>
 kExt x7 0 s fun x8 s =>
 kExt x7 1 s fun x9 s =>
(R_slices_order2CmpFunc_api_Poly φ) [a1, x9, a4, a5, a6] s fun x10 s =>
 kExt x10 0 s fun x11 s =>
 kExt x10 1 s fun x12 s =>
(R_slices_order2CmpFunc_api_Poly φ) [a1, x8, x11, a5, a6] s fun x13 s =>
 kExt x13 0 s fun x14 s =>
 kExt x13 1 s fun x15 s =>
 k x15 s)
def T218 (φ : Nat) : FTab := setT (T217 φ) 217 (.mem (R_slices_medianCmpFunc_api_Poly φ))
def TD218 (φ : Nat) : FTab := TD217 φ
def R_slices_medianAdjacentCmpFunc_api_Poly (φ : Nat) : List D → LS → (D → LS → Rs) → Rs :=
fun as s k =>
 u1 as fun a1 r8 =>
 u1 r8 fun a2 r9 =>
 u1 r9 fun a3 r10 =>
 u1 r10 fun a4 r11 =>
 u0 r11 (
 kSub a2 (.i .i64 (.ofNat 1)) fun x5 =>
 kAdd a2 (.i .i64 (.ofNat 1)) fun x6 =>
(R_slices_medianCmpFunc_api_Poly φ) [a1, x5, a2, x6, a3, a4] s fun x7 s =>
 k x7 s)
def T219 (φ : Nat) : FTab := setT (T218 φ) 218 (.mem (R_slices_medianAdjacentCmpFunc_api_Poly φ))
def TD219 (φ : Nat) : FTab := TD218 φ
def R_slices_choosePivotCmpFunc_api_Poly (φ : Nat) : List D → LS → (D → LS → Rs) → Rs :=
fun as s k =>
 u1 as fun a1 r35 =>
 u1 r35 fun a2 r36 =>
 u1 r36 fun a3 r37 =>
 u1 r37 fun a4 r38 =>
 u0 r38 (
 kSub a3 a2 fun x5 =>
 kAlloc [(.i .i64 (.ofNat 0))] s fun x6 s =>
 kQuo x5 (.i .i64 (.ofNat 4)) fun x7 =>
 kMul x7 (.i .i64 (.ofNat 1)) fun x8 =>
 kAdd a2 x8 fun x9 =>
 kQuo x5 (.i .i64 (.ofNat 4)) fun x10 =>
 kMul x10 (.i .i64 (.ofNat 2)) fun x11 =>
 kAdd a2 x11 fun x12 =>
 kQuo x5 (.i .i64 (.ofNat 4)) fun x13 =>
 kMul x13 (.i .i64 (.ofNat 3)) fun x14 =>
 kAdd a2 x14 fun x15 =>
 jn (fun (x17 x18 : D) (s : LS) =>
 kLoad1 s x17 fun x19 s =>
 kEql x19 (.i .i64 (.ofNat 0)) fun x20 =>
 kCond x20
(k (.tup [x18, (.i .i64 (.ofNat 1))]) s)
(kEql x19 (.i .i64 (.ofNat 12)) fun x21 =>
 kCond x21
(k (.tup [x18, (.i .i64 (.ofNat 2))]) s)
(k (.tup [x18, (.i .i64 (.ofNat 0))]) s))) fun j16 =>
 kGeq x5 (.i .i64 (.ofNat 8)) fun x22 =>
 kCond x22
(jn (fun (x24 x25 x26 x27 x28 x29 : D) (s : LS) =>
(R_slices_medianCmpFunc_api_Poly φ) [x24, x27, x28, x29, x26, x25] s fun x30 s =>
 j16 x26 x30 s) fun j23 =>
 kGeq x5 (.i .i64 (.ofNat 50)) fun x31 =>
 kCond x31
((R_slices_medianAdjacentCmpFunc_api_Poly φ) [a1, x9, x6, a4] s fun x32 s =>
(R_slices_medianAdjacentCmpFunc_api_Poly φ) [a1, x12, x6, a4] s fun x33 s =>
(R_slices_medianAdjacentCmpFunc_api_Poly φ) [a1, x15, x6, a4] s fun x34 s =>
 j23 a1 a4 x6 x32 x33 x34 s)
(j23 a1 a4 x6 x9 x12 x15 s))
(j16 x6 x12 s))
def T220 (φ : Nat) : FTab := setT (T219 φ) 219 (.mem (R_slices_choosePivotCmpFunc_api_Poly φ))
def TD220 (φ : Nat) : FTab := TD219 φ
def R_slices_reverseRangeCmpFunc_api_Poly (φ : Nat) : List D → LS → (D → LS → Rs) → Rs :=
fun as s k =>
 u1 as fun a1 r19 =>
 u1 r19 fun a2 r20 =>
 u1 r20 fun a3 r21 =>
 u1 r21 fun a4 r22 =>
 u0 r22 (
 kSub a3 (.i .i64 (.ofNat 1)) fun x5 =>
 lp (fun (_ _ _ : D) (_ : LS) => none) (fun (q6 : D → D → D → LS → Rs) (x7 x8 x9 : D) (s : LS) =>
 kLss x8 x9 fun x10 =>
 kCond x10
(kIaddr 1 s x7 x9 fun x11 s =>
 kLoad1 s x11 fun x12 s =>
 kIaddr 1 s x7 x8 fun x13 s =>
 kLoad1 s x13 fun x14 s =>
 kIaddr 1 s x7 x8 fun x15 s =>
 kStore 1 s x15 x12 fun _ s =>
 kIaddr 1 s x7 x9 fun x16 s =>
 kStore 1 s x16 x14 fun _ s =>
 kAdd x8 (.i .i64 (.ofNat 1)) fun x17 =>
 kSub x9 (.i .i64 (.ofNat 1)) fun x18 =>
 q6 x7 x17 x18 s)
(k (.tup []) s)) φ a1 a2 x5 s)
def T221 (φ : Nat) : FTab := setT (T220 φ) 220 (.mem (R_slices_reverseRangeCmpFunc_api_Poly φ))
def TD221 (φ : Nat) : FTab := TD220 φ
def R_slices_partialInsertionSortCmpFunc_api_Poly (φ : Nat) : List D → LS → (D → LS → Rs) → Rs :=
fun as s k =>
 u1 as fun a1 r121 =>
 u1 r121 fun a2 r122 =>
 u1 r122 fun a3 r123 =>
 u1 r123 fun a4 r124 =>
 u0 r124 (
 kAdd a2 (.i .i64 (.ofNat 1)) fun x5 =>
 lp (fun (_ _ _ _ _ _ : D) (_ : LS) => none) (fun (q6 : D → D → D → D → D → D → LS → Rs) (x7 x8 x9 x10 x11 x12 : D) (s : LS) =>
 kLss x12 (.i .i64 (.ofNat 5)) fun x13 =>
 kCond x13
(jn (fun (x15 x16 x17 x18 x19 x20 : D) (s : LS) =>
 kAdd x20 (.i .i64 (.ofNat 1)) fun x21 =>
 q6 x15 x16 x17 x18 x19 x21 s) fun j14 =>
 lp (fun (_ _ _ _ _ _ : D) (_ : LS) => none) (fun (q22 : D → D → D → D → D → D → LS → Rs) (x23 x24 x25 x26 x27 x28 : D) (s : LS) =>
 kLss x27 x25 fun x29 =>
 kGuard x29 true (fun k => k x26 s) s fun x30 s =>
 kGuard x29 true (fun k => k x23 s) s fun x31 s =>
 kGuard x29 true (fun k => k x27 s) s fun x32 s =>
 kGuard x29 true (fun k => kIaddr 1 s x31 x32 k) s fun x33 s =>
 kGuard x29 true (fun k => kLoad1 s x33 k) s fun x34 s =>
 kGuard x29 true (fun k => k x23 s) s fun x35 s =>
 kGuard x29 true (fun k => k x27 s) s fun x36 s =>
 kGuard x29 true (fun k => kSub x36 (.i .i64 (.ofNat 1)) fun d => k d s) s fun x37 s =>
 kGuard x29 true (fun k => kIaddr 1 s x35 x37 k) s fun x38 s =>
 kGuard x29 true (fun k => kLoad1 s x38 k) s fun x39 s =>
 kGuard x29 true (fun k => dynK (TD221 φ) false x30 [x34, x39] s k) s fun x40 s =>
 kGuard x29 true (fun k => kLss x40 (.i .i64 (.ofNat 0)) fun d => k d s) s fun x41 s =>
 kGuard x29 true (fun k => kNot x41 s k) s fun x42 s =>
 kPick x29 x42 (.b false) s fun x43 s =>
 kCond x43
(kAdd x27 (.i .i64 (.ofNat 1)) fun x44 =>
 q22 x23 x24 x25 x26 x44 x28 s)
(kEql x27 x25 fun x45 =>
 kCond x45
(k (.b true) s)
(kSub x25 x24 fun x46 =>
 kLss x46 (.i .i64 (.ofNat 50)) fun x47 =>
 kCond x47
(k (.b false) s)
(kSub x27 (.i .i64 (.ofNat 1)) fun x48 =>
 kSub x27 (.i .i64 (.ofNat 1)) fun x49 =>
 kIaddr 1 s x23 x49 fun x50 s =>
 kLoad1 s x50 fun x51 s =>
 kIaddr 1 s x23 x27 fun x52 s =>
 kLoad1 s x52 fun x53 s =>
 kIaddr 1 s x23 x27 fun x54 s =>
 kStore 1 s x54 x51 fun _ s =>
 kIaddr 1 s x23 x48 fun x55 s =>
 kStore 1 s x55 x53 fun _ s =>
 jn (fun (x57 x58 x59 x60 x61 x62 : D) (s : LS) =>
 kSub x59 x61 fun x63 =>
 kGeq x63 (.i .i64 (.ofNat 2)) fun x64 =>
 kCond x64
(kAdd x61 (.i .i64 (.ofNat 1)) fun x65 =>
 lp (fun (_ _ _ _ _ _ _ : D) (_ : LS) => none) (fun (q66 : D → D → D → D → D → D → D → LS → Rs) (x67 x68 x69 x70 x71 x72 x73 : D) (s : LS) =>
 kLss x73 x69 fun x74 =>
 kCond x74
(kIaddr 1 s x67 x73 fun x75 s =>
 kLoad1 s x75 fun x76 s =>
 kSub x73 (.i .i64 (.ofNat 1)) fun x77 =>
 kIaddr 1 s x67 x77 fun x78 s =>
 kLoad1 s x78 fun x79 s =>
 dynK (TD221 φ) false x70 [x76, x79] s fun x80 s =>
 kLss x80 (.i .i64 (.ofNat 0)) fun x81 =>
 kNot x81 s fun x82 s =>
 kCond x82
(j14 x67 x68 x69 x70 x71 x72 s)
(kSub x73 (.i .i64 (.ofNat 1)) fun x83 =>
 kSub x73 (.i .i64 (.ofNat 1)) fun x84 =>
 kIaddr 1 s x67 x84 fun x85 s =>
 kLoad1 s x85 fun x86 s =>
 kIaddr 1 s x67 x73 fun x87 s =>
 kLoad1 s x87 fun x88 s =>
 kIaddr 1 s x67 x73 fun x89 s =>
 kStore 1 s x89 x86 fun _ s =>
 kIaddr 1 s x67 x83 fun x90 s =>
 kStore 1 s x90 x88 fun _ s =>
 kAdd x73 (.i .i64 (.ofNat 1)) fun x91 =>
 q66 x67 x68 x69 x70 x71 x72 x91 s))
(j14 x67 x68 x69 x70 x71 x72 s)) φ x57 x58 x59 x60 x61 x62 x65 s)
(j14 x57 x58 x59 x60 x61 x62 s)) fun j56 =>
 kSub x27 x24 fun x92 =>
 kGeq x92 (.i .i64 (.ofNat 2)) fun x93 =>
 kCond x93
(kSub x27 (.i .i64 (.ofNat 1)) fun x94 =>
 lp (fun (_ _ _ _ _ _ _ : D) (_ : LS) => none) (fun (q95 : D → D → D → D → D → D → D → LS → Rs) (x96 x97 x98 x99 x100 x101 x102 : D) (s : LS) =>
 kGeq x102 (.i .i64 (.ofNat 1)) fun x103 =>
 kCond x103
(kIaddr 1 s x96 x102 fun x104 s =>
 kLoad1 s x104 fun x105 s =>
 kSub x102 (.i .i64 (.ofNat 1)) fun x106 =>
 kIaddr 1 s x96 x106 fun x107 s =>
 kLoad1 s x107 fun x108 s =>
 dynK (TD221 φ) false x99 [x105, x108] s fun x109 s =>
 kLss x109 (.i .i64 (.ofNat 0)) fun x110 =>
 kNot x110 s fun x111 s =>
 kCond x111
(j56 x96 x97 x98 x99 x100 x101 s)
(kSub x102 (.i .i64 (.ofNat 1)) fun x112 =>
 kSub x102 (.i .i64 (.ofNat 1)) fun x113 =>
 kIaddr 1 s x96 x113 fun x114 s =>
 kLoad1 s x114 fun x115 s =>
 kIaddr 1 s x96 x102 fun x116 s =>
 kLoad1 s x116 fun x117 s =>
 kIaddr 1 s x96 x102 fun x118 s =>
 kStore 1 s x118 x115 fun _ s =>
 kIaddr 1 s x96 x112 fun x119 s =>
 kStore 1 s x119 x117 fun _ s =>
 kSub x102 (.i .i64 (.ofNat 1)) fun x120 =>
 q95 x96 x97 x98 x99 x100 x101 x120 s))
(j56 x96 x97 x98 x99 x100 x101 s)) φ x23 x24 x25 x26 x27 x28 x94 s)
(j56 x23 x24 x25 x26 x27 x28 s))))) φ x7 x8 x9 x10 x11 x12 s)
(k (.b false) s)) φ a1 a2 a3 a4 x5 (.i .i64 (.ofNat 0)) s)
def T222 (φ : Nat) : FTab := setT (T221 φ) 221 (.mem (R_slices_partialInsertionSortCmpFunc_api_Poly φ))
def TD222 (φ : Nat) : FTab := TD221 φ
def R_slices_partitionEqualCmpFunc_api_Poly (φ : Nat) : List D → LS → (D → LS → Rs) → Rs :=
fun as s k =>
 u1 as fun a1 r70 =>
 u1 r70 fun a2 r71 =>
 u1 r71 fun a3 r72 =>
 u1 r72 fun a4 r73 =>
 u1 r73 fun a5 r74 =>
 u0 r74 (
 kIaddr 1 s a1 a4 fun x6 s =>
 kLoad1 s x6 fun x7 s =>
 kIaddr 1 s a1 a2 fun x8 s =>
 kLoad1 s x8 fun x9 s =>
 kIaddr 1 s a1 a2 fun x10 s =>
 kStore 1 s x10 x7 fun _ s =>
 kIaddr 1 s a1 a4 fun x11 s =>
 kStore 1 s x11 x9 fun _ s =>
 kAdd a2 (.i .i64 (.ofNat 1)) fun x12 =>
 kSub a3 (.i .i64 (.ofNat 1)) fun x13 =>
 lp (fun (_ _ _ _ _ : D) (_ : LS) => none) (fun (q14 : D → D → D → D → D → LS → Rs) (x15 x16 x17 x18 x19 : D) (s : LS) =>
 lp (fun (_ _ _ _ _ : D) (_ : LS) => none) (fun (q20 : D → D → D → D → D → LS → Rs) (x21 x22 x23 x24 x25 : D) (s : LS) =>
 kLeq x24 x25 fun x26 =>
 kGuard x26 true (fun k => k x23 s) s fun x27 s =>
 kGuard x26 true (fun k => k x21 s) s fun x28 s =>
 kGuard x26 true (fun k => k x22 s) s fun x29 s =>
 kGuard x26 true (fun k => kIaddr 1 s x28 x29 k) s fun x30 s =>
 kGuard x26 true (fun k => kLoad1 s x30 k) s fun x31 s =>
 kGuard x26 true (fun k => k x21 s) s fun x32 s =>
 kGuard x26 true (fun k => k x24 s) s fun x33 s =>
 kGuard x26 true (fun k => kIaddr 1 s x32 x33 k) s fun x34 s =>
 kGuard x26 true (fun k => kLoad1 s x34 k) s fun x35 s =>
 kGuard x26 true (fun k => dynK (TD222 φ) false x27 [x31, x35] s k) s fun x36 s =>
 kGuard x26 true (fun k => kLss x36 (.i .i64 (.ofNat 0)) fun d => k d s) s fun x37 s =>
 kGuard x26 true (fun k => kNot x37 s k) s fun x38 s =>
 kPick x26 x38 (.b false) s fun x39 s =>
 kCond x39
(kAdd x24 (.i .i64 (.ofNat 1)) fun x40 =>
 q20 x21 x22 x23 x40 x25 s)
(lp (fun (_ _ _ _ _ : D) (_ : LS) => none) (fun (q41 : D → D → D → D → D → LS → Rs) (x42 x43 x44 x45 x46 : D) (s : LS) =>
 kLeq x45 x46 fun x47 =>
 kGuard x47 true (fun k => k x44 s) s fun x48 s =>
 kGuard x47 true (fun k => k x42 s) s fun x49 s =>
 kGuard x47 true (fun k => k x43 s) s fun x50 s =>
 kGuard x47 true (fun k => kIaddr 1 s x49 x50 k) s fun x51 s =>
 kGuard x47 true (fun k => kLoad1 s x51 k) s fun x52 s =>
 kGuard x47 true (fun k => k x42 s) s fun x53 s =>
 kGuard x47 true (fun k => k x46 s) s fun x54 s =>
 kGuard x47 true (fun k => kIaddr 1 s x53 x54 k) s fun x55 s =>
 kGuard x47 true (fun k => kLoad1 s x55 k) s fun x56 s =>
 kGuard x47 true (fun k => dynK (TD222 φ) false x48 [x52, x56] s k) s fun x57 s =>
 kGuard x47 true (fun k => kLss x57 (.i .i64 (.ofNat 0)) fun d => k d s) s fun x58 s =>
 kPick x47 x58 (.b false) s fun x59 s =>
 kCond x59
(kSub x46 (.i .i64 (.ofNat 1)) fun x60 =>
 q41 x42 x43 x44 x45 x60 s)
(kGtr x45 x46 fun x61 =>
 kCond x61
(k x45 s)
(kIaddr 1 s x42 x46 fun x62 s =>
 kLoad1 s x62 fun x63 s =>
 kIaddr 1 s x42 x45 fun x64 s =>
 kLoad1 s x64 fun x65 s =>
 kIaddr 1 s x42 x45 fun x66 s =>
 kStore 1 s x66 x63 fun _ s =>
 kIaddr 1 s x42 x46 fun x67 s =>
 kStore 1 s x67 x65 fun _ s =>
 kAdd x45 (.i .i64 (.ofNat 1)) fun x68 =>
 kSub x46 (.i .i64 (.ofNat 1)) fun x69 =>
 q14 x42 x43 x44 x68 x69 s))) φ x21 x22 x23 x24 x25 s)) φ x15 x16 x17 x18 x19 s) φ a1 a2 a5 x12 x13 s)
def T223 (φ : Nat) : FTab := setT (T222 φ) 222 (.mem (R_slices_partitionEqualCmpFunc_api_Poly φ))
def TD223 (φ : Nat) : FTab := TD222 φ
def R_slices_partitionCmpFunc_api_Poly (φ : Nat) : List D → LS → (D → LS → Rs) → Rs :=
fun as s k =>
 u1 as fun a1 r132 =>
 u1 r132 fun a2 r133 =>
 u1 r133 fun a3 r134 =>
 u1 r134 fun a4 r135 =>
 u1 r135 fun a5 r136 =>
 u0 r136 (
 kIaddr 1 s a1 a4 fun x6 s =>
 kLoad1 s x6 fun x7 s =>
 kIaddr 1 s a1 a2 fun x8 s =>
 kLoad1 s x8 fun x9 s =>
 kIaddr 1 s a1 a2 fun x10 s =>
 kStore 1 s x10 x7 fun _ s =>
 kIaddr 1 s a1 a4 fun x11 s =>
 kStore 1 s x11 x9 fun _ s =>
 kAdd a2 (.i .i64 (.ofNat 1)) fun x12 =>
 kSub a3 (.i .i64 (.ofNat 1)) fun x13 =>
 lp (fun (_ _ _ _ _ : D) (_ : LS) => none) (fun (q14 : D → D → D → D → D → LS → Rs) (x15 x16 x17 x18 x19 : D) (s : LS) =>
 kLeq x18 x19 fun x20 =>
 kGuard x20 true (fun k => k x17 s) s fun x21 s =>
 kGuard x20 true (fun k => k x15 s) s fun x22 s =>
 kGuard x20 true (fun k => k x18 s) s fun x23 s =>
 kGuard x20 true (fun k => kIaddr 1 s x22 x23 k) s fun x24 s =>
 kGuard x20 true (fun k => kLoad1 s x24 k) s fun x25 s =>
 kGuard x20 true (fun k => k x15 s) s fun x26 s =>
 kGuard x20 true (fun k => k x16 s) s fun x27 s =>
 kGuard x20 true (fun k => kIaddr 1 s x26 x27 k) s fun x28 s =>
 kGuard x20 true (fun k => kLoad1 s x28 k) s fun x29 s =>
 kGuard x20 true (fun k => dynK (TD223 φ) false x21 [x25, x29] s k) s fun x30 s =>
 kGuard x20 true (fun k => kLss x30 (.i .i64 (.ofNat 0)) fun d => k d s) s fun x31 s =>
 kPick x20 x31 (.b false) s fun x32 s =>
 kCond x32
(kAdd x18 (.i .i64 (.ofNat 1)) fun x33 =>
 q14 x15 x16 x17 x33 x19 s)
(lp (fun (_ _ _ _ _ : D) (_ : LS) => none) (fun (q34 : D → D → D → D → D → LS → Rs) (x35 x36 x37 x38 x39 : D) (s : LS) =>
 kLeq x38 x39 fun x40 =>
 kGuard x40 true (fun k => k x37 s) s fun x41 s =>
 kGuard x40 true (fun k => k x35 s) s fun x42 s =>
 kGuard x40 true (fun k => k x39 s) s fun x43 s =>
 kGuard x40 true (fun k => kIaddr 1 s x42 x43 k) s fun x44 s =>
 kGuard x40 true (fun k => kLoad1 s x44 k) s fun x45 s =>
 kGuard x40 true (fun k => k x35 s) s fun x46 s =>
 kGuard x40 true (fun k => k x36 s) s fun x47 s =>
 kGuard x40 true (fun k => kIaddr 1 s x46 x47 k) s fun x48 s =>
 kGuard x40 true (fun k => kLoad1 s x48 k) s fun x49 s =>
 kGuard x40 true (fun k => dynK (TD223 φ) false x41 [x45, x49] s k) s fun x50 s =>
 kGuard x40 true (fun k => kLss x50 (.i .i64 (.ofNat 0)) fun d => k d s) s fun x51 s =>
 kGuard x40 true (fun k => kNot x51 s k) s fun x52 s =>
 kPick x40 x52 (.b false) s fun x53 s =>
 kCond x53
(kSub x39 (.i .i64 (.ofNat 1)) fun x54 =>
 q34 x35 x36 x37 x38 x54 s)
(kGtr x38 x39 fun x55 =>
 kCond x55
(kIaddr 1 s x35 x36 fun x56 s =>
 kLoad1 s x56 fun x57 s =>
 kIaddr 1 s x35 x39 fun x58 s =>
 kLoad1 s x58 fun x59 s =>
 kIaddr 1 s x35 x39 fun x60 s =>
 kStore 1 s x60 x57 fun _ s =>
 kIaddr 1 s x35 x36 fun x61 s =>
 kStore 1 s x61 x59 fun _ s =>
 k (.tup [x39, (.b true)]) s)
(kIaddr 1 s x35 x39 fun x62 s =>
 kLoad1 s x62 fun x63 s =>
 kIaddr 1 s x35 x38 fun x64 s =>
 kLoad1 s x64 fun x65 s =>
 kIaddr 1 s x35 x38 fun x66 s =>
 kStore 1 s x66 x63 fun _ s =>
 kIaddr 1 s x35 x39 fun x67 s =>
 kStore 1 s x67 x65 fun _ s =>
 kAdd x38 (.i .i64 (.ofNat 1)) fun x68 =>
 kSub x39 (.i .i64 (.ofNat 1)) fun x69 =>
 lp (fun (_ _ _ _ _ : D) (_ : LS) => none) (fun (q70 : D → D → D → D → D → LS → Rs) (x71 x72 x73 x74 x75 : D) (s : LS) =>
 lp (fun (_ _ _ _ _ : D) (_ : LS) => none) (fun (q76 : D → D → D → D → D → LS → Rs) (x77 x78 x79 x80 x81 : D) (s : LS) =>
 kLeq x80 x81 fun x82 =>
 kGuard x82 true (fun k => k x79 s) s fun x83 s =>
 kGuard x82 true (fun k => k x77 s) s fun x84 s =>
 kGuard x82 true (fun k => k x80 s) s fun x85 s =>
 kGuard x82 true (fun k => kIaddr 1 s x84 x85 k) s fun x86 s =>
 kGuard x82 true (fun k => kLoad1 s x86 k) s fun x87 s =>
 kGuard x82 true (fun k => k x77 s) s fun x88 s =>
 kGuard x82 true (fun k => k x78 s) s fun x89 s =>
 kGuard x82 true (fun k => kIaddr 1 s x88 x89 k) s fun x90 s =>
 kGuard x82 true (fun k => kLoad1 s x90 k) s fun x91 s =>
 kGuard x82 true (fun k => dynK (TD223 φ) false x83 [x87, x91] s k) s fun x92 s =>
 kGuard x82 true (fun k => kLss x92 (.i .i64 (.ofNat 0)) fun d => k d s) s fun x93 s =>
 kPick x82 x93 (.b false) s fun x94 s =>
 kCond x94
(kAdd x80 (.i .i64 (.ofNat 1)) fun x95 =>
 q76 x77 x78 x79 x95 x81 s)
(lp (fun (_ _ _ _ _ : D) (_ : LS) => none) (fun (q96 : D → D → D → D → D → LS → Rs) (x97 x98 x99 x100 x101 : D) (s : LS) =>
 kLeq x100 x101 fun x102 =>
 kGuard x102 true (fun k => k x99 s) s fun x103 s =>
 kGuard x102 true (fun k => k x97 s) s fun x104 s =>
 kGuard x102 true (fun k => k x101 s) s fun x105 s =>
 kGuard x102 true (fun k => kIaddr 1 s x104 x105 k) s fun x106 s =>
 kGuard x102 true (fun k => kLoad1 s x106 k) s fun x107 s =>
 kGuard x102 true (fun k => k x97 s) s fun x108 s =>
 kGuard x102 true (fun k => k x98 s) s fun x109 s =>
 kGuard x102 true (fun k => kIaddr 1 s x108 x109 k) s fun x110 s =>
 kGuard x102 true (fun k => kLoad1 s x110 k) s fun x111 s =>
 kGuard x102 true (fun k => dynK (TD223 φ) false x103 [x107, x111] s k) s fun x112 s =>
 kGuard x102 true (fun k => kLss x112 (.i .i64 (.ofNat 0)) fun d => k d s) s fun x113 s =>
 kGuard x102 true (fun k => kNot x113 s k) s fun x114 s =>
 kPick x102 x114 (.b false) s fun x115 s =>
 kCond x115
(kSub x101 (.i .i64 (.ofNat 1)) fun x116 =>
 q96 x97 x98 x99 x100 x116 s)
(kGtr x100 x101 fun x117 =>
 kCond x117
(kIaddr 1 s x97 x98 fun x118 s =>
 kLoad1 s x118 fun x119 s =>
 kIaddr 1 s x97 x101 fun x120 s =>
 kLoad1 s x120 fun x121 s =>
 kIaddr 1 s x97 x101 fun x122 s =>
 kStore 1 s x122 x119 fun _ s =>
 kIaddr 1 s x97 x98 fun x123 s =>
 kStore 1 s x123 x121 fun _ s =>
 k (.tup [x101, (.b false)]) s)
(kIaddr 1 s x97 x101 fun x124 s =>
 kLoad1 s x124 fun x125 s =>
 kIaddr 1 s x97 x100 fun x126 s =>
 kLoad1 s x126 fun x127 s =>
 kIaddr 1 s x97 x100 fun x128 s =>
 kStore 1 s x128 x125 fun _ s =>
 kIaddr 1 s x97 x101 fun x129 s =>
 kStore 1 s x129 x127 fun _ s =>
 kAdd x100 (.i .i64 (.ofNat 1)) fun x130 =>
 kSub x101 (.i .i64 (.ofNat 1)) fun x131 =>
 q70 x97 x98 x99 x130 x131 s))) φ x77 x78 x79 x80 x81 s)) φ x71 x72 x73 x74 x75 s) φ x35 x36 x37 x68 x69 s))) φ x15 x16 x17 x18 x19 s)) φ a1 a2 a5 x12 x13 s)
def T224 (φ : Nat) : FTab := setT (T223 φ) 223 (.mem (R_slices_partitionCmpFunc_api_Poly φ))
def TD224 (φ : Nat) : FTab := TD223 φ
def Q_slices_pdqsortCmpFunc_api_Poly (φ : Nat) (ih : List D → LS → (D → LS → Rs) → Rs) : List D → LS → (D → LS → Rs) → Rs :=
fun as s k =>
 u1 as fun a1 r95 =>
 u1 r95 fun a2 r96 =>
 u1 r96 fun a3 r97 =>
 u1 r97 fun a4 r98 =>
 u1 r98 fun a5 r99 =>
 u0 r99 (
 lp (fun (_ _ _ _ _ _ _ : D) (_ : LS) => none) (fun (q6 : D → D → D → D → D → D → D → LS → Rs) (x7 x8 x9 x10 x11 x12 x13 : D) (s : LS) =>
 kSub x9 x8 fun x14 =>
 kLeq x14 (.i .i64 (.ofNat 12)) fun x15 =>
 kCond x15
((R_slices_insertionSortCmpFunc_api_Poly φ) [x7, x8, x9, x11] s fun x16 s =>
 k (.tup []) s)
(kEql x10 (.i .i64 (.ofNat 0)) fun x17 =>
 kCond x17
((R_slices_heapSortCmpFunc_api_Poly φ) [x7, x8, x9, x11] s fun x18 s =>
 k (.tup []) s)
(jn (fun (x20 x21 x22 x23 x24 x25 x26 x27 : D) (s : LS) =>
(R_slices_choosePivotCmpFunc_api_Poly φ) [x20, x21, x22, x24] s fun x28 s =>
 kExt x28 0 s fun x29 s =>
 kExt x28 1 s fun x30 s =>
 jn (fun (x32 x33 x34 x35 x36 x37 x38 x39 x40 x41 : D) (s : LS) =>
 jn (fun (x43 x44 x45 x46 x47 x48 x49 x50 x51 : D) (s : LS) =>
 kGtr x44 (.i .i64 (.ofNat 0)) fun x52 =>
 kGuard x52 true (fun k => k x47 s) s fun x53 s =>
 kGuard x52 true (fun k => k x43 s) s fun x54 s =>
 kGuard x52 true (fun k => k x44 s) s fun x55 s =>
 kGuard x52 true (fun k => kSub x55 (.i .i64 (.ofNat 1)) fun d => k d s) s fun x56 s =>
 kGuard x52 true (fun k => kIaddr 1 s x54 x56 k) s fun x57 s =>
 kGuard x52 true (fun k => kLoad1 s x57 k) s fun x58 s =>
 kGuard x52 true (fun k => k x43 s) s fun x59 s =>
 kGuard x52 true (fun k => k x51 s) s fun x60 s =>
 kGuard x52 true (fun k => kIaddr 1 s x59 x60 k) s fun x61 s =>
 kGuard x52 true (fun k => kLoad1 s x61 k) s fun x62 s =>
 kGuard x52 true (fun k => dynK (cnd false (setT (TD224 φ) 224 (.mem ih)) (TD224 φ)) false x53 [x58, x62] s k) s fun x63 s =>
 kGuard x52 true (fun k => kLss x63 (.i .i64 (.ofNat 0)) fun d => k d s) s fun x64 s =>
 kGuard x52 true (fun k => kNot x64 s k) s fun x65 s =>
 kPick x52 x65 (.b false) s fun x66 s =>
 kCond x66
((R_slices_partitionEqualCmpFunc_api_Poly φ) [x43, x44, x45, x51, x47] s fun x67 s =>
 q6 x43 x67 x45 x46 x47 x48 x49 s)
((R_slices_partitionCmpFunc_api_Poly φ) [x43, x44, x45, x51, x47] s fun x68 s =>
 kExt x68 0 s fun x69 s =>
 kExt x68 1 s fun x70 s =>
 kSub x69 x44 fun x71 =>
 kSub x45 x69 fun x72 =>
 kQuo x50 (.i .i64 (.ofNat 8)) fun x73 =>
 kLss x71 x72 fun x74 =>
 kCond x74
(kGeq x71 x73 fun x75 =>
 ih [x43, x44, x69, x46, x47] s fun x76 s =>
 kAdd x69 (.i .i64 (.ofNat 1)) fun x77 =>
 q6 x43 x77 x45 x46 x47 x75 x70 s)
(kGeq x72 x73 fun x78 =>
 kAdd x69 (.i .i64 (.ofNat 1)) fun x79 =>
 ih [x43, x79, x45, x46, x47] s fun x80 s =>
 q6 x43 x44 x69 x46 x47 x78 x70 s))) fun j42 =>
 kGuard x37 true (fun k => k x38 s) s fun x81 s =>
 kPick x37 x81 (.b false) s fun x82 s =>
 kGuard x82 true (fun k => k x41 s) s fun x83 s =>
 kGuard x82 true (fun k => kEql x83 (.i .i64 (.ofNat 1)) fun d => k d s) s fun x84 s =>
 kPick x82 x84 (.b false) s fun x85 s =>
 kCond x85
((R_slices_partialInsertionSortCmpFunc_api_Poly φ) [x32, x33, x34, x36] s fun x86 s =>
 kCond x86
(k (.tup []) s)
(j42 x32 x33 x34 x35 x36 x37 x38 x39 x40 s))
(j42 x32 x33 x34 x35 x36 x37 x38 x39 x40 s)) fun j31 =>
 kEql x30 (.i .i64 (.ofNat 2)) fun x87 =>
 kCond x87
((R_slices_reverseRangeCmpFunc_api_Poly φ) [x20, x21, x22, x24] s fun x88 s =>
 kSub x22 (.i .i64 (.ofNat 1)) fun x89 =>
 kSub x29 x21 fun x90 =>
 kSub x89 x90 fun x91 =>
 j31 x20 x21 x22 x23 x24 x25 x26 x27 x91 (.i .i64 (.ofNat 1)) s)
(j31 x20 x21 x22 x23 x24 x25 x26 x27 x29 x30 s)) fun j19 =>
 kNot x12 s fun x92 s =>
 kCond x92
((R_slices_breakPatternsCmpFunc_api_Poly φ) [x7, x8, x9, x11] s fun x93 s =>
 kSub x10 (.i .i64 (.ofNat 1)) fun x94 =>
 j19 x7 x8 x9 x94 x11 x12 x13 x14 s)
(j19 x7 x8 x9 x10 x11 x12 x13 x14 s)))) φ a1 a2 a3 a4 a5 (.b true) (.b true) s)
def R_slices_pdqsortCmpFunc_api_Poly (φ : Nat) : List D → LS → (D → LS → Rs) → Rs := lp (fun _ _ _ => none) (Q_slices_pdqsortCmpFunc_api_Poly φ) φ
def T225 (φ : Nat) : FTab := setT (T224 φ) 224 (.mem (R_slices_pdqsortCmpFunc_api_Poly φ))
def TD225 (φ : Nat) : FTab := TD224 φ
def R_slices_SortFunc_api_Poly_api_Poly (φ : Nat) : List D → LS → (D → LS → Rs) → Rs :=
fun as s k =>
 u1 as fun a1 r7 =>
 u1 r7 fun a2 r8 =>
 u0 r8 (
 kLen a1 s fun x3 s =>
 kToInt .u64 x3 s fun x4 s =>
 isoK (R_math_bits_Len φ) [x4] s fun x5 s =>
(R_slices_pdqsortCmpFunc_api_Poly φ) [a1, (.i .i64 (.ofNat 0)), x3, x5, a2] s fun x6 s =>
 k (.tup []) s)
def T226 (φ : Nat) : FTab := setT (T225 φ) 225 (.mem (R_slices_SortFunc_api_Poly_api_Poly φ))
def TD226 (φ : Nat) : FTab := TD225 φ
def R_fieldfactor_Roots (φ : Nat) : List D → Option D :=
fun as =>
(fun (s : LS) =>
 u1 as fun a1 r50 =>
 u1 r50 fun a2 r51 =>
 u0 r51 (
 kBox a1 s fun x3 s =>
 kLoadn 1 s x3 fun x4 s =>
 isoK (R_qpoly_Check φ) [a2] s fun x5 s =>
 kLen a2 s fun x6 s =>
 isoK (R_fieldfactor_check φ) [x4, x5, x6] s fun x7 s =>
 kNeq x7 (.i .i64 (.ofNat 0)) fun x8 =>
 kCond x8
(retK false s (.tup [(.tree [] 0 true), x7]) some)
(kLen a2 s fun x9 s =>
 lp (fun (_ _ _ _ _ _ : D) (_ : LS) => none) (fun (q10 : D → D → D → D → D → D → LS → Rs) (x11 x12 x13 x14 x15 x16 : D) (s : LS) =>
 kLss x16 x15 fun x17 =>
 kCond x17
(kIaddr 3 s x14 x16 fun x18 s =>
 kLoadn 3 s x18 fun x19 s =>
 kAlloc [(.b false), (.n 0), (.n 0)] s fun x20 s =>
 kStore 3 s x20 x19 fun _ s =>
 kLoadn 3 s x20 fun x21 s =>
 kBsl 1 [(.b false), (.n 0), (.n 0)] [(0, 3, x21)] s fun x22 s =>
 isoK (R_exact_PTrim φ) [x22] s fun x23 s =>
 kBsl 1 [(.tree [] 0 true)] [(0, 1, x23)] s fun x24 s =>
 kApp 1 24 s x13 x24 fun x25 s =>
 kAdd x16 (.i .i64 (.ofNat 1)) fun x26 =>
 q10 x11 x12 x25 x14 x15 x26 s)
(kLoadn 1 s x12 fun x27 s =>
 isoK (tabM B_fieldfactor_factor (R_fieldfactor_factor φ)) [x27, x13] s fun x28 s =>
 kLen x11 s fun x29 s =>
 kSub x29 (.i .i64 (.ofNat 1)) fun x30 =>
 isoK (R_fieldfactor_linear φ) [x28, x30] s fun x31 s =>
 kLen x31 s fun x32 s =>
 lp (fun (_ _ _ _ : D) (_ : LS) => none) (fun (q33 : D → D → D → D → LS → Rs) (x34 x35 x36 x37 : D) (s : LS) =>
 kLss x37 x36 fun x38 =>
 kCond x38
(kIaddr 1 s x35 x37 fun x39 s =>
 kLoad1 s x39 fun x40 s =>
 kIaddr 1 s x40 (.i .i64 (.ofNat 0)) fun x41 s =>
 kLoad1 s x41 fun x42 s =>
 isoK (R_exact_Int φ) [(.i .i64 (.negSucc 0))] s fun x43 s =>
 isoK (R_exact_PScale φ) [x42, x43] s fun x44 s =>
 kBsl 1 [(.tree [] 0 true)] [(0, 1, x44)] s fun x45 s =>
 kApp 1 24 s x34 x45 fun x46 s =>
 kAdd x37 (.i .i64 (.ofNat 1)) fun x47 =>
 q33 x46 x35 x36 x47 s)
((R_slices_ContainsFunc_api_Poly_api_Poly φ) [x34, (.fn 209 [])] s fun x48 s =>
 kCond x48
(retK false s (.tup [(.tree [] 0 true), (.i .i64 (.ofNat 4))]) some)
((R_slices_SortFunc_api_Poly_api_Poly φ) [x34, (.fn 190 [])] s fun x49 s =>
 retK false s (.tup [x34, (.i .i64 (.ofNat 0))]) some))) φ (.tree [] 0 true) x31 x32 (.i .i64 (.ofNat 0)) s)) φ a2 x3 (.tree [] 0 true) a2 x9 (.i .i64 (.ofNat 0)) s))) s0
def T227 (φ : Nat) : FTab := setT (T226 φ) 226 (.iso (R_fieldfactor_Roots φ))
def TD227 (φ : Nat) : FTab := TD226 φ
def R_fieldmap_Homs (φ : Nat) : List D → Option D :=
fun as =>
(fun (s : LS) =>
 u1 as fun a1 r27 =>
 u1 r27 fun a2 r28 =>
 u0 r28 (
 kBox a1 s fun x3 s =>
 kBox a2 s fun x4 s =>
 kLoadn 1 s x3 fun x5 s =>
 isoK (tabM B_numberfield_Check (R_numberfield_Check φ)) [x5] s fun x6 s =>
 kNeq x6 (.i .i64 (.ofNat 0)) fun x7 =>
 kCond x7
(retK false s (.tup [(.tree [] 0 true), x6]) some)
(kLoadn 1 s x4 fun x8 s =>
 isoK (tabM B_numberfield_Check (R_numberfield_Check φ)) [x8] s fun x9 s =>
 kNeq x9 (.i .i64 (.ofNat 0)) fun x10 =>
 kCond x10
(retK false s (.tup [(.tree [] 0 true), x9]) some)
(kFaddr 0 s x3 fun x11 s =>
 kLoad1 s x11 fun x12 s =>
 kLen x12 s fun x13 s =>
 kSub x13 (.i .i64 (.ofNat 1)) fun x14 =>
 kFaddr 0 s x4 fun x15 s =>
 kLoad1 s x15 fun x16 s =>
 kLen x16 s fun x17 s =>
 kSub x17 (.i .i64 (.ofNat 1)) fun x18 =>
 kMul x14 x18 fun x19 =>
 kGtr x19 (.i .i64 (.ofNat 64)) fun x20 =>
 kCond x20
(retK false s (.tup [(.tree [] 0 true), (.i .i64 (.ofNat 4))]) some)
(kLoadn 1 s x4 fun x21 s =>
 kFaddr 0 s x3 fun x22 s =>
 kLoad1 s x22 fun x23 s =>
 isoK (R_fieldfactor_Roots φ) [x21, x23] s fun x24 s =>
 kExt x24 0 s fun x25 s =>
 kExt x24 1 s fun x26 s =>
 retK false s (.tup [x25, x26]) some))))) s0
def T228 (φ : Nat) : FTab := setT (T227 φ) 227 (.iso (R_fieldmap_Homs φ))
def TD228 (φ : Nat) : FTab := TD227 φ
def R_galoisref06_Same (φ : Nat) : List D → Option D :=
fun as =>
(fun (s : LS) =>
 u1 as fun a1 r19 =>
 u1 r19 fun a2 r20 =>
 u0 r20 (
 kLen a1 s fun x3 s =>
 kLen a2 s fun x4 s =>
 kNeq x3 x4 fun x5 =>
 kCond x5
(retK false s (.b false) some)
(kLen a1 s fun x6 s =>
 lp (fun (_ _ _ _ : D) (_ : LS) => none) (fun (q7 : D → D → D → D → LS → Rs) (x8 x9 x10 x11 : D) (s : LS) =>
 kLss x11 x10 fun x12 =>
 kCond x12
(kIaddr 3 s x8 x11 fun x13 s =>
 kLoadn 3 s x13 fun x14 s =>
 kIaddr 3 s x9 x11 fun x15 s =>
 kLoadn 3 s x15 fun x16 s =>
 kEqs true [1, 2, 2] x14 x16 s fun x17 s =>
 kCond x17
(retK false s (.b false) some)
(kAdd x11 (.i .i64 (.ofNat 1)) fun x18 =>
 q7 x8 x9 x10 x18 s))
(retK false s (.b true) some)) φ a1 a2 x6 (.i .i64 (.ofNat 0)) s))) s0
def T229 (φ : Nat) : FTab := setT (T228 φ) 228 (.iso (R_galoisref06_Same φ))
def TD229 (φ : Nat) : FTab := TD228 φ
def R_galoisref32_SameList (φ : Nat) : List D → Option D :=
fun as =>
(fun (s : LS) =>
 u1 as fun a1 r20 =>
 u1 r20 fun a2 r21 =>
 u0 r21 (
 kLen a1 s fun x3 s =>
 kLen a2 s fun x4 s =>
 kNeq x3 x4 fun x5 =>
 kCond x5
(retK false s (.b false) some)
(kLen a1 s fun x6 s =>
 lp (fun (_ _ _ _ : D) (_ : LS) => none) (fun (q7 : D → D → D → D → LS → Rs) (x8 x9 x10 x11 : D) (s : LS) =>
 kLss x11 x10 fun x12 =>
 kCond x12
(kIaddr 1 s x8 x11 fun x13 s =>
 kLoad1 s x13 fun x14 s =>
 kIaddr 1 s x9 x11 fun x15 s =>
 kLoad1 s x15 fun x16 s =>
 isoK (R_galoisref06_Same φ) [x14, x16] s fun x17 s =>
 kNot x17 s fun x18 s =>
 kCond x18
(retK false s (.b false) some)
(kAdd x11 (.i .i64 (.ofNat 1)) fun x19 =>
 q7 x8 x9 x10 x19 s))
(retK false s (.b true) some)) φ a1 a2 x6 (.i .i64 (.ofNat 0)) s))) s0
def T230 (φ : Nat) : FTab := setT (T229 φ) 229 (.iso (R_galoisref32_SameList φ))
def TD230 (φ : Nat) : FTab := TD229 φ
def R_numberfield_Element (φ : Nat) : List D → Option D :=
fun as =>
(fun (s : LS) =>
 u1 as fun a1 r14 =>
 u1 r14 fun a2 r15 =>
 u0 r15 (
 kBox a1 s fun x3 s =>
 kLoadn 1 s x3 fun x4 s =>
 isoK (R_numberfield_Form φ) [x4] s fun x5 s =>
 kNeq x5 (.i .i64 (.ofNat 0)) fun x6 =>
 kCond x6
(retK false s x5 some)
(isoK (R_qpoly_Check φ) [a2] s fun x7 s =>
 kNeq x7 (.i .i64 (.ofNat 0)) fun x8 =>
 kCond x8
(retK false s x7 some)
(kLen a2 s fun x9 s =>
 kFaddr 0 s x3 fun x10 s =>
 kLoad1 s x10 fun x11 s =>
 kLen x11 s fun x12 s =>
 kGeq x9 x12 fun x13 =>
 kCond x13
(retK false s (.i .i64 (.ofNat 3)) some)
(retK false s (.i .i64 (.ofNat 0)) some))))) s0
def T231 (φ : Nat) : FTab := setT (T230 φ) 230 (.iso (R_numberfield_Element φ))
def TD231 (φ : Nat) : FTab := TD230 φ
def R_span_Rest (φ : Nat) : List D → Option D :=
fun as =>
(fun (s : LS) =>
 u1 as fun a1 r9 =>
 u1 r9 fun a2 r10 =>
 u0 r10 (
 kLen a1 s fun x3 s =>
 kLen a2 s fun x4 s =>
 kLss x3 x4 fun x5 =>
 kCond x5
(retK false s a1 some)
(isoK (R_exact_PDivMod φ) [a1, a2] s fun x6 s =>
 kExt x6 0 s fun x7 s =>
 kExt x6 1 s fun x8 s =>
 retK false s x8 some))) s0
def T232 (φ : Nat) : FTab := setT (T231 φ) 231 (.iso (R_span_Rest φ))
def TD232 (φ : Nat) : FTab := TD231 φ
def R_span_Powers (φ : Nat) : List D → Option D :=
fun as =>
(fun (s : LS) =>
 u1 as fun a1 r19 =>
 u1 r19 fun a2 r20 =>
 u1 r20 fun a3 r21 =>
 u0 r21 (
 kBsl 1 [(.i .i64 (.ofNat 0))] [(0, 1, (.i .i64 (.ofNat 1)))] s fun x4 s =>
 isoK (R_exact_POf φ) [x4] s fun x5 s =>
 lp (fun (_ _ _ _ _ _ : D) (_ : LS) => none) (fun (q6 : D → D → D → D → D → D → LS → Rs) (x7 x8 x9 x10 x11 x12 : D) (s : LS) =>
 kLss x12 x11 fun x13 =>
 kCond x13
(kBsl 1 [(.tree [] 0 true)] [(0, 1, x10)] s fun x14 s =>
 kApp 1 24 s x9 x14 fun x15 s =>
 isoK (R_exact_PMul φ) [x10, x7] s fun x16 s =>
 isoK (R_span_Rest φ) [x16, x8] s fun x17 s =>
 kAdd x12 (.i .i64 (.ofNat 1)) fun x18 =>
 q6 x7 x8 x15 x17 x11 x18 s)
(retK false s x9 some)) φ a1 a3 (.tree [] 0 true) x5 a2 (.i .i64 (.ofNat 0)) s)) s0
def T233 (φ : Nat) : FTab := setT (T232 φ) 232 (.iso (R_span_Powers φ))
def TD233 (φ : Nat) : FTab := TD232 φ
def R_slices_Clone_api_Rat_api_Rat (φ : Nat) : List D → Option D :=
fun as =>
(fun (s : LS) =>
 u1 as fun a1 r5 =>
 u0 r5 (
 kIsnil false s a1 fun x2 s =>
 kCond x2
(retK true s (.tree [] 0 true) some)
(kBsl 0 [(.b false), (.n 0), (.n 0)] [] s fun x3 s =>
 kApp 3 40 s x3 a1 fun x4 s =>
 retK true s x4 some))) s0
def T234 (φ : Nat) : FTab := setT (T233 φ) 233 (.iso (cloneP (R_slices_Clone_api_Rat_api_Rat φ)))
def TD234 (φ : Nat) : FTab := TD233 φ
def R_span_Reduce (φ : Nat) : List D → Option D :=
fun as =>
(fun (s : LS) =>
 u1 as fun a1 r159 =>
 u1 r159 fun a2 r160 =>
 u0 r160 (
 kLen a1 s fun x3 s =>
 lp (fun (_ _ _ _ _ : D) (_ : LS) => none) (fun (q4 : D → D → D → D → D → LS → Rs) (x5 x6 x7 x8 x9 : D) (s : LS) =>
 kLss x9 x8 fun x10 =>
 kCond x10
(kIaddr 1 s x7 x9 fun x11 s =>
 kLoad1 s x11 fun x12 s =>
 isoK (cloneP (R_slices_Clone_api_Rat_api_Rat φ)) [x12] s fun x13 s =>
 kBsl 1 [(.tree [] 0 true)] [(0, 1, x13)] s fun x14 s =>
 kApp 1 24 s x6 x14 fun x15 s =>
 kAdd x9 (.i .i64 (.ofNat 1)) fun x16 =>
 q4 x5 x15 x7 x8 x16 s)
(lp (fun (_ _ _ _ : D) (_ : LS) => none) (fun (q17 : D → D → D → D → LS → Rs) (x18 x19 x20 x21 : D) (s : LS) =>
 kLss x21 x18 fun x22 =>
 kGuard x22 true (fun k => k x20 s) s fun x23 s =>
 kGuard x22 true (fun k => kLen x23 s k) s fun x24 s =>
 kGuard x22 true (fun k => k x19 s) s fun x25 s =>
 kGuard x22 true (fun k => kLen x25 s k) s fun x26 s =>
 kGuard x22 true (fun k => kLss x24 x26 fun d => k d s) s fun x27 s =>
 kPick x22 x27 (.b false) s fun x28 s =>
 kCond x28
(jn (fun (x30 x31 x32 x33 : D) (s : LS) =>
 kAdd x33 (.i .i64 (.ofNat 1)) fun x34 =>
 q17 x30 x31 x32 x34 s) fun j29 =>
 kLen x20 s fun x35 s =>
 lp (fun (_ _ _ _ _ _ : D) (_ : LS) => none) (fun (q36 : D → D → D → D → D → D → LS → Rs) (x37 x38 x39 x40 x41 x42 : D) (s : LS) =>
 kLen x38 s fun x43 s =>
 kLss x42 x43 fun x44 =>
 kGuard x44 true (fun k => k x38 s) s fun x45 s =>
 kGuard x44 true (fun k => k x42 s) s fun x46 s =>
 kGuard x44 true (fun k => kIaddr 1 s x45 x46 k) s fun x47 s =>
 kGuard x44 true (fun k => kLoad1 s x47 k) s fun x48 s =>
 kGuard x44 true (fun k => k x40 s) s fun x49 s =>
 kGuard x44 true (fun k => kIaddr 3 s x48 x49 k) s fun x50 s =>
 kGuard x44 true (fun k => kLoadn 3 s x50 k) s fun x51 s =>
 kGuard x44 true (fun k => isoK (R_exact_IsZero φ) [x51] s k) s fun x52 s =>
 kPick x44 x52 (.b false) s fun x53 s =>
 kCond x53
(kAdd x42 (.i .i64 (.ofNat 1)) fun x54 =>
 q36 x37 x38 x39 x40 x41 x54 s)
(kLen x38 s fun x55 s =>
 kEql x42 x55 fun x56 =>
 kCond x56
(j29 x37 x38 x39 x40 s)
(kIaddr 1 s x38 x42 fun x57 s =>
 kLoad1 s x57 fun x58 s =>
 kIaddr 1 s x38 x41 fun x59 s =>
 kLoad1 s x59 fun x60 s =>
 kIaddr 1 s x38 x41 fun x61 s =>
 kStore 1 s x61 x58 fun _ s =>
 kIaddr 1 s x38 x42 fun x62 s =>
 kStore 1 s x62 x60 fun _ s =>
 kIaddr 1 s x38 x41 fun x63 s =>
 kLoad1 s x63 fun x64 s =>
 kIaddr 3 s x64 x40 fun x65 s =>
 kLoadn 3 s x65 fun x66 s =>
 isoK (R_exact_Inverse φ) [x66] s fun x67 s =>
 kAlloc [(.b false), (.n 0), (.n 0)] s fun x68 s =>
 kStore 3 s x68 x67 fun _ s =>
 kIaddr 1 s x38 x41 fun x69 s =>
 kLoad1 s x69 fun x70 s =>
 kLen x70 s fun x71 s =>
 lp (fun (_ _ _ _ _ _ _ _ : D) (_ : LS) => none) (fun (q72 : D → D → D → D → D → D → D → D → LS → Rs) (x73 x74 x75 x76 x77 x78 x79 x80 : D) (s : LS) =>
 kLss x80 x79 fun x81 =>
 kCond x81
(kIaddr 1 s x74 x77 fun x82 s =>
 kLoad1 s x82 fun x83 s =>
 kIaddr 1 s x74 x77 fun x84 s =>
 kLoad1 s x84 fun x85 s =>
 kIaddr 3 s x85 x80 fun x86 s =>
 kLoadn 3 s x86 fun x87 s =>
 kLoadn 3 s x78 fun x88 s =>
 isoK (R_exact_Mul φ) [x87, x88] s fun x89 s =>
 kIaddr 3 s x83 x80 fun x90 s =>
 kStore 3 s x90 x89 fun _ s =>
 kAdd x80 (.i .i64 (.ofNat 1)) fun x91 =>
 q72 x73 x74 x75 x76 x77 x78 x79 x91 s)
(kLen x74 s fun x92 s =>
 lp (fun (_ _ _ _ _ _ _ : D) (_ : LS) => none) (fun (q93 : D → D → D → D → D → D → D → LS → Rs) (x94 x95 x96 x97 x98 x99 x100 : D) (s : LS) =>
 kLss x100 x99 fun x101 =>
 kCond x101
(jn (fun (x103 x104 x105 x106 x107 x108 x109 : D) (s : LS) =>
 kAdd x109 (.i .i64 (.ofNat 1)) fun x110 =>
 q93 x103 x104 x105 x106 x107 x108 x110 s) fun j102 =>
 kEql x100 x98 fun x111 =>
 kGuard x111 false (fun k => k x95 s) s fun x112 s =>
 kGuard x111 false (fun k => k x100 s) s fun x113 s =>
 kGuard x111 false (fun k => kIaddr 1 s x112 x113 k) s fun x114 s =>
 kGuard x111 false (fun k => kLoad1 s x114 k) s fun x115 s =>
 kGuard x111 false (fun k => k x97 s) s fun x116 s =>
 kGuard x111 false (fun k => kIaddr 3 s x115 x116 k) s fun x117 s =>
 kGuard x111 false (fun k => kLoadn 3 s x117 k) s fun x118 s =>
 kGuard x111 false (fun k => isoK (R_exact_IsZero φ) [x118] s k) s fun x119 s =>
 kPick x111 (.b true) x119 s fun x120 s =>
 kCond x120
(j102 x94 x95 x96 x97 x98 x99 x100 s)
(kIaddr 1 s x95 x100 fun x121 s =>
 kLoad1 s x121 fun x122 s =>
 kIaddr 3 s x122 x97 fun x123 s =>
 kLoadn 3 s x123 fun x124 s =>
 kAlloc [(.b false), (.n 0), (.n 0)] s fun x125 s =>
 kStore 3 s x125 x124 fun _ s =>
 kIaddr 1 s x95 x100 fun x126 s =>
 kLoad1 s x126 fun x127 s =>
 kLen x127 s fun x128 s =>
 lp (fun (_ _ _ _ _ _ _ _ _ _ _ : D) (_ : LS) => none) (fun (q129 : D → D → D → D → D → D → D → D → D → D → D → LS → Rs) (x130 x131 x132 x133 x134 x135 x136 x137 x138 x139 x140 : D) (s : LS) =>
 kLss x140 x139 fun x141 =>
 kCond x141
(kIaddr 1 s x131 x135 fun x142 s =>
 kLoad1 s x142 fun x143 s =>
 kIaddr 1 s x131 x135 fun x144 s =>
 kLoad1 s x144 fun x145 s =>
 kIaddr 3 s x145 x140 fun x146 s =>
 kLoadn 3 s x146 fun x147 s =>
 kLoadn 3 s x136 fun x148 s =>
 kIaddr 1 s x131 x134 fun x149 s =>
 kLoad1 s x149 fun x150 s =>
 kIaddr 3 s x150 x140 fun x151 s =>
 kLoadn 3 s x151 fun x152 s =>
 isoK (R_exact_Mul φ) [x148, x152] s fun x153 s =>
 isoK (R_exact_Sub φ) [x147, x153] s fun x154 s =>
 kIaddr 3 s x143 x140 fun x155 s =>
 kStore 3 s x155 x154 fun _ s =>
 kAdd x140 (.i .i64 (.ofNat 1)) fun x156 =>
 q129 x130 x131 x132 x133 x134 x135 x136 x137 x138 x139 x156 s)
(j102 x130 x131 x132 x133 x134 x137 x138 s)) φ x94 x95 x96 x97 x98 x100 x125 x99 x100 x128 (.i .i64 (.ofNat 0)) s))
(kBsl 1 [(.i .i64 (.ofNat 0))] [(0, 1, x97)] s fun x157 s =>
 kApp 1 8 s x96 x157 fun x158 s =>
 j29 x94 x95 x158 x97 s)) φ x73 x74 x75 x76 x77 x92 (.i .i64 (.ofNat 0)) s)) φ x37 x38 x39 x40 x41 x68 x71 (.i .i64 (.ofNat 0)) s))) φ x18 x19 x20 x21 x35 x35 s)
(retK false s (.tup [x19, x20]) some)) φ x5 x6 (.tree [] 0 true) (.i .i64 (.ofNat 0)) s)) φ a2 (.tree [] 0 true) a1 x3 (.i .i64 (.ofNat 0)) s)) s0
def T235 (φ : Nat) : FTab := setT (T234 φ) 234 (.iso (R_span_Reduce φ))
def TD235 (φ : Nat) : FTab := TD234 φ
def R_span_Express (φ : Nat) : List D → Option D :=
fun as =>
(fun (s : LS) =>
 u1 as fun a1 r86 =>
 u1 r86 fun a2 r87 =>
 u1 r87 fun a3 r88 =>
 u0 r88 (
 lp (fun (_ _ _ _ _ : D) (_ : LS) => none) (fun (q4 : D → D → D → D → D → LS → Rs) (x5 x6 x7 x8 x9 : D) (s : LS) =>
 kLss x9 x8 fun x10 =>
 kCond x10
(kLen x5 s fun x11 s =>
 lp (fun (_ _ _ _ _ _ _ _ _ _ : D) (_ : LS) => none) (fun (q12 : D → D → D → D → D → D → D → D → D → D → LS → Rs) (x13 x14 x15 x16 x17 x18 x19 x20 x21 x22 : D) (s : LS) =>
 kLss x22 x21 fun x23 =>
 kCond x23
(kIaddr 1 s x20 x22 fun x24 s =>
 kLoad1 s x24 fun x25 s =>
 isoK (R_exact_PCoef φ) [x25, x16] s fun x26 s =>
 kBsl 1 [(.b false), (.n 0), (.n 0)] [(0, 3, x26)] s fun x27 s =>
 kApp 3 40 s x17 x27 fun x28 s =>
 kAdd x22 (.i .i64 (.ofNat 1)) fun x29 =>
 q12 x13 x14 x15 x16 x28 x18 x19 x20 x21 x29 s)
(isoK (R_exact_PCoef φ) [x14, x16] s fun x30 s =>
 kBsl 1 [(.b false), (.n 0), (.n 0)] [(0, 3, x30)] s fun x31 s =>
 kApp 3 40 s x17 x31 fun x32 s =>
 kBsl 1 [(.tree [] 0 true)] [(0, 1, x32)] s fun x33 s =>
 kApp 1 24 s x15 x33 fun x34 s =>
 kAdd x19 (.i .i64 (.ofNat 1)) fun x35 =>
 q4 x13 x14 x34 x18 x35 s)) φ x5 x6 x7 x9 (.tree [] 0 true) x8 x9 x5 x11 (.i .i64 (.ofNat 0)) s)
(kLen x5 s fun x36 s =>
 isoK (R_span_Reduce φ) [x7, x36] s fun x37 s =>
 kExt x37 0 s fun x38 s =>
 kExt x37 1 s fun x39 s =>
 kLen x5 s fun x40 s =>
 kMksl 3 40 [(.b false), (.n 0), (.n 0)] s x40 x40 fun x41 s =>
 kLen x41 s fun x42 s =>
 lp (fun (_ _ _ _ _ _ : D) (_ : LS) => none) (fun (q43 : D → D → D → D → D → D → LS → Rs) (x44 x45 x46 x47 x48 x49 : D) (s : LS) =>
 kLss x49 x48 fun x50 =>
 kCond x50
(isoK (R_exact_Int φ) [(.i .i64 (.ofNat 0))] s fun x51 s =>
 kIaddr 3 s x47 x49 fun x52 s =>
 kStore 3 s x52 x51 fun _ s =>
 kAdd x49 (.i .i64 (.ofNat 1)) fun x53 =>
 q43 x44 x45 x46 x47 x48 x53 s)
(kLen x45 s fun x54 s =>
 lp (fun (_ _ _ _ _ _ : D) (_ : LS) => none) (fun (q55 : D → D → D → D → D → D → LS → Rs) (x56 x57 x58 x59 x60 x61 : D) (s : LS) =>
 kLss x61 x60 fun x62 =>
 kCond x62
(jn (fun (x64 x65 x66 x67 x68 x69 : D) (s : LS) =>
 kAdd x69 (.i .i64 (.ofNat 1)) fun x70 =>
 q55 x64 x65 x66 x67 x68 x70 s) fun j63 =>
 kIaddr 1 s x59 x61 fun x71 s =>
 kLoad1 s x71 fun x72 s =>
 kLen x57 s fun x73 s =>
 kLss x61 x73 fun x74 =>
 kCond x74
(kIaddr 1 s x57 x61 fun x75 s =>
 kLoad1 s x75 fun x76 s =>
 kLen x56 s fun x77 s =>
 kIaddr 3 s x72 x77 fun x78 s =>
 kLoadn 3 s x78 fun x79 s =>
 kIaddr 3 s x58 x76 fun x80 s =>
 kStore 3 s x80 x79 fun _ s =>
 j63 x56 x57 x58 x59 x60 x61 s)
(kLen x56 s fun x81 s =>
 kIaddr 3 s x72 x81 fun x82 s =>
 kLoadn 3 s x82 fun x83 s =>
 isoK (R_exact_IsZero φ) [x83] s fun x84 s =>
 kNot x84 s fun x85 s =>
 kCond x85
(retK false s (.tup [(.tree [] 0 true), (.b false)]) some)
(j63 x56 x57 x58 x59 x60 x61 s)))
(retK false s (.tup [x58, (.b true)]) some)) φ x44 x46 x47 x45 x54 (.i .i64 (.ofNat 0)) s)) φ x5 x38 x39 x41 x42 (.i .i64 (.ofNat 0)) s)) φ a2 a3 (.tree [] 0 true) a1 (.i .i64 (.ofNat 0)) s)) s0
def T236 (φ : Nat) : FTab := setT (T235 φ) 235 (.iso (R_span_Express φ))
def TD236 (φ : Nat) : FTab := TD235 φ
def R_span_MinPoly (φ : Nat) : List D → Option D :=
fun as =>
(fun (s : LS) =>
 u1 as fun a1 r37 =>
 u1 r37 fun a2 r38 =>
 u0 r38 (
 kLen a2 s fun x3 s =>
 kSub x3 (.i .i64 (.ofNat 1)) fun x4 =>
 kAdd x4 (.i .i64 (.ofNat 1)) fun x5 =>
 isoK (R_span_Powers φ) [a1, x5, a2] s fun x6 s =>
 lp (fun (_ _ _ : D) (_ : LS) => none) (fun (q7 : D → D → D → LS → Rs) (x8 x9 x10 : D) (s : LS) =>
 kLeq x10 x8 fun x11 =>
 kCond x11
(kSlice 1 s x9 none (some x10) none fun x12 s =>
 kIaddr 1 s x9 x10 fun x13 s =>
 kLoad1 s x13 fun x14 s =>
 isoK (R_span_Express φ) [x8, x12, x14] s fun x15 s =>
 kExt x15 0 s fun x16 s =>
 kExt x15 1 s fun x17 s =>
 kCond x17
(kLen x16 s fun x18 s =>
 lp (fun (_ _ _ _ : D) (_ : LS) => none) (fun (q19 : D → D → D → D → LS → Rs) (x20 x21 x22 x23 : D) (s : LS) =>
 kLss x23 x22 fun x24 =>
 kCond x24
(kIaddr 3 s x21 x23 fun x25 s =>
 kLoadn 3 s x25 fun x26 s =>
 kAlloc [(.b false), (.n 0), (.n 0)] s fun x27 s =>
 kStore 3 s x27 x26 fun _ s =>
 kLoadn 3 s x27 fun x28 s =>
 isoK (R_exact_Neg φ) [x28] s fun x29 s =>
 kBsl 1 [(.b false), (.n 0), (.n 0)] [(0, 3, x29)] s fun x30 s =>
 kApp 3 40 s x20 x30 fun x31 s =>
 kAdd x23 (.i .i64 (.ofNat 1)) fun x32 =>
 q19 x31 x21 x22 x32 s)
(isoK (R_exact_Int φ) [(.i .i64 (.ofNat 1))] s fun x33 s =>
 kBsl 1 [(.b false), (.n 0), (.n 0)] [(0, 3, x33)] s fun x34 s =>
 kApp 3 40 s x20 x34 fun x35 s =>
 retK true s x35 some)) φ (.tree [] 0 true) x16 x18 (.i .i64 (.ofNat 0)) s)
(kAdd x10 (.i .i64 (.ofNat 1)) fun x36 =>
 q7 x8 x9 x36 s))
(retK true s (.tree [] 0 true) some)) φ x4 x6 (.i .i64 (.ofNat 1)) s)) s0
def T237 (φ : Nat) : FTab := setT (T236 φ) 236 (.iso (R_span_MinPoly φ))
def TD237 (φ : Nat) : FTab := TD236 φ
def R_fieldmap_power_1 (φ : Nat) : List D → LS → (D → LS → Rs) → Rs :=
fun as s k =>
 u1 as fun a1 r13 =>
 u1 r13 fun a2 r14 =>
 u1 r14 fun a3 r15 =>
 u1 r15 fun a4 r16 =>
 u0 r16 (
 kLoad1 s a3 fun x5 s =>
 kLoad1 s a4 fun x6 s =>
 kAdd a2 x6 fun x7 =>
 kSub x7 (.i .i64 (.ofNat 1)) fun x8 =>
 kLoad1 s a4 fun x9 s =>
 kQuo x8 x9 fun x10 =>
 isoK (R_exact_NatPow φ) [a1, x10] s fun x11 s =>
 isoK natMulM [x5, x11] s fun x12 s =>
 kStore 1 s a3 x12 fun _ s =>
 k (.tup []) s)
def T238 (φ : Nat) : FTab := setT (T237 φ) 237 (.mem (R_fieldmap_power_1 φ))
def TD238 (φ : Nat) : FTab := cnd true (setT (TD237 φ) 237 (.mem (R_fieldmap_power_1 φ))) (TD237 φ)
def R_math_bits_Len8 (φ : Nat) : List D → Option D :=
fun as =>
(fun (s : LS) =>
 u1 as fun a1 r4 =>
 u0 r4 (
 kS (.index (.c (.s [0, 1, 2, 2, 3, 3, 3, 3, 4, 4, 4, 4, 4, 4, 4, 4, 5, 5, 5, 5, 5, 5, 5, 5, 5, 5, 5, 5, 5, 5, 5, 5, 6, 6, 6, 6, 6, 6, 6, 6, 6, 6, 6, 6, 6, 6, 6, 6, 6, 6, 6, 6, 6, 6, 6, 6, 6, 6, 6, 6, 6, 6, 6, 6, 7, 7, 7, 7, 7, 7, 7, 7, 7, 7, 7, 7, 7, 7, 7, 7, 7, 7, 7, 7, 7, 7, 7, 7, 7, 7, 7, 7, 7, 7, 7, 7, 7, 7, 7, 7, 7, 7, 7, 7, 7, 7, 7, 7, 7, 7, 7, 7, 7, 7, 7, 7, 7, 7, 7, 7, 7, 7, 7, 7, 7, 7, 7, 7, 8, 8, 8, 8, 8, 8, 8, 8, 8, 8, 8, 8, 8, 8, 8, 8, 8, 8, 8, 8, 8, 8, 8, 8, 8, 8, 8, 8, 8, 8, 8, 8, 8, 8, 8, 8, 8, 8, 8, 8, 8, 8, 8, 8, 8, 8, 8, 8, 8, 8, 8, 8, 8, 8, 8, 8, 8, 8, 8, 8, 8, 8, 8, 8, 8, 8, 8, 8, 8, 8, 8, 8, 8, 8, 8, 8, 8, 8, 8, 8, 8, 8, 8, 8, 8, 8, 8, 8, 8, 8, 8, 8, 8, 8, 8, 8, 8, 8, 8, 8, 8, 8, 8, 8, 8, 8, 8, 8, 8, 8, 8, 8, 8, 8, 8, 8, 8, 8, 8, 8, 8, 8, 8, 8, 8, 8, 8, 8])) (.c a1)) s fun x2 s =>
 kToInt .i64 x2 s fun x3 s =>
 retK false s x3 some)) s0
def T239 (φ : Nat) : FTab := setT (T238 φ) 238 (.iso (R_math_bits_Len8 φ))
def TD239 (φ : Nat) : FTab := TD238 φ
def R_exact_NatBits (φ : Nat) : List D → Option D :=
fun as =>
(fun (s : LS) =>
 u1 as fun a1 r9 =>
 u0 r9 (
 kEql a1 (.n 0) fun x2 =>
 kCond x2
(retK false s (.i .i64 (.ofNat 0)) some)
(kS (.lens (.c a1)) s fun x3 s =>
 kSub x3 (.i .i64 (.ofNat 1)) fun x4 =>
 kMul (.i .i64 (.ofNat 8)) x4 fun x5 =>
 kS (.index (.c a1) (.c (.i .i64 (.ofNat 0)))) s fun x6 s =>
 isoK (R_math_bits_Len8 φ) [x6] s fun x7 s =>
 kAdd x5 x7 fun x8 =>
 retK false s x8 some))) s0
def T240 (φ : Nat) : FTab := setT (T239 φ) 239 (.iso (R_exact_NatBits φ))
def TD240 (φ : Nat) : FTab := TD239 φ
def R_exact_NatRoot (φ : Nat) : List D → Option D :=
fun as =>
(fun (s : LS) =>
 u1 as fun a1 r24 =>
 u1 r24 fun a2 r25 =>
 u0 r25 (
 isoK (R_exact_NatBits φ) [a1] s fun x3 s =>
 kAdd x3 a2 fun x4 =>
 kSub x4 (.i .i64 (.ofNat 1)) fun x5 =>
 kQuo x5 a2 fun x6 =>
 lp (fun (_ _ _ _ : D) (_ : LS) => none) (fun (q7 : D → D → D → D → LS → Rs) (x8 x9 x10 x11 : D) (s : LS) =>
 kGeq x11 (.i .i64 (.ofNat 0)) fun x12 =>
 kCond x12
(jn (fun (x14 x15 x16 x17 : D) (s : LS) =>
 kSub x17 (.i .i64 (.ofNat 1)) fun x18 =>
 q7 x14 x15 x16 x18 s) fun j13 =>
 isoK (R_exact_NatTwo φ) [x11] s fun x19 s =>
 isoK natAddM [x10, x19] s fun x20 s =>
 isoK (R_exact_NatPow φ) [x20, x9] s fun x21 s =>
 isoK natCmpM [x21, x8] s fun x22 s =>
 kLeq x22 (.i .i64 (.ofNat 0)) fun x23 =>
 kCond x23
(j13 x8 x9 x20 x11 s)
(j13 x8 x9 x10 x11 s))
(retK false s x10 some)) φ a1 a2 (.n 0) x6 s)) s0
def T241 (φ : Nat) : FTab := setT (T240 φ) 240 (.iso (R_exact_NatRoot φ))
def TD241 (φ : Nat) : FTab := TD240 φ
def R_fieldmap_power (φ : Nat) : List D → Option D :=
fun as =>
(fun (s : LS) =>
 u1 as fun a1 r58 =>
 u1 r58 fun a2 r59 =>
 u0 r59 (
 kBox a2 s fun x3 s =>
 isoK (R_exact_NatOf φ) [(.i .u64 (.ofNat 1))] s fun x4 s =>
 kAlloc [(.n 0)] s fun x5 s =>
 kStore 1 s x5 x4 fun _ s =>
 lp (fun (_ _ _ _ : D) (_ : LS) => none) (fun (q6 : D → D → D → D → LS → Rs) (x7 x8 x9 x10 : D) (s : LS) =>
 kLss x10 (.i .u64 (.ofNat 65536)) fun x11 =>
 kGuard x11 true (fun k => k x7 s) s fun x12 s =>
 kGuard x11 true (fun k => kS (.lens (.c x12)) s k) s fun x13 s =>
 kGuard x11 true (fun k => kGtr x13 (.i .i64 (.ofNat 0)) fun d => k d s) s fun x14 s =>
 kPick x11 x14 (.b false) s fun x15 s =>
 kGuard x15 true (fun k => k x7 s) s fun x16 s =>
 kGuard x15 true (fun k => kNeq x16 (.n 1) fun d => k d s) s fun x17 s =>
 kPick x15 x17 (.b false) s fun x18 s =>
 kCond x18
(jn (fun (x20 x21 x22 x23 : D) (s : LS) =>
 kAdd x23 (.i .u64 (.ofNat 1)) fun x24 =>
 q6 x20 x21 x22 x24 s) fun j19 =>
 lp (fun (_ _ _ _ _ : D) (_ : LS) => none) (fun (q25 : D → D → D → D → D → LS → Rs) (x26 x27 x28 x29 x30 : D) (s : LS) =>
 isoK (R_exact_NatOf φ) [x29] s fun x31 s =>
 isoK (natDivModM φ) [x26, x31] s fun x32 s =>
 kExt x32 0 s fun x33 s =>
 kExt x32 1 s fun x34 s =>
 kNeq x34 (.n 0) fun x35 =>
 kCond x35
(kGtr x30 (.i .i64 (.ofNat 0)) fun x36 =>
 kCond x36
(isoK (R_exact_NatOf φ) [x29] s fun x37 s =>
 dynK (TD241 φ) false x28 [x37, x30] s fun x38 s =>
 j19 x26 x27 x28 x29 s)
(j19 x26 x27 x28 x29 s))
(kAdd x30 (.i .i64 (.ofNat 1)) fun x39 =>
 q25 x33 x27 x28 x29 x39 s)) φ x7 x8 x9 x10 (.i .i64 (.ofNat 0)) s)
(kEql x7 (.n 1) fun x40 =>
 kCond x40
(kLoad1 s x8 fun x41 s =>
 retK false s x41 some)
(isoK (R_exact_NatBits φ) [x7] s fun x42 s =>
 kQuo x42 (.i .i64 (.ofNat 16)) fun x43 =>
 lp (fun (_ _ _ _ : D) (_ : LS) => none) (fun (q44 : D → D → D → D → LS → Rs) (x45 x46 x47 x48 : D) (s : LS) =>
 kGtr x48 (.i .i64 (.ofNat 1)) fun x49 =>
 kCond x49
(isoK (R_exact_NatRoot φ) [x45, x48] s fun x50 s =>
 isoK (R_exact_NatPow φ) [x50, x48] s fun x51 s =>
 kEql x51 x45 fun x52 =>
 kCond x52
(dynK (TD241 φ) false x47 [x50, x48] s fun x53 s =>
 kLoad1 s x46 fun x54 s =>
 retK false s x54 some)
(kSub x48 (.i .i64 (.ofNat 1)) fun x55 =>
 q44 x45 x46 x47 x55 s))
(dynK (TD241 φ) false x47 [x45, (.i .i64 (.ofNat 1))] s fun x56 s =>
 kLoad1 s x46 fun x57 s =>
 retK false s x57 some)) φ x7 x8 x9 x43 s))) φ a1 x5 (.fn 237 [x5, x3]) (.i .u64 (.ofNat 2)) s)) s0
def T242 (φ : Nat) : FTab := setT (T241 φ) 241 (.iso (R_fieldmap_power φ))
def TD242 (φ : Nat) : FTab := TD241 φ
def R_fieldmap_Subfield (φ : Nat) : List D → Option D :=
fun as =>
(fun (s : LS) =>
 u1 as fun a1 r75 =>
 u1 r75 fun a2 r76 =>
 u0 r76 (
 kBox a1 s fun x3 s =>
 kAlloc [(.tree [] 0 true), (.tree [] 0 true)] s fun x4 s =>
 kLoadn 1 s x3 fun x5 s =>
 isoK (tabM B_numberfield_Check (R_numberfield_Check φ)) [x5] s fun x6 s =>
 kNeq x6 (.i .i64 (.ofNat 0)) fun x7 =>
 kCond x7
(kBuild [(.tree [] 0 true), (.tree [] 0 true)] [] s fun x8 s =>
 kStore 2 s x4 x8 fun _ s =>
 kLoadn 2 s x4 fun x9 _ =>
 retK false s (.tup [x9, x6]) some)
(kLoadn 1 s x3 fun x10 s =>
 isoK (R_numberfield_Element φ) [x10, a2] s fun x11 s =>
 kNeq x11 (.i .i64 (.ofNat 0)) fun x12 =>
 kCond x12
(kBuild [(.tree [] 0 true), (.tree [] 0 true)] [] s fun x13 s =>
 kStore 2 s x4 x13 fun _ s =>
 kLoadn 2 s x4 fun x14 _ =>
 retK false s (.tup [x14, x11]) some)
(kFaddr 0 s x3 fun x15 s =>
 kLoad1 s x15 fun x16 s =>
 isoK (R_span_MinPoly φ) [a2, x16] s fun x17 s =>
 kLen x17 s fun x18 s =>
 kSub x18 (.i .i64 (.ofNat 1)) fun x19 =>
 isoK (R_exact_NatOf φ) [(.i .u64 (.ofNat 1))] s fun x20 s =>
 lp (fun (_ _ _ _ _ _ _ : D) (_ : LS) => none) (fun (q21 : D → D → D → D → D → D → D → LS → Rs) (x22 x23 x24 x25 x26 x27 x28 : D) (s : LS) =>
 kLss x28 x27 fun x29 =>
 kCond x29
(kIaddr 3 s x24 x28 fun x30 s =>
 kFaddr 2 s x30 fun x31 s =>
 kLoad1 s x31 fun x32 s =>
 kSub x25 x28 fun x33 =>
 isoK (R_fieldmap_power φ) [x32, x33] s fun x34 s =>
 isoK (natGcdM φ) [x26, x34] s fun x35 s =>
 isoK (natDivModM φ) [x34, x35] s fun x36 s =>
 kExt x36 0 s fun x37 s =>
 kExt x36 1 s fun x38 s =>
 isoK natMulM [x26, x37] s fun x39 s =>
 kAdd x28 (.i .i64 (.ofNat 1)) fun x40 =>
 q21 x22 x23 x24 x25 x39 x27 x40 s)
(kBuild [(.b false), (.n 0)] [(1, 1, x26)] s fun x41 s =>
 isoK (R_exact_Whole φ) [x41] s fun x42 s =>
 kAlloc [(.b false), (.n 0), (.n 0)] s fun x43 s =>
 kStore 3 s x43 x42 fun _ s =>
 isoK (R_exact_Int φ) [(.i .i64 (.ofNat 1))] s fun x44 s =>
 kAlloc [(.b false), (.n 0), (.n 0)] s fun x45 s =>
 kStore 3 s x45 x44 fun _ s =>
 kSub x25 (.i .i64 (.ofNat 1)) fun x46 =>
 lp (fun (_ _ _ _ _ _ : D) (_ : LS) => none) (fun (q47 : D → D → D → D → D → D → LS → Rs) (x48 x49 x50 x51 x52 x53 : D) (s : LS) =>
 kGeq x53 (.i .i64 (.ofNat 0)) fun x54 =>
 kCond x54
(kLoadn 3 s x52 fun x55 s =>
 kLoadn 3 s x51 fun x56 s =>
 isoK (R_exact_Mul φ) [x55, x56] s fun x57 s =>
 kStore 3 s x52 x57 fun _ s =>
 kIaddr 3 s x50 x53 fun x58 s =>
 kLoadn 3 s x58 fun x59 s =>
 kLoadn 3 s x52 fun x60 s =>
 isoK (R_exact_Mul φ) [x59, x60] s fun x61 s =>
 kIaddr 3 s x50 x53 fun x62 s =>
 kStore 3 s x62 x61 fun _ s =>
 kSub x53 (.i .i64 (.ofNat 1)) fun x63 =>
 q47 x48 x49 x50 x51 x52 x63 s)
(kLoadn 3 s x51 fun x64 s =>
 isoK (R_exact_PScale φ) [x48, x64] s fun x65 s =>
 isoK (R_exact_PLarge φ) [x50] s fun x66 s =>
 kGuard x66 false (fun k => k x65 s) s fun x67 s =>
 kGuard x66 false (fun k => isoK (R_exact_PLarge φ) [x67] s k) s fun x68 s =>
 kPick x66 (.b true) x68 s fun x69 s =>
 kCond x69
(kBuild [(.tree [] 0 true), (.tree [] 0 true)] [] s fun x70 s =>
 kStore 2 s x49 x70 fun _ s =>
 kLoadn 2 s x49 fun x71 _ =>
 retK false s (.tup [x71, (.i .i64 (.ofNat 4))]) some)
(kBuild [(.tree [] 0 true)] [(0, 1, x50)] s fun x72 s =>
 kBuild [(.tree [] 0 true), (.tree [] 0 true)] [(0, 1, x72), (1, 1, x65)] s fun x73 s =>
 kStore 2 s x49 x73 fun _ s =>
 kLoadn 2 s x49 fun x74 _ =>
 retK false s (.tup [x74, (.i .i64 (.ofNat 0))]) some))) φ x22 x23 x24 x43 x45 x46 s)) φ a2 x4 x17 x19 x20 x19 (.i .i64 (.ofNat 0)) s)))) s0
def T243 (φ : Nat) : FTab := setT (T242 φ) 242 (.iso (R_fieldmap_Subfield φ))
def TD243 (φ : Nat) : FTab := TD242 φ
def R_galoisref03_Of (φ : Nat) : List D → Option D :=
fun as =>
(fun (s : LS) =>
 u1 as fun a1 r8 =>
 u1 r8 fun a2 r9 =>
 u0 r9 (
 kAlloc [(.b false), (.n 0), (.n 0)] s fun x3 s =>
 isoK (R_galoisref02_FromInt φ) [a1] s fun x4 s =>
 isoK (R_galoisref02_FromInt φ) [a2] s fun x5 s =>
 isoK (R_galoisref03_Make φ) [x4, x5] s fun x6 s =>
 kStore 3 s x3 x6 fun _ s =>
 kLoadn 3 s x3 fun x7 _ =>
 retK false s x7 some)) s0
def T244 (φ : Nat) : FTab := setT (T243 φ) 243 (.iso (R_galoisref03_Of φ))
def TD244 (φ : Nat) : FTab := TD243 φ
def R_galoislaw35_awake (φ : Nat) : List D → Option D :=
fun as =>
(fun (s : LS) =>
 u0 as (
 kBsl 3 [(.i .i64 (.ofNat 0))] [(0, 1, (.i .i64 (.negSucc 1))), (1, 1, (.i .i64 (.ofNat 0))), (2, 1, (.i .i64 (.ofNat 1)))] s fun x1 s =>
 isoK (R_galoisref06_Of φ) [x1] s fun x2 s =>
 kBuild [(.tree [] 0 true)] [(0, 1, x2)] s fun x3 s =>
 kAlloc [(.tree [] 0 true)] s fun x4 s =>
 kStore 1 s x4 x3 fun _ s =>
 kBsl 5 [(.i .i64 (.ofNat 0))] [(0, 1, (.i .i64 (.negSucc 1))), (1, 1, (.i .i64 (.ofNat 0))), (2, 1, (.i .i64 (.ofNat 0))), (3, 1, (.i .i64 (.ofNat 0))), (4, 1, (.i .i64 (.ofNat 1)))] s fun x5 s =>
 isoK (R_galoisref06_Of φ) [x5] s fun x6 s =>
 kBuild [(.tree [] 0 true)] [(0, 1, x6)] s fun x7 s =>
 kAlloc [(.tree [] 0 true)] s fun x8 s =>
 kStore 1 s x8 x7 fun _ s =>
 kBsl 4 [(.i .i64 (.ofNat 0))] [(0, 1, (.i .i64 (.negSucc 0))), (1, 1, (.i .i64 (.negSucc 2))), (2, 1, (.i .i64 (.ofNat 0))), (3, 1, (.i .i64 (.ofNat 1)))] s fun x9 s =>
 isoK (R_galoisref06_Of φ) [x9] s fun x10 s =>
 kBuild [(.tree [] 0 true)] [(0, 1, x10)] s fun x11 s =>
 kAlloc [(.tree [] 0 true)] s fun x12 s =>
 kStore 1 s x12 x11 fun _ s =>
 kLoadn 1 s x4 fun x13 s =>
 kLoadn 1 s x8 fun x14 s =>
 isoK (R_fieldmap_Homs φ) [x13, x14] s fun x15 s =>
 kExt x15 0 s fun x16 s =>
 kExt x15 1 s fun x17 s =>
 kBsl 3 [(.i .i64 (.ofNat 0))] [(0, 1, (.i .i64 (.ofNat 1))), (1, 1, (.i .i64 (.ofNat 0))), (2, 1, (.i .i64 (.ofNat 1)))] s fun x18 s =>
 isoK (R_galoisref06_Of φ) [x18] s fun x19 s =>
 kBuild [(.tree [] 0 true)] [(0, 1, x19)] s fun x20 s =>
 kLoadn 1 s x4 fun x21 s =>
 isoK (R_fieldmap_Homs φ) [x20, x21] s fun x22 s =>
 kExt x22 0 s fun x23 s =>
 kExt x22 1 s fun x24 s =>
 kLoadn 1 s x12 fun x25 s =>
 kLoadn 1 s x12 fun x26 s =>
 isoK (R_fieldmap_Homs φ) [x25, x26] s fun x27 s =>
 kExt x27 0 s fun x28 s =>
 kExt x27 1 s fun x29 s =>
 kLoadn 1 s x8 fun x30 s =>
 isoK (R_galoisref03_Of φ) [(.i .i64 (.ofNat 1)), (.i .i64 (.ofNat 2))] s fun x31 s =>
 isoK (R_galoisref03_FromInt φ) [(.i .i64 (.ofNat 0))] s fun x32 s =>
 isoK (R_galoisref03_Of φ) [(.i .i64 (.ofNat 1)), (.i .i64 (.ofNat 2))] s fun x33 s =>
 kBsl 3 [(.b false), (.n 0), (.n 0)] [(0, 3, x31), (3, 3, x32), (6, 3, x33)] s fun x34 s =>
 isoK (R_fieldmap_Subfield φ) [x30, x34] s fun x35 s =>
 kExt x35 0 s fun x36 s =>
 kExt x35 1 s fun x37 s =>
 kAlloc [(.tree [] 0 true), (.tree [] 0 true)] s fun x38 s =>
 kStore 2 s x38 x36 fun _ s =>
 kAdd x17 x24 fun x39 =>
 kAdd x39 x29 fun x40 =>
 kAdd x40 x37 fun x41 =>
 kNeq x41 (.i .i64 (.ofNat 0)) fun x42 =>
 kGuard x42 false (fun k => k x23 s) s fun x43 s =>
 kGuard x42 false (fun k => kLen x43 s k) s fun x44 s =>
 kGuard x42 false (fun k => kGtr x44 (.i .i64 (.ofNat 0)) fun d => k d s) s fun x45 s =>
 kPick x42 (.b true) x45 s fun x46 s =>
 kGuard x46 false (fun k => k x16 s) s fun x47 s =>
 kGuard x46 false (fun k => kBsl 3 [(.i .i64 (.ofNat 0))] [(0, 1, (.i .i64 (.ofNat 0))), (1, 1, (.i .i64 (.ofNat 0))), (2, 1, (.i .i64 (.negSucc 0)))] s k) s fun x48 s =>
 kGuard x46 false (fun k => isoK (R_galoisref06_Of φ) [x48] s k) s fun x49 s =>
 kGuard x46 false (fun k => kBsl 3 [(.i .i64 (.ofNat 0))] [(0, 1, (.i .i64 (.ofNat 0))), (1, 1, (.i .i64 (.ofNat 0))), (2, 1, (.i .i64 (.ofNat 1)))] s k) s fun x50 s =>
 kGuard x46 false (fun k => isoK (R_galoisref06_Of φ) [x50] s k) s fun x51 s =>
 kGuard x46 false (fun k => kBsl 2 [(.tree [] 0 true)] [(0, 1, x49), (1, 1, x51)] s k) s fun x52 s =>
 kGuard x46 false (fun k => isoK (R_galoisref32_SameList φ) [x47, x52] s k) s fun x53 s =>
 kGuard x46 false (fun k => kNot x53 s k) s fun x54 s =>
 kPick x46 (.b true) x54 s fun x55 s =>
 kCond x55
(retK false s (.b false) some)
(kBsl 2 [(.i .i64 (.ofNat 0))] [(0, 1, (.i .i64 (.ofNat 0))), (1, 1, (.i .i64 (.ofNat 1)))] s fun x56 s =>
 isoK (R_galoisref06_Of φ) [x56] s fun x57 s =>
 kBsl 3 [(.i .i64 (.ofNat 0))] [(0, 1, (.i .i64 (.negSucc 1))), (1, 1, (.i .i64 (.negSucc 0))), (2, 1, (.i .i64 (.ofNat 1)))] s fun x58 s =>
 isoK (R_galoisref06_Of φ) [x58] s fun x59 s =>
 kBsl 3 [(.i .i64 (.ofNat 0))] [(0, 1, (.i .i64 (.ofNat 2))), (1, 1, (.i .i64 (.ofNat 0))), (2, 1, (.i .i64 (.negSucc 0)))] s fun x60 s =>
 isoK (R_galoisref06_Of φ) [x60] s fun x61 s =>
 kBsl 3 [(.tree [] 0 true)] [(0, 1, x57), (1, 1, x59), (2, 1, x61)] s fun x62 s =>
 isoK (R_galoisref32_SameList φ) [x28, x62] s fun x63 s =>
 kGuard x63 true (fun k => kFaddr 0 s x38 k) s fun x64 s =>
 kGuard x63 true (fun k => kFaddr 0 s x64 k) s fun x65 s =>
 kGuard x63 true (fun k => kLoad1 s x65 k) s fun x66 s =>
 kGuard x63 true (fun k => kBsl 3 [(.i .i64 (.ofNat 0))] [(0, 1, (.i .i64 (.negSucc 0))), (1, 1, (.i .i64 (.negSucc 1))), (2, 1, (.i .i64 (.ofNat 1)))] s k) s fun x67 s =>
 kGuard x63 true (fun k => isoK (R_galoisref06_Of φ) [x67] s k) s fun x68 s =>
 kGuard x63 true (fun k => isoK (R_galoisref06_Same φ) [x66, x68] s k) s fun x69 s =>
 kPick x63 x69 (.b false) s fun x70 s =>
 kGuard x70 true (fun k => kFaddr 1 s x38 k) s fun x71 s =>
 kGuard x70 true (fun k => kLoad1 s x71 k) s fun x72 s =>
 kGuard x70 true (fun k => kBsl 3 [(.i .i64 (.ofNat 0))] [(0, 1, (.i .i64 (.ofNat 1))), (1, 1, (.i .i64 (.ofNat 0))), (2, 1, (.i .i64 (.ofNat 1)))] s k) s fun x73 s =>
 kGuard x70 true (fun k => isoK (R_galoisref06_Of φ) [x73] s k) s fun x74 s =>
 kGuard x70 true (fun k => isoK (R_galoisref06_Same φ) [x72, x74] s k) s fun x75 s =>
 kPick x70 x75 (.b false) s fun x76 s =>
 retK false s x76 some))) s0
def k_galoislaw35_awake_0 : List D := []
def v_galoislaw35_awake_0 : D := (.b true)
def B_galoislaw35_awake : List (List D × D) := [(k_galoislaw35_awake_0, v_galoislaw35_awake_0)]
def T245 (φ : Nat) : FTab := setT (T244 φ) 244 (.iso (tabM B_galoislaw35_awake (R_galoislaw35_awake φ)))
def TD245 (φ : Nat) : FTab := TD244 φ
def R_fieldmap_IsIsomorphic (φ : Nat) : List D → Option D :=
fun as =>
(fun (s : LS) =>
 u1 as fun a1 r22 =>
 u1 r22 fun a2 r23 =>
 u0 r23 (
 kBox a1 s fun x3 s =>
 kBox a2 s fun x4 s =>
 kLoadn 1 s x3 fun x5 s =>
 kLoadn 1 s x4 fun x6 s =>
 isoK (R_fieldmap_Homs φ) [x5, x6] s fun x7 s =>
 kExt x7 0 s fun x8 s =>
 kExt x7 1 s fun x9 s =>
 kNeq x9 (.i .i64 (.ofNat 0)) fun x10 =>
 kCond x10
(retK false s (.tup [(.b false), x9]) some)
(kFaddr 0 s x3 fun x11 s =>
 kLoad1 s x11 fun x12 s =>
 kLen x12 s fun x13 s =>
 kFaddr 0 s x4 fun x14 s =>
 kLoad1 s x14 fun x15 s =>
 kLen x15 s fun x16 s =>
 kEql x13 x16 fun x17 =>
 kGuard x17 true (fun k => k x8 s) s fun x18 s =>
 kGuard x17 true (fun k => kLen x18 s k) s fun x19 s =>
 kGuard x17 true (fun k => kGtr x19 (.i .i64 (.ofNat 0)) fun d => k d s) s fun x20 s =>
 kPick x17 x20 (.b false) s fun x21 s =>
 retK false s (.tup [x21, (.i .i64 (.ofNat 0))]) some))) s0
def T246 (φ : Nat) : FTab := setT (T245 φ) 245 (.iso (R_fieldmap_IsIsomorphic φ))
def TD246 (φ : Nat) : FTab := TD245 φ
def R_galoislaw35_FieldmapBounds (φ : Nat) : List D → Option D :=
fun as =>
(fun (s : LS) =>
 u1 as fun a1 r56 =>
 u1 r56 fun a2 r57 =>
 u0 r57 (
 kLss a1 (.i .i64 (.ofNat 1)) fun x3 =>
 kGuard x3 false (fun k => k a1 s) s fun x4 s =>
 kGuard x3 false (fun k => kGtr x4 (.i .i64 (.ofNat 24)) fun d => k d s) s fun x5 s =>
 kPick x3 (.b true) x5 s fun x6 s =>
 kGuard x6 false (fun k => k a2 s) s fun x7 s =>
 kGuard x6 false (fun k => kLss x7 (.i .i64 (.ofNat 1)) fun d => k d s) s fun x8 s =>
 kPick x6 (.b true) x8 s fun x9 s =>
 kGuard x9 false (fun k => k a2 s) s fun x10 s =>
 kGuard x9 false (fun k => kGtr x10 (.i .i64 (.ofNat 24)) fun d => k d s) s fun x11 s =>
 kPick x9 (.b true) x11 s fun x12 s =>
 kGuard x12 false (fun k => k a1 s) s fun x13 s =>
 kGuard x12 false (fun k => k a2 s) s fun x14 s =>
 kGuard x12 false (fun k => kMul x13 x14 fun d => k d s) s fun x15 s =>
 kGuard x12 false (fun k => kLeq x15 (.i .i64 (.ofNat 64)) fun d => k d s) s fun x16 s =>
 kPick x12 (.b true) x16 s fun x17 s =>
 kCond x17
(isoK (tabM B_galoislaw35_awake (R_galoislaw35_awake φ)) [] s fun x18 s =>
 retK false s x18 some)
(isoK (R_galoisref03_FromInt φ) [(.i .i64 (.ofNat 1))] s fun x19 s =>
 isoK (R_galoisref06_Monomial φ) [x19, a1] s fun x20 s =>
 kBsl 1 [(.i .i64 (.ofNat 0))] [(0, 1, (.i .i64 (.negSucc 1)))] s fun x21 s =>
 isoK (R_galoisref06_Of φ) [x21] s fun x22 s =>
 isoK (R_galoisref06_Add φ) [x20, x22] s fun x23 s =>
 kBuild [(.tree [] 0 true)] [(0, 1, x23)] s fun x24 s =>
 kAlloc [(.tree [] 0 true)] s fun x25 s =>
 kStore 1 s x25 x24 fun _ s =>
 isoK (R_galoisref03_FromInt φ) [(.i .i64 (.ofNat 1))] s fun x26 s =>
 isoK (R_galoisref06_Monomial φ) [x26, a2] s fun x27 s =>
 kBsl 1 [(.i .i64 (.ofNat 0))] [(0, 1, (.i .i64 (.negSucc 2)))] s fun x28 s =>
 isoK (R_galoisref06_Of φ) [x28] s fun x29 s =>
 isoK (R_galoisref06_Add φ) [x27, x29] s fun x30 s =>
 kBuild [(.tree [] 0 true)] [(0, 1, x30)] s fun x31 s =>
 kAlloc [(.tree [] 0 true)] s fun x32 s =>
 kStore 1 s x32 x31 fun _ s =>
 kLoadn 1 s x25 fun x33 s =>
 kLoadn 1 s x32 fun x34 s =>
 isoK (R_fieldmap_Homs φ) [x33, x34] s fun x35 s =>
 kExt x35 0 s fun x36 s =>
 kExt x35 1 s fun x37 s =>
 kLoadn 1 s x25 fun x38 s =>
 kLoadn 1 s x32 fun x39 s =>
 isoK (R_fieldmap_IsIsomorphic φ) [x38, x39] s fun x40 s =>
 kExt x40 0 s fun x41 s =>
 kExt x40 1 s fun x42 s =>
 kEql x37 (.i .i64 (.ofNat 4)) fun x43 =>
 kGuard x43 true (fun k => k x42 s) s fun x44 s =>
 kGuard x43 true (fun k => kEql x44 (.i .i64 (.ofNat 4)) fun d => k d s) s fun x45 s =>
 kPick x43 x45 (.b false) s fun x46 s =>
 kGuard x46 true (fun k => k x36 s) s fun x47 s =>
 kGuard x46 true (fun k => kLen x47 s k) s fun x48 s =>
 kGuard x46 true (fun k => kEql x48 (.i .i64 (.ofNat 0)) fun d => k d s) s fun x49 s =>
 kPick x46 x49 (.b false) s fun x50 s =>
 kGuard x50 true (fun k => k x41 s) s fun x51 s =>
 kGuard x50 true (fun k => kNot x51 s k) s fun x52 s =>
 kPick x50 x52 (.b false) s fun x53 s =>
 kGuard x53 true (fun k => isoK (tabM B_galoislaw35_awake (R_galoislaw35_awake φ)) [] s k) s fun x54 s =>
 kPick x53 x54 (.b false) s fun x55 s =>
 retK false s x55 some))) s0
def T247 (φ : Nat) : FTab := setT (T246 φ) 246 (.iso (R_galoislaw35_FieldmapBounds φ))
def TD247 (φ : Nat) : FTab := TD246 φ
end
end Go.Proofs.YtljlaoecceagaaaGreat
