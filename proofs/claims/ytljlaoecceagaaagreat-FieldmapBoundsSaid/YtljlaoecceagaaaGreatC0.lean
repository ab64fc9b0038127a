/- Residuals of functions, printed by a program. -/
import Derived.Test.YtljlaoecceagaaaGreatB0
set_option linter.all false
set_option linter.unusedVariables false
set_option maxRecDepth 1000000
set_option maxHeartbeats 0
namespace Go.Proofs.YtljlaoecceagaaaGreat
open Ev
noncomputable section
def T0 (φ : Nat) : FTab := fun _ => none
abbrev Cu := List (Option (List Nat))
def TD0 (φ : Nat) : FTab := fun _ => none
def R_galoisref03_Whole (φ : Nat) : List D → Option D :=
fun as =>
(fun (s : LS) =>
 u1 as fun a1 r7 =>
 u0 r7 (
 kBox a1 s fun x2 s =>
 kAlloc [(.b false), (.n 0), (.n 0)] s fun x3 s =>
 kLoadn 2 s x2 fun x4 s =>
 kBuild [(.b false), (.n 0), (.n 0)] [(0, 2, x4), (2, 1, (.n 1))] s fun x5 s =>
 kStore 3 s x3 x5 fun _ s =>
 kLoadn 3 s x3 fun x6 _ =>
 retK false s x6 some)) s0
def T1 (φ : Nat) : FTab := setT (T0 φ) 0 (.iso (R_galoisref03_Whole φ))
def TD1 (φ : Nat) : FTab := TD0 φ
def R_galoisref02_Make (φ : Nat) : List D → Option D :=
fun as =>
(fun (s : LS) =>
 u1 as fun a1 r9 =>
 u1 r9 fun a2 r10 =>
 u0 r10 (
 kAlloc [(.b false), (.n 0)] s fun x3 s =>
 kGuard a1 true (fun k => k a2 s) s fun x4 s =>
 kGuard a1 true (fun k => kNeq x4 (.n 0) fun d => k d s) s fun x5 s =>
 kPick a1 x5 (.b false) s fun x6 s =>
 kBuild [(.b false), (.n 0)] [(0, 1, x6), (1, 1, a2)] s fun x7 s =>
 kStore 2 s x3 x7 fun _ s =>
 kLoadn 2 s x3 fun x8 _ =>
 retK false s x8 some)) s0
def T2 (φ : Nat) : FTab := setT (T1 φ) 1 (.iso (R_galoisref02_Make φ))
def TD2 (φ : Nat) : FTab := TD1 φ
def R_galoisref01_pack (φ : Nat) : List D → Option D :=
fun as =>
(fun (s : LS) =>
 u1 as fun a1 r34 =>
 u0 r34 (
 kLen a1 s fun x2 s =>
 kSub x2 (.i .i64 (.ofNat 1)) fun x3 =>
 lp (fun (_ _ _ : D) (_ : LS) => none) (fun (q4 : D → D → D → LS → Rs) (x5 x6 x7 : D) (s : LS) =>
 kGeq x7 (.i .i64 (.ofNat 0)) fun x8 =>
 kCond x8
(lp (fun (_ _ _ _ : D) (_ : LS) => none) (fun (q9 : D → D → D → D → LS → Rs) (x10 x11 x12 x13 : D) (s : LS) =>
 kGeq x13 (.i .i64 (.ofNat 0)) fun x14 =>
 kCond x14
(jn (fun (x16 x17 x18 x19 : D) (s : LS) =>
 kSub x19 (.i .i64 (.ofNat 8)) fun x20 =>
 q9 x16 x17 x18 x20 s) fun j15 =>
 kIaddr 1 s x10 x12 fun x21 s =>
 kLoad1 s x21 fun x22 s =>
 kShr x22 x13 fun x23 =>
 kToInt .u8 x23 s fun x24 s =>
 kLen x11 s fun x25 s =>
 kGtr x25 (.i .i64 (.ofNat 0)) fun x26 =>
 kGuard x26 false (fun k => k x24 s) s fun x27 s =>
 kGuard x26 false (fun k => kGtr x27 (.i .u8 (.ofNat 0)) fun d => k d s) s fun x28 s =>
 kPick x26 (.b true) x28 s fun x29 s =>
 kCond x29
(kBsl 1 [(.i .u8 (.ofNat 0))] [(0, 1, x24)] s fun x30 s =>
 kApp 1 1 s x11 x30 fun x31 s =>
 j15 x10 x31 x12 x13 s)
(j15 x10 x11 x12 x13 s))
(kSub x12 (.i .i64 (.ofNat 1)) fun x32 =>
 q4 x10 x11 x32 s)) φ x5 x6 x7 (.i .i64 (.ofNat 24)) s)
(kS (.b2s (.c x6)) s fun x33 s =>
 retK false s x33 some)) φ a1 (.tree [] 0 true) x3 s)) s0
def T3 (φ : Nat) : FTab := setT (T2 φ) 2 (.iso (R_galoisref01_pack φ))
def TD3 (φ : Nat) : FTab := TD2 φ
def R_galoisref01_trim (φ : Nat) : List D → LS → (D → LS → Rs) → Rs :=
fun as s k =>
 u1 as fun a1 r17 =>
 u0 r17 (
 lp (fun (_ : D) (_ : LS) => none) (fun (q2 : D → LS → Rs) (x3 : D) (s : LS) =>
 kLen x3 s fun x4 s =>
 kGtr x4 (.i .i64 (.ofNat 0)) fun x5 =>
 kGuard x5 true (fun k => k x3 s) s fun x6 s =>
 kGuard x5 true (fun k => k x3 s) s fun x7 s =>
 kGuard x5 true (fun k => kLen x7 s k) s fun x8 s =>
 kGuard x5 true (fun k => kSub x8 (.i .i64 (.ofNat 1)) fun d => k d s) s fun x9 s =>
 kGuard x5 true (fun k => kIaddr 1 s x6 x9 k) s fun x10 s =>
 kGuard x5 true (fun k => kLoad1 s x10 k) s fun x11 s =>
 kGuard x5 true (fun k => kEql x11 (.i .u64 (.ofNat 0)) fun d => k d s) s fun x12 s =>
 kPick x5 x12 (.b false) s fun x13 s =>
 kCond x13
(kLen x3 s fun x14 s =>
 kSub x14 (.i .i64 (.ofNat 1)) fun x15 =>
 kSlice 1 s x3 none (some x15) none fun x16 s =>
 q2 x16 s)
(k x3 s)) φ a1 s)
def T4 (φ : Nat) : FTab := setT (T3 φ) 3 (.mem (R_galoisref01_trim φ))
def TD4 (φ : Nat) : FTab := TD3 φ
def R_galoisref01_limbs (φ : Nat) : List D → Option D :=
fun as =>
(fun (s : LS) =>
 u1 as fun a1 r26 =>
 u0 r26 (
 kS (.lens (.c a1)) s fun x2 s =>
 lp (fun (_ _ _ : D) (_ : LS) => none) (fun (q3 : D → D → D → LS → Rs) (x4 x5 x6 : D) (s : LS) =>
 kGtr x6 (.i .i64 (.ofNat 0)) fun x7 =>
 kCond x7
(kSub x6 (.i .i64 (.ofNat 4)) fun x8 =>
 kS (.max (.c (.i .i64 (.ofNat 0))) (.c x8)) s fun x9 s =>
 lp (fun (_ _ _ _ _ : D) (_ : LS) => none) (fun (q10 : D → D → D → D → D → LS → Rs) (x11 x12 x13 x14 x15 : D) (s : LS) =>
 kLss x15 x13 fun x16 =>
 kCond x16
(kMul x14 (.i .u64 (.ofNat 256)) fun x17 =>
 kS (.index (.c x11) (.c x15)) s fun x18 s =>
 kToInt .u64 x18 s fun x19 s =>
 kAdd x17 x19 fun x20 =>
 kAdd x15 (.i .i64 (.ofNat 1)) fun x21 =>
 q10 x11 x12 x13 x20 x21 s)
(kBsl 1 [(.i .u64 (.ofNat 0))] [(0, 1, x14)] s fun x22 s =>
 kApp 1 8 s x12 x22 fun x23 s =>
 kSub x13 (.i .i64 (.ofNat 4)) fun x24 =>
 q3 x11 x23 x24 s)) φ x4 x5 x6 (.i .u64 (.ofNat 0)) x9 s)
((R_galoisref01_trim φ) [x5] s fun x25 s =>
 retK true s x25 some)) φ a1 (.tree [] 0 true) x2 s)) s0
def T5 (φ : Nat) : FTab := setT (T4 φ) 4 (.iso (R_galoisref01_limbs φ))
def TD5 (φ : Nat) : FTab := TD4 φ
def R_galoisref01_Add (φ : Nat) : List D → Option D :=
fun as =>
(fun (s : LS) =>
 u1 as fun a1 r49 =>
 u1 r49 fun a2 r50 =>
 u0 r50 (
 isoK (R_galoisref01_limbs φ) [a1] s fun x3 s =>
 isoK (R_galoisref01_limbs φ) [a2] s fun x4 s =>
 lp (fun (_ _ _ _ _ : D) (_ : LS) => none) (fun (q5 : D → D → D → D → D → LS → Rs) (x6 x7 x8 x9 x10 : D) (s : LS) =>
 kLen x6 s fun x11 s =>
 kLss x10 x11 fun x12 =>
 kGuard x12 false (fun k => k x10 s) s fun x13 s =>
 kGuard x12 false (fun k => k x7 s) s fun x14 s =>
 kGuard x12 false (fun k => kLen x14 s k) s fun x15 s =>
 kGuard x12 false (fun k => kLss x13 x15 fun d => k d s) s fun x16 s =>
 kPick x12 (.b true) x16 s fun x17 s =>
 kGuard x17 false (fun k => k x9 s) s fun x18 s =>
 kGuard x17 false (fun k => kGtr x18 (.i .u64 (.ofNat 0)) fun d => k d s) s fun x19 s =>
 kPick x17 (.b true) x19 s fun x20 s =>
 kCond x20
(jn (fun (x22 x23 x24 x25 x26 : D) (s : LS) =>
 jn (fun (x28 x29 x30 x31 x32 : D) (s : LS) =>
 kAnd x32 (.i .u64 (.ofNat 4294967295)) fun x33 =>
 kBsl 1 [(.i .u64 (.ofNat 0))] [(0, 1, x33)] s fun x34 s =>
 kApp 1 8 s x30 x34 fun x35 s =>
 kShr x32 (.i .u64 (.ofNat 32)) fun x36 =>
 kAdd x31 (.i .i64 (.ofNat 1)) fun x37 =>
 q5 x28 x29 x35 x36 x37 s) fun j27 =>
 kLen x23 s fun x38 s =>
 kLss x25 x38 fun x39 =>
 kCond x39
(kIaddr 1 s x23 x25 fun x40 s =>
 kLoad1 s x40 fun x41 s =>
 kAdd x26 x41 fun x42 =>
 j27 x22 x23 x24 x25 x42 s)
(j27 x22 x23 x24 x25 x26 s)) fun j21 =>
 kLen x6 s fun x43 s =>
 kLss x10 x43 fun x44 =>
 kCond x44
(kIaddr 1 s x6 x10 fun x45 s =>
 kLoad1 s x45 fun x46 s =>
 kAdd x9 x46 fun x47 =>
 j21 x6 x7 x8 x10 x47 s)
(j21 x6 x7 x8 x10 x9 s))
(isoK (R_galoisref01_pack φ) [x8] s fun x48 s =>
 retK false s x48 some)) φ x3 x4 (.tree [] 0 true) (.i .u64 (.ofNat 0)) (.i .i64 (.ofNat 0)) s)) s0
def T6 (φ : Nat) : FTab := setT (T5 φ) 5 (.iso (R_galoisref01_Add φ))
def TD6 (φ : Nat) : FTab := TD5 φ
def R_galoisref01_Compare (φ : Nat) : List D → Option D :=
fun as =>
(fun (s : LS) =>
 u1 as fun a1 r18 =>
 u1 r18 fun a2 r19 =>
 u0 r19 (
 kS (.lens (.c a1)) s fun x3 s =>
 kS (.lens (.c a2)) s fun x4 s =>
 kLss x3 x4 fun x5 =>
 kGuard x5 false (fun k => k a1 s) s fun x6 s =>
 kGuard x5 false (fun k => kS (.lens (.c x6)) s k) s fun x7 s =>
 kGuard x5 false (fun k => k a2 s) s fun x8 s =>
 kGuard x5 false (fun k => kS (.lens (.c x8)) s k) s fun x9 s =>
 kGuard x5 false (fun k => kEql x7 x9 fun d => k d s) s fun x10 s =>
 kGuard x5 false (fun k => k x10 s) s fun x11 s =>
 kGuard x11 true (fun k => k a1 s) s fun x12 s =>
 kGuard x11 true (fun k => k a2 s) s fun x13 s =>
 kGuard x11 true (fun k => kLss x12 x13 fun d => k d s) s fun x14 s =>
 kGuard x5 false (fun k => kPick x11 x14 (.b false) s k) s fun x15 s =>
 kPick x5 (.b true) x15 s fun x16 s =>
 kCond x16
(retK false s (.i .i64 (.negSucc 0)) some)
(kEql a1 a2 fun x17 =>
 kCond x17
(retK false s (.i .i64 (.ofNat 0)) some)
(retK false s (.i .i64 (.ofNat 1)) some)))) s0
def T7 (φ : Nat) : FTab := setT (T6 φ) 6 (.iso (R_galoisref01_Compare φ))
def TD7 (φ : Nat) : FTab := TD6 φ
def R_galoisref01_Sub (φ : Nat) : List D → Option D :=
fun as =>
(fun (s : LS) =>
 u1 as fun a1 r43 =>
 u1 r43 fun a2 r44 =>
 u0 r44 (
 isoK (R_galoisref01_Compare φ) [a1, a2] s fun x3 s =>
 kLss x3 (.i .i64 (.ofNat 0)) fun x4 =>
 kCond x4
(retK false s (.n 0) some)
(isoK (R_galoisref01_limbs φ) [a1] s fun x5 s =>
 isoK (R_galoisref01_limbs φ) [a2] s fun x6 s =>
 lp (fun (_ _ _ _ : D) (_ : LS) => none) (fun (q7 : D → D → D → D → LS → Rs) (x8 x9 x10 x11 : D) (s : LS) =>
 kLen x8 s fun x12 s =>
 kLss x11 x12 fun x13 =>
 kCond x13
(jn (fun (x15 x16 x17 x18 : D) (s : LS) =>
 jn (fun (x20 x21 x22 x23 x24 : D) (s : LS) =>
 kIaddr 1 s x20 x23 fun x25 s =>
 kLoad1 s x25 fun x26 s =>
 kSub x26 x24 fun x27 =>
 kIaddr 1 s x20 x23 fun x28 s =>
 kStore 1 s x28 x27 fun _ s =>
 kAdd x23 (.i .i64 (.ofNat 1)) fun x29 =>
 q7 x20 x21 x22 x29 s) fun j19 =>
 kIaddr 1 s x15 x17 fun x30 s =>
 kLoad1 s x30 fun x31 s =>
 kLss x31 x18 fun x32 =>
 kCond x32
(kIaddr 1 s x15 x17 fun x33 s =>
 kLoad1 s x33 fun x34 s =>
 kAdd x34 (.i .u64 (.ofNat 4294967296)) fun x35 =>
 kIaddr 1 s x15 x17 fun x36 s =>
 kStore 1 s x36 x35 fun _ s =>
 j19 x15 x16 (.i .u64 (.ofNat 1)) x17 x18 s)
(j19 x15 x16 (.i .u64 (.ofNat 0)) x17 x18 s)) fun j14 =>
 kLen x9 s fun x37 s =>
 kLss x11 x37 fun x38 =>
 kCond x38
(kIaddr 1 s x9 x11 fun x39 s =>
 kLoad1 s x39 fun x40 s =>
 kAdd x10 x40 fun x41 =>
 j14 x8 x9 x11 x41 s)
(j14 x8 x9 x11 x10 s))
(isoK (R_galoisref01_pack φ) [x8] s fun x42 s =>
 retK false s x42 some)) φ x5 x6 (.i .u64 (.ofNat 0)) (.i .i64 (.ofNat 0)) s))) s0
def T8 (φ : Nat) : FTab := setT (T7 φ) 7 (.iso (R_galoisref01_Sub φ))
def TD8 (φ : Nat) : FTab := TD7 φ
def R_galoisref02_Add (φ : Nat) : List D → Option D :=
fun as =>
(fun (s : LS) =>
 u1 as fun a1 r44 =>
 u1 r44 fun a2 r45 =>
 u0 r45 (
 kBox a1 s fun x3 s =>
 kBox a2 s fun x4 s =>
 kAlloc [(.b false), (.n 0)] s fun x5 s =>
 kFaddr 0 s x3 fun x6 s =>
 kLoad1 s x6 fun x7 s =>
 kFaddr 0 s x4 fun x8 s =>
 kLoad1 s x8 fun x9 s =>
 kBinb .eql x7 x9 s fun x10 s =>
 kCond x10
(kFaddr 0 s x3 fun x11 s =>
 kLoad1 s x11 fun x12 s =>
 kFaddr 1 s x3 fun x13 s =>
 kLoad1 s x13 fun x14 s =>
 kFaddr 1 s x4 fun x15 s =>
 kLoad1 s x15 fun x16 s =>
 isoK (R_galoisref01_Add φ) [x14, x16] s fun x17 s =>
 isoK (R_galoisref02_Make φ) [x12, x17] s fun x18 s =>
 kStore 2 s x5 x18 fun _ s =>
 kLoadn 2 s x5 fun x19 _ =>
 retK false s x19 some)
(kFaddr 1 s x3 fun x20 s =>
 kLoad1 s x20 fun x21 s =>
 kFaddr 1 s x4 fun x22 s =>
 kLoad1 s x22 fun x23 s =>
 isoK (R_galoisref01_Compare φ) [x21, x23] s fun x24 s =>
 kGeq x24 (.i .i64 (.ofNat 0)) fun x25 =>
 kCond x25
(kFaddr 0 s x3 fun x26 s =>
 kLoad1 s x26 fun x27 s =>
 kFaddr 1 s x3 fun x28 s =>
 kLoad1 s x28 fun x29 s =>
 kFaddr 1 s x4 fun x30 s =>
 kLoad1 s x30 fun x31 s =>
 isoK (R_galoisref01_Sub φ) [x29, x31] s fun x32 s =>
 isoK (R_galoisref02_Make φ) [x27, x32] s fun x33 s =>
 kStore 2 s x5 x33 fun _ s =>
 kLoadn 2 s x5 fun x34 _ =>
 retK false s x34 some)
(kFaddr 0 s x4 fun x35 s =>
 kLoad1 s x35 fun x36 s =>
 kFaddr 1 s x4 fun x37 s =>
 kLoad1 s x37 fun x38 s =>
 kFaddr 1 s x3 fun x39 s =>
 kLoad1 s x39 fun x40 s =>
 isoK (R_galoisref01_Sub φ) [x38, x40] s fun x41 s =>
 isoK (R_galoisref02_Make φ) [x36, x41] s fun x42 s =>
 kStore 2 s x5 x42 fun _ s =>
 kLoadn 2 s x5 fun x43 _ =>
 retK false s x43 some)))) s0
def T9 (φ : Nat) : FTab := setT (T8 φ) 8 (.iso (R_galoisref02_Add φ))
def TD9 (φ : Nat) : FTab := TD8 φ
def R_galoisref01_Mul (φ : Nat) : List D → Option D :=
fun as =>
(fun (s : LS) =>
 u1 as fun a1 r45 =>
 u1 r45 fun a2 r46 =>
 u0 r46 (
 isoK (R_galoisref01_limbs φ) [a1] s fun x3 s =>
 isoK (R_galoisref01_limbs φ) [a2] s fun x4 s =>
 kLen x3 s fun x5 s =>
 kLen x4 s fun x6 s =>
 kAdd x5 x6 fun x7 =>
 kMksl 1 8 [(.i .u64 (.ofNat 0))] s x7 x7 fun x8 s =>
 lp (fun (_ _ _ _ : D) (_ : LS) => none) (fun (q9 : D → D → D → D → LS → Rs) (x10 x11 x12 x13 : D) (s : LS) =>
 kLen x10 s fun x14 s =>
 kLss x13 x14 fun x15 =>
 kCond x15
(lp (fun (_ _ _ _ _ _ : D) (_ : LS) => none) (fun (q16 : D → D → D → D → D → D → LS → Rs) (x17 x18 x19 x20 x21 x22 : D) (s : LS) =>
 kLen x18 s fun x23 s =>
 kLss x22 x23 fun x24 =>
 kCond x24
(kAdd x20 x22 fun x25 =>
 kIaddr 1 s x19 x25 fun x26 s =>
 kLoad1 s x26 fun x27 s =>
 kIaddr 1 s x17 x20 fun x28 s =>
 kLoad1 s x28 fun x29 s =>
 kIaddr 1 s x18 x22 fun x30 s =>
 kLoad1 s x30 fun x31 s =>
 kMul x29 x31 fun x32 =>
 kAdd x27 x32 fun x33 =>
 kAdd x33 x21 fun x34 =>
 kAdd x20 x22 fun x35 =>
 kAnd x34 (.i .u64 (.ofNat 4294967295)) fun x36 =>
 kIaddr 1 s x19 x35 fun x37 s =>
 kStore 1 s x37 x36 fun _ s =>
 kShr x34 (.i .u64 (.ofNat 32)) fun x38 =>
 kAdd x22 (.i .i64 (.ofNat 1)) fun x39 =>
 q16 x17 x18 x19 x20 x38 x39 s)
(kLen x18 s fun x40 s =>
 kAdd x20 x40 fun x41 =>
 kIaddr 1 s x19 x41 fun x42 s =>
 kStore 1 s x42 x21 fun _ s =>
 kAdd x20 (.i .i64 (.ofNat 1)) fun x43 =>
 q9 x17 x18 x19 x43 s)) φ x10 x11 x12 x13 (.i .u64 (.ofNat 0)) (.i .i64 (.ofNat 0)) s)
(isoK (R_galoisref01_pack φ) [x12] s fun x44 s =>
 retK false s x44 some)) φ x3 x4 x8 (.i .i64 (.ofNat 0)) s)) s0
def T10 (φ : Nat) : FTab := setT (T9 φ) 9 (.iso (R_galoisref01_Mul φ))
def TD10 (φ : Nat) : FTab := TD9 φ
def R_galoisref02_Mul (φ : Nat) : List D → Option D :=
fun as =>
(fun (s : LS) =>
 u1 as fun a1 r18 =>
 u1 r18 fun a2 r19 =>
 u0 r19 (
 kBox a1 s fun x3 s =>
 kBox a2 s fun x4 s =>
 kAlloc [(.b false), (.n 0)] s fun x5 s =>
 kFaddr 0 s x3 fun x6 s =>
 kLoad1 s x6 fun x7 s =>
 kFaddr 0 s x4 fun x8 s =>
 kLoad1 s x8 fun x9 s =>
 kBinb .neq x7 x9 s fun x10 s =>
 kFaddr 1 s x3 fun x11 s =>
 kLoad1 s x11 fun x12 s =>
 kFaddr 1 s x4 fun x13 s =>
 kLoad1 s x13 fun x14 s =>
 isoK (R_galoisref01_Mul φ) [x12, x14] s fun x15 s =>
 isoK (R_galoisref02_Make φ) [x10, x15] s fun x16 s =>
 kStore 2 s x5 x16 fun _ s =>
 kLoadn 2 s x5 fun x17 _ =>
 retK false s x17 some)) s0
def T11 (φ : Nat) : FTab := setT (T10 φ) 10 (.iso (R_galoisref02_Mul φ))
def TD11 (φ : Nat) : FTab := TD10 φ
def R_galoisref03_denominator (φ : Nat) : List D → Option D :=
fun as =>
(fun (s : LS) =>
 u1 as fun a1 r8 =>
 u0 r8 (
 kBox a1 s fun x2 s =>
 kAlloc [(.b false), (.n 0)] s fun x3 s =>
 kFaddr 2 s x2 fun x4 s =>
 kLoad1 s x4 fun x5 s =>
 kBuild [(.b false), (.n 0)] [(1, 1, x5)] s fun x6 s =>
 kStore 2 s x3 x6 fun _ s =>
 kLoadn 2 s x3 fun x7 _ =>
 retK false s x7 some)) s0
def T12 (φ : Nat) : FTab := setT (T11 φ) 11 (.iso (R_galoisref03_denominator φ))
def TD12 (φ : Nat) : FTab := TD11 φ
def R_galoisref01_below (φ : Nat) : List D → Option D :=
fun as =>
(fun (s : LS) =>
 u1 as fun a1 r28 =>
 u1 r28 fun a2 r29 =>
 u0 r29 (
(R_galoisref01_trim φ) [a1] s fun x3 s =>
 kLen x3 s fun x4 s =>
 kLen a2 s fun x5 s =>
 kNeq x4 x5 fun x6 =>
 kCond x6
(kLen x3 s fun x7 s =>
 kLen a2 s fun x8 s =>
 kLss x7 x8 fun x9 =>
 retK false s x9 some)
(kLen x3 s fun x10 s =>
 kSub x10 (.i .i64 (.ofNat 1)) fun x11 =>
 lp (fun (_ _ _ : D) (_ : LS) => none) (fun (q12 : D → D → D → LS → Rs) (x13 x14 x15 : D) (s : LS) =>
 kGeq x15 (.i .i64 (.ofNat 0)) fun x16 =>
 kCond x16
(kIaddr 1 s x13 x15 fun x17 s =>
 kLoad1 s x17 fun x18 s =>
 kIaddr 1 s x14 x15 fun x19 s =>
 kLoad1 s x19 fun x20 s =>
 kNeq x18 x20 fun x21 =>
 kCond x21
(kIaddr 1 s x13 x15 fun x22 s =>
 kLoad1 s x22 fun x23 s =>
 kIaddr 1 s x14 x15 fun x24 s =>
 kLoad1 s x24 fun x25 s =>
 kLss x23 x25 fun x26 =>
 retK false s x26 some)
(kSub x15 (.i .i64 (.ofNat 1)) fun x27 =>
 q12 x13 x14 x27 s))
(retK false s (.b false) some)) φ x3 a2 x11 s))) s0
def T13 (φ : Nat) : FTab := setT (T12 φ) 12 (.iso (R_galoisref01_below φ))
def TD13 (φ : Nat) : FTab := TD12 φ
def R_galoisref01_DivMod (φ : Nat) : List D → Option D :=
fun as =>
(fun (s : LS) =>
 u1 as fun a1 r105 =>
 u1 r105 fun a2 r106 =>
 u0 r106 (
 kEql a2 (.n 0) fun x3 =>
 kCond x3
(retK false s (.tup [(.n 0), (.n 0)]) some)
(isoK (R_galoisref01_limbs φ) [a1] s fun x4 s =>
 isoK (R_galoisref01_limbs φ) [a2] s fun x5 s =>
 kLen x5 s fun x6 s =>
 kBsl 1 [(.i .u64 (.ofNat 0))] [(0, 1, (.i .u64 (.ofNat 0)))] s fun x7 s =>
 kApp 1 8 s x4 x7 fun x8 s =>
 kLen x4 s fun x9 s =>
 kSub x9 x6 fun x10 =>
 kAdd x10 (.i .i64 (.ofNat 1)) fun x11 =>
 kS (.max (.c (.i .i64 (.ofNat 0))) (.c x11)) s fun x12 s =>
 kMksl 1 8 [(.i .u64 (.ofNat 0))] s x12 x12 fun x13 s =>
 kLen x13 s fun x14 s =>
 kSub x14 (.i .i64 (.ofNat 1)) fun x15 =>
 lp (fun (_ _ _ _ _ : D) (_ : LS) => none) (fun (q16 : D → D → D → D → D → LS → Rs) (x17 x18 x19 x20 x21 : D) (s : LS) =>
 kGeq x21 (.i .i64 (.ofNat 0)) fun x22 =>
 kCond x22
(lp (fun (_ _ _ _ _ : D) (_ : LS) => none) (fun (q23 : D → D → D → D → D → LS → Rs) (x24 x25 x26 x27 x28 : D) (s : LS) =>
 kSlice 1 s x26 (some x28) none none fun x29 s =>
 isoK (R_galoisref01_below φ) [x29, x24] s fun x30 s =>
 kNot x30 s fun x31 s =>
 kCond x31
(kAdd x28 x25 fun x32 =>
 kIaddr 1 s x26 x32 fun x33 s =>
 kLoad1 s x33 fun x34 s =>
 kShl x34 (.i .u64 (.ofNat 32)) fun x35 =>
 kAdd x28 x25 fun x36 =>
 kSub x36 (.i .i64 (.ofNat 1)) fun x37 =>
 kIaddr 1 s x26 x37 fun x38 s =>
 kLoad1 s x38 fun x39 s =>
 kAdd x35 x39 fun x40 =>
 kSub x25 (.i .i64 (.ofNat 1)) fun x41 =>
 kIaddr 1 s x24 x41 fun x42 s =>
 kLoad1 s x42 fun x43 s =>
 kAdd x43 (.i .u64 (.ofNat 1)) fun x44 =>
 kQuo x40 x44 fun x45 =>
 kS (.max (.c (.i .u64 (.ofNat 1))) (.c x45)) s fun x46 s =>
 kIaddr 1 s x27 x28 fun x47 s =>
 kLoad1 s x47 fun x48 s =>
 kAdd x48 x46 fun x49 =>
 kIaddr 1 s x27 x28 fun x50 s =>
 kStore 1 s x50 x49 fun _ s =>
 lp (fun (_ _ _ _ _ _ _ _ : D) (_ : LS) => none) (fun (q51 : D → D → D → D → D → D → D → D → LS → Rs) (x52 x53 x54 x55 x56 x57 x58 x59 : D) (s : LS) =>
 kLss x59 x53 fun x60 =>
 kCond x60
(kIaddr 1 s x52 x59 fun x61 s =>
 kLoad1 s x61 fun x62 s =>
 kMul x62 x57 fun x63 =>
 kAdd x63 x58 fun x64 =>
 kShr x64 (.i .u64 (.ofNat 32)) fun x65 =>
 jn (fun (x67 x68 x69 x70 x71 x72 x73 x74 x75 : D) (s : LS) =>
 kAdd x71 x74 fun x76 =>
 kAdd x71 x74 fun x77 =>
 kIaddr 1 s x69 x77 fun x78 s =>
 kLoad1 s x78 fun x79 s =>
 kAnd x75 (.i .u64 (.ofNat 4294967295)) fun x80 =>
 kSub x79 x80 fun x81 =>
 kIaddr 1 s x69 x76 fun x82 s =>
 kStore 1 s x82 x81 fun _ s =>
 kAdd x74 (.i .i64 (.ofNat 1)) fun x83 =>
 q51 x67 x68 x69 x70 x71 x72 x73 x83 s) fun j66 =>
 kAdd x56 x59 fun x84 =>
 kIaddr 1 s x54 x84 fun x85 s =>
 kLoad1 s x85 fun x86 s =>
 kAnd x64 (.i .u64 (.ofNat 4294967295)) fun x87 =>
 kLss x86 x87 fun x88 =>
 kCond x88
(kAdd x56 x59 fun x89 =>
 kAdd x56 x59 fun x90 =>
 kIaddr 1 s x54 x90 fun x91 s =>
 kLoad1 s x91 fun x92 s =>
 kAdd x92 (.i .u64 (.ofNat 4294967296)) fun x93 =>
 kIaddr 1 s x54 x89 fun x94 s =>
 kStore 1 s x94 x93 fun _ s =>
 kAdd x65 (.i .u64 (.ofNat 1)) fun x95 =>
 j66 x52 x53 x54 x55 x56 x57 x95 x59 x64 s)
(j66 x52 x53 x54 x55 x56 x57 x65 x59 x64 s))
(kAdd x56 x53 fun x96 =>
 kAdd x56 x53 fun x97 =>
 kIaddr 1 s x54 x97 fun x98 s =>
 kLoad1 s x98 fun x99 s =>
 kSub x99 x58 fun x100 =>
 kIaddr 1 s x54 x96 fun x101 s =>
 kStore 1 s x101 x100 fun _ s =>
 q23 x52 x53 x54 x55 x56 s)) φ x24 x25 x26 x27 x28 x46 (.i .u64 (.ofNat 0)) (.i .i64 (.ofNat 0)) s)
(kSub x28 (.i .i64 (.ofNat 1)) fun x102 =>
 q16 x24 x25 x26 x27 x102 s)) φ x17 x18 x19 x20 x21 s)
(isoK (R_galoisref01_pack φ) [x20] s fun x103 s =>
 isoK (R_galoisref01_pack φ) [x19] s fun x104 s =>
 retK false s (.tup [x103, x104]) some)) φ x5 x6 x8 x13 x15 s))) s0
def T14 (φ : Nat) : FTab := setT (T13 φ) 13 (.iso (R_galoisref01_DivMod φ))
def TD14 (φ : Nat) : FTab := TD13 φ
def R_galoisref01_Gcd (φ : Nat) : List D → Option D :=
fun as =>
(fun (s : LS) =>
 u1 as fun a1 r10 =>
 u1 r10 fun a2 r11 =>
 u0 r11 (
 lp (fun (_ _ : D) (_ : LS) => none) (fun (q3 : D → D → LS → Rs) (x4 x5 : D) (s : LS) =>
 kNeq x5 (.n 0) fun x6 =>
 kCond x6
(isoK (R_galoisref01_DivMod φ) [x4, x5] s fun x7 s =>
 kExt x7 0 s fun x8 s =>
 kExt x7 1 s fun x9 s =>
 q3 x5 x9 s)
(retK false s x4 some)) φ a1 a2 s)) s0
def T15 (φ : Nat) : FTab := setT (T14 φ) 14 (.iso (R_galoisref01_Gcd φ))
def TD15 (φ : Nat) : FTab := TD14 φ
def R_galoisref03_Make (φ : Nat) : List D → Option D :=
fun as =>
(fun (s : LS) =>
 u1 as fun a1 r34 =>
 u1 r34 fun a2 r35 =>
 u0 r35 (
 kBox a1 s fun x3 s =>
 kBox a2 s fun x4 s =>
 kAlloc [(.b false), (.n 0), (.n 0)] s fun x5 s =>
 kFaddr 1 s x4 fun x6 s =>
 kLoad1 s x6 fun x7 s =>
 kEql x7 (.n 0) fun x8 =>
 kCond x8
(kBuild [(.b false), (.n 0), (.n 0)] [(2, 1, (.n 1))] s fun x9 s =>
 kStore 3 s x5 x9 fun _ s =>
 kLoadn 3 s x5 fun x10 _ =>
 retK false s x10 some)
(kFaddr 1 s x3 fun x11 s =>
 kLoad1 s x11 fun x12 s =>
 kFaddr 1 s x4 fun x13 s =>
 kLoad1 s x13 fun x14 s =>
 isoK (R_galoisref01_Gcd φ) [x12, x14] s fun x15 s =>
 kFaddr 1 s x3 fun x16 s =>
 kLoad1 s x16 fun x17 s =>
 isoK (R_galoisref01_DivMod φ) [x17, x15] s fun x18 s =>
 kExt x18 0 s fun x19 s =>
 kExt x18 1 s fun x20 s =>
 kFaddr 1 s x4 fun x21 s =>
 kLoad1 s x21 fun x22 s =>
 isoK (R_galoisref01_DivMod φ) [x22, x15] s fun x23 s =>
 kExt x23 0 s fun x24 s =>
 kExt x23 1 s fun x25 s =>
 kFaddr 0 s x3 fun x26 s =>
 kLoad1 s x26 fun x27 s =>
 kFaddr 0 s x4 fun x28 s =>
 kLoad1 s x28 fun x29 s =>
 kBinb .neq x27 x29 s fun x30 s =>
 isoK (R_galoisref02_Make φ) [x30, x19] s fun x31 s =>
 kBuild [(.b false), (.n 0), (.n 0)] [(0, 2, x31), (2, 1, x24)] s fun x32 s =>
 kStore 3 s x5 x32 fun _ s =>
 kLoadn 3 s x5 fun x33 _ =>
 retK false s x33 some))) s0
def T16 (φ : Nat) : FTab := setT (T15 φ) 15 (.iso (R_galoisref03_Make φ))
def TD16 (φ : Nat) : FTab := TD15 φ
def R_galoisref03_Add (φ : Nat) : List D → Option D :=
fun as =>
(fun (s : LS) =>
 u1 as fun a1 r40 =>
 u1 r40 fun a2 r41 =>
 u0 r41 (
 kBox a1 s fun x3 s =>
 kBox a2 s fun x4 s =>
 kAlloc [(.b false), (.n 0), (.n 0)] s fun x5 s =>
 kFaddr 2 s x3 fun x6 s =>
 kLoad1 s x6 fun x7 s =>
 kEql x7 (.n 1) fun x8 =>
 kGuard x8 true (fun k => kFaddr 2 s x4 k) s fun x9 s =>
 kGuard x8 true (fun k => kLoad1 s x9 k) s fun x10 s =>
 kGuard x8 true (fun k => kEql x10 (.n 1) fun d => k d s) s fun x11 s =>
 kPick x8 x11 (.b false) s fun x12 s =>
 kCond x12
(kFaddr 0 s x3 fun x13 s =>
 kLoadn 2 s x13 fun x14 s =>
 kFaddr 0 s x4 fun x15 s =>
 kLoadn 2 s x15 fun x16 s =>
 isoK (R_galoisref02_Add φ) [x14, x16] s fun x17 s =>
 isoK (R_galoisref03_Whole φ) [x17] s fun x18 s =>
 kStore 3 s x5 x18 fun _ s =>
 kLoadn 3 s x5 fun x19 _ =>
 retK false s x19 some)
(kFaddr 0 s x3 fun x20 s =>
 kLoadn 2 s x20 fun x21 s =>
 kLoadn 3 s x4 fun x22 s =>
 isoK (R_galoisref03_denominator φ) [x22] s fun x23 s =>
 isoK (R_galoisref02_Mul φ) [x21, x23] s fun x24 s =>
 kFaddr 0 s x4 fun x25 s =>
 kLoadn 2 s x25 fun x26 s =>
 kLoadn 3 s x3 fun x27 s =>
 isoK (R_galoisref03_denominator φ) [x27] s fun x28 s =>
 isoK (R_galoisref02_Mul φ) [x26, x28] s fun x29 s =>
 isoK (R_galoisref02_Add φ) [x24, x29] s fun x30 s =>
 kAlloc [(.b false), (.n 0)] s fun x31 s =>
 kStore 2 s x31 x30 fun _ s =>
 kLoadn 2 s x31 fun x32 s =>
 kLoadn 3 s x3 fun x33 s =>
 isoK (R_galoisref03_denominator φ) [x33] s fun x34 s =>
 kLoadn 3 s x4 fun x35 s =>
 isoK (R_galoisref03_denominator φ) [x35] s fun x36 s =>
 isoK (R_galoisref02_Mul φ) [x34, x36] s fun x37 s =>
 isoK (R_galoisref03_Make φ) [x32, x37] s fun x38 s =>
 kStore 3 s x5 x38 fun _ s =>
 kLoadn 3 s x5 fun x39 _ =>
 retK false s x39 some))) s0
def T17 (φ : Nat) : FTab := setT (T16 φ) 16 (.iso (R_galoisref03_Add φ))
def TD17 (φ : Nat) : FTab := TD16 φ
def R_galoisref01_Of (φ : Nat) : List D → Option D :=
fun as =>
(fun (s : LS) =>
 u1 as fun a1 r6 =>
 u0 r6 (
 kAnd a1 (.i .u64 (.ofNat 4294967295)) fun x2 =>
 kShr a1 (.i .u64 (.ofNat 32)) fun x3 =>
 kBsl 2 [(.i .u64 (.ofNat 0))] [(0, 1, x2), (1, 1, x3)] s fun x4 s =>
 isoK (R_galoisref01_pack φ) [x4] s fun x5 s =>
 retK false s x5 some)) s0
def T18 (φ : Nat) : FTab := setT (T17 φ) 17 (.iso (R_galoisref01_Of φ))
def TD18 (φ : Nat) : FTab := TD17 φ
def R_galoisref02_FromInt (φ : Nat) : List D → Option D :=
fun as =>
(fun (s : LS) =>
 u1 as fun a1 r15 =>
 u0 r15 (
 kAlloc [(.b false), (.n 0)] s fun x2 s =>
 kLss a1 (.i .i64 (.ofNat 0)) fun x3 =>
 kCond x3
(kAdd a1 (.i .i64 (.ofNat 1)) fun x4 =>
 kS (.neg (.c x4)) s fun x5 s =>
 kToInt .u64 x5 s fun x6 s =>
 kAdd x6 (.i .u64 (.ofNat 1)) fun x7 =>
 isoK (R_galoisref01_Of φ) [x7] s fun x8 s =>
 kBuild [(.b false), (.n 0)] [(0, 1, (.b true)), (1, 1, x8)] s fun x9 s =>
 kStore 2 s x2 x9 fun _ s =>
 kLoadn 2 s x2 fun x10 _ =>
 retK false s x10 some)
(kToInt .u64 a1 s fun x11 s =>
 isoK (R_galoisref01_Of φ) [x11] s fun x12 s =>
 kBuild [(.b false), (.n 0)] [(1, 1, x12)] s fun x13 s =>
 kStore 2 s x2 x13 fun _ s =>
 kLoadn 2 s x2 fun x14 _ =>
 retK false s x14 some))) s0
def T19 (φ : Nat) : FTab := setT (T18 φ) 18 (.iso (R_galoisref02_FromInt φ))
def TD19 (φ : Nat) : FTab := TD18 φ
def R_galoisref03_FromInt (φ : Nat) : List D → Option D :=
fun as =>
(fun (s : LS) =>
 u1 as fun a1 r6 =>
 u0 r6 (
 kAlloc [(.b false), (.n 0), (.n 0)] s fun x2 s =>
 isoK (R_galoisref02_FromInt φ) [a1] s fun x3 s =>
 kBuild [(.b false), (.n 0), (.n 0)] [(0, 2, x3), (2, 1, (.n 1))] s fun x4 s =>
 kStore 3 s x2 x4 fun _ s =>
 kLoadn 3 s x2 fun x5 _ =>
 retK false s x5 some)) s0
def T20 (φ : Nat) : FTab := setT (T19 φ) 19 (.iso (R_galoisref03_FromInt φ))
def TD20 (φ : Nat) : FTab := TD19 φ
def R_galoisref06_at (φ : Nat) : List D → Option D :=
fun as =>
(fun (s : LS) =>
 u1 as fun a1 r11 =>
 u1 r11 fun a2 r12 =>
 u0 r12 (
 kAlloc [(.b false), (.n 0), (.n 0)] s fun x3 s =>
 kLen a1 s fun x4 s =>
 kLss a2 x4 fun x5 =>
 kCond x5
(kIaddr 3 s a1 a2 fun x6 s =>
 kLoadn 3 s x6 fun x7 s =>
 kStore 3 s x3 x7 fun _ s =>
 kLoadn 3 s x3 fun x8 _ =>
 retK false s x8 some)
(isoK (R_galoisref03_FromInt φ) [(.i .i64 (.ofNat 0))] s fun x9 s =>
 kStore 3 s x3 x9 fun _ s =>
 kLoadn 3 s x3 fun x10 _ =>
 retK false s x10 some))) s0
def T21 (φ : Nat) : FTab := setT (T20 φ) 20 (.iso (R_galoisref06_at φ))
def TD21 (φ : Nat) : FTab := TD20 φ
def R_galoisref02_Sign (φ : Nat) : List D → Option D :=
fun as =>
(fun (s : LS) =>
 u1 as fun a1 r8 =>
 u0 r8 (
 kBox a1 s fun x2 s =>
 kFaddr 0 s x2 fun x3 s =>
 kLoad1 s x3 fun x4 s =>
 kCond x4
(retK false s (.i .i64 (.negSucc 0)) some)
(kFaddr 1 s x2 fun x5 s =>
 kLoad1 s x5 fun x6 s =>
 kEql x6 (.n 0) fun x7 =>
 kCond x7
(retK false s (.i .i64 (.ofNat 0)) some)
(retK false s (.i .i64 (.ofNat 1)) some)))) s0
def T22 (φ : Nat) : FTab := setT (T21 φ) 21 (.iso (R_galoisref02_Sign φ))
def TD22 (φ : Nat) : FTab := TD21 φ
def R_galoisref03_Sign (φ : Nat) : List D → Option D :=
fun as =>
(fun (s : LS) =>
 u1 as fun a1 r6 =>
 u0 r6 (
 kBox a1 s fun x2 s =>
 kFaddr 0 s x2 fun x3 s =>
 kLoadn 2 s x3 fun x4 s =>
 isoK (R_galoisref02_Sign φ) [x4] s fun x5 s =>
 retK false s x5 some)) s0
def T23 (φ : Nat) : FTab := setT (T22 φ) 22 (.iso (R_galoisref03_Sign φ))
def TD23 (φ : Nat) : FTab := TD22 φ
def R_galoisref06_Trim (φ : Nat) : List D → Option D :=
fun as =>
(fun (s : LS) =>
 u1 as fun a1 r19 =>
 u0 r19 (
 kLen a1 s fun x2 s =>
 lp (fun (_ _ : D) (_ : LS) => none) (fun (q3 : D → D → LS → Rs) (x4 x5 : D) (s : LS) =>
 kGtr x5 (.i .i64 (.ofNat 0)) fun x6 =>
 kGuard x6 true (fun k => k x4 s) s fun x7 s =>
 kGuard x6 true (fun k => k x5 s) s fun x8 s =>
 kGuard x6 true (fun k => kSub x8 (.i .i64 (.ofNat 1)) fun d => k d s) s fun x9 s =>
 kGuard x6 true (fun k => kIaddr 3 s x7 x9 k) s fun x10 s =>
 kGuard x6 true (fun k => kLoadn 3 s x10 k) s fun x11 s =>
 kGuard x6 true (fun k => isoK (R_galoisref03_Sign φ) [x11] s k) s fun x12 s =>
 kGuard x6 true (fun k => kEql x12 (.i .i64 (.ofNat 0)) fun d => k d s) s fun x13 s =>
 kPick x6 x13 (.b false) s fun x14 s =>
 kCond x14
(kSub x5 (.i .i64 (.ofNat 1)) fun x15 =>
 q3 x4 x15 s)
(kBsl 0 [(.b false), (.n 0), (.n 0)] [] s fun x16 s =>
 kSlice 3 s x4 none (some x5) none fun x17 s =>
 kApp 3 40 s x16 x17 fun x18 s =>
 retK false s x18 some)) φ a1 x2 s)) s0
def T24 (φ : Nat) : FTab := setT (T23 φ) 23 (.iso (R_galoisref06_Trim φ))
def TD24 (φ : Nat) : FTab := TD23 φ
def R_galoisref06_Add (φ : Nat) : List D → Option D :=
fun as =>
(fun (s : LS) =>
 u1 as fun a1 r19 =>
 u1 r19 fun a2 r20 =>
 u0 r20 (
 lp (fun (_ _ _ _ : D) (_ : LS) => none) (fun (q3 : D → D → D → D → LS → Rs) (x4 x5 x6 x7 : D) (s : LS) =>
 kLen x4 s fun x8 s =>
 kLen x5 s fun x9 s =>
 kS (.max (.c x8) (.c x9)) s fun x10 s =>
 kLss x7 x10 fun x11 =>
 kCond x11
(isoK (R_galoisref06_at φ) [x4, x7] s fun x12 s =>
 isoK (R_galoisref06_at φ) [x5, x7] s fun x13 s =>
 isoK (R_galoisref03_Add φ) [x12, x13] s fun x14 s =>
 kBsl 1 [(.b false), (.n 0), (.n 0)] [(0, 3, x14)] s fun x15 s =>
 kApp 3 40 s x6 x15 fun x16 s =>
 kAdd x7 (.i .i64 (.ofNat 1)) fun x17 =>
 q3 x4 x5 x16 x17 s)
(isoK (R_galoisref06_Trim φ) [x6] s fun x18 s =>
 retK false s x18 some)) φ a1 a2 (.tree [] 0 true) (.i .i64 (.ofNat 0)) s)) s0
def T25 (φ : Nat) : FTab := setT (T24 φ) 24 (.iso (R_galoisref06_Add φ))
def TD25 (φ : Nat) : FTab := TD24 φ
def R_galoisref06_Monomial (φ : Nat) : List D → Option D :=
fun as =>
(fun (s : LS) =>
 u1 as fun a1 r18 =>
 u1 r18 fun a2 r19 =>
 u0 r19 (
 kBox a1 s fun x3 s =>
 lp (fun (_ _ _ _ : D) (_ : LS) => none) (fun (q4 : D → D → D → D → LS → Rs) (x5 x6 x7 x8 : D) (s : LS) =>
 kLss x8 x5 fun x9 =>
 kCond x9
(isoK (R_galoisref03_FromInt φ) [(.i .i64 (.ofNat 0))] s fun x10 s =>
 kBsl 1 [(.b false), (.n 0), (.n 0)] [(0, 3, x10)] s fun x11 s =>
 kApp 3 40 s x7 x11 fun x12 s =>
 kAdd x8 (.i .i64 (.ofNat 1)) fun x13 =>
 q4 x5 x6 x12 x13 s)
(kLoadn 3 s x6 fun x14 s =>
 kBsl 1 [(.b false), (.n 0), (.n 0)] [(0, 3, x14)] s fun x15 s =>
 kApp 3 40 s x7 x15 fun x16 s =>
 isoK (R_galoisref06_Trim φ) [x16] s fun x17 s =>
 retK false s x17 some)) φ a2 x3 (.tree [] 0 true) (.i .i64 (.ofNat 0)) s)) s0
def T26 (φ : Nat) : FTab := setT (T25 φ) 25 (.iso (R_galoisref06_Monomial φ))
def TD26 (φ : Nat) : FTab := TD25 φ
def R_galoisref06_Of (φ : Nat) : List D → Option D :=
fun as =>
(fun (s : LS) =>
 u1 as fun a1 r16 =>
 u0 r16 (
 kLen a1 s fun x2 s =>
 lp (fun (_ _ _ _ : D) (_ : LS) => none) (fun (q3 : D → D → D → D → LS → Rs) (x4 x5 x6 x7 : D) (s : LS) =>
 kLss x7 x6 fun x8 =>
 kCond x8
(kIaddr 1 s x5 x7 fun x9 s =>
 kLoad1 s x9 fun x10 s =>
 isoK (R_galoisref03_FromInt φ) [x10] s fun x11 s =>
 kBsl 1 [(.b false), (.n 0), (.n 0)] [(0, 3, x11)] s fun x12 s =>
 kApp 3 40 s x4 x12 fun x13 s =>
 kAdd x7 (.i .i64 (.ofNat 1)) fun x14 =>
 q3 x13 x5 x6 x14 s)
(isoK (R_galoisref06_Trim φ) [x4] s fun x15 s =>
 retK false s x15 some)) φ (.tree [] 0 true) a1 x2 (.i .i64 (.ofNat 0)) s)) s0
def T27 (φ : Nat) : FTab := setT (T26 φ) 26 (.iso (R_galoisref06_Of φ))
def TD27 (φ : Nat) : FTab := TD26 φ
def T28 (φ : Nat) : FTab := setT (T27 φ) 27 (.mem (R_exact_trim φ))
def TD28 (φ : Nat) : FTab := TD27 φ
def T29 (φ : Nat) : FTab := setT (T28 φ) 28 (.iso packM)
def TD29 (φ : Nat) : FTab := TD28 φ
def T30 (φ : Nat) : FTab := setT (T29 φ) 29 (.iso (R_exact_compareWords φ))
def TD30 (φ : Nat) : FTab := TD29 φ
def T31 (φ : Nat) : FTab := setT (T30 φ) 30 (.iso (R_math_bits_Len64 φ))
def TD31 (φ : Nat) : FTab := TD30 φ
def T32 (φ : Nat) : FTab := setT (T31 φ) 31 (.iso (R_math_bits_LeadingZeros64 φ))
def TD32 (φ : Nat) : FTab := TD31 φ
def T33 (φ : Nat) : FTab := setT (T32 φ) 32 (.iso (R_math_bits_Div64 φ))
def TD33 (φ : Nat) : FTab := TD32 φ
def T34 (φ : Nat) : FTab := setT (T33 φ) 33 (.iso (R_exact_shiftUp φ))
def TD34 (φ : Nat) : FTab := TD33 φ
def T35 (φ : Nat) : FTab := setT (T34 φ) 34 (.iso mul64M)
def TD35 (φ : Nat) : FTab := TD34 φ
def T36 (φ : Nat) : FTab := setT (T35 φ) 35 (.mem (R_exact_step φ))
def TD36 (φ : Nat) : FTab := TD35 φ
def T37 (φ : Nat) : FTab := setT (T36 φ) 36 (.iso (R_exact_divide φ))
def TD37 (φ : Nat) : FTab := TD36 φ
def T38 (φ : Nat) : FTab := setT (T37 φ) 37 (.iso wordsM)
def TD38 (φ : Nat) : FTab := TD37 φ
def T39 (φ : Nat) : FTab := setT (T38 φ) 38 (.iso (natGcdM φ))
def TD39 (φ : Nat) : FTab := TD38 φ
def R_natural_Check (φ : Nat) : List D → Option D :=
fun as =>
(fun (s : LS) =>
 u1 as fun a1 r10 =>
 u0 r10 (
 kS (.lens (.c a1)) s fun x2 s =>
 kGtr x2 (.i .i64 (.ofNat 0)) fun x3 =>
 kGuard x3 true (fun k => k a1 s) s fun x4 s =>
 kGuard x3 true (fun k => kS (.index (.c x4) (.c (.i .i64 (.ofNat 0)))) s k) s fun x5 s =>
 kGuard x3 true (fun k => kEql x5 (.i .u8 (.ofNat 0)) fun d => k d s) s fun x6 s =>
 kPick x3 x6 (.b false) s fun x7 s =>
 kCond x7
(retK false s (.i .i64 (.ofNat 1)) some)
(kS (.lens (.c a1)) s fun x8 s =>
 kGtr x8 (.i .i64 (.ofNat 1024)) fun x9 =>
 kCond x9
(retK false s (.i .i64 (.ofNat 4)) some)
(retK false s (.i .i64 (.ofNat 0)) some)))) s0
def T40 (φ : Nat) : FTab := setT (T39 φ) 39 (.iso (R_natural_Check φ))
def TD40 (φ : Nat) : FTab := TD39 φ
def R_integer_zero (φ : Nat) : List D → Option D :=
fun as =>
(fun (s : LS) =>
 u0 as (
 kAlloc [(.b false), (.n 0)] s fun x1 s =>
 kBuild [(.b false), (.n 0)] [] s fun x2 s =>
 kStore 2 s x1 x2 fun _ s =>
 kLoadn 2 s x1 fun x3 _ =>
 retK false s x3 some)) s0
def T41 (φ : Nat) : FTab := setT (T40 φ) 40 (.iso (R_integer_zero φ))
def TD41 (φ : Nat) : FTab := TD40 φ
def R_integer_Check (φ : Nat) : List D → Option D :=
fun as =>
(fun (s : LS) =>
 u1 as fun a1 r14 =>
 u0 r14 (
 kBox a1 s fun x2 s =>
 kFaddr 1 s x2 fun x3 s =>
 kLoad1 s x3 fun x4 s =>
 isoK (R_natural_Check φ) [x4] s fun x5 s =>
 kEql x5 (.i .i64 (.ofNat 1)) fun x6 =>
 kCond x6
(retK false s x5 some)
(kLoadn 2 s x2 fun x7 s =>
 isoK (R_integer_zero φ) [] s fun x8 s =>
 kEqs true [1, 2] x7 x8 s fun x9 s =>
 kGuard x9 true (fun k => kFaddr 1 s x2 k) s fun x10 s =>
 kGuard x9 true (fun k => kLoad1 s x10 k) s fun x11 s =>
 kGuard x9 true (fun k => kEql x11 (.n 0) fun d => k d s) s fun x12 s =>
 kPick x9 x12 (.b false) s fun x13 s =>
 kCond x13
(retK false s (.i .i64 (.ofNat 1)) some)
(retK false s x5 some)))) s0
def T42 (φ : Nat) : FTab := setT (T41 φ) 41 (.iso (R_integer_Check φ))
def TD42 (φ : Nat) : FTab := TD41 φ
def R_rational_Check (φ : Nat) : List D → Option D :=
fun as =>
(fun (s : LS) =>
 u1 as fun a1 r30 =>
 u0 r30 (
 kBox a1 s fun x2 s =>
 kFaddr 0 s x2 fun x3 s =>
 kLoadn 2 s x3 fun x4 s =>
 isoK (R_integer_Check φ) [x4] s fun x5 s =>
 kFaddr 2 s x2 fun x6 s =>
 kLoad1 s x6 fun x7 s =>
 isoK (R_natural_Check φ) [x7] s fun x8 s =>
 kEql x5 (.i .i64 (.ofNat 1)) fun x9 =>
 kGuard x9 false (fun k => k x8 s) s fun x10 s =>
 kGuard x9 false (fun k => kEql x10 (.i .i64 (.ofNat 1)) fun d => k d s) s fun x11 s =>
 kPick x9 (.b true) x11 s fun x12 s =>
 kGuard x12 false (fun k => kFaddr 2 s x2 k) s fun x13 s =>
 kGuard x12 false (fun k => kLoad1 s x13 k) s fun x14 s =>
 kGuard x12 false (fun k => kEql x14 (.n 0) fun d => k d s) s fun x15 s =>
 kPick x12 (.b true) x15 s fun x16 s =>
 kCond x16
(retK false s (.i .i64 (.ofNat 1)) some)
(kNeq x5 (.i .i64 (.ofNat 0)) fun x17 =>
 kCond x17
(retK false s x5 some)
(kNeq x8 (.i .i64 (.ofNat 0)) fun x18 =>
 kCond x18
(retK false s x8 some)
(kFaddr 2 s x2 fun x19 s =>
 kLoad1 s x19 fun x20 s =>
 kNeq x20 (.n 1) fun x21 =>
 kGuard x21 true (fun k => kFaddr 0 s x2 k) s fun x22 s =>
 kGuard x21 true (fun k => kFaddr 1 s x22 k) s fun x23 s =>
 kGuard x21 true (fun k => kLoad1 s x23 k) s fun x24 s =>
 kGuard x21 true (fun k => kFaddr 2 s x2 k) s fun x25 s =>
 kGuard x21 true (fun k => kLoad1 s x25 k) s fun x26 s =>
 kGuard x21 true (fun k => isoK (natGcdM φ) [x24, x26] s k) s fun x27 s =>
 kGuard x21 true (fun k => kNeq x27 (.n 1) fun d => k d s) s fun x28 s =>
 kPick x21 x28 (.b false) s fun x29 s =>
 kCond x29
(retK false s (.i .i64 (.ofNat 1)) some)
(retK false s (.i .i64 (.ofNat 0)) some)))))) s0
def T43 (φ : Nat) : FTab := setT (T42 φ) 42 (.iso (R_rational_Check φ))
def TD43 (φ : Nat) : FTab := TD42 φ
def R_exact_IsZero (φ : Nat) : List D → Option D :=
fun as =>
(fun (s : LS) =>
 u1 as fun a1 r7 =>
 u0 r7 (
 kBox a1 s fun x2 s =>
 kFaddr 0 s x2 fun x3 s =>
 kFaddr 1 s x3 fun x4 s =>
 kLoad1 s x4 fun x5 s =>
 kEql x5 (.n 0) fun x6 =>
 retK false s x6 some)) s0
def T44 (φ : Nat) : FTab := setT (T43 φ) 43 (.iso (R_exact_IsZero φ))
def TD44 (φ : Nat) : FTab := TD43 φ
def R_qpoly_Check (φ : Nat) : List D → Option D :=
fun as =>
(fun (s : LS) =>
 u1 as fun a1 r28 =>
 u0 r28 (
 kLen a1 s fun x2 s =>
 kGtr x2 (.i .i64 (.ofNat 65)) fun x3 =>
 kCond x3
(retK false s (.i .i64 (.ofNat 4)) some)
(kLen a1 s fun x4 s =>
 lp (fun (_ _ _ _ : D) (_ : LS) => none) (fun (q5 : D → D → D → D → LS → Rs) (x6 x7 x8 x9 : D) (s : LS) =>
 kLss x9 x8 fun x10 =>
 kCond x10
(kIaddr 3 s x7 x9 fun x11 s =>
 kLoadn 3 s x11 fun x12 s =>
 kAlloc [(.b false), (.n 0), (.n 0)] s fun x13 s =>
 kStore 3 s x13 x12 fun _ s =>
 kLoadn 3 s x13 fun x14 s =>
 isoK (R_rational_Check φ) [x14] s fun x15 s =>
 kNeq x15 (.i .i64 (.ofNat 0)) fun x16 =>
 kCond x16
(retK false s x15 some)
(kAdd x9 (.i .i64 (.ofNat 1)) fun x17 =>
 q5 x6 x7 x8 x17 s))
(kLen x6 s fun x18 s =>
 kGtr x18 (.i .i64 (.ofNat 0)) fun x19 =>
 kGuard x19 true (fun k => k x6 s) s fun x20 s =>
 kGuard x19 true (fun k => k x6 s) s fun x21 s =>
 kGuard x19 true (fun k => kLen x21 s k) s fun x22 s =>
 kGuard x19 true (fun k => kSub x22 (.i .i64 (.ofNat 1)) fun d => k d s) s fun x23 s =>
 kGuard x19 true (fun k => kIaddr 3 s x20 x23 k) s fun x24 s =>
 kGuard x19 true (fun k => kLoadn 3 s x24 k) s fun x25 s =>
 kGuard x19 true (fun k => isoK (R_exact_IsZero φ) [x25] s k) s fun x26 s =>
 kPick x19 x26 (.b false) s fun x27 s =>
 kCond x27
(retK false s (.i .i64 (.ofNat 1)) some)
(retK false s (.i .i64 (.ofNat 0)) some))) φ a1 a1 x4 (.i .i64 (.ofNat 0)) s))) s0
def T45 (φ : Nat) : FTab := setT (T44 φ) 44 (.iso (R_qpoly_Check φ))
def TD45 (φ : Nat) : FTab := TD44 φ
def T46 (φ : Nat) : FTab := setT (T45 φ) 45 (.iso (R_exact_Whole φ))
def TD46 (φ : Nat) : FTab := TD45 φ
def T47 (φ : Nat) : FTab := setT (T46 φ) 46 (.iso (R_exact_NatOf φ))
def TD47 (φ : Nat) : FTab := TD46 φ
def R_exact_IntOf (φ : Nat) : List D → Option D :=
fun as =>
(fun (s : LS) =>
 u1 as fun a1 r13 =>
 u0 r13 (
 kAlloc [(.b false), (.n 0)] s fun x2 s =>
 kLss a1 (.i .i64 (.ofNat 0)) fun x3 =>
 kCond x3
(kToInt .u64 a1 s fun x4 s =>
 kS (.neg (.c x4)) s fun x5 s =>
 isoK (R_exact_NatOf φ) [x5] s fun x6 s =>
 kBuild [(.b false), (.n 0)] [(0, 1, (.b true)), (1, 1, x6)] s fun x7 s =>
 kStore 2 s x2 x7 fun _ s =>
 kLoadn 2 s x2 fun x8 _ =>
 retK false s x8 some)
(kToInt .u64 a1 s fun x9 s =>
 isoK (R_exact_NatOf φ) [x9] s fun x10 s =>
 kBuild [(.b false), (.n 0)] [(1, 1, x10)] s fun x11 s =>
 kStore 2 s x2 x11 fun _ s =>
 kLoadn 2 s x2 fun x12 _ =>
 retK false s x12 some))) s0
def T48 (φ : Nat) : FTab := setT (T47 φ) 47 (.iso (R_exact_IntOf φ))
def TD48 (φ : Nat) : FTab := TD47 φ
def R_exact_Int (φ : Nat) : List D → Option D :=
fun as =>
(fun (s : LS) =>
 u1 as fun a1 r6 =>
 u0 r6 (
 kAlloc [(.b false), (.n 0), (.n 0)] s fun x2 s =>
 isoK (R_exact_IntOf φ) [a1] s fun x3 s =>
 isoK (R_exact_Whole φ) [x3] s fun x4 s =>
 kStore 3 s x2 x4 fun _ s =>
 kLoadn 3 s x2 fun x5 _ =>
 retK false s x5 some)) s0
def T49 (φ : Nat) : FTab := setT (T48 φ) 48 (.iso (R_exact_Int φ))
def TD49 (φ : Nat) : FTab := TD48 φ
def R_exact_Large (φ : Nat) : List D → Option D :=
fun as =>
(fun (s : LS) =>
 u1 as fun a1 r13 =>
 u0 r13 (
 kBox a1 s fun x2 s =>
 kFaddr 0 s x2 fun x3 s =>
 kFaddr 1 s x3 fun x4 s =>
 kLoad1 s x4 fun x5 s =>
 kS (.lens (.c x5)) s fun x6 s =>
 kGtr x6 (.i .i64 (.ofNat 1024)) fun x7 =>
 kGuard x7 false (fun k => kFaddr 2 s x2 k) s fun x8 s =>
 kGuard x7 false (fun k => kLoad1 s x8 k) s fun x9 s =>
 kGuard x7 false (fun k => kS (.lens (.c x9)) s k) s fun x10 s =>
 kGuard x7 false (fun k => kGtr x10 (.i .i64 (.ofNat 1024)) fun d => k d s) s fun x11 s =>
 kPick x7 (.b true) x11 s fun x12 s =>
 retK false s x12 some)) s0
def T50 (φ : Nat) : FTab := setT (T49 φ) 49 (.iso (R_exact_Large φ))
def TD50 (φ : Nat) : FTab := cnd true (setT (TD49 φ) 49 (.iso (R_exact_Large φ))) (TD49 φ)
def R_exact_IsWhole (φ : Nat) : List D → Option D :=
fun as =>
(fun (s : LS) =>
 u1 as fun a1 r6 =>
 u0 r6 (
 kBox a1 s fun x2 s =>
 kFaddr 2 s x2 fun x3 s =>
 kLoad1 s x3 fun x4 s =>
 kEql x4 (.n 1) fun x5 =>
 retK false s x5 some)) s0
def T51 (φ : Nat) : FTab := setT (T50 φ) 50 (.iso (R_exact_IsWhole φ))
def TD51 (φ : Nat) : FTab := TD50 φ
def R_numberfield_Form_1 (φ : Nat) : List D → Option D :=
fun as =>
(fun (s : LS) =>
 u1 as fun a1 r6 =>
 u0 r6 (
 kBox a1 s fun x2 s =>
 kLoadn 3 s x2 fun x3 s =>
 isoK (R_exact_IsWhole φ) [x3] s fun x4 s =>
 kNot x4 s fun x5 s =>
 retK false s x5 some)) s0
def T52 (φ : Nat) : FTab := setT (T51 φ) 51 (.iso (R_numberfield_Form_1 φ))
def TD52 (φ : Nat) : FTab := cnd true (setT (TD51 φ) 51 (.iso (R_numberfield_Form_1 φ))) (TD51 φ)
def R_slices_IndexFunc_api_Poly_api_Rat (φ : Nat) : List D → LS → (D → LS → Rs) → Rs :=
fun as s k =>
 u1 as fun a1 r14 =>
 u1 r14 fun a2 r15 =>
 u0 r15 (
 kLen a1 s fun x3 s =>
 lp (fun (_ _ _ _ : D) (_ : LS) => none) (fun (q4 : D → D → D → D → LS → Rs) (x5 x6 x7 x8 : D) (s : LS) =>
 kLss x8 x7 fun x9 =>
 kCond x9
(kIaddr 3 s x5 x8 fun x10 s =>
 kLoadn 3 s x10 fun x11 s =>
 dynK (TD52 φ) false x6 [x11] s fun x12 s =>
 kCond x12
(k x8 s)
(kAdd x8 (.i .i64 (.ofNat 1)) fun x13 =>
 q4 x5 x6 x7 x13 s))
(k (.i .i64 (.negSucc 0)) s)) φ a1 a2 x3 (.i .i64 (.ofNat 0)) s)
def T53 (φ : Nat) : FTab := setT (T52 φ) 52 (.mem (R_slices_IndexFunc_api_Poly_api_Rat φ))
def TD53 (φ : Nat) : FTab := TD52 φ
def R_slices_ContainsFunc_api_Poly_api_Rat (φ : Nat) : List D → LS → (D → LS → Rs) → Rs :=
fun as s k =>
 u1 as fun a1 r5 =>
 u1 r5 fun a2 r6 =>
 u0 r6 (
(R_slices_IndexFunc_api_Poly_api_Rat φ) [a1, a2] s fun x3 s =>
 kGeq x3 (.i .i64 (.ofNat 0)) fun x4 =>
 k x4 s)
def T54 (φ : Nat) : FTab := setT (T53 φ) 53 (.mem (R_slices_ContainsFunc_api_Poly_api_Rat φ))
def TD54 (φ : Nat) : FTab := TD53 φ
def R_numberfield_Form (φ : Nat) : List D → Option D :=
fun as =>
(fun (s : LS) =>
 u1 as fun a1 r25 =>
 u0 r25 (
 kBox a1 s fun x2 s =>
 kFaddr 0 s x2 fun x3 s =>
 kLoad1 s x3 fun x4 s =>
 isoK (R_qpoly_Check φ) [x4] s fun x5 s =>
 kNeq x5 (.i .i64 (.ofNat 0)) fun x6 =>
 kCond x6
(retK false s x5 some)
(kFaddr 0 s x2 fun x7 s =>
 kLoad1 s x7 fun x8 s =>
 kLen x8 s fun x9 s =>
 kSub x9 (.i .i64 (.ofNat 1)) fun x10 =>
 kLss x10 (.i .i64 (.ofNat 1)) fun x11 =>
 kGuard x11 false (fun k => kFaddr 0 s x2 k) s fun x12 s =>
 kGuard x11 false (fun k => kLoad1 s x12 k) s fun x13 s =>
 kGuard x11 false (fun k => k x10 s) s fun x14 s =>
 kGuard x11 false (fun k => kIaddr 3 s x13 x14 k) s fun x15 s =>
 kGuard x11 false (fun k => kLoadn 3 s x15 k) s fun x16 s =>
 kGuard x11 false (fun k => isoK (R_exact_Int φ) [(.i .i64 (.ofNat 1))] s k) s fun x17 s =>
 kGuard x11 false (fun k => kEqs true [1, 2, 2] x16 x17 s k) s fun x18 s =>
 kPick x11 (.b true) x18 s fun x19 s =>
 kGuard x19 false (fun k => kFaddr 0 s x2 k) s fun x20 s =>
 kGuard x19 false (fun k => kLoad1 s x20 k) s fun x21 s =>
 kGuard x19 false (fun k => (R_slices_ContainsFunc_api_Poly_api_Rat φ) [x21, (.fn 51 [])] s k) s fun x22 s =>
 kPick x19 (.b true) x22 s fun x23 s =>
 kCond x23
(retK false s (.i .i64 (.ofNat 1)) some)
(kGtr x10 (.i .i64 (.ofNat 24)) fun x24 =>
 kCond x24
(retK false s (.i .i64 (.ofNat 4)) some)
(retK false s (.i .i64 (.ofNat 0)) some))))) s0
def T55 (φ : Nat) : FTab := setT (T54 φ) 54 (.iso (R_numberfield_Form φ))
def TD55 (φ : Nat) : FTab := TD54 φ
def R_exact_PTrim (φ : Nat) : List D → Option D :=
fun as =>
(fun (s : LS) =>
 u1 as fun a1 r16 =>
 u0 r16 (
 kLen a1 s fun x2 s =>
 lp (fun (_ _ : D) (_ : LS) => none) (fun (q3 : D → D → LS → Rs) (x4 x5 : D) (s : LS) =>
 kGtr x5 (.i .i64 (.ofNat 0)) fun x6 =>
 kGuard x6 true (fun k => k x4 s) s fun x7 s =>
 kGuard x6 true (fun k => k x5 s) s fun x8 s =>
 kGuard x6 true (fun k => kSub x8 (.i .i64 (.ofNat 1)) fun d => k d s) s fun x9 s =>
 kGuard x6 true (fun k => kIaddr 3 s x7 x9 k) s fun x10 s =>
 kGuard x6 true (fun k => kLoadn 3 s x10 k) s fun x11 s =>
 kGuard x6 true (fun k => isoK (R_exact_IsZero φ) [x11] s k) s fun x12 s =>
 kPick x6 x12 (.b false) s fun x13 s =>
 kCond x13
(kSub x5 (.i .i64 (.ofNat 1)) fun x14 =>
 q3 x4 x14 s)
(kSlice 3 s x4 none (some x5) (some x5) fun x15 s =>
 retK false s x15 some)) φ a1 x2 s)) s0
def T56 (φ : Nat) : FTab := setT (T55 φ) 55 (.iso (R_exact_PTrim φ))
def TD56 (φ : Nat) : FTab := TD55 φ
def R_exact_PCoef (φ : Nat) : List D → Option D :=
fun as =>
(fun (s : LS) =>
 u1 as fun a1 r15 =>
 u1 r15 fun a2 r16 =>
 u0 r16 (
 kAlloc [(.b false), (.n 0), (.n 0)] s fun x3 s =>
 kLss a2 (.i .i64 (.ofNat 0)) fun x4 =>
 kGuard x4 false (fun k => k a2 s) s fun x5 s =>
 kGuard x4 false (fun k => k a1 s) s fun x6 s =>
 kGuard x4 false (fun k => kLen x6 s k) s fun x7 s =>
 kGuard x4 false (fun k => kGeq x5 x7 fun d => k d s) s fun x8 s =>
 kPick x4 (.b true) x8 s fun x9 s =>
 kCond x9
(isoK (R_exact_Int φ) [(.i .i64 (.ofNat 0))] s fun x10 s =>
 kStore 3 s x3 x10 fun _ s =>
 kLoadn 3 s x3 fun x11 _ =>
 retK false s x11 some)
(kIaddr 3 s a1 a2 fun x12 s =>
 kLoadn 3 s x12 fun x13 s =>
 kStore 3 s x3 x13 fun _ s =>
 kLoadn 3 s x3 fun x14 _ =>
 retK false s x14 some))) s0
def T57 (φ : Nat) : FTab := setT (T56 φ) 56 (.iso (R_exact_PCoef φ))
def TD57 (φ : Nat) : FTab := TD56 φ
def T58 (φ : Nat) : FTab := setT (T57 φ) 57 (.iso (R_exact_IntMake φ))
def TD58 (φ : Nat) : FTab := TD57 φ
def T59 (φ : Nat) : FTab := setT (T58 φ) 58 (.iso intNegM)
def TD59 (φ : Nat) : FTab := TD58 φ
def R_exact_Neg (φ : Nat) : List D → Option D :=
fun as =>
(fun (s : LS) =>
 u1 as fun a1 r11 =>
 u0 r11 (
 kBox a1 s fun x2 s =>
 kAlloc [(.b false), (.n 0), (.n 0)] s fun x3 s =>
 kFaddr 0 s x2 fun x4 s =>
 kLoadn 2 s x4 fun x5 s =>
 isoK intNegM [x5] s fun x6 s =>
 kFaddr 2 s x2 fun x7 s =>
 kLoad1 s x7 fun x8 s =>
 kBuild [(.b false), (.n 0), (.n 0)] [(0, 2, x6), (2, 1, x8)] s fun x9 s =>
 kStore 3 s x3 x9 fun _ s =>
 kLoadn 3 s x3 fun x10 _ =>
 retK false s x10 some)) s0
def T60 (φ : Nat) : FTab := setT (T59 φ) 59 (.iso (R_exact_Neg φ))
def TD60 (φ : Nat) : FTab := TD59 φ
def T61 (φ : Nat) : FTab := setT (T60 φ) 60 (.iso (R_exact_mulWords φ))
def TD61 (φ : Nat) : FTab := TD60 φ
def T62 (φ : Nat) : FTab := setT (T61 φ) 61 (.iso natMulM)
def TD62 (φ : Nat) : FTab := TD61 φ
def T63 (φ : Nat) : FTab := setT (T62 φ) 62 (.iso (natDivModM φ))
def TD63 (φ : Nat) : FTab := TD62 φ
def T64 (φ : Nat) : FTab := setT (T63 φ) 63 (.iso (R_exact_Make φ))
def TD64 (φ : Nat) : FTab := TD63 φ
def T65 (φ : Nat) : FTab := setT (T64 φ) 64 (.iso natCmpM)
def TD65 (φ : Nat) : FTab := TD64 φ
def T66 (φ : Nat) : FTab := setT (T65 φ) 65 (.iso natAddM)
def TD66 (φ : Nat) : FTab := TD65 φ
def T67 (φ : Nat) : FTab := setT (T66 φ) 66 (.iso natSubM)
def TD67 (φ : Nat) : FTab := TD66 φ
def T68 (φ : Nat) : FTab := setT (T67 φ) 67 (.iso intAddM)
def TD68 (φ : Nat) : FTab := TD67 φ
def T69 (φ : Nat) : FTab := setT (T68 φ) 68 (.iso (R_exact_Add φ))
def TD69 (φ : Nat) : FTab := TD68 φ
def R_exact_Sub (φ : Nat) : List D → Option D :=
fun as =>
(fun (s : LS) =>
 u1 as fun a1 r11 =>
 u1 r11 fun a2 r12 =>
 u0 r12 (
 kBox a1 s fun x3 s =>
 kBox a2 s fun x4 s =>
 kAlloc [(.b false), (.n 0), (.n 0)] s fun x5 s =>
 kLoadn 3 s x3 fun x6 s =>
 kLoadn 3 s x4 fun x7 s =>
 isoK (R_exact_Neg φ) [x7] s fun x8 s =>
 isoK (R_exact_Add φ) [x6, x8] s fun x9 s =>
 kStore 3 s x5 x9 fun _ s =>
 kLoadn 3 s x5 fun x10 _ =>
 retK false s x10 some)) s0
def T70 (φ : Nat) : FTab := setT (T69 φ) 69 (.iso (R_exact_Sub φ))
def TD70 (φ : Nat) : FTab := TD69 φ
def R_exact_PSub (φ : Nat) : List D → Option D :=
fun as =>
(fun (s : LS) =>
 u1 as fun a1 r21 =>
 u1 r21 fun a2 r22 =>
 u0 r22 (
 kLen a1 s fun x3 s =>
 kLen a2 s fun x4 s =>
 kS (.max (.c x3) (.c x4)) s fun x5 s =>
 kMksl 3 40 [(.b false), (.n 0), (.n 0)] s x5 x5 fun x6 s =>
 kLen x6 s fun x7 s =>
 lp (fun (_ _ _ _ _ : D) (_ : LS) => none) (fun (q8 : D → D → D → D → D → LS → Rs) (x9 x10 x11 x12 x13 : D) (s : LS) =>
 kLss x13 x12 fun x14 =>
 kCond x14
(isoK (R_exact_PCoef φ) [x9, x13] s fun x15 s =>
 isoK (R_exact_PCoef φ) [x10, x13] s fun x16 s =>
 isoK (R_exact_Sub φ) [x15, x16] s fun x17 s =>
 kIaddr 3 s x11 x13 fun x18 s =>
 kStore 3 s x18 x17 fun _ s =>
 kAdd x13 (.i .i64 (.ofNat 1)) fun x19 =>
 q8 x9 x10 x11 x12 x19 s)
(isoK (R_exact_PTrim φ) [x11] s fun x20 s =>
 retK false s x20 some)) φ a1 a2 x6 x7 (.i .i64 (.ofNat 0)) s)) s0
def T71 (φ : Nat) : FTab := setT (T70 φ) 70 (.iso (R_exact_PSub φ))
def TD71 (φ : Nat) : FTab := TD70 φ
def R_slices_Clone_api_Poly_api_Rat (φ : Nat) : List D → Option D :=
fun as =>
(fun (s : LS) =>
 u1 as fun a1 r5 =>
 u0 r5 (
 kIsnil false s a1 fun x2 s =>
 kCond x2
(retK true s (.tree [] 0 true) some)
(kBsl 0 [(.b false), (.n 0), (.n 0)] [] s fun x3 s =>
 kApp 3 40 s x3 a1 fun x4 s =>
 retK true s x4 some))) s0
def T72 (φ : Nat) : FTab := setT (T71 φ) 71 (.iso (cloneP (R_slices_Clone_api_Poly_api_Rat φ)))
def TD72 (φ : Nat) : FTab := TD71 φ
def T73 (φ : Nat) : FTab := setT (T72 φ) 72 (.iso intMulM)
def TD73 (φ : Nat) : FTab := TD72 φ
def T74 (φ : Nat) : FTab := setT (T73 φ) 73 (.iso (R_exact_Mul φ))
def TD74 (φ : Nat) : FTab := TD73 φ
def R_exact_Inverse (φ : Nat) : List D → Option D :=
fun as =>
(fun (s : LS) =>
 u1 as fun a1 r15 =>
 u0 r15 (
 kBox a1 s fun x2 s =>
 kAlloc [(.b false), (.n 0), (.n 0)] s fun x3 s =>
 kFaddr 0 s x2 fun x4 s =>
 kFaddr 0 s x4 fun x5 s =>
 kLoad1 s x5 fun x6 s =>
 kFaddr 2 s x2 fun x7 s =>
 kLoad1 s x7 fun x8 s =>
 kBuild [(.b false), (.n 0)] [(0, 1, x6), (1, 1, x8)] s fun x9 s =>
 kFaddr 0 s x2 fun x10 s =>
 kFaddr 1 s x10 fun x11 s =>
 kLoad1 s x11 fun x12 s =>
 kBuild [(.b false), (.n 0), (.n 0)] [(0, 2, x9), (2, 1, x12)] s fun x13 s =>
 kStore 3 s x3 x13 fun _ s =>
 kLoadn 3 s x3 fun x14 _ =>
 retK false s x14 some)) s0
def T75 (φ : Nat) : FTab := setT (T74 φ) 74 (.iso (R_exact_Inverse φ))
def TD75 (φ : Nat) : FTab := TD74 φ
def R_exact_PDivMod (φ : Nat) : List D → Option D :=
fun as =>
(fun (s : LS) =>
 u1 as fun a1 r85 =>
 u1 r85 fun a2 r86 =>
 u0 r86 (
 isoK (cloneP (R_slices_Clone_api_Poly_api_Rat φ)) [a1] s fun x3 s =>
 kLen a2 s fun x4 s =>
 kLen a1 s fun x5 s =>
 kLss x5 x4 fun x6 =>
 kCond x6
(retK false s (.tup [(.tree [] 0 true), x3]) some)
(kLen a1 s fun x7 s =>
 kSub x7 x4 fun x8 =>
 kAdd x8 (.i .i64 (.ofNat 1)) fun x9 =>
 kMksl 3 40 [(.b false), (.n 0), (.n 0)] s x9 x9 fun x10 s =>
 kLen x10 s fun x11 s =>
 lp (fun (_ _ _ _ _ _ _ : D) (_ : LS) => none) (fun (q12 : D → D → D → D → D → D → D → LS → Rs) (x13 x14 x15 x16 x17 x18 x19 : D) (s : LS) =>
 kLss x19 x18 fun x20 =>
 kCond x20
(isoK (R_exact_Int φ) [(.i .i64 (.ofNat 0))] s fun x21 s =>
 kIaddr 3 s x17 x19 fun x22 s =>
 kStore 3 s x22 x21 fun _ s =>
 kAdd x19 (.i .i64 (.ofNat 1)) fun x23 =>
 q12 x13 x14 x15 x16 x17 x18 x23 s)
(kSub x16 (.i .i64 (.ofNat 1)) fun x24 =>
 kIaddr 3 s x14 x24 fun x25 s =>
 kLoadn 3 s x25 fun x26 s =>
 isoK (R_exact_Inverse φ) [x26] s fun x27 s =>
 kAlloc [(.b false), (.n 0), (.n 0)] s fun x28 s =>
 kStore 3 s x28 x27 fun _ s =>
 kLen x13 s fun x29 s =>
 kSub x29 x16 fun x30 =>
 lp (fun (_ _ _ _ _ _ : D) (_ : LS) => none) (fun (q31 : D → D → D → D → D → D → LS → Rs) (x32 x33 x34 x35 x36 x37 : D) (s : LS) =>
 kGeq x37 (.i .i64 (.ofNat 0)) fun x38 =>
 kCond x38
(jn (fun (x40 x41 x42 x43 x44 x45 : D) (s : LS) =>
 kSub x45 (.i .i64 (.ofNat 1)) fun x46 =>
 q31 x40 x41 x42 x43 x44 x46 s) fun j39 =>
 kAdd x37 x34 fun x47 =>
 kSub x47 (.i .i64 (.ofNat 1)) fun x48 =>
 kIaddr 3 s x33 x48 fun x49 s =>
 kLoadn 3 s x49 fun x50 s =>
 kLoadn 3 s x36 fun x51 s =>
 isoK (R_exact_Mul φ) [x50, x51] s fun x52 s =>
 kAlloc [(.b false), (.n 0), (.n 0)] s fun x53 s =>
 kStore 3 s x53 x52 fun _ s =>
 kLoadn 3 s x53 fun x54 s =>
 kIaddr 3 s x35 x37 fun x55 s =>
 kStore 3 s x55 x54 fun _ s =>
 kLoadn 3 s x53 fun x56 s =>
 isoK (R_exact_IsZero φ) [x56] s fun x57 s =>
 kCond x57
(j39 x32 x33 x34 x35 x36 x37 s)
(kLen x32 s fun x58 s =>
 lp (fun (_ _ _ _ _ _ _ _ _ : D) (_ : LS) => none) (fun (q59 : D → D → D → D → D → D → D → D → D → LS → Rs) (x60 x61 x62 x63 x64 x65 x66 x67 x68 : D) (s : LS) =>
 kLss x68 x67 fun x69 =>
 kCond x69
(kAdd x65 x68 fun x70 =>
 kAdd x65 x68 fun x71 =>
 kIaddr 3 s x61 x71 fun x72 s =>
 kLoadn 3 s x72 fun x73 s =>
 kLoadn 3 s x66 fun x74 s =>
 kIaddr 3 s x60 x68 fun x75 s =>
 kLoadn 3 s x75 fun x76 s =>
 isoK (R_exact_Mul φ) [x74, x76] s fun x77 s =>
 isoK (R_exact_Sub φ) [x73, x77] s fun x78 s =>
 kIaddr 3 s x61 x70 fun x79 s =>
 kStore 3 s x79 x78 fun _ s =>
 kAdd x68 (.i .i64 (.ofNat 1)) fun x80 =>
 q59 x60 x61 x62 x63 x64 x65 x66 x67 x80 s)
(j39 x60 x61 x62 x63 x64 x65 s)) φ x32 x33 x34 x35 x36 x37 x53 x58 (.i .i64 (.ofNat 0)) s))
(isoK (R_exact_PTrim φ) [x35] s fun x81 s =>
 kSub x34 (.i .i64 (.ofNat 1)) fun x82 =>
 kSlice 3 s x33 none (some x82) none fun x83 s =>
 isoK (R_exact_PTrim φ) [x83] s fun x84 s =>
 retK false s (.tup [x81, x84]) some)) φ x14 x15 x16 x17 x28 x30 s)) φ a1 a2 x3 x4 x10 x11 (.i .i64 (.ofNat 0)) s))) s0
def T76 (φ : Nat) : FTab := setT (T75 φ) 75 (.iso (R_exact_PDivMod φ))
def TD76 (φ : Nat) : FTab := TD75 φ
def R_exact_PScale (φ : Nat) : List D → Option D :=
fun as =>
(fun (s : LS) =>
 u1 as fun a1 r23 =>
 u1 r23 fun a2 r24 =>
 u0 r24 (
 kBox a2 s fun x3 s =>
 kLen a1 s fun x4 s =>
 kMksl 3 40 [(.b false), (.n 0), (.n 0)] s x4 x4 fun x5 s =>
 kLen a1 s fun x6 s =>
 lp (fun (_ _ _ _ _ : D) (_ : LS) => none) (fun (q7 : D → D → D → D → D → LS → Rs) (x8 x9 x10 x11 x12 : D) (s : LS) =>
 kLss x12 x11 fun x13 =>
 kCond x13
(kIaddr 3 s x10 x12 fun x14 s =>
 kLoadn 3 s x14 fun x15 s =>
 kAlloc [(.b false), (.n 0), (.n 0)] s fun x16 s =>
 kStore 3 s x16 x15 fun _ s =>
 kLoadn 3 s x16 fun x17 s =>
 kLoadn 3 s x8 fun x18 s =>
 isoK (R_exact_Mul φ) [x17, x18] s fun x19 s =>
 kIaddr 3 s x9 x12 fun x20 s =>
 kStore 3 s x20 x19 fun _ s =>
 kAdd x12 (.i .i64 (.ofNat 1)) fun x21 =>
 q7 x8 x9 x10 x11 x21 s)
(isoK (R_exact_PTrim φ) [x9] s fun x22 s =>
 retK false s x22 some)) φ x3 x5 a1 x6 (.i .i64 (.ofNat 0)) s)) s0
def T77 (φ : Nat) : FTab := setT (T76 φ) 76 (.iso (R_exact_PScale φ))
def TD77 (φ : Nat) : FTab := TD76 φ
def R_exact_PMonic (φ : Nat) : List D → Option D :=
fun as =>
(fun (s : LS) =>
 u1 as fun a1 r10 =>
 u0 r10 (
 kLen a1 s fun x2 s =>
 kEql x2 (.i .i64 (.ofNat 0)) fun x3 =>
 kCond x3
(retK false s (.tree [] 0 true) some)
(kLen a1 s fun x4 s =>
 kSub x4 (.i .i64 (.ofNat 1)) fun x5 =>
 kIaddr 3 s a1 x5 fun x6 s =>
 kLoadn 3 s x6 fun x7 s =>
 isoK (R_exact_Inverse φ) [x7] s fun x8 s =>
 isoK (R_exact_PScale φ) [a1, x8] s fun x9 s =>
 retK false s x9 some))) s0
def T78 (φ : Nat) : FTab := setT (T77 φ) 77 (.iso (R_exact_PMonic φ))
def TD78 (φ : Nat) : FTab := TD77 φ
def R_exact_PGcd (φ : Nat) : List D → Option D :=
fun as =>
(fun (s : LS) =>
 u1 as fun a1 r14 =>
 u1 r14 fun a2 r15 =>
 u0 r15 (
 lp (fun (_ _ : D) (_ : LS) => none) (fun (q3 : D → D → LS → Rs) (x4 x5 : D) (s : LS) =>
 kLen x5 s fun x6 s =>
 kGtr x6 (.i .i64 (.ofNat 0)) fun x7 =>
 kCond x7
(isoK (R_exact_PDivMod φ) [x4, x5] s fun x8 s =>
 kExt x8 0 s fun x9 s =>
 kExt x8 1 s fun x10 s =>
 isoK (R_exact_PMonic φ) [x5] s fun x11 s =>
 isoK (R_exact_PMonic φ) [x10] s fun x12 s =>
 q3 x11 x12 s)
(isoK (R_exact_PMonic φ) [x4] s fun x13 s =>
 retK false s x13 some)) φ a1 a2 s)) s0
def T79 (φ : Nat) : FTab := setT (T78 φ) 78 (.iso (R_exact_PGcd φ))
def TD79 (φ : Nat) : FTab := TD78 φ
def R_exact_PDerivative (φ : Nat) : List D → Option D :=
fun as =>
(fun (s : LS) =>
 u1 as fun a1 r16 =>
 u0 r16 (
 lp (fun (_ _ _ : D) (_ : LS) => none) (fun (q2 : D → D → D → LS → Rs) (x3 x4 x5 : D) (s : LS) =>
 kLen x3 s fun x6 s =>
 kLss x5 x6 fun x7 =>
 kCond x7
(kIaddr 3 s x3 x5 fun x8 s =>
 kLoadn 3 s x8 fun x9 s =>
 isoK (R_exact_Int φ) [x5] s fun x10 s =>
 isoK (R_exact_Mul φ) [x9, x10] s fun x11 s =>
 kBsl 1 [(.b false), (.n 0), (.n 0)] [(0, 3, x11)] s fun x12 s =>
 kApp 3 40 s x4 x12 fun x13 s =>
 kAdd x5 (.i .i64 (.ofNat 1)) fun x14 =>
 q2 x3 x13 x14 s)
(isoK (R_exact_PTrim φ) [x4] s fun x15 s =>
 retK false s x15 some)) φ a1 (.tree [] 0 true) (.i .i64 (.ofNat 1)) s)) s0
def T80 (φ : Nat) : FTab := setT (T79 φ) 79 (.iso (R_exact_PDerivative φ))
def TD80 (φ : Nat) : FTab := TD79 φ
def R_zf_squarefree (φ : Nat) : List D → Option D :=
fun as =>
(fun (s : LS) =>
 u1 as fun a1 r40 =>
 u0 r40 (
 isoK (R_exact_PDerivative φ) [a1] s fun x2 s =>
 isoK (R_exact_PGcd φ) [a1, x2] s fun x3 s =>
 isoK (R_exact_PDivMod φ) [a1, x3] s fun x4 s =>
 kExt x4 0 s fun x5 s =>
 kExt x4 1 s fun x6 s =>
 isoK (R_exact_PDivMod φ) [x2, x3] s fun x7 s =>
 kExt x7 0 s fun x8 s =>
 kExt x7 1 s fun x9 s =>
 isoK (R_exact_PDerivative φ) [x5] s fun x10 s =>
 isoK (R_exact_PSub φ) [x8, x10] s fun x11 s =>
 lp (fun (_ _ _ _ : D) (_ : LS) => none) (fun (q12 : D → D → D → D → LS → Rs) (x13 x14 x15 x16 : D) (s : LS) =>
 kLen x14 s fun x17 s =>
 kGtr x17 (.i .i64 (.ofNat 1)) fun x18 =>
 kCond x18
(isoK (R_exact_PGcd φ) [x14, x15] s fun x19 s =>
 jn (fun (x21 x22 x23 x24 x25 : D) (s : LS) =>
 isoK (R_exact_PDivMod φ) [x22, x25] s fun x26 s =>
 kExt x26 0 s fun x27 s =>
 kExt x26 1 s fun x28 s =>
 isoK (R_exact_PDivMod φ) [x23, x25] s fun x29 s =>
 kExt x29 0 s fun x30 s =>
 kExt x29 1 s fun x31 s =>
 isoK (R_exact_PDerivative φ) [x27] s fun x32 s =>
 isoK (R_exact_PSub φ) [x30, x32] s fun x33 s =>
 kAdd x24 (.i .i64 (.ofNat 1)) fun x34 =>
 q12 x21 x27 x33 x34 s) fun j20 =>
 kLen x19 s fun x35 s =>
 kGtr x35 (.i .i64 (.ofNat 1)) fun x36 =>
 kCond x36
(kBuild [(.tree [] 0 true), (.i .i64 (.ofNat 0))] [(0, 1, x19), (1, 1, x16)] s fun x37 s =>
 kBsl 1 [(.tree [] 0 true), (.i .i64 (.ofNat 0))] [(0, 2, x37)] s fun x38 s =>
 kApp 2 32 s x13 x38 fun x39 s =>
 j20 x39 x14 x15 x16 x19 s)
(j20 x13 x14 x15 x16 x19 s))
(retK false s x13 some)) φ (.tree [] 0 true) x5 x11 (.i .i64 (.ofNat 1)) s)) s0
def T81 (φ : Nat) : FTab := setT (T80 φ) 80 (.iso (R_zf_squarefree φ))
def TD81 (φ : Nat) : FTab := TD80 φ
def T82 (φ : Nat) : FTab := setT (T81 φ) 81 (.iso (R_exact_IntCmp φ))
def TD82 (φ : Nat) : FTab := TD81 φ
def R_zf_prime (φ : Nat) : List D → Option D :=
fun as =>
(fun (s : LS) =>
 u1 as fun a1 r11 =>
 u0 r11 (
 lp (fun (_ _ : D) (_ : LS) => none) (fun (q2 : D → D → LS → Rs) (x3 x4 : D) (s : LS) =>
 kMul x4 x4 fun x5 =>
 kLeq x5 x3 fun x6 =>
 kCond x6
(kRem x3 x4 fun x7 =>
 kEql x7 (.i .i64 (.ofNat 0)) fun x8 =>
 kCond x8
(retK false s (.b false) some)
(kAdd x4 (.i .i64 (.ofNat 1)) fun x9 =>
 q2 x3 x9 s))
(kGtr x3 (.i .i64 (.ofNat 1)) fun x10 =>
 retK false s x10 some)) φ a1 (.i .i64 (.ofNat 2)) s)) s0
def T83 (φ : Nat) : FTab := setT (T82 φ) 82 (.iso (R_zf_prime φ))
def TD83 (φ : Nat) : FTab := TD82 φ
def T84 (φ : Nat) : FTab := setT (T83 φ) 83 (.iso (intDivModM φ))
def TD84 (φ : Nat) : FTab := TD83 φ
def R_exact_NatUint (φ : Nat) : List D → Option D :=
fun as =>
(fun (s : LS) =>
 u1 as fun a1 r9 =>
 u0 r9 (
 isoK wordsM [a1] s fun x2 s =>
 kLen x2 s fun x3 s =>
 kGtr x3 (.i .i64 (.ofNat 1)) fun x4 =>
 kCond x4
(retK false s (.tup [(.i .u64 (.ofNat 0)), (.b false)]) some)
(kLen x2 s fun x5 s =>
 kEql x5 (.i .i64 (.ofNat 0)) fun x6 =>
 kCond x6
(retK false s (.tup [(.i .u64 (.ofNat 0)), (.b true)]) some)
(kIaddr 1 s x2 (.i .i64 (.ofNat 0)) fun x7 s =>
 kLoad1 s x7 fun x8 s =>
 retK false s (.tup [x8, (.b true)]) some)))) s0
def T85 (φ : Nat) : FTab := setT (T84 φ) 84 (.iso (R_exact_NatUint φ))
def TD85 (φ : Nat) : FTab := TD84 φ
def R_exact_IntTo (φ : Nat) : List D → Option D :=
fun as =>
(fun (s : LS) =>
 u1 as fun a1 r25 =>
 u0 r25 (
 kBox a1 s fun x2 s =>
 kFaddr 1 s x2 fun x3 s =>
 kLoad1 s x3 fun x4 s =>
 isoK (R_exact_NatUint φ) [x4] s fun x5 s =>
 kExt x5 0 s fun x6 s =>
 kExt x5 1 s fun x7 s =>
 kNot x7 s fun x8 s =>
 kGuard x8 false (fun k => k x6 s) s fun x9 s =>
 kGuard x8 false (fun k => kGtr x9 (.i .u64 (.ofNat 9223372036854775808)) fun d => k d s) s fun x10 s =>
 kPick x8 (.b true) x10 s fun x11 s =>
 kGuard x11 false (fun k => k x6 s) s fun x12 s =>
 kGuard x11 false (fun k => kEql x12 (.i .u64 (.ofNat 9223372036854775808)) fun d => k d s) s fun x13 s =>
 kGuard x11 false (fun k => k x13 s) s fun x14 s =>
 kGuard x14 true (fun k => kFaddr 0 s x2 k) s fun x15 s =>
 kGuard x14 true (fun k => kLoad1 s x15 k) s fun x16 s =>
 kGuard x14 true (fun k => kNot x16 s k) s fun x17 s =>
 kGuard x11 false (fun k => kPick x14 x17 (.b false) s k) s fun x18 s =>
 kPick x11 (.b true) x18 s fun x19 s =>
 kCond x19
(retK false s (.tup [(.i .i64 (.ofNat 0)), (.b false)]) some)
(kFaddr 0 s x2 fun x20 s =>
 kLoad1 s x20 fun x21 s =>
 kCond x21
(kS (.neg (.c x6)) s fun x22 s =>
 kToInt .i64 x22 s fun x23 s =>
 retK false s (.tup [x23, (.b true)]) some)
(kToInt .i64 x6 s fun x24 s =>
 retK false s (.tup [x24, (.b true)]) some)))) s0
def T86 (φ : Nat) : FTab := setT (T85 φ) 85 (.iso (R_exact_IntTo φ))
def TD86 (φ : Nat) : FTab := TD85 φ
def T87 (φ : Nat) : FTab := setT (T86 φ) 86 (.iso (R_fp_Trim φ))
def TD87 (φ : Nat) : FTab := TD86 φ
def R_zf_modulo (φ : Nat) : List D → Option D :=
fun as =>
(fun (s : LS) =>
 u1 as fun a1 r30 =>
 u1 r30 fun a2 r31 =>
 u0 r31 (
 kLen a1 s fun x3 s =>
 kMksl 1 8 [(.i .i64 (.ofNat 0))] s x3 x3 fun x4 s =>
 kLen a1 s fun x5 s =>
 lp (fun (_ _ _ _ _ : D) (_ : LS) => none) (fun (q6 : D → D → D → D → D → LS → Rs) (x7 x8 x9 x10 x11 : D) (s : LS) =>
 kLss x11 x10 fun x12 =>
 kCond x12
(kIaddr 2 s x9 x11 fun x13 s =>
 kLoadn 2 s x13 fun x14 s =>
 kAlloc [(.b false), (.n 0)] s fun x15 s =>
 kStore 2 s x15 x14 fun _ s =>
 kLoadn 2 s x15 fun x16 s =>
 isoK (R_exact_IntOf φ) [x7] s fun x17 s =>
 isoK (intDivModM φ) [x16, x17] s fun x18 s =>
 kExt x18 0 s fun x19 s =>
 kExt x18 1 s fun x20 s =>
 kAlloc [(.b false), (.n 0)] s fun x21 s =>
 kAlloc [(.b false), (.n 0)] s fun x22 s =>
 kStore 2 s x21 x19 fun _ s =>
 kStore 2 s x22 x20 fun _ s =>
 kLoadn 2 s x22 fun x23 s =>
 isoK (R_exact_IntTo φ) [x23] s fun x24 s =>
 kExt x24 0 s fun x25 s =>
 kExt x24 1 s fun x26 s =>
 kIaddr 1 s x8 x11 fun x27 s =>
 kStore 1 s x27 x25 fun _ s =>
 kAdd x11 (.i .i64 (.ofNat 1)) fun x28 =>
 q6 x7 x8 x9 x10 x28 s)
(isoK (R_fp_Trim φ) [x8] s fun x29 s =>
 retK false s x29 some)) φ a2 x4 a1 x5 (.i .i64 (.ofNat 0)) s)) s0
def T88 (φ : Nat) : FTab := setT (T87 φ) 87 (.iso (R_zf_modulo φ))
def TD88 (φ : Nat) : FTab := TD87 φ
def R_fp_Scale (φ : Nat) : List D → Option D :=
fun as =>
(fun (s : LS) =>
 u1 as fun a1 r22 =>
 u1 r22 fun a2 r23 =>
 u1 r23 fun a3 r24 =>
 u0 r24 (
 kLen a2 s fun x4 s =>
 kMksl 1 8 [(.i .i64 (.ofNat 0))] s x4 x4 fun x5 s =>
 kLen a2 s fun x6 s =>
 lp (fun (_ _ _ _ _ _ : D) (_ : LS) => none) (fun (q7 : D → D → D → D → D → D → LS → Rs) (x8 x9 x10 x11 x12 x13 : D) (s : LS) =>
 kLss x13 x12 fun x14 =>
 kCond x14
(kIaddr 1 s x11 x13 fun x15 s =>
 kLoad1 s x15 fun x16 s =>
 kMul x16 x9 fun x17 =>
 kRem x17 x8 fun x18 =>
 kIaddr 1 s x10 x13 fun x19 s =>
 kStore 1 s x19 x18 fun _ s =>
 kAdd x13 (.i .i64 (.ofNat 1)) fun x20 =>
 q7 x8 x9 x10 x11 x12 x20 s)
(isoK (R_fp_Trim φ) [x10] s fun x21 s =>
 retK false s x21 some)) φ a1 a3 x5 a2 x6 (.i .i64 (.ofNat 0)) s)) s0
def T89 (φ : Nat) : FTab := setT (T88 φ) 88 (.iso (R_fp_Scale φ))
def TD89 (φ : Nat) : FTab := TD88 φ
def T90 (φ : Nat) : FTab := setT (T89 φ) 89 (.iso (R_fp_Mod φ))
def TD90 (φ : Nat) : FTab := TD89 φ
def T91 (φ : Nat) : FTab := setT (T90 φ) 90 (.iso (R_fp_Inv φ))
def TD91 (φ : Nat) : FTab := TD90 φ
def R_fp_Monic (φ : Nat) : List D → Option D :=
fun as =>
(fun (s : LS) =>
 u1 as fun a1 r11 =>
 u1 r11 fun a2 r12 =>
 u0 r12 (
 kLen a2 s fun x3 s =>
 kEql x3 (.i .i64 (.ofNat 0)) fun x4 =>
 kCond x4
(retK false s (.tree [] 0 true) some)
(kLen a2 s fun x5 s =>
 kSub x5 (.i .i64 (.ofNat 1)) fun x6 =>
 kIaddr 1 s a2 x6 fun x7 s =>
 kLoad1 s x7 fun x8 s =>
 isoK (R_fp_Inv φ) [a1, x8] s fun x9 s =>
 isoK (R_fp_Scale φ) [a1, a2, x9] s fun x10 s =>
 retK false s x10 some))) s0
def T92 (φ : Nat) : FTab := setT (T91 φ) 91 (.iso (R_fp_Monic φ))
def TD92 (φ : Nat) : FTab := TD91 φ
def T93 (φ : Nat) : FTab := setT (T92 φ) 92 (.iso (fpDivModM φ))
def TD93 (φ : Nat) : FTab := TD92 φ
def R_fp_Rem (φ : Nat) : List D → Option D :=
fun as =>
(fun (s : LS) =>
 u1 as fun a1 r7 =>
 u1 r7 fun a2 r8 =>
 u1 r8 fun a3 r9 =>
 u0 r9 (
 isoK (fpDivModM φ) [a1, a2, a3] s fun x4 s =>
 kExt x4 0 s fun x5 s =>
 kExt x4 1 s fun x6 s =>
 retK false s x6 some)) s0
def T94 (φ : Nat) : FTab := setT (T93 φ) 93 (.iso (R_fp_Rem φ))
def TD94 (φ : Nat) : FTab := TD93 φ
def R_fp_Gcd (φ : Nat) : List D → Option D :=
fun as =>
(fun (s : LS) =>
 u1 as fun a1 r12 =>
 u1 r12 fun a2 r13 =>
 u1 r13 fun a3 r14 =>
 u0 r14 (
 lp (fun (_ _ _ : D) (_ : LS) => none) (fun (q4 : D → D → D → LS → Rs) (x5 x6 x7 : D) (s : LS) =>
 kLen x7 s fun x8 s =>
 kGtr x8 (.i .i64 (.ofNat 0)) fun x9 =>
 kCond x9
(isoK (R_fp_Rem φ) [x5, x6, x7] s fun x10 s =>
 q4 x5 x7 x10 s)
(isoK (R_fp_Monic φ) [x5, x6] s fun x11 s =>
 retK false s x11 some)) φ a1 a2 a3 s)) s0
def T95 (φ : Nat) : FTab := setT (T94 φ) 94 (.iso (R_fp_Gcd φ))
def TD95 (φ : Nat) : FTab := TD94 φ
def R_fp_Derivative (φ : Nat) : List D → Option D :=
fun as =>
(fun (s : LS) =>
 u1 as fun a1 r19 =>
 u1 r19 fun a2 r20 =>
 u0 r20 (
 lp (fun (_ _ _ _ : D) (_ : LS) => none) (fun (q3 : D → D → D → D → LS → Rs) (x4 x5 x6 x7 : D) (s : LS) =>
 kLen x5 s fun x8 s =>
 kLss x7 x8 fun x9 =>
 kCond x9
(kRem x7 x4 fun x10 =>
 kIaddr 1 s x5 x7 fun x11 s =>
 kLoad1 s x11 fun x12 s =>
 kMul x10 x12 fun x13 =>
 kRem x13 x4 fun x14 =>
 kBsl 1 [(.i .i64 (.ofNat 0))] [(0, 1, x14)] s fun x15 s =>
 kApp 1 8 s x6 x15 fun x16 s =>
 kAdd x7 (.i .i64 (.ofNat 1)) fun x17 =>
 q3 x4 x5 x16 x17 s)
(isoK (R_fp_Trim φ) [x6] s fun x18 s =>
 retK false s x18 some)) φ a1 a2 (.tree [] 0 true) (.i .i64 (.ofNat 1)) s)) s0
def T96 (φ : Nat) : FTab := setT (T95 φ) 95 (.iso (R_fp_Derivative φ))
def TD96 (φ : Nat) : FTab := TD95 φ
def T97 (φ : Nat) : FTab := setT (T96 φ) 96 (.iso (fpMulM φ))
def TD97 (φ : Nat) : FTab := TD96 φ
def R_fp_MulMod (φ : Nat) : List D → Option D :=
fun as =>
(fun (s : LS) =>
 u1 as fun a1 r7 =>
 u1 r7 fun a2 r8 =>
 u1 r8 fun a3 r9 =>
 u1 r9 fun a4 r10 =>
 u0 r10 (
 isoK (fpMulM φ) [a1, a2, a3] s fun x5 s =>
 isoK (R_fp_Rem φ) [a1, x5, a4] s fun x6 s =>
 retK false s x6 some)) s0
def T98 (φ : Nat) : FTab := setT (T97 φ) 97 (.iso (R_fp_MulMod φ))
def TD98 (φ : Nat) : FTab := TD97 φ
def R_fp_PowMod (φ : Nat) : List D → Option D :=
fun as =>
(fun (s : LS) =>
 u1 as fun a1 r47 =>
 u1 r47 fun a2 r48 =>
 u1 r48 fun a3 r49 =>
 u1 r49 fun a4 r50 =>
 u0 r50 (
 kBsl 1 [(.i .i64 (.ofNat 0))] [(0, 1, (.i .i64 (.ofNat 1)))] s fun x5 s =>
 isoK (R_fp_Rem φ) [a1, x5, a4] s fun x6 s =>
 isoK (R_fp_Rem φ) [a1, a2, a4] s fun x7 s =>
 kS (.lens (.c a3)) s fun x8 s =>
 lp (fun (_ _ _ _ _ _ _ : D) (_ : LS) => none) (fun (q9 : D → D → D → D → D → D → D → LS → Rs) (x10 x11 x12 x13 x14 x15 x16 : D) (s : LS) =>
 kLss x16 x15 fun x17 =>
 kCond x17
(lp (fun (_ _ _ _ _ _ _ _ _ : D) (_ : LS) => none) (fun (q18 : D → D → D → D → D → D → D → D → D → LS → Rs) (x19 x20 x21 x22 x23 x24 x25 x26 x27 : D) (s : LS) =>
 kGeq x25 (.i .i64 (.ofNat 0)) fun x28 =>
 kCond x28
(jn (fun (x30 x31 x32 x33 x34 x35 x36 x37 x38 : D) (s : LS) =>
 kSub x36 (.i .i64 (.ofNat 1)) fun x39 =>
 q18 x30 x31 x32 x33 x34 x35 x39 x37 x38 s) fun j29 =>
 isoK (R_fp_MulMod φ) [x19, x22, x22, x21] s fun x40 s =>
 kS (.index (.c x20) (.c x24)) s fun x41 s =>
 kShr x41 x25 fun x42 =>
 kAnd x42 (.i .u8 (.ofNat 1)) fun x43 =>
 kEql x43 (.i .u8 (.ofNat 1)) fun x44 =>
 kCond x44
(isoK (R_fp_MulMod φ) [x19, x40, x23, x21] s fun x45 s =>
 j29 x19 x20 x21 x45 x23 x24 x25 x26 x27 s)
(j29 x19 x20 x21 x40 x23 x24 x25 x26 x27 s))
(kAdd x27 (.i .i64 (.ofNat 1)) fun x46 =>
 q9 x19 x20 x21 x22 x23 x26 x46 s)) φ x10 x11 x12 x13 x14 x16 (.i .i64 (.ofNat 7)) x15 x16 s)
(retK false s x13 some)) φ a1 a3 a4 x6 x7 x8 (.i .i64 (.ofNat 0)) s)) s0
def T99 (φ : Nat) : FTab := setT (T98 φ) 98 (.iso (R_fp_PowMod φ))
def TD99 (φ : Nat) : FTab := TD98 φ
def R_fp_Power (φ : Nat) : List D → Option D :=
fun as =>
(fun (s : LS) =>
 u1 as fun a1 r10 =>
 u1 r10 fun a2 r11 =>
 u1 r11 fun a3 r12 =>
 u0 r12 (
 kShr a1 (.i .u64 (.ofNat 8)) fun x4 =>
 kToInt .u8 x4 s fun x5 s =>
 kToInt .u8 a1 s fun x6 s =>
 kBsl 2 [(.i .u8 (.ofNat 0))] [(0, 1, x5), (1, 1, x6)] s fun x7 s =>
 kS (.b2s (.c x7)) s fun x8 s =>
 isoK (R_fp_PowMod φ) [a1, a2, x8, a3] s fun x9 s =>
 retK false s x9 some)) s0
def T100 (φ : Nat) : FTab := setT (T99 φ) 99 (.iso (R_fp_Power φ))
def TD100 (φ : Nat) : FTab := TD99 φ
def R_zf_reduce (φ : Nat) : List D → LS → (D → LS → Rs) → Rs :=
fun as s k =>
 u1 as fun a1 r157 =>
 u1 r157 fun a2 r158 =>
 u0 r158 (
 kLen a2 s fun x3 s =>
 kMksl 1 8 [(.i .i64 (.ofNat 0))] s x3 x3 fun x4 s =>
 lp (fun (_ _ _ _ _ _ _ : D) (_ : LS) => none) (fun (q5 : D → D → D → D → D → D → D → LS → Rs) (x6 x7 x8 x9 x10 x11 x12 : D) (s : LS) =>
 kLss x12 x11 fun x13 =>
 kCond x13
(jn (fun (x15 x16 x17 x18 x19 x20 x21 : D) (s : LS) =>
 kAdd x21 (.i .i64 (.ofNat 1)) fun x22 =>
 q5 x15 x16 x17 x18 x19 x20 x22 s) fun j14 =>
 kIaddr 1 s x9 x12 fun x23 s =>
 kStore 1 s x23 (.i .i64 (.negSucc 0)) fun _ s =>
 lp (fun (_ _ _ _ _ _ _ _ _ _ : D) (_ : LS) => none) (fun (q24 : D → D → D → D → D → D → D → D → D → D → LS → Rs) (x25 x26 x27 x28 x29 x30 x31 x32 x33 x34 : D) (s : LS) =>
 kLss x32 x27 fun x35 =>
 kGuard x35 true (fun k => k x31 s) s fun x36 s =>
 kGuard x35 true (fun k => kLss x36 (.i .i64 (.ofNat 0)) fun d => k d s) s fun x37 s =>
 kPick x35 x37 (.b false) s fun x38 s =>
 kCond x38
(jn (fun (x40 x41 x42 x43 x44 x45 x46 x47 x48 x49 : D) (s : LS) =>
 kAdd x47 (.i .i64 (.ofNat 1)) fun x50 =>
 q24 x40 x41 x42 x43 x44 x45 x46 x50 x48 x49 s) fun j39 =>
 kIaddr 1 s x26 x32 fun x51 s =>
 kLoad1 s x51 fun x52 s =>
 kIaddr 1 s x52 x30 fun x53 s =>
 kLoad1 s x53 fun x54 s =>
 kNeq x54 (.i .i64 (.ofNat 0)) fun x55 =>
 kCond x55
(j39 x25 x26 x27 x28 x29 x30 x32 x32 x33 x34 s)
(j39 x25 x26 x27 x28 x29 x30 x31 x32 x33 x34 s))
(kLss x31 (.i .i64 (.ofNat 0)) fun x56 =>
 kCond x56
(j14 x25 x26 x27 x28 x29 x33 x34 s)
(kIaddr 1 s x26 x31 fun x57 s =>
 kLoad1 s x57 fun x58 s =>
 kIaddr 1 s x26 x29 fun x59 s =>
 kLoad1 s x59 fun x60 s =>
 kIaddr 1 s x26 x29 fun x61 s =>
 kStore 1 s x61 x58 fun _ s =>
 kIaddr 1 s x26 x31 fun x62 s =>
 kStore 1 s x62 x60 fun _ s =>
 kIaddr 1 s x26 x29 fun x63 s =>
 kLoad1 s x63 fun x64 s =>
 kIaddr 1 s x64 x30 fun x65 s =>
 kLoad1 s x65 fun x66 s =>
 isoK (R_fp_Inv φ) [x25, x66] s fun x67 s =>
 lp (fun (_ _ _ _ _ _ _ _ _ _ _ : D) (_ : LS) => none) (fun (q68 : D → D → D → D → D → D → D → D → D → D → D → LS → Rs) (x69 x70 x71 x72 x73 x74 x75 x76 x77 x78 x79 : D) (s : LS) =>
 kLss x79 x78 fun x80 =>
 kCond x80
(kIaddr 1 s x70 x73 fun x81 s =>
 kLoad1 s x81 fun x82 s =>
 kIaddr 1 s x70 x73 fun x83 s =>
 kLoad1 s x83 fun x84 s =>
 kIaddr 1 s x84 x79 fun x85 s =>
 kLoad1 s x85 fun x86 s =>
 kMul x86 x75 fun x87 =>
 kRem x87 x69 fun x88 =>
 kIaddr 1 s x82 x79 fun x89 s =>
 kStore 1 s x89 x88 fun _ s =>
 kAdd x79 (.i .i64 (.ofNat 1)) fun x90 =>
 q68 x69 x70 x71 x72 x73 x74 x75 x76 x77 x78 x90 s)
(kLen x70 s fun x91 s =>
 lp (fun (_ _ _ _ _ _ _ _ _ _ : D) (_ : LS) => none) (fun (q92 : D → D → D → D → D → D → D → D → D → D → LS → Rs) (x93 x94 x95 x96 x97 x98 x99 x100 x101 x102 : D) (s : LS) =>
 kLss x102 x101 fun x103 =>
 kCond x103
(jn (fun (x105 x106 x107 x108 x109 x110 x111 x112 x113 x114 : D) (s : LS) =>
 kAdd x114 (.i .i64 (.ofNat 1)) fun x115 =>
 q92 x105 x106 x107 x108 x109 x110 x111 x112 x113 x115 s) fun j104 =>
 kIaddr 1 s x94 x102 fun x116 s =>
 kLoad1 s x116 fun x117 s =>
 kIaddr 1 s x117 x98 fun x118 s =>
 kLoad1 s x118 fun x119 s =>
 kEql x102 x97 fun x120 =>
 kGuard x120 false (fun k => k x119 s) s fun x121 s =>
 kGuard x120 false (fun k => kEql x121 (.i .i64 (.ofNat 0)) fun d => k d s) s fun x122 s =>
 kPick x120 (.b true) x122 s fun x123 s =>
 kCond x123
(j104 x93 x94 x95 x96 x97 x98 x99 x100 x101 x102 s)
(lp (fun (_ _ _ _ _ _ _ _ _ _ _ _ _ _ : D) (_ : LS) => none) (fun (q124 : D → D → D → D → D → D → D → D → D → D → D → D → D → D → LS → Rs) (x125 x126 x127 x128 x129 x130 x131 x132 x133 x134 x135 x136 x137 x138 : D) (s : LS) =>
 kLss x138 x137 fun x139 =>
 kCond x139
(kIaddr 1 s x126 x131 fun x140 s =>
 kLoad1 s x140 fun x141 s =>
 kIaddr 1 s x126 x131 fun x142 s =>
 kLoad1 s x142 fun x143 s =>
 kIaddr 1 s x143 x138 fun x144 s =>
 kLoad1 s x144 fun x145 s =>
 kIaddr 1 s x126 x129 fun x146 s =>
 kLoad1 s x146 fun x147 s =>
 kIaddr 1 s x147 x138 fun x148 s =>
 kLoad1 s x148 fun x149 s =>
 kMul x132 x149 fun x150 =>
 kSub x145 x150 fun x151 =>
 isoK (R_fp_Mod φ) [x125, x151] s fun x152 s =>
 kIaddr 1 s x141 x138 fun x153 s =>
 kStore 1 s x153 x152 fun _ s =>
 kAdd x138 (.i .i64 (.ofNat 1)) fun x154 =>
 q124 x125 x126 x127 x128 x129 x130 x131 x132 x133 x134 x135 x136 x137 x154 s)
(j104 x125 x126 x127 x128 x129 x130 x133 x134 x135 x136 s)) φ x93 x94 x95 x96 x97 x98 x102 x119 x99 x100 x101 x102 x95 (.i .i64 (.ofNat 0)) s))
(kIaddr 1 s x96 x98 fun x155 s =>
 kStore 1 s x155 x97 fun _ s =>
 kAdd x97 (.i .i64 (.ofNat 1)) fun x156 =>
 j14 x93 x94 x95 x96 x156 x99 x100 s)) φ x69 x70 x71 x72 x73 x74 x76 x77 x91 (.i .i64 (.ofNat 0)) s)) φ x25 x26 x27 x28 x29 x30 x67 x33 x34 x27 (.i .i64 (.ofNat 0)) s))) φ x6 x7 x8 x9 x10 x12 (.i .i64 (.negSucc 0)) x10 x11 x12 s)
(k x9 s)) φ a1 a2 x3 x4 (.i .i64 (.ofNat 0)) x3 (.i .i64 (.ofNat 0)) s)
def T101 (φ : Nat) : FTab := setT (T100 φ) 100 (.mem (R_zf_reduce φ))
def TD101 (φ : Nat) : FTab := TD100 φ
def R_zf_kernel (φ : Nat) : List D → Option D :=
fun as =>
(fun (s : LS) =>
 u1 as fun a1 r133 =>
 u1 r133 fun a2 r134 =>
 u0 r134 (
 kLen a2 s fun x3 s =>
 kSub x3 (.i .i64 (.ofNat 1)) fun x4 =>
 kBsl 2 [(.i .i64 (.ofNat 0))] [(0, 1, (.i .i64 (.ofNat 0))), (1, 1, (.i .i64 (.ofNat 1)))] s fun x5 s =>
 isoK (R_fp_Rem φ) [a1, x5, a2] s fun x6 s =>
 isoK (R_fp_Power φ) [a1, x6, a2] s fun x7 s =>
 kMksl 1 24 [(.tree [] 0 true)] s x4 x4 fun x8 s =>
 kBsl 1 [(.i .i64 (.ofNat 0))] [(0, 1, (.i .i64 (.ofNat 1)))] s fun x9 s =>
 lp (fun (_ _ _ _ _ _ _ _ : D) (_ : LS) => none) (fun (q10 : D → D → D → D → D → D → D → D → LS → Rs) (x11 x12 x13 x14 x15 x16 x17 x18 : D) (s : LS) =>
 kLss x18 x17 fun x19 =>
 kCond x19
(kMksl 1 8 [(.i .i64 (.ofNat 0))] s x13 x13 fun x20 s =>
 kIaddr 1 s x15 x18 fun x21 s =>
 kStore 1 s x21 x20 fun _ s =>
 kIaddr 1 s x15 x18 fun x22 s =>
 kLoad1 s x22 fun x23 s =>
 kCopy 1 s x23 x16 fun x24 s =>
 kIaddr 1 s x15 x18 fun x25 s =>
 kLoad1 s x25 fun x26 s =>
 kIaddr 1 s x15 x18 fun x27 s =>
 kLoad1 s x27 fun x28 s =>
 kIaddr 1 s x28 x18 fun x29 s =>
 kLoad1 s x29 fun x30 s =>
 kSub x30 (.i .i64 (.ofNat 1)) fun x31 =>
 isoK (R_fp_Mod φ) [x11, x31] s fun x32 s =>
 kIaddr 1 s x26 x18 fun x33 s =>
 kStore 1 s x33 x32 fun _ s =>
 isoK (R_fp_MulMod φ) [x11, x16, x14, x12] s fun x34 s =>
 kAdd x18 (.i .i64 (.ofNat 1)) fun x35 =>
 q10 x11 x12 x13 x14 x15 x34 x17 x35 s)
(kMksl 1 24 [(.tree [] 0 true)] s x13 x13 fun x36 s =>
 kLen x36 s fun x37 s =>
 lp (fun (_ _ _ _ _ _ : D) (_ : LS) => none) (fun (q38 : D → D → D → D → D → D → LS → Rs) (x39 x40 x41 x42 x43 x44 : D) (s : LS) =>
 kLss x44 x43 fun x45 =>
 kCond x45
(kMksl 1 8 [(.i .i64 (.ofNat 0))] s x40 x40 fun x46 s =>
 kIaddr 1 s x42 x44 fun x47 s =>
 kStore 1 s x47 x46 fun _ s =>
 lp (fun (_ _ _ _ _ _ _ _ _ : D) (_ : LS) => none) (fun (q48 : D → D → D → D → D → D → D → D → D → LS → Rs) (x49 x50 x51 x52 x53 x54 x55 x56 x57 : D) (s : LS) =>
 kLss x57 x56 fun x58 =>
 kCond x58
(kIaddr 1 s x52 x53 fun x59 s =>
 kLoad1 s x59 fun x60 s =>
 kIaddr 1 s x51 x57 fun x61 s =>
 kLoad1 s x61 fun x62 s =>
 kIaddr 1 s x62 x53 fun x63 s =>
 kLoad1 s x63 fun x64 s =>
 kIaddr 1 s x60 x57 fun x65 s =>
 kStore 1 s x65 x64 fun _ s =>
 kAdd x57 (.i .i64 (.ofNat 1)) fun x66 =>
 q48 x49 x50 x51 x52 x53 x54 x55 x56 x66 s)
(kAdd x55 (.i .i64 (.ofNat 1)) fun x67 =>
 q38 x49 x50 x51 x52 x54 x67 s)) φ x39 x40 x41 x42 x44 x43 x44 x40 (.i .i64 (.ofNat 0)) s)
((R_zf_reduce φ) [x39, x42] s fun x68 s =>
 lp (fun (_ _ _ _ _ _ _ : D) (_ : LS) => none) (fun (q69 : D → D → D → D → D → D → D → LS → Rs) (x70 x71 x72 x73 x74 x75 x76 : D) (s : LS) =>
 kLss x76 x75 fun x77 =>
 kCond x77
(jn (fun (x79 x80 x81 x82 x83 x84 x85 : D) (s : LS) =>
 kAdd x85 (.i .i64 (.ofNat 1)) fun x86 =>
 q69 x79 x80 x81 x82 x83 x84 x86 s) fun j78 =>
 kIaddr 1 s x73 x76 fun x87 s =>
 kLoad1 s x87 fun x88 s =>
 kGeq x88 (.i .i64 (.ofNat 0)) fun x89 =>
 kCond x89
(j78 x70 x71 x72 x73 x74 x75 x76 s)
(kMksl 1 8 [(.i .i64 (.ofNat 0))] s x71 x71 fun x90 s =>
 kIaddr 1 s x90 x76 fun x91 s =>
 kStore 1 s x91 (.i .i64 (.ofNat 1)) fun _ s =>
 lp (fun (_ _ _ _ _ _ _ _ _ _ _ : D) (_ : LS) => none) (fun (q92 : D → D → D → D → D → D → D → D → D → D → D → LS → Rs) (x93 x94 x95 x96 x97 x98 x99 x100 x101 x102 x103 : D) (s : LS) =>
 kLss x103 x102 fun x104 =>
 kCond x104
(jn (fun (x106 x107 x108 x109 x110 x111 x112 x113 x114 x115 x116 : D) (s : LS) =>
 kAdd x116 (.i .i64 (.ofNat 1)) fun x117 =>
 q92 x106 x107 x108 x109 x110 x111 x112 x113 x114 x115 x117 s) fun j105 =>
 kIaddr 1 s x96 x103 fun x118 s =>
 kLoad1 s x118 fun x119 s =>
 kGeq x119 (.i .i64 (.ofNat 0)) fun x120 =>
 kCond x120
(kIaddr 1 s x96 x103 fun x121 s =>
 kLoad1 s x121 fun x122 s =>
 kIaddr 1 s x95 x122 fun x123 s =>
 kLoad1 s x123 fun x124 s =>
 kIaddr 1 s x124 x98 fun x125 s =>
 kLoad1 s x125 fun x126 s =>
 kS (.neg (.c x126)) s fun x127 s =>
 isoK (R_fp_Mod φ) [x93, x127] s fun x128 s =>
 kIaddr 1 s x99 x103 fun x129 s =>
 kStore 1 s x129 x128 fun _ s =>
 j105 x93 x94 x95 x96 x97 x98 x99 x100 x101 x102 x103 s)
(j105 x93 x94 x95 x96 x97 x98 x99 x100 x101 x102 x103 s))
(isoK (R_fp_Trim φ) [x99] s fun x130 s =>
 kBsl 1 [(.tree [] 0 true)] [(0, 1, x130)] s fun x131 s =>
 kApp 1 24 s x97 x131 fun x132 s =>
 j78 x93 x94 x95 x96 x132 x100 x101 s)) φ x70 x71 x72 x73 x74 x76 x90 x75 x76 x71 (.i .i64 (.ofNat 0)) s))
(retK false s x74 some)) φ x39 x40 x42 x68 (.tree [] 0 true) x40 (.i .i64 (.ofNat 0)) s)) φ x11 x13 x15 x36 x37 (.i .i64 (.ofNat 0)) s)) φ a1 a2 x4 x7 x8 x9 x4 (.i .i64 (.ofNat 0)) s)) s0
def k_zf_kernel_0 : List D := [(.i .i64 (.ofNat 3)), (ti [1,0,0,0,0,0,0,0,0,0,0,0,0,0,1] true)]
def v_zf_kernel_0 : D := (.tree [(ti [1] true), (ti [0,0,2,0,1,0,2,0,1,0,2,0,1] true), (ti [0,2,0,2,0,1,0,0,0,2,0,1,0,1] true)] 3 false)
def k_zf_kernel_1 : List D := [(.i .i64 (.ofNat 5)), (ti [3,0,0,0,0,0,0,0,0,0,0,0,0,0,1] true)]
def v_zf_kernel_1 : D := (.tree [(ti [1] true), (ti [0,0,3,0,1,0,2,0,4,0,3,0,1] true), (ti [0,1,0,3,0,1,0,0,0,1,0,2,0,1] true)] 3 false)
def k_zf_kernel_2 : List D := [(.i .i64 (.ofNat 11)), (ti [9,0,0,0,0,0,0,0,0,0,0,0,0,0,1] true)]
def v_zf_kernel_2 : D := (.tree [(ti [1] true), (ti [0,0,6,0,9,0,0,0,1] true), (ti [0,0,0,0,0,0,6,0,0,0,8,0,1] true)] 3 false)
def k_zf_kernel_3 : List D := [(.i .i64 (.ofNat 13)), (ti [11,0,0,0,0,0,0,0,0,0,0,0,0,0,1] true)]
def v_zf_kernel_3 : D := (.tree [(ti [1] true), (ti [0,0,0,0,0,0,11,0,1] true), (ti [0,0,0,0,0,9,0,0,0,1] true), (ti [0,0,0,0,5,0,0,0,0,0,1] true), (ti [0,0,0,10,0,0,0,0,0,0,0,1] true), (ti [0,0,7,0,0,0,0,0,0,0,0,0,1] true), (ti [0,1,0,0,0,0,0,0,0,0,0,0,0,1] true)] 7 false)
def k_zf_kernel_4 : List D := [(.i .i64 (.ofNat 17)), (ti [15,0,0,0,0,0,0,0,0,0,0,0,0,0,1] true)]
def v_zf_kernel_4 : D := (.tree [(ti [1] true), (ti [0,0,0,0,0,0,0,1] true), (ti [0,0,8,0,16,0,15,0,13,0,9,0,1] true), (ti [0,4,0,8,0,16,0,0,0,13,0,9,0,1] true)] 4 false)
def k_zf_kernel_5 : List D := [(.i .i64 (.ofNat 3)), (ti [1,0,0,0,0,0,0,0,0,0,0,0,0,0,0,0,0,1] true)]
def v_zf_kernel_5 : D := (.tree [(ti [1] true), (ti [0,2,1,2,1,2,1,2,1,2,1,2,1,2,1,2,1] true)] 2 false)
def k_zf_kernel_6 : List D := [(.i .i64 (.ofNat 5)), (ti [3,0,0,0,0,0,0,0,0,0,0,0,0,0,0,0,0,1] true)]
def v_zf_kernel_6 : D := (.tree [(ti [1] true), (ti [0,3,4,2,1,3,4,2,1,3,4,2,1,3,4,2,1] true)] 2 false)
def k_zf_kernel_7 : List D := [(.i .i64 (.ofNat 7)), (ti [5,0,0,0,0,0,0,0,0,0,0,0,0,0,0,0,0,1] true)]
def v_zf_kernel_7 : D := (.tree [(ti [1] true), (ti [0,1,2,4,1,2,4,1,2,4,1,2,4,1,2,4,1] true)] 2 false)
def k_zf_kernel_8 : List D := [(.i .i64 (.ofNat 11)), (ti [9,0,0,0,0,0,0,0,0,0,0,0,0,0,0,0,0,1] true)]
def v_zf_kernel_8 : D := (.tree [(ti [1] true), (ti [0,10,4,6,9,8,1,7,5,2,3,10,4,6,9,8,1] true)] 2 false)
def k_zf_kernel_9 : List D := [(.i .i64 (.ofNat 13)), (ti [11,0,0,0,0,0,0,0,0,0,0,0,0,0,0,0,0,1] true)]
def v_zf_kernel_9 : D := (.tree [(ti [1] true), (ti [0,0,0,0,0,0,2,9,0,0,6,1] true), (ti [0,0,0,11,0,5,0,0,0,0,0,0,10,0,1] true), (ti [0,0,6,0,0,0,0,0,7,12,0,0,0,0,0,1] true), (ti [0,8,0,0,1,0,0,0,0,0,0,0,0,8,0,0,1] true)] 5 false)
def k_zf_kernel_10 : List D := [(.i .i64 (.ofNat 3)), (ti [1,0,0,0,0,0,0,0,0,0,0,0,0,0,0,0,0,0,0,1] true)]
def v_zf_kernel_10 : D := (.tree [(ti [1] true), (ti [0,2,1,2,1,2,1,2,1,2,1,2,1,2,1,2,1,2,1] true)] 2 false)
def k_zf_kernel_11 : List D := [(.i .i64 (.ofNat 5)), (ti [3,0,0,0,0,0,0,0,0,0,0,0,0,0,0,0,0,0,0,1] true)]
def v_zf_kernel_11 : D := (.tree [(ti [1] true), (ti [0,1,0,0,3,1,2,4,0,1,0,4,0,0,0,0,3,1] true), (ti [0,0,1,2,0,0,0,0,4,0,1,0,4,3,1,2,0,0,1] true)] 3 false)
def k_zf_kernel_12 : List D := [(.i .i64 (.ofNat 7)), (ti [5,0,0,0,0,0,0,0,0,0,0,0,0,0,0,0,0,0,0,1] true)]
def v_zf_kernel_12 : D := (.tree [(ti [1] true), (ti [0,0,0,0,4,0,1,0,0,1] true), (ti [0,2,0,0,0,0,0,2,0,0,0,1] true), (ti [0,0,1,4,0,0,0,0,0,0,0,0,0,0,1] true), (ti [0,0,0,0,0,0,0,0,0,0,4,0,0,4,0,1] true), (ti [0,0,0,0,0,1,0,0,0,0,0,0,0,0,0,0,2,1] true), (ti [0,0,0,0,0,0,0,0,2,0,0,0,1,0,0,0,0,0,1] true)] 7 false)
def k_zf_kernel_13 : List D := [(.i .i64 (.ofNat 11)), (ti [9,0,0,0,0,0,0,0,0,0,0,0,0,0,0,0,0,0,0,1] true)]
def v_zf_kernel_13 : D := (.tree [(ti [1] true), (ti [0,0,0,0,10,0,7,0,0,1] true), (ti [0,1,0,0,0,0,0,9,0,0,0,1] true), (ti [0,0,3,6,0,0,0,0,0,0,0,0,0,0,1] true), (ti [0,0,0,0,0,0,0,0,0,0,10,0,0,3,0,1] true), (ti [0,0,0,0,0,3,0,0,0,0,0,0,0,0,0,0,6,1] true), (ti [0,0,0,0,0,0,0,0,1,0,0,0,5,0,0,0,0,0,1] true)] 7 false)
def k_zf_kernel_14 : List D := [(.i .i64 (.ofNat 13)), (ti [11,0,0,0,0,0,0,0,0,0,0,0,0,0,0,0,0,0,0,1] true)]
def v_zf_kernel_14 : D := (.tree [(ti [1] true), (ti [0,7,3,5,4,11,1,6,10,8,9,2,12,7,3,5,4,11,1] true)] 2 false)
def k_zf_kernel_15 : List D := [(.i .i64 (.ofNat 3)), (ti [1,0,0,0,0,0,0,0,0,0,0,0,0,0,0,0,0,0,0,0,1] true)]
def v_zf_kernel_15 : D := (.tree [(ti [1] true), (ti [0,1,0,1,0,0,0,2,0,1] true), (ti [0,0,0,0,0,1,0,0,0,0,0,0,0,0,0,1] true), (ti [0,0,0,0,2,0,0,0,1,0,0,0,2,0,0,0,1] true), (ti [0,0,1,0,0,0,1,0,0,0,0,0,0,0,1,0,0,0,1] true), (ti [0,0,0,0,0,0,0,0,0,0,0,1,0,2,0,0,0,1,0,1] true)] 6 false)
def k_zf_kernel_16 : List D := [(.i .i64 (.ofNat 7)), (ti [5,0,0,0,0,0,0,0,0,0,0,0,0,0,0,0,0,0,0,0,1] true)]
def v_zf_kernel_16 : D := (.tree [(ti [1] true), (ti [0,2,0,1,0,0,0,2,0,1] true), (ti [0,0,0,0,0,0,0,0,0,0,1] true), (ti [0,0,0,0,0,4,0,0,0,0,0,0,0,0,0,1] true), (ti [0,0,0,0,1,0,0,0,2,0,0,0,4,0,0,0,1] true), (ti [0,0,4,0,0,0,1,0,0,0,0,0,0,0,4,0,0,0,1] true), (ti [0,0,0,0,0,0,0,0,0,0,0,2,0,1,0,0,0,2,0,1] true)] 7 false)
def k_zf_kernel_17 : List D := [(.i .i64 (.ofNat 11)), (ti [9,0,0,0,0,0,0,0,0,0,0,0,0,0,0,0,0,0,0,0,1] true)]
def v_zf_kernel_17 : D := (.tree [(ti [1] true), (ti [0,0,0,0,0,3,0,0,0,0,0,0,0,0,0,1] true)] 2 false)
def k_zf_kernel_18 : List D := [(.i .i64 (.ofNat 13)), (ti [11,0,0,0,0,0,0,0,0,0,0,0,0,0,0,0,0,0,0,0,1] true)]
def v_zf_kernel_18 : D := (.tree [(ti [1] true), (ti [0,0,0,0,8,0,0,0,10,0,0,0,6,0,0,0,1] true), (ti [0,7,0,0,0,0,0,0,0,11,0,0,0,7,0,0,0,1] true), (ti [0,0,9,0,0,0,5,0,0,0,0,0,0,0,7,0,0,0,1] true), (ti [0,0,0,7,0,0,0,1,0,0,0,3,0,0,0,0,0,0,0,1] true)] 5 false)
def k_zf_kernel_19 : List D := [(.i .i64 (.ofNat 17)), (ti [15,0,0,0,0,0,0,0,0,0,0,0,0,0,0,0,0,0,0,0,1] true)]
def v_zf_kernel_19 : D := (.tree [(ti [1] true), (ti [0,0,0,0,0,0,0,0,0,0,1] true), (ti [0,0,0,0,9,0,0,0,4,0,0,0,15,0,0,0,1] true), (ti [0,1,0,0,0,0,0,0,0,13,0,0,0,15,0,0,0,1] true), (ti [0,0,16,0,0,0,9,0,0,0,0,0,0,0,15,0,0,0,1] true), (ti [0,0,0,1,0,0,0,8,0,0,0,4,0,0,0,0,0,0,0,1] true)] 6 false)
def k_zf_kernel_20 : List D := [(.i .i64 (.ofNat 5)), (ti [3,0,0,0,0,0,0,0,0,0,0,0,0,0,0,0,0,0,0,0,0,1] true)]
def v_zf_kernel_20 : D := (.tree [(ti [1] true), (ti [0,0,0,0,0,0,0,3,0,0,0,0,0,0,1] true), (ti [0,0,0,3,0,0,1,0,0,2,0,0,4,0,0,3,0,0,1] true), (ti [0,0,2,0,0,0,0,0,3,0,2,1,0,4,0,0,0,0,0,1] true), (ti [0,3,0,0,1,3,0,0,0,0,0,0,0,0,0,0,1,3,0,0,1] true)] 5 false)
def k_zf_kernel_21 : List D := [(.i .i64 (.ofNat 11)), (ti [9,0,0,0,0,0,0,0,0,0,0,0,0,0,0,0,0,0,0,0,0,1] true)]
def v_zf_kernel_21 : D := (.tree [(ti [1] true), (ti [0,0,0,6,0,0,9,0,0,0,0,0,1] true), (ti [0,0,0,0,0,0,0,7,0,0,0,0,0,0,1] true), (ti [0,10,5,0,4,0,0,0,3,0,0,10,0,0,0,0,1] true), (ti [0,0,0,0,0,0,0,0,0,6,0,0,0,0,0,8,0,0,1] true), (ti [0,0,0,0,0,10,0,0,0,0,1,0,0,7,0,0,0,8,0,2,1] true)] 6 false)
def k_zf_kernel_22 : List D := [(.i .i64 (.ofNat 13)), (ti [11,0,0,0,0,0,0,0,0,0,0,0,0,0,0,0,0,0,0,0,0,1] true)]
def v_zf_kernel_22 : D := (.tree [(ti [1] true), (ti [0,0,0,0,0,0,0,0,0,11,0,0,1] true), (ti [0,0,0,0,0,0,5,0,0,0,0,0,0,0,0,1] true), (ti [0,0,0,7,0,0,0,0,0,0,0,0,0,0,0,0,0,0,1] true)] 4 false)
def k_zf_kernel_23 : List D := [(.i .i64 (.ofNat 17)), (ti [15,0,0,0,0,0,0,0,0,0,0,0,0,0,0,0,0,0,0,0,0,1] true)]
def v_zf_kernel_23 : D := (.tree [(ti [1] true), (ti [0,0,0,0,0,0,0,8,0,0,0,0,0,0,1] true), (ti [0,0,0,8,0,0,16,0,0,15,0,0,13,0,0,9,0,0,1] true), (ti [0,0,15,0,0,0,0,0,9,0,15,1,0,13,0,0,0,0,0,1] true), (ti [0,9,0,0,1,8,0,0,0,0,0,0,0,0,0,0,16,9,0,0,1] true)] 5 false)
def k_zf_kernel_24 : List D := [(.i .i64 (.ofNat 19)), (ti [17,0,0,0,0,0,0,0,0,0,0,0,0,0,0,0,0,0,0,0,0,1] true)]
def v_zf_kernel_24 : D := (.tree [(ti [1] true), (ti [0,0,0,15,0,0,5,0,0,8,0,0,9,0,0,3,0,0,1] true), (ti [0,1,0,0,10,0,0,0,0,0,18,0,0,4,0,0,3,0,0,1] true), (ti [0,0,1,0,0,13,0,0,5,0,0,18,0,0,0,0,0,2,0,0,1] true)] 4 false)
def k_zf_kernel_25 : List D := [(.i .i64 (.ofNat 3)), (ti [1,0,0,0,0,0,0,0,0,0,0,0,0,0,0,0,0,0,0,0,0,0,1] true)]
def v_zf_kernel_25 : D := (.tree [(ti [1] true), (ti [0,0,1,0,0,0,1,0,2,0,1,0,0,0,0,0,0,0,1] true), (ti [0,0,0,0,1,0,0,0,0,0,0,0,1,0,2,0,1,0,0,0,1] true)] 3 false)
def k_zf_kernel_26 : List D := [(.i .i64 (.ofNat 5)), (ti [3,0,0,0,0,0,0,0,0,0,0,0,0,0,0,0,0,0,0,0,0,0,1] true)]
def v_zf_kernel_26 : D := (.tree [(ti [1] true), (ti [0,0,1,0,0,0,4,0,3,0,1,0,0,0,0,0,0,0,1] true), (ti [0,0,0,0,1,0,0,0,0,0,0,0,1,0,2,0,4,0,0,0,1] true)] 3 false)
def k_zf_kernel_27 : List D := [(.i .i64 (.ofNat 7)), (ti [5,0,0,0,0,0,0,0,0,0,0,0,0,0,0,0,0,0,0,0,0,0,1] true)]
def v_zf_kernel_27 : D := (.tree [(ti [1] true), (ti [0,0,0,0,0,0,0,0,0,0,0,1] true), (ti [0,0,1,0,2,0,4,0,1,0,2,0,4,0,1,0,2,0,4,0,1] true), (ti [0,4,0,1,0,2,0,4,0,1,0,0,0,4,0,1,0,2,0,4,0,1] true)] 4 false)
def k_zf_kernel_28 : List D := [(.i .i64 (.ofNat 13)), (ti [11,0,0,0,0,0,0,0,0,0,0,0,0,0,0,0,0,0,0,0,0,0,1] true)]
def v_zf_kernel_28 : D := (.tree [(ti [1] true), (ti [0,0,8,0,3,0,6,0,12,0,11,0,9,0,5,0,10,0,7,0,1] true), (ti [0,9,0,5,0,10,0,6,0,1,0,0,0,9,0,8,0,10,0,7,0,1] true)] 3 false)
def k_zf_kernel_29 : List D := [(.i .i64 (.ofNat 17)), (ti [15,0,0,0,0,0,0,0,0,0,0,0,0,0,0,0,0,0,0,0,0,0,1] true)]
def v_zf_kernel_29 : D := (.tree [(ti [1] true), (ti [0,0,0,0,0,0,0,0,0,0,0,1] true), (ti [0,0,8,0,1,0,15,0,4,0,9,0,16,0,2,0,13,0,8,0,1] true), (ti [0,13,0,8,0,1,0,15,0,4,0,0,0,16,0,2,0,13,0,8,0,1] true)] 4 false)
def k_zf_kernel_30 : List D := [(.i .i64 (.ofNat 3)), (ti [1,0,0,0,0,0,0,0,0,0,0,0,0,0,0,0,0,0,0,0,0,0,0,1] true)]
def v_zf_kernel_30 : D := (.tree [(ti [1] true), (ti [0,2,1,2,1,0,1,0,1,2,0,0,1,2,0,0,1,0,1] true), (ti [0,0,0,0,0,2,0,2,0,0,1,2,0,0,1,2,0,2,0,2,1,2,1] true)] 3 false)
def k_zf_kernel_31 : List D := [(.i .i64 (.ofNat 5)), (ti [3,0,0,0,0,0,0,0,0,0,0,0,0,0,0,0,0,0,0,0,0,0,0,1] true)]
def v_zf_kernel_31 : D := (.tree [(ti [1] true), (ti [0,3,1,2,4,3,1,2,4,3,1,2,4,3,1,2,4,3,1,2,4,3,1] true)] 2 false)
def k_zf_kernel_32 : List D := [(.i .i64 (.ofNat 7)), (ti [5,0,0,0,0,0,0,0,0,0,0,0,0,0,0,0,0,0,0,0,0,0,0,1] true)]
def v_zf_kernel_32 : D := (.tree [(ti [1] true), (ti [0,1,2,4,1,2,4,1,2,4,1,2,4,1,2,4,1,2,4,1,2,4,1] true)] 2 false)
def k_zf_kernel_33 : List D := [(.i .i64 (.ofNat 11)), (ti [9,0,0,0,0,0,0,0,0,0,0,0,0,0,0,0,0,0,0,0,0,0,0,1] true)]
def v_zf_kernel_33 : D := (.tree [(ti [1] true), (ti [0,7,1,8,9,6,4,10,3,2,5,7,1,8,9,6,4,10,3,2,5,7,1] true)] 2 false)
def k_zf_kernel_34 : List D := [(.i .i64 (.ofNat 13)), (ti [11,0,0,0,0,0,0,0,0,0,0,0,0,0,0,0,0,0,0,0,0,0,0,1] true)]
def v_zf_kernel_34 : D := (.tree [(ti [1] true), (ti [0,11,9,5,10,0,1,0,4,8,0,0,12,11,0,0,10,0,1] true), (ti [0,0,0,0,0,11,0,5,0,0,1,2,0,0,3,6,0,11,0,5,10,7,1] true)] 3 false)
def k_zf_kernel_35 : List D := [(.i .i64 (.ofNat 2)), (ti [1,0,0,0,0,0,0,0,0,0,0,0,0,0,0,0,0,1] true)]
def v_zf_kernel_35 : D := (.tree [(ti [1] true), (ti [0,0,0,1,0,1,1,1,0,0,1,1,1,0,1] true), (ti [0,1,1,0,1,0,0,0,1,1,0,0,0,1,0,1,1] true)] 3 false)
def k_zf_kernel_36 : List D := [(.i .i64 (.ofNat 5)), (ti [2,0,0,0,0,0,0,0,0,0,0,0,0,0,0,0,0,1] true)]
def v_zf_kernel_36 : D := (.tree [(ti [1] true), (ti [0,2,4,3,1,2,4,3,1,2,4,3,1,2,4,3,1] true)] 2 false)
def k_zf_kernel_37 : List D := [(.i .i64 (.ofNat 7)), (ti [4,0,0,0,0,0,0,0,0,0,0,0,0,0,0,0,0,1] true)]
def v_zf_kernel_37 : D := (.tree [(ti [1] true), (ti [0,6,4,5,1,3,2,6,4,5,1,3,2,6,4,5,1] true)] 2 false)
def k_zf_kernel_38 : List D := [(.i .i64 (.ofNat 11)), (ti [8,0,0,0,0,0,0,0,0,0,0,0,0,0,0,0,0,1] true)]
def v_zf_kernel_38 : D := (.tree [(ti [1] true), (ti [0,1,9,4,3,5,1,9,4,3,5,1,9,4,3,5,1] true)] 2 false)
def k_zf_kernel_39 : List D := [(.i .i64 (.ofNat 13)), (ti [10,0,0,0,0,0,0,0,0,0,0,0,0,0,0,0,0,1] true)]
def v_zf_kernel_39 : D := (.tree [(ti [1] true), (ti [0,0,0,0,0,0,3,9,0,0,9,1] true), (ti [0,0,0,3,0,1,0,0,0,0,0,0,3,0,1] true), (ti [0,0,9,0,0,0,0,0,9,1,0,0,0,0,0,1] true), (ti [0,1,0,0,1,0,0,0,0,0,0,0,0,1,0,0,1] true)] 5 false)
def k_zf_kernel_40 : List D := [(.i .i64 (.ofNat 2)), (ti [1,0,0,0,0,0,0,0,0,0,0,0,0,0,0,0,0,0,0,1] true)]
def v_zf_kernel_40 : D := (.tree [(ti [1] true), (ti [0,1,1,1,1,1,1,1,1,1,1,1,1,1,1,1,1,1,1] true)] 2 false)
def k_zf_kernel_41 : List D := [(.i .i64 (.ofNat 5)), (ti [2,0,0,0,0,0,0,0,0,0,0,0,0,0,0,0,0,0,0,1] true)]
def v_zf_kernel_41 : D := (.tree [(ti [1] true), (ti [0,1,0,0,2,1,3,4,0,1,0,4,0,0,0,0,2,1] true), (ti [0,0,1,3,0,0,0,0,4,0,1,0,4,2,1,3,0,0,1] true)] 3 false)
def k_zf_kernel_42 : List D := [(.i .i64 (.ofNat 7)), (ti [4,0,0,0,0,0,0,0,0,0,0,0,0,0,0,0,0,0,0,1] true)]
def v_zf_kernel_42 : D := (.tree [(ti [1] true), (ti [0,0,0,0,5,0,6,0,0,1] true), (ti [0,4,0,0,0,0,0,4,0,0,0,1] true), (ti [0,0,1,5,0,0,0,0,0,0,0,0,0,0,1] true), (ti [0,0,0,0,0,0,0,0,0,0,5,0,0,2,0,1] true), (ti [0,0,0,0,0,1,0,0,0,0,0,0,0,0,0,0,3,1] true), (ti [0,0,0,0,0,0,0,0,4,0,0,0,1,0,0,0,0,0,1] true)] 7 false)
def k_zf_kernel_43 : List D := [(.i .i64 (.ofNat 11)), (ti [8,0,0,0,0,0,0,0,0,0,0,0,0,0,0,0,0,0,0,1] true)]
def v_zf_kernel_43 : D := (.tree [(ti [1] true), (ti [0,0,0,0,1,0,9,0,0,1] true), (ti [0,1,0,0,0,0,0,3,0,0,0,1] true), (ti [0,0,5,4,0,0,0,0,0,0,0,0,0,0,1] true), (ti [0,0,0,0,0,0,0,0,0,0,1,0,0,5,0,1] true), (ti [0,0,0,0,0,5,0,0,0,0,0,0,0,0,0,0,4,1] true), (ti [0,0,0,0,0,0,0,0,1,0,0,0,4,0,0,0,0,0,1] true)] 7 false)
def k_zf_kernel_44 : List D := [(.i .i64 (.ofNat 13)), (ti [10,0,0,0,0,0,0,0,0,0,0,0,0,0,0,0,0,0,0,1] true)]
def v_zf_kernel_44 : D := (.tree [(ti [1] true), (ti [0,9,3,1,9,3,1,9,3,1,9,3,1,9,3,1,9,3,1] true)] 2 false)
def k_zf_kernel_45 : List D := [(.i .i64 (.ofNat 7)), (ti [4,0,0,0,0,0,0,0,0,0,0,0,0,0,0,0,0,0,0,0,1] true)]
def v_zf_kernel_45 : D := (.tree [(ti [1] true), (ti [0,4,0,6,0,0,0,4,0,1] true), (ti [0,0,0,0,0,5,0,0,0,0,0,0,0,0,0,1] true), (ti [0,0,0,0,6,0,0,0,4,0,0,0,5,0,0,0,1] true), (ti [0,0,2,0,0,0,1,0,0,0,0,0,0,0,2,0,0,0,1] true), (ti [0,0,0,0,0,0,0,0,0,0,0,4,0,1,0,0,0,3,0,1] true)] 6 false)
def k_zf_kernel_46 : List D := [(.i .i64 (.ofNat 11)), (ti [8,0,0,0,0,0,0,0,0,0,0,0,0,0,0,0,0,0,0,0,1] true)]
def v_zf_kernel_46 : D := (.tree [(ti [1] true), (ti [0,0,0,0,0,0,0,0,0,0,1] true), (ti [0,0,0,0,0,5,0,0,0,0,0,0,0,0,0,1] true)] 3 false)
def k_zf_kernel_47 : List D := [(.i .i64 (.ofNat 13)), (ti [10,0,0,0,0,0,0,0,0,0,0,0,0,0,0,0,0,0,0,0,1] true)]
def v_zf_kernel_47 : D := (.tree [(ti [1] true), (ti [0,0,0,0,0,1] true), (ti [0,0,0,0,0,0,0,0,0,0,1] true), (ti [0,0,0,0,0,0,0,0,0,0,0,0,0,0,0,1] true), (ti [0,0,0,0,1,0,0,0,3,0,0,0,9,0,0,0,1] true), (ti [0,9,0,0,0,0,0,0,0,3,0,0,0,9,0,0,0,1] true), (ti [0,0,9,0,0,0,1,0,0,0,0,0,0,0,9,0,0,0,1] true), (ti [0,0,0,9,0,0,0,1,0,0,0,3,0,0,0,0,0,0,0,1] true)] 8 false)
def k_zf_kernel_48 : List D := [(.i .i64 (.ofNat 17)), (ti [14,0,0,0,0,0,0,0,0,0,0,0,0,0,0,0,0,0,0,0,1] true)]
def v_zf_kernel_48 : D := (.tree [(ti [1] true), (ti [0,0,0,0,11,0,0,0,8,0,0,0,12,0,0,0,1] true), (ti [0,1,0,0,0,0,0,0,0,2,0,0,0,5,0,0,0,1] true), (ti [0,0,13,0,0,0,6,0,0,0,0,0,0,0,5,0,0,0,1] true), (ti [0,0,0,1,0,0,0,7,0,0,0,9,0,0,0,0,0,0,0,1] true)] 5 false)
def k_zf_kernel_49 : List D := [(.i .i64 (.ofNat 19)), (ti [16,0,0,0,0,0,0,0,0,0,0,0,0,0,0,0,0,0,0,0,1] true)]
def v_zf_kernel_49 : D := (.tree [(ti [1] true), (ti [0,0,0,0,0,0,0,0,0,16,0,1] true), (ti [0,0,0,0,0,0,0,0,10,0,0,0,1] true), (ti [0,0,0,0,0,0,0,11,0,0,0,0,0,1] true), (ti [0,0,0,0,0,0,14,0,0,0,0,0,0,0,1] true), (ti [0,0,0,0,0,4,0,0,0,0,0,0,0,0,0,1] true), (ti [0,0,0,0,12,0,0,0,0,0,0,0,0,0,0,0,1] true), (ti [0,0,0,17,0,0,0,0,0,0,0,0,0,0,0,0,0,1] true), (ti [0,0,13,0,0,0,0,0,0,0,0,0,0,0,0,0,0,0,1] true), (ti [0,1,0,0,0,0,0,0,0,0,0,0,0,0,0,0,0,0,0,1] true)] 10 false)
def k_zf_kernel_50 : List D := [(.i .i64 (.ofNat 2)), (ti [1,0,0,0,0,0,0,0,0,0,0,0,0,0,0,0,0,0,0,0,0,1] true)]
def v_zf_kernel_50 : D := (.tree [(ti [1] true), (ti [0,0,0,1,0,0,1,0,0,0,0,0,1] true), (ti [0,0,0,0,0,0,0,1,0,0,0,0,0,0,1] true), (ti [0,1,1,0,1,0,0,0,1,0,0,1,0,0,0,0,1] true), (ti [0,0,0,0,0,0,0,0,0,1,0,0,0,0,0,1,0,0,1] true), (ti [0,0,0,0,0,1,0,0,0,0,1,0,0,1,0,0,0,1,0,1,1] true)] 6 false)
def k_zf_kernel_51 : List D := [(.i .i64 (.ofNat 5)), (ti [2,0,0,0,0,0,0,0,0,0,0,0,0,0,0,0,0,0,0,0,0,1] true)]
def v_zf_kernel_51 : D := (.tree [(ti [1] true), (ti [0,0,0,0,0,0,0,2,0,0,0,0,0,0,1] true), (ti [0,0,0,2,0,0,1,0,0,3,0,0,4,0,0,2,0,0,1] true), (ti [0,0,3,0,0,0,0,0,2,0,3,1,0,4,0,0,0,0,0,1] true), (ti [0,2,0,0,1,2,0,0,0,0,0,0,0,0,0,0,1,2,0,0,1] true)] 5 false)
def k_zf_kernel_52 : List D := [(.i .i64 (.ofNat 11)), (ti [8,0,0,0,0,0,0,0,0,0,0,0,0,0,0,0,0,0,0,0,0,1] true)]
def v_zf_kernel_52 : D := (.tree [(ti [1] true), (ti [0,0,0,4,0,0,3,0,0,0,0,0,1] true), (ti [0,0,0,0,0,0,0,9,0,0,0,0,0,0,1] true), (ti [0,1,4,0,9,0,0,0,5,0,0,1,0,0,0,0,1] true), (ti [0,0,0,0,0,0,0,0,0,4,0,0,0,0,0,5,0,0,1] true), (ti [0,0,0,0,0,1,0,0,0,0,1,0,0,9,0,0,0,5,0,3,1] true)] 6 false)
def k_zf_kernel_53 : List D := [(.i .i64 (.ofNat 13)), (ti [10,0,0,0,0,0,0,0,0,0,0,0,0,0,0,0,0,0,0,0,0,1] true)]
def v_zf_kernel_53 : D := (.tree [(ti [1] true), (ti [0,0,0,0,0,0,0,0,0,3,0,0,1] true), (ti [0,0,0,0,0,0,1,0,0,0,0,0,0,0,0,1] true), (ti [0,0,0,9,0,0,0,0,0,0,0,0,0,0,0,0,0,0,1] true)] 4 false)
def k_zf_kernel_54 : List D := [(.i .i64 (.ofNat 17)), (ti [14,0,0,0,0,0,0,0,0,0,0,0,0,0,0,0,0,0,0,0,0,1] true)]
def v_zf_kernel_54 : D := (.tree [(ti [1] true), (ti [0,0,0,0,0,0,0,7,0,0,0,0,0,0,1] true), (ti [0,0,0,10,0,0,4,0,0,5,0,0,2,0,0,11,0,0,1] true), (ti [0,0,12,0,0,0,0,0,6,0,5,16,0,2,0,0,0,0,0,1] true), (ti [0,11,0,0,1,10,0,0,0,0,0,0,0,0,0,0,13,11,0,0,1] true)] 5 false)
def k_zf_kernel_55 : List D := [(.i .i64 (.ofNat 5)), (ti [2,0,0,0,0,0,0,0,0,0,0,0,0,0,0,0,0,0,0,0,0,0,1] true)]
def v_zf_kernel_55 : D := (.tree [(ti [1] true), (ti [0,0,1,0,0,0,4,0,2,0,1,0,0,0,0,0,0,0,1] true), (ti [0,0,0,0,1,0,0,0,0,0,0,0,1,0,3,0,4,0,0,0,1] true)] 3 false)
def k_zf_kernel_56 : List D := [(.i .i64 (.ofNat 7)), (ti [4,0,0,0,0,0,0,0,0,0,0,0,0,0,0,0,0,0,0,0,0,0,1] true)]
def v_zf_kernel_56 : D := (.tree [(ti [1] true), (ti [0,0,6,0,4,0,5,0,1,0,3,0,2,0,6,0,4,0,5,0,1] true), (ti [0,5,0,1,0,3,0,5,0,6,0,0,0,2,0,1,0,4,0,5,0,1] true)] 3 false)
def k_zf_kernel_57 : List D := [(.i .i64 (.ofNat 13)), (ti [10,0,0,0,0,0,0,0,0,0,0,0,0,0,0,0,0,0,0,0,0,0,1] true)]
def v_zf_kernel_57 : D := (.tree [(ti [1] true), (ti [0,0,0,0,0,0,0,0,0,0,0,1] true), (ti [0,0,1,0,3,0,9,0,1,0,3,0,9,0,1,0,3,0,9,0,1] true), (ti [0,9,0,1,0,3,0,9,0,1,0,0,0,9,0,1,0,3,0,9,0,1] true)] 4 false)
def k_zf_kernel_58 : List D := [(.i .i64 (.ofNat 17)), (ti [14,0,0,0,0,0,0,0,0,0,0,0,0,0,0,0,0,0,0,0,0,0,1] true)]
def v_zf_kernel_58 : D := (.tree [(ti [1] true), (ti [0,0,7,0,16,0,5,0,9,0,6,0,4,0,14,0,15,0,10,0,1] true), (ti [0,15,0,10,0,1,0,5,0,8,0,0,0,4,0,3,0,15,0,10,0,1] true)] 3 false)
def k_zf_kernel_59 : List D := [(.i .i64 (.ofNat 19)), (ti [16,0,0,0,0,0,0,0,0,0,0,0,0,0,0,0,0,0,0,0,0,0,1] true)]
def v_zf_kernel_59 : D := (.tree [(ti [1] true), (ti [0,0,18,0,5,0,13,0,11,0,2,0,9,0,12,0,16,0,15,0,1] true), (ti [0,15,0,1,0,14,0,13,0,8,0,0,0,9,0,7,0,16,0,15,0,1] true)] 3 false)
def k_zf_kernel_60 : List D := [(.i .i64 (.ofNat 2)), (ti [1,0,0,0,0,0,0,0,0,0,0,0,0,0,0,0,0,0,0,0,0,0,0,1] true)]
def v_zf_kernel_60 : D := (.tree [(ti [1] true), (ti [0,1,1,1,1,0,1,0,1,1,0,0,1,1,0,0,1,0,1] true), (ti [0,0,0,0,0,1,0,1,0,0,1,1,0,0,1,1,0,1,0,1,1,1,1] true)] 3 false)
def k_zf_kernel_61 : List D := [(.i .i64 (.ofNat 5)), (ti [2,0,0,0,0,0,0,0,0,0,0,0,0,0,0,0,0,0,0,0,0,0,0,1] true)]
def v_zf_kernel_61 : D := (.tree [(ti [1] true), (ti [0,2,1,3,4,2,1,3,4,2,1,3,4,2,1,3,4,2,1,3,4,2,1] true)] 2 false)
def k_zf_kernel_62 : List D := [(.i .i64 (.ofNat 7)), (ti [4,0,0,0,0,0,0,0,0,0,0,0,0,0,0,0,0,0,0,0,0,0,0,1] true)]
def v_zf_kernel_62 : D := (.tree [(ti [1] true), (ti [0,6,4,5,1,3,2,6,4,5,1,3,2,6,4,5,1,3,2,6,4,5,1] true)] 2 false)
def k_zf_kernel_63 : List D := [(.i .i64 (.ofNat 11)), (ti [8,0,0,0,0,0,0,0,0,0,0,0,0,0,0,0,0,0,0,0,0,0,0,1] true)]
def v_zf_kernel_63 : D := (.tree [(ti [1] true), (ti [0,9,1,5,3,4,9,1,5,3,4,9,1,5,3,4,9,1,5,3,4,9,1] true)] 2 false)
def k_zf_kernel_64 : List D := [(.i .i64 (.ofNat 13)), (ti [10,0,0,0,0,0,0,0,0,0,0,0,0,0,0,0,0,0,0,0,0,0,0,1] true)]
def v_zf_kernel_64 : D := (.tree [(ti [1] true), (ti [0,3,9,1,3,0,1,0,9,1,0,0,1,3,0,0,3,0,1] true), (ti [0,0,0,0,0,3,0,1,0,0,1,3,0,0,3,9,0,3,0,1,3,9,1] true)] 3 false)
def k_zf_kernel_65 : List D := [(.i .i64 (.ofNat 5)), (ti [2,0,0,0,0,0,0,0,0,0,0,0,0,0,0,0,0,0,0,0,0,0,0,0,1] true)]
def v_zf_kernel_65 : D := (.tree [(ti [1] true), (ti [0,0,0,0,0,0,0,0,2,0,0,0,0,0,0,0,1] true), (ti [0,0,0,0,1,0,0,0,0,0,0,0,0,0,0,0,0,0,0,0,1] true)] 3 false)
def k_zf_kernel_66 : List D := [(.i .i64 (.ofNat 7)), (ti [4,0,0,0,0,0,0,0,0,0,0,0,0,0,0,0,0,0,0,0,0,0,0,0,1] true)]
def v_zf_kernel_66 : D := (.tree [(ti [1] true), (ti [0,0,0,0,0,0,0,0,0,4,0,0,0,0,0,1] true), (ti [0,0,0,0,0,0,5,0,0,0,0,0,0,0,0,0,0,0,1] true), (ti [0,0,0,1,0,0,0,0,0,0,0,0,0,0,0,0,0,0,0,0,0,1] true)] 4 false)
def k_zf_kernel_67 : List D := [(.i .i64 (.ofNat 11)), (ti [8,0,0,0,0,0,0,0,0,0,0,0,0,0,0,0,0,0,0,0,0,0,0,0,1] true)]
def v_zf_kernel_67 : D := (.tree [(ti [1] true), (ti [0,0,0,0,0,5,0,1] true), (ti [0,0,0,4,0,0,0,0,0,1] true), (ti [0,1,0,0,0,0,0,0,0,0,0,1] true), (ti [0,0,0,0,0,0,0,0,0,0,0,0,1] true), (ti [0,0,0,0,0,0,0,0,0,0,3,0,0,0,1] true), (ti [0,0,0,0,0,0,0,0,9,0,0,0,0,0,0,0,1] true), (ti [0,0,0,0,0,0,5,0,0,0,0,0,0,0,0,0,0,0,1] true), (ti [0,0,0,0,0,0,0,0,0,0,0,0,0,0,0,0,0,5,0,1] true), (ti [0,0,0,0,4,0,0,0,0,0,0,0,0,0,0,0,0,0,0,0,1] true), (ti [0,0,0,0,0,0,0,0,0,0,0,0,0,0,0,4,0,0,0,0,0,1] true), (ti [0,0,1,0,0,0,0,0,0,0,0,0,0,0,0,0,0,0,0,0,0,0,1] true), (ti [0,0,0,0,0,0,0,0,0,0,0,0,0,1,0,0,0,0,0,0,0,0,0,1] true)] 13 false)
def k_zf_kernel_68 : List D := [(.i .i64 (.ofNat 13)), (ti [10,0,0,0,0,0,0,0,0,0,0,0,0,0,0,0,0,0,0,0,0,0,0,0,1] true)]
def v_zf_kernel_68 : D := (.tree [(ti [1] true), (ti [0,0,0,0,0,0,1] true), (ti [0,0,0,0,0,0,0,0,0,0,0,0,1] true), (ti [0,0,0,9,0,0,0,0,0,0,0,0,0,0,0,1] true), (ti [0,0,0,0,0,0,0,0,0,0,0,0,0,0,0,0,0,0,1] true), (ti [0,0,0,0,0,0,0,0,0,9,0,0,0,0,0,0,0,0,0,0,0,1] true)] 6 false)
def k_zf_kernel_69 : List D := [(.i .i64 (.ofNat 17)), (ti [14,0,0,0,0,0,0,0,0,0,0,0,0,0,0,0,0,0,0,0,0,0,0,0,1] true)]
def v_zf_kernel_69 : D := (.tree [(ti [1] true), (ti [0,0,0,0,0,0,0,0,7,0,0,0,0,0,0,0,1] true), (ti [0,0,0,0,2,0,0,0,0,0,0,0,0,0,0,0,0,0,0,0,1] true)] 3 false)
def k_zf_kernel_70 : List D := [(.i .i64 (.ofNat 5)), (ti [1,2,1,3,3,2,1,0,0,1] true)]
def v_zf_kernel_70 : D := (.tree [(ti [1] true), (ti [0,1,1,1,3,3,1,1] true), (ti [0,4,0,1,3,0,2,0,1] true)] 3 false)
def k_zf_kernel_71 : List D := [(.i .i64 (.ofNat 7)), (ti [1,4,0,0,3,0,0,4,0,1] true)]
def v_zf_kernel_71 : D := (.tree [(ti [1] true), (ti [0,1,0,6,6,0,1,1] true), (ti [0,0,1,3,0,6,6,0,1] true)] 3 false)
def k_zf_kernel_72 : List D := [(.i .i64 (.ofNat 11)), (ti [9,4,7,4,6,6,10,10,0,1] true)]
def v_zf_kernel_72 : D := (.tree [(ti [1] true), (ti [0,7,10,10,0,2,1,1] true), (ti [0,3,8,1,10,9,1,0,1] true)] 3 false)
def k_zf_kernel_73 : List D := [(.i .i64 (.ofNat 13)), (ti [8,11,11,5,11,8,8,7,0,1] true)]
def v_zf_kernel_73 : D := (.tree [(ti [1] true), (ti [0,4,8,6,4,10,1,1] true), (ti [0,7,9,0,2,7,9,0,1] true)] 3 false)
def k_zf_kernel_74 : List D := [(.i .i64 (.ofNat 17)), (ti [0,5,1,6,5,6,4,6,0,1] true)]
def v_zf_kernel_74 : D := (.tree [(ti [1] true), (ti [0,1] true), (ti [0,0,1] true), (ti [0,0,0,1] true), (ti [0,0,0,0,1] true), (ti [0,0,0,0,0,1] true), (ti [0,0,0,0,0,0,1] true), (ti [0,0,0,0,0,0,0,1] true), (ti [0,0,0,0,0,0,0,0,1] true)] 9 false)
def B_zf_kernel : List (List D × D) := [(k_zf_kernel_0, v_zf_kernel_0), (k_zf_kernel_1, v_zf_kernel_1), (k_zf_kernel_2, v_zf_kernel_2), (k_zf_kernel_3, v_zf_kernel_3), (k_zf_kernel_4, v_zf_kernel_4), (k_zf_kernel_5, v_zf_kernel_5), (k_zf_kernel_6, v_zf_kernel_6), (k_zf_kernel_7, v_zf_kernel_7), (k_zf_kernel_8, v_zf_kernel_8), (k_zf_kernel_9, v_zf_kernel_9), (k_zf_kernel_10, v_zf_kernel_10), (k_zf_kernel_11, v_zf_kernel_11), (k_zf_kernel_12, v_zf_kernel_12), (k_zf_kernel_13, v_zf_kernel_13), (k_zf_kernel_14, v_zf_kernel_14), (k_zf_kernel_15, v_zf_kernel_15), (k_zf_kernel_16, v_zf_kernel_16), (k_zf_kernel_17, v_zf_kernel_17), (k_zf_kernel_18, v_zf_kernel_18), (k_zf_kernel_19, v_zf_kernel_19), (k_zf_kernel_20, v_zf_kernel_20), (k_zf_kernel_21, v_zf_kernel_21), (k_zf_kernel_22, v_zf_kernel_22), (k_zf_kernel_23, v_zf_kernel_23), (k_zf_kernel_24, v_zf_kernel_24), (k_zf_kernel_25, v_zf_kernel_25), (k_zf_kernel_26, v_zf_kernel_26), (k_zf_kernel_27, v_zf_kernel_27), (k_zf_kernel_28, v_zf_kernel_28), (k_zf_kernel_29, v_zf_kernel_29), (k_zf_kernel_30, v_zf_kernel_30), (k_zf_kernel_31, v_zf_kernel_31), (k_zf_kernel_32, v_zf_kernel_32), (k_zf_kernel_33, v_zf_kernel_33), (k_zf_kernel_34, v_zf_kernel_34), (k_zf_kernel_35, v_zf_kernel_35), (k_zf_kernel_36, v_zf_kernel_36), (k_zf_kernel_37, v_zf_kernel_37), (k_zf_kernel_38, v_zf_kernel_38), (k_zf_kernel_39, v_zf_kernel_39), (k_zf_kernel_40, v_zf_kernel_40), (k_zf_kernel_41, v_zf_kernel_41), (k_zf_kernel_42, v_zf_kernel_42), (k_zf_kernel_43, v_zf_kernel_43), (k_zf_kernel_44, v_zf_kernel_44), (k_zf_kernel_45, v_zf_kernel_45), (k_zf_kernel_46, v_zf_kernel_46), (k_zf_kernel_47, v_zf_kernel_47), (k_zf_kernel_48, v_zf_kernel_48), (k_zf_kernel_49, v_zf_kernel_49), (k_zf_kernel_50, v_zf_kernel_50), (k_zf_kernel_51, v_zf_kernel_51), (k_zf_kernel_52, v_zf_kernel_52), (k_zf_kernel_53, v_zf_kernel_53), (k_zf_kernel_54, v_zf_kernel_54), (k_zf_kernel_55, v_zf_kernel_55), (k_zf_kernel_56, v_zf_kernel_56), (k_zf_kernel_57, v_zf_kernel_57), (k_zf_kernel_58, v_zf_kernel_58), (k_zf_kernel_59, v_zf_kernel_59), (k_zf_kernel_60, v_zf_kernel_60), (k_zf_kernel_61, v_zf_kernel_61), (k_zf_kernel_62, v_zf_kernel_62), (k_zf_kernel_63, v_zf_kernel_63), (k_zf_kernel_64, v_zf_kernel_64), (k_zf_kernel_65, v_zf_kernel_65), (k_zf_kernel_66, v_zf_kernel_66), (k_zf_kernel_67, v_zf_kernel_67), (k_zf_kernel_68, v_zf_kernel_68), (k_zf_kernel_69, v_zf_kernel_69), (k_zf_kernel_70, v_zf_kernel_70), (k_zf_kernel_71, v_zf_kernel_71), (k_zf_kernel_72, v_zf_kernel_72), (k_zf_kernel_73, v_zf_kernel_73), (k_zf_kernel_74, v_zf_kernel_74)]
def T102 (φ : Nat) : FTab := setT (T101 φ) 101 (.iso (tabM B_zf_kernel (R_zf_kernel φ)))
def TD102 (φ : Nat) : FTab := TD101 φ
def R_fp_at (φ : Nat) : List D → Option D :=
fun as =>
(fun (s : LS) =>
 u1 as fun a1 r7 =>
 u1 r7 fun a2 r8 =>
 u0 r8 (
 kLen a1 s fun x3 s =>
 kLss a2 x3 fun x4 =>
 kCond x4
(kIaddr 1 s a1 a2 fun x5 s =>
 kLoad1 s x5 fun x6 s =>
 retK false s x6 some)
(retK false s (.i .i64 (.ofNat 0)) some))) s0
def T103 (φ : Nat) : FTab := setT (T102 φ) 102 (.iso (R_fp_at φ))
def TD103 (φ : Nat) : FTab := TD102 φ
def R_fp_Sub (φ : Nat) : List D → Option D :=
fun as =>
(fun (s : LS) =>
 u1 as fun a1 r25 =>
 u1 r25 fun a2 r26 =>
 u1 r26 fun a3 r27 =>
 u0 r27 (
 kLen a2 s fun x4 s =>
 kLen a3 s fun x5 s =>
 kS (.max (.c x4) (.c x5)) s fun x6 s =>
 kMksl 1 8 [(.i .i64 (.ofNat 0))] s x6 x6 fun x7 s =>
 kLen x7 s fun x8 s =>
 lp (fun (_ _ _ _ _ _ : D) (_ : LS) => none) (fun (q9 : D → D → D → D → D → D → LS → Rs) (x10 x11 x12 x13 x14 x15 : D) (s : LS) =>
 kLss x15 x14 fun x16 =>
 kCond x16
(isoK (R_fp_at φ) [x11, x15] s fun x17 s =>
 kAdd x17 x10 fun x18 =>
 isoK (R_fp_at φ) [x12, x15] s fun x19 s =>
 kSub x18 x19 fun x20 =>
 kRem x20 x10 fun x21 =>
 kIaddr 1 s x13 x15 fun x22 s =>
 kStore 1 s x22 x21 fun _ s =>
 kAdd x15 (.i .i64 (.ofNat 1)) fun x23 =>
 q9 x10 x11 x12 x13 x14 x23 s)
(isoK (R_fp_Trim φ) [x13] s fun x24 s =>
 retK false s x24 some)) φ a1 a2 a3 x7 x8 (.i .i64 (.ofNat 0)) s)) s0
def T104 (φ : Nat) : FTab := setT (T103 φ) 103 (.iso (R_fp_Sub φ))
def TD104 (φ : Nat) : FTab := TD103 φ
def R_zf_berlekamp (φ : Nat) : List D → Option D :=
fun as =>
(fun (s : LS) =>
 u1 as fun a1 r95 =>
 u1 r95 fun a2 r96 =>
 u0 r96 (
 isoK (tabM B_zf_kernel (R_zf_kernel φ)) [a1, a2] s fun x3 s =>
 kBsl 1 [(.tree [] 0 true)] [(0, 1, a2)] s fun x4 s =>
 kLen x3 s fun x5 s =>
 lp (fun (_ _ _ _ _ _ : D) (_ : LS) => none) (fun (q6 : D → D → D → D → D → D → LS → Rs) (x7 x8 x9 x10 x11 x12 : D) (s : LS) =>
 kLss x12 x11 fun x13 =>
 kCond x13
(jn (fun (x15 x16 x17 x18 x19 x20 : D) (s : LS) =>
 kAdd x20 (.i .i64 (.ofNat 1)) fun x21 =>
 q6 x15 x16 x17 x18 x19 x21 s) fun j14 =>
 kIaddr 1 s x10 x12 fun x22 s =>
 kLoad1 s x22 fun x23 s =>
 kLen x23 s fun x24 s =>
 kLss x24 (.i .i64 (.ofNat 2)) fun x25 =>
 kCond x25
(j14 x7 x8 x9 x10 x11 x12 s)
(lp (fun (_ _ _ _ _ _ _ _ : D) (_ : LS) => none) (fun (q26 : D → D → D → D → D → D → D → D → LS → Rs) (x27 x28 x29 x30 x31 x32 x33 x34 : D) (s : LS) =>
 kLss x31 x27 fun x35 =>
 kGuard x35 true (fun k => k x29 s) s fun x36 s =>
 kGuard x35 true (fun k => kLen x36 s k) s fun x37 s =>
 kGuard x35 true (fun k => k x28 s) s fun x38 s =>
 kGuard x35 true (fun k => kLen x38 s k) s fun x39 s =>
 kGuard x35 true (fun k => kLss x37 x39 fun d => k d s) s fun x40 s =>
 kPick x35 x40 (.b false) s fun x41 s =>
 kCond x41
(kBsl 1 [(.i .i64 (.ofNat 0))] [(0, 1, x31)] s fun x42 s =>
 isoK (R_fp_Trim φ) [x42] s fun x43 s =>
 isoK (R_fp_Sub φ) [x27, x30, x43] s fun x44 s =>
 kLen x29 s fun x45 s =>
 lp (fun (_ _ _ _ _ _ _ _ _ _ _ : D) (_ : LS) => none) (fun (q46 : D → D → D → D → D → D → D → D → D → D → D → LS → Rs) (x47 x48 x49 x50 x51 x52 x53 x54 x55 x56 x57 : D) (s : LS) =>
 kLss x57 x56 fun x58 =>
 kCond x58
(jn (fun (x60 x61 x62 x63 x64 x65 x66 x67 x68 x69 x70 : D) (s : LS) =>
 kAdd x70 (.i .i64 (.ofNat 1)) fun x71 =>
 q46 x60 x61 x62 x63 x64 x65 x66 x67 x68 x69 x71 s) fun j59 =>
 kIaddr 1 s x49 x57 fun x72 s =>
 kLoad1 s x72 fun x73 s =>
 isoK (R_fp_Gcd φ) [x47, x73, x52] s fun x74 s =>
 kLen x74 s fun x75 s =>
 kGtr x75 (.i .i64 (.ofNat 1)) fun x76 =>
 kGuard x76 true (fun k => k x74 s) s fun x77 s =>
 kGuard x76 true (fun k => kLen x77 s k) s fun x78 s =>
 kGuard x76 true (fun k => k x49 s) s fun x79 s =>
 kGuard x76 true (fun k => k x57 s) s fun x80 s =>
 kGuard x76 true (fun k => kIaddr 1 s x79 x80 k) s fun x81 s =>
 kGuard x76 true (fun k => kLoad1 s x81 k) s fun x82 s =>
 kGuard x76 true (fun k => kLen x82 s k) s fun x83 s =>
 kGuard x76 true (fun k => kLss x78 x83 fun d => k d s) s fun x84 s =>
 kPick x76 x84 (.b false) s fun x85 s =>
 kCond x85
(kIaddr 1 s x49 x57 fun x86 s =>
 kLoad1 s x86 fun x87 s =>
 isoK (fpDivModM φ) [x47, x87, x74] s fun x88 s =>
 kExt x88 0 s fun x89 s =>
 kExt x88 1 s fun x90 s =>
 kIaddr 1 s x49 x57 fun x91 s =>
 kStore 1 s x91 x74 fun _ s =>
 kBsl 1 [(.tree [] 0 true)] [(0, 1, x89)] s fun x92 s =>
 kApp 1 24 s x49 x92 fun x93 s =>
 j59 x47 x48 x93 x50 x51 x52 x53 x54 x55 x56 x57 s)
(j59 x47 x48 x49 x50 x51 x52 x53 x54 x55 x56 x57 s))
(kAdd x51 (.i .i64 (.ofNat 1)) fun x94 =>
 q26 x47 x48 x49 x50 x94 x53 x54 x55 s)) φ x27 x28 x29 x30 x31 x44 x32 x33 x34 x45 (.i .i64 (.ofNat 0)) s)
(j14 x27 x28 x29 x32 x33 x34 s)) φ x7 x8 x9 x23 (.i .i64 (.ofNat 0)) x10 x11 x12 s))
(retK false s x9 some)) φ a1 x3 x4 x3 x5 (.i .i64 (.ofNat 0)) s)) s0
def T105 (φ : Nat) : FTab := setT (T104 φ) 104 (.iso (R_zf_berlekamp φ))
def TD105 (φ : Nat) : FTab := TD104 φ
def R_zf_modular (φ : Nat) : List D → Option D :=
fun as =>
(fun (s : LS) =>
 u1 as fun a1 r47 =>
 u0 r47 (
 kLen a1 s fun x2 s =>
 lp (fun (_ _ _ _ _ : D) (_ : LS) => none) (fun (q3 : D → D → D → D → D → LS → Rs) (x4 x5 x6 x7 x8 : D) (s : LS) =>
 kLss x7 (.i .i64 (.ofNat 5)) fun x9 =>
 kGuard x9 true (fun k => k x6 s) s fun x10 s =>
 kGuard x9 true (fun k => kGtr x10 (.i .i64 (.ofNat 1)) fun d => k d s) s fun x11 s =>
 kPick x9 x11 (.b false) s fun x12 s =>
 kGuard x12 true (fun k => k x8 s) s fun x13 s =>
 kGuard x12 true (fun k => kLeq x13 (.i .i64 (.ofNat 65521)) fun d => k d s) s fun x14 s =>
 kPick x12 x14 (.b false) s fun x15 s =>
 kCond x15
(jn (fun (x17 x18 x19 x20 x21 : D) (s : LS) =>
 kAdd x21 (.i .i64 (.ofNat 1)) fun x22 =>
 q3 x17 x18 x19 x20 x22 s) fun j16 =>
 isoK (R_zf_prime φ) [x8] s fun x23 s =>
 kNot x23 s fun x24 s =>
 kCond x24
(j16 x4 x5 x6 x7 x8 s)
(isoK (R_zf_modulo φ) [x4, x8] s fun x25 s =>
 kLen x25 s fun x26 s =>
 kLen x4 s fun x27 s =>
 kNeq x26 x27 fun x28 =>
 kGuard x28 false (fun k => k x8 s) s fun x29 s =>
 kGuard x28 false (fun k => k x25 s) s fun x30 s =>
 kGuard x28 false (fun k => k x8 s) s fun x31 s =>
 kGuard x28 false (fun k => k x25 s) s fun x32 s =>
 kGuard x28 false (fun k => isoK (R_fp_Derivative φ) [x31, x32] s k) s fun x33 s =>
 kGuard x28 false (fun k => isoK (R_fp_Gcd φ) [x29, x30, x33] s k) s fun x34 s =>
 kGuard x28 false (fun k => kLen x34 s k) s fun x35 s =>
 kGuard x28 false (fun k => kNeq x35 (.i .i64 (.ofNat 1)) fun d => k d s) s fun x36 s =>
 kPick x28 (.b true) x36 s fun x37 s =>
 kCond x37
(j16 x4 x5 x6 x7 x8 s)
(kAdd x7 (.i .i64 (.ofNat 1)) fun x38 =>
 isoK (R_fp_Monic φ) [x8, x25] s fun x39 s =>
 isoK (tabM B_zf_kernel (R_zf_kernel φ)) [x8, x39] s fun x40 s =>
 kLen x40 s fun x41 s =>
 kLss x41 x6 fun x42 =>
 kCond x42
(j16 x4 x8 x41 x38 x8 s)
(j16 x4 x5 x6 x38 x8 s))))
(kEql x5 (.i .i64 (.ofNat 0)) fun x43 =>
 kCond x43
(retK false s (.tup [(.i .i64 (.ofNat 0)), (.tree [] 0 true)]) some)
(isoK (R_zf_modulo φ) [x4, x5] s fun x44 s =>
 isoK (R_fp_Monic φ) [x5, x44] s fun x45 s =>
 isoK (R_zf_berlekamp φ) [x5, x45] s fun x46 s =>
 retK false s (.tup [x5, x46]) some))) φ a1 (.i .i64 (.ofNat 0)) x2 (.i .i64 (.ofNat 0)) (.i .i64 (.ofNat 2)) s)) s0
def T106 (φ : Nat) : FTab := setT (T105 φ) 105 (.iso (R_zf_modular φ))
def TD106 (φ : Nat) : FTab := TD105 φ
def R_exact_NatTwo (φ : Nat) : List D → Option D :=
fun as =>
(fun (s : LS) =>
 u1 as fun a1 r9 =>
 u0 r9 (
 kQuo a1 (.i .i64 (.ofNat 8)) fun x2 =>
 kAdd x2 (.i .i64 (.ofNat 1)) fun x3 =>
 kMksl 1 1 [(.i .u8 (.ofNat 0))] s x3 x3 fun x4 s =>
 kRem a1 (.i .i64 (.ofNat 8)) fun x5 =>
 kShl (.i .u8 (.ofNat 1)) x5 fun x6 =>
 kIaddr 1 s x4 (.i .i64 (.ofNat 0)) fun x7 s =>
 kStore 1 s x7 x6 fun _ s =>
 kS (.b2s (.c x4)) s fun x8 s =>
 retK false s x8 some)) s0
def T107 (φ : Nat) : FTab := setT (T106 φ) 106 (.iso (R_exact_NatTwo φ))
def TD107 (φ : Nat) : FTab := TD106 φ
def R_zf_Bound (φ : Nat) : List D → Option D :=
fun as =>
(fun (s : LS) =>
 u1 as fun a1 r30 =>
 u0 r30 (
 kAlloc [(.b false), (.n 0)] s fun x2 s =>
 kAlloc [(.b false), (.n 0)] s fun x3 s =>
 kLen a1 s fun x4 s =>
 lp (fun (_ _ _ _ _ _ : D) (_ : LS) => none) (fun (q5 : D → D → D → D → D → D → LS → Rs) (x6 x7 x8 x9 x10 x11 : D) (s : LS) =>
 kLss x11 x10 fun x12 =>
 kCond x12
(kIaddr 2 s x9 x11 fun x13 s =>
 kLoadn 2 s x13 fun x14 s =>
 kAlloc [(.b false), (.n 0)] s fun x15 s =>
 kStore 2 s x15 x14 fun _ s =>
 kLoadn 2 s x8 fun x16 s =>
 kFaddr 1 s x15 fun x17 s =>
 kLoad1 s x17 fun x18 s =>
 kBuild [(.b false), (.n 0)] [(1, 1, x18)] s fun x19 s =>
 isoK intAddM [x16, x19] s fun x20 s =>
 kStore 2 s x8 x20 fun _ s =>
 kAdd x11 (.i .i64 (.ofNat 1)) fun x21 =>
 q5 x6 x7 x8 x9 x10 x21 s)
(kLoadn 2 s x8 fun x22 s =>
 kLen x6 s fun x23 s =>
 kSub x23 (.i .i64 (.ofNat 1)) fun x24 =>
 kS (.max (.c x24) (.c (.i .i64 (.ofNat 0)))) s fun x25 s =>
 isoK (R_exact_NatTwo φ) [x25] s fun x26 s =>
 kBuild [(.b false), (.n 0)] [(1, 1, x26)] s fun x27 s =>
 isoK intMulM [x22, x27] s fun x28 s =>
 kStore 2 s x7 x28 fun _ s =>
 kLoadn 2 s x7 fun x29 _ =>
 retK false s x29 some)) φ a1 x2 x3 a1 x4 (.i .i64 (.ofNat 0)) s)) s0
def T108 (φ : Nat) : FTab := setT (T107 φ) 107 (.iso (R_zf_Bound φ))
def TD108 (φ : Nat) : FTab := TD107 φ
def R_zf_Lead (φ : Nat) : List D → Option D :=
fun as =>
(fun (s : LS) =>
 u1 as fun a1 r8 =>
 u0 r8 (
 kAlloc [(.b false), (.n 0)] s fun x2 s =>
 kLen a1 s fun x3 s =>
 kSub x3 (.i .i64 (.ofNat 1)) fun x4 =>
 kIaddr 2 s a1 x4 fun x5 s =>
 kLoadn 2 s x5 fun x6 s =>
 kStore 2 s x2 x6 fun _ s =>
 kLoadn 2 s x2 fun x7 _ =>
 retK false s x7 some)) s0
def T109 (φ : Nat) : FTab := setT (T108 φ) 108 (.iso (R_zf_Lead φ))
def TD109 (φ : Nat) : FTab := TD108 φ
def R_zf_trim (φ : Nat) : List D → LS → (D → LS → Rs) → Rs :=
fun as s k =>
 u1 as fun a1 r17 =>
 u0 r17 (
 kLen a1 s fun x2 s =>
 lp (fun (_ _ : D) (_ : LS) => none) (fun (q3 : D → D → LS → Rs) (x4 x5 : D) (s : LS) =>
 kGtr x5 (.i .i64 (.ofNat 0)) fun x6 =>
 kGuard x6 true (fun k => k x4 s) s fun x7 s =>
 kGuard x6 true (fun k => k x5 s) s fun x8 s =>
 kGuard x6 true (fun k => kSub x8 (.i .i64 (.ofNat 1)) fun d => k d s) s fun x9 s =>
 kGuard x6 true (fun k => kIaddr 2 s x7 x9 k) s fun x10 s =>
 kGuard x6 true (fun k => kFaddr 1 s x10 k) s fun x11 s =>
 kGuard x6 true (fun k => kLoad1 s x11 k) s fun x12 s =>
 kGuard x6 true (fun k => kEql x12 (.n 0) fun d => k d s) s fun x13 s =>
 kPick x6 x13 (.b false) s fun x14 s =>
 kCond x14
(kSub x5 (.i .i64 (.ofNat 1)) fun x15 =>
 q3 x4 x15 s)
(kSlice 2 s x4 none (some x5) (some x5) fun x16 s =>
 k x16 s)) φ a1 x2 s)
def T110 (φ : Nat) : FTab := setT (T109 φ) 109 (.mem (R_zf_trim φ))
def TD110 (φ : Nat) : FTab := TD109 φ
def R_zf_ring_reduce (φ : Nat) : List D → Option D :=
fun as =>
(fun (s : LS) =>
 u1 as fun a1 r26 =>
 u1 r26 fun a2 r27 =>
 u0 r27 (
 kBox a1 s fun x3 s =>
 kLen a2 s fun x4 s =>
 kMksl 2 24 [(.b false), (.n 0)] s x4 x4 fun x5 s =>
 kLen a2 s fun x6 s =>
 lp (fun (_ _ _ _ _ : D) (_ : LS) => none) (fun (q7 : D → D → D → D → D → LS → Rs) (x8 x9 x10 x11 x12 : D) (s : LS) =>
 kLss x12 x11 fun x13 =>
 kCond x13
(kIaddr 2 s x10 x12 fun x14 s =>
 kLoadn 2 s x14 fun x15 s =>
 kAlloc [(.b false), (.n 0)] s fun x16 s =>
 kStore 2 s x16 x15 fun _ s =>
 kLoadn 2 s x16 fun x17 s =>
 kFaddr 0 s x8 fun x18 s =>
 kLoadn 2 s x18 fun x19 s =>
 isoK (intDivModM φ) [x17, x19] s fun x20 s =>
 kExt x20 0 s fun x21 s =>
 kExt x20 1 s fun x22 s =>
 kIaddr 2 s x9 x12 fun x23 s =>
 kStore 2 s x23 x22 fun _ s =>
 kAdd x12 (.i .i64 (.ofNat 1)) fun x24 =>
 q7 x8 x9 x10 x11 x24 s)
((R_zf_trim φ) [x9] s fun x25 s =>
 retK true s x25 some)) φ x3 x5 a2 x6 (.i .i64 (.ofNat 0)) s)) s0
def T111 (φ : Nat) : FTab := setT (T110 φ) 110 (.iso (R_zf_ring_reduce φ))
def TD111 (φ : Nat) : FTab := TD110 φ
def R_zf_Mul (φ : Nat) : List D → Option D :=
fun as =>
(fun (s : LS) =>
 u1 as fun a1 r62 =>
 u1 r62 fun a2 r63 =>
 u0 r63 (
 kLen a1 s fun x3 s =>
 kEql x3 (.i .i64 (.ofNat 0)) fun x4 =>
 kGuard x4 false (fun k => k a2 s) s fun x5 s =>
 kGuard x4 false (fun k => kLen x5 s k) s fun x6 s =>
 kGuard x4 false (fun k => kEql x6 (.i .i64 (.ofNat 0)) fun d => k d s) s fun x7 s =>
 kPick x4 (.b true) x7 s fun x8 s =>
 kCond x8
(retK false s (.tree [] 0 true) some)
(kLen a1 s fun x9 s =>
 kLen a2 s fun x10 s =>
 kAdd x9 x10 fun x11 =>
 kSub x11 (.i .i64 (.ofNat 1)) fun x12 =>
 kMksl 2 24 [(.b false), (.n 0)] s x12 x12 fun x13 s =>
 kLen a1 s fun x14 s =>
 lp (fun (_ _ _ _ _ : D) (_ : LS) => none) (fun (q15 : D → D → D → D → D → LS → Rs) (x16 x17 x18 x19 x20 : D) (s : LS) =>
 kLss x20 x19 fun x21 =>
 kCond x21
(jn (fun (x23 x24 x25 x26 x27 : D) (s : LS) =>
 kAdd x27 (.i .i64 (.ofNat 1)) fun x28 =>
 q15 x23 x24 x25 x26 x28 s) fun j22 =>
 kIaddr 2 s x18 x20 fun x29 s =>
 kLoadn 2 s x29 fun x30 s =>
 kAlloc [(.b false), (.n 0)] s fun x31 s =>
 kStore 2 s x31 x30 fun _ s =>
 kFaddr 1 s x31 fun x32 s =>
 kLoad1 s x32 fun x33 s =>
 kEql x33 (.n 0) fun x34 =>
 kCond x34
(j22 x16 x17 x18 x19 x20 s)
(kLen x16 s fun x35 s =>
 lp (fun (_ _ _ _ _ _ _ _ _ _ : D) (_ : LS) => none) (fun (q36 : D → D → D → D → D → D → D → D → D → D → LS → Rs) (x37 x38 x39 x40 x41 x42 x43 x44 x45 x46 : D) (s : LS) =>
 kLss x46 x45 fun x47 =>
 kCond x47
(kIaddr 2 s x44 x46 fun x48 s =>
 kLoadn 2 s x48 fun x49 s =>
 kAlloc [(.b false), (.n 0)] s fun x50 s =>
 kStore 2 s x50 x49 fun _ s =>
 kAdd x39 x46 fun x51 =>
 kAdd x39 x46 fun x52 =>
 kIaddr 2 s x38 x52 fun x53 s =>
 kLoadn 2 s x53 fun x54 s =>
 kLoadn 2 s x40 fun x55 s =>
 kLoadn 2 s x50 fun x56 s =>
 isoK intMulM [x55, x56] s fun x57 s =>
 isoK intAddM [x54, x57] s fun x58 s =>
 kIaddr 2 s x38 x51 fun x59 s =>
 kStore 2 s x59 x58 fun _ s =>
 kAdd x46 (.i .i64 (.ofNat 1)) fun x60 =>
 q36 x37 x38 x39 x40 x41 x42 x43 x44 x45 x60 s)
(j22 x37 x38 x41 x42 x43 s)) φ x16 x17 x20 x31 x18 x19 x20 x16 x35 (.i .i64 (.ofNat 0)) s))
((R_zf_trim φ) [x17] s fun x61 s =>
 retK false s x61 some)) φ a2 x13 a1 x14 (.i .i64 (.ofNat 0)) s))) s0
def T112 (φ : Nat) : FTab := setT (T111 φ) 111 (.iso (R_zf_Mul φ))
def TD112 (φ : Nat) : FTab := TD111 φ
def R_zf_ring_mul (φ : Nat) : List D → Option D :=
fun as =>
(fun (s : LS) =>
 u1 as fun a1 r8 =>
 u1 r8 fun a2 r9 =>
 u1 r9 fun a3 r10 =>
 u0 r10 (
 kBox a1 s fun x4 s =>
 kLoadn 2 s x4 fun x5 s =>
 isoK (R_zf_Mul φ) [a2, a3] s fun x6 s =>
 isoK (R_zf_ring_reduce φ) [x5, x6] s fun x7 s =>
 retK false s x7 some)) s0
def k_zf_ring_mul_0 : List D := [(.agg [(.b false), (.n 25)]), (zi [4,3,1,2,4,3,1,2,4,3,1,2,4,3,1,2,4,3,1,2,4,3,1] true), (zi [2,1] true)]
def v_zf_ring_mul_0 : D := (zi [8,10,5,5,10,10,5,5,10,10,5,5,10,10,5,5,10,10,5,5,10,10,5,1] false)
def k_zf_ring_mul_1 : List D := [(.agg [(.b false), (.n 25)]), (zi [3] true), (zi [15,15,20,20,15,15,20,20,15,15,20,20,15,15,20,20,15,15,20,20,15,15,20] false)]
def v_zf_ring_mul_1 : D := (zi [20,20,10,10,20,20,10,10,20,20,10,10,20,20,10,10,20,20,10,10,20,20,10] false)
def k_zf_ring_mul_2 : List D := [(.agg [(.b false), (.n 25)]), (zi [2,2,0,2,3,4,4,0,4,1,3,3,0,3,2,1,1,0,1,4,2,2] true), (zi [15,15,20,20,15,15,20,20,15,15,20,20,15,15,20,20,15,15,20,20,15,15,20] false)]
def v_zf_ring_mul_2 : D := (zi [5,10,20,10,20,5,15,10,15,10,5,0,15,0,15,5,20,0,20,0,5,10,20,15,0,0,10,10,20,0,5,15,10,15,5,5,20,20,10,5,0,15,20,15] false)
def k_zf_ring_mul_3 : List D := [(.agg [(.b false), (.n 25)]), (zi [0,10,0,5,20,0,5,15,15,15,10,0,10,5,15,10,5,20,20,20,0,10] false), (zi [4,3,1,2,4,3,1,2,4,3,1,2,4,3,1,2,4,3,1,2,4,3,1] true)]
def v_zf_ring_mul_3 : D := (zi [0,15,5,5,15,5,5,20,0,10,10,20,5,5,20,5,5,15,10,0,0,15,5,10,0,0,15,15,5,0,20,10,15,10,20,20,5,5,15,20,0,10,5,10] false)
def k_zf_ring_mul_4 : List D := [(.agg [(.b false), (.n 25)]), (zi [3] true), (zi [9,3,1,17,14,13,21,7,19,23,16,22,24,8,11,12,4,18,6,2,9,3,1] false)]
def v_zf_ring_mul_4 : D := (zi [2,9,3,1,17,14,13,21,7,19,23,16,22,24,8,11,12,4,18,6,2,9,3] false)
def k_zf_ring_mul_5 : List D := [(.agg [(.b false), (.n 25)]), (zi [2,2,0,2,3,4,4,0,4,1,3,3,0,3,2,1,1,0,1,4,2,2] true), (zi [22,1] false)]
def v_zf_ring_mul_5 : D := (zi [19,21,2,19,18,16,17,4,13,1,17,19,3,16,22,24,23,1,22,14,23,21,2] false)
def k_zf_ring_mul_6 : List D := [(.agg [(.b false), (.n 25)]), (zi [3] true), (zi [20,5,5,20,10,5,5,0,20,20,15,10,0,15,5,10,10,5,15,20,0,5,5] false)]
def v_zf_ring_mul_6 : D := (zi [10,15,15,10,5,15,15,0,10,10,20,5,0,20,15,5,5,15,20,10,0,15,15] false)
def k_zf_ring_mul_7 : List D := [(.agg [(.b false), (.n 25)]), (zi [2,2,0,2,3,4,4,0,4,1,3,3,0,3,2,1,1,0,1,4,2,2] true), (zi [20,5,5,20,10,5,5,0,20,20,15,10,0,15,5,10,10,5,15,20,0,5,5] false)]
def v_zf_ring_mul_7 : D := (zi [15,0,20,15,5,10,0,5,10,15,5,15,5,15,10,20,0,20,5,15,20,5,20,15,20,10,20,20,15,20,20,10,20,10,15,20,15,20,0,0,15,5,20,10] false)
def k_zf_ring_mul_8 : List D := [(.agg [(.b false), (.n 25)]), (zi [0,20,10,0,15,0,20,15,10,0,10,10,20,0,20,5,0,20,0,5,10,15] false), (zi [9,3,1,17,14,13,21,7,19,23,16,22,24,8,11,12,4,18,6,2,9,3,1] false)]
def v_zf_ring_mul_8 : D := (zi [0,5,0,0,10,20,20,0,15,5,0,15,10,20,20,10,20,20,15,0,15,15,5,10,5,15,5,5,10,5,5,15,5,15,10,5,10,5,0,0,10,20,5,15] false)
def k_zf_ring_mul_9 : List D := [(.agg [(.b false), (.n 625)]), (zi [9,3,1,17,14,13,21,7,19,23,16,22,24,8,11,12,4,18,6,2,9,3,1] false), (zi [22,1] false)]
def v_zf_ring_mul_9 : D := (zi [198,75,25,375,325,300,475,175,425,525,375,500,550,200,250,275,100,400,150,50,200,75,25,1] false)
def k_zf_ring_mul_10 : List D := [(.agg [(.b false), (.n 625)]), (zi [18] false), (zi [425,550,600,250,300,325,150,450,200,100,250,125,75,425,375,350,525,225,475,575,425,550,600] false)]
def v_zf_ring_mul_10 : D := (zi [150,525,175,125,400,225,200,600,475,550,125,375,100,150,500,50,75,300,425,350,150,525,175] false)
def k_zf_ring_mul_11 : List D := [(.agg [(.b false), (.n 625)]), (zi [12,22,5,12,13,24,9,20,4,6,23,23,10,18,22,21,6,10,6,14,17,7] false), (zi [425,550,600,250,300,325,150,450,200,100,250,125,75,425,375,350,525,225,475,575,425,550,600] false)]
def v_zf_ring_mul_11 : D := (zi [100,325,175,300,475,50,150,25,575,75,150,300,125,575,125,25,300,525,0,575,200,50,50,425,150,450,200,525,25,75,50,250,100,25,450,425,425,250,600,225,50,100,300,450] false)
def k_zf_ring_mul_12 : List D := [(.agg [(.b false), (.n 625)]), (zi [600,25,575,150,125,175,200,75,75,50,600,75,200,225,325,300,75,550,250,175,425,175] false), (zi [9,3,1,17,14,13,21,7,19,23,16,22,24,8,11,12,4,18,6,2,9,3,1] false)]
def v_zf_ring_mul_12 : D := (zi [400,150,225,175,350,25,350,375,175,300,500,425,275,450,575,600,250,450,525,500,450,475,575,200,475,175,425,100,600,550,575,375,525,600,175,200,200,375,25,400,575,525,325,175] false)
def k_zf_ring_mul_13 : List D := [(.agg [(.b false), (.n 625)]), (zi [18] false), (zi [509,478,401,492,214,88,521,407,144,398,41,122,424,408,86,12,554,368,531,452,34,528,1] false)]
def v_zf_ring_mul_13 : D := (zi [412,479,343,106,102,334,3,451,92,289,113,321,132,469,298,216,597,374,183,11,612,129,18] false)
def k_zf_ring_mul_14 : List D := [(.agg [(.b false), (.n 625)]), (zi [12,22,5,12,13,24,9,20,4,6,23,23,10,18,22,21,6,10,6,14,17,7] false), (zi [97,1] false)]
def v_zf_ring_mul_14 : D := (zi [539,271,507,544,23,466,272,74,408,586,362,379,368,506,277,184,603,351,592,114,413,71,7] false)
def k_zf_ring_mul_15 : List D := [(.agg [(.b false), (.n 625)]), (zi [18] false), (zi [325,125,225,25,125,175,275,525,500,250,475,75,500,350,575,400,575,100,150,125,400,200,25] false)]
def v_zf_ring_mul_15 : D := (zi [225,375,300,450,375,25,575,75,250,125,425,100,250,50,350,325,350,550,200,375,325,475,450] false)
def k_zf_ring_mul_16 : List D := [(.agg [(.b false), (.n 625)]), (zi [12,22,5,12,13,24,9,20,4,6,23,23,10,18,22,21,6,10,6,14,17,7] false), (zi [325,125,225,25,125,175,275,525,500,250,475,75,500,350,575,400,575,100,150,125,400,200,25] false)]
def v_zf_ring_mul_16 : D := (zi [150,525,200,400,150,225,50,575,325,500,400,400,50,425,550,600,200,150,500,375,425,325,75,200,500,0,450,50,50,450,425,275,400,50,325,600,150,550,175,225,0,300,575,175] false)
def k_zf_ring_mul_17 : List D := [(.agg [(.b false), (.n 625)]), (zi [525,50,125,100,325,100,50,200,400,300,375,300,225,475,250,600,500,400,275,175,575,450] false), (zi [509,478,401,492,214,88,521,407,144,398,41,122,424,408,86,12,554,368,531,452,34,528,1] false)]
def v_zf_ring_mul_17 : D := (zi [350,150,550,250,300,375,575,325,375,325,150,250,25,325,275,75,150,525,150,375,300,400,550,425,125,0,175,575,575,175,200,350,225,575,300,25,475,75,450,400,0,325,50,450] false)
def k_zf_ring_mul_18 : List D := [(.agg [(.b false), (.n 390625)]), (zi [509,478,401,492,214,88,521,407,144,398,41,122,424,408,86,12,554,368,531,452,34,528,1] false), (zi [97,1] false)]
def v_zf_ring_mul_18 : D := (zi [49373,46875,39375,48125,21250,8750,50625,40000,14375,38750,4375,11875,41250,40000,8750,1250,53750,36250,51875,44375,3750,51250,625,1] false)
def k_zf_ring_mul_19 : List D := [(.agg [(.b false), (.n 390625)]), (zi [93] false), (zi [341250,343750,351250,342500,369375,381875,340000,350625,376250,351875,386250,378750,349375,350625,381875,389375,336875,354375,338750,346250,386875,339375,390000] false)]
def v_zf_ring_mul_19 : D := (zi [95625,328125,244375,211875,367500,358125,370000,186250,225625,302500,374375,67500,70000,186250,358125,274375,79375,144375,253750,170000,41875,311875,332500] false)
def k_zf_ring_mul_20 : List D := [(.agg [(.b false), (.n 390625)]), (zi [137,597,505,612,188,49,9,370,554,431,98,623,560,518,447,596,281,585,606,514,542,532] false), (zi [341250,343750,351250,342500,369375,381875,340000,350625,376250,351875,386250,378750,349375,350625,381875,389375,336875,354375,338750,346250,386875,339375,390000] false)]
def v_zf_ring_mul_20 : D := (zi [266875,38750,280625,385625,347500,310625,13125,18125,28125,67500,196875,154375,378125,387500,13125,86875,216875,329375,48125,344375,321875,173750,348125,165625,23125,108750,360625,203125,359375,241875,131875,313750,23750,361250,348750,226250,186875,375625,95000,156875,373125,375000,130625,58125] false)
def k_zf_ring_mul_21 : List D := [(.agg [(.b false), (.n 390625)]), (zi [383125,325625,365625,66875,248750,93750,6875,247500,293750,116875,91250,185000,361250,6250,96250,175000,313125,368750,361250,235625,90625,332500] false), (zi [509,478,401,492,214,88,521,407,144,398,41,122,424,408,86,12,554,368,531,452,34,528,1] false)]
def v_zf_ring_mul_21 : D := (zi [88750,48750,72500,146875,126250,161875,360625,373750,106875,165625,121250,23125,113125,135625,109375,309375,30625,370625,270625,330625,389375,174375,42500,225000,367500,281875,30000,187500,31250,148750,258750,76875,366875,29375,41875,164375,203750,15000,295625,233750,17500,15625,260000,332500] false)
def k_zf_ring_mul_22 : List D := [(.agg [(.b false), (.n 390625)]), (zi [93] false), (zi [356134,87978,353526,142367,83339,81963,374271,1657,135144,233523,318166,177622,101049,132908,122586,5637,248054,309743,319281,284827,320659,348653,1] false)]
def v_zf_ring_mul_22 : D := (zi [307962,369454,65418,349506,328652,200684,41578,154101,68392,233264,292563,112596,22557,251069,72373,133616,22147,290474,5633,317036,133787,2854,93] false)
def k_zf_ring_mul_23 : List D := [(.agg [(.b false), (.n 390625)]), (zi [137,597,505,612,188,49,9,370,554,431,98,623,560,518,447,596,281,585,606,514,542,532] false), (zi [41972,1] false)]
def v_zf_ring_mul_23 : D := (zi [281414,57421,102707,296744,78848,103691,377797,295274,205983,121736,207437,367404,67443,257681,12002,15759,75978,335151,44992,89839,93088,64021,532] false)
def k_zf_ring_mul_24 : List D := [(.agg [(.b false), (.n 390625)]), (zi [93] false), (zi [198750,36250,168125,255625,16875,304375,28750,58750,274375,355000,109375,89375,90000,118125,84375,149375,98125,235000,50625,16250,226875,66875,625] false)]
def v_zf_ring_mul_24 : D := (zi [124375,246250,10625,335625,6875,181875,330000,385625,126250,202500,15625,108750,166875,48125,34375,220000,141250,370625,20625,339375,5625,360000,58125] false)
def k_zf_ring_mul_25 : List D := [(.agg [(.b false), (.n 390625)]), (zi [137,597,505,612,188,49,9,370,554,431,98,623,560,518,447,596,281,585,606,514,542,532] false), (zi [198750,36250,168125,255625,16875,304375,28750,58750,274375,355000,109375,89375,90000,118125,84375,149375,98125,235000,50625,16250,226875,66875,625] false)]
def v_zf_ring_mul_25 : D := (zi [275625,182500,121250,332500,154375,310625,240625,268125,128125,110000,197500,122500,12500,325000,275625,123125,236875,305000,13750,382500,200000,330000,301250,358750,188750,371250,359375,362500,75625,329375,381875,323750,123125,310000,28125,342500,249375,140000,95000,276875,348125,233750,369375,332500] false)
def k_zf_ring_mul_26 : List D := [(.agg [(.b false), (.n 390625)]), (zi [56250,82500,128125,316250,25000,114375,6250,128750,245625,233125,275625,86875,343125,77500,233125,20000,1250,330000,25000,265000,190625,58125] false), (zi [356134,87978,353526,142367,83339,81963,374271,1657,135144,233523,318166,177622,101049,132908,122586,5637,248054,309743,319281,284827,320659,348653,1] false)]
def v_zf_ring_mul_26 : D := (zi [115625,130000,253750,160000,320000,203750,348125,30000,236250,270625,378125,22500,298750,245000,153750,90625,67500,383125,269375,120625,188125,315000,89375,31875,201875,19375,31250,28125,315000,61250,8750,66875,267500,80625,362500,48125,141250,250625,295625,113750,42500,156875,21250,58125] false)
def k_zf_ring_mul_27 : List D := [(.agg [(.b false), (.n 152587890625)]), (zi [356134,87978,353526,142367,83339,81963,374271,1657,135144,233523,318166,177622,101049,132908,122586,5637,248054,309743,319281,284827,320659,348653,1] false), (zi [41972,1] false)]
def v_zf_ring_mul_27 : D := (zi [14947656248,3692968750,14838281250,5975781250,3498046875,3440234375,15708984375,69921875,5672265625,9801562500,13354296875,7455468750,4241406250,5578515625,5145312500,236718750,10411328125,13000781250,13401171875,11955078125,13458984375,14633984375,390625,1] false)
def k_zf_ring_mul_28 : List D := [(.agg [(.b false), (.n 152587890625)]), (zi [253843] false), (zi [137640234375,148894921875,137749609375,146612109375,149089843750,149147656250,136878906250,152517968750,146915625000,142786328125,139233593750,145132421875,148346484375,147009375000,147442578125,152351171875,142176562500,139587109375,139186718750,140632812500,139128906250,137953906250,152587500000] false)]
def v_zf_ring_mul_28 : D := (zi [45170703125,65733593750,38252734375,118568750000,106810546875,133671484375,116212890625,103604687500,107000781250,40114843750,150384375000,29053515625,8869531250,101071093750,50782812500,30231250000,132088281250,13583593750,761328125,107660156250,126488281250,17701562500,53430468750] false)
def k_zf_ring_mul_29 : List D := [(.agg [(.b false), (.n 25)]), (zi [4,2,1,3,4,2,1,3,4,2,1,3,4,2,1,3,4,2,1,3,4,2,1] true), (zi [3,1] true)]
def v_zf_ring_mul_29 : D := (zi [12,10,5,10,15,10,5,10,15,10,5,10,15,10,5,10,15,10,5,10,15,10,5,1] false)
def k_zf_ring_mul_30 : List D := [(.agg [(.b false), (.n 25)]), (zi [3] true), (zi [10,15,20,15,10,15,20,15,10,15,20,15,10,15,20,15,10,15,20,15,10,15,20] false)]
def v_zf_ring_mul_30 : D := (zi [5,20,10,20,5,20,10,20,5,20,10,20,5,20,10,20,5,20,10,20,5,20,10] false)
def k_zf_ring_mul_31 : List D := [(.agg [(.b false), (.n 25)]), (zi [3,2,0,2,2,4,1,0,1,1,2,3,0,3,3,1,4,0,4,4,3,2] true), (zi [10,15,20,15,10,15,20,15,10,15,20,15,10,15,20,15,10,15,20,15,10,15,20] false)]
def v_zf_ring_mul_31 : D := (zi [5,15,15,5,10,0,5,5,0,15,10,0,0,10,5,15,10,10,15,0,5,15,15,15,0,0,20,0,15,0,10,15,20,20,10,10,15,10,20,10,0,20,15,15] false)
def k_zf_ring_mul_32 : List D := [(.agg [(.b false), (.n 25)]), (zi [15,10,0,15,5,5,10,20,20,0,20,0,10,20,5,5,0,15,15,10,15,10] false), (zi [4,2,1,3,4,2,1,3,4,2,1,3,4,2,1,3,4,2,1,3,4,2,1] true)]
def v_zf_ring_mul_32 : D := (zi [10,20,10,15,15,15,10,10,10,5,20,10,20,15,15,15,20,20,20,0,10,20,10,10,0,0,5,0,10,0,15,10,5,5,15,15,10,15,5,15,0,5,10,10] false)
def k_zf_ring_mul_33 : List D := [(.agg [(.b false), (.n 25)]), (zi [3] true), (zi [19,12,1,23,4,17,16,18,14,22,6,13,24,2,21,8,9,7,11,3,19,12,1] false)]
def v_zf_ring_mul_33 : D := (zi [7,11,3,19,12,1,23,4,17,16,18,14,22,6,13,24,2,21,8,9,7,11,3] false)
def k_zf_ring_mul_34 : List D := [(.agg [(.b false), (.n 25)]), (zi [3,2,0,2,2,4,1,0,1,1,2,3,0,3,3,1,4,0,4,4,3,2] true), (zi [13,1] false)]
def v_zf_ring_mul_34 : D := (zi [14,4,2,1,3,4,17,1,13,14,2,16,3,14,17,16,3,4,2,6,18,4,2] false)
def k_zf_ring_mul_35 : List D := [(.agg [(.b false), (.n 25)]), (zi [3] true), (zi [20,15,5,20,15,5,15,5,5,5,20,5,0,20,5,15,5,0,10,15,0,15,5] false)]
def v_zf_ring_mul_35 : D := (zi [10,20,15,10,20,15,20,15,15,15,10,15,0,10,15,20,15,0,5,20,0,20,15] false)
def k_zf_ring_mul_36 : List D := [(.agg [(.b false), (.n 25)]), (zi [3,2,0,2,2,4,1,0,1,1,2,3,0,3,3,1,4,0,4,4,3,2] true), (zi [20,15,5,20,15,5,15,5,5,5,20,5,0,20,5,15,5,0,10,15,0,15,5] false)]
def v_zf_ring_mul_36 : D := (zi [10,10,20,10,5,15,10,0,20,5,5,5,5,20,20,5,0,0,5,15,5,15,20,15,5,10,0,5,20,20,5,15,10,10,10,20,15,0,10,0,10,15,20,10] false)
def k_zf_ring_mul_37 : List D := [(.agg [(.b false), (.n 25)]), (zi [10,20,15,15,10,10,20,15,0,5,10,10,5,10,10,20,15,20,20,0,0,15] false), (zi [19,12,1,23,4,17,16,18,14,22,6,13,24,2,21,8,9,7,11,3,19,12,1] false)]
def v_zf_ring_mul_37 : D := (zi [15,0,10,15,10,20,15,5,15,15,10,20,5,5,5,20,20,15,0,0,0,10,5,10,20,15,0,20,5,5,20,10,15,15,15,5,10,0,15,0,15,10,5,15] false)
def k_zf_ring_mul_38 : List D := [(.agg [(.b false), (.n 625)]), (zi [19,12,1,23,4,17,16,18,14,22,6,13,24,2,21,8,9,7,11,3,19,12,1] false), (zi [13,1] false)]
def v_zf_ring_mul_38 : D := (zi [247,175,25,300,75,225,225,250,200,300,100,175,325,50,275,125,125,100,150,50,250,175,25,1] false)
def k_zf_ring_mul_39 : List D := [(.agg [(.b false), (.n 625)]), (zi [23] false), (zi [375,450,600,325,550,400,400,375,425,325,525,450,300,575,350,500,500,525,475,575,375,450,600] false)]
def v_zf_ring_mul_39 : D := (zi [500,350,50,600,150,450,450,500,400,600,200,350,25,100,550,250,250,200,300,100,500,350,50] false)
def k_zf_ring_mul_40 : List D := [(.agg [(.b false), (.n 625)]), (zi [3,17,20,2,12,19,1,20,16,6,12,3,15,3,3,1,9,10,24,14,23,2] false), (zi [375,450,600,325,550,400,400,375,425,325,525,450,300,575,350,500,500,525,475,575,375,450,600] false)]
def v_zf_ring_mul_40 : D := (zi [500,225,75,300,200,150,150,275,450,400,100,200,250,500,350,125,350,425,425,225,200,525,75,500,50,100,125,375,575,25,600,275,350,450,400,250,125,50,175,600,475,125,325,575] false)
def k_zf_ring_mul_41 : List D := [(.agg [(.b false), (.n 625)]), (zi [300,100,525,150,0,275,350,300,200,175,50,600,100,0,475,175,150,100,400,25,325,50] false), (zi [19,12,1,23,4,17,16,18,14,22,6,13,24,2,21,8,9,7,11,3,19,12,1] false)]
def v_zf_ring_mul_41 : D := (zi [75,500,225,525,200,450,125,450,400,25,275,225,200,225,450,550,500,275,175,125,300,350,550,125,575,525,500,250,50,600,25,350,275,175,225,375,500,575,450,25,150,500,300,50] false)
def k_zf_ring_mul_42 : List D := [(.agg [(.b false), (.n 625)]), (zi [23] false), (zi [594,112,301,223,404,617,291,118,239,447,381,438,474,102,196,58,234,82,611,353,519,262,1] false)]
def v_zf_ring_mul_42 : D := (zi [537,76,48,129,542,441,443,214,497,281,13,74,277,471,133,84,382,11,303,619,62,401,23] false)
def k_zf_ring_mul_43 : List D := [(.agg [(.b false), (.n 625)]), (zi [3,17,20,2,12,19,1,20,16,6,12,3,15,3,3,1,9,10,24,14,23,2] false), (zi [363,1] false)]
def v_zf_ring_mul_43 : D := (zi [464,549,402,121,608,34,382,386,203,319,612,476,448,479,467,366,143,514,597,106,238,124,2] false)
def k_zf_ring_mul_44 : List D := [(.agg [(.b false), (.n 625)]), (zi [23] false), (zi [375,0,450,250,525,475,200,600,75,600,0,550,100,325,600,450,525,525,275,100,300,525,25] false)]
def v_zf_ring_mul_44 : D := (zi [500,0,350,125,200,300,225,50,475,50,0,150,425,600,50,350,200,200,75,425,25,200,575] false)
def k_zf_ring_mul_45 : List D := [(.agg [(.b false), (.n 625)]), (zi [3,17,20,2,12,19,1,20,16,6,12,3,15,3,3,1,9,10,24,14,23,2] false), (zi [375,0,450,250,525,475,200,600,75,600,0,550,100,325,600,450,525,525,275,100,300,525,25] false)]
def v_zf_ring_mul_45 : D := (zi [500,125,100,400,575,250,450,425,375,150,300,475,25,0,500,500,0,425,600,425,325,400,525,25,300,425,350,475,500,200,125,550,225,25,275,225,600,250,200,525,50,525,375,50] false)
def k_zf_ring_mul_46 : List D := [(.agg [(.b false), (.n 625)]), (zi [400,450,425,25,350,525,25,50,225,275,75,150,550,100,525,275,475,75,0,225,225,575] false), (zi [594,112,301,223,404,617,291,118,239,447,381,438,474,102,196,58,234,82,611,353,519,262,1] false)]
def v_zf_ring_mul_46 : D := (zi [100,225,125,225,575,75,325,300,550,375,50,250,575,125,350,150,600,225,175,175,175,575,100,600,325,200,275,150,125,425,500,75,400,600,350,400,25,375,425,100,575,100,250,575] false)
def k_zf_ring_mul_47 : List D := [(.agg [(.b false), (.n 390625)]), (zi [594,112,301,223,404,617,291,118,239,447,381,438,474,102,196,58,234,82,611,353,519,262,1] false), (zi [363,1] false)]
def v_zf_ring_mul_47 : D := (zi [215622,41250,109375,81250,146875,224375,106250,43125,86875,162500,138750,159375,172500,37500,71250,21250,85000,30000,221875,128750,188750,95625,625,1] false)
def k_zf_ring_mul_48 : List D := [(.agg [(.b false), (.n 390625)]), (zi [348] false), (zi [175000,349375,281250,309375,243750,166250,284375,347500,303750,228125,251875,231250,218125,353125,319375,369375,305625,360625,168750,261875,201875,295000,390000] false)]
def v_zf_ring_mul_48 : D := (zi [353125,98125,218750,240625,59375,42500,134375,226875,236250,90625,152500,6250,126250,231250,205000,26875,107500,106875,131250,116875,330625,316250,173125] false)
def k_zf_ring_mul_49 : List D := [(.agg [(.b false), (.n 390625)]), (zi [28,292,420,2,112,319,476,545,341,106,287,528,40,503,403,601,34,610,499,39,148,277] false), (zi [175000,349375,281250,309375,243750,166250,284375,347500,303750,228125,251875,231250,218125,353125,319375,369375,305625,360625,168750,261875,201875,295000,390000] false)]
def v_zf_ring_mul_49 : D := (zi [212500,335625,189375,375000,39375,113125,205000,298125,241875,36250,321250,333750,146875,321875,355000,178125,74375,169375,192500,75625,299375,145625,195000,113125,0,110000,331875,229375,163125,236250,88750,317500,153125,382500,207500,25625,17500,273125,120625,354375,328750,336250,372500,217500] false)
def k_zf_ring_mul_50 : List D := [(.agg [(.b false), (.n 390625)]), (zi [146875,277500,304375,122500,389375,321875,15625,360000,283750,348125,61875,76250,256250,262500,56875,80625,147500,231250,268750,383750,362500,173125] false), (zi [594,112,301,223,404,617,291,118,239,447,381,438,474,102,196,58,234,82,611,353,519,262,1] false)]
def v_zf_ring_mul_50 : D := (zi [134375,35000,228750,88750,33125,96250,213750,303125,50625,13125,290000,368750,225000,84375,99375,380000,355000,230625,223125,251250,228750,81875,195625,277500,0,280625,58750,161250,227500,154375,301875,73125,237500,8125,183125,365000,373125,117500,270000,36250,61875,54375,18125,173125] false)
def k_zf_ring_mul_51 : List D := [(.agg [(.b false), (.n 390625)]), (zi [348] false), (zi [347469,370737,27801,73348,72904,209992,28416,210743,292739,49822,221006,312313,372349,15727,63946,167558,38984,9457,25611,327228,138019,227762,1] false)]
def v_zf_ring_mul_51 : D := (zi [216087,110226,299748,134479,370592,30341,123143,291689,310672,150556,347588,91174,280577,4246,378208,107059,285182,166036,318878,203469,374362,354926,348] false)
def k_zf_ring_mul_52 : List D := [(.agg [(.b false), (.n 390625)]), (zi [28,292,420,2,112,319,476,545,341,106,287,528,40,503,403,601,34,610,499,39,148,277] false), (zi [162863,1] false)]
def v_zf_ring_mul_52 : D := (zi [263289,290399,43377,326146,271908,284,179357,88936,68078,76319,257412,54451,265048,279504,9292,224816,69193,127714,19247,102156,275638,191324,277] false)
def k_zf_ring_mul_53 : List D := [(.agg [(.b false), (.n 390625)]), (zi [348] false), (zi [88750,10000,343125,70000,251875,30625,302500,380625,378750,226875,214375,145625,155000,283750,387500,331875,354375,293750,338125,305625,259375,155625,625] false)]
def v_zf_ring_mul_53 : D := (zi [25625,355000,266875,141250,152500,110625,191875,35625,164375,46250,383750,286875,33750,307500,84375,258125,275625,271875,89375,107500,28125,251250,217500] false)
def k_zf_ring_mul_54 : List D := [(.agg [(.b false), (.n 390625)]), (zi [28,292,420,2,112,319,476,545,341,106,287,528,40,503,403,601,34,610,499,39,148,277] false), (zi [88750,10000,343125,70000,251875,30625,302500,380625,378750,226875,214375,145625,155000,283750,387500,331875,354375,293750,338125,305625,259375,155625,625] false)]
def v_zf_ring_mul_54 : D := (zi [141250,23125,193125,280000,315000,328750,173750,357500,2500,193125,361875,386875,380625,276250,91875,88750,121250,271250,275625,19375,39375,3750,373750,186875,181250,147500,276250,148125,203750,153125,8125,88125,55000,126875,109375,76250,308750,122500,133125,93750,130000,372500,231875,173125] false)
def k_zf_ring_mul_55 : List D := [(.agg [(.b false), (.n 390625)]), (zi [150000,35000,182500,355000,251250,109375,71250,22500,33750,259375,373750,13750,336875,347500,145625,381250,210625,372500,199375,222500,205000,217500] false), (zi [347469,370737,27801,73348,72904,209992,28416,210743,292739,49822,221006,312313,372349,15727,63946,167558,38984,9457,25611,327228,138019,227762,1] false)]
def v_zf_ring_mul_55 : D := (zi [37500,90000,53125,295000,230625,85625,291875,62500,625,286250,169375,297500,24375,303750,159375,206250,323750,211250,100000,11875,293125,124375,16875,203750,209375,243125,114375,242500,186875,237500,382500,302500,335625,263750,281250,314375,81875,268125,257500,296875,260625,18125,158750,217500] false)
def k_zf_ring_mul_56 : List D := [(.agg [(.b false), (.n 152587890625)]), (zi [347469,370737,27801,73348,72904,209992,28416,210743,292739,49822,221006,312313,372349,15727,63946,167558,38984,9457,25611,327228,138019,227762,1] false), (zi [162863,1] false)]
def v_zf_ring_mul_56 : D := (zi [56589843747,60379687500,4528125000,11945703125,11873437500,34200000000,4628125000,34322265625,47676562500,8114453125,35993750000,50864453125,60642187500,2561718750,10414453125,27289062500,6349218750,1540234375,4171093750,53293359375,22478515625,37094140625,390625,1] false)
def k_zf_ring_mul_57 : List D := [(.agg [(.b false), (.n 152587890625)]), (zi [127848] false), (zi [95998046875,92208203125,148059765625,140642187500,140714453125,118387890625,147959765625,118265625000,104911328125,144473437500,116594140625,101723437500,91945703125,150026171875,142173437500,125298828125,146238671875,151047656250,148416796875,99294531250,130109375000,115493750000,152587500000] false)]
def v_zf_ring_mul_57 : D := (zi [56490234375,151687109375,6732031250,17944140625,101686328125,4405859375,39314843750,89542968750,75304296875,28465234375,16655468750,72119531250,8335156250,95582421875,14930468750,70056640625,32659375000,75082421875,28683984375,57670703125,7066406250,19950000000,102647265625] false)
def k_zf_ring_mul_58 : List D := [(.agg [(.b false), (.n 152587890625)]), (zi [211903,277792,144795,206252,235737,367194,316101,361795,387841,301981,250287,97403,376290,201753,139778,96226,336284,299360,15499,359414,58273,262777] false), (zi [95998046875,92208203125,148059765625,140642187500,140714453125,118387890625,147959765625,118265625000,104911328125,144473437500,116594140625,101723437500,91945703125,150026171875,142173437500,125298828125,146238671875,151047656250,148416796875,99294531250,130109375000,115493750000,152587500000] false)]
def v_zf_ring_mul_58 : D := (zi [19488281250,19265234375,69824218750,143852734375,96596093750,132124609375,11747265625,18482421875,85862109375,74437500000,116565625000,47993359375,72698046875,141765625000,119834765625,29428906250,62710156250,4101953125,22475781250,97056250000,87083203125,151161718750,107783203125,48609375000,139243750000,114891796875,76964453125,4237890625,125242968750,68635546875,39419531250,50996093750,142591796875,96780468750,140067968750,76697265625,3050781250,45153125000,132983203125,71289843750,73671875000,130915234375,109875000000,49940625000] false)
def B_zf_ring_mul : List (List D × D) := [(k_zf_ring_mul_0, v_zf_ring_mul_0), (k_zf_ring_mul_1, v_zf_ring_mul_1), (k_zf_ring_mul_2, v_zf_ring_mul_2), (k_zf_ring_mul_3, v_zf_ring_mul_3), (k_zf_ring_mul_4, v_zf_ring_mul_4), (k_zf_ring_mul_5, v_zf_ring_mul_5), (k_zf_ring_mul_6, v_zf_ring_mul_6), (k_zf_ring_mul_7, v_zf_ring_mul_7), (k_zf_ring_mul_8, v_zf_ring_mul_8), (k_zf_ring_mul_9, v_zf_ring_mul_9), (k_zf_ring_mul_10, v_zf_ring_mul_10), (k_zf_ring_mul_11, v_zf_ring_mul_11), (k_zf_ring_mul_12, v_zf_ring_mul_12), (k_zf_ring_mul_13, v_zf_ring_mul_13), (k_zf_ring_mul_14, v_zf_ring_mul_14), (k_zf_ring_mul_15, v_zf_ring_mul_15), (k_zf_ring_mul_16, v_zf_ring_mul_16), (k_zf_ring_mul_17, v_zf_ring_mul_17), (k_zf_ring_mul_18, v_zf_ring_mul_18), (k_zf_ring_mul_19, v_zf_ring_mul_19), (k_zf_ring_mul_20, v_zf_ring_mul_20), (k_zf_ring_mul_21, v_zf_ring_mul_21), (k_zf_ring_mul_22, v_zf_ring_mul_22), (k_zf_ring_mul_23, v_zf_ring_mul_23), (k_zf_ring_mul_24, v_zf_ring_mul_24), (k_zf_ring_mul_25, v_zf_ring_mul_25), (k_zf_ring_mul_26, v_zf_ring_mul_26), (k_zf_ring_mul_27, v_zf_ring_mul_27), (k_zf_ring_mul_28, v_zf_ring_mul_28), (k_zf_ring_mul_29, v_zf_ring_mul_29), (k_zf_ring_mul_30, v_zf_ring_mul_30), (k_zf_ring_mul_31, v_zf_ring_mul_31), (k_zf_ring_mul_32, v_zf_ring_mul_32), (k_zf_ring_mul_33, v_zf_ring_mul_33), (k_zf_ring_mul_34, v_zf_ring_mul_34), (k_zf_ring_mul_35, v_zf_ring_mul_35), (k_zf_ring_mul_36, v_zf_ring_mul_36), (k_zf_ring_mul_37, v_zf_ring_mul_37), (k_zf_ring_mul_38, v_zf_ring_mul_38), (k_zf_ring_mul_39, v_zf_ring_mul_39), (k_zf_ring_mul_40, v_zf_ring_mul_40), (k_zf_ring_mul_41, v_zf_ring_mul_41), (k_zf_ring_mul_42, v_zf_ring_mul_42), (k_zf_ring_mul_43, v_zf_ring_mul_43), (k_zf_ring_mul_44, v_zf_ring_mul_44), (k_zf_ring_mul_45, v_zf_ring_mul_45), (k_zf_ring_mul_46, v_zf_ring_mul_46), (k_zf_ring_mul_47, v_zf_ring_mul_47), (k_zf_ring_mul_48, v_zf_ring_mul_48), (k_zf_ring_mul_49, v_zf_ring_mul_49), (k_zf_ring_mul_50, v_zf_ring_mul_50), (k_zf_ring_mul_51, v_zf_ring_mul_51), (k_zf_ring_mul_52, v_zf_ring_mul_52), (k_zf_ring_mul_53, v_zf_ring_mul_53), (k_zf_ring_mul_54, v_zf_ring_mul_54), (k_zf_ring_mul_55, v_zf_ring_mul_55), (k_zf_ring_mul_56, v_zf_ring_mul_56), (k_zf_ring_mul_57, v_zf_ring_mul_57), (k_zf_ring_mul_58, v_zf_ring_mul_58)]
def T113 (φ : Nat) : FTab := setT (T112 φ) 112 (.iso (tabM B_zf_ring_mul (R_zf_ring_mul φ)))
def TD113 (φ : Nat) : FTab := TD112 φ
def T114 (φ : Nat) : FTab := setT (T113 φ) 113 (.iso intSubM)
def TD114 (φ : Nat) : FTab := TD113 φ
def R_zf_ring_inverse (φ : Nat) : List D → Option D :=
fun as =>
(fun (s : LS) =>
 u1 as fun a1 r48 =>
 u1 r48 fun a2 r49 =>
 u0 r49 (
 kBox a1 s fun x3 s =>
 kBox a2 s fun x4 s =>
 kAlloc [(.b false), (.n 0)] s fun x5 s =>
 kFaddr 0 s x3 fun x6 s =>
 kLoadn 2 s x6 fun x7 s =>
 kLoadn 2 s x4 fun x8 s =>
 kAlloc [(.b false), (.n 0)] s fun x9 s =>
 kAlloc [(.b false), (.n 0)] s fun x10 s =>
 kStore 2 s x9 x7 fun _ s =>
 kStore 2 s x10 x8 fun _ s =>
 kS (.apart (.c x4) (.c x9)) s fun _ s =>
 isoK (R_exact_IntOf φ) [(.i .i64 (.ofNat 0))] s fun x11 s =>
 isoK (R_exact_IntOf φ) [(.i .i64 (.ofNat 1))] s fun x12 s =>
 kAlloc [(.b false), (.n 0)] s fun x13 s =>
 kAlloc [(.b false), (.n 0)] s fun x14 s =>
 kStore 2 s x13 x11 fun _ s =>
 kStore 2 s x14 x12 fun _ s =>
 lp (fun (_ _ _ _ _ _ : D) (_ : LS) => none) (fun (q15 : D → D → D → D → D → D → LS → Rs) (x16 x17 x18 x19 x20 x21 : D) (s : LS) =>
 kFaddr 1 s x19 fun x22 s =>
 kLoad1 s x22 fun x23 s =>
 kNeq x23 (.n 0) fun x24 =>
 kCond x24
(kLoadn 2 s x18 fun x25 s =>
 kLoadn 2 s x19 fun x26 s =>
 isoK (intDivModM φ) [x25, x26] s fun x27 s =>
 kExt x27 0 s fun x28 s =>
 kExt x27 1 s fun x29 s =>
 kAlloc [(.b false), (.n 0)] s fun x30 s =>
 kAlloc [(.b false), (.n 0)] s fun x31 s =>
 kStore 2 s x30 x28 fun _ s =>
 kStore 2 s x31 x29 fun _ s =>
 kLoadn 2 s x19 fun x32 s =>
 kLoadn 2 s x31 fun x33 s =>
 kStore 2 s x18 x32 fun _ s =>
 kStore 2 s x19 x33 fun _ s =>
 kS (.apart (.c x31) (.c x18)) s fun _ s =>
 kLoadn 2 s x21 fun x34 s =>
 kLoadn 2 s x20 fun x35 s =>
 kLoadn 2 s x30 fun x36 s =>
 kLoadn 2 s x21 fun x37 s =>
 isoK intMulM [x36, x37] s fun x38 s =>
 isoK intSubM [x35, x38] s fun x39 s =>
 kStore 2 s x20 x34 fun _ s =>
 kStore 2 s x21 x39 fun _ s =>
 q15 x16 x17 x18 x19 x20 x21 s)
(kLoadn 2 s x20 fun x40 s =>
 kFaddr 0 s x16 fun x41 s =>
 kLoadn 2 s x41 fun x42 s =>
 isoK (intDivModM φ) [x40, x42] s fun x43 s =>
 kExt x43 0 s fun x44 s =>
 kExt x43 1 s fun x45 s =>
 kStore 2 s x20 x45 fun _ s =>
 kLoadn 2 s x20 fun x46 s =>
 kStore 2 s x17 x46 fun _ s =>
 kLoadn 2 s x17 fun x47 _ =>
 retK false s x47 some)) φ x3 x5 x9 x10 x13 x14 s)) s0
def T115 (φ : Nat) : FTab := setT (T114 φ) 114 (.iso (R_zf_ring_inverse φ))
def TD115 (φ : Nat) : FTab := TD114 φ
def R_fp_Xgcd (φ : Nat) : List D → Option D :=
fun as =>
(fun (s : LS) =>
 u1 as fun a1 r47 =>
 u1 r47 fun a2 r48 =>
 u1 r48 fun a3 r49 =>
 u0 r49 (
 kLen a3 s fun x4 s =>
 kEql x4 (.i .i64 (.ofNat 0)) fun x5 =>
 kCond x5
(kLen a2 s fun x6 s =>
 kEql x6 (.i .i64 (.ofNat 0)) fun x7 =>
 kCond x7
(retK false s (.tup [(.tree [] 0 true), (.tree [] 0 true), (.tree [] 0 true)]) some)
(isoK (R_fp_Monic φ) [a1, a2] s fun x8 s =>
 kLen a2 s fun x9 s =>
 kSub x9 (.i .i64 (.ofNat 1)) fun x10 =>
 kIaddr 1 s a2 x10 fun x11 s =>
 kLoad1 s x11 fun x12 s =>
 isoK (R_fp_Inv φ) [a1, x12] s fun x13 s =>
 kBsl 1 [(.i .i64 (.ofNat 0))] [(0, 1, x13)] s fun x14 s =>
 retK false s (.tup [x8, x14, (.tree [] 0 true)]) some))
(kBsl 1 [(.i .i64 (.ofNat 0))] [(0, 1, (.i .i64 (.ofNat 1)))] s fun x15 s =>
 lp (fun (_ _ _ _ _ _ _ : D) (_ : LS) => none) (fun (q16 : D → D → D → D → D → D → D → LS → Rs) (x17 x18 x19 x20 x21 x22 x23 : D) (s : LS) =>
 kLen x21 s fun x24 s =>
 kGtr x24 (.i .i64 (.ofNat 0)) fun x25 =>
 kCond x25
(isoK (fpDivModM φ) [x17, x20, x21] s fun x26 s =>
 kExt x26 0 s fun x27 s =>
 kExt x26 1 s fun x28 s =>
 isoK (fpMulM φ) [x17, x27, x23] s fun x29 s =>
 isoK (R_fp_Sub φ) [x17, x22, x29] s fun x30 s =>
 q16 x17 x18 x19 x21 x28 x23 x30 s)
(kLen x20 s fun x31 s =>
 kSub x31 (.i .i64 (.ofNat 1)) fun x32 =>
 kIaddr 1 s x20 x32 fun x33 s =>
 kLoad1 s x33 fun x34 s =>
 isoK (R_fp_Inv φ) [x17, x34] s fun x35 s =>
 isoK (R_fp_Scale φ) [x17, x20, x35] s fun x36 s =>
 isoK (fpDivModM φ) [x17, x19, x36] s fun x37 s =>
 kExt x37 0 s fun x38 s =>
 kExt x37 1 s fun x39 s =>
 isoK (R_fp_Scale φ) [x17, x22, x35] s fun x40 s =>
 isoK (R_fp_Rem φ) [x17, x40, x38] s fun x41 s =>
 isoK (fpMulM φ) [x17, x41, x18] s fun x42 s =>
 isoK (R_fp_Sub φ) [x17, x36, x42] s fun x43 s =>
 isoK (fpDivModM φ) [x17, x43, x19] s fun x44 s =>
 kExt x44 0 s fun x45 s =>
 kExt x44 1 s fun x46 s =>
 retK false s (.tup [x36, x41, x45]) some)) φ a1 a2 a3 a2 a3 x15 (.tree [] 0 true) s))) s0
def T116 (φ : Nat) : FTab := setT (T115 φ) 115 (.iso (R_fp_Xgcd φ))
def TD116 (φ : Nat) : FTab := TD115 φ
def R_zf_lifted (φ : Nat) : List D → Option D :=
fun as =>
(fun (s : LS) =>
 u1 as fun a1 r16 =>
 u0 r16 (
 kLen a1 s fun x2 s =>
 kMksl 2 24 [(.b false), (.n 0)] s x2 x2 fun x3 s =>
 kLen a1 s fun x4 s =>
 lp (fun (_ _ _ _ : D) (_ : LS) => none) (fun (q5 : D → D → D → D → LS → Rs) (x6 x7 x8 x9 : D) (s : LS) =>
 kLss x9 x8 fun x10 =>
 kCond x10
(kIaddr 1 s x7 x9 fun x11 s =>
 kLoad1 s x11 fun x12 s =>
 isoK (R_exact_IntOf φ) [x12] s fun x13 s =>
 kIaddr 2 s x6 x9 fun x14 s =>
 kStore 2 s x14 x13 fun _ s =>
 kAdd x9 (.i .i64 (.ofNat 1)) fun x15 =>
 q5 x6 x7 x8 x15 s)
(retK false s x6 some)) φ x3 a1 x4 (.i .i64 (.ofNat 0)) s)) s0
def T117 (φ : Nat) : FTab := setT (T116 φ) 116 (.iso (R_zf_lifted φ))
def TD117 (φ : Nat) : FTab := TD116 φ
def R_zf_ring_combine (φ : Nat) : List D → Option D :=
fun as =>
(fun (s : LS) =>
 u1 as fun a1 r33 =>
 u1 r33 fun a2 r34 =>
 u1 r34 fun a3 r35 =>
 u1 r35 fun a4 r36 =>
 u0 r36 (
 kBox a1 s fun x5 s =>
 kLen a2 s fun x6 s =>
 kLen a3 s fun x7 s =>
 kS (.max (.c x6) (.c x7)) s fun x8 s =>
 kMksl 2 24 [(.b false), (.n 0)] s x8 x8 fun x9 s =>
 kCopy 2 s x9 a2 fun x10 s =>
 kLen a3 s fun x11 s =>
 lp (fun (_ _ _ _ _ _ : D) (_ : LS) => none) (fun (q12 : D → D → D → D → D → D → LS → Rs) (x13 x14 x15 x16 x17 x18 : D) (s : LS) =>
 kLss x18 x17 fun x19 =>
 kCond x19
(kIaddr 2 s x16 x18 fun x20 s =>
 kLoadn 2 s x20 fun x21 s =>
 kAlloc [(.b false), (.n 0)] s fun x22 s =>
 kStore 2 s x22 x21 fun _ s =>
 kIaddr 2 s x15 x18 fun x23 s =>
 kLoadn 2 s x23 fun x24 s =>
 kLoadn 2 s x22 fun x25 s =>
 isoK (R_exact_IntOf φ) [x13] s fun x26 s =>
 isoK intMulM [x25, x26] s fun x27 s =>
 isoK intAddM [x24, x27] s fun x28 s =>
 kIaddr 2 s x15 x18 fun x29 s =>
 kStore 2 s x29 x28 fun _ s =>
 kAdd x18 (.i .i64 (.ofNat 1)) fun x30 =>
 q12 x13 x14 x15 x16 x17 x30 s)
(kLoadn 2 s x14 fun x31 s =>
 isoK (R_zf_ring_reduce φ) [x31, x15] s fun x32 s =>
 retK false s x32 some)) φ a4 x5 x9 a3 x11 (.i .i64 (.ofNat 0)) s)) s0
def T118 (φ : Nat) : FTab := setT (T117 φ) 117 (.iso (R_zf_ring_combine φ))
def TD118 (φ : Nat) : FTab := TD117 φ
def R_slices_Clone_api_ZPoly_api_Int (φ : Nat) : List D → Option D :=
fun as =>
(fun (s : LS) =>
 u1 as fun a1 r5 =>
 u0 r5 (
 kIsnil false s a1 fun x2 s =>
 kCond x2
(retK true s (.tree [] 0 true) some)
(kBsl 0 [(.b false), (.n 0)] [] s fun x3 s =>
 kApp 2 24 s x3 a1 fun x4 s =>
 retK true s x4 some))) s0
def T119 (φ : Nat) : FTab := setT (T118 φ) 118 (.iso (cloneP (R_slices_Clone_api_ZPoly_api_Int φ)))
def TD119 (φ : Nat) : FTab := TD118 φ
def R_zf_ring_divide (φ : Nat) : List D → Option D :=
fun as =>
(fun (s : LS) =>
 u1 as fun a1 r70 =>
 u1 r70 fun a2 r71 =>
 u1 r71 fun a3 r72 =>
 u0 r72 (
 kBox a1 s fun x4 s =>
 kLen a2 s fun x5 s =>
 kLen a3 s fun x6 s =>
 kLss x5 x6 fun x7 =>
 kCond x7
(retK false s (.tup [(.tree [] 0 true), a2]) some)
(isoK (cloneP (R_slices_Clone_api_ZPoly_api_Int φ)) [a2] s fun x8 s =>
 kLen a2 s fun x9 s =>
 kLen a3 s fun x10 s =>
 kSub x9 x10 fun x11 =>
 kAdd x11 (.i .i64 (.ofNat 1)) fun x12 =>
 kMksl 2 24 [(.b false), (.n 0)] s x12 x12 fun x13 s =>
 kLen x13 s fun x14 s =>
 kSub x14 (.i .i64 (.ofNat 1)) fun x15 =>
 lp (fun (_ _ _ _ _ : D) (_ : LS) => none) (fun (q16 : D → D → D → D → D → LS → Rs) (x17 x18 x19 x20 x21 : D) (s : LS) =>
 kGeq x21 (.i .i64 (.ofNat 0)) fun x22 =>
 kCond x22
(kLen x17 s fun x23 s =>
 kAdd x21 x23 fun x24 =>
 kSub x24 (.i .i64 (.ofNat 1)) fun x25 =>
 kIaddr 2 s x19 x25 fun x26 s =>
 kLoadn 2 s x26 fun x27 s =>
 kFaddr 0 s x18 fun x28 s =>
 kLoadn 2 s x28 fun x29 s =>
 isoK (intDivModM φ) [x27, x29] s fun x30 s =>
 kExt x30 0 s fun x31 s =>
 kExt x30 1 s fun x32 s =>
 kAlloc [(.b false), (.n 0)] s fun x33 s =>
 kAlloc [(.b false), (.n 0)] s fun x34 s =>
 kStore 2 s x33 x31 fun _ s =>
 kStore 2 s x34 x32 fun _ s =>
 kLoadn 2 s x34 fun x35 s =>
 kIaddr 2 s x20 x21 fun x36 s =>
 kStore 2 s x36 x35 fun _ s =>
 kLen x17 s fun x37 s =>
 lp (fun (_ _ _ _ _ _ _ _ _ : D) (_ : LS) => none) (fun (q38 : D → D → D → D → D → D → D → D → D → LS → Rs) (x39 x40 x41 x42 x43 x44 x45 x46 x47 : D) (s : LS) =>
 kLss x47 x46 fun x48 =>
 kCond x48
(kIaddr 2 s x45 x47 fun x49 s =>
 kLoadn 2 s x49 fun x50 s =>
 kAlloc [(.b false), (.n 0)] s fun x51 s =>
 kStore 2 s x51 x50 fun _ s =>
 kAdd x43 x47 fun x52 =>
 kAdd x43 x47 fun x53 =>
 kIaddr 2 s x41 x53 fun x54 s =>
 kLoadn 2 s x54 fun x55 s =>
 kLoadn 2 s x44 fun x56 s =>
 kLoadn 2 s x51 fun x57 s =>
 isoK intMulM [x56, x57] s fun x58 s =>
 isoK intSubM [x55, x58] s fun x59 s =>
 kIaddr 2 s x41 x52 fun x60 s =>
 kStore 2 s x60 x59 fun _ s =>
 kAdd x47 (.i .i64 (.ofNat 1)) fun x61 =>
 q38 x39 x40 x41 x42 x43 x44 x45 x46 x61 s)
(kSub x43 (.i .i64 (.ofNat 1)) fun x62 =>
 q16 x39 x40 x41 x42 x62 s)) φ x17 x18 x19 x20 x21 x34 x17 x37 (.i .i64 (.ofNat 0)) s)
(kLoadn 2 s x18 fun x63 s =>
 isoK (R_zf_ring_reduce φ) [x63, x20] s fun x64 s =>
 kLoadn 2 s x18 fun x65 s =>
 kLen x17 s fun x66 s =>
 kSub x66 (.i .i64 (.ofNat 1)) fun x67 =>
 kSlice 2 s x19 none (some x67) none fun x68 s =>
 isoK (R_zf_ring_reduce φ) [x65, x68] s fun x69 s =>
 retK false s (.tup [x64, x69]) some)) φ a3 x4 x8 x13 x15 s))) s0
def k_zf_ring_divide_0 : List D := [(.agg [(.b false), (.n 25)]), (zi [20,20,10,10,20,20,10,10,20,20,10,10,20,20,10,10,20,20,10,10,20,20,10] false), (zi [2,1] true)]
def v_zf_ring_divide_0 : D := (.tup [(zi [0,10,0,5,20,0,5,15,15,15,10,0,10,5,15,10,5,20,20,20,0,10] false), (zi [20] false)])
def k_zf_ring_divide_1 : List D := [(.agg [(.b false), (.n 25)]), (zi [10,15,15,10,5,15,15,0,10,10,20,5,0,20,15,5,5,15,20,10,0,15,15] false), (zi [22,1] false)]
def v_zf_ring_divide_1 : D := (.tup [(zi [0,20,10,0,15,0,20,15,10,0,10,10,20,0,20,5,0,20,0,5,10,15] false), (zi [10] false)])
def k_zf_ring_divide_2 : List D := [(.agg [(.b false), (.n 625)]), (zi [150,525,175,125,400,225,200,600,475,550,125,375,100,150,500,50,75,300,425,350,150,525,175] false), (zi [22,1] false)]
def v_zf_ring_divide_2 : D := (.tup [(zi [600,25,575,150,125,175,200,75,75,50,600,75,200,225,325,300,75,550,250,175,425,175] false), (zi [75] false)])
def k_zf_ring_divide_3 : List D := [(.agg [(.b false), (.n 625)]), (zi [225,375,300,450,375,25,575,75,250,125,425,100,250,50,350,325,350,550,200,375,325,475,450] false), (zi [97,1] false)]
def v_zf_ring_divide_3 : D := (.tup [(zi [525,50,125,100,325,100,50,200,400,300,375,300,225,475,250,600,500,400,275,175,575,450] false), (zi [550] false)])
def k_zf_ring_divide_4 : List D := [(.agg [(.b false), (.n 390625)]), (zi [95625,328125,244375,211875,367500,358125,370000,186250,225625,302500,374375,67500,70000,186250,358125,274375,79375,144375,253750,170000,41875,311875,332500] false), (zi [97,1] false)]
def v_zf_ring_divide_4 : D := (.tup [(zi [383125,325625,365625,66875,248750,93750,6875,247500,293750,116875,91250,185000,361250,6250,96250,175000,313125,368750,361250,235625,90625,332500] false), (zi [41875] false)])
def k_zf_ring_divide_5 : List D := [(.agg [(.b false), (.n 390625)]), (zi [124375,246250,10625,335625,6875,181875,330000,385625,126250,202500,15625,108750,166875,48125,34375,220000,141250,370625,20625,339375,5625,360000,58125] false), (zi [41972,1] false)]
def v_zf_ring_divide_5 : D := (.tup [(zi [56250,82500,128125,316250,25000,114375,6250,128750,245625,233125,275625,86875,343125,77500,233125,20000,1250,330000,25000,265000,190625,58125] false), (zi [136875] false)])
def k_zf_ring_divide_6 : List D := [(.agg [(.b false), (.n 152587890625)]), (zi [45170703125,65733593750,38252734375,118568750000,106810546875,133671484375,116212890625,103604687500,107000781250,40114843750,150384375000,29053515625,8869531250,101071093750,50782812500,30231250000,132088281250,13583593750,761328125,107660156250,126488281250,17701562500,53430468750] false), (zi [41972,1] false)]
def v_zf_ring_divide_6 : D := (.tup [(zi [136600000000,102394921875,98112500000,147644140625,149962109375,126921093750,39324609375,67355859375,26456250000,106163281250,133182812500,121389453125,74186328125,2919921875,147873828125,79806640625,57481640625,21051953125,114647656250,41502343750,18295703125,53430468750] false), (zi [7373046875] false)])
def k_zf_ring_divide_7 : List D := [(.agg [(.b false), (.n 25)]), (zi [5,20,10,20,5,20,10,20,5,20,10,20,5,20,10,20,5,20,10,20,5,20,10] false), (zi [3,1] true)]
def v_zf_ring_divide_7 : D := (.tup [(zi [15,10,0,15,5,5,10,20,20,0,20,0,10,20,5,5,0,15,15,10,15,10] false), (zi [10] false)])
def k_zf_ring_divide_8 : List D := [(.agg [(.b false), (.n 25)]), (zi [10,20,15,10,20,15,20,15,15,15,10,15,0,10,15,20,15,0,5,20,0,20,15] false), (zi [13,1] false)]
def v_zf_ring_divide_8 : D := (.tup [(zi [10,20,15,15,10,10,20,15,0,5,10,10,5,10,10,20,15,20,20,0,0,15] false), (zi [5] false)])
def k_zf_ring_divide_9 : List D := [(.agg [(.b false), (.n 625)]), (zi [500,350,50,600,150,450,450,500,400,600,200,350,25,100,550,250,250,200,300,100,500,350,50] false), (zi [13,1] false)]
def v_zf_ring_divide_9 : D := (.tup [(zi [300,100,525,150,0,275,350,300,200,175,50,600,100,0,475,175,150,100,400,25,325,50] false), (zi [350] false)])
def k_zf_ring_divide_10 : List D := [(.agg [(.b false), (.n 625)]), (zi [500,0,350,125,200,300,225,50,475,50,0,150,425,600,50,350,200,200,75,425,25,200,575] false), (zi [363,1] false)]
def v_zf_ring_divide_10 : D := (.tup [(zi [400,450,425,25,350,525,25,50,225,275,75,150,550,100,525,275,475,75,0,225,225,575] false), (zi [300] false)])
def k_zf_ring_divide_11 : List D := [(.agg [(.b false), (.n 390625)]), (zi [353125,98125,218750,240625,59375,42500,134375,226875,236250,90625,152500,6250,126250,231250,205000,26875,107500,106875,131250,116875,330625,316250,173125] false), (zi [363,1] false)]
def v_zf_ring_divide_11 : D := (.tup [(zi [146875,277500,304375,122500,389375,321875,15625,360000,283750,348125,61875,76250,256250,262500,56875,80625,147500,231250,268750,383750,362500,173125] false), (zi [162500] false)])
def k_zf_ring_divide_12 : List D := [(.agg [(.b false), (.n 390625)]), (zi [25625,355000,266875,141250,152500,110625,191875,35625,164375,46250,383750,286875,33750,307500,84375,258125,275625,271875,89375,107500,28125,251250,217500] false), (zi [162863,1] false)]
def v_zf_ring_divide_12 : D := (.tup [(zi [150000,35000,182500,355000,251250,109375,71250,22500,33750,259375,373750,13750,336875,347500,145625,381250,210625,372500,199375,222500,205000,217500] false), (zi [263125] false)])
def k_zf_ring_divide_13 : List D := [(.agg [(.b false), (.n 152587890625)]), (zi [56490234375,151687109375,6732031250,17944140625,101686328125,4405859375,39314843750,89542968750,75304296875,28465234375,16655468750,72119531250,8335156250,95582421875,14930468750,70056640625,32659375000,75082421875,28683984375,57670703125,7066406250,19950000000,102647265625] false), (zi [162863,1] false)]
def v_zf_ring_divide_13 : D := (.tup [(zi [93693359375,61426953125,91069140625,13417968750,35071875000,41597656250,119965625000,83744531250,95238671875,135203125000,76439843750,55861328125,15650781250,42675781250,44353125000,84043750000,106967578125,102323437500,89644921875,41832812500,107625390625,102647265625] false), (zi [121728515625] false)])
def B_zf_ring_divide : List (List D × D) := [(k_zf_ring_divide_0, v_zf_ring_divide_0), (k_zf_ring_divide_1, v_zf_ring_divide_1), (k_zf_ring_divide_2, v_zf_ring_divide_2), (k_zf_ring_divide_3, v_zf_ring_divide_3), (k_zf_ring_divide_4, v_zf_ring_divide_4), (k_zf_ring_divide_5, v_zf_ring_divide_5), (k_zf_ring_divide_6, v_zf_ring_divide_6), (k_zf_ring_divide_7, v_zf_ring_divide_7), (k_zf_ring_divide_8, v_zf_ring_divide_8), (k_zf_ring_divide_9, v_zf_ring_divide_9), (k_zf_ring_divide_10, v_zf_ring_divide_10), (k_zf_ring_divide_11, v_zf_ring_divide_11), (k_zf_ring_divide_12, v_zf_ring_divide_12), (k_zf_ring_divide_13, v_zf_ring_divide_13)]
def T120 (φ : Nat) : FTab := setT (T119 φ) 119 (.iso (tabM B_zf_ring_divide (R_zf_ring_divide φ)))
def TD120 (φ : Nat) : FTab := TD119 φ
def R_zf_pair (φ : Nat) : List D → Option D :=
fun as =>
(fun (s : LS) =>
 u1 as fun a1 r81 =>
 u1 r81 fun a2 r82 =>
 u1 r82 fun a3 r83 =>
 u1 r83 fun a4 r84 =>
 u1 r84 fun a5 r85 =>
 u0 r85 (
 isoK (R_fp_Xgcd φ) [a2, a4, a5] s fun x6 s =>
 kExt x6 0 s fun x7 s =>
 kExt x6 1 s fun x8 s =>
 kExt x6 2 s fun x9 s =>
 isoK (R_zf_lifted φ) [a4] s fun x10 s =>
 isoK (R_zf_lifted φ) [a5] s fun x11 s =>
 isoK (R_zf_lifted φ) [x8] s fun x12 s =>
 isoK (R_zf_lifted φ) [x9] s fun x13 s =>
 isoK (R_exact_IntOf φ) [a2] s fun x14 s =>
 kAlloc [(.b false), (.n 0)] s fun x15 s =>
 kStore 2 s x15 x14 fun _ s =>
 lp (fun (_ _ _ _ _ _ _ _ : D) (_ : LS) => none) (fun (q16 : D → D → D → D → D → D → D → D → LS → Rs) (x17 x18 x19 x20 x21 x22 x23 x24 : D) (s : LS) =>
 kLss x24 x23 fun x25 =>
 kCond x25
(kLoadn 2 s x22 fun x26 s =>
 kLoadn 2 s x22 fun x27 s =>
 isoK intMulM [x26, x27] s fun x28 s =>
 kStore 2 s x22 x28 fun _ s =>
 kLoadn 2 s x22 fun x29 s =>
 kBuild [(.b false), (.n 0)] [(0, 2, x29)] s fun x30 s =>
 kAlloc [(.b false), (.n 0)] s fun x31 s =>
 kStore 2 s x31 x30 fun _ s =>
 kLoadn 2 s x31 fun x32 s =>
 kLoadn 2 s x31 fun x33 s =>
 isoK (R_zf_ring_reduce φ) [x33, x17] s fun x34 s =>
 kLoadn 2 s x31 fun x35 s =>
 isoK (tabM B_zf_ring_mul (R_zf_ring_mul φ)) [x35, x18, x19] s fun x36 s =>
 isoK (R_zf_ring_combine φ) [x32, x34, x36, (.i .i64 (.negSucc 0))] s fun x37 s =>
 kLoadn 2 s x31 fun x38 s =>
 kLoadn 2 s x31 fun x39 s =>
 isoK (tabM B_zf_ring_mul (R_zf_ring_mul φ)) [x39, x20, x37] s fun x40 s =>
 isoK (tabM B_zf_ring_divide (R_zf_ring_divide φ)) [x38, x40, x19] s fun x41 s =>
 kExt x41 0 s fun x42 s =>
 kExt x41 1 s fun x43 s =>
 kLoadn 2 s x31 fun x44 s =>
 kLoadn 2 s x31 fun x45 s =>
 kLoadn 2 s x31 fun x46 s =>
 isoK (tabM B_zf_ring_mul (R_zf_ring_mul φ)) [x46, x21, x37] s fun x47 s =>
 kLoadn 2 s x31 fun x48 s =>
 isoK (tabM B_zf_ring_mul (R_zf_ring_mul φ)) [x48, x42, x18] s fun x49 s =>
 isoK (R_zf_ring_combine φ) [x45, x47, x49, (.i .i64 (.ofNat 1))] s fun x50 s =>
 isoK (R_zf_ring_combine φ) [x44, x18, x50, (.i .i64 (.ofNat 1))] s fun x51 s =>
 kLoadn 2 s x31 fun x52 s =>
 isoK (R_zf_ring_combine φ) [x52, x19, x43, (.i .i64 (.ofNat 1))] s fun x53 s =>
 kLoadn 2 s x31 fun x54 s =>
 kLoadn 2 s x31 fun x55 s =>
 kLoadn 2 s x31 fun x56 s =>
 isoK (tabM B_zf_ring_mul (R_zf_ring_mul φ)) [x56, x20, x51] s fun x57 s =>
 kLoadn 2 s x31 fun x58 s =>
 isoK (tabM B_zf_ring_mul (R_zf_ring_mul φ)) [x58, x21, x53] s fun x59 s =>
 isoK (R_zf_ring_combine φ) [x55, x57, x59, (.i .i64 (.ofNat 1))] s fun x60 s =>
 isoK (R_exact_IntOf φ) [(.i .i64 (.ofNat 1))] s fun x61 s =>
 kBsl 1 [(.b false), (.n 0)] [(0, 2, x61)] s fun x62 s =>
 isoK (R_zf_ring_combine φ) [x54, x60, x62, (.i .i64 (.negSucc 0))] s fun x63 s =>
 kLoadn 2 s x31 fun x64 s =>
 kLoadn 2 s x31 fun x65 s =>
 isoK (tabM B_zf_ring_mul (R_zf_ring_mul φ)) [x65, x20, x63] s fun x66 s =>
 isoK (tabM B_zf_ring_divide (R_zf_ring_divide φ)) [x64, x66, x53] s fun x67 s =>
 kExt x67 0 s fun x68 s =>
 kExt x67 1 s fun x69 s =>
 kLoadn 2 s x31 fun x70 s =>
 isoK (R_zf_ring_combine φ) [x70, x20, x69, (.i .i64 (.negSucc 0))] s fun x71 s =>
 kLoadn 2 s x31 fun x72 s =>
 kLoadn 2 s x31 fun x73 s =>
 kLoadn 2 s x31 fun x74 s =>
 isoK (tabM B_zf_ring_mul (R_zf_ring_mul φ)) [x74, x21, x63] s fun x75 s =>
 kLoadn 2 s x31 fun x76 s =>
 isoK (tabM B_zf_ring_mul (R_zf_ring_mul φ)) [x76, x68, x51] s fun x77 s =>
 isoK (R_zf_ring_combine φ) [x73, x75, x77, (.i .i64 (.ofNat 1))] s fun x78 s =>
 isoK (R_zf_ring_combine φ) [x72, x21, x78, (.i .i64 (.negSucc 0))] s fun x79 s =>
 kAdd x24 (.i .i64 (.ofNat 1)) fun x80 =>
 q16 x17 x51 x53 x71 x79 x22 x23 x80 s)
(retK false s (.tup [x18, x19]) some)) φ a1 x10 x11 x12 x13 x15 a3 (.i .i64 (.ofNat 0)) s)) s0
def k_zf_pair_0 : List D := [(zi [43046719,0,0,0,0,0,0,0,0,0,0,0,0,0,0,0,0,0,0,0,0,0,1] false), (.i .i64 (.ofNat 3)), (.i .i64 (.ofNat 4)), (ti [1,0,2,0,2,0,2,0,0,0,1] true), (ti [1,0,1,0,2,0,1,0,1,0,0,0,1] true)]
def v_zf_pair_0 : D := (.tup [(zi [20005846,0,6286076,0,13952780,0,13114739,0,32970975,0,1] false), (zi [25650991,0,13833832,0,40156832,0,27905560,0,32376355,0,10075746,0,1] false)])
def k_zf_pair_1 : List D := [(zi [25650991,0,13833832,0,40156832,0,27905560,0,32376355,0,10075746,0,1] false), (.i .i64 (.ofNat 3)), (.i .i64 (.ofNat 4)), (ti [1,0,0,0,2,0,2,0,2,0,1] true), (ti [1,0,1] true)]
def v_zf_pair_1 : D := (.tup [(zi [20005846,0,16935378,0,13952780,0,13114739,0,26708318,0,1] false), (zi [26414149,0,1] false)])
def k_zf_pair_2 : List D := [(zi [152587890623,0,0,0,0,0,0,0,0,0,0,0,0,0,0,0,0,0,0,0,0,0,0,1] false), (.i .i64 (.ofNat 5)), (.i .i64 (.ofNat 4)), (ti [4,3,1,2,4,3,1,2,4,3,1,2,4,3,1,2,4,3,1,2,4,3,1] true), (ti [2,1] true)]
def v_zf_pair_2 : D := (.tup [(zi [108524574884,88131728603,254650401,48274751742,15398911464,88779769463,37411311771,86559376657,45975135144,138543592898,31342505666,117851349497,106521194799,52714976658,2851294461,72562505637,87078763679,28213590993,10776100531,106610441077,28324148784,145214801778,1] false), (zi [7373088847,1] false)])
def k_zf_pair_3 : List D := [(zi [152587890622,0,0,0,0,0,0,0,0,0,0,0,0,0,0,0,0,1] false), (.i .i64 (.ofNat 5)), (.i .i64 (.ofNat 4)), (ti [2,1] true), (ti [1,2,4,3,1,2,4,3,1,2,4,3,1,2,4,3,1] true)]
def v_zf_pair_3 : D := (.tup [(zi [94636002777,1] false), (zi [82939170986,106110961357,29381857459,138935291733,105183320621,24178968477,3321346524,79176360263,127846080606,91870389797,9448339114,145814431093,140693122566,138937684817,62941555479,57951887848,1] false)])
def k_zf_pair_4 : List D := [(zi [4294967293,0,0,0,0,0,0,0,0,0,0,0,0,0,0,0,0,0,0,1] false), (.i .i64 (.ofNat 2)), (.i .i64 (.ofNat 5)), (ti [1,1] true), (ti [1,1,1,1,1,1,1,1,1,1,1,1,1,1,1,1,1,1,1] true)]
def v_zf_pair_4 : D := (.tup [(zi [2881038405,1] false), (zi [514654297,471381243,2126291905,486581427,3378867049,2730302763,468672849,2818350179,982720377,1162760283,2951237601,2152044307,2740464777,2775154315,3308519281,3469755587,1745855129,1413928891,1] false)])
def k_zf_pair_5 : List D := [(zi [214358878,0,0,0,0,0,0,0,0,0,0,0,0,0,0,0,0,0,0,0,1] false), (.i .i64 (.ofNat 11)), (.i .i64 (.ofNat 3)), (ti [4,0,0,0,0,1] true), (ti [2,0,0,0,0,5,0,0,0,0,7,0,0,0,0,1] true)]
def v_zf_pair_5 : D := (.tup [(zi [210149614,0,0,0,0,1] false), (zi [55058016,0,0,0,0,95368234,0,0,0,0,4209267,0,0,0,0,1] false)])
def k_zf_pair_6 : List D := [(zi [55058016,0,0,0,0,95368234,0,0,0,0,4209267,0,0,0,0,1] false), (.i .i64 (.ofNat 11)), (.i .i64 (.ofNat 3)), (ti [5,0,0,0,0,0,0,0,0,0,1] true), (ti [7,0,0,0,0,1] true)]
def v_zf_pair_6 : D := (.tup [(zi [95368234,0,0,0,0,0,0,0,0,0,1] false), (zi [4209267,0,0,0,0,1] false)])
def k_zf_pair_7 : List D := [(zi [815730718,0,0,0,0,0,0,0,0,0,0,0,0,0,0,0,0,0,0,0,0,1] false), (.i .i64 (.ofNat 13)), (.i .i64 (.ofNat 3)), (ti [12,0,0,7,0,0,2,0,0,1] true), (ti [3,0,0,8,0,0,10,0,0,11,0,0,1] true)]
def v_zf_pair_7 : D := (.tup [(zi [702818050,0,0,594311842,0,0,456254515,0,0,1] false), (zi [15176047,0,0,516294059,0,0,121270224,0,0,359476206,0,0,1] false)])
def k_zf_pair_8 : List D := [(zi [702818050,0,0,594311842,0,0,456254515,0,0,1] false), (.i .i64 (.ofNat 13)), (.i .i64 (.ofNat 3)), (ti [9,0,0,5,0,0,1] true), (ti [10,0,0,1] true)]
def v_zf_pair_8 : D := (.tup [(zi [621414686,0,0,119847538,0,0,1] false), (zi [336406977,0,0,1] false)])
def k_zf_pair_9 : List D := [(zi [15176047,0,0,516294059,0,0,121270224,0,0,359476206,0,0,1] false), (.i .i64 (.ofNat 13)), (.i .i64 (.ofNat 3)), (ti [9,0,0,2,0,0,1] true), (ti [9,0,0,9,0,0,1] true)]
def v_zf_pair_9 : D := (.tup [(zi [621414686,0,0,490963787,0,0,1] false), (zi [621414686,0,0,684243140,0,0,1] false)])
def k_zf_pair_10 : List D := [(zi [152587890622,0,0,0,0,0,0,0,0,0,0,0,0,0,0,0,0,0,0,0,0,0,1] false), (.i .i64 (.ofNat 5)), (.i .i64 (.ofNat 4)), (ti [3,0,1] true), (ti [4,0,2,0,1,0,3,0,4,0,2,0,1,0,3,0,4,0,2,0,1] true)]
def v_zf_pair_10 : D := (.tup [(zi [11525253153,0,1] false), (zi [44873664174,0,105648909092,0,136479813961,0,47393421488,0,139053290304,0,48769727132,0,71624280281,0,64245253048,0,127211050784,0,141062637472,0,1] false)])
def k_zf_pair_11 : List D := [(zi [44873664174,0,105648909092,0,136479813961,0,47393421488,0,139053290304,0,48769727132,0,71624280281,0,64245253048,0,127211050784,0,141062637472,0,1] false), (.i .i64 (.ofNat 5)), (.i .i64 (.ofNat 4)), (ti [3,0,1,0,3,0,1,0,4,0,1] true), (ti [3,0,3,0,3,0,1,0,3,0,1] true)]
def v_zf_pair_11 : D := (.tup [(zi [103818163493,0,117205540696,0,64245253048,0,25376839841,0,84932534549,0,1] false), (zi [103818163493,0,116345960273,0,64245253048,0,25376839841,0,56130102923,0,1] false)])
def k_zf_pair_12 : List D := [(zi [152587890622,0,0,0,0,0,0,0,0,0,0,0,0,0,0,0,0,0,0,0,0,0,0,1] false), (.i .i64 (.ofNat 5)), (.i .i64 (.ofNat 4)), (ti [4,2,1,3,4,2,1,3,4,2,1,3,4,2,1,3,4,2,1,3,4,2,1] true), (ti [3,1] true)]
def v_zf_pair_12 : D := (.tup [(zi [15385113094,16889433237,149489871551,118388745223,101272729154,106691616242,41706669041,119739273243,15774511489,95337940447,15334986631,24291327938,86354669224,143359390727,40430923321,30224386308,116345351484,53887118832,141959791236,62316342853,53038028644,30859212137,1] false), (zi [121728678488,1] false)])
def k_zf_pair_13 : List D := [(zi [152587890622,0,0,0,0,0,0,0,0,0,0,0,0,0,0,0,0,0,0,0,0,0,0,0,1] false), (.i .i64 (.ofNat 5)), (.i .i64 (.ofNat 4)), (ti [3,0,0,0,3,0,0,0,1] true), (ti [4,0,0,0,1,0,0,0,1,0,0,0,2,0,0,0,1] true)]
def v_zf_pair_13 : D := (.tup [(zi [9761115413,0,0,0,71359059183,0,0,0,1] false), (zi [21433504319,0,0,0,2811387421,0,0,0,19522230826,0,0,0,81228831442,0,0,0,1] false)])
def k_zf_pair_14 : List D := [(zi [21433504319,0,0,0,2811387421,0,0,0,19522230826,0,0,0,81228831442,0,0,0,1] false), (.i .i64 (.ofNat 5)), (.i .i64 (.ofNat 4)), (ti [3,0,0,0,0,0,0,0,1] true), (ti [3,0,0,0,2,0,0,0,1] true)]
def v_zf_pair_14 : D := (.tup [(zi [9761115413,0,0,0,0,0,0,0,1] false), (zi [9761115413,0,0,0,81228831442,0,0,0,1] false)])
def k_zf_pair_15 : List D := [(zi [152587889996,1467,1701,152587888693,152587890103,567,21,152587890580,0,1] false), (.i .i64 (.ofNat 5)), (.i .i64 (.ofNat 4)), (ti [1,2,0,1] true), (ti [1,0,1,0,3,0,1] true)]
def v_zf_pair_15 : D := (.tup [(zi [1,152587890622,0,1] false), (zi [152587889996,152587890205,441,20,152587890583,0,1] false)])
def k_zf_pair_16 : List D := [(zi [152587889996,152587890205,441,20,152587890583,0,1] false), (.i .i64 (.ofNat 5)), (.i .i64 (.ofNat 4)), (ti [3,4,0,1] true), (ti [2,4,0,1] true)]
def v_zf_pair_16 : D := (.tup [(zi [152587890608,152587890604,0,1] false), (zi [37,152587890604,0,1] false)])
def B_zf_pair : List (List D × D) := [(k_zf_pair_0, v_zf_pair_0), (k_zf_pair_1, v_zf_pair_1), (k_zf_pair_2, v_zf_pair_2), (k_zf_pair_3, v_zf_pair_3), (k_zf_pair_4, v_zf_pair_4), (k_zf_pair_5, v_zf_pair_5), (k_zf_pair_6, v_zf_pair_6), (k_zf_pair_7, v_zf_pair_7), (k_zf_pair_8, v_zf_pair_8), (k_zf_pair_9, v_zf_pair_9), (k_zf_pair_10, v_zf_pair_10), (k_zf_pair_11, v_zf_pair_11), (k_zf_pair_12, v_zf_pair_12), (k_zf_pair_13, v_zf_pair_13), (k_zf_pair_14, v_zf_pair_14), (k_zf_pair_15, v_zf_pair_15), (k_zf_pair_16, v_zf_pair_16)]
def T121 (φ : Nat) : FTab := setT (T120 φ) 120 (.iso (tabM B_zf_pair (R_zf_pair φ)))
def TD121 (φ : Nat) : FTab := TD120 φ
def R_zf_product (φ : Nat) : List D → Option D :=
fun as =>
(fun (s : LS) =>
 u1 as fun a1 r16 =>
 u1 r16 fun a2 r17 =>
 u0 r17 (
 kBsl 1 [(.i .i64 (.ofNat 0))] [(0, 1, (.i .i64 (.ofNat 1)))] s fun x3 s =>
 kLen a2 s fun x4 s =>
 lp (fun (_ _ _ _ _ : D) (_ : LS) => none) (fun (q5 : D → D → D → D → D → LS → Rs) (x6 x7 x8 x9 x10 : D) (s : LS) =>
 kLss x10 x9 fun x11 =>
 kCond x11
(kIaddr 1 s x8 x10 fun x12 s =>
 kLoad1 s x12 fun x13 s =>
 isoK (fpMulM φ) [x6, x7, x13] s fun x14 s =>
 kAdd x10 (.i .i64 (.ofNat 1)) fun x15 =>
 q5 x6 x14 x8 x9 x15 s)
(retK false s x7 some)) φ a1 x3 a2 x4 (.i .i64 (.ofNat 0)) s)) s0
def T122 (φ : Nat) : FTab := setT (T121 φ) 121 (.iso (R_zf_product φ))
def TD122 (φ : Nat) : FTab := TD121 φ
def Q_zf_all (φ : Nat) (ih : List D → Option D) : List D → Option D :=
fun as =>
(fun (s : LS) =>
 u1 as fun a1 r22 =>
 u1 r22 fun a2 r23 =>
 u1 r23 fun a3 r24 =>
 u1 r24 fun a4 r25 =>
 u0 r25 (
 kLen a4 s fun x5 s =>
 kEql x5 (.i .i64 (.ofNat 1)) fun x6 =>
 kCond x6
(kBsl 1 [(.tree [] 0 true)] [(0, 1, a1)] s fun x7 s =>
 retK true s x7 some)
(kLen a4 s fun x8 s =>
 kQuo x8 (.i .i64 (.ofNat 2)) fun x9 =>
 kSlice 1 s a4 none (some x9) none fun x10 s =>
 isoK (R_zf_product φ) [a2, x10] s fun x11 s =>
 kSlice 1 s a4 (some x9) none none fun x12 s =>
 isoK (R_zf_product φ) [a2, x12] s fun x13 s =>
 isoK (tabM B_zf_pair (R_zf_pair φ)) [a1, a2, a3, x11, x13] s fun x14 s =>
 kExt x14 0 s fun x15 s =>
 kExt x14 1 s fun x16 s =>
 kSlice 1 s a4 none (some x9) none fun x17 s =>
 isoK ih [x15, a2, a3, x17] s fun x18 s =>
 kSlice 1 s a4 (some x9) none none fun x19 s =>
 isoK ih [x16, a2, a3, x19] s fun x20 s =>
 kApp 1 24 s x18 x20 fun x21 s =>
 retK true s x21 some))) s0
def R_zf_all (φ : Nat) : List D → Option D := lp (fun _ => none) (Q_zf_all φ) φ
def T123 (φ : Nat) : FTab := setT (T122 φ) 122 (.iso (R_zf_all φ))
def TD123 (φ : Nat) : FTab := TD122 φ
def R_exact_IntGcd (φ : Nat) : List D → Option D :=
fun as =>
(fun (s : LS) =>
 u1 as fun a1 r13 =>
 u1 r13 fun a2 r14 =>
 u0 r14 (
 kBox a1 s fun x3 s =>
 kBox a2 s fun x4 s =>
 kAlloc [(.b false), (.n 0)] s fun x5 s =>
 kFaddr 1 s x3 fun x6 s =>
 kLoad1 s x6 fun x7 s =>
 kFaddr 1 s x4 fun x8 s =>
 kLoad1 s x8 fun x9 s =>
 isoK (natGcdM φ) [x7, x9] s fun x10 s =>
 kBuild [(.b false), (.n 0)] [(1, 1, x10)] s fun x11 s =>
 kStore 2 s x5 x11 fun _ s =>
 kLoadn 2 s x5 fun x12 _ =>
 retK false s x12 some)) s0
def T124 (φ : Nat) : FTab := setT (T123 φ) 123 (.iso (R_exact_IntGcd φ))
def TD124 (φ : Nat) : FTab := TD123 φ
def R_zf_primitive (φ : Nat) : List D → Option D :=
fun as =>
(fun (s : LS) =>
 u1 as fun a1 r45 =>
 u0 r45 (
 kAlloc [(.b false), (.n 0)] s fun x2 s =>
 kLen a1 s fun x3 s =>
 lp (fun (_ _ _ _ _ : D) (_ : LS) => none) (fun (q4 : D → D → D → D → D → LS → Rs) (x5 x6 x7 x8 x9 : D) (s : LS) =>
 kLss x9 x8 fun x10 =>
 kCond x10
(kIaddr 2 s x7 x9 fun x11 s =>
 kLoadn 2 s x11 fun x12 s =>
 kAlloc [(.b false), (.n 0)] s fun x13 s =>
 kStore 2 s x13 x12 fun _ s =>
 kLoadn 2 s x6 fun x14 s =>
 kLoadn 2 s x13 fun x15 s =>
 isoK (R_exact_IntGcd φ) [x14, x15] s fun x16 s =>
 kStore 2 s x6 x16 fun _ s =>
 kAdd x9 (.i .i64 (.ofNat 1)) fun x17 =>
 q4 x5 x6 x7 x8 x17 s)
(jn (fun (x19 x20 : D) (s : LS) =>
 kLen x19 s fun x21 s =>
 kMksl 2 24 [(.b false), (.n 0)] s x21 x21 fun x22 s =>
 kLen x19 s fun x23 s =>
 lp (fun (_ _ _ _ _ : D) (_ : LS) => none) (fun (q24 : D → D → D → D → D → LS → Rs) (x25 x26 x27 x28 x29 : D) (s : LS) =>
 kLss x29 x28 fun x30 =>
 kCond x30
(kIaddr 2 s x27 x29 fun x31 s =>
 kLoadn 2 s x31 fun x32 s =>
 kAlloc [(.b false), (.n 0)] s fun x33 s =>
 kStore 2 s x33 x32 fun _ s =>
 kLoadn 2 s x33 fun x34 s =>
 kLoadn 2 s x25 fun x35 s =>
 isoK (intDivModM φ) [x34, x35] s fun x36 s =>
 kExt x36 0 s fun x37 s =>
 kExt x36 1 s fun x38 s =>
 kIaddr 2 s x26 x29 fun x39 s =>
 kStore 2 s x39 x37 fun _ s =>
 kAdd x29 (.i .i64 (.ofNat 1)) fun x40 =>
 q24 x25 x26 x27 x28 x40 s)
(retK false s x26 some)) φ x20 x22 x19 x23 (.i .i64 (.ofNat 0)) s) fun j18 =>
 isoK (R_zf_Lead φ) [x5] s fun x41 s =>
 kField1 0 x41 s fun x42 s =>
 kCond x42
(kLoadn 2 s x6 fun x43 s =>
 isoK intNegM [x43] s fun x44 s =>
 kStore 2 s x6 x44 fun _ s =>
 j18 x5 x6 s)
(j18 x5 x6 s))) φ a1 x2 a1 x3 (.i .i64 (.ofNat 0)) s)) s0
def T125 (φ : Nat) : FTab := setT (T124 φ) 124 (.iso (R_zf_primitive φ))
def TD125 (φ : Nat) : FTab := TD124 φ
def R_zf_ring_symmetric (φ : Nat) : List D → Option D :=
fun as =>
(fun (s : LS) =>
 u1 as fun a1 r36 =>
 u1 r36 fun a2 r37 =>
 u0 r37 (
 kBox a1 s fun x3 s =>
 kLoadn 2 s x3 fun x4 s =>
 isoK (R_zf_ring_reduce φ) [x4, a2] s fun x5 s =>
 kLen x5 s fun x6 s =>
 lp (fun (_ _ _ _ _ : D) (_ : LS) => none) (fun (q7 : D → D → D → D → D → LS → Rs) (x8 x9 x10 x11 x12 : D) (s : LS) =>
 kLss x12 x11 fun x13 =>
 kCond x13
(jn (fun (x15 x16 x17 x18 x19 : D) (s : LS) =>
 kAdd x19 (.i .i64 (.ofNat 1)) fun x20 =>
 q7 x15 x16 x17 x18 x20 s) fun j14 =>
 kIaddr 2 s x10 x12 fun x21 s =>
 kLoadn 2 s x21 fun x22 s =>
 kAlloc [(.b false), (.n 0)] s fun x23 s =>
 kStore 2 s x23 x22 fun _ s =>
 kLoadn 2 s x23 fun x24 s =>
 kLoadn 2 s x23 fun x25 s =>
 isoK intAddM [x24, x25] s fun x26 s =>
 kFaddr 0 s x8 fun x27 s =>
 kLoadn 2 s x27 fun x28 s =>
 isoK (R_exact_IntCmp φ) [x26, x28] s fun x29 s =>
 kGtr x29 (.i .i64 (.ofNat 0)) fun x30 =>
 kCond x30
(kLoadn 2 s x23 fun x31 s =>
 kFaddr 0 s x8 fun x32 s =>
 kLoadn 2 s x32 fun x33 s =>
 isoK intSubM [x31, x33] s fun x34 s =>
 kIaddr 2 s x9 x12 fun x35 s =>
 kStore 2 s x35 x34 fun _ s =>
 j14 x8 x9 x10 x11 x12 s)
(j14 x8 x9 x10 x11 x12 s))
(retK false s x9 some)) φ x3 x5 x5 x6 (.i .i64 (.ofNat 0)) s)) s0
def T126 (φ : Nat) : FTab := setT (T125 φ) 125 (.iso (R_zf_ring_symmetric φ))
def TD126 (φ : Nat) : FTab := TD125 φ
def R_zf_divide (φ : Nat) : List D → Option D :=
fun as =>
(fun (s : LS) =>
 u1 as fun a1 r74 =>
 u1 r74 fun a2 r75 =>
 u0 r75 (
 kLen a1 s fun x3 s =>
 kLen a2 s fun x4 s =>
 kLss x3 x4 fun x5 =>
 kCond x5
(kLen a1 s fun x6 s =>
 kEql x6 (.i .i64 (.ofNat 0)) fun x7 =>
 retK false s (.tup [(.tree [] 0 true), x7]) some)
(isoK (cloneP (R_slices_Clone_api_ZPoly_api_Int φ)) [a1] s fun x8 s =>
 kLen a1 s fun x9 s =>
 kLen a2 s fun x10 s =>
 kSub x9 x10 fun x11 =>
 kAdd x11 (.i .i64 (.ofNat 1)) fun x12 =>
 kMksl 2 24 [(.b false), (.n 0)] s x12 x12 fun x13 s =>
 kLen x13 s fun x14 s =>
 kSub x14 (.i .i64 (.ofNat 1)) fun x15 =>
 lp (fun (_ _ _ _ : D) (_ : LS) => none) (fun (q16 : D → D → D → D → LS → Rs) (x17 x18 x19 x20 : D) (s : LS) =>
 kGeq x20 (.i .i64 (.ofNat 0)) fun x21 =>
 kCond x21
(jn (fun (x23 x24 x25 x26 : D) (s : LS) =>
 kSub x26 (.i .i64 (.ofNat 1)) fun x27 =>
 q16 x23 x24 x25 x27 s) fun j22 =>
 kLen x17 s fun x28 s =>
 kAdd x20 x28 fun x29 =>
 kSub x29 (.i .i64 (.ofNat 1)) fun x30 =>
 kIaddr 2 s x18 x30 fun x31 s =>
 kLoadn 2 s x31 fun x32 s =>
 isoK (R_zf_Lead φ) [x17] s fun x33 s =>
 isoK (intDivModM φ) [x32, x33] s fun x34 s =>
 kExt x34 0 s fun x35 s =>
 kExt x34 1 s fun x36 s =>
 kAlloc [(.b false), (.n 0)] s fun x37 s =>
 kAlloc [(.b false), (.n 0)] s fun x38 s =>
 kStore 2 s x37 x35 fun _ s =>
 kStore 2 s x38 x36 fun _ s =>
 kFaddr 1 s x38 fun x39 s =>
 kLoad1 s x39 fun x40 s =>
 kNeq x40 (.n 0) fun x41 =>
 kCond x41
(retK false s (.tup [(.tree [] 0 true), (.b false)]) some)
(kLoadn 2 s x37 fun x42 s =>
 kIaddr 2 s x19 x20 fun x43 s =>
 kStore 2 s x43 x42 fun _ s =>
 kFaddr 1 s x37 fun x44 s =>
 kLoad1 s x44 fun x45 s =>
 kEql x45 (.n 0) fun x46 =>
 kCond x46
(j22 x17 x18 x19 x20 s)
(kLen x17 s fun x47 s =>
 lp (fun (_ _ _ _ _ _ _ _ : D) (_ : LS) => none) (fun (q48 : D → D → D → D → D → D → D → D → LS → Rs) (x49 x50 x51 x52 x53 x54 x55 x56 : D) (s : LS) =>
 kLss x56 x55 fun x57 =>
 kCond x57
(kIaddr 2 s x54 x56 fun x58 s =>
 kLoadn 2 s x58 fun x59 s =>
 kAlloc [(.b false), (.n 0)] s fun x60 s =>
 kStore 2 s x60 x59 fun _ s =>
 kAdd x52 x56 fun x61 =>
 kAdd x52 x56 fun x62 =>
 kIaddr 2 s x50 x62 fun x63 s =>
 kLoadn 2 s x63 fun x64 s =>
 kLoadn 2 s x53 fun x65 s =>
 kLoadn 2 s x60 fun x66 s =>
 isoK intMulM [x65, x66] s fun x67 s =>
 isoK intSubM [x64, x67] s fun x68 s =>
 kIaddr 2 s x50 x61 fun x69 s =>
 kStore 2 s x69 x68 fun _ s =>
 kAdd x56 (.i .i64 (.ofNat 1)) fun x70 =>
 q48 x49 x50 x51 x52 x53 x54 x55 x70 s)
(j22 x49 x50 x51 x52 s)) φ x17 x18 x19 x20 x37 x17 x47 (.i .i64 (.ofNat 0)) s)))
((R_zf_trim φ) [x18] s fun x71 s =>
 kLen x71 s fun x72 s =>
 kEql x72 (.i .i64 (.ofNat 0)) fun x73 =>
 retK false s (.tup [x19, x73]) some)) φ a2 x8 x13 x15 s))) s0
def T127 (φ : Nat) : FTab := setT (T126 φ) 126 (.iso (R_zf_divide φ))
def TD127 (φ : Nat) : FTab := TD126 φ
def R_slices_Delete_api_ZPoly_api_ZPoly (φ : Nat) : List D → LS → (D → LS → Rs) → Rs :=
fun as s k =>
 u1 as fun a1 r13 =>
 u1 r13 fun a2 r14 =>
 u1 r14 fun a3 r15 =>
 u0 r15 (
 kLen a1 s fun x4 s =>
 kSlice 1 s a1 (some a2) (some a3) (some x4) fun x5 s =>
 kEql a2 a3 fun x6 =>
 kCond x6
(k a1 s)
(kLen a1 s fun x7 s =>
 kSlice 1 s a1 none (some a2) none fun x8 s =>
 kSlice 1 s a1 (some a3) none none fun x9 s =>
 kApp 1 24 s x8 x9 fun x10 s =>
 kLen x10 s fun x11 s =>
 kSlice 1 s x10 (some x11) (some x7) none fun x12 s =>
 kClr 1 [(.tree [] 0 true)] s x12 fun _ s =>
 k x10 s))
def T128 (φ : Nat) : FTab := setT (T127 φ) 127 (.mem (R_slices_Delete_api_ZPoly_api_ZPoly φ))
def TD128 (φ : Nat) : FTab := TD127 φ
def R_zf_search_try (φ : Nat) : List D → LS → (D → LS → Rs) → Rs :=
fun as s k =>
 u1 as fun a1 r136 =>
 u1 r136 fun a2 r137 =>
 u0 r137 (
 kNilc s a1 fun x3 s =>
 kFaddr 2 s x3 fun x4 s =>
 kLoad1 s x4 fun x5 s =>
 isoK (R_zf_Lead φ) [x5] s fun x6 s =>
 kBsl 1 [(.b false), (.n 0)] [(0, 2, x6)] s fun x7 s =>
 kNilc s a1 fun x8 s =>
 kFaddr 2 s x8 fun x9 s =>
 kLoad1 s x9 fun x10 s =>
 isoK (R_zf_Lead φ) [x10] s fun x11 s =>
 kBsl 1 [(.b false), (.n 0)] [(0, 2, x11)] s fun x12 s =>
 kLen a2 s fun x13 s =>
 lp (fun (_ _ _ _ _ _ _ : D) (_ : LS) => none) (fun (q14 : D → D → D → D → D → D → D → LS → Rs) (x15 x16 x17 x18 x19 x20 x21 : D) (s : LS) =>
 kLss x21 x20 fun x22 =>
 kCond x22
(kIaddr 1 s x19 x21 fun x23 s =>
 kLoad1 s x23 fun x24 s =>
 kNilc s x15 fun x25 s =>
 kFaddr 0 s x25 fun x26 s =>
 kLoadn 2 s x26 fun x27 s =>
 kNilc s x15 fun x28 s =>
 kFaddr 3 s x28 fun x29 s =>
 kLoad1 s x29 fun x30 s =>
 kIaddr 1 s x30 x24 fun x31 s =>
 kLoad1 s x31 fun x32 s =>
 kSlice 2 s x32 none (some (.i .i64 (.ofNat 1))) (some (.i .i64 (.ofNat 1))) fun x33 s =>
 isoK (alone (R_zf_trim φ)) [x33] s fun x34 s =>
 isoK (tabM B_zf_ring_mul (R_zf_ring_mul φ)) [x27, x18, x34] s fun x35 s =>
 kAdd x21 (.i .i64 (.ofNat 1)) fun x36 =>
 q14 x15 x16 x17 x35 x19 x20 x36 s)
(kNilc s x15 fun x37 s =>
 kFaddr 0 s x37 fun x38 s =>
 kLoadn 2 s x38 fun x39 s =>
 isoK (R_zf_ring_symmetric φ) [x39, x18] s fun x40 s =>
 kNilc s x15 fun x41 s =>
 kFaddr 2 s x41 fun x42 s =>
 kLoad1 s x42 fun x43 s =>
 kIaddr 2 s x43 (.i .i64 (.ofNat 0)) fun x44 s =>
 kLoadn 2 s x44 fun x45 s =>
 kNilc s x15 fun x46 s =>
 kFaddr 2 s x46 fun x47 s =>
 kLoad1 s x47 fun x48 s =>
 isoK (R_zf_Lead φ) [x48] s fun x49 s =>
 isoK intMulM [x45, x49] s fun x50 s =>
 kAlloc [(.b false), (.n 0)] s fun x51 s =>
 kStore 2 s x51 x50 fun _ s =>
 kLen x40 s fun x52 s =>
 kEql x52 (.i .i64 (.ofNat 0)) fun x53 =>
 kGuard x53 true (fun k => kFaddr 1 s x51 k) s fun x54 s =>
 kGuard x53 true (fun k => kLoad1 s x54 k) s fun x55 s =>
 kGuard x53 true (fun k => kNeq x55 (.n 0) fun d => k d s) s fun x56 s =>
 kPick x53 x56 (.b false) s fun x57 s =>
 kCond x57
(k (.b false) s)
(jn (fun (x59 x60 x61 : D) (s : LS) =>
 kLen x60 s fun x62 s =>
 lp (fun (_ _ _ _ _ _ : D) (_ : LS) => none) (fun (q63 : D → D → D → D → D → D → LS → Rs) (x64 x65 x66 x67 x68 x69 : D) (s : LS) =>
 kLss x69 x68 fun x70 =>
 kCond x70
(kIaddr 1 s x67 x69 fun x71 s =>
 kLoad1 s x71 fun x72 s =>
 kNilc s x64 fun x73 s =>
 kFaddr 0 s x73 fun x74 s =>
 kLoadn 2 s x74 fun x75 s =>
 kNilc s x64 fun x76 s =>
 kFaddr 3 s x76 fun x77 s =>
 kLoad1 s x77 fun x78 s =>
 kIaddr 1 s x78 x72 fun x79 s =>
 kLoad1 s x79 fun x80 s =>
 isoK (tabM B_zf_ring_mul (R_zf_ring_mul φ)) [x75, x66, x80] s fun x81 s =>
 kAdd x69 (.i .i64 (.ofNat 1)) fun x82 =>
 q63 x64 x65 x81 x67 x68 x82 s)
(kNilc s x64 fun x83 s =>
 kFaddr 0 s x83 fun x84 s =>
 kLoadn 2 s x84 fun x85 s =>
 isoK (R_zf_ring_symmetric φ) [x85, x66] s fun x86 s =>
 isoK (R_zf_primitive φ) [x86] s fun x87 s =>
 kNilc s x64 fun x88 s =>
 kFaddr 2 s x88 fun x89 s =>
 kLoad1 s x89 fun x90 s =>
 isoK (R_zf_divide φ) [x90, x87] s fun x91 s =>
 kExt x91 0 s fun x92 s =>
 kExt x91 1 s fun x93 s =>
 kNot x93 s fun x94 s =>
 kCond x94
(k (.b false) s)
(kNilc s x64 fun x95 s =>
 kFaddr 2 s x95 fun x96 s =>
 kStore 1 s x96 x92 fun _ s =>
 kNilc s x64 fun x97 s =>
 kFaddr 4 s x97 fun x98 s =>
 kLoad1 s x98 fun x99 s =>
 kBsl 1 [(.tree [] 0 true)] [(0, 1, x87)] s fun x100 s =>
 kApp 1 24 s x99 x100 fun x101 s =>
 kNilc s x64 fun x102 s =>
 kFaddr 4 s x102 fun x103 s =>
 kStore 1 s x103 x101 fun _ s =>
 kLen x65 s fun x104 s =>
 kSub x104 (.i .i64 (.ofNat 1)) fun x105 =>
 lp (fun (_ _ _ : D) (_ : LS) => none) (fun (q106 : D → D → D → LS → Rs) (x107 x108 x109 : D) (s : LS) =>
 kGeq x109 (.i .i64 (.ofNat 0)) fun x110 =>
 kCond x110
(kNilc s x107 fun x111 s =>
 kFaddr 3 s x111 fun x112 s =>
 kLoad1 s x112 fun x113 s =>
 kIaddr 1 s x108 x109 fun x114 s =>
 kLoad1 s x114 fun x115 s =>
 kIaddr 1 s x108 x109 fun x116 s =>
 kLoad1 s x116 fun x117 s =>
 kAdd x117 (.i .i64 (.ofNat 1)) fun x118 =>
(R_slices_Delete_api_ZPoly_api_ZPoly φ) [x113, x115, x118] s fun x119 s =>
 kNilc s x107 fun x120 s =>
 kFaddr 3 s x120 fun x121 s =>
 kStore 1 s x121 x119 fun _ s =>
 kSub x109 (.i .i64 (.ofNat 1)) fun x122 =>
 q106 x107 x108 x122 s)
(k (.b true) s)) φ x64 x65 x105 s))) φ x59 x60 x61 x60 x62 (.i .i64 (.ofNat 0)) s) fun j58 =>
 kLen x40 s fun x123 s =>
 kGtr x123 (.i .i64 (.ofNat 0)) fun x124 =>
 kCond x124
(kLoadn 2 s x51 fun x125 s =>
 kIaddr 2 s x40 (.i .i64 (.ofNat 0)) fun x126 s =>
 kLoadn 2 s x126 fun x127 s =>
 isoK (intDivModM φ) [x125, x127] s fun x128 s =>
 kExt x128 0 s fun x129 s =>
 kExt x128 1 s fun x130 s =>
 kAlloc [(.b false), (.n 0)] s fun x131 s =>
 kAlloc [(.b false), (.n 0)] s fun x132 s =>
 kStore 2 s x131 x129 fun _ s =>
 kStore 2 s x132 x130 fun _ s =>
 kFaddr 1 s x132 fun x133 s =>
 kLoad1 s x133 fun x134 s =>
 kNeq x134 (.n 0) fun x135 =>
 kCond x135
(k (.b false) s)
(j58 x15 x16 x17 s))
(j58 x15 x16 x17 s)))) φ a1 a2 x7 x12 a2 x13 (.i .i64 (.ofNat 0)) s)
def T129 (φ : Nat) : FTab := setT (T128 φ) 128 (.mem (R_zf_search_try φ))
def TD129 (φ : Nat) : FTab := TD128 φ
def R_slices_Clone_int_int (φ : Nat) : List D → Option D :=
fun as =>
(fun (s : LS) =>
 u1 as fun a1 r5 =>
 u0 r5 (
 kIsnil false s a1 fun x2 s =>
 kCond x2
(retK true s (.tree [] 0 true) some)
(kBsl 0 [(.i .i64 (.ofNat 0))] [] s fun x3 s =>
 kApp 1 8 s x3 a1 fun x4 s =>
 retK true s x4 some))) s0
def T130 (φ : Nat) : FTab := setT (T129 φ) 129 (.iso (cloneP (R_slices_Clone_int_int φ)))
def TD130 (φ : Nat) : FTab := TD129 φ
def Q_zf_search_size_1 (φ : Nat) (ih : List D → LS → (D → LS → Rs) → Rs) : List D → LS → (D → LS → Rs) → Rs :=
fun as s k =>
 u1 as fun a1 r34 =>
 u1 r34 fun a2 r35 =>
 u1 r35 fun a3 r36 =>
 u1 r36 fun a4 r37 =>
 u1 r37 fun a5 r38 =>
 u0 r38 (
 kLen a2 s fun x6 s =>
 kLoad1 s a3 fun x7 s =>
 kEql x6 x7 fun x8 =>
 kCond x8
(kLoad1 s a4 fun x9 s =>
(R_zf_search_try φ) [x9, a2] s fun x10 s =>
 k x10 s)
(lp (fun (_ _ _ _ _ : D) (_ : LS) => none) (fun (q11 : D → D → D → D → D → LS → Rs) (x12 x13 x14 x15 x16 : D) (s : LS) =>
 kLoad1 s x14 fun x17 s =>
 kNilc s x17 fun x18 s =>
 kFaddr 3 s x18 fun x19 s =>
 kLoad1 s x19 fun x20 s =>
 kLen x20 s fun x21 s =>
 kLoad1 s x13 fun x22 s =>
 kLen x12 s fun x23 s =>
 kSub x22 x23 fun x24 =>
 kSub x21 x24 fun x25 =>
 kLeq x16 x25 fun x26 =>
 kCond x26
(kLoad1 s x15 fun x27 s =>
 kAdd x16 (.i .i64 (.ofNat 1)) fun x28 =>
 isoK (cloneP (R_slices_Clone_int_int φ)) [x12] s fun x29 s =>
 kBsl 1 [(.i .i64 (.ofNat 0))] [(0, 1, x16)] s fun x30 s =>
 kApp 1 8 s x29 x30 fun x31 s =>
 dynK (cnd true (setT (TD130 φ) 130 (.mem ih)) (TD130 φ)) false x27 [x28, x31] s fun x32 s =>
 kS (.apart (.c x15) (.c x29)) s fun _ s =>
 kCond x32
(k (.b true) s)
(kAdd x16 (.i .i64 (.ofNat 1)) fun x33 =>
 q11 x12 x13 x14 x15 x33 s))
(k (.b false) s)) φ a2 a3 a4 a5 a1 s))
def R_zf_search_size_1 (φ : Nat) : List D → LS → (D → LS → Rs) → Rs := lp (fun _ _ _ => none) (Q_zf_search_size_1 φ) φ
def T131 (φ : Nat) : FTab := setT (T130 φ) 130 (.mem (R_zf_search_size_1 φ))
def TD131 (φ : Nat) : FTab := cnd true (setT (TD130 φ) 130 (.mem (R_zf_search_size_1 φ))) (TD130 φ)
def R_zf_search_size (φ : Nat) : List D → LS → (D → LS → Rs) → Rs :=
fun as s k =>
 u1 as fun a1 r8 =>
 u1 r8 fun a2 r9 =>
 u0 r9 (
 kBox a1 s fun x3 s =>
 kBox a2 s fun x4 s =>
 kAlloc [.nf] s fun x5 s =>
 kStore 1 s x5 (.fn 130 [x4, x3, x5]) fun _ s =>
 kLoad1 s x5 fun x6 s =>
 dynK (TD131 φ) false x6 [(.i .i64 (.ofNat 0)), (.tree [] 0 true)] s fun x7 s =>
 k x7 s)
def T132 (φ : Nat) : FTab := setT (T131 φ) 131 (.mem (R_zf_search_size φ))
def TD132 (φ : Nat) : FTab := TD131 φ
def R_zf_split (φ : Nat) : List D → Option D :=
fun as =>
(fun (s : LS) =>
 u1 as fun a1 r66 =>
 u0 r66 (
 kLen a1 s fun x2 s =>
 kEql x2 (.i .i64 (.ofNat 2)) fun x3 =>
 kCond x3
(kBsl 1 [(.tree [] 0 true)] [(0, 1, a1)] s fun x4 s =>
 retK false s x4 some)
(isoK (R_zf_modular φ) [a1] s fun x5 s =>
 kExt x5 0 s fun x6 s =>
 kExt x5 1 s fun x7 s =>
 kLen x7 s fun x8 s =>
 kLeq x8 (.i .i64 (.ofNat 1)) fun x9 =>
 kCond x9
(kBsl 1 [(.tree [] 0 true)] [(0, 1, a1)] s fun x10 s =>
 retK false s x10 some)
(isoK (R_zf_Bound φ) [a1] s fun x11 s =>
 isoK (R_zf_Lead φ) [a1] s fun x12 s =>
 isoK intMulM [x11, x12] s fun x13 s =>
 isoK (R_exact_IntOf φ) [(.i .i64 (.ofNat 2))] s fun x14 s =>
 isoK intMulM [x13, x14] s fun x15 s =>
 kAlloc [(.b false), (.n 0)] s fun x16 s =>
 kStore 2 s x16 x15 fun _ s =>
 isoK (R_exact_IntOf φ) [x6] s fun x17 s =>
 kAlloc [(.b false), (.n 0)] s fun x18 s =>
 kStore 2 s x18 x17 fun _ s =>
 lp (fun (_ _ _ _ _ _ : D) (_ : LS) => none) (fun (q19 : D → D → D → D → D → D → LS → Rs) (x20 x21 x22 x23 x24 x25 : D) (s : LS) =>
 kLoadn 2 s x25 fun x26 s =>
 kLoadn 2 s x23 fun x27 s =>
 isoK (R_exact_IntCmp φ) [x26, x27] s fun x28 s =>
 kLeq x28 (.i .i64 (.ofNat 0)) fun x29 =>
 kCond x29
(kLoadn 2 s x25 fun x30 s =>
 kLoadn 2 s x25 fun x31 s =>
 isoK intMulM [x30, x31] s fun x32 s =>
 kStore 2 s x25 x32 fun _ s =>
 kAdd x24 (.i .i64 (.ofNat 1)) fun x33 =>
 q19 x20 x21 x22 x23 x33 x25 s)
(kLoadn 2 s x25 fun x34 s =>
 kBuild [(.b false), (.n 0)] [(0, 2, x34)] s fun x35 s =>
 kAlloc [(.b false), (.n 0)] s fun x36 s =>
 kStore 2 s x36 x35 fun _ s =>
 kLoadn 2 s x36 fun x37 s =>
 kLoadn 2 s x36 fun x38 s =>
 isoK (R_zf_Lead φ) [x20] s fun x39 s =>
 isoK (R_zf_ring_inverse φ) [x38, x39] s fun x40 s =>
 kBsl 1 [(.b false), (.n 0)] [(0, 2, x40)] s fun x41 s =>
 isoK (tabM B_zf_ring_mul (R_zf_ring_mul φ)) [x37, x20, x41] s fun x42 s =>
 kLoadn 2 s x36 fun x43 s =>
 isoK (R_zf_all φ) [x42, x21, x24, x22] s fun x44 s =>
 kBuild [(.b false), (.n 0), (.tree [] 0 true), (.tree [] 0 true), (.tree [] 0 true)] [(0, 2, x43), (2, 1, x20), (3, 1, x44)] s fun x45 s =>
 kBox x45 s fun x46 s =>
 lp (fun (_ _ : D) (_ : LS) => none) (fun (q47 : D → D → LS → Rs) (x48 x49 : D) (s : LS) =>
 kMul (.i .i64 (.ofNat 2)) x49 fun x50 =>
 kNilc s x48 fun x51 s =>
 kFaddr 3 s x51 fun x52 s =>
 kLoad1 s x52 fun x53 s =>
 kLen x53 s fun x54 s =>
 kLeq x50 x54 fun x55 =>
 kCond x55
((R_zf_search_size φ) [x48, x49] s fun x56 s =>
 kCond x56
(q47 x48 x49 s)
(kAdd x49 (.i .i64 (.ofNat 1)) fun x57 =>
 q47 x48 x57 s))
(kNilc s x48 fun x58 s =>
 kFaddr 4 s x58 fun x59 s =>
 kLoad1 s x59 fun x60 s =>
 kNilc s x48 fun x61 s =>
 kFaddr 2 s x61 fun x62 s =>
 kLoad1 s x62 fun x63 s =>
 kBsl 1 [(.tree [] 0 true)] [(0, 1, x63)] s fun x64 s =>
 kApp 1 24 s x60 x64 fun x65 s =>
 retK false s x65 some)) φ x46 (.i .i64 (.ofNat 1)) s)) φ a1 x6 x7 x16 (.i .i64 (.ofNat 0)) x18 s)))) s0
def T133 (φ : Nat) : FTab := setT (T132 φ) 132 (.iso (R_zf_split φ))
def TD133 (φ : Nat) : FTab := TD132 φ
def R_zf_Whole (φ : Nat) : List D → Option D :=
fun as =>
(fun (s : LS) =>
 u1 as fun a1 r61 =>
 u0 r61 (
 isoK (R_exact_IntOf φ) [(.i .i64 (.ofNat 1))] s fun x2 s =>
 kAlloc [(.b false), (.n 0)] s fun x3 s =>
 kStore 2 s x3 x2 fun _ s =>
 kLen a1 s fun x4 s =>
 lp (fun (_ _ _ _ _ : D) (_ : LS) => none) (fun (q5 : D → D → D → D → D → LS → Rs) (x6 x7 x8 x9 x10 : D) (s : LS) =>
 kLss x10 x9 fun x11 =>
 kCond x11
(kIaddr 3 s x8 x10 fun x12 s =>
 kLoadn 3 s x12 fun x13 s =>
 kAlloc [(.b false), (.n 0), (.n 0)] s fun x14 s =>
 kStore 3 s x14 x13 fun _ s =>
 kFaddr 2 s x14 fun x15 s =>
 kLoad1 s x15 fun x16 s =>
 kBuild [(.b false), (.n 0)] [(1, 1, x16)] s fun x17 s =>
 kAlloc [(.b false), (.n 0)] s fun x18 s =>
 kStore 2 s x18 x17 fun _ s =>
 kLoadn 2 s x18 fun x19 s =>
 kLoadn 2 s x18 fun x20 s =>
 kLoadn 2 s x7 fun x21 s =>
 isoK (R_exact_IntGcd φ) [x20, x21] s fun x22 s =>
 isoK (intDivModM φ) [x19, x22] s fun x23 s =>
 kExt x23 0 s fun x24 s =>
 kExt x23 1 s fun x25 s =>
 kAlloc [(.b false), (.n 0)] s fun x26 s =>
 kAlloc [(.b false), (.n 0)] s fun x27 s =>
 kStore 2 s x26 x24 fun _ s =>
 kStore 2 s x27 x25 fun _ s =>
 kLoadn 2 s x7 fun x28 s =>
 kLoadn 2 s x26 fun x29 s =>
 isoK intMulM [x28, x29] s fun x30 s =>
 kStore 2 s x7 x30 fun _ s =>
 kAdd x10 (.i .i64 (.ofNat 1)) fun x31 =>
 q5 x6 x7 x8 x9 x31 s)
(kLen x6 s fun x32 s =>
 kMksl 2 24 [(.b false), (.n 0)] s x32 x32 fun x33 s =>
 kLen x6 s fun x34 s =>
 lp (fun (_ _ _ _ _ : D) (_ : LS) => none) (fun (q35 : D → D → D → D → D → LS → Rs) (x36 x37 x38 x39 x40 : D) (s : LS) =>
 kLss x40 x39 fun x41 =>
 kCond x41
(kIaddr 3 s x38 x40 fun x42 s =>
 kLoadn 3 s x42 fun x43 s =>
 kAlloc [(.b false), (.n 0), (.n 0)] s fun x44 s =>
 kStore 3 s x44 x43 fun _ s =>
 kLoadn 2 s x36 fun x45 s =>
 kFaddr 2 s x44 fun x46 s =>
 kLoad1 s x46 fun x47 s =>
 kBuild [(.b false), (.n 0)] [(1, 1, x47)] s fun x48 s =>
 isoK (intDivModM φ) [x45, x48] s fun x49 s =>
 kExt x49 0 s fun x50 s =>
 kExt x49 1 s fun x51 s =>
 kAlloc [(.b false), (.n 0)] s fun x52 s =>
 kAlloc [(.b false), (.n 0)] s fun x53 s =>
 kStore 2 s x52 x50 fun _ s =>
 kStore 2 s x53 x51 fun _ s =>
 kFaddr 0 s x44 fun x54 s =>
 kLoadn 2 s x54 fun x55 s =>
 kLoadn 2 s x52 fun x56 s =>
 isoK intMulM [x55, x56] s fun x57 s =>
 kIaddr 2 s x37 x40 fun x58 s =>
 kStore 2 s x58 x57 fun _ s =>
 kAdd x40 (.i .i64 (.ofNat 1)) fun x59 =>
 q35 x36 x37 x38 x39 x59 s)
(isoK (R_zf_primitive φ) [x37] s fun x60 s =>
 retK false s x60 some)) φ x7 x33 x6 x34 (.i .i64 (.ofNat 0)) s)) φ a1 x3 a1 x4 (.i .i64 (.ofNat 0)) s)) s0
def T134 (φ : Nat) : FTab := setT (T133 φ) 133 (.iso (R_zf_Whole φ))
def TD134 (φ : Nat) : FTab := TD133 φ
def R_math_bits_Len32 (φ : Nat) : List D → Option D :=
fun as =>
(fun (s : LS) =>
 u1 as fun a1 r17 =>
 u0 r17 (
 jn (fun (x3 x4 : D) (s : LS) =>
 jn (fun (x6 x7 : D) (s : LS) =>
 kToInt .u8 x6 s fun x8 s =>
 kS (.index (.c (.s [0, 1, 2, 2, 3, 3, 3, 3, 4, 4, 4, 4, 4, 4, 4, 4, 5, 5, 5, 5, 5, 5, 5, 5, 5, 5, 5, 5, 5, 5, 5, 5, 6, 6, 6, 6, 6, 6, 6, 6, 6, 6, 6, 6, 6, 6, 6, 6, 6, 6, 6, 6, 6, 6, 6, 6, 6, 6, 6, 6, 6, 6, 6, 6, 7, 7, 7, 7, 7, 7, 7, 7, 7, 7, 7, 7, 7, 7, 7, 7, 7, 7, 7, 7, 7, 7, 7, 7, 7, 7, 7, 7, 7, 7, 7, 7, 7, 7, 7, 7, 7, 7, 7, 7, 7, 7, 7, 7, 7, 7, 7, 7, 7, 7, 7, 7, 7, 7, 7, 7, 7, 7, 7, 7, 7, 7, 7, 7, 8, 8, 8, 8, 8, 8, 8, 8, 8, 8, 8, 8, 8, 8, 8, 8, 8, 8, 8, 8, 8, 8, 8, 8, 8, 8, 8, 8, 8, 8, 8, 8, 8, 8, 8, 8, 8, 8, 8, 8, 8, 8, 8, 8, 8, 8, 8, 8, 8, 8, 8, 8, 8, 8, 8, 8, 8, 8, 8, 8, 8, 8, 8, 8, 8, 8, 8, 8, 8, 8, 8, 8, 8, 8, 8, 8, 8, 8, 8, 8, 8, 8, 8, 8, 8, 8, 8, 8, 8, 8, 8, 8, 8, 8, 8, 8, 8, 8, 8, 8, 8, 8, 8, 8, 8, 8, 8, 8, 8, 8, 8, 8, 8, 8, 8, 8, 8, 8, 8, 8, 8, 8, 8, 8, 8, 8, 8, 8])) (.c x8)) s fun x9 s =>
 kToInt .i64 x9 s fun x10 s =>
 kAdd x7 x10 fun x11 =>
 retK false s x11 some) fun j5 =>
 kGeq x3 (.i .u32 (.ofNat 256)) fun x12 =>
 kCond x12
(kShr x3 (.i .u64 (.ofNat 8)) fun x13 =>
 kAdd x4 (.i .i64 (.ofNat 8)) fun x14 =>
 j5 x13 x14 s)
(j5 x3 x4 s)) fun j2 =>
 kGeq a1 (.i .u32 (.ofNat 65536)) fun x15 =>
 kCond x15
(kShr a1 (.i .u64 (.ofNat 16)) fun x16 =>
 j2 x16 (.i .i64 (.ofNat 16)) s)
(j2 a1 (.i .i64 (.ofNat 0)) s))) s0
def T135 (φ : Nat) : FTab := setT (T134 φ) 134 (.iso (R_math_bits_Len32 φ))
def TD135 (φ : Nat) : FTab := TD134 φ
def R_math_bits_Len (φ : Nat) : List D → Option D :=
fun as =>
(fun (s : LS) =>
 u1 as fun a1 r5 =>
 u0 r5 (
 kCond (.b false)
(kToInt .u32 a1 s fun x2 s =>
 isoK (R_math_bits_Len32 φ) [x2] s fun x3 s =>
 retK false s x3 some)
(isoK (R_math_bits_Len64 φ) [a1] s fun x4 s =>
 retK false s x4 some))) s0
def T136 (φ : Nat) : FTab := setT (T135 φ) 135 (.iso (R_math_bits_Len φ))
def TD136 (φ : Nat) : FTab := TD135 φ
def R_zf_compare (φ : Nat) : List D → Option D :=
fun as =>
(fun (s : LS) =>
 u1 as fun a1 r23 =>
 u1 r23 fun a2 r24 =>
 u0 r24 (
 kLen a1 s fun x3 s =>
 kLen a2 s fun x4 s =>
 kNeq x3 x4 fun x5 =>
 kCond x5
(kLen a1 s fun x6 s =>
 kLen a2 s fun x7 s =>
 kSub x6 x7 fun x8 =>
 retK false s x8 some)
(kLen a1 s fun x9 s =>
 lp (fun (_ _ _ _ : D) (_ : LS) => none) (fun (q10 : D → D → D → D → LS → Rs) (x11 x12 x13 x14 : D) (s : LS) =>
 kLss x14 x13 fun x15 =>
 kCond x15
(kIaddr 2 s x11 x14 fun x16 s =>
 kLoadn 2 s x16 fun x17 s =>
 kIaddr 2 s x12 x14 fun x18 s =>
 kLoadn 2 s x18 fun x19 s =>
 isoK (R_exact_IntCmp φ) [x17, x19] s fun x20 s =>
 kNeq x20 (.i .i64 (.ofNat 0)) fun x21 =>
 kCond x21
(retK false s x20 some)
(kAdd x14 (.i .i64 (.ofNat 1)) fun x22 =>
 q10 x11 x12 x13 x22 s))
(retK false s (.i .i64 (.ofNat 0)) some)) φ a1 a2 x9 (.i .i64 (.ofNat 0)) s))) s0
def T137 (φ : Nat) : FTab := setT (T136 φ) 136 (.iso (R_zf_compare φ))
def TD137 (φ : Nat) : FTab := TD136 φ
def R_zf_Factors_1 (φ : Nat) : List D → Option D :=
fun as =>
(fun (s : LS) =>
 u1 as fun a1 r10 =>
 u1 r10 fun a2 r11 =>
 u0 r11 (
 kBox a1 s fun x3 s =>
 kBox a2 s fun x4 s =>
 kFaddr 0 s x3 fun x5 s =>
 kLoad1 s x5 fun x6 s =>
 kFaddr 0 s x4 fun x7 s =>
 kLoad1 s x7 fun x8 s =>
 isoK (R_zf_compare φ) [x6, x8] s fun x9 s =>
 retK false s x9 some)) s0
def T138 (φ : Nat) : FTab := setT (T137 φ) 137 (.iso (R_zf_Factors_1 φ))
def TD138 (φ : Nat) : FTab := cnd true (setT (TD137 φ) 137 (.iso (R_zf_Factors_1 φ))) (TD137 φ)
def R_slices_insertionSortCmpFunc_api_ZPower (φ : Nat) : List D → LS → (D → LS → Rs) → Rs :=
fun as s k =>
 u1 as fun a1 r44 =>
 u1 r44 fun a2 r45 =>
 u1 r45 fun a3 r46 =>
 u1 r46 fun a4 r47 =>
 u0 r47 (
 kAdd a2 (.i .i64 (.ofNat 1)) fun x5 =>
 lp (fun (_ _ _ _ _ : D) (_ : LS) => none) (fun (q6 : D → D → D → D → D → LS → Rs) (x7 x8 x9 x10 x11 : D) (s : LS) =>
 kLss x11 x9 fun x12 =>
 kCond x12
(lp (fun (_ _ _ _ _ _ : D) (_ : LS) => none) (fun (q13 : D → D → D → D → D → D → LS → Rs) (x14 x15 x16 x17 x18 x19 : D) (s : LS) =>
 kGtr x19 x15 fun x20 =>
 kGuard x20 true (fun k => k x17 s) s fun x21 s =>
 kGuard x20 true (fun k => k x14 s) s fun x22 s =>
 kGuard x20 true (fun k => k x19 s) s fun x23 s =>
 kGuard x20 true (fun k => kIaddr 2 s x22 x23 k) s fun x24 s =>
 kGuard x20 true (fun k => kLoadn 2 s x24 k) s fun x25 s =>
 kGuard x20 true (fun k => k x14 s) s fun x26 s =>
 kGuard x20 true (fun k => k x19 s) s fun x27 s =>
 kGuard x20 true (fun k => kSub x27 (.i .i64 (.ofNat 1)) fun d => k d s) s fun x28 s =>
 kGuard x20 true (fun k => kIaddr 2 s x26 x28 k) s fun x29 s =>
 kGuard x20 true (fun k => kLoadn 2 s x29 k) s fun x30 s =>
 kGuard x20 true (fun k => dynK (TD138 φ) false x21 [x25, x30] s k) s fun x31 s =>
 kGuard x20 true (fun k => kLss x31 (.i .i64 (.ofNat 0)) fun d => k d s) s fun x32 s =>
 kPick x20 x32 (.b false) s fun x33 s =>
 kCond x33
(kSub x19 (.i .i64 (.ofNat 1)) fun x34 =>
 kSub x19 (.i .i64 (.ofNat 1)) fun x35 =>
 kIaddr 2 s x14 x35 fun x36 s =>
 kLoadn 2 s x36 fun x37 s =>
 kIaddr 2 s x14 x19 fun x38 s =>
 kLoadn 2 s x38 fun x39 s =>
 kIaddr 2 s x14 x19 fun x40 s =>
 kStore 2 s x40 x37 fun _ s =>
 kIaddr 2 s x14 x34 fun x41 s =>
 kStore 2 s x41 x39 fun _ s =>
 kSub x19 (.i .i64 (.ofNat 1)) fun x42 =>
 q13 x14 x15 x16 x17 x18 x42 s)
(kAdd x18 (.i .i64 (.ofNat 1)) fun x43 =>
 q6 x14 x15 x16 x17 x43 s)) φ x7 x8 x9 x10 x11 x11 s)
(k (.tup []) s)) φ a1 a2 a3 a4 x5 s)
def T139 (φ : Nat) : FTab := setT (T138 φ) 138 (.mem (R_slices_insertionSortCmpFunc_api_ZPower φ))
def TD139 (φ : Nat) : FTab := TD138 φ
def R_slices_siftDownCmpFunc_api_ZPower (φ : Nat) : List D → LS → (D → LS → Rs) → Rs :=
fun as s k =>
 u1 as fun a1 r61 =>
 u1 r61 fun a2 r62 =>
 u1 r62 fun a3 r63 =>
 u1 r63 fun a4 r64 =>
 u1 r64 fun a5 r65 =>
 u0 r65 (
 lp (fun (_ _ _ _ _ : D) (_ : LS) => none) (fun (q6 : D → D → D → D → D → LS → Rs) (x7 x8 x9 x10 x11 : D) (s : LS) =>
 kMul (.i .i64 (.ofNat 2)) x11 fun x12 =>
 kAdd x12 (.i .i64 (.ofNat 1)) fun x13 =>
 kGeq x13 x8 fun x14 =>
 kCond x14
(k (.tup []) s)
(jn (fun (x16 x17 x18 x19 x20 x21 : D) (s : LS) =>
 kAdd x18 x20 fun x22 =>
 kIaddr 2 s x16 x22 fun x23 s =>
 kLoadn 2 s x23 fun x24 s =>
 kAdd x18 x21 fun x25 =>
 kIaddr 2 s x16 x25 fun x26 s =>
 kLoadn 2 s x26 fun x27 s =>
 dynK (TD139 φ) false x19 [x24, x27] s fun x28 s =>
 kLss x28 (.i .i64 (.ofNat 0)) fun x29 =>
 kNot x29 s fun x30 s =>
 kCond x30
(k (.tup []) s)
(kAdd x18 x20 fun x31 =>
 kAdd x18 x21 fun x32 =>
 kAdd x18 x21 fun x33 =>
 kIaddr 2 s x16 x33 fun x34 s =>
 kLoadn 2 s x34 fun x35 s =>
 kAdd x18 x20 fun x36 =>
 kIaddr 2 s x16 x36 fun x37 s =>
 kLoadn 2 s x37 fun x38 s =>
 kIaddr 2 s x16 x31 fun x39 s =>
 kStore 2 s x39 x35 fun _ s =>
 kIaddr 2 s x16 x32 fun x40 s =>
 kStore 2 s x40 x38 fun _ s =>
 q6 x16 x17 x18 x19 x21 s)) fun j15 =>
 kAdd x13 (.i .i64 (.ofNat 1)) fun x41 =>
 kLss x41 x8 fun x42 =>
 kGuard x42 true (fun k => k x10 s) s fun x43 s =>
 kGuard x42 true (fun k => k x7 s) s fun x44 s =>
 kGuard x42 true (fun k => k x9 s) s fun x45 s =>
 kGuard x42 true (fun k => k x13 s) s fun x46 s =>
 kGuard x42 true (fun k => kAdd x45 x46 fun d => k d s) s fun x47 s =>
 kGuard x42 true (fun k => kIaddr 2 s x44 x47 k) s fun x48 s =>
 kGuard x42 true (fun k => kLoadn 2 s x48 k) s fun x49 s =>
 kGuard x42 true (fun k => k x7 s) s fun x50 s =>
 kGuard x42 true (fun k => k x9 s) s fun x51 s =>
 kGuard x42 true (fun k => k x13 s) s fun x52 s =>
 kGuard x42 true (fun k => kAdd x51 x52 fun d => k d s) s fun x53 s =>
 kGuard x42 true (fun k => kAdd x53 (.i .i64 (.ofNat 1)) fun d => k d s) s fun x54 s =>
 kGuard x42 true (fun k => kIaddr 2 s x50 x54 k) s fun x55 s =>
 kGuard x42 true (fun k => kLoadn 2 s x55 k) s fun x56 s =>
 kGuard x42 true (fun k => dynK (TD139 φ) false x43 [x49, x56] s k) s fun x57 s =>
 kGuard x42 true (fun k => kLss x57 (.i .i64 (.ofNat 0)) fun d => k d s) s fun x58 s =>
 kPick x42 x58 (.b false) s fun x59 s =>
 kCond x59
(kAdd x13 (.i .i64 (.ofNat 1)) fun x60 =>
 j15 x7 x8 x9 x10 x11 x60 s)
(j15 x7 x8 x9 x10 x11 x13 s))) φ a1 a3 a4 a5 a2 s)
def T140 (φ : Nat) : FTab := setT (T139 φ) 139 (.mem (R_slices_siftDownCmpFunc_api_ZPower φ))
def TD140 (φ : Nat) : FTab := TD139 φ
def R_slices_heapSortCmpFunc_api_ZPower (φ : Nat) : List D → LS → (D → LS → Rs) → Rs :=
fun as s k =>
 u1 as fun a1 r36 =>
 u1 r36 fun a2 r37 =>
 u1 r37 fun a3 r38 =>
 u1 r38 fun a4 r39 =>
 u0 r39 (
 kSub a3 a2 fun x5 =>
 kSub x5 (.i .i64 (.ofNat 1)) fun x6 =>
 kQuo x6 (.i .i64 (.ofNat 2)) fun x7 =>
 lp (fun (_ _ _ _ _ _ : D) (_ : LS) => none) (fun (q8 : D → D → D → D → D → D → LS → Rs) (x9 x10 x11 x12 x13 x14 : D) (s : LS) =>
 kGeq x14 (.i .i64 (.ofNat 0)) fun x15 =>
 kCond x15
((R_slices_siftDownCmpFunc_api_ZPower φ) [x9, x14, x13, x11, x10] s fun x16 s =>
 kSub x14 (.i .i64 (.ofNat 1)) fun x17 =>
 q8 x9 x10 x11 x12 x13 x17 s)
(kSub x13 (.i .i64 (.ofNat 1)) fun x18 =>
 lp (fun (_ _ _ _ _ : D) (_ : LS) => none) (fun (q19 : D → D → D → D → D → LS → Rs) (x20 x21 x22 x23 x24 : D) (s : LS) =>
 kGeq x24 (.i .i64 (.ofNat 0)) fun x25 =>
 kCond x25
(kAdd x22 x24 fun x26 =>
 kAdd x22 x24 fun x27 =>
 kIaddr 2 s x20 x27 fun x28 s =>
 kLoadn 2 s x28 fun x29 s =>
 kIaddr 2 s x20 x22 fun x30 s =>
 kLoadn 2 s x30 fun x31 s =>
 kIaddr 2 s x20 x22 fun x32 s =>
 kStore 2 s x32 x29 fun _ s =>
 kIaddr 2 s x20 x26 fun x33 s =>
 kStore 2 s x33 x31 fun _ s =>
(R_slices_siftDownCmpFunc_api_ZPower φ) [x20, x23, x24, x22, x21] s fun x34 s =>
 kSub x24 (.i .i64 (.ofNat 1)) fun x35 =>
 q19 x20 x21 x22 x23 x35 s)
(k (.tup []) s)) φ x9 x10 x11 x12 x18 s)) φ a1 a4 a2 (.i .i64 (.ofNat 0)) x5 x7 s)
def T141 (φ : Nat) : FTab := setT (T140 φ) 140 (.mem (R_slices_heapSortCmpFunc_api_ZPower φ))
def TD141 (φ : Nat) : FTab := TD140 φ
def R_slices_nextPowerOfTwo (φ : Nat) : List D → LS → (D → LS → Rs) → Rs :=
fun as s k =>
 u1 as fun a1 r5 =>
 u0 r5 (
 kToInt .u64 a1 s fun x2 s =>
 isoK (R_math_bits_Len φ) [x2] s fun x3 s =>
 kShl (.i .u64 (.ofNat 1)) x3 fun x4 =>
 k x4 s)
def T142 (φ : Nat) : FTab := setT (T141 φ) 141 (.mem (R_slices_nextPowerOfTwo φ))
def TD142 (φ : Nat) : FTab := TD141 φ
def R_slices_xorshift_Next (φ : Nat) : List D → Option D :=
fun as =>
(fun (s : LS) =>
 u1 as fun a1 r25 =>
 u0 r25 (
 kNilc s a1 fun x2 s =>
 kLoad1 s x2 fun x3 s =>
 kNilc s a1 fun x4 s =>
 kLoad1 s x4 fun x5 s =>
 kShl x5 (.i .u64 (.ofNat 13)) fun x6 =>
 kSlowB .xor x3 x6 fun x7 =>
 kNilc s a1 fun x8 s =>
 kStore 1 s x8 x7 fun _ s =>
 kNilc s a1 fun x9 s =>
 kLoad1 s x9 fun x10 s =>
 kNilc s a1 fun x11 s =>
 kLoad1 s x11 fun x12 s =>
 kShr x12 (.i .u64 (.ofNat 7)) fun x13 =>
 kSlowB .xor x10 x13 fun x14 =>
 kNilc s a1 fun x15 s =>
 kStore 1 s x15 x14 fun _ s =>
 kNilc s a1 fun x16 s =>
 kLoad1 s x16 fun x17 s =>
 kNilc s a1 fun x18 s =>
 kLoad1 s x18 fun x19 s =>
 kShl x19 (.i .u64 (.ofNat 17)) fun x20 =>
 kSlowB .xor x17 x20 fun x21 =>
 kNilc s a1 fun x22 s =>
 kStore 1 s x22 x21 fun _ s =>
 kNilc s a1 fun x23 s =>
 kLoad1 s x23 fun x24 s =>
 retK false s x24 some)) s0
def T143 (φ : Nat) : FTab := setT (T142 φ) 142 (.iso (R_slices_xorshift_Next φ))
def TD143 (φ : Nat) : FTab := TD142 φ
def R_slices_breakPatternsCmpFunc_api_ZPower (φ : Nat) : List D → LS → (D → LS → Rs) → Rs :=
fun as s k =>
 u1 as fun a1 r49 =>
 u1 r49 fun a2 r50 =>
 u1 r50 fun a3 r51 =>
 u1 r51 fun a4 r52 =>
 u0 r52 (
 kSub a3 a2 fun x5 =>
 kGeq x5 (.i .i64 (.ofNat 8)) fun x6 =>
 kCond x6
(kToInt .u64 x5 s fun x7 s =>
 kAlloc [(.i .u64 (.ofNat 0))] s fun x8 s =>
 kStore 1 s x8 x7 fun _ s =>
(R_slices_nextPowerOfTwo φ) [x5] s fun x9 s =>
 kQuo x5 (.i .i64 (.ofNat 4)) fun x10 =>
 kMul x10 (.i .i64 (.ofNat 2)) fun x11 =>
 kAdd a2 x11 fun x12 =>
 kSub x12 (.i .i64 (.ofNat 1)) fun x13 =>
 lp (fun (_ _ _ _ _ _ : D) (_ : LS) => none) (fun (q14 : D → D → D → D → D → D → LS → Rs) (x15 x16 x17 x18 x19 x20 : D) (s : LS) =>
 kQuo x17 (.i .i64 (.ofNat 4)) fun x21 =>
 kMul x21 (.i .i64 (.ofNat 2)) fun x22 =>
 kAdd x16 x22 fun x23 =>
 kAdd x23 (.i .i64 (.ofNat 1)) fun x24 =>
 kLeq x20 x24 fun x25 =>
 kCond x25
(isoK (R_slices_xorshift_Next φ) [x18] s fun x26 s =>
 kSub x19 (.i .u64 (.ofNat 1)) fun x27 =>
 kAnd x26 x27 fun x28 =>
 kToInt .i64 x28 s fun x29 s =>
 jn (fun (x31 x32 x33 x34 x35 x36 x37 : D) (s : LS) =>
 kAdd x32 x37 fun x38 =>
 kAdd x32 x37 fun x39 =>
 kIaddr 2 s x31 x39 fun x40 s =>
 kLoadn 2 s x40 fun x41 s =>
 kIaddr 2 s x31 x36 fun x42 s =>
 kLoadn 2 s x42 fun x43 s =>
 kIaddr 2 s x31 x36 fun x44 s =>
 kStore 2 s x44 x41 fun _ s =>
 kIaddr 2 s x31 x38 fun x45 s =>
 kStore 2 s x45 x43 fun _ s =>
 kAdd x36 (.i .i64 (.ofNat 1)) fun x46 =>
 q14 x31 x32 x33 x34 x35 x46 s) fun j30 =>
 kGeq x29 x17 fun x47 =>
 kCond x47
(kSub x29 x17 fun x48 =>
 j30 x15 x16 x17 x18 x19 x20 x48 s)
(j30 x15 x16 x17 x18 x19 x20 x29 s))
(k (.tup []) s)) φ a1 a2 x5 x8 x9 x13 s)
(k (.tup []) s))
def T144 (φ : Nat) : FTab := setT (T143 φ) 143 (.mem (R_slices_breakPatternsCmpFunc_api_ZPower φ))
def TD144 (φ : Nat) : FTab := TD143 φ
def R_slices_order2CmpFunc_api_ZPower (φ : Nat) : List D → LS → (D → LS → Rs) → Rs :=
fun as s k =>
 u1 as fun a1 r16 =>
 u1 r16 fun a2 r17 =>
 u1 r17 fun a3 r18 =>
 u1 r18 fun a4 r19 =>
 u1 r19 fun a5 r20 =>
 u0 r20 (
 kIaddr 2 s a1 a3 fun x6 s =>
 kLoadn 2 s x6 fun x7 s =>
 kIaddr 2 s a1 a2 fun x8 s =>
 kLoadn 2 s x8 fun x9 s =>
 dynK (TD144 φ) false a5 [x7, x9] s fun x10 s =>
 kLss x10 (.i .i64 (.ofNat 0)) fun x11 =>
 kCond x11
(kNilc s a4 fun x12 s =>
 kLoad1 s x12 fun x13 s =>
 kAdd x13 (.i .i64 (.ofNat 1)) fun x14 =>
 kNilc s a4 fun x15 s =>
 kStore 1 s x15 x14 fun _ s =>
 k (.tup [a3, a2]) s)
(k (.tup [a2, a3]) s))
def T145 (φ : Nat) : FTab := setT (T144 φ) 144 (.mem (R_slices_order2CmpFunc_api_ZPower φ))
def TD145 (φ : Nat) : FTab := TD144 φ
def R_slices_medianCmpFunc_api_ZPower (φ : Nat) : List D → LS → (D → LS → Rs) → Rs :=
fun as s k =>
 u1 as fun a1 r16 =>
 u1 r16 fun a2 r17 =>
 u1 r17 fun a3 r18 =>
 u1 r18 fun a4 r19 =>
 u1 r19 fun a5 r20 =>
 u1 r20 fun a6 r21 =>
 u0 r21 (
(R_slices_order2CmpFunc_api_ZPower φ) [a1, a2, a3, a5, a6] s fun x7 s =>
 kExt x7 0 s fun x8 s =>
 kExt x7 1 s fun x9 s =>
(R_slices_order2CmpFunc_api_ZPower φ) [a1, x9, a4, a5, a6] s fun x10 s =>
 kExt x10 0 s fun x11 s =>
 kExt x10 1 s fun x12 s =>
(R_slices_order2CmpFunc_api_ZPower φ) [a1, x8, x11, a5, a6] s fun x13 s =>
 kExt x13 0 s fun x14 s =>
 kExt x13 1 s fun x15 s =>
 k x15 s)
def T146 (φ : Nat) : FTab := setT (T145 φ) 145 (.mem (R_slices_medianCmpFunc_api_ZPower φ))
def TD146 (φ : Nat) : FTab := TD145 φ
def R_slices_medianAdjacentCmpFunc_api_ZPower (φ : Nat) : List D → LS → (D → LS → Rs) → Rs :=
fun as s k =>
 u1 as fun a1 r8 =>
 u1 r8 fun a2 r9 =>
 u1 r9 fun a3 r10 =>
 u1 r10 fun a4 r11 =>
 u0 r11 (
 kSub a2 (.i .i64 (.ofNat 1)) fun x5 =>
 kAdd a2 (.i .i64 (.ofNat 1)) fun x6 =>
(R_slices_medianCmpFunc_api_ZPower φ) [a1, x5, a2, x6, a3, a4] s fun x7 s =>
 k x7 s)
def T147 (φ : Nat) : FTab := setT (T146 φ) 146 (.mem (R_slices_medianAdjacentCmpFunc_api_ZPower φ))
def TD147 (φ : Nat) : FTab := TD146 φ
def R_slices_choosePivotCmpFunc_api_ZPower (φ : Nat) : List D → LS → (D → LS → Rs) → Rs :=
fun as s k =>
 u1 as fun a1 r35 =>
 u1 r35 fun a2 r36 =>
 u1 r36 fun a3 r37 =>
 u1 r37 fun a4 r38 =>
 u0 r38 (
 kSub a3 a2 fun x5 =>
 kAlloc [(.i .i64 (.ofNat 0))] s fun x6 s =>
 kQuo x5 (.i .i64 (.ofNat 4)) fun x7 =>
 kMul x7 (.i .i64 (.ofNat 1)) fun x8 =>
 kAdd a2 x8 fun x9 =>
 kQuo x5 (.i .i64 (.ofNat 4)) fun x10 =>
 kMul x10 (.i .i64 (.ofNat 2)) fun x11 =>
 kAdd a2 x11 fun x12 =>
 kQuo x5 (.i .i64 (.ofNat 4)) fun x13 =>
 kMul x13 (.i .i64 (.ofNat 3)) fun x14 =>
 kAdd a2 x14 fun x15 =>
 jn (fun (x17 x18 : D) (s : LS) =>
 kLoad1 s x17 fun x19 s =>
 kEql x19 (.i .i64 (.ofNat 0)) fun x20 =>
 kCond x20
(k (.tup [x18, (.i .i64 (.ofNat 1))]) s)
(kEql x19 (.i .i64 (.ofNat 12)) fun x21 =>
 kCond x21
(k (.tup [x18, (.i .i64 (.ofNat 2))]) s)
(k (.tup [x18, (.i .i64 (.ofNat 0))]) s))) fun j16 =>
 kGeq x5 (.i .i64 (.ofNat 8)) fun x22 =>
 kCond x22
(jn (fun (x24 x25 x26 x27 x28 x29 : D) (s : LS) =>
(R_slices_medianCmpFunc_api_ZPower φ) [x24, x27, x28, x29, x26, x25] s fun x30 s =>
 j16 x26 x30 s) fun j23 =>
 kGeq x5 (.i .i64 (.ofNat 50)) fun x31 =>
 kCond x31
((R_slices_medianAdjacentCmpFunc_api_ZPower φ) [a1, x9, x6, a4] s fun x32 s =>
(R_slices_medianAdjacentCmpFunc_api_ZPower φ) [a1, x12, x6, a4] s fun x33 s =>
(R_slices_medianAdjacentCmpFunc_api_ZPower φ) [a1, x15, x6, a4] s fun x34 s =>
 j23 a1 a4 x6 x32 x33 x34 s)
(j23 a1 a4 x6 x9 x12 x15 s))
(j16 x6 x12 s))
def T148 (φ : Nat) : FTab := setT (T147 φ) 147 (.mem (R_slices_choosePivotCmpFunc_api_ZPower φ))
def TD148 (φ : Nat) : FTab := TD147 φ
def R_slices_reverseRangeCmpFunc_api_ZPower (φ : Nat) : List D → LS → (D → LS → Rs) → Rs :=
fun as s k =>
 u1 as fun a1 r19 =>
 u1 r19 fun a2 r20 =>
 u1 r20 fun a3 r21 =>
 u1 r21 fun a4 r22 =>
 u0 r22 (
 kSub a3 (.i .i64 (.ofNat 1)) fun x5 =>
 lp (fun (_ _ _ : D) (_ : LS) => none) (fun (q6 : D → D → D → LS → Rs) (x7 x8 x9 : D) (s : LS) =>
 kLss x8 x9 fun x10 =>
 kCond x10
(kIaddr 2 s x7 x9 fun x11 s =>
 kLoadn 2 s x11 fun x12 s =>
 kIaddr 2 s x7 x8 fun x13 s =>
 kLoadn 2 s x13 fun x14 s =>
 kIaddr 2 s x7 x8 fun x15 s =>
 kStore 2 s x15 x12 fun _ s =>
 kIaddr 2 s x7 x9 fun x16 s =>
 kStore 2 s x16 x14 fun _ s =>
 kAdd x8 (.i .i64 (.ofNat 1)) fun x17 =>
 kSub x9 (.i .i64 (.ofNat 1)) fun x18 =>
 q6 x7 x17 x18 s)
(k (.tup []) s)) φ a1 a2 x5 s)
def T149 (φ : Nat) : FTab := setT (T148 φ) 148 (.mem (R_slices_reverseRangeCmpFunc_api_ZPower φ))
def TD149 (φ : Nat) : FTab := TD148 φ
def R_slices_partialInsertionSortCmpFunc_api_ZPower (φ : Nat) : List D → LS → (D → LS → Rs) → Rs :=
fun as s k =>
 u1 as fun a1 r121 =>
 u1 r121 fun a2 r122 =>
 u1 r122 fun a3 r123 =>
 u1 r123 fun a4 r124 =>
 u0 r124 (
 kAdd a2 (.i .i64 (.ofNat 1)) fun x5 =>
 lp (fun (_ _ _ _ _ _ : D) (_ : LS) => none) (fun (q6 : D → D → D → D → D → D → LS → Rs) (x7 x8 x9 x10 x11 x12 : D) (s : LS) =>
 kLss x12 (.i .i64 (.ofNat 5)) fun x13 =>
 kCond x13
(jn (fun (x15 x16 x17 x18 x19 x20 : D) (s : LS) =>
 kAdd x20 (.i .i64 (.ofNat 1)) fun x21 =>
 q6 x15 x16 x17 x18 x19 x21 s) fun j14 =>
 lp (fun (_ _ _ _ _ _ : D) (_ : LS) => none) (fun (q22 : D → D → D → D → D → D → LS → Rs) (x23 x24 x25 x26 x27 x28 : D) (s : LS) =>
 kLss x27 x25 fun x29 =>
 kGuard x29 true (fun k => k x26 s) s fun x30 s =>
 kGuard x29 true (fun k => k x23 s) s fun x31 s =>
 kGuard x29 true (fun k => k x27 s) s fun x32 s =>
 kGuard x29 true (fun k => kIaddr 2 s x31 x32 k) s fun x33 s =>
 kGuard x29 true (fun k => kLoadn 2 s x33 k) s fun x34 s =>
 kGuard x29 true (fun k => k x23 s) s fun x35 s =>
 kGuard x29 true (fun k => k x27 s) s fun x36 s =>
 kGuard x29 true (fun k => kSub x36 (.i .i64 (.ofNat 1)) fun d => k d s) s fun x37 s =>
 kGuard x29 true (fun k => kIaddr 2 s x35 x37 k) s fun x38 s =>
 kGuard x29 true (fun k => kLoadn 2 s x38 k) s fun x39 s =>
 kGuard x29 true (fun k => dynK (TD149 φ) false x30 [x34, x39] s k) s fun x40 s =>
 kGuard x29 true (fun k => kLss x40 (.i .i64 (.ofNat 0)) fun d => k d s) s fun x41 s =>
 kGuard x29 true (fun k => kNot x41 s k) s fun x42 s =>
 kPick x29 x42 (.b false) s fun x43 s =>
 kCond x43
(kAdd x27 (.i .i64 (.ofNat 1)) fun x44 =>
 q22 x23 x24 x25 x26 x44 x28 s)
(kEql x27 x25 fun x45 =>
 kCond x45
(k (.b true) s)
(kSub x25 x24 fun x46 =>
 kLss x46 (.i .i64 (.ofNat 50)) fun x47 =>
 kCond x47
(k (.b false) s)
(kSub x27 (.i .i64 (.ofNat 1)) fun x48 =>
 kSub x27 (.i .i64 (.ofNat 1)) fun x49 =>
 kIaddr 2 s x23 x49 fun x50 s =>
 kLoadn 2 s x50 fun x51 s =>
 kIaddr 2 s x23 x27 fun x52 s =>
 kLoadn 2 s x52 fun x53 s =>
 kIaddr 2 s x23 x27 fun x54 s =>
 kStore 2 s x54 x51 fun _ s =>
 kIaddr 2 s x23 x48 fun x55 s =>
 kStore 2 s x55 x53 fun _ s =>
 jn (fun (x57 x58 x59 x60 x61 x62 : D) (s : LS) =>
 kSub x59 x61 fun x63 =>
 kGeq x63 (.i .i64 (.ofNat 2)) fun x64 =>
 kCond x64
(kAdd x61 (.i .i64 (.ofNat 1)) fun x65 =>
 lp (fun (_ _ _ _ _ _ _ : D) (_ : LS) => none) (fun (q66 : D → D → D → D → D → D → D → LS → Rs) (x67 x68 x69 x70 x71 x72 x73 : D) (s : LS) =>
 kLss x73 x69 fun x74 =>
 kCond x74
(kIaddr 2 s x67 x73 fun x75 s =>
 kLoadn 2 s x75 fun x76 s =>
 kSub x73 (.i .i64 (.ofNat 1)) fun x77 =>
 kIaddr 2 s x67 x77 fun x78 s =>
 kLoadn 2 s x78 fun x79 s =>
 dynK (TD149 φ) false x70 [x76, x79] s fun x80 s =>
 kLss x80 (.i .i64 (.ofNat 0)) fun x81 =>
 kNot x81 s fun x82 s =>
 kCond x82
(j14 x67 x68 x69 x70 x71 x72 s)
(kSub x73 (.i .i64 (.ofNat 1)) fun x83 =>
 kSub x73 (.i .i64 (.ofNat 1)) fun x84 =>
 kIaddr 2 s x67 x84 fun x85 s =>
 kLoadn 2 s x85 fun x86 s =>
 kIaddr 2 s x67 x73 fun x87 s =>
 kLoadn 2 s x87 fun x88 s =>
 kIaddr 2 s x67 x73 fun x89 s =>
 kStore 2 s x89 x86 fun _ s =>
 kIaddr 2 s x67 x83 fun x90 s =>
 kStore 2 s x90 x88 fun _ s =>
 kAdd x73 (.i .i64 (.ofNat 1)) fun x91 =>
 q66 x67 x68 x69 x70 x71 x72 x91 s))
(j14 x67 x68 x69 x70 x71 x72 s)) φ x57 x58 x59 x60 x61 x62 x65 s)
(j14 x57 x58 x59 x60 x61 x62 s)) fun j56 =>
 kSub x27 x24 fun x92 =>
 kGeq x92 (.i .i64 (.ofNat 2)) fun x93 =>
 kCond x93
(kSub x27 (.i .i64 (.ofNat 1)) fun x94 =>
 lp (fun (_ _ _ _ _ _ _ : D) (_ : LS) => none) (fun (q95 : D → D → D → D → D → D → D → LS → Rs) (x96 x97 x98 x99 x100 x101 x102 : D) (s : LS) =>
 kGeq x102 (.i .i64 (.ofNat 1)) fun x103 =>
 kCond x103
(kIaddr 2 s x96 x102 fun x104 s =>
 kLoadn 2 s x104 fun x105 s =>
 kSub x102 (.i .i64 (.ofNat 1)) fun x106 =>
 kIaddr 2 s x96 x106 fun x107 s =>
 kLoadn 2 s x107 fun x108 s =>
 dynK (TD149 φ) false x99 [x105, x108] s fun x109 s =>
 kLss x109 (.i .i64 (.ofNat 0)) fun x110 =>
 kNot x110 s fun x111 s =>
 kCond x111
(j56 x96 x97 x98 x99 x100 x101 s)
(kSub x102 (.i .i64 (.ofNat 1)) fun x112 =>
 kSub x102 (.i .i64 (.ofNat 1)) fun x113 =>
 kIaddr 2 s x96 x113 fun x114 s =>
 kLoadn 2 s x114 fun x115 s =>
 kIaddr 2 s x96 x102 fun x116 s =>
 kLoadn 2 s x116 fun x117 s =>
 kIaddr 2 s x96 x102 fun x118 s =>
 kStore 2 s x118 x115 fun _ s =>
 kIaddr 2 s x96 x112 fun x119 s =>
 kStore 2 s x119 x117 fun _ s =>
 kSub x102 (.i .i64 (.ofNat 1)) fun x120 =>
 q95 x96 x97 x98 x99 x100 x101 x120 s))
(j56 x96 x97 x98 x99 x100 x101 s)) φ x23 x24 x25 x26 x27 x28 x94 s)
(j56 x23 x24 x25 x26 x27 x28 s))))) φ x7 x8 x9 x10 x11 x12 s)
(k (.b false) s)) φ a1 a2 a3 a4 x5 (.i .i64 (.ofNat 0)) s)
def T150 (φ : Nat) : FTab := setT (T149 φ) 149 (.mem (R_slices_partialInsertionSortCmpFunc_api_ZPower φ))
def TD150 (φ : Nat) : FTab := TD149 φ
def R_slices_partitionEqualCmpFunc_api_ZPower (φ : Nat) : List D → LS → (D → LS → Rs) → Rs :=
fun as s k =>
 u1 as fun a1 r70 =>
 u1 r70 fun a2 r71 =>
 u1 r71 fun a3 r72 =>
 u1 r72 fun a4 r73 =>
 u1 r73 fun a5 r74 =>
 u0 r74 (
 kIaddr 2 s a1 a4 fun x6 s =>
 kLoadn 2 s x6 fun x7 s =>
 kIaddr 2 s a1 a2 fun x8 s =>
 kLoadn 2 s x8 fun x9 s =>
 kIaddr 2 s a1 a2 fun x10 s =>
 kStore 2 s x10 x7 fun _ s =>
 kIaddr 2 s a1 a4 fun x11 s =>
 kStore 2 s x11 x9 fun _ s =>
 kAdd a2 (.i .i64 (.ofNat 1)) fun x12 =>
 kSub a3 (.i .i64 (.ofNat 1)) fun x13 =>
 lp (fun (_ _ _ _ _ : D) (_ : LS) => none) (fun (q14 : D → D → D → D → D → LS → Rs) (x15 x16 x17 x18 x19 : D) (s : LS) =>
 lp (fun (_ _ _ _ _ : D) (_ : LS) => none) (fun (q20 : D → D → D → D → D → LS → Rs) (x21 x22 x23 x24 x25 : D) (s : LS) =>
 kLeq x24 x25 fun x26 =>
 kGuard x26 true (fun k => k x23 s) s fun x27 s =>
 kGuard x26 true (fun k => k x21 s) s fun x28 s =>
 kGuard x26 true (fun k => k x22 s) s fun x29 s =>
 kGuard x26 true (fun k => kIaddr 2 s x28 x29 k) s fun x30 s =>
 kGuard x26 true (fun k => kLoadn 2 s x30 k) s fun x31 s =>
 kGuard x26 true (fun k => k x21 s) s fun x32 s =>
 kGuard x26 true (fun k => k x24 s) s fun x33 s =>
 kGuard x26 true (fun k => kIaddr 2 s x32 x33 k) s fun x34 s =>
 kGuard x26 true (fun k => kLoadn 2 s x34 k) s fun x35 s =>
 kGuard x26 true (fun k => dynK (TD150 φ) false x27 [x31, x35] s k) s fun x36 s =>
 kGuard x26 true (fun k => kLss x36 (.i .i64 (.ofNat 0)) fun d => k d s) s fun x37 s =>
 kGuard x26 true (fun k => kNot x37 s k) s fun x38 s =>
 kPick x26 x38 (.b false) s fun x39 s =>
 kCond x39
(kAdd x24 (.i .i64 (.ofNat 1)) fun x40 =>
 q20 x21 x22 x23 x40 x25 s)
(lp (fun (_ _ _ _ _ : D) (_ : LS) => none) (fun (q41 : D → D → D → D → D → LS → Rs) (x42 x43 x44 x45 x46 : D) (s : LS) =>
 kLeq x45 x46 fun x47 =>
 kGuard x47 true (fun k => k x44 s) s fun x48 s =>
 kGuard x47 true (fun k => k x42 s) s fun x49 s =>
 kGuard x47 true (fun k => k x43 s) s fun x50 s =>
 kGuard x47 true (fun k => kIaddr 2 s x49 x50 k) s fun x51 s =>
 kGuard x47 true (fun k => kLoadn 2 s x51 k) s fun x52 s =>
 kGuard x47 true (fun k => k x42 s) s fun x53 s =>
 kGuard x47 true (fun k => k x46 s) s fun x54 s =>
 kGuard x47 true (fun k => kIaddr 2 s x53 x54 k) s fun x55 s =>
 kGuard x47 true (fun k => kLoadn 2 s x55 k) s fun x56 s =>
 kGuard x47 true (fun k => dynK (TD150 φ) false x48 [x52, x56] s k) s fun x57 s =>
 kGuard x47 true (fun k => kLss x57 (.i .i64 (.ofNat 0)) fun d => k d s) s fun x58 s =>
 kPick x47 x58 (.b false) s fun x59 s =>
 kCond x59
(kSub x46 (.i .i64 (.ofNat 1)) fun x60 =>
 q41 x42 x43 x44 x45 x60 s)
(kGtr x45 x46 fun x61 =>
 kCond x61
(k x45 s)
(kIaddr 2 s x42 x46 fun x62 s =>
 kLoadn 2 s x62 fun x63 s =>
 kIaddr 2 s x42 x45 fun x64 s =>
 kLoadn 2 s x64 fun x65 s =>
 kIaddr 2 s x42 x45 fun x66 s =>
 kStore 2 s x66 x63 fun _ s =>
 kIaddr 2 s x42 x46 fun x67 s =>
 kStore 2 s x67 x65 fun _ s =>
 kAdd x45 (.i .i64 (.ofNat 1)) fun x68 =>
 kSub x46 (.i .i64 (.ofNat 1)) fun x69 =>
 q14 x42 x43 x44 x68 x69 s))) φ x21 x22 x23 x24 x25 s)) φ x15 x16 x17 x18 x19 s) φ a1 a2 a5 x12 x13 s)
def T151 (φ : Nat) : FTab := setT (T150 φ) 150 (.mem (R_slices_partitionEqualCmpFunc_api_ZPower φ))
def TD151 (φ : Nat) : FTab := TD150 φ
def R_slices_partitionCmpFunc_api_ZPower (φ : Nat) : List D → LS → (D → LS → Rs) → Rs :=
fun as s k =>
 u1 as fun a1 r132 =>
 u1 r132 fun a2 r133 =>
 u1 r133 fun a3 r134 =>
 u1 r134 fun a4 r135 =>
 u1 r135 fun a5 r136 =>
 u0 r136 (
 kIaddr 2 s a1 a4 fun x6 s =>
 kLoadn 2 s x6 fun x7 s =>
 kIaddr 2 s a1 a2 fun x8 s =>
 kLoadn 2 s x8 fun x9 s =>
 kIaddr 2 s a1 a2 fun x10 s =>
 kStore 2 s x10 x7 fun _ s =>
 kIaddr 2 s a1 a4 fun x11 s =>
 kStore 2 s x11 x9 fun _ s =>
 kAdd a2 (.i .i64 (.ofNat 1)) fun x12 =>
 kSub a3 (.i .i64 (.ofNat 1)) fun x13 =>
 lp (fun (_ _ _ _ _ : D) (_ : LS) => none) (fun (q14 : D → D → D → D → D → LS → Rs) (x15 x16 x17 x18 x19 : D) (s : LS) =>
 kLeq x18 x19 fun x20 =>
 kGuard x20 true (fun k => k x17 s) s fun x21 s =>
 kGuard x20 true (fun k => k x15 s) s fun x22 s =>
 kGuard x20 true (fun k => k x18 s) s fun x23 s =>
 kGuard x20 true (fun k => kIaddr 2 s x22 x23 k) s fun x24 s =>
 kGuard x20 true (fun k => kLoadn 2 s x24 k) s fun x25 s =>
 kGuard x20 true (fun k => k x15 s) s fun x26 s =>
 kGuard x20 true (fun k => k x16 s) s fun x27 s =>
 kGuard x20 true (fun k => kIaddr 2 s x26 x27 k) s fun x28 s =>
 kGuard x20 true (fun k => kLoadn 2 s x28 k) s fun x29 s =>
 kGuard x20 true (fun k => dynK (TD151 φ) false x21 [x25, x29] s k) s fun x30 s =>
 kGuard x20 true (fun k => kLss x30 (.i .i64 (.ofNat 0)) fun d => k d s) s fun x31 s =>
 kPick x20 x31 (.b false) s fun x32 s =>
 kCond x32
(kAdd x18 (.i .i64 (.ofNat 1)) fun x33 =>
 q14 x15 x16 x17 x33 x19 s)
(lp (fun (_ _ _ _ _ : D) (_ : LS) => none) (fun (q34 : D → D → D → D → D → LS → Rs) (x35 x36 x37 x38 x39 : D) (s : LS) =>
 kLeq x38 x39 fun x40 =>
 kGuard x40 true (fun k => k x37 s) s fun x41 s =>
 kGuard x40 true (fun k => k x35 s) s fun x42 s =>
 kGuard x40 true (fun k => k x39 s) s fun x43 s =>
 kGuard x40 true (fun k => kIaddr 2 s x42 x43 k) s fun x44 s =>
 kGuard x40 true (fun k => kLoadn 2 s x44 k) s fun x45 s =>
 kGuard x40 true (fun k => k x35 s) s fun x46 s =>
 kGuard x40 true (fun k => k x36 s) s fun x47 s =>
 kGuard x40 true (fun k => kIaddr 2 s x46 x47 k) s fun x48 s =>
 kGuard x40 true (fun k => kLoadn 2 s x48 k) s fun x49 s =>
 kGuard x40 true (fun k => dynK (TD151 φ) false x41 [x45, x49] s k) s fun x50 s =>
 kGuard x40 true (fun k => kLss x50 (.i .i64 (.ofNat 0)) fun d => k d s) s fun x51 s =>
 kGuard x40 true (fun k => kNot x51 s k) s fun x52 s =>
 kPick x40 x52 (.b false) s fun x53 s =>
 kCond x53
(kSub x39 (.i .i64 (.ofNat 1)) fun x54 =>
 q34 x35 x36 x37 x38 x54 s)
(kGtr x38 x39 fun x55 =>
 kCond x55
(kIaddr 2 s x35 x36 fun x56 s =>
 kLoadn 2 s x56 fun x57 s =>
 kIaddr 2 s x35 x39 fun x58 s =>
 kLoadn 2 s x58 fun x59 s =>
 kIaddr 2 s x35 x39 fun x60 s =>
 kStore 2 s x60 x57 fun _ s =>
 kIaddr 2 s x35 x36 fun x61 s =>
 kStore 2 s x61 x59 fun _ s =>
 k (.tup [x39, (.b true)]) s)
(kIaddr 2 s x35 x39 fun x62 s =>
 kLoadn 2 s x62 fun x63 s =>
 kIaddr 2 s x35 x38 fun x64 s =>
 kLoadn 2 s x64 fun x65 s =>
 kIaddr 2 s x35 x38 fun x66 s =>
 kStore 2 s x66 x63 fun _ s =>
 kIaddr 2 s x35 x39 fun x67 s =>
 kStore 2 s x67 x65 fun _ s =>
 kAdd x38 (.i .i64 (.ofNat 1)) fun x68 =>
 kSub x39 (.i .i64 (.ofNat 1)) fun x69 =>
 lp (fun (_ _ _ _ _ : D) (_ : LS) => none) (fun (q70 : D → D → D → D → D → LS → Rs) (x71 x72 x73 x74 x75 : D) (s : LS) =>
 lp (fun (_ _ _ _ _ : D) (_ : LS) => none) (fun (q76 : D → D → D → D → D → LS → Rs) (x77 x78 x79 x80 x81 : D) (s : LS) =>
 kLeq x80 x81 fun x82 =>
 kGuard x82 true (fun k => k x79 s) s fun x83 s =>
 kGuard x82 true (fun k => k x77 s) s fun x84 s =>
 kGuard x82 true (fun k => k x80 s) s fun x85 s =>
 kGuard x82 true (fun k => kIaddr 2 s x84 x85 k) s fun x86 s =>
 kGuard x82 true (fun k => kLoadn 2 s x86 k) s fun x87 s =>
 kGuard x82 true (fun k => k x77 s) s fun x88 s =>
 kGuard x82 true (fun k => k x78 s) s fun x89 s =>
 kGuard x82 true (fun k => kIaddr 2 s x88 x89 k) s fun x90 s =>
 kGuard x82 true (fun k => kLoadn 2 s x90 k) s fun x91 s =>
 kGuard x82 true (fun k => dynK (TD151 φ) false x83 [x87, x91] s k) s fun x92 s =>
 kGuard x82 true (fun k => kLss x92 (.i .i64 (.ofNat 0)) fun d => k d s) s fun x93 s =>
 kPick x82 x93 (.b false) s fun x94 s =>
 kCond x94
(kAdd x80 (.i .i64 (.ofNat 1)) fun x95 =>
 q76 x77 x78 x79 x95 x81 s)
(lp (fun (_ _ _ _ _ : D) (_ : LS) => none) (fun (q96 : D → D → D → D → D → LS → Rs) (x97 x98 x99 x100 x101 : D) (s : LS) =>
 kLeq x100 x101 fun x102 =>
 kGuard x102 true (fun k => k x99 s) s fun x103 s =>
 kGuard x102 true (fun k => k x97 s) s fun x104 s =>
 kGuard x102 true (fun k => k x101 s) s fun x105 s =>
 kGuard x102 true (fun k => kIaddr 2 s x104 x105 k) s fun x106 s =>
 kGuard x102 true (fun k => kLoadn 2 s x106 k) s fun x107 s =>
 kGuard x102 true (fun k => k x97 s) s fun x108 s =>
 kGuard x102 true (fun k => k x98 s) s fun x109 s =>
 kGuard x102 true (fun k => kIaddr 2 s x108 x109 k) s fun x110 s =>
 kGuard x102 true (fun k => kLoadn 2 s x110 k) s fun x111 s =>
 kGuard x102 true (fun k => dynK (TD151 φ) false x103 [x107, x111] s k) s fun x112 s =>
 kGuard x102 true (fun k => kLss x112 (.i .i64 (.ofNat 0)) fun d => k d s) s fun x113 s =>
 kGuard x102 true (fun k => kNot x113 s k) s fun x114 s =>
 kPick x102 x114 (.b false) s fun x115 s =>
 kCond x115
(kSub x101 (.i .i64 (.ofNat 1)) fun x116 =>
 q96 x97 x98 x99 x100 x116 s)
(kGtr x100 x101 fun x117 =>
 kCond x117
(kIaddr 2 s x97 x98 fun x118 s =>
 kLoadn 2 s x118 fun x119 s =>
 kIaddr 2 s x97 x101 fun x120 s =>
 kLoadn 2 s x120 fun x121 s =>
 kIaddr 2 s x97 x101 fun x122 s =>
 kStore 2 s x122 x119 fun _ s =>
 kIaddr 2 s x97 x98 fun x123 s =>
 kStore 2 s x123 x121 fun _ s =>
 k (.tup [x101, (.b false)]) s)
(kIaddr 2 s x97 x101 fun x124 s =>
 kLoadn 2 s x124 fun x125 s =>
 kIaddr 2 s x97 x100 fun x126 s =>
 kLoadn 2 s x126 fun x127 s =>
 kIaddr 2 s x97 x100 fun x128 s =>
 kStore 2 s x128 x125 fun _ s =>
 kIaddr 2 s x97 x101 fun x129 s =>
 kStore 2 s x129 x127 fun _ s =>
 kAdd x100 (.i .i64 (.ofNat 1)) fun x130 =>
 kSub x101 (.i .i64 (.ofNat 1)) fun x131 =>
 q70 x97 x98 x99 x130 x131 s))) φ x77 x78 x79 x80 x81 s)) φ x71 x72 x73 x74 x75 s) φ x35 x36 x37 x68 x69 s))) φ x15 x16 x17 x18 x19 s)) φ a1 a2 a5 x12 x13 s)
def T152 (φ : Nat) : FTab := setT (T151 φ) 151 (.mem (R_slices_partitionCmpFunc_api_ZPower φ))
def TD152 (φ : Nat) : FTab := TD151 φ
def Q_slices_pdqsortCmpFunc_api_ZPower (φ : Nat) (ih : List D → LS → (D → LS → Rs) → Rs) : List D → LS → (D → LS → Rs) → Rs :=
fun as s k =>
 u1 as fun a1 r95 =>
 u1 r95 fun a2 r96 =>
 u1 r96 fun a3 r97 =>
 u1 r97 fun a4 r98 =>
 u1 r98 fun a5 r99 =>
 u0 r99 (
 lp (fun (_ _ _ _ _ _ _ : D) (_ : LS) => none) (fun (q6 : D → D → D → D → D → D → D → LS → Rs) (x7 x8 x9 x10 x11 x12 x13 : D) (s : LS) =>
 kSub x9 x8 fun x14 =>
 kLeq x14 (.i .i64 (.ofNat 12)) fun x15 =>
 kCond x15
((R_slices_insertionSortCmpFunc_api_ZPower φ) [x7, x8, x9, x11] s fun x16 s =>
 k (.tup []) s)
(kEql x10 (.i .i64 (.ofNat 0)) fun x17 =>
 kCond x17
((R_slices_heapSortCmpFunc_api_ZPower φ) [x7, x8, x9, x11] s fun x18 s =>
 k (.tup []) s)
(jn (fun (x20 x21 x22 x23 x24 x25 x26 x27 : D) (s : LS) =>
(R_slices_choosePivotCmpFunc_api_ZPower φ) [x20, x21, x22, x24] s fun x28 s =>
 kExt x28 0 s fun x29 s =>
 kExt x28 1 s fun x30 s =>
 jn (fun (x32 x33 x34 x35 x36 x37 x38 x39 x40 x41 : D) (s : LS) =>
 jn (fun (x43 x44 x45 x46 x47 x48 x49 x50 x51 : D) (s : LS) =>
 kGtr x44 (.i .i64 (.ofNat 0)) fun x52 =>
 kGuard x52 true (fun k => k x47 s) s fun x53 s =>
 kGuard x52 true (fun k => k x43 s) s fun x54 s =>
 kGuard x52 true (fun k => k x44 s) s fun x55 s =>
 kGuard x52 true (fun k => kSub x55 (.i .i64 (.ofNat 1)) fun d => k d s) s fun x56 s =>
 kGuard x52 true (fun k => kIaddr 2 s x54 x56 k) s fun x57 s =>
 kGuard x52 true (fun k => kLoadn 2 s x57 k) s fun x58 s =>
 kGuard x52 true (fun k => k x43 s) s fun x59 s =>
 kGuard x52 true (fun k => k x51 s) s fun x60 s =>
 kGuard x52 true (fun k => kIaddr 2 s x59 x60 k) s fun x61 s =>
 kGuard x52 true (fun k => kLoadn 2 s x61 k) s fun x62 s =>
 kGuard x52 true (fun k => dynK (cnd false (setT (TD152 φ) 152 (.mem ih)) (TD152 φ)) false x53 [x58, x62] s k) s fun x63 s =>
 kGuard x52 true (fun k => kLss x63 (.i .i64 (.ofNat 0)) fun d => k d s) s fun x64 s =>
 kGuard x52 true (fun k => kNot x64 s k) s fun x65 s =>
 kPick x52 x65 (.b false) s fun x66 s =>
 kCond x66
((R_slices_partitionEqualCmpFunc_api_ZPower φ) [x43, x44, x45, x51, x47] s fun x67 s =>
 q6 x43 x67 x45 x46 x47 x48 x49 s)
((R_slices_partitionCmpFunc_api_ZPower φ) [x43, x44, x45, x51, x47] s fun x68 s =>
 kExt x68 0 s fun x69 s =>
 kExt x68 1 s fun x70 s =>
 kSub x69 x44 fun x71 =>
 kSub x45 x69 fun x72 =>
 kQuo x50 (.i .i64 (.ofNat 8)) fun x73 =>
 kLss x71 x72 fun x74 =>
 kCond x74
(kGeq x71 x73 fun x75 =>
 ih [x43, x44, x69, x46, x47] s fun x76 s =>
 kAdd x69 (.i .i64 (.ofNat 1)) fun x77 =>
 q6 x43 x77 x45 x46 x47 x75 x70 s)
(kGeq x72 x73 fun x78 =>
 kAdd x69 (.i .i64 (.ofNat 1)) fun x79 =>
 ih [x43, x79, x45, x46, x47] s fun x80 s =>
 q6 x43 x44 x69 x46 x47 x78 x70 s))) fun j42 =>
 kGuard x37 true (fun k => k x38 s) s fun x81 s =>
 kPick x37 x81 (.b false) s fun x82 s =>
 kGuard x82 true (fun k => k x41 s) s fun x83 s =>
 kGuard x82 true (fun k => kEql x83 (.i .i64 (.ofNat 1)) fun d => k d s) s fun x84 s =>
 kPick x82 x84 (.b false) s fun x85 s =>
 kCond x85
((R_slices_partialInsertionSortCmpFunc_api_ZPower φ) [x32, x33, x34, x36] s fun x86 s =>
 kCond x86
(k (.tup []) s)
(j42 x32 x33 x34 x35 x36 x37 x38 x39 x40 s))
(j42 x32 x33 x34 x35 x36 x37 x38 x39 x40 s)) fun j31 =>
 kEql x30 (.i .i64 (.ofNat 2)) fun x87 =>
 kCond x87
((R_slices_reverseRangeCmpFunc_api_ZPower φ) [x20, x21, x22, x24] s fun x88 s =>
 kSub x22 (.i .i64 (.ofNat 1)) fun x89 =>
 kSub x29 x21 fun x90 =>
 kSub x89 x90 fun x91 =>
 j31 x20 x21 x22 x23 x24 x25 x26 x27 x91 (.i .i64 (.ofNat 1)) s)
(j31 x20 x21 x22 x23 x24 x25 x26 x27 x29 x30 s)) fun j19 =>
 kNot x12 s fun x92 s =>
 kCond x92
((R_slices_breakPatternsCmpFunc_api_ZPower φ) [x7, x8, x9, x11] s fun x93 s =>
 kSub x10 (.i .i64 (.ofNat 1)) fun x94 =>
 j19 x7 x8 x9 x94 x11 x12 x13 x14 s)
(j19 x7 x8 x9 x10 x11 x12 x13 x14 s)))) φ a1 a2 a3 a4 a5 (.b true) (.b true) s)
def R_slices_pdqsortCmpFunc_api_ZPower (φ : Nat) : List D → LS → (D → LS → Rs) → Rs := lp (fun _ _ _ => none) (Q_slices_pdqsortCmpFunc_api_ZPower φ) φ
def T153 (φ : Nat) : FTab := setT (T152 φ) 152 (.mem (R_slices_pdqsortCmpFunc_api_ZPower φ))
def TD153 (φ : Nat) : FTab := TD152 φ
def R_slices_SortFunc_api_ZPower_api_ZPower (φ : Nat) : List D → LS → (D → LS → Rs) → Rs :=
fun as s k =>
 u1 as fun a1 r7 =>
 u1 r7 fun a2 r8 =>
 u0 r8 (
 kLen a1 s fun x3 s =>
 kToInt .u64 x3 s fun x4 s =>
 isoK (R_math_bits_Len φ) [x4] s fun x5 s =>
(R_slices_pdqsortCmpFunc_api_ZPower φ) [a1, (.i .i64 (.ofNat 0)), x3, x5, a2] s fun x6 s =>
 k (.tup []) s)
def T154 (φ : Nat) : FTab := setT (T153 φ) 153 (.mem (R_slices_SortFunc_api_ZPower_api_ZPower φ))
def TD154 (φ : Nat) : FTab := TD153 φ
def R_zf_Factors (φ : Nat) : List D → Option D :=
fun as =>
(fun (s : LS) =>
 u1 as fun a1 r40 =>
 u0 r40 (
 kLen a1 s fun x2 s =>
 kLss x2 (.i .i64 (.ofNat 2)) fun x3 =>
 kCond x3
(retK false s (.tree [] 0 true) some)
(isoK (R_zf_squarefree φ) [a1] s fun x4 s =>
 kLen x4 s fun x5 s =>
 lp (fun (_ _ _ _ : D) (_ : LS) => none) (fun (q6 : D → D → D → D → LS → Rs) (x7 x8 x9 x10 : D) (s : LS) =>
 kLss x10 x9 fun x11 =>
 kCond x11
(kIaddr 2 s x8 x10 fun x12 s =>
 kLoadn 2 s x12 fun x13 s =>
 kAlloc [(.tree [] 0 true), (.i .i64 (.ofNat 0))] s fun x14 s =>
 kStore 2 s x14 x13 fun _ s =>
 kFaddr 0 s x14 fun x15 s =>
 kLoad1 s x15 fun x16 s =>
 isoK (R_zf_Whole φ) [x16] s fun x17 s =>
 isoK (R_zf_split φ) [x17] s fun x18 s =>
 kLen x18 s fun x19 s =>
 lp (fun (_ _ _ _ _ _ _ _ : D) (_ : LS) => none) (fun (q20 : D → D → D → D → D → D → D → D → LS → Rs) (x21 x22 x23 x24 x25 x26 x27 x28 : D) (s : LS) =>
 kLss x28 x27 fun x29 =>
 kCond x29
(kIaddr 1 s x26 x28 fun x30 s =>
 kLoad1 s x30 fun x31 s =>
 kFaddr 1 s x22 fun x32 s =>
 kLoad1 s x32 fun x33 s =>
 kBuild [(.tree [] 0 true), (.i .i64 (.ofNat 0))] [(0, 1, x31), (1, 1, x33)] s fun x34 s =>
 kBsl 1 [(.tree [] 0 true), (.i .i64 (.ofNat 0))] [(0, 2, x34)] s fun x35 s =>
 kApp 2 32 s x21 x35 fun x36 s =>
 kAdd x28 (.i .i64 (.ofNat 1)) fun x37 =>
 q20 x36 x22 x23 x24 x25 x26 x27 x37 s)
(kAdd x25 (.i .i64 (.ofNat 1)) fun x38 =>
 q6 x21 x23 x24 x38 s)) φ x7 x14 x8 x9 x10 x18 x19 (.i .i64 (.ofNat 0)) s)
((R_slices_SortFunc_api_ZPower_api_ZPower φ) [x7, (.fn 137 [])] s fun x39 s =>
 retK false s x7 some)) φ (.tree [] 0 true) x4 x5 (.i .i64 (.ofNat 0)) s))) s0
def k_zf_Factors_0 : List D := [(qi [(false,4),(false,0),(true,80),(false,0),(false,20),(false,0),(true,8),(false,0),(false,1)] true)]
def v_zf_Factors_0 : D := (.tree [(.tree [(.b false), (.n 2), (.b true), (.n 8), (.b true), (.n 4), (.b false), (.n 0), (.b false), (.n 1)] 5 true), (.i .i64 (.ofNat 1)), (.tree [(.b false), (.n 2), (.b false), (.n 8), (.b true), (.n 4), (.b false), (.n 0), (.b false), (.n 1)] 5 true), (.i .i64 (.ofNat 1))] 2 false)
def k_zf_Factors_1 : List D := [(qi [(true,629),(false,1467),(false,1701),(true,1932),(true,522),(false,567),(false,21),(true,45),(false,0),(false,1)] true)]
def v_zf_Factors_1 : D := (.tree [(.tree [(.b true), (.n 17), (.b true), (.n 21), (.b false), (.n 0), (.b false), (.n 1)] 4 true), (.i .i64 (.ofNat 1)), (.tree [(.b false), (.n 1), (.b true), (.n 3), (.b false), (.n 0), (.b false), (.n 1)] 4 true), (.i .i64 (.ofNat 1)), (.tree [(.b false), (.n 37), (.b true), (.n 21), (.b false), (.n 0), (.b false), (.n 1)] 4 true), (.i .i64 (.ofNat 1))] 3 false)
def B_zf_Factors : List (List D × D) := [(k_zf_Factors_0, v_zf_Factors_0), (k_zf_Factors_1, v_zf_Factors_1)]
def T155 (φ : Nat) : FTab := setT (T154 φ) 154 (.iso (tabM B_zf_Factors (R_zf_Factors φ)))
def TD155 (φ : Nat) : FTab := TD154 φ
def R_zfactor_IsIrreducible (φ : Nat) : List D → Option D :=
fun as =>
(fun (s : LS) =>
 u1 as fun a1 r17 =>
 u0 r17 (
 isoK (R_qpoly_Check φ) [a1] s fun x2 s =>
 kNeq x2 (.i .i64 (.ofNat 0)) fun x3 =>
 kGuard x3 false (fun k => k a1 s) s fun x4 s =>
 kGuard x3 false (fun k => kLen x4 s k) s fun x5 s =>
 kGuard x3 false (fun k => kLss x5 (.i .i64 (.ofNat 2)) fun d => k d s) s fun x6 s =>
 kPick x3 (.b true) x6 s fun x7 s =>
 kCond x7
(retK false s (.tup [(.b false), x2]) some)
(isoK (tabM B_zf_Factors (R_zf_Factors φ)) [a1] s fun x8 s =>
 kLen x8 s fun x9 s =>
 kEql x9 (.i .i64 (.ofNat 1)) fun x10 =>
 kGuard x10 true (fun k => k x8 s) s fun x11 s =>
 kGuard x10 true (fun k => kIaddr 2 s x11 (.i .i64 (.ofNat 0)) k) s fun x12 s =>
 kGuard x10 true (fun k => kFaddr 1 s x12 k) s fun x13 s =>
 kGuard x10 true (fun k => kLoad1 s x13 k) s fun x14 s =>
 kGuard x10 true (fun k => kEql x14 (.i .i64 (.ofNat 1)) fun d => k d s) s fun x15 s =>
 kPick x10 x15 (.b false) s fun x16 s =>
 retK false s (.tup [x16, (.i .i64 (.ofNat 0))]) some))) s0
def T156 (φ : Nat) : FTab := setT (T155 φ) 155 (.iso (R_zfactor_IsIrreducible φ))
def TD156 (φ : Nat) : FTab := TD155 φ
end
end Go.Proofs.YtljlaoecceagaaaGreat
