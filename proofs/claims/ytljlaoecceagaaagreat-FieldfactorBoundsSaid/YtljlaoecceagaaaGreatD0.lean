/- Residuals of functions, printed by a program. -/
import Derived.Test.YtljlaoecceagaaaGreatC0
set_option linter.all false
set_option linter.unusedVariables false
set_option maxRecDepth 1000000
set_option maxHeartbeats 0
namespace Go.Proofs.YtljlaoecceagaaaGreat
open Ev
noncomputable section
/-- slices.choosePivotCmpFunc[galois/api.FPower] -/
def R_slices_choosePivotCmpFunc_api_FPower (φ : Nat) : List D → LS → (D → LS → Rs) → Rs :=
fun as s k =>
 u1 as fun a1 r35 =>
 u1 r35 fun a2 r36 =>
 u1 r36 fun a3 r37 =>
 u1 r37 fun a4 r38 =>
 u0 r38 (
 kSub a3 a2 fun x5 =>
 kAlloc [(.i .i64 (.ofNat 0))] s fun x6 s =>
 kQuo x5 (.i .i64 (.ofNat 4)) fun x7 =>
 kMul x7 (.i .i64 (.ofNat 1)) fun x8 =>
 kAdd a2 x8 fun x9 =>
 kQuo x5 (.i .i64 (.ofNat 4)) fun x10 =>
 kMul x10 (.i .i64 (.ofNat 2)) fun x11 =>
 kAdd a2 x11 fun x12 =>
 kQuo x5 (.i .i64 (.ofNat 4)) fun x13 =>
 kMul x13 (.i .i64 (.ofNat 3)) fun x14 =>
 kAdd a2 x14 fun x15 =>
 jn (fun (x17 x18 : D) (s : LS) =>
 kLoad1 s x17 fun x19 s =>
 kEql x19 (.i .i64 (.ofNat 0)) fun x20 =>
 kCond x20
(k (.tup [x18, (.i .i64 (.ofNat 1))]) s)
(kEql x19 (.i .i64 (.ofNat 12)) fun x21 =>
 kCond x21
(k (.tup [x18, (.i .i64 (.ofNat 2))]) s)
(k (.tup [x18, (.i .i64 (.ofNat 0))]) s))) fun j16 =>
 kGeq x5 (.i .i64 (.ofNat 8)) fun x22 =>
 kCond x22
(jn (fun (x24 x25 x26 x27 x28 x29 : D) (s : LS) =>
(R_slices_medianCmpFunc_api_FPower φ) [x24, x27, x28, x29, x26, x25] s fun x30 s =>
 j16 x26 x30 s) fun j23 =>
 kGeq x5 (.i .i64 (.ofNat 50)) fun x31 =>
 kCond x31
((R_slices_medianAdjacentCmpFunc_api_FPower φ) [a1, x9, x6, a4] s fun x32 s =>
(R_slices_medianAdjacentCmpFunc_api_FPower φ) [a1, x12, x6, a4] s fun x33 s =>
(R_slices_medianAdjacentCmpFunc_api_FPower φ) [a1, x15, x6, a4] s fun x34 s =>
 j23 a1 a4 x6 x32 x33 x34 s)
(j23 a1 a4 x6 x9 x12 x15 s))
(j16 x6 x12 s))
def T185 (φ : Nat) : FTab := setT (T184 φ) 184 (.mem (R_slices_choosePivotCmpFunc_api_FPower φ))
def TD185 (φ : Nat) : FTab := cnd false (setT (TD184 φ) 184 (.mem (R_slices_choosePivotCmpFunc_api_FPower φ))) (TD184 φ)
/-- slices.reverseRangeCmpFunc[galois/api.FPower] -/
def R_slices_reverseRangeCmpFunc_api_FPower (φ : Nat) : List D → LS → (D → LS → Rs) → Rs :=
fun as s k =>
 u1 as fun a1 r19 =>
 u1 r19 fun a2 r20 =>
 u1 r20 fun a3 r21 =>
 u1 r21 fun a4 r22 =>
 u0 r22 (
 kSub a3 (.i .i64 (.ofNat 1)) fun x5 =>
 lp (fun (_ _ _ : D) (_ : LS) => none) (fun (q6 : D → D → D → LS → Rs) (x7 x8 x9 : D) (s : LS) =>
 kLss x8 x9 fun x10 =>
 kCond x10
(kIaddr 2 s x7 x9 fun x11 s =>
 kLoadn 2 s x11 fun x12 s =>
 kIaddr 2 s x7 x8 fun x13 s =>
 kLoadn 2 s x13 fun x14 s =>
 kIaddr 2 s x7 x8 fun x15 s =>
 kStore 2 s x15 x12 fun _ s =>
 kIaddr 2 s x7 x9 fun x16 s =>
 kStore 2 s x16 x14 fun _ s =>
 kAdd x8 (.i .i64 (.ofNat 1)) fun x17 =>
 kSub x9 (.i .i64 (.ofNat 1)) fun x18 =>
 q6 x7 x17 x18 s)
(k (.tup []) s)) φ a1 a2 x5 s)
def T186 (φ : Nat) : FTab := setT (T185 φ) 185 (.mem (R_slices_reverseRangeCmpFunc_api_FPower φ))
def TD186 (φ : Nat) : FTab := cnd false (setT (TD185 φ) 185 (.mem (R_slices_reverseRangeCmpFunc_api_FPower φ))) (TD185 φ)
/-- slices.partialInsertionSortCmpFunc[galois/api.FPower] -/
def R_slices_partialInsertionSortCmpFunc_api_FPower (φ : Nat) : List D → LS → (D → LS → Rs) → Rs :=
fun as s k =>
 u1 as fun a1 r121 =>
 u1 r121 fun a2 r122 =>
 u1 r122 fun a3 r123 =>
 u1 r123 fun a4 r124 =>
 u0 r124 (
 kAdd a2 (.i .i64 (.ofNat 1)) fun x5 =>
 lp (fun (_ _ _ _ _ _ : D) (_ : LS) => none) (fun (q6 : D → D → D → D → D → D → LS → Rs) (x7 x8 x9 x10 x11 x12 : D) (s : LS) =>
 kLss x12 (.i .i64 (.ofNat 5)) fun x13 =>
 kCond x13
(jn (fun (x15 x16 x17 x18 x19 x20 : D) (s : LS) =>
 kAdd x20 (.i .i64 (.ofNat 1)) fun x21 =>
 q6 x15 x16 x17 x18 x19 x21 s) fun j14 =>
 lp (fun (_ _ _ _ _ _ : D) (_ : LS) => none) (fun (q22 : D → D → D → D → D → D → LS → Rs) (x23 x24 x25 x26 x27 x28 : D) (s : LS) =>
 kLss x27 x25 fun x29 =>
 kGuard x29 true (fun k => k x26 s) s fun x30 s =>
 kGuard x29 true (fun k => k x23 s) s fun x31 s =>
 kGuard x29 true (fun k => k x27 s) s fun x32 s =>
 kGuard x29 true (fun k => kIaddr 2 s x31 x32 k) s fun x33 s =>
 kGuard x29 true (fun k => kLoadn 2 s x33 k) s fun x34 s =>
 kGuard x29 true (fun k => k x23 s) s fun x35 s =>
 kGuard x29 true (fun k => k x27 s) s fun x36 s =>
 kGuard x29 true (fun k => kSub x36 (.i .i64 (.ofNat 1)) fun d => k d s) s fun x37 s =>
 kGuard x29 true (fun k => kIaddr 2 s x35 x37 k) s fun x38 s =>
 kGuard x29 true (fun k => kLoadn 2 s x38 k) s fun x39 s =>
 kGuard x29 true (fun k => dynK (TD186 φ) false x30 [x34, x39] s k) s fun x40 s =>
 kGuard x29 true (fun k => kLss x40 (.i .i64 (.ofNat 0)) fun d => k d s) s fun x41 s =>
 kGuard x29 true (fun k => kNot x41 s k) s fun x42 s =>
 kPick x29 x42 (.b false) s fun x43 s =>
 kCond x43
(kAdd x27 (.i .i64 (.ofNat 1)) fun x44 =>
 q22 x23 x24 x25 x26 x44 x28 s)
(kEql x27 x25 fun x45 =>
 kCond x45
(k (.b true) s)
(kSub x25 x24 fun x46 =>
 kLss x46 (.i .i64 (.ofNat 50)) fun x47 =>
 kCond x47
(k (.b false) s)
(kSub x27 (.i .i64 (.ofNat 1)) fun x48 =>
 kSub x27 (.i .i64 (.ofNat 1)) fun x49 =>
 kIaddr 2 s x23 x49 fun x50 s =>
 kLoadn 2 s x50 fun x51 s =>
 kIaddr 2 s x23 x27 fun x52 s =>
 kLoadn 2 s x52 fun x53 s =>
 kIaddr 2 s x23 x27 fun x54 s =>
 kStore 2 s x54 x51 fun _ s =>
 kIaddr 2 s x23 x48 fun x55 s =>
 kStore 2 s x55 x53 fun _ s =>
 jn (fun (x57 x58 x59 x60 x61 x62 : D) (s : LS) =>
 kSub x59 x61 fun x63 =>
 kGeq x63 (.i .i64 (.ofNat 2)) fun x64 =>
 kCond x64
(kAdd x61 (.i .i64 (.ofNat 1)) fun x65 =>
 lp (fun (_ _ _ _ _ _ _ : D) (_ : LS) => none) (fun (q66 : D → D → D → D → D → D → D → LS → Rs) (x67 x68 x69 x70 x71 x72 x73 : D) (s : LS) =>
 kLss x73 x69 fun x74 =>
 kCond x74
(kIaddr 2 s x67 x73 fun x75 s =>
 kLoadn 2 s x75 fun x76 s =>
 kSub x73 (.i .i64 (.ofNat 1)) fun x77 =>
 kIaddr 2 s x67 x77 fun x78 s =>
 kLoadn 2 s x78 fun x79 s =>
 dynK (TD186 φ) false x70 [x76, x79] s fun x80 s =>
 kLss x80 (.i .i64 (.ofNat 0)) fun x81 =>
 kNot x81 s fun x82 s =>
 kCond x82
(j14 x67 x68 x69 x70 x71 x72 s)
(kSub x73 (.i .i64 (.ofNat 1)) fun x83 =>
 kSub x73 (.i .i64 (.ofNat 1)) fun x84 =>
 kIaddr 2 s x67 x84 fun x85 s =>
 kLoadn 2 s x85 fun x86 s =>
 kIaddr 2 s x67 x73 fun x87 s =>
 kLoadn 2 s x87 fun x88 s =>
 kIaddr 2 s x67 x73 fun x89 s =>
 kStore 2 s x89 x86 fun _ s =>
 kIaddr 2 s x67 x83 fun x90 s =>
 kStore 2 s x90 x88 fun _ s =>
 kAdd x73 (.i .i64 (.ofNat 1)) fun x91 =>
 q66 x67 x68 x69 x70 x71 x72 x91 s))
(j14 x67 x68 x69 x70 x71 x72 s)) φ x57 x58 x59 x60 x61 x62 x65 s)
(j14 x57 x58 x59 x60 x61 x62 s)) fun j56 =>
 kSub x27 x24 fun x92 =>
 kGeq x92 (.i .i64 (.ofNat 2)) fun x93 =>
 kCond x93
(kSub x27 (.i .i64 (.ofNat 1)) fun x94 =>
 lp (fun (_ _ _ _ _ _ _ : D) (_ : LS) => none) (fun (q95 : D → D → D → D → D → D → D → LS → Rs) (x96 x97 x98 x99 x100 x101 x102 : D) (s : LS) =>
 kGeq x102 (.i .i64 (.ofNat 1)) fun x103 =>
 kCond x103
(kIaddr 2 s x96 x102 fun x104 s =>
 kLoadn 2 s x104 fun x105 s =>
 kSub x102 (.i .i64 (.ofNat 1)) fun x106 =>
 kIaddr 2 s x96 x106 fun x107 s =>
 kLoadn 2 s x107 fun x108 s =>
 dynK (TD186 φ) false x99 [x105, x108] s fun x109 s =>
 kLss x109 (.i .i64 (.ofNat 0)) fun x110 =>
 kNot x110 s fun x111 s =>
 kCond x111
(j56 x96 x97 x98 x99 x100 x101 s)
(kSub x102 (.i .i64 (.ofNat 1)) fun x112 =>
 kSub x102 (.i .i64 (.ofNat 1)) fun x113 =>
 kIaddr 2 s x96 x113 fun x114 s =>
 kLoadn 2 s x114 fun x115 s =>
 kIaddr 2 s x96 x102 fun x116 s =>
 kLoadn 2 s x116 fun x117 s =>
 kIaddr 2 s x96 x102 fun x118 s =>
 kStore 2 s x118 x115 fun _ s =>
 kIaddr 2 s x96 x112 fun x119 s =>
 kStore 2 s x119 x117 fun _ s =>
 kSub x102 (.i .i64 (.ofNat 1)) fun x120 =>
 q95 x96 x97 x98 x99 x100 x101 x120 s))
(j56 x96 x97 x98 x99 x100 x101 s)) φ x23 x24 x25 x26 x27 x28 x94 s)
(j56 x23 x24 x25 x26 x27 x28 s))))) φ x7 x8 x9 x10 x11 x12 s)
(k (.b false) s)) φ a1 a2 a3 a4 x5 (.i .i64 (.ofNat 0)) s)
def T187 (φ : Nat) : FTab := setT (T186 φ) 186 (.mem (R_slices_partialInsertionSortCmpFunc_api_FPower φ))
def TD187 (φ : Nat) : FTab := cnd false (setT (TD186 φ) 186 (.mem (R_slices_partialInsertionSortCmpFunc_api_FPower φ))) (TD186 φ)
/-- slices.partitionEqualCmpFunc[galois/api.FPower] -/
def R_slices_partitionEqualCmpFunc_api_FPower (φ : Nat) : List D → LS → (D → LS → Rs) → Rs :=
fun as s k =>
 u1 as fun a1 r70 =>
 u1 r70 fun a2 r71 =>
 u1 r71 fun a3 r72 =>
 u1 r72 fun a4 r73 =>
 u1 r73 fun a5 r74 =>
 u0 r74 (
 kIaddr 2 s a1 a4 fun x6 s =>
 kLoadn 2 s x6 fun x7 s =>
 kIaddr 2 s a1 a2 fun x8 s =>
 kLoadn 2 s x8 fun x9 s =>
 kIaddr 2 s a1 a2 fun x10 s =>
 kStore 2 s x10 x7 fun _ s =>
 kIaddr 2 s a1 a4 fun x11 s =>
 kStore 2 s x11 x9 fun _ s =>
 kAdd a2 (.i .i64 (.ofNat 1)) fun x12 =>
 kSub a3 (.i .i64 (.ofNat 1)) fun x13 =>
 lp (fun (_ _ _ _ _ : D) (_ : LS) => none) (fun (q14 : D → D → D → D → D → LS → Rs) (x15 x16 x17 x18 x19 : D) (s : LS) =>
 lp (fun (_ _ _ _ _ : D) (_ : LS) => none) (fun (q20 : D → D → D → D → D → LS → Rs) (x21 x22 x23 x24 x25 : D) (s : LS) =>
 kLeq x24 x25 fun x26 =>
 kGuard x26 true (fun k => k x23 s) s fun x27 s =>
 kGuard x26 true (fun k => k x21 s) s fun x28 s =>
 kGuard x26 true (fun k => k x22 s) s fun x29 s =>
 kGuard x26 true (fun k => kIaddr 2 s x28 x29 k) s fun x30 s =>
 kGuard x26 true (fun k => kLoadn 2 s x30 k) s fun x31 s =>
 kGuard x26 true (fun k => k x21 s) s fun x32 s =>
 kGuard x26 true (fun k => k x24 s) s fun x33 s =>
 kGuard x26 true (fun k => kIaddr 2 s x32 x33 k) s fun x34 s =>
 kGuard x26 true (fun k => kLoadn 2 s x34 k) s fun x35 s =>
 kGuard x26 true (fun k => dynK (TD187 φ) false x27 [x31, x35] s k) s fun x36 s =>
 kGuard x26 true (fun k => kLss x36 (.i .i64 (.ofNat 0)) fun d => k d s) s fun x37 s =>
 kGuard x26 true (fun k => kNot x37 s k) s fun x38 s =>
 kPick x26 x38 (.b false) s fun x39 s =>
 kCond x39
(kAdd x24 (.i .i64 (.ofNat 1)) fun x40 =>
 q20 x21 x22 x23 x40 x25 s)
(lp (fun (_ _ _ _ _ : D) (_ : LS) => none) (fun (q41 : D → D → D → D → D → LS → Rs) (x42 x43 x44 x45 x46 : D) (s : LS) =>
 kLeq x45 x46 fun x47 =>
 kGuard x47 true (fun k => k x44 s) s fun x48 s =>
 kGuard x47 true (fun k => k x42 s) s fun x49 s =>
 kGuard x47 true (fun k => k x43 s) s fun x50 s =>
 kGuard x47 true (fun k => kIaddr 2 s x49 x50 k) s fun x51 s =>
 kGuard x47 true (fun k => kLoadn 2 s x51 k) s fun x52 s =>
 kGuard x47 true (fun k => k x42 s) s fun x53 s =>
 kGuard x47 true (fun k => k x46 s) s fun x54 s =>
 kGuard x47 true (fun k => kIaddr 2 s x53 x54 k) s fun x55 s =>
 kGuard x47 true (fun k => kLoadn 2 s x55 k) s fun x56 s =>
 kGuard x47 true (fun k => dynK (TD187 φ) false x48 [x52, x56] s k) s fun x57 s =>
 kGuard x47 true (fun k => kLss x57 (.i .i64 (.ofNat 0)) fun d => k d s) s fun x58 s =>
 kPick x47 x58 (.b false) s fun x59 s =>
 kCond x59
(kSub x46 (.i .i64 (.ofNat 1)) fun x60 =>
 q41 x42 x43 x44 x45 x60 s)
(kGtr x45 x46 fun x61 =>
 kCond x61
(k x45 s)
(kIaddr 2 s x42 x46 fun x62 s =>
 kLoadn 2 s x62 fun x63 s =>
 kIaddr 2 s x42 x45 fun x64 s =>
 kLoadn 2 s x64 fun x65 s =>
 kIaddr 2 s x42 x45 fun x66 s =>
 kStore 2 s x66 x63 fun _ s =>
 kIaddr 2 s x42 x46 fun x67 s =>
 kStore 2 s x67 x65 fun _ s =>
 kAdd x45 (.i .i64 (.ofNat 1)) fun x68 =>
 kSub x46 (.i .i64 (.ofNat 1)) fun x69 =>
 q14 x42 x43 x44 x68 x69 s))) φ x21 x22 x23 x24 x25 s)) φ x15 x16 x17 x18 x19 s) φ a1 a2 a5 x12 x13 s)
def T188 (φ : Nat) : FTab := setT (T187 φ) 187 (.mem (R_slices_partitionEqualCmpFunc_api_FPower φ))
def TD188 (φ : Nat) : FTab := cnd false (setT (TD187 φ) 187 (.mem (R_slices_partitionEqualCmpFunc_api_FPower φ))) (TD187 φ)
/-- slices.partitionCmpFunc[galois/api.FPower] -/
def R_slices_partitionCmpFunc_api_FPower (φ : Nat) : List D → LS → (D → LS → Rs) → Rs :=
fun as s k =>
 u1 as fun a1 r132 =>
 u1 r132 fun a2 r133 =>
 u1 r133 fun a3 r134 =>
 u1 r134 fun a4 r135 =>
 u1 r135 fun a5 r136 =>
 u0 r136 (
 kIaddr 2 s a1 a4 fun x6 s =>
 kLoadn 2 s x6 fun x7 s =>
 kIaddr 2 s a1 a2 fun x8 s =>
 kLoadn 2 s x8 fun x9 s =>
 kIaddr 2 s a1 a2 fun x10 s =>
 kStore 2 s x10 x7 fun _ s =>
 kIaddr 2 s a1 a4 fun x11 s =>
 kStore 2 s x11 x9 fun _ s =>
 kAdd a2 (.i .i64 (.ofNat 1)) fun x12 =>
 kSub a3 (.i .i64 (.ofNat 1)) fun x13 =>
 lp (fun (_ _ _ _ _ : D) (_ : LS) => none) (fun (q14 : D → D → D → D → D → LS → Rs) (x15 x16 x17 x18 x19 : D) (s : LS) =>
 kLeq x18 x19 fun x20 =>
 kGuard x20 true (fun k => k x17 s) s fun x21 s =>
 kGuard x20 true (fun k => k x15 s) s fun x22 s =>
 kGuard x20 true (fun k => k x18 s) s fun x23 s =>
 kGuard x20 true (fun k => kIaddr 2 s x22 x23 k) s fun x24 s =>
 kGuard x20 true (fun k => kLoadn 2 s x24 k) s fun x25 s =>
 kGuard x20 true (fun k => k x15 s) s fun x26 s =>
 kGuard x20 true (fun k => k x16 s) s fun x27 s =>
 kGuard x20 true (fun k => kIaddr 2 s x26 x27 k) s fun x28 s =>
 kGuard x20 true (fun k => kLoadn 2 s x28 k) s fun x29 s =>
 kGuard x20 true (fun k => dynK (TD188 φ) false x21 [x25, x29] s k) s fun x30 s =>
 kGuard x20 true (fun k => kLss x30 (.i .i64 (.ofNat 0)) fun d => k d s) s fun x31 s =>
 kPick x20 x31 (.b false) s fun x32 s =>
 kCond x32
(kAdd x18 (.i .i64 (.ofNat 1)) fun x33 =>
 q14 x15 x16 x17 x33 x19 s)
(lp (fun (_ _ _ _ _ : D) (_ : LS) => none) (fun (q34 : D → D → D → D → D → LS → Rs) (x35 x36 x37 x38 x39 : D) (s : LS) =>
 kLeq x38 x39 fun x40 =>
 kGuard x40 true (fun k => k x37 s) s fun x41 s =>
 kGuard x40 true (fun k => k x35 s) s fun x42 s =>
 kGuard x40 true (fun k => k x39 s) s fun x43 s =>
 kGuard x40 true (fun k => kIaddr 2 s x42 x43 k) s fun x44 s =>
 kGuard x40 true (fun k => kLoadn 2 s x44 k) s fun x45 s =>
 kGuard x40 true (fun k => k x35 s) s fun x46 s =>
 kGuard x40 true (fun k => k x36 s) s fun x47 s =>
 kGuard x40 true (fun k => kIaddr 2 s x46 x47 k) s fun x48 s =>
 kGuard x40 true (fun k => kLoadn 2 s x48 k) s fun x49 s =>
 kGuard x40 true (fun k => dynK (TD188 φ) false x41 [x45, x49] s k) s fun x50 s =>
 kGuard x40 true (fun k => kLss x50 (.i .i64 (.ofNat 0)) fun d => k d s) s fun x51 s =>
 kGuard x40 true (fun k => kNot x51 s k) s fun x52 s =>
 kPick x40 x52 (.b false) s fun x53 s =>
 kCond x53
(kSub x39 (.i .i64 (.ofNat 1)) fun x54 =>
 q34 x35 x36 x37 x38 x54 s)
(kGtr x38 x39 fun x55 =>
 kCond x55
(kIaddr 2 s x35 x36 fun x56 s =>
 kLoadn 2 s x56 fun x57 s =>
 kIaddr 2 s x35 x39 fun x58 s =>
 kLoadn 2 s x58 fun x59 s =>
 kIaddr 2 s x35 x39 fun x60 s =>
 kStore 2 s x60 x57 fun _ s =>
 kIaddr 2 s x35 x36 fun x61 s =>
 kStore 2 s x61 x59 fun _ s =>
 k (.tup [x39, (.b true)]) s)
(kIaddr 2 s x35 x39 fun x62 s =>
 kLoadn 2 s x62 fun x63 s =>
 kIaddr 2 s x35 x38 fun x64 s =>
 kLoadn 2 s x64 fun x65 s =>
 kIaddr 2 s x35 x38 fun x66 s =>
 kStore 2 s x66 x63 fun _ s =>
 kIaddr 2 s x35 x39 fun x67 s =>
 kStore 2 s x67 x65 fun _ s =>
 kAdd x38 (.i .i64 (.ofNat 1)) fun x68 =>
 kSub x39 (.i .i64 (.ofNat 1)) fun x69 =>
 lp (fun (_ _ _ _ _ : D) (_ : LS) => none) (fun (q70 : D → D → D → D → D → LS → Rs) (x71 x72 x73 x74 x75 : D) (s : LS) =>
 lp (fun (_ _ _ _ _ : D) (_ : LS) => none) (fun (q76 : D → D → D → D → D → LS → Rs) (x77 x78 x79 x80 x81 : D) (s : LS) =>
 kLeq x80 x81 fun x82 =>
 kGuard x82 true (fun k => k x79 s) s fun x83 s =>
 kGuard x82 true (fun k => k x77 s) s fun x84 s =>
 kGuard x82 true (fun k => k x80 s) s fun x85 s =>
 kGuard x82 true (fun k => kIaddr 2 s x84 x85 k) s fun x86 s =>
 kGuard x82 true (fun k => kLoadn 2 s x86 k) s fun x87 s =>
 kGuard x82 true (fun k => k x77 s) s fun x88 s =>
 kGuard x82 true (fun k => k x78 s) s fun x89 s =>
 kGuard x82 true (fun k => kIaddr 2 s x88 x89 k) s fun x90 s =>
 kGuard x82 true (fun k => kLoadn 2 s x90 k) s fun x91 s =>
 kGuard x82 true (fun k => dynK (TD188 φ) false x83 [x87, x91] s k) s fun x92 s =>
 kGuard x82 true (fun k => kLss x92 (.i .i64 (.ofNat 0)) fun d => k d s) s fun x93 s =>
 kPick x82 x93 (.b false) s fun x94 s =>
 kCond x94
(kAdd x80 (.i .i64 (.ofNat 1)) fun x95 =>
 q76 x77 x78 x79 x95 x81 s)
(lp (fun (_ _ _ _ _ : D) (_ : LS) => none) (fun (q96 : D → D → D → D → D → LS → Rs) (x97 x98 x99 x100 x101 : D) (s : LS) =>
 kLeq x100 x101 fun x102 =>
 kGuard x102 true (fun k => k x99 s) s fun x103 s =>
 kGuard x102 true (fun k => k x97 s) s fun x104 s =>
 kGuard x102 true (fun k => k x101 s) s fun x105 s =>
 kGuard x102 true (fun k => kIaddr 2 s x104 x105 k) s fun x106 s =>
 kGuard x102 true (fun k => kLoadn 2 s x106 k) s fun x107 s =>
 kGuard x102 true (fun k => k x97 s) s fun x108 s =>
 kGuard x102 true (fun k => k x98 s) s fun x109 s =>
 kGuard x102 true (fun k => kIaddr 2 s x108 x109 k) s fun x110 s =>
 kGuard x102 true (fun k => kLoadn 2 s x110 k) s fun x111 s =>
 kGuard x102 true (fun k => dynK (TD188 φ) false x103 [x107, x111] s k) s fun x112 s =>
 kGuard x102 true (fun k => kLss x112 (.i .i64 (.ofNat 0)) fun d => k d s) s fun x113 s =>
 kGuard x102 true (fun k => kNot x113 s k) s fun x114 s =>
 kPick x102 x114 (.b false) s fun x115 s =>
 kCond x115
(kSub x101 (.i .i64 (.ofNat 1)) fun x116 =>
 q96 x97 x98 x99 x100 x116 s)
(kGtr x100 x101 fun x117 =>
 kCond x117
(kIaddr 2 s x97 x98 fun x118 s =>
 kLoadn 2 s x118 fun x119 s =>
 kIaddr 2 s x97 x101 fun x120 s =>
 kLoadn 2 s x120 fun x121 s =>
 kIaddr 2 s x97 x101 fun x122 s =>
 kStore 2 s x122 x119 fun _ s =>
 kIaddr 2 s x97 x98 fun x123 s =>
 kStore 2 s x123 x121 fun _ s =>
 k (.tup [x101, (.b false)]) s)
(kIaddr 2 s x97 x101 fun x124 s =>
 kLoadn 2 s x124 fun x125 s =>
 kIaddr 2 s x97 x100 fun x126 s =>
 kLoadn 2 s x126 fun x127 s =>
 kIaddr 2 s x97 x100 fun x128 s =>
 kStore 2 s x128 x125 fun _ s =>
 kIaddr 2 s x97 x101 fun x129 s =>
 kStore 2 s x129 x127 fun _ s =>
 kAdd x100 (.i .i64 (.ofNat 1)) fun x130 =>
 kSub x101 (.i .i64 (.ofNat 1)) fun x131 =>
 q70 x97 x98 x99 x130 x131 s))) φ x77 x78 x79 x80 x81 s)) φ x71 x72 x73 x74 x75 s) φ x35 x36 x37 x68 x69 s))) φ x15 x16 x17 x18 x19 s)) φ a1 a2 a5 x12 x13 s)
def T189 (φ : Nat) : FTab := setT (T188 φ) 188 (.mem (R_slices_partitionCmpFunc_api_FPower φ))
def TD189 (φ : Nat) : FTab := cnd false (setT (TD188 φ) 188 (.mem (R_slices_partitionCmpFunc_api_FPower φ))) (TD188 φ)
/-- slices.pdqsortCmpFunc[galois/api.FPower] -/
def Q_slices_pdqsortCmpFunc_api_FPower (φ : Nat) (ih : List D → LS → (D → LS → Rs) → Rs) : List D → LS → (D → LS → Rs) → Rs :=
fun as s k =>
 u1 as fun a1 r95 =>
 u1 r95 fun a2 r96 =>
 u1 r96 fun a3 r97 =>
 u1 r97 fun a4 r98 =>
 u1 r98 fun a5 r99 =>
 u0 r99 (
 lp (fun (_ _ _ _ _ _ _ : D) (_ : LS) => none) (fun (q6 : D → D → D → D → D → D → D → LS → Rs) (x7 x8 x9 x10 x11 x12 x13 : D) (s : LS) =>
 kSub x9 x8 fun x14 =>
 kLeq x14 (.i .i64 (.ofNat 12)) fun x15 =>
 kCond x15
((R_slices_insertionSortCmpFunc_api_FPower φ) [x7, x8, x9, x11] s fun x16 s =>
 k (.tup []) s)
(kEql x10 (.i .i64 (.ofNat 0)) fun x17 =>
 kCond x17
((R_slices_heapSortCmpFunc_api_FPower φ) [x7, x8, x9, x11] s fun x18 s =>
 k (.tup []) s)
(jn (fun (x20 x21 x22 x23 x24 x25 x26 x27 : D) (s : LS) =>
(R_slices_choosePivotCmpFunc_api_FPower φ) [x20, x21, x22, x24] s fun x28 s =>
 kExt x28 0 s fun x29 s =>
 kExt x28 1 s fun x30 s =>
 jn (fun (x32 x33 x34 x35 x36 x37 x38 x39 x40 x41 : D) (s : LS) =>
 jn (fun (x43 x44 x45 x46 x47 x48 x49 x50 x51 : D) (s : LS) =>
 kGtr x44 (.i .i64 (.ofNat 0)) fun x52 =>
 kGuard x52 true (fun k => k x47 s) s fun x53 s =>
 kGuard x52 true (fun k => k x43 s) s fun x54 s =>
 kGuard x52 true (fun k => k x44 s) s fun x55 s =>
 kGuard x52 true (fun k => kSub x55 (.i .i64 (.ofNat 1)) fun d => k d s) s fun x56 s =>
 kGuard x52 true (fun k => kIaddr 2 s x54 x56 k) s fun x57 s =>
 kGuard x52 true (fun k => kLoadn 2 s x57 k) s fun x58 s =>
 kGuard x52 true (fun k => k x43 s) s fun x59 s =>
 kGuard x52 true (fun k => k x51 s) s fun x60 s =>
 kGuard x52 true (fun k => kIaddr 2 s x59 x60 k) s fun x61 s =>
 kGuard x52 true (fun k => kLoadn 2 s x61 k) s fun x62 s =>
 kGuard x52 true (fun k => dynK (cnd false (setT (TD189 φ) 189 (.mem ih)) (TD189 φ)) false x53 [x58, x62] s k) s fun x63 s =>
 kGuard x52 true (fun k => kLss x63 (.i .i64 (.ofNat 0)) fun d => k d s) s fun x64 s =>
 kGuard x52 true (fun k => kNot x64 s k) s fun x65 s =>
 kPick x52 x65 (.b false) s fun x66 s =>
 kCond x66
((R_slices_partitionEqualCmpFunc_api_FPower φ) [x43, x44, x45, x51, x47] s fun x67 s =>
 q6 x43 x67 x45 x46 x47 x48 x49 s)
((R_slices_partitionCmpFunc_api_FPower φ) [x43, x44, x45, x51, x47] s fun x68 s =>
 kExt x68 0 s fun x69 s =>
 kExt x68 1 s fun x70 s =>
 kSub x69 x44 fun x71 =>
 kSub x45 x69 fun x72 =>
 kQuo x50 (.i .i64 (.ofNat 8)) fun x73 =>
 kLss x71 x72 fun x74 =>
 kCond x74
(kGeq x71 x73 fun x75 =>
 ih [x43, x44, x69, x46, x47] s fun x76 s =>
 kAdd x69 (.i .i64 (.ofNat 1)) fun x77 =>
 q6 x43 x77 x45 x46 x47 x75 x70 s)
(kGeq x72 x73 fun x78 =>
 kAdd x69 (.i .i64 (.ofNat 1)) fun x79 =>
 ih [x43, x79, x45, x46, x47] s fun x80 s =>
 q6 x43 x44 x69 x46 x47 x78 x70 s))) fun j42 =>
 kGuard x37 true (fun k => k x38 s) s fun x81 s =>
 kPick x37 x81 (.b false) s fun x82 s =>
 kGuard x82 true (fun k => k x41 s) s fun x83 s =>
 kGuard x82 true (fun k => kEql x83 (.i .i64 (.ofNat 1)) fun d => k d s) s fun x84 s =>
 kPick x82 x84 (.b false) s fun x85 s =>
 kCond x85
((R_slices_partialInsertionSortCmpFunc_api_FPower φ) [x32, x33, x34, x36] s fun x86 s =>
 kCond x86
(k (.tup []) s)
(j42 x32 x33 x34 x35 x36 x37 x38 x39 x40 s))
(j42 x32 x33 x34 x35 x36 x37 x38 x39 x40 s)) fun j31 =>
 kEql x30 (.i .i64 (.ofNat 2)) fun x87 =>
 kCond x87
((R_slices_reverseRangeCmpFunc_api_FPower φ) [x20, x21, x22, x24] s fun x88 s =>
 kSub x22 (.i .i64 (.ofNat 1)) fun x89 =>
 kSub x29 x21 fun x90 =>
 kSub x89 x90 fun x91 =>
 j31 x20 x21 x22 x23 x24 x25 x26 x27 x91 (.i .i64 (.ofNat 1)) s)
(j31 x20 x21 x22 x23 x24 x25 x26 x27 x29 x30 s)) fun j19 =>
 kNot x12 s fun x92 s =>
 kCond x92
((R_slices_breakPatternsCmpFunc_api_FPower φ) [x7, x8, x9, x11] s fun x93 s =>
 kSub x10 (.i .i64 (.ofNat 1)) fun x94 =>
 j19 x7 x8 x9 x94 x11 x12 x13 x14 s)
(j19 x7 x8 x9 x10 x11 x12 x13 x14 s)))) φ a1 a2 a3 a4 a5 (.b true) (.b true) s)
def R_slices_pdqsortCmpFunc_api_FPower (φ : Nat) : List D → LS → (D → LS → Rs) → Rs := lp (fun _ _ _ => none) (Q_slices_pdqsortCmpFunc_api_FPower φ) φ
def T190 (φ : Nat) : FTab := setT (T189 φ) 189 (.mem (R_slices_pdqsortCmpFunc_api_FPower φ))
def TD190 (φ : Nat) : FTab := cnd false (setT (TD189 φ) 189 (.mem (R_slices_pdqsortCmpFunc_api_FPower φ))) (TD189 φ)
/-- slices.SortFunc[[]galois/api.FPower,galois/api.FPower] -/
def R_slices_SortFunc_api_FPower_api_FPower (φ : Nat) : List D → LS → (D → LS → Rs) → Rs :=
fun as s k =>
 u1 as fun a1 r7 =>
 u1 r7 fun a2 r8 =>
 u0 r8 (
 kLen a1 s fun x3 s =>
 kToInt .u64 x3 s fun x4 s =>
 isoK (R_math_bits_Len φ) [x4] s fun x5 s =>
(R_slices_pdqsortCmpFunc_api_FPower φ) [a1, (.i .i64 (.ofNat 0)), x3, x5, a2] s fun x6 s =>
 k (.tup []) s)
def T191 (φ : Nat) : FTab := setT (T190 φ) 190 (.mem (R_slices_SortFunc_api_FPower_api_FPower φ))
def TD191 (φ : Nat) : FTab := cnd false (setT (TD190 φ) 190 (.mem (R_slices_SortFunc_api_FPower_api_FPower φ))) (TD190 φ)
/-- galois/fieldfactor.factor -/
def R_fieldfactor_factor (φ : Nat) : List D → Option D :=
fun as =>
(fun (s : LS) =>
 u1 as fun a1 r7 =>
 u1 r7 fun a2 r8 =>
 u0 r8 (
 kBox a1 s fun x3 s =>
 kLoadn 1 s x3 fun x4 s =>
 isoK (R_ff_Factor φ) [x4, a2] s fun x5 s =>
(R_slices_SortFunc_api_FPower_api_FPower φ) [x5, (.fn 176 [])] s fun x6 s =>
 retK false s x5 some)) s0
def k_fieldfactor_factor_0 : List D := [(.agg [(qi [(true,2),(false,0),(false,1)] false)]), (.tree [(qi [(true,4)] false), (.tree [] 0 true), (.tree [] 0 true), (.tree [] 0 true), (qi [(false,1)] false)] 5 false)]
def v_fieldfactor_factor_0 : D := (.tree [(.tree [(qi [(false,0),(true,1)] true), (qi [(false,1)] true)] 2 false), (.i .i64 (.ofNat 1)), (.tree [(qi [(false,0),(false,1)] true), (qi [(false,1)] true)] 2 false), (.i .i64 (.ofNat 1)), (.tree [(qi [(false,2)] true), (.tree [] 0 true), (qi [(false,1)] true)] 3 false), (.i .i64 (.ofNat 1))] 3 false)
def k_fieldfactor_factor_1 : List D := [(.agg [(qi [(true,2),(false,0),(false,1)] false)]), (.tree [(qi [(true,8)] true), (.tree [] 0 true), (qi [(false,1)] true)] 3 false)]
def v_fieldfactor_factor_1 : D := (.tree [(.tree [(qi [(false,0),(true,2)] true), (qi [(false,1)] true)] 2 false), (.i .i64 (.ofNat 1)), (.tree [(qi [(false,0),(false,2)] true), (qi [(false,1)] true)] 2 false), (.i .i64 (.ofNat 1))] 2 false)
def k_fieldfactor_factor_2 : List D := [(.agg [(qi [(true,2),(false,0),(false,1)] false)]), (.tree [(qi [(true,3)] false), (.tree [] 0 true), (qi [(false,1)] false)] 3 false)]
def v_fieldfactor_factor_2 : D := (.tree [(.tree [(qi [(true,3)] true), (.tree [] 0 true), (qi [(false,1)] true)] 3 false), (.i .i64 (.ofNat 1))] 1 false)
def k_fieldfactor_factor_3 : List D := [(.agg [(qi [(false,1),(false,1),(false,1)] false)]), (.tree [(qi [(true,1)] true), (.tree [] 0 true), (.tree [] 0 true), (qi [(false,1)] true)] 4 false)]
def v_fieldfactor_factor_3 : D := (.tree [(.tree [(qi [(true,1)] true), (qi [(false,1)] true)] 2 false), (.i .i64 (.ofNat 1)), (.tree [(qi [(false,0),(true,1)] true), (qi [(false,1)] true)] 2 false), (.i .i64 (.ofNat 1)), (.tree [(qi [(false,1),(false,1)] true), (qi [(false,1)] true)] 2 false), (.i .i64 (.ofNat 1))] 3 false)
def B_fieldfactor_factor : List (List D × D) := [(k_fieldfactor_factor_0, v_fieldfactor_factor_0), (k_fieldfactor_factor_1, v_fieldfactor_factor_1), (k_fieldfactor_factor_2, v_fieldfactor_factor_2), (k_fieldfactor_factor_3, v_fieldfactor_factor_3)]
def T192 (φ : Nat) : FTab := setT (T191 φ) 191 (.iso (tabM B_fieldfactor_factor (R_fieldfactor_factor φ)))
def TD192 (φ : Nat) : FTab := cnd false (setT (TD191 φ) 191 (.iso (tabM B_fieldfactor_factor (R_fieldfactor_factor φ)))) (TD191 φ)
/-- galois/exact.PLarge -/
def R_exact_PLarge (φ : Nat) : List D → Option D :=
fun as =>
(fun (s : LS) =>
 u1 as fun a1 r7 =>
 u0 r7 (
 kLen a1 s fun x2 s =>
 kGtr x2 (.i .i64 (.ofNat 65)) fun x3 =>
 kGuard x3 false (fun k => k a1 s) s fun x4 s =>
 kGuard x3 false (fun k => (R_slices_ContainsFunc_api_Poly_api_Rat φ) [x4, (.fn 30 [])] s k) s fun x5 s =>
 kPick x3 (.b true) x5 s fun x6 s =>
 retK false s x6 some)) s0
def T193 (φ : Nat) : FTab := setT (T192 φ) 192 (.iso (R_exact_PLarge φ))
def TD193 (φ : Nat) : FTab := cnd true (setT (TD192 φ) 192 (.iso (R_exact_PLarge φ))) (TD192 φ)
/-- slices.IndexFunc[galois/api.FPoly,galois/api.Poly] -/
def R_slices_IndexFunc_api_FPoly_api_Poly (φ : Nat) : List D → LS → (D → LS → Rs) → Rs :=
fun as s k =>
 u1 as fun a1 r14 =>
 u1 r14 fun a2 r15 =>
 u0 r15 (
 kLen a1 s fun x3 s =>
 lp (fun (_ _ _ _ : D) (_ : LS) => none) (fun (q4 : D → D → D → D → LS → Rs) (x5 x6 x7 x8 : D) (s : LS) =>
 kLss x8 x7 fun x9 =>
 kCond x9
(kIaddr 1 s x5 x8 fun x10 s =>
 kLoad1 s x10 fun x11 s =>
 dynK (TD193 φ) false x6 [x11] s fun x12 s =>
 kCond x12
(k x8 s)
(kAdd x8 (.i .i64 (.ofNat 1)) fun x13 =>
 q4 x5 x6 x7 x13 s))
(k (.i .i64 (.negSucc 0)) s)) φ a1 a2 x3 (.i .i64 (.ofNat 0)) s)
def T194 (φ : Nat) : FTab := setT (T193 φ) 193 (.mem (R_slices_IndexFunc_api_FPoly_api_Poly φ))
def TD194 (φ : Nat) : FTab := cnd false (setT (TD193 φ) 193 (.mem (R_slices_IndexFunc_api_FPoly_api_Poly φ))) (TD193 φ)
/-- slices.ContainsFunc[galois/api.FPoly,galois/api.Poly] -/
def R_slices_ContainsFunc_api_FPoly_api_Poly (φ : Nat) : List D → LS → (D → LS → Rs) → Rs :=
fun as s k =>
 u1 as fun a1 r5 =>
 u1 r5 fun a2 r6 =>
 u0 r6 (
(R_slices_IndexFunc_api_FPoly_api_Poly φ) [a1, a2] s fun x3 s =>
 kGeq x3 (.i .i64 (.ofNat 0)) fun x4 =>
 k x4 s)
def T195 (φ : Nat) : FTab := setT (T194 φ) 194 (.mem (R_slices_ContainsFunc_api_FPoly_api_Poly φ))
def TD195 (φ : Nat) : FTab := cnd false (setT (TD194 φ) 194 (.mem (R_slices_ContainsFunc_api_FPoly_api_Poly φ))) (TD194 φ)
/-- galois/fieldfactor.Factor -/
def R_fieldfactor_Factor (φ : Nat) : List D → Option D :=
fun as =>
(fun (s : LS) =>
 u1 as fun a1 r32 =>
 u1 r32 fun a2 r33 =>
 u0 r33 (
 kBox a1 s fun x3 s =>
 kLoadn 1 s x3 fun x4 s =>
 kLoadn 1 s x3 fun x5 s =>
 isoK (R_fieldpoly_Check φ) [x5, a2] s fun x6 s =>
 kLen a2 s fun x7 s =>
 isoK (R_fieldfactor_check φ) [x4, x6, x7] s fun x8 s =>
 kNeq x8 (.i .i64 (.ofNat 0)) fun x9 =>
 kCond x9
(retK false s (.tup [(.tree [] 0 true), (.tree [] 0 true), x8]) some)
(kLoadn 1 s x3 fun x10 s =>
 isoK (tabM B_fieldfactor_factor (R_fieldfactor_factor φ)) [x10, a2] s fun x11 s =>
 kLen x11 s fun x12 s =>
 lp (fun (_ _ _ _ _ : D) (_ : LS) => none) (fun (q13 : D → D → D → D → D → LS → Rs) (x14 x15 x16 x17 x18 : D) (s : LS) =>
 kLss x18 x17 fun x19 =>
 kCond x19
(kIaddr 2 s x16 x18 fun x20 s =>
 kLoadn 2 s x20 fun x21 s =>
 kAlloc [(.tree [] 0 true), (.i .i64 (.ofNat 0))] s fun x22 s =>
 kStore 2 s x22 x21 fun _ s =>
 kFaddr 0 s x22 fun x23 s =>
 kLoad1 s x23 fun x24 s =>
(R_slices_ContainsFunc_api_FPoly_api_Poly φ) [x24, (.fn 192 [])] s fun x25 s =>
 kCond x25
(retK false s (.tup [(.tree [] 0 true), (.tree [] 0 true), (.i .i64 (.ofNat 4))]) some)
(kAdd x18 (.i .i64 (.ofNat 1)) fun x26 =>
 q13 x14 x15 x16 x17 x26 s))
(kLen x14 s fun x27 s =>
 kSub x27 (.i .i64 (.ofNat 1)) fun x28 =>
 kIaddr 1 s x14 x28 fun x29 s =>
 kLoad1 s x29 fun x30 s =>
 isoK (cloneP (R_slices_Clone_api_Poly_api_Rat φ)) [x30] s fun x31 s =>
 retK false s (.tup [x31, x15, (.i .i64 (.ofNat 0))]) some)) φ a2 x11 x11 x12 (.i .i64 (.ofNat 0)) s))) s0
def T196 (φ : Nat) : FTab := setT (T195 φ) 195 (.iso (R_fieldfactor_Factor φ))
def TD196 (φ : Nat) : FTab := cnd false (setT (TD195 φ) 195 (.iso (R_fieldfactor_Factor φ))) (TD195 φ)
/-- galois/galoisref30.Rational -/
def R_galoisref30_Rational (φ : Nat) : List D → Option D :=
fun as =>
(fun (s : LS) =>
 u1 as fun a1 r6 =>
 u0 r6 (
 kBox a1 s fun x2 s =>
 kLoadn 3 s x2 fun x3 s =>
 kBsl 1 [(.b false), (.n 0), (.n 0)] [(0, 3, x3)] s fun x4 s =>
 isoK (R_galoisref06_Trim φ) [x4] s fun x5 s =>
 retK false s x5 some)) s0
def T197 (φ : Nat) : FTab := setT (T196 φ) 196 (.iso (R_galoisref30_Rational φ))
def TD197 (φ : Nat) : FTab := cnd false (setT (TD196 φ) 196 (.iso (R_galoisref30_Rational φ))) (TD196 φ)
/-- galois/galoisref31.FromRational -/
def R_galoisref31_FromRational (φ : Nat) : List D → Option D :=
fun as =>
(fun (s : LS) =>
 u1 as fun a1 r17 =>
 u0 r17 (
 kLen a1 s fun x2 s =>
 lp (fun (_ _ _ _ : D) (_ : LS) => none) (fun (q3 : D → D → D → D → LS → Rs) (x4 x5 x6 x7 : D) (s : LS) =>
 kLss x7 x6 fun x8 =>
 kCond x8
(kIaddr 3 s x5 x7 fun x9 s =>
 kLoadn 3 s x9 fun x10 s =>
 kAlloc [(.b false), (.n 0), (.n 0)] s fun x11 s =>
 kStore 3 s x11 x10 fun _ s =>
 kLoadn 3 s x11 fun x12 s =>
 isoK (R_galoisref30_Rational φ) [x12] s fun x13 s =>
 kBsl 1 [(.tree [] 0 true)] [(0, 1, x13)] s fun x14 s =>
 kApp 1 24 s x4 x14 fun x15 s =>
 kAdd x7 (.i .i64 (.ofNat 1)) fun x16 =>
 q3 x15 x5 x6 x16 s)
(retK false s x4 some)) φ (.tree [] 0 true) a1 x2 (.i .i64 (.ofNat 0)) s)) s0
def T198 (φ : Nat) : FTab := setT (T197 φ) 197 (.iso (R_galoisref31_FromRational φ))
def TD198 (φ : Nat) : FTab := cnd false (setT (TD197 φ) 197 (.iso (R_galoisref31_FromRational φ))) (TD197 φ)
/-- galois/fieldfactor.IsIrreducible -/
def R_fieldfactor_IsIrreducible (φ : Nat) : List D → Option D :=
fun as =>
(fun (s : LS) =>
 u1 as fun a1 r20 =>
 u1 r20 fun a2 r21 =>
 u0 r21 (
 kBox a1 s fun x3 s =>
 kLoadn 1 s x3 fun x4 s =>
 kLoadn 1 s x3 fun x5 s =>
 isoK (R_fieldpoly_Check φ) [x5, a2] s fun x6 s =>
 kLen a2 s fun x7 s =>
 isoK (R_fieldfactor_check φ) [x4, x6, x7] s fun x8 s =>
 kNeq x8 (.i .i64 (.ofNat 0)) fun x9 =>
 kCond x9
(retK false s (.tup [(.b false), x8]) some)
(kLoadn 1 s x3 fun x10 s =>
 isoK (tabM B_fieldfactor_factor (R_fieldfactor_factor φ)) [x10, a2] s fun x11 s =>
 kLen x11 s fun x12 s =>
 kEql x12 (.i .i64 (.ofNat 1)) fun x13 =>
 kGuard x13 true (fun k => k x11 s) s fun x14 s =>
 kGuard x13 true (fun k => kIaddr 2 s x14 (.i .i64 (.ofNat 0)) k) s fun x15 s =>
 kGuard x13 true (fun k => kFaddr 1 s x15 k) s fun x16 s =>
 kGuard x13 true (fun k => kLoad1 s x16 k) s fun x17 s =>
 kGuard x13 true (fun k => kEql x17 (.i .i64 (.ofNat 1)) fun d => k d s) s fun x18 s =>
 kPick x13 x18 (.b false) s fun x19 s =>
 retK false s (.tup [x19, (.i .i64 (.ofNat 0))]) some))) s0
def T199 (φ : Nat) : FTab := setT (T198 φ) 198 (.iso (R_fieldfactor_IsIrreducible φ))
def TD199 (φ : Nat) : FTab := cnd false (setT (TD198 φ) 198 (.iso (R_fieldfactor_IsIrreducible φ))) (TD198 φ)
/-- galois/fieldfactor.linear -/
def R_fieldfactor_linear (φ : Nat) : List D → Option D :=
fun as =>
(fun (s : LS) =>
 u1 as fun a1 r32 =>
 u1 r32 fun a2 r33 =>
 u0 r33 (
 jn (fun (x4 : D) (s : LS) =>
 retK false s x4 some) fun j3 =>
 kLen a1 s fun x5 s =>
 lp (fun (_ _ _ _ _ : D) (_ : LS) => none) (fun (q6 : D → D → D → D → D → LS → Rs) (x7 x8 x9 x10 x11 : D) (s : LS) =>
 kLss x11 x10 fun x12 =>
 kCond x12
(jn (fun (x14 x15 x16 x17 x18 : D) (s : LS) =>
 kAdd x18 (.i .i64 (.ofNat 1)) fun x19 =>
 q6 x14 x15 x16 x17 x19 s) fun j13 =>
 kLen x9 s fun x20 s =>
 kEql x20 x8 fun x21 =>
 kCond x21
(j3 x9 s)
(kIaddr 2 s x7 x11 fun x22 s =>
 kFaddr 0 s x22 fun x23 s =>
 kLoad1 s x23 fun x24 s =>
 kLen x24 s fun x25 s =>
 kEql x25 (.i .i64 (.ofNat 2)) fun x26 =>
 kCond x26
(kIaddr 2 s x7 x11 fun x27 s =>
 kFaddr 0 s x27 fun x28 s =>
 kLoad1 s x28 fun x29 s =>
 kBsl 1 [(.tree [] 0 true)] [(0, 1, x29)] s fun x30 s =>
 kApp 1 24 s x9 x30 fun x31 s =>
 j13 x7 x8 x31 x10 x11 s)
(j13 x7 x8 x9 x10 x11 s)))
(j3 x9 s)) φ a1 a2 (.tree [] 0 true) x5 (.i .i64 (.ofNat 0)) s)) s0
def T200 (φ : Nat) : FTab := setT (T199 φ) 199 (.iso (R_fieldfactor_linear φ))
def TD200 (φ : Nat) : FTab := cnd false (setT (TD199 φ) 199 (.iso (R_fieldfactor_linear φ))) (TD199 φ)
/-- slices.IndexFunc[[]galois/api.Poly,galois/api.Poly] -/
def R_slices_IndexFunc_api_Poly_api_Poly (φ : Nat) : List D → LS → (D → LS → Rs) → Rs :=
fun as s k =>
 u1 as fun a1 r14 =>
 u1 r14 fun a2 r15 =>
 u0 r15 (
 kLen a1 s fun x3 s =>
 lp (fun (_ _ _ _ : D) (_ : LS) => none) (fun (q4 : D → D → D → D → LS → Rs) (x5 x6 x7 x8 : D) (s : LS) =>
 kLss x8 x7 fun x9 =>
 kCond x9
(kIaddr 1 s x5 x8 fun x10 s =>
 kLoad1 s x10 fun x11 s =>
 dynK (TD200 φ) false x6 [x11] s fun x12 s =>
 kCond x12
(k x8 s)
(kAdd x8 (.i .i64 (.ofNat 1)) fun x13 =>
 q4 x5 x6 x7 x13 s))
(k (.i .i64 (.negSucc 0)) s)) φ a1 a2 x3 (.i .i64 (.ofNat 0)) s)
def T201 (φ : Nat) : FTab := setT (T200 φ) 200 (.mem (R_slices_IndexFunc_api_Poly_api_Poly φ))
def TD201 (φ : Nat) : FTab := cnd false (setT (TD200 φ) 200 (.mem (R_slices_IndexFunc_api_Poly_api_Poly φ))) (TD200 φ)
/-- slices.ContainsFunc[[]galois/api.Poly,galois/api.Poly] -/
def R_slices_ContainsFunc_api_Poly_api_Poly (φ : Nat) : List D → LS → (D → LS → Rs) → Rs :=
fun as s k =>
 u1 as fun a1 r5 =>
 u1 r5 fun a2 r6 =>
 u0 r6 (
(R_slices_IndexFunc_api_Poly_api_Poly φ) [a1, a2] s fun x3 s =>
 kGeq x3 (.i .i64 (.ofNat 0)) fun x4 =>
 k x4 s)
def T202 (φ : Nat) : FTab := setT (T201 φ) 201 (.mem (R_slices_ContainsFunc_api_Poly_api_Poly φ))
def TD202 (φ : Nat) : FTab := cnd false (setT (TD201 φ) 201 (.mem (R_slices_ContainsFunc_api_Poly_api_Poly φ))) (TD201 φ)
/-- slices.insertionSortCmpFunc[galois/api.Poly] -/
def R_slices_insertionSortCmpFunc_api_Poly (φ : Nat) : List D → LS → (D → LS → Rs) → Rs :=
fun as s k =>
 u1 as fun a1 r44 =>
 u1 r44 fun a2 r45 =>
 u1 r45 fun a3 r46 =>
 u1 r46 fun a4 r47 =>
 u0 r47 (
 kAdd a2 (.i .i64 (.ofNat 1)) fun x5 =>
 lp (fun (_ _ _ _ _ : D) (_ : LS) => none) (fun (q6 : D → D → D → D → D → LS → Rs) (x7 x8 x9 x10 x11 : D) (s : LS) =>
 kLss x11 x9 fun x12 =>
 kCond x12
(lp (fun (_ _ _ _ _ _ : D) (_ : LS) => none) (fun (q13 : D → D → D → D → D → D → LS → Rs) (x14 x15 x16 x17 x18 x19 : D) (s : LS) =>
 kGtr x19 x15 fun x20 =>
 kGuard x20 true (fun k => k x17 s) s fun x21 s =>
 kGuard x20 true (fun k => k x14 s) s fun x22 s =>
 kGuard x20 true (fun k => k x19 s) s fun x23 s =>
 kGuard x20 true (fun k => kIaddr 1 s x22 x23 k) s fun x24 s =>
 kGuard x20 true (fun k => kLoad1 s x24 k) s fun x25 s =>
 kGuard x20 true (fun k => k x14 s) s fun x26 s =>
 kGuard x20 true (fun k => k x19 s) s fun x27 s =>
 kGuard x20 true (fun k => kSub x27 (.i .i64 (.ofNat 1)) fun d => k d s) s fun x28 s =>
 kGuard x20 true (fun k => kIaddr 1 s x26 x28 k) s fun x29 s =>
 kGuard x20 true (fun k => kLoad1 s x29 k) s fun x30 s =>
 kGuard x20 true (fun k => dynK (TD202 φ) false x21 [x25, x30] s k) s fun x31 s =>
 kGuard x20 true (fun k => kLss x31 (.i .i64 (.ofNat 0)) fun d => k d s) s fun x32 s =>
 kPick x20 x32 (.b false) s fun x33 s =>
 kCond x33
(kSub x19 (.i .i64 (.ofNat 1)) fun x34 =>
 kSub x19 (.i .i64 (.ofNat 1)) fun x35 =>
 kIaddr 1 s x14 x35 fun x36 s =>
 kLoad1 s x36 fun x37 s =>
 kIaddr 1 s x14 x19 fun x38 s =>
 kLoad1 s x38 fun x39 s =>
 kIaddr 1 s x14 x19 fun x40 s =>
 kStore 1 s x40 x37 fun _ s =>
 kIaddr 1 s x14 x34 fun x41 s =>
 kStore 1 s x41 x39 fun _ s =>
 kSub x19 (.i .i64 (.ofNat 1)) fun x42 =>
 q13 x14 x15 x16 x17 x18 x42 s)
(kAdd x18 (.i .i64 (.ofNat 1)) fun x43 =>
 q6 x14 x15 x16 x17 x43 s)) φ x7 x8 x9 x10 x11 x11 s)
(k (.tup []) s)) φ a1 a2 a3 a4 x5 s)
def T203 (φ : Nat) : FTab := setT (T202 φ) 202 (.mem (R_slices_insertionSortCmpFunc_api_Poly φ))
def TD203 (φ : Nat) : FTab := cnd false (setT (TD202 φ) 202 (.mem (R_slices_insertionSortCmpFunc_api_Poly φ))) (TD202 φ)
/-- slices.siftDownCmpFunc[galois/api.Poly] -/
def R_slices_siftDownCmpFunc_api_Poly (φ : Nat) : List D → LS → (D → LS → Rs) → Rs :=
fun as s k =>
 u1 as fun a1 r61 =>
 u1 r61 fun a2 r62 =>
 u1 r62 fun a3 r63 =>
 u1 r63 fun a4 r64 =>
 u1 r64 fun a5 r65 =>
 u0 r65 (
 lp (fun (_ _ _ _ _ : D) (_ : LS) => none) (fun (q6 : D → D → D → D → D → LS → Rs) (x7 x8 x9 x10 x11 : D) (s : LS) =>
 kMul (.i .i64 (.ofNat 2)) x11 fun x12 =>
 kAdd x12 (.i .i64 (.ofNat 1)) fun x13 =>
 kGeq x13 x8 fun x14 =>
 kCond x14
(k (.tup []) s)
(jn (fun (x16 x17 x18 x19 x20 x21 : D) (s : LS) =>
 kAdd x18 x20 fun x22 =>
 kIaddr 1 s x16 x22 fun x23 s =>
 kLoad1 s x23 fun x24 s =>
 kAdd x18 x21 fun x25 =>
 kIaddr 1 s x16 x25 fun x26 s =>
 kLoad1 s x26 fun x27 s =>
 dynK (TD203 φ) false x19 [x24, x27] s fun x28 s =>
 kLss x28 (.i .i64 (.ofNat 0)) fun x29 =>
 kNot x29 s fun x30 s =>
 kCond x30
(k (.tup []) s)
(kAdd x18 x20 fun x31 =>
 kAdd x18 x21 fun x32 =>
 kAdd x18 x21 fun x33 =>
 kIaddr 1 s x16 x33 fun x34 s =>
 kLoad1 s x34 fun x35 s =>
 kAdd x18 x20 fun x36 =>
 kIaddr 1 s x16 x36 fun x37 s =>
 kLoad1 s x37 fun x38 s =>
 kIaddr 1 s x16 x31 fun x39 s =>
 kStore 1 s x39 x35 fun _ s =>
 kIaddr 1 s x16 x32 fun x40 s =>
 kStore 1 s x40 x38 fun _ s =>
 q6 x16 x17 x18 x19 x21 s)) fun j15 =>
 kAdd x13 (.i .i64 (.ofNat 1)) fun x41 =>
 kLss x41 x8 fun x42 =>
 kGuard x42 true (fun k => k x10 s) s fun x43 s =>
 kGuard x42 true (fun k => k x7 s) s fun x44 s =>
 kGuard x42 true (fun k => k x9 s) s fun x45 s =>
 kGuard x42 true (fun k => k x13 s) s fun x46 s =>
 kGuard x42 true (fun k => kAdd x45 x46 fun d => k d s) s fun x47 s =>
 kGuard x42 true (fun k => kIaddr 1 s x44 x47 k) s fun x48 s =>
 kGuard x42 true (fun k => kLoad1 s x48 k) s fun x49 s =>
 kGuard x42 true (fun k => k x7 s) s fun x50 s =>
 kGuard x42 true (fun k => k x9 s) s fun x51 s =>
 kGuard x42 true (fun k => k x13 s) s fun x52 s =>
 kGuard x42 true (fun k => kAdd x51 x52 fun d => k d s) s fun x53 s =>
 kGuard x42 true (fun k => kAdd x53 (.i .i64 (.ofNat 1)) fun d => k d s) s fun x54 s =>
 kGuard x42 true (fun k => kIaddr 1 s x50 x54 k) s fun x55 s =>
 kGuard x42 true (fun k => kLoad1 s x55 k) s fun x56 s =>
 kGuard x42 true (fun k => dynK (TD203 φ) false x43 [x49, x56] s k) s fun x57 s =>
 kGuard x42 true (fun k => kLss x57 (.i .i64 (.ofNat 0)) fun d => k d s) s fun x58 s =>
 kPick x42 x58 (.b false) s fun x59 s =>
 kCond x59
(kAdd x13 (.i .i64 (.ofNat 1)) fun x60 =>
 j15 x7 x8 x9 x10 x11 x60 s)
(j15 x7 x8 x9 x10 x11 x13 s))) φ a1 a3 a4 a5 a2 s)
def T204 (φ : Nat) : FTab := setT (T203 φ) 203 (.mem (R_slices_siftDownCmpFunc_api_Poly φ))
def TD204 (φ : Nat) : FTab := cnd false (setT (TD203 φ) 203 (.mem (R_slices_siftDownCmpFunc_api_Poly φ))) (TD203 φ)
/-- slices.heapSortCmpFunc[galois/api.Poly] -/
def R_slices_heapSortCmpFunc_api_Poly (φ : Nat) : List D → LS → (D → LS → Rs) → Rs :=
fun as s k =>
 u1 as fun a1 r36 =>
 u1 r36 fun a2 r37 =>
 u1 r37 fun a3 r38 =>
 u1 r38 fun a4 r39 =>
 u0 r39 (
 kSub a3 a2 fun x5 =>
 kSub x5 (.i .i64 (.ofNat 1)) fun x6 =>
 kQuo x6 (.i .i64 (.ofNat 2)) fun x7 =>
 lp (fun (_ _ _ _ _ _ : D) (_ : LS) => none) (fun (q8 : D → D → D → D → D → D → LS → Rs) (x9 x10 x11 x12 x13 x14 : D) (s : LS) =>
 kGeq x14 (.i .i64 (.ofNat 0)) fun x15 =>
 kCond x15
((R_slices_siftDownCmpFunc_api_Poly φ) [x9, x14, x13, x11, x10] s fun x16 s =>
 kSub x14 (.i .i64 (.ofNat 1)) fun x17 =>
 q8 x9 x10 x11 x12 x13 x17 s)
(kSub x13 (.i .i64 (.ofNat 1)) fun x18 =>
 lp (fun (_ _ _ _ _ : D) (_ : LS) => none) (fun (q19 : D → D → D → D → D → LS → Rs) (x20 x21 x22 x23 x24 : D) (s : LS) =>
 kGeq x24 (.i .i64 (.ofNat 0)) fun x25 =>
 kCond x25
(kAdd x22 x24 fun x26 =>
 kAdd x22 x24 fun x27 =>
 kIaddr 1 s x20 x27 fun x28 s =>
 kLoad1 s x28 fun x29 s =>
 kIaddr 1 s x20 x22 fun x30 s =>
 kLoad1 s x30 fun x31 s =>
 kIaddr 1 s x20 x22 fun x32 s =>
 kStore 1 s x32 x29 fun _ s =>
 kIaddr 1 s x20 x26 fun x33 s =>
 kStore 1 s x33 x31 fun _ s =>
(R_slices_siftDownCmpFunc_api_Poly φ) [x20, x23, x24, x22, x21] s fun x34 s =>
 kSub x24 (.i .i64 (.ofNat 1)) fun x35 =>
 q19 x20 x21 x22 x23 x35 s)
(k (.tup []) s)) φ x9 x10 x11 x12 x18 s)) φ a1 a4 a2 (.i .i64 (.ofNat 0)) x5 x7 s)
def T205 (φ : Nat) : FTab := setT (T204 φ) 204 (.mem (R_slices_heapSortCmpFunc_api_Poly φ))
def TD205 (φ : Nat) : FTab := cnd false (setT (TD204 φ) 204 (.mem (R_slices_heapSortCmpFunc_api_Poly φ))) (TD204 φ)
/-- slices.breakPatternsCmpFunc[galois/api.Poly] -/
def R_slices_breakPatternsCmpFunc_api_Poly (φ : Nat) : List D → LS → (D → LS → Rs) → Rs :=
fun as s k =>
 u1 as fun a1 r49 =>
 u1 r49 fun a2 r50 =>
 u1 r50 fun a3 r51 =>
 u1 r51 fun a4 r52 =>
 u0 r52 (
 kSub a3 a2 fun x5 =>
 kGeq x5 (.i .i64 (.ofNat 8)) fun x6 =>
 kCond x6
(kToInt .u64 x5 s fun x7 s =>
 kAlloc [(.i .u64 (.ofNat 0))] s fun x8 s =>
 kStore 1 s x8 x7 fun _ s =>
(R_slices_nextPowerOfTwo φ) [x5] s fun x9 s =>
 kQuo x5 (.i .i64 (.ofNat 4)) fun x10 =>
 kMul x10 (.i .i64 (.ofNat 2)) fun x11 =>
 kAdd a2 x11 fun x12 =>
 kSub x12 (.i .i64 (.ofNat 1)) fun x13 =>
 lp (fun (_ _ _ _ _ _ : D) (_ : LS) => none) (fun (q14 : D → D → D → D → D → D → LS → Rs) (x15 x16 x17 x18 x19 x20 : D) (s : LS) =>
 kQuo x17 (.i .i64 (.ofNat 4)) fun x21 =>
 kMul x21 (.i .i64 (.ofNat 2)) fun x22 =>
 kAdd x16 x22 fun x23 =>
 kAdd x23 (.i .i64 (.ofNat 1)) fun x24 =>
 kLeq x20 x24 fun x25 =>
 kCond x25
(isoK (R_slices_xorshift_Next φ) [x18] s fun x26 s =>
 kSub x19 (.i .u64 (.ofNat 1)) fun x27 =>
 kAnd x26 x27 fun x28 =>
 kToInt .i64 x28 s fun x29 s =>
 jn (fun (x31 x32 x33 x34 x35 x36 x37 : D) (s : LS) =>
 kAdd x32 x37 fun x38 =>
 kAdd x32 x37 fun x39 =>
 kIaddr 1 s x31 x39 fun x40 s =>
 kLoad1 s x40 fun x41 s =>
 kIaddr 1 s x31 x36 fun x42 s =>
 kLoad1 s x42 fun x43 s =>
 kIaddr 1 s x31 x36 fun x44 s =>
 kStore 1 s x44 x41 fun _ s =>
 kIaddr 1 s x31 x38 fun x45 s =>
 kStore 1 s x45 x43 fun _ s =>
 kAdd x36 (.i .i64 (.ofNat 1)) fun x46 =>
 q14 x31 x32 x33 x34 x35 x46 s) fun j30 =>
 kGeq x29 x17 fun x47 =>
 kCond x47
(kSub x29 x17 fun x48 =>
 j30 x15 x16 x17 x18 x19 x20 x48 s)
(j30 x15 x16 x17 x18 x19 x20 x29 s))
(k (.tup []) s)) φ a1 a2 x5 x8 x9 x13 s)
(k (.tup []) s))
def T206 (φ : Nat) : FTab := setT (T205 φ) 205 (.mem (R_slices_breakPatternsCmpFunc_api_Poly φ))
def TD206 (φ : Nat) : FTab := cnd false (setT (TD205 φ) 205 (.mem (R_slices_breakPatternsCmpFunc_api_Poly φ))) (TD205 φ)
/-- slices.order2CmpFunc[galois/api.Poly] -/
def R_slices_order2CmpFunc_api_Poly (φ : Nat) : List D → LS → (D → LS → Rs) → Rs :=
fun as s k =>
 u1 as fun a1 r16 =>
 u1 r16 fun a2 r17 =>
 u1 r17 fun a3 r18 =>
 u1 r18 fun a4 r19 =>
 u1 r19 fun a5 r20 =>
 u0 r20 (
 kIaddr 1 s a1 a3 fun x6 s =>
 kLoad1 s x6 fun x7 s =>
 kIaddr 1 s a1 a2 fun x8 s =>
 kLoad1 s x8 fun x9 s =>
 dynK (TD206 φ) false a5 [x7, x9] s fun x10 s =>
 kLss x10 (.i .i64 (.ofNat 0)) fun x11 =>
 kCond x11
(kNilc s a4 fun x12 s =>
 kLoad1 s x12 fun x13 s =>
 kAdd x13 (.i .i64 (.ofNat 1)) fun x14 =>
 kNilc s a4 fun x15 s =>
 kStore 1 s x15 x14 fun _ s =>
 k (.tup [a3, a2]) s)
(k (.tup [a2, a3]) s))
def T207 (φ : Nat) : FTab := setT (T206 φ) 206 (.mem (R_slices_order2CmpFunc_api_Poly φ))
def TD207 (φ : Nat) : FTab := cnd false (setT (TD206 φ) 206 (.mem (R_slices_order2CmpFunc_api_Poly φ))) (TD206 φ)
/-- slices.medianCmpFunc[galois/api.Poly] -/
def R_slices_medianCmpFunc_api_Poly (φ : Nat) : List D → LS → (D → LS → Rs) → Rs :=
fun as s k =>
 u1 as fun a1 r16 =>
 u1 r16 fun a2 r17 =>
 u1 r17 fun a3 r18 =>
 u1 r18 fun a4 r19 =>
 u1 r19 fun a5 r20 =>
 u1 r20 fun a6 r21 =>
 u0 r21 (
(R_slices_order2CmpFunc_api_Poly φ) [a1, a2, a3, a5, a6] s fun x7 s =>
 kExt x7 0 s fun x8 s =>
 kExt x7 1 s fun x9 s =>
(R_slices_order2CmpFunc_api_Poly φ) [a1, x9, a4, a5, a6] s fun x10 s =>
 kExt x10 0 s fun x11 s =>
 kExt x10 1 s fun x12 s =>
(R_slices_order2CmpFunc_api_Poly φ) [a1, x8, x11, a5, a6] s fun x13 s =>
 kExt x13 0 s fun x14 s =>
 kExt x13 1 s fun x15 s =>
 k x15 s)
def T208 (φ : Nat) : FTab := setT (T207 φ) 207 (.mem (R_slices_medianCmpFunc_api_Poly φ))
def TD208 (φ : Nat) : FTab := cnd false (setT (TD207 φ) 207 (.mem (R_slices_medianCmpFunc_api_Poly φ))) (TD207 φ)
/-- slices.medianAdjacentCmpFunc[galois/api.Poly] -/
def R_slices_medianAdjacentCmpFunc_api_Poly (φ : Nat) : List D → LS → (D → LS → Rs) → Rs :=
fun as s k =>
 u1 as fun a1 r8 =>
 u1 r8 fun a2 r9 =>
 u1 r9 fun a3 r10 =>
 u1 r10 fun a4 r11 =>
 u0 r11 (
 kSub a2 (.i .i64 (.ofNat 1)) fun x5 =>
 kAdd a2 (.i .i64 (.ofNat 1)) fun x6 =>
(R_slices_medianCmpFunc_api_Poly φ) [a1, x5, a2, x6, a3, a4] s fun x7 s =>
 k x7 s)
def T209 (φ : Nat) : FTab := setT (T208 φ) 208 (.mem (R_slices_medianAdjacentCmpFunc_api_Poly φ))
def TD209 (φ : Nat) : FTab := cnd false (setT (TD208 φ) 208 (.mem (R_slices_medianAdjacentCmpFunc_api_Poly φ))) (TD208 φ)
/-- slices.choosePivotCmpFunc[galois/api.Poly] -/
def R_slices_choosePivotCmpFunc_api_Poly (φ : Nat) : List D → LS → (D → LS → Rs) → Rs :=
fun as s k =>
 u1 as fun a1 r35 =>
 u1 r35 fun a2 r36 =>
 u1 r36 fun a3 r37 =>
 u1 r37 fun a4 r38 =>
 u0 r38 (
 kSub a3 a2 fun x5 =>
 kAlloc [(.i .i64 (.ofNat 0))] s fun x6 s =>
 kQuo x5 (.i .i64 (.ofNat 4)) fun x7 =>
 kMul x7 (.i .i64 (.ofNat 1)) fun x8 =>
 kAdd a2 x8 fun x9 =>
 kQuo x5 (.i .i64 (.ofNat 4)) fun x10 =>
 kMul x10 (.i .i64 (.ofNat 2)) fun x11 =>
 kAdd a2 x11 fun x12 =>
 kQuo x5 (.i .i64 (.ofNat 4)) fun x13 =>
 kMul x13 (.i .i64 (.ofNat 3)) fun x14 =>
 kAdd a2 x14 fun x15 =>
 jn (fun (x17 x18 : D) (s : LS) =>
 kLoad1 s x17 fun x19 s =>
 kEql x19 (.i .i64 (.ofNat 0)) fun x20 =>
 kCond x20
(k (.tup [x18, (.i .i64 (.ofNat 1))]) s)
(kEql x19 (.i .i64 (.ofNat 12)) fun x21 =>
 kCond x21
(k (.tup [x18, (.i .i64 (.ofNat 2))]) s)
(k (.tup [x18, (.i .i64 (.ofNat 0))]) s))) fun j16 =>
 kGeq x5 (.i .i64 (.ofNat 8)) fun x22 =>
 kCond x22
(jn (fun (x24 x25 x26 x27 x28 x29 : D) (s : LS) =>
(R_slices_medianCmpFunc_api_Poly φ) [x24, x27, x28, x29, x26, x25] s fun x30 s =>
 j16 x26 x30 s) fun j23 =>
 kGeq x5 (.i .i64 (.ofNat 50)) fun x31 =>
 kCond x31
((R_slices_medianAdjacentCmpFunc_api_Poly φ) [a1, x9, x6, a4] s fun x32 s =>
(R_slices_medianAdjacentCmpFunc_api_Poly φ) [a1, x12, x6, a4] s fun x33 s =>
(R_slices_medianAdjacentCmpFunc_api_Poly φ) [a1, x15, x6, a4] s fun x34 s =>
 j23 a1 a4 x6 x32 x33 x34 s)
(j23 a1 a4 x6 x9 x12 x15 s))
(j16 x6 x12 s))
def T210 (φ : Nat) : FTab := setT (T209 φ) 209 (.mem (R_slices_choosePivotCmpFunc_api_Poly φ))
def TD210 (φ : Nat) : FTab := cnd false (setT (TD209 φ) 209 (.mem (R_slices_choosePivotCmpFunc_api_Poly φ))) (TD209 φ)
/-- slices.reverseRangeCmpFunc[galois/api.Poly] -/
def R_slices_reverseRangeCmpFunc_api_Poly (φ : Nat) : List D → LS → (D → LS → Rs) → Rs :=
fun as s k =>
 u1 as fun a1 r19 =>
 u1 r19 fun a2 r20 =>
 u1 r20 fun a3 r21 =>
 u1 r21 fun a4 r22 =>
 u0 r22 (
 kSub a3 (.i .i64 (.ofNat 1)) fun x5 =>
 lp (fun (_ _ _ : D) (_ : LS) => none) (fun (q6 : D → D → D → LS → Rs) (x7 x8 x9 : D) (s : LS) =>
 kLss x8 x9 fun x10 =>
 kCond x10
(kIaddr 1 s x7 x9 fun x11 s =>
 kLoad1 s x11 fun x12 s =>
 kIaddr 1 s x7 x8 fun x13 s =>
 kLoad1 s x13 fun x14 s =>
 kIaddr 1 s x7 x8 fun x15 s =>
 kStore 1 s x15 x12 fun _ s =>
 kIaddr 1 s x7 x9 fun x16 s =>
 kStore 1 s x16 x14 fun _ s =>
 kAdd x8 (.i .i64 (.ofNat 1)) fun x17 =>
 kSub x9 (.i .i64 (.ofNat 1)) fun x18 =>
 q6 x7 x17 x18 s)
(k (.tup []) s)) φ a1 a2 x5 s)
def T211 (φ : Nat) : FTab := setT (T210 φ) 210 (.mem (R_slices_reverseRangeCmpFunc_api_Poly φ))
def TD211 (φ : Nat) : FTab := cnd false (setT (TD210 φ) 210 (.mem (R_slices_reverseRangeCmpFunc_api_Poly φ))) (TD210 φ)
/-- slices.partialInsertionSortCmpFunc[galois/api.Poly] -/
def R_slices_partialInsertionSortCmpFunc_api_Poly (φ : Nat) : List D → LS → (D → LS → Rs) → Rs :=
fun as s k =>
 u1 as fun a1 r121 =>
 u1 r121 fun a2 r122 =>
 u1 r122 fun a3 r123 =>
 u1 r123 fun a4 r124 =>
 u0 r124 (
 kAdd a2 (.i .i64 (.ofNat 1)) fun x5 =>
 lp (fun (_ _ _ _ _ _ : D) (_ : LS) => none) (fun (q6 : D → D → D → D → D → D → LS → Rs) (x7 x8 x9 x10 x11 x12 : D) (s : LS) =>
 kLss x12 (.i .i64 (.ofNat 5)) fun x13 =>
 kCond x13
(jn (fun (x15 x16 x17 x18 x19 x20 : D) (s : LS) =>
 kAdd x20 (.i .i64 (.ofNat 1)) fun x21 =>
 q6 x15 x16 x17 x18 x19 x21 s) fun j14 =>
 lp (fun (_ _ _ _ _ _ : D) (_ : LS) => none) (fun (q22 : D → D → D → D → D → D → LS → Rs) (x23 x24 x25 x26 x27 x28 : D) (s : LS) =>
 kLss x27 x25 fun x29 =>
 kGuard x29 true (fun k => k x26 s) s fun x30 s =>
 kGuard x29 true (fun k => k x23 s) s fun x31 s =>
 kGuard x29 true (fun k => k x27 s) s fun x32 s =>
 kGuard x29 true (fun k => kIaddr 1 s x31 x32 k) s fun x33 s =>
 kGuard x29 true (fun k => kLoad1 s x33 k) s fun x34 s =>
 kGuard x29 true (fun k => k x23 s) s fun x35 s =>
 kGuard x29 true (fun k => k x27 s) s fun x36 s =>
 kGuard x29 true (fun k => kSub x36 (.i .i64 (.ofNat 1)) fun d => k d s) s fun x37 s =>
 kGuard x29 true (fun k => kIaddr 1 s x35 x37 k) s fun x38 s =>
 kGuard x29 true (fun k => kLoad1 s x38 k) s fun x39 s =>
 kGuard x29 true (fun k => dynK (TD211 φ) false x30 [x34, x39] s k) s fun x40 s =>
 kGuard x29 true (fun k => kLss x40 (.i .i64 (.ofNat 0)) fun d => k d s) s fun x41 s =>
 kGuard x29 true (fun k => kNot x41 s k) s fun x42 s =>
 kPick x29 x42 (.b false) s fun x43 s =>
 kCond x43
(kAdd x27 (.i .i64 (.ofNat 1)) fun x44 =>
 q22 x23 x24 x25 x26 x44 x28 s)
(kEql x27 x25 fun x45 =>
 kCond x45
(k (.b true) s)
(kSub x25 x24 fun x46 =>
 kLss x46 (.i .i64 (.ofNat 50)) fun x47 =>
 kCond x47
(k (.b false) s)
(kSub x27 (.i .i64 (.ofNat 1)) fun x48 =>
 kSub x27 (.i .i64 (.ofNat 1)) fun x49 =>
 kIaddr 1 s x23 x49 fun x50 s =>
 kLoad1 s x50 fun x51 s =>
 kIaddr 1 s x23 x27 fun x52 s =>
 kLoad1 s x52 fun x53 s =>
 kIaddr 1 s x23 x27 fun x54 s =>
 kStore 1 s x54 x51 fun _ s =>
 kIaddr 1 s x23 x48 fun x55 s =>
 kStore 1 s x55 x53 fun _ s =>
 jn (fun (x57 x58 x59 x60 x61 x62 : D) (s : LS) =>
 kSub x59 x61 fun x63 =>
 kGeq x63 (.i .i64 (.ofNat 2)) fun x64 =>
 kCond x64
(kAdd x61 (.i .i64 (.ofNat 1)) fun x65 =>
 lp (fun (_ _ _ _ _ _ _ : D) (_ : LS) => none) (fun (q66 : D → D → D → D → D → D → D → LS → Rs) (x67 x68 x69 x70 x71 x72 x73 : D) (s : LS) =>
 kLss x73 x69 fun x74 =>
 kCond x74
(kIaddr 1 s x67 x73 fun x75 s =>
 kLoad1 s x75 fun x76 s =>
 kSub x73 (.i .i64 (.ofNat 1)) fun x77 =>
 kIaddr 1 s x67 x77 fun x78 s =>
 kLoad1 s x78 fun x79 s =>
 dynK (TD211 φ) false x70 [x76, x79] s fun x80 s =>
 kLss x80 (.i .i64 (.ofNat 0)) fun x81 =>
 kNot x81 s fun x82 s =>
 kCond x82
(j14 x67 x68 x69 x70 x71 x72 s)
(kSub x73 (.i .i64 (.ofNat 1)) fun x83 =>
 kSub x73 (.i .i64 (.ofNat 1)) fun x84 =>
 kIaddr 1 s x67 x84 fun x85 s =>
 kLoad1 s x85 fun x86 s =>
 kIaddr 1 s x67 x73 fun x87 s =>
 kLoad1 s x87 fun x88 s =>
 kIaddr 1 s x67 x73 fun x89 s =>
 kStore 1 s x89 x86 fun _ s =>
 kIaddr 1 s x67 x83 fun x90 s =>
 kStore 1 s x90 x88 fun _ s =>
 kAdd x73 (.i .i64 (.ofNat 1)) fun x91 =>
 q66 x67 x68 x69 x70 x71 x72 x91 s))
(j14 x67 x68 x69 x70 x71 x72 s)) φ x57 x58 x59 x60 x61 x62 x65 s)
(j14 x57 x58 x59 x60 x61 x62 s)) fun j56 =>
 kSub x27 x24 fun x92 =>
 kGeq x92 (.i .i64 (.ofNat 2)) fun x93 =>
 kCond x93
(kSub x27 (.i .i64 (.ofNat 1)) fun x94 =>
 lp (fun (_ _ _ _ _ _ _ : D) (_ : LS) => none) (fun (q95 : D → D → D → D → D → D → D → LS → Rs) (x96 x97 x98 x99 x100 x101 x102 : D) (s : LS) =>
 kGeq x102 (.i .i64 (.ofNat 1)) fun x103 =>
 kCond x103
(kIaddr 1 s x96 x102 fun x104 s =>
 kLoad1 s x104 fun x105 s =>
 kSub x102 (.i .i64 (.ofNat 1)) fun x106 =>
 kIaddr 1 s x96 x106 fun x107 s =>
 kLoad1 s x107 fun x108 s =>
 dynK (TD211 φ) false x99 [x105, x108] s fun x109 s =>
 kLss x109 (.i .i64 (.ofNat 0)) fun x110 =>
 kNot x110 s fun x111 s =>
 kCond x111
(j56 x96 x97 x98 x99 x100 x101 s)
(kSub x102 (.i .i64 (.ofNat 1)) fun x112 =>
 kSub x102 (.i .i64 (.ofNat 1)) fun x113 =>
 kIaddr 1 s x96 x113 fun x114 s =>
 kLoad1 s x114 fun x115 s =>
 kIaddr 1 s x96 x102 fun x116 s =>
 kLoad1 s x116 fun x117 s =>
 kIaddr 1 s x96 x102 fun x118 s =>
 kStore 1 s x118 x115 fun _ s =>
 kIaddr 1 s x96 x112 fun x119 s =>
 kStore 1 s x119 x117 fun _ s =>
 kSub x102 (.i .i64 (.ofNat 1)) fun x120 =>
 q95 x96 x97 x98 x99 x100 x101 x120 s))
(j56 x96 x97 x98 x99 x100 x101 s)) φ x23 x24 x25 x26 x27 x28 x94 s)
(j56 x23 x24 x25 x26 x27 x28 s))))) φ x7 x8 x9 x10 x11 x12 s)
(k (.b false) s)) φ a1 a2 a3 a4 x5 (.i .i64 (.ofNat 0)) s)
def T212 (φ : Nat) : FTab := setT (T211 φ) 211 (.mem (R_slices_partialInsertionSortCmpFunc_api_Poly φ))
def TD212 (φ : Nat) : FTab := cnd false (setT (TD211 φ) 211 (.mem (R_slices_partialInsertionSortCmpFunc_api_Poly φ))) (TD211 φ)
/-- slices.partitionEqualCmpFunc[galois/api.Poly] -/
def R_slices_partitionEqualCmpFunc_api_Poly (φ : Nat) : List D → LS → (D → LS → Rs) → Rs :=
fun as s k =>
 u1 as fun a1 r70 =>
 u1 r70 fun a2 r71 =>
 u1 r71 fun a3 r72 =>
 u1 r72 fun a4 r73 =>
 u1 r73 fun a5 r74 =>
 u0 r74 (
 kIaddr 1 s a1 a4 fun x6 s =>
 kLoad1 s x6 fun x7 s =>
 kIaddr 1 s a1 a2 fun x8 s =>
 kLoad1 s x8 fun x9 s =>
 kIaddr 1 s a1 a2 fun x10 s =>
 kStore 1 s x10 x7 fun _ s =>
 kIaddr 1 s a1 a4 fun x11 s =>
 kStore 1 s x11 x9 fun _ s =>
 kAdd a2 (.i .i64 (.ofNat 1)) fun x12 =>
 kSub a3 (.i .i64 (.ofNat 1)) fun x13 =>
 lp (fun (_ _ _ _ _ : D) (_ : LS) => none) (fun (q14 : D → D → D → D → D → LS → Rs) (x15 x16 x17 x18 x19 : D) (s : LS) =>
 lp (fun (_ _ _ _ _ : D) (_ : LS) => none) (fun (q20 : D → D → D → D → D → LS → Rs) (x21 x22 x23 x24 x25 : D) (s : LS) =>
 kLeq x24 x25 fun x26 =>
 kGuard x26 true (fun k => k x23 s) s fun x27 s =>
 kGuard x26 true (fun k => k x21 s) s fun x28 s =>
 kGuard x26 true (fun k => k x22 s) s fun x29 s =>
 kGuard x26 true (fun k => kIaddr 1 s x28 x29 k) s fun x30 s =>
 kGuard x26 true (fun k => kLoad1 s x30 k) s fun x31 s =>
 kGuard x26 true (fun k => k x21 s) s fun x32 s =>
 kGuard x26 true (fun k => k x24 s) s fun x33 s =>
 kGuard x26 true (fun k => kIaddr 1 s x32 x33 k) s fun x34 s =>
 kGuard x26 true (fun k => kLoad1 s x34 k) s fun x35 s =>
 kGuard x26 true (fun k => dynK (TD212 φ) false x27 [x31, x35] s k) s fun x36 s =>
 kGuard x26 true (fun k => kLss x36 (.i .i64 (.ofNat 0)) fun d => k d s) s fun x37 s =>
 kGuard x26 true (fun k => kNot x37 s k) s fun x38 s =>
 kPick x26 x38 (.b false) s fun x39 s =>
 kCond x39
(kAdd x24 (.i .i64 (.ofNat 1)) fun x40 =>
 q20 x21 x22 x23 x40 x25 s)
(lp (fun (_ _ _ _ _ : D) (_ : LS) => none) (fun (q41 : D → D → D → D → D → LS → Rs) (x42 x43 x44 x45 x46 : D) (s : LS) =>
 kLeq x45 x46 fun x47 =>
 kGuard x47 true (fun k => k x44 s) s fun x48 s =>
 kGuard x47 true (fun k => k x42 s) s fun x49 s =>
 kGuard x47 true (fun k => k x43 s) s fun x50 s =>
 kGuard x47 true (fun k => kIaddr 1 s x49 x50 k) s fun x51 s =>
 kGuard x47 true (fun k => kLoad1 s x51 k) s fun x52 s =>
 kGuard x47 true (fun k => k x42 s) s fun x53 s =>
 kGuard x47 true (fun k => k x46 s) s fun x54 s =>
 kGuard x47 true (fun k => kIaddr 1 s x53 x54 k) s fun x55 s =>
 kGuard x47 true (fun k => kLoad1 s x55 k) s fun x56 s =>
 kGuard x47 true (fun k => dynK (TD212 φ) false x48 [x52, x56] s k) s fun x57 s =>
 kGuard x47 true (fun k => kLss x57 (.i .i64 (.ofNat 0)) fun d => k d s) s fun x58 s =>
 kPick x47 x58 (.b false) s fun x59 s =>
 kCond x59
(kSub x46 (.i .i64 (.ofNat 1)) fun x60 =>
 q41 x42 x43 x44 x45 x60 s)
(kGtr x45 x46 fun x61 =>
 kCond x61
(k x45 s)
(kIaddr 1 s x42 x46 fun x62 s =>
 kLoad1 s x62 fun x63 s =>
 kIaddr 1 s x42 x45 fun x64 s =>
 kLoad1 s x64 fun x65 s =>
 kIaddr 1 s x42 x45 fun x66 s =>
 kStore 1 s x66 x63 fun _ s =>
 kIaddr 1 s x42 x46 fun x67 s =>
 kStore 1 s x67 x65 fun _ s =>
 kAdd x45 (.i .i64 (.ofNat 1)) fun x68 =>
 kSub x46 (.i .i64 (.ofNat 1)) fun x69 =>
 q14 x42 x43 x44 x68 x69 s))) φ x21 x22 x23 x24 x25 s)) φ x15 x16 x17 x18 x19 s) φ a1 a2 a5 x12 x13 s)
def T213 (φ : Nat) : FTab := setT (T212 φ) 212 (.mem (R_slices_partitionEqualCmpFunc_api_Poly φ))
def TD213 (φ : Nat) : FTab := cnd false (setT (TD212 φ) 212 (.mem (R_slices_partitionEqualCmpFunc_api_Poly φ))) (TD212 φ)
/-- slices.partitionCmpFunc[galois/api.Poly] -/
def R_slices_partitionCmpFunc_api_Poly (φ : Nat) : List D → LS → (D → LS → Rs) → Rs :=
fun as s k =>
 u1 as fun a1 r132 =>
 u1 r132 fun a2 r133 =>
 u1 r133 fun a3 r134 =>
 u1 r134 fun a4 r135 =>
 u1 r135 fun a5 r136 =>
 u0 r136 (
 kIaddr 1 s a1 a4 fun x6 s =>
 kLoad1 s x6 fun x7 s =>
 kIaddr 1 s a1 a2 fun x8 s =>
 kLoad1 s x8 fun x9 s =>
 kIaddr 1 s a1 a2 fun x10 s =>
 kStore 1 s x10 x7 fun _ s =>
 kIaddr 1 s a1 a4 fun x11 s =>
 kStore 1 s x11 x9 fun _ s =>
 kAdd a2 (.i .i64 (.ofNat 1)) fun x12 =>
 kSub a3 (.i .i64 (.ofNat 1)) fun x13 =>
 lp (fun (_ _ _ _ _ : D) (_ : LS) => none) (fun (q14 : D → D → D → D → D → LS → Rs) (x15 x16 x17 x18 x19 : D) (s : LS) =>
 kLeq x18 x19 fun x20 =>
 kGuard x20 true (fun k => k x17 s) s fun x21 s =>
 kGuard x20 true (fun k => k x15 s) s fun x22 s =>
 kGuard x20 true (fun k => k x18 s) s fun x23 s =>
 kGuard x20 true (fun k => kIaddr 1 s x22 x23 k) s fun x24 s =>
 kGuard x20 true (fun k => kLoad1 s x24 k) s fun x25 s =>
 kGuard x20 true (fun k => k x15 s) s fun x26 s =>
 kGuard x20 true (fun k => k x16 s) s fun x27 s =>
 kGuard x20 true (fun k => kIaddr 1 s x26 x27 k) s fun x28 s =>
 kGuard x20 true (fun k => kLoad1 s x28 k) s fun x29 s =>
 kGuard x20 true (fun k => dynK (TD213 φ) false x21 [x25, x29] s k) s fun x30 s =>
 kGuard x20 true (fun k => kLss x30 (.i .i64 (.ofNat 0)) fun d => k d s) s fun x31 s =>
 kPick x20 x31 (.b false) s fun x32 s =>
 kCond x32
(kAdd x18 (.i .i64 (.ofNat 1)) fun x33 =>
 q14 x15 x16 x17 x33 x19 s)
(lp (fun (_ _ _ _ _ : D) (_ : LS) => none) (fun (q34 : D → D → D → D → D → LS → Rs) (x35 x36 x37 x38 x39 : D) (s : LS) =>
 kLeq x38 x39 fun x40 =>
 kGuard x40 true (fun k => k x37 s) s fun x41 s =>
 kGuard x40 true (fun k => k x35 s) s fun x42 s =>
 kGuard x40 true (fun k => k x39 s) s fun x43 s =>
 kGuard x40 true (fun k => kIaddr 1 s x42 x43 k) s fun x44 s =>
 kGuard x40 true (fun k => kLoad1 s x44 k) s fun x45 s =>
 kGuard x40 true (fun k => k x35 s) s fun x46 s =>
 kGuard x40 true (fun k => k x36 s) s fun x47 s =>
 kGuard x40 true (fun k => kIaddr 1 s x46 x47 k) s fun x48 s =>
 kGuard x40 true (fun k => kLoad1 s x48 k) s fun x49 s =>
 kGuard x40 true (fun k => dynK (TD213 φ) false x41 [x45, x49] s k) s fun x50 s =>
 kGuard x40 true (fun k => kLss x50 (.i .i64 (.ofNat 0)) fun d => k d s) s fun x51 s =>
 kGuard x40 true (fun k => kNot x51 s k) s fun x52 s =>
 kPick x40 x52 (.b false) s fun x53 s =>
 kCond x53
(kSub x39 (.i .i64 (.ofNat 1)) fun x54 =>
 q34 x35 x36 x37 x38 x54 s)
(kGtr x38 x39 fun x55 =>
 kCond x55
(kIaddr 1 s x35 x36 fun x56 s =>
 kLoad1 s x56 fun x57 s =>
 kIaddr 1 s x35 x39 fun x58 s =>
 kLoad1 s x58 fun x59 s =>
 kIaddr 1 s x35 x39 fun x60 s =>
 kStore 1 s x60 x57 fun _ s =>
 kIaddr 1 s x35 x36 fun x61 s =>
 kStore 1 s x61 x59 fun _ s =>
 k (.tup [x39, (.b true)]) s)
(kIaddr 1 s x35 x39 fun x62 s =>
 kLoad1 s x62 fun x63 s =>
 kIaddr 1 s x35 x38 fun x64 s =>
 kLoad1 s x64 fun x65 s =>
 kIaddr 1 s x35 x38 fun x66 s =>
 kStore 1 s x66 x63 fun _ s =>
 kIaddr 1 s x35 x39 fun x67 s =>
 kStore 1 s x67 x65 fun _ s =>
 kAdd x38 (.i .i64 (.ofNat 1)) fun x68 =>
 kSub x39 (.i .i64 (.ofNat 1)) fun x69 =>
 lp (fun (_ _ _ _ _ : D) (_ : LS) => none) (fun (q70 : D → D → D → D → D → LS → Rs) (x71 x72 x73 x74 x75 : D) (s : LS) =>
 lp (fun (_ _ _ _ _ : D) (_ : LS) => none) (fun (q76 : D → D → D → D → D → LS → Rs) (x77 x78 x79 x80 x81 : D) (s : LS) =>
 kLeq x80 x81 fun x82 =>
 kGuard x82 true (fun k => k x79 s) s fun x83 s =>
 kGuard x82 true (fun k => k x77 s) s fun x84 s =>
 kGuard x82 true (fun k => k x80 s) s fun x85 s =>
 kGuard x82 true (fun k => kIaddr 1 s x84 x85 k) s fun x86 s =>
 kGuard x82 true (fun k => kLoad1 s x86 k) s fun x87 s =>
 kGuard x82 true (fun k => k x77 s) s fun x88 s =>
 kGuard x82 true (fun k => k x78 s) s fun x89 s =>
 kGuard x82 true (fun k => kIaddr 1 s x88 x89 k) s fun x90 s =>
 kGuard x82 true (fun k => kLoad1 s x90 k) s fun x91 s =>
 kGuard x82 true (fun k => dynK (TD213 φ) false x83 [x87, x91] s k) s fun x92 s =>
 kGuard x82 true (fun k => kLss x92 (.i .i64 (.ofNat 0)) fun d => k d s) s fun x93 s =>
 kPick x82 x93 (.b false) s fun x94 s =>
 kCond x94
(kAdd x80 (.i .i64 (.ofNat 1)) fun x95 =>
 q76 x77 x78 x79 x95 x81 s)
(lp (fun (_ _ _ _ _ : D) (_ : LS) => none) (fun (q96 : D → D → D → D → D → LS → Rs) (x97 x98 x99 x100 x101 : D) (s : LS) =>
 kLeq x100 x101 fun x102 =>
 kGuard x102 true (fun k => k x99 s) s fun x103 s =>
 kGuard x102 true (fun k => k x97 s) s fun x104 s =>
 kGuard x102 true (fun k => k x101 s) s fun x105 s =>
 kGuard x102 true (fun k => kIaddr 1 s x104 x105 k) s fun x106 s =>
 kGuard x102 true (fun k => kLoad1 s x106 k) s fun x107 s =>
 kGuard x102 true (fun k => k x97 s) s fun x108 s =>
 kGuard x102 true (fun k => k x98 s) s fun x109 s =>
 kGuard x102 true (fun k => kIaddr 1 s x108 x109 k) s fun x110 s =>
 kGuard x102 true (fun k => kLoad1 s x110 k) s fun x111 s =>
 kGuard x102 true (fun k => dynK (TD213 φ) false x103 [x107, x111] s k) s fun x112 s =>
 kGuard x102 true (fun k => kLss x112 (.i .i64 (.ofNat 0)) fun d => k d s) s fun x113 s =>
 kGuard x102 true (fun k => kNot x113 s k) s fun x114 s =>
 kPick x102 x114 (.b false) s fun x115 s =>
 kCond x115
(kSub x101 (.i .i64 (.ofNat 1)) fun x116 =>
 q96 x97 x98 x99 x100 x116 s)
(kGtr x100 x101 fun x117 =>
 kCond x117
(kIaddr 1 s x97 x98 fun x118 s =>
 kLoad1 s x118 fun x119 s =>
 kIaddr 1 s x97 x101 fun x120 s =>
 kLoad1 s x120 fun x121 s =>
 kIaddr 1 s x97 x101 fun x122 s =>
 kStore 1 s x122 x119 fun _ s =>
 kIaddr 1 s x97 x98 fun x123 s =>
 kStore 1 s x123 x121 fun _ s =>
 k (.tup [x101, (.b false)]) s)
(kIaddr 1 s x97 x101 fun x124 s =>
 kLoad1 s x124 fun x125 s =>
 kIaddr 1 s x97 x100 fun x126 s =>
 kLoad1 s x126 fun x127 s =>
 kIaddr 1 s x97 x100 fun x128 s =>
 kStore 1 s x128 x125 fun _ s =>
 kIaddr 1 s x97 x101 fun x129 s =>
 kStore 1 s x129 x127 fun _ s =>
 kAdd x100 (.i .i64 (.ofNat 1)) fun x130 =>
 kSub x101 (.i .i64 (.ofNat 1)) fun x131 =>
 q70 x97 x98 x99 x130 x131 s))) φ x77 x78 x79 x80 x81 s)) φ x71 x72 x73 x74 x75 s) φ x35 x36 x37 x68 x69 s))) φ x15 x16 x17 x18 x19 s)) φ a1 a2 a5 x12 x13 s)
def T214 (φ : Nat) : FTab := setT (T213 φ) 213 (.mem (R_slices_partitionCmpFunc_api_Poly φ))
def TD214 (φ : Nat) : FTab := cnd false (setT (TD213 φ) 213 (.mem (R_slices_partitionCmpFunc_api_Poly φ))) (TD213 φ)
/-- slices.pdqsortCmpFunc[galois/api.Poly] -/
def Q_slices_pdqsortCmpFunc_api_Poly (φ : Nat) (ih : List D → LS → (D → LS → Rs) → Rs) : List D → LS → (D → LS → Rs) → Rs :=
fun as s k =>
 u1 as fun a1 r95 =>
 u1 r95 fun a2 r96 =>
 u1 r96 fun a3 r97 =>
 u1 r97 fun a4 r98 =>
 u1 r98 fun a5 r99 =>
 u0 r99 (
 lp (fun (_ _ _ _ _ _ _ : D) (_ : LS) => none) (fun (q6 : D → D → D → D → D → D → D → LS → Rs) (x7 x8 x9 x10 x11 x12 x13 : D) (s : LS) =>
 kSub x9 x8 fun x14 =>
 kLeq x14 (.i .i64 (.ofNat 12)) fun x15 =>
 kCond x15
((R_slices_insertionSortCmpFunc_api_Poly φ) [x7, x8, x9, x11] s fun x16 s =>
 k (.tup []) s)
(kEql x10 (.i .i64 (.ofNat 0)) fun x17 =>
 kCond x17
((R_slices_heapSortCmpFunc_api_Poly φ) [x7, x8, x9, x11] s fun x18 s =>
 k (.tup []) s)
(jn (fun (x20 x21 x22 x23 x24 x25 x26 x27 : D) (s : LS) =>
(R_slices_choosePivotCmpFunc_api_Poly φ) [x20, x21, x22, x24] s fun x28 s =>
 kExt x28 0 s fun x29 s =>
 kExt x28 1 s fun x30 s =>
 jn (fun (x32 x33 x34 x35 x36 x37 x38 x39 x40 x41 : D) (s : LS) =>
 jn (fun (x43 x44 x45 x46 x47 x48 x49 x50 x51 : D) (s : LS) =>
 kGtr x44 (.i .i64 (.ofNat 0)) fun x52 =>
 kGuard x52 true (fun k => k x47 s) s fun x53 s =>
 kGuard x52 true (fun k => k x43 s) s fun x54 s =>
 kGuard x52 true (fun k => k x44 s) s fun x55 s =>
 kGuard x52 true (fun k => kSub x55 (.i .i64 (.ofNat 1)) fun d => k d s) s fun x56 s =>
 kGuard x52 true (fun k => kIaddr 1 s x54 x56 k) s fun x57 s =>
 kGuard x52 true (fun k => kLoad1 s x57 k) s fun x58 s =>
 kGuard x52 true (fun k => k x43 s) s fun x59 s =>
 kGuard x52 true (fun k => k x51 s) s fun x60 s =>
 kGuard x52 true (fun k => kIaddr 1 s x59 x60 k) s fun x61 s =>
 kGuard x52 true (fun k => kLoad1 s x61 k) s fun x62 s =>
 kGuard x52 true (fun k => dynK (cnd false (setT (TD214 φ) 214 (.mem ih)) (TD214 φ)) false x53 [x58, x62] s k) s fun x63 s =>
 kGuard x52 true (fun k => kLss x63 (.i .i64 (.ofNat 0)) fun d => k d s) s fun x64 s =>
 kGuard x52 true (fun k => kNot x64 s k) s fun x65 s =>
 kPick x52 x65 (.b false) s fun x66 s =>
 kCond x66
((R_slices_partitionEqualCmpFunc_api_Poly φ) [x43, x44, x45, x51, x47] s fun x67 s =>
 q6 x43 x67 x45 x46 x47 x48 x49 s)
((R_slices_partitionCmpFunc_api_Poly φ) [x43, x44, x45, x51, x47] s fun x68 s =>
 kExt x68 0 s fun x69 s =>
 kExt x68 1 s fun x70 s =>
 kSub x69 x44 fun x71 =>
 kSub x45 x69 fun x72 =>
 kQuo x50 (.i .i64 (.ofNat 8)) fun x73 =>
 kLss x71 x72 fun x74 =>
 kCond x74
(kGeq x71 x73 fun x75 =>
 ih [x43, x44, x69, x46, x47] s fun x76 s =>
 kAdd x69 (.i .i64 (.ofNat 1)) fun x77 =>
 q6 x43 x77 x45 x46 x47 x75 x70 s)
(kGeq x72 x73 fun x78 =>
 kAdd x69 (.i .i64 (.ofNat 1)) fun x79 =>
 ih [x43, x79, x45, x46, x47] s fun x80 s =>
 q6 x43 x44 x69 x46 x47 x78 x70 s))) fun j42 =>
 kGuard x37 true (fun k => k x38 s) s fun x81 s =>
 kPick x37 x81 (.b false) s fun x82 s =>
 kGuard x82 true (fun k => k x41 s) s fun x83 s =>
 kGuard x82 true (fun k => kEql x83 (.i .i64 (.ofNat 1)) fun d => k d s) s fun x84 s =>
 kPick x82 x84 (.b false) s fun x85 s =>
 kCond x85
((R_slices_partialInsertionSortCmpFunc_api_Poly φ) [x32, x33, x34, x36] s fun x86 s =>
 kCond x86
(k (.tup []) s)
(j42 x32 x33 x34 x35 x36 x37 x38 x39 x40 s))
(j42 x32 x33 x34 x35 x36 x37 x38 x39 x40 s)) fun j31 =>
 kEql x30 (.i .i64 (.ofNat 2)) fun x87 =>
 kCond x87
((R_slices_reverseRangeCmpFunc_api_Poly φ) [x20, x21, x22, x24] s fun x88 s =>
 kSub x22 (.i .i64 (.ofNat 1)) fun x89 =>
 kSub x29 x21 fun x90 =>
 kSub x89 x90 fun x91 =>
 j31 x20 x21 x22 x23 x24 x25 x26 x27 x91 (.i .i64 (.ofNat 1)) s)
(j31 x20 x21 x22 x23 x24 x25 x26 x27 x29 x30 s)) fun j19 =>
 kNot x12 s fun x92 s =>
 kCond x92
((R_slices_breakPatternsCmpFunc_api_Poly φ) [x7, x8, x9, x11] s fun x93 s =>
 kSub x10 (.i .i64 (.ofNat 1)) fun x94 =>
 j19 x7 x8 x9 x94 x11 x12 x13 x14 s)
(j19 x7 x8 x9 x10 x11 x12 x13 x14 s)))) φ a1 a2 a3 a4 a5 (.b true) (.b true) s)
def R_slices_pdqsortCmpFunc_api_Poly (φ : Nat) : List D → LS → (D → LS → Rs) → Rs := lp (fun _ _ _ => none) (Q_slices_pdqsortCmpFunc_api_Poly φ) φ
def T215 (φ : Nat) : FTab := setT (T214 φ) 214 (.mem (R_slices_pdqsortCmpFunc_api_Poly φ))
def TD215 (φ : Nat) : FTab := cnd false (setT (TD214 φ) 214 (.mem (R_slices_pdqsortCmpFunc_api_Poly φ))) (TD214 φ)
/-- slices.SortFunc[[]galois/api.Poly,galois/api.Poly] -/
def R_slices_SortFunc_api_Poly_api_Poly (φ : Nat) : List D → LS → (D → LS → Rs) → Rs :=
fun as s k =>
 u1 as fun a1 r7 =>
 u1 r7 fun a2 r8 =>
 u0 r8 (
 kLen a1 s fun x3 s =>
 kToInt .u64 x3 s fun x4 s =>
 isoK (R_math_bits_Len φ) [x4] s fun x5 s =>
(R_slices_pdqsortCmpFunc_api_Poly φ) [a1, (.i .i64 (.ofNat 0)), x3, x5, a2] s fun x6 s =>
 k (.tup []) s)
def T216 (φ : Nat) : FTab := setT (T215 φ) 215 (.mem (R_slices_SortFunc_api_Poly_api_Poly φ))
def TD216 (φ : Nat) : FTab := cnd false (setT (TD215 φ) 215 (.mem (R_slices_SortFunc_api_Poly_api_Poly φ))) (TD215 φ)
/-- galois/fieldfactor.Roots -/
def R_fieldfactor_Roots (φ : Nat) : List D → Option D :=
fun as =>
(fun (s : LS) =>
 u1 as fun a1 r50 =>
 u1 r50 fun a2 r51 =>
 u0 r51 (
 kBox a1 s fun x3 s =>
 kLoadn 1 s x3 fun x4 s =>
 isoK (R_qpoly_Check φ) [a2] s fun x5 s =>
 kLen a2 s fun x6 s =>
 isoK (R_fieldfactor_check φ) [x4, x5, x6] s fun x7 s =>
 kNeq x7 (.i .i64 (.ofNat 0)) fun x8 =>
 kCond x8
(retK false s (.tup [(.tree [] 0 true), x7]) some)
(kLen a2 s fun x9 s =>
 lp (fun (_ _ _ _ _ _ : D) (_ : LS) => none) (fun (q10 : D → D → D → D → D → D → LS → Rs) (x11 x12 x13 x14 x15 x16 : D) (s : LS) =>
 kLss x16 x15 fun x17 =>
 kCond x17
(kIaddr 3 s x14 x16 fun x18 s =>
 kLoadn 3 s x18 fun x19 s =>
 kAlloc [(.b false), (.n 0), (.n 0)] s fun x20 s =>
 kStore 3 s x20 x19 fun _ s =>
 kLoadn 3 s x20 fun x21 s =>
 kBsl 1 [(.b false), (.n 0), (.n 0)] [(0, 3, x21)] s fun x22 s =>
 isoK (R_exact_PTrim φ) [x22] s fun x23 s =>
 kBsl 1 [(.tree [] 0 true)] [(0, 1, x23)] s fun x24 s =>
 kApp 1 24 s x13 x24 fun x25 s =>
 kAdd x16 (.i .i64 (.ofNat 1)) fun x26 =>
 q10 x11 x12 x25 x14 x15 x26 s)
(kLoadn 1 s x12 fun x27 s =>
 isoK (tabM B_fieldfactor_factor (R_fieldfactor_factor φ)) [x27, x13] s fun x28 s =>
 kLen x11 s fun x29 s =>
 kSub x29 (.i .i64 (.ofNat 1)) fun x30 =>
 isoK (R_fieldfactor_linear φ) [x28, x30] s fun x31 s =>
 kLen x31 s fun x32 s =>
 lp (fun (_ _ _ _ : D) (_ : LS) => none) (fun (q33 : D → D → D → D → LS → Rs) (x34 x35 x36 x37 : D) (s : LS) =>
 kLss x37 x36 fun x38 =>
 kCond x38
(kIaddr 1 s x35 x37 fun x39 s =>
 kLoad1 s x39 fun x40 s =>
 kIaddr 1 s x40 (.i .i64 (.ofNat 0)) fun x41 s =>
 kLoad1 s x41 fun x42 s =>
 isoK (R_exact_Int φ) [(.i .i64 (.negSucc 0))] s fun x43 s =>
 isoK (R_exact_PScale φ) [x42, x43] s fun x44 s =>
 kBsl 1 [(.tree [] 0 true)] [(0, 1, x44)] s fun x45 s =>
 kApp 1 24 s x34 x45 fun x46 s =>
 kAdd x37 (.i .i64 (.ofNat 1)) fun x47 =>
 q33 x46 x35 x36 x47 s)
((R_slices_ContainsFunc_api_Poly_api_Poly φ) [x34, (.fn 192 [])] s fun x48 s =>
 kCond x48
(retK false s (.tup [(.tree [] 0 true), (.i .i64 (.ofNat 4))]) some)
((R_slices_SortFunc_api_Poly_api_Poly φ) [x34, (.fn 174 [])] s fun x49 s =>
 retK false s (.tup [x34, (.i .i64 (.ofNat 0))]) some))) φ (.tree [] 0 true) x31 x32 (.i .i64 (.ofNat 0)) s)) φ a2 x3 (.tree [] 0 true) a2 x9 (.i .i64 (.ofNat 0)) s))) s0
def T217 (φ : Nat) : FTab := setT (T216 φ) 216 (.iso (R_fieldfactor_Roots φ))
def TD217 (φ : Nat) : FTab := cnd false (setT (TD216 φ) 216 (.iso (R_fieldfactor_Roots φ))) (TD216 φ)
/-- galois/galoisref06.Same -/
def R_galoisref06_Same (φ : Nat) : List D → Option D :=
fun as =>
(fun (s : LS) =>
 u1 as fun a1 r19 =>
 u1 r19 fun a2 r20 =>
 u0 r20 (
 kLen a1 s fun x3 s =>
 kLen a2 s fun x4 s =>
 kNeq x3 x4 fun x5 =>
 kCond x5
(retK false s (.b false) some)
(kLen a1 s fun x6 s =>
 lp (fun (_ _ _ _ : D) (_ : LS) => none) (fun (q7 : D → D → D → D → LS → Rs) (x8 x9 x10 x11 : D) (s : LS) =>
 kLss x11 x10 fun x12 =>
 kCond x12
(kIaddr 3 s x8 x11 fun x13 s =>
 kLoadn 3 s x13 fun x14 s =>
 kIaddr 3 s x9 x11 fun x15 s =>
 kLoadn 3 s x15 fun x16 s =>
 kEqs true [1, 2, 2] x14 x16 s fun x17 s =>
 kCond x17
(retK false s (.b false) some)
(kAdd x11 (.i .i64 (.ofNat 1)) fun x18 =>
 q7 x8 x9 x10 x18 s))
(retK false s (.b true) some)) φ a1 a2 x6 (.i .i64 (.ofNat 0)) s))) s0
def T218 (φ : Nat) : FTab := setT (T217 φ) 217 (.iso (R_galoisref06_Same φ))
def TD218 (φ : Nat) : FTab := cnd false (setT (TD217 φ) 217 (.iso (R_galoisref06_Same φ))) (TD217 φ)
/-- galois/galoisref31.Same -/
def R_galoisref31_Same (φ : Nat) : List D → Option D :=
fun as =>
(fun (s : LS) =>
 u1 as fun a1 r20 =>
 u1 r20 fun a2 r21 =>
 u0 r21 (
 kLen a1 s fun x3 s =>
 kLen a2 s fun x4 s =>
 kNeq x3 x4 fun x5 =>
 kCond x5
(retK false s (.b false) some)
(kLen a1 s fun x6 s =>
 lp (fun (_ _ _ _ : D) (_ : LS) => none) (fun (q7 : D → D → D → D → LS → Rs) (x8 x9 x10 x11 : D) (s : LS) =>
 kLss x11 x10 fun x12 =>
 kCond x12
(kIaddr 1 s x8 x11 fun x13 s =>
 kLoad1 s x13 fun x14 s =>
 kIaddr 1 s x9 x11 fun x15 s =>
 kLoad1 s x15 fun x16 s =>
 isoK (R_galoisref06_Same φ) [x14, x16] s fun x17 s =>
 kNot x17 s fun x18 s =>
 kCond x18
(retK false s (.b false) some)
(kAdd x11 (.i .i64 (.ofNat 1)) fun x19 =>
 q7 x8 x9 x10 x19 s))
(retK false s (.b true) some)) φ a1 a2 x6 (.i .i64 (.ofNat 0)) s))) s0
def T219 (φ : Nat) : FTab := setT (T218 φ) 218 (.iso (R_galoisref31_Same φ))
def TD219 (φ : Nat) : FTab := cnd false (setT (TD218 φ) 218 (.iso (R_galoisref31_Same φ))) (TD218 φ)
/-- galois/galoisref32.SameList -/
def R_galoisref32_SameList (φ : Nat) : List D → Option D :=
fun as =>
(fun (s : LS) =>
 u1 as fun a1 r20 =>
 u1 r20 fun a2 r21 =>
 u0 r21 (
 kLen a1 s fun x3 s =>
 kLen a2 s fun x4 s =>
 kNeq x3 x4 fun x5 =>
 kCond x5
(retK false s (.b false) some)
(kLen a1 s fun x6 s =>
 lp (fun (_ _ _ _ : D) (_ : LS) => none) (fun (q7 : D → D → D → D → LS → Rs) (x8 x9 x10 x11 : D) (s : LS) =>
 kLss x11 x10 fun x12 =>
 kCond x12
(kIaddr 1 s x8 x11 fun x13 s =>
 kLoad1 s x13 fun x14 s =>
 kIaddr 1 s x9 x11 fun x15 s =>
 kLoad1 s x15 fun x16 s =>
 isoK (R_galoisref06_Same φ) [x14, x16] s fun x17 s =>
 kNot x17 s fun x18 s =>
 kCond x18
(retK false s (.b false) some)
(kAdd x11 (.i .i64 (.ofNat 1)) fun x19 =>
 q7 x8 x9 x10 x19 s))
(retK false s (.b true) some)) φ a1 a2 x6 (.i .i64 (.ofNat 0)) s))) s0
def T220 (φ : Nat) : FTab := setT (T219 φ) 219 (.iso (R_galoisref32_SameList φ))
def TD220 (φ : Nat) : FTab := cnd false (setT (TD219 φ) 219 (.iso (R_galoisref32_SameList φ))) (TD219 φ)
/-- galois/galoislaw32.awake -/
def R_galoislaw32_awake (φ : Nat) : List D → Option D :=
fun as =>
(fun (s : LS) =>
 u0 as (
 kBsl 3 [(.i .i64 (.ofNat 0))] [(0, 1, (.i .i64 (.negSucc 1))), (1, 1, (.i .i64 (.ofNat 0))), (2, 1, (.i .i64 (.ofNat 1)))] s fun x1 s =>
 isoK (R_galoisref06_Of φ) [x1] s fun x2 s =>
 kBuild [(.tree [] 0 true)] [(0, 1, x2)] s fun x3 s =>
 kAlloc [(.tree [] 0 true)] s fun x4 s =>
 kStore 1 s x4 x3 fun _ s =>
 kBsl 3 [(.i .i64 (.ofNat 0))] [(0, 1, (.i .i64 (.ofNat 1))), (1, 1, (.i .i64 (.ofNat 1))), (2, 1, (.i .i64 (.ofNat 1)))] s fun x5 s =>
 isoK (R_galoisref06_Of φ) [x5] s fun x6 s =>
 kBuild [(.tree [] 0 true)] [(0, 1, x6)] s fun x7 s =>
 kAlloc [(.tree [] 0 true)] s fun x8 s =>
 kStore 1 s x8 x7 fun _ s =>
 kBsl 1 [(.i .i64 (.ofNat 0))] [(0, 1, (.i .i64 (.ofNat 1)))] s fun x9 s =>
 isoK (R_galoisref06_Of φ) [x9] s fun x10 s =>
 kLoadn 1 s x4 fun x11 s =>
 kBsl 5 [(.i .i64 (.ofNat 0))] [(0, 1, (.i .i64 (.negSucc 3))), (1, 1, (.i .i64 (.ofNat 0))), (2, 1, (.i .i64 (.ofNat 0))), (3, 1, (.i .i64 (.ofNat 0))), (4, 1, (.i .i64 (.ofNat 1)))] s fun x12 s =>
 isoK (R_galoisref06_Of φ) [x12] s fun x13 s =>
 isoK (R_galoisref31_FromRational φ) [x13] s fun x14 s =>
 isoK (R_fieldfactor_Factor φ) [x11, x14] s fun x15 s =>
 kExt x15 0 s fun x16 s =>
 kExt x15 1 s fun x17 s =>
 kExt x15 2 s fun x18 s =>
 kLoadn 1 s x4 fun x19 s =>
 kBsl 3 [(.i .i64 (.ofNat 0))] [(0, 1, (.i .i64 (.negSucc 7))), (1, 1, (.i .i64 (.ofNat 0))), (2, 1, (.i .i64 (.ofNat 1)))] s fun x20 s =>
 isoK (R_galoisref06_Of φ) [x20] s fun x21 s =>
 isoK (R_fieldfactor_Roots φ) [x19, x21] s fun x22 s =>
 kExt x22 0 s fun x23 s =>
 kExt x22 1 s fun x24 s =>
 kLoadn 1 s x4 fun x25 s =>
 kBsl 3 [(.i .i64 (.ofNat 0))] [(0, 1, (.i .i64 (.negSucc 2))), (1, 1, (.i .i64 (.ofNat 0))), (2, 1, (.i .i64 (.ofNat 1)))] s fun x26 s =>
 isoK (R_galoisref06_Of φ) [x26] s fun x27 s =>
 isoK (R_galoisref31_FromRational φ) [x27] s fun x28 s =>
 isoK (R_fieldfactor_IsIrreducible φ) [x25, x28] s fun x29 s =>
 kExt x29 0 s fun x30 s =>
 kExt x29 1 s fun x31 s =>
 kLoadn 1 s x8 fun x32 s =>
 kBsl 4 [(.i .i64 (.ofNat 0))] [(0, 1, (.i .i64 (.negSucc 0))), (1, 1, (.i .i64 (.ofNat 0))), (2, 1, (.i .i64 (.ofNat 0))), (3, 1, (.i .i64 (.ofNat 1)))] s fun x33 s =>
 isoK (R_galoisref06_Of φ) [x33] s fun x34 s =>
 isoK (R_fieldfactor_Roots φ) [x32, x34] s fun x35 s =>
 kExt x35 0 s fun x36 s =>
 kExt x35 1 s fun x37 s =>
 kAdd x18 x24 fun x38 =>
 kAdd x38 x31 fun x39 =>
 kAdd x39 x37 fun x40 =>
 kNeq x40 (.i .i64 (.ofNat 0)) fun x41 =>
 kGuard x41 false (fun k => k x30 s) s fun x42 s =>
 kGuard x41 false (fun k => kNot x42 s k) s fun x43 s =>
 kPick x41 (.b true) x43 s fun x44 s =>
 kGuard x44 false (fun k => k x16 s) s fun x45 s =>
 kGuard x44 false (fun k => k x10 s) s fun x46 s =>
 kGuard x44 false (fun k => isoK (R_galoisref06_Same φ) [x45, x46] s k) s fun x47 s =>
 kGuard x44 false (fun k => kNot x47 s k) s fun x48 s =>
 kPick x44 (.b true) x48 s fun x49 s =>
 kGuard x49 false (fun k => k x17 s) s fun x50 s =>
 kGuard x49 false (fun k => kLen x50 s k) s fun x51 s =>
 kGuard x49 false (fun k => kNeq x51 (.i .i64 (.ofNat 3)) fun d => k d s) s fun x52 s =>
 kPick x49 (.b true) x52 s fun x53 s =>
 kGuard x53 false (fun k => k x17 s) s fun x54 s =>
 kGuard x53 false (fun k => kIaddr 2 s x54 (.i .i64 (.ofNat 0)) k) s fun x55 s =>
 kGuard x53 false (fun k => kFaddr 1 s x55 k) s fun x56 s =>
 kGuard x53 false (fun k => kLoad1 s x56 k) s fun x57 s =>
 kGuard x53 false (fun k => kNeq x57 (.i .i64 (.ofNat 1)) fun d => k d s) s fun x58 s =>
 kPick x53 (.b true) x58 s fun x59 s =>
 kGuard x59 false (fun k => k x17 s) s fun x60 s =>
 kGuard x59 false (fun k => kIaddr 2 s x60 (.i .i64 (.ofNat 1)) k) s fun x61 s =>
 kGuard x59 false (fun k => kFaddr 1 s x61 k) s fun x62 s =>
 kGuard x59 false (fun k => kLoad1 s x62 k) s fun x63 s =>
 kGuard x59 false (fun k => kNeq x63 (.i .i64 (.ofNat 1)) fun d => k d s) s fun x64 s =>
 kPick x59 (.b true) x64 s fun x65 s =>
 kGuard x65 false (fun k => k x17 s) s fun x66 s =>
 kGuard x65 false (fun k => kIaddr 2 s x66 (.i .i64 (.ofNat 2)) k) s fun x67 s =>
 kGuard x65 false (fun k => kFaddr 1 s x67 k) s fun x68 s =>
 kGuard x65 false (fun k => kLoad1 s x68 k) s fun x69 s =>
 kGuard x65 false (fun k => kNeq x69 (.i .i64 (.ofNat 1)) fun d => k d s) s fun x70 s =>
 kPick x65 (.b true) x70 s fun x71 s =>
 kCond x71
(retK false s (.b false) some)
(kIaddr 2 s x17 (.i .i64 (.ofNat 0)) fun x72 s =>
 kFaddr 0 s x72 fun x73 s =>
 kLoad1 s x73 fun x74 s =>
 kBsl 2 [(.i .i64 (.ofNat 0))] [(0, 1, (.i .i64 (.ofNat 0))), (1, 1, (.i .i64 (.negSucc 0)))] s fun x75 s =>
 isoK (R_galoisref06_Of φ) [x75] s fun x76 s =>
 kBsl 2 [(.tree [] 0 true)] [(0, 1, x76), (1, 1, x10)] s fun x77 s =>
 isoK (R_galoisref31_Same φ) [x74, x77] s fun x78 s =>
 kNot x78 s fun x79 s =>
 kGuard x79 false (fun k => k x17 s) s fun x80 s =>
 kGuard x79 false (fun k => kIaddr 2 s x80 (.i .i64 (.ofNat 1)) k) s fun x81 s =>
 kGuard x79 false (fun k => kFaddr 0 s x81 k) s fun x82 s =>
 kGuard x79 false (fun k => kLoad1 s x82 k) s fun x83 s =>
 kGuard x79 false (fun k => kBsl 2 [(.i .i64 (.ofNat 0))] [(0, 1, (.i .i64 (.ofNat 0))), (1, 1, (.i .i64 (.ofNat 1)))] s k) s fun x84 s =>
 kGuard x79 false (fun k => isoK (R_galoisref06_Of φ) [x84] s k) s fun x85 s =>
 kGuard x79 false (fun k => k x10 s) s fun x86 s =>
 kGuard x79 false (fun k => kBsl 2 [(.tree [] 0 true)] [(0, 1, x85), (1, 1, x86)] s k) s fun x87 s =>
 kGuard x79 false (fun k => isoK (R_galoisref31_Same φ) [x83, x87] s k) s fun x88 s =>
 kGuard x79 false (fun k => kNot x88 s k) s fun x89 s =>
 kPick x79 (.b true) x89 s fun x90 s =>
 kGuard x90 false (fun k => k x17 s) s fun x91 s =>
 kGuard x90 false (fun k => kIaddr 2 s x91 (.i .i64 (.ofNat 2)) k) s fun x92 s =>
 kGuard x90 false (fun k => kFaddr 0 s x92 k) s fun x93 s =>
 kGuard x90 false (fun k => kLoad1 s x93 k) s fun x94 s =>
 kGuard x90 false (fun k => kBsl 1 [(.i .i64 (.ofNat 0))] [(0, 1, (.i .i64 (.ofNat 2)))] s k) s fun x95 s =>
 kGuard x90 false (fun k => isoK (R_galoisref06_Of φ) [x95] s k) s fun x96 s =>
 kGuard x90 false (fun k => k x10 s) s fun x97 s =>
 kGuard x90 false (fun k => kBsl 3 [(.tree [] 0 true)] [(0, 1, x96), (1, 1, (.tree [] 0 true)), (2, 1, x97)] s k) s fun x98 s =>
 kGuard x90 false (fun k => isoK (R_galoisref31_Same φ) [x94, x98] s k) s fun x99 s =>
 kGuard x90 false (fun k => kNot x99 s k) s fun x100 s =>
 kPick x90 (.b true) x100 s fun x101 s =>
 kCond x101
(retK false s (.b false) some)
(kBsl 2 [(.i .i64 (.ofNat 0))] [(0, 1, (.i .i64 (.ofNat 0))), (1, 1, (.i .i64 (.negSucc 1)))] s fun x102 s =>
 isoK (R_galoisref06_Of φ) [x102] s fun x103 s =>
 kBsl 2 [(.i .i64 (.ofNat 0))] [(0, 1, (.i .i64 (.ofNat 0))), (1, 1, (.i .i64 (.ofNat 2)))] s fun x104 s =>
 isoK (R_galoisref06_Of φ) [x104] s fun x105 s =>
 kBsl 2 [(.tree [] 0 true)] [(0, 1, x103), (1, 1, x105)] s fun x106 s =>
 isoK (R_galoisref32_SameList φ) [x23, x106] s fun x107 s =>
 kGuard x107 true (fun k => k x36 s) s fun x108 s =>
 kGuard x107 true (fun k => k x10 s) s fun x109 s =>
 kGuard x107 true (fun k => kBsl 2 [(.i .i64 (.ofNat 0))] [(0, 1, (.i .i64 (.negSucc 0))), (1, 1, (.i .i64 (.negSucc 0)))] s k) s fun x110 s =>
 kGuard x107 true (fun k => isoK (R_galoisref06_Of φ) [x110] s k) s fun x111 s =>
 kGuard x107 true (fun k => kBsl 2 [(.i .i64 (.ofNat 0))] [(0, 1, (.i .i64 (.ofNat 0))), (1, 1, (.i .i64 (.ofNat 1)))] s k) s fun x112 s =>
 kGuard x107 true (fun k => isoK (R_galoisref06_Of φ) [x112] s k) s fun x113 s =>
 kGuard x107 true (fun k => kBsl 3 [(.tree [] 0 true)] [(0, 1, x109), (1, 1, x111), (2, 1, x113)] s k) s fun x114 s =>
 kGuard x107 true (fun k => isoK (R_galoisref32_SameList φ) [x108, x114] s k) s fun x115 s =>
 kPick x107 x115 (.b false) s fun x116 s =>
 retK false s x116 some)))) s0
def k_galoislaw32_awake_0 : List D := []
def v_galoislaw32_awake_0 : D := (.b true)
def B_galoislaw32_awake : List (List D × D) := [(k_galoislaw32_awake_0, v_galoislaw32_awake_0)]
def T221 (φ : Nat) : FTab := setT (T220 φ) 220 (.iso (tabM B_galoislaw32_awake (R_galoislaw32_awake φ)))
def TD221 (φ : Nat) : FTab := cnd false (setT (TD220 φ) 220 (.iso (tabM B_galoislaw32_awake (R_galoislaw32_awake φ)))) (TD220 φ)
/-- galois/galoisref03.Whole -/
def R_galoisref03_Whole (φ : Nat) : List D → Option D :=
fun as =>
(fun (s : LS) =>
 u1 as fun a1 r7 =>
 u0 r7 (
 kBox a1 s fun x2 s =>
 kAlloc [(.b false), (.n 0), (.n 0)] s fun x3 s =>
 kLoadn 2 s x2 fun x4 s =>
 kBuild [(.b false), (.n 0), (.n 0)] [(0, 2, x4), (2, 1, (.n 1))] s fun x5 s =>
 kStore 3 s x3 x5 fun _ s =>
 kLoadn 3 s x3 fun x6 _ =>
 retK false s x6 some)) s0
def T222 (φ : Nat) : FTab := setT (T221 φ) 221 (.iso (R_galoisref03_Whole φ))
def TD222 (φ : Nat) : FTab := cnd false (setT (TD221 φ) 221 (.iso (R_galoisref03_Whole φ))) (TD221 φ)
/-- galois/galoisref02.Make -/
def R_galoisref02_Make (φ : Nat) : List D → Option D :=
fun as =>
(fun (s : LS) =>
 u1 as fun a1 r9 =>
 u1 r9 fun a2 r10 =>
 u0 r10 (
 kAlloc [(.b false), (.n 0)] s fun x3 s =>
 kGuard a1 true (fun k => k a2 s) s fun x4 s =>
 kGuard a1 true (fun k => kNeq x4 (.n 0) fun d => k d s) s fun x5 s =>
 kPick a1 x5 (.b false) s fun x6 s =>
 kBuild [(.b false), (.n 0)] [(0, 1, x6), (1, 1, a2)] s fun x7 s =>
 kStore 2 s x3 x7 fun _ s =>
 kLoadn 2 s x3 fun x8 _ =>
 retK false s x8 some)) s0
def T223 (φ : Nat) : FTab := setT (T222 φ) 222 (.iso (R_galoisref02_Make φ))
def TD223 (φ : Nat) : FTab := cnd false (setT (TD222 φ) 222 (.iso (R_galoisref02_Make φ))) (TD222 φ)
/-- galois/galoisref01.trim -/
def R_galoisref01_trim (φ : Nat) : List D → LS → (D → LS → Rs) → Rs :=
fun as s k =>
 u1 as fun a1 r17 =>
 u0 r17 (
 lp (fun (_ : D) (_ : LS) => none) (fun (q2 : D → LS → Rs) (x3 : D) (s : LS) =>
 kLen x3 s fun x4 s =>
 kGtr x4 (.i .i64 (.ofNat 0)) fun x5 =>
 kGuard x5 true (fun k => k x3 s) s fun x6 s =>
 kGuard x5 true (fun k => k x3 s) s fun x7 s =>
 kGuard x5 true (fun k => kLen x7 s k) s fun x8 s =>
 kGuard x5 true (fun k => kSub x8 (.i .i64 (.ofNat 1)) fun d => k d s) s fun x9 s =>
 kGuard x5 true (fun k => kIaddr 1 s x6 x9 k) s fun x10 s =>
 kGuard x5 true (fun k => kLoad1 s x10 k) s fun x11 s =>
 kGuard x5 true (fun k => kEql x11 (.i .u64 (.ofNat 0)) fun d => k d s) s fun x12 s =>
 kPick x5 x12 (.b false) s fun x13 s =>
 kCond x13
(kLen x3 s fun x14 s =>
 kSub x14 (.i .i64 (.ofNat 1)) fun x15 =>
 kSlice 1 s x3 none (some x15) none fun x16 s =>
 q2 x16 s)
(k x3 s)) φ a1 s)
def T224 (φ : Nat) : FTab := setT (T223 φ) 223 (.mem (R_galoisref01_trim φ))
def TD224 (φ : Nat) : FTab := cnd false (setT (TD223 φ) 223 (.mem (R_galoisref01_trim φ))) (TD223 φ)
/-- galois/galoisref01.limbs -/
def R_galoisref01_limbs (φ : Nat) : List D → Option D :=
fun as =>
(fun (s : LS) =>
 u1 as fun a1 r26 =>
 u0 r26 (
 kS (.lens (.c a1)) s fun x2 s =>
 lp (fun (_ _ _ : D) (_ : LS) => none) (fun (q3 : D → D → D → LS → Rs) (x4 x5 x6 : D) (s : LS) =>
 kGtr x6 (.i .i64 (.ofNat 0)) fun x7 =>
 kCond x7
(kSub x6 (.i .i64 (.ofNat 4)) fun x8 =>
 kS (.max (.c (.i .i64 (.ofNat 0))) (.c x8)) s fun x9 s =>
 lp (fun (_ _ _ _ _ : D) (_ : LS) => none) (fun (q10 : D → D → D → D → D → LS → Rs) (x11 x12 x13 x14 x15 : D) (s : LS) =>
 kLss x15 x13 fun x16 =>
 kCond x16
(kMul x14 (.i .u64 (.ofNat 256)) fun x17 =>
 kS (.index (.c x11) (.c x15)) s fun x18 s =>
 kToInt .u64 x18 s fun x19 s =>
 kAdd x17 x19 fun x20 =>
 kAdd x15 (.i .i64 (.ofNat 1)) fun x21 =>
 q10 x11 x12 x13 x20 x21 s)
(kBsl 1 [(.i .u64 (.ofNat 0))] [(0, 1, x14)] s fun x22 s =>
 kApp 1 8 s x12 x22 fun x23 s =>
 kSub x13 (.i .i64 (.ofNat 4)) fun x24 =>
 q3 x11 x23 x24 s)) φ x4 x5 x6 (.i .u64 (.ofNat 0)) x9 s)
((R_galoisref01_trim φ) [x5] s fun x25 s =>
 retK true s x25 some)) φ a1 (.tree [] 0 true) x2 s)) s0
def T225 (φ : Nat) : FTab := setT (T224 φ) 224 (.iso (R_galoisref01_limbs φ))
def TD225 (φ : Nat) : FTab := cnd false (setT (TD224 φ) 224 (.iso (R_galoisref01_limbs φ))) (TD224 φ)
/-- galois/galoisref01.Add -/
def R_galoisref01_Add (φ : Nat) : List D → Option D :=
fun as =>
(fun (s : LS) =>
 u1 as fun a1 r49 =>
 u1 r49 fun a2 r50 =>
 u0 r50 (
 isoK (R_galoisref01_limbs φ) [a1] s fun x3 s =>
 isoK (R_galoisref01_limbs φ) [a2] s fun x4 s =>
 lp (fun (_ _ _ _ _ : D) (_ : LS) => none) (fun (q5 : D → D → D → D → D → LS → Rs) (x6 x7 x8 x9 x10 : D) (s : LS) =>
 kLen x6 s fun x11 s =>
 kLss x10 x11 fun x12 =>
 kGuard x12 false (fun k => k x10 s) s fun x13 s =>
 kGuard x12 false (fun k => k x7 s) s fun x14 s =>
 kGuard x12 false (fun k => kLen x14 s k) s fun x15 s =>
 kGuard x12 false (fun k => kLss x13 x15 fun d => k d s) s fun x16 s =>
 kPick x12 (.b true) x16 s fun x17 s =>
 kGuard x17 false (fun k => k x9 s) s fun x18 s =>
 kGuard x17 false (fun k => kGtr x18 (.i .u64 (.ofNat 0)) fun d => k d s) s fun x19 s =>
 kPick x17 (.b true) x19 s fun x20 s =>
 kCond x20
(jn (fun (x22 x23 x24 x25 x26 : D) (s : LS) =>
 jn (fun (x28 x29 x30 x31 x32 : D) (s : LS) =>
 kAnd x32 (.i .u64 (.ofNat 4294967295)) fun x33 =>
 kBsl 1 [(.i .u64 (.ofNat 0))] [(0, 1, x33)] s fun x34 s =>
 kApp 1 8 s x30 x34 fun x35 s =>
 kShr x32 (.i .u64 (.ofNat 32)) fun x36 =>
 kAdd x31 (.i .i64 (.ofNat 1)) fun x37 =>
 q5 x28 x29 x35 x36 x37 s) fun j27 =>
 kLen x23 s fun x38 s =>
 kLss x25 x38 fun x39 =>
 kCond x39
(kIaddr 1 s x23 x25 fun x40 s =>
 kLoad1 s x40 fun x41 s =>
 kAdd x26 x41 fun x42 =>
 j27 x22 x23 x24 x25 x42 s)
(j27 x22 x23 x24 x25 x26 s)) fun j21 =>
 kLen x6 s fun x43 s =>
 kLss x10 x43 fun x44 =>
 kCond x44
(kIaddr 1 s x6 x10 fun x45 s =>
 kLoad1 s x45 fun x46 s =>
 kAdd x9 x46 fun x47 =>
 j21 x6 x7 x8 x10 x47 s)
(j21 x6 x7 x8 x10 x9 s))
(isoK (R_galoisref01_pack φ) [x8] s fun x48 s =>
 retK false s x48 some)) φ x3 x4 (.tree [] 0 true) (.i .u64 (.ofNat 0)) (.i .i64 (.ofNat 0)) s)) s0
def T226 (φ : Nat) : FTab := setT (T225 φ) 225 (.iso (R_galoisref01_Add φ))
def TD226 (φ : Nat) : FTab := cnd false (setT (TD225 φ) 225 (.iso (R_galoisref01_Add φ))) (TD225 φ)
/-- galois/galoisref01.Compare -/
def R_galoisref01_Compare (φ : Nat) : List D → Option D :=
fun as =>
(fun (s : LS) =>
 u1 as fun a1 r18 =>
 u1 r18 fun a2 r19 =>
 u0 r19 (
 kS (.lens (.c a1)) s fun x3 s =>
 kS (.lens (.c a2)) s fun x4 s =>
 kLss x3 x4 fun x5 =>
 kGuard x5 false (fun k => k a1 s) s fun x6 s =>
 kGuard x5 false (fun k => kS (.lens (.c x6)) s k) s fun x7 s =>
 kGuard x5 false (fun k => k a2 s) s fun x8 s =>
 kGuard x5 false (fun k => kS (.lens (.c x8)) s k) s fun x9 s =>
 kGuard x5 false (fun k => kEql x7 x9 fun d => k d s) s fun x10 s =>
 kGuard x5 false (fun k => k x10 s) s fun x11 s =>
 kGuard x11 true (fun k => k a1 s) s fun x12 s =>
 kGuard x11 true (fun k => k a2 s) s fun x13 s =>
 kGuard x11 true (fun k => kLss x12 x13 fun d => k d s) s fun x14 s =>
 kGuard x5 false (fun k => kPick x11 x14 (.b false) s k) s fun x15 s =>
 kPick x5 (.b true) x15 s fun x16 s =>
 kCond x16
(retK false s (.i .i64 (.negSucc 0)) some)
(kEql a1 a2 fun x17 =>
 kCond x17
(retK false s (.i .i64 (.ofNat 0)) some)
(retK false s (.i .i64 (.ofNat 1)) some)))) s0
def T227 (φ : Nat) : FTab := setT (T226 φ) 226 (.iso (R_galoisref01_Compare φ))
def TD227 (φ : Nat) : FTab := cnd false (setT (TD226 φ) 226 (.iso (R_galoisref01_Compare φ))) (TD226 φ)
/-- galois/galoisref01.Sub -/
def R_galoisref01_Sub (φ : Nat) : List D → Option D :=
fun as =>
(fun (s : LS) =>
 u1 as fun a1 r43 =>
 u1 r43 fun a2 r44 =>
 u0 r44 (
 isoK (R_galoisref01_Compare φ) [a1, a2] s fun x3 s =>
 kLss x3 (.i .i64 (.ofNat 0)) fun x4 =>
 kCond x4
(retK false s (.n 0) some)
(isoK (R_galoisref01_limbs φ) [a1] s fun x5 s =>
 isoK (R_galoisref01_limbs φ) [a2] s fun x6 s =>
 lp (fun (_ _ _ _ : D) (_ : LS) => none) (fun (q7 : D → D → D → D → LS → Rs) (x8 x9 x10 x11 : D) (s : LS) =>
 kLen x8 s fun x12 s =>
 kLss x11 x12 fun x13 =>
 kCond x13
(jn (fun (x15 x16 x17 x18 : D) (s : LS) =>
 jn (fun (x20 x21 x22 x23 x24 : D) (s : LS) =>
 kIaddr 1 s x20 x23 fun x25 s =>
 kLoad1 s x25 fun x26 s =>
 kSub x26 x24 fun x27 =>
 kIaddr 1 s x20 x23 fun x28 s =>
 kStore 1 s x28 x27 fun _ s =>
 kAdd x23 (.i .i64 (.ofNat 1)) fun x29 =>
 q7 x20 x21 x22 x29 s) fun j19 =>
 kIaddr 1 s x15 x17 fun x30 s =>
 kLoad1 s x30 fun x31 s =>
 kLss x31 x18 fun x32 =>
 kCond x32
(kIaddr 1 s x15 x17 fun x33 s =>
 kLoad1 s x33 fun x34 s =>
 kAdd x34 (.i .u64 (.ofNat 4294967296)) fun x35 =>
 kIaddr 1 s x15 x17 fun x36 s =>
 kStore 1 s x36 x35 fun _ s =>
 j19 x15 x16 (.i .u64 (.ofNat 1)) x17 x18 s)
(j19 x15 x16 (.i .u64 (.ofNat 0)) x17 x18 s)) fun j14 =>
 kLen x9 s fun x37 s =>
 kLss x11 x37 fun x38 =>
 kCond x38
(kIaddr 1 s x9 x11 fun x39 s =>
 kLoad1 s x39 fun x40 s =>
 kAdd x10 x40 fun x41 =>
 j14 x8 x9 x11 x41 s)
(j14 x8 x9 x11 x10 s))
(isoK (R_galoisref01_pack φ) [x8] s fun x42 s =>
 retK false s x42 some)) φ x5 x6 (.i .u64 (.ofNat 0)) (.i .i64 (.ofNat 0)) s))) s0
def T228 (φ : Nat) : FTab := setT (T227 φ) 227 (.iso (R_galoisref01_Sub φ))
def TD228 (φ : Nat) : FTab := cnd false (setT (TD227 φ) 227 (.iso (R_galoisref01_Sub φ))) (TD227 φ)
/-- galois/galoisref02.Add -/
def R_galoisref02_Add (φ : Nat) : List D → Option D :=
fun as =>
(fun (s : LS) =>
 u1 as fun a1 r44 =>
 u1 r44 fun a2 r45 =>
 u0 r45 (
 kBox a1 s fun x3 s =>
 kBox a2 s fun x4 s =>
 kAlloc [(.b false), (.n 0)] s fun x5 s =>
 kFaddr 0 s x3 fun x6 s =>
 kLoad1 s x6 fun x7 s =>
 kFaddr 0 s x4 fun x8 s =>
 kLoad1 s x8 fun x9 s =>
 kBinb .eql x7 x9 s fun x10 s =>
 kCond x10
(kFaddr 0 s x3 fun x11 s =>
 kLoad1 s x11 fun x12 s =>
 kFaddr 1 s x3 fun x13 s =>
 kLoad1 s x13 fun x14 s =>
 kFaddr 1 s x4 fun x15 s =>
 kLoad1 s x15 fun x16 s =>
 isoK (R_galoisref01_Add φ) [x14, x16] s fun x17 s =>
 isoK (R_galoisref02_Make φ) [x12, x17] s fun x18 s =>
 kStore 2 s x5 x18 fun _ s =>
 kLoadn 2 s x5 fun x19 _ =>
 retK false s x19 some)
(kFaddr 1 s x3 fun x20 s =>
 kLoad1 s x20 fun x21 s =>
 kFaddr 1 s x4 fun x22 s =>
 kLoad1 s x22 fun x23 s =>
 isoK (R_galoisref01_Compare φ) [x21, x23] s fun x24 s =>
 kGeq x24 (.i .i64 (.ofNat 0)) fun x25 =>
 kCond x25
(kFaddr 0 s x3 fun x26 s =>
 kLoad1 s x26 fun x27 s =>
 kFaddr 1 s x3 fun x28 s =>
 kLoad1 s x28 fun x29 s =>
 kFaddr 1 s x4 fun x30 s =>
 kLoad1 s x30 fun x31 s =>
 isoK (R_galoisref01_Sub φ) [x29, x31] s fun x32 s =>
 isoK (R_galoisref02_Make φ) [x27, x32] s fun x33 s =>
 kStore 2 s x5 x33 fun _ s =>
 kLoadn 2 s x5 fun x34 _ =>
 retK false s x34 some)
(kFaddr 0 s x4 fun x35 s =>
 kLoad1 s x35 fun x36 s =>
 kFaddr 1 s x4 fun x37 s =>
 kLoad1 s x37 fun x38 s =>
 kFaddr 1 s x3 fun x39 s =>
 kLoad1 s x39 fun x40 s =>
 isoK (R_galoisref01_Sub φ) [x38, x40] s fun x41 s =>
 isoK (R_galoisref02_Make φ) [x36, x41] s fun x42 s =>
 kStore 2 s x5 x42 fun _ s =>
 kLoadn 2 s x5 fun x43 _ =>
 retK false s x43 some)))) s0
def T229 (φ : Nat) : FTab := setT (T228 φ) 228 (.iso (R_galoisref02_Add φ))
def TD229 (φ : Nat) : FTab := cnd false (setT (TD228 φ) 228 (.iso (R_galoisref02_Add φ))) (TD228 φ)
/-- galois/galoisref01.Mul -/
def R_galoisref01_Mul (φ : Nat) : List D → Option D :=
fun as =>
(fun (s : LS) =>
 u1 as fun a1 r45 =>
 u1 r45 fun a2 r46 =>
 u0 r46 (
 isoK (R_galoisref01_limbs φ) [a1] s fun x3 s =>
 isoK (R_galoisref01_limbs φ) [a2] s fun x4 s =>
 kLen x3 s fun x5 s =>
 kLen x4 s fun x6 s =>
 kAdd x5 x6 fun x7 =>
 kMksl 1 8 [(.i .u64 (.ofNat 0))] s x7 x7 fun x8 s =>
 lp (fun (_ _ _ _ : D) (_ : LS) => none) (fun (q9 : D → D → D → D → LS → Rs) (x10 x11 x12 x13 : D) (s : LS) =>
 kLen x10 s fun x14 s =>
 kLss x13 x14 fun x15 =>
 kCond x15
(lp (fun (_ _ _ _ _ _ : D) (_ : LS) => none) (fun (q16 : D → D → D → D → D → D → LS → Rs) (x17 x18 x19 x20 x21 x22 : D) (s : LS) =>
 kLen x18 s fun x23 s =>
 kLss x22 x23 fun x24 =>
 kCond x24
(kAdd x20 x22 fun x25 =>
 kIaddr 1 s x19 x25 fun x26 s =>
 kLoad1 s x26 fun x27 s =>
 kIaddr 1 s x17 x20 fun x28 s =>
 kLoad1 s x28 fun x29 s =>
 kIaddr 1 s x18 x22 fun x30 s =>
 kLoad1 s x30 fun x31 s =>
 kMul x29 x31 fun x32 =>
 kAdd x27 x32 fun x33 =>
 kAdd x33 x21 fun x34 =>
 kAdd x20 x22 fun x35 =>
 kAnd x34 (.i .u64 (.ofNat 4294967295)) fun x36 =>
 kIaddr 1 s x19 x35 fun x37 s =>
 kStore 1 s x37 x36 fun _ s =>
 kShr x34 (.i .u64 (.ofNat 32)) fun x38 =>
 kAdd x22 (.i .i64 (.ofNat 1)) fun x39 =>
 q16 x17 x18 x19 x20 x38 x39 s)
(kLen x18 s fun x40 s =>
 kAdd x20 x40 fun x41 =>
 kIaddr 1 s x19 x41 fun x42 s =>
 kStore 1 s x42 x21 fun _ s =>
 kAdd x20 (.i .i64 (.ofNat 1)) fun x43 =>
 q9 x17 x18 x19 x43 s)) φ x10 x11 x12 x13 (.i .u64 (.ofNat 0)) (.i .i64 (.ofNat 0)) s)
(isoK (R_galoisref01_pack φ) [x12] s fun x44 s =>
 retK false s x44 some)) φ x3 x4 x8 (.i .i64 (.ofNat 0)) s)) s0
def T230 (φ : Nat) : FTab := setT (T229 φ) 229 (.iso (R_galoisref01_Mul φ))
def TD230 (φ : Nat) : FTab := cnd false (setT (TD229 φ) 229 (.iso (R_galoisref01_Mul φ))) (TD229 φ)
/-- galois/galoisref02.Mul -/
def R_galoisref02_Mul (φ : Nat) : List D → Option D :=
fun as =>
(fun (s : LS) =>
 u1 as fun a1 r18 =>
 u1 r18 fun a2 r19 =>
 u0 r19 (
 kBox a1 s fun x3 s =>
 kBox a2 s fun x4 s =>
 kAlloc [(.b false), (.n 0)] s fun x5 s =>
 kFaddr 0 s x3 fun x6 s =>
 kLoad1 s x6 fun x7 s =>
 kFaddr 0 s x4 fun x8 s =>
 kLoad1 s x8 fun x9 s =>
 kBinb .neq x7 x9 s fun x10 s =>
 kFaddr 1 s x3 fun x11 s =>
 kLoad1 s x11 fun x12 s =>
 kFaddr 1 s x4 fun x13 s =>
 kLoad1 s x13 fun x14 s =>
 isoK (R_galoisref01_Mul φ) [x12, x14] s fun x15 s =>
 isoK (R_galoisref02_Make φ) [x10, x15] s fun x16 s =>
 kStore 2 s x5 x16 fun _ s =>
 kLoadn 2 s x5 fun x17 _ =>
 retK false s x17 some)) s0
def T231 (φ : Nat) : FTab := setT (T230 φ) 230 (.iso (R_galoisref02_Mul φ))
def TD231 (φ : Nat) : FTab := cnd false (setT (TD230 φ) 230 (.iso (R_galoisref02_Mul φ))) (TD230 φ)
/-- galois/galoisref03.denominator -/
def R_galoisref03_denominator (φ : Nat) : List D → Option D :=
fun as =>
(fun (s : LS) =>
 u1 as fun a1 r8 =>
 u0 r8 (
 kBox a1 s fun x2 s =>
 kAlloc [(.b false), (.n 0)] s fun x3 s =>
 kFaddr 2 s x2 fun x4 s =>
 kLoad1 s x4 fun x5 s =>
 kBuild [(.b false), (.n 0)] [(1, 1, x5)] s fun x6 s =>
 kStore 2 s x3 x6 fun _ s =>
 kLoadn 2 s x3 fun x7 _ =>
 retK false s x7 some)) s0
def T232 (φ : Nat) : FTab := setT (T231 φ) 231 (.iso (R_galoisref03_denominator φ))
def TD232 (φ : Nat) : FTab := cnd false (setT (TD231 φ) 231 (.iso (R_galoisref03_denominator φ))) (TD231 φ)
/-- galois/galoisref01.below -/
def R_galoisref01_below (φ : Nat) : List D → Option D :=
fun as =>
(fun (s : LS) =>
 u1 as fun a1 r28 =>
 u1 r28 fun a2 r29 =>
 u0 r29 (
(R_galoisref01_trim φ) [a1] s fun x3 s =>
 kLen x3 s fun x4 s =>
 kLen a2 s fun x5 s =>
 kNeq x4 x5 fun x6 =>
 kCond x6
(kLen x3 s fun x7 s =>
 kLen a2 s fun x8 s =>
 kLss x7 x8 fun x9 =>
 retK false s x9 some)
(kLen x3 s fun x10 s =>
 kSub x10 (.i .i64 (.ofNat 1)) fun x11 =>
 lp (fun (_ _ _ : D) (_ : LS) => none) (fun (q12 : D → D → D → LS → Rs) (x13 x14 x15 : D) (s : LS) =>
 kGeq x15 (.i .i64 (.ofNat 0)) fun x16 =>
 kCond x16
(kIaddr 1 s x13 x15 fun x17 s =>
 kLoad1 s x17 fun x18 s =>
 kIaddr 1 s x14 x15 fun x19 s =>
 kLoad1 s x19 fun x20 s =>
 kNeq x18 x20 fun x21 =>
 kCond x21
(kIaddr 1 s x13 x15 fun x22 s =>
 kLoad1 s x22 fun x23 s =>
 kIaddr 1 s x14 x15 fun x24 s =>
 kLoad1 s x24 fun x25 s =>
 kLss x23 x25 fun x26 =>
 retK false s x26 some)
(kSub x15 (.i .i64 (.ofNat 1)) fun x27 =>
 q12 x13 x14 x27 s))
(retK false s (.b false) some)) φ x3 a2 x11 s))) s0
def T233 (φ : Nat) : FTab := setT (T232 φ) 232 (.iso (R_galoisref01_below φ))
def TD233 (φ : Nat) : FTab := cnd false (setT (TD232 φ) 232 (.iso (R_galoisref01_below φ))) (TD232 φ)
/-- galois/galoisref01.DivMod -/
def R_galoisref01_DivMod (φ : Nat) : List D → Option D :=
fun as =>
(fun (s : LS) =>
 u1 as fun a1 r105 =>
 u1 r105 fun a2 r106 =>
 u0 r106 (
 kEql a2 (.n 0) fun x3 =>
 kCond x3
(retK false s (.tup [(.n 0), (.n 0)]) some)
(isoK (R_galoisref01_limbs φ) [a1] s fun x4 s =>
 isoK (R_galoisref01_limbs φ) [a2] s fun x5 s =>
 kLen x5 s fun x6 s =>
 kBsl 1 [(.i .u64 (.ofNat 0))] [(0, 1, (.i .u64 (.ofNat 0)))] s fun x7 s =>
 kApp 1 8 s x4 x7 fun x8 s =>
 kLen x4 s fun x9 s =>
 kSub x9 x6 fun x10 =>
 kAdd x10 (.i .i64 (.ofNat 1)) fun x11 =>
 kS (.max (.c (.i .i64 (.ofNat 0))) (.c x11)) s fun x12 s =>
 kMksl 1 8 [(.i .u64 (.ofNat 0))] s x12 x12 fun x13 s =>
 kLen x13 s fun x14 s =>
 kSub x14 (.i .i64 (.ofNat 1)) fun x15 =>
 lp (fun (_ _ _ _ _ : D) (_ : LS) => none) (fun (q16 : D → D → D → D → D → LS → Rs) (x17 x18 x19 x20 x21 : D) (s : LS) =>
 kGeq x21 (.i .i64 (.ofNat 0)) fun x22 =>
 kCond x22
(lp (fun (_ _ _ _ _ : D) (_ : LS) => none) (fun (q23 : D → D → D → D → D → LS → Rs) (x24 x25 x26 x27 x28 : D) (s : LS) =>
 kSlice 1 s x26 (some x28) none none fun x29 s =>
 isoK (R_galoisref01_below φ) [x29, x24] s fun x30 s =>
 kNot x30 s fun x31 s =>
 kCond x31
(kAdd x28 x25 fun x32 =>
 kIaddr 1 s x26 x32 fun x33 s =>
 kLoad1 s x33 fun x34 s =>
 kShl x34 (.i .u64 (.ofNat 32)) fun x35 =>
 kAdd x28 x25 fun x36 =>
 kSub x36 (.i .i64 (.ofNat 1)) fun x37 =>
 kIaddr 1 s x26 x37 fun x38 s =>
 kLoad1 s x38 fun x39 s =>
 kAdd x35 x39 fun x40 =>
 kSub x25 (.i .i64 (.ofNat 1)) fun x41 =>
 kIaddr 1 s x24 x41 fun x42 s =>
 kLoad1 s x42 fun x43 s =>
 kAdd x43 (.i .u64 (.ofNat 1)) fun x44 =>
 kQuo x40 x44 fun x45 =>
 kS (.max (.c (.i .u64 (.ofNat 1))) (.c x45)) s fun x46 s =>
 kIaddr 1 s x27 x28 fun x47 s =>
 kLoad1 s x47 fun x48 s =>
 kAdd x48 x46 fun x49 =>
 kIaddr 1 s x27 x28 fun x50 s =>
 kStore 1 s x50 x49 fun _ s =>
 lp (fun (_ _ _ _ _ _ _ _ : D) (_ : LS) => none) (fun (q51 : D → D → D → D → D → D → D → D → LS → Rs) (x52 x53 x54 x55 x56 x57 x58 x59 : D) (s : LS) =>
 kLss x59 x53 fun x60 =>
 kCond x60
(kIaddr 1 s x52 x59 fun x61 s =>
 kLoad1 s x61 fun x62 s =>
 kMul x62 x57 fun x63 =>
 kAdd x63 x58 fun x64 =>
 kShr x64 (.i .u64 (.ofNat 32)) fun x65 =>
 jn (fun (x67 x68 x69 x70 x71 x72 x73 x74 x75 : D) (s : LS) =>
 kAdd x71 x74 fun x76 =>
 kAdd x71 x74 fun x77 =>
 kIaddr 1 s x69 x77 fun x78 s =>
 kLoad1 s x78 fun x79 s =>
 kAnd x75 (.i .u64 (.ofNat 4294967295)) fun x80 =>
 kSub x79 x80 fun x81 =>
 kIaddr 1 s x69 x76 fun x82 s =>
 kStore 1 s x82 x81 fun _ s =>
 kAdd x74 (.i .i64 (.ofNat 1)) fun x83 =>
 q51 x67 x68 x69 x70 x71 x72 x73 x83 s) fun j66 =>
 kAdd x56 x59 fun x84 =>
 kIaddr 1 s x54 x84 fun x85 s =>
 kLoad1 s x85 fun x86 s =>
 kAnd x64 (.i .u64 (.ofNat 4294967295)) fun x87 =>
 kLss x86 x87 fun x88 =>
 kCond x88
(kAdd x56 x59 fun x89 =>
 kAdd x56 x59 fun x90 =>
 kIaddr 1 s x54 x90 fun x91 s =>
 kLoad1 s x91 fun x92 s =>
 kAdd x92 (.i .u64 (.ofNat 4294967296)) fun x93 =>
 kIaddr 1 s x54 x89 fun x94 s =>
 kStore 1 s x94 x93 fun _ s =>
 kAdd x65 (.i .u64 (.ofNat 1)) fun x95 =>
 j66 x52 x53 x54 x55 x56 x57 x95 x59 x64 s)
(j66 x52 x53 x54 x55 x56 x57 x65 x59 x64 s))
(kAdd x56 x53 fun x96 =>
 kAdd x56 x53 fun x97 =>
 kIaddr 1 s x54 x97 fun x98 s =>
 kLoad1 s x98 fun x99 s =>
 kSub x99 x58 fun x100 =>
 kIaddr 1 s x54 x96 fun x101 s =>
 kStore 1 s x101 x100 fun _ s =>
 q23 x52 x53 x54 x55 x56 s)) φ x24 x25 x26 x27 x28 x46 (.i .u64 (.ofNat 0)) (.i .i64 (.ofNat 0)) s)
(kSub x28 (.i .i64 (.ofNat 1)) fun x102 =>
 q16 x24 x25 x26 x27 x102 s)) φ x17 x18 x19 x20 x21 s)
(isoK (R_galoisref01_pack φ) [x20] s fun x103 s =>
 isoK (R_galoisref01_pack φ) [x19] s fun x104 s =>
 retK false s (.tup [x103, x104]) some)) φ x5 x6 x8 x13 x15 s))) s0
def T234 (φ : Nat) : FTab := setT (T233 φ) 233 (.iso (R_galoisref01_DivMod φ))
def TD234 (φ : Nat) : FTab := cnd false (setT (TD233 φ) 233 (.iso (R_galoisref01_DivMod φ))) (TD233 φ)
/-- galois/galoisref01.Gcd -/
def R_galoisref01_Gcd (φ : Nat) : List D → Option D :=
fun as =>
(fun (s : LS) =>
 u1 as fun a1 r10 =>
 u1 r10 fun a2 r11 =>
 u0 r11 (
 lp (fun (_ _ : D) (_ : LS) => none) (fun (q3 : D → D → LS → Rs) (x4 x5 : D) (s : LS) =>
 kNeq x5 (.n 0) fun x6 =>
 kCond x6
(isoK (R_galoisref01_DivMod φ) [x4, x5] s fun x7 s =>
 kExt x7 0 s fun x8 s =>
 kExt x7 1 s fun x9 s =>
 q3 x5 x9 s)
(retK false s x4 some)) φ a1 a2 s)) s0
def T235 (φ : Nat) : FTab := setT (T234 φ) 234 (.iso (R_galoisref01_Gcd φ))
def TD235 (φ : Nat) : FTab := cnd false (setT (TD234 φ) 234 (.iso (R_galoisref01_Gcd φ))) (TD234 φ)
/-- galois/galoisref03.Make -/
def R_galoisref03_Make (φ : Nat) : List D → Option D :=
fun as =>
(fun (s : LS) =>
 u1 as fun a1 r34 =>
 u1 r34 fun a2 r35 =>
 u0 r35 (
 kBox a1 s fun x3 s =>
 kBox a2 s fun x4 s =>
 kAlloc [(.b false), (.n 0), (.n 0)] s fun x5 s =>
 kFaddr 1 s x4 fun x6 s =>
 kLoad1 s x6 fun x7 s =>
 kEql x7 (.n 0) fun x8 =>
 kCond x8
(kBuild [(.b false), (.n 0), (.n 0)] [(2, 1, (.n 1))] s fun x9 s =>
 kStore 3 s x5 x9 fun _ s =>
 kLoadn 3 s x5 fun x10 _ =>
 retK false s x10 some)
(kFaddr 1 s x3 fun x11 s =>
 kLoad1 s x11 fun x12 s =>
 kFaddr 1 s x4 fun x13 s =>
 kLoad1 s x13 fun x14 s =>
 isoK (R_galoisref01_Gcd φ) [x12, x14] s fun x15 s =>
 kFaddr 1 s x3 fun x16 s =>
 kLoad1 s x16 fun x17 s =>
 isoK (R_galoisref01_DivMod φ) [x17, x15] s fun x18 s =>
 kExt x18 0 s fun x19 s =>
 kExt x18 1 s fun x20 s =>
 kFaddr 1 s x4 fun x21 s =>
 kLoad1 s x21 fun x22 s =>
 isoK (R_galoisref01_DivMod φ) [x22, x15] s fun x23 s =>
 kExt x23 0 s fun x24 s =>
 kExt x23 1 s fun x25 s =>
 kFaddr 0 s x3 fun x26 s =>
 kLoad1 s x26 fun x27 s =>
 kFaddr 0 s x4 fun x28 s =>
 kLoad1 s x28 fun x29 s =>
 kBinb .neq x27 x29 s fun x30 s =>
 isoK (R_galoisref02_Make φ) [x30, x19] s fun x31 s =>
 kBuild [(.b false), (.n 0), (.n 0)] [(0, 2, x31), (2, 1, x24)] s fun x32 s =>
 kStore 3 s x5 x32 fun _ s =>
 kLoadn 3 s x5 fun x33 _ =>
 retK false s x33 some))) s0
def T236 (φ : Nat) : FTab := setT (T235 φ) 235 (.iso (R_galoisref03_Make φ))
def TD236 (φ : Nat) : FTab := cnd false (setT (TD235 φ) 235 (.iso (R_galoisref03_Make φ))) (TD235 φ)
/-- galois/galoisref03.Add -/
def R_galoisref03_Add (φ : Nat) : List D → Option D :=
fun as =>
(fun (s : LS) =>
 u1 as fun a1 r40 =>
 u1 r40 fun a2 r41 =>
 u0 r41 (
 kBox a1 s fun x3 s =>
 kBox a2 s fun x4 s =>
 kAlloc [(.b false), (.n 0), (.n 0)] s fun x5 s =>
 kFaddr 2 s x3 fun x6 s =>
 kLoad1 s x6 fun x7 s =>
 kEql x7 (.n 1) fun x8 =>
 kGuard x8 true (fun k => kFaddr 2 s x4 k) s fun x9 s =>
 kGuard x8 true (fun k => kLoad1 s x9 k) s fun x10 s =>
 kGuard x8 true (fun k => kEql x10 (.n 1) fun d => k d s) s fun x11 s =>
 kPick x8 x11 (.b false) s fun x12 s =>
 kCond x12
(kFaddr 0 s x3 fun x13 s =>
 kLoadn 2 s x13 fun x14 s =>
 kFaddr 0 s x4 fun x15 s =>
 kLoadn 2 s x15 fun x16 s =>
 isoK (R_galoisref02_Add φ) [x14, x16] s fun x17 s =>
 isoK (R_galoisref03_Whole φ) [x17] s fun x18 s =>
 kStore 3 s x5 x18 fun _ s =>
 kLoadn 3 s x5 fun x19 _ =>
 retK false s x19 some)
(kFaddr 0 s x3 fun x20 s =>
 kLoadn 2 s x20 fun x21 s =>
 kLoadn 3 s x4 fun x22 s =>
 isoK (R_galoisref03_denominator φ) [x22] s fun x23 s =>
 isoK (R_galoisref02_Mul φ) [x21, x23] s fun x24 s =>
 kFaddr 0 s x4 fun x25 s =>
 kLoadn 2 s x25 fun x26 s =>
 kLoadn 3 s x3 fun x27 s =>
 isoK (R_galoisref03_denominator φ) [x27] s fun x28 s =>
 isoK (R_galoisref02_Mul φ) [x26, x28] s fun x29 s =>
 isoK (R_galoisref02_Add φ) [x24, x29] s fun x30 s =>
 kAlloc [(.b false), (.n 0)] s fun x31 s =>
 kStore 2 s x31 x30 fun _ s =>
 kLoadn 2 s x31 fun x32 s =>
 kLoadn 3 s x3 fun x33 s =>
 isoK (R_galoisref03_denominator φ) [x33] s fun x34 s =>
 kLoadn 3 s x4 fun x35 s =>
 isoK (R_galoisref03_denominator φ) [x35] s fun x36 s =>
 isoK (R_galoisref02_Mul φ) [x34, x36] s fun x37 s =>
 isoK (R_galoisref03_Make φ) [x32, x37] s fun x38 s =>
 kStore 3 s x5 x38 fun _ s =>
 kLoadn 3 s x5 fun x39 _ =>
 retK false s x39 some))) s0
def T237 (φ : Nat) : FTab := setT (T236 φ) 236 (.iso (R_galoisref03_Add φ))
def TD237 (φ : Nat) : FTab := cnd false (setT (TD236 φ) 236 (.iso (R_galoisref03_Add φ))) (TD236 φ)
/-- galois/galoisref06.at -/
def R_galoisref06_at (φ : Nat) : List D → Option D :=
fun as =>
(fun (s : LS) =>
 u1 as fun a1 r11 =>
 u1 r11 fun a2 r12 =>
 u0 r12 (
 kAlloc [(.b false), (.n 0), (.n 0)] s fun x3 s =>
 kLen a1 s fun x4 s =>
 kLss a2 x4 fun x5 =>
 kCond x5
(kIaddr 3 s a1 a2 fun x6 s =>
 kLoadn 3 s x6 fun x7 s =>
 kStore 3 s x3 x7 fun _ s =>
 kLoadn 3 s x3 fun x8 _ =>
 retK false s x8 some)
(isoK (R_galoisref03_FromInt φ) [(.i .i64 (.ofNat 0))] s fun x9 s =>
 kStore 3 s x3 x9 fun _ s =>
 kLoadn 3 s x3 fun x10 _ =>
 retK false s x10 some))) s0
def T238 (φ : Nat) : FTab := setT (T237 φ) 237 (.iso (R_galoisref06_at φ))
def TD238 (φ : Nat) : FTab := cnd false (setT (TD237 φ) 237 (.iso (R_galoisref06_at φ))) (TD237 φ)
/-- galois/galoisref06.Add -/
def R_galoisref06_Add (φ : Nat) : List D → Option D :=
fun as =>
(fun (s : LS) =>
 u1 as fun a1 r19 =>
 u1 r19 fun a2 r20 =>
 u0 r20 (
 lp (fun (_ _ _ _ : D) (_ : LS) => none) (fun (q3 : D → D → D → D → LS → Rs) (x4 x5 x6 x7 : D) (s : LS) =>
 kLen x4 s fun x8 s =>
 kLen x5 s fun x9 s =>
 kS (.max (.c x8) (.c x9)) s fun x10 s =>
 kLss x7 x10 fun x11 =>
 kCond x11
(isoK (R_galoisref06_at φ) [x4, x7] s fun x12 s =>
 isoK (R_galoisref06_at φ) [x5, x7] s fun x13 s =>
 isoK (R_galoisref03_Add φ) [x12, x13] s fun x14 s =>
 kBsl 1 [(.b false), (.n 0), (.n 0)] [(0, 3, x14)] s fun x15 s =>
 kApp 3 40 s x6 x15 fun x16 s =>
 kAdd x7 (.i .i64 (.ofNat 1)) fun x17 =>
 q3 x4 x5 x16 x17 s)
(isoK (R_galoisref06_Trim φ) [x6] s fun x18 s =>
 retK false s x18 some)) φ a1 a2 (.tree [] 0 true) (.i .i64 (.ofNat 0)) s)) s0
def T239 (φ : Nat) : FTab := setT (T238 φ) 238 (.iso (R_galoisref06_Add φ))
def TD239 (φ : Nat) : FTab := cnd false (setT (TD238 φ) 238 (.iso (R_galoisref06_Add φ))) (TD238 φ)
/-- galois/galoisref06.Monomial -/
def R_galoisref06_Monomial (φ : Nat) : List D → Option D :=
fun as =>
(fun (s : LS) =>
 u1 as fun a1 r18 =>
 u1 r18 fun a2 r19 =>
 u0 r19 (
 kBox a1 s fun x3 s =>
 lp (fun (_ _ _ _ : D) (_ : LS) => none) (fun (q4 : D → D → D → D → LS → Rs) (x5 x6 x7 x8 : D) (s : LS) =>
 kLss x8 x5 fun x9 =>
 kCond x9
(isoK (R_galoisref03_FromInt φ) [(.i .i64 (.ofNat 0))] s fun x10 s =>
 kBsl 1 [(.b false), (.n 0), (.n 0)] [(0, 3, x10)] s fun x11 s =>
 kApp 3 40 s x7 x11 fun x12 s =>
 kAdd x8 (.i .i64 (.ofNat 1)) fun x13 =>
 q4 x5 x6 x12 x13 s)
(kLoadn 3 s x6 fun x14 s =>
 kBsl 1 [(.b false), (.n 0), (.n 0)] [(0, 3, x14)] s fun x15 s =>
 kApp 3 40 s x7 x15 fun x16 s =>
 isoK (R_galoisref06_Trim φ) [x16] s fun x17 s =>
 retK false s x17 some)) φ a2 x3 (.tree [] 0 true) (.i .i64 (.ofNat 0)) s)) s0
def T240 (φ : Nat) : FTab := setT (T239 φ) 239 (.iso (R_galoisref06_Monomial φ))
def TD240 (φ : Nat) : FTab := cnd false (setT (TD239 φ) 239 (.iso (R_galoisref06_Monomial φ))) (TD239 φ)
/-- galois/galoislaw32.FieldfactorBounds -/
def R_galoislaw32_FieldfactorBounds (φ : Nat) : List D → Option D :=
fun as =>
(fun (s : LS) =>
 u1 as fun a1 r73 =>
 u1 r73 fun a2 r74 =>
 u0 r74 (
 kLss a1 (.i .i64 (.ofNat 1)) fun x3 =>
 kGuard x3 false (fun k => k a1 s) s fun x4 s =>
 kGuard x3 false (fun k => kGtr x4 (.i .i64 (.ofNat 24)) fun d => k d s) s fun x5 s =>
 kPick x3 (.b true) x5 s fun x6 s =>
 kGuard x6 false (fun k => k a2 s) s fun x7 s =>
 kGuard x6 false (fun k => kLss x7 (.i .i64 (.ofNat 0)) fun d => k d s) s fun x8 s =>
 kPick x6 (.b true) x8 s fun x9 s =>
 kGuard x9 false (fun k => k a2 s) s fun x10 s =>
 kGuard x9 false (fun k => kGtr x10 (.i .i64 (.ofNat 64)) fun d => k d s) s fun x11 s =>
 kPick x9 (.b true) x11 s fun x12 s =>
 kGuard x12 false (fun k => k a1 s) s fun x13 s =>
 kGuard x12 false (fun k => k a2 s) s fun x14 s =>
 kGuard x12 false (fun k => kMul x13 x14 fun d => k d s) s fun x15 s =>
 kGuard x12 false (fun k => kLeq x15 (.i .i64 (.ofNat 64)) fun d => k d s) s fun x16 s =>
 kPick x12 (.b true) x16 s fun x17 s =>
 kCond x17
(isoK (tabM B_galoislaw32_awake (R_galoislaw32_awake φ)) [] s fun x18 s =>
 retK false s x18 some)
(isoK (R_galoisref03_FromInt φ) [(.i .i64 (.ofNat 1))] s fun x19 s =>
 isoK (R_galoisref06_Monomial φ) [x19, a1] s fun x20 s =>
 kBsl 1 [(.i .i64 (.ofNat 0))] [(0, 1, (.i .i64 (.negSucc 1)))] s fun x21 s =>
 isoK (R_galoisref06_Of φ) [x21] s fun x22 s =>
 isoK (R_galoisref06_Add φ) [x20, x22] s fun x23 s =>
 kBuild [(.tree [] 0 true)] [(0, 1, x23)] s fun x24 s =>
 kAlloc [(.tree [] 0 true)] s fun x25 s =>
 kStore 1 s x25 x24 fun _ s =>
 isoK (R_galoisref03_FromInt φ) [(.i .i64 (.ofNat 1))] s fun x26 s =>
 isoK (R_galoisref06_Monomial φ) [x26, a2] s fun x27 s =>
 kLoadn 1 s x25 fun x28 s =>
 isoK (R_galoisref31_FromRational φ) [x27] s fun x29 s =>
 isoK (R_fieldfactor_Factor φ) [x28, x29] s fun x30 s =>
 kExt x30 0 s fun x31 s =>
 kExt x30 1 s fun x32 s =>
 kExt x30 2 s fun x33 s =>
 kLoadn 1 s x25 fun x34 s =>
 isoK (R_galoisref31_FromRational φ) [x27] s fun x35 s =>
 isoK (R_fieldfactor_IsIrreducible φ) [x34, x35] s fun x36 s =>
 kExt x36 0 s fun x37 s =>
 kExt x36 1 s fun x38 s =>
 kLoadn 1 s x25 fun x39 s =>
 isoK (R_fieldfactor_Roots φ) [x39, x27] s fun x40 s =>
 kExt x40 0 s fun x41 s =>
 kExt x40 1 s fun x42 s =>
 kLoadn 1 s x25 fun x43 s =>
 isoK (R_fieldfactor_Factor φ) [x43, (.tree [] 0 true)] s fun x44 s =>
 kExt x44 0 s fun x45 s =>
 kExt x44 1 s fun x46 s =>
 kExt x44 2 s fun x47 s =>
 kEql x33 (.i .i64 (.ofNat 4)) fun x48 =>
 kGuard x48 true (fun k => k x38 s) s fun x49 s =>
 kGuard x48 true (fun k => kEql x49 (.i .i64 (.ofNat 4)) fun d => k d s) s fun x50 s =>
 kPick x48 x50 (.b false) s fun x51 s =>
 kGuard x51 true (fun k => k x42 s) s fun x52 s =>
 kGuard x51 true (fun k => kEql x52 (.i .i64 (.ofNat 4)) fun d => k d s) s fun x53 s =>
 kPick x51 x53 (.b false) s fun x54 s =>
 kGuard x54 true (fun k => k x47 s) s fun x55 s =>
 kGuard x54 true (fun k => kEql x55 (.i .i64 (.ofNat 6)) fun d => k d s) s fun x56 s =>
 kPick x54 x56 (.b false) s fun x57 s =>
 kGuard x57 true (fun k => k x37 s) s fun x58 s =>
 kGuard x57 true (fun k => kNot x58 s k) s fun x59 s =>
 kPick x57 x59 (.b false) s fun x60 s =>
 kGuard x60 true (fun k => k x31 s) s fun x61 s =>
 kGuard x60 true (fun k => kLen x61 s k) s fun x62 s =>
 kGuard x60 true (fun k => k x32 s) s fun x63 s =>
 kGuard x60 true (fun k => kLen x63 s k) s fun x64 s =>
 kGuard x60 true (fun k => kAdd x62 x64 fun d => k d s) s fun x65 s =>
 kGuard x60 true (fun k => k x41 s) s fun x66 s =>
 kGuard x60 true (fun k => kLen x66 s k) s fun x67 s =>
 kGuard x60 true (fun k => kAdd x65 x67 fun d => k d s) s fun x68 s =>
 kGuard x60 true (fun k => kEql x68 (.i .i64 (.ofNat 0)) fun d => k d s) s fun x69 s =>
 kPick x60 x69 (.b false) s fun x70 s =>
 kGuard x70 true (fun k => isoK (tabM B_galoislaw32_awake (R_galoislaw32_awake φ)) [] s k) s fun x71 s =>
 kPick x70 x71 (.b false) s fun x72 s =>
 retK false s x72 some))) s0
def T241 (φ : Nat) : FTab := setT (T240 φ) 240 (.iso (R_galoislaw32_FieldfactorBounds φ))
def TD241 (φ : Nat) : FTab := cnd false (setT (TD240 φ) 240 (.iso (R_galoislaw32_FieldfactorBounds φ))) (TD240 φ)
end
end Go.Proofs.YtljlaoecceagaaaGreat
