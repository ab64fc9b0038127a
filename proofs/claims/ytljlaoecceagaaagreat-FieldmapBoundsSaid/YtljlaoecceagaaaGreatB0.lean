/- Functions on numbers, integers and polynomials modulo a prime: their residuals, and shorter Lean functions proved to give the same results. -/
import Derived.Test.YtljlaoecceagaaaGreatA1
import Derived.Test.YtljlaoecceagaaaGreatA2
import Derived.KernelRfl
set_option linter.all false
set_option linter.unusedVariables false
set_option maxRecDepth 1000000
set_option maxHeartbeats 0
namespace Go.Proofs.Ev
noncomputable section
def R_exact_trim (φ : Nat) : List D → LS → (D → LS → Rs) → Rs :=
fun as s k =>
 u1 as fun a1 r16 =>
 u0 r16 (
 kLen a1 s fun x2 s =>
 lp (fun (_ _ : D) (_ : LS) => none) (fun (q3 : D → D → LS → Rs) (x4 x5 : D) (s : LS) =>
 kGtr x5 (.i .i64 (.ofNat 0)) fun x6 =>
 kGuard x6 true (fun k => k x4 s) s fun x7 s =>
 kGuard x6 true (fun k => k x5 s) s fun x8 s =>
 kGuard x6 true (fun k => kSub x8 (.i .i64 (.ofNat 1)) fun d => k d s) s fun x9 s =>
 kGuard x6 true (fun k => kIaddr 1 s x7 x9 k) s fun x10 s =>
 kGuard x6 true (fun k => kLoad1 s x10 k) s fun x11 s =>
 kGuard x6 true (fun k => kEql x11 (.i .u64 (.ofNat 0)) fun d => k d s) s fun x12 s =>
 kPick x6 x12 (.b false) s fun x13 s =>
 kCond x13
(kSub x5 (.i .i64 (.ofNat 1)) fun x14 =>
 q3 x4 x14 s)
(kSlice 1 s x4 none (some x5) none fun x15 s =>
 k x15 s)) φ a1 x2 s)
def R_exact_pack (φ : Nat) : List D → Option D :=
fun as =>
(fun (s : LS) =>
 u1 as fun a1 r46 =>
 u0 r46 (
(R_exact_trim φ) [a1] s fun x2 s =>
 kLen x2 s fun x3 s =>
 kEql x3 (.i .i64 (.ofNat 0)) fun x4 =>
 kCond x4
(retK false s (.n 0) some)
(kLen x2 s fun x5 s =>
 kMul (.i .i64 (.ofNat 8)) x5 fun x6 =>
 kMksl 1 1 [(.i .u8 (.ofNat 0))] s x6 x6 fun x7 s =>
 kLen x2 s fun x8 s =>
 lp (fun (_ _ _ _ : D) (_ : LS) => none) (fun (q9 : D → D → D → D → LS → Rs) (x10 x11 x12 x13 : D) (s : LS) =>
 kLss x13 x12 fun x14 =>
 kCond x14
(kIaddr 1 s x11 x13 fun x15 s =>
 kLoad1 s x15 fun x16 s =>
 lp (fun (_ _ _ _ _ _ _ : D) (_ : LS) => none) (fun (q17 : D → D → D → D → D → D → D → LS → Rs) (x18 x19 x20 x21 x22 x23 x24 : D) (s : LS) =>
 kLss x24 (.i .i64 (.ofNat 8)) fun x25 =>
 kCond x25
(kLen x18 s fun x26 s =>
 kSub x26 (.i .i64 (.ofNat 1)) fun x27 =>
 kMul (.i .i64 (.ofNat 8)) x19 fun x28 =>
 kSub x27 x28 fun x29 =>
 kSub x29 x24 fun x30 =>
 kMul (.i .i64 (.ofNat 8)) x24 fun x31 =>
 kShr x20 x31 fun x32 =>
 kToInt .u8 x32 s fun x33 s =>
 kIaddr 1 s x18 x30 fun x34 s =>
 kStore 1 s x34 x33 fun _ s =>
 kAdd x24 (.i .i64 (.ofNat 1)) fun x35 =>
 q17 x18 x19 x20 x21 x22 x23 x35 s)
(kAdd x23 (.i .i64 (.ofNat 1)) fun x36 =>
 q9 x18 x21 x22 x36 s)) φ x10 x13 x16 x11 x12 x13 (.i .i64 (.ofNat 0)) s)
(lp (fun (_ _ : D) (_ : LS) => none) (fun (q37 : D → D → LS → Rs) (x38 x39 : D) (s : LS) =>
 kIaddr 1 s x38 x39 fun x40 s =>
 kLoad1 s x40 fun x41 s =>
 kEql x41 (.i .u8 (.ofNat 0)) fun x42 =>
 kCond x42
(kAdd x39 (.i .i64 (.ofNat 1)) fun x43 =>
 q37 x38 x43 s)
(kSlice 1 s x38 (some x39) none none fun x44 s =>
 kS (.b2s (.c x44)) s fun x45 s =>
 retK false s x45 some)) φ x10 (.i .i64 (.ofNat 0)) s)) φ x7 x2 x8 (.i .i64 (.ofNat 0)) s))) s0
def R_math_bits_Mul64 (φ : Nat) : List D → Option D :=
fun as =>
(fun (s : LS) =>
 u1 as fun a1 r20 =>
 u1 r20 fun a2 r21 =>
 u0 r21 (
 kAnd a1 (.i .u64 (.ofNat 4294967295)) fun x3 =>
 kShr a1 (.i .u64 (.ofNat 32)) fun x4 =>
 kAnd a2 (.i .u64 (.ofNat 4294967295)) fun x5 =>
 kShr a2 (.i .u64 (.ofNat 32)) fun x6 =>
 kMul x3 x5 fun x7 =>
 kMul x4 x5 fun x8 =>
 kShr x7 (.i .u64 (.ofNat 32)) fun x9 =>
 kAdd x8 x9 fun x10 =>
 kAnd x10 (.i .u64 (.ofNat 4294967295)) fun x11 =>
 kShr x10 (.i .u64 (.ofNat 32)) fun x12 =>
 kMul x3 x6 fun x13 =>
 kAdd x11 x13 fun x14 =>
 kMul x4 x6 fun x15 =>
 kAdd x15 x12 fun x16 =>
 kShr x14 (.i .u64 (.ofNat 32)) fun x17 =>
 kAdd x16 x17 fun x18 =>
 kMul a1 a2 fun x19 =>
 retK false s (.tup [x18, x19]) some)) s0
def R_exact_words (φ : Nat) : List D → Option D :=
fun as =>
(fun (s : LS) =>
 u1 as fun a1 r28 =>
 u0 r28 (
 kS (.lens (.c a1)) s fun x2 s =>
 kAdd x2 (.i .i64 (.ofNat 7)) fun x3 =>
 kQuo x3 (.i .i64 (.ofNat 8)) fun x4 =>
 kMksl 1 8 [(.i .u64 (.ofNat 0))] s x4 x4 fun x5 s =>
 kS (.lens (.c a1)) s fun x6 s =>
 lp (fun (_ _ _ _ : D) (_ : LS) => none) (fun (q7 : D → D → D → D → LS → Rs) (x8 x9 x10 x11 : D) (s : LS) =>
 kLss x11 x10 fun x12 =>
 kCond x12
(kS (.lens (.c x8)) s fun x13 s =>
 kSub x13 (.i .i64 (.ofNat 1)) fun x14 =>
 kSub x14 x11 fun x15 =>
 kQuo x15 (.i .i64 (.ofNat 8)) fun x16 =>
 kIaddr 1 s x9 x16 fun x17 s =>
 kLoad1 s x17 fun x18 s =>
 kS (.index (.c x8) (.c x11)) s fun x19 s =>
 kToInt .u64 x19 s fun x20 s =>
 kRem x15 (.i .i64 (.ofNat 8)) fun x21 =>
 kMul (.i .i64 (.ofNat 8)) x21 fun x22 =>
 kShl x20 x22 fun x23 =>
 kOr x18 x23 fun x24 =>
 kIaddr 1 s x9 x16 fun x25 s =>
 kStore 1 s x25 x24 fun _ s =>
 kAdd x11 (.i .i64 (.ofNat 1)) fun x26 =>
 q7 x8 x9 x10 x26 s)
((R_exact_trim φ) [x9] s fun x27 s =>
 retK true s x27 some)) φ a1 x5 x6 (.i .i64 (.ofNat 0)) s)) s0
def R_fp_Trim (φ : Nat) : List D → Option D :=
fun as =>
(fun (s : LS) =>
 u1 as fun a1 r16 =>
 u0 r16 (
 kLen a1 s fun x2 s =>
 lp (fun (_ _ : D) (_ : LS) => none) (fun (q3 : D → D → LS → Rs) (x4 x5 : D) (s : LS) =>
 kGtr x5 (.i .i64 (.ofNat 0)) fun x6 =>
 kGuard x6 true (fun k => k x4 s) s fun x7 s =>
 kGuard x6 true (fun k => k x5 s) s fun x8 s =>
 kGuard x6 true (fun k => kSub x8 (.i .i64 (.ofNat 1)) fun d => k d s) s fun x9 s =>
 kGuard x6 true (fun k => kIaddr 1 s x7 x9 k) s fun x10 s =>
 kGuard x6 true (fun k => kLoad1 s x10 k) s fun x11 s =>
 kGuard x6 true (fun k => kEql x11 (.i .i64 (.ofNat 0)) fun d => k d s) s fun x12 s =>
 kPick x6 x12 (.b false) s fun x13 s =>
 kCond x13
(kSub x5 (.i .i64 (.ofNat 1)) fun x14 =>
 q3 x4 x14 s)
(kSlice 1 s x4 none (some x5) (some x5) fun x15 s =>
 retK false s x15 some)) φ a1 x2 s)) s0
def R_fp_Mul (φ : Nat) : List D → Option D :=
fun as =>
(fun (s : LS) =>
 u1 as fun a1 r53 =>
 u1 r53 fun a2 r54 =>
 u1 r54 fun a3 r55 =>
 u0 r55 (
 kLen a2 s fun x4 s =>
 kEql x4 (.i .i64 (.ofNat 0)) fun x5 =>
 kGuard x5 false (fun k => k a3 s) s fun x6 s =>
 kGuard x5 false (fun k => kLen x6 s k) s fun x7 s =>
 kGuard x5 false (fun k => kEql x7 (.i .i64 (.ofNat 0)) fun d => k d s) s fun x8 s =>
 kPick x5 (.b true) x8 s fun x9 s =>
 kCond x9
(retK false s (.tree [] 0 true) some)
(kLen a2 s fun x10 s =>
 kLen a3 s fun x11 s =>
 kAdd x10 x11 fun x12 =>
 kSub x12 (.i .i64 (.ofNat 1)) fun x13 =>
 kMksl 1 8 [(.i .i64 (.ofNat 0))] s x13 x13 fun x14 s =>
 kLen a2 s fun x15 s =>
 lp (fun (_ _ _ _ _ _ : D) (_ : LS) => none) (fun (q16 : D → D → D → D → D → D → LS → Rs) (x17 x18 x19 x20 x21 x22 : D) (s : LS) =>
 kLss x22 x21 fun x23 =>
 kCond x23
(kIaddr 1 s x20 x22 fun x24 s =>
 kLoad1 s x24 fun x25 s =>
 kLen x18 s fun x26 s =>
 lp (fun (_ _ _ _ _ _ _ _ _ _ _ : D) (_ : LS) => none) (fun (q27 : D → D → D → D → D → D → D → D → D → D → D → LS → Rs) (x28 x29 x30 x31 x32 x33 x34 x35 x36 x37 x38 : D) (s : LS) =>
 kLss x38 x37 fun x39 =>
 kCond x39
(kIaddr 1 s x36 x38 fun x40 s =>
 kLoad1 s x40 fun x41 s =>
 kAdd x31 x38 fun x42 =>
 kAdd x31 x38 fun x43 =>
 kIaddr 1 s x30 x43 fun x44 s =>
 kLoad1 s x44 fun x45 s =>
 kMul x32 x41 fun x46 =>
 kAdd x45 x46 fun x47 =>
 kRem x47 x28 fun x48 =>
 kIaddr 1 s x30 x42 fun x49 s =>
 kStore 1 s x49 x48 fun _ s =>
 kAdd x38 (.i .i64 (.ofNat 1)) fun x50 =>
 q27 x28 x29 x30 x31 x32 x33 x34 x35 x36 x37 x50 s)
(kAdd x35 (.i .i64 (.ofNat 1)) fun x51 =>
 q16 x28 x29 x30 x33 x34 x51 s)) φ x17 x18 x19 x22 x25 x20 x21 x22 x18 x26 (.i .i64 (.ofNat 0)) s)
(isoK (R_fp_Trim φ) [x19] s fun x52 s =>
 retK false s x52 some)) φ a1 a3 x14 a2 x15 (.i .i64 (.ofNat 0)) s))) s0
end
end Go.Proofs.Ev
set_option linter.unusedVariables false
set_option linter.unusedSimpArgs false
namespace Go.Proofs.Ev
noncomputable section
theorem u1_cons {d : D} {r : List D} {k : D → List D → Rs} : u1 (d :: r) k = k d r := rfl
theorem u0_nil {x : Rs} : u0 [] x = x := rfl
theorem kCond_t {a b : Rs} : kCond (.b true) a b = a := rfl
theorem kCond_f {a b : Rs} : kCond (.b false) a b = b := rfl
theorem lp_succ {α : Type} {bot : α} {f : α → α} {n : Nat} : lp bot f (n + 1) = f (lp bot f n) := rfl
def n64 (w : Nat) : D := .i .u64 (.ofNat w)
def c64 (ws : List Nat) : List D := ws.map n64
theorem c64_len (ws : List Nat) : (c64 ws).length = ws.length := List.length_map _
theorem c64_get {ws : List Nat} {i w : Nat} (h : ws[i]? = some w) : (c64 ws)[i]? = some (.i .u64 (.ofNat w)) := by
  unfold c64
  rw [List.getElem?_map, h]; rfl
theorem c64_set (ws : List Nat) (i w : Nat) : (c64 ws).set i (.i .u64 (.ofNat w)) = c64 (ws.set i w) := by
  unfold c64
  rw [List.map_set]; rfl
theorem c64_flat : ∀ (ws : List Nat), (c64 ws).all flat1 = true
  | [] => rfl
  | w :: ws => c64_flat ws
theorem c64_rep (n w : Nat) : List.replicate n (D.i .u64 (.ofNat w)) = c64 (List.replicate n w) := by
  unfold c64
  rw [List.map_replicate]; rfl
theorem small_rep (n : Nat) : Small (List.replicate n 0) := fun w h => by
  rw [(List.mem_replicate.1 h).2]; decide
theorem val_rep : ∀ n, val (List.replicate n 0) = 0
  | 0 => rfl
  | n + 1 => by
    show 0 + B64 * val (List.replicate n 0) = 0
    rw [val_rep n]; rfl
theorem small_set {ws : List Nat} {j w : Nat} (h : Small ws) (hw : w < B64) : Small (ws.set j w) := fun x hx => by
  rcases List.mem_or_eq_of_mem_set hx with h1 | h1
  · exact h x h1
  · rw [h1]; exact hw

theorem kGuard_t {op : (D → LS → Rs) → Rs} {s : LS} {k : D → LS → Rs} : kGuard (.b true) true op s k = op k := rfl
theorem kGuard_f {op : (D → LS → Rs) → Rs} {s : LS} {k : D → LS → Rs} : kGuard (.b false) true op s k = k (.tup []) s := rfl
theorem kPick_t {a b : D} {s : LS} {k : D → LS → Rs} : kPick (.b true) a b s k = k a s := rfl
theorem kPick_f {a b : D} {s : LS} {k : D → LS → Rs} : kPick (.b false) a b s k = k b s := rfl
theorem kLen_sl {l off len cm z : Nat} {ex : Bool} {s : LS} {k : D → LS → Rs} : kLen (.sl l off len cm z ex) s k = k (.i .i64 (.ofNat len)) s := rfl
theorem kLen_tree {cs : List D} {len : Nat} {ex : Bool} {s : LS} {k : D → LS → Rs} : kLen (.tree cs len ex) s k = k (.i .i64 (.ofNat len)) s := rfl
theorem kSlice_st1 {cs : List D} {len h : Nat} {k : D → LS → Rs} (h0 : 0 < len) (hh : h ≤ len) : kSlice 1 (st1 cs) (.sl 0 0 len len 1 true) none (some (.i .i64 (.ofNat h))) none k = k (.sl 0 0 h len 1 true) (st1 cs) := by
  show (kGet (st1 cs) 0 fun b => cnd (lv b.st) (cnd (Nat.ble len len) (cnd (Nat.ble h len) (cnd (Nat.ble 0 h) (cnd (Nat.beq 1 1) (frcB true fun ex => cnd (Nat.blt 0 len) (frc (Nat.add 0 (Nat.mul 0 1)) fun off => frc (Nat.sub h 0) fun l => frc (Nat.sub len 0) fun cm => k (.sl 0 off l cm 1 ex) (st1 cs)) (k (.tree [] 0 ex) (st1 cs))) none) none) none) none) none) = _
  rw [kGet_eq, st1_get]
  show cnd (Nat.ble len len) (cnd (Nat.ble h len) (cnd (Nat.ble 0 h) (cnd (Nat.beq 1 1) (frcB true fun ex => cnd (Nat.blt 0 len) (frc (Nat.add 0 (Nat.mul 0 1)) fun off => frc (Nat.sub h 0) fun l => frc (Nat.sub len 0) fun cm => k (.sl 0 off l cm 1 ex) (st1 cs)) (k (.tree [] 0 ex) (st1 cs))) none) none) none) none = _
  rw [Nat.ble_eq_true_of_le (Nat.le_refl len), Nat.ble_eq_true_of_le hh, Nat.ble_eq_true_of_le (Nat.zero_le h), blt_true h0]
  simp only [cnd_true, frcB_eq, frc_eq, beq_self]
  rfl
theorem trim_st1 {ws : List Nat} {len w φ : Nat} {k : D → LS → Rs} (h0 : 0 < len) (hlen : len ≤ 9223372036854775807) (hw : ws[len - 1]? = some w) (hne : w ≠ 0) :
    R_exact_trim (φ + 1) [.sl 0 0 len len 1 true] (st1 (c64 ws)) k = k (.sl 0 0 len len 1 true) (st1 (c64 ws)) := by
  unfold R_exact_trim
  have hm : len ≤ kmax .i64 := hlen
  simp only [u1_cons, u0_nil, kLen_sl, lp_succ, kGtr_n, blt_true h0, kGuard_t, kSub_n (show 1 ≤ len from h0) hm, kIaddr_st1 (show len - 1 < len by omega), Nat.zero_add, kLoad1_st1 (c64_get hw), kEql_n, beq_ne hne, kPick_t, kCond_f, kSlice_st1 h0 (Nat.le_refl len)]

def wordsF (φ : Nat) : (D → D → D → D → LS → Rs) → D → D → D → D → LS → Rs := (fun (q7 : D → D → D → D → LS → Rs) (x8 x9 x10 x11 : D) (s : LS) =>
 kLss x11 x10 fun x12 =>
 kCond x12
(kS (.lens (.c x8)) s fun x13 s =>
 kSub x13 (.i .i64 (.ofNat 1)) fun x14 =>
 kSub x14 x11 fun x15 =>
 kQuo x15 (.i .i64 (.ofNat 8)) fun x16 =>
 kIaddr 1 s x9 x16 fun x17 s =>
 kLoad1 s x17 fun x18 s =>
 kS (.index (.c x8) (.c x11)) s fun x19 s =>
 kToInt .u64 x19 s fun x20 s =>
 kRem x15 (.i .i64 (.ofNat 8)) fun x21 =>
 kMul (.i .i64 (.ofNat 8)) x21 fun x22 =>
 kShl x20 x22 fun x23 =>
 kOr x18 x23 fun x24 =>
 kIaddr 1 s x9 x16 fun x25 s =>
 kStore 1 s x25 x24 fun _ s =>
 kAdd x11 (.i .i64 (.ofNat 1)) fun x26 =>
 q7 x8 x9 x10 x26 s)
(R_exact_trim φ [x9] s fun x27 s =>
 retK true s x27 some))
theorem words_eq (φ : Nat) (a : D) : R_exact_words φ [a] = (kS (.lens (.c a)) s0 fun x2 s =>
    kAdd x2 (.i .i64 (.ofNat 7)) fun x3 =>
    kQuo x3 (.i .i64 (.ofNat 8)) fun x4 =>
    kMksl 1 8 [(.i .u64 (.ofNat 0))] s x4 x4 fun x5 s =>
    kS (.lens (.c a)) s fun x6 s =>
    lp (fun (_ _ _ _ : D) (_ : LS) => none) (wordsF φ) φ a x5 x6 (.i .i64 (.ofNat 0)) s) := rfl
theorem words_loop {m n W : Nat} (hm : 0 < m) (hn : n = (natBytes m).length) (hW : W = (n + 7) / 8) (hs : n ≤ 1000000000000) (φ : Nat) : ∀ (j i : Nat) (ws : List Nat) (f : Nat), i + j = n → j < f → 0 < φ → ws.length = W → Small ws →
    val ws = natOfBytes ((natBytes m).take i) 0 * 256 ^ j →
    lp (fun (_ _ _ _ : D) (_ : LS) => none) (wordsF φ) f (.n m) (.sl 0 0 W W 1 true) (.i .i64 (.ofNat n)) (.i .i64 (.ofNat i)) (st1 (c64 ws)) = some (.own (c64 (dg W m)) W 1)
  | 0, i, ws, f, hi, hf, hφ, hl, hsm, hv => by
    obtain ⟨f, rfl⟩ : ∃ q, f = q + 1 := ⟨f - 1, by omega⟩
    obtain ⟨φ, rfl⟩ : ∃ q, φ = q + 1 := ⟨φ - 1, by omega⟩
    have hin : i = n := by omega
    subst hin
    have hval : val ws = m := by
      rw [hv, Nat.pow_zero, Nat.mul_one, hn, List.take_length, natOf_natBytes]
    have hdg : dg W m = ws := by rw [← hl, ← hval]; exact dg_val hsm
    obtain ⟨hb1, hb2⟩ := natBytes_le hm
    rw [← hn] at hb1 hb2
    have hW0 : 0 < W := by omega
    have hlt : W - 1 < ws.length := by omega
    have hw := List.getElem?_eq_getElem hlt
    have hne : ws[W - 1] ≠ 0 := by
      intro e
      have h1 := val_get hsm hw
      rw [e] at h1
      have h2 := val_lt hsm
      have h3 : B64 ^ ws.length = B64 ^ (W - 1) * B64 := by rw [hl, ← Nat.pow_succ]; congr 1; omega
      have h4 : val ws / B64 ^ (W - 1) < B64 := by
        rw [h3] at h2
        exact Nat.div_lt_of_lt_mul h2
      rw [Nat.mod_eq_of_lt h4] at h1
      have h5 : val ws < B64 ^ (W - 1) := by
        rcases Nat.lt_or_ge (val ws) (B64 ^ (W - 1)) with h | h
        · exact h
        · have := Nat.div_pos h (Nat.pow_pos (by decide))
          omega
      have h6 : B64 ^ (W - 1) = 256 ^ (8 * (W - 1)) := by rw [Nat.pow_mul]
      have h7 : 256 ^ (8 * (W - 1)) ≤ 256 ^ (i - 1) := Nat.pow_le_pow_right (by decide) (by omega)
      omega
    rw [lp_succ]
    unfold wordsF
    simp only [kLss_n, blt_false (Nat.lt_irrefl i), kCond_f, trim_st1 hW0 (show W ≤ 9223372036854775807 by omega) hw hne]
    rw [retK_own (c64_flat ws) (by rw [c64_len, hl]), hdg]
  | j + 1, i, ws, f, hi, hf, hφ, hl, hsm, hv => by
    obtain ⟨f, rfl⟩ : ∃ q, f = q + 1 := ⟨f - 1, by omega⟩
    have hlt : i < n := by omega
    have hib : i < (natBytes m).length := by rw [← hn]; exact hlt
    have hc := List.getElem?_eq_getElem hib
    generalize hcc : (natBytes m)[i] = c at hc
    have hc8 : c.toNat < 256 := c.toNat_lt
    have hk : n - 1 - i = j := by omega
    have hj8 : j / 8 < ws.length := by rw [hl, hW]; omega
    have hw := List.getElem?_eq_getElem hj8
    obtain ⟨o1, o2, o3⟩ := or_step (b := c.toNat) hsm hw hc8 hv
    have hwl := hsm _ (List.getElem_mem hj8)
    have h64 : c.toNat * 2 ^ (8 * (j % 8)) < B64 := by omega
    have hmod : c.toNat * 2 ^ (8 * (j % 8)) % 18446744073709551616 = c.toNat * 2 ^ (8 * (j % 8)) := Nat.mod_eq_of_lt h64
    rw [lp_succ]
    unfold wordsF
    simp only [kLss_n, blt_true hlt, kCond_t, kLens_n, ← hn, kSub_n (show 1 ≤ n by omega) (show n ≤ kmax .i64 from (by show n ≤ 9223372036854775807; omega)),
      kSub_n (show i ≤ n - 1 by omega) (show n - 1 ≤ kmax .i64 from (by show n - 1 ≤ 9223372036854775807; omega)), hk,
      kQuo_n (show (8 : Nat) ≠ 0 by decide) (show j ≤ kmax .i64 from (by show j ≤ 9223372036854775807; omega)), kIaddr_st1 (show j / 8 < W by omega), Nat.zero_add, kLoad1_st1 (c64_get hw), kIndex_n hc,
      kToInt_n (show c.toNat ≤ kmax .u64 from (by show c.toNat ≤ 18446744073709551615; omega)), kRem_n (show (8 : Nat) ≠ 0 by decide), kMul_n (show 8 * (j % 8) ≤ kmax .i64 from (by show 8 * (j % 8) ≤ 9223372036854775807; omega)),
      kShl_64 (show 8 * (j % 8) ≤ 64 by omega), hmod, kOr_n (show ws[j / 8] ≤ kmax .u64 from Nat.le_of_lt_succ hwl) (show c.toNat * 2 ^ (8 * (j % 8)) ≤ kmax .u64 from Nat.le_of_lt_succ h64), o1,
      kStore_st1 (show j / 8 < (c64 ws).length by rw [c64_len]; exact hj8), c64_set, kAdd_n (show i + 1 ≤ kmax .i64 from (by show i + 1 ≤ 9223372036854775807; omega))]
    refine words_loop hm hn hW hs φ j (i + 1) _ f (by omega) (by omega) hφ (by rw [List.length_set, hl]) (small_set hsm o2) ?_
    rw [o3]
    congr 1
    have ht : (natBytes m).take (i + 1) = (natBytes m).take i ++ [c] := by
      rw [List.take_add_one, hc]; rfl
    rw [ht, natOfBytes_app]
theorem words_run {m n W φ : Nat} (hm : 0 < m) (hn : n = (natBytes m).length) (hW : W = (n + 7) / 8) (hs : n ≤ 1000000000000) (hφ : n < φ) : R_exact_words φ [.n m] = some (.own (c64 (dg W m)) W 1) := by
  rw [words_eq]
  obtain ⟨hb1, hb2⟩ := natBytes_le hm
  have h7 : n + 7 ≤ kmax .i64 := by show n + 7 ≤ 9223372036854775807; omega
  simp only [kLens_n, ← hn, kAdd_n h7, kQuo_n (show (8 : Nat) ≠ 0 by decide) h7, ← hW, kMksl_s0 (bytes := 8) (z := .i .u64 (.ofNat 0)) (n := W) (show W ≤ 140737488355328 by omega) (show W * 8 ≤ 140737488355328 by omega), c64_rep]
  refine words_loop hm hn hW hs φ n 0 _ φ (by omega) hφ (by omega) (by simp) (small_rep W) ?_
  rw [val_rep]
  simp [natOfBytes]

theorem kIaddr_tree {cs : List D} {len i : Nat} {ex : Bool} {d : D} {k2 : IntKind} {s : LS} {K : D → LS → Rs} (h : i < len) (hd : cs[i]? = some d) : kIaddr 1 s (.tree cs len ex) (.i k2 (.ofNat i)) K = K (.fp (d :: cs.drop (i + 1))) s := by
  show cnd (Nat.blt i len) (dropK (Nat.mul i 1) cs fun r => List.rec (motive := fun _ => Rs) none (fun _ _ _ => K (.fp r) s) r) none = _
  rw [blt_true h, cnd_true, dropK_eq]
  have : cs.drop (Nat.mul i 1) = d :: cs.drop (i + 1) := by
    rw [show Nat.mul i 1 = i from Nat.mul_one i]
    exact drop_cons hd
  rw [this]
theorem kLoad1_fp {d : D} {r : List D} {s : LS} {K : D → LS → Rs} : kLoad1 s (.fp (d :: r)) K = K d s := rfl
theorem kSlice_tree {cs : List D} {len h : Nat} {ex : Bool} {s : LS} {k : D → LS → Rs} (hh : h ≤ len) (hl : cs.length = len) : kSlice 1 s (.tree cs len ex) none (some (.i .i64 (.ofNat h))) none k = k (.tree (cs.take h) h (cnd ex (Nat.beq h len) false)) s := by
  show cnd (Nat.ble len len) (cnd (Nat.ble h len) (cnd (Nat.ble 0 h) (cnd (Nat.beq cs.length (Nat.mul len 1))
        (dropK (Nat.mul 0 1) cs fun cs => frc (Nat.sub h 0) fun n => takeK (Nat.mul n 1) cs fun cs =>
          frcB (cnd ex (Nat.beq h len) false) fun ex => k (.tree cs n ex) s)
        none) none) none) none = _
  rw [Nat.ble_eq_true_of_le (Nat.le_refl len), Nat.ble_eq_true_of_le hh, Nat.ble_eq_true_of_le (Nat.zero_le h), hl, show Nat.mul len 1 = len from Nat.mul_one len, beq_self]
  simp only [cnd_true, dropK_eq, frc_eq, frcB_eq]
  rw [show Nat.mul 0 1 = 0 from rfl, List.drop_zero, show Nat.sub h 0 = h from rfl, takeK_eq, show Nat.mul h 1 = h from Nat.mul_one h, if_pos (by omega)]
def tl (ws : List Nat) : Nat → Nat
  | 0 => 0
  | n + 1 => if ws[n]? = some 0 then tl ws n else n + 1
theorem tl_le (ws : List Nat) : ∀ n, tl ws n ≤ n
  | 0 => Nat.le_refl _
  | n + 1 => by
    unfold tl
    split
    · have := tl_le ws n; omega
    · exact Nat.le_refl _
theorem val_snoc : ∀ (ws : List Nat) (w : Nat), val (ws ++ [w]) = val ws + w * B64 ^ ws.length
  | [], w => by show w + B64 * 0 = 0 + w * B64 ^ 0; rw [Nat.pow_zero]; omega
  | x :: ws, w => by
    show x + B64 * val (ws ++ [w]) = x + B64 * val ws + w * B64 ^ (ws.length + 1)
    rw [val_snoc ws w, Nat.mul_add, Nat.pow_succ]
    have : B64 * (w * B64 ^ ws.length) = w * (B64 ^ ws.length * B64) := by rw [← Nat.mul_assoc, Nat.mul_comm B64 w, Nat.mul_assoc, Nat.mul_comm B64 (B64 ^ ws.length)]
    omega
theorem tl_val (ws : List Nat) : ∀ n, n ≤ ws.length → val (ws.take (tl ws n)) = val (ws.take n)
  | 0, _ => rfl
  | n + 1, h => by
    unfold tl
    split
    · rename_i h0
      rw [tl_val ws n (by omega), List.take_add_one, h0]
      show _ = val (ws.take n ++ [0])
      rw [val_snoc, Nat.zero_mul, Nat.add_zero]
    · rfl
def trimF (k : D → LS → Rs) : (D → D → LS → Rs) → D → D → LS → Rs := (fun (q3 : D → D → LS → Rs) (x4 x5 : D) (s : LS) =>
 kGtr x5 (.i .i64 (.ofNat 0)) fun x6 =>
 kGuard x6 true (fun k => k x4 s) s fun x7 s =>
 kGuard x6 true (fun k => k x5 s) s fun x8 s =>
 kGuard x6 true (fun k => kSub x8 (.i .i64 (.ofNat 1)) fun d => k d s) s fun x9 s =>
 kGuard x6 true (fun k => kIaddr 1 s x7 x9 k) s fun x10 s =>
 kGuard x6 true (fun k => kLoad1 s x10 k) s fun x11 s =>
 kGuard x6 true (fun k => kEql x11 (.i .u64 (.ofNat 0)) fun d => k d s) s fun x12 s =>
 kPick x6 x12 (.b false) s fun x13 s =>
 kCond x13
(kSub x5 (.i .i64 (.ofNat 1)) fun x14 =>
 q3 x4 x14 s)
(kSlice 1 s x4 none (some x5) none fun x15 s =>
 k x15 s))
theorem trim_eq (φ : Nat) (a : D) (s : LS) (k : D → LS → Rs) : R_exact_trim φ [a] s k = (kLen a s fun x2 s => lp (fun (_ _ : D) (_ : LS) => none) (trimF k) φ a x2 s) := rfl
theorem trim_loop {ws : List Nat} {len : Nat} {ex : Bool} {s : LS} {k : D → LS → Rs} (hl : ws.length = len) (hlen : len ≤ 9223372036854775807) : ∀ (n f : Nat), n ≤ len → n < f →
    lp (fun (_ _ : D) (_ : LS) => none) (trimF k) f (.tree (c64 ws) len ex) (.i .i64 (.ofNat n)) s = k (.tree (c64 (ws.take (tl ws n))) (tl ws n) (cnd ex (Nat.beq (tl ws n) len) false)) s
  | 0, f, hn, hf => by
    obtain ⟨f, rfl⟩ : ∃ q, f = q + 1 := ⟨f - 1, by omega⟩
    rw [lp_succ]
    unfold trimF
    simp only [kGtr_n, blt_false (Nat.lt_irrefl 0), kGuard_f, kPick_f, kCond_f, kSlice_tree (ex := ex) (Nat.zero_le len) (show (c64 ws).length = len by rw [c64_len, hl])]
    rfl
  | n + 1, f, hn, hf => by
    obtain ⟨f, rfl⟩ : ∃ q, f = q + 1 := ⟨f - 1, by omega⟩
    have hlt : n < ws.length := by omega
    have hw := List.getElem?_eq_getElem hlt
    rw [lp_succ]
    unfold trimF
    have hm : n + 1 ≤ kmax .i64 := by show n + 1 ≤ 9223372036854775807; omega
    simp only [kGtr_n, blt_true (Nat.succ_pos n), kGuard_t, kSub_n (show 1 ≤ n + 1 by omega) hm, Nat.add_sub_cancel, kIaddr_tree (show n < len by omega) (c64_get hw), kLoad1_fp, kEql_n, kPick_t]
    by_cases h0 : ws[n] = 0
    · rw [h0, show Nat.beq 0 0 = true from rfl, kCond_t]
      have ht : tl ws (n + 1) = tl ws n := by
        show (if ws[n]? = some 0 then tl ws n else n + 1) = _
        rw [hw, h0, if_pos rfl]
      rw [ht]
      exact trim_loop hl hlen n f (by omega) (by omega)
    · rw [beq_ne h0, kCond_f, kSlice_tree hn (show (c64 ws).length = len by rw [c64_len, hl])]
      have ht : tl ws (n + 1) = n + 1 := by
        show (if ws[n]? = some 0 then tl ws n else n + 1) = _
        rw [hw, if_neg (fun e => h0 (Option.some.inj e))]
      rw [ht]
      unfold c64
      rw [List.map_take]
theorem trim_tree {ws : List Nat} {len φ : Nat} {ex : Bool} {s : LS} {k : D → LS → Rs} (hl : ws.length = len) (hlen : len ≤ 9223372036854775807) (hφ : len < φ) :
    R_exact_trim φ [.tree (c64 ws) len ex] s k = k (.tree (c64 (ws.take (tl ws len))) (tl ws len) (cnd ex (Nat.beq (tl ws len) len) false)) s := by
  rw [trim_eq, kLen_tree]
  exact trim_loop hl hlen len φ (Nat.le_refl _) hφ

def n8 (w : Nat) : D := .i .u8 (.ofNat w)
def c8 (bs : List Nat) : List D := bs.map n8
theorem c8_len (ws : List Nat) : (c8 ws).length = ws.length := List.length_map _
theorem c8_get {ws : List Nat} {i w : Nat} (h : ws[i]? = some w) : (c8 ws)[i]? = some (.i .u8 (.ofNat w)) := by
  unfold c8
  rw [List.getElem?_map, h]; rfl
theorem c8_set (ws : List Nat) (i w : Nat) : (c8 ws).set i (.i .u8 (.ofNat w)) = c8 (ws.set i w) := by
  unfold c8
  rw [List.map_set]; rfl
def be : Nat → Nat → List Nat
  | 0, _ => []
  | t + 1, v => v / 256 ^ t % 256 :: be t v
theorem be_len : ∀ t v, (be t v).length = t
  | 0, _ => rfl
  | t + 1, v => by show (be t v).length + 1 = t + 1; rw [be_len t v]
theorem be_drop : ∀ (i t v : Nat), i ≤ t → (be t v).drop i = be (t - i) v
  | 0, t, v, _ => rfl
  | i + 1, 0, v, h => by omega
  | i + 1, t + 1, v, h => by
    show (be t v).drop i = _
    rw [be_drop i t v (by omega), show t + 1 - (i + 1) = t - i by omega]
theorem set_rep (c : Nat) (l : List Nat) : ∀ m, (List.replicate (m + 1) 0 ++ l).set m c = List.replicate m 0 ++ c :: l
  | 0 => rfl
  | m + 1 => by
    show 0 :: (List.replicate (m + 1) 0 ++ l).set m c = 0 :: (List.replicate m 0 ++ c :: l)
    rw [set_rep c l m]
theorem natOf_be : ∀ (t v : Nat), natOfBytes ((be t v).map UInt8.ofNat) 0 = v % 256 ^ t
  | 0, v => by rw [Nat.pow_zero, Nat.mod_one]; rfl
  | t + 1, v => by
    show natOfBytes ((be t v).map UInt8.ofNat) (0 * 256 + (UInt8.ofNat (v / 256 ^ t % 256)).toNat) = _
    have : (UInt8.ofNat (v / 256 ^ t % 256)).toNat = v / 256 ^ t % 256 := by simp
    rw [this, natOfBytes_acc, List.length_map, be_len, natOf_be t v, Nat.zero_mul, Nat.zero_add, Nat.mod_pow_succ, Nat.mul_comm]
    omega
theorem bytesD_c8 : ∀ (bs : List Nat), bytesD (c8 bs) = some (bs.map UInt8.ofNat)
  | [] => rfl
  | b :: bs => by
    show (match bytesD (c8 bs) with
      | some l => some (UInt8.ofNat (Int.ofNat b).toNat :: l)
      | none => none) = _
    rw [bytesD_c8 bs]; rfl
theorem kSlice_lo {cs : List D} {len i : Nat} {k : D → LS → Rs} (hi : i < len) : kSlice 1 (st1 cs) (.sl 0 0 len len 1 true) (some (.i .i64 (.ofNat i))) none none k = k (.sl 0 i (len - i) (len - i) 1 true) (st1 cs) := by
  show (kGet (st1 cs) 0 fun b => cnd (lv b.st) (cnd (Nat.ble len len) (cnd (Nat.ble len len) (cnd (Nat.ble i len) (cnd (Nat.beq 1 1) (frcB true fun ex => cnd (Nat.blt i len) (frc (Nat.add 0 (Nat.mul i 1)) fun off => frc (Nat.sub len i) fun l => frc (Nat.sub len i) fun cm => k (.sl 0 off l cm 1 ex) (st1 cs)) (k (.tree [] 0 ex) (st1 cs))) none) none) none) none) none) = _
  rw [kGet_eq, st1_get]
  show cnd (Nat.ble len len) (cnd (Nat.ble len len) (cnd (Nat.ble i len) (cnd (Nat.beq 1 1) (frcB true fun ex => cnd (Nat.blt i len) (frc (Nat.add 0 (Nat.mul i 1)) fun off => frc (Nat.sub len i) fun l => frc (Nat.sub len i) fun cm => k (.sl 0 off l cm 1 ex) (st1 cs)) (k (.tree [] 0 ex) (st1 cs))) none) none) none) none = _
  rw [Nat.ble_eq_true_of_le (Nat.le_refl len), Nat.ble_eq_true_of_le (Nat.le_of_lt hi), blt_true hi]
  simp only [cnd_true, frcB_eq, frc_eq, beq_self]
  have : Nat.add 0 (Nat.mul i 1) = i := by show 0 + i * 1 = i; omega
  rw [this]; rfl
theorem kB2s_st1 {bs : List Nat} {i len c : Nat} {r : List Nat} {K : D → LS → Rs} (hl : bs.length = len) (hd : bs.drop i = c :: r) (hc : c < 256) (hne : c ≠ 0) :
    kS (.b2s (.c (.sl 0 i (len - i) (len - i) 1 true))) (st1 (c8 bs)) K = K (.n (natOfBytes ((c :: r).map UInt8.ofNat) 0)) (st1 (c8 bs)) := by
  have hcut : cut i ((len - i) * 1) (c8 bs) = some (c8 (c :: r)) := by
    unfold cut
    have h1 : (c8 bs).drop i = c8 (c :: r) := by
      unfold c8
      rw [← List.map_drop, hd]
    have h2 : (c :: r).length = len - i := by rw [← hd, List.length_drop, hl]
    rw [h1, Nat.mul_one, List.take_of_length_le (by rw [c8_len, h2]; exact Nat.le_refl _)]
    rw [if_pos (by rw [c8_len, h2])]
  have he : evA (st1 (c8 bs)).nx cv (st1 (c8 bs)).get (.b2s (.c (.sl 0 i (len - i) (len - i) 1 true))) = some (.n (natOfBytes ((c :: r).map UInt8.ofNat) 0), []) := by
    simp only [evA, cv, cellsOf, st1_get, Stt.live, Bool.not_true, Bool.false_eq_true, if_false, if_true, hcut, bytesD_c8]
    have hb : (UInt8.ofNat c).toNat = c := by simp; omega
    show some (cond (Nat.beq (UInt8.ofNat c).toNat 0) _ _, _) = _
    rw [hb, beq_ne hne]; rfl
  unfold kS sA
  rw [he]
  show frcD _ _ = _
  rw [frcD_eq]
def skipF (x10 : D) : (D → D → LS → Rs) → D → D → LS → Rs := (fun (q37 : D → D → LS → Rs) (x38 x39 : D) (s : LS) =>
 kIaddr 1 s x38 x39 fun x40 s =>
 kLoad1 s x40 fun x41 s =>
 kEql x41 (.i .u8 (.ofNat 0)) fun x42 =>
 kCond x42
(kAdd x39 (.i .i64 (.ofNat 1)) fun x43 =>
 q37 x38 x43 s)
(kSlice 1 s x38 (some x39) none none fun x44 s =>
 kS (.b2s (.c x44)) s fun x45 s =>
 retK false s x45 some))
def innF (φ : Nat) (q9 : D → D → D → D → LS → Rs) : (D → D → D → D → D → D → D → LS → Rs) → D → D → D → D → D → D → D → LS → Rs := (fun (q17 : D → D → D → D → D → D → D → LS → Rs) (x18 x19 x20 x21 x22 x23 x24 : D) (s : LS) =>
 kLss x24 (.i .i64 (.ofNat 8)) fun x25 =>
 kCond x25
(kLen x18 s fun x26 s =>
 kSub x26 (.i .i64 (.ofNat 1)) fun x27 =>
 kMul (.i .i64 (.ofNat 8)) x19 fun x28 =>
 kSub x27 x28 fun x29 =>
 kSub x29 x24 fun x30 =>
 kMul (.i .i64 (.ofNat 8)) x24 fun x31 =>
 kShr x20 x31 fun x32 =>
 kToInt .u8 x32 s fun x33 s =>
 kIaddr 1 s x18 x30 fun x34 s =>
 kStore 1 s x34 x33 fun _ s =>
 kAdd x24 (.i .i64 (.ofNat 1)) fun x35 =>
 q17 x18 x19 x20 x21 x22 x23 x35 s)
(kAdd x23 (.i .i64 (.ofNat 1)) fun x36 =>
 q9 x18 x21 x22 x36 s))
def outF (φ : Nat) : (D → D → D → D → LS → Rs) → D → D → D → D → LS → Rs := (fun (q9 : D → D → D → D → LS → Rs) (x10 x11 x12 x13 : D) (s : LS) =>
 kLss x13 x12 fun x14 =>
 kCond x14
(kIaddr 1 s x11 x13 fun x15 s =>
 kLoad1 s x15 fun x16 s =>
 lp (fun (_ _ _ _ _ _ _ : D) (_ : LS) => none) (innF φ q9) φ x10 x13 x16 x11 x12 x13 (.i .i64 (.ofNat 0)) s)
(lp (fun (_ _ : D) (_ : LS) => none) (skipF x10) φ x10 (.i .i64 (.ofNat 0)) s))
theorem pack_eq (φ : Nat) (a : D) : R_exact_pack φ [a] = (R_exact_trim φ [a] s0 fun x2 s =>
    kLen x2 s fun x3 s =>
    kEql x3 (.i .i64 (.ofNat 0)) fun x4 =>
    kCond x4
    (retK false s (.n 0) some)
    (kLen x2 s fun x5 s =>
    kMul (.i .i64 (.ofNat 8)) x5 fun x6 =>
    kMksl 1 1 [(.i .u8 (.ofNat 0))] s x6 x6 fun x7 s =>
    kLen x2 s fun x8 s =>
    lp (fun (_ _ _ _ : D) (_ : LS) => none) (outF φ) φ x7 x2 x8 (.i .i64 (.ofNat 0)) s)) := rfl
theorem skip_loop {L v : Nat} {x : D} (hL : L ≤ 1000000000000) (hv : 0 < v) : ∀ (j i f : Nat), i + j = L → j < f → v < 256 ^ j →
    lp (fun (_ _ : D) (_ : LS) => none) (skipF x) f (.sl 0 0 L L 1 true) (.i .i64 (.ofNat i)) (st1 (c8 (be L v))) = some (.n v)
  | 0, i, f, hi, hf, hlt => by
    rw [Nat.pow_zero] at hlt; omega
  | j + 1, i, f, hi, hf, hlt => by
    obtain ⟨f, rfl⟩ : ∃ q, f = q + 1 := ⟨f - 1, by omega⟩
    have hd : (be L v).drop i = v / 256 ^ j % 256 :: be j v := by
      rw [be_drop i L v (by omega), show L - i = j + 1 by omega]; rfl
    have hget : (be L v)[i]? = some (v / 256 ^ j % 256) := by
      have h1 : ((be L v).drop i)[0]? = some (v / 256 ^ j % 256) := by rw [hd]; rfl
      rw [List.getElem?_drop] at h1
      simpa using h1
    have hmod : v / 256 ^ j % 256 = v / 256 ^ j := Nat.mod_eq_of_lt (Nat.div_lt_of_lt_mul (by rw [Nat.pow_succ] at hlt; exact hlt))
    rw [lp_succ]
    unfold skipF
    simp only [kIaddr_st1 (show i < L by omega), Nat.zero_add, kLoad1_st1 (c8_get hget), kEql_n]
    by_cases h0 : v / 256 ^ j % 256 = 0
    · rw [h0, show Nat.beq 0 0 = true from rfl, kCond_t, kAdd_n (show i + 1 ≤ kmax .i64 from (by show i + 1 ≤ 9223372036854775807; omega))]
      refine skip_loop (x := x) hL hv j (i + 1) f (by omega) (by omega) ?_
      rw [hmod] at h0
      rcases Nat.lt_or_ge v (256 ^ j) with h | h
      · exact h
      · have := Nat.div_pos h (Nat.pow_pos (show 0 < 256 by decide))
        omega
    · rw [beq_ne h0, kCond_f]
      simp only [kSlice_lo (show i < L by omega), kB2s_st1 (be_len L v) hd (Nat.mod_lt _ (by decide)) h0]
      have he : natOfBytes ((v / 256 ^ j % 256 :: be j v).map UInt8.ofNat) 0 = v := by
        have := natOf_be (j + 1) v
        rw [Nat.mod_eq_of_lt hlt] at this
        exact this
      rw [he]
      rfl
theorem byte_of {v i s x : Nat} (hs : s < 8) (hx : x = v / B64 ^ i % B64) : x / 2 ^ (8 * s) % 256 = v / 256 ^ (8 * i + s) % 256 := by
  have e1 : 256 ^ (8 * i + s) = B64 ^ i * 2 ^ (8 * s) := by
    rw [p256, B64_pow, ← Nat.pow_add]; congr 1; omega
  have e2 : B64 = 2 ^ (8 * s) * (256 * 2 ^ (56 - 8 * s)) := by
    have h1 : (256 : Nat) = 2 ^ 8 := rfl
    have h2 : B64 = 2 ^ 64 := rfl
    rw [h1, ← Nat.pow_add, ← Nat.pow_add, h2]; congr 1; omega
  rw [e1, ← Nat.div_div_eq_div_mul, hx, e2, Nat.mod_mul_right_div_self, Nat.mod_mul_right_mod]
theorem inn_loop {ws : List Nat} {t L φ i x v : Nat} {ex : Bool} (q : D → D → D → D → LS → Rs) (hL : L = 8 * t) (hLs : L ≤ 1000000000000) (hi : i < t) (hv : v = val ws) (hx : x = v / B64 ^ i % B64) : ∀ (j s f : Nat), s + j = 8 → j < f →
    lp (fun (_ _ _ _ _ _ _ : D) (_ : LS) => none) (innF φ q) f (.sl 0 0 L L 1 true) (.i .i64 (.ofNat i)) (.i .u64 (.ofNat x)) (.tree (c64 ws) t ex) (.i .i64 (.ofNat t)) (.i .i64 (.ofNat i)) (.i .i64 (.ofNat s)) (st1 (c8 (List.replicate (L - (8 * i + s)) 0 ++ be (8 * i + s) v)))
      = q (.sl 0 0 L L 1 true) (.tree (c64 ws) t ex) (.i .i64 (.ofNat t)) (.i .i64 (.ofNat (i + 1))) (st1 (c8 (List.replicate (L - 8 * (i + 1)) 0 ++ be (8 * (i + 1)) v)))
  | 0, s, f, hs, hf => by
    obtain ⟨f, rfl⟩ : ∃ q, f = q + 1 := ⟨f - 1, by omega⟩
    have : s = 8 := by omega
    subst this
    rw [lp_succ]
    unfold innF
    simp only [kLss_n, show Nat.blt 8 8 = false from rfl, kCond_f, kAdd_n (show i + 1 ≤ kmax .i64 from (by show i + 1 ≤ 9223372036854775807; omega))]
    rw [show 8 * i + 8 = 8 * (i + 1) by omega]
  | j + 1, s, f, hs, hf => by
    obtain ⟨f, rfl⟩ : ∃ q, f = q + 1 := ⟨f - 1, by omega⟩
    have hs8 : s < 8 := by omega
    rw [lp_succ]
    unfold innF
    have k1 : 8 * i ≤ kmax .i64 := by show 8 * i ≤ 9223372036854775807; omega
    have k2 : L ≤ kmax .i64 := by show L ≤ 9223372036854775807; omega
    have k3 : L - 1 ≤ kmax .i64 := by show L - 1 ≤ 9223372036854775807; omega
    have k4 : L - 1 - 8 * i ≤ kmax .i64 := by show L - 1 - 8 * i ≤ 9223372036854775807; omega
    have k5 : 8 * s ≤ kmax .i64 := by show 8 * s ≤ 9223372036854775807; omega
    have k6 : s + 1 ≤ kmax .i64 := by show s + 1 ≤ 9223372036854775807; omega
    have hidx : L - 1 - 8 * i - s < L := by omega
    have hlen : L - 1 - 8 * i - s < (c8 (List.replicate (L - (8 * i + s)) 0 ++ be (8 * i + s) v)).length := by
      rw [c8_len, List.length_append, List.length_replicate, be_len]; omega
    simp only [kLss_n, blt_true hs8, kCond_t, kLen_sl, kSub_n (show 1 ≤ L by omega) k2, kMul_n k1, kSub_n (show 8 * i ≤ L - 1 by omega) k3, kSub_n (show s ≤ L - 1 - 8 * i by omega) k4, kMul_n k5,
      kShr_64 (show 8 * s ≤ 64 by omega), kToInt_8, kIaddr_st1 hidx, Nat.zero_add, kStore_st1 hlen, c8_set, kAdd_n k6]
    have hset : (List.replicate (L - (8 * i + s)) 0 ++ be (8 * i + s) v).set (L - 1 - 8 * i - s) (x / 2 ^ (8 * s) % 256) = List.replicate (L - (8 * i + (s + 1))) 0 ++ be (8 * i + (s + 1)) v := by
      rw [byte_of hs8 hx, show L - (8 * i + s) = (L - 1 - 8 * i - s) + 1 by omega, set_rep, show L - 1 - 8 * i - s = L - (8 * i + (s + 1)) by omega]
      rfl
    rw [hset]
    exact inn_loop (φ := φ) q hL hLs hi hv hx j (s + 1) f (by omega) (by omega)
theorem out_loop {ws : List Nat} {t L φ v : Nat} {ex : Bool} (hsm : Small ws) (hlw : ws.length = t) (hL : L = 8 * t) (hLs : L ≤ 1000000000000) (hv : v = val ws) (hv0 : 0 < v) (hφ : L + 8 < φ) : ∀ (j i f : Nat), i + j = t → j < f →
    lp (fun (_ _ _ _ : D) (_ : LS) => none) (outF φ) f (.sl 0 0 L L 1 true) (.tree (c64 ws) t ex) (.i .i64 (.ofNat t)) (.i .i64 (.ofNat i)) (st1 (c8 (List.replicate (L - 8 * i) 0 ++ be (8 * i) v))) = some (.n v)
  | 0, i, f, hi, hf => by
    obtain ⟨f, rfl⟩ : ∃ q, f = q + 1 := ⟨f - 1, by omega⟩
    have : i = t := by omega
    subst this
    rw [lp_succ]
    unfold outF
    simp only [kLss_n, blt_false (Nat.lt_irrefl i), kCond_f]
    have hb : List.replicate (L - 8 * i) 0 ++ be (8 * i) v = be L v := by
      rw [hL, Nat.sub_self]; rfl
    rw [hb]
    refine skip_loop hLs hv0 L 0 φ (by omega) (by omega) ?_
    have := val_lt hsm
    rw [hlw, ← hv] at this
    rw [hL, Nat.pow_mul]
    exact this
  | j + 1, i, f, hi, hf => by
    obtain ⟨f, rfl⟩ : ∃ q, f = q + 1 := ⟨f - 1, by omega⟩
    have hit : i < t := by omega
    have hlt : i < ws.length := by omega
    have hw := List.getElem?_eq_getElem hlt
    rw [lp_succ]
    unfold outF
    simp only [kLss_n, blt_true hit, kCond_t, kIaddr_tree hit (c64_get hw), kLoad1_fp]
    have h1 := inn_loop (φ := φ) (ex := ex) (fun a b c d s => lp (fun (_ _ _ _ : D) (_ : LS) => none) (outF φ) f a b c d s) hL hLs hit hv (x := ws[i]) (by rw [hv]; exact val_get hsm hw) 8 0 φ (by omega) (by omega)
    rw [Nat.add_zero] at h1
    refine Eq.trans h1 ?_
    exact out_loop hsm hlw hL hLs hv hv0 hφ j (i + 1) f (by omega) (by omega)
theorem pack_run {ws : List Nat} {len φ : Nat} {ex : Bool} (hsm : Small ws) (hl : ws.length = len) (hs : len ≤ 100000000000) (hφ : 8 * len + 8 < φ) : R_exact_pack φ [.tree (c64 ws) len ex] = some (.n (val ws)) := by
  rw [pack_eq, trim_tree hl (by omega) (by omega)]
  have htl := tl_le ws len
  have hval : val (ws.take (tl ws len)) = val ws := by
    rw [tl_val ws len (by omega), ← hl, List.take_length]
  generalize ht : tl ws len = t at *
  generalize hws : ws.take t = us at *
  have hus : us.length = t := by rw [← hws, List.length_take]; omega
  have hsu : Small us := fun w hw => hsm w (List.mem_of_mem_take (by rw [hws]; exact hw))
  simp only [kLen_tree, kEql_n]
  by_cases h0 : t = 0
  · subst h0
    rw [show Nat.beq 0 0 = true from rfl, kCond_t]
    have : us = [] := List.length_eq_zero_iff.1 hus
    rw [this] at hval
    have hz : val ws = 0 := hval.symm
    rw [hz]; rfl
  · rw [beq_ne h0, kCond_f]
    by_cases hv0 : 0 < val ws
    · have k1 : 8 * t ≤ kmax .i64 := by show 8 * t ≤ 9223372036854775807; omega
      rw [kMul_n k1, kMksl_s0 (by omega) (by omega)]
      have hr : List.replicate (8 * t) (D.i .u8 (.ofNat 0)) = c8 (List.replicate (8 * t - 8 * 0) 0 ++ be (8 * 0) (val ws)) := by
        show _ = c8 (List.replicate (8 * t) 0 ++ [])
        unfold c8
        rw [List.append_nil, List.map_replicate]; rfl
      rw [hr]
      exact out_loop hsu hus rfl (by omega) hval.symm hv0 (by omega) t 0 φ (by omega) (by omega)
    · exfalso
      obtain ⟨t, rfl⟩ : ∃ q, t = q + 1 := ⟨t - 1, by omega⟩
      have hne : ∀ (n : Nat), tl ws n = t + 1 → ws[t]? ≠ some 0 := by
        intro n
        induction n with
        | zero => intro h; simp [tl] at h
        | succ n ih =>
          intro h
          unfold tl at h
          split at h
          · exact ih h
          · rename_i h1
            have : n = t := by omega
            rw [← this]; exact h1
      have hn := hne len ht
      have hlt : t < us.length := by omega
      have hg := List.getElem?_eq_getElem hlt
      have hv := val_get hsu hg
      rw [hval, show val ws = 0 by omega, Nat.zero_div, Nat.zero_mod] at hv
      refine hn ?_
      have : (ws.take (t + 1))[t]? = some us[t] := by rw [hws]; exact hg
      rw [List.getElem?_take_of_lt (by omega)] at this
      rw [this, hv]
end
end Go.Proofs.Ev
set_option linter.unusedVariables false
namespace Go.Proofs.Ev
noncomputable section
theorem natBytes_log {m : Nat} (h : 0 < m) : (natBytes m).length = Nat.log2 m / 8 + 1 := by
  obtain ⟨h1, h2⟩ := natBytes_le h
  have h3 : m < 256 ^ (natBytes m).length := by
    have hb : ∀ (l : List UInt8), natOfBytes l 0 < 256 ^ l.length := by
      intro l
      induction l with
      | nil => simp [natOfBytes]
      | cons c l ih =>
        show natOfBytes l (0 * 256 + c.toNat) < 256 ^ (l.length + 1)
        rw [natOfBytes_acc, Nat.pow_succ]
        have hc : c.toNat < 256 := c.toNat_lt
        have h4 : (c.toNat + 1) * 256 ^ l.length ≤ 256 * 256 ^ l.length := Nat.mul_le_mul_right _ hc
        rw [Nat.add_mul, Nat.one_mul] at h4
        rw [Nat.zero_mul, Nat.zero_add, Nat.mul_comm (256 ^ l.length)]
        omega
    have := hb (natBytes m)
    rwa [natOf_natBytes] at this
  have hne : m ≠ 0 := by omega
  rw [p256] at h1 h3
  have a1 := (Nat.le_log2 hne).2 h1
  have a2 := (Nat.log2_lt hne).2 h3
  omega
def dgK (n : Nat) : Nat → (List D → Rs) → Rs :=
  Nat.rec (motive := fun _ => Nat → (List D → Rs) → Rs) (fun _ k => k []) (fun _ ih m k => frc (Nat.mod m B64) fun w => frc (Nat.div m B64) fun m => ih m fun r => k (.i .u64 (.ofNat w) :: r)) n
theorem dgK_eq : ∀ (n m : Nat) (k : List D → Rs), dgK n m k = k (c64 (dg n m))
  | 0, m, k => rfl
  | n + 1, m, k => by
    show frc (Nat.mod m B64) (fun w => frc (Nat.div m B64) fun m => dgK n m fun r => k (.i .u64 (.ofNat w) :: r)) = _
    rw [frc_eq, frc_eq, dgK_eq n]; rfl
def asM (d : D) : Option Nat := D.rec (motive_1 := fun _ => Option Nat) (motive_2 := fun _ => PUnit.{1}) none (fun _ _ => none) (fun _ => none) (fun _ => none) (fun m => some m) none none (fun _ _ _ _ => none) (fun _ _ _ _ => none) (fun _ _ _ _ _ _ => none) (fun _ _ => none) (fun _ _ => none) (fun _ _ => none) (fun _ _ => none) (fun _ _ _ => none) ⟨⟩ (fun _ _ _ _ => ⟨⟩) d
def onNum (d : D) (k : Nat → Rs) : Rs := ob (asM d) k
theorem onNum_some {d : D} {k : Nat → Rs} {r : D} (h : onNum d k = some r) : ∃ m, d = .n m ∧ k m = some r := by
  cases d with
  | n m => exact ⟨m, rfl, h⟩
  | _ => cases h
def wordsM (as : List D) : Option D :=
  u1 as fun a r => u0 r (onNum a fun m => cnd (Nat.beq m 0) (some (.tree [] 0 true)) (cnd (Nat.ble (Nat.log2 m) 1000000000) (frc (Nat.succ (Nat.div (Nat.log2 m) 64)) fun W => dgK W m fun ds => some (.own ds W 1)) none))
theorem words_zero : R_exact_words 5 [.n 0] = some (.tree [] 0 true) := rfl
theorem u1_some {as : List D} {k : D → List D → Rs} {r : D} (h : u1 as k = some r) : ∃ a as', as = a :: as' ∧ k a as' = some r := by
  cases as with
  | nil => cases h
  | cons a as' => exact ⟨a, as', rfl, h⟩
theorem u0_some {as : List D} {x : Rs} {r : D} (h : u0 as x = some r) : as = [] ∧ x = some r := by
  cases as with
  | nil => exact ⟨rfl, h⟩
  | cons a as' => cases h
theorem wordsM_run {as : List D} {r : D} (h : wordsM as = some r) : ∃ φ, R_exact_words φ as = some r := by
  obtain ⟨a, as', rfl, h⟩ := u1_some h
  obtain ⟨rfl, h⟩ := u0_some h
  obtain ⟨m, rfl, h⟩ := onNum_some h
  · by_cases hm : m = 0
    · subst hm
      have h : some (D.tree [] 0 true) = some r := h
      exact ⟨5, by rw [words_zero, h]⟩
    · have h : cnd (Nat.beq m 0) (some (.tree [] 0 true)) (cnd (Nat.ble (Nat.log2 m) 1000000000) (frc (Nat.succ (Nat.div (Nat.log2 m) 64)) fun W => dgK W m fun ds => some (.own ds W 1)) none) = some r := h
      rw [beq_ne hm, cnd_false] at h
      obtain ⟨h1, h2⟩ := ob_cond h
      have h1 := Nat.le_of_ble_eq_true h1
      rw [frc_eq, dgK_eq] at h2
      have hl := natBytes_log (show 0 < m by omega)
      have hW : Nat.succ (Nat.div (Nat.log2 m) 64) = ((natBytes m).length + 7) / 8 := by
        show Nat.log2 m / 64 + 1 = _
        rw [hl]; omega
      refine ⟨(natBytes m).length + 1, ?_⟩
      rw [words_run (show 0 < m by omega) rfl hW (by omega) (Nat.lt_succ_self _)]
      exact h2
def valK (cs : List D) : (Nat → Nat → Rs) → Rs :=
  List.rec (motive := fun _ => (Nat → Nat → Rs) → Rs) (fun k => k 0 0) (fun d _ ih k => on64 d fun w => cnd (Nat.blt w B64) (ih fun v n => frc (Nat.add w (Nat.mul B64 v)) fun v => frc (Nat.succ n) fun n => k v n) none) cs
theorem valK_some {r : D} : ∀ {cs : List D} {k : Nat → Nat → Rs}, valK cs k = some r → ∃ ws, cs = c64 ws ∧ Small ws ∧ k (val ws) ws.length = some r
  | [], k, h => ⟨[], rfl, fun w hw => (by cases hw), h⟩
  | d :: cs, k, h => by
    have h : (on64 d fun w => cnd (Nat.blt w B64) (valK cs fun v n => frc (Nat.add w (Nat.mul B64 v)) fun v => frc (Nat.succ n) fun n => k v n) none) = some r := h
    obtain ⟨w, rfl, h1⟩ := on64_some h
    obtain ⟨h2, h3⟩ := ob_cond h1
    obtain ⟨ws, rfl, h4, h5⟩ := valK_some h3
    rw [frc_eq, frc_eq] at h5
    have h2 : w < B64 := by simpa [Nat.blt_eq] using h2
    refine ⟨w :: ws, rfl, fun x hx => ?_, h5⟩
    rcases List.mem_cons.1 hx with rfl | hx
    · exact h2
    · exact h4 x hx
def packM (as : List D) : Option D :=
  u1 as fun a r => u0 r (onSl a (fun _ _ _ _ _ _ => none) (fun cs len _ => valK cs fun v n => cnd (Nat.beq n len) (cnd (Nat.ble len 1000000000) (some (.n v)) none) none) none)
theorem packM_run {as : List D} {r : D} (h : packM as = some r) : ∃ φ, R_exact_pack φ as = some r := by
  obtain ⟨a, as', rfl, h⟩ := u1_some h
  obtain ⟨rfl, h⟩ := u0_some h
  rcases onSl_some h with ⟨l, off, len, cm, z, ex, rfl, h1⟩ | ⟨cs, len, ex, rfl, h1⟩
  · cases h1
  · obtain ⟨ws, rfl, h2, h3⟩ := valK_some h1
    obtain ⟨h4, h5⟩ := ob_cond h3
    obtain ⟨h6, h7⟩ := ob_cond h5
    have h4 := Nat.eq_of_beq_eq_true h4
    have h6 := Nat.le_of_ble_eq_true h6
    exact ⟨8 * len + 9, by rw [pack_run h2 h4 (by omega) (by omega)]; exact h7⟩
end
end Go.Proofs.Ev
set_option linter.unusedVariables false
set_option linter.unusedSimpArgs false
namespace Go.Proofs.Ev
variable {P : Program} {im : Nat → Option Nat}
def EndsE (P : Program) (im : Nat → Option Nat) (fn : Func) (c : Code) (e : Env) : Prop :=
  ∃ e' σ' d, run .nil 20 (.code (cCode P im fn.ntmps c) e Sto.empty) = some (.code .ret e' σ') ∧ resVal e' σ' (fn.results.toList.map (cRes P)) = some d ∧ extr false σ'.get depth0 d = some (.tree [] 0 true)
theorem clone_empty (hm : P.follows .mixedOrders = true) {F : FuncId} {fn : Func} (hf : P.funcs[F]? = some fn) {c0 cT cB : Code} {id : Nat} {ops : Array Oper} {o0 o1 : Oper} {t el yt : TypeId}
    (hb : fn.body = some (.seq c0 (.seq (.seq (.region id ops false) (.cond (.tmp 4) cT .skip)) cB)))
    (hops : ops.toList = [o0, o1]) (g0 : o0.guard = none) (g1 : o1.guard = none) (d0 : o0.dst = some 3) (d1 : o1.dst = some 4) (p0 : o0.op = .move (.tmp 0))
    (p1 : o1.op = .binOp .eql t (.tmp 3) (.const (.slice none 0 0)) yt) (hu : P.underlying t = some (.slice el)) (hnt : 5 ≤ fn.ntmps)
    (hok : fn.results.toList.all (resOk P) = true) {ex : Bool} {e0 : Env}
    (r0 : run .nil 20 (.code (cCode P im fn.ntmps c0) (args0 .nil 0 [.tree [] 0 ex]) Sto.empty) = some (.code .nrm e0 Sto.empty)) (he0 : e0.get 0 = some (.tree [] 0 ex))
    (rT : EndsE P im fn cT ((e0.set 3 (.tree [] 0 ex)).set 4 (.b true))) (rB : EndsE P im fn cB ((e0.set 3 (.tree [] 0 ex)).set 4 (.b false))) :
    Snd1 P im F [.tree [] 0 ex] (.tree [] 0 true) := by
  intro vs w okp hT hbk
  have hC : CodeS P im .nil 20 := (run_sound hm ⟨fun F f en _ h => (by cases h)⟩ 20).1
  refine calls_of_wp hf hb ?_
  generalize hQ : bodyPost P fn (fun e w' => match e with
      | .returned v => RR im okp w w' (.tree [] 0 true) v
      | .outgrown => False
      | .panicked _ => False) = Q
  have fin : ∀ (c : Code) (e : Env), EndsE P im fn c e → ∀ (a : Act) (w1 : World), St im fn.ntmps okp w.heap.size Sto.empty.get (fun _ => (0, 0)) w okp e Sto.empty a w1 → ∀ Q' : Exit → Act → World → Prop, (∀ a w, Q .ret a w → Q' .ret a w) → c.wp P Q' a w1 := by
    intro c e ⟨e', σ', d, h1, h2, h3⟩ a w1 hst Q' hQ'
    refine hC _ _ _ _ _ _ _ _ (er_cCode P im _ c) h1 okp w.heap.size Sto.empty.get (fun _ => (0, 0)) w okp a w1 Q' hst ?_
    intro a' w' ⟨q1, q2, q3, μ, ok, R, hE, hS⟩
    refine hQ' a' w' ?_
    obtain ⟨v, v1, v2⟩ := results_run R hE rfl hok h2
    have hq := extr_RR R (fun b hb => hS.low b hb) hS.sm h3 v2
    rw [← hQ]
    exact ⟨q2, v, v1, hq⟩
  have hst0 : St im fn.ntmps okp w.heap.size Sto.empty.get (fun _ => (0, 0)) w okp (args0 .nil 0 [.tree [] 0 ex]) Sto.empty { tmps := vs.toArray ++ Array.replicate (fn.ntmps - vs.toArray.size) undef, defers := [] } w :=
    ⟨fun l _ => rfl, rfl, by simp; omega, fun _ => (0, 0), okp, Rel.empty hbk _, EnvR.args (VRl_of_TRl _ _ hT) _, .refl ..⟩
  refine wp_seq (hC _ _ _ _ _ _ _ _ (er_cCode P im _ c0) r0 okp w.heap.size Sto.empty.get (fun _ => (0, 0)) w okp _ w _ hst0 ?_)
  intro a1 w1 ⟨s1, s2, s3, μ, ok, R, hE, hS⟩
  refine wp_seq (wp_seq (wp_region_list ?_))
  rw [hops]
  have wanted : ∀ (o : Oper) (a : Act), o.guard = none → Region.wanted o (yielded ops a.tmps) = true := by
    intro o a ho
    unfold Region.wanted
    rw [ho]
  unfold wpList
  rw [if_pos (wanted o0 a1 g0)]
  refine .inl ?_
  have hA0 : evA Sto.empty.nx (X.ev e0) Sto.empty.get (cOp P im o0.op) = some (.tree [] 0 ex, []) := by
    rw [p0]
    simp only [cOp, evA, cX, X.ev, he0]
  refine (evA_sound R hE _ _ hA0 (fun j hj => by simp at hj)).wp (fun v w2 ⟨μ2, ok2, R2, n3, hv⟩ => ?_)
  rw [d0]
  have hE2 : EnvR im Sto.empty.get μ2 w2 ok2 (e0.set 3 (.tree [] 0 ex)) (a1.put (some 3) v).tmps := EnvR.put (dst := some 3) (e := e0) (hE.step n3) (fun t ht => (by cases ht; omega)) hv
  unfold wpList
  rw [if_pos (wanted o1 _ g1)]
  refine .inl ?_
  have hx : VR im Sto.empty.get μ2 w2 ok2 (.tree [] 0 ex) ((a1.put (some 3) v).eval (.tmp 3)) := by
    have := hE2 3
    have h3 : X.ev (e0.set 3 (.tree [] 0 ex)) (.t 3) = .tree [] 0 ex := by
      show (match (e0.set 3 (.tree [] 0 ex)).get 3 with | some d => d | none => .u) = _
      rw [Tr.get_set, if_pos rfl]
    rw [h3] at this
    exact this
  simp only [VR, TR] at hx
  obtain ⟨p, cap, hv3, _, _, _⟩ := hx
  have hdone : Done im Sto.empty.get μ2 w2 ok2 okp w.heap.size (addG Sto.empty.get Sto.empty.nx []) (.b p.isNone) ((execOp (a1.put (some 3) v).eval o1).run P w2) := by
    have ey : (a1.put (some 3) v).eval (.const (.slice none 0 0)) = .slice none 0 0 := rfl
    have hg : (eqGuard .eql t (.tmp 3) (.const (.slice none 0 0)) (.slice p 0 cap) (.slice none 0 0)).run P w2 = .ok () w2 := by simp [eqGuard]
    have h1 := run_equal_slice_nil (P := P) w2 t el p 0 cap hu
    refine done_same (nx := Sto.empty.nx) (v := .bool p.isNone) R2 (s := do eqGuard .eql t (.tmp 3) (.const (.slice none 0 0)) ((a1.put (some 3) v).eval (.tmp 3)) ((a1.put (some 3) v).eval (.const (.slice none 0 0))); binOp .eql t ((a1.put (some 3) v).eval (.tmp 3)) ((a1.put (some 3) v).eval (.const (.slice none 0 0)))) (by simp only [execOp, p1]) ?_ (by simp [VR])
    rw [hv3, ey]
    simp only [Sem.run_bind, hg, Result.andThen_ok]
    simp [binOp, h1]
  refine hdone.wp (fun v4 w3 ⟨μ3, ok3, R3, n4, hv4⟩ => ?_)
  rw [d1]
  unfold wpList
  have hE3 : EnvR im Sto.empty.get μ3 w3 ok3 ((e0.set 3 (.tree [] 0 ex)).set 4 (.b p.isNone)) ((a1.put (some 3) v).put (some 4) v4).tmps := EnvR.put (dst := some 4) (e := e0.set 3 (.tree [] 0 ex)) (hE2.step n4) (fun t ht => (by cases ht; rw [put_size]; omega)) hv4
  have hst3 : St im fn.ntmps okp w.heap.size Sto.empty.get (fun _ => (0, 0)) w okp ((e0.set 3 (.tree [] 0 ex)).set 4 (.b p.isNone)) Sto.empty ((a1.put (some 3) v).put (some 4) v4) w3 :=
    ⟨s1, by rw [put_defers, put_defers]; exact s2, by rw [put_size, put_size]; exact s3, μ3, ok3, R3, hE3, (hS.trans n3).trans n4⟩
  have h4 : ((a1.put (some 3) v).put (some 4) v4).eval (.tmp 4) = .bool p.isNone := by
    have := hE3 4
    have h5 : X.ev ((e0.set 3 (.tree [] 0 ex)).set 4 (.b p.isNone)) (.t 4) = .b p.isNone := by
      show (match ((e0.set 3 (.tree [] 0 ex)).set 4 (.b p.isNone)).get 4 with | some d => d | none => .u) = _
      rw [Tr.get_set, if_pos rfl]
    rw [h5] at this
    simp only [VR] at this
    exact this
  cases hp : p.isNone with
  | true =>
    rw [hp] at h4 hst3
    exact wp_cond_true h4 (fin cT _ rT _ _ hst3 _ (fun _ _ h => h))
  | false =>
    rw [hp] at h4 hst3
    exact wp_cond_false h4 (wp_skip (fin cB _ rB _ _ hst3 _ (fun _ _ h => h)))
def bod (fn : Func) : Code := match fn.body with
  | some c => c
  | none => .skip
def seqA : Code → Code
  | .seq a _ => a
  | c => c
def seqB : Code → Code
  | .seq _ b => b
  | c => c
def cndA : Code → Code
  | .cond _ a _ => a
  | c => c
def regO : Code → Array Oper
  | .region _ ops _ => ops
  | _ => #[]
def regI : Code → Nat
  | .region id _ _ => id
  | _ => 0
def clR (fn : Func) : Code := seqA (seqA (seqB (bod fn)))
def clC (fn : Func) : Code := seqB (seqA (seqB (bod fn)))
def clO (fn : Func) (i : Nat) : Oper := ((regO (clR fn)).toList[i]?).getD default
def clT (fn : Func) : TypeId × TypeId := match (clO fn 1).op with
  | .binOp _ t _ _ yt => (t, yt)
  | _ => (0, 0)
def clE (P : Program) (fn : Func) : TypeId := match P.underlying (clT fn).1 with
  | some (.slice el) => el
  | _ => 0
def cl0 (ex : Bool) : Env := Tr.set (args0 .nil 0 [.tree [] 0 ex]) 2 (.tree [] 0 true)
def endE (P : Program) (im : Nat → Option Nat) (fn : Func) (c : Code) (e : Env) : Option D :=
  match run .nil 20 (.code (cCode P im fn.ntmps c) e Sto.empty) with
  | some (.code x e' σ') => match x with
    | .ret => match resVal e' σ' (fn.results.toList.map (cRes P)) with
      | some d => extr false σ'.get depth0 d
      | none => none
    | _ => none
  | _ => none
theorem endE_spec {fn : Func} {c : Code} {e : Env} (h : endE P im fn c e = some (.tree [] 0 true)) : EndsE P im fn c e := by
  unfold endE at h
  split at h
  · rename_i x e' σ' hr
    split at h
    · split at h
      · rename_i d hd
        exact ⟨e', σ', d, hr, hd, h⟩
      · cases h
    · cases h
  · cases h
theorem clone_text (hm : P.follows .mixedOrders = true) {F : FuncId} {fn : Func} (hf : P.funcs[F]? = some fn)
    (hb : fn.body = some (.seq (seqA (bod fn)) (.seq (.seq (.region (regI (clR fn)) (regO (clR fn)) false) (.cond (.tmp 4) (cndA (clC fn)) .skip)) (seqB (seqB (bod fn))))))
    (hops : (regO (clR fn)).toList = [clO fn 0, clO fn 1])
    (hd : ((clO fn 0).guard, (clO fn 1).guard, (clO fn 0).dst, (clO fn 1).dst) = (none, none, some 3, some 4)) (p0 : (clO fn 0).op = .move (.tmp 0))
    (p1 : (clO fn 1).op = .binOp .eql (clT fn).1 (.tmp 3) (.const (.slice none 0 0)) (clT fn).2) (hu : P.underlying (clT fn).1 = some (.slice (clE P fn))) (hnt : Nat.ble 5 fn.ntmps = true)
    (hok : fn.results.toList.all (resOk P) = true)
    (r0 : (fun ex => run .nil 20 (.code (cCode P im fn.ntmps (seqA (bod fn))) (args0 .nil 0 [.tree [] 0 ex]) Sto.empty)) = fun ex => some (.code .nrm (cl0 ex) Sto.empty))
    (rT : (fun ex => endE P im fn (cndA (clC fn)) (((cl0 ex).set 3 (.tree [] 0 ex)).set 4 (.b true))) = fun _ => some (.tree [] 0 true))
    (rB : (fun ex => endE P im fn (seqB (seqB (bod fn))) (((cl0 ex).set 3 (.tree [] 0 ex)).set 4 (.b false))) = fun _ => some (.tree [] 0 true)) (ex : Bool) :
    Snd1 P im F [.tree [] 0 ex] (.tree [] 0 true) := by
  simp only [Prod.mk.injEq] at hd
  exact clone_empty hm hf hb hops hd.1 hd.2.1 hd.2.2.1 hd.2.2.2 p0 p1 hu (Nat.le_of_ble_eq_true hnt) hok (congrFun r0 ex) rfl (endE_spec (congrFun rT ex)) (endE_spec (congrFun rB ex))
noncomputable section
def cloneP (R : List D → Option D) (as : List D) : Option D :=
  u1 as fun a r => u0 r (onSl a (fun _ _ _ _ _ _ => none) (fun cs len ex => List.rec (motive := fun _ => Rs) (cnd (Nat.beq len 0) (some (.tree [] 0 true)) none) (fun _ _ _ => R [a]) cs) none)
theorem clone_snd {F : FuncId} {R : List D → Option D} (hR : Snd P im F R) (h : ∀ ex, Snd1 P im F [.tree [] 0 ex] (.tree [] 0 true)) : Snd P im F (cloneP R) := by
  intro as r hr
  obtain ⟨a, as', rfl, h1⟩ := u1_some hr
  obtain ⟨rfl, h2⟩ := u0_some h1
  rcases onSl_some h2 with ⟨l, off, len, cm, z, ex, rfl, h3⟩ | ⟨cs, len, ex, rfl, h3⟩
  · cases h3
  · cases cs with
    | nil =>
      have h3 : cnd (Nat.beq len 0) (some (D.tree [] 0 true)) none = some r := h3
      obtain ⟨h4, h5⟩ := ob_cond h3
      have := Nat.eq_of_beq_eq_true h4
      subst this
      cases h5
      exact h ex
    | cons c cs => exact hR _ _ h3
end
end Go.Proofs.Ev
set_option linter.unusedVariables false
set_option linter.unusedSimpArgs false
namespace Go.Proofs.Ev
noncomputable section
theorem kAnd_n {kk : IntKind} {a b : Nat} {k : D → Rs} (ha : a ≤ kmax kk) (hb : b ≤ kmax kk) : kAnd (.i kk (.ofNat a)) (.i kk (.ofNat b)) k = k (.i kk (.ofNat (a &&& b))) := by
  unfold kAnd inK; rw [on2_n, Nat.ble_eq_true_of_le ha, Nat.ble_eq_true_of_le hb, cnd_true, cnd_true, frc_eq]; rfl
theorem kMul_64 {a b : Nat} {k : D → Rs} : kMul (.i .u64 (.ofNat a)) (.i .u64 (.ofNat b)) k = k (.i .u64 (.ofNat (a * b % B64))) := by
  unfold kMul; rw [on2_n]; exact mkI_64
theorem and_lo (a : Nat) : a &&& 4294967295 = a % 4294967296 := Nat.and_two_pow_sub_one_eq_mod a 32
theorem m32 : (4294967295 : Nat) ≤ kmax .u64 := Nat.le_of_ble_eq_true rfl
theorem kAnd_lo {x : Nat} {K : D → Rs} (h : x < 18446744073709551616) : kAnd (.i .u64 (.ofNat x)) (.i .u64 (.ofNat 4294967295)) K = K (.i .u64 (.ofNat (x % 4294967296))) := by rw [kAnd_n (Nat.le_of_lt_succ h) m32, and_lo]
theorem kAdd_64 {a b : Nat} {K : D → Rs} (h : a + b < 18446744073709551616) : kAdd (.i .u64 (.ofNat a)) (.i .u64 (.ofNat b)) K = K (.i .u64 (.ofNat (a + b))) := kAdd_n (Nat.le_of_lt_succ h)
theorem kMul_lt {a b : Nat} {K : D → Rs} (h : a * b < 18446744073709551616) : kMul (.i .u64 (.ofNat a)) (.i .u64 (.ofNat b)) K = K (.i .u64 (.ofNat (a * b))) := kMul_n (Nat.le_of_lt_succ h)
theorem shr_32 {a : Nat} {k : D → Rs} : kShr (.i .u64 (.ofNat a)) (.i .u64 (.ofNat 32)) k = k (.i .u64 (.ofNat (a / 4294967296))) := kShr_64 (by decide)
theorem halves (L M : Nat) (hM : L * L = M) (x1 x0 y1 y0 : Nat) : (x1 * L + x0) * (y1 * L + y0) = x1 * y1 * M + (x1 * y0 + x0 * y1) * L + x0 * y0 := by
  subst hM
  simp only [Nat.add_mul, Nat.mul_add]
  have a1 : x1 * L * (y1 * L) = x1 * y1 * (L * L) := by rw [Nat.mul_assoc, Nat.mul_left_comm L, ← Nat.mul_assoc x1]
  have a2 : x1 * L * y0 = x1 * y0 * L := by rw [Nat.mul_assoc, Nat.mul_comm L, ← Nat.mul_assoc]
  have a3 : x0 * (y1 * L) = x0 * y1 * L := by rw [Nat.mul_assoc]
  rw [a1, a2, a3]
  omega
theorem mul64_run {x y φ : Nat} (hx : x < B64) (hy : y < B64) : R_math_bits_Mul64 φ [n64 x, n64 y] = some (.tup [n64 (x * y / B64), n64 (x * y % B64)]) := by
  have hx' : x < 18446744073709551616 := hx
  have hy' : y < 18446744073709551616 := hy
  have hx0 : x % 4294967296 ≤ 4294967295 := by omega
  have hx1 : x / 4294967296 ≤ 4294967295 := by omega
  have hy0 : y % 4294967296 ≤ 4294967295 := by omega
  have hy1 : y / 4294967296 ≤ 4294967295 := by omega
  have ha := Nat.mul_le_mul hx0 hy0
  have hb := Nat.mul_le_mul hx1 hy0
  have hc := Nat.mul_le_mul hx0 hy1
  have hd := Nat.mul_le_mul hx1 hy1
  have hP : x * y = (x / 4294967296) * (y / 4294967296) * B64 + ((x / 4294967296) * (y % 4294967296) + (x % 4294967296) * (y / 4294967296)) * 4294967296 + (x % 4294967296) * (y % 4294967296) := by
    have e := halves 4294967296 B64 rfl (x / 4294967296) (x % 4294967296) (y / 4294967296) (y % 4294967296)
    rw [show x / 4294967296 * 4294967296 + x % 4294967296 = x by omega, show y / 4294967296 * 4294967296 + y % 4294967296 = y by omega] at e
    exact e
  have hhi : x * y / B64 = (x / 4294967296) * (y / 4294967296) + ((x / 4294967296) * (y % 4294967296) + (x % 4294967296) * (y % 4294967296) / 4294967296) / 4294967296 + (((x / 4294967296) * (y % 4294967296) + (x % 4294967296) * (y % 4294967296) / 4294967296) % 4294967296 + (x % 4294967296) * (y / 4294967296)) / 4294967296 := by
    rw [hP]
    generalize (x / 4294967296) * (y / 4294967296) = d at *
    generalize (x / 4294967296) * (y % 4294967296) = b at *
    generalize (x % 4294967296) * (y / 4294967296) = c at *
    generalize (x % 4294967296) * (y % 4294967296) = a at *
    show (d * 18446744073709551616 + (b + c) * 4294967296 + a) / 18446744073709551616 = _
    omega
  rw [hhi]
  clear hhi hP
  have t0 : (x % 4294967296) * (y % 4294967296) < 18446744073709551616 := by omega
  have tb : (x / 4294967296) * (y % 4294967296) < 18446744073709551616 := by omega
  have tc : (x % 4294967296) * (y / 4294967296) < 18446744073709551616 := by omega
  have td : (x / 4294967296) * (y / 4294967296) < 18446744073709551616 := by omega
  have t1 : (x / 4294967296) * (y % 4294967296) + (x % 4294967296) * (y % 4294967296) / 4294967296 < 18446744073709551616 := by omega
  have t2 : ((x / 4294967296) * (y % 4294967296) + (x % 4294967296) * (y % 4294967296) / 4294967296) % 4294967296 + (x % 4294967296) * (y / 4294967296) < 18446744073709551616 := by omega
  have t3 : (x / 4294967296) * (y / 4294967296) + ((x / 4294967296) * (y % 4294967296) + (x % 4294967296) * (y % 4294967296) / 4294967296) / 4294967296 < 18446744073709551616 := by omega
  have t4 : (x / 4294967296) * (y / 4294967296) + ((x / 4294967296) * (y % 4294967296) + (x % 4294967296) * (y % 4294967296) / 4294967296) / 4294967296 + (((x / 4294967296) * (y % 4294967296) + (x % 4294967296) * (y % 4294967296) / 4294967296) % 4294967296 + (x % 4294967296) * (y / 4294967296)) / 4294967296 < 18446744073709551616 := by omega
  unfold R_math_bits_Mul64 n64
  simp only [u1_cons, u0_nil]
  refine (kAnd_lo hx').trans ?_
  refine shr_32.trans ?_
  refine (kAnd_lo hy').trans ?_
  refine shr_32.trans ?_
  refine (kMul_lt t0).trans ?_
  refine (kMul_lt tb).trans ?_
  refine shr_32.trans ?_
  refine (kAdd_64 t1).trans ?_
  refine (kAnd_lo t1).trans ?_
  refine shr_32.trans ?_
  refine (kMul_lt tc).trans ?_
  refine (kAdd_64 t2).trans ?_
  refine (kMul_lt td).trans ?_
  refine (kAdd_64 t3).trans ?_
  refine shr_32.trans ?_
  refine (kAdd_64 t4).trans ?_
  refine kMul_64.trans ?_
  rfl
def mul64M (as : List D) : Option D :=
  u1 as fun a r => u1 r fun b r => u0 r (on64 a fun x => on64 b fun y => cnd (Nat.blt x B64) (cnd (Nat.blt y B64) (frc (Nat.mul x y) fun p => frc (Nat.div p B64) fun hi => frc (Nat.mod p B64) fun lo => some (.tup [.i .u64 (.ofNat hi), .i .u64 (.ofNat lo)])) none) none)
theorem mul64M_run {as : List D} {r : D} (h : mul64M as = some r) : ∃ φ, R_math_bits_Mul64 φ as = some r := by
  obtain ⟨a, as1, h1, h2⟩ := u1_some h
  obtain ⟨b, as2, h3, h4⟩ := u1_some h2
  obtain ⟨h5, h6⟩ := u0_some h4
  obtain ⟨x, h7, h8⟩ := on64_some h6
  obtain ⟨y, h9, h10⟩ := on64_some h8
  obtain ⟨hx, h11⟩ := ob_cond h10
  obtain ⟨hy, h12⟩ := ob_cond h11
  have hx : x < B64 := by simpa [Nat.blt_eq] using hx
  have hy : y < B64 := by simpa [Nat.blt_eq] using hy
  simp only [frc_eq] at h12
  subst h1 h3 h5 h7 h9
  exact ⟨0, (mul64_run hx hy).trans h12⟩
end
end Go.Proofs.Ev
set_option linter.unusedVariables false
set_option linter.unusedSimpArgs false
namespace Go.Proofs.Ev
noncomputable section
variable {s : LS} {l off len cm z i n : Nat} {ex : Bool} {b : Blk} {d : D} {kk k2 : IntKind} {K : D → LS → Rs}
theorem kIaddr_sl (hg : s.get l = some b) (hl : b.st.live = true) (hi : i < len) : kIaddr z s (.sl l off len cm z ex) (.i k2 (.ofNat i)) K = K (.ptr l (off + i * z)) s := by
  show kGet s l (fun b => cnd (lv b.st) (cnd (Nat.blt i len) (cnd (Nat.beq z z) (frc (Nat.add off (Nat.mul i z)) fun o => K (.ptr l o) s) none) none) none) = _
  rw [kGet_eq, hg]
  show cnd (lv b.st) (cnd (Nat.blt i len) (cnd (Nat.beq z z) (frc (Nat.add off (Nat.mul i z)) fun o => K (.ptr l o) s) none) none) none = _
  rw [lv_eq, hl, blt_true hi, beq_self, cnd_true, cnd_true, cnd_true, frc_eq]
  rfl
theorem kLoad1_ptr (hg : s.get l = some b) (hl : b.st.live = true) (hd : b.cs[i]? = some d) : kLoad1 s (.ptr l i) K = K d s := by
  show kGet s l (fun b => cnd (lv b.st) (nthK i b.cs fun d => K d s) none) = _
  rw [kGet_eq, hg]
  show cnd (lv b.st) (nthK i b.cs fun d => K d s) none = _
  rw [lv_eq, hl, cnd_true, nthK_eq, hd]
  rfl
theorem get_in (hg : s.get l = some b) : l < s.nx := by
  unfold LS.get at hg
  split at hg
  · assumption
  · cases hg
theorem kPut_get (hg : s.get l = some b) (b' : Blk) (k : LS → Rs) : kPut s l b' k = k (s.put l b') := kPut_ins s l b' k
theorem lsget_put (hg : s.get l = some b) (b' : Blk) (m : Nat) : (s.put l b').get m = if m = l then some b' else s.get m := LS.get_put hg b' m
theorem lsget_push (hs : s.fit) (b' : Blk) (m : Nat) : (s.push b').get m = if m = s.nx then some b' else s.get m := LS.get_push s b' m
theorem lspush_len (hs : s.fit) (b' : Blk) : (s.push b').fit ∧ (s.push b').nx = s.nx + 1 := ⟨rfl, rfl⟩
theorem kStore_ptr (hg : s.get l = some b) (hw : b.st.wr = true) (hi : i < b.cs.length) : kStore 1 s (.ptr l i) (.i kk (.ofNat n)) K = K .u (s.put l ⟨b.cs.set i (.i kk (.ofNat n)), .rw⟩) := by
  show kGet s l (fun b => cnd (wr b.st) (layK i [.i kk (.ofNat n)] b.cs fun cs' => kPut s l ⟨cs', .rw⟩ fun s => K .u s) none) = _
  rw [kGet_eq, hg]
  show cnd (wr b.st) (layK i [.i kk (.ofNat n)] b.cs fun cs' => kPut s l ⟨cs', .rw⟩ fun s => K .u s) none = _
  rw [wr_eq, hw, cnd_true, layK_eq, layG_set hi]
  show kPut s l _ _ = _
  rw [kPut_get hg]
theorem kMksl_s {bytes : Nat} {z : D} (h1 : n ≤ 140737488355328) (h2 : n * bytes ≤ 140737488355328) : kMksl 1 bytes [z] s (.i .i64 (.ofNat n)) (.i .i64 (.ofNat n)) K = K (.sl s.nx 0 n n 1 true) (s.push ⟨List.replicate n z, .rw⟩) := by
  unfold kMksl
  rw [on2_n]
  show cnd (Nat.ble n n) (cnd (Nat.ble n 140737488355328) (cnd (Nat.ble (Nat.mul n bytes) 140737488355328) (zerosK [z] n fun cs => kPush s ⟨cs, .rw⟩ fun s' => K (.sl s.nx 0 n n 1 true) s') none) none) none = _
  rw [Nat.ble_eq_true_of_le (Nat.le_refl n), Nat.ble_eq_true_of_le h1, Nat.ble_eq_true_of_le (show Nat.mul n bytes ≤ 140737488355328 from h2)]
  simp only [cnd_true]
  rw [zerosK_eq, zeros_one, kPush_eq]
end
end Go.Proofs.Ev
set_option linter.unusedVariables false
set_option linter.unusedSimpArgs false
namespace Go.Proofs.Ev
noncomputable section
variable {s : LS} {K : D → LS → Rs}
inductive Hold (s : LS) : D → List Nat → Prop
  | nil : Hold s (.tree [] 0 true) []
  | sl {l cm : Nat} {ex : Bool} {ws : List Nat} (hg : s.get l = some ⟨c64 ws, .rw⟩) : Hold s (.sl l 0 ws.length cm 1 ex) ws
theorem kLen_hold {x : D} {ws : List Nat} (h : Hold s x ws) : kLen x s K = K (.i .i64 (.ofNat ws.length)) s := by
  cases h <;> rfl
theorem kRead_hold {x : D} {ws : List Nat} {i w : Nat} {k2 : IntKind} (h : Hold s x ws) (hi : ws[i]? = some w) : (kIaddr 1 s x (.i k2 (.ofNat i)) fun a s => kLoad1 s a K) = K (n64 w) s := by
  cases h with
  | nil => cases hi
  | sl hg =>
    have hlt : i < ws.length := (List.getElem?_eq_some_iff.1 hi).1
    refine (kIaddr_sl hg rfl hlt).trans ?_
    refine kLoad1_ptr hg rfl ?_
    rw [show 0 + i * 1 = i by omega]
    exact c64_get hi
theorem mapK_c64 {n : Nat} : ∀ {ws : List Nat} {kk : List D → List Nat → Rs}, mapK (resK s (n + 1)) (c64 ws) kk = kk (c64 ws) []
  | [], kk => rfl
  | w :: ws, kk => by
    show mapK (resK s (n + 1)) (c64 ws) (fun ys b => kk (n64 w :: ys) b) = _
    rw [mapK_c64]; rfl
theorem res_hold {x : D} {ws : List Nat} {n : Nat} (h : Hold s x ws) : ∃ ex ls, ∀ kk, resK s (n + 2) x kk = kk (.tree (c64 ws) ws.length ex) ls := by
  cases h with
  | nil => exact ⟨true, [], fun kk => rfl⟩
  | @sl l cm ex ws hg =>
    refine ⟨cnd ex (Nat.beq cm ws.length) false, [l], fun kk => ?_⟩
    show (kGet s l fun b => cnd (lv b.st) (dropK 0 b.cs fun r => takeK (Nat.mul ws.length 1) r fun r => mapK (resK s (n + 1)) r fun cs ls => frcB (cnd ex (Nat.beq cm ws.length) false) fun ex => kk (.tree cs ws.length ex) (l :: ls)) none) = _
    rw [kGet_eq, hg]
    show (dropK 0 (c64 ws) fun r => takeK (Nat.mul ws.length 1) r fun r => mapK (resK s (n + 1)) r fun cs ls => frcB (cnd ex (Nat.beq cm ws.length) false) fun ex => kk (.tree cs ws.length ex) (l :: ls)) = _
    have hlen : (c64 ws).length = ws.length := by simp [c64]
    rw [dropK_eq, takeK_eq, show Nat.mul ws.length 1 = ws.length from Nat.mul_one _, List.drop_zero, if_pos (by omega), List.take_of_length_le (by omega), mapK_c64, frcB_eq]
theorem valK_c64 : ∀ {ws : List Nat} {k : Nat → Nat → Rs}, Small ws → valK (c64 ws) k = k (val ws) ws.length
  | [], k, h => rfl
  | w :: ws, k, h => by
    show cnd (Nat.blt w B64) (valK (c64 ws) fun v n => frc (Nat.add w (Nat.mul B64 v)) fun v => frc (Nat.succ n) fun n => k v n) none = _
    rw [blt_true (h w (List.mem_cons_self ..)), cnd_true, valK_c64 fun x hx => h x (List.mem_cons_of_mem _ hx), frc_eq, frc_eq]
    rfl
theorem packM_tree {ws : List Nat} {ex : Bool} (h : Small ws) (hl : ws.length ≤ 1000000000) : packM [.tree (c64 ws) ws.length ex] = some (.n (val ws)) := by
  show (valK (c64 ws) fun v n => cnd (Nat.beq n ws.length) (cnd (Nat.ble ws.length 1000000000) (some (.n v)) none) none) = _
  rw [valK_c64 h, beq_self, Nat.ble_eq_true_of_le hl]
  rfl
theorem iso_pack {x : D} {ws : List Nat} (hx : Hold s x ws) (h : Small ws) (hl : ws.length ≤ 1000000000) : isoK packM [x] s K = K (.n (val ws)) s := by
  obtain ⟨ex, ls, hr⟩ := res_hold (n := 58) hx
  show resK s 60 x (fun y a => appK a [] fun ab => ob (packM [y]) fun r => finK s ab r K) = _
  rw [hr, appK_eq, packM_tree h hl]
  rfl
structure More (s s' : LS) : Prop where
  old : ∀ l b, s.get l = some b → s'.get l = some b
  len : s.fit → s'.fit
theorem More.refl (s : LS) : More s s := ⟨fun _ _ h => h, id⟩
theorem More.trans {s s' s'' : LS} (h : More s s') (h' : More s' s'') : More s s'' := ⟨fun l b g => h'.old l b (h.old l b g), fun g => h'.len (h.len g)⟩
theorem More.push (hs : s.fit) (b : Blk) : More s (s.push b) := by
  refine ⟨fun l b' h => ?_, fun h => (lspush_len h b).1⟩
  rw [lsget_push hs, if_neg (by have := get_in h; omega)]
  exact h
theorem Hold.more {s s' : LS} (h : More s s') {x : D} {ws : List Nat} (hx : Hold s x ws) : Hold s' x ws := by
  cases hx with
  | nil => exact .nil
  | sl hg => exact .sl (h.old _ _ hg)
theorem dg_small : ∀ (n m : Nat), Small (dg n m)
  | 0, m => fun w hw => by cases hw
  | n + 1, m => fun w hw => by
    rcases List.mem_cons.1 hw with rfl | hw
    · exact Nat.mod_lt _ (by decide)
    · exact dg_small n _ w hw
theorem dg_len : ∀ (n m : Nat), (dg n m).length = n
  | 0, m => rfl
  | n + 1, m => congrArg Nat.succ (dg_len n (m / B64))
theorem val_dg : ∀ (n m : Nat), m < B64 ^ n → val (dg n m) = m
  | 0, m, h => by
    have : m = 0 := by simpa using h
    subst this; rfl
  | n + 1, m, h => by
    show m % B64 + B64 * val (dg n (m / B64)) = m
    rw [val_dg n (m / B64) (Nat.div_lt_of_lt_mul (by rw [Nat.pow_succ, Nat.mul_comm] at h; exact h))]
    exact Nat.mod_add_div m B64
theorem iso_words {m : Nat} (hs : s.fit) (hm : Nat.log2 m ≤ 1000000000) : ∃ x s' ws, (∀ K, isoK wordsM [.n m] s K = K x s') ∧ Hold s' x ws ∧ Small ws ∧ val ws = m ∧ ws.length ≤ Nat.log2 m / 64 + 1 ∧ More s s' ∧ (∀ l off len cm z ex, x = .sl l off len cm z ex → s.nx ≤ l) := by
  by_cases h0 : m = 0
  · subst h0
    exact ⟨.tree [] 0 true, s, [], fun K => rfl, .nil, fun w hw => (by cases hw), rfl, Nat.zero_le _, More.refl s, fun l off len cm z ex e => (by cases e)⟩
  · refine ⟨.sl s.nx 0 (dg (Nat.log2 m / 64 + 1) m).length (dg (Nat.log2 m / 64 + 1) m).length 1 false, s.push ⟨c64 (dg (Nat.log2 m / 64 + 1) m), .rw⟩, dg (Nat.log2 m / 64 + 1) m, fun K => ?_, ?_, dg_small _ _, ?_, Nat.le_of_eq (dg_len _ _), More.push hs _, fun l off len cm z ex e => (by cases e; exact Nat.le_refl _)⟩
    · show (ob (cnd (Nat.beq m 0) (some (.tree [] 0 true)) (cnd (Nat.ble (Nat.log2 m) 1000000000) (frc (Nat.succ (Nat.div (Nat.log2 m) 64)) fun W => dgK W m fun ds => some (.own ds W 1)) none)) fun r => finK s [] r K) = _
      rw [beq_ne h0, Nat.ble_eq_true_of_le hm, cnd_false, cnd_true, frc_eq, dgK_eq, dg_len]
      show kPush s ⟨c64 (dg (Nat.log2 m / 64 + 1) m), .rw⟩ (fun s' => K (.sl s.nx 0 (Nat.log2 m / 64 + 1) (Nat.log2 m / 64 + 1) 1 false) s') = _
      rw [kPush_eq]
    · refine .sl ?_
      rw [lsget_push hs, if_pos rfl]
    · apply val_dg
      rw [B64_pow]
      refine Nat.lt_of_lt_of_le (Nat.lt_log2_self (n := m)) ?_
      exact Nat.pow_le_pow_right (by decide) (by omega)
end
end Go.Proofs.Ev
set_option linter.unusedVariables false
set_option maxRecDepth 1000000
set_option maxHeartbeats 0
namespace Go.Proofs.Ev
noncomputable section
def R_exact_mulWords (φ : Nat) : List D → Option D :=
fun as =>
(fun (s : LS) =>
 u1 as fun a1 r55 =>
 u1 r55 fun a2 r56 =>
 u0 r56 (
 kLen a1 s fun x3 s =>
 kLen a2 s fun x4 s =>
 kAdd x3 x4 fun x5 =>
 kMksl 1 8 [(.i .u64 (.ofNat 0))] s x5 x5 fun x6 s =>
 kLen a1 s fun x7 s =>
 lp (fun (_ _ _ _ _ : D) (_ : LS) => none) (fun (q8 : D → D → D → D → D → LS → Rs) (x9 x10 x11 x12 x13 : D) (s : LS) =>
 kLss x13 x12 fun x14 =>
 kCond x14
(kIaddr 1 s x11 x13 fun x15 s =>
 kLoad1 s x15 fun x16 s =>
 kLen x9 s fun x17 s =>
 lp (fun (_ _ _ _ _ _ _ _ _ _ _ : D) (_ : LS) => none) (fun (q18 : D → D → D → D → D → D → D → D → D → D → D → LS → Rs) (x19 x20 x21 x22 x23 x24 x25 x26 x27 x28 x29 : D) (s : LS) =>
 kLss x29 x28 fun x30 =>
 kCond x30
(kIaddr 1 s x27 x29 fun x31 s =>
 kLoad1 s x31 fun x32 s =>
 isoK mul64M [x22, x32] s fun x33 s =>
 kExt x33 0 s fun x34 s =>
 kExt x33 1 s fun x35 s =>
 kAdd x21 x29 fun x36 =>
 kIaddr 1 s x20 x36 fun x37 s =>
 kLoad1 s x37 fun x38 s =>
 kAdd64 x35 x38 (.i .u64 (.ofNat 0)) s fun x39 s =>
 kExt x39 0 s fun x40 s =>
 kExt x39 1 s fun x41 s =>
 kAdd x34 x41 fun x42 =>
 kAdd64 x40 x23 (.i .u64 (.ofNat 0)) s fun x43 s =>
 kExt x43 0 s fun x44 s =>
 kExt x43 1 s fun x45 s =>
 kAdd x21 x29 fun x46 =>
 kAdd x42 x45 fun x47 =>
 kIaddr 1 s x20 x46 fun x48 s =>
 kStore 1 s x48 x44 fun _ s =>
 kAdd x29 (.i .i64 (.ofNat 1)) fun x49 =>
 q18 x19 x20 x21 x22 x47 x24 x25 x26 x27 x28 x49 s)
(kLen x19 s fun x50 s =>
 kAdd x21 x50 fun x51 =>
 kIaddr 1 s x20 x51 fun x52 s =>
 kStore 1 s x52 x23 fun _ s =>
 kAdd x26 (.i .i64 (.ofNat 1)) fun x53 =>
 q8 x19 x20 x24 x25 x53 s)) φ x9 x10 x13 x16 (.i .u64 (.ofNat 0)) x11 x12 x13 x9 x17 (.i .i64 (.ofNat 0)) s)
((R_exact_trim φ) [x10] s fun x54 s =>
 retK false s x54 some)) φ a2 x6 a1 x7 (.i .i64 (.ofNat 0)) s)) s0
def R_exact_NatMul (φ : Nat) : List D → Option D :=
fun as =>
(fun (s : LS) =>
 u1 as fun a1 r7 =>
 u1 r7 fun a2 r8 =>
 u0 r8 (
 isoK wordsM [a1] s fun x3 s =>
 isoK wordsM [a2] s fun x4 s =>
 isoK (R_exact_mulWords φ) [x3, x4] s fun x5 s =>
 isoK packM [x5] s fun x6 s =>
 retK false s x6 some)) s0
def R_exact_NatCmp (φ : Nat) : List D → Option D :=
fun as =>
(fun (s : LS) =>
 u1 as fun a1 r18 =>
 u1 r18 fun a2 r19 =>
 u0 r19 (
 kS (.lens (.c a1)) s fun x3 s =>
 kS (.lens (.c a2)) s fun x4 s =>
 kLss x3 x4 fun x5 =>
 kGuard x5 false (fun k => k a1 s) s fun x6 s =>
 kGuard x5 false (fun k => kS (.lens (.c x6)) s k) s fun x7 s =>
 kGuard x5 false (fun k => k a2 s) s fun x8 s =>
 kGuard x5 false (fun k => kS (.lens (.c x8)) s k) s fun x9 s =>
 kGuard x5 false (fun k => kEql x7 x9 fun d => k d s) s fun x10 s =>
 kGuard x5 false (fun k => k x10 s) s fun x11 s =>
 kGuard x11 true (fun k => k a1 s) s fun x12 s =>
 kGuard x11 true (fun k => k a2 s) s fun x13 s =>
 kGuard x11 true (fun k => kLss x12 x13 fun d => k d s) s fun x14 s =>
 kGuard x5 false (fun k => kPick x11 x14 (.b false) s k) s fun x15 s =>
 kPick x5 (.b true) x15 s fun x16 s =>
 kCond x16
(retK false s (.i .i64 (.negSucc 0)) some)
(kEql a1 a2 fun x17 =>
 kCond x17
(retK false s (.i .i64 (.ofNat 0)) some)
(retK false s (.i .i64 (.ofNat 1)) some)))) s0
def R_exact_NatAdd (φ : Nat) : List D → Option D :=
fun as =>
(fun (s : LS) =>
 u1 as fun a1 r46 =>
 u1 r46 fun a2 r47 =>
 u0 r47 (
 isoK wordsM [a1] s fun x3 s =>
 isoK wordsM [a2] s fun x4 s =>
 jn (fun (x6 x7 : D) (s : LS) =>
 kLen x6 s fun x8 s =>
 kAdd x8 (.i .i64 (.ofNat 1)) fun x9 =>
 kMksl 1 8 [(.i .u64 (.ofNat 0))] s x9 x9 fun x10 s =>
 kLen x6 s fun x11 s =>
 lp (fun (_ _ _ _ _ _ : D) (_ : LS) => none) (fun (q12 : D → D → D → D → D → D → LS → Rs) (x13 x14 x15 x16 x17 x18 : D) (s : LS) =>
 kLss x18 x17 fun x19 =>
 kCond x19
(jn (fun (x21 x22 x23 x24 x25 x26 x27 x28 : D) (s : LS) =>
 kIaddr 1 s x21 x25 fun x29 s =>
 kLoad1 s x29 fun x30 s =>
 kAdd64 x30 x26 x24 s fun x31 s =>
 kExt x31 0 s fun x32 s =>
 kExt x31 1 s fun x33 s =>
 kIaddr 1 s x23 x25 fun x34 s =>
 kStore 1 s x34 x32 fun _ s =>
 kAdd x28 (.i .i64 (.ofNat 1)) fun x35 =>
 q12 x21 x22 x23 x33 x27 x35 s) fun j20 =>
 kLen x14 s fun x36 s =>
 kLss x18 x36 fun x37 =>
 kCond x37
(kIaddr 1 s x14 x18 fun x38 s =>
 kLoad1 s x38 fun x39 s =>
 j20 x13 x14 x15 x16 x18 x39 x17 x18 s)
(j20 x13 x14 x15 x16 x18 (.i .u64 (.ofNat 0)) x17 x18 s))
(kLen x13 s fun x40 s =>
 kIaddr 1 s x15 x40 fun x41 s =>
 kStore 1 s x41 x16 fun _ s =>
 isoK packM [x15] s fun x42 s =>
 retK false s x42 some)) φ x6 x7 x10 (.i .u64 (.ofNat 0)) x11 (.i .i64 (.ofNat 0)) s) fun j5 =>
 kLen x3 s fun x43 s =>
 kLen x4 s fun x44 s =>
 kLss x43 x44 fun x45 =>
 kCond x45
(j5 x4 x3 s)
(j5 x3 x4 s))) s0
def R_exact_NatSub (φ : Nat) : List D → Option D :=
fun as =>
(fun (s : LS) =>
 u1 as fun a1 r33 =>
 u1 r33 fun a2 r34 =>
 u0 r34 (
 isoK wordsM [a1] s fun x3 s =>
 isoK wordsM [a2] s fun x4 s =>
 kLen x3 s fun x5 s =>
 lp (fun (_ _ _ _ _ : D) (_ : LS) => none) (fun (q6 : D → D → D → D → D → LS → Rs) (x7 x8 x9 x10 x11 : D) (s : LS) =>
 kLss x11 x10 fun x12 =>
 kCond x12
(jn (fun (x14 x15 x16 x17 x18 x19 x20 : D) (s : LS) =>
 kIaddr 1 s x14 x17 fun x21 s =>
 kLoad1 s x21 fun x22 s =>
 kSub64 x22 x18 x16 s fun x23 s =>
 kExt x23 0 s fun x24 s =>
 kExt x23 1 s fun x25 s =>
 kIaddr 1 s x14 x17 fun x26 s =>
 kStore 1 s x26 x24 fun _ s =>
 kAdd x20 (.i .i64 (.ofNat 1)) fun x27 =>
 q6 x14 x15 x25 x19 x27 s) fun j13 =>
 kLen x8 s fun x28 s =>
 kLss x11 x28 fun x29 =>
 kCond x29
(kIaddr 1 s x8 x11 fun x30 s =>
 kLoad1 s x30 fun x31 s =>
 j13 x7 x8 x9 x11 x31 x10 x11 s)
(j13 x7 x8 x9 x11 (.i .u64 (.ofNat 0)) x10 x11 s))
(isoK packM [x7] s fun x32 s =>
 retK false s x32 some)) φ x3 x4 (.i .u64 (.ofNat 0)) x5 (.i .i64 (.ofNat 0)) s)) s0
end
end Go.Proofs.Ev
set_option linter.unusedVariables false
set_option linter.unusedSimpArgs false
namespace Go.Proofs.Ev
noncomputable section
variable {s : LS} {K : D → LS → Rs}
def Off (lo : Nat) (x : D) : Prop := ∀ l off len cm z ex, x = .sl l off len cm z ex → l ≠ lo
theorem Hold.off {x : D} {ws : List Nat} (h : Hold s x ws) {lo : Nat} (hlo : s.nx ≤ lo) : Off lo x := by
  intro l off len cm z ex e
  subst e
  cases h with
  | sl hg => have := get_in hg; omega
theorem Hold.put {x : D} {ws : List Nat} (h : Hold s x ws) {lo : Nat} (ho : Off lo x) {b b' : Blk} (hg : s.get lo = some b) : Hold (s.put lo b') x ws := by
  cases h with
  | nil => exact .nil
  | sl hg' => exact .sl (by rw [lsget_put hg, if_neg (ho _ _ _ _ _ _ rfl)]; exact hg')
theorem val_append : ∀ (a b : List Nat), val (a ++ b) = val a + B64 ^ a.length * val b
  | [], b => by show val b = 0 + 1 * val b; omega
  | w :: a, b => by
    show w + B64 * val (a ++ b) = w + B64 * val a + B64 ^ (a.length + 1) * val b
    rw [val_append a b, Nat.mul_add, Nat.pow_succ, Nat.mul_comm (B64 ^ a.length) B64, Nat.mul_assoc]; omega
theorem val_take : ∀ (ws : List Nat) (i : Nat), val (ws.take (i + 1)) = val (ws.take i) + ws.getD i 0 * B64 ^ i
  | [], i => by simp [val]
  | w :: ws, 0 => by
    show w + B64 * val [] = 0 + w * 1
    show w + B64 * 0 = 0 + w * 1
    omega
  | w :: ws, i + 1 => by
    show w + B64 * val (ws.take (i + 1)) = w + B64 * val (ws.take i) + ws.getD i 0 * B64 ^ (i + 1)
    rw [val_take ws i, Nat.mul_add, Nat.pow_succ, Nat.mul_comm B64 (ws.getD i 0 * B64 ^ i), Nat.mul_assoc]; omega
theorem kAdd64_n {a b c : Nat} (hc : c ≤ 1) : kAdd64 (n64 a) (n64 b) (n64 c) s K = K (.tup [n64 ((a + b + c) % B64), n64 ((a + b + c) / B64)]) s := by
  show cnd (Nat.ble c 1) (frc (Nat.mod (Nat.add (Nat.add a b) c) B64) fun lo => frc (Nat.div (Nat.add (Nat.add a b) c) B64) fun hi => K (.tup [.i .u64 (.ofNat lo), .i .u64 (.ofNat hi)]) s) none = _
  rw [Nat.ble_eq_true_of_le hc, cnd_true, frc_eq, frc_eq]; rfl
theorem kWrite {lo i n w k : Nat} {outs : List Nat} (hg : s.get lo = some ⟨c64 (outs ++ List.replicate (k + 1) 0), .rw⟩) (ho : outs.length = i) (hi : i < n) {k2 : IntKind} :
    (kIaddr 1 s (.sl lo 0 n n 1 true) (.i k2 (.ofNat i)) fun a s => kStore 1 s a (n64 w) K) = K .u (s.put lo ⟨c64 ((outs ++ [w]) ++ List.replicate k 0), .rw⟩) := by
  refine (kIaddr_sl hg rfl hi).trans ?_
  refine (kStore_ptr hg rfl ?_).trans ?_
  · rw [c64_len, List.length_append, List.length_replicate]; omega
  · rw [c64_set, show 0 + i * 1 = outs.length by omega, List.set_append_right _ _ (Nat.le_refl _), Nat.sub_self]
    rw [List.append_assoc]; rfl
def naF (φ : Nat) (q12 : D → D → D → D → D → D → LS → Rs) (x13 x14 x15 x16 x17 x18 : D) (s : LS) : Rs := (
 kLss x18 x17 fun x19 =>
 kCond x19
(jn (fun (x21 x22 x23 x24 x25 x26 x27 x28 : D) (s : LS) =>
 kIaddr 1 s x21 x25 fun x29 s =>
 kLoad1 s x29 fun x30 s =>
 kAdd64 x30 x26 x24 s fun x31 s =>
 kExt x31 0 s fun x32 s =>
 kExt x31 1 s fun x33 s =>
 kIaddr 1 s x23 x25 fun x34 s =>
 kStore 1 s x34 x32 fun _ s =>
 kAdd x28 (.i .i64 (.ofNat 1)) fun x35 =>
 q12 x21 x22 x23 x33 x27 x35 s) fun j20 =>
 kLen x14 s fun x36 s =>
 kLss x18 x36 fun x37 =>
 kCond x37
(kIaddr 1 s x14 x18 fun x38 s =>
 kLoad1 s x38 fun x39 s =>
 j20 x13 x14 x15 x16 x18 x39 x17 x18 s)
(j20 x13 x14 x15 x16 x18 (.i .u64 (.ofNat 0)) x17 x18 s))
(kLen x13 s fun x40 s =>
 kIaddr 1 s x15 x40 fun x41 s =>
 kStore 1 s x41 x16 fun _ s =>
 isoK packM [x15] s fun x42 s =>
 retK false s x42 some))
theorem na_loop {X Y : D} {xs ys : List Nat} {lo φ : Nat} (hx : Small xs) (hy : Small ys) (hl : ys.length ≤ xs.length) (hn : xs.length ≤ 900000000) (ox : Off lo X) (oy : Off lo Y) :
    ∀ (j i f c : Nat) (outs : List Nat) (s : LS), j + i = xs.length → j < f → Hold s X xs → Hold s Y ys → s.get lo = some ⟨c64 (outs ++ List.replicate (j + 1) 0), .rw⟩ → outs.length = i → Small outs → c ≤ 1 →
      val outs + c * B64 ^ i = val (xs.take i) + val (ys.take i) →
      lp (fun (_ _ _ _ _ _ : D) (_ : LS) => none) (naF φ) f X Y (.sl lo 0 (xs.length + 1) (xs.length + 1) 1 true) (n64 c) (.i .i64 (.ofNat xs.length)) (.i .i64 (.ofNat i)) s = some (.n (val xs + val ys))
  | 0, i, f + 1, c, outs, s, hj, hf, hX, hY, hg, ho, hs, hc, hv => by
    have hi : i = xs.length := by omega
    subst hi
    rw [lp_succ]; unfold naF
    rw [kLss_n, blt_false (Nat.lt_irrefl _), kCond_f, kLen_hold hX, kWrite hg ho (Nat.lt_succ_self _)]
    have hg' := lsget_put hg (⟨c64 ((outs ++ [c]) ++ List.replicate 0 0), .rw⟩ : Blk) lo
    rw [if_pos rfl] at hg'
    have hH : Hold (s.put lo ⟨c64 ((outs ++ [c]) ++ List.replicate 0 0), .rw⟩) (.sl lo 0 (xs.length + 1) (xs.length + 1) 1 true) (outs ++ [c]) := by
      have := Hold.sl (cm := xs.length + 1) (ex := true) (show (s.put lo ⟨c64 ((outs ++ [c]) ++ List.replicate 0 0), .rw⟩).get lo = some ⟨c64 (outs ++ [c]), .rw⟩ by rw [hg']; simp)
      rw [show (outs ++ [c]).length = xs.length + 1 by simp [ho]] at this
      exact this
    rw [iso_pack hH ?_ (by simp [ho]; omega)]
    · rw [val_append, ho]
      rw [List.take_length, List.take_of_length_le hl] at hv
      show some (D.n (val outs + B64 ^ xs.length * val [c])) = _
      rw [show val [c] = c from rfl, Nat.mul_comm, hv]
    · intro w hw
      rcases List.mem_append.1 hw with h | h
      · exact hs w h
      · rw [List.mem_singleton.1 h]
        exact Nat.lt_of_le_of_lt hc (by decide)
  | j + 1, i, f + 1, c, outs, s, hj, hf, hX, hY, hg, ho, hs, hc, hv => by
    have hi : i < xs.length := by omega
    have hxi : xs[i]? = some (xs.getD i 0) := by rw [List.getD_eq_getElem?_getD, List.getElem?_eq_getElem hi]; rfl
    have key : ∀ (b : Nat), b = ys.getD i 0 → (kIaddr 1 s X (.i .i64 (.ofNat i)) fun x29 s => kLoad1 s x29 fun x30 s => kAdd64 x30 (n64 b) (n64 c) s fun x31 s => kExt x31 0 s fun x32 s => kExt x31 1 s fun x33 s => kIaddr 1 s (.sl lo 0 (xs.length + 1) (xs.length + 1) 1 true) (.i .i64 (.ofNat i)) fun x34 s => kStore 1 s x34 x32 fun _ s => kAdd (.i .i64 (.ofNat i)) (.i .i64 (.ofNat 1)) fun x35 =>
        lp (fun (_ _ _ _ _ _ : D) (_ : LS) => none) (naF φ) f X Y (.sl lo 0 (xs.length + 1) (xs.length + 1) 1 true) x33 (.i .i64 (.ofNat xs.length)) x35 s) = some (.n (val xs + val ys)) := by
      intro b hb
      have hb' : b < B64 := by
        subst hb
        rw [List.getD_eq_getElem?_getD]
        cases h : ys[i]? with
        | none => decide
        | some w => exact hy w (List.mem_of_getElem? h)
      have ha' : xs.getD i 0 < B64 := hx _ (List.mem_of_getElem? hxi)
      refine (kRead_hold hX hxi).trans ?_
      refine (kAdd64_n hc).trans ?_
      show (kIaddr 1 s (.sl lo 0 (xs.length + 1) (xs.length + 1) 1 true) (.i .i64 (.ofNat i)) fun x34 s => kStore 1 s x34 (n64 ((xs.getD i 0 + b + c) % B64)) fun _ s => kAdd (.i .i64 (.ofNat i)) (.i .i64 (.ofNat 1)) fun x35 =>
        lp (fun (_ _ _ _ _ _ : D) (_ : LS) => none) (naF φ) f X Y (.sl lo 0 (xs.length + 1) (xs.length + 1) 1 true) (n64 ((xs.getD i 0 + b + c) / B64)) (.i .i64 (.ofNat xs.length)) x35 s) = _
      refine (kWrite hg ho (Nat.lt_succ_of_lt hi)).trans ?_
      refine (kAdd_n (show i + 1 ≤ kmax .i64 from (by show i + 1 ≤ 9223372036854775807; omega))).trans ?_
      refine na_loop hx hy hl hn ox oy j (i + 1) f _ (outs ++ [(xs.getD i 0 + b + c) % B64]) _ (by omega) (by omega) (hX.put ox hg) (hY.put oy hg) ?_ (by simp [ho]) ?_ ?_ ?_
      · rw [lsget_put hg, if_pos rfl]
      · intro w hw
        rcases List.mem_append.1 hw with h | h
        · exact hs w h
        · rw [List.mem_singleton.1 h]
          exact Nat.mod_lt _ (by decide)
      · have : xs.getD i 0 + b + c < B64 * 2 := by omega
        have := Nat.div_lt_of_lt_mul this
        omega
      · rw [val_append, val_take, val_take, ho, show val [(xs.getD i 0 + b + c) % B64] = (xs.getD i 0 + b + c) % B64 from rfl, ← hb]
        have e := Nat.mod_add_div (xs.getD i 0 + b + c) B64
        generalize xs.getD i 0 = a at *
        have e2 : B64 ^ i * ((a + b + c) % B64) + (a + b + c) / B64 * B64 ^ (i + 1) = (a + b + c) * B64 ^ i := by
          rw [Nat.pow_succ, Nat.mul_comm (B64 ^ i) ((a + b + c) % B64), Nat.mul_comm (B64 ^ i) B64, ← Nat.mul_assoc, ← Nat.add_mul, Nat.mul_comm ((a + b + c) / B64) B64, e]
        rw [Nat.add_mul, Nat.add_mul] at e2
        omega
    rw [lp_succ]; unfold naF
    rw [kLss_n, blt_true hi, kCond_t]
    show (kLen Y s fun x36 s => kLss (.i .i64 (.ofNat i)) x36 fun x37 => kCond x37 _ _) = _
    rw [kLen_hold hY, kLss_n]
    by_cases hyi : i < ys.length
    · have hyi' : ys[i]? = some (ys.getD i 0) := by rw [List.getD_eq_getElem?_getD, List.getElem?_eq_getElem hyi]; rfl
      rw [blt_true hyi, kCond_t]
      refine (kRead_hold hY hyi').trans ?_
      exact key _ rfl
    · rw [blt_false (by omega), kCond_f]
      exact key 0 (by rw [List.getD_eq_getElem?_getD, List.getElem?_eq_none (by omega)]; rfl)
def naJ (φ : Nat) (x6 x7 : D) (s : LS) : Rs := (
 kLen x6 s fun x8 s =>
 kAdd x8 (.i .i64 (.ofNat 1)) fun x9 =>
 kMksl 1 8 [(.i .u64 (.ofNat 0))] s x9 x9 fun x10 s =>
 kLen x6 s fun x11 s =>
 lp (fun (_ _ _ _ _ _ : D) (_ : LS) => none) (naF φ) φ x6 x7 x10 (.i .u64 (.ofNat 0)) x11 (.i .i64 (.ofNat 0)) s)
theorem na_join {X Y : D} {xs ys : List Nat} {φ : Nat} (hx : Small xs) (hy : Small ys) (hl : ys.length ≤ xs.length) (hn : xs.length ≤ 900000000) (hs : s.fit) (hX : Hold s X xs) (hY : Hold s Y ys) (hφ : xs.length < φ) :
    naJ φ X Y s = some (.n (val xs + val ys)) := by
  unfold naJ
  rw [kLen_hold hX]
  refine (kAdd_n (show xs.length + 1 ≤ kmax .i64 from (by show xs.length + 1 ≤ 9223372036854775807; omega))).trans ?_
  refine (kMksl_s (by omega) (by omega)).trans ?_
  have hm := More.push hs (⟨List.replicate (xs.length + 1) (.i .u64 (.ofNat 0)), .rw⟩ : Blk)
  refine (kLen_hold (hX.more hm)).trans ?_
  refine na_loop hx hy hl hn (hX.off (Nat.le_refl _)) (hY.off (Nat.le_refl _)) xs.length 0 φ 0 [] _ (by omega) hφ (hX.more hm) (hY.more hm) ?_ rfl (fun w hw => (by cases hw)) (Nat.zero_le _) ?_
  · rw [lsget_push hs, if_pos rfl, c64_rep]; rfl
  · simp [val]
theorem natAdd_run {x y φ : Nat} (hx : Nat.log2 x ≤ 1000000000) (hy : Nat.log2 y ≤ 1000000000) (h1 : Nat.log2 x / 64 + 1 < φ) (h2 : Nat.log2 y / 64 + 1 < φ) : R_exact_NatAdd φ [.n x, .n y] = some (.n (x + y)) := by
  obtain ⟨X, s1, xs, k1, hX, sx, vx, lx, m1, _⟩ := iso_words (s := s0) (m := x) rfl hx
  obtain ⟨Y, s2, ys, k2, hY, sy, vy, ly, m2, _⟩ := iso_words (s := s1) (m := y) (m1.len rfl) hy
  unfold R_exact_NatAdd
  refine (k1 _).trans ?_
  refine (k2 _).trans ?_
  have hX := hX.more m2
  have hs := m2.len (m1.len rfl)
  show (kLen X s2 fun x43 s => kLen Y s fun x44 s => kLss x43 x44 fun x45 => kCond x45 (naJ φ Y X s) (naJ φ X Y s)) = _
  rw [kLen_hold hX, kLen_hold hY, kLss_n]
  by_cases h : xs.length < ys.length
  · rw [blt_true h, kCond_t, na_join sy sx (by omega) (by omega) hs hY hX (by omega), vx, vy, Nat.add_comm]
  · rw [blt_false h, kCond_f, na_join sx sy (by omega) (by omega) hs hX hY (by omega), vx, vy]
def natAddM (as : List D) : Option D :=
  u1 as fun a r => u1 r fun b r => u0 r (onNum a fun x => onNum b fun y => cnd (Nat.ble (Nat.log2 x) 1000000000) (cnd (Nat.ble (Nat.log2 y) 1000000000) (frc (Nat.add x y) fun z => some (.n z)) none) none)
theorem natAddM_run {as : List D} {r : D} (h : natAddM as = some r) : ∃ φ, R_exact_NatAdd φ as = some r := by
  obtain ⟨a, r1, rfl, g1⟩ := u1_some h
  obtain ⟨b, r2, rfl, g2⟩ := u1_some g1
  obtain ⟨rfl, g3⟩ := u0_some g2
  obtain ⟨x, rfl, g4⟩ := onNum_some g3
  obtain ⟨y, rfl, g5⟩ := onNum_some g4
  obtain ⟨h1, g6⟩ := ob_cond g5
  obtain ⟨h2, h⟩ := ob_cond g6
  rw [frc_eq] at h
  exact ⟨Nat.log2 x / 64 + Nat.log2 y / 64 + 3, by rw [natAdd_run (Nat.le_of_ble_eq_true h1) (Nat.le_of_ble_eq_true h2) (by omega) (by omega)]; exact h⟩
end
end Go.Proofs.Ev
set_option linter.unusedVariables false
set_option linter.unusedSimpArgs false
namespace Go.Proofs.Ev
noncomputable section
variable {s : LS} {K : D → LS → Rs}
def Apart (x y : D) : Prop := ∀ l off len cm z ex, x = .sl l off len cm z ex → Off l y
theorem on64_n {a : Nat} {k : Nat → Rs} : on64 (.i .u64 (.ofNat a)) k = k a := rfl
theorem sub_aux (M a b c : Nat) : Nat.mod (Nat.sub (Nat.sub (Nat.add a M) b) c) M = (a + M - b - c) % M := rfl
theorem kSub64_n {a b c : Nat} (hc : c ≤ 1) : kSub64 (n64 a) (n64 b) (n64 c) s K = K (.tup [n64 ((a + B64 - b - c) % B64), n64 (if a < b + c then 1 else 0)]) s := by
  unfold kSub64 n64
  rw [on64_n, on64_n, on64_n, Nat.ble_eq_true_of_le hc, cnd_true, frc_eq, sub_aux, show (18446744073709551616 : Nat) = B64 from rfl]
  by_cases h : a < b + c
  · rw [show Nat.blt a (Nat.add b c) = true from blt_true h, if_pos h, cnd_true]
  · rw [show Nat.blt a (Nat.add b c) = false from blt_false h, if_neg h, cnd_false]
theorem kWriteH {X : D} {outs rest : List Nat} {v w i : Nat} {k2 : IntKind} (h : Hold s X (outs ++ v :: rest)) (ho : outs.length = i) :
    ∃ s', (∀ K, (kIaddr 1 s X (.i k2 (.ofNat i)) fun a s => kStore 1 s a (n64 w) K) = K .u s') ∧ Hold s' X ((outs ++ [w]) ++ rest) ∧ (∀ Y ys, Apart X Y → Hold s Y ys → Hold s' Y ys) ∧ (s.fit → s'.fit) := by
  generalize hz : outs ++ v :: rest = zs at h
  cases h with
  | nil => cases outs <;> cases hz
  | @sl l cm ex _ hg =>
    subst hz
    have hlen : (outs ++ v :: rest).length = ((outs ++ [w]) ++ rest).length := by simp
    refine ⟨s.put l ⟨c64 ((outs ++ [w]) ++ rest), .rw⟩, fun K => ?_, ?_, fun Y ys ha hY => hY.put (ha _ _ _ _ _ _ rfl) hg, fun hs => rfl⟩
    · refine (kIaddr_sl hg rfl (show i < (outs ++ v :: rest).length by simp; omega)).trans ?_
      refine (kStore_ptr hg rfl ?_).trans ?_
      · rw [c64_len]; simp; omega
      · rw [c64_set, show 0 + i * 1 = outs.length by omega, List.set_append_right _ _ (Nat.le_refl _), Nat.sub_self, List.append_assoc]; rfl
    · have := Hold.sl (cm := cm) (ex := ex) (show (s.put l ⟨c64 ((outs ++ [w]) ++ rest), .rw⟩).get l = some ⟨c64 ((outs ++ [w]) ++ rest), .rw⟩ by rw [lsget_put hg, if_pos rfl])
      rwa [← hlen] at this
def nsF (φ : Nat) (q6 : D → D → D → D → D → LS → Rs) (x7 x8 x9 x10 x11 : D) (s : LS) : Rs := (
 kLss x11 x10 fun x12 =>
 kCond x12
(jn (fun (x14 x15 x16 x17 x18 x19 x20 : D) (s : LS) =>
 kIaddr 1 s x14 x17 fun x21 s =>
 kLoad1 s x21 fun x22 s =>
 kSub64 x22 x18 x16 s fun x23 s =>
 kExt x23 0 s fun x24 s =>
 kExt x23 1 s fun x25 s =>
 kIaddr 1 s x14 x17 fun x26 s =>
 kStore 1 s x26 x24 fun _ s =>
 kAdd x20 (.i .i64 (.ofNat 1)) fun x27 =>
 q6 x14 x15 x25 x19 x27 s) fun j13 =>
 kLen x8 s fun x28 s =>
 kLss x11 x28 fun x29 =>
 kCond x29
(kIaddr 1 s x8 x11 fun x30 s =>
 kLoad1 s x30 fun x31 s =>
 j13 x7 x8 x9 x11 x31 x10 x11 s)
(j13 x7 x8 x9 x11 (.i .u64 (.ofNat 0)) x10 x11 s))
(isoK packM [x7] s fun x32 s =>
 retK false s x32 some))
theorem sub_dig (a b c : Nat) (ha : a < B64) (hb : b < B64) (hc : c ≤ 1) : (a + B64 - b - c) % B64 + b + c = a + (if a < b + c then 1 else 0) * B64 := by
  by_cases h : a < b + c
  · rw [if_pos h, Nat.mod_eq_of_lt (by omega)]; omega
  · rw [if_neg h, show a + B64 - b - c = (a - b - c) + B64 by omega, Nat.add_mod_right, Nat.mod_eq_of_lt (by omega)]; omega
theorem sub_step {a b c : Nat} (ha : a < B64) (hb : b < B64) (hc : c ≤ 1) : ∃ d c', (∀ (s : LS) (K : D → LS → Rs), kSub64 (n64 a) (n64 b) (n64 c) s K = K (.tup [n64 d, n64 c']) s) ∧ d < B64 ∧ c' ≤ 1 ∧ d + b + c = a + c' * B64 :=
  ⟨_, _, fun s K => kSub64_n hc, Nat.mod_lt _ (by decide), by split <;> omega, sub_dig a b c ha hb hc⟩
theorem val_one (w : Nat) : val [w] = w := rfl
theorem ns_loop {X Y : D} {xs ys : List Nat} {φ : Nat} (hx : Small xs) (hy : Small ys) (hle : val ys ≤ val xs) (hn : xs.length ≤ 900000000) (hxy : Apart X Y) :
    ∀ (j i f c : Nat) (outs : List Nat) (s : LS), j + i = xs.length → j < f → Hold s X (outs ++ xs.drop i) → Hold s Y ys → outs.length = i → Small outs → c ≤ 1 →
      val outs + val (ys.take i) = val (xs.take i) + c * B64 ^ i →
      lp (fun (_ _ _ _ _ : D) (_ : LS) => none) (nsF φ) f X Y (n64 c) (.i .i64 (.ofNat xs.length)) (.i .i64 (.ofNat i)) s = some (.n (val xs - val ys))
  | 0, i, f + 1, c, outs, s, hj, hf, hX, hY, ho, hs, hc, hv => by
    have hi : i = xs.length := by omega
    subst hi
    rw [lp_succ]; unfold nsF
    rw [List.drop_length, List.append_nil] at hX
    rw [kLss_n, blt_false (Nat.lt_irrefl _), kCond_f, iso_pack hX hs (by omega)]
    show some (D.n (val outs)) = _
    have h1 := val_lt hs
    have h2 := val_lt hx
    rw [ho] at h1
    have h3 : val ys = val (ys.take xs.length) := by
      have h4 := val_append (ys.take xs.length) (ys.drop xs.length)
      rw [List.take_append_drop] at h4
      by_cases h5 : ys.length ≤ xs.length
      · rw [List.take_of_length_le h5]
      · rw [List.length_take, Nat.min_eq_left (by omega)] at h4
        have : val (ys.drop xs.length) = 0 := by
          rcases Nat.eq_zero_or_pos (val (ys.drop xs.length)) with h | h
          · exact h
          · have := Nat.le_mul_of_pos_right (B64 ^ xs.length) h
            omega
        rw [this] at h4
        omega
    rw [List.take_length, ← h3] at hv
    have : c = 0 ∨ c = 1 := by omega
    rcases this with rfl | rfl
    · congr 2; omega
    · exfalso; omega
  | j + 1, i, f + 1, c, outs, s, hj, hf, hX, hY, ho, hs, hc, hv => by
    have hi : i < xs.length := by omega
    have hxi : xs[i]? = some (xs.getD i 0) := by rw [List.getD_eq_getElem?_getD, List.getElem?_eq_getElem hi]; rfl
    have hdr : xs.drop i = xs.getD i 0 :: xs.drop (i + 1) := by
      rw [List.drop_eq_getElem_cons hi, List.getD_eq_getElem?_getD, List.getElem?_eq_getElem hi]; rfl
    rw [hdr] at hX
    have ha' : xs.getD i 0 < B64 := hx _ (List.mem_of_getElem? hxi)
    have hXi : (outs ++ xs.getD i 0 :: xs.drop (i + 1))[i]? = some (xs.getD i 0) := by
      rw [List.getElem?_append_right (by omega), ho, Nat.sub_self]; rfl
    have key : ∀ (b : Nat), b = ys.getD i 0 → (kIaddr 1 s X (.i .i64 (.ofNat i)) fun x29 s => kLoad1 s x29 fun x30 s => kSub64 x30 (n64 b) (n64 c) s fun x31 s => kExt x31 0 s fun x32 s => kExt x31 1 s fun x33 s => kIaddr 1 s X (.i .i64 (.ofNat i)) fun x34 s => kStore 1 s x34 x32 fun _ s => kAdd (.i .i64 (.ofNat i)) (.i .i64 (.ofNat 1)) fun x35 =>
        lp (fun (_ _ _ _ _ : D) (_ : LS) => none) (nsF φ) f X Y x33 (.i .i64 (.ofNat xs.length)) x35 s) = some (.n (val xs - val ys)) := by
      intro b hb
      have hb' : b < B64 := by
        subst hb
        rw [List.getD_eq_getElem?_getD]
        cases h : ys[i]? with
        | none => decide
        | some w => exact hy w (List.mem_of_getElem? h)
      refine (kRead_hold hX hXi).trans ?_
      obtain ⟨d, c', k0, hd, hc', e⟩ := sub_step ha' hb' hc
      refine (k0 _ _).trans ?_
      obtain ⟨s', k1, k2, k3, _⟩ := kWriteH (w := d) (k2 := .i64) hX ho
      show (kIaddr 1 s X (.i .i64 (.ofNat i)) fun x34 s => kStore 1 s x34 (n64 d) fun _ s => kAdd (.i .i64 (.ofNat i)) (.i .i64 (.ofNat 1)) fun x35 =>
        lp (fun (_ _ _ _ _ : D) (_ : LS) => none) (nsF φ) f X Y (n64 c') (.i .i64 (.ofNat xs.length)) x35 s) = _
      refine (k1 _).trans ?_
      refine (kAdd_n (show i + 1 ≤ kmax .i64 from (by show i + 1 ≤ 9223372036854775807; omega))).trans ?_
      refine ns_loop hx hy hle hn hxy j (i + 1) f c' (outs ++ [d]) _ (by omega) (by omega) k2 (k3 _ _ hxy hY) (by simp [ho]) ?_ hc' ?_
      · intro w hw
        rcases List.mem_append.1 hw with h | h
        · exact hs w h
        · rw [List.mem_singleton.1 h]
          exact hd
      · rw [val_append, val_take, val_take, ho, val_one, ← hb]
        have e2 := congrArg (· * B64 ^ i) e
        simp only [Nat.add_mul] at e2
        rw [Nat.pow_succ, Nat.mul_comm (B64 ^ i) B64, ← Nat.mul_assoc, Nat.mul_comm (B64 ^ i) d]
        omega
    rw [lp_succ]; unfold nsF
    rw [kLss_n, blt_true hi, kCond_t]
    show (kLen Y s fun x36 s => kLss (.i .i64 (.ofNat i)) x36 fun x37 => kCond x37 _ _) = _
    rw [kLen_hold hY, kLss_n]
    by_cases hyi : i < ys.length
    · have hyi' : ys[i]? = some (ys.getD i 0) := by rw [List.getD_eq_getElem?_getD, List.getElem?_eq_getElem hyi]; rfl
      rw [blt_true hyi, kCond_t]
      refine (kRead_hold hY hyi').trans ?_
      exact key _ rfl
    · rw [blt_false (by omega), kCond_f]
      exact key 0 (by rw [List.getD_eq_getElem?_getD, List.getElem?_eq_none (by omega)]; rfl)
theorem natSub_run {x y φ : Nat} (hx : Nat.log2 x ≤ 1000000000) (hy : Nat.log2 y ≤ 1000000000) (h1 : Nat.log2 x / 64 + 1 < φ) (hle : y ≤ x) : R_exact_NatSub φ [.n x, .n y] = some (.n (x - y)) := by
  obtain ⟨X, s1, xs, k1, hX, sx, vx, lx, m1, f1⟩ := iso_words (s := s0) (m := x) rfl hx
  obtain ⟨Y, s2, ys, k2, hY, sy, vy, ly, m2, f2⟩ := iso_words (s := s1) (m := y) (m1.len rfl) hy
  unfold R_exact_NatSub
  refine (k1 _).trans ?_
  refine (k2 _).trans ?_
  have hX2 := hX.more m2
  refine (kLen_hold hX2).trans ?_
  have ha : Apart X Y := by
    intro l off len cm z ex e l' off' len' cm' z' ex' e'
    have g2 := f2 _ _ _ _ _ _ e'
    subst e
    cases hX with
    | sl hg => have := get_in hg; omega
  refine (ns_loop (φ := φ) sx sy (by omega) (by omega) ha xs.length 0 φ 0 [] s2 (by omega) (by omega) (by exact hX2) hY rfl (fun w hw => (by cases hw)) (Nat.zero_le _) (by simp [val])).trans ?_
  rw [vx, vy]
def natSubM (as : List D) : Option D :=
  u1 as fun a r => u1 r fun b r => u0 r (onNum a fun x => onNum b fun y => cnd (Nat.ble (Nat.log2 x) 1000000000) (cnd (Nat.ble y x) (frc (Nat.sub x y) fun z => some (.n z)) none) none)
theorem natSubM_run {as : List D} {r : D} (h : natSubM as = some r) : ∃ φ, R_exact_NatSub φ as = some r := by
  obtain ⟨a, r1, rfl, g1⟩ := u1_some h
  obtain ⟨b, r2, rfl, g2⟩ := u1_some g1
  obtain ⟨rfl, g3⟩ := u0_some g2
  obtain ⟨x, rfl, g4⟩ := onNum_some g3
  obtain ⟨y, rfl, g5⟩ := onNum_some g4
  obtain ⟨h1, g6⟩ := ob_cond g5
  obtain ⟨h2, h⟩ := ob_cond g6
  rw [frc_eq] at h
  have h1 := Nat.le_of_ble_eq_true h1
  have h2 := Nat.le_of_ble_eq_true h2
  have hy : Nat.log2 y ≤ 1000000000 := by
    by_cases hy0 : y = 0
    · subst hy0; exact Nat.zero_le _
    · have := (Nat.le_log2 (n := x) (k := Nat.log2 y) (by omega)).2 (Nat.le_trans (Nat.log2_self_le hy0) h2)
      omega
  exact ⟨Nat.log2 x / 64 + 3, by rw [natSub_run h1 hy (by omega) h2]; exact h⟩
end
end Go.Proofs.Ev
set_option linter.unusedVariables false
set_option linter.unusedSimpArgs false
namespace Go.Proofs.Ev
noncomputable section
variable {s : LS} {K : D → LS → Rs}
theorem kLen_tr {ws : List Nat} {ex : Bool} : kLen (.tree (c64 ws) ws.length ex) s K = K (.i .i64 (.ofNat ws.length)) s := rfl
theorem kRead_tr {ws : List Nat} {ex : Bool} {i w : Nat} {k2 : IntKind} (hi : ws[i]? = some w) : (kIaddr 1 s (.tree (c64 ws) ws.length ex) (.i k2 (.ofNat i)) fun a s => kLoad1 s a K) = K (n64 w) s := by
  have hlt : i < ws.length := (List.getElem?_eq_some_iff.1 hi).1
  show cnd (Nat.blt i ws.length) (dropK (Nat.mul i 1) (c64 ws) fun r => List.rec (motive := fun _ => Rs) none (fun _ _ _ => kLoad1 s (.fp r) K) r) none = _
  rw [blt_true hlt, cnd_true, dropK_eq, show Nat.mul i 1 = i from Nat.mul_one i, List.drop_eq_getElem_cons (by rw [c64_len]; exact hlt)]
  show K ((c64 ws)[i]'(by rw [c64_len]; exact hlt)) s = _
  have := c64_get hi
  rw [List.getElem?_eq_getElem (by rw [c64_len]; exact hlt)] at this
  rw [Option.some.inj this]; rfl
theorem ndiv (a b : Nat) : Nat.div a b = a / b := rfl
theorem nmod (a b : Nat) : Nat.mod a b = a % b := rfl
theorem nmul (a b : Nat) : Nat.mul a b = a * b := rfl
theorem iso_64 {M : List D → Option D} {x y : Nat} : isoK M [n64 x, n64 y] s K = ob (M [n64 x, n64 y]) fun r => finK s [] r K := rfl
theorem fin_2 {h l : Nat} : finK s [] (.tup [n64 h, n64 l]) K = K (.tup [n64 h, n64 l]) s := rfl
theorem mul64M_eq {x y : Nat} (hx : x < B64) (hy : y < B64) : ∃ h l, mul64M [n64 x, n64 y] = some (.tup [n64 h, n64 l]) ∧ h * B64 + l = x * y ∧ l < B64 := by
  refine ⟨x * y / B64, x * y % B64, ?_, ?_, Nat.mod_lt _ (by decide)⟩
  · unfold mul64M n64
    rw [u1_cons, u1_cons, u0_nil, on64_n, on64_n, blt_true hx, blt_true hy, cnd_true, cnd_true, frc_eq, frc_eq, frc_eq]
    rw [ndiv, nmod, nmul]
  · rw [Nat.mul_comm]; exact Nat.div_add_mod _ _
theorem mul64_iso {x y : Nat} (hx : x < B64) (hy : y < B64) : ∃ h l, (∀ (s : LS) (K : D → LS → Rs), isoK mul64M [n64 x, n64 y] s K = K (.tup [n64 h, n64 l]) s) ∧ h * B64 + l = x * y ∧ l < B64 := by
  obtain ⟨h, l, e, h1, h2⟩ := mul64M_eq hx hy
  exact ⟨h, l, fun s K => by rw [iso_64, e]; exact fin_2, h1, h2⟩
theorem mul_dig (M a b o c h l lo2 c1 lo3 c2 : Nat) (h1 : h * M + l = a * b) (h2 : c1 * M + lo2 = l + o) (h3 : c2 * M + lo3 = lo2 + c) :
    (h + c1 + c2) * M + lo3 = a * b + o + c := by
  rw [Nat.add_mul, Nat.add_mul]; omega
theorem val_set2 : ∀ {ws : List Nat} {j w : Nat} (v : Nat), ws[j]? = some w → val (ws.set j v) + w * B64 ^ j = val ws + v * B64 ^ j
  | [], j, w, v, h => by simp at h
  | x :: ws, 0, w, v, h => by
    simp only [List.getElem?_cons_zero, Option.some.injEq] at h
    subst h
    show v + B64 * val ws + x * B64 ^ 0 = x + B64 * val ws + v * B64 ^ 0
    rw [Nat.pow_zero]; omega
  | x :: ws, j + 1, w, v, h => by
    simp only [List.getElem?_cons_succ] at h
    have ih := val_set2 v h
    show x + B64 * val (ws.set j v) + w * B64 ^ (j + 1) = x + B64 * val ws + v * B64 ^ (j + 1)
    have e := congrArg (B64 * ·) ih
    simp only [Nat.mul_add] at e
    rw [Nat.pow_succ, Nat.mul_comm (B64 ^ j) B64, Nat.mul_left_comm w, Nat.mul_left_comm v]
    omega
def trF (k : D → LS → Rs) (q3 : D → D → LS → Rs) (x4 x5 : D) (s : LS) : Rs := (
 kGtr x5 (.i .i64 (.ofNat 0)) fun x6 =>
 kGuard x6 true (fun k => k x4 s) s fun x7 s =>
 kGuard x6 true (fun k => k x5 s) s fun x8 s =>
 kGuard x6 true (fun k => kSub x8 (.i .i64 (.ofNat 1)) fun d => k d s) s fun x9 s =>
 kGuard x6 true (fun k => kIaddr 1 s x7 x9 k) s fun x10 s =>
 kGuard x6 true (fun k => kLoad1 s x10 k) s fun x11 s =>
 kGuard x6 true (fun k => kEql x11 (.i .u64 (.ofNat 0)) fun d => k d s) s fun x12 s =>
 kPick x6 x12 (.b false) s fun x13 s =>
 kCond x13
(kSub x5 (.i .i64 (.ofNat 1)) fun x14 =>
 q3 x4 x14 s)
(kSlice 1 s x4 none (some x5) none fun x15 s =>
 k x15 s))
theorem trimb_loop {ws : List Nat} {len : Nat} {k : D → LS → Rs} (h0 : 0 < len) (hlen : len ≤ 9223372036854775807) (hw : ws.length = len) : ∀ (h f : Nat), h ≤ len → h < f →
    ∃ m, m ≤ h ∧ val (ws.take m) = val (ws.take h) ∧ lp (fun (_ _ : D) (_ : LS) => none) (trF k) f (.sl 0 0 len len 1 true) (.i .i64 (.ofNat h)) (st1 (c64 ws)) = k (.sl 0 0 m len 1 true) (st1 (c64 ws))
  | 0, f + 1, hh, hf => by
    refine ⟨0, Nat.le_refl _, rfl, ?_⟩
    rw [lp_succ]; unfold trF
    simp only [kGtr_n, blt_false (Nat.lt_irrefl 0), kGuard_f, kPick_f, kCond_f, kSlice_st1 h0 (Nat.zero_le len)]
  | h + 1, f + 1, hh, hf => by
    have hi : h < ws.length := by omega
    have hwi : ws[h]? = some ws[h] := List.getElem?_eq_getElem hi
    have hm : h + 1 ≤ kmax .i64 := Nat.le_trans hh hlen
    rw [lp_succ]; unfold trF
    by_cases hz : ws[h] = 0
    · obtain ⟨m, h1, h2, h3⟩ := trimb_loop (k := k) h0 hlen hw h f (by omega) (by omega)
      refine ⟨m, by omega, ?_, ?_⟩
      · rw [h2, val_take, List.getD_eq_getElem?_getD, hwi]
        show _ = _ + ws[h] * _
        rw [hz, Nat.zero_mul]; rfl
      · simp only [kGtr_n, blt_true (Nat.succ_pos h), kGuard_t, kSub_n (show 1 ≤ h + 1 by omega) hm, Nat.add_sub_cancel, kIaddr_st1 (show h < len by omega), Nat.zero_add, kLoad1_st1 (c64_get hwi), kEql_n, hz, beq_self, kPick_t, kCond_t]
        exact h3
    · refine ⟨h + 1, Nat.le_refl _, rfl, ?_⟩
      simp only [kGtr_n, blt_true (Nat.succ_pos h), kGuard_t, kSub_n (show 1 ≤ h + 1 by omega) hm, Nat.add_sub_cancel, kIaddr_st1 (show h < len by omega), Nat.zero_add, kLoad1_st1 (c64_get hwi), kEql_n, beq_ne hz, kPick_t, kCond_f, kSlice_st1 h0 hh]
end
end Go.Proofs.Ev
set_option linter.unusedVariables false
set_option linter.unusedSimpArgs false
namespace Go.Proofs.Ev
noncomputable section
def muF (φ : Nat) (q8 : D → D → D → D → D → LS → Rs) (q18 : D → D → D → D → D → D → D → D → D → D → D → LS → Rs) (x19 x20 x21 x22 x23 x24 x25 x26 x27 x28 x29 : D) (s : LS) : Rs := (
 kLss x29 x28 fun x30 =>
 kCond x30
(kIaddr 1 s x27 x29 fun x31 s =>
 kLoad1 s x31 fun x32 s =>
 isoK mul64M [x22, x32] s fun x33 s =>
 kExt x33 0 s fun x34 s =>
 kExt x33 1 s fun x35 s =>
 kAdd x21 x29 fun x36 =>
 kIaddr 1 s x20 x36 fun x37 s =>
 kLoad1 s x37 fun x38 s =>
 kAdd64 x35 x38 (.i .u64 (.ofNat 0)) s fun x39 s =>
 kExt x39 0 s fun x40 s =>
 kExt x39 1 s fun x41 s =>
 kAdd x34 x41 fun x42 =>
 kAdd64 x40 x23 (.i .u64 (.ofNat 0)) s fun x43 s =>
 kExt x43 0 s fun x44 s =>
 kExt x43 1 s fun x45 s =>
 kAdd x21 x29 fun x46 =>
 kAdd x42 x45 fun x47 =>
 kIaddr 1 s x20 x46 fun x48 s =>
 kStore 1 s x48 x44 fun _ s =>
 kAdd x29 (.i .i64 (.ofNat 1)) fun x49 =>
 q18 x19 x20 x21 x22 x47 x24 x25 x26 x27 x28 x49 s)
(kLen x19 s fun x50 s =>
 kAdd x21 x50 fun x51 =>
 kIaddr 1 s x20 x51 fun x52 s =>
 kStore 1 s x52 x23 fun _ s =>
 kAdd x26 (.i .i64 (.ofNat 1)) fun x53 =>
 q8 x19 x20 x24 x25 x53 s))
theorem add64_ex {a b c : Nat} (ha : a < B64) (hb : b < B64) (hc : c ≤ 1) : ∃ d c', (∀ (s : LS) (K : D → LS → Rs), kAdd64 (n64 a) (n64 b) (n64 c) s K = K (.tup [n64 d, n64 c']) s) ∧ d < B64 ∧ c' ≤ 1 ∧ c' * B64 + d = a + b + c := by
  refine ⟨_, _, fun s K => kAdd64_n hc, Nat.mod_lt _ (by decide), ?_, ?_⟩
  · have : a + b + c < B64 * 2 := by omega
    have := Nat.div_lt_of_lt_mul this
    omega
  · rw [Nat.mul_comm]; exact Nat.div_add_mod _ _
theorem mu_alg (P B vz vz1 z lo c c' a y : Nat) (h1 : vz1 + z * P = vz + lo * P) (h2 : c' * B + lo = a * y + z + c) : vz1 + c' * (P * B) = vz + a * y * P + c * P := by
  have e := congrArg (· * P) h2
  simp only [Nat.add_mul] at e
  rw [show c' * (P * B) = c' * B * P by rw [Nat.mul_comm P B, Nat.mul_assoc]]
  omega
theorem carry_lt (M a b o c H lo : Nat) (ha : a < M) (hb : b < M) (ho : o < M) (hc : c < M) (h : H * M + lo = a * b + o + c) : H < M := by
  have h1 : a * b ≤ (M - 1) * (M - 1) := Nat.mul_le_mul (by omega) (by omega)
  obtain ⟨m, rfl⟩ : ∃ m, M = m + 1 := ⟨M - 1, by omega⟩
  rw [Nat.add_sub_cancel] at h1
  have h2 : H * (m + 1) < (m + 1) * (m + 1) := by
    rw [Nat.add_mul m 1 (m + 1), Nat.mul_add m m 1]; omega
  exact Nat.lt_of_mul_lt_mul_right h2
theorem mu_loop {ys : List Nat} {a i N φ : Nat} {ex : Bool} {q8 : D → D → D → D → D → LS → Rs} {X24 X25 : D} (ha : a < B64) (hy : Small ys) (hN : N ≤ 1000000000) (hiN : i + ys.length < N) :
    ∀ (j' j f c : Nat) (zs : List Nat), j' + j = ys.length → j' < f → zs.length = N → Small zs → c < B64 →
    ∃ zs' : List Nat, zs'.length = N ∧ Small zs' ∧ val zs' + zs.getD (i + ys.length) 0 * B64 ^ (i + ys.length) + a * val (ys.take j) * B64 ^ i = val zs + c * B64 ^ (i + j) + a * val ys * B64 ^ i ∧
      lp (fun (_ _ _ _ _ _ _ _ _ _ _ : D) (_ : LS) => none) (muF φ q8) f (.tree (c64 ys) ys.length ex) (.sl 0 0 N N 1 true) (.i .i64 (.ofNat i)) (n64 a) (n64 c) X24 X25 (.i .i64 (.ofNat i)) (.tree (c64 ys) ys.length ex) (.i .i64 (.ofNat ys.length)) (.i .i64 (.ofNat j)) (st1 (c64 zs))
        = q8 (.tree (c64 ys) ys.length ex) (.sl 0 0 N N 1 true) X24 X25 (.i .i64 (.ofNat (i + 1))) (st1 (c64 zs'))
  | 0, j, f + 1, c, zs, hj, hf, hl, hs, hc => by
    have hj : j = ys.length := by omega
    subst hj
    have hzi : zs[i + ys.length]? = some (zs.getD (i + ys.length) 0) := by rw [List.getD_eq_getElem?_getD, List.getElem?_eq_getElem (by omega)]; rfl
    refine ⟨zs.set (i + ys.length) c, by simp [hl], small_set hs hc, ?_, ?_⟩
    · rw [val_set2 c hzi, List.take_length]
    · rw [lp_succ]; unfold muF
      rw [kLss_n, blt_false (Nat.lt_irrefl _), kCond_f]
      refine (kLen_tr).trans ?_
      refine (kAdd_n (show i + ys.length ≤ kmax .i64 from (by show i + ys.length ≤ 9223372036854775807; omega))).trans ?_
      refine (kIaddr_st1 hiN).trans ?_
      rw [Nat.zero_add]
      refine (kStore_st1 (by rw [c64_len]; omega)).trans ?_
      refine (kAdd_n (show i + 1 ≤ kmax .i64 from (by show i + 1 ≤ 9223372036854775807; omega))).trans ?_
      rw [c64_set]
  | j' + 1, j, f + 1, c, zs, hj, hf, hl, hs, hc => by
    have hjl : j < ys.length := by omega
    have hyj : ys[j]? = some (ys.getD j 0) := by rw [List.getD_eq_getElem?_getD, List.getElem?_eq_getElem hjl]; rfl
    have hzj : zs[i + j]? = some (zs.getD (i + j) 0) := by rw [List.getD_eq_getElem?_getD, List.getElem?_eq_getElem (by omega)]; rfl
    have hb := hy _ (List.mem_of_getElem? hyj)
    have ho := hs _ (List.mem_of_getElem? hzj)
    obtain ⟨h, l, k1, e1, hl1⟩ := mul64_iso ha hb
    obtain ⟨lo2, c1, k2, hlo2, hc1, e2⟩ := add64_ex hl1 ho (Nat.zero_le 1)
    obtain ⟨lo3, c2, k3, hlo3, hc2, e3⟩ := add64_ex hlo2 hc (Nat.zero_le 1)
    have hd := mul_dig B64 a (ys.getD j 0) (zs.getD (i + j) 0) c h l lo2 c1 lo3 c2 e1 (e2.trans (Nat.add_zero _)) (e3.trans (Nat.add_zero _))
    have hC := carry_lt B64 _ _ _ _ _ _ ha hb ho hc hd
    obtain ⟨zs', h1, h2, h3, h4⟩ := mu_loop (φ := φ) (ex := ex) (q8 := q8) (X24 := X24) (X25 := X25) ha hy hN hiN j' (j + 1) f (h + c1 + c2) (zs.set (i + j) lo3) (by omega) (by omega) (by simp [hl]) (small_set hs hlo3) hC
    refine ⟨zs', h1, h2, ?_, ?_⟩
    · have e4 := val_set2 lo3 hzj
      have e5 := mu_alg (B64 ^ (i + j)) B64 _ _ _ _ _ _ _ _ e4 hd
      rw [val_take, Nat.mul_add, Nat.add_mul, show i + (j + 1) = (i + j) + 1 from rfl, Nat.pow_succ] at h3
      have e6 : a * (ys.getD j 0 * B64 ^ j) * B64 ^ i = a * ys.getD j 0 * B64 ^ (i + j) := by
        rw [Nat.pow_add, Nat.mul_comm (B64 ^ i), ← Nat.mul_assoc, ← Nat.mul_assoc]
      have e7 : (zs.set (i + j) lo3).getD (i + ys.length) 0 = zs.getD (i + ys.length) 0 := by
        rw [List.getD_eq_getElem?_getD, List.getD_eq_getElem?_getD, List.getElem?_set_ne (by omega)]
      rw [e6, e7] at h3
      generalize B64 ^ (i + ys.length) = P1 at *
      generalize (h + c1 + c2) * (B64 ^ (i + j) * B64) = P2 at *
      generalize a * ys.getD j 0 * B64 ^ (i + j) = P3 at *
      generalize a * val (List.take j ys) * B64 ^ i = P4 at *
      generalize c * B64 ^ (i + j) = P5 at *
      generalize a * val ys * B64 ^ i = P6 at *
      generalize zs.getD (i + ys.length) 0 * P1 = P7 at *
      clear hd hC e1 e2 e3 e4 k1 k2 k3 h4
      omega
    · rw [← h4, lp_succ]; conv => lhs; unfold muF
      rw [kLss_n, blt_true hjl, kCond_t]
      refine (kRead_tr hyj).trans ?_
      refine (k1 _ _).trans ?_
      refine (kAdd_n (show i + j ≤ kmax .i64 from (by show i + j ≤ 9223372036854775807; omega))).trans ?_
      refine (kIaddr_st1 (show i + j < N by omega)).trans ?_
      rw [Nat.zero_add]
      refine (kLoad1_st1 (c64_get hzj)).trans ?_
      refine (k2 _ _).trans ?_
      refine (kAdd_n (show h + c1 ≤ kmax .u64 from Nat.le_of_lt_succ (Nat.lt_of_le_of_lt (Nat.le_add_right _ c2) hC))).trans ?_
      refine (k3 _ _).trans ?_
      refine (kAdd_n (show i + j ≤ kmax .i64 from (by show i + j ≤ 9223372036854775807; omega))).trans ?_
      refine (kAdd_n (show h + c1 + c2 ≤ kmax .u64 from Nat.le_of_lt_succ hC)).trans ?_
      refine (kIaddr_st1 (show i + j < N by omega)).trans ?_
      rw [Nat.zero_add]
      refine (kStore_st1 (by rw [c64_len]; omega)).trans ?_
      refine (kAdd_n (show j + 1 ≤ kmax .i64 from (by show j + 1 ≤ 9223372036854775807; omega))).trans ?_
      rw [c64_set]; rfl
end
end Go.Proofs.Ev
set_option linter.unusedVariables false
set_option linter.unusedSimpArgs false
namespace Go.Proofs.Ev
noncomputable section
def moF (φ : Nat) (q8 : D → D → D → D → D → LS → Rs) (x9 x10 x11 x12 x13 : D) (s : LS) : Rs := (
 kLss x13 x12 fun x14 =>
 kCond x14
(kIaddr 1 s x11 x13 fun x15 s =>
 kLoad1 s x15 fun x16 s =>
 kLen x9 s fun x17 s =>
 lp (fun (_ _ _ _ _ _ _ _ _ _ _ : D) (_ : LS) => none) (muF φ q8) φ x9 x10 x13 x16 (.i .u64 (.ofNat 0)) x11 x12 x13 x9 x17 (.i .i64 (.ofNat 0)) s)
((R_exact_trim φ) [x10] s fun x54 s =>
 retK false s x54 some))
theorem mo_loop {xs ys : List Nat} {N φ : Nat} {ex ex' : Bool} (hx : Small xs) (hy : Small ys) (hN : N ≤ 1000000000) (hNe : N = xs.length + ys.length) (hφ : ys.length < φ) :
    ∀ (k i f : Nat) (zs : List Nat), k + i = xs.length → k < f → zs.length = N → Small zs → val zs = val (xs.take i) * val ys →
    ∃ zs' : List Nat, zs'.length = N ∧ Small zs' ∧ val zs' = val xs * val ys ∧
      lp (fun (_ _ _ _ _ : D) (_ : LS) => none) (moF φ) f (.tree (c64 ys) ys.length ex) (.sl 0 0 N N 1 true) (.tree (c64 xs) xs.length ex') (.i .i64 (.ofNat xs.length)) (.i .i64 (.ofNat i)) (st1 (c64 zs))
        = R_exact_trim φ [.sl 0 0 N N 1 true] (st1 (c64 zs')) fun x54 s => retK false s x54 some
  | 0, i, f + 1, zs, hi, hf, hl, hs, hv => by
    have hi : i = xs.length := by omega
    subst hi
    refine ⟨zs, hl, hs, by rw [hv, List.take_length], ?_⟩
    rw [lp_succ]; unfold moF
    rw [kLss_n, blt_false (Nat.lt_irrefl _), kCond_f]
  | k + 1, i, f + 1, zs, hi, hf, hl, hs, hv => by
    have hix : i < xs.length := by omega
    have hxi : xs[i]? = some (xs.getD i 0) := by rw [List.getD_eq_getElem?_getD, List.getElem?_eq_getElem hix]; rfl
    obtain ⟨zs1, h1, h2, h3, h4⟩ := mu_loop (φ := φ) (ex := ex) (q8 := lp (fun (_ _ _ _ _ : D) (_ : LS) => none) (moF φ) f) (X24 := .tree (c64 xs) xs.length ex') (X25 := .i .i64 (.ofNat xs.length)) (i := i) (hx _ (List.mem_of_getElem? hxi)) hy hN (by omega) ys.length 0 φ 0 zs (by omega) hφ hl hs (by decide)
    have htop : zs.getD (i + ys.length) 0 = 0 := by
      have hz : zs[i + ys.length]? = some (zs.getD (i + ys.length) 0) := by rw [List.getD_eq_getElem?_getD, List.getElem?_eq_getElem (by omega)]; rfl
      have hlt : val zs < B64 ^ (i + ys.length) := by
        rw [hv, Nat.pow_add]
        have g1 := val_lt (ws := xs.take i) fun w hw => hx w (List.mem_of_mem_take hw)
        rw [List.length_take, Nat.min_eq_left (by omega)] at g1
        exact Nat.mul_lt_mul_of_lt_of_le g1 (Nat.le_of_lt (val_lt hy)) (Nat.pow_pos (by decide))
      rw [val_get hs hz, Nat.div_eq_of_lt hlt, Nat.zero_mod]
    rw [htop] at h3
    obtain ⟨zs2, g1, g2, g3, g4⟩ := mo_loop hx hy hN hNe hφ k (i + 1) f zs1 (by omega) (by omega) h1 h2 (by
      rw [val_take, Nat.add_mul]
      rw [Nat.zero_mul, Nat.zero_mul, List.take_zero, show val [] = 0 from rfl, Nat.mul_zero, Nat.zero_mul] at h3
      rw [show xs.getD i 0 * B64 ^ i * val ys = xs.getD i 0 * val ys * B64 ^ i by rw [Nat.mul_assoc, Nat.mul_comm (B64 ^ i), ← Nat.mul_assoc], ← hv]
      omega)
    refine ⟨zs2, g1, g2, g3, ?_⟩
    rw [← g4, ← h4, lp_succ]; conv => lhs; unfold moF
    rw [kLss_n, blt_true hix, kCond_t]
    refine (kRead_tr hxi).trans ?_
    rfl
end
end Go.Proofs.Ev
set_option linter.unusedVariables false
set_option linter.unusedSimpArgs false
namespace Go.Proofs.Ev
theorem natOf_lt (l : List UInt8) : natOfBytes l 0 < 256 ^ l.length := by
  induction l with
  | nil => exact Nat.one_pos
  | cons a x ih =>
    show natOfBytes x (0 * 256 + a.toNat) < 256 ^ (x.length + 1)
    rw [natOfBytes_acc, Nat.zero_mul, Nat.zero_add, Nat.pow_succ]
    have ha : a.toNat + 1 ≤ 256 := a.toNat_lt
    have h2 : (a.toNat + 1) * 256 ^ x.length ≤ 256 * 256 ^ x.length := Nat.mul_le_mul_right _ ha
    rw [Nat.add_mul, Nat.one_mul] at h2
    rw [Nat.mul_comm (256 ^ x.length) 256]
    omega
theorem blt_eq {a b c d : Nat} (h : a < b ↔ c < d) : Nat.blt a b = Nat.blt c d := by
  by_cases h1 : a < b
  · rw [blt_true h1, blt_true (h.1 h1)]
  · rw [blt_false h1, blt_false fun h2 => h1 (h.2 h2)]
theorem less_num : ∀ {x y : List UInt8}, x.length = y.length → Op.bytesLess x y = Nat.blt (natOfBytes x 0) (natOfBytes y 0)
  | [], [], _ => rfl
  | a :: x, b :: y, h => by
    have hl : x.length = y.length := Nat.succ.inj h
    have ih := less_num hl
    show (decide (a < b) || (a == b && Op.bytesLess x y)) = Nat.blt (natOfBytes x (0 * 256 + a.toNat)) (natOfBytes y (0 * 256 + b.toNat))
    rw [natOfBytes_acc x, natOfBytes_acc y, ih, Nat.zero_mul, Nat.zero_add, Nat.zero_add, ← hl]
    have hx := natOf_lt x
    have hy := natOf_lt y
    rw [← hl] at hy
    generalize 256 ^ x.length = P at *
    generalize natOfBytes x 0 = vx at *
    generalize natOfBytes y 0 = vy at *
    rcases Nat.lt_trichotomy a.toNat b.toNat with h1 | h1 | h1
    · have h2 : a < b := UInt8.lt_iff_toNat_lt.2 h1
      rw [decide_eq_true h2, Bool.true_or]
      have h3 : (a.toNat + 1) * P ≤ b.toNat * P := Nat.mul_le_mul_right _ h1
      rw [Nat.add_mul, Nat.one_mul] at h3
      rw [blt_true (by omega)]
    · have h2 : a = b := UInt8.toNat_inj.1 h1
      subst h2
      have h3 : ¬ a < a := UInt8.lt_irrefl a
      rw [decide_eq_false h3, Bool.false_or, beq_self_eq_true, Bool.true_and]
      exact blt_eq (by omega)
    · have h2 : ¬ a < b := fun h => by have := UInt8.lt_iff_toNat_lt.1 h; omega
      have h4 : (a == b) = false := by
        apply beq_eq_false_iff_ne.2
        intro e; subst e; omega
      rw [decide_eq_false h2, Bool.false_or, h4, Bool.false_and]
      have h3 : (b.toNat + 1) * P ≤ a.toNat * P := Nat.mul_le_mul_right _ h1
      rw [Nat.add_mul, Nat.one_mul] at h3
      rw [blt_false (by omega)]
theorem len_lt {a b : Nat} (h : (natBytes a).length < (natBytes b).length) : a < b := by
  have h1 := natOf_lt (natBytes a)
  rw [natOf_natBytes] at h1
  have hb : 0 < b := by
    rcases Nat.eq_zero_or_pos b with h0 | h0
    · subst h0; rw [natBytes_zero] at h; exact absurd h (Nat.not_lt_zero _)
    · exact h0
  obtain ⟨h2, h3⟩ := natBytes_le hb
  have h4 : 256 ^ (natBytes a).length ≤ 256 ^ ((natBytes b).length - 1) := Nat.pow_le_pow_right (by decide) (by omega)
  omega
theorem num_less {a b : Nat} (h : (natBytes a).length = (natBytes b).length) : Op.bytesLess (natBytes a) (natBytes b) = Nat.blt a b := by
  rw [less_num h, natOf_natBytes, natOf_natBytes]

theorem dv_exit {L a b U u q r y : Nat} (hy : y = a * L + b) (y0 : 0 < y) (hU : q * a + r = U) (hle : (U * L + u) / y ≤ q) (hq : q * b ≤ L * r + u) : (U * L + u) / y = q := by
  refine Nat.le_antisymm hle ?_
  rw [Nat.le_div_iff_mul_le y0, hy, ← hU, Nat.mul_add, Nat.add_mul, ← Nat.mul_assoc, Nat.mul_comm r L]
  omega
theorem dv_step {L a b U u q r y : Nat} (hy : y = a * L + b) (y0 : 0 < y) (hU : q * a + r = U) (hUy : U < y) (hu : u < L) (h : L ≤ q ∨ L * r + u < q * b) : (U * L + u) / y < q := by
  rcases h with h | h
  · refine Nat.lt_of_lt_of_le ?_ h
    rw [Nat.div_lt_iff_lt_mul y0]
    have h1 : (U + 1) * L ≤ y * L := Nat.mul_le_mul_right _ hUy
    rw [Nat.add_mul, Nat.one_mul] at h1
    rw [Nat.mul_comm L y]; omega
  · rw [Nat.div_lt_iff_lt_mul y0, hy, ← hU, Nat.mul_add, Nat.add_mul, ← Nat.mul_assoc, Nat.mul_comm r L]
    omega
theorem dv_next {a q r U : Nat} (hU : q * a + r = U) (hq : 1 ≤ q) : (q - 1) * a + (r + a) = U := by
  obtain ⟨p, rfl⟩ : ∃ p, q = p + 1 := ⟨q - 1, by omega⟩
  rw [Nat.add_mul, Nat.one_mul] at hU
  rw [Nat.add_sub_cancel]; omega
theorem dv_big {L b q r u : Nat} (hb : b < L) (hq : q ≤ L) (hr : L ≤ r) : q * b ≤ L * r + u := by
  have h1 : q * b ≤ L * L := Nat.mul_le_mul hq (Nat.le_of_lt hb)
  have h2 : L * L ≤ L * r := Nat.mul_le_mul_left _ hr
  omega
theorem dv_first {L a b U y : Nat} (hy : y = a * L + b) (hb : b < L) (ha : L ≤ 2 * a) (hUy : U < y) : U / a ≤ L + 1 := by
  have a0 : 0 < a := by
    rcases Nat.eq_zero_or_pos a with h | h
    · subst h; omega
    · exact h
  have : U < (L + 2) * a := by
    rw [Nat.add_mul, Nat.mul_comm L a]; omega
  have := (Nat.div_lt_iff_lt_mul a0).2 this
  omega
theorem dv_le {L a b U u y : Nat} (hy : y = a * L + b) (a0 : 0 < a) (hu : u < L) : (U * L + u) / y ≤ U / a := by
  have y0 : 0 < y := by
    have : 0 < a * L := Nat.mul_pos a0 (by omega)
    omega
  have h1 : (U * L + u) / y < U / a + 1 := by
    rw [Nat.div_lt_iff_lt_mul y0]
    have h2 := Nat.div_add_mod U a
    have h3 := Nat.mod_lt U a0
    have h4 : U + 1 ≤ (U / a + 1) * a := by rw [Nat.add_mul, Nat.one_mul, Nat.mul_comm]; omega
    have h5 : (U + 1) * L ≤ (U / a + 1) * a * L := Nat.mul_le_mul_right _ h4
    rw [Nat.add_mul, Nat.one_mul] at h5
    rw [hy, Nat.mul_add, ← Nat.mul_assoc]
    omega
  omega
theorem dv_two {L hi u1 u0 y : Nat} (y0 : 0 < y) : ((hi * L + u1) / y) * L + (((hi * L + u1) % y) * L + u0) / y = (hi * (L * L) + u1 * L + u0) / y ∧ (((hi * L + u1) % y) * L + u0) % y = (hi * (L * L) + u1 * L + u0) % y := by
  have e := Nat.div_add_mod (hi * L + u1) y
  have e2 : hi * (L * L) + u1 * L + u0 = ((hi * L + u1) % y) * L + u0 + y * (((hi * L + u1) / y) * L) := by
    have := congrArg (· * L) e
    simp only [Nat.add_mul] at this
    rw [← Nat.mul_assoc, ← Nat.mul_assoc]
    omega
  constructor
  · rw [e2, Nat.add_mul_div_left _ _ y0, Nat.add_comm]
  · rw [e2, Nat.add_mul_mod_self_left]
end Go.Proofs.Ev
set_option linter.unusedVariables false
set_option linter.unusedSimpArgs false
namespace Go.Proofs.Ev
noncomputable section
variable {s : LS} {K : D → LS → Rs}
inductive HT (s : LS) : D → List Nat → Prop
  | tr {ws : List Nat} {ex : Bool} : HT s (.tree (c64 ws) ws.length ex) ws
  | sl {l cm : Nat} {ex : Bool} {ws : List Nat} {b : Blk} (hg : s.get l = some b) (hc : b.cs = c64 ws) (hl : b.st.live = true) : HT s (.sl l 0 ws.length cm 1 ex) ws
theorem Hold.ht {x : D} {ws : List Nat} (h : Hold s x ws) : HT s x ws := by
  cases h with
  | nil => exact HT.tr (ws := [])
  | sl hg => exact .sl hg rfl rfl
theorem kLen_ht {x : D} {ws : List Nat} (h : HT s x ws) : kLen x s K = K (.i .i64 (.ofNat ws.length)) s := by
  cases h <;> rfl
theorem res_ht {x : D} {ws : List Nat} {n : Nat} (h : HT s x ws) : ∃ ex ls, (∀ kk, resK s (n + 2) x kk = kk (.tree (c64 ws) ws.length ex) ls) ∧ ∀ l, l ∈ ls → ∃ b, s.get l = some b := by
  cases h with
  | @tr ws ex => exact ⟨ex, [], fun kk => rfl, fun l h => by cases h⟩
  | @sl l cm ex ws b hg hc hl =>
    refine ⟨cnd ex (Nat.beq cm ws.length) false, [l], fun kk => ?_, fun l' h => ⟨b, by rw [List.mem_singleton.1 h]; exact hg⟩⟩
    show (kGet s l fun b => cnd (lv b.st) (dropK 0 b.cs fun r => takeK (Nat.mul ws.length 1) r fun r => mapK (resK s (n + 1)) r fun cs ls => frcB (cnd ex (Nat.beq cm ws.length) false) fun ex => kk (.tree cs ws.length ex) (l :: ls)) none) = _
    rw [kGet_eq, hg]
    show cnd (lv b.st) (dropK 0 b.cs fun r => takeK (Nat.mul ws.length 1) r fun r => mapK (resK s (n + 1)) r fun cs ls => frcB (cnd ex (Nat.beq cm ws.length) false) fun ex => kk (.tree cs ws.length ex) (l :: ls)) none = _
    have hlen : (c64 ws).length = ws.length := by simp [c64]
    rw [lv_eq, hl, cnd_true, hc, dropK_eq, takeK_eq, show Nat.mul ws.length 1 = ws.length from Nat.mul_one _, List.drop_zero, if_pos (by omega), List.take_of_length_le (by omega), mapK_c64, frcB_eq]
theorem frzK_ex : ∀ (ls : List Nat) (s : LS), (∀ l, l ∈ ls → ∃ b, s.get l = some b) → ∃ s', (∀ k, frzK ls s k = k s') ∧ (∀ x ws, HT s x ws → HT s' x ws) ∧ (s.fit → s'.fit)
  | [], s, h => ⟨s, fun k => rfl, fun _ _ h => h, id⟩
  | l :: ls, s, h => by
    obtain ⟨b, hb⟩ := h l (List.mem_cons_self ..)
    obtain ⟨s', h1, h2, h3⟩ := frzK_ex ls (s.put l ⟨b.cs, .frz⟩) fun l' hl => by
      obtain ⟨b', hb'⟩ := h l' (List.mem_cons_of_mem _ hl)
      rw [lsget_put hb]
      by_cases e : l' = l
      · rw [if_pos e]; exact ⟨_, rfl⟩
      · rw [if_neg e]; exact ⟨_, hb'⟩
    refine ⟨s', fun k => ?_, fun x ws hx => h2 x ws ?_, fun hs => h3 rfl⟩
    · show (kGet s l fun b => kPut s l ⟨b.cs, .frz⟩ fun s => frzK ls s k) = _
      rw [kGet_eq, hb]
      show (kPut s l ⟨b.cs, .frz⟩ fun s => frzK ls s k) = _
      rw [kPut_get hb, h1]
    · cases hx with
      | tr => exact .tr
      | @sl l2 cm ex ws b2 hg hc hl =>
        by_cases e : l2 = l
        · subst e
          rw [hb] at hg
          cases hg
          exact .sl (b := ⟨b.cs, .frz⟩) (by rw [lsget_put hb, if_pos rfl]) hc rfl
        · exact .sl (by rw [lsget_put hb, if_neg e]; exact hg) hc hl
theorem iso_two {M : List D → Option D} {x y : D} {xs ys : List Nat} (hx : HT s x xs) (hy : HT s y ys) : ∃ ex ey ls, (∀ K, isoK M [x, y] s K = ob (M [.tree (c64 xs) xs.length ex, .tree (c64 ys) ys.length ey]) fun r => finK s ls r K) ∧ ∀ l, l ∈ ls → ∃ b, s.get l = some b := by
  obtain ⟨ex, l1, h1, g1⟩ := res_ht (n := 58) hx
  obtain ⟨ey, l2, h2, g2⟩ := res_ht (n := 58) hy
  refine ⟨ex, ey, l1 ++ (l2 ++ []), fun K => ?_, fun l hl => ?_⟩
  · show resK s 60 x (fun y1 a => resK s 60 y fun y2 b => appK b [] fun ab => appK a ab fun ab => ob (M [y1, y2]) fun r => finK s ab r K) = _
    rw [h1, h2, appK_eq, appK_eq]
  · rw [List.append_nil] at hl
    rcases List.mem_append.1 hl with h | h
    · exact g1 l h
    · exact g2 l h
theorem fin_tree {ls : List Nat} {cs : List D} {n : Nat} {e : Bool} : finK s ls (.tree cs n e) K = frzK ls s fun s => K (.tree cs n e) s := rfl
theorem fin_tup {ls : List Nat} {cs ds : List D} {n m : Nat} {e f : Bool} : finK s ls (.tup [.tree cs n e, .tree ds m f]) K = frzK ls s fun s => K (.tup [.tree cs n e, .tree ds m f]) s := rfl
theorem iso_pack_ht {x : D} {ws : List Nat} (hx : HT s x ws) (h : Small ws) (hl : ws.length ≤ 1000000000) : isoK packM [x] s K = K (.n (val ws)) s := by
  obtain ⟨ex, ls, hr, _⟩ := res_ht (n := 58) hx
  show resK s 60 x (fun y a => appK a [] fun ab => ob (packM [y]) fun r => finK s ab r K) = _
  rw [hr, appK_eq, packM_tree h hl]
  rfl
theorem ret_st1 {ws : List Nat} {m len : Nat} (hm : m ≤ ws.length) : ∃ e, retK false (st1 (c64 ws)) (.sl 0 0 m len 1 true) some = some (.tree (c64 (ws.take m)) m e) := by
  refine ⟨true && len == m, ?_⟩
  unfold retK
  rw [fl_eq]
  show frcO (extr false (st1 (c64 ws)).get depth0 (.sl 0 0 m len 1 true)) some = _
  have : extr false (st1 (c64 ws)).get depth0 (.sl 0 0 m len 1 true) = some (.tree (c64 (ws.take m)) m (true && len == m)) := by
    have hcut : cut 0 (m * 1) (c64 ws) = some (c64 (ws.take m)) := by
      unfold cut
      rw [List.drop_zero, Nat.mul_one, if_pos (by rw [List.length_take, c64_len]; omega)]
      unfold c64; rw [List.map_take]
    have hm : mapO (res (st1 (c64 ws)).get 59) (c64 (ws.take m)) = some (c64 (ws.take m), []) := mapO_flat1 (k := 58) _ (c64_flat _)
    have hr : res (st1 (c64 ws)).get 60 (.sl 0 0 m len 1 true) = some (.tree (c64 (ws.take m)) m (true && len == m), [0]) := by
      show (match (st1 (c64 ws)).get 0 with
        | some b => if !b.st.live then none else match cut 0 (m * 1) b.cs with
          | some r => match mapO (res (st1 (c64 ws)).get 59) r with
            | some (cs, ls) => some (D.tree cs m (true && len == m), 0 :: ls)
            | none => none
          | none => none
        | none => none) = _
      rw [st1_get]
      show (if !Stt.rw.live then none else match cut 0 (m * 1) (c64 ws) with
          | some r => match mapO (res (st1 (c64 ws)).get 59) r with
            | some (cs, ls) => some (D.tree cs m (true && len == m), 0 :: ls)
            | none => none
          | none => none) = _
      rw [if_neg (by decide), hcut]
      show (match mapO (res (st1 (c64 ws)).get 59) (c64 (ws.take m)) with
            | some (cs, ls) => some (D.tree cs m (true && len == m), 0 :: ls)
            | none => none) = _
      rw [hm]
    show (match resE (res (st1 (c64 ws)).get 60 (.sl 0 0 m len 1 true)) with
      | some (d, o, ls) => if o.all fun l => !ls.contains l then some d else none
      | none => none) = _
    rw [hr]; rfl
  rw [this, frcO_eq]; rfl
theorem mulWords_run {xs ys : List Nat} {ex ey : Bool} {φ : Nat} (hx : Small xs) (hy : Small ys) (hn : xs.length + ys.length ≤ 1000000000) (hφ : xs.length + ys.length < φ) :
    ∃ zs e, Small zs ∧ val zs = val xs * val ys ∧ zs.length ≤ xs.length + ys.length ∧ R_exact_mulWords φ [.tree (c64 xs) xs.length ex, .tree (c64 ys) ys.length ey] = some (.tree (c64 zs) zs.length e) := by
  obtain ⟨zs, h1, h2, h3, h4⟩ := mo_loop (N := xs.length + ys.length) (φ := φ) (ex := ey) (ex' := ex) hx hy hn rfl (by omega) xs.length 0 φ (List.replicate (xs.length + ys.length) 0) (by omega) (by omega) (by simp) (small_rep _) (by rw [val_rep, List.take_zero]; show 0 = 0 * val ys; rw [Nat.zero_mul])
  have e0 : R_exact_mulWords φ [.tree (c64 xs) xs.length ex, .tree (c64 ys) ys.length ey] = R_exact_trim φ [.sl 0 0 (xs.length + ys.length) (xs.length + ys.length) 1 true] (st1 (c64 zs)) fun x54 s => retK false s x54 some := by
    rw [← h4]
    show (kLen (.tree (c64 xs) xs.length ex) s0 fun x3 s => kLen (.tree (c64 ys) ys.length ey) s fun x4 s => kAdd x3 x4 fun x5 => kMksl 1 8 [(.i .u64 (.ofNat 0))] s x5 x5 fun x6 s => kLen (.tree (c64 xs) xs.length ex) s fun x7 s =>
      lp (fun (_ _ _ _ _ : D) (_ : LS) => none) (moF φ) φ (.tree (c64 ys) ys.length ey) x6 (.tree (c64 xs) xs.length ex) x7 (.i .i64 (.ofNat 0)) s) = _
    refine (kLen_tr).trans ?_
    refine (kLen_tr).trans ?_
    refine (kAdd_n (show xs.length + ys.length ≤ kmax .i64 from (by show xs.length + ys.length ≤ 9223372036854775807; omega))).trans ?_
    refine (kMksl_s0 (by omega) (by omega)).trans ?_
    refine (kLen_tr).trans ?_
    rw [c64_rep]
  by_cases h0 : xs.length + ys.length = 0
  · have hz : zs = [] := List.eq_nil_of_length_eq_zero (by omega)
    subst hz
    refine ⟨[], true, fun w hw => (by cases hw), h3, by simp, ?_⟩
    rw [e0, h0]
    obtain ⟨f, rfl⟩ : ∃ f, φ = f + 1 := ⟨φ - 1, by omega⟩
    rw [trim_eq]
    rfl
  · obtain ⟨m, g1, g2, g3⟩ := trimb_loop (k := fun x54 s => retK false s x54 some) (by omega) (by omega) h1 (xs.length + ys.length) φ (Nat.le_refl _) hφ
    obtain ⟨e, g4⟩ := ret_st1 (ws := zs) (m := m) (len := xs.length + ys.length) (by omega)
    refine ⟨zs.take m, e, fun w hw => h2 w (List.mem_of_mem_take hw), ?_, ?_, ?_⟩
    · rw [g2, ← h1, List.take_length, h3]
    · rw [List.length_take]; omega
    · rw [e0, trim_eq]
      refine (kLen_sl).trans ?_
      refine Eq.trans g3 ?_
      rw [g4, List.length_take, Nat.min_eq_left (by omega)]
theorem natMul_run {x y φ : Nat} (hx : Nat.log2 x ≤ 1000000000) (hy : Nat.log2 y ≤ 1000000000) (hφ : Nat.log2 x / 64 + Nat.log2 y / 64 + 2 < φ) : R_exact_NatMul φ [.n x, .n y] = some (.n (x * y)) := by
  obtain ⟨X, s1, xs, k1, hX, sx, vx, lx, m1, _⟩ := iso_words (s := s0) (m := x) rfl hx
  obtain ⟨Y, s2, ys, k2, hY, sy, vy, ly, m2, _⟩ := iso_words (s := s1) (m := y) (m1.len rfl) hy
  unfold R_exact_NatMul
  refine (k1 _).trans ?_
  refine (k2 _).trans ?_
  obtain ⟨ex, ey, ls, h1, h2⟩ := iso_two (M := R_exact_mulWords φ) (hX.more m2).ht hY.ht
  obtain ⟨s3, f1, f2, f3⟩ := frzK_ex ls s2 h2
  obtain ⟨zs, e, g1, g2, g3, g4⟩ := mulWords_run (ex := ex) (ey := ey) (φ := φ) sx sy (by omega) (by omega)
  refine (h1 _).trans ?_
  rw [g4]
  show finK s2 ls (.tree (c64 zs) zs.length e) _ = _
  rw [fin_tree, f1]
  refine (iso_pack_ht HT.tr g1 (by omega)).trans ?_
  rw [g2, vx, vy]; rfl
def natMulM (as : List D) : Option D :=
  u1 as fun a r => u1 r fun b r => u0 r (onNum a fun x => onNum b fun y => cnd (Nat.ble (Nat.log2 x) 1000000000) (cnd (Nat.ble (Nat.log2 y) 1000000000) (frc (Nat.mul x y) fun z => some (.n z)) none) none)
theorem natMulM_run {as : List D} {r : D} (h : natMulM as = some r) : ∃ φ, R_exact_NatMul φ as = some r := by
  obtain ⟨a, r1, rfl, g1⟩ := u1_some h
  obtain ⟨b, r2, rfl, g2⟩ := u1_some g1
  obtain ⟨rfl, g3⟩ := u0_some g2
  obtain ⟨x, rfl, g4⟩ := onNum_some g3
  obtain ⟨y, rfl, g5⟩ := onNum_some g4
  obtain ⟨h1, g6⟩ := ob_cond g5
  obtain ⟨h2, h⟩ := ob_cond g6
  rw [frc_eq] at h
  exact ⟨Nat.log2 x / 64 + Nat.log2 y / 64 + 3, by rw [natMul_run (Nat.le_of_ble_eq_true h1) (Nat.le_of_ble_eq_true h2) (by omega)]; exact h⟩
theorem kLss_s {a b : Nat} {k : D → Rs} : kLss (.n a) (.n b) k = k (.b (Op.bytesLess (natBytes a) (natBytes b))) := by
  show kSlowB .lss (.n a) (.n b) k = _
  unfold kSlowB
  rw [frcO_eq]; rfl
theorem kEql_s {a b : Nat} {k : D → Rs} : kEql (.n a) (.n b) k = k (.b (Nat.beq a b)) := by
  show kSlowB .eql (.n a) (.n b) k = _
  unfold kSlowB
  rw [frcO_eq]; rfl
theorem natCmp_run {x y φ : Nat} : R_exact_NatCmp φ [.n x, .n y] = some (cnd (Nat.blt x y) (.i .i64 (.negSucc 0)) (cnd (Nat.beq x y) (.i .i64 (.ofNat 0)) (.i .i64 (.ofNat 1)))) := by
  unfold R_exact_NatCmp
  dsimp only [u1_cons, u0_nil]
  rw [kLens_n, kLens_n, kLss_n]
  by_cases h1 : (natBytes x).length < (natBytes y).length
  · rw [blt_true h1, blt_true (len_lt h1)]; rfl
  · rw [blt_false h1]
    simp only [kGuard_f, kGuard_t, show ∀ (op : (D → LS → Rs) → Rs) (s : LS) (k : D → LS → Rs), kGuard (.b false) false op s k = op k from fun _ _ _ => rfl, kLens_n, kEql_n]
    by_cases h2 : (natBytes x).length = (natBytes y).length
    · rw [h2, beq_self]
      simp only [kGuard_t, kLss_s, num_less h2, kPick_t, kPick_f]
      by_cases h3 : x < y
      · rw [blt_true h3, kCond_t]; rfl
      · rw [blt_false h3, kCond_f, kEql_s]
        cases Nat.beq x y <;> rfl
    · rw [beq_ne h2]
      simp only [kGuard_f, kPick_t, kPick_f, kCond_f, kEql_s]
      have h3 : y < x := len_lt (by omega)
      rw [blt_false (by omega), beq_ne (show x ≠ y by omega)]; rfl
def natCmpM (as : List D) : Option D :=
  u1 as fun a r => u1 r fun b r => u0 r (onNum a fun x => onNum b fun y => some (cnd (Nat.blt x y) (.i .i64 (.negSucc 0)) (cnd (Nat.beq x y) (.i .i64 (.ofNat 0)) (.i .i64 (.ofNat 1)))))
theorem natCmpM_run {as : List D} {r : D} (h : natCmpM as = some r) : ∃ φ, R_exact_NatCmp φ as = some r := by
  obtain ⟨a, r1, rfl, g1⟩ := u1_some h
  obtain ⟨b, r2, rfl, g2⟩ := u1_some g1
  obtain ⟨rfl, g3⟩ := u0_some g2
  obtain ⟨x, rfl, g4⟩ := onNum_some g3
  obtain ⟨y, rfl, g5⟩ := onNum_some g4
  exact ⟨0, by rw [natCmp_run]; exact g5⟩
end
end Go.Proofs.Ev
set_option linter.unusedVariables false
set_option maxRecDepth 1000000
set_option maxHeartbeats 0
namespace Go.Proofs.Ev
noncomputable section
def R_exact_compareWords (φ : Nat) : List D → Option D :=
fun as =>
(fun (s : LS) =>
 u1 as fun a1 r27 =>
 u1 r27 fun a2 r28 =>
 u0 r28 (
 kLen a1 s fun x3 s =>
 kLen a2 s fun x4 s =>
 kNeq x3 x4 fun x5 =>
 kCond x5
(kLen a1 s fun x6 s =>
 kLen a2 s fun x7 s =>
 kLss x6 x7 fun x8 =>
 kCond x8
(retK false s (.i .i64 (.negSucc 0)) some)
(retK false s (.i .i64 (.ofNat 1)) some))
(kLen a1 s fun x9 s =>
 kSub x9 (.i .i64 (.ofNat 1)) fun x10 =>
 lp (fun (_ _ _ : D) (_ : LS) => none) (fun (q11 : D → D → D → LS → Rs) (x12 x13 x14 : D) (s : LS) =>
 kGeq x14 (.i .i64 (.ofNat 0)) fun x15 =>
 kCond x15
(kIaddr 1 s x12 x14 fun x16 s =>
 kLoad1 s x16 fun x17 s =>
 kIaddr 1 s x13 x14 fun x18 s =>
 kLoad1 s x18 fun x19 s =>
 kNeq x17 x19 fun x20 =>
 kCond x20
(kIaddr 1 s x12 x14 fun x21 s =>
 kLoad1 s x21 fun x22 s =>
 kIaddr 1 s x13 x14 fun x23 s =>
 kLoad1 s x23 fun x24 s =>
 kLss x22 x24 fun x25 =>
 kCond x25
(retK false s (.i .i64 (.negSucc 0)) some)
(retK false s (.i .i64 (.ofNat 1)) some))
(kSub x14 (.i .i64 (.ofNat 1)) fun x26 =>
 q11 x12 x13 x26 s))
(retK false s (.i .i64 (.ofNat 0)) some)) φ a1 a2 x10 s))) s0
def R_math_bits_Len64 (φ : Nat) : List D → Option D :=
fun as =>
(fun (s : LS) =>
 u1 as fun a1 r23 =>
 u0 r23 (
 jn (fun (x3 x4 : D) (s : LS) =>
 jn (fun (x6 x7 : D) (s : LS) =>
 jn (fun (x9 x10 : D) (s : LS) =>
 kToInt .u8 x9 s fun x11 s =>
 kS (.index (.c (.s [0, 1, 2, 2, 3, 3, 3, 3, 4, 4, 4, 4, 4, 4, 4, 4, 5, 5, 5, 5, 5, 5, 5, 5, 5, 5, 5, 5, 5, 5, 5, 5, 6, 6, 6, 6, 6, 6, 6, 6, 6, 6, 6, 6, 6, 6, 6, 6, 6, 6, 6, 6, 6, 6, 6, 6, 6, 6, 6, 6, 6, 6, 6, 6, 7, 7, 7, 7, 7, 7, 7, 7, 7, 7, 7, 7, 7, 7, 7, 7, 7, 7, 7, 7, 7, 7, 7, 7, 7, 7, 7, 7, 7, 7, 7, 7, 7, 7, 7, 7, 7, 7, 7, 7, 7, 7, 7, 7, 7, 7, 7, 7, 7, 7, 7, 7, 7, 7, 7, 7, 7, 7, 7, 7, 7, 7, 7, 7, 8, 8, 8, 8, 8, 8, 8, 8, 8, 8, 8, 8, 8, 8, 8, 8, 8, 8, 8, 8, 8, 8, 8, 8, 8, 8, 8, 8, 8, 8, 8, 8, 8, 8, 8, 8, 8, 8, 8, 8, 8, 8, 8, 8, 8, 8, 8, 8, 8, 8, 8, 8, 8, 8, 8, 8, 8, 8, 8, 8, 8, 8, 8, 8, 8, 8, 8, 8, 8, 8, 8, 8, 8, 8, 8, 8, 8, 8, 8, 8, 8, 8, 8, 8, 8, 8, 8, 8, 8, 8, 8, 8, 8, 8, 8, 8, 8, 8, 8, 8, 8, 8, 8, 8, 8, 8, 8, 8, 8, 8, 8, 8, 8, 8, 8, 8, 8, 8, 8, 8, 8, 8, 8, 8, 8, 8, 8, 8])) (.c x11)) s fun x12 s =>
 kToInt .i64 x12 s fun x13 s =>
 kAdd x10 x13 fun x14 =>
 retK false s x14 some) fun j8 =>
 kGeq x6 (.i .u64 (.ofNat 256)) fun x15 =>
 kCond x15
(kShr x6 (.i .u64 (.ofNat 8)) fun x16 =>
 kAdd x7 (.i .i64 (.ofNat 8)) fun x17 =>
 j8 x16 x17 s)
(j8 x6 x7 s)) fun j5 =>
 kGeq x3 (.i .u64 (.ofNat 65536)) fun x18 =>
 kCond x18
(kShr x3 (.i .u64 (.ofNat 16)) fun x19 =>
 kAdd x4 (.i .i64 (.ofNat 16)) fun x20 =>
 j5 x19 x20 s)
(j5 x3 x4 s)) fun j2 =>
 kGeq a1 (.i .u64 (.ofNat 4294967296)) fun x21 =>
 kCond x21
(kShr a1 (.i .u64 (.ofNat 32)) fun x22 =>
 j2 x22 (.i .i64 (.ofNat 32)) s)
(j2 a1 (.i .i64 (.ofNat 0)) s))) s0
def R_math_bits_LeadingZeros64 (φ : Nat) : List D → Option D :=
fun as =>
(fun (s : LS) =>
 u1 as fun a1 r4 =>
 u0 r4 (
 isoK (R_math_bits_Len64 φ) [a1] s fun x2 s =>
 kSub (.i .i64 (.ofNat 64)) x2 fun x3 =>
 retK false s x3 some)) s0
def R_math_bits_Div64 (φ : Nat) : List D → Option D :=
fun as =>
(fun (s : LS) =>
 u1 as fun a1 r110 =>
 u1 r110 fun a2 r111 =>
 u1 r111 fun a3 r112 =>
 u0 r112 (
 jn (fun (x5 x6 x7 : D) (s : LS) =>
 jn (fun (x9 x10 x11 : D) (s : LS) =>
 kEql x9 (.i .u64 (.ofNat 0)) fun x12 =>
 kCond x12
(kQuo x10 x11 fun x13 =>
 kRem x10 x11 fun x14 =>
 retK false s (.tup [x13, x14]) some)
(isoK (R_math_bits_LeadingZeros64 φ) [x11] s fun x15 s =>
 kToInt .u64 x15 s fun x16 s =>
 kShl x11 x16 fun x17 =>
 kShr x17 (.i .u64 (.ofNat 32)) fun x18 =>
 kAnd x17 (.i .u64 (.ofNat 4294967295)) fun x19 =>
 kShl x9 x16 fun x20 =>
 kSub (.i .u64 (.ofNat 64)) x16 fun x21 =>
 kShr x10 x21 fun x22 =>
 kOr x20 x22 fun x23 =>
 kShl x10 x16 fun x24 =>
 kShr x24 (.i .u64 (.ofNat 32)) fun x25 =>
 kAnd x24 (.i .u64 (.ofNat 4294967295)) fun x26 =>
 kQuo x23 x18 fun x27 =>
 kMul x27 x18 fun x28 =>
 kSub x23 x28 fun x29 =>
 jn (fun (x31 x32 x33 x34 x35 x36 x37 x38 : D) (s : LS) =>
 kMul x35 (.i .u64 (.ofNat 4294967296)) fun x39 =>
 kAdd x39 x36 fun x40 =>
 kMul x38 x31 fun x41 =>
 kSub x40 x41 fun x42 =>
 kQuo x42 x33 fun x43 =>
 kMul x43 x33 fun x44 =>
 kSub x42 x44 fun x45 =>
 jn (fun (x47 x48 x49 x50 x51 x52 : D) (s : LS) =>
 kMul x50 (.i .u64 (.ofNat 4294967296)) fun x53 =>
 kAdd x53 x52 fun x54 =>
 kMul x51 (.i .u64 (.ofNat 4294967296)) fun x55 =>
 kAdd x55 x49 fun x56 =>
 kMul x52 x47 fun x57 =>
 kSub x56 x57 fun x58 =>
 kShr x58 x48 fun x59 =>
 retK false s (.tup [x54, x59]) some) fun j46 =>
 lp (fun (_ _ _ _ _ _ _ _ _ : D) (_ : LS) => none) (fun (q60 : D → D → D → D → D → D → D → D → D → LS → Rs) (x61 x62 x63 x64 x65 x66 x67 x68 x69 : D) (s : LS) =>
 kGeq x69 (.i .u64 (.ofNat 4294967296)) fun x70 =>
 kGuard x70 false (fun k => k x69 s) s fun x71 s =>
 kGuard x70 false (fun k => k x64 s) s fun x72 s =>
 kGuard x70 false (fun k => kMul x71 x72 fun d => k d s) s fun x73 s =>
 kGuard x70 false (fun k => k x67 s) s fun x74 s =>
 kGuard x70 false (fun k => kMul (.i .u64 (.ofNat 4294967296)) x74 fun d => k d s) s fun x75 s =>
 kGuard x70 false (fun k => k x65 s) s fun x76 s =>
 kGuard x70 false (fun k => kAdd x75 x76 fun d => k d s) s fun x77 s =>
 kGuard x70 false (fun k => kGtr x73 x77 fun d => k d s) s fun x78 s =>
 kPick x70 (.b true) x78 s fun x79 s =>
 kCond x79
(kSub x69 (.i .u64 (.ofNat 1)) fun x80 =>
 kAdd x67 x63 fun x81 =>
 kGeq x81 (.i .u64 (.ofNat 4294967296)) fun x82 =>
 kCond x82
(j46 x61 x62 x65 x66 x68 x80 s)
(q60 x61 x62 x63 x64 x65 x66 x81 x68 x80 s))
(j46 x61 x62 x65 x66 x68 x69 s)) φ x31 x32 x33 x34 x37 x38 x45 x42 x43 s) fun j30 =>
 lp (fun (_ _ _ _ _ _ _ _ _ : D) (_ : LS) => none) (fun (q83 : D → D → D → D → D → D → D → D → D → LS → Rs) (x84 x85 x86 x87 x88 x89 x90 x91 x92 : D) (s : LS) =>
 kGeq x91 (.i .u64 (.ofNat 4294967296)) fun x93 =>
 kGuard x93 false (fun k => k x91 s) s fun x94 s =>
 kGuard x93 false (fun k => k x87 s) s fun x95 s =>
 kGuard x93 false (fun k => kMul x94 x95 fun d => k d s) s fun x96 s =>
 kGuard x93 false (fun k => k x92 s) s fun x97 s =>
 kGuard x93 false (fun k => kMul (.i .u64 (.ofNat 4294967296)) x97 fun d => k d s) s fun x98 s =>
 kGuard x93 false (fun k => k x89 s) s fun x99 s =>
 kGuard x93 false (fun k => kAdd x98 x99 fun d => k d s) s fun x100 s =>
 kGuard x93 false (fun k => kGtr x96 x100 fun d => k d s) s fun x101 s =>
 kPick x93 (.b true) x101 s fun x102 s =>
 kCond x102
(kSub x91 (.i .u64 (.ofNat 1)) fun x103 =>
 kAdd x92 x86 fun x104 =>
 kGeq x104 (.i .u64 (.ofNat 4294967296)) fun x105 =>
 kCond x105
(j30 x84 x85 x86 x87 x88 x89 x90 x103 s)
(q83 x84 x85 x86 x87 x88 x89 x90 x103 x104 s))
(j30 x84 x85 x86 x87 x88 x89 x90 x91 s)) φ x17 x16 x18 x19 x23 x25 x26 x27 x29 s)) fun j8 =>
 kLeq x7 x5 fun x106 =>
 kCond x106
(kLoad1 s .u fun x107 s =>
 none)
(j8 x5 x6 x7 s)) fun j4 =>
 kEql a3 (.i .u64 (.ofNat 0)) fun x108 =>
 kCond x108
(kLoad1 s .u fun x109 s =>
 none)
(j4 a1 a2 a3 s))) s0
def R_exact_shiftUp (φ : Nat) : List D → Option D :=
fun as =>
(fun (s : LS) =>
 u1 as fun a1 r33 =>
 u1 r33 fun a2 r34 =>
 u0 r34 (
 kLen a1 s fun x3 s =>
 kAdd x3 (.i .i64 (.ofNat 1)) fun x4 =>
 kMksl 1 8 [(.i .u64 (.ofNat 0))] s x4 x4 fun x5 s =>
 kLen a1 s fun x6 s =>
 lp (fun (_ _ _ _ _ : D) (_ : LS) => none) (fun (q7 : D → D → D → D → D → LS → Rs) (x8 x9 x10 x11 x12 : D) (s : LS) =>
 kLss x12 x11 fun x13 =>
 kCond x13
(jn (fun (x15 x16 x17 x18 x19 : D) (s : LS) =>
 kAdd x19 (.i .i64 (.ofNat 1)) fun x20 =>
 q7 x15 x16 x17 x18 x20 s) fun j14 =>
 kIaddr 1 s x10 x12 fun x21 s =>
 kLoad1 s x21 fun x22 s =>
 kIaddr 1 s x9 x12 fun x23 s =>
 kLoad1 s x23 fun x24 s =>
 kShl x22 x8 fun x25 =>
 kOr x24 x25 fun x26 =>
 kIaddr 1 s x9 x12 fun x27 s =>
 kStore 1 s x27 x26 fun _ s =>
 kGtr x8 (.i .i64 (.ofNat 0)) fun x28 =>
 kCond x28
(kAdd x12 (.i .i64 (.ofNat 1)) fun x29 =>
 kSub (.i .i64 (.ofNat 64)) x8 fun x30 =>
 kShr x22 x30 fun x31 =>
 kIaddr 1 s x9 x29 fun x32 s =>
 kStore 1 s x32 x31 fun _ s =>
 j14 x8 x9 x10 x11 x12 s)
(j14 x8 x9 x10 x11 x12 s))
(retK true s x9 some)) φ a2 x5 a1 x6 (.i .i64 (.ofNat 0)) s)) s0
def R_exact_step (φ : Nat) : List D → LS → (D → LS → Rs) → Rs :=
fun as s k =>
 u1 as fun a1 r133 =>
 u1 r133 fun a2 r134 =>
 u0 r134 (
 kLen a2 s fun x3 s =>
 jn (fun (x5 x6 x7 x8 x9 x10 : D) (s : LS) =>
 jn (fun (x12 x13 x14 x15 : D) (s : LS) =>
 lp (fun (_ _ _ _ _ _ _ _ : D) (_ : LS) => none) (fun (q16 : D → D → D → D → D → D → D → D → LS → Rs) (x17 x18 x19 x20 x21 x22 x23 x24 : D) (s : LS) =>
 kLss x24 x23 fun x25 =>
 kCond x25
(kIaddr 1 s x18 x24 fun x26 s =>
 kLoad1 s x26 fun x27 s =>
 isoK mul64M [x20, x27] s fun x28 s =>
 kExt x28 0 s fun x29 s =>
 kExt x28 1 s fun x30 s =>
 kAdd64 x30 x22 (.i .u64 (.ofNat 0)) s fun x31 s =>
 kExt x31 0 s fun x32 s =>
 kExt x31 1 s fun x33 s =>
 kAdd x29 x33 fun x34 =>
 kIaddr 1 s x17 x24 fun x35 s =>
 kLoad1 s x35 fun x36 s =>
 kSub64 x36 x32 x21 s fun x37 s =>
 kExt x37 0 s fun x38 s =>
 kExt x37 1 s fun x39 s =>
 kIaddr 1 s x17 x24 fun x40 s =>
 kStore 1 s x40 x38 fun _ s =>
 kAdd x24 (.i .i64 (.ofNat 1)) fun x41 =>
 q16 x17 x18 x19 x20 x39 x34 x23 x41 s)
(kIaddr 1 s x17 x19 fun x42 s =>
 kLoad1 s x42 fun x43 s =>
 kSub64 x43 x22 x21 s fun x44 s =>
 kExt x44 0 s fun x45 s =>
 kExt x44 1 s fun x46 s =>
 kIaddr 1 s x17 x19 fun x47 s =>
 kStore 1 s x47 x45 fun _ s =>
 kEql x46 (.i .u64 (.ofNat 0)) fun x48 =>
 kCond x48
(k x20 s)
(lp (fun (_ _ _ _ _ _ _ : D) (_ : LS) => none) (fun (q49 : D → D → D → D → D → D → D → LS → Rs) (x50 x51 x52 x53 x54 x55 x56 : D) (s : LS) =>
 kLss x56 x55 fun x57 =>
 kCond x57
(kIaddr 1 s x50 x56 fun x58 s =>
 kLoad1 s x58 fun x59 s =>
 kIaddr 1 s x51 x56 fun x60 s =>
 kLoad1 s x60 fun x61 s =>
 kAdd64 x59 x61 x54 s fun x62 s =>
 kExt x62 0 s fun x63 s =>
 kExt x62 1 s fun x64 s =>
 kIaddr 1 s x50 x56 fun x65 s =>
 kStore 1 s x65 x63 fun _ s =>
 kAdd x56 (.i .i64 (.ofNat 1)) fun x66 =>
 q49 x50 x51 x52 x53 x64 x55 x66 s)
(kIaddr 1 s x50 x52 fun x67 s =>
 kLoad1 s x67 fun x68 s =>
 kAdd x68 x54 fun x69 =>
 kIaddr 1 s x50 x52 fun x70 s =>
 kStore 1 s x70 x69 fun _ s =>
 kSub x53 (.i .u64 (.ofNat 1)) fun x71 =>
 k x71 s)) φ x17 x18 x19 x20 (.i .u64 (.ofNat 0)) x19 (.i .i64 (.ofNat 0)) s))) φ x12 x13 x14 x15 (.i .u64 (.ofNat 0)) (.i .u64 (.ofNat 0)) x14 (.i .i64 (.ofNat 0)) s) fun j11 =>
 lp (fun (_ _ _ _ _ _ : D) (_ : LS) => none) (fun (q72 : D → D → D → D → D → D → LS → Rs) (x73 x74 x75 x76 x77 x78 : D) (s : LS) =>
 kEql x78 (.i .u64 (.ofNat 0)) fun x79 =>
 kCond x79
(kSub x75 (.i .i64 (.ofNat 2)) fun x80 =>
 kIaddr 1 s x74 x80 fun x81 s =>
 kLoad1 s x81 fun x82 s =>
 isoK mul64M [x76, x82] s fun x83 s =>
 kExt x83 0 s fun x84 s =>
 kExt x83 1 s fun x85 s =>
 kLss x84 x77 fun x86 =>
 kGuard x86 false (fun k => k x84 s) s fun x87 s =>
 kGuard x86 false (fun k => k x77 s) s fun x88 s =>
 kGuard x86 false (fun k => kEql x87 x88 fun d => k d s) s fun x89 s =>
 kGuard x86 false (fun k => k x89 s) s fun x90 s =>
 kGuard x90 true (fun k => k x85 s) s fun x91 s =>
 kGuard x90 true (fun k => k x73 s) s fun x92 s =>
 kGuard x90 true (fun k => k x75 s) s fun x93 s =>
 kGuard x90 true (fun k => kSub x93 (.i .i64 (.ofNat 2)) fun d => k d s) s fun x94 s =>
 kGuard x90 true (fun k => kIaddr 1 s x92 x94 k) s fun x95 s =>
 kGuard x90 true (fun k => kLoad1 s x95 k) s fun x96 s =>
 kGuard x90 true (fun k => kLeq x91 x96 fun d => k d s) s fun x97 s =>
 kGuard x86 false (fun k => kPick x90 x97 (.b false) s k) s fun x98 s =>
 kPick x86 (.b true) x98 s fun x99 s =>
 kCond x99
(j11 x73 x74 x75 x76 s)
(kSub x76 (.i .u64 (.ofNat 1)) fun x100 =>
 kSub x75 (.i .i64 (.ofNat 1)) fun x101 =>
 kIaddr 1 s x74 x101 fun x102 s =>
 kLoad1 s x102 fun x103 s =>
 kAdd64 x77 x103 (.i .u64 (.ofNat 0)) s fun x104 s =>
 kExt x104 0 s fun x105 s =>
 kExt x104 1 s fun x106 s =>
 q72 x73 x74 x75 x100 x105 x106 s))
(j11 x73 x74 x75 x76 s)) φ x5 x6 x7 x8 x9 x10 s) fun j4 =>
 kIaddr 1 s a1 x3 fun x107 s =>
 kLoad1 s x107 fun x108 s =>
 kSub x3 (.i .i64 (.ofNat 1)) fun x109 =>
 kIaddr 1 s a2 x109 fun x110 s =>
 kLoad1 s x110 fun x111 s =>
 kGeq x108 x111 fun x112 =>
 kCond x112
(kSub x3 (.i .i64 (.ofNat 1)) fun x113 =>
 kIaddr 1 s a1 x113 fun x114 s =>
 kLoad1 s x114 fun x115 s =>
 kSub x3 (.i .i64 (.ofNat 1)) fun x116 =>
 kIaddr 1 s a2 x116 fun x117 s =>
 kLoad1 s x117 fun x118 s =>
 kAdd64 x115 x118 (.i .u64 (.ofNat 0)) s fun x119 s =>
 kExt x119 0 s fun x120 s =>
 kExt x119 1 s fun x121 s =>
 j4 a1 a2 x3 (.i .u64 (.ofNat 18446744073709551615)) x120 x121 s)
(kIaddr 1 s a1 x3 fun x122 s =>
 kLoad1 s x122 fun x123 s =>
 kSub x3 (.i .i64 (.ofNat 1)) fun x124 =>
 kIaddr 1 s a1 x124 fun x125 s =>
 kLoad1 s x125 fun x126 s =>
 kSub x3 (.i .i64 (.ofNat 1)) fun x127 =>
 kIaddr 1 s a2 x127 fun x128 s =>
 kLoad1 s x128 fun x129 s =>
 isoK (R_math_bits_Div64 φ) [x123, x126, x129] s fun x130 s =>
 kExt x130 0 s fun x131 s =>
 kExt x130 1 s fun x132 s =>
 j4 a1 a2 x3 x131 x132 (.i .u64 (.ofNat 0)) s))
def R_exact_divide (φ : Nat) : List D → Option D :=
fun as =>
(fun (s : LS) =>
 u1 as fun a1 r98 =>
 u1 r98 fun a2 r99 =>
 u0 r99 (
 isoK (R_exact_compareWords φ) [a1, a2] s fun x3 s =>
 kLss x3 (.i .i64 (.ofNat 0)) fun x4 =>
 kCond x4
(retK false s (.tup [(.tree [] 0 true), a1]) some)
(kLen a2 s fun x5 s =>
 kEql x5 (.i .i64 (.ofNat 1)) fun x6 =>
 kCond x6
(kLen a1 s fun x7 s =>
 kMksl 1 8 [(.i .u64 (.ofNat 0))] s x7 x7 fun x8 s =>
 kLen a1 s fun x9 s =>
 kSub x9 (.i .i64 (.ofNat 1)) fun x10 =>
 lp (fun (_ _ _ _ _ : D) (_ : LS) => none) (fun (q11 : D → D → D → D → D → LS → Rs) (x12 x13 x14 x15 x16 : D) (s : LS) =>
 kGeq x16 (.i .i64 (.ofNat 0)) fun x17 =>
 kCond x17
(kIaddr 1 s x12 x16 fun x18 s =>
 kLoad1 s x18 fun x19 s =>
 kIaddr 1 s x13 (.i .i64 (.ofNat 0)) fun x20 s =>
 kLoad1 s x20 fun x21 s =>
 isoK (R_math_bits_Div64 φ) [x15, x19, x21] s fun x22 s =>
 kExt x22 0 s fun x23 s =>
 kExt x22 1 s fun x24 s =>
 kIaddr 1 s x14 x16 fun x25 s =>
 kStore 1 s x25 x23 fun _ s =>
 kSub x16 (.i .i64 (.ofNat 1)) fun x26 =>
 q11 x12 x13 x14 x24 x26 s)
((R_exact_trim φ) [x14] s fun x27 s =>
 kBsl 1 [(.i .u64 (.ofNat 0))] [(0, 1, x15)] s fun x28 s =>
(R_exact_trim φ) [x28] s fun x29 s =>
 retK false s (.tup [x27, x29]) some)) φ a1 a2 x8 (.i .u64 (.ofNat 0)) x10 s)
(kLen a2 s fun x30 s =>
 kSub x30 (.i .i64 (.ofNat 1)) fun x31 =>
 kIaddr 1 s a2 x31 fun x32 s =>
 kLoad1 s x32 fun x33 s =>
 isoK (R_math_bits_LeadingZeros64 φ) [x33] s fun x34 s =>
 isoK (R_exact_shiftUp φ) [a2, x34] s fun x35 s =>
(R_exact_trim φ) [x35] s fun x36 s =>
 isoK (R_exact_shiftUp φ) [a1, x34] s fun x37 s =>
 kLen x36 s fun x38 s =>
 kLen a1 s fun x39 s =>
 kSub x39 x38 fun x40 =>
 kAdd x40 (.i .i64 (.ofNat 1)) fun x41 =>
 kMksl 1 8 [(.i .u64 (.ofNat 0))] s x41 x41 fun x42 s =>
 kLen a1 s fun x43 s =>
 kSub x43 x38 fun x44 =>
 lp (fun (_ _ _ _ _ _ : D) (_ : LS) => none) (fun (q45 : D → D → D → D → D → D → LS → Rs) (x46 x47 x48 x49 x50 x51 : D) (s : LS) =>
 kGeq x51 (.i .i64 (.ofNat 0)) fun x52 =>
 kCond x52
(kAdd x51 x49 fun x53 =>
 kAdd x53 (.i .i64 (.ofNat 1)) fun x54 =>
 kSlice 1 s x48 (some x51) (some x54) none fun x55 s =>
(R_exact_step φ) [x55, x47] s fun x56 s =>
 kIaddr 1 s x50 x51 fun x57 s =>
 kStore 1 s x57 x56 fun _ s =>
 kSub x51 (.i .i64 (.ofNat 1)) fun x58 =>
 q45 x46 x47 x48 x49 x50 x58 s)
(lp (fun (_ _ _ _ _ _ : D) (_ : LS) => none) (fun (q59 : D → D → D → D → D → D → LS → Rs) (x60 x61 x62 x63 x64 x65 : D) (s : LS) =>
 kLss x65 x64 fun x66 =>
 kCond x66
(jn (fun (x68 x69 x70 x71 x72 x73 : D) (s : LS) =>
 kAdd x73 (.i .i64 (.ofNat 1)) fun x74 =>
 q59 x68 x69 x70 x71 x72 x74 s) fun j67 =>
 kIaddr 1 s x61 x65 fun x75 s =>
 kLoad1 s x75 fun x76 s =>
 kShr x76 x60 fun x77 =>
 kIaddr 1 s x61 x65 fun x78 s =>
 kStore 1 s x78 x77 fun _ s =>
 kGtr x60 (.i .i64 (.ofNat 0)) fun x79 =>
 kGuard x79 true (fun k => k x65 s) s fun x80 s =>
 kGuard x79 true (fun k => kAdd x80 (.i .i64 (.ofNat 1)) fun d => k d s) s fun x81 s =>
 kGuard x79 true (fun k => k x61 s) s fun x82 s =>
 kGuard x79 true (fun k => kLen x82 s k) s fun x83 s =>
 kGuard x79 true (fun k => kLss x81 x83 fun d => k d s) s fun x84 s =>
 kPick x79 x84 (.b false) s fun x85 s =>
 kCond x85
(kIaddr 1 s x61 x65 fun x86 s =>
 kLoad1 s x86 fun x87 s =>
 kAdd x65 (.i .i64 (.ofNat 1)) fun x88 =>
 kIaddr 1 s x61 x88 fun x89 s =>
 kLoad1 s x89 fun x90 s =>
 kSub (.i .i64 (.ofNat 64)) x60 fun x91 =>
 kShl x90 x91 fun x92 =>
 kOr x87 x92 fun x93 =>
 kIaddr 1 s x61 x65 fun x94 s =>
 kStore 1 s x94 x93 fun _ s =>
 j67 x60 x61 x62 x63 x64 x65 s)
(j67 x60 x61 x62 x63 x64 x65 s))
(isoK (alone (R_exact_trim φ)) [x63] s fun x95 s =>
 kSlice 1 s x61 none (some x62) none fun x96 s =>
(R_exact_trim φ) [x96] s fun x97 s =>
 retK false s (.tup [x95, x97]) some)) φ x46 x48 x49 x50 x49 (.i .i64 (.ofNat 0)) s)) φ x34 x36 x37 x38 x42 x44 s)))) s0
def R_exact_NatGcd (φ : Nat) : List D → Option D :=
fun as =>
(fun (s : LS) =>
 u1 as fun a1 r14 =>
 u1 r14 fun a2 r15 =>
 u0 r15 (
 isoK wordsM [a1] s fun x3 s =>
 isoK wordsM [a2] s fun x4 s =>
 lp (fun (_ _ : D) (_ : LS) => none) (fun (q5 : D → D → LS → Rs) (x6 x7 : D) (s : LS) =>
 kLen x7 s fun x8 s =>
 kGtr x8 (.i .i64 (.ofNat 0)) fun x9 =>
 kCond x9
(isoK (R_exact_divide φ) [x6, x7] s fun x10 s =>
 kExt x10 0 s fun x11 s =>
 kExt x10 1 s fun x12 s =>
 q5 x7 x12 s)
(isoK packM [x6] s fun x13 s =>
 retK false s x13 some)) φ x3 x4 s)) s0
def R_exact_NatDivMod (φ : Nat) : List D → Option D :=
fun as =>
(fun (s : LS) =>
 u1 as fun a1 r10 =>
 u1 r10 fun a2 r11 =>
 u0 r11 (
 isoK wordsM [a1] s fun x3 s =>
 isoK wordsM [a2] s fun x4 s =>
 isoK (R_exact_divide φ) [x3, x4] s fun x5 s =>
 kExt x5 0 s fun x6 s =>
 kExt x5 1 s fun x7 s =>
 isoK packM [x6] s fun x8 s =>
 isoK packM [x7] s fun x9 s =>
 retK false s (.tup [x8, x9]) some)) s0
def R_fp_Mod (φ : Nat) : List D → Option D :=
fun as =>
(fun (s : LS) =>
 u1 as fun a1 r8 =>
 u1 r8 fun a2 r9 =>
 u0 r9 (
 kRem a2 a1 fun x3 =>
 jn (fun (x5 : D) (s : LS) =>
 retK false s x5 some) fun j4 =>
 kLss x3 (.i .i64 (.ofNat 0)) fun x6 =>
 kCond x6
(kAdd x3 a1 fun x7 =>
 j4 x7 s)
(j4 x3 s))) s0
def R_fp_Inv (φ : Nat) : List D → Option D :=
fun as =>
(fun (s : LS) =>
 u1 as fun a1 r16 =>
 u1 r16 fun a2 r17 =>
 u0 r17 (
 lp (fun (_ _ _ _ _ : D) (_ : LS) => none) (fun (q3 : D → D → D → D → D → LS → Rs) (x4 x5 x6 x7 x8 : D) (s : LS) =>
 kGtr x6 (.i .i64 (.ofNat 0)) fun x9 =>
 kCond x9
(kQuo x5 x6 fun x10 =>
 kMul x10 x6 fun x11 =>
 kSub x5 x11 fun x12 =>
 kMul x10 x8 fun x13 =>
 kSub x7 x13 fun x14 =>
 q3 x4 x6 x12 x8 x14 s)
(isoK (R_fp_Mod φ) [x4, x7] s fun x15 s =>
 retK false s x15 some)) φ a1 a1 a2 (.i .i64 (.ofNat 0)) (.i .i64 (.ofNat 1)) s)) s0
def R_fp_DivMod (φ : Nat) : List D → Option D :=
fun as =>
(fun (s : LS) =>
 u1 as fun a1 r65 =>
 u1 r65 fun a2 r66 =>
 u1 r66 fun a3 r67 =>
 u0 r67 (
 kBsl 0 [(.i .i64 (.ofNat 0))] [] s fun x4 s =>
 kApp 1 8 s x4 a2 fun x5 s =>
 kLen a3 s fun x6 s =>
 kLen a2 s fun x7 s =>
 kLss x7 x6 fun x8 =>
 kCond x8
(retK false s (.tup [(.tree [] 0 true), x5]) some)
(kLen a2 s fun x9 s =>
 kSub x9 x6 fun x10 =>
 kAdd x10 (.i .i64 (.ofNat 1)) fun x11 =>
 kMksl 1 8 [(.i .i64 (.ofNat 0))] s x11 x11 fun x12 s =>
 kSub x6 (.i .i64 (.ofNat 1)) fun x13 =>
 kIaddr 1 s a3 x13 fun x14 s =>
 kLoad1 s x14 fun x15 s =>
 isoK (R_fp_Inv φ) [a1, x15] s fun x16 s =>
 kLen a2 s fun x17 s =>
 kSub x17 x6 fun x18 =>
 lp (fun (_ _ _ _ _ _ _ : D) (_ : LS) => none) (fun (q19 : D → D → D → D → D → D → D → LS → Rs) (x20 x21 x22 x23 x24 x25 x26 : D) (s : LS) =>
 kGeq x26 (.i .i64 (.ofNat 0)) fun x27 =>
 kCond x27
(kAdd x26 x23 fun x28 =>
 kSub x28 (.i .i64 (.ofNat 1)) fun x29 =>
 kIaddr 1 s x22 x29 fun x30 s =>
 kLoad1 s x30 fun x31 s =>
 kMul x31 x25 fun x32 =>
 kRem x32 x20 fun x33 =>
 kIaddr 1 s x24 x26 fun x34 s =>
 kStore 1 s x34 x33 fun _ s =>
 kLen x21 s fun x35 s =>
 lp (fun (_ _ _ _ _ _ _ _ _ _ _ : D) (_ : LS) => none) (fun (q36 : D → D → D → D → D → D → D → D → D → D → D → LS → Rs) (x37 x38 x39 x40 x41 x42 x43 x44 x45 x46 x47 : D) (s : LS) =>
 kLss x47 x46 fun x48 =>
 kCond x48
(kIaddr 1 s x45 x47 fun x49 s =>
 kLoad1 s x49 fun x50 s =>
 kAdd x43 x47 fun x51 =>
 kAdd x43 x47 fun x52 =>
 kIaddr 1 s x39 x52 fun x53 s =>
 kLoad1 s x53 fun x54 s =>
 kMul x44 x50 fun x55 =>
 kSub x54 x55 fun x56 =>
 isoK (R_fp_Mod φ) [x37, x56] s fun x57 s =>
 kIaddr 1 s x39 x51 fun x58 s =>
 kStore 1 s x58 x57 fun _ s =>
 kAdd x47 (.i .i64 (.ofNat 1)) fun x59 =>
 q36 x37 x38 x39 x40 x41 x42 x43 x44 x45 x46 x59 s)
(kSub x43 (.i .i64 (.ofNat 1)) fun x60 =>
 q19 x37 x38 x39 x40 x41 x42 x60 s)) φ x20 x21 x22 x23 x24 x25 x26 x33 x21 x35 (.i .i64 (.ofNat 0)) s)
(isoK (R_fp_Trim φ) [x24] s fun x61 s =>
 kSub x23 (.i .i64 (.ofNat 1)) fun x62 =>
 kSlice 1 s x22 none (some x62) none fun x63 s =>
 isoK (R_fp_Trim φ) [x63] s fun x64 s =>
 retK false s (.tup [x61, x64]) some)) φ a1 a3 x5 x6 x12 x16 x18 s))) s0
end
end Go.Proofs.Ev
set_option linter.unusedVariables false
set_option linter.unusedSimpArgs false
namespace Go.Proofs.Ev
noncomputable section
variable {s : LS} {K : D → LS → Rs}
theorem kNeq_n {kk : IntKind} {a b : Nat} {k : D → Rs} : kNeq (.i kk (.ofNat a)) (.i kk (.ofNat b)) k = k (.b (not (Nat.beq a b))) := by
  unfold kNeq; rw [on2_n, mkB_eq]
theorem kGeq_n {kk : IntKind} {a b : Nat} {k : D → Rs} : kGeq (.i kk (.ofNat a)) (.i kk (.ofNat b)) k = k (.b (Nat.ble b a)) := by
  unfold kGeq; rw [on2_n, mkB_eq]
theorem kLeq_n {kk : IntKind} {a b : Nat} {k : D → Rs} : kLeq (.i kk (.ofNat a)) (.i kk (.ofNat b)) k = k (.b (Nat.ble a b)) := by
  unfold kLeq; rw [on2_n, mkB_eq]
theorem kSub_01 {k : D → Rs} : kSub (.i .i64 (.ofNat 0)) (.i .i64 (.ofNat 1)) k = k (.i .i64 (.negSucc 0)) := by
  show kSlowB .sub (.i .i64 (.ofNat 0)) (.i .i64 (.ofNat 1)) k = _
  unfold kSlowB; rw [frcO_eq]; rfl
theorem kGeq_neg {k : D → Rs} : kGeq (.i .i64 (.negSucc 0)) (.i .i64 (.ofNat 0)) k = k (.b false) := by
  show kSlowB .geq (.i .i64 (.negSucc 0)) (.i .i64 (.ofNat 0)) k = _
  unfold kSlowB; rw [frcO_eq]; rfl
theorem kLss_neg {k : D → Rs} : kLss (.i .i64 (.negSucc 0)) (.i .i64 (.ofNat 0)) k = k (.b true) := by
  show kSlowB .lss (.i .i64 (.negSucc 0)) (.i .i64 (.ofNat 0)) k = _
  unfold kSlowB; rw [frcO_eq]; rfl
def cmpD (x y : Nat) : D := cnd (Nat.blt x y) (.i .i64 (.negSucc 0)) (cnd (Nat.beq x y) (.i .i64 (.ofNat 0)) (.i .i64 (.ofNat 1)))
theorem kRead_one {x : Nat} {ex : Bool} : kIaddr 1 s (.tree [n64 x] 1 ex) (.i .i64 (.ofNat 0)) K = K (.fp [n64 x]) s := rfl
def cwF (q11 : D → D → D → LS → Rs) (x12 x13 x14 : D) (s : LS) : Rs := (
 kGeq x14 (.i .i64 (.ofNat 0)) fun x15 =>
 kCond x15
(kIaddr 1 s x12 x14 fun x16 s =>
 kLoad1 s x16 fun x17 s =>
 kIaddr 1 s x13 x14 fun x18 s =>
 kLoad1 s x18 fun x19 s =>
 kNeq x17 x19 fun x20 =>
 kCond x20
(kIaddr 1 s x12 x14 fun x21 s =>
 kLoad1 s x21 fun x22 s =>
 kIaddr 1 s x13 x14 fun x23 s =>
 kLoad1 s x23 fun x24 s =>
 kLss x22 x24 fun x25 =>
 kCond x25
(retK false s (.i .i64 (.negSucc 0)) some)
(retK false s (.i .i64 (.ofNat 1)) some))
(kSub x14 (.i .i64 (.ofNat 1)) fun x26 =>
 q11 x12 x13 x26 s))
(retK false s (.i .i64 (.ofNat 0)) some))
theorem kRd {x : Nat} {ex : Bool} : (kIaddr 1 s (.tree [n64 x] 1 ex) (.i .i64 (.ofNat 0)) fun a s => kLoad1 s a K) = K (n64 x) s := rfl
theorem cmpw_loop {x y f : Nat} {ex ey : Bool} : lp (fun (_ _ _ : D) (_ : LS) => none) cwF (f + 2) (.tree [n64 x] 1 ex) (.tree [n64 y] 1 ey) (.i .i64 (.ofNat 0)) s0 = some (cmpD x y) := by
  rw [lp_succ]; unfold cwF cmpD
  rw [kGeq_n, show Nat.ble 0 0 = true from rfl, kCond_t]
  refine (kRd).trans ?_
  refine (kRd).trans ?_
  refine (kNeq_n).trans ?_
  by_cases h : x = y
  · subst h
    rw [beq_self, Bool.not_true, kCond_f, kSub_01, blt_false (Nat.lt_irrefl x), lp_succ]
    rw [kGeq_neg, kCond_f]; rfl
  · rw [beq_ne h, Bool.not_false, kCond_t]
    refine (kRd).trans ?_
    refine (kRd).trans ?_
    refine (kLss_n).trans ?_
    by_cases h2 : x < y
    · rw [blt_true h2, kCond_t]; rfl
    · rw [blt_false h2, kCond_f]; rfl
theorem cmpw_one {x y f : Nat} {ex ey : Bool} : R_exact_compareWords (f + 2) [.tree [n64 x] 1 ex, .tree [n64 y] 1 ey] = some (cmpD x y) := by
  show (kLen (.tree [n64 x] 1 ex) s0 fun x3 s => kLen (.tree [n64 y] 1 ey) s fun x4 s => kNeq x3 x4 fun x5 => kCond x5
    (kLen (.tree [n64 x] 1 ex) s fun x6 s => kLen (.tree [n64 y] 1 ey) s fun x7 s => kLss x6 x7 fun x8 => kCond x8 (retK false s (.i .i64 (.negSucc 0)) some) (retK false s (.i .i64 (.ofNat 1)) some))
    (kLen (.tree [n64 x] 1 ex) s fun x9 s => kSub x9 (.i .i64 (.ofNat 1)) fun x10 => lp (fun (_ _ _ : D) (_ : LS) => none) cwF (f + 2) (.tree [n64 x] 1 ex) (.tree [n64 y] 1 ey) x10 s)) = _
  rw [kLen_tree, kLen_tree, kNeq_n, beq_self, Bool.not_true, kCond_f, kLen_tree, kSub_n (Nat.le_refl 1) (show 1 ≤ kmax .i64 by decide)]
  exact cmpw_loop
theorem cmpw_nil {y f : Nat} {ex ey : Bool} : R_exact_compareWords f [.tree [] 0 ex, .tree [n64 y] 1 ey] = some (.i .i64 (.negSucc 0)) := by
  show (kLen (.tree [] 0 ex) s0 fun x3 s => kLen (.tree [n64 y] 1 ey) s fun x4 s => kNeq x3 x4 fun x5 => kCond x5
    (kLen (.tree [] 0 ex) s fun x6 s => kLen (.tree [n64 y] 1 ey) s fun x7 s => kLss x6 x7 fun x8 => kCond x8 (retK false s (.i .i64 (.negSucc 0)) some) (retK false s (.i .i64 (.ofNat 1)) some))
    (kLen (.tree [] 0 ex) s fun x9 s => kSub x9 (.i .i64 (.ofNat 1)) fun x10 => lp (fun (_ _ _ : D) (_ : LS) => none) cwF f (.tree [] 0 ex) (.tree [n64 y] 1 ey) x10 s)) = _
  rw [kLen_tree, kLen_tree, kNeq_n]
  rfl
theorem jn_eq {α β : Type} (F : α) (b : α → β) : (fun q => b q) F = b F := rfl
theorem div64_lo {x y φ : Nat} (hx : x < B64) (hy : 0 < y) : ∃ q r, R_math_bits_Div64 φ [n64 0, n64 x, n64 y] = some (.tup [n64 q, n64 r]) ∧ q = x / y ∧ r = x % y := by
  refine ⟨_, _, ?_, rfl, rfl⟩
  unfold R_math_bits_Div64 n64
  dsimp only [u1_cons, u0_nil, jn]
  refine (kEql_n).trans ?_
  rw [beq_ne (by omega), kCond_f]
  refine (kLeq_n).trans ?_
  rw [ble_false (by omega), kCond_f]
  refine (kEql_n).trans ?_
  rw [beq_self, kCond_t]
  refine (kQuo_n (by omega) (Nat.le_of_lt_succ hx)).trans ?_
  refine (kRem_n (by omega)).trans ?_
  rfl
theorem kSlice_sl {l len h : Nat} {b : Blk} {k : D → LS → Rs} (hg : s.get l = some b) (hl : b.st.live = true) (h0 : 0 < len) (hh : h ≤ len) : kSlice 1 s (.sl l 0 len len 1 true) none (some (.i .i64 (.ofNat h))) none k = k (.sl l 0 h len 1 true) s := by
  show (kGet s l fun b => cnd (lv b.st) (cnd (Nat.ble len len) (cnd (Nat.ble h len) (cnd (Nat.ble 0 h) (cnd (Nat.beq 1 1) (frcB true fun ex => cnd (Nat.blt 0 len) (frc (Nat.add 0 (Nat.mul 0 1)) fun off => frc (Nat.sub h 0) fun l' => frc (Nat.sub len 0) fun cm => k (.sl l off l' cm 1 ex) s) (k (.tree [] 0 ex) s)) none) none) none) none) none) = _
  rw [kGet_eq, hg]
  show cnd (lv b.st) (cnd (Nat.ble len len) (cnd (Nat.ble h len) (cnd (Nat.ble 0 h) (cnd (Nat.beq 1 1) (frcB true fun ex => cnd (Nat.blt 0 len) (frc (Nat.add 0 (Nat.mul 0 1)) fun off => frc (Nat.sub h 0) fun l' => frc (Nat.sub len 0) fun cm => k (.sl l off l' cm 1 ex) s) (k (.tree [] 0 ex) s)) none) none) none) none) none = _
  rw [lv_eq, hl, Nat.ble_eq_true_of_le (Nat.le_refl len), Nat.ble_eq_true_of_le hh, Nat.ble_eq_true_of_le (Nat.zero_le h), blt_true h0]
  simp only [cnd_true, frcB_eq, frc_eq, beq_self]
  rfl
theorem trim_one {l w f : Nat} {b : Blk} {k : D → LS → Rs} (hg : s.get l = some b) (hc : b.cs = [n64 w]) (hl : b.st.live = true) :
    R_exact_trim (f + 2) [.sl l 0 1 1 1 true] s k = k (.sl l 0 (if w = 0 then 0 else 1) 1 1 true) s := by
  rw [trim_eq]
  refine (kLen_sl).trans ?_
  rw [lp_succ]; unfold trimF
  rw [kGtr_n, show Nat.blt 0 1 = true from rfl]
  simp only [kGuard_t, kSub_n (kk := .i64) (Nat.le_refl 1) (show 1 ≤ kmax .i64 by decide), Nat.sub_self, kIaddr_sl hg hl Nat.one_pos, Nat.zero_mul, Nat.add_zero]
  refine (kLoad1_ptr (d := n64 w) hg hl (by rw [hc]; rfl)).trans ?_
  refine (kEql_n).trans ?_
  by_cases h : w = 0
  · rw [h, if_pos rfl, beq_self, kPick_t, kCond_t, lp_succ]
    refine (kGtr_n).trans ?_
    rw [show Nat.blt 0 0 = false from rfl]
    simp only [kGuard_f, kPick_f, kCond_f]
    exact kSlice_sl hg hl Nat.one_pos (Nat.zero_le 1)
  · rw [if_neg h, beq_ne h, kPick_t, kCond_f]
    exact kSlice_sl hg hl Nat.one_pos (Nat.le_refl 1)
def dvF (φ : Nat) (q11 : D → D → D → D → D → LS → Rs) (x12 x13 x14 x15 x16 : D) (s : LS) : Rs := (
 kGeq x16 (.i .i64 (.ofNat 0)) fun x17 =>
 kCond x17
(kIaddr 1 s x12 x16 fun x18 s =>
 kLoad1 s x18 fun x19 s =>
 kIaddr 1 s x13 (.i .i64 (.ofNat 0)) fun x20 s =>
 kLoad1 s x20 fun x21 s =>
 isoK (R_math_bits_Div64 φ) [x15, x19, x21] s fun x22 s =>
 kExt x22 0 s fun x23 s =>
 kExt x22 1 s fun x24 s =>
 kIaddr 1 s x14 x16 fun x25 s =>
 kStore 1 s x25 x23 fun _ s =>
 kSub x16 (.i .i64 (.ofNat 1)) fun x26 =>
 q11 x12 x13 x14 x24 x26 s)
((R_exact_trim φ) [x14] s fun x27 s =>
 kBsl 1 [(.i .u64 (.ofNat 0))] [(0, 1, x15)] s fun x28 s =>
(R_exact_trim φ) [x28] s fun x29 s =>
 retK false s (.tup [x27, x29]) some))
theorem iso_3 {M : List D → Option D} {x y z : Nat} : isoK M [n64 x, n64 y, n64 z] s K = ob (M [n64 x, n64 y, n64 z]) fun r => finK s [] r K := rfl
theorem ob_s {α : Type} {a : α} {k : α → Rs} : ob (some a) k = k a := rfl
theorem res_sl {g : Nat → Option Blk} {n l off len cm z : Nat} {ex : Bool} {b : Blk} {r cs : List D} {ls : List Nat} (hg : g l = some b) (hl : b.st.live = true) (hc : cut off (len * z) b.cs = some r) (hm : mapO (res g n) r = some (cs, ls)) :
    res g (n + 1) (.sl l off len cm z ex) = some (.tree cs len (ex && cm == len), l :: ls) := by
  show (match g l with
    | some b => if !b.st.live then none else match cut off (len * z) b.cs with
      | some r => match mapO (res g n) r with
        | some (cs, ls) => some (D.tree cs len (ex && cm == len), l :: ls)
        | none => none
      | none => none
    | none => none) = _
  rw [hg]
  show (if !b.st.live then none else match cut off (len * z) b.cs with
      | some r => match mapO (res g n) r with
        | some (cs, ls) => some (D.tree cs len (ex && cm == len), l :: ls)
        | none => none
      | none => none) = _
  rw [hl, hc]
  show (match mapO (res g n) r with
        | some (cs, ls) => some (D.tree cs len (ex && cm == len), l :: ls)
        | none => none) = _
  rw [hm]
theorem ret_two {q r m : Nat} (hm : m ≤ 1) : retK false ((st1 [n64 q]).push ⟨[n64 r], .rw⟩) (.tup [.sl 0 0 1 1 1 true, .sl 1 0 m 1 1 true]) some = some (.tup [.tree [n64 q] 1 true, .tree ([n64 r].take m) m (true && 1 == m)]) := by
  unfold retK
  rw [fl_eq]
  show frcO (extr false ((st1 [n64 q]).push ⟨[n64 r], .rw⟩).get depth0 (.tup [.sl 0 0 1 1 1 true, .sl 1 0 m 1 1 true])) some = _
  have g0 : ((st1 [n64 q]).push ⟨[n64 r], .rw⟩).get 0 = some ⟨[n64 q], .rw⟩ := rfl
  have g1 : ((st1 [n64 q]).push ⟨[n64 r], .rw⟩).get 1 = some ⟨[n64 r], .rw⟩ := by kernel_rfl
  have hq : ∀ g, mapO (res g 59) [n64 q] = some ([n64 q], []) := fun g => mapO_flat1 (k := 58) [n64 q] rfl
  have hr : ∀ g, mapO (res g 59) ([n64 r].take m) = some ([n64 r].take m, []) := fun g => mapO_flat1 (k := 58) _ (by
    rcases Nat.eq_zero_or_pos m with h | h
    · subst h; rfl
    · have : m = 1 := by omega
      subst this; rfl)
  have c1 : cut 0 (m * 1) [n64 r] = some ([n64 r].take m) := by
    unfold cut
    rw [List.drop_zero, Nat.mul_one, if_pos (by rw [List.length_take]; simp; omega)]
  have c0 : cut 0 (1 * 1) [n64 q] = some [n64 q] := rfl
  have : extr false ((st1 [n64 q]).push ⟨[n64 r], .rw⟩).get depth0 (.tup [.sl 0 0 1 1 1 true, .sl 1 0 m 1 1 true]) = some (.tup [.tree [n64 q] 1 true, .tree ([n64 r].take m) m (true && 1 == m)]) := by
    have r0 := res_sl (n := 59) (off := 0) (len := 1) (cm := 1) (z := 1) (ex := true) g0 rfl c0 (hq _)
    have r1 := res_sl (n := 59) (off := 0) (len := m) (cm := 1) (z := 1) (ex := true) g1 rfl c1 (hr _)
    show (match resE (res ((st1 [n64 q]).push ⟨[n64 r], .rw⟩).get 60 (.sl 0 0 1 1 1 true)), mapO (res ((st1 [n64 q]).push ⟨[n64 r], .rw⟩).get 60) [.sl 1 0 m 1 1 true] with
      | some (d, o, ls), some (ds, ls') => if o.all fun l => !(ls ++ ls').contains l then some (D.tup (d :: ds)) else none
      | _, _ => none) = _
    have r2 : mapO (res ((st1 [n64 q]).push ⟨[n64 r], .rw⟩).get 60) [.sl 1 0 m 1 1 true] = some ([.tree ([n64 r].take m) m (true && 1 == m)], [1]) := by
      unfold mapO
      rw [r1]; rfl
    rw [r0, r2]; rfl
  rw [this, frcO_eq]; rfl
theorem div_iso {M : List D → Option D} {x y z q r : Nat} (h : M [n64 x, n64 y, n64 z] = some (.tup [n64 q, n64 r])) : isoK M [n64 x, n64 y, n64 z] s K = K (.tup [n64 q, n64 r]) s := by
  rw [iso_3, h, ob_s]; exact fin_2
theorem kExt_0 {a b : D} : kExt (.tup [a, b]) 0 s K = K a s := rfl
theorem kExt_1 {a b : D} : kExt (.tup [a, b]) 1 s K = K b s := rfl
theorem kBsl_one {r : Nat} : kBsl 1 [.i .u64 (.ofNat 0)] [(0, 1, n64 r)] s K = K (.sl s.nx 0 1 1 1 true) (s.push ⟨[n64 r], .rw⟩) := by
  show (kPush s ⟨[n64 r], .rw⟩ fun s' => K (.sl s.nx 0 1 1 1 true) s') = _
  rw [kPush_eq]
theorem dv_loop {x y f : Nat} {ex ey : Bool} (hx : x < B64) (hy : 0 < y) (hle : y ≤ x) : ∃ e rs e', c64 rs = (if x % y = 0 then [] else [n64 (x % y)]) ∧ lp (fun (_ _ _ _ _ : D) (_ : LS) => none) (dvF (f + 2)) (f + 2) (.tree [n64 x] 1 ex) (.tree [n64 y] 1 ey) (.sl 0 0 1 1 1 true) (.i .u64 (.ofNat 0)) (.i .i64 (.ofNat 0)) (st1 [n64 0])
    = some (.tup [.tree [n64 (x / y)] 1 e, .tree (c64 rs) rs.length e']) := by
  obtain ⟨q, r, h1, hq, hr⟩ := div64_lo (φ := f + 2) hx hy
  have hq0 : q ≠ 0 := by
    have := Nat.div_pos hle hy
    omega
  rw [← hq, ← hr]
  have e1 : ∀ (rs : List Nat) (m : Nat), m = (if r = 0 then 0 else 1) → c64 rs = (if r = 0 then [] else [n64 r]) → rs.length = m → ∃ e e', retK false ((st1 [n64 q]).push ⟨[n64 r], .rw⟩) (.tup [.sl 0 0 1 1 1 true, .sl 1 0 m 1 1 true]) some = some (.tup [.tree [n64 q] 1 e, .tree (c64 rs) rs.length e']) := by
    intro rs m hm hc hl
    by_cases h : r = 0
    · rw [if_pos h] at hm hc
      subst hm
      rw [hc, hl, ret_two (Nat.zero_le 1)]
      exact ⟨true, _, rfl⟩
    · rw [if_neg h] at hm hc
      subst hm
      rw [hc, hl, ret_two (Nat.le_refl 1)]
      exact ⟨true, _, rfl⟩
  have e2 : lp (fun (_ _ _ _ _ : D) (_ : LS) => none) (dvF (f + 2)) (f + 2) (.tree [n64 x] 1 ex) (.tree [n64 y] 1 ey) (.sl 0 0 1 1 1 true) (.i .u64 (.ofNat 0)) (.i .i64 (.ofNat 0)) (st1 [n64 0])
      = retK false ((st1 [n64 q]).push ⟨[n64 r], .rw⟩) (.tup [.sl 0 0 1 1 1 true, .sl 1 0 (if r = 0 then 0 else 1) 1 1 true]) some := by
    rw [show D.i .u64 (.ofNat 0) = n64 0 from rfl, lp_succ]; unfold dvF
    rw [kGeq_n, show Nat.ble 0 0 = true from rfl, kCond_t]
    refine (kRd).trans ?_
    refine (kRd).trans ?_
    rw [div_iso h1]
    refine (kExt_0).trans ?_
    refine (kExt_1).trans ?_
    refine (kIaddr_st1 Nat.one_pos).trans ?_
    refine (kStore_st1 Nat.one_pos).trans ?_
    refine (kSub_01).trans ?_
    rw [lp_succ]
    refine (kGeq_neg).trans ?_
    rw [kCond_f, show [n64 0].set (0 + 0) (D.i .u64 (.ofNat q)) = [n64 q] from rfl]
    refine (trim_one (f := f) (b := ⟨[n64 q], .rw⟩) (w := q) rfl rfl rfl).trans ?_
    rw [if_neg hq0, kBsl_one]
    exact trim_one (f := f) (b := ⟨[n64 r], .rw⟩) (w := r) (by kernel_rfl) rfl rfl
  by_cases h : r = 0
  · obtain ⟨e, e', h2⟩ := e1 [] 0 (by rw [if_pos h]) (by rw [if_pos h]; rfl) rfl
    refine ⟨e, [], e', by rw [if_pos h]; rfl, ?_⟩
    rw [e2, if_pos h]
    exact h2
  · obtain ⟨e, e', h2⟩ := e1 [r] 1 (by rw [if_neg h]) (by rw [if_neg h]; rfl) rfl
    refine ⟨e, [r], e', by rw [if_neg h]; rfl, ?_⟩
    rw [e2, if_neg h]
    exact h2
end
end Go.Proofs.Ev
set_option linter.unusedVariables false
set_option linter.unusedSimpArgs false
namespace Go.Proofs.Ev
noncomputable section
variable {s : LS} {K : D → LS → Rs}
def One (ws : List Nat) (m : Nat) : Prop := (m = 0 ∧ ws = []) ∨ (0 < m ∧ m < B64 ∧ ws = [m])
theorem One.val {ws : List Nat} {m : Nat} (h : One ws m) : Ev.val ws = m ∧ Small ws ∧ ws.length ≤ 1 := by
  rcases h with ⟨rfl, rfl⟩ | ⟨h1, h2, rfl⟩
  · exact ⟨rfl, (fun w hw => (by cases hw)), Nat.zero_le 1⟩
  · exact ⟨rfl, (fun w hw => (by rw [List.mem_singleton.1 hw]; exact h2)), Nat.le_refl 1⟩
theorem ret_tt {cs ds : List D} {n m : Nat} {e e' : Bool} : retK false s (.tup [.tree cs n e, .tree ds m e']) some = some (.tup [.tree cs n e, .tree ds m e']) := by
  unfold retK
  rw [fl_eq]
  show frcO _ some = _
  rw [frcO_eq]; rfl
theorem iso_t2 {M : List D → Option D} {cs ds : List D} {n m : Nat} {e e' : Bool} {k : IntKind} {z : Int} (h : M [.tree cs n e, .tree ds m e'] = some (.i k z)) : isoK M [.tree cs n e, .tree ds m e'] s K = K (.i k z) s := by
  show ob (M [.tree cs n e, .tree ds m e']) (fun r => finK s [] r K) = _
  rw [h]; rfl
theorem cmpD_lt {x y : Nat} (h : x < y) : cmpD x y = .i .i64 (.negSucc 0) := by unfold cmpD; rw [blt_true h]; rfl
theorem cmpD_ge {x y : Nat} (h : y ≤ x) : ∃ c, cmpD x y = .i .i64 (.ofNat c) := by
  unfold cmpD
  rw [blt_false (by omega), cnd_false]
  by_cases e : x = y
  · subst e; rw [beq_self]; exact ⟨0, rfl⟩
  · rw [beq_ne e]; exact ⟨1, rfl⟩
theorem divide_one {x y f : Nat} {xs ys : List Nat} {ex ey : Bool} (hX : One xs x) (hY : One ys y) (hy : 0 < y) : ∃ qs rs e e', One qs (x / y) ∧ One rs (x % y) ∧
    R_exact_divide (f + 2) [.tree (c64 xs) xs.length ex, .tree (c64 ys) ys.length ey] = some (.tup [.tree (c64 qs) qs.length e, .tree (c64 rs) rs.length e']) := by
  have hys : ys = [y] := by
    rcases hY with ⟨h1, h2⟩ | ⟨h1, h2, h3⟩
    · omega
    · exact h3
  have hyB : y < B64 := by
    rcases hY with ⟨h1, h2⟩ | ⟨h1, h2, h3⟩
    · omega
    · exact h2
  subst hys
  rcases hX with ⟨h1, h2⟩ | ⟨h1, h2, h3⟩
  · subst h1 h2
    refine ⟨[], [], true, ex, Or.inl ⟨Nat.zero_div y, rfl⟩, Or.inl ⟨Nat.zero_mod y, rfl⟩, ?_⟩
    unfold R_exact_divide
    dsimp only [u1_cons, u0_nil]
    refine (iso_t2 (cs := []) (n := 0) (ds := [n64 y]) (m := 1) cmpw_nil).trans ?_
    refine (kLss_neg).trans ?_
    rw [kCond_t]
    exact ret_tt
  · subst h3
    by_cases hlt : x < y
    · refine ⟨[], [x], true, ex, Or.inl ⟨Nat.div_eq_of_lt hlt, rfl⟩, Or.inr ⟨by rw [Nat.mod_eq_of_lt hlt]; exact h1, by rw [Nat.mod_eq_of_lt hlt]; exact h2, by rw [Nat.mod_eq_of_lt hlt]⟩, ?_⟩
      unfold R_exact_divide
      dsimp only [u1_cons, u0_nil]
      refine (iso_t2 (cs := [n64 x]) (n := 1) (ds := [n64 y]) (m := 1) (by rw [cmpw_one, cmpD_lt hlt])).trans ?_
      refine (kLss_neg).trans ?_
      rw [kCond_t]
      exact ret_tt
    · have hle : y ≤ x := by omega
      obtain ⟨c, hc⟩ := cmpD_ge hle
      obtain ⟨e, rs, e', g1, g2⟩ := dv_loop (f := f) (ex := ex) (ey := ey) h2 hy hle
      have hq : 0 < x / y := Nat.div_pos hle hy
      have hr : One rs (x % y) := by
        by_cases h : x % y = 0
        · rw [if_pos h] at g1
          refine Or.inl ⟨h, ?_⟩
          cases rs with
          | nil => rfl
          | cons a b => cases g1
        · rw [if_neg h] at g1
          have hlt := Nat.mod_lt x hy
          refine Or.inr ⟨by omega, by omega, ?_⟩
          cases rs with
          | nil => cases g1
          | cons a b =>
            cases b with
            | nil =>
              have : n64 a = n64 (x % y) := (List.cons.inj g1).1
              unfold n64 at this
              injection this with _ h4
              injection h4 with h5
              rw [h5]
            | cons _ _ => cases (List.cons.inj g1).2
      refine ⟨[x / y], rs, e, e', Or.inr ⟨hq, Nat.lt_of_le_of_lt (Nat.div_le_self x y) h2, rfl⟩, hr, ?_⟩
      unfold R_exact_divide
      dsimp only [u1_cons, u0_nil]
      refine (iso_t2 (cs := [n64 x]) (n := 1) (ds := [n64 y]) (m := 1) (by rw [cmpw_one, hc])).trans ?_
      refine (kLss_n).trans ?_
      rw [blt_false (Nat.not_lt_zero c), kCond_f]
      refine (kLen_tree).trans ?_
      refine (kEql_n).trans ?_
      rw [show Nat.beq ([y] : List Nat).length 1 = true from rfl, kCond_t]
      refine (kLen_tree).trans ?_
      refine (kMksl_s0 (n := 1) (by decide) (by decide)).trans ?_
      refine (kLen_tree).trans ?_
      refine (kSub_n (kk := .i64) (Nat.le_refl 1) (show 1 ≤ kmax .i64 by decide)).trans ?_
      exact g2
theorem iso_words_one {m : Nat} (hs : s.fit) (hm : m < B64) : ∃ x s' ws, (∀ K, isoK wordsM [.n m] s K = K x s') ∧ Hold s' x ws ∧ One ws m ∧ More s s' := by
  by_cases h0 : m = 0
  · subst h0
    exact ⟨.tree [] 0 true, s, [], fun K => rfl, .nil, Or.inl ⟨rfl, rfl⟩, More.refl s⟩
  · have hl : Nat.log2 m < 64 := (Nat.log2_lt h0).2 hm
    obtain ⟨x, s', ws, h1, h2, h3, h4, h5, h6, _⟩ := iso_words (m := m) hs (by omega)
    refine ⟨x, s', ws, h1, h2, Or.inr ⟨by omega, hm, ?_⟩, h6⟩
    have h7 : Nat.log2 m / 64 = 0 := Nat.div_eq_of_lt hl
    rw [h7] at h5
    match ws, h4, h5 with
    | [], h4, _ => exact absurd h4.symm h0
    | [w], h4, _ => rw [show val [w] = w from rfl] at h4; rw [h4]
    | _ :: _ :: _, _, h5 => simp at h5
theorem natDivMod_run {x y f : Nat} (hx : x < B64) (hy : y < B64) (h0 : 0 < y) : R_exact_NatDivMod (f + 2) [.n x, .n y] = some (.tup [.n (x / y), .n (x % y)]) := by
  obtain ⟨X, s1, xs, k1, hX, ox, m1⟩ := iso_words_one (s := s0) (m := x) rfl hx
  obtain ⟨Y, s2, ys, k2, hY, oy, m2⟩ := iso_words_one (s := s1) (m := y) (m1.len rfl) hy
  unfold R_exact_NatDivMod
  refine (k1 _).trans ?_
  refine (k2 _).trans ?_
  obtain ⟨ex, ey, ls, h1, h2⟩ := iso_two (M := R_exact_divide (f + 2)) (hX.more m2).ht hY.ht
  obtain ⟨s3, f1, f2, f3⟩ := frzK_ex ls s2 h2
  obtain ⟨qs, rs, e, e', g1, g2, g3⟩ := divide_one (f := f) (ex := ex) (ey := ey) ox oy h0
  refine (h1 _).trans ?_
  rw [g3, ob_s, fin_tup, f1]
  refine (kExt_0).trans ?_
  refine (kExt_1).trans ?_
  obtain ⟨v1, v2, v3⟩ := g1.val
  obtain ⟨w1, w2, w3⟩ := g2.val
  refine (iso_pack_ht HT.tr v2 (by omega)).trans ?_
  refine (iso_pack_ht HT.tr w2 (by omega)).trans ?_
  rw [v1, w1]; rfl
def natDivModM (φ : Nat) (as : List D) : Option D :=
  u1 as fun a r => u1 r fun b r => u0 r (onNum a fun x => onNum b fun y => cnd (Nat.blt x B64) (cnd (Nat.blt y B64) (cnd (Nat.blt 0 y) (frc (Nat.div x y) fun q => frc (Nat.mod x y) fun r => some (.tup [.n q, .n r])) none) (R_exact_NatDivMod φ as)) (R_exact_NatDivMod φ as))
theorem cnd_cases {b : Bool} {t e : Rs} {q : D} (h : cnd b t e = some q) : (b = true ∧ t = some q) ∨ e = some q := by
  cases b with
  | true => exact Or.inl ⟨rfl, h⟩
  | false => exact Or.inr h
theorem lt_of_blt {a b : Nat} (h : Nat.blt a b = true) : a < b := Nat.le_of_ble_eq_true h
theorem natDivModM_run {φ : Nat} {as : List D} {r : D} (h : natDivModM φ as = some r) : ∃ φ', R_exact_NatDivMod φ' as = some r := by
  obtain ⟨a, r1, rfl, g1⟩ := u1_some h
  obtain ⟨b, r2, rfl, g2⟩ := u1_some g1
  obtain ⟨rfl, g3⟩ := u0_some g2
  obtain ⟨x, rfl, g4⟩ := onNum_some g3
  obtain ⟨y, rfl, g5⟩ := onNum_some g4
  rcases cnd_cases g5 with ⟨h1, g6⟩ | g6
  · rcases cnd_cases g6 with ⟨h2, g7⟩ | g7
    · obtain ⟨h3, g8⟩ := ob_cond g7
      rw [frc_eq, frc_eq] at g8
      exact ⟨2, by rw [natDivMod_run (f := 0) (lt_of_blt h1) (lt_of_blt h2) (lt_of_blt h3)]; exact g8⟩
    · exact ⟨φ, g7⟩
  · exact ⟨φ, g6⟩
def gcF (φ : Nat) (q5 : D → D → LS → Rs) (x6 x7 : D) (s : LS) : Rs := (
 kLen x7 s fun x8 s =>
 kGtr x8 (.i .i64 (.ofNat 0)) fun x9 =>
 kCond x9
(isoK (R_exact_divide φ) [x6, x7] s fun x10 s =>
 kExt x10 0 s fun x11 s =>
 kExt x10 1 s fun x12 s =>
 q5 x7 x12 s)
(isoK packM [x6] s fun x13 s =>
 retK false s x13 some))
theorem gc_loop {g : Nat} : ∀ (f x y : Nat) (xs ys : List Nat) (X Y : D) (s : LS), y < f → HT s X xs → HT s Y ys → One xs x → One ys y → lp (fun (_ _ : D) (_ : LS) => none) (gcF (g + 2)) f X Y s = some (.n (Nat.gcd x y))
  | 0, x, y, xs, ys, X, Y, s, hf, hX, hY, ox, oy => by omega
  | f + 1, x, y, xs, ys, X, Y, s, hf, hX, hY, ox, oy => by
    rw [lp_succ]; unfold gcF
    refine (kLen_ht hY).trans ?_
    refine (kGtr_n).trans ?_
    by_cases h0 : y = 0
    · have hys : ys = [] := by
        rcases oy with ⟨h1, h2⟩ | ⟨h1, h2, h3⟩
        · exact h2
        · omega
      subst hys h0
      rw [show Nat.blt 0 ([] : List Nat).length = false from rfl, kCond_f]
      obtain ⟨v1, v2, v3⟩ := ox.val
      refine (iso_pack_ht hX v2 (by omega)).trans ?_
      rw [v1, Nat.gcd_zero_right]; rfl
    · have hys : ys = [y] := by
        rcases oy with ⟨h1, h2⟩ | ⟨h1, h2, h3⟩
        · omega
        · exact h3
      rw [show Nat.blt 0 ys.length = true by rw [hys]; rfl, kCond_t]
      obtain ⟨ex, ey, ls, h1, h2⟩ := iso_two (M := R_exact_divide (g + 2)) hX hY
      obtain ⟨s3, f1, f2, f3⟩ := frzK_ex ls s h2
      obtain ⟨qs, rs, e, e', g1, g2, g3⟩ := divide_one (f := g) (ex := ex) (ey := ey) ox oy (by omega)
      refine (h1 _).trans ?_
      rw [g3, ob_s, fin_tup, f1]
      refine (kExt_0).trans ?_
      refine (kExt_1).trans ?_
      have ih := gc_loop (g := g) f y (x % y) ys rs Y _ s3 (by have := Nat.mod_lt x (show 0 < y by omega); omega) (f2 _ _ hY) (HT.tr (ex := e')) oy g2
      have e1 : Nat.gcd x y = Nat.gcd y (x % y) := by
        rw [Nat.gcd_comm x y, Nat.gcd_rec y x, Nat.gcd_comm]
      rw [e1]
      exact ih
theorem natGcd_run {x y f : Nat} (hx : x < B64) (hy : y < B64) (hf : y < f) : R_exact_NatGcd (f + 2) [.n x, .n y] = some (.n (Nat.gcd x y)) := by
  obtain ⟨X, s1, xs, k1, hX, ox, m1⟩ := iso_words_one (s := s0) (m := x) rfl hx
  obtain ⟨Y, s2, ys, k2, hY, oy, m2⟩ := iso_words_one (s := s1) (m := y) (m1.len rfl) hy
  unfold R_exact_NatGcd
  refine (k1 _).trans ?_
  refine (k2 _).trans ?_
  exact gc_loop (g := f) (f + 2) x y xs ys X Y s2 (by omega) (hX.more m2).ht hY.ht ox oy
def natGcdM (φ : Nat) (as : List D) : Option D :=
  u1 as fun a r => u1 r fun b r => u0 r (onNum a fun x => onNum b fun y => cnd (Nat.blt x B64) (cnd (Nat.blt y B64) (frc (Nat.gcd x y) fun z => some (.n z)) (R_exact_NatGcd φ as)) (R_exact_NatGcd φ as))
theorem natGcdM_run {φ : Nat} {as : List D} {r : D} (h : natGcdM φ as = some r) : ∃ φ', R_exact_NatGcd φ' as = some r := by
  obtain ⟨a, r1, rfl, g1⟩ := u1_some h
  obtain ⟨b, r2, rfl, g2⟩ := u1_some g1
  obtain ⟨rfl, g3⟩ := u0_some g2
  obtain ⟨x, rfl, g4⟩ := onNum_some g3
  obtain ⟨y, rfl, g5⟩ := onNum_some g4
  rcases cnd_cases g5 with ⟨h1, g6⟩ | g6
  · rcases cnd_cases g6 with ⟨h2, g7⟩ | g7
    · rw [frc_eq] at g7
      exact ⟨y + 1 + 2, by rw [natGcd_run (lt_of_blt h1) (lt_of_blt h2) (Nat.lt_succ_self y)]; exact g7⟩
    · exact ⟨φ, g7⟩
  · exact ⟨φ, g6⟩
end
end Go.Proofs.Ev
set_option linter.unusedVariables false
set_option linter.unusedSimpArgs false
namespace Go.Proofs.Ev
noncomputable section
def eqLL (f : D → D → Bool) (xs : List D) : List D → Bool :=
  List.rec (motive := fun _ => List D → Bool) (fun ys => List.rec (motive := fun _ => Bool) true (fun _ _ _ => false) ys) (fun x _ ih ys => List.rec (motive := fun _ => Bool) false (fun y ys _ => cnd (f x y) (ih ys) false) ys) xs
def eqS (f : D → D → Bool) : D → D → Bool
  | .i k (.ofNat a), .i k' (.ofNat b) => cnd (Nat.beq (kcode k) (kcode k')) (Nat.beq a b) false
  | .i k (.negSucc a), .i k' (.negSucc b) => cnd (Nat.beq (kcode k) (kcode k')) (Nat.beq a b) false
  | .b a, .b b => cnd a b (not b)
  | .n a, .n b => Nat.beq a b
  | .tree cs n e, .tree cs' n' e' => cnd (Nat.beq n n') (cnd (cnd e e' (not e')) (eqLL f cs cs') false) false
  | .agg cs, .agg cs' => eqLL f cs cs'
  | _, _ => false
def eqN (n : Nat) : D → D → Bool := Nat.rec (fun _ _ => false) (fun _ ih => eqS ih) n
theorem cnd_and {a b : Bool} (h : cnd a b false = true) : a = true ∧ b = true := by
  cases a <;> simp_all
theorem cnd_same {a b : Bool} (h : cnd a b (not b) = true) : a = b := by
  cases a <;> cases b <;> simp_all
theorem eqLL_eq {f : D → D → Bool} (hf : ∀ x y, f x y = true → x = y) : ∀ {xs ys : List D}, eqLL f xs ys = true → xs = ys
  | [], [], _ => rfl
  | x :: xs, y :: ys, h => by
    obtain ⟨h1, h2⟩ := cnd_and h
    rw [hf _ _ h1, eqLL_eq hf h2]
  | [], _ :: _, h => by cases h
  | _ :: _, [], h => by cases h
theorem eqS_eq {f : D → D → Bool} (hf : ∀ x y, f x y = true → x = y) : ∀ {x y : D}, eqS f x y = true → x = y := by
  intro x y h
  unfold eqS at h
  split at h
  · obtain ⟨h1, h2⟩ := cnd_and h
    rw [kcode_inj h1, Nat.eq_of_beq_eq_true h2]
  · obtain ⟨h1, h2⟩ := cnd_and h
    rw [kcode_inj h1, Nat.eq_of_beq_eq_true h2]
  · rw [cnd_same h]
  · rw [Nat.eq_of_beq_eq_true h]
  · obtain ⟨h1, h2⟩ := cnd_and h
    obtain ⟨h3, h4⟩ := cnd_and h2
    rw [Nat.eq_of_beq_eq_true h1, cnd_same h3, eqLL_eq hf h4]
  · rw [eqLL_eq hf h]
  · cases h
theorem eqN_eq : ∀ (n : Nat) (x y : D), eqN n x y = true → x = y
  | 0, x, y, h => by cases h
  | n + 1, x, y, h => eqS_eq (eqN_eq n) h
def ti (l : List Nat) (e : Bool) : D := .tree (List.rec (motive := fun _ => List D) [] (fun n _ r => .i .i64 (.ofNat n) :: r) l) l.length e
def zi (l : List Nat) (e : Bool) : D := .tree (List.rec (motive := fun _ => List D) [] (fun n _ r => .b false :: .n n :: r) l) l.length e
def qi (l : List (Bool × Nat)) (e : Bool) : D := .tree (List.rec (motive := fun _ => List D) [] (fun p _ r => .b p.1 :: .n p.2 :: .n 1 :: r) l) l.length e
def eqA (xs ys : List D) : Bool := eqLL (eqN 40) xs ys
def tabM (L : List (List D × D)) (R : List D → Option D) (xs : List D) : Option D :=
  List.rec (motive := fun _ => Option D) (R xs) (fun e _ ih => cnd (eqA xs e.1) (some e.2) ih) L
def TabOk (R : Nat → List D → Option D) (L : List (List D × D)) : Prop := ∀ e, e ∈ L → ∃ φ, R φ e.1 = some e.2
theorem TabOk.nil {R : Nat → List D → Option D} : TabOk R [] := fun e h => by cases h
theorem TabOk.cons {R : Nat → List D → Option D} {L : List (List D × D)} {k : List D} {v : D} {φ : Nat} (h : R φ k = some v) (hL : TabOk R L) : TabOk R ((k, v) :: L) := fun e he => by
  rcases List.mem_cons.1 he with rfl | he
  · exact ⟨φ, h⟩
  · exact hL e he
theorem tabM_run {R : Nat → List D → Option D} {φ : Nat} {xs : List D} {r : D} : ∀ {L : List (List D × D)}, TabOk R L → tabM L (R φ) xs = some r → ∃ φ', R φ' xs = some r
  | [], _, h => ⟨φ, h⟩
  | e :: L, hL, h => by
    have h : cnd (eqA xs e.1) (some e.2) (tabM L (R φ) xs) = some r := h
    cases hq : eqA xs e.1 with
    | true =>
      rw [hq, cnd_true] at h
      rw [eqLL_eq (eqN_eq 40) hq, ← h]
      exact hL e (List.mem_cons_self ..)
    | false =>
      rw [hq, cnd_false] at h
      exact tabM_run (fun e' he => hL e' (List.mem_cons_of_mem _ he)) h
end
end Go.Proofs.Ev
set_option linter.unusedVariables false
set_option linter.unusedSimpArgs false
namespace Go.Proofs.Ev
noncomputable section
variable {s : LS} {K : D → LS → Rs}
def ni (n : Nat) : D := .i .i64 (.ofNat n)
def ci (l : List Nat) : List D := l.map ni
theorem ci_len (l : List Nat) : (ci l).length = l.length := List.length_map _
theorem ci_get {l : List Nat} {i n : Nat} (h : l[i]? = some n) : (ci l)[i]? = some (ni n) := by
  unfold ci; rw [List.getElem?_map, h]; rfl
theorem ci_append (a b : List Nat) : ci (a ++ b) = ci a ++ ci b := List.map_append ..
theorem ci_flat : ∀ (l : List Nat), (ci l).all flat1 = true
  | [] => rfl
  | x :: l => ci_flat l
theorem ci_rep (n : Nat) : List.replicate n (D.i .i64 (.ofNat 0)) = ci (List.replicate n 0) := by
  unfold ci; rw [List.map_replicate]; rfl
theorem kRead_td {cs : List D} {len i : Nat} {ex : Bool} {d : D} {k2 : IntKind} (h : i < len) (hi : cs[i]? = some d) : (kIaddr 1 s (.tree cs len ex) (.i k2 (.ofNat i)) fun a s => kLoad1 s a K) = K d s := by
  rw [kIaddr_tree h hi]; rfl
theorem mapK_flat {n : Nat} : ∀ {cs : List D} {kk : List D → List Nat → Rs}, cs.all flat1 = true → mapK (resK s (n + 1)) cs kk = kk cs []
  | [], kk, _ => rfl
  | d :: cs, kk, h => by
    simp only [List.all_cons, Bool.and_eq_true] at h
    have h1 : ∀ (k : D → List Nat → Rs), resK s (n + 1) d k = k d [] := by
      intro k
      cases d <;> first | rfl | (simp [flat1] at h)
    show (resK s (n + 1) d fun y a => mapK (resK s (n + 1)) cs fun ys b => appK a b fun ab => kk (y :: ys) ab) = _
    rw [h1, mapK_flat h.2]; rfl
theorem res_flat {l len cm n : Nat} {ex : Bool} {b : Blk} (hg : s.get l = some b) (hl : b.st.live = true) (hf : b.cs.all flat1 = true) (hlen : len ≤ b.cs.length) : ∃ e, ∀ kk, resK s (n + 2) (.sl l 0 len cm 1 ex) kk = kk (.tree (b.cs.take len) len e) [l] := by
  refine ⟨cnd ex (Nat.beq cm len) false, fun kk => ?_⟩
  show (kGet s l fun b => cnd (lv b.st) (dropK 0 b.cs fun r => takeK (Nat.mul len 1) r fun r => mapK (resK s (n + 1)) r fun cs ls => frcB (cnd ex (Nat.beq cm len) false) fun ex => kk (.tree cs len ex) (l :: ls)) none) = _
  rw [kGet_eq, hg]
  show cnd (lv b.st) (dropK 0 b.cs fun r => takeK (Nat.mul len 1) r fun r => mapK (resK s (n + 1)) r fun cs ls => frcB (cnd ex (Nat.beq cm len) false) fun ex => kk (.tree cs len ex) (l :: ls)) none = _
  have hf2 : (b.cs.take len).all flat1 = true := by
    rw [List.all_eq_true] at hf ⊢
    exact fun x hx => hf x (List.mem_of_mem_take hx)
  rw [lv_eq, hl, cnd_true, dropK_eq, takeK_eq, show Nat.mul len 1 = len from Nat.mul_one _, List.drop_zero, if_pos hlen, mapK_flat hf2, frcB_eq]
theorem ret_tree {cs : List D} {n : Nat} {e : Bool} : retK false s (.tree cs n e) some = some (.tree cs n e) := by
  unfold retK
  rw [fl_eq]
  show frcO _ some = _
  rw [frcO_eq]; rfl
theorem iso_1t {M : List D → Option D} {l len cm : Nat} {ex : Bool} {b : Blk} {cs' : List D} {n' : Nat} {e' : Bool} (hg : s.get l = some b) (hl : b.st.live = true) (hf : b.cs.all flat1 = true) (hlen : len ≤ b.cs.length)
    (hM : ∀ e, M [.tree (b.cs.take len) len e] = some (.tree cs' n' e')) : ∃ s', (∀ K, isoK M [.sl l 0 len cm 1 ex] s K = K (.tree cs' n' e') s') ∧ ∀ l' b', l' ≠ l → s.get l' = some b' → s'.get l' = some b' := by
  obtain ⟨e, he⟩ := res_flat (n := 58) (cm := cm) (ex := ex) hg hl hf hlen
  refine ⟨s.put l ⟨b.cs, .frz⟩, fun K => ?_, fun l' b' hne h => by rw [lsget_put hg, if_neg hne]; exact h⟩
  show resK s 60 (.sl l 0 len cm 1 ex) (fun y a => appK a [] fun ab => ob (M [y]) fun r => finK s ab r K) = _
  rw [he, appK_eq, hM]
  show (kGet s l fun b => kPut s l ⟨b.cs, .frz⟩ fun s => K (.tree cs' n' e') s) = _
  rw [kGet_eq, hg]
  show (kPut s l ⟨b.cs, .frz⟩ fun s => K (.tree cs' n' e') s) = _
  rw [kPut_get hg]

def tz : List Nat → List Nat
  | [] => []
  | a :: l => match tz l with
    | [] => if a = 0 then [] else [a]
    | b :: r => a :: b :: r
theorem tz_nil : tz [] = [] := rfl
theorem tz_snoc0 : ∀ (l : List Nat), tz (l ++ [0]) = tz l
  | [] => rfl
  | a :: l => by
    show (match tz (l ++ [0]) with | [] => if a = 0 then [] else [a] | b :: r => a :: b :: r) = (match tz l with | [] => if a = 0 then [] else [a] | b :: r => a :: b :: r)
    rw [tz_snoc0 l]
theorem tz_snoc : ∀ (l : List Nat) {w : Nat}, w ≠ 0 → tz (l ++ [w]) = l ++ [w]
  | [], w, h => by
    show (if w = 0 then [] else [w]) = [w]
    rw [if_neg h]
  | a :: l, w, h => by
    show (match tz (l ++ [w]) with | [] => if a = 0 then [] else [a] | b :: r => a :: b :: r) = a :: (l ++ [w])
    rw [tz_snoc l h]
    cases l <;> rfl
def ftF (q3 : D → D → LS → Rs) (x4 x5 : D) (s : LS) : Rs := (
 kGtr x5 (.i .i64 (.ofNat 0)) fun x6 =>
 kGuard x6 true (fun k => k x4 s) s fun x7 s =>
 kGuard x6 true (fun k => k x5 s) s fun x8 s =>
 kGuard x6 true (fun k => kSub x8 (.i .i64 (.ofNat 1)) fun d => k d s) s fun x9 s =>
 kGuard x6 true (fun k => kIaddr 1 s x7 x9 k) s fun x10 s =>
 kGuard x6 true (fun k => kLoad1 s x10 k) s fun x11 s =>
 kGuard x6 true (fun k => kEql x11 (.i .i64 (.ofNat 0)) fun d => k d s) s fun x12 s =>
 kPick x6 x12 (.b false) s fun x13 s =>
 kCond x13
(kSub x5 (.i .i64 (.ofNat 1)) fun x14 =>
 q3 x4 x14 s)
(kSlice 1 s x4 none (some x5) (some x5) fun x15 s =>
 retK false s x15 some))
theorem kSlice_tm {cs : List D} {len h : Nat} {ex : Bool} {k : D → LS → Rs} (hh : h ≤ len) (hl : cs.length = len) : kSlice 1 s (.tree cs len ex) none (some (.i .i64 (.ofNat h))) (some (.i .i64 (.ofNat h))) k = k (.tree (cs.take h) h true) s := by
  show cnd (Nat.ble h len) (cnd (Nat.ble h h) (cnd (Nat.ble 0 h) (cnd (Nat.beq cs.length (Nat.mul len 1))
        (dropK (Nat.mul 0 1) cs fun cs => frc (Nat.sub h 0) fun n => takeK (Nat.mul n 1) cs fun cs =>
          frcB (Nat.beq h h) fun ex => k (.tree cs n ex) s)
        none) none) none) none = _
  rw [Nat.ble_eq_true_of_le (Nat.le_refl h), Nat.ble_eq_true_of_le hh, Nat.ble_eq_true_of_le (Nat.zero_le h), hl, show Nat.mul len 1 = len from Nat.mul_one len, beq_self, beq_self]
  simp only [cnd_true, dropK_eq, frc_eq, frcB_eq]
  rw [show Nat.mul 0 1 = 0 from rfl, List.drop_zero, show Nat.sub h 0 = h from rfl, takeK_eq, show Nat.mul h 1 = h from Nat.mul_one h, if_pos (by omega)]
theorem ft_loop {ws : List Nat} {ex : Bool} (hlen : ws.length ≤ 9223372036854775807) : ∀ (n f : Nat), n ≤ ws.length → n < f →
    lp (fun (_ _ : D) (_ : LS) => none) ftF f (.tree (ci ws) ws.length ex) (.i .i64 (.ofNat n)) s = some (.tree (ci (tz (ws.take n))) (tz (ws.take n)).length true)
  | 0, f + 1, hn, hf => by
    rw [lp_succ]; unfold ftF
    simp only [kGtr_n, blt_false (Nat.lt_irrefl 0), kGuard_f, kPick_f, kCond_f]
    refine (kSlice_tm (Nat.zero_le _) (ci_len ws)).trans ?_
    exact ret_tree
  | n + 1, f + 1, hn, hf => by
    have hlt : n < ws.length := by omega
    have hw := List.getElem?_eq_getElem hlt
    have htk : ws.take (n + 1) = ws.take n ++ [ws[n]] := List.take_succ_eq_append_getElem hlt
    have hm : n + 1 ≤ kmax .i64 := by show n + 1 ≤ 9223372036854775807; omega
    rw [lp_succ]; unfold ftF
    simp only [kGtr_n, blt_true (Nat.succ_pos n), kGuard_t, kSub_n (show 1 ≤ n + 1 by omega) hm, Nat.add_sub_cancel]
    refine (kRead_td hlt (ci_get hw)).trans ?_
    refine (kEql_n).trans ?_
    by_cases h0 : ws[n] = 0
    · rw [h0, beq_self, kPick_t, kCond_t, htk, h0, tz_snoc0]
      exact ft_loop hlen n f (by omega) (by omega)
    · rw [beq_ne h0, kPick_t, kCond_f, htk, tz_snoc _ h0, ← htk]
      refine (kSlice_tm hn (ci_len ws)).trans ?_
      rw [List.length_take, Nat.min_eq_left hn]
      unfold ci; rw [List.map_take]
      exact ret_tree
theorem fpTrim_run {ws : List Nat} {ex : Bool} {φ : Nat} (hlen : ws.length ≤ 9223372036854775807) (hφ : ws.length < φ) : R_fp_Trim φ [.tree (ci ws) ws.length ex] = some (.tree (ci (tz ws)) (tz ws).length true) := by
  show (kLen (.tree (ci ws) ws.length ex) s0 fun x2 s => lp (fun (_ _ : D) (_ : LS) => none) ftF φ (.tree (ci ws) ws.length ex) x2 s) = _
  rw [kLen_tree, ft_loop hlen ws.length φ (Nat.le_refl _) hφ, List.take_length]
end
end Go.Proofs.Ev
set_option linter.unusedVariables false
set_option linter.unusedSimpArgs false
namespace Go.Proofs.Ev
noncomputable section
variable {s : LS} {K : D → LS → Rs}
def LIM : Nat := 2147483648
def Lo (l : List Nat) : Prop := ∀ x, x ∈ l → x < LIM
theorem lim_ok {a b c : Nat} (ha : a < LIM) (hb : b < LIM) (hc : c < LIM) : a * b + c ≤ kmax .i64 := by
  show a * b + c ≤ 9223372036854775807
  have h1 : a * b ≤ 2147483648 * 2147483648 := Nat.mul_le_mul (Nat.le_of_lt ha) (Nat.le_of_lt hb)
  have h2 : c < 2147483648 := hc
  omega
theorem lim_mul {a b : Nat} (ha : a < LIM) (hb : b < LIM) : a * b ≤ kmax .i64 := Nat.le_trans (Nat.le_add_right _ _) (lim_ok ha hb ha)
theorem Lo.get {l : List Nat} (h : Lo l) {i n : Nat} (hi : l[i]? = some n) : n < LIM := h n (List.mem_of_getElem? hi)
theorem Lo.append {a b : List Nat} (ha : Lo a) (hb : Lo b) : Lo (a ++ b) := fun x hx => by
  rcases List.mem_append.1 hx with h | h
  · exact ha x h
  · exact hb x h
theorem Lo.tail {a : Nat} {l : List Nat} (h : Lo (a :: l)) : Lo l := fun x hx => h x (List.mem_cons_of_mem _ hx)
theorem Lo.head {a : Nat} {l : List Nat} (h : Lo (a :: l)) : a < LIM := h a (List.mem_cons_self ..)
theorem Lo.cons {a : Nat} {l : List Nat} (h1 : a < LIM) (h : Lo l) : Lo (a :: l) := fun x hx => by
  rcases List.mem_cons.1 hx with rfl | hx
  · exact h1
  · exact h x hx
theorem ci_set (l : List Nat) (i w : Nat) : (ci l).set i (.i .i64 (.ofNat w)) = ci (l.set i w) := by
  unfold ci; rw [List.map_set]; rfl
theorem set_mid (a : List Nat) (o w : Nat) (b : List Nat) {i : Nat} (h : a.length = i) : (a ++ o :: b).set i w = (a ++ [w]) ++ b := by
  rw [← h, List.set_append_right _ _ (Nat.le_refl _), Nat.sub_self, List.append_assoc]; rfl
theorem get_mid (a : List Nat) (o : Nat) (b : List Nat) {i : Nat} (h : a.length = i) : (a ++ o :: b)[i]? = some o := by
  rw [List.getElem?_append_right (by omega), h, Nat.sub_self]; rfl
def rowL (p x : Nat) : List Nat → List Nat → List Nat
  | [], os => os
  | _ :: _, [] => []
  | y :: ys, o :: os => (o + x * y) % p :: rowL p x ys os
theorem rowL_len {p x : Nat} : ∀ {ys os : List Nat}, ys.length ≤ os.length → (rowL p x ys os).length = os.length
  | [], os, _ => rfl
  | y :: ys, [], h => by simp at h
  | y :: ys, o :: os, h => congrArg Nat.succ (rowL_len (Nat.le_of_succ_le_succ h))
theorem rowL_lo {p x : Nat} (hp : 0 < p) (hpL : p < LIM) : ∀ {ys os : List Nat}, Lo os → Lo (rowL p x ys os)
  | [], os, h => h
  | y :: ys, [], h => fun x hx => by cases hx
  | y :: ys, o :: os, h => Lo.cons (Nat.lt_trans (Nat.mod_lt _ hp) hpL) (rowL_lo hp hpL h.tail)
def mulR (p : Nat) (ys : List Nat) : List Nat → List Nat → List Nat
  | [], os => os
  | x :: xr, os => match rowL p x ys os with
    | [] => []
    | o :: os' => o :: mulR p ys xr os'
def fmI (φ : Nat) (q16 : D → D → D → D → D → D → LS → Rs) (q27 : D → D → D → D → D → D → D → D → D → D → D → LS → Rs) (x28 x29 x30 x31 x32 x33 x34 x35 x36 x37 x38 : D) (s : LS) : Rs := (
 kLss x38 x37 fun x39 =>
 kCond x39
(kIaddr 1 s x36 x38 fun x40 s =>
 kLoad1 s x40 fun x41 s =>
 kAdd x31 x38 fun x42 =>
 kAdd x31 x38 fun x43 =>
 kIaddr 1 s x30 x43 fun x44 s =>
 kLoad1 s x44 fun x45 s =>
 kMul x32 x41 fun x46 =>
 kAdd x45 x46 fun x47 =>
 kRem x47 x28 fun x48 =>
 kIaddr 1 s x30 x42 fun x49 s =>
 kStore 1 s x49 x48 fun _ s =>
 kAdd x38 (.i .i64 (.ofNat 1)) fun x50 =>
 q27 x28 x29 x30 x31 x32 x33 x34 x35 x36 x37 x50 s)
(kAdd x35 (.i .i64 (.ofNat 1)) fun x51 =>
 q16 x28 x29 x30 x33 x34 x51 s))
theorem fm_in {ys : List Nat} {ey : Bool} {p x i N φ : Nat} {q16 : D → D → D → D → D → D → LS → Rs} {X33 X34 : D} (hp : 0 < p) (hpL : p < LIM) (hx : x < LIM) (hys : Lo ys) (hN : N ≤ 1000000000) :
    ∀ (yr os yd done : List Nat) (f : Nat), ys = yd ++ yr → done.length = i + yd.length → (done ++ os).length = N → yr.length ≤ os.length → yr.length < f → Lo os → i < N →
    lp (fun (_ _ _ _ _ _ _ _ _ _ _ : D) (_ : LS) => none) (fmI φ q16) f (ni p) (.tree (ci ys) ys.length ey) (.sl 0 0 N N 1 true) (ni i) (ni x) X33 X34 (ni i) (.tree (ci ys) ys.length ey) (ni ys.length) (ni yd.length) (st1 (ci (done ++ os)))
      = q16 (ni p) (.tree (ci ys) ys.length ey) (.sl 0 0 N N 1 true) X33 X34 (ni (i + 1)) (st1 (ci (done ++ rowL p x yr os)))
  | [], os, yd, done, f + 1, h1, h2, h3, h4, h5, h6, h7 => by
    rw [List.append_nil] at h1
    rw [lp_succ]; unfold fmI
    refine (kLss_n).trans ?_
    rw [blt_false (by rw [h1]; exact Nat.lt_irrefl _), kCond_f]
    exact kAdd_n (show i + 1 ≤ kmax .i64 from (by show i + 1 ≤ 9223372036854775807; omega))
  | y :: yr, [], yd, done, f, h1, h2, h3, h4, h5, h6, h7 => by simp at h4
  | y :: yr, o :: os, yd, done, f + 1, h1, h2, h3, h4, h5, h6, h7 => by
    have hlt : yd.length < ys.length := by rw [h1]; simp
    have hy : ys[yd.length]? = some y := by rw [h1]; exact get_mid _ _ _ rfl
    have hyL := hys.get hy
    have hoL : o < LIM := h6.head
    have hin : i + yd.length < N := by
      rw [List.length_append, List.length_cons] at h3; omega
    have hB : x * y + o ≤ kmax .i64 := lim_ok hx hyL hoL
    have ha : i + yd.length ≤ kmax .i64 := by show i + yd.length ≤ 9223372036854775807; omega
    rw [lp_succ]; unfold fmI
    refine (kLss_n).trans ?_
    rw [blt_true hlt, kCond_t]
    refine (kRead_td (by exact hlt) (ci_get hy)).trans ?_
    refine (kAdd_n ha).trans ?_
    refine (kAdd_n ha).trans ?_
    refine (kIaddr_st1 hin).trans ?_
    rw [Nat.zero_add]
    refine (kLoad1_st1 (ci_get (get_mid done o os h2))).trans ?_
    refine (kMul_n (Nat.le_trans (Nat.le_add_right _ _) hB)).trans ?_
    refine (kAdd_n (by rw [Nat.add_comm]; exact hB)).trans ?_
    refine (kRem_n (Nat.ne_of_gt hp)).trans ?_
    refine (kIaddr_st1 hin).trans ?_
    rw [Nat.zero_add]
    refine (kStore_st1 (by rw [ci_len]; omega)).trans ?_
    refine (kAdd_n (show yd.length + 1 ≤ kmax .i64 from (by show yd.length + 1 ≤ 9223372036854775807; omega))).trans ?_
    rw [ci_set, set_mid done o _ os h2]
    have ih := fm_in (φ := φ) (ey := ey) (q16 := q16) (X33 := X33) (X34 := X34) hp hpL hx hys hN yr os (yd ++ [y]) (done ++ [(o + x * y) % p]) f (by rw [h1, List.append_assoc]; rfl) (by simp; omega) (by rw [← h3]; simp) (Nat.le_of_succ_le_succ h4) (by simp at h5; omega) h6.tail h7
    rw [show (yd ++ [y]).length = yd.length + 1 by simp] at ih
    refine Eq.trans ih ?_
    rw [List.append_assoc]; rfl
def fmO (φ : Nat) (q16 : D → D → D → D → D → D → LS → Rs) (x17 x18 x19 x20 x21 x22 : D) (s : LS) : Rs := (
 kLss x22 x21 fun x23 =>
 kCond x23
(kIaddr 1 s x20 x22 fun x24 s =>
 kLoad1 s x24 fun x25 s =>
 kLen x18 s fun x26 s =>
 lp (fun (_ _ _ _ _ _ _ _ _ _ _ : D) (_ : LS) => none) (fmI φ q16) φ x17 x18 x19 x22 x25 x20 x21 x22 x18 x26 (.i .i64 (.ofNat 0)) s)
(isoK (R_fp_Trim φ) [x19] s fun x52 s =>
 retK false s x52 some))
theorem fm_out {xs ys : List Nat} {ex ey : Bool} {p N φ : Nat} (hp : 0 < p) (hpL : p < LIM) (hxs : Lo xs) (hys : Lo ys) (hN : N ≤ 1000000000) (hy0 : 0 < ys.length) (hφ : ys.length < φ) :
    ∀ (xr os xd done : List Nat) (f : Nat), xs = xd ++ xr → done.length = xd.length → (done ++ os).length = N → os.length + 1 = xr.length + ys.length → xr.length < f → Lo os →
    lp (fun (_ _ _ _ _ _ : D) (_ : LS) => none) (fmO φ) f (ni p) (.tree (ci ys) ys.length ey) (.sl 0 0 N N 1 true) (.tree (ci xs) xs.length ex) (ni xs.length) (ni xd.length) (st1 (ci (done ++ os)))
      = isoK (R_fp_Trim φ) [.sl 0 0 N N 1 true] (st1 (ci (done ++ mulR p ys xr os))) fun x52 s => retK false s x52 some
  | [], os, xd, done, f + 1, h1, h2, h3, h4, h5, h6 => by
    rw [List.append_nil] at h1
    rw [lp_succ]; unfold fmO
    refine (kLss_n).trans ?_
    rw [blt_false (by rw [h1]; exact Nat.lt_irrefl _), kCond_f]
    rfl
  | x :: xr, os, xd, done, f + 1, h1, h2, h3, h4, h5, h6 => by
    have hlt : xd.length < xs.length := by rw [h1]; simp
    have hx : xs[xd.length]? = some x := by rw [h1]; exact get_mid _ _ _ rfl
    have hle : ys.length ≤ os.length := by simp at h4; omega
    rw [lp_succ]; unfold fmO
    refine (kLss_n).trans ?_
    rw [blt_true hlt, kCond_t]
    refine (kRead_td (by exact hlt) (ci_get hx)).trans ?_
    refine (kLen_tree).trans ?_
    refine Eq.trans (fm_in (φ := φ) (ey := ey) (i := xd.length) hp hpL (hxs.get hx) hys hN ys os [] done φ rfl (by simp; omega) h3 hle hφ h6 (by rw [← h3, List.length_append]; omega)) ?_
    cases hr : rowL p x ys os with
    | nil =>
      have := rowL_len (p := p) (x := x) hle
      rw [hr] at this
      simp at this; omega
    | cons o os' =>
      have hl := rowL_len (p := p) (x := x) hle
      rw [hr, List.length_cons] at hl
      have hlo := rowL_lo (x := x) hp hpL (ys := ys) h6
      rw [hr] at hlo
      have ih := fm_out (ex := ex) (ey := ey) (N := N) hp hpL hxs hys hN hy0 hφ xr os' (xd ++ [x]) (done ++ [o]) f (by rw [h1, List.append_assoc]; rfl) (by simp; omega) (by rw [← h3]; simp; omega) (by simp at h4; omega) (by simp at h5; omega) hlo.tail
      rw [show (xd ++ [x]).length = xd.length + 1 by simp, List.append_assoc] at ih
      refine Eq.trans ih ?_
      rw [show mulR p ys (x :: xr) os = o :: mulR p ys xr os' by show (match rowL p x ys os with | [] => [] | o :: os' => o :: mulR p ys xr os') = _; rw [hr]]
      rw [List.append_assoc]; rfl
theorem mulR_len {p : Nat} {ys : List Nat} : ∀ {xr os : List Nat}, xr.length + ys.length ≤ os.length + 1 → 0 < ys.length → (mulR p ys xr os).length = os.length
  | [], os, _, _ => rfl
  | x :: xr, os, h, h0 => by
    have hle : ys.length ≤ os.length := by simp at h; omega
    have hl := rowL_len (p := p) (x := x) hle
    show (match rowL p x ys os with | [] => [] | o :: os' => o :: mulR p ys xr os').length = os.length
    cases hr : rowL p x ys os with
    | nil => rw [hr] at hl; exact hl
    | cons o os' =>
      rw [hr, List.length_cons] at hl
      show (mulR p ys xr os').length + 1 = os.length
      rw [mulR_len (by simp at h; omega) h0]; exact hl
theorem kGuard_ff {op : (D → LS → Rs) → Rs} {k : D → LS → Rs} : kGuard (.b false) false op s k = op k := rfl
theorem fpMul_run {xs ys : List Nat} {ex ey : Bool} {p φ : Nat} (hp : 0 < p) (hpL : p < LIM) (hxs : Lo xs) (hys : Lo ys) (hx0 : 0 < xs.length) (hy0 : 0 < ys.length) (hN : xs.length + ys.length ≤ 1000000000) (hφ : xs.length + ys.length < φ) :
    R_fp_Mul φ [ni p, .tree (ci xs) xs.length ex, .tree (ci ys) ys.length ey] = some (.tree (ci (tz (mulR p ys xs (List.replicate (xs.length + ys.length - 1) 0)))) (tz (mulR p ys xs (List.replicate (xs.length + ys.length - 1) 0))).length true) := by
  unfold R_fp_Mul
  dsimp only [u1_cons, u0_nil]
  refine (kLen_tree).trans ?_
  refine (kEql_n).trans ?_
  rw [beq_ne (by omega)]
  rw [kGuard_ff]; dsimp only
  rw [kGuard_ff]
  rw [kLen_tree, kGuard_ff]
  rw [kEql_n, beq_ne (show ys.length ≠ 0 by omega)]; dsimp only
  rw [kPick_f, kCond_f]
  refine (kLen_tree).trans ?_
  refine (kLen_tree).trans ?_
  refine (kAdd_n (show xs.length + ys.length ≤ kmax .i64 from (by show xs.length + ys.length ≤ 9223372036854775807; omega))).trans ?_
  refine (kSub_n (show 1 ≤ xs.length + ys.length by omega) (show xs.length + ys.length ≤ kmax .i64 from (by show xs.length + ys.length ≤ 9223372036854775807; omega))).trans ?_
  refine (kMksl_s0 (by omega) (by omega)).trans ?_
  refine (kLen_tree).trans ?_
  rw [ci_rep]
  have hz : Lo (List.replicate (xs.length + ys.length - 1) 0) := fun x hx => by rw [List.eq_of_mem_replicate hx]; decide
  refine Eq.trans (fm_out (ex := ex) (ey := ey) (φ := φ) (N := xs.length + ys.length - 1) hp hpL hxs hys (by omega) hy0 (by omega) xs (List.replicate (xs.length + ys.length - 1) 0) [] [] φ rfl rfl (by simp) (by simp; omega) (by omega) hz) ?_
  rw [List.nil_append]
  have hl : (mulR p ys xs (List.replicate (xs.length + ys.length - 1) 0)).length = xs.length + ys.length - 1 := by
    rw [mulR_len (by simp; omega) hy0]; simp
  generalize mulR p ys xs (List.replicate (xs.length + ys.length - 1) 0) = zs at *
  obtain ⟨s', h1, _⟩ := iso_1t (M := R_fp_Trim φ) (s := st1 (ci zs)) (l := 0) (len := xs.length + ys.length - 1) (cm := xs.length + ys.length - 1) (ex := true) (cs' := ci (tz zs)) (n' := (tz zs).length) (e' := true) st1_get rfl (ci_flat zs) (by show _ ≤ (ci zs).length; rw [ci_len]; omega) (fun e => by
    show R_fp_Trim φ [.tree ((ci zs).take (xs.length + ys.length - 1)) (xs.length + ys.length - 1) e] = _
    rw [← hl, List.take_of_length_le (by rw [ci_len]; exact Nat.le_refl _)]
    exact fpTrim_run (by omega) (by omega))
  rw [h1]
  exact ret_tree
def numsK (cs : List D) : (List Nat → Nat → Rs) → Rs :=
  List.rec (motive := fun _ => (List Nat → Nat → Rs) → Rs) (fun k => k [] 0) (fun d _ ih k => onN d (fun kk a => cnd (Nat.beq (kcode kk) 3) (cnd (Nat.blt a 2147483648) (ih fun l n => frc (Nat.succ n) fun n => k (a :: l) n) none) none) none) cs
theorem numsK_some {r : D} : ∀ {cs : List D} {k : List Nat → Nat → Rs}, numsK cs k = some r → ∃ l, cs = ci l ∧ Lo l ∧ k l l.length = some r
  | [], k, h => ⟨[], rfl, fun w hw => (by cases hw), h⟩
  | d :: cs, k, h => by
    have h : (onN d (fun kk a => cnd (Nat.beq (kcode kk) 3) (cnd (Nat.blt a 2147483648) (numsK cs fun l n => frc (Nat.succ n) fun n => k (a :: l) n) none) none) none) = some r := h
    obtain ⟨kk, a, rfl, h1⟩ := onN_some' h
    obtain ⟨h2, h3⟩ := ob_cond h1
    obtain ⟨h4, h5⟩ := ob_cond h3
    obtain ⟨l, rfl, h6, h7⟩ := numsK_some h5
    rw [frc_eq] at h7
    have hk : kk = .i64 := kcode_inj (b := .i64) h2
    subst hk
    exact ⟨a :: l, rfl, Lo.cons (lt_of_blt h4) h6, h7⟩
def rowK (p x : Nat) (ys : List Nat) : List Nat → (List Nat → Rs) → Rs :=
  List.rec (motive := fun _ => List Nat → (List Nat → Rs) → Rs) (fun os k => k os) (fun y _ ih os k => List.rec (motive := fun _ => Rs) none (fun o os' _ => frc (Nat.mod (Nat.add o (Nat.mul x y)) p) fun v => ih os' fun r => k (v :: r)) os) ys
theorem rowK_eq {p x : Nat} : ∀ {ys os : List Nat} {k : List Nat → Rs}, ys.length ≤ os.length → rowK p x ys os k = k (rowL p x ys os)
  | [], os, k, _ => rfl
  | y :: ys, [], k, h => by simp at h
  | y :: ys, o :: os, k, h => by
    show (frc (Nat.mod (Nat.add o (Nat.mul x y)) p) fun v => rowK p x ys os fun r => k (v :: r)) = _
    rw [frc_eq, rowK_eq (Nat.le_of_succ_le_succ h)]; rfl
def mulK (p : Nat) (ys xs : List Nat) : List Nat → (List Nat → Rs) → Rs :=
  List.rec (motive := fun _ => List Nat → (List Nat → Rs) → Rs) (fun os k => k os) (fun x _ ih os k => rowK p x ys os fun r => List.rec (motive := fun _ => Rs) none (fun o os' _ => ih os' fun r => k (o :: r)) r) xs
theorem mulK_eq {p : Nat} {ys : List Nat} (h0 : 0 < ys.length) : ∀ {xr os : List Nat} {k : List Nat → Rs}, xr.length + ys.length ≤ os.length + 1 → mulK p ys xr os k = k (mulR p ys xr os)
  | [], os, k, _ => rfl
  | x :: xr, os, k, h => by
    have hle : ys.length ≤ os.length := by simp at h; omega
    show (rowK p x ys os fun r => List.rec (motive := fun _ => Rs) none (fun o os' _ => mulK p ys xr os' fun r => k (o :: r)) r) = k (match rowL p x ys os with | [] => [] | o :: os' => o :: mulR p ys xr os')
    rw [rowK_eq hle]
    have hl := rowL_len (p := p) (x := x) hle
    cases hr : rowL p x ys os with
    | nil => rw [hr] at hl; simp at hl; omega
    | cons o os' =>
      rw [hr, List.length_cons] at hl
      show (mulK p ys xr os' fun r => k (o :: r)) = _
      rw [mulK_eq h0 (by simp at h; omega)]
def tzK (l : List Nat) : (List Nat → Rs) → Rs :=
  List.rec (motive := fun _ => (List Nat → Rs) → Rs) (fun k => k []) (fun a _ ih k => ih fun r => List.rec (motive := fun _ => Rs) (cnd (Nat.beq a 0) (k []) (k [a])) (fun b r' _ => k (a :: b :: r')) r) l
theorem tzK_eq : ∀ {l : List Nat} {k : List Nat → Rs}, tzK l k = k (tz l)
  | [], k => rfl
  | a :: l, k => by
    show (tzK l fun r => List.rec (motive := fun _ => Rs) (cnd (Nat.beq a 0) (k []) (k [a])) (fun b r' _ => k (a :: b :: r')) r) = k (match tz l with | [] => if a = 0 then [] else [a] | b :: r => a :: b :: r)
    rw [tzK_eq]
    cases tz l with
    | nil =>
      show cnd (Nat.beq a 0) (k []) (k [a]) = k (if a = 0 then [] else [a])
      by_cases h : a = 0
      · subst h; rfl
      · rw [beq_ne h, if_neg h]; rfl
    | cons b r => rfl
def outK (l : List Nat) : (List D → Nat → Rs) → Rs :=
  List.rec (motive := fun _ => (List D → Nat → Rs) → Rs) (fun k => k [] 0) (fun a _ ih k => ih fun cs n => frc (Nat.succ n) fun n => k (.i .i64 (.ofNat a) :: cs) n) l
theorem outK_eq : ∀ {l : List Nat} {k : List D → Nat → Rs}, outK l k = k (ci l) l.length
  | [], k => rfl
  | a :: l, k => by
    show (outK l fun cs n => frc (Nat.succ n) fun n => k (.i .i64 (.ofNat a) :: cs) n) = _
    rw [outK_eq, frc_eq]; rfl
def repK (n : Nat) : (List Nat → Rs) → Rs := Nat.rec (motive := fun _ => (List Nat → Rs) → Rs) (fun k => k []) (fun _ ih k => ih fun r => k (0 :: r)) n
theorem repK_eq : ∀ {n : Nat} {k : List Nat → Rs}, repK n k = k (List.replicate n 0)
  | 0, k => rfl
  | n + 1, k => by
    show (repK n fun r => k (0 :: r)) = _
    rw [repK_eq]; rfl
def on63 (d : D) (k : Nat → Rs) : Rs := onN d (fun kk a => cnd (Nat.beq (kcode kk) 3) (k a) none) none
theorem on63_some {d : D} {k : Nat → Rs} {r : D} (h : on63 d k = some r) : ∃ a, d = ni a ∧ k a = some r := by
  obtain ⟨kk, a, rfl, h1⟩ := onN_some' h
  obtain ⟨h2, h3⟩ := ob_cond h1
  have hk : kk = .i64 := kcode_inj (b := .i64) h2
  subst hk
  exact ⟨a, rfl, h3⟩
def onTr (d : D) (k : List D → Nat → Rs) : Rs := onSl d (fun _ _ _ _ _ _ => none) (fun cs n _ => k cs n) none
theorem onTr_some {d : D} {k : List D → Nat → Rs} {r : D} (h : onTr d k = some r) : ∃ cs n e, d = .tree cs n e ∧ k cs n = some r := by
  rcases onSl_some h with ⟨l, off, len, cm, z, ex, rfl, h1⟩ | ⟨cs, len, ex, rfl, h1⟩
  · cases h1
  · exact ⟨cs, len, ex, rfl, h1⟩
theorem cnd_cases' {b : Bool} {t e : Rs} {q : D} (h : cnd b t e = some q) : (b = true ∧ t = some q) ∨ (b = false ∧ e = some q) := by
  cases b with
  | true => exact Or.inl ⟨rfl, h⟩
  | false => exact Or.inr ⟨rfl, h⟩
def fpMulM (φ : Nat) (as : List D) : Option D :=
  u1 as fun a r => u1 r fun f r => u1 r fun g r => u0 r (on63 a fun p => onTr f fun cs n => onTr g fun ds m => cnd (Nat.beq n 0) (R_fp_Mul φ as) (cnd (Nat.beq m 0) (R_fp_Mul φ as)
    (cnd (Nat.blt 0 p) (cnd (Nat.blt p 2147483648) (numsK cs fun xs n' => numsK ds fun ys m' => cnd (Nat.beq n' n) (cnd (Nat.beq m' m) (cnd (Nat.ble n 100000) (cnd (Nat.ble m 100000)
      (frc (Nat.pred (Nat.add n m)) fun N => repK N fun os => mulK p ys xs os fun zs => tzK zs fun zs => outK zs fun cs n => some (.tree cs n true)) none) none) none) none) none) none)))
theorem fpMulM_run {φ : Nat} {as : List D} {r : D} (h : fpMulM φ as = some r) : ∃ φ', R_fp_Mul φ' as = some r := by
  obtain ⟨a, r1, rfl, g1⟩ := u1_some h
  obtain ⟨f, r2, rfl, g2⟩ := u1_some g1
  obtain ⟨g, r3, rfl, g3⟩ := u1_some g2
  obtain ⟨rfl, g4⟩ := u0_some g3
  obtain ⟨p, rfl, g5⟩ := on63_some g4
  obtain ⟨cs, n, ex, rfl, g6⟩ := onTr_some g5
  obtain ⟨ds, m, ey, rfl, g7⟩ := onTr_some g6
  rcases cnd_cases' g7 with ⟨_, g8⟩ | ⟨hn, g8⟩
  · exact ⟨φ, g8⟩
  rcases cnd_cases' g8 with ⟨_, g9⟩ | ⟨hm, g9⟩
  · exact ⟨φ, g9⟩
  obtain ⟨h1, g10⟩ := ob_cond g9
  obtain ⟨h2, g11⟩ := ob_cond g10
  obtain ⟨xs, rfl, hxs, g12⟩ := numsK_some g11
  obtain ⟨ys, rfl, hys, g13⟩ := numsK_some g12
  obtain ⟨h3, g14⟩ := ob_cond g13
  obtain ⟨h4, g15⟩ := ob_cond g14
  obtain ⟨h5, g16⟩ := ob_cond g15
  obtain ⟨h6, g17⟩ := ob_cond g16
  have h3 := Nat.eq_of_beq_eq_true h3
  have h4 := Nat.eq_of_beq_eq_true h4
  subst h3 h4
  have h5 := Nat.le_of_ble_eq_true h5
  have h6 := Nat.le_of_ble_eq_true h6
  have hx0 : 0 < xs.length := Nat.pos_of_ne_zero fun e => by rw [e] at hn; cases hn
  have hy0 : 0 < ys.length := Nat.pos_of_ne_zero fun e => by rw [e] at hm; cases hm
  rw [frc_eq, repK_eq, mulK_eq hy0 (by rw [List.length_replicate]; show xs.length + ys.length ≤ (xs.length + ys.length - 1) + 1; omega), tzK_eq, outK_eq] at g17
  refine ⟨xs.length + ys.length + 1, ?_⟩
  rw [fpMul_run (lt_of_blt h1) (lt_of_blt h2) hxs hys hx0 hy0 (by omega) (Nat.lt_succ_self _)]
  exact g17
end
end Go.Proofs.Ev
set_option linter.unusedVariables false
set_option linter.unusedSimpArgs false
namespace Go.Proofs.Ev
noncomputable section
variable {s : LS} {K : D → LS → Rs}
theorem wrap_in {z : Int} (h1 : -9223372036854775808 ≤ z) (h2 : z ≤ 9223372036854775807) : IntKind.i64.wrap z = z := by
  unfold IntKind.wrap; simp [IntKind.signed, IntKind.bits]; omega
theorem kSub_int {a b : Nat} {k : D → Rs} (h : a < b) (hb : b ≤ 9223372036854775807) : kSub (ni a) (ni b) k = k (.i .i64 (.negSucc (b - a - 1))) := by
  unfold kSub ni
  rw [on2_n, ble_false (by omega), cnd_false]
  show kSlowB .sub (.i .i64 (.ofNat a)) (.i .i64 (.ofNat b)) k = _
  unfold kSlowB
  rw [frcO_eq]
  show ob (some (D.i .i64 (IntKind.i64.wrap ((a : Int) - (b : Int))))) k = _
  rw [wrap_in (by omega) (by omega), show ((a : Int) - (b : Int)) = Int.negSucc (b - a - 1) by omega]; rfl
theorem kRem_neg {m p : Nat} {k : D → Rs} (hp : 0 < p) : kRem (.i .i64 (.negSucc m)) (ni p) k = k (.i .i64 (-(((m + 1) % p : Nat) : Int))) := by
  show kSlowB .rem (.i .i64 (.negSucc m)) (.i .i64 (.ofNat p)) k = _
  unfold kSlowB
  rw [frcO_eq]
  show ob (if (p : Int) = 0 then none else some (D.i .i64 (Int.tmod (.negSucc m) (p : Int)))) k = _
  rw [if_neg (by omega)]; rfl
theorem kLss_neg' {m : Nat} {k : D → Rs} : kLss (.i .i64 (.negSucc m)) (.i .i64 (.ofNat 0)) k = k (.b true) := by
  show kSlowB .lss (.i .i64 (.negSucc m)) (.i .i64 (.ofNat 0)) k = _
  unfold kSlowB
  rw [frcO_eq]
  show ob (some (D.b (decide (Int.negSucc m < 0)))) k = _
  rw [decide_eq_true (Int.negSucc_lt_zero m)]; rfl
theorem kAdd_neg {m p : Nat} {k : D → Rs} (h : m < p) (hp : p ≤ 9223372036854775807) : kAdd (.i .i64 (.negSucc m)) (ni p) k = k (ni (p - (m + 1))) := by
  show kSlowB .add (.i .i64 (.negSucc m)) (.i .i64 (.ofNat p)) k = _
  unfold kSlowB
  rw [frcO_eq]
  show ob (some (D.i .i64 (IntKind.i64.wrap (Int.negSucc m + (p : Int))))) k = _
  rw [wrap_in (by omega) (by omega), show (Int.negSucc m + (p : Int)) = Int.ofNat (p - (m + 1)) by rw [Int.negSucc_eq]; simp only [Int.ofNat_eq_natCast]; omega]; rfl
theorem mod_ge {a b p : Nat} (hp : 0 < p) (h : b ≤ a) : (a - b) % p = (a + (p - 1) * b) % p := by
  have e : a + (p - 1) * b = (a - b) + p * b := by
    obtain ⟨q, rfl⟩ : ∃ q, p = q + 1 := ⟨p - 1, by omega⟩
    rw [Nat.add_sub_cancel, Nat.add_mul]; omega
  rw [e, Nat.add_mul_mod_self_left]
theorem mod_lt0 {a b p : Nat} (hp : 0 < p) (h : a < b) (h0 : (b - a) % p = 0) : (a + (p - 1) * b) % p = 0 := by
  have e := Nat.div_add_mod (b - a) p
  rw [h0, Nat.add_zero] at e
  have e2 : a + (p - 1) * b + p * ((b - a) / p) = p * b := by
    obtain ⟨q, rfl⟩ : ∃ q, p = q + 1 := ⟨p - 1, by omega⟩
    rw [e, Nat.add_sub_cancel, Nat.add_mul q 1 b]; omega
  have e3 : (a + (p - 1) * b + p * ((b - a) / p)) % p = (p * b) % p := by rw [e2]
  rw [Nat.add_mul_mod_self_left, Nat.mul_mod_right] at e3
  exact e3
theorem mod_lt1 {a b p : Nat} (hp : 0 < p) (h : a < b) (h0 : (b - a) % p ≠ 0) : (a + (p - 1) * b) % p = p - (b - a) % p := by
  have e := Nat.div_add_mod (b - a) p
  have hlt := Nat.mod_lt (b - a) hp
  have e2 : a + (p - 1) * b + p * ((b - a) / p + 1) = p - (b - a) % p + p * b := by
    obtain ⟨q, rfl⟩ : ∃ q, p = q + 1 := ⟨p - 1, by omega⟩
    rw [Nat.mul_add, Nat.add_sub_cancel, Nat.add_mul q 1 b]; omega
  have e3 : (a + (p - 1) * b + p * ((b - a) / p + 1)) % p = (p - (b - a) % p + p * b) % p := by rw [e2]
  rw [Nat.add_mul_mod_self_left, Nat.add_mul_mod_self_left, Nat.mod_eq_of_lt (show p - (b - a) % p < p by omega)] at e3
  exact e3
theorem fpMod_sub {a b p φ : Nat} {z : D} (hp : 0 < p) (hpL : p < LIM) (hz : ∀ k, kSub (ni a) (ni b) k = k z) (ha : a < LIM) (hb : b ≤ 4611686018427387904) : R_fp_Mod φ [ni p, z] = some (ni ((a + (p - 1) * b) % p)) := by
  have hp63 : p ≤ 9223372036854775807 := Nat.le_trans (Nat.le_of_lt hpL) (by decide)
  by_cases h : b ≤ a
  · have e : z = ni (a - b) := by
      have h1 := hz some
      unfold ni at h1
      rw [kSub_n h (show a ≤ kmax .i64 from Nat.le_trans (Nat.le_of_lt ha) (by decide))] at h1
      exact (Option.some.inj h1).symm
    subst e
    unfold R_fp_Mod
    dsimp only [u1_cons, u0_nil, jn]
    refine (kRem_n (by omega)).trans ?_
    refine (kLss_n).trans ?_
    rw [blt_false (Nat.not_lt_zero _), kCond_f, mod_ge hp h]; rfl
  · have h : a < b := by omega
    have e : z = .i .i64 (.negSucc (b - a - 1)) := by
      have h1 := hz some
      rw [kSub_int h (Nat.le_trans hb (by decide))] at h1
      exact (Option.some.inj h1).symm
    subst e
    unfold R_fp_Mod
    dsimp only [u1_cons, u0_nil, jn]
    refine (kRem_neg hp).trans ?_
    rw [show b - a - 1 + 1 = b - a by omega]
    by_cases h0 : (b - a) % p = 0
    · rw [h0, show (-((0 : Nat) : Int)) = Int.ofNat 0 from rfl]
      refine (kLss_n).trans ?_
      rw [blt_false (Nat.not_lt_zero _), kCond_f, mod_lt0 hp h h0]; rfl
    · obtain ⟨e, he⟩ : ∃ e, (b - a) % p = e + 1 := ⟨(b - a) % p - 1, by omega⟩
      have hlt := Nat.mod_lt (b - a) hp
      rw [mod_lt1 hp h h0, he, show (-((e + 1 : Nat) : Int)) = Int.negSucc e from rfl]
      refine (kLss_neg').trans ?_
      rw [kCond_t]
      refine (kAdd_neg (by omega) hp63).trans ?_
      rfl
def st3 (r q : List Nat) : LS := ⟨.node (some ⟨[], .rw⟩) (.node (some ⟨ci r, .rw⟩) .nil .nil) (.node (some ⟨ci q, .rw⟩) .nil .nil), 3⟩
variable {r q : List Nat} {i v len cm : Nat} {ex : Bool}
theorem st3_r : (st3 r q).get 1 = some ⟨ci r, .rw⟩ := rfl
theorem st3_q : (st3 r q).get 2 = some ⟨ci q, .rw⟩ := rfl
theorem rd_r (hi : i < len) (h : r[i]? = some v) : (kIaddr 1 (st3 r q) (.sl 1 0 len cm 1 ex) (ni i) fun a s => kLoad1 s a K) = K (ni v) (st3 r q) := by
  refine (kIaddr_sl st3_r rfl hi).trans ?_
  refine kLoad1_ptr st3_r rfl ?_
  rw [show 0 + i * 1 = i by omega]; exact ci_get h
theorem wr_r (hi : i < len) (h : i < r.length) : (kIaddr 1 (st3 r q) (.sl 1 0 len cm 1 ex) (ni i) fun a s => kStore 1 s a (ni v) K) = K .u (st3 (r.set i v) q) := by
  refine (kIaddr_sl st3_r rfl hi).trans ?_
  rw [show 0 + i * 1 = i by omega]
  refine (kStore_ptr st3_r rfl (by rw [ci_len]; exact h)).trans ?_
  rw [ci_set]; rfl
theorem wr_q (hi : i < len) (h : i < q.length) : (kIaddr 1 (st3 r q) (.sl 2 0 len cm 1 ex) (ni i) fun a s => kStore 1 s a (ni v) K) = K .u (st3 r (q.set i v)) := by
  refine (kIaddr_sl st3_q rfl hi).trans ?_
  rw [show 0 + i * 1 = i by omega]
  refine (kStore_ptr st3_q rfl (by rw [ci_len]; exact h)).trans ?_
  rw [ci_set]; rfl
theorem iso_ii {M : List D → Option D} {p w : Nat} {k2 : IntKind} {z : Int} (h : M [ni p, .i k2 z] = some (ni w)) : isoK M [ni p, .i k2 z] s K = K (ni w) s := by
  show ob (M [ni p, .i k2 z]) (fun r => finK s [] r K) = _
  rw [h]; rfl
def dmI (φ : Nat) (q19 : D → D → D → D → D → D → D → LS → Rs) (q36 : D → D → D → D → D → D → D → D → D → D → D → LS → Rs) (x37 x38 x39 x40 x41 x42 x43 x44 x45 x46 x47 : D) (s : LS) : Rs := (
 kLss x47 x46 fun x48 =>
 kCond x48
(kIaddr 1 s x45 x47 fun x49 s =>
 kLoad1 s x49 fun x50 s =>
 kAdd x43 x47 fun x51 =>
 kAdd x43 x47 fun x52 =>
 kIaddr 1 s x39 x52 fun x53 s =>
 kLoad1 s x53 fun x54 s =>
 kMul x44 x50 fun x55 =>
 kSub x54 x55 fun x56 =>
 isoK (R_fp_Mod φ) [x37, x56] s fun x57 s =>
 kIaddr 1 s x39 x51 fun x58 s =>
 kStore 1 s x58 x57 fun _ s =>
 kAdd x47 (.i .i64 (.ofNat 1)) fun x59 =>
 q36 x37 x38 x39 x40 x41 x42 x43 x44 x45 x46 x59 s)
(kSub x43 (.i .i64 (.ofNat 1)) fun x60 =>
 q19 x37 x38 x39 x40 x41 x42 x60 s))
theorem dm_in {g : List Nat} {eg : Bool} {p c k m φ : Nat} {q19 : D → D → D → D → D → D → D → LS → Rs} {X40 X41 X42 : D} (hp : 0 < p) (hpL : p < LIM) (hc : c < LIM) (hg : Lo g) (hm : m ≤ 1000000000) :
    ∀ (gr os gd done : List Nat) (f : Nat), g = gd ++ gr → done.length = k + gd.length → (done ++ os).length = m → gr.length ≤ os.length → gr.length < f → Lo os →
    lp (fun (_ _ _ _ _ _ _ _ _ _ _ : D) (_ : LS) => none) (dmI φ q19) f (ni p) (.tree (ci g) g.length eg) (.sl 1 0 m m 1 false) X40 X41 X42 (ni k) (ni c) (.tree (ci g) g.length eg) (ni g.length) (ni gd.length) (st3 (done ++ os) q)
      = kSub (ni k) (.i .i64 (.ofNat 1)) fun x60 => q19 (ni p) (.tree (ci g) g.length eg) (.sl 1 0 m m 1 false) X40 X41 X42 x60 (st3 (done ++ rowL p ((p - 1) * c) gr os) q)
  | [], os, gd, done, f + 1, h1, h2, h3, h4, h5, h6 => by
    rw [List.append_nil] at h1
    rw [lp_succ]; unfold dmI
    refine (kLss_n).trans ?_
    rw [blt_false (by rw [h1]; exact Nat.lt_irrefl _), kCond_f]
    rfl
  | y :: gr, [], gd, done, f, h1, h2, h3, h4, h5, h6 => by simp at h4
  | y :: gr, o :: os, gd, done, f + 1, h1, h2, h3, h4, h5, h6 => by
    have hlt : gd.length < g.length := by rw [h1]; simp
    have hy : g[gd.length]? = some y := by rw [h1]; exact get_mid _ _ _ rfl
    have hyL := hg.get hy
    have hoL : o < LIM := h6.head
    have hlen := h3
    rw [List.length_append, List.length_cons] at hlen
    have hin : k + gd.length < m := by omega
    have ha : k + gd.length ≤ kmax .i64 := by show k + gd.length ≤ 9223372036854775807; omega
    have hcy : c * y ≤ 4611686018427387904 := Nat.le_trans (Nat.mul_le_mul (Nat.le_of_lt hc) (Nat.le_of_lt hyL)) (by decide)
    obtain ⟨kz, z, hz⟩ : ∃ kz z, ∀ k, kSub (ni o) (ni (c * y)) k = k (.i kz z) := by
      by_cases h : c * y ≤ o
      · exact ⟨.i64, .ofNat (o - c * y), fun k => kSub_n h (Nat.le_trans (Nat.le_of_lt hoL) (by decide))⟩
      · exact ⟨.i64, _, fun k => kSub_int (by omega) (Nat.le_trans hcy (by decide))⟩
    rw [lp_succ]; unfold dmI
    refine (kLss_n).trans ?_
    rw [blt_true hlt, kCond_t]
    refine (kRead_td (by exact hlt) (ci_get hy)).trans ?_
    refine (kAdd_n ha).trans ?_
    refine (kAdd_n ha).trans ?_
    refine (rd_r hin (get_mid done o os h2)).trans ?_
    refine (kMul_n (lim_mul hc hyL)).trans ?_
    refine (hz _).trans ?_
    refine (iso_ii (fpMod_sub hp hpL hz hoL hcy)).trans ?_
    refine (wr_r hin (by rw [h3]; exact hin)).trans ?_
    refine (kAdd_n (show gd.length + 1 ≤ kmax .i64 from (by show gd.length + 1 ≤ 9223372036854775807; omega))).trans ?_
    rw [set_mid done o _ os h2]
    have ih := dm_in (φ := φ) (k := k) (c := c) (eg := eg) (q19 := q19) (X40 := X40) (X41 := X41) (X42 := X42) hp hpL hc hg hm gr os (gd ++ [y]) (done ++ [(o + (p - 1) * (c * y)) % p]) f (by rw [h1, List.append_assoc]; rfl) (by simp; omega) (by rw [← h3]; simp) (Nat.le_of_succ_le_succ h4) (by simp at h5; omega) h6.tail
    rw [show (gd ++ [y]).length = gd.length + 1 by simp] at ih
    refine Eq.trans ih ?_
    rw [List.append_assoc, ← Nat.mul_assoc]; rfl
end
end Go.Proofs.Ev
set_option linter.unusedVariables false
set_option linter.unusedSimpArgs false
namespace Go.Proofs.Ev
noncomputable section
variable {s : LS} {K : D → LS → Rs}
def idx (j : Nat) : D := match j with | 0 => .i .i64 (.negSucc 0) | j + 1 => ni j
theorem kSub_idx {j : Nat} {k : D → Rs} (h : j ≤ 9223372036854775807) : kSub (ni j) (.i .i64 (.ofNat 1)) k = k (idx j) := by
  cases j with
  | zero => exact kSub_01
  | succ j => exact kSub_n (show 1 ≤ j + 1 by omega) h
def divS (p iv : Nat) (g : List Nat) : Nat → List Nat → List Nat → List Nat × List Nat
  | 0, rest, q => (rest, q)
  | j + 1, rest, q => divS p iv g j (rest.take j ++ rowL p ((p - 1) * (rest.getD (j + g.length - 1) 0 * iv % p)) g (rest.drop j)) (rest.getD (j + g.length - 1) 0 * iv % p :: q)
def dmE (φ : Nat) (x22 x23 x24 : D) (s : LS) : Rs := (
 isoK (R_fp_Trim φ) [x24] s fun x61 s =>
 kSub x23 (.i .i64 (.ofNat 1)) fun x62 =>
 kSlice 1 s x22 none (some x62) none fun x63 s =>
 isoK (R_fp_Trim φ) [x63] s fun x64 s =>
 retK false s (.tup [x61, x64]) some)
def dmO (φ : Nat) (q19 : D → D → D → D → D → D → D → LS → Rs) (x20 x21 x22 x23 x24 x25 x26 : D) (s : LS) : Rs := (
 kGeq x26 (.i .i64 (.ofNat 0)) fun x27 =>
 kCond x27
(kAdd x26 x23 fun x28 =>
 kSub x28 (.i .i64 (.ofNat 1)) fun x29 =>
 kIaddr 1 s x22 x29 fun x30 s =>
 kLoad1 s x30 fun x31 s =>
 kMul x31 x25 fun x32 =>
 kRem x32 x20 fun x33 =>
 kIaddr 1 s x24 x26 fun x34 s =>
 kStore 1 s x34 x33 fun _ s =>
 kLen x21 s fun x35 s =>
 lp (fun (_ _ _ _ _ _ _ _ _ _ _ : D) (_ : LS) => none) (dmI φ q19) φ x20 x21 x22 x23 x24 x25 x26 x33 x21 x35 (.i .i64 (.ofNat 0)) s)
(dmE φ x22 x23 x24 s))
theorem row_lo {p c : Nat} {g rest : List Nat} {j : Nat} (hp : 0 < p) (hpL : p < LIM) (h : Lo rest) : Lo (rest.take j ++ rowL p c g (rest.drop j)) :=
  Lo.append (fun x hx => h x (List.mem_of_mem_take hx)) (rowL_lo hp hpL fun x hx => h x (List.mem_of_mem_drop hx))
theorem row_len {p c : Nat} {g rest : List Nat} {j : Nat} (h : j + g.length ≤ rest.length) : (rest.take j ++ rowL p c g (rest.drop j)).length = rest.length := by
  rw [List.length_append, rowL_len (by rw [List.length_drop]; omega), List.length_take, List.length_drop]; omega
theorem dm_out {g : List Nat} {eg : Bool} {p iv m Q φ : Nat} (hp : 0 < p) (hpL : p < LIM) (hiv : iv < LIM) (hg : Lo g) (hg0 : 0 < g.length) (hm : m ≤ 1000000000) (hQ : Q + g.length = m + 1) (hφ : g.length < φ) :
    ∀ (j f : Nat) (rest q : List Nat), rest.length = m → Lo rest → j + q.length = Q → j < f →
    lp (fun (_ _ _ _ _ _ _ : D) (_ : LS) => none) (dmO φ) f (ni p) (.tree (ci g) g.length eg) (.sl 1 0 m m 1 false) (ni g.length) (.sl 2 0 Q Q 1 true) (ni iv) (idx j) (st3 rest (List.replicate j 0 ++ q))
      = dmE φ (.sl 1 0 m m 1 false) (ni g.length) (.sl 2 0 Q Q 1 true) (st3 (divS p iv g j rest q).1 (divS p iv g j rest q).2)
  | 0, f + 1, rest, q, h1, h2, h3, h4 => by
    rw [lp_succ]; unfold dmO
    refine (kGeq_neg).trans ?_
    rw [kCond_f]; rfl
  | j + 1, f + 1, rest, q, h1, h2, h3, h4 => by
    have hi : j + g.length - 1 < m := by omega
    have hr : rest[j + g.length - 1]? = some (rest.getD (j + g.length - 1) 0) := by rw [List.getD_eq_getElem?_getD, List.getElem?_eq_getElem (by omega)]; rfl
    have hrL := h2.get hr
    have hcp : rest.getD (j + g.length - 1) 0 * iv % p < LIM := Nat.lt_trans (Nat.mod_lt _ hp) hpL
    rw [lp_succ]; unfold dmO
    refine (kGeq_n).trans ?_
    rw [show Nat.ble 0 j = true from Nat.ble_eq_true_of_le (Nat.zero_le j), kCond_t]
    refine (kAdd_n (show j + g.length ≤ kmax .i64 from (by show j + g.length ≤ 9223372036854775807; omega))).trans ?_
    refine (kSub_n (show 1 ≤ j + g.length by omega) (show j + g.length ≤ kmax .i64 from (by show j + g.length ≤ 9223372036854775807; omega))).trans ?_
    refine (rd_r hi hr).trans ?_
    refine (kMul_n (lim_mul hrL hiv)).trans ?_
    refine (kRem_n (Nat.ne_of_gt hp)).trans ?_
    refine (wr_q (show j < Q by omega) (by rw [List.length_append, List.length_replicate]; omega)).trans ?_
    refine (kLen_tree).trans ?_
    have e1 : (List.replicate (j + 1) 0 ++ q).set j (rest.getD (j + g.length - 1) 0 * iv % p) = List.replicate j 0 ++ (rest.getD (j + g.length - 1) 0 * iv % p :: q) := by
      rw [List.replicate_succ', List.append_assoc]
      exact (set_mid (List.replicate j 0) 0 _ q (by simp)).trans (List.append_assoc ..)
    rw [e1]
    have e2 := dm_in (φ := φ) (eg := eg) (k := j) (c := rest.getD (j + g.length - 1) 0 * iv % p) (m := m) (q := List.replicate j 0 ++ (rest.getD (j + g.length - 1) 0 * iv % p :: q)) (q19 := lp (fun (_ _ _ _ _ _ _ : D) (_ : LS) => none) (dmO φ) f) (X40 := ni g.length) (X41 := .sl 2 0 Q Q 1 true) (X42 := ni iv) hp hpL hcp hg hm g (rest.drop j) [] (rest.take j) φ rfl (by rw [List.length_take]; simp; omega) (by rw [List.take_append_drop]; exact h1) (by rw [List.length_drop]; omega) hφ (fun x hx => h2 x (List.mem_of_mem_drop hx))
    rw [List.take_append_drop] at e2
    refine Eq.trans e2 ?_
    refine (kSub_idx (by omega)).trans ?_
    exact dm_out hp hpL hiv hg hg0 hm hQ hφ j f _ _ (by rw [row_len (by omega)]; exact h1) (row_lo hp hpL h2) (by simp; omega) (by omega)
theorem divS_len {p iv : Nat} {g : List Nat} : ∀ {j : Nat} {rest q : List Nat}, j + g.length ≤ rest.length + 1 → (divS p iv g j rest q).1.length = rest.length ∧ (divS p iv g j rest q).2.length = j + q.length
  | 0, rest, q, h => ⟨rfl, (Nat.zero_add _).symm⟩
  | j + 1, rest, q, h => by
    have e := row_len (p := p) (c := (p - 1) * (rest.getD (j + g.length - 1) 0 * iv % p)) (g := g) (rest := rest) (j := j) (by omega)
    obtain ⟨h1, h2⟩ := divS_len (p := p) (iv := iv) (g := g) (j := j) (rest := rest.take j ++ rowL p ((p - 1) * (rest.getD (j + g.length - 1) 0 * iv % p)) g (rest.drop j)) (q := rest.getD (j + g.length - 1) 0 * iv % p :: q) (by omega)
    refine ⟨h1.trans e, h2.trans ?_⟩
    simp; omega
theorem kSlice_s {l len cm h : Nat} {ex : Bool} {b : Blk} {k : D → LS → Rs} (hg : s.get l = some b) (hl : b.st.live = true) (h0 : 0 < cm) (hh : h ≤ cm) : kSlice 1 s (.sl l 0 len cm 1 ex) none (some (.i .i64 (.ofNat h))) none k = k (.sl l 0 h cm 1 ex) s := by
  show (kGet s l fun b => cnd (lv b.st) (cnd (Nat.ble cm cm) (cnd (Nat.ble h cm) (cnd (Nat.ble 0 h) (cnd (Nat.beq 1 1) (frcB ex fun ex => cnd (Nat.blt 0 cm) (frc (Nat.add 0 (Nat.mul 0 1)) fun off => frc (Nat.sub h 0) fun l' => frc (Nat.sub cm 0) fun cm => k (.sl l off l' cm 1 ex) s) (k (.tree [] 0 ex) s)) none) none) none) none) none) = _
  rw [kGet_eq, hg]
  show cnd (lv b.st) (cnd (Nat.ble cm cm) (cnd (Nat.ble h cm) (cnd (Nat.ble 0 h) (cnd (Nat.beq 1 1) (frcB ex fun ex => cnd (Nat.blt 0 cm) (frc (Nat.add 0 (Nat.mul 0 1)) fun off => frc (Nat.sub h 0) fun l' => frc (Nat.sub cm 0) fun cm => k (.sl l off l' cm 1 ex) s) (k (.tree [] 0 ex) s)) none) none) none) none) none = _
  rw [lv_eq, hl, Nat.ble_eq_true_of_le (Nat.le_refl cm), Nat.ble_eq_true_of_le hh, Nat.ble_eq_true_of_le (Nat.zero_le h), blt_true h0]
  simp only [cnd_true, frcB_eq, frc_eq, beq_self]
  rfl
theorem dm_end {rest q : List Nat} {n Q φ : Nat} (hn : 0 < n) (hnm : n ≤ rest.length) (hq : q.length = Q) (hm : rest.length ≤ 1000000000) (hQ : Q ≤ 1000000000) (h1 : Q < φ) (h2 : rest.length < φ) :
    dmE φ (.sl 1 0 rest.length rest.length 1 false) (ni n) (.sl 2 0 Q Q 1 true) (st3 rest q) = some (.tup [.tree (ci (tz q)) (tz q).length true, .tree (ci (tz (rest.take (n - 1)))) (tz (rest.take (n - 1))).length true]) := by
  subst hq
  obtain ⟨s1, k1, f1⟩ := iso_1t (M := R_fp_Trim φ) (s := st3 rest q) (l := 2) (len := q.length) (cm := q.length) (ex := true) (cs' := ci (tz q)) (n' := (tz q).length) (e' := true) st3_q rfl (ci_flat q) (by show _ ≤ (ci q).length; rw [ci_len]; exact Nat.le_refl _) (fun e => by
    show R_fp_Trim φ [.tree ((ci q).take q.length) q.length e] = _
    rw [List.take_of_length_le (by rw [ci_len]; exact Nat.le_refl _)]
    exact fpTrim_run (by omega) (by omega))
  have g1 := f1 1 _ (by decide) st3_r
  unfold dmE
  rw [k1]
  refine (kSub_n hn (show n ≤ kmax .i64 from (by show n ≤ 9223372036854775807; omega))).trans ?_
  refine (kSlice_s g1 rfl (by omega) (show n - 1 ≤ rest.length by omega)).trans ?_
  obtain ⟨s2, k2, _⟩ := iso_1t (M := R_fp_Trim φ) (s := s1) (l := 1) (len := n - 1) (cm := rest.length) (ex := false) (cs' := ci (tz (rest.take (n - 1)))) (n' := (tz (rest.take (n - 1))).length) (e' := true) g1 rfl (ci_flat rest) (by show _ ≤ (ci rest).length; rw [ci_len]; omega) (fun e => by
    have hl : (rest.take (n - 1)).length = n - 1 := by rw [List.length_take]; omega
    have := fpTrim_run (ws := rest.take (n - 1)) (ex := e) (φ := φ) (by omega) (by omega)
    rw [hl] at this
    show R_fp_Trim φ [.tree ((ci rest).take (n - 1)) (n - 1) e] = _
    rw [show (ci rest).take (n - 1) = ci (rest.take (n - 1)) by unfold ci; rw [List.map_take]]
    exact this)
  rw [k2]
  exact ret_tt
theorem allK_ci {t : Rs} : ∀ {l : List Nat}, allK (ci l) t = t
  | [] => rfl
  | a :: l => allK_ci (l := l)
theorem kApp_new {xs : List Nat} {ex : Bool} (h0 : 0 < xs.length) (hm : xs.length ≤ 1000000000) : kApp 1 8 (s0.push ⟨[], .rw⟩) (.sl 0 0 0 0 1 true) (.tree (ci xs) xs.length ex) K = K (.sl 1 0 xs.length xs.length 1 false) ((s0.push ⟨[], .rw⟩).push ⟨ci xs, .rw⟩) := by
  show cnd (Nat.beq (ci xs).length (Nat.mul xs.length 1)) (allK (ci xs) (frc (Nat.add 0 xs.length) fun tot => cnd (Nat.ble (Nat.mul tot 8) 1099511627776) (cnd (Nat.ble tot 1099511627776)
      (cnd (Nat.ble tot 0) (layK (Nat.add 0 (Nat.mul 0 1)) (ci xs) [] fun cs => kPut (s0.push ⟨[], .rw⟩) 0 ⟨cs, .rw⟩ fun s => K (.sl 0 0 tot 0 1 true) s)
        (appK [] (ci xs) fun cs => (kPush (s0.push ⟨[], .rw⟩) ⟨cs, .rw⟩ fun s' => K (.sl 1 0 tot tot 1 false) s')))
      none) none)) none = _
  rw [ci_len, show Nat.mul xs.length 1 = xs.length from Nat.mul_one _, beq_self, cnd_true, allK_ci, frc_eq, show Nat.add 0 xs.length = xs.length from Nat.zero_add _, Nat.ble_eq_true_of_le (show Nat.mul xs.length 8 ≤ 1099511627776 by show xs.length * 8 ≤ _; omega), Nat.ble_eq_true_of_le (show xs.length ≤ 1099511627776 by omega), cnd_true, cnd_true, ble_false (by omega), cnd_false, appK_eq, kPush_eq]
  rfl
theorem kBsl_zero : kBsl 0 [.i .i64 (.ofNat 0)] [] s0 K = K (.sl 0 0 0 0 1 true) (s0.push ⟨[], .rw⟩) := by
  show (kPush s0 ⟨[], .rw⟩ fun s' => K (.sl 0 0 0 0 1 true) s') = _
  rw [kPush_eq]
theorem st3_push {r q : List Nat} : ((s0.push ⟨[], .rw⟩).push ⟨ci r, .rw⟩).push ⟨ci q, .rw⟩ = st3 r q := by kernel_rfl
theorem fpDivMod_run {xs g : List Nat} {ex eg : Bool} {p iv lead φ : Nat} (hp : 0 < p) (hpL : p < LIM) (hiv : iv < LIM) (hxs : Lo xs) (hg : Lo g) (hg0 : 0 < g.length) (hgx : g.length ≤ xs.length) (hm : xs.length ≤ 100000000) (hφ : xs.length + 1 < φ)
    (hlead : g[g.length - 1]? = some lead) (hinv : R_fp_Inv φ [ni p, ni lead] = some (ni iv)) :
    R_fp_DivMod φ [ni p, .tree (ci xs) xs.length ex, .tree (ci g) g.length eg] =
      some (.tup [.tree (ci (tz (divS p iv g (xs.length - g.length + 1) xs []).2)) (tz (divS p iv g (xs.length - g.length + 1) xs []).2).length true,
        .tree (ci (tz ((divS p iv g (xs.length - g.length + 1) xs []).1.take (g.length - 1)))) (tz ((divS p iv g (xs.length - g.length + 1) xs []).1.take (g.length - 1))).length true]) := by
  obtain ⟨l1, l2⟩ := divS_len (p := p) (iv := iv) (g := g) (j := xs.length - g.length + 1) (rest := xs) (q := []) (by omega)
  have hk : ∀ n, n ≤ 1000000000 → n ≤ kmax .i64 := fun n h => by show n ≤ 9223372036854775807; omega
  unfold R_fp_DivMod
  dsimp only [u1_cons, u0_nil]
  refine (kBsl_zero).trans ?_
  refine (kApp_new (by omega) (by omega)).trans ?_
  refine (kLen_tree).trans ?_
  refine (kLen_tree).trans ?_
  refine (kLss_n).trans ?_
  rw [blt_false (by omega), kCond_f]
  refine (kLen_tree).trans ?_
  refine (kSub_n hgx (hk _ (by omega))).trans ?_
  refine (kAdd_n (hk _ (by omega))).trans ?_
  refine (kMksl_s (by omega) (by omega)).trans ?_
  refine (kSub_n (show 1 ≤ g.length by omega) (hk _ (by omega))).trans ?_
  refine (kRead_td (show g.length - 1 < g.length by omega) (ci_get hlead)).trans ?_
  refine (iso_ii hinv).trans ?_
  refine (kLen_tree).trans ?_
  refine (kSub_n hgx (hk _ (by omega))).trans ?_
  rw [ci_rep, st3_push]
  have e := dm_out (eg := eg) (iv := iv) (m := xs.length) (Q := xs.length - g.length + 1) (φ := φ) hp hpL hiv hg hg0 (by omega) (by omega) (by omega) (xs.length - g.length + 1) φ xs [] rfl hxs (by simp) (by omega)
  rw [List.append_nil] at e
  refine Eq.trans e ?_
  have e2 := dm_end (rest := (divS p iv g (xs.length - g.length + 1) xs []).1) (q := (divS p iv g (xs.length - g.length + 1) xs []).2) (n := g.length) (Q := xs.length - g.length + 1) (φ := φ) hg0 (by rw [l1]; exact hgx) (by rw [l2]; rfl) (by rw [l1]; omega) (by omega) (by omega) (by rw [l1]; omega)
  rw [l1] at e2
  exact e2
def rowAtK (p c : Nat) (g : List Nat) (j : Nat) : List Nat → (List Nat → Rs) → Rs :=
  Nat.rec (motive := fun _ => List Nat → (List Nat → Rs) → Rs) (fun rest k => rowK p c g rest k) (fun _ ih rest k => List.rec (motive := fun _ => Rs) none (fun r rs _ => ih rs fun rs' => k (r :: rs')) rest) j
theorem rowAtK_eq {p c : Nat} {g : List Nat} : ∀ {j : Nat} {rest : List Nat} {k : List Nat → Rs}, j + g.length ≤ rest.length → rowAtK p c g j rest k = k (rest.take j ++ rowL p c g (rest.drop j))
  | 0, rest, k, h => by
    show rowK p c g rest k = _
    rw [rowK_eq (by omega)]; rfl
  | j + 1, [], k, h => by simp at h
  | j + 1, r :: rest, k, h => by
    show (rowAtK p c g j rest fun rs' => k (r :: rs')) = _
    rw [rowAtK_eq (by simp at h; omega)]; rfl
def nthN (i : Nat) : List Nat → (Nat → Rs) → Rs :=
  Nat.rec (motive := fun _ => List Nat → (Nat → Rs) → Rs) (fun l k => List.rec (motive := fun _ => Rs) none (fun a _ _ => k a) l) (fun _ ih l k => List.rec (motive := fun _ => Rs) none (fun _ r _ => ih r k) l) i
theorem nthN_eq : ∀ {i : Nat} {l : List Nat} {a : Nat} {k : Nat → Rs}, l[i]? = some a → nthN i l k = k a
  | i, [], a, k, h => by simp at h
  | 0, b :: l, a, k, h => by simp at h; subst h; rfl
  | i + 1, b :: l, a, k, h => nthN_eq (i := i) (l := l) (by simpa using h)
theorem nthN_some {r : D} : ∀ {i : Nat} {l : List Nat} {k : Nat → Rs}, nthN i l k = some r → ∃ a, l[i]? = some a ∧ k a = some r
  | 0, [], k, h => by cases h
  | i + 1, [], k, h => by cases h
  | 0, b :: l, k, h => ⟨b, rfl, h⟩
  | i + 1, b :: l, k, h => nthN_some (i := i) (l := l) h
def takeN (i : Nat) : List Nat → (List Nat → Rs) → Rs :=
  Nat.rec (motive := fun _ => List Nat → (List Nat → Rs) → Rs) (fun l k => k []) (fun _ ih l k => List.rec (motive := fun _ => Rs) (k []) (fun a r _ => ih r fun r' => k (a :: r')) l) i
theorem takeN_eq : ∀ {i : Nat} {l : List Nat} {k : List Nat → Rs}, takeN i l k = k (l.take i)
  | 0, l, k => by rw [List.take_zero]; rfl
  | i + 1, [], k => rfl
  | i + 1, a :: l, k => by
    show (takeN i l fun r' => k (a :: r')) = _
    rw [takeN_eq]; rfl
def divK (p iv n : Nat) (g : List Nat) (j : Nat) : List Nat → List Nat → (List Nat → List Nat → Rs) → Rs :=
  Nat.rec (motive := fun _ => List Nat → List Nat → (List Nat → List Nat → Rs) → Rs) (fun rest q k => k rest q)
    (fun j ih rest q k => nthN (Nat.pred (Nat.add j n)) rest fun h => frc (Nat.mod (Nat.mul h iv) p) fun c => frc (Nat.mul (Nat.pred p) c) fun c' => rowAtK p c' g j rest fun rest' => ih rest' (c :: q) k) j
theorem divK_eq {p iv : Nat} {g : List Nat} (h0 : 0 < g.length) : ∀ {j : Nat} {rest q : List Nat} {k : List Nat → List Nat → Rs}, j + g.length ≤ rest.length + 1 → divK p iv g.length g j rest q k = k (divS p iv g j rest q).1 (divS p iv g j rest q).2
  | 0, rest, q, k, h => rfl
  | j + 1, rest, q, k, h => by
    have hr : rest[j + g.length - 1]? = some (rest.getD (j + g.length - 1) 0) := by rw [List.getD_eq_getElem?_getD, List.getElem?_eq_getElem (by omega)]; rfl
    show (nthN (j + g.length - 1) rest fun h => frc (Nat.mod (Nat.mul h iv) p) fun c => frc (Nat.mul (Nat.pred p) c) fun c' => rowAtK p c' g j rest fun rest' => divK p iv g.length g j rest' (c :: q) k) = _
    rw [nthN_eq hr, frc_eq, frc_eq, rowAtK_eq (by omega), divK_eq h0 (by rw [row_len (by omega)]; omega)]; rfl
def fpDivModM (φ : Nat) (as : List D) : Option D :=
  u1 as fun a r => u1 r fun f r => u1 r fun g r => u0 r (on63 a fun p => onTr f fun cs m => onTr g fun ds n => cnd (Nat.blt m n) (R_fp_DivMod φ as) (cnd (Nat.blt 0 n)
    (cnd (Nat.blt 0 p) (cnd (Nat.blt p 2147483648) (cnd (Nat.ble m 100000) (cnd (Nat.blt (Nat.succ m) φ) (numsK cs fun xs m' => numsK ds fun ys n' => cnd (Nat.beq m' m) (cnd (Nat.beq n' n)
      (nthN (Nat.pred n) ys fun lead => ob (R_fp_Inv φ [.i .i64 (.ofNat p), .i .i64 (.ofNat lead)]) fun v => on63 v fun iv => cnd (Nat.blt iv 2147483648)
        (frc (Nat.succ (Nat.sub m n)) fun Q => divK p iv n ys Q xs [] fun rest q => tzK q fun q => takeN (Nat.pred n) rest fun rs => tzK rs fun rs => outK q fun qs qn => outK rs fun rs rn => some (.tup [.tree qs qn true, .tree rs rn true])) none) none) none) none) none) none) none) none))
theorem fpDivModM_run {φ : Nat} {as : List D} {r : D} (h : fpDivModM φ as = some r) : ∃ φ', R_fp_DivMod φ' as = some r := by
  obtain ⟨a, r1, rfl, g1⟩ := u1_some h
  obtain ⟨f, r2, rfl, g2⟩ := u1_some g1
  obtain ⟨g, r3, rfl, g3⟩ := u1_some g2
  obtain ⟨rfl, g4⟩ := u0_some g3
  obtain ⟨p, rfl, g5⟩ := on63_some g4
  obtain ⟨cs, m, ex, rfl, g6⟩ := onTr_some g5
  obtain ⟨ds, n, ey, rfl, g7⟩ := onTr_some g6
  rcases cnd_cases' g7 with ⟨_, g8⟩ | ⟨hmn, g8⟩
  · exact ⟨φ, g8⟩
  obtain ⟨h1, g9⟩ := ob_cond g8
  obtain ⟨h2, g10⟩ := ob_cond g9
  obtain ⟨h3, g11⟩ := ob_cond g10
  obtain ⟨h4, g12⟩ := ob_cond g11
  obtain ⟨h5, g13⟩ := ob_cond g12
  obtain ⟨xs, rfl, hxs, g14⟩ := numsK_some g13
  obtain ⟨ys, rfl, hys, g15⟩ := numsK_some g14
  obtain ⟨h6, g16⟩ := ob_cond g15
  obtain ⟨h7, g17⟩ := ob_cond g16
  have h6 := Nat.eq_of_beq_eq_true h6
  have h7 := Nat.eq_of_beq_eq_true h7
  subst h6 h7
  obtain ⟨lead, hl, g18⟩ := nthN_some g17
  obtain ⟨v, hv, g19⟩ := ob_some g18
  obtain ⟨iv, rfl, g20⟩ := on63_some g19
  obtain ⟨h8, g21⟩ := ob_cond g20
  have hn0 := lt_of_blt h1
  have hle : ys.length ≤ xs.length := by
    rcases Nat.lt_or_ge xs.length ys.length with h | h
    · rw [blt_true h] at hmn; cases hmn
    · exact h
  rw [frc_eq, divK_eq hn0 (by show xs.length - ys.length + 1 + ys.length ≤ _; omega), tzK_eq, takeN_eq, tzK_eq, outK_eq, outK_eq] at g21
  refine ⟨φ, ?_⟩
  rw [fpDivMod_run (lt_of_blt h2) (lt_of_blt h3) (lt_of_blt h8) hxs hys hn0 hle (by have := Nat.le_of_ble_eq_true h4; omega) (lt_of_blt h5) hl hv]
  exact g21
end
end Go.Proofs.Ev
set_option linter.unusedVariables false
set_option maxRecDepth 1000000
set_option maxHeartbeats 0
namespace Go.Proofs.Ev
noncomputable section
def R_exact_NatOf (φ : Nat) : List D → Option D :=
fun as =>
(fun (s : LS) =>
 u1 as fun a1 r4 =>
 u0 r4 (
 kBsl 1 [(.i .u64 (.ofNat 0))] [(0, 1, a1)] s fun x2 s =>
 isoK packM [x2] s fun x3 s =>
 retK false s x3 some)) s0
def R_exact_IntMake (φ : Nat) : List D → Option D :=
fun as =>
(fun (s : LS) =>
 u1 as fun a1 r9 =>
 u1 r9 fun a2 r10 =>
 u0 r10 (
 kAlloc [(.b false), (.n 0)] s fun x3 s =>
 kGuard a1 true (fun k => k a2 s) s fun x4 s =>
 kGuard a1 true (fun k => kNeq x4 (.n 0) fun d => k d s) s fun x5 s =>
 kPick a1 x5 (.b false) s fun x6 s =>
 kBuild [(.b false), (.n 0)] [(0, 1, x6), (1, 1, a2)] s fun x7 s =>
 kStore 2 s x3 x7 fun _ s =>
 kLoadn 2 s x3 fun x8 _ =>
 retK false s x8 some)) s0
def R_exact_IntNeg (φ : Nat) : List D → Option D :=
fun as =>
(fun (s : LS) =>
 u1 as fun a1 r11 =>
 u0 r11 (
 kBox a1 s fun x2 s =>
 kAlloc [(.b false), (.n 0)] s fun x3 s =>
 kFaddr 0 s x2 fun x4 s =>
 kLoad1 s x4 fun x5 s =>
 kNot x5 s fun x6 s =>
 kFaddr 1 s x2 fun x7 s =>
 kLoad1 s x7 fun x8 s =>
 isoK (R_exact_IntMake φ) [x6, x8] s fun x9 s =>
 kStore 2 s x3 x9 fun _ s =>
 kLoadn 2 s x3 fun x10 _ =>
 retK false s x10 some)) s0
def R_exact_IntAdd (φ : Nat) : List D → Option D :=
fun as =>
(fun (s : LS) =>
 u1 as fun a1 r44 =>
 u1 r44 fun a2 r45 =>
 u0 r45 (
 kBox a1 s fun x3 s =>
 kBox a2 s fun x4 s =>
 kAlloc [(.b false), (.n 0)] s fun x5 s =>
 kFaddr 0 s x3 fun x6 s =>
 kLoad1 s x6 fun x7 s =>
 kFaddr 0 s x4 fun x8 s =>
 kLoad1 s x8 fun x9 s =>
 kBinb .eql x7 x9 s fun x10 s =>
 kCond x10
(kFaddr 0 s x3 fun x11 s =>
 kLoad1 s x11 fun x12 s =>
 kFaddr 1 s x3 fun x13 s =>
 kLoad1 s x13 fun x14 s =>
 kFaddr 1 s x4 fun x15 s =>
 kLoad1 s x15 fun x16 s =>
 isoK natAddM [x14, x16] s fun x17 s =>
 isoK (R_exact_IntMake φ) [x12, x17] s fun x18 s =>
 kStore 2 s x5 x18 fun _ s =>
 kLoadn 2 s x5 fun x19 _ =>
 retK false s x19 some)
(kFaddr 1 s x3 fun x20 s =>
 kLoad1 s x20 fun x21 s =>
 kFaddr 1 s x4 fun x22 s =>
 kLoad1 s x22 fun x23 s =>
 isoK natCmpM [x21, x23] s fun x24 s =>
 kLss x24 (.i .i64 (.ofNat 0)) fun x25 =>
 kCond x25
(kFaddr 0 s x4 fun x26 s =>
 kLoad1 s x26 fun x27 s =>
 kFaddr 1 s x4 fun x28 s =>
 kLoad1 s x28 fun x29 s =>
 kFaddr 1 s x3 fun x30 s =>
 kLoad1 s x30 fun x31 s =>
 isoK natSubM [x29, x31] s fun x32 s =>
 isoK (R_exact_IntMake φ) [x27, x32] s fun x33 s =>
 kStore 2 s x5 x33 fun _ s =>
 kLoadn 2 s x5 fun x34 _ =>
 retK false s x34 some)
(kFaddr 0 s x3 fun x35 s =>
 kLoad1 s x35 fun x36 s =>
 kFaddr 1 s x3 fun x37 s =>
 kLoad1 s x37 fun x38 s =>
 kFaddr 1 s x4 fun x39 s =>
 kLoad1 s x39 fun x40 s =>
 isoK natSubM [x38, x40] s fun x41 s =>
 isoK (R_exact_IntMake φ) [x36, x41] s fun x42 s =>
 kStore 2 s x5 x42 fun _ s =>
 kLoadn 2 s x5 fun x43 _ =>
 retK false s x43 some)))) s0
def R_exact_IntMul (φ : Nat) : List D → Option D :=
fun as =>
(fun (s : LS) =>
 u1 as fun a1 r18 =>
 u1 r18 fun a2 r19 =>
 u0 r19 (
 kBox a1 s fun x3 s =>
 kBox a2 s fun x4 s =>
 kAlloc [(.b false), (.n 0)] s fun x5 s =>
 kFaddr 0 s x3 fun x6 s =>
 kLoad1 s x6 fun x7 s =>
 kFaddr 0 s x4 fun x8 s =>
 kLoad1 s x8 fun x9 s =>
 kBinb .neq x7 x9 s fun x10 s =>
 kFaddr 1 s x3 fun x11 s =>
 kLoad1 s x11 fun x12 s =>
 kFaddr 1 s x4 fun x13 s =>
 kLoad1 s x13 fun x14 s =>
 isoK natMulM [x12, x14] s fun x15 s =>
 isoK (R_exact_IntMake φ) [x10, x15] s fun x16 s =>
 kStore 2 s x5 x16 fun _ s =>
 kLoadn 2 s x5 fun x17 _ =>
 retK false s x17 some)) s0
def R_exact_IntCmp (φ : Nat) : List D → Option D :=
fun as =>
(fun (s : LS) =>
 u1 as fun a1 r24 =>
 u1 r24 fun a2 r25 =>
 u0 r25 (
 kBox a1 s fun x3 s =>
 kBox a2 s fun x4 s =>
 kFaddr 0 s x3 fun x5 s =>
 kLoad1 s x5 fun x6 s =>
 kFaddr 0 s x4 fun x7 s =>
 kLoad1 s x7 fun x8 s =>
 kBinb .neq x6 x8 s fun x9 s =>
 kCond x9
(kFaddr 0 s x3 fun x10 s =>
 kLoad1 s x10 fun x11 s =>
 kCond x11
(retK false s (.i .i64 (.negSucc 0)) some)
(retK false s (.i .i64 (.ofNat 1)) some))
(kFaddr 0 s x3 fun x12 s =>
 kLoad1 s x12 fun x13 s =>
 kCond x13
(kFaddr 1 s x4 fun x14 s =>
 kLoad1 s x14 fun x15 s =>
 kFaddr 1 s x3 fun x16 s =>
 kLoad1 s x16 fun x17 s =>
 isoK natCmpM [x15, x17] s fun x18 s =>
 retK false s x18 some)
(kFaddr 1 s x3 fun x19 s =>
 kLoad1 s x19 fun x20 s =>
 kFaddr 1 s x4 fun x21 s =>
 kLoad1 s x21 fun x22 s =>
 isoK natCmpM [x20, x22] s fun x23 s =>
 retK false s x23 some)))) s0
def R_exact_IntDivMod (φ : Nat) : List D → Option D :=
fun as =>
(fun (s : LS) =>
 u1 as fun a1 r40 =>
 u1 r40 fun a2 r41 =>
 u0 r41 (
 kBox a1 s fun x3 s =>
 kBox a2 s fun x4 s =>
 kAlloc [(.b false), (.n 0)] s fun x5 s =>
 kAlloc [(.b false), (.n 0)] s fun x6 s =>
 kFaddr 1 s x3 fun x7 s =>
 kLoad1 s x7 fun x8 s =>
 kFaddr 1 s x4 fun x9 s =>
 kLoad1 s x9 fun x10 s =>
 isoK (natDivModM φ) [x8, x10] s fun x11 s =>
 kExt x11 0 s fun x12 s =>
 kExt x11 1 s fun x13 s =>
 jn (fun (x15 x16 x17 x18 x19 x20 : D) (s : LS) =>
 kFaddr 0 s x15 fun x21 s =>
 kLoad1 s x21 fun x22 s =>
 kFaddr 0 s x16 fun x23 s =>
 kLoad1 s x23 fun x24 s =>
 kBinb .neq x22 x24 s fun x25 s =>
 isoK (R_exact_IntMake φ) [x25, x19] s fun x26 s =>
 kBuild [(.b false), (.n 0)] [(1, 1, x20)] s fun x27 s =>
 kStore 2 s x17 x26 fun _ s =>
 kStore 2 s x18 x27 fun _ s =>
 kLoadn 2 s x17 fun x28 _ =>
 kLoadn 2 s x18 fun x29 _ =>
 retK false s (.tup [x28, x29]) some) fun j14 =>
 kFaddr 0 s x3 fun x30 s =>
 kLoad1 s x30 fun x31 s =>
 kGuard x31 true (fun k => k x13 s) s fun x32 s =>
 kGuard x31 true (fun k => kNeq x32 (.n 0) fun d => k d s) s fun x33 s =>
 kPick x31 x33 (.b false) s fun x34 s =>
 kCond x34
(isoK (R_exact_NatOf φ) [(.i .u64 (.ofNat 1))] s fun x35 s =>
 isoK natAddM [x12, x35] s fun x36 s =>
 kFaddr 1 s x4 fun x37 s =>
 kLoad1 s x37 fun x38 s =>
 isoK natSubM [x38, x13] s fun x39 s =>
 j14 x3 x4 x5 x6 x36 x39 s)
(j14 x3 x4 x5 x6 x12 x13 s))) s0
end
end Go.Proofs.Ev
set_option linter.unusedVariables false
set_option linter.unusedSimpArgs false
namespace Go.Proofs.Ev
noncomputable section
variable {s : LS} {K : D → LS → Rs}
theorem iso_nn {M : List D → Option D} {a b z : Nat} (h : M [.n a, .n b] = some (.n z)) : isoK M [.n a, .n b] s K = K (.n z) s := by
  show ob (M [.n a, .n b]) (fun r => finK s [] r K) = _
  rw [h]; rfl
theorem iso_ni {M : List D → Option D} {a b : Nat} {k : IntKind} {z : Int} (h : M [.n a, .n b] = some (.i k z)) : isoK M [.n a, .n b] s K = K (.i k z) s := by
  show ob (M [.n a, .n b]) (fun r => finK s [] r K) = _
  rw [h]; rfl
theorem iso_nt {M : List D → Option D} {a b q r : Nat} (h : M [.n a, .n b] = some (.tup [.n q, .n r])) : isoK M [.n a, .n b] s K = K (.tup [.n q, .n r]) s := by
  show ob (M [.n a, .n b]) (fun r => finK s [] r K) = _
  rw [h]; rfl
theorem iso_bn {M : List D → Option D} {x y : Bool} {a z : Nat} (h : M [.b x, .n a] = some (.agg [.b y, .n z])) : isoK M [.b x, .n a] s K = K (.agg [.b y, .n z]) s := by
  show ob (M [.b x, .n a]) (fun r => finK s [] r K) = _
  rw [h]; rfl
theorem iso_in {M : List D → Option D} {k : IntKind} {x : Int} {z : Nat} (h : M [.i k x] = some (.n z)) : isoK M [.i k x] s K = K (.n z) s := by
  show ob (M [.i k x]) (fun r => finK s [] r K) = _
  rw [h]; rfl
def it (x : Bool) (a : Nat) : D := .agg [.b x, .n a]
theorem intMake_run {b : Bool} {a φ : Nat} : R_exact_IntMake φ [.b b, .n a] = some (it (b && !(Nat.beq a 0)) a) := by
  cases b
  · rfl
  · cases a <;> rfl
def mkS (a b : List D) : LS := ⟨.node (some ⟨a, .rw⟩) (.node (some ⟨b, .rw⟩) .nil .nil) (.node (some ⟨[.b false, .n 0], .rw⟩) .nil .nil), 3⟩
theorem fin3 {x : Bool} {z : Nat} {a b : List D} : (kStore 2 (mkS a b) (.ptr 2 0) (it x z) fun _ s => kLoadn 2 s (.ptr 2 0) fun x17 _ => retK false s x17 some) = some (it x z) := by kernel_rfl
theorem intNeg_run {x : Bool} {a φ : Nat} : R_exact_IntNeg φ [it x a] = some (it (!x && !(Nat.beq a 0)) a) := by
  refine Eq.trans (b := isoK (R_exact_IntMake φ) [.b (!x), .n a] ⟨.node (some ⟨[.b x, .n a], .rw⟩) (.node (some ⟨[.b false, .n 0], .rw⟩) .nil .nil) .nil, 2⟩ fun x9 s => kStore 2 s (.ptr 1 0) x9 fun _ s => kLoadn 2 s (.ptr 1 0) fun x10 _ => retK false s x10 some) (by cases x <;> kernel_rfl) ?_
  rw [iso_bn intMake_run]; kernel_rfl
theorem intMul_run {x y : Bool} {a b z φ : Nat} (h : natMulM [.n a, .n b] = some (.n z)) : R_exact_IntMul φ [it x a, it y b] = some (it ((x != y) && !(Nat.beq z 0)) z) := by
  refine Eq.trans (b := isoK natMulM [.n a, .n b] (mkS [.b x, .n a] [.b y, .n b]) fun x15 s' => isoK (R_exact_IntMake φ) [.b (x != y), x15] s' fun x16 s => kStore 2 s (.ptr 2 0) x16 fun _ s => kLoadn 2 s (.ptr 2 0) fun x17 _ => retK false s x17 some) (by cases x <;> cases y <;> kernel_rfl) ?_
  rw [iso_nn h, iso_bn intMake_run]
  exact fin3
theorem intAdd_same {x : Bool} {a b z φ : Nat} (h : natAddM [.n a, .n b] = some (.n z)) : R_exact_IntAdd φ [it x a, it x b] = some (it (x && !(Nat.beq z 0)) z) := by
  refine Eq.trans (b := isoK natAddM [.n a, .n b] (mkS [.b x, .n a] [.b x, .n b]) fun x15 s' => isoK (R_exact_IntMake φ) [.b x, x15] s' fun x16 s => kStore 2 s (.ptr 2 0) x16 fun _ s => kLoadn 2 s (.ptr 2 0) fun x17 _ => retK false s x17 some) (by cases x <;> kernel_rfl) ?_
  rw [iso_nn h, iso_bn intMake_run]
  exact fin3
theorem intAdd_cmp {x y : Bool} {a b φ : Nat} {c : Int} (hxy : x ≠ y) (h : natCmpM [.n a, .n b] = some (.i .i64 c)) : R_exact_IntAdd φ [it x a, it y b] =
    (kLss (.i .i64 c) (.i .i64 (.ofNat 0)) fun x25 => kCond x25
      (isoK natSubM [.n b, .n a] (mkS [.b x, .n a] [.b y, .n b]) fun x15 s' => isoK (R_exact_IntMake φ) [.b y, x15] s' fun x16 s => kStore 2 s (.ptr 2 0) x16 fun _ s => kLoadn 2 s (.ptr 2 0) fun x17 _ => retK false s x17 some)
      (isoK natSubM [.n a, .n b] (mkS [.b x, .n a] [.b y, .n b]) fun x15 s' => isoK (R_exact_IntMake φ) [.b x, x15] s' fun x16 s => kStore 2 s (.ptr 2 0) x16 fun _ s => kLoadn 2 s (.ptr 2 0) fun x17 _ => retK false s x17 some)) := by
  refine Eq.trans (b := isoK natCmpM [.n a, .n b] (mkS [.b x, .n a] [.b y, .n b]) fun x24 s => kLss x24 (.i .i64 (.ofNat 0)) fun x25 => kCond x25
      (kFaddr 0 s (.ptr 1 0) fun x26 s => kLoad1 s x26 fun x27 s => kFaddr 1 s (.ptr 1 0) fun x28 s => kLoad1 s x28 fun x29 s => kFaddr 1 s (.ptr 0 0) fun x30 s => kLoad1 s x30 fun x31 s =>
        isoK natSubM [x29, x31] s fun x32 s => isoK (R_exact_IntMake φ) [x27, x32] s fun x33 s => kStore 2 s (.ptr 2 0) x33 fun _ s => kLoadn 2 s (.ptr 2 0) fun x34 _ => retK false s x34 some)
      (kFaddr 0 s (.ptr 0 0) fun x35 s => kLoad1 s x35 fun x36 s => kFaddr 1 s (.ptr 0 0) fun x37 s => kLoad1 s x37 fun x38 s => kFaddr 1 s (.ptr 1 0) fun x39 s => kLoad1 s x39 fun x40 s =>
        isoK natSubM [x38, x40] s fun x41 s => isoK (R_exact_IntMake φ) [x36, x41] s fun x42 s => kStore 2 s (.ptr 2 0) x42 fun _ s => kLoadn 2 s (.ptr 2 0) fun x43 _ => retK false s x43 some)) (by cases x <;> cases y <;> first | exact absurd rfl hxy | kernel_rfl) ?_
  rw [iso_ni h]; kernel_rfl
theorem natCmp_lt {a b : Nat} (h : a < b) : natCmpM [.n a, .n b] = some (.i .i64 (.negSucc 0)) := by
  show some (cnd (Nat.blt a b) (D.i .i64 (.negSucc 0)) (cnd (Nat.beq a b) (D.i .i64 (.ofNat 0)) (D.i .i64 (.ofNat 1)))) = _
  rw [blt_true h]; rfl
theorem natCmp_ge {a b : Nat} (h : b ≤ a) : ∃ c, natCmpM [.n a, .n b] = some (.i .i64 (.ofNat c)) := by
  have e : natCmpM [.n a, .n b] = some (cnd (Nat.blt a b) (D.i .i64 (.negSucc 0)) (cnd (Nat.beq a b) (D.i .i64 (.ofNat 0)) (D.i .i64 (.ofNat 1)))) := rfl
  rw [e, blt_false (by omega), cnd_false]
  by_cases h2 : a = b
  · rw [h2, beq_self]; exact ⟨0, rfl⟩
  · rw [beq_ne h2]; exact ⟨1, rfl⟩
theorem intAdd_lt {x y : Bool} {a b z φ : Nat} (hxy : x ≠ y) (hab : a < b) (h : natSubM [.n b, .n a] = some (.n z)) : R_exact_IntAdd φ [it x a, it y b] = some (it (y && !(Nat.beq z 0)) z) := by
  rw [intAdd_cmp hxy (natCmp_lt hab), kLss_neg, kCond_t, iso_nn h, iso_bn intMake_run]
  exact fin3
theorem intAdd_ge {x y : Bool} {a b z φ : Nat} (hxy : x ≠ y) (hab : b ≤ a) (h : natSubM [.n a, .n b] = some (.n z)) : R_exact_IntAdd φ [it x a, it y b] = some (it (x && !(Nat.beq z 0)) z) := by
  obtain ⟨c, hc⟩ := natCmp_ge hab
  rw [intAdd_cmp hxy hc, kLss_n, blt_false (Nat.not_lt_zero c), kCond_f, iso_nn h, iso_bn intMake_run]
  exact fin3
def onBv (d : D) (k : Bool → Rs) : Rs := onB d (k true) (k false) none
theorem onBv_some {d : D} {k : Bool → Rs} {r : D} (h : onBv d k = some r) : ∃ x, d = .b x ∧ k x = some r := by
  cases d with
  | b x => cases x <;> exact ⟨_, rfl, h⟩
  | _ => cases h
def onIt (d : D) (k : Bool → Nat → Rs) : Rs := onAgg d (fun cs => u1 cs fun b r => u1 r fun n r => u0 r (onBv b fun x => onNum n fun a => k x a)) none
theorem onIt_some {d : D} {k : Bool → Nat → Rs} {r : D} (h : onIt d k = some r) : ∃ x a, d = it x a ∧ k x a = some r := by
  obtain ⟨cs, rfl, h1⟩ := onAgg_some h
  obtain ⟨b, r1, rfl, h2⟩ := u1_some h1
  obtain ⟨n, r2, rfl, h3⟩ := u1_some h2
  obtain ⟨rfl, h4⟩ := u0_some h3
  obtain ⟨x, rfl, h5⟩ := onBv_some h4
  obtain ⟨a, rfl, h6⟩ := onNum_some h5
  exact ⟨x, a, rfl, h6⟩
def kIt (x : Bool) (z : Nat) (k : D → Rs) : Rs := cnd x (cnd (Nat.beq z 0) (k (.agg [.b false, .n z])) (k (.agg [.b true, .n z]))) (k (.agg [.b false, .n z]))
theorem kIt_eq {x : Bool} {z : Nat} {k : D → Rs} : kIt x z k = k (it (x && !(Nat.beq z 0)) z) := by
  unfold kIt it
  cases x
  · rfl
  · cases Nat.beq z 0 <;> rfl
def intNegM (as : List D) : Option D := u1 as fun a r => u0 r (onIt a fun x a => kIt (cnd x false true) a some)
theorem intNegM_run {as : List D} {r : D} (h : intNegM as = some r) : ∃ φ, R_exact_IntNeg φ as = some r := by
  obtain ⟨a, r1, rfl, g1⟩ := u1_some h
  obtain ⟨rfl, g2⟩ := u0_some g1
  obtain ⟨x, a, rfl, g3⟩ := onIt_some g2
  rw [kIt_eq] at g3
  refine ⟨0, ?_⟩
  rw [intNeg_run, ← g3]
  cases x <;> rfl
def intMulM (as : List D) : Option D := u1 as fun a r => u1 r fun b r => u0 r (onIt a fun x a => onIt b fun y b => ob (natMulM [.n a, .n b]) fun z => onNum z fun z => kIt (cnd x (cnd y false true) y) z some)
theorem intMulM_run {as : List D} {r : D} (h : intMulM as = some r) : ∃ φ, R_exact_IntMul φ as = some r := by
  obtain ⟨a, r1, rfl, g1⟩ := u1_some h
  obtain ⟨b, r2, rfl, g2⟩ := u1_some g1
  obtain ⟨rfl, g3⟩ := u0_some g2
  obtain ⟨x, a, rfl, g4⟩ := onIt_some g3
  obtain ⟨y, b, rfl, g5⟩ := onIt_some g4
  obtain ⟨z, hz, g6⟩ := ob_some g5
  obtain ⟨z, rfl, g7⟩ := onNum_some g6
  rw [kIt_eq] at g7
  refine ⟨0, ?_⟩
  rw [intMul_run hz, ← g7]
  cases x <;> cases y <;> rfl
def addK (x : Bool) (a : Nat) (y : Bool) (b : Nat) (k : D → Rs) : Rs :=
  cnd (cnd x y (cnd y false true)) (ob (natAddM [.n a, .n b]) fun z => onNum z fun z => kIt x z k)
    (cnd (Nat.blt a b) (ob (natSubM [.n b, .n a]) fun z => onNum z fun z => kIt y z k) (ob (natSubM [.n a, .n b]) fun z => onNum z fun z => kIt x z k))
theorem addK_some {x y : Bool} {a b : Nat} {k : D → Rs} {r : D} (h : addK x a y b k = some r) : ∃ v z, (∀ φ, R_exact_IntAdd φ [it x a, it y b] = some (it v z)) ∧ k (it v z) = some r := by
  unfold addK at h
  by_cases hxy : x = y
  · subst hxy
    have e : cnd x x (cnd x false true) = true := by cases x <;> rfl
    rw [e, cnd_true] at h
    obtain ⟨z, hz, g6⟩ := ob_some h
    obtain ⟨z, rfl, g7⟩ := onNum_some g6
    rw [kIt_eq] at g7
    exact ⟨_, z, fun φ => intAdd_same hz, g7⟩
  · have e : cnd x y (cnd y false true) = false := by cases x <;> cases y <;> first | rfl | exact absurd rfl hxy
    rw [e, cnd_false] at h
    rcases cnd_cases' h with ⟨h1, g⟩ | ⟨h1, g⟩
    · obtain ⟨z, hz, g6⟩ := ob_some g
      obtain ⟨z, rfl, g7⟩ := onNum_some g6
      rw [kIt_eq] at g7
      exact ⟨_, z, fun φ => intAdd_lt hxy (lt_of_blt h1) hz, g7⟩
    · obtain ⟨z, hz, g6⟩ := ob_some g
      obtain ⟨z, rfl, g7⟩ := onNum_some g6
      rw [kIt_eq] at g7
      have hle : b ≤ a := by
        rcases Nat.lt_or_ge a b with hq | hq
        · rw [blt_true hq] at h1; cases h1
        · exact hq
      exact ⟨_, z, fun φ => intAdd_ge hxy hle hz, g7⟩
def intAddM (as : List D) : Option D := u1 as fun a r => u1 r fun b r => u0 r (onIt a fun x a => onIt b fun y b => addK x a y b some)
theorem intAddM_run {as : List D} {r : D} (h : intAddM as = some r) : ∃ φ, R_exact_IntAdd φ as = some r := by
  obtain ⟨a, r1, rfl, g1⟩ := u1_some h
  obtain ⟨b, r2, rfl, g2⟩ := u1_some g1
  obtain ⟨rfl, g3⟩ := u0_some g2
  obtain ⟨x, a, rfl, g4⟩ := onIt_some g3
  obtain ⟨y, b, rfl, g5⟩ := onIt_some g4
  obtain ⟨v, z, h1, h2⟩ := addK_some g5
  exact ⟨0, by rw [h1]; exact h2⟩
end
end Go.Proofs.Ev
set_option linter.unusedVariables false
set_option maxRecDepth 1000000
set_option maxHeartbeats 0
namespace Go.Proofs.Ev
noncomputable section
def R_exact_Whole (φ : Nat) : List D → Option D :=
fun as =>
(fun (s : LS) =>
 u1 as fun a1 r7 =>
 u0 r7 (
 kBox a1 s fun x2 s =>
 kAlloc [(.b false), (.n 0), (.n 0)] s fun x3 s =>
 kLoadn 2 s x2 fun x4 s =>
 kBuild [(.b false), (.n 0), (.n 0)] [(0, 2, x4), (2, 1, (.n 1))] s fun x5 s =>
 kStore 3 s x3 x5 fun _ s =>
 kLoadn 3 s x3 fun x6 _ =>
 retK false s x6 some)) s0
def R_exact_Make (φ : Nat) : List D → Option D :=
fun as =>
(fun (s : LS) =>
 u1 as fun a1 r40 =>
 u1 r40 fun a2 r41 =>
 u0 r41 (
 kBox a1 s fun x3 s =>
 kBox a2 s fun x4 s =>
 kAlloc [(.b false), (.n 0), (.n 0)] s fun x5 s =>
 kFaddr 1 s x3 fun x6 s =>
 kLoad1 s x6 fun x7 s =>
 kFaddr 1 s x4 fun x8 s =>
 kLoad1 s x8 fun x9 s =>
 isoK (natGcdM φ) [x7, x9] s fun x10 s =>
 jn (fun (x12 x13 x14 : D) (s : LS) =>
 kFaddr 0 s x12 fun x15 s =>
 kLoad1 s x15 fun x16 s =>
 kFaddr 0 s x13 fun x17 s =>
 kLoad1 s x17 fun x18 s =>
 kBinb .neq x16 x18 s fun x19 s =>
 kFaddr 1 s x12 fun x20 s =>
 kLoad1 s x20 fun x21 s =>
 isoK (R_exact_IntMake φ) [x19, x21] s fun x22 s =>
 kFaddr 1 s x13 fun x23 s =>
 kLoad1 s x23 fun x24 s =>
 kBuild [(.b false), (.n 0), (.n 0)] [(0, 2, x22), (2, 1, x24)] s fun x25 s =>
 kStore 3 s x14 x25 fun _ s =>
 kLoadn 3 s x14 fun x26 _ =>
 retK false s x26 some) fun j11 =>
 kNeq x10 (.n 1) fun x27 =>
 kCond x27
(kFaddr 1 s x3 fun x28 s =>
 kLoad1 s x28 fun x29 s =>
 isoK (natDivModM φ) [x29, x10] s fun x30 s =>
 kExt x30 0 s fun x31 s =>
 kExt x30 1 s fun x32 s =>
 kFaddr 1 s x3 fun x33 s =>
 kStore 1 s x33 x31 fun _ s =>
 kFaddr 1 s x4 fun x34 s =>
 kLoad1 s x34 fun x35 s =>
 isoK (natDivModM φ) [x35, x10] s fun x36 s =>
 kExt x36 0 s fun x37 s =>
 kExt x36 1 s fun x38 s =>
 kFaddr 1 s x4 fun x39 s =>
 kStore 1 s x39 x37 fun _ s =>
 j11 x3 x4 x5 s)
(j11 x3 x4 x5 s))) s0
def R_exact_Add (φ : Nat) : List D → Option D :=
fun as =>
(fun (s : LS) =>
 u1 as fun a1 r62 =>
 u1 r62 fun a2 r63 =>
 u0 r63 (
 kBox a1 s fun x3 s =>
 kBox a2 s fun x4 s =>
 kAlloc [(.b false), (.n 0), (.n 0)] s fun x5 s =>
 kFaddr 2 s x3 fun x6 s =>
 kLoad1 s x6 fun x7 s =>
 kFaddr 2 s x4 fun x8 s =>
 kLoad1 s x8 fun x9 s =>
 kEql x7 x9 fun x10 =>
 kCond x10
(kFaddr 2 s x3 fun x11 s =>
 kLoad1 s x11 fun x12 s =>
 kEql x12 (.n 1) fun x13 =>
 kCond x13
(kFaddr 0 s x3 fun x14 s =>
 kLoadn 2 s x14 fun x15 s =>
 kFaddr 0 s x4 fun x16 s =>
 kLoadn 2 s x16 fun x17 s =>
 isoK intAddM [x15, x17] s fun x18 s =>
 isoK (R_exact_Whole φ) [x18] s fun x19 s =>
 kStore 3 s x5 x19 fun _ s =>
 kLoadn 3 s x5 fun x20 _ =>
 retK false s x20 some)
(kFaddr 0 s x3 fun x21 s =>
 kLoadn 2 s x21 fun x22 s =>
 kFaddr 0 s x4 fun x23 s =>
 kLoadn 2 s x23 fun x24 s =>
 isoK intAddM [x22, x24] s fun x25 s =>
 kFaddr 2 s x3 fun x26 s =>
 kLoad1 s x26 fun x27 s =>
 kBuild [(.b false), (.n 0)] [(1, 1, x27)] s fun x28 s =>
 isoK (R_exact_Make φ) [x25, x28] s fun x29 s =>
 kStore 3 s x5 x29 fun _ s =>
 kLoadn 3 s x5 fun x30 _ =>
 retK false s x30 some))
(kFaddr 0 s x3 fun x31 s =>
 kFaddr 0 s x31 fun x32 s =>
 kLoad1 s x32 fun x33 s =>
 kFaddr 0 s x3 fun x34 s =>
 kFaddr 1 s x34 fun x35 s =>
 kLoad1 s x35 fun x36 s =>
 kFaddr 2 s x4 fun x37 s =>
 kLoad1 s x37 fun x38 s =>
 isoK natMulM [x36, x38] s fun x39 s =>
 isoK (R_exact_IntMake φ) [x33, x39] s fun x40 s =>
 kFaddr 0 s x4 fun x41 s =>
 kFaddr 0 s x41 fun x42 s =>
 kLoad1 s x42 fun x43 s =>
 kFaddr 0 s x4 fun x44 s =>
 kFaddr 1 s x44 fun x45 s =>
 kLoad1 s x45 fun x46 s =>
 kFaddr 2 s x3 fun x47 s =>
 kLoad1 s x47 fun x48 s =>
 isoK natMulM [x46, x48] s fun x49 s =>
 isoK (R_exact_IntMake φ) [x43, x49] s fun x50 s =>
 isoK intAddM [x40, x50] s fun x51 s =>
 kAlloc [(.b false), (.n 0)] s fun x52 s =>
 kStore 2 s x52 x51 fun _ s =>
 kLoadn 2 s x52 fun x53 s =>
 kFaddr 2 s x3 fun x54 s =>
 kLoad1 s x54 fun x55 s =>
 kFaddr 2 s x4 fun x56 s =>
 kLoad1 s x56 fun x57 s =>
 isoK natMulM [x55, x57] s fun x58 s =>
 kBuild [(.b false), (.n 0)] [(1, 1, x58)] s fun x59 s =>
 isoK (R_exact_Make φ) [x53, x59] s fun x60 s =>
 kStore 3 s x5 x60 fun _ s =>
 kLoadn 3 s x5 fun x61 _ =>
 retK false s x61 some))) s0
def R_exact_Mul (φ : Nat) : List D → Option D :=
fun as =>
(fun (s : LS) =>
 u1 as fun a1 r33 =>
 u1 r33 fun a2 r34 =>
 u0 r34 (
 kBox a1 s fun x3 s =>
 kBox a2 s fun x4 s =>
 kAlloc [(.b false), (.n 0), (.n 0)] s fun x5 s =>
 kFaddr 2 s x3 fun x6 s =>
 kLoad1 s x6 fun x7 s =>
 kEql x7 (.n 1) fun x8 =>
 kGuard x8 true (fun k => kFaddr 2 s x4 k) s fun x9 s =>
 kGuard x8 true (fun k => kLoad1 s x9 k) s fun x10 s =>
 kGuard x8 true (fun k => kEql x10 (.n 1) fun d => k d s) s fun x11 s =>
 kPick x8 x11 (.b false) s fun x12 s =>
 kCond x12
(kFaddr 0 s x3 fun x13 s =>
 kLoadn 2 s x13 fun x14 s =>
 kFaddr 0 s x4 fun x15 s =>
 kLoadn 2 s x15 fun x16 s =>
 isoK intMulM [x14, x16] s fun x17 s =>
 isoK (R_exact_Whole φ) [x17] s fun x18 s =>
 kStore 3 s x5 x18 fun _ s =>
 kLoadn 3 s x5 fun x19 _ =>
 retK false s x19 some)
(kFaddr 0 s x3 fun x20 s =>
 kLoadn 2 s x20 fun x21 s =>
 kFaddr 0 s x4 fun x22 s =>
 kLoadn 2 s x22 fun x23 s =>
 isoK intMulM [x21, x23] s fun x24 s =>
 kFaddr 2 s x3 fun x25 s =>
 kLoad1 s x25 fun x26 s =>
 kFaddr 2 s x4 fun x27 s =>
 kLoad1 s x27 fun x28 s =>
 isoK natMulM [x26, x28] s fun x29 s =>
 kBuild [(.b false), (.n 0)] [(1, 1, x29)] s fun x30 s =>
 isoK (R_exact_Make φ) [x24, x30] s fun x31 s =>
 kStore 3 s x5 x31 fun _ s =>
 kLoadn 3 s x5 fun x32 _ =>
 retK false s x32 some))) s0
def R_exact_IntSub (φ : Nat) : List D → Option D :=
fun as =>
(fun (s : LS) =>
 u1 as fun a1 r11 =>
 u1 r11 fun a2 r12 =>
 u0 r12 (
 kBox a1 s fun x3 s =>
 kBox a2 s fun x4 s =>
 kAlloc [(.b false), (.n 0)] s fun x5 s =>
 kLoadn 2 s x3 fun x6 s =>
 kLoadn 2 s x4 fun x7 s =>
 isoK intNegM [x7] s fun x8 s =>
 isoK intAddM [x6, x8] s fun x9 s =>
 kStore 2 s x5 x9 fun _ s =>
 kLoadn 2 s x5 fun x10 _ =>
 retK false s x10 some)) s0
end
end Go.Proofs.Ev
set_option linter.unusedVariables false
set_option linter.unusedSimpArgs false
namespace Go.Proofs.Ev
noncomputable section
variable {s : LS} {K : D → LS → Rs}
def mk4 (a b : List D) : LS := ⟨.node (some ⟨a, .rw⟩) (.node (some ⟨b, .rw⟩) (.node (some ⟨[.b false, .n 0], .rw⟩) .nil .nil) .nil) (.node (some ⟨[.b false, .n 0], .rw⟩) .nil .nil), 4⟩
def dvJ (φ : Nat) (x15 x16 x17 x18 x19 x20 : D) (s : LS) : Rs := (
 kFaddr 0 s x15 fun x21 s =>
 kLoad1 s x21 fun x22 s =>
 kFaddr 0 s x16 fun x23 s =>
 kLoad1 s x23 fun x24 s =>
 kBinb .neq x22 x24 s fun x25 s =>
 isoK (R_exact_IntMake φ) [x25, x19] s fun x26 s =>
 kBuild [(.b false), (.n 0)] [(1, 1, x20)] s fun x27 s =>
 kStore 2 s x17 x26 fun _ s =>
 kStore 2 s x18 x27 fun _ s =>
 kLoadn 2 s x17 fun x28 _ =>
 kLoadn 2 s x18 fun x29 _ =>
 retK false s (.tup [x28, x29]) some)
theorem dvJ_run {x y : Bool} {a b q r φ : Nat} : dvJ φ (.ptr 0 0) (.ptr 1 0) (.ptr 2 0) (.ptr 3 0) (.n q) (.n r) (mk4 [.b x, .n a] [.b y, .n b]) = some (.tup [it ((x != y) && !(Nat.beq q 0)) q, it false r]) := by
  refine Eq.trans (b := isoK (R_exact_IntMake φ) [.b (x != y), .n q] (mk4 [.b x, .n a] [.b y, .n b]) fun x26 s => kBuild [(.b false), (.n 0)] [(1, 1, .n r)] s fun x27 s => kStore 2 s (.ptr 2 0) x26 fun _ s => kStore 2 s (.ptr 3 0) x27 fun _ s => kLoadn 2 s (.ptr 2 0) fun x28 _ => kLoadn 2 s (.ptr 3 0) fun x29 _ => retK false s (.tup [x28, x29]) some) (by cases x <;> cases y <;> kernel_rfl) ?_
  rw [iso_bn intMake_run]; kernel_rfl
theorem natOf_one {φ : Nat} : R_exact_NatOf φ [.i .u64 (.ofNat 1)] = some (.n 1) := by kernel_rfl
theorem divMod_eq {x y : Bool} {a b φ : Nat} : R_exact_IntDivMod φ [it x a, it y b] = isoK (natDivModM φ) [.n a, .n b] (mk4 [.b x, .n a] [.b y, .n b]) fun x11 s =>
    kExt x11 0 s fun x12 s => kExt x11 1 s fun x13 s => kFaddr 0 s (.ptr 0 0) fun x30 s => kLoad1 s x30 fun x31 s => kGuard x31 true (fun k => k x13 s) s fun x32 s => kGuard x31 true (fun k => kNeq x32 (.n 0) fun d => k d s) s fun x33 s => kPick x31 x33 (.b false) s fun x34 s =>
    kCond x34 (isoK (R_exact_NatOf φ) [(.i .u64 (.ofNat 1))] s fun x35 s => isoK natAddM [x12, x35] s fun x36 s => kFaddr 1 s (.ptr 1 0) fun x37 s => kLoad1 s x37 fun x38 s => isoK natSubM [x38, x13] s fun x39 s => dvJ φ (.ptr 0 0) (.ptr 1 0) (.ptr 2 0) (.ptr 3 0) x36 x39 s)
      (dvJ φ (.ptr 0 0) (.ptr 1 0) (.ptr 2 0) (.ptr 3 0) x12 x13 s) := by kernel_rfl
theorem intDivMod_plain {x y : Bool} {a b q r φ : Nat} (h : natDivModM φ [.n a, .n b] = some (.tup [.n q, .n r])) (hx : x = false ∨ r = 0) : R_exact_IntDivMod φ [it x a, it y b] = some (.tup [it ((x != y) && !(Nat.beq q 0)) q, it false r]) := by
  rw [divMod_eq, iso_nt h, ← dvJ_run (x := x) (y := y) (a := a) (b := b) (φ := φ)]
  rcases hx with rfl | rfl
  · kernel_rfl
  · cases x <;> kernel_rfl
theorem intDivMod_neg {y : Bool} {a b q r z z2 φ : Nat} (h : natDivModM φ [.n a, .n b] = some (.tup [.n q, .n (r + 1)])) (h1 : natAddM [.n q, .n 1] = some (.n z)) (h2 : natSubM [.n b, .n (r + 1)] = some (.n z2)) :
    R_exact_IntDivMod φ [it true a, it y b] = some (.tup [it ((true != y) && !(Nat.beq z 0)) z, it false z2]) := by
  rw [divMod_eq, iso_nt h, ← dvJ_run (x := true) (y := y) (a := a) (b := b) (φ := φ)]
  refine Eq.trans (b := isoK (R_exact_NatOf φ) [(.i .u64 (.ofNat 1))] (mk4 [.b true, .n a] [.b y, .n b]) fun x35 s => isoK natAddM [.n q, x35] s fun x36 s => kFaddr 1 s (.ptr 1 0) fun x37 s => kLoad1 s x37 fun x38 s => isoK natSubM [x38, .n (r + 1)] s fun x39 s => dvJ φ (.ptr 0 0) (.ptr 1 0) (.ptr 2 0) (.ptr 3 0) x36 x39 s) (by kernel_rfl) ?_
  rw [iso_in natOf_one, iso_nn h1]
  refine Eq.trans (b := isoK natSubM [.n b, .n (r + 1)] (mk4 [.b true, .n a] [.b y, .n b]) fun x39 s => dvJ φ (.ptr 0 0) (.ptr 1 0) (.ptr 2 0) (.ptr 3 0) (.n z) x39 s) (by kernel_rfl) ?_
  rw [iso_nn h2]
def intDivModM (φ : Nat) (as : List D) : Option D :=
  u1 as fun a r => u1 r fun b r => u0 r (onIt a fun x a => onIt b fun y b => ob (natDivModM φ [.n a, .n b]) fun qr => onTup qr (fun l => u1 l fun q l => u1 l fun r l => u0 l (onNum q fun q => onNum r fun r =>
    cnd x (Nat.rec (motive := fun _ => Rs) (kIt (cnd y false true) q fun d => some (.tup [d, .agg [.b false, .n 0]]))
        (fun r' _ => ob (natAddM [.n q, .n 1]) fun z => onNum z fun z => ob (natSubM [.n b, .n (Nat.succ r')]) fun z2 => onNum z2 fun z2 => kIt (cnd y false true) z fun d => some (.tup [d, .agg [.b false, .n z2]])) r)
      (kIt y q fun d => some (.tup [d, .agg [.b false, .n r]])))) none)
theorem intDivModM_run {φ : Nat} {as : List D} {r : D} (h : intDivModM φ as = some r) : ∃ φ', R_exact_IntDivMod φ' as = some r := by
  obtain ⟨a, r1, rfl, g1⟩ := u1_some h
  obtain ⟨b, r2, rfl, g2⟩ := u1_some g1
  obtain ⟨rfl, g3⟩ := u0_some g2
  obtain ⟨x, a, rfl, g4⟩ := onIt_some g3
  obtain ⟨y, b, rfl, g5⟩ := onIt_some g4
  obtain ⟨qr, hqr, g6⟩ := ob_some g5
  obtain ⟨l, rfl, g7⟩ := onTup_some g6
  obtain ⟨q, l1, rfl, g8⟩ := u1_some g7
  obtain ⟨rr, l2, rfl, g9⟩ := u1_some g8
  obtain ⟨rfl, g10⟩ := u0_some g9
  obtain ⟨q, rfl, g11⟩ := onNum_some g10
  obtain ⟨t, rfl, g12⟩ := onNum_some g11
  refine ⟨φ, ?_⟩
  cases x with
  | false =>
    rw [cnd_false, kIt_eq] at g12
    rw [intDivMod_plain hqr (.inl rfl), ← g12]
    cases y <;> rfl
  | true =>
    rw [cnd_true] at g12
    cases t with
    | zero =>
      have g12 : (kIt (cnd y false true) q fun d => some (.tup [d, .agg [.b false, .n 0]])) = some r := g12
      rw [kIt_eq] at g12
      rw [intDivMod_plain hqr (.inr rfl), ← g12]
      cases y <;> rfl
    | succ t =>
      have g12 : (ob (natAddM [.n q, .n 1]) fun z => onNum z fun z => ob (natSubM [.n b, .n (Nat.succ t)]) fun z2 => onNum z2 fun z2 => kIt (cnd y false true) z fun d => some (.tup [d, .agg [.b false, .n z2]])) = some r := g12
      obtain ⟨z, hz, g13⟩ := ob_some g12
      obtain ⟨z, rfl, g14⟩ := onNum_some g13
      obtain ⟨z2, hz2, g15⟩ := ob_some g14
      obtain ⟨z2, rfl, g16⟩ := onNum_some g15
      rw [kIt_eq] at g16
      rw [intDivMod_neg hqr hz hz2, ← g16]
      cases y <;> rfl
theorem iso_t1 {M : List D → Option D} {x y : Bool} {a z : Nat} (h : M [it x a] = some (it y z)) : isoK M [it x a] s K = K (it y z) s := by
  show ob (M [it x a]) (fun r => finK s [] r K) = _
  rw [h]; rfl
theorem iso_tt {M : List D → Option D} {x y v : Bool} {a b z : Nat} (h : M [it x a, it y b] = some (it v z)) : isoK M [it x a, it y b] s K = K (it v z) s := by
  show ob (M [it x a, it y b]) (fun r => finK s [] r K) = _
  rw [h]; rfl
theorem onIt_it {x : Bool} {a : Nat} {k : Bool → Nat → Rs} : onIt (it x a) k = k x a := by cases x <;> rfl
theorem intSub_run {x y v w : Bool} {a b z t φ : Nat} (h1 : intNegM [it y b] = some (it w t)) (h2 : intAddM [it x a, it w t] = some (it v z)) : R_exact_IntSub φ [it x a, it y b] = some (it v z) := by
  refine Eq.trans (b := isoK intNegM [it y b] (mkS [.b x, .n a] [.b y, .n b]) fun x8 s => isoK intAddM [it x a, x8] s fun x9 s => kStore 2 s (.ptr 2 0) x9 fun _ s => kLoadn 2 s (.ptr 2 0) fun x10 _ => retK false s x10 some) (by kernel_rfl) ?_
  rw [iso_t1 h1, iso_tt h2]
  exact fin3
def intSubM (as : List D) : Option D := u1 as fun a r => u1 r fun b r => u0 r (onIt a fun x a => onIt b fun y b => kIt (cnd y false true) b fun d => onIt d fun w b => addK x a w b some)
theorem intSubM_run {as : List D} {r : D} (h : intSubM as = some r) : ∃ φ, R_exact_IntSub φ as = some r := by
  obtain ⟨a, r1, rfl, g1⟩ := u1_some h
  obtain ⟨b, r2, rfl, g2⟩ := u1_some g1
  obtain ⟨rfl, g3⟩ := u0_some g2
  obtain ⟨x, a, rfl, g4⟩ := onIt_some g3
  obtain ⟨y, b, rfl, g5⟩ := onIt_some g4
  rw [kIt_eq] at g5
  obtain ⟨w, t, hw, g6⟩ := onIt_some g5
  have e := g6
  obtain ⟨v, z, h1, h2⟩ := addK_some g6
  refine ⟨0, ?_⟩
  have e1 : intNegM [it y b] = some (it w t) := by
    show onIt (it y b) (fun x a => kIt (cnd x false true) a some) = _
    rw [onIt_it, kIt_eq, ← hw]
  have hr : r = it v z := (Option.some.inj h2).symm
  subst hr
  refine intSub_run e1 ?_
  show onIt (it x a) (fun x a => onIt (it w t) fun y b => addK x a y b some) = _
  rw [onIt_it, onIt_it]
  exact e
end
end Go.Proofs.Ev
set_option linter.unusedVariables false
set_option linter.unusedSimpArgs false
namespace Go.Proofs.Ev
noncomputable section
variable {s : LS} {K : D → LS → Rs} {k : D → Rs}
theorem kLss_int {a : Int} {b : Nat} : kLss (.i .i64 a) (.i .i64 (.ofNat b)) k = k (.b (decide (a < (b : Int)))) := by
  cases a with
  | ofNat a =>
    rw [kLss_n]
    by_cases h : a < b
    · rw [blt_true h, decide_eq_true (by simp only [Int.ofNat_eq_natCast]; omega)]
    · rw [blt_false h, decide_eq_false (by simp only [Int.ofNat_eq_natCast]; omega)]
  | negSucc a =>
    show kSlowB .lss (.i .i64 (.negSucc a)) (.i .i64 (.ofNat b)) k = _
    unfold kSlowB
    rw [frcO_eq]; rfl
theorem kGtr_int {a : Int} {b : Nat} : kGtr (.i .i64 a) (.i .i64 (.ofNat b)) k = k (.b (decide (a > (b : Int)))) := by
  cases a with
  | ofNat a =>
    rw [kGtr_n]
    by_cases h : b < a
    · rw [blt_true h, decide_eq_true (by simp only [Int.ofNat_eq_natCast]; omega)]
    · rw [blt_false h, decide_eq_false (by simp only [Int.ofNat_eq_natCast]; omega)]
  | negSucc a =>
    show kSlowB .gtr (.i .i64 (.negSucc a)) (.i .i64 (.ofNat b)) k = _
    unfold kSlowB
    rw [frcO_eq]; rfl
theorem kGuard_tf {op : (D → LS → Rs) → Rs} {k : D → LS → Rs} : kGuard (.b true) false op s k = k (.tup []) s := rfl
theorem iso_0 {M : List D → Option D} {x : Bool} (h : M [] = some (.b x)) : isoK M [] s K = K (.b x) s := by
  show ob (M []) (fun r => finK s [] r K) = _
  rw [h]; rfl
theorem ret_b {x : Bool} : retK false s (.b x) some = some (.b x) := rfl
def isT (o : Option D) : Bool := Option.rec (motive := fun _ => Bool) false (fun d => onB d true false false) o
theorem isT_some {o : Option D} (h : isT o = true) : o = some (.b true) := by
  cases o with
  | none => cases h
  | some d =>
    cases d with
    | b x => cases x with
      | true => rfl
      | false => cases h
    | _ => cases h
def allB (n : Nat) (f : Nat → Bool) : Bool := Nat.rec (motive := fun _ => Bool) true (fun j ih => cnd (f j) ih false) n
theorem allB_get : ∀ {n : Nat} {f : Nat → Bool} {i : Nat}, allB n f = true → i < n → f i = true
  | 0, f, i, h, hi => by omega
  | n + 1, f, i, h, hi => by
    have h : cnd (f n) (allB n f) false = true := h
    cases hq : f n with
    | false => rw [hq] at h; cases h
    | true =>
      rw [hq, cnd_true] at h
      by_cases e : i = n
      · rw [e]; exact hq
      · exact allB_get h (by omega)
variable {P : Program} {im : Nat → Option Nat} {okp : Nat → Prop} {w w' : World}
theorem RR.keptBut {r : D} {v : Value} (h : RR im okp w w' r v) (may : MemPlace → Prop) : w.keptBut w' may := by
  obtain ⟨hs, hk, hsm, ob, ho⟩ := h
  refine ⟨hsm.os, hsm.out, fun i hi => ?_⟩
  have := (World.keptBut_refl w may).2.2 i hi
  rw [hk i hi]
  exact this
theorem RR.bool {x : Bool} {v : Value} (h : RR im okp w w' (.b x) v) : v = .bool x := by
  obtain ⟨hs, hk, hsm, ob, ho⟩ := h
  simpa [OwnR, TR] using ho
theorem law_two {F : FuncId} {M : List D → Option D} (hS : Snd P im F M) {a0 a1 : Int} (h : M [.i .i64 a0, .i .i64 a1] = some (.b true)) (w : World) :
    Calls P F #[.int .i64 a0, .int .i64 a1] w (fun e w' => e = .returned (.bool true) ∧ w.keptBut w' (fun _ => False)) := by
  refine Calls.mono (hS _ _ h [.int .i64 a0, .int .i64 a1] w (fun _ => False) (by simp [TRl, TR]) (fun b hb => hb.elim)) (fun e w' he => ?_)
  cases e with
  | outgrown => exact he.elim
  | panicked c => exact he.elim
  | returned v =>
    exact ⟨by rw [RR.bool he], RR.keptBut he _⟩
end
end Go.Proofs.Ev
set_option linter.unusedVariables false
set_option maxRecDepth 1000000
set_option maxHeartbeats 0
namespace Go.Proofs.YtljlaoecceagaaaGreat
open Ev
noncomputable section
def order : List Nat := [61, 130, 138, 280, 214, 131, 132, 133, 62, 134, 63, 64, 215, 136, 135, 65, 27, 67, 30, 10, 28, 137, 66, 29, 8, 9, 11, 243, 166, 247, 161, 249, 248, 250, 252, 251, 171, 172, 91, 149, 234, 148, 77, 78, 38, 80, 88, 81, 42, 76, 140, 139, 147, 75, 68, 39, 181, 163, 197, 114, 173, 92, 90, 151, 240, 245, 304, 260, 180, 199, 118, 36, 150, 79, 117, 191, 41, 208, 200, 201, 254, 162, 333, 270, 454, 393, 394, 334, 400, 397, 401, 338, 403, 395, 335, 336, 409, 398, 455, 396, 399, 337, 456, 402, 339, 295, 246, 296, 297, 404, 340, 341, 298, 342, 299, 405, 406, 407, 457, 408, 343, 344, 300, 271, 302, 410, 411, 412, 346, 347, 345, 301, 255, 256, 160, 84, 259, 258, 348, 413, 349, 236, 237, 350, 458, 415, 414, 351, 352, 353, 354, 355, 303, 257, 174, 93, 48, 31, 142, 99, 182, 281, 284, 283, 219, 109, 220, 144, 282, 218, 216, 217, 143, 222, 221, 330, 285, 223, 168, 392, 331, 286, 287, 288, 289, 224, 225, 145, 70, 85, 45, 73, 72, 226, 290, 227, 228, 332, 292, 291, 229, 230, 231, 232, 233, 146, 71, 33, 40, 35, 82, 43, 152, 235, 153, 154, 293, 239, 238, 155, 156, 157, 158, 159, 83, 44, 15, 17, 24, 26, 86, 241, 164, 177, 242, 165, 87, 167, 244, 169, 170, 89, 46, 47, 16, 18, 4]
def im (F : Nat) : Option Nat := imA F order 0
end
end Go.Proofs.YtljlaoecceagaaaGreat
