/- An evaluator of the code in the model, proved sound, and residuals of code as Lean functions. -/
import Derived.Test.YtljlaoecceagaaaGreatA1
set_option linter.all false
set_option linter.unusedVariables false
set_option linter.unusedSimpArgs false
namespace Go.Proofs.Ev
noncomputable section
variable {kk : IntKind} {a b n : Nat} {k : D → Rs} {s : LS} {K : D → LS → Rs}
theorem mkI_n {no : Rs} (h : n ≤ kmax kk) : mkI kk n k no = k (.i kk (.ofNat n)) := by
  unfold mkI
  rw [Nat.ble_eq_true_of_le h, cnd_true, frc_eq]
theorem mkI_64 {no : Rs} : mkI .u64 n k no = k (.i .u64 (.ofNat (n % 18446744073709551616))) := by
  unfold mkI
  by_cases h : n ≤ kmax .u64
  · rw [Nat.ble_eq_true_of_le h, cnd_true, frc_eq]
    have : n < 18446744073709551616 := Nat.lt_succ_of_le h
    rw [Nat.mod_eq_of_lt this]
  · rw [ble_false h, cnd_false]
    rw [show Nat.beq (kmod .u64) 0 = false from rfl, cnd_false, frc_eq]; rfl
theorem mkI_8 {no : Rs} : mkI .u8 n k no = k (.i .u8 (.ofNat (n % 256))) := by
  unfold mkI
  by_cases h : n ≤ kmax .u8
  · rw [Nat.ble_eq_true_of_le h, cnd_true, frc_eq]
    have : n < 256 := Nat.lt_succ_of_le h
    rw [Nat.mod_eq_of_lt this]
  · rw [ble_false h, cnd_false]
    rw [show Nat.beq (kmod .u8) 0 = false from rfl, cnd_false, frc_eq]; rfl
theorem on2_n {f : IntKind → Nat → Nat → Rs} {no : Rs} : on2 (.i kk (.ofNat a)) (.i kk (.ofNat b)) f no = f kk a b := by
  show cnd (Nat.beq (kcode kk) (kcode kk)) (f kk a b) no = _
  rw [beq_self]; rfl
theorem kAdd_n (h : a + b ≤ kmax kk) : kAdd (.i kk (.ofNat a)) (.i kk (.ofNat b)) k = k (.i kk (.ofNat (a + b))) := by
  unfold kAdd; rw [on2_n]; exact mkI_n h
theorem kMul_n (h : a * b ≤ kmax kk) : kMul (.i kk (.ofNat a)) (.i kk (.ofNat b)) k = k (.i kk (.ofNat (a * b))) := by
  unfold kMul; rw [on2_n]; exact mkI_n h
theorem kSub_n (hb : b ≤ a) (h : a ≤ kmax kk) : kSub (.i kk (.ofNat a)) (.i kk (.ofNat b)) k = k (.i kk (.ofNat (a - b))) := by
  unfold kSub; rw [on2_n, Nat.ble_eq_true_of_le hb, cnd_true]
  exact mkI_n (Nat.le_trans (Nat.sub_le _ _) h)
theorem beq_ne (h : a ≠ b) : Nat.beq a b = false := by
  cases hq : Nat.beq a b with
  | false => rfl
  | true => exact absurd (Nat.eq_of_beq_eq_true hq) h
theorem kQuo_n (hb : b ≠ 0) (h : a ≤ kmax kk) : kQuo (.i kk (.ofNat a)) (.i kk (.ofNat b)) k = k (.i kk (.ofNat (a / b))) := by
  unfold kQuo; rw [on2_n, beq_ne hb, cnd_false]
  exact mkI_n (Nat.le_trans (Nat.div_le_self _ _) h)
theorem kRem_n (hb : b ≠ 0) : kRem (.i kk (.ofNat a)) (.i kk (.ofNat b)) k = k (.i kk (.ofNat (a % b))) := by
  unfold kRem; rw [on2_n, beq_ne hb, cnd_false, frc_eq]; rfl
theorem kLss_n : kLss (.i kk (.ofNat a)) (.i kk (.ofNat b)) k = k (.b (Nat.blt a b)) := by
  unfold kLss; rw [on2_n, mkB_eq]
theorem kGtr_n : kGtr (.i kk (.ofNat a)) (.i kk (.ofNat b)) k = k (.b (Nat.blt b a)) := by
  unfold kGtr; rw [on2_n, mkB_eq]
theorem kEql_n : kEql (.i kk (.ofNat a)) (.i kk (.ofNat b)) k = k (.b (Nat.beq a b)) := by
  unfold kEql; rw [on2_n, mkB_eq]
theorem kOr_n (ha : a ≤ kmax kk) (hb : b ≤ kmax kk) : kOr (.i kk (.ofNat a)) (.i kk (.ofNat b)) k = k (.i kk (.ofNat (a ||| b))) := by
  unfold kOr inK; rw [on2_n, Nat.ble_eq_true_of_le ha, Nat.ble_eq_true_of_le hb, cnd_true, cnd_true, frc_eq]; rfl
theorem kmin_le (h : a ≤ b) : kmin a b = a := by unfold kmin; rw [Nat.ble_eq_true_of_le h]; rfl
theorem kShl_64 {k2 : IntKind} (hb : b ≤ 64) : kShl (.i .u64 (.ofNat a)) (.i k2 (.ofNat b)) k = k (.i .u64 (.ofNat (a * 2 ^ b % 18446744073709551616))) := by
  show mkI .u64 (Nat.mul a (Nat.pow 2 (kmin b 64))) k _ = _
  rw [kmin_le hb]
  exact mkI_64
theorem kShr_64 {k2 : IntKind} (hb : b ≤ 64) : kShr (.i .u64 (.ofNat a)) (.i k2 (.ofNat b)) k = k (.i .u64 (.ofNat (a / 2 ^ b))) := by
  show (frc (Nat.div a (Nat.pow 2 (kmin b 64))) fun n => k (.i .u64 (.ofNat n))) = _
  rw [kmin_le hb, frc_eq]; rfl
theorem kToInt_n {k2 : IntKind} (h : n ≤ kmax kk) : kToInt kk (.i k2 (.ofNat n)) s K = K (.i kk (.ofNat n)) s := by
  show mkI kk n (fun d => K d s) _ = _
  exact mkI_n h
theorem kToInt_8 {k2 : IntKind} : kToInt .u8 (.i k2 (.ofNat n)) s K = K (.i .u8 (.ofNat (n % 256))) s := by
  show mkI .u8 n (fun d => K d s) _ = _
  exact mkI_8
theorem kLens_n {m : Nat} : kS (.lens (.c (.n m))) s K = K (.i .i64 (.ofNat (natBytes m).length)) s := by
  have he : evA s.nx cv s.get (.lens (.c (.n m))) = some (.i .i64 (.ofNat (natBytes m).length), []) := rfl
  unfold kS sA
  rw [he]
  show frcD _ _ = _
  rw [frcD_eq]
theorem kIndex_n {m i : Nat} {c : UInt8} {k2 : IntKind} (h : (natBytes m)[i]? = some c) : kS (.index (.c (.n m)) (.c (.i k2 (.ofNat i)))) s K = K (.i .u8 (.ofNat c.toNat)) s := by
  have he : evA s.nx cv s.get (.index (.c (.n m)) (.c (.i k2 (.ofNat i)))) = some (.i .u8 (.ofNat c.toNat), []) := by
    simp only [evA, cv, str]
    rw [if_pos (by simp)]
    have : (Int.ofNat i).toNat = i := rfl
    rw [this, drop_cons h]
    rfl
  unfold kS sA
  rw [he]
  show frcD _ _ = _
  rw [frcD_eq]

def st1 (cs : List D) : LS := ⟨.node (some ⟨cs, .rw⟩) .nil .nil, 1⟩
variable {cs : List D} {i len cm : Nat} {ex : Bool} {d : D} {k2 : IntKind}
theorem st1_get : (st1 cs).get 0 = some ⟨cs, .rw⟩ := rfl
theorem kIaddr_st1 {off : Nat} (h : i < len) : kIaddr 1 (st1 cs) (.sl 0 off len cm 1 ex) (.i k2 (.ofNat i)) K = K (.ptr 0 (off + i)) (st1 cs) := by
  show kGet (st1 cs) 0 (fun b => cnd (lv b.st) (cnd (Nat.blt i len) (cnd (Nat.beq 1 1) (frc (Nat.add off (Nat.mul i 1)) fun o => K (.ptr 0 o) (st1 cs)) none) none) none) = _
  rw [kGet_eq, st1_get]
  show cnd (Nat.blt i len) (frc (Nat.add off (Nat.mul i 1)) fun o => K (.ptr 0 o) (st1 cs)) none = _
  rw [blt_true h, cnd_true, frc_eq]
  have : Nat.add off (Nat.mul i 1) = off + i := by show off + i * 1 = off + i; omega
  rw [this]
theorem kLoad1_st1 (h : cs[i]? = some d) : kLoad1 (st1 cs) (.ptr 0 i) K = K d (st1 cs) := by
  show kGet (st1 cs) 0 (fun b => cnd (lv b.st) (nthK i b.cs fun d => K d (st1 cs)) none) = _
  rw [kGet_eq, st1_get]
  show nthK i cs (fun d => K d (st1 cs)) = _
  rw [nthK_eq, h]; rfl
theorem layG_set {α : Type} {x : α} {l : List α} (h : i < l.length) : layG i [x] l = some (l.set i x) := by
  unfold layG
  rw [if_pos (by simp; omega), List.set_eq_take_append_cons_drop, if_pos h]
  simp
theorem kStore_st1 (h : i < cs.length) : kStore 1 (st1 cs) (.ptr 0 i) (.i kk (.ofNat n)) K = K .u (st1 (cs.set i (.i kk (.ofNat n)))) := by
  show kGet (st1 cs) 0 (fun b => cnd (wr b.st) (layK i [.i kk (.ofNat n)] b.cs fun cs' => kPut (st1 cs) 0 ⟨cs', .rw⟩ fun s => K .u s) none) = _
  rw [kGet_eq, st1_get]
  show (layK i [.i kk (.ofNat n)] cs fun cs' => kPut (st1 cs) 0 ⟨cs', .rw⟩ fun s => K .u s) = _
  rw [layK_eq, layG_set h]
  rfl
theorem zeros_one (z : D) : ∀ n, zeros n [z] = List.replicate n z
  | 0 => rfl
  | n + 1 => by
    show z :: zeros n [z] = _
    rw [zeros_one z n]; rfl
theorem kMksl_s0 {bytes : Nat} {z : D} (h1 : n ≤ 140737488355328) (h2 : n * bytes ≤ 140737488355328) : kMksl 1 bytes [z] s0 (.i .i64 (.ofNat n)) (.i .i64 (.ofNat n)) K = K (.sl 0 0 n n 1 true) (st1 (List.replicate n z)) := by
  unfold kMksl
  rw [on2_n]
  show cnd (Nat.ble n n) (cnd (Nat.ble n 140737488355328) (cnd (Nat.ble (Nat.mul n bytes) 140737488355328) (zerosK [z] n fun cs => kPush s0 ⟨cs, .rw⟩ fun s' => K (.sl 0 0 n n 1 true) s') none) none) none = _
  rw [Nat.ble_eq_true_of_le (Nat.le_refl n), Nat.ble_eq_true_of_le h1, Nat.ble_eq_true_of_le (show Nat.mul n bytes ≤ 140737488355328 from h2)]
  simp only [cnd_true]
  rw [zerosK_eq, zeros_one, kPush_eq]
  rfl
theorem retK_own {cs : List D} {len : Nat} (hc : cs.all flat1 = true) (hl : cs.length = len) : retK true (st1 cs) (.sl 0 0 len len 1 true) some = some (.own cs len 1) := by
  unfold retK
  rw [fl_eq]
  show frcO (extr true (st1 cs).get depth0 (.sl 0 0 len len 1 true)) some = _
  have : extr true (st1 cs).get depth0 (.sl 0 0 len len 1 true) = some (.own cs len 1) := by
    have hcut : cut 0 (len * 1) cs = some cs := by
      unfold cut
      rw [List.drop_zero, Nat.mul_one, ← hl, List.take_length]
      simp
    have hm : mapO (res (st1 cs).get depth0) cs = some (cs, []) := mapO_flat1 (k := 59) cs hc
    simp only [extr, extr1, st1_get, Stt.wr, if_true, hcut, hm]
    rfl
  rw [this, frcO_eq]; rfl
end
end Go.Proofs.Ev
set_option linter.unusedVariables false
namespace Go.Proofs.Ev
abbrev B64 : Nat := 18446744073709551616
def val : List Nat → Nat
  | [] => 0
  | w :: ws => w + B64 * val ws
def dg : Nat → Nat → List Nat
  | 0, _ => []
  | n + 1, m => m % B64 :: dg n (m / B64)
def Small (ws : List Nat) : Prop := ∀ w, w ∈ ws → w < B64
theorem dg_val : ∀ {ws : List Nat}, Small ws → dg ws.length (val ws) = ws
  | [], _ => rfl
  | w :: ws, h => by
    have h1 : w < B64 := h w (by simp)
    show (w + B64 * val ws) % B64 :: dg ws.length ((w + B64 * val ws) / B64) = w :: ws
    have e1 : (w + B64 * val ws) % B64 = w := by rw [Nat.add_mul_mod_self_left, Nat.mod_eq_of_lt h1]
    have e2 : (w + B64 * val ws) / B64 = val ws := by
      rw [Nat.add_mul_div_left _ _ (by decide), Nat.div_eq_of_lt h1, Nat.zero_add]
    rw [e1, e2, dg_val (fun x hx => h x (by simp [hx]))]
theorem val_lt : ∀ {ws : List Nat}, Small ws → val ws < B64 ^ ws.length
  | [], _ => by simp [val]
  | w :: ws, h => by
    have h1 : w < B64 := h w (by simp)
    have h2 := val_lt (ws := ws) (fun x hx => h x (by simp [hx]))
    show w + B64 * val ws < B64 ^ (ws.length + 1)
    rw [Nat.pow_succ, Nat.mul_comm (B64 ^ ws.length)]
    have h3 : B64 * (val ws + 1) ≤ B64 * B64 ^ ws.length := Nat.mul_le_mul_left _ h2
    rw [Nat.mul_add, Nat.mul_one] at h3
    omega
theorem val_get : ∀ {ws : List Nat} {j w : Nat}, Small ws → ws[j]? = some w → w = val ws / B64 ^ j % B64
  | [], j, w, _, h => by simp at h
  | x :: ws, 0, w, hs, h => by
    simp only [List.getElem?_cons_zero, Option.some.injEq] at h
    subst h
    have h1 : x < B64 := hs x (by simp)
    rw [Nat.pow_zero, Nat.div_one]
    show x = (x + B64 * val ws) % B64
    rw [Nat.add_mul_mod_self_left, Nat.mod_eq_of_lt h1]
  | x :: ws, j + 1, w, hs, h => by
    simp only [List.getElem?_cons_succ] at h
    have h1 : x < B64 := hs x (by simp)
    have ih := val_get (fun y hy => hs y (by simp [hy])) h
    have e2 : (x + B64 * val ws) / B64 = val ws := by
      rw [Nat.add_mul_div_left _ _ (by decide), Nat.div_eq_of_lt h1, Nat.zero_add]
    show w = (x + B64 * val ws) / B64 ^ (j + 1) % B64
    rw [Nat.pow_succ, Nat.mul_comm (B64 ^ j), ← Nat.div_div_eq_div_mul, e2]
    exact ih
theorem val_set : ∀ {ws : List Nat} {j w : Nat} (y : Nat), ws[j]? = some w → val (ws.set j (w + y)) = val ws + y * B64 ^ j
  | [], j, w, y, h => by simp at h
  | x :: ws, 0, w, y, h => by
    simp only [List.getElem?_cons_zero, Option.some.injEq] at h
    subst h
    show x + y + B64 * val ws = x + B64 * val ws + y * B64 ^ 0
    rw [Nat.pow_zero]; omega
  | x :: ws, j + 1, w, y, h => by
    simp only [List.getElem?_cons_succ] at h
    have ih := val_set y h
    show x + B64 * val (ws.set j (w + y)) = x + B64 * val ws + y * B64 ^ (j + 1)
    rw [ih, Nat.pow_succ, Nat.mul_add]
    have : B64 * (y * B64 ^ j) = y * (B64 ^ j * B64) := by rw [← Nat.mul_assoc, Nat.mul_comm B64 y, Nat.mul_assoc, Nat.mul_comm B64 (B64 ^ j)]
    omega
theorem B64_pow (j : Nat) : B64 ^ j = 2 ^ (64 * j) := by rw [Nat.pow_mul]
theorem p256 (j : Nat) : 256 ^ j = 2 ^ (8 * j) := by rw [Nat.pow_mul]
theorem or_step {ws : List Nat} {A b k w : Nat} (hs : Small ws) (hw : ws[k / 8]? = some w) (hb : b < 256) (hv : val ws = A * 256 ^ (k + 1)) :
    w ||| b * 2 ^ (8 * (k % 8)) = w + b * 2 ^ (8 * (k % 8)) ∧ w + b * 2 ^ (8 * (k % 8)) < B64 ∧ val (ws.set (k / 8) (w + b * 2 ^ (8 * (k % 8)))) = (A * 256 + b) * 256 ^ k := by
  have hwv := val_get hs hw
  have hk : 8 * (k + 1) = (8 * (k % 8) + 8) + 64 * (k / 8) := by omega
  have hle : 8 * (k % 8) + 8 ≤ 64 := by omega
  have e1 : val ws / B64 ^ (k / 8) = A * 2 ^ (8 * (k % 8) + 8) := by
    rw [hv, p256, B64_pow, hk, Nat.pow_add, ← Nat.mul_assoc, Nat.mul_div_cancel _ (Nat.pow_pos (by decide))]
  have e2 : B64 = 2 ^ (8 * (k % 8) + 8) * 2 ^ (64 - (8 * (k % 8) + 8)) := by
    rw [← Nat.pow_add, show 8 * (k % 8) + 8 + (64 - (8 * (k % 8) + 8)) = 64 by omega]
  have e3 : w = 2 ^ (8 * (k % 8) + 8) * (A % 2 ^ (64 - (8 * (k % 8) + 8))) := by
    rw [hwv, e1, e2, Nat.mul_comm A, Nat.mul_mod_mul_left]
  have hy : b * 2 ^ (8 * (k % 8)) < 2 ^ (8 * (k % 8) + 8) := by
    rw [Nat.pow_add, Nat.mul_comm (2 ^ (8 * (k % 8)))]
    exact Nat.mul_lt_mul_of_pos_right hb (Nat.pow_pos (by decide))
  have hq : A % 2 ^ (64 - (8 * (k % 8) + 8)) < 2 ^ (64 - (8 * (k % 8) + 8)) := Nat.mod_lt _ (Nat.pow_pos (by decide))
  refine ⟨?_, ?_, ?_⟩
  · rw [e3]
    exact (Nat.two_pow_add_eq_or_of_lt hy _).symm
  · have h3 : 2 ^ (8 * (k % 8) + 8) * (A % 2 ^ (64 - (8 * (k % 8) + 8)) + 1) ≤ 2 ^ (8 * (k % 8) + 8) * 2 ^ (64 - (8 * (k % 8) + 8)) := Nat.mul_le_mul_left _ hq
    rw [← e2, Nat.mul_add, Nat.mul_one, ← e3] at h3
    omega
  · rw [val_set _ hw, hv, B64_pow, Nat.mul_assoc b, ← Nat.pow_add, show 8 * (k % 8) + 64 * (k / 8) = 8 * k by omega, ← p256, Nat.pow_succ, Nat.add_mul, Nat.mul_comm (256 ^ k) 256, Nat.mul_assoc]

theorem natOfBytes_acc : ∀ (l : List UInt8) (acc : Nat), natOfBytes l acc = acc * 256 ^ l.length + natOfBytes l 0
  | [], acc => by simp [natOfBytes]
  | c :: l, acc => by
    show natOfBytes l (acc * 256 + c.toNat) = acc * 256 ^ (l.length + 1) + natOfBytes l (0 * 256 + c.toNat)
    rw [natOfBytes_acc l (acc * 256 + c.toNat), natOfBytes_acc l (0 * 256 + c.toNat), Nat.pow_succ, Nat.add_mul, Nat.zero_mul, Nat.zero_add, Nat.mul_assoc, Nat.mul_comm 256]
    omega
theorem natOf_natBytesF : ∀ (k m : Nat) (acc : List UInt8), m ≤ k → natOfBytes (natBytesF k m acc) 0 = natOfBytes acc m
  | 0, m, acc, h => by
    have : m = 0 := by omega
    subst this; rfl
  | k + 1, m, acc, h => by
    show natOfBytes (cond (Nat.beq m 0) acc (natBytesF k (m / 256) (UInt8.ofNat (m % 256) :: acc))) 0 = _
    by_cases hm : m = 0
    · subst hm; rfl
    · rw [beq_ne hm, cond_false, natOf_natBytesF k (m / 256) _ (by omega)]
      show natOfBytes acc (m / 256 * 256 + (UInt8.ofNat (m % 256)).toNat) = _
      have : (UInt8.ofNat (m % 256)).toNat = m % 256 := by simp
      rw [this]
      congr 1
      omega
theorem natOf_natBytes (m : Nat) : natOfBytes (natBytes m) 0 = m := by
  unfold natBytes
  rw [natOf_natBytesF _ _ _ (Nat.le_refl _)]; rfl
theorem natBytesF_head : ∀ (k m : Nat) (acc : List UInt8), 0 < m → m ≤ k → ∃ c r, natBytesF k m acc = c :: r ∧ c.toNat ≠ 0
  | 0, m, acc, h0, h => by omega
  | k + 1, m, acc, h0, h => by
    show ∃ c r, cond (Nat.beq m 0) acc (natBytesF k (m / 256) (UInt8.ofNat (m % 256) :: acc)) = c :: r ∧ c.toNat ≠ 0
    rw [beq_ne (show m ≠ 0 by omega), cond_false]
    by_cases hq : m / 256 = 0
    · rw [hq]
      refine ⟨UInt8.ofNat (m % 256), acc, ?_, ?_⟩
      · cases k <;> rfl
      · have : (UInt8.ofNat (m % 256)).toNat = m % 256 := by simp
        rw [this]; omega
    · exact natBytesF_head k (m / 256) _ (by omega) (by omega)
theorem natBytes_head {m : Nat} (h : 0 < m) : ∃ c r, natBytes m = c :: r ∧ c.toNat ≠ 0 := natBytesF_head m m [] h (Nat.le_refl _)
theorem natBytes_le {m : Nat} (h : 0 < m) : 256 ^ ((natBytes m).length - 1) ≤ m ∧ 0 < (natBytes m).length := by
  obtain ⟨c, r, h1, h2⟩ := natBytes_head h
  have h3 := natOf_natBytes m
  rw [h1] at h3 ⊢
  have h4 : natOfBytes r (0 * 256 + c.toNat) = m := h3
  rw [natOfBytes_acc, Nat.zero_mul, Nat.zero_add] at h4
  refine ⟨?_, by simp⟩
  simp only [List.length_cons, Nat.add_sub_cancel]
  have : 1 * 256 ^ r.length ≤ c.toNat * 256 ^ r.length := Nat.mul_le_mul_right _ (by omega)
  omega
theorem natBytes_zero : natBytes 0 = [] := rfl
end Go.Proofs.Ev
