/- Functions on numbers, integers and polynomials modulo a prime: their residuals, and shorter Lean functions proved to give the same results. -/
import Derived.Test.YthljpappkomocaaGreatA2
import Derived.KernelRfl
set_option linter.all false
set_option maxRecDepth 1000000
set_option maxHeartbeats 0
namespace Go.Proofs.Ev
noncomputable section
def zH (φ : Nat) : List D → LS → (D → LS → Rs) → Rs :=
fun as s k =>
 u1 as fun g h =>
 u0 h (
 kLen g s fun l s =>
 lp (fun (_ _ : D) (_ : LS) => none) (fun (m : D → D → LS → Rs) (f e : D) (s : LS) =>
 kGtr e (.i .i64 (.ofNat 0)) fun c =>
 z0 c true (fun k => k f s) s fun n s =>
 z0 c true (fun k => k e s) s fun o s =>
 z0 c true (fun k => kSub o (.i .i64 (.ofNat 1)) fun d => k d s) s fun p s =>
 z0 c true (fun k => z1 1 s n p k) s fun u s =>
 z0 c true (fun k => z4 s u k) s fun v s =>
 z0 c true (fun k => kEql v (.i .u64 (.ofNat 0)) fun d => k d s) s fun w s =>
 zp c w (.b false) s fun y s =>
 z5 y
(kSub e (.i .i64 (.ofNat 1)) fun z =>
 m f z s)
(z23 1 s f none (some e) none fun A s =>
 k A s)) φ g l s)
def z9U (φ : Nat) : List D → Option D :=
fun as =>
(fun (s : LS) =>
 u1 as fun z A =>
 u0 A (
(zH φ) [z] s fun b s =>
 kLen b s fun B s =>
 kEql B (.i .i64 (.ofNat 0)) fun C =>
 z5 C
(retK false s (.n 0) some)
(kLen b s fun E s =>
 kMul (.i .i64 (.ofNat 8)) E fun k =>
 z24 1 1 [(.i .u8 (.ofNat 0))] s k k fun F s =>
 kLen b s fun G s =>
 lp (fun (_ _ _ _ : D) (_ : LS) => none) (fun (H : D → D → D → D → LS → Rs) (l m o d : D) (s : LS) =>
 kLss d o fun I =>
 z5 I
(z1 1 s m d fun J s =>
 z4 s J fun K s =>
 lp (fun (_ _ _ _ _ _ _ : D) (_ : LS) => none) (fun (M : D → D → D → D → D → D → D → LS → Rs) (e p u v w y f : D) (s : LS) =>
 kLss f (.i .i64 (.ofNat 8)) fun N =>
 z5 N
(kLen e s fun O s =>
 kSub O (.i .i64 (.ofNat 1)) fun P =>
 kMul (.i .i64 (.ofNat 8)) p fun S =>
 kSub P S fun U =>
 kSub U f fun V =>
 kMul (.i .i64 (.ofNat 8)) f fun W =>
 kShr u W fun X =>
 z2s .u8 X s fun Y s =>
 z1 1 s e V fun Z s =>
 z6 1 s Z Y fun _ s =>
 kAdd f (.i .i64 (.ofNat 1)) fun bb =>
 M e p u v w y bb s)
(kAdd y (.i .i64 (.ofNat 1)) fun bc =>
 H e v w bc s)) φ l d K m o d (.i .i64 (.ofNat 0)) s)
(lp (fun (_ _ : D) (_ : LS) => none) (fun (bd : D → D → LS → Rs) (g h : D) (s : LS) =>
 z1 1 s g h fun bf s =>
 z4 s bf fun bg s =>
 kEql bg (.i .u8 (.ofNat 0)) fun bh =>
 z5 bh
(kAdd h (.i .i64 (.ofNat 1)) fun bi =>
 bd g bi s)
(z23 1 s g (some h) none none fun bk s =>
 kS (.b2s (.c bk)) s fun bl s =>
 retK false s bl some)) φ l (.i .i64 (.ofNat 0)) s)) φ F b G (.i .i64 (.ofNat 0)) s))) s0
def z6W (φ : Nat) : List D → Option D :=
fun as =>
(fun (s : LS) =>
 u1 as fun e m =>
 u0 m (
 kS (.lens (.c e)) s fun n s =>
 kAdd n (.i .i64 (.ofNat 7)) fun o =>
 kQuo o (.i .i64 (.ofNat 8)) fun g =>
 z24 1 8 [(.i .u64 (.ofNat 0))] s g g fun p s =>
 kS (.lens (.c e)) s fun u s =>
 lp (fun (_ _ _ _ : D) (_ : LS) => none) (fun (v : D → D → D → D → LS → Rs) (f b h d : D) (s : LS) =>
 kLss d h fun w =>
 z5 w
(kS (.lens (.c f)) s fun y s =>
 kSub y (.i .i64 (.ofNat 1)) fun z =>
 kSub z d fun k =>
 kQuo k (.i .i64 (.ofNat 8)) fun l =>
 z1 1 s b l fun A s =>
 z4 s A fun B s =>
 kS (.index (.c f) (.c d)) s fun C s =>
 z2s .u64 C s fun E s =>
 kRem k (.i .i64 (.ofNat 8)) fun F =>
 kMul (.i .i64 (.ofNat 8)) F fun G =>
 kShl E G fun H =>
 kOr B H fun I =>
 z1 1 s b l fun J s =>
 z6 1 s J I fun _ s =>
 kAdd d (.i .i64 (.ofNat 1)) fun K =>
 v f b h K s)
((zH φ) [b] s fun M s =>
 retK true s M some)) φ e p u (.i .i64 (.ofNat 0)) s)) s0
def z5p (φ : Nat) : List D → Option D :=
fun as =>
(fun (s : LS) =>
 u1 as fun b k =>
 u1 k fun c l =>
 u0 l (
 kAnd b (.i .u64 (.ofNat 4294967295)) fun d =>
 kShr b (.i .u64 (.ofNat 32)) fun e =>
 kAnd c (.i .u64 (.ofNat 4294967295)) fun f =>
 kShr c (.i .u64 (.ofNat 32)) fun g =>
 kMul d f fun m =>
 kMul e f fun n =>
 kShr m (.i .u64 (.ofNat 32)) fun o =>
 kAdd n o fun h =>
 kAnd h (.i .u64 (.ofNat 4294967295)) fun p =>
 kShr h (.i .u64 (.ofNat 32)) fun u =>
 kMul d g fun v =>
 kAdd p v fun w =>
 kMul e g fun y =>
 kAdd y u fun z =>
 kShr w (.i .u64 (.ofNat 32)) fun A =>
 kAdd z A fun B =>
 kMul b c fun C =>
 retK false s (.tup [B, C]) some)) s0
def z1M (φ : Nat) : List D → Option D :=
fun as =>
(fun (s : LS) =>
 u1 as fun g h =>
 u0 h (
 kLen g s fun l s =>
 lp (fun (_ _ : D) (_ : LS) => none) (fun (m : D → D → LS → Rs) (f e : D) (s : LS) =>
 kGtr e (.i .i64 (.ofNat 0)) fun c =>
 z0 c true (fun k => k f s) s fun n s =>
 z0 c true (fun k => k e s) s fun o s =>
 z0 c true (fun k => kSub o (.i .i64 (.ofNat 1)) fun d => k d s) s fun p s =>
 z0 c true (fun k => z1 1 s n p k) s fun u s =>
 z0 c true (fun k => z4 s u k) s fun v s =>
 z0 c true (fun k => kEql v (.i .i64 (.ofNat 0)) fun d => k d s) s fun w s =>
 zp c w (.b false) s fun y s =>
 z5 y
(kSub e (.i .i64 (.ofNat 1)) fun z =>
 m f z s)
(z23 1 s f none (some e) (some e) fun A s =>
 retK false s A some)) φ g l s)) s0
def zcI (φ : Nat) : List D → Option D :=
fun as =>
(fun (s : LS) =>
 u1 as fun G H =>
 u1 H fun e I =>
 u1 I fun l J =>
 u0 J (
 kLen e s fun K s =>
 kEql K (.i .i64 (.ofNat 0)) fun f =>
 z0 f false (fun k => k l s) s fun M s =>
 z0 f false (fun k => kLen M s k) s fun N s =>
 z0 f false (fun k => kEql N (.i .i64 (.ofNat 0)) fun d => k d s) s fun O s =>
 zp f (.b true) O s fun P s =>
 z5 P
(retK false s (.tree [] 0 true) some)
(kLen e s fun S s =>
 kLen l s fun U s =>
 kAdd S U fun V =>
 kSub V (.i .i64 (.ofNat 1)) fun p =>
 z24 1 8 [(.i .i64 (.ofNat 0))] s p p fun W s =>
 kLen e s fun X s =>
 lp (fun (_ _ _ _ _ _ : D) (_ : LS) => none) (fun (Y : D → D → D → D → D → D → LS → Rs) (Z m u v w g : D) (s : LS) =>
 kLss g w fun bb =>
 z5 bb
(z1 1 s v g fun bc s =>
 z4 s bc fun bd s =>
 kLen m s fun bf s =>
 lp (fun (_ _ _ _ _ _ _ _ _ _ _ : D) (_ : LS) => none) (fun (bg : D → D → D → D → D → D → D → D → D → D → D → LS → Rs) (n y h o z A B C E F c : D) (s : LS) =>
 kLss c F fun bh =>
 z5 bh
(z1 1 s E c fun bi s =>
 z4 s bi fun bk s =>
 kAdd o c fun bl =>
 kAdd o c fun bm =>
 z1 1 s h bm fun bn s =>
 z4 s bn fun bo s =>
 kMul z bk fun bp =>
 kAdd bo bp fun bu =>
 kRem bu n fun bv =>
 z1 1 s h bl fun bw s =>
 z6 1 s bw bv fun _ s =>
 kAdd c (.i .i64 (.ofNat 1)) fun bz =>
 bg n y h o z A B C E F bz s)
(kAdd C (.i .i64 (.ofNat 1)) fun bA =>
 Y n y h A B bA s)) φ Z m u g bd v w g m bf (.i .i64 (.ofNat 0)) s)
(isoK (z1M φ) [u] s fun bB s =>
 retK false s bB some)) φ G l W e X (.i .i64 (.ofNat 0)) s))) s0
end
end Go.Proofs.Ev
namespace Go.Proofs.Ev
noncomputable section
theorem z6u {d : D} {r : List D} {k : D → List D → Rs} : u1 (d :: r) k = k d r := rfl
theorem zad {x : Rs} : u0 [] x = x := rfl
theorem z1s {a b : Rs} : z5 (.b true) a b = a := rfl
theorem z13 {a b : Rs} : z5 (.b false) a b = b := rfl
theorem z1j {α : Type} {bot : α} {f : α → α} {n : Nat} : lp bot f (n + 1) = f (lp bot f n) := rfl
def n64 (w : Nat) : D := .i .u64 (.ofNat w)
def c64 (ws : List Nat) : List D := ws.map n64
theorem z8G (ws : List Nat) : (c64 ws).length = ws.length := List.length_map _
theorem zaw {ws : List Nat} {i w : Nat} (h : ws[i]? = some w) : (c64 ws)[i]? = some (.i .u64 (.ofNat w)) := by
  unfold c64
  rw [List.getElem?_map, h]; rfl
theorem zgn (ws : List Nat) (i w : Nat) : (c64 ws).set i (.i .u64 (.ofNat w)) = c64 (ws.set i w) := by
  unfold c64
  rw [List.map_set]; rfl
theorem zic : ∀ (ws : List Nat), (c64 ws).all z8U = true
  | [] => rfl
  | w :: ws => zic ws
theorem zjY (n w : Nat) : List.replicate n (D.i .u64 (.ofNat w)) = c64 (List.replicate n w) := by
  unfold c64
  rw [List.map_replicate]; rfl
theorem ziH (n : Nat) : z4O (List.replicate n 0) := fun w h => by
  rw [(List.mem_replicate.1 h).2]; decide
theorem zju : ∀ n, val (List.replicate n 0) = 0
  | 0 => rfl
  | n + 1 => by
    show 0 + B64 * val (List.replicate n 0) = 0
    rw [zju n]; rfl
theorem zfI {ws : List Nat} {j w : Nat} (h : z4O ws) (hw : w < B64) : z4O (ws.set j w) := fun x hx => by
  rcases List.mem_or_eq_of_mem_set hx with h1 | h1
  · exact h x h1
  · rw [h1]; exact hw
theorem z9O {op : (D → LS → Rs) → Rs} {s : LS} {k : D → LS → Rs} : z0 (.b true) true op s k = op k := rfl
theorem zcF {op : (D → LS → Rs) → Rs} {s : LS} {k : D → LS → Rs} : z0 (.b false) true op s k = k (.tup []) s := rfl
theorem z6z {a b : D} {s : LS} {k : D → LS → Rs} : zp (.b true) a b s k = k a s := rfl
theorem z9Y {a b : D} {s : LS} {k : D → LS → Rs} : zp (.b false) a b s k = k b s := rfl
theorem zhU {l off len cm z : Nat} {ex : Bool} {s : LS} {k : D → LS → Rs} : kLen (.sl l off len cm z ex) s k = k (.i .i64 (.ofNat len)) s := rfl
theorem z1L {cs : List D} {len : Nat} {ex : Bool} {s : LS} {k : D → LS → Rs} : kLen (.tree cs len ex) s k = k (.i .i64 (.ofNat len)) s := rfl
theorem zeR {cs : List D} {len h : Nat} {k : D → LS → Rs} (h0 : 0 < len) (hh : h ≤ len) : z23 1 (st1 cs) (.sl 0 0 len len 1 true) none (some (.i .i64 (.ofNat h))) none k = k (.sl 0 0 h len 1 true) (st1 cs) := by
  show (kGet (st1 cs) 0 fun b => cnd (lv b.st) (cnd (Nat.ble len len) (cnd (Nat.ble h len) (cnd (Nat.ble 0 h) (cnd (Nat.beq 1 1) (frcB true fun ex => cnd (Nat.blt 0 len) (frc (Nat.add 0 (Nat.mul 0 1)) fun off => frc (Nat.sub h 0) fun l => frc (Nat.sub len 0) fun cm => k (.sl 0 off l cm 1 ex) (st1 cs)) (k (.tree [] 0 ex) (st1 cs))) none) none) none) none) none) = _
  rw [z5F, zap]
  show cnd (Nat.ble len len) (cnd (Nat.ble h len) (cnd (Nat.ble 0 h) (cnd (Nat.beq 1 1) (frcB true fun ex => cnd (Nat.blt 0 len) (frc (Nat.add 0 (Nat.mul 0 1)) fun off => frc (Nat.sub h 0) fun l => frc (Nat.sub len 0) fun cm => k (.sl 0 off l cm 1 ex) (st1 cs)) (k (.tree [] 0 ex) (st1 cs))) none) none) none) none = _
  rw [Nat.ble_eq_true_of_le (Nat.le_refl len), Nat.ble_eq_true_of_le hh, Nat.ble_eq_true_of_le (Nat.zero_le h), zy h0]
  simp only [zx, z66, zC, z2R]
  rfl
theorem znE {ws : List Nat} {len w φ : Nat} {k : D → LS → Rs} (h0 : 0 < len) (hlen : len ≤ 9223372036854775807) (hw : ws[len - 1]? = some w) (hne : w ≠ 0) :
    zH (φ + 1) [.sl 0 0 len len 1 true] (st1 (c64 ws)) k = k (.sl 0 0 len len 1 true) (st1 (c64 ws)) := by
  unfold zH
  have hm : len ≤ kmax .i64 := hlen
  simp only [z6u, zad, zhU, z1j, zbk, zy h0, z9O, z5E (show 1 ≤ len from h0) hm, z3w (show len - 1 < len by omega), Nat.zero_add, z7D (zaw hw), z9P, z4Z hne, z6z, z13, zeR h0 (Nat.le_refl len)]
def zk8 (φ : Nat) : (D → D → D → D → LS → Rs) → D → D → D → D → LS → Rs := (fun (q7 : D → D → D → D → LS → Rs) (x8 x9 x10 x11 : D) (s : LS) =>
 kLss x11 x10 fun x12 =>
 z5 x12
(kS (.lens (.c x8)) s fun x13 s =>
 kSub x13 (.i .i64 (.ofNat 1)) fun x14 =>
 kSub x14 x11 fun x15 =>
 kQuo x15 (.i .i64 (.ofNat 8)) fun x16 =>
 z1 1 s x9 x16 fun x17 s =>
 z4 s x17 fun x18 s =>
 kS (.index (.c x8) (.c x11)) s fun x19 s =>
 z2s .u64 x19 s fun x20 s =>
 kRem x15 (.i .i64 (.ofNat 8)) fun x21 =>
 kMul (.i .i64 (.ofNat 8)) x21 fun x22 =>
 kShl x20 x22 fun x23 =>
 kOr x18 x23 fun x24 =>
 z1 1 s x9 x16 fun x25 s =>
 z6 1 s x25 x24 fun _ s =>
 kAdd x11 (.i .i64 (.ofNat 1)) fun x26 =>
 q7 x8 x9 x10 x26 s)
(zH φ [x9] s fun x27 s =>
 retK true s x27 some))
theorem znC (φ : Nat) (a : D) : z6W φ [a] = (kS (.lens (.c a)) s0 fun x2 s =>
    kAdd x2 (.i .i64 (.ofNat 7)) fun x3 =>
    kQuo x3 (.i .i64 (.ofNat 8)) fun x4 =>
    z24 1 8 [(.i .u64 (.ofNat 0))] s x4 x4 fun x5 s =>
    kS (.lens (.c a)) s fun x6 s =>
    lp (fun (_ _ _ _ : D) (_ : LS) => none) (zk8 φ) φ a x5 x6 (.i .i64 (.ofNat 0)) s) := rfl
theorem zh9 {m n W : Nat} (hm : 0 < m) (hn : n = (zw m).length) (hW : W = (n + 7) / 8) (hs : n ≤ 1000000000000) (φ : Nat) : ∀ (j i : Nat) (ws : List Nat) (f : Nat), i + j = n → j < f → 0 < φ → ws.length = W → z4O ws →
    val ws = ze ((zw m).take i) 0 * 256 ^ j →
    lp (fun (_ _ _ _ : D) (_ : LS) => none) (zk8 φ) f (.n m) (.sl 0 0 W W 1 true) (.i .i64 (.ofNat n)) (.i .i64 (.ofNat i)) (st1 (c64 ws)) = some (.own (c64 (dg W m)) W 1)
  | 0, i, ws, f, hi, hf, hφ, hl, hsm, hv => by
    obtain ⟨f, rfl⟩ : ∃ q, f = q + 1 := ⟨f - 1, by omega⟩
    obtain ⟨φ, rfl⟩ : ∃ q, φ = q + 1 := ⟨φ - 1, by omega⟩
    have hin : i = n := by omega
    subst hin
    have hval : val ws = m := by
      rw [hv, Nat.pow_zero, Nat.mul_one, hn, List.take_length, z4J]
    have hdg : dg W m = ws := by rw [← hl, ← hval]; exact zoQ hsm
    obtain ⟨hb1, hb2⟩ := zas hm
    rw [← hn] at hb1 hb2
    have hW0 : 0 < W := by omega
    have hlt : W - 1 < ws.length := by omega
    have hw := List.getElem?_eq_getElem hlt
    have hne : ws[W - 1] ≠ 0 := by
      intro e
      have h1 := zeG hsm hw
      rw [e] at h1
      have h2 := zfD hsm
      have h3 : B64 ^ ws.length = B64 ^ (W - 1) * B64 := by rw [hl, ← Nat.pow_succ]; congr 1; omega
      have h4 : val ws / B64 ^ (W - 1) < B64 := by
        rw [h3] at h2
        exact Nat.div_lt_of_lt_mul h2
      rw [Nat.mod_eq_of_lt h4] at h1
      have h5 : val ws < B64 ^ (W - 1) := by
        rcases Nat.lt_or_ge (val ws) (B64 ^ (W - 1)) with h | h
        · exact h
        · have := Nat.div_pos h (Nat.pow_pos (by decide))
          omega
      have h6 : B64 ^ (W - 1) = 256 ^ (8 * (W - 1)) := by rw [Nat.pow_mul]
      have h7 : 256 ^ (8 * (W - 1)) ≤ 256 ^ (i - 1) := Nat.pow_le_pow_right (by decide) (by omega)
      omega
    rw [z1j]
    unfold zk8
    simp only [z3i, zB (Nat.lt_irrefl i), z13, znE hW0 (show W ≤ 9223372036854775807 by omega) hw hne]
    rw [znI (zic ws) (by rw [z8G, hl]), hdg]
  | j + 1, i, ws, f, hi, hf, hφ, hl, hsm, hv => by
    obtain ⟨f, rfl⟩ : ∃ q, f = q + 1 := ⟨f - 1, by omega⟩
    have hlt : i < n := by omega
    have hib : i < (zw m).length := by rw [← hn]; exact hlt
    have hc := List.getElem?_eq_getElem hib
    generalize hcc : (zw m)[i] = c at hc
    have hc8 : c.toNat < 256 := c.toNat_lt
    have hk : n - 1 - i = j := by omega
    have hj8 : j / 8 < ws.length := by rw [hl, hW]; omega
    have hw := List.getElem?_eq_getElem hj8
    obtain ⟨o1, o2, o3⟩ := zp8 (b := c.toNat) hsm hw hc8 hv
    have hwl := hsm _ (List.getElem_mem hj8)
    have h64 : c.toNat * 2 ^ (8 * (j % 8)) < B64 := by omega
    have hmod : c.toNat * 2 ^ (8 * (j % 8)) % 18446744073709551616 = c.toNat * 2 ^ (8 * (j % 8)) := Nat.mod_eq_of_lt h64
    rw [z1j]
    unfold zk8
    simp only [z3i, zy hlt, z1s, zg5, ← hn, z5E (show 1 ≤ n by omega) (show n ≤ kmax .i64 from (by show n ≤ 9223372036854775807; omega)),
      z5E (show i ≤ n - 1 by omega) (show n - 1 ≤ kmax .i64 from (by show n - 1 ≤ 9223372036854775807; omega)), hk,
      zmr (show (8 : Nat) ≠ 0 by decide) (show j ≤ kmax .i64 from (by show j ≤ 9223372036854775807; omega)), z3w (show j / 8 < W by omega), Nat.zero_add, z7D (zaw hw), zo3 hc,
      znU (show c.toNat ≤ kmax .u64 from (by show c.toNat ≤ 18446744073709551615; omega)), zj6 (show (8 : Nat) ≠ 0 by decide), zf6 (show 8 * (j % 8) ≤ kmax .i64 from (by show 8 * (j % 8) ≤ 9223372036854775807; omega)),
      zpj (show 8 * (j % 8) ≤ 64 by omega), hmod, zqN (show ws[j / 8] ≤ kmax .u64 from Nat.le_of_lt_succ hwl) (show c.toNat * 2 ^ (8 * (j % 8)) ≤ kmax .u64 from Nat.le_of_lt_succ h64), o1,
      z92 (show j / 8 < (c64 ws).length by rw [z8G]; exact hj8), zgn, z3T (show i + 1 ≤ kmax .i64 from (by show i + 1 ≤ 9223372036854775807; omega))]
    refine zh9 hm hn hW hs φ j (i + 1) _ f (by omega) (by omega) hφ (by rw [List.length_set, hl]) (zfI hsm o2) ?_
    rw [o3]
    congr 1
    have ht : (zw m).take (i + 1) = (zw m).take i ++ [c] := by
      rw [List.take_add_one, hc]; rfl
    rw [ht, z9X]
theorem zlz {m n W φ : Nat} (hm : 0 < m) (hn : n = (zw m).length) (hW : W = (n + 7) / 8) (hs : n ≤ 1000000000000) (hφ : n < φ) : z6W φ [.n m] = some (.own (c64 (dg W m)) W 1) := by
  rw [znC]
  obtain ⟨hb1, hb2⟩ := zas hm
  have h7 : n + 7 ≤ kmax .i64 := by show n + 7 ≤ 9223372036854775807; omega
  simp only [zg5, ← hn, z3T h7, zmr (show (8 : Nat) ≠ 0 by decide) h7, ← hW, zep (bytes := 8) (z := .i .u64 (.ofNat 0)) (n := W) (show W ≤ 140737488355328 by omega) (show W * 8 ≤ 140737488355328 by omega), zjY]
  refine zh9 hm hn hW hs φ n 0 _ φ (by omega) hφ (by omega) (by simp) (ziH W) ?_
  rw [zju]
  simp [ze]
theorem zdI {cs : List D} {len i : Nat} {ex : Bool} {d : D} {k2 : IntKind} {s : LS} {K : D → LS → Rs} (h : i < len) (hd : cs[i]? = some d) : z1 1 s (.tree cs len ex) (.i k2 (.ofNat i)) K = K (.fp (d :: cs.drop (i + 1))) s := by
  show cnd (Nat.blt i len) (z8V (Nat.mul i 1) cs fun r => List.rec (motive := fun _ => Rs) none (fun _ _ _ => K (.fp r) s) r) none = _
  rw [zy h, zx, z34]
  have : cs.drop (Nat.mul i 1) = d :: cs.drop (i + 1) := by
    rw [show Nat.mul i 1 = i from Nat.mul_one i]
    exact zgh hd
  rw [this]
theorem zj7 {d : D} {r : List D} {s : LS} {K : D → LS → Rs} : z4 s (.fp (d :: r)) K = K d s := rfl
theorem zg4 {cs : List D} {len h : Nat} {ex : Bool} {s : LS} {k : D → LS → Rs} (hh : h ≤ len) (hl : cs.length = len) : z23 1 s (.tree cs len ex) none (some (.i .i64 (.ofNat h))) none k = k (.tree (cs.take h) h (cnd ex (Nat.beq h len) false)) s := by
  show cnd (Nat.ble len len) (cnd (Nat.ble h len) (cnd (Nat.ble 0 h) (cnd (Nat.beq cs.length (Nat.mul len 1))
        (z8V (Nat.mul 0 1) cs fun cs => frc (Nat.sub h 0) fun n => z9W (Nat.mul n 1) cs fun cs =>
          frcB (cnd ex (Nat.beq h len) false) fun ex => k (.tree cs n ex) s)
        none) none) none) none = _
  rw [Nat.ble_eq_true_of_le (Nat.le_refl len), Nat.ble_eq_true_of_le hh, Nat.ble_eq_true_of_le (Nat.zero_le h), hl, show Nat.mul len 1 = len from Nat.mul_one len, z2R]
  simp only [zx, z34, zC, z66]
  rw [show Nat.mul 0 1 = 0 from rfl, List.drop_zero, show Nat.sub h 0 = h from rfl, z9E, show Nat.mul h 1 = h from Nat.mul_one h, if_pos (by omega)]
def tl (ws : List Nat) : Nat → Nat
  | 0 => 0
  | n + 1 => if ws[n]? = some 0 then tl ws n else n + 1
theorem zq3 (ws : List Nat) : ∀ n, tl ws n ≤ n
  | 0 => Nat.le_refl _
  | n + 1 => by
    unfold tl
    split
    · have := zq3 ws n; omega
    · exact Nat.le_refl _
theorem zk9 : ∀ (ws : List Nat) (w : Nat), val (ws ++ [w]) = val ws + w * B64 ^ ws.length
  | [], w => by show w + B64 * 0 = 0 + w * B64 ^ 0; rw [Nat.pow_zero]; omega
  | x :: ws, w => by
    show x + B64 * val (ws ++ [w]) = x + B64 * val ws + w * B64 ^ (ws.length + 1)
    rw [zk9 ws w, Nat.mul_add, Nat.pow_succ]
    have : B64 * (w * B64 ^ ws.length) = w * (B64 ^ ws.length * B64) := by rw [← Nat.mul_assoc, Nat.mul_comm B64 w, Nat.mul_assoc, Nat.mul_comm B64 (B64 ^ ws.length)]
    omega
theorem zoy (ws : List Nat) : ∀ n, n ≤ ws.length → val (ws.take (tl ws n)) = val (ws.take n)
  | 0, _ => rfl
  | n + 1, h => by
    unfold tl
    split
    · rename_i h0
      rw [zoy ws n (by omega), List.take_add_one, h0]
      show _ = val (ws.take n ++ [0])
      rw [zk9, Nat.zero_mul, Nat.add_zero]
    · rfl
def zlG (k : D → LS → Rs) : (D → D → LS → Rs) → D → D → LS → Rs := (fun (q3 : D → D → LS → Rs) (x4 x5 : D) (s : LS) =>
 kGtr x5 (.i .i64 (.ofNat 0)) fun x6 =>
 z0 x6 true (fun k => k x4 s) s fun x7 s =>
 z0 x6 true (fun k => k x5 s) s fun x8 s =>
 z0 x6 true (fun k => kSub x8 (.i .i64 (.ofNat 1)) fun d => k d s) s fun x9 s =>
 z0 x6 true (fun k => z1 1 s x7 x9 k) s fun x10 s =>
 z0 x6 true (fun k => z4 s x10 k) s fun x11 s =>
 z0 x6 true (fun k => kEql x11 (.i .u64 (.ofNat 0)) fun d => k d s) s fun x12 s =>
 zp x6 x12 (.b false) s fun x13 s =>
 z5 x13
(kSub x5 (.i .i64 (.ofNat 1)) fun x14 =>
 q3 x4 x14 s)
(z23 1 s x4 none (some x5) none fun x15 s =>
 k x15 s))
theorem zhA (φ : Nat) (a : D) (s : LS) (k : D → LS → Rs) : zH φ [a] s k = (kLen a s fun x2 s => lp (fun (_ _ : D) (_ : LS) => none) (zlG k) φ a x2 s) := rfl
theorem ziG {ws : List Nat} {len : Nat} {ex : Bool} {s : LS} {k : D → LS → Rs} (hl : ws.length = len) (hlen : len ≤ 9223372036854775807) : ∀ (n f : Nat), n ≤ len → n < f →
    lp (fun (_ _ : D) (_ : LS) => none) (zlG k) f (.tree (c64 ws) len ex) (.i .i64 (.ofNat n)) s = k (.tree (c64 (ws.take (tl ws n))) (tl ws n) (cnd ex (Nat.beq (tl ws n) len) false)) s
  | 0, f, hn, hf => by
    obtain ⟨f, rfl⟩ : ∃ q, f = q + 1 := ⟨f - 1, by omega⟩
    rw [z1j]
    unfold zlG
    simp only [zbk, zB (Nat.lt_irrefl 0), zcF, z9Y, z13, zg4 (ex := ex) (Nat.zero_le len) (show (c64 ws).length = len by rw [z8G, hl])]
    rfl
  | n + 1, f, hn, hf => by
    obtain ⟨f, rfl⟩ : ∃ q, f = q + 1 := ⟨f - 1, by omega⟩
    have hlt : n < ws.length := by omega
    have hw := List.getElem?_eq_getElem hlt
    rw [z1j]
    unfold zlG
    have hm : n + 1 ≤ kmax .i64 := by show n + 1 ≤ 9223372036854775807; omega
    simp only [zbk, zy (Nat.succ_pos n), z9O, z5E (show 1 ≤ n + 1 by omega) hm, Nat.add_sub_cancel, zdI (show n < len by omega) (zaw hw), zj7, z9P, z6z]
    by_cases h0 : ws[n] = 0
    · rw [h0, show Nat.beq 0 0 = true from rfl, z1s]
      have ht : tl ws (n + 1) = tl ws n := by
        show (if ws[n]? = some 0 then tl ws n else n + 1) = _
        rw [hw, h0, if_pos rfl]
      rw [ht]
      exact ziG hl hlen n f (by omega) (by omega)
    · rw [z4Z h0, z13, zg4 hn (show (c64 ws).length = len by rw [z8G, hl])]
      have ht : tl ws (n + 1) = n + 1 := by
        show (if ws[n]? = some 0 then tl ws n else n + 1) = _
        rw [hw, if_neg (fun e => h0 (Option.some.inj e))]
      rw [ht]
      unfold c64
      rw [List.map_take]
theorem zlF {ws : List Nat} {len φ : Nat} {ex : Bool} {s : LS} {k : D → LS → Rs} (hl : ws.length = len) (hlen : len ≤ 9223372036854775807) (hφ : len < φ) :
    zH φ [.tree (c64 ws) len ex] s k = k (.tree (c64 (ws.take (tl ws len))) (tl ws len) (cnd ex (Nat.beq (tl ws len) len) false)) s := by
  rw [zhA, z1L]
  exact ziG hl hlen len φ (Nat.le_refl _) hφ
def n8 (w : Nat) : D := .i .u8 (.ofNat w)
def c8 (bs : List Nat) : List D := bs.map n8
theorem zni (ws : List Nat) : (c8 ws).length = ws.length := List.length_map _
theorem zqy {ws : List Nat} {i w : Nat} (h : ws[i]? = some w) : (c8 ws)[i]? = some (.i .u8 (.ofNat w)) := by
  unfold c8
  rw [List.getElem?_map, h]; rfl
theorem zqx (ws : List Nat) (i w : Nat) : (c8 ws).set i (.i .u8 (.ofNat w)) = c8 (ws.set i w) := by
  unfold c8
  rw [List.map_set]; rfl
def be : Nat → Nat → List Nat
  | 0, _ => []
  | t + 1, v => v / 256 ^ t % 256 :: be t v
theorem zkU : ∀ t v, (be t v).length = t
  | 0, _ => rfl
  | t + 1, v => by show (be t v).length + 1 = t + 1; rw [zkU t v]
theorem znm : ∀ (i t v : Nat), i ≤ t → (be t v).drop i = be (t - i) v
  | 0, t, v, _ => rfl
  | i + 1, 0, v, h => by omega
  | i + 1, t + 1, v, h => by
    show (be t v).drop i = _
    rw [znm i t v (by omega), show t + 1 - (i + 1) = t - i by omega]
theorem zlJ (c : Nat) (l : List Nat) : ∀ m, (List.replicate (m + 1) 0 ++ l).set m c = List.replicate m 0 ++ c :: l
  | 0 => rfl
  | m + 1 => by
    show 0 :: (List.replicate (m + 1) 0 ++ l).set m c = 0 :: (List.replicate m 0 ++ c :: l)
    rw [zlJ c l m]
theorem zkn : ∀ (t v : Nat), ze ((be t v).map UInt8.ofNat) 0 = v % 256 ^ t
  | 0, v => by rw [Nat.pow_zero, Nat.mod_one]; rfl
  | t + 1, v => by
    show ze ((be t v).map UInt8.ofNat) (0 * 256 + (UInt8.ofNat (v / 256 ^ t % 256)).toNat) = _
    have : (UInt8.ofNat (v / 256 ^ t % 256)).toNat = v / 256 ^ t % 256 := by simp
    rw [this, z37, List.length_map, zkU, zkn t v, Nat.zero_mul, Nat.zero_add, Nat.mod_pow_succ, Nat.mul_comm]
    omega
theorem zjl : ∀ (bs : List Nat), zf7 (c8 bs) = some (bs.map UInt8.ofNat)
  | [] => rfl
  | b :: bs => by
    show (match zf7 (c8 bs) with
      | some l => some (UInt8.ofNat (Int.ofNat b).toNat :: l)
      | none => none) = _
    rw [zjl bs]; rfl
theorem zmp {cs : List D} {len i : Nat} {k : D → LS → Rs} (hi : i < len) : z23 1 (st1 cs) (.sl 0 0 len len 1 true) (some (.i .i64 (.ofNat i))) none none k = k (.sl 0 i (len - i) (len - i) 1 true) (st1 cs) := by
  show (kGet (st1 cs) 0 fun b => cnd (lv b.st) (cnd (Nat.ble len len) (cnd (Nat.ble len len) (cnd (Nat.ble i len) (cnd (Nat.beq 1 1) (frcB true fun ex => cnd (Nat.blt i len) (frc (Nat.add 0 (Nat.mul i 1)) fun off => frc (Nat.sub len i) fun l => frc (Nat.sub len i) fun cm => k (.sl 0 off l cm 1 ex) (st1 cs)) (k (.tree [] 0 ex) (st1 cs))) none) none) none) none) none) = _
  rw [z5F, zap]
  show cnd (Nat.ble len len) (cnd (Nat.ble len len) (cnd (Nat.ble i len) (cnd (Nat.beq 1 1) (frcB true fun ex => cnd (Nat.blt i len) (frc (Nat.add 0 (Nat.mul i 1)) fun off => frc (Nat.sub len i) fun l => frc (Nat.sub len i) fun cm => k (.sl 0 off l cm 1 ex) (st1 cs)) (k (.tree [] 0 ex) (st1 cs))) none) none) none) none = _
  rw [Nat.ble_eq_true_of_le (Nat.le_refl len), Nat.ble_eq_true_of_le (Nat.le_of_lt hi), zy hi]
  simp only [zx, z66, zC, z2R]
  have : Nat.add 0 (Nat.mul i 1) = i := by show 0 + i * 1 = i; omega
  rw [this]; rfl
theorem zo7 {bs : List Nat} {i len c : Nat} {r : List Nat} {K : D → LS → Rs} (hl : bs.length = len) (hd : bs.drop i = c :: r) (hc : c < 256) (hne : c ≠ 0) :
    kS (.b2s (.c (.sl 0 i (len - i) (len - i) 1 true))) (st1 (c8 bs)) K = K (.n (ze ((c :: r).map UInt8.ofNat) 0)) (st1 (c8 bs)) := by
  have hcut : cut i ((len - i) * 1) (c8 bs) = some (c8 (c :: r)) := by
    unfold cut
    have h1 : (c8 bs).drop i = c8 (c :: r) := by
      unfold c8
      rw [← List.map_drop, hd]
    have h2 : (c :: r).length = len - i := by rw [← hd, List.length_drop, hl]
    rw [h1, Nat.mul_one, List.take_of_length_le (by rw [zni, h2]; exact Nat.le_refl _)]
    rw [if_pos (by rw [zni, h2])]
  have he : evA (st1 (c8 bs)).nx cv (st1 (c8 bs)).get (.b2s (.c (.sl 0 i (len - i) (len - i) 1 true))) = some (.n (ze ((c :: r).map UInt8.ofNat) 0), []) := by
    simp only [evA, cv, z3q, zap, Stt.live, Bool.not_true, Bool.false_eq_true, if_false, if_true, hcut, zjl]
    have hb : (UInt8.ofNat c).toNat = c := by simp; omega
    show some (cond (Nat.beq (UInt8.ofNat c).toNat 0) _ _, _) = _
    rw [hb, z4Z hne]; rfl
  unfold kS sA
  rw [he]
  show frcD _ _ = _
  rw [zdL]
def zp3 (x10 : D) : (D → D → LS → Rs) → D → D → LS → Rs := (fun (q37 : D → D → LS → Rs) (x38 x39 : D) (s : LS) =>
 z1 1 s x38 x39 fun x40 s =>
 z4 s x40 fun x41 s =>
 kEql x41 (.i .u8 (.ofNat 0)) fun x42 =>
 z5 x42
(kAdd x39 (.i .i64 (.ofNat 1)) fun x43 =>
 q37 x38 x43 s)
(z23 1 s x38 (some x39) none none fun x44 s =>
 kS (.b2s (.c x44)) s fun x45 s =>
 retK false s x45 some))
def innF (φ : Nat) (q9 : D → D → D → D → LS → Rs) : (D → D → D → D → D → D → D → LS → Rs) → D → D → D → D → D → D → D → LS → Rs := (fun (q17 : D → D → D → D → D → D → D → LS → Rs) (x18 x19 x20 x21 x22 x23 x24 : D) (s : LS) =>
 kLss x24 (.i .i64 (.ofNat 8)) fun x25 =>
 z5 x25
(kLen x18 s fun x26 s =>
 kSub x26 (.i .i64 (.ofNat 1)) fun x27 =>
 kMul (.i .i64 (.ofNat 8)) x19 fun x28 =>
 kSub x27 x28 fun x29 =>
 kSub x29 x24 fun x30 =>
 kMul (.i .i64 (.ofNat 8)) x24 fun x31 =>
 kShr x20 x31 fun x32 =>
 z2s .u8 x32 s fun x33 s =>
 z1 1 s x18 x30 fun x34 s =>
 z6 1 s x34 x33 fun _ s =>
 kAdd x24 (.i .i64 (.ofNat 1)) fun x35 =>
 q17 x18 x19 x20 x21 x22 x23 x35 s)
(kAdd x23 (.i .i64 (.ofNat 1)) fun x36 =>
 q9 x18 x21 x22 x36 s))
def outF (φ : Nat) : (D → D → D → D → LS → Rs) → D → D → D → D → LS → Rs := (fun (q9 : D → D → D → D → LS → Rs) (x10 x11 x12 x13 : D) (s : LS) =>
 kLss x13 x12 fun x14 =>
 z5 x14
(z1 1 s x11 x13 fun x15 s =>
 z4 s x15 fun x16 s =>
 lp (fun (_ _ _ _ _ _ _ : D) (_ : LS) => none) (innF φ q9) φ x10 x13 x16 x11 x12 x13 (.i .i64 (.ofNat 0)) s)
(lp (fun (_ _ : D) (_ : LS) => none) (zp3 x10) φ x10 (.i .i64 (.ofNat 0)) s))
theorem zp6 (φ : Nat) (a : D) : z9U φ [a] = (zH φ [a] s0 fun x2 s =>
    kLen x2 s fun x3 s =>
    kEql x3 (.i .i64 (.ofNat 0)) fun x4 =>
    z5 x4
    (retK false s (.n 0) some)
    (kLen x2 s fun x5 s =>
    kMul (.i .i64 (.ofNat 8)) x5 fun x6 =>
    z24 1 1 [(.i .u8 (.ofNat 0))] s x6 x6 fun x7 s =>
    kLen x2 s fun x8 s =>
    lp (fun (_ _ _ _ : D) (_ : LS) => none) (outF φ) φ x7 x2 x8 (.i .i64 (.ofNat 0)) s)) := rfl
theorem ziI {L v : Nat} {x : D} (hL : L ≤ 1000000000000) (hv : 0 < v) : ∀ (j i f : Nat), i + j = L → j < f → v < 256 ^ j →
    lp (fun (_ _ : D) (_ : LS) => none) (zp3 x) f (.sl 0 0 L L 1 true) (.i .i64 (.ofNat i)) (st1 (c8 (be L v))) = some (.n v)
  | 0, i, f, hi, hf, hlt => by
    rw [Nat.pow_zero] at hlt; omega
  | j + 1, i, f, hi, hf, hlt => by
    obtain ⟨f, rfl⟩ : ∃ q, f = q + 1 := ⟨f - 1, by omega⟩
    have hd : (be L v).drop i = v / 256 ^ j % 256 :: be j v := by
      rw [znm i L v (by omega), show L - i = j + 1 by omega]; rfl
    have hget : (be L v)[i]? = some (v / 256 ^ j % 256) := by
      have h1 : ((be L v).drop i)[0]? = some (v / 256 ^ j % 256) := by rw [hd]; rfl
      rw [List.getElem?_drop] at h1
      simpa using h1
    have hmod : v / 256 ^ j % 256 = v / 256 ^ j := Nat.mod_eq_of_lt (Nat.div_lt_of_lt_mul (by rw [Nat.pow_succ] at hlt; exact hlt))
    rw [z1j]
    unfold zp3
    simp only [z3w (show i < L by omega), Nat.zero_add, z7D (zqy hget), z9P]
    by_cases h0 : v / 256 ^ j % 256 = 0
    · rw [h0, show Nat.beq 0 0 = true from rfl, z1s, z3T (show i + 1 ≤ kmax .i64 from (by show i + 1 ≤ 9223372036854775807; omega))]
      refine ziI (x := x) hL hv j (i + 1) f (by omega) (by omega) ?_
      rw [hmod] at h0
      rcases Nat.lt_or_ge v (256 ^ j) with h | h
      · exact h
      · have := Nat.div_pos h (Nat.pow_pos (show 0 < 256 by decide))
        omega
    · rw [z4Z h0, z13]
      simp only [zmp (show i < L by omega), zo7 (zkU L v) hd (Nat.mod_lt _ (by decide)) h0]
      have he : ze ((v / 256 ^ j % 256 :: be j v).map UInt8.ofNat) 0 = v := by
        have := zkn (j + 1) v
        rw [Nat.mod_eq_of_lt hlt] at this
        exact this
      rw [he]
      rfl
theorem zpK {v i s x : Nat} (hs : s < 8) (hx : x = v / B64 ^ i % B64) : x / 2 ^ (8 * s) % 256 = v / 256 ^ (8 * i + s) % 256 := by
  have e1 : 256 ^ (8 * i + s) = B64 ^ i * 2 ^ (8 * s) := by
    rw [p256, ziE, ← Nat.pow_add]; congr 1; omega
  have e2 : B64 = 2 ^ (8 * s) * (256 * 2 ^ (56 - 8 * s)) := by
    have h1 : (256 : Nat) = 2 ^ 8 := rfl
    have h2 : B64 = 2 ^ 64 := rfl
    rw [h1, ← Nat.pow_add, ← Nat.pow_add, h2]; congr 1; omega
  rw [e1, ← Nat.div_div_eq_div_mul, hx, e2, Nat.mod_mul_right_div_self, Nat.mod_mul_right_mod]
theorem zkB {ws : List Nat} {t L φ i x v : Nat} {ex : Bool} (q : D → D → D → D → LS → Rs) (hL : L = 8 * t) (hLs : L ≤ 1000000000000) (hi : i < t) (hv : v = val ws) (hx : x = v / B64 ^ i % B64) : ∀ (j s f : Nat), s + j = 8 → j < f →
    lp (fun (_ _ _ _ _ _ _ : D) (_ : LS) => none) (innF φ q) f (.sl 0 0 L L 1 true) (.i .i64 (.ofNat i)) (.i .u64 (.ofNat x)) (.tree (c64 ws) t ex) (.i .i64 (.ofNat t)) (.i .i64 (.ofNat i)) (.i .i64 (.ofNat s)) (st1 (c8 (List.replicate (L - (8 * i + s)) 0 ++ be (8 * i + s) v)))
      = q (.sl 0 0 L L 1 true) (.tree (c64 ws) t ex) (.i .i64 (.ofNat t)) (.i .i64 (.ofNat (i + 1))) (st1 (c8 (List.replicate (L - 8 * (i + 1)) 0 ++ be (8 * (i + 1)) v)))
  | 0, s, f, hs, hf => by
    obtain ⟨f, rfl⟩ : ∃ q, f = q + 1 := ⟨f - 1, by omega⟩
    have : s = 8 := by omega
    subst this
    rw [z1j]
    unfold innF
    simp only [z3i, show Nat.blt 8 8 = false from rfl, z13, z3T (show i + 1 ≤ kmax .i64 from (by show i + 1 ≤ 9223372036854775807; omega))]
    rw [show 8 * i + 8 = 8 * (i + 1) by omega]
  | j + 1, s, f, hs, hf => by
    obtain ⟨f, rfl⟩ : ∃ q, f = q + 1 := ⟨f - 1, by omega⟩
    have hs8 : s < 8 := by omega
    rw [z1j]
    unfold innF
    have k1 : 8 * i ≤ kmax .i64 := by show 8 * i ≤ 9223372036854775807; omega
    have k2 : L ≤ kmax .i64 := by show L ≤ 9223372036854775807; omega
    have k3 : L - 1 ≤ kmax .i64 := by show L - 1 ≤ 9223372036854775807; omega
    have k4 : L - 1 - 8 * i ≤ kmax .i64 := by show L - 1 - 8 * i ≤ 9223372036854775807; omega
    have k5 : 8 * s ≤ kmax .i64 := by show 8 * s ≤ 9223372036854775807; omega
    have k6 : s + 1 ≤ kmax .i64 := by show s + 1 ≤ 9223372036854775807; omega
    have hidx : L - 1 - 8 * i - s < L := by omega
    have hlen : L - 1 - 8 * i - s < (c8 (List.replicate (L - (8 * i + s)) 0 ++ be (8 * i + s) v)).length := by
      rw [zni, List.length_append, List.length_replicate, zkU]; omega
    simp only [z3i, zy hs8, z1s, zhU, z5E (show 1 ≤ L by omega) k2, zf6 k1, z5E (show 8 * i ≤ L - 1 by omega) k3, z5E (show s ≤ L - 1 - 8 * i by omega) k4, zf6 k5,
      zmq (show 8 * s ≤ 64 by omega), znV, z3w hidx, Nat.zero_add, z92 hlen, zqx, z3T k6]
    have hset : (List.replicate (L - (8 * i + s)) 0 ++ be (8 * i + s) v).set (L - 1 - 8 * i - s) (x / 2 ^ (8 * s) % 256) = List.replicate (L - (8 * i + (s + 1))) 0 ++ be (8 * i + (s + 1)) v := by
      rw [zpK hs8 hx, show L - (8 * i + s) = (L - 1 - 8 * i - s) + 1 by omega, zlJ, show L - 1 - 8 * i - s = L - (8 * i + (s + 1)) by omega]
      rfl
    rw [hset]
    exact zkB (φ := φ) q hL hLs hi hv hx j (s + 1) f (by omega) (by omega)
theorem zkm {ws : List Nat} {t L φ v : Nat} {ex : Bool} (hsm : z4O ws) (hlw : ws.length = t) (hL : L = 8 * t) (hLs : L ≤ 1000000000000) (hv : v = val ws) (hv0 : 0 < v) (hφ : L + 8 < φ) : ∀ (j i f : Nat), i + j = t → j < f →
    lp (fun (_ _ _ _ : D) (_ : LS) => none) (outF φ) f (.sl 0 0 L L 1 true) (.tree (c64 ws) t ex) (.i .i64 (.ofNat t)) (.i .i64 (.ofNat i)) (st1 (c8 (List.replicate (L - 8 * i) 0 ++ be (8 * i) v))) = some (.n v)
  | 0, i, f, hi, hf => by
    obtain ⟨f, rfl⟩ : ∃ q, f = q + 1 := ⟨f - 1, by omega⟩
    have : i = t := by omega
    subst this
    rw [z1j]
    unfold outF
    simp only [z3i, zB (Nat.lt_irrefl i), z13]
    have hb : List.replicate (L - 8 * i) 0 ++ be (8 * i) v = be L v := by
      rw [hL, Nat.sub_self]; rfl
    rw [hb]
    refine ziI hLs hv0 L 0 φ (by omega) (by omega) ?_
    have := zfD hsm
    rw [hlw, ← hv] at this
    rw [hL, Nat.pow_mul]
    exact this
  | j + 1, i, f, hi, hf => by
    obtain ⟨f, rfl⟩ : ∃ q, f = q + 1 := ⟨f - 1, by omega⟩
    have hit : i < t := by omega
    have hlt : i < ws.length := by omega
    have hw := List.getElem?_eq_getElem hlt
    rw [z1j]
    unfold outF
    simp only [z3i, zy hit, z1s, zdI hit (zaw hw), zj7]
    have h1 := zkB (φ := φ) (ex := ex) (fun a b c d s => lp (fun (_ _ _ _ : D) (_ : LS) => none) (outF φ) f a b c d s) hL hLs hit hv (x := ws[i]) (by rw [hv]; exact zeG hsm hw) 8 0 φ (by omega) (by omega)
    rw [Nat.add_zero] at h1
    refine Eq.trans h1 ?_
    exact zkm hsm hlw hL hLs hv hv0 hφ j (i + 1) f (by omega) (by omega)
theorem znL {ws : List Nat} {len φ : Nat} {ex : Bool} (hsm : z4O ws) (hl : ws.length = len) (hs : len ≤ 100000000000) (hφ : 8 * len + 8 < φ) : z9U φ [.tree (c64 ws) len ex] = some (.n (val ws)) := by
  rw [zp6, zlF hl (by omega) (by omega)]
  have htl := zq3 ws len
  have hval : val (ws.take (tl ws len)) = val ws := by
    rw [zoy ws len (by omega), ← hl, List.take_length]
  generalize ht : tl ws len = t at *
  generalize hws : ws.take t = us at *
  have hus : us.length = t := by rw [← hws, List.length_take]; omega
  have hsu : z4O us := fun w hw => hsm w (List.mem_of_mem_take (by rw [hws]; exact hw))
  simp only [z1L, z9P]
  by_cases h0 : t = 0
  · subst h0
    rw [show Nat.beq 0 0 = true from rfl, z1s]
    have : us = [] := List.length_eq_zero_iff.1 hus
    rw [this] at hval
    have hz : val ws = 0 := hval.symm
    rw [hz]; rfl
  · rw [z4Z h0, z13]
    by_cases hv0 : 0 < val ws
    · have k1 : 8 * t ≤ kmax .i64 := by show 8 * t ≤ 9223372036854775807; omega
      rw [zf6 k1, zep (by omega) (by omega)]
      have hr : List.replicate (8 * t) (D.i .u8 (.ofNat 0)) = c8 (List.replicate (8 * t - 8 * 0) 0 ++ be (8 * 0) (val ws)) := by
        show _ = c8 (List.replicate (8 * t) 0 ++ [])
        unfold c8
        rw [List.append_nil, List.map_replicate]; rfl
      rw [hr]
      exact zkm hsu hus rfl (by omega) hval.symm hv0 (by omega) t 0 φ (by omega) (by omega)
    · exfalso
      obtain ⟨t, rfl⟩ : ∃ q, t = q + 1 := ⟨t - 1, by omega⟩
      have hne : ∀ (n : Nat), tl ws n = t + 1 → ws[t]? ≠ some 0 := by
        intro n
        induction n with
        | zero => intro h; simp [tl] at h
        | succ n ih =>
          intro h
          unfold tl at h
          split at h
          · exact ih h
          · rename_i h1
            have : n = t := by omega
            rw [← this]; exact h1
      have hn := hne len ht
      have hlt : t < us.length := by omega
      have hg := List.getElem?_eq_getElem hlt
      have hv := zeG hsu hg
      rw [hval, show val ws = 0 by omega, Nat.zero_div, Nat.zero_mod] at hv
      refine hn ?_
      have : (ws.take (t + 1))[t]? = some us[t] := by rw [hws]; exact hg
      rw [List.getElem?_take_of_lt (by omega)] at this
      rw [this, hv]
end
end Go.Proofs.Ev
namespace Go.Proofs.Ev
noncomputable section
theorem ziW {m : Nat} (h : 0 < m) : (zw m).length = Nat.log2 m / 8 + 1 := by
  obtain ⟨h1, h2⟩ := zas h
  have h3 : m < 256 ^ (zw m).length := by
    have hb : ∀ (l : List UInt8), ze l 0 < 256 ^ l.length := by
      intro l
      induction l with
      | nil => simp [ze]
      | cons c l ih =>
        show ze l (0 * 256 + c.toNat) < 256 ^ (l.length + 1)
        rw [z37, Nat.pow_succ]
        have hc : c.toNat < 256 := c.toNat_lt
        have h4 : (c.toNat + 1) * 256 ^ l.length ≤ 256 * 256 ^ l.length := Nat.mul_le_mul_right _ hc
        rw [Nat.add_mul, Nat.one_mul] at h4
        rw [Nat.zero_mul, Nat.zero_add, Nat.mul_comm (256 ^ l.length)]
        omega
    have := hb (zw m)
    rwa [z4J] at this
  have hne : m ≠ 0 := by omega
  rw [p256] at h1 h3
  have a1 := (Nat.le_log2 hne).2 h1
  have a2 := (Nat.log2_lt hne).2 h3
  omega
def dgK (n : Nat) : Nat → (List D → Rs) → Rs :=
  Nat.rec (motive := fun _ => Nat → (List D → Rs) → Rs) (fun _ k => k []) (fun _ ih m k => frc (Nat.mod m B64) fun w => frc (Nat.div m B64) fun m => ih m fun r => k (.i .u64 (.ofNat w) :: r)) n
theorem znb : ∀ (n m : Nat) (k : List D → Rs), dgK n m k = k (c64 (dg n m))
  | 0, m, k => rfl
  | n + 1, m, k => by
    show frc (Nat.mod m B64) (fun w => frc (Nat.div m B64) fun m => dgK n m fun r => k (.i .u64 (.ofNat w) :: r)) = _
    rw [zC, zC, znb n]; rfl
def asM (d : D) : Option Nat := D.rec (motive_1 := fun _ => Option Nat) (motive_2 := fun _ => PUnit.{1}) none (fun _ _ => none) (fun _ => none) (fun _ => none) (fun m => some m) none none (fun _ _ _ _ => none) (fun _ _ _ _ => none) (fun _ _ _ _ _ _ => none) (fun _ _ => none) (fun _ _ => none) (fun _ _ => none) (fun _ _ => none) (fun _ _ _ => none) ⟨⟩ (fun _ _ _ _ => ⟨⟩) d
def z8F (d : D) (k : Nat → Rs) : Rs := ob (asM d) k
theorem z1b {d : D} {k : Nat → Rs} {r : D} (h : z8F d k = some r) : ∃ m, d = .n m ∧ k m = some r := by
  cases d with
  | n m => exact ⟨m, rfl, h⟩
  | _ => cases h
def z85 (as : List D) : Option D :=
  u1 as fun a r => u0 r (z8F a fun m => cnd (Nat.beq m 0) (some (.tree [] 0 true)) (cnd (Nat.ble (Nat.log2 m) 1000000000) (frc (Nat.succ (Nat.div (Nat.log2 m) 64)) fun W => dgK W m fun ds => some (.own ds W 1)) none))
theorem zl0 : z6W 5 [.n 0] = some (.tree [] 0 true) := rfl
theorem z1r {as : List D} {k : D → List D → Rs} {r : D} (h : u1 as k = some r) : ∃ a as', as = a :: as' ∧ k a as' = some r := by
  cases as with
  | nil => cases h
  | cons a as' => exact ⟨a, as', rfl, h⟩
theorem z4m {as : List D} {x : Rs} {r : D} (h : u0 as x = some r) : as = [] ∧ x = some r := by
  cases as with
  | nil => exact ⟨rfl, h⟩
  | cons a as' => cases h
theorem zl1 {as : List D} {r : D} (h : z85 as = some r) : ∃ φ, z6W φ as = some r := by
  obtain ⟨a, as', rfl, h⟩ := z1r h
  obtain ⟨rfl, h⟩ := z4m h
  obtain ⟨m, rfl, h⟩ := z1b h
  · by_cases hm : m = 0
    · subst hm
      have h : some (D.tree [] 0 true) = some r := h
      exact ⟨5, by rw [zl0, h]⟩
    · have h : cnd (Nat.beq m 0) (some (.tree [] 0 true)) (cnd (Nat.ble (Nat.log2 m) 1000000000) (frc (Nat.succ (Nat.div (Nat.log2 m) 64)) fun W => dgK W m fun ds => some (.own ds W 1)) none) = some r := h
      rw [z4Z hm, zM] at h
      obtain ⟨h1, h2⟩ := zt h
      have h1 := Nat.le_of_ble_eq_true h1
      rw [zC, znb] at h2
      have hl := ziW (show 0 < m by omega)
      have hW : Nat.succ (Nat.div (Nat.log2 m) 64) = ((zw m).length + 7) / 8 := by
        show Nat.log2 m / 64 + 1 = _
        rw [hl]; omega
      refine ⟨(zw m).length + 1, ?_⟩
      rw [zlz (show 0 < m by omega) rfl hW (by omega) (Nat.lt_succ_self _)]
      exact h2
def valK (cs : List D) : (Nat → Nat → Rs) → Rs :=
  List.rec (motive := fun _ => (Nat → Nat → Rs) → Rs) (fun k => k 0 0) (fun d _ ih k => on64 d fun w => cnd (Nat.blt w B64) (ih fun v n => frc (Nat.add w (Nat.mul B64 v)) fun v => frc (Nat.succ n) fun n => k v n) none) cs
theorem ziF {r : D} : ∀ {cs : List D} {k : Nat → Nat → Rs}, valK cs k = some r → ∃ ws, cs = c64 ws ∧ z4O ws ∧ k (val ws) ws.length = some r
  | [], k, h => ⟨[], rfl, fun w hw => (by cases hw), h⟩
  | d :: cs, k, h => by
    have h : (on64 d fun w => cnd (Nat.blt w B64) (valK cs fun v n => frc (Nat.add w (Nat.mul B64 v)) fun v => frc (Nat.succ n) fun n => k v n) none) = some r := h
    obtain ⟨w, rfl, h1⟩ := z6y h
    obtain ⟨h2, h3⟩ := zt h1
    obtain ⟨ws, rfl, h4, h5⟩ := ziF h3
    rw [zC, zC] at h5
    have h2 : w < B64 := by simpa [Nat.blt_eq] using h2
    refine ⟨w :: ws, rfl, fun x hx => ?_, h5⟩
    rcases List.mem_cons.1 hx with rfl | hx
    · exact h2
    · exact h4 x hx
def zaq (as : List D) : Option D :=
  u1 as fun a r => u0 r (onSl a (fun _ _ _ _ _ _ => none) (fun cs len _ => valK cs fun v n => cnd (Nat.beq n len) (cnd (Nat.ble len 1000000000) (some (.n v)) none) none) none)
theorem zlV {as : List D} {r : D} (h : zaq as = some r) : ∃ φ, z9U φ as = some r := by
  obtain ⟨a, as', rfl, h⟩ := z1r h
  obtain ⟨rfl, h⟩ := z4m h
  rcases z6x h with ⟨l, off, len, cm, z, ex, rfl, h1⟩ | ⟨cs, len, ex, rfl, h1⟩
  · cases h1
  · obtain ⟨ws, rfl, h2, h3⟩ := ziF h1
    obtain ⟨h4, h5⟩ := zt h3
    obtain ⟨h6, h7⟩ := zt h5
    have h4 := Nat.eq_of_beq_eq_true h4
    have h6 := Nat.le_of_ble_eq_true h6
    exact ⟨8 * len + 9, by rw [znL h2 h4 (by omega) (by omega)]; exact h7⟩
end
end Go.Proofs.Ev
namespace Go.Proofs.Ev
variable {P : Program} {im : Nat → Option Nat}
def zow (P : Program) (im : Nat → Option Nat) (fn : Func) (c : Code) (e : Env) : Prop :=
  ∃ e' σ' d, run .nil 20 (.code (z4G P im fn.ntmps c) e Sto.empty) = some (.code .ret e' σ') ∧ z95 e' σ' (fn.results.toList.map (cRes P)) = some d ∧ extr false σ'.get z2N d = some (.tree [] 0 true)
theorem zjW (hm : P.follows .mixedOrders = true) {F : FuncId} {fn : Func} (hf : P.funcs[F]? = some fn) {c0 cT cB : Code} {id : Nat} {ops : Array Oper} {o0 o1 : Oper} {t el yt : TypeId}
    (hb : fn.body = some (.seq c0 (.seq (.seq (.region id ops false) (.cond (.tmp 4) cT .skip)) cB)))
    (hops : ops.toList = [o0, o1]) (g0 : o0.guard = none) (g1 : o1.guard = none) (d0 : o0.dst = some 3) (d1 : o1.dst = some 4) (p0 : o0.op = .move (.tmp 0))
    (p1 : o1.op = .binOp .eql t (.tmp 3) (.const (.slice none 0 0)) yt) (hu : P.underlying t = some (.slice el)) (hnt : 5 ≤ fn.ntmps % zeQ)
    (hok : fn.results.toList.all (ziP P) = true) {ex : Bool} {e0 : Env}
    (r0 : run .nil 20 (.code (z4G P im fn.ntmps c0) (zay .nil 0 [.tree [] 0 ex]) Sto.empty) = some (.code .nrm e0 Sto.empty)) (he0 : e0.get 0 = some (.tree [] 0 ex))
    (rT : zow P im fn cT ((e0.set 3 (.tree [] 0 ex)).set 4 (.b true))) (rB : zow P im fn cB ((e0.set 3 (.tree [] 0 ex)).set 4 (.b false))) :
    Snd1 P im F [.tree [] 0 ex] (.tree [] 0 true) := by
  intro vs w okp hT hbk
  have hC : ziD P im .nil 20 := (ziL hm ⟨fun F f en _ h => (by cases h)⟩ 20).1
  refine calls_of_wp hf hb ?_
  generalize hQ : bodyPost P fn (fun e w' => match e with
      | .returned v => RR im okp w w' (.tree [] 0 true) v
      | .outgrown => False
      | .panicked _ => False) = Q
  have fin : ∀ (c : Code) (e : Env), zow P im fn c e → ∀ (a : Act) (w1 : World), St im fn.ntmps okp w.heap.size Sto.empty.get (fun _ => (0, 0)) w okp e Sto.empty a w1 → ∀ Q' : Exit → Act → World → Prop, (∀ a w, Q .ret a w → Q' .ret a w) → c.wp P Q' a w1 := by
    intro c e ⟨e', σ', d, h1, h2, h3⟩ a w1 hst Q' hQ'
    refine hC _ _ _ _ _ _ _ _ (zi6 P im _ c) h1 okp w.heap.size Sto.empty.get (fun _ => (0, 0)) w okp a w1 Q' hst ?_
    intro a' w' ⟨q1, q2, q3, μ, ok, R, hE, hS⟩
    refine hQ' a' w' ?_
    obtain ⟨v, v1, v2⟩ := zdG R hE rfl hok h2
    have hq := zn3 R (fun b hb => hS.low b hb) hS.sm h3 v2
    rw [← hQ]
    exact ⟨q2, v, v1, hq⟩
  have hst0 : St im fn.ntmps okp w.heap.size Sto.empty.get (fun _ => (0, 0)) w okp (zay .nil 0 [.tree [] 0 ex]) Sto.empty { tmps := vs.toArray ++ Array.replicate (fn.ntmps - vs.toArray.size) undef, defers := [] } w :=
    ⟨fun l _ => rfl, rfl, Nat.le_trans (Nat.mod_le _ _) (by simp; omega), fun _ => (0, 0), okp, Rel.empty hbk _, EnvR.args (z7H _ _ hT) _, .refl ..⟩
  refine wp_seq (hC _ _ _ _ _ _ _ _ (zi6 P im _ c0) r0 okp w.heap.size Sto.empty.get (fun _ => (0, 0)) w okp _ w _ hst0 ?_)
  intro a1 w1 ⟨s1, s2, s3, μ, ok, R, hE, hS⟩
  refine wp_seq (wp_seq (wp_region_list ?_))
  rw [hops]
  have wanted : ∀ (o : Oper) (a : Act), o.guard = none → Region.wanted o (yielded ops a.tmps) = true := by
    intro o a ho
    unfold Region.wanted
    rw [ho]
  unfold wpList
  rw [if_pos (wanted o0 a1 g0)]
  refine .inl ?_
  have hA0 : evA Sto.empty.nx (X.ev e0) Sto.empty.get (cOp P im o0.op) = some (.tree [] 0 ex, []) := by
    rw [p0]
    simp only [cOp, evA, cX, X.ev, he0]
  refine (z9e R hE _ _ hA0 (fun j hj => by simp at hj)).wp (fun v w2 ⟨μ2, ok2, R2, n3, hv⟩ => ?_)
  rw [d0]
  have hE2 : EnvR im Sto.empty.get μ2 w2 ok2 (e0.set 3 (.tree [] 0 ex)) (a1.put (some 3) v).tmps := EnvR.put (dst := some 3) (e := e0) (hE.step n3) (fun t ht => (by cases ht; omega)) hv
  unfold wpList
  rw [if_pos (wanted o1 _ g1)]
  refine .inl ?_
  have hx : VR im Sto.empty.get μ2 w2 ok2 (.tree [] 0 ex) ((a1.put (some 3) v).eval (.tmp 3)) := by
    have := hE2 3
    have h3 : X.ev (e0.set 3 (.tree [] 0 ex)) (.t 3) = .tree [] 0 ex := by
      show (match (e0.set 3 (.tree [] 0 ex)).get 3 with | some d => d | none => .u) = _
      rw [Tr.get_set, if_pos rfl]
    rw [h3] at this
    exact this
  simp only [VR, TR] at hx
  obtain ⟨p, cap, hv3, _, _, _⟩ := hx
  have hdone : Done im Sto.empty.get μ2 w2 ok2 okp w.heap.size (addG Sto.empty.get Sto.empty.nx []) (.b p.isNone) ((execOp (a1.put (some 3) v).eval o1).run P w2) := by
    have ey : (a1.put (some 3) v).eval (.const (.slice none 0 0)) = .slice none 0 0 := rfl
    have hg : (eqGuard .eql t (.tmp 3) (.const (.slice none 0 0)) (.slice p 0 cap) (.slice none 0 0)).run P w2 = .ok () w2 := by simp [eqGuard]
    have h1 := run_equal_slice_nil (P := P) w2 t el p 0 cap hu
    refine zR (nx := Sto.empty.nx) (v := .bool p.isNone) R2 (s := do eqGuard .eql t (.tmp 3) (.const (.slice none 0 0)) ((a1.put (some 3) v).eval (.tmp 3)) ((a1.put (some 3) v).eval (.const (.slice none 0 0))); binOp .eql t ((a1.put (some 3) v).eval (.tmp 3)) ((a1.put (some 3) v).eval (.const (.slice none 0 0)))) (by simp only [execOp, p1]) ?_ (by simp [VR])
    rw [hv3, ey]
    simp only [Sem.run_bind, hg, Result.andThen_ok]
    simp [binOp, h1]
  refine hdone.wp (fun v4 w3 ⟨μ3, ok3, R3, n4, hv4⟩ => ?_)
  rw [d1]
  unfold wpList
  have hE3 : EnvR im Sto.empty.get μ3 w3 ok3 ((e0.set 3 (.tree [] 0 ex)).set 4 (.b p.isNone)) ((a1.put (some 3) v).put (some 4) v4).tmps := EnvR.put (dst := some 4) (e := e0.set 3 (.tree [] 0 ex)) (hE2.step n4) (fun t ht => (by cases ht; rw [z61]; omega)) hv4
  have hst3 : St im fn.ntmps okp w.heap.size Sto.empty.get (fun _ => (0, 0)) w okp ((e0.set 3 (.tree [] 0 ex)).set 4 (.b p.isNone)) Sto.empty ((a1.put (some 3) v).put (some 4) v4) w3 :=
    ⟨s1, by rw [z42, z42]; exact s2, by rw [z61, z61]; exact s3, μ3, ok3, R3, hE3, (hS.trans n3).trans n4⟩
  have h4 : ((a1.put (some 3) v).put (some 4) v4).eval (.tmp 4) = .bool p.isNone := by
    have := hE3 4
    have h5 : X.ev ((e0.set 3 (.tree [] 0 ex)).set 4 (.b p.isNone)) (.t 4) = .b p.isNone := by
      show (match ((e0.set 3 (.tree [] 0 ex)).set 4 (.b p.isNone)).get 4 with | some d => d | none => .u) = _
      rw [Tr.get_set, if_pos rfl]
    rw [h5] at this
    simp only [VR] at this
    exact this
  cases hp : p.isNone with
  | true =>
    rw [hp] at h4 hst3
    exact wp_cond_true h4 (fin cT _ rT _ _ hst3 _ (fun _ _ h => h))
  | false =>
    rw [hp] at h4 hst3
    exact wp_cond_false h4 (wp_skip (fin cB _ rB _ _ hst3 _ (fun _ _ h => h)))
def bod (fn : Func) : Code := match fn.body with
  | some c => c
  | none => .skip
def seqA : Code → Code
  | .seq a _ => a
  | c => c
def seqB : Code → Code
  | .seq _ b => b
  | c => c
def cndA : Code → Code
  | .cond _ a _ => a
  | c => c
def regO : Code → Array Oper
  | .region _ ops _ => ops
  | _ => #[]
def regI : Code → Nat
  | .region id _ _ => id
  | _ => 0
def clR (fn : Func) : Code := seqA (seqA (seqB (bod fn)))
def clC (fn : Func) : Code := seqB (seqA (seqB (bod fn)))
def clO (fn : Func) (i : Nat) : Oper := ((regO (clR fn)).toList[i]?).getD default
def clT (fn : Func) : TypeId × TypeId := match (clO fn 1).op with
  | .binOp _ t _ _ yt => (t, yt)
  | _ => (0, 0)
def clE (P : Program) (fn : Func) : TypeId := match P.underlying (clT fn).1 with
  | some (.slice el) => el
  | _ => 0
def cl0 (ex : Bool) : Env := Tr.set (zay .nil 0 [.tree [] 0 ex]) 2 (.tree [] 0 true)
def endE (P : Program) (im : Nat → Option Nat) (fn : Func) (c : Code) (e : Env) : Option D :=
  match run .nil 20 (.code (z4G P im fn.ntmps c) e Sto.empty) with
  | some (.code x e' σ') => match x with
    | .ret => match z95 e' σ' (fn.results.toList.map (cRes P)) with
      | some d => extr false σ'.get z2N d
      | none => none
    | _ => none
  | _ => none
theorem zjf {fn : Func} {c : Code} {e : Env} (h : endE P im fn c e = some (.tree [] 0 true)) : zow P im fn c e := by
  unfold endE at h
  split at h
  · rename_i x e' σ' hr
    split at h
    · split at h
      · rename_i d hd
        exact ⟨e', σ', d, hr, hd, h⟩
      · cases h
    · cases h
  · cases h
theorem zak (hm : P.follows .mixedOrders = true) {F : FuncId} {fn : Func} (hf : P.funcs[F]? = some fn)
    (hb : fn.body = some (.seq (seqA (bod fn)) (.seq (.seq (.region (regI (clR fn)) (regO (clR fn)) false) (.cond (.tmp 4) (cndA (clC fn)) .skip)) (seqB (seqB (bod fn))))))
    (hops : (regO (clR fn)).toList = [clO fn 0, clO fn 1])
    (hd : ((clO fn 0).guard, (clO fn 1).guard, (clO fn 0).dst, (clO fn 1).dst) = (none, none, some 3, some 4)) (p0 : (clO fn 0).op = .move (.tmp 0))
    (p1 : (clO fn 1).op = .binOp .eql (clT fn).1 (.tmp 3) (.const (.slice none 0 0)) (clT fn).2) (hu : P.underlying (clT fn).1 = some (.slice (clE P fn))) (hnt : Nat.ble 5 (fn.ntmps % zeQ) = true)
    (hok : fn.results.toList.all (ziP P) = true)
    (r0 : (fun ex => run .nil 20 (.code (z4G P im fn.ntmps (seqA (bod fn))) (zay .nil 0 [.tree [] 0 ex]) Sto.empty)) = fun ex => some (.code .nrm (cl0 ex) Sto.empty))
    (rT : (fun ex => endE P im fn (cndA (clC fn)) (((cl0 ex).set 3 (.tree [] 0 ex)).set 4 (.b true))) = fun _ => some (.tree [] 0 true))
    (rB : (fun ex => endE P im fn (seqB (seqB (bod fn))) (((cl0 ex).set 3 (.tree [] 0 ex)).set 4 (.b false))) = fun _ => some (.tree [] 0 true)) (ex : Bool) :
    Snd1 P im F [.tree [] 0 ex] (.tree [] 0 true) := by
  simp only [Prod.mk.injEq] at hd
  exact zjW hm hf hb hops hd.1 hd.2.1 hd.2.2.1 hd.2.2.2 p0 p1 hu (Nat.le_of_ble_eq_true hnt) hok (congrFun r0 ex) rfl (zjf (congrFun rT ex)) (zjf (congrFun rB ex))
noncomputable section
def z8w (R : List D → Option D) (as : List D) : Option D :=
  u1 as fun a r => u0 r (onSl a (fun _ _ _ _ _ _ => none) (fun cs len ex => List.rec (motive := fun _ => Rs) (cnd (Nat.beq len 0) (some (.tree [] 0 true)) none) (fun _ _ _ => R [a]) cs) none)
theorem znd {F : FuncId} {R : List D → Option D} (hR : Snd P im F R) (h : ∀ ex, Snd1 P im F [.tree [] 0 ex] (.tree [] 0 true)) : Snd P im F (z8w R) := by
  intro as r hr
  obtain ⟨a, as', rfl, h1⟩ := z1r hr
  obtain ⟨rfl, h2⟩ := z4m h1
  rcases z6x h2 with ⟨l, off, len, cm, z, ex, rfl, h3⟩ | ⟨cs, len, ex, rfl, h3⟩
  · cases h3
  · cases cs with
    | nil =>
      have h3 : cnd (Nat.beq len 0) (some (D.tree [] 0 true)) none = some r := h3
      obtain ⟨h4, h5⟩ := zt h3
      have := Nat.eq_of_beq_eq_true h4
      subst this
      cases h5
      exact h ex
    | cons c cs => exact hR _ _ h3
end
end Go.Proofs.Ev
namespace Go.Proofs.Ev
noncomputable section
theorem zqe {kk : IntKind} {a b : Nat} {k : D → Rs} (ha : a ≤ kmax kk) (hb : b ≤ kmax kk) : kAnd (.i kk (.ofNat a)) (.i kk (.ofNat b)) k = k (.i kk (.ofNat (a &&& b))) := by
  unfold kAnd inK; rw [zbR, Nat.ble_eq_true_of_le ha, Nat.ble_eq_true_of_le hb, zx, zx, zC]; rfl
theorem zpm {a b : Nat} {k : D → Rs} : kMul (.i .u64 (.ofNat a)) (.i .u64 (.ofNat b)) k = k (.i .u64 (.ofNat (a * b % B64))) := by
  unfold kMul; rw [zbR]; exact zoE
theorem zqz (a : Nat) : a &&& 4294967295 = a % 4294967296 := Nat.and_two_pow_sub_one_eq_mod a 32
theorem m32 : (4294967295 : Nat) ≤ kmax .u64 := Nat.le_of_ble_eq_true rfl
theorem zjL {x : Nat} {K : D → Rs} (h : x < 18446744073709551616) : kAnd (.i .u64 (.ofNat x)) (.i .u64 (.ofNat 4294967295)) K = K (.i .u64 (.ofNat (x % 4294967296))) := by rw [zqe (Nat.le_of_lt_succ h) m32, zqz]
theorem zhW {a b : Nat} {K : D → Rs} (h : a + b < 18446744073709551616) : kAdd (.i .u64 (.ofNat a)) (.i .u64 (.ofNat b)) K = K (.i .u64 (.ofNat (a + b))) := z3T (Nat.le_of_lt_succ h)
theorem zhR {a b : Nat} {K : D → Rs} (h : a * b < 18446744073709551616) : kMul (.i .u64 (.ofNat a)) (.i .u64 (.ofNat b)) K = K (.i .u64 (.ofNat (a * b))) := zf6 (Nat.le_of_lt_succ h)
theorem ziJ {a : Nat} {k : D → Rs} : kShr (.i .u64 (.ofNat a)) (.i .u64 (.ofNat 32)) k = k (.i .u64 (.ofNat (a / 4294967296))) := zmq (by decide)
theorem zqk (L M : Nat) (hM : L * L = M) (x1 x0 y1 y0 : Nat) : (x1 * L + x0) * (y1 * L + y0) = x1 * y1 * M + (x1 * y0 + x0 * y1) * L + x0 * y0 := by
  subst hM
  simp only [Nat.add_mul, Nat.mul_add]
  have a1 : x1 * L * (y1 * L) = x1 * y1 * (L * L) := by rw [Nat.mul_assoc, Nat.mul_left_comm L, ← Nat.mul_assoc x1]
  have a2 : x1 * L * y0 = x1 * y0 * L := by rw [Nat.mul_assoc, Nat.mul_comm L, ← Nat.mul_assoc]
  have a3 : x0 * (y1 * L) = x0 * y1 * L := by rw [Nat.mul_assoc]
  rw [a1, a2, a3]
  omega
theorem zm8 {x y φ : Nat} (hx : x < B64) (hy : y < B64) : z5p φ [n64 x, n64 y] = some (.tup [n64 (x * y / B64), n64 (x * y % B64)]) := by
  have hx' : x < 18446744073709551616 := hx
  have hy' : y < 18446744073709551616 := hy
  have hx0 : x % 4294967296 ≤ 4294967295 := by omega
  have hx1 : x / 4294967296 ≤ 4294967295 := by omega
  have hy0 : y % 4294967296 ≤ 4294967295 := by omega
  have hy1 : y / 4294967296 ≤ 4294967295 := by omega
  have ha := Nat.mul_le_mul hx0 hy0
  have hb := Nat.mul_le_mul hx1 hy0
  have hc := Nat.mul_le_mul hx0 hy1
  have hd := Nat.mul_le_mul hx1 hy1
  have hP : x * y = (x / 4294967296) * (y / 4294967296) * B64 + ((x / 4294967296) * (y % 4294967296) + (x % 4294967296) * (y / 4294967296)) * 4294967296 + (x % 4294967296) * (y % 4294967296) := by
    have e := zqk 4294967296 B64 rfl (x / 4294967296) (x % 4294967296) (y / 4294967296) (y % 4294967296)
    rw [show x / 4294967296 * 4294967296 + x % 4294967296 = x by omega, show y / 4294967296 * 4294967296 + y % 4294967296 = y by omega] at e
    exact e
  have hhi : x * y / B64 = (x / 4294967296) * (y / 4294967296) + ((x / 4294967296) * (y % 4294967296) + (x % 4294967296) * (y % 4294967296) / 4294967296) / 4294967296 + (((x / 4294967296) * (y % 4294967296) + (x % 4294967296) * (y % 4294967296) / 4294967296) % 4294967296 + (x % 4294967296) * (y / 4294967296)) / 4294967296 := by
    rw [hP]
    generalize (x / 4294967296) * (y / 4294967296) = d at *
    generalize (x / 4294967296) * (y % 4294967296) = b at *
    generalize (x % 4294967296) * (y / 4294967296) = c at *
    generalize (x % 4294967296) * (y % 4294967296) = a at *
    show (d * 18446744073709551616 + (b + c) * 4294967296 + a) / 18446744073709551616 = _
    omega
  rw [hhi]
  clear hhi hP
  have t0 : (x % 4294967296) * (y % 4294967296) < 18446744073709551616 := by omega
  have tb : (x / 4294967296) * (y % 4294967296) < 18446744073709551616 := by omega
  have tc : (x % 4294967296) * (y / 4294967296) < 18446744073709551616 := by omega
  have td : (x / 4294967296) * (y / 4294967296) < 18446744073709551616 := by omega
  have t1 : (x / 4294967296) * (y % 4294967296) + (x % 4294967296) * (y % 4294967296) / 4294967296 < 18446744073709551616 := by omega
  have t2 : ((x / 4294967296) * (y % 4294967296) + (x % 4294967296) * (y % 4294967296) / 4294967296) % 4294967296 + (x % 4294967296) * (y / 4294967296) < 18446744073709551616 := by omega
  have t3 : (x / 4294967296) * (y / 4294967296) + ((x / 4294967296) * (y % 4294967296) + (x % 4294967296) * (y % 4294967296) / 4294967296) / 4294967296 < 18446744073709551616 := by omega
  have t4 : (x / 4294967296) * (y / 4294967296) + ((x / 4294967296) * (y % 4294967296) + (x % 4294967296) * (y % 4294967296) / 4294967296) / 4294967296 + (((x / 4294967296) * (y % 4294967296) + (x % 4294967296) * (y % 4294967296) / 4294967296) % 4294967296 + (x % 4294967296) * (y / 4294967296)) / 4294967296 < 18446744073709551616 := by omega
  unfold z5p n64
  simp only [z6u, zad]
  refine (zjL hx').trans ?_
  refine ziJ.trans ?_
  refine (zjL hy').trans ?_
  refine ziJ.trans ?_
  refine (zhR t0).trans ?_
  refine (zhR tb).trans ?_
  refine ziJ.trans ?_
  refine (zhW t1).trans ?_
  refine (zjL t1).trans ?_
  refine ziJ.trans ?_
  refine (zhR tc).trans ?_
  refine (zhW t2).trans ?_
  refine (zhR td).trans ?_
  refine (zhW t3).trans ?_
  refine ziJ.trans ?_
  refine (zhW t4).trans ?_
  refine zpm.trans ?_
  rfl
def zdc (as : List D) : Option D :=
  u1 as fun a r => u1 r fun b r => u0 r (on64 a fun x => on64 b fun y => cnd (Nat.blt x B64) (cnd (Nat.blt y B64) (frc (Nat.mul x y) fun p => frc (Nat.div p B64) fun hi => frc (Nat.mod p B64) fun lo => some (.tup [.i .u64 (.ofNat hi), .i .u64 (.ofNat lo)])) none) none)
theorem zlc {as : List D} {r : D} (h : zdc as = some r) : ∃ φ, z5p φ as = some r := by
  obtain ⟨a, as1, h1, h2⟩ := z1r h
  obtain ⟨b, as2, h3, h4⟩ := z1r h2
  obtain ⟨h5, h6⟩ := z4m h4
  obtain ⟨x, h7, h8⟩ := z6y h6
  obtain ⟨y, h9, h10⟩ := z6y h8
  obtain ⟨hx, h11⟩ := zt h10
  obtain ⟨hy, h12⟩ := zt h11
  have hx : x < B64 := by simpa [Nat.blt_eq] using hx
  have hy : y < B64 := by simpa [Nat.blt_eq] using hy
  simp only [zC] at h12
  subst h1 h3 h5 h7 h9
  exact ⟨0, (zm8 hx hy).trans h12⟩
end
end Go.Proofs.Ev
namespace Go.Proofs.Ev
noncomputable section
variable {s : LS} {l off len cm z i n : Nat} {ex : Bool} {b : Blk} {d : D} {kk k2 : IntKind} {K : D → LS → Rs}
theorem z9a (hg : s.get l = some b) (hl : b.st.live = true) (hi : i < len) : z1 z s (.sl l off len cm z ex) (.i k2 (.ofNat i)) K = K (.ptr l (off + i * z)) s := by
  show kGet s l (fun b => cnd (lv b.st) (cnd (Nat.blt i len) (cnd (Nat.beq z z) (frc (Nat.add off (Nat.mul i z)) fun o => K (.ptr l o) s) none) none) none) = _
  rw [z5F, hg]
  show cnd (lv b.st) (cnd (Nat.blt i len) (cnd (Nat.beq z z) (frc (Nat.add off (Nat.mul i z)) fun o => K (.ptr l o) s) none) none) none = _
  rw [zjI, hl, zy hi, z2R, zx, zx, zx, zC]
  rfl
theorem zeS (hg : s.get l = some b) (hl : b.st.live = true) (hd : b.cs[i]? = some d) : z4 s (.ptr l i) K = K d s := by
  show kGet s l (fun b => cnd (lv b.st) (nthK i b.cs fun d => K d s) none) = _
  rw [z5F, hg]
  show cnd (lv b.st) (nthK i b.cs fun d => K d s) none = _
  rw [zjI, hl, zx, zhE, hd]
  rfl
theorem zmN (hg : s.get l = some b) : l < s.nx := by
  unfold LS.get at hg
  split at hg
  · assumption
  · cases hg
theorem zhP (hg : s.get l = some b) (b' : Blk) (k : LS → Rs) : kPut s l b' k = k (s.put l b') := zkw s l b' k
theorem z8i (hg : s.get l = some b) (b' : Blk) (m : Nat) : (s.put l b').get m = if m = l then some b' else s.get m := LS.get_put hg b' m
theorem zeO (hs : s.fit) (b' : Blk) (m : Nat) : (s.push b').get m = if m = s.nx then some b' else s.get m := LS.get_push s b' m
theorem zld (hs : s.fit) (b' : Blk) : (s.push b').fit ∧ (s.push b').nx = s.nx + 1 := ⟨rfl, rfl⟩
theorem zcD (hg : s.get l = some b) (hw : b.st.wr = true) (hi : i < b.cs.length) : z6 1 s (.ptr l i) (.i kk (.ofNat n)) K = K .u (s.put l ⟨b.cs.set i (.i kk (.ofNat n)), .rw⟩) := by
  show kGet s l (fun b => cnd (wr b.st) (layK i [.i kk (.ofNat n)] b.cs fun cs' => kPut s l ⟨cs', .rw⟩ fun s => K .u s) none) = _
  rw [z5F, hg]
  show cnd (wr b.st) (layK i [.i kk (.ofNat n)] b.cs fun cs' => kPut s l ⟨cs', .rw⟩ fun s => K .u s) none = _
  rw [zq0, hw, zx, zbV, zks hi]
  show kPut s l _ _ = _
  rw [zhP hg]
theorem zmt {bytes : Nat} {z : D} (h1 : n ≤ 140737488355328) (h2 : n * bytes ≤ 140737488355328) : z24 1 bytes [z] s (.i .i64 (.ofNat n)) (.i .i64 (.ofNat n)) K = K (.sl s.nx 0 n n 1 true) (s.push ⟨List.replicate n z, .rw⟩) := by
  unfold z24
  rw [zbR]
  show cnd (Nat.ble n n) (cnd (Nat.ble n 140737488355328) (cnd (Nat.ble (Nat.mul n bytes) 140737488355328) (zfB [z] n fun cs => zat s ⟨cs, .rw⟩ fun s' => K (.sl s.nx 0 n n 1 true) s') none) none) none = _
  rw [Nat.ble_eq_true_of_le (Nat.le_refl n), Nat.ble_eq_true_of_le h1, Nat.ble_eq_true_of_le (show Nat.mul n bytes ≤ 140737488355328 from h2)]
  simp only [zx]
  rw [zab, zfz, z3B]
end
end Go.Proofs.Ev
namespace Go.Proofs.Ev
noncomputable section
variable {s : LS} {K : D → LS → Rs}
inductive Hold (s : LS) : D → List Nat → Prop
  | nil : Hold s (.tree [] 0 true) []
  | sl {l cm : Nat} {ex : Bool} {ws : List Nat} (hg : s.get l = some ⟨c64 ws, .rw⟩) : Hold s (.sl l 0 ws.length cm 1 ex) ws
theorem z8u {x : D} {ws : List Nat} (h : Hold s x ws) : kLen x s K = K (.i .i64 (.ofNat ws.length)) s := by
  cases h <;> rfl
theorem zcE {x : D} {ws : List Nat} {i w : Nat} {k2 : IntKind} (h : Hold s x ws) (hi : ws[i]? = some w) : (z1 1 s x (.i k2 (.ofNat i)) fun a s => z4 s a K) = K (n64 w) s := by
  cases h with
  | nil => cases hi
  | sl hg =>
    have hlt : i < ws.length := (List.getElem?_eq_some_iff.1 hi).1
    refine (z9a hg rfl hlt).trans ?_
    refine zeS hg rfl ?_
    rw [show 0 + i * 1 = i by omega]
    exact zaw hi
theorem zhL {n : Nat} : ∀ {ws : List Nat} {kk : List D → List Nat → Rs}, mapK (resK s (n + 1)) (c64 ws) kk = kk (c64 ws) []
  | [], kk => rfl
  | w :: ws, kk => by
    show mapK (resK s (n + 1)) (c64 ws) (fun ys b => kk (n64 w :: ys) b) = _
    rw [zhL]; rfl
theorem znJ {x : D} {ws : List Nat} {n : Nat} (h : Hold s x ws) : ∃ ex ls, ∀ kk, resK s (n + 2) x kk = kk (.tree (c64 ws) ws.length ex) ls := by
  cases h with
  | nil => exact ⟨true, [], fun kk => rfl⟩
  | @sl l cm ex ws hg =>
    refine ⟨cnd ex (Nat.beq cm ws.length) false, [l], fun kk => ?_⟩
    show (kGet s l fun b => cnd (lv b.st) (z8V 0 b.cs fun r => z9W (Nat.mul ws.length 1) r fun r => mapK (resK s (n + 1)) r fun cs ls => frcB (cnd ex (Nat.beq cm ws.length) false) fun ex => kk (.tree cs ws.length ex) (l :: ls)) none) = _
    rw [z5F, hg]
    show (z8V 0 (c64 ws) fun r => z9W (Nat.mul ws.length 1) r fun r => mapK (resK s (n + 1)) r fun cs ls => frcB (cnd ex (Nat.beq cm ws.length) false) fun ex => kk (.tree cs ws.length ex) (l :: ls)) = _
    have hlen : (c64 ws).length = ws.length := by simp [c64]
    rw [z34, z9E, show Nat.mul ws.length 1 = ws.length from Nat.mul_one _, List.drop_zero, if_pos (by omega), List.take_of_length_le (by omega), zhL, z66]
theorem zka : ∀ {ws : List Nat} {k : Nat → Nat → Rs}, z4O ws → valK (c64 ws) k = k (val ws) ws.length
  | [], k, h => rfl
  | w :: ws, k, h => by
    show cnd (Nat.blt w B64) (valK (c64 ws) fun v n => frc (Nat.add w (Nat.mul B64 v)) fun v => frc (Nat.succ n) fun n => k v n) none = _
    rw [zy (h w (List.mem_cons_self ..)), zx, zka fun x hx => h x (List.mem_cons_of_mem _ hx), zC, zC]
    rfl
theorem zhe {ws : List Nat} {ex : Bool} (h : z4O ws) (hl : ws.length ≤ 1000000000) : zaq [.tree (c64 ws) ws.length ex] = some (.n (val ws)) := by
  show (valK (c64 ws) fun v n => cnd (Nat.beq n ws.length) (cnd (Nat.ble ws.length 1000000000) (some (.n v)) none) none) = _
  rw [zka h, z2R, Nat.ble_eq_true_of_le hl]
  rfl
theorem zkA {x : D} {ws : List Nat} (hx : Hold s x ws) (h : z4O ws) (hl : ws.length ≤ 1000000000) : isoK zaq [x] s K = K (.n (val ws)) s := by
  obtain ⟨ex, ls, hr⟩ := znJ (n := 58) hx
  show resK s 60 x (fun y a => appK a [] fun ab => ob (zaq [y]) fun r => finK s ab r K) = _
  rw [hr, z7G, zhe h hl]
  rfl
structure More (s s' : LS) : Prop where
  old : ∀ l b, s.get l = some b → s'.get l = some b
  len : s.fit → s'.fit
theorem More.refl (s : LS) : More s s := ⟨fun _ _ h => h, id⟩
theorem More.trans {s s' s'' : LS} (h : More s s') (h' : More s' s'') : More s s'' := ⟨fun l b g => h'.old l b (h.old l b g), fun g => h'.len (h.len g)⟩
theorem More.push (hs : s.fit) (b : Blk) : More s (s.push b) := by
  refine ⟨fun l b' h => ?_, fun h => (zld h b).1⟩
  rw [zeO hs, if_neg (by have := zmN h; omega)]
  exact h
theorem Hold.more {s s' : LS} (h : More s s') {x : D} {ws : List Nat} (hx : Hold s x ws) : Hold s' x ws := by
  cases hx with
  | nil => exact .nil
  | sl hg => exact .sl (h.old _ _ hg)
theorem zkP : ∀ (n m : Nat), z4O (dg n m)
  | 0, m => fun w hw => by cases hw
  | n + 1, m => fun w hw => by
    rcases List.mem_cons.1 hw with rfl | hw
    · exact Nat.mod_lt _ (by decide)
    · exact zkP n _ w hw
theorem zna : ∀ (n m : Nat), (dg n m).length = n
  | 0, m => rfl
  | n + 1, m => congrArg Nat.succ (zna n (m / B64))
theorem zox : ∀ (n m : Nat), m < B64 ^ n → val (dg n m) = m
  | 0, m, h => by
    have : m = 0 := by simpa using h
    subst this; rfl
  | n + 1, m, h => by
    show m % B64 + B64 * val (dg n (m / B64)) = m
    rw [zox n (m / B64) (Nat.div_lt_of_lt_mul (by rw [Nat.pow_succ, Nat.mul_comm] at h; exact h))]
    exact Nat.mod_add_div m B64
theorem z9c {m : Nat} (hs : s.fit) (hm : Nat.log2 m ≤ 1000000000) : ∃ x s' ws, (∀ K, isoK z85 [.n m] s K = K x s') ∧ Hold s' x ws ∧ z4O ws ∧ val ws = m ∧ ws.length ≤ Nat.log2 m / 64 + 1 ∧ More s s' ∧ (∀ l off len cm z ex, x = .sl l off len cm z ex → s.nx ≤ l) := by
  by_cases h0 : m = 0
  · subst h0
    exact ⟨.tree [] 0 true, s, [], fun K => rfl, .nil, fun w hw => (by cases hw), rfl, Nat.zero_le _, More.refl s, fun l off len cm z ex e => (by cases e)⟩
  · refine ⟨.sl s.nx 0 (dg (Nat.log2 m / 64 + 1) m).length (dg (Nat.log2 m / 64 + 1) m).length 1 false, s.push ⟨c64 (dg (Nat.log2 m / 64 + 1) m), .rw⟩, dg (Nat.log2 m / 64 + 1) m, fun K => ?_, ?_, zkP _ _, ?_, Nat.le_of_eq (zna _ _), More.push hs _, fun l off len cm z ex e => (by cases e; exact Nat.le_refl _)⟩
    · show (ob (cnd (Nat.beq m 0) (some (.tree [] 0 true)) (cnd (Nat.ble (Nat.log2 m) 1000000000) (frc (Nat.succ (Nat.div (Nat.log2 m) 64)) fun W => dgK W m fun ds => some (.own ds W 1)) none)) fun r => finK s [] r K) = _
      rw [z4Z h0, Nat.ble_eq_true_of_le hm, zM, zx, zC, znb, zna]
      show zat s ⟨c64 (dg (Nat.log2 m / 64 + 1) m), .rw⟩ (fun s' => K (.sl s.nx 0 (Nat.log2 m / 64 + 1) (Nat.log2 m / 64 + 1) 1 false) s') = _
      rw [z3B]
    · refine .sl ?_
      rw [zeO hs, if_pos rfl]
    · apply zox
      rw [ziE]
      refine Nat.lt_of_lt_of_le (Nat.lt_log2_self (n := m)) ?_
      exact Nat.pow_le_pow_right (by decide) (by omega)
end
end Go.Proofs.Ev
set_option maxRecDepth 1000000
set_option maxHeartbeats 0
namespace Go.Proofs.Ev
noncomputable section
def z2u (φ : Nat) : List D → Option D :=
fun as =>
(fun (s : LS) =>
 u1 as fun f F =>
 u1 F fun k G =>
 u0 G (
 kLen f s fun H s =>
 kLen k s fun I s =>
 kAdd H I fun l =>
 z24 1 8 [(.i .u64 (.ofNat 0))] s l l fun J s =>
 kLen f s fun K s =>
 lp (fun (_ _ _ _ _ : D) (_ : LS) => none) (fun (M : D → D → D → D → D → LS → Rs) (g m n o d : D) (s : LS) =>
 kLss d o fun N =>
 z5 N
(z1 1 s n d fun O s =>
 z4 s O fun P s =>
 kLen g s fun S s =>
 lp (fun (_ _ _ _ _ _ _ _ _ _ _ : D) (_ : LS) => none) (fun (U : D → D → D → D → D → D → D → D → D → D → D → LS → Rs) (h b e p u v w y z A c : D) (s : LS) =>
 kLss c A fun V =>
 z5 V
(z1 1 s z c fun W s =>
 z4 s W fun X s =>
 isoK zdc [p, X] s fun B s =>
 kExt B 0 s fun Y s =>
 kExt B 1 s fun Z s =>
 kAdd e c fun bb =>
 z1 1 s b bb fun bc s =>
 z4 s bc fun bd s =>
 z9b Z bd (.i .u64 (.ofNat 0)) s fun C s =>
 kExt C 0 s fun bf s =>
 kExt C 1 s fun bg s =>
 kAdd Y bg fun bh =>
 z9b bf u (.i .u64 (.ofNat 0)) s fun E s =>
 kExt E 0 s fun bi s =>
 kExt E 1 s fun bk s =>
 kAdd e c fun bl =>
 kAdd bh bk fun bm =>
 z1 1 s b bl fun bn s =>
 z6 1 s bn bi fun _ s =>
 kAdd c (.i .i64 (.ofNat 1)) fun bo =>
 U h b e p bm v w y z A bo s)
(kLen h s fun bp s =>
 kAdd e bp fun bu =>
 z1 1 s b bu fun bv s =>
 z6 1 s bv u fun _ s =>
 kAdd y (.i .i64 (.ofNat 1)) fun bw =>
 M h b v w bw s)) φ g m d P (.i .u64 (.ofNat 0)) n o d g S (.i .i64 (.ofNat 0)) s)
((zH φ) [m] s fun bz s =>
 retK false s bz some)) φ k J f K (.i .i64 (.ofNat 0)) s)) s0
def z80 (φ : Nat) : List D → Option D :=
fun as =>
(fun (s : LS) =>
 u1 as fun b c =>
 u1 c fun d e =>
 u0 e (
 isoK z85 [b] s fun f s =>
 isoK z85 [d] s fun g s =>
 isoK (z2u φ) [f, g] s fun h s =>
 isoK zaq [h] s fun i s =>
 retK false s i some)) s0
def z82 (φ : Nat) : List D → Option D :=
fun as =>
(fun (s : LS) =>
 u1 as fun y z =>
 u1 z fun A B =>
 u0 B (
 isoK z85 [y] s fun e s =>
 isoK z85 [A] s fun f s =>
 jn (fun (g C : D) (s : LS) =>
 kLen g s fun E s =>
 kAdd E (.i .i64 (.ofNat 1)) fun m =>
 z24 1 8 [(.i .u64 (.ofNat 0))] s m m fun F s =>
 kLen g s fun G s =>
 lp (fun (_ _ _ _ _ _ : D) (_ : LS) => none) (fun (H : D → D → D → D → D → D → LS → Rs) (h c d k l b : D) (s : LS) =>
 kLss b l fun I =>
 z5 I
(jn (fun (n J o K p M N O : D) (s : LS) =>
 z1 1 s n p fun P s =>
 z4 s P fun S s =>
 z9b S M K s fun u s =>
 kExt u 0 s fun U s =>
 kExt u 1 s fun V s =>
 z1 1 s o p fun W s =>
 z6 1 s W U fun _ s =>
 kAdd O (.i .i64 (.ofNat 1)) fun X =>
 H n J o V N X s) fun v =>
 kLen c s fun Y s =>
 kLss b Y fun Z =>
 z5 Z
(z1 1 s c b fun bb s =>
 z4 s bb fun bc s =>
 v h c d k b bc l b s)
(v h c d k b (.i .u64 (.ofNat 0)) l b s))
(kLen h s fun bd s =>
 z1 1 s d bd fun bf s =>
 z6 1 s bf k fun _ s =>
 isoK zaq [d] s fun bg s =>
 retK false s bg some)) φ g C F (.i .u64 (.ofNat 0)) G (.i .i64 (.ofNat 0)) s) fun w =>
 kLen e s fun bh s =>
 kLen f s fun bi s =>
 kLss bh bi fun bk =>
 z5 bk
(w f e s)
(w e f s))) s0
def z81 (φ : Nat) : List D → Option D :=
fun as =>
(fun (s : LS) =>
 u1 as fun f l =>
 u1 l fun g m =>
 u0 m (
 kS (.lens (.c f)) s fun n s =>
 kS (.lens (.c g)) s fun o s =>
 kLss n o fun e =>
 z0 e false (fun k => k f s) s fun p s =>
 z0 e false (fun k => kS (.lens (.c p)) s k) s fun u s =>
 z0 e false (fun k => k g s) s fun v s =>
 z0 e false (fun k => kS (.lens (.c v)) s k) s fun w s =>
 z0 e false (fun k => kEql u w fun d => k d s) s fun y s =>
 z0 e false (fun k => k y s) s fun h s =>
 z0 h true (fun k => k f s) s fun z s =>
 z0 h true (fun k => k g s) s fun A s =>
 z0 h true (fun k => kLss z A fun d => k d s) s fun B s =>
 z0 e false (fun k => zp h B (.b false) s k) s fun C s =>
 zp e (.b true) C s fun E s =>
 z5 E
(retK false s (.i .i64 (.negSucc 0)) some)
(kEql f g fun F =>
 z5 F
(retK false s (.i .i64 (.ofNat 0)) some)
(retK false s (.i .i64 (.ofNat 1)) some)))) s0
def z7Y (φ : Nat) : List D → Option D :=
fun as =>
(fun (s : LS) =>
 u1 as fun n o =>
 u1 o fun p u =>
 u0 u (
 isoK z85 [n] s fun g s =>
 isoK z85 [p] s fun v s =>
 kLen g s fun w s =>
 lp (fun (_ _ _ _ _ : D) (_ : LS) => none) (fun (y : D → D → D → D → D → LS → Rs) (d c h e b : D) (s : LS) =>
 kLss b e fun z =>
 z5 z
(jn (fun (f A B k C E F : D) (s : LS) =>
 z1 1 s f k fun G s =>
 z4 s G fun H s =>
 zdD H C B s fun l s =>
 kExt l 0 s fun I s =>
 kExt l 1 s fun J s =>
 z1 1 s f k fun K s =>
 z6 1 s K I fun _ s =>
 kAdd F (.i .i64 (.ofNat 1)) fun M =>
 y f A J E M s) fun m =>
 kLen c s fun N s =>
 kLss b N fun O =>
 z5 O
(z1 1 s c b fun P s =>
 z4 s P fun S s =>
 m d c h b S e b s)
(m d c h b (.i .u64 (.ofNat 0)) e b s))
(isoK zaq [d] s fun U s =>
 retK false s U some)) φ g v (.i .u64 (.ofNat 0)) w (.i .i64 (.ofNat 0)) s)) s0
end
end Go.Proofs.Ev
namespace Go.Proofs.Ev
noncomputable section
variable {s : LS} {K : D → LS → Rs}
def Off (lo : Nat) (x : D) : Prop := ∀ l off len cm z ex, x = .sl l off len cm z ex → l ≠ lo
theorem Hold.off {x : D} {ws : List Nat} (h : Hold s x ws) {lo : Nat} (hlo : s.nx ≤ lo) : Off lo x := by
  intro l off len cm z ex e
  subst e
  cases h with
  | sl hg => have := zmN hg; omega
theorem Hold.put {x : D} {ws : List Nat} (h : Hold s x ws) {lo : Nat} (ho : Off lo x) {b b' : Blk} (hg : s.get lo = some b) : Hold (s.put lo b') x ws := by
  cases h with
  | nil => exact .nil
  | sl hg' => exact .sl (by rw [z8i hg, if_neg (ho _ _ _ _ _ _ rfl)]; exact hg')
theorem zac : ∀ (a b : List Nat), val (a ++ b) = val a + B64 ^ a.length * val b
  | [], b => by show val b = 0 + 1 * val b; omega
  | w :: a, b => by
    show w + B64 * val (a ++ b) = w + B64 * val a + B64 ^ (a.length + 1) * val b
    rw [zac a b, Nat.mul_add, Nat.pow_succ, Nat.mul_comm (B64 ^ a.length) B64, Nat.mul_assoc]; omega
theorem z9w : ∀ (ws : List Nat) (i : Nat), val (ws.take (i + 1)) = val (ws.take i) + ws.getD i 0 * B64 ^ i
  | [], i => by simp [val]
  | w :: ws, 0 => by
    show w + B64 * val [] = 0 + w * 1
    show w + B64 * 0 = 0 + w * 1
    omega
  | w :: ws, i + 1 => by
    show w + B64 * val (ws.take (i + 1)) = w + B64 * val (ws.take i) + ws.getD i 0 * B64 ^ (i + 1)
    rw [z9w ws i, Nat.mul_add, Nat.pow_succ, Nat.mul_comm B64 (ws.getD i 0 * B64 ^ i), Nat.mul_assoc]; omega
theorem zkz {a b c : Nat} (hc : c ≤ 1) : z9b (n64 a) (n64 b) (n64 c) s K = K (.tup [n64 ((a + b + c) % B64), n64 ((a + b + c) / B64)]) s := by
  show cnd (Nat.ble c 1) (frc (Nat.mod (Nat.add (Nat.add a b) c) B64) fun lo => frc (Nat.div (Nat.add (Nat.add a b) c) B64) fun hi => K (.tup [.i .u64 (.ofNat lo), .i .u64 (.ofNat hi)]) s) none = _
  rw [Nat.ble_eq_true_of_le hc, zx, zC, zC]; rfl
theorem zoH {lo i n w k : Nat} {outs : List Nat} (hg : s.get lo = some ⟨c64 (outs ++ List.replicate (k + 1) 0), .rw⟩) (ho : outs.length = i) (hi : i < n) {k2 : IntKind} :
    (z1 1 s (.sl lo 0 n n 1 true) (.i k2 (.ofNat i)) fun a s => z6 1 s a (n64 w) K) = K .u (s.put lo ⟨c64 ((outs ++ [w]) ++ List.replicate k 0), .rw⟩) := by
  refine (z9a hg rfl hi).trans ?_
  refine (zcD hg rfl ?_).trans ?_
  · rw [z8G, List.length_append, List.length_replicate]; omega
  · rw [zgn, show 0 + i * 1 = outs.length by omega, List.set_append_right _ _ (Nat.le_refl _), Nat.sub_self]
    rw [List.append_assoc]; rfl
def naF (φ : Nat) (q12 : D → D → D → D → D → D → LS → Rs) (x13 x14 x15 x16 x17 x18 : D) (s : LS) : Rs := (
 kLss x18 x17 fun x19 =>
 z5 x19
(jn (fun (x21 x22 x23 x24 x25 x26 x27 x28 : D) (s : LS) =>
 z1 1 s x21 x25 fun x29 s =>
 z4 s x29 fun x30 s =>
 z9b x30 x26 x24 s fun x31 s =>
 kExt x31 0 s fun x32 s =>
 kExt x31 1 s fun x33 s =>
 z1 1 s x23 x25 fun x34 s =>
 z6 1 s x34 x32 fun _ s =>
 kAdd x28 (.i .i64 (.ofNat 1)) fun x35 =>
 q12 x21 x22 x23 x33 x27 x35 s) fun j20 =>
 kLen x14 s fun x36 s =>
 kLss x18 x36 fun x37 =>
 z5 x37
(z1 1 s x14 x18 fun x38 s =>
 z4 s x38 fun x39 s =>
 j20 x13 x14 x15 x16 x18 x39 x17 x18 s)
(j20 x13 x14 x15 x16 x18 (.i .u64 (.ofNat 0)) x17 x18 s))
(kLen x13 s fun x40 s =>
 z1 1 s x15 x40 fun x41 s =>
 z6 1 s x41 x16 fun _ s =>
 isoK zaq [x15] s fun x42 s =>
 retK false s x42 some))
theorem zm5 {X Y : D} {xs ys : List Nat} {lo φ : Nat} (hx : z4O xs) (hy : z4O ys) (hl : ys.length ≤ xs.length) (hn : xs.length ≤ 900000000) (ox : Off lo X) (oy : Off lo Y) :
    ∀ (j i f c : Nat) (outs : List Nat) (s : LS), j + i = xs.length → j < f → Hold s X xs → Hold s Y ys → s.get lo = some ⟨c64 (outs ++ List.replicate (j + 1) 0), .rw⟩ → outs.length = i → z4O outs → c ≤ 1 →
      val outs + c * B64 ^ i = val (xs.take i) + val (ys.take i) →
      lp (fun (_ _ _ _ _ _ : D) (_ : LS) => none) (naF φ) f X Y (.sl lo 0 (xs.length + 1) (xs.length + 1) 1 true) (n64 c) (.i .i64 (.ofNat xs.length)) (.i .i64 (.ofNat i)) s = some (.n (val xs + val ys))
  | 0, i, f + 1, c, outs, s, hj, hf, hX, hY, hg, ho, hs, hc, hv => by
    have hi : i = xs.length := by omega
    subst hi
    rw [z1j]; unfold naF
    rw [z3i, zB (Nat.lt_irrefl _), z13, z8u hX, zoH hg ho (Nat.lt_succ_self _)]
    have hg' := z8i hg (⟨c64 ((outs ++ [c]) ++ List.replicate 0 0), .rw⟩ : Blk) lo
    rw [if_pos rfl] at hg'
    have hH : Hold (s.put lo ⟨c64 ((outs ++ [c]) ++ List.replicate 0 0), .rw⟩) (.sl lo 0 (xs.length + 1) (xs.length + 1) 1 true) (outs ++ [c]) := by
      have := Hold.sl (cm := xs.length + 1) (ex := true) (show (s.put lo ⟨c64 ((outs ++ [c]) ++ List.replicate 0 0), .rw⟩).get lo = some ⟨c64 (outs ++ [c]), .rw⟩ by rw [hg']; simp)
      rw [show (outs ++ [c]).length = xs.length + 1 by simp [ho]] at this
      exact this
    rw [zkA hH ?_ (by simp [ho]; omega)]
    · rw [zac, ho]
      rw [List.take_length, List.take_of_length_le hl] at hv
      show some (D.n (val outs + B64 ^ xs.length * val [c])) = _
      rw [show val [c] = c from rfl, Nat.mul_comm, hv]
    · intro w hw
      rcases List.mem_append.1 hw with h | h
      · exact hs w h
      · rw [List.mem_singleton.1 h]
        exact Nat.lt_of_le_of_lt hc (by decide)
  | j + 1, i, f + 1, c, outs, s, hj, hf, hX, hY, hg, ho, hs, hc, hv => by
    have hi : i < xs.length := by omega
    have hxi : xs[i]? = some (xs.getD i 0) := by rw [List.getD_eq_getElem?_getD, List.getElem?_eq_getElem hi]; rfl
    have key : ∀ (b : Nat), b = ys.getD i 0 → (z1 1 s X (.i .i64 (.ofNat i)) fun x29 s => z4 s x29 fun x30 s => z9b x30 (n64 b) (n64 c) s fun x31 s => kExt x31 0 s fun x32 s => kExt x31 1 s fun x33 s => z1 1 s (.sl lo 0 (xs.length + 1) (xs.length + 1) 1 true) (.i .i64 (.ofNat i)) fun x34 s => z6 1 s x34 x32 fun _ s => kAdd (.i .i64 (.ofNat i)) (.i .i64 (.ofNat 1)) fun x35 =>
        lp (fun (_ _ _ _ _ _ : D) (_ : LS) => none) (naF φ) f X Y (.sl lo 0 (xs.length + 1) (xs.length + 1) 1 true) x33 (.i .i64 (.ofNat xs.length)) x35 s) = some (.n (val xs + val ys)) := by
      intro b hb
      have hb' : b < B64 := by
        subst hb
        rw [List.getD_eq_getElem?_getD]
        cases h : ys[i]? with
        | none => decide
        | some w => exact hy w (List.mem_of_getElem? h)
      have ha' : xs.getD i 0 < B64 := hx _ (List.mem_of_getElem? hxi)
      refine (zcE hX hxi).trans ?_
      refine (zkz hc).trans ?_
      show (z1 1 s (.sl lo 0 (xs.length + 1) (xs.length + 1) 1 true) (.i .i64 (.ofNat i)) fun x34 s => z6 1 s x34 (n64 ((xs.getD i 0 + b + c) % B64)) fun _ s => kAdd (.i .i64 (.ofNat i)) (.i .i64 (.ofNat 1)) fun x35 =>
        lp (fun (_ _ _ _ _ _ : D) (_ : LS) => none) (naF φ) f X Y (.sl lo 0 (xs.length + 1) (xs.length + 1) 1 true) (n64 ((xs.getD i 0 + b + c) / B64)) (.i .i64 (.ofNat xs.length)) x35 s) = _
      refine (zoH hg ho (Nat.lt_succ_of_lt hi)).trans ?_
      refine (z3T (show i + 1 ≤ kmax .i64 from (by show i + 1 ≤ 9223372036854775807; omega))).trans ?_
      refine zm5 hx hy hl hn ox oy j (i + 1) f _ (outs ++ [(xs.getD i 0 + b + c) % B64]) _ (by omega) (by omega) (hX.put ox hg) (hY.put oy hg) ?_ (by simp [ho]) ?_ ?_ ?_
      · rw [z8i hg, if_pos rfl]
      · intro w hw
        rcases List.mem_append.1 hw with h | h
        · exact hs w h
        · rw [List.mem_singleton.1 h]
          exact Nat.mod_lt _ (by decide)
      · have : xs.getD i 0 + b + c < B64 * 2 := by omega
        have := Nat.div_lt_of_lt_mul this
        omega
      · rw [zac, z9w, z9w, ho, show val [(xs.getD i 0 + b + c) % B64] = (xs.getD i 0 + b + c) % B64 from rfl, ← hb]
        have e := Nat.mod_add_div (xs.getD i 0 + b + c) B64
        generalize xs.getD i 0 = a at *
        have e2 : B64 ^ i * ((a + b + c) % B64) + (a + b + c) / B64 * B64 ^ (i + 1) = (a + b + c) * B64 ^ i := by
          rw [Nat.pow_succ, Nat.mul_comm (B64 ^ i) ((a + b + c) % B64), Nat.mul_comm (B64 ^ i) B64, ← Nat.mul_assoc, ← Nat.add_mul, Nat.mul_comm ((a + b + c) / B64) B64, e]
        rw [Nat.add_mul, Nat.add_mul] at e2
        omega
    rw [z1j]; unfold naF
    rw [z3i, zy hi, z1s]
    show (kLen Y s fun x36 s => kLss (.i .i64 (.ofNat i)) x36 fun x37 => z5 x37 _ _) = _
    rw [z8u hY, z3i]
    by_cases hyi : i < ys.length
    · have hyi' : ys[i]? = some (ys.getD i 0) := by rw [List.getD_eq_getElem?_getD, List.getElem?_eq_getElem hyi]; rfl
      rw [zy hyi, z1s]
      refine (zcE hY hyi').trans ?_
      exact key _ rfl
    · rw [zB (by omega), z13]
      exact key 0 (by rw [List.getD_eq_getElem?_getD, List.getElem?_eq_none (by omega)]; rfl)
def naJ (φ : Nat) (x6 x7 : D) (s : LS) : Rs := (
 kLen x6 s fun x8 s =>
 kAdd x8 (.i .i64 (.ofNat 1)) fun x9 =>
 z24 1 8 [(.i .u64 (.ofNat 0))] s x9 x9 fun x10 s =>
 kLen x6 s fun x11 s =>
 lp (fun (_ _ _ _ _ _ : D) (_ : LS) => none) (naF φ) φ x6 x7 x10 (.i .u64 (.ofNat 0)) x11 (.i .i64 (.ofNat 0)) s)
theorem zm6 {X Y : D} {xs ys : List Nat} {φ : Nat} (hx : z4O xs) (hy : z4O ys) (hl : ys.length ≤ xs.length) (hn : xs.length ≤ 900000000) (hs : s.fit) (hX : Hold s X xs) (hY : Hold s Y ys) (hφ : xs.length < φ) :
    naJ φ X Y s = some (.n (val xs + val ys)) := by
  unfold naJ
  rw [z8u hX]
  refine (z3T (show xs.length + 1 ≤ kmax .i64 from (by show xs.length + 1 ≤ 9223372036854775807; omega))).trans ?_
  refine (zmt (by omega) (by omega)).trans ?_
  have hm := More.push hs (⟨List.replicate (xs.length + 1) (.i .u64 (.ofNat 0)), .rw⟩ : Blk)
  refine (z8u (hX.more hm)).trans ?_
  refine zm5 hx hy hl hn (hX.off (Nat.le_refl _)) (hY.off (Nat.le_refl _)) xs.length 0 φ 0 [] _ (by omega) hφ (hX.more hm) (hY.more hm) ?_ rfl (fun w hw => (by cases hw)) (Nat.zero_le _) ?_
  · rw [zeO hs, if_pos rfl, zjY]; rfl
  · simp [val]
theorem zlb {x y φ : Nat} (hx : Nat.log2 x ≤ 1000000000) (hy : Nat.log2 y ≤ 1000000000) (h1 : Nat.log2 x / 64 + 1 < φ) (h2 : Nat.log2 y / 64 + 1 < φ) : z82 φ [.n x, .n y] = some (.n (x + y)) := by
  obtain ⟨X, s1, xs, k1, hX, sx, vx, lx, m1, _⟩ := z9c (s := s0) (m := x) rfl hx
  obtain ⟨Y, s2, ys, k2, hY, sy, vy, ly, m2, _⟩ := z9c (s := s1) (m := y) (m1.len rfl) hy
  unfold z82
  refine (k1 _).trans ?_
  refine (k2 _).trans ?_
  have hX := hX.more m2
  have hs := m2.len (m1.len rfl)
  show (kLen X s2 fun x43 s => kLen Y s fun x44 s => kLss x43 x44 fun x45 => z5 x45 (naJ φ Y X s) (naJ φ X Y s)) = _
  rw [z8u hX, z8u hY, z3i]
  by_cases h : xs.length < ys.length
  · rw [zy h, z1s, zm6 sy sx (by omega) (by omega) hs hY hX (by omega), vx, vy, Nat.add_comm]
  · rw [zB h, z13, zm6 sx sy (by omega) (by omega) hs hX hY (by omega), vx, vy]
def z7C (as : List D) : Option D :=
  u1 as fun a r => u1 r fun b r => u0 r (z8F a fun x => z8F b fun y => cnd (Nat.ble (Nat.log2 x) 1000000000) (cnd (Nat.ble (Nat.log2 y) 1000000000) (frc (Nat.add x y) fun z => some (.n z)) none) none)
theorem zjH {as : List D} {r : D} (h : z7C as = some r) : ∃ φ, z82 φ as = some r := by
  obtain ⟨a, r1, rfl, g1⟩ := z1r h
  obtain ⟨b, r2, rfl, g2⟩ := z1r g1
  obtain ⟨rfl, g3⟩ := z4m g2
  obtain ⟨x, rfl, g4⟩ := z1b g3
  obtain ⟨y, rfl, g5⟩ := z1b g4
  obtain ⟨h1, g6⟩ := zt g5
  obtain ⟨h2, h⟩ := zt g6
  rw [zC] at h
  exact ⟨Nat.log2 x / 64 + Nat.log2 y / 64 + 3, by rw [zlb (Nat.le_of_ble_eq_true h1) (Nat.le_of_ble_eq_true h2) (by omega) (by omega)]; exact h⟩
end
end Go.Proofs.Ev
namespace Go.Proofs.Ev
noncomputable section
variable {s : LS} {K : D → LS → Rs}
def zpZ (x y : D) : Prop := ∀ l off len cm z ex, x = .sl l off len cm z ex → Off l y
theorem ziU {a : Nat} {k : Nat → Rs} : on64 (.i .u64 (.ofNat a)) k = k a := rfl
theorem zp0 (M a b c : Nat) : Nat.mod (Nat.sub (Nat.sub (Nat.add a M) b) c) M = (a + M - b - c) % M := rfl
theorem znX {a b c : Nat} (hc : c ≤ 1) : zdD (n64 a) (n64 b) (n64 c) s K = K (.tup [n64 ((a + B64 - b - c) % B64), n64 (if a < b + c then 1 else 0)]) s := by
  unfold zdD n64
  rw [ziU, ziU, ziU, Nat.ble_eq_true_of_le hc, zx, zC, zp0, show (18446744073709551616 : Nat) = B64 from rfl]
  by_cases h : a < b + c
  · rw [show Nat.blt a (Nat.add b c) = true from zy h, if_pos h, zx]
  · rw [show Nat.blt a (Nat.add b c) = false from zB h, if_neg h, zM]
theorem zpi {X : D} {outs rest : List Nat} {v w i : Nat} {k2 : IntKind} (h : Hold s X (outs ++ v :: rest)) (ho : outs.length = i) :
    ∃ s', (∀ K, (z1 1 s X (.i k2 (.ofNat i)) fun a s => z6 1 s a (n64 w) K) = K .u s') ∧ Hold s' X ((outs ++ [w]) ++ rest) ∧ (∀ Y ys, zpZ X Y → Hold s Y ys → Hold s' Y ys) ∧ (s.fit → s'.fit) := by
  generalize hz : outs ++ v :: rest = zs at h
  cases h with
  | nil => cases outs <;> cases hz
  | @sl l cm ex _ hg =>
    subst hz
    have hlen : (outs ++ v :: rest).length = ((outs ++ [w]) ++ rest).length := by simp
    refine ⟨s.put l ⟨c64 ((outs ++ [w]) ++ rest), .rw⟩, fun K => ?_, ?_, fun Y ys ha hY => hY.put (ha _ _ _ _ _ _ rfl) hg, fun hs => rfl⟩
    · refine (z9a hg rfl (show i < (outs ++ v :: rest).length by simp; omega)).trans ?_
      refine (zcD hg rfl ?_).trans ?_
      · rw [z8G]; simp; omega
      · rw [zgn, show 0 + i * 1 = outs.length by omega, List.set_append_right _ _ (Nat.le_refl _), Nat.sub_self, List.append_assoc]; rfl
    · have := Hold.sl (cm := cm) (ex := ex) (show (s.put l ⟨c64 ((outs ++ [w]) ++ rest), .rw⟩).get l = some ⟨c64 ((outs ++ [w]) ++ rest), .rw⟩ by rw [z8i hg, if_pos rfl])
      rwa [← hlen] at this
def nsF (φ : Nat) (q6 : D → D → D → D → D → LS → Rs) (x7 x8 x9 x10 x11 : D) (s : LS) : Rs := (
 kLss x11 x10 fun x12 =>
 z5 x12
(jn (fun (x14 x15 x16 x17 x18 x19 x20 : D) (s : LS) =>
 z1 1 s x14 x17 fun x21 s =>
 z4 s x21 fun x22 s =>
 zdD x22 x18 x16 s fun x23 s =>
 kExt x23 0 s fun x24 s =>
 kExt x23 1 s fun x25 s =>
 z1 1 s x14 x17 fun x26 s =>
 z6 1 s x26 x24 fun _ s =>
 kAdd x20 (.i .i64 (.ofNat 1)) fun x27 =>
 q6 x14 x15 x25 x19 x27 s) fun j13 =>
 kLen x8 s fun x28 s =>
 kLss x11 x28 fun x29 =>
 z5 x29
(z1 1 s x8 x11 fun x30 s =>
 z4 s x30 fun x31 s =>
 j13 x7 x8 x9 x11 x31 x10 x11 s)
(j13 x7 x8 x9 x11 (.i .u64 (.ofNat 0)) x10 x11 s))
(isoK zaq [x7] s fun x32 s =>
 retK false s x32 some))
theorem zoZ (a b c : Nat) (ha : a < B64) (hb : b < B64) (hc : c ≤ 1) : (a + B64 - b - c) % B64 + b + c = a + (if a < b + c then 1 else 0) * B64 := by
  by_cases h : a < b + c
  · rw [if_pos h, Nat.mod_eq_of_lt (by omega)]; omega
  · rw [if_neg h, show a + B64 - b - c = (a - b - c) + B64 by omega, Nat.add_mod_right, Nat.mod_eq_of_lt (by omega)]; omega
theorem znF {a b c : Nat} (ha : a < B64) (hb : b < B64) (hc : c ≤ 1) : ∃ d c', (∀ (s : LS) (K : D → LS → Rs), zdD (n64 a) (n64 b) (n64 c) s K = K (.tup [n64 d, n64 c']) s) ∧ d < B64 ∧ c' ≤ 1 ∧ d + b + c = a + c' * B64 :=
  ⟨_, _, fun s K => znX hc, Nat.mod_lt _ (by decide), by split <;> omega, zoZ a b c ha hb hc⟩
theorem zoX (w : Nat) : val [w] = w := rfl
theorem zm0 {X Y : D} {xs ys : List Nat} {φ : Nat} (hx : z4O xs) (hy : z4O ys) (hle : val ys ≤ val xs) (hn : xs.length ≤ 900000000) (hxy : zpZ X Y) :
    ∀ (j i f c : Nat) (outs : List Nat) (s : LS), j + i = xs.length → j < f → Hold s X (outs ++ xs.drop i) → Hold s Y ys → outs.length = i → z4O outs → c ≤ 1 →
      val outs + val (ys.take i) = val (xs.take i) + c * B64 ^ i →
      lp (fun (_ _ _ _ _ : D) (_ : LS) => none) (nsF φ) f X Y (n64 c) (.i .i64 (.ofNat xs.length)) (.i .i64 (.ofNat i)) s = some (.n (val xs - val ys))
  | 0, i, f + 1, c, outs, s, hj, hf, hX, hY, ho, hs, hc, hv => by
    have hi : i = xs.length := by omega
    subst hi
    rw [z1j]; unfold nsF
    rw [List.drop_length, List.append_nil] at hX
    rw [z3i, zB (Nat.lt_irrefl _), z13, zkA hX hs (by omega)]
    show some (D.n (val outs)) = _
    have h1 := zfD hs
    have h2 := zfD hx
    rw [ho] at h1
    have h3 : val ys = val (ys.take xs.length) := by
      have h4 := zac (ys.take xs.length) (ys.drop xs.length)
      rw [List.take_append_drop] at h4
      by_cases h5 : ys.length ≤ xs.length
      · rw [List.take_of_length_le h5]
      · rw [List.length_take, Nat.min_eq_left (by omega)] at h4
        have : val (ys.drop xs.length) = 0 := by
          rcases Nat.eq_zero_or_pos (val (ys.drop xs.length)) with h | h
          · exact h
          · have := Nat.le_mul_of_pos_right (B64 ^ xs.length) h
            omega
        rw [this] at h4
        omega
    rw [List.take_length, ← h3] at hv
    have : c = 0 ∨ c = 1 := by omega
    rcases this with rfl | rfl
    · congr 2; omega
    · exfalso; omega
  | j + 1, i, f + 1, c, outs, s, hj, hf, hX, hY, ho, hs, hc, hv => by
    have hi : i < xs.length := by omega
    have hxi : xs[i]? = some (xs.getD i 0) := by rw [List.getD_eq_getElem?_getD, List.getElem?_eq_getElem hi]; rfl
    have hdr : xs.drop i = xs.getD i 0 :: xs.drop (i + 1) := by
      rw [List.drop_eq_getElem_cons hi, List.getD_eq_getElem?_getD, List.getElem?_eq_getElem hi]; rfl
    rw [hdr] at hX
    have ha' : xs.getD i 0 < B64 := hx _ (List.mem_of_getElem? hxi)
    have hXi : (outs ++ xs.getD i 0 :: xs.drop (i + 1))[i]? = some (xs.getD i 0) := by
      rw [List.getElem?_append_right (by omega), ho, Nat.sub_self]; rfl
    have key : ∀ (b : Nat), b = ys.getD i 0 → (z1 1 s X (.i .i64 (.ofNat i)) fun x29 s => z4 s x29 fun x30 s => zdD x30 (n64 b) (n64 c) s fun x31 s => kExt x31 0 s fun x32 s => kExt x31 1 s fun x33 s => z1 1 s X (.i .i64 (.ofNat i)) fun x34 s => z6 1 s x34 x32 fun _ s => kAdd (.i .i64 (.ofNat i)) (.i .i64 (.ofNat 1)) fun x35 =>
        lp (fun (_ _ _ _ _ : D) (_ : LS) => none) (nsF φ) f X Y x33 (.i .i64 (.ofNat xs.length)) x35 s) = some (.n (val xs - val ys)) := by
      intro b hb
      have hb' : b < B64 := by
        subst hb
        rw [List.getD_eq_getElem?_getD]
        cases h : ys[i]? with
        | none => decide
        | some w => exact hy w (List.mem_of_getElem? h)
      refine (zcE hX hXi).trans ?_
      obtain ⟨d, c', k0, hd, hc', e⟩ := znF ha' hb' hc
      refine (k0 _ _).trans ?_
      obtain ⟨s', k1, k2, k3, _⟩ := zpi (w := d) (k2 := .i64) hX ho
      show (z1 1 s X (.i .i64 (.ofNat i)) fun x34 s => z6 1 s x34 (n64 d) fun _ s => kAdd (.i .i64 (.ofNat i)) (.i .i64 (.ofNat 1)) fun x35 =>
        lp (fun (_ _ _ _ _ : D) (_ : LS) => none) (nsF φ) f X Y (n64 c') (.i .i64 (.ofNat xs.length)) x35 s) = _
      refine (k1 _).trans ?_
      refine (z3T (show i + 1 ≤ kmax .i64 from (by show i + 1 ≤ 9223372036854775807; omega))).trans ?_
      refine zm0 hx hy hle hn hxy j (i + 1) f c' (outs ++ [d]) _ (by omega) (by omega) k2 (k3 _ _ hxy hY) (by simp [ho]) ?_ hc' ?_
      · intro w hw
        rcases List.mem_append.1 hw with h | h
        · exact hs w h
        · rw [List.mem_singleton.1 h]
          exact hd
      · rw [zac, z9w, z9w, ho, zoX, ← hb]
        have e2 := congrArg (· * B64 ^ i) e
        simp only [Nat.add_mul] at e2
        rw [Nat.pow_succ, Nat.mul_comm (B64 ^ i) B64, ← Nat.mul_assoc, Nat.mul_comm (B64 ^ i) d]
        omega
    rw [z1j]; unfold nsF
    rw [z3i, zy hi, z1s]
    show (kLen Y s fun x36 s => kLss (.i .i64 (.ofNat i)) x36 fun x37 => z5 x37 _ _) = _
    rw [z8u hY, z3i]
    by_cases hyi : i < ys.length
    · have hyi' : ys[i]? = some (ys.getD i 0) := by rw [List.getD_eq_getElem?_getD, List.getElem?_eq_getElem hyi]; rfl
      rw [zy hyi, z1s]
      refine (zcE hY hyi').trans ?_
      exact key _ rfl
    · rw [zB (by omega), z13]
      exact key 0 (by rw [List.getD_eq_getElem?_getD, List.getElem?_eq_none (by omega)]; rfl)
theorem zl7 {x y φ : Nat} (hx : Nat.log2 x ≤ 1000000000) (hy : Nat.log2 y ≤ 1000000000) (h1 : Nat.log2 x / 64 + 1 < φ) (hle : y ≤ x) : z7Y φ [.n x, .n y] = some (.n (x - y)) := by
  obtain ⟨X, s1, xs, k1, hX, sx, vx, lx, m1, f1⟩ := z9c (s := s0) (m := x) rfl hx
  obtain ⟨Y, s2, ys, k2, hY, sy, vy, ly, m2, f2⟩ := z9c (s := s1) (m := y) (m1.len rfl) hy
  unfold z7Y
  refine (k1 _).trans ?_
  refine (k2 _).trans ?_
  have hX2 := hX.more m2
  refine (z8u hX2).trans ?_
  have ha : zpZ X Y := by
    intro l off len cm z ex e l' off' len' cm' z' ex' e'
    have g2 := f2 _ _ _ _ _ _ e'
    subst e
    cases hX with
    | sl hg => have := zmN hg; omega
  refine (zm0 (φ := φ) sx sy (by omega) (by omega) ha xs.length 0 φ 0 [] s2 (by omega) (by omega) (by exact hX2) hY rfl (fun w hw => (by cases hw)) (Nat.zero_le _) (by simp [val])).trans ?_
  rw [vx, vy]
def z44 (as : List D) : Option D :=
  u1 as fun a r => u1 r fun b r => u0 r (z8F a fun x => z8F b fun y => cnd (Nat.ble (Nat.log2 x) 1000000000) (cnd (Nat.ble y x) (frc (Nat.sub x y) fun z => some (.n z)) none) none)
theorem zjD {as : List D} {r : D} (h : z44 as = some r) : ∃ φ, z7Y φ as = some r := by
  obtain ⟨a, r1, rfl, g1⟩ := z1r h
  obtain ⟨b, r2, rfl, g2⟩ := z1r g1
  obtain ⟨rfl, g3⟩ := z4m g2
  obtain ⟨x, rfl, g4⟩ := z1b g3
  obtain ⟨y, rfl, g5⟩ := z1b g4
  obtain ⟨h1, g6⟩ := zt g5
  obtain ⟨h2, h⟩ := zt g6
  rw [zC] at h
  have h1 := Nat.le_of_ble_eq_true h1
  have h2 := Nat.le_of_ble_eq_true h2
  have hy : Nat.log2 y ≤ 1000000000 := by
    by_cases hy0 : y = 0
    · subst hy0; exact Nat.zero_le _
    · have := (Nat.le_log2 (n := x) (k := Nat.log2 y) (by omega)).2 (Nat.le_trans (Nat.log2_self_le hy0) h2)
      omega
  exact ⟨Nat.log2 x / 64 + 3, by rw [zl7 h1 hy (by omega) h2]; exact h⟩
end
end Go.Proofs.Ev
namespace Go.Proofs.Ev
noncomputable section
variable {s : LS} {K : D → LS → Rs}
theorem zhT {ws : List Nat} {ex : Bool} : kLen (.tree (c64 ws) ws.length ex) s K = K (.i .i64 (.ofNat ws.length)) s := rfl
theorem zkv {ws : List Nat} {ex : Bool} {i w : Nat} {k2 : IntKind} (hi : ws[i]? = some w) : (z1 1 s (.tree (c64 ws) ws.length ex) (.i k2 (.ofNat i)) fun a s => z4 s a K) = K (n64 w) s := by
  have hlt : i < ws.length := (List.getElem?_eq_some_iff.1 hi).1
  show cnd (Nat.blt i ws.length) (z8V (Nat.mul i 1) (c64 ws) fun r => List.rec (motive := fun _ => Rs) none (fun _ _ _ => z4 s (.fp r) K) r) none = _
  rw [zy hlt, zx, z34, show Nat.mul i 1 = i from Nat.mul_one i, List.drop_eq_getElem_cons (by rw [z8G]; exact hlt)]
  show K ((c64 ws)[i]'(by rw [z8G]; exact hlt)) s = _
  have := zaw hi
  rw [List.getElem?_eq_getElem (by rw [z8G]; exact hlt)] at this
  rw [Option.some.inj this]; rfl
theorem ndiv (a b : Nat) : Nat.div a b = a / b := rfl
theorem nmod (a b : Nat) : Nat.mod a b = a % b := rfl
theorem nmul (a b : Nat) : Nat.mul a b = a * b := rfl
theorem zqj {M : List D → Option D} {x y : Nat} : isoK M [n64 x, n64 y] s K = ob (M [n64 x, n64 y]) fun r => finK s [] r K := rfl
theorem zqp {h l : Nat} : finK s [] (.tup [n64 h, n64 l]) K = K (.tup [n64 h, n64 l]) s := rfl
theorem zma {x y : Nat} (hx : x < B64) (hy : y < B64) : ∃ h l, zdc [n64 x, n64 y] = some (.tup [n64 h, n64 l]) ∧ h * B64 + l = x * y ∧ l < B64 := by
  refine ⟨x * y / B64, x * y % B64, ?_, ?_, Nat.mod_lt _ (by decide)⟩
  · unfold zdc n64
    rw [z6u, z6u, zad, ziU, ziU, zy hx, zy hy, zx, zx, zC, zC, zC]
    rw [ndiv, nmod, nmul]
  · rw [Nat.mul_comm]; exact Nat.div_add_mod _ _
theorem zm9 {x y : Nat} (hx : x < B64) (hy : y < B64) : ∃ h l, (∀ (s : LS) (K : D → LS → Rs), isoK zdc [n64 x, n64 y] s K = K (.tup [n64 h, n64 l]) s) ∧ h * B64 + l = x * y ∧ l < B64 := by
  obtain ⟨h, l, e, h1, h2⟩ := zma hx hy
  exact ⟨h, l, fun s K => by rw [zqj, e]; exact zqp, h1, h2⟩
theorem zpa (M a b o c h l lo2 c1 lo3 c2 : Nat) (h1 : h * M + l = a * b) (h2 : c1 * M + lo2 = l + o) (h3 : c2 * M + lo3 = lo2 + c) :
    (h + c1 + c2) * M + lo3 = a * b + o + c := by
  rw [Nat.add_mul, Nat.add_mul]; omega
theorem zhz : ∀ {ws : List Nat} {j w : Nat} (v : Nat), ws[j]? = some w → val (ws.set j v) + w * B64 ^ j = val ws + v * B64 ^ j
  | [], j, w, v, h => by simp at h
  | x :: ws, 0, w, v, h => by
    simp only [List.getElem?_cons_zero, Option.some.injEq] at h
    subst h
    show v + B64 * val ws + x * B64 ^ 0 = x + B64 * val ws + v * B64 ^ 0
    rw [Nat.pow_zero]; omega
  | x :: ws, j + 1, w, v, h => by
    simp only [List.getElem?_cons_succ] at h
    have ih := zhz v h
    show x + B64 * val (ws.set j v) + w * B64 ^ (j + 1) = x + B64 * val ws + v * B64 ^ (j + 1)
    have e := congrArg (B64 * ·) ih
    simp only [Nat.mul_add] at e
    rw [Nat.pow_succ, Nat.mul_comm (B64 ^ j) B64, Nat.mul_left_comm w, Nat.mul_left_comm v]
    omega
def trF (k : D → LS → Rs) (q3 : D → D → LS → Rs) (x4 x5 : D) (s : LS) : Rs := (
 kGtr x5 (.i .i64 (.ofNat 0)) fun x6 =>
 z0 x6 true (fun k => k x4 s) s fun x7 s =>
 z0 x6 true (fun k => k x5 s) s fun x8 s =>
 z0 x6 true (fun k => kSub x8 (.i .i64 (.ofNat 1)) fun d => k d s) s fun x9 s =>
 z0 x6 true (fun k => z1 1 s x7 x9 k) s fun x10 s =>
 z0 x6 true (fun k => z4 s x10 k) s fun x11 s =>
 z0 x6 true (fun k => kEql x11 (.i .u64 (.ofNat 0)) fun d => k d s) s fun x12 s =>
 zp x6 x12 (.b false) s fun x13 s =>
 z5 x13
(kSub x5 (.i .i64 (.ofNat 1)) fun x14 =>
 q3 x4 x14 s)
(z23 1 s x4 none (some x5) none fun x15 s =>
 k x15 s))
theorem zha {ws : List Nat} {len : Nat} {k : D → LS → Rs} (h0 : 0 < len) (hlen : len ≤ 9223372036854775807) (hw : ws.length = len) : ∀ (h f : Nat), h ≤ len → h < f →
    ∃ m, m ≤ h ∧ val (ws.take m) = val (ws.take h) ∧ lp (fun (_ _ : D) (_ : LS) => none) (trF k) f (.sl 0 0 len len 1 true) (.i .i64 (.ofNat h)) (st1 (c64 ws)) = k (.sl 0 0 m len 1 true) (st1 (c64 ws))
  | 0, f + 1, hh, hf => by
    refine ⟨0, Nat.le_refl _, rfl, ?_⟩
    rw [z1j]; unfold trF
    simp only [zbk, zB (Nat.lt_irrefl 0), zcF, z9Y, z13, zeR h0 (Nat.zero_le len)]
  | h + 1, f + 1, hh, hf => by
    have hi : h < ws.length := by omega
    have hwi : ws[h]? = some ws[h] := List.getElem?_eq_getElem hi
    have hm : h + 1 ≤ kmax .i64 := Nat.le_trans hh hlen
    rw [z1j]; unfold trF
    by_cases hz : ws[h] = 0
    · obtain ⟨m, h1, h2, h3⟩ := zha (k := k) h0 hlen hw h f (by omega) (by omega)
      refine ⟨m, by omega, ?_, ?_⟩
      · rw [h2, z9w, List.getD_eq_getElem?_getD, hwi]
        show _ = _ + ws[h] * _
        rw [hz, Nat.zero_mul]; rfl
      · simp only [zbk, zy (Nat.succ_pos h), z9O, z5E (show 1 ≤ h + 1 by omega) hm, Nat.add_sub_cancel, z3w (show h < len by omega), Nat.zero_add, z7D (zaw hwi), z9P, hz, z2R, z6z, z1s]
        exact h3
    · refine ⟨h + 1, Nat.le_refl _, rfl, ?_⟩
      simp only [zbk, zy (Nat.succ_pos h), z9O, z5E (show 1 ≤ h + 1 by omega) hm, Nat.add_sub_cancel, z3w (show h < len by omega), Nat.zero_add, z7D (zaw hwi), z9P, z4Z hz, z6z, z13, zeR h0 hh]
end
end Go.Proofs.Ev
namespace Go.Proofs.Ev
noncomputable section
def muF (φ : Nat) (q8 : D → D → D → D → D → LS → Rs) (q18 : D → D → D → D → D → D → D → D → D → D → D → LS → Rs) (x19 x20 x21 x22 x23 x24 x25 x26 x27 x28 x29 : D) (s : LS) : Rs := (
 kLss x29 x28 fun x30 =>
 z5 x30
(z1 1 s x27 x29 fun x31 s =>
 z4 s x31 fun x32 s =>
 isoK zdc [x22, x32] s fun x33 s =>
 kExt x33 0 s fun x34 s =>
 kExt x33 1 s fun x35 s =>
 kAdd x21 x29 fun x36 =>
 z1 1 s x20 x36 fun x37 s =>
 z4 s x37 fun x38 s =>
 z9b x35 x38 (.i .u64 (.ofNat 0)) s fun x39 s =>
 kExt x39 0 s fun x40 s =>
 kExt x39 1 s fun x41 s =>
 kAdd x34 x41 fun x42 =>
 z9b x40 x23 (.i .u64 (.ofNat 0)) s fun x43 s =>
 kExt x43 0 s fun x44 s =>
 kExt x43 1 s fun x45 s =>
 kAdd x21 x29 fun x46 =>
 kAdd x42 x45 fun x47 =>
 z1 1 s x20 x46 fun x48 s =>
 z6 1 s x48 x44 fun _ s =>
 kAdd x29 (.i .i64 (.ofNat 1)) fun x49 =>
 q18 x19 x20 x21 x22 x47 x24 x25 x26 x27 x28 x49 s)
(kLen x19 s fun x50 s =>
 kAdd x21 x50 fun x51 =>
 z1 1 s x20 x51 fun x52 s =>
 z6 1 s x52 x23 fun _ s =>
 kAdd x26 (.i .i64 (.ofNat 1)) fun x53 =>
 q8 x19 x20 x24 x25 x53 s))
theorem zkW {a b c : Nat} (ha : a < B64) (hb : b < B64) (hc : c ≤ 1) : ∃ d c', (∀ (s : LS) (K : D → LS → Rs), z9b (n64 a) (n64 b) (n64 c) s K = K (.tup [n64 d, n64 c']) s) ∧ d < B64 ∧ c' ≤ 1 ∧ c' * B64 + d = a + b + c := by
  refine ⟨_, _, fun s K => zkz hc, Nat.mod_lt _ (by decide), ?_, ?_⟩
  · have : a + b + c < B64 * 2 := by omega
    have := Nat.div_lt_of_lt_mul this
    omega
  · rw [Nat.mul_comm]; exact Nat.div_add_mod _ _
theorem zq9 (P B vz vz1 z lo c c' a y : Nat) (h1 : vz1 + z * P = vz + lo * P) (h2 : c' * B + lo = a * y + z + c) : vz1 + c' * (P * B) = vz + a * y * P + c * P := by
  have e := congrArg (· * P) h2
  simp only [Nat.add_mul] at e
  rw [show c' * (P * B) = c' * B * P by rw [Nat.mul_comm P B, Nat.mul_assoc]]
  omega
theorem zom (M a b o c H lo : Nat) (ha : a < M) (hb : b < M) (ho : o < M) (hc : c < M) (h : H * M + lo = a * b + o + c) : H < M := by
  have h1 : a * b ≤ (M - 1) * (M - 1) := Nat.mul_le_mul (by omega) (by omega)
  obtain ⟨m, rfl⟩ : ∃ m, M = m + 1 := ⟨M - 1, by omega⟩
  rw [Nat.add_sub_cancel] at h1
  have h2 : H * (m + 1) < (m + 1) * (m + 1) := by
    rw [Nat.add_mul m 1 (m + 1), Nat.mul_add m m 1]; omega
  exact Nat.lt_of_mul_lt_mul_right h2
theorem zmb {ys : List Nat} {a i N φ : Nat} {ex : Bool} {q8 : D → D → D → D → D → LS → Rs} {X24 X25 : D} (ha : a < B64) (hy : z4O ys) (hN : N ≤ 1000000000) (hiN : i + ys.length < N) :
    ∀ (j' j f c : Nat) (zs : List Nat), j' + j = ys.length → j' < f → zs.length = N → z4O zs → c < B64 →
    ∃ zs' : List Nat, zs'.length = N ∧ z4O zs' ∧ val zs' + zs.getD (i + ys.length) 0 * B64 ^ (i + ys.length) + a * val (ys.take j) * B64 ^ i = val zs + c * B64 ^ (i + j) + a * val ys * B64 ^ i ∧
      lp (fun (_ _ _ _ _ _ _ _ _ _ _ : D) (_ : LS) => none) (muF φ q8) f (.tree (c64 ys) ys.length ex) (.sl 0 0 N N 1 true) (.i .i64 (.ofNat i)) (n64 a) (n64 c) X24 X25 (.i .i64 (.ofNat i)) (.tree (c64 ys) ys.length ex) (.i .i64 (.ofNat ys.length)) (.i .i64 (.ofNat j)) (st1 (c64 zs))
        = q8 (.tree (c64 ys) ys.length ex) (.sl 0 0 N N 1 true) X24 X25 (.i .i64 (.ofNat (i + 1))) (st1 (c64 zs'))
  | 0, j, f + 1, c, zs, hj, hf, hl, hs, hc => by
    have hj : j = ys.length := by omega
    subst hj
    have hzi : zs[i + ys.length]? = some (zs.getD (i + ys.length) 0) := by rw [List.getD_eq_getElem?_getD, List.getElem?_eq_getElem (by omega)]; rfl
    refine ⟨zs.set (i + ys.length) c, by simp [hl], zfI hs hc, ?_, ?_⟩
    · rw [zhz c hzi, List.take_length]
    · rw [z1j]; unfold muF
      rw [z3i, zB (Nat.lt_irrefl _), z13]
      refine (zhT).trans ?_
      refine (z3T (show i + ys.length ≤ kmax .i64 from (by show i + ys.length ≤ 9223372036854775807; omega))).trans ?_
      refine (z3w hiN).trans ?_
      rw [Nat.zero_add]
      refine (z92 (by rw [z8G]; omega)).trans ?_
      refine (z3T (show i + 1 ≤ kmax .i64 from (by show i + 1 ≤ 9223372036854775807; omega))).trans ?_
      rw [zgn]
  | j' + 1, j, f + 1, c, zs, hj, hf, hl, hs, hc => by
    have hjl : j < ys.length := by omega
    have hyj : ys[j]? = some (ys.getD j 0) := by rw [List.getD_eq_getElem?_getD, List.getElem?_eq_getElem hjl]; rfl
    have hzj : zs[i + j]? = some (zs.getD (i + j) 0) := by rw [List.getD_eq_getElem?_getD, List.getElem?_eq_getElem (by omega)]; rfl
    have hb := hy _ (List.mem_of_getElem? hyj)
    have ho := hs _ (List.mem_of_getElem? hzj)
    obtain ⟨h, l, k1, e1, hl1⟩ := zm9 ha hb
    obtain ⟨lo2, c1, k2, hlo2, hc1, e2⟩ := zkW hl1 ho (Nat.zero_le 1)
    obtain ⟨lo3, c2, k3, hlo3, hc2, e3⟩ := zkW hlo2 hc (Nat.zero_le 1)
    have hd := zpa B64 a (ys.getD j 0) (zs.getD (i + j) 0) c h l lo2 c1 lo3 c2 e1 (e2.trans (Nat.add_zero _)) (e3.trans (Nat.add_zero _))
    have hC := zom B64 _ _ _ _ _ _ ha hb ho hc hd
    obtain ⟨zs', h1, h2, h3, h4⟩ := zmb (φ := φ) (ex := ex) (q8 := q8) (X24 := X24) (X25 := X25) ha hy hN hiN j' (j + 1) f (h + c1 + c2) (zs.set (i + j) lo3) (by omega) (by omega) (by simp [hl]) (zfI hs hlo3) hC
    refine ⟨zs', h1, h2, ?_, ?_⟩
    · have e4 := zhz lo3 hzj
      have e5 := zq9 (B64 ^ (i + j)) B64 _ _ _ _ _ _ _ _ e4 hd
      rw [z9w, Nat.mul_add, Nat.add_mul, show i + (j + 1) = (i + j) + 1 from rfl, Nat.pow_succ] at h3
      have e6 : a * (ys.getD j 0 * B64 ^ j) * B64 ^ i = a * ys.getD j 0 * B64 ^ (i + j) := by
        rw [Nat.pow_add, Nat.mul_comm (B64 ^ i), ← Nat.mul_assoc, ← Nat.mul_assoc]
      have e7 : (zs.set (i + j) lo3).getD (i + ys.length) 0 = zs.getD (i + ys.length) 0 := by
        rw [List.getD_eq_getElem?_getD, List.getD_eq_getElem?_getD, List.getElem?_set_ne (by omega)]
      rw [e6, e7] at h3
      generalize B64 ^ (i + ys.length) = P1 at *
      generalize (h + c1 + c2) * (B64 ^ (i + j) * B64) = P2 at *
      generalize a * ys.getD j 0 * B64 ^ (i + j) = P3 at *
      generalize a * val (List.take j ys) * B64 ^ i = P4 at *
      generalize c * B64 ^ (i + j) = P5 at *
      generalize a * val ys * B64 ^ i = P6 at *
      generalize zs.getD (i + ys.length) 0 * P1 = P7 at *
      clear hd hC e1 e2 e3 e4 k1 k2 k3 h4
      omega
    · rw [← h4, z1j]; conv => lhs; unfold muF
      rw [z3i, zy hjl, z1s]
      refine (zkv hyj).trans ?_
      refine (k1 _ _).trans ?_
      refine (z3T (show i + j ≤ kmax .i64 from (by show i + j ≤ 9223372036854775807; omega))).trans ?_
      refine (z3w (show i + j < N by omega)).trans ?_
      rw [Nat.zero_add]
      refine (z7D (zaw hzj)).trans ?_
      refine (k2 _ _).trans ?_
      refine (z3T (show h + c1 ≤ kmax .u64 from Nat.le_of_lt_succ (Nat.lt_of_le_of_lt (Nat.le_add_right _ c2) hC))).trans ?_
      refine (k3 _ _).trans ?_
      refine (z3T (show i + j ≤ kmax .i64 from (by show i + j ≤ 9223372036854775807; omega))).trans ?_
      refine (z3T (show h + c1 + c2 ≤ kmax .u64 from Nat.le_of_lt_succ hC)).trans ?_
      refine (z3w (show i + j < N by omega)).trans ?_
      rw [Nat.zero_add]
      refine (z92 (by rw [z8G]; omega)).trans ?_
      refine (z3T (show j + 1 ≤ kmax .i64 from (by show j + 1 ≤ 9223372036854775807; omega))).trans ?_
      rw [zgn]; rfl
end
end Go.Proofs.Ev
namespace Go.Proofs.Ev
noncomputable section
def moF (φ : Nat) (q8 : D → D → D → D → D → LS → Rs) (x9 x10 x11 x12 x13 : D) (s : LS) : Rs := (
 kLss x13 x12 fun x14 =>
 z5 x14
(z1 1 s x11 x13 fun x15 s =>
 z4 s x15 fun x16 s =>
 kLen x9 s fun x17 s =>
 lp (fun (_ _ _ _ _ _ _ _ _ _ _ : D) (_ : LS) => none) (muF φ q8) φ x9 x10 x13 x16 (.i .u64 (.ofNat 0)) x11 x12 x13 x9 x17 (.i .i64 (.ofNat 0)) s)
((zH φ) [x10] s fun x54 s =>
 retK false s x54 some))
theorem zmc {xs ys : List Nat} {N φ : Nat} {ex ex' : Bool} (hx : z4O xs) (hy : z4O ys) (hN : N ≤ 1000000000) (hNe : N = xs.length + ys.length) (hφ : ys.length < φ) :
    ∀ (k i f : Nat) (zs : List Nat), k + i = xs.length → k < f → zs.length = N → z4O zs → val zs = val (xs.take i) * val ys →
    ∃ zs' : List Nat, zs'.length = N ∧ z4O zs' ∧ val zs' = val xs * val ys ∧
      lp (fun (_ _ _ _ _ : D) (_ : LS) => none) (moF φ) f (.tree (c64 ys) ys.length ex) (.sl 0 0 N N 1 true) (.tree (c64 xs) xs.length ex') (.i .i64 (.ofNat xs.length)) (.i .i64 (.ofNat i)) (st1 (c64 zs))
        = zH φ [.sl 0 0 N N 1 true] (st1 (c64 zs')) fun x54 s => retK false s x54 some
  | 0, i, f + 1, zs, hi, hf, hl, hs, hv => by
    have hi : i = xs.length := by omega
    subst hi
    refine ⟨zs, hl, hs, by rw [hv, List.take_length], ?_⟩
    rw [z1j]; unfold moF
    rw [z3i, zB (Nat.lt_irrefl _), z13]
  | k + 1, i, f + 1, zs, hi, hf, hl, hs, hv => by
    have hix : i < xs.length := by omega
    have hxi : xs[i]? = some (xs.getD i 0) := by rw [List.getD_eq_getElem?_getD, List.getElem?_eq_getElem hix]; rfl
    obtain ⟨zs1, h1, h2, h3, h4⟩ := zmb (φ := φ) (ex := ex) (q8 := lp (fun (_ _ _ _ _ : D) (_ : LS) => none) (moF φ) f) (X24 := .tree (c64 xs) xs.length ex') (X25 := .i .i64 (.ofNat xs.length)) (i := i) (hx _ (List.mem_of_getElem? hxi)) hy hN (by omega) ys.length 0 φ 0 zs (by omega) hφ hl hs (by decide)
    have htop : zs.getD (i + ys.length) 0 = 0 := by
      have hz : zs[i + ys.length]? = some (zs.getD (i + ys.length) 0) := by rw [List.getD_eq_getElem?_getD, List.getElem?_eq_getElem (by omega)]; rfl
      have hlt : val zs < B64 ^ (i + ys.length) := by
        rw [hv, Nat.pow_add]
        have g1 := zfD (ws := xs.take i) fun w hw => hx w (List.mem_of_mem_take hw)
        rw [List.length_take, Nat.min_eq_left (by omega)] at g1
        exact Nat.mul_lt_mul_of_lt_of_le g1 (Nat.le_of_lt (zfD hy)) (Nat.pow_pos (by decide))
      rw [zeG hs hz, Nat.div_eq_of_lt hlt, Nat.zero_mod]
    rw [htop] at h3
    obtain ⟨zs2, g1, g2, g3, g4⟩ := zmc hx hy hN hNe hφ k (i + 1) f zs1 (by omega) (by omega) h1 h2 (by
      rw [z9w, Nat.add_mul]
      rw [Nat.zero_mul, Nat.zero_mul, List.take_zero, show val [] = 0 from rfl, Nat.mul_zero, Nat.zero_mul] at h3
      rw [show xs.getD i 0 * B64 ^ i * val ys = xs.getD i 0 * val ys * B64 ^ i by rw [Nat.mul_assoc, Nat.mul_comm (B64 ^ i), ← Nat.mul_assoc], ← hv]
      omega)
    refine ⟨zs2, g1, g2, g3, ?_⟩
    rw [← g4, ← h4, z1j]; conv => lhs; unfold moF
    rw [z3i, zy hix, z1s]
    refine (zkv hxi).trans ?_
    rfl
end
end Go.Proofs.Ev
namespace Go.Proofs.Ev
theorem zhF (l : List UInt8) : ze l 0 < 256 ^ l.length := by
  induction l with
  | nil => exact Nat.one_pos
  | cons a x ih =>
    show ze x (0 * 256 + a.toNat) < 256 ^ (x.length + 1)
    rw [z37, Nat.zero_mul, Nat.zero_add, Nat.pow_succ]
    have ha : a.toNat + 1 ≤ 256 := a.toNat_lt
    have h2 : (a.toNat + 1) * 256 ^ x.length ≤ 256 * 256 ^ x.length := Nat.mul_le_mul_right _ ha
    rw [Nat.add_mul, Nat.one_mul] at h2
    rw [Nat.mul_comm (256 ^ x.length) 256]
    omega
theorem blt_eq {a b c d : Nat} (h : a < b ↔ c < d) : Nat.blt a b = Nat.blt c d := by
  by_cases h1 : a < b
  · rw [zy h1, zy (h.1 h1)]
  · rw [zB h1, zB fun h2 => h1 (h.2 h2)]
theorem zkr : ∀ {x y : List UInt8}, x.length = y.length → Op.bytesLess x y = Nat.blt (ze x 0) (ze y 0)
  | [], [], _ => rfl
  | a :: x, b :: y, h => by
    have hl : x.length = y.length := Nat.succ.inj h
    have ih := zkr hl
    show (decide (a < b) || (a == b && Op.bytesLess x y)) = Nat.blt (ze x (0 * 256 + a.toNat)) (ze y (0 * 256 + b.toNat))
    rw [z37 x, z37 y, ih, Nat.zero_mul, Nat.zero_add, Nat.zero_add, ← hl]
    have hx := zhF x
    have hy := zhF y
    rw [← hl] at hy
    generalize 256 ^ x.length = P at *
    generalize ze x 0 = vx at *
    generalize ze y 0 = vy at *
    rcases Nat.lt_trichotomy a.toNat b.toNat with h1 | h1 | h1
    · have h2 : a < b := UInt8.lt_iff_toNat_lt.2 h1
      rw [decide_eq_true h2, Bool.true_or]
      have h3 : (a.toNat + 1) * P ≤ b.toNat * P := Nat.mul_le_mul_right _ h1
      rw [Nat.add_mul, Nat.one_mul] at h3
      rw [zy (by omega)]
    · have h2 : a = b := UInt8.toNat_inj.1 h1
      subst h2
      have h3 : ¬ a < a := UInt8.lt_irrefl a
      rw [decide_eq_false h3, Bool.false_or, beq_self_eq_true, Bool.true_and]
      exact blt_eq (by omega)
    · have h2 : ¬ a < b := fun h => by have := UInt8.lt_iff_toNat_lt.1 h; omega
      have h4 : (a == b) = false := by
        apply beq_eq_false_iff_ne.2
        intro e; subst e; omega
      rw [decide_eq_false h2, Bool.false_or, h4, Bool.false_and]
      have h3 : (b.toNat + 1) * P ≤ a.toNat * P := Nat.mul_le_mul_right _ h1
      rw [Nat.add_mul, Nat.one_mul] at h3
      rw [zB (by omega)]
theorem zoG {a b : Nat} (h : (zw a).length < (zw b).length) : a < b := by
  have h1 := zhF (zw a)
  rw [z4J] at h1
  have hb : 0 < b := by
    rcases Nat.eq_zero_or_pos b with h0 | h0
    · subst h0; rw [zhH] at h; exact absurd h (Nat.not_lt_zero _)
    · exact h0
  obtain ⟨h2, h3⟩ := zas hb
  have h4 : 256 ^ (zw a).length ≤ 256 ^ ((zw b).length - 1) := Nat.pow_le_pow_right (by decide) (by omega)
  omega
theorem znQ {a b : Nat} (h : (zw a).length = (zw b).length) : Op.bytesLess (zw a) (zw b) = Nat.blt a b := by
  rw [zkr h, z4J, z4J]
end Go.Proofs.Ev
namespace Go.Proofs.Ev
noncomputable section
variable {s : LS} {K : D → LS → Rs}
inductive HT (s : LS) : D → List Nat → Prop
  | tr {ws : List Nat} {ex : Bool} : HT s (.tree (c64 ws) ws.length ex) ws
  | sl {l cm : Nat} {ex : Bool} {ws : List Nat} {b : Blk} (hg : s.get l = some b) (hc : b.cs = c64 ws) (hl : b.st.live = true) : HT s (.sl l 0 ws.length cm 1 ex) ws
theorem Hold.ht {x : D} {ws : List Nat} (h : Hold s x ws) : HT s x ws := by
  cases h with
  | nil => exact HT.tr (ws := [])
  | sl hg => exact .sl hg rfl rfl
theorem zpo {x : D} {ws : List Nat} (h : HT s x ws) : kLen x s K = K (.i .i64 (.ofNat ws.length)) s := by
  cases h <;> rfl
theorem zlP {x : D} {ws : List Nat} {n : Nat} (h : HT s x ws) : ∃ ex ls, (∀ kk, resK s (n + 2) x kk = kk (.tree (c64 ws) ws.length ex) ls) ∧ ∀ l, l ∈ ls → ∃ b, s.get l = some b := by
  cases h with
  | @tr ws ex => exact ⟨ex, [], fun kk => rfl, fun l h => by cases h⟩
  | @sl l cm ex ws b hg hc hl =>
    refine ⟨cnd ex (Nat.beq cm ws.length) false, [l], fun kk => ?_, fun l' h => ⟨b, by rw [List.mem_singleton.1 h]; exact hg⟩⟩
    show (kGet s l fun b => cnd (lv b.st) (z8V 0 b.cs fun r => z9W (Nat.mul ws.length 1) r fun r => mapK (resK s (n + 1)) r fun cs ls => frcB (cnd ex (Nat.beq cm ws.length) false) fun ex => kk (.tree cs ws.length ex) (l :: ls)) none) = _
    rw [z5F, hg]
    show cnd (lv b.st) (z8V 0 b.cs fun r => z9W (Nat.mul ws.length 1) r fun r => mapK (resK s (n + 1)) r fun cs ls => frcB (cnd ex (Nat.beq cm ws.length) false) fun ex => kk (.tree cs ws.length ex) (l :: ls)) none = _
    have hlen : (c64 ws).length = ws.length := by simp [c64]
    rw [zjI, hl, zx, hc, z34, z9E, show Nat.mul ws.length 1 = ws.length from Nat.mul_one _, List.drop_zero, if_pos (by omega), List.take_of_length_le (by omega), zhL, z66]
theorem zi2 : ∀ (ls : List Nat) (s : LS), (∀ l, l ∈ ls → ∃ b, s.get l = some b) → ∃ s', (∀ k, frzK ls s k = k s') ∧ (∀ x ws, HT s x ws → HT s' x ws) ∧ (s.fit → s'.fit)
  | [], s, h => ⟨s, fun k => rfl, fun _ _ h => h, id⟩
  | l :: ls, s, h => by
    obtain ⟨b, hb⟩ := h l (List.mem_cons_self ..)
    obtain ⟨s', h1, h2, h3⟩ := zi2 ls (s.put l ⟨b.cs, fzS b.st⟩) fun l' hl => by
      obtain ⟨b', hb'⟩ := h l' (List.mem_cons_of_mem _ hl)
      rw [z8i hb]
      by_cases e : l' = l
      · rw [if_pos e]; exact ⟨_, rfl⟩
      · rw [if_neg e]; exact ⟨_, hb'⟩
    refine ⟨s', fun k => ?_, fun x ws hx => h2 x ws ?_, fun hs => h3 rfl⟩
    · show (kGet s l fun b => kPut s l ⟨b.cs, fzS b.st⟩ fun s => frzK ls s k) = _
      rw [z5F, hb]
      show (kPut s l ⟨b.cs, fzS b.st⟩ fun s => frzK ls s k) = _
      rw [zhP hb, h1]
    · cases hx with
      | tr => exact .tr
      | @sl l2 cm ex ws b2 hg hc hl =>
        by_cases e : l2 = l
        · subst e
          rw [hb] at hg
          cases hg
          exact .sl (b := ⟨b.cs, fzS b.st⟩) (by rw [z8i hb, if_pos rfl]) hc (by show (fzS b.st).live = true; rw [zoL, zi1]; assumption)
        · exact .sl (by rw [z8i hb, if_neg e]; exact hg) hc hl
theorem zjM {M : List D → Option D} {x y : D} {xs ys : List Nat} (hx : HT s x xs) (hy : HT s y ys) : ∃ ex ey ls, (∀ K, isoK M [x, y] s K = ob (M [.tree (c64 xs) xs.length ex, .tree (c64 ys) ys.length ey]) fun r => finK s ls r K) ∧ ∀ l, l ∈ ls → ∃ b, s.get l = some b := by
  obtain ⟨ex, l1, h1, g1⟩ := zlP (n := 58) hx
  obtain ⟨ey, l2, h2, g2⟩ := zlP (n := 58) hy
  refine ⟨ex, ey, l1 ++ (l2 ++ []), fun K => ?_, fun l hl => ?_⟩
  · show resK s 60 x (fun y1 a => resK s 60 y fun y2 b => appK b [] fun ab => appK a ab fun ab => ob (M [y1, y2]) fun r => finK s ab r K) = _
    rw [h1, h2, z7G, z7G]
  · rw [List.append_nil] at hl
    rcases List.mem_append.1 hl with h | h
    · exact g1 l h
    · exact g2 l h
theorem zod {ls : List Nat} {cs : List D} {n : Nat} {e : Bool} : finK s ls (.tree cs n e) K = frzK ls s fun s => K (.tree cs n e) s := rfl
theorem zmY {ls : List Nat} {cs ds : List D} {n m : Nat} {e f : Bool} : finK s ls (.tup [.tree cs n e, .tree ds m f]) K = frzK ls s fun s => K (.tup [.tree cs n e, .tree ds m f]) s := rfl
theorem zau {x : D} {ws : List Nat} (hx : HT s x ws) (h : z4O ws) (hl : ws.length ≤ 1000000000) : isoK zaq [x] s K = K (.n (val ws)) s := by
  obtain ⟨ex, ls, hr, _⟩ := zlP (n := 58) hx
  show resK s 60 x (fun y a => appK a [] fun ab => ob (zaq [y]) fun r => finK s ab r K) = _
  rw [hr, z7G, zhe h hl]
  rfl
theorem zp5 {ws : List Nat} {m len : Nat} (hm : m ≤ ws.length) : ∃ e, retK false (st1 (c64 ws)) (.sl 0 0 m len 1 true) some = some (.tree (c64 (ws.take m)) m e) := by
  refine ⟨true && len == m, ?_⟩
  unfold retK
  rw [zjT]
  show frcO (extr false (st1 (c64 ws)).get z2N (.sl 0 0 m len 1 true)) some = _
  have : extr false (st1 (c64 ws)).get z2N (.sl 0 0 m len 1 true) = some (.tree (c64 (ws.take m)) m (true && len == m)) := by
    have hcut : cut 0 (m * 1) (c64 ws) = some (c64 (ws.take m)) := by
      unfold cut
      rw [List.drop_zero, Nat.mul_one, if_pos (by rw [List.length_take, z8G]; omega)]
      unfold c64; rw [List.map_take]
    have hm : mapO (res (st1 (c64 ws)).get 59) (c64 (ws.take m)) = some (c64 (ws.take m), []) := z90 (k := 58) _ (zic _)
    have hr : res (st1 (c64 ws)).get 60 (.sl 0 0 m len 1 true) = some (.tree (c64 (ws.take m)) m (true && len == m), [0]) := by
      show (match (st1 (c64 ws)).get 0 with
        | some b => if !b.st.live then none else match cut 0 (m * 1) b.cs with
          | some r => match mapO (res (st1 (c64 ws)).get 59) r with
            | some (cs, ls) => some (D.tree cs m (true && len == m), 0 :: ls)
            | none => none
          | none => none
        | none => none) = _
      rw [zap]
      show (if !Stt.rw.live then none else match cut 0 (m * 1) (c64 ws) with
          | some r => match mapO (res (st1 (c64 ws)).get 59) r with
            | some (cs, ls) => some (D.tree cs m (true && len == m), 0 :: ls)
            | none => none
          | none => none) = _
      rw [if_neg (by decide), hcut]
      show (match mapO (res (st1 (c64 ws)).get 59) (c64 (ws.take m)) with
            | some (cs, ls) => some (D.tree cs m (true && len == m), 0 :: ls)
            | none => none) = _
      rw [hm]
    show (match resE (res (st1 (c64 ws)).get 60 (.sl 0 0 m len 1 true)) with
      | some (d, o, ls) => if o.all fun l => !ls.contains l then some d else none
      | none => none) = _
    rw [hr]; rfl
  rw [this, z45]; rfl
theorem ziY {xs ys : List Nat} {ex ey : Bool} {φ : Nat} (hx : z4O xs) (hy : z4O ys) (hn : xs.length + ys.length ≤ 1000000000) (hφ : xs.length + ys.length < φ) :
    ∃ zs e, z4O zs ∧ val zs = val xs * val ys ∧ zs.length ≤ xs.length + ys.length ∧ z2u φ [.tree (c64 xs) xs.length ex, .tree (c64 ys) ys.length ey] = some (.tree (c64 zs) zs.length e) := by
  obtain ⟨zs, h1, h2, h3, h4⟩ := zmc (N := xs.length + ys.length) (φ := φ) (ex := ey) (ex' := ex) hx hy hn rfl (by omega) xs.length 0 φ (List.replicate (xs.length + ys.length) 0) (by omega) (by omega) (by simp) (ziH _) (by rw [zju, List.take_zero]; show 0 = 0 * val ys; rw [Nat.zero_mul])
  have e0 : z2u φ [.tree (c64 xs) xs.length ex, .tree (c64 ys) ys.length ey] = zH φ [.sl 0 0 (xs.length + ys.length) (xs.length + ys.length) 1 true] (st1 (c64 zs)) fun x54 s => retK false s x54 some := by
    rw [← h4]
    show (kLen (.tree (c64 xs) xs.length ex) s0 fun x3 s => kLen (.tree (c64 ys) ys.length ey) s fun x4 s => kAdd x3 x4 fun x5 => z24 1 8 [(.i .u64 (.ofNat 0))] s x5 x5 fun x6 s => kLen (.tree (c64 xs) xs.length ex) s fun x7 s =>
      lp (fun (_ _ _ _ _ : D) (_ : LS) => none) (moF φ) φ (.tree (c64 ys) ys.length ey) x6 (.tree (c64 xs) xs.length ex) x7 (.i .i64 (.ofNat 0)) s) = _
    refine (zhT).trans ?_
    refine (zhT).trans ?_
    refine (z3T (show xs.length + ys.length ≤ kmax .i64 from (by show xs.length + ys.length ≤ 9223372036854775807; omega))).trans ?_
    refine (zep (by omega) (by omega)).trans ?_
    refine (zhT).trans ?_
    rw [zjY]
  by_cases h0 : xs.length + ys.length = 0
  · have hz : zs = [] := List.eq_nil_of_length_eq_zero (by omega)
    subst hz
    refine ⟨[], true, fun w hw => (by cases hw), h3, by simp, ?_⟩
    rw [e0, h0]
    obtain ⟨f, rfl⟩ : ∃ f, φ = f + 1 := ⟨φ - 1, by omega⟩
    rw [zhA]
    rfl
  · obtain ⟨m, g1, g2, g3⟩ := zha (k := fun x54 s => retK false s x54 some) (by omega) (by omega) h1 (xs.length + ys.length) φ (Nat.le_refl _) hφ
    obtain ⟨e, g4⟩ := zp5 (ws := zs) (m := m) (len := xs.length + ys.length) (by omega)
    refine ⟨zs.take m, e, fun w hw => h2 w (List.mem_of_mem_take hw), ?_, ?_, ?_⟩
    · rw [g2, ← h1, List.take_length, h3]
    · rw [List.length_take]; omega
    · rw [e0, zhA]
      refine (zhU).trans ?_
      refine Eq.trans g3 ?_
      rw [g4, List.length_take, Nat.min_eq_left (by omega)]
theorem zl8 {x y φ : Nat} (hx : Nat.log2 x ≤ 1000000000) (hy : Nat.log2 y ≤ 1000000000) (hφ : Nat.log2 x / 64 + Nat.log2 y / 64 + 2 < φ) : z80 φ [.n x, .n y] = some (.n (x * y)) := by
  obtain ⟨X, s1, xs, k1, hX, sx, vx, lx, m1, _⟩ := z9c (s := s0) (m := x) rfl hx
  obtain ⟨Y, s2, ys, k2, hY, sy, vy, ly, m2, _⟩ := z9c (s := s1) (m := y) (m1.len rfl) hy
  unfold z80
  refine (k1 _).trans ?_
  refine (k2 _).trans ?_
  obtain ⟨ex, ey, ls, h1, h2⟩ := zjM (M := z2u φ) (hX.more m2).ht hY.ht
  obtain ⟨s3, f1, f2, f3⟩ := zi2 ls s2 h2
  obtain ⟨zs, e, g1, g2, g3, g4⟩ := ziY (ex := ex) (ey := ey) (φ := φ) sx sy (by omega) (by omega)
  refine (h1 _).trans ?_
  rw [g4]
  show finK s2 ls (.tree (c64 zs) zs.length e) _ = _
  rw [zod, f1]
  refine (zau HT.tr g1 (by omega)).trans ?_
  rw [g2, vx, vy]; rfl
def z7B (as : List D) : Option D :=
  u1 as fun a r => u1 r fun b r => u0 r (z8F a fun x => z8F b fun y => cnd (Nat.ble (Nat.log2 x) 1000000000) (cnd (Nat.ble (Nat.log2 y) 1000000000) (frc (Nat.mul x y) fun z => some (.n z)) none) none)
theorem zjE {as : List D} {r : D} (h : z7B as = some r) : ∃ φ, z80 φ as = some r := by
  obtain ⟨a, r1, rfl, g1⟩ := z1r h
  obtain ⟨b, r2, rfl, g2⟩ := z1r g1
  obtain ⟨rfl, g3⟩ := z4m g2
  obtain ⟨x, rfl, g4⟩ := z1b g3
  obtain ⟨y, rfl, g5⟩ := z1b g4
  obtain ⟨h1, g6⟩ := zt g5
  obtain ⟨h2, h⟩ := zt g6
  rw [zC] at h
  exact ⟨Nat.log2 x / 64 + Nat.log2 y / 64 + 3, by rw [zl8 (Nat.le_of_ble_eq_true h1) (Nat.le_of_ble_eq_true h2) (by omega)]; exact h⟩
theorem zqc {a b : Nat} {k : D → Rs} : kLss (.n a) (.n b) k = k (.b (Op.bytesLess (zw a) (zw b))) := by
  show z12 .lss (.n a) (.n b) k = _
  unfold z12
  rw [z45]; rfl
theorem zoI {a b : Nat} {k : D → Rs} : kEql (.n a) (.n b) k = k (.b (Nat.beq a b)) := by
  show z12 .eql (.n a) (.n b) k = _
  unfold z12
  rw [z45]; rfl
theorem zla {x y φ : Nat} : z81 φ [.n x, .n y] = some (cnd (Nat.blt x y) (.i .i64 (.negSucc 0)) (cnd (Nat.beq x y) (.i .i64 (.ofNat 0)) (.i .i64 (.ofNat 1)))) := by
  unfold z81
  dsimp only [z6u, zad]
  rw [zg5, zg5, z3i]
  by_cases h1 : (zw x).length < (zw y).length
  · rw [zy h1, zy (zoG h1)]; rfl
  · rw [zB h1]
    simp only [zcF, z9O, show ∀ (op : (D → LS → Rs) → Rs) (s : LS) (k : D → LS → Rs), z0 (.b false) false op s k = op k from fun _ _ _ => rfl, zg5, z9P]
    by_cases h2 : (zw x).length = (zw y).length
    · rw [h2, z2R]
      simp only [z9O, zqc, znQ h2, z6z, z9Y]
      by_cases h3 : x < y
      · rw [zy h3, z1s]; rfl
      · rw [zB h3, z13, zoI]
        cases Nat.beq x y <;> rfl
    · rw [z4Z h2]
      simp only [zcF, z6z, z9Y, z13, zoI]
      have h3 : y < x := zoG (by omega)
      rw [zB (by omega), z4Z (show x ≠ y by omega)]; rfl
def z97 (as : List D) : Option D :=
  u1 as fun a r => u1 r fun b r => u0 r (z8F a fun x => z8F b fun y => some (cnd (Nat.blt x y) (.i .i64 (.negSucc 0)) (cnd (Nat.beq x y) (.i .i64 (.ofNat 0)) (.i .i64 (.ofNat 1)))))
theorem zjG {as : List D} {r : D} (h : z97 as = some r) : ∃ φ, z81 φ as = some r := by
  obtain ⟨a, r1, rfl, g1⟩ := z1r h
  obtain ⟨b, r2, rfl, g2⟩ := z1r g1
  obtain ⟨rfl, g3⟩ := z4m g2
  obtain ⟨x, rfl, g4⟩ := z1b g3
  obtain ⟨y, rfl, g5⟩ := z1b g4
  exact ⟨0, by rw [zla]; exact g5⟩
end
end Go.Proofs.Ev
set_option maxRecDepth 1000000
set_option maxHeartbeats 0
namespace Go.Proofs.Ev
noncomputable section
def z33 (φ : Nat) : List D → Option D :=
fun as =>
(fun (s : LS) =>
 u1 as fun c g =>
 u1 g fun d h =>
 u0 h (
 kLen c s fun k s =>
 kLen d s fun l s =>
 kNeq k l fun m =>
 z5 m
(kLen c s fun n s =>
 kLen d s fun o s =>
 kLss n o fun p =>
 z5 p
(retK false s (.i .i64 (.negSucc 0)) some)
(retK false s (.i .i64 (.ofNat 1)) some))
(kLen c s fun u s =>
 kSub u (.i .i64 (.ofNat 1)) fun v =>
 lp (fun (_ _ _ : D) (_ : LS) => none) (fun (w : D → D → D → LS → Rs) (e f b : D) (s : LS) =>
 kGeq b (.i .i64 (.ofNat 0)) fun y =>
 z5 y
(z1 1 s e b fun z s =>
 z4 s z fun A s =>
 z1 1 s f b fun B s =>
 z4 s B fun C s =>
 kNeq A C fun E =>
 z5 E
(z1 1 s e b fun F s =>
 z4 s F fun G s =>
 z1 1 s f b fun H s =>
 z4 s H fun I s =>
 kLss G I fun J =>
 z5 J
(retK false s (.i .i64 (.negSucc 0)) some)
(retK false s (.i .i64 (.ofNat 1)) some))
(kSub b (.i .i64 (.ofNat 1)) fun K =>
 w e f K s))
(retK false s (.i .i64 (.ofNat 0)) some)) φ c d v s))) s0
def z5q (φ : Nat) : List D → Option D :=
fun as =>
(fun (s : LS) =>
 u1 as fun b m =>
 u0 m (
 jn (fun (d f : D) (s : LS) =>
 jn (fun (e g : D) (s : LS) =>
 jn (fun (n o : D) (s : LS) =>
 z2s .u8 n s fun p s =>
 kS (.index (.c (.s [0, 1, 2, 2, 3, 3, 3, 3, 4, 4, 4, 4, 4, 4, 4, 4, 5, 5, 5, 5, 5, 5, 5, 5, 5, 5, 5, 5, 5, 5, 5, 5, 6, 6, 6, 6, 6, 6, 6, 6, 6, 6, 6, 6, 6, 6, 6, 6, 6, 6, 6, 6, 6, 6, 6, 6, 6, 6, 6, 6, 6, 6, 6, 6, 7, 7, 7, 7, 7, 7, 7, 7, 7, 7, 7, 7, 7, 7, 7, 7, 7, 7, 7, 7, 7, 7, 7, 7, 7, 7, 7, 7, 7, 7, 7, 7, 7, 7, 7, 7, 7, 7, 7, 7, 7, 7, 7, 7, 7, 7, 7, 7, 7, 7, 7, 7, 7, 7, 7, 7, 7, 7, 7, 7, 7, 7, 7, 7, 8, 8, 8, 8, 8, 8, 8, 8, 8, 8, 8, 8, 8, 8, 8, 8, 8, 8, 8, 8, 8, 8, 8, 8, 8, 8, 8, 8, 8, 8, 8, 8, 8, 8, 8, 8, 8, 8, 8, 8, 8, 8, 8, 8, 8, 8, 8, 8, 8, 8, 8, 8, 8, 8, 8, 8, 8, 8, 8, 8, 8, 8, 8, 8, 8, 8, 8, 8, 8, 8, 8, 8, 8, 8, 8, 8, 8, 8, 8, 8, 8, 8, 8, 8, 8, 8, 8, 8, 8, 8, 8, 8, 8, 8, 8, 8, 8, 8, 8, 8, 8, 8, 8, 8, 8, 8, 8, 8, 8, 8, 8, 8, 8, 8, 8, 8, 8, 8, 8, 8, 8, 8, 8, 8, 8, 8, 8, 8])) (.c p)) s fun u s =>
 z2s .i64 u s fun v s =>
 kAdd o v fun w =>
 retK false s w some) fun h =>
 kGeq e (.i .u64 (.ofNat 256)) fun y =>
 z5 y
(kShr e (.i .u64 (.ofNat 8)) fun z =>
 kAdd g (.i .i64 (.ofNat 8)) fun A =>
 h z A s)
(h e g s)) fun k =>
 kGeq d (.i .u64 (.ofNat 65536)) fun B =>
 z5 B
(kShr d (.i .u64 (.ofNat 16)) fun C =>
 kAdd f (.i .i64 (.ofNat 16)) fun E =>
 k C E s)
(k d f s)) fun l =>
 kGeq b (.i .u64 (.ofNat 4294967296)) fun F =>
 z5 F
(kShr b (.i .u64 (.ofNat 32)) fun G =>
 l G (.i .i64 (.ofNat 32)) s)
(l b (.i .i64 (.ofNat 0)) s))) s0
def z2y (φ : Nat) : List D → Option D :=
fun as =>
(fun (s : LS) =>
 u1 as fun b c =>
 u0 c (
 isoK (z5q φ) [b] s fun d s =>
 kSub (.i .i64 (.ofNat 64)) d fun e =>
 retK false s e some)) s0
def z2C (φ : Nat) : List D → Option D :=
fun as =>
(fun (s : LS) =>
 u1 as fun bm bn =>
 u1 bn fun bo bp =>
 u1 bp fun M bu =>
 u0 bu (
 jn (fun (N bv O : D) (s : LS) =>
 jn (fun (P g h : D) (s : LS) =>
 kEql P (.i .u64 (.ofNat 0)) fun bw =>
 z5 bw
(kQuo g h fun bz =>
 kRem g h fun bA =>
 retK false s (.tup [bz, bA]) some)
(isoK (z2y φ) [h] s fun bB s =>
 z2s .u64 bB s fun f s =>
 kShl h f fun w =>
 kShr w (.i .u64 (.ofNat 32)) fun y =>
 kAnd w (.i .u64 (.ofNat 4294967295)) fun bC =>
 kShl P f fun bE =>
 kSub (.i .u64 (.ofNat 64)) f fun bF =>
 kShr g bF fun bG =>
 kOr bE bG fun z =>
 kShl g f fun S =>
 kShr S (.i .u64 (.ofNat 32)) fun bH =>
 kAnd S (.i .u64 (.ofNat 4294967295)) fun bI =>
 kQuo z y fun U =>
 kMul U y fun bJ =>
 kSub z bJ fun bK =>
 jn (fun (V bM A bN bO bP bS W : D) (s : LS) =>
 kMul bO (.i .u64 (.ofNat 4294967296)) fun bU =>
 kAdd bU bP fun bV =>
 kMul W V fun bW =>
 kSub bV bW fun B =>
 kQuo B A fun X =>
 kMul X A fun bX =>
 kSub B bX fun bY =>
 jn (fun (bZ cb cc cd ce Y : D) (s : LS) =>
 kMul cd (.i .u64 (.ofNat 4294967296)) fun cf =>
 kAdd cf Y fun cg =>
 kMul ce (.i .u64 (.ofNat 4294967296)) fun ch =>
 kAdd ch cc fun ci =>
 kMul Y bZ fun ck =>
 kSub ci ck fun cl =>
 kShr cl cb fun cm =>
 retK false s (.tup [cg, cm]) some) fun Z =>
 lp (fun (_ _ _ _ _ _ _ _ _ : D) (_ : LS) => none) (fun (cn : D → D → D → D → D → D → D → D → D → LS → Rs) (C E bb bc l F bd G m : D) (s : LS) =>
 kGeq m (.i .u64 (.ofNat 4294967296)) fun c =>
 z0 c false (fun k => k m s) s fun co s =>
 z0 c false (fun k => k bc s) s fun cp s =>
 z0 c false (fun k => kMul co cp fun d => k d s) s fun cu s =>
 z0 c false (fun k => k bd s) s fun cv s =>
 z0 c false (fun k => kMul (.i .u64 (.ofNat 4294967296)) cv fun d => k d s) s fun cw s =>
 z0 c false (fun k => k l s) s fun cy s =>
 z0 c false (fun k => kAdd cw cy fun d => k d s) s fun cz s =>
 z0 c false (fun k => kGtr cu cz fun d => k d s) s fun cA s =>
 zp c (.b true) cA s fun cB s =>
 z5 cB
(kSub m (.i .u64 (.ofNat 1)) fun bf =>
 kAdd bd bb fun bg =>
 kGeq bg (.i .u64 (.ofNat 4294967296)) fun cC =>
 z5 cC
(Z C E l F G bf s)
(cn C E bb bc l F bg G bf s))
(Z C E l F G m s)) φ V bM A bN bS W bY B X s) fun bh =>
 lp (fun (_ _ _ _ _ _ _ _ _ : D) (_ : LS) => none) (fun (cE : D → D → D → D → D → D → D → D → D → LS → Rs) (H I n o J p K v bi : D) (s : LS) =>
 kGeq v (.i .u64 (.ofNat 4294967296)) fun e =>
 z0 e false (fun k => k v s) s fun cF s =>
 z0 e false (fun k => k o s) s fun cG s =>
 z0 e false (fun k => kMul cF cG fun d => k d s) s fun cH s =>
 z0 e false (fun k => k bi s) s fun cI s =>
 z0 e false (fun k => kMul (.i .u64 (.ofNat 4294967296)) cI fun d => k d s) s fun cJ s =>
 z0 e false (fun k => k p s) s fun cK s =>
 z0 e false (fun k => kAdd cJ cK fun d => k d s) s fun cM s =>
 z0 e false (fun k => kGtr cH cM fun d => k d s) s fun cN s =>
 zp e (.b true) cN s fun cO s =>
 z5 cO
(kSub v (.i .u64 (.ofNat 1)) fun bk =>
 kAdd bi n fun bl =>
 kGeq bl (.i .u64 (.ofNat 4294967296)) fun cP =>
 z5 cP
(bh H I n o J p K bk s)
(cE H I n o J p K bk bl s))
(bh H I n o J p K v s)) φ w f y bC z bH bI U bK s)) fun cS =>
 kLeq O N fun cU =>
 z5 cU
(z4 s .u fun cX s =>
 none)
(cS N bv O s)) fun cV =>
 kEql M (.i .u64 (.ofNat 0)) fun cW =>
 z5 cW
(z4 s .u fun cY s =>
 none)
(cV bm bo M s))) s0
def z6X (φ : Nat) : List D → Option D :=
fun as =>
(fun (s : LS) =>
 u1 as fun e m =>
 u1 m fun n o =>
 u0 o (
 kLen e s fun p s =>
 kAdd p (.i .i64 (.ofNat 1)) fun h =>
 z24 1 8 [(.i .u64 (.ofNat 0))] s h h fun u s =>
 kLen e s fun v s =>
 lp (fun (_ _ _ _ _ : D) (_ : LS) => none) (fun (w : D → D → D → D → D → LS → Rs) (d c f g b : D) (s : LS) =>
 kLss b g fun y =>
 z5 y
(jn (fun (z A B C E : D) (s : LS) =>
 kAdd E (.i .i64 (.ofNat 1)) fun F =>
 w z A B C F s) fun k =>
 z1 1 s f b fun G s =>
 z4 s G fun l s =>
 z1 1 s c b fun H s =>
 z4 s H fun I s =>
 kShl l d fun J =>
 kOr I J fun K =>
 z1 1 s c b fun M s =>
 z6 1 s M K fun _ s =>
 kGtr d (.i .i64 (.ofNat 0)) fun N =>
 z5 N
(kAdd b (.i .i64 (.ofNat 1)) fun O =>
 kSub (.i .i64 (.ofNat 64)) d fun P =>
 kShr l P fun S =>
 z1 1 s c O fun U s =>
 z6 1 s U S fun _ s =>
 k d c f g b s)
(k d c f g b s))
(retK true s c some)) φ n u e v (.i .i64 (.ofNat 0)) s)) s0
def zcm (φ : Nat) : List D → LS → (D → LS → Rs) → Rs :=
fun as s k =>
 u1 as fun f bd =>
 u1 bd fun g bf =>
 u0 bf (
 kLen g s fun c s =>
 jn (fun (bg bh bi bk bl bm : D) (s : LS) =>
 jn (fun (bn bo E bp : D) (s : LS) =>
 lp (fun (_ _ _ _ _ _ _ _ : D) (_ : LS) => none) (fun (bu : D → D → D → D → D → D → D → D → LS → Rs) (h A n w F G H o : D) (s : LS) =>
 kLss o H fun bv =>
 z5 bv
(z1 1 s A o fun bw s =>
 z4 s bw fun bz s =>
 isoK zdc [w, bz] s fun I s =>
 kExt I 0 s fun bA s =>
 kExt I 1 s fun bB s =>
 z9b bB G (.i .u64 (.ofNat 0)) s fun J s =>
 kExt J 0 s fun bC s =>
 kExt J 1 s fun bE s =>
 kAdd bA bE fun bF =>
 z1 1 s h o fun bG s =>
 z4 s bG fun bH s =>
 zdD bH bC F s fun K s =>
 kExt K 0 s fun bI s =>
 kExt K 1 s fun bJ s =>
 z1 1 s h o fun bK s =>
 z6 1 s bK bI fun _ s =>
 kAdd o (.i .i64 (.ofNat 1)) fun bM =>
 bu h A n w bJ bF H bM s)
(z1 1 s h n fun bN s =>
 z4 s bN fun bO s =>
 zdD bO G F s fun M s =>
 kExt M 0 s fun bP s =>
 kExt M 1 s fun bS s =>
 z1 1 s h n fun bU s =>
 z6 1 s bU bP fun _ s =>
 kEql bS (.i .u64 (.ofNat 0)) fun bV =>
 z5 bV
(k w s)
(lp (fun (_ _ _ _ _ _ _ : D) (_ : LS) => none) (fun (bW : D → D → D → D → D → D → D → LS → Rs) (p N B O P S u : D) (s : LS) =>
 kLss u S fun bX =>
 z5 bX
(z1 1 s p u fun bY s =>
 z4 s bY fun bZ s =>
 z1 1 s N u fun cb s =>
 z4 s cb fun cc s =>
 z9b bZ cc P s fun U s =>
 kExt U 0 s fun cd s =>
 kExt U 1 s fun ce s =>
 z1 1 s p u fun cf s =>
 z6 1 s cf cd fun _ s =>
 kAdd u (.i .i64 (.ofNat 1)) fun cg =>
 bW p N B O ce S cg s)
(z1 1 s p B fun ch s =>
 z4 s ch fun ci s =>
 kAdd ci P fun ck =>
 z1 1 s p B fun cl s =>
 z6 1 s cl ck fun _ s =>
 kSub O (.i .u64 (.ofNat 1)) fun cm =>
 k cm s)) φ h A n w (.i .u64 (.ofNat 0)) n (.i .i64 (.ofNat 0)) s))) φ bn bo E bp (.i .u64 (.ofNat 0)) (.i .u64 (.ofNat 0)) E (.i .i64 (.ofNat 0)) s) fun V =>
 lp (fun (_ _ _ _ _ _ : D) (_ : LS) => none) (fun (cn : D → D → D → D → D → D → LS → Rs) (y v l z C co : D) (s : LS) =>
 kEql co (.i .u64 (.ofNat 0)) fun cp =>
 z5 cp
(kSub l (.i .i64 (.ofNat 2)) fun cu =>
 z1 1 s v cu fun cv s =>
 z4 s cv fun cw s =>
 isoK zdc [z, cw] s fun W s =>
 kExt W 0 s fun X s =>
 kExt W 1 s fun cy s =>
 kLss X C fun m =>
 z0 m false (fun k => k X s) s fun cz s =>
 z0 m false (fun k => k C s) s fun cA s =>
 z0 m false (fun k => kEql cz cA fun d => k d s) s fun cB s =>
 z0 m false (fun k => k cB s) s fun e s =>
 z0 e true (fun k => k cy s) s fun cC s =>
 z0 e true (fun k => k y s) s fun cE s =>
 z0 e true (fun k => k l s) s fun cF s =>
 z0 e true (fun k => kSub cF (.i .i64 (.ofNat 2)) fun d => k d s) s fun cG s =>
 z0 e true (fun k => z1 1 s cE cG k) s fun cH s =>
 z0 e true (fun k => z4 s cH k) s fun cI s =>
 z0 e true (fun k => kLeq cC cI fun d => k d s) s fun cJ s =>
 z0 m false (fun k => zp e cJ (.b false) s k) s fun cK s =>
 zp m (.b true) cK s fun cM s =>
 z5 cM
(V y v l z s)
(kSub z (.i .u64 (.ofNat 1)) fun cN =>
 kSub l (.i .i64 (.ofNat 1)) fun cO =>
 z1 1 s v cO fun cP s =>
 z4 s cP fun cS s =>
 z9b C cS (.i .u64 (.ofNat 0)) s fun Y s =>
 kExt Y 0 s fun cU s =>
 kExt Y 1 s fun cV s =>
 cn y v l cN cU cV s))
(V y v l z s)) φ bg bh bi bk bl bm s) fun Z =>
 z1 1 s f c fun cW s =>
 z4 s cW fun cX s =>
 kSub c (.i .i64 (.ofNat 1)) fun cY =>
 z1 1 s g cY fun cZ s =>
 z4 s cZ fun db s =>
 kGeq cX db fun dc =>
 z5 dc
(kSub c (.i .i64 (.ofNat 1)) fun dd =>
 z1 1 s f dd fun de s =>
 z4 s de fun df s =>
 kSub c (.i .i64 (.ofNat 1)) fun dg =>
 z1 1 s g dg fun dh s =>
 z4 s dh fun di s =>
 z9b df di (.i .u64 (.ofNat 0)) s fun bb s =>
 kExt bb 0 s fun dk s =>
 kExt bb 1 s fun dl s =>
 Z f g c (.i .u64 (.ofNat 18446744073709551615)) dk dl s)
(z1 1 s f c fun dm s =>
 z4 s dm fun dn s =>
 kSub c (.i .i64 (.ofNat 1)) fun dp =>
 z1 1 s f dp fun du s =>
 z4 s du fun dv s =>
 kSub c (.i .i64 (.ofNat 1)) fun dw =>
 z1 1 s g dw fun dy s =>
 z4 s dy fun dz s =>
 isoK (z2C φ) [dn, dv, dz] s fun bc s =>
 kExt bc 0 s fun dA s =>
 kExt bc 1 s fun dB s =>
 Z f g c dA dB (.i .u64 (.ofNat 0)) s))
def z20 (φ : Nat) : List D → Option D :=
fun as =>
(fun (s : LS) =>
 u1 as fun f O =>
 u1 O fun g P =>
 u0 P (
 isoK (z33 φ) [f, g] s fun S s =>
 kLss S (.i .i64 (.ofNat 0)) fun U =>
 z5 U
(retK false s (.tup [(.tree [] 0 true), f]) some)
(kLen g s fun V s =>
 kEql V (.i .i64 (.ofNat 1)) fun W =>
 z5 W
(kLen f s fun C s =>
 z24 1 8 [(.i .u64 (.ofNat 0))] s C C fun X s =>
 kLen f s fun Y s =>
 kSub Y (.i .i64 (.ofNat 1)) fun Z =>
 lp (fun (_ _ _ _ _ : D) (_ : LS) => none) (fun (bb : D → D → D → D → D → LS → Rs) (E F p G n : D) (s : LS) =>
 kGeq n (.i .i64 (.ofNat 0)) fun bc =>
 z5 bc
(z1 1 s E n fun bd s =>
 z4 s bd fun bf s =>
 z1 1 s F (.i .i64 (.ofNat 0)) fun bg s =>
 z4 s bg fun bh s =>
 isoK (z2C φ) [G, bf, bh] s fun H s =>
 kExt H 0 s fun bi s =>
 kExt H 1 s fun bk s =>
 z1 1 s p n fun bl s =>
 z6 1 s bl bi fun _ s =>
 kSub n (.i .i64 (.ofNat 1)) fun bm =>
 bb E F p bk bm s)
((zH φ) [p] s fun bn s =>
 kBsl 1 [(.i .u64 (.ofNat 0))] [(0, 1, G)] s fun bo s =>
(zH φ) [bo] s fun bp s =>
 retK false s (.tup [bn, bp]) some)) φ f g X (.i .u64 (.ofNat 0)) Z s)
(kLen g s fun bu s =>
 kSub bu (.i .i64 (.ofNat 1)) fun bv =>
 z1 1 s g bv fun bw s =>
 z4 s bw fun bz s =>
 isoK (z2y φ) [bz] s fun u s =>
 isoK (z6X φ) [g, u] s fun bA s =>
(zH φ) [bA] s fun I s =>
 isoK (z6X φ) [f, u] s fun bB s =>
 kLen I s fun v s =>
 kLen f s fun bC s =>
 kSub bC v fun bE =>
 kAdd bE (.i .i64 (.ofNat 1)) fun J =>
 z24 1 8 [(.i .u64 (.ofNat 0))] s J J fun bF s =>
 kLen f s fun bG s =>
 kSub bG v fun bH =>
 lp (fun (_ _ _ _ _ _ : D) (_ : LS) => none) (fun (bI : D → D → D → D → D → D → LS → Rs) (K M w o y l : D) (s : LS) =>
 kGeq l (.i .i64 (.ofNat 0)) fun bJ =>
 z5 bJ
(kAdd l o fun bK =>
 kAdd bK (.i .i64 (.ofNat 1)) fun bM =>
 z23 1 s w (some l) (some bM) none fun bN s =>
(zcm φ) [bN, M] s fun bO s =>
 z1 1 s y l fun bP s =>
 z6 1 s bP bO fun _ s =>
 kSub l (.i .i64 (.ofNat 1)) fun bS =>
 bI K M w o y bS s)
(lp (fun (_ _ _ _ _ _ : D) (_ : LS) => none) (fun (bU : D → D → D → D → D → D → LS → Rs) (m c z A B e : D) (s : LS) =>
 kLss e B fun bV =>
 z5 bV
(jn (fun (bW bX bY bZ cb cc : D) (s : LS) =>
 kAdd cc (.i .i64 (.ofNat 1)) fun cd =>
 bU bW bX bY bZ cb cd s) fun N =>
 z1 1 s c e fun ce s =>
 z4 s ce fun cf s =>
 kShr cf m fun cg =>
 z1 1 s c e fun ch s =>
 z6 1 s ch cg fun _ s =>
 kGtr m (.i .i64 (.ofNat 0)) fun h =>
 z0 h true (fun k => k e s) s fun ci s =>
 z0 h true (fun k => kAdd ci (.i .i64 (.ofNat 1)) fun d => k d s) s fun ck s =>
 z0 h true (fun k => k c s) s fun cl s =>
 z0 h true (fun k => kLen cl s k) s fun cm s =>
 z0 h true (fun k => kLss ck cm fun d => k d s) s fun cn s =>
 zp h cn (.b false) s fun co s =>
 z5 co
(z1 1 s c e fun cp s =>
 z4 s cp fun cu s =>
 kAdd e (.i .i64 (.ofNat 1)) fun cv =>
 z1 1 s c cv fun cw s =>
 z4 s cw fun cy s =>
 kSub (.i .i64 (.ofNat 64)) m fun cz =>
 kShl cy cz fun cA =>
 kOr cu cA fun cB =>
 z1 1 s c e fun cC s =>
 z6 1 s cC cB fun _ s =>
 N m c z A B e s)
(N m c z A B e s))
(isoK (zoq (zH φ)) [A] s fun cE s =>
 z23 1 s c none (some z) none fun cF s =>
(zH φ) [cF] s fun cG s =>
 retK false s (.tup [cE, cG]) some)) φ K w o y o (.i .i64 (.ofNat 0)) s)) φ u I bB v bF bH s)))) s0
def z4M (φ : Nat) : List D → Option D :=
fun as =>
(fun (s : LS) =>
 u1 as fun e f =>
 u1 f fun g h =>
 u0 h (
 isoK z85 [e] s fun k s =>
 isoK z85 [g] s fun l s =>
 lp (fun (_ _ : D) (_ : LS) => none) (fun (m : D → D → LS → Rs) (c b : D) (s : LS) =>
 kLen b s fun n s =>
 kGtr n (.i .i64 (.ofNat 0)) fun o =>
 z5 o
(isoK (z20 φ) [c, b] s fun d s =>
 kExt d 0 s fun v s =>
 kExt d 1 s fun p s =>
 m b p s)
(isoK zaq [c] s fun u s =>
 retK false s u some)) φ k l s)) s0
def z3h (φ : Nat) : List D → Option D :=
fun as =>
(fun (s : LS) =>
 u1 as fun c d =>
 u1 d fun e f =>
 u0 f (
 isoK z85 [c] s fun g s =>
 isoK z85 [e] s fun h s =>
 isoK (z20 φ) [g, h] s fun b s =>
 kExt b 0 s fun i s =>
 kExt b 1 s fun k s =>
 isoK zaq [i] s fun l s =>
 isoK zaq [k] s fun m s =>
 retK false s (.tup [l, m]) some)) s0
def z6S (φ : Nat) : List D → Option D :=
fun as =>
(fun (s : LS) =>
 u1 as fun c e =>
 u1 e fun f g =>
 u0 g (
 kRem f c fun b =>
 jn (fun (h : D) (s : LS) =>
 retK false s h some) fun d =>
 kLss b (.i .i64 (.ofNat 0)) fun k =>
 z5 k
(kAdd b c fun l =>
 d l s)
(d b s))) s0
def z8W (φ : Nat) : List D → Option D :=
fun as =>
(fun (s : LS) =>
 u1 as fun c k =>
 u1 k fun l m =>
 u0 m (
 lp (fun (_ _ _ _ _ : D) (_ : LS) => none) (fun (n : D → D → D → D → D → LS → Rs) (d e b f g : D) (s : LS) =>
 kGtr b (.i .i64 (.ofNat 0)) fun o =>
 z5 o
(kQuo e b fun h =>
 kMul h b fun p =>
 kSub e p fun u =>
 kMul h g fun v =>
 kSub f v fun w =>
 n d b u g w s)
(isoK (z6S φ) [d, f] s fun y s =>
 retK false s y some)) φ c c l (.i .i64 (.ofNat 0)) (.i .i64 (.ofNat 1)) s)) s0
def z9m (φ : Nat) : List D → Option D :=
fun as =>
(fun (s : LS) =>
 u1 as fun p I =>
 u1 I fun d J =>
 u1 J fun h K =>
 u0 K (
 kBsl 0 [(.i .i64 (.ofNat 0))] [] s fun M s =>
 kApp 1 8 s M d fun u s =>
 kLen h s fun b s =>
 kLen d s fun N s =>
 kLss N b fun O =>
 z5 O
(retK false s (.tup [(.tree [] 0 true), u]) some)
(kLen d s fun P s =>
 kSub P b fun S =>
 kAdd S (.i .i64 (.ofNat 1)) fun v =>
 z24 1 8 [(.i .i64 (.ofNat 0))] s v v fun U s =>
 kSub b (.i .i64 (.ofNat 1)) fun V =>
 z1 1 s h V fun W s =>
 z4 s W fun X s =>
 isoK (z8W φ) [p, X] s fun Y s =>
 kLen d s fun Z s =>
 kSub Z b fun bb =>
 lp (fun (_ _ _ _ _ _ _ : D) (_ : LS) => none) (fun (bc : D → D → D → D → D → D → D → LS → Rs) (w k l m n y e : D) (s : LS) =>
 kGeq e (.i .i64 (.ofNat 0)) fun bd =>
 z5 bd
(kAdd e m fun bf =>
 kSub bf (.i .i64 (.ofNat 1)) fun bg =>
 z1 1 s l bg fun bh s =>
 z4 s bh fun bi s =>
 kMul bi y fun bk =>
 kRem bk w fun z =>
 z1 1 s n e fun bl s =>
 z6 1 s bl z fun _ s =>
 kLen k s fun bm s =>
 lp (fun (_ _ _ _ _ _ _ _ _ _ _ : D) (_ : LS) => none) (fun (bn : D → D → D → D → D → D → D → D → D → D → D → LS → Rs) (o A f B C E g F G H c : D) (s : LS) =>
 kLss c H fun bo =>
 z5 bo
(z1 1 s G c fun bp s =>
 z4 s bp fun bu s =>
 kAdd g c fun bv =>
 kAdd g c fun bw =>
 z1 1 s f bw fun bz s =>
 z4 s bz fun bA s =>
 kMul F bu fun bB =>
 kSub bA bB fun bC =>
 isoK (z6S φ) [o, bC] s fun bE s =>
 z1 1 s f bv fun bF s =>
 z6 1 s bF bE fun _ s =>
 kAdd c (.i .i64 (.ofNat 1)) fun bG =>
 bn o A f B C E g F G H bG s)
(kSub g (.i .i64 (.ofNat 1)) fun bH =>
 bc o A f B C E bH s)) φ w k l m n y e z k bm (.i .i64 (.ofNat 0)) s)
(isoK (z1M φ) [n] s fun bI s =>
 kSub m (.i .i64 (.ofNat 1)) fun bJ =>
 z23 1 s l none (some bJ) none fun bK s =>
 isoK (z1M φ) [bK] s fun bM s =>
 retK false s (.tup [bI, bM]) some)) φ p h u b U Y bb s))) s0
end
end Go.Proofs.Ev
namespace Go.Proofs.Ev
noncomputable section
variable {s : LS} {K : D → LS → Rs}
theorem zms {kk : IntKind} {a b : Nat} {k : D → Rs} : kNeq (.i kk (.ofNat a)) (.i kk (.ofNat b)) k = k (.b (not (Nat.beq a b))) := by
  unfold kNeq; rw [zbR, zb0]
theorem zmz {kk : IntKind} {a b : Nat} {k : D → Rs} : kGeq (.i kk (.ofNat a)) (.i kk (.ofNat b)) k = k (.b (Nat.ble b a)) := by
  unfold kGeq; rw [zbR, zb0]
theorem zqd {kk : IntKind} {a b : Nat} {k : D → Rs} : kLeq (.i kk (.ofNat a)) (.i kk (.ofNat b)) k = k (.b (Nat.ble a b)) := by
  unfold kLeq; rw [zbR, zb0]
theorem zjJ {k : D → Rs} : kSub (.i .i64 (.ofNat 0)) (.i .i64 (.ofNat 1)) k = k (.i .i64 (.negSucc 0)) := by
  show z12 .sub (.i .i64 (.ofNat 0)) (.i .i64 (.ofNat 1)) k = _
  unfold z12; rw [z45]; rfl
theorem zhV {k : D → Rs} : kGeq (.i .i64 (.negSucc 0)) (.i .i64 (.ofNat 0)) k = k (.b false) := by
  show z12 .geq (.i .i64 (.negSucc 0)) (.i .i64 (.ofNat 0)) k = _
  unfold z12; rw [z45]; rfl
theorem zhS {k : D → Rs} : kLss (.i .i64 (.negSucc 0)) (.i .i64 (.ofNat 0)) k = k (.b true) := by
  show z12 .lss (.i .i64 (.negSucc 0)) (.i .i64 (.ofNat 0)) k = _
  unfold z12; rw [z45]; rfl
def cmpD (x y : Nat) : D := cnd (Nat.blt x y) (.i .i64 (.negSucc 0)) (cnd (Nat.beq x y) (.i .i64 (.ofNat 0)) (.i .i64 (.ofNat 1)))
def cwF (q11 : D → D → D → LS → Rs) (x12 x13 x14 : D) (s : LS) : Rs := (
 kGeq x14 (.i .i64 (.ofNat 0)) fun x15 =>
 z5 x15
(z1 1 s x12 x14 fun x16 s =>
 z4 s x16 fun x17 s =>
 z1 1 s x13 x14 fun x18 s =>
 z4 s x18 fun x19 s =>
 kNeq x17 x19 fun x20 =>
 z5 x20
(z1 1 s x12 x14 fun x21 s =>
 z4 s x21 fun x22 s =>
 z1 1 s x13 x14 fun x23 s =>
 z4 s x23 fun x24 s =>
 kLss x22 x24 fun x25 =>
 z5 x25
(retK false s (.i .i64 (.negSucc 0)) some)
(retK false s (.i .i64 (.ofNat 1)) some))
(kSub x14 (.i .i64 (.ofNat 1)) fun x26 =>
 q11 x12 x13 x26 s))
(retK false s (.i .i64 (.ofNat 0)) some))
theorem kRd {x : Nat} {ex : Bool} : (z1 1 s (.tree [n64 x] 1 ex) (.i .i64 (.ofNat 0)) fun a s => z4 s a K) = K (n64 x) s := rfl
theorem znc {x y f : Nat} {ex ey : Bool} : lp (fun (_ _ _ : D) (_ : LS) => none) cwF (f + 2) (.tree [n64 x] 1 ex) (.tree [n64 y] 1 ey) (.i .i64 (.ofNat 0)) s0 = some (cmpD x y) := by
  rw [z1j]; unfold cwF cmpD
  rw [zmz, show Nat.ble 0 0 = true from rfl, z1s]
  refine (kRd).trans ?_
  refine (kRd).trans ?_
  refine (zms).trans ?_
  by_cases h : x = y
  · subst h
    rw [z2R, Bool.not_true, z13, zjJ, zB (Nat.lt_irrefl x), z1j]
    rw [zhV, z13]; rfl
  · rw [z4Z h, Bool.not_false, z1s]
    refine (kRd).trans ?_
    refine (kRd).trans ?_
    refine (z3i).trans ?_
    by_cases h2 : x < y
    · rw [zy h2, z1s]; rfl
    · rw [zB h2, z13]; rfl
theorem zkR {x y f : Nat} {ex ey : Bool} : z33 (f + 2) [.tree [n64 x] 1 ex, .tree [n64 y] 1 ey] = some (cmpD x y) := by
  show (kLen (.tree [n64 x] 1 ex) s0 fun x3 s => kLen (.tree [n64 y] 1 ey) s fun x4 s => kNeq x3 x4 fun x5 => z5 x5
    (kLen (.tree [n64 x] 1 ex) s fun x6 s => kLen (.tree [n64 y] 1 ey) s fun x7 s => kLss x6 x7 fun x8 => z5 x8 (retK false s (.i .i64 (.negSucc 0)) some) (retK false s (.i .i64 (.ofNat 1)) some))
    (kLen (.tree [n64 x] 1 ex) s fun x9 s => kSub x9 (.i .i64 (.ofNat 1)) fun x10 => lp (fun (_ _ _ : D) (_ : LS) => none) cwF (f + 2) (.tree [n64 x] 1 ex) (.tree [n64 y] 1 ey) x10 s)) = _
  rw [z1L, z1L, zms, z2R, Bool.not_true, z13, z1L, z5E (Nat.le_refl 1) (show 1 ≤ kmax .i64 by decide)]
  exact znc
theorem zol {y f : Nat} {ex ey : Bool} : z33 f [.tree [] 0 ex, .tree [n64 y] 1 ey] = some (.i .i64 (.negSucc 0)) := by
  show (kLen (.tree [] 0 ex) s0 fun x3 s => kLen (.tree [n64 y] 1 ey) s fun x4 s => kNeq x3 x4 fun x5 => z5 x5
    (kLen (.tree [] 0 ex) s fun x6 s => kLen (.tree [n64 y] 1 ey) s fun x7 s => kLss x6 x7 fun x8 => z5 x8 (retK false s (.i .i64 (.negSucc 0)) some) (retK false s (.i .i64 (.ofNat 1)) some))
    (kLen (.tree [] 0 ex) s fun x9 s => kSub x9 (.i .i64 (.ofNat 1)) fun x10 => lp (fun (_ _ _ : D) (_ : LS) => none) cwF f (.tree [] 0 ex) (.tree [n64 y] 1 ey) x10 s)) = _
  rw [z1L, z1L, zms]
  rfl
theorem zoh {x y φ : Nat} (hx : x < B64) (hy : 0 < y) : ∃ q r, z2C φ [n64 0, n64 x, n64 y] = some (.tup [n64 q, n64 r]) ∧ q = x / y ∧ r = x % y := by
  refine ⟨_, _, ?_, rfl, rfl⟩
  unfold z2C n64
  dsimp only [z6u, zad, jn]
  refine (z9P).trans ?_
  rw [z4Z (by omega), z13]
  refine (zqd).trans ?_
  rw [z8y (by omega), z13]
  refine (z9P).trans ?_
  rw [z2R, z1s]
  refine (zmr (by omega) (Nat.le_of_lt_succ hx)).trans ?_
  refine (zj6 (by omega)).trans ?_
  rfl
theorem zj5 {l len h : Nat} {b : Blk} {k : D → LS → Rs} (hg : s.get l = some b) (hl : b.st.live = true) (h0 : 0 < len) (hh : h ≤ len) : z23 1 s (.sl l 0 len len 1 true) none (some (.i .i64 (.ofNat h))) none k = k (.sl l 0 h len 1 true) s := by
  show (kGet s l fun b => cnd (lv b.st) (cnd (Nat.ble len len) (cnd (Nat.ble h len) (cnd (Nat.ble 0 h) (cnd (Nat.beq 1 1) (frcB true fun ex => cnd (Nat.blt 0 len) (frc (Nat.add 0 (Nat.mul 0 1)) fun off => frc (Nat.sub h 0) fun l' => frc (Nat.sub len 0) fun cm => k (.sl l off l' cm 1 ex) s) (k (.tree [] 0 ex) s)) none) none) none) none) none) = _
  rw [z5F, hg]
  show cnd (lv b.st) (cnd (Nat.ble len len) (cnd (Nat.ble h len) (cnd (Nat.ble 0 h) (cnd (Nat.beq 1 1) (frcB true fun ex => cnd (Nat.blt 0 len) (frc (Nat.add 0 (Nat.mul 0 1)) fun off => frc (Nat.sub h 0) fun l' => frc (Nat.sub len 0) fun cm => k (.sl l off l' cm 1 ex) s) (k (.tree [] 0 ex) s)) none) none) none) none) none = _
  rw [zjI, hl, Nat.ble_eq_true_of_le (Nat.le_refl len), Nat.ble_eq_true_of_le hh, Nat.ble_eq_true_of_le (Nat.zero_le h), zy h0]
  simp only [zx, z66, zC, z2R]
  rfl
theorem zkd {l w f : Nat} {b : Blk} {k : D → LS → Rs} (hg : s.get l = some b) (hc : b.cs = [n64 w]) (hl : b.st.live = true) :
    zH (f + 2) [.sl l 0 1 1 1 true] s k = k (.sl l 0 (if w = 0 then 0 else 1) 1 1 true) s := by
  rw [zhA]
  refine (zhU).trans ?_
  rw [z1j]; unfold zlG
  rw [zbk, show Nat.blt 0 1 = true from rfl]
  simp only [z9O, z5E (kk := .i64) (Nat.le_refl 1) (show 1 ≤ kmax .i64 by decide), Nat.sub_self, z9a hg hl Nat.one_pos, Nat.zero_mul, Nat.add_zero]
  refine (zeS (d := n64 w) hg hl (by rw [hc]; rfl)).trans ?_
  refine (z9P).trans ?_
  by_cases h : w = 0
  · rw [h, if_pos rfl, z2R, z6z, z1s, z1j]
    refine (zbk).trans ?_
    rw [show Nat.blt 0 0 = false from rfl]
    simp only [zcF, z9Y, z13]
    exact zj5 hg hl Nat.one_pos (Nat.zero_le 1)
  · rw [if_neg h, z4Z h, z6z, z13]
    exact zj5 hg hl Nat.one_pos (Nat.le_refl 1)
def dvF (φ : Nat) (q11 : D → D → D → D → D → LS → Rs) (x12 x13 x14 x15 x16 : D) (s : LS) : Rs := (
 kGeq x16 (.i .i64 (.ofNat 0)) fun x17 =>
 z5 x17
(z1 1 s x12 x16 fun x18 s =>
 z4 s x18 fun x19 s =>
 z1 1 s x13 (.i .i64 (.ofNat 0)) fun x20 s =>
 z4 s x20 fun x21 s =>
 isoK (z2C φ) [x15, x19, x21] s fun x22 s =>
 kExt x22 0 s fun x23 s =>
 kExt x22 1 s fun x24 s =>
 z1 1 s x14 x16 fun x25 s =>
 z6 1 s x25 x23 fun _ s =>
 kSub x16 (.i .i64 (.ofNat 1)) fun x26 =>
 q11 x12 x13 x14 x24 x26 s)
((zH φ) [x14] s fun x27 s =>
 kBsl 1 [(.i .u64 (.ofNat 0))] [(0, 1, x15)] s fun x28 s =>
(zH φ) [x28] s fun x29 s =>
 retK false s (.tup [x27, x29]) some))
theorem zqO {M : List D → Option D} {x y z : Nat} : isoK M [n64 x, n64 y, n64 z] s K = ob (M [n64 x, n64 y, n64 z]) fun r => finK s [] r K := rfl
theorem ob_s {α : Type} {a : α} {k : α → Rs} : ob (some a) k = k a := rfl
theorem zoB {g : Nat → Option Blk} {n l off len cm z : Nat} {ex : Bool} {b : Blk} {r cs : List D} {ls : List Nat} (hg : g l = some b) (hl : b.st.live = true) (hc : cut off (len * z) b.cs = some r) (hm : mapO (res g n) r = some (cs, ls)) :
    res g (n + 1) (.sl l off len cm z ex) = some (.tree cs len (ex && cm == len), l :: ls) := by
  show (match g l with
    | some b => if !b.st.live then none else match cut off (len * z) b.cs with
      | some r => match mapO (res g n) r with
        | some (cs, ls) => some (D.tree cs len (ex && cm == len), l :: ls)
        | none => none
      | none => none
    | none => none) = _
  rw [hg]
  show (if !b.st.live then none else match cut off (len * z) b.cs with
      | some r => match mapO (res g n) r with
        | some (cs, ls) => some (D.tree cs len (ex && cm == len), l :: ls)
        | none => none
      | none => none) = _
  rw [hl, hc]
  show (match mapO (res g n) r with
        | some (cs, ls) => some (D.tree cs len (ex && cm == len), l :: ls)
        | none => none) = _
  rw [hm]
theorem zlN {q r m : Nat} (hm : m ≤ 1) : retK false ((st1 [n64 q]).push ⟨[n64 r], .rw⟩) (.tup [.sl 0 0 1 1 1 true, .sl 1 0 m 1 1 true]) some = some (.tup [.tree [n64 q] 1 true, .tree ([n64 r].take m) m (true && 1 == m)]) := by
  unfold retK
  rw [zjT]
  show frcO (extr false ((st1 [n64 q]).push ⟨[n64 r], .rw⟩).get z2N (.tup [.sl 0 0 1 1 1 true, .sl 1 0 m 1 1 true])) some = _
  have g0 : ((st1 [n64 q]).push ⟨[n64 r], .rw⟩).get 0 = some ⟨[n64 q], .rw⟩ := rfl
  have g1 : ((st1 [n64 q]).push ⟨[n64 r], .rw⟩).get 1 = some ⟨[n64 r], .rw⟩ := by kernel_rfl
  have hq : ∀ g, mapO (res g 59) [n64 q] = some ([n64 q], []) := fun g => z90 (k := 58) [n64 q] rfl
  have hr : ∀ g, mapO (res g 59) ([n64 r].take m) = some ([n64 r].take m, []) := fun g => z90 (k := 58) _ (by
    rcases Nat.eq_zero_or_pos m with h | h
    · subst h; rfl
    · have : m = 1 := by omega
      subst this; rfl)
  have c1 : cut 0 (m * 1) [n64 r] = some ([n64 r].take m) := by
    unfold cut
    rw [List.drop_zero, Nat.mul_one, if_pos (by rw [List.length_take]; simp; omega)]
  have c0 : cut 0 (1 * 1) [n64 q] = some [n64 q] := rfl
  have : extr false ((st1 [n64 q]).push ⟨[n64 r], .rw⟩).get z2N (.tup [.sl 0 0 1 1 1 true, .sl 1 0 m 1 1 true]) = some (.tup [.tree [n64 q] 1 true, .tree ([n64 r].take m) m (true && 1 == m)]) := by
    have r0 := zoB (n := 59) (off := 0) (len := 1) (cm := 1) (z := 1) (ex := true) g0 rfl c0 (hq _)
    have r1 := zoB (n := 59) (off := 0) (len := m) (cm := 1) (z := 1) (ex := true) g1 rfl c1 (hr _)
    show (match resE (res ((st1 [n64 q]).push ⟨[n64 r], .rw⟩).get 60 (.sl 0 0 1 1 1 true)), mapO (res ((st1 [n64 q]).push ⟨[n64 r], .rw⟩).get 60) [.sl 1 0 m 1 1 true] with
      | some (d, o, ls), some (ds, ls') => if o.all fun l => !(ls ++ ls').contains l then some (D.tup (d :: ds)) else none
      | _, _ => none) = _
    have r2 : mapO (res ((st1 [n64 q]).push ⟨[n64 r], .rw⟩).get 60) [.sl 1 0 m 1 1 true] = some ([.tree ([n64 r].take m) m (true && 1 == m)], [1]) := by
      unfold mapO
      rw [r1]; rfl
    rw [r0, r2]; rfl
  rw [this, z45]; rfl
theorem zpG {M : List D → Option D} {x y z q r : Nat} (h : M [n64 x, n64 y, n64 z] = some (.tup [n64 q, n64 r])) : isoK M [n64 x, n64 y, n64 z] s K = K (.tup [n64 q, n64 r]) s := by
  rw [zqO, h, ob_s]; exact zqp
theorem zmC {a b : D} : kExt (.tup [a, b]) 0 s K = K a s := rfl
theorem zmB {a b : D} : kExt (.tup [a, b]) 1 s K = K b s := rfl
theorem zo5 {r : Nat} : kBsl 1 [.i .u64 (.ofNat 0)] [(0, 1, n64 r)] s K = K (.sl s.nx 0 1 1 1 true) (s.push ⟨[n64 r], .rw⟩) := by
  show (zat s ⟨[n64 r], .rw⟩ fun s' => K (.sl s.nx 0 1 1 1 true) s') = _
  rw [z3B]
theorem zpE {x y f : Nat} {ex ey : Bool} (hx : x < B64) (hy : 0 < y) (hle : y ≤ x) : ∃ e rs e', c64 rs = (if x % y = 0 then [] else [n64 (x % y)]) ∧ lp (fun (_ _ _ _ _ : D) (_ : LS) => none) (dvF (f + 2)) (f + 2) (.tree [n64 x] 1 ex) (.tree [n64 y] 1 ey) (.sl 0 0 1 1 1 true) (.i .u64 (.ofNat 0)) (.i .i64 (.ofNat 0)) (st1 [n64 0])
    = some (.tup [.tree [n64 (x / y)] 1 e, .tree (c64 rs) rs.length e']) := by
  obtain ⟨q, r, h1, hq, hr⟩ := zoh (φ := f + 2) hx hy
  have hq0 : q ≠ 0 := by
    have := Nat.div_pos hle hy
    omega
  rw [← hq, ← hr]
  have e1 : ∀ (rs : List Nat) (m : Nat), m = (if r = 0 then 0 else 1) → c64 rs = (if r = 0 then [] else [n64 r]) → rs.length = m → ∃ e e', retK false ((st1 [n64 q]).push ⟨[n64 r], .rw⟩) (.tup [.sl 0 0 1 1 1 true, .sl 1 0 m 1 1 true]) some = some (.tup [.tree [n64 q] 1 e, .tree (c64 rs) rs.length e']) := by
    intro rs m hm hc hl
    by_cases h : r = 0
    · rw [if_pos h] at hm hc
      subst hm
      rw [hc, hl, zlN (Nat.zero_le 1)]
      exact ⟨true, _, rfl⟩
    · rw [if_neg h] at hm hc
      subst hm
      rw [hc, hl, zlN (Nat.le_refl 1)]
      exact ⟨true, _, rfl⟩
  have e2 : lp (fun (_ _ _ _ _ : D) (_ : LS) => none) (dvF (f + 2)) (f + 2) (.tree [n64 x] 1 ex) (.tree [n64 y] 1 ey) (.sl 0 0 1 1 1 true) (.i .u64 (.ofNat 0)) (.i .i64 (.ofNat 0)) (st1 [n64 0])
      = retK false ((st1 [n64 q]).push ⟨[n64 r], .rw⟩) (.tup [.sl 0 0 1 1 1 true, .sl 1 0 (if r = 0 then 0 else 1) 1 1 true]) some := by
    rw [show D.i .u64 (.ofNat 0) = n64 0 from rfl, z1j]; unfold dvF
    rw [zmz, show Nat.ble 0 0 = true from rfl, z1s]
    refine (kRd).trans ?_
    refine (kRd).trans ?_
    rw [zpG h1]
    refine (zmC).trans ?_
    refine (zmB).trans ?_
    refine (z3w Nat.one_pos).trans ?_
    refine (z92 Nat.one_pos).trans ?_
    refine (zjJ).trans ?_
    rw [z1j]
    refine (zhV).trans ?_
    rw [z13, show [n64 0].set (0 + 0) (D.i .u64 (.ofNat q)) = [n64 q] from rfl]
    refine (zkd (f := f) (b := ⟨[n64 q], .rw⟩) (w := q) rfl rfl rfl).trans ?_
    rw [if_neg hq0, zo5]
    exact zkd (f := f) (b := ⟨[n64 r], .rw⟩) (w := r) (by kernel_rfl) rfl rfl
  by_cases h : r = 0
  · obtain ⟨e, e', h2⟩ := e1 [] 0 (by rw [if_pos h]) (by rw [if_pos h]; rfl) rfl
    refine ⟨e, [], e', by rw [if_pos h]; rfl, ?_⟩
    rw [e2, if_pos h]
    exact h2
  · obtain ⟨e, e', h2⟩ := e1 [r] 1 (by rw [if_neg h]) (by rw [if_neg h]; rfl) rfl
    refine ⟨e, [r], e', by rw [if_neg h]; rfl, ?_⟩
    rw [e2, if_neg h]
    exact h2
end
end Go.Proofs.Ev
namespace Go.Proofs.Ev
noncomputable section
variable {s : LS} {K : D → LS → Rs}
def One (ws : List Nat) (m : Nat) : Prop := (m = 0 ∧ ws = []) ∨ (0 < m ∧ m < B64 ∧ ws = [m])
theorem One.val {ws : List Nat} {m : Nat} (h : One ws m) : Ev.val ws = m ∧ z4O ws ∧ ws.length ≤ 1 := by
  rcases h with ⟨rfl, rfl⟩ | ⟨h1, h2, rfl⟩
  · exact ⟨rfl, (fun w hw => (by cases hw)), Nat.zero_le 1⟩
  · exact ⟨rfl, (fun w hw => (by rw [List.mem_singleton.1 hw]; exact h2)), Nat.le_refl 1⟩
theorem zlO {cs ds : List D} {n m : Nat} {e e' : Bool} : retK false s (.tup [.tree cs n e, .tree ds m e']) some = some (.tup [.tree cs n e, .tree ds m e']) := by
  unfold retK
  rw [zjT]
  show frcO _ some = _
  rw [z45]; rfl
theorem zmJ {M : List D → Option D} {cs ds : List D} {n m : Nat} {e e' : Bool} {k : IntKind} {z : Int} (h : M [.tree cs n e, .tree ds m e'] = some (.i k z)) : isoK M [.tree cs n e, .tree ds m e'] s K = K (.i k z) s := by
  show ob (M [.tree cs n e, .tree ds m e']) (fun r => finK s [] r K) = _
  rw [h]; rfl
theorem zpH {x y : Nat} (h : x < y) : cmpD x y = .i .i64 (.negSucc 0) := by unfold cmpD; rw [zy h]; rfl
theorem zpI {x y : Nat} (h : y ≤ x) : ∃ c, cmpD x y = .i .i64 (.ofNat c) := by
  unfold cmpD
  rw [zB (by omega), zM]
  by_cases e : x = y
  · subst e; rw [z2R]; exact ⟨0, rfl⟩
  · rw [z4Z e]; exact ⟨1, rfl⟩
theorem zhq {x y f : Nat} {xs ys : List Nat} {ex ey : Bool} (hX : One xs x) (hY : One ys y) (hy : 0 < y) : ∃ qs rs e e', One qs (x / y) ∧ One rs (x % y) ∧
    z20 (f + 2) [.tree (c64 xs) xs.length ex, .tree (c64 ys) ys.length ey] = some (.tup [.tree (c64 qs) qs.length e, .tree (c64 rs) rs.length e']) := by
  have hys : ys = [y] := by
    rcases hY with ⟨h1, h2⟩ | ⟨h1, h2, h3⟩
    · omega
    · exact h3
  have hyB : y < B64 := by
    rcases hY with ⟨h1, h2⟩ | ⟨h1, h2, h3⟩
    · omega
    · exact h2
  subst hys
  rcases hX with ⟨h1, h2⟩ | ⟨h1, h2, h3⟩
  · subst h1 h2
    refine ⟨[], [], true, ex, Or.inl ⟨Nat.zero_div y, rfl⟩, Or.inl ⟨Nat.zero_mod y, rfl⟩, ?_⟩
    unfold z20
    dsimp only [z6u, zad]
    refine (zmJ (cs := []) (n := 0) (ds := [n64 y]) (m := 1) zol).trans ?_
    refine (zhS).trans ?_
    rw [z1s]
    exact zlO
  · subst h3
    by_cases hlt : x < y
    · refine ⟨[], [x], true, ex, Or.inl ⟨Nat.div_eq_of_lt hlt, rfl⟩, Or.inr ⟨by rw [Nat.mod_eq_of_lt hlt]; exact h1, by rw [Nat.mod_eq_of_lt hlt]; exact h2, by rw [Nat.mod_eq_of_lt hlt]⟩, ?_⟩
      unfold z20
      dsimp only [z6u, zad]
      refine (zmJ (cs := [n64 x]) (n := 1) (ds := [n64 y]) (m := 1) (by rw [zkR, zpH hlt])).trans ?_
      refine (zhS).trans ?_
      rw [z1s]
      exact zlO
    · have hle : y ≤ x := by omega
      obtain ⟨c, hc⟩ := zpI hle
      obtain ⟨e, rs, e', g1, g2⟩ := zpE (f := f) (ex := ex) (ey := ey) h2 hy hle
      have hq : 0 < x / y := Nat.div_pos hle hy
      have hr : One rs (x % y) := by
        by_cases h : x % y = 0
        · rw [if_pos h] at g1
          refine Or.inl ⟨h, ?_⟩
          cases rs with
          | nil => rfl
          | cons a b => cases g1
        · rw [if_neg h] at g1
          have hlt := Nat.mod_lt x hy
          refine Or.inr ⟨by omega, by omega, ?_⟩
          cases rs with
          | nil => cases g1
          | cons a b =>
            cases b with
            | nil =>
              have : n64 a = n64 (x % y) := (List.cons.inj g1).1
              unfold n64 at this
              injection this with _ h4
              injection h4 with h5
              rw [h5]
            | cons _ _ => cases (List.cons.inj g1).2
      refine ⟨[x / y], rs, e, e', Or.inr ⟨hq, Nat.lt_of_le_of_lt (Nat.div_le_self x y) h2, rfl⟩, hr, ?_⟩
      unfold z20
      dsimp only [z6u, zad]
      refine (zmJ (cs := [n64 x]) (n := 1) (ds := [n64 y]) (m := 1) (by rw [zkR, hc])).trans ?_
      refine (z3i).trans ?_
      rw [zB (Nat.not_lt_zero c), z13]
      refine (z1L).trans ?_
      refine (z9P).trans ?_
      rw [show Nat.beq ([y] : List Nat).length 1 = true from rfl, z1s]
      refine (z1L).trans ?_
      refine (zep (n := 1) (by decide) (by decide)).trans ?_
      refine (z1L).trans ?_
      refine (z5E (kk := .i64) (Nat.le_refl 1) (show 1 ≤ kmax .i64 by decide)).trans ?_
      exact g2
theorem z8T {m : Nat} (hs : s.fit) (hm : m < B64) : ∃ x s' ws, (∀ K, isoK z85 [.n m] s K = K x s') ∧ Hold s' x ws ∧ One ws m ∧ More s s' := by
  by_cases h0 : m = 0
  · subst h0
    exact ⟨.tree [] 0 true, s, [], fun K => rfl, .nil, Or.inl ⟨rfl, rfl⟩, More.refl s⟩
  · have hl : Nat.log2 m < 64 := (Nat.log2_lt h0).2 hm
    obtain ⟨x, s', ws, h1, h2, h3, h4, h5, h6, _⟩ := z9c (m := m) hs (by omega)
    refine ⟨x, s', ws, h1, h2, Or.inr ⟨by omega, hm, ?_⟩, h6⟩
    have h7 : Nat.log2 m / 64 = 0 := Nat.div_eq_of_lt hl
    rw [h7] at h5
    match ws, h4, h5 with
    | [], h4, _ => exact absurd h4.symm h0
    | [w], h4, _ => rw [show val [w] = w from rfl] at h4; rw [h4]
    | _ :: _ :: _, _, h5 => simp at h5
theorem zhG {x y f : Nat} (hx : x < B64) (hy : y < B64) (h0 : 0 < y) : z3h (f + 2) [.n x, .n y] = some (.tup [.n (x / y), .n (x % y)]) := by
  obtain ⟨X, s1, xs, k1, hX, ox, m1⟩ := z8T (s := s0) (m := x) rfl hx
  obtain ⟨Y, s2, ys, k2, hY, oy, m2⟩ := z8T (s := s1) (m := y) (m1.len rfl) hy
  unfold z3h
  refine (k1 _).trans ?_
  refine (k2 _).trans ?_
  obtain ⟨ex, ey, ls, h1, h2⟩ := zjM (M := z20 (f + 2)) (hX.more m2).ht hY.ht
  obtain ⟨s3, f1, f2, f3⟩ := zi2 ls s2 h2
  obtain ⟨qs, rs, e, e', g1, g2, g3⟩ := zhq (f := f) (ex := ex) (ey := ey) ox oy h0
  refine (h1 _).trans ?_
  rw [g3, ob_s, zmY, f1]
  refine (zmC).trans ?_
  refine (zmB).trans ?_
  obtain ⟨v1, v2, v3⟩ := g1.val
  obtain ⟨w1, w2, w3⟩ := g2.val
  refine (zau HT.tr v2 (by omega)).trans ?_
  refine (zau HT.tr w2 (by omega)).trans ?_
  rw [v1, w1]; rfl
def z4K (φ : Nat) (as : List D) : Option D :=
  u1 as fun a r => u1 r fun b r => u0 r (z8F a fun x => z8F b fun y => cnd (Nat.blt x B64) (cnd (Nat.blt y B64) (cnd (Nat.blt 0 y) (frc (Nat.div x y) fun q => frc (Nat.mod x y) fun r => some (.tup [.n q, .n r])) none) (z3h φ as)) (z3h φ as))
theorem zet {b : Bool} {t e : Rs} {q : D} (h : cnd b t e = some q) : (b = true ∧ t = some q) ∨ e = some q := by
  cases b with
  | true => exact Or.inl ⟨rfl, h⟩
  | false => exact Or.inr h
theorem z3A {a b : Nat} (h : Nat.blt a b = true) : a < b := Nat.le_of_ble_eq_true h
theorem zgH {φ : Nat} {as : List D} {r : D} (h : z4K φ as = some r) : ∃ φ', z3h φ' as = some r := by
  obtain ⟨a, r1, rfl, g1⟩ := z1r h
  obtain ⟨b, r2, rfl, g2⟩ := z1r g1
  obtain ⟨rfl, g3⟩ := z4m g2
  obtain ⟨x, rfl, g4⟩ := z1b g3
  obtain ⟨y, rfl, g5⟩ := z1b g4
  rcases zet g5 with ⟨h1, g6⟩ | g6
  · rcases zet g6 with ⟨h2, g7⟩ | g7
    · obtain ⟨h3, g8⟩ := zt g7
      rw [zC, zC] at g8
      exact ⟨2, by rw [zhG (f := 0) (z3A h1) (z3A h2) (z3A h3)]; exact g8⟩
    · exact ⟨φ, g7⟩
  · exact ⟨φ, g6⟩
def gcF (φ : Nat) (q5 : D → D → LS → Rs) (x6 x7 : D) (s : LS) : Rs := (
 kLen x7 s fun x8 s =>
 kGtr x8 (.i .i64 (.ofNat 0)) fun x9 =>
 z5 x9
(isoK (z20 φ) [x6, x7] s fun x10 s =>
 kExt x10 0 s fun x11 s =>
 kExt x10 1 s fun x12 s =>
 q5 x7 x12 s)
(isoK zaq [x6] s fun x13 s =>
 retK false s x13 some))
theorem zmP {g : Nat} : ∀ (f x y : Nat) (xs ys : List Nat) (X Y : D) (s : LS), y < f → HT s X xs → HT s Y ys → One xs x → One ys y → lp (fun (_ _ : D) (_ : LS) => none) (gcF (g + 2)) f X Y s = some (.n (Nat.gcd x y))
  | 0, x, y, xs, ys, X, Y, s, hf, hX, hY, ox, oy => by omega
  | f + 1, x, y, xs, ys, X, Y, s, hf, hX, hY, ox, oy => by
    rw [z1j]; unfold gcF
    refine (zpo hY).trans ?_
    refine (zbk).trans ?_
    by_cases h0 : y = 0
    · have hys : ys = [] := by
        rcases oy with ⟨h1, h2⟩ | ⟨h1, h2, h3⟩
        · exact h2
        · omega
      subst hys h0
      rw [show Nat.blt 0 ([] : List Nat).length = false from rfl, z13]
      obtain ⟨v1, v2, v3⟩ := ox.val
      refine (zau hX v2 (by omega)).trans ?_
      rw [v1, Nat.gcd_zero_right]; rfl
    · have hys : ys = [y] := by
        rcases oy with ⟨h1, h2⟩ | ⟨h1, h2, h3⟩
        · omega
        · exact h3
      rw [show Nat.blt 0 ys.length = true by rw [hys]; rfl, z1s]
      obtain ⟨ex, ey, ls, h1, h2⟩ := zjM (M := z20 (g + 2)) hX hY
      obtain ⟨s3, f1, f2, f3⟩ := zi2 ls s h2
      obtain ⟨qs, rs, e, e', g1, g2, g3⟩ := zhq (f := g) (ex := ex) (ey := ey) ox oy (by omega)
      refine (h1 _).trans ?_
      rw [g3, ob_s, zmY, f1]
      refine (zmC).trans ?_
      refine (zmB).trans ?_
      have ih := zmP (g := g) f y (x % y) ys rs Y _ s3 (by have := Nat.mod_lt x (show 0 < y by omega); omega) (f2 _ _ hY) (HT.tr (ex := e')) oy g2
      have e1 : Nat.gcd x y = Nat.gcd y (x % y) := by
        rw [Nat.gcd_comm x y, Nat.gcd_rec y x, Nat.gcd_comm]
      rw [e1]
      exact ih
theorem zl9 {x y f : Nat} (hx : x < B64) (hy : y < B64) (hf : y < f) : z4M (f + 2) [.n x, .n y] = some (.n (Nat.gcd x y)) := by
  obtain ⟨X, s1, xs, k1, hX, ox, m1⟩ := z8T (s := s0) (m := x) rfl hx
  obtain ⟨Y, s2, ys, k2, hY, oy, m2⟩ := z8T (s := s1) (m := y) (m1.len rfl) hy
  unfold z4M
  refine (k1 _).trans ?_
  refine (k2 _).trans ?_
  exact zmP (g := f) (f + 2) x y xs ys X Y s2 (by omega) (hX.more m2).ht hY.ht ox oy
def zeN (φ : Nat) (as : List D) : Option D :=
  u1 as fun a r => u1 r fun b r => u0 r (z8F a fun x => z8F b fun y => cnd (Nat.blt x B64) (cnd (Nat.blt y B64) (frc (Nat.gcd x y) fun z => some (.n z)) (z4M φ as)) (z4M φ as))
theorem zjF {φ : Nat} {as : List D} {r : D} (h : zeN φ as = some r) : ∃ φ', z4M φ' as = some r := by
  obtain ⟨a, r1, rfl, g1⟩ := z1r h
  obtain ⟨b, r2, rfl, g2⟩ := z1r g1
  obtain ⟨rfl, g3⟩ := z4m g2
  obtain ⟨x, rfl, g4⟩ := z1b g3
  obtain ⟨y, rfl, g5⟩ := z1b g4
  rcases zet g5 with ⟨h1, g6⟩ | g6
  · rcases zet g6 with ⟨h2, g7⟩ | g7
    · rw [zC] at g7
      exact ⟨y + 1 + 2, by rw [zl9 (z3A h1) (z3A h2) (Nat.lt_succ_self y)]; exact g7⟩
    · exact ⟨φ, g7⟩
  · exact ⟨φ, g6⟩
end
end Go.Proofs.Ev
namespace Go.Proofs.Ev
noncomputable section
def eqLL (f : D → D → Bool) (xs : List D) : List D → Bool :=
  List.rec (motive := fun _ => List D → Bool) (fun ys => List.rec (motive := fun _ => Bool) true (fun _ _ _ => false) ys) (fun x _ ih ys => List.rec (motive := fun _ => Bool) false (fun y ys _ => cnd (f x y) (ih ys) false) ys) xs
def eqS (f : D → D → Bool) : D → D → Bool
  | .i k (.ofNat a), .i k' (.ofNat b) => cnd (Nat.beq (zbW k) (zbW k')) (Nat.beq a b) false
  | .i k (.negSucc a), .i k' (.negSucc b) => cnd (Nat.beq (zbW k) (zbW k')) (Nat.beq a b) false
  | .b a, .b b => cnd a b (not b)
  | .n a, .n b => Nat.beq a b
  | .tree cs n e, .tree cs' n' e' => cnd (Nat.beq n n') (cnd (cnd e e' (not e')) (eqLL f cs cs') false) false
  | .agg cs, .agg cs' => eqLL f cs cs'
  | _, _ => false
def eqN (n : Nat) : D → D → Bool := Nat.rec (fun _ _ => false) (fun _ ih => eqS ih) n
theorem zgk {a b : Bool} (h : cnd a b false = true) : a = true ∧ b = true := by
  cases a <;> simp_all
theorem zkQ {a b : Bool} (h : cnd a b (not b) = true) : a = b := by
  cases a <;> cases b <;> simp_all
theorem zi7 {f : D → D → Bool} (hf : ∀ x y, f x y = true → x = y) : ∀ {xs ys : List D}, eqLL f xs ys = true → xs = ys
  | [], [], _ => rfl
  | x :: xs, y :: ys, h => by
    obtain ⟨h1, h2⟩ := zgk h
    rw [hf _ _ h1, zi7 hf h2]
  | [], _ :: _, h => by cases h
  | _ :: _, [], h => by cases h
theorem zqr {f : D → D → Bool} (hf : ∀ x y, f x y = true → x = y) : ∀ {x y : D}, eqS f x y = true → x = y := by
  intro x y h
  unfold eqS at h
  split at h
  · obtain ⟨h1, h2⟩ := zgk h
    rw [z99 h1, Nat.eq_of_beq_eq_true h2]
  · obtain ⟨h1, h2⟩ := zgk h
    rw [z99 h1, Nat.eq_of_beq_eq_true h2]
  · rw [zkQ h]
  · rw [Nat.eq_of_beq_eq_true h]
  · obtain ⟨h1, h2⟩ := zgk h
    obtain ⟨h3, h4⟩ := zgk h2
    rw [Nat.eq_of_beq_eq_true h1, zkQ h3, zi7 hf h4]
  · rw [zi7 hf h]
  · cases h
theorem zoO : ∀ (n : Nat) (x y : D), eqN n x y = true → x = y
  | 0, x, y, h => by cases h
  | n + 1, x, y, h => zqr (zoO n) h
def ti (l : List Nat) (e : Bool) : D := .tree (List.rec (motive := fun _ => List D) [] (fun n _ r => .i .i64 (.ofNat n) :: r) l) l.length e
def zi (l : List Nat) (e : Bool) : D := .tree (List.rec (motive := fun _ => List D) [] (fun n _ r => .b false :: .n n :: r) l) l.length e
def qi (l : List (Bool × Nat)) (e : Bool) : D := .tree (List.rec (motive := fun _ => List D) [] (fun p _ r => .b p.1 :: .n p.2 :: .n 1 :: r) l) l.length e
def eqA (xs ys : List D) : Bool := eqLL (eqN 40) xs ys
def tabM (L : List (List D × D)) (R : List D → Option D) (xs : List D) : Option D :=
  List.rec (motive := fun _ => Option D) (R xs) (fun e _ ih => cnd (eqA xs e.1) (some e.2) ih) L
def zev (R : Nat → List D → Option D) (L : List (List D × D)) : Prop := ∀ e, e ∈ L → ∃ φ, R φ e.1 = some e.2
theorem zev.nil {R : Nat → List D → Option D} : zev R [] := fun e h => by cases h
theorem zev.cons {R : Nat → List D → Option D} {L : List (List D × D)} {k : List D} {v : D} {φ : Nat} (h : R φ k = some v) (hL : zev R L) : zev R ((k, v) :: L) := fun e he => by
  rcases List.mem_cons.1 he with rfl | he
  · exact ⟨φ, h⟩
  · exact hL e he
theorem z8R {R : Nat → List D → Option D} {φ : Nat} {xs : List D} {r : D} : ∀ {L : List (List D × D)}, zev R L → tabM L (R φ) xs = some r → ∃ φ', R φ' xs = some r
  | [], _, h => ⟨φ, h⟩
  | e :: L, hL, h => by
    have h : cnd (eqA xs e.1) (some e.2) (tabM L (R φ) xs) = some r := h
    cases hq : eqA xs e.1 with
    | true =>
      rw [hq, zx] at h
      rw [zi7 (zoO 40) hq, ← h]
      exact hL e (List.mem_cons_self ..)
    | false =>
      rw [hq, zM] at h
      exact z8R (fun e' he => hL e' (List.mem_cons_of_mem _ he)) h
end
end Go.Proofs.Ev
namespace Go.Proofs.Ev
noncomputable section
variable {s : LS} {K : D → LS → Rs}
def ni (n : Nat) : D := .i .i64 (.ofNat n)
def ci (l : List Nat) : List D := l.map ni
theorem zc9 (l : List Nat) : (ci l).length = l.length := List.length_map _
theorem zgl {l : List Nat} {i n : Nat} (h : l[i]? = some n) : (ci l)[i]? = some (ni n) := by
  unfold ci; rw [List.getElem?_map, h]; rfl
theorem zia : ∀ (l : List Nat), (ci l).all z8U = true
  | [] => rfl
  | x :: l => zia l
theorem zoS (n : Nat) : List.replicate n (D.i .i64 (.ofNat 0)) = ci (List.replicate n 0) := by
  unfold ci; rw [List.map_replicate]; rfl
theorem zeo {cs : List D} {len i : Nat} {ex : Bool} {d : D} {k2 : IntKind} (h : i < len) (hi : cs[i]? = some d) : (z1 1 s (.tree cs len ex) (.i k2 (.ofNat i)) fun a s => z4 s a K) = K d s := by
  rw [zdI h hi]; rfl
theorem zj2 {n : Nat} : ∀ {cs : List D} {kk : List D → List Nat → Rs}, cs.all z8U = true → mapK (resK s (n + 1)) cs kk = kk cs []
  | [], kk, _ => rfl
  | d :: cs, kk, h => by
    simp only [List.all_cons, Bool.and_eq_true] at h
    have h1 : ∀ (k : D → List Nat → Rs), resK s (n + 1) d k = k d [] := by
      intro k
      cases d <;> first | rfl | (simp [z8U] at h)
    show (resK s (n + 1) d fun y a => mapK (resK s (n + 1)) cs fun ys b => appK a b fun ab => kk (y :: ys) ab) = _
    rw [h1, zj2 h.2]; rfl
theorem znK {l len cm n : Nat} {ex : Bool} {b : Blk} (hg : s.get l = some b) (hl : b.st.live = true) (hf : b.cs.all z8U = true) (hlen : len ≤ b.cs.length) : ∃ e, ∀ kk, resK s (n + 2) (.sl l 0 len cm 1 ex) kk = kk (.tree (b.cs.take len) len e) [l] := by
  refine ⟨cnd ex (Nat.beq cm len) false, fun kk => ?_⟩
  show (kGet s l fun b => cnd (lv b.st) (z8V 0 b.cs fun r => z9W (Nat.mul len 1) r fun r => mapK (resK s (n + 1)) r fun cs ls => frcB (cnd ex (Nat.beq cm len) false) fun ex => kk (.tree cs len ex) (l :: ls)) none) = _
  rw [z5F, hg]
  show cnd (lv b.st) (z8V 0 b.cs fun r => z9W (Nat.mul len 1) r fun r => mapK (resK s (n + 1)) r fun cs ls => frcB (cnd ex (Nat.beq cm len) false) fun ex => kk (.tree cs len ex) (l :: ls)) none = _
  have hf2 : (b.cs.take len).all z8U = true := by
    rw [List.all_eq_true] at hf ⊢
    exact fun x hx => hf x (List.mem_of_mem_take hx)
  rw [zjI, hl, zx, z34, z9E, show Nat.mul len 1 = len from Nat.mul_one _, List.drop_zero, if_pos hlen, zj2 hf2, z66]
theorem zhB {cs : List D} {n : Nat} {e : Bool} : retK false s (.tree cs n e) some = some (.tree cs n e) := by
  unfold retK
  rw [zjT]
  show frcO _ some = _
  rw [z45]; rfl
theorem zmK {M : List D → Option D} {l len cm : Nat} {ex : Bool} {b : Blk} {cs' : List D} {n' : Nat} {e' : Bool} (hg : s.get l = some b) (hl : b.st.live = true) (hf : b.cs.all z8U = true) (hlen : len ≤ b.cs.length)
    (hM : ∀ e, M [.tree (b.cs.take len) len e] = some (.tree cs' n' e')) : ∃ s', (∀ K, isoK M [.sl l 0 len cm 1 ex] s K = K (.tree cs' n' e') s') ∧ ∀ l' b', l' ≠ l → s.get l' = some b' → s'.get l' = some b' := by
  obtain ⟨e, he⟩ := znK (n := 58) (cm := cm) (ex := ex) hg hl hf hlen
  refine ⟨s.put l ⟨b.cs, fzS b.st⟩, fun K => ?_, fun l' b' hne h => by rw [z8i hg, if_neg hne]; exact h⟩
  show resK s 60 (.sl l 0 len cm 1 ex) (fun y a => appK a [] fun ab => ob (M [y]) fun r => finK s ab r K) = _
  rw [he, z7G, hM]
  show (kGet s l fun b => kPut s l ⟨b.cs, fzS b.st⟩ fun s => K (.tree cs' n' e') s) = _
  rw [z5F, hg]
  show (kPut s l ⟨b.cs, fzS b.st⟩ fun s => K (.tree cs' n' e') s) = _
  rw [zhP hg]
def tz : List Nat → List Nat
  | [] => []
  | a :: l => match tz l with
    | [] => if a = 0 then [] else [a]
    | b :: r => a :: b :: r
theorem zkb : ∀ (l : List Nat), tz (l ++ [0]) = tz l
  | [] => rfl
  | a :: l => by
    show (match tz (l ++ [0]) with | [] => if a = 0 then [] else [a] | b :: r => a :: b :: r) = (match tz l with | [] => if a = 0 then [] else [a] | b :: r => a :: b :: r)
    rw [zkb l]
theorem zlD : ∀ (l : List Nat) {w : Nat}, w ≠ 0 → tz (l ++ [w]) = l ++ [w]
  | [], w, h => by
    show (if w = 0 then [] else [w]) = [w]
    rw [if_neg h]
  | a :: l, w, h => by
    show (match tz (l ++ [w]) with | [] => if a = 0 then [] else [a] | b :: r => a :: b :: r) = a :: (l ++ [w])
    rw [zlD l h]
    cases l <;> rfl
def ftF (q3 : D → D → LS → Rs) (x4 x5 : D) (s : LS) : Rs := (
 kGtr x5 (.i .i64 (.ofNat 0)) fun x6 =>
 z0 x6 true (fun k => k x4 s) s fun x7 s =>
 z0 x6 true (fun k => k x5 s) s fun x8 s =>
 z0 x6 true (fun k => kSub x8 (.i .i64 (.ofNat 1)) fun d => k d s) s fun x9 s =>
 z0 x6 true (fun k => z1 1 s x7 x9 k) s fun x10 s =>
 z0 x6 true (fun k => z4 s x10 k) s fun x11 s =>
 z0 x6 true (fun k => kEql x11 (.i .i64 (.ofNat 0)) fun d => k d s) s fun x12 s =>
 zp x6 x12 (.b false) s fun x13 s =>
 z5 x13
(kSub x5 (.i .i64 (.ofNat 1)) fun x14 =>
 q3 x4 x14 s)
(z23 1 s x4 none (some x5) (some x5) fun x15 s =>
 retK false s x15 some))
theorem zj4 {cs : List D} {len h : Nat} {ex : Bool} {k : D → LS → Rs} (hh : h ≤ len) (hl : cs.length = len) : z23 1 s (.tree cs len ex) none (some (.i .i64 (.ofNat h))) (some (.i .i64 (.ofNat h))) k = k (.tree (cs.take h) h true) s := by
  show cnd (Nat.ble h len) (cnd (Nat.ble h h) (cnd (Nat.ble 0 h) (cnd (Nat.beq cs.length (Nat.mul len 1))
        (z8V (Nat.mul 0 1) cs fun cs => frc (Nat.sub h 0) fun n => z9W (Nat.mul n 1) cs fun cs =>
          frcB (Nat.beq h h) fun ex => k (.tree cs n ex) s)
        none) none) none) none = _
  rw [Nat.ble_eq_true_of_le (Nat.le_refl h), Nat.ble_eq_true_of_le hh, Nat.ble_eq_true_of_le (Nat.zero_le h), hl, show Nat.mul len 1 = len from Nat.mul_one len, z2R, z2R]
  simp only [zx, z34, zC, z66]
  rw [show Nat.mul 0 1 = 0 from rfl, List.drop_zero, show Nat.sub h 0 = h from rfl, z9E, show Nat.mul h 1 = h from Nat.mul_one h, if_pos (by omega)]
theorem zmQ {ws : List Nat} {ex : Bool} (hlen : ws.length ≤ 9223372036854775807) : ∀ (n f : Nat), n ≤ ws.length → n < f →
    lp (fun (_ _ : D) (_ : LS) => none) ftF f (.tree (ci ws) ws.length ex) (.i .i64 (.ofNat n)) s = some (.tree (ci (tz (ws.take n))) (tz (ws.take n)).length true)
  | 0, f + 1, hn, hf => by
    rw [z1j]; unfold ftF
    simp only [zbk, zB (Nat.lt_irrefl 0), zcF, z9Y, z13]
    refine (zj4 (Nat.zero_le _) (zc9 ws)).trans ?_
    exact zhB
  | n + 1, f + 1, hn, hf => by
    have hlt : n < ws.length := by omega
    have hw := List.getElem?_eq_getElem hlt
    have htk : ws.take (n + 1) = ws.take n ++ [ws[n]] := List.take_succ_eq_append_getElem hlt
    have hm : n + 1 ≤ kmax .i64 := by show n + 1 ≤ 9223372036854775807; omega
    rw [z1j]; unfold ftF
    simp only [zbk, zy (Nat.succ_pos n), z9O, z5E (show 1 ≤ n + 1 by omega) hm, Nat.add_sub_cancel]
    refine (zeo hlt (zgl hw)).trans ?_
    refine (z9P).trans ?_
    by_cases h0 : ws[n] = 0
    · rw [h0, z2R, z6z, z1s, htk, h0, zkb]
      exact zmQ hlen n f (by omega) (by omega)
    · rw [z4Z h0, z6z, z13, htk, zlD _ h0, ← htk]
      refine (zj4 hn (zc9 ws)).trans ?_
      rw [List.length_take, Nat.min_eq_left hn]
      unfold ci; rw [List.map_take]
      exact zhB
theorem zeU {ws : List Nat} {ex : Bool} {φ : Nat} (hlen : ws.length ≤ 9223372036854775807) (hφ : ws.length < φ) : z1M φ [.tree (ci ws) ws.length ex] = some (.tree (ci (tz ws)) (tz ws).length true) := by
  show (kLen (.tree (ci ws) ws.length ex) s0 fun x2 s => lp (fun (_ _ : D) (_ : LS) => none) ftF φ (.tree (ci ws) ws.length ex) x2 s) = _
  rw [z1L, zmQ hlen ws.length φ (Nat.le_refl _) hφ, List.take_length]
end
end Go.Proofs.Ev
namespace Go.Proofs.Ev
noncomputable section
variable {s : LS} {K : D → LS → Rs}
def LIM : Nat := 2147483648
def Lo (l : List Nat) : Prop := ∀ x, x ∈ l → x < LIM
theorem zoF {a b c : Nat} (ha : a < LIM) (hb : b < LIM) (hc : c < LIM) : a * b + c ≤ kmax .i64 := by
  show a * b + c ≤ 9223372036854775807
  have h1 : a * b ≤ 2147483648 * 2147483648 := Nat.mul_le_mul (Nat.le_of_lt ha) (Nat.le_of_lt hb)
  have h2 : c < 2147483648 := hc
  omega
theorem zmh {a b : Nat} (ha : a < LIM) (hb : b < LIM) : a * b ≤ kmax .i64 := Nat.le_trans (Nat.le_add_right _ _) (zoF ha hb ha)
theorem Lo.get {l : List Nat} (h : Lo l) {i n : Nat} (hi : l[i]? = some n) : n < LIM := h n (List.mem_of_getElem? hi)
theorem Lo.append {a b : List Nat} (ha : Lo a) (hb : Lo b) : Lo (a ++ b) := fun x hx => by
  rcases List.mem_append.1 hx with h | h
  · exact ha x h
  · exact hb x h
theorem Lo.tail {a : Nat} {l : List Nat} (h : Lo (a :: l)) : Lo l := fun x hx => h x (List.mem_cons_of_mem _ hx)
theorem Lo.head {a : Nat} {l : List Nat} (h : Lo (a :: l)) : a < LIM := h a (List.mem_cons_self ..)
theorem Lo.cons {a : Nat} {l : List Nat} (h1 : a < LIM) (h : Lo l) : Lo (a :: l) := fun x hx => by
  rcases List.mem_cons.1 hx with rfl | hx
  · exact h1
  · exact h x hx
theorem znf (l : List Nat) (i w : Nat) : (ci l).set i (.i .i64 (.ofNat w)) = ci (l.set i w) := by
  unfold ci; rw [List.map_set]; rfl
theorem zjv (a : List Nat) (o w : Nat) (b : List Nat) {i : Nat} (h : a.length = i) : (a ++ o :: b).set i w = (a ++ [w]) ++ b := by
  rw [← h, List.set_append_right _ _ (Nat.le_refl _), Nat.sub_self, List.append_assoc]; rfl
theorem zga (a : List Nat) (o : Nat) (b : List Nat) {i : Nat} (h : a.length = i) : (a ++ o :: b)[i]? = some o := by
  rw [List.getElem?_append_right (by omega), h, Nat.sub_self]; rfl
def rowL (p x : Nat) : List Nat → List Nat → List Nat
  | [], os => os
  | _ :: _, [] => []
  | y :: ys, o :: os => (o + x * y) % p :: rowL p x ys os
theorem zcB {p x : Nat} : ∀ {ys os : List Nat}, ys.length ≤ os.length → (rowL p x ys os).length = os.length
  | [], os, _ => rfl
  | y :: ys, [], h => by simp at h
  | y :: ys, o :: os, h => congrArg Nat.succ (zcB (Nat.le_of_succ_le_succ h))
theorem zjy {p x : Nat} (hp : 0 < p) (hpL : p < LIM) : ∀ {ys os : List Nat}, Lo os → Lo (rowL p x ys os)
  | [], os, h => h
  | y :: ys, [], h => fun x hx => by cases hx
  | y :: ys, o :: os, h => Lo.cons (Nat.lt_trans (Nat.mod_lt _ hp) hpL) (zjy hp hpL h.tail)
def mulR (p : Nat) (ys : List Nat) : List Nat → List Nat → List Nat
  | [], os => os
  | x :: xr, os => match rowL p x ys os with
    | [] => []
    | o :: os' => o :: mulR p ys xr os'
def fmI (φ : Nat) (q16 : D → D → D → D → D → D → LS → Rs) (q27 : D → D → D → D → D → D → D → D → D → D → D → LS → Rs) (x28 x29 x30 x31 x32 x33 x34 x35 x36 x37 x38 : D) (s : LS) : Rs := (
 kLss x38 x37 fun x39 =>
 z5 x39
(z1 1 s x36 x38 fun x40 s =>
 z4 s x40 fun x41 s =>
 kAdd x31 x38 fun x42 =>
 kAdd x31 x38 fun x43 =>
 z1 1 s x30 x43 fun x44 s =>
 z4 s x44 fun x45 s =>
 kMul x32 x41 fun x46 =>
 kAdd x45 x46 fun x47 =>
 kRem x47 x28 fun x48 =>
 z1 1 s x30 x42 fun x49 s =>
 z6 1 s x49 x48 fun _ s =>
 kAdd x38 (.i .i64 (.ofNat 1)) fun x50 =>
 q27 x28 x29 x30 x31 x32 x33 x34 x35 x36 x37 x50 s)
(kAdd x35 (.i .i64 (.ofNat 1)) fun x51 =>
 q16 x28 x29 x30 x33 x34 x51 s))
theorem zqm {ys : List Nat} {ey : Bool} {p x i N φ : Nat} {q16 : D → D → D → D → D → D → LS → Rs} {X33 X34 : D} (hp : 0 < p) (hpL : p < LIM) (hx : x < LIM) (hys : Lo ys) (hN : N ≤ 1000000000) :
    ∀ (yr os yd done : List Nat) (f : Nat), ys = yd ++ yr → done.length = i + yd.length → (done ++ os).length = N → yr.length ≤ os.length → yr.length < f → Lo os → i < N →
    lp (fun (_ _ _ _ _ _ _ _ _ _ _ : D) (_ : LS) => none) (fmI φ q16) f (ni p) (.tree (ci ys) ys.length ey) (.sl 0 0 N N 1 true) (ni i) (ni x) X33 X34 (ni i) (.tree (ci ys) ys.length ey) (ni ys.length) (ni yd.length) (st1 (ci (done ++ os)))
      = q16 (ni p) (.tree (ci ys) ys.length ey) (.sl 0 0 N N 1 true) X33 X34 (ni (i + 1)) (st1 (ci (done ++ rowL p x yr os)))
  | [], os, yd, done, f + 1, h1, h2, h3, h4, h5, h6, h7 => by
    rw [List.append_nil] at h1
    rw [z1j]; unfold fmI
    refine (z3i).trans ?_
    rw [zB (by rw [h1]; exact Nat.lt_irrefl _), z13]
    exact z3T (show i + 1 ≤ kmax .i64 from (by show i + 1 ≤ 9223372036854775807; omega))
  | y :: yr, [], yd, done, f, h1, h2, h3, h4, h5, h6, h7 => by simp at h4
  | y :: yr, o :: os, yd, done, f + 1, h1, h2, h3, h4, h5, h6, h7 => by
    have hlt : yd.length < ys.length := by rw [h1]; simp
    have hy : ys[yd.length]? = some y := by rw [h1]; exact zga _ _ _ rfl
    have hyL := hys.get hy
    have hoL : o < LIM := h6.head
    have hin : i + yd.length < N := by
      rw [List.length_append, List.length_cons] at h3; omega
    have hB : x * y + o ≤ kmax .i64 := zoF hx hyL hoL
    have ha : i + yd.length ≤ kmax .i64 := by show i + yd.length ≤ 9223372036854775807; omega
    rw [z1j]; unfold fmI
    refine (z3i).trans ?_
    rw [zy hlt, z1s]
    refine (zeo (by exact hlt) (zgl hy)).trans ?_
    refine (z3T ha).trans ?_
    refine (z3T ha).trans ?_
    refine (z3w hin).trans ?_
    rw [Nat.zero_add]
    refine (z7D (zgl (zga done o os h2))).trans ?_
    refine (zf6 (Nat.le_trans (Nat.le_add_right _ _) hB)).trans ?_
    refine (z3T (by rw [Nat.add_comm]; exact hB)).trans ?_
    refine (zj6 (Nat.ne_of_gt hp)).trans ?_
    refine (z3w hin).trans ?_
    rw [Nat.zero_add]
    refine (z92 (by rw [zc9]; omega)).trans ?_
    refine (z3T (show yd.length + 1 ≤ kmax .i64 from (by show yd.length + 1 ≤ 9223372036854775807; omega))).trans ?_
    rw [znf, zjv done o _ os h2]
    have ih := zqm (φ := φ) (ey := ey) (q16 := q16) (X33 := X33) (X34 := X34) hp hpL hx hys hN yr os (yd ++ [y]) (done ++ [(o + x * y) % p]) f (by rw [h1, List.append_assoc]; rfl) (by simp; omega) (by rw [← h3]; simp) (Nat.le_of_succ_le_succ h4) (by simp at h5; omega) h6.tail h7
    rw [show (yd ++ [y]).length = yd.length + 1 by simp] at ih
    refine Eq.trans ih ?_
    rw [List.append_assoc]; rfl
def fmO (φ : Nat) (q16 : D → D → D → D → D → D → LS → Rs) (x17 x18 x19 x20 x21 x22 : D) (s : LS) : Rs := (
 kLss x22 x21 fun x23 =>
 z5 x23
(z1 1 s x20 x22 fun x24 s =>
 z4 s x24 fun x25 s =>
 kLen x18 s fun x26 s =>
 lp (fun (_ _ _ _ _ _ _ _ _ _ _ : D) (_ : LS) => none) (fmI φ q16) φ x17 x18 x19 x22 x25 x20 x21 x22 x18 x26 (.i .i64 (.ofNat 0)) s)
(isoK (z1M φ) [x19] s fun x52 s =>
 retK false s x52 some))
theorem zoM {xs ys : List Nat} {ex ey : Bool} {p N φ : Nat} (hp : 0 < p) (hpL : p < LIM) (hxs : Lo xs) (hys : Lo ys) (hN : N ≤ 1000000000) (hy0 : 0 < ys.length) (hφ : ys.length < φ) :
    ∀ (xr os xd done : List Nat) (f : Nat), xs = xd ++ xr → done.length = xd.length → (done ++ os).length = N → os.length + 1 = xr.length + ys.length → xr.length < f → Lo os →
    lp (fun (_ _ _ _ _ _ : D) (_ : LS) => none) (fmO φ) f (ni p) (.tree (ci ys) ys.length ey) (.sl 0 0 N N 1 true) (.tree (ci xs) xs.length ex) (ni xs.length) (ni xd.length) (st1 (ci (done ++ os)))
      = isoK (z1M φ) [.sl 0 0 N N 1 true] (st1 (ci (done ++ mulR p ys xr os))) fun x52 s => retK false s x52 some
  | [], os, xd, done, f + 1, h1, h2, h3, h4, h5, h6 => by
    rw [List.append_nil] at h1
    rw [z1j]; unfold fmO
    refine (z3i).trans ?_
    rw [zB (by rw [h1]; exact Nat.lt_irrefl _), z13]
    rfl
  | x :: xr, os, xd, done, f + 1, h1, h2, h3, h4, h5, h6 => by
    have hlt : xd.length < xs.length := by rw [h1]; simp
    have hx : xs[xd.length]? = some x := by rw [h1]; exact zga _ _ _ rfl
    have hle : ys.length ≤ os.length := by simp at h4; omega
    rw [z1j]; unfold fmO
    refine (z3i).trans ?_
    rw [zy hlt, z1s]
    refine (zeo (by exact hlt) (zgl hx)).trans ?_
    refine (z1L).trans ?_
    refine Eq.trans (zqm (φ := φ) (ey := ey) (i := xd.length) hp hpL (hxs.get hx) hys hN ys os [] done φ rfl (by simp; omega) h3 hle hφ h6 (by rw [← h3, List.length_append]; omega)) ?_
    cases hr : rowL p x ys os with
    | nil =>
      have := zcB (p := p) (x := x) hle
      rw [hr] at this
      simp at this; omega
    | cons o os' =>
      have hl := zcB (p := p) (x := x) hle
      rw [hr, List.length_cons] at hl
      have hlo := zjy (x := x) hp hpL (ys := ys) h6
      rw [hr] at hlo
      have ih := zoM (ex := ex) (ey := ey) (N := N) hp hpL hxs hys hN hy0 hφ xr os' (xd ++ [x]) (done ++ [o]) f (by rw [h1, List.append_assoc]; rfl) (by simp; omega) (by rw [← h3]; simp; omega) (by simp at h4; omega) (by simp at h5; omega) hlo.tail
      rw [show (xd ++ [x]).length = xd.length + 1 by simp, List.append_assoc] at ih
      refine Eq.trans ih ?_
      rw [show mulR p ys (x :: xr) os = o :: mulR p ys xr os' by show (match rowL p x ys os with | [] => [] | o :: os' => o :: mulR p ys xr os') = _; rw [hr]]
      rw [List.append_assoc]; rfl
theorem zko {p : Nat} {ys : List Nat} : ∀ {xr os : List Nat}, xr.length + ys.length ≤ os.length + 1 → 0 < ys.length → (mulR p ys xr os).length = os.length
  | [], os, _, _ => rfl
  | x :: xr, os, h, h0 => by
    have hle : ys.length ≤ os.length := by simp at h; omega
    have hl := zcB (p := p) (x := x) hle
    show (match rowL p x ys os with | [] => [] | o :: os' => o :: mulR p ys xr os').length = os.length
    cases hr : rowL p x ys os with
    | nil => rw [hr] at hl; exact hl
    | cons o os' =>
      rw [hr, List.length_cons] at hl
      show (mulR p ys xr os').length + 1 = os.length
      rw [zko (by simp at h; omega) h0]; exact hl
theorem zai {op : (D → LS → Rs) → Rs} {k : D → LS → Rs} : z0 (.b false) false op s k = op k := rfl
theorem zmU {xs ys : List Nat} {ex ey : Bool} {p φ : Nat} (hp : 0 < p) (hpL : p < LIM) (hxs : Lo xs) (hys : Lo ys) (hx0 : 0 < xs.length) (hy0 : 0 < ys.length) (hN : xs.length + ys.length ≤ 1000000000) (hφ : xs.length + ys.length < φ) :
    zcI φ [ni p, .tree (ci xs) xs.length ex, .tree (ci ys) ys.length ey] = some (.tree (ci (tz (mulR p ys xs (List.replicate (xs.length + ys.length - 1) 0)))) (tz (mulR p ys xs (List.replicate (xs.length + ys.length - 1) 0))).length true) := by
  unfold zcI
  dsimp only [z6u, zad]
  refine (z1L).trans ?_
  refine (z9P).trans ?_
  rw [z4Z (by omega)]
  rw [zai]; dsimp only
  rw [zai]
  rw [z1L, zai]
  rw [z9P, z4Z (show ys.length ≠ 0 by omega)]; dsimp only
  rw [z9Y, z13]
  refine (z1L).trans ?_
  refine (z1L).trans ?_
  refine (z3T (show xs.length + ys.length ≤ kmax .i64 from (by show xs.length + ys.length ≤ 9223372036854775807; omega))).trans ?_
  refine (z5E (show 1 ≤ xs.length + ys.length by omega) (show xs.length + ys.length ≤ kmax .i64 from (by show xs.length + ys.length ≤ 9223372036854775807; omega))).trans ?_
  refine (zep (by omega) (by omega)).trans ?_
  refine (z1L).trans ?_
  rw [zoS]
  have hz : Lo (List.replicate (xs.length + ys.length - 1) 0) := fun x hx => by rw [List.eq_of_mem_replicate hx]; decide
  refine Eq.trans (zoM (ex := ex) (ey := ey) (φ := φ) (N := xs.length + ys.length - 1) hp hpL hxs hys (by omega) hy0 (by omega) xs (List.replicate (xs.length + ys.length - 1) 0) [] [] φ rfl rfl (by simp) (by simp; omega) (by omega) hz) ?_
  rw [List.nil_append]
  have hl : (mulR p ys xs (List.replicate (xs.length + ys.length - 1) 0)).length = xs.length + ys.length - 1 := by
    rw [zko (by simp; omega) hy0]; simp
  generalize mulR p ys xs (List.replicate (xs.length + ys.length - 1) 0) = zs at *
  obtain ⟨s', h1, _⟩ := zmK (M := z1M φ) (s := st1 (ci zs)) (l := 0) (len := xs.length + ys.length - 1) (cm := xs.length + ys.length - 1) (ex := true) (cs' := ci (tz zs)) (n' := (tz zs).length) (e' := true) zap rfl (zia zs) (by show _ ≤ (ci zs).length; rw [zc9]; omega) (fun e => by
    show z1M φ [.tree ((ci zs).take (xs.length + ys.length - 1)) (xs.length + ys.length - 1) e] = _
    rw [← hl, List.take_of_length_le (by rw [zc9]; exact Nat.le_refl _)]
    exact zeU (by omega) (by omega))
  rw [h1]
  exact zhB
def zl6 (cs : List D) : (List Nat → Nat → Rs) → Rs :=
  List.rec (motive := fun _ => (List Nat → Nat → Rs) → Rs) (fun k => k [] 0) (fun d _ ih k => onN d (fun kk a => cnd (Nat.beq (zbW kk) 3) (cnd (Nat.blt a 2147483648) (ih fun l n => frc (Nat.succ n) fun n => k (a :: l) n) none) none) none) cs
theorem zaf {r : D} : ∀ {cs : List D} {k : List Nat → Nat → Rs}, zl6 cs k = some r → ∃ l, cs = ci l ∧ Lo l ∧ k l l.length = some r
  | [], k, h => ⟨[], rfl, fun w hw => (by cases hw), h⟩
  | d :: cs, k, h => by
    have h : (onN d (fun kk a => cnd (Nat.beq (zbW kk) 3) (cnd (Nat.blt a 2147483648) (zl6 cs fun l n => frc (Nat.succ n) fun n => k (a :: l) n) none) none) none) = some r := h
    obtain ⟨kk, a, rfl, h1⟩ := zbQ h
    obtain ⟨h2, h3⟩ := zt h1
    obtain ⟨h4, h5⟩ := zt h3
    obtain ⟨l, rfl, h6, h7⟩ := zaf h5
    rw [zC] at h7
    have hk : kk = .i64 := z99 (b := .i64) h2
    subst hk
    exact ⟨a :: l, rfl, Lo.cons (z3A h4) h6, h7⟩
def rowK (p x : Nat) (ys : List Nat) : List Nat → (List Nat → Rs) → Rs :=
  List.rec (motive := fun _ => List Nat → (List Nat → Rs) → Rs) (fun os k => k os) (fun y _ ih os k => List.rec (motive := fun _ => Rs) none (fun o os' _ => frc (Nat.mod (Nat.add o (Nat.mul x y)) p) fun v => ih os' fun r => k (v :: r)) os) ys
theorem zjz {p x : Nat} : ∀ {ys os : List Nat} {k : List Nat → Rs}, ys.length ≤ os.length → rowK p x ys os k = k (rowL p x ys os)
  | [], os, k, _ => rfl
  | y :: ys, [], k, h => by simp at h
  | y :: ys, o :: os, k, h => by
    show (frc (Nat.mod (Nat.add o (Nat.mul x y)) p) fun v => rowK p x ys os fun r => k (v :: r)) = _
    rw [zC, zjz (Nat.le_of_succ_le_succ h)]; rfl
def mulK (p : Nat) (ys xs : List Nat) : List Nat → (List Nat → Rs) → Rs :=
  List.rec (motive := fun _ => List Nat → (List Nat → Rs) → Rs) (fun os k => k os) (fun x _ ih os k => rowK p x ys os fun r => List.rec (motive := fun _ => Rs) none (fun o os' _ => ih os' fun r => k (o :: r)) r) xs
theorem zm7 {p : Nat} {ys : List Nat} (h0 : 0 < ys.length) : ∀ {xr os : List Nat} {k : List Nat → Rs}, xr.length + ys.length ≤ os.length + 1 → mulK p ys xr os k = k (mulR p ys xr os)
  | [], os, k, _ => rfl
  | x :: xr, os, k, h => by
    have hle : ys.length ≤ os.length := by simp at h; omega
    show (rowK p x ys os fun r => List.rec (motive := fun _ => Rs) none (fun o os' _ => mulK p ys xr os' fun r => k (o :: r)) r) = k (match rowL p x ys os with | [] => [] | o :: os' => o :: mulR p ys xr os')
    rw [zjz hle]
    have hl := zcB (p := p) (x := x) hle
    cases hr : rowL p x ys os with
    | nil => rw [hr] at hl; simp at hl; omega
    | cons o os' =>
      rw [hr, List.length_cons] at hl
      show (mulK p ys xr os' fun r => k (o :: r)) = _
      rw [zm7 h0 (by simp at h; omega)]
def tzK (l : List Nat) : (List Nat → Rs) → Rs :=
  List.rec (motive := fun _ => (List Nat → Rs) → Rs) (fun k => k []) (fun a _ ih k => ih fun r => List.rec (motive := fun _ => Rs) (cnd (Nat.beq a 0) (k []) (k [a])) (fun b r' _ => k (a :: b :: r')) r) l
theorem zkc : ∀ {l : List Nat} {k : List Nat → Rs}, tzK l k = k (tz l)
  | [], k => rfl
  | a :: l, k => by
    show (tzK l fun r => List.rec (motive := fun _ => Rs) (cnd (Nat.beq a 0) (k []) (k [a])) (fun b r' _ => k (a :: b :: r')) r) = k (match tz l with | [] => if a = 0 then [] else [a] | b :: r => a :: b :: r)
    rw [zkc]
    cases tz l with
    | nil =>
      show cnd (Nat.beq a 0) (k []) (k [a]) = k (if a = 0 then [] else [a])
      by_cases h : a = 0
      · subst h; rfl
      · rw [z4Z h, if_neg h]; rfl
    | cons b r => rfl
def outK (l : List Nat) : (List D → Nat → Rs) → Rs :=
  List.rec (motive := fun _ => (List D → Nat → Rs) → Rs) (fun k => k [] 0) (fun a _ ih k => ih fun cs n => frc (Nat.succ n) fun n => k (.i .i64 (.ofNat a) :: cs) n) l
theorem zhD : ∀ {l : List Nat} {k : List D → Nat → Rs}, outK l k = k (ci l) l.length
  | [], k => rfl
  | a :: l, k => by
    show (outK l fun cs n => frc (Nat.succ n) fun n => k (.i .i64 (.ofNat a) :: cs) n) = _
    rw [zhD, zC]; rfl
def repK (n : Nat) : (List Nat → Rs) → Rs := Nat.rec (motive := fun _ => (List Nat → Rs) → Rs) (fun k => k []) (fun _ ih k => ih fun r => k (0 :: r)) n
theorem zlR : ∀ {n : Nat} {k : List Nat → Rs}, repK n k = k (List.replicate n 0)
  | 0, k => rfl
  | n + 1, k => by
    show (repK n fun r => k (0 :: r)) = _
    rw [zlR]; rfl
def on63 (d : D) (k : Nat → Rs) : Rs := onN d (fun kk a => cnd (Nat.beq (zbW kk) 3) (k a) none) none
theorem zfT {d : D} {k : Nat → Rs} {r : D} (h : on63 d k = some r) : ∃ a, d = ni a ∧ k a = some r := by
  obtain ⟨kk, a, rfl, h1⟩ := zbQ h
  obtain ⟨h2, h3⟩ := zt h1
  have hk : kk = .i64 := z99 (b := .i64) h2
  subst hk
  exact ⟨a, rfl, h3⟩
def onTr (d : D) (k : List D → Nat → Rs) : Rs := onSl d (fun _ _ _ _ _ _ => none) (fun cs n _ => k cs n) none
theorem zea {d : D} {k : List D → Nat → Rs} {r : D} (h : onTr d k = some r) : ∃ cs n e, d = .tree cs n e ∧ k cs n = some r := by
  rcases z6x h with ⟨l, off, len, cm, z, ex, rfl, h1⟩ | ⟨cs, len, ex, rfl, h1⟩
  · cases h1
  · exact ⟨cs, len, ex, rfl, h1⟩
def zge (φ : Nat) (as : List D) : Option D :=
  u1 as fun a r => u1 r fun f r => u1 r fun g r => u0 r (on63 a fun p => onTr f fun cs n => onTr g fun ds m => cnd (Nat.beq n 0) (zcI φ as) (cnd (Nat.beq m 0) (zcI φ as)
    (cnd (Nat.blt 0 p) (cnd (Nat.blt p 2147483648) (zl6 cs fun xs n' => zl6 ds fun ys m' => cnd (Nat.beq n' n) (cnd (Nat.beq m' m) (cnd (Nat.ble n 100000) (cnd (Nat.ble m 100000)
      (frc (Nat.pred (Nat.add n m)) fun N => repK N fun os => mulK p ys xs os fun zs => tzK zs fun zs => outK zs fun cs n => some (.tree cs n true)) none) none) none) none) none) none)))
theorem zll {φ : Nat} {as : List D} {r : D} (h : zge φ as = some r) : ∃ φ', zcI φ' as = some r := by
  obtain ⟨a, r1, rfl, g1⟩ := z1r h
  obtain ⟨f, r2, rfl, g2⟩ := z1r g1
  obtain ⟨g, r3, rfl, g3⟩ := z1r g2
  obtain ⟨rfl, g4⟩ := z4m g3
  obtain ⟨p, rfl, g5⟩ := zfT g4
  obtain ⟨cs, n, ex, rfl, g6⟩ := zea g5
  obtain ⟨ds, m, ey, rfl, g7⟩ := zea g6
  rcases zaj g7 with ⟨_, g8⟩ | ⟨hn, g8⟩
  · exact ⟨φ, g8⟩
  rcases zaj g8 with ⟨_, g9⟩ | ⟨hm, g9⟩
  · exact ⟨φ, g9⟩
  obtain ⟨h1, g10⟩ := zt g9
  obtain ⟨h2, g11⟩ := zt g10
  obtain ⟨xs, rfl, hxs, g12⟩ := zaf g11
  obtain ⟨ys, rfl, hys, g13⟩ := zaf g12
  obtain ⟨h3, g14⟩ := zt g13
  obtain ⟨h4, g15⟩ := zt g14
  obtain ⟨h5, g16⟩ := zt g15
  obtain ⟨h6, g17⟩ := zt g16
  have h3 := Nat.eq_of_beq_eq_true h3
  have h4 := Nat.eq_of_beq_eq_true h4
  subst h3 h4
  have h5 := Nat.le_of_ble_eq_true h5
  have h6 := Nat.le_of_ble_eq_true h6
  have hx0 : 0 < xs.length := Nat.pos_of_ne_zero fun e => by rw [e] at hn; cases hn
  have hy0 : 0 < ys.length := Nat.pos_of_ne_zero fun e => by rw [e] at hm; cases hm
  rw [zC, zlR, zm7 hy0 (by rw [List.length_replicate]; show xs.length + ys.length ≤ (xs.length + ys.length - 1) + 1; omega), zkc, zhD] at g17
  refine ⟨xs.length + ys.length + 1, ?_⟩
  rw [zmU (z3A h1) (z3A h2) hxs hys hx0 hy0 (by omega) (Nat.lt_succ_self _)]
  exact g17
end
end Go.Proofs.Ev
namespace Go.Proofs.Ev
noncomputable section
variable {s : LS} {K : D → LS → Rs}
theorem zlx {z : Int} (h1 : -9223372036854775808 ≤ z) (h2 : z ≤ 9223372036854775807) : IntKind.i64.wrap z = z := by
  unfold IntKind.wrap; simp [IntKind.signed, IntKind.bits]; omega
theorem zku {a b : Nat} {k : D → Rs} (h : a < b) (hb : b ≤ 9223372036854775807) : kSub (ni a) (ni b) k = k (.i .i64 (.negSucc (b - a - 1))) := by
  unfold kSub ni
  rw [zbR, z8y (by omega), zM]
  show z12 .sub (.i .i64 (.ofNat a)) (.i .i64 (.ofNat b)) k = _
  unfold z12
  rw [z45]
  show ob (some (D.i .i64 (IntKind.i64.wrap ((a : Int) - (b : Int))))) k = _
  rw [zlx (by omega) (by omega), show ((a : Int) - (b : Int)) = Int.negSucc (b - a - 1) by omega]; rfl
theorem znZ {m p : Nat} {k : D → Rs} (hp : 0 < p) : kRem (.i .i64 (.negSucc m)) (ni p) k = k (.i .i64 (-(((m + 1) % p : Nat) : Int))) := by
  show z12 .rem (.i .i64 (.negSucc m)) (.i .i64 (.ofNat p)) k = _
  unfold z12
  rw [z45]
  show ob (if (p : Int) = 0 then none else some (D.i .i64 (Int.tmod (.negSucc m) (p : Int)))) k = _
  rw [if_neg (by omega)]; rfl
theorem zmu {m : Nat} {k : D → Rs} : kLss (.i .i64 (.negSucc m)) (.i .i64 (.ofNat 0)) k = k (.b true) := by
  show z12 .lss (.i .i64 (.negSucc m)) (.i .i64 (.ofNat 0)) k = _
  unfold z12
  rw [z45]
  show ob (some (D.b (decide (Int.negSucc m < 0)))) k = _
  rw [decide_eq_true (Int.negSucc_lt_zero m)]; rfl
theorem zoa {m p : Nat} {k : D → Rs} (h : m < p) (hp : p ≤ 9223372036854775807) : kAdd (.i .i64 (.negSucc m)) (ni p) k = k (ni (p - (m + 1))) := by
  show z12 .add (.i .i64 (.negSucc m)) (.i .i64 (.ofNat p)) k = _
  unfold z12
  rw [z45]
  show ob (some (D.i .i64 (IntKind.i64.wrap (Int.negSucc m + (p : Int))))) k = _
  rw [zlx (by omega) (by omega), show (Int.negSucc m + (p : Int)) = Int.ofNat (p - (m + 1)) by rw [Int.negSucc_eq]; simp only [Int.ofNat_eq_natCast]; omega]; rfl
theorem zqa {a b p : Nat} (hp : 0 < p) (h : b ≤ a) : (a - b) % p = (a + (p - 1) * b) % p := by
  have e : a + (p - 1) * b = (a - b) + p * b := by
    obtain ⟨q, rfl⟩ : ∃ q, p = q + 1 := ⟨p - 1, by omega⟩
    rw [Nat.add_sub_cancel, Nat.add_mul]; omega
  rw [e, Nat.add_mul_mod_self_left]
theorem zpc {a b p : Nat} (hp : 0 < p) (h : a < b) (h0 : (b - a) % p = 0) : (a + (p - 1) * b) % p = 0 := by
  have e := Nat.div_add_mod (b - a) p
  rw [h0, Nat.add_zero] at e
  have e2 : a + (p - 1) * b + p * ((b - a) / p) = p * b := by
    obtain ⟨q, rfl⟩ : ∃ q, p = q + 1 := ⟨p - 1, by omega⟩
    rw [e, Nat.add_sub_cancel, Nat.add_mul q 1 b]; omega
  have e3 : (a + (p - 1) * b + p * ((b - a) / p)) % p = (p * b) % p := by rw [e2]
  rw [Nat.add_mul_mod_self_left, Nat.mul_mod_right] at e3
  exact e3
theorem zpb {a b p : Nat} (hp : 0 < p) (h : a < b) (h0 : (b - a) % p ≠ 0) : (a + (p - 1) * b) % p = p - (b - a) % p := by
  have e := Nat.div_add_mod (b - a) p
  have hlt := Nat.mod_lt (b - a) hp
  have e2 : a + (p - 1) * b + p * ((b - a) / p + 1) = p - (b - a) % p + p * b := by
    obtain ⟨q, rfl⟩ : ∃ q, p = q + 1 := ⟨p - 1, by omega⟩
    rw [Nat.mul_add, Nat.add_sub_cancel, Nat.add_mul q 1 b]; omega
  have e3 : (a + (p - 1) * b + p * ((b - a) / p + 1)) % p = (p - (b - a) % p + p * b) % p := by rw [e2]
  rw [Nat.add_mul_mod_self_left, Nat.add_mul_mod_self_left, Nat.mod_eq_of_lt (show p - (b - a) % p < p by omega)] at e3
  exact e3
theorem zmV {a b p φ : Nat} {z : D} (hp : 0 < p) (hpL : p < LIM) (hz : ∀ k, kSub (ni a) (ni b) k = k z) (ha : a < LIM) (hb : b ≤ 4611686018427387904) : z6S φ [ni p, z] = some (ni ((a + (p - 1) * b) % p)) := by
  have hp63 : p ≤ 9223372036854775807 := Nat.le_trans (Nat.le_of_lt hpL) (by decide)
  by_cases h : b ≤ a
  · have e : z = ni (a - b) := by
      have h1 := hz some
      unfold ni at h1
      rw [z5E h (show a ≤ kmax .i64 from Nat.le_trans (Nat.le_of_lt ha) (by decide))] at h1
      exact (Option.some.inj h1).symm
    subst e
    unfold z6S
    dsimp only [z6u, zad, jn]
    refine (zj6 (by omega)).trans ?_
    refine (z3i).trans ?_
    rw [zB (Nat.not_lt_zero _), z13, zqa hp h]; rfl
  · have h : a < b := by omega
    have e : z = .i .i64 (.negSucc (b - a - 1)) := by
      have h1 := hz some
      rw [zku h (Nat.le_trans hb (by decide))] at h1
      exact (Option.some.inj h1).symm
    subst e
    unfold z6S
    dsimp only [z6u, zad, jn]
    refine (znZ hp).trans ?_
    rw [show b - a - 1 + 1 = b - a by omega]
    by_cases h0 : (b - a) % p = 0
    · rw [h0, show (-((0 : Nat) : Int)) = Int.ofNat 0 from rfl]
      refine (z3i).trans ?_
      rw [zB (Nat.not_lt_zero _), z13, zpc hp h h0]; rfl
    · obtain ⟨e, he⟩ : ∃ e, (b - a) % p = e + 1 := ⟨(b - a) % p - 1, by omega⟩
      have hlt := Nat.mod_lt (b - a) hp
      rw [zpb hp h h0, he, show (-((e + 1 : Nat) : Int)) = Int.negSucc e from rfl]
      refine (zmu).trans ?_
      rw [z1s]
      refine (zoa (by omega) hp63).trans ?_
      rfl
def st3 (r q : List Nat) : LS := ⟨.node (some ⟨[], .rw⟩) (.node (some ⟨ci r, .rw⟩) .nil .nil) (.node (some ⟨ci q, .rw⟩) .nil .nil), 3⟩
variable {r q : List Nat} {i v len cm : Nat} {ex : Bool}
theorem zlI : (st3 r q).get 1 = some ⟨ci r, .rw⟩ := rfl
theorem zp2 : (st3 r q).get 2 = some ⟨ci q, .rw⟩ := rfl
theorem rd_r (hi : i < len) (h : r[i]? = some v) : (z1 1 (st3 r q) (.sl 1 0 len cm 1 ex) (ni i) fun a s => z4 s a K) = K (ni v) (st3 r q) := by
  refine (z9a zlI rfl hi).trans ?_
  refine zeS zlI rfl ?_
  rw [show 0 + i * 1 = i by omega]; exact zgl h
theorem wr_r (hi : i < len) (h : i < r.length) : (z1 1 (st3 r q) (.sl 1 0 len cm 1 ex) (ni i) fun a s => z6 1 s a (ni v) K) = K .u (st3 (r.set i v) q) := by
  refine (z9a zlI rfl hi).trans ?_
  rw [show 0 + i * 1 = i by omega]
  refine (zcD zlI rfl (by rw [zc9]; exact h)).trans ?_
  rw [znf]; rfl
theorem wr_q (hi : i < len) (h : i < q.length) : (z1 1 (st3 r q) (.sl 2 0 len cm 1 ex) (ni i) fun a s => z6 1 s a (ni v) K) = K .u (st3 r (q.set i v)) := by
  refine (z9a zp2 rfl hi).trans ?_
  rw [show 0 + i * 1 = i by omega]
  refine (zcD zp2 rfl (by rw [zc9]; exact h)).trans ?_
  rw [znf]; rfl
theorem zoK {M : List D → Option D} {p w : Nat} {k2 : IntKind} {z : Int} (h : M [ni p, .i k2 z] = some (ni w)) : isoK M [ni p, .i k2 z] s K = K (ni w) s := by
  show ob (M [ni p, .i k2 z]) (fun r => finK s [] r K) = _
  rw [h]; rfl
def dmI (φ : Nat) (q19 : D → D → D → D → D → D → D → LS → Rs) (q36 : D → D → D → D → D → D → D → D → D → D → D → LS → Rs) (x37 x38 x39 x40 x41 x42 x43 x44 x45 x46 x47 : D) (s : LS) : Rs := (
 kLss x47 x46 fun x48 =>
 z5 x48
(z1 1 s x45 x47 fun x49 s =>
 z4 s x49 fun x50 s =>
 kAdd x43 x47 fun x51 =>
 kAdd x43 x47 fun x52 =>
 z1 1 s x39 x52 fun x53 s =>
 z4 s x53 fun x54 s =>
 kMul x44 x50 fun x55 =>
 kSub x54 x55 fun x56 =>
 isoK (z6S φ) [x37, x56] s fun x57 s =>
 z1 1 s x39 x51 fun x58 s =>
 z6 1 s x58 x57 fun _ s =>
 kAdd x47 (.i .i64 (.ofNat 1)) fun x59 =>
 q36 x37 x38 x39 x40 x41 x42 x43 x44 x45 x46 x59 s)
(kSub x43 (.i .i64 (.ofNat 1)) fun x60 =>
 q19 x37 x38 x39 x40 x41 x42 x60 s))
theorem zqs {g : List Nat} {eg : Bool} {p c k m φ : Nat} {q19 : D → D → D → D → D → D → D → LS → Rs} {X40 X41 X42 : D} (hp : 0 < p) (hpL : p < LIM) (hc : c < LIM) (hg : Lo g) (hm : m ≤ 1000000000) :
    ∀ (gr os gd done : List Nat) (f : Nat), g = gd ++ gr → done.length = k + gd.length → (done ++ os).length = m → gr.length ≤ os.length → gr.length < f → Lo os →
    lp (fun (_ _ _ _ _ _ _ _ _ _ _ : D) (_ : LS) => none) (dmI φ q19) f (ni p) (.tree (ci g) g.length eg) (.sl 1 0 m m 1 false) X40 X41 X42 (ni k) (ni c) (.tree (ci g) g.length eg) (ni g.length) (ni gd.length) (st3 (done ++ os) q)
      = kSub (ni k) (.i .i64 (.ofNat 1)) fun x60 => q19 (ni p) (.tree (ci g) g.length eg) (.sl 1 0 m m 1 false) X40 X41 X42 x60 (st3 (done ++ rowL p ((p - 1) * c) gr os) q)
  | [], os, gd, done, f + 1, h1, h2, h3, h4, h5, h6 => by
    rw [List.append_nil] at h1
    rw [z1j]; unfold dmI
    refine (z3i).trans ?_
    rw [zB (by rw [h1]; exact Nat.lt_irrefl _), z13]
    rfl
  | y :: gr, [], gd, done, f, h1, h2, h3, h4, h5, h6 => by simp at h4
  | y :: gr, o :: os, gd, done, f + 1, h1, h2, h3, h4, h5, h6 => by
    have hlt : gd.length < g.length := by rw [h1]; simp
    have hy : g[gd.length]? = some y := by rw [h1]; exact zga _ _ _ rfl
    have hyL := hg.get hy
    have hoL : o < LIM := h6.head
    have hlen := h3
    rw [List.length_append, List.length_cons] at hlen
    have hin : k + gd.length < m := by omega
    have ha : k + gd.length ≤ kmax .i64 := by show k + gd.length ≤ 9223372036854775807; omega
    have hcy : c * y ≤ 4611686018427387904 := Nat.le_trans (Nat.mul_le_mul (Nat.le_of_lt hc) (Nat.le_of_lt hyL)) (by decide)
    obtain ⟨kz, z, hz⟩ : ∃ kz z, ∀ k, kSub (ni o) (ni (c * y)) k = k (.i kz z) := by
      by_cases h : c * y ≤ o
      · exact ⟨.i64, .ofNat (o - c * y), fun k => z5E h (Nat.le_trans (Nat.le_of_lt hoL) (by decide))⟩
      · exact ⟨.i64, _, fun k => zku (by omega) (Nat.le_trans hcy (by decide))⟩
    rw [z1j]; unfold dmI
    refine (z3i).trans ?_
    rw [zy hlt, z1s]
    refine (zeo (by exact hlt) (zgl hy)).trans ?_
    refine (z3T ha).trans ?_
    refine (z3T ha).trans ?_
    refine (rd_r hin (zga done o os h2)).trans ?_
    refine (zf6 (zmh hc hyL)).trans ?_
    refine (hz _).trans ?_
    refine (zoK (zmV hp hpL hz hoL hcy)).trans ?_
    refine (wr_r hin (by rw [h3]; exact hin)).trans ?_
    refine (z3T (show gd.length + 1 ≤ kmax .i64 from (by show gd.length + 1 ≤ 9223372036854775807; omega))).trans ?_
    rw [zjv done o _ os h2]
    have ih := zqs (φ := φ) (k := k) (c := c) (eg := eg) (q19 := q19) (X40 := X40) (X41 := X41) (X42 := X42) hp hpL hc hg hm gr os (gd ++ [y]) (done ++ [(o + (p - 1) * (c * y)) % p]) f (by rw [h1, List.append_assoc]; rfl) (by simp; omega) (by rw [← h3]; simp) (Nat.le_of_succ_le_succ h4) (by simp at h5; omega) h6.tail
    rw [show (gd ++ [y]).length = gd.length + 1 by simp] at ih
    refine Eq.trans ih ?_
    rw [List.append_assoc, ← Nat.mul_assoc]; rfl
end
end Go.Proofs.Ev
namespace Go.Proofs.Ev
noncomputable section
variable {s : LS} {K : D → LS → Rs}
def idx (j : Nat) : D := match j with | 0 => .i .i64 (.negSucc 0) | j + 1 => ni j
theorem znW {j : Nat} {k : D → Rs} (h : j ≤ 9223372036854775807) : kSub (ni j) (.i .i64 (.ofNat 1)) k = k (idx j) := by
  cases j with
  | zero => exact zjJ
  | succ j => exact z5E (show 1 ≤ j + 1 by omega) h
def divS (p iv : Nat) (g : List Nat) : Nat → List Nat → List Nat → List Nat × List Nat
  | 0, rest, q => (rest, q)
  | j + 1, rest, q => divS p iv g j (rest.take j ++ rowL p ((p - 1) * (rest.getD (j + g.length - 1) 0 * iv % p)) g (rest.drop j)) (rest.getD (j + g.length - 1) 0 * iv % p :: q)
def dmE (φ : Nat) (x22 x23 x24 : D) (s : LS) : Rs := (
 isoK (z1M φ) [x24] s fun x61 s =>
 kSub x23 (.i .i64 (.ofNat 1)) fun x62 =>
 z23 1 s x22 none (some x62) none fun x63 s =>
 isoK (z1M φ) [x63] s fun x64 s =>
 retK false s (.tup [x61, x64]) some)
def dmO (φ : Nat) (q19 : D → D → D → D → D → D → D → LS → Rs) (x20 x21 x22 x23 x24 x25 x26 : D) (s : LS) : Rs := (
 kGeq x26 (.i .i64 (.ofNat 0)) fun x27 =>
 z5 x27
(kAdd x26 x23 fun x28 =>
 kSub x28 (.i .i64 (.ofNat 1)) fun x29 =>
 z1 1 s x22 x29 fun x30 s =>
 z4 s x30 fun x31 s =>
 kMul x31 x25 fun x32 =>
 kRem x32 x20 fun x33 =>
 z1 1 s x24 x26 fun x34 s =>
 z6 1 s x34 x33 fun _ s =>
 kLen x21 s fun x35 s =>
 lp (fun (_ _ _ _ _ _ _ _ _ _ _ : D) (_ : LS) => none) (dmI φ q19) φ x20 x21 x22 x23 x24 x25 x26 x33 x21 x35 (.i .i64 (.ofNat 0)) s)
(dmE φ x22 x23 x24 s))
theorem zq6 {p c : Nat} {g rest : List Nat} {j : Nat} (hp : 0 < p) (hpL : p < LIM) (h : Lo rest) : Lo (rest.take j ++ rowL p c g (rest.drop j)) :=
  Lo.append (fun x hx => h x (List.mem_of_mem_take hx)) (zjy hp hpL fun x hx => h x (List.mem_of_mem_drop hx))
theorem zjx {p c : Nat} {g rest : List Nat} {j : Nat} (h : j + g.length ≤ rest.length) : (rest.take j ++ rowL p c g (rest.drop j)).length = rest.length := by
  rw [List.length_append, zcB (by rw [List.length_drop]; omega), List.length_take, List.length_drop]; omega
theorem zoP {g : List Nat} {eg : Bool} {p iv m Q φ : Nat} (hp : 0 < p) (hpL : p < LIM) (hiv : iv < LIM) (hg : Lo g) (hg0 : 0 < g.length) (hm : m ≤ 1000000000) (hQ : Q + g.length = m + 1) (hφ : g.length < φ) :
    ∀ (j f : Nat) (rest q : List Nat), rest.length = m → Lo rest → j + q.length = Q → j < f →
    lp (fun (_ _ _ _ _ _ _ : D) (_ : LS) => none) (dmO φ) f (ni p) (.tree (ci g) g.length eg) (.sl 1 0 m m 1 false) (ni g.length) (.sl 2 0 Q Q 1 true) (ni iv) (idx j) (st3 rest (List.replicate j 0 ++ q))
      = dmE φ (.sl 1 0 m m 1 false) (ni g.length) (.sl 2 0 Q Q 1 true) (st3 (divS p iv g j rest q).1 (divS p iv g j rest q).2)
  | 0, f + 1, rest, q, h1, h2, h3, h4 => by
    rw [z1j]; unfold dmO
    refine (zhV).trans ?_
    rw [z13]; rfl
  | j + 1, f + 1, rest, q, h1, h2, h3, h4 => by
    have hi : j + g.length - 1 < m := by omega
    have hr : rest[j + g.length - 1]? = some (rest.getD (j + g.length - 1) 0) := by rw [List.getD_eq_getElem?_getD, List.getElem?_eq_getElem (by omega)]; rfl
    have hrL := h2.get hr
    have hcp : rest.getD (j + g.length - 1) 0 * iv % p < LIM := Nat.lt_trans (Nat.mod_lt _ hp) hpL
    rw [z1j]; unfold dmO
    refine (zmz).trans ?_
    rw [show Nat.ble 0 j = true from Nat.ble_eq_true_of_le (Nat.zero_le j), z1s]
    refine (z3T (show j + g.length ≤ kmax .i64 from (by show j + g.length ≤ 9223372036854775807; omega))).trans ?_
    refine (z5E (show 1 ≤ j + g.length by omega) (show j + g.length ≤ kmax .i64 from (by show j + g.length ≤ 9223372036854775807; omega))).trans ?_
    refine (rd_r hi hr).trans ?_
    refine (zf6 (zmh hrL hiv)).trans ?_
    refine (zj6 (Nat.ne_of_gt hp)).trans ?_
    refine (wr_q (show j < Q by omega) (by rw [List.length_append, List.length_replicate]; omega)).trans ?_
    refine (z1L).trans ?_
    have e1 : (List.replicate (j + 1) 0 ++ q).set j (rest.getD (j + g.length - 1) 0 * iv % p) = List.replicate j 0 ++ (rest.getD (j + g.length - 1) 0 * iv % p :: q) := by
      rw [List.replicate_succ', List.append_assoc]
      exact (zjv (List.replicate j 0) 0 _ q (by simp)).trans (List.append_assoc ..)
    rw [e1]
    have e2 := zqs (φ := φ) (eg := eg) (k := j) (c := rest.getD (j + g.length - 1) 0 * iv % p) (m := m) (q := List.replicate j 0 ++ (rest.getD (j + g.length - 1) 0 * iv % p :: q)) (q19 := lp (fun (_ _ _ _ _ _ _ : D) (_ : LS) => none) (dmO φ) f) (X40 := ni g.length) (X41 := .sl 2 0 Q Q 1 true) (X42 := ni iv) hp hpL hcp hg hm g (rest.drop j) [] (rest.take j) φ rfl (by rw [List.length_take]; simp; omega) (by rw [List.take_append_drop]; exact h1) (by rw [List.length_drop]; omega) hφ (fun x hx => h2 x (List.mem_of_mem_drop hx))
    rw [List.take_append_drop] at e2
    refine Eq.trans e2 ?_
    refine (znW (by omega)).trans ?_
    exact zoP hp hpL hiv hg hg0 hm hQ hφ j f _ _ (by rw [zjx (by omega)]; exact h1) (zq6 hp hpL h2) (by simp; omega) (by omega)
theorem zkO {p iv : Nat} {g : List Nat} : ∀ {j : Nat} {rest q : List Nat}, j + g.length ≤ rest.length + 1 → (divS p iv g j rest q).1.length = rest.length ∧ (divS p iv g j rest q).2.length = j + q.length
  | 0, rest, q, h => ⟨rfl, (Nat.zero_add _).symm⟩
  | j + 1, rest, q, h => by
    have e := zjx (p := p) (c := (p - 1) * (rest.getD (j + g.length - 1) 0 * iv % p)) (g := g) (rest := rest) (j := j) (by omega)
    obtain ⟨h1, h2⟩ := zkO (p := p) (iv := iv) (g := g) (j := j) (rest := rest.take j ++ rowL p ((p - 1) * (rest.getD (j + g.length - 1) 0 * iv % p)) g (rest.drop j)) (q := rest.getD (j + g.length - 1) 0 * iv % p :: q) (by omega)
    refine ⟨h1.trans e, h2.trans ?_⟩
    simp; omega
theorem znY {l len cm h : Nat} {ex : Bool} {b : Blk} {k : D → LS → Rs} (hg : s.get l = some b) (hl : b.st.live = true) (h0 : 0 < cm) (hh : h ≤ cm) : z23 1 s (.sl l 0 len cm 1 ex) none (some (.i .i64 (.ofNat h))) none k = k (.sl l 0 h cm 1 ex) s := by
  show (kGet s l fun b => cnd (lv b.st) (cnd (Nat.ble cm cm) (cnd (Nat.ble h cm) (cnd (Nat.ble 0 h) (cnd (Nat.beq 1 1) (frcB ex fun ex => cnd (Nat.blt 0 cm) (frc (Nat.add 0 (Nat.mul 0 1)) fun off => frc (Nat.sub h 0) fun l' => frc (Nat.sub cm 0) fun cm => k (.sl l off l' cm 1 ex) s) (k (.tree [] 0 ex) s)) none) none) none) none) none) = _
  rw [z5F, hg]
  show cnd (lv b.st) (cnd (Nat.ble cm cm) (cnd (Nat.ble h cm) (cnd (Nat.ble 0 h) (cnd (Nat.beq 1 1) (frcB ex fun ex => cnd (Nat.blt 0 cm) (frc (Nat.add 0 (Nat.mul 0 1)) fun off => frc (Nat.sub h 0) fun l' => frc (Nat.sub cm 0) fun cm => k (.sl l off l' cm 1 ex) s) (k (.tree [] 0 ex) s)) none) none) none) none) none = _
  rw [zjI, hl, Nat.ble_eq_true_of_le (Nat.le_refl cm), Nat.ble_eq_true_of_le hh, Nat.ble_eq_true_of_le (Nat.zero_le h), zy h0]
  simp only [zx, z66, zC, z2R]
  rfl
theorem zqt {rest q : List Nat} {n Q φ : Nat} (hn : 0 < n) (hnm : n ≤ rest.length) (hq : q.length = Q) (hm : rest.length ≤ 1000000000) (hQ : Q ≤ 1000000000) (h1 : Q < φ) (h2 : rest.length < φ) :
    dmE φ (.sl 1 0 rest.length rest.length 1 false) (ni n) (.sl 2 0 Q Q 1 true) (st3 rest q) = some (.tup [.tree (ci (tz q)) (tz q).length true, .tree (ci (tz (rest.take (n - 1)))) (tz (rest.take (n - 1))).length true]) := by
  subst hq
  obtain ⟨s1, k1, f1⟩ := zmK (M := z1M φ) (s := st3 rest q) (l := 2) (len := q.length) (cm := q.length) (ex := true) (cs' := ci (tz q)) (n' := (tz q).length) (e' := true) zp2 rfl (zia q) (by show _ ≤ (ci q).length; rw [zc9]; exact Nat.le_refl _) (fun e => by
    show z1M φ [.tree ((ci q).take q.length) q.length e] = _
    rw [List.take_of_length_le (by rw [zc9]; exact Nat.le_refl _)]
    exact zeU (by omega) (by omega))
  have g1 := f1 1 _ (by decide) zlI
  unfold dmE
  rw [k1]
  refine (z5E hn (show n ≤ kmax .i64 from (by show n ≤ 9223372036854775807; omega))).trans ?_
  refine (znY g1 rfl (by omega) (show n - 1 ≤ rest.length by omega)).trans ?_
  obtain ⟨s2, k2, _⟩ := zmK (M := z1M φ) (s := s1) (l := 1) (len := n - 1) (cm := rest.length) (ex := false) (cs' := ci (tz (rest.take (n - 1)))) (n' := (tz (rest.take (n - 1))).length) (e' := true) g1 rfl (zia rest) (by show _ ≤ (ci rest).length; rw [zc9]; omega) (fun e => by
    have hl : (rest.take (n - 1)).length = n - 1 := by rw [List.length_take]; omega
    have := zeU (ws := rest.take (n - 1)) (ex := e) (φ := φ) (by omega) (by omega)
    rw [hl] at this
    show z1M φ [.tree ((ci rest).take (n - 1)) (n - 1) e] = _
    rw [show (ci rest).take (n - 1) = ci (rest.take (n - 1)) by unfold ci; rw [List.map_take]]
    exact this)
  rw [k2]
  exact zlO
theorem znq {t : Rs} : ∀ {l : List Nat}, allK (ci l) t = t
  | [] => rfl
  | a :: l => znq (l := l)
theorem zo9 {xs : List Nat} {ex : Bool} (h0 : 0 < xs.length) (hm : xs.length ≤ 1000000000) : kApp 1 8 (s0.push ⟨[], .rw⟩) (.sl 0 0 0 0 1 true) (.tree (ci xs) xs.length ex) K = K (.sl 1 0 xs.length xs.length 1 false) ((s0.push ⟨[], .rw⟩).push ⟨ci xs, .rw⟩) := by
  show cnd (Nat.beq (ci xs).length (Nat.mul xs.length 1)) (allK (ci xs) (frc (Nat.add 0 xs.length) fun tot => cnd (Nat.ble (Nat.mul tot 8) 1099511627776) (cnd (Nat.ble tot 1099511627776)
      (cnd (Nat.ble tot 0) (layK (Nat.add 0 (Nat.mul 0 1)) (ci xs) [] fun cs => kPut (s0.push ⟨[], .rw⟩) 0 ⟨cs, .rw⟩ fun s => K (.sl 0 0 tot 0 1 true) s)
        (appK [] (ci xs) fun cs => (zat (s0.push ⟨[], .rw⟩) ⟨cs, .rw⟩ fun s' => K (.sl 1 0 tot tot 1 false) s')))
      none) none)) none = _
  rw [zc9, show Nat.mul xs.length 1 = xs.length from Nat.mul_one _, z2R, zx, znq, zC, show Nat.add 0 xs.length = xs.length from Nat.zero_add _, Nat.ble_eq_true_of_le (show Nat.mul xs.length 8 ≤ 1099511627776 by show xs.length * 8 ≤ _; omega), Nat.ble_eq_true_of_le (show xs.length ≤ 1099511627776 by omega), zx, zx, z8y (by omega), zM, z7G, z3B]
  rfl
theorem zmF : kBsl 0 [.i .i64 (.ofNat 0)] [] s0 K = K (.sl 0 0 0 0 1 true) (s0.push ⟨[], .rw⟩) := by
  show (zat s0 ⟨[], .rw⟩ fun s' => K (.sl 0 0 0 0 1 true) s') = _
  rw [z3B]
theorem znG {r q : List Nat} : ((s0.push ⟨[], .rw⟩).push ⟨ci r, .rw⟩).push ⟨ci q, .rw⟩ = st3 r q := by kernel_rfl
theorem zja {xs g : List Nat} {ex eg : Bool} {p iv lead φ : Nat} (hp : 0 < p) (hpL : p < LIM) (hiv : iv < LIM) (hxs : Lo xs) (hg : Lo g) (hg0 : 0 < g.length) (hgx : g.length ≤ xs.length) (hm : xs.length ≤ 100000000) (hφ : xs.length + 1 < φ)
    (hlead : g[g.length - 1]? = some lead) (hinv : z8W φ [ni p, ni lead] = some (ni iv)) :
    z9m φ [ni p, .tree (ci xs) xs.length ex, .tree (ci g) g.length eg] =
      some (.tup [.tree (ci (tz (divS p iv g (xs.length - g.length + 1) xs []).2)) (tz (divS p iv g (xs.length - g.length + 1) xs []).2).length true,
        .tree (ci (tz ((divS p iv g (xs.length - g.length + 1) xs []).1.take (g.length - 1)))) (tz ((divS p iv g (xs.length - g.length + 1) xs []).1.take (g.length - 1))).length true]) := by
  obtain ⟨l1, l2⟩ := zkO (p := p) (iv := iv) (g := g) (j := xs.length - g.length + 1) (rest := xs) (q := []) (by omega)
  have hk : ∀ n, n ≤ 1000000000 → n ≤ kmax .i64 := fun n h => by show n ≤ 9223372036854775807; omega
  unfold z9m
  dsimp only [z6u, zad]
  refine (zmF).trans ?_
  refine (zo9 (by omega) (by omega)).trans ?_
  refine (z1L).trans ?_
  refine (z1L).trans ?_
  refine (z3i).trans ?_
  rw [zB (by omega), z13]
  refine (z1L).trans ?_
  refine (z5E hgx (hk _ (by omega))).trans ?_
  refine (z3T (hk _ (by omega))).trans ?_
  refine (zmt (by omega) (by omega)).trans ?_
  refine (z5E (show 1 ≤ g.length by omega) (hk _ (by omega))).trans ?_
  refine (zeo (show g.length - 1 < g.length by omega) (zgl hlead)).trans ?_
  refine (zoK hinv).trans ?_
  refine (z1L).trans ?_
  refine (z5E hgx (hk _ (by omega))).trans ?_
  rw [zoS, znG]
  have e := zoP (eg := eg) (iv := iv) (m := xs.length) (Q := xs.length - g.length + 1) (φ := φ) hp hpL hiv hg hg0 (by omega) (by omega) (by omega) (xs.length - g.length + 1) φ xs [] rfl hxs (by simp) (by omega)
  rw [List.append_nil] at e
  refine Eq.trans e ?_
  have e2 := zqt (rest := (divS p iv g (xs.length - g.length + 1) xs []).1) (q := (divS p iv g (xs.length - g.length + 1) xs []).2) (n := g.length) (Q := xs.length - g.length + 1) (φ := φ) hg0 (by rw [l1]; exact hgx) (by rw [l2]; rfl) (by rw [l1]; omega) (by omega) (by omega) (by rw [l1]; omega)
  rw [l1] at e2
  exact e2
def zkh (p c : Nat) (g : List Nat) (j : Nat) : List Nat → (List Nat → Rs) → Rs :=
  Nat.rec (motive := fun _ => List Nat → (List Nat → Rs) → Rs) (fun rest k => rowK p c g rest k) (fun _ ih rest k => List.rec (motive := fun _ => Rs) none (fun r rs _ => ih rs fun rs' => k (r :: rs')) rest) j
theorem ziM {p c : Nat} {g : List Nat} : ∀ {j : Nat} {rest : List Nat} {k : List Nat → Rs}, j + g.length ≤ rest.length → zkh p c g j rest k = k (rest.take j ++ rowL p c g (rest.drop j))
  | 0, rest, k, h => by
    show rowK p c g rest k = _
    rw [zjz (by omega)]; rfl
  | j + 1, [], k, h => by simp at h
  | j + 1, r :: rest, k, h => by
    show (zkh p c g j rest fun rs' => k (r :: rs')) = _
    rw [ziM (by simp at h; omega)]; rfl
def nthN (i : Nat) : List Nat → (Nat → Rs) → Rs :=
  Nat.rec (motive := fun _ => List Nat → (Nat → Rs) → Rs) (fun l k => List.rec (motive := fun _ => Rs) none (fun a _ _ => k a) l) (fun _ ih l k => List.rec (motive := fun _ => Rs) none (fun _ r _ => ih r k) l) i
theorem zlZ : ∀ {i : Nat} {l : List Nat} {a : Nat} {k : Nat → Rs}, l[i]? = some a → nthN i l k = k a
  | i, [], a, k, h => by simp at h
  | 0, b :: l, a, k, h => by simp at h; subst h; rfl
  | i + 1, b :: l, a, k, h => zlZ (i := i) (l := l) (by simpa using h)
theorem ziV {r : D} : ∀ {i : Nat} {l : List Nat} {k : Nat → Rs}, nthN i l k = some r → ∃ a, l[i]? = some a ∧ k a = some r
  | 0, [], k, h => by cases h
  | i + 1, [], k, h => by cases h
  | 0, b :: l, k, h => ⟨b, rfl, h⟩
  | i + 1, b :: l, k, h => ziV (i := i) (l := l) h
def zoY (i : Nat) : List Nat → (List Nat → Rs) → Rs :=
  Nat.rec (motive := fun _ => List Nat → (List Nat → Rs) → Rs) (fun l k => k []) (fun _ ih l k => List.rec (motive := fun _ => Rs) (k []) (fun a r _ => ih r fun r' => k (a :: r')) l) i
theorem zkf : ∀ {i : Nat} {l : List Nat} {k : List Nat → Rs}, zoY i l k = k (l.take i)
  | 0, l, k => by rw [List.take_zero]; rfl
  | i + 1, [], k => rfl
  | i + 1, a :: l, k => by
    show (zoY i l fun r' => k (a :: r')) = _
    rw [zkf]; rfl
def divK (p iv n : Nat) (g : List Nat) (j : Nat) : List Nat → List Nat → (List Nat → List Nat → Rs) → Rs :=
  Nat.rec (motive := fun _ => List Nat → List Nat → (List Nat → List Nat → Rs) → Rs) (fun rest q k => k rest q)
    (fun j ih rest q k => nthN (Nat.pred (Nat.add j n)) rest fun h => frc (Nat.mod (Nat.mul h iv) p) fun c => frc (Nat.mul (Nat.pred p) c) fun c' => zkh p c' g j rest fun rest' => ih rest' (c :: q) k) j
theorem zn9 {p iv : Nat} {g : List Nat} (h0 : 0 < g.length) : ∀ {j : Nat} {rest q : List Nat} {k : List Nat → List Nat → Rs}, j + g.length ≤ rest.length + 1 → divK p iv g.length g j rest q k = k (divS p iv g j rest q).1 (divS p iv g j rest q).2
  | 0, rest, q, k, h => rfl
  | j + 1, rest, q, k, h => by
    have hr : rest[j + g.length - 1]? = some (rest.getD (j + g.length - 1) 0) := by rw [List.getD_eq_getElem?_getD, List.getElem?_eq_getElem (by omega)]; rfl
    show (nthN (j + g.length - 1) rest fun h => frc (Nat.mod (Nat.mul h iv) p) fun c => frc (Nat.mul (Nat.pred p) c) fun c' => zkh p c' g j rest fun rest' => divK p iv g.length g j rest' (c :: q) k) = _
    rw [zlZ hr, zC, zC, ziM (by omega), zn9 h0 (by rw [zjx (by omega)]; omega)]; rfl
def z8v (φ : Nat) (as : List D) : Option D :=
  u1 as fun a r => u1 r fun f r => u1 r fun g r => u0 r (on63 a fun p => onTr f fun cs m => onTr g fun ds n => cnd (Nat.blt m n) (z9m φ as) (cnd (Nat.blt 0 n)
    (cnd (Nat.blt 0 p) (cnd (Nat.blt p 2147483648) (cnd (Nat.ble m 100000) (cnd (Nat.blt (Nat.succ m) φ) (zl6 cs fun xs m' => zl6 ds fun ys n' => cnd (Nat.beq m' m) (cnd (Nat.beq n' n)
      (nthN (Nat.pred n) ys fun lead => ob (z8W φ [.i .i64 (.ofNat p), .i .i64 (.ofNat lead)]) fun v => on63 v fun iv => cnd (Nat.blt iv 2147483648)
        (frc (Nat.succ (Nat.sub m n)) fun Q => divK p iv n ys Q xs [] fun rest q => tzK q fun q => zoY (Nat.pred n) rest fun rs => tzK rs fun rs => outK q fun qs qn => outK rs fun rs rn => some (.tup [.tree qs qn true, .tree rs rn true])) none) none) none) none) none) none) none) none))
theorem zi3 {φ : Nat} {as : List D} {r : D} (h : z8v φ as = some r) : ∃ φ', z9m φ' as = some r := by
  obtain ⟨a, r1, rfl, g1⟩ := z1r h
  obtain ⟨f, r2, rfl, g2⟩ := z1r g1
  obtain ⟨g, r3, rfl, g3⟩ := z1r g2
  obtain ⟨rfl, g4⟩ := z4m g3
  obtain ⟨p, rfl, g5⟩ := zfT g4
  obtain ⟨cs, m, ex, rfl, g6⟩ := zea g5
  obtain ⟨ds, n, ey, rfl, g7⟩ := zea g6
  rcases zaj g7 with ⟨_, g8⟩ | ⟨hmn, g8⟩
  · exact ⟨φ, g8⟩
  obtain ⟨h1, g9⟩ := zt g8
  obtain ⟨h2, g10⟩ := zt g9
  obtain ⟨h3, g11⟩ := zt g10
  obtain ⟨h4, g12⟩ := zt g11
  obtain ⟨h5, g13⟩ := zt g12
  obtain ⟨xs, rfl, hxs, g14⟩ := zaf g13
  obtain ⟨ys, rfl, hys, g15⟩ := zaf g14
  obtain ⟨h6, g16⟩ := zt g15
  obtain ⟨h7, g17⟩ := zt g16
  have h6 := Nat.eq_of_beq_eq_true h6
  have h7 := Nat.eq_of_beq_eq_true h7
  subst h6 h7
  obtain ⟨lead, hl, g18⟩ := ziV g17
  obtain ⟨v, hv, g19⟩ := z43 g18
  obtain ⟨iv, rfl, g20⟩ := zfT g19
  obtain ⟨h8, g21⟩ := zt g20
  have hn0 := z3A h1
  have hle : ys.length ≤ xs.length := by
    rcases Nat.lt_or_ge xs.length ys.length with h | h
    · rw [zy h] at hmn; cases hmn
    · exact h
  rw [zC, zn9 hn0 (by show xs.length - ys.length + 1 + ys.length ≤ _; omega), zkc, zkf, zkc, zhD, zhD] at g21
  refine ⟨φ, ?_⟩
  rw [zja (z3A h2) (z3A h3) (z3A h8) hxs hys hn0 hle (by have := Nat.le_of_ble_eq_true h4; omega) (z3A h5) hl hv]
  exact g21
end
end Go.Proofs.Ev
set_option maxRecDepth 1000000
set_option maxHeartbeats 0
namespace Go.Proofs.Ev
noncomputable section
def z3P (φ : Nat) : List D → Option D :=
fun as =>
(fun (s : LS) =>
 u1 as fun b c =>
 u0 c (
 kBsl 1 [(.i .u64 (.ofNat 0))] [(0, 1, b)] s fun d s =>
 isoK zaq [d] s fun e s =>
 retK false s e some)) s0
def zq (φ : Nat) : List D → Option D :=
fun as =>
(fun (s : LS) =>
 u1 as fun c g =>
 u1 g fun e h =>
 u0 h (
 z9 [(.b false), (.n 0)] s fun f s =>
 z0 c true (fun k => k e s) s fun i s =>
 z0 c true (fun k => kNeq i (.n 0) fun d => k d s) s fun l s =>
 zp c l (.b false) s fun m s =>
 zI [(.b false), (.n 0)] [(0, 1, m), (1, 1, e)] s fun o s =>
 z6 2 s f o fun _ s =>
 z3 2 s f fun p _ =>
 retK false s p some)) s0
def za7 (φ : Nat) : List D → Option D :=
fun as =>
(fun (s : LS) =>
 u1 as fun e f =>
 u0 f (
 kBox e s fun c s =>
 z9 [(.b false), (.n 0)] s fun d s =>
 z7 0 s c fun g s =>
 z4 s g fun h s =>
 kNot h s fun i s =>
 z7 1 s c fun k s =>
 z4 s k fun l s =>
 isoK (zq φ) [i, l] s fun m s =>
 z6 2 s d m fun _ s =>
 z3 2 s d fun o _ =>
 retK false s o some)) s0
def z3S (φ : Nat) : List D → Option D :=
fun as =>
(fun (s : LS) =>
 u1 as fun f g =>
 u1 g fun h k =>
 u0 k (
 kBox f s fun c s =>
 kBox h s fun d s =>
 z9 [(.b false), (.n 0)] s fun e s =>
 z7 0 s c fun l s =>
 z4 s l fun m s =>
 z7 0 s d fun o s =>
 z4 s o fun p s =>
 zeT .eql m p s fun u s =>
 z5 u
(z7 0 s c fun v s =>
 z4 s v fun w s =>
 z7 1 s c fun y s =>
 z4 s y fun z s =>
 z7 1 s d fun A s =>
 z4 s A fun B s =>
 isoK z7C [z, B] s fun C s =>
 isoK (zq φ) [w, C] s fun E s =>
 z6 2 s e E fun _ s =>
 z3 2 s e fun F _ =>
 retK false s F some)
(z7 1 s c fun G s =>
 z4 s G fun H s =>
 z7 1 s d fun I s =>
 z4 s I fun J s =>
 isoK z97 [H, J] s fun K s =>
 kLss K (.i .i64 (.ofNat 0)) fun M =>
 z5 M
(z7 0 s d fun N s =>
 z4 s N fun O s =>
 z7 1 s d fun P s =>
 z4 s P fun S s =>
 z7 1 s c fun U s =>
 z4 s U fun V s =>
 isoK z44 [S, V] s fun W s =>
 isoK (zq φ) [O, W] s fun X s =>
 z6 2 s e X fun _ s =>
 z3 2 s e fun Y _ =>
 retK false s Y some)
(z7 0 s c fun Z s =>
 z4 s Z fun bb s =>
 z7 1 s c fun bc s =>
 z4 s bc fun bd s =>
 z7 1 s d fun bf s =>
 z4 s bf fun bg s =>
 isoK z44 [bd, bg] s fun bh s =>
 isoK (zq φ) [bb, bh] s fun bi s =>
 z6 2 s e bi fun _ s =>
 z3 2 s e fun bk _ =>
 retK false s bk some)))) s0
def za8 (φ : Nat) : List D → Option D :=
fun as =>
(fun (s : LS) =>
 u1 as fun f g =>
 u1 g fun h i =>
 u0 i (
 kBox f s fun c s =>
 kBox h s fun d s =>
 z9 [(.b false), (.n 0)] s fun e s =>
 z7 0 s c fun k s =>
 z4 s k fun l s =>
 z7 0 s d fun m s =>
 z4 s m fun o s =>
 zeT .neq l o s fun p s =>
 z7 1 s c fun u s =>
 z4 s u fun v s =>
 z7 1 s d fun w s =>
 z4 s w fun y s =>
 isoK z7B [v, y] s fun z s =>
 isoK (zq φ) [p, z] s fun A s =>
 z6 2 s e A fun _ s =>
 z3 2 s e fun B _ =>
 retK false s B some)) s0
def z4j (φ : Nat) : List D → Option D :=
fun as =>
(fun (s : LS) =>
 u1 as fun w y =>
 u1 y fun z A =>
 u0 A (
 kBox w s fun c s =>
 kBox z s fun e s =>
 z9 [(.b false), (.n 0)] s fun h s =>
 z9 [(.b false), (.n 0)] s fun l s =>
 z7 1 s c fun B s =>
 z4 s B fun C s =>
 z7 1 s e fun E s =>
 z4 s E fun F s =>
 isoK (z4K φ) [C, F] s fun m s =>
 kExt m 0 s fun o s =>
 kExt m 1 s fun f s =>
 jn (fun (G H p u I J : D) (s : LS) =>
 z7 0 s G fun K s =>
 z4 s K fun M s =>
 z7 0 s H fun N s =>
 z4 s N fun O s =>
 zeT .neq M O s fun P s =>
 isoK (zq φ) [P, I] s fun S s =>
 zI [(.b false), (.n 0)] [(1, 1, J)] s fun U s =>
 z6 2 s p S fun _ s =>
 z6 2 s u U fun _ s =>
 z3 2 s p fun V _ =>
 z3 2 s u fun W _ =>
 retK false s (.tup [V, W]) some) fun v =>
 z7 0 s c fun X s =>
 z4 s X fun g s =>
 z0 g true (fun k => k f s) s fun Y s =>
 z0 g true (fun k => kNeq Y (.n 0) fun d => k d s) s fun Z s =>
 zp g Z (.b false) s fun bb s =>
 z5 bb
(isoK (z3P φ) [(.i .u64 (.ofNat 1))] s fun bc s =>
 isoK z7C [o, bc] s fun bd s =>
 z7 1 s e fun bf s =>
 z4 s bf fun bg s =>
 isoK z44 [bg, f] s fun bh s =>
 v c e h l bd bh s)
(v c e h l o f s))) s0
def z3R (φ : Nat) : List D → Option D :=
fun as =>
(fun (s : LS) =>
 u1 as fun d e =>
 u1 e fun f g =>
 u0 g (
 kBox d s fun b s =>
 kBox f s fun c s =>
 z7 0 s b fun h s =>
 z4 s h fun k s =>
 z7 0 s c fun l s =>
 z4 s l fun m s =>
 zeT .neq k m s fun n s =>
 z5 n
(z7 0 s b fun o s =>
 z4 s o fun p s =>
 z5 p
(retK false s (.i .i64 (.negSucc 0)) some)
(retK false s (.i .i64 (.ofNat 1)) some))
(z7 0 s b fun u s =>
 z4 s u fun v s =>
 z5 v
(z7 1 s c fun w s =>
 z4 s w fun y s =>
 z7 1 s b fun z s =>
 z4 s z fun A s =>
 isoK z97 [y, A] s fun B s =>
 retK false s B some)
(z7 1 s b fun C s =>
 z4 s C fun E s =>
 z7 1 s c fun F s =>
 z4 s F fun G s =>
 isoK z97 [E, G] s fun H s =>
 retK false s H some)))) s0
end
end Go.Proofs.Ev
namespace Go.Proofs.Ev
noncomputable section
variable {s : LS} {K : D → LS → Rs}
theorem zhk {M : List D → Option D} {a b z : Nat} (h : M [.n a, .n b] = some (.n z)) : isoK M [.n a, .n b] s K = K (.n z) s := by
  show ob (M [.n a, .n b]) (fun r => finK s [] r K) = _
  rw [h]; rfl
theorem zqh {M : List D → Option D} {a b : Nat} {k : IntKind} {z : Int} (h : M [.n a, .n b] = some (.i k z)) : isoK M [.n a, .n b] s K = K (.i k z) s := by
  show ob (M [.n a, .n b]) (fun r => finK s [] r K) = _
  rw [h]; rfl
theorem zoJ {M : List D → Option D} {a b q r : Nat} (h : M [.n a, .n b] = some (.tup [.n q, .n r])) : isoK M [.n a, .n b] s K = K (.tup [.n q, .n r]) s := by
  show ob (M [.n a, .n b]) (fun r => finK s [] r K) = _
  rw [h]; rfl
theorem zhl {M : List D → Option D} {x y : Bool} {a z : Nat} (h : M [.b x, .n a] = some (.agg [.b y, .n z])) : isoK M [.b x, .n a] s K = K (.agg [.b y, .n z]) s := by
  show ob (M [.b x, .n a]) (fun r => finK s [] r K) = _
  rw [h]; rfl
theorem zqi {M : List D → Option D} {k : IntKind} {x : Int} {z : Nat} (h : M [.i k x] = some (.n z)) : isoK M [.i k x] s K = K (.n z) s := by
  show ob (M [.i k x]) (fun r => finK s [] r K) = _
  rw [h]; rfl
def it (x : Bool) (a : Nat) : D := .agg [.b x, .n a]
theorem z7E {b : Bool} {a φ : Nat} : zq φ [.b b, .n a] = some (it (b && !(Nat.beq a 0)) a) := by
  cases b
  · rfl
  · cases a <;> rfl
def mkS (a b : List D) : LS := ⟨.node (some ⟨a, .rw⟩) (.node (some ⟨b, .rw⟩) .nil .nil) (.node (some ⟨[.b false, .n 0], .rw⟩) .nil .nil), 3⟩
theorem fin3 {x : Bool} {z : Nat} {a b : List D} : (z6 2 (mkS a b) (.ptr 2 0) (it x z) fun _ s => z3 2 s (.ptr 2 0) fun x17 _ => retK false s x17 some) = some (it x z) := by kernel_rfl
theorem zlj {x : Bool} {a φ : Nat} : za7 φ [it x a] = some (it (!x && !(Nat.beq a 0)) a) := by
  refine Eq.trans (b := isoK (zq φ) [.b (!x), .n a] ⟨.node (some ⟨[.b x, .n a], .rw⟩) (.node (some ⟨[.b false, .n 0], .rw⟩) .nil .nil) .nil, 2⟩ fun x9 s => z6 2 s (.ptr 1 0) x9 fun _ s => z3 2 s (.ptr 1 0) fun x10 _ => retK false s x10 some) (by cases x <;> kernel_rfl) ?_
  rw [zhl z7E]; kernel_rfl
theorem zlk {x y : Bool} {a b z φ : Nat} (h : z7B [.n a, .n b] = some (.n z)) : za8 φ [it x a, it y b] = some (it ((x != y) && !(Nat.beq z 0)) z) := by
  refine Eq.trans (b := isoK z7B [.n a, .n b] (mkS [.b x, .n a] [.b y, .n b]) fun x15 s' => isoK (zq φ) [.b (x != y), x15] s' fun x16 s => z6 2 s (.ptr 2 0) x16 fun _ s => z3 2 s (.ptr 2 0) fun x17 _ => retK false s x17 some) (by cases x <;> cases y <;> kernel_rfl) ?_
  rw [zhk h, zhl z7E]
  exact fin3
theorem zjQ {x : Bool} {a b z φ : Nat} (h : z7C [.n a, .n b] = some (.n z)) : z3S φ [it x a, it x b] = some (it (x && !(Nat.beq z 0)) z) := by
  refine Eq.trans (b := isoK z7C [.n a, .n b] (mkS [.b x, .n a] [.b x, .n b]) fun x15 s' => isoK (zq φ) [.b x, x15] s' fun x16 s => z6 2 s (.ptr 2 0) x16 fun _ s => z3 2 s (.ptr 2 0) fun x17 _ => retK false s x17 some) (by cases x <;> kernel_rfl) ?_
  rw [zhk h, zhl z7E]
  exact fin3
theorem zhm {x y : Bool} {a b φ : Nat} {c : Int} (hxy : x ≠ y) (h : z97 [.n a, .n b] = some (.i .i64 c)) : z3S φ [it x a, it y b] =
    (kLss (.i .i64 c) (.i .i64 (.ofNat 0)) fun x25 => z5 x25
      (isoK z44 [.n b, .n a] (mkS [.b x, .n a] [.b y, .n b]) fun x15 s' => isoK (zq φ) [.b y, x15] s' fun x16 s => z6 2 s (.ptr 2 0) x16 fun _ s => z3 2 s (.ptr 2 0) fun x17 _ => retK false s x17 some)
      (isoK z44 [.n a, .n b] (mkS [.b x, .n a] [.b y, .n b]) fun x15 s' => isoK (zq φ) [.b x, x15] s' fun x16 s => z6 2 s (.ptr 2 0) x16 fun _ s => z3 2 s (.ptr 2 0) fun x17 _ => retK false s x17 some)) := by
  refine Eq.trans (b := isoK z97 [.n a, .n b] (mkS [.b x, .n a] [.b y, .n b]) fun x24 s => kLss x24 (.i .i64 (.ofNat 0)) fun x25 => z5 x25
      (z7 0 s (.ptr 1 0) fun x26 s => z4 s x26 fun x27 s => z7 1 s (.ptr 1 0) fun x28 s => z4 s x28 fun x29 s => z7 1 s (.ptr 0 0) fun x30 s => z4 s x30 fun x31 s =>
        isoK z44 [x29, x31] s fun x32 s => isoK (zq φ) [x27, x32] s fun x33 s => z6 2 s (.ptr 2 0) x33 fun _ s => z3 2 s (.ptr 2 0) fun x34 _ => retK false s x34 some)
      (z7 0 s (.ptr 0 0) fun x35 s => z4 s x35 fun x36 s => z7 1 s (.ptr 0 0) fun x37 s => z4 s x37 fun x38 s => z7 1 s (.ptr 1 0) fun x39 s => z4 s x39 fun x40 s =>
        isoK z44 [x38, x40] s fun x41 s => isoK (zq φ) [x36, x41] s fun x42 s => z6 2 s (.ptr 2 0) x42 fun _ s => z3 2 s (.ptr 2 0) fun x43 _ => retK false s x43 some)) (by cases x <;> cases y <;> first | exact absurd rfl hxy | kernel_rfl) ?_
  rw [zqh h]; kernel_rfl
theorem zm3 {a b : Nat} (h : a < b) : z97 [.n a, .n b] = some (.i .i64 (.negSucc 0)) := by
  show some (cnd (Nat.blt a b) (D.i .i64 (.negSucc 0)) (cnd (Nat.beq a b) (D.i .i64 (.ofNat 0)) (D.i .i64 (.ofNat 1)))) = _
  rw [zy h]; rfl
theorem zm4 {a b : Nat} (h : b ≤ a) : ∃ c, z97 [.n a, .n b] = some (.i .i64 (.ofNat c)) := by
  have e : z97 [.n a, .n b] = some (cnd (Nat.blt a b) (D.i .i64 (.negSucc 0)) (cnd (Nat.beq a b) (D.i .i64 (.ofNat 0)) (D.i .i64 (.ofNat 1)))) := rfl
  rw [e, zB (by omega), zM]
  by_cases h2 : a = b
  · rw [h2, z2R]; exact ⟨0, rfl⟩
  · rw [z4Z h2]; exact ⟨1, rfl⟩
theorem zmL {x y : Bool} {a b z φ : Nat} (hxy : x ≠ y) (hab : a < b) (h : z44 [.n b, .n a] = some (.n z)) : z3S φ [it x a, it y b] = some (it (y && !(Nat.beq z 0)) z) := by
  rw [zhm hxy (zm3 hab), zhS, z1s, zhk h, zhl z7E]
  exact fin3
theorem zmM {x y : Bool} {a b z φ : Nat} (hxy : x ≠ y) (hab : b ≤ a) (h : z44 [.n a, .n b] = some (.n z)) : z3S φ [it x a, it y b] = some (it (x && !(Nat.beq z 0)) z) := by
  obtain ⟨c, hc⟩ := zm4 hab
  rw [zhm hxy hc, z3i, zB (Nat.not_lt_zero c), z13, zhk h, zhl z7E]
  exact fin3
def onBv (d : D) (k : Bool → Rs) : Rs := onB d (k true) (k false) none
theorem zlX {d : D} {k : Bool → Rs} {r : D} (h : onBv d k = some r) : ∃ x, d = .b x ∧ k x = some r := by
  cases d with
  | b x => cases x <;> exact ⟨_, rfl, h⟩
  | _ => cases h
def onIt (d : D) (k : Bool → Nat → Rs) : Rs := znN d (fun cs => u1 cs fun b r => u1 r fun n r => u0 r (onBv b fun x => z8F n fun a => k x a)) none
theorem z5W {d : D} {k : Bool → Nat → Rs} {r : D} (h : onIt d k = some r) : ∃ x a, d = it x a ∧ k x a = some r := by
  obtain ⟨cs, rfl, h1⟩ := zeM h
  obtain ⟨b, r1, rfl, h2⟩ := z1r h1
  obtain ⟨n, r2, rfl, h3⟩ := z1r h2
  obtain ⟨rfl, h4⟩ := z4m h3
  obtain ⟨x, rfl, h5⟩ := zlX h4
  obtain ⟨a, rfl, h6⟩ := z1b h5
  exact ⟨x, a, rfl, h6⟩
def kIt (x : Bool) (z : Nat) (k : D → Rs) : Rs := cnd x (cnd (Nat.beq z 0) (k (.agg [.b false, .n z])) (k (.agg [.b true, .n z]))) (k (.agg [.b false, .n z]))
theorem zdE {x : Bool} {z : Nat} {k : D → Rs} : kIt x z k = k (it (x && !(Nat.beq z 0)) z) := by
  unfold kIt it
  cases x
  · rfl
  · cases Nat.beq z 0 <;> rfl
def zav (as : List D) : Option D := u1 as fun a r => u0 r (onIt a fun x a => kIt (cnd x false true) a some)
theorem zjO {as : List D} {r : D} (h : zav as = some r) : ∃ φ, za7 φ as = some r := by
  obtain ⟨a, r1, rfl, g1⟩ := z1r h
  obtain ⟨rfl, g2⟩ := z4m g1
  obtain ⟨x, a, rfl, g3⟩ := z5W g2
  rw [zdE] at g3
  refine ⟨0, ?_⟩
  rw [zlj, ← g3]
  cases x <;> rfl
def z4p (as : List D) : Option D := u1 as fun a r => u1 r fun b r => u0 r (onIt a fun x a => onIt b fun y b => ob (z7B [.n a, .n b]) fun z => z8F z fun z => kIt (cnd x (cnd y false true) y) z some)
theorem zjP {as : List D} {r : D} (h : z4p as = some r) : ∃ φ, za8 φ as = some r := by
  obtain ⟨a, r1, rfl, g1⟩ := z1r h
  obtain ⟨b, r2, rfl, g2⟩ := z1r g1
  obtain ⟨rfl, g3⟩ := z4m g2
  obtain ⟨x, a, rfl, g4⟩ := z5W g3
  obtain ⟨y, b, rfl, g5⟩ := z5W g4
  obtain ⟨z, hz, g6⟩ := z43 g5
  obtain ⟨z, rfl, g7⟩ := z1b g6
  rw [zdE] at g7
  refine ⟨0, ?_⟩
  rw [zlk hz, ← g7]
  cases x <;> cases y <;> rfl
def addK (x : Bool) (a : Nat) (y : Bool) (b : Nat) (k : D → Rs) : Rs :=
  cnd (cnd x y (cnd y false true)) (ob (z7C [.n a, .n b]) fun z => z8F z fun z => kIt x z k)
    (cnd (Nat.blt a b) (ob (z44 [.n b, .n a]) fun z => z8F z fun z => kIt y z k) (ob (z44 [.n a, .n b]) fun z => z8F z fun z => kIt x z k))
theorem zjr {x y : Bool} {a b : Nat} {k : D → Rs} {r : D} (h : addK x a y b k = some r) : ∃ v z, (∀ φ, z3S φ [it x a, it y b] = some (it v z)) ∧ k (it v z) = some r := by
  unfold addK at h
  by_cases hxy : x = y
  · subst hxy
    have e : cnd x x (cnd x false true) = true := by cases x <;> rfl
    rw [e, zx] at h
    obtain ⟨z, hz, g6⟩ := z43 h
    obtain ⟨z, rfl, g7⟩ := z1b g6
    rw [zdE] at g7
    exact ⟨_, z, fun φ => zjQ hz, g7⟩
  · have e : cnd x y (cnd y false true) = false := by cases x <;> cases y <;> first | rfl | exact absurd rfl hxy
    rw [e, zM] at h
    rcases zaj h with ⟨h1, g⟩ | ⟨h1, g⟩
    · obtain ⟨z, hz, g6⟩ := z43 g
      obtain ⟨z, rfl, g7⟩ := z1b g6
      rw [zdE] at g7
      exact ⟨_, z, fun φ => zmL hxy (z3A h1) hz, g7⟩
    · obtain ⟨z, hz, g6⟩ := z43 g
      obtain ⟨z, rfl, g7⟩ := z1b g6
      rw [zdE] at g7
      have hle : b ≤ a := by
        rcases Nat.lt_or_ge a b with hq | hq
        · rw [zy hq] at h1; cases h1
        · exact hq
      exact ⟨_, z, fun φ => zmM hxy hle hz, g7⟩
def z7F (as : List D) : Option D := u1 as fun a r => u1 r fun b r => u0 r (onIt a fun x a => onIt b fun y b => addK x a y b some)
theorem zjR {as : List D} {r : D} (h : z7F as = some r) : ∃ φ, z3S φ as = some r := by
  obtain ⟨a, r1, rfl, g1⟩ := z1r h
  obtain ⟨b, r2, rfl, g2⟩ := z1r g1
  obtain ⟨rfl, g3⟩ := z4m g2
  obtain ⟨x, a, rfl, g4⟩ := z5W g3
  obtain ⟨y, b, rfl, g5⟩ := z5W g4
  obtain ⟨v, z, h1, h2⟩ := zjr g5
  exact ⟨0, by rw [h1]; exact h2⟩
end
end Go.Proofs.Ev
set_option maxRecDepth 1000000
set_option maxHeartbeats 0
namespace Go.Proofs.Ev
noncomputable section
def z3M (φ : Nat) : List D → Option D :=
fun as =>
(fun (s : LS) =>
 u1 as fun d e =>
 u0 e (
 kBox d s fun f s =>
 z9 [(.b false), (.n 0), (.n 0)] s fun c s =>
 z3 2 s f fun g s =>
 zI [(.b false), (.n 0), (.n 0)] [(0, 2, g), (2, 1, (.n 1))] s fun h s =>
 z6 3 s c h fun _ s =>
 z3 3 s c fun i _ =>
 retK false s i some)) s0
def z8C (φ : Nat) : List D → Option D :=
fun as =>
(fun (s : LS) =>
 u1 as fun o p =>
 u1 p fun u v =>
 u0 v (
 kBox o s fun c s =>
 kBox u s fun d s =>
 z9 [(.b false), (.n 0), (.n 0)] s fun f s =>
 z7 1 s c fun w s =>
 z4 s w fun y s =>
 z7 1 s d fun z s =>
 z4 s z fun A s =>
 isoK (zeN φ) [y, A] s fun e s =>
 jn (fun (g h i : D) (s : LS) =>
 z7 0 s g fun B s =>
 z4 s B fun C s =>
 z7 0 s h fun E s =>
 z4 s E fun F s =>
 zeT .neq C F s fun G s =>
 z7 1 s g fun H s =>
 z4 s H fun I s =>
 isoK (zq φ) [G, I] s fun J s =>
 z7 1 s h fun K s =>
 z4 s K fun M s =>
 zI [(.b false), (.n 0), (.n 0)] [(0, 2, J), (2, 1, M)] s fun N s =>
 z6 3 s i N fun _ s =>
 z3 3 s i fun O _ =>
 retK false s O some) fun k =>
 kNeq e (.n 1) fun P =>
 z5 P
(z7 1 s c fun S s =>
 z4 s S fun U s =>
 isoK (z4K φ) [U, e] s fun l s =>
 kExt l 0 s fun V s =>
 kExt l 1 s fun bc s =>
 z7 1 s c fun W s =>
 z6 1 s W V fun _ s =>
 z7 1 s d fun X s =>
 z4 s X fun Y s =>
 isoK (z4K φ) [Y, e] s fun m s =>
 kExt m 0 s fun Z s =>
 kExt m 1 s fun bd s =>
 z7 1 s d fun bb s =>
 z6 1 s bb Z fun _ s =>
 k c d f s)
(k c d f s))) s0
def z7V (φ : Nat) : List D → Option D :=
fun as =>
(fun (s : LS) =>
 u1 as fun g h =>
 u1 h fun i k =>
 u0 k (
 kBox g s fun c s =>
 kBox i s fun d s =>
 z9 [(.b false), (.n 0), (.n 0)] s fun e s =>
 z7 2 s c fun l s =>
 z4 s l fun m s =>
 z7 2 s d fun o s =>
 z4 s o fun p s =>
 kEql m p fun u =>
 z5 u
(z7 2 s c fun v s =>
 z4 s v fun w s =>
 kEql w (.n 1) fun y =>
 z5 y
(z7 0 s c fun z s =>
 z3 2 s z fun A s =>
 z7 0 s d fun B s =>
 z3 2 s B fun C s =>
 isoK z7F [A, C] s fun E s =>
 isoK (z3M φ) [E] s fun F s =>
 z6 3 s e F fun _ s =>
 z3 3 s e fun G _ =>
 retK false s G some)
(z7 0 s c fun H s =>
 z3 2 s H fun I s =>
 z7 0 s d fun J s =>
 z3 2 s J fun K s =>
 isoK z7F [I, K] s fun M s =>
 z7 2 s c fun N s =>
 z4 s N fun O s =>
 zI [(.b false), (.n 0)] [(1, 1, O)] s fun P s =>
 isoK (z8C φ) [M, P] s fun S s =>
 z6 3 s e S fun _ s =>
 z3 3 s e fun U _ =>
 retK false s U some))
(z7 0 s c fun V s =>
 z7 0 s V fun W s =>
 z4 s W fun X s =>
 z7 0 s c fun Y s =>
 z7 1 s Y fun Z s =>
 z4 s Z fun bb s =>
 z7 2 s d fun bc s =>
 z4 s bc fun bd s =>
 isoK z7B [bb, bd] s fun bf s =>
 isoK (zq φ) [X, bf] s fun bg s =>
 z7 0 s d fun bh s =>
 z7 0 s bh fun bi s =>
 z4 s bi fun bk s =>
 z7 0 s d fun bl s =>
 z7 1 s bl fun bm s =>
 z4 s bm fun bn s =>
 z7 2 s c fun bo s =>
 z4 s bo fun bp s =>
 isoK z7B [bn, bp] s fun bu s =>
 isoK (zq φ) [bk, bu] s fun bv s =>
 isoK z7F [bg, bv] s fun bw s =>
 z9 [(.b false), (.n 0)] s fun f s =>
 z6 2 s f bw fun _ s =>
 z3 2 s f fun bz s =>
 z7 2 s c fun bA s =>
 z4 s bA fun bB s =>
 z7 2 s d fun bC s =>
 z4 s bC fun bE s =>
 isoK z7B [bB, bE] s fun bF s =>
 zI [(.b false), (.n 0)] [(1, 1, bF)] s fun bG s =>
 isoK (z8C φ) [bz, bG] s fun bH s =>
 z6 3 s e bH fun _ s =>
 z3 3 s e fun bI _ =>
 retK false s bI some))) s0
def z1G (φ : Nat) : List D → Option D :=
fun as =>
(fun (s : LS) =>
 u1 as fun h i =>
 u1 i fun l m =>
 u0 m (
 kBox h s fun c s =>
 kBox l s fun e s =>
 z9 [(.b false), (.n 0), (.n 0)] s fun f s =>
 z7 2 s c fun o s =>
 z4 s o fun p s =>
 kEql p (.n 1) fun g =>
 z0 g true (fun k => z7 2 s e k) s fun u s =>
 z0 g true (fun k => z4 s u k) s fun v s =>
 z0 g true (fun k => kEql v (.n 1) fun d => k d s) s fun w s =>
 zp g w (.b false) s fun y s =>
 z5 y
(z7 0 s c fun z s =>
 z3 2 s z fun A s =>
 z7 0 s e fun B s =>
 z3 2 s B fun C s =>
 isoK z4p [A, C] s fun E s =>
 isoK (z3M φ) [E] s fun F s =>
 z6 3 s f F fun _ s =>
 z3 3 s f fun G _ =>
 retK false s G some)
(z7 0 s c fun H s =>
 z3 2 s H fun I s =>
 z7 0 s e fun J s =>
 z3 2 s J fun K s =>
 isoK z4p [I, K] s fun M s =>
 z7 2 s c fun N s =>
 z4 s N fun O s =>
 z7 2 s e fun P s =>
 z4 s P fun S s =>
 isoK z7B [O, S] s fun U s =>
 zI [(.b false), (.n 0)] [(1, 1, U)] s fun V s =>
 isoK (z8C φ) [M, V] s fun W s =>
 z6 3 s f W fun _ s =>
 z3 3 s f fun X _ =>
 retK false s X some))) s0
def za5 (φ : Nat) : List D → Option D :=
fun as =>
(fun (s : LS) =>
 u1 as fun d e =>
 u1 e fun f g =>
 u0 g (
 kBox d s fun h s =>
 kBox f s fun i s =>
 z9 [(.b false), (.n 0)] s fun c s =>
 z3 2 s h fun k s =>
 z3 2 s i fun l s =>
 isoK zav [l] s fun m s =>
 isoK z7F [k, m] s fun o s =>
 z6 2 s c o fun _ s =>
 z3 2 s c fun p _ =>
 retK false s p some)) s0
end
end Go.Proofs.Ev
namespace Go.Proofs.Ev
noncomputable section
variable {s : LS} {K : D → LS → Rs}
def mk4 (a b : List D) : LS := ⟨.node (some ⟨a, .rw⟩) (.node (some ⟨b, .rw⟩) (.node (some ⟨[.b false, .n 0], .rw⟩) .nil .nil) .nil) (.node (some ⟨[.b false, .n 0], .rw⟩) .nil .nil), 4⟩
def dvJ (φ : Nat) (x15 x16 x17 x18 x19 x20 : D) (s : LS) : Rs := (
 z7 0 s x15 fun x21 s =>
 z4 s x21 fun x22 s =>
 z7 0 s x16 fun x23 s =>
 z4 s x23 fun x24 s =>
 zeT .neq x22 x24 s fun x25 s =>
 isoK (zq φ) [x25, x19] s fun x26 s =>
 zI [(.b false), (.n 0)] [(1, 1, x20)] s fun x27 s =>
 z6 2 s x17 x26 fun _ s =>
 z6 2 s x18 x27 fun _ s =>
 z3 2 s x17 fun x28 _ =>
 z3 2 s x18 fun x29 _ =>
 retK false s (.tup [x28, x29]) some)
theorem zn7 {x y : Bool} {a b q r φ : Nat} : dvJ φ (.ptr 0 0) (.ptr 1 0) (.ptr 2 0) (.ptr 3 0) (.n q) (.n r) (mk4 [.b x, .n a] [.b y, .n b]) = some (.tup [it ((x != y) && !(Nat.beq q 0)) q, it false r]) := by
  refine Eq.trans (b := isoK (zq φ) [.b (x != y), .n q] (mk4 [.b x, .n a] [.b y, .n b]) fun x26 s => zI [(.b false), (.n 0)] [(1, 1, .n r)] s fun x27 s => z6 2 s (.ptr 2 0) x26 fun _ s => z6 2 s (.ptr 3 0) x27 fun _ s => z3 2 s (.ptr 2 0) fun x28 _ => z3 2 s (.ptr 3 0) fun x29 _ => retK false s (.tup [x28, x29]) some) (by cases x <;> cases y <;> kernel_rfl) ?_
  rw [zhl z7E]; kernel_rfl
theorem zm2 {φ : Nat} : z3P φ [.i .u64 (.ofNat 1)] = some (.n 1) := by kernel_rfl
theorem zjg {x y : Bool} {a b φ : Nat} : z4j φ [it x a, it y b] = isoK (z4K φ) [.n a, .n b] (mk4 [.b x, .n a] [.b y, .n b]) fun x11 s =>
    kExt x11 0 s fun x12 s => kExt x11 1 s fun x13 s => z7 0 s (.ptr 0 0) fun x30 s => z4 s x30 fun x31 s => z0 x31 true (fun k => k x13 s) s fun x32 s => z0 x31 true (fun k => kNeq x32 (.n 0) fun d => k d s) s fun x33 s => zp x31 x33 (.b false) s fun x34 s =>
    z5 x34 (isoK (z3P φ) [(.i .u64 (.ofNat 1))] s fun x35 s => isoK z7C [x12, x35] s fun x36 s => z7 1 s (.ptr 1 0) fun x37 s => z4 s x37 fun x38 s => isoK z44 [x38, x13] s fun x39 s => dvJ φ (.ptr 0 0) (.ptr 1 0) (.ptr 2 0) (.ptr 3 0) x36 x39 s)
      (dvJ φ (.ptr 0 0) (.ptr 1 0) (.ptr 2 0) (.ptr 3 0) x12 x13 s) := by kernel_rfl
theorem zc8 {x y : Bool} {a b q r φ : Nat} (h : z4K φ [.n a, .n b] = some (.tup [.n q, .n r])) (hx : x = false ∨ r = 0) : z4j φ [it x a, it y b] = some (.tup [it ((x != y) && !(Nat.beq q 0)) q, it false r]) := by
  rw [zjg, zoJ h, ← zn7 (x := x) (y := y) (a := a) (b := b) (φ := φ)]
  rcases hx with rfl | rfl
  · kernel_rfl
  · cases x <;> kernel_rfl
theorem zhX {y : Bool} {a b q r z z2 φ : Nat} (h : z4K φ [.n a, .n b] = some (.tup [.n q, .n (r + 1)])) (h1 : z7C [.n q, .n 1] = some (.n z)) (h2 : z44 [.n b, .n (r + 1)] = some (.n z2)) :
    z4j φ [it true a, it y b] = some (.tup [it ((true != y) && !(Nat.beq z 0)) z, it false z2]) := by
  rw [zjg, zoJ h, ← zn7 (x := true) (y := y) (a := a) (b := b) (φ := φ)]
  refine Eq.trans (b := isoK (z3P φ) [(.i .u64 (.ofNat 1))] (mk4 [.b true, .n a] [.b y, .n b]) fun x35 s => isoK z7C [.n q, x35] s fun x36 s => z7 1 s (.ptr 1 0) fun x37 s => z4 s x37 fun x38 s => isoK z44 [x38, .n (r + 1)] s fun x39 s => dvJ φ (.ptr 0 0) (.ptr 1 0) (.ptr 2 0) (.ptr 3 0) x36 x39 s) (by kernel_rfl) ?_
  rw [zqi zm2, zhk h1]
  refine Eq.trans (b := isoK z44 [.n b, .n (r + 1)] (mk4 [.b true, .n a] [.b y, .n b]) fun x39 s => dvJ φ (.ptr 0 0) (.ptr 1 0) (.ptr 2 0) (.ptr 3 0) (.n z) x39 s) (by kernel_rfl) ?_
  rw [zhk h2]
def z2Q (φ : Nat) (as : List D) : Option D :=
  u1 as fun a r => u1 r fun b r => u0 r (onIt a fun x a => onIt b fun y b => ob (z4K φ [.n a, .n b]) fun qr => zp9 qr (fun l => u1 l fun q l => u1 l fun r l => u0 l (z8F q fun q => z8F r fun r =>
    cnd x (Nat.rec (motive := fun _ => Rs) (kIt (cnd y false true) q fun d => some (.tup [d, .agg [.b false, .n 0]]))
        (fun r' _ => ob (z7C [.n q, .n 1]) fun z => z8F z fun z => ob (z44 [.n b, .n (Nat.succ r')]) fun z2 => z8F z2 fun z2 => kIt (cnd y false true) z fun d => some (.tup [d, .agg [.b false, .n z2]])) r)
      (kIt y q fun d => some (.tup [d, .agg [.b false, .n r]])))) none)
theorem zgI {φ : Nat} {as : List D} {r : D} (h : z2Q φ as = some r) : ∃ φ', z4j φ' as = some r := by
  obtain ⟨a, r1, rfl, g1⟩ := z1r h
  obtain ⟨b, r2, rfl, g2⟩ := z1r g1
  obtain ⟨rfl, g3⟩ := z4m g2
  obtain ⟨x, a, rfl, g4⟩ := z5W g3
  obtain ⟨y, b, rfl, g5⟩ := z5W g4
  obtain ⟨qr, hqr, g6⟩ := z43 g5
  obtain ⟨l, rfl, g7⟩ := zhg g6
  obtain ⟨q, l1, rfl, g8⟩ := z1r g7
  obtain ⟨rr, l2, rfl, g9⟩ := z1r g8
  obtain ⟨rfl, g10⟩ := z4m g9
  obtain ⟨q, rfl, g11⟩ := z1b g10
  obtain ⟨t, rfl, g12⟩ := z1b g11
  refine ⟨φ, ?_⟩
  cases x with
  | false =>
    rw [zM, zdE] at g12
    rw [zc8 hqr (.inl rfl), ← g12]
    cases y <;> rfl
  | true =>
    rw [zx] at g12
    cases t with
    | zero =>
      have g12 : (kIt (cnd y false true) q fun d => some (.tup [d, .agg [.b false, .n 0]])) = some r := g12
      rw [zdE] at g12
      rw [zc8 hqr (.inr rfl), ← g12]
      cases y <;> rfl
    | succ t =>
      have g12 : (ob (z7C [.n q, .n 1]) fun z => z8F z fun z => ob (z44 [.n b, .n (Nat.succ t)]) fun z2 => z8F z2 fun z2 => kIt (cnd y false true) z fun d => some (.tup [d, .agg [.b false, .n z2]])) = some r := g12
      obtain ⟨z, hz, g13⟩ := z43 g12
      obtain ⟨z, rfl, g14⟩ := z1b g13
      obtain ⟨z2, hz2, g15⟩ := z43 g14
      obtain ⟨z2, rfl, g16⟩ := z1b g15
      rw [zdE] at g16
      rw [zhX hqr hz hz2, ← g16]
      cases y <;> rfl
theorem zqg {M : List D → Option D} {x y : Bool} {a z : Nat} (h : M [it x a] = some (it y z)) : isoK M [it x a] s K = K (it y z) s := by
  show ob (M [it x a]) (fun r => finK s [] r K) = _
  rw [h]; rfl
theorem zqf {M : List D → Option D} {x y v : Bool} {a b z : Nat} (h : M [it x a, it y b] = some (it v z)) : isoK M [it x a, it y b] s K = K (it v z) s := by
  show ob (M [it x a, it y b]) (fun r => finK s [] r K) = _
  rw [h]; rfl
theorem zjC {x : Bool} {a : Nat} {k : Bool → Nat → Rs} : onIt (it x a) k = k x a := by cases x <;> rfl
theorem zli {x y v w : Bool} {a b z t φ : Nat} (h1 : zav [it y b] = some (it w t)) (h2 : z7F [it x a, it w t] = some (it v z)) : za5 φ [it x a, it y b] = some (it v z) := by
  refine Eq.trans (b := isoK zav [it y b] (mkS [.b x, .n a] [.b y, .n b]) fun x8 s => isoK z7F [it x a, x8] s fun x9 s => z6 2 s (.ptr 2 0) x9 fun _ s => z3 2 s (.ptr 2 0) fun x10 _ => retK false s x10 some) (by kernel_rfl) ?_
  rw [zqg h1, zqf h2]
  exact fin3
def zdK (as : List D) : Option D := u1 as fun a r => u1 r fun b r => u0 r (onIt a fun x a => onIt b fun y b => kIt (cnd y false true) b fun d => onIt d fun w b => addK x a w b some)
theorem zjN {as : List D} {r : D} (h : zdK as = some r) : ∃ φ, za5 φ as = some r := by
  obtain ⟨a, r1, rfl, g1⟩ := z1r h
  obtain ⟨b, r2, rfl, g2⟩ := z1r g1
  obtain ⟨rfl, g3⟩ := z4m g2
  obtain ⟨x, a, rfl, g4⟩ := z5W g3
  obtain ⟨y, b, rfl, g5⟩ := z5W g4
  rw [zdE] at g5
  obtain ⟨w, t, hw, g6⟩ := z5W g5
  have e := g6
  obtain ⟨v, z, h1, h2⟩ := zjr g6
  refine ⟨0, ?_⟩
  have e1 : zav [it y b] = some (it w t) := by
    show onIt (it y b) (fun x a => kIt (cnd x false true) a some) = _
    rw [zjC, zdE, ← hw]
  have hr : r = it v z := (Option.some.inj h2).symm
  subst hr
  refine zli e1 ?_
  show onIt (it x a) (fun x a => onIt (it w t) fun y b => addK x a y b some) = _
  rw [zjC, zjC]
  exact e
end
end Go.Proofs.Ev
namespace Go.Proofs.Ev
noncomputable section
variable {s : LS} {K : D → LS → Rs} {k : D → Rs}
theorem zkx {a : Int} {b : Nat} : kLss (.i .i64 a) (.i .i64 (.ofNat b)) k = k (.b (decide (a < (b : Int)))) := by
  cases a with
  | ofNat a =>
    rw [z3i]
    by_cases h : a < b
    · rw [zy h, decide_eq_true (by simp only [Int.ofNat_eq_natCast]; omega)]
    · rw [zB h, decide_eq_false (by simp only [Int.ofNat_eq_natCast]; omega)]
  | negSucc a =>
    show z12 .lss (.i .i64 (.negSucc a)) (.i .i64 (.ofNat b)) k = _
    unfold z12
    rw [z45]; rfl
theorem zky {a : Int} {b : Nat} : kGtr (.i .i64 a) (.i .i64 (.ofNat b)) k = k (.b (decide (a > (b : Int)))) := by
  cases a with
  | ofNat a =>
    rw [zbk]
    by_cases h : b < a
    · rw [zy h, decide_eq_true (by simp only [Int.ofNat_eq_natCast]; omega)]
    · rw [zB h, decide_eq_false (by simp only [Int.ofNat_eq_natCast]; omega)]
  | negSucc a =>
    show z12 .gtr (.i .i64 (.negSucc a)) (.i .i64 (.ofNat b)) k = _
    unfold z12
    rw [z45]; rfl
theorem zeq {op : (D → LS → Rs) → Rs} {k : D → LS → Rs} : z0 (.b true) false op s k = k (.tup []) s := rfl
theorem zqP {M : List D → Option D} {x : Bool} (h : M [] = some (.b x)) : isoK M [] s K = K (.b x) s := by
  show ob (M []) (fun r => finK s [] r K) = _
  rw [h]; rfl
theorem znH {x : Bool} : retK false s (.b x) some = some (.b x) := rfl
def isT (o : Option D) : Bool := Option.rec (motive := fun _ => Bool) false (fun d => onB d true false false) o
theorem z2g {o : Option D} (h : isT o = true) : o = some (.b true) := by
  cases o with
  | none => cases h
  | some d =>
    cases d with
    | b x => cases x with
      | true => rfl
      | false => cases h
    | _ => cases h
def allB (n : Nat) (f : Nat → Bool) : Bool := Nat.rec (motive := fun _ => Bool) true (fun j ih => cnd (f j) ih false) n
theorem z22 : ∀ {n : Nat} {f : Nat → Bool} {i : Nat}, allB n f = true → i < n → f i = true
  | 0, f, i, h, hi => by omega
  | n + 1, f, i, h, hi => by
    have h : cnd (f n) (allB n f) false = true := h
    cases hq : f n with
    | false => rw [hq] at h; cases h
    | true =>
      rw [hq, zx] at h
      by_cases e : i = n
      · rw [e]; exact hq
      · exact z22 h (by omega)
variable {P : Program} {im : Nat → Option Nat} {okp : Nat → Nat → Prop} {w w' : World}
theorem RR.keptBut {r : D} {v : Value} (h : RR im okp w w' r v) (may : MemPlace → Prop) : w.keptBut w' may := by
  obtain ⟨hs, hk, hsm, ob, ho⟩ := h
  refine ⟨hsm.os, hsm.out, fun i hi => ?_⟩
  have := (World.keptBut_refl w may).2.2 i hi
  rw [hk i hi]
  exact this
theorem RR.bool {x : Bool} {v : Value} (h : RR im okp w w' (.b x) v) : v = .bool x := by
  obtain ⟨hs, hk, hsm, ob, ho⟩ := h
  simpa [OwnR, TR] using ho
theorem law_two {F : FuncId} {M : List D → Option D} (hS : Snd P im F M) {a0 a1 : Int} (h : M [.i .i64 a0, .i .i64 a1] = some (.b true)) (w : World) :
    Calls P F #[.int .i64 a0, .int .i64 a1] w (fun e w' => e = .returned (.bool true) ∧ w.keptBut w' (fun _ => False)) := by
  refine Calls.mono (hS _ _ h [.int .i64 a0, .int .i64 a1] w (fun _ _ => False) (by simp [TRl, TR]) (fun b o hb => hb.elim)) (fun e w' he => ?_)
  cases e with
  | outgrown => exact he.elim
  | panicked c => exact he.elim
  | returned v =>
    exact ⟨by rw [RR.bool he], RR.keptBut he _⟩
end
end Go.Proofs.Ev
namespace Go.Proofs.Ev
noncomputable section
def Tn (G : Nat → Nat → Option FT) (n φ : Nat) : FTab := fun k => cnd (Nat.blt k n) (G φ k) none
theorem zfK {G : Nat → Nat → Option FT} {n φ : Nat} {x : FT} (h : G φ n = some x) : setT (Tn G n φ) n x = Tn G (n + 1) φ := by
  funext k
  unfold setT Tn
  by_cases e : k = n
  · subst e
    rw [show Nat.beq k k = true from Nat.beq_refl k, zx, zy (Nat.lt_succ_self k), zx, h]
  · rw [show Nat.beq k n = false from z4Z e, zM]
    by_cases hlt : k < n
    · rw [zy hlt, zy (by omega)]
    · rw [zB hlt, zB (by omega)]
variable {P : Program} {l : List Nat} {G : Nat → Nat → Option FT} {n F : Nat} {TD TD' : Nat → FTab} {fn : Func} {na md : Nat} {an : List (Option (List Nat))}
def Lb (P : Program) (l : List Nat) (G : Nat → Nat → Option FT) (n : Nat) (TD : Nat → FTab) : Prop := P.follows .mixedOrders = true ∧ ∀ φ, LibP P (fun F => imA F l 0) n (Tn G n φ) (TD φ)
theorem Lb.nil (hm : P.follows .mixedOrders = true) : Lb P l G 0 fun _ _ => none := ⟨hm, fun φ => by
  have : Tn G 0 φ = fun _ => none := by funext k; exact (by rw [Tn, zB (Nat.not_lt_zero k), zM])
  rw [this]; exact LibP.nil⟩
def Fc (P : Program) (l : List Nat) (n F : Nat) (fn : Func) : Prop := (P.funcs[F]?, (fn.name == "runtime.NumGoroutine", fn.body.isSome), l[n]?) = (some fn, (false, true), some F)
theorem Fc.ok (h : Fc P l n F fn) : FnOk P (fun F => imA F l 0) n F fn := by
  simp only [Fc, Prod.mk.injEq] at h
  exact zpw h.1 h.2.1.1 h.2.1.2 h.2.2
theorem Lb.put (h : Lb P l G n TD) (f : Fc P l n F fn) {M : Nat → List D → Option D} (hM : ∀ φ, Snd P (fun F => imA F l 0) F (M φ)) (g : (fun φ => G φ n) = fun φ => some (.iso (M φ))) : Lb P l G (n + 1) TD :=
  ⟨h.1, fun φ => by rw [← zfK (congrFun g φ)]; exact (h.2 φ).iso false f.ok (hM φ)⟩
theorem Lb.putd (h : Lb P l G n TD) (f : Fc P l n F fn) {M : Nat → List D → Option D} (hM : ∀ φ, Snd P (fun F => imA F l 0) F (M φ)) (g : (fun φ => G φ n) = fun φ => some (.iso (M φ))) :
    Lb P l G (n + 1) fun φ => setT (TD φ) n (.iso (M φ)) :=
  ⟨h.1, fun φ => by rw [← zfK (congrFun g φ)]; exact (h.2 φ).iso true f.ok (hM φ)⟩
theorem Lb.snd (h : Lb P l G n TD) (f : Fc P l n F fn) {R : Nat → List D → Option D} (e : (fun φ => denI φ (Tn G n φ) (TD φ) na (cutF P (fun F => imA F l 0) md an fn)) = R) (φ : Nat) : Snd P (fun F => imA F l 0) F (R φ) :=
  (h.2 φ).snd h.1 f.ok (congrFun e φ)
theorem Lb.sndM (h : Lb P l G n TD) (f : Fc P l n F fn) {R M : Nat → List D → Option D} (hM : ∀ φ xs r, M φ xs = some r → ∃ φ', R φ' xs = some r) (e : (fun φ => denI φ (Tn G n φ) (TD φ) na (cutF P (fun F => imA F l 0) md an fn)) = R) (φ : Nat) : Snd P (fun F => imA F l 0) F (M φ) := fun xs r hr => by
  obtain ⟨φ', h'⟩ := hM φ xs r hr
  exact h.snd f e φ' xs r h'
theorem Lb.sndR (h : Lb P l G n TD) (f : Fc P l n F fn) (dyn : Bool) {Q : Nat → (List D → Option D) → List D → Option D} {R : Nat → List D → Option D} (hR : R = fun φ => lp (fun _ => none) (Q φ) φ)
    (e : (fun φ ih => denI φ (setT (Tn G n φ) n (.iso ih)) (cnd dyn (setT (TD φ) n (.iso ih)) (TD φ)) na (cutF P (fun F => imA F l 0) md an fn)) = Q) (φ : Nat) : Snd P (fun F => imA F l 0) F (R φ) := by
  rw [hR]; exact (h.2 φ).sndRec h.1 dyn f.ok (congrFun e φ) φ
theorem Lb.mem (h : Lb P l G n TD) (f : Fc P l n F fn) {R : Nat → List D → LS → (D → LS → Rs) → Rs} (e : (fun φ => denF φ (Tn G n φ) (TD φ) na (cutF P (fun F => imA F l 0) 2 an fn)) = R) (g : (fun φ => G φ n) = fun φ => some (.mem (R φ))) : Lb P l G (n + 1) TD :=
  ⟨h.1, fun φ => by rw [← zfK (congrFun g φ)]; exact (h.2 φ).mem false f.ok (congrFun e φ)⟩
theorem Lb.memR (h : Lb P l G n TD) (f : Fc P l n F fn) {Q : Nat → (List D → LS → (D → LS → Rs) → Rs) → List D → LS → (D → LS → Rs) → Rs} {R : Nat → List D → LS → (D → LS → Rs) → Rs} (hR : R = fun φ => lp (fun _ _ _ => none) (Q φ) φ)
    (e : (fun φ ih => denF φ (setT (Tn G n φ) n (.mem ih)) (TD φ) na (cutF P (fun F => imA F l 0) 2 an fn)) = Q) (g : (fun φ => G φ n) = fun φ => some (.mem (R φ))) : Lb P l G (n + 1) TD :=
  ⟨h.1, fun φ => by
    have g' := congrFun g φ
    subst hR
    rw [← zfK g']; exact (h.2 φ).memRec false f.ok (congrFun e φ) φ⟩
theorem Lb.memRd (h : Lb P l G n TD) (f : Fc P l n F fn) {Q : Nat → (List D → LS → (D → LS → Rs) → Rs) → List D → LS → (D → LS → Rs) → Rs} {R : Nat → List D → LS → (D → LS → Rs) → Rs} (hR : R = fun φ => lp (fun _ _ _ => none) (Q φ) φ)
    (e : (fun φ ih => denF φ (setT (Tn G n φ) n (.mem ih)) (setT (TD φ) n (.mem ih)) na (cutF P (fun F => imA F l 0) 2 an fn)) = Q) (g : (fun φ => G φ n) = fun φ => some (.mem (R φ))) :
    Lb P l G (n + 1) fun φ => setT (TD φ) n (.mem (R φ)) :=
  ⟨h.1, fun φ => by
    have g' := congrFun g φ
    subst hR
    rw [← zfK g']; exact (h.2 φ).memRec true f.ok (congrFun e φ) φ⟩
def fL (P : Program) (l : List Nat) (n F : Nat) (fn : Func) : Option Func × (Bool × Bool) × Option Nat := (P.funcs[F]?, (fn.name == "runtime.NumGoroutine", fn.body.isSome), l[n]?)
def fR (F : Nat) (fn : Func) : Option Func × (Bool × Bool) × Option Nat := (some fn, (false, true), some F)
theorem Lb.st (h : Lb P l G n TD) (F : Nat) (fn : Func) (na md : Nat) (an : List (Option (List Nat))) (R : Nat → List D → Option D)
    (f : (fL P l n F fn, fun φ => denI φ (Tn G n φ) (TD φ) na (cutF P (fun F => imA F l 0) md an fn), fun φ => G φ n) = (fR F fn, R, fun φ => some (.iso (R φ)))) : Lb P l G (n + 1) TD := by
  simp only [Prod.mk.injEq] at f
  exact h.put f.1 (h.snd f.1 f.2.1) f.2.2
theorem Lb.sn (h : Lb P l G n TD) (F : Nat) (fn : Func) (na md : Nat) (an : List (Option (List Nat))) (R : Nat → List D → Option D)
    (f : (fL P l n F fn, fun φ => denI φ (Tn G n φ) (TD φ) na (cutF P (fun F => imA F l 0) md an fn)) = (fR F fn, R)) (φ : Nat) : Snd P (fun F => imA F l 0) F (R φ) := by
  simp only [Prod.mk.injEq] at f
  exact h.snd f.1 f.2 φ
theorem Lb.std (h : Lb P l G n TD) (F : Nat) (fn : Func) (na md : Nat) (an : List (Option (List Nat))) (R : Nat → List D → Option D)
    (f : (fL P l n F fn, fun φ => denI φ (Tn G n φ) (TD φ) na (cutF P (fun F => imA F l 0) md an fn), fun φ => G φ n) = (fR F fn, R, fun φ => some (.iso (R φ)))) : Lb P l G (n + 1) fun φ => setT (TD φ) n (.iso (R φ)) := by
  simp only [Prod.mk.injEq] at f
  exact h.putd f.1 (h.snd f.1 f.2.1) f.2.2
theorem Lb.stM (h : Lb P l G n TD) (F : Nat) (fn : Func) (na md : Nat) (an : List (Option (List Nat))) (R M : Nat → List D → Option D) (hM : ∀ φ xs r, M φ xs = some r → ∃ φ', R φ' xs = some r)
    (f : (fL P l n F fn, fun φ => denI φ (Tn G n φ) (TD φ) na (cutF P (fun F => imA F l 0) md an fn), fun φ => G φ n) = (fR F fn, R, fun φ => some (.iso (M φ)))) : Lb P l G (n + 1) TD := by
  simp only [Prod.mk.injEq] at f
  exact h.put f.1 (h.sndM f.1 hM f.2.1) f.2.2
theorem Lb.stC (h : Lb P l G n TD) (F : Nat) (fn : Func) (na md : Nat) (an : List (Option (List Nat))) (R : Nat → List D → Option D) (hC : ∀ {F : FuncId}, P.funcs[F]? = some fn → ∀ ex, Snd1 P (fun F => imA F l 0) F [.tree [] 0 ex] (.tree [] 0 true))
    (f : (fL P l n F fn, fun φ => denI φ (Tn G n φ) (TD φ) na (cutF P (fun F => imA F l 0) md an fn), fun φ => G φ n) = (fR F fn, R, fun φ => some (.iso (z8w (R φ))))) : Lb P l G (n + 1) TD := by
  simp only [Prod.mk.injEq] at f
  exact h.put f.1 (fun φ => znd (h.snd f.1 f.2.1 φ) (hC (Fc.ok f.1).fun')) f.2.2
theorem Lb.stR (h : Lb P l G n TD) (F : Nat) (fn : Func) (na md : Nat) (an : List (Option (List Nat))) (Q : Nat → (List D → Option D) → List D → Option D) (R : Nat → List D → Option D) (hR : R = fun φ => lp (fun _ => none) (Q φ) φ)
    (f : (fL P l n F fn, fun φ ih => denI φ (setT (Tn G n φ) n (.iso ih)) (TD φ) na (cutF P (fun F => imA F l 0) md an fn), fun φ => G φ n) = (fR F fn, Q, fun φ => some (.iso (R φ)))) : Lb P l G (n + 1) TD := by
  simp only [Prod.mk.injEq] at f
  exact h.put f.1 (h.sndR f.1 false hR f.2.1) f.2.2
theorem Lb.me (h : Lb P l G n TD) (F : Nat) (fn : Func) (na : Nat) (an : List (Option (List Nat))) (R : Nat → List D → LS → (D → LS → Rs) → Rs)
    (f : (fL P l n F fn, fun φ => denF φ (Tn G n φ) (TD φ) na (cutF P (fun F => imA F l 0) 2 an fn), fun φ => G φ n) = (fR F fn, R, fun φ => some (.mem (R φ)))) : Lb P l G (n + 1) TD := by
  simp only [Prod.mk.injEq] at f
  exact h.mem f.1 f.2.1 f.2.2
theorem Lb.mr (h : Lb P l G n TD) (F : Nat) (fn : Func) (na : Nat) (an : List (Option (List Nat))) (Q : Nat → (List D → LS → (D → LS → Rs) → Rs) → List D → LS → (D → LS → Rs) → Rs) (R : Nat → List D → LS → (D → LS → Rs) → Rs) (hR : R = fun φ => lp (fun _ _ _ => none) (Q φ) φ)
    (f : (fL P l n F fn, fun φ ih => denF φ (setT (Tn G n φ) n (.mem ih)) (TD φ) na (cutF P (fun F => imA F l 0) 2 an fn), fun φ => G φ n) = (fR F fn, Q, fun φ => some (.mem (R φ)))) : Lb P l G (n + 1) TD := by
  simp only [Prod.mk.injEq] at f
  exact h.memR f.1 hR f.2.1 f.2.2
theorem Lb.mrd (h : Lb P l G n TD) (F : Nat) (fn : Func) (na : Nat) (an : List (Option (List Nat))) (Q : Nat → (List D → LS → (D → LS → Rs) → Rs) → List D → LS → (D → LS → Rs) → Rs) (R : Nat → List D → LS → (D → LS → Rs) → Rs) (hR : R = fun φ => lp (fun _ _ _ => none) (Q φ) φ)
    (f : (fL P l n F fn, fun φ ih => denF φ (setT (Tn G n φ) n (.mem ih)) (setT (TD φ) n (.mem ih)) na (cutF P (fun F => imA F l 0) 2 an fn), fun φ => G φ n) = (fR F fn, Q, fun φ => some (.mem (R φ)))) : Lb P l G (n + 1) fun φ => setT (TD φ) n (.mem (R φ)) := by
  simp only [Prod.mk.injEq] at f
  exact h.memRd f.1 hR f.2.1 f.2.2
end
end Go.Proofs.Ev
set_option maxRecDepth 1000000
set_option maxHeartbeats 0
namespace Go.Proofs.YthljpappkomocaaGreat
open Ev
noncomputable section
def zq7 : List Nat := [144, 79, 35, 10, 143, 78, 34, 11, 93, 257, 209, 206, 157, 90, 101, 105, 104, 164, 100, 161, 211, 325, 255, 327, 326, 328, 258, 329, 256, 207, 215, 260, 214, 168, 103, 46, 95, 129, 189, 154, 88, 208, 159, 210, 160, 230, 231, 232, 188, 128, 162, 96, 92, 158, 94, 156, 148, 97, 181, 174, 175, 224, 340, 204, 453, 406, 407, 341, 413, 410, 414, 345, 416, 408, 342, 343, 422, 411, 454, 409, 412, 344, 455, 415, 346, 270, 347, 271, 272, 273, 417, 348, 349, 274, 350, 275, 418, 419, 420, 456, 421, 351, 352, 276, 205, 278, 423, 424, 425, 354, 355, 353, 277, 225, 226, 254, 203, 229, 228, 356, 426, 357, 321, 322, 358, 457, 428, 427, 359, 360, 361, 362, 363, 279, 227, 187, 127, 64, 195, 145, 80, 146, 221, 83, 331, 263, 262, 332, 66, 403, 333, 130, 334, 264, 452, 451, 404, 335, 336, 337, 338, 265, 309, 310, 243, 398, 308, 266, 267, 222, 307, 242, 196, 319, 245, 199, 198, 311, 399, 312, 313, 450, 401, 400, 314, 315, 316, 317, 318, 244, 197, 147, 81, 36, 91, 67, 82, 37, 106, 84, 85, 107, 149, 201, 200, 150, 152, 246, 320, 247, 248, 402, 324, 323, 249, 250, 251, 252, 253, 202, 151, 86, 153, 87, 155, 89, 38, 99, 163, 98, 39, 12, 52, 47, 48, 19, 25, 20, 112, 113, 53, 23, 40, 13, 136, 241, 193, 194, 142, 141, 77, 62, 73, 140, 75, 76, 126, 63, 29, 65, 30, 166, 165, 213, 212, 167, 102, 41, 42, 43, 44, 14, 22, 171, 217, 330, 261, 294, 296, 137, 138, 139, 372, 295, 235, 236, 373, 297, 237, 374, 298, 238, 219, 74, 32, 33, 8, 9, 111, 218, 173, 110, 177, 178, 300, 299, 239, 375, 466, 444, 384, 390, 378, 380, 437, 469, 460, 467, 446, 391, 435, 459, 436, 441, 434, 376, 438, 440, 385, 473, 470, 471, 472, 461, 474, 462, 465, 463, 439, 464, 442, 377, 301, 379, 443, 382, 381, 302, 303, 383, 445, 386, 387, 392, 393, 388, 389, 397, 447, 394, 304, 306, 395, 448, 468, 449, 396, 305, 240, 192, 133, 69, 190, 131, 121, 50, 51, 135, 220, 370, 289, 290, 291, 371, 292, 293, 234, 429, 364, 430, 365, 281, 282, 283, 284, 366, 285, 71, 216, 169, 170, 172, 431, 55, 432, 367, 368, 286, 287, 458, 433, 369, 288, 233, 191, 132, 68, 134, 70, 72, 31, 7, 3]
def im (F : Nat) : Option Nat := imA F zq7 0
end
end Go.Proofs.YthljpappkomocaaGreat
