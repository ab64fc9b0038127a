/- Residuals of functions, printed by a program. -/
import Derived.Test.YthljpappkomocaaGreatB0
set_option linter.all false
set_option maxRecDepth 1000000
set_option maxHeartbeats 0
namespace Go.Proofs.YthljpappkomocaaGreat
open Ev
noncomputable section
def TD0 (φ : Nat) : FTab := fun _ => none
def z1U (φ : Nat) : List D → Option D :=
fun as =>
(fun (s : LS) =>
 u1 as fun m v =>
 u0 v (
 kLen m s fun w s =>
 kSub w (ni 1) fun y =>
 lp (fun (_ _ _ : D) (_ : LS) => none) (fun (z : D → D → D → LS → Rs) (A n o : D) (s : LS) =>
 kGeq o (ni 0) fun B =>
 z5 B
(lp (fun (_ _ _ _ : D) (_ : LS) => none) (fun (C : D → D → D → D → LS → Rs) (e f g h : D) (s : LS) =>
 kGeq h (ni 0) fun E =>
 z5 E
(jn (fun (F G H I : D) (s : LS) =>
 kSub I (ni 8) fun J =>
 C F G H J s) fun p =>
 z1 1 s e g fun K s =>
 z4 s K fun M s =>
 kShr M h fun N =>
 z2s .u8 N s fun u s =>
 kLen f s fun O s =>
 kGtr O (ni 0) fun l =>
 z0 l false (fun k => k u s) s fun P s =>
 z0 l false (fun k => kGtr P (.i .u8 (.ofNat 0)) fun d => k d s) s fun S s =>
 zp l (.b true) S s fun U s =>
 z5 U
(kBsl 1 [(.i .u8 (.ofNat 0))] [(0, 1, u)] s fun V s =>
 kApp 1 1 s f V fun W s =>
 p e W g h s)
(p e f g h s))
(kSub g (ni 1) fun X =>
 z e f X s)) φ A n o (ni 24) s)
(kS (.b2s (.c n)) s fun Y s =>
 retK false s Y some)) φ m (.tree [] 0 true) y s)) s0
def z2X (φ : Nat) : List D → Option D :=
fun as =>
(fun (s : LS) =>
 u1 as fun b c =>
 u0 c (
 kAnd b (.i .u64 (.ofNat 4294967295)) fun d =>
 kShr b (.i .u64 (.ofNat 32)) fun e =>
 kBsl 2 [(.i .u64 (.ofNat 0))] [(0, 1, d), (1, 1, e)] s fun f s =>
 isoK (z1U φ) [f] s fun g s =>
 retK false s g some)) s0
def zj (φ : Nat) : List D → Option D :=
fun as =>
(fun (s : LS) =>
 u1 as fun e f =>
 u0 f (
 z9 [(.b false), (.n 0)] s fun d s =>
 kLss e (ni 0) fun g =>
 z5 g
(kAdd e (ni 1) fun h =>
 kS (.neg (.c h)) s fun k s =>
 z2s .u64 k s fun l s =>
 kAdd l (.i .u64 (.ofNat 1)) fun m =>
 isoK (z2X φ) [m] s fun o s =>
 zI [(.b false), (.n 0)] [(0, 1, (.b true)), (1, 1, o)] s fun p s =>
 z6 2 s d p fun _ s =>
 z3 2 s d fun u _ =>
 retK false s u some)
(z2s .u64 e s fun v s =>
 isoK (z2X φ) [v] s fun w s =>
 zI [(.b false), (.n 0)] [(1, 1, w)] s fun y s =>
 z6 2 s d y fun _ s =>
 z3 2 s d fun z _ =>
 retK false s z some))) s0
def zd (φ : Nat) : List D → Option D :=
fun as =>
(fun (s : LS) =>
 u1 as fun d e =>
 u0 e (
 z9 [(.b false), (.n 0), (.n 0)] s fun c s =>
 isoK (zj φ) [d] s fun f s =>
 zI [(.b false), (.n 0), (.n 0)] [(0, 2, f), (2, 1, (.n 1))] s fun g s =>
 z6 3 s c g fun _ s =>
 z3 3 s c fun h _ =>
 retK false s h some)) s0
def z3L (φ : Nat) : List D → Option D :=
fun as =>
(fun (s : LS) =>
 u1 as fun c d =>
 u0 d (
 kBox c s fun b s =>
 z7 0 s b fun e s =>
 z4 s e fun f s =>
 z5 f
(retK false s (.i .i64 (.negSucc 0)) some)
(z7 1 s b fun g s =>
 z4 s g fun h s =>
 kEql h (.n 0) fun k =>
 z5 k
(retK false s (ni 0) some)
(retK false s (ni 1) some)))) s0
def z2V (φ : Nat) : List D → Option D :=
fun as =>
(fun (s : LS) =>
 u1 as fun b c =>
 u0 c (
 kBox b s fun d s =>
 z7 0 s d fun e s =>
 z3 2 s e fun f s =>
 isoK (z3L φ) [f] s fun g s =>
 retK false s g some)) s0
def z17 (φ : Nat) : List D → Option D :=
fun as =>
(fun (s : LS) =>
 u1 as fun g h =>
 u0 h (
 kLen g s fun i s =>
 lp (fun (_ _ : D) (_ : LS) => none) (fun (l : D → D → LS → Rs) (f e : D) (s : LS) =>
 kGtr e (ni 0) fun c =>
 z0 c true (fun k => k f s) s fun m s =>
 z0 c true (fun k => k e s) s fun o s =>
 z0 c true (fun k => kSub o (ni 1) fun d => k d s) s fun p s =>
 z0 c true (fun k => z1 3 s m p k) s fun u s =>
 z0 c true (fun k => z3 3 s u k) s fun v s =>
 z0 c true (fun k => isoK (z2V φ) [v] s k) s fun w s =>
 z0 c true (fun k => kEql w (ni 0) fun d => k d s) s fun y s =>
 zp c y (.b false) s fun z s =>
 z5 z
(kSub e (ni 1) fun A =>
 l f A s)
(kBsl 0 [(.b false), (.n 0), (.n 0)] [] s fun B s =>
 z23 3 s f none (some e) none fun C s =>
 kApp 3 40 s B C fun E s =>
 retK false s E some)) φ g i s)) s0
def zu (φ : Nat) : List D → Option D :=
fun as =>
(fun (s : LS) =>
 u1 as fun d h =>
 u0 h (
 kLen d s fun i s =>
 lp (fun (_ _ _ _ : D) (_ : LS) => none) (fun (k : D → D → D → D → LS → Rs) (e f g c : D) (s : LS) =>
 kLss c g fun l =>
 z5 l
(z1 1 s f c fun m s =>
 z4 s m fun o s =>
 isoK (zd φ) [o] s fun p s =>
 kBsl 1 [(.b false), (.n 0), (.n 0)] [(0, 3, p)] s fun u s =>
 kApp 3 40 s e u fun v s =>
 kAdd c (ni 1) fun w =>
 k v f g w s)
(isoK (z17 φ) [e] s fun y s =>
 retK false s y some)) φ (.tree [] 0 true) d i (ni 0) s)) s0
def z1q (φ : Nat) : List D → Option D :=
fun as =>
(fun (s : LS) =>
 u1 as fun e f =>
 u0 f (
 z9 [(.b false), (.n 0)] s fun d s =>
 kLss e (ni 0) fun g =>
 z5 g
(z2s .u64 e s fun h s =>
 kS (.neg (.c h)) s fun i s =>
 isoK (z3P φ) [i] s fun k s =>
 zI [(.b false), (.n 0)] [(0, 1, (.b true)), (1, 1, k)] s fun l s =>
 z6 2 s d l fun _ s =>
 z3 2 s d fun m _ =>
 retK false s m some)
(z2s .u64 e s fun o s =>
 isoK (z3P φ) [o] s fun p s =>
 zI [(.b false), (.n 0)] [(1, 1, p)] s fun u s =>
 z6 2 s d u fun _ s =>
 z3 2 s d fun v _ =>
 retK false s v some))) s0
def zP (φ : Nat) : List D → Option D :=
fun as =>
(fun (s : LS) =>
 u1 as fun d e =>
 u0 e (
 z9 [(.b false), (.n 0), (.n 0)] s fun c s =>
 isoK (z1q φ) [d] s fun f s =>
 isoK (z3M φ) [f] s fun g s =>
 z6 3 s c g fun _ s =>
 z3 3 s c fun h _ =>
 retK false s h some)) s0
def zaD (φ : Nat) : List D → Option D :=
fun as =>
(fun (s : LS) =>
 u1 as fun g h =>
 u0 h (
 kBox g s fun f s =>
 z7 0 s f fun i s =>
 z7 1 s i fun l s =>
 z4 s l fun m s =>
 kS (.lens (.c m)) s fun n s =>
 kGtr n (ni 1024) fun e =>
 z0 e false (fun k => z7 2 s f k) s fun o s =>
 z0 e false (fun k => z4 s o k) s fun p s =>
 z0 e false (fun k => kS (.lens (.c p)) s k) s fun u s =>
 z0 e false (fun k => kGtr u (ni 1024) fun d => k d s) s fun v s =>
 zp e (.b true) v s fun w s =>
 retK false s w some)) s0
def TD15 (φ : Nat) : FTab := setT (TD0 φ) 14 (.iso (zaD φ))
def z9r (φ : Nat) : List D → Option D :=
fun as =>
(fun (s : LS) =>
 u1 as fun b c =>
 u0 c (
 kBox b s fun d s =>
 z7 2 s d fun e s =>
 z4 s e fun f s =>
 kEql f (.n 1) fun g =>
 retK false s g some)) s0
def z5H (φ : Nat) : List D → Option D :=
fun as =>
(fun (s : LS) =>
 u1 as fun b c =>
 u0 c (
 kBox b s fun d s =>
 z3 3 s d fun e s =>
 isoK (z9r φ) [e] s fun f s =>
 kNot f s fun g s =>
 retK false s g some)) s0
def TD17 (φ : Nat) : FTab := setT (TD15 φ) 16 (.iso (z5H φ))
def z28 (φ : Nat) : List D → LS → (D → LS → Rs) → Rs :=
fun as s k =>
 u1 as fun c g =>
 u1 g fun h l =>
 u0 l (
 kLen c s fun m s =>
 lp (fun (_ _ _ _ : D) (_ : LS) => none) (fun (n : D → D → D → D → LS → Rs) (d e f b : D) (s : LS) =>
 kLss b f fun o =>
 z5 o
(z1 3 s d b fun p s =>
 z3 3 s p fun u s =>
 dynK (TD17 φ) false e [u] s fun v s =>
 z5 v
(k b s)
(kAdd b (ni 1) fun w =>
 n d e f w s))
(k (.i .i64 (.negSucc 0)) s)) φ c h m (ni 0) s)
def zX (φ : Nat) : List D → LS → (D → LS → Rs) → Rs :=
fun as s k =>
 u1 as fun b c =>
 u1 c fun d e =>
 u0 e (
(z28 φ) [b, d] s fun f s =>
 kGeq f (ni 0) fun g =>
 k g s)
def z2M (φ : Nat) : List D → Option D :=
fun as =>
(fun (s : LS) =>
 u1 as fun b c =>
 u0 c (
 kBox b s fun d s =>
 z7 0 s d fun e s =>
 z7 1 s e fun f s =>
 z4 s f fun g s =>
 kEql g (.n 0) fun h =>
 retK false s h some)) s0
def z6E (φ : Nat) : List D → Option D :=
fun as =>
(fun (s : LS) =>
 u1 as fun f g =>
 u0 g (
 kS (.lens (.c f)) s fun h s =>
 kGtr h (ni 0) fun e =>
 z0 e true (fun k => k f s) s fun l s =>
 z0 e true (fun k => kS (.index (.c l) (.c (ni 0))) s k) s fun m s =>
 z0 e true (fun k => kEql m (.i .u8 (.ofNat 0)) fun d => k d s) s fun n s =>
 zp e n (.b false) s fun o s =>
 z5 o
(retK false s (ni 1) some)
(kS (.lens (.c f)) s fun p s =>
 kGtr p (ni 1024) fun u =>
 z5 u
(retK false s (ni 4) some)
(retK false s (ni 0) some)))) s0
def za2 (φ : Nat) : List D → Option D :=
fun as =>
(fun (s : LS) =>
 u0 as (
 z9 [(.b false), (.n 0)] s fun c s =>
 zI [(.b false), (.n 0)] [] s fun d s =>
 z6 2 s c d fun _ s =>
 z3 2 s c fun e _ =>
 retK false s e some)) s0
def z9j (φ : Nat) : List D → Option D :=
fun as =>
(fun (s : LS) =>
 u1 as fun g h =>
 u0 h (
 kBox g s fun e s =>
 z7 1 s e fun i s =>
 z4 s i fun l s =>
 isoK (z6E φ) [l] s fun f s =>
 kEql f (ni 1) fun m =>
 z5 m
(retK false s f some)
(z3 2 s e fun o s =>
 isoK (za2 φ) [] s fun p s =>
 kEqs true [1, 2] o p s fun c s =>
 z0 c true (fun k => z7 1 s e k) s fun u s =>
 z0 c true (fun k => z4 s u k) s fun v s =>
 z0 c true (fun k => kEql v (.n 0) fun d => k d s) s fun w s =>
 zp c w (.b false) s fun y s =>
 z5 y
(retK false s (ni 1) some)
(retK false s f some)))) s0
def z8I (φ : Nat) : List D → Option D :=
fun as =>
(fun (s : LS) =>
 u1 as fun l m =>
 u0 m (
 kBox l s fun e s =>
 z7 0 s e fun o s =>
 z3 2 s o fun p s =>
 isoK (z9j φ) [p] s fun g s =>
 z7 2 s e fun u s =>
 z4 s u fun v s =>
 isoK (z6E φ) [v] s fun h s =>
 kEql g (ni 1) fun i =>
 z0 i false (fun k => k h s) s fun w s =>
 z0 i false (fun k => kEql w (ni 1) fun d => k d s) s fun y s =>
 zp i (.b true) y s fun f s =>
 z0 f false (fun k => z7 2 s e k) s fun z s =>
 z0 f false (fun k => z4 s z k) s fun A s =>
 z0 f false (fun k => kEql A (.n 0) fun d => k d s) s fun B s =>
 zp f (.b true) B s fun C s =>
 z5 C
(retK false s (ni 1) some)
(kNeq g (ni 0) fun E =>
 z5 E
(retK false s g some)
(kNeq h (ni 0) fun F =>
 z5 F
(retK false s h some)
(z7 2 s e fun G s =>
 z4 s G fun H s =>
 kNeq H (.n 1) fun c =>
 z0 c true (fun k => z7 0 s e k) s fun I s =>
 z0 c true (fun k => z7 1 s I k) s fun J s =>
 z0 c true (fun k => z4 s J k) s fun K s =>
 z0 c true (fun k => z7 2 s e k) s fun M s =>
 z0 c true (fun k => z4 s M k) s fun N s =>
 z0 c true (fun k => isoK (zeN φ) [K, N] s k) s fun O s =>
 z0 c true (fun k => kNeq O (.n 1) fun d => k d s) s fun P s =>
 zp c P (.b false) s fun S s =>
 z5 S
(retK false s (ni 1) some)
(retK false s (ni 0) some)))))) s0
def z5n (φ : Nat) : List D → Option D :=
fun as =>
(fun (s : LS) =>
 u1 as fun e o =>
 u0 o (
 kLen e s fun p s =>
 kGtr p (ni 65) fun u =>
 z5 u
(retK false s (ni 4) some)
(kLen e s fun v s =>
 lp (fun (_ _ _ _ : D) (_ : LS) => none) (fun (w : D → D → D → D → LS → Rs) (f h i g : D) (s : LS) =>
 kLss g i fun y =>
 z5 y
(z1 3 s h g fun z s =>
 z3 3 s z fun A s =>
 z9 [(.b false), (.n 0), (.n 0)] s fun l s =>
 z6 3 s l A fun _ s =>
 z3 3 s l fun B s =>
 isoK (z8I φ) [B] s fun m s =>
 kNeq m (ni 0) fun C =>
 z5 C
(retK false s m some)
(kAdd g (ni 1) fun E =>
 w f h i E s))
(kLen f s fun F s =>
 kGtr F (ni 0) fun c =>
 z0 c true (fun k => k f s) s fun G s =>
 z0 c true (fun k => k f s) s fun H s =>
 z0 c true (fun k => kLen H s k) s fun I s =>
 z0 c true (fun k => kSub I (ni 1) fun d => k d s) s fun J s =>
 z0 c true (fun k => z1 3 s G J k) s fun K s =>
 z0 c true (fun k => z3 3 s K k) s fun M s =>
 z0 c true (fun k => isoK (z2M φ) [M] s k) s fun N s =>
 zp c N (.b false) s fun O s =>
 z5 O
(retK false s (ni 1) some)
(retK false s (ni 0) some))) φ e e v (ni 0) s))) s0
def z2q (φ : Nat) : List D → Option D :=
fun as =>
(fun (s : LS) =>
 u1 as fun h i =>
 u0 i (
 kBox h s fun d s =>
 z7 0 s d fun l s =>
 z4 s l fun m s =>
 isoK (z5n φ) [m] s fun g s =>
 kNeq g (ni 0) fun n =>
 z5 n
(retK false s g some)
(z7 0 s d fun o s =>
 z4 s o fun p s =>
 kLen p s fun u s =>
 kSub u (ni 1) fun f =>
 kLss f (ni 1) fun c =>
 z0 c false (fun k => z7 0 s d k) s fun v s =>
 z0 c false (fun k => z4 s v k) s fun w s =>
 z0 c false (fun k => k f s) s fun y s =>
 z0 c false (fun k => z1 3 s w y k) s fun z s =>
 z0 c false (fun k => z3 3 s z k) s fun A s =>
 z0 c false (fun k => isoK (zP φ) [(ni 1)] s k) s fun B s =>
 z0 c false (fun k => kEqs true [1, 2, 2] A B s k) s fun C s =>
 zp c (.b true) C s fun e s =>
 z0 e false (fun k => z7 0 s d k) s fun E s =>
 z0 e false (fun k => z4 s E k) s fun F s =>
 z0 e false (fun k => (zX φ) [F, (.fn 16 [])] s k) s fun G s =>
 zp e (.b true) G s fun H s =>
 z5 H
(retK false s (ni 1) some)
(kGtr f (ni 24) fun I =>
 z5 I
(retK false s (ni 4) some)
(retK false s (ni 0) some))))) s0
def z11 (φ : Nat) : List D → Option D :=
fun as =>
(fun (s : LS) =>
 u1 as fun g h =>
 u0 h (
 kLen g s fun i s =>
 lp (fun (_ _ : D) (_ : LS) => none) (fun (l : D → D → LS → Rs) (f e : D) (s : LS) =>
 kGtr e (ni 0) fun c =>
 z0 c true (fun k => k f s) s fun m s =>
 z0 c true (fun k => k e s) s fun n s =>
 z0 c true (fun k => kSub n (ni 1) fun d => k d s) s fun o s =>
 z0 c true (fun k => z1 3 s m o k) s fun p s =>
 z0 c true (fun k => z3 3 s p k) s fun u s =>
 z0 c true (fun k => isoK (z2M φ) [u] s k) s fun v s =>
 zp c v (.b false) s fun w s =>
 z5 w
(kSub e (ni 1) fun y =>
 l f y s)
(z23 3 s f none (some e) (some e) fun z s =>
 retK false s z some)) φ g i s)) s0
def z4E (φ : Nat) : List D → Option D :=
fun as =>
(fun (s : LS) =>
 u1 as fun g h =>
 u1 h fun f i =>
 u0 i (
 z9 [(.b false), (.n 0), (.n 0)] s fun e s =>
 kLss f (ni 0) fun c =>
 z0 c false (fun k => k f s) s fun l s =>
 z0 c false (fun k => k g s) s fun m s =>
 z0 c false (fun k => kLen m s k) s fun o s =>
 z0 c false (fun k => kGeq l o fun d => k d s) s fun p s =>
 zp c (.b true) p s fun u s =>
 z5 u
(isoK (zP φ) [(ni 0)] s fun v s =>
 z6 3 s e v fun _ s =>
 z3 3 s e fun w _ =>
 retK false s w some)
(z1 3 s g f fun y s =>
 z3 3 s y fun z s =>
 z6 3 s e z fun _ s =>
 z3 3 s e fun A _ =>
 retK false s A some))) s0
def z6q (φ : Nat) : List D → Option D :=
fun as =>
(fun (s : LS) =>
 u1 as fun e f =>
 u0 f (
 kBox e s fun c s =>
 z9 [(.b false), (.n 0), (.n 0)] s fun d s =>
 z7 0 s c fun g s =>
 z3 2 s g fun h s =>
 isoK zav [h] s fun i s =>
 z7 2 s c fun k s =>
 z4 s k fun l s =>
 zI [(.b false), (.n 0), (.n 0)] [(0, 2, i), (2, 1, l)] s fun m s =>
 z6 3 s d m fun _ s =>
 z3 3 s d fun o _ =>
 retK false s o some)) s0
def z7U (φ : Nat) : List D → Option D :=
fun as =>
(fun (s : LS) =>
 u1 as fun d e =>
 u1 e fun f g =>
 u0 g (
 kBox d s fun h s =>
 kBox f s fun i s =>
 z9 [(.b false), (.n 0), (.n 0)] s fun c s =>
 z3 3 s h fun k s =>
 z3 3 s i fun l s =>
 isoK (z6q φ) [l] s fun m s =>
 isoK (z7V φ) [k, m] s fun o s =>
 z6 3 s c o fun _ s =>
 z3 3 s c fun p _ =>
 retK false s p some)) s0
def z3N (φ : Nat) : List D → Option D :=
fun as =>
(fun (s : LS) =>
 u1 as fun f o =>
 u1 o fun g p =>
 u0 p (
 kLen f s fun u s =>
 kLen g s fun v s =>
 kS (.max (.c u) (.c v)) s fun h s =>
 z24 3 40 [(.b false), (.n 0), (.n 0)] s h h fun i s =>
 kLen i s fun w s =>
 lp (fun (_ _ _ _ _ : D) (_ : LS) => none) (fun (y : D → D → D → D → D → LS → Rs) (k l e m d : D) (s : LS) =>
 kLss d m fun z =>
 z5 z
(isoK (z4E φ) [k, d] s fun A s =>
 isoK (z4E φ) [l, d] s fun B s =>
 isoK (z7U φ) [A, B] s fun C s =>
 z1 3 s e d fun E s =>
 z6 3 s E C fun _ s =>
 kAdd d (ni 1) fun F =>
 y k l e m F s)
(isoK (z11 φ) [e] s fun G s =>
 retK false s G some)) φ f g i w (ni 0) s)) s0
def z2r (φ : Nat) : List D → Option D :=
fun as =>
(fun (s : LS) =>
 u1 as fun e f =>
 u0 f (
 kBox e s fun c s =>
 z9 [(.b false), (.n 0), (.n 0)] s fun d s =>
 z7 0 s c fun g s =>
 z7 0 s g fun h s =>
 z4 s h fun i s =>
 z7 2 s c fun k s =>
 z4 s k fun l s =>
 zI [(.b false), (.n 0)] [(0, 1, i), (1, 1, l)] s fun m s =>
 z7 0 s c fun o s =>
 z7 1 s o fun p s =>
 z4 s p fun u s =>
 zI [(.b false), (.n 0), (.n 0)] [(0, 2, m), (2, 1, u)] s fun v s =>
 z6 3 s d v fun _ s =>
 z3 3 s d fun w _ =>
 retK false s w some)) s0
def z1K (φ : Nat) : List D → Option D :=
fun as =>
(fun (s : LS) =>
 u1 as fun c d =>
 u0 d (
 zg6 false s c fun e s =>
 z5 e
(retK true s (.tree [] 0 true) some)
(kBsl 0 [(.b false), (.n 0), (.n 0)] [] s fun f s =>
 kApp 3 40 s f c fun g s =>
 retK true s g some))) s0
def z1g (φ : Nat) : List D → Option D :=
fun as =>
(fun (s : LS) =>
 u1 as fun e S =>
 u1 S fun A U =>
 u0 U (
 isoK (z8w (z1K φ)) [e] s fun B s =>
 kLen A s fun o s =>
 kLen e s fun V s =>
 kLss V o fun W =>
 z5 W
(retK false s (.tup [(.tree [] 0 true), B]) some)
(kLen e s fun X s =>
 kSub X o fun Y =>
 kAdd Y (ni 1) fun C =>
 z24 3 40 [(.b false), (.n 0), (.n 0)] s C C fun E s =>
 kLen E s fun Z s =>
 lp (fun (_ _ _ _ _ _ _ : D) (_ : LS) => none) (fun (bb : D → D → D → D → D → D → D → LS → Rs) (F p G f u H v : D) (s : LS) =>
 kLss v H fun bc =>
 z5 bc
(isoK (zP φ) [(ni 0)] s fun bd s =>
 z1 3 s u v fun bf s =>
 z6 3 s bf bd fun _ s =>
 kAdd v (ni 1) fun bg =>
 bb F p G f u H bg s)
(kSub f (ni 1) fun bh =>
 z1 3 s p bh fun bi s =>
 z3 3 s bi fun bk s =>
 isoK (z2r φ) [bk] s fun bl s =>
 z9 [(.b false), (.n 0), (.n 0)] s fun I s =>
 z6 3 s I bl fun _ s =>
 kLen F s fun bm s =>
 kSub bm f fun bn =>
 lp (fun (_ _ _ _ _ _ : D) (_ : LS) => none) (fun (bo : D → D → D → D → D → D → LS → Rs) (w g h i y c : D) (s : LS) =>
 kGeq c (ni 0) fun bp =>
 z5 bp
(jn (fun (bu bv bw bz bA bB : D) (s : LS) =>
 kSub bB (ni 1) fun bC =>
 bo bu bv bw bz bA bC s) fun J =>
 kAdd c h fun bE =>
 kSub bE (ni 1) fun bF =>
 z1 3 s g bF fun bG s =>
 z3 3 s bG fun bH s =>
 z3 3 s y fun bI s =>
 isoK (z1G φ) [bH, bI] s fun bJ s =>
 z9 [(.b false), (.n 0), (.n 0)] s fun k s =>
 z6 3 s k bJ fun _ s =>
 z3 3 s k fun bK s =>
 z1 3 s i c fun bM s =>
 z6 3 s bM bK fun _ s =>
 z3 3 s k fun bN s =>
 isoK (z2M φ) [bN] s fun bO s =>
 z5 bO
(J w g h i y c s)
(kLen w s fun bP s =>
 lp (fun (_ _ _ _ _ _ _ _ _ : D) (_ : LS) => none) (fun (bS : D → D → D → D → D → D → D → D → D → LS → Rs) (z l K M N m O P d : D) (s : LS) =>
 kLss d P fun bU =>
 z5 bU
(kAdd m d fun bV =>
 kAdd m d fun bW =>
 z1 3 s l bW fun bX s =>
 z3 3 s bX fun bY s =>
 z3 3 s O fun bZ s =>
 z1 3 s z d fun cb s =>
 z3 3 s cb fun cc s =>
 isoK (z1G φ) [bZ, cc] s fun cd s =>
 isoK (z7U φ) [bY, cd] s fun ce s =>
 z1 3 s l bV fun cf s =>
 z6 3 s cf ce fun _ s =>
 kAdd d (ni 1) fun cg =>
 bS z l K M N m O P cg s)
(J z l K M N m s)) φ w g h i y c k bP (ni 0) s))
(isoK (z11 φ) [i] s fun ch s =>
 kSub h (ni 1) fun ci =>
 z23 3 s g none (some ci) none fun ck s =>
 isoK (z11 φ) [ck] s fun cl s =>
 retK false s (.tup [ch, cl]) some)) φ p G f u I bn s)) φ e A B o E Z (ni 0) s))) s0
def z21 (φ : Nat) : List D → Option D :=
fun as =>
(fun (s : LS) =>
 u1 as fun d l =>
 u1 l fun m o =>
 u0 o (
 kBox m s fun p s =>
 kLen d s fun f s =>
 z24 3 40 [(.b false), (.n 0), (.n 0)] s f f fun u s =>
 kLen d s fun v s =>
 lp (fun (_ _ _ _ _ : D) (_ : LS) => none) (fun (w : D → D → D → D → D → LS → Rs) (g e h i c : D) (s : LS) =>
 kLss c i fun y =>
 z5 y
(z1 3 s h c fun z s =>
 z3 3 s z fun A s =>
 z9 [(.b false), (.n 0), (.n 0)] s fun k s =>
 z6 3 s k A fun _ s =>
 z3 3 s k fun B s =>
 z3 3 s g fun C s =>
 isoK (z1G φ) [B, C] s fun E s =>
 z1 3 s e c fun F s =>
 z6 3 s F E fun _ s =>
 kAdd c (ni 1) fun G =>
 w g e h i G s)
(isoK (z11 φ) [e] s fun H s =>
 retK false s H some)) φ p u d v (ni 0) s)) s0
def z5Z (φ : Nat) : List D → Option D :=
fun as =>
(fun (s : LS) =>
 u1 as fun b c =>
 u0 c (
 kLen b s fun d s =>
 kEql d (ni 0) fun e =>
 z5 e
(retK false s (.tree [] 0 true) some)
(kLen b s fun f s =>
 kSub f (ni 1) fun g =>
 z1 3 s b g fun h s =>
 z3 3 s h fun i s =>
 isoK (z2r φ) [i] s fun k s =>
 isoK (z21 φ) [b, k] s fun l s =>
 retK false s l some))) s0
def z8B (φ : Nat) : List D → Option D :=
fun as =>
(fun (s : LS) =>
 u1 as fun e f =>
 u1 f fun g h =>
 u0 h (
 lp (fun (_ _ : D) (_ : LS) => none) (fun (i : D → D → LS → Rs) (c b : D) (s : LS) =>
 kLen b s fun k s =>
 kGtr k (ni 0) fun l =>
 z5 l
(isoK (z1g φ) [c, b] s fun d s =>
 kExt d 0 s fun u s =>
 kExt d 1 s fun m s =>
 isoK (z5Z φ) [b] s fun n s =>
 isoK (z5Z φ) [m] s fun o s =>
 i n o s)
(isoK (z5Z φ) [c] s fun p s =>
 retK false s p some)) φ e g s)) s0
def z2I (φ : Nat) : List D → Option D :=
fun as =>
(fun (s : LS) =>
 u1 as fun f g =>
 u0 g (
 lp (fun (_ _ _ : D) (_ : LS) => none) (fun (h : D → D → D → LS → Rs) (d e c : D) (s : LS) =>
 kLen d s fun i s =>
 kLss c i fun k =>
 z5 k
(z1 3 s d c fun l s =>
 z3 3 s l fun m s =>
 isoK (zP φ) [c] s fun o s =>
 isoK (z1G φ) [m, o] s fun p s =>
 kBsl 1 [(.b false), (.n 0), (.n 0)] [(0, 3, p)] s fun u s =>
 kApp 3 40 s e u fun v s =>
 kAdd c (ni 1) fun w =>
 h d v w s)
(isoK (z11 φ) [e] s fun y s =>
 retK false s y some)) φ f (.tree [] 0 true) (ni 1) s)) s0
def z9g (φ : Nat) : List D → Option D :=
fun as =>
(fun (s : LS) =>
 u1 as fun d w =>
 u0 w (
 isoK (z2I φ) [d] s fun h s =>
 isoK (z8B φ) [d, h] s fun i s =>
 isoK (z1g φ) [d, i] s fun k s =>
 kExt k 0 s fun l s =>
 kExt k 1 s fun W s =>
 isoK (z1g φ) [h, i] s fun m s =>
 kExt m 0 s fun y s =>
 kExt m 1 s fun X s =>
 isoK (z2I φ) [l] s fun z s =>
 isoK (z3N φ) [y, z] s fun A s =>
 lp (fun (_ _ _ _ : D) (_ : LS) => none) (fun (B : D → D → D → D → LS → Rs) (e b f g : D) (s : LS) =>
 kLen b s fun C s =>
 kGtr C (ni 1) fun E =>
 z5 E
(isoK (z8B φ) [b, f] s fun c s =>
 jn (fun (F G H I n : D) (s : LS) =>
 isoK (z1g φ) [G, n] s fun o s =>
 kExt o 0 s fun p s =>
 kExt o 1 s fun Y s =>
 isoK (z1g φ) [H, n] s fun u s =>
 kExt u 0 s fun J s =>
 kExt u 1 s fun Z s =>
 isoK (z2I φ) [p] s fun K s =>
 isoK (z3N φ) [J, K] s fun M s =>
 kAdd I (ni 1) fun N =>
 B F p M N s) fun v =>
 kLen c s fun O s =>
 kGtr O (ni 1) fun P =>
 z5 P
(zI [(.tree [] 0 true), (ni 0)] [(0, 1, c), (1, 1, g)] s fun S s =>
 kBsl 1 [(.tree [] 0 true), (ni 0)] [(0, 2, S)] s fun U s =>
 kApp 2 32 s e U fun V s =>
 v V b f g c s)
(v e b f g c s))
(retK false s e some)) φ (.tree [] 0 true) l A (ni 1) s)) s0
def zf1 (φ : Nat) : List D → Option D :=
fun as =>
(fun (s : LS) =>
 u1 as fun e f =>
 u0 f (
 lp (fun (_ _ : D) (_ : LS) => none) (fun (g : D → D → LS → Rs) (c d : D) (s : LS) =>
 kMul d d fun h =>
 kLeq h c fun i =>
 z5 i
(kRem c d fun k =>
 kEql k (ni 0) fun l =>
 z5 l
(retK false s (.b false) some)
(kAdd d (ni 1) fun m =>
 g c m s))
(kGtr c (ni 1) fun n =>
 retK false s n some)) φ e (ni 2) s)) s0
def z9q (φ : Nat) : List D → Option D :=
fun as =>
(fun (s : LS) =>
 u1 as fun d e =>
 u0 e (
 isoK z85 [d] s fun c s =>
 kLen c s fun f s =>
 kGtr f (ni 1) fun g =>
 z5 g
(retK false s (.tup [(.i .u64 (.ofNat 0)), (.b false)]) some)
(kLen c s fun h s =>
 kEql h (ni 0) fun k =>
 z5 k
(retK false s (.tup [(.i .u64 (.ofNat 0)), (.b true)]) some)
(z1 1 s c (ni 0) fun l s =>
 z4 s l fun m s =>
 retK false s (.tup [m, (.b true)]) some)))) s0
def zaE (φ : Nat) : List D → Option D :=
fun as =>
(fun (s : LS) =>
 u1 as fun n o =>
 u0 o (
 kBox n s fun h s =>
 z7 1 s h fun p s =>
 z4 s p fun u s =>
 isoK (z9q φ) [u] s fun m s =>
 kExt m 0 s fun f s =>
 kExt m 1 s fun v s =>
 kNot v s fun l s =>
 z0 l false (fun k => k f s) s fun w s =>
 z0 l false (fun k => kGtr w (.i .u64 (.ofNat 9223372036854775808)) fun d => k d s) s fun y s =>
 zp l (.b true) y s fun e s =>
 z0 e false (fun k => k f s) s fun z s =>
 z0 e false (fun k => kEql z (.i .u64 (.ofNat 9223372036854775808)) fun d => k d s) s fun A s =>
 z0 e false (fun k => k A s) s fun g s =>
 z0 g true (fun k => z7 0 s h k) s fun B s =>
 z0 g true (fun k => z4 s B k) s fun C s =>
 z0 g true (fun k => kNot C s k) s fun E s =>
 z0 e false (fun k => zp g E (.b false) s k) s fun F s =>
 zp e (.b true) F s fun G s =>
 z5 G
(retK false s (.tup [(ni 0), (.b false)]) some)
(z7 0 s h fun H s =>
 z4 s H fun I s =>
 z5 I
(kS (.neg (.c f)) s fun J s =>
 z2s .i64 J s fun K s =>
 retK false s (.tup [K, (.b true)]) some)
(z2s .i64 f s fun M s =>
 retK false s (.tup [M, (.b true)]) some)))) s0
def zaz (φ : Nat) : List D → Option D :=
fun as =>
(fun (s : LS) =>
 u1 as fun d p =>
 u1 p fun u v =>
 u0 v (
 kLen d s fun f s =>
 z24 1 8 [(ni 0)] s f f fun w s =>
 kLen d s fun y s =>
 lp (fun (_ _ _ _ _ : D) (_ : LS) => none) (fun (z : D → D → D → D → D → LS → Rs) (g e h i c : D) (s : LS) =>
 kLss c i fun A =>
 z5 A
(z1 2 s h c fun B s =>
 z3 2 s B fun C s =>
 z9 [(.b false), (.n 0)] s fun k s =>
 z6 2 s k C fun _ s =>
 z3 2 s k fun E s =>
 isoK (z1q φ) [g] s fun F s =>
 isoK (z2Q φ) [E, F] s fun l s =>
 kExt l 0 s fun G s =>
 kExt l 1 s fun H s =>
 z9 [(.b false), (.n 0)] s fun I s =>
 z9 [(.b false), (.n 0)] s fun m s =>
 z6 2 s I G fun _ s =>
 z6 2 s m H fun _ s =>
 z3 2 s m fun J s =>
 isoK (zaE φ) [J] s fun o s =>
 kExt o 0 s fun K s =>
 kExt o 1 s fun P s =>
 z1 1 s e c fun M s =>
 z6 1 s M K fun _ s =>
 kAdd c (ni 1) fun N =>
 z g e h i N s)
(isoK (z1M φ) [e] s fun O s =>
 retK false s O some)) φ u w d y (ni 0) s)) s0
def zao (φ : Nat) : List D → Option D :=
fun as =>
(fun (s : LS) =>
 u1 as fun k l =>
 u1 l fun c m =>
 u1 m fun n o =>
 u0 o (
 kLen c s fun e s =>
 z24 1 8 [(ni 0)] s e e fun p s =>
 kLen c s fun u s =>
 lp (fun (_ _ _ _ _ _ : D) (_ : LS) => none) (fun (v : D → D → D → D → D → D → LS → Rs) (f g d h i b : D) (s : LS) =>
 kLss b i fun w =>
 z5 w
(z1 1 s h b fun y s =>
 z4 s y fun z s =>
 kMul z g fun A =>
 kRem A f fun B =>
 z1 1 s d b fun C s =>
 z6 1 s C B fun _ s =>
 kAdd b (ni 1) fun E =>
 v f g d h i E s)
(isoK (z1M φ) [d] s fun F s =>
 retK false s F some)) φ k n p c u (ni 0) s)) s0
def z93 (φ : Nat) : List D → Option D :=
fun as =>
(fun (s : LS) =>
 u1 as fun c d =>
 u1 d fun b e =>
 u0 e (
 kLen b s fun f s =>
 kEql f (ni 0) fun g =>
 z5 g
(retK false s (.tree [] 0 true) some)
(kLen b s fun h s =>
 kSub h (ni 1) fun i =>
 z1 1 s b i fun k s =>
 z4 s k fun l s =>
 isoK (z8W φ) [c, l] s fun m s =>
 isoK (zao φ) [c, b, m] s fun n s =>
 retK false s n some))) s0
def z9T (φ : Nat) : List D → Option D :=
fun as =>
(fun (s : LS) =>
 u1 as fun c d =>
 u1 d fun e f =>
 u1 f fun g h =>
 u0 h (
 isoK (z8v φ) [c, e, g] s fun b s =>
 kExt b 0 s fun k s =>
 kExt b 1 s fun i s =>
 retK false s i some)) s0
def zfy (φ : Nat) : List D → Option D :=
fun as =>
(fun (s : LS) =>
 u1 as fun e f =>
 u1 f fun g h =>
 u1 h fun i k =>
 u0 k (
 lp (fun (_ _ _ : D) (_ : LS) => none) (fun (l : D → D → D → LS → Rs) (b d c : D) (s : LS) =>
 kLen c s fun m s =>
 kGtr m (ni 0) fun n =>
 z5 n
(isoK (z9T φ) [b, d, c] s fun o s =>
 l b c o s)
(isoK (z93 φ) [b, d] s fun p s =>
 retK false s p some)) φ e g i s)) s0
def z9n (φ : Nat) : List D → Option D :=
fun as =>
(fun (s : LS) =>
 u1 as fun f g =>
 u1 g fun h i =>
 u0 i (
 lp (fun (_ _ _ _ : D) (_ : LS) => none) (fun (k : D → D → D → D → LS → Rs) (c d e b : D) (s : LS) =>
 kLen d s fun l s =>
 kLss b l fun m =>
 z5 m
(kRem b c fun n =>
 z1 1 s d b fun o s =>
 z4 s o fun p s =>
 kMul n p fun u =>
 kRem u c fun v =>
 kBsl 1 [(ni 0)] [(0, 1, v)] s fun w s =>
 kApp 1 8 s e w fun y s =>
 kAdd b (ni 1) fun z =>
 k c d y z s)
(isoK (z1M φ) [e] s fun A s =>
 retK false s A some)) φ f h (.tree [] 0 true) (ni 1) s)) s0
def z9l (φ : Nat) : List D → Option D :=
fun as =>
(fun (s : LS) =>
 u1 as fun b c =>
 u1 c fun d e =>
 u1 e fun f g =>
 u1 g fun h i =>
 u0 i (
 isoK (zge φ) [b, d, f] s fun k s =>
 isoK (z9T φ) [b, k, h] s fun l s =>
 retK false s l some)) s0
def zdU (φ : Nat) : List D → Option D :=
fun as =>
(fun (s : LS) =>
 u1 as fun h A =>
 u1 A fun B C =>
 u1 C fun u E =>
 u1 E fun k F =>
 u0 F (
 kBsl 1 [(ni 0)] [(0, 1, (ni 1))] s fun G s =>
 isoK (z9T φ) [h, G, k] s fun H s =>
 isoK (z9T φ) [h, B, k] s fun I s =>
 kS (.lens (.c u)) s fun J s =>
 lp (fun (_ _ _ _ _ _ _ : D) (_ : LS) => none) (fun (K : D → D → D → D → D → D → D → LS → Rs) (M N O v P w l : D) (s : LS) =>
 kLss l w fun S =>
 z5 S
(lp (fun (_ _ _ _ _ _ _ _ _ : D) (_ : LS) => none) (fun (U : D → D → D → D → D → D → D → D → D → LS → Rs) (b e d m f n g o p : D) (s : LS) =>
 kGeq g (ni 0) fun V =>
 z5 V
(jn (fun (W X Y Z bb bc bd bf bg : D) (s : LS) =>
 kSub bd (ni 1) fun bh =>
 U W X Y Z bb bc bh bf bg s) fun y =>
 isoK (z9l φ) [b, m, m, d] s fun z s =>
 kS (.index (.c e) (.c n)) s fun bi s =>
 kShr bi g fun bk =>
 kAnd bk (.i .u8 (.ofNat 1)) fun bl =>
 kEql bl (.i .u8 (.ofNat 1)) fun bm =>
 z5 bm
(isoK (z9l φ) [b, z, f, d] s fun bn s =>
 y b e d bn f n g o p s)
(y b e d z f n g o p s))
(kAdd p (ni 1) fun bo =>
 K b e d m f o bo s)) φ M N O v P l (ni 7) w l s)
(retK false s v some)) φ h u k H I J (ni 0) s)) s0
def zf4 (φ : Nat) : List D → Option D :=
fun as =>
(fun (s : LS) =>
 u1 as fun b d =>
 u1 d fun e f =>
 u1 f fun g h =>
 u0 h (
 kShr b (.i .u64 (.ofNat 8)) fun k =>
 z2s .u8 k s fun l s =>
 z2s .u8 b s fun m s =>
 kBsl 2 [(.i .u8 (.ofNat 0))] [(0, 1, l), (1, 1, m)] s fun n s =>
 kS (.b2s (.c n)) s fun o s =>
 isoK (zdU φ) [b, e, o, g] s fun p s =>
 retK false s p some)) s0
def zdR (φ : Nat) : List D → LS → (D → LS → Rs) → Rs :=
fun as s k =>
 u1 as fun bF bG =>
 u1 bG fun Y bH =>
 u0 bH (
 kLen Y s fun w s =>
 z24 1 8 [(ni 0)] s w w fun bI s =>
 lp (fun (_ _ _ _ _ _ _ : D) (_ : LS) => none) (fun (bJ : D → D → D → D → D → D → D → LS → Rs) (bK bM bN J Z bb y : D) (s : LS) =>
 kLss y bb fun bO =>
 z5 bO
(jn (fun (bP bS bU bV bW bX bY : D) (s : LS) =>
 kAdd bY (ni 1) fun bZ =>
 bJ bP bS bU bV bW bX bZ s) fun bc =>
 z1 1 s J y fun cb s =>
 z6 1 s cb (.i .i64 (.negSucc 0)) fun _ s =>
 lp (fun (_ _ _ _ _ _ _ _ _ _ : D) (_ : LS) => none) (fun (cc : D → D → D → D → D → D → D → D → D → D → LS → Rs) (h c f z e l m n A B : D) (s : LS) =>
 kLss n f fun K =>
 z0 K true (fun k => k m s) s fun cd s =>
 z0 K true (fun k => kLss cd (ni 0) fun d => k d s) s fun ce s =>
 zp K ce (.b false) s fun cf s =>
 z5 cf
(jn (fun (cg ch ci ck cl cm cn co cp cu : D) (s : LS) =>
 kAdd co (ni 1) fun cv =>
 cc cg ch ci ck cl cm cn cv cp cu s) fun bd =>
 z1 1 s c n fun cw s =>
 z4 s cw fun cy s =>
 z1 1 s cy l fun cz s =>
 z4 s cz fun cA s =>
 kNeq cA (ni 0) fun cB =>
 z5 cB
(bd h c f z e l n n A B s)
(bd h c f z e l m n A B s))
(kLss m (ni 0) fun cC =>
 z5 cC
(bc h c f z e A B s)
(z1 1 s c m fun cE s =>
 z4 s cE fun cF s =>
 z1 1 s c e fun cG s =>
 z4 s cG fun cH s =>
 z1 1 s c e fun cI s =>
 z6 1 s cI cF fun _ s =>
 z1 1 s c m fun cJ s =>
 z6 1 s cJ cH fun _ s =>
 z1 1 s c e fun cK s =>
 z4 s cK fun cM s =>
 z1 1 s cM l fun cN s =>
 z4 s cN fun cO s =>
 isoK (z8W φ) [h, cO] s fun cP s =>
 lp (fun (_ _ _ _ _ _ _ _ _ _ _ : D) (_ : LS) => none) (fun (cS : D → D → D → D → D → D → D → D → D → D → D → LS → Rs) (M o bf bg C bh bi bk bl bm E : D) (s : LS) =>
 kLss E bm fun cU =>
 z5 cU
(z1 1 s o C fun cV s =>
 z4 s cV fun cW s =>
 z1 1 s o C fun cX s =>
 z4 s cX fun cY s =>
 z1 1 s cY E fun cZ s =>
 z4 s cZ fun db s =>
 kMul db bi fun dc =>
 kRem dc M fun dd =>
 z1 1 s cW E fun de s =>
 z6 1 s de dd fun _ s =>
 kAdd E (ni 1) fun df =>
 cS M o bf bg C bh bi bk bl bm df s)
(kLen o s fun dg s =>
 lp (fun (_ _ _ _ _ _ _ _ _ _ : D) (_ : LS) => none) (fun (dh : D → D → D → D → D → D → D → D → D → D → LS → Rs) (N F G H p I O P S g : D) (s : LS) =>
 kLss g S fun di =>
 z5 di
(jn (fun (dk dl dm dn dp du dv dw dy dz : D) (s : LS) =>
 kAdd dz (ni 1) fun dA =>
 dh dk dl dm dn dp du dv dw dy dA s) fun bn =>
 z1 1 s F g fun dB s =>
 z4 s dB fun dC s =>
 z1 1 s dC I fun dE s =>
 z4 s dE fun bo s =>
 kEql g p fun U =>
 z0 U false (fun k => k bo s) s fun dF s =>
 z0 U false (fun k => kEql dF (ni 0) fun d => k d s) s fun dG s =>
 zp U (.b true) dG s fun dH s =>
 z5 dH
(bn N F G H p I O P S g s)
(lp (fun (_ _ _ _ _ _ _ _ _ _ _ _ _ _ : D) (_ : LS) => none) (fun (dI : D → D → D → D → D → D → D → D → D → D → D → D → D → D → LS → Rs) (V u bp bu W bv X bw bz bA bB bC bE v : D) (s : LS) =>
 kLss v bE fun dJ =>
 z5 dJ
(z1 1 s u X fun dK s =>
 z4 s dK fun dM s =>
 z1 1 s u X fun dN s =>
 z4 s dN fun dO s =>
 z1 1 s dO v fun dP s =>
 z4 s dP fun dS s =>
 z1 1 s u W fun dU s =>
 z4 s dU fun dV s =>
 z1 1 s dV v fun dW s =>
 z4 s dW fun dX s =>
 kMul bw dX fun dY =>
 kSub dS dY fun dZ =>
 isoK (z6S φ) [V, dZ] s fun eb s =>
 z1 1 s dM v fun ec s =>
 z6 1 s ec eb fun _ s =>
 kAdd v (ni 1) fun ed =>
 dI V u bp bu W bv X bw bz bA bB bC bE ed s)
(bn V u bp bu W bv bz bA bB bC s)) φ N F G H p I g bo O P S g G (ni 0) s))
(z1 1 s H I fun ee s =>
 z6 1 s ee p fun _ s =>
 kAdd p (ni 1) fun ef =>
 bc N F G H ef O P s)) φ M o bf bg C bh bk bl dg (ni 0) s)) φ h c f z e l cP A B f (ni 0) s))) φ bK bM bN J Z y (.i .i64 (.negSucc 0)) Z bb y s)
(k J s)) φ bF Y w bI (ni 0) w (ni 0) s)
def zn (φ : Nat) : List D → Option D :=
fun as =>
(fun (s : LS) =>
 u1 as fun z bl =>
 u1 bl fun l bm =>
 u0 bm (
 kLen l s fun bn s =>
 kSub bn (ni 1) fun m =>
 kBsl 2 [(ni 0)] [(0, 1, (ni 0)), (1, 1, (ni 1))] s fun bo s =>
 isoK (z9T φ) [z, bo, l] s fun bp s =>
 isoK (zf4 φ) [z, bp, l] s fun bu s =>
 z24 1 24 [(.tree [] 0 true)] s m m fun bv s =>
 kBsl 1 [(ni 0)] [(0, 1, (ni 1))] s fun bw s =>
 lp (fun (_ _ _ _ _ _ _ _ : D) (_ : LS) => none) (fun (bz : D → D → D → D → D → D → D → D → LS → Rs) (n P d S e U V b : D) (s : LS) =>
 kLss b V fun bA =>
 z5 bA
(z24 1 8 [(ni 0)] s d d fun bB s =>
 z1 1 s e b fun bC s =>
 z6 1 s bC bB fun _ s =>
 z1 1 s e b fun bE s =>
 z4 s bE fun bF s =>
 zmD 1 s bF U fun dy s =>
 z1 1 s e b fun bG s =>
 z4 s bG fun bH s =>
 z1 1 s e b fun bI s =>
 z4 s bI fun bJ s =>
 z1 1 s bJ b fun bK s =>
 z4 s bK fun bM s =>
 kSub bM (ni 1) fun bN =>
 isoK (z6S φ) [n, bN] s fun bO s =>
 z1 1 s bH b fun bP s =>
 z6 1 s bP bO fun _ s =>
 isoK (z9l φ) [n, U, S, P] s fun bS s =>
 kAdd b (ni 1) fun bU =>
 bz n P d S e bS V bU s)
(z24 1 24 [(.tree [] 0 true)] s d d fun W s =>
 kLen W s fun bV s =>
 lp (fun (_ _ _ _ _ _ : D) (_ : LS) => none) (fun (bW : D → D → D → D → D → D → LS → Rs) (A f bX o X p : D) (s : LS) =>
 kLss p X fun bY =>
 z5 bY
(z24 1 8 [(ni 0)] s f f fun bZ s =>
 z1 1 s o p fun cb s =>
 z6 1 s cb bZ fun _ s =>
 lp (fun (_ _ _ _ _ _ _ _ _ : D) (_ : LS) => none) (fun (cc : D → D → D → D → D → D → D → D → D → LS → Rs) (Y Z B C E bb bc bd u : D) (s : LS) =>
 kLss u bd fun cd =>
 z5 cd
(z1 1 s C E fun ce s =>
 z4 s ce fun cf s =>
 z1 1 s B u fun cg s =>
 z4 s cg fun ch s =>
 z1 1 s ch E fun ci s =>
 z4 s ci fun ck s =>
 z1 1 s cf u fun cl s =>
 z6 1 s cl ck fun _ s =>
 kAdd u (ni 1) fun cm =>
 cc Y Z B C E bb bc bd cm s)
(kAdd bc (ni 1) fun cn =>
 bW Y Z B C bb cn s)) φ A f bX o p X p f (ni 0) s)
((zdR φ) [A, o] s fun co s =>
 lp (fun (_ _ _ _ _ _ _ : D) (_ : LS) => none) (fun (cp : D → D → D → D → D → D → D → LS → Rs) (bf i bg F G H g : D) (s : LS) =>
 kLss g H fun cu =>
 z5 cu
(jn (fun (cv cw cy cz cA cB cC : D) (s : LS) =>
 kAdd cC (ni 1) fun cE =>
 cp cv cw cy cz cA cB cE s) fun bh =>
 z1 1 s F g fun cF s =>
 z4 s cF fun cG s =>
 kGeq cG (ni 0) fun cH =>
 z5 cH
(bh bf i bg F G H g s)
(z24 1 8 [(ni 0)] s i i fun bi s =>
 z1 1 s bi g fun cI s =>
 z6 1 s cI (ni 1) fun _ s =>
 lp (fun (_ _ _ _ _ _ _ _ _ _ _ : D) (_ : LS) => none) (fun (cJ : D → D → D → D → D → D → D → D → D → D → D → LS → Rs) (v I w k J K y M N O h : D) (s : LS) =>
 kLss h O fun cK =>
 z5 cK
(jn (fun (cM cN cO cP cS cU cV cW cX cY cZ : D) (s : LS) =>
 kAdd cZ (ni 1) fun db =>
 cJ cM cN cO cP cS cU cV cW cX cY db s) fun bk =>
 z1 1 s k h fun dc s =>
 z4 s dc fun dd s =>
 kGeq dd (ni 0) fun de =>
 z5 de
(z1 1 s k h fun df s =>
 z4 s df fun dg s =>
 z1 1 s w dg fun dh s =>
 z4 s dh fun di s =>
 z1 1 s di K fun dk s =>
 z4 s dk fun dl s =>
 kS (.neg (.c dl)) s fun dm s =>
 isoK (z6S φ) [v, dm] s fun dn s =>
 z1 1 s y h fun dp s =>
 z6 1 s dp dn fun _ s =>
 bk v I w k J K y M N O h s)
(bk v I w k J K y M N O h s))
(isoK (z1M φ) [y] s fun du s =>
 kBsl 1 [(.tree [] 0 true)] [(0, 1, du)] s fun dv s =>
 kApp 1 24 s J dv fun dw s =>
 bh v I w k dw M N s)) φ bf i bg F G g bi H g i (ni 0) s))
(retK false s G some)) φ A f o co (.tree [] 0 true) f (ni 0) s)) φ n d e W bV (ni 0) s)) φ z l m bu bv bw m (ni 0) s)) s0
def zen : List D := [(ni 3), (ti [1,0,0,0,0,0,0,0,0,0,0,0,0,0,1] true)]
def ze8 : D := (.tree [(ti [1] true), (ti [0,0,2,0,1,0,2,0,1,0,2,0,1] true), (ti [0,2,0,2,0,1,0,0,0,2,0,1,0,1] true)] 3 false)
def zem : List D := [(ni 5), (ti [3,0,0,0,0,0,0,0,0,0,0,0,0,0,1] true)]
def ze7 : D := (.tree [(ti [1] true), (ti [0,0,3,0,1,0,2,0,4,0,3,0,1] true), (ti [0,1,0,3,0,1,0,0,0,1,0,2,0,1] true)] 3 false)
def zel : List D := [(ni 11), (ti [9,0,0,0,0,0,0,0,0,0,0,0,0,0,1] true)]
def ze6 : D := (.tree [(ti [1] true), (ti [0,0,6,0,9,0,0,0,1] true), (ti [0,0,0,0,0,0,6,0,0,0,8,0,1] true)] 3 false)
def zek : List D := [(ni 13), (ti [11,0,0,0,0,0,0,0,0,0,0,0,0,0,1] true)]
def ze5 : D := (.tree [(ti [1] true), (ti [0,0,0,0,0,0,11,0,1] true), (ti [0,0,0,0,0,9,0,0,0,1] true), (ti [0,0,0,0,5,0,0,0,0,0,1] true), (ti [0,0,0,10,0,0,0,0,0,0,0,1] true), (ti [0,0,7,0,0,0,0,0,0,0,0,0,1] true), (ti [0,1,0,0,0,0,0,0,0,0,0,0,0,1] true)] 7 false)
def zej : List D := [(ni 17), (ti [15,0,0,0,0,0,0,0,0,0,0,0,0,0,1] true)]
def ze4 : D := (.tree [(ti [1] true), (ti [0,0,0,0,0,0,0,1] true), (ti [0,0,8,0,16,0,15,0,13,0,9,0,1] true), (ti [0,4,0,8,0,16,0,0,0,13,0,9,0,1] true)] 4 false)
def zei : List D := [(ni 3), (ti [1,0,0,0,0,0,0,0,0,0,0,0,0,0,0,0,0,1] true)]
def ze3 : D := (.tree [(ti [1] true), (ti [0,2,1,2,1,2,1,2,1,2,1,2,1,2,1,2,1] true)] 2 false)
def zeh : List D := [(ni 5), (ti [3,0,0,0,0,0,0,0,0,0,0,0,0,0,0,0,0,1] true)]
def ze2 : D := (.tree [(ti [1] true), (ti [0,3,4,2,1,3,4,2,1,3,4,2,1,3,4,2,1] true)] 2 false)
def zeg : List D := [(ni 7), (ti [5,0,0,0,0,0,0,0,0,0,0,0,0,0,0,0,0,1] true)]
def ze1 : D := (.tree [(ti [1] true), (ti [0,1,2,4,1,2,4,1,2,4,1,2,4,1,2,4,1] true)] 2 false)
def zef : List D := [(ni 11), (ti [9,0,0,0,0,0,0,0,0,0,0,0,0,0,0,0,0,1] true)]
def ze0 : D := (.tree [(ti [1] true), (ti [0,10,4,6,9,8,1,7,5,2,3,10,4,6,9,8,1] true)] 2 false)
def zee : List D := [(ni 13), (ti [11,0,0,0,0,0,0,0,0,0,0,0,0,0,0,0,0,1] true)]
def zdZ : D := (.tree [(ti [1] true), (ti [0,0,0,0,0,0,2,9,0,0,6,1] true), (ti [0,0,0,11,0,5,0,0,0,0,0,0,10,0,1] true), (ti [0,0,6,0,0,0,0,0,7,12,0,0,0,0,0,1] true), (ti [0,8,0,0,1,0,0,0,0,0,0,0,0,8,0,0,1] true)] 5 false)
def zdB : List D := [(ni 3), (ti [1,0,0,0,0,0,0,0,0,0,0,0,0,0,0,0,0,0,0,1] true)]
def zd8 : D := (.tree [(ti [1] true), (ti [0,2,1,2,1,2,1,2,1,2,1,2,1,2,1,2,1,2,1] true)] 2 false)
def zdA : List D := [(ni 5), (ti [3,0,0,0,0,0,0,0,0,0,0,0,0,0,0,0,0,0,0,1] true)]
def zd7 : D := (.tree [(ti [1] true), (ti [0,1,0,0,3,1,2,4,0,1,0,4,0,0,0,0,3,1] true), (ti [0,0,1,2,0,0,0,0,4,0,1,0,4,3,1,2,0,0,1] true)] 3 false)
def zdz : List D := [(ni 7), (ti [5,0,0,0,0,0,0,0,0,0,0,0,0,0,0,0,0,0,0,1] true)]
def zd6 : D := (.tree [(ti [1] true), (ti [0,0,0,0,4,0,1,0,0,1] true), (ti [0,2,0,0,0,0,0,2,0,0,0,1] true), (ti [0,0,1,4,0,0,0,0,0,0,0,0,0,0,1] true), (ti [0,0,0,0,0,0,0,0,0,0,4,0,0,4,0,1] true), (ti [0,0,0,0,0,1,0,0,0,0,0,0,0,0,0,0,2,1] true), (ti [0,0,0,0,0,0,0,0,2,0,0,0,1,0,0,0,0,0,1] true)] 7 false)
def zdy : List D := [(ni 11), (ti [9,0,0,0,0,0,0,0,0,0,0,0,0,0,0,0,0,0,0,1] true)]
def zd5 : D := (.tree [(ti [1] true), (ti [0,0,0,0,10,0,7,0,0,1] true), (ti [0,1,0,0,0,0,0,9,0,0,0,1] true), (ti [0,0,3,6,0,0,0,0,0,0,0,0,0,0,1] true), (ti [0,0,0,0,0,0,0,0,0,0,10,0,0,3,0,1] true), (ti [0,0,0,0,0,3,0,0,0,0,0,0,0,0,0,0,6,1] true), (ti [0,0,0,0,0,0,0,0,1,0,0,0,5,0,0,0,0,0,1] true)] 7 false)
def zdx : List D := [(ni 13), (ti [11,0,0,0,0,0,0,0,0,0,0,0,0,0,0,0,0,0,0,1] true)]
def zd4 : D := (.tree [(ti [1] true), (ti [0,7,3,5,4,11,1,6,10,8,9,2,12,7,3,5,4,11,1] true)] 2 false)
def zdw : List D := [(ni 3), (ti [1,0,0,0,0,0,0,0,0,0,0,0,0,0,0,0,0,0,0,0,1] true)]
def zd3 : D := (.tree [(ti [1] true), (ti [0,1,0,1,0,0,0,2,0,1] true), (ti [0,0,0,0,0,1,0,0,0,0,0,0,0,0,0,1] true), (ti [0,0,0,0,2,0,0,0,1,0,0,0,2,0,0,0,1] true), (ti [0,0,1,0,0,0,1,0,0,0,0,0,0,0,1,0,0,0,1] true), (ti [0,0,0,0,0,0,0,0,0,0,0,1,0,2,0,0,0,1,0,1] true)] 6 false)
def zdv : List D := [(ni 7), (ti [5,0,0,0,0,0,0,0,0,0,0,0,0,0,0,0,0,0,0,0,1] true)]
def zd2 : D := (.tree [(ti [1] true), (ti [0,2,0,1,0,0,0,2,0,1] true), (ti [0,0,0,0,0,0,0,0,0,0,1] true), (ti [0,0,0,0,0,4,0,0,0,0,0,0,0,0,0,1] true), (ti [0,0,0,0,1,0,0,0,2,0,0,0,4,0,0,0,1] true), (ti [0,0,4,0,0,0,1,0,0,0,0,0,0,0,4,0,0,0,1] true), (ti [0,0,0,0,0,0,0,0,0,0,0,2,0,1,0,0,0,2,0,1] true)] 7 false)
def zdu : List D := [(ni 11), (ti [9,0,0,0,0,0,0,0,0,0,0,0,0,0,0,0,0,0,0,0,1] true)]
def zd1 : D := (.tree [(ti [1] true), (ti [0,0,0,0,0,3,0,0,0,0,0,0,0,0,0,1] true)] 2 false)
def zdt : List D := [(ni 13), (ti [11,0,0,0,0,0,0,0,0,0,0,0,0,0,0,0,0,0,0,0,1] true)]
def zd0 : D := (.tree [(ti [1] true), (ti [0,0,0,0,8,0,0,0,10,0,0,0,6,0,0,0,1] true), (ti [0,7,0,0,0,0,0,0,0,11,0,0,0,7,0,0,0,1] true), (ti [0,0,9,0,0,0,5,0,0,0,0,0,0,0,7,0,0,0,1] true), (ti [0,0,0,7,0,0,0,1,0,0,0,3,0,0,0,0,0,0,0,1] true)] 5 false)
def zds : List D := [(ni 17), (ti [15,0,0,0,0,0,0,0,0,0,0,0,0,0,0,0,0,0,0,0,1] true)]
def zcZ : D := (.tree [(ti [1] true), (ti [0,0,0,0,0,0,0,0,0,0,1] true), (ti [0,0,0,0,9,0,0,0,4,0,0,0,15,0,0,0,1] true), (ti [0,1,0,0,0,0,0,0,0,13,0,0,0,15,0,0,0,1] true), (ti [0,0,16,0,0,0,9,0,0,0,0,0,0,0,15,0,0,0,1] true), (ti [0,0,0,1,0,0,0,8,0,0,0,4,0,0,0,0,0,0,0,1] true)] 6 false)
def zdr : List D := [(ni 5), (ti [3,0,0,0,0,0,0,0,0,0,0,0,0,0,0,0,0,0,0,0,0,1] true)]
def zcY : D := (.tree [(ti [1] true), (ti [0,0,0,0,0,0,0,3,0,0,0,0,0,0,1] true), (ti [0,0,0,3,0,0,1,0,0,2,0,0,4,0,0,3,0,0,1] true), (ti [0,0,2,0,0,0,0,0,3,0,2,1,0,4,0,0,0,0,0,1] true), (ti [0,3,0,0,1,3,0,0,0,0,0,0,0,0,0,0,1,3,0,0,1] true)] 5 false)
def zdq : List D := [(ni 11), (ti [9,0,0,0,0,0,0,0,0,0,0,0,0,0,0,0,0,0,0,0,0,1] true)]
def zcX : D := (.tree [(ti [1] true), (ti [0,0,0,6,0,0,9,0,0,0,0,0,1] true), (ti [0,0,0,0,0,0,0,7,0,0,0,0,0,0,1] true), (ti [0,10,5,0,4,0,0,0,3,0,0,10,0,0,0,0,1] true), (ti [0,0,0,0,0,0,0,0,0,6,0,0,0,0,0,8,0,0,1] true), (ti [0,0,0,0,0,10,0,0,0,0,1,0,0,7,0,0,0,8,0,2,1] true)] 6 false)
def zdp : List D := [(ni 13), (ti [11,0,0,0,0,0,0,0,0,0,0,0,0,0,0,0,0,0,0,0,0,1] true)]
def zcW : D := (.tree [(ti [1] true), (ti [0,0,0,0,0,0,0,0,0,11,0,0,1] true), (ti [0,0,0,0,0,0,5,0,0,0,0,0,0,0,0,1] true), (ti [0,0,0,7,0,0,0,0,0,0,0,0,0,0,0,0,0,0,1] true)] 4 false)
def zdo : List D := [(ni 17), (ti [15,0,0,0,0,0,0,0,0,0,0,0,0,0,0,0,0,0,0,0,0,1] true)]
def zcV : D := (.tree [(ti [1] true), (ti [0,0,0,0,0,0,0,8,0,0,0,0,0,0,1] true), (ti [0,0,0,8,0,0,16,0,0,15,0,0,13,0,0,9,0,0,1] true), (ti [0,0,15,0,0,0,0,0,9,0,15,1,0,13,0,0,0,0,0,1] true), (ti [0,9,0,0,1,8,0,0,0,0,0,0,0,0,0,0,16,9,0,0,1] true)] 5 false)
def zdn : List D := [(ni 19), (ti [17,0,0,0,0,0,0,0,0,0,0,0,0,0,0,0,0,0,0,0,0,1] true)]
def zcU : D := (.tree [(ti [1] true), (ti [0,0,0,15,0,0,5,0,0,8,0,0,9,0,0,3,0,0,1] true), (ti [0,1,0,0,10,0,0,0,0,0,18,0,0,4,0,0,3,0,0,1] true), (ti [0,0,1,0,0,13,0,0,5,0,0,18,0,0,0,0,0,2,0,0,1] true)] 4 false)
def zdm : List D := [(ni 3), (ti [1,0,0,0,0,0,0,0,0,0,0,0,0,0,0,0,0,0,0,0,0,0,1] true)]
def zcT : D := (.tree [(ti [1] true), (ti [0,0,1,0,0,0,1,0,2,0,1,0,0,0,0,0,0,0,1] true), (ti [0,0,0,0,1,0,0,0,0,0,0,0,1,0,2,0,1,0,0,0,1] true)] 3 false)
def zdl : List D := [(ni 5), (ti [3,0,0,0,0,0,0,0,0,0,0,0,0,0,0,0,0,0,0,0,0,0,1] true)]
def zcS : D := (.tree [(ti [1] true), (ti [0,0,1,0,0,0,4,0,3,0,1,0,0,0,0,0,0,0,1] true), (ti [0,0,0,0,1,0,0,0,0,0,0,0,1,0,2,0,4,0,0,0,1] true)] 3 false)
def zdk : List D := [(ni 7), (ti [5,0,0,0,0,0,0,0,0,0,0,0,0,0,0,0,0,0,0,0,0,0,1] true)]
def zcR : D := (.tree [(ti [1] true), (ti [0,0,0,0,0,0,0,0,0,0,0,1] true), (ti [0,0,1,0,2,0,4,0,1,0,2,0,4,0,1,0,2,0,4,0,1] true), (ti [0,4,0,1,0,2,0,4,0,1,0,0,0,4,0,1,0,2,0,4,0,1] true)] 4 false)
def zdj : List D := [(ni 13), (ti [11,0,0,0,0,0,0,0,0,0,0,0,0,0,0,0,0,0,0,0,0,0,1] true)]
def zcQ : D := (.tree [(ti [1] true), (ti [0,0,8,0,3,0,6,0,12,0,11,0,9,0,5,0,10,0,7,0,1] true), (ti [0,9,0,5,0,10,0,6,0,1,0,0,0,9,0,8,0,10,0,7,0,1] true)] 3 false)
def zdi : List D := [(ni 17), (ti [15,0,0,0,0,0,0,0,0,0,0,0,0,0,0,0,0,0,0,0,0,0,1] true)]
def zcP : D := (.tree [(ti [1] true), (ti [0,0,0,0,0,0,0,0,0,0,0,1] true), (ti [0,0,8,0,1,0,15,0,4,0,9,0,16,0,2,0,13,0,8,0,1] true), (ti [0,13,0,8,0,1,0,15,0,4,0,0,0,16,0,2,0,13,0,8,0,1] true)] 4 false)
def zdh : List D := [(ni 3), (ti [1,0,0,0,0,0,0,0,0,0,0,0,0,0,0,0,0,0,0,0,0,0,0,1] true)]
def zcO : D := (.tree [(ti [1] true), (ti [0,2,1,2,1,0,1,0,1,2,0,0,1,2,0,0,1,0,1] true), (ti [0,0,0,0,0,2,0,2,0,0,1,2,0,0,1,2,0,2,0,2,1,2,1] true)] 3 false)
def zdg : List D := [(ni 5), (ti [3,0,0,0,0,0,0,0,0,0,0,0,0,0,0,0,0,0,0,0,0,0,0,1] true)]
def zcN : D := (.tree [(ti [1] true), (ti [0,3,1,2,4,3,1,2,4,3,1,2,4,3,1,2,4,3,1,2,4,3,1] true)] 2 false)
def zdf : List D := [(ni 7), (ti [5,0,0,0,0,0,0,0,0,0,0,0,0,0,0,0,0,0,0,0,0,0,0,1] true)]
def zcM : D := (.tree [(ti [1] true), (ti [0,1,2,4,1,2,4,1,2,4,1,2,4,1,2,4,1,2,4,1,2,4,1] true)] 2 false)
def zde : List D := [(ni 11), (ti [9,0,0,0,0,0,0,0,0,0,0,0,0,0,0,0,0,0,0,0,0,0,0,1] true)]
def zcL : D := (.tree [(ti [1] true), (ti [0,7,1,8,9,6,4,10,3,2,5,7,1,8,9,6,4,10,3,2,5,7,1] true)] 2 false)
def zdd : List D := [(ni 13), (ti [11,0,0,0,0,0,0,0,0,0,0,0,0,0,0,0,0,0,0,0,0,0,0,1] true)]
def zcK : D := (.tree [(ti [1] true), (ti [0,11,9,5,10,0,1,0,4,8,0,0,12,11,0,0,10,0,1] true), (ti [0,0,0,0,0,11,0,5,0,0,1,2,0,0,3,6,0,11,0,5,10,7,1] true)] 3 false)
def z9s : List (List D × D) := [(zen, ze8), (zem, ze7), (zel, ze6), (zek, ze5), (zej, ze4), (zei, ze3), (zeh, ze2), (zeg, ze1), (zef, ze0), (zee, zdZ), (zdB, zd8), (zdA, zd7), (zdz, zd6), (zdy, zd5), (zdx, zd4), (zdw, zd3), (zdv, zd2), (zdu, zd1), (zdt, zd0), (zds, zcZ), (zdr, zcY), (zdq, zcX), (zdp, zcW), (zdo, zcV), (zdn, zcU), (zdm, zcT), (zdl, zcS), (zdk, zcR), (zdj, zcQ), (zdi, zcP), (zdh, zcO), (zdg, zcN), (zdf, zcM), (zde, zcL), (zdd, zcK)]
def zio (φ : Nat) : List D → Option D :=
fun as =>
(fun (s : LS) =>
 u1 as fun b d =>
 u1 d fun c e =>
 u0 e (
 kLen b s fun f s =>
 kLss c f fun g =>
 z5 g
(z1 1 s b c fun h s =>
 z4 s h fun i s =>
 retK false s i some)
(retK false s (ni 0) some))) s0
def zew (φ : Nat) : List D → Option D :=
fun as =>
(fun (s : LS) =>
 u1 as fun n o =>
 u1 o fun f p =>
 u1 p fun g u =>
 u0 u (
 kLen f s fun v s =>
 kLen g s fun w s =>
 kS (.max (.c v) (.c w)) s fun h s =>
 z24 1 8 [(ni 0)] s h h fun i s =>
 kLen i s fun y s =>
 lp (fun (_ _ _ _ _ _ : D) (_ : LS) => none) (fun (z : D → D → D → D → D → D → LS → Rs) (d k l e m b : D) (s : LS) =>
 kLss b m fun A =>
 z5 A
(isoK (zio φ) [k, b] s fun B s =>
 kAdd B d fun C =>
 isoK (zio φ) [l, b] s fun E s =>
 kSub C E fun F =>
 kRem F d fun G =>
 z1 1 s e b fun H s =>
 z6 1 s H G fun _ s =>
 kAdd b (ni 1) fun I =>
 z d k l e m I s)
(isoK (z1M φ) [e] s fun J s =>
 retK false s J some)) φ n f g i y (ni 0) s)) s0
def z9Z (φ : Nat) : List D → Option D :=
fun as =>
(fun (s : LS) =>
 u1 as fun I Y =>
 u1 Y fun J Z =>
 u0 Z (
 isoK (tabM z9s (zn φ)) [I, J] s fun o s =>
 kBsl 1 [(.tree [] 0 true)] [(0, 1, J)] s fun bb s =>
 kLen o s fun bc s =>
 lp (fun (_ _ _ _ _ _ : D) (_ : LS) => none) (fun (bd : D → D → D → D → D → D → LS → Rs) (K M p u v i : D) (s : LS) =>
 kLss i v fun bf =>
 z5 bf
(jn (fun (bg bh bi bk bl bm : D) (s : LS) =>
 kAdd bm (ni 1) fun bn =>
 bd bg bh bi bk bl bn s) fun N =>
 z1 1 s u i fun bo s =>
 z4 s bo fun O s =>
 kLen O s fun bp s =>
 kLss bp (ni 2) fun bu =>
 z5 bu
(N K M p u v i s)
(lp (fun (_ _ _ _ _ _ _ _ : D) (_ : LS) => none) (fun (bv : D → D → D → D → D → D → D → D → LS → Rs) (l w m P y S U V : D) (s : LS) =>
 kLss y l fun g =>
 z0 g true (fun k => k m s) s fun bw s =>
 z0 g true (fun k => kLen bw s k) s fun bz s =>
 z0 g true (fun k => k w s) s fun bA s =>
 z0 g true (fun k => kLen bA s k) s fun bB s =>
 z0 g true (fun k => kLss bz bB fun d => k d s) s fun bC s =>
 zp g bC (.b false) s fun bE s =>
 z5 bE
(kBsl 1 [(ni 0)] [(0, 1, y)] s fun bF s =>
 isoK (z1M φ) [bF] s fun bG s =>
 isoK (zew φ) [l, P, bG] s fun bH s =>
 kLen m s fun bI s =>
 lp (fun (_ _ _ _ _ _ _ _ _ _ _ : D) (_ : LS) => none) (fun (bJ : D → D → D → D → D → D → D → D → D → D → D → LS → Rs) (h z e A B C E F G H f : D) (s : LS) =>
 kLss f H fun bK =>
 z5 bK
(jn (fun (bM bN bO bP bS bU bV bW bX bY bZ : D) (s : LS) =>
 kAdd bZ (ni 1) fun cb =>
 bJ bM bN bO bP bS bU bV bW bX bY cb s) fun W =>
 z1 1 s e f fun cc s =>
 z4 s cc fun cd s =>
 isoK (zfy φ) [h, cd, C] s fun n s =>
 kLen n s fun ce s =>
 kGtr ce (ni 1) fun c =>
 z0 c true (fun k => k n s) s fun cf s =>
 z0 c true (fun k => kLen cf s k) s fun cg s =>
 z0 c true (fun k => k e s) s fun ch s =>
 z0 c true (fun k => k f s) s fun ci s =>
 z0 c true (fun k => z1 1 s ch ci k) s fun ck s =>
 z0 c true (fun k => z4 s ck k) s fun cl s =>
 z0 c true (fun k => kLen cl s k) s fun cm s =>
 z0 c true (fun k => kLss cg cm fun d => k d s) s fun cn s =>
 zp c cn (.b false) s fun co s =>
 z5 co
(z1 1 s e f fun cp s =>
 z4 s cp fun cu s =>
 isoK (z8v φ) [h, cu, n] s fun X s =>
 kExt X 0 s fun cv s =>
 kExt X 1 s fun cB s =>
 z1 1 s e f fun cw s =>
 z6 1 s cw n fun _ s =>
 kBsl 1 [(.tree [] 0 true)] [(0, 1, cv)] s fun cy s =>
 kApp 1 24 s e cy fun cz s =>
 W h z cz A B C E F G H f s)
(W h z e A B C E F G H f s))
(kAdd B (ni 1) fun cA =>
 bv h z e A cA E F G s)) φ l w m P y bH S U V bI (ni 0) s)
(N l w m S U V s)) φ K M p O (ni 0) u v i s))
(retK false s p some)) φ I o bb o bc (ni 0) s)) s0
def zcd (φ : Nat) : List D → Option D :=
fun as =>
(fun (s : LS) =>
 u1 as fun p w =>
 u0 w (
 kLen p s fun y s =>
 lp (fun (_ _ _ _ _ : D) (_ : LS) => none) (fun (z : D → D → D → D → D → LS → Rs) (g f h i c : D) (s : LS) =>
 kLss i (ni 5) fun n =>
 z0 n true (fun k => k h s) s fun A s =>
 z0 n true (fun k => kGtr A (ni 1) fun d => k d s) s fun B s =>
 zp n B (.b false) s fun o s =>
 z0 o true (fun k => k c s) s fun C s =>
 z0 o true (fun k => kLeq C (ni 65521) fun d => k d s) s fun E s =>
 zp o E (.b false) s fun F s =>
 z5 F
(jn (fun (G H I J K : D) (s : LS) =>
 kAdd K (ni 1) fun M =>
 z G H I J M s) fun l =>
 isoK (zf1 φ) [c] s fun N s =>
 kNot N s fun O s =>
 z5 O
(l g f h i c s)
(isoK (zaz φ) [g, c] s fun m s =>
 kLen m s fun P s =>
 kLen g s fun S s =>
 kNeq P S fun e =>
 z0 e false (fun k => k c s) s fun U s =>
 z0 e false (fun k => k m s) s fun V s =>
 z0 e false (fun k => k c s) s fun W s =>
 z0 e false (fun k => k m s) s fun X s =>
 z0 e false (fun k => isoK (z9n φ) [W, X] s k) s fun Y s =>
 z0 e false (fun k => isoK (zfy φ) [U, V, Y] s k) s fun Z s =>
 z0 e false (fun k => kLen Z s k) s fun bb s =>
 z0 e false (fun k => kNeq bb (ni 1) fun d => k d s) s fun bc s =>
 zp e (.b true) bc s fun bd s =>
 z5 bd
(l g f h i c s)
(kAdd i (ni 1) fun u =>
 isoK (z93 φ) [c, m] s fun bf s =>
 isoK (tabM z9s (zn φ)) [c, bf] s fun bg s =>
 kLen bg s fun v s =>
 kLss v h fun bh =>
 z5 bh
(l g c v u c s)
(l g f h u c s))))
(kEql f (ni 0) fun bi =>
 z5 bi
(retK false s (.tup [(ni 0), (.tree [] 0 true)]) some)
(isoK (zaz φ) [g, f] s fun bk s =>
 isoK (z93 φ) [f, bk] s fun bl s =>
 isoK (z9Z φ) [f, bl] s fun bm s =>
 retK false s (.tup [f, bm]) some))) φ p (ni 0) y (ni 0) (ni 2) s)) s0
def za4 (φ : Nat) : List D → Option D :=
fun as =>
(fun (s : LS) =>
 u1 as fun b f =>
 u0 f (
 kQuo b (ni 8) fun g =>
 kAdd g (ni 1) fun d =>
 z24 1 1 [(.i .u8 (.ofNat 0))] s d d fun e s =>
 kRem b (ni 8) fun h =>
 kShl (.i .u8 (.ofNat 1)) h fun k =>
 z1 1 s e (ni 0) fun l s =>
 z6 1 s l k fun _ s =>
 kS (.b2s (.c e)) s fun m s =>
 retK false s m some)) s0
def zf3 (φ : Nat) : List D → Option D :=
fun as =>
(fun (s : LS) =>
 u1 as fun e m =>
 u0 m (
 z9 [(.b false), (.n 0)] s fun o s =>
 z9 [(.b false), (.n 0)] s fun p s =>
 kLen e s fun u s =>
 lp (fun (_ _ _ _ _ _ : D) (_ : LS) => none) (fun (v : D → D → D → D → D → D → LS → Rs) (h f d i k g : D) (s : LS) =>
 kLss g k fun w =>
 z5 w
(z1 2 s i g fun y s =>
 z3 2 s y fun z s =>
 z9 [(.b false), (.n 0)] s fun l s =>
 z6 2 s l z fun _ s =>
 z3 2 s d fun A s =>
 z7 1 s l fun B s =>
 z4 s B fun C s =>
 zI [(.b false), (.n 0)] [(1, 1, C)] s fun E s =>
 isoK z7F [A, E] s fun F s =>
 z6 2 s d F fun _ s =>
 kAdd g (ni 1) fun G =>
 v h f d i k G s)
(z3 2 s d fun H s =>
 kLen h s fun I s =>
 kSub I (ni 1) fun J =>
 kS (.max (.c J) (.c (ni 0))) s fun K s =>
 isoK (za4 φ) [K] s fun M s =>
 zI [(.b false), (.n 0)] [(1, 1, M)] s fun N s =>
 isoK z4p [H, N] s fun O s =>
 z6 2 s f O fun _ s =>
 z3 2 s f fun P _ =>
 retK false s P some)) φ e o p e u (ni 0) s)) s0
def z6B (φ : Nat) : List D → Option D :=
fun as =>
(fun (s : LS) =>
 u1 as fun c e =>
 u0 e (
 z9 [(.b false), (.n 0)] s fun d s =>
 kLen c s fun f s =>
 kSub f (ni 1) fun g =>
 z1 2 s c g fun h s =>
 z3 2 s h fun i s =>
 z6 2 s d i fun _ s =>
 z3 2 s d fun k _ =>
 retK false s k some)) s0
def zam (φ : Nat) : List D → LS → (D → LS → Rs) → Rs :=
fun as s k =>
 u1 as fun g h =>
 u0 h (
 kLen g s fun i s =>
 lp (fun (_ _ : D) (_ : LS) => none) (fun (l : D → D → LS → Rs) (f e : D) (s : LS) =>
 kGtr e (ni 0) fun c =>
 z0 c true (fun k => k f s) s fun m s =>
 z0 c true (fun k => k e s) s fun o s =>
 z0 c true (fun k => kSub o (ni 1) fun d => k d s) s fun p s =>
 z0 c true (fun k => z1 2 s m p k) s fun u s =>
 z0 c true (fun k => z7 1 s u k) s fun v s =>
 z0 c true (fun k => z4 s v k) s fun w s =>
 z0 c true (fun k => kEql w (.n 0) fun d => k d s) s fun y s =>
 zp c y (.b false) s fun z s =>
 z5 z
(kSub e (ni 1) fun A =>
 l f A s)
(z23 2 s f none (some e) (some e) fun B s =>
 k B s)) φ g i s)
def z2t (φ : Nat) : List D → Option D :=
fun as =>
(fun (s : LS) =>
 u1 as fun m o =>
 u1 o fun d p =>
 u0 p (
 kBox m s fun u s =>
 kLen d s fun f s =>
 z24 2 24 [(.b false), (.n 0)] s f f fun v s =>
 kLen d s fun w s =>
 lp (fun (_ _ _ _ _ : D) (_ : LS) => none) (fun (y : D → D → D → D → D → LS → Rs) (g e h i c : D) (s : LS) =>
 kLss c i fun z =>
 z5 z
(z1 2 s h c fun A s =>
 z3 2 s A fun B s =>
 z9 [(.b false), (.n 0)] s fun k s =>
 z6 2 s k B fun _ s =>
 z3 2 s k fun C s =>
 z7 0 s g fun E s =>
 z3 2 s E fun F s =>
 isoK (z2Q φ) [C, F] s fun l s =>
 kExt l 0 s fun K s =>
 kExt l 1 s fun G s =>
 z1 2 s e c fun H s =>
 z6 2 s H G fun _ s =>
 kAdd c (ni 1) fun I =>
 y g e h i I s)
((zam φ) [e] s fun J s =>
 retK true s J some)) φ u v d w (ni 0) s)) s0
def zin (φ : Nat) : List D → Option D :=
fun as =>
(fun (s : LS) =>
 u1 as fun f I =>
 u1 I fun l J =>
 u0 J (
 kLen f s fun K s =>
 kEql K (ni 0) fun g =>
 z0 g false (fun k => k l s) s fun M s =>
 z0 g false (fun k => kLen M s k) s fun N s =>
 z0 g false (fun k => kEql N (ni 0) fun d => k d s) s fun O s =>
 zp g (.b true) O s fun P s =>
 z5 P
(retK false s (.tree [] 0 true) some)
(kLen f s fun S s =>
 kLen l s fun U s =>
 kAdd S U fun V =>
 kSub V (ni 1) fun w =>
 z24 2 24 [(.b false), (.n 0)] s w w fun W s =>
 kLen f s fun X s =>
 lp (fun (_ _ _ _ _ : D) (_ : LS) => none) (fun (Y : D → D → D → D → D → LS → Rs) (h m o p c : D) (s : LS) =>
 kLss c p fun Z =>
 z5 Z
(jn (fun (bb bc bd bf bg : D) (s : LS) =>
 kAdd bg (ni 1) fun bh =>
 Y bb bc bd bf bh s) fun y =>
 z1 2 s o c fun bi s =>
 z3 2 s bi fun bk s =>
 z9 [(.b false), (.n 0)] s fun u s =>
 z6 2 s u bk fun _ s =>
 z7 1 s u fun bl s =>
 z4 s bl fun bm s =>
 kEql bm (.n 0) fun bn =>
 z5 bn
(y h m o p c s)
(kLen h s fun bo s =>
 lp (fun (_ _ _ _ _ _ _ _ _ _ : D) (_ : LS) => none) (fun (bp : D → D → D → D → D → D → D → D → D → D → LS → Rs) (z i v A B C E F G e : D) (s : LS) =>
 kLss e G fun bu =>
 z5 bu
(z1 2 s F e fun bv s =>
 z3 2 s bv fun bw s =>
 z9 [(.b false), (.n 0)] s fun H s =>
 z6 2 s H bw fun _ s =>
 kAdd v e fun bz =>
 kAdd v e fun bA =>
 z1 2 s i bA fun bB s =>
 z3 2 s bB fun bC s =>
 z3 2 s A fun bE s =>
 z3 2 s H fun bF s =>
 isoK z4p [bE, bF] s fun bG s =>
 isoK z7F [bC, bG] s fun bH s =>
 z1 2 s i bz fun bI s =>
 z6 2 s bI bH fun _ s =>
 kAdd e (ni 1) fun bJ =>
 bp z i v A B C E F G bJ s)
(y z i B C E s)) φ h m c u o p c h bo (ni 0) s))
((zam φ) [m] s fun bK s =>
 retK false s bK some)) φ l W f X (ni 0) s))) s0
def zb (φ : Nat) : List D → Option D :=
fun as =>
(fun (s : LS) =>
 u1 as fun b c =>
 u1 c fun d e =>
 u1 e fun f g =>
 u0 g (
 kBox b s fun h s =>
 z3 2 s h fun i s =>
 isoK (zin φ) [d, f] s fun k s =>
 isoK (z2t φ) [i, k] s fun l s =>
 retK false s l some)) s0
def zc6 : List D := [(.agg [(.b false), (.n 25)]), (zi [4,3,1,2,4,3,1,2,4,3,1,2,4,3,1,2,4,3,1,2,4,3,1] true), (zi [2,1] true)]
def zbN : D := (zi [8,10,5,5,10,10,5,5,10,10,5,5,10,10,5,5,10,10,5,5,10,10,5,1] false)
def zc5 : List D := [(.agg [(.b false), (.n 25)]), (zi [3] true), (zi [15,15,20,20,15,15,20,20,15,15,20,20,15,15,20,20,15,15,20,20,15,15,20] false)]
def zbM : D := (zi [20,20,10,10,20,20,10,10,20,20,10,10,20,20,10,10,20,20,10,10,20,20,10] false)
def zc4 : List D := [(.agg [(.b false), (.n 25)]), (zi [2,2,0,2,3,4,4,0,4,1,3,3,0,3,2,1,1,0,1,4,2,2] true), (zi [15,15,20,20,15,15,20,20,15,15,20,20,15,15,20,20,15,15,20,20,15,15,20] false)]
def zbL : D := (zi [5,10,20,10,20,5,15,10,15,10,5,0,15,0,15,5,20,0,20,0,5,10,20,15,0,0,10,10,20,0,5,15,10,15,5,5,20,20,10,5,0,15,20,15] false)
def zc3 : List D := [(.agg [(.b false), (.n 25)]), (zi [0,10,0,5,20,0,5,15,15,15,10,0,10,5,15,10,5,20,20,20,0,10] false), (zi [4,3,1,2,4,3,1,2,4,3,1,2,4,3,1,2,4,3,1,2,4,3,1] true)]
def zbK : D := (zi [0,15,5,5,15,5,5,20,0,10,10,20,5,5,20,5,5,15,10,0,0,15,5,10,0,0,15,15,5,0,20,10,15,10,20,20,5,5,15,20,0,10,5,10] false)
def zc2 : List D := [(.agg [(.b false), (.n 25)]), (zi [3] true), (zi [9,3,1,17,14,13,21,7,19,23,16,22,24,8,11,12,4,18,6,2,9,3,1] false)]
def zbJ : D := (zi [2,9,3,1,17,14,13,21,7,19,23,16,22,24,8,11,12,4,18,6,2,9,3] false)
def zc1 : List D := [(.agg [(.b false), (.n 25)]), (zi [2,2,0,2,3,4,4,0,4,1,3,3,0,3,2,1,1,0,1,4,2,2] true), (zi [22,1] false)]
def zbI : D := (zi [19,21,2,19,18,16,17,4,13,1,17,19,3,16,22,24,23,1,22,14,23,21,2] false)
def zc0 : List D := [(.agg [(.b false), (.n 25)]), (zi [3] true), (zi [20,5,5,20,10,5,5,0,20,20,15,10,0,15,5,10,10,5,15,20,0,5,5] false)]
def zbH : D := (zi [10,15,15,10,5,15,15,0,10,10,20,5,0,20,15,5,5,15,20,10,0,15,15] false)
def zbZ : List D := [(.agg [(.b false), (.n 25)]), (zi [2,2,0,2,3,4,4,0,4,1,3,3,0,3,2,1,1,0,1,4,2,2] true), (zi [20,5,5,20,10,5,5,0,20,20,15,10,0,15,5,10,10,5,15,20,0,5,5] false)]
def zbG : D := (zi [15,0,20,15,5,10,0,5,10,15,5,15,5,15,10,20,0,20,5,15,20,5,20,15,20,10,20,20,15,20,20,10,20,10,15,20,15,20,0,0,15,5,20,10] false)
def zbY : List D := [(.agg [(.b false), (.n 25)]), (zi [0,20,10,0,15,0,20,15,10,0,10,10,20,0,20,5,0,20,0,5,10,15] false), (zi [9,3,1,17,14,13,21,7,19,23,16,22,24,8,11,12,4,18,6,2,9,3,1] false)]
def zbF : D := (zi [0,5,0,0,10,20,20,0,15,5,0,15,10,20,20,10,20,20,15,0,15,15,5,10,5,15,5,5,10,5,5,15,5,15,10,5,10,5,0,0,10,20,5,15] false)
def zbX : List D := [(.agg [(.b false), (.n 625)]), (zi [9,3,1,17,14,13,21,7,19,23,16,22,24,8,11,12,4,18,6,2,9,3,1] false), (zi [22,1] false)]
def zbE : D := (zi [198,75,25,375,325,300,475,175,425,525,375,500,550,200,250,275,100,400,150,50,200,75,25,1] false)
def zbj : List D := [(.agg [(.b false), (.n 625)]), (zi [18] false), (zi [425,550,600,250,300,325,150,450,200,100,250,125,75,425,375,350,525,225,475,575,425,550,600] false)]
def zaY : D := (zi [150,525,175,125,400,225,200,600,475,550,125,375,100,150,500,50,75,300,425,350,150,525,175] false)
def zbi : List D := [(.agg [(.b false), (.n 625)]), (zi [12,22,5,12,13,24,9,20,4,6,23,23,10,18,22,21,6,10,6,14,17,7] false), (zi [425,550,600,250,300,325,150,450,200,100,250,125,75,425,375,350,525,225,475,575,425,550,600] false)]
def zaX : D := (zi [100,325,175,300,475,50,150,25,575,75,150,300,125,575,125,25,300,525,0,575,200,50,50,425,150,450,200,525,25,75,50,250,100,25,450,425,425,250,600,225,50,100,300,450] false)
def zbh : List D := [(.agg [(.b false), (.n 625)]), (zi [600,25,575,150,125,175,200,75,75,50,600,75,200,225,325,300,75,550,250,175,425,175] false), (zi [9,3,1,17,14,13,21,7,19,23,16,22,24,8,11,12,4,18,6,2,9,3,1] false)]
def zaW : D := (zi [400,150,225,175,350,25,350,375,175,300,500,425,275,450,575,600,250,450,525,500,450,475,575,200,475,175,425,100,600,550,575,375,525,600,175,200,200,375,25,400,575,525,325,175] false)
def zbg : List D := [(.agg [(.b false), (.n 625)]), (zi [18] false), (zi [509,478,401,492,214,88,521,407,144,398,41,122,424,408,86,12,554,368,531,452,34,528,1] false)]
def zaV : D := (zi [412,479,343,106,102,334,3,451,92,289,113,321,132,469,298,216,597,374,183,11,612,129,18] false)
def zbf : List D := [(.agg [(.b false), (.n 625)]), (zi [12,22,5,12,13,24,9,20,4,6,23,23,10,18,22,21,6,10,6,14,17,7] false), (zi [97,1] false)]
def zaU : D := (zi [539,271,507,544,23,466,272,74,408,586,362,379,368,506,277,184,603,351,592,114,413,71,7] false)
def zbe : List D := [(.agg [(.b false), (.n 625)]), (zi [18] false), (zi [325,125,225,25,125,175,275,525,500,250,475,75,500,350,575,400,575,100,150,125,400,200,25] false)]
def zaT : D := (zi [225,375,300,450,375,25,575,75,250,125,425,100,250,50,350,325,350,550,200,375,325,475,450] false)
def zbd : List D := [(.agg [(.b false), (.n 625)]), (zi [12,22,5,12,13,24,9,20,4,6,23,23,10,18,22,21,6,10,6,14,17,7] false), (zi [325,125,225,25,125,175,275,525,500,250,475,75,500,350,575,400,575,100,150,125,400,200,25] false)]
def zaS : D := (zi [150,525,200,400,150,225,50,575,325,500,400,400,50,425,550,600,200,150,500,375,425,325,75,200,500,0,450,50,50,450,425,275,400,50,325,600,150,550,175,225,0,300,575,175] false)
def zbc : List D := [(.agg [(.b false), (.n 625)]), (zi [525,50,125,100,325,100,50,200,400,300,375,300,225,475,250,600,500,400,275,175,575,450] false), (zi [509,478,401,492,214,88,521,407,144,398,41,122,424,408,86,12,554,368,531,452,34,528,1] false)]
def zaR : D := (zi [350,150,550,250,300,375,575,325,375,325,150,250,25,325,275,75,150,525,150,375,300,400,550,425,125,0,175,575,575,175,200,350,225,575,300,25,475,75,450,400,0,325,50,450] false)
def zbb : List D := [(.agg [(.b false), (.n 390625)]), (zi [509,478,401,492,214,88,521,407,144,398,41,122,424,408,86,12,554,368,531,452,34,528,1] false), (zi [97,1] false)]
def zaQ : D := (zi [49373,46875,39375,48125,21250,8750,50625,40000,14375,38750,4375,11875,41250,40000,8750,1250,53750,36250,51875,44375,3750,51250,625,1] false)
def zba : List D := [(.agg [(.b false), (.n 390625)]), (zi [93] false), (zi [341250,343750,351250,342500,369375,381875,340000,350625,376250,351875,386250,378750,349375,350625,381875,389375,336875,354375,338750,346250,386875,339375,390000] false)]
def zaP : D := (zi [95625,328125,244375,211875,367500,358125,370000,186250,225625,302500,374375,67500,70000,186250,358125,274375,79375,144375,253750,170000,41875,311875,332500] false)
def zb9 : List D := [(.agg [(.b false), (.n 390625)]), (zi [137,597,505,612,188,49,9,370,554,431,98,623,560,518,447,596,281,585,606,514,542,532] false), (zi [341250,343750,351250,342500,369375,381875,340000,350625,376250,351875,386250,378750,349375,350625,381875,389375,336875,354375,338750,346250,386875,339375,390000] false)]
def zaO : D := (zi [266875,38750,280625,385625,347500,310625,13125,18125,28125,67500,196875,154375,378125,387500,13125,86875,216875,329375,48125,344375,321875,173750,348125,165625,23125,108750,360625,203125,359375,241875,131875,313750,23750,361250,348750,226250,186875,375625,95000,156875,373125,375000,130625,58125] false)
def zb8 : List D := [(.agg [(.b false), (.n 390625)]), (zi [383125,325625,365625,66875,248750,93750,6875,247500,293750,116875,91250,185000,361250,6250,96250,175000,313125,368750,361250,235625,90625,332500] false), (zi [509,478,401,492,214,88,521,407,144,398,41,122,424,408,86,12,554,368,531,452,34,528,1] false)]
def zaN : D := (zi [88750,48750,72500,146875,126250,161875,360625,373750,106875,165625,121250,23125,113125,135625,109375,309375,30625,370625,270625,330625,389375,174375,42500,225000,367500,281875,30000,187500,31250,148750,258750,76875,366875,29375,41875,164375,203750,15000,295625,233750,17500,15625,260000,332500] false)
def zb7 : List D := [(.agg [(.b false), (.n 390625)]), (zi [93] false), (zi [356134,87978,353526,142367,83339,81963,374271,1657,135144,233523,318166,177622,101049,132908,122586,5637,248054,309743,319281,284827,320659,348653,1] false)]
def zaM : D := (zi [307962,369454,65418,349506,328652,200684,41578,154101,68392,233264,292563,112596,22557,251069,72373,133616,22147,290474,5633,317036,133787,2854,93] false)
def zb6 : List D := [(.agg [(.b false), (.n 390625)]), (zi [137,597,505,612,188,49,9,370,554,431,98,623,560,518,447,596,281,585,606,514,542,532] false), (zi [41972,1] false)]
def zaL : D := (zi [281414,57421,102707,296744,78848,103691,377797,295274,205983,121736,207437,367404,67443,257681,12002,15759,75978,335151,44992,89839,93088,64021,532] false)
def zb5 : List D := [(.agg [(.b false), (.n 390625)]), (zi [93] false), (zi [198750,36250,168125,255625,16875,304375,28750,58750,274375,355000,109375,89375,90000,118125,84375,149375,98125,235000,50625,16250,226875,66875,625] false)]
def zaK : D := (zi [124375,246250,10625,335625,6875,181875,330000,385625,126250,202500,15625,108750,166875,48125,34375,220000,141250,370625,20625,339375,5625,360000,58125] false)
def zb4 : List D := [(.agg [(.b false), (.n 390625)]), (zi [137,597,505,612,188,49,9,370,554,431,98,623,560,518,447,596,281,585,606,514,542,532] false), (zi [198750,36250,168125,255625,16875,304375,28750,58750,274375,355000,109375,89375,90000,118125,84375,149375,98125,235000,50625,16250,226875,66875,625] false)]
def zaJ : D := (zi [275625,182500,121250,332500,154375,310625,240625,268125,128125,110000,197500,122500,12500,325000,275625,123125,236875,305000,13750,382500,200000,330000,301250,358750,188750,371250,359375,362500,75625,329375,381875,323750,123125,310000,28125,342500,249375,140000,95000,276875,348125,233750,369375,332500] false)
def zb3 : List D := [(.agg [(.b false), (.n 390625)]), (zi [56250,82500,128125,316250,25000,114375,6250,128750,245625,233125,275625,86875,343125,77500,233125,20000,1250,330000,25000,265000,190625,58125] false), (zi [356134,87978,353526,142367,83339,81963,374271,1657,135144,233523,318166,177622,101049,132908,122586,5637,248054,309743,319281,284827,320659,348653,1] false)]
def zaI : D := (zi [115625,130000,253750,160000,320000,203750,348125,30000,236250,270625,378125,22500,298750,245000,153750,90625,67500,383125,269375,120625,188125,315000,89375,31875,201875,19375,31250,28125,315000,61250,8750,66875,267500,80625,362500,48125,141250,250625,295625,113750,42500,156875,21250,58125] false)
def zb2 : List D := [(.agg [(.b false), (.n 152587890625)]), (zi [356134,87978,353526,142367,83339,81963,374271,1657,135144,233523,318166,177622,101049,132908,122586,5637,248054,309743,319281,284827,320659,348653,1] false), (zi [41972,1] false)]
def zaH : D := (zi [14947656248,3692968750,14838281250,5975781250,3498046875,3440234375,15708984375,69921875,5672265625,9801562500,13354296875,7455468750,4241406250,5578515625,5145312500,236718750,10411328125,13000781250,13401171875,11955078125,13458984375,14633984375,390625,1] false)
def zb1 : List D := [(.agg [(.b false), (.n 152587890625)]), (zi [253843] false), (zi [137640234375,148894921875,137749609375,146612109375,149089843750,149147656250,136878906250,152517968750,146915625000,142786328125,139233593750,145132421875,148346484375,147009375000,147442578125,152351171875,142176562500,139587109375,139186718750,140632812500,139128906250,137953906250,152587500000] false)]
def zaG : D := (zi [45170703125,65733593750,38252734375,118568750000,106810546875,133671484375,116212890625,103604687500,107000781250,40114843750,150384375000,29053515625,8869531250,101071093750,50782812500,30231250000,132088281250,13583593750,761328125,107660156250,126488281250,17701562500,53430468750] false)
def z1f : List (List D × D) := [(zc6, zbN), (zc5, zbM), (zc4, zbL), (zc3, zbK), (zc2, zbJ), (zc1, zbI), (zc0, zbH), (zbZ, zbG), (zbY, zbF), (zbX, zbE), (zbj, zaY), (zbi, zaX), (zbh, zaW), (zbg, zaV), (zbf, zaU), (zbe, zaT), (zbd, zaS), (zbc, zaR), (zbb, zaQ), (zba, zaP), (zb9, zaO), (zb8, zaN), (zb7, zaM), (zb6, zaL), (zb5, zaK), (zb4, zaJ), (zb3, zaI), (zb2, zaH), (zb1, zaG)]
def z7I (φ : Nat) : List D → Option D :=
fun as =>
(fun (s : LS) =>
 u1 as fun A B =>
 u1 B fun C E =>
 u0 E (
 kBox A s fun l s =>
 kBox C s fun m s =>
 z9 [(.b false), (.n 0)] s fun F s =>
 z7 0 s l fun G s =>
 z3 2 s G fun H s =>
 z3 2 s m fun I s =>
 z9 [(.b false), (.n 0)] s fun h s =>
 z9 [(.b false), (.n 0)] s fun o s =>
 z6 2 s h H fun _ s =>
 z6 2 s o I fun _ s =>
 kS (.apart (.c m) (.c h)) s fun _ s =>
 isoK (z1q φ) [(ni 0)] s fun J s =>
 isoK (z1q φ) [(ni 1)] s fun K s =>
 z9 [(.b false), (.n 0)] s fun p s =>
 z9 [(.b false), (.n 0)] s fun u s =>
 z6 2 s p J fun _ s =>
 z6 2 s u K fun _ s =>
 lp (fun (_ _ _ _ _ _ : D) (_ : LS) => none) (fun (M : D → D → D → D → D → D → LS → Rs) (v i f e d g : D) (s : LS) =>
 z7 1 s e fun N s =>
 z4 s N fun O s =>
 kNeq O (.n 0) fun P =>
 z5 P
(z3 2 s f fun S s =>
 z3 2 s e fun U s =>
 isoK (z2Q φ) [S, U] s fun w s =>
 kExt w 0 s fun V s =>
 kExt w 1 s fun W s =>
 z9 [(.b false), (.n 0)] s fun y s =>
 z9 [(.b false), (.n 0)] s fun k s =>
 z6 2 s y V fun _ s =>
 z6 2 s k W fun _ s =>
 z3 2 s e fun X s =>
 z3 2 s k fun Y s =>
 z6 2 s f X fun _ s =>
 z6 2 s e Y fun _ s =>
 kS (.apart (.c k) (.c f)) s fun _ s =>
 z3 2 s g fun Z s =>
 z3 2 s d fun bb s =>
 z3 2 s y fun bc s =>
 z3 2 s g fun bd s =>
 isoK z4p [bc, bd] s fun bf s =>
 isoK zdK [bb, bf] s fun bg s =>
 z6 2 s d Z fun _ s =>
 z6 2 s g bg fun _ s =>
 M v i f e d g s)
(z3 2 s d fun bh s =>
 z7 0 s v fun bi s =>
 z3 2 s bi fun bk s =>
 isoK (z2Q φ) [bh, bk] s fun z s =>
 kExt z 0 s fun bo s =>
 kExt z 1 s fun bl s =>
 z6 2 s d bl fun _ s =>
 z3 2 s d fun bm s =>
 z6 2 s i bm fun _ s =>
 z3 2 s i fun bn _ =>
 retK false s bn some)) φ l F h o p u s)) s0
def zgv (φ : Nat) : List D → Option D :=
fun as =>
(fun (s : LS) =>
 u1 as fun e w =>
 u1 w fun c y =>
 u1 y fun f z =>
 u0 z (
 kLen f s fun A s =>
 kEql A (ni 0) fun B =>
 z5 B
(kLen c s fun C s =>
 kEql C (ni 0) fun E =>
 z5 E
(retK false s (.tup [(.tree [] 0 true), (.tree [] 0 true), (.tree [] 0 true)]) some)
(isoK (z93 φ) [e, c] s fun F s =>
 kLen c s fun G s =>
 kSub G (ni 1) fun H =>
 z1 1 s c H fun I s =>
 z4 s I fun J s =>
 isoK (z8W φ) [e, J] s fun K s =>
 kBsl 1 [(ni 0)] [(0, 1, K)] s fun M s =>
 retK false s (.tup [F, M, (.tree [] 0 true)]) some))
(kBsl 1 [(ni 0)] [(0, 1, (ni 1))] s fun N s =>
 lp (fun (_ _ _ _ _ _ _ : D) (_ : LS) => none) (fun (O : D → D → D → D → D → D → D → LS → Rs) (b k g d h l m : D) (s : LS) =>
 kLen h s fun P s =>
 kGtr P (ni 0) fun S =>
 z5 S
(isoK (z8v φ) [b, d, h] s fun n s =>
 kExt n 0 s fun U s =>
 kExt n 1 s fun V s =>
 isoK (zge φ) [b, U, m] s fun W s =>
 isoK (zew φ) [b, l, W] s fun X s =>
 O b k g h V m X s)
(kLen d s fun Y s =>
 kSub Y (ni 1) fun Z =>
 z1 1 s d Z fun bb s =>
 z4 s bb fun bc s =>
 isoK (z8W φ) [b, bc] s fun o s =>
 isoK (zao φ) [b, d, o] s fun i s =>
 isoK (z8v φ) [b, g, i] s fun p s =>
 kExt p 0 s fun bd s =>
 kExt p 1 s fun bk s =>
 isoK (zao φ) [b, l, o] s fun bf s =>
 isoK (z9T φ) [b, bf, bd] s fun u s =>
 isoK (zge φ) [b, u, k] s fun bg s =>
 isoK (zew φ) [b, i, bg] s fun bh s =>
 isoK (z8v φ) [b, bh, g] s fun v s =>
 kExt v 0 s fun bi s =>
 kExt v 1 s fun bl s =>
 retK false s (.tup [i, u, bi]) some)) φ e c f c f N (.tree [] 0 true) s))) s0
def z7J (φ : Nat) : List D → Option D :=
fun as =>
(fun (s : LS) =>
 u1 as fun d i =>
 u0 i (
 kLen d s fun f s =>
 z24 2 24 [(.b false), (.n 0)] s f f fun k s =>
 kLen d s fun l s =>
 lp (fun (_ _ _ _ : D) (_ : LS) => none) (fun (m : D → D → D → D → LS → Rs) (e g h c : D) (s : LS) =>
 kLss c h fun o =>
 z5 o
(z1 1 s g c fun p s =>
 z4 s p fun u s =>
 isoK (z1q φ) [u] s fun v s =>
 z1 2 s e c fun w s =>
 z6 2 s w v fun _ s =>
 kAdd c (ni 1) fun y =>
 m e g h y s)
(retK false s e some)) φ k d l (ni 0) s)) s0
def z14 (φ : Nat) : List D → Option D :=
fun as =>
(fun (s : LS) =>
 u1 as fun u v =>
 u1 v fun g w =>
 u1 w fun f y =>
 u1 y fun z A =>
 u0 A (
 kBox u s fun B s =>
 kLen g s fun C s =>
 kLen f s fun E s =>
 kS (.max (.c C) (.c E)) s fun h s =>
 z24 2 24 [(.b false), (.n 0)] s h h fun i s =>
 zmD 2 s i g fun Y s =>
 kLen f s fun F s =>
 lp (fun (_ _ _ _ _ _ : D) (_ : LS) => none) (fun (G : D → D → D → D → D → D → LS → Rs) (k l e m o d : D) (s : LS) =>
 kLss d o fun H =>
 z5 H
(z1 2 s m d fun I s =>
 z3 2 s I fun J s =>
 z9 [(.b false), (.n 0)] s fun p s =>
 z6 2 s p J fun _ s =>
 z1 2 s e d fun K s =>
 z3 2 s K fun M s =>
 z3 2 s p fun N s =>
 isoK (z1q φ) [k] s fun O s =>
 isoK z4p [N, O] s fun P s =>
 isoK z7F [M, P] s fun S s =>
 z1 2 s e d fun U s =>
 z6 2 s U S fun _ s =>
 kAdd d (ni 1) fun V =>
 G k l e m o V s)
(z3 2 s l fun W s =>
 isoK (z2t φ) [W, e] s fun X s =>
 retK false s X some)) φ z B i f F (ni 0) s)) s0
def z1y (φ : Nat) : List D → Option D :=
fun as =>
(fun (s : LS) =>
 u1 as fun c d =>
 u0 d (
 zg6 false s c fun e s =>
 z5 e
(retK true s (.tree [] 0 true) some)
(kBsl 0 [(.b false), (.n 0)] [] s fun f s =>
 kApp 2 24 s f c fun g s =>
 retK true s g some))) s0
def zQ (φ : Nat) : List D → Option D :=
fun as =>
(fun (s : LS) =>
 u1 as fun F G =>
 u1 G fun e H =>
 u1 H fun k I =>
 u0 I (
 kBox F s fun J s =>
 kLen e s fun K s =>
 kLen k s fun M s =>
 kLss K M fun N =>
 z5 N
(retK false s (.tup [(.tree [] 0 true), e]) some)
(isoK (z8w (z1y φ)) [e] s fun O s =>
 kLen e s fun P s =>
 kLen k s fun S s =>
 kSub P S fun U =>
 kAdd U (ni 1) fun p =>
 z24 2 24 [(.b false), (.n 0)] s p p fun u s =>
 kLen u s fun V s =>
 kSub V (ni 1) fun W =>
 lp (fun (_ _ _ _ _ : D) (_ : LS) => none) (fun (X : D → D → D → D → D → LS → Rs) (c f l m g : D) (s : LS) =>
 kGeq g (ni 0) fun Y =>
 z5 Y
(kLen c s fun Z s =>
 kAdd g Z fun bb =>
 kSub bb (ni 1) fun bc =>
 z1 2 s l bc fun bd s =>
 z3 2 s bd fun bf s =>
 z7 0 s f fun bg s =>
 z3 2 s bg fun bh s =>
 isoK (z2Q φ) [bf, bh] s fun v s =>
 kExt v 0 s fun bi s =>
 kExt v 1 s fun bk s =>
 z9 [(.b false), (.n 0)] s fun bl s =>
 z9 [(.b false), (.n 0)] s fun o s =>
 z6 2 s bl bi fun _ s =>
 z6 2 s o bk fun _ s =>
 z3 2 s o fun bm s =>
 z1 2 s m g fun bn s =>
 z6 2 s bn bm fun _ s =>
 kLen c s fun bo s =>
 lp (fun (_ _ _ _ _ _ _ _ _ : D) (_ : LS) => none) (fun (bp : D → D → D → D → D → D → D → D → D → LS → Rs) (w y h z i A B C d : D) (s : LS) =>
 kLss d C fun bu =>
 z5 bu
(z1 2 s B d fun bv s =>
 z3 2 s bv fun bw s =>
 z9 [(.b false), (.n 0)] s fun E s =>
 z6 2 s E bw fun _ s =>
 kAdd i d fun bz =>
 kAdd i d fun bA =>
 z1 2 s h bA fun bB s =>
 z3 2 s bB fun bC s =>
 z3 2 s A fun bE s =>
 z3 2 s E fun bF s =>
 isoK z4p [bE, bF] s fun bG s =>
 isoK zdK [bC, bG] s fun bH s =>
 z1 2 s h bz fun bI s =>
 z6 2 s bI bH fun _ s =>
 kAdd d (ni 1) fun bJ =>
 bp w y h z i A B C bJ s)
(kSub i (ni 1) fun bK =>
 X w y h z bK s)) φ c f l m g o c bo (ni 0) s)
(z3 2 s f fun bM s =>
 isoK (z2t φ) [bM, m] s fun bN s =>
 z3 2 s f fun bO s =>
 kLen c s fun bP s =>
 kSub bP (ni 1) fun bS =>
 z23 2 s l none (some bS) none fun bU s =>
 isoK (z2t φ) [bO, bU] s fun bV s =>
 retK false s (.tup [bN, bV]) some)) φ k J O u W s))) s0
def z9N : List D := [(.agg [(.b false), (.n 25)]), (zi [20,20,10,10,20,20,10,10,20,20,10,10,20,20,10,10,20,20,10,10,20,20,10] false), (zi [2,1] true)]
def z9D : D := (.tup [(zi [0,10,0,5,20,0,5,15,15,15,10,0,10,5,15,10,5,20,20,20,0,10] false), (zi [20] false)])
def z9M : List D := [(.agg [(.b false), (.n 25)]), (zi [10,15,15,10,5,15,15,0,10,10,20,5,0,20,15,5,5,15,20,10,0,15,15] false), (zi [22,1] false)]
def z9C : D := (.tup [(zi [0,20,10,0,15,0,20,15,10,0,10,10,20,0,20,5,0,20,0,5,10,15] false), (zi [10] false)])
def z9L : List D := [(.agg [(.b false), (.n 625)]), (zi [150,525,175,125,400,225,200,600,475,550,125,375,100,150,500,50,75,300,425,350,150,525,175] false), (zi [22,1] false)]
def z9B : D := (.tup [(zi [600,25,575,150,125,175,200,75,75,50,600,75,200,225,325,300,75,550,250,175,425,175] false), (zi [75] false)])
def z9K : List D := [(.agg [(.b false), (.n 625)]), (zi [225,375,300,450,375,25,575,75,250,125,425,100,250,50,350,325,350,550,200,375,325,475,450] false), (zi [97,1] false)]
def z9A : D := (.tup [(zi [525,50,125,100,325,100,50,200,400,300,375,300,225,475,250,600,500,400,275,175,575,450] false), (zi [550] false)])
def z9J : List D := [(.agg [(.b false), (.n 390625)]), (zi [95625,328125,244375,211875,367500,358125,370000,186250,225625,302500,374375,67500,70000,186250,358125,274375,79375,144375,253750,170000,41875,311875,332500] false), (zi [97,1] false)]
def z9z : D := (.tup [(zi [383125,325625,365625,66875,248750,93750,6875,247500,293750,116875,91250,185000,361250,6250,96250,175000,313125,368750,361250,235625,90625,332500] false), (zi [41875] false)])
def z9I : List D := [(.agg [(.b false), (.n 390625)]), (zi [124375,246250,10625,335625,6875,181875,330000,385625,126250,202500,15625,108750,166875,48125,34375,220000,141250,370625,20625,339375,5625,360000,58125] false), (zi [41972,1] false)]
def z9y : D := (.tup [(zi [56250,82500,128125,316250,25000,114375,6250,128750,245625,233125,275625,86875,343125,77500,233125,20000,1250,330000,25000,265000,190625,58125] false), (zi [136875] false)])
def z9H : List D := [(.agg [(.b false), (.n 152587890625)]), (zi [45170703125,65733593750,38252734375,118568750000,106810546875,133671484375,116212890625,103604687500,107000781250,40114843750,150384375000,29053515625,8869531250,101071093750,50782812500,30231250000,132088281250,13583593750,761328125,107660156250,126488281250,17701562500,53430468750] false), (zi [41972,1] false)]
def z9x : D := (.tup [(zi [136600000000,102394921875,98112500000,147644140625,149962109375,126921093750,39324609375,67355859375,26456250000,106163281250,133182812500,121389453125,74186328125,2919921875,147873828125,79806640625,57481640625,21051953125,114647656250,41502343750,18295703125,53430468750] false), (zi [7373046875] false)])
def z4H : List (List D × D) := [(z9N, z9D), (z9M, z9C), (z9L, z9B), (z9K, z9A), (z9J, z9z), (z9I, z9y), (z9H, z9x)]
def z8A (φ : Nat) : List D → Option D :=
fun as =>
(fun (s : LS) =>
 u1 as fun F G =>
 u1 G fun o H =>
 u1 H fun I J =>
 u1 J fun p K =>
 u1 K fun u M =>
 u0 M (
 isoK (zgv φ) [o, p, u] s fun k s =>
 kExt k 0 s fun cl s =>
 kExt k 1 s fun N s =>
 kExt k 2 s fun O s =>
 isoK (z7J φ) [p] s fun P s =>
 isoK (z7J φ) [u] s fun S s =>
 isoK (z7J φ) [N] s fun U s =>
 isoK (z7J φ) [O] s fun V s =>
 isoK (z1q φ) [o] s fun W s =>
 z9 [(.b false), (.n 0)] s fun v s =>
 z6 2 s v W fun _ s =>
 lp (fun (_ _ _ _ _ _ _ _ : D) (_ : LS) => none) (fun (X : D → D → D → D → D → D → D → D → LS → Rs) (w e f g h d y z : D) (s : LS) =>
 kLss z y fun Y =>
 z5 Y
(z3 2 s d fun Z s =>
 z3 2 s d fun bb s =>
 isoK z4p [Z, bb] s fun bc s =>
 z6 2 s d bc fun _ s =>
 z3 2 s d fun bd s =>
 zI [(.b false), (.n 0)] [(0, 2, bd)] s fun bf s =>
 z9 [(.b false), (.n 0)] s fun c s =>
 z6 2 s c bf fun _ s =>
 z3 2 s c fun bg s =>
 z3 2 s c fun bh s =>
 isoK (z2t φ) [bh, w] s fun bi s =>
 z3 2 s c fun bk s =>
 isoK (tabM z1f (zb φ)) [bk, e, f] s fun bl s =>
 isoK (z14 φ) [bg, bi, bl, (.i .i64 (.negSucc 0))] s fun A s =>
 z3 2 s c fun bm s =>
 z3 2 s c fun bn s =>
 isoK (tabM z1f (zb φ)) [bn, g, A] s fun bo s =>
 isoK (tabM z4H (zQ φ)) [bm, bo, f] s fun B s =>
 kExt B 0 s fun bp s =>
 kExt B 1 s fun bu s =>
 z3 2 s c fun bv s =>
 z3 2 s c fun bw s =>
 z3 2 s c fun bz s =>
 isoK (tabM z1f (zb φ)) [bz, h, A] s fun bA s =>
 z3 2 s c fun bB s =>
 isoK (tabM z1f (zb φ)) [bB, bp, e] s fun bC s =>
 isoK (z14 φ) [bw, bA, bC, (ni 1)] s fun bE s =>
 isoK (z14 φ) [bv, e, bE, (ni 1)] s fun l s =>
 z3 2 s c fun bF s =>
 isoK (z14 φ) [bF, f, bu, (ni 1)] s fun m s =>
 z3 2 s c fun bG s =>
 z3 2 s c fun bH s =>
 z3 2 s c fun bI s =>
 isoK (tabM z1f (zb φ)) [bI, g, l] s fun bJ s =>
 z3 2 s c fun bK s =>
 isoK (tabM z1f (zb φ)) [bK, h, m] s fun bM s =>
 isoK (z14 φ) [bH, bJ, bM, (ni 1)] s fun bN s =>
 isoK (z1q φ) [(ni 1)] s fun bO s =>
 kBsl 1 [(.b false), (.n 0)] [(0, 2, bO)] s fun bP s =>
 isoK (z14 φ) [bG, bN, bP, (.i .i64 (.negSucc 0))] s fun C s =>
 z3 2 s c fun bS s =>
 z3 2 s c fun bU s =>
 isoK (tabM z1f (zb φ)) [bU, g, C] s fun bV s =>
 isoK (tabM z4H (zQ φ)) [bS, bV, m] s fun E s =>
 kExt E 0 s fun bW s =>
 kExt E 1 s fun bX s =>
 z3 2 s c fun bY s =>
 isoK (z14 φ) [bY, g, bX, (.i .i64 (.negSucc 0))] s fun bZ s =>
 z3 2 s c fun cb s =>
 z3 2 s c fun cc s =>
 z3 2 s c fun cd s =>
 isoK (tabM z1f (zb φ)) [cd, h, C] s fun ce s =>
 z3 2 s c fun cf s =>
 isoK (tabM z1f (zb φ)) [cf, bW, l] s fun cg s =>
 isoK (z14 φ) [cc, ce, cg, (ni 1)] s fun ch s =>
 isoK (z14 φ) [cb, h, ch, (.i .i64 (.negSucc 0))] s fun ci s =>
 kAdd z (ni 1) fun ck =>
 X w l m bZ ci d y ck s)
(retK false s (.tup [e, f]) some)) φ F P S U V v I (ni 0) s)) s0
def zg3 : List D := [(zi [43046719,0,0,0,0,0,0,0,0,0,0,0,0,0,0,0,0,0,0,0,0,0,1] false), (ni 3), (ni 4), (ti [1,0,2,0,2,0,2,0,0,0,1] true), (ti [1,0,1,0,2,0,1,0,1,0,0,0,1] true)]
def zfG : D := (.tup [(zi [20005846,0,6286076,0,13952780,0,13114739,0,32970975,0,1] false), (zi [25650991,0,13833832,0,40156832,0,27905560,0,32376355,0,10075746,0,1] false)])
def zg2 : List D := [(zi [25650991,0,13833832,0,40156832,0,27905560,0,32376355,0,10075746,0,1] false), (ni 3), (ni 4), (ti [1,0,0,0,2,0,2,0,2,0,1] true), (ti [1,0,1] true)]
def zfF : D := (.tup [(zi [20005846,0,16935378,0,13952780,0,13114739,0,26708318,0,1] false), (zi [26414149,0,1] false)])
def zg1 : List D := [(zi [152587890623,0,0,0,0,0,0,0,0,0,0,0,0,0,0,0,0,0,0,0,0,0,0,1] false), (ni 5), (ni 4), (ti [4,3,1,2,4,3,1,2,4,3,1,2,4,3,1,2,4,3,1,2,4,3,1] true), (ti [2,1] true)]
def zfE : D := (.tup [(zi [108524574884,88131728603,254650401,48274751742,15398911464,88779769463,37411311771,86559376657,45975135144,138543592898,31342505666,117851349497,106521194799,52714976658,2851294461,72562505637,87078763679,28213590993,10776100531,106610441077,28324148784,145214801778,1] false), (zi [7373088847,1] false)])
def zeE : List (List D × D) := [(zg3, zfG), (zg2, zfF), (zg1, zfE)]
def z9R (φ : Nat) : List D → Option D :=
fun as =>
(fun (s : LS) =>
 u1 as fun h i =>
 u1 i fun c k =>
 u0 k (
 kBsl 1 [(ni 0)] [(0, 1, (ni 1))] s fun l s =>
 kLen c s fun m s =>
 lp (fun (_ _ _ _ _ : D) (_ : LS) => none) (fun (n : D → D → D → D → D → LS → Rs) (d e f g b : D) (s : LS) =>
 kLss b g fun o =>
 z5 o
(z1 1 s f b fun p s =>
 z4 s p fun u s =>
 isoK (zge φ) [d, e, u] s fun v s =>
 kAdd b (ni 1) fun w =>
 n d v f g w s)
(retK false s e some)) φ h l c m (ni 0) s)) s0
def zkX (φ : Nat) (ih : List D → Option D) : List D → Option D :=
fun as =>
(fun (s : LS) =>
 u1 as fun f h =>
 u1 h fun c i =>
 u1 i fun e k =>
 u1 k fun b l =>
 u0 l (
 kLen b s fun m s =>
 kEql m (ni 1) fun n =>
 z5 n
(kBsl 1 [(.tree [] 0 true)] [(0, 1, f)] s fun o s =>
 retK true s o some)
(kLen b s fun p s =>
 kQuo p (ni 2) fun d =>
 z23 1 s b none (some d) none fun u s =>
 isoK (z9R φ) [c, u] s fun v s =>
 z23 1 s b (some d) none none fun w s =>
 isoK (z9R φ) [c, w] s fun y s =>
 isoK (tabM zeE (z8A φ)) [f, c, e, v, y] s fun g s =>
 kExt g 0 s fun z s =>
 kExt g 1 s fun A s =>
 z23 1 s b none (some d) none fun B s =>
 isoK ih [z, c, e, B] s fun C s =>
 z23 1 s b (some d) none none fun E s =>
 isoK ih [A, c, e, E] s fun F s =>
 kApp 1 24 s C F fun G s =>
 retK true s G some))) s0
def zim (φ : Nat) : List D → Option D := lp (fun _ => none) (zkX φ) φ
def z60 (φ : Nat) : List D → Option D :=
fun as =>
(fun (s : LS) =>
 u1 as fun d e =>
 u1 e fun f g =>
 u0 g (
 kBox d s fun h s =>
 kBox f s fun i s =>
 z9 [(.b false), (.n 0)] s fun c s =>
 z7 1 s h fun k s =>
 z4 s k fun l s =>
 z7 1 s i fun m s =>
 z4 s m fun o s =>
 isoK (zeN φ) [l, o] s fun p s =>
 zI [(.b false), (.n 0)] [(1, 1, p)] s fun u s =>
 z6 2 s c u fun _ s =>
 z3 2 s c fun v _ =>
 retK false s v some)) s0
def z7W (φ : Nat) : List D → Option D :=
fun as =>
(fun (s : LS) =>
 u1 as fun f A =>
 u0 A (
 z9 [(.b false), (.n 0)] s fun B s =>
 kLen f s fun C s =>
 lp (fun (_ _ _ _ _ : D) (_ : LS) => none) (fun (E : D → D → D → D → D → LS → Rs) (d c k l g : D) (s : LS) =>
 kLss g l fun F =>
 z5 F
(z1 2 s k g fun G s =>
 z3 2 s G fun H s =>
 z9 [(.b false), (.n 0)] s fun m s =>
 z6 2 s m H fun _ s =>
 z3 2 s c fun I s =>
 z3 2 s m fun J s =>
 isoK (z60 φ) [I, J] s fun K s =>
 z6 2 s c K fun _ s =>
 kAdd g (ni 1) fun M =>
 E d c k l M s)
(jn (fun (h N : D) (s : LS) =>
 kLen h s fun o s =>
 z24 2 24 [(.b false), (.n 0)] s o o fun O s =>
 kLen h s fun P s =>
 lp (fun (_ _ _ _ _ : D) (_ : LS) => none) (fun (S : D → D → D → D → D → LS → Rs) (p i u v e : D) (s : LS) =>
 kLss e v fun U =>
 z5 U
(z1 2 s u e fun V s =>
 z3 2 s V fun W s =>
 z9 [(.b false), (.n 0)] s fun w s =>
 z6 2 s w W fun _ s =>
 z3 2 s w fun X s =>
 z3 2 s p fun Y s =>
 isoK (z2Q φ) [X, Y] s fun y s =>
 kExt y 0 s fun Z s =>
 kExt y 1 s fun bi s =>
 z1 2 s i e fun bb s =>
 z6 2 s bb Z fun _ s =>
 kAdd e (ni 1) fun bc =>
 S p i u v bc s)
(retK false s i some)) φ N O h P (ni 0) s) fun z =>
 isoK (z6B φ) [d] s fun bd s =>
 zdJ 0 bd s fun bf s =>
 z5 bf
(z3 2 s c fun bg s =>
 isoK zav [bg] s fun bh s =>
 z6 2 s c bh fun _ s =>
 z d c s)
(z d c s))) φ f B f C (ni 0) s)) s0
def z4r (φ : Nat) : List D → Option D :=
fun as =>
(fun (s : LS) =>
 u1 as fun m o =>
 u1 o fun p u =>
 u0 u (
 kBox m s fun k s =>
 z3 2 s k fun v s =>
 isoK (z2t φ) [v, p] s fun g s =>
 kLen g s fun w s =>
 lp (fun (_ _ _ _ _ : D) (_ : LS) => none) (fun (y : D → D → D → D → D → LS → Rs) (d e h i c : D) (s : LS) =>
 kLss c i fun z =>
 z5 z
(jn (fun (A B C E F : D) (s : LS) =>
 kAdd F (ni 1) fun G =>
 y A B C E G s) fun l =>
 z1 2 s h c fun H s =>
 z3 2 s H fun I s =>
 z9 [(.b false), (.n 0)] s fun f s =>
 z6 2 s f I fun _ s =>
 z3 2 s f fun J s =>
 z3 2 s f fun K s =>
 isoK z7F [J, K] s fun M s =>
 z7 0 s d fun N s =>
 z3 2 s N fun O s =>
 isoK (z3R φ) [M, O] s fun P s =>
 kGtr P (ni 0) fun S =>
 z5 S
(z3 2 s f fun U s =>
 z7 0 s d fun V s =>
 z3 2 s V fun W s =>
 isoK zdK [U, W] s fun X s =>
 z1 2 s e c fun Y s =>
 z6 2 s Y X fun _ s =>
 l d e h i c s)
(l d e h i c s))
(retK false s e some)) φ k g g w (ni 0) s)) s0
def zdS (φ : Nat) : List D → Option D :=
fun as =>
(fun (s : LS) =>
 u1 as fun f F =>
 u1 F fun m G =>
 u0 G (
 kLen f s fun H s =>
 kLen m s fun I s =>
 kLss H I fun J =>
 z5 J
(kLen f s fun K s =>
 kEql K (ni 0) fun M =>
 retK false s (.tup [(.tree [] 0 true), M]) some)
(isoK (z8w (z1y φ)) [f] s fun N s =>
 kLen f s fun O s =>
 kLen m s fun P s =>
 kSub O P fun S =>
 kAdd S (ni 1) fun o =>
 z24 2 24 [(.b false), (.n 0)] s o o fun p s =>
 kLen p s fun U s =>
 kSub U (ni 1) fun V =>
 lp (fun (_ _ _ _ : D) (_ : LS) => none) (fun (W : D → D → D → D → LS → Rs) (c g h d : D) (s : LS) =>
 kGeq d (ni 0) fun X =>
 z5 X
(jn (fun (Y Z bb bc : D) (s : LS) =>
 kSub bc (ni 1) fun bd =>
 W Y Z bb bd s) fun u =>
 kLen c s fun bf s =>
 kAdd d bf fun bg =>
 kSub bg (ni 1) fun bh =>
 z1 2 s g bh fun bi s =>
 z3 2 s bi fun bk s =>
 isoK (z6B φ) [c] s fun bl s =>
 isoK (z2Q φ) [bk, bl] s fun v s =>
 kExt v 0 s fun bm s =>
 kExt v 1 s fun bn s =>
 z9 [(.b false), (.n 0)] s fun i s =>
 z9 [(.b false), (.n 0)] s fun w s =>
 z6 2 s i bm fun _ s =>
 z6 2 s w bn fun _ s =>
 z7 1 s w fun bo s =>
 z4 s bo fun bp s =>
 kNeq bp (.n 0) fun bu =>
 z5 bu
(retK false s (.tup [(.tree [] 0 true), (.b false)]) some)
(z3 2 s i fun bv s =>
 z1 2 s h d fun bw s =>
 z6 2 s bw bv fun _ s =>
 z7 1 s i fun bz s =>
 z4 s bz fun bA s =>
 kEql bA (.n 0) fun bB =>
 z5 bB
(u c g h d s)
(kLen c s fun bC s =>
 lp (fun (_ _ _ _ _ _ _ _ : D) (_ : LS) => none) (fun (bE : D → D → D → D → D → D → D → D → LS → Rs) (y k z l A B C e : D) (s : LS) =>
 kLss e C fun bF =>
 z5 bF
(z1 2 s B e fun bG s =>
 z3 2 s bG fun bH s =>
 z9 [(.b false), (.n 0)] s fun E s =>
 z6 2 s E bH fun _ s =>
 kAdd l e fun bI =>
 kAdd l e fun bJ =>
 z1 2 s k bJ fun bK s =>
 z3 2 s bK fun bM s =>
 z3 2 s A fun bN s =>
 z3 2 s E fun bO s =>
 isoK z4p [bN, bO] s fun bP s =>
 isoK zdK [bM, bP] s fun bS s =>
 z1 2 s k bI fun bU s =>
 z6 2 s bU bS fun _ s =>
 kAdd e (ni 1) fun bV =>
 bE y k z l A B C bV s)
(u y k z l s)) φ c g h d i c bC (ni 0) s)))
((zam φ) [g] s fun bW s =>
 kLen bW s fun bX s =>
 kEql bX (ni 0) fun bY =>
 retK false s (.tup [h, bY]) some)) φ m N p V s))) s0
def z29 (φ : Nat) : List D → LS → (D → LS → Rs) → Rs :=
fun as s k =>
 u1 as fun b f =>
 u1 f fun c g =>
 u1 g fun d h =>
 u0 h (
 kLen b s fun i s =>
 z23 1 s b (some c) (some d) (some i) fun v s =>
 kEql c d fun l =>
 z5 l
(k b s)
(kLen b s fun m s =>
 z23 1 s b none (some c) none fun n s =>
 z23 1 s b (some d) none none fun o s =>
 kApp 1 24 s n o fun e s =>
 kLen e s fun p s =>
 z23 1 s e (some p) (some m) none fun u s =>
 kClr 1 [(.tree [] 0 true)] s u fun _ s =>
 k e s))
def z9h (φ : Nat) : List D → LS → (D → LS → Rs) → Rs :=
fun as s k =>
 u1 as fun h O =>
 u1 O fun i P =>
 u0 P (
 z4o s h fun S s =>
 z7 2 s S fun U s =>
 z4 s U fun V s =>
 isoK (z6B φ) [V] s fun W s =>
 kBsl 1 [(.b false), (.n 0)] [(0, 2, W)] s fun X s =>
 z4o s h fun Y s =>
 z7 2 s Y fun Z s =>
 z4 s Z fun bb s =>
 isoK (z6B φ) [bb] s fun bc s =>
 kBsl 1 [(.b false), (.n 0)] [(0, 2, bc)] s fun bd s =>
 kLen i s fun bf s =>
 lp (fun (_ _ _ _ _ _ _ : D) (_ : LS) => none) (fun (bg : D → D → D → D → D → D → D → LS → Rs) (e l m B C E o : D) (s : LS) =>
 kLss o E fun bh =>
 z5 bh
(z1 1 s C o fun bi s =>
 z4 s bi fun bk s =>
 z4o s e fun bl s =>
 z7 0 s bl fun bm s =>
 z3 2 s bm fun bn s =>
 z4o s e fun bo s =>
 z7 3 s bo fun bp s =>
 z4 s bp fun bu s =>
 z1 1 s bu bk fun bv s =>
 z4 s bv fun bw s =>
 z23 2 s bw none (some (ni 1)) (some (ni 1)) fun bz s =>
 isoK (zoq (zam φ)) [bz] s fun bA s =>
 isoK (tabM z1f (zb φ)) [bn, B, bA] s fun bB s =>
 kAdd o (ni 1) fun bC =>
 bg e l m bB C E bC s)
(z4o s e fun bE s =>
 z7 0 s bE fun bF s =>
 z3 2 s bF fun bG s =>
 isoK (z4r φ) [bG, B] s fun p s =>
 z4o s e fun bH s =>
 z7 2 s bH fun bI s =>
 z4 s bI fun bJ s =>
 z1 2 s bJ (ni 0) fun bK s =>
 z3 2 s bK fun bM s =>
 z4o s e fun bN s =>
 z7 2 s bN fun bO s =>
 z4 s bO fun bP s =>
 isoK (z6B φ) [bP] s fun bS s =>
 isoK z4p [bM, bS] s fun bU s =>
 z9 [(.b false), (.n 0)] s fun u s =>
 z6 2 s u bU fun _ s =>
 kLen p s fun bV s =>
 kEql bV (ni 0) fun f =>
 z0 f true (fun k => z7 1 s u k) s fun bW s =>
 z0 f true (fun k => z4 s bW k) s fun bX s =>
 z0 f true (fun k => kNeq bX (.n 0) fun d => k d s) s fun bY s =>
 zp f bY (.b false) s fun bZ s =>
 z5 bZ
(k (.b false) s)
(jn (fun (cb v cc : D) (s : LS) =>
 kLen v s fun cd s =>
 lp (fun (_ _ _ _ _ _ : D) (_ : LS) => none) (fun (ce : D → D → D → D → D → D → LS → Rs) (c w F G H y : D) (s : LS) =>
 kLss y H fun cf =>
 z5 cf
(z1 1 s G y fun cg s =>
 z4 s cg fun ch s =>
 z4o s c fun ci s =>
 z7 0 s ci fun ck s =>
 z3 2 s ck fun cl s =>
 z4o s c fun cm s =>
 z7 3 s cm fun cn s =>
 z4 s cn fun co s =>
 z1 1 s co ch fun cp s =>
 z4 s cp fun cu s =>
 isoK (tabM z1f (zb φ)) [cl, F, cu] s fun cv s =>
 kAdd y (ni 1) fun cw =>
 ce c w cv G H cw s)
(z4o s c fun cy s =>
 z7 0 s cy fun cz s =>
 z3 2 s cz fun cA s =>
 isoK (z4r φ) [cA, F] s fun cB s =>
 isoK (z7W φ) [cB] s fun I s =>
 z4o s c fun cC s =>
 z7 2 s cC fun cE s =>
 z4 s cE fun cF s =>
 isoK (zdS φ) [cF, I] s fun J s =>
 kExt J 0 s fun cG s =>
 kExt J 1 s fun cH s =>
 kNot cH s fun cI s =>
 z5 cI
(k (.b false) s)
(z4o s c fun cJ s =>
 z7 2 s cJ fun cK s =>
 z6 1 s cK cG fun _ s =>
 z4o s c fun cM s =>
 z7 4 s cM fun cN s =>
 z4 s cN fun cO s =>
 kBsl 1 [(.tree [] 0 true)] [(0, 1, I)] s fun cP s =>
 kApp 1 24 s cO cP fun cS s =>
 z4o s c fun cU s =>
 z7 4 s cU fun cV s =>
 z6 1 s cV cS fun _ s =>
 kLen w s fun cW s =>
 kSub cW (ni 1) fun cX =>
 lp (fun (_ _ _ : D) (_ : LS) => none) (fun (cY : D → D → D → LS → Rs) (z A g : D) (s : LS) =>
 kGeq g (ni 0) fun cZ =>
 z5 cZ
(z4o s z fun db s =>
 z7 3 s db fun dc s =>
 z4 s dc fun dd s =>
 z1 1 s A g fun de s =>
 z4 s de fun df s =>
 z1 1 s A g fun dg s =>
 z4 s dg fun dh s =>
 kAdd dh (ni 1) fun di =>
(z29 φ) [dd, df, di] s fun dk s =>
 z4o s z fun dl s =>
 z7 3 s dl fun dm s =>
 z6 1 s dm dk fun _ s =>
 kSub g (ni 1) fun dn =>
 cY z A dn s)
(k (.b true) s)) φ c w cX s))) φ cb v cc v cd (ni 0) s) fun K =>
 kLen p s fun dp s =>
 kGtr dp (ni 0) fun du =>
 z5 du
(z3 2 s u fun dv s =>
 z1 2 s p (ni 0) fun dw s =>
 z3 2 s dw fun dy s =>
 isoK (z2Q φ) [dv, dy] s fun M s =>
 kExt M 0 s fun dz s =>
 kExt M 1 s fun dA s =>
 z9 [(.b false), (.n 0)] s fun dB s =>
 z9 [(.b false), (.n 0)] s fun N s =>
 z6 2 s dB dz fun _ s =>
 z6 2 s N dA fun _ s =>
 z7 1 s N fun dC s =>
 z4 s dC fun dE s =>
 kNeq dE (.n 0) fun dF =>
 z5 dF
(k (.b false) s)
(K e l m s))
(K e l m s)))) φ h i X bd i bf (ni 0) s)
def z4Q (φ : Nat) : List D → Option D :=
fun as =>
(fun (s : LS) =>
 u1 as fun b c =>
 u0 c (
 zg6 false s b fun d s =>
 z5 d
(retK true s (.tree [] 0 true) some)
(kBsl 0 [(ni 0)] [] s fun e s =>
 kApp 1 8 s e b fun f s =>
 retK true s f some))) s0
def z9V (φ : Nat) (ih : List D → LS → (D → LS → Rs) → Rs) : List D → LS → (D → LS → Rs) → Rs :=
fun as s k =>
 u1 as fun o p =>
 u1 p fun e u =>
 u1 u fun h v =>
 u1 v fun i w =>
 u1 w fun y z =>
 u0 z (
 kLen e s fun A s =>
 z4 s h fun B s =>
 kEql A B fun C =>
 z5 C
(z4 s i fun E s =>
(z9h φ) [E, e] s fun F s =>
 k F s)
(lp (fun (_ _ _ _ _ : D) (_ : LS) => none) (fun (G : D → D → D → D → D → LS → Rs) (f l m g d : D) (s : LS) =>
 z4 s m fun H s =>
 z4o s H fun I s =>
 z7 3 s I fun J s =>
 z4 s J fun K s =>
 kLen K s fun M s =>
 z4 s l fun N s =>
 kLen f s fun O s =>
 kSub N O fun P =>
 kSub M P fun S =>
 kLeq d S fun U =>
 z5 U
(z4 s g fun V s =>
 kAdd d (ni 1) fun W =>
 isoK (z8w (z4Q φ)) [f] s fun n s =>
 kBsl 1 [(ni 0)] [(0, 1, d)] s fun X s =>
 kApp 1 8 s n X fun Y s =>
 dynK (setT (TD17 φ) 111 (.mem ih)) false V [W, Y] s fun Z s =>
 kS (.apart (.c g) (.c n)) s fun _ s =>
 z5 Z
(k (.b true) s)
(kAdd d (ni 1) fun bb =>
 G f l m g bb s))
(k (.b false) s)) φ e h i y o s))
def z6A (φ : Nat) : List D → LS → (D → LS → Rs) → Rs := lp (fun _ _ _ => none) (z9V φ) φ
def zil (φ : Nat) : FTab := setT (TD17 φ) 111 (.mem (z6A φ))
def z8H (φ : Nat) : List D → LS → (D → LS → Rs) → Rs :=
fun as s k =>
 u1 as fun c d =>
 u1 d fun e f =>
 u0 f (
 kBox c s fun g s =>
 kBox e s fun h s =>
 z9 [.nf] s fun b s =>
 z6 1 s b (.fn 111 [h, g, b]) fun _ s =>
 z4 s b fun i s =>
 dynK (zil φ) false i [(ni 0), (.tree [] 0 true)] s fun l s =>
 k l s)
def zf0 (φ : Nat) : List D → Option D :=
fun as =>
(fun (s : LS) =>
 u1 as fun c z =>
 u0 z (
 kLen c s fun A s =>
 kEql A (ni 2) fun B =>
 z5 B
(kBsl 1 [(.tree [] 0 true)] [(0, 1, c)] s fun C s =>
 retK false s C some)
(isoK (zcd φ) [c] s fun i s =>
 kExt i 0 s fun k s =>
 kExt i 1 s fun l s =>
 kLen l s fun E s =>
 kLeq E (ni 1) fun F =>
 z5 F
(kBsl 1 [(.tree [] 0 true)] [(0, 1, c)] s fun G s =>
 retK false s G some)
(isoK (zf3 φ) [c] s fun H s =>
 isoK (z6B φ) [c] s fun I s =>
 isoK z4p [H, I] s fun J s =>
 isoK (z1q φ) [(ni 2)] s fun K s =>
 isoK z4p [J, K] s fun M s =>
 z9 [(.b false), (.n 0)] s fun m s =>
 z6 2 s m M fun _ s =>
 isoK (z1q φ) [k] s fun N s =>
 z9 [(.b false), (.n 0)] s fun o s =>
 z6 2 s o N fun _ s =>
 lp (fun (_ _ _ _ _ _ : D) (_ : LS) => none) (fun (O : D → D → D → D → D → D → LS → Rs) (f p u v w d : D) (s : LS) =>
 z3 2 s d fun P s =>
 z3 2 s v fun S s =>
 isoK (z3R φ) [P, S] s fun U s =>
 kLeq U (ni 0) fun V =>
 z5 V
(z3 2 s d fun W s =>
 z3 2 s d fun X s =>
 isoK z4p [W, X] s fun Y s =>
 z6 2 s d Y fun _ s =>
 kAdd w (ni 1) fun Z =>
 O f p u v Z d s)
(z3 2 s d fun bb s =>
 zI [(.b false), (.n 0)] [(0, 2, bb)] s fun bc s =>
 z9 [(.b false), (.n 0)] s fun g s =>
 z6 2 s g bc fun _ s =>
 z3 2 s g fun bd s =>
 z3 2 s g fun bf s =>
 isoK (z6B φ) [f] s fun bg s =>
 isoK (z7I φ) [bf, bg] s fun bh s =>
 kBsl 1 [(.b false), (.n 0)] [(0, 2, bh)] s fun bi s =>
 isoK (tabM z1f (zb φ)) [bd, f, bi] s fun bk s =>
 z3 2 s g fun bl s =>
 isoK (zim φ) [bk, p, w, u] s fun bm s =>
 zI [(.b false), (.n 0), (.tree [] 0 true), (.tree [] 0 true), (.tree [] 0 true)] [(0, 2, bl), (2, 1, f), (3, 1, bm)] s fun bn s =>
 kBox bn s fun bo s =>
 lp (fun (_ _ : D) (_ : LS) => none) (fun (y : D → D → LS → Rs) (e h : D) (s : LS) =>
 kMul (ni 2) h fun bp =>
 z4o s e fun bu s =>
 z7 3 s bu fun bv s =>
 z4 s bv fun bw s =>
 kLen bw s fun bz s =>
 kLeq bp bz fun bA =>
 z5 bA
((z8H φ) [e, h] s fun bB s =>
 z5 bB
(y e h s)
(kAdd h (ni 1) fun bC =>
 y e bC s))
(z4o s e fun bE s =>
 z7 4 s bE fun bF s =>
 z4 s bF fun bG s =>
 z4o s e fun bH s =>
 z7 2 s bH fun bI s =>
 z4 s bI fun bJ s =>
 kBsl 1 [(.tree [] 0 true)] [(0, 1, bJ)] s fun bK s =>
 kApp 1 24 s bG bK fun bM s =>
 retK false s bM some)) φ bo (ni 1) s)) φ c k l m (ni 0) o s)))) s0
def zf2 (φ : Nat) : List D → Option D :=
fun as =>
(fun (s : LS) =>
 u1 as fun f E =>
 u0 E (
 isoK (z1q φ) [(ni 1)] s fun F s =>
 z9 [(.b false), (.n 0)] s fun l s =>
 z6 2 s l F fun _ s =>
 kLen f s fun G s =>
 lp (fun (_ _ _ _ _ : D) (_ : LS) => none) (fun (H : D → D → D → D → D → LS → Rs) (d c m o g : D) (s : LS) =>
 kLss g o fun I =>
 z5 I
(z1 3 s m g fun J s =>
 z3 3 s J fun K s =>
 z9 [(.b false), (.n 0), (.n 0)] s fun p s =>
 z6 3 s p K fun _ s =>
 z7 2 s p fun M s =>
 z4 s M fun N s =>
 zI [(.b false), (.n 0)] [(1, 1, N)] s fun O s =>
 z9 [(.b false), (.n 0)] s fun h s =>
 z6 2 s h O fun _ s =>
 z3 2 s h fun P s =>
 z3 2 s h fun S s =>
 z3 2 s c fun U s =>
 isoK (z60 φ) [S, U] s fun V s =>
 isoK (z2Q φ) [P, V] s fun u s =>
 kExt u 0 s fun W s =>
 kExt u 1 s fun X s =>
 z9 [(.b false), (.n 0)] s fun v s =>
 z9 [(.b false), (.n 0)] s fun Y s =>
 z6 2 s v W fun _ s =>
 z6 2 s Y X fun _ s =>
 z3 2 s c fun Z s =>
 z3 2 s v fun bb s =>
 isoK z4p [Z, bb] s fun bc s =>
 z6 2 s c bc fun _ s =>
 kAdd g (ni 1) fun bd =>
 H d c m o bd s)
(kLen d s fun w s =>
 z24 2 24 [(.b false), (.n 0)] s w w fun bf s =>
 kLen d s fun bg s =>
 lp (fun (_ _ _ _ _ : D) (_ : LS) => none) (fun (bh : D → D → D → D → D → LS → Rs) (y i z A e : D) (s : LS) =>
 kLss e A fun bi =>
 z5 bi
(z1 3 s z e fun bk s =>
 z3 3 s bk fun bl s =>
 z9 [(.b false), (.n 0), (.n 0)] s fun k s =>
 z6 3 s k bl fun _ s =>
 z3 2 s y fun bm s =>
 z7 2 s k fun bn s =>
 z4 s bn fun bo s =>
 zI [(.b false), (.n 0)] [(1, 1, bo)] s fun bp s =>
 isoK (z2Q φ) [bm, bp] s fun B s =>
 kExt B 0 s fun bu s =>
 kExt B 1 s fun bv s =>
 z9 [(.b false), (.n 0)] s fun C s =>
 z9 [(.b false), (.n 0)] s fun bw s =>
 z6 2 s C bu fun _ s =>
 z6 2 s bw bv fun _ s =>
 z7 0 s k fun bz s =>
 z3 2 s bz fun bA s =>
 z3 2 s C fun bB s =>
 isoK z4p [bA, bB] s fun bC s =>
 z1 2 s i e fun bE s =>
 z6 2 s bE bC fun _ s =>
 kAdd e (ni 1) fun bF =>
 bh y i z A bF s)
(isoK (z7W φ) [i] s fun bG s =>
 retK false s bG some)) φ c bf d bg (ni 0) s)) φ f l f G (ni 0) s)) s0
def z7K (φ : Nat) : List D → Option D :=
fun as =>
(fun (s : LS) =>
 u1 as fun b h =>
 u0 h (
 jn (fun (d e : D) (s : LS) =>
 jn (fun (k l : D) (s : LS) =>
 z2s .u8 k s fun m s =>
 kS (.index (.c (.s [0, 1, 2, 2, 3, 3, 3, 3, 4, 4, 4, 4, 4, 4, 4, 4, 5, 5, 5, 5, 5, 5, 5, 5, 5, 5, 5, 5, 5, 5, 5, 5, 6, 6, 6, 6, 6, 6, 6, 6, 6, 6, 6, 6, 6, 6, 6, 6, 6, 6, 6, 6, 6, 6, 6, 6, 6, 6, 6, 6, 6, 6, 6, 6, 7, 7, 7, 7, 7, 7, 7, 7, 7, 7, 7, 7, 7, 7, 7, 7, 7, 7, 7, 7, 7, 7, 7, 7, 7, 7, 7, 7, 7, 7, 7, 7, 7, 7, 7, 7, 7, 7, 7, 7, 7, 7, 7, 7, 7, 7, 7, 7, 7, 7, 7, 7, 7, 7, 7, 7, 7, 7, 7, 7, 7, 7, 7, 7, 8, 8, 8, 8, 8, 8, 8, 8, 8, 8, 8, 8, 8, 8, 8, 8, 8, 8, 8, 8, 8, 8, 8, 8, 8, 8, 8, 8, 8, 8, 8, 8, 8, 8, 8, 8, 8, 8, 8, 8, 8, 8, 8, 8, 8, 8, 8, 8, 8, 8, 8, 8, 8, 8, 8, 8, 8, 8, 8, 8, 8, 8, 8, 8, 8, 8, 8, 8, 8, 8, 8, 8, 8, 8, 8, 8, 8, 8, 8, 8, 8, 8, 8, 8, 8, 8, 8, 8, 8, 8, 8, 8, 8, 8, 8, 8, 8, 8, 8, 8, 8, 8, 8, 8, 8, 8, 8, 8, 8, 8, 8, 8, 8, 8, 8, 8, 8, 8, 8, 8, 8, 8, 8, 8, 8, 8, 8, 8])) (.c m)) s fun n s =>
 z2s .i64 n s fun o s =>
 kAdd l o fun p =>
 retK false s p some) fun f =>
 kGeq d (.i .u32 (.ofNat 256)) fun u =>
 z5 u
(kShr d (.i .u64 (.ofNat 8)) fun v =>
 kAdd e (ni 8) fun w =>
 f v w s)
(f d e s)) fun g =>
 kGeq b (.i .u32 (.ofNat 65536)) fun y =>
 z5 y
(kShr b (.i .u64 (.ofNat 16)) fun z =>
 g z (ni 16) s)
(g b (ni 0) s))) s0
def z46 (φ : Nat) : List D → Option D :=
fun as =>
(fun (s : LS) =>
 u1 as fun c d =>
 u0 d (
 z5 (.b false)
(z2s .u32 c s fun e s =>
 isoK (z7K φ) [e] s fun f s =>
 retK false s f some)
(isoK (z5q φ) [c] s fun g s =>
 retK false s g some))) s0
def zce (φ : Nat) : List D → Option D :=
fun as =>
(fun (s : LS) =>
 u1 as fun b i =>
 u1 i fun d k =>
 u0 k (
 kLen b s fun l s =>
 kLen d s fun m s =>
 kNeq l m fun n =>
 z5 n
(kLen b s fun o s =>
 kLen d s fun p s =>
 kSub o p fun u =>
 retK false s u some)
(kLen b s fun v s =>
 lp (fun (_ _ _ _ : D) (_ : LS) => none) (fun (w : D → D → D → D → LS → Rs) (e f g c : D) (s : LS) =>
 kLss c g fun y =>
 z5 y
(z1 2 s e c fun z s =>
 z3 2 s z fun A s =>
 z1 2 s f c fun B s =>
 z3 2 s B fun C s =>
 isoK (z3R φ) [A, C] s fun h s =>
 kNeq h (ni 0) fun E =>
 z5 E
(retK false s h some)
(kAdd c (ni 1) fun F =>
 w e f g F s))
(retK false s (ni 0) some)) φ b d v (ni 0) s))) s0
def za0 (φ : Nat) : List D → Option D :=
fun as =>
(fun (s : LS) =>
 u1 as fun b c =>
 u1 c fun d e =>
 u0 e (
 kBox b s fun f s =>
 kBox d s fun g s =>
 z7 0 s f fun h s =>
 z4 s h fun i s =>
 z7 0 s g fun k s =>
 z4 s k fun l s =>
 isoK (zce φ) [i, l] s fun m s =>
 retK false s m some)) s0
def z3Q (φ : Nat) : FTab := setT (zil φ) 118 (.iso (za0 φ))
def z1t (φ : Nat) : List D → LS → (D → LS → Rs) → Rs :=
fun as s k =>
 u1 as fun p u =>
 u1 u fun l v =>
 u1 v fun w y =>
 u1 y fun z A =>
 u0 A (
 kAdd l (ni 1) fun B =>
 lp (fun (_ _ _ _ _ : D) (_ : LS) => none) (fun (C : D → D → D → D → D → LS → Rs) (E F m G g : D) (s : LS) =>
 kLss g m fun H =>
 z5 H
(lp (fun (_ _ _ _ _ _ : D) (_ : LS) => none) (fun (I : D → D → D → D → D → D → LS → Rs) (e h n i o f : D) (s : LS) =>
 kGtr f h fun c =>
 z0 c true (fun k => k i s) s fun J s =>
 z0 c true (fun k => k e s) s fun K s =>
 z0 c true (fun k => k f s) s fun M s =>
 z0 c true (fun k => z1 2 s K M k) s fun N s =>
 z0 c true (fun k => z3 2 s N k) s fun O s =>
 z0 c true (fun k => k e s) s fun P s =>
 z0 c true (fun k => k f s) s fun S s =>
 z0 c true (fun k => kSub S (ni 1) fun d => k d s) s fun U s =>
 z0 c true (fun k => z1 2 s P U k) s fun V s =>
 z0 c true (fun k => z3 2 s V k) s fun W s =>
 z0 c true (fun k => dynK (z3Q φ) false J [O, W] s k) s fun X s =>
 z0 c true (fun k => kLss X (ni 0) fun d => k d s) s fun Y s =>
 zp c Y (.b false) s fun Z s =>
 z5 Z
(kSub f (ni 1) fun bb =>
 kSub f (ni 1) fun bc =>
 z1 2 s e bc fun bd s =>
 z3 2 s bd fun bf s =>
 z1 2 s e f fun bg s =>
 z3 2 s bg fun bh s =>
 z1 2 s e f fun bi s =>
 z6 2 s bi bf fun _ s =>
 z1 2 s e bb fun bk s =>
 z6 2 s bk bh fun _ s =>
 kSub f (ni 1) fun bl =>
 I e h n i o bl s)
(kAdd o (ni 1) fun bm =>
 C e h n i bm s)) φ E F m G g g s)
(k (.tup []) s)) φ p l w z B s)
def z1d (φ : Nat) : List D → LS → (D → LS → Rs) → Rs :=
fun as s k =>
 u1 as fun w y =>
 u1 y fun z A =>
 u1 A fun B C =>
 u1 C fun E F =>
 u1 F fun G H =>
 u0 H (
 lp (fun (_ _ _ _ _ : D) (_ : LS) => none) (fun (I : D → D → D → D → D → LS → Rs) (h i l n o : D) (s : LS) =>
 kMul (ni 2) o fun J =>
 kAdd J (ni 1) fun g =>
 kGeq g i fun K =>
 z5 K
(k (.tup []) s)
(jn (fun (e M f u p m : D) (s : LS) =>
 kAdd f p fun N =>
 z1 2 s e N fun O s =>
 z3 2 s O fun P s =>
 kAdd f m fun S =>
 z1 2 s e S fun U s =>
 z3 2 s U fun V s =>
 dynK (z3Q φ) false u [P, V] s fun W s =>
 kLss W (ni 0) fun X =>
 kNot X s fun Y s =>
 z5 Y
(k (.tup []) s)
(kAdd f p fun Z =>
 kAdd f m fun bb =>
 kAdd f m fun bc =>
 z1 2 s e bc fun bd s =>
 z3 2 s bd fun bf s =>
 kAdd f p fun bg =>
 z1 2 s e bg fun bh s =>
 z3 2 s bh fun bi s =>
 z1 2 s e Z fun bk s =>
 z6 2 s bk bf fun _ s =>
 z1 2 s e bb fun bl s =>
 z6 2 s bl bi fun _ s =>
 I e M f u m s)) fun v =>
 kAdd g (ni 1) fun bm =>
 kLss bm i fun c =>
 z0 c true (fun k => k n s) s fun bn s =>
 z0 c true (fun k => k h s) s fun bo s =>
 z0 c true (fun k => k l s) s fun bp s =>
 z0 c true (fun k => k g s) s fun bu s =>
 z0 c true (fun k => kAdd bp bu fun d => k d s) s fun bv s =>
 z0 c true (fun k => z1 2 s bo bv k) s fun bw s =>
 z0 c true (fun k => z3 2 s bw k) s fun bz s =>
 z0 c true (fun k => k h s) s fun bA s =>
 z0 c true (fun k => k l s) s fun bB s =>
 z0 c true (fun k => k g s) s fun bC s =>
 z0 c true (fun k => kAdd bB bC fun d => k d s) s fun bE s =>
 z0 c true (fun k => kAdd bE (ni 1) fun d => k d s) s fun bF s =>
 z0 c true (fun k => z1 2 s bA bF k) s fun bG s =>
 z0 c true (fun k => z3 2 s bG k) s fun bH s =>
 z0 c true (fun k => dynK (z3Q φ) false bn [bz, bH] s k) s fun bI s =>
 z0 c true (fun k => kLss bI (ni 0) fun d => k d s) s fun bJ s =>
 zp c bJ (.b false) s fun bK s =>
 z5 bK
(kAdd g (ni 1) fun bM =>
 v h i l n o bM s)
(v h i l n o g s))) φ w B E G z s)
def z25 (φ : Nat) : List D → LS → (D → LS → Rs) → Rs :=
fun as s k =>
 u1 as fun u v =>
 u1 v fun l w =>
 u1 w fun y z =>
 u1 z fun A B =>
 u0 B (
 kSub y l fun m =>
 kSub m (ni 1) fun C =>
 kQuo C (ni 2) fun E =>
 lp (fun (_ _ _ _ _ _ : D) (_ : LS) => none) (fun (F : D → D → D → D → D → D → LS → Rs) (e f g n h i : D) (s : LS) =>
 kGeq i (ni 0) fun G =>
 z5 G
((z1d φ) [e, i, h, g, f] s fun Y s =>
 kSub i (ni 1) fun H =>
 F e f g n h H s)
(kSub h (ni 1) fun I =>
 lp (fun (_ _ _ _ _ : D) (_ : LS) => none) (fun (J : D → D → D → D → D → LS → Rs) (b o c p d : D) (s : LS) =>
 kGeq d (ni 0) fun K =>
 z5 K
(kAdd c d fun M =>
 kAdd c d fun N =>
 z1 2 s b N fun O s =>
 z3 2 s O fun P s =>
 z1 2 s b c fun S s =>
 z3 2 s S fun U s =>
 z1 2 s b c fun V s =>
 z6 2 s V P fun _ s =>
 z1 2 s b M fun W s =>
 z6 2 s W U fun _ s =>
(z1d φ) [b, p, d, c, o] s fun Z s =>
 kSub d (ni 1) fun X =>
 J b o c p X s)
(k (.tup []) s)) φ e f g n I s)) φ u A l (ni 0) m E s)
def z2o (φ : Nat) : List D → LS → (D → LS → Rs) → Rs :=
fun as s k =>
 u1 as fun b c =>
 u0 c (
 z2s .u64 b s fun d s =>
 isoK (z46 φ) [d] s fun e s =>
 kShl (.i .u64 (.ofNat 1)) e fun f =>
 k f s)
def z2z (φ : Nat) : List D → Option D :=
fun as =>
(fun (s : LS) =>
 u1 as fun b c =>
 u0 c (
 z4o s b fun d s =>
 z4 s d fun e s =>
 z4o s b fun f s =>
 z4 s f fun g s =>
 kShl g (.i .u64 (.ofNat 13)) fun h =>
 z12 .xor e h fun k =>
 z4o s b fun l s =>
 z6 1 s l k fun _ s =>
 z4o s b fun m s =>
 z4 s m fun n s =>
 z4o s b fun o s =>
 z4 s o fun p s =>
 kShr p (.i .u64 (.ofNat 7)) fun u =>
 z12 .xor n u fun v =>
 z4o s b fun w s =>
 z6 1 s w v fun _ s =>
 z4o s b fun y s =>
 z4 s y fun z s =>
 z4o s b fun A s =>
 z4 s A fun B s =>
 kShl B (.i .u64 (.ofNat 17)) fun C =>
 z12 .xor z C fun E =>
 z4o s b fun F s =>
 z6 1 s F E fun _ s =>
 z4o s b fun G s =>
 z4 s G fun H s =>
 retK false s H some)) s0
def z1v (φ : Nat) : List D → LS → (D → LS → Rs) → Rs :=
fun as s k =>
 u1 as fun y z =>
 u1 z fun e A =>
 u1 A fun B C =>
 u1 C fun bu E =>
 u0 E (
 kSub B e fun b =>
 kGeq b (ni 8) fun F =>
 z5 F
(z2s .u64 b s fun G s =>
 z9 [(.i .u64 (.ofNat 0))] s fun p s =>
 z6 1 s p G fun _ s =>
(z2o φ) [b] s fun H s =>
 kQuo b (ni 4) fun I =>
 kMul I (ni 2) fun J =>
 kAdd e J fun K =>
 kSub K (ni 1) fun M =>
 lp (fun (_ _ _ _ _ _ : D) (_ : LS) => none) (fun (N : D → D → D → D → D → D → LS → Rs) (u f c g h l : D) (s : LS) =>
 kQuo c (ni 4) fun O =>
 kMul O (ni 2) fun P =>
 kAdd f P fun S =>
 kAdd S (ni 1) fun U =>
 kLeq l U fun V =>
 z5 V
(isoK (z2z φ) [g] s fun W s =>
 kSub h (.i .u64 (.ofNat 1)) fun X =>
 kAnd W X fun Y =>
 z2s .i64 Y s fun m s =>
 jn (fun (d n Z bb bc o v : D) (s : LS) =>
 kAdd n v fun bd =>
 kAdd n v fun bf =>
 z1 2 s d bf fun bg s =>
 z3 2 s bg fun bh s =>
 z1 2 s d o fun bi s =>
 z3 2 s bi fun bk s =>
 z1 2 s d o fun bl s =>
 z6 2 s bl bh fun _ s =>
 z1 2 s d bd fun bm s =>
 z6 2 s bm bk fun _ s =>
 kAdd o (ni 1) fun bn =>
 N d n Z bb bc bn s) fun w =>
 kGeq m c fun bo =>
 z5 bo
(kSub m c fun bp =>
 w u f c g h l bp s)
(w u f c g h l m s))
(k (.tup []) s)) φ y e b p H M s)
(k (.tup []) s))
def zS (φ : Nat) : List D → LS → (D → LS → Rs) → Rs :=
fun as s k =>
 u1 as fun d f =>
 u1 f fun b g =>
 u1 g fun c h =>
 u1 h fun e i =>
 u1 i fun l m =>
 u0 m (
 z1 2 s d c fun n s =>
 z3 2 s n fun o s =>
 z1 2 s d b fun p s =>
 z3 2 s p fun u s =>
 dynK (z3Q φ) false l [o, u] s fun v s =>
 kLss v (ni 0) fun w =>
 z5 w
(z4o s e fun y s =>
 z4 s y fun z s =>
 kAdd z (ni 1) fun A =>
 z4o s e fun B s =>
 z6 1 s B A fun _ s =>
 k (.tup [c, b]) s)
(k (.tup [b, c]) s))
def z1m (φ : Nat) : List D → LS → (D → LS → Rs) → Rs :=
fun as s k =>
 u1 as fun b h =>
 u1 h fun i l =>
 u1 l fun m n =>
 u1 n fun o p =>
 u1 p fun c u =>
 u1 u fun d v =>
 u0 v (
(zS φ) [b, i, m, c, d] s fun e s =>
 kExt e 0 s fun w s =>
 kExt e 1 s fun y s =>
(zS φ) [b, y, o, c, d] s fun f s =>
 kExt f 0 s fun z s =>
 kExt f 1 s fun B s =>
(zS φ) [b, w, z, c, d] s fun g s =>
 kExt g 0 s fun C s =>
 kExt g 1 s fun A s =>
 k A s)
def zD (φ : Nat) : List D → LS → (D → LS → Rs) → Rs :=
fun as s k =>
 u1 as fun c d =>
 u1 d fun b e =>
 u1 e fun f g =>
 u1 g fun h i =>
 u0 i (
 kSub b (ni 1) fun l =>
 kAdd b (ni 1) fun m =>
(z1m φ) [c, l, b, m, f, h] s fun n s =>
 k n s)
def z1I (φ : Nat) : List D → LS → (D → LS → Rs) → Rs :=
fun as s k =>
 u1 as fun c u =>
 u1 u fun f v =>
 u1 v fun w y =>
 u1 y fun d z =>
 u0 z (
 kSub w f fun e =>
 z9 [(ni 0)] s fun b s =>
 kQuo e (ni 4) fun A =>
 kMul A (ni 1) fun B =>
 kAdd f B fun i =>
 kQuo e (ni 4) fun C =>
 kMul C (ni 2) fun E =>
 kAdd f E fun g =>
 kQuo e (ni 4) fun F =>
 kMul F (ni 3) fun G =>
 kAdd f G fun l =>
 jn (fun (H h : D) (s : LS) =>
 z4 s H fun m s =>
 kEql m (ni 0) fun I =>
 z5 I
(k (.tup [h, (ni 1)]) s)
(kEql m (ni 12) fun J =>
 z5 J
(k (.tup [h, (ni 2)]) s)
(k (.tup [h, (ni 0)]) s))) fun n =>
 kGeq e (ni 8) fun K =>
 z5 K
(jn (fun (M N o O P S : D) (s : LS) =>
(z1m φ) [M, O, P, S, o, N] s fun U s =>
 n o U s) fun p =>
 kGeq e (ni 50) fun V =>
 z5 V
((zD φ) [c, i, b, d] s fun W s =>
(zD φ) [c, g, b, d] s fun X s =>
(zD φ) [c, l, b, d] s fun Y s =>
 p c d b W X Y s)
(p c d b i g l s))
(n b g s))
def z1z (φ : Nat) : List D → LS → (D → LS → Rs) → Rs :=
fun as s k =>
 u1 as fun e f =>
 u1 f fun g h =>
 u1 h fun i l =>
 u1 l fun E m =>
 u0 m (
 kSub i (ni 1) fun n =>
 lp (fun (_ _ _ : D) (_ : LS) => none) (fun (o : D → D → D → LS → Rs) (b c d : D) (s : LS) =>
 kLss c d fun p =>
 z5 p
(z1 2 s b d fun u s =>
 z3 2 s u fun v s =>
 z1 2 s b c fun w s =>
 z3 2 s w fun y s =>
 z1 2 s b c fun z s =>
 z6 2 s z v fun _ s =>
 z1 2 s b d fun A s =>
 z6 2 s A y fun _ s =>
 kAdd c (ni 1) fun B =>
 kSub d (ni 1) fun C =>
 o b B C s)
(k (.tup []) s)) φ e g n s)
def zU (φ : Nat) : List D → LS → (D → LS → Rs) → Rs :=
fun as s k =>
 u1 as fun U V =>
 u1 V fun K W =>
 u1 W fun X Y =>
 u1 Y fun Z bb =>
 u0 bb (
 kAdd K (ni 1) fun bc =>
 lp (fun (_ _ _ _ _ _ : D) (_ : LS) => none) (fun (bd : D → D → D → D → D → D → LS → Rs) (bf bg bh bi bk M : D) (s : LS) =>
 kLss M (ni 5) fun bl =>
 z5 bl
(jn (fun (bm bn bo bp bu bv : D) (s : LS) =>
 kAdd bv (ni 1) fun bw =>
 bd bm bn bo bp bu bw s) fun y =>
 lp (fun (_ _ _ _ _ _ : D) (_ : LS) => none) (fun (bz : D → D → D → D → D → D → LS → Rs) (f n m o e z : D) (s : LS) =>
 kLss e m fun c =>
 z0 c true (fun k => k o s) s fun bA s =>
 z0 c true (fun k => k f s) s fun bB s =>
 z0 c true (fun k => k e s) s fun bC s =>
 z0 c true (fun k => z1 2 s bB bC k) s fun bE s =>
 z0 c true (fun k => z3 2 s bE k) s fun bF s =>
 z0 c true (fun k => k f s) s fun bG s =>
 z0 c true (fun k => k e s) s fun bH s =>
 z0 c true (fun k => kSub bH (ni 1) fun d => k d s) s fun bI s =>
 z0 c true (fun k => z1 2 s bG bI k) s fun bJ s =>
 z0 c true (fun k => z3 2 s bJ k) s fun bK s =>
 z0 c true (fun k => dynK (z3Q φ) false bA [bF, bK] s k) s fun bM s =>
 z0 c true (fun k => kLss bM (ni 0) fun d => k d s) s fun bN s =>
 z0 c true (fun k => kNot bN s k) s fun bO s =>
 zp c bO (.b false) s fun bP s =>
 z5 bP
(kAdd e (ni 1) fun bS =>
 bz f n m o bS z s)
(kEql e m fun bU =>
 z5 bU
(k (.b true) s)
(kSub m n fun bV =>
 kLss bV (ni 50) fun bW =>
 z5 bW
(k (.b false) s)
(kSub e (ni 1) fun bX =>
 kSub e (ni 1) fun bY =>
 z1 2 s f bY fun bZ s =>
 z3 2 s bZ fun cb s =>
 z1 2 s f e fun cc s =>
 z3 2 s cc fun cd s =>
 z1 2 s f e fun ce s =>
 z6 2 s ce cb fun _ s =>
 z1 2 s f bX fun cf s =>
 z6 2 s cf cd fun _ s =>
 jn (fun (N O A P p S : D) (s : LS) =>
 kSub A p fun cg =>
 kGeq cg (ni 2) fun ch =>
 z5 ch
(kAdd p (ni 1) fun ci =>
 lp (fun (_ _ _ _ _ _ _ : D) (_ : LS) => none) (fun (ck : D → D → D → D → D → D → D → LS → Rs) (g B u v C E i : D) (s : LS) =>
 kLss i u fun cl =>
 z5 cl
(z1 2 s g i fun cm s =>
 z3 2 s cm fun cn s =>
 kSub i (ni 1) fun co =>
 z1 2 s g co fun cp s =>
 z3 2 s cp fun cu s =>
 dynK (z3Q φ) false v [cn, cu] s fun cv s =>
 kLss cv (ni 0) fun cw =>
 kNot cw s fun cy s =>
 z5 cy
(y g B u v C E s)
(kSub i (ni 1) fun cz =>
 kSub i (ni 1) fun cA =>
 z1 2 s g cA fun cB s =>
 z3 2 s cB fun cC s =>
 z1 2 s g i fun cE s =>
 z3 2 s cE fun cF s =>
 z1 2 s g i fun cG s =>
 z6 2 s cG cC fun _ s =>
 z1 2 s g cz fun cH s =>
 z6 2 s cH cF fun _ s =>
 kAdd i (ni 1) fun cI =>
 ck g B u v C E cI s))
(y g B u v C E s)) φ N O A P p S ci s)
(y N O A P p S s)) fun F =>
 kSub e n fun cJ =>
 kGeq cJ (ni 2) fun cK =>
 z5 cK
(kSub e (ni 1) fun cM =>
 lp (fun (_ _ _ _ _ _ _ : D) (_ : LS) => none) (fun (cN : D → D → D → D → D → D → D → LS → Rs) (h G H w I J l : D) (s : LS) =>
 kGeq l (ni 1) fun cO =>
 z5 cO
(z1 2 s h l fun cP s =>
 z3 2 s cP fun cS s =>
 kSub l (ni 1) fun cU =>
 z1 2 s h cU fun cV s =>
 z3 2 s cV fun cW s =>
 dynK (z3Q φ) false w [cS, cW] s fun cX s =>
 kLss cX (ni 0) fun cY =>
 kNot cY s fun cZ s =>
 z5 cZ
(F h G H w I J s)
(kSub l (ni 1) fun db =>
 kSub l (ni 1) fun dc =>
 z1 2 s h dc fun dd s =>
 z3 2 s dd fun de s =>
 z1 2 s h l fun df s =>
 z3 2 s df fun dg s =>
 z1 2 s h l fun dh s =>
 z6 2 s dh de fun _ s =>
 z1 2 s h db fun di s =>
 z6 2 s di dg fun _ s =>
 kSub l (ni 1) fun dk =>
 cN h G H w I J dk s))
(F h G H w I J s)) φ f n m o e z cM s)
(F f n m o e z s))))) φ bf bg bh bi bk M s)
(k (.b false) s)) φ U K X Z bc (ni 0) s)
def z1k (φ : Nat) : List D → LS → (D → LS → Rs) → Rs :=
fun as s k =>
 u1 as fun i z =>
 u1 z fun l A =>
 u1 A fun B C =>
 u1 C fun y E =>
 u1 E fun F G =>
 u0 G (
 z1 2 s i y fun H s =>
 z3 2 s H fun I s =>
 z1 2 s i l fun J s =>
 z3 2 s J fun K s =>
 z1 2 s i l fun M s =>
 z6 2 s M I fun _ s =>
 z1 2 s i y fun N s =>
 z6 2 s N K fun _ s =>
 kAdd l (ni 1) fun O =>
 kSub B (ni 1) fun P =>
 lp (fun (_ _ _ _ _ : D) (_ : LS) => none) (fun (S : D → D → D → D → D → LS → Rs) (U V W X Y : D) (s : LS) =>
 lp (fun (_ _ _ _ _ : D) (_ : LS) => none) (fun (Z : D → D → D → D → D → LS → Rs) (m o p n u : D) (s : LS) =>
 kLeq n u fun c =>
 z0 c true (fun k => k p s) s fun bb s =>
 z0 c true (fun k => k m s) s fun bc s =>
 z0 c true (fun k => k o s) s fun bd s =>
 z0 c true (fun k => z1 2 s bc bd k) s fun bf s =>
 z0 c true (fun k => z3 2 s bf k) s fun bg s =>
 z0 c true (fun k => k m s) s fun bh s =>
 z0 c true (fun k => k n s) s fun bi s =>
 z0 c true (fun k => z1 2 s bh bi k) s fun bk s =>
 z0 c true (fun k => z3 2 s bk k) s fun bl s =>
 z0 c true (fun k => dynK (z3Q φ) false bb [bg, bl] s k) s fun bm s =>
 z0 c true (fun k => kLss bm (ni 0) fun d => k d s) s fun bn s =>
 z0 c true (fun k => kNot bn s k) s fun bo s =>
 zp c bo (.b false) s fun bp s =>
 z5 bp
(kAdd n (ni 1) fun bu =>
 Z m o p bu u s)
(lp (fun (_ _ _ _ _ : D) (_ : LS) => none) (fun (bv : D → D → D → D → D → LS → Rs) (f v w g h : D) (s : LS) =>
 kLeq g h fun e =>
 z0 e true (fun k => k w s) s fun bw s =>
 z0 e true (fun k => k f s) s fun bz s =>
 z0 e true (fun k => k v s) s fun bA s =>
 z0 e true (fun k => z1 2 s bz bA k) s fun bB s =>
 z0 e true (fun k => z3 2 s bB k) s fun bC s =>
 z0 e true (fun k => k f s) s fun bE s =>
 z0 e true (fun k => k h s) s fun bF s =>
 z0 e true (fun k => z1 2 s bE bF k) s fun bG s =>
 z0 e true (fun k => z3 2 s bG k) s fun bH s =>
 z0 e true (fun k => dynK (z3Q φ) false bw [bC, bH] s k) s fun bI s =>
 z0 e true (fun k => kLss bI (ni 0) fun d => k d s) s fun bJ s =>
 zp e bJ (.b false) s fun bK s =>
 z5 bK
(kSub h (ni 1) fun bM =>
 bv f v w g bM s)
(kGtr g h fun bN =>
 z5 bN
(k g s)
(z1 2 s f h fun bO s =>
 z3 2 s bO fun bP s =>
 z1 2 s f g fun bS s =>
 z3 2 s bS fun bU s =>
 z1 2 s f g fun bV s =>
 z6 2 s bV bP fun _ s =>
 z1 2 s f h fun bW s =>
 z6 2 s bW bU fun _ s =>
 kAdd g (ni 1) fun bX =>
 kSub h (ni 1) fun bY =>
 S f v w bX bY s))) φ m o p n u s)) φ U V W X Y s) φ i l F O P s)
def z1X (φ : Nat) : List D → LS → (D → LS → Rs) → Rs :=
fun as s k =>
 u1 as fun p N =>
 u1 N fun w O =>
 u1 O fun P S =>
 u1 S fun M U =>
 u1 U fun V W =>
 u0 W (
 z1 2 s p M fun X s =>
 z3 2 s X fun Y s =>
 z1 2 s p w fun Z s =>
 z3 2 s Z fun bb s =>
 z1 2 s p w fun bc s =>
 z6 2 s bc Y fun _ s =>
 z1 2 s p M fun bd s =>
 z6 2 s bd bb fun _ s =>
 kAdd w (ni 1) fun bf =>
 kSub P (ni 1) fun bg =>
 lp (fun (_ _ _ _ _ : D) (_ : LS) => none) (fun (bh : D → D → D → D → D → LS → Rs) (y C E z F : D) (s : LS) =>
 kLeq z F fun f =>
 z0 f true (fun k => k E s) s fun bi s =>
 z0 f true (fun k => k y s) s fun bk s =>
 z0 f true (fun k => k z s) s fun bl s =>
 z0 f true (fun k => z1 2 s bk bl k) s fun bm s =>
 z0 f true (fun k => z3 2 s bm k) s fun bn s =>
 z0 f true (fun k => k y s) s fun bo s =>
 z0 f true (fun k => k C s) s fun bp s =>
 z0 f true (fun k => z1 2 s bo bp k) s fun bu s =>
 z0 f true (fun k => z3 2 s bu k) s fun bv s =>
 z0 f true (fun k => dynK (z3Q φ) false bi [bn, bv] s k) s fun bw s =>
 z0 f true (fun k => kLss bw (ni 0) fun d => k d s) s fun bz s =>
 zp f bz (.b false) s fun bA s =>
 z5 bA
(kAdd z (ni 1) fun bB =>
 bh y C E bB F s)
(lp (fun (_ _ _ _ _ : D) (_ : LS) => none) (fun (bC : D → D → D → D → D → LS → Rs) (g u G n l : D) (s : LS) =>
 kLeq n l fun c =>
 z0 c true (fun k => k G s) s fun bE s =>
 z0 c true (fun k => k g s) s fun bF s =>
 z0 c true (fun k => k l s) s fun bG s =>
 z0 c true (fun k => z1 2 s bF bG k) s fun bH s =>
 z0 c true (fun k => z3 2 s bH k) s fun bI s =>
 z0 c true (fun k => k g s) s fun bJ s =>
 z0 c true (fun k => k u s) s fun bK s =>
 z0 c true (fun k => z1 2 s bJ bK k) s fun bM s =>
 z0 c true (fun k => z3 2 s bM k) s fun bN s =>
 z0 c true (fun k => dynK (z3Q φ) false bE [bI, bN] s k) s fun bO s =>
 z0 c true (fun k => kLss bO (ni 0) fun d => k d s) s fun bP s =>
 z0 c true (fun k => kNot bP s k) s fun bS s =>
 zp c bS (.b false) s fun bU s =>
 z5 bU
(kSub l (ni 1) fun bV =>
 bC g u G n bV s)
(kGtr n l fun bW =>
 z5 bW
(z1 2 s g u fun bX s =>
 z3 2 s bX fun bY s =>
 z1 2 s g l fun bZ s =>
 z3 2 s bZ fun cb s =>
 z1 2 s g l fun cc s =>
 z6 2 s cc bY fun _ s =>
 z1 2 s g u fun cd s =>
 z6 2 s cd cb fun _ s =>
 k (.tup [l, (.b true)]) s)
(z1 2 s g l fun ce s =>
 z3 2 s ce fun cf s =>
 z1 2 s g n fun cg s =>
 z3 2 s cg fun ch s =>
 z1 2 s g n fun ci s =>
 z6 2 s ci cf fun _ s =>
 z1 2 s g l fun ck s =>
 z6 2 s ck ch fun _ s =>
 kAdd n (ni 1) fun cl =>
 kSub l (ni 1) fun cm =>
 lp (fun (_ _ _ _ _ : D) (_ : LS) => none) (fun (cn : D → D → D → D → D → LS → Rs) (co cp cu cv cw : D) (s : LS) =>
 lp (fun (_ _ _ _ _ : D) (_ : LS) => none) (fun (cy : D → D → D → D → D → LS → Rs) (A H I B J : D) (s : LS) =>
 kLeq B J fun h =>
 z0 h true (fun k => k I s) s fun cz s =>
 z0 h true (fun k => k A s) s fun cA s =>
 z0 h true (fun k => k B s) s fun cB s =>
 z0 h true (fun k => z1 2 s cA cB k) s fun cC s =>
 z0 h true (fun k => z3 2 s cC k) s fun cE s =>
 z0 h true (fun k => k A s) s fun cF s =>
 z0 h true (fun k => k H s) s fun cG s =>
 z0 h true (fun k => z1 2 s cF cG k) s fun cH s =>
 z0 h true (fun k => z3 2 s cH k) s fun cI s =>
 z0 h true (fun k => dynK (z3Q φ) false cz [cE, cI] s k) s fun cJ s =>
 z0 h true (fun k => kLss cJ (ni 0) fun d => k d s) s fun cK s =>
 zp h cK (.b false) s fun cM s =>
 z5 cM
(kAdd B (ni 1) fun cN =>
 cy A H I cN J s)
(lp (fun (_ _ _ _ _ : D) (_ : LS) => none) (fun (cO : D → D → D → D → D → LS → Rs) (i v K o m : D) (s : LS) =>
 kLeq o m fun e =>
 z0 e true (fun k => k K s) s fun cP s =>
 z0 e true (fun k => k i s) s fun cS s =>
 z0 e true (fun k => k m s) s fun cU s =>
 z0 e true (fun k => z1 2 s cS cU k) s fun cV s =>
 z0 e true (fun k => z3 2 s cV k) s fun cW s =>
 z0 e true (fun k => k i s) s fun cX s =>
 z0 e true (fun k => k v s) s fun cY s =>
 z0 e true (fun k => z1 2 s cX cY k) s fun cZ s =>
 z0 e true (fun k => z3 2 s cZ k) s fun db s =>
 z0 e true (fun k => dynK (z3Q φ) false cP [cW, db] s k) s fun dc s =>
 z0 e true (fun k => kLss dc (ni 0) fun d => k d s) s fun dd s =>
 z0 e true (fun k => kNot dd s k) s fun de s =>
 zp e de (.b false) s fun df s =>
 z5 df
(kSub m (ni 1) fun dg =>
 cO i v K o dg s)
(kGtr o m fun dh =>
 z5 dh
(z1 2 s i v fun di s =>
 z3 2 s di fun dk s =>
 z1 2 s i m fun dl s =>
 z3 2 s dl fun dm s =>
 z1 2 s i m fun dn s =>
 z6 2 s dn dk fun _ s =>
 z1 2 s i v fun dp s =>
 z6 2 s dp dm fun _ s =>
 k (.tup [m, (.b false)]) s)
(z1 2 s i m fun du s =>
 z3 2 s du fun dv s =>
 z1 2 s i o fun dw s =>
 z3 2 s dw fun dy s =>
 z1 2 s i o fun dz s =>
 z6 2 s dz dv fun _ s =>
 z1 2 s i m fun dA s =>
 z6 2 s dA dy fun _ s =>
 kAdd o (ni 1) fun dB =>
 kSub m (ni 1) fun dC =>
 cn i v K dB dC s))) φ A H I B J s)) φ co cp cu cv cw s) φ g u G cl cm s))) φ y C E z F s)) φ p w V bf bg s)
def z3o (φ : Nat) (ih : List D → LS → (D → LS → Rs) → Rs) : List D → LS → (D → LS → Rs) → Rs :=
fun as s k =>
 u1 as fun bm bn =>
 u1 bn fun bo bp =>
 u1 bp fun bu bv =>
 u1 bv fun bw bz =>
 u1 bz fun bA bB =>
 u0 bB (
 lp (fun (_ _ _ _ _ _ _ : D) (_ : LS) => none) (fun (A : D → D → D → D → D → D → D → LS → Rs) (n h i B o C N : D) (s : LS) =>
 kSub i h fun E =>
 kLeq E (ni 12) fun bC =>
 z5 bC
((z1t φ) [n, h, i, o] s fun cz s =>
 k (.tup []) s)
(kEql B (ni 0) fun bE =>
 z5 bE
((z25 φ) [n, h, i, o] s fun cA s =>
 k (.tup []) s)
(jn (fun (w p u O y P S U : D) (s : LS) =>
(z1I φ) [w, p, u, y] s fun V s =>
 kExt V 0 s fun W s =>
 kExt V 1 s fun X s =>
 jn (fun (F G H Y I z J Z bb bF : D) (s : LS) =>
 jn (fun (e g l v f bG bH bI K : D) (s : LS) =>
 kGtr g (ni 0) fun c =>
 z0 c true (fun k => k f s) s fun bJ s =>
 z0 c true (fun k => k e s) s fun bK s =>
 z0 c true (fun k => k g s) s fun bM s =>
 z0 c true (fun k => kSub bM (ni 1) fun d => k d s) s fun bN s =>
 z0 c true (fun k => z1 2 s bK bN k) s fun bO s =>
 z0 c true (fun k => z3 2 s bO k) s fun bP s =>
 z0 c true (fun k => k e s) s fun bS s =>
 z0 c true (fun k => k K s) s fun bU s =>
 z0 c true (fun k => z1 2 s bS bU k) s fun bV s =>
 z0 c true (fun k => z3 2 s bV k) s fun bW s =>
 z0 c true (fun k => dynK (z3Q φ) false bJ [bP, bW] s k) s fun bX s =>
 z0 c true (fun k => kLss bX (ni 0) fun d => k d s) s fun bY s =>
 z0 c true (fun k => kNot bY s k) s fun bZ s =>
 zp c bZ (.b false) s fun cb s =>
 z5 cb
((z1k φ) [e, g, l, K, f] s fun cc s =>
 A e cc l v f bG bH s)
((z1X φ) [e, g, l, K, f] s fun bc s =>
 kExt bc 0 s fun m s =>
 kExt bc 1 s fun bd s =>
 kSub m g fun bf =>
 kSub l m fun bg =>
 kQuo bI (ni 8) fun bh =>
 kLss bf bg fun cd =>
 z5 cd
(kGeq bf bh fun ce =>
 ih [e, g, m, v, f] s fun cB s =>
 kAdd m (ni 1) fun cf =>
 A e cf l v f ce bd s)
(kGeq bg bh fun cg =>
 kAdd m (ni 1) fun ch =>
 ih [e, ch, l, v, f] s fun cC s =>
 A e g m v f cg bd s))) fun bi =>
 z0 z true (fun k => k J s) s fun ci s =>
 zp z ci (.b false) s fun M s =>
 z0 M true (fun k => k bF s) s fun ck s =>
 z0 M true (fun k => kEql ck (ni 1) fun d => k d s) s fun cl s =>
 zp M cl (.b false) s fun cm s =>
 z5 cm
((zU φ) [F, G, H, I] s fun cn s =>
 z5 cn
(k (.tup []) s)
(bi F G H Y I z J Z bb s))
(bi F G H Y I z J Z bb s)) fun bk =>
 kEql X (ni 2) fun co =>
 z5 co
((z1z φ) [w, p, u, y] s fun cE s =>
 kSub u (ni 1) fun cp =>
 kSub W p fun cu =>
 kSub cp cu fun cv =>
 bk w p u O y P S U cv (ni 1) s)
(bk w p u O y P S U W X s)) fun bl =>
 kNot C s fun cw s =>
 z5 cw
((z1v φ) [n, h, i, o] s fun cF s =>
 kSub B (ni 1) fun cy =>
 bl n h i cy o C N E s)
(bl n h i B o C N E s)))) φ bm bo bu bw bA (.b true) (.b true) s)
def z2h (φ : Nat) : List D → LS → (D → LS → Rs) → Rs := lp (fun _ _ _ => none) (z3o φ) φ
def z1B (φ : Nat) : List D → LS → (D → LS → Rs) → Rs :=
fun as s k =>
 u1 as fun b d =>
 u1 d fun e f =>
 u0 f (
 kLen b s fun c s =>
 z2s .u64 c s fun g s =>
 isoK (z46 φ) [g] s fun h s =>
(z2h φ) [b, (ni 0), c, h, e] s fun i s =>
 k (.tup []) s)
def z57 (φ : Nat) : List D → Option D :=
fun as =>
(fun (s : LS) =>
 u1 as fun f w =>
 u0 w (
 kLen f s fun y s =>
 kLss y (ni 2) fun z =>
 z5 z
(retK false s (.tree [] 0 true) some)
(isoK (z9g φ) [f] s fun g s =>
 kLen g s fun A s =>
 lp (fun (_ _ _ _ : D) (_ : LS) => none) (fun (B : D → D → D → D → LS → Rs) (b h i c : D) (s : LS) =>
 kLss c i fun C =>
 z5 C
(z1 2 s h c fun E s =>
 z3 2 s E fun F s =>
 z9 [(.tree [] 0 true), (ni 0)] s fun d s =>
 z6 2 s d F fun _ s =>
 z7 0 s d fun G s =>
 z4 s G fun H s =>
 isoK (zf2 φ) [H] s fun I s =>
 isoK (zf0 φ) [I] s fun k s =>
 kLen k s fun J s =>
 lp (fun (_ _ _ _ _ _ _ _ : D) (_ : LS) => none) (fun (K : D → D → D → D → D → D → D → D → LS → Rs) (l m n o p u v e : D) (s : LS) =>
 kLss e v fun M =>
 z5 M
(z1 1 s u e fun N s =>
 z4 s N fun O s =>
 z7 1 s m fun P s =>
 z4 s P fun S s =>
 zI [(.tree [] 0 true), (ni 0)] [(0, 1, O), (1, 1, S)] s fun U s =>
 kBsl 1 [(.tree [] 0 true), (ni 0)] [(0, 2, U)] s fun V s =>
 kApp 2 32 s l V fun W s =>
 kAdd e (ni 1) fun X =>
 K W m n o p u v X s)
(kAdd p (ni 1) fun Y =>
 B l n o Y s)) φ b d h i c k J (ni 0) s)
((z1B φ) [b, (.fn 118 [])] s fun Z s =>
 retK false s b some)) φ (.tree [] 0 true) g A (ni 0) s))) s0
def zdC : List D := [(qi [(false,3600),(false,0),(true,2432),(false,0),(false,376),(false,0),(true,32),(false,0),(false,1)] true)]
def zd9 : D := (.tree [(.tree [(.b true), (.n 18), (.b false), (.n 0), (.b false), (.n 1)] 3 true), (ni 1), (.tree [(.b true), (.n 2), (.b false), (.n 0), (.b false), (.n 1)] 3 true), (ni 1), (.tree [(.b false), (.n 100), (.b false), (.n 0), (.b true), (.n 12), (.b false), (.n 0), (.b false), (.n 1)] 5 true), (ni 1)] 3 false)
def z8D : List (List D × D) := [(zdC, zd9)]
def z4q (φ : Nat) : List D → Option D :=
fun as =>
(fun (s : LS) =>
 u1 as fun f i =>
 u0 i (
 isoK (z5n φ) [f] s fun g s =>
 kNeq g (ni 0) fun e =>
 z0 e false (fun k => k f s) s fun l s =>
 z0 e false (fun k => kLen l s k) s fun m s =>
 z0 e false (fun k => kLss m (ni 2) fun d => k d s) s fun n s =>
 zp e (.b true) n s fun o s =>
 z5 o
(retK false s (.tup [(.b false), g]) some)
(isoK (tabM z8D (z57 φ)) [f] s fun h s =>
 kLen h s fun p s =>
 kEql p (ni 1) fun c =>
 z0 c true (fun k => k h s) s fun u s =>
 z0 c true (fun k => z1 2 s u (ni 0) k) s fun v s =>
 z0 c true (fun k => z7 1 s v k) s fun w s =>
 z0 c true (fun k => z4 s w k) s fun y s =>
 z0 c true (fun k => kEql y (ni 1) fun d => k d s) s fun z s =>
 zp c z (.b false) s fun A s =>
 retK false s (.tup [A, (ni 0)]) some))) s0
def za (φ : Nat) : List D → Option D :=
fun as =>
(fun (s : LS) =>
 u1 as fun f g =>
 u0 g (
 kBox f s fun b s =>
 z3 1 s b fun h s =>
 isoK (z2q φ) [h] s fun c s =>
 kNeq c (ni 0) fun i =>
 z5 i
(retK false s c some)
(z7 0 s b fun k s =>
 z4 s k fun l s =>
 isoK (z4q φ) [l] s fun d s =>
 kExt d 0 s fun m s =>
 kExt d 1 s fun e s =>
 kNeq e (ni 0) fun n =>
 z5 n
(retK false s e some)
(kNot m s fun o s =>
 z5 o
(retK false s (ni 8) some)
(retK false s (ni 0) some))))) s0
def z8s : List D := [(.agg [(qi [(true,2),(false,0),(false,1)] false)])]
def z8f : D := (ni 0)
def z8r : List D := [(.agg [(qi [(false,1),(false,1),(false,1)] false)])]
def z8e : D := (ni 0)
def z8q : List D := [(.agg [(qi [(true,2),(false,0),(false,0),(false,1)] false)])]
def z8d : D := (ni 0)
def z8p : List D := [(.agg [(qi [(true,2),(false,0),(false,0),(false,0),(false,1)] false)])]
def z8c : D := (ni 0)
def z8o : List D := [(.agg [(qi [(true,2),(false,0),(false,0),(false,0),(false,0),(false,1)] false)])]
def z8b : D := (ni 0)
def z8n : List D := [(.agg [(qi [(true,2),(false,0),(false,0),(false,0),(false,0),(false,0),(false,1)] false)])]
def z8a : D := (ni 0)
def z8m : List D := [(.agg [(qi [(true,2),(false,0),(false,0),(false,0),(false,0),(false,0),(false,0),(false,1)] false)])]
def z89 : D := (ni 0)
def z8l : List D := [(.agg [(qi [(true,2),(false,0),(false,0),(false,0),(false,0),(false,0),(false,0),(false,0),(false,1)] false)])]
def z88 : D := (ni 0)
def z8k : List D := [(.agg [(qi [(true,2),(false,0),(false,0),(false,0),(false,0),(false,0),(false,0),(false,0),(false,0),(false,1)] false)])]
def z87 : D := (ni 0)
def z8j : List D := [(.agg [(qi [(true,2),(false,0),(false,0),(false,0),(false,0),(false,0),(false,0),(false,0),(false,0),(false,0),(false,1)] false)])]
def z86 : D := (ni 0)
def z7u : List D := [(.agg [(qi [(true,2),(false,0),(false,0),(false,0),(false,0),(false,0),(false,0),(false,0),(false,0),(false,0),(false,0),(false,1)] false)])]
def z7c : D := (ni 0)
def z7t : List D := [(.agg [(qi [(true,2),(false,0),(false,0),(false,0),(false,0),(false,0),(false,0),(false,0),(false,0),(false,0),(false,0),(false,0),(false,1)] false)])]
def z7b : D := (ni 0)
def z7s : List D := [(.agg [(qi [(true,2),(false,0),(false,0),(false,0),(false,0),(false,0),(false,0),(false,0),(false,0),(false,0),(false,0),(false,0),(false,0),(false,1)] false)])]
def z7a : D := (ni 0)
def z7r : List D := [(.agg [(qi [(true,2),(false,0),(false,0),(false,0),(false,0),(false,0),(false,0),(false,0),(false,0),(false,0),(false,0),(false,0),(false,0),(false,0),(false,1)] false)])]
def z79 : D := (ni 0)
def z7q : List D := [(.agg [(qi [(true,2),(false,0),(false,0),(false,0),(false,0),(false,0),(false,0),(false,0),(false,0),(false,0),(false,0),(false,0),(false,0),(false,0),(false,0),(false,1)] false)])]
def z78 : D := (ni 0)
def z7p : List D := [(.agg [(qi [(true,2),(false,0),(false,0),(false,0),(false,0),(false,0),(false,0),(false,0),(false,0),(false,0),(false,0),(false,0),(false,0),(false,0),(false,0),(false,0),(false,1)] false)])]
def z77 : D := (ni 0)
def z7o : List D := [(.agg [(qi [(true,2),(false,0),(false,0),(false,0),(false,0),(false,0),(false,0),(false,0),(false,0),(false,0),(false,0),(false,0),(false,0),(false,0),(false,0),(false,0),(false,0),(false,1)] false)])]
def z76 : D := (ni 0)
def z7n : List D := [(.agg [(qi [(true,2),(false,0),(false,0),(false,0),(false,0),(false,0),(false,0),(false,0),(false,0),(false,0),(false,0),(false,0),(false,0),(false,0),(false,0),(false,0),(false,0),(false,0),(false,1)] false)])]
def z75 : D := (ni 0)
def z7m : List D := [(.agg [(qi [(true,2),(false,0),(false,0),(false,0),(false,0),(false,0),(false,0),(false,0),(false,0),(false,0),(false,0),(false,0),(false,0),(false,0),(false,0),(false,0),(false,0),(false,0),(false,0),(false,1)] false)])]
def z74 : D := (ni 0)
def z7l : List D := [(.agg [(qi [(true,2),(false,0),(false,0),(false,0),(false,0),(false,0),(false,0),(false,0),(false,0),(false,0),(false,0),(false,0),(false,0),(false,0),(false,0),(false,0),(false,0),(false,0),(false,0),(false,0),(false,1)] false)])]
def z73 : D := (ni 0)
def z7k : List D := [(.agg [(qi [(true,2),(false,0),(false,0),(false,0),(false,0),(false,0),(false,0),(false,0),(false,0),(false,0),(false,0),(false,0),(false,0),(false,0),(false,0),(false,0),(false,0),(false,0),(false,0),(false,0),(false,0),(false,1)] false)])]
def z72 : D := (ni 0)
def z7j : List D := [(.agg [(qi [(true,2),(false,0),(false,0),(false,0),(false,0),(false,0),(false,0),(false,0),(false,0),(false,0),(false,0),(false,0),(false,0),(false,0),(false,0),(false,0),(false,0),(false,0),(false,0),(false,0),(false,0),(false,0),(false,1)] false)])]
def z71 : D := (ni 0)
def z7i : List D := [(.agg [(qi [(true,2),(false,0),(false,0),(false,0),(false,0),(false,0),(false,0),(false,0),(false,0),(false,0),(false,0),(false,0),(false,0),(false,0),(false,0),(false,0),(false,0),(false,0),(false,0),(false,0),(false,0),(false,0),(false,0),(false,1)] false)])]
def z70 : D := (ni 0)
def z7h : List D := [(.agg [(qi [(true,2),(false,0),(false,0),(false,0),(false,0),(false,0),(false,0),(false,0),(false,0),(false,0),(false,0),(false,0),(false,0),(false,0),(false,0),(false,0),(false,0),(false,0),(false,0),(false,0),(false,0),(false,0),(false,0),(false,0),(false,1)] false)])]
def z6Z : D := (ni 0)
def z2J : List (List D × D) := [(z8s, z8f), (z8r, z8e), (z8q, z8d), (z8p, z8c), (z8o, z8b), (z8n, z8a), (z8m, z89), (z8l, z88), (z8k, z87), (z8j, z86), (z7u, z7c), (z7t, z7b), (z7s, z7a), (z7r, z79), (z7q, z78), (z7p, z77), (z7o, z76), (z7n, z75), (z7m, z74), (z7l, z73), (z7k, z72), (z7j, z71), (z7i, z70), (z7h, z6Z)]
def z6m (φ : Nat) : List D → Option D :=
fun as =>
(fun (s : LS) =>
 u1 as fun d e =>
 u1 e fun b f =>
 u0 f (
 kBox d s fun g s =>
 isoK (z5n φ) [b] s fun c s =>
 kNeq c (ni 0) fun h =>
 z5 h
(retK false s c some)
(kLen b s fun i s =>
 z7 0 s g fun k s =>
 z4 s k fun l s =>
 kLen l s fun m s =>
 kGeq i m fun n =>
 z5 n
(retK false s (ni 3) some)
(retK false s (ni 0) some)))) s0
def z7T (φ : Nat) : List D → Option D :=
fun as =>
(fun (s : LS) =>
 u1 as fun n o =>
 u1 o fun e p =>
 u0 p (
 kBox n s fun u s =>
 kLen e s fun v s =>
 kGtr v (ni 65) fun w =>
 z5 w
(retK false s (ni 4) some)
(kLen e s fun y s =>
 lp (fun (_ _ _ _ _ : D) (_ : LS) => none) (fun (z : D → D → D → D → D → LS → Rs) (f h i l g : D) (s : LS) =>
 kLss g l fun A =>
 z5 A
(z1 1 s i g fun B s =>
 z4 s B fun C s =>
 z3 1 s h fun E s =>
 isoK (z6m φ) [E, C] s fun m s =>
 kNeq m (ni 0) fun F =>
 z5 F
(retK false s m some)
(kAdd g (ni 1) fun G =>
 z f h i l G s))
(kLen f s fun H s =>
 kGtr H (ni 0) fun c =>
 z0 c true (fun k => k f s) s fun I s =>
 z0 c true (fun k => k f s) s fun J s =>
 z0 c true (fun k => kLen J s k) s fun K s =>
 z0 c true (fun k => kSub K (ni 1) fun d => k d s) s fun M s =>
 z0 c true (fun k => z1 1 s I M k) s fun N s =>
 z0 c true (fun k => z4 s N k) s fun O s =>
 z0 c true (fun k => kLen O s k) s fun P s =>
 z0 c true (fun k => kEql P (ni 0) fun d => k d s) s fun S s =>
 zp c S (.b false) s fun U s =>
 z5 U
(retK false s (ni 1) some)
(retK false s (ni 0) some))) φ e u e y (ni 0) s))) s0
def z5D (φ : Nat) : List D → Option D :=
fun as =>
(fun (s : LS) =>
 u1 as fun d e =>
 u1 e fun f g =>
 u0 g (
 kBox d s fun b s =>
 z3 1 s b fun h s =>
 isoK (z2q φ) [h] s fun c s =>
 kNeq c (ni 0) fun i =>
 z5 i
(retK false s c some)
(z3 1 s b fun k s =>
 isoK (z7T φ) [k, f] s fun l s =>
 retK false s l some))) s0
def z6o (φ : Nat) : List D → Option D :=
fun as =>
(fun (s : LS) =>
 u1 as fun f g =>
 u1 g fun b h =>
 u1 h fun c i =>
 u0 i (
 kBox f s fun d s =>
 z3 1 s d fun k s =>
 isoK (tabM z2J (za φ)) [k] s fun e s =>
 kNeq e (ni 0) fun l =>
 z5 l
(retK false s e some)
(kNeq b (ni 0) fun m =>
 z5 m
(retK false s b some)
(kEql c (ni 0) fun n =>
 z5 n
(retK false s (ni 6) some)
(z7 0 s d fun o s =>
 z4 s o fun p s =>
 kLen p s fun u s =>
 kSub u (ni 1) fun v =>
 kSub c (ni 1) fun w =>
 kMul v w fun y =>
 kGtr y (ni 64) fun z =>
 z5 z
(retK false s (ni 4) some)
(retK false s (ni 0) some)))))) s0
def zck (φ : Nat) : List D → Option D :=
fun as =>
(fun (s : LS) =>
 u1 as fun d e =>
 u0 e (
 kBox d s fun b s =>
 z9 [(.tree [] 0 true), (ni 0)] s fun c s =>
 z7 0 s b fun f s =>
 z4 s f fun g s =>
 z7 0 s b fun h s =>
 z4 s h fun i s =>
 kLen i s fun k s =>
 kSub k (ni 1) fun l =>
 zI [(.tree [] 0 true), (ni 0)] [(0, 1, g), (1, 1, l)] s fun m s =>
 z6 2 s c m fun _ s =>
 z3 2 s c fun n _ =>
 retK false s n some)) s0
def z2b (φ : Nat) : List D → Option D :=
fun as =>
(fun (s : LS) =>
 u1 as fun d i =>
 u0 i (
 kLen d s fun f s =>
 z24 3 40 [(.b false), (.n 0), (.n 0)] s f f fun k s =>
 kLen d s fun l s =>
 lp (fun (_ _ _ _ : D) (_ : LS) => none) (fun (m : D → D → D → D → LS → Rs) (e g h c : D) (s : LS) =>
 kLss c h fun o =>
 z5 o
(z1 1 s g c fun p s =>
 z4 s p fun u s =>
 isoK (zP φ) [u] s fun v s =>
 z1 3 s e c fun w s =>
 z6 3 s w v fun _ s =>
 kAdd c (ni 1) fun y =>
 m e g h y s)
(isoK (z11 φ) [e] s fun z s =>
 retK false s z some)) φ k d l (ni 0) s)) s0
def z3f (φ : Nat) : List D → Option D :=
fun as =>
(fun (s : LS) =>
 u1 as fun e f =>
 u1 f fun b g =>
 u0 g (
 kBox e s fun c s =>
 kLen b s fun h s =>
 z7 1 s c fun i s =>
 z4 s i fun k s =>
 kLeq h k fun l =>
 z5 l
(retK false s b some)
(z7 0 s c fun m s =>
 z4 s m fun n s =>
 isoK (z1g φ) [b, n] s fun d s =>
 kExt d 0 s fun p s =>
 kExt d 1 s fun o s =>
 retK false s o some))) s0
def z5T (φ : Nat) : List D → Option D :=
fun as =>
(fun (s : LS) =>
 u1 as fun b c =>
 u0 c (
 kBox b s fun d s =>
 z3 2 s d fun e s =>
 kBsl 2 [(ni 0)] [(0, 1, (ni 0)), (1, 1, (ni 1))] s fun f s =>
 isoK (z2b φ) [f] s fun g s =>
 isoK (z3f φ) [e, g] s fun h s =>
 retK false s h some)) s0
def z6U (φ : Nat) : List D → Option D :=
fun as =>
(fun (s : LS) =>
 u1 as fun b c =>
 u1 c fun d e =>
 u0 e (
 z3 2 s d fun f s =>
 isoK (z5T φ) [f] s fun g s =>
 isoK (zP φ) [b] s fun h s =>
 isoK (z21 φ) [g, h] s fun i s =>
 retK false s i some)) s0
def zpX (φ : Nat) : FTab := setT (z3Q φ) 146 (.iso (z6U φ))
def z6T (φ : Nat) : List D → Option D :=
fun as =>
(fun (s : LS) =>
 u1 as fun f g =>
 u0 g (
 lp (fun (_ : D) (_ : LS) => none) (fun (h : D → LS → Rs) (e : D) (s : LS) =>
 kLen e s fun i s =>
 kGtr i (ni 0) fun c =>
 z0 c true (fun k => k e s) s fun l s =>
 z0 c true (fun k => k e s) s fun m s =>
 z0 c true (fun k => kLen m s k) s fun n s =>
 z0 c true (fun k => kSub n (ni 1) fun d => k d s) s fun o s =>
 z0 c true (fun k => z1 1 s l o k) s fun p s =>
 z0 c true (fun k => z4 s p k) s fun u s =>
 z0 c true (fun k => kLen u s k) s fun v s =>
 z0 c true (fun k => kEql v (ni 0) fun d => k d s) s fun w s =>
 zp c w (.b false) s fun y s =>
 z5 y
(kLen e s fun z s =>
 kSub z (ni 1) fun A =>
 z23 1 s e none (some A) none fun B s =>
 h B s)
(retK false s e some)) φ f s)) s0
def z3O (φ : Nat) : List D → Option D :=
fun as =>
(fun (s : LS) =>
 u1 as fun f o =>
 u1 o fun g p =>
 u0 p (
 kLen f s fun u s =>
 kLen g s fun v s =>
 kS (.max (.c u) (.c v)) s fun h s =>
 z24 3 40 [(.b false), (.n 0), (.n 0)] s h h fun i s =>
 kLen i s fun w s =>
 lp (fun (_ _ _ _ _ : D) (_ : LS) => none) (fun (y : D → D → D → D → D → LS → Rs) (k l e m d : D) (s : LS) =>
 kLss d m fun z =>
 z5 z
(isoK (z4E φ) [k, d] s fun A s =>
 isoK (z4E φ) [l, d] s fun B s =>
 isoK (z7V φ) [A, B] s fun C s =>
 z1 3 s e d fun E s =>
 z6 3 s E C fun _ s =>
 kAdd d (ni 1) fun F =>
 y k l e m F s)
(isoK (z11 φ) [e] s fun G s =>
 retK false s G some)) φ f g i w (ni 0) s)) s0
def z5X (φ : Nat) : FTab := setT (zpX φ) 148 (.iso (z3O φ))
def ziq (φ : Nat) : List D → Option D :=
fun as =>
(fun (s : LS) =>
 u1 as fun b d =>
 u1 d fun c e =>
 u0 e (
 kLen b s fun f s =>
 kLss c f fun g =>
 z5 g
(z1 1 s b c fun h s =>
 z4 s h fun i s =>
 retK false s i some)
(retK false s (.tree [] 0 true) some))) s0
def zcl (φ : Nat) : List D → Option D :=
fun as =>
(fun (s : LS) =>
 u1 as fun d l =>
 u1 l fun e m =>
 u1 m fun n o =>
 u0 o (
 kLen d s fun p s =>
 kLen e s fun u s =>
 kS (.max (.c p) (.c u)) s fun v s =>
 lp (fun (_ _ _ _ _ _ : D) (_ : LS) => none) (fun (w : D → D → D → D → D → D → LS → Rs) (f g h i k b : D) (s : LS) =>
 kLss b k fun y =>
 z5 y
(isoK (ziq φ) [f, b] s fun z s =>
 isoK (ziq φ) [g, b] s fun A s =>
 dynK (z5X φ) false h [z, A] s fun B s =>
 kBsl 1 [(.tree [] 0 true)] [(0, 1, B)] s fun C s =>
 kApp 1 24 s i C fun E s =>
 kAdd b (ni 1) fun F =>
 w f g h E k F s)
(isoK (z6T φ) [i] s fun G s =>
 retK false s G some)) φ d e n (.tree [] 0 true) v (ni 0) s)) s0
def z4l (φ : Nat) : List D → Option D :=
fun as =>
(fun (s : LS) =>
 u1 as fun i P =>
 u1 P fun l S =>
 u0 S (
 kLen i s fun U s =>
 kEql U (ni 0) fun f =>
 z0 f false (fun k => k l s) s fun V s =>
 z0 f false (fun k => kLen V s k) s fun W s =>
 z0 f false (fun k => kEql W (ni 0) fun d => k d s) s fun X s =>
 zp f (.b true) X s fun Y s =>
 z5 Y
(retK false s (.tree [] 0 true) some)
(kLen i s fun Z s =>
 kLen l s fun bb s =>
 kAdd Z bb fun bc =>
 kSub bc (ni 1) fun A =>
 z24 3 40 [(.b false), (.n 0), (.n 0)] s A A fun B s =>
 kLen B s fun bd s =>
 lp (fun (_ _ _ _ _ : D) (_ : LS) => none) (fun (bf : D → D → D → D → D → LS → Rs) (m C o E p : D) (s : LS) =>
 kLss p E fun bg =>
 z5 bg
(isoK (zP φ) [(ni 0)] s fun bh s =>
 z1 3 s o p fun bi s =>
 z6 3 s bi bh fun _ s =>
 kAdd p (ni 1) fun bk =>
 bf m C o E bk s)
(kLen m s fun bl s =>
 lp (fun (_ _ _ _ _ : D) (_ : LS) => none) (fun (bm : D → D → D → D → D → LS → Rs) (g u v w c : D) (s : LS) =>
 kLss c w fun bn =>
 z5 bn
(jn (fun (bo bp bu bv bw : D) (s : LS) =>
 kAdd bw (ni 1) fun bz =>
 bm bo bp bu bv bz s) fun F =>
 z1 3 s v c fun bA s =>
 z3 3 s bA fun bB s =>
 z9 [(.b false), (.n 0), (.n 0)] s fun y s =>
 z6 3 s y bB fun _ s =>
 z3 3 s y fun bC s =>
 isoK (z2M φ) [bC] s fun bE s =>
 z5 bE
(F g u v w c s)
(kLen g s fun bF s =>
 lp (fun (_ _ _ _ _ _ _ _ _ _ : D) (_ : LS) => none) (fun (bG : D → D → D → D → D → D → D → D → D → D → LS → Rs) (G h z H I J K M N e : D) (s : LS) =>
 kLss e N fun bH =>
 z5 bH
(z1 3 s M e fun bI s =>
 z3 3 s bI fun bJ s =>
 z9 [(.b false), (.n 0), (.n 0)] s fun O s =>
 z6 3 s O bJ fun _ s =>
 kAdd z e fun bK =>
 kAdd z e fun bM =>
 z1 3 s h bM fun bN s =>
 z3 3 s bN fun bO s =>
 z3 3 s H fun bP s =>
 z3 3 s O fun bS s =>
 isoK (z1G φ) [bP, bS] s fun bU s =>
 isoK (z7V φ) [bO, bU] s fun bV s =>
 z1 3 s h bK fun bW s =>
 z6 3 s bW bV fun _ s =>
 kAdd e (ni 1) fun bX =>
 bG G h z H I J K M N bX s)
(F G h I J K s)) φ g u c y v w c g bF (ni 0) s))
(isoK (z11 φ) [u] s fun bY s =>
 retK false s bY some)) φ C o m bl (ni 0) s)) φ i l B bd (ni 0) s))) s0
def z55 (φ : Nat) : List D → Option D :=
fun as =>
(fun (s : LS) =>
 u1 as fun M N =>
 u1 N fun e O =>
 u1 O fun m P =>
 u0 P (
 kBox M s fun S s =>
 kLen e s fun U s =>
 kEql U (ni 0) fun f =>
 z0 f false (fun k => k m s) s fun V s =>
 z0 f false (fun k => kLen V s k) s fun W s =>
 z0 f false (fun k => kEql W (ni 0) fun d => k d s) s fun X s =>
 zp f (.b true) X s fun Y s =>
 z5 Y
(retK false s (.tree [] 0 true) some)
(kLen e s fun Z s =>
 kLen m s fun bb s =>
 kAdd Z bb fun bc =>
 kSub bc (ni 1) fun u =>
 z24 1 24 [(.tree [] 0 true)] s u u fun bd s =>
 kLen e s fun bf s =>
 lp (fun (_ _ _ _ _ _ : D) (_ : LS) => none) (fun (bg : D → D → D → D → D → D → LS → Rs) (n v g w y h : D) (s : LS) =>
 kLss h y fun bh =>
 z5 bh
(z1 1 s w h fun bi s =>
 z4 s bi fun bk s =>
 kLen n s fun bl s =>
 lp (fun (_ _ _ _ _ _ _ _ _ _ _ : D) (_ : LS) => none) (fun (bm : D → D → D → D → D → D → D → D → D → D → D → LS → Rs) (z A i o B C E F G H c : D) (s : LS) =>
 kLss c H fun bn =>
 z5 bn
(z1 1 s G c fun bo s =>
 z4 s bo fun bp s =>
 kAdd o c fun bu =>
 kAdd o c fun bv =>
 z1 1 s i bv fun bw s =>
 z4 s bw fun bz s =>
 isoK (z4l φ) [B, bp] s fun bA s =>
 isoK (z3O φ) [bz, bA] s fun bB s =>
 z1 1 s i bu fun bC s =>
 z6 1 s bC bB fun _ s =>
 kAdd c (ni 1) fun bE =>
 bm z A i o B C E F G H bE s)
(kAdd F (ni 1) fun bF =>
 bg z A i C E bF s)) φ n v g h bk w y h n bl (ni 0) s)
(kLen g s fun bG s =>
 lp (fun (_ _ _ _ _ : D) (_ : LS) => none) (fun (bH : D → D → D → D → D → LS → Rs) (I p J K l : D) (s : LS) =>
 kLss l K fun bI =>
 z5 bI
(z1 1 s J l fun bJ s =>
 z4 s bJ fun bK s =>
 z3 2 s I fun bM s =>
 isoK (z3f φ) [bM, bK] s fun bN s =>
 z1 1 s p l fun bO s =>
 z6 1 s bO bN fun _ s =>
 kAdd l (ni 1) fun bP =>
 bH I p J K bP s)
(isoK (z6T φ) [p] s fun bS s =>
 retK false s bS some)) φ v g g bG (ni 0) s)) φ m S bd e bf (ni 0) s))) s0
def z63 (φ : Nat) : List D → Option D :=
fun as =>
(fun (s : LS) =>
 u1 as fun h i =>
 u1 i fun c k =>
 u1 k fun l m =>
 u0 m (
 kBox h s fun n s =>
 kBsl 1 [(ni 0)] [(0, 1, (ni 1))] s fun o s =>
 isoK (z2b φ) [o] s fun p s =>
 kBsl 2 [(.tree [] 0 true)] [(0, 1, l), (1, 1, p)] s fun u s =>
 isoK (z6T φ) [u] s fun v s =>
 kLen c s fun w s =>
 kSub w (ni 1) fun y =>
 lp (fun (_ _ _ _ _ : D) (_ : LS) => none) (fun (z : D → D → D → D → D → LS → Rs) (d e f g b : D) (s : LS) =>
 kGeq b (ni 0) fun A =>
 z5 A
(z3 2 s e fun B s =>
 isoK (z55 φ) [B, f, g] s fun C s =>
 z1 1 s d b fun E s =>
 z4 s E fun F s =>
 kBsl 1 [(.tree [] 0 true)] [(0, 1, F)] s fun G s =>
 isoK (z6T φ) [G] s fun H s =>
 isoK (zcl φ) [C, H, (.fn 148 [])] s fun I s =>
 kSub b (ni 1) fun J =>
 z d e I g J s)
(retK false s f some)) φ c n (.tree [] 0 true) v y s)) s0
def z7Z (φ : Nat) : List D → Option D :=
fun as =>
(fun (s : LS) =>
 u1 as fun g h =>
 u1 h fun k l =>
 u0 l (
 kBsl 1 [(.i .u64 (.ofNat 0))] [(0, 1, (.i .u64 (.ofNat 1)))] s fun m s =>
 isoK z85 [g] s fun n s =>
 lp (fun (_ _ _ : D) (_ : LS) => none) (fun (o : D → D → D → LS → Rs) (b c d : D) (s : LS) =>
 kGtr b (ni 0) fun p =>
 z5 p
(jn (fun (u v e : D) (s : LS) =>
 isoK (z2u φ) [e, e] s fun w s =>
 kShr u (.i .u64 (.ofNat 1)) fun y =>
 o y v w s) fun f =>
 kAnd b (ni 1) fun z =>
 kEql z (ni 1) fun A =>
 z5 A
(isoK (z2u φ) [c, d] s fun B s =>
 f b B d s)
(f b c d s))
(isoK zaq [c] s fun C s =>
 retK false s C some)) φ k m n s)) s0
def za6 (φ : Nat) : List D → Option D :=
fun as =>
(fun (s : LS) =>
 u1 as fun h i =>
 u1 i fun e l =>
 u0 l (
 kBox h s fun f s =>
 z9 [(.b false), (.n 0)] s fun g s =>
 z7 0 s f fun m s =>
 z4 s m fun c s =>
 z0 c true (fun k => k e s) s fun o s =>
 z0 c true (fun k => kRem o (ni 2) fun d => k d s) s fun p s =>
 z0 c true (fun k => kEql p (ni 1) fun d => k d s) s fun u s =>
 zp c u (.b false) s fun v s =>
 z7 1 s f fun w s =>
 z4 s w fun y s =>
 isoK (z7Z φ) [y, e] s fun z s =>
 isoK (zq φ) [v, z] s fun A s =>
 z6 2 s g A fun _ s =>
 z3 2 s g fun B _ =>
 retK false s B some)) s0
def zaC (φ : Nat) : List D → Option D :=
fun as =>
(fun (s : LS) =>
 u1 as fun f g =>
 u1 g fun c h =>
 u0 h (
 kBox f s fun d s =>
 z9 [(.b false), (.n 0), (.n 0)] s fun e s =>
 z7 0 s d fun i s =>
 z3 2 s i fun k s =>
 isoK (za6 φ) [k, c] s fun l s =>
 z7 2 s d fun m s =>
 z4 s m fun o s =>
 isoK (z7Z φ) [o, c] s fun p s =>
 zI [(.b false), (.n 0), (.n 0)] [(0, 2, l), (2, 1, p)] s fun u s =>
 z6 3 s e u fun _ s =>
 z3 3 s e fun v _ =>
 retK false s v some)) s0
def z9o (φ : Nat) : List D → Option D :=
fun as =>
(fun (s : LS) =>
 u1 as fun v w =>
 u1 w fun y z =>
 u0 z (
 kBox v s fun A s =>
 z9 [(.b false), (.n 0), (.n 0)] s fun B s =>
 z7 0 s A fun C s =>
 z4 s C fun E s =>
 isoK (zP φ) [(ni 1)] s fun F s =>
 z9 [(.b false), (.n 0), (.n 0)] s fun k s =>
 z6 3 s k F fun _ s =>
 lp (fun (_ _ _ _ : D) (_ : LS) => none) (fun (G : D → D → D → D → LS → Rs) (c l d e : D) (s : LS) =>
 kLen l s fun H s =>
 kSub H (ni 1) fun g =>
 kLen d s fun I s =>
 kSub I (ni 1) fun f =>
 kLss f (ni 0) fun J =>
 z5 J
(isoK (zP φ) [(ni 0)] s fun K s =>
 z6 3 s c K fun _ s =>
 z3 3 s c fun M _ =>
 retK false s M some)
(kEql f (ni 0) fun N =>
 z5 N
(z3 3 s e fun O s =>
 z1 3 s d (ni 0) fun P s =>
 z3 3 s P fun S s =>
 isoK (zaC φ) [S, g] s fun U s =>
 isoK (z1G φ) [O, U] s fun V s =>
 z6 3 s c V fun _ s =>
 z3 3 s c fun W _ =>
 retK false s W some)
(isoK (z1g φ) [l, d] s fun m s =>
 kExt m 0 s fun bA s =>
 kExt m 1 s fun h s =>
 kLen h s fun X s =>
 kEql X (ni 0) fun Y =>
 z5 Y
(isoK (zP φ) [(ni 0)] s fun Z s =>
 z6 3 s c Z fun _ s =>
 z3 3 s c fun bb _ =>
 retK false s bb some)
(jn (fun (bc o i bd bf p : D) (s : LS) =>
 z3 3 s i fun bg s =>
 z1 3 s o bf fun bh s =>
 z3 3 s bh fun bi s =>
 kLen p s fun bk s =>
 kSub bk (ni 1) fun bl =>
 kSub bd bl fun bm =>
 isoK (zaC φ) [bi, bm] s fun bn s =>
 isoK (z1G φ) [bg, bn] s fun bo s =>
 z6 3 s i bo fun _ s =>
 G bc o p i s) fun u =>
 kMul g f fun bp =>
 kRem bp (ni 2) fun bu =>
 kEql bu (ni 1) fun bv =>
 z5 bv
(z3 3 s e fun bw s =>
 isoK (z6q φ) [bw] s fun bz s =>
 z6 3 s e bz fun _ s =>
 u c d e g f h s)
(u c d e g f h s))))) φ B E y k s)) s0
def zgw (φ : Nat) : List D → Option D :=
fun as =>
(fun (s : LS) =>
 u1 as fun c g =>
 u1 g fun h i =>
 u0 i (
 kBox h s fun k s =>
 kLen c s fun l s =>
 kSub l (ni 1) fun m =>
 lp (fun (_ _ _ _ : D) (_ : LS) => none) (fun (n : D → D → D → D → LS → Rs) (d e f b : D) (s : LS) =>
 kGeq b (ni 0) fun o =>
 z5 o
(z3 3 s e fun p s =>
 isoK (z21 φ) [f, p] s fun u s =>
 z1 1 s d b fun v s =>
 z4 s v fun w s =>
 isoK (z3O φ) [u, w] s fun y s =>
 kSub b (ni 1) fun z =>
 n d e y z s)
(retK false s f some)) φ c k (.tree [] 0 true) m s)) s0
def z8X (φ : Nat) : List D → Option D :=
fun as =>
(fun (s : LS) =>
 u1 as fun f k =>
 u1 k fun l m =>
 u0 m (
 kBox l s fun o s =>
 z9 [(.b false), (.n 0), (.n 0)] s fun p s =>
 isoK (zP φ) [(ni 0)] s fun u s =>
 z9 [(.b false), (.n 0), (.n 0)] s fun g s =>
 z6 3 s g u fun _ s =>
 kLen f s fun v s =>
 kSub v (ni 1) fun w =>
 lp (fun (_ _ _ _ _ : D) (_ : LS) => none) (fun (y : D → D → D → D → D → LS → Rs) (h i d c e : D) (s : LS) =>
 kGeq e (ni 0) fun z =>
 z5 z
(z3 3 s c fun A s =>
 z3 3 s i fun B s =>
 isoK (z1G φ) [A, B] s fun C s =>
 z1 3 s h e fun E s =>
 z3 3 s E fun F s =>
 isoK (z7V φ) [C, F] s fun G s =>
 z6 3 s c G fun _ s =>
 kSub e (ni 1) fun H =>
 y h i d c H s)
(z3 3 s c fun I s =>
 z6 3 s d I fun _ s =>
 z3 3 s d fun J _ =>
 retK false s J some)) φ f o p g w s)) s0
def zdW (φ : Nat) : List D → Option D :=
fun as =>
(fun (s : LS) =>
 u1 as fun d e =>
 u1 e fun f g =>
 u0 g (
 kBox d s fun h s =>
 kBox f s fun i s =>
 z9 [(.b false), (.n 0), (.n 0)] s fun c s =>
 z3 3 s h fun k s =>
 z3 3 s i fun l s =>
 isoK (z2r φ) [l] s fun m s =>
 isoK (z1G φ) [k, m] s fun o s =>
 z6 3 s c o fun _ s =>
 z3 3 s c fun p _ =>
 retK false s p some)) s0
def z6p (φ : Nat) : List D → Option D :=
fun as =>
(fun (s : LS) =>
 u1 as fun u v =>
 u1 v fun h w =>
 u0 w (
 kBox u s fun i s =>
 z7 1 s i fun y s =>
 z4 s y fun z s =>
 kLen h s fun A s =>
 kSub A (ni 1) fun B =>
 kMul z B fun C =>
 kAdd C (ni 1) fun E =>
 kBsl 1 [(ni 0)] [(0, 1, (ni 1))] s fun F s =>
 isoK (z2b φ) [F] s fun G s =>
 lp (fun (_ _ _ _ _ _ _ : D) (_ : LS) => none) (fun (H : D → D → D → D → D → D → D → LS → Rs) (k l I f g m d : D) (s : LS) =>
 kLss d m fun J =>
 z5 J
(isoK (zP φ) [d] s fun K s =>
 z9 [(.b false), (.n 0), (.n 0)] s fun e s =>
 z6 3 s e K fun _ s =>
 z3 2 s l fun M s =>
 z3 3 s e fun N s =>
 isoK (zgw φ) [k, N] s fun O s =>
 isoK (z9o φ) [M, O] s fun P s =>
 z3 3 s e fun S s =>
 isoK (z8X φ) [f, S] s fun U s =>
 isoK (z7U φ) [P, U] s fun V s =>
 z9 [(.b false), (.n 0), (.n 0)] s fun o s =>
 z6 3 s o V fun _ s =>
 z3 3 s e fun W s =>
 isoK (z8X φ) [g, W] s fun X s =>
 kBsl 1 [(.b false), (.n 0), (.n 0)] [(0, 3, X)] s fun Y s =>
 kApp 3 40 s I Y fun p s =>
 z3 3 s o fun Z s =>
 z1 3 s p d fun bb s =>
 z3 3 s bb fun bc s =>
 isoK (zdW φ) [Z, bc] s fun bd s =>
 isoK (z21 φ) [g, bd] s fun bf s =>
 isoK (z3O φ) [f, bf] s fun bg s =>
 kS (.neg (.c d)) s fun bh s =>
 kBsl 2 [(ni 0)] [(0, 1, bh), (1, 1, (ni 1))] s fun bi s =>
 isoK (z2b φ) [bi] s fun bk s =>
 isoK (z4l φ) [g, bk] s fun bl s =>
 kAdd d (ni 1) fun bm =>
 H k l p bg bl m bm s)
(retK false s f some)) φ h i (.tree [] 0 true) (.tree [] 0 true) G E (ni 0) s)) s0
def z8N (φ : Nat) : List D → Option D :=
fun as =>
(fun (s : LS) =>
 u1 as fun b c =>
 u1 c fun d e =>
 u1 e fun f g =>
 u0 g (
 kBox b s fun h s =>
 z3 2 s h fun i s =>
 kBsl 1 [(.tree [] 0 true)] [(0, 1, f)] s fun k s =>
 isoK (z55 φ) [i, d, k] s fun l s =>
 retK false s l some)) s0
def z6V (φ : Nat) : List D → Option D :=
fun as =>
(fun (s : LS) =>
 u1 as fun g h =>
 u1 h fun i k =>
 u0 k (
 kBox g s fun d s =>
 z7 0 s d fun l s =>
 z4 s l fun m s =>
 kBsl 1 [(ni 0)] [(0, 1, (ni 1))] s fun n s =>
 isoK (z2b φ) [n] s fun o s =>
 lp (fun (_ _ _ _ _ : D) (_ : LS) => none) (fun (p : D → D → D → D → D → LS → Rs) (e u b v c : D) (s : LS) =>
 kLen b s fun w s =>
 kGtr w (ni 1) fun y =>
 z5 y
(isoK (z1g φ) [u, b] s fun f s =>
 kExt f 0 s fun z s =>
 kExt f 1 s fun A s =>
 isoK (z4l φ) [z, c] s fun B s =>
 isoK (z3N φ) [v, B] s fun C s =>
 p e b A c C s)
(z3 2 s e fun E s =>
 z1 3 s b (ni 0) fun F s =>
 z3 3 s F fun G s =>
 isoK (z2r φ) [G] s fun H s =>
 isoK (z21 φ) [c, H] s fun I s =>
 isoK (z3f φ) [E, I] s fun J s =>
 retK false s J some)) φ d m i (.tree [] 0 true) o s)) s0
def z3y (φ : Nat) : List D → Option D :=
fun as =>
(fun (s : LS) =>
 u1 as fun d e =>
 u1 e fun b f =>
 u0 f (
 kBox d s fun c s =>
 kLen b s fun g s =>
 kEql g (ni 0) fun h =>
 z5 h
(retK false s (.tree [] 0 true) some)
(z3 2 s c fun i s =>
 z3 2 s c fun k s =>
 kLen b s fun l s =>
 kSub l (ni 1) fun m =>
 z1 1 s b m fun n s =>
 z4 s n fun o s =>
 isoK (z6V φ) [k, o] s fun p s =>
 isoK (z8N φ) [i, b, p] s fun u s =>
 retK false s u some))) s0
def za3 (φ : Nat) : List D → Option D :=
fun as =>
(fun (s : LS) =>
 u1 as fun b c =>
 u1 c fun d e =>
 u1 e fun f g =>
 u0 g (
 kBox b s fun h s =>
 z3 2 s h fun i s =>
 isoK (z4l φ) [d, f] s fun k s =>
 isoK (z3f φ) [i, k] s fun l s =>
 retK false s l some)) s0
def z3g (φ : Nat) : List D → Option D :=
fun as =>
(fun (s : LS) =>
 u1 as fun E F =>
 u1 F fun l G =>
 u1 G fun m H =>
 u0 H (
 kBox E s fun I s =>
 kBsl 0 [(.tree [] 0 true)] [] s fun J s =>
 kApp 1 24 s J l fun K s =>
 kLen m s fun M s =>
 kSub M (ni 1) fun n =>
 kLen l s fun N s =>
 kSub N n fun O =>
 kS (.max (.c (ni 0)) (.c O)) s fun o s =>
 z24 1 24 [(.tree [] 0 true)] s o o fun p s =>
 kLen p s fun P s =>
 kSub P (ni 1) fun S =>
 lp (fun (_ _ _ _ _ _ : D) (_ : LS) => none) (fun (U : D → D → D → D → D → D → LS → Rs) (g V h u i d : D) (s : LS) =>
 kGeq d (ni 0) fun W =>
 z5 W
(kAdd d u fun X =>
 z1 1 s h X fun Y s =>
 z4 s Y fun v s =>
 z1 1 s i d fun Z s =>
 z6 1 s Z v fun _ s =>
 kLen g s fun bb s =>
 lp (fun (_ _ _ _ _ _ _ _ _ _ : D) (_ : LS) => none) (fun (bc : D → D → D → D → D → D → D → D → D → D → LS → Rs) (w k e y z f A B C b : D) (s : LS) =>
 kLss b C fun bd =>
 z5 bd
(z1 1 s B b fun bf s =>
 z4 s bf fun bg s =>
 kAdd f b fun bh =>
 kAdd f b fun bi =>
 z1 1 s e bi fun bk s =>
 z4 s bk fun bl s =>
 z3 2 s k fun bm s =>
 isoK (za3 φ) [bm, A, bg] s fun bn s =>
 isoK (z3N φ) [bl, bn] s fun bo s =>
 z1 1 s e bh fun bp s =>
 z6 1 s bp bo fun _ s =>
 kAdd b (ni 1) fun bu =>
 bc w k e y z f A B C bu s)
(kSub f (ni 1) fun bv =>
 U w k e y z bv s)) φ g V h u i d v g bb (ni 0) s)
(isoK (z6T φ) [i] s fun bw s =>
 isoK (z6T φ) [h] s fun bz s =>
 retK false s (.tup [bw, bz]) some)) φ m I K n p S s)) s0
def z5Y (φ : Nat) : List D → Option D :=
fun as =>
(fun (s : LS) =>
 u1 as fun g h =>
 u1 h fun i k =>
 u1 k fun l m =>
 u0 m (
 kBox g s fun d s =>
 z3 2 s d fun n s =>
 isoK (z3y φ) [n, l] s fun o s =>
 lp (fun (_ _ _ : D) (_ : LS) => none) (fun (p : D → D → D → LS → Rs) (e c b : D) (s : LS) =>
 kLen c s fun u s =>
 kGtr u (ni 0) fun v =>
 z5 v
(z3 2 s b fun w s =>
 isoK (z3g φ) [w, e, c] s fun f s =>
 kExt f 0 s fun E s =>
 kExt f 1 s fun y s =>
 z3 2 s b fun z s =>
 isoK (z3y φ) [z, y] s fun A s =>
 p c A b s)
(z3 2 s b fun B s =>
 isoK (z3y φ) [B, e] s fun C s =>
 retK false s C some)) φ i o d s)) s0
def zaB (φ : Nat) : List D → Option D :=
fun as =>
(fun (s : LS) =>
 u1 as fun d i =>
 u0 i (
 kLen d s fun k s =>
 lp (fun (_ _ _ _ : D) (_ : LS) => none) (fun (l : D → D → D → D → LS → Rs) (e f g c : D) (s : LS) =>
 kLss c g fun m =>
 z5 m
(z1 2 s f c fun o s =>
 z3 2 s o fun p s =>
 z9 [(.b false), (.n 0)] s fun h s =>
 z6 2 s h p fun _ s =>
 z3 2 s h fun u s =>
 isoK (z3M φ) [u] s fun v s =>
 kBsl 1 [(.b false), (.n 0), (.n 0)] [(0, 3, v)] s fun w s =>
 isoK (z11 φ) [w] s fun y s =>
 kBsl 1 [(.tree [] 0 true)] [(0, 1, y)] s fun z s =>
 kApp 1 24 s e z fun A s =>
 kAdd c (ni 1) fun B =>
 l A f g B s)
(retK false s e some)) φ (.tree [] 0 true) d k (ni 0) s)) s0
def z8M (φ : Nat) : List D → Option D :=
fun as =>
(fun (s : LS) =>
 u1 as fun B C =>
 u1 C fun f E =>
 u0 E (
 kBox B s fun l s =>
 kLen f s fun F s =>
 kEql F (ni 2) fun G =>
 z5 G
(kBsl 1 [(.tree [] 0 true)] [(0, 1, f)] s fun H s =>
 retK false s H some)
(lp (fun (_ _ _ _ : D) (_ : LS) => none) (fun (m : D → D → D → D → LS → Rs) (g b d e : D) (s : LS) =>
 z3 2 s b fun I s =>
 dynK (z5X φ) true e [d] s fun J s =>
 isoK (z63 φ) [I, g, J] s fun n s =>
 z3 2 s b fun K s =>
 isoK (z6p φ) [K, n] s fun h s =>
 isoK (z2I φ) [h] s fun M s =>
 isoK (z8B φ) [h, M] s fun N s =>
 kLen N s fun O s =>
 kLeq O (ni 1) fun P =>
 z5 P
(isoK (tabM z8D (z57 φ)) [h] s fun o s =>
 kLen o s fun S s =>
 lp (fun (_ _ _ _ _ _ _ _ : D) (_ : LS) => none) (fun (U : D → D → D → D → D → D → D → D → LS → Rs) (i p u v w y z k : D) (s : LS) =>
 kLss k z fun V =>
 z5 V
(z1 2 s y k fun W s =>
 z3 2 s W fun X s =>
 z9 [(.tree [] 0 true), (ni 0)] s fun A s =>
 z6 2 s A X fun _ s =>
 z3 2 s i fun Y s =>
 z7 0 s A fun Z s =>
 z4 s Z fun bb s =>
 isoK (zaB φ) [bb] s fun bc s =>
 isoK (z5Y φ) [Y, u, bc] s fun bd s =>
 z3 2 s i fun bf s =>
 kS (.neg (.c p)) s fun bg s =>
 dynK (z5X φ) true v [bg] s fun bh s =>
 isoK (z63 φ) [bf, bd, bh] s fun bi s =>
 kBsl 1 [(.tree [] 0 true)] [(0, 1, bi)] s fun bk s =>
 kApp 1 24 s w bk fun bl s =>
 kAdd k (ni 1) fun bm =>
 U i p u v bl y z bm s)
(retK false s w some)) φ b d n e (.tree [] 0 true) o S (ni 0) s)
(kGtr d (ni 0) fun bn =>
 z5 bn
(kS (.neg (.c d)) s fun bo s =>
 m g b bo e s)
(kSub (ni 1) d fun bp =>
 m g b bp e s))) φ f l (ni 0) (.fn 146 [l]) s))) s0
def z9p (φ : Nat) : List D → Option D :=
fun as =>
(fun (s : LS) =>
 u1 as fun e f =>
 u0 f (
 lp (fun (_ _ _ : D) (_ : LS) => none) (fun (g : D → D → D → LS → Rs) (c d b : D) (s : LS) =>
 kLen c s fun h s =>
 kLss b h fun i =>
 z5 i
(z1 1 s c b fun k s =>
 z4 s k fun l s =>
 isoK (zP φ) [b] s fun m s =>
 isoK (z21 φ) [l, m] s fun n s =>
 kBsl 1 [(.tree [] 0 true)] [(0, 1, n)] s fun o s =>
 kApp 1 24 s d o fun p s =>
 kAdd b (ni 1) fun u =>
 g c p u s)
(isoK (z6T φ) [d] s fun v s =>
 retK false s v some)) φ e (.tree [] 0 true) (ni 1) s)) s0
def z8O (φ : Nat) : List D → Option D :=
fun as =>
(fun (s : LS) =>
 u1 as fun w y =>
 u1 y fun c z =>
 u0 z (
 kBox w s fun d s =>
 z3 2 s d fun A s =>
 isoK (z9p φ) [c] s fun B s =>
 isoK (z5Y φ) [A, c, B] s fun k s =>
 z3 2 s d fun C s =>
 isoK (z3g φ) [C, c, k] s fun l s =>
 kExt l 0 s fun E s =>
 kExt l 1 s fun Z s =>
 lp (fun (_ _ _ _ _ : D) (_ : LS) => none) (fun (F : D → D → D → D → D → LS → Rs) (b e f g h : D) (s : LS) =>
 kLen g s fun G s =>
 kGtr G (ni 1) fun H =>
 z5 H
(z3 2 s b fun I s =>
 isoK (z5Y φ) [I, g, f] s fun i s =>
 z3 2 s b fun J s =>
 isoK (z3g φ) [J, g, i] s fun m s =>
 kExt m 0 s fun n s =>
 kExt m 1 s fun bb s =>
 jn (fun (o K M N p : D) (s : LS) =>
 z3 2 s o fun O s =>
 isoK (z3g φ) [O, M, p] s fun u s =>
 kExt u 0 s fun P s =>
 kExt u 1 s fun bc s =>
 kAdd N (ni 1) fun S =>
 F o K P p S s) fun v =>
 kLen n s fun U s =>
 kGtr U (ni 1) fun V =>
 z5 V
(zI [(.tree [] 0 true), (ni 0)] [(0, 1, n), (1, 1, h)] s fun W s =>
 kBsl 1 [(.tree [] 0 true), (ni 0)] [(0, 2, W)] s fun X s =>
 kApp 2 32 s e X fun Y s =>
 v b Y f h i s)
(v b e f h i s))
(retK false s e some)) φ d (.tree [] 0 true) k E (ni 1) s)) s0
def zdV (φ : Nat) : List D → Option D :=
fun as =>
(fun (s : LS) =>
 u1 as fun z A =>
 u1 A fun B C =>
 u0 C (
 kBox z s fun E s =>
 z3 1 s E fun F s =>
 isoK (zck φ) [F] s fun G s =>
 z9 [(.tree [] 0 true), (ni 0)] s fun b s =>
 z6 2 s b G fun _ s =>
 z3 2 s b fun H s =>
 z3 2 s b fun I s =>
 isoK (z3y φ) [I, B] s fun J s =>
 isoK (z8O φ) [H, J] s fun f s =>
 kLen f s fun K s =>
 lp (fun (_ _ _ _ _ : D) (_ : LS) => none) (fun (M : D → D → D → D → D → LS → Rs) (g h i k c : D) (s : LS) =>
 kLss c k fun N =>
 z5 N
(z1 2 s i c fun O s =>
 z3 2 s O fun P s =>
 z9 [(.tree [] 0 true), (ni 0)] s fun d s =>
 z6 2 s d P fun _ s =>
 z3 2 s g fun S s =>
 z7 0 s d fun U s =>
 z4 s U fun V s =>
 isoK (z8M φ) [S, V] s fun l s =>
 kLen l s fun W s =>
 lp (fun (_ _ _ _ _ _ _ _ _ : D) (_ : LS) => none) (fun (X : D → D → D → D → D → D → D → D → D → LS → Rs) (m n o p u v w y e : D) (s : LS) =>
 kLss e y fun Y =>
 z5 Y
(z1 1 s w e fun Z s =>
 z4 s Z fun bb s =>
 z7 1 s o fun bc s =>
 z4 s bc fun bd s =>
 zI [(.tree [] 0 true), (ni 0)] [(0, 1, bb), (1, 1, bd)] s fun bf s =>
 kBsl 1 [(.tree [] 0 true), (ni 0)] [(0, 2, bf)] s fun bg s =>
 kApp 2 32 s n bg fun bh s =>
 kAdd e (ni 1) fun bi =>
 X m bh o p u v w y bi s)
(kAdd v (ni 1) fun bk =>
 M m n p u bk s)) φ g h d i k c l W (ni 0) s)
(retK true s h some)) φ b (.tree [] 0 true) f K (ni 0) s)) s0
def zdX (φ : Nat) : List D → Option D :=
fun as =>
(fun (s : LS) =>
 u1 as fun d e =>
 u1 e fun f g =>
 u0 g (
 kBox d s fun b s =>
 kBox f s fun c s =>
 z7 2 s b fun h s =>
 z4 s h fun i s =>
 z7 2 s c fun k s =>
 z4 s k fun l s =>
 kEql i l fun m =>
 z5 m
(z7 0 s b fun n s =>
 z3 2 s n fun o s =>
 z7 0 s c fun p s =>
 z3 2 s p fun u s =>
 isoK (z3R φ) [o, u] s fun v s =>
 retK false s v some)
(z7 0 s b fun w s =>
 z7 0 s w fun y s =>
 z4 s y fun z s =>
 z7 0 s b fun A s =>
 z7 1 s A fun B s =>
 z4 s B fun C s =>
 z7 2 s c fun E s =>
 z4 s E fun F s =>
 isoK z7B [C, F] s fun G s =>
 isoK (zq φ) [z, G] s fun H s =>
 z7 0 s c fun I s =>
 z7 0 s I fun J s =>
 z4 s J fun K s =>
 z7 0 s c fun M s =>
 z7 1 s M fun N s =>
 z4 s N fun O s =>
 z7 2 s b fun P s =>
 z4 s P fun S s =>
 isoK z7B [O, S] s fun U s =>
 isoK (zq φ) [K, U] s fun V s =>
 isoK (z3R φ) [H, V] s fun W s =>
 retK false s W some))) s0
def z9i (φ : Nat) : List D → Option D :=
fun as =>
(fun (s : LS) =>
 u1 as fun b l =>
 u1 l fun e m =>
 u0 m (
 kLen b s fun n s =>
 kLen e s fun o s =>
 kNeq n o fun p =>
 z5 p
(kLen b s fun u s =>
 kLen e s fun v s =>
 kSub u v fun w =>
 kS (.min (.c (ni 1)) (.c w)) s fun y s =>
 kS (.max (.c (.i .i64 (.negSucc 0))) (.c y)) s fun z s =>
 retK false s z some)
(kLen b s fun A s =>
 lp (fun (_ _ _ _ : D) (_ : LS) => none) (fun (B : D → D → D → D → LS → Rs) (f g h d : D) (s : LS) =>
 kLss d h fun C =>
 z5 C
(z1 3 s f d fun E s =>
 z3 3 s E fun F s =>
 z1 3 s g d fun G s =>
 z3 3 s G fun H s =>
 isoK (zdX φ) [F, H] s fun k s =>
 kNeq k (ni 0) fun I =>
 z5 I
(retK false s k some)
(kAdd d (ni 1) fun J =>
 B f g h J s))
(retK false s (ni 0) some)) φ b e A (ni 0) s))) s0
def z6n (φ : Nat) : List D → Option D :=
fun as =>
(fun (s : LS) =>
 u1 as fun b l =>
 u1 l fun e m =>
 u0 m (
 kLen b s fun n s =>
 kLen e s fun o s =>
 kNeq n o fun p =>
 z5 p
(kLen b s fun u s =>
 kLen e s fun v s =>
 kSub u v fun w =>
 kS (.min (.c (ni 1)) (.c w)) s fun y s =>
 kS (.max (.c (.i .i64 (.negSucc 0))) (.c y)) s fun z s =>
 retK false s z some)
(kLen b s fun A s =>
 lp (fun (_ _ _ _ : D) (_ : LS) => none) (fun (B : D → D → D → D → LS → Rs) (f g h d : D) (s : LS) =>
 kLss d h fun C =>
 z5 C
(z1 1 s f d fun E s =>
 z4 s E fun F s =>
 z1 1 s g d fun G s =>
 z4 s G fun H s =>
 isoK (z9i φ) [F, H] s fun k s =>
 kNeq k (ni 0) fun I =>
 z5 I
(retK false s k some)
(kAdd d (ni 1) fun J =>
 B f g h J s))
(retK false s (ni 0) some)) φ b e A (ni 0) s))) s0
def z4W (φ : Nat) : List D → Option D :=
fun as =>
(fun (s : LS) =>
 u1 as fun b c =>
 u1 c fun d e =>
 u0 e (
 kBox b s fun f s =>
 kBox d s fun g s =>
 z7 0 s f fun h s =>
 z4 s h fun i s =>
 z7 0 s g fun k s =>
 z4 s k fun l s =>
 isoK (z6n φ) [i, l] s fun m s =>
 retK false s m some)) s0
def z3U (φ : Nat) : FTab := setT (z5X φ) 176 (.iso (z4W φ))
def z1u (φ : Nat) : List D → LS → (D → LS → Rs) → Rs :=
fun as s k =>
 u1 as fun p u =>
 u1 u fun l v =>
 u1 v fun w y =>
 u1 y fun z A =>
 u0 A (
 kAdd l (ni 1) fun B =>
 lp (fun (_ _ _ _ _ : D) (_ : LS) => none) (fun (C : D → D → D → D → D → LS → Rs) (E F m G g : D) (s : LS) =>
 kLss g m fun H =>
 z5 H
(lp (fun (_ _ _ _ _ _ : D) (_ : LS) => none) (fun (I : D → D → D → D → D → D → LS → Rs) (e h n i o f : D) (s : LS) =>
 kGtr f h fun c =>
 z0 c true (fun k => k i s) s fun J s =>
 z0 c true (fun k => k e s) s fun K s =>
 z0 c true (fun k => k f s) s fun M s =>
 z0 c true (fun k => z1 2 s K M k) s fun N s =>
 z0 c true (fun k => z3 2 s N k) s fun O s =>
 z0 c true (fun k => k e s) s fun P s =>
 z0 c true (fun k => k f s) s fun S s =>
 z0 c true (fun k => kSub S (ni 1) fun d => k d s) s fun U s =>
 z0 c true (fun k => z1 2 s P U k) s fun V s =>
 z0 c true (fun k => z3 2 s V k) s fun W s =>
 z0 c true (fun k => dynK (z3U φ) false J [O, W] s k) s fun X s =>
 z0 c true (fun k => kLss X (ni 0) fun d => k d s) s fun Y s =>
 zp c Y (.b false) s fun Z s =>
 z5 Z
(kSub f (ni 1) fun bb =>
 kSub f (ni 1) fun bc =>
 z1 2 s e bc fun bd s =>
 z3 2 s bd fun bf s =>
 z1 2 s e f fun bg s =>
 z3 2 s bg fun bh s =>
 z1 2 s e f fun bi s =>
 z6 2 s bi bf fun _ s =>
 z1 2 s e bb fun bk s =>
 z6 2 s bk bh fun _ s =>
 kSub f (ni 1) fun bl =>
 I e h n i o bl s)
(kAdd o (ni 1) fun bm =>
 C e h n i bm s)) φ E F m G g g s)
(k (.tup []) s)) φ p l w z B s)
def z1e (φ : Nat) : List D → LS → (D → LS → Rs) → Rs :=
fun as s k =>
 u1 as fun w y =>
 u1 y fun z A =>
 u1 A fun B C =>
 u1 C fun E F =>
 u1 F fun G H =>
 u0 H (
 lp (fun (_ _ _ _ _ : D) (_ : LS) => none) (fun (I : D → D → D → D → D → LS → Rs) (h i l n o : D) (s : LS) =>
 kMul (ni 2) o fun J =>
 kAdd J (ni 1) fun g =>
 kGeq g i fun K =>
 z5 K
(k (.tup []) s)
(jn (fun (e M f u p m : D) (s : LS) =>
 kAdd f p fun N =>
 z1 2 s e N fun O s =>
 z3 2 s O fun P s =>
 kAdd f m fun S =>
 z1 2 s e S fun U s =>
 z3 2 s U fun V s =>
 dynK (z3U φ) false u [P, V] s fun W s =>
 kLss W (ni 0) fun X =>
 kNot X s fun Y s =>
 z5 Y
(k (.tup []) s)
(kAdd f p fun Z =>
 kAdd f m fun bb =>
 kAdd f m fun bc =>
 z1 2 s e bc fun bd s =>
 z3 2 s bd fun bf s =>
 kAdd f p fun bg =>
 z1 2 s e bg fun bh s =>
 z3 2 s bh fun bi s =>
 z1 2 s e Z fun bk s =>
 z6 2 s bk bf fun _ s =>
 z1 2 s e bb fun bl s =>
 z6 2 s bl bi fun _ s =>
 I e M f u m s)) fun v =>
 kAdd g (ni 1) fun bm =>
 kLss bm i fun c =>
 z0 c true (fun k => k n s) s fun bn s =>
 z0 c true (fun k => k h s) s fun bo s =>
 z0 c true (fun k => k l s) s fun bp s =>
 z0 c true (fun k => k g s) s fun bu s =>
 z0 c true (fun k => kAdd bp bu fun d => k d s) s fun bv s =>
 z0 c true (fun k => z1 2 s bo bv k) s fun bw s =>
 z0 c true (fun k => z3 2 s bw k) s fun bz s =>
 z0 c true (fun k => k h s) s fun bA s =>
 z0 c true (fun k => k l s) s fun bB s =>
 z0 c true (fun k => k g s) s fun bC s =>
 z0 c true (fun k => kAdd bB bC fun d => k d s) s fun bE s =>
 z0 c true (fun k => kAdd bE (ni 1) fun d => k d s) s fun bF s =>
 z0 c true (fun k => z1 2 s bA bF k) s fun bG s =>
 z0 c true (fun k => z3 2 s bG k) s fun bH s =>
 z0 c true (fun k => dynK (z3U φ) false bn [bz, bH] s k) s fun bI s =>
 z0 c true (fun k => kLss bI (ni 0) fun d => k d s) s fun bJ s =>
 zp c bJ (.b false) s fun bK s =>
 z5 bK
(kAdd g (ni 1) fun bM =>
 v h i l n o bM s)
(v h i l n o g s))) φ w B E G z s)
def z26 (φ : Nat) : List D → LS → (D → LS → Rs) → Rs :=
fun as s k =>
 u1 as fun u v =>
 u1 v fun l w =>
 u1 w fun y z =>
 u1 z fun A B =>
 u0 B (
 kSub y l fun m =>
 kSub m (ni 1) fun C =>
 kQuo C (ni 2) fun E =>
 lp (fun (_ _ _ _ _ _ : D) (_ : LS) => none) (fun (F : D → D → D → D → D → D → LS → Rs) (e f g n h i : D) (s : LS) =>
 kGeq i (ni 0) fun G =>
 z5 G
((z1e φ) [e, i, h, g, f] s fun Y s =>
 kSub i (ni 1) fun H =>
 F e f g n h H s)
(kSub h (ni 1) fun I =>
 lp (fun (_ _ _ _ _ : D) (_ : LS) => none) (fun (J : D → D → D → D → D → LS → Rs) (b o c p d : D) (s : LS) =>
 kGeq d (ni 0) fun K =>
 z5 K
(kAdd c d fun M =>
 kAdd c d fun N =>
 z1 2 s b N fun O s =>
 z3 2 s O fun P s =>
 z1 2 s b c fun S s =>
 z3 2 s S fun U s =>
 z1 2 s b c fun V s =>
 z6 2 s V P fun _ s =>
 z1 2 s b M fun W s =>
 z6 2 s W U fun _ s =>
(z1e φ) [b, p, d, c, o] s fun Z s =>
 kSub d (ni 1) fun X =>
 J b o c p X s)
(k (.tup []) s)) φ e f g n I s)) φ u A l (ni 0) m E s)
def z1w (φ : Nat) : List D → LS → (D → LS → Rs) → Rs :=
fun as s k =>
 u1 as fun y z =>
 u1 z fun e A =>
 u1 A fun B C =>
 u1 C fun bu E =>
 u0 E (
 kSub B e fun b =>
 kGeq b (ni 8) fun F =>
 z5 F
(z2s .u64 b s fun G s =>
 z9 [(.i .u64 (.ofNat 0))] s fun p s =>
 z6 1 s p G fun _ s =>
(z2o φ) [b] s fun H s =>
 kQuo b (ni 4) fun I =>
 kMul I (ni 2) fun J =>
 kAdd e J fun K =>
 kSub K (ni 1) fun M =>
 lp (fun (_ _ _ _ _ _ : D) (_ : LS) => none) (fun (N : D → D → D → D → D → D → LS → Rs) (u f c g h l : D) (s : LS) =>
 kQuo c (ni 4) fun O =>
 kMul O (ni 2) fun P =>
 kAdd f P fun S =>
 kAdd S (ni 1) fun U =>
 kLeq l U fun V =>
 z5 V
(isoK (z2z φ) [g] s fun W s =>
 kSub h (.i .u64 (.ofNat 1)) fun X =>
 kAnd W X fun Y =>
 z2s .i64 Y s fun m s =>
 jn (fun (d n Z bb bc o v : D) (s : LS) =>
 kAdd n v fun bd =>
 kAdd n v fun bf =>
 z1 2 s d bf fun bg s =>
 z3 2 s bg fun bh s =>
 z1 2 s d o fun bi s =>
 z3 2 s bi fun bk s =>
 z1 2 s d o fun bl s =>
 z6 2 s bl bh fun _ s =>
 z1 2 s d bd fun bm s =>
 z6 2 s bm bk fun _ s =>
 kAdd o (ni 1) fun bn =>
 N d n Z bb bc bn s) fun w =>
 kGeq m c fun bo =>
 z5 bo
(kSub m c fun bp =>
 w u f c g h l bp s)
(w u f c g h l m s))
(k (.tup []) s)) φ y e b p H M s)
(k (.tup []) s))
def zT (φ : Nat) : List D → LS → (D → LS → Rs) → Rs :=
fun as s k =>
 u1 as fun d f =>
 u1 f fun b g =>
 u1 g fun c h =>
 u1 h fun e i =>
 u1 i fun l m =>
 u0 m (
 z1 2 s d c fun n s =>
 z3 2 s n fun o s =>
 z1 2 s d b fun p s =>
 z3 2 s p fun u s =>
 dynK (z3U φ) false l [o, u] s fun v s =>
 kLss v (ni 0) fun w =>
 z5 w
(z4o s e fun y s =>
 z4 s y fun z s =>
 kAdd z (ni 1) fun A =>
 z4o s e fun B s =>
 z6 1 s B A fun _ s =>
 k (.tup [c, b]) s)
(k (.tup [b, c]) s))
def z1n (φ : Nat) : List D → LS → (D → LS → Rs) → Rs :=
fun as s k =>
 u1 as fun b h =>
 u1 h fun i l =>
 u1 l fun m n =>
 u1 n fun o p =>
 u1 p fun c u =>
 u1 u fun d v =>
 u0 v (
(zT φ) [b, i, m, c, d] s fun e s =>
 kExt e 0 s fun w s =>
 kExt e 1 s fun y s =>
(zT φ) [b, y, o, c, d] s fun f s =>
 kExt f 0 s fun z s =>
 kExt f 1 s fun B s =>
(zT φ) [b, w, z, c, d] s fun g s =>
 kExt g 0 s fun C s =>
 kExt g 1 s fun A s =>
 k A s)
def zE (φ : Nat) : List D → LS → (D → LS → Rs) → Rs :=
fun as s k =>
 u1 as fun c d =>
 u1 d fun b e =>
 u1 e fun f g =>
 u1 g fun h i =>
 u0 i (
 kSub b (ni 1) fun l =>
 kAdd b (ni 1) fun m =>
(z1n φ) [c, l, b, m, f, h] s fun n s =>
 k n s)
def z1J (φ : Nat) : List D → LS → (D → LS → Rs) → Rs :=
fun as s k =>
 u1 as fun c u =>
 u1 u fun f v =>
 u1 v fun w y =>
 u1 y fun d z =>
 u0 z (
 kSub w f fun e =>
 z9 [(ni 0)] s fun b s =>
 kQuo e (ni 4) fun A =>
 kMul A (ni 1) fun B =>
 kAdd f B fun i =>
 kQuo e (ni 4) fun C =>
 kMul C (ni 2) fun E =>
 kAdd f E fun g =>
 kQuo e (ni 4) fun F =>
 kMul F (ni 3) fun G =>
 kAdd f G fun l =>
 jn (fun (H h : D) (s : LS) =>
 z4 s H fun m s =>
 kEql m (ni 0) fun I =>
 z5 I
(k (.tup [h, (ni 1)]) s)
(kEql m (ni 12) fun J =>
 z5 J
(k (.tup [h, (ni 2)]) s)
(k (.tup [h, (ni 0)]) s))) fun n =>
 kGeq e (ni 8) fun K =>
 z5 K
(jn (fun (M N o O P S : D) (s : LS) =>
(z1n φ) [M, O, P, S, o, N] s fun U s =>
 n o U s) fun p =>
 kGeq e (ni 50) fun V =>
 z5 V
((zE φ) [c, i, b, d] s fun W s =>
(zE φ) [c, g, b, d] s fun X s =>
(zE φ) [c, l, b, d] s fun Y s =>
 p c d b W X Y s)
(p c d b i g l s))
(n b g s))
def z1A (φ : Nat) : List D → LS → (D → LS → Rs) → Rs :=
fun as s k =>
 u1 as fun e f =>
 u1 f fun g h =>
 u1 h fun i l =>
 u1 l fun E m =>
 u0 m (
 kSub i (ni 1) fun n =>
 lp (fun (_ _ _ : D) (_ : LS) => none) (fun (o : D → D → D → LS → Rs) (b c d : D) (s : LS) =>
 kLss c d fun p =>
 z5 p
(z1 2 s b d fun u s =>
 z3 2 s u fun v s =>
 z1 2 s b c fun w s =>
 z3 2 s w fun y s =>
 z1 2 s b c fun z s =>
 z6 2 s z v fun _ s =>
 z1 2 s b d fun A s =>
 z6 2 s A y fun _ s =>
 kAdd c (ni 1) fun B =>
 kSub d (ni 1) fun C =>
 o b B C s)
(k (.tup []) s)) φ e g n s)
def zV (φ : Nat) : List D → LS → (D → LS → Rs) → Rs :=
fun as s k =>
 u1 as fun U V =>
 u1 V fun K W =>
 u1 W fun X Y =>
 u1 Y fun Z bb =>
 u0 bb (
 kAdd K (ni 1) fun bc =>
 lp (fun (_ _ _ _ _ _ : D) (_ : LS) => none) (fun (bd : D → D → D → D → D → D → LS → Rs) (bf bg bh bi bk M : D) (s : LS) =>
 kLss M (ni 5) fun bl =>
 z5 bl
(jn (fun (bm bn bo bp bu bv : D) (s : LS) =>
 kAdd bv (ni 1) fun bw =>
 bd bm bn bo bp bu bw s) fun y =>
 lp (fun (_ _ _ _ _ _ : D) (_ : LS) => none) (fun (bz : D → D → D → D → D → D → LS → Rs) (f n m o e z : D) (s : LS) =>
 kLss e m fun c =>
 z0 c true (fun k => k o s) s fun bA s =>
 z0 c true (fun k => k f s) s fun bB s =>
 z0 c true (fun k => k e s) s fun bC s =>
 z0 c true (fun k => z1 2 s bB bC k) s fun bE s =>
 z0 c true (fun k => z3 2 s bE k) s fun bF s =>
 z0 c true (fun k => k f s) s fun bG s =>
 z0 c true (fun k => k e s) s fun bH s =>
 z0 c true (fun k => kSub bH (ni 1) fun d => k d s) s fun bI s =>
 z0 c true (fun k => z1 2 s bG bI k) s fun bJ s =>
 z0 c true (fun k => z3 2 s bJ k) s fun bK s =>
 z0 c true (fun k => dynK (z3U φ) false bA [bF, bK] s k) s fun bM s =>
 z0 c true (fun k => kLss bM (ni 0) fun d => k d s) s fun bN s =>
 z0 c true (fun k => kNot bN s k) s fun bO s =>
 zp c bO (.b false) s fun bP s =>
 z5 bP
(kAdd e (ni 1) fun bS =>
 bz f n m o bS z s)
(kEql e m fun bU =>
 z5 bU
(k (.b true) s)
(kSub m n fun bV =>
 kLss bV (ni 50) fun bW =>
 z5 bW
(k (.b false) s)
(kSub e (ni 1) fun bX =>
 kSub e (ni 1) fun bY =>
 z1 2 s f bY fun bZ s =>
 z3 2 s bZ fun cb s =>
 z1 2 s f e fun cc s =>
 z3 2 s cc fun cd s =>
 z1 2 s f e fun ce s =>
 z6 2 s ce cb fun _ s =>
 z1 2 s f bX fun cf s =>
 z6 2 s cf cd fun _ s =>
 jn (fun (N O A P p S : D) (s : LS) =>
 kSub A p fun cg =>
 kGeq cg (ni 2) fun ch =>
 z5 ch
(kAdd p (ni 1) fun ci =>
 lp (fun (_ _ _ _ _ _ _ : D) (_ : LS) => none) (fun (ck : D → D → D → D → D → D → D → LS → Rs) (g B u v C E i : D) (s : LS) =>
 kLss i u fun cl =>
 z5 cl
(z1 2 s g i fun cm s =>
 z3 2 s cm fun cn s =>
 kSub i (ni 1) fun co =>
 z1 2 s g co fun cp s =>
 z3 2 s cp fun cu s =>
 dynK (z3U φ) false v [cn, cu] s fun cv s =>
 kLss cv (ni 0) fun cw =>
 kNot cw s fun cy s =>
 z5 cy
(y g B u v C E s)
(kSub i (ni 1) fun cz =>
 kSub i (ni 1) fun cA =>
 z1 2 s g cA fun cB s =>
 z3 2 s cB fun cC s =>
 z1 2 s g i fun cE s =>
 z3 2 s cE fun cF s =>
 z1 2 s g i fun cG s =>
 z6 2 s cG cC fun _ s =>
 z1 2 s g cz fun cH s =>
 z6 2 s cH cF fun _ s =>
 kAdd i (ni 1) fun cI =>
 ck g B u v C E cI s))
(y g B u v C E s)) φ N O A P p S ci s)
(y N O A P p S s)) fun F =>
 kSub e n fun cJ =>
 kGeq cJ (ni 2) fun cK =>
 z5 cK
(kSub e (ni 1) fun cM =>
 lp (fun (_ _ _ _ _ _ _ : D) (_ : LS) => none) (fun (cN : D → D → D → D → D → D → D → LS → Rs) (h G H w I J l : D) (s : LS) =>
 kGeq l (ni 1) fun cO =>
 z5 cO
(z1 2 s h l fun cP s =>
 z3 2 s cP fun cS s =>
 kSub l (ni 1) fun cU =>
 z1 2 s h cU fun cV s =>
 z3 2 s cV fun cW s =>
 dynK (z3U φ) false w [cS, cW] s fun cX s =>
 kLss cX (ni 0) fun cY =>
 kNot cY s fun cZ s =>
 z5 cZ
(F h G H w I J s)
(kSub l (ni 1) fun db =>
 kSub l (ni 1) fun dc =>
 z1 2 s h dc fun dd s =>
 z3 2 s dd fun de s =>
 z1 2 s h l fun df s =>
 z3 2 s df fun dg s =>
 z1 2 s h l fun dh s =>
 z6 2 s dh de fun _ s =>
 z1 2 s h db fun di s =>
 z6 2 s di dg fun _ s =>
 kSub l (ni 1) fun dk =>
 cN h G H w I J dk s))
(F h G H w I J s)) φ f n m o e z cM s)
(F f n m o e z s))))) φ bf bg bh bi bk M s)
(k (.b false) s)) φ U K X Z bc (ni 0) s)
def z1l (φ : Nat) : List D → LS → (D → LS → Rs) → Rs :=
fun as s k =>
 u1 as fun i z =>
 u1 z fun l A =>
 u1 A fun B C =>
 u1 C fun y E =>
 u1 E fun F G =>
 u0 G (
 z1 2 s i y fun H s =>
 z3 2 s H fun I s =>
 z1 2 s i l fun J s =>
 z3 2 s J fun K s =>
 z1 2 s i l fun M s =>
 z6 2 s M I fun _ s =>
 z1 2 s i y fun N s =>
 z6 2 s N K fun _ s =>
 kAdd l (ni 1) fun O =>
 kSub B (ni 1) fun P =>
 lp (fun (_ _ _ _ _ : D) (_ : LS) => none) (fun (S : D → D → D → D → D → LS → Rs) (U V W X Y : D) (s : LS) =>
 lp (fun (_ _ _ _ _ : D) (_ : LS) => none) (fun (Z : D → D → D → D → D → LS → Rs) (m o p n u : D) (s : LS) =>
 kLeq n u fun c =>
 z0 c true (fun k => k p s) s fun bb s =>
 z0 c true (fun k => k m s) s fun bc s =>
 z0 c true (fun k => k o s) s fun bd s =>
 z0 c true (fun k => z1 2 s bc bd k) s fun bf s =>
 z0 c true (fun k => z3 2 s bf k) s fun bg s =>
 z0 c true (fun k => k m s) s fun bh s =>
 z0 c true (fun k => k n s) s fun bi s =>
 z0 c true (fun k => z1 2 s bh bi k) s fun bk s =>
 z0 c true (fun k => z3 2 s bk k) s fun bl s =>
 z0 c true (fun k => dynK (z3U φ) false bb [bg, bl] s k) s fun bm s =>
 z0 c true (fun k => kLss bm (ni 0) fun d => k d s) s fun bn s =>
 z0 c true (fun k => kNot bn s k) s fun bo s =>
 zp c bo (.b false) s fun bp s =>
 z5 bp
(kAdd n (ni 1) fun bu =>
 Z m o p bu u s)
(lp (fun (_ _ _ _ _ : D) (_ : LS) => none) (fun (bv : D → D → D → D → D → LS → Rs) (f v w g h : D) (s : LS) =>
 kLeq g h fun e =>
 z0 e true (fun k => k w s) s fun bw s =>
 z0 e true (fun k => k f s) s fun bz s =>
 z0 e true (fun k => k v s) s fun bA s =>
 z0 e true (fun k => z1 2 s bz bA k) s fun bB s =>
 z0 e true (fun k => z3 2 s bB k) s fun bC s =>
 z0 e true (fun k => k f s) s fun bE s =>
 z0 e true (fun k => k h s) s fun bF s =>
 z0 e true (fun k => z1 2 s bE bF k) s fun bG s =>
 z0 e true (fun k => z3 2 s bG k) s fun bH s =>
 z0 e true (fun k => dynK (z3U φ) false bw [bC, bH] s k) s fun bI s =>
 z0 e true (fun k => kLss bI (ni 0) fun d => k d s) s fun bJ s =>
 zp e bJ (.b false) s fun bK s =>
 z5 bK
(kSub h (ni 1) fun bM =>
 bv f v w g bM s)
(kGtr g h fun bN =>
 z5 bN
(k g s)
(z1 2 s f h fun bO s =>
 z3 2 s bO fun bP s =>
 z1 2 s f g fun bS s =>
 z3 2 s bS fun bU s =>
 z1 2 s f g fun bV s =>
 z6 2 s bV bP fun _ s =>
 z1 2 s f h fun bW s =>
 z6 2 s bW bU fun _ s =>
 kAdd g (ni 1) fun bX =>
 kSub h (ni 1) fun bY =>
 S f v w bX bY s))) φ m o p n u s)) φ U V W X Y s) φ i l F O P s)
def z1Y (φ : Nat) : List D → LS → (D → LS → Rs) → Rs :=
fun as s k =>
 u1 as fun p N =>
 u1 N fun w O =>
 u1 O fun P S =>
 u1 S fun M U =>
 u1 U fun V W =>
 u0 W (
 z1 2 s p M fun X s =>
 z3 2 s X fun Y s =>
 z1 2 s p w fun Z s =>
 z3 2 s Z fun bb s =>
 z1 2 s p w fun bc s =>
 z6 2 s bc Y fun _ s =>
 z1 2 s p M fun bd s =>
 z6 2 s bd bb fun _ s =>
 kAdd w (ni 1) fun bf =>
 kSub P (ni 1) fun bg =>
 lp (fun (_ _ _ _ _ : D) (_ : LS) => none) (fun (bh : D → D → D → D → D → LS → Rs) (y C E z F : D) (s : LS) =>
 kLeq z F fun f =>
 z0 f true (fun k => k E s) s fun bi s =>
 z0 f true (fun k => k y s) s fun bk s =>
 z0 f true (fun k => k z s) s fun bl s =>
 z0 f true (fun k => z1 2 s bk bl k) s fun bm s =>
 z0 f true (fun k => z3 2 s bm k) s fun bn s =>
 z0 f true (fun k => k y s) s fun bo s =>
 z0 f true (fun k => k C s) s fun bp s =>
 z0 f true (fun k => z1 2 s bo bp k) s fun bu s =>
 z0 f true (fun k => z3 2 s bu k) s fun bv s =>
 z0 f true (fun k => dynK (z3U φ) false bi [bn, bv] s k) s fun bw s =>
 z0 f true (fun k => kLss bw (ni 0) fun d => k d s) s fun bz s =>
 zp f bz (.b false) s fun bA s =>
 z5 bA
(kAdd z (ni 1) fun bB =>
 bh y C E bB F s)
(lp (fun (_ _ _ _ _ : D) (_ : LS) => none) (fun (bC : D → D → D → D → D → LS → Rs) (g u G n l : D) (s : LS) =>
 kLeq n l fun c =>
 z0 c true (fun k => k G s) s fun bE s =>
 z0 c true (fun k => k g s) s fun bF s =>
 z0 c true (fun k => k l s) s fun bG s =>
 z0 c true (fun k => z1 2 s bF bG k) s fun bH s =>
 z0 c true (fun k => z3 2 s bH k) s fun bI s =>
 z0 c true (fun k => k g s) s fun bJ s =>
 z0 c true (fun k => k u s) s fun bK s =>
 z0 c true (fun k => z1 2 s bJ bK k) s fun bM s =>
 z0 c true (fun k => z3 2 s bM k) s fun bN s =>
 z0 c true (fun k => dynK (z3U φ) false bE [bI, bN] s k) s fun bO s =>
 z0 c true (fun k => kLss bO (ni 0) fun d => k d s) s fun bP s =>
 z0 c true (fun k => kNot bP s k) s fun bS s =>
 zp c bS (.b false) s fun bU s =>
 z5 bU
(kSub l (ni 1) fun bV =>
 bC g u G n bV s)
(kGtr n l fun bW =>
 z5 bW
(z1 2 s g u fun bX s =>
 z3 2 s bX fun bY s =>
 z1 2 s g l fun bZ s =>
 z3 2 s bZ fun cb s =>
 z1 2 s g l fun cc s =>
 z6 2 s cc bY fun _ s =>
 z1 2 s g u fun cd s =>
 z6 2 s cd cb fun _ s =>
 k (.tup [l, (.b true)]) s)
(z1 2 s g l fun ce s =>
 z3 2 s ce fun cf s =>
 z1 2 s g n fun cg s =>
 z3 2 s cg fun ch s =>
 z1 2 s g n fun ci s =>
 z6 2 s ci cf fun _ s =>
 z1 2 s g l fun ck s =>
 z6 2 s ck ch fun _ s =>
 kAdd n (ni 1) fun cl =>
 kSub l (ni 1) fun cm =>
 lp (fun (_ _ _ _ _ : D) (_ : LS) => none) (fun (cn : D → D → D → D → D → LS → Rs) (co cp cu cv cw : D) (s : LS) =>
 lp (fun (_ _ _ _ _ : D) (_ : LS) => none) (fun (cy : D → D → D → D → D → LS → Rs) (A H I B J : D) (s : LS) =>
 kLeq B J fun h =>
 z0 h true (fun k => k I s) s fun cz s =>
 z0 h true (fun k => k A s) s fun cA s =>
 z0 h true (fun k => k B s) s fun cB s =>
 z0 h true (fun k => z1 2 s cA cB k) s fun cC s =>
 z0 h true (fun k => z3 2 s cC k) s fun cE s =>
 z0 h true (fun k => k A s) s fun cF s =>
 z0 h true (fun k => k H s) s fun cG s =>
 z0 h true (fun k => z1 2 s cF cG k) s fun cH s =>
 z0 h true (fun k => z3 2 s cH k) s fun cI s =>
 z0 h true (fun k => dynK (z3U φ) false cz [cE, cI] s k) s fun cJ s =>
 z0 h true (fun k => kLss cJ (ni 0) fun d => k d s) s fun cK s =>
 zp h cK (.b false) s fun cM s =>
 z5 cM
(kAdd B (ni 1) fun cN =>
 cy A H I cN J s)
(lp (fun (_ _ _ _ _ : D) (_ : LS) => none) (fun (cO : D → D → D → D → D → LS → Rs) (i v K o m : D) (s : LS) =>
 kLeq o m fun e =>
 z0 e true (fun k => k K s) s fun cP s =>
 z0 e true (fun k => k i s) s fun cS s =>
 z0 e true (fun k => k m s) s fun cU s =>
 z0 e true (fun k => z1 2 s cS cU k) s fun cV s =>
 z0 e true (fun k => z3 2 s cV k) s fun cW s =>
 z0 e true (fun k => k i s) s fun cX s =>
 z0 e true (fun k => k v s) s fun cY s =>
 z0 e true (fun k => z1 2 s cX cY k) s fun cZ s =>
 z0 e true (fun k => z3 2 s cZ k) s fun db s =>
 z0 e true (fun k => dynK (z3U φ) false cP [cW, db] s k) s fun dc s =>
 z0 e true (fun k => kLss dc (ni 0) fun d => k d s) s fun dd s =>
 z0 e true (fun k => kNot dd s k) s fun de s =>
 zp e de (.b false) s fun df s =>
 z5 df
(kSub m (ni 1) fun dg =>
 cO i v K o dg s)
(kGtr o m fun dh =>
 z5 dh
(z1 2 s i v fun di s =>
 z3 2 s di fun dk s =>
 z1 2 s i m fun dl s =>
 z3 2 s dl fun dm s =>
 z1 2 s i m fun dn s =>
 z6 2 s dn dk fun _ s =>
 z1 2 s i v fun dp s =>
 z6 2 s dp dm fun _ s =>
 k (.tup [m, (.b false)]) s)
(z1 2 s i m fun du s =>
 z3 2 s du fun dv s =>
 z1 2 s i o fun dw s =>
 z3 2 s dw fun dy s =>
 z1 2 s i o fun dz s =>
 z6 2 s dz dv fun _ s =>
 z1 2 s i m fun dA s =>
 z6 2 s dA dy fun _ s =>
 kAdd o (ni 1) fun dB =>
 kSub m (ni 1) fun dC =>
 cn i v K dB dC s))) φ A H I B J s)) φ co cp cu cv cw s) φ g u G cl cm s))) φ y C E z F s)) φ p w V bf bg s)
def z3p (φ : Nat) (ih : List D → LS → (D → LS → Rs) → Rs) : List D → LS → (D → LS → Rs) → Rs :=
fun as s k =>
 u1 as fun bm bn =>
 u1 bn fun bo bp =>
 u1 bp fun bu bv =>
 u1 bv fun bw bz =>
 u1 bz fun bA bB =>
 u0 bB (
 lp (fun (_ _ _ _ _ _ _ : D) (_ : LS) => none) (fun (A : D → D → D → D → D → D → D → LS → Rs) (n h i B o C N : D) (s : LS) =>
 kSub i h fun E =>
 kLeq E (ni 12) fun bC =>
 z5 bC
((z1u φ) [n, h, i, o] s fun cz s =>
 k (.tup []) s)
(kEql B (ni 0) fun bE =>
 z5 bE
((z26 φ) [n, h, i, o] s fun cA s =>
 k (.tup []) s)
(jn (fun (w p u O y P S U : D) (s : LS) =>
(z1J φ) [w, p, u, y] s fun V s =>
 kExt V 0 s fun W s =>
 kExt V 1 s fun X s =>
 jn (fun (F G H Y I z J Z bb bF : D) (s : LS) =>
 jn (fun (e g l v f bG bH bI K : D) (s : LS) =>
 kGtr g (ni 0) fun c =>
 z0 c true (fun k => k f s) s fun bJ s =>
 z0 c true (fun k => k e s) s fun bK s =>
 z0 c true (fun k => k g s) s fun bM s =>
 z0 c true (fun k => kSub bM (ni 1) fun d => k d s) s fun bN s =>
 z0 c true (fun k => z1 2 s bK bN k) s fun bO s =>
 z0 c true (fun k => z3 2 s bO k) s fun bP s =>
 z0 c true (fun k => k e s) s fun bS s =>
 z0 c true (fun k => k K s) s fun bU s =>
 z0 c true (fun k => z1 2 s bS bU k) s fun bV s =>
 z0 c true (fun k => z3 2 s bV k) s fun bW s =>
 z0 c true (fun k => dynK (z3U φ) false bJ [bP, bW] s k) s fun bX s =>
 z0 c true (fun k => kLss bX (ni 0) fun d => k d s) s fun bY s =>
 z0 c true (fun k => kNot bY s k) s fun bZ s =>
 zp c bZ (.b false) s fun cb s =>
 z5 cb
((z1l φ) [e, g, l, K, f] s fun cc s =>
 A e cc l v f bG bH s)
((z1Y φ) [e, g, l, K, f] s fun bc s =>
 kExt bc 0 s fun m s =>
 kExt bc 1 s fun bd s =>
 kSub m g fun bf =>
 kSub l m fun bg =>
 kQuo bI (ni 8) fun bh =>
 kLss bf bg fun cd =>
 z5 cd
(kGeq bf bh fun ce =>
 ih [e, g, m, v, f] s fun cB s =>
 kAdd m (ni 1) fun cf =>
 A e cf l v f ce bd s)
(kGeq bg bh fun cg =>
 kAdd m (ni 1) fun ch =>
 ih [e, ch, l, v, f] s fun cC s =>
 A e g m v f cg bd s))) fun bi =>
 z0 z true (fun k => k J s) s fun ci s =>
 zp z ci (.b false) s fun M s =>
 z0 M true (fun k => k bF s) s fun ck s =>
 z0 M true (fun k => kEql ck (ni 1) fun d => k d s) s fun cl s =>
 zp M cl (.b false) s fun cm s =>
 z5 cm
((zV φ) [F, G, H, I] s fun cn s =>
 z5 cn
(k (.tup []) s)
(bi F G H Y I z J Z bb s))
(bi F G H Y I z J Z bb s)) fun bk =>
 kEql X (ni 2) fun co =>
 z5 co
((z1A φ) [w, p, u, y] s fun cE s =>
 kSub u (ni 1) fun cp =>
 kSub W p fun cu =>
 kSub cp cu fun cv =>
 bk w p u O y P S U cv (ni 1) s)
(bk w p u O y P S U W X s)) fun bl =>
 kNot C s fun cw s =>
 z5 cw
((z1w φ) [n, h, i, o] s fun cF s =>
 kSub B (ni 1) fun cy =>
 bl n h i cy o C N E s)
(bl n h i B o C N E s)))) φ bm bo bu bw bA (.b true) (.b true) s)
def z2i (φ : Nat) : List D → LS → (D → LS → Rs) → Rs := lp (fun _ _ _ => none) (z3p φ) φ
def z1C (φ : Nat) : List D → LS → (D → LS → Rs) → Rs :=
fun as s k =>
 u1 as fun b d =>
 u1 d fun e f =>
 u0 f (
 kLen b s fun c s =>
 z2s .u64 c s fun g s =>
 isoK (z46 φ) [g] s fun h s =>
(z2i φ) [b, (ni 0), c, h, e] s fun i s =>
 k (.tup []) s)
def z10 (φ : Nat) : List D → Option D :=
fun as =>
(fun (s : LS) =>
 u1 as fun c d =>
 u1 d fun e f =>
 u0 f (
 kBox c s fun g s =>
 z3 1 s g fun h s =>
 isoK (zdV φ) [h, e] s fun b s =>
(z1C φ) [b, (.fn 176 [])] s fun i s =>
 retK false s b some)) s0
def z7y : List D := [(.agg [(qi [(true,2),(false,0),(false,1)] false)]), (.tree [(qi [(true,4)] false), (.tree [] 0 true), (.tree [] 0 true), (.tree [] 0 true), (qi [(false,1)] false)] 5 false)]
def z7g : D := (.tree [(.tree [(qi [(false,0),(true,1)] true), (qi [(false,1)] true)] 2 false), (ni 1), (.tree [(qi [(false,0),(false,1)] true), (qi [(false,1)] true)] 2 false), (ni 1), (.tree [(qi [(false,2)] true), (.tree [] 0 true), (qi [(false,1)] true)] 3 false), (ni 1)] 3 false)
def z7x : List D := [(.agg [(qi [(true,2),(false,0),(false,1)] false)]), (.tree [(qi [(true,8)] true), (.tree [] 0 true), (qi [(false,1)] true)] 3 false)]
def z7f : D := (.tree [(.tree [(qi [(false,0),(true,2)] true), (qi [(false,1)] true)] 2 false), (ni 1), (.tree [(qi [(false,0),(false,2)] true), (qi [(false,1)] true)] 2 false), (ni 1)] 2 false)
def z7w : List D := [(.agg [(qi [(true,2),(false,0),(false,1)] false)]), (.tree [(qi [(true,3)] false), (.tree [] 0 true), (qi [(false,1)] false)] 3 false)]
def z7e : D := (.tree [(.tree [(qi [(true,3)] true), (.tree [] 0 true), (qi [(false,1)] true)] 3 false), (ni 1)] 1 false)
def z7v : List D := [(.agg [(qi [(false,1),(false,1),(false,1)] false)]), (.tree [(qi [(true,1)] true), (.tree [] 0 true), (.tree [] 0 true), (qi [(false,1)] true)] 4 false)]
def z7d : D := (.tree [(.tree [(qi [(true,1)] true), (qi [(false,1)] true)] 2 false), (ni 1), (.tree [(qi [(false,0),(true,1)] true), (qi [(false,1)] true)] 2 false), (ni 1), (.tree [(qi [(false,1),(false,1)] true), (qi [(false,1)] true)] 2 false), (ni 1)] 3 false)
def z41 : List (List D × D) := [(z7y, z7g), (z7x, z7f), (z7w, z7e), (z7v, z7d)]
def z3l (φ : Nat) : List D → Option D :=
fun as =>
(fun (s : LS) =>
 u1 as fun i l =>
 u1 l fun e m =>
 u0 m (
 kBox i s fun f s =>
 z3 1 s f fun n s =>
 z3 1 s f fun o s =>
 isoK (z5D φ) [o, e] s fun p s =>
 kLen e s fun u s =>
 isoK (z6o φ) [n, p, u] s fun g s =>
 kNeq g (ni 0) fun v =>
 z5 v
(retK false s (.tup [(.b false), g]) some)
(z3 1 s f fun w s =>
 isoK (tabM z41 (z10 φ)) [w, e] s fun h s =>
 kLen h s fun y s =>
 kEql y (ni 1) fun c =>
 z0 c true (fun k => k h s) s fun z s =>
 z0 c true (fun k => z1 2 s z (ni 0) k) s fun A s =>
 z0 c true (fun k => z7 1 s A k) s fun B s =>
 z0 c true (fun k => z4 s B k) s fun C s =>
 z0 c true (fun k => kEql C (ni 1) fun d => k d s) s fun E s =>
 zp c E (.b false) s fun F s =>
 retK false s (.tup [F, (ni 0)]) some))) s0
def z83 (φ : Nat) : List D → Option D :=
fun as =>
(fun (s : LS) =>
 u1 as fun h i =>
 u1 i fun b k =>
 u0 k (
 kBox h s fun c s =>
 z3 1 s c fun l s =>
 isoK (tabM z2J (za φ)) [l] s fun d s =>
 kNeq d (ni 0) fun m =>
 z5 m
(retK false s d some)
(z3 1 s c fun n s =>
 isoK (z5D φ) [n, b] s fun e s =>
 kNeq e (ni 0) fun o =>
 z5 o
(retK false s e some)
(kLen b s fun p s =>
 kLss p (ni 2) fun u =>
 z5 u
(retK false s (ni 27) some)
(z7 0 s c fun v s =>
 z4 s v fun w s =>
 kLen w s fun y s =>
 kSub y (ni 1) fun z =>
 kLen b s fun A s =>
 kSub A (ni 1) fun B =>
 kMul z B fun C =>
 kGtr C (ni 24) fun E =>
 z5 E
(retK false s (ni 4) some)
(z3 1 s c fun F s =>
 isoK (z3l φ) [F, b] s fun f s =>
 kExt f 0 s fun G s =>
 kExt f 1 s fun g s =>
 kNeq g (ni 0) fun H =>
 z5 H
(retK false s g some)
(kNot G s fun I s =>
 z5 I
(retK false s (ni 8) some)
(retK false s (ni 0) some)))))))) s0
def z6D (φ : Nat) : List D → Option D :=
fun as =>
(fun (s : LS) =>
 u1 as fun c d =>
 u1 d fun e f =>
 u0 f (
 isoK (z1g φ) [e, c] s fun b s =>
 kExt b 0 s fun h s =>
 kExt b 1 s fun g s =>
 retK false s g some)) s0
def z7X (φ : Nat) : List D → Option D :=
fun as =>
(fun (s : LS) =>
 u1 as fun b c =>
 u1 c fun d e =>
 u1 e fun f g =>
 u0 g (
 isoK (z4l φ) [d, f] s fun h s =>
 isoK (z6D φ) [b, h] s fun i s =>
 retK false s i some)) s0
def zci (φ : Nat) : List D → Option D :=
fun as =>
(fun (s : LS) =>
 u1 as fun d h =>
 u1 h fun i k =>
 u0 k (
 isoK (z6D φ) [d, i] s fun l s =>
 kBsl 1 [(ni 0)] [(0, 1, (ni 1))] s fun m s =>
 isoK (z2b φ) [m] s fun n s =>
 lp (fun (_ _ _ _ _ : D) (_ : LS) => none) (fun (o : D → D → D → D → D → LS → Rs) (f p c u e : D) (s : LS) =>
 kLen c s fun v s =>
 kGtr v (ni 1) fun w =>
 z5 w
(isoK (z1g φ) [p, c] s fun g s =>
 kExt g 0 s fun y s =>
 kExt g 1 s fun z s =>
 isoK (z4l φ) [y, e] s fun A s =>
 isoK (z3N φ) [u, A] s fun B s =>
 o f c z e B s)
(kLen c s fun C s =>
 kEql C (ni 0) fun E =>
 z5 E
(retK false s (.tup [(.tree [] 0 true), (.b false)]) some)
(z1 3 s c (ni 0) fun F s =>
 z3 3 s F fun G s =>
 isoK (z2r φ) [G] s fun H s =>
 isoK (z21 φ) [e, H] s fun I s =>
 isoK (z6D φ) [f, I] s fun J s =>
 retK false s (.tup [J, (.b true)]) some))) φ d d l (.tree [] 0 true) n s)) s0
def za9 (φ : Nat) : List D → Option D :=
fun as =>
(fun (s : LS) =>
 u1 as fun e m =>
 u1 m fun b n =>
 u0 n (
 kLen b s fun o s =>
 kSub o (ni 1) fun p =>
 z1 1 s b p fun u s =>
 z4 s u fun v s =>
 isoK (zci φ) [e, v] s fun f s =>
 kExt f 0 s fun w s =>
 kExt f 1 s fun I s =>
 kLen b s fun g s =>
 z24 1 24 [(.tree [] 0 true)] s g g fun y s =>
 kLen b s fun z s =>
 lp (fun (_ _ _ _ _ _ : D) (_ : LS) => none) (fun (A : D → D → D → D → D → D → LS → Rs) (h i d k l c : D) (s : LS) =>
 kLss c l fun B =>
 z5 B
(z1 1 s k c fun C s =>
 z4 s C fun E s =>
 isoK (z7X φ) [h, E, i] s fun F s =>
 z1 1 s d c fun G s =>
 z6 1 s G F fun _ s =>
 kAdd c (ni 1) fun H =>
 A h i d k l H s)
(retK false s d some)) φ e w y b z (ni 0) s)) s0
def z9S (φ : Nat) : List D → Option D :=
fun as =>
(fun (s : LS) =>
 u1 as fun i k =>
 u1 k fun e l =>
 u0 l (
 z24 3 40 [(.b false), (.n 0), (.n 0)] s e e fun f s =>
 kLen f s fun m s =>
 lp (fun (_ _ _ _ : D) (_ : LS) => none) (fun (o : D → D → D → D → LS → Rs) (g d h c : D) (s : LS) =>
 kLss c h fun p =>
 z5 p
(isoK (z4E φ) [g, c] s fun u s =>
 z1 3 s d c fun v s =>
 z6 3 s v u fun _ s =>
 kAdd c (ni 1) fun w =>
 o g d h w s)
(retK false s d some)) φ i f m (ni 0) s)) s0
def z3m (φ : Nat) : List D → Option D :=
fun as =>
(fun (s : LS) =>
 u1 as fun c h =>
 u1 h fun i k =>
 u0 k (
 kLen c s fun l s =>
 lp (fun (_ _ _ _ _ : D) (_ : LS) => none) (fun (m : D → D → D → D → D → LS → Rs) (d e f g b : D) (s : LS) =>
 kLss b g fun n =>
 z5 n
(z1 1 s f b fun o s =>
 z4 s o fun p s =>
 isoK (z9S φ) [p, d] s fun u s =>
 kApp 3 40 s e u fun v s =>
 kAdd b (ni 1) fun w =>
 m d v f g w s)
(retK false s e some)) φ i (.tree [] 0 true) c l (ni 0) s)) s0
def z5k (φ : Nat) : List D → Option D :=
fun as =>
(fun (s : LS) =>
 u1 as fun l z =>
 u1 z fun A B =>
 u1 B fun m C =>
 u1 C fun E F =>
 u0 F (
 kLen m s fun G s =>
 kSub G (ni 1) fun e =>
 z24 1 24 [(.tree [] 0 true)] s e e fun n s =>
 kSub e (ni 1) fun H =>
 z1 1 s l H fun I s =>
 z4 s I fun J s =>
 kLen n s fun K s =>
 lp (fun (_ _ _ _ _ _ _ _ : D) (_ : LS) => none) (fun (M : D → D → D → D → D → D → D → D → LS → Rs) (d f o g c p h b : D) (s : LS) =>
 kLss b h fun N =>
 z5 N
(z1 1 s d b fun O s =>
 z4 s O fun P s =>
 kBsl 2 [(ni 0)] [(0, 1, (ni 0)), (1, 1, g)] s fun S s =>
 isoK (z2b φ) [S] s fun U s =>
 isoK (z7X φ) [f, P, U] s fun V s =>
 z1 1 s c b fun W s =>
 z6 1 s W V fun _ s =>
 jn (fun (X u v Y i w k Z bb : D) (s : LS) =>
 z1 1 s i k fun bc s =>
 z4 s bc fun bd s =>
 z1 1 s v k fun bf s =>
 z4 s bf fun bg s =>
 isoK (z7X φ) [u, w, bg] s fun bh s =>
 isoK (z3N φ) [bd, bh] s fun bi s =>
 z1 1 s i k fun bk s =>
 z6 1 s bk bi fun _ s =>
 kAdd bb (ni 1) fun bl =>
 M X u v Y i w Z bl s) fun y =>
 kGtr b (ni 0) fun bm =>
 z5 bm
(z1 1 s c b fun bn s =>
 z4 s bn fun bo s =>
 kSub b (ni 1) fun bp =>
 z1 1 s d bp fun bu s =>
 z4 s bu fun bv s =>
 isoK (z3O φ) [bo, bv] s fun bw s =>
 z1 1 s c b fun bz s =>
 z6 1 s bz bw fun _ s =>
 y d f o g c p b h b s)
(y d f o g c p b h b s))
(retK false s c some)) φ l A m E n J K (ni 0) s)) s0
def zJ (φ : Nat) : List D → Option D :=
fun as =>
(fun (s : LS) =>
 u1 as fun c d =>
 u0 d (
 zg6 false s c fun e s =>
 z5 e
(retK true s (.tree [] 0 true) some)
(kBsl 0 [(.b false), (.n 0), (.n 0)] [] s fun f s =>
 kApp 3 40 s f c fun g s =>
 retK true s g some))) s0
def z6C (φ : Nat) : List D → LS → (D → LS → Rs) → Rs :=
fun as s k =>
 u1 as fun g l =>
 u1 l fun m n =>
 u1 n fun o p =>
 u0 p (
 kBox o s fun h s =>
 z3 3 s h fun u s =>
 isoK (z2M φ) [u] s fun v s =>
 z5 v
(k (.tup []) s)
(kLen g s fun w s =>
 lp (fun (_ _ _ _ _ : D) (_ : LS) => none) (fun (y : D → D → D → D → D → LS → Rs) (c d e f b : D) (s : LS) =>
 kLss b f fun z =>
 z5 z
(jn (fun (A B C E F : D) (s : LS) =>
 kAdd F (ni 1) fun G =>
 y A B C E G s) fun i =>
 z1 3 s d b fun H s =>
 z3 3 s H fun I s =>
 isoK (z2M φ) [I] s fun J s =>
 kNot J s fun K s =>
 z5 K
(z1 3 s c b fun M s =>
 z3 3 s M fun N s =>
 z3 3 s e fun O s =>
 z1 3 s d b fun P s =>
 z3 3 s P fun S s =>
 isoK (z1G φ) [O, S] s fun U s =>
 isoK (z7U φ) [N, U] s fun V s =>
 z1 3 s c b fun W s =>
 z6 3 s W V fun _ s =>
 i c d e f b s)
(i c d e f b s))
(k (.tup []) s)) φ g m h w (ni 0) s))
end
end Go.Proofs.YthljpappkomocaaGreat
