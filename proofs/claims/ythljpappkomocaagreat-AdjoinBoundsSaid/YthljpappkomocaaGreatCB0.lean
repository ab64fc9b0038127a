/- Residuals of functions, printed by a program. -/
import Derived.Test.YthljpappkomocaaGreatCA0
set_option linter.all false
set_option maxRecDepth 1000000
set_option maxHeartbeats 0
namespace Go.Proofs.YthljpappkomocaaGreat
open Ev
noncomputable section
def zcf (φ : Nat) : List D → Option D :=
fun as =>
(fun (s : LS) =>
 u1 as fun b c =>
 u0 c (
 kBox b s fun d s =>
 z3 3 s d fun e s =>
 isoK (z2M φ) [e] s fun f s =>
 kNot f s fun g s =>
 retK false s g some)) s0
def zny (φ : Nat) : FTab := setT (z3U φ) 203 (.iso (zcf φ))
def z2j (φ : Nat) : List D → LS → (D → LS → Rs) → Rs :=
fun as s k =>
 u1 as fun c g =>
 u1 g fun h l =>
 u0 l (
 kLen c s fun m s =>
 lp (fun (_ _ _ _ : D) (_ : LS) => none) (fun (n : D → D → D → D → LS → Rs) (d e f b : D) (s : LS) =>
 kLss b f fun o =>
 z5 o
(z1 3 s d b fun p s =>
 z3 3 s p fun u s =>
 dynK (zny φ) false e [u] s fun v s =>
 z5 v
(k b s)
(kAdd b (ni 1) fun w =>
 n d e f w s))
(k (.i .i64 (.negSucc 0)) s)) φ c h m (ni 0) s)
def z5o (φ : Nat) : List D → Option D :=
fun as =>
(fun (s : LS) =>
 u1 as fun b c =>
 u0 c (
(z2j φ) [b, (.fn 203 [])] s fun d s =>
 retK false s d some)) s0
def za1 (φ : Nat) : List D → Option D :=
fun as =>
(fun (s : LS) =>
 u1 as fun b c =>
 u1 c fun d e =>
 u0 e (
 isoK (z5o φ) [b] s fun f s =>
 isoK (z5o φ) [d] s fun g s =>
 kSub f g fun h =>
 retK false s h some)) s0
def z56 (φ : Nat) : FTab := setT (zny φ) 206 (.iso (za1 φ))
def z1O (φ : Nat) : List D → LS → (D → LS → Rs) → Rs :=
fun as s k =>
 u1 as fun p u =>
 u1 u fun l v =>
 u1 v fun w y =>
 u1 y fun z A =>
 u0 A (
 kAdd l (ni 1) fun B =>
 lp (fun (_ _ _ _ _ : D) (_ : LS) => none) (fun (C : D → D → D → D → D → LS → Rs) (E F m G g : D) (s : LS) =>
 kLss g m fun H =>
 z5 H
(lp (fun (_ _ _ _ _ _ : D) (_ : LS) => none) (fun (I : D → D → D → D → D → D → LS → Rs) (e h n i o f : D) (s : LS) =>
 kGtr f h fun c =>
 z0 c true (fun k => k i s) s fun J s =>
 z0 c true (fun k => k e s) s fun K s =>
 z0 c true (fun k => k f s) s fun M s =>
 z0 c true (fun k => z1 1 s K M k) s fun N s =>
 z0 c true (fun k => z4 s N k) s fun O s =>
 z0 c true (fun k => k e s) s fun P s =>
 z0 c true (fun k => k f s) s fun S s =>
 z0 c true (fun k => kSub S (ni 1) fun d => k d s) s fun U s =>
 z0 c true (fun k => z1 1 s P U k) s fun V s =>
 z0 c true (fun k => z4 s V k) s fun W s =>
 z0 c true (fun k => dynK (z56 φ) false J [O, W] s k) s fun X s =>
 z0 c true (fun k => kLss X (ni 0) fun d => k d s) s fun Y s =>
 zp c Y (.b false) s fun Z s =>
 z5 Z
(kSub f (ni 1) fun bb =>
 kSub f (ni 1) fun bc =>
 z1 1 s e bc fun bd s =>
 z4 s bd fun bf s =>
 z1 1 s e f fun bg s =>
 z4 s bg fun bh s =>
 z1 1 s e f fun bi s =>
 z6 1 s bi bf fun _ s =>
 z1 1 s e bb fun bk s =>
 z6 1 s bk bh fun _ s =>
 kSub f (ni 1) fun bl =>
 I e h n i o bl s)
(kAdd o (ni 1) fun bm =>
 C e h n i bm s)) φ E F m G g g s)
(k (.tup []) s)) φ p l w z B s)
def z1x (φ : Nat) : List D → LS → (D → LS → Rs) → Rs :=
fun as s k =>
 u1 as fun w y =>
 u1 y fun z A =>
 u1 A fun B C =>
 u1 C fun E F =>
 u1 F fun G H =>
 u0 H (
 lp (fun (_ _ _ _ _ : D) (_ : LS) => none) (fun (I : D → D → D → D → D → LS → Rs) (h i l n o : D) (s : LS) =>
 kMul (ni 2) o fun J =>
 kAdd J (ni 1) fun g =>
 kGeq g i fun K =>
 z5 K
(k (.tup []) s)
(jn (fun (e M f u p m : D) (s : LS) =>
 kAdd f p fun N =>
 z1 1 s e N fun O s =>
 z4 s O fun P s =>
 kAdd f m fun S =>
 z1 1 s e S fun U s =>
 z4 s U fun V s =>
 dynK (z56 φ) false u [P, V] s fun W s =>
 kLss W (ni 0) fun X =>
 kNot X s fun Y s =>
 z5 Y
(k (.tup []) s)
(kAdd f p fun Z =>
 kAdd f m fun bb =>
 kAdd f m fun bc =>
 z1 1 s e bc fun bd s =>
 z4 s bd fun bf s =>
 kAdd f p fun bg =>
 z1 1 s e bg fun bh s =>
 z4 s bh fun bi s =>
 z1 1 s e Z fun bk s =>
 z6 1 s bk bf fun _ s =>
 z1 1 s e bb fun bl s =>
 z6 1 s bl bi fun _ s =>
 I e M f u m s)) fun v =>
 kAdd g (ni 1) fun bm =>
 kLss bm i fun c =>
 z0 c true (fun k => k n s) s fun bn s =>
 z0 c true (fun k => k h s) s fun bo s =>
 z0 c true (fun k => k l s) s fun bp s =>
 z0 c true (fun k => k g s) s fun bu s =>
 z0 c true (fun k => kAdd bp bu fun d => k d s) s fun bv s =>
 z0 c true (fun k => z1 1 s bo bv k) s fun bw s =>
 z0 c true (fun k => z4 s bw k) s fun bz s =>
 z0 c true (fun k => k h s) s fun bA s =>
 z0 c true (fun k => k l s) s fun bB s =>
 z0 c true (fun k => k g s) s fun bC s =>
 z0 c true (fun k => kAdd bB bC fun d => k d s) s fun bE s =>
 z0 c true (fun k => kAdd bE (ni 1) fun d => k d s) s fun bF s =>
 z0 c true (fun k => z1 1 s bA bF k) s fun bG s =>
 z0 c true (fun k => z4 s bG k) s fun bH s =>
 z0 c true (fun k => dynK (z56 φ) false bn [bz, bH] s k) s fun bI s =>
 z0 c true (fun k => kLss bI (ni 0) fun d => k d s) s fun bJ s =>
 zp c bJ (.b false) s fun bK s =>
 z5 bK
(kAdd g (ni 1) fun bM =>
 v h i l n o bM s)
(v h i l n o g s))) φ w B E G z s)
def z2w (φ : Nat) : List D → LS → (D → LS → Rs) → Rs :=
fun as s k =>
 u1 as fun u v =>
 u1 v fun l w =>
 u1 w fun y z =>
 u1 z fun A B =>
 u0 B (
 kSub y l fun m =>
 kSub m (ni 1) fun C =>
 kQuo C (ni 2) fun E =>
 lp (fun (_ _ _ _ _ _ : D) (_ : LS) => none) (fun (F : D → D → D → D → D → D → LS → Rs) (e f g n h i : D) (s : LS) =>
 kGeq i (ni 0) fun G =>
 z5 G
((z1x φ) [e, i, h, g, f] s fun Y s =>
 kSub i (ni 1) fun H =>
 F e f g n h H s)
(kSub h (ni 1) fun I =>
 lp (fun (_ _ _ _ _ : D) (_ : LS) => none) (fun (J : D → D → D → D → D → LS → Rs) (b o c p d : D) (s : LS) =>
 kGeq d (ni 0) fun K =>
 z5 K
(kAdd c d fun M =>
 kAdd c d fun N =>
 z1 1 s b N fun O s =>
 z4 s O fun P s =>
 z1 1 s b c fun S s =>
 z4 s S fun U s =>
 z1 1 s b c fun V s =>
 z6 1 s V P fun _ s =>
 z1 1 s b M fun W s =>
 z6 1 s W U fun _ s =>
(z1x φ) [b, p, d, c, o] s fun Z s =>
 kSub d (ni 1) fun X =>
 J b o c p X s)
(k (.tup []) s)) φ e f g n I s)) φ u A l (ni 0) m E s)
def z1P (φ : Nat) : List D → LS → (D → LS → Rs) → Rs :=
fun as s k =>
 u1 as fun y z =>
 u1 z fun e A =>
 u1 A fun B C =>
 u1 C fun bu E =>
 u0 E (
 kSub B e fun b =>
 kGeq b (ni 8) fun F =>
 z5 F
(z2s .u64 b s fun G s =>
 z9 [(.i .u64 (.ofNat 0))] s fun p s =>
 z6 1 s p G fun _ s =>
(z2o φ) [b] s fun H s =>
 kQuo b (ni 4) fun I =>
 kMul I (ni 2) fun J =>
 kAdd e J fun K =>
 kSub K (ni 1) fun M =>
 lp (fun (_ _ _ _ _ _ : D) (_ : LS) => none) (fun (N : D → D → D → D → D → D → LS → Rs) (u f c g h l : D) (s : LS) =>
 kQuo c (ni 4) fun O =>
 kMul O (ni 2) fun P =>
 kAdd f P fun S =>
 kAdd S (ni 1) fun U =>
 kLeq l U fun V =>
 z5 V
(isoK (z2z φ) [g] s fun W s =>
 kSub h (.i .u64 (.ofNat 1)) fun X =>
 kAnd W X fun Y =>
 z2s .i64 Y s fun m s =>
 jn (fun (d n Z bb bc o v : D) (s : LS) =>
 kAdd n v fun bd =>
 kAdd n v fun bf =>
 z1 1 s d bf fun bg s =>
 z4 s bg fun bh s =>
 z1 1 s d o fun bi s =>
 z4 s bi fun bk s =>
 z1 1 s d o fun bl s =>
 z6 1 s bl bh fun _ s =>
 z1 1 s d bd fun bm s =>
 z6 1 s bm bk fun _ s =>
 kAdd o (ni 1) fun bn =>
 N d n Z bb bc bn s) fun w =>
 kGeq m c fun bo =>
 z5 bo
(kSub m c fun bp =>
 w u f c g h l bp s)
(w u f c g h l m s))
(k (.tup []) s)) φ y e b p H M s)
(k (.tup []) s))
def z1a (φ : Nat) : List D → LS → (D → LS → Rs) → Rs :=
fun as s k =>
 u1 as fun d f =>
 u1 f fun b g =>
 u1 g fun c h =>
 u1 h fun e i =>
 u1 i fun l m =>
 u0 m (
 z1 1 s d c fun n s =>
 z4 s n fun o s =>
 z1 1 s d b fun p s =>
 z4 s p fun u s =>
 dynK (z56 φ) false l [o, u] s fun v s =>
 kLss v (ni 0) fun w =>
 z5 w
(z4o s e fun y s =>
 z4 s y fun z s =>
 kAdd z (ni 1) fun A =>
 z4o s e fun B s =>
 z6 1 s B A fun _ s =>
 k (.tup [c, b]) s)
(k (.tup [b, c]) s))
def z1S (φ : Nat) : List D → LS → (D → LS → Rs) → Rs :=
fun as s k =>
 u1 as fun b h =>
 u1 h fun i l =>
 u1 l fun m n =>
 u1 n fun o p =>
 u1 p fun c u =>
 u1 u fun d v =>
 u0 v (
(z1a φ) [b, i, m, c, d] s fun e s =>
 kExt e 0 s fun w s =>
 kExt e 1 s fun y s =>
(z1a φ) [b, y, o, c, d] s fun f s =>
 kExt f 0 s fun z s =>
 kExt f 1 s fun B s =>
(z1a φ) [b, w, z, c, d] s fun g s =>
 kExt g 0 s fun C s =>
 kExt g 1 s fun A s =>
 k A s)
def zF (φ : Nat) : List D → LS → (D → LS → Rs) → Rs :=
fun as s k =>
 u1 as fun c d =>
 u1 d fun b e =>
 u1 e fun f g =>
 u1 g fun h i =>
 u0 i (
 kSub b (ni 1) fun l =>
 kAdd b (ni 1) fun m =>
(z1S φ) [c, l, b, m, f, h] s fun n s =>
 k n s)
def z27 (φ : Nat) : List D → LS → (D → LS → Rs) → Rs :=
fun as s k =>
 u1 as fun c u =>
 u1 u fun f v =>
 u1 v fun w y =>
 u1 y fun d z =>
 u0 z (
 kSub w f fun e =>
 z9 [(ni 0)] s fun b s =>
 kQuo e (ni 4) fun A =>
 kMul A (ni 1) fun B =>
 kAdd f B fun i =>
 kQuo e (ni 4) fun C =>
 kMul C (ni 2) fun E =>
 kAdd f E fun g =>
 kQuo e (ni 4) fun F =>
 kMul F (ni 3) fun G =>
 kAdd f G fun l =>
 jn (fun (H h : D) (s : LS) =>
 z4 s H fun m s =>
 kEql m (ni 0) fun I =>
 z5 I
(k (.tup [h, (ni 1)]) s)
(kEql m (ni 12) fun J =>
 z5 J
(k (.tup [h, (ni 2)]) s)
(k (.tup [h, (ni 0)]) s))) fun n =>
 kGeq e (ni 8) fun K =>
 z5 K
(jn (fun (M N o O P S : D) (s : LS) =>
(z1S φ) [M, O, P, S, o, N] s fun U s =>
 n o U s) fun p =>
 kGeq e (ni 50) fun V =>
 z5 V
((zF φ) [c, i, b, d] s fun W s =>
(zF φ) [c, g, b, d] s fun X s =>
(zF φ) [c, l, b, d] s fun Y s =>
 p c d b W X Y s)
(p c d b i g l s))
(n b g s))
def z1W (φ : Nat) : List D → LS → (D → LS → Rs) → Rs :=
fun as s k =>
 u1 as fun e f =>
 u1 f fun g h =>
 u1 h fun i l =>
 u1 l fun E m =>
 u0 m (
 kSub i (ni 1) fun n =>
 lp (fun (_ _ _ : D) (_ : LS) => none) (fun (o : D → D → D → LS → Rs) (b c d : D) (s : LS) =>
 kLss c d fun p =>
 z5 p
(z1 1 s b d fun u s =>
 z4 s u fun v s =>
 z1 1 s b c fun w s =>
 z4 s w fun y s =>
 z1 1 s b c fun z s =>
 z6 1 s z v fun _ s =>
 z1 1 s b d fun A s =>
 z6 1 s A y fun _ s =>
 kAdd c (ni 1) fun B =>
 kSub d (ni 1) fun C =>
 o b B C s)
(k (.tup []) s)) φ e g n s)
def z19 (φ : Nat) : List D → LS → (D → LS → Rs) → Rs :=
fun as s k =>
 u1 as fun U V =>
 u1 V fun K W =>
 u1 W fun X Y =>
 u1 Y fun Z bb =>
 u0 bb (
 kAdd K (ni 1) fun bc =>
 lp (fun (_ _ _ _ _ _ : D) (_ : LS) => none) (fun (bd : D → D → D → D → D → D → LS → Rs) (bf bg bh bi bk M : D) (s : LS) =>
 kLss M (ni 5) fun bl =>
 z5 bl
(jn (fun (bm bn bo bp bu bv : D) (s : LS) =>
 kAdd bv (ni 1) fun bw =>
 bd bm bn bo bp bu bw s) fun y =>
 lp (fun (_ _ _ _ _ _ : D) (_ : LS) => none) (fun (bz : D → D → D → D → D → D → LS → Rs) (f n m o e z : D) (s : LS) =>
 kLss e m fun c =>
 z0 c true (fun k => k o s) s fun bA s =>
 z0 c true (fun k => k f s) s fun bB s =>
 z0 c true (fun k => k e s) s fun bC s =>
 z0 c true (fun k => z1 1 s bB bC k) s fun bE s =>
 z0 c true (fun k => z4 s bE k) s fun bF s =>
 z0 c true (fun k => k f s) s fun bG s =>
 z0 c true (fun k => k e s) s fun bH s =>
 z0 c true (fun k => kSub bH (ni 1) fun d => k d s) s fun bI s =>
 z0 c true (fun k => z1 1 s bG bI k) s fun bJ s =>
 z0 c true (fun k => z4 s bJ k) s fun bK s =>
 z0 c true (fun k => dynK (z56 φ) false bA [bF, bK] s k) s fun bM s =>
 z0 c true (fun k => kLss bM (ni 0) fun d => k d s) s fun bN s =>
 z0 c true (fun k => kNot bN s k) s fun bO s =>
 zp c bO (.b false) s fun bP s =>
 z5 bP
(kAdd e (ni 1) fun bS =>
 bz f n m o bS z s)
(kEql e m fun bU =>
 z5 bU
(k (.b true) s)
(kSub m n fun bV =>
 kLss bV (ni 50) fun bW =>
 z5 bW
(k (.b false) s)
(kSub e (ni 1) fun bX =>
 kSub e (ni 1) fun bY =>
 z1 1 s f bY fun bZ s =>
 z4 s bZ fun cb s =>
 z1 1 s f e fun cc s =>
 z4 s cc fun cd s =>
 z1 1 s f e fun ce s =>
 z6 1 s ce cb fun _ s =>
 z1 1 s f bX fun cf s =>
 z6 1 s cf cd fun _ s =>
 jn (fun (N O A P p S : D) (s : LS) =>
 kSub A p fun cg =>
 kGeq cg (ni 2) fun ch =>
 z5 ch
(kAdd p (ni 1) fun ci =>
 lp (fun (_ _ _ _ _ _ _ : D) (_ : LS) => none) (fun (ck : D → D → D → D → D → D → D → LS → Rs) (g B u v C E i : D) (s : LS) =>
 kLss i u fun cl =>
 z5 cl
(z1 1 s g i fun cm s =>
 z4 s cm fun cn s =>
 kSub i (ni 1) fun co =>
 z1 1 s g co fun cp s =>
 z4 s cp fun cu s =>
 dynK (z56 φ) false v [cn, cu] s fun cv s =>
 kLss cv (ni 0) fun cw =>
 kNot cw s fun cy s =>
 z5 cy
(y g B u v C E s)
(kSub i (ni 1) fun cz =>
 kSub i (ni 1) fun cA =>
 z1 1 s g cA fun cB s =>
 z4 s cB fun cC s =>
 z1 1 s g i fun cE s =>
 z4 s cE fun cF s =>
 z1 1 s g i fun cG s =>
 z6 1 s cG cC fun _ s =>
 z1 1 s g cz fun cH s =>
 z6 1 s cH cF fun _ s =>
 kAdd i (ni 1) fun cI =>
 ck g B u v C E cI s))
(y g B u v C E s)) φ N O A P p S ci s)
(y N O A P p S s)) fun F =>
 kSub e n fun cJ =>
 kGeq cJ (ni 2) fun cK =>
 z5 cK
(kSub e (ni 1) fun cM =>
 lp (fun (_ _ _ _ _ _ _ : D) (_ : LS) => none) (fun (cN : D → D → D → D → D → D → D → LS → Rs) (h G H w I J l : D) (s : LS) =>
 kGeq l (ni 1) fun cO =>
 z5 cO
(z1 1 s h l fun cP s =>
 z4 s cP fun cS s =>
 kSub l (ni 1) fun cU =>
 z1 1 s h cU fun cV s =>
 z4 s cV fun cW s =>
 dynK (z56 φ) false w [cS, cW] s fun cX s =>
 kLss cX (ni 0) fun cY =>
 kNot cY s fun cZ s =>
 z5 cZ
(F h G H w I J s)
(kSub l (ni 1) fun db =>
 kSub l (ni 1) fun dc =>
 z1 1 s h dc fun dd s =>
 z4 s dd fun de s =>
 z1 1 s h l fun df s =>
 z4 s df fun dg s =>
 z1 1 s h l fun dh s =>
 z6 1 s dh de fun _ s =>
 z1 1 s h db fun di s =>
 z6 1 s di dg fun _ s =>
 kSub l (ni 1) fun dk =>
 cN h G H w I J dk s))
(F h G H w I J s)) φ f n m o e z cM s)
(F f n m o e z s))))) φ bf bg bh bi bk M s)
(k (.b false) s)) φ U K X Z bc (ni 0) s)
def z1H (φ : Nat) : List D → LS → (D → LS → Rs) → Rs :=
fun as s k =>
 u1 as fun i z =>
 u1 z fun l A =>
 u1 A fun B C =>
 u1 C fun y E =>
 u1 E fun F G =>
 u0 G (
 z1 1 s i y fun H s =>
 z4 s H fun I s =>
 z1 1 s i l fun J s =>
 z4 s J fun K s =>
 z1 1 s i l fun M s =>
 z6 1 s M I fun _ s =>
 z1 1 s i y fun N s =>
 z6 1 s N K fun _ s =>
 kAdd l (ni 1) fun O =>
 kSub B (ni 1) fun P =>
 lp (fun (_ _ _ _ _ : D) (_ : LS) => none) (fun (S : D → D → D → D → D → LS → Rs) (U V W X Y : D) (s : LS) =>
 lp (fun (_ _ _ _ _ : D) (_ : LS) => none) (fun (Z : D → D → D → D → D → LS → Rs) (m o p n u : D) (s : LS) =>
 kLeq n u fun c =>
 z0 c true (fun k => k p s) s fun bb s =>
 z0 c true (fun k => k m s) s fun bc s =>
 z0 c true (fun k => k o s) s fun bd s =>
 z0 c true (fun k => z1 1 s bc bd k) s fun bf s =>
 z0 c true (fun k => z4 s bf k) s fun bg s =>
 z0 c true (fun k => k m s) s fun bh s =>
 z0 c true (fun k => k n s) s fun bi s =>
 z0 c true (fun k => z1 1 s bh bi k) s fun bk s =>
 z0 c true (fun k => z4 s bk k) s fun bl s =>
 z0 c true (fun k => dynK (z56 φ) false bb [bg, bl] s k) s fun bm s =>
 z0 c true (fun k => kLss bm (ni 0) fun d => k d s) s fun bn s =>
 z0 c true (fun k => kNot bn s k) s fun bo s =>
 zp c bo (.b false) s fun bp s =>
 z5 bp
(kAdd n (ni 1) fun bu =>
 Z m o p bu u s)
(lp (fun (_ _ _ _ _ : D) (_ : LS) => none) (fun (bv : D → D → D → D → D → LS → Rs) (f v w g h : D) (s : LS) =>
 kLeq g h fun e =>
 z0 e true (fun k => k w s) s fun bw s =>
 z0 e true (fun k => k f s) s fun bz s =>
 z0 e true (fun k => k v s) s fun bA s =>
 z0 e true (fun k => z1 1 s bz bA k) s fun bB s =>
 z0 e true (fun k => z4 s bB k) s fun bC s =>
 z0 e true (fun k => k f s) s fun bE s =>
 z0 e true (fun k => k h s) s fun bF s =>
 z0 e true (fun k => z1 1 s bE bF k) s fun bG s =>
 z0 e true (fun k => z4 s bG k) s fun bH s =>
 z0 e true (fun k => dynK (z56 φ) false bw [bC, bH] s k) s fun bI s =>
 z0 e true (fun k => kLss bI (ni 0) fun d => k d s) s fun bJ s =>
 zp e bJ (.b false) s fun bK s =>
 z5 bK
(kSub h (ni 1) fun bM =>
 bv f v w g bM s)
(kGtr g h fun bN =>
 z5 bN
(k g s)
(z1 1 s f h fun bO s =>
 z4 s bO fun bP s =>
 z1 1 s f g fun bS s =>
 z4 s bS fun bU s =>
 z1 1 s f g fun bV s =>
 z6 1 s bV bP fun _ s =>
 z1 1 s f h fun bW s =>
 z6 1 s bW bU fun _ s =>
 kAdd g (ni 1) fun bX =>
 kSub h (ni 1) fun bY =>
 S f v w bX bY s))) φ m o p n u s)) φ U V W X Y s) φ i l F O P s)
def z2n (φ : Nat) : List D → LS → (D → LS → Rs) → Rs :=
fun as s k =>
 u1 as fun p N =>
 u1 N fun w O =>
 u1 O fun P S =>
 u1 S fun M U =>
 u1 U fun V W =>
 u0 W (
 z1 1 s p M fun X s =>
 z4 s X fun Y s =>
 z1 1 s p w fun Z s =>
 z4 s Z fun bb s =>
 z1 1 s p w fun bc s =>
 z6 1 s bc Y fun _ s =>
 z1 1 s p M fun bd s =>
 z6 1 s bd bb fun _ s =>
 kAdd w (ni 1) fun bf =>
 kSub P (ni 1) fun bg =>
 lp (fun (_ _ _ _ _ : D) (_ : LS) => none) (fun (bh : D → D → D → D → D → LS → Rs) (y C E z F : D) (s : LS) =>
 kLeq z F fun f =>
 z0 f true (fun k => k E s) s fun bi s =>
 z0 f true (fun k => k y s) s fun bk s =>
 z0 f true (fun k => k z s) s fun bl s =>
 z0 f true (fun k => z1 1 s bk bl k) s fun bm s =>
 z0 f true (fun k => z4 s bm k) s fun bn s =>
 z0 f true (fun k => k y s) s fun bo s =>
 z0 f true (fun k => k C s) s fun bp s =>
 z0 f true (fun k => z1 1 s bo bp k) s fun bu s =>
 z0 f true (fun k => z4 s bu k) s fun bv s =>
 z0 f true (fun k => dynK (z56 φ) false bi [bn, bv] s k) s fun bw s =>
 z0 f true (fun k => kLss bw (ni 0) fun d => k d s) s fun bz s =>
 zp f bz (.b false) s fun bA s =>
 z5 bA
(kAdd z (ni 1) fun bB =>
 bh y C E bB F s)
(lp (fun (_ _ _ _ _ : D) (_ : LS) => none) (fun (bC : D → D → D → D → D → LS → Rs) (g u G n l : D) (s : LS) =>
 kLeq n l fun c =>
 z0 c true (fun k => k G s) s fun bE s =>
 z0 c true (fun k => k g s) s fun bF s =>
 z0 c true (fun k => k l s) s fun bG s =>
 z0 c true (fun k => z1 1 s bF bG k) s fun bH s =>
 z0 c true (fun k => z4 s bH k) s fun bI s =>
 z0 c true (fun k => k g s) s fun bJ s =>
 z0 c true (fun k => k u s) s fun bK s =>
 z0 c true (fun k => z1 1 s bJ bK k) s fun bM s =>
 z0 c true (fun k => z4 s bM k) s fun bN s =>
 z0 c true (fun k => dynK (z56 φ) false bE [bI, bN] s k) s fun bO s =>
 z0 c true (fun k => kLss bO (ni 0) fun d => k d s) s fun bP s =>
 z0 c true (fun k => kNot bP s k) s fun bS s =>
 zp c bS (.b false) s fun bU s =>
 z5 bU
(kSub l (ni 1) fun bV =>
 bC g u G n bV s)
(kGtr n l fun bW =>
 z5 bW
(z1 1 s g u fun bX s =>
 z4 s bX fun bY s =>
 z1 1 s g l fun bZ s =>
 z4 s bZ fun cb s =>
 z1 1 s g l fun cc s =>
 z6 1 s cc bY fun _ s =>
 z1 1 s g u fun cd s =>
 z6 1 s cd cb fun _ s =>
 k (.tup [l, (.b true)]) s)
(z1 1 s g l fun ce s =>
 z4 s ce fun cf s =>
 z1 1 s g n fun cg s =>
 z4 s cg fun ch s =>
 z1 1 s g n fun ci s =>
 z6 1 s ci cf fun _ s =>
 z1 1 s g l fun ck s =>
 z6 1 s ck ch fun _ s =>
 kAdd n (ni 1) fun cl =>
 kSub l (ni 1) fun cm =>
 lp (fun (_ _ _ _ _ : D) (_ : LS) => none) (fun (cn : D → D → D → D → D → LS → Rs) (co cp cu cv cw : D) (s : LS) =>
 lp (fun (_ _ _ _ _ : D) (_ : LS) => none) (fun (cy : D → D → D → D → D → LS → Rs) (A H I B J : D) (s : LS) =>
 kLeq B J fun h =>
 z0 h true (fun k => k I s) s fun cz s =>
 z0 h true (fun k => k A s) s fun cA s =>
 z0 h true (fun k => k B s) s fun cB s =>
 z0 h true (fun k => z1 1 s cA cB k) s fun cC s =>
 z0 h true (fun k => z4 s cC k) s fun cE s =>
 z0 h true (fun k => k A s) s fun cF s =>
 z0 h true (fun k => k H s) s fun cG s =>
 z0 h true (fun k => z1 1 s cF cG k) s fun cH s =>
 z0 h true (fun k => z4 s cH k) s fun cI s =>
 z0 h true (fun k => dynK (z56 φ) false cz [cE, cI] s k) s fun cJ s =>
 z0 h true (fun k => kLss cJ (ni 0) fun d => k d s) s fun cK s =>
 zp h cK (.b false) s fun cM s =>
 z5 cM
(kAdd B (ni 1) fun cN =>
 cy A H I cN J s)
(lp (fun (_ _ _ _ _ : D) (_ : LS) => none) (fun (cO : D → D → D → D → D → LS → Rs) (i v K o m : D) (s : LS) =>
 kLeq o m fun e =>
 z0 e true (fun k => k K s) s fun cP s =>
 z0 e true (fun k => k i s) s fun cS s =>
 z0 e true (fun k => k m s) s fun cU s =>
 z0 e true (fun k => z1 1 s cS cU k) s fun cV s =>
 z0 e true (fun k => z4 s cV k) s fun cW s =>
 z0 e true (fun k => k i s) s fun cX s =>
 z0 e true (fun k => k v s) s fun cY s =>
 z0 e true (fun k => z1 1 s cX cY k) s fun cZ s =>
 z0 e true (fun k => z4 s cZ k) s fun db s =>
 z0 e true (fun k => dynK (z56 φ) false cP [cW, db] s k) s fun dc s =>
 z0 e true (fun k => kLss dc (ni 0) fun d => k d s) s fun dd s =>
 z0 e true (fun k => kNot dd s k) s fun de s =>
 zp e de (.b false) s fun df s =>
 z5 df
(kSub m (ni 1) fun dg =>
 cO i v K o dg s)
(kGtr o m fun dh =>
 z5 dh
(z1 1 s i v fun di s =>
 z4 s di fun dk s =>
 z1 1 s i m fun dl s =>
 z4 s dl fun dm s =>
 z1 1 s i m fun dn s =>
 z6 1 s dn dk fun _ s =>
 z1 1 s i v fun dp s =>
 z6 1 s dp dm fun _ s =>
 k (.tup [m, (.b false)]) s)
(z1 1 s i m fun du s =>
 z4 s du fun dv s =>
 z1 1 s i o fun dw s =>
 z4 s dw fun dy s =>
 z1 1 s i o fun dz s =>
 z6 1 s dz dv fun _ s =>
 z1 1 s i m fun dA s =>
 z6 1 s dA dy fun _ s =>
 kAdd o (ni 1) fun dB =>
 kSub m (ni 1) fun dC =>
 cn i v K dB dC s))) φ A H I B J s)) φ co cp cu cv cw s) φ g u G cl cm s))) φ y C E z F s)) φ p w V bf bg s)
def z4k (φ : Nat) (ih : List D → LS → (D → LS → Rs) → Rs) : List D → LS → (D → LS → Rs) → Rs :=
fun as s k =>
 u1 as fun bm bn =>
 u1 bn fun bo bp =>
 u1 bp fun bu bv =>
 u1 bv fun bw bz =>
 u1 bz fun bA bB =>
 u0 bB (
 lp (fun (_ _ _ _ _ _ _ : D) (_ : LS) => none) (fun (A : D → D → D → D → D → D → D → LS → Rs) (n h i B o C N : D) (s : LS) =>
 kSub i h fun E =>
 kLeq E (ni 12) fun bC =>
 z5 bC
((z1O φ) [n, h, i, o] s fun cz s =>
 k (.tup []) s)
(kEql B (ni 0) fun bE =>
 z5 bE
((z2w φ) [n, h, i, o] s fun cA s =>
 k (.tup []) s)
(jn (fun (w p u O y P S U : D) (s : LS) =>
(z27 φ) [w, p, u, y] s fun V s =>
 kExt V 0 s fun W s =>
 kExt V 1 s fun X s =>
 jn (fun (F G H Y I z J Z bb bF : D) (s : LS) =>
 jn (fun (e g l v f bG bH bI K : D) (s : LS) =>
 kGtr g (ni 0) fun c =>
 z0 c true (fun k => k f s) s fun bJ s =>
 z0 c true (fun k => k e s) s fun bK s =>
 z0 c true (fun k => k g s) s fun bM s =>
 z0 c true (fun k => kSub bM (ni 1) fun d => k d s) s fun bN s =>
 z0 c true (fun k => z1 1 s bK bN k) s fun bO s =>
 z0 c true (fun k => z4 s bO k) s fun bP s =>
 z0 c true (fun k => k e s) s fun bS s =>
 z0 c true (fun k => k K s) s fun bU s =>
 z0 c true (fun k => z1 1 s bS bU k) s fun bV s =>
 z0 c true (fun k => z4 s bV k) s fun bW s =>
 z0 c true (fun k => dynK (z56 φ) false bJ [bP, bW] s k) s fun bX s =>
 z0 c true (fun k => kLss bX (ni 0) fun d => k d s) s fun bY s =>
 z0 c true (fun k => kNot bY s k) s fun bZ s =>
 zp c bZ (.b false) s fun cb s =>
 z5 cb
((z1H φ) [e, g, l, K, f] s fun cc s =>
 A e cc l v f bG bH s)
((z2n φ) [e, g, l, K, f] s fun bc s =>
 kExt bc 0 s fun m s =>
 kExt bc 1 s fun bd s =>
 kSub m g fun bf =>
 kSub l m fun bg =>
 kQuo bI (ni 8) fun bh =>
 kLss bf bg fun cd =>
 z5 cd
(kGeq bf bh fun ce =>
 ih [e, g, m, v, f] s fun cB s =>
 kAdd m (ni 1) fun cf =>
 A e cf l v f ce bd s)
(kGeq bg bh fun cg =>
 kAdd m (ni 1) fun ch =>
 ih [e, ch, l, v, f] s fun cC s =>
 A e g m v f cg bd s))) fun bi =>
 z0 z true (fun k => k J s) s fun ci s =>
 zp z ci (.b false) s fun M s =>
 z0 M true (fun k => k bF s) s fun ck s =>
 z0 M true (fun k => kEql ck (ni 1) fun d => k d s) s fun cl s =>
 zp M cl (.b false) s fun cm s =>
 z5 cm
((z19 φ) [F, G, H, I] s fun cn s =>
 z5 cn
(k (.tup []) s)
(bi F G H Y I z J Z bb s))
(bi F G H Y I z J Z bb s)) fun bk =>
 kEql X (ni 2) fun co =>
 z5 co
((z1W φ) [w, p, u, y] s fun cE s =>
 kSub u (ni 1) fun cp =>
 kSub W p fun cu =>
 kSub cp cu fun cv =>
 bk w p u O y P S U cv (ni 1) s)
(bk w p u O y P S U W X s)) fun bl =>
 kNot C s fun cw s =>
 z5 cw
((z1P φ) [n, h, i, o] s fun cF s =>
 kSub B (ni 1) fun cy =>
 bl n h i cy o C N E s)
(bl n h i B o C N E s)))) φ bm bo bu bw bA (.b true) (.b true) s)
def z2B (φ : Nat) : List D → LS → (D → LS → Rs) → Rs := lp (fun _ _ _ => none) (z4k φ) φ
def z2p (φ : Nat) : List D → LS → (D → LS → Rs) → Rs :=
fun as s k =>
 u1 as fun b d =>
 u1 d fun e f =>
 u0 f (
 kLen b s fun c s =>
 z2s .u64 c s fun g s =>
 isoK (z46 φ) [g] s fun h s =>
(z2B φ) [b, (ni 0), c, h, e] s fun i s =>
 k (.tup []) s)
def z6r (φ : Nat) : List D → Option D :=
fun as =>
(fun (s : LS) =>
 u1 as fun w Y =>
 u0 Y (
 kLen w s fun Z s =>
 lp (fun (_ _ _ _ : D) (_ : LS) => none) (fun (bb : D → D → D → D → LS → Rs) (d y z h : D) (s : LS) =>
 kLss h z fun bc =>
 z5 bc
(jn (fun (bd bf bg bh : D) (s : LS) =>
 kAdd bh (ni 1) fun bi =>
 bb bd bf bg bi s) fun A =>
 z1 1 s y h fun bk s =>
 z4 s bk fun bl s =>
 isoK (z8w (zJ φ)) [bl] s fun bm s =>
 kLen d s fun bn s =>
 lp (fun (_ _ _ _ _ _ _ _ : D) (_ : LS) => none) (fun (bo : D → D → D → D → D → D → D → D → LS → Rs) (i c k l m B C o : D) (s : LS) =>
 kLss o C fun bp =>
 z5 bp
(z1 1 s B o fun bu s =>
 z4 s bu fun E s =>
 isoK (z5o φ) [E] s fun bv s =>
 z1 3 s c bv fun bw s =>
 z3 3 s bw fun bz s =>
(z6C φ) [c, E, bz] s fun cd s =>
 kAdd o (ni 1) fun bA =>
 bo i c k l m B C bA s)
(isoK (z5o φ) [c] s fun p s =>
 kLss p (ni 0) fun bB =>
 z5 bB
(A i k l m s)
(z1 3 s c p fun bC s =>
 z3 3 s bC fun bE s =>
 isoK (z2r φ) [bE] s fun bF s =>
 z9 [(.b false), (.n 0), (.n 0)] s fun F s =>
 z6 3 s F bF fun _ s =>
 kLen c s fun bG s =>
 lp (fun (_ _ _ _ _ _ _ _ _ : D) (_ : LS) => none) (fun (bH : D → D → D → D → D → D → D → D → D → LS → Rs) (e f G H I J K M g : D) (s : LS) =>
 kLss g M fun bI =>
 z5 bI
(z1 3 s f g fun bJ s =>
 z3 3 s bJ fun bK s =>
 z3 3 s H fun bM s =>
 isoK (z1G φ) [bK, bM] s fun bN s =>
 z1 3 s f g fun bO s =>
 z6 3 s bO bN fun _ s =>
 kAdd g (ni 1) fun bP =>
 bH e f G H I J K M bP s)
(kLen e s fun bS s =>
 lp (fun (_ _ _ _ _ _ _ _ _ : D) (_ : LS) => none) (fun (bU : D → D → D → D → D → D → D → D → D → LS → Rs) (N u O P S U V W v : D) (s : LS) =>
 kLss v W fun bV =>
 z5 bV
(z1 1 s V v fun bW s =>
 z4 s bW fun X s =>
 z1 3 s X O fun bX s =>
 z3 3 s bX fun bY s =>
(z6C φ) [X, u, bY] s fun ce s =>
 kAdd v (ni 1) fun bZ =>
 bU N u O P S U V W bZ s)
(kBsl 1 [(.tree [] 0 true)] [(0, 1, u)] s fun cb s =>
 kApp 1 24 s N cb fun cc s =>
 A cc P S U s)) φ e f G I J K e bS (ni 0) s)) φ i c p F k l m bG (ni 0) s))) φ d bm y z h d bn (ni 0) s)
((z2p φ) [d, (.fn 206 [])] s fun cf s =>
 retK true s d some)) φ (.tree [] 0 true) w Z (ni 0) s)) s0
def z2x (φ : Nat) : List D → Option D :=
fun as =>
(fun (s : LS) =>
 u1 as fun b c =>
 u0 c (
 zg6 false s b fun d s =>
 z5 d
(retK true s (.tree [] 0 true) some)
(kBsl 0 [(.tree [] 0 true)] [] s fun e s =>
 kApp 1 24 s e b fun f s =>
 retK true s f some))) s0
def z6s (φ : Nat) : List D → Option D :=
fun as =>
(fun (s : LS) =>
 u1 as fun B bd =>
 u1 bd fun C bf =>
 u0 bf (
 kLen C s fun bg s =>
 kLen B s fun bh s =>
 isoK (z8w (z2x φ)) [B] s fun bi s =>
 kBsl 1 [(.tree [] 0 true)] [(0, 1, C)] s fun bk s =>
 kApp 1 24 s bi bk fun E s =>
 kLen E s fun bl s =>
 lp (fun (_ _ _ _ _ _ : D) (_ : LS) => none) (fun (bm : D → D → D → D → D → D → LS → Rs) (u e v F G h : D) (s : LS) =>
 kLss h G fun bn =>
 z5 bn
(z1 1 s F h fun bo s =>
 z4 s bo fun bp s =>
 kAdd u e fun bu =>
 kAdd bu (ni 1) fun H =>
 z24 3 40 [(.b false), (.n 0), (.n 0)] s H H fun I s =>
 zmD 3 s I bp fun cE s =>
 kAdd e (ni 1) fun bv =>
 lp (fun (_ _ _ _ _ _ _ _ _ _ : D) (_ : LS) => none) (fun (bw : D → D → D → D → D → D → D → D → D → D → LS → Rs) (i J K M l N O P S w : D) (s : LS) =>
 kLss w S fun bz =>
 z5 bz
(kAdd i w fun bA =>
 isoK (zP φ) [(ni 0)] s fun bB s =>
 z1 3 s l bA fun bC s =>
 z6 3 s bC bB fun _ s =>
 kAdd w (ni 1) fun bE =>
 bw i J K M l N O P S bE s)
(kAdd i M fun bF =>
 isoK (zP φ) [(ni 1)] s fun bG s =>
 z1 3 s l bF fun bH s =>
 z6 3 s bH bG fun _ s =>
 kBsl 1 [(.tree [] 0 true)] [(0, 1, l)] s fun bI s =>
 kApp 1 24 s K bI fun bJ s =>
 kAdd P (ni 1) fun bK =>
 bm i J bJ N O bK s)) φ u e v h I F G h bv (ni 0) s)
(z1 1 s v e fun bM s =>
 z4 s bM fun bN s =>
 isoK (z8w (zJ φ)) [bN] s fun bO s =>
 z23 1 s v none (some e) none fun bP s =>
 isoK (z6r φ) [bP] s fun U s =>
 kLen U s fun bS s =>
 lp (fun (_ _ _ _ _ _ : D) (_ : LS) => none) (fun (bU : D → D → D → D → D → D → LS → Rs) (f m c y z o : D) (s : LS) =>
 kLss o z fun bV =>
 z5 bV
(jn (fun (bW bX bY bZ cb cc : D) (s : LS) =>
 kAdd cc (ni 1) fun cd =>
 bU bW bX bY bZ cb cd s) fun V =>
 z1 1 s y o fun ce s =>
 z4 s ce fun W s =>
 isoK (z5o φ) [W] s fun X s =>
 kLss X f fun cf =>
 z5 cf
(z1 3 s c X fun cg s =>
 z3 3 s cg fun ch s =>
(z6C φ) [c, W, ch] s fun cF s =>
 V f m c y z o s)
(V f m c y z o s))
(isoK (z5o φ) [c] s fun ci s =>
 kGeq ci (ni 0) fun g =>
 z0 g true (fun k => k c s) s fun ck s =>
 z0 g true (fun k => isoK (z5o φ) [ck] s k) s fun cl s =>
 z0 g true (fun k => k f s) s fun cm s =>
 z0 g true (fun k => kLss cl cm fun d => k d s) s fun cn s =>
 zp g cn (.b false) s fun co s =>
 z5 co
(retK true s (.tup [(.tree [] 0 true), (.b false)]) some)
(z24 3 40 [(.b false), (.n 0), (.n 0)] s m m fun Y s =>
 kLen Y s fun cp s =>
 lp (fun (_ _ _ _ _ : D) (_ : LS) => none) (fun (cu : D → D → D → D → D → LS → Rs) (Z bb A bc p : D) (s : LS) =>
 kLss p bc fun cv =>
 z5 cv
(kAdd Z p fun cw =>
 z1 3 s bb cw fun cy s =>
 z3 3 s cy fun cz s =>
 isoK (z6q φ) [cz] s fun cA s =>
 z1 3 s A p fun cB s =>
 z6 3 s cB cA fun _ s =>
 kAdd p (ni 1) fun cC =>
 cu Z bb A bc cC s)
(retK true s (.tup [A, (.b true)]) some)) φ f c Y cp (ni 0) s))) φ u e bO U bS (ni 0) s)) φ bg bh (.tree [] 0 true) E bl (ni 0) s)) s0
def z8J (φ : Nat) : List D → Option D :=
fun as =>
(fun (s : LS) =>
 u1 as fun g p =>
 u0 p (
 z9 [(.b false), (.n 0)] s fun u s =>
 isoK (z1q φ) [(ni 1)] s fun v s =>
 z9 [(.b false), (.n 0)] s fun h s =>
 z6 2 s h v fun _ s =>
 kLen g s fun w s =>
 lp (fun (_ _ _ _ _ : D) (_ : LS) => none) (fun (y : D → D → D → D → D → LS → Rs) (d c i k e : D) (s : LS) =>
 kLss e k fun z =>
 z5 z
(z1 3 s i e fun A s =>
 z3 3 s A fun B s =>
 z9 [(.b false), (.n 0), (.n 0)] s fun l s =>
 z6 3 s l B fun _ s =>
 z7 2 s l fun C s =>
 z4 s C fun E s =>
 zI [(.b false), (.n 0)] [(1, 1, E)] s fun F s =>
 z9 [(.b false), (.n 0)] s fun f s =>
 z6 2 s f F fun _ s =>
 z3 2 s f fun G s =>
 z3 2 s c fun H s =>
 z3 2 s f fun I s =>
 isoK (z60 φ) [H, I] s fun J s =>
 isoK (z2Q φ) [G, J] s fun m s =>
 kExt m 0 s fun K s =>
 kExt m 1 s fun M s =>
 z9 [(.b false), (.n 0)] s fun o s =>
 z9 [(.b false), (.n 0)] s fun N s =>
 z6 2 s o K fun _ s =>
 z6 2 s N M fun _ s =>
 z3 2 s c fun O s =>
 z3 2 s o fun P s =>
 isoK z4p [O, P] s fun S s =>
 z6 2 s c S fun _ s =>
 kAdd e (ni 1) fun U =>
 y d c i k U s)
(z3 2 s c fun V s =>
 z6 2 s d V fun _ s =>
 z3 2 s d fun W _ =>
 retK false s W some)) φ u h g w (ni 0) s)) s0
def zaA (φ : Nat) : List D → Option D :=
fun as =>
(fun (s : LS) =>
 u1 as fun f l =>
 u0 l (
 z9 [(.b false), (.n 0)] s fun m s =>
 isoK (z8J φ) [f] s fun o s =>
 z9 [(.b false), (.n 0)] s fun i s =>
 z6 2 s i o fun _ s =>
 isoK (z8w (z1K φ)) [f] s fun p s =>
 isoK (zP φ) [(ni 1)] s fun u s =>
 z9 [(.b false), (.n 0), (.n 0)] s fun k s =>
 z6 3 s k u fun _ s =>
 kLen f s fun v s =>
 kSub v (ni 1) fun w =>
 lp (fun (_ _ _ _ _ : D) (_ : LS) => none) (fun (y : D → D → D → D → D → LS → Rs) (g h c d e : D) (s : LS) =>
 kGeq e (ni 0) fun z =>
 z5 z
(z1 3 s c e fun A s =>
 z3 3 s A fun B s =>
 z3 3 s d fun C s =>
 isoK (z1G φ) [B, C] s fun E s =>
 z1 3 s c e fun F s =>
 z6 3 s F E fun _ s =>
 z3 3 s d fun G s =>
 z3 2 s h fun H s =>
 isoK (z3M φ) [H] s fun I s =>
 isoK (z1G φ) [G, I] s fun J s =>
 z6 3 s d J fun _ s =>
 kSub e (ni 1) fun K =>
 y g h c d K s)
(z3 2 s h fun M s =>
 z6 2 s g M fun _ s =>
 z3 2 s g fun N _ =>
 retK false s (.tup [c, N]) some)) φ m i p k w s)) s0
def zcn (φ : Nat) : List D → Option D :=
fun as =>
(fun (s : LS) =>
 u1 as fun A bi =>
 u1 bi fun B bk =>
 u1 bk fun bl bm =>
 u0 bm (
 z9 [(.tree [] 0 true), (.tree [] 0 true), (.tree [] 0 true)] s fun bn s =>
 kLen A s fun bo s =>
 kSub bo (ni 1) fun C =>
 kLen B s fun bp s =>
 kSub bp (ni 1) fun d =>
 z24 1 24 [(.tree [] 0 true)] s d d fun E s =>
 kBsl 1 [(ni 0)] [(0, 1, (ni 1))] s fun bu s =>
 isoK (z2b φ) [bu] s fun bv s =>
 z1 1 s E (ni 0) fun bw s =>
 z6 1 s bw bv fun _ s =>
 kMul C d fun bz =>
 lp (fun (_ _ _ _ _ _ _ _ _ _ : D) (_ : LS) => none) (fun (bA : D → D → D → D → D → D → D → D → D → D → LS → Rs) (m F o e c f p g G H : D) (s : LS) =>
 kLss H G fun bB =>
 z5 bB
(isoK (z3m φ) [p, c] s fun bC s =>
 kBsl 1 [(.tree [] 0 true)] [(0, 1, bC)] s fun bE s =>
 kApp 1 24 s g bE fun bF s =>
 isoK (z5k φ) [p, m, F, o] s fun bG s =>
 kAdd H (ni 1) fun bH =>
 bA m F o e c f bG bF G bH s)
(isoK (z6r φ) [g] s fun bI s =>
 kLen bI s fun bJ s =>
 kMul c f fun bK =>
 kLss bJ bK fun bM =>
 z5 bM
(zI [(.tree [] 0 true), (.tree [] 0 true), (.tree [] 0 true)] [] s fun bN s =>
 z6 3 s e bN fun _ s =>
 z3 3 s e fun bO _ =>
 retK false s (.tup [bO, (.b false)]) some)
(isoK (z3m φ) [p, c] s fun bP s =>
 isoK (z6s φ) [g, bP] s fun I s =>
 kExt I 0 s fun J s =>
 kExt I 1 s fun dk s =>
 kMul c f fun bS =>
 kAdd bS (ni 1) fun bU =>
 z24 3 40 [(.b false), (.n 0), (.n 0)] s (ni 0) bU fun bV s =>
 kLen J s fun bW s =>
 lp (fun (_ _ _ _ _ _ _ _ _ _ : D) (_ : LS) => none) (fun (bX : D → D → D → D → D → D → D → D → D → D → LS → Rs) (K M N O u P S U V v : D) (s : LS) =>
 kLss v V fun bY =>
 z5 bY
(z1 3 s U v fun bZ s =>
 z3 3 s bZ fun cb s =>
 z9 [(.b false), (.n 0), (.n 0)] s fun W s =>
 z6 3 s W cb fun _ s =>
 z3 3 s W fun cc s =>
 isoK (z6q φ) [cc] s fun cd s =>
 kBsl 1 [(.b false), (.n 0), (.n 0)] [(0, 3, cd)] s fun ce s =>
 kApp 3 40 s S ce fun cf s =>
 kAdd v (ni 1) fun cg =>
 bX K M N O u P cf U V cg s)
(isoK (zP φ) [(ni 1)] s fun ch s =>
 kBsl 1 [(.b false), (.n 0), (.n 0)] [(0, 3, ch)] s fun ci s =>
 kApp 3 40 s S ci fun ck s =>
 isoK (zaA φ) [ck] s fun X s =>
 kExt X 0 s fun cl s =>
 kExt X 1 s fun cm s =>
 z9 [(.b false), (.n 0)] s fun Y s =>
 z6 2 s Y cm fun _ s =>
 z24 1 24 [(.tree [] 0 true)] s u u fun Z s =>
 kBsl 2 [(ni 0)] [(0, 1, (ni 0)), (1, 1, (ni 1))] s fun cn s =>
 isoK (z2b φ) [cn] s fun co s =>
 isoK (z6D φ) [K, co] s fun cp s =>
 z1 1 s Z (ni 0) fun cu s =>
 z6 1 s cu cp fun _ s =>
 isoK (z3m φ) [Z, O] s fun cv s =>
 isoK (z6s φ) [P, cv] s fun bb s =>
 kExt bb 0 s fun bc s =>
 kExt bb 1 s fun dl s =>
 z3 2 s Y fun cw s =>
 isoK (z3M φ) [cw] s fun cy s =>
 isoK (z2r φ) [cy] s fun cz s =>
 isoK (zP φ) [(ni 1)] s fun cA s =>
 z9 [(.b false), (.n 0), (.n 0)] s fun bd s =>
 z9 [(.b false), (.n 0), (.n 0)] s fun bf s =>
 z6 3 s bd cz fun _ s =>
 z6 3 s bf cA fun _ s =>
 kLen bc s fun cB s =>
 lp (fun (_ _ _ _ _ _ _ _ : D) (_ : LS) => none) (fun (cC : D → D → D → D → D → D → D → D → LS → Rs) (bg w y h z i bh k : D) (s : LS) =>
 kLss k bh fun cE =>
 z5 cE
(z1 3 s h k fun cF s =>
 z3 3 s cF fun cG s =>
 z3 3 s i fun cH s =>
 isoK (z1G φ) [cG, cH] s fun cI s =>
 z1 3 s h k fun cJ s =>
 z6 3 s cJ cI fun _ s =>
 z3 3 s i fun cK s =>
 z3 3 s z fun cM s =>
 isoK (z1G φ) [cK, cM] s fun cN s =>
 z6 3 s i cN fun _ s =>
 kAdd k (ni 1) fun cO =>
 cC bg w y h z i bh cO s)
(zI [(.tree [] 0 true)] [(0, 1, y)] s fun cP s =>
 isoK (z11 φ) [h] s fun cS s =>
 zI [(.tree [] 0 true), (.tree [] 0 true), (.tree [] 0 true)] [(0, 1, cP), (1, 1, cS)] s fun cU s =>
 z9 [(.tree [] 0 true), (.tree [] 0 true), (.tree [] 0 true)] s fun l s =>
 z6 3 s l cU fun _ s =>
 kBsl 2 [(ni 0)] [(0, 1, (ni 0)), (1, 1, (ni 1))] s fun cV s =>
 isoK (z2b φ) [cV] s fun cW s =>
 isoK (z6D φ) [y, cW] s fun cX s =>
 z3 3 s z fun cY s =>
 isoK (z21 φ) [cX, cY] s fun cZ s =>
 z7 1 s l fun db s =>
 z4 s db fun dc s =>
 isoK (zP φ) [bg] s fun dd s =>
 isoK (z21 φ) [dc, dd] s fun de s =>
 isoK (z3N φ) [cZ, de] s fun df s =>
 z7 2 s l fun dg s =>
 z6 1 s dg df fun _ s =>
 z3 3 s l fun dh s =>
 z6 3 s w dh fun _ s =>
 z3 3 s w fun di _ =>
 retK false s (.tup [di, (.b true)]) some)) φ M N cl bc bd bf cB (ni 0) s)) φ m o e c f g bV J bW (ni 0) s))) φ A B bl bn C d E (.tree [] 0 true) bz (ni 0) s)) s0
def zch (φ : Nat) : List D → Option D :=
fun as =>
(fun (s : LS) =>
 u1 as fun b c =>
 u0 c (
(zX φ) [b, (.fn 14 [])] s fun d s =>
 retK false s d some)) s0
def zf (φ : Nat) : FTab := setT (z56 φ) 227 (.iso (zch φ))
def z1Z (φ : Nat) : List D → LS → (D → LS → Rs) → Rs :=
fun as s k =>
 u1 as fun c g =>
 u1 g fun h l =>
 u0 l (
 kLen c s fun m s =>
 lp (fun (_ _ _ _ : D) (_ : LS) => none) (fun (n : D → D → D → D → LS → Rs) (d e f b : D) (s : LS) =>
 kLss b f fun o =>
 z5 o
(z1 1 s d b fun p s =>
 z4 s p fun u s =>
 dynK (zf φ) false e [u] s fun v s =>
 z5 v
(k b s)
(kAdd b (ni 1) fun w =>
 n d e f w s))
(k (.i .i64 (.negSucc 0)) s)) φ c h m (ni 0) s)
def z1D (φ : Nat) : List D → LS → (D → LS → Rs) → Rs :=
fun as s k =>
 u1 as fun b c =>
 u1 c fun d e =>
 u0 e (
(z1Z φ) [b, d] s fun f s =>
 kGeq f (ni 0) fun g =>
 k g s)
def zan (φ : Nat) : List D → Option D :=
fun as =>
(fun (s : LS) =>
 u1 as fun b c =>
 u0 c (
(z1D φ) [b, (.fn 227 [])] s fun d s =>
 retK false s d some)) s0
def z5l (φ : Nat) : List D → Option D :=
fun as =>
(fun (s : LS) =>
 u1 as fun p u =>
 u1 u fun k v =>
 u0 v (
 kBox p s fun e s =>
 z9 [(.tree [] 0 true), (.tree [] 0 true), (.tree [] 0 true)] s fun f s =>
 z3 1 s e fun w s =>
 isoK (z83 φ) [w, k] s fun l s =>
 kNeq l (ni 0) fun y =>
 z5 y
(zI [(.tree [] 0 true), (.tree [] 0 true), (.tree [] 0 true)] [] s fun z s =>
 z6 3 s f z fun _ s =>
 z3 3 s f fun A _ =>
 retK false s (.tup [A, l]) some)
(z7 0 s e fun B s =>
 z4 s B fun C s =>
 isoK (za9 φ) [C, k] s fun E s =>
 lp (fun (_ _ _ _ : D) (_ : LS) => none) (fun (m : D → D → D → D → LS → Rs) (g b h n : D) (s : LS) =>
 z7 0 s g fun F s =>
 z4 s F fun G s =>
 isoK (zcn φ) [G, h, n] s fun o s =>
 kExt o 0 s fun H s =>
 kExt o 1 s fun I s =>
 z9 [(.tree [] 0 true), (.tree [] 0 true), (.tree [] 0 true)] s fun d s =>
 z6 3 s d H fun _ s =>
 z5 I
(z7 0 s d fun J s =>
 z7 0 s J fun K s =>
 z4 s K fun M s =>
 z7 1 s d fun N s =>
 z4 s N fun O s =>
 z7 2 s d fun P s =>
 z4 s P fun S s =>
 kBsl 3 [(.tree [] 0 true)] [(0, 1, M), (1, 1, O), (2, 1, S)] s fun U s =>
 isoK (zan φ) [U] s fun V s =>
 z5 V
(zI [(.tree [] 0 true), (.tree [] 0 true), (.tree [] 0 true)] [] s fun W s =>
 z6 3 s b W fun _ s =>
 z3 3 s b fun X _ =>
 retK false s (.tup [X, (ni 4)]) some)
(z3 3 s d fun Y s =>
 z6 3 s b Y fun _ s =>
 z3 3 s b fun Z _ =>
 retK false s (.tup [Z, (ni 0)]) some))
(kS (.neg (.c n)) s fun i s =>
 kGeq i (ni 0) fun bb =>
 z5 bb
(kAdd i (ni 1) fun bc =>
 m g b h bc s)
(m g b h i s))) φ e f E (ni 0) s))) s0
def z2O (φ : Nat) : List D → Option D :=
fun as =>
(fun (s : LS) =>
 u1 as fun f g =>
 u1 g fun b h =>
 u0 h (
 kBox f s fun c s =>
 z3 1 s c fun i s =>
 isoK (z2q φ) [i] s fun d s =>
 kNeq d (ni 0) fun k =>
 z5 k
(retK false s d some)
(isoK (z5n φ) [b] s fun e s =>
 kNeq e (ni 0) fun l =>
 z5 l
(retK false s e some)
(kLen b s fun m s =>
 z7 0 s c fun n s =>
 z4 s n fun o s =>
 kLen o s fun p s =>
 kGeq m p fun u =>
 z5 u
(retK false s (ni 3) some)
(retK false s (ni 0) some))))) s0
def zaF (φ : Nat) : List D → Option D :=
fun as =>
(fun (s : LS) =>
 u1 as fun h i =>
 u1 i fun b k =>
 u0 k (
 kBox h s fun l s =>
 kLen b s fun m s =>
 kGtr m (ni 256) fun n =>
 z5 n
(retK false s (ni 5) some)
(kLen b s fun o s =>
 lp (fun (_ _ _ _ : D) (_ : LS) => none) (fun (p : D → D → D → D → LS → Rs) (d e f c : D) (s : LS) =>
 kLss c f fun u =>
 z5 u
(z1 1 s e c fun v s =>
 z4 s v fun w s =>
 z3 1 s d fun y s =>
 isoK (z2O φ) [y, w] s fun g s =>
 kNeq g (ni 0) fun z =>
 z5 z
(retK false s g some)
(kAdd c (ni 1) fun A =>
 p d e f A s))
(retK false s (ni 0) some)) φ l b o (ni 0) s))) s0
def zgu (φ : Nat) : List D → Option D :=
fun as =>
(fun (s : LS) =>
 u1 as fun d M =>
 u1 M fun N O =>
 u0 O (
 kLen d s fun P s =>
 kSub P (ni 1) fun l =>
 kBsl 1 [(ni 0)] [(0, 1, (ni 1))] s fun S s =>
 isoK (z2b φ) [S] s fun U s =>
 isoK (z6D φ) [d, U] s fun V s =>
 isoK (z9S φ) [V, l] s fun W s =>
 kBsl 1 [(.tree [] 0 true)] [(0, 1, W)] s fun X s =>
 lp (fun (_ _ _ _ : D) (_ : LS) => none) (fun (Y : D → D → D → D → LS → Rs) (Z bb bc b : D) (s : LS) =>
 kLen b s fun bd s =>
 lp (fun (_ _ _ _ _ _ _ _ : D) (_ : LS) => none) (fun (bf : D → D → D → D → D → D → D → D → LS → Rs) (m c n e o p u f : D) (s : LS) =>
 kLss f u fun bg =>
 z5 bg
(z1 1 s p f fun bh s =>
 z4 s bh fun bi s =>
 kLen c s fun bk s =>
 lp (fun (_ _ _ _ _ _ _ _ _ _ _ _ : D) (_ : LS) => none) (fun (bl : D → D → D → D → D → D → D → D → D → D → D → D → LS → Rs) (g v h w y z A B C E F i : D) (s : LS) =>
 kLss i F fun bm =>
 z5 bm
(z1 1 s E i fun bn s =>
 z4 s bn fun bo s =>
 isoK (z8w (zJ φ)) [z] s fun bp s =>
 isoK (z11 φ) [bp] s fun bu s =>
 isoK (z7X φ) [g, bu, bo] s fun bv s =>
 isoK (z9S φ) [bv, h] s fun bw s =>
 kBsl 1 [(.tree [] 0 true)] [(0, 1, bw)] s fun bz s =>
 zj8 1 24 s y bz fun bA s =>
 kAdd i (ni 1) fun bB =>
 bl g v h w bA z A B C E F bB s)
(kAdd C (ni 1) fun bC =>
 bf g v h w y A B bC s)) φ m c n e o bi p u f c bk (ni 0) s)
(isoK (z6r φ) [o] s fun G s =>
 kLen G s fun bE s =>
 kLen e s fun bF s =>
 kEql bE bF fun bG =>
 z5 bG
(isoK (z6r φ) [e] s fun H s =>
 kLen H s fun bH s =>
 lp (fun (_ _ _ _ : D) (_ : LS) => none) (fun (bI : D → D → D → D → LS → Rs) (I J K k : D) (s : LS) =>
 kLss k K fun bJ =>
 z5 bJ
(z1 1 s J k fun bK s =>
 z4 s bK fun bM s =>
 isoK (z8w (zJ φ)) [bM] s fun bN s =>
 isoK (z11 φ) [bN] s fun bO s =>
 kBsl 1 [(.tree [] 0 true)] [(0, 1, bO)] s fun bP s =>
 zj8 1 24 s I bP fun bS s =>
 kAdd k (ni 1) fun bU =>
 bI bS J K bU s)
(retK true s I some)) φ (.tree [] 0 true) H bH (ni 0) s)
(Y m c n G s))) φ Z bb bc b b b bd (ni 0) s) φ d N l X s)) s0
def z6Y (φ : Nat) : List D → Option D :=
fun as =>
(fun (s : LS) =>
 u1 as fun g h =>
 u1 h fun c i =>
 u0 i (
 kBox g s fun b s =>
 z3 1 s b fun k s =>
 isoK (z2q φ) [k] s fun d s =>
 kNeq d (ni 0) fun l =>
 z5 l
(retK false s (.tup [(.tree [] 0 true), d]) some)
(z3 1 s b fun m s =>
 isoK (zaF φ) [m, c] s fun e s =>
 kNeq e (ni 0) fun n =>
 z5 n
(retK false s (.tup [(.tree [] 0 true), e]) some)
(z7 0 s b fun o s =>
 z4 s o fun p s =>
 isoK (zgu φ) [p, c] s fun f s =>
 isoK (zan φ) [f] s fun u s =>
 z5 u
(retK false s (.tup [(.tree [] 0 true), (ni 4)]) some)
(retK false s (.tup [f, (ni 0)]) some))))) s0
def z51 (φ : Nat) : List D → Option D :=
fun as =>
(fun (s : LS) =>
 u1 as fun d i =>
 u1 i fun e k =>
 u0 k (
 kLen d s fun l s =>
 kLen e s fun m s =>
 kNeq l m fun n =>
 z5 n
(retK false s (.b false) some)
(kLen d s fun o s =>
 lp (fun (_ _ _ _ : D) (_ : LS) => none) (fun (p : D → D → D → D → LS → Rs) (f g h c : D) (s : LS) =>
 kLss c h fun u =>
 z5 u
(z1 3 s f c fun v s =>
 z3 3 s v fun w s =>
 z1 3 s g c fun y s =>
 z3 3 s y fun z s =>
 kEqs true [1, 2, 2] w z s fun A s =>
 z5 A
(retK false s (.b false) some)
(kAdd c (ni 1) fun B =>
 p f g h B s))
(retK false s (.b true) some)) φ d e o (ni 0) s))) s0
def z4R (φ : Nat) : List D → Option D :=
fun as =>
(fun (s : LS) =>
 u1 as fun d i =>
 u1 i fun e k =>
 u0 k (
 kLen d s fun l s =>
 kLen e s fun m s =>
 kNeq l m fun n =>
 z5 n
(retK false s (.b false) some)
(kLen d s fun o s =>
 lp (fun (_ _ _ _ : D) (_ : LS) => none) (fun (p : D → D → D → D → LS → Rs) (f g h c : D) (s : LS) =>
 kLss c h fun u =>
 z5 u
(z1 1 s f c fun v s =>
 z4 s v fun w s =>
 z1 1 s g c fun y s =>
 z4 s y fun z s =>
 isoK (z51 φ) [w, z] s fun A s =>
 kNot A s fun B s =>
 z5 B
(retK false s (.b false) some)
(kAdd c (ni 1) fun C =>
 p f g h C s))
(retK false s (.b true) some)) φ d e o (ni 0) s))) s0
def zcg (φ : Nat) : List D → Option D :=
fun as =>
(fun (s : LS) =>
 u1 as fun f v =>
 u1 v fun w y =>
 u0 y (
 kBsl 1 [(ni 0)] [(0, 1, (ni 1))] s fun z s =>
 isoK (z2b φ) [z] s fun A s =>
 isoK (z6D φ) [f, A] s fun B s =>
 lp (fun (_ _ _ _ : D) (_ : LS) => none) (fun (C : D → D → D → D → LS → Rs) (c g h i : D) (s : LS) =>
 kLen c s fun E s =>
 kSub E (ni 1) fun F =>
 isoK (z9S φ) [i, F] s fun k s =>
 isoK (z6s φ) [h, k] s fun l s =>
 kExt l 0 s fun d s =>
 kExt l 1 s fun G s =>
 z5 G
(kLen d s fun H s =>
 kAdd H (ni 1) fun I =>
 z24 3 40 [(.b false), (.n 0), (.n 0)] s (ni 0) I fun J s =>
 kLen d s fun K s =>
 lp (fun (_ _ _ _ : D) (_ : LS) => none) (fun (M : D → D → D → D → LS → Rs) (m o p e : D) (s : LS) =>
 kLss e p fun N =>
 z5 N
(z1 3 s o e fun O s =>
 z3 3 s O fun P s =>
 z9 [(.b false), (.n 0), (.n 0)] s fun u s =>
 z6 3 s u P fun _ s =>
 z3 3 s u fun S s =>
 isoK (z6q φ) [S] s fun U s =>
 kBsl 1 [(.b false), (.n 0), (.n 0)] [(0, 3, U)] s fun V s =>
 zj8 3 40 s m V fun W s =>
 kAdd e (ni 1) fun X =>
 M W o p X s)
(isoK (zP φ) [(ni 1)] s fun Y s =>
 kBsl 1 [(.b false), (.n 0), (.n 0)] [(0, 3, Y)] s fun Z s =>
 zj8 3 40 s m Z fun bb s =>
 retK true s bb some)) φ J d K (ni 0) s)
(kBsl 1 [(.tree [] 0 true)] [(0, 1, k)] s fun bc s =>
 zj8 1 24 s h bc fun bd s =>
 isoK (z7X φ) [c, i, g] s fun bf s =>
 C c g bd bf s)) φ f w (.tree [] 0 true) B s)) s0
def zdT (φ : Nat) : List D → Option D :=
fun as =>
(fun (s : LS) =>
 u1 as fun c i =>
 u1 i fun k l =>
 u1 l fun m n =>
 u0 n (
 kBsl 1 [(ni 0)] [(0, 1, (ni 1))] s fun o s =>
 isoK (z2b φ) [o] s fun p s =>
 isoK (z6D φ) [c, p] s fun u s =>
 lp (fun (_ _ _ _ _ _ : D) (_ : LS) => none) (fun (v : D → D → D → D → D → D → LS → Rs) (b d e f g h : D) (s : LS) =>
 kLss h g fun w =>
 z5 w
(kLen b s fun y s =>
 kSub y (ni 1) fun z =>
 isoK (z9S φ) [f, z] s fun A s =>
 kBsl 1 [(.tree [] 0 true)] [(0, 1, A)] s fun B s =>
 kApp 1 24 s e B fun C s =>
 isoK (z7X φ) [b, f, d] s fun E s =>
 kAdd h (ni 1) fun F =>
 v b d C E g F s)
(retK false s e some)) φ c k (.tree [] 0 true) u m (ni 0) s)) s0
def zcj (φ : Nat) : List D → Option D :=
fun as =>
(fun (s : LS) =>
 u1 as fun c f =>
 u1 f fun d g =>
 u1 g fun h i =>
 u0 i (
 isoK (zcg φ) [c, d] s fun k s =>
 kLen k s fun l s =>
 kSub l (ni 1) fun m =>
 isoK (zdT φ) [c, d, m] s fun n s =>
 kLen c s fun o s =>
 kSub o (ni 1) fun p =>
 isoK (z9S φ) [h, p] s fun u s =>
 isoK (z6s φ) [n, u] s fun e s =>
 kExt e 0 s fun v s =>
 kExt e 1 s fun w s =>
 kNot w s fun y s =>
 z5 y
(retK false s (.tup [(.tree [] 0 true), (.b false)]) some)
(isoK (z11 φ) [v] s fun z s =>
 retK false s (.tup [z, (.b true)]) some))) s0
def z64 (φ : Nat) : List D → Option D :=
fun as =>
(fun (s : LS) =>
 u1 as fun u v =>
 u1 v fun d w =>
 u1 w fun e y =>
 u0 y (
 kBox u s fun f s =>
 z3 1 s f fun z s =>
 isoK (z2q φ) [z] s fun g s =>
 kNeq g (ni 0) fun A =>
 z5 A
(retK false s (.tup [(.tree [] 0 true), g]) some)
(kBsl 2 [(.tree [] 0 true)] [(0, 1, d), (1, 1, e)] s fun h s =>
 kLen h s fun B s =>
 lp (fun (_ _ _ _ _ _ : D) (_ : LS) => none) (fun (C : D → D → D → D → D → D → LS → Rs) (i k b l m c : D) (s : LS) =>
 kLss c m fun E =>
 z5 E
(z1 1 s l c fun F s =>
 z4 s F fun G s =>
 z3 1 s b fun H s =>
 isoK (z2O φ) [H, G] s fun n s =>
 kNeq n (ni 0) fun I =>
 z5 I
(retK false s (.tup [(.tree [] 0 true), n]) some)
(kAdd c (ni 1) fun J =>
 C i k b l m J s))
(z7 0 s b fun K s =>
 z4 s K fun M s =>
 isoK (zcj φ) [M, i, k] s fun o s =>
 kExt o 0 s fun p s =>
 kExt o 1 s fun N s =>
 kNot N s fun O s =>
 z5 O
(retK false s (.tup [(.tree [] 0 true), (ni 10)]) some)
(kBsl 1 [(.tree [] 0 true)] [(0, 1, p)] s fun P s =>
 isoK (zan φ) [P] s fun S s =>
 z5 S
(retK false s (.tup [(.tree [] 0 true), (ni 4)]) some)
(retK false s (.tup [p, (ni 0)]) some)))) φ d e f h B (ni 0) s))) s0
def z2A (φ : Nat) : List D → Option D :=
fun as =>
(fun (s : LS) =>
 u1 as fun c d =>
 u0 d (
 kBox c s fun e s =>
 z3 3 s e fun f s =>
 kBsl 1 [(.b false), (.n 0), (.n 0)] [(0, 3, f)] s fun g s =>
 isoK (z17 φ) [g] s fun h s =>
 retK false s h some)) s0
def z1c (φ : Nat) : List D → Option D :=
fun as =>
(fun (s : LS) =>
 u1 as fun d i =>
 u0 i (
 kLen d s fun k s =>
 lp (fun (_ _ _ _ : D) (_ : LS) => none) (fun (l : D → D → D → D → LS → Rs) (e f g c : D) (s : LS) =>
 kLss c g fun m =>
 z5 m
(z1 3 s f c fun o s =>
 z3 3 s o fun p s =>
 z9 [(.b false), (.n 0), (.n 0)] s fun h s =>
 z6 3 s h p fun _ s =>
 z3 3 s h fun u s =>
 isoK (z2A φ) [u] s fun v s =>
 kBsl 1 [(.tree [] 0 true)] [(0, 1, v)] s fun w s =>
 kApp 1 24 s e w fun y s =>
 kAdd c (ni 1) fun z =>
 l y f g z s)
(retK false s e some)) φ (.tree [] 0 true) d k (ni 0) s)) s0
def z18 (φ : Nat) : List D → Option D :=
fun as =>
(fun (s : LS) =>
 u1 as fun c g =>
 u1 g fun e h =>
 u0 h (
 z9 [(.b false), (.n 0)] s fun f s =>
 z0 c true (fun k => k e s) s fun i s =>
 z0 c true (fun k => kNeq i (.n 0) fun d => k d s) s fun l s =>
 zp c l (.b false) s fun m s =>
 zI [(.b false), (.n 0)] [(0, 1, m), (1, 1, e)] s fun o s =>
 z6 2 s f o fun _ s =>
 z3 2 s f fun p _ =>
 retK false s p some)) s0
def z53 (φ : Nat) : List D → LS → (D → LS → Rs) → Rs :=
fun as s k =>
 u1 as fun f g =>
 u0 g (
 lp (fun (_ : D) (_ : LS) => none) (fun (h : D → LS → Rs) (e : D) (s : LS) =>
 kLen e s fun l s =>
 kGtr l (ni 0) fun c =>
 z0 c true (fun k => k e s) s fun m s =>
 z0 c true (fun k => k e s) s fun n s =>
 z0 c true (fun k => kLen n s k) s fun o s =>
 z0 c true (fun k => kSub o (ni 1) fun d => k d s) s fun p s =>
 z0 c true (fun k => z1 1 s m p k) s fun u s =>
 z0 c true (fun k => z4 s u k) s fun v s =>
 z0 c true (fun k => kEql v (.i .u64 (.ofNat 0)) fun d => k d s) s fun w s =>
 zp c w (.b false) s fun y s =>
 z5 y
(kLen e s fun z s =>
 kSub z (ni 1) fun A =>
 z23 1 s e none (some A) none fun B s =>
 h B s)
(k e s)) φ f s)
def zW (φ : Nat) : List D → Option D :=
fun as =>
(fun (s : LS) =>
 u1 as fun g m =>
 u0 m (
 kS (.lens (.c g)) s fun n s =>
 lp (fun (_ _ _ : D) (_ : LS) => none) (fun (o : D → D → D → LS → Rs) (p h b : D) (s : LS) =>
 kGtr b (ni 0) fun u =>
 z5 u
(kSub b (ni 4) fun v =>
 kS (.max (.c (ni 0)) (.c v)) s fun w s =>
 lp (fun (_ _ _ _ _ : D) (_ : LS) => none) (fun (y : D → D → D → D → D → LS → Rs) (d k e l f : D) (s : LS) =>
 kLss f e fun z =>
 z5 z
(kMul l (.i .u64 (.ofNat 256)) fun A =>
 kS (.index (.c d) (.c f)) s fun B s =>
 z2s .u64 B s fun C s =>
 kAdd A C fun E =>
 kAdd f (ni 1) fun F =>
 y d k e E F s)
(kBsl 1 [(.i .u64 (.ofNat 0))] [(0, 1, l)] s fun G s =>
 kApp 1 8 s k G fun H s =>
 kSub e (ni 4) fun I =>
 o d H I s)) φ p h b (.i .u64 (.ofNat 0)) w s)
((z53 φ) [h] s fun J s =>
 retK true s J some)) φ g (.tree [] 0 true) n s)) s0
def z6l (φ : Nat) : List D → Option D :=
fun as =>
(fun (s : LS) =>
 u1 as fun h i =>
 u1 i fun e k =>
 u0 k (
(z53 φ) [h] s fun d s =>
 kLen d s fun l s =>
 kLen e s fun m s =>
 kNeq l m fun n =>
 z5 n
(kLen d s fun o s =>
 kLen e s fun p s =>
 kLss o p fun u =>
 retK false s u some)
(kLen d s fun v s =>
 kSub v (ni 1) fun w =>
 lp (fun (_ _ _ : D) (_ : LS) => none) (fun (y : D → D → D → LS → Rs) (f g c : D) (s : LS) =>
 kGeq c (ni 0) fun z =>
 z5 z
(z1 1 s f c fun A s =>
 z4 s A fun B s =>
 z1 1 s g c fun C s =>
 z4 s C fun E s =>
 kNeq B E fun F =>
 z5 F
(z1 1 s f c fun G s =>
 z4 s G fun H s =>
 z1 1 s g c fun I s =>
 z4 s I fun J s =>
 kLss H J fun K =>
 retK false s K some)
(kSub c (ni 1) fun M =>
 y f g M s))
(retK false s (.b false) some)) φ d e w s))) s0
def z1R (φ : Nat) : List D → Option D :=
fun as =>
(fun (s : LS) =>
 u1 as fun P S =>
 u1 S fun A U =>
 u0 U (
 kEql A (.n 0) fun V =>
 z5 V
(retK false s (.tup [(.n 0), (.n 0)]) some)
(isoK (zW φ) [P] s fun B s =>
 isoK (zW φ) [A] s fun C s =>
 kLen C s fun E s =>
 kBsl 1 [(.i .u64 (.ofNat 0))] [(0, 1, (.i .u64 (.ofNat 0)))] s fun W s =>
 kApp 1 8 s B W fun X s =>
 kLen B s fun Y s =>
 kSub Y E fun Z =>
 kAdd Z (ni 1) fun bb =>
 kS (.max (.c (ni 0)) (.c bb)) s fun F s =>
 z24 1 8 [(.i .u64 (.ofNat 0))] s F F fun G s =>
 kLen G s fun bc s =>
 kSub bc (ni 1) fun bd =>
 lp (fun (_ _ _ _ _ : D) (_ : LS) => none) (fun (bf : D → D → D → D → D → LS → Rs) (bg bh H I J : D) (s : LS) =>
 kGeq J (ni 0) fun bi =>
 z5 bi
(lp (fun (_ _ _ _ _ : D) (_ : LS) => none) (fun (bk : D → D → D → D → D → LS → Rs) (l h k m e : D) (s : LS) =>
 z23 1 s k (some e) none none fun bl s =>
 isoK (z6l φ) [bl, l] s fun bm s =>
 kNot bm s fun bn s =>
 z5 bn
(kAdd e h fun bo =>
 z1 1 s k bo fun bp s =>
 z4 s bp fun bu s =>
 kShl bu (.i .u64 (.ofNat 32)) fun bv =>
 kAdd e h fun bw =>
 kSub bw (ni 1) fun bz =>
 z1 1 s k bz fun bA s =>
 z4 s bA fun bB s =>
 kAdd bv bB fun bC =>
 kSub h (ni 1) fun bE =>
 z1 1 s l bE fun bF s =>
 z4 s bF fun bG s =>
 kAdd bG (.i .u64 (.ofNat 1)) fun bH =>
 kQuo bC bH fun bI =>
 kS (.max (.c (.i .u64 (.ofNat 1))) (.c bI)) s fun K s =>
 z1 1 s m e fun bJ s =>
 z4 s bJ fun bK s =>
 kAdd bK K fun bM =>
 z1 1 s m e fun bN s =>
 z6 1 s bN bM fun _ s =>
 lp (fun (_ _ _ _ _ _ _ _ : D) (_ : LS) => none) (fun (bO : D → D → D → D → D → D → D → D → LS → Rs) (o g b u d v M f : D) (s : LS) =>
 kLss f g fun bP =>
 z5 bP
(z1 1 s o f fun bS s =>
 z4 s bS fun bU s =>
 kMul bU v fun bV =>
 kAdd bV M fun p =>
 kShr p (.i .u64 (.ofNat 32)) fun N =>
 jn (fun (bW bX w bY y bZ cb z cc : D) (s : LS) =>
 kAdd y z fun cd =>
 kAdd y z fun ce =>
 z1 1 s w ce fun cf s =>
 z4 s cf fun cg s =>
 kAnd cc (.i .u64 (.ofNat 4294967295)) fun ch =>
 kSub cg ch fun ci =>
 z1 1 s w cd fun ck s =>
 z6 1 s ck ci fun _ s =>
 kAdd z (ni 1) fun cl =>
 bO bW bX w bY y bZ cb cl s) fun O =>
 kAdd d f fun cm =>
 z1 1 s b cm fun cn s =>
 z4 s cn fun co s =>
 kAnd p (.i .u64 (.ofNat 4294967295)) fun cp =>
 kLss co cp fun cu =>
 z5 cu
(kAdd d f fun cv =>
 kAdd d f fun cw =>
 z1 1 s b cw fun cy s =>
 z4 s cy fun cz s =>
 kAdd cz (.i .u64 (.ofNat 4294967296)) fun cA =>
 z1 1 s b cv fun cB s =>
 z6 1 s cB cA fun _ s =>
 kAdd N (.i .u64 (.ofNat 1)) fun cC =>
 O o g b u d v cC f p s)
(O o g b u d v N f p s))
(kAdd d g fun cE =>
 kAdd d g fun cF =>
 z1 1 s b cF fun cG s =>
 z4 s cG fun cH s =>
 kSub cH M fun cI =>
 z1 1 s b cE fun cJ s =>
 z6 1 s cJ cI fun _ s =>
 bk o g b u d s)) φ l h k m e K (.i .u64 (.ofNat 0)) (ni 0) s)
(kSub e (ni 1) fun cK =>
 bf l h k m cK s)) φ bg bh H I J s)
(isoK (z1U φ) [I] s fun cM s =>
 isoK (z1U φ) [H] s fun cN s =>
 retK false s (.tup [cM, cN]) some)) φ C E X G bd s))) s0
def z4i (φ : Nat) : List D → Option D :=
fun as =>
(fun (s : LS) =>
 u1 as fun e f =>
 u1 f fun g h =>
 u0 h (
 lp (fun (_ _ : D) (_ : LS) => none) (fun (i : D → D → LS → Rs) (c b : D) (s : LS) =>
 kNeq b (.n 0) fun k =>
 z5 k
(isoK (z1R φ) [c, b] s fun d s =>
 kExt d 0 s fun m s =>
 kExt d 1 s fun l s =>
 i b l s)
(retK false s c some)) φ e g s)) s0
def z3K (φ : Nat) : List D → Option D :=
fun as =>
(fun (s : LS) =>
 u1 as fun i k =>
 u1 k fun l m =>
 u0 m (
 kBox i s fun e s =>
 kBox l s fun c s =>
 z9 [(.b false), (.n 0), (.n 0)] s fun d s =>
 z7 1 s c fun o s =>
 z4 s o fun p s =>
 kEql p (.n 0) fun u =>
 z5 u
(zI [(.b false), (.n 0), (.n 0)] [(2, 1, (.n 1))] s fun v s =>
 z6 3 s d v fun _ s =>
 z3 3 s d fun w _ =>
 retK false s w some)
(z7 1 s e fun y s =>
 z4 s y fun z s =>
 z7 1 s c fun A s =>
 z4 s A fun B s =>
 isoK (z4i φ) [z, B] s fun f s =>
 z7 1 s e fun C s =>
 z4 s C fun E s =>
 isoK (z1R φ) [E, f] s fun g s =>
 kExt g 0 s fun F s =>
 kExt g 1 s fun V s =>
 z7 1 s c fun G s =>
 z4 s G fun H s =>
 isoK (z1R φ) [H, f] s fun h s =>
 kExt h 0 s fun I s =>
 kExt h 1 s fun W s =>
 z7 0 s e fun J s =>
 z4 s J fun K s =>
 z7 0 s c fun M s =>
 z4 s M fun N s =>
 zeT .neq K N s fun O s =>
 isoK (z18 φ) [O, F] s fun P s =>
 zI [(.b false), (.n 0), (.n 0)] [(0, 2, P), (2, 1, I)] s fun S s =>
 z6 3 s d S fun _ s =>
 z3 3 s d fun U _ =>
 retK false s U some))) s0
def z8L (φ : Nat) : List D → Option D :=
fun as =>
(fun (s : LS) =>
 u1 as fun d e =>
 u1 e fun f g =>
 u0 g (
 z9 [(.b false), (.n 0), (.n 0)] s fun c s =>
 isoK (zj φ) [d] s fun h s =>
 isoK (zj φ) [f] s fun i s =>
 isoK (z3K φ) [h, i] s fun k s =>
 z6 3 s c k fun _ s =>
 z3 3 s c fun l _ =>
 retK false s l some)) s0
def z4C (φ : Nat) : List D → Option D :=
fun as =>
(fun (s : LS) =>
 u1 as fun d e =>
 u0 e (
 kBox d s fun f s =>
 z9 [(.b false), (.n 0), (.n 0)] s fun c s =>
 z3 2 s f fun g s =>
 zI [(.b false), (.n 0), (.n 0)] [(0, 2, g), (2, 1, (.n 1))] s fun h s =>
 z6 3 s c h fun _ s =>
 z3 3 s c fun i _ =>
 retK false s i some)) s0
def z4h (φ : Nat) : List D → Option D :=
fun as =>
(fun (s : LS) =>
 u1 as fun u v =>
 u1 v fun w y =>
 u0 y (
 isoK (zW φ) [u] s fun g s =>
 isoK (zW φ) [w] s fun h s =>
 kLen g s fun z s =>
 kLen h s fun A s =>
 kAdd z A fun k =>
 z24 1 8 [(.i .u64 (.ofNat 0))] s k k fun B s =>
 lp (fun (_ _ _ _ : D) (_ : LS) => none) (fun (C : D → D → D → D → LS → Rs) (l E m n : D) (s : LS) =>
 kLen l s fun F s =>
 kLss n F fun G =>
 z5 G
(lp (fun (_ _ _ _ _ _ : D) (_ : LS) => none) (fun (H : D → D → D → D → D → D → LS → Rs) (f c d b o e : D) (s : LS) =>
 kLen c s fun I s =>
 kLss e I fun J =>
 z5 J
(kAdd b e fun K =>
 z1 1 s d K fun M s =>
 z4 s M fun N s =>
 z1 1 s f b fun O s =>
 z4 s O fun P s =>
 z1 1 s c e fun S s =>
 z4 s S fun U s =>
 kMul P U fun V =>
 kAdd N V fun W =>
 kAdd W o fun p =>
 kAdd b e fun X =>
 kAnd p (.i .u64 (.ofNat 4294967295)) fun Y =>
 z1 1 s d X fun Z s =>
 z6 1 s Z Y fun _ s =>
 kShr p (.i .u64 (.ofNat 32)) fun bb =>
 kAdd e (ni 1) fun bc =>
 H f c d b bb bc s)
(kLen c s fun bd s =>
 kAdd b bd fun bf =>
 z1 1 s d bf fun bg s =>
 z6 1 s bg o fun _ s =>
 kAdd b (ni 1) fun bh =>
 C f c d bh s)) φ l E m n (.i .u64 (.ofNat 0)) (ni 0) s)
(isoK (z1U φ) [m] s fun bi s =>
 retK false s bi some)) φ g h B (ni 0) s)) s0
def zo (φ : Nat) : List D → Option D :=
fun as =>
(fun (s : LS) =>
 u1 as fun f g =>
 u1 g fun h i =>
 u0 i (
 kBox f s fun c s =>
 kBox h s fun d s =>
 z9 [(.b false), (.n 0)] s fun e s =>
 z7 0 s c fun k s =>
 z4 s k fun l s =>
 z7 0 s d fun m s =>
 z4 s m fun o s =>
 zeT .neq l o s fun p s =>
 z7 1 s c fun u s =>
 z4 s u fun v s =>
 z7 1 s d fun w s =>
 z4 s w fun y s =>
 isoK (z4h φ) [v, y] s fun z s =>
 isoK (z18 φ) [p, z] s fun A s =>
 z6 2 s e A fun _ s =>
 z3 2 s e fun B _ =>
 retK false s B some)) s0
def zA (φ : Nat) : List D → Option D :=
fun as =>
(fun (s : LS) =>
 u1 as fun d e =>
 u0 e (
 kBox d s fun f s =>
 z9 [(.b false), (.n 0)] s fun c s =>
 z7 2 s f fun g s =>
 z4 s g fun h s =>
 zI [(.b false), (.n 0)] [(1, 1, h)] s fun i s =>
 z6 2 s c i fun _ s =>
 z3 2 s c fun k _ =>
 retK false s k some)) s0
def z1h (φ : Nat) : List D → Option D :=
fun as =>
(fun (s : LS) =>
 u1 as fun h i =>
 u1 i fun l m =>
 u0 m (
 kBox h s fun c s =>
 kBox l s fun e s =>
 z9 [(.b false), (.n 0), (.n 0)] s fun f s =>
 z7 2 s c fun o s =>
 z4 s o fun p s =>
 kEql p (.n 1) fun g =>
 z0 g true (fun k => z7 2 s e k) s fun u s =>
 z0 g true (fun k => z4 s u k) s fun v s =>
 z0 g true (fun k => kEql v (.n 1) fun d => k d s) s fun w s =>
 zp g w (.b false) s fun y s =>
 z5 y
(z7 0 s c fun z s =>
 z3 2 s z fun A s =>
 z7 0 s e fun B s =>
 z3 2 s B fun C s =>
 isoK (zo φ) [A, C] s fun E s =>
 isoK (z4C φ) [E] s fun F s =>
 z6 3 s f F fun _ s =>
 z3 3 s f fun G _ =>
 retK false s G some)
(z7 0 s c fun H s =>
 z3 2 s H fun I s =>
 z7 0 s e fun J s =>
 z3 2 s J fun K s =>
 isoK (zo φ) [I, K] s fun M s =>
 z3 3 s c fun N s =>
 isoK (zA φ) [N] s fun O s =>
 z3 3 s e fun P s =>
 isoK (zA φ) [P] s fun S s =>
 isoK (zo φ) [O, S] s fun U s =>
 isoK (z3K φ) [M, U] s fun V s =>
 z6 3 s f V fun _ s =>
 z3 3 s f fun W _ =>
 retK false s W some))) s0
def zN (φ : Nat) : List D → Option D :=
fun as =>
(fun (s : LS) =>
 u1 as fun d k =>
 u1 k fun l m =>
 u0 m (
 kBox l s fun o s =>
 kLen d s fun p s =>
 lp (fun (_ _ _ _ _ : D) (_ : LS) => none) (fun (u : D → D → D → D → D → LS → Rs) (e f g h c : D) (s : LS) =>
 kLss c h fun v =>
 z5 v
(z1 3 s g c fun w s =>
 z3 3 s w fun y s =>
 z9 [(.b false), (.n 0), (.n 0)] s fun i s =>
 z6 3 s i y fun _ s =>
 z3 3 s i fun z s =>
 z3 3 s e fun A s =>
 isoK (z1h φ) [z, A] s fun B s =>
 kBsl 1 [(.b false), (.n 0), (.n 0)] [(0, 3, B)] s fun C s =>
 kApp 3 40 s f C fun E s =>
 kAdd c (ni 1) fun F =>
 u e E g h F s)
(isoK (z17 φ) [f] s fun G s =>
 retK false s G some)) φ o (.tree [] 0 true) d p (ni 0) s)) s0
def z5j (φ : Nat) : List D → Option D :=
fun as =>
(fun (s : LS) =>
 u0 as (
 z9 [(.tree [] 0 true)] s fun d s =>
 z9 [(.tree [] 0 true), (.tree [] 0 true), (.tree [] 0 true)] s fun g s =>
 isoK (z8L φ) [(ni 1), (ni 2)] s fun h s =>
 z9 [(.b false), (.n 0), (.n 0)] s fun e s =>
 z6 3 s e h fun _ s =>
 kBsl 5 [(ni 0)] [(0, 1, (ni 1)), (1, 1, (ni 0)), (2, 1, (.i .i64 (.negSucc 9))), (3, 1, (ni 0)), (4, 1, (ni 1))] s fun k s =>
 isoK (zu φ) [k] s fun l s =>
 zI [(.tree [] 0 true)] [(0, 1, l)] s fun m s =>
 kBsl 4 [(ni 0)] [(0, 1, (ni 0)), (1, 1, (.i .i64 (.negSucc 8))), (2, 1, (ni 0)), (3, 1, (ni 1))] s fun o s =>
 isoK (zu φ) [o] s fun p s =>
 z3 3 s e fun u s =>
 isoK (zN φ) [p, u] s fun v s =>
 kBsl 4 [(ni 0)] [(0, 1, (ni 0)), (1, 1, (ni 11)), (2, 1, (ni 0)), (3, 1, (.i .i64 (.negSucc 0)))] s fun w s =>
 isoK (zu φ) [w] s fun y s =>
 z3 3 s e fun z s =>
 isoK (zN φ) [y, z] s fun A s =>
 zI [(.tree [] 0 true), (.tree [] 0 true), (.tree [] 0 true)] [(0, 1, m), (1, 1, v), (2, 1, A)] s fun B s =>
 z9 [(.tree [] 0 true), (.tree [] 0 true), (.tree [] 0 true)] s fun f s =>
 z6 3 s f B fun _ s =>
 kBsl 3 [(ni 0)] [(0, 1, (.i .i64 (.negSucc 1))), (1, 1, (ni 0)), (2, 1, (ni 1))] s fun C s =>
 isoK (zu φ) [C] s fun E s =>
 zI [(.tree [] 0 true)] [(0, 1, E)] s fun F s =>
 kBsl 3 [(ni 0)] [(0, 1, (.i .i64 (.negSucc 2))), (1, 1, (ni 0)), (2, 1, (ni 1))] s fun G s =>
 isoK (zu φ) [G] s fun H s =>
 isoK (z1c φ) [H] s fun I s =>
 z3 3 s f fun J s =>
 z6 1 s d F fun _ s =>
 z6 3 s g J fun _ s =>
 kS (.apart (.c f) (.c d)) s fun _ s =>
 z3 1 s d fun K _ =>
 z3 3 s g fun M _ =>
 retK false s (.tup [K, I, M]) some)) s0
def zcH (φ : Nat) : List D → Option D :=
fun as =>
(fun (s : LS) =>
 u1 as fun i k =>
 u1 k fun e l =>
 u1 l fun m o =>
 u0 o (
 kLen e s fun p s =>
 kSub p (ni 1) fun u =>
 lp (fun (_ _ _ _ _ : D) (_ : LS) => none) (fun (v : D → D → D → D → D → LS → Rs) (c f g h d : D) (s : LS) =>
 kGeq d (ni 0) fun w =>
 z5 w
(isoK (z7X φ) [c, h, g] s fun y s =>
 z1 3 s f d fun z s =>
 z3 3 s z fun A s =>
 kBsl 1 [(.b false), (.n 0), (.n 0)] [(0, 3, A)] s fun B s =>
 isoK (z11 φ) [B] s fun C s =>
 isoK (z3O φ) [y, C] s fun E s =>
 kSub d (ni 1) fun F =>
 v c f g E F s)
(isoK (z6D φ) [c, h] s fun G s =>
 retK false s G some)) φ i e m (.tree [] 0 true) u s)) s0
def zaa (φ : Nat) : List D → Option D :=
fun as =>
(fun (s : LS) =>
 u1 as fun A B =>
 u1 B fun l C =>
 u1 C fun E F =>
 u0 F (
 kBox A s fun m s =>
 kBox E s fun c s =>
 z3 1 s m fun G s =>
 isoK (z83 φ) [G, l] s fun n s =>
 kNeq n (ni 0) fun H =>
 z5 H
(retK false s n some)
(z7 0 s c fun I s =>
 z3 1 s I fun J s =>
 isoK (tabM z2J (za φ)) [J] s fun o s =>
 kNeq o (ni 0) fun K =>
 z5 K
(retK false s o some)
(z7 1 s c fun M s =>
 z4 s M fun N s =>
 z7 2 s c fun O s =>
 z4 s O fun P s =>
 kBsl 2 [(.tree [] 0 true)] [(0, 1, N), (1, 1, P)] s fun p s =>
 kLen p s fun S s =>
 lp (fun (_ _ _ _ _ _ : D) (_ : LS) => none) (fun (U : D → D → D → D → D → D → LS → Rs) (d e b u v f : D) (s : LS) =>
 kLss f v fun V =>
 z5 V
(z1 1 s u f fun W s =>
 z4 s W fun X s =>
 z7 0 s b fun Y s =>
 z3 1 s Y fun Z s =>
 isoK (z2O φ) [Z, X] s fun w s =>
 kNeq w (ni 0) fun bb =>
 z5 bb
(retK false s w some)
(kAdd f (ni 1) fun bc =>
 U d e b u v bc s))
(z7 0 s b fun bd s =>
 z7 0 s bd fun bf s =>
 z4 s bf fun g s =>
 kLen g s fun bg s =>
 kSub bg (ni 1) fun bh =>
 z7 0 s e fun bi s =>
 z4 s bi fun bk s =>
 kLen bk s fun bl s =>
 kSub bl (ni 1) fun bm =>
 kLen d s fun bn s =>
 kSub bn (ni 1) fun bo =>
 kMul bm bo fun bp =>
 kNeq bh bp fun bu =>
 z5 bu
(retK false s (ni 2) some)
(z7 0 s e fun bv s =>
 z4 s bv fun bw s =>
 z7 1 s b fun bz s =>
 z4 s bz fun bA s =>
 isoK (zcH φ) [g, bw, bA] s fun bB s =>
 kLen bB s fun bC s =>
 kGtr bC (ni 0) fun bE =>
 z5 bE
(retK false s (ni 14) some)
(kLen d s fun bF s =>
 kSub bF (ni 1) fun bG =>
 lp (fun (_ _ _ _ _ : D) (_ : LS) => none) (fun (bH : D → D → D → D → D → LS → Rs) (y h i z k : D) (s : LS) =>
 kGeq k (ni 0) fun bI =>
 z5 bI
(z7 2 s h fun bJ s =>
 z4 s bJ fun bK s =>
 isoK (z7X φ) [i, z, bK] s fun bM s =>
 z1 1 s y k fun bN s =>
 z4 s bN fun bO s =>
 z7 1 s h fun bP s =>
 z4 s bP fun bS s =>
 isoK (zcH φ) [i, bO, bS] s fun bU s =>
 isoK (z3O φ) [bM, bU] s fun bV s =>
 kSub k (ni 1) fun bW =>
 bH y h i bV bW s)
(kLen z s fun bX s =>
 kGtr bX (ni 0) fun bY =>
 z5 bY
(retK false s (ni 14) some)
(retK false s (ni 0) some))) φ d b g (.tree [] 0 true) bG s)))) φ l m c p S (ni 0) s)))) s0
def z4D (φ : Nat) : List D → Option D :=
fun as =>
(fun (s : LS) =>
 u1 as fun f g =>
 u0 g (
 kEql f (.n 0) fun e =>
 z0 e false (fun k => k f s) s fun h s =>
 z0 e false (fun k => kS (.index (.c h) (.c (ni 0))) s k) s fun l s =>
 z0 e false (fun k => kNeq l (.i .u8 (.ofNat 0)) fun d => k d s) s fun m s =>
 zp e (.b true) m s fun o s =>
 retK false s o some)) s0
def z6j (φ : Nat) : List D → Option D :=
fun as =>
(fun (s : LS) =>
 u1 as fun g h =>
 u0 h (
 kBox g s fun f s =>
 z7 1 s f fun i s =>
 z4 s i fun l s =>
 isoK (z4D φ) [l] s fun c s =>
 z0 c true (fun k => z7 0 s f k) s fun m s =>
 z0 c true (fun k => z4 s m k) s fun o s =>
 z0 c true (fun k => kNot o s k) s fun p s =>
 z0 c true (fun k => k p s) s fun e s =>
 z0 e false (fun k => z7 1 s f k) s fun u s =>
 z0 e false (fun k => z4 s u k) s fun v s =>
 z0 e false (fun k => kNeq v (.n 0) fun d => k d s) s fun w s =>
 z0 c true (fun k => zp e (.b true) w s k) s fun y s =>
 zp c y (.b false) s fun z s =>
 retK false s z some)) s0
def z54 (φ : Nat) : List D → Option D :=
fun as =>
(fun (s : LS) =>
 u1 as fun b d =>
 u0 d (
 kS (.lens (.c b)) s fun e s =>
 kGtr e (ni 1024) fun f =>
 z5 f
(retK false s (ni 4) some)
(retK false s (ni 0) some))) s0
def z6Q (φ : Nat) : List D → Option D :=
fun as =>
(fun (s : LS) =>
 u1 as fun b c =>
 u0 c (
 kBox b s fun d s =>
 z7 1 s d fun e s =>
 z4 s e fun f s =>
 isoK (z54 φ) [f] s fun g s =>
 retK false s g some)) s0
def z6P (φ : Nat) : List D → Option D :=
fun as =>
(fun (s : LS) =>
 u1 as fun c d =>
 u0 d (
 kBox c s fun b s =>
 z7 0 s b fun e s =>
 z3 2 s e fun f s =>
 isoK (z6Q φ) [f] s fun g s =>
 kNeq g (ni 0) fun h =>
 z5 h
(retK false s (ni 4) some)
(z7 2 s b fun i s =>
 z4 s i fun k s =>
 isoK (z54 φ) [k] s fun l s =>
 retK false s l some))) s0
def z6i (φ : Nat) : List D → Option D :=
fun as =>
(fun (s : LS) =>
 u1 as fun g h =>
 u0 h (
 kBox g s fun c s =>
 z7 0 s c fun i s =>
 z3 2 s i fun l s =>
 isoK (z6j φ) [l] s fun m s =>
 kNot m s fun e s =>
 z0 e false (fun k => z7 2 s c k) s fun o s =>
 z0 e false (fun k => z4 s o k) s fun p s =>
 z0 e false (fun k => isoK (z4D φ) [p] s k) s fun u s =>
 z0 e false (fun k => kNot u s k) s fun v s =>
 zp e (.b true) v s fun f s =>
 z0 f false (fun k => z7 2 s c k) s fun w s =>
 z0 f false (fun k => z4 s w k) s fun y s =>
 z0 f false (fun k => kEql y (.n 0) fun d => k d s) s fun z s =>
 zp f (.b true) z s fun A s =>
 z5 A
(retK false s (ni 1) some)
(z3 3 s c fun B s =>
 isoK (z6P φ) [B] s fun C s =>
 kNeq C (ni 0) fun E =>
 z5 E
(retK false s (ni 4) some)
(z7 0 s c fun F s =>
 z7 1 s F fun G s =>
 z4 s G fun H s =>
 z7 2 s c fun I s =>
 z4 s I fun J s =>
 isoK (z4i φ) [H, J] s fun K s =>
 kNeq K (.n 1) fun M =>
 z5 M
(retK false s (ni 1) some)
(retK false s (ni 0) some))))) s0
def z4B (φ : Nat) : List D → Option D :=
fun as =>
(fun (s : LS) =>
 u1 as fun e o =>
 u0 o (
 kLen e s fun p s =>
 kGtr p (ni 65) fun u =>
 z5 u
(retK false s (ni 4) some)
(kLen e s fun v s =>
 lp (fun (_ _ _ _ : D) (_ : LS) => none) (fun (w : D → D → D → D → LS → Rs) (f h i g : D) (s : LS) =>
 kLss g i fun y =>
 z5 y
(z1 3 s h g fun z s =>
 z3 3 s z fun A s =>
 z9 [(.b false), (.n 0), (.n 0)] s fun l s =>
 z6 3 s l A fun _ s =>
 z3 3 s l fun B s =>
 isoK (z6i φ) [B] s fun m s =>
 kNeq m (ni 0) fun C =>
 z5 C
(retK false s m some)
(kAdd g (ni 1) fun E =>
 w f h i E s))
(kLen f s fun F s =>
 kGtr F (ni 0) fun c =>
 z0 c true (fun k => k f s) s fun G s =>
 z0 c true (fun k => k f s) s fun H s =>
 z0 c true (fun k => kLen H s k) s fun I s =>
 z0 c true (fun k => kSub I (ni 1) fun d => k d s) s fun J s =>
 z0 c true (fun k => z1 3 s G J k) s fun K s =>
 z0 c true (fun k => z3 3 s K k) s fun M s =>
 z0 c true (fun k => isoK (z2V φ) [M] s k) s fun N s =>
 z0 c true (fun k => kEql N (ni 0) fun d => k d s) s fun O s =>
 zp c O (.b false) s fun P s =>
 z5 P
(retK false s (ni 1) some)
(retK false s (ni 0) some))) φ e e v (ni 0) s))) s0
def z1p (φ : Nat) : List D → Option D :=
fun as =>
(fun (s : LS) =>
 u1 as fun d e =>
 u0 e (
 z9 [(.b false), (.n 0), (.n 0)] s fun c s =>
 kLen d s fun f s =>
 kEql f (ni 0) fun g =>
 z5 g
(isoK (zd φ) [(ni 0)] s fun h s =>
 z6 3 s c h fun _ s =>
 z3 3 s c fun i _ =>
 retK false s i some)
(kLen d s fun k s =>
 kSub k (ni 1) fun l =>
 z1 3 s d l fun m s =>
 z3 3 s m fun o s =>
 z6 3 s c o fun _ s =>
 z3 3 s c fun p _ =>
 retK false s p some))) s0
def z5f (φ : Nat) : List D → Option D :=
fun as =>
(fun (s : LS) =>
 u1 as fun b c =>
 u0 c (
 kBox b s fun d s =>
 z7 2 s d fun e s =>
 z4 s e fun f s =>
 kEql f (.n 1) fun g =>
 retK false s g some)) s0
def zO (φ : Nat) : List D → Option D :=
fun as =>
(fun (s : LS) =>
 u1 as fun b c =>
 u0 c (
 kBox b s fun d s =>
 z7 0 s d fun e s =>
 z4 s e fun f s =>
 kLen f s fun g s =>
 kSub g (ni 1) fun h =>
 retK false s h some)) s0
def z3D (φ : Nat) : List D → Option D :=
fun as =>
(fun (s : LS) =>
 u1 as fun o p =>
 u0 p (
 kBox o s fun d s =>
 z7 0 s d fun u s =>
 z4 s u fun v s =>
 isoK (z4B φ) [v] s fun f s =>
 kNeq f (ni 0) fun w =>
 z5 w
(retK false s f some)
(z7 0 s d fun y s =>
 z4 s y fun z s =>
 kLen z s fun A s =>
 kLss A (ni 2) fun c =>
 z0 c false (fun k => z7 0 s d k) s fun B s =>
 z0 c false (fun k => z4 s B k) s fun C s =>
 z0 c false (fun k => isoK (z1p φ) [C] s k) s fun E s =>
 z0 c false (fun k => isoK (zd φ) [(ni 1)] s k) s fun F s =>
 z0 c false (fun k => kEqs true [1, 2, 2] E F s k) s fun G s =>
 zp c (.b true) G s fun H s =>
 z5 H
(retK false s (ni 1) some)
(z7 0 s d fun I s =>
 z4 s I fun g s =>
 kLen g s fun J s =>
 lp (fun (_ _ _ _ : D) (_ : LS) => none) (fun (K : D → D → D → D → LS → Rs) (h i l e : D) (s : LS) =>
 kLss e l fun M =>
 z5 M
(z1 3 s i e fun N s =>
 z3 3 s N fun O s =>
 z9 [(.b false), (.n 0), (.n 0)] s fun m s =>
 z6 3 s m O fun _ s =>
 z3 3 s m fun P s =>
 isoK (z5f φ) [P] s fun S s =>
 kNot S s fun U s =>
 z5 U
(retK false s (ni 1) some)
(kAdd e (ni 1) fun V =>
 K h i l V s))
(z3 1 s h fun W s =>
 isoK (zO φ) [W] s fun X s =>
 kGtr X (ni 24) fun Y =>
 z5 Y
(retK false s (ni 4) some)
(retK false s (ni 0) some))) φ d g J (ni 0) s)))) s0
def z2P (φ : Nat) : List D → Option D :=
fun as =>
(fun (s : LS) =>
 u1 as fun i l =>
 u1 l fun e m =>
 u0 m (
 kBox i s fun f s =>
 z3 1 s f fun n s =>
 isoK (z3D φ) [n] s fun g s =>
 kNeq g (ni 0) fun o =>
 z5 o
(retK false s g some)
(isoK (z4B φ) [e] s fun h s =>
 kEql h (ni 0) fun c =>
 z0 c true (fun k => k e s) s fun p s =>
 z0 c true (fun k => kLen p s k) s fun u s =>
 z0 c true (fun k => z3 1 s f k) s fun v s =>
 z0 c true (fun k => isoK (zO φ) [v] s k) s fun w s =>
 z0 c true (fun k => kGtr u w fun d => k d s) s fun y s =>
 zp c y (.b false) s fun z s =>
 z5 z
(retK false s (ni 3) some)
(retK false s h some)))) s0
def z1E (φ : Nat) : List D → Option D :=
fun as =>
(fun (s : LS) =>
 u1 as fun e f =>
 u0 f (
 kBox e s fun c s =>
 z9 [(.b false), (.n 0), (.n 0)] s fun d s =>
 z7 0 s c fun g s =>
 z7 1 s g fun h s =>
 z4 s h fun i s =>
 kEql i (.n 0) fun k =>
 z5 k
(z3 3 s c fun l s =>
 z6 3 s d l fun _ s =>
 z3 3 s d fun m _ =>
 retK false s m some)
(z7 0 s c fun o s =>
 z7 0 s o fun p s =>
 z4 s p fun u s =>
 z7 2 s c fun v s =>
 z4 s v fun w s =>
 zI [(.b false), (.n 0)] [(0, 1, u), (1, 1, w)] s fun y s =>
 z7 0 s c fun z s =>
 z7 1 s z fun A s =>
 z4 s A fun B s =>
 zI [(.b false), (.n 0), (.n 0)] [(0, 2, y), (2, 1, B)] s fun C s =>
 z6 3 s d C fun _ s =>
 z3 3 s d fun E _ =>
 retK false s E some))) s0
def z3c (φ : Nat) : List D → Option D :=
fun as =>
(fun (s : LS) =>
 u1 as fun d e =>
 u1 e fun f g =>
 u0 g (
 kBox d s fun h s =>
 kBox f s fun i s =>
 z9 [(.b false), (.n 0), (.n 0)] s fun c s =>
 z3 3 s h fun k s =>
 z3 3 s i fun l s =>
 isoK (z1E φ) [l] s fun m s =>
 isoK (z1h φ) [k, m] s fun o s =>
 z6 3 s c o fun _ s =>
 z3 3 s c fun p _ =>
 retK false s p some)) s0
def z4e (φ : Nat) : List D → Option D :=
fun as =>
(fun (s : LS) =>
 u1 as fun e f =>
 u0 f (
 kBox e s fun c s =>
 z9 [(.b false), (.n 0)] s fun d s =>
 z7 0 s c fun g s =>
 z4 s g fun h s =>
 kNot h s fun i s =>
 z7 1 s c fun k s =>
 z4 s k fun l s =>
 isoK (z18 φ) [i, l] s fun m s =>
 z6 2 s d m fun _ s =>
 z3 2 s d fun o _ =>
 retK false s o some)) s0
def z3b (φ : Nat) : List D → Option D :=
fun as =>
(fun (s : LS) =>
 u1 as fun e f =>
 u0 f (
 kBox e s fun c s =>
 z9 [(.b false), (.n 0), (.n 0)] s fun d s =>
 z7 0 s c fun g s =>
 z3 2 s g fun h s =>
 isoK (z4e φ) [h] s fun i s =>
 z7 2 s c fun k s =>
 z4 s k fun l s =>
 zI [(.b false), (.n 0), (.n 0)] [(0, 2, i), (2, 1, l)] s fun m s =>
 z6 3 s d m fun _ s =>
 z3 3 s d fun o _ =>
 retK false s o some)) s0
def z2F (φ : Nat) : List D → Option D :=
fun as =>
(fun (s : LS) =>
 u1 as fun d e =>
 u0 e (
 kBox d s fun f s =>
 z9 [(.b false), (.n 0), (.n 0)] s fun c s =>
 z3 2 s f fun g s =>
 zI [(.b false), (.n 0), (.n 0)] [(0, 2, g), (2, 1, (.n 1))] s fun h s =>
 z6 3 s c h fun _ s =>
 z3 3 s c fun i _ =>
 retK false s i some)) s0
def z4f (φ : Nat) : List D → Option D :=
fun as =>
(fun (s : LS) =>
 u1 as fun d e =>
 u1 e fun f g =>
 u0 g (
 kBox d s fun h s =>
 kBox f s fun i s =>
 z9 [(.b false), (.n 0)] s fun c s =>
 z7 1 s h fun k s =>
 z4 s k fun l s =>
 z7 1 s i fun m s =>
 z4 s m fun o s =>
 isoK (z4i φ) [l, o] s fun p s =>
 zI [(.b false), (.n 0)] [(1, 1, p)] s fun u s =>
 z6 2 s c u fun _ s =>
 z3 2 s c fun v _ =>
 retK false s v some)) s0
def z5C (φ : Nat) : List D → Option D :=
fun as =>
(fun (s : LS) =>
 u1 as fun A B =>
 u1 B fun C E =>
 u0 E (
 isoK (zW φ) [A] s fun F s =>
 isoK (zW φ) [C] s fun G s =>
 lp (fun (_ _ _ _ _ : D) (_ : LS) => none) (fun (H : D → D → D → D → D → LS → Rs) (e l m n c : D) (s : LS) =>
 kLen e s fun I s =>
 kLss c I fun f =>
 z0 f false (fun k => k c s) s fun J s =>
 z0 f false (fun k => k l s) s fun K s =>
 z0 f false (fun k => kLen K s k) s fun M s =>
 z0 f false (fun k => kLss J M fun d => k d s) s fun N s =>
 zp f (.b true) N s fun o s =>
 z0 o false (fun k => k n s) s fun O s =>
 z0 o false (fun k => kGtr O (.i .u64 (.ofNat 0)) fun d => k d s) s fun P s =>
 zp o (.b true) P s fun S s =>
 z5 S
(jn (fun (p g u h v : D) (s : LS) =>
 jn (fun (U V W X w : D) (s : LS) =>
 kAnd w (.i .u64 (.ofNat 4294967295)) fun Y =>
 kBsl 1 [(.i .u64 (.ofNat 0))] [(0, 1, Y)] s fun Z s =>
 kApp 1 8 s W Z fun bb s =>
 kShr w (.i .u64 (.ofNat 32)) fun bc =>
 kAdd X (ni 1) fun bd =>
 H U V bb bc bd s) fun y =>
 kLen g s fun bf s =>
 kLss h bf fun bg =>
 z5 bg
(z1 1 s g h fun bh s =>
 z4 s bh fun bi s =>
 kAdd v bi fun bk =>
 y p g u h bk s)
(y p g u h v s)) fun z =>
 kLen e s fun bl s =>
 kLss c bl fun bm =>
 z5 bm
(z1 1 s e c fun bn s =>
 z4 s bn fun bo s =>
 kAdd n bo fun bp =>
 z e l m c bp s)
(z e l m c n s))
(isoK (z1U φ) [m] s fun bu s =>
 retK false s bu some)) φ F G (.tree [] 0 true) (.i .u64 (.ofNat 0)) (ni 0) s)) s0
def z2f (φ : Nat) : List D → Option D :=
fun as =>
(fun (s : LS) =>
 u1 as fun f l =>
 u1 l fun g m =>
 u0 m (
 kS (.lens (.c f)) s fun n s =>
 kS (.lens (.c g)) s fun o s =>
 kLss n o fun e =>
 z0 e false (fun k => k f s) s fun p s =>
 z0 e false (fun k => kS (.lens (.c p)) s k) s fun u s =>
 z0 e false (fun k => k g s) s fun v s =>
 z0 e false (fun k => kS (.lens (.c v)) s k) s fun w s =>
 z0 e false (fun k => kEql u w fun d => k d s) s fun y s =>
 z0 e false (fun k => k y s) s fun h s =>
 z0 h true (fun k => k f s) s fun z s =>
 z0 h true (fun k => k g s) s fun A s =>
 z0 h true (fun k => kLss z A fun d => k d s) s fun B s =>
 z0 e false (fun k => zp h B (.b false) s k) s fun C s =>
 zp e (.b true) C s fun E s =>
 z5 E
(retK false s (.i .i64 (.negSucc 0)) some)
(kEql f g fun F =>
 z5 F
(retK false s (ni 0) some)
(retK false s (ni 1) some)))) s0
def z4g (φ : Nat) : List D → Option D :=
fun as =>
(fun (s : LS) =>
 u1 as fun l w =>
 u1 w fun m y =>
 u0 y (
 isoK (z2f φ) [l, m] s fun z s =>
 kLss z (ni 0) fun A =>
 z5 A
(retK false s (.n 0) some)
(isoK (zW φ) [l] s fun B s =>
 isoK (zW φ) [m] s fun C s =>
 lp (fun (_ _ _ _ : D) (_ : LS) => none) (fun (E : D → D → D → D → LS → Rs) (e f o b : D) (s : LS) =>
 kLen e s fun F s =>
 kLss b F fun G =>
 z5 G
(jn (fun (c p d g : D) (s : LS) =>
 jn (fun (h H I k J : D) (s : LS) =>
 z1 1 s h k fun K s =>
 z4 s K fun M s =>
 kSub M J fun N =>
 z1 1 s h k fun O s =>
 z6 1 s O N fun _ s =>
 kAdd k (ni 1) fun P =>
 E h H I P s) fun u =>
 z1 1 s c d fun S s =>
 z4 s S fun U s =>
 kLss U g fun V =>
 z5 V
(z1 1 s c d fun W s =>
 z4 s W fun X s =>
 kAdd X (.i .u64 (.ofNat 4294967296)) fun Y =>
 z1 1 s c d fun Z s =>
 z6 1 s Z Y fun _ s =>
 u c p (.i .u64 (.ofNat 1)) d g s)
(u c p (.i .u64 (.ofNat 0)) d g s)) fun v =>
 kLen f s fun bb s =>
 kLss b bb fun bc =>
 z5 bc
(z1 1 s f b fun bd s =>
 z4 s bd fun bf s =>
 kAdd o bf fun bg =>
 v e f b bg s)
(v e f b o s))
(isoK (z1U φ) [e] s fun bh s =>
 retK false s bh some)) φ B C (.i .u64 (.ofNat 0)) (ni 0) s))) s0
def z1Q (φ : Nat) : List D → Option D :=
fun as =>
(fun (s : LS) =>
 u1 as fun w y =>
 u1 y fun z A =>
 u0 A (
 kBox w s fun c s =>
 kBox z s fun e s =>
 z9 [(.b false), (.n 0)] s fun h s =>
 z9 [(.b false), (.n 0)] s fun l s =>
 z7 1 s c fun B s =>
 z4 s B fun C s =>
 z7 1 s e fun E s =>
 z4 s E fun F s =>
 isoK (z1R φ) [C, F] s fun m s =>
 kExt m 0 s fun o s =>
 kExt m 1 s fun f s =>
 jn (fun (G H p u I J : D) (s : LS) =>
 z7 0 s G fun K s =>
 z4 s K fun M s =>
 z7 0 s H fun N s =>
 z4 s N fun O s =>
 zeT .neq M O s fun P s =>
 isoK (z18 φ) [P, I] s fun S s =>
 zI [(.b false), (.n 0)] [(1, 1, J)] s fun U s =>
 z6 2 s p S fun _ s =>
 z6 2 s u U fun _ s =>
 z3 2 s p fun V _ =>
 z3 2 s u fun W _ =>
 retK false s (.tup [V, W]) some) fun v =>
 z7 0 s c fun X s =>
 z4 s X fun g s =>
 z0 g true (fun k => k f s) s fun Y s =>
 z0 g true (fun k => kNeq Y (.n 0) fun d => k d s) s fun Z s =>
 zp g Z (.b false) s fun bb s =>
 z5 bb
(isoK (z2X φ) [(.i .u64 (.ofNat 1))] s fun bc s =>
 isoK (z5C φ) [o, bc] s fun bd s =>
 z7 1 s e fun bf s =>
 z4 s bf fun bg s =>
 isoK (z4g φ) [bg, f] s fun bh s =>
 v c e h l bd bh s)
(v c e h l o f s))) s0
def z2L (φ : Nat) : List D → Option D :=
fun as =>
(fun (s : LS) =>
 u1 as fun g p =>
 u0 p (
 z9 [(.b false), (.n 0)] s fun u s =>
 isoK (zj φ) [(ni 1)] s fun v s =>
 z9 [(.b false), (.n 0)] s fun h s =>
 z6 2 s h v fun _ s =>
 kLen g s fun w s =>
 lp (fun (_ _ _ _ _ : D) (_ : LS) => none) (fun (y : D → D → D → D → D → LS → Rs) (d c i k e : D) (s : LS) =>
 kLss e k fun z =>
 z5 z
(z1 3 s i e fun A s =>
 z3 3 s A fun B s =>
 z9 [(.b false), (.n 0), (.n 0)] s fun l s =>
 z6 3 s l B fun _ s =>
 z7 2 s l fun C s =>
 z4 s C fun E s =>
 zI [(.b false), (.n 0)] [(1, 1, E)] s fun F s =>
 z9 [(.b false), (.n 0)] s fun f s =>
 z6 2 s f F fun _ s =>
 z3 2 s f fun G s =>
 z3 2 s f fun H s =>
 z3 2 s c fun I s =>
 isoK (z4f φ) [H, I] s fun J s =>
 isoK (z1Q φ) [G, J] s fun m s =>
 kExt m 0 s fun K s =>
 kExt m 1 s fun M s =>
 z9 [(.b false), (.n 0)] s fun o s =>
 z9 [(.b false), (.n 0)] s fun N s =>
 z6 2 s o K fun _ s =>
 z6 2 s N M fun _ s =>
 z3 2 s c fun O s =>
 z3 2 s o fun P s =>
 isoK (zo φ) [O, P] s fun S s =>
 z6 2 s c S fun _ s =>
 kAdd e (ni 1) fun U =>
 y d c i k U s)
(z3 2 s c fun V s =>
 z6 2 s d V fun _ s =>
 z3 2 s d fun W _ =>
 retK false s W some)) φ u h g w (ni 0) s)) s0
def z36 (φ : Nat) : List D → Option D :=
fun as =>
(fun (s : LS) =>
 u1 as fun e F =>
 u0 F (
 z9 [(.b false), (.n 0), (.n 0)] s fun g s =>
 kLen e s fun G s =>
 kEql G (ni 0) fun H =>
 z5 H
(isoK (zd φ) [(ni 0)] s fun I s =>
 z6 3 s g I fun _ s =>
 z3 3 s g fun J _ =>
 retK false s (.tup [J, (.tree [] 0 true)]) some)
(isoK (z2L φ) [e] s fun K s =>
 isoK (z2F φ) [K] s fun M s =>
 isoK (zN φ) [e, M] s fun o s =>
 isoK (zj φ) [(ni 0)] s fun N s =>
 z9 [(.b false), (.n 0)] s fun p s =>
 z6 2 s p N fun _ s =>
 kLen o s fun O s =>
 lp (fun (_ _ _ _ _ _ : D) (_ : LS) => none) (fun (P : D → D → D → D → D → D → LS → Rs) (c h f u v i : D) (s : LS) =>
 kLss i v fun S =>
 z5 S
(z1 3 s u i fun U s =>
 z3 3 s U fun V s =>
 z9 [(.b false), (.n 0), (.n 0)] s fun w s =>
 z6 3 s w V fun _ s =>
 z3 2 s f fun W s =>
 z7 0 s w fun X s =>
 z3 2 s X fun Y s =>
 isoK (z4f φ) [W, Y] s fun Z s =>
 z6 2 s f Z fun _ s =>
 kAdd i (ni 1) fun bb =>
 P c h f u v bb s)
(z3 2 s f fun bc s =>
 isoK (z2F φ) [bc] s fun bd s =>
 isoK (z2L φ) [c] s fun bf s =>
 isoK (z2F φ) [bf] s fun bg s =>
 isoK (z3c φ) [bd, bg] s fun bh s =>
 z9 [(.b false), (.n 0), (.n 0)] s fun d s =>
 z6 3 s d bh fun _ s =>
 jn (fun (y bi bk : D) (s : LS) =>
 kLen y s fun bl s =>
 lp (fun (_ _ _ _ _ _ : D) (_ : LS) => none) (fun (bm : D → D → D → D → D → D → LS → Rs) (k l z A B m : D) (s : LS) =>
 kLss m B fun bn =>
 z5 bn
(z1 3 s A m fun bo s =>
 z3 3 s bo fun bp s =>
 z9 [(.b false), (.n 0), (.n 0)] s fun C s =>
 z6 3 s C bp fun _ s =>
 z3 3 s C fun bu s =>
 z3 3 s l fun bv s =>
 isoK (z3c φ) [bu, bv] s fun bw s =>
 zjK 0 2 bw s fun bz s =>
 kBsl 1 [(.b false), (.n 0)] [(0, 2, bz)] s fun bA s =>
 kApp 2 24 s z bA fun bB s =>
 kAdd m (ni 1) fun bC =>
 bm k l bB A B bC s)
(z3 3 s l fun bE s =>
 z6 3 s k bE fun _ s =>
 z3 3 s k fun bF _ =>
 retK false s (.tup [bF, z]) some)) φ bi bk (.tree [] 0 true) y bl (ni 0) s) fun E =>
 isoK (z1p φ) [c] s fun bG s =>
 isoK (z2V φ) [bG] s fun bH s =>
 kLss bH (ni 0) fun bI =>
 z5 bI
(z3 3 s d fun bJ s =>
 isoK (z3b φ) [bJ] s fun bK s =>
 z6 3 s d bK fun _ s =>
 E c h d s)
(E c h d s))) φ e g p o O (ni 0) s))) s0
def z5S (φ : Nat) : List D → Option D :=
fun as =>
(fun (s : LS) =>
 u1 as fun b c =>
 u0 c (
 kBox b s fun d s =>
 z7 0 s d fun e s =>
 z7 1 s e fun f s =>
 z4 s f fun g s =>
 kEql g (.n 0) fun h =>
 retK false s h some)) s0
def z2e (φ : Nat) : List D → Option D :=
fun as =>
(fun (s : LS) =>
 u1 as fun f g =>
 u1 g fun h k =>
 u0 k (
 kBox f s fun b s =>
 kBox h s fun c s =>
 z3 2 s b fun l s =>
 isoK (z3L φ) [l] s fun d s =>
 z3 2 s c fun m s =>
 isoK (z3L φ) [m] s fun e s =>
 kLss d e fun n =>
 z5 n
(retK false s (.i .i64 (.negSucc 0)) some)
(kGtr d e fun o =>
 z5 o
(retK false s (ni 1) some)
(kLss d (ni 0) fun p =>
 z5 p
(z7 1 s c fun u s =>
 z4 s u fun v s =>
 z7 1 s b fun w s =>
 z4 s w fun y s =>
 isoK (z2f φ) [v, y] s fun z s =>
 retK false s z some)
(z7 1 s b fun A s =>
 z4 s A fun B s =>
 z7 1 s c fun C s =>
 z4 s C fun E s =>
 isoK (z2f φ) [B, E] s fun F s =>
 retK false s F some))))) s0
def z59 (φ : Nat) : List D → Option D :=
fun as =>
(fun (s : LS) =>
 u1 as fun c h =>
 u1 h fun d k =>
 u0 k (
 kLen c s fun l s =>
 kLen d s fun m s =>
 kNeq l m fun n =>
 z5 n
(kLen c s fun o s =>
 kLen d s fun p s =>
 kLss o p fun u =>
 z5 u
(retK false s (.i .i64 (.negSucc 0)) some)
(retK false s (ni 1) some))
(lp (fun (_ _ _ : D) (_ : LS) => none) (fun (v : D → D → D → LS → Rs) (e f b : D) (s : LS) =>
 kLen e s fun w s =>
 kLss b w fun y =>
 z5 y
(z1 2 s e b fun z s =>
 z3 2 s z fun A s =>
 z1 2 s f b fun B s =>
 z3 2 s B fun C s =>
 isoK (z2e φ) [A, C] s fun g s =>
 kNeq g (ni 0) fun E =>
 z5 E
(retK false s g some)
(kAdd b (ni 1) fun F =>
 v e f F s))
(retK false s (ni 0) some)) φ c d (ni 0) s))) s0
def z5u (φ : Nat) : List D → LS → (D → LS → Rs) → Rs :=
fun as s k =>
 u1 as fun h i =>
 u1 i fun l m =>
 u1 m fun n o =>
 u0 o (
 zI [(.tree [] 0 true), (ni 0)] [(0, 1, l), (1, 1, n)] s fun p s =>
 kBsl 1 [(.tree [] 0 true), (ni 0)] [(0, 2, p)] s fun u s =>
 kApp 2 32 s h u fun g s =>
 kLen g s fun v s =>
 kSub v (ni 1) fun w =>
 lp (fun (_ _ : D) (_ : LS) => none) (fun (y : D → D → LS → Rs) (e f : D) (s : LS) =>
 kGtr f (ni 0) fun c =>
 z0 c true (fun k => k e s) s fun z s =>
 z0 c true (fun k => k f s) s fun A s =>
 z0 c true (fun k => z1 2 s z A k) s fun B s =>
 z0 c true (fun k => z7 0 s B k) s fun C s =>
 z0 c true (fun k => z4 s C k) s fun E s =>
 z0 c true (fun k => k e s) s fun F s =>
 z0 c true (fun k => k f s) s fun G s =>
 z0 c true (fun k => kSub G (ni 1) fun d => k d s) s fun H s =>
 z0 c true (fun k => z1 2 s F H k) s fun I s =>
 z0 c true (fun k => z7 0 s I k) s fun J s =>
 z0 c true (fun k => z4 s J k) s fun K s =>
 z0 c true (fun k => isoK (z59 φ) [E, K] s k) s fun M s =>
 z0 c true (fun k => kLss M (ni 0) fun d => k d s) s fun N s =>
 zp c N (.b false) s fun O s =>
 z5 O
(kSub f (ni 1) fun P =>
 kSub f (ni 1) fun S =>
 z1 2 s e S fun U s =>
 z3 2 s U fun V s =>
 z1 2 s e f fun W s =>
 z3 2 s W fun X s =>
 z1 2 s e f fun Y s =>
 z6 2 s Y V fun _ s =>
 z1 2 s e P fun Z s =>
 z6 2 s Z X fun _ s =>
 kSub f (ni 1) fun bb =>
 y e bb s)
(k e s)) φ g w s)
def z40 (φ : Nat) : List D → Option D :=
fun as =>
(fun (s : LS) =>
 u1 as fun b c =>
 u0 c (
 kBox b s fun d s =>
 z7 1 s d fun e s =>
 z4 s e fun f s =>
 kEql f (.n 0) fun g =>
 retK false s g some)) s0
def z1o (φ : Nat) : List D → Option D :=
fun as =>
(fun (s : LS) =>
 u1 as fun f g =>
 u0 g (
 lp (fun (_ : D) (_ : LS) => none) (fun (h : D → LS → Rs) (e : D) (s : LS) =>
 kLen e s fun i s =>
 kGtr i (ni 0) fun c =>
 z0 c true (fun k => k e s) s fun l s =>
 z0 c true (fun k => k e s) s fun m s =>
 z0 c true (fun k => kLen m s k) s fun n s =>
 z0 c true (fun k => kSub n (ni 1) fun d => k d s) s fun o s =>
 z0 c true (fun k => z1 2 s l o k) s fun p s =>
 z0 c true (fun k => z3 2 s p k) s fun u s =>
 z0 c true (fun k => isoK (z40 φ) [u] s k) s fun v s =>
 zp c v (.b false) s fun w s =>
 z5 w
(kLen e s fun y s =>
 kSub y (ni 1) fun z =>
 z23 2 s e none (some z) none fun A s =>
 h A s)
(retK false s e some)) φ f s)) s0
def z8K (φ : Nat) : List D → Option D :=
fun as =>
(fun (s : LS) =>
 u1 as fun f g =>
 u0 g (
 lp (fun (_ _ _ : D) (_ : LS) => none) (fun (h : D → D → D → LS → Rs) (c e d : D) (s : LS) =>
 kLen c s fun i s =>
 kLss d i fun k =>
 z5 k
(z1 1 s c d fun l s =>
 z4 s l fun m s =>
 isoK (zj φ) [m] s fun o s =>
 kBsl 1 [(.b false), (.n 0)] [(0, 2, o)] s fun p s =>
 kApp 2 24 s e p fun u s =>
 kAdd d (ni 1) fun v =>
 h c u v s)
(isoK (z1o φ) [e] s fun w s =>
 retK false s w some)) φ f (.tree [] 0 true) (ni 0) s)) s0
def z2G (φ : Nat) : List D → Option D :=
fun as =>
(fun (s : LS) =>
 u1 as fun b c =>
 u0 c (
 kLen b s fun d s =>
 kEql d (ni 0) fun e =>
 z5 e
(retK false s (.tree [] 0 true) some)
(isoK (z1p φ) [b] s fun f s =>
 isoK (z1E φ) [f] s fun g s =>
 isoK (zN φ) [b, g] s fun h s =>
 retK false s h some))) s0
def z1i (φ : Nat) : List D → Option D :=
fun as =>
(fun (s : LS) =>
 u1 as fun f g =>
 u1 g fun h i =>
 u0 i (
 kBox f s fun c s =>
 kBox h s fun d s =>
 z9 [(.b false), (.n 0)] s fun e s =>
 z7 0 s c fun k s =>
 z4 s k fun l s =>
 z7 0 s d fun m s =>
 z4 s m fun o s =>
 zeT .eql l o s fun p s =>
 z5 p
(z7 0 s c fun u s =>
 z4 s u fun v s =>
 z7 1 s c fun w s =>
 z4 s w fun y s =>
 z7 1 s d fun z s =>
 z4 s z fun A s =>
 isoK (z5C φ) [y, A] s fun B s =>
 isoK (z18 φ) [v, B] s fun C s =>
 z6 2 s e C fun _ s =>
 z3 2 s e fun E _ =>
 retK false s E some)
(z7 1 s c fun F s =>
 z4 s F fun G s =>
 z7 1 s d fun H s =>
 z4 s H fun I s =>
 isoK (z2f φ) [G, I] s fun J s =>
 kGeq J (ni 0) fun K =>
 z5 K
(z7 0 s c fun M s =>
 z4 s M fun N s =>
 z7 1 s c fun O s =>
 z4 s O fun P s =>
 z7 1 s d fun S s =>
 z4 s S fun U s =>
 isoK (z4g φ) [P, U] s fun V s =>
 isoK (z18 φ) [N, V] s fun W s =>
 z6 2 s e W fun _ s =>
 z3 2 s e fun X _ =>
 retK false s X some)
(z7 0 s d fun Y s =>
 z4 s Y fun Z s =>
 z7 1 s d fun bb s =>
 z4 s bb fun bc s =>
 z7 1 s c fun bd s =>
 z4 s bd fun bf s =>
 isoK (z4g φ) [bc, bf] s fun bg s =>
 isoK (z18 φ) [Z, bg] s fun bh s =>
 z6 2 s e bh fun _ s =>
 z3 2 s e fun bi _ =>
 retK false s bi some)))) s0
def z3d (φ : Nat) : List D → Option D :=
fun as =>
(fun (s : LS) =>
 u1 as fun i l =>
 u1 l fun m o =>
 u0 o (
 kBox i s fun c s =>
 kBox m s fun e s =>
 z9 [(.b false), (.n 0), (.n 0)] s fun f s =>
 z7 2 s c fun p s =>
 z4 s p fun u s =>
 kEql u (.n 1) fun g =>
 z0 g true (fun k => z7 2 s e k) s fun v s =>
 z0 g true (fun k => z4 s v k) s fun w s =>
 z0 g true (fun k => kEql w (.n 1) fun d => k d s) s fun y s =>
 zp g y (.b false) s fun z s =>
 z5 z
(z7 0 s c fun A s =>
 z3 2 s A fun B s =>
 z7 0 s e fun C s =>
 z3 2 s C fun E s =>
 isoK (z1i φ) [B, E] s fun F s =>
 isoK (z4C φ) [F] s fun G s =>
 z6 3 s f G fun _ s =>
 z3 3 s f fun H _ =>
 retK false s H some)
(z7 0 s c fun I s =>
 z3 2 s I fun J s =>
 z3 3 s e fun K s =>
 isoK (zA φ) [K] s fun M s =>
 isoK (zo φ) [J, M] s fun N s =>
 z7 0 s e fun O s =>
 z3 2 s O fun P s =>
 z3 3 s c fun S s =>
 isoK (zA φ) [S] s fun U s =>
 isoK (zo φ) [P, U] s fun V s =>
 isoK (z1i φ) [N, V] s fun W s =>
 z9 [(.b false), (.n 0)] s fun h s =>
 z6 2 s h W fun _ s =>
 z3 2 s h fun X s =>
 z3 3 s c fun Y s =>
 isoK (zA φ) [Y] s fun Z s =>
 z3 3 s e fun bb s =>
 isoK (zA φ) [bb] s fun bc s =>
 isoK (zo φ) [Z, bc] s fun bd s =>
 isoK (z3K φ) [X, bd] s fun bf s =>
 z6 3 s f bf fun _ s =>
 z3 3 s f fun bg _ =>
 retK false s bg some))) s0
def z62 (φ : Nat) : List D → Option D :=
fun as =>
(fun (s : LS) =>
 u1 as fun d f =>
 u1 f fun e g =>
 u0 g (
 z9 [(.b false), (.n 0), (.n 0)] s fun c s =>
 kLen d s fun h s =>
 kLss e h fun i =>
 z5 i
(z1 3 s d e fun k s =>
 z3 3 s k fun l s =>
 z6 3 s c l fun _ s =>
 z3 3 s c fun m _ =>
 retK false s m some)
(isoK (zd φ) [(ni 0)] s fun o s =>
 z6 3 s c o fun _ s =>
 z3 3 s c fun p _ =>
 retK false s p some))) s0
def z16 (φ : Nat) : List D → Option D :=
fun as =>
(fun (s : LS) =>
 u1 as fun h i =>
 u1 i fun k l =>
 u0 l (
 lp (fun (_ _ _ _ : D) (_ : LS) => none) (fun (m : D → D → D → D → LS → Rs) (e f g d : D) (s : LS) =>
 kLen e s fun o s =>
 kLen f s fun p s =>
 kS (.max (.c o) (.c p)) s fun u s =>
 kLss d u fun v =>
 z5 v
(isoK (z62 φ) [e, d] s fun w s =>
 isoK (z62 φ) [f, d] s fun y s =>
 isoK (z3d φ) [w, y] s fun z s =>
 kBsl 1 [(.b false), (.n 0), (.n 0)] [(0, 3, z)] s fun A s =>
 kApp 3 40 s g A fun B s =>
 kAdd d (ni 1) fun C =>
 m e f B C s)
(isoK (z17 φ) [g] s fun E s =>
 retK false s E some)) φ h k (.tree [] 0 true) (ni 0) s)) s0
def z1V (φ : Nat) : List D → Option D :=
fun as =>
(fun (s : LS) =>
 u1 as fun g h =>
 u1 h fun i k =>
 u0 k (
 kBox g s fun l s =>
 lp (fun (_ _ _ _ : D) (_ : LS) => none) (fun (m : D → D → D → D → LS → Rs) (c d e f : D) (s : LS) =>
 kLss f c fun o =>
 z5 o
(isoK (zd φ) [(ni 0)] s fun p s =>
 kBsl 1 [(.b false), (.n 0), (.n 0)] [(0, 3, p)] s fun u s =>
 kApp 3 40 s e u fun v s =>
 kAdd f (ni 1) fun w =>
 m c d v w s)
(z3 3 s d fun y s =>
 kBsl 1 [(.b false), (.n 0), (.n 0)] [(0, 3, y)] s fun z s =>
 kApp 3 40 s e z fun A s =>
 isoK (z17 φ) [A] s fun B s =>
 retK false s B some)) φ i l (.tree [] 0 true) (ni 0) s)) s0
def z2c (φ : Nat) : List D → Option D :=
fun as =>
(fun (s : LS) =>
 u1 as fun z A =>
 u1 A fun B C =>
 u0 C (
 lp (fun (_ _ _ _ : D) (_ : LS) => none) (fun (E : D → D → D → D → LS → Rs) (l p u v : D) (s : LS) =>
 kLen l s fun F s =>
 kLen p s fun G s =>
 kAdd F G fun H =>
 kSub H (ni 1) fun I =>
 kLss v I fun J =>
 z5 J
(isoK (zd φ) [(ni 0)] s fun K s =>
 z9 [(.b false), (.n 0), (.n 0)] s fun w s =>
 z6 3 s w K fun _ s =>
 kLen l s fun M s =>
 lp (fun (_ _ _ _ _ _ _ : D) (_ : LS) => none) (fun (N : D → D → D → D → D → D → D → LS → Rs) (i g m f h o c : D) (s : LS) =>
 kLss c o fun O =>
 z5 O
(jn (fun (P S U V W X Y : D) (s : LS) =>
 kAdd Y (ni 1) fun Z =>
 N P S U V W X Z s) fun y =>
 kSub f c fun bb =>
 kGeq bb (ni 0) fun e =>
 z0 e true (fun k => k f s) s fun bc s =>
 z0 e true (fun k => k c s) s fun bd s =>
 z0 e true (fun k => kSub bc bd fun d => k d s) s fun bf s =>
 z0 e true (fun k => k g s) s fun bg s =>
 z0 e true (fun k => kLen bg s k) s fun bh s =>
 z0 e true (fun k => kLss bf bh fun d => k d s) s fun bi s =>
 zp e bi (.b false) s fun bk s =>
 z5 bk
(z3 3 s h fun bl s =>
 z1 3 s i c fun bm s =>
 z3 3 s bm fun bn s =>
 kSub f c fun bo =>
 z1 3 s g bo fun bp s =>
 z3 3 s bp fun bu s =>
 isoK (z1h φ) [bn, bu] s fun bv s =>
 isoK (z3d φ) [bl, bv] s fun bw s =>
 z6 3 s h bw fun _ s =>
 y i g m f h o c s)
(y i g m f h o c s))
(z3 3 s h fun bz s =>
 kBsl 1 [(.b false), (.n 0), (.n 0)] [(0, 3, bz)] s fun bA s =>
 kApp 3 40 s m bA fun bB s =>
 kAdd f (ni 1) fun bC =>
 E i g bB bC s)) φ l p u v w M (ni 0) s)
(isoK (z17 φ) [u] s fun bE s =>
 retK false s bE some)) φ z B (.tree [] 0 true) (ni 0) s)) s0
def z39 (φ : Nat) : List D → Option D :=
fun as =>
(fun (s : LS) =>
 u1 as fun b c =>
 u1 c fun d e =>
 u0 e (
 isoK (zd φ) [(.i .i64 (.negSucc 0))] s fun f s =>
 isoK (zN φ) [d, f] s fun g s =>
 isoK (z16 φ) [b, g] s fun h s =>
 retK false s h some)) s0
def z32 (φ : Nat) : List D → Option D :=
fun as =>
(fun (s : LS) =>
 u1 as fun f g =>
 u1 g fun h i =>
 u0 i (
 isoK (z17 φ) [f] s fun k s =>
 lp (fun (_ _ _ : D) (_ : LS) => none) (fun (l : D → D → D → LS → Rs) (b d c : D) (s : LS) =>
 kLen c s fun m s =>
 kLen b s fun n s =>
 kGeq m n fun o =>
 z5 o
(isoK (z1p φ) [c] s fun p s =>
 isoK (z1p φ) [b] s fun u s =>
 isoK (z3c φ) [p, u] s fun v s =>
 kLen c s fun w s =>
 kLen b s fun y s =>
 kSub w y fun z =>
 isoK (z1V φ) [v, z] s fun e s =>
 isoK (z16 φ) [d, e] s fun A s =>
 isoK (z2c φ) [e, b] s fun B s =>
 isoK (z39 φ) [c, B] s fun C s =>
 l b A C s)
(retK false s (.tup [d, c]) some)) φ h (.tree [] 0 true) k s)) s0
def z4c (φ : Nat) : List D → Option D :=
fun as =>
(fun (s : LS) =>
 u1 as fun c d =>
 u1 d fun e f =>
 u0 f (
 isoK (z32 φ) [c, e] s fun b s =>
 kExt b 0 s fun h s =>
 kExt b 1 s fun g s =>
 retK false s g some)) s0
def z3a (φ : Nat) : List D → Option D :=
fun as =>
(fun (s : LS) =>
 u1 as fun d e =>
 u1 e fun f g =>
 u0 g (
 lp (fun (_ _ : D) (_ : LS) => none) (fun (h : D → D → LS → Rs) (c b : D) (s : LS) =>
 kLen b s fun i s =>
 kGtr i (ni 0) fun k =>
 z5 k
(isoK (z4c φ) [c, b] s fun l s =>
 isoK (z2G φ) [l] s fun m s =>
 h b m s)
(isoK (z2G φ) [c] s fun n s =>
 retK false s n some)) φ d f s)) s0
def z2U (φ : Nat) : List D → Option D :=
fun as =>
(fun (s : LS) =>
 u1 as fun f g =>
 u0 g (
 lp (fun (_ _ _ : D) (_ : LS) => none) (fun (h : D → D → D → LS → Rs) (d e c : D) (s : LS) =>
 kLen d s fun i s =>
 kLss c i fun k =>
 z5 k
(z1 3 s d c fun l s =>
 z3 3 s l fun m s =>
 isoK (zd φ) [c] s fun o s =>
 isoK (z1h φ) [m, o] s fun p s =>
 kBsl 1 [(.b false), (.n 0), (.n 0)] [(0, 3, p)] s fun u s =>
 kApp 3 40 s e u fun v s =>
 kAdd c (ni 1) fun w =>
 h d v w s)
(isoK (z17 φ) [e] s fun y s =>
 retK false s y some)) φ f (.tree [] 0 true) (ni 1) s)) s0
def z2H (φ : Nat) : List D → Option D :=
fun as =>
(fun (s : LS) =>
 u1 as fun c d =>
 u1 d fun e f =>
 u0 f (
 isoK (z32 φ) [c, e] s fun b s =>
 kExt b 0 s fun g s =>
 kExt b 1 s fun h s =>
 retK false s g some)) s0
def z3J (φ : Nat) : List D → Option D :=
fun as =>
(fun (s : LS) =>
 u1 as fun b c =>
 u0 c (
 isoK (z2U φ) [b] s fun d s =>
 isoK (z3a φ) [b, d] s fun e s =>
 isoK (z2H φ) [b, e] s fun f s =>
 isoK (z2G φ) [f] s fun g s =>
 retK false s g some)) s0
def z4b (φ : Nat) : List D → Option D :=
fun as =>
(fun (s : LS) =>
 u1 as fun n o =>
 u0 o (
 isoK (z2G φ) [n] s fun p s =>
 lp (fun (_ _ _ : D) (_ : LS) => none) (fun (u : D → D → D → LS → Rs) (c d g : D) (s : LS) =>
 kLen d s fun v s =>
 kGtr v (ni 1) fun w =>
 z5 w
(isoK (z3J φ) [d] s fun e s =>
 isoK (z2H φ) [d, e] s fun b s =>
 jn (fun (h f i k : D) (s : LS) =>
 jn (fun (y z A : D) (s : LS) =>
 kAdd z (ni 1) fun B =>
 u y A B s) fun l =>
 kLen k s fun C s =>
 kGtr C (ni 1) fun E =>
 z5 E
(zI [(.tree [] 0 true), (ni 0)] [(0, 1, k), (1, 1, f)] s fun F s =>
 kBsl 1 [(.tree [] 0 true), (ni 0)] [(0, 2, F)] s fun G s =>
 kApp 2 32 s h G fun H s =>
 l H f i s)
(l h f i s)) fun m =>
 kLen b s fun I s =>
 kGtr I (ni 1) fun J =>
 z5 J
(isoK (z3J φ) [b] s fun K s =>
 isoK (z2H φ) [e, K] s fun M s =>
 m c g b M s)
(m c g b e s))
(retK false s c some)) φ (.tree [] 0 true) p (ni 1) s)) s0
def z5e (φ : Nat) : List D → Option D :=
fun as =>
(fun (s : LS) =>
 u1 as fun e f =>
 u0 f (
 lp (fun (_ _ : D) (_ : LS) => none) (fun (g : D → D → LS → Rs) (c d : D) (s : LS) =>
 kMul d d fun h =>
 kLeq h c fun i =>
 z5 i
(kRem c d fun k =>
 kEql k (ni 0) fun l =>
 z5 l
(retK false s (.b false) some)
(kAdd d (ni 1) fun m =>
 g c m s))
(kGtr c (ni 1) fun n =>
 retK false s n some)) φ e (ni 2) s)) s0
def z6R (φ : Nat) : List D → Option D :=
fun as =>
(fun (s : LS) =>
 u1 as fun f h =>
 u0 h (
 kS (.lens (.c f)) s fun k s =>
 kGtr k (ni 8) fun l =>
 z5 l
(retK false s (.tup [(.i .u64 (.ofNat 0)), (.b false)]) some)
(lp (fun (_ _ _ : D) (_ : LS) => none) (fun (m : D → D → D → LS → Rs) (d g e : D) (s : LS) =>
 kS (.lens (.c d)) s fun n s =>
 kLss e n fun o =>
 z5 o
(kMul g (.i .u64 (.ofNat 256)) fun p =>
 kS (.index (.c d) (.c e)) s fun u s =>
 z2s .u64 u s fun v s =>
 kAdd p v fun w =>
 kAdd e (ni 1) fun y =>
 m d w y s)
(retK false s (.tup [g, (.b true)]) some)) φ f (.i .u64 (.ofNat 0)) (ni 0) s))) s0
def z6k (φ : Nat) : List D → Option D :=
fun as =>
(fun (s : LS) =>
 u1 as fun n o =>
 u0 o (
 kBox n s fun h s =>
 z7 1 s h fun p s =>
 z4 s p fun u s =>
 isoK (z6R φ) [u] s fun m s =>
 kExt m 0 s fun f s =>
 kExt m 1 s fun v s =>
 kNot v s fun l s =>
 z0 l false (fun k => k f s) s fun w s =>
 z0 l false (fun k => kGtr w (.i .u64 (.ofNat 9223372036854775808)) fun d => k d s) s fun y s =>
 zp l (.b true) y s fun e s =>
 z0 e false (fun k => k f s) s fun z s =>
 z0 e false (fun k => kEql z (.i .u64 (.ofNat 9223372036854775808)) fun d => k d s) s fun A s =>
 z0 e false (fun k => k A s) s fun g s =>
 z0 g true (fun k => z7 0 s h k) s fun B s =>
 z0 g true (fun k => z4 s B k) s fun C s =>
 z0 g true (fun k => kNot C s k) s fun E s =>
 z0 e false (fun k => zp g E (.b false) s k) s fun F s =>
 zp e (.b true) F s fun G s =>
 z5 G
(retK false s (.tup [(ni 0), (.b false)]) some)
(z7 0 s h fun H s =>
 z4 s H fun I s =>
 z5 I
(kSub f (.i .u64 (.ofNat 1)) fun J =>
 z2s .i64 J s fun K s =>
 kS (.neg (.c K)) s fun M s =>
 kSub M (ni 1) fun N =>
 retK false s (.tup [N, (.b true)]) some)
(z2s .i64 f s fun O s =>
 retK false s (.tup [O, (.b true)]) some)))) s0
def z3e (φ : Nat) : List D → Option D :=
fun as =>
(fun (s : LS) =>
 u1 as fun f g =>
 u1 g fun h i =>
 u0 i (
 kBox f s fun k s =>
 z3 2 s k fun l s =>
 isoK (zj φ) [h] s fun m s =>
 isoK (z1Q φ) [l, m] s fun c s =>
 kExt c 0 s fun o s =>
 kExt c 1 s fun p s =>
 z9 [(.b false), (.n 0)] s fun u s =>
 z9 [(.b false), (.n 0)] s fun d s =>
 z6 2 s u o fun _ s =>
 z6 2 s d p fun _ s =>
 z3 2 s d fun v s =>
 isoK (z6k φ) [v] s fun e s =>
 kExt e 0 s fun w s =>
 kExt e 1 s fun y s =>
 retK false s w some)) s0
def zL (φ : Nat) : List D → Option D :=
fun as =>
(fun (s : LS) =>
 u1 as fun f g =>
 u0 g (
 lp (fun (_ : D) (_ : LS) => none) (fun (h : D → LS → Rs) (e : D) (s : LS) =>
 kLen e s fun i s =>
 kGtr i (ni 0) fun c =>
 z0 c true (fun k => k e s) s fun l s =>
 z0 c true (fun k => k e s) s fun m s =>
 z0 c true (fun k => kLen m s k) s fun n s =>
 z0 c true (fun k => kSub n (ni 1) fun d => k d s) s fun o s =>
 z0 c true (fun k => z1 1 s l o k) s fun p s =>
 z0 c true (fun k => z4 s p k) s fun u s =>
 z0 c true (fun k => kEql u (ni 0) fun d => k d s) s fun v s =>
 zp c v (.b false) s fun w s =>
 z5 w
(kLen e s fun y s =>
 kSub y (ni 1) fun z =>
 z23 1 s e none (some z) none fun A s =>
 h A s)
(retK false s e some)) φ f s)) s0
def z3Y (φ : Nat) : List D → Option D :=
fun as =>
(fun (s : LS) =>
 u1 as fun f g =>
 u1 g fun h i =>
 u0 i (
 lp (fun (_ _ _ _ : D) (_ : LS) => none) (fun (k : D → D → D → D → LS → Rs) (d b e c : D) (s : LS) =>
 kLen b s fun l s =>
 kLss c l fun m =>
 z5 m
(z1 2 s b c fun n s =>
 z3 2 s n fun o s =>
 isoK (z3e φ) [o, d] s fun p s =>
 kBsl 1 [(ni 0)] [(0, 1, p)] s fun u s =>
 kApp 1 8 s e u fun v s =>
 kAdd c (ni 1) fun w =>
 k d b v w s)
(isoK (zL φ) [e] s fun y s =>
 retK false s y some)) φ f h (.tree [] 0 true) (ni 0) s)) s0
def z1T (φ : Nat) : List D → Option D :=
fun as =>
(fun (s : LS) =>
 u1 as fun d e =>
 u0 e (
 z9 [(.b false), (.n 0)] s fun c s =>
 kLen d s fun f s =>
 kEql f (ni 0) fun g =>
 z5 g
(zI [(.b false), (.n 0)] [] s fun h s =>
 z6 2 s c h fun _ s =>
 z3 2 s c fun i _ =>
 retK false s i some)
(kLen d s fun k s =>
 kSub k (ni 1) fun l =>
 z1 2 s d l fun m s =>
 z3 2 s m fun o s =>
 z6 2 s c o fun _ s =>
 z3 2 s c fun p _ =>
 retK false s p some))) s0
def z2T (φ : Nat) : List D → Option D :=
fun as =>
(fun (s : LS) =>
 u1 as fun f g =>
 u1 g fun h i =>
 u0 i (
 lp (fun (_ _ _ _ : D) (_ : LS) => none) (fun (k : D → D → D → D → LS → Rs) (c d e b : D) (s : LS) =>
 kLen d s fun l s =>
 kLss b l fun m =>
 z5 m
(kRem b c fun n =>
 z1 1 s d b fun o s =>
 z4 s o fun p s =>
 kMul n p fun u =>
 kRem u c fun v =>
 kBsl 1 [(ni 0)] [(0, 1, v)] s fun w s =>
 kApp 1 8 s e w fun y s =>
 kAdd b (ni 1) fun z =>
 k c d y z s)
(isoK (zL φ) [e] s fun A s =>
 retK false s A some)) φ f h (.tree [] 0 true) (ni 1) s)) s0
def z4d (φ : Nat) : List D → Option D :=
fun as =>
(fun (s : LS) =>
 u1 as fun c d =>
 u1 d fun b e =>
 u0 e (
 kRem c b fun f =>
 kAdd f b fun g =>
 kRem g b fun h =>
 retK false s h some)) s0
def z2d (φ : Nat) : List D → Option D :=
fun as =>
(fun (s : LS) =>
 u1 as fun i k =>
 u1 k fun c l =>
 u0 l (
 isoK (z4d φ) [i, c] s fun m s =>
 lp (fun (_ _ _ _ _ : D) (_ : LS) => none) (fun (n : D → D → D → D → D → LS → Rs) (d e b f g : D) (s : LS) =>
 kGtr b (ni 0) fun o =>
 z5 o
(kQuo e b fun h =>
 kMul h b fun p =>
 kSub e p fun u =>
 kMul h g fun v =>
 kSub f v fun w =>
 n d b u g w s)
(isoK (z4d φ) [f, d] s fun y s =>
 retK false s y some)) φ c c m (ni 0) (ni 1) s)) s0
def z3H (φ : Nat) : List D → Option D :=
fun as =>
(fun (s : LS) =>
 u1 as fun b c =>
 u0 c (
 kBsl 0 [(ni 0)] [] s fun d s =>
 kApp 1 8 s d b fun e s =>
 retK true s e some)) s0
def z31 (φ : Nat) : List D → Option D :=
fun as =>
(fun (s : LS) =>
 u1 as fun o F =>
 u1 F fun p G =>
 u1 G fun h H =>
 u0 H (
 isoK (z3H φ) [p] s fun I s =>
 kLen h s fun J s =>
 kSub J (ni 1) fun i =>
 kLen p s fun K s =>
 kSub K i fun M =>
 kS (.max (.c (ni 0)) (.c M)) s fun u s =>
 z24 1 8 [(ni 0)] s u u fun v s =>
 z1 1 s h i fun N s =>
 z4 s N fun O s =>
 isoK (z2d φ) [O, o] s fun P s =>
 kLen v s fun S s =>
 kSub S (ni 1) fun U =>
 lp (fun (_ _ _ _ _ _ _ : D) (_ : LS) => none) (fun (V : D → D → D → D → D → D → D → LS → Rs) (w W k y l z d : D) (s : LS) =>
 kGeq d (ni 0) fun X =>
 z5 X
(kAdd d y fun Y =>
 z1 1 s k Y fun Z s =>
 z4 s Z fun bb s =>
 kMul bb z fun bc =>
 kRem bc w fun A =>
 z1 1 s l d fun bd s =>
 z6 1 s bd A fun _ s =>
 lp (fun (_ _ _ _ _ _ _ _ _ : D) (_ : LS) => none) (fun (bf : D → D → D → D → D → D → D → D → D → LS → Rs) (e m f n B C g E b : D) (s : LS) =>
 kLeq b n fun bg =>
 z5 bg
(kAdd g b fun bh =>
 kAdd g b fun bi =>
 z1 1 s f bi fun bk s =>
 z4 s bk fun bl s =>
 kSub e E fun bm =>
 z1 1 s m b fun bn s =>
 z4 s bn fun bo s =>
 kMul bm bo fun bp =>
 kAdd bl bp fun bu =>
 kRem bu e fun bv =>
 z1 1 s f bh fun bw s =>
 z6 1 s bw bv fun _ s =>
 kAdd b (ni 1) fun bz =>
 bf e m f n B C g E bz s)
(kSub g (ni 1) fun bA =>
 V e m f n B C bA s)) φ w W k y l z d A (ni 0) s)
(isoK (zL φ) [l] s fun bB s =>
 isoK (zL φ) [k] s fun bC s =>
 retK false s (.tup [bB, bC]) some)) φ o h I i v P U s)) s0
def z15 (φ : Nat) : List D → Option D :=
fun as =>
(fun (s : LS) =>
 u1 as fun c d =>
 u1 d fun e f =>
 u1 f fun g h =>
 u0 h (
 isoK (z31 φ) [c, e, g] s fun b s =>
 kExt b 0 s fun k s =>
 kExt b 1 s fun i s =>
 retK false s i some)) s0
def z3G (φ : Nat) : List D → Option D :=
fun as =>
(fun (s : LS) =>
 u1 as fun b c =>
 u0 c (
 kLen b s fun d s =>
 kEql d (ni 0) fun e =>
 z5 e
(retK false s (ni 0) some)
(kLen b s fun f s =>
 kSub f (ni 1) fun g =>
 z1 1 s b g fun h s =>
 z4 s h fun i s =>
 retK false s i some))) s0
def z2a (φ : Nat) : List D → Option D :=
fun as =>
(fun (s : LS) =>
 u1 as fun d g =>
 u1 g fun h i =>
 u1 i fun k l =>
 u0 l (
 isoK (z4d φ) [k, d] s fun m s =>
 isoK (z3H φ) [h] s fun n s =>
 lp (fun (_ _ _ _ : D) (_ : LS) => none) (fun (o : D → D → D → D → LS → Rs) (e f b c : D) (s : LS) =>
 kLen b s fun p s =>
 kLss c p fun u =>
 z5 u
(z1 1 s b c fun v s =>
 z4 s v fun w s =>
 kMul w f fun y =>
 kRem y e fun z =>
 z1 1 s b c fun A s =>
 z6 1 s A z fun _ s =>
 kAdd c (ni 1) fun B =>
 o e f b B s)
(isoK (zL φ) [b] s fun C s =>
 retK false s C some)) φ d m n (ni 0) s)) s0
def z4A (φ : Nat) : List D → Option D :=
fun as =>
(fun (s : LS) =>
 u1 as fun c d =>
 u1 d fun b e =>
 u0 e (
 kLen b s fun f s =>
 kEql f (ni 0) fun g =>
 z5 g
(retK false s (.tree [] 0 true) some)
(isoK (z3G φ) [b] s fun h s =>
 isoK (z2d φ) [h, c] s fun i s =>
 isoK (z2a φ) [c, b, i] s fun k s =>
 retK false s k some))) s0
def z49 (φ : Nat) : List D → Option D :=
fun as =>
(fun (s : LS) =>
 u1 as fun e f =>
 u1 f fun g h =>
 u1 h fun i k =>
 u0 k (
 lp (fun (_ _ _ : D) (_ : LS) => none) (fun (l : D → D → D → LS → Rs) (b d c : D) (s : LS) =>
 kLen c s fun m s =>
 kGtr m (ni 0) fun n =>
 z5 n
(isoK (z15 φ) [b, d, c] s fun o s =>
 l b c o s)
(isoK (z4A φ) [b, d] s fun p s =>
 retK false s p some)) φ e g i s)) s0
def z3t (φ : Nat) : List D → Option D :=
fun as =>
(fun (s : LS) =>
 u1 as fun b d =>
 u1 d fun c e =>
 u0 e (
 isoK (z2T φ) [b, c] s fun f s =>
 isoK (z49 φ) [b, c, f] s fun g s =>
 kLen g s fun h s =>
 kEql h (ni 1) fun i =>
 retK false s i some)) s0
def z4T (φ : Nat) : List D → Option D :=
fun as =>
(fun (s : LS) =>
 u1 as fun d e =>
 u1 e fun c f =>
 u0 f (
 isoK (z1T φ) [d] s fun g s =>
 isoK (z3e φ) [g, c] s fun h s =>
 kEql h (ni 0) fun i =>
 z5 i
(retK false s (.b false) some)
(isoK (z3Y φ) [c, d] s fun k s =>
 isoK (z3t φ) [c, k] s fun l s =>
 retK false s l some))) s0
def z6K (φ : Nat) : List D → Option D :=
fun as =>
(fun (s : LS) =>
 u1 as fun f g =>
 u1 g fun h i =>
 u0 i (
 lp (fun (_ _ _ _ : D) (_ : LS) => none) (fun (k : D → D → D → D → LS → Rs) (d b e c : D) (s : LS) =>
 kLen b s fun l s =>
 kLss c l fun m =>
 z5 m
(z1 1 s b c fun n s =>
 z4 s n fun o s =>
 kBsl 1 [(ni 0)] [(0, 1, o)] s fun p s =>
 kApp 1 8 s e p fun u s =>
 kAdd c d fun v =>
 k d b u v s)
(retK false s e some)) φ f h (.tree [] 0 true) (ni 0) s)) s0
def z4a (φ : Nat) : List D → Option D :=
fun as =>
(fun (s : LS) =>
 u1 as fun c d =>
 u1 d fun e f =>
 u1 f fun g h =>
 u0 h (
 isoK (z31 φ) [c, e, g] s fun b s =>
 kExt b 0 s fun i s =>
 kExt b 1 s fun k s =>
 retK false s i some)) s0
def z2E (φ : Nat) : List D → Option D :=
fun as =>
(fun (s : LS) =>
 u1 as fun w y =>
 u1 y fun i z =>
 u1 z fun l A =>
 u0 A (
 kLen i s fun B s =>
 kEql B (ni 0) fun f =>
 z0 f false (fun k => k l s) s fun C s =>
 z0 f false (fun k => kLen C s k) s fun E s =>
 z0 f false (fun k => kEql E (ni 0) fun d => k d s) s fun F s =>
 zp f (.b true) F s fun G s =>
 z5 G
(retK false s (.tree [] 0 true) some)
(kLen i s fun H s =>
 kLen l s fun I s =>
 kAdd H I fun J =>
 kSub J (ni 1) fun o =>
 z24 1 8 [(ni 0)] s o o fun K s =>
 lp (fun (_ _ _ _ _ : D) (_ : LS) => none) (fun (M : D → D → D → D → D → LS → Rs) (N p O u v : D) (s : LS) =>
 kLen p s fun P s =>
 kLss v P fun S =>
 z5 S
(lp (fun (_ _ _ _ _ _ : D) (_ : LS) => none) (fun (U : D → D → D → D → D → D → LS → Rs) (m n g h c e : D) (s : LS) =>
 kLen g s fun V s =>
 kLss e V fun W =>
 z5 W
(kAdd c e fun X =>
 kAdd c e fun Y =>
 z1 1 s h Y fun Z s =>
 z4 s Z fun bb s =>
 z1 1 s n c fun bc s =>
 z4 s bc fun bd s =>
 z1 1 s g e fun bf s =>
 z4 s bf fun bg s =>
 kMul bd bg fun bh =>
 kAdd bb bh fun bi =>
 kRem bi m fun bk =>
 z1 1 s h X fun bl s =>
 z6 1 s bl bk fun _ s =>
 kAdd e (ni 1) fun bm =>
 U m n g h c bm s)
(kAdd c (ni 1) fun bn =>
 M m n g h bn s)) φ N p O u v (ni 0) s)
(isoK (zL φ) [u] s fun bo s =>
 retK false s bo some)) φ w i l K (ni 0) s))) s0
def z30 (φ : Nat) : List D → Option D :=
fun as =>
(fun (s : LS) =>
 u1 as fun b c =>
 u1 c fun d e =>
 u1 e fun f g =>
 u1 g fun h i =>
 u0 i (
 isoK (z2E φ) [b, d, f] s fun k s =>
 isoK (z15 φ) [b, k, h] s fun l s =>
 retK false s l some)) s0
def z5Q (φ : Nat) : List D → Option D :=
fun as =>
(fun (s : LS) =>
 u1 as fun k w =>
 u1 w fun y z =>
 u1 z fun A B =>
 u1 B fun l C =>
 u0 C (
 kBsl 1 [(ni 0)] [(0, 1, (ni 1))] s fun E s =>
 isoK (z15 φ) [k, E, l] s fun F s =>
 isoK (z15 φ) [k, y, l] s fun G s =>
 lp (fun (_ _ _ _ _ _ : D) (_ : LS) => none) (fun (H : D → D → D → D → D → D → LS → Rs) (I J n K o p : D) (s : LS) =>
 kS (.lens (.c n)) s fun M s =>
 kLss p M fun N =>
 z5 N
(lp (fun (_ _ _ _ _ _ _ : D) (_ : LS) => none) (fun (O : D → D → D → D → D → D → D → LS → Rs) (b e f d m g h : D) (s : LS) =>
 kGeq h (ni 0) fun P =>
 z5 P
(jn (fun (S U V W X Y Z : D) (s : LS) =>
 kSub Z (ni 1) fun bb =>
 O S U V W X Y bb s) fun u =>
 isoK (z30 φ) [b, m, m, d] s fun v s =>
 kS (.index (.c f) (.c g)) s fun bc s =>
 kShr bc h fun bd =>
 kRem bd (.i .u8 (.ofNat 2)) fun bf =>
 kEql bf (.i .u8 (.ofNat 1)) fun bg =>
 z5 bg
(isoK (z30 φ) [b, v, e, d] s fun bh s =>
 u b e f d bh g h s)
(u b e f d v g h s))
(kAdd g (ni 1) fun bi =>
 H b e f d m bi s)) φ I J n K o p (ni 7) s)
(retK false s o some)) φ k G A l F (ni 0) s)) s0
def z9k (φ : Nat) : List D → Option D :=
fun as =>
(fun (s : LS) =>
 u0 as (
 kBsl 2 [(ni 0)] [(0, 1, (ni 0)), (1, 1, (ni 1))] s fun b s =>
 retK false s b some)) s0
def z5i (φ : Nat) : List D → Option D :=
fun as =>
(fun (s : LS) =>
 u1 as fun b c =>
 u0 c (
 z2s .u64 b s fun d s =>
 isoK (z2X φ) [d] s fun e s =>
 retK false s e some)) s0
def z6h (φ : Nat) : List D → Option D :=
fun as =>
(fun (s : LS) =>
 u1 as fun u bp =>
 u1 bp fun v bu =>
 u0 bu (
 kLen v s fun bv s =>
 kSub bv (ni 1) fun bw =>
 isoK (z9k φ) [] s fun bz s =>
 isoK (z5i φ) [u] s fun bA s =>
 isoK (z5Q φ) [u, bz, bA, v] s fun bB s =>
 kBsl 1 [(ni 0)] [(0, 1, (ni 1))] s fun bC s =>
 isoK (z15 φ) [u, bC, v] s fun bE s =>
 lp (fun (_ _ _ _ _ _ _ : D) (_ : LS) => none) (fun (bF : D → D → D → D → D → D → D → LS → Rs) (Y bG w Z bH bI bb : D) (s : LS) =>
 kLss bb w fun bJ =>
 z5 bJ
(kMul (ni 2) w fun bc =>
 z24 1 8 [(ni 0)] s bc bc fun bK s =>
 lp (fun (_ _ _ _ _ _ _ _ _ : D) (_ : LS) => none) (fun (bM : D → D → D → D → D → D → D → D → D → LS → Rs) (i E F bd G y l g z : D) (s : LS) =>
 kLen y s fun bN s =>
 kLss z bN fun bO =>
 z5 bO
(z1 1 s y z fun bP s =>
 z4 s bP fun bS s =>
 z1 1 s g z fun bU s =>
 z6 1 s bU bS fun _ s =>
 kAdd z (ni 1) fun bV =>
 bM i E F bd G y l g bV s)
(z1 1 s g l fun bW s =>
 z4 s bW fun bX s =>
 kAdd bX i fun bY =>
 kSub bY (ni 1) fun bZ =>
 kRem bZ i fun cb =>
 z1 1 s g l fun cc s =>
 z6 1 s cc cb fun _ s =>
 kAdd F l fun cd =>
 z1 1 s g cd fun ce s =>
 z6 1 s ce (ni 1) fun _ s =>
 kBsl 1 [(.tree [] 0 true)] [(0, 1, g)] s fun cf s =>
 kApp 1 24 s bd cf fun cg s =>
 isoK (z30 φ) [i, y, G, E] s fun ch s =>
 kAdd l (ni 1) fun ci =>
 bF i E F cg G ch ci s)) φ Y bG w Z bH bI bb bK (ni 0) s)
(lp (fun (_ _ _ _ _ : D) (_ : LS) => none) (fun (ck : D → D → D → D → D → LS → Rs) (cl H bf I bg : D) (s : LS) =>
 kLss bg H fun cm =>
 z5 cm
(jn (fun (cn co cp cu cv : D) (s : LS) =>
 kAdd cv (ni 1) fun cw =>
 ck cn co cp cu cw s) fun bh =>
 lp (fun (_ _ _ _ _ _ : D) (_ : LS) => none) (fun (cy : D → D → D → D → D → D → LS → Rs) (A m c f n h : D) (s : LS) =>
 kLss h m fun e =>
 z0 e true (fun k => k c s) s fun cz s =>
 z0 e true (fun k => k h s) s fun cA s =>
 z0 e true (fun k => z1 1 s cz cA k) s fun cB s =>
 z0 e true (fun k => z4 s cB k) s fun cC s =>
 z0 e true (fun k => k n s) s fun cE s =>
 z0 e true (fun k => z1 1 s cC cE k) s fun cF s =>
 z0 e true (fun k => z4 s cF k) s fun cG s =>
 z0 e true (fun k => kEql cG (ni 0) fun d => k d s) s fun cH s =>
 zp e cH (.b false) s fun cI s =>
 z5 cI
(kAdd h (ni 1) fun cJ =>
 cy A m c f n cJ s)
(kEql h m fun cK =>
 z5 cK
(bh A m c f n s)
(z1 1 s c h fun cM s =>
 z4 s cM fun cN s =>
 z1 1 s c f fun cO s =>
 z4 s cO fun cP s =>
 z1 1 s c f fun cS s =>
 z6 1 s cS cN fun _ s =>
 z1 1 s c h fun cU s =>
 z6 1 s cU cP fun _ s =>
 z1 1 s c f fun cV s =>
 z4 s cV fun cW s =>
 z1 1 s cW n fun cX s =>
 z4 s cX fun cY s =>
 isoK (z2d φ) [cY, A] s fun cZ s =>
 kAdd f (ni 1) fun db =>
 lp (fun (_ _ _ _ _ _ _ : D) (_ : LS) => none) (fun (dc : D → D → D → D → D → D → D → LS → Rs) (J K M bi N bk O : D) (s : LS) =>
 kLss O K fun dd =>
 z5 dd
(z1 1 s M O fun de s =>
 z4 s de fun df s =>
 z1 1 s df N fun dg s =>
 z4 s dg fun dh s =>
 kMul dh bk fun di =>
 kRem di J fun dk =>
 lp (fun (_ _ _ _ _ _ _ _ _ : D) (_ : LS) => none) (fun (dl : D → D → D → D → D → D → D → D → D → LS → Rs) (B P o S bl bm C U p : D) (s : LS) =>
 kMul (ni 2) P fun dm =>
 kLss p dm fun V =>
 z0 V true (fun k => k U s) s fun dn s =>
 z0 V true (fun k => kGtr dn (ni 0) fun d => k d s) s fun dp s =>
 zp V dp (.b false) s fun du s =>
 z5 du
(z1 1 s o C fun dv s =>
 z4 s dv fun dw s =>
 z1 1 s o C fun dy s =>
 z4 s dy fun dz s =>
 z1 1 s dz p fun dA s =>
 z4 s dA fun dB s =>
 kSub B U fun dC =>
 z1 1 s o S fun dE s =>
 z4 s dE fun dF s =>
 z1 1 s dF p fun dG s =>
 z4 s dG fun dH s =>
 kMul dC dH fun dI =>
 kAdd dB dI fun dJ =>
 kRem dJ B fun dK =>
 z1 1 s dw p fun dM s =>
 z6 1 s dM dK fun _ s =>
 kAdd p (ni 1) fun dN =>
 dl B P o S bl bm C U dN s)
(kAdd C (ni 1) fun dO =>
 dc B P o S bl bm dO s)) φ J K M bi N bk O dk (ni 0) s)
(kAdd bi (ni 1) fun dP =>
 bh J K M dP N s)) φ A m c f n cZ db s))) φ cl H bf I bg I s)
(lp (fun (_ _ _ _ : D) (_ : LS) => none) (fun (dS : D → D → D → D → LS → Rs) (W bn bo X : D) (s : LS) =>
 kLss X W fun dU =>
 z5 dU
(z1 1 s bn X fun dV s =>
 z4 s dV fun dW s =>
 z23 1 s dW (some W) none none fun dX s =>
 isoK (z3H φ) [dX] s fun dY s =>
 isoK (zL φ) [dY] s fun dZ s =>
 kBsl 1 [(.tree [] 0 true)] [(0, 1, dZ)] s fun eb s =>
 kApp 1 24 s bo eb fun ec s =>
 kAdd X (ni 1) fun ed =>
 dS W bn ec ed s)
(retK false s bo some)) φ H bf (.tree [] 0 true) I s)) φ Y w Z (ni 0) (ni 0) s)) φ u v bw (.tree [] 0 true) bB bE (ni 0) s)) s0
def z7Q (φ : Nat) : List D → Option D :=
fun as =>
(fun (s : LS) =>
 u1 as fun A B =>
 u1 B fun l C =>
 u1 C fun m E =>
 u0 E (
 kLen l s fun F s =>
 kLen m s fun G s =>
 kS (.max (.c F) (.c G)) s fun n s =>
 z24 1 8 [(ni 0)] s n n fun H s =>
 lp (fun (_ _ _ _ _ : D) (_ : LS) => none) (fun (I : D → D → D → D → D → LS → Rs) (o f p d b : D) (s : LS) =>
 kLen d s fun J s =>
 kLss b J fun K =>
 z5 K
(jn (fun (u v g h e : D) (s : LS) =>
 jn (fun (w M N i k : D) (s : LS) =>
 z1 1 s i k fun O s =>
 z4 s O fun P s =>
 kRem P w fun S =>
 z1 1 s i k fun U s =>
 z6 1 s U S fun _ s =>
 kAdd k (ni 1) fun V =>
 I w M N i V s) fun y =>
 kLen g s fun W s =>
 kLss e W fun X =>
 z5 X
(z1 1 s h e fun Y s =>
 z4 s Y fun Z s =>
 z1 1 s g e fun bb s =>
 z4 s bb fun bc s =>
 kAdd Z bc fun bd =>
 z1 1 s h e fun bf s =>
 z6 1 s bf bd fun _ s =>
 y u v g h e s)
(y u v g h e s)) fun z =>
 kLen f s fun bg s =>
 kLss b bg fun bh =>
 z5 bh
(z1 1 s d b fun bi s =>
 z4 s bi fun bk s =>
 z1 1 s f b fun bl s =>
 z4 s bl fun bm s =>
 kAdd bk bm fun bn =>
 z1 1 s d b fun bo s =>
 z6 1 s bo bn fun _ s =>
 z o f p d b s)
(z o f p d b s))
(isoK (zL φ) [d] s fun bp s =>
 retK false s bp some)) φ A l m H (ni 0) s)) s0
def z48 (φ : Nat) : List D → Option D :=
fun as =>
(fun (s : LS) =>
 u1 as fun b c =>
 u1 c fun d e =>
 u1 e fun f g =>
 u0 g (
 isoK (z2a φ) [b, f, (.i .i64 (.negSucc 0))] s fun h s =>
 isoK (z7Q φ) [b, d, h] s fun k s =>
 retK false s k some)) s0
def z3I (φ : Nat) : List D → Option D :=
fun as =>
(fun (s : LS) =>
 u1 as fun d g =>
 u1 g fun e h =>
 u0 h (
 kLen d s fun k s =>
 kLen e s fun l s =>
 kNeq k l fun m =>
 z5 m
(kLen d s fun n s =>
 kLen e s fun o s =>
 kLss n o fun p =>
 z5 p
(retK false s (.i .i64 (.negSucc 0)) some)
(retK false s (ni 1) some))
(lp (fun (_ _ _ : D) (_ : LS) => none) (fun (u : D → D → D → LS → Rs) (c f b : D) (s : LS) =>
 kLen c s fun v s =>
 kLss b v fun w =>
 z5 w
(z1 1 s c b fun y s =>
 z4 s y fun z s =>
 z1 1 s f b fun A s =>
 z4 s A fun B s =>
 kLss z B fun C =>
 z5 C
(retK false s (.i .i64 (.negSucc 0)) some)
(z1 1 s c b fun E s =>
 z4 s E fun F s =>
 z1 1 s f b fun G s =>
 z4 s G fun H s =>
 kGtr F H fun I =>
 z5 I
(retK false s (ni 1) some)
(kAdd b (ni 1) fun J =>
 u c f J s)))
(retK false s (ni 0) some)) φ d e (ni 0) s))) s0
def z6L (φ : Nat) : List D → Option D :=
fun as =>
(fun (s : LS) =>
 u1 as fun o p =>
 u0 p (
 lp (fun (_ _ _ : D) (_ : LS) => none) (fun (u : D → D → D → LS → Rs) (g i h : D) (s : LS) =>
 kLen g s fun v s =>
 kLss h v fun w =>
 z5 w
(z1 1 s g h fun y s =>
 z4 s y fun z s =>
 kBsl 1 [(.tree [] 0 true)] [(0, 1, z)] s fun A s =>
 kApp 1 24 s i A fun l s =>
 kLen l s fun B s =>
 kSub B (ni 1) fun C =>
 lp (fun (_ _ _ _ : D) (_ : LS) => none) (fun (E : D → D → D → D → LS → Rs) (m e n f : D) (s : LS) =>
 kGtr f (ni 0) fun c =>
 z0 c true (fun k => k e s) s fun F s =>
 z0 c true (fun k => k f s) s fun G s =>
 z0 c true (fun k => z1 1 s F G k) s fun H s =>
 z0 c true (fun k => z4 s H k) s fun I s =>
 z0 c true (fun k => k e s) s fun J s =>
 z0 c true (fun k => k f s) s fun K s =>
 z0 c true (fun k => kSub K (ni 1) fun d => k d s) s fun M s =>
 z0 c true (fun k => z1 1 s J M k) s fun N s =>
 z0 c true (fun k => z4 s N k) s fun O s =>
 z0 c true (fun k => isoK (z3I φ) [I, O] s k) s fun P s =>
 z0 c true (fun k => kLss P (ni 0) fun d => k d s) s fun S s =>
 zp c S (.b false) s fun U s =>
 z5 U
(kSub f (ni 1) fun V =>
 kSub f (ni 1) fun W =>
 z1 1 s e W fun X s =>
 z4 s X fun Y s =>
 z1 1 s e f fun Z s =>
 z4 s Z fun bb s =>
 z1 1 s e f fun bc s =>
 z6 1 s bc Y fun _ s =>
 z1 1 s e V fun bd s =>
 z6 1 s bd bb fun _ s =>
 kSub f (ni 1) fun bf =>
 E m e n bf s)
(kAdd n (ni 1) fun bg =>
 u m e bg s)) φ g l h C s)
(retK false s i some)) φ o (.tree [] 0 true) (ni 0) s)) s0
def z6g (φ : Nat) : List D → Option D :=
fun as =>
(fun (s : LS) =>
 u1 as fun z I =>
 u1 I fun A J =>
 u0 J (
 isoK (z6h φ) [z, A] s fun K s =>
 kBsl 1 [(.tree [] 0 true)] [(0, 1, A)] s fun M s =>
 lp (fun (_ _ _ _ : D) (_ : LS) => none) (fun (N : D → D → D → D → LS → Rs) (O m n B : D) (s : LS) =>
 kLen m s fun P s =>
 kLss B P fun e =>
 z0 e true (fun k => k n s) s fun S s =>
 z0 e true (fun k => kLen S s k) s fun U s =>
 z0 e true (fun k => k m s) s fun V s =>
 z0 e true (fun k => kLen V s k) s fun W s =>
 z0 e true (fun k => kLss U W fun d => k d s) s fun X s =>
 zp e X (.b false) s fun Y s =>
 z5 Y
(lp (fun (_ _ _ _ _ _ : D) (_ : LS) => none) (fun (Z : D → D → D → D → D → D → LS → Rs) (C E o F G p : D) (s : LS) =>
 kLen o s fun bb s =>
 kLss p bb fun bc =>
 z5 bc
(z1 1 s o p fun bd s =>
 z4 s bd fun bf s =>
 lp (fun (_ _ _ _ _ _ _ _ : D) (_ : LS) => none) (fun (bg : D → D → D → D → D → D → D → D → LS → Rs) (c f u g v w h i : D) (s : LS) =>
 kLss i c fun l =>
 z0 l true (fun k => k h s) s fun bh s =>
 z0 l true (fun k => kLen bh s k) s fun bi s =>
 z0 l true (fun k => kGtr bi (ni 1) fun d => k d s) s fun bk s =>
 zp l bk (.b false) s fun bl s =>
 z5 bl
(jn (fun (bm bn bo bp bu bv bw bz : D) (s : LS) =>
 kAdd bz (ni 1) fun bA =>
 bg bm bn bo bp bu bv bw bA s) fun H =>
 z1 1 s f g fun bB s =>
 z4 s bB fun bC s =>
 kBsl 1 [(ni 0)] [(0, 1, i)] s fun bE s =>
 isoK (zL φ) [bE] s fun bF s =>
 isoK (z48 φ) [c, bC, bF] s fun bG s =>
 isoK (z49 φ) [c, bG, h] s fun y s =>
 kLen y s fun bH s =>
 kGtr bH (ni 1) fun bI =>
 z5 bI
(kBsl 1 [(.tree [] 0 true)] [(0, 1, y)] s fun bJ s =>
 kApp 1 24 s v bJ fun bK s =>
 isoK (z4a φ) [c, h, y] s fun bM s =>
 H c f u g bK w bM i s)
(H c f u g v w h i s))
(kAdd w (ni 1) fun bN =>
 Z c f u g v bN s)) φ C E o F G p bf (ni 0) s)
(kAdd F (ni 1) fun bO =>
 N C E G bO s)) φ O m n B (.tree [] 0 true) (ni 0) s)
(isoK (z6L φ) [n] s fun bP s =>
 retK false s bP some)) φ z K M (ni 0) s)) s0
def z6N (φ : Nat) : List D → Option D :=
fun as =>
(fun (s : LS) =>
 u1 as fun e h =>
 u1 h fun f i =>
 u0 i (
 kLen e s fun k s =>
 kLen f s fun l s =>
 kNeq k l fun m =>
 z5 m
(retK false s (.b false) some)
(lp (fun (_ _ _ : D) (_ : LS) => none) (fun (n : D → D → D → LS → Rs) (d g c : D) (s : LS) =>
 kLen d s fun o s =>
 kLss c o fun p =>
 z5 p
(z1 1 s d c fun u s =>
 z4 s u fun v s =>
 z1 1 s g c fun w s =>
 z4 s w fun y s =>
 kNeq v y fun z =>
 z5 z
(retK false s (.b false) some)
(kAdd c (ni 1) fun A =>
 n d g A s))
(retK false s (.b true) some)) φ e f (ni 0) s))) s0
def z7P (φ : Nat) : List D → LS → (D → LS → Rs) → Rs :=
fun as s k =>
 u1 as fun n o =>
 u1 o fun p u =>
 u1 u fun v w =>
 u0 w (
 lp (fun (_ _ _ _ : D) (_ : LS) => none) (fun (y : D → D → D → D → LS → Rs) (g i l h : D) (s : LS) =>
 kLen g s fun z s =>
 kLss h z fun A =>
 z5 A
(z1 2 s g h fun B s =>
 z7 0 s B fun C s =>
 z4 s C fun E s =>
 isoK (z6N φ) [E, i] s fun F s =>
 z5 F
(z1 2 s g h fun G s =>
 z7 1 s G fun H s =>
 z4 s H fun I s =>
 kAdd I l fun J =>
 z1 2 s g h fun K s =>
 z7 1 s K fun M s =>
 z6 1 s M J fun _ s =>
 k g s)
(kAdd h (ni 1) fun N =>
 y g i l N s))
(zI [(.tree [] 0 true), (ni 0)] [(0, 1, i), (1, 1, l)] s fun O s =>
 kBsl 1 [(.tree [] 0 true), (ni 0)] [(0, 2, O)] s fun P s =>
 kApp 2 32 s g P fun m s =>
 kLen m s fun S s =>
 kSub S (ni 1) fun U =>
 lp (fun (_ _ : D) (_ : LS) => none) (fun (V : D → D → LS → Rs) (e f : D) (s : LS) =>
 kGtr f (ni 0) fun c =>
 z0 c true (fun k => k e s) s fun W s =>
 z0 c true (fun k => k f s) s fun X s =>
 z0 c true (fun k => z1 2 s W X k) s fun Y s =>
 z0 c true (fun k => z7 0 s Y k) s fun Z s =>
 z0 c true (fun k => z4 s Z k) s fun bb s =>
 z0 c true (fun k => k e s) s fun bc s =>
 z0 c true (fun k => k f s) s fun bd s =>
 z0 c true (fun k => kSub bd (ni 1) fun d => k d s) s fun bf s =>
 z0 c true (fun k => z1 2 s bc bf k) s fun bg s =>
 z0 c true (fun k => z7 0 s bg k) s fun bh s =>
 z0 c true (fun k => z4 s bh k) s fun bi s =>
 z0 c true (fun k => isoK (z3I φ) [bb, bi] s k) s fun bk s =>
 z0 c true (fun k => kLss bk (ni 0) fun d => k d s) s fun bl s =>
 zp c bl (.b false) s fun bm s =>
 z5 bm
(kSub f (ni 1) fun bn =>
 kSub f (ni 1) fun bo =>
 z1 2 s e bo fun bp s =>
 z3 2 s bp fun bu s =>
 z1 2 s e f fun bv s =>
 z3 2 s bv fun bw s =>
 z1 2 s e f fun bz s =>
 z6 2 s bz bu fun _ s =>
 z1 2 s e bn fun bA s =>
 z6 2 s bA bw fun _ s =>
 kSub f (ni 1) fun bB =>
 V e bB s)
(k e s)) φ m U s)) φ n p v (ni 0) s)
def z5P (φ : Nat) : List D → Option D :=
fun as =>
(fun (s : LS) =>
 u1 as fun m H =>
 u1 H fun n I =>
 u0 I (
 z9 [(ni 0), (.tree [] 0 true)] s fun J s =>
 isoK (z3G φ) [n] s fun K s =>
 zI [(ni 0), (.tree [] 0 true)] [(0, 1, K)] s fun M s =>
 z9 [(ni 0), (.tree [] 0 true)] s fun o s =>
 z6 2 s o M fun _ s =>
 isoK (z4A φ) [m, n] s fun N s =>
 lp (fun (_ _ _ _ _ : D) (_ : LS) => none) (fun (p : D → D → D → D → D → LS → Rs) (b c f i u : D) (s : LS) =>
 kLen c s fun O s =>
 kGtr O (ni 1) fun P =>
 z5 P
(isoK (z2T φ) [b, c] s fun v s =>
 kLen v s fun S s =>
 kEql S (ni 0) fun U =>
 z5 U
(isoK (z6K φ) [b, c] s fun V s =>
 kMul u b fun W =>
 p b V f i W s)
(isoK (z49 φ) [b, c, v] s fun X s =>
 isoK (z4a φ) [b, c, X] s fun Y s =>
 isoK (z6g φ) [b, Y] s fun Z s =>
 lp (fun (_ _ _ _ _ _ _ : D) (_ : LS) => none) (fun (bb : D → D → D → D → D → D → D → LS → Rs) (w y z A B C E : D) (s : LS) =>
 kLen C s fun bc s =>
 kLss E bc fun bd =>
 z5 bd
(lp (fun (_ _ _ _ _ _ _ _ : D) (_ : LS) => none) (fun (bf : D → D → D → D → D → D → D → D → LS → Rs) (g k F h l d e G : D) (s : LS) =>
 z1 1 s d e fun bg s =>
 z4 s bg fun bh s =>
 isoK (z15 φ) [g, k, bh] s fun bi s =>
 kLen bi s fun bk s =>
 kEql bk (ni 0) fun bl =>
 z5 bl
(z1 1 s d e fun bm s =>
 z4 s bm fun bn s =>
 isoK (z4a φ) [g, k, bn] s fun bo s =>
 kAdd G (ni 1) fun bp =>
 bf g bo F h l d e bp s)
(z7 1 s h fun bu s =>
 z4 s bu fun bv s =>
 z1 1 s d e fun bw s =>
 z4 s bw fun bz s =>
 kMul G l fun bA =>
(z7P φ) [bv, bz, bA] s fun bB s =>
 z7 1 s h fun bC s =>
 z6 1 s bC bB fun _ s =>
 kAdd e (ni 1) fun bE =>
 bb g k F h l d bE s)) φ w y z A B C E (ni 0) s)
(p w y z A B s)) φ b c f i u Z (ni 0) s))
(z3 2 s i fun bF s =>
 z6 2 s f bF fun _ s =>
 z3 2 s f fun bG _ =>
 retK false s bG some)) φ m N J o (ni 1) s)) s0
def z6d (φ : Nat) : List D → Option D :=
fun as =>
(fun (s : LS) =>
 u1 as fun B C =>
 u0 C (
 lp (fun (_ _ _ _ _ : D) (_ : LS) => none) (fun (E : D → D → D → D → D → LS → Rs) (f h i l c : D) (s : LS) =>
 kLss l (ni 4) fun F =>
 z5 F
(jn (fun (G H I J K : D) (s : LS) =>
 kAdd K (ni 1) fun M =>
 E G H I J M s) fun m =>
 isoK (z5e φ) [c] s fun N s =>
 kNot N s fun g s =>
 z0 g false (fun k => k f s) s fun O s =>
 z0 g false (fun k => k c s) s fun P s =>
 z0 g false (fun k => isoK (z4T φ) [O, P] s k) s fun S s =>
 z0 g false (fun k => kNot S s k) s fun U s =>
 zp g (.b true) U s fun V s =>
 z5 V
(m f h i l c s)
(kAdd l (ni 1) fun p =>
 isoK (z3Y φ) [c, f] s fun W s =>
 isoK (z5P φ) [c, W] s fun X s =>
 zdJ 1 X s fun u s =>
 kGtr h (ni 0) fun e =>
 z0 e true (fun k => k u s) s fun Y s =>
 z0 e true (fun k => kLen Y s k) s fun Z s =>
 z0 e true (fun k => k i s) s fun bb s =>
 z0 e true (fun k => kLen bb s k) s fun bc s =>
 z0 e true (fun k => kGeq Z bc fun d => k d s) s fun bd s =>
 zp e bd (.b false) s fun bf s =>
 z5 bf
(m f h i p c s)
(lp (fun (_ _ _ _ _ _ _ : D) (_ : LS) => none) (fun (bg : D → D → D → D → D → D → D → LS → Rs) (v w y z A n o : D) (s : LS) =>
 kLen n s fun bh s =>
 kLss o bh fun bi =>
 z5 bi
(z1 2 s n o fun bk s =>
 z7 0 s bk fun bl s =>
 z4 s bl fun bm s =>
 kBsl 1 [(.tree [] 0 true)] [(0, 1, bm)] s fun bn s =>
 kApp 1 24 s y bn fun bo s =>
 kAdd o (ni 1) fun bp =>
 bg v w bo z A n bp s)
(m v w y z A s)) φ f c (.tree [] 0 true) p c u (ni 0) s)))
(retK false s (.tup [h, i]) some)) φ B (ni 0) (.tree [] 0 true) (ni 0) (ni 2) s)) s0
def z5B (φ : Nat) : List D → Option D :=
fun as =>
(fun (s : LS) =>
 u1 as fun d e =>
 u0 e (
 kBox d s fun f s =>
 z9 [(.b false), (.n 0)] s fun c s =>
 z7 1 s f fun g s =>
 z4 s g fun h s =>
 zI [(.b false), (.n 0)] [(1, 1, h)] s fun i s =>
 z6 2 s c i fun _ s =>
 z3 2 s c fun k _ =>
 retK false s k some)) s0
def z7S (φ : Nat) : List D → Option D :=
fun as =>
(fun (s : LS) =>
 u1 as fun g h =>
 u1 h fun k l =>
 u0 l (
 isoK (z2X φ) [(.i .u64 (.ofNat 1))] s fun m s =>
 lp (fun (_ _ _ : D) (_ : LS) => none) (fun (n : D → D → D → LS → Rs) (c b d : D) (s : LS) =>
 kGtr b (ni 0) fun o =>
 z5 o
(jn (fun (e p u : D) (s : LS) =>
 isoK (z4h φ) [e, e] s fun v s =>
 kQuo p (ni 2) fun w =>
 n v w u s) fun f =>
 kRem b (ni 2) fun y =>
 kEql y (ni 1) fun z =>
 z5 z
(isoK (z4h φ) [d, c] s fun A s =>
 f c b A s)
(f c b d s))
(retK false s d some)) φ g k m s)) s0
def z5A (φ : Nat) : List D → Option D :=
fun as =>
(fun (s : LS) =>
 u1 as fun h i =>
 u1 i fun e l =>
 u0 l (
 kBox h s fun f s =>
 z9 [(.b false), (.n 0)] s fun g s =>
 z7 0 s f fun m s =>
 z4 s m fun c s =>
 z0 c true (fun k => k e s) s fun o s =>
 z0 c true (fun k => kRem o (ni 2) fun d => k d s) s fun p s =>
 z0 c true (fun k => kEql p (ni 1) fun d => k d s) s fun u s =>
 zp c u (.b false) s fun v s =>
 z7 1 s f fun w s =>
 z4 s w fun y s =>
 isoK (z7S φ) [y, e] s fun z s =>
 isoK (z18 φ) [v, z] s fun A s =>
 z6 2 s g A fun _ s =>
 z3 2 s g fun B _ =>
 retK false s B some)) s0
def z6e (φ : Nat) : List D → Option D :=
fun as =>
(fun (s : LS) =>
 u1 as fun i k =>
 u0 k (
 z9 [(.b false), (.n 0)] s fun l s =>
 zI [(.b false), (.n 0)] [] s fun m s =>
 z9 [(.b false), (.n 0)] s fun h s =>
 z6 2 s h m fun _ s =>
 lp (fun (_ _ _ _ : D) (_ : LS) => none) (fun (o : D → D → D → D → LS → Rs) (d f e g : D) (s : LS) =>
 kLen d s fun p s =>
 kLss g p fun u =>
 z5 u
(z3 2 s e fun v s =>
 z1 2 s d g fun w s =>
 z3 2 s w fun y s =>
 isoK (z5B φ) [y] s fun z s =>
 isoK (z1i φ) [v, z] s fun A s =>
 z6 2 s e A fun _ s =>
 kAdd g (ni 1) fun B =>
 o d f e B s)
(z3 2 s e fun C s =>
 isoK (zj φ) [(ni 2)] s fun E s =>
 kLen d s fun F s =>
 kSub F (ni 1) fun G =>
 kS (.max (.c (ni 0)) (.c G)) s fun H s =>
 isoK (z5A φ) [E, H] s fun I s =>
 isoK (zo φ) [C, I] s fun J s =>
 z6 2 s f J fun _ s =>
 z3 2 s f fun K _ =>
 retK false s K some)) φ i l h (ni 0) s)) s0
def z4U (φ : Nat) : List D → Option D :=
fun as =>
(fun (s : LS) =>
 u1 as fun d m =>
 u1 m fun e o =>
 u0 o (
 isoK (zj φ) [(ni 2)] s fun p s =>
 isoK (z1T φ) [d] s fun u s =>
 isoK (z5B φ) [u] s fun v s =>
 isoK (z6e φ) [d] s fun w s =>
 isoK (zo φ) [v, w] s fun y s =>
 isoK (zo φ) [p, y] s fun z s =>
 z9 [(.b false), (.n 0)] s fun f s =>
 z6 2 s f z fun _ s =>
 isoK (zj φ) [e] s fun A s =>
 z9 [(.b false), (.n 0)] s fun g s =>
 z6 2 s g A fun _ s =>
 lp (fun (_ _ _ _ : D) (_ : LS) => none) (fun (B : D → D → D → D → LS → Rs) (h i k c : D) (s : LS) =>
 z3 2 s c fun C s =>
 z3 2 s i fun E s =>
 isoK (z2e φ) [C, E] s fun F s =>
 kLeq F (ni 0) fun G =>
 z5 G
(z3 2 s c fun H s =>
 isoK (zj φ) [h] s fun I s =>
 isoK (zo φ) [H, I] s fun J s =>
 z6 2 s c J fun _ s =>
 z3 2 s c fun K s =>
 z9 [(.b false), (.n 0)] s fun l s =>
 z6 2 s l K fun _ s =>
 kAdd k (ni 1) fun M =>
 B h i M l s)
(retK false s k some)) φ e f (ni 1) g s)) s0
def z6f (φ : Nat) : List D → Option D :=
fun as =>
(fun (s : LS) =>
 u1 as fun d e =>
 u1 e fun f g =>
 u0 g (
 z9 [(.b false), (.n 0)] s fun c s =>
 isoK (zj φ) [d] s fun h s =>
 isoK (z5A φ) [h, f] s fun i s =>
 z6 2 s c i fun _ s =>
 z3 2 s c fun k _ =>
 retK false s k some)) s0
def z3F (φ : Nat) : List D → Option D :=
fun as =>
(fun (s : LS) =>
 u1 as fun f g =>
 u0 g (
 lp (fun (_ _ _ : D) (_ : LS) => none) (fun (h : D → D → D → LS → Rs) (c e d : D) (s : LS) =>
 kLen c s fun i s =>
 kLss d i fun k =>
 z5 k
(z1 1 s c d fun l s =>
 z4 s l fun m s =>
 isoK (zj φ) [m] s fun o s =>
 kBsl 1 [(.b false), (.n 0)] [(0, 2, o)] s fun p s =>
 kApp 2 24 s e p fun u s =>
 kAdd d (ni 1) fun v =>
 h c u v s)
(retK false s e some)) φ f (.tree [] 0 true) (ni 0) s)) s0
def z6M (φ : Nat) : List D → Option D :=
fun as =>
(fun (s : LS) =>
 u1 as fun m n =>
 u1 n fun o p =>
 u1 p fun u v =>
 u0 v (
 kBsl 1 [(ni 0)] [(0, 1, (ni 1))] s fun w s =>
 kBsl 0 [(ni 0)] [] s fun y s =>
 kBsl 0 [(ni 0)] [] s fun z s =>
 kBsl 1 [(ni 0)] [(0, 1, (ni 1))] s fun A s =>
 lp (fun (_ _ _ _ _ _ _ : D) (_ : LS) => none) (fun (B : D → D → D → D → D → D → D → LS → Rs) (b c d f g h i : D) (s : LS) =>
 kLen d s fun C s =>
 kGtr C (ni 0) fun E =>
 z5 E
(isoK (z31 φ) [b, c, d] s fun k s =>
 kExt k 0 s fun l s =>
 kExt k 1 s fun F s =>
 isoK (z2E φ) [b, l, g] s fun G s =>
 isoK (z48 φ) [b, f, G] s fun H s =>
 isoK (z2E φ) [b, l, i] s fun I s =>
 isoK (z48 φ) [b, h, I] s fun J s =>
 B b d F g H i J s)
(kLen c s fun K s =>
 kEql K (ni 0) fun M =>
 z5 M
(retK false s (.tup [(.tree [] 0 true), (.tree [] 0 true), (.tree [] 0 true)]) some)
(isoK (z3G φ) [c] s fun N s =>
 isoK (z2d φ) [N, b] s fun e s =>
 isoK (z2a φ) [b, c, e] s fun O s =>
 isoK (z2a φ) [b, f, e] s fun P s =>
 isoK (z2a φ) [b, h, e] s fun S s =>
 retK false s (.tup [O, P, S]) some))) φ m o u w y z A s)) s0
def z5b (φ : Nat) : List D → Option D :=
fun as =>
(fun (s : LS) =>
 u1 as fun c f =>
 u1 f fun g h =>
 u1 h fun d i =>
 u0 i (
 isoK (z15 φ) [c, g, d] s fun k s =>
 isoK (z6M φ) [c, k, d] s fun e s =>
 kExt e 0 s fun l s =>
 kExt e 1 s fun m s =>
 kExt e 2 s fun u s =>
 kLen l s fun n s =>
 kNeq n (ni 1) fun o =>
 z5 o
(retK false s (.tup [(.tree [] 0 true), (.b false)]) some)
(isoK (z15 φ) [c, m, d] s fun p s =>
 retK false s (.tup [p, (.b true)]) some))) s0
def z5v (φ : Nat) : List D → Option D :=
fun as =>
(fun (s : LS) =>
 u1 as fun i w =>
 u1 w fun l y =>
 u0 y (
 kLen i s fun z s =>
 kEql z (ni 0) fun f =>
 z0 f false (fun k => k l s) s fun A s =>
 z0 f false (fun k => kLen A s k) s fun B s =>
 z0 f false (fun k => kEql B (ni 0) fun d => k d s) s fun C s =>
 zp f (.b true) C s fun E s =>
 z5 E
(retK false s (.tree [] 0 true) some)
(kLen i s fun F s =>
 kLen l s fun G s =>
 kAdd F G fun H =>
 kSub H (ni 1) fun o =>
 z24 2 24 [(.b false), (.n 0)] s o o fun I s =>
 lp (fun (_ _ _ _ : D) (_ : LS) => none) (fun (J : D → D → D → D → LS → Rs) (p K u v : D) (s : LS) =>
 kLen p s fun M s =>
 kLss v M fun N =>
 z5 N
(lp (fun (_ _ _ _ _ : D) (_ : LS) => none) (fun (O : D → D → D → D → D → LS → Rs) (m g h c e : D) (s : LS) =>
 kLen g s fun P s =>
 kLss e P fun S =>
 z5 S
(kAdd c e fun U =>
 kAdd c e fun V =>
 z1 2 s h V fun W s =>
 z3 2 s W fun X s =>
 z1 2 s m c fun Y s =>
 z3 2 s Y fun Z s =>
 z1 2 s g e fun bb s =>
 z3 2 s bb fun bc s =>
 isoK (zo φ) [Z, bc] s fun bd s =>
 isoK (z1i φ) [X, bd] s fun bf s =>
 z1 2 s h U fun bg s =>
 z6 2 s bg bf fun _ s =>
 kAdd e (ni 1) fun bh =>
 O m g h c bh s)
(kAdd c (ni 1) fun bi =>
 J m g h bi s)) φ p K u v (ni 0) s)
(isoK (z1o φ) [u] s fun bk s =>
 retK false s bk some)) φ i l I (ni 0) s))) s0
def z5w (φ : Nat) : List D → Option D :=
fun as =>
(fun (s : LS) =>
 u1 as fun k w =>
 u1 w fun l y =>
 u0 y (
 kLen k s fun z s =>
 kLen l s fun A s =>
 kS (.max (.c z) (.c A)) s fun m s =>
 z24 2 24 [(.b false), (.n 0)] s m m fun B s =>
 lp (fun (_ _ _ _ : D) (_ : LS) => none) (fun (C : D → D → D → D → LS → Rs) (g o e d : D) (s : LS) =>
 kLen e s fun E s =>
 kLss d E fun F =>
 z5 F
(jn (fun (G H I J : D) (s : LS) =>
 kAdd J (ni 1) fun K =>
 C G H I K s) fun p =>
 jn (fun (u h i f : D) (s : LS) =>
 kLen h s fun M s =>
 kLss f M fun N =>
 z5 N
(z1 2 s i f fun O s =>
 z3 2 s O fun P s =>
 z1 2 s h f fun S s =>
 z3 2 s S fun U s =>
 isoK (z1i φ) [P, U] s fun V s =>
 z1 2 s i f fun W s =>
 z6 2 s W V fun _ s =>
 p u h i f s)
(p u h i f s)) fun v =>
 kLen g s fun X s =>
 kLss d X fun Y =>
 z5 Y
(z1 2 s e d fun Z s =>
 z3 2 s Z fun bb s =>
 z1 2 s g d fun bc s =>
 z3 2 s bc fun bd s =>
 isoK (z1i φ) [bb, bd] s fun bf s =>
 z1 2 s e d fun bg s =>
 z6 2 s bg bf fun _ s =>
 v g o e d s)
(v g o e d s))
(isoK (z1o φ) [e] s fun bh s =>
 retK false s bh some)) φ k l B (ni 0) s)) s0
def z4y (φ : Nat) : List D → Option D :=
fun as =>
(fun (s : LS) =>
 u1 as fun g h =>
 u1 h fun i k =>
 u0 k (
 kBox i s fun l s =>
 lp (fun (_ _ _ _ : D) (_ : LS) => none) (fun (m : D → D → D → D → LS → Rs) (c e f d : D) (s : LS) =>
 kLen c s fun o s =>
 kLss d o fun p =>
 z5 p
(z1 2 s c d fun u s =>
 z3 2 s u fun v s =>
 z3 2 s e fun w s =>
 isoK (zo φ) [v, w] s fun y s =>
 kBsl 1 [(.b false), (.n 0)] [(0, 2, y)] s fun z s =>
 kApp 2 24 s f z fun A s =>
 kAdd d (ni 1) fun B =>
 m c e A B s)
(isoK (z1o φ) [f] s fun C s =>
 retK false s C some)) φ g l (.tree [] 0 true) (ni 0) s)) s0
def z7O (φ : Nat) : List D → Option D :=
fun as =>
(fun (s : LS) =>
 u1 as fun b c =>
 u1 c fun d e =>
 u0 e (
 isoK (zj φ) [(.i .i64 (.negSucc 0))] s fun f s =>
 isoK (z4y φ) [d, f] s fun g s =>
 isoK (z5w φ) [b, g] s fun h s =>
 retK false s h some)) s0
def z5z (φ : Nat) : List D → Option D :=
fun as =>
(fun (s : LS) =>
 u1 as fun f g =>
 u1 g fun h i =>
 u0 i (
 kBox f s fun k s =>
 kBox h s fun l s =>
 z9 [(.b false), (.n 0)] s fun c s =>
 z3 2 s k fun m s =>
 z3 2 s l fun o s =>
 isoK (z1Q φ) [m, o] s fun d s =>
 kExt d 0 s fun p s =>
 kExt d 1 s fun u s =>
 z9 [(.b false), (.n 0)] s fun e s =>
 z9 [(.b false), (.n 0)] s fun v s =>
 z6 2 s e p fun _ s =>
 z6 2 s v u fun _ s =>
 z3 2 s e fun w s =>
 z6 2 s c w fun _ s =>
 z3 2 s c fun y _ =>
 retK false s y some)) s0
def z5y (φ : Nat) : List D → Option D :=
fun as =>
(fun (s : LS) =>
 u1 as fun d e =>
 u1 e fun f g =>
 u0 g (
 kBox d s fun h s =>
 kBox f s fun i s =>
 z9 [(.b false), (.n 0)] s fun c s =>
 z3 2 s h fun k s =>
 z3 2 s i fun l s =>
 isoK (z4e φ) [l] s fun m s =>
 isoK (z1i φ) [k, m] s fun o s =>
 z6 2 s c o fun _ s =>
 z3 2 s c fun p _ =>
 retK false s p some)) s0
def z3E (φ : Nat) : List D → Option D :=
fun as =>
(fun (s : LS) =>
 u1 as fun g h =>
 u1 h fun i k =>
 u0 k (
 kBox g s fun l s =>
 kBox i s fun e s =>
 z9 [(.b false), (.n 0)] s fun d s =>
 z3 2 s l fun m s =>
 z3 2 s e fun o s =>
 isoK (z1Q φ) [m, o] s fun f s =>
 kExt f 0 s fun p s =>
 kExt f 1 s fun u s =>
 z9 [(.b false), (.n 0)] s fun v s =>
 z9 [(.b false), (.n 0)] s fun c s =>
 z6 2 s v p fun _ s =>
 z6 2 s c u fun _ s =>
 z3 2 s c fun w s =>
 z3 2 s c fun y s =>
 isoK (z1i φ) [w, y] s fun z s =>
 z3 2 s e fun A s =>
 isoK (z2e φ) [z, A] s fun B s =>
 kGtr B (ni 0) fun C =>
 z5 C
(z3 2 s c fun E s =>
 z3 2 s e fun F s =>
 isoK (z5y φ) [E, F] s fun G s =>
 z6 2 s d G fun _ s =>
 z3 2 s d fun H _ =>
 retK false s H some)
(z3 2 s c fun I s =>
 z6 2 s d I fun _ s =>
 z3 2 s d fun J _ =>
 retK false s J some))) s0
def z3n (φ : Nat) : List D → Option D :=
fun as =>
(fun (s : LS) =>
 u1 as fun g h =>
 u1 h fun i k =>
 u0 k (
 kBox i s fun l s =>
 lp (fun (_ _ _ _ : D) (_ : LS) => none) (fun (m : D → D → D → D → LS → Rs) (c e f d : D) (s : LS) =>
 kLen c s fun o s =>
 kLss d o fun p =>
 z5 p
(z1 2 s c d fun u s =>
 z3 2 s u fun v s =>
 z3 2 s e fun w s =>
 isoK (z3E φ) [v, w] s fun y s =>
 kBsl 1 [(.b false), (.n 0)] [(0, 2, y)] s fun z s =>
 kApp 2 24 s f z fun A s =>
 kAdd d (ni 1) fun B =>
 m c e A B s)
(isoK (z1o φ) [f] s fun C s =>
 retK false s C some)) φ g l (.tree [] 0 true) (ni 0) s)) s0
def z6J (φ : Nat) : List D → Option D :=
fun as =>
(fun (s : LS) =>
 u1 as fun bF bG =>
 u1 bG fun bH bI =>
 u1 bI fun bJ bK =>
 u1 bK fun bM bN =>
 u0 bN (
 lp (fun (_ _ _ _ _ _ _ : D) (_ : LS) => none) (fun (bO : D → D → D → D → D → D → D → LS → Rs) (p l N m O P u : D) (s : LS) =>
 kLen m s fun bP s =>
 kLss u bP fun bS =>
 z5 bS
(z1 1 s m u fun bU s =>
 z4 s bU fun bV s =>
 isoK (z3F φ) [bV] s fun bW s =>
 kBsl 1 [(.tree [] 0 true)] [(0, 1, bW)] s fun bX s =>
 kApp 1 24 s O bX fun bY s =>
 isoK (z1T φ) [p] s fun bZ s =>
 isoK (z3e φ) [bZ, l] s fun cb s =>
 kBsl 1 [(ni 0)] [(0, 1, cb)] s fun cc s =>
 lp (fun (_ _ _ _ _ _ _ _ _ : D) (_ : LS) => none) (fun (cd : D → D → D → D → D → D → D → D → D → LS → Rs) (v e w c y z f A g : D) (s : LS) =>
 kLen c s fun ce s =>
 kLss g ce fun cf =>
 z5 cf
(jn (fun (cg ch ci ck cl cm cn co cp : D) (s : LS) =>
 kAdd cp (ni 1) fun cu =>
 cd cg ch ci ck cl cm cn co cu s) fun S =>
 kNeq g f fun cv =>
 z5 cv
(z1 1 s c g fun cw s =>
 z4 s cw fun cy s =>
 isoK (z2E φ) [e, A, cy] s fun cz s =>
 S v e w c y z f cz g s)
(S v e w c y z f A g s))
(z1 1 s c f fun cA s =>
 z4 s cA fun cB s =>
 isoK (z5b φ) [e, A, cB] s fun U s =>
 kExt U 0 s fun cC s =>
 kExt U 1 s fun eg s =>
 kBsl 1 [(.tree [] 0 true)] [(0, 1, cC)] s fun cE s =>
 kApp 1 24 s z cE fun cF s =>
 kAdd f (ni 1) fun cG =>
 bO v e w c y cF cG s)) φ p l N m bY P u cc (ni 0) s)
(isoK (zj φ) [l] s fun cH s =>
 z9 [(.b false), (.n 0)] s fun V s =>
 z6 2 s V cH fun _ s =>
 lp (fun (_ _ _ _ _ _ _ _ : D) (_ : LS) => none) (fun (cI : D → D → D → D → D → D → D → D → LS → Rs) (W cJ X cK Y cM Z bb : D) (s : LS) =>
 kLss bb X fun cN =>
 z5 cN
(isoK (z1T φ) [W] s fun cO s =>
 kBsl 1 [(.b false), (.n 0)] [(0, 2, cO)] s fun cP s =>
 lp (fun (_ _ _ _ _ _ _ _ _ _ : D) (_ : LS) => none) (fun (cS : D → D → D → D → D → D → D → D → D → D → LS → Rs) (B bc bd bf o bg bh bi bk C : D) (s : LS) =>
 kLen o s fun cU s =>
 kLss C cU fun cV =>
 z5 cV
(z1 1 s o C fun cW s =>
 z4 s cW fun cX s =>
 isoK (z5v φ) [bk, cX] s fun cY s =>
 kAdd C (ni 1) fun cZ =>
 cS B bc bd bf o bg bh bi cY cZ s)
(isoK (z7O φ) [B, bk] s fun db s =>
 lp (fun (_ _ _ _ _ _ _ _ _ _ _ : D) (_ : LS) => none) (fun (dc : D → D → D → D → D → D → D → D → D → D → D → LS → Rs) (bl E bm bn bo bp F bu G bv H : D) (s : LS) =>
 kLen G s fun dd s =>
 kLss H dd fun de =>
 z5 de
(z1 2 s G H fun df s =>
 z3 2 s df fun dg s =>
 z3 2 s F fun dh s =>
 isoK (z5z φ) [dg, dh] s fun di s =>
 isoK (z3e φ) [di, E] s fun dk s =>
 kBsl 1 [(ni 0)] [(0, 1, dk)] s fun dl s =>
 kApp 1 8 s bv dl fun dm s =>
 kAdd H (ni 1) fun dn =>
 dc bl E bm bn bo bp F bu G dm dn s)
(isoK (zL φ) [bv] s fun dp s =>
 lp (fun (_ _ _ _ _ _ _ _ _ _ : D) (_ : LS) => none) (fun (du : D → D → D → D → D → D → D → D → D → D → LS → Rs) (bw h bz I i J k bA bB d : D) (s : LS) =>
 kLen i s fun dv s =>
 kLss d dv fun dw =>
 z5 dw
(z1 1 s J d fun dy s =>
 z4 s dy fun dz s =>
 isoK (z2E φ) [h, bB, dz] s fun dA s =>
 z1 1 s I d fun dB s =>
 z4 s dB fun dC s =>
 isoK (z15 φ) [h, dA, dC] s fun dE s =>
 z1 1 s i d fun dF s =>
 z4 s dF fun dG s =>
 isoK (z3F φ) [dE] s fun dH s =>
 z3 2 s k fun dI s =>
 isoK (z4y φ) [dH, dI] s fun dJ s =>
 isoK (z5w φ) [dG, dJ] s fun dK s =>
 z1 1 s i d fun dM s =>
 z6 1 s dM dK fun _ s =>
 kAdd d (ni 1) fun dN =>
 du bw h bz I i J k bA bB dN s)
(z3 2 s k fun dO s =>
 isoK (zj φ) [h] s fun dP s =>
 isoK (zo φ) [dO, dP] s fun dS s =>
 z6 2 s k dS fun _ s =>
 kAdd bA (ni 1) fun dU =>
 cI bw h bz I i J k dU s)) φ bl E bm bn bo bp F bu dp (ni 0) s)) φ B bc bd bf o bg bh bi db (.tree [] 0 true) (ni 0) s)) φ W cJ X cK Y cM Z bb cP (ni 0) s)
(lp (fun (_ _ _ _ : D) (_ : LS) => none) (fun (dV : D → D → D → D → LS → Rs) (K bC bE M : D) (s : LS) =>
 kLen K s fun dW s =>
 kLss M dW fun dX =>
 z5 dX
(z1 1 s K M fun dY s =>
 z4 s dY fun dZ s =>
 z3 2 s bC fun eb s =>
 isoK (z3n φ) [dZ, eb] s fun ec s =>
 kBsl 1 [(.tree [] 0 true)] [(0, 1, ec)] s fun ed s =>
 kApp 1 24 s bE ed fun ee s =>
 kAdd M (ni 1) fun ef =>
 dV K bC ee ef s)
(retK false s bE some)) φ Y Z (.tree [] 0 true) (ni 0) s)) φ p l N m O P V (ni 1) s)) φ bF bH bJ bM (.tree [] 0 true) (.tree [] 0 true) (ni 0) s)) s0
def z3X (φ : Nat) : List D → Option D :=
fun as =>
(fun (s : LS) =>
 u1 as fun p F =>
 u1 F fun u G =>
 u0 G (
 kBsl 0 [(.b false), (.n 0)] [] s fun H s =>
 kApp 2 24 s H p fun I s =>
 kLen u s fun J s =>
 kSub J (ni 1) fun v =>
 kLen p s fun K s =>
 kSub K v fun M =>
 kS (.max (.c (ni 0)) (.c M)) s fun w s =>
 z24 2 24 [(.b false), (.n 0)] s w w fun y s =>
 kLen y s fun N s =>
 kSub N (ni 1) fun O =>
 lp (fun (_ _ _ _ _ : D) (_ : LS) => none) (fun (P : D → D → D → D → D → LS → Rs) (z h i k e : D) (s : LS) =>
 kGeq e (ni 0) fun S =>
 z5 S
(kAdd e i fun U =>
 z1 2 s h U fun V s =>
 z3 2 s V fun W s =>
 z1 2 s z i fun X s =>
 z3 2 s X fun Y s =>
 isoK (z1Q φ) [W, Y] s fun A s =>
 kExt A 0 s fun Z s =>
 kExt A 1 s fun bb s =>
 z9 [(.b false), (.n 0)] s fun l s =>
 z9 [(.b false), (.n 0)] s fun B s =>
 z6 2 s l Z fun _ s =>
 z6 2 s B bb fun _ s =>
 z3 2 s B fun bc s =>
 isoK (z40 φ) [bc] s fun bd s =>
 kNot bd s fun bf s =>
 z5 bf
(retK false s (.tup [(.tree [] 0 true), (.b false)]) some)
(z3 2 s l fun bg s =>
 z1 2 s k e fun bh s =>
 z6 2 s bh bg fun _ s =>
 lp (fun (_ _ _ _ _ _ _ : D) (_ : LS) => none) (fun (bi : D → D → D → D → D → D → D → LS → Rs) (m f o C g E d : D) (s : LS) =>
 kLeq d o fun bk =>
 z5 bk
(kAdd g d fun bl =>
 kAdd g d fun bm =>
 z1 2 s f bm fun bn s =>
 z3 2 s bn fun bo s =>
 z3 2 s E fun bp s =>
 z1 2 s m d fun bu s =>
 z3 2 s bu fun bv s =>
 isoK (zo φ) [bp, bv] s fun bw s =>
 isoK (z5y φ) [bo, bw] s fun bz s =>
 z1 2 s f bl fun bA s =>
 z6 2 s bA bz fun _ s =>
 kAdd d (ni 1) fun bB =>
 bi m f o C g E bB s)
(kSub g (ni 1) fun bC =>
 P m f o C bC s)) φ z h i k e l (ni 0) s))
(isoK (z1o φ) [k] s fun bE s =>
 isoK (z1o φ) [h] s fun bF s =>
 kLen bF s fun bG s =>
 kEql bG (ni 0) fun bH =>
 retK false s (.tup [bE, bH]) some)) φ u I v y O s)) s0
def z6I (φ : Nat) : List D → Option D :=
fun as =>
(fun (s : LS) =>
 u1 as fun d e =>
 u0 e (
 lp (fun (_ _ : D) (_ : LS) => none) (fun (f : D → D → LS → Rs) (b c : D) (s : LS) =>
 kGtr b (ni 0) fun g =>
 z5 g
(kRem b (ni 2) fun h =>
 kAdd c h fun i =>
 kQuo b (ni 2) fun k =>
 f k i s)
(retK false s c some)) φ d (ni 0) s)) s0
def z5h (φ : Nat) : List D → Option D :=
fun as =>
(fun (s : LS) =>
 u1 as fun e f =>
 u1 f fun g h =>
 u0 h (
 kBox e s fun b s =>
 kBox g s fun c s =>
 z7 1 s b fun i s =>
 z4 s i fun k s =>
 kEql k (.n 0) fun l =>
 z5 l
(z7 1 s c fun m s =>
 z4 s m fun o s =>
 kEql o (.n 0) fun p =>
 retK false s p some)
(z7 1 s c fun u s =>
 z4 s u fun v s =>
 z7 1 s b fun w s =>
 z4 s w fun y s =>
 isoK (z1R φ) [v, y] s fun d s =>
 kExt d 0 s fun B s =>
 kExt d 1 s fun z s =>
 kEql z (.n 0) fun A =>
 retK false s A some))) s0
def z5a (φ : Nat) : List D → Option D :=
fun as =>
(fun (s : LS) =>
 u1 as fun h i =>
 u0 i (
 z9 [(.b false), (.n 0)] s fun k s =>
 zI [(.b false), (.n 0)] [] s fun l s =>
 z9 [(.b false), (.n 0)] s fun g s =>
 z6 2 s g l fun _ s =>
 lp (fun (_ _ _ _ : D) (_ : LS) => none) (fun (m : D → D → D → D → LS → Rs) (d e c f : D) (s : LS) =>
 kLen d s fun o s =>
 kLss f o fun p =>
 z5 p
(z3 2 s c fun u s =>
 z1 2 s d f fun v s =>
 z3 2 s v fun w s =>
 isoK (z4f φ) [u, w] s fun y s =>
 z6 2 s c y fun _ s =>
 kAdd f (ni 1) fun z =>
 m d e c z s)
(z3 2 s c fun A s =>
 z6 2 s e A fun _ s =>
 z3 2 s e fun B _ =>
 retK false s B some)) φ h k g (ni 0) s)) s0
def z4z (φ : Nat) : List D → Option D :=
fun as =>
(fun (s : LS) =>
 u1 as fun d k =>
 u0 k (
 isoK (z5a φ) [d] s fun l s =>
 z9 [(.b false), (.n 0)] s fun c s =>
 z6 2 s c l fun _ s =>
 jn (fun (m o : D) (s : LS) =>
 lp (fun (_ _ _ _ : D) (_ : LS) => none) (fun (p : D → D → D → D → LS → Rs) (e g h f : D) (s : LS) =>
 kLen e s fun u s =>
 kLss f u fun v =>
 z5 v
(z1 2 s e f fun w s =>
 z3 2 s w fun y s =>
 z3 2 s g fun z s =>
 isoK (z5z φ) [y, z] s fun A s =>
 kBsl 1 [(.b false), (.n 0)] [(0, 2, A)] s fun B s =>
 kApp 2 24 s h B fun C s =>
 kAdd f (ni 1) fun E =>
 p e g C E s)
(retK false s h some)) φ m o (.tree [] 0 true) (ni 0) s) fun i =>
 isoK (z1T φ) [d] s fun F s =>
 zdJ 0 F s fun G s =>
 z5 G
(z3 2 s c fun H s =>
 isoK (z4e φ) [H] s fun I s =>
 z6 2 s c I fun _ s =>
 i d c s)
(i d c s))) s0
def z4x (φ : Nat) : List D → Option D :=
fun as =>
(fun (s : LS) =>
 u1 as fun v A =>
 u1 A fun B C =>
 u1 C fun E F =>
 u1 F fun G H =>
 u0 H (
 kBox G s fun I s =>
 isoK (z1T φ) [v] s fun J s =>
 z9 [(.b false), (.n 0)] s fun l s =>
 z6 2 s l J fun _ s =>
 z3 2 s l fun K s =>
 z9 [(.b false), (.n 0)] s fun w s =>
 z6 2 s w K fun _ s =>
 lp (fun (_ _ _ _ _ _ _ : D) (_ : LS) => none) (fun (M : D → D → D → D → D → D → D → LS → Rs) (m c g h i d e : D) (s : LS) =>
 kLen c s fun N s =>
 kLss e N fun O =>
 z5 O
(jn (fun (P S U V W X Y : D) (s : LS) =>
 kAdd Y (ni 1) fun Z =>
 M P S U V W X Z s) fun y =>
 kShr g e fun bb =>
 kRem bb (ni 2) fun bc =>
 kEql bc (ni 1) fun bd =>
 z5 bd
(z3 2 s d fun bf s =>
 z1 1 s c e fun bg s =>
 z4 s bg fun bh s =>
 z1 2 s bh (ni 0) fun bi s =>
 z3 2 s bi fun bk s =>
 isoK (zo φ) [bf, bk] s fun bl s =>
 z3 2 s h fun bm s =>
 isoK (z3E φ) [bl, bm] s fun bn s =>
 z6 2 s d bn fun _ s =>
 y m c g h i d e s)
(y m c g h i d e s))
(z3 2 s d fun bo s =>
 z3 2 s i fun bp s =>
 z1 2 s m (ni 0) fun bu s =>
 z3 2 s bu fun bv s =>
 isoK (zo φ) [bp, bv] s fun bw s =>
 isoK (z5h φ) [bo, bw] s fun bz s =>
 kNot bz s fun bA s =>
 z5 bA
(retK false s (.tree [] 0 true) some)
(z3 2 s i fun bB s =>
 kBsl 1 [(.b false), (.n 0)] [(0, 2, bB)] s fun bC s =>
 lp (fun (_ _ _ _ _ : D) (_ : LS) => none) (fun (bE : D → D → D → D → D → LS → Rs) (k o p u f : D) (s : LS) =>
 kLen k s fun bF s =>
 kLss f bF fun bG =>
 z5 bG
(jn (fun (bH bI bJ bK bM : D) (s : LS) =>
 kAdd bM (ni 1) fun bN =>
 bE bH bI bJ bK bN s) fun z =>
 kShr o f fun bO =>
 kRem bO (ni 2) fun bP =>
 kEql bP (ni 1) fun bS =>
 z5 bS
(z1 1 s k f fun bU s =>
 z4 s bU fun bV s =>
 isoK (z5v φ) [u, bV] s fun bW s =>
 z3 2 s p fun bX s =>
 isoK (z3n φ) [bW, bX] s fun bY s =>
 z k o p bY f s)
(z k o p u f s))
(isoK (z4z φ) [u] s fun bZ s =>
 retK false s bZ some)) φ c g h bC (ni 0) s))) φ v B E I l w (ni 0) s)) s0
def z5O (φ : Nat) : List D → Option D :=
fun as =>
(fun (s : LS) =>
 u1 as fun k l =>
 u1 l fun m n =>
 u1 n fun o p =>
 u1 p fun u v =>
 u0 v (
 kBox u s fun w s =>
 lp (fun (_ _ _ _ _ : D) (_ : LS) => none) (fun (y : D → D → D → D → D → LS → Rs) (c d e f b : D) (s : LS) =>
 kLen d s fun z s =>
 kShl (ni 1) z fun A =>
 kLss b A fun B =>
 z5 B
(jn (fun (C E F G H : D) (s : LS) =>
 kAdd H (ni 1) fun I =>
 y C E F G I s) fun g =>
 isoK (z6I φ) [b] s fun J s =>
 kNeq J e fun K =>
 z5 K
(g c d e f b s)
(z3 2 s f fun M s =>
 isoK (z4x φ) [c, d, b, M] s fun h s =>
 kLen h s fun N s =>
 kEql N (ni 0) fun O =>
 z5 O
(g c d e f b s)
(isoK (z3X φ) [c, h] s fun i s =>
 kExt i 0 s fun S s =>
 kExt i 1 s fun P s =>
 z5 P
(retK false s (.tup [h, b]) some)
(g c d e f b s))))
(retK false s (.tup [(.tree [] 0 true), (ni 0)]) some)) φ k m o w (ni 1) s)) s0
def z6c (φ : Nat) : List D → Option D :=
fun as =>
(fun (s : LS) =>
 u1 as fun d I =>
 u0 I (
 isoK (z6d φ) [d] s fun y s =>
 kExt y 0 s fun i s =>
 kExt y 1 s fun J s =>
 isoK (z4U φ) [d, i] s fun z s =>
 isoK (z6f φ) [i, z] s fun K s =>
 z9 [(.b false), (.n 0)] s fun A s =>
 z6 2 s A K fun _ s =>
 isoK (z6J φ) [d, i, z, J] s fun M s =>
 lp (fun (_ _ _ _ _ : D) (_ : LS) => none) (fun (B : D → D → D → D → D → LS → Rs) (e k l f g : D) (s : LS) =>
 kMul (ni 2) g fun N =>
 kLen f s fun O s =>
 kLeq N O fun P =>
 z5 P
(z3 2 s l fun S s =>
 isoK (z5O φ) [e, f, g, S] s fun C s =>
 kExt C 0 s fun E s =>
 kExt C 1 s fun F s =>
 kEql F (ni 0) fun U =>
 z5 U
(kAdd g (ni 1) fun V =>
 B e k l f V s)
(kBsl 1 [(.tree [] 0 true)] [(0, 1, E)] s fun W s =>
 kApp 1 24 s k W fun X s =>
 isoK (z3X φ) [e, E] s fun G s =>
 kExt G 0 s fun Y s =>
 kExt G 1 s fun bE s =>
 lp (fun (_ _ _ _ _ _ _ _ : D) (_ : LS) => none) (fun (Z : D → D → D → D → D → D → D → D → LS → Rs) (m o p h u v w c : D) (s : LS) =>
 kLen h s fun bb s =>
 kLss c bb fun bc =>
 z5 bc
(jn (fun (bd bf bg bh bi bk bl bm : D) (s : LS) =>
 kAdd bm (ni 1) fun bn =>
 Z bd bf bg bh bi bk bl bn s) fun H =>
 kShr v c fun bo =>
 kRem bo (ni 2) fun bp =>
 kEql bp (ni 0) fun bu =>
 z5 bu
(z1 1 s h c fun bv s =>
 z4 s bv fun bw s =>
 kBsl 1 [(.tree [] 0 true)] [(0, 1, bw)] s fun bz s =>
 kApp 1 24 s w bz fun bA s =>
 H m o p h u v bA c s)
(H m o p h u v w c s))
(B m o p w u s)) φ Y X l f g F (.tree [] 0 true) (ni 0) s))
(kBsl 1 [(.tree [] 0 true)] [(0, 1, e)] s fun bB s =>
 kApp 1 24 s k bB fun bC s =>
 retK false s bC some)) φ d (.tree [] 0 true) A M (ni 1) s)) s0
def z3W (φ : Nat) : List D → Option D :=
fun as =>
(fun (s : LS) =>
 u1 as fun w I =>
 u0 I (
 z9 [(.b false), (.n 0), (.n 0), (.tree [] 0 true)] s fun J s =>
 isoK (z36 φ) [w] s fun y s =>
 kExt y 0 s fun K s =>
 kExt y 1 s fun bW s =>
 z9 [(.b false), (.n 0), (.n 0)] s fun z s =>
 z6 3 s z K fun _ s =>
 lp (fun (_ _ _ _ _ : D) (_ : LS) => none) (fun (M : D → D → D → D → D → LS → Rs) (e f g h c : D) (s : LS) =>
 kLen e s fun N s =>
 kSub N (ni 1) fun O =>
 kLss c O fun d =>
 z0 d true (fun k => k e s) s fun P s =>
 z0 d true (fun k => k c s) s fun S s =>
 z0 d true (fun k => z1 3 s P S k) s fun U s =>
 z0 d true (fun k => z3 3 s U k) s fun V s =>
 z0 d true (fun k => isoK (z5S φ) [V] s k) s fun W s =>
 zp d W (.b false) s fun X s =>
 z5 X
(kAdd c (ni 1) fun Y =>
 M e f g h Y s)
(jn (fun (Z bb bc bd bf : D) (s : LS) =>
 z23 3 s Z (some bf) none none fun bg s =>
 isoK (z4b φ) [bg] s fun bh s =>
 lp (fun (_ _ _ _ _ : D) (_ : LS) => none) (fun (bi : D → D → D → D → D → LS → Rs) (i A B l m : D) (s : LS) =>
 kLen l s fun bk s =>
 kLss m bk fun bl =>
 z5 bl
(z1 2 s l m fun bm s =>
 z7 0 s bm fun bn s =>
 z4 s bn fun bo s =>
 isoK (z36 φ) [bo] s fun C s =>
 kExt C 0 s fun bp s =>
 kExt C 1 s fun bu s =>
 z9 [(.b false), (.n 0), (.n 0)] s fun bv s =>
 z6 3 s bv bp fun _ s =>
 isoK (z6c φ) [bu] s fun bw s =>
 lp (fun (_ _ _ _ _ _ _ : D) (_ : LS) => none) (fun (bz : D → D → D → D → D → D → D → LS → Rs) (E F G o p u v : D) (s : LS) =>
 kLen u s fun bA s =>
 kLss v bA fun bB =>
 z5 bB
(z1 1 s u v fun bC s =>
 z4 s bC fun bE s =>
 z1 2 s o p fun bF s =>
 z7 1 s bF fun bG s =>
 z4 s bG fun bH s =>
(z5u φ) [F, bE, bH] s fun bI s =>
 kAdd v (ni 1) fun bJ =>
 bz E bI G o p u bJ s)
(kAdd p (ni 1) fun bK =>
 bi E F G o bK s)) φ i A B l m bw (ni 0) s)
(z3 3 s B fun bM s =>
 zI [(.b false), (.n 0), (.n 0), (.tree [] 0 true)] [(0, 3, bM), (3, 1, A)] s fun bN s =>
 z6 4 s i bN fun _ s =>
 z3 4 s i fun bO _ =>
 retK false s bO some)) φ bb bc bd bh (ni 0) s) fun H =>
 kGtr c (ni 0) fun bP =>
 z5 bP
(kBsl 2 [(ni 0)] [(0, 1, (ni 0)), (1, 1, (ni 1))] s fun bS s =>
 isoK (z8K φ) [bS] s fun bU s =>
(z5u φ) [g, bU, c] s fun bV s =>
 H e f bV h c s)
(H e f g h c s))) φ w J (.tree [] 0 true) z (ni 0) s)) s0
def z3k (φ : Nat) : List D → Option D :=
fun as =>
(fun (s : LS) =>
 u1 as fun e g =>
 u0 g (
 kLen e s fun h s =>
 kLss h (ni 2) fun i =>
 z5 i
(retK false s (.b false) some)
(isoK (z3W φ) [e] s fun l s =>
 zdJ 3 l s fun f s =>
 kLen f s fun m s =>
 kEql m (ni 1) fun c =>
 z0 c true (fun k => k f s) s fun n s =>
 z0 c true (fun k => z1 2 s n (ni 0) k) s fun o s =>
 z0 c true (fun k => z7 1 s o k) s fun p s =>
 z0 c true (fun k => z4 s p k) s fun u s =>
 z0 c true (fun k => kEql u (ni 1) fun d => k d s) s fun v s =>
 zp c v (.b false) s fun w s =>
 retK false s w some))) s0
def z4w (φ : Nat) : List D → Option D :=
fun as =>
(fun (s : LS) =>
 u1 as fun f g =>
 u0 g (
 kBox f s fun d s =>
 z3 1 s d fun h s =>
 isoK (z3D φ) [h] s fun e s =>
 kEql e (ni 0) fun c =>
 z0 c true (fun k => z7 0 s d k) s fun i s =>
 z0 c true (fun k => z4 s i k) s fun l s =>
 z0 c true (fun k => isoK (z3k φ) [l] s k) s fun m s =>
 z0 c true (fun k => kNot m s k) s fun n s =>
 zp c n (.b false) s fun o s =>
 z5 o
(retK false s (ni 8) some)
(retK false s e some))) s0
def z6b (φ : Nat) : List D → Option D :=
fun as =>
(fun (s : LS) =>
 u1 as fun p u =>
 u1 u fun e v =>
 u0 v (
 kBox p s fun h s =>
 z3 1 s h fun w s =>
 isoK (z3D φ) [w] s fun i s =>
 kNeq i (ni 0) fun y =>
 z5 y
(retK false s i some)
(kLen e s fun z s =>
 kGtr z (ni 65) fun A =>
 z5 A
(retK false s (ni 4) some)
(kLen e s fun B s =>
 lp (fun (_ _ _ _ _ : D) (_ : LS) => none) (fun (C : D → D → D → D → D → LS → Rs) (f l m n g : D) (s : LS) =>
 kLss g n fun E =>
 z5 E
(z1 1 s m g fun F s =>
 z4 s F fun G s =>
 z3 1 s l fun H s =>
 isoK (z2P φ) [H, G] s fun o s =>
 kNeq o (ni 0) fun I =>
 z5 I
(retK false s o some)
(kAdd g (ni 1) fun J =>
 C f l m n J s))
(kLen f s fun K s =>
 kGtr K (ni 0) fun c =>
 z0 c true (fun k => k f s) s fun M s =>
 z0 c true (fun k => k f s) s fun N s =>
 z0 c true (fun k => kLen N s k) s fun O s =>
 z0 c true (fun k => kSub O (ni 1) fun d => k d s) s fun P s =>
 z0 c true (fun k => z1 1 s M P k) s fun S s =>
 z0 c true (fun k => z4 s S k) s fun U s =>
 z0 c true (fun k => kLen U s k) s fun V s =>
 z0 c true (fun k => kEql V (ni 0) fun d => k d s) s fun W s =>
 zp c W (.b false) s fun X s =>
 z5 X
(retK false s (ni 1) some)
(retK false s (ni 0) some))) φ e h e B (ni 0) s)))) s0
def z5J (φ : Nat) : List D → Option D :=
fun as =>
(fun (s : LS) =>
 u1 as fun f g =>
 u1 g fun b h =>
 u0 h (
 kBox f s fun c s =>
 z3 1 s c fun i s =>
 isoK (z4w φ) [i] s fun d s =>
 kNeq d (ni 0) fun k =>
 z5 k
(retK false s d some)
(z3 1 s c fun l s =>
 isoK (z6b φ) [l, b] s fun e s =>
 kNeq e (ni 0) fun m =>
 z5 m
(retK false s e some)
(kLen b s fun n s =>
 kLss n (ni 2) fun o =>
 z5 o
(retK false s (ni 27) some)
(z3 1 s c fun p s =>
 isoK (zO φ) [p] s fun u s =>
 kLen b s fun v s =>
 kSub v (ni 1) fun w =>
 kMul u w fun y =>
 kGtr y (ni 24) fun z =>
 z5 z
(retK false s (ni 4) some)
(retK false s (ni 0) some)))))) s0
def z3u (φ : Nat) : List D → Option D :=
fun as =>
(fun (s : LS) =>
 u1 as fun b c =>
 u0 c (
 isoK (z2U φ) [b] s fun d s =>
 isoK (z3a φ) [b, d] s fun e s =>
 kLen e s fun f s =>
 kLeq f (ni 1) fun g =>
 retK false s g some)) s0
def zZ (φ : Nat) : List D → Option D :=
fun as =>
(fun (s : LS) =>
 u1 as fun b c =>
 u1 c fun d e =>
 u0 e (
 kBox b s fun f s =>
 z7 0 s f fun g s =>
 z4 s g fun h s =>
 isoK (z4c φ) [d, h] s fun i s =>
 retK false s i some)) s0
def z2D (φ : Nat) : List D → Option D :=
fun as =>
(fun (s : LS) =>
 u1 as fun b c =>
 u1 c fun d e =>
 u1 e fun f g =>
 u0 g (
 kBox b s fun h s =>
 z3 1 s h fun i s =>
 isoK (z2c φ) [d, f] s fun k s =>
 isoK (zZ φ) [i, k] s fun l s =>
 retK false s l some)) s0
def zK (φ : Nat) : List D → Option D :=
fun as =>
(fun (s : LS) =>
 u1 as fun g h =>
 u0 h (
 kLen g s fun i s =>
 lp (fun (_ _ : D) (_ : LS) => none) (fun (l : D → D → LS → Rs) (f e : D) (s : LS) =>
 kGtr e (ni 0) fun c =>
 z0 c true (fun k => k f s) s fun m s =>
 z0 c true (fun k => k e s) s fun n s =>
 z0 c true (fun k => kSub n (ni 1) fun d => k d s) s fun o s =>
 z0 c true (fun k => z1 1 s m o k) s fun p s =>
 z0 c true (fun k => z4 s p k) s fun u s =>
 z0 c true (fun k => kLen u s k) s fun v s =>
 z0 c true (fun k => kEql v (ni 0) fun d => k d s) s fun w s =>
 zp c w (.b false) s fun y s =>
 z5 y
(kSub e (ni 1) fun z =>
 l f z s)
(kBsl 0 [(.tree [] 0 true)] [] s fun A s =>
 z23 1 s f none (some e) none fun B s =>
 kApp 1 24 s A B fun C s =>
 retK false s C some)) φ g i s)) s0
def z5r (φ : Nat) : List D → Option D :=
fun as =>
(fun (s : LS) =>
 u1 as fun y z =>
 u1 z fun A B =>
 u1 B fun C E =>
 u0 E (
 kBox y s fun F s =>
 lp (fun (_ _ _ _ _ : D) (_ : LS) => none) (fun (G : D → D → D → D → D → LS → Rs) (l p H u v : D) (s : LS) =>
 kLen l s fun I s =>
 kLen p s fun J s =>
 kAdd I J fun K =>
 kSub K (ni 1) fun M =>
 kLss v M fun N =>
 z5 N
(kLen l s fun O s =>
 lp (fun (_ _ _ _ _ _ _ _ : D) (_ : LS) => none) (fun (P : D → D → D → D → D → D → D → D → LS → Rs) (h g i m f n o c : D) (s : LS) =>
 kLss c o fun S =>
 z5 S
(jn (fun (U V W X Y Z bb bc : D) (s : LS) =>
 kAdd bc (ni 1) fun bd =>
 P U V W X Y Z bb bd s) fun w =>
 kSub f c fun bf =>
 kGeq bf (ni 0) fun e =>
 z0 e true (fun k => k f s) s fun bg s =>
 z0 e true (fun k => k c s) s fun bh s =>
 z0 e true (fun k => kSub bg bh fun d => k d s) s fun bi s =>
 z0 e true (fun k => k g s) s fun bk s =>
 z0 e true (fun k => kLen bk s k) s fun bl s =>
 z0 e true (fun k => kLss bi bl fun d => k d s) s fun bm s =>
 zp e bm (.b false) s fun bn s =>
 z5 bn
(z1 1 s h c fun bo s =>
 z4 s bo fun bp s =>
 kSub f c fun bu =>
 z1 1 s g bu fun bv s =>
 z4 s bv fun bw s =>
 isoK (z2c φ) [bp, bw] s fun bz s =>
 isoK (z16 φ) [n, bz] s fun bA s =>
 w h g i m f bA o c s)
(w h g i m f n o c s))
(z3 1 s i fun bB s =>
 isoK (zZ φ) [bB, n] s fun bC s =>
 kBsl 1 [(.tree [] 0 true)] [(0, 1, bC)] s fun bE s =>
 kApp 1 24 s m bE fun bF s =>
 kAdd f (ni 1) fun bG =>
 G h g i bF bG s)) φ l p H u v (.tree [] 0 true) O (ni 0) s)
(isoK (zK φ) [u] s fun bH s =>
 retK false s bH some)) φ A C F (.tree [] 0 true) (ni 0) s)) s0
def z6O (φ : Nat) : List D → Option D :=
fun as =>
(fun (s : LS) =>
 u1 as fun c u =>
 u1 u fun d v =>
 u0 v (
 isoK (z3a φ) [c, d] s fun h s =>
 kLen d s fun w s =>
 kEql w (ni 0) fun y =>
 z5 y
(kLen c s fun z s =>
 kEql z (ni 0) fun A =>
 z5 A
(retK false s (.tup [(.tree [] 0 true), (.tree [] 0 true), (.tree [] 0 true)]) some)
(isoK (z1p φ) [c] s fun B s =>
 isoK (z1E φ) [B] s fun C s =>
 kBsl 1 [(.b false), (.n 0), (.n 0)] [(0, 3, C)] s fun E s =>
 retK false s (.tup [h, E, (.tree [] 0 true)]) some))
(kBsl 1 [(ni 0)] [(0, 1, (ni 1))] s fun F s =>
 isoK (zu φ) [F] s fun G s =>
 isoK (zu φ) [(.tree [] 0 true)] s fun H s =>
 lp (fun (_ _ _ _ _ _ _ : D) (_ : LS) => none) (fun (I : D → D → D → D → D → D → D → LS → Rs) (i f e k l g m : D) (s : LS) =>
 kLen g s fun J s =>
 kGtr J (ni 0) fun K =>
 z5 K
(isoK (z32 φ) [k, g] s fun o s =>
 kExt o 0 s fun M s =>
 kExt o 1 s fun N s =>
 isoK (z2c φ) [M, m] s fun O s =>
 isoK (z39 φ) [l, O] s fun P s =>
 I i f e g m N P s)
(isoK (z1p φ) [k] s fun S s =>
 isoK (z1E φ) [S] s fun U s =>
 isoK (zN φ) [l, U] s fun V s =>
 isoK (z2H φ) [f, e] s fun W s =>
 isoK (z4c φ) [V, W] s fun p s =>
 isoK (z2c φ) [p, i] s fun X s =>
 isoK (z39 φ) [e, X] s fun Y s =>
 isoK (z2H φ) [Y, f] s fun Z s =>
 retK false s (.tup [e, p, Z]) some)) φ c d h c G d H s))) s0
def z3C (φ : Nat) : List D → Option D :=
fun as =>
(fun (s : LS) =>
 u1 as fun d e =>
 u1 e fun f g =>
 u0 g (
 kBox d s fun c s =>
 z7 0 s c fun h s =>
 z4 s h fun i s =>
 isoK (z6O φ) [f, i] s fun b s =>
 kExt b 0 s fun n s =>
 kExt b 1 s fun k s =>
 kExt b 2 s fun o s =>
 z3 1 s c fun l s =>
 isoK (zZ φ) [l, k] s fun m s =>
 retK false s m some)) s0
def z2S (φ : Nat) : List D → Option D :=
fun as =>
(fun (s : LS) =>
 u1 as fun b c =>
 u0 c (
 kLen b s fun d s =>
 kEql d (ni 0) fun e =>
 z5 e
(retK false s (.tree [] 0 true) some)
(kLen b s fun f s =>
 kSub f (ni 1) fun g =>
 z1 1 s b g fun h s =>
 z4 s h fun i s =>
 retK false s i some))) s0
def z4S (φ : Nat) : List D → Option D :=
fun as =>
(fun (s : LS) =>
 u1 as fun f g =>
 u1 g fun h i =>
 u0 i (
 lp (fun (_ _ _ _ : D) (_ : LS) => none) (fun (k : D → D → D → D → LS → Rs) (b c d e : D) (s : LS) =>
 kLss e c fun l =>
 z5 l
(kBsl 1 [(.tree [] 0 true)] [(0, 1, (.tree [] 0 true))] s fun m s =>
 kApp 1 24 s d m fun n s =>
 kAdd e (ni 1) fun o =>
 k b c n o s)
(kBsl 1 [(.tree [] 0 true)] [(0, 1, b)] s fun p s =>
 kApp 1 24 s d p fun u s =>
 isoK (zK φ) [u] s fun v s =>
 retK false s v some)) φ f h (.tree [] 0 true) (ni 0) s)) s0
def z3x (φ : Nat) : List D → Option D :=
fun as =>
(fun (s : LS) =>
 u1 as fun b d =>
 u1 d fun c e =>
 u0 e (
 kLen b s fun f s =>
 kLss c f fun g =>
 z5 g
(z1 1 s b c fun h s =>
 z4 s h fun i s =>
 retK false s i some)
(retK false s (.tree [] 0 true) some))) s0
def z5t (φ : Nat) : List D → Option D :=
fun as =>
(fun (s : LS) =>
 u1 as fun g h =>
 u1 h fun i k =>
 u0 k (
 lp (fun (_ _ _ _ : D) (_ : LS) => none) (fun (l : D → D → D → D → LS → Rs) (d e f b : D) (s : LS) =>
 kLen d s fun m s =>
 kLen e s fun n s =>
 kS (.max (.c m) (.c n)) s fun o s =>
 kLss b o fun p =>
 z5 p
(isoK (z3x φ) [d, b] s fun u s =>
 isoK (z3x φ) [e, b] s fun v s =>
 isoK (z16 φ) [u, v] s fun w s =>
 kBsl 1 [(.tree [] 0 true)] [(0, 1, w)] s fun y s =>
 kApp 1 24 s f y fun z s =>
 kAdd b (ni 1) fun A =>
 l d e z A s)
(isoK (zK φ) [f] s fun B s =>
 retK false s B some)) φ g i (.tree [] 0 true) (ni 0) s)) s0
def z7L (φ : Nat) : List D → Option D :=
fun as =>
(fun (s : LS) =>
 u1 as fun g h =>
 u1 h fun i k =>
 u0 k (
 lp (fun (_ _ _ _ : D) (_ : LS) => none) (fun (l : D → D → D → D → LS → Rs) (d e f b : D) (s : LS) =>
 kLen d s fun m s =>
 kLen e s fun n s =>
 kS (.max (.c m) (.c n)) s fun o s =>
 kLss b o fun p =>
 z5 p
(isoK (z3x φ) [d, b] s fun u s =>
 isoK (z3x φ) [e, b] s fun v s =>
 isoK (z39 φ) [u, v] s fun w s =>
 kBsl 1 [(.tree [] 0 true)] [(0, 1, w)] s fun y s =>
 kApp 1 24 s f y fun z s =>
 kAdd b (ni 1) fun A =>
 l d e z A s)
(isoK (zK φ) [f] s fun B s =>
 retK false s B some)) φ g i (.tree [] 0 true) (ni 0) s)) s0
def z2Z (φ : Nat) : List D → Option D :=
fun as =>
(fun (s : LS) =>
 u1 as fun l m =>
 u1 m fun n o =>
 u1 o fun e p =>
 u0 p (
 kBox l s fun f s =>
 z3 1 s f fun u s =>
 isoK (z2S φ) [e] s fun v s =>
 isoK (z3C φ) [u, v] s fun w s =>
 isoK (zK φ) [n] s fun y s =>
 lp (fun (_ _ _ _ _ : D) (_ : LS) => none) (fun (z : D → D → D → D → D → LS → Rs) (c d g h b : D) (s : LS) =>
 kLen b s fun A s =>
 kLen c s fun B s =>
 kGeq A B fun C =>
 z5 C
(z3 1 s d fun E s =>
 isoK (z2S φ) [b] s fun F s =>
 isoK (z2D φ) [E, F, g] s fun G s =>
 kLen b s fun H s =>
 kLen c s fun I s =>
 kSub H I fun J =>
 isoK (z4S φ) [G, J] s fun i s =>
 isoK (z5t φ) [h, i] s fun K s =>
 z3 1 s d fun M s =>
 isoK (z5r φ) [M, i, c] s fun N s =>
 isoK (z7L φ) [b, N] s fun k s =>
 kLen k s fun O s =>
 kLen b s fun P s =>
 kGeq O P fun S =>
 z5 S
(retK false s (.tup [(.tree [] 0 true), (.tree [] 0 true)]) some)
(z c d g K k s))
(retK false s (.tup [h, b]) some)) φ e f w (.tree [] 0 true) y s)) s0
def z3s (φ : Nat) : List D → Option D :=
fun as =>
(fun (s : LS) =>
 u1 as fun b c =>
 u1 c fun d e =>
 u0 e (
 kBox b s fun f s =>
 z7 0 s f fun g s =>
 z4 s g fun h s =>
 isoK (z3a φ) [d, h] s fun i s =>
 kLen i s fun k s =>
 kEql k (ni 1) fun l =>
 retK false s l some)) s0
def z35 (φ : Nat) : List D → Option D :=
fun as =>
(fun (s : LS) =>
 u1 as fun e f =>
 u1 f fun d g =>
 u0 g (
 kBox e s fun h s =>
 kLen d s fun i s =>
 kGtr i (ni 0) fun c =>
 z0 c true (fun k => z3 1 s h k) s fun l s =>
 z0 c true (fun k => k d s) s fun m s =>
 z0 c true (fun k => isoK (z2S φ) [m] s k) s fun n s =>
 z0 c true (fun k => isoK (z3s φ) [l, n] s k) s fun o s =>
 zp c o (.b false) s fun p s =>
 retK false s p some)) s0
def z69 (φ : Nat) : List D → Option D :=
fun as =>
(fun (s : LS) =>
 u1 as fun i k =>
 u1 k fun c l =>
 u1 l fun m n =>
 u0 n (
 kBox i s fun o s =>
 kLen c s fun p s =>
 lp (fun (_ _ _ _ _ _ : D) (_ : LS) => none) (fun (u : D → D → D → D → D → D → LS → Rs) (d e f g h b : D) (s : LS) =>
 kLss b h fun v =>
 z5 v
(z1 1 s g b fun w s =>
 z4 s w fun y s =>
 z3 1 s e fun z s =>
 isoK (z2D φ) [z, y, d] s fun A s =>
 kBsl 1 [(.tree [] 0 true)] [(0, 1, A)] s fun B s =>
 kApp 1 24 s f B fun C s =>
 kAdd b (ni 1) fun E =>
 u d e C g h E s)
(isoK (zK φ) [f] s fun F s =>
 retK false s F some)) φ m o (.tree [] 0 true) c p (ni 0) s)) s0
def z6a (φ : Nat) : List D → Option D :=
fun as =>
(fun (s : LS) =>
 u1 as fun e f =>
 u1 f fun c g =>
 u0 g (
 kBox e s fun d s =>
 kLen c s fun h s =>
 kEql h (ni 0) fun i =>
 z5 i
(retK false s (.tup [(.tree [] 0 true), (.b true)]) some)
(z3 1 s d fun k s =>
 isoK (z35 φ) [k, c] s fun l s =>
 kNot l s fun m s =>
 z5 m
(retK false s (.tup [(.tree [] 0 true), (.b false)]) some)
(z3 1 s d fun n s =>
 z3 1 s d fun o s =>
 isoK (z2S φ) [c] s fun p s =>
 isoK (z3C φ) [o, p] s fun u s =>
 isoK (z69 φ) [n, c, u] s fun v s =>
 retK false s (.tup [v, (.b true)]) some)))) s0
def z5s (φ : Nat) : List D → Option D :=
fun as =>
(fun (s : LS) =>
 u1 as fun h i =>
 u1 i fun k l =>
 u1 l fun m n =>
 u0 n (
 kBox h s fun o s =>
 lp (fun (_ _ _ : D) (_ : LS) => none) (fun (p : D → D → D → LS → Rs) (e c d : D) (s : LS) =>
 kLen c s fun u s =>
 kGtr u (ni 0) fun v =>
 z5 v
(z3 1 s d fun w s =>
 isoK (z35 φ) [w, c] s fun y s =>
 kNot y s fun z s =>
 z5 z
(retK false s (.tup [(.tree [] 0 true), (.b false)]) some)
(z3 1 s d fun A s =>
 isoK (z2Z φ) [A, e, c] s fun f s =>
 kExt f 0 s fun G s =>
 kExt f 1 s fun B s =>
 p c B d s))
(z3 1 s d fun C s =>
 isoK (z6a φ) [C, e] s fun g s =>
 kExt g 0 s fun E s =>
 kExt g 1 s fun F s =>
 retK false s (.tup [E, F]) some)) φ k m o s)) s0
def z47 (φ : Nat) : List D → Option D :=
fun as =>
(fun (s : LS) =>
 u1 as fun e f =>
 u0 f (
 lp (fun (_ _ _ : D) (_ : LS) => none) (fun (g : D → D → D → LS → Rs) (c d b : D) (s : LS) =>
 kLen c s fun h s =>
 kLss b h fun i =>
 z5 i
(z1 1 s c b fun k s =>
 z4 s k fun l s =>
 isoK (zd φ) [b] s fun m s =>
 isoK (zN φ) [l, m] s fun n s =>
 kBsl 1 [(.tree [] 0 true)] [(0, 1, n)] s fun o s =>
 kApp 1 24 s d o fun p s =>
 kAdd b (ni 1) fun u =>
 g c p u s)
(isoK (zK φ) [d] s fun v s =>
 retK false s v some)) φ e (.tree [] 0 true) (ni 1) s)) s0
def z5L (φ : Nat) : List D → Option D :=
fun as =>
(fun (s : LS) =>
 u1 as fun g h =>
 u0 h (
 lp (fun (_ _ _ : D) (_ : LS) => none) (fun (i : D → D → D → LS → Rs) (d e b : D) (s : LS) =>
 kLss b d fun k =>
 z5 k
(jn (fun (l m n : D) (s : LS) =>
 kAdd n (ni 1) fun o =>
 i l m o s) fun f =>
 kRem b (ni 2) fun p =>
 kEql p (ni 1) fun u =>
 z5 u
(kAdd b (ni 1) fun v =>
 kQuo v (ni 2) fun w =>
 kBsl 1 [(ni 0)] [(0, 1, w)] s fun y s =>
 kApp 1 8 s e y fun z s =>
 f d z b s)
(kS (.neg (.c b)) s fun A s =>
 kQuo A (ni 2) fun B =>
 kBsl 1 [(ni 0)] [(0, 1, B)] s fun C s =>
 kApp 1 8 s e C fun E s =>
 f d E b s))
(retK false s e some)) φ g (.tree [] 0 true) (ni 0) s)) s0
def z4t (φ : Nat) : List D → Option D :=
fun as =>
(fun (s : LS) =>
 u1 as fun h i =>
 u1 i fun d k =>
 u1 k fun l m =>
 u0 m (
 kBox h s fun n s =>
 kLen d s fun o s =>
 kSub o (ni 1) fun p =>
 lp (fun (_ _ _ _ _ : D) (_ : LS) => none) (fun (u : D → D → D → D → D → LS → Rs) (e f b g c : D) (s : LS) =>
 kGeq c (ni 0) fun v =>
 z5 v
(z3 1 s b fun w s =>
 z3 1 s b fun y s =>
 kBsl 1 [(ni 0)] [(0, 1, (ni 1))] s fun z s =>
 isoK (zu φ) [z] s fun A s =>
 isoK (zZ φ) [y, A] s fun B s =>
 kBsl 2 [(.tree [] 0 true)] [(0, 1, f), (1, 1, B)] s fun C s =>
 isoK (zK φ) [C] s fun E s =>
 isoK (z5r φ) [w, g, E] s fun F s =>
 z1 1 s e c fun G s =>
 z4 s G fun H s =>
 kBsl 1 [(.tree [] 0 true)] [(0, 1, H)] s fun I s =>
 isoK (zK φ) [I] s fun J s =>
 isoK (z5t φ) [F, J] s fun K s =>
 kSub c (ni 1) fun M =>
 u e f b K M s)
(retK false s g some)) φ d l n (.tree [] 0 true) p s)) s0
def z4v (φ : Nat) : List D → Option D :=
fun as =>
(fun (s : LS) =>
 u1 as fun b c =>
 u0 c (
 kBox b s fun d s =>
 z3 1 s d fun e s =>
 kBsl 2 [(ni 0)] [(0, 1, (ni 0)), (1, 1, (ni 1))] s fun f s =>
 isoK (zu φ) [f] s fun g s =>
 isoK (zZ φ) [e, g] s fun h s =>
 retK false s h some)) s0
def z4s (φ : Nat) : List D → Option D :=
fun as =>
(fun (s : LS) =>
 u1 as fun b c =>
 u1 c fun d e =>
 u0 e (
 kBox b s fun f s =>
 z3 1 s f fun g s =>
 isoK (z4v φ) [g] s fun h s =>
 isoK (zd φ) [d] s fun i s =>
 isoK (zN φ) [h, i] s fun k s =>
 retK false s k some)) s0
def z50 (φ : Nat) : List D → Option D :=
fun as =>
(fun (s : LS) =>
 u1 as fun h i =>
 u1 i fun c k =>
 u1 k fun l m =>
 u0 m (
 kBox h s fun n s =>
 kLen c s fun o s =>
 kSub o (ni 1) fun p =>
 lp (fun (_ _ _ _ _ : D) (_ : LS) => none) (fun (u : D → D → D → D → D → LS → Rs) (d e f g b : D) (s : LS) =>
 kGeq b (ni 0) fun v =>
 z5 v
(z3 1 s f fun w s =>
 isoK (z2D φ) [w, g, e] s fun y s =>
 z1 1 s d b fun z s =>
 z4 s z fun A s =>
 isoK (z16 φ) [y, A] s fun B s =>
 kSub b (ni 1) fun C =>
 u d e f B C s)
(retK false s g some)) φ c l n (.tree [] 0 true) p s)) s0
def z5x (φ : Nat) : List D → Option D :=
fun as =>
(fun (s : LS) =>
 u1 as fun d e =>
 u1 e fun f g =>
 u0 g (
 kBox d s fun h s =>
 kBox f s fun i s =>
 z9 [(.b false), (.n 0), (.n 0)] s fun c s =>
 z3 3 s h fun k s =>
 z3 3 s i fun l s =>
 isoK (z3b φ) [l] s fun m s =>
 isoK (z3d φ) [k, m] s fun o s =>
 z6 3 s c o fun _ s =>
 z3 3 s c fun p _ =>
 retK false s p some)) s0
def z3Z (φ : Nat) : List D → Option D :=
fun as =>
(fun (s : LS) =>
 u1 as fun b c =>
 u0 c (
 kBox b s fun d s =>
 z3 3 s d fun e s =>
 isoK (z2V φ) [e] s fun f s =>
 kEql f (ni 0) fun g =>
 retK false s g some)) s0
def z5R (φ : Nat) : List D → Option D :=
fun as =>
(fun (s : LS) =>
 u1 as fun d k =>
 u1 k fun l m =>
 u0 m (
 kBox l s fun o s =>
 kLen d s fun p s =>
 lp (fun (_ _ _ _ _ : D) (_ : LS) => none) (fun (u : D → D → D → D → D → LS → Rs) (e f g h c : D) (s : LS) =>
 kLss c h fun v =>
 z5 v
(z1 3 s g c fun w s =>
 z3 3 s w fun y s =>
 z9 [(.b false), (.n 0), (.n 0)] s fun i s =>
 z6 3 s i y fun _ s =>
 z3 3 s i fun z s =>
 z3 3 s e fun A s =>
 isoK (z1h φ) [z, A] s fun B s =>
 kBsl 1 [(.b false), (.n 0), (.n 0)] [(0, 3, B)] s fun C s =>
 kApp 3 40 s f C fun E s =>
 kAdd c (ni 1) fun F =>
 u e E g h F s)
(retK false s f some)) φ o (.tree [] 0 true) d p (ni 0) s)) s0
def z5d (φ : Nat) : List D → Option D :=
fun as =>
(fun (s : LS) =>
 u1 as fun c l =>
 u1 l fun m o =>
 u1 o fun p u =>
 u0 u (
 z1 3 s c p fun v s =>
 z3 3 s v fun w s =>
 z9 [(.b false), (.n 0), (.n 0)] s fun e s =>
 z6 3 s e w fun _ s =>
 z3 3 s e fun y s =>
 isoK (z3Z φ) [y] s fun z s =>
 z5 z
(retK false s c some)
(kLen c s fun A s =>
 lp (fun (_ _ _ _ _ _ : D) (_ : LS) => none) (fun (B : D → D → D → D → D → D → LS → Rs) (f g h i k d : D) (s : LS) =>
 kLss d k fun C =>
 z5 C
(z1 3 s f d fun E s =>
 z3 3 s E fun F s =>
 z3 3 s h fun G s =>
 z1 3 s g d fun H s =>
 z3 3 s H fun I s =>
 isoK (z1h φ) [G, I] s fun J s =>
 isoK (z5x φ) [F, J] s fun K s =>
 kBsl 1 [(.b false), (.n 0), (.n 0)] [(0, 3, K)] s fun M s =>
 kApp 3 40 s i M fun N s =>
 kAdd d (ni 1) fun O =>
 B f g h N k O s)
(retK false s i some)) φ c m e (.tree [] 0 true) A (ni 0) s))) s0
def z7R (φ : Nat) : List D → Option D :=
fun as =>
(fun (s : LS) =>
 u1 as fun I W =>
 u0 W (
 z9 [(.b false), (.n 0), (.n 0)] s fun X s =>
 kBsl 0 [(.tree [] 0 true)] [] s fun Y s =>
 kApp 1 24 s Y I fun Z s =>
 isoK (zd φ) [(ni 1)] s fun bb s =>
 z9 [(.b false), (.n 0), (.n 0)] s fun J s =>
 z6 3 s J bb fun _ s =>
 lp (fun (_ _ _ _ _ : D) (_ : LS) => none) (fun (bc : D → D → D → D → D → LS → Rs) (K v M N O : D) (s : LS) =>
 kLen K s fun bd s =>
 kLss O bd fun bf =>
 z5 bf
(kLen M s fun bg s =>
 lp (fun (_ _ _ _ _ _ _ _ : D) (_ : LS) => none) (fun (bh : D → D → D → D → D → D → D → D → LS → Rs) (o f g d h e w l : D) (s : LS) =>
 kLss l w fun bi =>
 z5 bi
(jn (fun (bk bl bm bn bo bp bu bv : D) (s : LS) =>
 kAdd bv (ni 1) fun bw =>
 bh bk bl bm bn bo bp bu bw s) fun P =>
 kLss e (ni 0) fun c =>
 z0 c true (fun k => k g s) s fun bz s =>
 z0 c true (fun k => k l s) s fun bA s =>
 z0 c true (fun k => z1 1 s bz bA k) s fun bB s =>
 z0 c true (fun k => z4 s bB k) s fun bC s =>
 z0 c true (fun k => k h s) s fun bE s =>
 z0 c true (fun k => z1 3 s bC bE k) s fun bF s =>
 z0 c true (fun k => z3 3 s bF k) s fun bG s =>
 z0 c true (fun k => isoK (z3Z φ) [bG] s k) s fun bH s =>
 z0 c true (fun k => kNot bH s k) s fun bI s =>
 zp c bI (.b false) s fun bJ s =>
 z5 bJ
(P o f g d h l w l s)
(P o f g d h e w l s))
(kLss e (ni 0) fun bK =>
 z5 bK
(isoK (zd φ) [(ni 0)] s fun bM s =>
 z6 3 s f bM fun _ s =>
 z3 3 s f fun bN _ =>
 retK false s bN some)
(z3 3 s d fun bO s =>
 z1 1 s g e fun bP s =>
 z4 s bP fun bS s =>
 z1 3 s bS h fun bU s =>
 z3 3 s bU fun bV s =>
 isoK (z1h φ) [bO, bV] s fun bW s =>
 z6 3 s d bW fun _ s =>
 jn (fun (bX bY p bZ S y : D) (s : LS) =>
 z1 1 s p y fun cb s =>
 z4 s cb fun cc s =>
 z1 1 s p y fun cd s =>
 z4 s cd fun ce s =>
 z1 3 s ce S fun cf s =>
 z3 3 s cf fun cg s =>
 isoK (z1E φ) [cg] s fun ch s =>
 isoK (z5R φ) [cc, ch] s fun ci s =>
 kLen p s fun ck s =>
 lp (fun (_ _ _ _ _ _ _ _ _ _ : D) (_ : LS) => none) (fun (cl : D → D → D → D → D → D → D → D → D → D → LS → Rs) (z A B C u E F G H m : D) (s : LS) =>
 kLss m H fun cm =>
 z5 cm
(jn (fun (cn co cp cu cv cw cy cz cA cB : D) (s : LS) =>
 kAdd cB (ni 1) fun cC =>
 cl cn co cp cu cv cw cy cz cA cC s) fun U =>
 kNeq m E fun cE =>
 z5 cE
(z1 1 s B m fun cF s =>
 z4 s cF fun cG s =>
 isoK (z5d φ) [cG, F, u] s fun cH s =>
 kBsl 1 [(.tree [] 0 true)] [(0, 1, cH)] s fun cI s =>
 kApp 1 24 s G cI fun cJ s =>
 U z A B C u E F cJ H m s)
(U z A B C u E F G H m s))
(kAdd u (ni 1) fun cK =>
 bc z A G C cK s)) φ bX bY p bZ S y ci (.tree [] 0 true) ck (ni 0) s) fun V =>
 kRem e (ni 2) fun cM =>
 kEql cM (ni 1) fun cN =>
 z5 cN
(z3 3 s d fun cO s =>
 isoK (z3b φ) [cO] s fun cP s =>
 z6 3 s d cP fun _ s =>
 V o f g d h e s)
(V o f g d h e s)))) φ K v M N O (.i .i64 (.negSucc 0)) bg (ni 0) s)
(z3 3 s N fun cS s =>
 z6 3 s v cS fun _ s =>
 z3 3 s v fun cU _ =>
 retK false s cU some)) φ I X Z J (ni 0) s)) s0
def z7M (φ : Nat) : List D → Option D :=
fun as =>
(fun (s : LS) =>
 u1 as fun h i =>
 u1 i fun k l =>
 u0 l (
 kBox h s fun m s =>
 lp (fun (_ _ _ _ : D) (_ : LS) => none) (fun (o : D → D → D → D → LS → Rs) (d e f c : D) (s : LS) =>
 z3 1 s e fun p s =>
 isoK (zO φ) [p] s fun u s =>
 kLss c u fun v =>
 z5 v
(jn (fun (w y z A : D) (s : LS) =>
 kAdd A (ni 1) fun B =>
 o w y z B s) fun g =>
 kLen d s fun C s =>
 kLss c C fun E =>
 z5 E
(z1 3 s d c fun F s =>
 z3 3 s F fun G s =>
 kBsl 1 [(.b false), (.n 0), (.n 0)] [(0, 3, G)] s fun H s =>
 kApp 3 40 s f H fun I s =>
 g d e I c s)
(isoK (zd φ) [(ni 0)] s fun J s =>
 kBsl 1 [(.b false), (.n 0), (.n 0)] [(0, 3, J)] s fun K s =>
 kApp 3 40 s f K fun M s =>
 g d e M c s))
(retK false s f some)) φ k m (.tree [] 0 true) (ni 0) s)) s0
def z5N (φ : Nat) : List D → Option D :=
fun as =>
(fun (s : LS) =>
 u1 as fun f g =>
 u1 g fun h i =>
 u0 i (
 kBox f s fun k s =>
 lp (fun (_ _ _ _ : D) (_ : LS) => none) (fun (l : D → D → D → D → LS → Rs) (d b e c : D) (s : LS) =>
 z3 1 s b fun m s =>
 isoK (zO φ) [m] s fun n s =>
 kLss c n fun o =>
 z5 o
(z3 1 s b fun p s =>
 z3 1 s b fun u s =>
 z3 1 s b fun v s =>
 isoK (zd φ) [(ni 1)] s fun w s =>
 isoK (z1V φ) [w, c] s fun y s =>
 isoK (zZ φ) [v, y] s fun z s =>
 isoK (z2D φ) [u, d, z] s fun A s =>
 isoK (z7M φ) [p, A] s fun B s =>
 kBsl 1 [(.tree [] 0 true)] [(0, 1, B)] s fun C s =>
 kApp 1 24 s e C fun E s =>
 kAdd c (ni 1) fun F =>
 l d b E F s)
(retK false s e some)) φ h k (.tree [] 0 true) (ni 0) s)) s0
def z6H (φ : Nat) : List D → Option D :=
fun as =>
(fun (s : LS) =>
 u1 as fun d e =>
 u1 e fun f g =>
 u0 g (
 kBox d s fun h s =>
 z9 [(.b false), (.n 0), (.n 0)] s fun c s =>
 z3 1 s h fun i s =>
 isoK (z5N φ) [i, f] s fun k s =>
 isoK (z7R φ) [k] s fun l s =>
 z6 3 s c l fun _ s =>
 z3 3 s c fun m _ =>
 retK false s m some)) s0
def z52 (φ : Nat) : List D → Option D :=
fun as =>
(fun (s : LS) =>
 u1 as fun f k =>
 u1 k fun l m =>
 u0 m (
 kBox l s fun o s =>
 z9 [(.b false), (.n 0), (.n 0)] s fun p s =>
 isoK (zd φ) [(ni 0)] s fun u s =>
 z9 [(.b false), (.n 0), (.n 0)] s fun g s =>
 z6 3 s g u fun _ s =>
 kLen f s fun v s =>
 kSub v (ni 1) fun w =>
 lp (fun (_ _ _ _ _ : D) (_ : LS) => none) (fun (y : D → D → D → D → D → LS → Rs) (h i d c e : D) (s : LS) =>
 kGeq e (ni 0) fun z =>
 z5 z
(z3 3 s c fun A s =>
 z3 3 s i fun B s =>
 isoK (z1h φ) [A, B] s fun C s =>
 z1 3 s h e fun E s =>
 z3 3 s E fun F s =>
 isoK (z3d φ) [C, F] s fun G s =>
 z6 3 s c G fun _ s =>
 kSub e (ni 1) fun H =>
 y h i d c H s)
(z3 3 s c fun I s =>
 z6 3 s d I fun _ s =>
 z3 3 s d fun J _ =>
 retK false s J some)) φ f o p g w s)) s0
def z6G (φ : Nat) : List D → Option D :=
fun as =>
(fun (s : LS) =>
 u1 as fun p u =>
 u1 u fun d v =>
 u0 v (
 kBox p s fun i s =>
 kLen d s fun w s =>
 kEql w (ni 0) fun y =>
 z5 y
(retK false s (.tree [] 0 true) some)
(z3 1 s i fun z s =>
 isoK (zO φ) [z] s fun A s =>
 kLen d s fun B s =>
 kSub B (ni 1) fun C =>
 kMul A C fun E =>
 kBsl 1 [(ni 0)] [(0, 1, (ni 1))] s fun F s =>
 isoK (zu φ) [F] s fun G s =>
 lp (fun (_ _ _ _ _ _ : D) (_ : LS) => none) (fun (H : D → D → D → D → D → D → LS → Rs) (k e l f g h : D) (s : LS) =>
 kLeq h l fun I =>
 z5 I
(isoK (zd φ) [h] s fun J s =>
 z9 [(.b false), (.n 0), (.n 0)] s fun c s =>
 z6 3 s c J fun _ s =>
 z3 1 s e fun K s =>
 z3 1 s e fun M s =>
 z3 3 s c fun N s =>
 isoK (z2A φ) [N] s fun O s =>
 isoK (z50 φ) [M, k, O] s fun P s =>
 isoK (z6H φ) [K, P] s fun S s =>
 z9 [(.b false), (.n 0), (.n 0)] s fun m s =>
 z6 3 s m S fun _ s =>
 z3 3 s m fun U s =>
 z3 3 s c fun V s =>
 isoK (z52 φ) [f, V] s fun W s =>
 isoK (z5x φ) [U, W] s fun X s =>
 z9 [(.b false), (.n 0), (.n 0)] s fun o s =>
 z6 3 s o X fun _ s =>
 z3 3 s o fun Y s =>
 z3 3 s c fun Z s =>
 isoK (z52 φ) [g, Z] s fun bb s =>
 isoK (z3c φ) [Y, bb] s fun bc s =>
 isoK (zN φ) [g, bc] s fun bd s =>
 isoK (z16 φ) [f, bd] s fun bf s =>
 z3 3 s c fun bg s =>
 isoK (z3b φ) [bg] s fun bh s =>
 isoK (zd φ) [(ni 1)] s fun bi s =>
 kBsl 2 [(.b false), (.n 0), (.n 0)] [(0, 3, bh), (3, 3, bi)] s fun bk s =>
 isoK (z2c φ) [g, bk] s fun bl s =>
 kAdd h (ni 1) fun bm =>
 H k e l bf bl bm s)
(retK false s f some)) φ d i E (.tree [] 0 true) G (ni 0) s))) s0
def z4V (φ : Nat) : List D → Option D :=
fun as =>
(fun (s : LS) =>
 u1 as fun d i =>
 u0 i (
 kLen d s fun k s =>
 lp (fun (_ _ _ _ : D) (_ : LS) => none) (fun (l : D → D → D → D → LS → Rs) (e f g c : D) (s : LS) =>
 kLss c g fun m =>
 z5 m
(z1 2 s f c fun o s =>
 z3 2 s o fun p s =>
 z9 [(.b false), (.n 0)] s fun h s =>
 z6 2 s h p fun _ s =>
 z3 2 s h fun u s =>
 isoK (z2F φ) [u] s fun v s =>
 kBsl 1 [(.b false), (.n 0), (.n 0)] [(0, 3, v)] s fun w s =>
 kApp 3 40 s e w fun y s =>
 kAdd c (ni 1) fun z =>
 l y f g z s)
(retK false s e some)) φ (.tree [] 0 true) d k (ni 0) s)) s0
def z5g (φ : Nat) : List D → Option D :=
fun as =>
(fun (s : LS) =>
 u1 as fun d e =>
 u1 e fun f g =>
 u0 g (
 kBox d s fun b s =>
 kBox f s fun c s =>
 z7 0 s b fun h s =>
 z3 2 s h fun i s =>
 z3 3 s c fun k s =>
 isoK (zA φ) [k] s fun l s =>
 isoK (zo φ) [i, l] s fun m s =>
 z7 0 s c fun n s =>
 z3 2 s n fun o s =>
 z3 3 s b fun p s =>
 isoK (zA φ) [p] s fun u s =>
 isoK (zo φ) [o, u] s fun v s =>
 isoK (z2e φ) [m, v] s fun w s =>
 retK false s w some)) s0
def z5c (φ : Nat) : List D → Option D :=
fun as =>
(fun (s : LS) =>
 u1 as fun b k =>
 u1 k fun d l =>
 u0 l (
 kLen b s fun m s =>
 kLen d s fun n s =>
 kNeq m n fun o =>
 z5 o
(kLen b s fun p s =>
 kLen d s fun u s =>
 kLss p u fun v =>
 z5 v
(retK false s (.i .i64 (.negSucc 0)) some)
(retK false s (ni 1) some))
(kLen b s fun w s =>
 lp (fun (_ _ _ _ : D) (_ : LS) => none) (fun (y : D → D → D → D → LS → Rs) (e f g c : D) (s : LS) =>
 kLss c g fun z =>
 z5 z
(z1 3 s e c fun A s =>
 z3 3 s A fun B s =>
 z1 3 s f c fun C s =>
 z3 3 s C fun E s =>
 isoK (z5g φ) [B, E] s fun h s =>
 kNeq h (ni 0) fun F =>
 z5 F
(retK false s h some)
(kAdd c (ni 1) fun G =>
 y e f g G s))
(retK false s (ni 0) some)) φ b d w (ni 0) s))) s0
def z58 (φ : Nat) : List D → Option D :=
fun as =>
(fun (s : LS) =>
 u1 as fun b k =>
 u1 k fun d l =>
 u0 l (
 kLen b s fun m s =>
 kLen d s fun n s =>
 kNeq m n fun o =>
 z5 o
(kLen b s fun p s =>
 kLen d s fun u s =>
 kLss p u fun v =>
 z5 v
(retK false s (.i .i64 (.negSucc 0)) some)
(retK false s (ni 1) some))
(kLen b s fun w s =>
 lp (fun (_ _ _ _ : D) (_ : LS) => none) (fun (y : D → D → D → D → LS → Rs) (e f g c : D) (s : LS) =>
 kLss c g fun z =>
 z5 z
(z1 1 s e c fun A s =>
 z4 s A fun B s =>
 z1 1 s f c fun C s =>
 z4 s C fun E s =>
 isoK (z5c φ) [B, E] s fun h s =>
 kNeq h (ni 0) fun F =>
 z5 F
(retK false s h some)
(kAdd c (ni 1) fun G =>
 y e f g G s))
(retK false s (ni 0) some)) φ b d w (ni 0) s))) s0
def z5K (φ : Nat) : List D → Option D :=
fun as =>
(fun (s : LS) =>
 u1 as fun i l =>
 u1 l fun m n =>
 u0 n (
 lp (fun (_ _ _ : D) (_ : LS) => none) (fun (o : D → D → D → LS → Rs) (f h g : D) (s : LS) =>
 kLen f s fun p s =>
 kLss g p fun e =>
 z0 e true (fun k => k f s) s fun u s =>
 z0 e true (fun k => k g s) s fun v s =>
 z0 e true (fun k => kS (.pia 1 (.c u) (.c v)) s k) s fun w s =>
 z0 e true (fun k => kS (.pld1 (.c w)) s k) s fun y s =>
 z0 e true (fun k => k h s) s fun z s =>
 z0 e true (fun k => isoK (z58 φ) [y, z] s k) s fun A s =>
 z0 e true (fun k => kLss A (ni 0) fun d => k d s) s fun B s =>
 zp e B (.b false) s fun C s =>
 z5 C
(kAdd g (ni 1) fun E =>
 o f h E s)
(kS (.pbs 0 [(.tree [] 0 true)] []) s fun F s =>
 kS (.psl 1 (.c f) none (some (.c g)) none) s fun G s =>
 kApp 1 24 s F G fun H s =>
 kS (.pbs 1 [(.tree [] 0 true)] [(0, 1, (.c h))]) s fun I s =>
 kApp 1 24 s H I fun J s =>
 kS (.psl 1 (.c f) (some (.c g)) none none) s fun K s =>
 kApp 1 24 s J K fun M s =>
 retK true s M some)) φ i m (ni 0) s)) s0
def z68 (φ : Nat) : List D → Option D :=
fun as =>
(fun (s : LS) =>
 u1 as fun G H =>
 u1 H fun e I =>
 u0 I (
 kBox G s fun f s =>
 z3 1 s f fun J s =>
 isoK (z47 φ) [e] s fun K s =>
 isoK (z5s φ) [J, e, K] s fun i s =>
 kExt i 0 s fun M s =>
 kExt i 1 s fun bG s =>
 z3 1 s f fun N s =>
 isoK (z2Z φ) [N, e, M] s fun k s =>
 kExt k 0 s fun O s =>
 kExt k 1 s fun bH s =>
 isoK (z5L φ) [(ni 200)] s fun l s =>
 kLen l s fun P s =>
 lp (fun (_ _ _ _ _ : D) (_ : LS) => none) (fun (S : D → D → D → D → D → LS → Rs) (b m n o g : D) (s : LS) =>
 kLss g o fun U =>
 z5 U
(z1 1 s n g fun V s =>
 z4 s V fun p s =>
 z3 1 s b fun W s =>
 z3 1 s b fun X s =>
 isoK (z4s φ) [X, p] s fun Y s =>
 isoK (z4t φ) [W, m, Y] s fun u s =>
 z3 1 s b fun Z s =>
 isoK (z6G φ) [Z, u] s fun v s =>
 isoK (z3u φ) [v] s fun bb s =>
 kNot bb s fun bc s =>
 z5 bc
(kAdd g (ni 1) fun bd =>
 S b m n o bd s)
(isoK (z3W φ) [v] s fun bf s =>
 zdJ 3 bf s fun w s =>
 kLen w s fun bg s =>
 lp (fun (_ _ _ _ _ _ _ : D) (_ : LS) => none) (fun (bh : D → D → D → D → D → D → D → LS → Rs) (d y z A B C h : D) (s : LS) =>
 kLss h C fun bi =>
 z5 bi
(z1 2 s B h fun bk s =>
 z3 2 s bk fun bl s =>
 z9 [(.tree [] 0 true), (ni 0)] s fun E s =>
 z6 2 s E bl fun _ s =>
 z3 1 s d fun bm s =>
 z7 0 s E fun bn s =>
 z4 s bn fun bo s =>
 isoK (z4V φ) [bo] s fun bp s =>
 isoK (z1c φ) [bp] s fun bu s =>
 isoK (z5s φ) [bm, z, bu] s fun F s =>
 kExt F 0 s fun bv s =>
 kExt F 1 s fun bI s =>
 z3 1 s d fun bw s =>
 z3 1 s d fun bz s =>
 kS (.neg (.c y)) s fun bA s =>
 isoK (z4s φ) [bz, bA] s fun bB s =>
 isoK (z4t φ) [bw, bv, bB] s fun bC s =>
 isoK (z5K φ) [A, bC] s fun bE s =>
 kAdd h (ni 1) fun bF =>
 bh d y z bE B C bF s)
(retK false s A some)) φ b p u (.tree [] 0 true) w bg (ni 0) s))
(retK false s (.tree [] 0 true) some)) φ f O l P (ni 0) s)) s0
def z5M (φ : Nat) : List D → Option D :=
fun as =>
(fun (s : LS) =>
 u1 as fun A B =>
 u1 B fun d C =>
 u0 C (
 kBox A s fun m s =>
 kLen d s fun E s =>
 kLss E (ni 2) fun F =>
 z5 F
(retK false s (.tree [] 0 true) some)
(z3 1 s m fun G s =>
 isoK (z68 φ) [G, d] s fun n s =>
 kLen n s fun H s =>
 lp (fun (_ _ _ _ _ _ : D) (_ : LS) => none) (fun (I : D → D → D → D → D → D → LS → Rs) (o J p u v e : D) (s : LS) =>
 kLss e v fun K =>
 z5 K
(z1 1 s u e fun M s =>
 z4 s M fun N s =>
 jn (fun (O P S U V W X Y : D) (s : LS) =>
 zI [(.tree [] 0 true), (ni 0)] [(0, 1, U), (1, 1, V)] s fun Z s =>
 kBsl 1 [(.tree [] 0 true), (ni 0)] [(0, 2, Z)] s fun bb s =>
 kApp 2 32 s S bb fun bc s =>
 kAdd Y (ni 1) fun bd =>
 I O P bc W X bd s) fun w =>
 lp (fun (_ _ _ _ _ _ _ _ _ : D) (_ : LS) => none) (fun (bf : D → D → D → D → D → D → D → D → D → LS → Rs) (f c g b h y i k l : D) (s : LS) =>
 kLen y s fun bg s =>
 kLen b s fun bh s =>
 kGeq bg bh fun bi =>
 z5 bi
(z3 1 s c fun bk s =>
 isoK (z2Z φ) [bk, y, b] s fun z s =>
 kExt z 0 s fun bl s =>
 kExt z 1 s fun bm s =>
 kLen bm s fun bn s =>
 kGtr bn (ni 0) fun bo =>
 z5 bo
(w f c g b h i k l s)
(kAdd h (ni 1) fun bp =>
 bf f c g b bp bl i k l s))
(w f c g b h i k l s)) φ o J p N (ni 0) o u v e s)
(retK false s p some)) φ d m (.tree [] 0 true) n H (ni 0) s))) s0
def z3j (φ : Nat) : List D → Option D :=
fun as =>
(fun (s : LS) =>
 u1 as fun f g =>
 u1 g fun h i =>
 u0 i (
 kBox f s fun l s =>
 z3 1 s l fun m s =>
 isoK (z5M φ) [m, h] s fun e s =>
 kLen e s fun n s =>
 kEql n (ni 1) fun c =>
 z0 c true (fun k => k e s) s fun o s =>
 z0 c true (fun k => z1 2 s o (ni 0) k) s fun p s =>
 z0 c true (fun k => z7 1 s p k) s fun u s =>
 z0 c true (fun k => z4 s u k) s fun v s =>
 z0 c true (fun k => kEql v (ni 1) fun d => k d s) s fun w s =>
 zp c w (.b false) s fun y s =>
 retK false s y some)) s0
def z5I (φ : Nat) : List D → Option D :=
fun as =>
(fun (s : LS) =>
 u1 as fun g h =>
 u1 h fun d i =>
 u0 i (
 kBox g s fun e s =>
 z3 1 s e fun l s =>
 isoK (z5J φ) [l, d] s fun f s =>
 kEql f (ni 0) fun c =>
 z0 c true (fun k => z3 1 s e k) s fun m s =>
 z0 c true (fun k => k d s) s fun n s =>
 z0 c true (fun k => isoK (z3j φ) [m, n] s k) s fun o s =>
 z0 c true (fun k => kNot o s k) s fun p s =>
 zp c p (.b false) s fun u s =>
 z5 u
(retK false s (ni 8) some)
(retK false s f some))) s0
def z7N (φ : Nat) : List D → Option D :=
fun as =>
(fun (s : LS) =>
 u1 as fun b c =>
 u1 c fun d e =>
 u0 e (
 isoK (z16 φ) [b, d] s fun f s =>
 retK false s f some)) s0
def z4u (φ : Nat) : List D → Option D :=
fun as =>
(fun (s : LS) =>
 u1 as fun h i =>
 u1 i fun d k =>
 u1 k fun l m =>
 u0 m (
 kBox h s fun n s =>
 kLen d s fun o s =>
 kSub o (ni 1) fun p =>
 lp (fun (_ _ _ _ _ : D) (_ : LS) => none) (fun (u : D → D → D → D → D → LS → Rs) (e f b g c : D) (s : LS) =>
 kGeq c (ni 0) fun v =>
 z5 v
(z3 1 s b fun w s =>
 isoK (z2D φ) [w, g, f] s fun y s =>
 z3 1 s b fun z s =>
 z1 3 s e c fun A s =>
 z3 3 s A fun B s =>
 isoK (z2A φ) [B] s fun C s =>
 isoK (zZ φ) [z, C] s fun E s =>
 isoK (z7N φ) [y, E] s fun F s =>
 kSub c (ni 1) fun G =>
 u e f b F G s)
(retK false s g some)) φ d l n (.tree [] 0 true) p s)) s0
def z6F (φ : Nat) : List D → Option D :=
fun as =>
(fun (s : LS) =>
 u1 as fun i k =>
 u1 k fun c l =>
 u1 l fun m n =>
 u0 n (
 kBox i s fun o s =>
 kLen c s fun p s =>
 lp (fun (_ _ _ _ _ _ : D) (_ : LS) => none) (fun (u : D → D → D → D → D → D → LS → Rs) (d e f g h b : D) (s : LS) =>
 kLss b h fun v =>
 z5 v
(z1 1 s g b fun w s =>
 z4 s w fun y s =>
 z3 1 s e fun z s =>
 isoK (z4u φ) [z, y, d] s fun A s =>
 kBsl 1 [(.tree [] 0 true)] [(0, 1, A)] s fun B s =>
 kApp 1 24 s f B fun C s =>
 kAdd b (ni 1) fun E =>
 u d e C g h E s)
(isoK (zK φ) [f] s fun F s =>
 retK false s F some)) φ m o (.tree [] 0 true) c p (ni 0) s)) s0
end
end Go.Proofs.YthljpappkomocaaGreat
