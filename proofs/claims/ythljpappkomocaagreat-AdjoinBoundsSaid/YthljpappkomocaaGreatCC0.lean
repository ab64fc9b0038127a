/- Residuals of functions, printed by a program. -/
import Derived.Test.YthljpappkomocaaGreatCB0
set_option linter.all false
set_option maxRecDepth 1000000
set_option maxHeartbeats 0
namespace Go.Proofs.YthljpappkomocaaGreat
open Ev
noncomputable section
def z67 (φ : Nat) : List D → Option D :=
fun as =>
(fun (s : LS) =>
 u1 as fun v w =>
 u1 w fun g y =>
 u1 y fun z A =>
 u0 A (
 kBox v s fun h s =>
 kBox z s fun e s =>
 z3 1 s h fun B s =>
 isoK (z5I φ) [B, g] s fun i s =>
 kNeq i (ni 0) fun C =>
 z5 C
(retK false s i some)
(z7 0 s e fun E s =>
 z3 1 s E fun F s =>
 isoK (z4w φ) [F] s fun l s =>
 kNeq l (ni 0) fun G =>
 z5 G
(retK false s l some)
(z7 0 s e fun H s =>
 z3 1 s H fun I s =>
 z7 1 s e fun J s =>
 z4 s J fun K s =>
 isoK (z2P φ) [I, K] s fun m s =>
 jn (fun (n o f p : D) (s : LS) =>
 kNeq p (ni 0) fun M =>
 z5 M
(retK false s p some)
(z7 0 s f fun N s =>
 z3 1 s N fun O s =>
 isoK (zO φ) [O] s fun P s =>
 z3 1 s o fun S s =>
 isoK (zO φ) [S] s fun U s =>
 kLen n s fun V s =>
 kSub V (ni 1) fun W =>
 kMul U W fun X =>
 kNeq P X fun Y =>
 z5 Y
(retK false s (ni 2) some)
(z7 0 s f fun Z s =>
 z3 1 s Z fun bb s =>
 z7 0 s o fun bc s =>
 z4 s bc fun bd s =>
 z7 1 s f fun bf s =>
 z4 s bf fun bg s =>
 isoK (z4u φ) [bb, bd, bg] s fun bh s =>
 kLen bh s fun bi s =>
 kGtr bi (ni 0) fun c =>
 z0 c false (fun k => z7 0 s f k) s fun bk s =>
 z0 c false (fun k => z3 1 s bk k) s fun bl s =>
 z0 c false (fun k => z7 0 s f k) s fun bm s =>
 z0 c false (fun k => z3 1 s bm k) s fun bn s =>
 z0 c false (fun k => k n s) s fun bo s =>
 z0 c false (fun k => z7 1 s f k) s fun bp s =>
 z0 c false (fun k => z4 s bp k) s fun bu s =>
 z0 c false (fun k => isoK (z6F φ) [bn, bo, bu] s k) s fun bv s =>
 z0 c false (fun k => z7 2 s f k) s fun bw s =>
 z0 c false (fun k => z4 s bw k) s fun bz s =>
 z0 c false (fun k => isoK (z50 φ) [bl, bv, bz] s k) s fun bA s =>
 z0 c false (fun k => kLen bA s k) s fun bB s =>
 z0 c false (fun k => kGtr bB (ni 0) fun d => k d s) s fun bC s =>
 zp c (.b true) bC s fun bE s =>
 z5 bE
(retK false s (ni 14) some)
(retK false s (ni 0) some)))) fun u =>
 kEql m (ni 0) fun bF =>
 z5 bF
(z7 0 s e fun bG s =>
 z3 1 s bG fun bH s =>
 z7 2 s e fun bI s =>
 z4 s bI fun bJ s =>
 isoK (z2P φ) [bH, bJ] s fun bK s =>
 u g h e bK s)
(u g h e m s))))) s0
def z1F (φ : Nat) : List D → Option D :=
fun as =>
(fun (s : LS) =>
 u0 as (
 isoK (z5j φ) [] s fun m s =>
 kExt m 0 s fun A s =>
 kExt m 1 s fun n s =>
 kExt m 2 s fun B s =>
 z9 [(.tree [] 0 true)] s fun g s =>
 z9 [(.tree [] 0 true), (.tree [] 0 true), (.tree [] 0 true)] s fun p s =>
 z6 1 s g A fun _ s =>
 z6 3 s p B fun _ s =>
 kBsl 5 [(ni 0)] [(0, 1, (.i .i64 (.negSucc 1))), (1, 1, (ni 0)), (2, 1, (ni 0)), (3, 1, (ni 0)), (4, 1, (ni 1))] s fun C s =>
 isoK (zu φ) [C] s fun E s =>
 zI [(.tree [] 0 true)] [(0, 1, E)] s fun F s =>
 z9 [(.tree [] 0 true)] s fun h s =>
 z6 1 s h F fun _ s =>
 kBsl 3 [(ni 0)] [(0, 1, (ni 0)), (1, 1, (ni 0)), (2, 1, (ni 1))] s fun G s =>
 isoK (zu φ) [G] s fun l s =>
 z3 1 s h fun H s =>
 kBsl 1 [(.tree [] 0 true)] [(0, 1, l)] s fun I s =>
 isoK (z6Y φ) [H, I] s fun u s =>
 kExt u 0 s fun J s =>
 kExt u 1 s fun K s =>
 z3 1 s h fun M s =>
 kBsl 4 [(ni 0)] [(0, 1, (ni 0)), (1, 1, (ni 0)), (2, 1, (ni 0)), (3, 1, (ni 1))] s fun N s =>
 isoK (zu φ) [N] s fun O s =>
 isoK (z64 φ) [M, l, O] s fun v s =>
 kExt v 0 s fun bI s =>
 kExt v 1 s fun P s =>
 z3 1 s h fun S s =>
 kBsl 3 [(ni 0)] [(0, 1, (ni 1)), (1, 1, (ni 0)), (2, 1, (ni 1))] s fun U s =>
 isoK (zu φ) [U] s fun V s =>
 isoK (z64 φ) [S, l, V] s fun w s =>
 kExt w 0 s fun W s =>
 kExt w 1 s fun X s =>
 z3 1 s g fun Y s =>
 isoK (z5l φ) [Y, n] s fun y s =>
 kExt y 0 s fun Z s =>
 kExt y 1 s fun bb s =>
 z9 [(.tree [] 0 true), (.tree [] 0 true), (.tree [] 0 true)] s fun z s =>
 z6 3 s z Z fun _ s =>
 kAdd K X fun bc =>
 kAdd bc bb fun bd =>
 kNeq bd (ni 0) fun o =>
 z0 o false (fun k => k P s) s fun bf s =>
 z0 o false (fun k => kNeq bf (ni 10) fun d => k d s) s fun bg s =>
 zp o (.b true) bg s fun c s =>
 z0 c false (fun k => z3 1 s g k) s fun bh s =>
 z0 c false (fun k => k n s) s fun bi s =>
 z0 c false (fun k => z3 3 s p k) s fun bk s =>
 z0 c false (fun k => isoK (zaa φ) [bh, bi, bk] s k) s fun bl s =>
 z0 c false (fun k => kNeq bl (ni 0) fun d => k d s) s fun bm s =>
 zp c (.b true) bm s fun e s =>
 z0 e false (fun k => z3 1 s g k) s fun bn s =>
 z0 e false (fun k => k n s) s fun bo s =>
 z0 e false (fun k => z3 3 s z k) s fun bp s =>
 z0 e false (fun k => isoK (z67 φ) [bn, bo, bp] s k) s fun bu s =>
 z0 e false (fun k => kNeq bu (ni 0) fun d => k d s) s fun bv s =>
 zp e (.b true) bv s fun bw s =>
 z5 bw
(retK false s (.b false) some)
(kBsl 1 [(ni 0)] [(0, 1, (ni 1))] s fun bz s =>
 isoK (zu φ) [bz] s fun bA s =>
 kBsl 2 [(.tree [] 0 true)] [(0, 1, bA), (1, 1, l)] s fun bB s =>
 isoK (z4R φ) [J, bB] s fun f s =>
 z0 f true (fun k => k W s) s fun bC s =>
 z0 f true (fun k => kBsl 2 [(ni 0)] [(0, 1, (ni 1)), (1, 1, (ni 1))] s k) s fun bE s =>
 z0 f true (fun k => isoK (zu φ) [bE] s k) s fun bF s =>
 z0 f true (fun k => isoK (z51 φ) [bC, bF] s k) s fun bG s =>
 zp f bG (.b false) s fun bH s =>
 retK false s bH some))) s0
def z8t : List D := []
def z8g : D := (.b true)
def z2K : List (List D × D) := [(z8t, z8g)]
def z8 (φ : Nat) : List D → Option D :=
fun as =>
(fun (s : LS) =>
 u1 as fun f y =>
 u1 y fun g z =>
 u0 z (
 kLss f (ni 1) fun l =>
 z0 l false (fun k => k f s) s fun A s =>
 z0 l false (fun k => kGtr A (ni 24) fun d => k d s) s fun B s =>
 zp l (.b true) B s fun m s =>
 z0 m false (fun k => k g s) s fun C s =>
 z0 m false (fun k => kLss C (ni 1) fun d => k d s) s fun E s =>
 zp m (.b true) E s fun n s =>
 z0 n false (fun k => k g s) s fun F s =>
 z0 n false (fun k => kGtr F (ni 64) fun d => k d s) s fun G s =>
 zp n (.b true) G s fun e s =>
 z0 e false (fun k => k f s) s fun H s =>
 z0 e false (fun k => k g s) s fun I s =>
 z0 e false (fun k => kMul H I fun d => k d s) s fun J s =>
 z0 e false (fun k => kLeq J (ni 24) fun d => k d s) s fun K s =>
 zp e (.b true) K s fun M s =>
 z5 M
(isoK (tabM z2K (z1F φ)) [] s fun N s =>
 retK false s N some)
(isoK (zd φ) [(ni 1)] s fun O s =>
 isoK (z1V φ) [O, f] s fun P s =>
 kBsl 1 [(ni 0)] [(0, 1, (.i .i64 (.negSucc 1)))] s fun S s =>
 isoK (zu φ) [S] s fun U s =>
 isoK (z16 φ) [P, U] s fun V s =>
 zI [(.tree [] 0 true)] [(0, 1, V)] s fun W s =>
 z9 [(.tree [] 0 true)] s fun o s =>
 z6 1 s o W fun _ s =>
 z3 1 s o fun X s =>
 isoK (zd φ) [(ni 1)] s fun Y s =>
 isoK (z1V φ) [Y, g] s fun Z s =>
 kBsl 1 [(ni 0)] [(0, 1, (.i .i64 (.negSucc 2)))] s fun bb s =>
 isoK (zu φ) [bb] s fun bc s =>
 isoK (z16 φ) [Z, bc] s fun bd s =>
 isoK (z1c φ) [bd] s fun bf s =>
 isoK (z5l φ) [X, bf] s fun u s =>
 kExt u 0 s fun bg s =>
 kExt u 1 s fun bh s =>
 z9 [(.tree [] 0 true), (.tree [] 0 true), (.tree [] 0 true)] s fun h s =>
 z6 3 s h bg fun _ s =>
 z3 1 s o fun bi s =>
 kBsl 1 [(ni 0)] [(0, 1, (ni 3))] s fun bk s =>
 isoK (zu φ) [bk] s fun bl s =>
 isoK (z1c φ) [bl] s fun bm s =>
 isoK (z5l φ) [bi, bm] s fun v s =>
 kExt v 0 s fun bn s =>
 kExt v 1 s fun bo s =>
 z9 [(.tree [] 0 true), (.tree [] 0 true), (.tree [] 0 true)] s fun bp s =>
 z6 3 s bp bn fun _ s =>
 kEql bh (ni 4) fun p =>
 z0 p true (fun k => k bo s) s fun bu s =>
 z0 p true (fun k => kEql bu (ni 27) fun d => k d s) s fun bv s =>
 zp p bv (.b false) s fun c s =>
 z0 c true (fun k => z7 0 s h k) s fun bw s =>
 z0 c true (fun k => z7 0 s bw k) s fun bz s =>
 z0 c true (fun k => z4 s bz k) s fun bA s =>
 z0 c true (fun k => kLen bA s k) s fun bB s =>
 z0 c true (fun k => z7 1 s h k) s fun bC s =>
 z0 c true (fun k => z4 s bC k) s fun bE s =>
 z0 c true (fun k => kLen bE s k) s fun bF s =>
 z0 c true (fun k => kAdd bB bF fun d => k d s) s fun bG s =>
 z0 c true (fun k => z7 2 s h k) s fun bH s =>
 z0 c true (fun k => z4 s bH k) s fun bI s =>
 z0 c true (fun k => kLen bI s k) s fun bJ s =>
 z0 c true (fun k => kAdd bG bJ fun d => k d s) s fun bK s =>
 z0 c true (fun k => kEql bK (ni 0) fun d => k d s) s fun bM s =>
 zp c bM (.b false) s fun w s =>
 z0 w true (fun k => isoK (tabM z2K (z1F φ)) [] s k) s fun bN s =>
 zp w bN (.b false) s fun bO s =>
 retK false s bO some))) s0
end
end Go.Proofs.YthljpappkomocaaGreat
