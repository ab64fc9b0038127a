/- Residuals of functions, printed by a program. -/
import Derived.Test.YthljpappkomocaaGreatCB0
set_option linter.all false
set_option maxRecDepth 1000000
set_option maxHeartbeats 0
namespace Go.Proofs.YthljpappkomocaaGreat
open Ev
noncomputable section
def gj(aw:Nat→List D→Option D)(φ:Nat)(h:D→D→D→LS→Rs)(k:D→D→D→D→D→D→LS→Rs)(d b e f g c:D)(s:LS):Rs:=(
 fN c g λl=>
 eQ l
(eK 1 s f c λm s=>
 eJ s m λn s=>
 eS 1 s b λo s=>
 eR (jk φ) [o,n] s λp s=>
 sX p s λu s=>
 eQ u
(eR (aw φ) [] s λv s=>
 eX false s v some)
(ee c (.i .i64 (.ofNat 1)) λw=>
 k d b e f g w s))
(h d b e s))
def li(aw:Nat→List D→Option D)(φ:Nat):List D→Option D:=
λas=>
(λ(s:LS)=>
 u1 as λC E=>
 u1 E λc F=>
 u0 F (
 ic C s λe s=>
 eS 1 s e λG s=>
 eR (gm φ) [G] s λH s=>
 gx H (.i .i64 (.ofNat 0)) λh=>
 eI h true (λk=>eS 1 s e k) s λI s=>
 eI h true (λk=>eR (nS φ) [I,(.i .i64 (.ofNat 5))] s k) s λJ s=>
 eI h true (λk=>sX J s k) s λK s=>
 fX h K (.b false) s λf s=>
 eI f false (λk=>k c s) s λM s=>
 eI f false (λk=>ek M s k) s λN s=>
 eI f false (λk=>kC N (.i .i64 (.ofNat 4)) λd=>k d s) s λO s=>
 eI f false (λk=>k O s) s λl s=>
 eI l true (λk=>k c s) s λP s=>
 eI l true (λk=>ek P s k) s λS s=>
 eI l true (λk=>ut S (.i .i64 (.ofNat 256)) λd=>k d s) s λU s=>
 eI f false (λk=>fX l U (.b false) s k) s λV s=>
 fX f (.b true) V s λW s=>
 eQ W
(eR (aw φ) [] s λX s=>
 eX false s X some)
(eS 1 s e λY s=>
 eR (gm φ) [Y] s λZ s=>
 eS 1 s e λbb s=>
 eR (jV φ) [bb,c] s λbc s=>
 jY 2 [(.i .i64 (.ofNat 0))] [(0,1,Z),(1,1,bc)] s λbd s=>
 eR (ka φ) [bd] s λn s=>
 jn (λ(o p u:D)(s:LS)=>
 eS 1 s p λbf s=>
 eR (jN φ) [bf,o] s λv s=>
 gD v 0 s λw s=>
 gD v 1 s λy s=>
 mE u (.i .i64 (.ofNat 0)) λbg=>
 eQ bg
(gx y u λm=>
 eI m true (λk=>k w s) s λbh s=>
 eI m true (λk=>ek bh s k) s λbi s=>
 eI m true (λk=>gx bi (.i .i64 (.ofNat 0)) λd=>k d s) s λbk s=>
 fX m bk (.b false) s λz s=>
 eI z true (λk=>eR (aw φ) [] s k) s λbl s=>
 fX z bl (.b false) s λbm s=>
 eX false s bm some)
(gx y (.i .i64 (.ofNat 0)) λg=>
 eI g true (λk=>k w s) s λbn s=>
 eI g true (λk=>eS 1 s p k) s λbo s=>
 eI g true (λk=>k o s) s λbp s=>
 eI g true (λk=>eR (iK φ) [bo,bp] s k) s λbu s=>
 eI g true (λk=>eR (jW φ) [bn,bu] s k) s λbv s=>
 fX g bv (.b false) s λA s=>
 eI A true (λk=>eR (aw φ) [] s k) s λbw s=>
 fX A bw (.b false) s λbz s=>
 eX false s bz some)) λB=>
 gx n (.i .i64 (.ofNat 0)) λbA=>
 eQ bA
(ek c s λbB s=>
 lp (λ(_ _ _ _ _ _:D)(_:LS)=>none) (gj aw φ B) φ c e n c bB (.i .i64 (.ofNat 0)) s)
(B c e n s)))) s0
end
end Go.Proofs.YthljpappkomocaaGreat
