/- Residuals of functions, printed by a program. -/
import Derived.Test.YthljpappkomocaaGreatCB0
set_option linter.all false
set_option maxRecDepth 1000000
set_option maxHeartbeats 0
namespace Go.Proofs.YthljpappkomocaaGreat
open Ev
noncomputable section
def mQ(aw:Nat→List D→Option D)(φ:Nat):List D→Option D:=
λas=>
(λ(s:LS)=>
 u1 as λF G=>
 u1 G λh H=>
 u1 H λl I=>
 u0 I (
 jM F s λc s=>
 eT 1 s c λJ s=>
 eS (j0 φ) [J] s λK s=>
 iB K (.i .i64 (.ofNat 0)) λe=>
 eI e true (λk=>eT 1 s c k) s λM s=>
 eI e true (λk=>eS (oE φ) [M,(.i .i64 (.ofNat 5))] s k) s λN s=>
 eI e true (λk=>qP N s k) s λO s=>
 eI e true (λk=>k O s) s λf s=>
 eI f false (λk=>eT 1 s c k) s λP s=>
 eI f false (λk=>k h s) s λS s=>
 eI f false (λk=>eS (gb φ) [P,S] s k) s λU s=>
 eI f false (λk=>iB U (.i .i64 (.ofNat 0)) λd=>k d s) s λV s=>
 eI f false (λk=>k V s) s λm s=>
 eI m true (λk=>eT 1 s c k) s λW s=>
 eI m true (λk=>k h s) s λX s=>
 eI m true (λk=>eS (jA φ) [W,X] s k) s λY s=>
 eI m true (λk=>qP Y s k) s λZ s=>
 eI f false (λk=>fY m Z (.b false) s k) s λbb s=>
 eI e true (λk=>fY f (.b true) bb s k) s λbc s=>
 eI e true (λk=>k bc s) s λg s=>
 eI g false (λk=>eT 1 s c k) s λbd s=>
 eI g false (λk=>k l s) s λbf s=>
 eI g false (λk=>eS (gb φ) [bd,bf] s k) s λbg s=>
 eI g false (λk=>iB bg (.i .i64 (.ofNat 0)) λd=>k d s) s λbh s=>
 eI g false (λk=>k bh s) s λn s=>
 eI n true (λk=>eT 1 s c k) s λbi s=>
 eI n true (λk=>k l s) s λbk s=>
 eI n true (λk=>eS (jA φ) [bi,bk] s k) s λbl s=>
 eI n true (λk=>qP bl s k) s λbm s=>
 eI g false (λk=>fY n bm (.b false) s k) s λbn s=>
 eI e true (λk=>fY g (.b true) bn s k) s λbo s=>
 fY e bo (.b false) s λbp s=>
 eQ bp
(eS (aw φ) [] s λbu s=>
 eW false s bu some)
(eT 1 s c λbv s=>
 eS (gb φ) [bv,h] s λbw s=>
 eT 1 s c λbz s=>
 eS (gb φ) [bz,l] s λbA s=>
 ie 2 [(.i .i64 (.ofNat 0))] [(0,1,bw),(1,1,bA)] s λbB s=>
 eS (lO φ) [bB] s λy s=>
 eT 1 s c λbC s=>
 eS (jE φ) [bC,h,l] s λz s=>
 fh z 0 s λv s=>
 fh z 1 s λw s=>
 nC y (.i .i64 (.ofNat 0)) λbE=>
 eQ bE
(iB w y λo=>
 eI o true (λk=>k v s) s λbF s=>
 eI o true (λk=>ek bF s k) s λbG s=>
 eI o true (λk=>iB bG (.i .i64 (.ofNat 0)) λd=>k d s) s λbH s=>
 fY o bH (.b false) s λA s=>
 eI A true (λk=>eS (aw φ) [] s k) s λbI s=>
 fY A bI (.b false) s λbJ s=>
 eW false s bJ some)
(eT 1 s c λbK s=>
 eS (ga φ) [bK,h,l] s λB s=>
 fh B 0 s λbM s=>
 fh B 1 s λbN s=>
 qP bN s λbO s=>
 eQ bO
(iB w (.i .i64 (.ofNat 10)) λp=>
 eI p true (λk=>k v s) s λbP s=>
 eI p true (λk=>ek bP s k) s λbS s=>
 eI p true (λk=>iB bS (.i .i64 (.ofNat 0)) λd=>k d s) s λbU s=>
 fY p bU (.b false) s λC s=>
 eI C true (λk=>eS (aw φ) [] s k) s λbV s=>
 fY C bV (.b false) s λbW s=>
 eW false s bW some)
(iB w (.i .i64 (.ofNat 0)) λu=>
 eI u true (λk=>k v s) s λbX s=>
 eI u true (λk=>k bM s) s λbY s=>
 eI u true (λk=>eS (mB φ) [bX,bY] s k) s λbZ s=>
 fY u bZ (.b false) s λE s=>
 eI E true (λk=>eS (aw φ) [] s k) s λcb s=>
 fY E cb (.b false) s λcc s=>
 eW false s cc some))))) s0
end
end Go.Proofs.YthljpappkomocaaGreat
