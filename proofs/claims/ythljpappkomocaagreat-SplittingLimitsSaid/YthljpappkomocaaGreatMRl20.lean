/- The library of the functions, one behind the other. -/
import Derived.Test.YthljpappkomocaaGreatMRl10
import Derived.Test.YthljpappkomocaaGreatMBl00
set_option linter.all false
set_option maxRecDepth 1000000
set_option maxHeartbeats 0
namespace Go.Proofs.YthljpappkomocaaGreat
open Ev Tryz
noncomputable section
def La:Lc 182 gC:=z4Q.aw 26 f26 (λ_=>awC) (λ_=>z00 B.aw_snd) eX
def uj(φ:Nat):Snd prog im 6 (kG (λ_=>awC) φ):=La.sn 6 f6 2 0 (anU []) (kG λ_=>awC) eX φ
end
end Go.Proofs.YthljpappkomocaaGreat
