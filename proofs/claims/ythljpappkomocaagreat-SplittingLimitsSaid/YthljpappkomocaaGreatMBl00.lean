/- The library of the functions, one behind the other. -/
import Derived.Test.YthljpappkomocaaGreatMBc0
import Derived.Test.YthljpappkomocaaGreatA6
import Derived.Test.YthljpappkomocaaGreatMRl10
import Derived.Test.YthljpappkomocaaGreatB0
import Derived.Test.YthljpappkomocaaGreatKAB0
import Derived.Test.YthljpappkomocaaGreatKAC0
import Derived.Test.YthljpappkomocaaGreatKAD0
import Derived.Test.YthljpappkomocaaGreatKAE0
import Derived.Test.YthljpappkomocaaGreatKAF0
import Derived.Test.YthljpappkomocaaGreatKAG0
import Derived.Test.YthljpappkomocaaGreatKAH0
import Derived.Test.YthljpappkomocaaGreatKAI0
import Derived.Test.YthljpappkomocaaGreatKAJ0
import Derived.Test.YthljpappkomocaaGreatKAK0
import Derived.Test.YthljpappkomocaaGreatKAL0
import Derived.Test.YthljpappkomocaaGreatKAM0
import Derived.Test.YthljpappkomocaaGreatKAN0
import Derived.Test.YthljpappkomocaaGreatKAO0
import Derived.Test.YthljpappkomocaaGreatKAP0
import Derived.Test.YthljpappkomocaaGreatKAQ0
import Derived.Test.YthljpappkomocaaGreatKAR0
import Derived.Test.YthljpappkomocaaGreatKAS0
import Derived.Test.YthljpappkomocaaGreatKAT0
import Derived.Test.YthljpappkomocaaGreatKAU0
import Derived.Test.YthljpappkomocaaGreatKAV0
import Derived.Test.YthljpappkomocaaGreatKAW0
set_option linter.all false
set_option maxRecDepth 1000000
set_option maxHeartbeats 0
namespace Go.Proofs.YthljpappkomocaaGreat.B
open Ev Tryz
noncomputable section
def yz:Ya prog xL 36 sps:=by unfold Ya;kernel_rfl
def chk:tY prog xL sps:=tY.app z4L (tY.app z4K (tY.app z4J (z4I)))
abbrev Tk(tb:Tbs):Prop:=WH prog xL G 36 sps 4000000000 tb
def z2g:Tk tb0:=trivial
def z2f:Tk tb1:=⟨z2g,eV,99,kr0⟩
def z2e:Tk tb2:=⟨z2f,eV,99,kr1⟩
def z2d:Tk tb3:=⟨z2e,eV,99,kr2⟩
def z2c:Tk tb4:=⟨z2d,eV,99,kr3⟩
def z2b:Tk tb5:=⟨z2c,eV,99,kr4⟩
def z2a:Tk tb6:=⟨z2b,eV,99,kr5⟩
def z29:Tk tb7:=⟨z2a,eV,99,kr6⟩
def z28:Tk tb8:=⟨z29,eV,99,kr7⟩
def z27:Tk tb9:=⟨z28,eV,99,kr8⟩
def Zv:Tk Zw:=⟨z27,eV,99,kr9⟩
def ql:Tk xy:=⟨Zv,eV,99,z4u⟩
def wz:eZ:=[11,27,10,9,8,58,28,59,26]
abbrev imC(F:Nat):Option Nat:=imA F wz 0
def kf0:rj prog imC 11 uk0 uv0:=mi eX eX (oA L36 yz chk 4000000000 ql 99 eV eX eX ku0)
def kf1:rj prog imC 27 uk1 uv1:=mi eX eX (oA L36 yz chk 4000000000 ql 99 eV eX eX ku1)
def kf2:rj prog imC 11 uk2 uv2:=mi eX eX (oA L36 yz chk 4000000000 ql 99 eV eX eX ku2)
def kf3:rj prog imC 27 uk3 uv3:=mi eX eX (oA L36 yz chk 4000000000 ql 99 eV eX eX ku3)
def kf4:rj prog imC 10 uk4 uv4:=mi eX eX (oA L36 yz chk 4000000000 ql 99 eV eX eX ku4)
def kf5:rj prog imC 9 uk5 uv5:=mi eX eX (oA L36 yz chk 4000000000 ql 99 eV eX eX ku5)
def kf6:rj prog imC 11 uk6 uv6:=mi eX eX (oA L36 yz chk 4000000000 ql 99 eV eX eX ku6)
def kf7:rj prog imC 8 uk7 uv7:=mi eX eX (oA L36 yz chk 4000000000 ql 99 eV eX eX ku7)
def kf8:rj prog imC 27 uk8 uv8:=mi eX eX (YthljpappkomocaaGreat.L177.sn 27 f27 1 0 (anU []) kY eX 4000000000 _ _ (z3h))
def kf9:rj prog imC 11 uk9 uv9:=mi eX eX (oA L36 yz chk 4000000000 ql 99 eV eX eX ku9)
def z4F:rj prog imC 11 Zn Zd:=mi eX eX (oA L36 yz chk 4000000000 ql 99 eV eX eX z4t)
def z4E:rj prog imC 11 Zm Zc:=mi eX eX (oA L36 yz chk 4000000000 ql 99 eV eX eX z4s)
def z4D:rj prog imC 58 Zl Zb:=mi eX eX (oA L36 yz chk 4000000000 ql 99 eV eX eX z4r)
def z4C:rj prog imC 11 Zk Za:=mi eX eX (oA L36 yz chk 4000000000 ql 99 eV eX eX z4q)
def z4B:rj prog imC 11 Zj Z9:=mi eX eX (oA L36 yz chk 4000000000 ql 99 eV eX eX z4p)
def z4A:rj prog imC 58 Zi Z8:=mi eX eX (oA L36 yz chk 4000000000 ql 99 eV eX eX z4o)
def z4z:rj prog imC 11 Zh Z7:=mi eX eX (oA L36 yz chk 4000000000 ql 99 eV eX eX z4n)
def z4y:rj prog imC 28 Zg Z6:=mi eX eX (oA L36 yz chk 4000000000 ql 99 eV eX eX z4m)
def z4x:rj prog imC 59 Zf Z5:=mi eX eX (oA L36 yz chk 4000000000 ql 99 eV eX eX z4l)
def mc0:fP:=zM [(uk0,uv0),(uk2,uv2),(uk6,uv6),(uk9,uv9),(Zn,Zd),(Zm,Zc),(Zk,Za),(Zj,Z9),(Zh,Z7)] λ_=>none
def sc0:Snd prog imC 11 mc0:=nL kf0 (nL kf2 (nL kf6 (nL kf9 (nL z4F (nL z4E (nL z4C (nL z4B (nL z4z (zO)))))))))
def mc1:fP:=zM [(uk1,uv1),(uk3,uv3),(uk8,uv8)] λ_=>none
def sc1:Snd prog imC 27 mc1:=nL kf1 (nL kf3 (nL kf8 (zO)))
def mc2:fP:=zM [(uk4,uv4)] λ_=>none
def sc2:Snd prog imC 10 mc2:=nL kf4 (zO)
def mc3:fP:=zM [(uk5,uv5)] λ_=>none
def sc3:Snd prog imC 9 mc3:=nL kf5 (zO)
def mc4:fP:=zM [(uk7,uv7)] λ_=>none
def sc4:Snd prog imC 8 mc4:=nL kf7 (zO)
def mc5:fP:=zM [(Zl,Zb),(Zi,Z8)] λ_=>none
def sc5:Snd prog imC 58 mc5:=nL z4D (nL z4A (zO))
def mc6:fP:=zM [(Zg,Z6)] λ_=>none
def sc6:Snd prog imC 28 mc6:=nL z4y (zO)
def mc7:fP:=zM [(Zf,Z5)] λ_=>none
def sc7:Snd prog imC 59 mc7:=nL z4x (zO)
def GC(φ k:Nat):Option FT:=[FT.iso mc0,FT.iso mc1,FT.iso mc2,FT.iso mc3,FT.iso mc4,FT.iso mc5,FT.iso mc6,FT.iso mc7][k]?
def lc0:Lb prog wz GC 0 TD0:=Lb.nil hm
def lc1:Lb prog wz GC 1 TD0:=lc0.aw 11 f11 (λ_=>mc0) (λ_=>sc0) eX
def lc2:Lb prog wz GC 2 TD0:=lc1.aw 27 f27 (λ_=>mc1) (λ_=>sc1) eX
def lc3:Lb prog wz GC 3 TD0:=lc2.aw 10 f10 (λ_=>mc2) (λ_=>sc2) eX
def lc4:Lb prog wz GC 4 TD0:=lc3.aw 9 f9 (λ_=>mc3) (λ_=>sc3) eX
def lc5:Lb prog wz GC 5 TD0:=lc4.aw 8 f8 (λ_=>mc4) (λ_=>sc4) eX
def lc6:Lb prog wz GC 6 TD0:=lc5.aw 58 f58 (λ_=>mc5) (λ_=>sc5) eX
def lc7:Lb prog wz GC 7 TD0:=lc6.aw 28 f28 (λ_=>mc6) (λ_=>sc6) eX
def lc8:Lb prog wz GC 8 TD0:=lc7.aw 59 f59 (λ_=>mc7) (λ_=>sc7) eX
def aw_snd:rj prog imC 26 [] (.b true):=lc8.snd (F:=26) (fn:=f26) (na:=0) (md:=0) (an:=[]) (by unfold Fc;kernel_rfl) rfl 1000 [] _ eX
end
end Go.Proofs.YthljpappkomocaaGreat.B
