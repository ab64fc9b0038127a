/- The library of the functions, one behind the other. -/
import Derived.Test.YthljpappkomocaaGreatLA0
import Derived.KernelRfl
set_option linter.all false
set_option maxRecDepth 1000000
set_option maxHeartbeats 0
namespace Go.Proofs.YthljpappkomocaaGreat.B
open Ev Tryz
noncomputable section
abbrev Lc(n:Nat):Prop:=Lb prog xL G n TD0
def hm:prog.follows .mixedOrders=true:=eX
def L0:Lc 0:=Lb.nil hm
def L1:Lc 1:=L0.stC 107 f107 1 1 (anU []) nd (λh=>rJ hm h eX eX eX eX eX eX eX eX eX eX eX) eX
def L2:Lc 2:=L1.stC 153 f153 1 1 (anU []) nc (λh=>rJ hm h eX eX eX eX eX eX eX eX eX eX eX) eX
def L3:Lc 3:=L2.st 189 f189 2 0 (anU []) fx eX
def L4:Lc 4:=L3.stM 154 f154 1 0 (anU []) uN (λ_=>tg) (λ_ _ _ h=>Dt h) eX
def L5:Lc 5:=L4.stC 156 f156 1 1 (anU []) gM (λh=>rJ hm h eX eX eX eX eX eX eX eX eX eX eX) eX
def L6:Lc 6:=L5.me 257 f257 1 (anU [3,9]) fv eX
def L7:Lc 7:=L6.stM 209 f209 1 0 (anU [8,917512,5,17694776,6,136]) uL (λ_=>sL) (λ_ _ _ h=>Hr h) eX
def L8:Lc 8:=L7.stM 258 f258 2 0 (anU []) o8 (λ_=>ta) (λ_ _ _ h=>Fj h) eX
def L9:Lc 9:=L8.st 210 f210 2 0 (anU [4,7340066,7,946864610]) ia eX
def L10:Lc 10:=L9.stM 211 f211 1 1 (anU [4,12297]) qh (λ_=>pL) (λ_ _ _ h=>Eu h) eX
def L11:Lc 11:=L10.stM 160 f160 2 0 (anU []) rZ (λ_=>mj) (λ_ _ _ h=>Dl h) eX
def L12:Lc 12:=L11.stM 158 f158 2 0 (anU []) uO (λ_=>lI) (λ_ _ _ h=>Dv h) eX
def L13:Lc 13:=L12.stM 230 f230 2 0 (anU [2,96,5,402653664,5,402655200]) rb (λ_=>qC) (λ_ _ _ h=>Do h) eX
def L14:Lc 14:=L13.stM 231 f231 2 0 (anU []) ra (λ_=>qB) (λ_ _ _ h=>Dn h) eX
def L15:Lc 15:=L14.stM 232 f232 2 0 (anU [5,98528,5,99296]) rY (λ_=>kA) (λ_ _ _ h=>Dk h) eX
def L16:Lc 16:=L15.stM 188 f188 2 0 (anU []) mY (λ_=>oC) (λ_ _ _ h=>Dx h) eX
def L17:Lc 17:=L16.st 206 f206 1 0 (anU []) jA eX
def L18:Lc 18:=L17.st 325 f325 2 0 (anU [9,35]) iU eX
def L19:Lc 19:=L18.st 255 f255 1 0 (anU [1,5,2,5,2,5]) kC eX
def L20:Lc 20:=L19.st 327 f327 1 0 (anU []) gU eX
def L21:Lc 21:=L20.st 326 f326 3 0 (anU [1,7,1,7,14,61188,0,126724,8,442628,0,509700]) iC eX
def L22:Lc 22:=L21.st 328 f328 2 1 (anU [4,28706,2,28706]) jk eX
def L23:Lc 23:=L22.me 329 f329 2 (anU [4,483,2,99,0,483,9,60847228810955011271841753864291,15,274031556999544297163190906134303066185487482979]) nP eX
def L24:Lc 24:=L23.st 256 f256 2 0 (anU [10,451,11,32256,5,237684487542793012780631865856,2,237684487542793012780631865856]) iI eX
def L25:Lc 25:=L24.stM 208 f208 2 0 (anU []) ii kU (λ_ _ _ h=>zT h) eX
def L26:Lc 26:=L25.st 204 f204 2 0 (anU [2,252]) gK eX
def L27:Lc 27:=L26.stM 207 f207 2 0 (anU [3,96]) jh rh (λ_ _ _ h=>Dm h) eX
def L28:Lc 28:=L27.st 273 f273 2 0 (anU []) jN eX
def L29:Lc 29:=L28.st 350 f350 2 0 (anU []) jM eX
def L30:Lc 30:=L29.stC 355 f355 1 1 (anU []) gS (λh=>rJ hm h eX eX eX eX eX eX eX eX eX eX eX) eX
def L31:Lc 31:=L30.st 407 f407 1 0 (anU [3,9]) iL eX
def L32:Lc 32:=L31.st 410 f410 2 0 (anU [2,2]) mU eX
def L33:Lc 33:=L32.st 414 f414 2 0 (anU [3,481]) p8 eX
def L34:Lc 34:=L33.st 416 f416 3 0 (anU [10,7941,6,32281802128991731461]) ko eX
def L35:Lc 35:=L34.st 422 f422 3 0 (anU [7,939524229,5,121198609285]) nj eX
def L36:Lc 36:=L35.stC 456 f456 1 1 (anU []) fm (λh=>rJ hm h eX eX eX eX eX eX eX eX eX eX eX) eX
end
end Go.Proofs.YthljpappkomocaaGreat.B
