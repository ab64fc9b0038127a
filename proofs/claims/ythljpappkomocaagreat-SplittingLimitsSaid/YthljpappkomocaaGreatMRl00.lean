/- The library of the functions, one behind the other. -/
import Derived.Test.YthljpappkomocaaGreatA6
import Derived.Test.YthljpappkomocaaGreatA3
import Derived.Test.YthljpappkomocaaGreatA2
import Derived.Test.YthljpappkomocaaGreatProg
import Derived.KernelRfl
set_option linter.all false
set_option maxRecDepth 1000000
set_option maxHeartbeats 0
namespace Go.Proofs.YthljpappkomocaaGreat
open Ev Tryz
noncomputable section
abbrev Lc(n:Nat)(TD:Nat->qP):Prop:=Lb prog xL G n TD
def hm:prog.follows .mixedOrders=true:=eX
def L0:Lc 0 TD0:=Lb.nil hm
def L1:Lc 1 TD0:=L0.st 73 f73 1 0 (anU []) sJ eX
def L2:Lc 2 TD0:=L1.st 136 f136 2 0 (anU []) ng eX
def L3:Lc 3 TD0:=L2.st 144 f144 1 0 (anU [4,25,4,57,2,57]) qM eX
def L4:Lc 4 TD0:=L3.me 241 f241 1 (anU [2,1]) tG eX
def L5:Lc 5 TD0:=L4.st 193 f193 1 1 (anU [4,25,6,121]) pH eX
def L6:Lc 6 TD0:=L5.st 137 f137 2 0 (anU [6,992,4,1760,1,1760]) uH eX
def L7:Lc 7 TD0:=L6.noI 138 f138 qr rfl eX
def L8:Lc 8 TD0:=L7.noI 139 f139 rC rfl eX
def L9:Lc 9 TD0:=L8.st 74 f74 2 0 (anU []) rA eX
def L10:Lc 10 TD0:=L9.noI 75 f75 oa rfl eX
def L11:Lc 11 TD0:=L10.noI 76 f76 jD rfl eX
def L12:Lc 12 TD0:=L11.noI 77 f77 tE rfl eX
def L13:Lc 13 TD0:=L12.st 32 f32 2 0 (anU []) kD eX
def L14:Lc 14 TD0:=L13.st 79 f79 1 0 (anU []) rq eX
def L15:Lc 15 TD0:=L14.st 35 f35 1 0 (anU []) qo eX
def L16:Lc 16 TD0:=L15.st 10 f10 1 0 (anU []) ir eX
def L17:Lc 17 TD0:=L16.st 33 f33 2 0 (anU []) nV eX
def L18:Lc 18 TD0:=L17.st 143 f143 1 0 (anU []) tF eX
def L19:Lc 19 TD0:=L18.st 78 f78 1 0 (anU []) qL eX
def L20:Lc 20 TD0:=L19.st 34 f34 1 1 (anU [3,9]) jH eX
def L21:Lc 21 TD0:=L20.st 8 f8 2 0 (anU [4,99]) o9 eX
def L22:Lc 22 TD0:=L21.st 9 f9 2 0 (anU [4,102]) nN eX
def L23:Lc 23 TD0:=L22.st 11 f11 1 0 (anU [4,456]) p7 eX
def L24:Lc 24 TD0:=L23.st 93 f93 1 0 (anU []) kN eX
def L25:Lc 25 TD0:=L24.me 257 f257 1 (anU [3,9]) fv eX
def L26:Lc 26 TD0:=L25.stM 209 f209 1 0 (anU [8,917512,5,17694776,6,136]) uL (λ_=>sL) (λ_ _ _ h=>Hr h) eX
def L27:Lc 27 TD0:=L26.st 206 f206 1 0 (anU []) jA eX
def L28:Lc 28 TD0:=L27.st 157 f157 1 0 (anU []) iN eX
def L29:Lc 29 TD0:=L28.st 90 f90 1 0 (anU []) iZ eX
def L30:Lc 30 TD0:=L29.st 161 f161 1 0 (anU []) mX eX
def L31:Lc 31 TD0:=L30.st 95 f95 1 0 (anU [3,9]) gY eX
def L32:Lc 32 TD0:=L31.st 83 f83 1 0 (anU [4,3592]) kr eX
def L33:Lc 33 TD0:=L32.stM 211 f211 1 1 (anU [4,12297]) qh (λ_=>pL) (λ_ _ _ h=>Eu h) eX
def L34:Lc 34 TD0:=L33.st 325 f325 2 0 (anU [9,35]) iU eX
def L35:Lc 35 TD0:=L34.st 255 f255 1 0 (anU [1,5,2,5,2,5]) kC eX
def L36:Lc 36 TD0:=L35.st 327 f327 1 0 (anU []) gU eX
def L37:Lc 37 TD0:=L36.st 326 f326 3 0 (anU [1,7,1,7,14,61188,0,126724,8,442628,0,509700]) iC eX
def L38:Lc 38 TD0:=L37.st 328 f328 2 1 (anU [4,28706,2,28706]) jk eX
def L39:Lc 39 TD0:=L38.stM 258 f258 2 0 (anU []) o8 (λ_=>ta) (λ_ _ _ h=>Fj h) eX
def L40:Lc 40 TD0:=L39.me 329 f329 2 (anU [4,483,2,99,0,483,9,60847228810955011271841753864291,15,274031556999544297163190906134303066185487482979]) nP eX
def L41:Lc 41 TD0:=L40.st 256 f256 2 0 (anU [10,451,11,32256,5,237684487542793012780631865856,2,237684487542793012780631865856]) iI eX
def L42:Lc 42 TD0:=L41.stM 207 f207 2 0 (anU [3,96]) jh rh (λ_ _ _ h=>Dm h) eX
def L43:Lc 43 TD0:=L42.st 215 f215 1 0 (anU []) ll eX
def L44:Lc 44 TD0:=L43.st 260 f260 0 0 (anU []) p6 eX
def L45:Lc 45 TD0:=L44.st 214 f214 1 0 (anU []) oN eX
def L46:Lc 46 TD0:=L45.st 168 f168 1 0 (anU []) nU eX
def L47:Lc 47 TD0:=L46.st 103 f103 1 0 (anU [6,3585]) sT eX
def L48:Lc 48 TD0:=L47.st 92 f92 1 0 (anU []) kR eX
def L49:Lc 49 TD0:=L48.st 210 f210 2 0 (anU [4,7340066,7,946864610]) ia eX
def L50:Lc 50 TD0:=L49.stM 160 f160 2 0 (anU []) rZ (λ_=>mj) (λ_ _ _ h=>Dl h) eX
def L51:Lc 51 TD0:=L50.st 189 f189 2 0 (anU []) fx eX
def L52:Lc 52 TD0:=L51.stM 158 f158 2 0 (anU []) uO (λ_=>lI) (λ_ _ _ h=>Dv h) eX
def L53:Lc 53 TD0:=L52.stM 208 f208 2 0 (anU []) ii kU (λ_ _ _ h=>zT h) eX
def L54:Lc 54 TD0:=L53.st 159 f159 2 0 (anU [2,28]) od eX
def L55:Lc 55 TD0:=L54.st 94 f94 2 0 (anU []) ji eX
def L56:Lc 56 TD0:=L55.stC 156 f156 1 1 (anU []) gM (λh=>rJ hm h eX eX eX eX eX eX eX eX eX eX eX) eX
def L57:Lc 57 TD0:=L56.stM 154 f154 1 0 (anU []) uN (λ_=>tg) (λ_ _ _ h=>Dt h) eX
def L58:Lc 58 TD0:=L57.st 88 f88 1 0 (anU []) tW eX
def L59:Lc 59 TD0:=L58.stM 230 f230 2 0 (anU [2,96,5,402653664,5,402655200]) rb (λ_=>qC) (λ_ _ _ h=>Do h) eX
def L60:Lc 60 TD0:=L59.stM 231 f231 2 0 (anU []) ra (λ_=>qB) (λ_ _ _ h=>Dn h) eX
def L61:Lc 61 TD0:=L60.stM 232 f232 2 0 (anU [5,98528,5,99296]) rY (λ_=>kA) (λ_ _ _ h=>Dk h) eX
def L62:Lc 62 TD0:=L61.stM 188 f188 2 0 (anU []) mY (λ_=>oC) (λ_ _ _ h=>Dx h) eX
def L63:Lc 63 TD0:=L62.st 128 f128 2 0 (anU []) nT eX
def L64:Lc 64 TD0:=L63.st 162 f162 2 0 (anU []) rW eX
def L65:Lc 65 TD0:=L64.st 148 f148 2 0 (anU [9,3221225923,7,3522,2,3522,5,1770887431076116962754]) gO eX
def L66:Lc 66 TD0:=L65.st 97 f97 2 0 (anU [4,14376]) ig eX
def L67:Lc 67 TD0:=L66.st 181 f181 1 0 (anU []) jg eX
def L68:Lc 68 TD0:=L67.st 174 f174 2 0 (anU [2,3]) mM eX
def L69:Lc 69 TD0:=L68.st 175 f175 1 0 (anU [4,25]) iP eX
def L70:Lc 70 TD0:=L69.st 123 f123 1 0 (anU []) pi eX
def L71:Lc 71 TD0:=L70.st 221 f221 1 0 (anU []) uJ eX
def L72:Lc 72 TD0:=L71.st 129 f129 2 0 (anU []) mN eX
def L73:Lc 73 TD0:=L72.st 96 f96 2 0 (anU [4,49187]) lZ eX
def L74:Lc 74 TD0:=L73.st 224 f224 1 0 (anU [9,3144,4,7240]) qY eX
def L75:Lc 75 TD0:=L74.st 340 f340 1 0 (anU [3,9]) wX eX
def L76:Lc 76 TD0:=L75.st 204 f204 2 0 (anU [2,252]) gK eX
def L77:Lc 77 TD0:=L76.st 453 f453 1 0 (anU []) oP eX
def L78:Lc 78 TD0:=L77.st 406 f406 1 0 (anU []) oq eX
def L79:Lc 79 TD0:=L78.st 407 f407 1 0 (anU [3,9]) iL eX
def L80:Lc 80 TD0:=L79.st 341 f341 2 0 (anU [4,57378]) pw eX
def L81:Lc 81 TD0:=L80.st 413 f413 3 0 (anU [4,57477]) tH eX
def L82:Lc 82 TD0:=L81.st 410 f410 2 0 (anU [2,2]) mU eX
def L83:Lc 83 TD0:=L82.st 414 f414 2 0 (anU [3,481]) p8 eX
def L84:Lc 84 TD0:=L83.st 345 f345 2 0 (anU []) oo eX
def L85:Lc 85 TD0:=L84.st 416 f416 3 0 (anU [10,7941,6,32281802128991731461]) ko eX
def L86:Lc 86 TD0:=L85.st 408 f408 3 0 (anU []) rS eX
def L87:Lc 87 TD0:=L86.st 342 f342 3 0 (anU [2,7]) xn eX
def L88:Lc 88 TD0:=L87.st 343 f343 2 0 (anU [4,99]) qb eX
def L89:Lc 89 TD0:=L88.st 422 f422 3 0 (anU [7,939524229,5,121198609285]) nj eX
def L90:Lc 90 TD0:=L89.st 411 f411 4 0 (anU []) lm eX
def L91:Lc 91 TD0:=L90.st 454 f454 4 0 (anU [4,12584461,5,12590605,2,12590605]) tU eX
def L92:Lc 92 TD0:=L91.st 409 f409 3 0 (anU []) ul eX
def L93:Lc 93 TD0:=L92.me 412 f412 2 (anU [6,3145955,2,3145955,5,3147747,2,3147747,7,7083549724304470968803,6,59421121885698253195161108963,2,59421121885698253195161108963,5,15576949996726368583844684148793827]) vQ eX
def L94:Lc 94 TD0:=L93.st 344 f344 2 0 (anU [7,6442451427,10,7083549724304467821729,6,3633861008568191991942305,8,15211807202738752817960438490145,2,15211807202738752817960438490145,7,249245461016874464922281784241153057,2,249245461016874464922281784241153057]) rR eX
def L95:Lc 95 TD0:=L94.st 455 f455 2 0 (anU []) A4 eX
def L96:Lc 96 TD0:=L95.st 415 f415 3 0 (anU [4,196743]) w6 eX
def L97:Lc 97 TD0:=L96.st 346 f346 2 0 (anU [5,7340129,2,7340129,4,7340897,5,844424937473889,2,844424937473889]) n7 eX
def L98:Lc 98 TD0:=L97.st 270 f270 1 0 (anU [4,241,2,241]) tu eX
def L99:Lc 99 TD0:=L98.st 347 f347 1 0 (anU []) rX eX
def z68:Lc 100 TD0:=L99.st 271 f271 1 0 (anU [4,461]) w5 eX
def z67:Lc 101 TD0:=z68.st 272 f272 1 0 (anU []) oM eX
def z66:Lc 102 TD0:=z67.st 273 f273 2 0 (anU []) jN eX
def z65:Lc 103 TD0:=z66.me 417 f417 1 (anU [3,9]) oL eX
def z64:Lc 104 TD0:=z65.st 348 f348 2 1 (anU [4,14372]) gn eX
def z63:Lc 105 TD0:=z64.st 349 f349 2 0 (anU [7,234881058,2,234881058,4,240753049826]) uE eX
def z62:Lc 106 TD0:=z63.st 274 f274 3 0 (anU []) gh eX
def z61:Lc 107 TD0:=z62.st 350 f350 2 0 (anU []) jM eX
def z60:Lc 108 TD0:=z61.st 275 f275 2 0 (anU [4,500]) lR eX
def z5Z:Lc 109 TD0:=z60.st 418 f418 3 0 (anU [9,7687]) xk eX
def z5Y:Lc 110 TD0:=z5Z.st 419 f419 1 0 (anU [4,3592]) px eX
def z5X:Lc 111 TD0:=z5Y.st 420 f420 4 0 (anU [5,14680600]) gm eX
def z5W:Lc 112 TD0:=z5X.stC 456 f456 1 1 (anU []) fm (λh=>rJ hm h eX eX eX eX eX eX eX eX eX eX eX) eX
def z5V:Lc 113 TD0:=z5W.st 421 f421 3 0 (anU [8,1804,6,252201579132753676]) mH eX
end
end Go.Proofs.YthljpappkomocaaGreat
