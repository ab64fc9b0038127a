/- The library of the functions, one behind the other. -/
import Derived.Test.YthljpappkomocaaGreatMRl00
set_option linter.all false
set_option maxRecDepth 1000000
set_option maxHeartbeats 0
namespace Go.Proofs.YthljpappkomocaaGreat
open Ev Tryz
noncomputable section
def z5U:Lc 114 TD0:=z5V.st 351 f351 5 0 (anU [6,26388280082433]) xj eX
def z5T:Lc 115 TD0:=z5U.st 352 f352 2 0 (anU [4,3617]) rk eX
def z5S:Lc 116 TD0:=z5T.stR 276 f276 4 1 (anU []) AB zy rfl eX
def z5R:Lc 117 TD0:=z5S.st 205 f205 2 0 (anU []) ny eX
def z5Q:Lc 118 TD0:=z5R.st 278 f278 1 0 (anU [4,3593,4,9,4,939524168]) pX eX
def z5P:Lc 119 TD0:=z5Q.st 423 f423 2 0 (anU [4,14372,2,14372]) jR eX
def z5O:Lc 120 TD0:=z5P.st 424 f424 2 0 (anU [8,450,2,450,8,16140901064495858626]) vR eX
def z5N:Lc 121 TD0:=z5O.noM 425 f425 kK rfl eX
def z5M:Lc 122 TD0:=z5N.me 354 f354 2 (anU [5,7516192867,9,35,6,34662321099990647697175478307,13,131075]) qZ eX
def z5L:Lc 123 TD0:=z5M.stC 355 f355 1 1 (anU []) gS (λh=>rJ hm h eX eX eX eX eX eX eX eX eX eX eX) eX
def z5K:Lc 124 iu:=z5L.mrd 353 f353 5 (anU [6,286]) qO tC rfl eX
def z5J:Lc 125 iu:=z5K.me 277 f277 2 (anU []) pV eX
def z5I:Lc 126 iu:=z5J.st 225 f225 1 0 (anU [11,249,9,3072]) uk eX
def z5H:Lc 127 iu:=z5I.st 226 f226 1 0 (anU [4,229385,9,3848290697736]) wY eX
def z5G:Lc 128 iu:=z5H.noI 254 f254 uG rfl eX
def z5F:Lc 129 iu:=z5G.st 203 f203 1 0 (anU []) s7 eX
def z5E:Lc 130 iu:=z5F.noI 229 f229 y9 rfl eX
def z5D:Lc 131 gu:=z5E.std 228 f228 2 0 (anU []) wZ eX
def z5C:Lc 132 gu:=z5D.me 356 f356 4 (anU [1,271,4,783]) iY eX
def z5B:Lc 133 gu:=z5C.noM 357 f357 kJ rfl eX
def z5A:Lc 134 gu:=z5B.noM 358 f358 jU rfl eX
def z5z:Lc 135 gu:=z5A.noM 359 f359 jf rfl eX
def z5y:Lc 136 gu:=z5z.noM 360 f360 j6 rfl eX
def z5x:Lc 137 gu:=z5y.noM 361 f361 ic rfl eX
def z5w:Lc 138 gu:=z5x.noM 362 f362 jL rfl eX
def z5v:Lc 139 gu:=z5w.noM 363 f363 jz rfl eX
def z5u:Lc 140 gu:=z5v.mr 279 f279 5 (anU [2,3103,7,7199,3,31775,3,15391]) ke jG rfl eX
def z5t:Lc 141 gu:=z5u.me 227 f227 2 (anU []) iE eX
def z5s:Lc 142 gu:=z5t.st 187 f187 1 0 (anU [7,28680,5,14708776]) uF eX
def z5r:Lc 143 gu:=z5s.st 331 f331 2 0 (anU []) ie eX
def z5q:Lc 144 gu:=z5r.st 263 f263 1 0 (anU []) mV eX
def z5p:Lc 145 sH:=z5q.std 262 f262 2 0 (anU []) kZ eX
def z5o:Lc 146 sH:=z5p.st 332 f332 1 0 (anU [2,1]) ru eX
def z5n:Lc 147 gH:=z5o.std 66 f66 2 0 (anU [4,49187]) l8 eX
def z5m:Lc 148 gH:=z5n.st 403 f403 2 0 (anU []) ye eX
def z5l:Lc 149 gH:=z5m.st 333 f333 3 0 (anU [4,24711]) uK eX
def z5k:Lc 150 gH:=z5l.st 130 f130 2 0 (anU [7,402653219,6,481036337186,2,481036337186,4,246771640959394]) kQ eX
def z5j:Lc 151 gH:=z5k.st 334 f334 3 0 (anU [7,3758096524,5,484794434444,6,8070450532247928968]) jI eX
def z5i:Lc 152 gH:=z5j.st 264 f264 3 0 (anU [5,906]) nX eX
def z5h:Lc 153 gH:=z5i.st 452 f452 2 0 (anU [3,98,3,98]) pj eX
def z5g:Lc 154 gH:=z5h.st 451 f451 2 0 (anU []) re eX
def z5f:Lc 155 gH:=z5g.st 404 f404 2 0 (anU []) tV eX
def z5e:Lc 156 gH:=z5f.st 335 f335 2 0 (anU [3,240,10,3024]) qc eX
def z5d:Lc 157 gH:=z5e.st 336 f336 2 0 (anU [4,105]) xo eX
def z5c:Lc 158 gH:=z5d.st 337 f337 2 0 (anU [4,121]) qj eX
def z5b:Lc 159 gH:=z5c.st 338 f338 2 0 (anU []) tX eX
def z5a:Lc 160 gH:=z5b.st 265 f265 2 0 (anU [7,6291910]) lb eX
def z59:Lc 161 gH:=z5a.st 309 f309 3 0 (anU []) pd eX
def z58:Lc 162 gH:=z59.st 310 f310 2 0 (anU [4,484]) nr eX
def z57:Lc 163 gH:=z58.st 243 f243 2 0 (anU []) kq eX
def z56:Lc 164 gH:=z57.st 398 f398 3 0 (anU []) pe eX
def z55:Lc 165 gH:=z56.st 308 f308 3 0 (anU [6,3852,6,123145302318860]) mz eX
def z54:Lc 166 gH:=z55.st 266 f266 3 0 (anU [3,14]) rV eX
def z53:Lc 167 gH:=z54.st 267 f267 1 0 (anU [4,456]) sU eX
def z52:Lc 168 gH:=z53.st 222 f222 2 0 (anU [10,294,8,15393162789796]) p9 eX
def z51:Lc 169 gH:=z52.st 182 f182 2 0 (anU []) um eX
def z50:Lc 170 gC:=z51.med 184 f184 2 (anU []) oJ eX
def z4Z:Lc 171 gC:=z50.me 268 f268 4 (anU [1,271,4,783]) iD eX
def z4Y:Lc 172 gC:=z4Z.noM 269 f269 jF rfl eX
def z4X:Lc 173 gC:=z4Y.me 223 f223 3 (anU [3,455,5,71,4,455,4,71]) jW eX
def z4W:Lc 174 gC:=z4X.me 183 f183 2 (anU []) gg eX
def z4V:Lc 175 gC:=z4W.me 124 f124 2 (anU [3,14337,2,14337,4,234895361,2,234895361]) kj eX
def z4U:Lc 176 gC:=z4V.noM 125 f125 p5 rfl eX
def L177:Lc 177 gC:=z4U.st 60 f60 1 0 (anU [12,469762148,8,548,5,129127208515966862884]) mI eX
def z4T:Lc 178 gC:=L177.st 27 f27 1 0 (anU []) kY eX
def z4S:Lc 179 gC:=z4T.noI 39 f39 ya rfl eX
def z4R:Lc 180 gC:=z4S.noI 61 f61 w8 rfl eX
def z4Q:Lc 181 gC:=z4R.st 28 f28 1 0 (anU []) oZ eX
end
end Go.Proofs.YthljpappkomocaaGreat
