/- The library of the functions, one behind the other. -/
import Derived.Test.YthljpappkomocaaGreatCC0
import Derived.Test.YthljpappkomocaaGreatB0
import Derived.Test.YthljpappkomocaaGreatProg
import Derived.KernelRfl
import Derived.Test.YthljpappkomocaaGreatKAA0
import Derived.Test.YthljpappkomocaaGreatKAB0
import Derived.Test.YthljpappkomocaaGreatKAC0
import Derived.Test.YthljpappkomocaaGreatKAD0
import Derived.Test.YthljpappkomocaaGreatKAE0
import Derived.Test.YthljpappkomocaaGreatKAF0
import Derived.Test.YthljpappkomocaaGreatKAG0
import Derived.Test.YthljpappkomocaaGreatKAH0
import Derived.Test.YthljpappkomocaaGreatKAI0
import Derived.Test.YthljpappkomocaaGreatKAJ0
import Derived.Test.YthljpappkomocaaGreatKBA0
import Derived.Test.YthljpappkomocaaGreatKBB0
import Derived.Test.YthljpappkomocaaGreatKBC0
import Derived.Test.YthljpappkomocaaGreatKBD0
import Derived.Test.YthljpappkomocaaGreatKBE0
import Derived.Test.YthljpappkomocaaGreatKBF0
import Derived.Test.YthljpappkomocaaGreatKBG0
import Derived.Test.YthljpappkomocaaGreatKBH0
import Derived.Test.YthljpappkomocaaGreatKBI0
set_option linter.all false
set_option maxRecDepth 1000000
set_option maxHeartbeats 0
namespace Go.Proofs.YthljpappkomocaaGreat
open Ev
noncomputable section
def GL (φ : Nat) : List FT := [.iso (z1U φ), .iso (z2X φ), .iso (zj φ), .iso (zd φ), .iso (z3L φ), .iso (z2V φ), .iso (z17 φ), .iso (zu φ), .iso (z3M φ), .mem (zH φ), .iso zaq, .iso (z3P φ), .iso (z1q φ), .iso (zP φ), .iso (zaD φ), .iso (z9r φ), .iso (z5H φ), .mem (z28 φ), .mem (zX φ), .iso (z2M φ), .iso z85, .iso (z33 φ), .iso (z5q φ), .iso (z2y φ), .iso (z2C φ), .iso (z6X φ), .iso zdc, .mem (zcm φ), .iso (z20 φ), .iso (zeN φ), .iso (z6E φ), .iso (za2 φ), .iso (z9j φ), .iso (z8I φ), .iso (z5n φ), .iso (z2q φ), .iso (z11 φ), .iso (z4E φ), .iso (zq φ), .iso zav, .iso (z6q φ), .iso (z4K φ), .iso (z8C φ), .iso (z2u φ), .iso z7B, .iso z7C, .iso z97, .iso z44, .iso z7F, .iso (z7V φ), .iso (z7U φ), .iso (z3N φ), .iso (z2r φ), .iso z4p, .iso (z1G φ), .iso (z8w (z1K φ)), .iso (z1g φ), .iso (z21 φ), .iso (z5Z φ), .iso (z8B φ), .iso (z2I φ), .iso (z9g φ), .iso (zf1 φ), .iso (z2Q φ), .iso (z9q φ), .iso (zaE φ), .iso (z1M φ), .iso (zaz φ), .iso (zao φ), .iso (z6S φ), .iso (z8W φ), .iso (z93 φ), .iso (z8v φ), .iso (z9T φ), .iso (zfy φ), .iso (z9n φ), .iso (zge φ), .iso (z9l φ), .iso (zdU φ), .iso (zf4 φ), .mem (zdR φ), .iso (tabM z9s (zn φ)), .iso (zio φ), .iso (zew φ), .iso (z9Z φ), .iso (zcd φ), .iso (za4 φ), .iso (zf3 φ), .iso (z6B φ), .iso (z3R φ), .mem (zam φ), .iso (z2t φ), .iso (zin φ), .iso (tabM z1f (zb φ)), .iso zdK, .iso (z7I φ), .iso (zgv φ), .iso (z7J φ), .iso (z14 φ), .iso (z8w (z1y φ)), .iso (tabM z4H (zQ φ)), .iso (tabM zeE (z8A φ)), .iso (z9R φ), .iso (zim φ), .iso (z60 φ), .iso (z7W φ), .iso (z4r φ), .iso (zdS φ), .mem (z29 φ), .mem (z9h φ), .iso (z8w (z4Q φ)), .mem (z6A φ), .mem (z8H φ), .iso (zf0 φ), .iso (zf2 φ), .iso (z7K φ), .iso (z46 φ), .iso (zce φ), .iso (za0 φ), .mem (z1t φ), .mem (z1d φ), .mem (z25 φ), .mem (z2o φ), .iso (z2z φ), .mem (z1v φ), .mem (zS φ), .mem (z1m φ), .mem (zD φ), .mem (z1I φ), .mem (z1z φ), .mem (zU φ), .mem (z1k φ), .mem (z1X φ), .mem (z2h φ), .mem (z1B φ), .iso (tabM z8D (z57 φ)), .iso (z4q φ), .iso (tabM z2J (za φ)), .iso (z6m φ), .iso (z7T φ), .iso (z5D φ), .iso (z6o φ), .iso (zck φ), .iso (z2b φ), .iso (z3f φ), .iso (z5T φ), .iso (z6U φ), .iso (z6T φ), .iso (z3O φ), .iso (ziq φ), .iso (zcl φ), .iso (z4l φ), .iso (z55 φ), .iso (z63 φ), .iso (z7Z φ), .iso (za6 φ), .iso (zaC φ), .iso (z9o φ), .iso (zgw φ), .iso (z8X φ), .iso (zdW φ), .iso (z6p φ), .iso (z8N φ), .iso (z6V φ), .iso (z3y φ), .iso (za3 φ), .iso (z3g φ), .iso (z5Y φ), .iso (zaB φ), .iso (z8M φ), .iso (z9p φ), .iso (z8O φ), .iso (zdV φ), .iso (zdX φ), .iso (z9i φ), .iso (z6n φ), .iso (z4W φ), .mem (z1u φ), .mem (z1e φ), .mem (z26 φ), .mem (z1w φ), .mem (zT φ), .mem (z1n φ), .mem (zE φ), .mem (z1J φ), .mem (z1A φ), .mem (zV φ), .mem (z1l φ), .mem (z1Y φ), .mem (z2i φ), .mem (z1C φ), .iso (tabM z41 (z10 φ)), .iso (z3l φ), .iso (z83 φ), .iso (z6D φ), .iso (z7X φ), .iso (zci φ), .iso (za9 φ), .iso (z9S φ), .iso (z3m φ), .iso (z5k φ), .iso (z8w (zJ φ)), .mem (z6C φ), .iso (zcf φ), .mem (z2j φ), .iso (z5o φ), .iso (za1 φ), .mem (z1O φ), .mem (z1x φ), .mem (z2w φ), .mem (z1P φ), .mem (z1a φ), .mem (z1S φ), .mem (zF φ), .mem (z27 φ), .mem (z1W φ), .mem (z19 φ), .mem (z1H φ), .mem (z2n φ), .mem (z2B φ), .mem (z2p φ), .iso (z6r φ), .iso (z8w (z2x φ)), .iso (z6s φ), .iso (z8J φ), .iso (zaA φ), .iso (zcn φ), .iso (zch φ), .mem (z1Z φ), .mem (z1D φ), .iso (zan φ), .iso (z5l φ), .iso (z2O φ), .iso (zaF φ), .iso (zgu φ), .iso (z6Y φ), .iso (z51 φ), .iso (z4R φ), .iso (zcg φ), .iso (zdT φ), .iso (zcj φ), .iso (z64 φ), .iso (z2A φ), .iso (z1c φ), .iso (z18 φ), .mem (z53 φ), .iso (zW φ), .iso (z6l φ), .iso (z1R φ), .iso (z4i φ), .iso (z3K φ), .iso (z8L φ), .iso (z4C φ), .iso (z4h φ), .iso (zo φ), .iso (zA φ), .iso (z1h φ), .iso (zN φ), .iso (z5j φ), .iso (zcH φ), .iso (zaa φ), .iso (z4D φ), .iso (z6j φ), .iso (z54 φ), .iso (z6Q φ), .iso (z6P φ), .iso (z6i φ), .iso (z4B φ), .iso (z1p φ), .iso (z5f φ), .iso (zO φ), .iso (z3D φ), .iso (z2P φ), .iso (z1E φ), .iso (z3c φ), .iso (z4e φ), .iso (z3b φ), .iso (z2F φ), .iso (z4f φ), .iso (z5C φ), .iso (z2f φ), .iso (z4g φ), .iso (z1Q φ), .iso (z2L φ), .iso (z36 φ), .iso (z5S φ), .iso (z2e φ), .iso (z59 φ), .mem (z5u φ), .iso (z40 φ), .iso (z1o φ), .iso (z8K φ), .iso (z2G φ), .iso (z1i φ), .iso (z3d φ), .iso (z62 φ), .iso (z16 φ), .iso (z1V φ), .iso (z2c φ), .iso (z39 φ), .iso (z32 φ), .iso (z4c φ), .iso (z3a φ), .iso (z2U φ), .iso (z2H φ), .iso (z3J φ), .iso (z4b φ), .iso (z5e φ), .iso (z6R φ), .iso (z6k φ), .iso (z3e φ), .iso (zL φ), .iso (z3Y φ), .iso (z1T φ), .iso (z2T φ), .iso (z4d φ), .iso (z2d φ), .iso (z3H φ), .iso (z31 φ), .iso (z15 φ), .iso (z3G φ), .iso (z2a φ), .iso (z4A φ), .iso (z49 φ), .iso (z3t φ), .iso (z4T φ), .iso (z6K φ), .iso (z4a φ), .iso (z2E φ), .iso (z30 φ), .iso (z5Q φ), .iso (z9k φ), .iso (z5i φ), .iso (z6h φ), .iso (z7Q φ), .iso (z48 φ), .iso (z3I φ), .iso (z6L φ), .iso (z6g φ), .iso (z6N φ), .mem (z7P φ), .iso (z5P φ), .iso (z6d φ), .iso (z5B φ), .iso (z7S φ), .iso (z5A φ), .iso (z6e φ), .iso (z4U φ), .iso (z6f φ), .iso (z3F φ), .iso (z6M φ), .iso (z5b φ), .iso (z5v φ), .iso (z5w φ), .iso (z4y φ), .iso (z7O φ), .iso (z5z φ), .iso (z5y φ), .iso (z3E φ), .iso (z3n φ), .iso (z6J φ), .iso (z3X φ), .iso (z6I φ), .iso (z5h φ), .iso (z5a φ), .iso (z4z φ), .iso (z4x φ), .iso (z5O φ), .iso (z6c φ), .iso (z3W φ), .iso (z3k φ), .iso (z4w φ), .iso (z6b φ), .iso (z5J φ), .iso (z3u φ), .iso (zZ φ), .iso (z2D φ), .iso (zK φ), .iso (z5r φ), .iso (z6O φ), .iso (z3C φ), .iso (z2S φ), .iso (z4S φ), .iso (z3x φ), .iso (z5t φ), .iso (z7L φ), .iso (z2Z φ), .iso (z3s φ), .iso (z35 φ), .iso (z69 φ), .iso (z6a φ), .iso (z5s φ), .iso (z47 φ), .iso (z5L φ), .iso (z4t φ), .iso (z4v φ), .iso (z4s φ), .iso (z50 φ), .iso (z5x φ), .iso (z3Z φ), .iso (z5R φ), .iso (z5d φ), .iso (z7R φ), .iso (z7M φ), .iso (z5N φ), .iso (z6H φ), .iso (z52 φ), .iso (z6G φ), .iso (z4V φ), .iso (z5g φ), .iso (z5c φ), .iso (z58 φ), .iso (z5K φ), .iso (z68 φ), .iso (z5M φ), .iso (z3j φ), .iso (z5I φ), .iso (z7N φ), .iso (z4u φ), .iso (z6F φ), .iso (z67 φ), .iso (tabM z2K (z1F φ)), .iso (z8 φ)]
def G (φ k : Nat) : Option FT := (GL φ)[k]?
abbrev Lc (n : Nat) (TD : Nat → FTab) : Prop := Lb Tryz.prog zq7 G n TD
theorem hm : Tryz.prog.follows .mixedOrders = true := by kernel_rfl
theorem L0 : Lc 0 TD0 := Lb.nil hm
theorem L1 : Lc 1 TD0 := L0.st 144 Tryz.f144 1 0 [none, none, none, none, some [0, 3, 4], none, none, none, none, some [0, 3, 4, 5], none, none, some [0, 3, 4, 5], none, none, none] z1U (by kernel_rfl)
theorem L2 : Lc 2 TD0 := L1.st 79 Tryz.f79 1 0 [none, none] z2X (by kernel_rfl)
theorem L3 : Lc 3 TD0 := L2.st 35 Tryz.f35 1 0 [none, none, none, none, none] zj (by kernel_rfl)
theorem L4 : Lc 4 TD0 := L3.st 10 Tryz.f10 1 0 [none, none] zd (by kernel_rfl)
theorem L5 : Lc 5 TD0 := L4.st 143 Tryz.f143 1 0 [none, none, none, none, none, none, none] z3L (by kernel_rfl)
theorem L6 : Lc 6 TD0 := L5.st 78 Tryz.f78 1 0 [none, none] z2V (by kernel_rfl)
theorem L7 : Lc 7 TD0 := L6.st 34 Tryz.f34 1 0 [none, none, none, some [0, 3], none, none, none] z17 (by kernel_rfl)
theorem L8 : Lc 8 TD0 := L7.st 11 Tryz.f11 1 0 [none, none, none, none, some [3, 6, 7, 8], none, none, none, none, none] zu (by kernel_rfl)
theorem L9 : Lc 9 TD0 := L8.st 93 Tryz.f93 1 0 [none, none] z3M (by kernel_rfl)
theorem L10 : Lc 10 TD0 := L9.me 257 Tryz.f257 1 [none, none, none, some [0, 3], none, none, none] zH (by kernel_rfl)
theorem L11 : Lc 11 TD0 := L10.stM 209 Tryz.f209 1 0 [none, none, none, none, none, none, none, none, some [3, 17, 18, 19], none, none, none, none, none, some [3, 4, 5, 17, 18, 19, 24], none, none, none, none, none, none, some [3, 7], none, none, none] z9U (fun _ => zaq) (fun _ _ _ h => zlV h) (by kernel_rfl)
theorem L12 : Lc 12 TD0 := L11.st 206 Tryz.f206 1 0 [none, none] z3P (by kernel_rfl)
theorem L13 : Lc 13 TD0 := L12.st 157 Tryz.f157 1 0 [none, none, none, none, none] z1q (by kernel_rfl)
theorem L14 : Lc 14 TD0 := L13.st 90 Tryz.f90 1 0 [none, none] zP (by kernel_rfl)
theorem L15 : Lc 15 TD15 := L14.std 101 Tryz.f101 1 0 [none, none] zaD (by kernel_rfl)
theorem L16 : Lc 16 TD15 := L15.st 105 Tryz.f105 1 0 [none, none] z9r (by kernel_rfl)
theorem L17 : Lc 17 TD17 := L16.std 104 Tryz.f104 1 0 [none, none] z5H (by kernel_rfl)
theorem L18 : Lc 18 TD17 := L17.me 164 Tryz.f164 2 [none, none, none, some [0, 1, 7, 8], none, none, none, none, none, none, none] z28 (by kernel_rfl)
theorem L19 : Lc 19 TD17 := L18.me 100 Tryz.f100 2 [none, none] zX (by kernel_rfl)
theorem L20 : Lc 20 TD17 := L19.st 161 Tryz.f161 1 0 [none, none] z2M (by kernel_rfl)
theorem L21 : Lc 21 TD17 := L20.stM 211 Tryz.f211 1 1 [none, none, none, none, some [0, 3, 12, 13], none, none, none, none, none, none] z6W (fun _ => z85) (fun _ _ _ h => zl1 h) (by kernel_rfl)
theorem L22 : Lc 22 TD17 := L21.st 325 Tryz.f325 2 0 [none, none, none, none, none, none, none, none, none, some [0, 1, 5], none, none, none, none, none, none, none, none, none] z33 (by kernel_rfl)
theorem L23 : Lc 23 TD17 := L22.st 255 Tryz.f255 1 0 [none, some [0, 2], none, none, some [0, 2], none, none, some [0, 2], none, none, none] z5q (by kernel_rfl)
theorem L24 : Lc 24 TD17 := L23.st 327 Tryz.f327 1 0 [none, none] z2y (by kernel_rfl)
theorem L25 : Lc 25 TD17 := L24.st 326 Tryz.f326 3 0 [none, some [0, 1, 2], none, some [0, 1, 2], none, none, none, none, none, none, none, none, none, none, none, none, none, none, some [2, 8, 9, 10, 11, 13, 14, 15], some [2, 8, 9, 10, 11, 13, 14, 15, 16], none, none, none, none, none, none, none, none, some [2, 8, 14, 15, 17, 18], some [2, 8, 9, 10, 14, 15, 16, 17, 18], none, none, none, none, none, none] z2C (by kernel_rfl)
theorem L26 : Lc 26 TD17 := L25.st 328 Tryz.f328 2 1 [none, none, none, none, some [1, 5, 12, 13, 14], none, none, some [1, 5, 12, 13, 14], none, none, none, none] z6X (by kernel_rfl)
theorem L27 : Lc 27 TD17 := L26.stM 258 Tryz.f258 2 0 [none, none, none, none, none, none, none, none, none, none, none, none] z5p (fun _ => zdc) (fun _ _ _ h => zlc h) (by kernel_rfl)
theorem L28 : Lc 28 TD17 := L27.me 329 Tryz.f329 2 [none, none, none, none, some [0, 1, 5, 6, 7, 8], none, none, some [0, 1, 5, 6], some [0, 1, 5, 6, 7, 8], none, none, none, none, none, none, none, none, none, some [0, 1, 5, 6, 11, 12, 104, 105], none, none, none, none, none, none, none, none, none, none, none, none, none, none, none, some [0, 1, 5, 6, 17, 156, 157], none, none, none, none, none, none] zcm (by kernel_rfl)
theorem L29 : Lc 29 TD17 := L28.st 256 Tryz.f256 2 0 [none, none, none, none, none, none, none, none, none, none, some [0, 1, 6, 7, 8], none, none, none, none, none, none, none, none, none, none, none, some [9, 10, 11, 12, 13, 14], none, none, none, none, none, some [9, 11, 12, 13, 96, 97], none, none, some [9, 11, 12, 13, 96, 97], none, none, none, none] z20 (by kernel_rfl)
theorem L30 : Lc 30 TD17 := L29.stM 207 Tryz.f207 2 0 [none, none, none, some [5, 6], none, none, none, none] z4M zeN (fun _ _ _ h => zjF h) (by kernel_rfl)
theorem L31 : Lc 31 TD17 := L30.st 215 Tryz.f215 1 0 [none, none, none, none, none, none, none, none] z6E (by kernel_rfl)
theorem L32 : Lc 32 TD17 := L31.st 260 Tryz.f260 0 0 [none, none] za2 (by kernel_rfl)
theorem L33 : Lc 33 TD17 := L32.st 214 Tryz.f214 1 0 [none, none, none, none, none, none, none] z9j (by kernel_rfl)
theorem L34 : Lc 34 TD17 := L33.st 168 Tryz.f168 1 0 [none, none, none, none, none, none, none, none, none, none, none, none] z8I (by kernel_rfl)
theorem L35 : Lc 35 TD17 := L34.st 103 Tryz.f103 1 0 [none, none, none, none, none, none, some [0, 9, 10, 11], none, none, none, none, none, none, none, none, none, none, none] z5n (by kernel_rfl)
theorem L36 : Lc 36 TD17 := L35.st 46 Tryz.f46 1 0 [none, none, none, none, none, none, none, none, none, none, none, none, none] z2q (by kernel_rfl)
theorem L37 : Lc 37 TD17 := L36.st 95 Tryz.f95 1 0 [none, none, none, some [0, 3], none, none, none] z11 (by kernel_rfl)
theorem L38 : Lc 38 TD17 := L37.st 129 Tryz.f129 2 0 [none, none, none, none, none] z4E (by kernel_rfl)
theorem L39 : Lc 39 TD17 := L38.st 189 Tryz.f189 2 0 [none, none] zq (by kernel_rfl)
theorem L40 : Lc 40 TD17 := L39.stM 154 Tryz.f154 1 0 [none, none] za7 (fun _ => zav) (fun _ _ _ h => zjO h) (by kernel_rfl)
theorem L41 : Lc 41 TD17 := L40.st 88 Tryz.f88 1 0 [none, none] z6q (by kernel_rfl)
theorem L42 : Lc 42 TD17 := L41.stM 208 Tryz.f208 2 0 [none, none, none] z3h z4K (fun _ _ _ h => zgH h) (by kernel_rfl)
theorem L43 : Lc 43 TD17 := L42.st 159 Tryz.f159 2 0 [none, none, some [2, 3, 4], none, none, none] z8C (by kernel_rfl)
theorem L44 : Lc 44 TD17 := L43.st 210 Tryz.f210 2 0 [none, none, none, none, some [1, 5, 20, 21, 22], none, none, none, none, none, none, none, some [1, 5, 6, 7, 8, 20, 21, 22, 27, 28, 29], none, none, none, none, none, none, none, none, none, none] z2u (by kernel_rfl)
theorem L45 : Lc 45 TD17 := L44.stM 160 Tryz.f160 2 0 [none, none] z80 (fun _ => z7B) (fun _ _ _ h => zjE h) (by kernel_rfl)
theorem L46 : Lc 46 TD17 := L45.stM 230 Tryz.f230 2 0 [none, none, some [5, 6], none, none, none, none, none, some [5, 6, 7, 8, 27, 28], none, none, none, none, none, some [5, 6, 7, 8, 9, 10, 27, 28], none, none, none] z82 (fun _ => z7C) (fun _ _ _ h => zjH h) (by kernel_rfl)
theorem L47 : Lc 47 TD17 := L46.stM 231 Tryz.f231 2 0 [none, none, none, none, none, none, none] z81 (fun _ => z97) (fun _ _ _ h => zjG h) (by kernel_rfl)
theorem L48 : Lc 48 TD17 := L47.stM 232 Tryz.f232 2 0 [none, none, none, none, none, some [5, 6, 7, 15, 16], none, none, none, none, none, some [5, 6, 7, 8, 9, 15, 16], none, none] z7Y (fun _ => z44) (fun _ _ _ h => zjD h) (by kernel_rfl)
theorem L49 : Lc 49 TD17 := L48.stM 188 Tryz.f188 2 0 [none, none, none, none, none, none, none] z3S (fun _ => z7F) (fun _ _ _ h => zjR h) (by kernel_rfl)
theorem L50 : Lc 50 TD17 := L49.st 128 Tryz.f128 2 0 [none, none, none, none, none, none, none, none, none] z7V (by kernel_rfl)
theorem L51 : Lc 51 TD17 := L50.st 162 Tryz.f162 2 0 [none, none] z7U (by kernel_rfl)
theorem L52 : Lc 52 TD17 := L51.st 96 Tryz.f96 2 0 [none, none, none, none, some [0, 1, 5, 14, 15], none, none, none, none, none] z3N (by kernel_rfl)
theorem L53 : Lc 53 TD17 := L52.st 92 Tryz.f92 1 0 [none, none] z2r (by kernel_rfl)
theorem L54 : Lc 54 TD17 := L53.stM 158 Tryz.f158 2 0 [none, none] za8 (fun _ => z4p) (fun _ _ _ h => zjP h) (by kernel_rfl)
theorem L55 : Lc 55 TD17 := L54.st 94 Tryz.f94 2 0 [none, none, none, none, none] z1G (by kernel_rfl)
theorem L56 : Lc 56 TD17 := L55.stC 156 Tryz.f156 1 1 [none, none, none, none, none] z1K (fun h => zak hm h (by kernel_rfl) (by kernel_rfl) (by kernel_rfl) (by kernel_rfl) (by kernel_rfl) (by kernel_rfl) (by kernel_rfl) (by kernel_rfl) (by kernel_rfl) (by kernel_rfl) (by kernel_rfl)) (by kernel_rfl)
theorem L57 : Lc 57 TD17 := L56.st 148 Tryz.f148 2 0 [none, none, none, none, none, none, none, none, none, some [0, 1, 6, 7, 8, 30, 31], none, none, none, none, none, none, none, some [1, 6, 7, 8, 10, 11], none, none, some [1, 6, 7, 8, 10, 11], none, none, none, none, none, some [1, 6, 7, 8, 10, 11, 12, 69, 70], none, none, none, none, none] z1g (by kernel_rfl)
theorem L58 : Lc 58 TD17 := L57.st 97 Tryz.f97 2 0 [none, none, none, none, some [3, 5, 11, 12, 13], none, none, none, none, none] z21 (by kernel_rfl)
theorem L59 : Lc 59 TD17 := L58.st 181 Tryz.f181 1 0 [none, none, none, none, none] z5Z (by kernel_rfl)
theorem L60 : Lc 60 TD17 := L59.st 174 Tryz.f174 2 0 [none, none, some [0, 1], none, none, none, none] z8B (by kernel_rfl)
theorem L61 : Lc 61 TD17 := L60.st 175 Tryz.f175 1 0 [none, none, none, none, some [0, 3, 4], none, none, none, none] z2I (by kernel_rfl)
theorem L62 : Lc 62 TD17 := L61.st 224 Tryz.f224 1 0 [none, none, none, none, none, none, none, none, none, some [3, 6, 10, 11], none, none, none, none, some [3, 6, 10, 11, 12], none, none, none, none] z9g (by kernel_rfl)
theorem L63 : Lc 63 TD17 := L62.st 340 Tryz.f340 1 0 [none, none, none, some [0, 3], none, none, none, none, none, none] zf1 (by kernel_rfl)
theorem L64 : Lc 64 TD17 := L63.stM 204 Tryz.f204 2 0 [none, none, some [2, 3, 4, 5, 6, 7], none, none] z4j z2Q (fun _ _ _ h => zgI h) (by kernel_rfl)
theorem L65 : Lc 65 TD17 := L64.st 453 Tryz.f453 1 0 [none, none, none, none, none, none, none, none, none] z9q (by kernel_rfl)
theorem L66 : Lc 66 TD17 := L65.st 406 Tryz.f406 1 0 [none, none, none, none, none, none, none, none] zaE (by kernel_rfl)
theorem L67 : Lc 67 TD17 := L66.st 407 Tryz.f407 1 0 [none, none, none, some [0, 3], none, none, none] z1M (by kernel_rfl)
theorem L68 : Lc 68 TD17 := L67.st 341 Tryz.f341 2 0 [none, none, none, none, some [1, 5, 13, 14, 15], none, none, none, none, none, none] zaz (by kernel_rfl)
theorem L69 : Lc 69 TD17 := L68.st 413 Tryz.f413 3 0 [none, none, none, none, some [0, 2, 7, 13, 14, 15], none, none, none, none, none] zao (by kernel_rfl)
theorem L70 : Lc 70 TD17 := L69.st 410 Tryz.f410 2 0 [none, none, some [1], none, none] z6S (by kernel_rfl)
theorem L71 : Lc 71 TD17 := L70.st 414 Tryz.f414 2 0 [none, none, none, some [0, 5, 6, 7, 8], none, none, none, none] z8W (by kernel_rfl)
theorem L72 : Lc 72 TD17 := L71.st 345 Tryz.f345 2 0 [none, none, none, none, none] z93 (by kernel_rfl)
theorem L73 : Lc 73 TD17 := L72.stM 416 Tryz.f416 3 0 [none, none, none, none, none, none, none, none, none, none, some [0, 2, 8, 9, 10, 11, 12], none, none, none, none, none, none, some [0, 2, 8, 9, 10, 11, 12, 13, 62, 63, 64], none, none, none, none, none] z9m z8v (fun _ _ _ h => zi3 h) (by kernel_rfl)
theorem L74 : Lc 74 TD17 := L73.st 408 Tryz.f408 3 0 [none, none, none] z9T (by kernel_rfl)
theorem L75 : Lc 75 TD17 := L74.st 342 Tryz.f342 3 0 [none, none, some [0, 1, 2], none, none, none] zfy (by kernel_rfl)
theorem L76 : Lc 76 TD17 := L75.st 343 Tryz.f343 2 0 [none, none, none, none, some [0, 1, 5, 6], none, none, none, none] z9n (by kernel_rfl)
theorem L77 : Lc 77 TD17 := L76.stM 422 Tryz.f422 3 0 [none, none, none, none, none, none, none, some [0, 2, 7, 27, 28, 29], none, none, none, none, none, some [0, 2, 7, 8, 9, 27, 28, 29, 34, 35, 36], none, none, none, none, none] zcI zge (fun _ _ _ h => zll h) (by kernel_rfl)
theorem L78 : Lc 78 TD17 := L77.st 411 Tryz.f411 4 0 [none, none] z9l (by kernel_rfl)
theorem L79 : Lc 79 TD17 := L78.st 454 Tryz.f454 4 0 [none, none, none, none, some [0, 2, 3, 9, 10, 22, 23], none, none, none, none, none, some [0, 2, 3, 9, 10, 11, 12, 22, 23], none, none, some [0, 2, 3, 9, 10, 11, 12, 22, 23], none, none, none] zdU (by kernel_rfl)
theorem L80 : Lc 80 TD17 := L79.st 409 Tryz.f409 3 0 [none, none] zf4 (by kernel_rfl)
theorem L81 : Lc 81 TD17 := L80.me 412 Tryz.f412 2 [none, none, none, none, none, none, some [0, 1, 5, 6, 7, 20, 21], none, none, some [0, 1, 5, 6, 7, 20, 21], none, none, none, none, none, some [0, 1, 5, 6, 7, 8, 9, 10, 20, 21], none, none, some [0, 1, 5, 6, 7, 8, 9, 10, 20, 21], none, none, none, none, none, none, none, some [0, 1, 5, 6, 7, 8, 11, 20, 21, 71, 72], none, none, none, none, none, none, some [0, 1, 5, 6, 7, 8, 20, 21, 94, 95], none, none, some [0, 1, 5, 6, 7, 8, 20, 21, 94, 95], none, none, none, none, none, some [0, 1, 5, 6, 7, 8, 13, 14, 20, 21, 94, 95, 112, 113], none, none, none, none, none, none] zdR (by kernel_rfl)
theorem O81 : zev zn z9s := .cons ziB (.cons ziA (.cons ziz (.cons ziy (.cons zix (.cons ziw (.cons ziv (.cons ziu (.cons zit (.cons zis (.cons zh7 (.cons zh6 (.cons zh5 (.cons zh4 (.cons zh3 (.cons zh2 (.cons zh1 (.cons zh0 (.cons zgZ (.cons zgY (.cons zgX (.cons zgW (.cons zgV (.cons zgU (.cons zgT (.cons zgS (.cons zgR (.cons zgQ (.cons zgP (.cons zgO (.cons zgN (.cons zgM (.cons zgL (.cons zgK (.cons zgJ (.nil)))))))))))))))))))))))))))))))))))
theorem L82 : Lc 82 TD17 := L81.stM 344 Tryz.f344 2 0 [none, none, none, none, none, none, none, some [0, 1, 5, 6, 7, 8, 31, 32], none, none, none, none, none, none, none, none, none, none, some [0, 5, 7, 10, 71, 72], none, none, none, none, none, none, some [0, 5, 7, 10, 11, 71, 72, 80, 81], none, none, none, none, none, none, none, none, some [0, 5, 10, 13, 14, 102, 103], none, none, some [0, 5, 10, 13, 14, 102, 103], none, none, none, none, none, none, none, some [0, 5, 10, 13, 14, 15, 16, 102, 103, 116, 117], none, none, some [0, 5, 10, 13, 14, 15, 16, 102, 103, 116, 117], none, none, none] zn (fun φ => tabM z9s (zn φ)) (fun _ _ _ h => z8R O81 h) (by kernel_rfl)
theorem L83 : Lc 83 TD17 := L82.st 455 Tryz.f455 2 0 [none, none, none, none, none] zio (by kernel_rfl)
theorem L84 : Lc 84 TD17 := L83.st 415 Tryz.f415 3 0 [none, none, none, none, some [0, 1, 2, 7, 16, 17], none, none, none, none, none] zew (by kernel_rfl)
theorem L85 : Lc 85 TD17 := L84.st 346 Tryz.f346 2 0 [none, none, none, none, none, some [0, 5, 6, 20, 21, 22], none, none, some [0, 5, 6, 20, 21, 22], none, none, none, none, some [0, 5, 6, 8, 9, 20, 21, 22], none, none, none, none, none, some [0, 5, 6, 8, 9, 10, 20, 21, 22, 48, 49], none, none, some [0, 5, 6, 8, 9, 10, 20, 21, 22, 48, 49], none, none, none, none, none, none] z9Z (by kernel_rfl)
theorem L86 : Lc 86 TD17 := L85.st 270 Tryz.f270 1 0 [none, none, none, none, some [0, 4, 5, 6, 7], none, none, some [0, 4, 5, 6, 7], none, none, none, none, none, none, none, none, none, none, none, none] zcd (by kernel_rfl)
theorem L87 : Lc 87 TD17 := L86.st 347 Tryz.f347 1 0 [none, none, none, none] za4 (by kernel_rfl)
theorem L88 : Lc 88 TD17 := L87.st 271 Tryz.f271 1 0 [none, none, none, none, some [0, 2, 3, 6, 7, 8], none, none, none, none, none] zf3 (by kernel_rfl)
theorem L89 : Lc 89 TD17 := L88.st 272 Tryz.f272 1 0 [none, none] z6B (by kernel_rfl)
theorem L90 : Lc 90 TD17 := L89.st 273 Tryz.f273 2 0 [none, none, none, none, none, none, none, none, none, none, none] z3R (by kernel_rfl)
theorem L91 : Lc 91 TD17 := L90.me 417 Tryz.f417 1 [none, none, none, some [0, 3], none, none, none] zam (by kernel_rfl)
theorem L92 : Lc 92 TD17 := L91.st 348 Tryz.f348 2 1 [none, none, none, none, some [2, 5, 11, 12, 13], none, none, none, none, none] z2t (by kernel_rfl)
theorem L93 : Lc 93 TD17 := L92.st 349 Tryz.f349 2 0 [none, none, none, none, none, none, none, some [1, 5, 25, 26, 27], none, none, some [1, 5, 25, 26, 27], none, none, none, none, some [1, 5, 6, 7, 25, 26, 27, 35, 36, 37], none, none, none, none, none] zin (by kernel_rfl)
theorem O93 : zev zb z1f := .cons zgG (.cons zgF (.cons zgE (.cons zgD (.cons zgC (.cons zgB (.cons zgA (.cons zgz (.cons zgy (.cons zgx (.cons zfs (.cons zfr (.cons zfq (.cons zfp (.cons zfo (.cons zfn (.cons zfm (.cons zfl (.cons zfk (.cons zfj (.cons zfi (.cons zfh (.cons zfg (.cons zff (.cons zfe (.cons zfd (.cons zfc (.cons zfb (.cons zfa (.nil)))))))))))))))))))))))))))))
theorem L94 : Lc 94 TD17 := L93.stM 274 Tryz.f274 3 0 [none, none] zb (fun φ => tabM z1f (zb φ)) (fun _ _ _ h => z8R O93 h) (by kernel_rfl)
theorem L95 : Lc 95 TD17 := L94.stM 350 Tryz.f350 2 0 [none, none] za5 (fun _ => zdK) (fun _ _ _ h => zjN h) (by kernel_rfl)
theorem L96 : Lc 96 TD17 := L95.st 275 Tryz.f275 2 0 [none, none, none, none, some [2, 4, 5, 6, 7, 8], none, none, none, none, none, none] z7I (by kernel_rfl)
theorem L97 : Lc 97 TD17 := L96.st 418 Tryz.f418 3 0 [none, none, none, none, none, none, none, none, none, some [0, 1, 2, 9, 10, 11, 12], none, none, none, none, none, none, none, none, none] zgv (by kernel_rfl)
theorem L98 : Lc 98 TD17 := L97.st 419 Tryz.f419 1 0 [none, none, none, none, some [3, 9, 10, 11], none, none, none, none, none] z7J (by kernel_rfl)
theorem L99 : Lc 99 TD17 := L98.st 420 Tryz.f420 4 0 [none, none, none, none, none, some [3, 4, 9, 21, 22, 23], none, none, none, none, none] z14 (by kernel_rfl)
theorem L100 : Lc 100 TD17 := L99.stC 456 Tryz.f456 1 1 [none, none, none, none, none] z1y (fun h => zak hm h (by kernel_rfl) (by kernel_rfl) (by kernel_rfl) (by kernel_rfl) (by kernel_rfl) (by kernel_rfl) (by kernel_rfl) (by kernel_rfl) (by kernel_rfl) (by kernel_rfl) (by kernel_rfl)) (by kernel_rfl)
theorem O100 : zev zQ z4H := .cons zeD (.cons zeC (.cons zeB (.cons zeA (.cons zez (.cons zey (.cons zex (.nil)))))))
theorem L101 : Lc 101 TD17 := L100.stM 421 Tryz.f421 3 0 [none, none, none, none, none, none, none, none, some [2, 3, 8, 9, 10], none, none, none, none, none, none, some [2, 3, 8, 9, 10, 12, 55, 56, 57], none, none, none, none, none] zQ (fun φ => tabM z4H (zQ φ)) (fun _ _ _ h => z8R O100 h) (by kernel_rfl)
theorem O101 : zev z8A zeE := .cons zk7 (.cons zk6 (.cons zk5 (.nil)))
theorem L102 : Lc 102 TD17 := L101.stM 351 Tryz.f351 5 0 [none, none, none, none, none, none, some [0, 15, 16, 17, 18, 19, 43, 44], none, none, none, none, none, none, none, none, none, none, none, none, none] z8A (fun φ => tabM zeE (z8A φ)) (fun _ _ _ h => z8R O101 h) (by kernel_rfl)
theorem L103 : Lc 103 TD17 := L102.st 352 Tryz.f352 2 0 [none, none, none, none, some [0, 5, 9, 10, 11], none, none, none, none, none] z9R (by kernel_rfl)
theorem L104 : Lc 104 TD17 := L103.stR 276 Tryz.f276 4 1 [none, none, none, none, none, none, none] zkX zim rfl (by kernel_rfl)
theorem L105 : Lc 105 TD17 := L104.st 205 Tryz.f205 2 0 [none, none] z60 (by kernel_rfl)
theorem L106 : Lc 106 TD17 := L105.st 278 Tryz.f278 1 0 [none, none, none, none, some [0, 3, 9, 10, 11], none, none, none, none, some [0, 3], none, none, none, none, some [3, 6, 27, 28, 29], none, none, none, none, none] z7W (by kernel_rfl)
theorem L107 : Lc 107 TD17 := L106.st 423 Tryz.f423 2 0 [none, none, none, none, some [2, 5, 11, 12, 13], none, none, some [2, 5, 11, 12, 13], none, none, none] z4r (by kernel_rfl)
theorem L108 : Lc 108 TD17 := L107.st 424 Tryz.f424 2 0 [none, none, none, none, none, none, none, none, some [1, 6, 7, 8], none, none, some [1, 6, 7, 8], none, none, none, none, none, none, none, none, some [1, 6, 7, 8, 9, 61, 62, 63], none, none, none, none, none] zdS (by kernel_rfl)
theorem L109 : Lc 109 TD17 := L108.me 425 Tryz.f425 3 [none, none, none, none, none, none, none, none, none] z29 (by kernel_rfl)
theorem L110 : Lc 110 TD17 := L109.me 354 Tryz.f354 2 [none, none, none, none, none, some [0, 1, 5, 6, 30, 31, 32], none, none, none, none, none, none, none, none, none, some [0, 1, 5], none, none, none, none, none, none, some [0, 1, 5, 92, 93, 94], none, none, none, none, none, none, none, none, none, none, none, none, none, some [0, 1, 17], none, none, none, none] z9h (by kernel_rfl)
theorem L111 : Lc 111 TD17 := L110.stC 355 Tryz.f355 1 1 [none, none, none, none, none] z4Q (fun h => zak hm h (by kernel_rfl) (by kernel_rfl) (by kernel_rfl) (by kernel_rfl) (by kernel_rfl) (by kernel_rfl) (by kernel_rfl) (by kernel_rfl) (by kernel_rfl) (by kernel_rfl) (by kernel_rfl)) (by kernel_rfl)
theorem L112 : Lc 112 zil := L111.mrd 353 Tryz.f353 5 [none, none, none, none, none, none, some [1, 2, 3, 4, 8], none, none, none, none, none, none] z9V z6A rfl (by kernel_rfl)
theorem L113 : Lc 113 zil := L112.me 277 Tryz.f277 2 [none, none, none, none] z8H (by kernel_rfl)
theorem L114 : Lc 114 zil := L113.st 225 Tryz.f225 1 0 [none, none, none, none, none, none, none, none, none, none, none, some [0, 3, 4, 5, 6, 7], none, none, none, none, none, none, none, none, none, some [10, 11], none, none, none, none, none] zf0 (by kernel_rfl)
theorem L115 : Lc 115 zil := L114.st 226 Tryz.f226 1 0 [none, none, none, none, some [0, 3, 15, 16, 17], none, none, none, none, none, none, none, none, none, some [3, 9, 39, 40, 41], none, none, none, none, none, none] zf2 (by kernel_rfl)
theorem L116 : Lc 116 zil := L115.st 254 Tryz.f254 1 0 [none, some [0, 2], none, none, some [0, 2], none, none, none] z7K (by kernel_rfl)
theorem L117 : Lc 117 zil := L116.st 203 Tryz.f203 1 0 [none, none, none, none] z46 (by kernel_rfl)
theorem L118 : Lc 118 zil := L117.st 229 Tryz.f229 2 0 [none, none, none, none, none, none, some [0, 1, 18, 19], none, none, none, none, none, none, none, none] zce (by kernel_rfl)
theorem L119 : Lc 119 z3Q := L118.std 228 Tryz.f228 2 0 [none, none] za0 (by kernel_rfl)
theorem L120 : Lc 120 z3Q := L119.me 356 Tryz.f356 4 [none, some [0, 1, 2, 3, 8], none, none, none, none, some [0, 1, 2, 3, 8, 9], none, none, none] z1t (by kernel_rfl)
theorem L121 : Lc 121 z3Q := L120.me 426 Tryz.f426 5 [none, some [0, 2, 3, 4, 10], none, none, none, some [0, 2, 3, 4, 10, 11], none, none, none, none] z1d (by kernel_rfl)
theorem L122 : Lc 122 z3Q := L121.me 357 Tryz.f357 4 [none, none, none, none, none, some [0, 3, 8, 9, 10, 11], none, none, none, none, some [0, 3, 8, 9, 12], none, none, none, none] z25 (by kernel_rfl)
theorem L123 : Lc 123 z3Q := L122.me 321 Tryz.f321 1 [none, none] z2o (by kernel_rfl)
theorem L124 : Lc 124 z3Q := L123.st 322 Tryz.f322 1 0 [none, none, none, none, none] z2z (by kernel_rfl)
theorem L125 : Lc 125 z3Q := L124.me 358 Tryz.f358 4 [none, none, none, none, none, some [0, 1, 8, 9, 10, 11], none, none, none, none, some [0, 1, 8, 9, 10, 11, 12], none] z1v (by kernel_rfl)
theorem L126 : Lc 126 z3Q := L125.me 457 Tryz.f457 5 [none, none, none, none, none, none] zS (by kernel_rfl)
theorem L127 : Lc 127 z3Q := L126.me 428 Tryz.f428 6 [none, none, none, none, none] z1m (by kernel_rfl)
theorem L128 : Lc 128 z3Q := L127.me 427 Tryz.f427 4 [none, none] zD (by kernel_rfl)
theorem L129 : Lc 129 z3Q := L128.me 359 Tryz.f359 4 [none, none, none, none, none, none, some [11, 13], none, some [0, 3, 11, 12, 13, 14], none, none, none, none, none, none, none, none, none] z1I (by kernel_rfl)
theorem L130 : Lc 130 z3Q := L129.me 360 Tryz.f360 4 [none, none, some [0, 8, 9], none, none, none, none] z1z (by kernel_rfl)
theorem L131 : Lc 131 z3Q := L130.me 361 Tryz.f361 4 [none, none, none, none, some [0, 1, 2, 3, 9, 10], none, none, some [0, 1, 2, 3, 9, 10], none, some [0, 1, 2, 3, 9, 10], none, none, none, none, none, none, none, none, none, some [0, 1, 2, 3, 9, 10], none, none, some [0, 1, 2, 3, 9, 10, 11], none, none, none, none, none, none, none, some [0, 1, 2, 3, 9, 10, 12], none, none, none, none, none, none] zU (by kernel_rfl)
theorem L132 : Lc 132 z3Q := L131.me 362 Tryz.f362 5 [none, none, none, none, some [0, 1, 4, 11, 12], none, some [0, 1, 4, 11, 12], none, none, none, some [0, 1, 4, 11, 12], none, none, none, none, none, none, none] z1k (by kernel_rfl)
theorem L133 : Lc 133 z3Q := L132.me 363 Tryz.f363 5 [none, none, none, none, some [0, 1, 4, 12, 13], none, none, none, some [0, 1, 4, 12, 13], none, none, none, none, none, none, none, none, none, none, some [0, 1, 4, 12, 13], none, some [0, 1, 4, 12, 13], none, none, none, some [0, 1, 4, 12, 13], none, none, none, none, none, none, none, none] z1X (by kernel_rfl)
theorem L134 : Lc 134 z3Q := L133.mr 279 Tryz.f279 5 [none, none, some [0, 1, 2, 3, 4, 10, 11], none, none, none, none, none, none, none, some [0, 1, 2, 3, 4, 10, 11, 12], none, none, none, some [0, 1, 2, 3, 4, 10, 11, 12, 13, 14], none, none, none, some [0, 1, 2, 3, 4, 10, 11, 12, 13], none, none, none, none, none, none, none, none, none, none, none, none, none, none, none] z3o z2h rfl (by kernel_rfl)
theorem L135 : Lc 135 z3Q := L134.me 227 Tryz.f227 2 [none] z1B (by kernel_rfl)
theorem O135 : zev z57 z8D := .cons zh8 (.nil)
theorem L136 : Lc 136 z3Q := L135.stM 187 Tryz.f187 1 0 [none, none, none, none, none, none, none, some [3, 12, 13, 14], none, none, none, none, none, some [3, 5, 12, 13, 14, 21, 22, 23], none, none, none, none, none, none] z57 (fun φ => tabM z8D (z57 φ)) (fun _ _ _ h => z8R O135 h) (by kernel_rfl)
theorem L137 : Lc 137 z3Q := L136.st 127 Tryz.f127 1 0 [none, none, none, none, none, none, none] z4q (by kernel_rfl)
theorem O137 : zev za z2J := .cons zcx (.cons zcw (.cons zcv (.cons zcu (.cons zct (.cons zcs (.cons zcr (.cons zcq (.cons zcp (.cons zco (.cons zbz (.cons zby (.cons zbx (.cons zbw (.cons zbv (.cons zbu (.cons zbt (.cons zbs (.cons zbr (.cons zbq (.cons zbp (.cons zbo (.cons zbn (.cons zbm (.nil))))))))))))))))))))))))
theorem L138 : Lc 138 z3Q := L137.stM 64 Tryz.f64 1 0 [none, none, none, none, none, none, none, none, none, none, none, none, none] za (fun φ => tabM z2J (za φ)) (fun _ _ _ h => z8R O137 h) (by kernel_rfl)
theorem L139 : Lc 139 z3Q := L138.st 195 Tryz.f195 2 0 [none, none, none, none, none, none, none, none, none] z6m (by kernel_rfl)
theorem L140 : Lc 140 z3Q := L139.st 145 Tryz.f145 2 0 [none, none, none, none, none, none, some [1, 2, 11, 12, 13], none, none, none, none, none, none, none, none, none, none, none] z7T (by kernel_rfl)
end
end Go.Proofs.YthljpappkomocaaGreat
