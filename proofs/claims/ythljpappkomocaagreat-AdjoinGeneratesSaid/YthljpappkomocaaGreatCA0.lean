/- Residuals of functions, printed by a program. -/
import Derived.Test.YthljpappkomocaaGreatB0
import Derived.Test.YthljpappkomocaaGreatD0
set_option linter.all false
set_option maxRecDepth 1000000
set_option maxHeartbeats 0
namespace Go.Proofs.YthljpappkomocaaGreat
open Ev
noncomputable section
def TD0(φ:Nat):pG:=λ_=>none
def ik(φ:Nat):List D→Option D:=
λas=>
(λ(s:LS)=>
 u1 as λd e=>
 u0 e (
 ic d s λf s=>
 fq [(.b false),(.n 0),(.n 0)] s λc s=>
 eS 2 s f λg s=>
 kN [(.b false),(.n 0),(.n 0)] [(0,2,g),(2,1,(.n 1))] s λh s=>
 eU 3 s c h λ_ s=>
 eS 3 s c λi _=>
 eX false s i some)) s0
def gp(φ:Nat):List D→Option D:=
λas=>
(λ(s:LS)=>
 u1 as λc g=>
 u1 g λe h=>
 u0 h (
 fq [(.b false),(.n 0)] s λf s=>
 eI c true (λk=>k e s) s λi s=>
 eI c true (λk=>mE i (.n 0) λd=>k d s) s λl s=>
 fX c l (.b false) s λm s=>
 kN [(.b false),(.n 0)] [(0,1,m),(1,1,e)] s λo s=>
 eU 2 s f o λ_ s=>
 eS 2 s f λp _=>
 eX false s p some)) s0
def iC(φ:Nat)(n:D→D→D→LS→Rs)(o:D→D→D→D→LS→Rs)(c e f g:D)(s:LS):Rs:=(
 jt g (.i .i64 (.ofNat 0)) λp=>
 eQ p
(jn (λ(u v w y:D)(s:LS)=>
 et y (.i .i64 (.ofNat 8)) λz=>
 o u v w z s) λl=>
 eK 1 s c f λA s=>
 eJ s A λB s=>
 o5 B g λC=>
 lP .u8 C s λm s=>
 ek e s λE s=>
 kC E (.i .i64 (.ofNat 0)) λh=>
 eI h false (λk=>k m s) s λF s=>
 eI h false (λk=>kC F (.i .u8 (.ofNat 0)) λd=>k d s) s λG s=>
 fX h (.b true) G s λH s=>
 eQ H
(jY 1 [(.i .u8 (.ofNat 0))] [(0,1,m)] s λI s=>
 mF 1 1 s e I λJ s=>
 l c J f g s)
(l c e f g s))
(et f (.i .i64 (.ofNat 1)) λK=>
 n c e K s))
def jh(φ:Nat)(e:D→D→D→LS→Rs)(f b d:D)(s:LS):Rs:=(
 jt d (.i .i64 (.ofNat 0)) λg=>
 eQ g
(lp (λ(_ _ _ _:D)(_:LS)=>none) (iC φ e) φ f b d (.i .i64 (.ofNat 24)) s)
(kS (.b2s (.c b)) s λh s=>
 eX false s h some))
def oj(φ:Nat):List D→Option D:=
λas=>
(λ(s:LS)=>
 u1 as λb c=>
 u0 c (
 ek b s λd s=>
 et d (.i .i64 (.ofNat 1)) λe=>
 lp (λ(_ _ _:D)(_:LS)=>none) (jh φ) φ b (.tree [] 0 true) e s)) s0
def sK(φ:Nat)(kk:D→LS→Rs)(f:D→LS→Rs)(e:D)(s:LS):Rs:=(
 ek e s λg s=>
 kC g (.i .i64 (.ofNat 0)) λc=>
 eI c true (λk=>k e s) s λh s=>
 eI c true (λk=>k e s) s λl s=>
 eI c true (λk=>ek l s k) s λm s=>
 eI c true (λk=>et m (.i .i64 (.ofNat 1)) λd=>k d s) s λn s=>
 eI c true (λk=>eK 1 s h n k) s λo s=>
 eI c true (λk=>eJ s o k) s λp s=>
 eI c true (λk=>gx p (.i .u64 (.ofNat 0)) λd=>k d s) s λu s=>
 fX c u (.b false) s λv s=>
 eQ v
(ek e s λw s=>
 et w (.i .i64 (.ofNat 1)) λy=>
 kg 1 s e none (some y) none λz s=>
 f z s)
(kk e s))
def jx(φ:Nat):List D→LS→(D→LS→Rs)→Rs:=
λas s kk=>
 u1 as λb c=>
 u0 c (
 lp (λ(_:D)(_:LS)=>none) (sK φ kk) φ b s)
def rx(φ:Nat)(h:D→D→D→LS→Rs)(k:D→D→D→D→D→LS→Rs)(b f d g e:D)(s:LS):Rs:=(
 fN e d λl=>
 eQ l
(kv g (.i .u64 (.ofNat 256)) λm=>
 kS (.index (.c b) (.c e)) s λn s=>
 lP .u64 n s λo s=>
 ee m o λp=>
 ee e (.i .i64 (.ofNat 1)) λu=>
 k b f d p u s)
(jY 1 [(.i .u64 (.ofNat 0))] [(0,1,g)] s λv s=>
 mF 1 8 s f v λw s=>
 et d (.i .i64 (.ofNat 4)) λy=>
 h b w y s))
def i7(φ:Nat)(e:D→D→D→LS→Rs)(f d b:D)(s:LS):Rs:=(
 kC b (.i .i64 (.ofNat 0)) λg=>
 eQ g
(et b (.i .i64 (.ofNat 4)) λh=>
 kS (.max (.c (.i .i64 (.ofNat 0))) (.c h)) s λk s=>
 lp (λ(_ _ _ _ _:D)(_:LS)=>none) (rx φ e) φ f d b (.i .u64 (.ofNat 0)) k s)
((jx φ) [d] s λl s=>
 eX true s l some))
def oE(φ:Nat):List D→Option D:=
λas=>
(λ(s:LS)=>
 u1 as λb d=>
 u0 d (
 kS (.lens (.c b)) s λe s=>
 lp (λ(_ _ _:D)(_:LS)=>none) (i7 φ) φ b (.tree [] 0 true) e s)) s0
def jL(φ:Nat)(A:D→D→D→D→D→LS→Rs)(e l m n c:D)(s:LS):Rs:=(
 ek e s λB s=>
 fN c B λf=>
 eI f false (λk=>k c s) s λC s=>
 eI f false (λk=>k l s) s λE s=>
 eI f false (λk=>ek E s k) s λF s=>
 eI f false (λk=>fN C F λd=>k d s) s λG s=>
 fX f (.b true) G s λo s=>
 eI o false (λk=>k n s) s λH s=>
 eI o false (λk=>kC H (.i .u64 (.ofNat 0)) λd=>k d s) s λI s=>
 fX o (.b true) I s λJ s=>
 eQ J
(jn (λ(p g u h v:D)(s:LS)=>
 jn (λ(K M N O w:D)(s:LS)=>
 uu w (.i .u64 (.ofNat 4294967295)) λP=>
 jY 1 [(.i .u64 (.ofNat 0))] [(0,1,P)] s λS s=>
 mF 1 8 s N S λU s=>
 o5 w (.i .u64 (.ofNat 32)) λV=>
 ee O (.i .i64 (.ofNat 1)) λW=>
 A K M U V W s) λy=>
 ek g s λX s=>
 fN h X λY=>
 eQ Y
(eK 1 s g h λZ s=>
 eJ s Z λbb s=>
 ee v bb λbc=>
 y p g u h bc s)
(y p g u h v s)) λz=>
 ek e s λbd s=>
 fN c bd λbf=>
 eQ bf
(eK 1 s e c λbg s=>
 eJ s bg λbh s=>
 ee n bh λbi=>
 z e l m c bi s)
(z e l m c n s))
(eR qj [m] s λbk s=>
 eX false s bk some))
def pV(φ:Nat):List D→Option D:=
λas=>
(λ(s:LS)=>
 u1 as λb c=>
 u1 c λd e=>
 u0 e (
 eR p6 [b] s λf s=>
 eR p6 [d] s λg s=>
 lp (λ(_ _ _ _ _:D)(_:LS)=>none) (jL φ) φ f g (.tree [] 0 true) (.i .u64 (.ofNat 0)) (.i .i64 (.ofNat 0)) s)) s0
def wP(φ:Nat):List D→Option D:=
λas=>
(λ(s:LS)=>
 u1 as λf l=>
 u1 l λg m=>
 u0 m (
 kS (.lens (.c f)) s λn s=>
 kS (.lens (.c g)) s λo s=>
 fN n o λe=>
 eI e false (λk=>k f s) s λp s=>
 eI e false (λk=>kS (.lens (.c p)) s k) s λu s=>
 eI e false (λk=>k g s) s λv s=>
 eI e false (λk=>kS (.lens (.c v)) s k) s λw s=>
 eI e false (λk=>gx u w λd=>k d s) s λy s=>
 eI e false (λk=>k y s) s λh s=>
 eI h true (λk=>k f s) s λz s=>
 eI h true (λk=>k g s) s λA s=>
 eI h true (λk=>fN z A λd=>k d s) s λB s=>
 eI e false (λk=>fX h B (.b false) s k) s λC s=>
 fX e (.b true) C s λE s=>
 eQ E
(eX false s (.i .i64 (.negSucc 0)) some)
(gx f g λF=>
 eQ F
(eX false s (.i .i64 (.ofNat 0)) some)
(eX false s (.i .i64 (.ofNat 1)) some)))) s0
def gi(φ:Nat)(p:D→D→D→D→LS→Rs)(e f l b:D)(s:LS):Rs:=(
 ek e s λu s=>
 fN b u λv=>
 eQ v
(jn (λ(c m d g:D)(s:LS)=>
 jn (λ(h w y k z:D)(s:LS)=>
 eK 1 s h k λA s=>
 eJ s A λB s=>
 et B z λC=>
 eK 1 s h k λE s=>
 eU 1 s E C λ_ s=>
 ee k (.i .i64 (.ofNat 1)) λF=>
 p h w y F s) λn=>
 eK 1 s c d λG s=>
 eJ s G λH s=>
 fN H g λI=>
 eQ I
(eK 1 s c d λJ s=>
 eJ s J λK s=>
 ee K (.i .u64 (.ofNat 4294967296)) λM=>
 eK 1 s c d λN s=>
 eU 1 s N M λ_ s=>
 n c m (.i .u64 (.ofNat 1)) d g s)
(n c m (.i .u64 (.ofNat 0)) d g s)) λo=>
 ek f s λO s=>
 fN b O λP=>
 eQ P
(eK 1 s f b λS s=>
 eJ s S λU s=>
 ee l U λV=>
 o e f b V s)
(o e f b l s))
(eR qj [e] s λW s=>
 eX false s W some))
def pT(φ:Nat):List D→Option D:=
λas=>
(λ(s:LS)=>
 u1 as λb d=>
 u1 d λc e=>
 u0 e (
 eR nH [b,c] s λf s=>
 fN f (.i .i64 (.ofNat 0)) λg=>
 eQ g
(eX false s (.n 0) some)
(eR p6 [b] s λh s=>
 eR p6 [c] s λk s=>
 lp (λ(_ _ _ _:D)(_:LS)=>none) (gi φ) φ h k (.i .u64 (.ofNat 0)) (.i .i64 (.ofNat 0)) s))) s0
def jf(φ:Nat):List D→Option D:=
λas=>
(λ(s:LS)=>
 u1 as λf g=>
 u1 g λh k=>
 u0 k (
 ic f s λc s=>
 ic h s λd s=>
 fq [(.b false),(.n 0)] s λe s=>
 eW 0 s c λl s=>
 eJ s l λm s=>
 eW 0 s d λo s=>
 eJ s o λp s=>
 wi .eql m p s λu s=>
 eQ u
(eW 0 s c λv s=>
 eJ s v λw s=>
 eW 1 s c λy s=>
 eJ s y λz s=>
 eW 1 s d λA s=>
 eJ s A λB s=>
 eR yQ [z,B] s λC s=>
 eR (gp φ) [w,C] s λE s=>
 eU 2 s e E λ_ s=>
 eS 2 s e λF _=>
 eX false s F some)
(eW 1 s c λG s=>
 eJ s G λH s=>
 eW 1 s d λI s=>
 eJ s I λJ s=>
 eR nH [H,J] s λK s=>
 jt K (.i .i64 (.ofNat 0)) λM=>
 eQ M
(eW 0 s c λN s=>
 eJ s N λO s=>
 eW 1 s c λP s=>
 eJ s P λS s=>
 eW 1 s d λU s=>
 eJ s U λV s=>
 eR v9 [S,V] s λW s=>
 eR (gp φ) [O,W] s λX s=>
 eU 2 s e X λ_ s=>
 eS 2 s e λY _=>
 eX false s Y some)
(eW 0 s d λZ s=>
 eJ s Z λbb s=>
 eW 1 s d λbc s=>
 eJ s bc λbd s=>
 eW 1 s c λbf s=>
 eJ s bf λbg s=>
 eR v9 [bd,bg] s λbh s=>
 eR (gp φ) [bb,bh] s λbi s=>
 eU 2 s e bi λ_ s=>
 eS 2 s e λbk _=>
 eX false s bk some)))) s0
def lh(φ:Nat)(k:D→D→D→D→LS→Rs)(l:D→D→D→D→D→D→LS→Rs)(f c d b g e:D)(s:LS):Rs:=(
 ek c s λm s=>
 fN e m λn=>
 eQ n
(ee b e λo=>
 eK 1 s d o λp s=>
 eJ s p λu s=>
 eK 1 s f b λv s=>
 eJ s v λw s=>
 eK 1 s c e λy s=>
 eJ s y λz s=>
 kv w z λA=>
 ee u A λB=>
 ee B g λh=>
 ee b e λC=>
 uu h (.i .u64 (.ofNat 4294967295)) λE=>
 eK 1 s d C λF s=>
 eU 1 s F E λ_ s=>
 o5 h (.i .u64 (.ofNat 32)) λG=>
 ee e (.i .i64 (.ofNat 1)) λH=>
 l f c d b G H s)
(ek c s λI s=>
 ee b I λJ=>
 eK 1 s d J λK s=>
 eU 1 s K g λ_ s=>
 ee b (.i .i64 (.ofNat 1)) λM=>
 k f c d M s))
def jK(φ:Nat)(e:D→D→D→D→LS→Rs)(b f c d:D)(s:LS):Rs:=(
 ek b s λg s=>
 fN d g λh=>
 eQ h
(lp (λ(_ _ _ _ _ _:D)(_:LS)=>none) (lh φ e) φ b f c d (.i .u64 (.ofNat 0)) (.i .i64 (.ofNat 0)) s)
(eR qj [c] s λk s=>
 eX false s k some))
def pU(φ:Nat):List D→Option D:=
λas=>
(λ(s:LS)=>
 u1 as λe f=>
 u1 f λg h=>
 u0 h (
 eR p6 [e] s λb s=>
 eR p6 [g] s λc s=>
 ek b s λk s=>
 ek c s λl s=>
 ee k l λd=>
 mK 1 8 [(.i .u64 (.ofNat 0))] s d d λm s=>
 lp (λ(_ _ _ _:D)(_:LS)=>none) (jK φ) φ b c m (.i .i64 (.ofNat 0)) s)) s0
def gV(φ:Nat):List D→Option D:=
λas=>
(λ(s:LS)=>
 u1 as λf g=>
 u1 g λh i=>
 u0 i (
 ic f s λc s=>
 ic h s λd s=>
 fq [(.b false),(.n 0)] s λe s=>
 eW 0 s c λk s=>
 eJ s k λl s=>
 eW 0 s d λm s=>
 eJ s m λo s=>
 wi .neq l o s λp s=>
 eW 1 s c λu s=>
 eJ s u λv s=>
 eW 1 s d λw s=>
 eJ s w λy s=>
 eR xt [v,y] s λz s=>
 eR (gp φ) [p,z] s λA s=>
 eU 2 s e A λ_ s=>
 eS 2 s e λB _=>
 eX false s B some)) s0
def fQ(φ:Nat):List D→Option D:=
λas=>
(λ(s:LS)=>
 u1 as λd e=>
 u0 e (
 ic d s λf s=>
 fq [(.b false),(.n 0)] s λc s=>
 eW 2 s f λg s=>
 eJ s g λh s=>
 kN [(.b false),(.n 0)] [(1,1,h)] s λi s=>
 eU 2 s c i λ_ s=>
 eS 2 s c λk _=>
 eX false s k some)) s0
def ol(φ:Nat)(f:D→D→D→LS→Rs)(d e c:D)(s:LS):Rs:=(
 jt c (.i .i64 (.ofNat 0)) λg=>
 eQ g
(eK 1 s d c λh s=>
 eJ s h λk s=>
 eK 1 s e c λl s=>
 eJ s l λm s=>
 mE k m λn=>
 eQ n
(eK 1 s d c λo s=>
 eJ s o λp s=>
 eK 1 s e c λu s=>
 eJ s u λv s=>
 fN p v λw=>
 eX false s w some)
(et c (.i .i64 (.ofNat 1)) λy=>
 f d e y s))
(eX false s (.b false) some))
def oF(φ:Nat):List D→Option D:=
λas=>
(λ(s:LS)=>
 u1 as λd e=>
 u1 e λc f=>
 u0 f (
(jx φ) [d] s λb s=>
 ek b s λg s=>
 ek c s λh s=>
 mE g h λk=>
 eQ k
(ek b s λl s=>
 ek c s λm s=>
 fN l m λn=>
 eX false s n some)
(ek b s λo s=>
 et o (.i .i64 (.ofNat 1)) λp=>
 lp (λ(_ _ _:D)(_:LS)=>none) (ol φ) φ b c p s))) s0
def gZ(φ:Nat)(v:D→D→D→D→D→LS→Rs)(w:D→D→D→D→D→D→D→D→LS→Rs)(f e b h c k o d:D)(s:LS):Rs:=(
 fN d e λy=>
 eQ y
(eK 1 s f d λz s=>
 eJ s z λA s=>
 kv A k λB=>
 ee B o λg=>
 o5 g (.i .u64 (.ofNat 32)) λp=>
 jn (λ(C E l F m G H n I:D)(s:LS)=>
 ee m n λJ=>
 ee m n λK=>
 eK 1 s l K λM s=>
 eJ s M λN s=>
 uu I (.i .u64 (.ofNat 4294967295)) λO=>
 et N O λP=>
 eK 1 s l J λS s=>
 eU 1 s S P λ_ s=>
 ee n (.i .i64 (.ofNat 1)) λU=>
 w C E l F m G H U s) λu=>
 ee c d λV=>
 eK 1 s b V λW s=>
 eJ s W λX s=>
 uu g (.i .u64 (.ofNat 4294967295)) λY=>
 fN X Y λZ=>
 eQ Z
(ee c d λbb=>
 ee c d λbc=>
 eK 1 s b bc λbd s=>
 eJ s bd λbf s=>
 ee bf (.i .u64 (.ofNat 4294967296)) λbg=>
 eK 1 s b bb λbh s=>
 eU 1 s bh bg λ_ s=>
 ee p (.i .u64 (.ofNat 1)) λbi=>
 u f e b h c k bi d g s)
(u f e b h c k p d g s))
(ee c e λbk=>
 ee c e λbl=>
 eK 1 s b bl λbm s=>
 eJ s bm λbn s=>
 et bn o λbo=>
 eK 1 s b bk λbp s=>
 eU 1 s bp bo λ_ s=>
 v f e b h c s))
def jA(φ:Nat)(k:D→D→D→D→D→LS→Rs)(l:D→D→D→D→D→LS→Rs)(f d e g b:D)(s:LS):Rs:=(
 kg 1 s e (some b) none none λm s=>
 eR tQ [m,f] s λn s=>
 sX n s λo s=>
 eQ o
(ee b d λp=>
 eK 1 s e p λu s=>
 eJ s u λv s=>
 vm v (.i .u64 (.ofNat 32)) λw=>
 ee b d λy=>
 et y (.i .i64 (.ofNat 1)) λz=>
 eK 1 s e z λA s=>
 eJ s A λB s=>
 ee w B λC=>
 et d (.i .i64 (.ofNat 1)) λE=>
 eK 1 s f E λF s=>
 eJ s F λG s=>
 ee G (.i .u64 (.ofNat 1)) λH=>
 u7 C H λI=>
 kS (.max (.c (.i .u64 (.ofNat 1))) (.c I)) s λh s=>
 eK 1 s g b λJ s=>
 eJ s J λK s=>
 ee K h λM=>
 eK 1 s g b λN s=>
 eU 1 s N M λ_ s=>
 lp (λ(_ _ _ _ _ _ _ _:D)(_:LS)=>none) (gZ φ l) φ f d e g b h (.i .u64 (.ofNat 0)) (.i .i64 (.ofNat 0)) s)
(et b (.i .i64 (.ofNat 1)) λO=>
 k f d e g O s))
def fh(φ:Nat)(e:D→D→D→D→D→LS→Rs)(f g b c d:D)(s:LS):Rs:=(
 jt d (.i .i64 (.ofNat 0)) λh=>
 eQ h
(lp (λ(_ _ _ _ _:D)(_:LS)=>none) (jA φ e) φ f g b c d s)
(eR qj [c] s λk s=>
 eR qj [b] s λl s=>
 eX false s (.tup [k,l]) some))
def n5(φ:Nat):List D→Option D:=
λas=>
(λ(s:LS)=>
 u1 as λk l=>
 u1 l λb m=>
 u0 m (
 gx b (.n 0) λo=>
 eQ o
(eX false s (.tup [(.n 0),(.n 0)]) some)
(eR p6 [k] s λd s=>
 eR p6 [b] s λe s=>
 ek e s λf s=>
 jY 1 [(.i .u64 (.ofNat 0))] [(0,1,(.i .u64 (.ofNat 0)))] s λp s=>
 mF 1 8 s d p λu s=>
 ek d s λv s=>
 et v f λw=>
 ee w (.i .i64 (.ofNat 1)) λy=>
 kS (.max (.c (.i .i64 (.ofNat 0))) (.c y)) s λg s=>
 mK 1 8 [(.i .u64 (.ofNat 0))] s g g λh s=>
 ek h s λz s=>
 et z (.i .i64 (.ofNat 1)) λA=>
 lp (λ(_ _ _ _ _:D)(_:LS)=>none) (fh φ) φ e f u h A s))) s0
def tU(φ:Nat)(e:D→D→LS→Rs)(c b:D)(s:LS):Rs:=(
 mE b (.n 0) λf=>
 eQ f
(eR oP [c,b] s λd s=>
 gD d 0 s λh s=>
 gD d 1 s λg s=>
 e b g s)
(eX false s c some))
def ry(φ:Nat):List D→Option D:=
λas=>
(λ(s:LS)=>
 u1 as λb c=>
 u1 c λd e=>
 u0 e (
 lp (λ(_ _:D)(_:LS)=>none) (tU φ) φ b d s)) s0
def lR(φ:Nat):List D→Option D:=
λas=>
(λ(s:LS)=>
 u1 as λi k=>
 u1 k λl m=>
 u0 m (
 ic i s λe s=>
 ic l s λc s=>
 fq [(.b false),(.n 0),(.n 0)] s λd s=>
 eW 1 s c λo s=>
 eJ s o λp s=>
 gx p (.n 0) λu=>
 eQ u
(kN [(.b false),(.n 0),(.n 0)] [(2,1,(.n 1))] s λv s=>
 eU 3 s d v λ_ s=>
 eS 3 s d λw _=>
 eX false s w some)
(eW 1 s e λy s=>
 eJ s y λz s=>
 eW 1 s c λA s=>
 eJ s A λB s=>
 eR vr [z,B] s λf s=>
 eW 1 s e λC s=>
 eJ s C λE s=>
 eR oP [E,f] s λg s=>
 gD g 0 s λF s=>
 gD g 1 s λV s=>
 eW 1 s c λG s=>
 eJ s G λH s=>
 eR oP [H,f] s λh s=>
 gD h 0 s λI s=>
 gD h 1 s λW s=>
 eW 0 s e λJ s=>
 eJ s J λK s=>
 eW 0 s c λM s=>
 eJ s M λN s=>
 wi .neq K N s λO s=>
 eR (gp φ) [O,F] s λP s=>
 kN [(.b false),(.n 0),(.n 0)] [(0,2,P),(2,1,I)] s λS s=>
 eU 3 s d S λ_ s=>
 eS 3 s d λU _=>
 eX false s U some))) s0
def iw(φ:Nat):List D→Option D:=
λas=>
(λ(s:LS)=>
 u1 as λi l=>
 u1 l λm o=>
 u0 o (
 ic i s λc s=>
 ic m s λe s=>
 fq [(.b false),(.n 0),(.n 0)] s λf s=>
 eW 2 s c λp s=>
 eJ s p λu s=>
 gx u (.n 1) λg=>
 eI g true (λk=>eW 2 s e k) s λv s=>
 eI g true (λk=>eJ s v k) s λw s=>
 eI g true (λk=>gx w (.n 1) λd=>k d s) s λy s=>
 fX g y (.b false) s λz s=>
 eQ z
(eW 0 s c λA s=>
 eS 2 s A λB s=>
 eW 0 s e λC s=>
 eS 2 s C λE s=>
 eR (jf φ) [B,E] s λF s=>
 eR (ik φ) [F] s λG s=>
 eU 3 s f G λ_ s=>
 eS 3 s f λH _=>
 eX false s H some)
(eW 0 s c λI s=>
 eS 2 s I λJ s=>
 eS 3 s e λK s=>
 eR (fQ φ) [K] s λM s=>
 eR (gV φ) [J,M] s λN s=>
 eW 0 s e λO s=>
 eS 2 s O λP s=>
 eS 3 s c λS s=>
 eR (fQ φ) [S] s λU s=>
 eR (gV φ) [P,U] s λV s=>
 eR (jf φ) [N,V] s λW s=>
 fq [(.b false),(.n 0)] s λh s=>
 eU 2 s h W λ_ s=>
 eS 2 s h λX s=>
 eS 3 s c λY s=>
 eR (fQ φ) [Y] s λZ s=>
 eS 3 s e λbb s=>
 eR (fQ φ) [bb] s λbc s=>
 eR (gV φ) [Z,bc] s λbd s=>
 eR (lR φ) [X,bd] s λbf s=>
 eU 3 s f bf λ_ s=>
 eS 3 s f λbg _=>
 eX false s bg some))) s0
def pt(φ:Nat):List D→Option D:=
λas=>
(λ(s:LS)=>
 u1 as λb c=>
 u0 c (
 uu b (.i .u64 (.ofNat 4294967295)) λd=>
 o5 b (.i .u64 (.ofNat 32)) λe=>
 jY 2 [(.i .u64 (.ofNat 0))] [(0,1,d),(1,1,e)] s λf s=>
 eR qj [f] s λg s=>
 eX false s g some)) s0
def pR(φ:Nat):List D→Option D:=
λas=>
(λ(s:LS)=>
 u1 as λe f=>
 u0 f (
 fq [(.b false),(.n 0)] s λd s=>
 fN e (.i .i64 (.ofNat 0)) λg=>
 eQ g
(ee e (.i .i64 (.ofNat 1)) λh=>
 kS (.neg (.c h)) s λk s=>
 lP .u64 k s λl s=>
 ee l (.i .u64 (.ofNat 1)) λm=>
 eR (pt φ) [m] s λo s=>
 kN [(.b false),(.n 0)] [(0,1,(.b true)),(1,1,o)] s λp s=>
 eU 2 s d p λ_ s=>
 eS 2 s d λu _=>
 eX false s u some)
(lP .u64 e s λv s=>
 eR (pt φ) [v] s λw s=>
 kN [(.b false),(.n 0)] [(1,1,w)] s λy s=>
 eU 2 s d y λ_ s=>
 eS 2 s d λz _=>
 eX false s z some))) s0
def fb(φ:Nat):List D→Option D:=
λas=>
(λ(s:LS)=>
 u1 as λd e=>
 u0 e (
 fq [(.b false),(.n 0),(.n 0)] s λc s=>
 eR (pR φ) [d] s λf s=>
 kN [(.b false),(.n 0),(.n 0)] [(0,2,f),(2,1,(.n 1))] s λg s=>
 eU 3 s c g λ_ s=>
 eS 3 s c λh _=>
 eX false s h some)) s0
def mX(φ:Nat):List D→Option D:=
λas=>
(λ(s:LS)=>
 u1 as λd f=>
 u1 f λe g=>
 u0 g (
 fq [(.b false),(.n 0),(.n 0)] s λc s=>
 ek d s λh s=>
 fN e h λk=>
 eQ k
(eK 3 s d e λl s=>
 eS 3 s l λm s=>
 eU 3 s c m λ_ s=>
 eS 3 s c λo _=>
 eX false s o some)
(eR (fb φ) [(.i .i64 (.ofNat 0))] s λp s=>
 eU 3 s c p λ_ s=>
 eS 3 s c λu _=>
 eX false s u some))) s0
def ml(φ:Nat):List D→Option D:=
λas=>
(λ(s:LS)=>
 u1 as λc d=>
 u0 d (
 ic c s λb s=>
 eW 0 s b λe s=>
 eJ s e λf s=>
 eQ f
(eX false s (.i .i64 (.negSucc 0)) some)
(eW 1 s b λg s=>
 eJ s g λh s=>
 gx h (.n 0) λk=>
 eQ k
(eX false s (.i .i64 (.ofNat 0)) some)
(eX false s (.i .i64 (.ofNat 1)) some)))) s0
def iZ(φ:Nat):List D→Option D:=
λas=>
(λ(s:LS)=>
 u1 as λb c=>
 u0 c (
 ic b s λd s=>
 eW 0 s d λe s=>
 eS 2 s e λf s=>
 eR (ml φ) [f] s λg s=>
 eX false s g some)) s0
def lI(φ:Nat)(g:D→D→LS→Rs)(f e:D)(s:LS):Rs:=(
 kC e (.i .i64 (.ofNat 0)) λc=>
 eI c true (λk=>k f s) s λh s=>
 eI c true (λk=>k e s) s λl s=>
 eI c true (λk=>et l (.i .i64 (.ofNat 1)) λd=>k d s) s λm s=>
 eI c true (λk=>eK 3 s h m k) s λo s=>
 eI c true (λk=>eS 3 s o k) s λp s=>
 eI c true (λk=>eR (iZ φ) [p] s k) s λu s=>
 eI c true (λk=>gx u (.i .i64 (.ofNat 0)) λd=>k d s) s λv s=>
 fX c v (.b false) s λw s=>
 eQ w
(et e (.i .i64 (.ofNat 1)) λy=>
 g f y s)
(jY 0 [(.b false),(.n 0),(.n 0)] [] s λz s=>
 kg 3 s f none (some e) none λA s=>
 mF 3 40 s z A λB s=>
 eX true s B some))
def fY(φ:Nat):List D→Option D:=
λas=>
(λ(s:LS)=>
 u1 as λb c=>
 u0 c (
 ek b s λd s=>
 lp (λ(_ _:D)(_:LS)=>none) (lI φ) φ b d s)) s0
def lf(φ:Nat)(h:D→D→D→D→LS→Rs)(e f g d:D)(s:LS):Rs:=(
 ek e s λk s=>
 ek f s λl s=>
 kS (.max (.c k) (.c l)) s λm s=>
 fN d m λo=>
 eQ o
(eR (mX φ) [e,d] s λp s=>
 eR (mX φ) [f,d] s λu s=>
 eR (iw φ) [p,u] s λv s=>
 jY 1 [(.b false),(.n 0),(.n 0)] [(0,3,v)] s λw s=>
 mF 3 40 s g w λy s=>
 ee d (.i .i64 (.ofNat 1)) λz=>
 h e f y z s)
(eR (fY φ) [g] s λA s=>
 eX false s A some))
def mD(φ:Nat):List D→Option D:=
λas=>
(λ(s:LS)=>
 u1 as λb c=>
 u1 c λd e=>
 u0 e (
 lp (λ(_ _ _ _:D)(_:LS)=>none) (lf φ) φ b d (.tree [] 0 true) (.i .i64 (.ofNat 0)) s)) s0
def j7(φ:Nat)(g:D→D→D→D→LS→Rs)(c d e f:D)(s:LS):Rs:=(
 fN f c λh=>
 eQ h
(eR (fb φ) [(.i .i64 (.ofNat 0))] s λk s=>
 jY 1 [(.b false),(.n 0),(.n 0)] [(0,3,k)] s λl s=>
 mF 3 40 s e l λm s=>
 ee f (.i .i64 (.ofNat 1)) λo=>
 g c d m o s)
(eS 3 s d λp s=>
 jY 1 [(.b false),(.n 0),(.n 0)] [(0,3,p)] s λu s=>
 mF 3 40 s e u λv s=>
 eR (fY φ) [v] s λw s=>
 eX false s w some))
def kV(φ:Nat):List D→Option D:=
λas=>
(λ(s:LS)=>
 u1 as λb c=>
 u1 c λd e=>
 u0 e (
 ic b s λf s=>
 lp (λ(_ _ _ _:D)(_:LS)=>none) (j7 φ) φ d f (.tree [] 0 true) (.i .i64 (.ofNat 0)) s)) s0
def xX(φ:Nat)(g:D→D→D→D→LS→Rs)(d e f c:D)(s:LS):Rs:=(
 fN c f λh=>
 eQ h
(eK 1 s e c λk s=>
 eJ s k λl s=>
 eR (fb φ) [l] s λm s=>
 jY 1 [(.b false),(.n 0),(.n 0)] [(0,3,m)] s λo s=>
 mF 3 40 s d o λp s=>
 ee c (.i .i64 (.ofNat 1)) λu=>
 g p e f u s)
(eR (fY φ) [d] s λv s=>
 eX false s v some))
def oZ(φ:Nat):List D→Option D:=
λas=>
(λ(s:LS)=>
 u1 as λb c=>
 u0 c (
 ek b s λd s=>
 lp (λ(_ _ _ _:D)(_:LS)=>none) (xX φ) φ (.tree [] 0 true) b d (.i .i64 (.ofNat 0)) s)) s0
def kZ(φ:Nat):List D→Option D:=
λas=>
(λ(s:LS)=>
 u1 as λf g=>
 u0 g (
 gx f (.n 0) λe=>
 eI e false (λk=>k f s) s λh s=>
 eI e false (λk=>kS (.index (.c h) (.c (.i .i64 (.ofNat 0)))) s k) s λl s=>
 eI e false (λk=>mE l (.i .u8 (.ofNat 0)) λd=>k d s) s λm s=>
 fX e (.b true) m s λo s=>
 eX false s o some)) s0
def mO(φ:Nat):List D→Option D:=
λas=>
(λ(s:LS)=>
 u1 as λg h=>
 u0 h (
 ic g s λf s=>
 eW 1 s f λi s=>
 eJ s i λl s=>
 eR (kZ φ) [l] s λc s=>
 eI c true (λk=>eW 0 s f k) s λm s=>
 eI c true (λk=>eJ s m k) s λo s=>
 eI c true (λk=>sX o s k) s λp s=>
 eI c true (λk=>k p s) s λe s=>
 eI e false (λk=>eW 1 s f k) s λu s=>
 eI e false (λk=>eJ s u k) s λv s=>
 eI e false (λk=>mE v (.n 0) λd=>k d s) s λw s=>
 eI c true (λk=>fX e (.b true) w s k) s λy s=>
 fX c y (.b false) s λz s=>
 eX false s z some)) s0
def lU(φ:Nat):List D→Option D:=
λas=>
(λ(s:LS)=>
 u1 as λb d=>
 u0 d (
 kS (.lens (.c b)) s λe s=>
 kC e (.i .i64 (.ofNat 1024)) λf=>
 eQ f
(eX false s (.i .i64 (.ofNat 4)) some)
(eX false s (.i .i64 (.ofNat 0)) some))) s0
def mn(φ:Nat):List D→Option D:=
λas=>
(λ(s:LS)=>
 u1 as λb c=>
 u0 c (
 ic b s λd s=>
 eW 1 s d λe s=>
 eJ s e λf s=>
 eR (lU φ) [f] s λg s=>
 eX false s g some)) s0
def mj(φ:Nat):List D→Option D:=
λas=>
(λ(s:LS)=>
 u1 as λc d=>
 u0 d (
 ic c s λb s=>
 eW 0 s b λe s=>
 eS 2 s e λf s=>
 eR (mn φ) [f] s λg s=>
 mE g (.i .i64 (.ofNat 0)) λh=>
 eQ h
(eX false s (.i .i64 (.ofNat 4)) some)
(eW 2 s b λk s=>
 eJ s k λl s=>
 eR (lU φ) [l] s λm s=>
 eX false s m some))) s0
def mN(φ:Nat):List D→Option D:=
λas=>
(λ(s:LS)=>
 u1 as λg h=>
 u0 h (
 ic g s λc s=>
 eW 0 s c λl s=>
 eS 2 s l λm s=>
 eR (mO φ) [m] s λo s=>
 sX o s λe s=>
 eI e false (λk=>eW 2 s c k) s λp s=>
 eI e false (λk=>eJ s p k) s λu s=>
 eI e false (λk=>eR (kZ φ) [u] s k) s λv s=>
 eI e false (λk=>sX v s k) s λw s=>
 fX e (.b true) w s λf s=>
 eI f false (λk=>eW 2 s c k) s λy s=>
 eI f false (λk=>eJ s y k) s λz s=>
 eI f false (λk=>gx z (.n 0) λd=>k d s) s λA s=>
 fX f (.b true) A s λB s=>
 eQ B
(eX false s (.i .i64 (.ofNat 1)) some)
(eS 3 s c λC s=>
 eR (mj φ) [C] s λE s=>
 mE E (.i .i64 (.ofNat 0)) λF=>
 eQ F
(eX false s (.i .i64 (.ofNat 4)) some)
(eW 0 s c λG s=>
 eW 1 s G λH s=>
 eJ s H λI s=>
 eW 2 s c λJ s=>
 eJ s J λK s=>
 eR vr [I,K] s λM s=>
 mE M (.n 1) λN=>
 eQ N
(eX false s (.i .i64 (.ofNat 1)) some)
(eX false s (.i .i64 (.ofNat 0)) some))))) s0
def kW(φ:Nat)(o:D→D→D→D→LS→Rs)(e g h f:D)(s:LS):Rs:=(
 fN f h λp=>
 eQ p
(eK 3 s g f λu s=>
 eS 3 s u λv s=>
 fq [(.b false),(.n 0),(.n 0)] s λl s=>
 eU 3 s l v λ_ s=>
 eS 3 s l λw s=>
 eR (mN φ) [w] s λm s=>
 mE m (.i .i64 (.ofNat 0)) λy=>
 eQ y
(eX false s m some)
(ee f (.i .i64 (.ofNat 1)) λz=>
 o e g h z s))
(ek e s λA s=>
 kC A (.i .i64 (.ofNat 0)) λc=>
 eI c true (λk=>k e s) s λB s=>
 eI c true (λk=>k e s) s λC s=>
 eI c true (λk=>ek C s k) s λE s=>
 eI c true (λk=>et E (.i .i64 (.ofNat 1)) λd=>k d s) s λF s=>
 eI c true (λk=>eK 3 s B F k) s λG s=>
 eI c true (λk=>eS 3 s G k) s λH s=>
 eI c true (λk=>eR (iZ φ) [H] s k) s λI s=>
 eI c true (λk=>gx I (.i .i64 (.ofNat 0)) λd=>k d s) s λJ s=>
 fX c J (.b false) s λK s=>
 eQ K
(eX false s (.i .i64 (.ofNat 1)) some)
(eX false s (.i .i64 (.ofNat 0)) some)))
def jd(φ:Nat):List D→Option D:=
λas=>
(λ(s:LS)=>
 u1 as λb c=>
 u0 c (
 ek b s λd s=>
 kC d (.i .i64 (.ofNat 65)) λe=>
 eQ e
(eX false s (.i .i64 (.ofNat 4)) some)
(ek b s λf s=>
 lp (λ(_ _ _ _:D)(_:LS)=>none) (kW φ) φ b b f (.i .i64 (.ofNat 0)) s))) s0
def jv(φ:Nat):List D→Option D:=
λas=>
(λ(s:LS)=>
 u1 as λd e=>
 u0 e (
 fq [(.b false),(.n 0),(.n 0)] s λc s=>
 ek d s λf s=>
 gx f (.i .i64 (.ofNat 0)) λg=>
 eQ g
(eR (fb φ) [(.i .i64 (.ofNat 0))] s λh s=>
 eU 3 s c h λ_ s=>
 eS 3 s c λk _=>
 eX false s k some)
(ek d s λl s=>
 et l (.i .i64 (.ofNat 1)) λm=>
 eK 3 s d m λo s=>
 eS 3 s o λp s=>
 eU 3 s c p λ_ s=>
 eS 3 s c λu _=>
 eX false s u some))) s0
def lJ(φ:Nat):List D→Option D:=
λas=>
(λ(s:LS)=>
 u1 as λb c=>
 u0 c (
 ic b s λd s=>
 eW 2 s d λe s=>
 eJ s e λf s=>
 gx f (.n 1) λg=>
 eX false s g some)) s0
def fZ(φ:Nat):List D→Option D:=
λas=>
(λ(s:LS)=>
 u1 as λb c=>
 u0 c (
 ic b s λd s=>
 eW 0 s d λe s=>
 eJ s e λf s=>
 ek f s λg s=>
 et g (.i .i64 (.ofNat 1)) λh=>
 eX false s h some)) s0
def lG(φ:Nat)(h:D→D→D→D→LS→Rs)(d e f c:D)(s:LS):Rs:=(
 fN c f λk=>
 eQ k
(eK 3 s e c λl s=>
 eS 3 s l λm s=>
 fq [(.b false),(.n 0),(.n 0)] s λg s=>
 eU 3 s g m λ_ s=>
 eS 3 s g λo s=>
 eR (lJ φ) [o] s λp s=>
 sX p s λu s=>
 eQ u
(eX false s (.i .i64 (.ofNat 1)) some)
(ee c (.i .i64 (.ofNat 1)) λv=>
 h d e f v s))
(eS 1 s d λw s=>
 eR (fZ φ) [w] s λy s=>
 kC y (.i .i64 (.ofNat 24)) λz=>
 eQ z
(eX false s (.i .i64 (.ofNat 4)) some)
(eX false s (.i .i64 (.ofNat 0)) some)))
def gm(φ:Nat):List D→Option D:=
λas=>
(λ(s:LS)=>
 u1 as λg h=>
 u0 h (
 ic g s λd s=>
 eW 0 s d λl s=>
 eJ s l λm s=>
 eR (jd φ) [m] s λe s=>
 mE e (.i .i64 (.ofNat 0)) λn=>
 eQ n
(eX false s e some)
(eW 0 s d λo s=>
 eJ s o λp s=>
 ek p s λu s=>
 fN u (.i .i64 (.ofNat 2)) λc=>
 eI c false (λk=>eW 0 s d k) s λv s=>
 eI c false (λk=>eJ s v k) s λw s=>
 eI c false (λk=>eR (jv φ) [w] s k) s λy s=>
 eI c false (λk=>eR (fb φ) [(.i .i64 (.ofNat 1))] s k) s λz s=>
 eI c false (λk=>Af true [1,2,2] y z s k) s λA s=>
 fX c (.b true) A s λB s=>
 eQ B
(eX false s (.i .i64 (.ofNat 1)) some)
(eW 0 s d λC s=>
 eJ s C λf s=>
 ek f s λE s=>
 lp (λ(_ _ _ _:D)(_:LS)=>none) (lG φ) φ d f E (.i .i64 (.ofNat 0)) s)))) s0
def l9(φ:Nat)(h:D→D→D→LS→Rs)(e f d:D)(s:LS):Rs:=(
 fN d f λk=>
 eQ k
(eK 3 s e d λl s=>
 eS 3 s l λm s=>
 fq [(.b false),(.n 0),(.n 0)] s λg s=>
 eU 3 s g m λ_ s=>
 eW 0 s g λo s=>
 eW 1 s o λp s=>
 eJ s p λu s=>
 kS (.lens (.c u)) s λv s=>
 kC v (.i .i64 (.ofNat 4)) λw=>
 eQ w
(eX false s (.b false) some)
(ee d (.i .i64 (.ofNat 1)) λy=>
 h e f y s))
(eX false s (.b true) some))
def nS(φ:Nat):List D→Option D:=
λas=>
(λ(s:LS)=>
 u1 as λg h=>
 u1 h λl m=>
 u0 m (
 ic g s λe s=>
 eW 0 s e λn s=>
 eJ s n λo s=>
 ek o s λp s=>
 ee l (.i .i64 (.ofNat 1)) λu=>
 kC p u λc=>
 eI c false (λk=>eS 1 s e k) s λv s=>
 eI c false (λk=>eR (gm φ) [v] s k) s λw s=>
 eI c false (λk=>mE w (.i .i64 (.ofNat 0)) λd=>k d s) s λy s=>
 fX c (.b true) y s λz s=>
 eQ z
(eX false s (.b false) some)
(eW 0 s e λA s=>
 eJ s A λf s=>
 ek f s λB s=>
 lp (λ(_ _ _:D)(_:LS)=>none) (l9 φ) φ f B (.i .i64 (.ofNat 0)) s))) s0
def rz(φ:Nat)(f:D→D→D→LS→Rs)(c d b:D)(s:LS):Rs:=(
 fN b d λg=>
 eQ g
(eK 1 s c b λh s=>
 eJ s h λe s=>
 mE e (.i .i64 (.ofNat 0)) λk=>
 eQ k
(eX false s e some)
(ee b (.i .i64 (.ofNat 1)) λl=>
 f c d l s))
(eX false s (.i .i64 (.ofNat 0)) some))
def ka(φ:Nat):List D→Option D:=
λas=>
(λ(s:LS)=>
 u1 as λb c=>
 u0 c (
 ek b s λd s=>
 lp (λ(_ _ _:D)(_:LS)=>none) (rz φ) φ b d (.i .i64 (.ofNat 0)) s)) s0
def lH(φ:Nat):List D→Option D:=
λas=>
(λ(s:LS)=>
 u1 as λl m=>
 u1 m λe n=>
 u0 n (
 ic l s λf s=>
 eS 1 s f λo s=>
 eR (gm φ) [o] s λg s=>
 mE g (.i .i64 (.ofNat 0)) λp=>
 eQ p
(eX false s g some)
(eR (jd φ) [e] s λh s=>
 gx h (.i .i64 (.ofNat 0)) λc=>
 eI c true (λk=>k e s) s λu s=>
 eI c true (λk=>ek u s k) s λv s=>
 eI c true (λk=>eS 1 s f k) s λw s=>
 eI c true (λk=>eR (fZ φ) [w] s k) s λy s=>
 eI c true (λk=>kC v y λd=>k d s) s λz s=>
 fX c z (.b false) s λA s=>
 eQ A
(eX false s (.i .i64 (.ofNat 3)) some)
(eX false s h some)))) s0
def kj(φ:Nat)(g:D→D→D→D→LS→Rs)(c d e b:D)(s:LS):Rs:=(
 fN b e λh=>
 eQ h
(eK 1 s d b λk s=>
 eJ s k λl s=>
 eS 1 s c λm s=>
 eR (lH φ) [m,l] s λf s=>
 mE f (.i .i64 (.ofNat 0)) λn=>
 eQ n
(eX false s f some)
(ee b (.i .i64 (.ofNat 1)) λo=>
 g c d e o s))
(eX false s (.i .i64 (.ofNat 0)) some))
def jV(φ:Nat):List D→Option D:=
λas=>
(λ(s:LS)=>
 u1 as λc d=>
 u1 d λb e=>
 u0 e (
 ic c s λf s=>
 ek b s λg s=>
 kC g (.i .i64 (.ofNat 256)) λh=>
 eQ h
(eX false s (.i .i64 (.ofNat 5)) some)
(ek b s λk s=>
 lp (λ(_ _ _ _:D)(_:LS)=>none) (kj φ) φ f b k (.i .i64 (.ofNat 0)) s))) s0
def kF(φ:Nat)(m:D→D→D→LS→Rs)(h l f:D)(s:LS):Rs:=(
 fN f l λo=>
 eQ o
(eK 3 s h f λp s=>
 eS 3 s p λu s=>
 fq [(.b false),(.n 0),(.n 0)] s λg s=>
 eU 3 s g u λ_ s=>
 eW 0 s g λv s=>
 eW 1 s v λw s=>
 eJ s w λy s=>
 kS (.lens (.c y)) s λz s=>
 kC z (.i .i64 (.ofNat 8)) λe=>
 eI e false (λk=>eW 2 s g k) s λA s=>
 eI e false (λk=>eJ s A k) s λB s=>
 eI e false (λk=>kS (.lens (.c B)) s k) s λC s=>
 eI e false (λk=>kC C (.i .i64 (.ofNat 8)) λd=>k d s) s λE s=>
 fX e (.b true) E s λF s=>
 eQ F
(eX false s (.b false) some)
(ee f (.i .i64 (.ofNat 1)) λG=>
 m h l G s))
(eX false s (.b true) some))
def nV(φ:Nat):List D→Option D:=
λas=>
(λ(s:LS)=>
 u1 as λc f=>
 u1 f λg h=>
 u0 h (
 ek c s λl s=>
 ee g (.i .i64 (.ofNat 1)) λm=>
 kC l m λe=>
 eI e false (λk=>k c s) s λn s=>
 eI e false (λk=>eR (jd φ) [n] s k) s λo s=>
 eI e false (λk=>mE o (.i .i64 (.ofNat 0)) λd=>k d s) s λp s=>
 fX e (.b true) p s λu s=>
 eQ u
(eX false s (.b false) some)
(ek c s λv s=>
 lp (λ(_ _ _:D)(_:LS)=>none) (kF φ) φ c v (.i .i64 (.ofNat 0)) s))) s0
def jk(φ:Nat):List D→Option D:=
λas=>
(λ(s:LS)=>
 u1 as λh l=>
 u1 l λg m=>
 u0 m (
 ic h s λf s=>
 eS 1 s f λn s=>
 eR (gm φ) [n] s λo s=>
 gx o (.i .i64 (.ofNat 0)) λc=>
 eI c true (λk=>k g s) s λp s=>
 eI c true (λk=>ek p s k) s λu s=>
 eI c true (λk=>eS 1 s f k) s λv s=>
 eI c true (λk=>eR (fZ φ) [v] s k) s λw s=>
 eI c true (λk=>ut u w λd=>k d s) s λy s=>
 fX c y (.b false) s λe s=>
 eI e true (λk=>k g s) s λz s=>
 eI e true (λk=>eS 1 s f k) s λA s=>
 eI e true (λk=>eR (fZ φ) [A] s k) s λB s=>
 eI e true (λk=>eR (nV φ) [z,B] s k) s λC s=>
 fX e C (.b false) s λE s=>
 eX false s E some)) s0
def pM(φ:Nat):List D→Option D:=
λas=>
(λ(s:LS)=>
 u1 as λg h=>
 u0 h (
 ic g s λf s=>
 eW 0 s f λl s=>
 eW 1 s l λm s=>
 eJ s m λn s=>
 kS (.lens (.c n)) s λo s=>
 kC o (.i .i64 (.ofNat 1024)) λe=>
 eI e false (λk=>eW 2 s f k) s λp s=>
 eI e false (λk=>eJ s p k) s λu s=>
 eI e false (λk=>kS (.lens (.c u)) s k) s λv s=>
 eI e false (λk=>kC v (.i .i64 (.ofNat 1024)) λd=>k d s) s λw s=>
 fX e (.b true) w s λy s=>
 eX false s y some)) s0
def uW(φ:Nat):pG:=sM (TD0 φ) 44 (.iso (pM φ))
def pF(φ:Nat):List D→Option D:=
λas=>
(λ(s:LS)=>
 u1 as λb c=>
 u0 c (
 ic b s λd s=>
 eW 2 s d λe s=>
 eJ s e λf s=>
 gx f (.n 1) λg=>
 eX false s g some)) s0
def kE(φ:Nat):List D→Option D:=
λas=>
(λ(s:LS)=>
 u1 as λb c=>
 u0 c (
 ic b s λd s=>
 eS 3 s d λe s=>
 eR (pF φ) [e] s λf s=>
 sX f s λg s=>
 eX false s g some)) s0
def io(φ:Nat):pG:=sM (uW φ) 46 (.iso (kE φ))
def gI(φ:Nat)(kk:D→LS→Rs)(f:D→D→D→D→LS→Rs)(c d e b:D)(s:LS):Rs:=(
 fN b e λg=>
 eQ g
(eK 3 s c b λh s=>
 eS 3 s h λk s=>
 uD (io φ) false d [k] s λl s=>
 eQ l
(kk b s)
(ee b (.i .i64 (.ofNat 1)) λm=>
 f c d e m s))
(kk (.i .i64 (.negSucc 0)) s))
def iN(φ:Nat):List D→LS→(D→LS→Rs)→Rs:=
λas s kk=>
 u1 as λb c=>
 u1 c λd e=>
 u0 e (
 ek b s λf s=>
 lp (λ(_ _ _ _:D)(_:LS)=>none) (gI φ kk) φ b d f (.i .i64 (.ofNat 0)) s)
def fT(φ:Nat):List D→LS→(D→LS→Rs)→Rs:=
λas s kk=>
 u1 as λb c=>
 u1 c λd e=>
 u0 e (
(iN φ) [b,d] s λf s=>
 jt f (.i .i64 (.ofNat 0)) λg=>
 kk g s)
def pq(φ:Nat):List D→Option D:=
λas=>
(λ(s:LS)=>
 u1 as λb c=>
 u0 c (
(fT φ) [b,(.fn 44 [])] s λd s=>
 eX false s d some)) s0
def eY(φ:Nat):pG:=sM (io φ) 49 (.iso (pq φ))
def gb(φ:Nat)(kk:D→LS→Rs)(f:D→D→D→D→LS→Rs)(c d e b:D)(s:LS):Rs:=(
 fN b e λg=>
 eQ g
(eK 1 s c b λh s=>
 eJ s h λk s=>
 uD (eY φ) false d [k] s λl s=>
 eQ l
(kk b s)
(ee b (.i .i64 (.ofNat 1)) λm=>
 f c d e m s))
(kk (.i .i64 (.negSucc 0)) s))
def iE(φ:Nat):List D→LS→(D→LS→Rs)→Rs:=
λas s kk=>
 u1 as λb c=>
 u1 c λd e=>
 u0 e (
 ek b s λf s=>
 lp (λ(_ _ _ _:D)(_:LS)=>none) (gb φ kk) φ b d f (.i .i64 (.ofNat 0)) s)
def gc(φ:Nat):List D→LS→(D→LS→Rs)→Rs:=
λas s kk=>
 u1 as λb c=>
 u1 c λd e=>
 u0 e (
(iE φ) [b,d] s λf s=>
 jt f (.i .i64 (.ofNat 0)) λg=>
 kk g s)
def uY(φ:Nat):List D→Option D:=
λas=>
(λ(s:LS)=>
 u1 as λb c=>
 u0 c (
(gc φ) [b,(.fn 49 [])] s λd s=>
 eX false s d some)) s0
def vA(φ:Nat):List D→Option D:=
λas=>
(λ(s:LS)=>
 u1 as λe f=>
 u0 f (
 fq [(.b false),(.n 0)] s λd s=>
 fN e (.i .i64 (.ofNat 0)) λg=>
 eQ g
(lP .u64 e s λh s=>
 kS (.neg (.c h)) s λk s=>
 eR (sk φ) [k] s λl s=>
 kN [(.b false),(.n 0)] [(0,1,(.b true)),(1,1,l)] s λm s=>
 eU 2 s d m λ_ s=>
 eS 2 s d λo _=>
 eX false s o some)
(lP .u64 e s λp s=>
 eR (sk φ) [p] s λu s=>
 kN [(.b false),(.n 0)] [(1,1,u)] s λv s=>
 eU 2 s d v λ_ s=>
 eS 2 s d λw _=>
 eX false s w some))) s0
def mW(φ:Nat):List D→Option D:=
λas=>
(λ(s:LS)=>
 u1 as λd e=>
 u0 e (
 fq [(.b false),(.n 0),(.n 0)] s λc s=>
 eR (vA φ) [d] s λf s=>
 eR (mV φ) [f] s λg s=>
 eU 3 s c g λ_ s=>
 eS 3 s c λh _=>
 eX false s h some)) s0
def jM(φ:Nat):List D→Option D:=
λas=>
(λ(s:LS)=>
 u1 as λb c=>
 u0 c (
 ic b s λd s=>
 eW 0 s d λe s=>
 eW 1 s e λf s=>
 eJ s f λg s=>
 gx g (.n 0) λh=>
 eX false s h some)) s0
def mG(φ:Nat):List D→Option D:=
λas=>
(λ(s:LS)=>
 u1 as λf g=>
 u0 g (
 kS (.lens (.c f)) s λh s=>
 kC h (.i .i64 (.ofNat 0)) λe=>
 eI e true (λk=>k f s) s λl s=>
 eI e true (λk=>kS (.index (.c l) (.c (.i .i64 (.ofNat 0)))) s k) s λm s=>
 eI e true (λk=>gx m (.i .u8 (.ofNat 0)) λd=>k d s) s λn s=>
 fX e n (.b false) s λo s=>
 eQ o
(eX false s (.i .i64 (.ofNat 1)) some)
(kS (.lens (.c f)) s λp s=>
 kC p (.i .i64 (.ofNat 1024)) λu=>
 eQ u
(eX false s (.i .i64 (.ofNat 4)) some)
(eX false s (.i .i64 (.ofNat 0)) some)))) s0
def oY(φ:Nat):List D→Option D:=
λas=>
(λ(s:LS)=>
 u0 as (
 fq [(.b false),(.n 0)] s λc s=>
 kN [(.b false),(.n 0)] [] s λd s=>
 eU 2 s c d λ_ s=>
 eS 2 s c λe _=>
 eX false s e some)) s0
def pE(φ:Nat):List D→Option D:=
λas=>
(λ(s:LS)=>
 u1 as λg h=>
 u0 h (
 ic g s λe s=>
 eW 1 s e λl s=>
 eJ s l λm s=>
 eR (mG φ) [m] s λf s=>
 gx f (.i .i64 (.ofNat 1)) λo=>
 eQ o
(eX false s f some)
(eS 2 s e λp s=>
 eR (oY φ) [] s λu s=>
 Af true [1,2] p u s λc s=>
 eI c true (λk=>eW 1 s e k) s λv s=>
 eI c true (λk=>eJ s v k) s λw s=>
 eI c true (λk=>gx w (.n 0) λd=>k d s) s λy s=>
 fX c y (.b false) s λz s=>
 eQ z
(eX false s (.i .i64 (.ofNat 1)) some)
(eX false s f some)))) s0
def oU(φ:Nat):List D→Option D:=
λas=>
(λ(s:LS)=>
 u1 as λm o=>
 u0 o (
 ic m s λe s=>
 eW 0 s e λp s=>
 eS 2 s p λu s=>
 eR (pE φ) [u] s λg s=>
 eW 2 s e λv s=>
 eJ s v λw s=>
 eR (mG φ) [w] s λh s=>
 gx g (.i .i64 (.ofNat 1)) λl=>
 eI l false (λk=>k h s) s λy s=>
 eI l false (λk=>gx y (.i .i64 (.ofNat 1)) λd=>k d s) s λz s=>
 fX l (.b true) z s λf s=>
 eI f false (λk=>eW 2 s e k) s λA s=>
 eI f false (λk=>eJ s A k) s λB s=>
 eI f false (λk=>gx B (.n 0) λd=>k d s) s λC s=>
 fX f (.b true) C s λE s=>
 eQ E
(eX false s (.i .i64 (.ofNat 1)) some)
(mE g (.i .i64 (.ofNat 0)) λF=>
 eQ F
(eX false s g some)
(mE h (.i .i64 (.ofNat 0)) λG=>
 eQ G
(eX false s h some)
(eW 2 s e λH s=>
 eJ s H λI s=>
 mE I (.n 1) λc=>
 eI c true (λk=>eW 0 s e k) s λJ s=>
 eI c true (λk=>eW 1 s J k) s λK s=>
 eI c true (λk=>eJ s K k) s λM s=>
 eI c true (λk=>eW 2 s e k) s λN s=>
 eI c true (λk=>eJ s N k) s λO s=>
 eI c true (λk=>eR (tt φ) [M,O] s k) s λP s=>
 eI c true (λk=>mE P (.n 1) λd=>k d s) s λS s=>
 fX c S (.b false) s λU s=>
 eQ U
(eX false s (.i .i64 (.ofNat 1)) some)
(eX false s (.i .i64 (.ofNat 0)) some)))))) s0
def oV(φ:Nat)(o:D→D→D→D→LS→Rs)(e g h f:D)(s:LS):Rs:=(
 fN f h λp=>
 eQ p
(eK 3 s g f λu s=>
 eS 3 s u λv s=>
 fq [(.b false),(.n 0),(.n 0)] s λl s=>
 eU 3 s l v λ_ s=>
 eS 3 s l λw s=>
 eR (oU φ) [w] s λm s=>
 mE m (.i .i64 (.ofNat 0)) λy=>
 eQ y
(eX false s m some)
(ee f (.i .i64 (.ofNat 1)) λz=>
 o e g h z s))
(ek e s λA s=>
 kC A (.i .i64 (.ofNat 0)) λc=>
 eI c true (λk=>k e s) s λB s=>
 eI c true (λk=>k e s) s λC s=>
 eI c true (λk=>ek C s k) s λE s=>
 eI c true (λk=>et E (.i .i64 (.ofNat 1)) λd=>k d s) s λF s=>
 eI c true (λk=>eK 3 s B F k) s λG s=>
 eI c true (λk=>eS 3 s G k) s λH s=>
 eI c true (λk=>eR (jM φ) [H] s k) s λI s=>
 fX c I (.b false) s λJ s=>
 eQ J
(eX false s (.i .i64 (.ofNat 1)) some)
(eX false s (.i .i64 (.ofNat 0)) some)))
def pL(φ:Nat):List D→Option D:=
λas=>
(λ(s:LS)=>
 u1 as λb c=>
 u0 c (
 ek b s λd s=>
 kC d (.i .i64 (.ofNat 65)) λe=>
 eQ e
(eX false s (.i .i64 (.ofNat 4)) some)
(ek b s λf s=>
 lp (λ(_ _ _ _:D)(_:LS)=>none) (oV φ) φ b b f (.i .i64 (.ofNat 0)) s))) s0
def lQ(φ:Nat):List D→Option D:=
λas=>
(λ(s:LS)=>
 u1 as λh l=>
 u0 l (
 ic h s λd s=>
 eW 0 s d λm s=>
 eJ s m λn s=>
 eR (pL φ) [n] s λg s=>
 mE g (.i .i64 (.ofNat 0)) λo=>
 eQ o
(eX false s g some)
(eW 0 s d λp s=>
 eJ s p λu s=>
 ek u s λv s=>
 et v (.i .i64 (.ofNat 1)) λf=>
 fN f (.i .i64 (.ofNat 1)) λc=>
 eI c false (λk=>eW 0 s d k) s λw s=>
 eI c false (λk=>eJ s w k) s λy s=>
 eI c false (λk=>k f s) s λz s=>
 eI c false (λk=>eK 3 s y z k) s λA s=>
 eI c false (λk=>eS 3 s A k) s λB s=>
 eI c false (λk=>eR (mW φ) [(.i .i64 (.ofNat 1))] s k) s λC s=>
 eI c false (λk=>Af true [1,2,2] B C s k) s λE s=>
 fX c (.b true) E s λe s=>
 eI e false (λk=>eW 0 s d k) s λF s=>
 eI e false (λk=>eJ s F k) s λG s=>
 eI e false (λk=>(fT φ) [G,(.fn 46 [])] s k) s λH s=>
 fX e (.b true) H s λI s=>
 eQ I
(eX false s (.i .i64 (.ofNat 1)) some)
(kC f (.i .i64 (.ofNat 24)) λJ=>
 eQ J
(eX false s (.i .i64 (.ofNat 4)) some)
(eX false s (.i .i64 (.ofNat 0)) some))))) s0
def ky(φ:Nat):List D→Option D:=
λas=>
(λ(s:LS)=>
 u1 as λf g=>
 u1 g λb h=>
 u0 h (
 ic f s λc s=>
 eS 1 s c λk s=>
 eR (lQ φ) [k] s λd s=>
 mE d (.i .i64 (.ofNat 0)) λl=>
 eQ l
(eX false s d some)
(eR (pL φ) [b] s λe s=>
 mE e (.i .i64 (.ofNat 0)) λm=>
 eQ m
(eX false s e some)
(ek b s λn s=>
 eW 0 s c λo s=>
 eJ s o λp s=>
 ek p s λu s=>
 jt n u λv=>
 eQ v
(eX false s (.i .i64 (.ofNat 3)) some)
(eX false s (.i .i64 (.ofNat 0)) some))))) s0
def pw(φ:Nat)(g:D→D→D→D→LS→Rs)(c d e b:D)(s:LS):Rs:=(
 fN b e λh=>
 eQ h
(eK 1 s d b λk s=>
 eJ s k λl s=>
 eS 1 s c λm s=>
 eR (ky φ) [m,l] s λf s=>
 mE f (.i .i64 (.ofNat 0)) λn=>
 eQ n
(eX false s f some)
(ee b (.i .i64 (.ofNat 1)) λo=>
 g c d e o s))
(eX false s (.i .i64 (.ofNat 0)) some))
def qh(φ:Nat):List D→Option D:=
λas=>
(λ(s:LS)=>
 u1 as λc d=>
 u1 d λb e=>
 u0 e (
 ic c s λf s=>
 ek b s λg s=>
 kC g (.i .i64 (.ofNat 256)) λh=>
 eQ h
(eX false s (.i .i64 (.ofNat 5)) some)
(ek b s λk s=>
 lp (λ(_ _ _ _:D)(_:LS)=>none) (pw φ) φ f b k (.i .i64 (.ofNat 0)) s))) s0
def mJ(φ:Nat):List D→Option D:=
λas=>
(λ(s:LS)=>
 u1 as λe f=>
 u0 f (
 ic e s λc s=>
 fq [(.b false),(.n 0),(.n 0)] s λd s=>
 eW 0 s c λg s=>
 eW 0 s g λh s=>
 eJ s h λi s=>
 eW 2 s c λk s=>
 eJ s k λl s=>
 kN [(.b false),(.n 0)] [(0,1,i),(1,1,l)] s λm s=>
 eW 0 s c λo s=>
 eW 1 s o λp s=>
 eJ s p λu s=>
 kN [(.b false),(.n 0),(.n 0)] [(0,2,m),(2,1,u)] s λv s=>
 eU 3 s d v λ_ s=>
 eS 3 s d λw _=>
 eX false s w some)) s0
def o4(φ:Nat)(g:D→D→LS→Rs)(f e:D)(s:LS):Rs:=(
 kC e (.i .i64 (.ofNat 0)) λc=>
 eI c true (λk=>k f s) s λh s=>
 eI c true (λk=>k e s) s λl s=>
 eI c true (λk=>et l (.i .i64 (.ofNat 1)) λd=>k d s) s λm s=>
 eI c true (λk=>eK 3 s h m k) s λn s=>
 eI c true (λk=>eS 3 s n k) s λo s=>
 eI c true (λk=>eR (jM φ) [o] s k) s λp s=>
 fX c p (.b false) s λu s=>
 eQ u
(et e (.i .i64 (.ofNat 1)) λv=>
 g f v s)
(kg 3 s f none (some e) (some e) λw s=>
 eX false s w some))
def gF(φ:Nat):List D→Option D:=
λas=>
(λ(s:LS)=>
 u1 as λb c=>
 u0 c (
 ek b s λd s=>
 lp (λ(_ _:D)(_:LS)=>none) (o4 φ) φ b d s)) s0
def fx(φ:Nat):List D→Option D:=
λas=>
(λ(s:LS)=>
 u1 as λc d=>
 u0 d (
 wg false s c λe s=>
 eQ e
(eX true s (.tree [] 0 true) some)
(jY 0 [(.b false),(.n 0),(.n 0)] [] s λf s=>
 mF 3 40 s f c λg s=>
 eX true s g some))) s0
def tV(φ:Nat):List D→Option D:=
λas=>
(λ(s:LS)=>
 u1 as λe f=>
 u0 f (
 ic e s λc s=>
 fq [(.b false),(.n 0),(.n 0)] s λd s=>
 eW 0 s c λg s=>
 eS 2 s g λh s=>
 eR xM [h] s λi s=>
 eW 2 s c λk s=>
 eJ s k λl s=>
 kN [(.b false),(.n 0),(.n 0)] [(0,2,i),(2,1,l)] s λm s=>
 eU 3 s d m λ_ s=>
 eS 3 s d λo _=>
 eX false s o some)) s0
def rO(φ:Nat):List D→Option D:=
λas=>
(λ(s:LS)=>
 u1 as λd e=>
 u1 e λf g=>
 u0 g (
 ic d s λh s=>
 ic f s λi s=>
 fq [(.b false),(.n 0),(.n 0)] s λc s=>
 eS 3 s h λk s=>
 eS 3 s i λl s=>
 eR (tV φ) [l] s λm s=>
 eR (o8 φ) [k,m] s λo s=>
 eU 3 s c o λ_ s=>
 eS 3 s c λp _=>
 eX false s p some)) s0
def jz(φ:Nat)(m:D→D→D→D→D→D→LS→Rs)(n:D→D→D→D→D→D→D→D→D→LS→Rs)(e c f g h d k l b:D)(s:LS):Rs:=(
 fN b l λo=>
 eQ o
(ee d b λp=>
 ee d b λu=>
 eK 3 s c u λv s=>
 eS 3 s v λw s=>
 eS 3 s k λy s=>
 eK 3 s e b λz s=>
 eS 3 s z λA s=>
 eR (lk φ) [y,A] s λB s=>
 eR (rO φ) [w,B] s λC s=>
 eK 3 s c p λE s=>
 eU 3 s E C λ_ s=>
 ee b (.i .i64 (.ofNat 1)) λF=>
 n e c f g h d k l F s)
(m e c f g h d s))
def i8(φ:Nat)(m:D→D→D→D→D→D→LS→Rs)(h d e f k c:D)(s:LS):Rs:=(
 jt c (.i .i64 (.ofNat 0)) λo=>
 eQ o
(jn (λ(p u v w y z:D)(s:LS)=>
 et z (.i .i64 (.ofNat 1)) λA=>
 m p u v w y A s) λl=>
 ee c e λB=>
 et B (.i .i64 (.ofNat 1)) λC=>
 eK 3 s d C λE s=>
 eS 3 s E λF s=>
 eS 3 s k λG s=>
 eR (lk φ) [F,G] s λH s=>
 fq [(.b false),(.n 0),(.n 0)] s λg s=>
 eU 3 s g H λ_ s=>
 eS 3 s g λI s=>
 eK 3 s f c λJ s=>
 eU 3 s J I λ_ s=>
 eS 3 s g λK s=>
 eR (jM φ) [K] s λM s=>
 eQ M
(l h d e f k c s)
(ek h s λN s=>
 lp (λ(_ _ _ _ _ _ _ _ _:D)(_:LS)=>none) (jz φ l) φ h d e f k c g N (.i .i64 (.ofNat 0)) s))
(eR (gF φ) [f] s λO s=>
 et e (.i .i64 (.ofNat 1)) λP=>
 kg 3 s d none (some P) none λS s=>
 eR (gF φ) [S] s λU s=>
 eX false s (.tup [O,U]) some))
def jy(φ:Nat)(m:D→D→D→D→D→D→D→LS→Rs)(g d h c e k f:D)(s:LS):Rs:=(
 fN f k λo=>
 eQ o
(eR (mW φ) [(.i .i64 (.ofNat 0))] s λp s=>
 eK 3 s e f λu s=>
 eU 3 s u p λ_ s=>
 ee f (.i .i64 (.ofNat 1)) λv=>
 m g d h c e k v s)
(et c (.i .i64 (.ofNat 1)) λw=>
 eK 3 s d w λy s=>
 eS 3 s y λz s=>
 eR (mJ φ) [z] s λA s=>
 fq [(.b false),(.n 0),(.n 0)] s λl s=>
 eU 3 s l A λ_ s=>
 ek g s λB s=>
 et B c λC=>
 lp (λ(_ _ _ _ _ _:D)(_:LS)=>none) (i8 φ) φ d h c e l C s))
def jq(φ:Nat):List D→Option D:=
λas=>
(λ(s:LS)=>
 u1 as λc k=>
 u1 k λe l=>
 u0 l (
 eR (pP (fx φ)) [c] s λf s=>
 ek e s λd s=>
 ek c s λm s=>
 fN m d λo=>
 eQ o
(eX false s (.tup [(.tree [] 0 true),f]) some)
(ek c s λp s=>
 et p d λu=>
 ee u (.i .i64 (.ofNat 1)) λg=>
 mK 3 40 [(.b false),(.n 0),(.n 0)] s g g λh s=>
 ek h s λv s=>
 lp (λ(_ _ _ _ _ _ _:D)(_:LS)=>none) (jy φ) φ c e f d h v (.i .i64 (.ofNat 0)) s))) s0
def pB(φ:Nat):List D→Option D:=
λas=>
(λ(s:LS)=>
 u1 as λc d=>
 u1 d λe f=>
 u0 f (
 eR (jq φ) [e,c] s λb s=>
 gD b 0 s λh s=>
 gD b 1 s λg s=>
 eX false s g some)) s0
def nE(φ:Nat)(u:D→D→D→D→D→LS→Rs)(v:D→D→D→D→D→D→D→D→D→D→LS→Rs)(f d e g h k l m o c:D)(s:LS):Rs:=(
 fN c o λw=>
 eQ w
(eK 3 s m c λy s=>
 eS 3 s y λz s=>
 fq [(.b false),(.n 0),(.n 0)] s λp s=>
 eU 3 s p z λ_ s=>
 ee e c λA=>
 ee e c λB=>
 eK 3 s d B λC s=>
 eS 3 s C λE s=>
 eS 3 s g λF s=>
 eS 3 s p λG s=>
 eR (lk φ) [F,G] s λH s=>
 eR (o8 φ) [E,H] s λI s=>
 eK 3 s d A λJ s=>
 eU 3 s J I λ_ s=>
 ee c (.i .i64 (.ofNat 1)) λK=>
 v f d e g h k l m o K s)
(u f d h k l s))
def mI(φ:Nat)(l:D→D→D→D→D→LS→Rs)(d e f g c:D)(s:LS):Rs:=(
 fN c g λm=>
 eQ m
(jn (λ(o p u v w:D)(s:LS)=>
 ee w (.i .i64 (.ofNat 1)) λy=>
 l o p u v y s) λk=>
 eK 3 s f c λz s=>
 eS 3 s z λA s=>
 fq [(.b false),(.n 0),(.n 0)] s λh s=>
 eU 3 s h A λ_ s=>
 eS 3 s h λB s=>
 eR (jM φ) [B] s λC s=>
 eQ C
(k d e f g c s)
(ek d s λE s=>
 lp (λ(_ _ _ _ _ _ _ _ _ _:D)(_:LS)=>none) (nE φ k) φ d e c h f g c d E (.i .i64 (.ofNat 0)) s))
(eR (gF φ) [e] s λF s=>
 eX false s F some))
def mH(φ:Nat)(g:D→D→D→D→D→LS→Rs)(b e c f d:D)(s:LS):Rs:=(
 fN d f λh=>
 eQ h
(eR (mW φ) [(.i .i64 (.ofNat 0))] s λk s=>
 eK 3 s c d λl s=>
 eU 3 s l k λ_ s=>
 ee d (.i .i64 (.ofNat 1)) λm=>
 g b e c f m s)
(ek b s λn s=>
 lp (λ(_ _ _ _ _:D)(_:LS)=>none) (mI φ) φ e c b n (.i .i64 (.ofNat 0)) s))
def pu(φ:Nat):List D→Option D:=
λas=>
(λ(s:LS)=>
 u1 as λe l=>
 u1 l λf m=>
 u0 m (
 ek e s λo s=>
 gx o (.i .i64 (.ofNat 0)) λc=>
 eI c false (λk=>k f s) s λp s=>
 eI c false (λk=>ek p s k) s λu s=>
 eI c false (λk=>gx u (.i .i64 (.ofNat 0)) λd=>k d s) s λv s=>
 fX c (.b true) v s λw s=>
 eQ w
(eX false s (.tree [] 0 true) some)
(ek e s λy s=>
 ek f s λz s=>
 ee y z λA=>
 et A (.i .i64 (.ofNat 1)) λg=>
 mK 3 40 [(.b false),(.n 0),(.n 0)] s g g λh s=>
 ek h s λB s=>
 lp (λ(_ _ _ _ _:D)(_:LS)=>none) (mH φ) φ e f h B (.i .i64 (.ofNat 0)) s))) s0
def uX(φ:Nat):List D→Option D:=
λas=>
(λ(s:LS)=>
 u1 as λb c=>
 u1 c λd e=>
 u1 e λf g=>
 u0 g (
 eR (pu φ) [d,f] s λh s=>
 eR (pB φ) [b,h] s λi s=>
 eX false s i some)) s0
def DE(φ:Nat)(f:D→D→D→D→LS→Rs)(c d e b:D)(s:LS):Rs:=(
 fN b e λg=>
 eQ g
(eK 1 s d b λh s=>
 eJ s h λk s=>
 eR (mW φ) [k] s λl s=>
 eK 3 s c b λm s=>
 eU 3 s m l λ_ s=>
 ee b (.i .i64 (.ofNat 1)) λn=>
 f c d e n s)
(eR (gF φ) [c] s λo s=>
 eX false s o some))
def o7(φ:Nat):List D→Option D:=
λas=>
(λ(s:LS)=>
 u1 as λc e=>
 u0 e (
 ek c s λd s=>
 mK 3 40 [(.b false),(.n 0),(.n 0)] s d d λf s=>
 ek c s λg s=>
 lp (λ(_ _ _ _:D)(_:LS)=>none) (DE φ) φ f c g (.i .i64 (.ofNat 0)) s)) s0
def fK(φ:Nat):List D→Option D:=
λas=>
(λ(s:LS)=>
 u1 as λc d=>
 u0 d (
 wg false s c λe s=>
 eQ e
(eX true s (.tree [] 0 true) some)
(jY 0 [(.b false),(.n 0),(.n 0)] [] s λf s=>
 mF 3 40 s f c λg s=>
 eX true s g some))) s0
def oW(φ:Nat)(kk:D→LS→Rs)(h:D→D→D→D→D→LS→Rs)(c d e f b:D)(s:LS):Rs:=(
 fN b f λk=>
 eQ k
(jn (λ(l m n o p:D)(s:LS)=>
 ee p (.i .i64 (.ofNat 1)) λu=>
 h l m n o u s) λg=>
 eK 3 s d b λv s=>
 eS 3 s v λw s=>
 eR (jM φ) [w] s λy s=>
 sX y s λz s=>
 eQ z
(eK 3 s c b λA s=>
 eS 3 s A λB s=>
 eS 3 s e λC s=>
 eK 3 s d b λE s=>
 eS 3 s E λF s=>
 eR (lk φ) [C,F] s λG s=>
 eR (rO φ) [B,G] s λH s=>
 eK 3 s c b λI s=>
 eU 3 s I H λ_ s=>
 g c d e f b s)
(g c d e f b s))
(kk (.tup []) s))
def oA(φ:Nat):List D→LS→(D→LS→Rs)→Rs:=
λas s kk=>
 u1 as λb d=>
 u1 d λe f=>
 u1 f λg h=>
 u0 h (
 ic g s λc s=>
 eS 3 s c λk s=>
 eR (jM φ) [k] s λl s=>
 eQ l
(kk (.tup []) s)
(ek b s λm s=>
 lp (λ(_ _ _ _ _:D)(_:LS)=>none) (oW φ kk) φ b e c m (.i .i64 (.ofNat 0)) s))
def pp(φ:Nat):List D→Option D:=
λas=>
(λ(s:LS)=>
 u1 as λb c=>
 u0 c (
 ic b s λd s=>
 eS 3 s d λe s=>
 eR (jM φ) [e] s λf s=>
 sX f s λg s=>
 eX false s g some)) s0
def pK(φ:Nat):pG:=sM (eY φ) 103 (.iso (pp φ))
def gr(φ:Nat)(kk:D→LS→Rs)(f:D→D→D→D→LS→Rs)(c d e b:D)(s:LS):Rs:=(
 fN b e λg=>
 eQ g
(eK 3 s c b λh s=>
 eS 3 s h λk s=>
 uD (pK φ) false d [k] s λl s=>
 eQ l
(kk b s)
(ee b (.i .i64 (.ofNat 1)) λm=>
 f c d e m s))
(kk (.i .i64 (.negSucc 0)) s))
def iX(φ:Nat):List D→LS→(D→LS→Rs)→Rs:=
λas s kk=>
 u1 as λb c=>
 u1 c λd e=>
 u0 e (
 ek b s λf s=>
 lp (λ(_ _ _ _:D)(_:LS)=>none) (gr φ kk) φ b d f (.i .i64 (.ofNat 0)) s)
def oi(φ:Nat):List D→Option D:=
λas=>
(λ(s:LS)=>
 u1 as λb c=>
 u0 c (
(iX φ) [b,(.fn 103 [])] s λd s=>
 eX false s d some)) s0
def oX(φ:Nat):List D→Option D:=
λas=>
(λ(s:LS)=>
 u1 as λb c=>
 u1 c λd e=>
 u0 e (
 eR (oi φ) [b] s λf s=>
 eR (oi φ) [d] s λg s=>
 et f g λh=>
 eX false s h some)) s0
def eT(φ:Nat):pG:=sM (pK φ) 106 (.iso (oX φ))
def fa(φ:Nat)(n:D→D→D→D→D→LS→Rs)(o:D→D→D→D→D→D→LS→Rs)(e g l h m f:D)(s:LS):Rs:=(
 kC f g λc=>
 eI c true (λk=>k h s) s λp s=>
 eI c true (λk=>k e s) s λu s=>
 eI c true (λk=>k f s) s λv s=>
 eI c true (λk=>eK 1 s u v k) s λw s=>
 eI c true (λk=>eJ s w k) s λy s=>
 eI c true (λk=>k e s) s λz s=>
 eI c true (λk=>k f s) s λA s=>
 eI c true (λk=>et A (.i .i64 (.ofNat 1)) λd=>k d s) s λB s=>
 eI c true (λk=>eK 1 s z B k) s λC s=>
 eI c true (λk=>eJ s C k) s λE s=>
 eI c true (λk=>uD (eT φ) false p [y,E] s k) s λF s=>
 eI c true (λk=>fN F (.i .i64 (.ofNat 0)) λd=>k d s) s λG s=>
 fX c G (.b false) s λH s=>
 eQ H
(et f (.i .i64 (.ofNat 1)) λI=>
 et f (.i .i64 (.ofNat 1)) λJ=>
 eK 1 s e J λK s=>
 eJ s K λM s=>
 eK 1 s e f λN s=>
 eJ s N λO s=>
 eK 1 s e f λP s=>
 eU 1 s P M λ_ s=>
 eK 1 s e I λS s=>
 eU 1 s S O λ_ s=>
 et f (.i .i64 (.ofNat 1)) λU=>
 o e g l h m U s)
(ee m (.i .i64 (.ofNat 1)) λV=>
 n e g l h V s))
def gC(φ:Nat)(kk:D→LS→Rs)(d:D→D→D→D→D→LS→Rs)(e f c g b:D)(s:LS):Rs:=(
 fN b c λh=>
 eQ h
(lp (λ(_ _ _ _ _ _:D)(_:LS)=>none) (fa φ d) φ e f c g b b s)
(kk (.tup []) s))
def gq(φ:Nat):List D→LS→(D→LS→Rs)→Rs:=
λas s kk=>
 u1 as λc d=>
 u1 d λb e=>
 u1 e λf g=>
 u1 g λh k=>
 u0 k (
 ee b (.i .i64 (.ofNat 1)) λl=>
 lp (λ(_ _ _ _ _:D)(_:LS)=>none) (gC φ kk) φ c b f h l s)
def qa(φ:Nat)(kk:D→LS→Rs)(y:D→D→D→D→D→LS→Rs)(h l m o p:D)(s:LS):Rs:=(
 kv (.i .i64 (.ofNat 2)) p λz=>
 ee z (.i .i64 (.ofNat 1)) λg=>
 jt g l λA=>
 eQ A
(kk (.tup []) s)
(jn (λ(e B f v u n:D)(s:LS)=>
 ee f u λC=>
 eK 1 s e C λE s=>
 eJ s E λF s=>
 ee f n λG=>
 eK 1 s e G λH s=>
 eJ s H λI s=>
 uD (eT φ) false v [F,I] s λJ s=>
 fN J (.i .i64 (.ofNat 0)) λK=>
 sX K s λM s=>
 eQ M
(kk (.tup []) s)
(ee f u λN=>
 ee f n λO=>
 ee f n λP=>
 eK 1 s e P λS s=>
 eJ s S λU s=>
 ee f u λV=>
 eK 1 s e V λW s=>
 eJ s W λX s=>
 eK 1 s e N λY s=>
 eU 1 s Y U λ_ s=>
 eK 1 s e O λZ s=>
 eU 1 s Z X λ_ s=>
 y e B f v n s)) λw=>
 ee g (.i .i64 (.ofNat 1)) λbb=>
 fN bb l λc=>
 eI c true (λk=>k o s) s λbc s=>
 eI c true (λk=>k h s) s λbd s=>
 eI c true (λk=>k m s) s λbf s=>
 eI c true (λk=>k g s) s λbg s=>
 eI c true (λk=>ee bf bg λd=>k d s) s λbh s=>
 eI c true (λk=>eK 1 s bd bh k) s λbi s=>
 eI c true (λk=>eJ s bi k) s λbk s=>
 eI c true (λk=>k h s) s λbl s=>
 eI c true (λk=>k m s) s λbm s=>
 eI c true (λk=>k g s) s λbn s=>
 eI c true (λk=>ee bm bn λd=>k d s) s λbo s=>
 eI c true (λk=>ee bo (.i .i64 (.ofNat 1)) λd=>k d s) s λbp s=>
 eI c true (λk=>eK 1 s bl bp k) s λbu s=>
 eI c true (λk=>eJ s bu k) s λbv s=>
 eI c true (λk=>uD (eT φ) false bc [bk,bv] s k) s λbw s=>
 eI c true (λk=>fN bw (.i .i64 (.ofNat 0)) λd=>k d s) s λbz s=>
 fX c bz (.b false) s λbA s=>
 eQ bA
(ee g (.i .i64 (.ofNat 1)) λbB=>
 w h l m o p bB s)
(w h l m o p g s)))
def iu(φ:Nat):List D→LS→(D→LS→Rs)→Rs:=
λas s kk=>
 u1 as λb c=>
 u1 c λd e=>
 u1 e λf g=>
 u1 g λh i=>
 u1 i λk l=>
 u0 l (
 lp (λ(_ _ _ _ _:D)(_:LS)=>none) (qa φ kk) φ b f h k d s)
def qc(φ:Nat)(kk:D→LS→Rs)(g:D→D→D→D→D→LS→Rs)(b e c f d:D)(s:LS):Rs:=(
 jt d (.i .i64 (.ofNat 0)) λh=>
 eQ h
(ee c d λk=>
 ee c d λl=>
 eK 1 s b l λm s=>
 eJ s m λn s=>
 eK 1 s b c λo s=>
 eJ s o λp s=>
 eK 1 s b c λu s=>
 eU 1 s u n λ_ s=>
 eK 1 s b k λv s=>
 eU 1 s v p λ_ s=>
(iu φ) [b,f,d,c,e] s λy s=>
 et d (.i .i64 (.ofNat 1)) λw=>
 g b e c f w s)
(kk (.tup []) s))
def qb(φ:Nat)(kk:D→LS→Rs)(h:D→D→D→D→D→D→LS→Rs)(b c d g e f:D)(s:LS):Rs:=(
 jt f (.i .i64 (.ofNat 0)) λk=>
 eQ k
((iu φ) [b,f,e,d,c] s λn s=>
 et f (.i .i64 (.ofNat 1)) λl=>
 h b c d g e l s)
(et e (.i .i64 (.ofNat 1)) λm=>
 lp (λ(_ _ _ _ _:D)(_:LS)=>none) (qc φ kk) φ b c d g m s))
def kR(φ:Nat):List D→LS→(D→LS→Rs)→Rs:=
λas s kk=>
 u1 as λd e=>
 u1 e λb f=>
 u1 f λg h=>
 u1 h λk l=>
 u0 l (
 et g b λc=>
 et c (.i .i64 (.ofNat 1)) λm=>
 u7 m (.i .i64 (.ofNat 2)) λn=>
 lp (λ(_ _ _ _ _ _:D)(_:LS)=>none) (qb φ kk) φ d k b (.i .i64 (.ofNat 0)) c n s)
def rv(φ:Nat):List D→Option D:=
λas=>
(λ(s:LS)=>
 u1 as λb h=>
 u0 h (
 jn (λ(d e:D)(s:LS)=>
 jn (λ(k l:D)(s:LS)=>
 lP .u8 k s λm s=>
 kS (.index (.c (.s [0,1,2,2,3,3,3,3,4,4,4,4,4,4,4,4,5,5,5,5,5,5,5,5,5,5,5,5,5,5,5,5,6,6,6,6,6,6,6,6,6,6,6,6,6,6,6,6,6,6,6,6,6,6,6,6,6,6,6,6,6,6,6,6,7,7,7,7,7,7,7,7,7,7,7,7,7,7,7,7,7,7,7,7,7,7,7,7,7,7,7,7,7,7,7,7,7,7,7,7,7,7,7,7,7,7,7,7,7,7,7,7,7,7,7,7,7,7,7,7,7,7,7,7,7,7,7,7,8,8,8,8,8,8,8,8,8,8,8,8,8,8,8,8,8,8,8,8,8,8,8,8,8,8,8,8,8,8,8,8,8,8,8,8,8,8,8,8,8,8,8,8,8,8,8,8,8,8,8,8,8,8,8,8,8,8,8,8,8,8,8,8,8,8,8,8,8,8,8,8,8,8,8,8,8,8,8,8,8,8,8,8,8,8,8,8,8,8,8,8,8,8,8,8,8,8,8,8,8,8,8,8,8,8,8,8,8,8,8,8,8,8,8,8,8,8,8,8,8,8,8,8,8,8,8,8])) (.c m)) s λn s=>
 lP .i64 n s λo s=>
 ee l o λp=>
 eX false s p some) λf=>
 jt d (.i .u32 (.ofNat 256)) λu=>
 eQ u
(o5 d (.i .u64 (.ofNat 8)) λv=>
 ee e (.i .i64 (.ofNat 8)) λw=>
 f v w s)
(f d e s)) λg=>
 jt b (.i .u32 (.ofNat 65536)) λy=>
 eQ y
(o5 b (.i .u64 (.ofNat 16)) λz=>
 g z (.i .i64 (.ofNat 16)) s)
(g b (.i .i64 (.ofNat 0)) s))) s0
def nD(φ:Nat):List D→Option D:=
λas=>
(λ(s:LS)=>
 u1 as λc d=>
 u0 d (
 eQ (.b false)
(lP .u32 c s λe s=>
 eR (rv φ) [e] s λf s=>
 eX false s f some)
(eR (mA φ) [c] s λg s=>
 eX false s g some))) s0
def oS(φ:Nat):List D→LS→(D→LS→Rs)→Rs:=
λas s kk=>
 u1 as λb c=>
 u0 c (
 lP .u64 b s λd s=>
 eR (nD φ) [d] s λe s=>
 vm (.i .u64 (.ofNat 1)) e λf=>
 kk f s)
def oh(φ:Nat):List D→Option D:=
λas=>
(λ(s:LS)=>
 u1 as λb c=>
 u0 c (
 uR s b λd s=>
 eJ s d λe s=>
 uR s b λf s=>
 eJ s f λg s=>
 vm g (.i .u64 (.ofNat 13)) λh=>
 fV .xor e h λk=>
 uR s b λl s=>
 eU 1 s l k λ_ s=>
 uR s b λm s=>
 eJ s m λn s=>
 uR s b λo s=>
 eJ s o λp s=>
 o5 p (.i .u64 (.ofNat 7)) λu=>
 fV .xor n u λv=>
 uR s b λw s=>
 eU 1 s w v λ_ s=>
 uR s b λy s=>
 eJ s y λz s=>
 uR s b λA s=>
 eJ s A λB s=>
 vm B (.i .u64 (.ofNat 17)) λC=>
 fV .xor z C λE=>
 uR s b λF s=>
 eU 1 s F E λ_ s=>
 uR s b λG s=>
 eJ s G λH s=>
 eX false s H some)) s0
def pQ(φ:Nat)(kk:D→LS→Rs)(p:D→D→D→D→D→D→LS→Rs)(m d b e f g:D)(s:LS):Rs:=(
 u7 b (.i .i64 (.ofNat 4)) λu=>
 kv u (.i .i64 (.ofNat 2)) λv=>
 ee d v λw=>
 ee w (.i .i64 (.ofNat 1)) λy=>
 ut g y λz=>
 eQ z
(eR (oh φ) [e] s λA s=>
 et f (.i .u64 (.ofNat 1)) λB=>
 uu A B λC=>
 lP .i64 C s λh s=>
 jn (λ(c k E F G l n:D)(s:LS)=>
 ee k n λH=>
 ee k n λI=>
 eK 1 s c I λJ s=>
 eJ s J λK s=>
 eK 1 s c l λM s=>
 eJ s M λN s=>
 eK 1 s c l λO s=>
 eU 1 s O K λ_ s=>
 eK 1 s c H λP s=>
 eU 1 s P N λ_ s=>
 ee l (.i .i64 (.ofNat 1)) λS=>
 p c k E F G S s) λo=>
 jt h b λU=>
 eQ U
(et h b λV=>
 o m d b e f g V s)
(o m d b e f g h s))
(kk (.tup []) s))
def jU(φ:Nat):List D→LS→(D→LS→Rs)→Rs:=
λas s kk=>
 u1 as λe f=>
 u1 f λc g=>
 u1 g λh k=>
 u1 k λy l=>
 u0 l (
 et h c λb=>
 jt b (.i .i64 (.ofNat 8)) λm=>
 eQ m
(lP .u64 b s λn s=>
 fq [(.i .u64 (.ofNat 0))] s λd s=>
 eU 1 s d n λ_ s=>
(oS φ) [b] s λo s=>
 u7 b (.i .i64 (.ofNat 4)) λp=>
 kv p (.i .i64 (.ofNat 2)) λu=>
 ee c u λv=>
 et v (.i .i64 (.ofNat 1)) λw=>
 lp (λ(_ _ _ _ _ _:D)(_:LS)=>none) (pQ φ kk) φ e c b d o w s)
(kk (.tup []) s))
def iH(φ:Nat):List D→LS→(D→LS→Rs)→Rs:=
λas s kk=>
 u1 as λd f=>
 u1 f λb g=>
 u1 g λc h=>
 u1 h λe k=>
 u1 k λl m=>
 u0 m (
 eK 1 s d c λn s=>
 eJ s n λo s=>
 eK 1 s d b λp s=>
 eJ s p λu s=>
 uD (eT φ) false l [o,u] s λv s=>
 fN v (.i .i64 (.ofNat 0)) λw=>
 eQ w
(uR s e λy s=>
 eJ s y λz s=>
 ee z (.i .i64 (.ofNat 1)) λA=>
 uR s e λB s=>
 eU 1 s B A λ_ s=>
 kk (.tup [c,b]) s)
(kk (.tup [b,c]) s))
def jT(φ:Nat):List D→LS→(D→LS→Rs)→Rs:=
λas s kk=>
 u1 as λb h=>
 u1 h λi k=>
 u1 k λl m=>
 u1 m λn o=>
 u1 o λc p=>
 u1 p λd u=>
 u0 u (
(iH φ) [b,i,l,c,d] s λe s=>
 gD e 0 s λv s=>
 gD e 1 s λw s=>
(iH φ) [b,w,n,c,d] s λf s=>
 gD f 0 s λy s=>
 gD f 1 s λA s=>
(iH φ) [b,v,y,c,d] s λg s=>
 gD g 0 s λB s=>
 gD g 1 s λz s=>
 kk z s)
def gH(φ:Nat):List D→LS→(D→LS→Rs)→Rs:=
λas s kk=>
 u1 as λc d=>
 u1 d λb e=>
 u1 e λf g=>
 u1 g λh k=>
 u0 k (
 et b (.i .i64 (.ofNat 1)) λl=>
 ee b (.i .i64 (.ofNat 1)) λm=>
(jT φ) [c,l,b,m,f,h] s λn s=>
 kk n s)
def jj(φ:Nat):List D→LS→(D→LS→Rs)→Rs:=
λas s kk=>
 u1 as λc u=>
 u1 u λf v=>
 u1 v λw y=>
 u1 y λd z=>
 u0 z (
 et w f λe=>
 fq [(.i .i64 (.ofNat 0))] s λb s=>
 u7 e (.i .i64 (.ofNat 4)) λA=>
 kv A (.i .i64 (.ofNat 1)) λB=>
 ee f B λk=>
 u7 e (.i .i64 (.ofNat 4)) λC=>
 kv C (.i .i64 (.ofNat 2)) λE=>
 ee f E λg=>
 u7 e (.i .i64 (.ofNat 4)) λF=>
 kv F (.i .i64 (.ofNat 3)) λG=>
 ee f G λl=>
 jn (λ(H h:D)(s:LS)=>
 eJ s H λm s=>
 gx m (.i .i64 (.ofNat 0)) λI=>
 eQ I
(kk (.tup [h,(.i .i64 (.ofNat 1))]) s)
(gx m (.i .i64 (.ofNat 12)) λJ=>
 eQ J
(kk (.tup [h,(.i .i64 (.ofNat 2))]) s)
(kk (.tup [h,(.i .i64 (.ofNat 0))]) s))) λn=>
 jt e (.i .i64 (.ofNat 8)) λK=>
 eQ K
(jn (λ(M N o O P S:D)(s:LS)=>
(jT φ) [M,O,P,S,o,N] s λU s=>
 n o U s) λp=>
 jt e (.i .i64 (.ofNat 50)) λV=>
 eQ V
((gH φ) [c,k,b,d] s λW s=>
(gH φ) [c,g,b,d] s λX s=>
(gH φ) [c,l,b,d] s λY s=>
 p c d b W X Y s)
(p c d b k g l s))
(n b g s))
def pW(φ:Nat)(kk:D→LS→Rs)(e:D→D→D→LS→Rs)(b c d:D)(s:LS):Rs:=(
 fN c d λf=>
 eQ f
(eK 1 s b d λg s=>
 eJ s g λh s=>
 eK 1 s b c λk s=>
 eJ s k λl s=>
 eK 1 s b c λm s=>
 eU 1 s m h λ_ s=>
 eK 1 s b d λn s=>
 eU 1 s n l λ_ s=>
 ee c (.i .i64 (.ofNat 1)) λo=>
 et d (.i .i64 (.ofNat 1)) λp=>
 e b o p s)
(kk (.tup []) s))
def jc(φ:Nat):List D→LS→(D→LS→Rs)→Rs:=
λas s kk=>
 u1 as λb c=>
 u1 c λd e=>
 u1 e λf g=>
 u1 g λl h=>
 u0 h (
 et f (.i .i64 (.ofNat 1)) λk=>
 lp (λ(_ _ _:D)(_:LS)=>none) (pW φ kk) φ b d k s)
def nP(φ:Nat)(k:D→D→D→D→D→D→LS→Rs)(l:D→D→D→D→D→D→D→LS→Rs)(b f d e g h c:D)(s:LS):Rs:=(
 fN c d λm=>
 eQ m
(eK 1 s b c λn s=>
 eJ s n λo s=>
 et c (.i .i64 (.ofNat 1)) λp=>
 eK 1 s b p λu s=>
 eJ s u λv s=>
 uD (eT φ) false e [o,v] s λw s=>
 fN w (.i .i64 (.ofNat 0)) λy=>
 sX y s λz s=>
 eQ z
(k b f d e g h s)
(et c (.i .i64 (.ofNat 1)) λA=>
 et c (.i .i64 (.ofNat 1)) λB=>
 eK 1 s b B λC s=>
 eJ s C λE s=>
 eK 1 s b c λF s=>
 eJ s F λG s=>
 eK 1 s b c λH s=>
 eU 1 s H E λ_ s=>
 eK 1 s b A λI s=>
 eU 1 s I G λ_ s=>
 ee c (.i .i64 (.ofNat 1)) λJ=>
 l b f d e g h J s))
(k b f d e g h s))
def nO(φ:Nat)(k:D→D→D→D→D→D→LS→Rs)(l:D→D→D→D→D→D→D→LS→Rs)(b e f d g h c:D)(s:LS):Rs:=(
 jt c (.i .i64 (.ofNat 1)) λm=>
 eQ m
(eK 1 s b c λn s=>
 eJ s n λo s=>
 et c (.i .i64 (.ofNat 1)) λp=>
 eK 1 s b p λu s=>
 eJ s u λv s=>
 uD (eT φ) false d [o,v] s λw s=>
 fN w (.i .i64 (.ofNat 0)) λy=>
 sX y s λz s=>
 eQ z
(k b e f d g h s)
(et c (.i .i64 (.ofNat 1)) λA=>
 et c (.i .i64 (.ofNat 1)) λB=>
 eK 1 s b B λC s=>
 eJ s C λE s=>
 eK 1 s b c λF s=>
 eJ s F λG s=>
 eK 1 s b c λH s=>
 eU 1 s H E λ_ s=>
 eK 1 s b A λI s=>
 eU 1 s I G λ_ s=>
 et c (.i .i64 (.ofNat 1)) λJ=>
 l b e f d g h J s))
(k b e f d g h s))
def nN(φ:Nat)(kk:D→LS→Rs)(p:D→D→D→D→D→D→LS→Rs)(A:D→D→D→D→D→D→LS→Rs)(f h g l e n:D)(s:LS):Rs:=(
 fN e g λc=>
 eI c true (λk=>k l s) s λB s=>
 eI c true (λk=>k f s) s λC s=>
 eI c true (λk=>k e s) s λE s=>
 eI c true (λk=>eK 1 s C E k) s λF s=>
 eI c true (λk=>eJ s F k) s λG s=>
 eI c true (λk=>k f s) s λH s=>
 eI c true (λk=>k e s) s λI s=>
 eI c true (λk=>et I (.i .i64 (.ofNat 1)) λd=>k d s) s λJ s=>
 eI c true (λk=>eK 1 s H J k) s λK s=>
 eI c true (λk=>eJ s K k) s λM s=>
 eI c true (λk=>uD (eT φ) false B [G,M] s k) s λN s=>
 eI c true (λk=>fN N (.i .i64 (.ofNat 0)) λd=>k d s) s λO s=>
 eI c true (λk=>sX O s k) s λP s=>
 fX c P (.b false) s λS s=>
 eQ S
(ee e (.i .i64 (.ofNat 1)) λU=>
 A f h g l U n s)
(gx e g λV=>
 eQ V
(kk (.b true) s)
(et g h λW=>
 fN W (.i .i64 (.ofNat 50)) λX=>
 eQ X
(kk (.b false) s)
(et e (.i .i64 (.ofNat 1)) λY=>
 et e (.i .i64 (.ofNat 1)) λZ=>
 eK 1 s f Z λbb s=>
 eJ s bb λbc s=>
 eK 1 s f e λbd s=>
 eJ s bd λbf s=>
 eK 1 s f e λbg s=>
 eU 1 s bg bc λ_ s=>
 eK 1 s f Y λbh s=>
 eU 1 s bh bf λ_ s=>
 jn (λ(u v o w m y:D)(s:LS)=>
 et o m λbi=>
 jt bi (.i .i64 (.ofNat 2)) λbk=>
 eQ bk
(ee m (.i .i64 (.ofNat 1)) λbl=>
 lp (λ(_ _ _ _ _ _ _:D)(_:LS)=>none) (nP φ p) φ u v o w m y bl s)
(p u v o w m y s)) λz=>
 et e h λbm=>
 jt bm (.i .i64 (.ofNat 2)) λbn=>
 eQ bn
(et e (.i .i64 (.ofNat 1)) λbo=>
 lp (λ(_ _ _ _ _ _ _:D)(_:LS)=>none) (nO φ z) φ f h g l e n bo s)
(z f h g l e n s)))))
def nM(φ:Nat)(kk:D→LS→Rs)(d:D→D→D→D→D→D→LS→Rs)(e f g h k c:D)(s:LS):Rs:=(
 fN c (.i .i64 (.ofNat 5)) λl=>
 eQ l
(jn (λ(m n o p u v:D)(s:LS)=>
 ee v (.i .i64 (.ofNat 1)) λw=>
 d m n o p u w s) λy=>
 lp (λ(_ _ _ _ _ _:D)(_:LS)=>none) (nN φ kk y) φ e f g h k c s)
(kk (.b false) s))
def iG(φ:Nat):List D→LS→(D→LS→Rs)→Rs:=
λas s kk=>
 u1 as λc d=>
 u1 d λb e=>
 u1 e λf g=>
 u1 g λh k=>
 u0 k (
 ee b (.i .i64 (.ofNat 1)) λl=>
 lp (λ(_ _ _ _ _ _:D)(_:LS)=>none) (nM φ kk) φ c b f h l (.i .i64 (.ofNat 0)) s)
def pA(φ:Nat)(kk:D→LS→Rs)(m:D→D→D→D→D→LS→Rs)(n:D→D→D→D→D→LS→Rs)(e h l f g:D)(s:LS):Rs:=(
 ut f g λc=>
 eI c true (λk=>k l s) s λo s=>
 eI c true (λk=>k e s) s λp s=>
 eI c true (λk=>k h s) s λu s=>
 eI c true (λk=>eK 1 s p u k) s λv s=>
 eI c true (λk=>eJ s v k) s λw s=>
 eI c true (λk=>k e s) s λy s=>
 eI c true (λk=>k g s) s λz s=>
 eI c true (λk=>eK 1 s y z k) s λA s=>
 eI c true (λk=>eJ s A k) s λB s=>
 eI c true (λk=>uD (eT φ) false o [w,B] s k) s λC s=>
 eI c true (λk=>fN C (.i .i64 (.ofNat 0)) λd=>k d s) s λE s=>
 fX c E (.b false) s λF s=>
 eQ F
(et g (.i .i64 (.ofNat 1)) λG=>
 n e h l f G s)
(kC f g λH=>
 eQ H
(kk f s)
(eK 1 s e g λI s=>
 eJ s I λJ s=>
 eK 1 s e f λK s=>
 eJ s K λM s=>
 eK 1 s e f λN s=>
 eU 1 s N J λ_ s=>
 eK 1 s e g λO s=>
 eU 1 s O M λ_ s=>
 ee f (.i .i64 (.ofNat 1)) λP=>
 et g (.i .i64 (.ofNat 1)) λS=>
 m e h l P S s)))
def oz(φ:Nat)(kk:D→LS→Rs)(m:D→D→D→D→D→LS→Rs)(n:D→D→D→D→D→LS→Rs)(e g h f l:D)(s:LS):Rs:=(
 ut f l λc=>
 eI c true (λk=>k h s) s λo s=>
 eI c true (λk=>k e s) s λp s=>
 eI c true (λk=>k g s) s λu s=>
 eI c true (λk=>eK 1 s p u k) s λv s=>
 eI c true (λk=>eJ s v k) s λw s=>
 eI c true (λk=>k e s) s λy s=>
 eI c true (λk=>k f s) s λz s=>
 eI c true (λk=>eK 1 s y z k) s λA s=>
 eI c true (λk=>eJ s A k) s λB s=>
 eI c true (λk=>uD (eT φ) false o [w,B] s k) s λC s=>
 eI c true (λk=>fN C (.i .i64 (.ofNat 0)) λd=>k d s) s λE s=>
 eI c true (λk=>sX E s k) s λF s=>
 fX c F (.b false) s λG s=>
 eQ G
(ee f (.i .i64 (.ofNat 1)) λH=>
 n e g h H l s)
(lp (λ(_ _ _ _ _:D)(_:LS)=>none) (pA φ kk m) φ e g h f l s))
def ov(φ:Nat)(kk:D→LS→Rs)(b:D→D→D→D→D→LS→Rs)(c d e f g:D)(s:LS):Rs:=(
 lp (λ(_ _ _ _ _:D)(_:LS)=>none) (oz φ kk b) φ c d e f g s)
def jG(φ:Nat):List D→LS→(D→LS→Rs)→Rs:=
λas s kk=>
 u1 as λb e=>
 u1 e λc f=>
 u1 f λg h=>
 u1 h λd k=>
 u1 k λl m=>
 u0 m (
 eK 1 s b d λn s=>
 eJ s n λo s=>
 eK 1 s b c λp s=>
 eJ s p λu s=>
 eK 1 s b c λv s=>
 eU 1 s v o λ_ s=>
 eK 1 s b d λw s=>
 eU 1 s w u λ_ s=>
 ee c (.i .i64 (.ofNat 1)) λy=>
 et g (.i .i64 (.ofNat 1)) λz=>
 lp (λ(_ _ _ _ _:D)(_:LS)=>none) (ov φ kk) φ b c l y z s)
def qQ(φ:Nat)(kk:D→LS→Rs)(m:D→D→D→D→D→LS→Rs)(n:D→D→D→D→D→LS→Rs)(e h l g f:D)(s:LS):Rs:=(
 ut g f λc=>
 eI c true (λk=>k l s) s λo s=>
 eI c true (λk=>k e s) s λp s=>
 eI c true (λk=>k f s) s λu s=>
 eI c true (λk=>eK 1 s p u k) s λv s=>
 eI c true (λk=>eJ s v k) s λw s=>
 eI c true (λk=>k e s) s λy s=>
 eI c true (λk=>k h s) s λz s=>
 eI c true (λk=>eK 1 s y z k) s λA s=>
 eI c true (λk=>eJ s A k) s λB s=>
 eI c true (λk=>uD (eT φ) false o [w,B] s k) s λC s=>
 eI c true (λk=>fN C (.i .i64 (.ofNat 0)) λd=>k d s) s λE s=>
 eI c true (λk=>sX E s k) s λF s=>
 fX c F (.b false) s λG s=>
 eQ G
(et f (.i .i64 (.ofNat 1)) λH=>
 n e h l g H s)
(kC g f λI=>
 eQ I
(eK 1 s e h λJ s=>
 eJ s J λK s=>
 eK 1 s e f λM s=>
 eJ s M λN s=>
 eK 1 s e f λO s=>
 eU 1 s O K λ_ s=>
 eK 1 s e h λP s=>
 eU 1 s P N λ_ s=>
 kk (.tup [f,(.b false)]) s)
(eK 1 s e f λS s=>
 eJ s S λU s=>
 eK 1 s e g λV s=>
 eJ s V λW s=>
 eK 1 s e g λX s=>
 eU 1 s X U λ_ s=>
 eK 1 s e f λY s=>
 eU 1 s Y W λ_ s=>
 ee g (.i .i64 (.ofNat 1)) λZ=>
 et f (.i .i64 (.ofNat 1)) λbb=>
 m e h l Z bb s)))
def qP(φ:Nat)(kk:D→LS→Rs)(m:D→D→D→D→D→LS→Rs)(n:D→D→D→D→D→LS→Rs)(e g h f l:D)(s:LS):Rs:=(
 ut f l λc=>
 eI c true (λk=>k h s) s λo s=>
 eI c true (λk=>k e s) s λp s=>
 eI c true (λk=>k f s) s λu s=>
 eI c true (λk=>eK 1 s p u k) s λv s=>
 eI c true (λk=>eJ s v k) s λw s=>
 eI c true (λk=>k e s) s λy s=>
 eI c true (λk=>k g s) s λz s=>
 eI c true (λk=>eK 1 s y z k) s λA s=>
 eI c true (λk=>eJ s A k) s λB s=>
 eI c true (λk=>uD (eT φ) false o [w,B] s k) s λC s=>
 eI c true (λk=>fN C (.i .i64 (.ofNat 0)) λd=>k d s) s λE s=>
 fX c E (.b false) s λF s=>
 eQ F
(ee f (.i .i64 (.ofNat 1)) λG=>
 n e g h G l s)
(lp (λ(_ _ _ _ _:D)(_:LS)=>none) (qQ φ kk m) φ e g h f l s))
def qO(φ:Nat)(kk:D→LS→Rs)(b:D→D→D→D→D→LS→Rs)(c d e f g:D)(s:LS):Rs:=(
 lp (λ(_ _ _ _ _:D)(_:LS)=>none) (qP φ kk b) φ c d e f g s)
def qN(φ:Nat)(kk:D→LS→Rs)(m:D→D→D→D→D→LS→Rs)(e h l g f:D)(s:LS):Rs:=(
 ut g f λc=>
 eI c true (λk=>k l s) s λn s=>
 eI c true (λk=>k e s) s λo s=>
 eI c true (λk=>k f s) s λp s=>
 eI c true (λk=>eK 1 s o p k) s λu s=>
 eI c true (λk=>eJ s u k) s λv s=>
 eI c true (λk=>k e s) s λw s=>
 eI c true (λk=>k h s) s λy s=>
 eI c true (λk=>eK 1 s w y k) s λz s=>
 eI c true (λk=>eJ s z k) s λA s=>
 eI c true (λk=>uD (eT φ) false n [v,A] s k) s λB s=>
 eI c true (λk=>fN B (.i .i64 (.ofNat 0)) λd=>k d s) s λC s=>
 eI c true (λk=>sX C s k) s λE s=>
 fX c E (.b false) s λF s=>
 eQ F
(et f (.i .i64 (.ofNat 1)) λG=>
 m e h l g G s)
(kC g f λH=>
 eQ H
(eK 1 s e h λI s=>
 eJ s I λJ s=>
 eK 1 s e f λK s=>
 eJ s K λM s=>
 eK 1 s e f λN s=>
 eU 1 s N J λ_ s=>
 eK 1 s e h λO s=>
 eU 1 s O M λ_ s=>
 kk (.tup [f,(.b true)]) s)
(eK 1 s e f λP s=>
 eJ s P λS s=>
 eK 1 s e g λU s=>
 eJ s U λV s=>
 eK 1 s e g λW s=>
 eU 1 s W S λ_ s=>
 eK 1 s e f λX s=>
 eU 1 s X V λ_ s=>
 ee g (.i .i64 (.ofNat 1)) λY=>
 et f (.i .i64 (.ofNat 1)) λZ=>
 lp (λ(_ _ _ _ _:D)(_:LS)=>none) (qO φ kk) φ e h l Y Z s)))
def qM(φ:Nat)(kk:D→LS→Rs)(m:D→D→D→D→D→LS→Rs)(e g h f l:D)(s:LS):Rs:=(
 ut f l λc=>
 eI c true (λk=>k h s) s λn s=>
 eI c true (λk=>k e s) s λo s=>
 eI c true (λk=>k f s) s λp s=>
 eI c true (λk=>eK 1 s o p k) s λu s=>
 eI c true (λk=>eJ s u k) s λv s=>
 eI c true (λk=>k e s) s λw s=>
 eI c true (λk=>k g s) s λy s=>
 eI c true (λk=>eK 1 s w y k) s λz s=>
 eI c true (λk=>eJ s z k) s λA s=>
 eI c true (λk=>uD (eT φ) false n [v,A] s k) s λB s=>
 eI c true (λk=>fN B (.i .i64 (.ofNat 0)) λd=>k d s) s λC s=>
 fX c C (.b false) s λE s=>
 eQ E
(ee f (.i .i64 (.ofNat 1)) λF=>
 m e g h F l s)
(lp (λ(_ _ _ _ _:D)(_:LS)=>none) (qN φ kk) φ e g h f l s))
def kK(φ:Nat):List D→LS→(D→LS→Rs)→Rs:=
λas s kk=>
 u1 as λb e=>
 u1 e λc f=>
 u1 f λg h=>
 u1 h λd k=>
 u1 k λl m=>
 u0 m (
 eK 1 s b d λn s=>
 eJ s n λo s=>
 eK 1 s b c λp s=>
 eJ s p λu s=>
 eK 1 s b c λv s=>
 eU 1 s v o λ_ s=>
 eK 1 s b d λw s=>
 eU 1 s w u λ_ s=>
 ee c (.i .i64 (.ofNat 1)) λy=>
 et g (.i .i64 (.ofNat 1)) λz=>
 lp (λ(_ _ _ _ _:D)(_:LS)=>none) (qM φ kk) φ b c l y z s)
def mg(φ:Nat)(kk:D→LS→Rs)(ih:List D→LS→(D→LS→Rs)→Rs)(B:D→D→D→D→D→D→D→LS→Rs)(o h l C p E O:D)(s:LS):Rs:=(
 et l h λF=>
 ut F (.i .i64 (.ofNat 12)) λbn=>
 eQ bn
((gq φ) [o,h,l,p] s λcl s=>
 kk (.tup []) s)
(gx C (.i .i64 (.ofNat 0)) λbo=>
 eQ bo
((kR φ) [o,h,l,p] s λcm s=>
 kk (.tup []) s)
(jn (λ(y u v P z S U V:D)(s:LS)=>
(jj φ) [y,u,v,z] s λW s=>
 gD W 0 s λX s=>
 gD W 1 s λY s=>
 jn (λ(G H I Z J A K bb bc bp:D)(s:LS)=>
 jn (λ(e g m w f bu bv bw M:D)(s:LS)=>
 kC g (.i .i64 (.ofNat 0)) λc=>
 eI c true (λk=>k f s) s λbz s=>
 eI c true (λk=>k e s) s λbA s=>
 eI c true (λk=>k g s) s λbB s=>
 eI c true (λk=>et bB (.i .i64 (.ofNat 1)) λd=>k d s) s λbC s=>
 eI c true (λk=>eK 1 s bA bC k) s λbE s=>
 eI c true (λk=>eJ s bE k) s λbF s=>
 eI c true (λk=>k e s) s λbG s=>
 eI c true (λk=>k M s) s λbH s=>
 eI c true (λk=>eK 1 s bG bH k) s λbI s=>
 eI c true (λk=>eJ s bI k) s λbJ s=>
 eI c true (λk=>uD (eT φ) false bz [bF,bJ] s k) s λbK s=>
 eI c true (λk=>fN bK (.i .i64 (.ofNat 0)) λd=>k d s) s λbM s=>
 eI c true (λk=>sX bM s k) s λbN s=>
 fX c bN (.b false) s λbO s=>
 eQ bO
((jG φ) [e,g,m,M,f] s λbP s=>
 B e bP m w f bu bv s)
((kK φ) [e,g,m,M,f] s λbd s=>
 gD bd 0 s λn s=>
 gD bd 1 s λbf s=>
 et n g λbg=>
 et m n λbh=>
 u7 bw (.i .i64 (.ofNat 8)) λbi=>
 fN bg bh λbS=>
 eQ bS
(jt bg bi λbU=>
 ih [e,g,n,w,f] s λcn s=>
 ee n (.i .i64 (.ofNat 1)) λbV=>
 B e bV m w f bU bf s)
(jt bh bi λbW=>
 ee n (.i .i64 (.ofNat 1)) λbX=>
 ih [e,bX,m,w,f] s λco s=>
 B e g n w f bW bf s))) λbk=>
 eI A true (λk=>k K s) s λbY s=>
 fX A bY (.b false) s λN s=>
 eI N true (λk=>k bp s) s λbZ s=>
 eI N true (λk=>gx bZ (.i .i64 (.ofNat 1)) λd=>k d s) s λcb s=>
 fX N cb (.b false) s λcc s=>
 eQ cc
((iG φ) [G,H,I,J] s λcd s=>
 eQ cd
(kk (.tup []) s)
(bk G H I Z J A K bb bc s))
(bk G H I Z J A K bb bc s)) λbl=>
 gx Y (.i .i64 (.ofNat 2)) λce=>
 eQ ce
((jc φ) [y,u,v,z] s λcp s=>
 et v (.i .i64 (.ofNat 1)) λcf=>
 et X u λcg=>
 et cf cg λch=>
 bl y u v P z S U V ch (.i .i64 (.ofNat 1)) s)
(bl y u v P z S U V X Y s)) λbm=>
 sX E s λci s=>
 eQ ci
((jU φ) [o,h,l,p] s λcu s=>
 et C (.i .i64 (.ofNat 1)) λck=>
 bm o h l ck p E O F s)
(bm o h l C p E O F s))))
def hZ(φ:Nat)(ih:List D→LS→(D→LS→Rs)→Rs):List D→LS→(D→LS→Rs)→Rs:=
λas s kk=>
 u1 as λc d=>
 u1 d λe f=>
 u1 f λg h=>
 u1 h λi k=>
 u1 k λl m=>
 u0 m (
 lp (λ(_ _ _ _ _ _ _:D)(_:LS)=>none) (mg φ kk ih) φ c e g i l (.b true) (.b true) s)
def hI(φ:Nat):List D→LS→(D→LS→Rs)→Rs:=lp (λ_ _ _=>none) (hZ φ) φ
def ga(φ:Nat):List D→LS→(D→LS→Rs)→Rs:=
λas s kk=>
 u1 as λb d=>
 u1 d λe f=>
 u0 f (
 ek b s λc s=>
 lP .u64 c s λg s=>
 eR (nD φ) [g] s λh s=>
(hI φ) [b,(.i .i64 (.ofNat 0)),c,h,e] s λk s=>
 kk (.tup []) s)
def nC(φ:Nat)(n:D→D→D→D→LS→Rs)(o:D→D→D→D→D→D→D→D→D→LS→Rs)(d b e f g h k l c:D)(s:LS):Rs:=(
 fN c l λp=>
 eQ p
(eK 1 s k c λu s=>
 eJ s u λm s=>
 eK 3 s m e λv s=>
 eS 3 s v λw s=>
(oA φ) [m,b,w] s λB s=>
 ee c (.i .i64 (.ofNat 1)) λy=>
 o d b e f g h k l y s)
(jY 1 [(.tree [] 0 true)] [(0,1,b)] s λz s=>
 mF 1 24 s d z λA s=>
 n A f g h s))
def pC(φ:Nat)(m:D→D→D→D→LS→Rs)(n:D→D→D→D→D→D→D→D→D→LS→Rs)(b c e f g h k l d:D)(s:LS):Rs:=(
 fN d l λo=>
 eQ o
(eK 3 s c d λp s=>
 eS 3 s p λu s=>
 eS 3 s f λv s=>
 eR (lk φ) [u,v] s λw s=>
 eK 3 s c d λy s=>
 eU 3 s y w λ_ s=>
 ee d (.i .i64 (.ofNat 1)) λz=>
 n b c e f g h k l z s)
(ek b s λA s=>
 lp (λ(_ _ _ _ _ _ _ _ _:D)(_:LS)=>none) (nC φ m) φ b c e g h k b A (.i .i64 (.ofNat 0)) s))
def jP(φ:Nat)(l:D→D→D→D→LS→Rs)(v:D→D→D→D→D→D→D→D→LS→Rs)(d c e f g m o h:D)(s:LS):Rs:=(
 fN h o λw=>
 eQ w
(eK 1 s m h λy s=>
 eJ s y λp s=>
 eR (oi φ) [p] s λz s=>
 eK 3 s c z λA s=>
 eS 3 s A λB s=>
(oA φ) [c,p,B] s λJ s=>
 ee h (.i .i64 (.ofNat 1)) λC=>
 v d c e f g m o C s)
(eR (oi φ) [c] s λk s=>
 fN k (.i .i64 (.ofNat 0)) λE=>
 eQ E
(l d e f g s)
(eK 3 s c k λF s=>
 eS 3 s F λG s=>
 eR (mJ φ) [G] s λH s=>
 fq [(.b false),(.n 0),(.n 0)] s λu s=>
 eU 3 s u H λ_ s=>
 ek c s λI s=>
 lp (λ(_ _ _ _ _ _ _ _ _:D)(_:LS)=>none) (pC φ l) φ d c k u e f g I (.i .i64 (.ofNat 0)) s)))
def nB(φ:Nat)(f:D→D→D→D→LS→Rs)(b d e c:D)(s:LS):Rs:=(
 fN c e λg=>
 eQ g
(jn (λ(h k l m:D)(s:LS)=>
 ee m (.i .i64 (.ofNat 1)) λn=>
 f h k l n s) λo=>
 eK 1 s d c λp s=>
 eJ s p λu s=>
 eR (pP (fK φ)) [u] s λv s=>
 ek b s λw s=>
 lp (λ(_ _ _ _ _ _ _ _:D)(_:LS)=>none) (jP φ o) φ b v d e c b w (.i .i64 (.ofNat 0)) s)
((ga φ) [b,(.fn 106 [])] s λy s=>
 eX true s b some))
def lV(φ:Nat):List D→Option D:=
λas=>
(λ(s:LS)=>
 u1 as λb c=>
 u0 c (
 ek b s λd s=>
 lp (λ(_ _ _ _:D)(_:LS)=>none) (nB φ) φ (.tree [] 0 true) b d (.i .i64 (.ofNat 0)) s)) s0
def qe(φ:Nat):List D→Option D:=
λas=>
(λ(s:LS)=>
 u1 as λg h=>
 u1 h λf l=>
 u0 l (
 fq [(.b false),(.n 0),(.n 0)] s λe s=>
 fN f (.i .i64 (.ofNat 0)) λc=>
 eI c false (λk=>k f s) s λm s=>
 eI c false (λk=>k g s) s λo s=>
 eI c false (λk=>ek o s k) s λp s=>
 eI c false (λk=>jt m p λd=>k d s) s λu s=>
 fX c (.b true) u s λv s=>
 eQ v
(eR (mW φ) [(.i .i64 (.ofNat 0))] s λw s=>
 eU 3 s e w λ_ s=>
 eS 3 s e λy _=>
 eX false s y some)
(eK 3 s g f λz s=>
 eS 3 s z λA s=>
 eU 3 s e A λ_ s=>
 eS 3 s e λB _=>
 eX false s B some))) s0
def tT(φ:Nat)(f:D→D→D→D→LS→Rs)(d c e b:D)(s:LS):Rs:=(
 fN b e λg=>
 eQ g
(eR (qe φ) [d,b] s λh s=>
 eK 3 s c b λk s=>
 eU 3 s k h λ_ s=>
 ee b (.i .i64 (.ofNat 1)) λl=>
 f d c e l s)
(eX false s c some))
def ru(φ:Nat):List D→Option D:=
λas=>
(λ(s:LS)=>
 u1 as λe f=>
 u1 f λc g=>
 u0 g (
 mK 3 40 [(.b false),(.n 0),(.n 0)] s c c λd s=>
 ek d s λh s=>
 lp (λ(_ _ _ _:D)(_:LS)=>none) (tT φ) φ e d h (.i .i64 (.ofNat 0)) s)) s0
def rt(φ:Nat)(p:D→D→D→D→D→D→D→D→LS→Rs)(u:D→D→D→D→D→D→D→D→D→D→D→D→LS→Rs)(b e c f g h k l m n o d:D)(s:LS):Rs:=(
 fN d o λv=>
 eQ v
(eK 1 s n d λw s=>
 eJ s w λy s=>
 eR (pP (fK φ)) [h] s λz s=>
 eR (gF φ) [z] s λA s=>
 eR (uX φ) [b,A,y] s λB s=>
 eR (ru φ) [B,c] s λC s=>
 jY 1 [(.tree [] 0 true)] [(0,1,C)] s λE s=>
 zA 1 24 s g E λF s=>
 ee d (.i .i64 (.ofNat 1)) λG=>
 u b e c f F h k l m n o G s)
(ee m (.i .i64 (.ofNat 1)) λH=>
 p b e c f g k l H s))
def po(φ:Nat)(f:D→D→D→D→LS→Rs)(c d e b:D)(s:LS):Rs:=(
 fN b e λg=>
 eQ g
(eK 1 s d b λh s=>
 eJ s h λk s=>
 eR (pP (fK φ)) [k] s λl s=>
 eR (gF φ) [l] s λm s=>
 jY 1 [(.tree [] 0 true)] [(0,1,m)] s λn s=>
 zA 1 24 s c n λo s=>
 ee b (.i .i64 (.ofNat 1)) λp=>
 f o d e p s)
(eX true s c some))
def ro(φ:Nat)(n:D→D→D→D→LS→Rs)(o:D→D→D→D→D→D→D→D→LS→Rs)(e b f c g h k d:D)(s:LS):Rs:=(
 fN d k λp=>
 eQ p
(eK 1 s h d λu s=>
 eJ s u λv s=>
 ek b s λw s=>
 lp (λ(_ _ _ _ _ _ _ _ _ _ _ _:D)(_:LS)=>none) (rt φ o) φ e b f c g v h k d b w (.i .i64 (.ofNat 0)) s)
(eR (lV φ) [g] s λl s=>
 ek l s λy s=>
 ek c s λz s=>
 gx y z λA=>
 eQ A
(eR (lV φ) [c] s λm s=>
 ek m s λB s=>
 lp (λ(_ _ _ _:D)(_:LS)=>none) (po φ) φ (.tree [] 0 true) m B (.i .i64 (.ofNat 0)) s)
(n e b f l s)))
def pj(φ:Nat)(c:D→D→D→D→LS→Rs)(d e f b:D)(s:LS):Rs:=(
 ek b s λg s=>
 lp (λ(_ _ _ _ _ _ _ _:D)(_:LS)=>none) (ro φ c) φ d e f b b b g (.i .i64 (.ofNat 0)) s)
def sc(φ:Nat):List D→Option D:=
λas=>
(λ(s:LS)=>
 u1 as λb d=>
 u1 d λe f=>
 u0 f (
 ek b s λg s=>
 et g (.i .i64 (.ofNat 1)) λc=>
 jY 1 [(.i .i64 (.ofNat 0))] [(0,1,(.i .i64 (.ofNat 1)))] s λh s=>
 eR (o7 φ) [h] s λk s=>
 eR (pB φ) [b,k] s λl s=>
 eR (ru φ) [l,c] s λm s=>
 jY 1 [(.tree [] 0 true)] [(0,1,m)] s λn s=>
 lp (λ(_ _ _ _:D)(_:LS)=>none) (pj φ) φ b e c n s)) s0
def jN(φ:Nat):List D→Option D:=
λas=>
(λ(s:LS)=>
 u1 as λg h=>
 u1 h λc k=>
 u0 k (
 ic g s λb s=>
 eS 1 s b λl s=>
 eR (lQ φ) [l] s λd s=>
 mE d (.i .i64 (.ofNat 0)) λm=>
 eQ m
(eX false s (.tup [(.tree [] 0 true),d]) some)
(eS 1 s b λn s=>
 eR (qh φ) [n,c] s λe s=>
 mE e (.i .i64 (.ofNat 0)) λo=>
 eQ o
(eX false s (.tup [(.tree [] 0 true),e]) some)
(eW 0 s b λp s=>
 eJ s p λu s=>
 eR (sc φ) [u,c] s λf s=>
 eR (uY φ) [f] s λv s=>
 eQ v
(eX false s (.tup [(.tree [] 0 true),(.i .i64 (.ofNat 4))]) some)
(eX false s (.tup [f,(.i .i64 (.ofNat 0))]) some))))) s0
def mu(φ:Nat)(g:D→D→D→D→LS→Rs)(d e f c:D)(s:LS):Rs:=(
 fN c f λh=>
 eQ h
(eK 3 s d c λk s=>
 eS 3 s k λl s=>
 eK 3 s e c λm s=>
 eS 3 s m λn s=>
 Af true [1,2,2] l n s λo s=>
 eQ o
(eX false s (.b false) some)
(ee c (.i .i64 (.ofNat 1)) λp=>
 g d e f p s))
(eX false s (.b true) some))
def mh(φ:Nat):List D→Option D:=
λas=>
(λ(s:LS)=>
 u1 as λc e=>
 u1 e λd f=>
 u0 f (
 ek c s λg s=>
 ek d s λh s=>
 mE g h λk=>
 eQ k
(eX false s (.b false) some)
(ek c s λl s=>
 lp (λ(_ _ _ _:D)(_:LS)=>none) (mu φ) φ c d l (.i .i64 (.ofNat 0)) s))) s0
def kn(φ:Nat)(g:D→D→D→D→LS→Rs)(d e f c:D)(s:LS):Rs:=(
 fN c f λh=>
 eQ h
(eK 1 s d c λk s=>
 eJ s k λl s=>
 eK 1 s e c λm s=>
 eJ s m λn s=>
 eR (mh φ) [l,n] s λo s=>
 sX o s λp s=>
 eQ p
(eX false s (.b false) some)
(ee c (.i .i64 (.ofNat 1)) λu=>
 g d e f u s))
(eX false s (.b true) some))
def jW(φ:Nat):List D→Option D:=
λas=>
(λ(s:LS)=>
 u1 as λc e=>
 u1 e λd f=>
 u0 f (
 ek c s λg s=>
 ek d s λh s=>
 mE g h λk=>
 eQ k
(eX false s (.b false) some)
(ek c s λl s=>
 lp (λ(_ _ _ _:D)(_:LS)=>none) (kn φ) φ c d l (.i .i64 (.ofNat 0)) s))) s0
def l8(φ:Nat)(h:D→D→D→D→LS→Rs)(d e f c:D)(s:LS):Rs:=(
 eS 1 s e λk s=>
 eR (fZ φ) [k] s λl s=>
 fN c l λm=>
 eQ m
(jn (λ(o p u v:D)(s:LS)=>
 ee v (.i .i64 (.ofNat 1)) λw=>
 h o p u w s) λg=>
 ek d s λy s=>
 fN c y λz=>
 eQ z
(eK 3 s d c λA s=>
 eS 3 s A λB s=>
 jY 1 [(.b false),(.n 0),(.n 0)] [(0,3,B)] s λC s=>
 mF 3 40 s f C λE s=>
 g d e E c s)
(eR (fb φ) [(.i .i64 (.ofNat 0))] s λF s=>
 jY 1 [(.b false),(.n 0),(.n 0)] [(0,3,F)] s λG s=>
 mF 3 40 s f G λH s=>
 g d e H c s))
(eX false s f some))
def mB(φ:Nat):List D→Option D:=
λas=>
(λ(s:LS)=>
 u1 as λb c=>
 u1 c λd e=>
 u0 e (
 ic b s λf s=>
 lp (λ(_ _ _ _:D)(_:LS)=>none) (l8 φ) φ d f (.tree [] 0 true) (.i .i64 (.ofNat 0)) s)) s0
def mi(φ:Nat):List D→Option D:=
λas=>
(λ(s:LS)=>
 u1 as λb c=>
 u0 c (
 ek b s λd s=>
 gx d (.i .i64 (.ofNat 0)) λe=>
 eQ e
(eX false s (.i .i64 (.ofNat 0)) some)
(eK 1 s b (.i .i64 (.ofNat 0)) λf s=>
 eJ s f λg s=>
 ek g s λh s=>
 eX false s h some))) s0
def jJ(φ:Nat):List D→Option D:=
λas=>
(λ(s:LS)=>
 u1 as λb c=>
 u0 c (
 ic b s λd s=>
 eS 3 s d λe s=>
 eR (iZ φ) [e] s λf s=>
 gx f (.i .i64 (.ofNat 0)) λg=>
 eX false s g some)) s0
def gh(φ:Nat):List D→Option D:=
λas=>
(λ(s:LS)=>
 u1 as λh i=>
 u1 i λl m=>
 u0 m (
 ic h s λc s=>
 ic l s λe s=>
 fq [(.b false),(.n 0),(.n 0)] s λf s=>
 eW 2 s c λo s=>
 eJ s o λp s=>
 gx p (.n 1) λg=>
 eI g true (λk=>eW 2 s e k) s λu s=>
 eI g true (λk=>eJ s u k) s λv s=>
 eI g true (λk=>gx v (.n 1) λd=>k d s) s λw s=>
 fX g w (.b false) s λy s=>
 eQ y
(eW 0 s c λz s=>
 eS 2 s z λA s=>
 eW 0 s e λB s=>
 eS 2 s B λC s=>
 eR (gV φ) [A,C] s λE s=>
 eR (ik φ) [E] s λF s=>
 eU 3 s f F λ_ s=>
 eS 3 s f λG _=>
 eX false s G some)
(eW 0 s c λH s=>
 eS 2 s H λI s=>
 eW 0 s e λJ s=>
 eS 2 s J λK s=>
 eR (gV φ) [I,K] s λM s=>
 eS 3 s c λN s=>
 eR (fQ φ) [N] s λO s=>
 eS 3 s e λP s=>
 eR (fQ φ) [P] s λS s=>
 eR (gV φ) [O,S] s λU s=>
 eR (lR φ) [M,U] s λV s=>
 eU 3 s f V λ_ s=>
 eS 3 s f λW _=>
 eX false s W some))) s0
def kH(φ:Nat)(k:D→D→D→D→D→LS→Rs)(d e f g c:D)(s:LS):Rs:=(
 fN c g λl=>
 eQ l
(eK 3 s f c λm s=>
 eS 3 s m λo s=>
 fq [(.b false),(.n 0),(.n 0)] s λh s=>
 eU 3 s h o λ_ s=>
 eS 3 s h λp s=>
 eS 3 s d λu s=>
 eR (gh φ) [p,u] s λv s=>
 jY 1 [(.b false),(.n 0),(.n 0)] [(0,3,v)] s λw s=>
 mF 3 40 s e w λy s=>
 ee c (.i .i64 (.ofNat 1)) λz=>
 k d y f g z s)
(eX false s e some))
def lg(φ:Nat):List D→Option D:=
λas=>
(λ(s:LS)=>
 u1 as λb c=>
 u1 c λd e=>
 u0 e (
 ic d s λf s=>
 ek b s λg s=>
 lp (λ(_ _ _ _ _:D)(_:LS)=>none) (kH φ) φ f (.tree [] 0 true) b g (.i .i64 (.ofNat 0)) s)) s0
def ir(φ:Nat):List D→Option D:=
λas=>
(λ(s:LS)=>
 u1 as λe f=>
 u0 f (
 ic e s λc s=>
 fq [(.b false),(.n 0),(.n 0)] s λd s=>
 eW 0 s c λg s=>
 eW 1 s g λh s=>
 eJ s h λi s=>
 gx i (.n 0) λk=>
 eQ k
(eS 3 s c λl s=>
 eU 3 s d l λ_ s=>
 eS 3 s d λm _=>
 eX false s m some)
(eW 0 s c λo s=>
 eW 0 s o λp s=>
 eJ s p λu s=>
 eW 2 s c λv s=>
 eJ s v λw s=>
 kN [(.b false),(.n 0)] [(0,1,u),(1,1,w)] s λy s=>
 eW 0 s c λz s=>
 eW 1 s z λA s=>
 eJ s A λB s=>
 kN [(.b false),(.n 0),(.n 0)] [(0,2,y),(2,1,B)] s λC s=>
 eU 3 s d C λ_ s=>
 eS 3 s d λE _=>
 eX false s E some))) s0
def nZ(φ:Nat):List D→Option D:=
λas=>
(λ(s:LS)=>
 u1 as λe f=>
 u0 f (
 ic e s λc s=>
 fq [(.b false),(.n 0)] s λd s=>
 eW 0 s c λg s=>
 eJ s g λh s=>
 sX h s λi s=>
 eW 1 s c λk s=>
 eJ s k λl s=>
 eR (gp φ) [i,l] s λm s=>
 eU 2 s d m λ_ s=>
 eS 2 s d λo _=>
 eX false s o some)) s0
def nX(φ:Nat):List D→Option D:=
λas=>
(λ(s:LS)=>
 u1 as λe f=>
 u0 f (
 ic e s λc s=>
 fq [(.b false),(.n 0),(.n 0)] s λd s=>
 eW 0 s c λg s=>
 eS 2 s g λh s=>
 eR (nZ φ) [h] s λi s=>
 eW 2 s c λk s=>
 eJ s k λl s=>
 kN [(.b false),(.n 0),(.n 0)] [(0,2,i),(2,1,l)] s λm s=>
 eU 3 s d m λ_ s=>
 eS 3 s d λo _=>
 eX false s o some)) s0
def nW(φ:Nat):List D→Option D:=
λas=>
(λ(s:LS)=>
 u1 as λd e=>
 u1 e λf g=>
 u0 g (
 ic d s λh s=>
 ic f s λi s=>
 fq [(.b false),(.n 0),(.n 0)] s λc s=>
 eS 3 s h λk s=>
 eS 3 s i λl s=>
 eR (nX φ) [l] s λm s=>
 eR (iw φ) [k,m] s λo s=>
 eU 3 s c o λ_ s=>
 eS 3 s c λp _=>
 eX false s p some)) s0
def ie(φ:Nat)(k:D→D→D→D→D→D→LS→Rs)(d e f g h c:D)(s:LS):Rs:=(
 fN c h λl=>
 eQ l
(eK 3 s d c λm s=>
 eS 3 s m λo s=>
 eS 3 s f λp s=>
 eK 3 s e c λu s=>
 eS 3 s u λv s=>
 eR (gh φ) [p,v] s λw s=>
 eR (nW φ) [o,w] s λy s=>
 jY 1 [(.b false),(.n 0),(.n 0)] [(0,3,y)] s λz s=>
 mF 3 40 s g z λA s=>
 ee c (.i .i64 (.ofNat 1)) λB=>
 k d e f A h B s)
(eX false s g some))
def iq(φ:Nat):List D→Option D:=
λas=>
(λ(s:LS)=>
 u1 as λc e=>
 u1 e λf g=>
 u1 g λh k=>
 u0 k (
 eK 3 s c h λl s=>
 eS 3 s l λm s=>
 fq [(.b false),(.n 0),(.n 0)] s λd s=>
 eU 3 s d m λ_ s=>
 eS 3 s d λo s=>
 eR (jJ φ) [o] s λp s=>
 eQ p
(eX false s c some)
(ek c s λu s=>
 lp (λ(_ _ _ _ _ _:D)(_:LS)=>none) (ie φ) φ c f d (.tree [] 0 true) u (.i .i64 (.ofNat 0)) s))) s0
def ii(φ:Nat)(l:D→D→D→D→D→LS→Rs)(m:D→D→D→D→D→D→D→D→LS→Rs)(f b g c e h k d:D)(s:LS):Rs:=(
 fN d k λn=>
 eQ n
(eK 1 s b d λo s=>
 eJ s o λp s=>
 eR (iq φ) [p,e,c] s λu s=>
 eK 1 s b d λv s=>
 eU 1 s v u λ_ s=>
 ee d (.i .i64 (.ofNat 1)) λw=>
 m f b g c e h k w s)
(jY 1 [(.tree [] 0 true)] [(0,1,e)] s λy s=>
 mF 1 24 s b y λz s=>
 jY 1 [(.i .i64 (.ofNat 0))] [(0,1,c)] s λA s=>
 mF 1 8 s g A λB s=>
 l f h z B c s))
def gn(φ:Nat)(o:D→D→D→D→D→LS→Rs)(p:D→D→D→D→D→D→D→D→D→D→LS→Rs)(f g c h d k e l m b:D)(s:LS):Rs:=(
 fN b m λu=>
 eQ u
(jn (λ(v w y z A B C E F G:D)(s:LS)=>
 ee G (.i .i64 (.ofNat 1)) λH=>
 p v w y z A B C E F H s) λn=>
 mE b k λI=>
 eQ I
(eK 1 s g b λJ s=>
 eJ s J λK s=>
 eR (iq φ) [K,e,d] s λM s=>
 jY 1 [(.tree [] 0 true)] [(0,1,M)] s λN s=>
 mF 1 24 s l N λO s=>
 n f g c h d k e O m b s)
(n f g c h d k e l m b s))
(ek c s λP s=>
 lp (λ(_ _ _ _ _ _ _ _:D)(_:LS)=>none) (ii φ o) φ f c h d e l P (.i .i64 (.ofNat 0)) s))
def fc(φ:Nat)(o:D→D→D→D→D→LS→Rs)(u:D→D→D→D→D→D→D→D→LS→Rs)(h d l m e f n g:D)(s:LS):Rs:=(
 fN g n λv=>
 eQ v
(jn (λ(w y z A B C E F:D)(s:LS)=>
 ee F (.i .i64 (.ofNat 1)) λG=>
 u w y z A B C E G s) λp=>
 fN f (.i .i64 (.ofNat 0)) λc=>
 eI c true (λk=>k d s) s λH s=>
 eI c true (λk=>k g s) s λI s=>
 eI c true (λk=>eK 1 s H I k) s λJ s=>
 eI c true (λk=>eJ s J k) s λK s=>
 eI c true (λk=>k e s) s λM s=>
 eI c true (λk=>eK 3 s K M k) s λN s=>
 eI c true (λk=>eS 3 s N k) s λO s=>
 eI c true (λk=>eR (jJ φ) [O] s k) s λP s=>
 eI c true (λk=>sX P s k) s λS s=>
 fX c S (.b false) s λU s=>
 eQ U
(p h d l m e g n g s)
(p h d l m e f n g s))
(fN f (.i .i64 (.ofNat 0)) λV=>
 eQ V
(o h d l m e s)
(eK 1 s d f λW s=>
 eJ s W λX s=>
 eK 1 s d f λY s=>
 eJ s Y λZ s=>
 eK 3 s Z e λbb s=>
 eS 3 s bb λbc s=>
 eR (ir φ) [bc] s λbd s=>
 eR (lg φ) [X,bd] s λbf s=>
 ek d s λbg s=>
 lp (λ(_ _ _ _ _ _ _ _ _ _:D)(_:LS)=>none) (gn φ o) φ h d l m e f bf (.tree [] 0 true) bg (.i .i64 (.ofNat 0)) s)))
def ig(φ:Nat)(g:D→D→D→D→D→LS→Rs)(b c d e f:D)(s:LS):Rs:=(
 eR (mi φ) [b] s λh s=>
 fN f h λk=>
 eQ k
(jn (λ(l m n o p:D)(s:LS)=>
 ee p (.i .i64 (.ofNat 1)) λu=>
 g l m n o u s) λv=>
 ek c s λw s=>
 lp (λ(_ _ _ _ _ _ _ _:D)(_:LS)=>none) (fc φ v) φ b c d e f (.i .i64 (.negSucc 0)) w (.i .i64 (.ofNat 0)) s)
(eX false s (.tup [d,e]) some))
def jg(φ:Nat):List D→Option D:=
λas=>
(λ(s:LS)=>
 u1 as λb c=>
 u0 c (
 jY 0 [(.tree [] 0 true)] [] s λd s=>
 mF 1 24 s d b λe s=>
 lp (λ(_ _ _ _ _:D)(_:LS)=>none) (ig φ) φ b e (.tree [] 0 true) (.tree [] 0 true) (.i .i64 (.ofNat 0)) s)) s0
def lC(φ:Nat):List D→Option D:=
λas=>
(λ(s:LS)=>
 u1 as λb c=>
 u0 c (
 eR (fY φ) [b] s λd s=>
 eX false s d some)) s0
def lA(φ:Nat)(f:D→D→D→D→LS→Rs)(c d e b:D)(s:LS):Rs:=(
 fN b e λg=>
 eQ g
(eK 1 s d b λh s=>
 eJ s h λk s=>
 eR (lC φ) [k] s λl s=>
 jY 1 [(.tree [] 0 true)] [(0,1,l)] s λm s=>
 mF 1 24 s c m λn s=>
 ee b (.i .i64 (.ofNat 1)) λo=>
 f n d e o s)
(eX false s c some))
def kz(φ:Nat)(k:D→D→D→D→D→LS→Rs)(c d e f b:D)(s:LS):Rs:=(
 fN b f λl=>
 eQ l
(eK 1 s e b λm s=>
 eJ s m λn s=>
 eS 1 s c λo s=>
 eR (mB φ) [o,n] s λp s=>
 jY 1 [(.tree [] 0 true)] [(0,1,p)] s λu s=>
 mF 1 24 s d u λv s=>
 ee b (.i .i64 (.ofNat 1)) λw=>
 k c v e f w s)
(eR (jg φ) [d] s λg s=>
 gD g 0 s λh s=>
 gD g 1 s λz s=>
 ek h s λy s=>
 lp (λ(_ _ _ _:D)(_:LS)=>none) (lA φ) φ (.tree [] 0 true) h y (.i .i64 (.ofNat 0)) s))
def iY(φ:Nat):List D→Option D:=
λas=>
(λ(s:LS)=>
 u1 as λc d=>
 u1 d λb e=>
 u0 e (
 ic c s λf s=>
 ek b s λg s=>
 lp (λ(_ _ _ _ _:D)(_:LS)=>none) (kz φ) φ f (.tree [] 0 true) b g (.i .i64 (.ofNat 0)) s)) s0
def fg(φ:Nat)(u:D→D→D→D→LS→Rs)(v:D→D→D→D→D→D→D→LS→Rs)(l g m f h o c:D)(s:LS):Rs:=(
 fN c o λw=>
 eQ w
(jn (λ(y z A B C E F:D)(s:LS)=>
 ee F (.i .i64 (.ofNat 1)) λG=>
 v y z A B C E G s) λp=>
 et f c λH=>
 jt H (.i .i64 (.ofNat 0)) λe=>
 eI e true (λk=>k f s) s λI s=>
 eI e true (λk=>k c s) s λJ s=>
 eI e true (λk=>et I J λd=>k d s) s λK s=>
 eI e true (λk=>k g s) s λM s=>
 eI e true (λk=>ek M s k) s λN s=>
 eI e true (λk=>fN K N λd=>k d s) s λO s=>
 fX e O (.b false) s λP s=>
 eQ P
(eS 3 s h λS s=>
 eK 3 s l c λU s=>
 eS 3 s U λV s=>
 et f c λW=>
 eK 3 s g W λX s=>
 eS 3 s X λY s=>
 eR (gh φ) [V,Y] s λZ s=>
 eR (iw φ) [S,Z] s λbb s=>
 eU 3 s h bb λ_ s=>
 p l g m f h o c s)
(p l g m f h o c s))
(eS 3 s h λbc s=>
 jY 1 [(.b false),(.n 0),(.n 0)] [(0,3,bc)] s λbd s=>
 mF 3 40 s m bd λbf s=>
 ee f (.i .i64 (.ofNat 1)) λbg=>
 u l g bf bg s))
def la(φ:Nat)(h:D→D→D→D→LS→Rs)(c d e f:D)(s:LS):Rs:=(
 ek c s λk s=>
 ek d s λl s=>
 ee k l λm=>
 et m (.i .i64 (.ofNat 1)) λo=>
 fN f o λp=>
 eQ p
(eR (fb φ) [(.i .i64 (.ofNat 0))] s λu s=>
 fq [(.b false),(.n 0),(.n 0)] s λg s=>
 eU 3 s g u λ_ s=>
 ek c s λv s=>
 lp (λ(_ _ _ _ _ _ _:D)(_:LS)=>none) (fg φ h) φ c d e f g v (.i .i64 (.ofNat 0)) s)
(eR (fY φ) [e] s λw s=>
 eX false s w some))
def nT(φ:Nat):List D→Option D:=
λas=>
(λ(s:LS)=>
 u1 as λb c=>
 u1 c λd e=>
 u0 e (
 lp (λ(_ _ _ _:D)(_:LS)=>none) (la φ) φ b d (.tree [] 0 true) (.i .i64 (.ofNat 0)) s)) s0
def nY(φ:Nat):List D→Option D:=
λas=>
(λ(s:LS)=>
 u1 as λd e=>
 u1 e λf g=>
 u0 g (
 ic d s λh s=>
 ic f s λi s=>
 fq [(.b false),(.n 0),(.n 0)] s λc s=>
 eS 3 s h λk s=>
 eS 3 s i λl s=>
 eR (ir φ) [l] s λm s=>
 eR (gh φ) [k,m] s λo s=>
 eU 3 s c o λ_ s=>
 eS 3 s c λp _=>
 eX false s p some)) s0
def kU(φ:Nat)(k:D→D→D→D→D→LS→Rs)(d e f g c:D)(s:LS):Rs:=(
 fN c g λl=>
 eQ l
(eK 3 s f c λm s=>
 eS 3 s m λo s=>
 fq [(.b false),(.n 0),(.n 0)] s λh s=>
 eU 3 s h o λ_ s=>
 eS 3 s h λp s=>
 eS 3 s d λu s=>
 eR (gh φ) [p,u] s λv s=>
 jY 1 [(.b false),(.n 0),(.n 0)] [(0,3,v)] s λw s=>
 mF 3 40 s e w λy s=>
 ee c (.i .i64 (.ofNat 1)) λz=>
 k d y f g z s)
(eR (fY φ) [e] s λA s=>
 eX true s A some))
def mM(φ:Nat):List D→Option D:=
λas=>
(λ(s:LS)=>
 u1 as λb c=>
 u1 c λd e=>
 u0 e (
 ic d s λf s=>
 ek b s λg s=>
 lp (λ(_ _ _ _ _:D)(_:LS)=>none) (kU φ) φ f (.tree [] 0 true) b g (.i .i64 (.ofNat 0)) s)) s0
def mC(φ:Nat):List D→Option D:=
λas=>
(λ(s:LS)=>
 u1 as λb c=>
 u1 c λd e=>
 u0 e (
 eR (fb φ) [(.i .i64 (.negSucc 0))] s λf s=>
 eR (mM φ) [d,f] s λg s=>
 eR (mD φ) [b,g] s λh s=>
 eX false s h some)) s0
def kG(φ:Nat)(f:D→D→D→LS→Rs)(b d c:D)(s:LS):Rs:=(
 ek c s λg s=>
 ek b s λh s=>
 jt g h λi=>
 eQ i
(eR (jv φ) [c] s λk s=>
 eR (jv φ) [b] s λl s=>
 eR (nY φ) [k,l] s λm s=>
 ek c s λn s=>
 ek b s λo s=>
 et n o λp=>
 eR (kV φ) [m,p] s λe s=>
 eR (mD φ) [d,e] s λu s=>
 eR (nT φ) [e,b] s λv s=>
 eR (mC φ) [c,v] s λw s=>
 f b u w s)
(eX false s (.tup [d,c]) some))
def lb(φ:Nat):List D→Option D:=
λas=>
(λ(s:LS)=>
 u1 as λb c=>
 u1 c λd e=>
 u0 e (
 eR (fY φ) [b] s λf s=>
 lp (λ(_ _ _:D)(_:LS)=>none) (kG φ) φ d (.tree [] 0 true) f s)) s0
def nU(φ:Nat):List D→Option D:=
λas=>
(λ(s:LS)=>
 u1 as λc d=>
 u1 d λe f=>
 u0 f (
 eR (lb φ) [c,e] s λb s=>
 gD b 0 s λh s=>
 gD b 1 s λg s=>
 eX false s g some)) s0
def jI(φ:Nat):List D→Option D:=
λas=>
(λ(s:LS)=>
 u1 as λb c=>
 u1 c λd e=>
 u0 e (
 ic b s λf s=>
 eW 0 s f λg s=>
 eJ s g λh s=>
 eR (nU φ) [d,h] s λi s=>
 eX false s i some)) s0
def kT(φ:Nat):List D→Option D:=
λas=>
(λ(s:LS)=>
 u1 as λb c=>
 u1 c λd e=>
 u1 e λf g=>
 u0 g (
 ic b s λh s=>
 eS 1 s h λi s=>
 eR (nT φ) [d,f] s λk s=>
 eR (jI φ) [i,k] s λl s=>
 eX false s l some)) s0
def jH(φ:Nat)(o:D→D→D→D→D→D→D→LS→Rs)(p:D→D→D→D→D→D→D→D→D→D→D→LS→Rs)(d b e f g h k l m n c:D)(s:LS):Rs:=(
 fN c n λu=>
 eQ u
(eK 1 s m c λv s=>
 eJ s v λw s=>
 eS 1 s b λy s=>
 eR (kT φ) [y,g,w] s λz s=>
 jY 1 [(.tree [] 0 true)] [(0,1,z)] s λA s=>
 mF 1 24 s f A λB s=>
 ee c (.i .i64 (.ofNat 1)) λC=>
 p d b e B g h k l m n C s)
(ee l (.i .i64 (.ofNat 1)) λE=>
 o d b e f h k E s))
def iJ(φ:Nat)(k:D→D→D→D→LS→Rs)(l:D→D→D→D→D→D→D→LS→Rs)(b c e f g h d:D)(s:LS):Rs:=(
 fN d h λm=>
 eQ m
(eK 1 s g d λn s=>
 eJ s n λo s=>
 ek b s λp s=>
 lp (λ(_ _ _ _ _ _ _ _ _ _ _:D)(_:LS)=>none) (jH φ l) φ b c e f o g h d b p (.i .i64 (.ofNat 0)) s)
(eS 1 s c λu s=>
 eR (iY φ) [u,f] s λv s=>
 ee e (.i .i64 (.ofNat 1)) λw=>
 k b c v w s))
def iI(φ:Nat)(e:D→D→D→D→LS→Rs)(f c b d:D)(s:LS):Rs:=(
 eS 1 s c λg s=>
 eR (fZ φ) [g] s λh s=>
 ut d h λk=>
 eQ k
(jY 0 [(.tree [] 0 true)] [] s λl s=>
 mF 1 24 s l b λm s=>
 ek b s λn s=>
 lp (λ(_ _ _ _ _ _ _:D)(_:LS)=>none) (iJ φ e) φ f c d m b n (.i .i64 (.ofNat 0)) s)
(eX false s b some))
def iK(φ:Nat):List D→Option D:=
λas=>
(λ(s:LS)=>
 u1 as λc d=>
 u1 d λe f=>
 u0 f (
 ic c s λb s=>
 eS 1 s b λg s=>
 eS 1 s b λh s=>
 jY 1 [(.i .i64 (.ofNat 0))] [(0,1,(.i .i64 (.ofNat 1)))] s λk s=>
 eR (oZ φ) [k] s λl s=>
 eR (jI φ) [h,l] s λm s=>
 jY 1 [(.tree [] 0 true)] [(0,1,m)] s λn s=>
 eR (iY φ) [g,n] s λo s=>
 lp (λ(_ _ _ _:D)(_:LS)=>none) (iI φ) φ e b o (.i .i64 (.ofNat 0)) s)) s0
def nR(φ:Nat):List D→Option D:=
λas=>
(λ(s:LS)=>
 u1 as λb c=>
 u0 c (
 wg false s b λd s=>
 eQ d
(eX true s (.tree [] 0 true) some)
(jY 0 [(.tree [] 0 true)] [] s λe s=>
 mF 1 24 s e b λf s=>
 eX true s f some))) s0
def rn(φ:Nat):List D→Option D:=
λas=>
(λ(s:LS)=>
 u1 as λb c=>
 u0 c (
 wg false s b λd s=>
 eQ d
(eX true s (.tree [] 0 true) some)
(jY 0 [(.i .i64 (.ofNat 0))] [] s λe s=>
 mF 1 8 s e b λf s=>
 eX true s f some))) s0
def nQ(φ:Nat):List D→Option D:=
λas=>
(λ(s:LS)=>
 u1 as λc d=>
 u0 d (
 wg false s c λe s=>
 eQ e
(eX true s (.tree [] 0 true) some)
(jY 0 [(.b false),(.n 0)] [] s λf s=>
 mF 2 24 s f c λg s=>
 eX true s g some))) s0
end
end Go.Proofs.YthljpappkomocaaGreat
