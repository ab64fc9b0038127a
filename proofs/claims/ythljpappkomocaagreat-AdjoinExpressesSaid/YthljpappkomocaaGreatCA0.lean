/- Residuals of functions, printed by a program. -/
import Derived.Test.YthljpappkomocaaGreatB0
import Derived.Test.YthljpappkomocaaGreatD0
set_option linter.all false
set_option maxRecDepth 1000000
set_option maxHeartbeats 0
namespace Go.Proofs.YthljpappkomocaaGreat
open Ev
noncomputable section
def TD0(φ:Nat):pe:=λ_=>none
def jG(φ:Nat):List D→Option D:=
λas=>
(λ(s:LS)=>
 u1 as λd e=>
 u0 e (
 jM d s λf s=>
 gG [(.b false),(.n 0),(.n 0)] s λc s=>
 eT 2 s f λg s=>
 kw [(.b false),(.n 0),(.n 0)] [(0,2,g),(2,1,(.n 1))] s λh s=>
 eU 3 s c h λ_ s=>
 eT 3 s c λi _=>
 eW false s i some)) s0
def iH(φ:Nat):List D→Option D:=
λas=>
(λ(s:LS)=>
 u1 as λc g=>
 u1 g λe h=>
 u0 h (
 gG [(.b false),(.n 0)] s λf s=>
 eI c true (λk=>k e s) s λi s=>
 eI c true (λk=>nC i (.n 0) λd=>k d s) s λl s=>
 fY c l (.b false) s λm s=>
 kw [(.b false),(.n 0)] [(0,1,m),(1,1,e)] s λo s=>
 eU 2 s f o λ_ s=>
 eT 2 s f λp _=>
 eW false s p some)) s0
def iP(φ:Nat)(n:D→D→D→LS→Rs)(o:D→D→D→D→LS→Rs)(c e f g:D)(s:LS):Rs:=(
 kI g (.i .i64 (.ofNat 0)) λp=>
 eQ p
(jn (λ(u v w y:D)(s:LS)=>
 fA y (.i .i64 (.ofNat 8)) λz=>
 o u v w z s) λl=>
 eJ 1 s c f λA s=>
 eK s A λB s=>
 pG B g λC=>
 lr .u8 C s λm s=>
 ek e s λE s=>
 kv E (.i .i64 (.ofNat 0)) λh=>
 eI h false (λk=>k m s) s λF s=>
 eI h false (λk=>kv F (.i .u8 (.ofNat 0)) λd=>k d s) s λG s=>
 fY h (.b true) G s λH s=>
 eQ H
(ie 1 [(.i .u8 (.ofNat 0))] [(0,1,m)] s λI s=>
 kJ 1 1 s e I λJ s=>
 l c J f g s)
(l c e f g s))
(fA f (.i .i64 (.ofNat 1)) λK=>
 n c e K s))
def kD(φ:Nat)(e:D→D→D→LS→Rs)(f b d:D)(s:LS):Rs:=(
 kI d (.i .i64 (.ofNat 0)) λg=>
 eQ g
(lp (λ(_ _ _ _:D)(_:LS)=>none) (iP φ e) φ f b d (.i .i64 (.ofNat 24)) s)
(kS (.b2s (.c b)) s λh s=>
 eW false s h some))
def pS(φ:Nat):List D→Option D:=
λas=>
(λ(s:LS)=>
 u1 as λb c=>
 u0 c (
 ek b s λd s=>
 fA d (.i .i64 (.ofNat 1)) λe=>
 lp (λ(_ _ _:D)(_:LS)=>none) (kD φ) φ b (.tree [] 0 true) e s)) s0
def tC(φ:Nat)(kk:D→LS→Rs)(f:D→LS→Rs)(e:D)(s:LS):Rs:=(
 ek e s λg s=>
 kv g (.i .i64 (.ofNat 0)) λc=>
 eI c true (λk=>k e s) s λh s=>
 eI c true (λk=>k e s) s λl s=>
 eI c true (λk=>ek l s k) s λm s=>
 eI c true (λk=>fA m (.i .i64 (.ofNat 1)) λd=>k d s) s λn s=>
 eI c true (λk=>eJ 1 s h n k) s λo s=>
 eI c true (λk=>eK s o k) s λp s=>
 eI c true (λk=>iB p (.i .u64 (.ofNat 0)) λd=>k d s) s λu s=>
 fY c u (.b false) s λv s=>
 eQ v
(ek e s λw s=>
 fA w (.i .i64 (.ofNat 1)) λy=>
 kn 1 s e none (some y) none λz s=>
 f z s)
(kk e s))
def kT(φ:Nat):List D→LS→(D→LS→Rs)→Rs:=
λas s kk=>
 u1 as λb c=>
 u0 c (
 lp (λ(_:D)(_:LS)=>none) (tC φ kk) φ b s)
def s9(φ:Nat)(h:D→D→D→LS→Rs)(k:D→D→D→D→D→LS→Rs)(b f d g e:D)(s:LS):Rs:=(
 fN e d λl=>
 eQ l
(lW g (.i .u64 (.ofNat 256)) λm=>
 kS (.index (.c b) (.c e)) s λn s=>
 lr .u64 n s λo s=>
 eZ m o λp=>
 eZ e (.i .i64 (.ofNat 1)) λu=>
 k b f d p u s)
(ie 1 [(.i .u64 (.ofNat 0))] [(0,1,g)] s λv s=>
 kJ 1 8 s f v λw s=>
 fA d (.i .i64 (.ofNat 4)) λy=>
 h b w y s))
def ir(φ:Nat)(e:D→D→D→LS→Rs)(f d b:D)(s:LS):Rs:=(
 kv b (.i .i64 (.ofNat 0)) λg=>
 eQ g
(fA b (.i .i64 (.ofNat 4)) λh=>
 kS (.max (.c (.i .i64 (.ofNat 0))) (.c h)) s λk s=>
 lp (λ(_ _ _ _ _:D)(_:LS)=>none) (s9 φ e) φ f d b (.i .u64 (.ofNat 0)) k s)
((kT φ) [d] s λl s=>
 eW true s l some))
def o8(φ:Nat):List D→Option D:=
λas=>
(λ(s:LS)=>
 u1 as λb d=>
 u0 d (
 kS (.lens (.c b)) s λe s=>
 lp (λ(_ _ _:D)(_:LS)=>none) (ir φ) φ b (.tree [] 0 true) e s)) s0
def ja(φ:Nat)(A:D→D→D→D→D→LS→Rs)(e l m n c:D)(s:LS):Rs:=(
 ek e s λB s=>
 fN c B λf=>
 eI f false (λk=>k c s) s λC s=>
 eI f false (λk=>k l s) s λE s=>
 eI f false (λk=>ek E s k) s λF s=>
 eI f false (λk=>fN C F λd=>k d s) s λG s=>
 fY f (.b true) G s λo s=>
 eI o false (λk=>k n s) s λH s=>
 eI o false (λk=>kv H (.i .u64 (.ofNat 0)) λd=>k d s) s λI s=>
 fY o (.b true) I s λJ s=>
 eQ J
(jn (λ(p g u h v:D)(s:LS)=>
 jn (λ(K M N O w:D)(s:LS)=>
 v7 w (.i .u64 (.ofNat 4294967295)) λP=>
 ie 1 [(.i .u64 (.ofNat 0))] [(0,1,P)] s λS s=>
 kJ 1 8 s N S λU s=>
 pG w (.i .u64 (.ofNat 32)) λV=>
 eZ O (.i .i64 (.ofNat 1)) λW=>
 A K M U V W s) λy=>
 ek g s λX s=>
 fN h X λY=>
 eQ Y
(eJ 1 s g h λZ s=>
 eK s Z λbb s=>
 eZ v bb λbc=>
 y p g u h bc s)
(y p g u h v s)) λz=>
 ek e s λbd s=>
 fN c bd λbf=>
 eQ bf
(eJ 1 s e c λbg s=>
 eK s bg λbh s=>
 eZ n bh λbi=>
 z e l m c bi s)
(z e l m c n s))
(eS rf [m] s λbk s=>
 eW false s bk some))
def qC(φ:Nat):List D→Option D:=
λas=>
(λ(s:LS)=>
 u1 as λb c=>
 u1 c λd e=>
 u0 e (
 eS qN [b] s λf s=>
 eS qN [d] s λg s=>
 lp (λ(_ _ _ _ _:D)(_:LS)=>none) (ja φ) φ f g (.tree [] 0 true) (.i .u64 (.ofNat 0)) (.i .i64 (.ofNat 0)) s)) s0
def wn(φ:Nat):List D→Option D:=
λas=>
(λ(s:LS)=>
 u1 as λf l=>
 u1 l λg m=>
 u0 m (
 kS (.lens (.c f)) s λn s=>
 kS (.lens (.c g)) s λo s=>
 fN n o λe=>
 eI e false (λk=>k f s) s λp s=>
 eI e false (λk=>kS (.lens (.c p)) s k) s λu s=>
 eI e false (λk=>k g s) s λv s=>
 eI e false (λk=>kS (.lens (.c v)) s k) s λw s=>
 eI e false (λk=>iB u w λd=>k d s) s λy s=>
 eI e false (λk=>k y s) s λh s=>
 eI h true (λk=>k f s) s λz s=>
 eI h true (λk=>k g s) s λA s=>
 eI h true (λk=>fN z A λd=>k d s) s λB s=>
 eI e false (λk=>fY h B (.b false) s k) s λC s=>
 fY e (.b true) C s λE s=>
 eQ E
(eW false s (.i .i64 (.negSucc 0)) some)
(iB f g λF=>
 eQ F
(eW false s (.i .i64 (.ofNat 0)) some)
(eW false s (.i .i64 (.ofNat 1)) some)))) s0
def hZ(φ:Nat)(p:D→D→D→D→LS→Rs)(e f l b:D)(s:LS):Rs:=(
 ek e s λu s=>
 fN b u λv=>
 eQ v
(jn (λ(c m d g:D)(s:LS)=>
 jn (λ(h w y k z:D)(s:LS)=>
 eJ 1 s h k λA s=>
 eK s A λB s=>
 fA B z λC=>
 eJ 1 s h k λE s=>
 eU 1 s E C λ_ s=>
 eZ k (.i .i64 (.ofNat 1)) λF=>
 p h w y F s) λn=>
 eJ 1 s c d λG s=>
 eK s G λH s=>
 fN H g λI=>
 eQ I
(eJ 1 s c d λJ s=>
 eK s J λK s=>
 eZ K (.i .u64 (.ofNat 4294967296)) λM=>
 eJ 1 s c d λN s=>
 eU 1 s N M λ_ s=>
 n c m (.i .u64 (.ofNat 1)) d g s)
(n c m (.i .u64 (.ofNat 0)) d g s)) λo=>
 ek f s λO s=>
 fN b O λP=>
 eQ P
(eJ 1 s f b λS s=>
 eK s S λU s=>
 eZ l U λV=>
 o e f b V s)
(o e f b l s))
(eS rf [e] s λW s=>
 eW false s W some))
def qA(φ:Nat):List D→Option D:=
λas=>
(λ(s:LS)=>
 u1 as λb d=>
 u1 d λc e=>
 u0 e (
 eS ng [b,c] s λf s=>
 fN f (.i .i64 (.ofNat 0)) λg=>
 eQ g
(eW false s (.n 0) some)
(eS qN [b] s λh s=>
 eS qN [c] s λk s=>
 lp (λ(_ _ _ _:D)(_:LS)=>none) (hZ φ) φ h k (.i .u64 (.ofNat 0)) (.i .i64 (.ofNat 0)) s))) s0
def kA(φ:Nat):List D→Option D:=
λas=>
(λ(s:LS)=>
 u1 as λf g=>
 u1 g λh k=>
 u0 k (
 jM f s λc s=>
 jM h s λd s=>
 gG [(.b false),(.n 0)] s λe s=>
 eX 0 s c λl s=>
 eK s l λm s=>
 eX 0 s d λo s=>
 eK s o λp s=>
 xP .eql m p s λu s=>
 eQ u
(eX 0 s c λv s=>
 eK s v λw s=>
 eX 1 s c λy s=>
 eK s y λz s=>
 eX 1 s d λA s=>
 eK s A λB s=>
 eS yu [z,B] s λC s=>
 eS (iH φ) [w,C] s λE s=>
 eU 2 s e E λ_ s=>
 eT 2 s e λF _=>
 eW false s F some)
(eX 1 s c λG s=>
 eK s G λH s=>
 eX 1 s d λI s=>
 eK s I λJ s=>
 eS ng [H,J] s λK s=>
 kI K (.i .i64 (.ofNat 0)) λM=>
 eQ M
(eX 0 s c λN s=>
 eK s N λO s=>
 eX 1 s c λP s=>
 eK s P λS s=>
 eX 1 s d λU s=>
 eK s U λV s=>
 eS wI [S,V] s λW s=>
 eS (iH φ) [O,W] s λX s=>
 eU 2 s e X λ_ s=>
 eT 2 s e λY _=>
 eW false s Y some)
(eX 0 s d λZ s=>
 eK s Z λbb s=>
 eX 1 s d λbc s=>
 eK s bc λbd s=>
 eX 1 s c λbf s=>
 eK s bf λbg s=>
 eS wI [bd,bg] s λbh s=>
 eS (iH φ) [bb,bh] s λbi s=>
 eU 2 s e bi λ_ s=>
 eT 2 s e λbk _=>
 eW false s bk some)))) s0
def mP(φ:Nat)(k:D→D→D→D→LS→Rs)(l:D→D→D→D→D→D→LS→Rs)(f c d b g e:D)(s:LS):Rs:=(
 ek c s λm s=>
 fN e m λn=>
 eQ n
(eZ b e λo=>
 eJ 1 s d o λp s=>
 eK s p λu s=>
 eJ 1 s f b λv s=>
 eK s v λw s=>
 eJ 1 s c e λy s=>
 eK s y λz s=>
 lW w z λA=>
 eZ u A λB=>
 eZ B g λh=>
 eZ b e λC=>
 v7 h (.i .u64 (.ofNat 4294967295)) λE=>
 eJ 1 s d C λF s=>
 eU 1 s F E λ_ s=>
 pG h (.i .u64 (.ofNat 32)) λG=>
 eZ e (.i .i64 (.ofNat 1)) λH=>
 l f c d b G H s)
(ek c s λI s=>
 eZ b I λJ=>
 eJ 1 s d J λK s=>
 eU 1 s K g λ_ s=>
 eZ b (.i .i64 (.ofNat 1)) λM=>
 k f c d M s))
def j7(φ:Nat)(e:D→D→D→D→LS→Rs)(b f c d:D)(s:LS):Rs:=(
 ek b s λg s=>
 fN d g λh=>
 eQ h
(lp (λ(_ _ _ _ _ _:D)(_:LS)=>none) (mP φ e) φ b f c d (.i .u64 (.ofNat 0)) (.i .i64 (.ofNat 0)) s)
(eS rf [c] s λk s=>
 eW false s k some))
def qB(φ:Nat):List D→Option D:=
λas=>
(λ(s:LS)=>
 u1 as λe f=>
 u1 f λg h=>
 u0 h (
 eS qN [e] s λb s=>
 eS qN [g] s λc s=>
 ek b s λk s=>
 ek c s λl s=>
 eZ k l λd=>
 ku 1 8 [(.i .u64 (.ofNat 0))] s d d λm s=>
 lp (λ(_ _ _ _:D)(_:LS)=>none) (j7 φ) φ b c m (.i .i64 (.ofNat 0)) s)) s0
def gi(φ:Nat):List D→Option D:=
λas=>
(λ(s:LS)=>
 u1 as λf g=>
 u1 g λh i=>
 u0 i (
 jM f s λc s=>
 jM h s λd s=>
 gG [(.b false),(.n 0)] s λe s=>
 eX 0 s c λk s=>
 eK s k λl s=>
 eX 0 s d λm s=>
 eK s m λo s=>
 xP .neq l o s λp s=>
 eX 1 s c λu s=>
 eK s u λv s=>
 eX 1 s d λw s=>
 eK s w λy s=>
 eS y5 [v,y] s λz s=>
 eS (iH φ) [p,z] s λA s=>
 eU 2 s e A λ_ s=>
 eT 2 s e λB _=>
 eW false s B some)) s0
def fW(φ:Nat):List D→Option D:=
λas=>
(λ(s:LS)=>
 u1 as λd e=>
 u0 e (
 jM d s λf s=>
 gG [(.b false),(.n 0)] s λc s=>
 eX 2 s f λg s=>
 eK s g λh s=>
 kw [(.b false),(.n 0)] [(1,1,h)] s λi s=>
 eU 2 s c i λ_ s=>
 eT 2 s c λk _=>
 eW false s k some)) s0
def pT(φ:Nat)(f:D→D→D→LS→Rs)(d e c:D)(s:LS):Rs:=(
 kI c (.i .i64 (.ofNat 0)) λg=>
 eQ g
(eJ 1 s d c λh s=>
 eK s h λk s=>
 eJ 1 s e c λl s=>
 eK s l λm s=>
 nC k m λn=>
 eQ n
(eJ 1 s d c λo s=>
 eK s o λp s=>
 eJ 1 s e c λu s=>
 eK s u λv s=>
 fN p v λw=>
 eW false s w some)
(fA c (.i .i64 (.ofNat 1)) λy=>
 f d e y s))
(eW false s (.b false) some))
def o9(φ:Nat):List D→Option D:=
λas=>
(λ(s:LS)=>
 u1 as λd e=>
 u1 e λc f=>
 u0 f (
(kT φ) [d] s λb s=>
 ek b s λg s=>
 ek c s λh s=>
 nC g h λk=>
 eQ k
(ek b s λl s=>
 ek c s λm s=>
 fN l m λn=>
 eW false s n some)
(ek b s λo s=>
 fA o (.i .i64 (.ofNat 1)) λp=>
 lp (λ(_ _ _:D)(_:LS)=>none) (pT φ) φ b c p s))) s0
def gm(φ:Nat)(v:D→D→D→D→D→LS→Rs)(w:D→D→D→D→D→D→D→D→LS→Rs)(f e b h c k o d:D)(s:LS):Rs:=(
 fN d e λy=>
 eQ y
(eJ 1 s f d λz s=>
 eK s z λA s=>
 lW A k λB=>
 eZ B o λg=>
 pG g (.i .u64 (.ofNat 32)) λp=>
 jn (λ(C E l F m G H n I:D)(s:LS)=>
 eZ m n λJ=>
 eZ m n λK=>
 eJ 1 s l K λM s=>
 eK s M λN s=>
 v7 I (.i .u64 (.ofNat 4294967295)) λO=>
 fA N O λP=>
 eJ 1 s l J λS s=>
 eU 1 s S P λ_ s=>
 eZ n (.i .i64 (.ofNat 1)) λU=>
 w C E l F m G H U s) λu=>
 eZ c d λV=>
 eJ 1 s b V λW s=>
 eK s W λX s=>
 v7 g (.i .u64 (.ofNat 4294967295)) λY=>
 fN X Y λZ=>
 eQ Z
(eZ c d λbb=>
 eZ c d λbc=>
 eJ 1 s b bc λbd s=>
 eK s bd λbf s=>
 eZ bf (.i .u64 (.ofNat 4294967296)) λbg=>
 eJ 1 s b bb λbh s=>
 eU 1 s bh bg λ_ s=>
 eZ p (.i .u64 (.ofNat 1)) λbi=>
 u f e b h c k bi d g s)
(u f e b h c k p d g s))
(eZ c e λbk=>
 eZ c e λbl=>
 eJ 1 s b bl λbm s=>
 eK s bm λbn s=>
 fA bn o λbo=>
 eJ 1 s b bk λbp s=>
 eU 1 s bp bo λ_ s=>
 v f e b h c s))
def jS(φ:Nat)(k:D→D→D→D→D→LS→Rs)(l:D→D→D→D→D→LS→Rs)(f d e g b:D)(s:LS):Rs:=(
 kn 1 s e (some b) none none λm s=>
 eS uD [m,f] s λn s=>
 qP n s λo s=>
 eQ o
(eZ b d λp=>
 eJ 1 s e p λu s=>
 eK s u λv s=>
 wR v (.i .u64 (.ofNat 32)) λw=>
 eZ b d λy=>
 fA y (.i .i64 (.ofNat 1)) λz=>
 eJ 1 s e z λA s=>
 eK s A λB s=>
 eZ w B λC=>
 fA d (.i .i64 (.ofNat 1)) λE=>
 eJ 1 s f E λF s=>
 eK s F λG s=>
 eZ G (.i .u64 (.ofNat 1)) λH=>
 vH C H λI=>
 kS (.max (.c (.i .u64 (.ofNat 1))) (.c I)) s λh s=>
 eJ 1 s g b λJ s=>
 eK s J λK s=>
 eZ K h λM=>
 eJ 1 s g b λN s=>
 eU 1 s N M λ_ s=>
 lp (λ(_ _ _ _ _ _ _ _:D)(_:LS)=>none) (gm φ l) φ f d e g b h (.i .u64 (.ofNat 0)) (.i .i64 (.ofNat 0)) s)
(fA b (.i .i64 (.ofNat 1)) λO=>
 k f d e g O s))
def gC(φ:Nat)(e:D→D→D→D→D→LS→Rs)(f g b c d:D)(s:LS):Rs:=(
 kI d (.i .i64 (.ofNat 0)) λh=>
 eQ h
(lp (λ(_ _ _ _ _:D)(_:LS)=>none) (jS φ e) φ f g b c d s)
(eS rf [c] s λk s=>
 eS rf [b] s λl s=>
 eW false s (.tup [k,l]) some))
def oM(φ:Nat):List D→Option D:=
λas=>
(λ(s:LS)=>
 u1 as λk l=>
 u1 l λb m=>
 u0 m (
 iB b (.n 0) λo=>
 eQ o
(eW false s (.tup [(.n 0),(.n 0)]) some)
(eS qN [k] s λd s=>
 eS qN [b] s λe s=>
 ek e s λf s=>
 ie 1 [(.i .u64 (.ofNat 0))] [(0,1,(.i .u64 (.ofNat 0)))] s λp s=>
 kJ 1 8 s d p λu s=>
 ek d s λv s=>
 fA v f λw=>
 eZ w (.i .i64 (.ofNat 1)) λy=>
 kS (.max (.c (.i .i64 (.ofNat 0))) (.c y)) s λg s=>
 ku 1 8 [(.i .u64 (.ofNat 0))] s g g λh s=>
 ek h s λz s=>
 fA z (.i .i64 (.ofNat 1)) λA=>
 lp (λ(_ _ _ _ _:D)(_:LS)=>none) (gC φ) φ e f u h A s))) s0
def uJ(φ:Nat)(e:D→D→LS→Rs)(c b:D)(s:LS):Rs:=(
 nC b (.n 0) λf=>
 eQ f
(eS oq [c,b] s λd s=>
 fh d 0 s λh s=>
 fh d 1 s λg s=>
 e b g s)
(eW false s c some))
def sd(φ:Nat):List D→Option D:=
λas=>
(λ(s:LS)=>
 u1 as λb c=>
 u1 c λd e=>
 u0 e (
 lp (λ(_ _:D)(_:LS)=>none) (uJ φ) φ b d s)) s0
def mC(φ:Nat):List D→Option D:=
λas=>
(λ(s:LS)=>
 u1 as λi k=>
 u1 k λl m=>
 u0 m (
 jM i s λe s=>
 jM l s λc s=>
 gG [(.b false),(.n 0),(.n 0)] s λd s=>
 eX 1 s c λo s=>
 eK s o λp s=>
 iB p (.n 0) λu=>
 eQ u
(kw [(.b false),(.n 0),(.n 0)] [(2,1,(.n 1))] s λv s=>
 eU 3 s d v λ_ s=>
 eT 3 s d λw _=>
 eW false s w some)
(eX 1 s e λy s=>
 eK s y λz s=>
 eX 1 s c λA s=>
 eK s A λB s=>
 eS wW [z,B] s λf s=>
 eX 1 s e λC s=>
 eK s C λE s=>
 eS oq [E,f] s λg s=>
 fh g 0 s λF s=>
 fh g 1 s λV s=>
 eX 1 s c λG s=>
 eK s G λH s=>
 eS oq [H,f] s λh s=>
 fh h 0 s λI s=>
 fh h 1 s λW s=>
 eX 0 s e λJ s=>
 eK s J λK s=>
 eX 0 s c λM s=>
 eK s M λN s=>
 xP .neq K N s λO s=>
 eS (iH φ) [O,F] s λP s=>
 kw [(.b false),(.n 0),(.n 0)] [(0,2,P),(2,1,I)] s λS s=>
 eU 3 s d S λ_ s=>
 eT 3 s d λU _=>
 eW false s U some))) s0
def jP(φ:Nat):List D→Option D:=
λas=>
(λ(s:LS)=>
 u1 as λi l=>
 u1 l λm o=>
 u0 o (
 jM i s λc s=>
 jM m s λe s=>
 gG [(.b false),(.n 0),(.n 0)] s λf s=>
 eX 2 s c λp s=>
 eK s p λu s=>
 iB u (.n 1) λg=>
 eI g true (λk=>eX 2 s e k) s λv s=>
 eI g true (λk=>eK s v k) s λw s=>
 eI g true (λk=>iB w (.n 1) λd=>k d s) s λy s=>
 fY g y (.b false) s λz s=>
 eQ z
(eX 0 s c λA s=>
 eT 2 s A λB s=>
 eX 0 s e λC s=>
 eT 2 s C λE s=>
 eS (kA φ) [B,E] s λF s=>
 eS (jG φ) [F] s λG s=>
 eU 3 s f G λ_ s=>
 eT 3 s f λH _=>
 eW false s H some)
(eX 0 s c λI s=>
 eT 2 s I λJ s=>
 eT 3 s e λK s=>
 eS (fW φ) [K] s λM s=>
 eS (gi φ) [J,M] s λN s=>
 eX 0 s e λO s=>
 eT 2 s O λP s=>
 eT 3 s c λS s=>
 eS (fW φ) [S] s λU s=>
 eS (gi φ) [P,U] s λV s=>
 eS (kA φ) [N,V] s λW s=>
 gG [(.b false),(.n 0)] s λh s=>
 eU 2 s h W λ_ s=>
 eT 2 s h λX s=>
 eT 3 s c λY s=>
 eS (fW φ) [Y] s λZ s=>
 eT 3 s e λbb s=>
 eS (fW φ) [bb] s λbc s=>
 eS (gi φ) [Z,bc] s λbd s=>
 eS (mC φ) [X,bd] s λbf s=>
 eU 3 s f bf λ_ s=>
 eT 3 s f λbg _=>
 eW false s bg some))) s0
def qe(φ:Nat):List D→Option D:=
λas=>
(λ(s:LS)=>
 u1 as λb c=>
 u0 c (
 v7 b (.i .u64 (.ofNat 4294967295)) λd=>
 pG b (.i .u64 (.ofNat 32)) λe=>
 ie 2 [(.i .u64 (.ofNat 0))] [(0,1,d),(1,1,e)] s λf s=>
 eS rf [f] s λg s=>
 eW false s g some)) s0
def pq(φ:Nat):List D→Option D:=
λas=>
(λ(s:LS)=>
 u1 as λe f=>
 u0 f (
 gG [(.b false),(.n 0)] s λd s=>
 fN e (.i .i64 (.ofNat 0)) λg=>
 eQ g
(eZ e (.i .i64 (.ofNat 1)) λh=>
 kS (.neg (.c h)) s λk s=>
 lr .u64 k s λl s=>
 eZ l (.i .u64 (.ofNat 1)) λm=>
 eS (qe φ) [m] s λo s=>
 kw [(.b false),(.n 0)] [(0,1,(.b true)),(1,1,o)] s λp s=>
 eU 2 s d p λ_ s=>
 eT 2 s d λu _=>
 eW false s u some)
(lr .u64 e s λv s=>
 eS (qe φ) [v] s λw s=>
 kw [(.b false),(.n 0)] [(1,1,w)] s λy s=>
 eU 2 s d y λ_ s=>
 eT 2 s d λz _=>
 eW false s z some))) s0
def fK(φ:Nat):List D→Option D:=
λas=>
(λ(s:LS)=>
 u1 as λd e=>
 u0 e (
 gG [(.b false),(.n 0),(.n 0)] s λc s=>
 eS (pq φ) [d] s λf s=>
 kw [(.b false),(.n 0),(.n 0)] [(0,2,f),(2,1,(.n 1))] s λg s=>
 eU 3 s c g λ_ s=>
 eT 3 s c λh _=>
 eW false s h some)) s0
def nE(φ:Nat):List D→Option D:=
λas=>
(λ(s:LS)=>
 u1 as λd f=>
 u1 f λe g=>
 u0 g (
 gG [(.b false),(.n 0),(.n 0)] s λc s=>
 ek d s λh s=>
 fN e h λk=>
 eQ k
(eJ 3 s d e λl s=>
 eT 3 s l λm s=>
 eU 3 s c m λ_ s=>
 eT 3 s c λo _=>
 eW false s o some)
(eS (fK φ) [(.i .i64 (.ofNat 0))] s λp s=>
 eU 3 s c p λ_ s=>
 eT 3 s c λu _=>
 eW false s u some))) s0
def nO(φ:Nat):List D→Option D:=
λas=>
(λ(s:LS)=>
 u1 as λc d=>
 u0 d (
 jM c s λb s=>
 eX 0 s b λe s=>
 eK s e λf s=>
 eQ f
(eW false s (.i .i64 (.negSucc 0)) some)
(eX 1 s b λg s=>
 eK s g λh s=>
 iB h (.n 0) λk=>
 eQ k
(eW false s (.i .i64 (.ofNat 0)) some)
(eW false s (.i .i64 (.ofNat 1)) some)))) s0
def iq(φ:Nat):List D→Option D:=
λas=>
(λ(s:LS)=>
 u1 as λb c=>
 u0 c (
 jM b s λd s=>
 eX 0 s d λe s=>
 eT 2 s e λf s=>
 eS (nO φ) [f] s λg s=>
 eW false s g some)) s0
def l9(φ:Nat)(g:D→D→LS→Rs)(f e:D)(s:LS):Rs:=(
 kv e (.i .i64 (.ofNat 0)) λc=>
 eI c true (λk=>k f s) s λh s=>
 eI c true (λk=>k e s) s λl s=>
 eI c true (λk=>fA l (.i .i64 (.ofNat 1)) λd=>k d s) s λm s=>
 eI c true (λk=>eJ 3 s h m k) s λo s=>
 eI c true (λk=>eT 3 s o k) s λp s=>
 eI c true (λk=>eS (iq φ) [p] s k) s λu s=>
 eI c true (λk=>iB u (.i .i64 (.ofNat 0)) λd=>k d s) s λv s=>
 fY c v (.b false) s λw s=>
 eQ w
(fA e (.i .i64 (.ofNat 1)) λy=>
 g f y s)
(ie 0 [(.b false),(.n 0),(.n 0)] [] s λz s=>
 kn 3 s f none (some e) none λA s=>
 kJ 3 40 s z A λB s=>
 eW true s B some))
def fU(φ:Nat):List D→Option D:=
λas=>
(λ(s:LS)=>
 u1 as λb c=>
 u0 c (
 ek b s λd s=>
 lp (λ(_ _:D)(_:LS)=>none) (l9 φ) φ b d s)) s0
def mN(φ:Nat)(h:D→D→D→D→LS→Rs)(e f g d:D)(s:LS):Rs:=(
 ek e s λk s=>
 ek f s λl s=>
 kS (.max (.c k) (.c l)) s λm s=>
 fN d m λo=>
 eQ o
(eS (nE φ) [e,d] s λp s=>
 eS (nE φ) [f,d] s λu s=>
 eS (jP φ) [p,u] s λv s=>
 ie 1 [(.b false),(.n 0),(.n 0)] [(0,3,v)] s λw s=>
 kJ 3 40 s g w λy s=>
 eZ d (.i .i64 (.ofNat 1)) λz=>
 h e f y z s)
(eS (fU φ) [g] s λA s=>
 eW false s A some))
def mf(φ:Nat):List D→Option D:=
λas=>
(λ(s:LS)=>
 u1 as λb c=>
 u1 c λd e=>
 u0 e (
 lp (λ(_ _ _ _:D)(_:LS)=>none) (mN φ) φ b d (.tree [] 0 true) (.i .i64 (.ofNat 0)) s)) s0
def js(φ:Nat)(g:D→D→D→D→LS→Rs)(c d e f:D)(s:LS):Rs:=(
 fN f c λh=>
 eQ h
(eS (fK φ) [(.i .i64 (.ofNat 0))] s λk s=>
 ie 1 [(.b false),(.n 0),(.n 0)] [(0,3,k)] s λl s=>
 kJ 3 40 s e l λm s=>
 eZ f (.i .i64 (.ofNat 1)) λo=>
 g c d m o s)
(eT 3 s d λp s=>
 ie 1 [(.b false),(.n 0),(.n 0)] [(0,3,p)] s λu s=>
 kJ 3 40 s e u λv s=>
 eS (fU φ) [v] s λw s=>
 eW false s w some))
def lG(φ:Nat):List D→Option D:=
λas=>
(λ(s:LS)=>
 u1 as λb c=>
 u1 c λd e=>
 u0 e (
 jM b s λf s=>
 lp (λ(_ _ _ _:D)(_:LS)=>none) (js φ) φ d f (.tree [] 0 true) (.i .i64 (.ofNat 0)) s)) s0
def yH(φ:Nat)(g:D→D→D→D→LS→Rs)(d e f c:D)(s:LS):Rs:=(
 fN c f λh=>
 eQ h
(eJ 1 s e c λk s=>
 eK s k λl s=>
 eS (fK φ) [l] s λm s=>
 ie 1 [(.b false),(.n 0),(.n 0)] [(0,3,m)] s λo s=>
 kJ 3 40 s d o λp s=>
 eZ c (.i .i64 (.ofNat 1)) λu=>
 g p e f u s)
(eS (fU φ) [d] s λv s=>
 eW false s v some))
def nF(φ:Nat):List D→Option D:=
λas=>
(λ(s:LS)=>
 u1 as λb c=>
 u0 c (
 ek b s λd s=>
 lp (λ(_ _ _ _:D)(_:LS)=>none) (yH φ) φ (.tree [] 0 true) b d (.i .i64 (.ofNat 0)) s)) s0
def lL(φ:Nat):List D→Option D:=
λas=>
(λ(s:LS)=>
 u1 as λf g=>
 u0 g (
 iB f (.n 0) λe=>
 eI e false (λk=>k f s) s λh s=>
 eI e false (λk=>kS (.index (.c h) (.c (.i .i64 (.ofNat 0)))) s k) s λl s=>
 eI e false (λk=>nC l (.i .u8 (.ofNat 0)) λd=>k d s) s λm s=>
 fY e (.b true) m s λo s=>
 eW false s o some)) s0
def mu(φ:Nat):List D→Option D:=
λas=>
(λ(s:LS)=>
 u1 as λg h=>
 u0 h (
 jM g s λf s=>
 eX 1 s f λi s=>
 eK s i λl s=>
 eS (lL φ) [l] s λc s=>
 eI c true (λk=>eX 0 s f k) s λm s=>
 eI c true (λk=>eK s m k) s λo s=>
 eI c true (λk=>qP o s k) s λp s=>
 eI c true (λk=>k p s) s λe s=>
 eI e false (λk=>eX 1 s f k) s λu s=>
 eI e false (λk=>eK s u k) s λv s=>
 eI e false (λk=>nC v (.n 0) λd=>k d s) s λw s=>
 eI c true (λk=>fY e (.b true) w s k) s λy s=>
 fY c y (.b false) s λz s=>
 eW false s z some)) s0
def mD(φ:Nat):List D→Option D:=
λas=>
(λ(s:LS)=>
 u1 as λb d=>
 u0 d (
 kS (.lens (.c b)) s λe s=>
 kv e (.i .i64 (.ofNat 1024)) λf=>
 eQ f
(eW false s (.i .i64 (.ofNat 4)) some)
(eW false s (.i .i64 (.ofNat 0)) some))) s0
def nP(φ:Nat):List D→Option D:=
λas=>
(λ(s:LS)=>
 u1 as λb c=>
 u0 c (
 jM b s λd s=>
 eX 1 s d λe s=>
 eK s e λf s=>
 eS (mD φ) [f] s λg s=>
 eW false s g some)) s0
def nN(φ:Nat):List D→Option D:=
λas=>
(λ(s:LS)=>
 u1 as λc d=>
 u0 d (
 jM c s λb s=>
 eX 0 s b λe s=>
 eT 2 s e λf s=>
 eS (nP φ) [f] s λg s=>
 nC g (.i .i64 (.ofNat 0)) λh=>
 eQ h
(eW false s (.i .i64 (.ofNat 4)) some)
(eX 2 s b λk s=>
 eK s k λl s=>
 eS (mD φ) [l] s λm s=>
 eW false s m some))) s0
def ms(φ:Nat):List D→Option D:=
λas=>
(λ(s:LS)=>
 u1 as λg h=>
 u0 h (
 jM g s λc s=>
 eX 0 s c λl s=>
 eT 2 s l λm s=>
 eS (mu φ) [m] s λo s=>
 qP o s λe s=>
 eI e false (λk=>eX 2 s c k) s λp s=>
 eI e false (λk=>eK s p k) s λu s=>
 eI e false (λk=>eS (lL φ) [u] s k) s λv s=>
 eI e false (λk=>qP v s k) s λw s=>
 fY e (.b true) w s λf s=>
 eI f false (λk=>eX 2 s c k) s λy s=>
 eI f false (λk=>eK s y k) s λz s=>
 eI f false (λk=>iB z (.n 0) λd=>k d s) s λA s=>
 fY f (.b true) A s λB s=>
 eQ B
(eW false s (.i .i64 (.ofNat 1)) some)
(eT 3 s c λC s=>
 eS (nN φ) [C] s λE s=>
 nC E (.i .i64 (.ofNat 0)) λF=>
 eQ F
(eW false s (.i .i64 (.ofNat 4)) some)
(eX 0 s c λG s=>
 eX 1 s G λH s=>
 eK s H λI s=>
 eX 2 s c λJ s=>
 eK s J λK s=>
 eS wW [I,K] s λM s=>
 nC M (.n 1) λN=>
 eQ N
(eW false s (.i .i64 (.ofNat 1)) some)
(eW false s (.i .i64 (.ofNat 0)) some))))) s0
def lH(φ:Nat)(o:D→D→D→D→LS→Rs)(e g h f:D)(s:LS):Rs:=(
 fN f h λp=>
 eQ p
(eJ 3 s g f λu s=>
 eT 3 s u λv s=>
 gG [(.b false),(.n 0),(.n 0)] s λl s=>
 eU 3 s l v λ_ s=>
 eT 3 s l λw s=>
 eS (ms φ) [w] s λm s=>
 nC m (.i .i64 (.ofNat 0)) λy=>
 eQ y
(eW false s m some)
(eZ f (.i .i64 (.ofNat 1)) λz=>
 o e g h z s))
(ek e s λA s=>
 kv A (.i .i64 (.ofNat 0)) λc=>
 eI c true (λk=>k e s) s λB s=>
 eI c true (λk=>k e s) s λC s=>
 eI c true (λk=>ek C s k) s λE s=>
 eI c true (λk=>fA E (.i .i64 (.ofNat 1)) λd=>k d s) s λF s=>
 eI c true (λk=>eJ 3 s B F k) s λG s=>
 eI c true (λk=>eT 3 s G k) s λH s=>
 eI c true (λk=>eS (iq φ) [H] s k) s λI s=>
 eI c true (λk=>iB I (.i .i64 (.ofNat 0)) λd=>k d s) s λJ s=>
 fY c J (.b false) s λK s=>
 eQ K
(eW false s (.i .i64 (.ofNat 1)) some)
(eW false s (.i .i64 (.ofNat 0)) some)))
def jx(φ:Nat):List D→Option D:=
λas=>
(λ(s:LS)=>
 u1 as λb c=>
 u0 c (
 ek b s λd s=>
 kv d (.i .i64 (.ofNat 65)) λe=>
 eQ e
(eW false s (.i .i64 (.ofNat 4)) some)
(ek b s λf s=>
 lp (λ(_ _ _ _:D)(_:LS)=>none) (lH φ) φ b b f (.i .i64 (.ofNat 0)) s))) s0
def kQ(φ:Nat):List D→Option D:=
λas=>
(λ(s:LS)=>
 u1 as λd e=>
 u0 e (
 gG [(.b false),(.n 0),(.n 0)] s λc s=>
 ek d s λf s=>
 iB f (.i .i64 (.ofNat 0)) λg=>
 eQ g
(eS (fK φ) [(.i .i64 (.ofNat 0))] s λh s=>
 eU 3 s c h λ_ s=>
 eT 3 s c λk _=>
 eW false s k some)
(ek d s λl s=>
 fA l (.i .i64 (.ofNat 1)) λm=>
 eJ 3 s d m λo s=>
 eT 3 s o λp s=>
 eU 3 s c p λ_ s=>
 eT 3 s c λu _=>
 eW false s u some))) s0
def lh(φ:Nat):List D→Option D:=
λas=>
(λ(s:LS)=>
 u1 as λb c=>
 u0 c (
 jM b s λd s=>
 eX 2 s d λe s=>
 eK s e λf s=>
 iB f (.n 1) λg=>
 eW false s g some)) s0
def fa(φ:Nat):List D→Option D:=
λas=>
(λ(s:LS)=>
 u1 as λb c=>
 u0 c (
 jM b s λd s=>
 eX 0 s d λe s=>
 eK s e λf s=>
 ek f s λg s=>
 fA g (.i .i64 (.ofNat 1)) λh=>
 eW false s h some)) s0
def l8(φ:Nat)(h:D→D→D→D→LS→Rs)(d e f c:D)(s:LS):Rs:=(
 fN c f λk=>
 eQ k
(eJ 3 s e c λl s=>
 eT 3 s l λm s=>
 gG [(.b false),(.n 0),(.n 0)] s λg s=>
 eU 3 s g m λ_ s=>
 eT 3 s g λo s=>
 eS (lh φ) [o] s λp s=>
 qP p s λu s=>
 eQ u
(eW false s (.i .i64 (.ofNat 1)) some)
(eZ c (.i .i64 (.ofNat 1)) λv=>
 h d e f v s))
(eT 1 s d λw s=>
 eS (fa φ) [w] s λy s=>
 kv y (.i .i64 (.ofNat 24)) λz=>
 eQ z
(eW false s (.i .i64 (.ofNat 4)) some)
(eW false s (.i .i64 (.ofNat 0)) some)))
def j0(φ:Nat):List D→Option D:=
λas=>
(λ(s:LS)=>
 u1 as λg h=>
 u0 h (
 jM g s λd s=>
 eX 0 s d λl s=>
 eK s l λm s=>
 eS (jx φ) [m] s λe s=>
 nC e (.i .i64 (.ofNat 0)) λn=>
 eQ n
(eW false s e some)
(eX 0 s d λo s=>
 eK s o λp s=>
 ek p s λu s=>
 fN u (.i .i64 (.ofNat 2)) λc=>
 eI c false (λk=>eX 0 s d k) s λv s=>
 eI c false (λk=>eK s v k) s λw s=>
 eI c false (λk=>eS (kQ φ) [w] s k) s λy s=>
 eI c false (λk=>eS (fK φ) [(.i .i64 (.ofNat 1))] s k) s λz s=>
 eI c false (λk=>BO true [1,2,2] y z s k) s λA s=>
 fY c (.b true) A s λB s=>
 eQ B
(eW false s (.i .i64 (.ofNat 1)) some)
(eX 0 s d λC s=>
 eK s C λf s=>
 ek f s λE s=>
 lp (λ(_ _ _ _:D)(_:LS)=>none) (l8 φ) φ d f E (.i .i64 (.ofNat 0)) s)))) s0
def mK(φ:Nat)(h:D→D→D→LS→Rs)(e f d:D)(s:LS):Rs:=(
 fN d f λk=>
 eQ k
(eJ 3 s e d λl s=>
 eT 3 s l λm s=>
 gG [(.b false),(.n 0),(.n 0)] s λg s=>
 eU 3 s g m λ_ s=>
 eX 0 s g λo s=>
 eX 1 s o λp s=>
 eK s p λu s=>
 kS (.lens (.c u)) s λv s=>
 kv v (.i .i64 (.ofNat 4)) λw=>
 eQ w
(eW false s (.b false) some)
(eZ d (.i .i64 (.ofNat 1)) λy=>
 h e f y s))
(eW false s (.b true) some))
def oE(φ:Nat):List D→Option D:=
λas=>
(λ(s:LS)=>
 u1 as λg h=>
 u1 h λl m=>
 u0 m (
 jM g s λe s=>
 eX 0 s e λn s=>
 eK s n λo s=>
 ek o s λp s=>
 eZ l (.i .i64 (.ofNat 1)) λu=>
 kv p u λc=>
 eI c false (λk=>eT 1 s e k) s λv s=>
 eI c false (λk=>eS (j0 φ) [v] s k) s λw s=>
 eI c false (λk=>nC w (.i .i64 (.ofNat 0)) λd=>k d s) s λy s=>
 fY c (.b true) y s λz s=>
 eQ z
(eW false s (.b false) some)
(eX 0 s e λA s=>
 eK s A λf s=>
 ek f s λB s=>
 lp (λ(_ _ _:D)(_:LS)=>none) (mK φ) φ f B (.i .i64 (.ofNat 0)) s))) s0
def se(φ:Nat)(f:D→D→D→LS→Rs)(c d b:D)(s:LS):Rs:=(
 fN b d λg=>
 eQ g
(eJ 1 s c b λh s=>
 eK s h λe s=>
 nC e (.i .i64 (.ofNat 0)) λk=>
 eQ k
(eW false s e some)
(eZ b (.i .i64 (.ofNat 1)) λl=>
 f c d l s))
(eW false s (.i .i64 (.ofNat 0)) some))
def lO(φ:Nat):List D→Option D:=
λas=>
(λ(s:LS)=>
 u1 as λb c=>
 u0 c (
 ek b s λd s=>
 lp (λ(_ _ _:D)(_:LS)=>none) (se φ) φ b d (.i .i64 (.ofNat 0)) s)) s0
def kY(φ:Nat)(m:D→D→D→LS→Rs)(h l f:D)(s:LS):Rs:=(
 fN f l λo=>
 eQ o
(eJ 3 s h f λp s=>
 eT 3 s p λu s=>
 gG [(.b false),(.n 0),(.n 0)] s λg s=>
 eU 3 s g u λ_ s=>
 eX 0 s g λv s=>
 eX 1 s v λw s=>
 eK s w λy s=>
 kS (.lens (.c y)) s λz s=>
 kv z (.i .i64 (.ofNat 8)) λe=>
 eI e false (λk=>eX 2 s g k) s λA s=>
 eI e false (λk=>eK s A k) s λB s=>
 eI e false (λk=>kS (.lens (.c B)) s k) s λC s=>
 eI e false (λk=>kv C (.i .i64 (.ofNat 8)) λd=>k d s) s λE s=>
 fY e (.b true) E s λF s=>
 eQ F
(eW false s (.b false) some)
(eZ f (.i .i64 (.ofNat 1)) λG=>
 m h l G s))
(eW false s (.b true) some))
def oH(φ:Nat):List D→Option D:=
λas=>
(λ(s:LS)=>
 u1 as λc f=>
 u1 f λg h=>
 u0 h (
 ek c s λl s=>
 eZ g (.i .i64 (.ofNat 1)) λm=>
 kv l m λe=>
 eI e false (λk=>k c s) s λn s=>
 eI e false (λk=>eS (jx φ) [n] s k) s λo s=>
 eI e false (λk=>nC o (.i .i64 (.ofNat 0)) λd=>k d s) s λp s=>
 fY e (.b true) p s λu s=>
 eQ u
(eW false s (.b false) some)
(ek c s λv s=>
 lp (λ(_ _ _:D)(_:LS)=>none) (kY φ) φ c v (.i .i64 (.ofNat 0)) s))) s0
def jA(φ:Nat):List D→Option D:=
λas=>
(λ(s:LS)=>
 u1 as λh l=>
 u1 l λg m=>
 u0 m (
 jM h s λf s=>
 eT 1 s f λn s=>
 eS (j0 φ) [n] s λo s=>
 iB o (.i .i64 (.ofNat 0)) λc=>
 eI c true (λk=>k g s) s λp s=>
 eI c true (λk=>ek p s k) s λu s=>
 eI c true (λk=>eT 1 s f k) s λv s=>
 eI c true (λk=>eS (fa φ) [v] s k) s λw s=>
 eI c true (λk=>wm u w λd=>k d s) s λy s=>
 fY c y (.b false) s λe s=>
 eI e true (λk=>k g s) s λz s=>
 eI e true (λk=>eT 1 s f k) s λA s=>
 eI e true (λk=>eS (fa φ) [A] s k) s λB s=>
 eI e true (λk=>eS (oH φ) [z,B] s k) s λC s=>
 fY e C (.b false) s λE s=>
 eW false s E some)) s0
def gb(φ:Nat):List D→Option D:=
λas=>
(λ(s:LS)=>
 u1 as λl m=>
 u1 m λe n=>
 u0 n (
 jM l s λf s=>
 eT 1 s f λo s=>
 eS (j0 φ) [o] s λg s=>
 nC g (.i .i64 (.ofNat 0)) λp=>
 eQ p
(eW false s g some)
(eS (jx φ) [e] s λh s=>
 iB h (.i .i64 (.ofNat 0)) λc=>
 eI c true (λk=>k e s) s λu s=>
 eI c true (λk=>ek u s k) s λv s=>
 eI c true (λk=>eT 1 s f k) s λw s=>
 eI c true (λk=>eS (fa φ) [w] s k) s λy s=>
 eI c true (λk=>kv v y λd=>k d s) s λz s=>
 fY c z (.b false) s λA s=>
 eQ A
(eW false s (.i .i64 (.ofNat 3)) some)
(eW false s h some)))) s0
def pk(φ:Nat):List D→Option D:=
λas=>
(λ(s:LS)=>
 u1 as λg h=>
 u0 h (
 jM g s λf s=>
 eX 0 s f λl s=>
 eX 1 s l λm s=>
 eK s m λn s=>
 kS (.lens (.c n)) s λo s=>
 kv o (.i .i64 (.ofNat 1024)) λe=>
 eI e false (λk=>eX 2 s f k) s λp s=>
 eI e false (λk=>eK s p k) s λu s=>
 eI e false (λk=>kS (.lens (.c u)) s k) s λv s=>
 eI e false (λk=>kv v (.i .i64 (.ofNat 1024)) λd=>k d s) s λw s=>
 fY e (.b true) w s λy s=>
 eW false s y some)) s0
def vE(φ:Nat):pe:=tF (TD0 φ) 43 (.iso (pk φ))
def pd(φ:Nat):List D→Option D:=
λas=>
(λ(s:LS)=>
 u1 as λb c=>
 u0 c (
 jM b s λd s=>
 eX 2 s d λe s=>
 eK s e λf s=>
 iB f (.n 1) λg=>
 eW false s g some)) s0
def kX(φ:Nat):List D→Option D:=
λas=>
(λ(s:LS)=>
 u1 as λb c=>
 u0 c (
 jM b s λd s=>
 eT 3 s d λe s=>
 eS (pd φ) [e] s λf s=>
 qP f s λg s=>
 eW false s g some)) s0
def jI(φ:Nat):pe:=tF (vE φ) 45 (.iso (kX φ))
def gT(φ:Nat)(kk:D→LS→Rs)(f:D→D→D→D→LS→Rs)(c d e b:D)(s:LS):Rs:=(
 fN b e λg=>
 eQ g
(eJ 3 s c b λh s=>
 eT 3 s h λk s=>
 ug (jI φ) false d [k] s λl s=>
 eQ l
(kk b s)
(eZ b (.i .i64 (.ofNat 1)) λm=>
 f c d e m s))
(kk (.i .i64 (.negSucc 0)) s))
def iZ(φ:Nat):List D→LS→(D→LS→Rs)→Rs:=
λas s kk=>
 u1 as λb c=>
 u1 c λd e=>
 u0 e (
 ek b s λf s=>
 lp (λ(_ _ _ _:D)(_:LS)=>none) (gT φ kk) φ b d f (.i .i64 (.ofNat 0)) s)
def fZ(φ:Nat):List D→LS→(D→LS→Rs)→Rs:=
λas s kk=>
 u1 as λb c=>
 u1 c λd e=>
 u0 e (
(iZ φ) [b,d] s λf s=>
 kI f (.i .i64 (.ofNat 0)) λg=>
 kk g s)
def qd(φ:Nat):List D→Option D:=
λas=>
(λ(s:LS)=>
 u1 as λb c=>
 u0 c (
(fZ φ) [b,(.fn 43 [])] s λd s=>
 eW false s d some)) s0
def ee(φ:Nat):pe:=tF (jI φ) 48 (.iso (qd φ))
def jR(φ:Nat)(kk:D→LS→Rs)(f:D→D→D→D→LS→Rs)(c d e b:D)(s:LS):Rs:=(
 fN b e λg=>
 eQ g
(eJ 1 s c b λh s=>
 eK s h λk s=>
 ug (ee φ) false d [k] s λl s=>
 eQ l
(kk b s)
(eZ b (.i .i64 (.ofNat 1)) λm=>
 f c d e m s))
(kk (.i .i64 (.negSucc 0)) s))
def iQ(φ:Nat):List D→LS→(D→LS→Rs)→Rs:=
λas s kk=>
 u1 as λb c=>
 u1 c λd e=>
 u0 e (
 ek b s λf s=>
 lp (λ(_ _ _ _:D)(_:LS)=>none) (jR φ kk) φ b d f (.i .i64 (.ofNat 0)) s)
def gq(φ:Nat):List D→LS→(D→LS→Rs)→Rs:=
λas s kk=>
 u1 as λb c=>
 u1 c λd e=>
 u0 e (
(iQ φ) [b,d] s λf s=>
 kI f (.i .i64 (.ofNat 0)) λg=>
 kk g s)
def tY(φ:Nat):List D→Option D:=
λas=>
(λ(s:LS)=>
 u1 as λb c=>
 u0 c (
(gq φ) [b,(.fn 48 [])] s λd s=>
 eW false s d some)) s0
def vb(φ:Nat):List D→Option D:=
λas=>
(λ(s:LS)=>
 u1 as λe f=>
 u0 f (
 gG [(.b false),(.n 0)] s λd s=>
 fN e (.i .i64 (.ofNat 0)) λg=>
 eQ g
(lr .u64 e s λh s=>
 kS (.neg (.c h)) s λk s=>
 eS (t9 φ) [k] s λl s=>
 kw [(.b false),(.n 0)] [(0,1,(.b true)),(1,1,l)] s λm s=>
 eU 2 s d m λ_ s=>
 eT 2 s d λo _=>
 eW false s o some)
(lr .u64 e s λp s=>
 eS (t9 φ) [p] s λu s=>
 kw [(.b false),(.n 0)] [(1,1,u)] s λv s=>
 eU 2 s d v λ_ s=>
 eT 2 s d λw _=>
 eW false s w some))) s0
def kd(φ:Nat):List D→Option D:=
λas=>
(λ(s:LS)=>
 u1 as λd e=>
 u0 e (
 gG [(.b false),(.n 0),(.n 0)] s λc s=>
 eS (vb φ) [d] s λf s=>
 eS (nB φ) [f] s λg s=>
 eU 3 s c g λ_ s=>
 eT 3 s c λh _=>
 eW false s h some)) s0
def jc(φ:Nat):List D→Option D:=
λas=>
(λ(s:LS)=>
 u1 as λb c=>
 u0 c (
 jM b s λd s=>
 eX 0 s d λe s=>
 eX 1 s e λf s=>
 eK s f λg s=>
 iB g (.n 0) λh=>
 eW false s h some)) s0
def mi(φ:Nat):List D→Option D:=
λas=>
(λ(s:LS)=>
 u1 as λf g=>
 u0 g (
 kS (.lens (.c f)) s λh s=>
 kv h (.i .i64 (.ofNat 0)) λe=>
 eI e true (λk=>k f s) s λl s=>
 eI e true (λk=>kS (.index (.c l) (.c (.i .i64 (.ofNat 0)))) s k) s λm s=>
 eI e true (λk=>iB m (.i .u8 (.ofNat 0)) λd=>k d s) s λn s=>
 fY e n (.b false) s λo s=>
 eQ o
(eW false s (.i .i64 (.ofNat 1)) some)
(kS (.lens (.c f)) s λp s=>
 kv p (.i .i64 (.ofNat 1024)) λu=>
 eQ u
(eW false s (.i .i64 (.ofNat 4)) some)
(eW false s (.i .i64 (.ofNat 0)) some)))) s0
def pE(φ:Nat):List D→Option D:=
λas=>
(λ(s:LS)=>
 u0 as (
 gG [(.b false),(.n 0)] s λc s=>
 kw [(.b false),(.n 0)] [] s λd s=>
 eU 2 s c d λ_ s=>
 eT 2 s c λe _=>
 eW false s e some)) s0
def pc(φ:Nat):List D→Option D:=
λas=>
(λ(s:LS)=>
 u1 as λg h=>
 u0 h (
 jM g s λe s=>
 eX 1 s e λl s=>
 eK s l λm s=>
 eS (mi φ) [m] s λf s=>
 iB f (.i .i64 (.ofNat 1)) λo=>
 eQ o
(eW false s f some)
(eT 2 s e λp s=>
 eS (pE φ) [] s λu s=>
 BO true [1,2] p u s λc s=>
 eI c true (λk=>eX 1 s e k) s λv s=>
 eI c true (λk=>eK s v k) s λw s=>
 eI c true (λk=>iB w (.n 0) λd=>k d s) s λy s=>
 fY c y (.b false) s λz s=>
 eQ z
(eW false s (.i .i64 (.ofNat 1)) some)
(eW false s f some)))) s0
def ov(φ:Nat):List D→Option D:=
λas=>
(λ(s:LS)=>
 u1 as λm o=>
 u0 o (
 jM m s λe s=>
 eX 0 s e λp s=>
 eT 2 s p λu s=>
 eS (pc φ) [u] s λg s=>
 eX 2 s e λv s=>
 eK s v λw s=>
 eS (mi φ) [w] s λh s=>
 iB g (.i .i64 (.ofNat 1)) λl=>
 eI l false (λk=>k h s) s λy s=>
 eI l false (λk=>iB y (.i .i64 (.ofNat 1)) λd=>k d s) s λz s=>
 fY l (.b true) z s λf s=>
 eI f false (λk=>eX 2 s e k) s λA s=>
 eI f false (λk=>eK s A k) s λB s=>
 eI f false (λk=>iB B (.n 0) λd=>k d s) s λC s=>
 fY f (.b true) C s λE s=>
 eQ E
(eW false s (.i .i64 (.ofNat 1)) some)
(nC g (.i .i64 (.ofNat 0)) λF=>
 eQ F
(eW false s g some)
(nC h (.i .i64 (.ofNat 0)) λG=>
 eQ G
(eW false s h some)
(eX 2 s e λH s=>
 eK s H λI s=>
 nC I (.n 1) λc=>
 eI c true (λk=>eX 0 s e k) s λJ s=>
 eI c true (λk=>eX 1 s J k) s λK s=>
 eI c true (λk=>eK s K k) s λM s=>
 eI c true (λk=>eX 2 s e k) s λN s=>
 eI c true (λk=>eK s N k) s λO s=>
 eI c true (λk=>eS (uZ φ) [M,O] s k) s λP s=>
 eI c true (λk=>nC P (.n 1) λd=>k d s) s λS s=>
 fY c S (.b false) s λU s=>
 eQ U
(eW false s (.i .i64 (.ofNat 1)) some)
(eW false s (.i .i64 (.ofNat 0)) some)))))) s0
def oz(φ:Nat)(o:D→D→D→D→LS→Rs)(e g h f:D)(s:LS):Rs:=(
 fN f h λp=>
 eQ p
(eJ 3 s g f λu s=>
 eT 3 s u λv s=>
 gG [(.b false),(.n 0),(.n 0)] s λl s=>
 eU 3 s l v λ_ s=>
 eT 3 s l λw s=>
 eS (ov φ) [w] s λm s=>
 nC m (.i .i64 (.ofNat 0)) λy=>
 eQ y
(eW false s m some)
(eZ f (.i .i64 (.ofNat 1)) λz=>
 o e g h z s))
(ek e s λA s=>
 kv A (.i .i64 (.ofNat 0)) λc=>
 eI c true (λk=>k e s) s λB s=>
 eI c true (λk=>k e s) s λC s=>
 eI c true (λk=>ek C s k) s λE s=>
 eI c true (λk=>fA E (.i .i64 (.ofNat 1)) λd=>k d s) s λF s=>
 eI c true (λk=>eJ 3 s B F k) s λG s=>
 eI c true (λk=>eT 3 s G k) s λH s=>
 eI c true (λk=>eS (jc φ) [H] s k) s λI s=>
 fY c I (.b false) s λJ s=>
 eQ J
(eW false s (.i .i64 (.ofNat 1)) some)
(eW false s (.i .i64 (.ofNat 0)) some)))
def pj(φ:Nat):List D→Option D:=
λas=>
(λ(s:LS)=>
 u1 as λb c=>
 u0 c (
 ek b s λd s=>
 kv d (.i .i64 (.ofNat 65)) λe=>
 eQ e
(eW false s (.i .i64 (.ofNat 4)) some)
(ek b s λf s=>
 lp (λ(_ _ _ _:D)(_:LS)=>none) (oz φ) φ b b f (.i .i64 (.ofNat 0)) s))) s0
def mA(φ:Nat):List D→Option D:=
λas=>
(λ(s:LS)=>
 u1 as λh l=>
 u0 l (
 jM h s λd s=>
 eX 0 s d λm s=>
 eK s m λn s=>
 eS (pj φ) [n] s λg s=>
 nC g (.i .i64 (.ofNat 0)) λo=>
 eQ o
(eW false s g some)
(eX 0 s d λp s=>
 eK s p λu s=>
 ek u s λv s=>
 fA v (.i .i64 (.ofNat 1)) λf=>
 fN f (.i .i64 (.ofNat 1)) λc=>
 eI c false (λk=>eX 0 s d k) s λw s=>
 eI c false (λk=>eK s w k) s λy s=>
 eI c false (λk=>k f s) s λz s=>
 eI c false (λk=>eJ 3 s y z k) s λA s=>
 eI c false (λk=>eT 3 s A k) s λB s=>
 eI c false (λk=>eS (kd φ) [(.i .i64 (.ofNat 1))] s k) s λC s=>
 eI c false (λk=>BO true [1,2,2] B C s k) s λE s=>
 fY c (.b true) E s λe s=>
 eI e false (λk=>eX 0 s d k) s λF s=>
 eI e false (λk=>eK s F k) s λG s=>
 eI e false (λk=>(fZ φ) [G,(.fn 45 [])] s k) s λH s=>
 fY e (.b true) H s λI s=>
 eQ I
(eW false s (.i .i64 (.ofNat 1)) some)
(kv f (.i .i64 (.ofNat 24)) λJ=>
 eQ J
(eW false s (.i .i64 (.ofNat 4)) some)
(eW false s (.i .i64 (.ofNat 0)) some))))) s0
def lZ(φ:Nat):List D→Option D:=
λas=>
(λ(s:LS)=>
 u1 as λf g=>
 u1 g λb h=>
 u0 h (
 jM f s λc s=>
 eT 1 s c λk s=>
 eS (mA φ) [k] s λd s=>
 nC d (.i .i64 (.ofNat 0)) λl=>
 eQ l
(eW false s d some)
(eS (pj φ) [b] s λe s=>
 nC e (.i .i64 (.ofNat 0)) λm=>
 eQ m
(eW false s e some)
(ek b s λn s=>
 eX 0 s c λo s=>
 eK s o λp s=>
 ek p s λu s=>
 kI n u λv=>
 eQ v
(eW false s (.i .i64 (.ofNat 3)) some)
(eW false s (.i .i64 (.ofNat 0)) some))))) s0
def mn(φ:Nat):List D→Option D:=
λas=>
(λ(s:LS)=>
 u1 as λe f=>
 u0 f (
 jM e s λc s=>
 gG [(.b false),(.n 0),(.n 0)] s λd s=>
 eX 0 s c λg s=>
 eX 0 s g λh s=>
 eK s h λi s=>
 eX 2 s c λk s=>
 eK s k λl s=>
 kw [(.b false),(.n 0)] [(0,1,i),(1,1,l)] s λm s=>
 eX 0 s c λo s=>
 eX 1 s o λp s=>
 eK s p λu s=>
 kw [(.b false),(.n 0),(.n 0)] [(0,2,m),(2,1,u)] s λv s=>
 eU 3 s d v λ_ s=>
 eT 3 s d λw _=>
 eW false s w some)) s0
def gK(φ:Nat):List D→Option D:=
λas=>
(λ(s:LS)=>
 u1 as λc d=>
 u0 d (
 wT false s c λe s=>
 eQ e
(eW true s (.tree [] 0 true) some)
(ie 0 [(.b false),(.n 0),(.n 0)] [] s λf s=>
 kJ 3 40 s f c λg s=>
 eW true s g some))) s0
def qW(φ:Nat):List D→Option D:=
λas=>
(λ(s:LS)=>
 u1 as λe f=>
 u0 f (
 jM e s λc s=>
 gG [(.b false),(.n 0),(.n 0)] s λd s=>
 eX 0 s c λg s=>
 eT 2 s g λh s=>
 eS xx [h] s λi s=>
 eX 2 s c λk s=>
 eK s k λl s=>
 kw [(.b false),(.n 0),(.n 0)] [(0,2,i),(2,1,l)] s λm s=>
 eU 3 s d m λ_ s=>
 eT 3 s d λo _=>
 eW false s o some)) s0
def sG(φ:Nat):List D→Option D:=
λas=>
(λ(s:LS)=>
 u1 as λd e=>
 u1 e λf g=>
 u0 g (
 jM d s λh s=>
 jM f s λi s=>
 gG [(.b false),(.n 0),(.n 0)] s λc s=>
 eT 3 s h λk s=>
 eT 3 s i λl s=>
 eS (qW φ) [l] s λm s=>
 eS (pI φ) [k,m] s λo s=>
 eU 3 s c o λ_ s=>
 eT 3 s c λp _=>
 eW false s p some)) s0
def pA(φ:Nat)(kk:D→LS→Rs)(h:D→D→D→D→D→LS→Rs)(c d e f b:D)(s:LS):Rs:=(
 fN b f λk=>
 eQ k
(jn (λ(l m n o p:D)(s:LS)=>
 eZ p (.i .i64 (.ofNat 1)) λu=>
 h l m n o u s) λg=>
 eJ 3 s d b λv s=>
 eT 3 s v λw s=>
 eS (jc φ) [w] s λy s=>
 qP y s λz s=>
 eQ z
(eJ 3 s c b λA s=>
 eT 3 s A λB s=>
 eT 3 s e λC s=>
 eJ 3 s d b λE s=>
 eT 3 s E λF s=>
 eS (mR φ) [C,F] s λG s=>
 eS (sG φ) [B,G] s λH s=>
 eJ 3 s c b λI s=>
 eU 3 s I H λ_ s=>
 g c d e f b s)
(g c d e f b s))
(kk (.tup []) s))
def nA(φ:Nat):List D→LS→(D→LS→Rs)→Rs:=
λas s kk=>
 u1 as λb d=>
 u1 d λe f=>
 u1 f λg h=>
 u0 h (
 jM g s λc s=>
 eT 3 s c λk s=>
 eS (jc φ) [k] s λl s=>
 eQ l
(kk (.tup []) s)
(ek b s λm s=>
 lp (λ(_ _ _ _ _:D)(_:LS)=>none) (pA φ kk) φ b e c m (.i .i64 (.ofNat 0)) s))
def qc(φ:Nat):List D→Option D:=
λas=>
(λ(s:LS)=>
 u1 as λb c=>
 u0 c (
 jM b s λd s=>
 eT 3 s d λe s=>
 eS (jc φ) [e] s λf s=>
 qP f s λg s=>
 eW false s g some)) s0
def pi(φ:Nat):pe:=tF (ee φ) 94 (.iso (qc φ))
def iJ(φ:Nat)(kk:D→LS→Rs)(f:D→D→D→D→LS→Rs)(c d e b:D)(s:LS):Rs:=(
 fN b e λg=>
 eQ g
(eJ 3 s c b λh s=>
 eT 3 s h λk s=>
 ug (pi φ) false d [k] s λl s=>
 eQ l
(kk b s)
(eZ b (.i .i64 (.ofNat 1)) λm=>
 f c d e m s))
(kk (.i .i64 (.negSucc 0)) s))
def il(φ:Nat):List D→LS→(D→LS→Rs)→Rs:=
λas s kk=>
 u1 as λb c=>
 u1 c λd e=>
 u0 e (
 ek b s λf s=>
 lp (λ(_ _ _ _:D)(_:LS)=>none) (iJ φ kk) φ b d f (.i .i64 (.ofNat 0)) s)
def lC(φ:Nat):List D→Option D:=
λas=>
(λ(s:LS)=>
 u1 as λb c=>
 u0 c (
(il φ) [b,(.fn 94 [])] s λd s=>
 eW false s d some)) s0
def pC(φ:Nat):List D→Option D:=
λas=>
(λ(s:LS)=>
 u1 as λb c=>
 u1 c λd e=>
 u0 e (
 eS (lC φ) [b] s λf s=>
 eS (lC φ) [d] s λg s=>
 fA f g λh=>
 eW false s h some)) s0
def eR(φ:Nat):pe:=tF (pi φ) 97 (.iso (pC φ))
def fq(φ:Nat)(n:D→D→D→D→D→LS→Rs)(o:D→D→D→D→D→D→LS→Rs)(e g l h m f:D)(s:LS):Rs:=(
 kv f g λc=>
 eI c true (λk=>k h s) s λp s=>
 eI c true (λk=>k e s) s λu s=>
 eI c true (λk=>k f s) s λv s=>
 eI c true (λk=>eJ 1 s u v k) s λw s=>
 eI c true (λk=>eK s w k) s λy s=>
 eI c true (λk=>k e s) s λz s=>
 eI c true (λk=>k f s) s λA s=>
 eI c true (λk=>fA A (.i .i64 (.ofNat 1)) λd=>k d s) s λB s=>
 eI c true (λk=>eJ 1 s z B k) s λC s=>
 eI c true (λk=>eK s C k) s λE s=>
 eI c true (λk=>ug (eR φ) false p [y,E] s k) s λF s=>
 eI c true (λk=>fN F (.i .i64 (.ofNat 0)) λd=>k d s) s λG s=>
 fY c G (.b false) s λH s=>
 eQ H
(fA f (.i .i64 (.ofNat 1)) λI=>
 fA f (.i .i64 (.ofNat 1)) λJ=>
 eJ 1 s e J λK s=>
 eK s K λM s=>
 eJ 1 s e f λN s=>
 eK s N λO s=>
 eJ 1 s e f λP s=>
 eU 1 s P M λ_ s=>
 eJ 1 s e I λS s=>
 eU 1 s S O λ_ s=>
 fA f (.i .i64 (.ofNat 1)) λU=>
 o e g l h m U s)
(eZ m (.i .i64 (.ofNat 1)) λV=>
 n e g l h V s))
def gP(φ:Nat)(kk:D→LS→Rs)(d:D→D→D→D→D→LS→Rs)(e f c g b:D)(s:LS):Rs:=(
 fN b c λh=>
 eQ h
(lp (λ(_ _ _ _ _ _:D)(_:LS)=>none) (fq φ d) φ e f c g b b s)
(kk (.tup []) s))
def iI(φ:Nat):List D→LS→(D→LS→Rs)→Rs:=
λas s kk=>
 u1 as λc d=>
 u1 d λb e=>
 u1 e λf g=>
 u1 g λh k=>
 u0 k (
 eZ b (.i .i64 (.ofNat 1)) λl=>
 lp (λ(_ _ _ _ _:D)(_:LS)=>none) (gP φ kk) φ c b f h l s)
def rV(φ:Nat)(kk:D→LS→Rs)(y:D→D→D→D→D→LS→Rs)(h l m o p:D)(s:LS):Rs:=(
 lW (.i .i64 (.ofNat 2)) p λz=>
 eZ z (.i .i64 (.ofNat 1)) λg=>
 kI g l λA=>
 eQ A
(kk (.tup []) s)
(jn (λ(e B f v u n:D)(s:LS)=>
 eZ f u λC=>
 eJ 1 s e C λE s=>
 eK s E λF s=>
 eZ f n λG=>
 eJ 1 s e G λH s=>
 eK s H λI s=>
 ug (eR φ) false v [F,I] s λJ s=>
 fN J (.i .i64 (.ofNat 0)) λK=>
 qP K s λM s=>
 eQ M
(kk (.tup []) s)
(eZ f u λN=>
 eZ f n λO=>
 eZ f n λP=>
 eJ 1 s e P λS s=>
 eK s S λU s=>
 eZ f u λV=>
 eJ 1 s e V λW s=>
 eK s W λX s=>
 eJ 1 s e N λY s=>
 eU 1 s Y U λ_ s=>
 eJ 1 s e O λZ s=>
 eU 1 s Z X λ_ s=>
 y e B f v n s)) λw=>
 eZ g (.i .i64 (.ofNat 1)) λbb=>
 fN bb l λc=>
 eI c true (λk=>k o s) s λbc s=>
 eI c true (λk=>k h s) s λbd s=>
 eI c true (λk=>k m s) s λbf s=>
 eI c true (λk=>k g s) s λbg s=>
 eI c true (λk=>eZ bf bg λd=>k d s) s λbh s=>
 eI c true (λk=>eJ 1 s bd bh k) s λbi s=>
 eI c true (λk=>eK s bi k) s λbk s=>
 eI c true (λk=>k h s) s λbl s=>
 eI c true (λk=>k m s) s λbm s=>
 eI c true (λk=>k g s) s λbn s=>
 eI c true (λk=>eZ bm bn λd=>k d s) s λbo s=>
 eI c true (λk=>eZ bo (.i .i64 (.ofNat 1)) λd=>k d s) s λbp s=>
 eI c true (λk=>eJ 1 s bl bp k) s λbu s=>
 eI c true (λk=>eK s bu k) s λbv s=>
 eI c true (λk=>ug (eR φ) false bc [bk,bv] s k) s λbw s=>
 eI c true (λk=>fN bw (.i .i64 (.ofNat 0)) λd=>k d s) s λbz s=>
 fY c bz (.b false) s λbA s=>
 eQ bA
(eZ g (.i .i64 (.ofNat 1)) λbB=>
 w h l m o p bB s)
(w h l m o p g s)))
def jO(φ:Nat):List D→LS→(D→LS→Rs)→Rs:=
λas s kk=>
 u1 as λb c=>
 u1 c λd e=>
 u1 e λf g=>
 u1 g λh i=>
 u1 i λk l=>
 u0 l (
 lp (λ(_ _ _ _ _:D)(_:LS)=>none) (rV φ kk) φ b f h k d s)
def rX(φ:Nat)(kk:D→LS→Rs)(g:D→D→D→D→D→LS→Rs)(b e c f d:D)(s:LS):Rs:=(
 kI d (.i .i64 (.ofNat 0)) λh=>
 eQ h
(eZ c d λk=>
 eZ c d λl=>
 eJ 1 s b l λm s=>
 eK s m λn s=>
 eJ 1 s b c λo s=>
 eK s o λp s=>
 eJ 1 s b c λu s=>
 eU 1 s u n λ_ s=>
 eJ 1 s b k λv s=>
 eU 1 s v p λ_ s=>
(jO φ) [b,f,d,c,e] s λy s=>
 fA d (.i .i64 (.ofNat 1)) λw=>
 g b e c f w s)
(kk (.tup []) s))
def rW(φ:Nat)(kk:D→LS→Rs)(h:D→D→D→D→D→D→LS→Rs)(b c d g e f:D)(s:LS):Rs:=(
 kI f (.i .i64 (.ofNat 0)) λk=>
 eQ k
((jO φ) [b,f,e,d,c] s λn s=>
 fA f (.i .i64 (.ofNat 1)) λl=>
 h b c d g e l s)
(fA e (.i .i64 (.ofNat 1)) λm=>
 lp (λ(_ _ _ _ _:D)(_:LS)=>none) (rX φ kk) φ b c d g m s))
def lA(φ:Nat):List D→LS→(D→LS→Rs)→Rs:=
λas s kk=>
 u1 as λd e=>
 u1 e λb f=>
 u1 f λg h=>
 u1 h λk l=>
 u0 l (
 fA g b λc=>
 fA c (.i .i64 (.ofNat 1)) λm=>
 vH m (.i .i64 (.ofNat 2)) λn=>
 lp (λ(_ _ _ _ _ _:D)(_:LS)=>none) (rW φ kk) φ d k b (.i .i64 (.ofNat 0)) c n s)
def s8(φ:Nat):List D→Option D:=
λas=>
(λ(s:LS)=>
 u1 as λb h=>
 u0 h (
 jn (λ(d e:D)(s:LS)=>
 jn (λ(k l:D)(s:LS)=>
 lr .u8 k s λm s=>
 kS (.index (.c (.s [0,1,2,2,3,3,3,3,4,4,4,4,4,4,4,4,5,5,5,5,5,5,5,5,5,5,5,5,5,5,5,5,6,6,6,6,6,6,6,6,6,6,6,6,6,6,6,6,6,6,6,6,6,6,6,6,6,6,6,6,6,6,6,6,7,7,7,7,7,7,7,7,7,7,7,7,7,7,7,7,7,7,7,7,7,7,7,7,7,7,7,7,7,7,7,7,7,7,7,7,7,7,7,7,7,7,7,7,7,7,7,7,7,7,7,7,7,7,7,7,7,7,7,7,7,7,7,7,8,8,8,8,8,8,8,8,8,8,8,8,8,8,8,8,8,8,8,8,8,8,8,8,8,8,8,8,8,8,8,8,8,8,8,8,8,8,8,8,8,8,8,8,8,8,8,8,8,8,8,8,8,8,8,8,8,8,8,8,8,8,8,8,8,8,8,8,8,8,8,8,8,8,8,8,8,8,8,8,8,8,8,8,8,8,8,8,8,8,8,8,8,8,8,8,8,8,8,8,8,8,8,8,8,8,8,8,8,8,8,8,8,8,8,8,8,8,8,8,8,8,8,8,8,8,8,8])) (.c m)) s λn s=>
 lr .i64 n s λo s=>
 eZ l o λp=>
 eW false s p some) λf=>
 kI d (.i .u32 (.ofNat 256)) λu=>
 eQ u
(pG d (.i .u64 (.ofNat 8)) λv=>
 eZ e (.i .i64 (.ofNat 8)) λw=>
 f v w s)
(f d e s)) λg=>
 kI b (.i .u32 (.ofNat 65536)) λy=>
 eQ y
(pG b (.i .u64 (.ofNat 16)) λz=>
 g z (.i .i64 (.ofNat 16)) s)
(g b (.i .i64 (.ofNat 0)) s))) s0
def n5(φ:Nat):List D→Option D:=
λas=>
(λ(s:LS)=>
 u1 as λc d=>
 u0 d (
 eQ (.b false)
(lr .u32 c s λe s=>
 eS (s8 φ) [e] s λf s=>
 eW false s f some)
(eS (ma φ) [c] s λg s=>
 eW false s g some))) s0
def ou(φ:Nat):List D→LS→(D→LS→Rs)→Rs:=
λas s kk=>
 u1 as λb c=>
 u0 c (
 lr .u64 b s λd s=>
 eS (n5 φ) [d] s λe s=>
 wR (.i .u64 (.ofNat 1)) e λf=>
 kk f s)
def pQ(φ:Nat):List D→Option D:=
λas=>
(λ(s:LS)=>
 u1 as λb c=>
 u0 c (
 vA s b λd s=>
 eK s d λe s=>
 vA s b λf s=>
 eK s f λg s=>
 wR g (.i .u64 (.ofNat 13)) λh=>
 fc .xor e h λk=>
 vA s b λl s=>
 eU 1 s l k λ_ s=>
 vA s b λm s=>
 eK s m λn s=>
 vA s b λo s=>
 eK s o λp s=>
 pG p (.i .u64 (.ofNat 7)) λu=>
 fc .xor n u λv=>
 vA s b λw s=>
 eU 1 s w v λ_ s=>
 vA s b λy s=>
 eK s y λz s=>
 vA s b λA s=>
 eK s A λB s=>
 wR B (.i .u64 (.ofNat 17)) λC=>
 fc .xor z C λE=>
 vA s b λF s=>
 eU 1 s F E λ_ s=>
 vA s b λG s=>
 eK s G λH s=>
 eW false s H some)) s0
def pp(φ:Nat)(kk:D→LS→Rs)(p:D→D→D→D→D→D→LS→Rs)(m d b e f g:D)(s:LS):Rs:=(
 vH b (.i .i64 (.ofNat 4)) λu=>
 lW u (.i .i64 (.ofNat 2)) λv=>
 eZ d v λw=>
 eZ w (.i .i64 (.ofNat 1)) λy=>
 wm g y λz=>
 eQ z
(eS (pQ φ) [e] s λA s=>
 fA f (.i .u64 (.ofNat 1)) λB=>
 v7 A B λC=>
 lr .i64 C s λh s=>
 jn (λ(c k E F G l n:D)(s:LS)=>
 eZ k n λH=>
 eZ k n λI=>
 eJ 1 s c I λJ s=>
 eK s J λK s=>
 eJ 1 s c l λM s=>
 eK s M λN s=>
 eJ 1 s c l λO s=>
 eU 1 s O K λ_ s=>
 eJ 1 s c H λP s=>
 eU 1 s P N λ_ s=>
 eZ l (.i .i64 (.ofNat 1)) λS=>
 p c k E F G S s) λo=>
 kI h b λU=>
 eQ U
(fA h b λV=>
 o m d b e f g V s)
(o m d b e f g h s))
(kk (.tup []) s))
def jm(φ:Nat):List D→LS→(D→LS→Rs)→Rs:=
λas s kk=>
 u1 as λe f=>
 u1 f λc g=>
 u1 g λh k=>
 u1 k λy l=>
 u0 l (
 fA h c λb=>
 kI b (.i .i64 (.ofNat 8)) λm=>
 eQ m
(lr .u64 b s λn s=>
 gG [(.i .u64 (.ofNat 0))] s λd s=>
 eU 1 s d n λ_ s=>
(ou φ) [b] s λo s=>
 vH b (.i .i64 (.ofNat 4)) λp=>
 lW p (.i .i64 (.ofNat 2)) λu=>
 eZ c u λv=>
 fA v (.i .i64 (.ofNat 1)) λw=>
 lp (λ(_ _ _ _ _ _:D)(_:LS)=>none) (pp φ kk) φ e c b d o w s)
(kk (.tup []) s))
def iU(φ:Nat):List D→LS→(D→LS→Rs)→Rs:=
λas s kk=>
 u1 as λd f=>
 u1 f λb g=>
 u1 g λc h=>
 u1 h λe k=>
 u1 k λl m=>
 u0 m (
 eJ 1 s d c λn s=>
 eK s n λo s=>
 eJ 1 s d b λp s=>
 eK s p λu s=>
 ug (eR φ) false l [o,u] s λv s=>
 fN v (.i .i64 (.ofNat 0)) λw=>
 eQ w
(vA s e λy s=>
 eK s y λz s=>
 eZ z (.i .i64 (.ofNat 1)) λA=>
 vA s e λB s=>
 eU 1 s B A λ_ s=>
 kk (.tup [c,b]) s)
(kk (.tup [b,c]) s))
def jl(φ:Nat):List D→LS→(D→LS→Rs)→Rs:=
λas s kk=>
 u1 as λb h=>
 u1 h λi k=>
 u1 k λl m=>
 u1 m λn o=>
 u1 o λc p=>
 u1 p λd u=>
 u0 u (
(iU φ) [b,i,l,c,d] s λe s=>
 fh e 0 s λv s=>
 fh e 1 s λw s=>
(iU φ) [b,w,n,c,d] s λf s=>
 fh f 0 s λy s=>
 fh f 1 s λA s=>
(iU φ) [b,v,y,c,d] s λg s=>
 fh g 0 s λB s=>
 fh g 1 s λz s=>
 kk z s)
def gS(φ:Nat):List D→LS→(D→LS→Rs)→Rs:=
λas s kk=>
 u1 as λc d=>
 u1 d λb e=>
 u1 e λf g=>
 u1 g λh k=>
 u0 k (
 fA b (.i .i64 (.ofNat 1)) λl=>
 eZ b (.i .i64 (.ofNat 1)) λm=>
(jl φ) [c,l,b,m,f,h] s λn s=>
 kk n s)
def kF(φ:Nat):List D→LS→(D→LS→Rs)→Rs:=
λas s kk=>
 u1 as λc u=>
 u1 u λf v=>
 u1 v λw y=>
 u1 y λd z=>
 u0 z (
 fA w f λe=>
 gG [(.i .i64 (.ofNat 0))] s λb s=>
 vH e (.i .i64 (.ofNat 4)) λA=>
 lW A (.i .i64 (.ofNat 1)) λB=>
 eZ f B λk=>
 vH e (.i .i64 (.ofNat 4)) λC=>
 lW C (.i .i64 (.ofNat 2)) λE=>
 eZ f E λg=>
 vH e (.i .i64 (.ofNat 4)) λF=>
 lW F (.i .i64 (.ofNat 3)) λG=>
 eZ f G λl=>
 jn (λ(H h:D)(s:LS)=>
 eK s H λm s=>
 iB m (.i .i64 (.ofNat 0)) λI=>
 eQ I
(kk (.tup [h,(.i .i64 (.ofNat 1))]) s)
(iB m (.i .i64 (.ofNat 12)) λJ=>
 eQ J
(kk (.tup [h,(.i .i64 (.ofNat 2))]) s)
(kk (.tup [h,(.i .i64 (.ofNat 0))]) s))) λn=>
 kI e (.i .i64 (.ofNat 8)) λK=>
 eQ K
(jn (λ(M N o O P S:D)(s:LS)=>
(jl φ) [M,O,P,S,o,N] s λU s=>
 n o U s) λp=>
 kI e (.i .i64 (.ofNat 50)) λV=>
 eQ V
((gS φ) [c,k,b,d] s λW s=>
(gS φ) [c,g,b,d] s λX s=>
(gS φ) [c,l,b,d] s λY s=>
 p c d b W X Y s)
(p c d b k g l s))
(n b g s))
def qF(φ:Nat)(kk:D→LS→Rs)(e:D→D→D→LS→Rs)(b c d:D)(s:LS):Rs:=(
 fN c d λf=>
 eQ f
(eJ 1 s b d λg s=>
 eK s g λh s=>
 eJ 1 s b c λk s=>
 eK s k λl s=>
 eJ 1 s b c λm s=>
 eU 1 s m h λ_ s=>
 eJ 1 s b d λn s=>
 eU 1 s n l λ_ s=>
 eZ c (.i .i64 (.ofNat 1)) λo=>
 fA d (.i .i64 (.ofNat 1)) λp=>
 e b o p s)
(kk (.tup []) s))
def ju(φ:Nat):List D→LS→(D→LS→Rs)→Rs:=
λas s kk=>
 u1 as λb c=>
 u1 c λd e=>
 u1 e λf g=>
 u1 g λl h=>
 u0 h (
 fA f (.i .i64 (.ofNat 1)) λk=>
 lp (λ(_ _ _:D)(_:LS)=>none) (qF φ kk) φ b d k s)
def oC(φ:Nat)(k:D→D→D→D→D→D→LS→Rs)(l:D→D→D→D→D→D→D→LS→Rs)(b f d e g h c:D)(s:LS):Rs:=(
 fN c d λm=>
 eQ m
(eJ 1 s b c λn s=>
 eK s n λo s=>
 fA c (.i .i64 (.ofNat 1)) λp=>
 eJ 1 s b p λu s=>
 eK s u λv s=>
 ug (eR φ) false e [o,v] s λw s=>
 fN w (.i .i64 (.ofNat 0)) λy=>
 qP y s λz s=>
 eQ z
(k b f d e g h s)
(fA c (.i .i64 (.ofNat 1)) λA=>
 fA c (.i .i64 (.ofNat 1)) λB=>
 eJ 1 s b B λC s=>
 eK s C λE s=>
 eJ 1 s b c λF s=>
 eK s F λG s=>
 eJ 1 s b c λH s=>
 eU 1 s H E λ_ s=>
 eJ 1 s b A λI s=>
 eU 1 s I G λ_ s=>
 eZ c (.i .i64 (.ofNat 1)) λJ=>
 l b f d e g h J s))
(k b f d e g h s))
def oB(φ:Nat)(k:D→D→D→D→D→D→LS→Rs)(l:D→D→D→D→D→D→D→LS→Rs)(b e f d g h c:D)(s:LS):Rs:=(
 kI c (.i .i64 (.ofNat 1)) λm=>
 eQ m
(eJ 1 s b c λn s=>
 eK s n λo s=>
 fA c (.i .i64 (.ofNat 1)) λp=>
 eJ 1 s b p λu s=>
 eK s u λv s=>
 ug (eR φ) false d [o,v] s λw s=>
 fN w (.i .i64 (.ofNat 0)) λy=>
 qP y s λz s=>
 eQ z
(k b e f d g h s)
(fA c (.i .i64 (.ofNat 1)) λA=>
 fA c (.i .i64 (.ofNat 1)) λB=>
 eJ 1 s b B λC s=>
 eK s C λE s=>
 eJ 1 s b c λF s=>
 eK s F λG s=>
 eJ 1 s b c λH s=>
 eU 1 s H E λ_ s=>
 eJ 1 s b A λI s=>
 eU 1 s I G λ_ s=>
 fA c (.i .i64 (.ofNat 1)) λJ=>
 l b e f d g h J s))
(k b e f d g h s))
def oA(φ:Nat)(kk:D→LS→Rs)(p:D→D→D→D→D→D→LS→Rs)(A:D→D→D→D→D→D→LS→Rs)(f h g l e n:D)(s:LS):Rs:=(
 fN e g λc=>
 eI c true (λk=>k l s) s λB s=>
 eI c true (λk=>k f s) s λC s=>
 eI c true (λk=>k e s) s λE s=>
 eI c true (λk=>eJ 1 s C E k) s λF s=>
 eI c true (λk=>eK s F k) s λG s=>
 eI c true (λk=>k f s) s λH s=>
 eI c true (λk=>k e s) s λI s=>
 eI c true (λk=>fA I (.i .i64 (.ofNat 1)) λd=>k d s) s λJ s=>
 eI c true (λk=>eJ 1 s H J k) s λK s=>
 eI c true (λk=>eK s K k) s λM s=>
 eI c true (λk=>ug (eR φ) false B [G,M] s k) s λN s=>
 eI c true (λk=>fN N (.i .i64 (.ofNat 0)) λd=>k d s) s λO s=>
 eI c true (λk=>qP O s k) s λP s=>
 fY c P (.b false) s λS s=>
 eQ S
(eZ e (.i .i64 (.ofNat 1)) λU=>
 A f h g l U n s)
(iB e g λV=>
 eQ V
(kk (.b true) s)
(fA g h λW=>
 fN W (.i .i64 (.ofNat 50)) λX=>
 eQ X
(kk (.b false) s)
(fA e (.i .i64 (.ofNat 1)) λY=>
 fA e (.i .i64 (.ofNat 1)) λZ=>
 eJ 1 s f Z λbb s=>
 eK s bb λbc s=>
 eJ 1 s f e λbd s=>
 eK s bd λbf s=>
 eJ 1 s f e λbg s=>
 eU 1 s bg bc λ_ s=>
 eJ 1 s f Y λbh s=>
 eU 1 s bh bf λ_ s=>
 jn (λ(u v o w m y:D)(s:LS)=>
 fA o m λbi=>
 kI bi (.i .i64 (.ofNat 2)) λbk=>
 eQ bk
(eZ m (.i .i64 (.ofNat 1)) λbl=>
 lp (λ(_ _ _ _ _ _ _:D)(_:LS)=>none) (oC φ p) φ u v o w m y bl s)
(p u v o w m y s)) λz=>
 fA e h λbm=>
 kI bm (.i .i64 (.ofNat 2)) λbn=>
 eQ bn
(fA e (.i .i64 (.ofNat 1)) λbo=>
 lp (λ(_ _ _ _ _ _ _:D)(_:LS)=>none) (oB φ z) φ f h g l e n bo s)
(z f h g l e n s)))))
def nz(φ:Nat)(kk:D→LS→Rs)(d:D→D→D→D→D→D→LS→Rs)(e f g h k c:D)(s:LS):Rs:=(
 fN c (.i .i64 (.ofNat 5)) λl=>
 eQ l
(jn (λ(m n o p u v:D)(s:LS)=>
 eZ v (.i .i64 (.ofNat 1)) λw=>
 d m n o p u w s) λy=>
 lp (λ(_ _ _ _ _ _:D)(_:LS)=>none) (oA φ kk y) φ e f g h k c s)
(kk (.b false) s))
def iT(φ:Nat):List D→LS→(D→LS→Rs)→Rs:=
λas s kk=>
 u1 as λc d=>
 u1 d λb e=>
 u1 e λf g=>
 u1 g λh k=>
 u0 k (
 eZ b (.i .i64 (.ofNat 1)) λl=>
 lp (λ(_ _ _ _ _ _:D)(_:LS)=>none) (nz φ kk) φ c b f h l (.i .i64 (.ofNat 0)) s)
def p7(φ:Nat)(kk:D→LS→Rs)(m:D→D→D→D→D→LS→Rs)(n:D→D→D→D→D→LS→Rs)(e h l f g:D)(s:LS):Rs:=(
 wm f g λc=>
 eI c true (λk=>k l s) s λo s=>
 eI c true (λk=>k e s) s λp s=>
 eI c true (λk=>k h s) s λu s=>
 eI c true (λk=>eJ 1 s p u k) s λv s=>
 eI c true (λk=>eK s v k) s λw s=>
 eI c true (λk=>k e s) s λy s=>
 eI c true (λk=>k g s) s λz s=>
 eI c true (λk=>eJ 1 s y z k) s λA s=>
 eI c true (λk=>eK s A k) s λB s=>
 eI c true (λk=>ug (eR φ) false o [w,B] s k) s λC s=>
 eI c true (λk=>fN C (.i .i64 (.ofNat 0)) λd=>k d s) s λE s=>
 fY c E (.b false) s λF s=>
 eQ F
(fA g (.i .i64 (.ofNat 1)) λG=>
 n e h l f G s)
(kv f g λH=>
 eQ H
(kk f s)
(eJ 1 s e g λI s=>
 eK s I λJ s=>
 eJ 1 s e f λK s=>
 eK s K λM s=>
 eJ 1 s e f λN s=>
 eU 1 s N J λ_ s=>
 eJ 1 s e g λO s=>
 eU 1 s O M λ_ s=>
 eZ f (.i .i64 (.ofNat 1)) λP=>
 fA g (.i .i64 (.ofNat 1)) λS=>
 m e h l P S s)))
def p6(φ:Nat)(kk:D→LS→Rs)(m:D→D→D→D→D→LS→Rs)(n:D→D→D→D→D→LS→Rs)(e g h f l:D)(s:LS):Rs:=(
 wm f l λc=>
 eI c true (λk=>k h s) s λo s=>
 eI c true (λk=>k e s) s λp s=>
 eI c true (λk=>k g s) s λu s=>
 eI c true (λk=>eJ 1 s p u k) s λv s=>
 eI c true (λk=>eK s v k) s λw s=>
 eI c true (λk=>k e s) s λy s=>
 eI c true (λk=>k f s) s λz s=>
 eI c true (λk=>eJ 1 s y z k) s λA s=>
 eI c true (λk=>eK s A k) s λB s=>
 eI c true (λk=>ug (eR φ) false o [w,B] s k) s λC s=>
 eI c true (λk=>fN C (.i .i64 (.ofNat 0)) λd=>k d s) s λE s=>
 eI c true (λk=>qP E s k) s λF s=>
 fY c F (.b false) s λG s=>
 eQ G
(eZ f (.i .i64 (.ofNat 1)) λH=>
 n e g h H l s)
(lp (λ(_ _ _ _ _:D)(_:LS)=>none) (p7 φ kk m) φ e g h f l s))
def p5(φ:Nat)(kk:D→LS→Rs)(b:D→D→D→D→D→LS→Rs)(c d e f g:D)(s:LS):Rs:=(
 lp (λ(_ _ _ _ _:D)(_:LS)=>none) (p6 φ kk b) φ c d e f g s)
def jZ(φ:Nat):List D→LS→(D→LS→Rs)→Rs:=
λas s kk=>
 u1 as λb e=>
 u1 e λc f=>
 u1 f λg h=>
 u1 h λd k=>
 u1 k λl m=>
 u0 m (
 eJ 1 s b d λn s=>
 eK s n λo s=>
 eJ 1 s b c λp s=>
 eK s p λu s=>
 eJ 1 s b c λv s=>
 eU 1 s v o λ_ s=>
 eJ 1 s b d λw s=>
 eU 1 s w u λ_ s=>
 eZ c (.i .i64 (.ofNat 1)) λy=>
 fA g (.i .i64 (.ofNat 1)) λz=>
 lp (λ(_ _ _ _ _:D)(_:LS)=>none) (p5 φ kk) φ b c l y z s)
def rI(φ:Nat)(kk:D→LS→Rs)(m:D→D→D→D→D→LS→Rs)(n:D→D→D→D→D→LS→Rs)(e h l g f:D)(s:LS):Rs:=(
 wm g f λc=>
 eI c true (λk=>k l s) s λo s=>
 eI c true (λk=>k e s) s λp s=>
 eI c true (λk=>k f s) s λu s=>
 eI c true (λk=>eJ 1 s p u k) s λv s=>
 eI c true (λk=>eK s v k) s λw s=>
 eI c true (λk=>k e s) s λy s=>
 eI c true (λk=>k h s) s λz s=>
 eI c true (λk=>eJ 1 s y z k) s λA s=>
 eI c true (λk=>eK s A k) s λB s=>
 eI c true (λk=>ug (eR φ) false o [w,B] s k) s λC s=>
 eI c true (λk=>fN C (.i .i64 (.ofNat 0)) λd=>k d s) s λE s=>
 eI c true (λk=>qP E s k) s λF s=>
 fY c F (.b false) s λG s=>
 eQ G
(fA f (.i .i64 (.ofNat 1)) λH=>
 n e h l g H s)
(kv g f λI=>
 eQ I
(eJ 1 s e h λJ s=>
 eK s J λK s=>
 eJ 1 s e f λM s=>
 eK s M λN s=>
 eJ 1 s e f λO s=>
 eU 1 s O K λ_ s=>
 eJ 1 s e h λP s=>
 eU 1 s P N λ_ s=>
 kk (.tup [f,(.b false)]) s)
(eJ 1 s e f λS s=>
 eK s S λU s=>
 eJ 1 s e g λV s=>
 eK s V λW s=>
 eJ 1 s e g λX s=>
 eU 1 s X U λ_ s=>
 eJ 1 s e f λY s=>
 eU 1 s Y W λ_ s=>
 eZ g (.i .i64 (.ofNat 1)) λZ=>
 fA f (.i .i64 (.ofNat 1)) λbb=>
 m e h l Z bb s)))
def rH(φ:Nat)(kk:D→LS→Rs)(m:D→D→D→D→D→LS→Rs)(n:D→D→D→D→D→LS→Rs)(e g h f l:D)(s:LS):Rs:=(
 wm f l λc=>
 eI c true (λk=>k h s) s λo s=>
 eI c true (λk=>k e s) s λp s=>
 eI c true (λk=>k f s) s λu s=>
 eI c true (λk=>eJ 1 s p u k) s λv s=>
 eI c true (λk=>eK s v k) s λw s=>
 eI c true (λk=>k e s) s λy s=>
 eI c true (λk=>k g s) s λz s=>
 eI c true (λk=>eJ 1 s y z k) s λA s=>
 eI c true (λk=>eK s A k) s λB s=>
 eI c true (λk=>ug (eR φ) false o [w,B] s k) s λC s=>
 eI c true (λk=>fN C (.i .i64 (.ofNat 0)) λd=>k d s) s λE s=>
 fY c E (.b false) s λF s=>
 eQ F
(eZ f (.i .i64 (.ofNat 1)) λG=>
 n e g h G l s)
(lp (λ(_ _ _ _ _:D)(_:LS)=>none) (rI φ kk m) φ e g h f l s))
def rG(φ:Nat)(kk:D→LS→Rs)(b:D→D→D→D→D→LS→Rs)(c d e f g:D)(s:LS):Rs:=(
 lp (λ(_ _ _ _ _:D)(_:LS)=>none) (rH φ kk b) φ c d e f g s)
def rF(φ:Nat)(kk:D→LS→Rs)(m:D→D→D→D→D→LS→Rs)(e h l g f:D)(s:LS):Rs:=(
 wm g f λc=>
 eI c true (λk=>k l s) s λn s=>
 eI c true (λk=>k e s) s λo s=>
 eI c true (λk=>k f s) s λp s=>
 eI c true (λk=>eJ 1 s o p k) s λu s=>
 eI c true (λk=>eK s u k) s λv s=>
 eI c true (λk=>k e s) s λw s=>
 eI c true (λk=>k h s) s λy s=>
 eI c true (λk=>eJ 1 s w y k) s λz s=>
 eI c true (λk=>eK s z k) s λA s=>
 eI c true (λk=>ug (eR φ) false n [v,A] s k) s λB s=>
 eI c true (λk=>fN B (.i .i64 (.ofNat 0)) λd=>k d s) s λC s=>
 eI c true (λk=>qP C s k) s λE s=>
 fY c E (.b false) s λF s=>
 eQ F
(fA f (.i .i64 (.ofNat 1)) λG=>
 m e h l g G s)
(kv g f λH=>
 eQ H
(eJ 1 s e h λI s=>
 eK s I λJ s=>
 eJ 1 s e f λK s=>
 eK s K λM s=>
 eJ 1 s e f λN s=>
 eU 1 s N J λ_ s=>
 eJ 1 s e h λO s=>
 eU 1 s O M λ_ s=>
 kk (.tup [f,(.b true)]) s)
(eJ 1 s e f λP s=>
 eK s P λS s=>
 eJ 1 s e g λU s=>
 eK s U λV s=>
 eJ 1 s e g λW s=>
 eU 1 s W S λ_ s=>
 eJ 1 s e f λX s=>
 eU 1 s X V λ_ s=>
 eZ g (.i .i64 (.ofNat 1)) λY=>
 fA f (.i .i64 (.ofNat 1)) λZ=>
 lp (λ(_ _ _ _ _:D)(_:LS)=>none) (rG φ kk) φ e h l Y Z s)))
def rE(φ:Nat)(kk:D→LS→Rs)(m:D→D→D→D→D→LS→Rs)(e g h f l:D)(s:LS):Rs:=(
 wm f l λc=>
 eI c true (λk=>k h s) s λn s=>
 eI c true (λk=>k e s) s λo s=>
 eI c true (λk=>k f s) s λp s=>
 eI c true (λk=>eJ 1 s o p k) s λu s=>
 eI c true (λk=>eK s u k) s λv s=>
 eI c true (λk=>k e s) s λw s=>
 eI c true (λk=>k g s) s λy s=>
 eI c true (λk=>eJ 1 s w y k) s λz s=>
 eI c true (λk=>eK s z k) s λA s=>
 eI c true (λk=>ug (eR φ) false n [v,A] s k) s λB s=>
 eI c true (λk=>fN B (.i .i64 (.ofNat 0)) λd=>k d s) s λC s=>
 fY c C (.b false) s λE s=>
 eQ E
(eZ f (.i .i64 (.ofNat 1)) λF=>
 m e g h F l s)
(lp (λ(_ _ _ _ _:D)(_:LS)=>none) (rF φ kk) φ e g h f l s))
def kg(φ:Nat):List D→LS→(D→LS→Rs)→Rs:=
λas s kk=>
 u1 as λb e=>
 u1 e λc f=>
 u1 f λg h=>
 u1 h λd k=>
 u1 k λl m=>
 u0 m (
 eJ 1 s b d λn s=>
 eK s n λo s=>
 eJ 1 s b c λp s=>
 eK s p λu s=>
 eJ 1 s b c λv s=>
 eU 1 s v o λ_ s=>
 eJ 1 s b d λw s=>
 eU 1 s w u λ_ s=>
 eZ c (.i .i64 (.ofNat 1)) λy=>
 fA g (.i .i64 (.ofNat 1)) λz=>
 lp (λ(_ _ _ _ _:D)(_:LS)=>none) (rE φ kk) φ b c l y z s)
def nM(φ:Nat)(kk:D→LS→Rs)(ih:List D→LS→(D→LS→Rs)→Rs)(B:D→D→D→D→D→D→D→LS→Rs)(o h l C p E O:D)(s:LS):Rs:=(
 fA l h λF=>
 wm F (.i .i64 (.ofNat 12)) λbn=>
 eQ bn
((iI φ) [o,h,l,p] s λcl s=>
 kk (.tup []) s)
(iB C (.i .i64 (.ofNat 0)) λbo=>
 eQ bo
((lA φ) [o,h,l,p] s λcm s=>
 kk (.tup []) s)
(jn (λ(y u v P z S U V:D)(s:LS)=>
(kF φ) [y,u,v,z] s λW s=>
 fh W 0 s λX s=>
 fh W 1 s λY s=>
 jn (λ(G H I Z J A K bb bc bp:D)(s:LS)=>
 jn (λ(e g m w f bu bv bw M:D)(s:LS)=>
 kv g (.i .i64 (.ofNat 0)) λc=>
 eI c true (λk=>k f s) s λbz s=>
 eI c true (λk=>k e s) s λbA s=>
 eI c true (λk=>k g s) s λbB s=>
 eI c true (λk=>fA bB (.i .i64 (.ofNat 1)) λd=>k d s) s λbC s=>
 eI c true (λk=>eJ 1 s bA bC k) s λbE s=>
 eI c true (λk=>eK s bE k) s λbF s=>
 eI c true (λk=>k e s) s λbG s=>
 eI c true (λk=>k M s) s λbH s=>
 eI c true (λk=>eJ 1 s bG bH k) s λbI s=>
 eI c true (λk=>eK s bI k) s λbJ s=>
 eI c true (λk=>ug (eR φ) false bz [bF,bJ] s k) s λbK s=>
 eI c true (λk=>fN bK (.i .i64 (.ofNat 0)) λd=>k d s) s λbM s=>
 eI c true (λk=>qP bM s k) s λbN s=>
 fY c bN (.b false) s λbO s=>
 eQ bO
((jZ φ) [e,g,m,M,f] s λbP s=>
 B e bP m w f bu bv s)
((kg φ) [e,g,m,M,f] s λbd s=>
 fh bd 0 s λn s=>
 fh bd 1 s λbf s=>
 fA n g λbg=>
 fA m n λbh=>
 vH bw (.i .i64 (.ofNat 8)) λbi=>
 fN bg bh λbS=>
 eQ bS
(kI bg bi λbU=>
 ih [e,g,n,w,f] s λcn s=>
 eZ n (.i .i64 (.ofNat 1)) λbV=>
 B e bV m w f bU bf s)
(kI bh bi λbW=>
 eZ n (.i .i64 (.ofNat 1)) λbX=>
 ih [e,bX,m,w,f] s λco s=>
 B e g n w f bW bf s))) λbk=>
 eI A true (λk=>k K s) s λbY s=>
 fY A bY (.b false) s λN s=>
 eI N true (λk=>k bp s) s λbZ s=>
 eI N true (λk=>iB bZ (.i .i64 (.ofNat 1)) λd=>k d s) s λcb s=>
 fY N cb (.b false) s λcc s=>
 eQ cc
((iT φ) [G,H,I,J] s λcd s=>
 eQ cd
(kk (.tup []) s)
(bk G H I Z J A K bb bc s))
(bk G H I Z J A K bb bc s)) λbl=>
 iB Y (.i .i64 (.ofNat 2)) λce=>
 eQ ce
((ju φ) [y,u,v,z] s λcp s=>
 fA v (.i .i64 (.ofNat 1)) λcf=>
 fA X u λcg=>
 fA cf cg λch=>
 bl y u v P z S U V ch (.i .i64 (.ofNat 1)) s)
(bl y u v P z S U V X Y s)) λbm=>
 qP E s λci s=>
 eQ ci
((jm φ) [o,h,l,p] s λcu s=>
 fA C (.i .i64 (.ofNat 1)) λck=>
 bm o h l ck p E O F s)
(bm o h l C p E O F s))))
def iL(φ:Nat)(ih:List D→LS→(D→LS→Rs)→Rs):List D→LS→(D→LS→Rs)→Rs:=
λas s kk=>
 u1 as λc d=>
 u1 d λe f=>
 u1 f λg h=>
 u1 h λi k=>
 u1 k λl m=>
 u0 m (
 lp (λ(_ _ _ _ _ _ _:D)(_:LS)=>none) (nM φ kk ih) φ c e g i l (.b true) (.b true) s)
def iK(φ:Nat):List D→LS→(D→LS→Rs)→Rs:=lp (λ_ _ _=>none) (iL φ) φ
def gn(φ:Nat):List D→LS→(D→LS→Rs)→Rs:=
λas s kk=>
 u1 as λb d=>
 u1 d λe f=>
 u0 f (
 ek b s λc s=>
 lr .u64 c s λg s=>
 eS (n5 φ) [g] s λh s=>
(iK φ) [b,(.i .i64 (.ofNat 0)),c,h,e] s λk s=>
 kk (.tup []) s)
def nY(φ:Nat)(n:D→D→D→D→LS→Rs)(o:D→D→D→D→D→D→D→D→D→LS→Rs)(d b e f g h k l c:D)(s:LS):Rs:=(
 fN c l λp=>
 eQ p
(eJ 1 s k c λu s=>
 eK s u λm s=>
 eJ 3 s m e λv s=>
 eT 3 s v λw s=>
(nA φ) [m,b,w] s λB s=>
 eZ c (.i .i64 (.ofNat 1)) λy=>
 o d b e f g h k l y s)
(ie 1 [(.tree [] 0 true)] [(0,1,b)] s λz s=>
 kJ 1 24 s d z λA s=>
 n A f g h s))
def pa(φ:Nat)(m:D→D→D→D→LS→Rs)(n:D→D→D→D→D→D→D→D→D→LS→Rs)(b c e f g h k l d:D)(s:LS):Rs:=(
 fN d l λo=>
 eQ o
(eJ 3 s c d λp s=>
 eT 3 s p λu s=>
 eT 3 s f λv s=>
 eS (mR φ) [u,v] s λw s=>
 eJ 3 s c d λy s=>
 eU 3 s y w λ_ s=>
 eZ d (.i .i64 (.ofNat 1)) λz=>
 n b c e f g h k l z s)
(ek b s λA s=>
 lp (λ(_ _ _ _ _ _ _ _ _:D)(_:LS)=>none) (nY φ m) φ b c e g h k b A (.i .i64 (.ofNat 0)) s))
def je(φ:Nat)(l:D→D→D→D→LS→Rs)(v:D→D→D→D→D→D→D→D→LS→Rs)(d c e f g m o h:D)(s:LS):Rs:=(
 fN h o λw=>
 eQ w
(eJ 1 s m h λy s=>
 eK s y λp s=>
 eS (lC φ) [p] s λz s=>
 eJ 3 s c z λA s=>
 eT 3 s A λB s=>
(nA φ) [c,p,B] s λJ s=>
 eZ h (.i .i64 (.ofNat 1)) λC=>
 v d c e f g m o C s)
(eS (lC φ) [c] s λk s=>
 fN k (.i .i64 (.ofNat 0)) λE=>
 eQ E
(l d e f g s)
(eJ 3 s c k λF s=>
 eT 3 s F λG s=>
 eS (mn φ) [G] s λH s=>
 gG [(.b false),(.n 0),(.n 0)] s λu s=>
 eU 3 s u H λ_ s=>
 ek c s λI s=>
 lp (λ(_ _ _ _ _ _ _ _ _:D)(_:LS)=>none) (pa φ l) φ d c k u e f g I (.i .i64 (.ofNat 0)) s)))
def nX(φ:Nat)(f:D→D→D→D→LS→Rs)(b d e c:D)(s:LS):Rs:=(
 fN c e λg=>
 eQ g
(jn (λ(h k l m:D)(s:LS)=>
 eZ m (.i .i64 (.ofNat 1)) λn=>
 f h k l n s) λo=>
 eJ 1 s d c λp s=>
 eK s p λu s=>
 eS (pP (gK φ)) [u] s λv s=>
 ek b s λw s=>
 lp (λ(_ _ _ _ _ _ _ _:D)(_:LS)=>none) (je φ o) φ b v d e c b w (.i .i64 (.ofNat 0)) s)
((gn φ) [b,(.fn 97 [])] s λy s=>
 eW true s b some))
def mF(φ:Nat):List D→Option D:=
λas=>
(λ(s:LS)=>
 u1 as λb c=>
 u0 c (
 ek b s λd s=>
 lp (λ(_ _ _ _:D)(_:LS)=>none) (nX φ) φ (.tree [] 0 true) b d (.i .i64 (.ofNat 0)) s)) s0
def fk(φ:Nat):List D→Option D:=
λas=>
(λ(s:LS)=>
 u1 as λb c=>
 u0 c (
 wT false s b λd s=>
 eQ d
(eW true s (.tree [] 0 true) some)
(ie 0 [(.tree [] 0 true)] [] s λe s=>
 kJ 1 24 s e b λf s=>
 eW true s f some))) s0
def pb(φ:Nat)(n:D→D→D→D→D→D→LS→Rs)(o:D→D→D→D→D→D→D→D→D→D→LS→Rs)(b e f g c h k l m d:D)(s:LS):Rs:=(
 fN d m λp=>
 eQ p
(eZ b d λu=>
 eS (kd φ) [(.i .i64 (.ofNat 0))] s λv s=>
 eJ 3 s c u λw s=>
 eU 3 s w v λ_ s=>
 eZ d (.i .i64 (.ofNat 1)) λy=>
 o b e f g c h k l m y s)
(eZ b g λz=>
 eS (kd φ) [(.i .i64 (.ofNat 1))] s λA s=>
 eJ 3 s c z λB s=>
 eU 3 s B A λ_ s=>
 ie 1 [(.tree [] 0 true)] [(0,1,c)] s λC s=>
 kJ 1 24 s f C λE s=>
 eZ l (.i .i64 (.ofNat 1)) λF=>
 n b e E h k F s))
def nZ(φ:Nat)(h:D→D→D→D→D→LS→Rs)(e f d g c:D)(s:LS):Rs:=(
 fN c g λk=>
 eQ k
(eZ e c λl=>
 eJ 3 s f l λm s=>
 eT 3 s m λn s=>
 eS (qW φ) [n] s λo s=>
 eJ 3 s d c λp s=>
 eU 3 s p o λ_ s=>
 eZ c (.i .i64 (.ofNat 1)) λu=>
 h e f d g u s)
(eW true s (.tup [d,(.b true)]) some))
def kM(φ:Nat)(w:D→D→D→D→D→D→LS→Rs)(e g c l m h:D)(s:LS):Rs:=(
 fN h m λy=>
 eQ y
(jn (λ(z A B C E F:D)(s:LS)=>
 eZ F (.i .i64 (.ofNat 1)) λG=>
 w z A B C E G s) λo=>
 eJ 1 s l h λH s=>
 eK s H λp s=>
 eS (lC φ) [p] s λu s=>
 fN u e λI=>
 eQ I
(eJ 3 s c u λJ s=>
 eT 3 s J λK s=>
(nA φ) [c,p,K] s λW s=>
 o e g c l m h s)
(o e g c l m h s))
(eS (lC φ) [c] s λM s=>
 kI M (.i .i64 (.ofNat 0)) λf=>
 eI f true (λk=>k c s) s λN s=>
 eI f true (λk=>eS (lC φ) [N] s k) s λO s=>
 eI f true (λk=>k e s) s λP s=>
 eI f true (λk=>fN O P λd=>k d s) s λS s=>
 fY f S (.b false) s λU s=>
 eQ U
(eW true s (.tup [(.tree [] 0 true),(.b false)]) some)
(ku 3 40 [(.b false),(.n 0),(.n 0)] s g g λv s=>
 ek v s λV s=>
 lp (λ(_ _ _ _ _:D)(_:LS)=>none) (nZ φ) φ e c v V (.i .i64 (.ofNat 0)) s)))
def mh(φ:Nat)(o:D→D→D→D→D→D→LS→Rs)(e c f g h d:D)(s:LS):Rs:=(
 fN d h λp=>
 eQ p
(eJ 1 s g d λu s=>
 eK s u λv s=>
 eZ e c λw=>
 eZ w (.i .i64 (.ofNat 1)) λk=>
 ku 3 40 [(.b false),(.n 0),(.n 0)] s k k λl s=>
 Lw 3 s l v λF s=>
 eZ c (.i .i64 (.ofNat 1)) λy=>
 lp (λ(_ _ _ _ _ _ _ _ _ _:D)(_:LS)=>none) (pb φ o) φ e c f d l g h d y (.i .i64 (.ofNat 0)) s)
(eJ 1 s f c λz s=>
 eK s z λA s=>
 eS (pP (gK φ)) [A] s λB s=>
 kn 1 s f none (some c) none λC s=>
 eS (mF φ) [C] s λm s=>
 ek m s λE s=>
 lp (λ(_ _ _ _ _ _:D)(_:LS)=>none) (kM φ) φ e c B m E (.i .i64 (.ofNat 0)) s))
def jo(φ:Nat):List D→Option D:=
λas=>
(λ(s:LS)=>
 u1 as λb e=>
 u1 e λc f=>
 u0 f (
 ek c s λg s=>
 ek b s λh s=>
 eS (pP (fk φ)) [b] s λk s=>
 ie 1 [(.tree [] 0 true)] [(0,1,c)] s λl s=>
 kJ 1 24 s k l λd s=>
 ek d s λm s=>
 lp (λ(_ _ _ _ _ _:D)(_:LS)=>none) (mh φ) φ g h (.tree [] 0 true) d m (.i .i64 (.ofNat 0)) s)) s0
def pF(φ:Nat)(g:D→D→LS→Rs)(f e:D)(s:LS):Rs:=(
 kv e (.i .i64 (.ofNat 0)) λc=>
 eI c true (λk=>k f s) s λh s=>
 eI c true (λk=>k e s) s λl s=>
 eI c true (λk=>fA l (.i .i64 (.ofNat 1)) λd=>k d s) s λm s=>
 eI c true (λk=>eJ 3 s h m k) s λn s=>
 eI c true (λk=>eT 3 s n k) s λo s=>
 eI c true (λk=>eS (jc φ) [o] s k) s λp s=>
 fY c p (.b false) s λu s=>
 eQ u
(fA e (.i .i64 (.ofNat 1)) λv=>
 g f v s)
(kn 3 s f none (some e) (some e) λw s=>
 eW false s w some))
def i9(φ:Nat):List D→Option D:=
λas=>
(λ(s:LS)=>
 u1 as λb c=>
 u0 c (
 ek b s λd s=>
 lp (λ(_ _:D)(_:LS)=>none) (pF φ) φ b d s)) s0
def rZ(φ:Nat):List D→Option D:=
λas=>
(λ(s:LS)=>
 u1 as λg h=>
 u1 h λf l=>
 u0 l (
 gG [(.b false),(.n 0),(.n 0)] s λe s=>
 fN f (.i .i64 (.ofNat 0)) λc=>
 eI c false (λk=>k f s) s λm s=>
 eI c false (λk=>k g s) s λo s=>
 eI c false (λk=>ek o s k) s λp s=>
 eI c false (λk=>kI m p λd=>k d s) s λu s=>
 fY c (.b true) u s λv s=>
 eQ v
(eS (kd φ) [(.i .i64 (.ofNat 0))] s λw s=>
 eU 3 s e w λ_ s=>
 eT 3 s e λy _=>
 eW false s y some)
(eJ 3 s g f λz s=>
 eT 3 s z λA s=>
 eU 3 s e A λ_ s=>
 eT 3 s e λB _=>
 eW false s B some))) s0
def uG(φ:Nat)(f:D→D→D→D→LS→Rs)(d c e b:D)(s:LS):Rs:=(
 fN b e λg=>
 eQ g
(eS (rZ φ) [d,b] s λh s=>
 eJ 3 s c b λk s=>
 eU 3 s k h λ_ s=>
 eZ b (.i .i64 (.ofNat 1)) λl=>
 f d c e l s)
(eW false s c some))
def uH(φ:Nat):List D→Option D:=
λas=>
(λ(s:LS)=>
 u1 as λe f=>
 u1 f λc g=>
 u0 g (
 ku 3 40 [(.b false),(.n 0),(.n 0)] s c c λd s=>
 ek d s λh s=>
 lp (λ(_ _ _ _:D)(_:LS)=>none) (uG φ) φ e d h (.i .i64 (.ofNat 0)) s)) s0
def gO(φ:Nat):List D→Option D:=
λas=>
(λ(s:LS)=>
 u1 as λc d=>
 u0 d (
 wT false s c λe s=>
 eQ e
(eW true s (.tree [] 0 true) some)
(ie 0 [(.b false),(.n 0),(.n 0)] [] s λf s=>
 kJ 3 40 s f c λg s=>
 eW true s g some))) s0
def kV(φ:Nat)(m:D→D→D→D→D→D→LS→Rs)(n:D→D→D→D→D→D→D→D→D→LS→Rs)(e c f g h d k l b:D)(s:LS):Rs:=(
 fN b l λo=>
 eQ o
(eZ d b λp=>
 eZ d b λu=>
 eJ 3 s c u λv s=>
 eT 3 s v λw s=>
 eT 3 s k λy s=>
 eJ 3 s e b λz s=>
 eT 3 s z λA s=>
 eS (mR φ) [y,A] s λB s=>
 eS (sG φ) [w,B] s λC s=>
 eJ 3 s c p λE s=>
 eU 3 s E C λ_ s=>
 eZ b (.i .i64 (.ofNat 1)) λF=>
 n e c f g h d k l F s)
(m e c f g h d s))
def iu(φ:Nat)(m:D→D→D→D→D→D→LS→Rs)(h d e f k c:D)(s:LS):Rs:=(
 kI c (.i .i64 (.ofNat 0)) λo=>
 eQ o
(jn (λ(p u v w y z:D)(s:LS)=>
 fA z (.i .i64 (.ofNat 1)) λA=>
 m p u v w y A s) λl=>
 eZ c e λB=>
 fA B (.i .i64 (.ofNat 1)) λC=>
 eJ 3 s d C λE s=>
 eT 3 s E λF s=>
 eT 3 s k λG s=>
 eS (mR φ) [F,G] s λH s=>
 gG [(.b false),(.n 0),(.n 0)] s λg s=>
 eU 3 s g H λ_ s=>
 eT 3 s g λI s=>
 eJ 3 s f c λJ s=>
 eU 3 s J I λ_ s=>
 eT 3 s g λK s=>
 eS (jc φ) [K] s λM s=>
 eQ M
(l h d e f k c s)
(ek h s λN s=>
 lp (λ(_ _ _ _ _ _ _ _ _:D)(_:LS)=>none) (kV φ l) φ h d e f k c g N (.i .i64 (.ofNat 0)) s))
(eS (i9 φ) [f] s λO s=>
 fA e (.i .i64 (.ofNat 1)) λP=>
 kn 3 s d none (some P) none λS s=>
 eS (i9 φ) [S] s λU s=>
 eW false s (.tup [O,U]) some))
def kU(φ:Nat)(m:D→D→D→D→D→D→D→LS→Rs)(g d h c e k f:D)(s:LS):Rs:=(
 fN f k λo=>
 eQ o
(eS (kd φ) [(.i .i64 (.ofNat 0))] s λp s=>
 eJ 3 s e f λu s=>
 eU 3 s u p λ_ s=>
 eZ f (.i .i64 (.ofNat 1)) λv=>
 m g d h c e k v s)
(fA c (.i .i64 (.ofNat 1)) λw=>
 eJ 3 s d w λy s=>
 eT 3 s y λz s=>
 eS (mn φ) [z] s λA s=>
 gG [(.b false),(.n 0),(.n 0)] s λl s=>
 eU 3 s l A λ_ s=>
 ek g s λB s=>
 fA B c λC=>
 lp (λ(_ _ _ _ _ _:D)(_:LS)=>none) (iu φ) φ d h c e l C s))
def kN(φ:Nat):List D→Option D:=
λas=>
(λ(s:LS)=>
 u1 as λc k=>
 u1 k λe l=>
 u0 l (
 eS (pP (gO φ)) [c] s λf s=>
 ek e s λd s=>
 ek c s λm s=>
 fN m d λo=>
 eQ o
(eW false s (.tup [(.tree [] 0 true),f]) some)
(ek c s λp s=>
 fA p d λu=>
 eZ u (.i .i64 (.ofNat 1)) λg=>
 ku 3 40 [(.b false),(.n 0),(.n 0)] s g g λh s=>
 ek h s λv s=>
 lp (λ(_ _ _ _ _ _ _:D)(_:LS)=>none) (kU φ) φ c e f d h v (.i .i64 (.ofNat 0)) s))) s0
def pB(φ:Nat):List D→Option D:=
λas=>
(λ(s:LS)=>
 u1 as λc d=>
 u1 d λe f=>
 u0 f (
 eS (kN φ) [e,c] s λb s=>
 fh b 0 s λh s=>
 fh b 1 s λg s=>
 eW false s g some)) s0
def n6(φ:Nat)(u:D→D→D→D→D→LS→Rs)(v:D→D→D→D→D→D→D→D→D→D→LS→Rs)(f d e g h k l m o c:D)(s:LS):Rs:=(
 fN c o λw=>
 eQ w
(eJ 3 s m c λy s=>
 eT 3 s y λz s=>
 gG [(.b false),(.n 0),(.n 0)] s λp s=>
 eU 3 s p z λ_ s=>
 eZ e c λA=>
 eZ e c λB=>
 eJ 3 s d B λC s=>
 eT 3 s C λE s=>
 eT 3 s g λF s=>
 eT 3 s p λG s=>
 eS (mR φ) [F,G] s λH s=>
 eS (pI φ) [E,H] s λI s=>
 eJ 3 s d A λJ s=>
 eU 3 s J I λ_ s=>
 eZ c (.i .i64 (.ofNat 1)) λK=>
 v f d e g h k l m o K s)
(u f d h k l s))
def ml(φ:Nat)(l:D→D→D→D→D→LS→Rs)(d e f g c:D)(s:LS):Rs:=(
 fN c g λm=>
 eQ m
(jn (λ(o p u v w:D)(s:LS)=>
 eZ w (.i .i64 (.ofNat 1)) λy=>
 l o p u v y s) λk=>
 eJ 3 s f c λz s=>
 eT 3 s z λA s=>
 gG [(.b false),(.n 0),(.n 0)] s λh s=>
 eU 3 s h A λ_ s=>
 eT 3 s h λB s=>
 eS (jc φ) [B] s λC s=>
 eQ C
(k d e f g c s)
(ek d s λE s=>
 lp (λ(_ _ _ _ _ _ _ _ _ _:D)(_:LS)=>none) (n6 φ k) φ d e c h f g c d E (.i .i64 (.ofNat 0)) s))
(eS (i9 φ) [e] s λF s=>
 eW false s F some))
def mj(φ:Nat)(g:D→D→D→D→D→LS→Rs)(b e c f d:D)(s:LS):Rs:=(
 fN d f λh=>
 eQ h
(eS (kd φ) [(.i .i64 (.ofNat 0))] s λk s=>
 eJ 3 s c d λl s=>
 eU 3 s l k λ_ s=>
 eZ d (.i .i64 (.ofNat 1)) λm=>
 g b e c f m s)
(ek b s λn s=>
 lp (λ(_ _ _ _ _:D)(_:LS)=>none) (ml φ) φ e c b n (.i .i64 (.ofNat 0)) s))
def qi(φ:Nat):List D→Option D:=
λas=>
(λ(s:LS)=>
 u1 as λe l=>
 u1 l λf m=>
 u0 m (
 ek e s λo s=>
 iB o (.i .i64 (.ofNat 0)) λc=>
 eI c false (λk=>k f s) s λp s=>
 eI c false (λk=>ek p s k) s λu s=>
 eI c false (λk=>iB u (.i .i64 (.ofNat 0)) λd=>k d s) s λv s=>
 fY c (.b true) v s λw s=>
 eQ w
(eW false s (.tree [] 0 true) some)
(ek e s λy s=>
 ek f s λz s=>
 eZ y z λA=>
 fA A (.i .i64 (.ofNat 1)) λg=>
 ku 3 40 [(.b false),(.n 0),(.n 0)] s g g λh s=>
 ek h s λB s=>
 lp (λ(_ _ _ _ _:D)(_:LS)=>none) (mj φ) φ e f h B (.i .i64 (.ofNat 0)) s))) s0
def s6(φ:Nat):List D→Option D:=
λas=>
(λ(s:LS)=>
 u1 as λb c=>
 u1 c λd e=>
 u1 e λf g=>
 u0 g (
 eS (qi φ) [d,f] s λh s=>
 eS (pB φ) [b,h] s λi s=>
 eW false s i some)) s0
def Dp(φ:Nat)(f:D→D→D→D→LS→Rs)(c d e b:D)(s:LS):Rs:=(
 fN b e λg=>
 eQ g
(eJ 1 s d b λh s=>
 eK s h λk s=>
 eS (kd φ) [k] s λl s=>
 eJ 3 s c b λm s=>
 eU 3 s m l λ_ s=>
 eZ b (.i .i64 (.ofNat 1)) λn=>
 f c d e n s)
(eS (i9 φ) [c] s λo s=>
 eW false s o some))
def oN(φ:Nat):List D→Option D:=
λas=>
(λ(s:LS)=>
 u1 as λc e=>
 u0 e (
 ek c s λd s=>
 ku 3 40 [(.b false),(.n 0),(.n 0)] s d d λf s=>
 ek c s λg s=>
 lp (λ(_ _ _ _:D)(_:LS)=>none) (Dp φ) φ f c g (.i .i64 (.ofNat 0)) s)) s0
def p9(φ:Nat)(h:D→D→D→D→LS→Rs)(d e f c:D)(s:LS):Rs:=(
 fN c f λk=>
 eQ k
(eJ 3 s e c λl s=>
 eT 3 s l λm s=>
 gG [(.b false),(.n 0),(.n 0)] s λg s=>
 eU 3 s g m λ_ s=>
 eT 3 s g λo s=>
 eS (qW φ) [o] s λp s=>
 ie 1 [(.b false),(.n 0),(.n 0)] [(0,3,p)] s λu s=>
 wi 3 40 s d u λv s=>
 eZ c (.i .i64 (.ofNat 1)) λw=>
 h v e f w s)
(eS (kd φ) [(.i .i64 (.ofNat 1))] s λy s=>
 ie 1 [(.b false),(.n 0),(.n 0)] [(0,3,y)] s λz s=>
 wi 3 40 s d z λA s=>
 eW true s A some))
def p8(φ:Nat)(l:D→D→D→D→LS→Rs)(c e f g:D)(s:LS):Rs:=(
 ek c s λm s=>
 fA m (.i .i64 (.ofNat 1)) λo=>
 eS (uH φ) [g,o] s λh s=>
 eS (jo φ) [f,h] s λk s=>
 fh k 0 s λd s=>
 fh k 1 s λp s=>
 eQ p
(ek d s λu s=>
 eZ u (.i .i64 (.ofNat 1)) λv=>
 ku 3 40 [(.b false),(.n 0),(.n 0)] s (.i .i64 (.ofNat 0)) v λw s=>
 ek d s λy s=>
 lp (λ(_ _ _ _:D)(_:LS)=>none) (p9 φ) φ w d y (.i .i64 (.ofNat 0)) s)
(ie 1 [(.tree [] 0 true)] [(0,1,h)] s λz s=>
 wi 1 24 s f z λA s=>
 eS (s6 φ) [c,g,e] s λB s=>
 l c e A B s))
def s7(φ:Nat):List D→Option D:=
λas=>
(λ(s:LS)=>
 u1 as λb c=>
 u1 c λd e=>
 u0 e (
 ie 1 [(.i .i64 (.ofNat 0))] [(0,1,(.i .i64 (.ofNat 1)))] s λf s=>
 eS (oN φ) [f] s λg s=>
 eS (pB φ) [b,g] s λh s=>
 lp (λ(_ _ _ _:D)(_:LS)=>none) (p8 φ) φ b d (.tree [] 0 true) h s)) s0
def qV(φ:Nat)(h:D→D→D→D→D→D→LS→Rs)(b c d e f g:D)(s:LS):Rs:=(
 fN g f λk=>
 eQ k
(ek b s λl s=>
 fA l (.i .i64 (.ofNat 1)) λm=>
 eS (uH φ) [e,m] s λn s=>
 ie 1 [(.tree [] 0 true)] [(0,1,n)] s λo s=>
 kJ 1 24 s d o λp s=>
 eS (s6 φ) [b,e,c] s λu s=>
 eZ g (.i .i64 (.ofNat 1)) λv=>
 h b c p u f v s)
(eW false s d some))
def uI(φ:Nat):List D→Option D:=
λas=>
(λ(s:LS)=>
 u1 as λb c=>
 u1 c λd e=>
 u1 e λf g=>
 u0 g (
 ie 1 [(.i .i64 (.ofNat 0))] [(0,1,(.i .i64 (.ofNat 1)))] s λh s=>
 eS (oN φ) [h] s λk s=>
 eS (pB φ) [b,k] s λl s=>
 lp (λ(_ _ _ _ _ _:D)(_:LS)=>none) (qV φ) φ b d (.tree [] 0 true) l f (.i .i64 (.ofNat 0)) s)) s0
def kL(φ:Nat):List D→Option D:=
λas=>
(λ(s:LS)=>
 u1 as λc f=>
 u1 f λd g=>
 u1 g λh k=>
 u0 k (
 eS (s7 φ) [c,d] s λl s=>
 ek l s λm s=>
 fA m (.i .i64 (.ofNat 1)) λn=>
 eS (uI φ) [c,d,n] s λo s=>
 ek c s λp s=>
 fA p (.i .i64 (.ofNat 1)) λu=>
 eS (uH φ) [h,u] s λv s=>
 eS (jo φ) [o,v] s λe s=>
 fh e 0 s λw s=>
 fh e 1 s λy s=>
 qP y s λz s=>
 eQ z
(eW false s (.tup [(.tree [] 0 true),(.b false)]) some)
(eS (i9 φ) [w] s λA s=>
 eW false s (.tup [A,(.b true)]) some))) s0
def rJ(φ:Nat)(m:D→D→D→D→D→D→LS→Rs)(d e b f g c:D)(s:LS):Rs:=(
 fN c g λn=>
 eQ n
(eJ 1 s f c λo s=>
 eK s o λp s=>
 eT 1 s b λu s=>
 eS (lZ φ) [u,p] s λh s=>
 nC h (.i .i64 (.ofNat 0)) λv=>
 eQ v
(eW false s (.tup [(.tree [] 0 true),h]) some)
(eZ c (.i .i64 (.ofNat 1)) λw=>
 m d e b f g w s))
(eX 0 s b λy s=>
 eK s y λz s=>
 eS (kL φ) [z,d,e] s λk s=>
 fh k 0 s λl s=>
 fh k 1 s λA s=>
 qP A s λB s=>
 eQ B
(eW false s (.tup [(.tree [] 0 true),(.i .i64 (.ofNat 10))]) some)
(ie 1 [(.tree [] 0 true)] [(0,1,l)] s λC s=>
 eS (tY φ) [C] s λE s=>
 eQ E
(eW false s (.tup [(.tree [] 0 true),(.i .i64 (.ofNat 4))]) some)
(eW false s (.tup [l,(.i .i64 (.ofNat 0))]) some))))
def jE(φ:Nat):List D→Option D:=
λas=>
(λ(s:LS)=>
 u1 as λg h=>
 u1 h λb k=>
 u1 k λc l=>
 u0 l (
 jM g s λd s=>
 eT 1 s d λm s=>
 eS (mA φ) [m] s λe s=>
 nC e (.i .i64 (.ofNat 0)) λn=>
 eQ n
(eW false s (.tup [(.tree [] 0 true),e]) some)
(ie 2 [(.tree [] 0 true)] [(0,1,b),(1,1,c)] s λf s=>
 ek f s λo s=>
 lp (λ(_ _ _ _ _ _:D)(_:LS)=>none) (rJ φ) φ b c d f o (.i .i64 (.ofNat 0)) s))) s0
def hI(φ:Nat):List D→Option D:=
λas=>
(λ(s:LS)=>
 u1 as λh i=>
 u1 i λl m=>
 u0 m (
 jM h s λc s=>
 jM l s λe s=>
 gG [(.b false),(.n 0),(.n 0)] s λf s=>
 eX 2 s c λo s=>
 eK s o λp s=>
 iB p (.n 1) λg=>
 eI g true (λk=>eX 2 s e k) s λu s=>
 eI g true (λk=>eK s u k) s λv s=>
 eI g true (λk=>iB v (.n 1) λd=>k d s) s λw s=>
 fY g w (.b false) s λy s=>
 eQ y
(eX 0 s c λz s=>
 eT 2 s z λA s=>
 eX 0 s e λB s=>
 eT 2 s B λC s=>
 eS (gi φ) [A,C] s λE s=>
 eS (jG φ) [E] s λF s=>
 eU 3 s f F λ_ s=>
 eT 3 s f λG _=>
 eW false s G some)
(eX 0 s c λH s=>
 eT 2 s H λI s=>
 eX 0 s e λJ s=>
 eT 2 s J λK s=>
 eS (gi φ) [I,K] s λM s=>
 eT 3 s c λN s=>
 eS (fW φ) [N] s λO s=>
 eT 3 s e λP s=>
 eS (fW φ) [P] s λS s=>
 eS (gi φ) [O,S] s λU s=>
 eS (mC φ) [M,U] s λV s=>
 eU 3 s f V λ_ s=>
 eT 3 s f λW _=>
 eW false s W some))) s0
def gB(φ:Nat)(u:D→D→D→D→LS→Rs)(v:D→D→D→D→D→D→D→LS→Rs)(l g m f h o c:D)(s:LS):Rs:=(
 fN c o λw=>
 eQ w
(jn (λ(y z A B C E F:D)(s:LS)=>
 eZ F (.i .i64 (.ofNat 1)) λG=>
 v y z A B C E G s) λp=>
 fA f c λH=>
 kI H (.i .i64 (.ofNat 0)) λe=>
 eI e true (λk=>k f s) s λI s=>
 eI e true (λk=>k c s) s λJ s=>
 eI e true (λk=>fA I J λd=>k d s) s λK s=>
 eI e true (λk=>k g s) s λM s=>
 eI e true (λk=>ek M s k) s λN s=>
 eI e true (λk=>fN K N λd=>k d s) s λO s=>
 fY e O (.b false) s λP s=>
 eQ P
(eT 3 s h λS s=>
 eJ 3 s l c λU s=>
 eT 3 s U λV s=>
 fA f c λW=>
 eJ 3 s g W λX s=>
 eT 3 s X λY s=>
 eS (hI φ) [V,Y] s λZ s=>
 eS (jP φ) [S,Z] s λbb s=>
 eU 3 s h bb λ_ s=>
 p l g m f h o c s)
(p l g m f h o c s))
(eT 3 s h λbc s=>
 ie 1 [(.b false),(.n 0),(.n 0)] [(0,3,bc)] s λbd s=>
 kJ 3 40 s m bd λbf s=>
 eZ f (.i .i64 (.ofNat 1)) λbg=>
 u l g bf bg s))
def mL(φ:Nat)(h:D→D→D→D→LS→Rs)(c d e f:D)(s:LS):Rs:=(
 ek c s λk s=>
 ek d s λl s=>
 eZ k l λm=>
 fA m (.i .i64 (.ofNat 1)) λo=>
 fN f o λp=>
 eQ p
(eS (fK φ) [(.i .i64 (.ofNat 0))] s λu s=>
 gG [(.b false),(.n 0),(.n 0)] s λg s=>
 eU 3 s g u λ_ s=>
 ek c s λv s=>
 lp (λ(_ _ _ _ _ _ _:D)(_:LS)=>none) (gB φ h) φ c d e f g v (.i .i64 (.ofNat 0)) s)
(eS (fU φ) [e] s λw s=>
 eW false s w some))
def oF(φ:Nat):List D→Option D:=
λas=>
(λ(s:LS)=>
 u1 as λb c=>
 u1 c λd e=>
 u0 e (
 lp (λ(_ _ _ _:D)(_:LS)=>none) (mL φ) φ b d (.tree [] 0 true) (.i .i64 (.ofNat 0)) s)) s0
def jK(φ:Nat):List D→Option D:=
λas=>
(λ(s:LS)=>
 u1 as λe f=>
 u0 f (
 jM e s λc s=>
 gG [(.b false),(.n 0),(.n 0)] s λd s=>
 eX 0 s c λg s=>
 eX 1 s g λh s=>
 eK s h λi s=>
 iB i (.n 0) λk=>
 eQ k
(eT 3 s c λl s=>
 eU 3 s d l λ_ s=>
 eT 3 s d λm _=>
 eW false s m some)
(eX 0 s c λo s=>
 eX 0 s o λp s=>
 eK s p λu s=>
 eX 2 s c λv s=>
 eK s v λw s=>
 kw [(.b false),(.n 0)] [(0,1,u),(1,1,w)] s λy s=>
 eX 0 s c λz s=>
 eX 1 s z λA s=>
 eK s A λB s=>
 kw [(.b false),(.n 0),(.n 0)] [(0,2,y),(2,1,B)] s λC s=>
 eU 3 s d C λ_ s=>
 eT 3 s d λE _=>
 eW false s E some))) s0
def oK(φ:Nat):List D→Option D:=
λas=>
(λ(s:LS)=>
 u1 as λd e=>
 u1 e λf g=>
 u0 g (
 jM d s λh s=>
 jM f s λi s=>
 gG [(.b false),(.n 0),(.n 0)] s λc s=>
 eT 3 s h λk s=>
 eT 3 s i λl s=>
 eS (jK φ) [l] s λm s=>
 eS (hI φ) [k,m] s λo s=>
 eU 3 s c o λ_ s=>
 eT 3 s c λp _=>
 eW false s p some)) s0
def lF(φ:Nat)(k:D→D→D→D→D→LS→Rs)(d e f g c:D)(s:LS):Rs:=(
 fN c g λl=>
 eQ l
(eJ 3 s f c λm s=>
 eT 3 s m λo s=>
 gG [(.b false),(.n 0),(.n 0)] s λh s=>
 eU 3 s h o λ_ s=>
 eT 3 s h λp s=>
 eT 3 s d λu s=>
 eS (hI φ) [p,u] s λv s=>
 ie 1 [(.b false),(.n 0),(.n 0)] [(0,3,v)] s λw s=>
 kJ 3 40 s e w λy s=>
 eZ c (.i .i64 (.ofNat 1)) λz=>
 k d y f g z s)
(eS (fU φ) [e] s λA s=>
 eW true s A some))
def jv(φ:Nat):List D→Option D:=
λas=>
(λ(s:LS)=>
 u1 as λb c=>
 u1 c λd e=>
 u0 e (
 jM d s λf s=>
 ek b s λg s=>
 lp (λ(_ _ _ _ _:D)(_:LS)=>none) (lF φ) φ f (.tree [] 0 true) b g (.i .i64 (.ofNat 0)) s)) s0
def mc(φ:Nat):List D→Option D:=
λas=>
(λ(s:LS)=>
 u1 as λb c=>
 u1 c λd e=>
 u0 e (
 eS (fK φ) [(.i .i64 (.negSucc 0))] s λf s=>
 eS (jv φ) [d,f] s λg s=>
 eS (mf φ) [b,g] s λh s=>
 eW false s h some)) s0
def kZ(φ:Nat)(f:D→D→D→LS→Rs)(b d c:D)(s:LS):Rs:=(
 ek c s λg s=>
 ek b s λh s=>
 kI g h λi=>
 eQ i
(eS (kQ φ) [c] s λk s=>
 eS (kQ φ) [b] s λl s=>
 eS (oK φ) [k,l] s λm s=>
 ek c s λn s=>
 ek b s λo s=>
 fA n o λp=>
 eS (lG φ) [m,p] s λe s=>
 eS (mf φ) [d,e] s λu s=>
 eS (oF φ) [e,b] s λv s=>
 eS (mc φ) [c,v] s λw s=>
 f b u w s)
(eW false s (.tup [d,c]) some))
def mM(φ:Nat):List D→Option D:=
λas=>
(λ(s:LS)=>
 u1 as λb c=>
 u1 c λd e=>
 u0 e (
 eS (fU φ) [b] s λf s=>
 lp (λ(_ _ _:D)(_:LS)=>none) (kZ φ) φ d (.tree [] 0 true) f s)) s0
def oG(φ:Nat):List D→Option D:=
λas=>
(λ(s:LS)=>
 u1 as λc d=>
 u1 d λe f=>
 u0 f (
 eS (mM φ) [c,e] s λb s=>
 fh b 0 s λh s=>
 fh b 1 s λg s=>
 eW false s g some)) s0
def ig(φ:Nat):List D→Option D:=
λas=>
(λ(s:LS)=>
 u1 as λb c=>
 u1 c λd e=>
 u0 e (
 jM b s λf s=>
 eX 0 s f λg s=>
 eK s g λh s=>
 eS (oG φ) [d,h] s λi s=>
 eW false s i some)) s0
def i8(φ:Nat):List D→Option D:=
λas=>
(λ(s:LS)=>
 u1 as λb c=>
 u1 c λd e=>
 u1 e λf g=>
 u0 g (
 jM b s λh s=>
 eT 1 s h λi s=>
 eS (oF φ) [d,f] s λk s=>
 eS (ig φ) [i,k] s λl s=>
 eW false s l some)) s0
def mJ(φ:Nat)(h:D→D→D→D→LS→Rs)(d e f c:D)(s:LS):Rs:=(
 eT 1 s e λk s=>
 eS (fa φ) [k] s λl s=>
 fN c l λm=>
 eQ m
(jn (λ(o p u v:D)(s:LS)=>
 eZ v (.i .i64 (.ofNat 1)) λw=>
 h o p u w s) λg=>
 ek d s λy s=>
 fN c y λz=>
 eQ z
(eJ 3 s d c λA s=>
 eT 3 s A λB s=>
 ie 1 [(.b false),(.n 0),(.n 0)] [(0,3,B)] s λC s=>
 kJ 3 40 s f C λE s=>
 g d e E c s)
(eS (fK φ) [(.i .i64 (.ofNat 0))] s λF s=>
 ie 1 [(.b false),(.n 0),(.n 0)] [(0,3,F)] s λG s=>
 kJ 3 40 s f G λH s=>
 g d e H c s))
(eW false s f some))
def i7(φ:Nat):List D→Option D:=
λas=>
(λ(s:LS)=>
 u1 as λb c=>
 u1 c λd e=>
 u0 e (
 jM b s λf s=>
 lp (λ(_ _ _ _:D)(_:LS)=>none) (mJ φ) φ d f (.tree [] 0 true) (.i .i64 (.ofNat 0)) s)) s0
def kR(φ:Nat):List D→Option D:=
λas=>
(λ(s:LS)=>
 u1 as λb c=>
 u0 c (
 ek b s λd s=>
 iB d (.i .i64 (.ofNat 0)) λe=>
 eQ e
(eW false s (.i .i64 (.ofNat 0)) some)
(eJ 1 s b (.i .i64 (.ofNat 0)) λf s=>
 eK s f λg s=>
 ek g s λh s=>
 eW false s h some))) s0
def j6(φ:Nat):List D→Option D:=
λas=>
(λ(s:LS)=>
 u1 as λb c=>
 u0 c (
 jM b s λd s=>
 eT 3 s d λe s=>
 eS (iq φ) [e] s λf s=>
 iB f (.i .i64 (.ofNat 0)) λg=>
 eW false s g some)) s0
def ka(φ:Nat)(k:D→D→D→D→D→LS→Rs)(d e f g c:D)(s:LS):Rs:=(
 fN c g λl=>
 eQ l
(eJ 3 s f c λm s=>
 eT 3 s m λo s=>
 gG [(.b false),(.n 0),(.n 0)] s λh s=>
 eU 3 s h o λ_ s=>
 eT 3 s h λp s=>
 eT 3 s d λu s=>
 eS (hI φ) [p,u] s λv s=>
 ie 1 [(.b false),(.n 0),(.n 0)] [(0,3,v)] s λw s=>
 kJ 3 40 s e w λy s=>
 eZ c (.i .i64 (.ofNat 1)) λz=>
 k d y f g z s)
(eW false s e some))
def mO(φ:Nat):List D→Option D:=
λas=>
(λ(s:LS)=>
 u1 as λb c=>
 u1 c λd e=>
 u0 e (
 jM d s λf s=>
 ek b s λg s=>
 lp (λ(_ _ _ _ _:D)(_:LS)=>none) (ka φ) φ f (.tree [] 0 true) b g (.i .i64 (.ofNat 0)) s)) s0
def oL(φ:Nat):List D→Option D:=
λas=>
(λ(s:LS)=>
 u1 as λe f=>
 u0 f (
 jM e s λc s=>
 gG [(.b false),(.n 0)] s λd s=>
 eX 0 s c λg s=>
 eK s g λh s=>
 qP h s λi s=>
 eX 1 s c λk s=>
 eK s k λl s=>
 eS (iH φ) [i,l] s λm s=>
 eU 2 s d m λ_ s=>
 eT 2 s d λo _=>
 eW false s o some)) s0
def oJ(φ:Nat):List D→Option D:=
λas=>
(λ(s:LS)=>
 u1 as λe f=>
 u0 f (
 jM e s λc s=>
 gG [(.b false),(.n 0),(.n 0)] s λd s=>
 eX 0 s c λg s=>
 eT 2 s g λh s=>
 eS (oL φ) [h] s λi s=>
 eX 2 s c λk s=>
 eK s k λl s=>
 kw [(.b false),(.n 0),(.n 0)] [(0,2,i),(2,1,l)] s λm s=>
 eU 3 s d m λ_ s=>
 eT 3 s d λo _=>
 eW false s o some)) s0
def oI(φ:Nat):List D→Option D:=
λas=>
(λ(s:LS)=>
 u1 as λd e=>
 u1 e λf g=>
 u0 g (
 jM d s λh s=>
 jM f s λi s=>
 gG [(.b false),(.n 0),(.n 0)] s λc s=>
 eT 3 s h λk s=>
 eT 3 s i λl s=>
 eS (oJ φ) [l] s λm s=>
 eS (jP φ) [k,m] s λo s=>
 eU 3 s c o λ_ s=>
 eT 3 s c λp _=>
 eW false s p some)) s0
def jB(φ:Nat)(k:D→D→D→D→D→D→LS→Rs)(d e f g h c:D)(s:LS):Rs:=(
 fN c h λl=>
 eQ l
(eJ 3 s d c λm s=>
 eT 3 s m λo s=>
 eT 3 s f λp s=>
 eJ 3 s e c λu s=>
 eT 3 s u λv s=>
 eS (hI φ) [p,v] s λw s=>
 eS (oI φ) [o,w] s λy s=>
 ie 1 [(.b false),(.n 0),(.n 0)] [(0,3,y)] s λz s=>
 kJ 3 40 s g z λA s=>
 eZ c (.i .i64 (.ofNat 1)) λB=>
 k d e f A h B s)
(eW false s g some))
def jJ(φ:Nat):List D→Option D:=
λas=>
(λ(s:LS)=>
 u1 as λc e=>
 u1 e λf g=>
 u1 g λh k=>
 u0 k (
 eJ 3 s c h λl s=>
 eT 3 s l λm s=>
 gG [(.b false),(.n 0),(.n 0)] s λd s=>
 eU 3 s d m λ_ s=>
 eT 3 s d λo s=>
 eS (j6 φ) [o] s λp s=>
 eQ p
(eW false s c some)
(ek c s λu s=>
 lp (λ(_ _ _ _ _ _:D)(_:LS)=>none) (jB φ) φ c f d (.tree [] 0 true) u (.i .i64 (.ofNat 0)) s))) s0
def jD(φ:Nat)(l:D→D→D→D→D→LS→Rs)(m:D→D→D→D→D→D→D→D→LS→Rs)(f b g c e h k d:D)(s:LS):Rs:=(
 fN d k λn=>
 eQ n
(eJ 1 s b d λo s=>
 eK s o λp s=>
 eS (jJ φ) [p,e,c] s λu s=>
 eJ 1 s b d λv s=>
 eU 1 s v u λ_ s=>
 eZ d (.i .i64 (.ofNat 1)) λw=>
 m f b g c e h k w s)
(ie 1 [(.tree [] 0 true)] [(0,1,e)] s λy s=>
 kJ 1 24 s b y λz s=>
 ie 1 [(.i .i64 (.ofNat 0))] [(0,1,c)] s λA s=>
 kJ 1 8 s g A λB s=>
 l f h z B c s))
def iG(φ:Nat)(o:D→D→D→D→D→LS→Rs)(p:D→D→D→D→D→D→D→D→D→D→LS→Rs)(f g c h d k e l m b:D)(s:LS):Rs:=(
 fN b m λu=>
 eQ u
(jn (λ(v w y z A B C E F G:D)(s:LS)=>
 eZ G (.i .i64 (.ofNat 1)) λH=>
 p v w y z A B C E F H s) λn=>
 nC b k λI=>
 eQ I
(eJ 1 s g b λJ s=>
 eK s J λK s=>
 eS (jJ φ) [K,e,d] s λM s=>
 ie 1 [(.tree [] 0 true)] [(0,1,M)] s λN s=>
 kJ 1 24 s l N λO s=>
 n f g c h d k e O m b s)
(n f g c h d k e l m b s))
(ek c s λP s=>
 lp (λ(_ _ _ _ _ _ _ _:D)(_:LS)=>none) (jD φ o) φ f c h d e l P (.i .i64 (.ofNat 0)) s))
def fv(φ:Nat)(o:D→D→D→D→D→LS→Rs)(u:D→D→D→D→D→D→D→D→LS→Rs)(h d l m e f n g:D)(s:LS):Rs:=(
 fN g n λv=>
 eQ v
(jn (λ(w y z A B C E F:D)(s:LS)=>
 eZ F (.i .i64 (.ofNat 1)) λG=>
 u w y z A B C E G s) λp=>
 fN f (.i .i64 (.ofNat 0)) λc=>
 eI c true (λk=>k d s) s λH s=>
 eI c true (λk=>k g s) s λI s=>
 eI c true (λk=>eJ 1 s H I k) s λJ s=>
 eI c true (λk=>eK s J k) s λK s=>
 eI c true (λk=>k e s) s λM s=>
 eI c true (λk=>eJ 3 s K M k) s λN s=>
 eI c true (λk=>eT 3 s N k) s λO s=>
 eI c true (λk=>eS (j6 φ) [O] s k) s λP s=>
 eI c true (λk=>qP P s k) s λS s=>
 fY c S (.b false) s λU s=>
 eQ U
(p h d l m e g n g s)
(p h d l m e f n g s))
(fN f (.i .i64 (.ofNat 0)) λV=>
 eQ V
(o h d l m e s)
(eJ 1 s d f λW s=>
 eK s W λX s=>
 eJ 1 s d f λY s=>
 eK s Y λZ s=>
 eJ 3 s Z e λbb s=>
 eT 3 s bb λbc s=>
 eS (jK φ) [bc] s λbd s=>
 eS (mO φ) [X,bd] s λbf s=>
 ek d s λbg s=>
 lp (λ(_ _ _ _ _ _ _ _ _ _:D)(_:LS)=>none) (iG φ o) φ h d l m e f bf (.tree [] 0 true) bg (.i .i64 (.ofNat 0)) s)))
def jC(φ:Nat)(g:D→D→D→D→D→LS→Rs)(b c d e f:D)(s:LS):Rs:=(
 eS (kR φ) [b] s λh s=>
 fN f h λk=>
 eQ k
(jn (λ(l m n o p:D)(s:LS)=>
 eZ p (.i .i64 (.ofNat 1)) λu=>
 g l m n o u s) λv=>
 ek c s λw s=>
 lp (λ(_ _ _ _ _ _ _ _:D)(_:LS)=>none) (fv φ v) φ b c d e f (.i .i64 (.negSucc 0)) w (.i .i64 (.ofNat 0)) s)
(eW false s (.tup [d,e]) some))
def kC(φ:Nat):List D→Option D:=
λas=>
(λ(s:LS)=>
 u1 as λb c=>
 u0 c (
 ie 0 [(.tree [] 0 true)] [] s λd s=>
 kJ 1 24 s d b λe s=>
 lp (λ(_ _ _ _ _:D)(_:LS)=>none) (jC φ) φ b e (.tree [] 0 true) (.tree [] 0 true) (.i .i64 (.ofNat 0)) s)) s0
def gQ(φ:Nat)(g:D→D→D→D→LS→Rs)(d e f c:D)(s:LS):Rs:=(
 fN c f λh=>
 eQ h
(eJ 1 s e c λk s=>
 eK s k λl s=>
 iB l d λm=>
 eQ m
(eW false s (.tup [c,(.b true)]) some)
(eZ c (.i .i64 (.ofNat 1)) λn=>
 g d e f n s))
(eW false s (.tup [(.i .i64 (.ofNat 0)),(.b false)]) some))
def gk(φ:Nat):List D→Option D:=
λas=>
(λ(s:LS)=>
 u1 as λb c=>
 u1 c λd e=>
 u0 e (
 ek b s λf s=>
 lp (λ(_ _ _ _:D)(_:LS)=>none) (gQ φ) φ d b f (.i .i64 (.ofNat 0)) s)) s0
def io(φ:Nat)(m:D→D→D→D→D→LS→Rs)(d f g h e:D)(s:LS):Rs:=(
 fN e d λo=>
 eQ o
(jn (λ(p u v w y:D)(s:LS)=>
 eZ y (.i .i64 (.ofNat 1)) λz=>
 m p u v w z s) λk=>
 eS (gk φ) [g,e] s λl s=>
 fh l 0 s λA s=>
 fh l 1 s λB s=>
 eQ B
(kS (.pia 1 (.c f) (.c A)) s λC s=>
 kS (.pld1 (.c C)) s λE s=>
 kS (.pia 3 (.c E) (.c d)) s λF s=>
 kS (.pldn 3 (.c F)) s λG s=>
 kS (.pbs 1 [(.b false),(.n 0),(.n 0)] [(0,3,(.c G))]) s λH s=>
 kJ 3 40 s h H λI s=>
 k d f g I e s)
(eS (fK φ) [(.i .i64 (.ofNat 0))] s λJ s=>
 kS (.pbs 1 [(.b false),(.n 0),(.n 0)] [(0,3,(.c J))]) s λK s=>
 kJ 3 40 s h K λM s=>
 k d f g M e s))
(eW true s (.tup [h,(.b true)]) some))
def fx(φ:Nat)(p:D→D→D→D→D→D→LS→Rs)(f g e h k d:D)(s:LS):Rs:=(
 fN d k λu=>
 eQ u
(kS (.pbs 0 [(.b false),(.n 0),(.n 0)] []) s λv s=>
 kS (.pia 1 (.c f) (.c d)) s λw s=>
 kS (.pld1 (.c w)) s λy s=>
 kJ 3 40 s v y λz s=>
 kS (.pia 3 (.c g) (.c d)) s λA s=>
 kS (.pldn 3 (.c A)) s λB s=>
 kS (.pbs 1 [(.b false),(.n 0),(.n 0)] [(0,3,(.c B))]) s λC s=>
 kJ 3 40 s z C λE s=>
 ie 1 [(.tree [] 0 true)] [(0,1,E)] s λF s=>
 kJ 1 24 s h F λG s=>
 eZ d (.i .i64 (.ofNat 1)) λH=>
 p f g e G k H s)
(eS (kC φ) [h] s λl s=>
 fh l 0 s λI s=>
 fh l 1 s λm s=>
 eS (gk φ) [m,e] s λo s=>
 fh o 0 s λK s=>
 fh o 1 s λJ s=>
 eQ J
(eW true s (.tup [(.tree [] 0 true),(.b false)]) some)
(lp (λ(_ _ _ _ _:D)(_:LS)=>none) (io φ) φ e I m (.tree [] 0 true) (.i .i64 (.ofNat 0)) s)))
def fV(φ:Nat):List D→Option D:=
λas=>
(λ(s:LS)=>
 u1 as λb c=>
 u1 c λd e=>
 u0 e (
 eS (kR φ) [b] s λf s=>
 ek b s λg s=>
 lp (λ(_ _ _ _ _ _:D)(_:LS)=>none) (fx φ) φ b d f (.tree [] 0 true) g (.i .i64 (.ofNat 0)) s)) s0
def lg(φ:Nat)(k:D→D→D→D→LS→Rs)(l:D→D→D→D→D→D→LS→Rs)(d c e f g h:D)(s:LS):Rs:=(
 fN h c λm=>
 eQ m
(eS (fK φ) [(.i .i64 (.ofNat 0))] s λo s=>
 ie 1 [(.b false),(.n 0),(.n 0)] [(0,3,o)] s λp s=>
 kJ 3 40 s g p λu s=>
 eZ h (.i .i64 (.ofNat 1)) λv=>
 l d c e f u v s)
(ie 1 [(.tree [] 0 true)] [(0,1,g)] s λw s=>
 kJ 1 24 s e w λy s=>
 eZ f (.i .i64 (.ofNat 1)) λz=>
 k d c y z s))
def lf(φ:Nat)(kk:D→LS→Rs)(e:D→D→D→D→LS→Rs)(b f c d:D)(s:LS):Rs:=(
 fN d b λg=>
 eQ g
(lp (λ(_ _ _ _ _ _:D)(_:LS)=>none) (lg φ e) φ b f c d (.tree [] 0 true) (.i .i64 (.ofNat 0)) s)
(kk c s))
def pR(φ:Nat):List D→LS→(D→LS→Rs)→Rs:=
λas s kk=>
 u1 as λb c=>
 u1 c λd e=>
 u0 e (
 lp (λ(_ _ _ _:D)(_:LS)=>none) (lf φ kk) φ b d (.tree [] 0 true) (.i .i64 (.ofNat 0)) s)
def lI(φ:Nat)(k:D→D→D→D→LS→Rs)(l:D→D→D→D→D→D→D→LS→Rs)(c d e f g h b:D)(s:LS):Rs:=(
 fN b h λm=>
 eQ m
(eJ 1 s d b λn s=>
 eK s n λo s=>
 eJ 1 s c e λp s=>
 eK s p λu s=>
 eJ 3 s u b λv s=>
 eT 3 s v λw s=>
 eJ 3 s o e λy s=>
 eU 3 s y w λ_ s=>
 eZ b (.i .i64 (.ofNat 1)) λz=>
 l c d e f g h z s)
(eZ g (.i .i64 (.ofNat 1)) λA=>
 k c d f A s))
def iV(φ:Nat)(f:D→D→D→D→LS→Rs)(c d e b:D)(s:LS):Rs:=(
 fN b e λg=>
 eQ g
(eJ 1 s c b λh s=>
 eK s h λk s=>
 ek k s λl s=>
 lp (λ(_ _ _ _ _ _ _:D)(_:LS)=>none) (lI φ f) φ c d b e b l (.i .i64 (.ofNat 0)) s)
(eW false s d some))
def gZ(φ:Nat):List D→Option D:=
λas=>
(λ(s:LS)=>
 u1 as λb c=>
 u0 c (
 eS (kR φ) [b] s λd s=>
 ek b s λe s=>
(pR φ) [d,e] s λf s=>
 ek b s λg s=>
 lp (λ(_ _ _ _:D)(_:LS)=>none) (iV φ) φ b f g (.i .i64 (.ofNat 0)) s)) s0
def lE(φ:Nat)(f:D→D→D→LS→Rs)(c d e:D)(s:LS):Rs:=(
 fN e c λg=>
 eQ g
(eS (fK φ) [(.i .i64 (.ofNat 0))] s λh s=>
 ie 1 [(.b false),(.n 0),(.n 0)] [(0,3,h)] s λk s=>
 kJ 3 40 s d k λl s=>
 eZ e (.i .i64 (.ofNat 1)) λm=>
 f c l m s)
(eS (fK φ) [(.i .i64 (.ofNat 1))] s λo s=>
 ie 1 [(.b false),(.n 0),(.n 0)] [(0,3,o)] s λp s=>
 kJ 3 40 s d p λu s=>
 eW false s u some))
def lK(φ:Nat):List D→Option D:=
λas=>
(λ(s:LS)=>
 u1 as λb c=>
 u1 c λd e=>
 u0 e (
 eS (fU φ) [b] s λf s=>
 ek f s λg s=>
 lp (λ(_ _ _:D)(_:LS)=>none) (lE φ) φ d (.tree [] 0 true) g s)) s0
def iF(φ:Nat)(o:D→D→D→D→D→LS→Rs)(g c d e b:D)(s:LS):Rs:=(
 eT 1 s c λp s=>
 eS (fa φ) [p] s λu s=>
 wm b u λv=>
 eQ v
(jn (λ(h f w k y:D)(s:LS)=>
 eT 1 s f λz s=>
 eS (i7 φ) [z,k] s λA s=>
 ie 1 [(.tree [] 0 true)] [(0,1,A)] s λB s=>
 wi 1 24 s w B λC s=>
 eT 1 s f λE s=>
 eS (i8 φ) [E,k,h] s λF s=>
 eZ y (.i .i64 (.ofNat 1)) λG=>
 o h f C F G s) λl=>
 kv b (.i .i64 (.ofNat 0)) λH=>
 eQ H
(eS (gZ φ) [d] s λI s=>
 eT 1 s c λJ s=>
 eS (i7 φ) [J,e] s λK s=>
 eS (fV φ) [I,K] s λm s=>
 fh m 0 s λn s=>
 fh m 1 s λM s=>
 eQ M
(eS (fU φ) [n] s λN s=>
 eS (fK φ) [(.i .i64 (.negSucc 0))] s λO s=>
 eS (jv φ) [N,O] s λP s=>
 eS (lK φ) [n,b] s λS s=>
 wi 3 40 s P S λU s=>
 eW true s U some)
(l g c d e b s))
(l g c d e b s))
(eW true s (.tree [] 0 true) some))
def l7(φ:Nat):List D→Option D:=
λas=>
(λ(s:LS)=>
 u1 as λc d=>
 u1 d λe f=>
 u0 f (
 jM c s λb s=>
 eT 1 s b λg s=>
 ie 1 [(.i .i64 (.ofNat 0))] [(0,1,(.i .i64 (.ofNat 1)))] s λh s=>
 eS (nF φ) [h] s λk s=>
 eS (ig φ) [g,k] s λl s=>
 lp (λ(_ _ _ _ _:D)(_:LS)=>none) (iF φ) φ e b (.tree [] 0 true) l (.i .i64 (.ofNat 0)) s)) s0
def gH(φ:Nat)(m:D→D→D→D→D→D→D→LS→Rs)(d e c f g h k:D)(s:LS):Rs:=(
 fN k f λn=>
 eQ n
(eT 1 s c λo s=>
 eS (i7 φ) [o,h] s λp s=>
 ie 1 [(.tree [] 0 true)] [(0,1,p)] s λu s=>
 kJ 1 24 s g u λv s=>
 eT 1 s c λw s=>
 eS (i8 φ) [w,h,d] s λy s=>
 eZ k (.i .i64 (.ofNat 1)) λz=>
 m d e c f v y z s)
(eS (gZ φ) [g] s λA s=>
 eT 1 s c λB s=>
 eS (i7 φ) [B,e] s λC s=>
 eS (fV φ) [A,C] s λl s=>
 fh l 0 s λE s=>
 fh l 1 s λF s=>
 qP F s λG s=>
 eQ G
(eW false s (.tup [(.tree [] 0 true),(.b false)]) some)
(eS (fU φ) [E] s λH s=>
 eW false s (.tup [H,(.b true)]) some)))
def ga(φ:Nat):List D→Option D:=
λas=>
(λ(s:LS)=>
 u1 as λd e=>
 u1 e λc f=>
 u1 f λg h=>
 u0 h (
 jM d s λb s=>
 eT 1 s b λk s=>
 eS (l7 φ) [k,c] s λl s=>
 ek l s λm s=>
 fA m (.i .i64 (.ofNat 1)) λn=>
 eT 1 s b λo s=>
 ie 1 [(.i .i64 (.ofNat 0))] [(0,1,(.i .i64 (.ofNat 1)))] s λp s=>
 eS (nF φ) [p] s λu s=>
 eS (ig φ) [o,u] s λv s=>
 lp (λ(_ _ _ _ _ _ _:D)(_:LS)=>none) (gH φ) φ c g b n (.tree [] 0 true) v (.i .i64 (.ofNat 0)) s)) s0
def nT(φ:Nat)(g:D→D→D→D→LS→Rs)(d e f c:D)(s:LS):Rs:=(
 fN c f λh=>
 eQ h
(eJ 3 s d c λk s=>
 eT 3 s k λl s=>
 eJ 3 s e c λm s=>
 eT 3 s m λn s=>
 BO true [1,2,2] l n s λo s=>
 eQ o
(eW false s (.b false) some)
(eZ c (.i .i64 (.ofNat 1)) λp=>
 g d e f p s))
(eW false s (.b true) some))
def mB(φ:Nat):List D→Option D:=
λas=>
(λ(s:LS)=>
 u1 as λc e=>
 u1 e λd f=>
 u0 f (
 ek c s λg s=>
 ek d s λh s=>
 nC g h λk=>
 eQ k
(eW false s (.b false) some)
(ek c s λl s=>
 lp (λ(_ _ _ _:D)(_:LS)=>none) (nT φ) φ c d l (.i .i64 (.ofNat 0)) s))) s0
def s5(φ:Nat):List D→Option D:=
λas=>
(λ(s:LS)=>
 u1 as λb c=>
 u0 c (
 wT false s b λd s=>
 eQ d
(eW true s (.tree [] 0 true) some)
(ie 0 [(.i .i64 (.ofNat 0))] [] s λe s=>
 kJ 1 8 s e b λf s=>
 eW true s f some))) s0
def oD(φ:Nat):List D→Option D:=
λas=>
(λ(s:LS)=>
 u1 as λc d=>
 u0 d (
 wT false s c λe s=>
 eQ e
(eW true s (.tree [] 0 true) some)
(ie 0 [(.b false),(.n 0)] [] s λf s=>
 kJ 2 24 s f c λg s=>
 eW true s g some))) s0
end
end Go.Proofs.YthljpappkomocaaGreat
