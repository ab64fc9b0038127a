/- Functions on numbers, integers and polynomials modulo a prime: their residuals, and shorter Lean functions proved to give the same results. -/
import Derived.Test.YthljpappkomocaaGreatA2
import Derived.KernelRfl
set_option linter.all false
set_option maxRecDepth 1000000
set_option maxHeartbeats 0
namespace Go.Proofs.Ev
noncomputable section
def fM(φ:Nat):List D→LS→(D→LS→Rs)→Rs:=
λas s kk=>
 u1 as λg h=>
 u0 h (
 ek g s λl s=>
 lp (λ(_ _:D)(_:LS)=>none) (λ(m:D→D→LS→Rs)(f e:D)(s:LS)=>
 kv e (.i .i64 (.ofNat 0)) λc=>
 eI c true (λk=>k f s) s λn s=>
 eI c true (λk=>k e s) s λo s=>
 eI c true (λk=>fA o (.i .i64 (.ofNat 1)) λd=>k d s) s λp s=>
 eI c true (λk=>eJ 1 s n p k) s λu s=>
 eI c true (λk=>eK s u k) s λv s=>
 eI c true (λk=>iB v (.i .u64 (.ofNat 0)) λd=>k d s) s λw s=>
 fY c w (.b false) s λy s=>
 eQ y
(fA e (.i .i64 (.ofNat 1)) λz=>
 m f z s)
(kn 1 s f none (some e) none λA s=>
 kk A s)) φ g l s)
def uj(φ:Nat):List D→Option D:=
λas=>
(λ(s:LS)=>
 u1 as λz A=>
 u0 A (
(fM φ) [z] s λb s=>
 ek b s λB s=>
 iB B (.i .i64 (.ofNat 0)) λC=>
 eQ C
(eW false s (.n 0) some)
(ek b s λE s=>
 lW (.i .i64 (.ofNat 8)) E λk=>
 ku 1 1 [(.i .u8 (.ofNat 0))] s k k λF s=>
 ek b s λG s=>
 lp (λ(_ _ _ _:D)(_:LS)=>none) (λ(H:D→D→D→D→LS→Rs)(l m o d:D)(s:LS)=>
 fN d o λI=>
 eQ I
(eJ 1 s m d λJ s=>
 eK s J λK s=>
 lp (λ(_ _ _ _ _ _ _:D)(_:LS)=>none) (λ(M:D→D→D→D→D→D→D→LS→Rs)(e p u v w y f:D)(s:LS)=>
 fN f (.i .i64 (.ofNat 8)) λN=>
 eQ N
(ek e s λO s=>
 fA O (.i .i64 (.ofNat 1)) λP=>
 lW (.i .i64 (.ofNat 8)) p λS=>
 fA P S λU=>
 fA U f λV=>
 lW (.i .i64 (.ofNat 8)) f λW=>
 pG u W λX=>
 lr .u8 X s λY s=>
 eJ 1 s e V λZ s=>
 eU 1 s Z Y λ_ s=>
 eZ f (.i .i64 (.ofNat 1)) λbb=>
 M e p u v w y bb s)
(eZ y (.i .i64 (.ofNat 1)) λbc=>
 H e v w bc s)) φ l d K m o d (.i .i64 (.ofNat 0)) s)
(lp (λ(_ _:D)(_:LS)=>none) (λ(bd:D→D→LS→Rs)(g h:D)(s:LS)=>
 eJ 1 s g h λbf s=>
 eK s bf λbg s=>
 iB bg (.i .u8 (.ofNat 0)) λbh=>
 eQ bh
(eZ h (.i .i64 (.ofNat 1)) λbi=>
 bd g bi s)
(kn 1 s g (some h) none none λbk s=>
 kS (.b2s (.c bk)) s λbl s=>
 eW false s bl some)) φ l (.i .i64 (.ofNat 0)) s)) φ F b G (.i .i64 (.ofNat 0)) s))) s0
def rY(φ:Nat):List D→Option D:=
λas=>
(λ(s:LS)=>
 u1 as λe m=>
 u0 m (
 kS (.lens (.c e)) s λn s=>
 eZ n (.i .i64 (.ofNat 7)) λo=>
 vH o (.i .i64 (.ofNat 8)) λg=>
 ku 1 8 [(.i .u64 (.ofNat 0))] s g g λp s=>
 kS (.lens (.c e)) s λu s=>
 lp (λ(_ _ _ _:D)(_:LS)=>none) (λ(v:D→D→D→D→LS→Rs)(f b h d:D)(s:LS)=>
 fN d h λw=>
 eQ w
(kS (.lens (.c f)) s λy s=>
 fA y (.i .i64 (.ofNat 1)) λz=>
 fA z d λk=>
 vH k (.i .i64 (.ofNat 8)) λl=>
 eJ 1 s b l λA s=>
 eK s A λB s=>
 kS (.index (.c f) (.c d)) s λC s=>
 lr .u64 C s λE s=>
 Jo k (.i .i64 (.ofNat 8)) λF=>
 lW (.i .i64 (.ofNat 8)) F λG=>
 wR E G λH=>
 kOr B H λI=>
 eJ 1 s b l λJ s=>
 eU 1 s J I λ_ s=>
 eZ d (.i .i64 (.ofNat 1)) λK=>
 v f b h K s)
((fM φ) [b] s λM s=>
 eW true s M some)) φ e p u (.i .i64 (.ofNat 0)) s)) s0
def pz(φ:Nat):List D→Option D:=
λas=>
(λ(s:LS)=>
 u1 as λb k=>
 u1 k λc l=>
 u0 l (
 v7 b (.i .u64 (.ofNat 4294967295)) λd=>
 pG b (.i .u64 (.ofNat 32)) λe=>
 v7 c (.i .u64 (.ofNat 4294967295)) λf=>
 pG c (.i .u64 (.ofNat 32)) λg=>
 lW d f λm=>
 lW e f λn=>
 pG m (.i .u64 (.ofNat 32)) λo=>
 eZ n o λh=>
 v7 h (.i .u64 (.ofNat 4294967295)) λp=>
 pG h (.i .u64 (.ofNat 32)) λu=>
 lW d g λv=>
 eZ p v λw=>
 lW e g λy=>
 eZ y u λz=>
 pG w (.i .u64 (.ofNat 32)) λA=>
 eZ z A λB=>
 lW b c λC=>
 eW false s (.tup [B,C]) some)) s0
theorem eV{d:D}{r:List D}{k:D→List D→Rs}:u1 (d::r) k=k d r:=rfl
theorem eY{x:Rs}:u0 [] x=x:=rfl
theorem eO{a b:Rs}:eQ (.b true) a b=a:=rfl
theorem eP{a b:Rs}:eQ (.b false) a b=b:=rfl
theorem eM{α:Type}{bot:α}{f:α→α}{n:Nat}:lp bot f (n+1)=f (lp bot f n):=rfl
def n64(w:Nat):D:=.i .u64 (.ofNat w)
def c64(ws:List Nat):List D:=ws.map n64
theorem fT(ws:List Nat):(c64 ws).length=ws.length:=aI _
theorem ky{ws:List Nat}{i w:Nat}(h:ws[i]?=some w):(c64 ws)[i]?=some (.i .u64 (.ofNat w)):=by
 unfold c64;rw[ae,h];rfl
theorem w8(ws:List Nat)(i w:Nat):(c64 ws).set i (.i .u64 (.ofNat w))=c64 (ws.set i w):=by
 unfold c64;rw[d5];rfl
theorem vu:∀(ws:List Nat),(c64 ws).all pY=true
 |[]=>rfl
 |w::ws=>vu ws
theorem vV(n w:Nat):List.replicate n (D.i .u64 (.ofNat w))=c64 (List.replicate n w):=by
 unfold c64;rw[List.map_replicate];rfl
theorem EQ(n:Nat):lY (List.replicate n 0):=λw h=>by
 rw[(List.mem_replicate.1 h).2];decide
theorem FW:∀n,val (List.replicate n 0)=0
 |0=>rfl
 |n+1=>by
  show 0+B64*val (List.replicate n 0)=0;rw[FW n];rfl
theorem AR{ws:List Nat}{j w:Nat}(h:lY ws)(hw:w<B64):lY (ws.set j w):=λx hx=>by
 rcases z24 hx with h1|h1
 ·exact h x h1
 ·rw[h1];exact hw
theorem uA{op:(D→LS→Rs)→Rs}{s:LS}{k:D→LS→Rs}:eI (.b true) true op s k=op k:=rfl
theorem xO{op:(D→LS→Rs)→Rs}{s:LS}{k:D→LS→Rs}:eI (.b false) true op s k=k (.tup []) s:=rfl
theorem fQ{a b:D}{s:LS}{k:D→LS→Rs}:fY (.b true) a b s k=k a s:=rfl
theorem gD{a b:D}{s:LS}{k:D→LS→Rs}:fY (.b false) a b s k=k b s:=rfl
theorem mX{l off len cm z:Nat}{ex:Bool}{s:LS}{k:D→LS→Rs}:ek (.sl l off len cm z ex) s k=k (.i .i64 (.ofNat len)) s:=rfl
theorem ph{cs:List D}{len:Nat}{ex:Bool}{s:LS}{k:D→LS→Rs}:ek (.tree cs len ex) s k=k (.i .i64 (.ofNat len)) s:=rfl
theorem yd{cs:List D}{len h:Nat}{k:D→LS→Rs}(h0:0<len)(hh:h≤len):kn 1 (st1 cs) (.sl 0 0 len len 1 true) none (some (.i .i64 (.ofNat h))) none k=k (.sl 0 0 h len 1 true) (st1 cs):=by
 show(jL (st1 cs) 0 λb=>cnd (lv b.st) (cnd (Nat.ble len len) (cnd (Nat.ble h len) (cnd (Nat.ble 0 h) (cnd (Nat.beq 1 1) (my true λex=>cnd (Nat.blt 0 len) (frc (Nat.add 0 (Nat.mul 0 1)) λoff=>frc (Nat.sub h 0) λl=>frc (Nat.sub len 0) λcm=>k (.sl 0 off l cm 1 ex) (st1 cs)) (k (.tree [] 0 ex) (st1 cs))) none) none) none) none) none)=_;rw[pM,vJ];show cnd (Nat.ble len len) (cnd (Nat.ble h len) (cnd (Nat.ble 0 h) (cnd (Nat.beq 1 1) (my true λex=>cnd (Nat.blt 0 len) (frc (Nat.add 0 (Nat.mul 0 1)) λoff=>frc (Nat.sub h 0) λl=>frc (Nat.sub len 0) λcm=>k (.sl 0 off l cm 1 ex) (st1 cs)) (k (.tree [] 0 ex) (st1 cs))) none) none) none) none=_;rw[aH (aE len),aH hh,aH (a9 h),ew h0];simp only[eL,ij,fB,ei];rfl
theorem O8{ws:List Nat}{len w φ:Nat}{k:D→LS→Rs}(h0:0<len)(hlen:len≤9223372036854775807)(hw:ws[len-1]?=some w)(hne:w≠0):
 fM (φ+1) [.sl 0 0 len len 1 true] (st1 (c64 ws)) k=k (.sl 0 0 len len 1 true) (st1 (c64 ws)):=by
 unfold fM;have hm:len≤jp .i64:=hlen;simp only[eV,eY,mX,eM,oS,ew h0,uA,oi (show 1≤len from h0) hm,oR (show len-1<len by omega),aV,tR (ky hw),rA,gR hne,fQ,eP,yd h0 (aE len)]
def FS(φ:Nat):(D→D→D→D→LS→Rs)→D→D→D→D→LS→Rs:=(λ(q7:D→D→D→D→LS→Rs)(x8 x9 x10 x11:D)(s:LS)=>
 fN x11 x10 λx12=>
 eQ x12
(kS (.lens (.c x8)) s λx13 s=>
 fA x13 (.i .i64 (.ofNat 1)) λx14=>
 fA x14 x11 λx15=>
 vH x15 (.i .i64 (.ofNat 8)) λx16=>
 eJ 1 s x9 x16 λx17 s=>
 eK s x17 λx18 s=>
 kS (.index (.c x8) (.c x11)) s λx19 s=>
 lr .u64 x19 s λx20 s=>
 Jo x15 (.i .i64 (.ofNat 8)) λx21=>
 lW (.i .i64 (.ofNat 8)) x21 λx22=>
 wR x20 x22 λx23=>
 kOr x18 x23 λx24=>
 eJ 1 s x9 x16 λx25 s=>
 eU 1 s x25 x24 λ_ s=>
 eZ x11 (.i .i64 (.ofNat 1)) λx26=>
 q7 x8 x9 x10 x26 s)
(fM φ [x9] s λx27 s=>
 eW true s x27 some))
theorem O0(φ:Nat)(a:D):rY φ [a]=(kS (.lens (.c a)) s0 λx2 s=>
 eZ x2 (.i .i64 (.ofNat 7)) λx3=>
 vH x3 (.i .i64 (.ofNat 8)) λx4=>
 ku 1 8 [(.i .u64 (.ofNat 0))] s x4 x4 λx5 s=>
 kS (.lens (.c a)) s λx6 s=>
 lp (λ(_ _ _ _:D)(_:LS)=>none) (FS φ) φ a x5 x6 (.i .i64 (.ofNat 0)) s):=rfl
theorem Bv{m n W:Nat}(hm:0<m)(hn:n=(ep m).length)(hW:W=(n+7)/8)(hs:n≤1000000000000)(φ:Nat):∀(j i:Nat)(ws:List Nat)(f:Nat),i+j=n→j<f→0<φ→ws.length=W→lY ws→
 val ws=ej ((ep m).take i) 0*256^j→
 lp (λ(_ _ _ _:D)(_:LS)=>none) (FS φ) f (.n m) (.sl 0 0 W W 1 true) (.i .i64 (.ofNat n)) (.i .i64 (.ofNat i)) (st1 (c64 ws))=some (.own (c64 (dg W m)) W 1)
 |0,i,ws,f,hi,hf,hφ,hl,hsm,hv=>by
  obtain⟨f,rfl⟩:∃q,f=q+1:=⟨f-1,by omega⟩
  obtain⟨φ,rfl⟩:∃q,φ=q+1:=⟨φ-1,by omega⟩
  have hin:i=n:=by omega
  subst hin;have hval:val ws=m:=by
   rw[hv,ck,aj,hn,ch,nK]
  have hdg:dg W m=ws:=by rw[←hl,←hval];exact Ru hsm
  obtain⟨hb1,hb2⟩:=tv hm;rw[←hn]at hb1 hb2;have hW0:0<W:=by omega
  have hlt:W-1<ws.length:=by omega
  have hw:=aB hlt;have hne:ws[W-1]≠0:=by
   intro e;have h1:=xi hsm hw;rw[e]at h1;have h2:=yT hsm;have h3:B64^ws.length=B64^(W-1)*B64:=by rw[hl,←ax];congr 1;omega
   have h4:val ws/B64^(W-1)<B64:=by
    rw[h3]at h2;exact de h2
   rw[bL h4]at h1;have h5:val ws<B64^(W-1):=by
    rcases az (val ws) (B64^(W-1))with h|h
    ·exact h
    ·have:=z1q h (bN (by decide));omega
   have h6:B64^(W-1)=256^(8*(W-1)):=by rw[dw]
   have h7:256^(8*(W-1))≤256^(i-1):=bg (by decide) (by omega);omega
  rw[eM];unfold FS;simp only[kE,fE (bC i),eP,O8 hW0 (show W≤9223372036854775807 by omega) hw hne];rw[PD (vu ws) (by rw[fT,hl]),hdg]
 |j+1,i,ws,f,hi,hf,hφ,hl,hsm,hv=>by
  obtain⟨f,rfl⟩:∃q,f=q+1:=⟨f-1,by omega⟩
  have hlt:i<n:=by omega
  have hib:i<(ep m).length:=by rw[←hn];exact hlt
  have hc:=aB hib;generalize hcc:(ep m)[i]=c at hc;have hc8:c.toNat<256:=c.toNat_lt;have hk:n-1-i=j:=by omega
  have hj8:j/8<ws.length:=by rw[hl,hW];omega
  have hw:=aB hj8;obtain⟨o1,o2,o3⟩:=Tu (b:=c.toNat) hsm hw hc8 hv;have hwl:=hsm _ (ak hj8);have h64:c.toNat*2^(8*(j%8))<B64:=by omega
  have hmod:c.toNat*2^(8*(j%8))%18446744073709551616=c.toNat*2^(8*(j%8)):=bL h64;rw[eM];unfold FS;simp only[kE,ew hlt,eO,xu,←hn,oi (show 1≤n by omega) (show n≤jp .i64 from(by show n≤9223372036854775807;omega)),
   oi (show i≤n-1 by omega) (show n-1≤jp .i64 from(by show n-1≤9223372036854775807;omega)),hk,
   GD (show(8:Nat)≠0 by decide) (show j≤jp .i64 from(by show j≤9223372036854775807;omega)),oR (show j/8<W by omega),aV,tR (ky hw),DE hc,
   xM (show c.toNat≤jp .u64 from(by show c.toNat≤18446744073709551615;omega)),Jn (show(8:Nat)≠0 by decide),ye (show 8*(j%8)≤jp .i64 from(by show 8*(j%8)≤9223372036854775807;omega)),
   vS (show 8*(j%8)≤64 by omega),hmod,Vs (show ws[j/8]≤jp .u64 from bZ hwl) (show c.toNat*2^(8*(j%8))≤jp .u64 from bZ h64),o1,
   ux (show j/8<(c64 ws).length by rw[fT];exact hj8),w8,oU (show i+1≤jp .i64 from(by show i+1≤9223372036854775807;omega))]
  refine Bv hm hn hW hs φ j (i+1) _ f (by omega) (by omega) hφ (by rw[bB,hl]) (AR hsm o2) ?_;rw[o3];congr 1;have ht:(ep m).take (i+1)=(ep m).take i++[c]:=by
   rw[bq,hc];rfl
  rw[ht,qM]
theorem Mn{m n W φ:Nat}(hm:0<m)(hn:n=(ep m).length)(hW:W=(n+7)/8)(hs:n≤1000000000000)(hφ:n<φ):rY φ [.n m]=some (.own (c64 (dg W m)) W 1):=by
 rw[O0];obtain⟨hb1,hb2⟩:=tv hm;have h7:n+7≤jp .i64:=by show n+7≤9223372036854775807;omega
 simp only[xu,←hn,oU h7,GD (show(8:Nat)≠0 by decide) h7,←hW,zf (bytes:=8) (z:=.i .u64 (.ofNat 0)) (n:=W) (show W≤140737488355328 by omega) (show W*8≤140737488355328 by omega),vV];refine Bv hm hn hW hs φ n 0 _ φ (by omega) hφ (by omega) (by simp) (EQ W) ?_;rw[FW];simp[ej]
theorem BC{cs:List D}{len i:Nat}{ex:Bool}{d:D}{k2:IntKind}{s:LS}{K:D→LS→Rs}(h:i<len)(hd:cs[i]?=some d):eJ 1 s (.tree cs len ex) (.i k2 (.ofNat i)) K=K (.fp (d::cs.drop (i+1))) s:=by
 show cnd (Nat.blt i len) (jN (Nat.mul i 1) cs λr=>List.rec (motive:=λ_=>Rs) none (λ_ _ _=>K (.fp r) s) r) none=_;rw[ew h,eL,gE];have:cs.drop (Nat.mul i 1)=d::cs.drop (i+1):=by
  rw[show Nat.mul i 1=i from aj i];exact nD hd
 rw[this]
theorem Em{d:D}{r:List D}{s:LS}{K:D→LS→Rs}:eK s (.fp (d::r)) K=K d s:=rfl
theorem xN{cs:List D}{len h:Nat}{ex:Bool}{s:LS}{k:D→LS→Rs}(hh:h≤len)(hl:cs.length=len):kn 1 s (.tree cs len ex) none (some (.i .i64 (.ofNat h))) none k=k (.tree (cs.take h) h (cnd ex (Nat.beq h len) false)) s:=by
 show cnd (Nat.ble len len) (cnd (Nat.ble h len) (cnd (Nat.ble 0 h) (cnd (Nat.beq cs.length (Nat.mul len 1))
  (jN (Nat.mul 0 1) cs λcs=>frc (Nat.sub h 0) λn=>iw (Nat.mul n 1) cs λcs=>
   my (cnd ex (Nat.beq h len) false) λex=>k (.tree cs n ex) s)
  none) none) none) none=_
 rw[aH (aE len),aH hh,aH (a9 h),hl,show Nat.mul len 1=len from aj len,ei];simp only[eL,gE,fB,ij];rw[show Nat.mul 0 1=0 from rfl,am,show Nat.sub h 0=h from rfl,gu,show Nat.mul h 1=h from aj h,aC (by omega)]
def tl(ws:List Nat):Nat→Nat
 |0=>0
 |n+1=>if ws[n]?=some 0 then tl ws n else n+1
theorem EM(ws:List Nat):∀n,tl ws n≤n
 |0=>aE _
 |n+1=>by
  unfold tl;split
  ·have:=EM ws n;omega
  ·exact aE _
theorem Gn:∀(ws:List Nat)(w:Nat),val (ws++[w])=val ws+w*B64^ws.length
 |[],w=>by show w+B64*0=0+w*B64^0;rw[ck];omega
 |x::ws,w=>by
  show x+B64*val (ws++[w])=x+B64*val ws+w*B64^(ws.length+1);rw[Gn ws w,bA,ax];have:B64*(w*B64^ws.length)=w*(B64^ws.length*B64):=by rw[←aa,aK B64 w,aa,aK B64 (B64^ws.length)]
  omega
theorem Iv(ws:List Nat):∀n,n≤ws.length→val (ws.take (tl ws n))=val (ws.take n)
 |0,_=>rfl
 |n+1,h=>by
  unfold tl;split
  ·rename_i h0;rw[Iv ws n (by omega),bq,h0];show _=val (ws.take n++[0]);rw[Gn,bT,bH]
  ·rfl
def At(k:D→LS→Rs):(D→D→LS→Rs)→D→D→LS→Rs:=(λ(q3:D→D→LS→Rs)(x4 x5:D)(s:LS)=>
 kv x5 (.i .i64 (.ofNat 0)) λx6=>
 eI x6 true (λk=>k x4 s) s λx7 s=>
 eI x6 true (λk=>k x5 s) s λx8 s=>
 eI x6 true (λk=>fA x8 (.i .i64 (.ofNat 1)) λd=>k d s) s λx9 s=>
 eI x6 true (λk=>eJ 1 s x7 x9 k) s λx10 s=>
 eI x6 true (λk=>eK s x10 k) s λx11 s=>
 eI x6 true (λk=>iB x11 (.i .u64 (.ofNat 0)) λd=>k d s) s λx12 s=>
 fY x6 x12 (.b false) s λx13 s=>
 eQ x13
(fA x5 (.i .i64 (.ofNat 1)) λx14=>
 q3 x4 x14 s)
(kn 1 s x4 none (some x5) none λx15 s=>
 k x15 s))
theorem zG(φ:Nat)(a:D)(s:LS)(k:D→LS→Rs):fM φ [a] s k=(ek a s λx2 s=>lp (λ(_ _:D)(_:LS)=>none) (At k) φ a x2 s):=rfl
theorem EK{ws:List Nat}{len:Nat}{ex:Bool}{s:LS}{k:D→LS→Rs}(hl:ws.length=len)(hlen:len≤9223372036854775807):∀(n f:Nat),n≤len→n<f→
 lp (λ(_ _:D)(_:LS)=>none) (At k) f (.tree (c64 ws) len ex) (.i .i64 (.ofNat n)) s=k (.tree (c64 (ws.take (tl ws n))) (tl ws n) (cnd ex (Nat.beq (tl ws n) len) false)) s
 |0,f,hn,hf=>by
  obtain⟨f,rfl⟩:∃q,f=q+1:=⟨f-1,by omega⟩
  rw[eM];unfold At;simp only[oS,fE (bC 0),xO,gD,eP,xN (ex:=ex) (a9 len) (show(c64 ws).length=len by rw[fT,hl])];rfl
 |n+1,f,hn,hf=>by
  obtain⟨f,rfl⟩:∃q,f=q+1:=⟨f-1,by omega⟩
  have hlt:n<ws.length:=by omega
  have hw:=aB hlt;rw[eM];unfold At;have hm:n+1≤jp .i64:=by show n+1≤9223372036854775807;omega
  simp only[oS,ew (z27 n),uA,oi (show 1≤n+1 by omega) hm,a8,BC (show n<len by omega) (ky hw),Em,rA,fQ];by_cases h0:ws[n]=0
  ·rw[h0,show Nat.beq 0 0=true from rfl,eO];have ht:tl ws (n+1)=tl ws n:=by
    show(if ws[n]?=some 0 then tl ws n else n+1)=_;rw[hw,h0,aC rfl]
   rw[ht];exact EK hl hlen n f (by omega) (by omega)
  ·rw[gR h0,eP,xN hn (show(c64 ws).length=len by rw[fT,hl])];have ht:tl ws (n+1)=n+1:=by
    show(if ws[n]?=some 0 then tl ws n else n+1)=_;rw[hw,aF (λe=>h0 (cK e))]
   rw[ht];unfold c64;rw[dp]
theorem EJ{ws:List Nat}{len φ:Nat}{ex:Bool}{s:LS}{k:D→LS→Rs}(hl:ws.length=len)(hlen:len≤9223372036854775807)(hφ:len<φ):
 fM φ [.tree (c64 ws) len ex] s k=k (.tree (c64 (ws.take (tl ws len))) (tl ws len) (cnd ex (Nat.beq (tl ws len) len) false)) s:=by
 rw[zG,ph];exact EK hl hlen len φ (aE _) hφ
def n8(w:Nat):D:=.i .u8 (.ofNat w)
def c8(bs:List Nat):List D:=bs.map n8
theorem G6(ws:List Nat):(c8 ws).length=ws.length:=aI _
theorem Xz{ws:List Nat}{i w:Nat}(h:ws[i]?=some w):(c8 ws)[i]?=some (.i .u8 (.ofNat w)):=by
 unfold c8;rw[ae,h];rfl
theorem Xy(ws:List Nat)(i w:Nat):(c8 ws).set i (.i .u8 (.ofNat w))=c8 (ws.set i w):=by
 unfold c8;rw[d5];rfl
def be:Nat→Nat→List Nat
 |0,_=>[]
 |t+1,v=>v/256^t%256::be t v
theorem Ga:∀t v,(be t v).length=t
 |0,_=>rfl
 |t+1,v=>by show(be t v).length+1=t+1;rw[Ga t v]
theorem M6:∀(i t v:Nat),i≤t→(be t v).drop i=be (t-i) v
 |0,t,v,_=>rfl
 |i+1,0,v,h=>by omega
 |i+1,t+1,v,h=>by
  show(be t v).drop i=_;rw[M6 i t v (by omega),show t+1-(i+1)=t-i by omega]
theorem Km(c:Nat)(l:List Nat):∀m,(List.replicate (m+1) 0++l).set m c=List.replicate m 0++c::l
 |0=>rfl
 |m+1=>by
  show 0::(List.replicate (m+1) 0++l).set m c=0::(List.replicate m 0++c::l);rw[Km c l m]
theorem H7:∀(t v:Nat),ej ((be t v).map UInt8.ofNat) 0=v%256^t
 |0,v=>by rw[ck,Nat.mod_one];rfl
 |t+1,v=>by
  show ej ((be t v).map UInt8.ofNat) (0*256+(UInt8.ofNat (v/256^t%256)).toNat)=_;have:(UInt8.ofNat (v/256^t%256)).toNat=v/256^t%256:=by simp
  rw[this,mG,aI,Ga,H7 t v,bT,aV,Nat.mod_pow_succ,aK];omega
theorem Aq:∀(bs:List Nat),xY (c8 bs)=some (bs.map UInt8.ofNat)
 |[]=>rfl
 |b::bs=>by
  show(match xY (c8 bs)with
   |some l=>some (UInt8.ofNat (Int.ofNat b).toNat::l)
   |none=>none)=_
  rw[Aq bs];rfl
theorem Nk{cs:List D}{len i:Nat}{k:D→LS→Rs}(hi:i<len):kn 1 (st1 cs) (.sl 0 0 len len 1 true) (some (.i .i64 (.ofNat i))) none none k=k (.sl 0 i (len-i) (len-i) 1 true) (st1 cs):=by
 show(jL (st1 cs) 0 λb=>cnd (lv b.st) (cnd (Nat.ble len len) (cnd (Nat.ble len len) (cnd (Nat.ble i len) (cnd (Nat.beq 1 1) (my true λex=>cnd (Nat.blt i len) (frc (Nat.add 0 (Nat.mul i 1)) λoff=>frc (Nat.sub len i) λl=>frc (Nat.sub len i) λcm=>k (.sl 0 off l cm 1 ex) (st1 cs)) (k (.tree [] 0 ex) (st1 cs))) none) none) none) none) none)=_;rw[pM,vJ];show cnd (Nat.ble len len) (cnd (Nat.ble len len) (cnd (Nat.ble i len) (cnd (Nat.beq 1 1) (my true λex=>cnd (Nat.blt i len) (frc (Nat.add 0 (Nat.mul i 1)) λoff=>frc (Nat.sub len i) λl=>frc (Nat.sub len i) λcm=>k (.sl 0 off l cm 1 ex) (st1 cs)) (k (.tree [] 0 ex) (st1 cs))) none) none) none) none=_;rw[aH (aE len),aH (dO hi),ew hi];simp only[eL,ij,fB,ei];have:Nat.add 0 (Nat.mul i 1)=i:=by show 0+i*1=i;omega
 rw[this];rfl
theorem Qy{bs:List Nat}{i len c:Nat}{r:List Nat}{K:D→LS→Rs}(hl:bs.length=len)(hd:bs.drop i=c::r)(hc:c<256)(hne:c≠0):
 kS (.b2s (.c (.sl 0 i (len-i) (len-i) 1 true))) (st1 (c8 bs)) K=K (.n (ej ((c::r).map UInt8.ofNat) 0)) (st1 (c8 bs)):=by
 have hcut:cut i ((len-i)*1) (c8 bs)=some (c8 (c::r)):=by
  unfold cut;have h1:(c8 bs).drop i=c8 (c::r):=by
   unfold c8;rw[←List.map_drop,hd]
  have h2:(c::r).length=len-i:=by rw[←hd,dJ,hl]
  rw[h1,aj,aM (by rw[G6,h2];exact aE _)];rw[aC (by rw[G6,h2])]
 have he:evA (st1 (c8 bs)).nx cv (st1 (c8 bs)).get (.b2s (.c (.sl 0 i (len-i) (len-i) 1 true)))=some (.n (ej ((c::r).map UInt8.ofNat) 0),[]):=by
  simp only[evA,cv,cellsOf,vJ,Stt.live,cG,bh,bx,b9,hcut,Aq];have hb:(UInt8.ofNat c).toNat=c:=by simp;omega
  show some (cond (Nat.beq (UInt8.ofNat c).toNat 0) _ _,_)=_;rw[hb,gR hne];rfl
 unfold kS sA;rw[he];show zo _ _=_;rw[sV]
def Ol(x10:D):(D→D→LS→Rs)→D→D→LS→Rs:=(λ(q37:D→D→LS→Rs)(x38 x39:D)(s:LS)=>
 eJ 1 s x38 x39 λx40 s=>
 eK s x40 λx41 s=>
 iB x41 (.i .u8 (.ofNat 0)) λx42=>
 eQ x42
(eZ x39 (.i .i64 (.ofNat 1)) λx43=>
 q37 x38 x43 s)
(kn 1 s x38 (some x39) none none λx44 s=>
 kS (.b2s (.c x44)) s λx45 s=>
 eW false s x45 some))
def Ub(φ:Nat)(q9:D→D→D→D→LS→Rs):(D→D→D→D→D→D→D→LS→Rs)→D→D→D→D→D→D→D→LS→Rs:=(λ(q17:D→D→D→D→D→D→D→LS→Rs)(x18 x19 x20 x21 x22 x23 x24:D)(s:LS)=>
 fN x24 (.i .i64 (.ofNat 8)) λx25=>
 eQ x25
(ek x18 s λx26 s=>
 fA x26 (.i .i64 (.ofNat 1)) λx27=>
 lW (.i .i64 (.ofNat 8)) x19 λx28=>
 fA x27 x28 λx29=>
 fA x29 x24 λx30=>
 lW (.i .i64 (.ofNat 8)) x24 λx31=>
 pG x20 x31 λx32=>
 lr .u8 x32 s λx33 s=>
 eJ 1 s x18 x30 λx34 s=>
 eU 1 s x34 x33 λ_ s=>
 eZ x24 (.i .i64 (.ofNat 1)) λx35=>
 q17 x18 x19 x20 x21 x22 x23 x35 s)
(eZ x23 (.i .i64 (.ofNat 1)) λx36=>
 q9 x18 x21 x22 x36 s))
def QQ(φ:Nat):(D→D→D→D→LS→Rs)→D→D→D→D→LS→Rs:=(λ(q9:D→D→D→D→LS→Rs)(x10 x11 x12 x13:D)(s:LS)=>
 fN x13 x12 λx14=>
 eQ x14
(eJ 1 s x11 x13 λx15 s=>
 eK s x15 λx16 s=>
 lp (λ(_ _ _ _ _ _ _:D)(_:LS)=>none) (Ub φ q9) φ x10 x13 x16 x11 x12 x13 (.i .i64 (.ofNat 0)) s)
(lp (λ(_ _:D)(_:LS)=>none) (Ol x10) φ x10 (.i .i64 (.ofNat 0)) s))
theorem Tj(φ:Nat)(a:D):uj φ [a]=(fM φ [a] s0 λx2 s=>
 ek x2 s λx3 s=>
 iB x3 (.i .i64 (.ofNat 0)) λx4=>
 eQ x4
 (eW false s (.n 0) some)
 (ek x2 s λx5 s=>
 lW (.i .i64 (.ofNat 8)) x5 λx6=>
 ku 1 1 [(.i .u8 (.ofNat 0))] s x6 x6 λx7 s=>
 ek x2 s λx8 s=>
 lp (λ(_ _ _ _:D)(_:LS)=>none) (QQ φ) φ x7 x2 x8 (.i .i64 (.ofNat 0)) s)):=rfl
theorem ET{L v:Nat}{x:D}(hL:L≤1000000000000)(hv:0<v):∀(j i f:Nat),i+j=L→j<f→v<256^j→
 lp (λ(_ _:D)(_:LS)=>none) (Ol x) f (.sl 0 0 L L 1 true) (.i .i64 (.ofNat i)) (st1 (c8 (be L v)))=some (.n v)
 |0,i,f,hi,hf,hlt=>by
  rw[ck]at hlt;omega
 |j+1,i,f,hi,hf,hlt=>by
  obtain⟨f,rfl⟩:∃q,f=q+1:=⟨f-1,by omega⟩
  have hd:(be L v).drop i=v/256^j%256::be j v:=by
   rw[M6 i L v (by omega),show L-i=j+1 by omega];rfl
  have hget:(be L v)[i]?=some (v/256^j%256):=by
   have h1:((be L v).drop i)[0]?=some (v/256^j%256):=by rw[hd];rfl
   rw[bw]at h1;simpa using h1
  have hmod:v/256^j%256=v/256^j:=bL (de (by rw[ax]at hlt;exact hlt));rw[eM];unfold Ol;simp only[oR (show i<L by omega),aV,tR (Xz hget),rA];by_cases h0:v/256^j%256=0
  ·rw[h0,show Nat.beq 0 0=true from rfl,eO,oU (show i+1≤jp .i64 from(by show i+1≤9223372036854775807;omega))];refine ET (x:=x) hL hv j (i+1) f (by omega) (by omega) ?_;rw[hmod]at h0;rcases az v (256^j)with h|h
   ·exact h
   ·have:=z1q h (bN (show 0<256 by decide));omega
  ·rw[gR h0,eP];simp only[Nk (show i<L by omega),Qy (Ga L v) hd (bc _ (by decide)) h0];have he:ej ((v/256^j%256::be j v).map UInt8.ofNat) 0=v:=by
    have:=H7 (j+1) v;rw[bL hlt]at this;exact this
   rw[he];rfl
theorem VO{v i s x:Nat}(hs:s<8)(hx:x=v/B64^i%B64):x/2^(8*s)%256=v/256^(8*i+s)%256:=by
 have e1:256^(8*i+s)=B64^i*2^(8*s):=by
  rw[Tq,Bs,←bX];congr 1;omega
 have e2:B64=2^(8*s)*(256*2^(56-8*s)):=by
  have h1:(256:Nat)=2^8:=rfl;have h2:B64=2^64:=rfl;rw[h1,←bX,←bX,h2];congr 1;omega
 rw[e1,←Nat.div_div_eq_div_mul,hx,e2,Nat.mod_mul_right_div_self,Nat.mod_mul_right_mod]
theorem IH{ws:List Nat}{t L φ i x v:Nat}{ex:Bool}(q:D→D→D→D→LS→Rs)(hL:L=8*t)(hLs:L≤1000000000000)(hi:i<t)(hv:v=val ws)(hx:x=v/B64^i%B64):∀(j s f:Nat),s+j=8→j<f→
 lp (λ(_ _ _ _ _ _ _:D)(_:LS)=>none) (Ub φ q) f (.sl 0 0 L L 1 true) (.i .i64 (.ofNat i)) (.i .u64 (.ofNat x)) (.tree (c64 ws) t ex) (.i .i64 (.ofNat t)) (.i .i64 (.ofNat i)) (.i .i64 (.ofNat s)) (st1 (c8 (List.replicate (L-(8*i+s)) 0++be (8*i+s) v)))
  =q (.sl 0 0 L L 1 true) (.tree (c64 ws) t ex) (.i .i64 (.ofNat t)) (.i .i64 (.ofNat (i+1))) (st1 (c8 (List.replicate (L-8*(i+1)) 0++be (8*(i+1)) v)))
 |0,s,f,hs,hf=>by
  obtain⟨f,rfl⟩:∃q,f=q+1:=⟨f-1,by omega⟩
  have:s=8:=by omega
  subst this;rw[eM];unfold Ub;simp only[kE,show Nat.blt 8 8=false from rfl,eP,oU (show i+1≤jp .i64 from(by show i+1≤9223372036854775807;omega))];rw[show 8*i+8=8*(i+1) by omega]
 |j+1,s,f,hs,hf=>by
  obtain⟨f,rfl⟩:∃q,f=q+1:=⟨f-1,by omega⟩
  have hs8:s<8:=by omega
  rw[eM];unfold Ub;have k1:8*i≤jp .i64:=by show 8*i≤9223372036854775807;omega
  have k2:L≤jp .i64:=by show L≤9223372036854775807;omega
  have k3:L-1≤jp .i64:=by show L-1≤9223372036854775807;omega
  have k4:L-1-8*i≤jp .i64:=by show L-1-8*i≤9223372036854775807;omega
  have k5:8*s≤jp .i64:=by show 8*s≤9223372036854775807;omega
  have k6:s+1≤jp .i64:=by show s+1≤9223372036854775807;omega
  have hidx:L-1-8*i-s<L:=by omega
  have hlen:L-1-8*i-s<(c8 (List.replicate (L-(8*i+s)) 0++be (8*i+s) v)).length:=by
   rw[G6,ay,eC,Ga];omega
  simp only[kE,ew hs8,eO,mX,oi (show 1≤L by omega) k2,ye k1,oi (show 8*i≤L-1 by omega) k3,oi (show s≤L-1-8*i by omega) k4,ye k5,
   uc (show 8*s≤64 by omega),Cy,oR hidx,aV,ux hlen,Xy,oU k6]
  have hset:(List.replicate (L-(8*i+s)) 0++be (8*i+s) v).set (L-1-8*i-s) (x/2^(8*s)%256)=List.replicate (L-(8*i+(s+1))) 0++be (8*i+(s+1)) v:=by
   rw[VO hs8 hx,show L-(8*i+s)=(L-1-8*i-s)+1 by omega,Km,show L-1-8*i-s=L-(8*i+(s+1)) by omega];rfl
  rw[hset];exact IH (φ:=φ) q hL hLs hi hv hx j (s+1) f (by omega) (by omega)
theorem H0{ws:List Nat}{t L φ v:Nat}{ex:Bool}(hsm:lY ws)(hlw:ws.length=t)(hL:L=8*t)(hLs:L≤1000000000000)(hv:v=val ws)(hv0:0<v)(hφ:L+8<φ):∀(j i f:Nat),i+j=t→j<f→
 lp (λ(_ _ _ _:D)(_:LS)=>none) (QQ φ) f (.sl 0 0 L L 1 true) (.tree (c64 ws) t ex) (.i .i64 (.ofNat t)) (.i .i64 (.ofNat i)) (st1 (c8 (List.replicate (L-8*i) 0++be (8*i) v)))=some (.n v)
 |0,i,f,hi,hf=>by
  obtain⟨f,rfl⟩:∃q,f=q+1:=⟨f-1,by omega⟩
  have:i=t:=by omega
  subst this;rw[eM];unfold QQ;simp only[kE,fE (bC i),eP];have hb:List.replicate (L-8*i) 0++be (8*i) v=be L v:=by
   rw[hL,bt];rfl
  rw[hb];refine ET hLs hv0 L 0 φ (by omega) (by omega) ?_;have:=yT hsm;rw[hlw,←hv]at this;rw[hL,dw];exact this
 |j+1,i,f,hi,hf=>by
  obtain⟨f,rfl⟩:∃q,f=q+1:=⟨f-1,by omega⟩
  have hit:i<t:=by omega
  have hlt:i<ws.length:=by omega
  have hw:=aB hlt;rw[eM];unfold QQ;simp only[kE,ew hit,eO,BC hit (ky hw),Em];have h1:=IH (φ:=φ) (ex:=ex) (λa b c d s=>lp (λ(_ _ _ _:D)(_:LS)=>none) (QQ φ) f a b c d s) hL hLs hit hv (x:=ws[i]) (by rw[hv];exact xi hsm hw) 8 0 φ (by omega) (by omega);rw[bH]at h1;refine Eq.trans h1 ?_;exact H0 hsm hlw hL hLs hv hv0 hφ j (i+1) f (by omega) (by omega)
theorem QO{ws:List Nat}{len φ:Nat}{ex:Bool}(hsm:lY ws)(hl:ws.length=len)(hs:len≤100000000000)(hφ:8*len+8<φ):uj φ [.tree (c64 ws) len ex]=some (.n (val ws)):=by
 rw[Tj,EJ hl (by omega) (by omega)];have htl:=EM ws len;have hval:val (ws.take (tl ws len))=val ws:=by
  rw[Iv ws len (by omega),←hl,ch]
 generalize ht:tl ws len=t at*;generalize hws:ws.take t=us at*;have hus:us.length=t:=by rw[←hws,aZ];omega
 have hsu:lY us:=λw hw=>hsm w (br (by rw[hws];exact hw));simp only[ph,rA];by_cases h0:t=0
 ·subst h0;rw[show Nat.beq 0 0=true from rfl,eO];have:us=[]:=z1l.1 hus;rw[this]at hval;have hz:val ws=0:=hval.symm;rw[hz];rfl
 ·rw[gR h0,eP];by_cases hv0:0<val ws
  ·have k1:8*t≤jp .i64:=by show 8*t≤9223372036854775807;omega
   rw[ye k1,zf (by omega) (by omega)];have hr:List.replicate (8*t) (D.i .u8 (.ofNat 0))=c8 (List.replicate (8*t-8*0) 0++be (8*0) (val ws)):=by
    show _=c8 (List.replicate (8*t) 0++[]);unfold c8;rw[ba,List.map_replicate];rfl
   rw[hr];exact H0 hsu hus rfl (by omega) hval.symm hv0 (by omega) t 0 φ (by omega) (by omega)
  ·exfalso;obtain⟨t,rfl⟩:∃q,t=q+1:=⟨t-1,by omega⟩
   have hne:∀(n:Nat),tl ws n=t+1→ws[t]?≠some 0:=by
    intro n
    induction n with
    |zero=>intro h;simp[tl]at h
    |succ n ih=>
     intro h;unfold tl at h;split at h
     ·exact ih h
     ·rename_i h1;have:n=t:=by omega
      rw[←this];exact h1
   have hn:=hne len ht;have hlt:t<us.length:=by omega
   have hg:=aB hlt;have hv:=xi hsu hg;rw[hval,show val ws=0 by omega,Nat.zero_div,Nat.zero_mod]at hv;refine hn ?_;have:(ws.take (t+1))[t]?=some us[t]:=by rw[hws];exact hg
   rw[z1h (by omega)]at this;rw[this,hv]
theorem wN{m:Nat}(h:0<m):(ep m).length=Nat.log2 m/8+1:=by
 obtain⟨h1,h2⟩:=tv h;have h3:m<256^(ep m).length:=by
  have hb:∀(l:List UInt8),ej l 0<256^l.length:=by
   intro l
   induction l with
   |nil=>simp[ej]
   |cons c l ih=>
    show ej l (0*256+c.toNat)<256^(l.length+1);rw[mG,ax];have hc:c.toNat<256:=c.toNat_lt;have h4:(c.toNat+1)*256^l.length≤256*256^l.length:=aL _ hc;rw[aS,bG]at h4;rw[bT,aV,aK (256^l.length)];omega
  have:=hb (ep m);rwa[nK]at this
 have hne:m≠0:=by omega
 rw[Tq]at h1 h3;have a1:=(z1r hne).2 h1;have a2:=(z1Q hne).2 h3;omega
def dgK(n:Nat):Nat→(List D→Rs)→Rs:=
 Nat.rec (motive:=λ_=>Nat→(List D→Rs)→Rs) (λ_ k=>k []) (λ_ ih m k=>frc (Nat.mod m B64) λw=>frc (Nat.div m B64) λm=>ih m λr=>k (.i .u64 (.ofNat w)::r)) n
theorem KU:∀(n m:Nat)(k:List D→Rs),dgK n m k=k (c64 (dg n m))
 |0,m,k=>rfl
 |n+1,m,k=>by
  show frc (Nat.mod m B64) (λw=>frc (Nat.div m B64) λm=>dgK n m λr=>k (.i .u64 (.ofNat w)::r))=_;rw[fB,fB,KU n];rfl
def asM(d:D):Option Nat:=D.rec (motive_1:=λ_=>Option Nat) (motive_2:=λ_=>PUnit.{1}) none (λ_ _=>none) (λ_=>none) (λ_=>none) (λm=>some m) none none (λ_ _ _ _=>none) (λ_ _ _ _=>none) (λ_ _ _ _ _ _=>none) (λ_ _=>none) (λ_ _=>none) (λ_ _=>none) (λ_ _=>none) (λ_ _ _=>none) ⟨⟩ (λ_ _ _ _=>⟨⟩) d
def og(d:D)(k:Nat→Rs):Rs:=ob (asM d) k
theorem iE{d:D}{k:Nat→Rs}{r:D}(h:og d k=some r):∃m,d=.n m∧k m=some r:=by
 cases d with
 |n m=>exact⟨m,rfl,h⟩
 |_=>cases h
def qu(as:List D):Option D:=
 u1 as λa r=>u0 r (og a λm=>cnd (Nat.beq m 0) (some (.tree [] 0 true)) (cnd (Nat.ble (Nat.log2 m) 1000000000) (frc (Nat.succ (Nat.div (Nat.log2 m) 64)) λW=>dgK W m λds=>some (.own ds W 1)) none))
theorem Is:rY 5 [.n 0]=some (.tree [] 0 true):=rfl
theorem jh{as:List D}{k:D→List D→Rs}{r:D}(h:u1 as k=some r):∃a as',as=a::as'∧k a as'=some r:=by
 cases as with
 |nil=>cases h
 |cons a as'=>exact⟨a,as',rfl,h⟩
theorem oX{as:List D}{x:Rs}{r:D}(h:u0 as x=some r):as=[]∧x=some r:=by
 cases as with
 |nil=>exact⟨rfl,h⟩
 |cons a as'=>cases h
theorem It{as:List D}{r:D}(h:qu as=some r):∃φ,rY φ as=some r:=by
 obtain⟨a,as',rfl,h⟩:=jh h;obtain⟨rfl,h⟩:=oX h;obtain⟨m,rfl,h⟩:=iE h
 ·by_cases hm:m=0
  ·subst hm;have h:some (D.tree [] 0 true)=some r:=h;exact⟨5,by rw[Is,h]⟩
  ·have h:cnd (Nat.beq m 0) (some (.tree [] 0 true)) (cnd (Nat.ble (Nat.log2 m) 1000000000) (frc (Nat.succ (Nat.div (Nat.log2 m) 64)) λW=>dgK W m λds=>some (.own ds W 1)) none)=some r:=h;rw[gR hm,e9]at h;obtain⟨h1,h2⟩:=ff h;have h1:=ah h1;rw[fB,KU]at h2;have hl:=wN (show 0<m by omega);have hW:Nat.succ (Nat.div (Nat.log2 m) 64)=((ep m).length+7)/8:=by
    show Nat.log2 m/64+1=_;rw[hl];omega
   refine⟨(ep m).length+1,?_⟩;rw[Mn (show 0<m by omega) rfl hW (by omega) (cR _)];exact h2
def Mp(cs:List D):(Nat→Nat→Rs)→Rs:=
 List.rec (motive:=λ_=>(Nat→Nat→Rs)→Rs) (λk=>k 0 0) (λd _ ih k=>BL d λw=>cnd (Nat.blt w B64) (ih λv n=>frc (Nat.add w (Nat.mul B64 v)) λv=>frc (Nat.succ n) λn=>k v n) none) cs
theorem EH{r:D}:∀{cs:List D}{k:Nat→Nat→Rs},Mp cs k=some r→∃ws,cs=c64 ws∧lY ws∧k (val ws) ws.length=some r
 |[],k,h=>⟨[],rfl,λw hw=>(by cases hw),h⟩
 |d::cs,k,h=>by
  have h:(BL d λw=>cnd (Nat.blt w B64) (Mp cs λv n=>frc (Nat.add w (Nat.mul B64 v)) λv=>frc (Nat.succ n) λn=>k v n) none)=some r:=h;obtain⟨w,rfl,h1⟩:=qa h;obtain⟨h2,h3⟩:=ff h1;obtain⟨ws,rfl,h4,h5⟩:=EH h3;rw[fB,fB]at h5;have h2:w<B64:=by simpa[eF]using h2
  refine⟨w::ws,rfl,λx hx=>?_,h5⟩;rcases bK.1 hx with rfl|hx
  ·exact h2
  ·exact h4 x hx
def sn(as:List D):Option D:=
 u1 as λa r=>u0 r (Fq a (λ_ _ _ _ _ _=>none) (λcs len _=>Mp cs λv n=>cnd (Nat.beq n len) (cnd (Nat.ble len 1000000000) (some (.n v)) none) none) none)
theorem NW{as:List D}{r:D}(h:sn as=some r):∃φ,uj φ as=some r:=by
 obtain⟨a,as',rfl,h⟩:=jh h;obtain⟨rfl,h⟩:=oX h;rcases ru h with⟨l,off,len,cm,z,ex,rfl,h1⟩|⟨cs,len,ex,rfl,h1⟩
 ·cases h1
 ·obtain⟨ws,rfl,h2,h3⟩:=EH h1;obtain⟨h4,h5⟩:=ff h3;obtain⟨h6,h7⟩:=ff h5;have h4:=aU h4;have h6:=ah h6;exact⟨8*len+9,by rw[QO h2 h4 (by omega) (by omega)];exact h7⟩
end
end Go.Proofs.Ev
namespace Go.Proofs.Ev
variable {P:Program} {im:Nat→Option Nat}
def Ml(P:Program)(im:Nat→Option Nat)(fn:Func)(c:Code)(e:Env):Prop:=
 ∃e' σ' d,run .nil 20 (.code (jr P im fn.ntmps c) e Sto.empty)=some (.code .ret e' σ')∧qx e' σ' (fn.results.toList.map (BU P))=some d∧mT false σ'.get fj d=some (.tree [] 0 true)
theorem I9(hm:P.follows .mixedOrders=true){F:FuncId}{fn:Func}(hf:P.funcs[F]?=some fn){c0 cT cB:Code}{id:Nat}{ops:Array Oper}{o0 o1:Oper}{t el yt:TypeId}
 (hb:fn.body=some (.seq c0 (.seq (.seq (.region id ops false) (.cond (.tmp 4) cT .skip)) cB)))
 (hops:ops.toList=[o0,o1]) (g0:o0.guard=none) (g1:o1.guard=none) (d0:o0.dst=some 3) (d1:o1.dst=some 4) (p0:o0.op=.move (.tmp 0))
 (p1:o1.op=.binOp .eql t (.tmp 3) (.const (.slice none 0 0)) yt) (hu:P.underlying t=some (.slice el)) (hnt:5≤fn.ntmps%vQ)
 (hok:fn.results.toList.all (zR P)=true) {ex:Bool} {e0:Env}
 (r0:run .nil 20 (.code (jr P im fn.ntmps c0) (sE .nil 0 [.tree [] 0 ex]) Sto.empty)=some (.code .nrm e0 Sto.empty)) (he0:e0.get 0=some (.tree [] 0 ex))
 (rT:Ml P im fn cT ((e0.set 3 (.tree [] 0 ex)).set 4 (.b true))) (rB:Ml P im fn cB ((e0.set 3 (.tree [] 0 ex)).set 4 (.b false))):
 Gi P im F [.tree [] 0 ex] (.tree [] 0 true):=by
 intro vs w okp hT hbk;have hC:AK P im .nil 20:=(EX hm ⟨λF f en _ h=>(by cases h)⟩ 20).1;refine calls_of_wp hf hb ?_;generalize hQ:bodyPost P fn (λe w'=>match e with
  |.returned v=>RR im okp w w' (.tree [] 0 true) v
  |.outgrown=>False
  |.panicked _=>False)=Q
 have fin:∀(c:Code)(e:Env),Ml P im fn c e→∀(a:Act)(w1:World),St im fn.ntmps okp w.heap.size Sto.empty.get (λ_=>(0,0)) w okp e Sto.empty a w1→∀Q':Exit→Act→World→Prop,(∀a w,Q .ret a w→Q' .ret a w)→c.wp P Q' a w1:=by
  intro c e ⟨e',σ',d,h1,h2,h3⟩ a w1 hst Q' hQ';refine hC _ _ _ _ _ _ _ _ (DP P im _ c) h1 okp w.heap.size Sto.empty.get (λ_=>(0,0)) w okp a w1 Q' hst ?_;intro a' w' ⟨q1,q2,q3,μ,ok,R,hE,hS⟩;refine hQ' a' w' ?_;obtain⟨v,v1,v2⟩:=wx R hE rfl hok h2;have hq:=MQ R (λb hb=>hS.low b hb) hS.sm h3 v2;rw[←hQ];exact⟨q2,v,v1,hq⟩
 have hst0:St im fn.ntmps okp w.heap.size Sto.empty.get (λ_=>(0,0)) w okp (sE .nil 0 [.tree [] 0 ex]) Sto.empty {tmps:=vs.toArray++Array.replicate (fn.ntmps-vs.toArray.size) undef,defers:=[]} w:=
  ⟨λl _=>rfl,rfl,bP (z23 _ _) (by simp;omega),λ_=>(0,0),okp,Rel.empty hbk _,qj.args (rn _ _ hT) _,.refl ..⟩
 refine wp_seq (hC _ _ _ _ _ _ _ _ (DP P im _ c0) r0 okp w.heap.size Sto.empty.get (λ_=>(0,0)) w okp _ w _ hst0 ?_);intro a1 w1 ⟨s1,s2,s3,μ,ok,R,hE,hS⟩;refine wp_seq (wp_seq (wp_region_list ?_));rw[hops];have wanted:∀(o:Oper)(a:Act),o.guard=none→Region.wanted o (yielded ops a.tmps)=true:=by
  intro o a ho;unfold Region.wanted;rw[ho]
 unfold wpList;rw[aC (wanted o0 a1 g0)];refine .inl ?_;have hA0:evA Sto.empty.nx (X.ev e0) Sto.empty.get (cOp P im o0.op)=some (.tree [] 0 ex,[]):=by
  rw[p0];simp only[cOp,evA,cX,X.ev,he0]
 refine(tU R hE _ _ hA0 (λj hj=>by simp at hj)).wp (λv w2 ⟨μ2,ok2,R2,n3,hv⟩=>?_);rw[d0];have hE2:qj im Sto.empty.get μ2 w2 ok2 (e0.set 3 (.tree [] 0 ex)) (a1.put (some 3) v).tmps:=qj.put (dst:=some 3) (e:=e0) (hE.step n3) (λt ht=>(by cases ht;omega)) hv;unfold wpList;rw[aC (wanted o1 _ g1)];refine .inl ?_;have hx:VR im Sto.empty.get μ2 w2 ok2 (.tree [] 0 ex) ((a1.put (some 3) v).eval (.tmp 3)):=by
  have:=hE2 3;have h3:X.ev (e0.set 3 (.tree [] 0 ex)) (.t 3)=.tree [] 0 ex:=by
   show(match (e0.set 3 (.tree [] 0 ex)).get 3 with|some d=>d|none=>.u)=_;rw[Tr.get_set,aC rfl]
  rw[h3]at this;exact this
 simp only[VR,TR]at hx;obtain⟨p,cap,hv3,_,_,_⟩:=hx;have hdone:wc im Sto.empty.get μ2 w2 ok2 okp w.heap.size (sZ Sto.empty.get Sto.empty.nx []) (.b p.isNone) ((execOp (a1.put (some 3) v).eval o1).run P w2):=by
  have ey:(a1.put (some 3) v).eval (.const (.slice none 0 0))=.slice none 0 0:=rfl;have hg:(eqGuard .eql t (.tmp 3) (.const (.slice none 0 0)) (.slice p 0 cap) (.slice none 0 0)).run P w2=.ok () w2:=by simp[eqGuard]
  have h1:=run_equal_slice_nil (P:=P) w2 t el p 0 cap hu;refine gY (nx:=Sto.empty.nx) (v:=.bool p.isNone) R2 (s:=do eqGuard .eql t (.tmp 3) (.const (.slice none 0 0)) ((a1.put (some 3) v).eval (.tmp 3)) ((a1.put (some 3) v).eval (.const (.slice none 0 0)));binOp .eql t ((a1.put (some 3) v).eval (.tmp 3)) ((a1.put (some 3) v).eval (.const (.slice none 0 0)))) (by simp only[execOp,p1]) ?_ (by simp[VR]);rw[hv3,ey];simp only[Sem.run_bind,hg,Result.andThen_ok];simp[binOp,h1]
 refine hdone.wp (λv4 w3 ⟨μ3,ok3,R3,n4,hv4⟩=>?_);rw[d1];unfold wpList;have hE3:qj im Sto.empty.get μ3 w3 ok3 ((e0.set 3 (.tree [] 0 ex)).set 4 (.b p.isNone)) ((a1.put (some 3) v).put (some 4) v4).tmps:=qj.put (dst:=some 4) (e:=e0.set 3 (.tree [] 0 ex)) (hE2.step n4) (λt ht=>(by cases ht;rw[pW];omega)) hv4;have hst3:St im fn.ntmps okp w.heap.size Sto.empty.get (λ_=>(0,0)) w okp ((e0.set 3 (.tree [] 0 ex)).set 4 (.b p.isNone)) Sto.empty ((a1.put (some 3) v).put (some 4) v4) w3:=
  ⟨s1,by rw[nJ,nJ];exact s2,by rw[pW,pW];exact s3,μ3,ok3,R3,hE3,(hS.trans n3).trans n4⟩
 have h4:((a1.put (some 3) v).put (some 4) v4).eval (.tmp 4)=.bool p.isNone:=by
  have:=hE3 4;have h5:X.ev ((e0.set 3 (.tree [] 0 ex)).set 4 (.b p.isNone)) (.t 4)=.b p.isNone:=by
   show(match ((e0.set 3 (.tree [] 0 ex)).set 4 (.b p.isNone)).get 4 with|some d=>d|none=>.u)=_;rw[Tr.get_set,aC rfl]
  rw[h5]at this;simp only[VR]at this;exact this
 cases hp:p.isNone with
 |true=>
  rw[hp]at h4 hst3;exact wp_cond_true h4 (fin cT _ rT _ _ hst3 _ (λ_ _ h=>h))
 |false=>
  rw[hp]at h4 hst3;exact wp_cond_false h4 (wp_skip (fin cB _ rB _ _ hst3 _ (λ_ _ h=>h)))
def bod(fn:Func):Code:=match fn.body with
 |some c=>c
 |none=>.skip
def On:Code→Code
 |.seq a _=>a
 |c=>c
def JC:Code→Code
 |.seq _ b=>b
 |c=>c
def ZR:Code→Code
 |.cond _ a _=>a
 |c=>c
def Wb:Code→Array Oper
 |.region _ ops _=>ops
 |_=> #[]
def Zl:Code→Nat
 |.region id _ _=>id
 |_=>0
def clR(fn:Func):Code:=On (On (JC (bod fn)))
def clC(fn:Func):Code:=JC (On (JC (bod fn)))
def clO(fn:Func)(i:Nat):Oper:=((Wb (clR fn)).toList[i]?).getD default
def clT(fn:Func):TypeId×TypeId:=match (clO fn 1).op with
 |.binOp _ t _ _ yt=>(t,yt)
 |_=>(0,0)
def clE(P:Program)(fn:Func):TypeId:=match P.underlying (clT fn).1 with
 |some (.slice el)=>el
 |_=>0
def cl0(ex:Bool):Env:=Tr.set (sE .nil 0 [.tree [] 0 ex]) 2 (.tree [] 0 true)
def Uu(P:Program)(im:Nat→Option Nat)(fn:Func)(c:Code)(e:Env):Option D:=
 match run .nil 20 (.code (jr P im fn.ntmps c) e Sto.empty)with
 |some (.code x e' σ')=>match x with
  |.ret=>match qx e' σ' (fn.results.toList.map (BU P))with
   |some d=>mT false σ'.get fj d
   |none=>none
  |_=>none
 |_=>none
theorem FE{fn:Func}{c:Code}{e:Env}(h:Uu P im fn c e=some (.tree [] 0 true)):Ml P im fn c e:=by
 unfold Uu at h;split at h
 ·rename_i x e' σ' hr;split at h
  ·split at h
   ·rename_i d hd;exact⟨e',σ',d,hr,hd,h⟩
   ·cases h
  ·cases h
 ·cases h
theorem vB(hm:P.follows .mixedOrders=true){F:FuncId}{fn:Func}(hf:P.funcs[F]?=some fn)
 (hb:fn.body=some (.seq (On (bod fn)) (.seq (.seq (.region (Zl (clR fn)) (Wb (clR fn)) false) (.cond (.tmp 4) (ZR (clC fn)) .skip)) (JC (JC (bod fn))))))
 (hops:(Wb (clR fn)).toList=[clO fn 0,clO fn 1])
 (hd:((clO fn 0).guard,(clO fn 1).guard,(clO fn 0).dst,(clO fn 1).dst)=(none,none,some 3,some 4)) (p0:(clO fn 0).op=.move (.tmp 0))
 (p1:(clO fn 1).op=.binOp .eql (clT fn).1 (.tmp 3) (.const (.slice none 0 0)) (clT fn).2) (hu:P.underlying (clT fn).1=some (.slice (clE P fn))) (hnt:Nat.ble 5 (fn.ntmps%vQ)=true)
 (hok:fn.results.toList.all (zR P)=true)
 (r0:(λex=>run .nil 20 (.code (jr P im fn.ntmps (On (bod fn))) (sE .nil 0 [.tree [] 0 ex]) Sto.empty))=λex=>some (.code .nrm (cl0 ex) Sto.empty))
 (rT:(λex=>Uu P im fn (ZR (clC fn)) (((cl0 ex).set 3 (.tree [] 0 ex)).set 4 (.b true)))=λ_=>some (.tree [] 0 true))
 (rB:(λex=>Uu P im fn (JC (JC (bod fn))) (((cl0 ex).set 3 (.tree [] 0 ex)).set 4 (.b false)))=λ_=>some (.tree [] 0 true)) (ex:Bool):
 Gi P im F [.tree [] 0 ex] (.tree [] 0 true):=by
 simp only[aJ]at hd;exact I9 hm hf hb hops hd.1 hd.2.1 hd.2.2.1 hd.2.2.2 p0 p1 hu (ah hnt) hok (congrFun r0 ex) rfl (FE (congrFun rT ex)) (FE (congrFun rB ex))
noncomputable section
def pP(R:List D→Option D)(as:List D):Option D:=
 u1 as λa r=>u0 r (Fq a (λ_ _ _ _ _ _=>none) (λcs len ex=>List.rec (motive:=λ_=>Rs) (cnd (Nat.beq len 0) (some (.tree [] 0 true)) none) (λ_ _ _=>R [a]) cs) none)
theorem OK{F:FuncId}{R:List D→Option D}(hR:Snd P im F R)(h:∀ex,Gi P im F [.tree [] 0 ex] (.tree [] 0 true)):Snd P im F (pP R):=by
 intro as r hr;obtain⟨a,as',rfl,h1⟩:=jh hr;obtain⟨rfl,h2⟩:=oX h1;rcases ru h2 with⟨l,off,len,cm,z,ex,rfl,h3⟩|⟨cs,len,ex,rfl,h3⟩
 ·cases h3
 ·cases cs with
  |nil=>
   have h3:cnd (Nat.beq len 0) (some (D.tree [] 0 true)) none=some r:=h3;obtain⟨h4,h5⟩:=ff h3;have:=aU h4;subst this;cases h5;exact h ex
  |cons c cs=>exact hR _ _ h3
end
end Go.Proofs.Ev
namespace Go.Proofs.Ev
noncomputable section
theorem XN{kk:IntKind}{a b:Nat}{k:D→Rs}(ha:a≤jp kk)(hb:b≤jp kk):v7 (.i kk (.ofNat a)) (.i kk (.ofNat b)) k=k (.i kk (.ofNat (a&&&b))):=by
 unfold v7 inK;rw[qL,aH ha,aH hb,eL,eL,fB];rfl
theorem UX{a b:Nat}{k:D→Rs}:lW (.i .u64 (.ofNat a)) (.i .u64 (.ofNat b)) k=k (.i .u64 (.ofNat (a*b%B64))):=by
 unfold lW;rw[qL];exact A8
theorem YG(a:Nat):a&&&4294967295=a%4294967296:=z1F a 32
theorem m32:(4294967295:Nat)≤jp .u64:=ah rfl
theorem GF{x:Nat}{K:D→Rs}(h:x<18446744073709551616):v7 (.i .u64 (.ofNat x)) (.i .u64 (.ofNat 4294967295)) K=K (.i .u64 (.ofNat (x%4294967296))):=by rw[XN (bZ h) m32,YG]
theorem Bc{a b:Nat}{K:D→Rs}(h:a+b<18446744073709551616):eZ (.i .u64 (.ofNat a)) (.i .u64 (.ofNat b)) K=K (.i .u64 (.ofNat (a+b))):=oU (bZ h)
theorem Ba{a b:Nat}{K:D→Rs}(h:a*b<18446744073709551616):lW (.i .u64 (.ofNat a)) (.i .u64 (.ofNat b)) K=K (.i .u64 (.ofNat (a*b))):=ye (bZ h)
theorem CK{a:Nat}{k:D→Rs}:pG (.i .u64 (.ofNat a)) (.i .u64 (.ofNat 32)) k=k (.i .u64 (.ofNat (a/4294967296))):=uc (by decide)
theorem X6(L M:Nat)(hM:L*L=M)(x1 x0 y1 y0:Nat):(x1*L+x0)*(y1*L+y0)=x1*y1*M+(x1*y0+x0*y1)*L+x0*y0:=by
 subst hM;simp only[aS,bA];have a1:x1*L*(y1*L)=x1*y1*(L*L):=by rw[aa,cZ L,←aa x1]
 have a2:x1*L*y0=x1*y0*L:=by rw[aa,aK L,←aa]
 have a3:x0*(y1*L)=x0*y1*L:=by rw[aa]
 rw[a1,a2,a3];omega
theorem NZ{x y φ:Nat}(hx:x<B64)(hy:y<B64):pz φ [n64 x,n64 y]=some (.tup [n64 (x*y/B64),n64 (x*y%B64)]):=by
 have hx':x<18446744073709551616:=hx;have hy':y<18446744073709551616:=hy;have hx0:x%4294967296≤4294967295:=by omega
 have hx1:x/4294967296≤4294967295:=by omega
 have hy0:y%4294967296≤4294967295:=by omega
 have hy1:y/4294967296≤4294967295:=by omega
 have ha:=cA hx0 hy0;have hb:=cA hx1 hy0;have hc:=cA hx0 hy1;have hd:=cA hx1 hy1;have hP:x*y=(x/4294967296)*(y/4294967296)*B64+((x/4294967296)*(y%4294967296)+(x%4294967296)*(y/4294967296))*4294967296+(x%4294967296)*(y%4294967296):=by
  have e:=X6 4294967296 B64 rfl (x/4294967296) (x%4294967296) (y/4294967296) (y%4294967296);rw[show x/4294967296*4294967296+x%4294967296=x by omega,show y/4294967296*4294967296+y%4294967296=y by omega]at e;exact e
 have hhi:x*y/B64=(x/4294967296)*(y/4294967296)+((x/4294967296)*(y%4294967296)+(x%4294967296)*(y%4294967296)/4294967296)/4294967296+(((x/4294967296)*(y%4294967296)+(x%4294967296)*(y%4294967296)/4294967296)%4294967296+(x%4294967296)*(y/4294967296))/4294967296:=by
  rw[hP];generalize (x/4294967296)*(y/4294967296)=d at*;generalize (x/4294967296)*(y%4294967296)=b at*;generalize (x%4294967296)*(y/4294967296)=c at*;generalize (x%4294967296)*(y%4294967296)=a at*;show(d*18446744073709551616+(b+c)*4294967296+a)/18446744073709551616=_;omega
 rw[hhi];clear hhi hP;have t0:(x%4294967296)*(y%4294967296)<18446744073709551616:=by omega
 have tb:(x/4294967296)*(y%4294967296)<18446744073709551616:=by omega
 have tc:(x%4294967296)*(y/4294967296)<18446744073709551616:=by omega
 have td:(x/4294967296)*(y/4294967296)<18446744073709551616:=by omega
 have t1:(x/4294967296)*(y%4294967296)+(x%4294967296)*(y%4294967296)/4294967296<18446744073709551616:=by omega
 have t2:((x/4294967296)*(y%4294967296)+(x%4294967296)*(y%4294967296)/4294967296)%4294967296+(x%4294967296)*(y/4294967296)<18446744073709551616:=by omega
 have t3:(x/4294967296)*(y/4294967296)+((x/4294967296)*(y%4294967296)+(x%4294967296)*(y%4294967296)/4294967296)/4294967296<18446744073709551616:=by omega
 have t4:(x/4294967296)*(y/4294967296)+((x/4294967296)*(y%4294967296)+(x%4294967296)*(y%4294967296)/4294967296)/4294967296+(((x/4294967296)*(y%4294967296)+(x%4294967296)*(y%4294967296)/4294967296)%4294967296+(x%4294967296)*(y/4294967296))/4294967296<18446744073709551616:=by omega
 unfold pz n64;simp only[eV,eY];refine(GF hx').trans ?_;refine CK.trans ?_;refine(GF hy').trans ?_;refine CK.trans ?_;refine(Ba t0).trans ?_;refine(Ba tb).trans ?_;refine CK.trans ?_;refine(Bc t1).trans ?_;refine(GF t1).trans ?_;refine CK.trans ?_;refine(Ba tc).trans ?_;refine(Bc t2).trans ?_;refine(Ba td).trans ?_;refine(Bc t3).trans ?_;refine CK.trans ?_;refine(Bc t4).trans ?_;refine UX.trans ?_;rfl
def uL(as:List D):Option D:=
 u1 as λa r=>u1 r λb r=>u0 r (BL a λx=>BL b λy=>cnd (Nat.blt x B64) (cnd (Nat.blt y B64) (frc (Nat.mul x y) λp=>frc (Nat.div p B64) λhi=>frc (Nat.mod p B64) λlo=>some (.tup [.i .u64 (.ofNat hi),.i .u64 (.ofNat lo)])) none) none)
theorem Jf{as:List D}{r:D}(h:uL as=some r):∃φ,pz φ as=some r:=by
 obtain⟨a,as1,h1,h2⟩:=jh h;obtain⟨b,as2,h3,h4⟩:=jh h2;obtain⟨h5,h6⟩:=oX h4;obtain⟨x,h7,h8⟩:=qa h6;obtain⟨y,h9,h10⟩:=qa h8;obtain⟨hx,h11⟩:=ff h10;obtain⟨hy,h12⟩:=ff h11;have hx:x<B64:=by simpa[eF]using hx
 have hy:y<B64:=by simpa[eF]using hy
 simp only[fB]at h12;subst h1 h3 h5 h7 h9;exact⟨0,(NZ hx hy).trans h12⟩
variable {s:LS} {l off len cm z i n:Nat} {ex:Bool} {b:Blk} {d:D} {kk k2:IntKind} {K:D→LS→Rs}
theorem vq(hg:s.get l=some b)(hl:b.st.live=true)(hi:i<len):eJ z s (.sl l off len cm z ex) (.i k2 (.ofNat i)) K=K (.ptr l (off+i*z)) s:=by
 show jL s l (λb=>cnd (lv b.st) (cnd (Nat.blt i len) (cnd (Nat.beq z z) (frc (Nat.add off (Nat.mul i z)) λo=>K (.ptr l o) s) none) none) none)=_;rw[pM,hg];show cnd (lv b.st) (cnd (Nat.blt i len) (cnd (Nat.beq z z) (frc (Nat.add off (Nat.mul i z)) λo=>K (.ptr l o) s) none) none) none=_;rw[rN,hl,ew hi,ei,eL,eL,eL,fB];rfl
theorem yf(hg:s.get l=some b)(hl:b.st.live=true)(hd:b.cs[i]?=some d):eK s (.ptr l i) K=K d s:=by
 show jL s l (λb=>cnd (lv b.st) (BM i b.cs λd=>K d s) none)=_;rw[pM,hg];show cnd (lv b.st) (BM i b.cs λd=>K d s) none=_;rw[rN,hl,eL,z6,hd];rfl
theorem Jy(hg:s.get l=some b):l<s.nx:=by
 unfold LS.get at hg;split at hg
 ·assumption
 ·cases hg
theorem Hv(hg:s.get l=some b)(b':Blk)(k:LS→Rs):pL s l b' k=k (s.put l b'):=DC s l b' k
theorem tO(hg:s.get l=some b)(b':Blk)(m:Nat):(s.put l b').get m=if m=l then some b' else s.get m:=LS.get_put hg b' m
theorem y8(hs:s.fit)(b':Blk)(m:Nat):(s.push b').get m=if m=s.nx then some b' else s.get m:=LS.get_push s b' m
theorem Jh(hs:s.fit)(b':Blk):(s.push b').fit∧(s.push b').nx=s.nx+1:=⟨rfl,rfl⟩
theorem DA(hg:s.get l=some b)(hw:b.st.wr=true)(hi:i<b.cs.length):eU 1 s (.ptr l i) (.i kk (.ofNat n)) K=K .u (s.put l ⟨b.cs.set i (.i kk (.ofNat n)),.rw⟩):=by
 show jL s l (λb=>cnd (wr b.st) (v6 i [.i kk (.ofNat n)] b.cs λcs'=>pL s l ⟨cs',.rw⟩ λs=>K .u s) none)=_;rw[pM,hg];show cnd (wr b.st) (v6 i [.i kk (.ofNat n)] b.cs λcs'=>pL s l ⟨cs',.rw⟩ λs=>K .u s) none=_;rw[Bu,hw,eL,nj,xK hi];show pL s l _ _=_;rw[Hv hg]
theorem UY{bytes:Nat}{z:D}(h1:n≤140737488355328)(h2:n*bytes≤140737488355328):ku 1 bytes [z] s (.i .i64 (.ofNat n)) (.i .i64 (.ofNat n)) K=K (.sl s.nx 0 n n 1 true) (s.push ⟨List.replicate n z,.rw⟩):=by
 unfold ku;rw[qL];show cnd (Nat.ble n n) (cnd (Nat.ble n 140737488355328) (cnd (Nat.ble (Nat.mul n bytes) 140737488355328) (vX [z] n λcs=>lP s ⟨cs,.rw⟩ λs'=>K (.sl s.nx 0 n n 1 true) s') none) none) none=_;rw[aH (aE n),aH h1,aH (show Nat.mul n bytes≤140737488355328 from h2)];simp only[eL];rw[qX,rt,mH]
end
end Go.Proofs.Ev
namespace Go.Proofs.Ev
noncomputable section
variable {s:LS} {K:D→LS→Rs}
inductive Hold (s:LS):D→List Nat→Prop
 |nil:Hold s (.tree [] 0 true) []
 |sl {l cm:Nat} {ex:Bool} {ws:List Nat} (hg:s.get l=some ⟨c64 ws,.rw⟩):Hold s (.sl l 0 ws.length cm 1 ex) ws
theorem ry{x:D}{ws:List Nat}(h:Hold s x ws):ek x s K=K (.i .i64 (.ofNat ws.length)) s:=by
 cases h<;>rfl
theorem wS{x:D}{ws:List Nat}{i w:Nat}{k2:IntKind}(h:Hold s x ws)(hi:ws[i]?=some w):(eJ 1 s x (.i k2 (.ofNat i)) λa s=>eK s a K)=K (n64 w) s:=by
 cases h with
 |nil=>cases hi
 |sl hg=>
  have hlt:i<ws.length:=(bE.1 hi).1;refine(vq hg rfl hlt).trans ?_;refine yf hg rfl ?_;rw[show 0+i*1=i by omega];exact ky hi
theorem Cp{n:Nat}:∀{ws:List Nat}{kk:List D→List Nat→Rs},mg (iX s (n+1)) (c64 ws) kk=kk (c64 ws) []
 |[],kk=>rfl
 |w::ws,kk=>by
  show mg (iX s (n+1)) (c64 ws) (λys b=>kk (n64 w::ys) b)=_;rw[Cp];rfl
theorem PH{x:D}{ws:List Nat}{n:Nat}(h:Hold s x ws):∃ex ls,∀kk,iX s (n+2) x kk=kk (.tree (c64 ws) ws.length ex) ls:=by
 cases h with
 |nil=>exact⟨true,[],λkk=>rfl⟩
 | @sl l cm ex ws hg=>
  refine⟨cnd ex (Nat.beq cm ws.length) false,[l],λkk=>?_⟩;show(jL s l λb=>cnd (lv b.st) (jN 0 b.cs λr=>iw (Nat.mul ws.length 1) r λr=>mg (iX s (n+1)) r λcs ls=>my (cnd ex (Nat.beq cm ws.length) false) λex=>kk (.tree cs ws.length ex) (l::ls)) none)=_;rw[pM,hg];show(jN 0 (c64 ws) λr=>iw (Nat.mul ws.length 1) r λr=>mg (iX s (n+1)) r λcs ls=>my (cnd ex (Nat.beq cm ws.length) false) λex=>kk (.tree cs ws.length ex) (l::ls))=_;have hlen:(c64 ws).length=ws.length:=by simp[c64]
  rw[gE,gu,show Nat.mul ws.length 1=ws.length from aj _,am,aC (by omega),aM (by omega),Cp,ij]
theorem Gp:∀{ws:List Nat}{k:Nat→Nat→Rs},lY ws→Mp (c64 ws) k=k (val ws) ws.length
 |[],k,h=>rfl
 |w::ws,k,h=>by
  show cnd (Nat.blt w B64) (Mp (c64 ws) λv n=>frc (Nat.add w (Nat.mul B64 v)) λv=>frc (Nat.succ n) λn=>k v n) none=_;rw[ew (h w (bz ..)),eL,Gp λx hx=>h x (bn _ hx),fB,fB];rfl
theorem C5{ws:List Nat}{ex:Bool}(h:lY ws)(hl:ws.length≤1000000000):sn [.tree (c64 ws) ws.length ex]=some (.n (val ws)):=by
 show(Mp (c64 ws) λv n=>cnd (Nat.beq n ws.length) (cnd (Nat.ble ws.length 1000000000) (some (.n v)) none) none)=_;rw[Gp h,ei,aH hl];rfl
theorem Hy{x:D}{ws:List Nat}(hx:Hold s x ws)(h:lY ws)(hl:ws.length≤1000000000):eS sn [x] s K=K (.n (val ws)) s:=by
 obtain⟨ex,ls,hr⟩:=PH (n:=58) hx;show iX s 60 x (λy a=>ki a [] λab=>ob (sn [y]) λr=>iz s ab r K)=_;rw[hr,gL,C5 h hl];rfl
structure More (s s':LS):Prop where
 old:∀l b,s.get l=some b→s'.get l=some b
 len:s.fit→s'.fit
theorem More.refl(s:LS):More s s:=⟨λ_ _ h=>h,id⟩
theorem More.trans{s s' s'':LS}(h:More s s')(h':More s' s''):More s s'':=⟨λl b g=>h'.old l b (h.old l b g),λg=>h'.len (h.len g)⟩
theorem More.push(hs:s.fit)(b:Blk):More s (s.push b):=by
 refine⟨λl b' h=>?_,λh=>(Jh h b).1⟩;rw[y8 hs,aF (by have:=Jy h;omega)];exact h
theorem Hold.more{s s':LS}(h:More s s'){x:D}{ws:List Nat}(hx:Hold s x ws):Hold s' x ws:=by
 cases hx with
 |nil=>exact .nil
 |sl hg=>exact .sl (h.old _ _ hg)
theorem I5:∀(n m:Nat),lY (dg n m)
 |0,m=>λw hw=>by cases hw
 |n+1,m=>λw hw=>by
  rcases bK.1 hw with rfl|hw
  ·exact bc _ (by decide)
  ·exact I5 n _ w hw
theorem KT:∀(n m:Nat),(dg n m).length=n
 |0,m=>rfl
 |n+1,m=>congrArg Nat.succ (KT n (m/B64))
theorem O6:∀(n m:Nat),m<B64^n→val (dg n m)=m
 |0,m,h=>by
  have:m=0:=by simpa using h
  subst this;rfl
 |n+1,m,h=>by
  show m%B64+B64*val (dg n (m/B64))=m;rw[O6 n (m/B64) (de (by rw[ax,aK]at h;exact h))];exact dE m B64
theorem rz{m:Nat}(hs:s.fit)(hm:Nat.log2 m≤1000000000):∃x s' ws,(∀K,eS qu [.n m] s K=K x s')∧Hold s' x ws∧lY ws∧val ws=m∧ws.length≤Nat.log2 m/64+1∧More s s'∧(∀l off len cm z ex,x=.sl l off len cm z ex→s.nx≤l):=by
 by_cases h0:m=0
 ·subst h0;exact⟨.tree [] 0 true,s,[],λK=>rfl,.nil,λw hw=>(by cases hw),rfl,a9 _,More.refl s,λl off len cm z ex e=>(by cases e)⟩
 ·refine⟨.sl s.nx 0 (dg (Nat.log2 m/64+1) m).length (dg (Nat.log2 m/64+1) m).length 1 false,s.push ⟨c64 (dg (Nat.log2 m/64+1) m),.rw⟩,dg (Nat.log2 m/64+1) m,λK=>?_,?_,I5 _ _,?_,z1G (KT _ _),More.push hs _,λl off len cm z ex e=>(by cases e;exact aE _)⟩
  ·show(ob (cnd (Nat.beq m 0) (some (.tree [] 0 true)) (cnd (Nat.ble (Nat.log2 m) 1000000000) (frc (Nat.succ (Nat.div (Nat.log2 m) 64)) λW=>dgK W m λds=>some (.own ds W 1)) none)) λr=>iz s [] r K)=_;rw[gR h0,aH hm,e9,eL,fB,KU,KT];show lP s ⟨c64 (dg (Nat.log2 m/64+1) m),.rw⟩ (λs'=>K (.sl s.nx 0 (Nat.log2 m/64+1) (Nat.log2 m/64+1) 1 false) s')=_;rw[mH]
  ·refine .sl ?_;rw[y8 hs,aC rfl]
  ·apply O6;rw[Bs];refine bk (Nat.lt_log2_self (n:=m)) ?_;exact bg (by decide) (by omega)
end
end Go.Proofs.Ev
set_option maxRecDepth 1000000
set_option maxHeartbeats 0
namespace Go.Proofs.Ev
noncomputable section
def nG(φ:Nat):List D→Option D:=
λas=>
(λ(s:LS)=>
 u1 as λf F=>
 u1 F λk G=>
 u0 G (
 ek f s λH s=>
 ek k s λI s=>
 eZ H I λl=>
 ku 1 8 [(.i .u64 (.ofNat 0))] s l l λJ s=>
 ek f s λK s=>
 lp (λ(_ _ _ _ _:D)(_:LS)=>none) (λ(M:D→D→D→D→D→LS→Rs)(g m n o d:D)(s:LS)=>
 fN d o λN=>
 eQ N
(eJ 1 s n d λO s=>
 eK s O λP s=>
 ek g s λS s=>
 lp (λ(_ _ _ _ _ _ _ _ _ _ _:D)(_:LS)=>none) (λ(U:D→D→D→D→D→D→D→D→D→D→D→LS→Rs)(h b e p u v w y z A c:D)(s:LS)=>
 fN c A λV=>
 eQ V
(eJ 1 s z c λW s=>
 eK s W λX s=>
 eS uL [p,X] s λB s=>
 fh B 0 s λY s=>
 fh B 1 s λZ s=>
 eZ e c λbb=>
 eJ 1 s b bb λbc s=>
 eK s bc λbd s=>
 oV Z bd (.i .u64 (.ofNat 0)) s λC s=>
 fh C 0 s λbf s=>
 fh C 1 s λbg s=>
 eZ Y bg λbh=>
 oV bf u (.i .u64 (.ofNat 0)) s λE s=>
 fh E 0 s λbi s=>
 fh E 1 s λbk s=>
 eZ e c λbl=>
 eZ bh bk λbm=>
 eJ 1 s b bl λbn s=>
 eU 1 s bn bi λ_ s=>
 eZ c (.i .i64 (.ofNat 1)) λbo=>
 U h b e p bm v w y z A bo s)
(ek h s λbp s=>
 eZ e bp λbu=>
 eJ 1 s b bu λbv s=>
 eU 1 s bv u λ_ s=>
 eZ y (.i .i64 (.ofNat 1)) λbw=>
 M h b v w bw s)) φ g m d P (.i .u64 (.ofNat 0)) n o d g S (.i .i64 (.ofNat 0)) s)
((fM φ) [m] s λbz s=>
 eW false s bz some)) φ k J f K (.i .i64 (.ofNat 0)) s)) s0
def sg(φ:Nat):List D→Option D:=
λas=>
(λ(s:LS)=>
 u1 as λb c=>
 u1 c λd e=>
 u0 e (
 eS qu [b] s λf s=>
 eS qu [d] s λg s=>
 eS (nG φ) [f,g] s λh s=>
 eS sn [h] s λi s=>
 eW false s i some)) s0
def si(φ:Nat):List D→Option D:=
λas=>
(λ(s:LS)=>
 u1 as λy z=>
 u1 z λA B=>
 u0 B (
 eS qu [y] s λe s=>
 eS qu [A] s λf s=>
 jn (λ(g C:D)(s:LS)=>
 ek g s λE s=>
 eZ E (.i .i64 (.ofNat 1)) λm=>
 ku 1 8 [(.i .u64 (.ofNat 0))] s m m λF s=>
 ek g s λG s=>
 lp (λ(_ _ _ _ _ _:D)(_:LS)=>none) (λ(H:D→D→D→D→D→D→LS→Rs)(h c d k l b:D)(s:LS)=>
 fN b l λI=>
 eQ I
(jn (λ(n J o K p M N O:D)(s:LS)=>
 eJ 1 s n p λP s=>
 eK s P λS s=>
 oV S M K s λu s=>
 fh u 0 s λU s=>
 fh u 1 s λV s=>
 eJ 1 s o p λW s=>
 eU 1 s W U λ_ s=>
 eZ O (.i .i64 (.ofNat 1)) λX=>
 H n J o V N X s) λv=>
 ek c s λY s=>
 fN b Y λZ=>
 eQ Z
(eJ 1 s c b λbb s=>
 eK s bb λbc s=>
 v h c d k b bc l b s)
(v h c d k b (.i .u64 (.ofNat 0)) l b s))
(ek h s λbd s=>
 eJ 1 s d bd λbf s=>
 eU 1 s bf k λ_ s=>
 eS sn [d] s λbg s=>
 eW false s bg some)) φ g C F (.i .u64 (.ofNat 0)) G (.i .i64 (.ofNat 0)) s) λw=>
 ek e s λbh s=>
 ek f s λbi s=>
 fN bh bi λbk=>
 eQ bk
(w f e s)
(w e f s))) s0
def sh(φ:Nat):List D→Option D:=
λas=>
(λ(s:LS)=>
 u1 as λf l=>
 u1 l λg m=>
 u0 m (
 kS (.lens (.c f)) s λn s=>
 kS (.lens (.c g)) s λo s=>
 fN n o λe=>
 eI e false (λk=>k f s) s λp s=>
 eI e false (λk=>kS (.lens (.c p)) s k) s λu s=>
 eI e false (λk=>k g s) s λv s=>
 eI e false (λk=>kS (.lens (.c v)) s k) s λw s=>
 eI e false (λk=>iB u w λd=>k d s) s λy s=>
 eI e false (λk=>k y s) s λh s=>
 eI h true (λk=>k f s) s λz s=>
 eI h true (λk=>k g s) s λA s=>
 eI h true (λk=>fN z A λd=>k d s) s λB s=>
 eI e false (λk=>fY h B (.b false) s k) s λC s=>
 fY e (.b true) C s λE s=>
 eQ E
(eW false s (.i .i64 (.negSucc 0)) some)
(iB f g λF=>
 eQ F
(eW false s (.i .i64 (.ofNat 0)) some)
(eW false s (.i .i64 (.ofNat 1)) some)))) s0
def sf(φ:Nat):List D→Option D:=
λas=>
(λ(s:LS)=>
 u1 as λn o=>
 u1 o λp u=>
 u0 u (
 eS qu [n] s λg s=>
 eS qu [p] s λv s=>
 ek g s λw s=>
 lp (λ(_ _ _ _ _:D)(_:LS)=>none) (λ(y:D→D→D→D→D→LS→Rs)(d c h e b:D)(s:LS)=>
 fN b e λz=>
 eQ z
(jn (λ(f A B k C E F:D)(s:LS)=>
 eJ 1 s f k λG s=>
 eK s G λH s=>
 tQ H C B s λl s=>
 fh l 0 s λI s=>
 fh l 1 s λJ s=>
 eJ 1 s f k λK s=>
 eU 1 s K I λ_ s=>
 eZ F (.i .i64 (.ofNat 1)) λM=>
 y f A J E M s) λm=>
 ek c s λN s=>
 fN b N λO=>
 eQ O
(eJ 1 s c b λP s=>
 eK s P λS s=>
 m d c h b S e b s)
(m d c h b (.i .u64 (.ofNat 0)) e b s))
(eS sn [d] s λU s=>
 eW false s U some)) φ g v (.i .u64 (.ofNat 0)) w (.i .i64 (.ofNat 0)) s)) s0
variable {s:LS} {K:D→LS→Rs}
def Off(lo:Nat)(x:D):Prop:=∀l off len cm z ex,x=.sl l off len cm z ex→l≠lo
theorem Hold.off{x:D}{ws:List Nat}(h:Hold s x ws){lo:Nat}(hlo:s.nx≤lo):Off lo x:=by
 intro l off len cm z ex e;subst e;cases h with
 |sl hg=>have:=Jy hg;omega
theorem Hold.put{x:D}{ws:List Nat}(h:Hold s x ws){lo:Nat}(ho:Off lo x){b b':Blk}(hg:s.get lo=some b):Hold (s.put lo b') x ws:=by
 cases h with
 |nil=>exact .nil
 |sl hg'=>exact .sl (by rw[tO hg,aF (ho _ _ _ _ _ _ rfl)];exact hg')
theorem ur:∀(a b:List Nat),val (a++b)=val a+B64^a.length*val b
 |[],b=>by show val b=0+1*val b;omega
 |w::a,b=>by
  show w+B64*val (a++b)=w+B64*val a+B64^(a.length+1)*val b;rw[ur a b,bA,ax,aK (B64^a.length) B64,aa];omega
theorem te:∀(ws:List Nat)(i:Nat),val (ws.take (i+1))=val (ws.take i)+ws.getD i 0*B64^i
 |[],i=>by simp[val]
 |w::ws,0=>by
  show w+B64*val []=0+w*1;show w+B64*0=0+w*1;omega
 |w::ws,i+1=>by
  show w+B64*val (ws.take (i+1))=w+B64*val (ws.take i)+ws.getD i 0*B64^(i+1);rw[te ws i,bA,ax,aK B64 (ws.getD i 0*B64^i),aa];omega
theorem Hx{a b c:Nat}(hc:c≤1):oV (n64 a) (n64 b) (n64 c) s K=K (.tup [n64 ((a+b+c)%B64),n64 ((a+b+c)/B64)]) s:=by
 show cnd (Nat.ble c 1) (frc (Nat.mod (Nat.add (Nat.add a b) c) B64) λlo=>frc (Nat.div (Nat.add (Nat.add a b) c) B64) λhi=>K (.tup [.i .u64 (.ofNat lo),.i .u64 (.ofNat hi)]) s) none=_;rw[aH hc,eL,fB,fB];rfl
theorem Qo{lo i n w k:Nat}{outs:List Nat}(hg:s.get lo=some ⟨c64 (outs++List.replicate (k+1) 0),.rw⟩)(ho:outs.length=i)(hi:i<n){k2:IntKind}:
 (eJ 1 s (.sl lo 0 n n 1 true) (.i k2 (.ofNat i)) λa s=>eU 1 s a (n64 w) K)=K .u (s.put lo ⟨c64 ((outs++[w])++List.replicate k 0),.rw⟩):=by
 refine(vq hg rfl hi).trans ?_;refine(DA hg rfl ?_).trans ?_
 ·rw[fT,ay,eC];omega
 ·rw[w8,show 0+i*1=outs.length by omega,cO _ _ (aE _),bt];rw[bV];rfl
def naF(φ:Nat)(q12:D→D→D→D→D→D→LS→Rs)(x13 x14 x15 x16 x17 x18:D)(s:LS):Rs:=(
 fN x18 x17 λx19=>
 eQ x19
(jn (λ(x21 x22 x23 x24 x25 x26 x27 x28:D)(s:LS)=>
 eJ 1 s x21 x25 λx29 s=>
 eK s x29 λx30 s=>
 oV x30 x26 x24 s λx31 s=>
 fh x31 0 s λx32 s=>
 fh x31 1 s λx33 s=>
 eJ 1 s x23 x25 λx34 s=>
 eU 1 s x34 x32 λ_ s=>
 eZ x28 (.i .i64 (.ofNat 1)) λx35=>
 q12 x21 x22 x23 x33 x27 x35 s) λj20=>
 ek x14 s λx36 s=>
 fN x18 x36 λx37=>
 eQ x37
(eJ 1 s x14 x18 λx38 s=>
 eK s x38 λx39 s=>
 j20 x13 x14 x15 x16 x18 x39 x17 x18 s)
(j20 x13 x14 x15 x16 x18 (.i .u64 (.ofNat 0)) x17 x18 s))
(ek x13 s λx40 s=>
 eJ 1 s x15 x40 λx41 s=>
 eU 1 s x41 x16 λ_ s=>
 eS sn [x15] s λx42 s=>
 eW false s x42 some))
theorem LY{X Y:D}{xs ys:List Nat}{lo φ:Nat}(hx:lY xs)(hy:lY ys)(hl:ys.length≤xs.length)(hn:xs.length≤900000000)(ox:Off lo X)(oy:Off lo Y):
 ∀(j i f c:Nat)(outs:List Nat)(s:LS),j+i=xs.length→j<f→Hold s X xs→Hold s Y ys→s.get lo=some ⟨c64 (outs++List.replicate (j+1) 0),.rw⟩→outs.length=i→lY outs→c≤1→
  val outs+c*B64^i=val (xs.take i)+val (ys.take i)→
  lp (λ(_ _ _ _ _ _:D)(_:LS)=>none) (naF φ) f X Y (.sl lo 0 (xs.length+1) (xs.length+1) 1 true) (n64 c) (.i .i64 (.ofNat xs.length)) (.i .i64 (.ofNat i)) s=some (.n (val xs+val ys))
 |0,i,f+1,c,outs,s,hj,hf,hX,hY,hg,ho,hs,hc,hv=>by
  have hi:i=xs.length:=by omega
  subst hi;rw[eM];unfold naF;rw[kE,fE (bC _),eP,ry hX,Qo hg ho (cR _)];have hg':=tO hg (⟨c64 ((outs++[c])++List.replicate 0 0),.rw⟩:Blk) lo;rw[aC rfl]at hg';have hH:Hold (s.put lo ⟨c64 ((outs++[c])++List.replicate 0 0),.rw⟩) (.sl lo 0 (xs.length+1) (xs.length+1) 1 true) (outs++[c]):=by
   have:=Hold.sl (cm:=xs.length+1) (ex:=true) (show(s.put lo ⟨c64 ((outs++[c])++List.replicate 0 0),.rw⟩).get lo=some ⟨c64 (outs++[c]),.rw⟩ by rw[hg'];simp);rw[show(outs++[c]).length=xs.length+1 by simp[ho]]at this;exact this
  rw[Hy hH ?_ (by simp[ho];omega)]
  ·rw[ur,ho];rw[ch,aM hl]at hv;show some (D.n (val outs+B64^xs.length*val [c]))=_;rw[show val [c]=c from rfl,aK,hv]
  ·intro w hw;rcases au.1 hw with h|h
   ·exact hs w h
   ·rw[dW.1 h];exact cP hc (by decide)
 |j+1,i,f+1,c,outs,s,hj,hf,hX,hY,hg,ho,hs,hc,hv=>by
  have hi:i<xs.length:=by omega
  have hxi:xs[i]?=some (xs.getD i 0):=by rw[aD,aB hi];rfl
  have key:∀(b:Nat),b=ys.getD i 0→(eJ 1 s X (.i .i64 (.ofNat i)) λx29 s=>eK s x29 λx30 s=>oV x30 (n64 b) (n64 c) s λx31 s=>fh x31 0 s λx32 s=>fh x31 1 s λx33 s=>eJ 1 s (.sl lo 0 (xs.length+1) (xs.length+1) 1 true) (.i .i64 (.ofNat i)) λx34 s=>eU 1 s x34 x32 λ_ s=>eZ (.i .i64 (.ofNat i)) (.i .i64 (.ofNat 1)) λx35=>
   lp (λ(_ _ _ _ _ _:D)(_:LS)=>none) (naF φ) f X Y (.sl lo 0 (xs.length+1) (xs.length+1) 1 true) x33 (.i .i64 (.ofNat xs.length)) x35 s)=some (.n (val xs+val ys)):=by
   intro b hb;have hb':b<B64:=by
    subst hb;rw[aD];cases h:ys[i]?with
    |none=>decide
    |some w=>exact hy w (bY h)
   have ha':xs.getD i 0<B64:=hx _ (bY hxi);refine(wS hX hxi).trans ?_;refine(Hx hc).trans ?_;show(eJ 1 s (.sl lo 0 (xs.length+1) (xs.length+1) 1 true) (.i .i64 (.ofNat i)) λx34 s=>eU 1 s x34 (n64 ((xs.getD i 0+b+c)%B64)) λ_ s=>eZ (.i .i64 (.ofNat i)) (.i .i64 (.ofNat 1)) λx35=>
    lp (λ(_ _ _ _ _ _:D)(_:LS)=>none) (naF φ) f X Y (.sl lo 0 (xs.length+1) (xs.length+1) 1 true) (n64 ((xs.getD i 0+b+c)/B64)) (.i .i64 (.ofNat xs.length)) x35 s)=_
   refine(Qo hg ho (z22 hi)).trans ?_;refine(oU (show i+1≤jp .i64 from(by show i+1≤9223372036854775807;omega))).trans ?_;refine LY hx hy hl hn ox oy j (i+1) f _ (outs++[(xs.getD i 0+b+c)%B64]) _ (by omega) (by omega) (hX.put ox hg) (hY.put oy hg) ?_ (by simp[ho]) ?_ ?_ ?_
   ·rw[tO hg,aC rfl]
   ·intro w hw;rcases au.1 hw with h|h
    ·exact hs w h
    ·rw[dW.1 h];exact bc _ (by decide)
   ·have:xs.getD i 0+b+c<B64*2:=by omega
    have:=de this;omega
   ·rw[ur,te,te,ho,show val [(xs.getD i 0+b+c)%B64]=(xs.getD i 0+b+c)%B64 from rfl,←hb];have e:=dE (xs.getD i 0+b+c) B64;generalize xs.getD i 0=a at*;have e2:B64^i*((a+b+c)%B64)+(a+b+c)/B64*B64^(i+1)=(a+b+c)*B64^i:=by
     rw[ax,aK (B64^i) ((a+b+c)%B64),aK (B64^i) B64,←aa,←aS,aK ((a+b+c)/B64) B64,e]
    rw[aS,aS]at e2;omega
  rw[eM];unfold naF;rw[kE,ew hi,eO];show(ek Y s λx36 s=>fN (.i .i64 (.ofNat i)) x36 λx37=>eQ x37 _ _)=_;rw[ry hY,kE];by_cases hyi:i<ys.length
  ·have hyi':ys[i]?=some (ys.getD i 0):=by rw[aD,aB hyi];rfl
   rw[ew hyi,eO];refine(wS hY hyi').trans ?_;exact key _ rfl
  ·rw[fE (by omega),eP];exact key 0 (by rw[aD,bW (by omega)];rfl)
def naJ(φ:Nat)(x6 x7:D)(s:LS):Rs:=(
 ek x6 s λx8 s=>
 eZ x8 (.i .i64 (.ofNat 1)) λx9=>
 ku 1 8 [(.i .u64 (.ofNat 0))] s x9 x9 λx10 s=>
 ek x6 s λx11 s=>
 lp (λ(_ _ _ _ _ _:D)(_:LS)=>none) (naF φ) φ x6 x7 x10 (.i .u64 (.ofNat 0)) x11 (.i .i64 (.ofNat 0)) s)
theorem LZ{X Y:D}{xs ys:List Nat}{φ:Nat}(hx:lY xs)(hy:lY ys)(hl:ys.length≤xs.length)(hn:xs.length≤900000000)(hs:s.fit)(hX:Hold s X xs)(hY:Hold s Y ys)(hφ:xs.length<φ):
 naJ φ X Y s=some (.n (val xs+val ys)):=by
 unfold naJ;rw[ry hX];refine(oU (show xs.length+1≤jp .i64 from(by show xs.length+1≤9223372036854775807;omega))).trans ?_;refine(UY (by omega) (by omega)).trans ?_;have hm:=More.push hs (⟨List.replicate (xs.length+1) (.i .u64 (.ofNat 0)),.rw⟩:Blk);refine(ry (hX.more hm)).trans ?_;refine LY hx hy hl hn (hX.off (aE _)) (hY.off (aE _)) xs.length 0 φ 0 [] _ (by omega) hφ (hX.more hm) (hY.more hm) ?_ rfl (λw hw=>(by cases hw)) (a9 _) ?_
 ·rw[y8 hs,aC rfl,vV];rfl
 ·simp[val]
theorem Jd{x y φ:Nat}(hx:Nat.log2 x≤1000000000)(hy:Nat.log2 y≤1000000000)(h1:Nat.log2 x/64+1<φ)(h2:Nat.log2 y/64+1<φ):si φ [.n x,.n y]=some (.n (x+y)):=by
 obtain⟨X,s1,xs,k1,hX,sx,vx,lx,m1,_⟩:=rz (s:=s0) (m:=x) rfl hx;obtain⟨Y,s2,ys,k2,hY,sy,vy,ly,m2,_⟩:=rz (s:=s1) (m:=y) (m1.len rfl) hy;unfold si;refine(k1 _).trans ?_;refine(k2 _).trans ?_;have hX:=hX.more m2;have hs:=m2.len (m1.len rfl);show(ek X s2 λx43 s=>ek Y s λx44 s=>fN x43 x44 λx45=>eQ x45 (naJ φ Y X s) (naJ φ X Y s))=_;rw[ry hX,ry hY,kE];by_cases h:xs.length<ys.length
 ·rw[ew h,eO,LZ sy sx (by omega) (by omega) hs hY hX (by omega),vx,vy,dH]
 ·rw[fE h,eP,LZ sx sy (by omega) (by omega) hs hX hY (by omega),vx,vy]
def u7(as:List D):Option D:=
 u1 as λa r=>u1 r λb r=>u0 r (og a λx=>og b λy=>cnd (Nat.ble (Nat.log2 x) 1000000000) (cnd (Nat.ble (Nat.log2 y) 1000000000) (frc (Nat.add x y) λz=>some (.n z)) none) none)
theorem Ha{as:List D}{r:D}(h:u7 as=some r):∃φ,si φ as=some r:=by
 obtain⟨a,r1,rfl,g1⟩:=jh h;obtain⟨b,r2,rfl,g2⟩:=jh g1;obtain⟨rfl,g3⟩:=oX g2;obtain⟨x,rfl,g4⟩:=iE g3;obtain⟨y,rfl,g5⟩:=iE g4;obtain⟨h1,g6⟩:=ff g5;obtain⟨h2,h⟩:=ff g6;rw[fB]at h;exact⟨Nat.log2 x/64+Nat.log2 y/64+3,by rw[Jd (ah h1) (ah h2) (by omega) (by omega)];exact h⟩
end
end Go.Proofs.Ev
namespace Go.Proofs.Ev
noncomputable section
variable {s:LS} {K:D→LS→Rs}
def So(x y:D):Prop:=∀l off len cm z ex,x=.sl l off len cm z ex→Off l y
theorem C8{a:Nat}{k:Nat→Rs}:BL (.i .u64 (.ofNat a)) k=k a:=rfl
theorem TC(M a b c:Nat):Nat.mod (Nat.sub (Nat.sub (Nat.add a M) b) c) M=(a+M-b-c)%M:=rfl
theorem Hs{a b c:Nat}(hc:c≤1):tQ (n64 a) (n64 b) (n64 c) s K=K (.tup [n64 ((a+B64-b-c)%B64),n64 (if a<b+c then 1 else 0)]) s:=by
 unfold tQ n64;rw[C8,C8,C8,aH hc,eL,fB,TC,show(18446744073709551616:Nat)=B64 from rfl];by_cases h:a<b+c
 ·rw[show Nat.blt a (Nat.add b c)=true from ew h,aC h,eL]
 ·rw[show Nat.blt a (Nat.add b c)=false from fE h,aF h,e9]
theorem UT{X:D}{outs rest:List Nat}{v w i:Nat}{k2:IntKind}(h:Hold s X (outs++v::rest))(ho:outs.length=i):
 ∃s',(∀K,(eJ 1 s X (.i k2 (.ofNat i)) λa s=>eU 1 s a (n64 w) K)=K .u s')∧Hold s' X ((outs++[w])++rest)∧(∀Y ys,So X Y→Hold s Y ys→Hold s' Y ys)∧(s.fit→s'.fit):=by
 generalize hz:outs++v::rest=zs at h;cases h with
 |nil=>cases outs<;>cases hz
 | @sl l cm ex _ hg=>
  subst hz;have hlen:(outs++v::rest).length=((outs++[w])++rest).length:=by simp
  refine⟨s.put l ⟨c64 ((outs++[w])++rest),.rw⟩,λK=>?_,?_,λY ys ha hY=>hY.put (ha _ _ _ _ _ _ rfl) hg,λhs=>rfl⟩
  ·refine(vq hg rfl (show i<(outs++v::rest).length by simp;omega)).trans ?_;refine(DA hg rfl ?_).trans ?_
   ·rw[fT];simp;omega
   ·rw[w8,show 0+i*1=outs.length by omega,cO _ _ (aE _),bt,bV];rfl
  ·have:=Hold.sl (cm:=cm) (ex:=ex) (show(s.put l ⟨c64 ((outs++[w])++rest),.rw⟩).get l=some ⟨c64 ((outs++[w])++rest),.rw⟩ by rw[tO hg,aC rfl]);rwa[←hlen]at this
def nsF(φ:Nat)(q6:D→D→D→D→D→LS→Rs)(x7 x8 x9 x10 x11:D)(s:LS):Rs:=(
 fN x11 x10 λx12=>
 eQ x12
(jn (λ(x14 x15 x16 x17 x18 x19 x20:D)(s:LS)=>
 eJ 1 s x14 x17 λx21 s=>
 eK s x21 λx22 s=>
 tQ x22 x18 x16 s λx23 s=>
 fh x23 0 s λx24 s=>
 fh x23 1 s λx25 s=>
 eJ 1 s x14 x17 λx26 s=>
 eU 1 s x26 x24 λ_ s=>
 eZ x20 (.i .i64 (.ofNat 1)) λx27=>
 q6 x14 x15 x25 x19 x27 s) λj13=>
 ek x8 s λx28 s=>
 fN x11 x28 λx29=>
 eQ x29
(eJ 1 s x8 x11 λx30 s=>
 eK s x30 λx31 s=>
 j13 x7 x8 x9 x11 x31 x10 x11 s)
(j13 x7 x8 x9 x11 (.i .u64 (.ofNat 0)) x10 x11 s))
(eS sn [x7] s λx32 s=>
 eW false s x32 some))
theorem TB(a b c:Nat)(ha:a<B64)(hb:b<B64)(hc:c≤1):(a+B64-b-c)%B64+b+c=a+(if a<b+c then 1 else 0)*B64:=by
 by_cases h:a<b+c
 ·rw[aC h,bL (by omega)];omega
 ·rw[aF h,show a+B64-b-c=(a-b-c)+B64 by omega,Nat.add_mod_right,bL (by omega)];omega
theorem Of{a b c:Nat}(ha:a<B64)(hb:b<B64)(hc:c≤1):∃d c',(∀(s:LS)(K:D→LS→Rs),tQ (n64 a) (n64 b) (n64 c) s K=K (.tup [n64 d,n64 c']) s)∧d<B64∧c'≤1∧d+b+c=a+c'*B64:=
 ⟨_,_,λs K=>Hs hc,bc _ (by decide),by split<;>omega,TB a b c ha hb hc⟩
theorem Sv(w:Nat):val [w]=w:=rfl
theorem LX{X Y:D}{xs ys:List Nat}{φ:Nat}(hx:lY xs)(hy:lY ys)(hle:val ys≤val xs)(hn:xs.length≤900000000)(hxy:So X Y):
 ∀(j i f c:Nat)(outs:List Nat)(s:LS),j+i=xs.length→j<f→Hold s X (outs++xs.drop i)→Hold s Y ys→outs.length=i→lY outs→c≤1→
  val outs+val (ys.take i)=val (xs.take i)+c*B64^i→
  lp (λ(_ _ _ _ _:D)(_:LS)=>none) (nsF φ) f X Y (n64 c) (.i .i64 (.ofNat xs.length)) (.i .i64 (.ofNat i)) s=some (.n (val xs-val ys))
 |0,i,f+1,c,outs,s,hj,hf,hX,hY,ho,hs,hc,hv=>by
  have hi:i=xs.length:=by omega
  subst hi;rw[eM];unfold nsF;rw[List.drop_length,ba]at hX;rw[kE,fE (bC _),eP,Hy hX hs (by omega)];show some (D.n (val outs))=_;have h1:=yT hs;have h2:=yT hx;rw[ho]at h1;have h3:val ys=val (ys.take xs.length):=by
   have h4:=ur (ys.take xs.length) (ys.drop xs.length);rw[c7]at h4;by_cases h5:ys.length≤xs.length
   ·rw[aM h5]
   ·rw[aZ,bS (by omega)]at h4;have:val (ys.drop xs.length)=0:=by
     rcases bQ (val (ys.drop xs.length))with h|h
     ·exact h
     ·have:=Nat.le_mul_of_pos_right (B64^xs.length) h;omega
    rw[this]at h4;omega
  rw[ch,←h3]at hv;have:c=0∨c=1:=by omega
  rcases this with rfl|rfl
  ·congr 2;omega
  ·exfalso;omega
 |j+1,i,f+1,c,outs,s,hj,hf,hX,hY,ho,hs,hc,hv=>by
  have hi:i<xs.length:=by omega
  have hxi:xs[i]?=some (xs.getD i 0):=by rw[aD,aB hi];rfl
  have hdr:xs.drop i=xs.getD i 0::xs.drop (i+1):=by
   rw[bu hi,aD,aB hi];rfl
  rw[hdr]at hX;have ha':xs.getD i 0<B64:=hx _ (bY hxi);have hXi:(outs++xs.getD i 0::xs.drop (i+1))[i]?=some (xs.getD i 0):=by
   rw[bJ (by omega),ho,bt];rfl
  have key:∀(b:Nat),b=ys.getD i 0→(eJ 1 s X (.i .i64 (.ofNat i)) λx29 s=>eK s x29 λx30 s=>tQ x30 (n64 b) (n64 c) s λx31 s=>fh x31 0 s λx32 s=>fh x31 1 s λx33 s=>eJ 1 s X (.i .i64 (.ofNat i)) λx34 s=>eU 1 s x34 x32 λ_ s=>eZ (.i .i64 (.ofNat i)) (.i .i64 (.ofNat 1)) λx35=>
   lp (λ(_ _ _ _ _:D)(_:LS)=>none) (nsF φ) f X Y x33 (.i .i64 (.ofNat xs.length)) x35 s)=some (.n (val xs-val ys)):=by
   intro b hb;have hb':b<B64:=by
    subst hb;rw[aD];cases h:ys[i]?with
    |none=>decide
    |some w=>exact hy w (bY h)
   refine(wS hX hXi).trans ?_;obtain⟨d,c',k0,hd,hc',e⟩:=Of ha' hb' hc;refine(k0 _ _).trans ?_;obtain⟨s',k1,k2,k3,_⟩:=UT (w:=d) (k2:=.i64) hX ho;show(eJ 1 s X (.i .i64 (.ofNat i)) λx34 s=>eU 1 s x34 (n64 d) λ_ s=>eZ (.i .i64 (.ofNat i)) (.i .i64 (.ofNat 1)) λx35=>
    lp (λ(_ _ _ _ _:D)(_:LS)=>none) (nsF φ) f X Y (n64 c') (.i .i64 (.ofNat xs.length)) x35 s)=_
   refine(k1 _).trans ?_;refine(oU (show i+1≤jp .i64 from(by show i+1≤9223372036854775807;omega))).trans ?_;refine LX hx hy hle hn hxy j (i+1) f c' (outs++[d]) _ (by omega) (by omega) k2 (k3 _ _ hxy hY) (by simp[ho]) ?_ hc' ?_
   ·intro w hw;rcases au.1 hw with h|h
    ·exact hs w h
    ·rw[dW.1 h];exact hd
   ·rw[ur,te,te,ho,Sv,←hb];have e2:=congrArg (· *B64^i) e;simp only[aS]at e2;rw[ax,aK (B64^i) B64,←aa,aK (B64^i) d];omega
  rw[eM];unfold nsF;rw[kE,ew hi,eO];show(ek Y s λx36 s=>fN (.i .i64 (.ofNat i)) x36 λx37=>eQ x37 _ _)=_;rw[ry hY,kE];by_cases hyi:i<ys.length
  ·have hyi':ys[i]?=some (ys.getD i 0):=by rw[aD,aB hyi];rfl
   rw[ew hyi,eO];refine(wS hY hyi').trans ?_;exact key _ rfl
  ·rw[fE (by omega),eP];exact key 0 (by rw[aD,bW (by omega)];rfl)
theorem J8{x y φ:Nat}(hx:Nat.log2 x≤1000000000)(hy:Nat.log2 y≤1000000000)(h1:Nat.log2 x/64+1<φ)(hle:y≤x):sf φ [.n x,.n y]=some (.n (x-y)):=by
 obtain⟨X,s1,xs,k1,hX,sx,vx,lx,m1,f1⟩:=rz (s:=s0) (m:=x) rfl hx;obtain⟨Y,s2,ys,k2,hY,sy,vy,ly,m2,f2⟩:=rz (s:=s1) (m:=y) (m1.len rfl) hy;unfold sf;refine(k1 _).trans ?_;refine(k2 _).trans ?_;have hX2:=hX.more m2;refine(ry hX2).trans ?_;have ha:So X Y:=by
  intro l off len cm z ex e l' off' len' cm' z' ex' e';have g2:=f2 _ _ _ _ _ _ e';subst e;cases hX with
  |sl hg=>have:=Jy hg;omega
 refine(LX (φ:=φ) sx sy (by omega) (by omega) ha xs.length 0 φ 0 [] s2 (by omega) (by omega) (by exact hX2) hY rfl (λw hw=>(by cases hw)) (a9 _) (by simp[val])).trans ?_;rw[vx,vy]
def mw(as:List D):Option D:=
 u1 as λa r=>u1 r λb r=>u0 r (og a λx=>og b λy=>cnd (Nat.ble (Nat.log2 x) 1000000000) (cnd (Nat.ble y x) (frc (Nat.sub x y) λz=>some (.n z)) none) none)
theorem H6{as:List D}{r:D}(h:mw as=some r):∃φ,sf φ as=some r:=by
 obtain⟨a,r1,rfl,g1⟩:=jh h;obtain⟨b,r2,rfl,g2⟩:=jh g1;obtain⟨rfl,g3⟩:=oX g2;obtain⟨x,rfl,g4⟩:=iE g3;obtain⟨y,rfl,g5⟩:=iE g4;obtain⟨h1,g6⟩:=ff g5;obtain⟨h2,h⟩:=ff g6;rw[fB]at h;have h1:=ah h1;have h2:=ah h2;have hy:Nat.log2 y≤1000000000:=by
  by_cases hy0:y=0
  ·subst hy0;exact a9 _
  ·have:=(z1r (n:=x) (k:=Nat.log2 y) (by omega)).2 (bP (z1w hy0) h2);omega
 exact⟨Nat.log2 x/64+3,by rw[J8 h1 hy (by omega) h2];exact h⟩
end
end Go.Proofs.Ev
namespace Go.Proofs.Ev
noncomputable section
variable {s:LS} {K:D→LS→Rs}
theorem Bb{ws:List Nat}{ex:Bool}:ek (.tree (c64 ws) ws.length ex) s K=K (.i .i64 (.ofNat ws.length)) s:=rfl
theorem Hu{ws:List Nat}{ex:Bool}{i w:Nat}{k2:IntKind}(hi:ws[i]?=some w):(eJ 1 s (.tree (c64 ws) ws.length ex) (.i k2 (.ofNat i)) λa s=>eK s a K)=K (n64 w) s:=by
 have hlt:i<ws.length:=(bE.1 hi).1;show cnd (Nat.blt i ws.length) (jN (Nat.mul i 1) (c64 ws) λr=>List.rec (motive:=λ_=>Rs) none (λ_ _ _=>eK s (.fp r) K) r) none=_;rw[ew hlt,eL,gE,show Nat.mul i 1=i from aj i,bu (by rw[fT];exact hlt)];show K ((c64 ws)[i]'(by rw[fT];exact hlt)) s=_;have:=ky hi;rw[aB (by rw[fT];exact hlt)]at this;rw[cK this];rfl
theorem Zx(a b:Nat):Nat.div a b=a/b:=rfl
theorem Zv(a b:Nat):Nat.mod a b=a%b:=rfl
theorem Zu(a b:Nat):Nat.mul a b=a*b:=rfl
theorem XS{M:List D→Option D}{x y:Nat}:eS M [n64 x,n64 y] s K=ob (M [n64 x,n64 y]) λr=>iz s [] r K:=rfl
theorem Vu{h l:Nat}:iz s [] (.tup [n64 h,n64 l]) K=K (.tup [n64 h,n64 l]) s:=rfl
theorem A7{x y:Nat}(hx:x<B64)(hy:y<B64):∃h l,uL [n64 x,n64 y]=some (.tup [n64 h,n64 l])∧h*B64+l=x*y∧l<B64:=by
 refine⟨x*y/B64,x*y%B64,?_,?_,bc _ (by decide)⟩
 ·unfold uL n64;rw[eV,eV,eY,C8,C8,ew hx,ew hy,eL,eL,fB,fB,fB];rw[Zx,Zv,Zu]
 ·rw[aK];exact ce _ _
theorem N0{x y:Nat}(hx:x<B64)(hy:y<B64):∃h l,(∀(s:LS)(K:D→LS→Rs),eS uL [n64 x,n64 y] s K=K (.tup [n64 h,n64 l]) s)∧h*B64+l=x*y∧l<B64:=by
 obtain⟨h,l,e,h1,h2⟩:=A7 hx hy;exact⟨h,l,λs K=>by rw[XS,e];exact Vu,h1,h2⟩
theorem UB(M a b o c h l lo2 c1 lo3 c2:Nat)(h1:h*M+l=a*b)(h2:c1*M+lo2=l+o)(h3:c2*M+lo3=lo2+c):
 (h+c1+c2)*M+lo3=a*b+o+c:=by
 rw[aS,aS];omega
theorem Bx:∀{ws:List Nat}{j w:Nat}(v:Nat),ws[j]?=some w→val (ws.set j v)+w*B64^j=val ws+v*B64^j
 |[],j,w,v,h=>by simp at h
 |x::ws,0,w,v,h=>by
  simp only[bF,aA]at h;subst h;show v+B64*val ws+x*B64^0=x+B64*val ws+v*B64^0;rw[ck];omega
 |x::ws,j+1,w,v,h=>by
  simp only[bR]at h;have ih:=Bx v h;show x+B64*val (ws.set j v)+w*B64^(j+1)=x+B64*val ws+v*B64^(j+1);have e:=congrArg (B64* ·) ih;simp only[bA]at e;rw[ax,aK (B64^j) B64,cZ w,cZ v];omega
def trF(k:D→LS→Rs)(q3:D→D→LS→Rs)(x4 x5:D)(s:LS):Rs:=(
 kv x5 (.i .i64 (.ofNat 0)) λx6=>
 eI x6 true (λk=>k x4 s) s λx7 s=>
 eI x6 true (λk=>k x5 s) s λx8 s=>
 eI x6 true (λk=>fA x8 (.i .i64 (.ofNat 1)) λd=>k d s) s λx9 s=>
 eI x6 true (λk=>eJ 1 s x7 x9 k) s λx10 s=>
 eI x6 true (λk=>eK s x10 k) s λx11 s=>
 eI x6 true (λk=>iB x11 (.i .u64 (.ofNat 0)) λd=>k d s) s λx12 s=>
 fY x6 x12 (.b false) s λx13 s=>
 eQ x13
(fA x5 (.i .i64 (.ofNat 1)) λx14=>
 q3 x4 x14 s)
(kn 1 s x4 none (some x5) none λx15 s=>
 k x15 s))
theorem CA{ws:List Nat}{len:Nat}{k:D→LS→Rs}(h0:0<len)(hlen:len≤9223372036854775807)(hw:ws.length=len):∀(h f:Nat),h≤len→h<f→
 ∃m,m≤h∧val (ws.take m)=val (ws.take h)∧lp (λ(_ _:D)(_:LS)=>none) (trF k) f (.sl 0 0 len len 1 true) (.i .i64 (.ofNat h)) (st1 (c64 ws))=k (.sl 0 0 m len 1 true) (st1 (c64 ws))
 |0,f+1,hh,hf=>by
  refine⟨0,aE _,rfl,?_⟩;rw[eM];unfold trF;simp only[oS,fE (bC 0),xO,gD,eP,yd h0 (a9 len)]
 |h+1,f+1,hh,hf=>by
  have hi:h<ws.length:=by omega
  have hwi:ws[h]?=some ws[h]:=aB hi;have hm:h+1≤jp .i64:=bP hh hlen;rw[eM];unfold trF;by_cases hz:ws[h]=0
  ·obtain⟨m,h1,h2,h3⟩:=CA (k:=k) h0 hlen hw h f (by omega) (by omega);refine⟨m,by omega,?_,?_⟩
   ·rw[h2,te,aD,hwi];show _=_+ws[h]*_;rw[hz,bT];rfl
   ·simp only[oS,ew (z27 h),uA,oi (show 1≤h+1 by omega) hm,a8,oR (show h<len by omega),aV,tR (ky hwi),rA,hz,ei,fQ,eO];exact h3
  ·refine⟨h+1,aE _,rfl,?_⟩;simp only[oS,ew (z27 h),uA,oi (show 1≤h+1 by omega) hm,a8,oR (show h<len by omega),aV,tR (ky hwi),rA,gR hz,fQ,eP,yd h0 hh]
end
end Go.Proofs.Ev
namespace Go.Proofs.Ev
noncomputable section
def muF(φ:Nat)(q8:D→D→D→D→D→LS→Rs)(q18:D→D→D→D→D→D→D→D→D→D→D→LS→Rs)(x19 x20 x21 x22 x23 x24 x25 x26 x27 x28 x29:D)(s:LS):Rs:=(
 fN x29 x28 λx30=>
 eQ x30
(eJ 1 s x27 x29 λx31 s=>
 eK s x31 λx32 s=>
 eS uL [x22,x32] s λx33 s=>
 fh x33 0 s λx34 s=>
 fh x33 1 s λx35 s=>
 eZ x21 x29 λx36=>
 eJ 1 s x20 x36 λx37 s=>
 eK s x37 λx38 s=>
 oV x35 x38 (.i .u64 (.ofNat 0)) s λx39 s=>
 fh x39 0 s λx40 s=>
 fh x39 1 s λx41 s=>
 eZ x34 x41 λx42=>
 oV x40 x23 (.i .u64 (.ofNat 0)) s λx43 s=>
 fh x43 0 s λx44 s=>
 fh x43 1 s λx45 s=>
 eZ x21 x29 λx46=>
 eZ x42 x45 λx47=>
 eJ 1 s x20 x46 λx48 s=>
 eU 1 s x48 x44 λ_ s=>
 eZ x29 (.i .i64 (.ofNat 1)) λx49=>
 q18 x19 x20 x21 x22 x47 x24 x25 x26 x27 x28 x49 s)
(ek x19 s λx50 s=>
 eZ x21 x50 λx51=>
 eJ 1 s x20 x51 λx52 s=>
 eU 1 s x52 x23 λ_ s=>
 eZ x26 (.i .i64 (.ofNat 1)) λx53=>
 q8 x19 x20 x24 x25 x53 s))
theorem wA{a b c:Nat}(ha:a<B64)(hb:b<B64)(hc:c≤1):∃d c',(∀(s:LS)(K:D→LS→Rs),oV (n64 a) (n64 b) (n64 c) s K=K (.tup [n64 d,n64 c']) s)∧d<B64∧c'≤1∧c'*B64+d=a+b+c:=by
 refine⟨_,_,λs K=>Hx hc,bc _ (by decide),?_,?_⟩
 ·have:a+b+c<B64*2:=by omega
  have:=de this;omega
 ·rw[aK];exact ce _ _
theorem XC(P B vz vz1 z lo c c' a y:Nat)(h1:vz1+z*P=vz+lo*P)(h2:c'*B+lo=a*y+z+c):vz1+c'*(P*B)=vz+a*y*P+c*P:=by
 have e:=congrArg (· *P) h2;simp only[aS]at e;rw[show c'*(P*B)=c'*B*P by rw[aK P B,aa]];omega
theorem SH(M a b o c H lo:Nat)(ha:a<M)(hb:b<M)(ho:o<M)(hc:c<M)(h:H*M+lo=a*b+o+c):H<M:=by
 have h1:a*b≤(M-1)*(M-1):=cA (by omega) (by omega);obtain⟨m,rfl⟩:∃m,M=m+1:=⟨M-1,by omega⟩
 rw[a8]at h1;have h2:H*(m+1)<(m+1)*(m+1):=by
  rw[aS m 1 (m+1),bA m m 1];omega
 exact z1X h2
theorem Le{ys:List Nat}{a i N φ:Nat}{ex:Bool}{q8:D→D→D→D→D→LS→Rs}{X24 X25:D}(ha:a<B64)(hy:lY ys)(hN:N≤1000000000)(hiN:i+ys.length<N):
 ∀(j' j f c:Nat)(zs:List Nat),j'+j=ys.length→j'<f→zs.length=N→lY zs→c<B64→
 ∃zs':List Nat,zs'.length=N∧lY zs'∧val zs'+zs.getD (i+ys.length) 0*B64^(i+ys.length)+a*val (ys.take j)*B64^i=val zs+c*B64^(i+j)+a*val ys*B64^i∧
  lp (λ(_ _ _ _ _ _ _ _ _ _ _:D)(_:LS)=>none) (muF φ q8) f (.tree (c64 ys) ys.length ex) (.sl 0 0 N N 1 true) (.i .i64 (.ofNat i)) (n64 a) (n64 c) X24 X25 (.i .i64 (.ofNat i)) (.tree (c64 ys) ys.length ex) (.i .i64 (.ofNat ys.length)) (.i .i64 (.ofNat j)) (st1 (c64 zs))
   =q8 (.tree (c64 ys) ys.length ex) (.sl 0 0 N N 1 true) X24 X25 (.i .i64 (.ofNat (i+1))) (st1 (c64 zs'))
 |0,j,f+1,c,zs,hj,hf,hl,hs,hc=>by
  have hj:j=ys.length:=by omega
  subst hj;have hzi:zs[i+ys.length]?=some (zs.getD (i+ys.length) 0):=by rw[aD,aB (by omega)];rfl
  refine⟨zs.set (i+ys.length) c,by simp[hl],AR hs hc,?_,?_⟩
  ·rw[Bx c hzi,ch]
  ·rw[eM];unfold muF;rw[kE,fE (bC _),eP];refine(Bb).trans ?_;refine(oU (show i+ys.length≤jp .i64 from(by show i+ys.length≤9223372036854775807;omega))).trans ?_;refine(oR hiN).trans ?_;rw[aV];refine(ux (by rw[fT];omega)).trans ?_;refine(oU (show i+1≤jp .i64 from(by show i+1≤9223372036854775807;omega))).trans ?_;rw[w8]
 |j'+1,j,f+1,c,zs,hj,hf,hl,hs,hc=>by
  have hjl:j<ys.length:=by omega
  have hyj:ys[j]?=some (ys.getD j 0):=by rw[aD,aB hjl];rfl
  have hzj:zs[i+j]?=some (zs.getD (i+j) 0):=by rw[aD,aB (by omega)];rfl
  have hb:=hy _ (bY hyj);have ho:=hs _ (bY hzj);obtain⟨h,l,k1,e1,hl1⟩:=N0 ha hb;obtain⟨lo2,c1,k2,hlo2,hc1,e2⟩:=wA hl1 ho (a9 1);obtain⟨lo3,c2,k3,hlo3,hc2,e3⟩:=wA hlo2 hc (a9 1);have hd:=UB B64 a (ys.getD j 0) (zs.getD (i+j) 0) c h l lo2 c1 lo3 c2 e1 (e2.trans (bH _)) (e3.trans (bH _));have hC:=SH B64 _ _ _ _ _ _ ha hb ho hc hd;obtain⟨zs',h1,h2,h3,h4⟩:=Le (φ:=φ) (ex:=ex) (q8:=q8) (X24:=X24) (X25:=X25) ha hy hN hiN j' (j+1) f (h+c1+c2) (zs.set (i+j) lo3) (by omega) (by omega) (by simp[hl]) (AR hs hlo3) hC;refine⟨zs',h1,h2,?_,?_⟩
  ·have e4:=Bx lo3 hzj;have e5:=XC (B64^(i+j)) B64 _ _ _ _ _ _ _ _ e4 hd;rw[te,bA,aS,show i+(j+1)=(i+j)+1 from rfl,ax]at h3;have e6:a*(ys.getD j 0*B64^j)*B64^i=a*ys.getD j 0*B64^(i+j):=by
    rw[bX,aK (B64^i),←aa,←aa]
   have e7:(zs.set (i+j) lo3).getD (i+ys.length) 0=zs.getD (i+ys.length) 0:=by
    rw[aD,aD,bU (by omega)]
   rw[e6,e7]at h3;generalize B64^(i+ys.length)=P1 at*;generalize (h+c1+c2)*(B64^(i+j)*B64)=P2 at*;generalize a*ys.getD j 0*B64^(i+j)=P3 at*;generalize a*val (List.take j ys)*B64^i=P4 at*;generalize c*B64^(i+j)=P5 at*;generalize a*val ys*B64^i=P6 at*;generalize zs.getD (i+ys.length) 0*P1=P7 at*;clear hd hC e1 e2 e3 e4 k1 k2 k3 h4;omega
  ·rw[←h4,eM];conv=>lhs;unfold muF
   rw[kE,ew hjl,eO];refine(Hu hyj).trans ?_;refine(k1 _ _).trans ?_;refine(oU (show i+j≤jp .i64 from(by show i+j≤9223372036854775807;omega))).trans ?_;refine(oR (show i+j<N by omega)).trans ?_;rw[aV];refine(tR (ky hzj)).trans ?_;refine(k2 _ _).trans ?_;refine(oU (show h+c1≤jp .u64 from bZ (cP (z1x _ c2) hC))).trans ?_;refine(k3 _ _).trans ?_;refine(oU (show i+j≤jp .i64 from(by show i+j≤9223372036854775807;omega))).trans ?_;refine(oU (show h+c1+c2≤jp .u64 from bZ hC)).trans ?_;refine(oR (show i+j<N by omega)).trans ?_;rw[aV];refine(ux (by rw[fT];omega)).trans ?_;refine(oU (show j+1≤jp .i64 from(by show j+1≤9223372036854775807;omega))).trans ?_;rw[w8];rfl
def moF(φ:Nat)(q8:D→D→D→D→D→LS→Rs)(x9 x10 x11 x12 x13:D)(s:LS):Rs:=(
 fN x13 x12 λx14=>
 eQ x14
(eJ 1 s x11 x13 λx15 s=>
 eK s x15 λx16 s=>
 ek x9 s λx17 s=>
 lp (λ(_ _ _ _ _ _ _ _ _ _ _:D)(_:LS)=>none) (muF φ q8) φ x9 x10 x13 x16 (.i .u64 (.ofNat 0)) x11 x12 x13 x9 x17 (.i .i64 (.ofNat 0)) s)
((fM φ) [x10] s λx54 s=>
 eW false s x54 some))
theorem Lh{xs ys:List Nat}{N φ:Nat}{ex ex':Bool}(hx:lY xs)(hy:lY ys)(hN:N≤1000000000)(hNe:N=xs.length+ys.length)(hφ:ys.length<φ):
 ∀(k i f:Nat)(zs:List Nat),k+i=xs.length→k<f→zs.length=N→lY zs→val zs=val (xs.take i)*val ys→
 ∃zs':List Nat,zs'.length=N∧lY zs'∧val zs'=val xs*val ys∧
  lp (λ(_ _ _ _ _:D)(_:LS)=>none) (moF φ) f (.tree (c64 ys) ys.length ex) (.sl 0 0 N N 1 true) (.tree (c64 xs) xs.length ex') (.i .i64 (.ofNat xs.length)) (.i .i64 (.ofNat i)) (st1 (c64 zs))
   =fM φ [.sl 0 0 N N 1 true] (st1 (c64 zs')) λx54 s=>eW false s x54 some
 |0,i,f+1,zs,hi,hf,hl,hs,hv=>by
  have hi:i=xs.length:=by omega
  subst hi;refine⟨zs,hl,hs,by rw[hv,ch],?_⟩;rw[eM];unfold moF;rw[kE,fE (bC _),eP]
 |k+1,i,f+1,zs,hi,hf,hl,hs,hv=>by
  have hix:i<xs.length:=by omega
  have hxi:xs[i]?=some (xs.getD i 0):=by rw[aD,aB hix];rfl
  obtain⟨zs1,h1,h2,h3,h4⟩:=Le (φ:=φ) (ex:=ex) (q8:=lp (λ(_ _ _ _ _:D)(_:LS)=>none) (moF φ) f) (X24:=.tree (c64 xs) xs.length ex') (X25:=.i .i64 (.ofNat xs.length)) (i:=i) (hx _ (bY hxi)) hy hN (by omega) ys.length 0 φ 0 zs (by omega) hφ hl hs (by decide);have htop:zs.getD (i+ys.length) 0=0:=by
   have hz:zs[i+ys.length]?=some (zs.getD (i+ys.length) 0):=by rw[aD,aB (by omega)];rfl
   have hlt:val zs<B64^(i+ys.length):=by
    rw[hv,bX];have g1:=yT (ws:=xs.take i) λw hw=>hx w (br hw);rw[aZ,bS (by omega)]at g1;exact z1Y g1 (dO (yT hy)) (bN (by decide))
   rw[xi hs hz,cL hlt,Nat.zero_mod]
  rw[htop]at h3;obtain⟨zs2,g1,g2,g3,g4⟩:=Lh hx hy hN hNe hφ k (i+1) f zs1 (by omega) (by omega) h1 h2 (by
   rw[te,aS];rw[bT,bT,dB,show val []=0 from rfl,dG,bT]at h3;rw[show xs.getD i 0*B64^i*val ys=xs.getD i 0*val ys*B64^i by rw[aa,aK (B64^i),←aa],←hv];omega)
  refine⟨zs2,g1,g2,g3,?_⟩;rw[←g4,←h4,eM];conv=>lhs;unfold moF
  rw[kE,ew hix,eO];refine(Hu hxi).trans ?_;rfl
end
end Go.Proofs.Ev
namespace Go.Proofs.Ev
theorem Cc(l:List UInt8):ej l 0<256^l.length:=by
 induction l with
 |nil=>exact dA
 |cons a x ih=>
  show ej x (0*256+a.toNat)<256^(x.length+1);rw[mG,bT,aV,ax];have ha:a.toNat+1≤256:=a.toNat_lt;have h2:(a.toNat+1)*256^x.length≤256*256^x.length:=aL _ ha;rw[aS,bG]at h2;rw[aK (256^x.length) 256];omega
theorem blt_eq{a b c d:Nat}(h:a<b↔c<d):Nat.blt a b=Nat.blt c d:=by
 by_cases h1:a<b
 ·rw[ew h1,ew (h.1 h1)]
 ·rw[fE h1,fE λh2=>h1 (h.2 h2)]
theorem Hn:∀{x y:List UInt8},x.length=y.length→Op.bytesLess x y=Nat.blt (ej x 0) (ej y 0)
 |[],[],_=>rfl
 |a::x,b::y,h=>by
  have hl:x.length=y.length:=Nat.succ.inj h;have ih:=Hn hl;show(decide (a<b)||(a==b&&Op.bytesLess x y))=Nat.blt (ej x (0*256+a.toNat)) (ej y (0*256+b.toNat));rw[mG x,mG y,ih,bT,aV,aV,←hl];have hx:=Cc x;have hy:=Cc y;rw[←hl]at hy;generalize 256^x.length=P at*;generalize ej x 0=vx at*;generalize ej y 0=vy at*;rcases cp a.toNat b.toNat with h1|h1|h1
  ·have h2:a<b:=UInt8.lt_iff_toNat_lt.2 h1;rw[aP h2,Bool.true_or];have h3:(a.toNat+1)*P≤b.toNat*P:=aL _ h1;rw[aS,bG]at h3;rw[ew (by omega)]
  ·have h2:a=b:=UInt8.toNat_inj.1 h1;subst h2;have h3:¬a<a:=UInt8.lt_irrefl a;rw[aN h3,z1Z,beq_self_eq_true,z1W];exact blt_eq (by omega)
  ·have h2:¬a<b:=λh=>by have:=UInt8.lt_iff_toNat_lt.1 h;omega
   have h4:(a==b)=false:=by
    apply beq_eq_false_iff_ne.2;intro e;subst e;omega
   rw[aN h2,z1Z,h4,z1O];have h3:(b.toNat+1)*P≤a.toNat*P:=aL _ h1;rw[aS,bG]at h3;rw[fE (by omega)]
theorem Qe{a b:Nat}(h:(ep a).length<(ep b).length):a<b:=by
 have h1:=Cc (ep a);rw[nK]at h1;have hb:0<b:=by
  rcases bQ b with h0|h0
  ·subst h0;rw[Dw]at h;exact absurd h (cQ _)
  ·exact h0
 obtain⟨h2,h3⟩:=tv hb;have h4:256^(ep a).length≤256^((ep b).length-1):=bg (by decide) (by omega);omega
theorem QY{a b:Nat}(h:(ep a).length=(ep b).length):Op.bytesLess (ep a) (ep b)=Nat.blt a b:=by
 rw[Hn h,nK,nK]
end Go.Proofs.Ev
namespace Go.Proofs.Ev
noncomputable section
variable {s:LS} {K:D→LS→Rs}
inductive HT (s:LS):D→List Nat→Prop
 |tr {ws:List Nat} {ex:Bool}:HT s (.tree (c64 ws) ws.length ex) ws
 |sl {l cm:Nat} {ex:Bool} {ws:List Nat} {b:Blk} (hg:s.get l=some b) (hc:b.cs=c64 ws) (hl:b.st.live=true):HT s (.sl l 0 ws.length cm 1 ex) ws
theorem Hold.ht{x:D}{ws:List Nat}(h:Hold s x ws):HT s x ws:=by
 cases h with
 |nil=>exact HT.tr (ws:=[])
 |sl hg=>exact .sl hg rfl rfl
theorem U0{x:D}{ws:List Nat}(h:HT s x ws):ek x s K=K (.i .i64 (.ofNat ws.length)) s:=by
 cases h<;>rfl
theorem JM{x:D}{ws:List Nat}{n:Nat}(h:HT s x ws):∃ex ls,(∀kk,iX s (n+2) x kk=kk (.tree (c64 ws) ws.length ex) ls)∧∀l,l∈ls→∃b,s.get l=some b:=by
 cases h with
 | @tr ws ex=>exact⟨ex,[],λkk=>rfl,λl h=>by cases h⟩
 | @sl l cm ex ws b hg hc hl=>
  refine⟨cnd ex (Nat.beq cm ws.length) false,[l],λkk=>?_,λl' h=>⟨b,by rw[dW.1 h];exact hg⟩⟩;show(jL s l λb=>cnd (lv b.st) (jN 0 b.cs λr=>iw (Nat.mul ws.length 1) r λr=>mg (iX s (n+1)) r λcs ls=>my (cnd ex (Nat.beq cm ws.length) false) λex=>kk (.tree cs ws.length ex) (l::ls)) none)=_;rw[pM,hg];show cnd (lv b.st) (jN 0 b.cs λr=>iw (Nat.mul ws.length 1) r λr=>mg (iX s (n+1)) r λcs ls=>my (cnd ex (Nat.beq cm ws.length) false) λex=>kk (.tree cs ws.length ex) (l::ls)) none=_;have hlen:(c64 ws).length=ws.length:=by simp[c64]
  rw[rN,hl,eL,hc,gE,gu,show Nat.mul ws.length 1=ws.length from aj _,am,aC (by omega),aM (by omega),Cp,ij]
theorem xz:∀(ls:List Nat)(s:LS),(∀l,l∈ls→∃b,s.get l=some b)→∃s',(∀k,vI ls s k=k s')∧(∀x ws,HT s x ws→HT s' x ws)∧(s.fit→s'.fit)
 |[],s,h=>⟨s,λk=>rfl,λ_ _ h=>h,id⟩
 |l::ls,s,h=>by
  obtain⟨b,hb⟩:=h l (bz ..);obtain⟨s',h1,h2,h3⟩:=xz ls (s.put l ⟨b.cs,fzS b.st⟩) λl' hl=>by
   obtain⟨b',hb'⟩:=h l' (bn _ hl);rw[tO hb];by_cases e:l'=l
   ·rw[aC e];exact⟨_,rfl⟩
   ·rw[aF e];exact⟨_,hb'⟩
  refine⟨s',λk=>?_,λx ws hx=>h2 x ws ?_,λhs=>h3 rfl⟩
  ·show(jL s l λb=>pL s l ⟨b.cs,fzS b.st⟩ λs=>vI ls s k)=_;rw[pM,hb];show(pL s l ⟨b.cs,fzS b.st⟩ λs=>vI ls s k)=_;rw[Hv hb,h1]
  ·cases hx with
   |tr=>exact .tr
   | @sl l2 cm ex ws b2 hg hc hl=>
    by_cases e:l2=l
    ·subst e;rw[hb]at hg;cases hg;exact .sl (b:=⟨b.cs,fzS b.st⟩) (by rw[tO hb,aC rfl]) hc (by show(fzS b.st).live=true;rw[R6,Bh];assumption)
    ·exact .sl (by rw[tO hb,aF e];exact hg) hc hl
theorem zi{M:List D→Option D}{x y:D}{xs ys:List Nat}(hx:HT s x xs)(hy:HT s y ys):∃ex ey ls,(∀K,eS M [x,y] s K=ob (M [.tree (c64 xs) xs.length ex,.tree (c64 ys) ys.length ey]) λr=>iz s ls r K)∧∀l,l∈ls→∃b,s.get l=some b:=by
 obtain⟨ex,l1,h1,g1⟩:=JM (n:=58) hx;obtain⟨ey,l2,h2,g2⟩:=JM (n:=58) hy;refine⟨ex,ey,l1++(l2++[]),λK=>?_,λl hl=>?_⟩
 ·show iX s 60 x (λy1 a=>iX s 60 y λy2 b=>ki b [] λab=>ki a ab λab=>ob (M [y1,y2]) λr=>iz s ab r K)=_;rw[h1,h2,gL,gL]
 ·rw[ba]at hl;rcases au.1 hl with h|h
  ·exact g1 l h
  ·exact g2 l h
theorem R8{ls:List Nat}{cs:List D}{n:Nat}{e:Bool}:iz s ls (.tree cs n e) K=vI ls s λs=>K (.tree cs n e) s:=rfl
theorem Bj{ls:List Nat}{cs ds:List D}{n m:Nat}{e f:Bool}:iz s ls (.tup [.tree cs n e,.tree ds m f]) K=vI ls s λs=>K (.tup [.tree cs n e,.tree ds m f]) s:=rfl
theorem qQ{x:D}{ws:List Nat}(hx:HT s x ws)(h:lY ws)(hl:ws.length≤1000000000):eS sn [x] s K=K (.n (val ws)) s:=by
 obtain⟨ex,ls,hr,_⟩:=JM (n:=58) hx;show iX s 60 x (λy a=>ki a [] λab=>ob (sn [y]) λr=>iz s ab r K)=_;rw[hr,gL,C5 h hl];rfl
theorem TW{ws:List Nat}{m len:Nat}(hm:m≤ws.length):∃e,eW false (st1 (c64 ws)) (.sl 0 0 m len 1 true) some=some (.tree (c64 (ws.take m)) m e):=by
 refine⟨true&&len==m,?_⟩;unfold eW;rw[kx];show uO (mT false (st1 (c64 ws)).get fj (.sl 0 0 m len 1 true)) some=_;have:mT false (st1 (c64 ws)).get fj (.sl 0 0 m len 1 true)=some (.tree (c64 (ws.take m)) m (true&&len==m)):=by
  have hcut:cut 0 (m*1) (c64 ws)=some (c64 (ws.take m)):=by
   unfold cut;rw[am,aj,aC (by rw[aZ,fT];omega)];unfold c64;rw[dp]
  have hm:gr (res (st1 (c64 ws)).get 59) (c64 (ws.take m))=some (c64 (ws.take m),[]):=jV (k:=58) _ (vu _);have hr:res (st1 (c64 ws)).get 60 (.sl 0 0 m len 1 true)=some (.tree (c64 (ws.take m)) m (true&&len==m),[0]):=by
   show(match (st1 (c64 ws)).get 0 with
    |some b=>if !b.st.live then none else match cut 0 (m*1) b.cs with
     |some r=>match gr (res (st1 (c64 ws)).get 59) r with
      |some (cs,ls)=>some (D.tree cs m (true&&len==m),0::ls)
      |none=>none
     |none=>none
    |none=>none)=_
   rw[vJ];show(if !Stt.rw.live then none else match cut 0 (m*1) (c64 ws)with
    |some r=>match gr (res (st1 (c64 ws)).get 59) r with
     |some (cs,ls)=>some (D.tree cs m (true&&len==m),0::ls)
     |none=>none
    |none=>none)=_
   rw[aF (by decide),hcut];show(match gr (res (st1 (c64 ws)).get 59) (c64 (ws.take m))with
    |some (cs,ls)=>some (D.tree cs m (true&&len==m),0::ls)
    |none=>none)=_
   rw[hm]
  show(match wy (res (st1 (c64 ws)).get 60 (.sl 0 0 m len 1 true))with
   |some (d,o,ls)=>if o.all λl=> !ls.contains l then some d else none
   |none=>none)=_
  rw[hr];rfl
 rw[this,gV];rfl
theorem Ft{xs ys:List Nat}{ex ey:Bool}{φ:Nat}(hx:lY xs)(hy:lY ys)(hn:xs.length+ys.length≤1000000000)(hφ:xs.length+ys.length<φ):
 ∃zs e,lY zs∧val zs=val xs*val ys∧zs.length≤xs.length+ys.length∧nG φ [.tree (c64 xs) xs.length ex,.tree (c64 ys) ys.length ey]=some (.tree (c64 zs) zs.length e):=by
 obtain⟨zs,h1,h2,h3,h4⟩:=Lh (N:=xs.length+ys.length) (φ:=φ) (ex:=ey) (ex':=ex) hx hy hn rfl (by omega) xs.length 0 φ (List.replicate (xs.length+ys.length) 0) (by omega) (by omega) (by simp) (EQ _) (by rw[FW,dB];show 0=0*val ys;rw[bT]);have e0:nG φ [.tree (c64 xs) xs.length ex,.tree (c64 ys) ys.length ey]=fM φ [.sl 0 0 (xs.length+ys.length) (xs.length+ys.length) 1 true] (st1 (c64 zs)) λx54 s=>eW false s x54 some:=by
  rw[←h4];show(ek (.tree (c64 xs) xs.length ex) s0 λx3 s=>ek (.tree (c64 ys) ys.length ey) s λx4 s=>eZ x3 x4 λx5=>ku 1 8 [(.i .u64 (.ofNat 0))] s x5 x5 λx6 s=>ek (.tree (c64 xs) xs.length ex) s λx7 s=>
   lp (λ(_ _ _ _ _:D)(_:LS)=>none) (moF φ) φ (.tree (c64 ys) ys.length ey) x6 (.tree (c64 xs) xs.length ex) x7 (.i .i64 (.ofNat 0)) s)=_
  refine(Bb).trans ?_;refine(Bb).trans ?_;refine(oU (show xs.length+ys.length≤jp .i64 from(by show xs.length+ys.length≤9223372036854775807;omega))).trans ?_;refine(zf (by omega) (by omega)).trans ?_;refine(Bb).trans ?_;rw[vV]
 by_cases h0:xs.length+ys.length=0
 ·have hz:zs=[]:=ao (by omega);subst hz;refine⟨[],true,λw hw=>(by cases hw),h3,by simp,?_⟩;rw[e0,h0];obtain⟨f,rfl⟩:∃f,φ=f+1:=⟨φ-1,by omega⟩
  rw[zG];rfl
 ·obtain⟨m,g1,g2,g3⟩:=CA (k:=λx54 s=>eW false s x54 some) (by omega) (by omega) h1 (xs.length+ys.length) φ (aE _) hφ;obtain⟨e,g4⟩:=TW (ws:=zs) (m:=m) (len:=xs.length+ys.length) (by omega);refine⟨zs.take m,e,λw hw=>h2 w (br hw),?_,?_,?_⟩
  ·rw[g2,←h1,ch,h3]
  ·rw[aZ];omega
  ·rw[e0,zG];refine(mX).trans ?_;refine Eq.trans g3 ?_;rw[g4,aZ,bS (by omega)]
theorem J9{x y φ:Nat}(hx:Nat.log2 x≤1000000000)(hy:Nat.log2 y≤1000000000)(hφ:Nat.log2 x/64+Nat.log2 y/64+2<φ):sg φ [.n x,.n y]=some (.n (x*y)):=by
 obtain⟨X,s1,xs,k1,hX,sx,vx,lx,m1,_⟩:=rz (s:=s0) (m:=x) rfl hx;obtain⟨Y,s2,ys,k2,hY,sy,vy,ly,m2,_⟩:=rz (s:=s1) (m:=y) (m1.len rfl) hy;unfold sg;refine(k1 _).trans ?_;refine(k2 _).trans ?_;obtain⟨ex,ey,ls,h1,h2⟩:=zi (M:=nG φ) (hX.more m2).ht hY.ht;obtain⟨s3,f1,f2,f3⟩:=xz ls s2 h2;obtain⟨zs,e,g1,g2,g3,g4⟩:=Ft (ex:=ex) (ey:=ey) (φ:=φ) sx sy (by omega) (by omega);refine(h1 _).trans ?_;rw[g4];show iz s2 ls (.tree (c64 zs) zs.length e) _=_;rw[R8,f1];refine(qQ HT.tr g1 (by omega)).trans ?_;rw[g2,vx,vy];rfl
def nR(as:List D):Option D:=
 u1 as λa r=>u1 r λb r=>u0 r (og a λx=>og b λy=>cnd (Nat.ble (Nat.log2 x) 1000000000) (cnd (Nat.ble (Nat.log2 y) 1000000000) (frc (Nat.mul x y) λz=>some (.n z)) none) none)
theorem H8{as:List D}{r:D}(h:nR as=some r):∃φ,sg φ as=some r:=by
 obtain⟨a,r1,rfl,g1⟩:=jh h;obtain⟨b,r2,rfl,g2⟩:=jh g1;obtain⟨rfl,g3⟩:=oX g2;obtain⟨x,rfl,g4⟩:=iE g3;obtain⟨y,rfl,g5⟩:=iE g4;obtain⟨h1,g6⟩:=ff g5;obtain⟨h2,h⟩:=ff g6;rw[fB]at h;exact⟨Nat.log2 x/64+Nat.log2 y/64+3,by rw[J9 (ah h1) (ah h2) (by omega)];exact h⟩
theorem XL{a b:Nat}{k:D→Rs}:fN (.n a) (.n b) k=k (.b (Op.bytesLess (ep a) (ep b))):=by
 show fc .lss (.n a) (.n b) k=_;unfold fc;rw[gV];rfl
theorem GE{a b:Nat}{k:D→Rs}:iB (.n a) (.n b) k=k (.b (Nat.beq a b)):=by
 show fc .eql (.n a) (.n b) k=_;unfold fc;rw[gV];rfl
theorem Jc{x y φ:Nat}:sh φ [.n x,.n y]=some (cnd (Nat.blt x y) (.i .i64 (.negSucc 0)) (cnd (Nat.beq x y) (.i .i64 (.ofNat 0)) (.i .i64 (.ofNat 1)))):=by
 unfold sh;dsimp only[eV,eY];rw[xu,xu,kE];by_cases h1:(ep x).length<(ep y).length
 ·rw[ew h1,ew (Qe h1)];rfl
 ·rw[fE h1];simp only[show ∀(op:(D→LS→Rs)→Rs)(s:LS)(k:D→LS→Rs),eI (.b false) false op s k=op k from λ_ _ _=>rfl,xu,rA];by_cases h2:(ep x).length=(ep y).length
  ·rw[h2,ei];simp only[uA,XL,QY h2,fQ,gD];by_cases h3:x<y
   ·rw[ew h3,eO];rfl
   ·rw[fE h3,eP,GE];cases Nat.beq x y<;>rfl
  ·rw[gR h2];simp only[xO,gD,eP,GE];have h3:y<x:=Qe (by omega);rw[fE (by omega),gR (show x≠y by omega)];rfl
def ng(as:List D):Option D:=
 u1 as λa r=>u1 r λb r=>u0 r (og a λx=>og b λy=>some (cnd (Nat.blt x y) (.i .i64 (.negSucc 0)) (cnd (Nat.beq x y) (.i .i64 (.ofNat 0)) (.i .i64 (.ofNat 1)))))
theorem Ax{as:List D}{r:D}(h:ng as=some r):∃φ,sh φ as=some r:=by
 obtain⟨a,r1,rfl,g1⟩:=jh h;obtain⟨b,r2,rfl,g2⟩:=jh g1;obtain⟨rfl,g3⟩:=oX g2;obtain⟨x,rfl,g4⟩:=iE g3;obtain⟨y,rfl,g5⟩:=iE g4;exact⟨0,by rw[Jc];exact g5⟩
end
end Go.Proofs.Ev
set_option maxRecDepth 1000000
set_option maxHeartbeats 0
namespace Go.Proofs.Ev
noncomputable section
def ii(φ:Nat):List D→Option D:=
λas=>
(λ(s:LS)=>
 u1 as λc g=>
 u1 g λd h=>
 u0 h (
 ek c s λk s=>
 ek d s λl s=>
 nC k l λm=>
 eQ m
(ek c s λn s=>
 ek d s λo s=>
 fN n o λp=>
 eQ p
(eW false s (.i .i64 (.negSucc 0)) some)
(eW false s (.i .i64 (.ofNat 1)) some))
(ek c s λu s=>
 fA u (.i .i64 (.ofNat 1)) λv=>
 lp (λ(_ _ _:D)(_:LS)=>none) (λ(w:D→D→D→LS→Rs)(e f b:D)(s:LS)=>
 kI b (.i .i64 (.ofNat 0)) λy=>
 eQ y
(eJ 1 s e b λz s=>
 eK s z λA s=>
 eJ 1 s f b λB s=>
 eK s B λC s=>
 nC A C λE=>
 eQ E
(eJ 1 s e b λF s=>
 eK s F λG s=>
 eJ 1 s f b λH s=>
 eK s H λI s=>
 fN G I λJ=>
 eQ J
(eW false s (.i .i64 (.negSucc 0)) some)
(eW false s (.i .i64 (.ofNat 1)) some))
(fA b (.i .i64 (.ofNat 1)) λK=>
 w e f K s))
(eW false s (.i .i64 (.ofNat 0)) some)) φ c d v s))) s0
def ma(φ:Nat):List D→Option D:=
λas=>
(λ(s:LS)=>
 u1 as λb m=>
 u0 m (
 jn (λ(d f:D)(s:LS)=>
 jn (λ(e g:D)(s:LS)=>
 jn (λ(n o:D)(s:LS)=>
 lr .u8 n s λp s=>
 kS (.index (.c (.s [0,1,2,2,3,3,3,3,4,4,4,4,4,4,4,4,5,5,5,5,5,5,5,5,5,5,5,5,5,5,5,5,6,6,6,6,6,6,6,6,6,6,6,6,6,6,6,6,6,6,6,6,6,6,6,6,6,6,6,6,6,6,6,6,7,7,7,7,7,7,7,7,7,7,7,7,7,7,7,7,7,7,7,7,7,7,7,7,7,7,7,7,7,7,7,7,7,7,7,7,7,7,7,7,7,7,7,7,7,7,7,7,7,7,7,7,7,7,7,7,7,7,7,7,7,7,7,7,8,8,8,8,8,8,8,8,8,8,8,8,8,8,8,8,8,8,8,8,8,8,8,8,8,8,8,8,8,8,8,8,8,8,8,8,8,8,8,8,8,8,8,8,8,8,8,8,8,8,8,8,8,8,8,8,8,8,8,8,8,8,8,8,8,8,8,8,8,8,8,8,8,8,8,8,8,8,8,8,8,8,8,8,8,8,8,8,8,8,8,8,8,8,8,8,8,8,8,8,8,8,8,8,8,8,8,8,8,8,8,8,8,8,8,8,8,8,8,8,8,8,8,8,8,8,8,8])) (.c p)) s λu s=>
 lr .i64 u s λv s=>
 eZ o v λw=>
 eW false s w some) λh=>
 kI e (.i .u64 (.ofNat 256)) λy=>
 eQ y
(pG e (.i .u64 (.ofNat 8)) λz=>
 eZ g (.i .i64 (.ofNat 8)) λA=>
 h z A s)
(h e g s)) λk=>
 kI d (.i .u64 (.ofNat 65536)) λB=>
 eQ B
(pG d (.i .u64 (.ofNat 16)) λC=>
 eZ f (.i .i64 (.ofNat 16)) λE=>
 k C E s)
(k d f s)) λl=>
 kI b (.i .u64 (.ofNat 4294967296)) λF=>
 eQ F
(pG b (.i .u64 (.ofNat 32)) λG=>
 l G (.i .i64 (.ofNat 32)) s)
(l b (.i .i64 (.ofNat 0)) s))) s0
def gU(φ:Nat):List D→Option D:=
λas=>
(λ(s:LS)=>
 u1 as λb c=>
 u0 c (
 eS (ma φ) [b] s λd s=>
 fA (.i .i64 (.ofNat 64)) d λe=>
 eW false s e some)) s0
def gh(φ:Nat):List D→Option D:=
λas=>
(λ(s:LS)=>
 u1 as λbm bn=>
 u1 bn λbo bp=>
 u1 bp λM bu=>
 u0 bu (
 jn (λ(N bv O:D)(s:LS)=>
 jn (λ(P g h:D)(s:LS)=>
 iB P (.i .u64 (.ofNat 0)) λbw=>
 eQ bw
(vH g h λbz=>
 Jo g h λbA=>
 eW false s (.tup [bz,bA]) some)
(eS (gU φ) [h] s λbB s=>
 lr .u64 bB s λf s=>
 wR h f λw=>
 pG w (.i .u64 (.ofNat 32)) λy=>
 v7 w (.i .u64 (.ofNat 4294967295)) λbC=>
 wR P f λbE=>
 fA (.i .u64 (.ofNat 64)) f λbF=>
 pG g bF λbG=>
 kOr bE bG λz=>
 wR g f λS=>
 pG S (.i .u64 (.ofNat 32)) λbH=>
 v7 S (.i .u64 (.ofNat 4294967295)) λbI=>
 vH z y λU=>
 lW U y λbJ=>
 fA z bJ λbK=>
 jn (λ(V bM A bN bO bP bS W:D)(s:LS)=>
 lW bO (.i .u64 (.ofNat 4294967296)) λbU=>
 eZ bU bP λbV=>
 lW W V λbW=>
 fA bV bW λB=>
 vH B A λX=>
 lW X A λbX=>
 fA B bX λbY=>
 jn (λ(bZ cb cc cd ce Y:D)(s:LS)=>
 lW cd (.i .u64 (.ofNat 4294967296)) λcf=>
 eZ cf Y λcg=>
 lW ce (.i .u64 (.ofNat 4294967296)) λch=>
 eZ ch cc λci=>
 lW Y bZ λck=>
 fA ci ck λcl=>
 pG cl cb λcm=>
 eW false s (.tup [cg,cm]) some) λZ=>
 lp (λ(_ _ _ _ _ _ _ _ _:D)(_:LS)=>none) (λ(cn:D→D→D→D→D→D→D→D→D→LS→Rs)(C E bb bc l F bd G m:D)(s:LS)=>
 kI m (.i .u64 (.ofNat 4294967296)) λc=>
 eI c false (λk=>k m s) s λco s=>
 eI c false (λk=>k bc s) s λcp s=>
 eI c false (λk=>lW co cp λd=>k d s) s λcu s=>
 eI c false (λk=>k bd s) s λcv s=>
 eI c false (λk=>lW (.i .u64 (.ofNat 4294967296)) cv λd=>k d s) s λcw s=>
 eI c false (λk=>k l s) s λcy s=>
 eI c false (λk=>eZ cw cy λd=>k d s) s λcz s=>
 eI c false (λk=>kv cu cz λd=>k d s) s λcA s=>
 fY c (.b true) cA s λcB s=>
 eQ cB
(fA m (.i .u64 (.ofNat 1)) λbf=>
 eZ bd bb λbg=>
 kI bg (.i .u64 (.ofNat 4294967296)) λcC=>
 eQ cC
(Z C E l F G bf s)
(cn C E bb bc l F bg G bf s))
(Z C E l F G m s)) φ V bM A bN bS W bY B X s) λbh=>
 lp (λ(_ _ _ _ _ _ _ _ _:D)(_:LS)=>none) (λ(cE:D→D→D→D→D→D→D→D→D→LS→Rs)(H I n o J p K v bi:D)(s:LS)=>
 kI v (.i .u64 (.ofNat 4294967296)) λe=>
 eI e false (λk=>k v s) s λcF s=>
 eI e false (λk=>k o s) s λcG s=>
 eI e false (λk=>lW cF cG λd=>k d s) s λcH s=>
 eI e false (λk=>k bi s) s λcI s=>
 eI e false (λk=>lW (.i .u64 (.ofNat 4294967296)) cI λd=>k d s) s λcJ s=>
 eI e false (λk=>k p s) s λcK s=>
 eI e false (λk=>eZ cJ cK λd=>k d s) s λcM s=>
 eI e false (λk=>kv cH cM λd=>k d s) s λcN s=>
 fY e (.b true) cN s λcO s=>
 eQ cO
(fA v (.i .u64 (.ofNat 1)) λbk=>
 eZ bi n λbl=>
 kI bl (.i .u64 (.ofNat 4294967296)) λcP=>
 eQ cP
(bh H I n o J p K bk s)
(cE H I n o J p K bk bl s))
(bh H I n o J p K v s)) φ w f y bC z bH bI U bK s)) λcS=>
 wm O N λcU=>
 eQ cU
(eK s .u λcX s=>
 none)
(cS N bv O s)) λcV=>
 iB M (.i .u64 (.ofNat 0)) λcW=>
 eQ cW
(eK s .u λcY s=>
 none)
(cV bm bo M s))) s0
def lQ(φ:Nat):List D→Option D:=
λas=>
(λ(s:LS)=>
 u1 as λe m=>
 u1 m λn o=>
 u0 o (
 ek e s λp s=>
 eZ p (.i .i64 (.ofNat 1)) λh=>
 ku 1 8 [(.i .u64 (.ofNat 0))] s h h λu s=>
 ek e s λv s=>
 lp (λ(_ _ _ _ _:D)(_:LS)=>none) (λ(w:D→D→D→D→D→LS→Rs)(d c f g b:D)(s:LS)=>
 fN b g λy=>
 eQ y
(jn (λ(z A B C E:D)(s:LS)=>
 eZ E (.i .i64 (.ofNat 1)) λF=>
 w z A B C F s) λk=>
 eJ 1 s f b λG s=>
 eK s G λl s=>
 eJ 1 s c b λH s=>
 eK s H λI s=>
 wR l d λJ=>
 kOr I J λK=>
 eJ 1 s c b λM s=>
 eU 1 s M K λ_ s=>
 kv d (.i .i64 (.ofNat 0)) λN=>
 eQ N
(eZ b (.i .i64 (.ofNat 1)) λO=>
 fA (.i .i64 (.ofNat 64)) d λP=>
 pG l P λS=>
 eJ 1 s c O λU s=>
 eU 1 s U S λ_ s=>
 k d c f g b s)
(k d c f g b s))
(eW true s c some)) φ n u e v (.i .i64 (.ofNat 0)) s)) s0
def pU(φ:Nat):List D→LS→(D→LS→Rs)→Rs:=
λas s kk=>
 u1 as λf bd=>
 u1 bd λg bf=>
 u0 bf (
 ek g s λc s=>
 jn (λ(bg bh bi bk bl bm:D)(s:LS)=>
 jn (λ(bn bo E bp:D)(s:LS)=>
 lp (λ(_ _ _ _ _ _ _ _:D)(_:LS)=>none) (λ(bu:D→D→D→D→D→D→D→D→LS→Rs)(h A n w F G H o:D)(s:LS)=>
 fN o H λbv=>
 eQ bv
(eJ 1 s A o λbw s=>
 eK s bw λbz s=>
 eS uL [w,bz] s λI s=>
 fh I 0 s λbA s=>
 fh I 1 s λbB s=>
 oV bB G (.i .u64 (.ofNat 0)) s λJ s=>
 fh J 0 s λbC s=>
 fh J 1 s λbE s=>
 eZ bA bE λbF=>
 eJ 1 s h o λbG s=>
 eK s bG λbH s=>
 tQ bH bC F s λK s=>
 fh K 0 s λbI s=>
 fh K 1 s λbJ s=>
 eJ 1 s h o λbK s=>
 eU 1 s bK bI λ_ s=>
 eZ o (.i .i64 (.ofNat 1)) λbM=>
 bu h A n w bJ bF H bM s)
(eJ 1 s h n λbN s=>
 eK s bN λbO s=>
 tQ bO G F s λM s=>
 fh M 0 s λbP s=>
 fh M 1 s λbS s=>
 eJ 1 s h n λbU s=>
 eU 1 s bU bP λ_ s=>
 iB bS (.i .u64 (.ofNat 0)) λbV=>
 eQ bV
(kk w s)
(lp (λ(_ _ _ _ _ _ _:D)(_:LS)=>none) (λ(bW:D→D→D→D→D→D→D→LS→Rs)(p N B O P S u:D)(s:LS)=>
 fN u S λbX=>
 eQ bX
(eJ 1 s p u λbY s=>
 eK s bY λbZ s=>
 eJ 1 s N u λcb s=>
 eK s cb λcc s=>
 oV bZ cc P s λU s=>
 fh U 0 s λcd s=>
 fh U 1 s λce s=>
 eJ 1 s p u λcf s=>
 eU 1 s cf cd λ_ s=>
 eZ u (.i .i64 (.ofNat 1)) λcg=>
 bW p N B O ce S cg s)
(eJ 1 s p B λch s=>
 eK s ch λci s=>
 eZ ci P λck=>
 eJ 1 s p B λcl s=>
 eU 1 s cl ck λ_ s=>
 fA O (.i .u64 (.ofNat 1)) λcm=>
 kk cm s)) φ h A n w (.i .u64 (.ofNat 0)) n (.i .i64 (.ofNat 0)) s))) φ bn bo E bp (.i .u64 (.ofNat 0)) (.i .u64 (.ofNat 0)) E (.i .i64 (.ofNat 0)) s) λV=>
 lp (λ(_ _ _ _ _ _:D)(_:LS)=>none) (λ(cn:D→D→D→D→D→D→LS→Rs)(y v l z C co:D)(s:LS)=>
 iB co (.i .u64 (.ofNat 0)) λcp=>
 eQ cp
(fA l (.i .i64 (.ofNat 2)) λcu=>
 eJ 1 s v cu λcv s=>
 eK s cv λcw s=>
 eS uL [z,cw] s λW s=>
 fh W 0 s λX s=>
 fh W 1 s λcy s=>
 fN X C λm=>
 eI m false (λk=>k X s) s λcz s=>
 eI m false (λk=>k C s) s λcA s=>
 eI m false (λk=>iB cz cA λd=>k d s) s λcB s=>
 eI m false (λk=>k cB s) s λe s=>
 eI e true (λk=>k cy s) s λcC s=>
 eI e true (λk=>k y s) s λcE s=>
 eI e true (λk=>k l s) s λcF s=>
 eI e true (λk=>fA cF (.i .i64 (.ofNat 2)) λd=>k d s) s λcG s=>
 eI e true (λk=>eJ 1 s cE cG k) s λcH s=>
 eI e true (λk=>eK s cH k) s λcI s=>
 eI e true (λk=>wm cC cI λd=>k d s) s λcJ s=>
 eI m false (λk=>fY e cJ (.b false) s k) s λcK s=>
 fY m (.b true) cK s λcM s=>
 eQ cM
(V y v l z s)
(fA z (.i .u64 (.ofNat 1)) λcN=>
 fA l (.i .i64 (.ofNat 1)) λcO=>
 eJ 1 s v cO λcP s=>
 eK s cP λcS s=>
 oV C cS (.i .u64 (.ofNat 0)) s λY s=>
 fh Y 0 s λcU s=>
 fh Y 1 s λcV s=>
 cn y v l cN cU cV s))
(V y v l z s)) φ bg bh bi bk bl bm s) λZ=>
 eJ 1 s f c λcW s=>
 eK s cW λcX s=>
 fA c (.i .i64 (.ofNat 1)) λcY=>
 eJ 1 s g cY λcZ s=>
 eK s cZ λdb s=>
 kI cX db λdc=>
 eQ dc
(fA c (.i .i64 (.ofNat 1)) λdd=>
 eJ 1 s f dd λde s=>
 eK s de λdf s=>
 fA c (.i .i64 (.ofNat 1)) λdg=>
 eJ 1 s g dg λdh s=>
 eK s dh λdi s=>
 oV df di (.i .u64 (.ofNat 0)) s λbb s=>
 fh bb 0 s λdk s=>
 fh bb 1 s λdl s=>
 Z f g c (.i .u64 (.ofNat 18446744073709551615)) dk dl s)
(eJ 1 s f c λdm s=>
 eK s dm λdn s=>
 fA c (.i .i64 (.ofNat 1)) λdp=>
 eJ 1 s f dp λdu s=>
 eK s du λdv s=>
 fA c (.i .i64 (.ofNat 1)) λdw=>
 eJ 1 s g dw λdy s=>
 eK s dy λdz s=>
 eS (gh φ) [dn,dv,dz] s λbc s=>
 fh bc 0 s λdA s=>
 fh bc 1 s λdB s=>
 Z f g c dA dB (.i .u64 (.ofNat 0)) s))
def gj(φ:Nat):List D→Option D:=
λas=>
(λ(s:LS)=>
 u1 as λf O=>
 u1 O λg P=>
 u0 P (
 eS (ii φ) [f,g] s λS s=>
 fN S (.i .i64 (.ofNat 0)) λU=>
 eQ U
(eW false s (.tup [(.tree [] 0 true),f]) some)
(ek g s λV s=>
 iB V (.i .i64 (.ofNat 1)) λW=>
 eQ W
(ek f s λC s=>
 ku 1 8 [(.i .u64 (.ofNat 0))] s C C λX s=>
 ek f s λY s=>
 fA Y (.i .i64 (.ofNat 1)) λZ=>
 lp (λ(_ _ _ _ _:D)(_:LS)=>none) (λ(bb:D→D→D→D→D→LS→Rs)(E F p G n:D)(s:LS)=>
 kI n (.i .i64 (.ofNat 0)) λbc=>
 eQ bc
(eJ 1 s E n λbd s=>
 eK s bd λbf s=>
 eJ 1 s F (.i .i64 (.ofNat 0)) λbg s=>
 eK s bg λbh s=>
 eS (gh φ) [G,bf,bh] s λH s=>
 fh H 0 s λbi s=>
 fh H 1 s λbk s=>
 eJ 1 s p n λbl s=>
 eU 1 s bl bi λ_ s=>
 fA n (.i .i64 (.ofNat 1)) λbm=>
 bb E F p bk bm s)
((fM φ) [p] s λbn s=>
 ie 1 [(.i .u64 (.ofNat 0))] [(0,1,G)] s λbo s=>
(fM φ) [bo] s λbp s=>
 eW false s (.tup [bn,bp]) some)) φ f g X (.i .u64 (.ofNat 0)) Z s)
(ek g s λbu s=>
 fA bu (.i .i64 (.ofNat 1)) λbv=>
 eJ 1 s g bv λbw s=>
 eK s bw λbz s=>
 eS (gU φ) [bz] s λu s=>
 eS (lQ φ) [g,u] s λbA s=>
(fM φ) [bA] s λI s=>
 eS (lQ φ) [f,u] s λbB s=>
 ek I s λv s=>
 ek f s λbC s=>
 fA bC v λbE=>
 eZ bE (.i .i64 (.ofNat 1)) λJ=>
 ku 1 8 [(.i .u64 (.ofNat 0))] s J J λbF s=>
 ek f s λbG s=>
 fA bG v λbH=>
 lp (λ(_ _ _ _ _ _:D)(_:LS)=>none) (λ(bI:D→D→D→D→D→D→LS→Rs)(K M w o y l:D)(s:LS)=>
 kI l (.i .i64 (.ofNat 0)) λbJ=>
 eQ bJ
(eZ l o λbK=>
 eZ bK (.i .i64 (.ofNat 1)) λbM=>
 kn 1 s w (some l) (some bM) none λbN s=>
(pU φ) [bN,M] s λbO s=>
 eJ 1 s y l λbP s=>
 eU 1 s bP bO λ_ s=>
 fA l (.i .i64 (.ofNat 1)) λbS=>
 bI K M w o y bS s)
(lp (λ(_ _ _ _ _ _:D)(_:LS)=>none) (λ(bU:D→D→D→D→D→D→LS→Rs)(m c z A B e:D)(s:LS)=>
 fN e B λbV=>
 eQ bV
(jn (λ(bW bX bY bZ cb cc:D)(s:LS)=>
 eZ cc (.i .i64 (.ofNat 1)) λcd=>
 bU bW bX bY bZ cb cd s) λN=>
 eJ 1 s c e λce s=>
 eK s ce λcf s=>
 pG cf m λcg=>
 eJ 1 s c e λch s=>
 eU 1 s ch cg λ_ s=>
 kv m (.i .i64 (.ofNat 0)) λh=>
 eI h true (λk=>k e s) s λci s=>
 eI h true (λk=>eZ ci (.i .i64 (.ofNat 1)) λd=>k d s) s λck s=>
 eI h true (λk=>k c s) s λcl s=>
 eI h true (λk=>ek cl s k) s λcm s=>
 eI h true (λk=>fN ck cm λd=>k d s) s λcn s=>
 fY h cn (.b false) s λco s=>
 eQ co
(eJ 1 s c e λcp s=>
 eK s cp λcu s=>
 eZ e (.i .i64 (.ofNat 1)) λcv=>
 eJ 1 s c cv λcw s=>
 eK s cw λcy s=>
 fA (.i .i64 (.ofNat 64)) m λcz=>
 wR cy cz λcA=>
 kOr cu cA λcB=>
 eJ 1 s c e λcC s=>
 eU 1 s cC cB λ_ s=>
 N m c z A B e s)
(N m c z A B e s))
(eS (AG (fM φ)) [A] s λcE s=>
 kn 1 s c none (some z) none λcF s=>
(fM φ) [cF] s λcG s=>
 eW false s (.tup [cE,cG]) some)) φ K w o y o (.i .i64 (.ofNat 0)) s)) φ u I bB v bF bH s)))) s0
def kG(φ:Nat):List D→Option D:=
λas=>
(λ(s:LS)=>
 u1 as λe f=>
 u1 f λg h=>
 u0 h (
 eS qu [e] s λk s=>
 eS qu [g] s λl s=>
 lp (λ(_ _:D)(_:LS)=>none) (λ(m:D→D→LS→Rs)(c b:D)(s:LS)=>
 ek b s λn s=>
 kv n (.i .i64 (.ofNat 0)) λo=>
 eQ o
(eS (gj φ) [c,b] s λd s=>
 fh d 0 s λv s=>
 fh d 1 s λp s=>
 m b p s)
(eS sn [c] s λu s=>
 eW false s u some)) φ k l s)) s0
def ia(φ:Nat):List D→Option D:=
λas=>
(λ(s:LS)=>
 u1 as λc d=>
 u1 d λe f=>
 u0 f (
 eS qu [c] s λg s=>
 eS qu [e] s λh s=>
 eS (gj φ) [g,h] s λb s=>
 fh b 0 s λi s=>
 fh b 1 s λk s=>
 eS sn [i] s λl s=>
 eS sn [k] s λm s=>
 eW false s (.tup [l,m]) some)) s0
variable {s:LS} {K:D→LS→Rs}
theorem Ad{kk:IntKind}{a b:Nat}{k:D→Rs}:nC (.i kk (.ofNat a)) (.i kk (.ofNat b)) k=k (.b (not (Nat.beq a b))):=by
 unfold nC;rw[qL,uM]
theorem DF{kk:IntKind}{a b:Nat}{k:D→Rs}:kI (.i kk (.ofNat a)) (.i kk (.ofNat b)) k=k (.b (Nat.ble b a)):=by
 unfold kI;rw[qL,uM]
theorem Ae{kk:IntKind}{a b:Nat}{k:D→Rs}:wm (.i kk (.ofNat a)) (.i kk (.ofNat b)) k=k (.b (Nat.ble a b)):=by
 unfold wm;rw[qL,uM]
theorem ze{k:D→Rs}:fA (.i .i64 (.ofNat 0)) (.i .i64 (.ofNat 1)) k=k (.i .i64 (.negSucc 0)):=by
 show fc .sub (.i .i64 (.ofNat 0)) (.i .i64 (.ofNat 1)) k=_;unfold fc;rw[gV];rfl
theorem uB{k:D→Rs}:kI (.i .i64 (.negSucc 0)) (.i .i64 (.ofNat 0)) k=k (.b false):=by
 show fc .geq (.i .i64 (.negSucc 0)) (.i .i64 (.ofNat 0)) k=_;unfold fc;rw[gV];rfl
theorem sT{k:D→Rs}:fN (.i .i64 (.negSucc 0)) (.i .i64 (.ofNat 0)) k=k (.b true):=by
 show fc .lss (.i .i64 (.negSucc 0)) (.i .i64 (.ofNat 0)) k=_;unfold fc;rw[gV];rfl
def yG(x y:Nat):D:=cnd (Nat.blt x y) (.i .i64 (.negSucc 0)) (cnd (Nat.beq x y) (.i .i64 (.ofNat 0)) (.i .i64 (.ofNat 1)))
def cwF(q11:D→D→D→LS→Rs)(x12 x13 x14:D)(s:LS):Rs:=(
 kI x14 (.i .i64 (.ofNat 0)) λx15=>
 eQ x15
(eJ 1 s x12 x14 λx16 s=>
 eK s x16 λx17 s=>
 eJ 1 s x13 x14 λx18 s=>
 eK s x18 λx19 s=>
 nC x17 x19 λx20=>
 eQ x20
(eJ 1 s x12 x14 λx21 s=>
 eK s x21 λx22 s=>
 eJ 1 s x13 x14 λx23 s=>
 eK s x23 λx24 s=>
 fN x22 x24 λx25=>
 eQ x25
(eW false s (.i .i64 (.negSucc 0)) some)
(eW false s (.i .i64 (.ofNat 1)) some))
(fA x14 (.i .i64 (.ofNat 1)) λx26=>
 q11 x12 x13 x26 s))
(eW false s (.i .i64 (.ofNat 0)) some))
theorem kRd{x:Nat}{ex:Bool}:(eJ 1 s (.tree [n64 x] 1 ex) (.i .i64 (.ofNat 0)) λa s=>eK s a K)=K (n64 x) s:=rfl
theorem OJ{x y f:Nat}{ex ey:Bool}:lp (λ(_ _ _:D)(_:LS)=>none) cwF (f+2) (.tree [n64 x] 1 ex) (.tree [n64 y] 1 ey) (.i .i64 (.ofNat 0)) s0=some (yG x y):=by
 rw[eM];unfold cwF yG;rw[DF,show Nat.ble 0 0=true from rfl,eO];refine(kRd).trans ?_;refine(kRd).trans ?_;refine(Ad).trans ?_;by_cases h:x=y
 ·subst h;rw[ei,cG,eP,ze,fE (bC x),eM];rw[uB,eP];rfl
 ·rw[gR h,Bool.not_false,eO];refine(kRd).trans ?_;refine(kRd).trans ?_;refine(kE).trans ?_;by_cases h2:x<y
  ·rw[ew h2,eO];rfl
  ·rw[fE h2,eP];rfl
theorem I8{x y f:Nat}{ex ey:Bool}:ii (f+2) [.tree [n64 x] 1 ex,.tree [n64 y] 1 ey]=some (yG x y):=by
 show(ek (.tree [n64 x] 1 ex) s0 λx3 s=>ek (.tree [n64 y] 1 ey) s λx4 s=>nC x3 x4 λx5=>eQ x5
  (ek (.tree [n64 x] 1 ex) s λx6 s=>ek (.tree [n64 y] 1 ey) s λx7 s=>fN x6 x7 λx8=>eQ x8 (eW false s (.i .i64 (.negSucc 0)) some) (eW false s (.i .i64 (.ofNat 1)) some))
  (ek (.tree [n64 x] 1 ex) s λx9 s=>fA x9 (.i .i64 (.ofNat 1)) λx10=>lp (λ(_ _ _:D)(_:LS)=>none) cwF (f+2) (.tree [n64 x] 1 ex) (.tree [n64 y] 1 ey) x10 s))=_
 rw[ph,ph,Ad,ei,cG,eP,ph,oi (aE 1) (show 1≤jp .i64 by decide)];exact OJ
theorem SA{y f:Nat}{ex ey:Bool}:ii f [.tree [] 0 ex,.tree [n64 y] 1 ey]=some (.i .i64 (.negSucc 0)):=by
 show(ek (.tree [] 0 ex) s0 λx3 s=>ek (.tree [n64 y] 1 ey) s λx4 s=>nC x3 x4 λx5=>eQ x5
  (ek (.tree [] 0 ex) s λx6 s=>ek (.tree [n64 y] 1 ey) s λx7 s=>fN x6 x7 λx8=>eQ x8 (eW false s (.i .i64 (.negSucc 0)) some) (eW false s (.i .i64 (.ofNat 1)) some))
  (ek (.tree [] 0 ex) s λx9 s=>fA x9 (.i .i64 (.ofNat 1)) λx10=>lp (λ(_ _ _:D)(_:LS)=>none) cwF f (.tree [] 0 ex) (.tree [n64 y] 1 ey) x10 s))=_
 rw[ph,ph,Ad];rfl
theorem Rp{x y φ:Nat}(hx:x<B64)(hy:0<y):∃q r,gh φ [n64 0,n64 x,n64 y]=some (.tup [n64 q,n64 r])∧q=x/y∧r=x%y:=by
 refine⟨_,_,?_,rfl,rfl⟩;unfold gh n64;dsimp only[eV,eY,jn];refine(rA).trans ?_;rw[gR (by omega),eP];refine(Ae).trans ?_;rw[mY (by omega),eP];refine(rA).trans ?_;rw[ei,eO];refine(GD (by omega) (bZ hx)).trans ?_;refine(Jn (by omega)).trans ?_;rfl
theorem El{l len h:Nat}{b:Blk}{k:D→LS→Rs}(hg:s.get l=some b)(hl:b.st.live=true)(h0:0<len)(hh:h≤len):kn 1 s (.sl l 0 len len 1 true) none (some (.i .i64 (.ofNat h))) none k=k (.sl l 0 h len 1 true) s:=by
 show(jL s l λb=>cnd (lv b.st) (cnd (Nat.ble len len) (cnd (Nat.ble h len) (cnd (Nat.ble 0 h) (cnd (Nat.beq 1 1) (my true λex=>cnd (Nat.blt 0 len) (frc (Nat.add 0 (Nat.mul 0 1)) λoff=>frc (Nat.sub h 0) λl'=>frc (Nat.sub len 0) λcm=>k (.sl l off l' cm 1 ex) s) (k (.tree [] 0 ex) s)) none) none) none) none) none)=_;rw[pM,hg];show cnd (lv b.st) (cnd (Nat.ble len len) (cnd (Nat.ble h len) (cnd (Nat.ble 0 h) (cnd (Nat.beq 1 1) (my true λex=>cnd (Nat.blt 0 len) (frc (Nat.add 0 (Nat.mul 0 1)) λoff=>frc (Nat.sub h 0) λl'=>frc (Nat.sub len 0) λcm=>k (.sl l off l' cm 1 ex) s) (k (.tree [] 0 ex) s)) none) none) none) none) none=_;rw[rN,hl,aH (aE len),aH hh,aH (a9 h),ew h0];simp only[eL,ij,fB,ei];rfl
theorem Gq{l w f:Nat}{b:Blk}{k:D→LS→Rs}(hg:s.get l=some b)(hc:b.cs=[n64 w])(hl:b.st.live=true):
 fM (f+2) [.sl l 0 1 1 1 true] s k=k (.sl l 0 (if w=0 then 0 else 1) 1 1 true) s:=by
 rw[zG];refine(mX).trans ?_;rw[eM];unfold At;rw[oS,show Nat.blt 0 1=true from rfl];simp only[uA,oi (kk:=.i64) (aE 1) (show 1≤jp .i64 by decide),bt,vq hg hl dA,bT,bH];refine(yf (d:=n64 w) hg hl (by rw[hc];rfl)).trans ?_;refine(rA).trans ?_;by_cases h:w=0
 ·rw[h,aC rfl,ei,fQ,eO,eM];refine(oS).trans ?_;rw[show Nat.blt 0 0=false from rfl];simp only[xO,gD,eP];exact El hg hl dA (a9 1)
 ·rw[aF h,gR h,fQ,eP];exact El hg hl dA (aE 1)
def dvF(φ:Nat)(q11:D→D→D→D→D→LS→Rs)(x12 x13 x14 x15 x16:D)(s:LS):Rs:=(
 kI x16 (.i .i64 (.ofNat 0)) λx17=>
 eQ x17
(eJ 1 s x12 x16 λx18 s=>
 eK s x18 λx19 s=>
 eJ 1 s x13 (.i .i64 (.ofNat 0)) λx20 s=>
 eK s x20 λx21 s=>
 eS (gh φ) [x15,x19,x21] s λx22 s=>
 fh x22 0 s λx23 s=>
 fh x22 1 s λx24 s=>
 eJ 1 s x14 x16 λx25 s=>
 eU 1 s x25 x23 λ_ s=>
 fA x16 (.i .i64 (.ofNat 1)) λx26=>
 q11 x12 x13 x14 x24 x26 s)
((fM φ) [x14] s λx27 s=>
 ie 1 [(.i .u64 (.ofNat 0))] [(0,1,x15)] s λx28 s=>
(fM φ) [x28] s λx29 s=>
 eW false s (.tup [x27,x29]) some))
theorem ZI{M:List D→Option D}{x y z:Nat}:eS M [n64 x,n64 y,n64 z] s K=ob (M [n64 x,n64 y,n64 z]) λr=>iz s [] r K:=rfl
theorem gN{α:Type}{a:α}{k:α→Rs}:ob (some a) k=k a:=rfl
theorem tI{g:Nat→Option Blk}{n l off len cm z:Nat}{ex:Bool}{b:Blk}{r cs:List D}{ls:List Nat}(hg:g l=some b)(hl:b.st.live=true)(hc:cut off (len*z) b.cs=some r)(hm:gr (res g n) r=some (cs,ls)):
 res g (n+1) (.sl l off len cm z ex)=some (.tree cs len (ex&&cm==len),l::ls):=by
 show(match g l with
  |some b=>if !b.st.live then none else match cut off (len*z) b.cs with
   |some r=>match gr (res g n) r with
    |some (cs,ls)=>some (D.tree cs len (ex&&cm==len),l::ls)
    |none=>none
   |none=>none
  |none=>none)=_
 rw[hg];show(if !b.st.live then none else match cut off (len*z) b.cs with
  |some r=>match gr (res g n) r with
   |some (cs,ls)=>some (D.tree cs len (ex&&cm==len),l::ls)
   |none=>none
  |none=>none)=_
 rw[hl,hc];show(match gr (res g n) r with
  |some (cs,ls)=>some (D.tree cs len (ex&&cm==len),l::ls)
  |none=>none)=_
 rw[hm]
theorem Ku{q r m:Nat}(hm:m≤1):eW false ((st1 [n64 q]).push ⟨[n64 r],.rw⟩) (.tup [.sl 0 0 1 1 1 true,.sl 1 0 m 1 1 true]) some=some (.tup [.tree [n64 q] 1 true,.tree ([n64 r].take m) m (true&&1==m)]):=by
 unfold eW;rw[kx];show uO (mT false ((st1 [n64 q]).push ⟨[n64 r],.rw⟩).get fj (.tup [.sl 0 0 1 1 1 true,.sl 1 0 m 1 1 true])) some=_;have g0:((st1 [n64 q]).push ⟨[n64 r],.rw⟩).get 0=some ⟨[n64 q],.rw⟩:=rfl;have g1:((st1 [n64 q]).push ⟨[n64 r],.rw⟩).get 1=some ⟨[n64 r],.rw⟩:=by kernel_rfl
 have hq:∀g,gr (res g 59) [n64 q]=some ([n64 q],[]):=λg=>jV (k:=58) [n64 q] rfl;have hr:∀g,gr (res g 59) ([n64 r].take m)=some ([n64 r].take m,[]):=λg=>jV (k:=58) _ (by
  rcases bQ m with h|h
  ·subst h;rfl
  ·have:m=1:=by omega
   subst this;rfl)
 have c1:cut 0 (m*1) [n64 r]=some ([n64 r].take m):=by
  unfold cut;rw[am,aj,aC (by rw[aZ];simp;omega)]
 have c0:cut 0 (1*1) [n64 q]=some [n64 q]:=rfl;have:mT false ((st1 [n64 q]).push ⟨[n64 r],.rw⟩).get fj (.tup [.sl 0 0 1 1 1 true,.sl 1 0 m 1 1 true])=some (.tup [.tree [n64 q] 1 true,.tree ([n64 r].take m) m (true&&1==m)]):=by
  have r0:=tI (n:=59) (off:=0) (len:=1) (cm:=1) (z:=1) (ex:=true) g0 rfl c0 (hq _);have r1:=tI (n:=59) (off:=0) (len:=m) (cm:=1) (z:=1) (ex:=true) g1 rfl c1 (hr _);show(match wy (res ((st1 [n64 q]).push ⟨[n64 r],.rw⟩).get 60 (.sl 0 0 1 1 1 true)),gr (res ((st1 [n64 q]).push ⟨[n64 r],.rw⟩).get 60) [.sl 1 0 m 1 1 true]with
   |some (d,o,ls),some (ds,ls')=>if o.all λl=> !(ls++ls').contains l then some (D.tup (d::ds))else none
   |_,_=>none)=_
  have r2:gr (res ((st1 [n64 q]).push ⟨[n64 r],.rw⟩).get 60) [.sl 1 0 m 1 1 true]=some ([.tree ([n64 r].take m) m (true&&1==m)],[1]):=by
   unfold gr;rw[r1];rfl
  rw[r0,r2];rfl
 rw[this,gV];rfl
theorem VB{M:List D→Option D}{x y z q r:Nat}(h:M [n64 x,n64 y,n64 z]=some (.tup [n64 q,n64 r])):eS M [n64 x,n64 y,n64 z] s K=K (.tup [n64 q,n64 r]) s:=by
 rw[ZI,h,gN];exact Vu
theorem iO{a b:D}:fh (.tup [a,b]) 0 s K=K a s:=rfl
theorem iN{a b:D}:fh (.tup [a,b]) 1 s K=K b s:=rfl
theorem Hw{r:Nat}:ie 1 [.i .u64 (.ofNat 0)] [(0,1,n64 r)] s K=K (.sl s.nx 0 1 1 1 true) (s.push ⟨[n64 r],.rw⟩):=by
 show(lP s ⟨[n64 r],.rw⟩ λs'=>K (.sl s.nx 0 1 1 1 true) s')=_;rw[mH]
theorem Ux{x y f:Nat}{ex ey:Bool}(hx:x<B64)(hy:0<y)(hle:y≤x):∃e rs e',c64 rs=(if x%y=0 then[]else[n64 (x%y)])∧lp (λ(_ _ _ _ _:D)(_:LS)=>none) (dvF (f+2)) (f+2) (.tree [n64 x] 1 ex) (.tree [n64 y] 1 ey) (.sl 0 0 1 1 1 true) (.i .u64 (.ofNat 0)) (.i .i64 (.ofNat 0)) (st1 [n64 0])
 =some (.tup [.tree [n64 (x/y)] 1 e,.tree (c64 rs) rs.length e']):=by
 obtain⟨q,r,h1,hq,hr⟩:=Rp (φ:=f+2) hx hy;have hq0:q≠0:=by
  have:=z1q hle hy;omega
 rw[←hq,←hr];have e1:∀(rs:List Nat)(m:Nat),m=(if r=0 then 0 else 1)→c64 rs=(if r=0 then[]else[n64 r])→rs.length=m→∃e e',eW false ((st1 [n64 q]).push ⟨[n64 r],.rw⟩) (.tup [.sl 0 0 1 1 1 true,.sl 1 0 m 1 1 true]) some=some (.tup [.tree [n64 q] 1 e,.tree (c64 rs) rs.length e']):=by
  intro rs m hm hc hl;by_cases h:r=0
  ·rw[aC h]at hm hc;subst hm;rw[hc,hl,Ku (a9 1)];exact⟨true,_,rfl⟩
  ·rw[aF h]at hm hc;subst hm;rw[hc,hl,Ku (aE 1)];exact⟨true,_,rfl⟩
 have e2:lp (λ(_ _ _ _ _:D)(_:LS)=>none) (dvF (f+2)) (f+2) (.tree [n64 x] 1 ex) (.tree [n64 y] 1 ey) (.sl 0 0 1 1 1 true) (.i .u64 (.ofNat 0)) (.i .i64 (.ofNat 0)) (st1 [n64 0])
  =eW false ((st1 [n64 q]).push ⟨[n64 r],.rw⟩) (.tup [.sl 0 0 1 1 1 true,.sl 1 0 (if r=0 then 0 else 1) 1 1 true]) some:=by
  rw[show D.i .u64 (.ofNat 0)=n64 0 from rfl,eM];unfold dvF;rw[DF,show Nat.ble 0 0=true from rfl,eO];refine(kRd).trans ?_;refine(kRd).trans ?_;rw[VB h1];refine(iO).trans ?_;refine(iN).trans ?_;refine(oR dA).trans ?_;refine(ux dA).trans ?_;refine(ze).trans ?_;rw[eM];refine(uB).trans ?_;rw[eP,show[n64 0].set (0+0) (D.i .u64 (.ofNat q))=[n64 q]from rfl];refine(Gq (f:=f) (b:=⟨[n64 q],.rw⟩) (w:=q) rfl rfl rfl).trans ?_;rw[aF hq0,Hw];exact Gq (f:=f) (b:=⟨[n64 r],.rw⟩) (w:=r) (by kernel_rfl) rfl rfl
 by_cases h:r=0
 ·obtain⟨e,e',h2⟩:=e1 [] 0 (by rw[aC h]) (by rw[aC h];rfl) rfl;refine⟨e,[],e',by rw[aC h];rfl,?_⟩;rw[e2,aC h];exact h2
 ·obtain⟨e,e',h2⟩:=e1 [r] 1 (by rw[aF h]) (by rw[aF h];rfl) rfl;refine⟨e,[r],e',by rw[aF h];rfl,?_⟩;rw[e2,aF h];exact h2
end
end Go.Proofs.Ev
namespace Go.Proofs.Ev
noncomputable section
variable {s:LS} {K:D→LS→Rs}
def One(ws:List Nat)(m:Nat):Prop:=(m=0∧ws=[])∨(0<m∧m<B64∧ws=[m])
theorem One.val{ws:List Nat}{m:Nat}(h:One ws m):Ev.val ws=m∧lY ws∧ws.length≤1:=by
 rcases h with⟨rfl,rfl⟩|⟨h1,h2,rfl⟩
 ·exact⟨rfl,(λw hw=>(by cases hw)),a9 1⟩
 ·exact⟨rfl,(λw hw=>(by rw[dW.1 hw];exact h2)),aE 1⟩
theorem CT{cs ds:List D}{n m:Nat}{e e':Bool}:eW false s (.tup [.tree cs n e,.tree ds m e']) some=some (.tup [.tree cs n e,.tree ds m e']):=by
 unfold eW;rw[kx];show uO _ some=_;rw[gV];rfl
theorem Af{M:List D→Option D}{cs ds:List D}{n m:Nat}{e e':Bool}{k:IntKind}{z:Int}(h:M [.tree cs n e,.tree ds m e']=some (.i k z)):eS M [.tree cs n e,.tree ds m e'] s K=K (.i k z) s:=by
 show ob (M [.tree cs n e,.tree ds m e']) (λr=>iz s [] r K)=_;rw[h];rfl
theorem MV{x y:Nat}(h:x<y):yG x y=.i .i64 (.negSucc 0):=by unfold yG;rw[ew h];rfl
theorem MW{x y:Nat}(h:y≤x):∃c,yG x y=.i .i64 (.ofNat c):=by
 unfold yG;rw[fE (by omega),e9];by_cases e:x=y
 ·subst e;rw[ei];exact⟨0,rfl⟩
 ·rw[gR e];exact⟨1,rfl⟩
theorem DS{x y f:Nat}{xs ys:List Nat}{ex ey:Bool}(hX:One xs x)(hY:One ys y)(hy:0<y):∃qs rs e e',One qs (x/y)∧One rs (x%y)∧
 gj (f+2) [.tree (c64 xs) xs.length ex,.tree (c64 ys) ys.length ey]=some (.tup [.tree (c64 qs) qs.length e,.tree (c64 rs) rs.length e']):=by
 have hys:ys=[y]:=by
  rcases hY with⟨h1,h2⟩|⟨h1,h2,h3⟩
  ·omega
  ·exact h3
 have hyB:y<B64:=by
  rcases hY with⟨h1,h2⟩|⟨h1,h2,h3⟩
  ·omega
  ·exact h2
 subst hys;rcases hX with⟨h1,h2⟩|⟨h1,h2,h3⟩
 ·subst h1 h2;refine⟨[],[],true,ex,Or.inl ⟨Nat.zero_div y,rfl⟩,Or.inl ⟨Nat.zero_mod y,rfl⟩,?_⟩;unfold gj;dsimp only[eV,eY];refine(Af (cs:=[]) (n:=0) (ds:=[n64 y]) (m:=1) SA).trans ?_;refine(sT).trans ?_;rw[eO];exact CT
 ·subst h3;by_cases hlt:x<y
  ·refine⟨[],[x],true,ex,Or.inl ⟨cL hlt,rfl⟩,Or.inr ⟨by rw[bL hlt];exact h1,by rw[bL hlt];exact h2,by rw[bL hlt]⟩,?_⟩;unfold gj;dsimp only[eV,eY];refine(Af (cs:=[n64 x]) (n:=1) (ds:=[n64 y]) (m:=1) (by rw[I8,MV hlt])).trans ?_;refine(sT).trans ?_;rw[eO];exact CT
  ·have hle:y≤x:=by omega
   obtain⟨c,hc⟩:=MW hle;obtain⟨e,rs,e',g1,g2⟩:=Ux (f:=f) (ex:=ex) (ey:=ey) h2 hy hle;have hq:0<x/y:=z1q hle hy;have hr:One rs (x%y):=by
    by_cases h:x%y=0
    ·rw[aC h]at g1;refine Or.inl ⟨h,?_⟩;cases rs with
     |nil=>rfl
     |cons a b=>cases g1
    ·rw[aF h]at g1;have hlt:=bc x hy;refine Or.inr ⟨by omega,by omega,?_⟩;cases rs with
     |nil=>cases g1
     |cons a b=>
      cases b with
      |nil=>
       have:n64 a=n64 (x%y):=(z1v g1).1;unfold n64 at this;injection this with _ h4;injection h4 with h5;rw[h5]
      |cons _ _=>cases(z1v g1).2
   refine⟨[x/y],rs,e,e',Or.inr ⟨hq,cP (z1D x y) h2,rfl⟩,hr,?_⟩;unfold gj;dsimp only[eV,eY];refine(Af (cs:=[n64 x]) (n:=1) (ds:=[n64 y]) (m:=1) (by rw[I8,hc])).trans ?_;refine(kE).trans ?_;rw[fE (cQ c),eP];refine(ph).trans ?_;refine(rA).trans ?_;rw[show Nat.beq ([y]:List Nat).length 1=true from rfl,eO];refine(ph).trans ?_;refine(zf (n:=1) (by decide) (by decide)).trans ?_;refine(ph).trans ?_;refine(oi (kk:=.i64) (aE 1) (show 1≤jp .i64 by decide)).trans ?_;exact g2
theorem t8{m:Nat}(hs:s.fit)(hm:m<B64):∃x s' ws,(∀K,eS qu [.n m] s K=K x s')∧Hold s' x ws∧One ws m∧More s s':=by
 by_cases h0:m=0
 ·subst h0;exact⟨.tree [] 0 true,s,[],λK=>rfl,.nil,Or.inl ⟨rfl,rfl⟩,More.refl s⟩
 ·have hl:Nat.log2 m<64:=(z1Q h0).2 hm;obtain⟨x,s',ws,h1,h2,h3,h4,h5,h6,_⟩:=rz (m:=m) hs (by omega);refine⟨x,s',ws,h1,h2,Or.inr ⟨by omega,hm,?_⟩,h6⟩;have h7:Nat.log2 m/64=0:=cL hl;rw[h7]at h5
  match ws,h4,h5 with
  |[],h4,_=>exact absurd h4.symm h0
  |[w],h4,_=>rw[show val [w]=w from rfl]at h4;rw[h4]
  |_::_::_,_,h5=>simp at h5
theorem Du{x y f:Nat}(hx:x<B64)(hy:y<B64)(h0:0<y):ia (f+2) [.n x,.n y]=some (.tup [.n (x/y),.n (x%y)]):=by
 obtain⟨X,s1,xs,k1,hX,ox,m1⟩:=t8 (s:=s0) (m:=x) rfl hx;obtain⟨Y,s2,ys,k2,hY,oy,m2⟩:=t8 (s:=s1) (m:=y) (m1.len rfl) hy;unfold ia;refine(k1 _).trans ?_;refine(k2 _).trans ?_;obtain⟨ex,ey,ls,h1,h2⟩:=zi (M:=gj (f+2)) (hX.more m2).ht hY.ht;obtain⟨s3,f1,f2,f3⟩:=xz ls s2 h2;obtain⟨qs,rs,e,e',g1,g2,g3⟩:=DS (f:=f) (ex:=ex) (ey:=ey) ox oy h0;refine(h1 _).trans ?_;rw[g3,gN,Bj,f1];refine(iO).trans ?_;refine(iN).trans ?_;obtain⟨v1,v2,v3⟩:=g1.val;obtain⟨w1,w2,w3⟩:=g2.val;refine(qQ HT.tr v2 (by omega)).trans ?_;refine(qQ HT.tr w2 (by omega)).trans ?_;rw[v1,w1];rfl
def pK(φ:Nat)(as:List D):Option D:=
 u1 as λa r=>u1 r λb r=>u0 r (og a λx=>og b λy=>cnd (Nat.blt x B64) (cnd (Nat.blt y B64) (cnd (Nat.blt 0 y) (frc (Nat.div x y) λq=>frc (Nat.mod x y) λr=>some (.tup [.n q,.n r])) none) (ia φ as)) (ia φ as))
theorem yC{b:Bool}{t e:Rs}{q:D}(h:cnd b t e=some q):(b=true∧t=some q)∨e=some q:=by
 cases b with
 |true=>exact Or.inl ⟨rfl,h⟩
 |false=>exact Or.inr h
theorem up{a b:Nat}(h:Nat.blt a b=true):a<b:=ah h
theorem Cd{φ:Nat}{as:List D}{r:D}(h:pK φ as=some r):∃φ',ia φ' as=some r:=by
 obtain⟨a,r1,rfl,g1⟩:=jh h;obtain⟨b,r2,rfl,g2⟩:=jh g1;obtain⟨rfl,g3⟩:=oX g2;obtain⟨x,rfl,g4⟩:=iE g3;obtain⟨y,rfl,g5⟩:=iE g4;rcases yC g5 with⟨h1,g6⟩|g6
 ·rcases yC g6 with⟨h2,g7⟩|g7
  ·obtain⟨h3,g8⟩:=ff g7;rw[fB,fB]at g8;exact⟨2,by rw[Du (f:=0) (up h1) (up h2) (up h3)];exact g8⟩
  ·exact⟨φ,g7⟩
 ·exact⟨φ,g6⟩
def gcF(φ:Nat)(q5:D→D→LS→Rs)(x6 x7:D)(s:LS):Rs:=(
 ek x7 s λx8 s=>
 kv x8 (.i .i64 (.ofNat 0)) λx9=>
 eQ x9
(eS (gj φ) [x6,x7] s λx10 s=>
 fh x10 0 s λx11 s=>
 fh x10 1 s λx12 s=>
 q5 x7 x12 s)
(eS sn [x6] s λx13 s=>
 eW false s x13 some))
theorem MH{g:Nat}:∀(f x y:Nat)(xs ys:List Nat)(X Y:D)(s:LS),y<f→HT s X xs→HT s Y ys→One xs x→One ys y→lp (λ(_ _:D)(_:LS)=>none) (gcF (g+2)) f X Y s=some (.n (Nat.gcd x y))
 |0,x,y,xs,ys,X,Y,s,hf,hX,hY,ox,oy=>by omega
 |f+1,x,y,xs,ys,X,Y,s,hf,hX,hY,ox,oy=>by
  rw[eM];unfold gcF;refine(U0 hY).trans ?_;refine(oS).trans ?_;by_cases h0:y=0
  ·have hys:ys=[]:=by
    rcases oy with⟨h1,h2⟩|⟨h1,h2,h3⟩
    ·exact h2
    ·omega
   subst hys h0;rw[show Nat.blt 0 ([]:List Nat).length=false from rfl,eP];obtain⟨v1,v2,v3⟩:=ox.val;refine(qQ hX v2 (by omega)).trans ?_;rw[v1,d6];rfl
  ·have hys:ys=[y]:=by
    rcases oy with⟨h1,h2⟩|⟨h1,h2,h3⟩
    ·omega
    ·exact h3
   rw[show Nat.blt 0 ys.length=true by rw[hys];rfl,eO];obtain⟨ex,ey,ls,h1,h2⟩:=zi (M:=gj (g+2)) hX hY;obtain⟨s3,f1,f2,f3⟩:=xz ls s h2;obtain⟨qs,rs,e,e',g1,g2,g3⟩:=DS (f:=g) (ex:=ex) (ey:=ey) ox oy (by omega);refine(h1 _).trans ?_;rw[g3,gN,Bj,f1];refine(iO).trans ?_;refine(iN).trans ?_;have ih:=MH (g:=g) f y (x%y) ys rs Y _ s3 (by have:=bc x (show 0<y by omega);omega) (f2 _ _ hY) (HT.tr (ex:=e')) oy g2;have e1:Nat.gcd x y=Nat.gcd y (x%y):=by
    rw[dP x y,z2f y x,dP]
   rw[e1];exact ih
theorem Ja{x y f:Nat}(hx:x<B64)(hy:y<B64)(hf:y<f):kG (f+2) [.n x,.n y]=some (.n (Nat.gcd x y)):=by
 obtain⟨X,s1,xs,k1,hX,ox,m1⟩:=t8 (s:=s0) (m:=x) rfl hx;obtain⟨Y,s2,ys,k2,hY,oy,m2⟩:=t8 (s:=s1) (m:=y) (m1.len rfl) hy;unfold kG;refine(k1 _).trans ?_;refine(k2 _).trans ?_;exact MH (g:=f) (f+2) x y xs ys X Y s2 (by omega) (hX.more m2).ht hY.ht ox oy
def uZ(φ:Nat)(as:List D):Option D:=
 u1 as λa r=>u1 r λb r=>u0 r (og a λx=>og b λy=>cnd (Nat.blt x B64) (cnd (Nat.blt y B64) (frc (Nat.gcd x y) λz=>some (.n z)) (kG φ as)) (kG φ as))
theorem H9{φ:Nat}{as:List D}{r:D}(h:uZ φ as=some r):∃φ',kG φ' as=some r:=by
 obtain⟨a,r1,rfl,g1⟩:=jh h;obtain⟨b,r2,rfl,g2⟩:=jh g1;obtain⟨rfl,g3⟩:=oX g2;obtain⟨x,rfl,g4⟩:=iE g3;obtain⟨y,rfl,g5⟩:=iE g4;rcases yC g5 with⟨h1,g6⟩|g6
 ·rcases yC g6 with⟨h2,g7⟩|g7
  ·rw[fB]at g7;exact⟨y+1+2,by rw[Ja (up h1) (up h2) (cR y)];exact g7⟩
  ·exact⟨φ,g7⟩
 ·exact⟨φ,g6⟩
end
end Go.Proofs.Ev
namespace Go.Proofs.Ev
noncomputable section
def Us(f:D→D→Bool)(xs:List D):List D→Bool:=
 List.rec (motive:=λ_=>List D→Bool) (λys=>List.rec (motive:=λ_=>Bool) true (λ_ _ _=>false) ys) (λx _ ih ys=>List.rec (motive:=λ_=>Bool) false (λy ys _=>cnd (f x y) (ih ys) false) ys) xs
def eqS(f:D→D→Bool):D→D→Bool
 |.i k (.ofNat a),.i k' (.ofNat b)=>cnd (Nat.beq (vR k) (vR k')) (Nat.beq a b) false
 |.i k (.negSucc a),.i k' (.negSucc b)=>cnd (Nat.beq (vR k) (vR k')) (Nat.beq a b) false
 |.b a,.b b=>cnd a b (not b)
 |.n a,.n b=>Nat.beq a b
 |.tree cs n e,.tree cs' n' e'=>cnd (Nat.beq n n') (cnd (cnd e e' (not e')) (Us f cs cs') false) false
 |.agg cs,.agg cs'=>Us f cs cs'
 |_,_=>false
def eqN(n:Nat):D→D→Bool:=Nat.rec (λ_ _=>false) (λ_ ih=>eqS ih) n
theorem vU{a b:Bool}(h:cnd a b false=true):a=true∧b=true:=by
 cases a<;>simp_all
theorem I7{a b:Bool}(h:cnd a b (not b)=true):a=b:=by
 cases a<;>cases b<;>simp_all
theorem Bl{f:D→D→Bool}(hf:∀x y,f x y=true→x=y):∀{xs ys:List D},Us f xs ys=true→xs=ys
 |[],[],_=>rfl
 |x::xs,y::ys,h=>by
  obtain⟨h1,h2⟩:=vU h;rw[hf _ _ h1,Bl hf h2]
 |[],_::_,h=>by cases h
 |_::_,[],h=>by cases h
theorem Xh{f:D→D→Bool}(hf:∀x y,f x y=true→x=y):∀{x y:D},eqS f x y=true→x=y:=by
 intro x y h;unfold eqS at h;split at h
 ·obtain⟨h1,h2⟩:=vU h;rw[vp h1,aU h2]
 ·obtain⟨h1,h2⟩:=vU h;rw[vp h1,aU h2]
 ·rw[I7 h]
 ·rw[aU h]
 ·obtain⟨h1,h2⟩:=vU h;obtain⟨h3,h4⟩:=vU h2;rw[aU h1,I7 h3,Bl hf h4]
 ·rw[Bl hf h]
 ·cases h
theorem Rh:∀(n:Nat)(x y:D),eqN n x y=true→x=y
 |0,x,y,h=>by cases h
 |n+1,x,y,h=>Xh (Rh n) h
def ti(l:List Nat)(e:Bool):D:=.tree (List.rec (motive:=λ_=>List D) [] (λn _ r=>.i .i64 (.ofNat n)::r) l) l.length e
def eqA(xs ys:List D):Bool:=Us (eqN 40) xs ys
def WM(L:List (List D×D))(R:List D→Option D)(xs:List D):Option D:=
 List.rec (motive:=λ_=>Option D) (R xs) (λe _ ih=>cnd (eqA xs e.1) (some e.2) ih) L
def Io(R:Nat→List D→Option D)(L:List (List D×D)):Prop:=∀e,e∈L→∃φ,R φ e.1=some e.2
theorem Io.nil{R:Nat→List D→Option D}:Io R []:=λe h=>by cases h
theorem Io.cons{R:Nat→List D→Option D}{L:List (List D×D)}{k:List D}{v:D}{φ:Nat}(h:R φ k=some v)(hL:Io R L):Io R ((k,v)::L):=λe he=>by
 rcases bK.1 he with rfl|he
 ·exact⟨φ,h⟩
 ·exact hL e he
def t9(φ:Nat):List D→Option D:=
λas=>
(λ(s:LS)=>
 u1 as λb c=>
 u0 c (
 ie 1 [(.i .u64 (.ofNat 0))] [(0,1,b)] s λd s=>
 eS sn [d] s λe s=>
 eW false s e some)) s0
def fb(φ:Nat):List D→Option D:=
λas=>
(λ(s:LS)=>
 u1 as λc g=>
 u1 g λe h=>
 u0 h (
 gG [(.b false),(.n 0)] s λf s=>
 eI c true (λk=>k e s) s λi s=>
 eI c true (λk=>nC i (.n 0) λd=>k d s) s λl s=>
 fY c l (.b false) s λm s=>
 kw [(.b false),(.n 0)] [(0,1,m),(1,1,e)] s λo s=>
 eU 2 s f o λ_ s=>
 eT 2 s f λp _=>
 eW false s p some)) s0
def vG(φ:Nat):List D→Option D:=
λas=>
(λ(s:LS)=>
 u1 as λf g=>
 u1 g λh i=>
 u0 i (
 jM f s λc s=>
 jM h s λd s=>
 gG [(.b false),(.n 0)] s λe s=>
 eX 0 s c λk s=>
 eK s k λl s=>
 eX 0 s d λm s=>
 eK s m λo s=>
 xP .neq l o s λp s=>
 eX 1 s c λu s=>
 eK s u λv s=>
 eX 1 s d λw s=>
 eK s w λy s=>
 eS nR [v,y] s λz s=>
 eS (fb φ) [p,z] s λA s=>
 eU 2 s e A λ_ s=>
 eT 2 s e λB _=>
 eW false s B some)) s0
def vF(φ:Nat):List D→Option D:=
λas=>
(λ(s:LS)=>
 u1 as λe f=>
 u0 f (
 jM e s λc s=>
 gG [(.b false),(.n 0)] s λd s=>
 eX 0 s c λg s=>
 eK s g λh s=>
 qP h s λi s=>
 eX 1 s c λk s=>
 eK s k λl s=>
 eS (fb φ) [i,l] s λm s=>
 eU 2 s d m λ_ s=>
 eT 2 s d λo _=>
 eW false s o some)) s0
def nQ(φ:Nat):List D→Option D:=
λas=>
(λ(s:LS)=>
 u1 as λf g=>
 u1 g λh k=>
 u0 k (
 jM f s λc s=>
 jM h s λd s=>
 gG [(.b false),(.n 0)] s λe s=>
 eX 0 s c λl s=>
 eK s l λm s=>
 eX 0 s d λo s=>
 eK s o λp s=>
 xP .eql m p s λu s=>
 eQ u
(eX 0 s c λv s=>
 eK s v λw s=>
 eX 1 s c λy s=>
 eK s y λz s=>
 eX 1 s d λA s=>
 eK s A λB s=>
 eS u7 [z,B] s λC s=>
 eS (fb φ) [w,C] s λE s=>
 eU 2 s e E λ_ s=>
 eT 2 s e λF _=>
 eW false s F some)
(eX 1 s c λG s=>
 eK s G λH s=>
 eX 1 s d λI s=>
 eK s I λJ s=>
 eS ng [H,J] s λK s=>
 fN K (.i .i64 (.ofNat 0)) λM=>
 eQ M
(eX 0 s d λN s=>
 eK s N λO s=>
 eX 1 s d λP s=>
 eK s P λS s=>
 eX 1 s c λU s=>
 eK s U λV s=>
 eS mw [S,V] s λW s=>
 eS (fb φ) [O,W] s λX s=>
 eU 2 s e X λ_ s=>
 eT 2 s e λY _=>
 eW false s Y some)
(eX 0 s c λZ s=>
 eK s Z λbb s=>
 eX 1 s c λbc s=>
 eK s bc λbd s=>
 eX 1 s d λbf s=>
 eK s bf λbg s=>
 eS mw [bd,bg] s λbh s=>
 eS (fb φ) [bb,bh] s λbi s=>
 eU 2 s e bi λ_ s=>
 eT 2 s e λbk _=>
 eW false s bk some)))) s0
variable {s:LS} {K:D→LS→Rs}
theorem rC{M:List D→Option D}{a b z:Nat}(h:M [.n a,.n b]=some (.n z)):eS M [.n a,.n b] s K=K (.n z) s:=by
 show ob (M [.n a,.n b]) (λr=>iz s [] r K)=_;rw[h];rfl
theorem Jr{M:List D→Option D}{a b:Nat}{k:IntKind}{z:Int}(h:M [.n a,.n b]=some (.i k z)):eS M [.n a,.n b] s K=K (.i k z) s:=by
 show ob (M [.n a,.n b]) (λr=>iz s [] r K)=_;rw[h];rfl
theorem GH{M:List D→Option D}{a b q r:Nat}(h:M [.n a,.n b]=some (.tup [.n q,.n r])):eS M [.n a,.n b] s K=K (.tup [.n q,.n r]) s:=by
 show ob (M [.n a,.n b]) (λr=>iz s [] r K)=_;rw[h];rfl
theorem yi{M:List D→Option D}{x y:Bool}{a z:Nat}(h:M [.b x,.n a]=some (.agg [.b y,.n z])):eS M [.b x,.n a] s K=K (.agg [.b y,.n z]) s:=by
 show ob (M [.b x,.n a]) (λr=>iz s [] r K)=_;rw[h];rfl
def it(x:Bool)(a:Nat):D:=.agg [.b x,.n a]
theorem sC{b:Bool}{a φ:Nat}:fb φ [.b b,.n a]=some (it (b&& !(Nat.beq a 0)) a):=by
 cases b
 ·rfl
 ·cases a<;>rfl
def mkS(a b:List D):LS:=⟨.node (some ⟨a,.rw⟩) (.node (some ⟨b,.rw⟩) .nil .nil) (.node (some ⟨[.b false,.n 0],.rw⟩) .nil .nil),3⟩
theorem Uq{x:Bool}{z:Nat}{a b:List D}:(eU 2 (mkS a b) (.ptr 2 0) (it x z) λ_ s=>eT 2 s (.ptr 2 0) λx17 _=>eW false s x17 some)=some (it x z):=by kernel_rfl
theorem Jt{x:Bool}{a φ:Nat}:vF φ [it x a]=some (it (!x&& !(Nat.beq a 0)) a):=by
 refine Eq.trans (b:=eS (fb φ) [.b (!x),.n a] ⟨.node (some ⟨[.b x,.n a],.rw⟩) (.node (some ⟨[.b false,.n 0],.rw⟩) .nil .nil) .nil,2⟩ λx9 s=>eU 2 s (.ptr 1 0) x9 λ_ s=>eT 2 s (.ptr 1 0) λx10 _=>eW false s x10 some) (by cases x<;>kernel_rfl) ?_;rw[yi sC];kernel_rfl
theorem Ju{x y:Bool}{a b z φ:Nat}(h:nR [.n a,.n b]=some (.n z)):vG φ [it x a,it y b]=some (it ((x != y)&& !(Nat.beq z 0)) z):=by
 refine Eq.trans (b:=eS nR [.n a,.n b] (mkS [.b x,.n a] [.b y,.n b]) λx15 s'=>eS (fb φ) [.b (x != y),x15] s' λx16 s=>eU 2 s (.ptr 2 0) x16 λ_ s=>eT 2 s (.ptr 2 0) λx17 _=>eW false s x17 some) (by cases x<;>cases y<;>kernel_rfl) ?_;rw[rC h,yi sC];exact Uq
theorem IE{x:Bool}{a b z φ:Nat}(h:u7 [.n a,.n b]=some (.n z)):nQ φ [it x a,it x b]=some (it (x&& !(Nat.beq z 0)) z):=by
 refine Eq.trans (b:=eS u7 [.n a,.n b] (mkS [.b x,.n a] [.b x,.n b]) λx15 s'=>eS (fb φ) [.b x,x15] s' λx16 s=>eU 2 s (.ptr 2 0) x16 λ_ s=>eT 2 s (.ptr 2 0) λx17 _=>eW false s x17 some) (by cases x<;>kernel_rfl) ?_;rw[rC h,yi sC];exact Uq
theorem DH{x y:Bool}{a b φ:Nat}{c:Int}(hxy:x≠y)(h:ng [.n a,.n b]=some (.i .i64 c)):nQ φ [it x a,it y b]=
 (fN (.i .i64 c) (.i .i64 (.ofNat 0)) λx25=>eQ x25
  (eS mw [.n b,.n a] (mkS [.b x,.n a] [.b y,.n b]) λx15 s'=>eS (fb φ) [.b y,x15] s' λx16 s=>eU 2 s (.ptr 2 0) x16 λ_ s=>eT 2 s (.ptr 2 0) λx17 _=>eW false s x17 some)
  (eS mw [.n a,.n b] (mkS [.b x,.n a] [.b y,.n b]) λx15 s'=>eS (fb φ) [.b x,x15] s' λx16 s=>eU 2 s (.ptr 2 0) x16 λ_ s=>eT 2 s (.ptr 2 0) λx17 _=>eW false s x17 some)):=by
 refine Eq.trans (b:=eS ng [.n a,.n b] (mkS [.b x,.n a] [.b y,.n b]) λx24 s=>fN x24 (.i .i64 (.ofNat 0)) λx25=>eQ x25
  (eX 0 s (.ptr 1 0) λx26 s=>eK s x26 λx27 s=>eX 1 s (.ptr 1 0) λx28 s=>eK s x28 λx29 s=>eX 1 s (.ptr 0 0) λx30 s=>eK s x30 λx31 s=>
   eS mw [x29,x31] s λx32 s=>eS (fb φ) [x27,x32] s λx33 s=>eU 2 s (.ptr 2 0) x33 λ_ s=>eT 2 s (.ptr 2 0) λx34 _=>eW false s x34 some)
  (eX 0 s (.ptr 0 0) λx35 s=>eK s x35 λx36 s=>eX 1 s (.ptr 0 0) λx37 s=>eK s x37 λx38 s=>eX 1 s (.ptr 1 0) λx39 s=>eK s x39 λx40 s=>
   eS mw [x38,x40] s λx41 s=>eS (fb φ) [x36,x41] s λx42 s=>eU 2 s (.ptr 2 0) x42 λ_ s=>eT 2 s (.ptr 2 0) λx43 _=>eW false s x43 some)) (by cases x<;>cases y<;>first|exact absurd rfl hxy|kernel_rfl) ?_
 rw[Jr h];kernel_rfl
theorem Eb{a b:Nat}(h:a<b):ng [.n a,.n b]=some (.i .i64 (.negSucc 0)):=by
 show some (cnd (Nat.blt a b) (D.i .i64 (.negSucc 0)) (cnd (Nat.beq a b) (D.i .i64 (.ofNat 0)) (D.i .i64 (.ofNat 1))))=_;rw[ew h];rfl
theorem Ec{a b:Nat}(h:b≤a):∃c,ng [.n a,.n b]=some (.i .i64 (.ofNat c)):=by
 have e:ng [.n a,.n b]=some (cnd (Nat.blt a b) (D.i .i64 (.negSucc 0)) (cnd (Nat.beq a b) (D.i .i64 (.ofNat 0)) (D.i .i64 (.ofNat 1)))):=rfl;rw[e,fE (by omega),e9];by_cases h2:a=b
 ·rw[h2,ei];exact⟨0,rfl⟩
 ·rw[gR h2];exact⟨1,rfl⟩
theorem Nt{x y:Bool}{a b z φ:Nat}(hxy:x≠y)(hab:a<b)(h:mw [.n b,.n a]=some (.n z)):nQ φ [it x a,it y b]=some (it (y&& !(Nat.beq z 0)) z):=by
 rw[DH hxy (Eb hab),sT,eO,rC h,yi sC];exact Uq
theorem Nu{x y:Bool}{a b z φ:Nat}(hxy:x≠y)(hab:b≤a)(h:mw [.n a,.n b]=some (.n z)):nQ φ [it x a,it y b]=some (it (x&& !(Nat.beq z 0)) z):=by
 obtain⟨c,hc⟩:=Ec hab;rw[DH hxy hc,kE,fE (cQ c),eP,rC h,yi sC];exact Uq
def Yr(d:D)(k:Bool→Rs):Rs:=onB d (k true) (k false) none
theorem NX{d:D}{k:Bool→Rs}{r:D}(h:Yr d k=some r):∃x,d=.b x∧k x=some r:=by
 cases d with
 |b x=>cases x<;>exact⟨_,rfl,h⟩
 |_=>cases h
def A6(d:D)(k:Bool→Nat→Rs):Rs:=LV d (λcs=>u1 cs λb r=>u1 r λn r=>u0 r (Yr b λx=>og n λa=>k x a)) none
theorem vn{d:D}{k:Bool→Nat→Rs}{r:D}(h:A6 d k=some r):∃x a,d=it x a∧k x a=some r:=by
 obtain⟨cs,rfl,h1⟩:=y3 h;obtain⟨b,r1,rfl,h2⟩:=jh h1;obtain⟨n,r2,rfl,h3⟩:=jh h2;obtain⟨rfl,h4⟩:=oX h3;obtain⟨x,rfl,h5⟩:=NX h4;obtain⟨a,rfl,h6⟩:=iE h5;exact⟨x,a,rfl,h6⟩
def kIt(x:Bool)(z:Nat)(k:D→Rs):Rs:=cnd x (cnd (Nat.beq z 0) (k (.agg [.b false,.n z])) (k (.agg [.b true,.n z]))) (k (.agg [.b false,.n z]))
theorem tS{x:Bool}{z:Nat}{k:D→Rs}:kIt x z k=k (it (x&& !(Nat.beq z 0)) z):=by
 unfold kIt it;cases x
 ·rfl
 ·cases Nat.beq z 0<;>rfl
def xx(as:List D):Option D:=u1 as λa r=>u0 r (A6 a λx a=>kIt (cnd x false true) a some)
theorem Hz{as:List D}{r:D}(h:xx as=some r):∃φ,vF φ as=some r:=by
 obtain⟨a,r1,rfl,g1⟩:=jh h;obtain⟨rfl,g2⟩:=oX g1;obtain⟨x,a,rfl,g3⟩:=vn g2;rw[tS]at g3;refine⟨0,?_⟩;rw[Jt,←g3];cases x<;>rfl
def wV(as:List D):Option D:=u1 as λa r=>u1 r λb r=>u0 r (A6 a λx a=>A6 b λy b=>ob (nR [.n a,.n b]) λz=>og z λz=>kIt (cnd x (cnd y false true) y) z some)
theorem IC{as:List D}{r:D}(h:wV as=some r):∃φ,vG φ as=some r:=by
 obtain⟨a,r1,rfl,g1⟩:=jh h;obtain⟨b,r2,rfl,g2⟩:=jh g1;obtain⟨rfl,g3⟩:=oX g2;obtain⟨x,a,rfl,g4⟩:=vn g3;obtain⟨y,b,rfl,g5⟩:=vn g4;obtain⟨z,hz,g6⟩:=nc g5;obtain⟨z,rfl,g7⟩:=iE g6;rw[tS]at g7;refine⟨0,?_⟩;rw[Ju hz,←g7];cases x<;>cases y<;>rfl
def Sf(x:Bool)(a:Nat)(y:Bool)(b:Nat)(k:D→Rs):Rs:=
 cnd (cnd x y (cnd y false true)) (ob (u7 [.n a,.n b]) λz=>og z λz=>kIt x z k)
  (cnd (Nat.blt a b) (ob (mw [.n b,.n a]) λz=>og z λz=>kIt y z k) (ob (mw [.n a,.n b]) λz=>og z λz=>kIt x z k))
theorem OP{x y:Bool}{a b:Nat}{k:D→Rs}{r:D}(h:Sf x a y b k=some r):∃v z,(∀φ,nQ φ [it x a,it y b]=some (it v z))∧k (it v z)=some r:=by
 unfold Sf at h;by_cases hxy:x=y
 ·subst hxy;have e:cnd x x (cnd x false true)=true:=by cases x<;>rfl
  rw[e,eL]at h;obtain⟨z,hz,g6⟩:=nc h;obtain⟨z,rfl,g7⟩:=iE g6;rw[tS]at g7;exact⟨_,z,λφ=>IE hz,g7⟩
 ·have e:cnd x y (cnd y false true)=false:=by cases x<;>cases y<;>first|rfl|exact absurd rfl hxy
  rw[e,e9]at h;rcases DW h with⟨h1,g⟩|⟨h1,g⟩
  ·obtain⟨z,hz,g6⟩:=nc g;obtain⟨z,rfl,g7⟩:=iE g6;rw[tS]at g7;exact⟨_,z,λφ=>Nt hxy (up h1) hz,g7⟩
  ·obtain⟨z,hz,g6⟩:=nc g;obtain⟨z,rfl,g7⟩:=iE g6;rw[tS]at g7;have hle:b≤a:=by
    rcases az a b with hq|hq
    ·rw[ew hq]at h1;cases h1
    ·exact hq
   exact⟨_,z,λφ=>Nu hxy hle hz,g7⟩
def ud(as:List D):Option D:=u1 as λa r=>u1 r λb r=>u0 r (A6 a λx a=>A6 b λy b=>Sf x a y b some)
theorem IF{as:List D}{r:D}(h:ud as=some r):∃φ,nQ φ as=some r:=by
 obtain⟨a,r1,rfl,g1⟩:=jh h;obtain⟨b,r2,rfl,g2⟩:=jh g1;obtain⟨rfl,g3⟩:=oX g2;obtain⟨x,a,rfl,g4⟩:=vn g3;obtain⟨y,b,rfl,g5⟩:=vn g4;obtain⟨v,z,h1,h2⟩:=OP g5;exact⟨0,by rw[h1];exact h2⟩
end
end Go.Proofs.Ev
set_option maxRecDepth 1000000
set_option maxHeartbeats 0
namespace Go.Proofs.Ev
noncomputable section
def nB(φ:Nat):List D→Option D:=
λas=>
(λ(s:LS)=>
 u1 as λd e=>
 u0 e (
 jM d s λf s=>
 gG [(.b false),(.n 0),(.n 0)] s λc s=>
 eT 2 s f λg s=>
 kw [(.b false),(.n 0),(.n 0)] [(0,2,g),(2,1,(.n 1))] s λh s=>
 eU 3 s c h λ_ s=>
 eT 3 s c λi _=>
 eW false s i some)) s0
def oO(φ:Nat):List D→Option D:=
λas=>
(λ(s:LS)=>
 u1 as λo p=>
 u1 p λu v=>
 u0 v (
 jM o s λc s=>
 jM u s λd s=>
 gG [(.b false),(.n 0),(.n 0)] s λf s=>
 eX 1 s c λw s=>
 eK s w λy s=>
 eX 1 s d λz s=>
 eK s z λA s=>
 eS (uZ φ) [y,A] s λe s=>
 jn (λ(g h i:D)(s:LS)=>
 eX 0 s g λB s=>
 eK s B λC s=>
 eX 0 s h λE s=>
 eK s E λF s=>
 xP .neq C F s λG s=>
 eX 1 s g λH s=>
 eK s H λI s=>
 eS (fb φ) [G,I] s λJ s=>
 eX 1 s h λK s=>
 eK s K λM s=>
 kw [(.b false),(.n 0),(.n 0)] [(0,2,J),(2,1,M)] s λN s=>
 eU 3 s i N λ_ s=>
 eT 3 s i λO _=>
 eW false s O some) λk=>
 nC e (.n 1) λP=>
 eQ P
(eX 1 s c λS s=>
 eK s S λU s=>
 eS (pK φ) [U,e] s λl s=>
 fh l 0 s λV s=>
 fh l 1 s λbc s=>
 eX 1 s c λW s=>
 eU 1 s W V λ_ s=>
 eX 1 s d λX s=>
 eK s X λY s=>
 eS (pK φ) [Y,e] s λm s=>
 fh m 0 s λZ s=>
 fh m 1 s λbd s=>
 eX 1 s d λbb s=>
 eU 1 s bb Z λ_ s=>
 k c d f s)
(k c d f s))) s0
def mR(φ:Nat):List D→Option D:=
λas=>
(λ(s:LS)=>
 u1 as λh i=>
 u1 i λl m=>
 u0 m (
 jM h s λc s=>
 jM l s λe s=>
 gG [(.b false),(.n 0),(.n 0)] s λf s=>
 eX 2 s c λo s=>
 eK s o λp s=>
 iB p (.n 1) λg=>
 eI g true (λk=>eX 2 s e k) s λu s=>
 eI g true (λk=>eK s u k) s λv s=>
 eI g true (λk=>iB v (.n 1) λd=>k d s) s λw s=>
 fY g w (.b false) s λy s=>
 eQ y
(eX 0 s c λz s=>
 eT 2 s z λA s=>
 eX 0 s e λB s=>
 eT 2 s B λC s=>
 eS wV [A,C] s λE s=>
 eS (nB φ) [E] s λF s=>
 eU 3 s f F λ_ s=>
 eT 3 s f λG _=>
 eW false s G some)
(eX 0 s c λH s=>
 eT 2 s H λI s=>
 eX 0 s e λJ s=>
 eT 2 s J λK s=>
 eS wV [I,K] s λM s=>
 eX 2 s c λN s=>
 eK s N λO s=>
 eX 2 s e λP s=>
 eK s P λS s=>
 eS nR [O,S] s λU s=>
 kw [(.b false),(.n 0)] [(1,1,U)] s λV s=>
 eS (oO φ) [M,V] s λW s=>
 eU 3 s f W λ_ s=>
 eT 3 s f λX _=>
 eW false s X some))) s0
def pI(φ:Nat):List D→Option D:=
λas=>
(λ(s:LS)=>
 u1 as λg h=>
 u1 h λi k=>
 u0 k (
 jM g s λc s=>
 jM i s λd s=>
 gG [(.b false),(.n 0),(.n 0)] s λe s=>
 eX 2 s c λl s=>
 eK s l λm s=>
 eX 2 s d λo s=>
 eK s o λp s=>
 iB m p λu=>
 eQ u
(eX 2 s c λv s=>
 eK s v λw s=>
 iB w (.n 1) λy=>
 eQ y
(eX 0 s c λz s=>
 eT 2 s z λA s=>
 eX 0 s d λB s=>
 eT 2 s B λC s=>
 eS ud [A,C] s λE s=>
 eS (nB φ) [E] s λF s=>
 eU 3 s e F λ_ s=>
 eT 3 s e λG _=>
 eW false s G some)
(eX 0 s c λH s=>
 eT 2 s H λI s=>
 eX 0 s d λJ s=>
 eT 2 s J λK s=>
 eS ud [I,K] s λM s=>
 eX 2 s c λN s=>
 eK s N λO s=>
 kw [(.b false),(.n 0)] [(1,1,O)] s λP s=>
 eS (oO φ) [M,P] s λS s=>
 eU 3 s e S λ_ s=>
 eT 3 s e λU _=>
 eW false s U some))
(eX 0 s c λV s=>
 eX 0 s V λW s=>
 eK s W λX s=>
 eX 0 s c λY s=>
 eX 1 s Y λZ s=>
 eK s Z λbb s=>
 eX 2 s d λbc s=>
 eK s bc λbd s=>
 eS nR [bb,bd] s λbf s=>
 eS (fb φ) [X,bf] s λbg s=>
 eX 0 s d λbh s=>
 eX 0 s bh λbi s=>
 eK s bi λbk s=>
 eX 0 s d λbl s=>
 eX 1 s bl λbm s=>
 eK s bm λbn s=>
 eX 2 s c λbo s=>
 eK s bo λbp s=>
 eS nR [bn,bp] s λbu s=>
 eS (fb φ) [bk,bu] s λbv s=>
 eS ud [bg,bv] s λbw s=>
 gG [(.b false),(.n 0)] s λf s=>
 eU 2 s f bw λ_ s=>
 eT 2 s f λbz s=>
 eX 2 s c λbA s=>
 eK s bA λbB s=>
 eX 2 s d λbC s=>
 eK s bC λbE s=>
 eS nR [bB,bE] s λbF s=>
 kw [(.b false),(.n 0)] [(1,1,bF)] s λbG s=>
 eS (oO φ) [bz,bG] s λbH s=>
 eU 3 s e bH λ_ s=>
 eT 3 s e λbI _=>
 eW false s bI some))) s0
variable {s:LS} {K:D→LS→Rs} {k:D→Rs}
theorem ZJ{M:List D→Option D}{x:Bool}(h:M []=some (.b x)):eS M [] s K=K (.b x) s:=by
 show ob (M []) (λr=>iz s [] r K)=_;rw[h];rfl
variable {P:Program} {im:Nat→Option Nat} {okp:Nat→Nat→Prop} {w w':World}
theorem RR.keptBut{r:D}{v:Value}(h:RR im okp w w' r v)(may:MemPlace→Prop):w.keptBut w' may:=by
 obtain⟨hs,hk,hsm,ob,ho⟩:=h;refine⟨hsm.os,hsm.out,λi hi=>?_⟩;have:=(World.keptBut_refl w may).2.2 i hi;rw[hk i hi];exact this
theorem RR.bool{x:Bool}{v:Value}(h:RR im okp w w' (.b x) v):v=.bool x:=by
 obtain⟨hs,hk,hsm,ob,ho⟩:=h;simpa[V6,TR]using ho
end
end Go.Proofs.Ev
namespace Go.Proofs.Ev
noncomputable section
def Tn(G:Nat→Nat→Option FT)(n φ:Nat):pe:=λk=>cnd (Nat.blt k n) (G φ k) none
theorem B0{G:Nat→Nat→Option FT}{n φ:Nat}{x:FT}(h:G φ n=some x):tF (Tn G n φ) n x=Tn G (n+1) φ:=by
 funext k;unfold tF Tn;by_cases e:k=n
 ·subst e;rw[show Nat.beq k k=true from dV k,eL,ew (cR k),eL,h]
 ·rw[show Nat.beq k n=false from gR e,e9];by_cases hlt:k<n
  ·rw[ew hlt,ew (by omega)]
  ·rw[fE hlt,fE (by omega)]
variable {P:Program} {l:List Nat} {G:Nat→Nat→Option FT} {n F:Nat} {TD TD':Nat→pe} {fn:Func} {na md:Nat} {an:List (Option (List Nat))}
def Lb(P:Program)(l:List Nat)(G:Nat→Nat→Option FT)(n:Nat)(TD:Nat→pe):Prop:=P.follows .mixedOrders=true∧∀φ,yy P (λF=>imA F l 0) n (Tn G n φ) (TD φ)
theorem Lb.nil(hm:P.follows .mixedOrders=true):Lb P l G 0 λ_ _=>none:=⟨hm,λφ=>by
 have:Tn G 0 φ=λ_=>none:=by funext k;exact(by rw[Tn,fE (cQ k),e9])
 rw[this];exact yy.nil⟩
def Fc(P:Program)(l:List Nat)(n F:Nat)(fn:Func):Prop:=(P.funcs[F]?,(fn.name== "runtime.NumGoroutine",fn.body.isSome),l[n]?)=(some fn,(false,true),some F)
theorem Fc.ok(h:Fc P l n F fn):FnOk P (λF=>imA F l 0) n F fn:=by
 simp only[Fc,aJ]at h;exact Ui h.1 h.2.1.1 h.2.1.2 h.2.2
theorem Lb.put(h:Lb P l G n TD)(f:Fc P l n F fn){M:Nat→List D→Option D}(hM:∀φ,Snd P (λF=>imA F l 0) F (M φ))(g:(λφ=>G φ n)=λφ=>some (.iso (M φ))):Lb P l G (n+1) TD:=
 ⟨h.1,λφ=>by rw[←B0 (congrFun g φ)];exact(h.2 φ).iso false f.ok (hM φ)⟩
theorem Lb.putd(h:Lb P l G n TD)(f:Fc P l n F fn){M:Nat→List D→Option D}(hM:∀φ,Snd P (λF=>imA F l 0) F (M φ))(g:(λφ=>G φ n)=λφ=>some (.iso (M φ))):
 Lb P l G (n+1) λφ=>tF (TD φ) n (.iso (M φ)):=
 ⟨h.1,λφ=>by rw[←B0 (congrFun g φ)];exact(h.2 φ).iso true f.ok (hM φ)⟩
theorem Lb.snd(h:Lb P l G n TD)(f:Fc P l n F fn){R:Nat→List D→Option D}(e:(λφ=>DT φ (Tn G n φ) (TD φ) na (sJ P (λF=>imA F l 0) md an fn))=R)(φ:Nat):Snd P (λF=>imA F l 0) F (R φ):=
 (h.2 φ).snd h.1 f.ok (congrFun e φ)
theorem Lb.sndM(h:Lb P l G n TD)(f:Fc P l n F fn){R M:Nat→List D→Option D}(hM:∀φ xs r,M φ xs=some r→∃φ',R φ' xs=some r)(e:(λφ=>DT φ (Tn G n φ) (TD φ) na (sJ P (λF=>imA F l 0) md an fn))=R)(φ:Nat):Snd P (λF=>imA F l 0) F (M φ):=λxs r hr=>by
 obtain⟨φ',h'⟩:=hM φ xs r hr;exact h.snd f e φ' xs r h'
theorem Lb.mem(h:Lb P l G n TD)(f:Fc P l n F fn){R:Nat→List D→LS→(D→LS→Rs)→Rs}(e:(λφ=>DU φ (Tn G n φ) (TD φ) na (sJ P (λF=>imA F l 0) 2 an fn))=R)(g:(λφ=>G φ n)=λφ=>some (.mem (R φ))):Lb P l G (n+1) TD:=
 ⟨h.1,λφ=>by rw[←B0 (congrFun g φ)];exact(h.2 φ).mem false f.ok (congrFun e φ)⟩
theorem Lb.memR(h:Lb P l G n TD)(f:Fc P l n F fn){Q:Nat→(List D→LS→(D→LS→Rs)→Rs)→List D→LS→(D→LS→Rs)→Rs}{R:Nat→List D→LS→(D→LS→Rs)→Rs}(hR:R=λφ=>lp (λ_ _ _=>none) (Q φ) φ)
 (e:(λφ ih=>DU φ (tF (Tn G n φ) n (.mem ih)) (TD φ) na (sJ P (λF=>imA F l 0) 2 an fn))=Q) (g:(λφ=>G φ n)=λφ=>some (.mem (R φ))):Lb P l G (n+1) TD:=
 ⟨h.1,λφ=>by
  have g':=congrFun g φ;subst hR;rw[←B0 g'];exact(h.2 φ).memRec false f.ok (congrFun e φ) φ⟩
def fL(P:Program)(l:List Nat)(n F:Nat)(fn:Func):Option Func×(Bool×Bool)×Option Nat:=(P.funcs[F]?,(fn.name== "runtime.NumGoroutine",fn.body.isSome),l[n]?)
def fR(F:Nat)(fn:Func):Option Func×(Bool×Bool)×Option Nat:=(some fn,(false,true),some F)
theorem Lb.st(h:Lb P l G n TD)(F:Nat)(fn:Func)(na md:Nat)(an:List (Option (List Nat)))(R:Nat→List D→Option D)
 (f:(fL P l n F fn,λφ=>DT φ (Tn G n φ) (TD φ) na (sJ P (λF=>imA F l 0) md an fn),λφ=>G φ n)=(fR F fn,R,λφ=>some (.iso (R φ)))):Lb P l G (n+1) TD:=by
 simp only[aJ]at f;exact h.put f.1 (h.snd f.1 f.2.1) f.2.2
theorem Lb.std(h:Lb P l G n TD)(F:Nat)(fn:Func)(na md:Nat)(an:List (Option (List Nat)))(R:Nat→List D→Option D)
 (f:(fL P l n F fn,λφ=>DT φ (Tn G n φ) (TD φ) na (sJ P (λF=>imA F l 0) md an fn),λφ=>G φ n)=(fR F fn,R,λφ=>some (.iso (R φ)))):Lb P l G (n+1) λφ=>tF (TD φ) n (.iso (R φ)):=by
 simp only[aJ]at f;exact h.putd f.1 (h.snd f.1 f.2.1) f.2.2
theorem Lb.stM(h:Lb P l G n TD)(F:Nat)(fn:Func)(na md:Nat)(an:List (Option (List Nat)))(R M:Nat→List D→Option D)(hM:∀φ xs r,M φ xs=some r→∃φ',R φ' xs=some r)
 (f:(fL P l n F fn,λφ=>DT φ (Tn G n φ) (TD φ) na (sJ P (λF=>imA F l 0) md an fn),λφ=>G φ n)=(fR F fn,R,λφ=>some (.iso (M φ)))):Lb P l G (n+1) TD:=by
 simp only[aJ]at f;exact h.put f.1 (h.sndM f.1 hM f.2.1) f.2.2
theorem Lb.stC(h:Lb P l G n TD)(F:Nat)(fn:Func)(na md:Nat)(an:List (Option (List Nat)))(R:Nat→List D→Option D)(hC:∀{F:FuncId},P.funcs[F]?=some fn→∀ex,Gi P (λF=>imA F l 0) F [.tree [] 0 ex] (.tree [] 0 true))
 (f:(fL P l n F fn,λφ=>DT φ (Tn G n φ) (TD φ) na (sJ P (λF=>imA F l 0) md an fn),λφ=>G φ n)=(fR F fn,R,λφ=>some (.iso (pP (R φ))))):Lb P l G (n+1) TD:=by
 simp only[aJ]at f;exact h.put f.1 (λφ=>OK (h.snd f.1 f.2.1 φ) (hC (Fc.ok f.1).fun')) f.2.2
theorem Lb.me(h:Lb P l G n TD)(F:Nat)(fn:Func)(na:Nat)(an:List (Option (List Nat)))(R:Nat→List D→LS→(D→LS→Rs)→Rs)
 (f:(fL P l n F fn,λφ=>DU φ (Tn G n φ) (TD φ) na (sJ P (λF=>imA F l 0) 2 an fn),λφ=>G φ n)=(fR F fn,R,λφ=>some (.mem (R φ)))):Lb P l G (n+1) TD:=by
 simp only[aJ]at f;exact h.mem f.1 f.2.1 f.2.2
theorem Lb.mr(h:Lb P l G n TD)(F:Nat)(fn:Func)(na:Nat)(an:List (Option (List Nat)))(Q:Nat→(List D→LS→(D→LS→Rs)→Rs)→List D→LS→(D→LS→Rs)→Rs)(R:Nat→List D→LS→(D→LS→Rs)→Rs)(hR:R=λφ=>lp (λ_ _ _=>none) (Q φ) φ)
 (f:(fL P l n F fn,λφ ih=>DU φ (tF (Tn G n φ) n (.mem ih)) (TD φ) na (sJ P (λF=>imA F l 0) 2 an fn),λφ=>G φ n)=(fR F fn,Q,λφ=>some (.mem (R φ)))):Lb P l G (n+1) TD:=by
 simp only[aJ]at f;exact h.memR f.1 hR f.2.1 f.2.2
end
end Go.Proofs.Ev
namespace Go.Proofs.Ev
noncomputable section
structure SS where
 r:pe→(iR→LS→Rs)→iR→LS→Rs
def shK(d:D)(k:D→Rs):Rs:=D.rec (motive_1:=λ_=>Rs) (motive_2:=λ_=>PUnit.{1}) (k .u) (λa b=>k (.i a b)) (λa=>k (.b a)) (λa=>k (.s a)) (λa=>k (.n a)) (k .np) (k .nf) (λa b c _=>k (.tree a b c)) (λa b c _=>k (.own a b c)) (λa b c d e f=>k (.sl a b c d e f)) (λa b=>k (.ptr a b)) (λa _=>k (.fp a)) (λa _=>k (.agg a)) (λa _=>k (.tup a)) (λa b _=>k (.fn a b)) ⟨⟩ (λ_ _ _ _=>⟨⟩) d
theorem JB(d:D)(k:D→Rs):shK d k=k d:=by cases d<;>rfl
def iS(i:Ins)(ih:SS):SS:=match i.gd with
 |none=>match i.dst with
  |none=>⟨λT K ε s=>(kPS i.op).r T T ε s λ_ s=>ih.r T K ε s⟩
  |some t=>⟨λT K ε s=>(kPS i.op).r T T ε s λd s=>shK d λd=>ih.r T K (sup ε t d) s⟩
 |some (t,w)=>match i.dst with
  |none=>⟨λT K ε s=>ob (ε t) λg=>eI g w (λk=>(kPS i.op).r T T ε s k) s λ_ s=>ih.r T K ε s⟩
  |some t'=>⟨λT K ε s=>ob (ε t) λg=>eI g w (λk=>(kPS i.op).r T T ε s k) s λd s=>shK d λd=>ih.r T K (sup ε t' d) s⟩
def lS(l:List Ins):SS:=List.rec (motive:=λ_=>SS) ⟨λ_ K ε s=>K ε s⟩ (λi _ ih=>iS i ih) l
theorem Vo{T:pe}{K:iR→LS→Rs}:∀(l:List Ins)(ε:iR)(s:LS),(lS l).r T K ε s=BS T T l K ε s
 |[],_,_=>rfl
 |i::l,ε,s=>by
  obtain⟨dst,gd,o⟩:=i;have ih:∀ε s,(lS l).r T K ε s=BS T T l K ε s:=λε s=>Vo l ε s;show(iS ⟨dst,gd,o⟩ (lS l)).r T K ε s=_;rcases gd with _|⟨t,w⟩
  ·cases dst<;>simp only[iS,BS,ih,kOp,HW,JB]
  ·cases dst<;>(simp only[iS,BS,ih,kOp,ob,HW,JB];cases ε t<;>rfl)
structure CSt where
 r:pe→KN→iR→LS→Rs
def reb(ls:List Nat)(ε:iR)(k:iR→Rs):Rs:=List.rec (motive:=λ_=>iR→Rs) k (λt _ ih a=>ob (ε t) λd=>ih (sup a t d)) ls noS
def cS(φ:Nat)(c:C):CSt:=C.rec (motive:=λ_=>CSt) ⟨λ_ _ _ _=>none⟩ ⟨λ_ K ε s=>K.n ε s⟩ (λl=>⟨λT K ε s=>(lS l).r T K.n ε s⟩)
 (λ_ _ a b=>⟨λT K ε s=>a.r T ⟨λε s=>b.r T K ε s,K.ex,K.ret⟩ ε s⟩) (λx _ _ a b=>⟨λT K ε s=>eQ (xv ε x) (a.r T K ε s) (b.r T K ε s)⟩)
 (λid _ c=>⟨λT K ε s=>c.r T ⟨K.n,K.exit id K.n,K.ret⟩ ε s⟩) (λ_ c=>⟨λT K ε s=>lp (λ_ _=>none) (λq ε s=>c.r T ⟨q,K.ex,K.ret⟩ ε s) φ ε s⟩)
 (λid=>⟨λ_ K ε s=>K.ex id ε s⟩) ⟨λ_ K ε s=>K.ret ε s⟩ (λls _ c=>⟨λT K ε s=>reb ls ε λε=>c.r T K ε s⟩) c
theorem PJ{k:iR→Rs}{r:D}{ε:iR}{ls:List Nat}(h:reb ls ε k=some r):k (we ls ε)=some r:=by
 have go:∀(ls:List Nat)(a:iR),List.rec (motive:=λ_=>iR→Rs) k (λt _ ih a=>ob (ε t) λd=>ih (sup a t d)) ls a=some r→k (λn=>cnd (y7 n ls) (ε n) (a n))=some r:=by
  intro ls
  induction ls with
  |nil=>intro a h;exact h
  |cons t ls ih=>
   intro a h;obtain⟨d,h1,h2⟩:=nc h;have h3:=ih _ h2;refine Eq.trans (congrArg k (funext λn=>?_)) h3;show cnd (cnd (Nat.beq n t) true (y7 n ls)) (ε n) (a n)=cnd (y7 n ls) (ε n) (cnd (Nat.beq n t) (some d) (a n));cases hb:Nat.beq n t with
   |false=>rfl
   |true=>
    rw[aU hb,h1];cases y7 t ls<;>rfl
 exact go ls noS h
section
variable {Δ:Tr Ent} {T:pe} {φ:Nat} {r:D}
theorem VL(hT:TOk Δ T):∀(c:C)(K:KN)(s:LS)(e:Env)(σ:Sto),LSR s σ→(cS φ c).r T K e.get s=some r→
 ∃n x e' σ' s',run Δ n (.code c e σ)=some (.code x e' σ')∧LSR s' σ'∧K.at x e'.get s'=some r:=by
 intro c
 induction c with
 |bad=>intro K s e σ h hr;cases hr
 |skip=>intro K s e σ h hr;exact⟨1,.nrm,e,σ,s,rfl,h,hr⟩
 |reg l=>
  intro K s e σ h hr;have hr:(lS l).r T K.n e.get s=some r:=hr;rw[Vo]at hr;obtain⟨n,e',σ',s',h1,h2,h3⟩:=yB hT hT l s e σ h hr;exact⟨n+1,.nrm,e',σ',s',h1,h2,h3⟩
 |seq a b iha ihb=>
  intro K s e σ h hr;obtain⟨n,x,e1,σ1,s1,h1,h2,h3⟩:=iha _ s e σ h hr;cases x with
  |nrm=>
   obtain⟨m,x,e',σ',s',h4,h5,h6⟩:=ihb K s1 e1 σ1 h2 h3;refine⟨(n+m)+1,x,e',σ',s',?_,h5,h6⟩;simp only[run,rM (show n≤n+m by omega) h1,rM (show m≤n+m by omega) h4]
  |exit id=>exact⟨n+1,.exit id,e1,σ1,s1,by simp only[run,h1],h2,h3⟩
  |ret=>exact⟨n+1,.ret,e1,σ1,s1,by simp only[run,h1],h2,h3⟩
 |cond x a b iha ihb=>
  intro K s e σ h hr;rcases tp hr with⟨h1,h2⟩|⟨h1,h2⟩
  ·obtain⟨n,x',e',σ',s',h3,h4⟩:=iha K s e σ h h2;rw[←xev]at h1;exact⟨n+1,x',e',σ',s',by simp only[run,h1,h3],h4⟩
  ·obtain⟨n,x',e',σ',s',h3,h4⟩:=ihb K s e σ h h2;rw[←xev]at h1;exact⟨n+1,x',e',σ',s',by simp only[run,h1,h3],h4⟩
 |block id c ih=>
  intro K s e σ h hr;obtain⟨n,x,e',σ',s',h3,h4,h5⟩:=ih _ s e σ h hr;cases x with
  |nrm=>exact⟨n+1,.nrm,e',σ',s',by simp only[run,h3],h4,h5⟩
  |ret=>exact⟨n+1,.ret,e',σ',s',by simp only[run,h3],h4,h5⟩
  |exit j=>
   simp only[KN.at,KN.exit]at h5;cases hj:Nat.beq j id with
   |true=>
    rw[hj]at h5;exact⟨n+1,.nrm,e',σ',s',by simp only[run,h3,hj,cond_true],h4,h5⟩
   |false=>
    rw[hj]at h5;exact⟨n+1,.exit j,e',σ',s',by simp only[run,h3,hj,cond_false],h4,h5⟩
 |loop c ih=>
  intro K s e σ h hr;have key:∀(m:Nat)(s:LS)(e:Env)(σ:Sto),LSR s σ→lp (λ_ _=>none) (λq ε s=>(cS φ c).r T ⟨q,K.ex,K.ret⟩ ε s) m e.get s=some r→
   ∃n x e' σ' s',run Δ n (.code (.loop c) e σ)=some (.code x e' σ')∧LSR s' σ'∧K.at x e'.get s'=some r:=by
   intro m
   induction m with
   |zero=>intro s e σ h hr;cases hr
   |succ m ihm=>
    intro s e σ h hr;obtain⟨n,x,e1,σ1,s1,h4,h5,h6⟩:=ih _ s e σ h hr;cases x with
    |nrm=>
     obtain⟨n2,x,e',σ',s',h7,h8,h9⟩:=ihm s1 e1 σ1 h5 h6;refine⟨(n+n2)+1,x,e',σ',s',?_,h8,h9⟩;rw[run];simp only[rM (show n≤n+n2 by omega) h4,rM (show n2≤n+n2 by omega) h7]
    |exit id=>exact⟨n+1,.exit id,e1,σ1,s1,by rw[run];simp only[h4],h5,h6⟩
    |ret=>exact⟨n+1,.ret,e1,σ1,s1,by rw[run];simp only[h4],h5,h6⟩
  exact key φ s e σ h hr
 |exit id=>intro K s e σ h hr;exact⟨1,.exit id,e,σ,s,rfl,h,hr⟩
 |ret=>intro K s e σ h hr;exact⟨1,.ret,e,σ,s,rfl,h,hr⟩
 |cut ls c ih=>
  intro K s e σ h hr;have hr:=PJ (k:=λε=>(cS φ c).r T K ε s) hr;rw[←Ac]at hr;obtain⟨n,x,e',σ',s',h3,h4,h5⟩:=ih K s _ σ h hr;exact⟨n+1,x,e',σ',s',by simp only[run];exact h3,h4,h5⟩
def Mc:Nat→Nat→iR→List D→(iR→Rs)→Rs
 |0,_,ε,l,F=>u0 l (F ε)
 |n+1,t,ε,l,F=>u1 l λd r=>shK d λd=>Mc n (Nat.succ t) (sup ε t d) r F
theorem Ij{F:iR→Rs}:∀(n t:Nat)(ε:iR)(l:List D),Mc n t ε l F=BI n t ε l F
 |0,_,_,_=>rfl
 |n+1,t,ε,l=>by simp only[Mc,BI,JB,Ij n]
def fS(φ:Nat)(T:pe)(n:Nat)(G:Fun)(as:List D)(s:LS)(k:D→LS→Rs):Rs:=
 Mc n 0 noS as λε=>(cS φ G.body).r T ⟨λε s=>rvK ε s G.res λds=>k (Mq ds) s,λ_ _ _=>none,λε s=>rvK ε s G.res λds=>k (Mq ds) s⟩ ε s
def fI(φ:Nat)(T:pe)(n:Nat)(G:Fun)(as:List D):Option D:=fS φ T n G as s0 λd s=>eW (!Nat.beq G.mode 0) s d some
theorem MP{n:Nat}{G:Fun}(hT:TOk Δ T):yP Δ G (fS φ T n G):=by
 intro as s σ k r h hr;unfold fS at hr;rw[Ij]at hr;have hr:=yq n 0 .nil as (show BI n 0 (Tr.nil:Env).get as _=some r from hr);obtain⟨m,x,e',σ',s',h1,h2,h3⟩:=VL hT _ _ s _ σ h hr;cases x with
 |exit id=>cases h3
 |nrm=>
  obtain⟨ds,h4,h5⟩:=vg h2 _ _ h3;exact⟨m,.nrm,e',σ',s',_,h1,λid h=>(by cases h),BX h4,h2,h5⟩
 |ret=>
  obtain⟨ds,h4,h5⟩:=vg h2 _ _ h3;exact⟨m,.ret,e',σ',s',_,h1,λid h=>(by cases h),BX h4,h2,h5⟩
theorem Vv{n:Nat}{G:Fun}(hT:TOk Δ T):Mj Δ G (fI φ T n G):=by
 intro as q hq;obtain⟨m,x,e,σ',s',d,h1,h2,h3,h4,h5⟩:=MP hT _ _ Sto.empty _ _ LSR.empty hq;obtain⟨q',h6,h7⟩:=AV h5;cases h7;rw[←h4.get]at h6;exact⟨m,x,e,σ',d,h1,h2,h3,h6⟩
end
structure Spc where
 F:Nat
 na:Nat
 md:Nat
 an:List Nat
 fn:Func
def z06(m:Nat):List Nat:=Nat.rec (motive:=λ_=>Nat→Nat→List Nat) (λ_ _=>[]) (λ_ ih i m=>cnd (Nat.beq m 0) [] (cnd (Nat.beq (Nat.mod m 2) 1) (i::frc (Nat.succ i) λi=>ih i (Nat.div m 2)) (frc (Nat.succ i) λi=>ih i (Nat.div m 2)))) m 0 m
def anU:List Nat→List (Option (List Nat))
 |k::m::r=>List.replicate k none++some (z06 m)::anU r
 |_=>[]
def Vx(P:Program)(im:Nat→Option Nat)(nt:Nat)(ops:List Oper)(draw:Bool):C:=
 .reg (cnd draw ((places P im nt ops).map (·.i)++uP (places P im nt ops) 0 (places P im nt ops)) (ops.map (sk P im nt ops)))
def rm(P:Program)(im:Nat→Option Nat)(nt:Nat):Code→C
 |.skip=>.skip
 |.label _=>.skip
 |.region _ ops draw=>Vx P im nt ops.toList draw
 |.seq a b=>.seq (rm P im nt a) (rm P im nt b)
 |.cond x a b=>.cond (cX im x) (rm P im nt a) (rm P im nt b)
 |.block id c=>.block id (rm P im nt c)
 |.loop c=>.loop (rm P im nt c)
 |.scope c=>rm P im nt c
 |.exit id=>.exit id
 |.ret=>.ret
 |_=>.bad
def dOk(P:Program)(im:Nat→Option Nat)(nt:Nat):Code→Bool
 |.region _ ops draw=>cnd draw (Am ops.toList (places P im nt ops.toList)) true
 |.seq a b=>cnd (dOk P im nt a) (dOk P im nt b) false
 |.cond _ a b=>cnd (dOk P im nt a) (dOk P im nt b) false
 |.block _ c=>dOk P im nt c
 |.loop c=>dOk P im nt c
 |.scope c=>dOk P im nt c
 |_=>true
theorem OL(P:Program)(im:Nat→Option Nat)(nt:Nat)(c:Code):dOk P im nt c=true→rm P im nt c=jr P im nt c:=by
 induction c with
 |region k ops draw=>
  intro h;simp only[rm,jr,Vx,Ie];cases draw with
  |false=>rfl
  |true=>
   have h':Am ops.toList (places P im nt ops.toList)=true:=h;rw[aC rfl,aC h'];rfl
 |seq a b iha ihb=>intro h;obtain⟨h1,h2⟩:=vU h;simp only[rm,jr,iha h1,ihb h2]
 |cond x a b iha ihb=>intro h;obtain⟨h1,h2⟩:=vU h;simp only[rm,jr,iha h1,ihb h2]
 |block id c ih=>intro h;simp only[rm,jr,ih h]
 |loop c ih=>intro h;simp only[rm,jr,ih h]
 |scope c ih=>intro h;simp only[rm,jr,ih h]
 |_=>intro _;rfl
def spC(P:Program)(im:Nat→Option Nat)(q:Spc):C:=Option.rec (motive:=λ_=>C) .bad (λc=>rm P im (ntF q.md q.fn.ntmps) c) q.fn.body
def Kl(P:Program)(im:Nat→Option Nat)(q:Spc):Bool:=Option.rec (motive:=λ_=>Bool) false (λc=>cnd (q.fn.results.toList.all (zR P)) (dOk P im (ntF q.md q.fn.ntmps) c) false) q.fn.body
def spG(P:Program)(im:Nat→Option Nat)(q:Spc):Fun:=⟨q.fn.params.size,q.fn.results.toList.map (BU P),q.md,Gd (spC P im q) (anU q.an) λc _=>c⟩
theorem WQ{P:Program}{im:Nat→Option Nat}{q:Spc}(h:Kl P im q=true):spG P im q=sJ P im q.md (anU q.an) q.fn:=by
 have:spC P im q=(xX P im q.md q.fn).body:=by
  unfold Kl at h;unfold spC xX;cases hb:q.fn.body with
  |none=>rfl
  |some c=>
   rw[hb]at h;obtain⟨h1,h2⟩:=vU h;simp only[h1,b9];exact OL P im _ c h2
 unfold spG sJ;rw[this]
abbrev Tbs:=List (Nat×List D×D)
def My(k:Nat)(tb:Tbs):List (List D×D):=List.rec (motive:=λ_=>List (List D×D)) [] (λe _ ih=>cnd (Nat.beq e.1 k) (e.2::ih) ih) tb
theorem Ch{k:Nat}{e:List D×D}:∀{tb:Tbs},e∈My k tb→(k,e)∈tb
 |[],h=>by cases h
 |x::tb,h=>by
  have h:e∈cnd (Nat.beq x.1 k) (x.2::My k tb) (My k tb):=h;cases hb:Nat.beq x.1 k with
  |false=>rw[hb]at h;exact bn _ (Ch h)
  |true=>
   rw[hb]at h;have hk:=aU hb;rcases bK.1 h with rfl|h
   ·rw[←hk];exact bz ..
   ·exact bn _ (Ch h)
theorem Kj{Δ:Tr Ent}{G:Fun}{M:List D→Option D}(hM:Mj Δ G M):∀{L:List (List D×D)},(∀e,e∈L→Sl Δ G e.1 e.2)→Mj Δ G (WM L M)
 |[],_=>hM
 |e::L,hL=>λas q h=>by
  have h:cnd (eqA as e.1) (some e.2) (WM L M as)=some q:=h;cases hq:eqA as e.1 with
  |true=>
   rw[hq]at h;rw[Bl (Rh 40) hq,←cK h];exact hL e (bz ..)
  |false=>
   rw[hq]at h;exact Kj hM (λe' he=>hL e' (bn _ he)) as q h
def ftS(P:Program)(im:Nat→Option Nat)(φ:Nat)(T:pe)(L:List (List D×D))(q:Spc):FT:=cnd (Nat.beq q.md 2) (.mem (fS φ T q.na (spG P im q))) (.iso (WM L (fI φ T q.na (spG P im q))))
def J7{α:Type}(l:List α):Nat→Option α:=List.rec (motive:=λ_=>Nat→Option α) (λ_=>none) (λa _ ih n=>Nat.rec (some a) (λm _=>ih m) n) l
def z7(sp:List (List Spc))(j:Nat):Option Spc:=Option.rec none (λr=>J7 r (Nat.mod j 16)) (J7 sp (Nat.div j 16))
def Jj(P:Program)(im:Nat→Option Nat)(G:Nat→Nat→Option FT)(n0:Nat)(sp:List (List Spc))(tb:Tbs)(φ m:Nat):pe:=
 Nat.rec (motive:=λ_=>pe) (λ_=>none) (λ_ ih k=>cnd (Nat.blt k n0) (G φ k) (Option.rec none (λq=>some (ftS P im φ ih (My k tb) q)) (z7 sp (Nat.sub k n0)))) m
def W3(P:Program)(im:Nat→Option Nat)(G:Nat→Nat→Option FT)(n0:Nat)(sp:List (List Spc))(tb:Tbs)(φ m k:Nat)(as:List D):Option D:=
 Option.rec none (λq=>fI φ (Jj P im G n0 sp tb φ m) q.na (spG P im q) as) (z7 sp (Nat.sub k n0))
theorem C9{α:Type}{a:α}:∀{l:List α}{n:Nat},J7 l n=some a→a∈l
 |[],_,h=>by cases h
 |b::l,0,h=>by cases(show some b=some a from h);exact bz ..
 |b::l,n+1,h=>bn _ (C9 (show J7 l n=some a from h))
theorem H2{α:Type}:∀(l:List α)(n:Nat),l.length≤n→J7 l n=none
 |[],_,_=>rfl
 |a::l,0,h=>absurd h (by simp)
 |a::l,n+1,h=>H2 l n (by simpa using h)
section
variable {P:Program} {l:List Nat} {G:Nat→Nat→Option FT} {n0:Nat} {TD:Nat→pe} {sp:List (List Spc)}
def V5(P:Program)(l:List Nat)(n0:Nat)(sp:List (List Spc)):Prop:=
 (List.range (16*sp.length)).map (λj=>(z7 sp j).map λq=>fL P l (n0+j) q.F q.fn)=(List.range (16*sp.length)).map λj=>(z7 sp j).map λq=>fR q.F q.fn
def uK(P:Program)(l:List Nat)(sp:List (List Spc)):Prop:=sp.all (λr=>r.all (Kl P λF=>imA F l 0))=true
theorem uK.app{sp':List (List Spc)}(h:uK P l sp)(h':uK P l sp'):uK P l (sp++sp'):=by
 unfold uK at*;rw[z29,h,h'];rfl
def V4(P:Program)(l:List Nat)(G:Nat→Nat→Option FT)(n0:Nat)(sp:List (List Spc))(φ:Nat):Tbs→Prop
 |[]=>True
 |(k,as,v)::tb=>V4 P l G n0 sp φ tb∧n0≤k∧∃m,W3 P (λF=>imA F l 0) G n0 sp tb φ m k as=some v
theorem QZ{j:Nat}(h:16*sp.length≤j):z7 sp j=none:=by
 unfold z7;rw[H2 sp (Nat.div j 16) ((dc (by decide)).2 (by omega))]
theorem Q0(hc:uK P l sp){j:Nat}{q:Spc}(h:z7 sp j=some q):Kl P (λF=>imA F l 0) q=true:=by
 unfold z7 at h;cases hr:J7 sp (Nat.div j 16)with
 |none=>rw[hr]at h;cases h
 |some r=>
  rw[hr]at h;exact cg.1 (cg.1 hc r (C9 hr)) q (C9 (show J7 r (Nat.mod j 16)=some q from h))
theorem XH(h:Lb P l G n0 TD)(hs:V5 P l n0 sp)(hc:uK P l sp)(φ:Nat):∃Δ,DOk P (λF=>imA F l 0) Δ∧∀tb,V4 P l G n0 sp φ tb→∀m,TOk Δ (Jj P (λF=>imA F l 0) G n0 sp tb φ m):=by
 obtain⟨L,hT,hTD⟩:=h.2 φ;have build:∀N,N≤16*sp.length→∃Δ,DOk P (λF=>imA F l 0) Δ∧LeT L.Δ Δ∧(∀m,n0+N≤m→Δ.get m=none)∧∀j q,j<N→z7 sp j=some q→Δ.get (n0+j)=some (.body (spG P (λF=>imA F l 0) q)):=by
  intro N
  induction N with
  |zero=>intro _;exact⟨L.Δ,L.ok,λ_ _ h=>h,L.bd,λj q h=>absurd h (cQ j)⟩
  |succ N ih=>
   intro hN;obtain⟨Δ,h1,h2,h3,h4⟩:=ih (by omega);cases hq:z7 sp N with
   |none=>
    refine⟨Δ,h1,h2,λm hm=>h3 m (by omega),λj q hj hjq=>?_⟩;rcases az j N with h5|h5
    ·exact h4 j q h5 hjq
    ·rw[show j=N by omega,hq]at hjq;cases hjq
   |some q=>
    have hf:Fc P l (n0+N) q.F q.fn:=by
     have:=List.map_inj_left.1 hs N (di.2 hN);rw[hq]at this;exact cK this
    refine⟨Δ.set (n0+N) (.body (spG P (λF=>imA F l 0) q)),GU h1 hf.ok (by rw[WQ (Q0 hc hq)];exact Bk P _ q.md (anU q.an) q.fn),λm en hm=>LeT.set (h3 _ (aE _)) _ m en (h2 m en hm),λm hm=>?_,λj q' hj hjq=>?_⟩
    ·rw[Tr.get_set,aF (by omega)];exact h3 m (by omega)
    ·rcases az j N with h5|h5
     ·rw[Tr.get_set,aF (by omega)];exact h4 j q' h5 hjq
     ·obtain rfl:j=N:=by omega
      rw[Tr.get_set,aC rfl];rw[hq]at hjq;cases hjq;rfl
 obtain⟨Δ,h1,h2,h3,h4⟩:=build _ (aE _);have hget:∀k q,n0≤k→z7 sp (Nat.sub k n0)=some q→Δ.get k=some (.body (spG P (λF=>imA F l 0) q)):=by
  intro k q hk hq;have hj:Nat.sub k n0<16*sp.length:=by
   rcases az (Nat.sub k n0) (16*sp.length)with h5|h5
   ·exact h5
   ·rw[QZ h5]at hq;cases hq
  have hg:=h4 _ q hj hq;rw[show n0+Nat.sub k n0=k from Nat.add_sub_of_le hk]at hg;exact hg
 have tok:∀tb:Tbs,(∀k as v q,(k,as,v)∈tb→n0≤k→z7 sp (Nat.sub k n0)=some q→Sl Δ (spG P (λF=>imA F l 0) q) as v)→∀m,TOk Δ (Jj P (λF=>imA F l 0) G n0 sp tb φ m):=by
  intro tb htb m
  induction m with
  |zero=>intro n ft h;cases h
  |succ m ih=>
   intro k ft hk;have hk:cnd (Nat.blt k n0) (G φ k) (Option.rec none (λq=>some (ftS P (λF=>imA F l 0) φ (Jj P (λF=>imA F l 0) G n0 sp tb φ m) (My k tb) q)) (z7 sp (Nat.sub k n0)))=some ft:=hk;by_cases hlt:k<n0
   ·rw[ew hlt]at hk;refine(L.tok k ft ?_).le h2;rw[hT,Tn,ew hlt];exact hk
   ·rw[fE hlt]at hk;cases hq:z7 sp (Nat.sub k n0)with
    |none=>rw[hq]at hk;cases hk
    |some q=>
     rw[hq]at hk;have hg:=hget k q (by omega) hq;have hk:ftS P (λF=>imA F l 0) φ (Jj P (λF=>imA F l 0) G n0 sp tb φ m) (My k tb) q=ft:=cK hk;rw[←hk];unfold ftS;cases hmd:Nat.beq q.md 2 with
     |true=>exact⟨_,hg,aU hmd,MP ih⟩
     |false=>exact Or.inr ⟨_,hg,hmd,Kj (Vv ih) λe he=>htb k e.1 e.2 q (Ch he) (by omega) hq⟩
 refine⟨Δ,h1,λtb htb=>tok tb ?_⟩
 induction tb with
 |nil=>intro k as v q hm;cases hm
 |cons e tb ih=>
  obtain⟨k0,as0,v0⟩:=e;obtain⟨g1,g2,m,g3⟩:=htb;intro k as v q hm hk hq;rcases bK.1 hm with he|hm
  ·cases he;unfold W3 at g3;rw[hq]at g3;exact Vv (tok tb (ih g1) m) as0 v0 g3
  ·exact ih g1 k as v q hm hk hq
theorem UO(h:Lb P l G n0 TD)(hs:V5 P l n0 sp)(hc:uK P l sp)(φ:Nat){tb:Tbs}(ht:V4 P l G n0 sp φ tb)(m F:Nat)(fn:Func)(na md:Nat)(an:List (Option (List Nat))){R:List D→Option D}(hf:(P.funcs[F]?,fn.body.isSome)=(some fn,true))
 (e:DT φ (Jj P (λF=>imA F l 0) G n0 sp tb φ m) (Jj P (λF=>imA F l 0) G n0 sp tb φ m) na (sJ P (λF=>imA F l 0) md an fn)=R):Snd P (λF=>imA F l 0) F R:=by
 obtain⟨Δ,h1,h2⟩:=XH h hs hc φ;simp only[aJ]at hf;obtain⟨c,hc⟩:=z1j.1 hf.2;rw[←e];exact I6 h.1 h1 (h2 tb ht m) (h2 tb ht m) hf.1 hc (Bk P _ md an fn) φ na
end
end
end Go.Proofs.Ev
set_option maxRecDepth 1000000
set_option maxHeartbeats 0
namespace Go.Proofs.YthljpappkomocaaGreat
open Ev
noncomputable section
def uu:List Nat:=[73,136,144,241,193,137,138,139,74,140,75,76,194,142,141,77,32,79,35,10,33,143,78,34,8,9,11,166,165,213,212,167,102,41,42,43,44,14,15,16,45,18,22,101,105,104,164,100,99,163,98,39,93,257,209,206,157,90,161,211,325,255,327,326,328,258,329,256,207,215,260,214,168,103,46,52,92,210,160,189,158,208,159,94,107,154,88,230,231,232,188,128,162,149,201,200,150,152,246,320,247,254,203,321,322,248,402,324,323,249,250,251,252,253,202,151,86,153,87,95,129,106,156,148,91,130,67,83,112,113,53,23,126,111,171,217,63,218,173,110,50,51,55,115,169,170,330,261,216,172,108,116,56,117,57,114,54,24,25,355,456,96,97,181,174,175,224,340,204,453,406,407,341,413,410,414,345,416,408,342,343,422,411,454,409,412,344,455,415,346,270,347,271,272,273,417,348,349,274,350,275,418,419,420,421,351,352,276,205,278,423,424,425,354,353,277,225,226,229,228,356,426,357,358,457,428,427,359,360,361,362,363,279,227,187,127,64,195,145,80,146,221,331,263,262,332,66,403,333,334,264,452,451,404,335,336,337,338,265,309,310,243,398,308,266,267,222,307,242,196,319,245,199,198,311,399,312,313,450,401,400,314,315,316,317,318,244,197,147,81,36,82,37,84,85,155,89,38,12,47,48,19,20,40,13,62,29,65,30,294,296,372,295,235,236,373,297,237,374,298,238,219,177,178,300,299,239,375,466,444,384,390,378,380,437,469,460,467,446,391,435,459,436,441,434,376,438,440,385,473,470,471,472,461,474,462,465,463,439,464,442,377,301,379,443,382,381,302,303,383,445,386,387,392,393,388,389,397,447,394,304,306,395,448,468,449,396,305,240,192,133,69,190,131,121,135,220,370,289,290,291,371,292,293,234,429,364,430,365,281,282,283,284,366,285,71,431,432,367,368,286,287,458,433,369,288,233,191,132,68,134,70,72,31,7,5]
def im(F:Nat):Option Nat:=imA F uu 0
end
end Go.Proofs.YthljpappkomocaaGreat
