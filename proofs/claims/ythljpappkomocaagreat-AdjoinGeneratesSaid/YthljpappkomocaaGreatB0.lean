/- Functions on numbers, integers and polynomials modulo a prime: their residuals, and shorter Lean functions proved to give the same results. -/
import Derived.Test.YthljpappkomocaaGreatA2
import Derived.KernelRfl
set_option linter.all false
set_option maxRecDepth 1000000
set_option maxHeartbeats 0
namespace Go.Proofs.Ev
noncomputable section
def fG(φ:Nat):List D→LS→(D→LS→Rs)→Rs:=
λas s kk=>
 u1 as λg h=>
 u0 h (
 ek g s λl s=>
 lp (λ(_ _:D)(_:LS)=>none) (λ(m:D→D→LS→Rs)(f e:D)(s:LS)=>
 kC e (.i .i64 (.ofNat 0)) λc=>
 eI c true (λk=>k f s) s λn s=>
 eI c true (λk=>k e s) s λo s=>
 eI c true (λk=>et o (.i .i64 (.ofNat 1)) λd=>k d s) s λp s=>
 eI c true (λk=>eK 1 s n p k) s λu s=>
 eI c true (λk=>eJ s u k) s λv s=>
 eI c true (λk=>gx v (.i .u64 (.ofNat 0)) λd=>k d s) s λw s=>
 fX c w (.b false) s λy s=>
 eQ y
(et e (.i .i64 (.ofNat 1)) λz=>
 m f z s)
(kg 1 s f none (some e) none λA s=>
 kk A s)) φ g l s)
def uF(φ:Nat):List D→Option D:=
λas=>
(λ(s:LS)=>
 u1 as λz A=>
 u0 A (
(fG φ) [z] s λb s=>
 ek b s λB s=>
 gx B (.i .i64 (.ofNat 0)) λC=>
 eQ C
(eX false s (.n 0) some)
(ek b s λE s=>
 kv (.i .i64 (.ofNat 8)) E λk=>
 mK 1 1 [(.i .u8 (.ofNat 0))] s k k λF s=>
 ek b s λG s=>
 lp (λ(_ _ _ _:D)(_:LS)=>none) (λ(H:D→D→D→D→LS→Rs)(l m o d:D)(s:LS)=>
 fN d o λI=>
 eQ I
(eK 1 s m d λJ s=>
 eJ s J λK s=>
 lp (λ(_ _ _ _ _ _ _:D)(_:LS)=>none) (λ(M:D→D→D→D→D→D→D→LS→Rs)(e p u v w y f:D)(s:LS)=>
 fN f (.i .i64 (.ofNat 8)) λN=>
 eQ N
(ek e s λO s=>
 et O (.i .i64 (.ofNat 1)) λP=>
 kv (.i .i64 (.ofNat 8)) p λS=>
 et P S λU=>
 et U f λV=>
 kv (.i .i64 (.ofNat 8)) f λW=>
 o5 u W λX=>
 lP .u8 X s λY s=>
 eK 1 s e V λZ s=>
 eU 1 s Z Y λ_ s=>
 ee f (.i .i64 (.ofNat 1)) λbb=>
 M e p u v w y bb s)
(ee y (.i .i64 (.ofNat 1)) λbc=>
 H e v w bc s)) φ l d K m o d (.i .i64 (.ofNat 0)) s)
(lp (λ(_ _:D)(_:LS)=>none) (λ(bd:D→D→LS→Rs)(g h:D)(s:LS)=>
 eK 1 s g h λbf s=>
 eJ s bf λbg s=>
 gx bg (.i .u8 (.ofNat 0)) λbh=>
 eQ bh
(ee h (.i .i64 (.ofNat 1)) λbi=>
 bd g bi s)
(kg 1 s g (some h) none none λbk s=>
 kS (.b2s (.c bk)) s λbl s=>
 eX false s bl some)) φ l (.i .i64 (.ofNat 0)) s)) φ F b G (.i .i64 (.ofNat 0)) s))) s0
def qd(φ:Nat):List D→Option D:=
λas=>
(λ(s:LS)=>
 u1 as λe m=>
 u0 m (
 kS (.lens (.c e)) s λn s=>
 ee n (.i .i64 (.ofNat 7)) λo=>
 u7 o (.i .i64 (.ofNat 8)) λg=>
 mK 1 8 [(.i .u64 (.ofNat 0))] s g g λp s=>
 kS (.lens (.c e)) s λu s=>
 lp (λ(_ _ _ _:D)(_:LS)=>none) (λ(v:D→D→D→D→LS→Rs)(f b h d:D)(s:LS)=>
 fN d h λw=>
 eQ w
(kS (.lens (.c f)) s λy s=>
 et y (.i .i64 (.ofNat 1)) λz=>
 et z d λk=>
 u7 k (.i .i64 (.ofNat 8)) λl=>
 eK 1 s b l λA s=>
 eJ s A λB s=>
 kS (.index (.c f) (.c d)) s λC s=>
 lP .u64 C s λE s=>
 JP k (.i .i64 (.ofNat 8)) λF=>
 kv (.i .i64 (.ofNat 8)) F λG=>
 vm E G λH=>
 kOr B H λI=>
 eK 1 s b l λJ s=>
 eU 1 s J I λ_ s=>
 ee d (.i .i64 (.ofNat 1)) λK=>
 v f b h K s)
((fG φ) [b] s λM s=>
 eX true s M some)) φ e p u (.i .i64 (.ofNat 0)) s)) s0
def pS(φ:Nat):List D→Option D:=
λas=>
(λ(s:LS)=>
 u1 as λb k=>
 u1 k λc l=>
 u0 l (
 uu b (.i .u64 (.ofNat 4294967295)) λd=>
 o5 b (.i .u64 (.ofNat 32)) λe=>
 uu c (.i .u64 (.ofNat 4294967295)) λf=>
 o5 c (.i .u64 (.ofNat 32)) λg=>
 kv d f λm=>
 kv e f λn=>
 o5 m (.i .u64 (.ofNat 32)) λo=>
 ee n o λh=>
 uu h (.i .u64 (.ofNat 4294967295)) λp=>
 o5 h (.i .u64 (.ofNat 32)) λu=>
 kv d g λv=>
 ee p v λw=>
 kv e g λy=>
 ee y u λz=>
 o5 w (.i .u64 (.ofNat 32)) λA=>
 ee z A λB=>
 kv b c λC=>
 eX false s (.tup [B,C]) some)) s0
theorem eV{d:D}{r:List D}{k:D→List D→Rs}:u1 (d::r) k=k d r:=rfl
theorem eZ{x:Rs}:u0 [] x=x:=rfl
theorem eP{a b:Rs}:eQ (.b true) a b=a:=rfl
theorem eM{a b:Rs}:eQ (.b false) a b=b:=rfl
theorem eO{α:Type}{bot:α}{f:α→α}{n:Nat}:lp bot f (n+1)=f (lp bot f n):=rfl
def n64(w:Nat):D:=.i .u64 (.ofNat w)
def c64(ws:List Nat):List D:=ws.map n64
theorem fO(ws:List Nat):(c64 ws).length=ws.length:=aI _
theorem kP{ws:List Nat}{i w:Nat}(h:ws[i]?=some w):(c64 ws)[i]?=some (.i .u64 (.ofNat w)):=by
 unfold c64;rw[au,h];rfl
theorem wE(ws:List Nat)(i w:Nat):(c64 ws).set i (.i .u64 (.ofNat w))=c64 (ws.set i w):=by
 unfold c64;rw[dr];rfl
theorem vT:∀(ws:List Nat),(c64 ws).all ot=true
 |[]=>rfl
 |w::ws=>vT ws
theorem uk(n w:Nat):List.replicate n (D.i .u64 (.ofNat w))=c64 (List.replicate n w):=by
 unfold c64;rw[List.map_replicate];rfl
theorem D8(n:Nat):kx (List.replicate n 0):=λw h=>by
 rw[(List.mem_replicate.1 h).2];decide
theorem E8:∀n,val (List.replicate n 0)=0
 |0=>rfl
 |n+1=>by
  show 0+B64*val (List.replicate n 0)=0;rw[E8 n];rfl
theorem za{ws:List Nat}{j w:Nat}(h:kx ws)(hw:w<B64):kx (ws.set j w):=λx hx=>by
 rcases z1u hx with h1|h1
 ·exact h x h1
 ·rw[h1];exact hw
theorem tJ{op:(D→LS→Rs)→Rs}{s:LS}{k:D→LS→Rs}:eI (.b true) true op s k=op k:=rfl
theorem wh{op:(D→LS→Rs)→Rs}{s:LS}{k:D→LS→Rs}:eI (.b false) true op s k=k (.tup []) s:=rfl
theorem fe{a b:D}{s:LS}{k:D→LS→Rs}:fX (.b true) a b s k=k a s:=rfl
theorem gE{a b:D}{s:LS}{k:D→LS→Rs}:fX (.b false) a b s k=k b s:=rfl
theorem qk{l off len cm z:Nat}{ex:Bool}{s:LS}{k:D→LS→Rs}:ek (.sl l off len cm z ex) s k=k (.i .i64 (.ofNat len)) s:=rfl
theorem pI{cs:List D}{len:Nat}{ex:Bool}{s:LS}{k:D→LS→Rs}:ek (.tree cs len ex) s k=k (.i .i64 (.ofNat len)) s:=rfl
theorem yD{cs:List D}{len h:Nat}{k:D→LS→Rs}(h0:0<len)(hh:h≤len):kg 1 (st1 cs) (.sl 0 0 len len 1 true) none (some (.i .i64 (.ofNat h))) none k=k (.sl 0 0 h len 1 true) (st1 cs):=by
 show(jQ (st1 cs) 0 λb=>cnd (lv b.st) (cnd (Nat.ble len len) (cnd (Nat.ble h len) (cnd (Nat.ble 0 h) (cnd (Nat.beq 1 1) (mw true λex=>cnd (Nat.blt 0 len) (frc (Nat.add 0 (Nat.mul 0 1)) λoff=>frc (Nat.sub h 0) λl=>frc (Nat.sub len 0) λcm=>k (.sl 0 off l cm 1 ex) (st1 cs)) (k (.tree [] 0 ex) (st1 cs))) none) none) none) none) none)=_;rw[oe,ua];show cnd (Nat.ble len len) (cnd (Nat.ble h len) (cnd (Nat.ble 0 h) (cnd (Nat.beq 1 1) (mw true λex=>cnd (Nat.blt 0 len) (frc (Nat.add 0 (Nat.mul 0 1)) λoff=>frc (Nat.sub h 0) λl=>frc (Nat.sub len 0) λcm=>k (.sl 0 off l cm 1 ex) (st1 cs)) (k (.tree [] 0 ex) (st1 cs))) none) none) none) none=_;rw[aF (aD len),aF hh,aF (a9 h),ep h0];simp only[eL,jC,fA,ej];rfl
theorem Nk{ws:List Nat}{len w φ:Nat}{k:D→LS→Rs}(h0:0<len)(hlen:len≤9223372036854775807)(hw:ws[len-1]?=some w)(hne:w≠0):
 fG (φ+1) [.sl 0 0 len len 1 true] (st1 (c64 ws)) k=k (.sl 0 0 len len 1 true) (st1 (c64 ws)):=by
 unfold fG;have hm:len≤jX .i64:=hlen;simp only[eV,eZ,qk,eO,nj,ep h0,tJ,oM (show 1≤len from h0) hm,ng (show len-1<len by omega),aV,sY (kP hw),pb,gG hne,fe,eM,yD h0 (aD len)]
def E6(φ:Nat):(D→D→D→D→LS→Rs)→D→D→D→D→LS→Rs:=(λ(q7:D→D→D→D→LS→Rs)(x8 x9 x10 x11:D)(s:LS)=>
 fN x11 x10 λx12=>
 eQ x12
(kS (.lens (.c x8)) s λx13 s=>
 et x13 (.i .i64 (.ofNat 1)) λx14=>
 et x14 x11 λx15=>
 u7 x15 (.i .i64 (.ofNat 8)) λx16=>
 eK 1 s x9 x16 λx17 s=>
 eJ s x17 λx18 s=>
 kS (.index (.c x8) (.c x11)) s λx19 s=>
 lP .u64 x19 s λx20 s=>
 JP x15 (.i .i64 (.ofNat 8)) λx21=>
 kv (.i .i64 (.ofNat 8)) x21 λx22=>
 vm x20 x22 λx23=>
 kOr x18 x23 λx24=>
 eK 1 s x9 x16 λx25 s=>
 eU 1 s x25 x24 λ_ s=>
 ee x11 (.i .i64 (.ofNat 1)) λx26=>
 q7 x8 x9 x10 x26 s)
(fG φ [x9] s λx27 s=>
 eX true s x27 some))
theorem Nf(φ:Nat)(a:D):qd φ [a]=(kS (.lens (.c a)) s0 λx2 s=>
 ee x2 (.i .i64 (.ofNat 7)) λx3=>
 u7 x3 (.i .i64 (.ofNat 8)) λx4=>
 mK 1 8 [(.i .u64 (.ofNat 0))] s x4 x4 λx5 s=>
 kS (.lens (.c a)) s λx6 s=>
 lp (λ(_ _ _ _:D)(_:LS)=>none) (E6 φ) φ a x5 x6 (.i .i64 (.ofNat 0)) s):=rfl
theorem BR{m n W:Nat}(hm:0<m)(hn:n=(eo m).length)(hW:W=(n+7)/8)(hs:n≤1000000000000)(φ:Nat):∀(j i:Nat)(ws:List Nat)(f:Nat),i+j=n→j<f→0<φ→ws.length=W→kx ws→
 val ws=ef ((eo m).take i) 0*256^j→
 lp (λ(_ _ _ _:D)(_:LS)=>none) (E6 φ) f (.n m) (.sl 0 0 W W 1 true) (.i .i64 (.ofNat n)) (.i .i64 (.ofNat i)) (st1 (c64 ws))=some (.own (c64 (dg W m)) W 1)
 |0,i,ws,f,hi,hf,hφ,hl,hsm,hv=>by
  obtain⟨f,rfl⟩:∃q,f=q+1:=⟨f-1,by omega⟩
  obtain⟨φ,rfl⟩:∃q,φ=q+1:=⟨φ-1,by omega⟩
  have hin:i=n:=by omega
  subst hin;have hval:val ws=m:=by
   rw[hv,ce,ai,hn,c7,mc]
  have hdg:dg W m=ws:=by rw[←hl,←hval];exact RF hsm
  obtain⟨hb1,hb2⟩:=tI hm;rw[←hn]at hb1 hb2;have hW0:0<W:=by omega
  have hlt:W-1<ws.length:=by omega
  have hw:=aB hlt;have hne:ws[W-1]≠0:=by
   intro e;have h1:=xC hsm hw;rw[e]at h1;have h2:=xj hsm;have h3:B64^ws.length=B64^(W-1)*B64:=by rw[hl,←av];congr 1;omega
   have h4:val ws/B64^(W-1)<B64:=by
    rw[h3]at h2;exact d8 h2
   rw[bJ h4]at h1;have h5:val ws<B64^(W-1):=by
    rcases az (val ws) (B64^(W-1))with h|h
    ·exact h
    ·have:=z0T h (bR (by decide));omega
   have h6:B64^(W-1)=256^(8*(W-1)):=by rw[dm]
   have h7:256^(8*(W-1))≤256^(i-1):=ba (by decide) (by omega);omega
  rw[eO];unfold E6;simp only[ji,fC (bS i),eM,Nk hW0 (show W≤9223372036854775807 by omega) hw hne];rw[OW (vT ws) (by rw[fO,hl]),hdg]
 |j+1,i,ws,f,hi,hf,hφ,hl,hsm,hv=>by
  obtain⟨f,rfl⟩:∃q,f=q+1:=⟨f-1,by omega⟩
  have hlt:i<n:=by omega
  have hib:i<(eo m).length:=by rw[←hn];exact hlt
  have hc:=aB hib;generalize hcc:(eo m)[i]=c at hc;have hc8:c.toNat<256:=c.toNat_lt;have hk:n-1-i=j:=by omega
  have hj8:j/8<ws.length:=by rw[hl,hW];omega
  have hw:=aB hj8;obtain⟨o1,o2,o3⟩:=TI (b:=c.toNat) hsm hw hc8 hv;have hwl:=hsm _ (bK hj8);have h64:c.toNat*2^(8*(j%8))<B64:=by omega
  have hmod:c.toNat*2^(8*(j%8))%18446744073709551616=c.toNat*2^(8*(j%8)):=bJ h64;rw[eO];unfold E6;simp only[ji,ep hlt,eP,xK,←hn,oM (show 1≤n by omega) (show n≤jX .i64 from(by show n≤9223372036854775807;omega)),
   oM (show i≤n-1 by omega) (show n-1≤jX .i64 from(by show n-1≤9223372036854775807;omega)),hk,
   F3 (show(8:Nat)≠0 by decide) (show j≤jX .i64 from(by show j≤9223372036854775807;omega)),ng (show j/8<W by omega),aV,sY (kP hw),CM hc,
   we (show c.toNat≤jX .u64 from(by show c.toNat≤18446744073709551615;omega)),JO (show(8:Nat)≠0 by decide),yE (show 8*(j%8)≤jX .i64 from(by show 8*(j%8)≤9223372036854775807;omega)),
   uh (show 8*(j%8)≤64 by omega),hmod,VL (show ws[j/8]≤jX .u64 from bc hwl) (show c.toNat*2^(8*(j%8))≤jX .u64 from bc h64),o1,
   uP (show j/8<(c64 ws).length by rw[fO];exact hj8),wE,nk (show i+1≤jX .i64 from(by show i+1≤9223372036854775807;omega))]
  refine BR hm hn hW hs φ j (i+1) _ f (by omega) (by omega) hφ (by rw[bD,hl]) (za hsm o2) ?_;rw[o3];congr 1;have ht:(eo m).take (i+1)=(eo m).take i++[c]:=by
   rw[cH,hc];rfl
  rw[ht,p5]
theorem MA{m n W φ:Nat}(hm:0<m)(hn:n=(eo m).length)(hW:W=(n+7)/8)(hs:n≤1000000000000)(hφ:n<φ):qd φ [.n m]=some (.own (c64 (dg W m)) W 1):=by
 rw[Nf];obtain⟨hb1,hb2⟩:=tI hm;have h7:n+7≤jX .i64:=by show n+7≤9223372036854775807;omega
 simp only[xK,←hn,nk h7,F3 (show(8:Nat)≠0 by decide) h7,←hW,yz (bytes:=8) (z:=.i .u64 (.ofNat 0)) (n:=W) (show W≤140737488355328 by omega) (show W*8≤140737488355328 by omega),uk];refine BR hm hn hW hs φ n 0 _ φ (by omega) hφ (by omega) (by simp) (D8 W) ?_;rw[E8];simp[ef]
theorem AZ{cs:List D}{len i:Nat}{ex:Bool}{d:D}{k2:IntKind}{s:LS}{K:D→LS→Rs}(h:i<len)(hd:cs[i]?=some d):eK 1 s (.tree cs len ex) (.i k2 (.ofNat i)) K=K (.fp (d::cs.drop (i+1))) s:=by
 show cnd (Nat.blt i len) (iz (Nat.mul i 1) cs λr=>List.rec (motive:=λ_=>Rs) none (λ_ _ _=>K (.fp r) s) r) none=_;rw[ep h,eL,gB];have:cs.drop (Nat.mul i 1)=d::cs.drop (i+1):=by
  rw[show Nat.mul i 1=i from ai i];exact mz hd
 rw[this]
theorem EG{d:D}{r:List D}{s:LS}{K:D→LS→Rs}:eJ s (.fp (d::r)) K=K d s:=rfl
theorem wf{cs:List D}{len h:Nat}{ex:Bool}{s:LS}{k:D→LS→Rs}(hh:h≤len)(hl:cs.length=len):kg 1 s (.tree cs len ex) none (some (.i .i64 (.ofNat h))) none k=k (.tree (cs.take h) h (cnd ex (Nat.beq h len) false)) s:=by
 show cnd (Nat.ble len len) (cnd (Nat.ble h len) (cnd (Nat.ble 0 h) (cnd (Nat.beq cs.length (Nat.mul len 1))
  (iz (Nat.mul 0 1) cs λcs=>frc (Nat.sub h 0) λn=>iy (Nat.mul n 1) cs λcs=>
   mw (cnd ex (Nat.beq h len) false) λex=>k (.tree cs n ex) s)
  none) none) none) none=_
 rw[aF (aD len),aF hh,aF (a9 h),hl,show Nat.mul len 1=len from ai len,ej];simp only[eL,gB,fA,jC];rw[show Nat.mul 0 1=0 from rfl,aj,show Nat.sub h 0=h from rfl,i9,show Nat.mul h 1=h from ai h,aC (by omega)]
def tl(ws:List Nat):Nat→Nat
 |0=>0
 |n+1=>if ws[n]?=some 0 then tl ws n else n+1
theorem D5(ws:List Nat):∀n,tl ws n≤n
 |0=>aD _
 |n+1=>by
  unfold tl;split
  ·have:=D5 ws n;omega
  ·exact aD _
theorem GG:∀(ws:List Nat)(w:Nat),val (ws++[w])=val ws+w*B64^ws.length
 |[],w=>by show w+B64*0=0+w*B64^0;rw[ce];omega
 |x::ws,w=>by
  show x+B64*val (ws++[w])=x+B64*val ws+w*B64^(ws.length+1);rw[GG ws w,bA,av];have:B64*(w*B64^ws.length)=w*(B64^ws.length*B64):=by rw[←aU,aK B64 w,aU,aK B64 (B64^ws.length)]
  omega
theorem IP(ws:List Nat):∀n,n≤ws.length→val (ws.take (tl ws n))=val (ws.take n)
 |0,_=>rfl
 |n+1,h=>by
  unfold tl;split
  ·rename_i h0;rw[IP ws n (by omega),cH,h0];show _=val (ws.take n++[0]);rw[GG,bP,bH]
  ·rfl
def AN(k:D→LS→Rs):(D→D→LS→Rs)→D→D→LS→Rs:=(λ(q3:D→D→LS→Rs)(x4 x5:D)(s:LS)=>
 kC x5 (.i .i64 (.ofNat 0)) λx6=>
 eI x6 true (λk=>k x4 s) s λx7 s=>
 eI x6 true (λk=>k x5 s) s λx8 s=>
 eI x6 true (λk=>et x8 (.i .i64 (.ofNat 1)) λd=>k d s) s λx9 s=>
 eI x6 true (λk=>eK 1 s x7 x9 k) s λx10 s=>
 eI x6 true (λk=>eJ s x10 k) s λx11 s=>
 eI x6 true (λk=>gx x11 (.i .u64 (.ofNat 0)) λd=>k d s) s λx12 s=>
 fX x6 x12 (.b false) s λx13 s=>
 eQ x13
(et x5 (.i .i64 (.ofNat 1)) λx14=>
 q3 x4 x14 s)
(kg 1 s x4 none (some x5) none λx15 s=>
 k x15 s))
theorem y3(φ:Nat)(a:D)(s:LS)(k:D→LS→Rs):fG φ [a] s k=(ek a s λx2 s=>lp (λ(_ _:D)(_:LS)=>none) (AN k) φ a x2 s):=rfl
theorem D4{ws:List Nat}{len:Nat}{ex:Bool}{s:LS}{k:D→LS→Rs}(hl:ws.length=len)(hlen:len≤9223372036854775807):∀(n f:Nat),n≤len→n<f→
 lp (λ(_ _:D)(_:LS)=>none) (AN k) f (.tree (c64 ws) len ex) (.i .i64 (.ofNat n)) s=k (.tree (c64 (ws.take (tl ws n))) (tl ws n) (cnd ex (Nat.beq (tl ws n) len) false)) s
 |0,f,hn,hf=>by
  obtain⟨f,rfl⟩:∃q,f=q+1:=⟨f-1,by omega⟩
  rw[eO];unfold AN;simp only[nj,fC (bS 0),wh,gE,eM,wf (ex:=ex) (a9 len) (show(c64 ws).length=len by rw[fO,hl])];rfl
 |n+1,f,hn,hf=>by
  obtain⟨f,rfl⟩:∃q,f=q+1:=⟨f-1,by omega⟩
  have hlt:n<ws.length:=by omega
  have hw:=aB hlt;rw[eO];unfold AN;have hm:n+1≤jX .i64:=by show n+1≤9223372036854775807;omega
  simp only[nj,ep (z1y n),tJ,oM (show 1≤n+1 by omega) hm,a7,AZ (show n<len by omega) (kP hw),EG,pb,fe];by_cases h0:ws[n]=0
  ·rw[h0,show Nat.beq 0 0=true from rfl,eP];have ht:tl ws (n+1)=tl ws n:=by
    show(if ws[n]?=some 0 then tl ws n else n+1)=_;rw[hw,h0,aC rfl]
   rw[ht];exact D4 hl hlen n f (by omega) (by omega)
  ·rw[gG h0,eM,wf hn (show(c64 ws).length=len by rw[fO,hl])];have ht:tl ws (n+1)=n+1:=by
    show(if ws[n]?=some 0 then tl ws n else n+1)=_;rw[hw,aE (λe=>h0 (ck e))]
   rw[ht];unfold c64;rw[z0Y]
theorem D3{ws:List Nat}{len φ:Nat}{ex:Bool}{s:LS}{k:D→LS→Rs}(hl:ws.length=len)(hlen:len≤9223372036854775807)(hφ:len<φ):
 fG φ [.tree (c64 ws) len ex] s k=k (.tree (c64 (ws.take (tl ws len))) (tl ws len) (cnd ex (Nat.beq (tl ws len) len) false)) s:=by
 rw[y3,pI];exact D4 hl hlen len φ (aD _) hφ
def n8(w:Nat):D:=.i .u8 (.ofNat w)
def c8(bs:List Nat):List D:=bs.map n8
theorem Fr(ws:List Nat):(c8 ws).length=ws.length:=aI _
theorem XT{ws:List Nat}{i w:Nat}(h:ws[i]?=some w):(c8 ws)[i]?=some (.i .u8 (.ofNat w)):=by
 unfold c8;rw[au,h];rfl
theorem XS(ws:List Nat)(i w:Nat):(c8 ws).set i (.i .u8 (.ofNat w))=c8 (ws.set i w):=by
 unfold c8;rw[dr];rfl
def be:Nat→Nat→List Nat
 |0,_=>[]
 |t+1,v=>v/256^t%256::be t v
theorem Fw:∀t v,(be t v).length=t
 |0,_=>rfl
 |t+1,v=>by show(be t v).length+1=t+1;rw[Fw t v]
theorem Lj:∀(i t v:Nat),i≤t→(be t v).drop i=be (t-i) v
 |0,t,v,_=>rfl
 |i+1,0,v,h=>by omega
 |i+1,t+1,v,h=>by
  show(be t v).drop i=_;rw[Lj i t v (by omega),show t+1-(i+1)=t-i by omega]
theorem KH(c:Nat)(l:List Nat):∀m,(List.replicate (m+1) 0++l).set m c=List.replicate m 0++c::l
 |0=>rfl
 |m+1=>by
  show 0::(List.replicate (m+1) 0++l).set m c=0::(List.replicate m 0++c::l);rw[KH c l m]
theorem Gz:∀(t v:Nat),ef ((be t v).map UInt8.ofNat) 0=v%256^t
 |0,v=>by rw[ce,Nat.mod_one];rfl
 |t+1,v=>by
  show ef ((be t v).map UInt8.ofNat) (0*256+(UInt8.ofNat (v/256^t%256)).toNat)=_;have:(UInt8.ofNat (v/256^t%256)).toNat=v/256^t%256:=by simp
  rw[this,lW,aI,Fw,Gz t v,bP,aV,Nat.mod_pow_succ,aK];omega
theorem AK:∀(bs:List Nat),wq (c8 bs)=some (bs.map UInt8.ofNat)
 |[]=>rfl
 |b::bs=>by
  show(match wq (c8 bs)with
   |some l=>some (UInt8.ofNat (Int.ofNat b).toNat::l)
   |none=>none)=_
  rw[AK bs];rfl
theorem Mu{cs:List D}{len i:Nat}{k:D→LS→Rs}(hi:i<len):kg 1 (st1 cs) (.sl 0 0 len len 1 true) (some (.i .i64 (.ofNat i))) none none k=k (.sl 0 i (len-i) (len-i) 1 true) (st1 cs):=by
 show(jQ (st1 cs) 0 λb=>cnd (lv b.st) (cnd (Nat.ble len len) (cnd (Nat.ble len len) (cnd (Nat.ble i len) (cnd (Nat.beq 1 1) (mw true λex=>cnd (Nat.blt i len) (frc (Nat.add 0 (Nat.mul i 1)) λoff=>frc (Nat.sub len i) λl=>frc (Nat.sub len i) λcm=>k (.sl 0 off l cm 1 ex) (st1 cs)) (k (.tree [] 0 ex) (st1 cs))) none) none) none) none) none)=_;rw[oe,ua];show cnd (Nat.ble len len) (cnd (Nat.ble len len) (cnd (Nat.ble i len) (cnd (Nat.beq 1 1) (mw true λex=>cnd (Nat.blt i len) (frc (Nat.add 0 (Nat.mul i 1)) λoff=>frc (Nat.sub len i) λl=>frc (Nat.sub len i) λcm=>k (.sl 0 off l cm 1 ex) (st1 cs)) (k (.tree [] 0 ex) (st1 cs))) none) none) none) none=_;rw[aF (aD len),aF (dN hi),ep hi];simp only[eL,jC,fA,ej];have:Nat.add 0 (Nat.mul i 1)=i:=by show 0+i*1=i;omega
 rw[this];rfl
theorem QJ{bs:List Nat}{i len c:Nat}{r:List Nat}{K:D→LS→Rs}(hl:bs.length=len)(hd:bs.drop i=c::r)(hc:c<256)(hne:c≠0):
 kS (.b2s (.c (.sl 0 i (len-i) (len-i) 1 true))) (st1 (c8 bs)) K=K (.n (ef ((c::r).map UInt8.ofNat) 0)) (st1 (c8 bs)):=by
 have hcut:cut i ((len-i)*1) (c8 bs)=some (c8 (c::r)):=by
  unfold cut;have h1:(c8 bs).drop i=c8 (c::r):=by
   unfold c8;rw[←List.map_drop,hd]
  have h2:(c::r).length=len-i:=by rw[←hd,cp,hl]
  rw[h1,ai,aM (by rw[Fr,h2];exact aD _)];rw[aC (by rw[Fr,h2])]
 have he:evA (st1 (c8 bs)).nx cv (st1 (c8 bs)).get (.b2s (.c (.sl 0 i (len-i) (len-i) 1 true)))=some (.n (ef ((c::r).map UInt8.ofNat) 0),[]):=by
  simp only[evA,cv,cellsOf,ua,Stt.live,cI,bj,bz,bf,hcut,AK];have hb:(UInt8.ofNat c).toNat=c:=by simp;omega
  show some (cond (Nat.beq (UInt8.ofNat c).toNat 0) _ _,_)=_;rw[hb,gG hne];rfl
 unfold kS sA;rw[he];show zG _ _=_;rw[rj]
def OC(x10:D):(D→D→LS→Rs)→D→D→LS→Rs:=(λ(q37:D→D→LS→Rs)(x38 x39:D)(s:LS)=>
 eK 1 s x38 x39 λx40 s=>
 eJ s x40 λx41 s=>
 gx x41 (.i .u8 (.ofNat 0)) λx42=>
 eQ x42
(ee x39 (.i .i64 (.ofNat 1)) λx43=>
 q37 x38 x43 s)
(kg 1 s x38 (some x39) none none λx44 s=>
 kS (.b2s (.c x44)) s λx45 s=>
 eX false s x45 some))
def Tx(φ:Nat)(q9:D→D→D→D→LS→Rs):(D→D→D→D→D→D→D→LS→Rs)→D→D→D→D→D→D→D→LS→Rs:=(λ(q17:D→D→D→D→D→D→D→LS→Rs)(x18 x19 x20 x21 x22 x23 x24:D)(s:LS)=>
 fN x24 (.i .i64 (.ofNat 8)) λx25=>
 eQ x25
(ek x18 s λx26 s=>
 et x26 (.i .i64 (.ofNat 1)) λx27=>
 kv (.i .i64 (.ofNat 8)) x19 λx28=>
 et x27 x28 λx29=>
 et x29 x24 λx30=>
 kv (.i .i64 (.ofNat 8)) x24 λx31=>
 o5 x20 x31 λx32=>
 lP .u8 x32 s λx33 s=>
 eK 1 s x18 x30 λx34 s=>
 eU 1 s x34 x33 λ_ s=>
 ee x24 (.i .i64 (.ofNat 1)) λx35=>
 q17 x18 x19 x20 x21 x22 x23 x35 s)
(ee x23 (.i .i64 (.ofNat 1)) λx36=>
 q9 x18 x21 x22 x36 s))
def PT(φ:Nat):(D→D→D→D→LS→Rs)→D→D→D→D→LS→Rs:=(λ(q9:D→D→D→D→LS→Rs)(x10 x11 x12 x13:D)(s:LS)=>
 fN x13 x12 λx14=>
 eQ x14
(eK 1 s x11 x13 λx15 s=>
 eJ s x15 λx16 s=>
 lp (λ(_ _ _ _ _ _ _:D)(_:LS)=>none) (Tx φ q9) φ x10 x13 x16 x11 x12 x13 (.i .i64 (.ofNat 0)) s)
(lp (λ(_ _:D)(_:LS)=>none) (OC x10) φ x10 (.i .i64 (.ofNat 0)) s))
theorem Sz(φ:Nat)(a:D):uF φ [a]=(fG φ [a] s0 λx2 s=>
 ek x2 s λx3 s=>
 gx x3 (.i .i64 (.ofNat 0)) λx4=>
 eQ x4
 (eX false s (.n 0) some)
 (ek x2 s λx5 s=>
 kv (.i .i64 (.ofNat 8)) x5 λx6=>
 mK 1 1 [(.i .u8 (.ofNat 0))] s x6 x6 λx7 s=>
 ek x2 s λx8 s=>
 lp (λ(_ _ _ _:D)(_:LS)=>none) (PT φ) φ x7 x2 x8 (.i .i64 (.ofNat 0)) s)):=rfl
theorem Dc{L v:Nat}{x:D}(hL:L≤1000000000000)(hv:0<v):∀(j i f:Nat),i+j=L→j<f→v<256^j→
 lp (λ(_ _:D)(_:LS)=>none) (OC x) f (.sl 0 0 L L 1 true) (.i .i64 (.ofNat i)) (st1 (c8 (be L v)))=some (.n v)
 |0,i,f,hi,hf,hlt=>by
  rw[ce]at hlt;omega
 |j+1,i,f,hi,hf,hlt=>by
  obtain⟨f,rfl⟩:∃q,f=q+1:=⟨f-1,by omega⟩
  have hd:(be L v).drop i=v/256^j%256::be j v:=by
   rw[Lj i L v (by omega),show L-i=j+1 by omega];rfl
  have hget:(be L v)[i]?=some (v/256^j%256):=by
   have h1:((be L v).drop i)[0]?=some (v/256^j%256):=by rw[hd];rfl
   rw[bx]at h1;simpa using h1
  have hmod:v/256^j%256=v/256^j:=bJ (d8 (by rw[av]at hlt;exact hlt));rw[eO];unfold OC;simp only[ng (show i<L by omega),aV,sY (XT hget),pb];by_cases h0:v/256^j%256=0
  ·rw[h0,show Nat.beq 0 0=true from rfl,eP,nk (show i+1≤jX .i64 from(by show i+1≤9223372036854775807;omega))];refine Dc (x:=x) hL hv j (i+1) f (by omega) (by omega) ?_;rw[hmod]at h0;rcases az v (256^j)with h|h
   ·exact h
   ·have:=z0T h (bR (show 0<256 by decide));omega
  ·rw[gG h0,eM];simp only[Mu (show i<L by omega),QJ (Fw L v) hd (bg _ (by decide)) h0];have he:ef ((v/256^j%256::be j v).map UInt8.ofNat) 0=v:=by
    have:=Gz (j+1) v;rw[bJ hlt]at this;exact this
   rw[he];rfl
theorem U8{v i s x:Nat}(hs:s<8)(hx:x=v/B64^i%B64):x/2^(8*s)%256=v/256^(8*i+s)%256:=by
 have e1:256^(8*i+s)=B64^i*2^(8*s):=by
  rw[TE,BQ,←bY];congr 1;omega
 have e2:B64=2^(8*s)*(256*2^(56-8*s)):=by
  have h1:(256:Nat)=2^8:=rfl;have h2:B64=2^64:=rfl;rw[h1,←bY,←bY,h2];congr 1;omega
 rw[e1,←Nat.div_div_eq_div_mul,hx,e2,Nat.mod_mul_right_div_self,Nat.mod_mul_right_mod]
theorem H7{ws:List Nat}{t L φ i x v:Nat}{ex:Bool}(q:D→D→D→D→LS→Rs)(hL:L=8*t)(hLs:L≤1000000000000)(hi:i<t)(hv:v=val ws)(hx:x=v/B64^i%B64):∀(j s f:Nat),s+j=8→j<f→
 lp (λ(_ _ _ _ _ _ _:D)(_:LS)=>none) (Tx φ q) f (.sl 0 0 L L 1 true) (.i .i64 (.ofNat i)) (.i .u64 (.ofNat x)) (.tree (c64 ws) t ex) (.i .i64 (.ofNat t)) (.i .i64 (.ofNat i)) (.i .i64 (.ofNat s)) (st1 (c8 (List.replicate (L-(8*i+s)) 0++be (8*i+s) v)))
  =q (.sl 0 0 L L 1 true) (.tree (c64 ws) t ex) (.i .i64 (.ofNat t)) (.i .i64 (.ofNat (i+1))) (st1 (c8 (List.replicate (L-8*(i+1)) 0++be (8*(i+1)) v)))
 |0,s,f,hs,hf=>by
  obtain⟨f,rfl⟩:∃q,f=q+1:=⟨f-1,by omega⟩
  have:s=8:=by omega
  subst this;rw[eO];unfold Tx;simp only[ji,show Nat.blt 8 8=false from rfl,eM,nk (show i+1≤jX .i64 from(by show i+1≤9223372036854775807;omega))];rw[show 8*i+8=8*(i+1) by omega]
 |j+1,s,f,hs,hf=>by
  obtain⟨f,rfl⟩:∃q,f=q+1:=⟨f-1,by omega⟩
  have hs8:s<8:=by omega
  rw[eO];unfold Tx;have k1:8*i≤jX .i64:=by show 8*i≤9223372036854775807;omega
  have k2:L≤jX .i64:=by show L≤9223372036854775807;omega
  have k3:L-1≤jX .i64:=by show L-1≤9223372036854775807;omega
  have k4:L-1-8*i≤jX .i64:=by show L-1-8*i≤9223372036854775807;omega
  have k5:8*s≤jX .i64:=by show 8*s≤9223372036854775807;omega
  have k6:s+1≤jX .i64:=by show s+1≤9223372036854775807;omega
  have hidx:L-1-8*i-s<L:=by omega
  have hlen:L-1-8*i-s<(c8 (List.replicate (L-(8*i+s)) 0++be (8*i+s) v)).length:=by
   rw[Fr,bF,du,Fw];omega
  simp only[ji,ep hs8,eP,qk,oM (show 1≤L by omega) k2,yE k1,oM (show 8*i≤L-1 by omega) k3,oM (show s≤L-1-8*i by omega) k4,yE k5,
   uB (show 8*s≤64 by omega),CG,ng hidx,aV,uP hlen,XS,nk k6]
  have hset:(List.replicate (L-(8*i+s)) 0++be (8*i+s) v).set (L-1-8*i-s) (x/2^(8*s)%256)=List.replicate (L-(8*i+(s+1))) 0++be (8*i+(s+1)) v:=by
   rw[U8 hs8 hx,show L-(8*i+s)=(L-1-8*i-s)+1 by omega,KH,show L-1-8*i-s=L-(8*i+(s+1)) by omega];rfl
  rw[hset];exact H7 (φ:=φ) q hL hLs hi hv hx j (s+1) f (by omega) (by omega)
theorem Gr{ws:List Nat}{t L φ v:Nat}{ex:Bool}(hsm:kx ws)(hlw:ws.length=t)(hL:L=8*t)(hLs:L≤1000000000000)(hv:v=val ws)(hv0:0<v)(hφ:L+8<φ):∀(j i f:Nat),i+j=t→j<f→
 lp (λ(_ _ _ _:D)(_:LS)=>none) (PT φ) f (.sl 0 0 L L 1 true) (.tree (c64 ws) t ex) (.i .i64 (.ofNat t)) (.i .i64 (.ofNat i)) (st1 (c8 (List.replicate (L-8*i) 0++be (8*i) v)))=some (.n v)
 |0,i,f,hi,hf=>by
  obtain⟨f,rfl⟩:∃q,f=q+1:=⟨f-1,by omega⟩
  have:i=t:=by omega
  subst this;rw[eO];unfold PT;simp only[ji,fC (bS i),eM];have hb:List.replicate (L-8*i) 0++be (8*i) v=be L v:=by
   rw[hL,cC];rfl
  rw[hb];refine Dc hLs hv0 L 0 φ (by omega) (by omega) ?_;have:=xj hsm;rw[hlw,←hv]at this;rw[hL,dm];exact this
 |j+1,i,f,hi,hf=>by
  obtain⟨f,rfl⟩:∃q,f=q+1:=⟨f-1,by omega⟩
  have hit:i<t:=by omega
  have hlt:i<ws.length:=by omega
  have hw:=aB hlt;rw[eO];unfold PT;simp only[ji,ep hit,eP,AZ hit (kP hw),EG];have h1:=H7 (φ:=φ) (ex:=ex) (λa b c d s=>lp (λ(_ _ _ _:D)(_:LS)=>none) (PT φ) f a b c d s) hL hLs hit hv (x:=ws[i]) (by rw[hv];exact xC hsm hw) 8 0 φ (by omega) (by omega);rw[bH]at h1;refine Eq.trans h1 ?_;exact Gr hsm hlw hL hLs hv hv0 hφ j (i+1) f (by omega) (by omega)
theorem PR{ws:List Nat}{len φ:Nat}{ex:Bool}(hsm:kx ws)(hl:ws.length=len)(hs:len≤100000000000)(hφ:8*len+8<φ):uF φ [.tree (c64 ws) len ex]=some (.n (val ws)):=by
 rw[Sz,D3 hl (by omega) (by omega)];have htl:=D5 ws len;have hval:val (ws.take (tl ws len))=val ws:=by
  rw[IP ws len (by omega),←hl,c7]
 generalize ht:tl ws len=t at*;generalize hws:ws.take t=us at*;have hus:us.length=t:=by rw[←hws,ah];omega
 have hsu:kx us:=λw hw=>hsm w (bw (by rw[hws];exact hw));simp only[pI,pb];by_cases h0:t=0
 ·subst h0;rw[show Nat.beq 0 0=true from rfl,eP];have:us=[]:=z0N.1 hus;rw[this]at hval;have hz:val ws=0:=hval.symm;rw[hz];rfl
 ·rw[gG h0,eM];by_cases hv0:0<val ws
  ·have k1:8*t≤jX .i64:=by show 8*t≤9223372036854775807;omega
   rw[yE k1,yz (by omega) (by omega)];have hr:List.replicate (8*t) (D.i .u8 (.ofNat 0))=c8 (List.replicate (8*t-8*0) 0++be (8*0) (val ws)):=by
    show _=c8 (List.replicate (8*t) 0++[]);unfold c8;rw[bq,List.map_replicate];rfl
   rw[hr];exact Gr hsu hus rfl (by omega) hval.symm hv0 (by omega) t 0 φ (by omega) (by omega)
  ·exfalso;obtain⟨t,rfl⟩:∃q,t=q+1:=⟨t-1,by omega⟩
   have hne:∀(n:Nat),tl ws n=t+1→ws[t]?≠some 0:=by
    intro n
    induction n with
    |zero=>intro h;simp[tl]at h
    |succ n ih=>
     intro h;unfold tl at h;split at h
     ·exact ih h
     ·rename_i h1;have:n=t:=by omega
      rw[←this];exact h1
   have hn:=hne len ht;have hlt:t<us.length:=by omega
   have hg:=aB hlt;have hv:=xC hsu hg;rw[hval,show val ws=0 by omega,Nat.zero_div,Nat.zero_mod]at hv;refine hn ?_;have:(ws.take (t+1))[t]?=some us[t]:=by rw[hws];exact hg
   rw[z0I (by omega)]at this;rw[this,hv]
theorem vh{m:Nat}(h:0<m):(eo m).length=Nat.log2 m/8+1:=by
 obtain⟨h1,h2⟩:=tI h;have h3:m<256^(eo m).length:=by
  have hb:∀(l:List UInt8),ef l 0<256^l.length:=by
   intro l
   induction l with
   |nil=>simp[ef]
   |cons c l ih=>
    show ef l (0*256+c.toNat)<256^(l.length+1);rw[lW,av];have hc:c.toNat<256:=c.toNat_lt;have h4:(c.toNat+1)*256^l.length≤256*256^l.length:=aL _ hc;rw[aP,bE]at h4;rw[bP,aV,aK (256^l.length)];omega
  have:=hb (eo m);rwa[mc]at this
 have hne:m≠0:=by omega
 rw[TE]at h1 h3;have a1:=(z0U hne).2 h1;have a2:=(z1i hne).2 h3;omega
def dgK(n:Nat):Nat→(List D→Rs)→Rs:=
 Nat.rec (motive:=λ_=>Nat→(List D→Rs)→Rs) (λ_ k=>k []) (λ_ ih m k=>frc (Nat.mod m B64) λw=>frc (Nat.div m B64) λm=>ih m λr=>k (.i .u64 (.ofNat w)::r)) n
theorem Jf:∀(n m:Nat)(k:List D→Rs),dgK n m k=k (c64 (dg n m))
 |0,m,k=>rfl
 |n+1,m,k=>by
  show frc (Nat.mod m B64) (λw=>frc (Nat.div m B64) λm=>dgK n m λr=>k (.i .u64 (.ofNat w)::r))=_;rw[fA,fA,Jf n];rfl
def asM(d:D):Option Nat:=D.rec (motive_1:=λ_=>Option Nat) (motive_2:=λ_=>PUnit.{1}) none (λ_ _=>none) (λ_=>none) (λ_=>none) (λm=>some m) none none (λ_ _ _ _=>none) (λ_ _ _ _=>none) (λ_ _ _ _ _ _=>none) (λ_ _=>none) (λ_ _=>none) (λ_ _=>none) (λ_ _=>none) (λ_ _ _=>none) ⟨⟩ (λ_ _ _ _=>⟨⟩) d
def oL(d:D)(k:Nat→Rs):Rs:=ob (asM d) k
theorem gk{d:D}{k:Nat→Rs}{r:D}(h:oL d k=some r):∃m,d=.n m∧k m=some r:=by
 cases d with
 |n m=>exact⟨m,rfl,h⟩
 |_=>cases h
def qH(as:List D):Option D:=
 u1 as λa r=>u0 r (oL a λm=>cnd (Nat.beq m 0) (some (.tree [] 0 true)) (cnd (Nat.ble (Nat.log2 m) 1000000000) (frc (Nat.succ (Nat.div (Nat.log2 m) 64)) λW=>dgK W m λds=>some (.own ds W 1)) none))
theorem IL:qd 5 [.n 0]=some (.tree [] 0 true):=rfl
theorem jR{as:List D}{k:D→List D→Rs}{r:D}(h:u1 as k=some r):∃a as',as=a::as'∧k a as'=some r:=by
 cases as with
 |nil=>cases h
 |cons a as'=>exact⟨a,as',rfl,h⟩
theorem oB{as:List D}{x:Rs}{r:D}(h:u0 as x=some r):as=[]∧x=some r:=by
 cases as with
 |nil=>exact⟨rfl,h⟩
 |cons a as'=>cases h
theorem IM{as:List D}{r:D}(h:qH as=some r):∃φ,qd φ as=some r:=by
 obtain⟨a,as',rfl,h⟩:=jR h;obtain⟨rfl,h⟩:=oB h;obtain⟨m,rfl,h⟩:=gk h
 ·by_cases hm:m=0
  ·subst hm;have h:some (D.tree [] 0 true)=some r:=h;exact⟨5,by rw[IL,h]⟩
  ·have h:cnd (Nat.beq m 0) (some (.tree [] 0 true)) (cnd (Nat.ble (Nat.log2 m) 1000000000) (frc (Nat.succ (Nat.div (Nat.log2 m) 64)) λW=>dgK W m λds=>some (.own ds W 1)) none)=some r:=h;rw[gG hm,e9]at h;obtain⟨h1,h2⟩:=fW h;have h1:=aa h1;rw[fA,Jf]at h2;have hl:=vh (show 0<m by omega);have hW:Nat.succ (Nat.div (Nat.log2 m) 64)=((eo m).length+7)/8:=by
    show Nat.log2 m/64+1=_;rw[hl];omega
   refine⟨(eo m).length+1,?_⟩;rw[MA (show 0<m by omega) rfl hW (by omega) (cK _)];exact h2
def MC(cs:List D):(Nat→Nat→Rs)→Rs:=
 List.rec (motive:=λ_=>(Nat→Nat→Rs)→Rs) (λk=>k 0 0) (λd _ ih k=>Ab d λw=>cnd (Nat.blt w B64) (ih λv n=>frc (Nat.add w (Nat.mul B64 v)) λv=>frc (Nat.succ n) λn=>k v n) none) cs
theorem D2{r:D}:∀{cs:List D}{k:Nat→Nat→Rs},MC cs k=some r→∃ws,cs=c64 ws∧kx ws∧k (val ws) ws.length=some r
 |[],k,h=>⟨[],rfl,λw hw=>(by cases hw),h⟩
 |d::cs,k,h=>by
  have h:(Ab d λw=>cnd (Nat.blt w B64) (MC cs λv n=>frc (Nat.add w (Nat.mul B64 v)) λv=>frc (Nat.succ n) λn=>k v n) none)=some r:=h;obtain⟨w,rfl,h1⟩:=pg h;obtain⟨h2,h3⟩:=fW h1;obtain⟨ws,rfl,h4,h5⟩:=D2 h3;rw[fA,fA]at h5;have h2:w<B64:=by simpa[dy]using h2
  refine⟨w::ws,rfl,λx hx=>?_,h5⟩;rcases bI.1 hx with rfl|hx
  ·exact h2
  ·exact h4 x hx
def sH(as:List D):Option D:=
 u1 as λa r=>u0 r (FL a (λ_ _ _ _ _ _=>none) (λcs len _=>MC cs λv n=>cnd (Nat.beq n len) (cnd (Nat.ble len 1000000000) (some (.n v)) none) none) none)
theorem M7{as:List D}{r:D}(h:sH as=some r):∃φ,uF φ as=some r:=by
 obtain⟨a,as',rfl,h⟩:=jR h;obtain⟨rfl,h⟩:=oB h;rcases rG h with⟨l,off,len,cm,z,ex,rfl,h1⟩|⟨cs,len,ex,rfl,h1⟩
 ·cases h1
 ·obtain⟨ws,rfl,h2,h3⟩:=D2 h1;obtain⟨h4,h5⟩:=fW h3;obtain⟨h6,h7⟩:=fW h5;have h4:=aT h4;have h6:=aa h6;exact⟨8*len+9,by rw[PR h2 h4 (by omega) (by omega)];exact h7⟩
end
end Go.Proofs.Ev
namespace Go.Proofs.Ev
variable {P:Program} {im:Nat→Option Nat}
def Ly(P:Program)(im:Nat→Option Nat)(fn:Func)(c:Code)(e:Env):Prop:=
 ∃e' σ' d,run .nil 20 (.code (j6 P im fn.ntmps c) e Sto.empty)=some (.code .ret e' σ')∧qI e' σ' (fn.results.toList.map (Al P))=some d∧nu false σ'.get fv d=some (.tree [] 0 true)
theorem Hv(hm:P.follows .mixedOrders=true){F:FuncId}{fn:Func}(hf:P.funcs[F]?=some fn){c0 cT cB:Code}{id:Nat}{ops:Array Oper}{o0 o1:Oper}{t el yt:TypeId}
 (hb:fn.body=some (.seq c0 (.seq (.seq (.region id ops false) (.cond (.tmp 4) cT .skip)) cB)))
 (hops:ops.toList=[o0,o1]) (g0:o0.guard=none) (g1:o1.guard=none) (d0:o0.dst=some 3) (d1:o1.dst=some 4) (p0:o0.op=.move (.tmp 0))
 (p1:o1.op=.binOp .eql t (.tmp 3) (.const (.slice none 0 0)) yt) (hu:P.underlying t=some (.slice el)) (hnt:5≤fn.ntmps%uf)
 (hok:fn.results.toList.all (yg P)=true) {ex:Bool} {e0:Env}
 (r0:run .nil 20 (.code (j6 P im fn.ntmps c0) (rM .nil 0 [.tree [] 0 ex]) Sto.empty)=some (.code .nrm e0 Sto.empty)) (he0:e0.get 0=some (.tree [] 0 ex))
 (rT:Ly P im fn cT ((e0.set 3 (.tree [] 0 ex)).set 4 (.b true))) (rB:Ly P im fn cB ((e0.set 3 (.tree [] 0 ex)).set 4 (.b false))):
 GC P im F [.tree [] 0 ex] (.tree [] 0 true):=by
 intro vs w okp hT hbk;have hC:zY P im .nil 20:=(Dh hm ⟨λF f en _ h=>(by cases h)⟩ 20).1;refine calls_of_wp hf hb ?_;generalize hQ:bodyPost P fn (λe w'=>match e with
  |.returned v=>RR im okp w w' (.tree [] 0 true) v
  |.outgrown=>False
  |.panicked _=>False)=Q
 have fin:∀(c:Code)(e:Env),Ly P im fn c e→∀(a:Act)(w1:World),St im fn.ntmps okp w.heap.size Sto.empty.get (λ_=>(0,0)) w okp e Sto.empty a w1→∀Q':Exit→Act→World→Prop,(∀a w,Q .ret a w→Q' .ret a w)→c.wp P Q' a w1:=by
  intro c e ⟨e',σ',d,h1,h2,h3⟩ a w1 hst Q' hQ';refine hC _ _ _ _ _ _ _ _ (C5 P im _ c) h1 okp w.heap.size Sto.empty.get (λ_=>(0,0)) w okp a w1 Q' hst ?_;intro a' w' ⟨q1,q2,q3,μ,ok,R,hE,hS⟩;refine hQ' a' w' ?_;obtain⟨v,v1,v2⟩:=wU R hE rfl hok h2;have hq:=LN R (λb hb=>hS.low b hb) hS.sm h3 v2;rw[←hQ];exact⟨q2,v,v1,hq⟩
 have hst0:St im fn.ntmps okp w.heap.size Sto.empty.get (λ_=>(0,0)) w okp (rM .nil 0 [.tree [] 0 ex]) Sto.empty {tmps:=vs.toArray++Array.replicate (fn.ntmps-vs.toArray.size) undef,defers:=[]} w:=
  ⟨λl _=>rfl,rfl,bT (z1t _ _) (by simp;omega),λ_=>(0,0),okp,Rel.empty hbk _,px.args (qz _ _ hT) _,.refl ..⟩
 refine wp_seq (hC _ _ _ _ _ _ _ _ (C5 P im _ c0) r0 okp w.heap.size Sto.empty.get (λ_=>(0,0)) w okp _ w _ hst0 ?_);intro a1 w1 ⟨s1,s2,s3,μ,ok,R,hE,hS⟩;refine wp_seq (wp_seq (wp_region_list ?_));rw[hops];have wanted:∀(o:Oper)(a:Act),o.guard=none→Region.wanted o (yielded ops a.tmps)=true:=by
  intro o a ho;unfold Region.wanted;rw[ho]
 unfold wpList;rw[aC (wanted o0 a1 g0)];refine .inl ?_;have hA0:evA Sto.empty.nx (X.ev e0) Sto.empty.get (cOp P im o0.op)=some (.tree [] 0 ex,[]):=by
  rw[p0];simp only[cOp,evA,cX,X.ev,he0]
 refine(s6 R hE _ _ hA0 (λj hj=>by simp at hj)).wp (λv w2 ⟨μ2,ok2,R2,n3,hv⟩=>?_);rw[d0];have hE2:px im Sto.empty.get μ2 w2 ok2 (e0.set 3 (.tree [] 0 ex)) (a1.put (some 3) v).tmps:=px.put (dst:=some 3) (e:=e0) (hE.step n3) (λt ht=>(by cases ht;omega)) hv;unfold wpList;rw[aC (wanted o1 _ g1)];refine .inl ?_;have hx:VR im Sto.empty.get μ2 w2 ok2 (.tree [] 0 ex) ((a1.put (some 3) v).eval (.tmp 3)):=by
  have:=hE2 3;have h3:X.ev (e0.set 3 (.tree [] 0 ex)) (.t 3)=.tree [] 0 ex:=by
   show(match (e0.set 3 (.tree [] 0 ex)).get 3 with|some d=>d|none=>.u)=_;rw[Tr.get_set,aC rfl]
  rw[h3]at this;exact this
 simp only[VR,TR]at hx;obtain⟨p,cap,hv3,_,_,_⟩:=hx;have hdone:wI im Sto.empty.get μ2 w2 ok2 okp w.heap.size (rm Sto.empty.get Sto.empty.nx []) (.b p.isNone) ((execOp (a1.put (some 3) v).eval o1).run P w2):=by
  have ey:(a1.put (some 3) v).eval (.const (.slice none 0 0))=.slice none 0 0:=rfl;have hg:(eqGuard .eql t (.tmp 3) (.const (.slice none 0 0)) (.slice p 0 cap) (.slice none 0 0)).run P w2=.ok () w2:=by simp[eqGuard]
  have h1:=run_equal_slice_nil (P:=P) w2 t el p 0 cap hu;refine gM (nx:=Sto.empty.nx) (v:=.bool p.isNone) R2 (s:=do eqGuard .eql t (.tmp 3) (.const (.slice none 0 0)) ((a1.put (some 3) v).eval (.tmp 3)) ((a1.put (some 3) v).eval (.const (.slice none 0 0)));binOp .eql t ((a1.put (some 3) v).eval (.tmp 3)) ((a1.put (some 3) v).eval (.const (.slice none 0 0)))) (by simp only[execOp,p1]) ?_ (by simp[VR]);rw[hv3,ey];simp only[Sem.run_bind,hg,Result.andThen_ok];simp[binOp,h1]
 refine hdone.wp (λv4 w3 ⟨μ3,ok3,R3,n4,hv4⟩=>?_);rw[d1];unfold wpList;have hE3:px im Sto.empty.get μ3 w3 ok3 ((e0.set 3 (.tree [] 0 ex)).set 4 (.b p.isNone)) ((a1.put (some 3) v).put (some 4) v4).tmps:=px.put (dst:=some 4) (e:=e0.set 3 (.tree [] 0 ex)) (hE2.step n4) (λt ht=>(by cases ht;rw[oq];omega)) hv4;have hst3:St im fn.ntmps okp w.heap.size Sto.empty.get (λ_=>(0,0)) w okp ((e0.set 3 (.tree [] 0 ex)).set 4 (.b p.isNone)) Sto.empty ((a1.put (some 3) v).put (some 4) v4) w3:=
  ⟨s1,by rw[mb,mb];exact s2,by rw[oq,oq];exact s3,μ3,ok3,R3,hE3,(hS.trans n3).trans n4⟩
 have h4:((a1.put (some 3) v).put (some 4) v4).eval (.tmp 4)=.bool p.isNone:=by
  have:=hE3 4;have h5:X.ev ((e0.set 3 (.tree [] 0 ex)).set 4 (.b p.isNone)) (.t 4)=.b p.isNone:=by
   show(match ((e0.set 3 (.tree [] 0 ex)).set 4 (.b p.isNone)).get 4 with|some d=>d|none=>.u)=_;rw[Tr.get_set,aC rfl]
  rw[h5]at this;simp only[VR]at this;exact this
 cases hp:p.isNone with
 |true=>
  rw[hp]at h4 hst3;exact wp_cond_true h4 (fin cT _ rT _ _ hst3 _ (λ_ _ h=>h))
 |false=>
  rw[hp]at h4 hst3;exact wp_cond_false h4 (wp_skip (fin cB _ rB _ _ hst3 _ (λ_ _ h=>h)))
def bod(fn:Func):Code:=match fn.body with
 |some c=>c
 |none=>.skip
def OE:Code→Code
 |.seq a _=>a
 |c=>c
def IX:Code→Code
 |.seq _ b=>b
 |c=>c
def Yg:Code→Code
 |.cond _ a _=>a
 |c=>c
def Vu:Code→Array Oper
 |.region _ ops _=>ops
 |_=> #[]
def ZM:Code→Nat
 |.region id _ _=>id
 |_=>0
def clR(fn:Func):Code:=OE (OE (IX (bod fn)))
def clC(fn:Func):Code:=IX (OE (IX (bod fn)))
def clO(fn:Func)(i:Nat):Oper:=((Vu (clR fn)).toList[i]?).getD default
def clT(fn:Func):TypeId×TypeId:=match (clO fn 1).op with
 |.binOp _ t _ _ yt=>(t,yt)
 |_=>(0,0)
def clE(P:Program)(fn:Func):TypeId:=match P.underlying (clT fn).1 with
 |some (.slice el)=>el
 |_=>0
def cl0(ex:Bool):Env:=Tr.set (rM .nil 0 [.tree [] 0 ex]) 2 (.tree [] 0 true)
def UR(P:Program)(im:Nat→Option Nat)(fn:Func)(c:Code)(e:Env):Option D:=
 match run .nil 20 (.code (j6 P im fn.ntmps c) e Sto.empty)with
 |some (.code x e' σ')=>match x with
  |.ret=>match qI e' σ' (fn.results.toList.map (Al P))with
   |some d=>nu false σ'.get fv d
   |none=>none
  |_=>none
 |_=>none
theorem EU{fn:Func}{c:Code}{e:Env}(h:UR P im fn c e=some (.tree [] 0 true)):Ly P im fn c e:=by
 unfold UR at h;split at h
 ·rename_i x e' σ' hr;split at h
  ·split at h
   ·rename_i d hd;exact⟨e',σ',d,hr,hd,h⟩
   ·cases h
  ·cases h
 ·cases h
theorem uU(hm:P.follows .mixedOrders=true){F:FuncId}{fn:Func}(hf:P.funcs[F]?=some fn)
 (hb:fn.body=some (.seq (OE (bod fn)) (.seq (.seq (.region (ZM (clR fn)) (Vu (clR fn)) false) (.cond (.tmp 4) (Yg (clC fn)) .skip)) (IX (IX (bod fn))))))
 (hops:(Vu (clR fn)).toList=[clO fn 0,clO fn 1])
 (hd:((clO fn 0).guard,(clO fn 1).guard,(clO fn 0).dst,(clO fn 1).dst)=(none,none,some 3,some 4)) (p0:(clO fn 0).op=.move (.tmp 0))
 (p1:(clO fn 1).op=.binOp .eql (clT fn).1 (.tmp 3) (.const (.slice none 0 0)) (clT fn).2) (hu:P.underlying (clT fn).1=some (.slice (clE P fn))) (hnt:Nat.ble 5 (fn.ntmps%uf)=true)
 (hok:fn.results.toList.all (yg P)=true)
 (r0:(λex=>run .nil 20 (.code (j6 P im fn.ntmps (OE (bod fn))) (rM .nil 0 [.tree [] 0 ex]) Sto.empty))=λex=>some (.code .nrm (cl0 ex) Sto.empty))
 (rT:(λex=>UR P im fn (Yg (clC fn)) (((cl0 ex).set 3 (.tree [] 0 ex)).set 4 (.b true)))=λ_=>some (.tree [] 0 true))
 (rB:(λex=>UR P im fn (IX (IX (bod fn))) (((cl0 ex).set 3 (.tree [] 0 ex)).set 4 (.b false)))=λ_=>some (.tree [] 0 true)) (ex:Bool):
 GC P im F [.tree [] 0 ex] (.tree [] 0 true):=by
 simp only[aJ]at hd;exact Hv hm hf hb hops hd.1 hd.2.1 hd.2.2.1 hd.2.2.2 p0 p1 hu (aa hnt) hok (congrFun r0 ex) rfl (EU (congrFun rT ex)) (EU (congrFun rB ex))
noncomputable section
def pP(R:List D→Option D)(as:List D):Option D:=
 u1 as λa r=>u0 r (FL a (λ_ _ _ _ _ _=>none) (λcs len ex=>List.rec (motive:=λ_=>Rs) (cnd (Nat.beq len 0) (some (.tree [] 0 true)) none) (λ_ _ _=>R [a]) cs) none)
theorem NV{F:FuncId}{R:List D→Option D}(hR:Snd P im F R)(h:∀ex,GC P im F [.tree [] 0 ex] (.tree [] 0 true)):Snd P im F (pP R):=by
 intro as r hr;obtain⟨a,as',rfl,h1⟩:=jR hr;obtain⟨rfl,h2⟩:=oB h1;rcases rG h2 with⟨l,off,len,cm,z,ex,rfl,h3⟩|⟨cs,len,ex,rfl,h3⟩
 ·cases h3
 ·cases cs with
  |nil=>
   have h3:cnd (Nat.beq len 0) (some (D.tree [] 0 true)) none=some r:=h3;obtain⟨h4,h5⟩:=fW h3;have:=aT h4;subst this;cases h5;exact h ex
  |cons c cs=>exact hR _ _ h3
end
end Go.Proofs.Ev
namespace Go.Proofs.Ev
noncomputable section
theorem Wd{kk:IntKind}{a b:Nat}{k:D→Rs}(ha:a≤jX kk)(hb:b≤jX kk):uu (.i kk (.ofNat a)) (.i kk (.ofNat b)) k=k (.i kk (.ofNat (a&&&b))):=by
 unfold uu inK;rw[qA,aF ha,aF hb,eL,eL,fA];rfl
theorem Tg{a b:Nat}{k:D→Rs}:kv (.i .u64 (.ofNat a)) (.i .u64 (.ofNat b)) k=k (.i .u64 (.ofNat (a*b%B64))):=by
 unfold kv;rw[qA];exact zp
theorem X0(a:Nat):a&&&4294967295=a%4294967296:=z18 a 32
theorem m32:(4294967295:Nat)≤jX .u64:=aa rfl
theorem F5{x:Nat}{K:D→Rs}(h:x<18446744073709551616):uu (.i .u64 (.ofNat x)) (.i .u64 (.ofNat 4294967295)) K=K (.i .u64 (.ofNat (x%4294967296))):=by rw[Wd (bc h) m32,X0]
theorem Az{a b:Nat}{K:D→Rs}(h:a+b<18446744073709551616):ee (.i .u64 (.ofNat a)) (.i .u64 (.ofNat b)) K=K (.i .u64 (.ofNat (a+b))):=nk (bc h)
theorem Ax{a b:Nat}{K:D→Rs}(h:a*b<18446744073709551616):kv (.i .u64 (.ofNat a)) (.i .u64 (.ofNat b)) K=K (.i .u64 (.ofNat (a*b))):=yE (bc h)
theorem B1{a:Nat}{k:D→Rs}:o5 (.i .u64 (.ofNat a)) (.i .u64 (.ofNat 32)) k=k (.i .u64 (.ofNat (a/4294967296))):=uB (by decide)
theorem Wp(L M:Nat)(hM:L*L=M)(x1 x0 y1 y0:Nat):(x1*L+x0)*(y1*L+y0)=x1*y1*M+(x1*y0+x0*y1)*L+x0*y0:=by
 subst hM;simp only[aP,bA];have a1:x1*L*(y1*L)=x1*y1*(L*L):=by rw[aU,cf L,←aU x1]
 have a2:x1*L*y0=x1*y0*L:=by rw[aU,aK L,←aU]
 have a3:x0*(y1*L)=x0*y1*L:=by rw[aU]
 rw[a1,a2,a3];omega
theorem Mb{x y φ:Nat}(hx:x<B64)(hy:y<B64):pS φ [n64 x,n64 y]=some (.tup [n64 (x*y/B64),n64 (x*y%B64)]):=by
 have hx':x<18446744073709551616:=hx;have hy':y<18446744073709551616:=hy;have hx0:x%4294967296≤4294967295:=by omega
 have hx1:x/4294967296≤4294967295:=by omega
 have hy0:y%4294967296≤4294967295:=by omega
 have hy1:y/4294967296≤4294967295:=by omega
 have ha:=bv hx0 hy0;have hb:=bv hx1 hy0;have hc:=bv hx0 hy1;have hd:=bv hx1 hy1;have hP:x*y=(x/4294967296)*(y/4294967296)*B64+((x/4294967296)*(y%4294967296)+(x%4294967296)*(y/4294967296))*4294967296+(x%4294967296)*(y%4294967296):=by
  have e:=Wp 4294967296 B64 rfl (x/4294967296) (x%4294967296) (y/4294967296) (y%4294967296);rw[show x/4294967296*4294967296+x%4294967296=x by omega,show y/4294967296*4294967296+y%4294967296=y by omega]at e;exact e
 have hhi:x*y/B64=(x/4294967296)*(y/4294967296)+((x/4294967296)*(y%4294967296)+(x%4294967296)*(y%4294967296)/4294967296)/4294967296+(((x/4294967296)*(y%4294967296)+(x%4294967296)*(y%4294967296)/4294967296)%4294967296+(x%4294967296)*(y/4294967296))/4294967296:=by
  rw[hP];generalize (x/4294967296)*(y/4294967296)=d at*;generalize (x/4294967296)*(y%4294967296)=b at*;generalize (x%4294967296)*(y/4294967296)=c at*;generalize (x%4294967296)*(y%4294967296)=a at*;show(d*18446744073709551616+(b+c)*4294967296+a)/18446744073709551616=_;omega
 rw[hhi];clear hhi hP;have t0:(x%4294967296)*(y%4294967296)<18446744073709551616:=by omega
 have tb:(x/4294967296)*(y%4294967296)<18446744073709551616:=by omega
 have tc:(x%4294967296)*(y/4294967296)<18446744073709551616:=by omega
 have td:(x/4294967296)*(y/4294967296)<18446744073709551616:=by omega
 have t1:(x/4294967296)*(y%4294967296)+(x%4294967296)*(y%4294967296)/4294967296<18446744073709551616:=by omega
 have t2:((x/4294967296)*(y%4294967296)+(x%4294967296)*(y%4294967296)/4294967296)%4294967296+(x%4294967296)*(y/4294967296)<18446744073709551616:=by omega
 have t3:(x/4294967296)*(y/4294967296)+((x/4294967296)*(y%4294967296)+(x%4294967296)*(y%4294967296)/4294967296)/4294967296<18446744073709551616:=by omega
 have t4:(x/4294967296)*(y/4294967296)+((x/4294967296)*(y%4294967296)+(x%4294967296)*(y%4294967296)/4294967296)/4294967296+(((x/4294967296)*(y%4294967296)+(x%4294967296)*(y%4294967296)/4294967296)%4294967296+(x%4294967296)*(y/4294967296))/4294967296<18446744073709551616:=by omega
 unfold pS n64;simp only[eV,eZ];refine(F5 hx').trans ?_;refine B1.trans ?_;refine(F5 hy').trans ?_;refine B1.trans ?_;refine(Ax t0).trans ?_;refine(Ax tb).trans ?_;refine B1.trans ?_;refine(Az t1).trans ?_;refine(F5 t1).trans ?_;refine B1.trans ?_;refine(Ax tc).trans ?_;refine(Az t2).trans ?_;refine(Ax td).trans ?_;refine(Az t3).trans ?_;refine B1.trans ?_;refine(Az t4).trans ?_;refine Tg.trans ?_;rfl
def tY(as:List D):Option D:=
 u1 as λa r=>u1 r λb r=>u0 r (Ab a λx=>Ab b λy=>cnd (Nat.blt x B64) (cnd (Nat.blt y B64) (frc (Nat.mul x y) λp=>frc (Nat.div p B64) λhi=>frc (Nat.mod p B64) λlo=>some (.tup [.i .u64 (.ofNat hi),.i .u64 (.ofNat lo)])) none) none)
theorem JG{as:List D}{r:D}(h:tY as=some r):∃φ,pS φ as=some r:=by
 obtain⟨a,as1,h1,h2⟩:=jR h;obtain⟨b,as2,h3,h4⟩:=jR h2;obtain⟨h5,h6⟩:=oB h4;obtain⟨x,h7,h8⟩:=pg h6;obtain⟨y,h9,h10⟩:=pg h8;obtain⟨hx,h11⟩:=fW h10;obtain⟨hy,h12⟩:=fW h11;have hx:x<B64:=by simpa[dy]using hx
 have hy:y<B64:=by simpa[dy]using hy
 simp only[fA]at h12;subst h1 h3 h5 h7 h9;exact⟨0,(Mb hx hy).trans h12⟩
variable {s:LS} {l off len cm z i n:Nat} {ex:Bool} {b:Blk} {d:D} {kk k2:IntKind} {K:D→LS→Rs}
theorem vQ(hg:s.get l=some b)(hl:b.st.live=true)(hi:i<len):eK z s (.sl l off len cm z ex) (.i k2 (.ofNat i)) K=K (.ptr l (off+i*z)) s:=by
 show jQ s l (λb=>cnd (lv b.st) (cnd (Nat.blt i len) (cnd (Nat.beq z z) (frc (Nat.add off (Nat.mul i z)) λo=>K (.ptr l o) s) none) none) none)=_;rw[oe,hg];show cnd (lv b.st) (cnd (Nat.blt i len) (cnd (Nat.beq z z) (frc (Nat.add off (Nat.mul i z)) λo=>K (.ptr l o) s) none) none) none=_;rw[sI,hl,ep hi,ej,eL,eL,eL,fA];rfl
theorem yF(hg:s.get l=some b)(hl:b.st.live=true)(hd:b.cs[i]?=some d):eJ s (.ptr l i) K=K d s:=by
 show jQ s l (λb=>cnd (lv b.st) (Ac i b.cs λd=>K d s) none)=_;rw[oe,hg];show cnd (lv b.st) (Ac i b.cs λd=>K d s) none=_;rw[sI,hl,eL,yr,hd];rfl
theorem J0(hg:s.get l=some b):l<s.nx:=by
 unfold LS.get at hg;split at hg
 ·assumption
 ·cases hg
theorem HX(hg:s.get l=some b)(b':Blk)(k:LS→Rs):oN s l b' k=k (s.put l b'):=CJ s l b' k
theorem sU(hg:s.get l=some b)(b':Blk)(m:Nat):(s.put l b').get m=if m=l then some b' else s.get m:=LS.get_put hg b' m
theorem xx(hs:s.fit)(b':Blk)(m:Nat):(s.push b').get m=if m=s.nx then some b' else s.get m:=LS.get_push s b' m
theorem JI(hs:s.fit)(b':Blk):(s.push b').fit∧(s.push b').nx=s.nx+1:=⟨rfl,rfl⟩
theorem CH(hg:s.get l=some b)(hw:b.st.wr=true)(hi:i<b.cs.length):eU 1 s (.ptr l i) (.i kk (.ofNat n)) K=K .u (s.put l ⟨b.cs.set i (.i kk (.ofNat n)),.rw⟩):=by
 show jQ s l (λb=>cnd (wr b.st) (ur i [.i kk (.ofNat n)] b.cs λcs'=>oN s l ⟨cs',.rw⟩ λs=>K .u s) none)=_;rw[oe,hg];show cnd (wr b.st) (ur i [.i kk (.ofNat n)] b.cs λcs'=>oN s l ⟨cs',.rw⟩ λs=>K .u s) none=_;rw[DY,hw,eL,od,wc hi];show oN s l _ _=_;rw[HX hg]
theorem Th{bytes:Nat}{z:D}(h1:n≤140737488355328)(h2:n*bytes≤140737488355328):mK 1 bytes [z] s (.i .i64 (.ofNat n)) (.i .i64 (.ofNat n)) K=K (.sl s.nx 0 n n 1 true) (s.push ⟨List.replicate n z,.rw⟩):=by
 unfold mK;rw[qA];show cnd (Nat.ble n n) (cnd (Nat.ble n 140737488355328) (cnd (Nat.ble (Nat.mul n bytes) 140737488355328) (v6 [z] n λcs=>ku s ⟨cs,.rw⟩ λs'=>K (.sl s.nx 0 n n 1 true) s') none) none) none=_;rw[aF (aD n),aF h1,aF (show Nat.mul n bytes≤140737488355328 from h2)];simp only[eL];rw[rE,rC,lY]
end
end Go.Proofs.Ev
namespace Go.Proofs.Ev
noncomputable section
variable {s:LS} {K:D→LS→Rs}
inductive Hold (s:LS):D→List Nat→Prop
 |nil:Hold s (.tree [] 0 true) []
 |sl {l cm:Nat} {ex:Bool} {ws:List Nat} (hg:s.get l=some ⟨c64 ws,.rw⟩):Hold s (.sl l 0 ws.length cm 1 ex) ws
theorem rI{x:D}{ws:List Nat}(h:Hold s x ws):ek x s K=K (.i .i64 (.ofNat ws.length)) s:=by
 cases h<;>rfl
theorem vn{x:D}{ws:List Nat}{i w:Nat}{k2:IntKind}(h:Hold s x ws)(hi:ws[i]?=some w):(eK 1 s x (.i k2 (.ofNat i)) λa s=>eJ s a K)=K (n64 w) s:=by
 cases h with
 |nil=>cases hi
 |sl hg=>
  have hlt:i<ws.length:=(bC.1 hi).1;refine(vQ hg rfl hlt).trans ?_;refine yF hg rfl ?_;rw[show 0+i*1=i by omega];exact kP hi
theorem Bw{n:Nat}:∀{ws:List Nat}{kk:List D→List Nat→Rs},nI (kJ s (n+1)) (c64 ws) kk=kk (c64 ws) []
 |[],kk=>rfl
 |w::ws,kk=>by
  show nI (kJ s (n+1)) (c64 ws) (λys b=>kk (n64 w::ys) b)=_;rw[Bw];rfl
theorem OZ{x:D}{ws:List Nat}{n:Nat}(h:Hold s x ws):∃ex ls,∀kk,kJ s (n+2) x kk=kk (.tree (c64 ws) ws.length ex) ls:=by
 cases h with
 |nil=>exact⟨true,[],λkk=>rfl⟩
 | @sl l cm ex ws hg=>
  refine⟨cnd ex (Nat.beq cm ws.length) false,[l],λkk=>?_⟩;show(jQ s l λb=>cnd (lv b.st) (iz 0 b.cs λr=>iy (Nat.mul ws.length 1) r λr=>nI (kJ s (n+1)) r λcs ls=>mw (cnd ex (Nat.beq cm ws.length) false) λex=>kk (.tree cs ws.length ex) (l::ls)) none)=_;rw[oe,hg];show(iz 0 (c64 ws) λr=>iy (Nat.mul ws.length 1) r λr=>nI (kJ s (n+1)) r λcs ls=>mw (cnd ex (Nat.beq cm ws.length) false) λex=>kk (.tree cs ws.length ex) (l::ls))=_;have hlen:(c64 ws).length=ws.length:=by simp[c64]
  rw[gB,i9,show Nat.mul ws.length 1=ws.length from ai _,aj,aC (by omega),aM (by omega),Bw,jC]
theorem GH:∀{ws:List Nat}{k:Nat→Nat→Rs},kx ws→MC (c64 ws) k=k (val ws) ws.length
 |[],k,h=>rfl
 |w::ws,k,h=>by
  show cnd (Nat.blt w B64) (MC (c64 ws) λv n=>frc (Nat.add w (Nat.mul B64 v)) λv=>frc (Nat.succ n) λn=>k v n) none=_;rw[ep (h w (cA ..)),eL,GH λx hx=>h x (bm _ hx),fA,fA];rfl
theorem Bf{ws:List Nat}{ex:Bool}(h:kx ws)(hl:ws.length≤1000000000):sH [.tree (c64 ws) ws.length ex]=some (.n (val ws)):=by
 show(MC (c64 ws) λv n=>cnd (Nat.beq n ws.length) (cnd (Nat.ble ws.length 1000000000) (some (.n v)) none) none)=_;rw[GH h,ej,aF hl];rfl
theorem H0{x:D}{ws:List Nat}(hx:Hold s x ws)(h:kx ws)(hl:ws.length≤1000000000):eR sH [x] s K=K (.n (val ws)) s:=by
 obtain⟨ex,ls,hr⟩:=OZ (n:=58) hx;show kJ s 60 x (λy a=>l7 a [] λab=>ob (sH [y]) λr=>ju s ab r K)=_;rw[hr,gT,Bf h hl];rfl
structure More (s s':LS):Prop where
 old:∀l b,s.get l=some b→s'.get l=some b
 len:s.fit→s'.fit
theorem More.refl(s:LS):More s s:=⟨λ_ _ h=>h,id⟩
theorem More.trans{s s' s'':LS}(h:More s s')(h':More s' s''):More s s'':=⟨λl b g=>h'.old l b (h.old l b g),λg=>h'.len (h.len g)⟩
theorem More.push(hs:s.fit)(b:Blk):More s (s.push b):=by
 refine⟨λl b' h=>?_,λh=>(JI h b).1⟩;rw[xx hs,aE (by have:=J0 h;omega)];exact h
theorem Hold.more{s s':LS}(h:More s s'){x:D}{ws:List Nat}(hx:Hold s x ws):Hold s' x ws:=by
 cases hx with
 |nil=>exact .nil
 |sl hg=>exact .sl (h.old _ _ hg)
theorem Hq:∀(n m:Nat),kx (dg n m)
 |0,m=>λw hw=>by cases hw
 |n+1,m=>λw hw=>by
  rcases bI.1 hw with rfl|hw
  ·exact bg _ (by decide)
  ·exact Hq n _ w hw
theorem Je:∀(n m:Nat),(dg n m).length=n
 |0,m=>rfl
 |n+1,m=>congrArg Nat.succ (Je n (m/B64))
theorem Ni:∀(n m:Nat),m<B64^n→val (dg n m)=m
 |0,m,h=>by
  have:m=0:=by simpa using h
  subst this;rfl
 |n+1,m,h=>by
  show m%B64+B64*val (dg n (m/B64))=m;rw[Ni n (m/B64) (d8 (by rw[av,aK]at h;exact h))];exact dE m B64
theorem rJ{m:Nat}(hs:s.fit)(hm:Nat.log2 m≤1000000000):∃x s' ws,(∀K,eR qH [.n m] s K=K x s')∧Hold s' x ws∧kx ws∧val ws=m∧ws.length≤Nat.log2 m/64+1∧More s s'∧(∀l off len cm z ex,x=.sl l off len cm z ex→s.nx≤l):=by
 by_cases h0:m=0
 ·subst h0;exact⟨.tree [] 0 true,s,[],λK=>rfl,.nil,λw hw=>(by cases hw),rfl,a9 _,More.refl s,λl off len cm z ex e=>(by cases e)⟩
 ·refine⟨.sl s.nx 0 (dg (Nat.log2 m/64+1) m).length (dg (Nat.log2 m/64+1) m).length 1 false,s.push ⟨c64 (dg (Nat.log2 m/64+1) m),.rw⟩,dg (Nat.log2 m/64+1) m,λK=>?_,?_,Hq _ _,?_,z0L (Je _ _),More.push hs _,λl off len cm z ex e=>(by cases e;exact aD _)⟩
  ·show(ob (cnd (Nat.beq m 0) (some (.tree [] 0 true)) (cnd (Nat.ble (Nat.log2 m) 1000000000) (frc (Nat.succ (Nat.div (Nat.log2 m) 64)) λW=>dgK W m λds=>some (.own ds W 1)) none)) λr=>ju s [] r K)=_;rw[gG h0,aF hm,e9,eL,fA,Jf,Je];show ku s ⟨c64 (dg (Nat.log2 m/64+1) m),.rw⟩ (λs'=>K (.sl s.nx 0 (Nat.log2 m/64+1) (Nat.log2 m/64+1) 1 false) s')=_;rw[lY]
  ·refine .sl ?_;rw[xx hs,aC rfl]
  ·apply Ni;rw[BQ];refine bp (Nat.lt_log2_self (n:=m)) ?_;exact ba (by decide) (by omega)
end
end Go.Proofs.Ev
set_option maxRecDepth 1000000
set_option maxHeartbeats 0
namespace Go.Proofs.Ev
noncomputable section
def mY(φ:Nat):List D→Option D:=
λas=>
(λ(s:LS)=>
 u1 as λf F=>
 u1 F λk G=>
 u0 G (
 ek f s λH s=>
 ek k s λI s=>
 ee H I λl=>
 mK 1 8 [(.i .u64 (.ofNat 0))] s l l λJ s=>
 ek f s λK s=>
 lp (λ(_ _ _ _ _:D)(_:LS)=>none) (λ(M:D→D→D→D→D→LS→Rs)(g m n o d:D)(s:LS)=>
 fN d o λN=>
 eQ N
(eK 1 s n d λO s=>
 eJ s O λP s=>
 ek g s λS s=>
 lp (λ(_ _ _ _ _ _ _ _ _ _ _:D)(_:LS)=>none) (λ(U:D→D→D→D→D→D→D→D→D→D→D→LS→Rs)(h b e p u v w y z A c:D)(s:LS)=>
 fN c A λV=>
 eQ V
(eK 1 s z c λW s=>
 eJ s W λX s=>
 eR tY [p,X] s λB s=>
 gD B 0 s λY s=>
 gD B 1 s λZ s=>
 ee e c λbb=>
 eK 1 s b bb λbc s=>
 eJ s bc λbd s=>
 nr Z bd (.i .u64 (.ofNat 0)) s λC s=>
 gD C 0 s λbf s=>
 gD C 1 s λbg s=>
 ee Y bg λbh=>
 nr bf u (.i .u64 (.ofNat 0)) s λE s=>
 gD E 0 s λbi s=>
 gD E 1 s λbk s=>
 ee e c λbl=>
 ee bh bk λbm=>
 eK 1 s b bl λbn s=>
 eU 1 s bn bi λ_ s=>
 ee c (.i .i64 (.ofNat 1)) λbo=>
 U h b e p bm v w y z A bo s)
(ek h s λbp s=>
 ee e bp λbu=>
 eK 1 s b bu λbv s=>
 eU 1 s bv u λ_ s=>
 ee y (.i .i64 (.ofNat 1)) λbw=>
 M h b v w bw s)) φ g m d P (.i .u64 (.ofNat 0)) n o d g S (.i .i64 (.ofNat 0)) s)
((fG φ) [m] s λbz s=>
 eX false s bz some)) φ k J f K (.i .i64 (.ofNat 0)) s)) s0
def sC(φ:Nat):List D→Option D:=
λas=>
(λ(s:LS)=>
 u1 as λb c=>
 u1 c λd e=>
 u0 e (
 eR qH [b] s λf s=>
 eR qH [d] s λg s=>
 eR (mY φ) [f,g] s λh s=>
 eR sH [h] s λi s=>
 eX false s i some)) s0
def sE(φ:Nat):List D→Option D:=
λas=>
(λ(s:LS)=>
 u1 as λy z=>
 u1 z λA B=>
 u0 B (
 eR qH [y] s λe s=>
 eR qH [A] s λf s=>
 jn (λ(g C:D)(s:LS)=>
 ek g s λE s=>
 ee E (.i .i64 (.ofNat 1)) λm=>
 mK 1 8 [(.i .u64 (.ofNat 0))] s m m λF s=>
 ek g s λG s=>
 lp (λ(_ _ _ _ _ _:D)(_:LS)=>none) (λ(H:D→D→D→D→D→D→LS→Rs)(h c d k l b:D)(s:LS)=>
 fN b l λI=>
 eQ I
(jn (λ(n J o K p M N O:D)(s:LS)=>
 eK 1 s n p λP s=>
 eJ s P λS s=>
 nr S M K s λu s=>
 gD u 0 s λU s=>
 gD u 1 s λV s=>
 eK 1 s o p λW s=>
 eU 1 s W U λ_ s=>
 ee O (.i .i64 (.ofNat 1)) λX=>
 H n J o V N X s) λv=>
 ek c s λY s=>
 fN b Y λZ=>
 eQ Z
(eK 1 s c b λbb s=>
 eJ s bb λbc s=>
 v h c d k b bc l b s)
(v h c d k b (.i .u64 (.ofNat 0)) l b s))
(ek h s λbd s=>
 eK 1 s d bd λbf s=>
 eU 1 s bf k λ_ s=>
 eR sH [d] s λbg s=>
 eX false s bg some)) φ g C F (.i .u64 (.ofNat 0)) G (.i .i64 (.ofNat 0)) s) λw=>
 ek e s λbh s=>
 ek f s λbi s=>
 fN bh bi λbk=>
 eQ bk
(w f e s)
(w e f s))) s0
def sD(φ:Nat):List D→Option D:=
λas=>
(λ(s:LS)=>
 u1 as λf l=>
 u1 l λg m=>
 u0 m (
 kS (.lens (.c f)) s λn s=>
 kS (.lens (.c g)) s λo s=>
 fN n o λe=>
 eI e false (λk=>k f s) s λp s=>
 eI e false (λk=>kS (.lens (.c p)) s k) s λu s=>
 eI e false (λk=>k g s) s λv s=>
 eI e false (λk=>kS (.lens (.c v)) s k) s λw s=>
 eI e false (λk=>gx u w λd=>k d s) s λy s=>
 eI e false (λk=>k y s) s λh s=>
 eI h true (λk=>k f s) s λz s=>
 eI h true (λk=>k g s) s λA s=>
 eI h true (λk=>fN z A λd=>k d s) s λB s=>
 eI e false (λk=>fX h B (.b false) s k) s λC s=>
 fX e (.b true) C s λE s=>
 eQ E
(eX false s (.i .i64 (.negSucc 0)) some)
(gx f g λF=>
 eQ F
(eX false s (.i .i64 (.ofNat 0)) some)
(eX false s (.i .i64 (.ofNat 1)) some)))) s0
def sB(φ:Nat):List D→Option D:=
λas=>
(λ(s:LS)=>
 u1 as λn o=>
 u1 o λp u=>
 u0 u (
 eR qH [n] s λg s=>
 eR qH [p] s λv s=>
 ek g s λw s=>
 lp (λ(_ _ _ _ _:D)(_:LS)=>none) (λ(y:D→D→D→D→D→LS→Rs)(d c h e b:D)(s:LS)=>
 fN b e λz=>
 eQ z
(jn (λ(f A B k C E F:D)(s:LS)=>
 eK 1 s f k λG s=>
 eJ s G λH s=>
 sW H C B s λl s=>
 gD l 0 s λI s=>
 gD l 1 s λJ s=>
 eK 1 s f k λK s=>
 eU 1 s K I λ_ s=>
 ee F (.i .i64 (.ofNat 1)) λM=>
 y f A J E M s) λm=>
 ek c s λN s=>
 fN b N λO=>
 eQ O
(eK 1 s c b λP s=>
 eJ s P λS s=>
 m d c h b S e b s)
(m d c h b (.i .u64 (.ofNat 0)) e b s))
(eR sH [d] s λU s=>
 eX false s U some)) φ g v (.i .u64 (.ofNat 0)) w (.i .i64 (.ofNat 0)) s)) s0
variable {s:LS} {K:D→LS→Rs}
def Off(lo:Nat)(x:D):Prop:=∀l off len cm z ex,x=.sl l off len cm z ex→l≠lo
theorem Hold.off{x:D}{ws:List Nat}(h:Hold s x ws){lo:Nat}(hlo:s.nx≤lo):Off lo x:=by
 intro l off len cm z ex e;subst e;cases h with
 |sl hg=>have:=J0 hg;omega
theorem Hold.put{x:D}{ws:List Nat}(h:Hold s x ws){lo:Nat}(ho:Off lo x){b b':Blk}(hg:s.get lo=some b):Hold (s.put lo b') x ws:=by
 cases h with
 |nil=>exact .nil
 |sl hg'=>exact .sl (by rw[sU hg,aE (ho _ _ _ _ _ _ rfl)];exact hg')
theorem uL:∀(a b:List Nat),val (a++b)=val a+B64^a.length*val b
 |[],b=>by show val b=0+1*val b;omega
 |w::a,b=>by
  show w+B64*val (a++b)=w+B64*val a+B64^(a.length+1)*val b;rw[uL a b,bA,av,aK (B64^a.length) B64,aU];omega
theorem sn:∀(ws:List Nat)(i:Nat),val (ws.take (i+1))=val (ws.take i)+ws.getD i 0*B64^i
 |[],i=>by simp[val]
 |w::ws,0=>by
  show w+B64*val []=0+w*1;show w+B64*0=0+w*1;omega
 |w::ws,i+1=>by
  show w+B64*val (ws.take (i+1))=w+B64*val (ws.take i)+ws.getD i 0*B64^(i+1);rw[sn ws i,bA,av,aK B64 (ws.getD i 0*B64^i),aU];omega
theorem HZ{a b c:Nat}(hc:c≤1):nr (n64 a) (n64 b) (n64 c) s K=K (.tup [n64 ((a+b+c)%B64),n64 ((a+b+c)/B64)]) s:=by
 show cnd (Nat.ble c 1) (frc (Nat.mod (Nat.add (Nat.add a b) c) B64) λlo=>frc (Nat.div (Nat.add (Nat.add a b) c) B64) λhi=>K (.tup [.i .u64 (.ofNat lo),.i .u64 (.ofNat hi)]) s) none=_;rw[aF hc,eL,fA,fA];rfl
theorem Pz{lo i n w k:Nat}{outs:List Nat}(hg:s.get lo=some ⟨c64 (outs++List.replicate (k+1) 0),.rw⟩)(ho:outs.length=i)(hi:i<n){k2:IntKind}:
 (eK 1 s (.sl lo 0 n n 1 true) (.i k2 (.ofNat i)) λa s=>eU 1 s a (n64 w) K)=K .u (s.put lo ⟨c64 ((outs++[w])++List.replicate k 0),.rw⟩):=by
 refine(vQ hg rfl hi).trans ?_;refine(CH hg rfl ?_).trans ?_
 ·rw[fO,bF,du];omega
 ·rw[wE,show 0+i*1=outs.length by omega,co _ _ (aD _),cC];rw[bW];rfl
def naF(φ:Nat)(q12:D→D→D→D→D→D→LS→Rs)(x13 x14 x15 x16 x17 x18:D)(s:LS):Rs:=(
 fN x18 x17 λx19=>
 eQ x19
(jn (λ(x21 x22 x23 x24 x25 x26 x27 x28:D)(s:LS)=>
 eK 1 s x21 x25 λx29 s=>
 eJ s x29 λx30 s=>
 nr x30 x26 x24 s λx31 s=>
 gD x31 0 s λx32 s=>
 gD x31 1 s λx33 s=>
 eK 1 s x23 x25 λx34 s=>
 eU 1 s x34 x32 λ_ s=>
 ee x28 (.i .i64 (.ofNat 1)) λx35=>
 q12 x21 x22 x23 x33 x27 x35 s) λj20=>
 ek x14 s λx36 s=>
 fN x18 x36 λx37=>
 eQ x37
(eK 1 s x14 x18 λx38 s=>
 eJ s x38 λx39 s=>
 j20 x13 x14 x15 x16 x18 x39 x17 x18 s)
(j20 x13 x14 x15 x16 x18 (.i .u64 (.ofNat 0)) x17 x18 s))
(ek x13 s λx40 s=>
 eK 1 s x15 x40 λx41 s=>
 eU 1 s x41 x16 λ_ s=>
 eR sH [x15] s λx42 s=>
 eX false s x42 some))
theorem Kd{X Y:D}{xs ys:List Nat}{lo φ:Nat}(hx:kx xs)(hy:kx ys)(hl:ys.length≤xs.length)(hn:xs.length≤900000000)(ox:Off lo X)(oy:Off lo Y):
 ∀(j i f c:Nat)(outs:List Nat)(s:LS),j+i=xs.length→j<f→Hold s X xs→Hold s Y ys→s.get lo=some ⟨c64 (outs++List.replicate (j+1) 0),.rw⟩→outs.length=i→kx outs→c≤1→
  val outs+c*B64^i=val (xs.take i)+val (ys.take i)→
  lp (λ(_ _ _ _ _ _:D)(_:LS)=>none) (naF φ) f X Y (.sl lo 0 (xs.length+1) (xs.length+1) 1 true) (n64 c) (.i .i64 (.ofNat xs.length)) (.i .i64 (.ofNat i)) s=some (.n (val xs+val ys))
 |0,i,f+1,c,outs,s,hj,hf,hX,hY,hg,ho,hs,hc,hv=>by
  have hi:i=xs.length:=by omega
  subst hi;rw[eO];unfold naF;rw[ji,fC (bS _),eM,rI hX,Pz hg ho (cK _)];have hg':=sU hg (⟨c64 ((outs++[c])++List.replicate 0 0),.rw⟩:Blk) lo;rw[aC rfl]at hg';have hH:Hold (s.put lo ⟨c64 ((outs++[c])++List.replicate 0 0),.rw⟩) (.sl lo 0 (xs.length+1) (xs.length+1) 1 true) (outs++[c]):=by
   have:=Hold.sl (cm:=xs.length+1) (ex:=true) (show(s.put lo ⟨c64 ((outs++[c])++List.replicate 0 0),.rw⟩).get lo=some ⟨c64 (outs++[c]),.rw⟩ by rw[hg'];simp);rw[show(outs++[c]).length=xs.length+1 by simp[ho]]at this;exact this
  rw[H0 hH ?_ (by simp[ho];omega)]
  ·rw[uL,ho];rw[c7,aM hl]at hv;show some (D.n (val outs+B64^xs.length*val [c]))=_;rw[show val [c]=c from rfl,aK,hv]
  ·intro w hw;rcases am.1 hw with h|h
   ·exact hs w h
   ·rw[bi.1 h];exact br hc (by decide)
 |j+1,i,f+1,c,outs,s,hj,hf,hX,hY,hg,ho,hs,hc,hv=>by
  have hi:i<xs.length:=by omega
  have hxi:xs[i]?=some (xs.getD i 0):=by rw[aH,aB hi];rfl
  have key:∀(b:Nat),b=ys.getD i 0→(eK 1 s X (.i .i64 (.ofNat i)) λx29 s=>eJ s x29 λx30 s=>nr x30 (n64 b) (n64 c) s λx31 s=>gD x31 0 s λx32 s=>gD x31 1 s λx33 s=>eK 1 s (.sl lo 0 (xs.length+1) (xs.length+1) 1 true) (.i .i64 (.ofNat i)) λx34 s=>eU 1 s x34 x32 λ_ s=>ee (.i .i64 (.ofNat i)) (.i .i64 (.ofNat 1)) λx35=>
   lp (λ(_ _ _ _ _ _:D)(_:LS)=>none) (naF φ) f X Y (.sl lo 0 (xs.length+1) (xs.length+1) 1 true) x33 (.i .i64 (.ofNat xs.length)) x35 s)=some (.n (val xs+val ys)):=by
   intro b hb;have hb':b<B64:=by
    subst hb;rw[aH];cases h:ys[i]?with
    |none=>decide
    |some w=>exact hy w (bU h)
   have ha':xs.getD i 0<B64:=hx _ (bU hxi);refine(vn hX hxi).trans ?_;refine(HZ hc).trans ?_;show(eK 1 s (.sl lo 0 (xs.length+1) (xs.length+1) 1 true) (.i .i64 (.ofNat i)) λx34 s=>eU 1 s x34 (n64 ((xs.getD i 0+b+c)%B64)) λ_ s=>ee (.i .i64 (.ofNat i)) (.i .i64 (.ofNat 1)) λx35=>
    lp (λ(_ _ _ _ _ _:D)(_:LS)=>none) (naF φ) f X Y (.sl lo 0 (xs.length+1) (xs.length+1) 1 true) (n64 ((xs.getD i 0+b+c)/B64)) (.i .i64 (.ofNat xs.length)) x35 s)=_
   refine(Pz hg ho (z0Q hi)).trans ?_;refine(nk (show i+1≤jX .i64 from(by show i+1≤9223372036854775807;omega))).trans ?_;refine Kd hx hy hl hn ox oy j (i+1) f _ (outs++[(xs.getD i 0+b+c)%B64]) _ (by omega) (by omega) (hX.put ox hg) (hY.put oy hg) ?_ (by simp[ho]) ?_ ?_ ?_
   ·rw[sU hg,aC rfl]
   ·intro w hw;rcases am.1 hw with h|h
    ·exact hs w h
    ·rw[bi.1 h];exact bg _ (by decide)
   ·have:xs.getD i 0+b+c<B64*2:=by omega
    have:=d8 this;omega
   ·rw[uL,sn,sn,ho,show val [(xs.getD i 0+b+c)%B64]=(xs.getD i 0+b+c)%B64 from rfl,←hb];have e:=dE (xs.getD i 0+b+c) B64;generalize xs.getD i 0=a at*;have e2:B64^i*((a+b+c)%B64)+(a+b+c)/B64*B64^(i+1)=(a+b+c)*B64^i:=by
     rw[av,aK (B64^i) ((a+b+c)%B64),aK (B64^i) B64,←aU,←aP,aK ((a+b+c)/B64) B64,e]
    rw[aP,aP]at e2;omega
  rw[eO];unfold naF;rw[ji,ep hi,eP];show(ek Y s λx36 s=>fN (.i .i64 (.ofNat i)) x36 λx37=>eQ x37 _ _)=_;rw[rI hY,ji];by_cases hyi:i<ys.length
  ·have hyi':ys[i]?=some (ys.getD i 0):=by rw[aH,aB hyi];rfl
   rw[ep hyi,eP];refine(vn hY hyi').trans ?_;exact key _ rfl
  ·rw[fC (by omega),eM];exact key 0 (by rw[aH,bX (by omega)];rfl)
def naJ(φ:Nat)(x6 x7:D)(s:LS):Rs:=(
 ek x6 s λx8 s=>
 ee x8 (.i .i64 (.ofNat 1)) λx9=>
 mK 1 8 [(.i .u64 (.ofNat 0))] s x9 x9 λx10 s=>
 ek x6 s λx11 s=>
 lp (λ(_ _ _ _ _ _:D)(_:LS)=>none) (naF φ) φ x6 x7 x10 (.i .u64 (.ofNat 0)) x11 (.i .i64 (.ofNat 0)) s)
theorem Ke{X Y:D}{xs ys:List Nat}{φ:Nat}(hx:kx xs)(hy:kx ys)(hl:ys.length≤xs.length)(hn:xs.length≤900000000)(hs:s.fit)(hX:Hold s X xs)(hY:Hold s Y ys)(hφ:xs.length<φ):
 naJ φ X Y s=some (.n (val xs+val ys)):=by
 unfold naJ;rw[rI hX];refine(nk (show xs.length+1≤jX .i64 from(by show xs.length+1≤9223372036854775807;omega))).trans ?_;refine(Th (by omega) (by omega)).trans ?_;have hm:=More.push hs (⟨List.replicate (xs.length+1) (.i .u64 (.ofNat 0)),.rw⟩:Blk);refine(rI (hX.more hm)).trans ?_;refine Kd hx hy hl hn (hX.off (aD _)) (hY.off (aD _)) xs.length 0 φ 0 [] _ (by omega) hφ (hX.more hm) (hY.more hm) ?_ rfl (λw hw=>(by cases hw)) (a9 _) ?_
 ·rw[xx hs,aC rfl,uk];rfl
 ·simp[val]
theorem JE{x y φ:Nat}(hx:Nat.log2 x≤1000000000)(hy:Nat.log2 y≤1000000000)(h1:Nat.log2 x/64+1<φ)(h2:Nat.log2 y/64+1<φ):sE φ [.n x,.n y]=some (.n (x+y)):=by
 obtain⟨X,s1,xs,k1,hX,sx,vx,lx,m1,_⟩:=rJ (s:=s0) (m:=x) rfl hx;obtain⟨Y,s2,ys,k2,hY,sy,vy,ly,m2,_⟩:=rJ (s:=s1) (m:=y) (m1.len rfl) hy;unfold sE;refine(k1 _).trans ?_;refine(k2 _).trans ?_;have hX:=hX.more m2;have hs:=m2.len (m1.len rfl);show(ek X s2 λx43 s=>ek Y s λx44 s=>fN x43 x44 λx45=>eQ x45 (naJ φ Y X s) (naJ φ X Y s))=_;rw[rI hX,rI hY,ji];by_cases h:xs.length<ys.length
 ·rw[ep h,eP,Ke sy sx (by omega) (by omega) hs hY hX (by omega),vx,vy,ct]
 ·rw[fC h,eM,Ke sx sy (by omega) (by omega) hs hX hY (by omega),vx,vy]
def tv(as:List D):Option D:=
 u1 as λa r=>u1 r λb r=>u0 r (oL a λx=>oL b λy=>cnd (Nat.ble (Nat.log2 x) 1000000000) (cnd (Nat.ble (Nat.log2 y) 1000000000) (frc (Nat.add x y) λz=>some (.n z)) none) none)
theorem HC{as:List D}{r:D}(h:tv as=some r):∃φ,sE φ as=some r:=by
 obtain⟨a,r1,rfl,g1⟩:=jR h;obtain⟨b,r2,rfl,g2⟩:=jR g1;obtain⟨rfl,g3⟩:=oB g2;obtain⟨x,rfl,g4⟩:=gk g3;obtain⟨y,rfl,g5⟩:=gk g4;obtain⟨h1,g6⟩:=fW g5;obtain⟨h2,h⟩:=fW g6;rw[fA]at h;exact⟨Nat.log2 x/64+Nat.log2 y/64+3,by rw[JE (aa h1) (aa h2) (by omega) (by omega)];exact h⟩
end
end Go.Proofs.Ev
namespace Go.Proofs.Ev
noncomputable section
variable {s:LS} {K:D→LS→Rs}
def Rx(x y:D):Prop:=∀l off len cm z ex,x=.sl l off len cm z ex→Off l y
theorem Bi{a:Nat}{k:Nat→Rs}:Ab (.i .u64 (.ofNat a)) k=k a:=rfl
theorem SG(M a b c:Nat):Nat.mod (Nat.sub (Nat.sub (Nat.add a M) b) c) M=(a+M-b-c)%M:=rfl
theorem HV{a b c:Nat}(hc:c≤1):sW (n64 a) (n64 b) (n64 c) s K=K (.tup [n64 ((a+B64-b-c)%B64),n64 (if a<b+c then 1 else 0)]) s:=by
 unfold sW n64;rw[Bi,Bi,Bi,aF hc,eL,fA,SG,show(18446744073709551616:Nat)=B64 from rfl];by_cases h:a<b+c
 ·rw[show Nat.blt a (Nat.add b c)=true from ep h,aC h,eL]
 ·rw[show Nat.blt a (Nat.add b c)=false from fC h,aE h,e9]
theorem Td{X:D}{outs rest:List Nat}{v w i:Nat}{k2:IntKind}(h:Hold s X (outs++v::rest))(ho:outs.length=i):
 ∃s',(∀K,(eK 1 s X (.i k2 (.ofNat i)) λa s=>eU 1 s a (n64 w) K)=K .u s')∧Hold s' X ((outs++[w])++rest)∧(∀Y ys,Rx X Y→Hold s Y ys→Hold s' Y ys)∧(s.fit→s'.fit):=by
 generalize hz:outs++v::rest=zs at h;cases h with
 |nil=>cases outs<;>cases hz
 | @sl l cm ex _ hg=>
  subst hz;have hlen:(outs++v::rest).length=((outs++[w])++rest).length:=by simp
  refine⟨s.put l ⟨c64 ((outs++[w])++rest),.rw⟩,λK=>?_,?_,λY ys ha hY=>hY.put (ha _ _ _ _ _ _ rfl) hg,λhs=>rfl⟩
  ·refine(vQ hg rfl (show i<(outs++v::rest).length by simp;omega)).trans ?_;refine(CH hg rfl ?_).trans ?_
   ·rw[fO];simp;omega
   ·rw[wE,show 0+i*1=outs.length by omega,co _ _ (aD _),cC,bW];rfl
  ·have:=Hold.sl (cm:=cm) (ex:=ex) (show(s.put l ⟨c64 ((outs++[w])++rest),.rw⟩).get l=some ⟨c64 ((outs++[w])++rest),.rw⟩ by rw[sU hg,aC rfl]);rwa[←hlen]at this
def nsF(φ:Nat)(q6:D→D→D→D→D→LS→Rs)(x7 x8 x9 x10 x11:D)(s:LS):Rs:=(
 fN x11 x10 λx12=>
 eQ x12
(jn (λ(x14 x15 x16 x17 x18 x19 x20:D)(s:LS)=>
 eK 1 s x14 x17 λx21 s=>
 eJ s x21 λx22 s=>
 sW x22 x18 x16 s λx23 s=>
 gD x23 0 s λx24 s=>
 gD x23 1 s λx25 s=>
 eK 1 s x14 x17 λx26 s=>
 eU 1 s x26 x24 λ_ s=>
 ee x20 (.i .i64 (.ofNat 1)) λx27=>
 q6 x14 x15 x25 x19 x27 s) λj13=>
 ek x8 s λx28 s=>
 fN x11 x28 λx29=>
 eQ x29
(eK 1 s x8 x11 λx30 s=>
 eJ s x30 λx31 s=>
 j13 x7 x8 x9 x11 x31 x10 x11 s)
(j13 x7 x8 x9 x11 (.i .u64 (.ofNat 0)) x10 x11 s))
(eR sH [x7] s λx32 s=>
 eX false s x32 some))
theorem SF(a b c:Nat)(ha:a<B64)(hb:b<B64)(hc:c≤1):(a+B64-b-c)%B64+b+c=a+(if a<b+c then 1 else 0)*B64:=by
 by_cases h:a<b+c
 ·rw[aC h,bJ (by omega)];omega
 ·rw[aE h,show a+B64-b-c=(a-b-c)+B64 by omega,Nat.add_mod_right,bJ (by omega)];omega
theorem Ns{a b c:Nat}(ha:a<B64)(hb:b<B64)(hc:c≤1):∃d c',(∀(s:LS)(K:D→LS→Rs),sW (n64 a) (n64 b) (n64 c) s K=K (.tup [n64 d,n64 c']) s)∧d<B64∧c'≤1∧d+b+c=a+c'*B64:=
 ⟨_,_,λs K=>HV hc,bg _ (by decide),by split<;>omega,SF a b c ha hb hc⟩
theorem SA(w:Nat):val [w]=w:=rfl
theorem Kc{X Y:D}{xs ys:List Nat}{φ:Nat}(hx:kx xs)(hy:kx ys)(hle:val ys≤val xs)(hn:xs.length≤900000000)(hxy:Rx X Y):
 ∀(j i f c:Nat)(outs:List Nat)(s:LS),j+i=xs.length→j<f→Hold s X (outs++xs.drop i)→Hold s Y ys→outs.length=i→kx outs→c≤1→
  val outs+val (ys.take i)=val (xs.take i)+c*B64^i→
  lp (λ(_ _ _ _ _:D)(_:LS)=>none) (nsF φ) f X Y (n64 c) (.i .i64 (.ofNat xs.length)) (.i .i64 (.ofNat i)) s=some (.n (val xs-val ys))
 |0,i,f+1,c,outs,s,hj,hf,hX,hY,ho,hs,hc,hv=>by
  have hi:i=xs.length:=by omega
  subst hi;rw[eO];unfold nsF;rw[List.drop_length,bq]at hX;rw[ji,fC (bS _),eM,H0 hX hs (by omega)];show some (D.n (val outs))=_;have h1:=xj hs;have h2:=xj hx;rw[ho]at h1;have h3:val ys=val (ys.take xs.length):=by
   have h4:=uL (ys.take xs.length) (ys.drop xs.length);rw[cO]at h4;by_cases h5:ys.length≤xs.length
   ·rw[aM h5]
   ·rw[ah,bO (by omega)]at h4;have:val (ys.drop xs.length)=0:=by
     rcases bL (val (ys.drop xs.length))with h|h
     ·exact h
     ·have:=Nat.le_mul_of_pos_right (B64^xs.length) h;omega
    rw[this]at h4;omega
  rw[c7,←h3]at hv;have:c=0∨c=1:=by omega
  rcases this with rfl|rfl
  ·congr 2;omega
  ·exfalso;omega
 |j+1,i,f+1,c,outs,s,hj,hf,hX,hY,ho,hs,hc,hv=>by
  have hi:i<xs.length:=by omega
  have hxi:xs[i]?=some (xs.getD i 0):=by rw[aH,aB hi];rfl
  have hdr:xs.drop i=xs.getD i 0::xs.drop (i+1):=by
   rw[bZ hi,aH,aB hi];rfl
  rw[hdr]at hX;have ha':xs.getD i 0<B64:=hx _ (bU hxi);have hXi:(outs++xs.getD i 0::xs.drop (i+1))[i]?=some (xs.getD i 0):=by
   rw[bN (by omega),ho,cC];rfl
  have key:∀(b:Nat),b=ys.getD i 0→(eK 1 s X (.i .i64 (.ofNat i)) λx29 s=>eJ s x29 λx30 s=>sW x30 (n64 b) (n64 c) s λx31 s=>gD x31 0 s λx32 s=>gD x31 1 s λx33 s=>eK 1 s X (.i .i64 (.ofNat i)) λx34 s=>eU 1 s x34 x32 λ_ s=>ee (.i .i64 (.ofNat i)) (.i .i64 (.ofNat 1)) λx35=>
   lp (λ(_ _ _ _ _:D)(_:LS)=>none) (nsF φ) f X Y x33 (.i .i64 (.ofNat xs.length)) x35 s)=some (.n (val xs-val ys)):=by
   intro b hb;have hb':b<B64:=by
    subst hb;rw[aH];cases h:ys[i]?with
    |none=>decide
    |some w=>exact hy w (bU h)
   refine(vn hX hXi).trans ?_;obtain⟨d,c',k0,hd,hc',e⟩:=Ns ha' hb' hc;refine(k0 _ _).trans ?_;obtain⟨s',k1,k2,k3,_⟩:=Td (w:=d) (k2:=.i64) hX ho;show(eK 1 s X (.i .i64 (.ofNat i)) λx34 s=>eU 1 s x34 (n64 d) λ_ s=>ee (.i .i64 (.ofNat i)) (.i .i64 (.ofNat 1)) λx35=>
    lp (λ(_ _ _ _ _:D)(_:LS)=>none) (nsF φ) f X Y (n64 c') (.i .i64 (.ofNat xs.length)) x35 s)=_
   refine(k1 _).trans ?_;refine(nk (show i+1≤jX .i64 from(by show i+1≤9223372036854775807;omega))).trans ?_;refine Kc hx hy hle hn hxy j (i+1) f c' (outs++[d]) _ (by omega) (by omega) k2 (k3 _ _ hxy hY) (by simp[ho]) ?_ hc' ?_
   ·intro w hw;rcases am.1 hw with h|h
    ·exact hs w h
    ·rw[bi.1 h];exact hd
   ·rw[uL,sn,sn,ho,SA,←hb];have e2:=congrArg (· *B64^i) e;simp only[aP]at e2;rw[av,aK (B64^i) B64,←aU,aK (B64^i) d];omega
  rw[eO];unfold nsF;rw[ji,ep hi,eP];show(ek Y s λx36 s=>fN (.i .i64 (.ofNat i)) x36 λx37=>eQ x37 _ _)=_;rw[rI hY,ji];by_cases hyi:i<ys.length
  ·have hyi':ys[i]?=some (ys.getD i 0):=by rw[aH,aB hyi];rfl
   rw[ep hyi,eP];refine(vn hY hyi').trans ?_;exact key _ rfl
  ·rw[fC (by omega),eM];exact key 0 (by rw[aH,bX (by omega)];rfl)
theorem Iz{x y φ:Nat}(hx:Nat.log2 x≤1000000000)(hy:Nat.log2 y≤1000000000)(h1:Nat.log2 x/64+1<φ)(hle:y≤x):sB φ [.n x,.n y]=some (.n (x-y)):=by
 obtain⟨X,s1,xs,k1,hX,sx,vx,lx,m1,f1⟩:=rJ (s:=s0) (m:=x) rfl hx;obtain⟨Y,s2,ys,k2,hY,sy,vy,ly,m2,f2⟩:=rJ (s:=s1) (m:=y) (m1.len rfl) hy;unfold sB;refine(k1 _).trans ?_;refine(k2 _).trans ?_;have hX2:=hX.more m2;refine(rI hX2).trans ?_;have ha:Rx X Y:=by
  intro l off len cm z ex e l' off' len' cm' z' ex' e';have g2:=f2 _ _ _ _ _ _ e';subst e;cases hX with
  |sl hg=>have:=J0 hg;omega
 refine(Kc (φ:=φ) sx sy (by omega) (by omega) ha xs.length 0 φ 0 [] s2 (by omega) (by omega) (by exact hX2) hY rfl (λw hw=>(by cases hw)) (a9 _) (by simp[val])).trans ?_;rw[vx,vy]
def mP(as:List D):Option D:=
 u1 as λa r=>u1 r λb r=>u0 r (oL a λx=>oL b λy=>cnd (Nat.ble (Nat.log2 x) 1000000000) (cnd (Nat.ble y x) (frc (Nat.sub x y) λz=>some (.n z)) none) none)
theorem Gy{as:List D}{r:D}(h:mP as=some r):∃φ,sB φ as=some r:=by
 obtain⟨a,r1,rfl,g1⟩:=jR h;obtain⟨b,r2,rfl,g2⟩:=jR g1;obtain⟨rfl,g3⟩:=oB g2;obtain⟨x,rfl,g4⟩:=gk g3;obtain⟨y,rfl,g5⟩:=gk g4;obtain⟨h1,g6⟩:=fW g5;obtain⟨h2,h⟩:=fW g6;rw[fA]at h;have h1:=aa h1;have h2:=aa h2;have hy:Nat.log2 y≤1000000000:=by
  by_cases hy0:y=0
  ·subst hy0;exact a9 _
  ·have:=(z0U (n:=x) (k:=Nat.log2 y) (by omega)).2 (bT (z10 hy0) h2);omega
 exact⟨Nat.log2 x/64+3,by rw[Iz h1 hy (by omega) h2];exact h⟩
end
end Go.Proofs.Ev
namespace Go.Proofs.Ev
noncomputable section
variable {s:LS} {K:D→LS→Rs}
theorem Ay{ws:List Nat}{ex:Bool}:ek (.tree (c64 ws) ws.length ex) s K=K (.i .i64 (.ofNat ws.length)) s:=rfl
theorem HW{ws:List Nat}{ex:Bool}{i w:Nat}{k2:IntKind}(hi:ws[i]?=some w):(eK 1 s (.tree (c64 ws) ws.length ex) (.i k2 (.ofNat i)) λa s=>eJ s a K)=K (n64 w) s:=by
 have hlt:i<ws.length:=(bC.1 hi).1;show cnd (Nat.blt i ws.length) (iz (Nat.mul i 1) (c64 ws) λr=>List.rec (motive:=λ_=>Rs) none (λ_ _ _=>eJ s (.fp r) K) r) none=_;rw[ep hlt,eL,gB,show Nat.mul i 1=i from ai i,bZ (by rw[fO];exact hlt)];show K ((c64 ws)[i]'(by rw[fO];exact hlt)) s=_;have:=kP hi;rw[aB (by rw[fO];exact hlt)]at this;rw[ck this];rfl
theorem Z3(a b:Nat):Nat.div a b=a/b:=rfl
theorem Z0(a b:Nat):Nat.mod a b=a%b:=rfl
theorem ZZ(a b:Nat):Nat.mul a b=a*b:=rfl
theorem Wi{M:List D→Option D}{x y:Nat}:eR M [n64 x,n64 y] s K=ob (M [n64 x,n64 y]) λr=>ju s [] r K:=rfl
theorem VO{h l:Nat}:ju s [] (.tup [n64 h,n64 l]) K=K (.tup [n64 h,n64 l]) s:=rfl
theorem zo{x y:Nat}(hx:x<B64)(hy:y<B64):∃h l,tY [n64 x,n64 y]=some (.tup [n64 h,n64 l])∧h*B64+l=x*y∧l<B64:=by
 refine⟨x*y/B64,x*y%B64,?_,?_,bg _ (by decide)⟩
 ·unfold tY n64;rw[eV,eV,eZ,Bi,Bi,ep hx,ep hy,eL,eL,fA,fA,fA];rw[Z3,Z0,ZZ]
 ·rw[aK];exact cR _ _
theorem Mc{x y:Nat}(hx:x<B64)(hy:y<B64):∃h l,(∀(s:LS)(K:D→LS→Rs),eR tY [n64 x,n64 y] s K=K (.tup [n64 h,n64 l]) s)∧h*B64+l=x*y∧l<B64:=by
 obtain⟨h,l,e,h1,h2⟩:=zo hx hy;exact⟨h,l,λs K=>by rw[Wi,e];exact VO,h1,h2⟩
theorem TT(M a b o c h l lo2 c1 lo3 c2:Nat)(h1:h*M+l=a*b)(h2:c1*M+lo2=l+o)(h3:c2*M+lo3=lo2+c):
 (h+c1+c2)*M+lo3=a*b+o+c:=by
 rw[aP,aP];omega
theorem BU:∀{ws:List Nat}{j w:Nat}(v:Nat),ws[j]?=some w→val (ws.set j v)+w*B64^j=val ws+v*B64^j
 |[],j,w,v,h=>by simp at h
 |x::ws,0,w,v,h=>by
  simp only[bG,aA]at h;subst h;show v+B64*val ws+x*B64^0=x+B64*val ws+v*B64^0;rw[ce];omega
 |x::ws,j+1,w,v,h=>by
  simp only[bM]at h;have ih:=BU v h;show x+B64*val (ws.set j v)+w*B64^(j+1)=x+B64*val ws+v*B64^(j+1);have e:=congrArg (B64* ·) ih;simp only[bA]at e;rw[av,aK (B64^j) B64,cf w,cf v];omega
def trF(k:D→LS→Rs)(q3:D→D→LS→Rs)(x4 x5:D)(s:LS):Rs:=(
 kC x5 (.i .i64 (.ofNat 0)) λx6=>
 eI x6 true (λk=>k x4 s) s λx7 s=>
 eI x6 true (λk=>k x5 s) s λx8 s=>
 eI x6 true (λk=>et x8 (.i .i64 (.ofNat 1)) λd=>k d s) s λx9 s=>
 eI x6 true (λk=>eK 1 s x7 x9 k) s λx10 s=>
 eI x6 true (λk=>eJ s x10 k) s λx11 s=>
 eI x6 true (λk=>gx x11 (.i .u64 (.ofNat 0)) λd=>k d s) s λx12 s=>
 fX x6 x12 (.b false) s λx13 s=>
 eQ x13
(et x5 (.i .i64 (.ofNat 1)) λx14=>
 q3 x4 x14 s)
(kg 1 s x4 none (some x5) none λx15 s=>
 k x15 s))
theorem BW{ws:List Nat}{len:Nat}{k:D→LS→Rs}(h0:0<len)(hlen:len≤9223372036854775807)(hw:ws.length=len):∀(h f:Nat),h≤len→h<f→
 ∃m,m≤h∧val (ws.take m)=val (ws.take h)∧lp (λ(_ _:D)(_:LS)=>none) (trF k) f (.sl 0 0 len len 1 true) (.i .i64 (.ofNat h)) (st1 (c64 ws))=k (.sl 0 0 m len 1 true) (st1 (c64 ws))
 |0,f+1,hh,hf=>by
  refine⟨0,aD _,rfl,?_⟩;rw[eO];unfold trF;simp only[nj,fC (bS 0),wh,gE,eM,yD h0 (a9 len)]
 |h+1,f+1,hh,hf=>by
  have hi:h<ws.length:=by omega
  have hwi:ws[h]?=some ws[h]:=aB hi;have hm:h+1≤jX .i64:=bT hh hlen;rw[eO];unfold trF;by_cases hz:ws[h]=0
  ·obtain⟨m,h1,h2,h3⟩:=BW (k:=k) h0 hlen hw h f (by omega) (by omega);refine⟨m,by omega,?_,?_⟩
   ·rw[h2,sn,aH,hwi];show _=_+ws[h]*_;rw[hz,bP];rfl
   ·simp only[nj,ep (z1y h),tJ,oM (show 1≤h+1 by omega) hm,a7,ng (show h<len by omega),aV,sY (kP hwi),pb,hz,ej,fe,eP];exact h3
  ·refine⟨h+1,aD _,rfl,?_⟩;simp only[nj,ep (z1y h),tJ,oM (show 1≤h+1 by omega) hm,a7,ng (show h<len by omega),aV,sY (kP hwi),pb,gG hz,fe,eM,yD h0 hh]
end
end Go.Proofs.Ev
namespace Go.Proofs.Ev
noncomputable section
def muF(φ:Nat)(q8:D→D→D→D→D→LS→Rs)(q18:D→D→D→D→D→D→D→D→D→D→D→LS→Rs)(x19 x20 x21 x22 x23 x24 x25 x26 x27 x28 x29:D)(s:LS):Rs:=(
 fN x29 x28 λx30=>
 eQ x30
(eK 1 s x27 x29 λx31 s=>
 eJ s x31 λx32 s=>
 eR tY [x22,x32] s λx33 s=>
 gD x33 0 s λx34 s=>
 gD x33 1 s λx35 s=>
 ee x21 x29 λx36=>
 eK 1 s x20 x36 λx37 s=>
 eJ s x37 λx38 s=>
 nr x35 x38 (.i .u64 (.ofNat 0)) s λx39 s=>
 gD x39 0 s λx40 s=>
 gD x39 1 s λx41 s=>
 ee x34 x41 λx42=>
 nr x40 x23 (.i .u64 (.ofNat 0)) s λx43 s=>
 gD x43 0 s λx44 s=>
 gD x43 1 s λx45 s=>
 ee x21 x29 λx46=>
 ee x42 x45 λx47=>
 eK 1 s x20 x46 λx48 s=>
 eU 1 s x48 x44 λ_ s=>
 ee x29 (.i .i64 (.ofNat 1)) λx49=>
 q18 x19 x20 x21 x22 x47 x24 x25 x26 x27 x28 x49 s)
(ek x19 s λx50 s=>
 ee x21 x50 λx51=>
 eK 1 s x20 x51 λx52 s=>
 eU 1 s x52 x23 λ_ s=>
 ee x26 (.i .i64 (.ofNat 1)) λx53=>
 q8 x19 x20 x24 x25 x53 s))
theorem vV{a b c:Nat}(ha:a<B64)(hb:b<B64)(hc:c≤1):∃d c',(∀(s:LS)(K:D→LS→Rs),nr (n64 a) (n64 b) (n64 c) s K=K (.tup [n64 d,n64 c']) s)∧d<B64∧c'≤1∧c'*B64+d=a+b+c:=by
 refine⟨_,_,λs K=>HZ hc,bg _ (by decide),?_,?_⟩
 ·have:a+b+c<B64*2:=by omega
  have:=d8 this;omega
 ·rw[aK];exact cR _ _
theorem WW(P B vz vz1 z lo c c' a y:Nat)(h1:vz1+z*P=vz+lo*P)(h2:c'*B+lo=a*y+z+c):vz1+c'*(P*B)=vz+a*y*P+c*P:=by
 have e:=congrArg (· *P) h2;simp only[aP]at e;rw[show c'*(P*B)=c'*B*P by rw[aK P B,aU]];omega
theorem RV(M a b o c H lo:Nat)(ha:a<M)(hb:b<M)(ho:o<M)(hc:c<M)(h:H*M+lo=a*b+o+c):H<M:=by
 have h1:a*b≤(M-1)*(M-1):=bv (by omega) (by omega);obtain⟨m,rfl⟩:∃m,M=m+1:=⟨M-1,by omega⟩
 rw[a7]at h1;have h2:H*(m+1)<(m+1)*(m+1):=by
  rw[aP m 1 (m+1),bA m m 1];omega
 exact z1o h2
theorem Kh{ys:List Nat}{a i N φ:Nat}{ex:Bool}{q8:D→D→D→D→D→LS→Rs}{X24 X25:D}(ha:a<B64)(hy:kx ys)(hN:N≤1000000000)(hiN:i+ys.length<N):
 ∀(j' j f c:Nat)(zs:List Nat),j'+j=ys.length→j'<f→zs.length=N→kx zs→c<B64→
 ∃zs':List Nat,zs'.length=N∧kx zs'∧val zs'+zs.getD (i+ys.length) 0*B64^(i+ys.length)+a*val (ys.take j)*B64^i=val zs+c*B64^(i+j)+a*val ys*B64^i∧
  lp (λ(_ _ _ _ _ _ _ _ _ _ _:D)(_:LS)=>none) (muF φ q8) f (.tree (c64 ys) ys.length ex) (.sl 0 0 N N 1 true) (.i .i64 (.ofNat i)) (n64 a) (n64 c) X24 X25 (.i .i64 (.ofNat i)) (.tree (c64 ys) ys.length ex) (.i .i64 (.ofNat ys.length)) (.i .i64 (.ofNat j)) (st1 (c64 zs))
   =q8 (.tree (c64 ys) ys.length ex) (.sl 0 0 N N 1 true) X24 X25 (.i .i64 (.ofNat (i+1))) (st1 (c64 zs'))
 |0,j,f+1,c,zs,hj,hf,hl,hs,hc=>by
  have hj:j=ys.length:=by omega
  subst hj;have hzi:zs[i+ys.length]?=some (zs.getD (i+ys.length) 0):=by rw[aH,aB (by omega)];rfl
  refine⟨zs.set (i+ys.length) c,by simp[hl],za hs hc,?_,?_⟩
  ·rw[BU c hzi,c7]
  ·rw[eO];unfold muF;rw[ji,fC (bS _),eM];refine(Ay).trans ?_;refine(nk (show i+ys.length≤jX .i64 from(by show i+ys.length≤9223372036854775807;omega))).trans ?_;refine(ng hiN).trans ?_;rw[aV];refine(uP (by rw[fO];omega)).trans ?_;refine(nk (show i+1≤jX .i64 from(by show i+1≤9223372036854775807;omega))).trans ?_;rw[wE]
 |j'+1,j,f+1,c,zs,hj,hf,hl,hs,hc=>by
  have hjl:j<ys.length:=by omega
  have hyj:ys[j]?=some (ys.getD j 0):=by rw[aH,aB hjl];rfl
  have hzj:zs[i+j]?=some (zs.getD (i+j) 0):=by rw[aH,aB (by omega)];rfl
  have hb:=hy _ (bU hyj);have ho:=hs _ (bU hzj);obtain⟨h,l,k1,e1,hl1⟩:=Mc ha hb;obtain⟨lo2,c1,k2,hlo2,hc1,e2⟩:=vV hl1 ho (a9 1);obtain⟨lo3,c2,k3,hlo3,hc2,e3⟩:=vV hlo2 hc (a9 1);have hd:=TT B64 a (ys.getD j 0) (zs.getD (i+j) 0) c h l lo2 c1 lo3 c2 e1 (e2.trans (bH _)) (e3.trans (bH _));have hC:=RV B64 _ _ _ _ _ _ ha hb ho hc hd;obtain⟨zs',h1,h2,h3,h4⟩:=Kh (φ:=φ) (ex:=ex) (q8:=q8) (X24:=X24) (X25:=X25) ha hy hN hiN j' (j+1) f (h+c1+c2) (zs.set (i+j) lo3) (by omega) (by omega) (by simp[hl]) (za hs hlo3) hC;refine⟨zs',h1,h2,?_,?_⟩
  ·have e4:=BU lo3 hzj;have e5:=WW (B64^(i+j)) B64 _ _ _ _ _ _ _ _ e4 hd;rw[sn,bA,aP,show i+(j+1)=(i+j)+1 from rfl,av]at h3;have e6:a*(ys.getD j 0*B64^j)*B64^i=a*ys.getD j 0*B64^(i+j):=by
    rw[bY,aK (B64^i),←aU,←aU]
   have e7:(zs.set (i+j) lo3).getD (i+ys.length) 0=zs.getD (i+ys.length) 0:=by
    rw[aH,aH,bV (by omega)]
   rw[e6,e7]at h3;generalize B64^(i+ys.length)=P1 at*;generalize (h+c1+c2)*(B64^(i+j)*B64)=P2 at*;generalize a*ys.getD j 0*B64^(i+j)=P3 at*;generalize a*val (List.take j ys)*B64^i=P4 at*;generalize c*B64^(i+j)=P5 at*;generalize a*val ys*B64^i=P6 at*;generalize zs.getD (i+ys.length) 0*P1=P7 at*;clear hd hC e1 e2 e3 e4 k1 k2 k3 h4;omega
  ·rw[←h4,eO];conv=>lhs;unfold muF
   rw[ji,ep hjl,eP];refine(HW hyj).trans ?_;refine(k1 _ _).trans ?_;refine(nk (show i+j≤jX .i64 from(by show i+j≤9223372036854775807;omega))).trans ?_;refine(ng (show i+j<N by omega)).trans ?_;rw[aV];refine(sY (kP hzj)).trans ?_;refine(k2 _ _).trans ?_;refine(nk (show h+c1≤jX .u64 from bc (br (z1z _ c2) hC))).trans ?_;refine(k3 _ _).trans ?_;refine(nk (show i+j≤jX .i64 from(by show i+j≤9223372036854775807;omega))).trans ?_;refine(nk (show h+c1+c2≤jX .u64 from bc hC)).trans ?_;refine(ng (show i+j<N by omega)).trans ?_;rw[aV];refine(uP (by rw[fO];omega)).trans ?_;refine(nk (show j+1≤jX .i64 from(by show j+1≤9223372036854775807;omega))).trans ?_;rw[wE];rfl
def moF(φ:Nat)(q8:D→D→D→D→D→LS→Rs)(x9 x10 x11 x12 x13:D)(s:LS):Rs:=(
 fN x13 x12 λx14=>
 eQ x14
(eK 1 s x11 x13 λx15 s=>
 eJ s x15 λx16 s=>
 ek x9 s λx17 s=>
 lp (λ(_ _ _ _ _ _ _ _ _ _ _:D)(_:LS)=>none) (muF φ q8) φ x9 x10 x13 x16 (.i .u64 (.ofNat 0)) x11 x12 x13 x9 x17 (.i .i64 (.ofNat 0)) s)
((fG φ) [x10] s λx54 s=>
 eX false s x54 some))
theorem Ki{xs ys:List Nat}{N φ:Nat}{ex ex':Bool}(hx:kx xs)(hy:kx ys)(hN:N≤1000000000)(hNe:N=xs.length+ys.length)(hφ:ys.length<φ):
 ∀(k i f:Nat)(zs:List Nat),k+i=xs.length→k<f→zs.length=N→kx zs→val zs=val (xs.take i)*val ys→
 ∃zs':List Nat,zs'.length=N∧kx zs'∧val zs'=val xs*val ys∧
  lp (λ(_ _ _ _ _:D)(_:LS)=>none) (moF φ) f (.tree (c64 ys) ys.length ex) (.sl 0 0 N N 1 true) (.tree (c64 xs) xs.length ex') (.i .i64 (.ofNat xs.length)) (.i .i64 (.ofNat i)) (st1 (c64 zs))
   =fG φ [.sl 0 0 N N 1 true] (st1 (c64 zs')) λx54 s=>eX false s x54 some
 |0,i,f+1,zs,hi,hf,hl,hs,hv=>by
  have hi:i=xs.length:=by omega
  subst hi;refine⟨zs,hl,hs,by rw[hv,c7],?_⟩;rw[eO];unfold moF;rw[ji,fC (bS _),eM]
 |k+1,i,f+1,zs,hi,hf,hl,hs,hv=>by
  have hix:i<xs.length:=by omega
  have hxi:xs[i]?=some (xs.getD i 0):=by rw[aH,aB hix];rfl
  obtain⟨zs1,h1,h2,h3,h4⟩:=Kh (φ:=φ) (ex:=ex) (q8:=lp (λ(_ _ _ _ _:D)(_:LS)=>none) (moF φ) f) (X24:=.tree (c64 xs) xs.length ex') (X25:=.i .i64 (.ofNat xs.length)) (i:=i) (hx _ (bU hxi)) hy hN (by omega) ys.length 0 φ 0 zs (by omega) hφ hl hs (by decide);have htop:zs.getD (i+ys.length) 0=0:=by
   have hz:zs[i+ys.length]?=some (zs.getD (i+ys.length) 0):=by rw[aH,aB (by omega)];rfl
   have hlt:val zs<B64^(i+ys.length):=by
    rw[hv,bY];have g1:=xj (ws:=xs.take i) λw hw=>hx w (bw hw);rw[ah,bO (by omega)]at g1;exact z1p g1 (dN (xj hy)) (bR (by decide))
   rw[xC hs hz,cL hlt,Nat.zero_mod]
  rw[htop]at h3;obtain⟨zs2,g1,g2,g3,g4⟩:=Ki hx hy hN hNe hφ k (i+1) f zs1 (by omega) (by omega) h1 h2 (by
   rw[sn,aP];rw[bP,bP,d9,show val []=0 from rfl,dG,bP]at h3;rw[show xs.getD i 0*B64^i*val ys=xs.getD i 0*val ys*B64^i by rw[aU,aK (B64^i),←aU],←hv];omega)
  refine⟨zs2,g1,g2,g3,?_⟩;rw[←g4,←h4,eO];conv=>lhs;unfold moF
  rw[ji,ep hix,eP];refine(HW hxi).trans ?_;rfl
end
end Go.Proofs.Ev
namespace Go.Proofs.Ev
theorem Bm(l:List UInt8):ef l 0<256^l.length:=by
 induction l with
 |nil=>exact cy
 |cons a x ih=>
  show ef x (0*256+a.toNat)<256^(x.length+1);rw[lW,bP,aV,av];have ha:a.toNat+1≤256:=a.toNat_lt;have h2:(a.toNat+1)*256^x.length≤256*256^x.length:=aL _ ha;rw[aP,bE]at h2;rw[aK (256^x.length) 256];omega
theorem blt_eq{a b c d:Nat}(h:a<b↔c<d):Nat.blt a b=Nat.blt c d:=by
 by_cases h1:a<b
 ·rw[ep h1,ep (h.1 h1)]
 ·rw[fC h1,fC λh2=>h1 (h.2 h2)]
theorem HO:∀{x y:List UInt8},x.length=y.length→Op.bytesLess x y=Nat.blt (ef x 0) (ef y 0)
 |[],[],_=>rfl
 |a::x,b::y,h=>by
  have hl:x.length=y.length:=Nat.succ.inj h;have ih:=HO hl;show(decide (a<b)||(a==b&&Op.bytesLess x y))=Nat.blt (ef x (0*256+a.toNat)) (ef y (0*256+b.toNat));rw[lW x,lW y,ih,bP,aV,aV,←hl];have hx:=Bm x;have hy:=Bm y;rw[←hl]at hy;generalize 256^x.length=P at*;generalize ef x 0=vx at*;generalize ef y 0=vy at*;rcases dA a.toNat b.toNat with h1|h1|h1
  ·have h2:a<b:=UInt8.lt_iff_toNat_lt.2 h1;rw[aS h2,Bool.true_or];have h3:(a.toNat+1)*P≤b.toNat*P:=aL _ h1;rw[aP,bE]at h3;rw[ep (by omega)]
  ·have h2:a=b:=UInt8.toNat_inj.1 h1;subst h2;have h3:¬a<a:=UInt8.lt_irrefl a;rw[aN h3,z1q,beq_self_eq_true,z1n];exact blt_eq (by omega)
  ·have h2:¬a<b:=λh=>by have:=UInt8.lt_iff_toNat_lt.1 h;omega
   have h4:(a==b)=false:=by
    apply beq_eq_false_iff_ne.2;intro e;subst e;omega
   rw[aN h2,z1q,h4,z1g];have h3:(b.toNat+1)*P≤a.toNat*P:=aL _ h1;rw[aP,bE]at h3;rw[fC (by omega)]
theorem Pq{a b:Nat}(h:(eo a).length<(eo b).length):a<b:=by
 have h1:=Bm (eo a);rw[mc]at h1;have hb:0<b:=by
  rcases bL b with h0|h0
  ·subst h0;rw[DO]at h;exact absurd h (cU _)
  ·exact h0
 obtain⟨h2,h3⟩:=tI hb;have h4:256^(eo a).length≤256^((eo b).length-1):=ba (by decide) (by omega);omega
theorem P9{a b:Nat}(h:(eo a).length=(eo b).length):Op.bytesLess (eo a) (eo b)=Nat.blt a b:=by
 rw[HO h,mc,mc]
end Go.Proofs.Ev
namespace Go.Proofs.Ev
noncomputable section
variable {s:LS} {K:D→LS→Rs}
inductive HT (s:LS):D→List Nat→Prop
 |tr {ws:List Nat} {ex:Bool}:HT s (.tree (c64 ws) ws.length ex) ws
 |sl {l cm:Nat} {ex:Bool} {ws:List Nat} {b:Blk} (hg:s.get l=some b) (hc:b.cs=c64 ws) (hl:b.st.live=true):HT s (.sl l 0 ws.length cm 1 ex) ws
theorem Hold.ht{x:D}{ws:List Nat}(h:Hold s x ws):HT s x ws:=by
 cases h with
 |nil=>exact HT.tr (ws:=[])
 |sl hg=>exact .sl hg rfl rfl
theorem Tj{x:D}{ws:List Nat}(h:HT s x ws):ek x s K=K (.i .i64 (.ofNat ws.length)) s:=by
 cases h<;>rfl
theorem Ig{x:D}{ws:List Nat}{n:Nat}(h:HT s x ws):∃ex ls,(∀kk,kJ s (n+2) x kk=kk (.tree (c64 ws) ws.length ex) ls)∧∀l,l∈ls→∃b,s.get l=some b:=by
 cases h with
 | @tr ws ex=>exact⟨ex,[],λkk=>rfl,λl h=>by cases h⟩
 | @sl l cm ex ws b hg hc hl=>
  refine⟨cnd ex (Nat.beq cm ws.length) false,[l],λkk=>?_,λl' h=>⟨b,by rw[bi.1 h];exact hg⟩⟩;show(jQ s l λb=>cnd (lv b.st) (iz 0 b.cs λr=>iy (Nat.mul ws.length 1) r λr=>nI (kJ s (n+1)) r λcs ls=>mw (cnd ex (Nat.beq cm ws.length) false) λex=>kk (.tree cs ws.length ex) (l::ls)) none)=_;rw[oe,hg];show cnd (lv b.st) (iz 0 b.cs λr=>iy (Nat.mul ws.length 1) r λr=>nI (kJ s (n+1)) r λcs ls=>mw (cnd ex (Nat.beq cm ws.length) false) λex=>kk (.tree cs ws.length ex) (l::ls)) none=_;have hlen:(c64 ws).length=ws.length:=by simp[c64]
  rw[sI,hl,eL,hc,gB,i9,show Nat.mul ws.length 1=ws.length from ai _,aj,aC (by omega),aM (by omega),Bw,jC]
theorem xN:∀(ls:List Nat)(s:LS),(∀l,l∈ls→∃b,s.get l=some b)→∃s',(∀k,vR ls s k=k s')∧(∀x ws,HT s x ws→HT s' x ws)∧(s.fit→s'.fit)
 |[],s,h=>⟨s,λk=>rfl,λ_ _ h=>h,id⟩
 |l::ls,s,h=>by
  obtain⟨b,hb⟩:=h l (cA ..);obtain⟨s',h1,h2,h3⟩:=xN ls (s.put l ⟨b.cs,fzS b.st⟩) λl' hl=>by
   obtain⟨b',hb'⟩:=h l' (bm _ hl);rw[sU hb];by_cases e:l'=l
   ·rw[aC e];exact⟨_,rfl⟩
   ·rw[aE e];exact⟨_,hb'⟩
  refine⟨s',λk=>?_,λx ws hx=>h2 x ws ?_,λhs=>h3 rfl⟩
  ·show(jQ s l λb=>oN s l ⟨b.cs,fzS b.st⟩ λs=>vR ls s k)=_;rw[oe,hb];show(oN s l ⟨b.cs,fzS b.st⟩ λs=>vR ls s k)=_;rw[HX hb,h1]
  ·cases hx with
   |tr=>exact .tr
   | @sl l2 cm ex ws b2 hg hc hl=>
    by_cases e:l2=l
    ·subst e;rw[hb]at hg;cases hg;exact .sl (b:=⟨b.cs,fzS b.st⟩) (by rw[sU hb,aC rfl]) hc (by show(fzS b.st).live=true;rw[Qd,BE];assumption)
    ·exact .sl (by rw[sU hb,aE e];exact hg) hc hl
theorem zC{M:List D→Option D}{x y:D}{xs ys:List Nat}(hx:HT s x xs)(hy:HT s y ys):∃ex ey ls,(∀K,eR M [x,y] s K=ob (M [.tree (c64 xs) xs.length ex,.tree (c64 ys) ys.length ey]) λr=>ju s ls r K)∧∀l,l∈ls→∃b,s.get l=some b:=by
 obtain⟨ex,l1,h1,g1⟩:=Ig (n:=58) hx;obtain⟨ey,l2,h2,g2⟩:=Ig (n:=58) hy;refine⟨ex,ey,l1++(l2++[]),λK=>?_,λl hl=>?_⟩
 ·show kJ s 60 x (λy1 a=>kJ s 60 y λy2 b=>l7 b [] λab=>l7 a ab λab=>ob (M [y1,y2]) λr=>ju s ab r K)=_;rw[h1,h2,gT,gT]
 ·rw[bq]at hl;rcases am.1 hl with h|h
  ·exact g1 l h
  ·exact g2 l h
theorem Qh{ls:List Nat}{cs:List D}{n:Nat}{e:Bool}:ju s ls (.tree cs n e) K=vR ls s λs=>K (.tree cs n e) s:=rfl
theorem BG{ls:List Nat}{cs ds:List D}{n m:Nat}{e f:Bool}:ju s ls (.tup [.tree cs n e,.tree ds m f]) K=vR ls s λs=>K (.tup [.tree cs n e,.tree ds m f]) s:=rfl
theorem pc{x:D}{ws:List Nat}(hx:HT s x ws)(h:kx ws)(hl:ws.length≤1000000000):eR sH [x] s K=K (.n (val ws)) s:=by
 obtain⟨ex,ls,hr,_⟩:=Ig (n:=58) hx;show kJ s 60 x (λy a=>l7 a [] λab=>ob (sH [y]) λr=>ju s ab r K)=_;rw[hr,gT,Bf h hl];rfl
theorem Sg{ws:List Nat}{m len:Nat}(hm:m≤ws.length):∃e,eX false (st1 (c64 ws)) (.sl 0 0 m len 1 true) some=some (.tree (c64 (ws.take m)) m e):=by
 refine⟨true&&len==m,?_⟩;unfold eX;rw[mU];show uw (nu false (st1 (c64 ws)).get fv (.sl 0 0 m len 1 true)) some=_;have:nu false (st1 (c64 ws)).get fv (.sl 0 0 m len 1 true)=some (.tree (c64 (ws.take m)) m (true&&len==m)):=by
  have hcut:cut 0 (m*1) (c64 ws)=some (c64 (ws.take m)):=by
   unfold cut;rw[aj,ai,aC (by rw[ah,fO];omega)];unfold c64;rw[z0Y]
  have hm:iP (res (st1 (c64 ws)).get 59) (c64 (ws.take m))=some (c64 (ws.take m),[]):=kL (k:=58) _ (vT _);have hr:res (st1 (c64 ws)).get 60 (.sl 0 0 m len 1 true)=some (.tree (c64 (ws.take m)) m (true&&len==m),[0]):=by
   show(match (st1 (c64 ws)).get 0 with
    |some b=>if !b.st.live then none else match cut 0 (m*1) b.cs with
     |some r=>match iP (res (st1 (c64 ws)).get 59) r with
      |some (cs,ls)=>some (D.tree cs m (true&&len==m),0::ls)
      |none=>none
     |none=>none
    |none=>none)=_
   rw[ua];show(if !Stt.rw.live then none else match cut 0 (m*1) (c64 ws)with
    |some r=>match iP (res (st1 (c64 ws)).get 59) r with
     |some (cs,ls)=>some (D.tree cs m (true&&len==m),0::ls)
     |none=>none
    |none=>none)=_
   rw[aE (by decide),hcut];show(match iP (res (st1 (c64 ws)).get 59) (c64 (ws.take m))with
    |some (cs,ls)=>some (D.tree cs m (true&&len==m),0::ls)
    |none=>none)=_
   rw[hm]
  show(match yi (res (st1 (c64 ws)).get 60 (.sl 0 0 m len 1 true))with
   |some (d,o,ls)=>if o.all λl=> !ls.contains l then some d else none
   |none=>none)=_
  rw[hr];rfl
 rw[this,gS];rfl
theorem FO{xs ys:List Nat}{ex ey:Bool}{φ:Nat}(hx:kx xs)(hy:kx ys)(hn:xs.length+ys.length≤1000000000)(hφ:xs.length+ys.length<φ):
 ∃zs e,kx zs∧val zs=val xs*val ys∧zs.length≤xs.length+ys.length∧mY φ [.tree (c64 xs) xs.length ex,.tree (c64 ys) ys.length ey]=some (.tree (c64 zs) zs.length e):=by
 obtain⟨zs,h1,h2,h3,h4⟩:=Ki (N:=xs.length+ys.length) (φ:=φ) (ex:=ey) (ex':=ex) hx hy hn rfl (by omega) xs.length 0 φ (List.replicate (xs.length+ys.length) 0) (by omega) (by omega) (by simp) (D8 _) (by rw[E8,d9];show 0=0*val ys;rw[bP]);have e0:mY φ [.tree (c64 xs) xs.length ex,.tree (c64 ys) ys.length ey]=fG φ [.sl 0 0 (xs.length+ys.length) (xs.length+ys.length) 1 true] (st1 (c64 zs)) λx54 s=>eX false s x54 some:=by
  rw[←h4];show(ek (.tree (c64 xs) xs.length ex) s0 λx3 s=>ek (.tree (c64 ys) ys.length ey) s λx4 s=>ee x3 x4 λx5=>mK 1 8 [(.i .u64 (.ofNat 0))] s x5 x5 λx6 s=>ek (.tree (c64 xs) xs.length ex) s λx7 s=>
   lp (λ(_ _ _ _ _:D)(_:LS)=>none) (moF φ) φ (.tree (c64 ys) ys.length ey) x6 (.tree (c64 xs) xs.length ex) x7 (.i .i64 (.ofNat 0)) s)=_
  refine(Ay).trans ?_;refine(Ay).trans ?_;refine(nk (show xs.length+ys.length≤jX .i64 from(by show xs.length+ys.length≤9223372036854775807;omega))).trans ?_;refine(yz (by omega) (by omega)).trans ?_;refine(Ay).trans ?_;rw[uk]
 by_cases h0:xs.length+ys.length=0
 ·have hz:zs=[]:=a8 (by omega);subst hz;refine⟨[],true,λw hw=>(by cases hw),h3,by simp,?_⟩;rw[e0,h0];obtain⟨f,rfl⟩:∃f,φ=f+1:=⟨φ-1,by omega⟩
  rw[y3];rfl
 ·obtain⟨m,g1,g2,g3⟩:=BW (k:=λx54 s=>eX false s x54 some) (by omega) (by omega) h1 (xs.length+ys.length) φ (aD _) hφ;obtain⟨e,g4⟩:=Sg (ws:=zs) (m:=m) (len:=xs.length+ys.length) (by omega);refine⟨zs.take m,e,λw hw=>h2 w (bw hw),?_,?_,?_⟩
  ·rw[g2,←h1,c7,h3]
  ·rw[ah];omega
  ·rw[e0,y3];refine(qk).trans ?_;refine Eq.trans g3 ?_;rw[g4,ah,bO (by omega)]
theorem JA{x y φ:Nat}(hx:Nat.log2 x≤1000000000)(hy:Nat.log2 y≤1000000000)(hφ:Nat.log2 x/64+Nat.log2 y/64+2<φ):sC φ [.n x,.n y]=some (.n (x*y)):=by
 obtain⟨X,s1,xs,k1,hX,sx,vx,lx,m1,_⟩:=rJ (s:=s0) (m:=x) rfl hx;obtain⟨Y,s2,ys,k2,hY,sy,vy,ly,m2,_⟩:=rJ (s:=s1) (m:=y) (m1.len rfl) hy;unfold sC;refine(k1 _).trans ?_;refine(k2 _).trans ?_;obtain⟨ex,ey,ls,h1,h2⟩:=zC (M:=mY φ) (hX.more m2).ht hY.ht;obtain⟨s3,f1,f2,f3⟩:=xN ls s2 h2;obtain⟨zs,e,g1,g2,g3,g4⟩:=FO (ex:=ex) (ey:=ey) (φ:=φ) sx sy (by omega) (by omega);refine(h1 _).trans ?_;rw[g4];show ju s2 ls (.tree (c64 zs) zs.length e) _=_;rw[Qh,f1];refine(pc HT.tr g1 (by omega)).trans ?_;rw[g2,vx,vy];rfl
def ms(as:List D):Option D:=
 u1 as λa r=>u1 r λb r=>u0 r (oL a λx=>oL b λy=>cnd (Nat.ble (Nat.log2 x) 1000000000) (cnd (Nat.ble (Nat.log2 y) 1000000000) (frc (Nat.mul x y) λz=>some (.n z)) none) none)
theorem HA{as:List D}{r:D}(h:ms as=some r):∃φ,sC φ as=some r:=by
 obtain⟨a,r1,rfl,g1⟩:=jR h;obtain⟨b,r2,rfl,g2⟩:=jR g1;obtain⟨rfl,g3⟩:=oB g2;obtain⟨x,rfl,g4⟩:=gk g3;obtain⟨y,rfl,g5⟩:=gk g4;obtain⟨h1,g6⟩:=fW g5;obtain⟨h2,h⟩:=fW g6;rw[fA]at h;exact⟨Nat.log2 x/64+Nat.log2 y/64+3,by rw[JA (aa h1) (aa h2) (by omega)];exact h⟩
theorem Wb{a b:Nat}{k:D→Rs}:fN (.n a) (.n b) k=k (.b (Op.bytesLess (eo a) (eo b))):=by
 show fV .lss (.n a) (.n b) k=_;unfold fV;rw[gS];rfl
theorem F4{a b:Nat}{k:D→Rs}:gx (.n a) (.n b) k=k (.b (Nat.beq a b)):=by
 show fV .eql (.n a) (.n b) k=_;unfold fV;rw[gS];rfl
theorem JD{x y φ:Nat}:sD φ [.n x,.n y]=some (cnd (Nat.blt x y) (.i .i64 (.negSucc 0)) (cnd (Nat.beq x y) (.i .i64 (.ofNat 0)) (.i .i64 (.ofNat 1)))):=by
 unfold sD;dsimp only[eV,eZ];rw[xK,xK,ji];by_cases h1:(eo x).length<(eo y).length
 ·rw[ep h1,ep (Pq h1)];rfl
 ·rw[fC h1];simp only[show ∀(op:(D→LS→Rs)→Rs)(s:LS)(k:D→LS→Rs),eI (.b false) false op s k=op k from λ_ _ _=>rfl,xK,pb];by_cases h2:(eo x).length=(eo y).length
  ·rw[h2,ej];simp only[tJ,Wb,P9 h2,fe,gE];by_cases h3:x<y
   ·rw[ep h3,eP];rfl
   ·rw[fC h3,eM,F4];cases Nat.beq x y<;>rfl
  ·rw[gG h2];simp only[wh,gE,eM,F4];have h3:y<x:=Pq (by omega);rw[fC (by omega),gG (show x≠y by omega)];rfl
def nH(as:List D):Option D:=
 u1 as λa r=>u1 r λb r=>u0 r (oL a λx=>oL b λy=>some (cnd (Nat.blt x y) (.i .i64 (.negSucc 0)) (cnd (Nat.beq x y) (.i .i64 (.ofNat 0)) (.i .i64 (.ofNat 1)))))
theorem AU{as:List D}{r:D}(h:nH as=some r):∃φ,sD φ as=some r:=by
 obtain⟨a,r1,rfl,g1⟩:=jR h;obtain⟨b,r2,rfl,g2⟩:=jR g1;obtain⟨rfl,g3⟩:=oB g2;obtain⟨x,rfl,g4⟩:=gk g3;obtain⟨y,rfl,g5⟩:=gk g4;exact⟨0,by rw[JD];exact g5⟩
end
end Go.Proofs.Ev
set_option maxRecDepth 1000000
set_option maxHeartbeats 0
namespace Go.Proofs.Ev
noncomputable section
def iT(φ:Nat):List D→Option D:=
λas=>
(λ(s:LS)=>
 u1 as λc g=>
 u1 g λd h=>
 u0 h (
 ek c s λk s=>
 ek d s λl s=>
 mE k l λm=>
 eQ m
(ek c s λn s=>
 ek d s λo s=>
 fN n o λp=>
 eQ p
(eX false s (.i .i64 (.negSucc 0)) some)
(eX false s (.i .i64 (.ofNat 1)) some))
(ek c s λu s=>
 et u (.i .i64 (.ofNat 1)) λv=>
 lp (λ(_ _ _:D)(_:LS)=>none) (λ(w:D→D→D→LS→Rs)(e f b:D)(s:LS)=>
 jt b (.i .i64 (.ofNat 0)) λy=>
 eQ y
(eK 1 s e b λz s=>
 eJ s z λA s=>
 eK 1 s f b λB s=>
 eJ s B λC s=>
 mE A C λE=>
 eQ E
(eK 1 s e b λF s=>
 eJ s F λG s=>
 eK 1 s f b λH s=>
 eJ s H λI s=>
 fN G I λJ=>
 eQ J
(eX false s (.i .i64 (.negSucc 0)) some)
(eX false s (.i .i64 (.ofNat 1)) some))
(et b (.i .i64 (.ofNat 1)) λK=>
 w e f K s))
(eX false s (.i .i64 (.ofNat 0)) some)) φ c d v s))) s0
def mA(φ:Nat):List D→Option D:=
λas=>
(λ(s:LS)=>
 u1 as λb m=>
 u0 m (
 jn (λ(d f:D)(s:LS)=>
 jn (λ(e g:D)(s:LS)=>
 jn (λ(n o:D)(s:LS)=>
 lP .u8 n s λp s=>
 kS (.index (.c (.s [0,1,2,2,3,3,3,3,4,4,4,4,4,4,4,4,5,5,5,5,5,5,5,5,5,5,5,5,5,5,5,5,6,6,6,6,6,6,6,6,6,6,6,6,6,6,6,6,6,6,6,6,6,6,6,6,6,6,6,6,6,6,6,6,7,7,7,7,7,7,7,7,7,7,7,7,7,7,7,7,7,7,7,7,7,7,7,7,7,7,7,7,7,7,7,7,7,7,7,7,7,7,7,7,7,7,7,7,7,7,7,7,7,7,7,7,7,7,7,7,7,7,7,7,7,7,7,7,8,8,8,8,8,8,8,8,8,8,8,8,8,8,8,8,8,8,8,8,8,8,8,8,8,8,8,8,8,8,8,8,8,8,8,8,8,8,8,8,8,8,8,8,8,8,8,8,8,8,8,8,8,8,8,8,8,8,8,8,8,8,8,8,8,8,8,8,8,8,8,8,8,8,8,8,8,8,8,8,8,8,8,8,8,8,8,8,8,8,8,8,8,8,8,8,8,8,8,8,8,8,8,8,8,8,8,8,8,8,8,8,8,8,8,8,8,8,8,8,8,8,8,8,8,8,8,8])) (.c p)) s λu s=>
 lP .i64 u s λv s=>
 ee o v λw=>
 eX false s w some) λh=>
 jt e (.i .u64 (.ofNat 256)) λy=>
 eQ y
(o5 e (.i .u64 (.ofNat 8)) λz=>
 ee g (.i .i64 (.ofNat 8)) λA=>
 h z A s)
(h e g s)) λk=>
 jt d (.i .u64 (.ofNat 65536)) λB=>
 eQ B
(o5 d (.i .u64 (.ofNat 16)) λC=>
 ee f (.i .i64 (.ofNat 16)) λE=>
 k C E s)
(k d f s)) λl=>
 jt b (.i .u64 (.ofNat 4294967296)) λF=>
 eQ F
(o5 b (.i .u64 (.ofNat 32)) λG=>
 l G (.i .i64 (.ofNat 32)) s)
(l b (.i .i64 (.ofNat 0)) s))) s0
def gK(φ:Nat):List D→Option D:=
λas=>
(λ(s:LS)=>
 u1 as λb c=>
 u0 c (
 eR (mA φ) [b] s λd s=>
 et (.i .i64 (.ofNat 64)) d λe=>
 eX false s e some)) s0
def gU(φ:Nat):List D→Option D:=
λas=>
(λ(s:LS)=>
 u1 as λbm bn=>
 u1 bn λbo bp=>
 u1 bp λM bu=>
 u0 bu (
 jn (λ(N bv O:D)(s:LS)=>
 jn (λ(P g h:D)(s:LS)=>
 gx P (.i .u64 (.ofNat 0)) λbw=>
 eQ bw
(u7 g h λbz=>
 JP g h λbA=>
 eX false s (.tup [bz,bA]) some)
(eR (gK φ) [h] s λbB s=>
 lP .u64 bB s λf s=>
 vm h f λw=>
 o5 w (.i .u64 (.ofNat 32)) λy=>
 uu w (.i .u64 (.ofNat 4294967295)) λbC=>
 vm P f λbE=>
 et (.i .u64 (.ofNat 64)) f λbF=>
 o5 g bF λbG=>
 kOr bE bG λz=>
 vm g f λS=>
 o5 S (.i .u64 (.ofNat 32)) λbH=>
 uu S (.i .u64 (.ofNat 4294967295)) λbI=>
 u7 z y λU=>
 kv U y λbJ=>
 et z bJ λbK=>
 jn (λ(V bM A bN bO bP bS W:D)(s:LS)=>
 kv bO (.i .u64 (.ofNat 4294967296)) λbU=>
 ee bU bP λbV=>
 kv W V λbW=>
 et bV bW λB=>
 u7 B A λX=>
 kv X A λbX=>
 et B bX λbY=>
 jn (λ(bZ cb cc cd ce Y:D)(s:LS)=>
 kv cd (.i .u64 (.ofNat 4294967296)) λcf=>
 ee cf Y λcg=>
 kv ce (.i .u64 (.ofNat 4294967296)) λch=>
 ee ch cc λci=>
 kv Y bZ λck=>
 et ci ck λcl=>
 o5 cl cb λcm=>
 eX false s (.tup [cg,cm]) some) λZ=>
 lp (λ(_ _ _ _ _ _ _ _ _:D)(_:LS)=>none) (λ(cn:D→D→D→D→D→D→D→D→D→LS→Rs)(C E bb bc l F bd G m:D)(s:LS)=>
 jt m (.i .u64 (.ofNat 4294967296)) λc=>
 eI c false (λk=>k m s) s λco s=>
 eI c false (λk=>k bc s) s λcp s=>
 eI c false (λk=>kv co cp λd=>k d s) s λcu s=>
 eI c false (λk=>k bd s) s λcv s=>
 eI c false (λk=>kv (.i .u64 (.ofNat 4294967296)) cv λd=>k d s) s λcw s=>
 eI c false (λk=>k l s) s λcy s=>
 eI c false (λk=>ee cw cy λd=>k d s) s λcz s=>
 eI c false (λk=>kC cu cz λd=>k d s) s λcA s=>
 fX c (.b true) cA s λcB s=>
 eQ cB
(et m (.i .u64 (.ofNat 1)) λbf=>
 ee bd bb λbg=>
 jt bg (.i .u64 (.ofNat 4294967296)) λcC=>
 eQ cC
(Z C E l F G bf s)
(cn C E bb bc l F bg G bf s))
(Z C E l F G m s)) φ V bM A bN bS W bY B X s) λbh=>
 lp (λ(_ _ _ _ _ _ _ _ _:D)(_:LS)=>none) (λ(cE:D→D→D→D→D→D→D→D→D→LS→Rs)(H I n o J p K v bi:D)(s:LS)=>
 jt v (.i .u64 (.ofNat 4294967296)) λe=>
 eI e false (λk=>k v s) s λcF s=>
 eI e false (λk=>k o s) s λcG s=>
 eI e false (λk=>kv cF cG λd=>k d s) s λcH s=>
 eI e false (λk=>k bi s) s λcI s=>
 eI e false (λk=>kv (.i .u64 (.ofNat 4294967296)) cI λd=>k d s) s λcJ s=>
 eI e false (λk=>k p s) s λcK s=>
 eI e false (λk=>ee cJ cK λd=>k d s) s λcM s=>
 eI e false (λk=>kC cH cM λd=>k d s) s λcN s=>
 fX e (.b true) cN s λcO s=>
 eQ cO
(et v (.i .u64 (.ofNat 1)) λbk=>
 ee bi n λbl=>
 jt bl (.i .u64 (.ofNat 4294967296)) λcP=>
 eQ cP
(bh H I n o J p K bk s)
(cE H I n o J p K bk bl s))
(bh H I n o J p K v s)) φ w f y bC z bH bI U bK s)) λcS=>
 ut O N λcU=>
 eQ cU
(eJ s .u λcX s=>
 none)
(cS N bv O s)) λcV=>
 gx M (.i .u64 (.ofNat 0)) λcW=>
 eQ cW
(eJ s .u λcY s=>
 none)
(cV bm bo M s))) s0
def kd(φ:Nat):List D→Option D:=
λas=>
(λ(s:LS)=>
 u1 as λe m=>
 u1 m λn o=>
 u0 o (
 ek e s λp s=>
 ee p (.i .i64 (.ofNat 1)) λh=>
 mK 1 8 [(.i .u64 (.ofNat 0))] s h h λu s=>
 ek e s λv s=>
 lp (λ(_ _ _ _ _:D)(_:LS)=>none) (λ(w:D→D→D→D→D→LS→Rs)(d c f g b:D)(s:LS)=>
 fN b g λy=>
 eQ y
(jn (λ(z A B C E:D)(s:LS)=>
 ee E (.i .i64 (.ofNat 1)) λF=>
 w z A B C F s) λk=>
 eK 1 s f b λG s=>
 eJ s G λl s=>
 eK 1 s c b λH s=>
 eJ s H λI s=>
 vm l d λJ=>
 kOr I J λK=>
 eK 1 s c b λM s=>
 eU 1 s M K λ_ s=>
 kC d (.i .i64 (.ofNat 0)) λN=>
 eQ N
(ee b (.i .i64 (.ofNat 1)) λO=>
 et (.i .i64 (.ofNat 64)) d λP=>
 o5 l P λS=>
 eK 1 s c O λU s=>
 eU 1 s U S λ_ s=>
 k d c f g b s)
(k d c f g b s))
(eX true s c some)) φ n u e v (.i .i64 (.ofNat 0)) s)) s0
def om(φ:Nat):List D→LS→(D→LS→Rs)→Rs:=
λas s kk=>
 u1 as λf bd=>
 u1 bd λg bf=>
 u0 bf (
 ek g s λc s=>
 jn (λ(bg bh bi bk bl bm:D)(s:LS)=>
 jn (λ(bn bo E bp:D)(s:LS)=>
 lp (λ(_ _ _ _ _ _ _ _:D)(_:LS)=>none) (λ(bu:D→D→D→D→D→D→D→D→LS→Rs)(h A n w F G H o:D)(s:LS)=>
 fN o H λbv=>
 eQ bv
(eK 1 s A o λbw s=>
 eJ s bw λbz s=>
 eR tY [w,bz] s λI s=>
 gD I 0 s λbA s=>
 gD I 1 s λbB s=>
 nr bB G (.i .u64 (.ofNat 0)) s λJ s=>
 gD J 0 s λbC s=>
 gD J 1 s λbE s=>
 ee bA bE λbF=>
 eK 1 s h o λbG s=>
 eJ s bG λbH s=>
 sW bH bC F s λK s=>
 gD K 0 s λbI s=>
 gD K 1 s λbJ s=>
 eK 1 s h o λbK s=>
 eU 1 s bK bI λ_ s=>
 ee o (.i .i64 (.ofNat 1)) λbM=>
 bu h A n w bJ bF H bM s)
(eK 1 s h n λbN s=>
 eJ s bN λbO s=>
 sW bO G F s λM s=>
 gD M 0 s λbP s=>
 gD M 1 s λbS s=>
 eK 1 s h n λbU s=>
 eU 1 s bU bP λ_ s=>
 gx bS (.i .u64 (.ofNat 0)) λbV=>
 eQ bV
(kk w s)
(lp (λ(_ _ _ _ _ _ _:D)(_:LS)=>none) (λ(bW:D→D→D→D→D→D→D→LS→Rs)(p N B O P S u:D)(s:LS)=>
 fN u S λbX=>
 eQ bX
(eK 1 s p u λbY s=>
 eJ s bY λbZ s=>
 eK 1 s N u λcb s=>
 eJ s cb λcc s=>
 nr bZ cc P s λU s=>
 gD U 0 s λcd s=>
 gD U 1 s λce s=>
 eK 1 s p u λcf s=>
 eU 1 s cf cd λ_ s=>
 ee u (.i .i64 (.ofNat 1)) λcg=>
 bW p N B O ce S cg s)
(eK 1 s p B λch s=>
 eJ s ch λci s=>
 ee ci P λck=>
 eK 1 s p B λcl s=>
 eU 1 s cl ck λ_ s=>
 et O (.i .u64 (.ofNat 1)) λcm=>
 kk cm s)) φ h A n w (.i .u64 (.ofNat 0)) n (.i .i64 (.ofNat 0)) s))) φ bn bo E bp (.i .u64 (.ofNat 0)) (.i .u64 (.ofNat 0)) E (.i .i64 (.ofNat 0)) s) λV=>
 lp (λ(_ _ _ _ _ _:D)(_:LS)=>none) (λ(cn:D→D→D→D→D→D→LS→Rs)(y v l z C co:D)(s:LS)=>
 gx co (.i .u64 (.ofNat 0)) λcp=>
 eQ cp
(et l (.i .i64 (.ofNat 2)) λcu=>
 eK 1 s v cu λcv s=>
 eJ s cv λcw s=>
 eR tY [z,cw] s λW s=>
 gD W 0 s λX s=>
 gD W 1 s λcy s=>
 fN X C λm=>
 eI m false (λk=>k X s) s λcz s=>
 eI m false (λk=>k C s) s λcA s=>
 eI m false (λk=>gx cz cA λd=>k d s) s λcB s=>
 eI m false (λk=>k cB s) s λe s=>
 eI e true (λk=>k cy s) s λcC s=>
 eI e true (λk=>k y s) s λcE s=>
 eI e true (λk=>k l s) s λcF s=>
 eI e true (λk=>et cF (.i .i64 (.ofNat 2)) λd=>k d s) s λcG s=>
 eI e true (λk=>eK 1 s cE cG k) s λcH s=>
 eI e true (λk=>eJ s cH k) s λcI s=>
 eI e true (λk=>ut cC cI λd=>k d s) s λcJ s=>
 eI m false (λk=>fX e cJ (.b false) s k) s λcK s=>
 fX m (.b true) cK s λcM s=>
 eQ cM
(V y v l z s)
(et z (.i .u64 (.ofNat 1)) λcN=>
 et l (.i .i64 (.ofNat 1)) λcO=>
 eK 1 s v cO λcP s=>
 eJ s cP λcS s=>
 nr C cS (.i .u64 (.ofNat 0)) s λY s=>
 gD Y 0 s λcU s=>
 gD Y 1 s λcV s=>
 cn y v l cN cU cV s))
(V y v l z s)) φ bg bh bi bk bl bm s) λZ=>
 eK 1 s f c λcW s=>
 eJ s cW λcX s=>
 et c (.i .i64 (.ofNat 1)) λcY=>
 eK 1 s g cY λcZ s=>
 eJ s cZ λdb s=>
 jt cX db λdc=>
 eQ dc
(et c (.i .i64 (.ofNat 1)) λdd=>
 eK 1 s f dd λde s=>
 eJ s de λdf s=>
 et c (.i .i64 (.ofNat 1)) λdg=>
 eK 1 s g dg λdh s=>
 eJ s dh λdi s=>
 nr df di (.i .u64 (.ofNat 0)) s λbb s=>
 gD bb 0 s λdk s=>
 gD bb 1 s λdl s=>
 Z f g c (.i .u64 (.ofNat 18446744073709551615)) dk dl s)
(eK 1 s f c λdm s=>
 eJ s dm λdn s=>
 et c (.i .i64 (.ofNat 1)) λdp=>
 eK 1 s f dp λdu s=>
 eJ s du λdv s=>
 et c (.i .i64 (.ofNat 1)) λdw=>
 eK 1 s g dw λdy s=>
 eJ s dy λdz s=>
 eR (gU φ) [dn,dv,dz] s λbc s=>
 gD bc 0 s λdA s=>
 gD bc 1 s λdB s=>
 Z f g c dA dB (.i .u64 (.ofNat 0)) s))
def gW(φ:Nat):List D→Option D:=
λas=>
(λ(s:LS)=>
 u1 as λf O=>
 u1 O λg P=>
 u0 P (
 eR (iT φ) [f,g] s λS s=>
 fN S (.i .i64 (.ofNat 0)) λU=>
 eQ U
(eX false s (.tup [(.tree [] 0 true),f]) some)
(ek g s λV s=>
 gx V (.i .i64 (.ofNat 1)) λW=>
 eQ W
(ek f s λC s=>
 mK 1 8 [(.i .u64 (.ofNat 0))] s C C λX s=>
 ek f s λY s=>
 et Y (.i .i64 (.ofNat 1)) λZ=>
 lp (λ(_ _ _ _ _:D)(_:LS)=>none) (λ(bb:D→D→D→D→D→LS→Rs)(E F p G n:D)(s:LS)=>
 jt n (.i .i64 (.ofNat 0)) λbc=>
 eQ bc
(eK 1 s E n λbd s=>
 eJ s bd λbf s=>
 eK 1 s F (.i .i64 (.ofNat 0)) λbg s=>
 eJ s bg λbh s=>
 eR (gU φ) [G,bf,bh] s λH s=>
 gD H 0 s λbi s=>
 gD H 1 s λbk s=>
 eK 1 s p n λbl s=>
 eU 1 s bl bi λ_ s=>
 et n (.i .i64 (.ofNat 1)) λbm=>
 bb E F p bk bm s)
((fG φ) [p] s λbn s=>
 jY 1 [(.i .u64 (.ofNat 0))] [(0,1,G)] s λbo s=>
(fG φ) [bo] s λbp s=>
 eX false s (.tup [bn,bp]) some)) φ f g X (.i .u64 (.ofNat 0)) Z s)
(ek g s λbu s=>
 et bu (.i .i64 (.ofNat 1)) λbv=>
 eK 1 s g bv λbw s=>
 eJ s bw λbz s=>
 eR (gK φ) [bz] s λu s=>
 eR (kd φ) [g,u] s λbA s=>
(fG φ) [bA] s λI s=>
 eR (kd φ) [f,u] s λbB s=>
 ek I s λv s=>
 ek f s λbC s=>
 et bC v λbE=>
 ee bE (.i .i64 (.ofNat 1)) λJ=>
 mK 1 8 [(.i .u64 (.ofNat 0))] s J J λbF s=>
 ek f s λbG s=>
 et bG v λbH=>
 lp (λ(_ _ _ _ _ _:D)(_:LS)=>none) (λ(bI:D→D→D→D→D→D→LS→Rs)(K M w o y l:D)(s:LS)=>
 jt l (.i .i64 (.ofNat 0)) λbJ=>
 eQ bJ
(ee l o λbK=>
 ee bK (.i .i64 (.ofNat 1)) λbM=>
 kg 1 s w (some l) (some bM) none λbN s=>
(om φ) [bN,M] s λbO s=>
 eK 1 s y l λbP s=>
 eU 1 s bP bO λ_ s=>
 et l (.i .i64 (.ofNat 1)) λbS=>
 bI K M w o y bS s)
(lp (λ(_ _ _ _ _ _:D)(_:LS)=>none) (λ(bU:D→D→D→D→D→D→LS→Rs)(m c z A B e:D)(s:LS)=>
 fN e B λbV=>
 eQ bV
(jn (λ(bW bX bY bZ cb cc:D)(s:LS)=>
 ee cc (.i .i64 (.ofNat 1)) λcd=>
 bU bW bX bY bZ cb cd s) λN=>
 eK 1 s c e λce s=>
 eJ s ce λcf s=>
 o5 cf m λcg=>
 eK 1 s c e λch s=>
 eU 1 s ch cg λ_ s=>
 kC m (.i .i64 (.ofNat 0)) λh=>
 eI h true (λk=>k e s) s λci s=>
 eI h true (λk=>ee ci (.i .i64 (.ofNat 1)) λd=>k d s) s λck s=>
 eI h true (λk=>k c s) s λcl s=>
 eI h true (λk=>ek cl s k) s λcm s=>
 eI h true (λk=>fN ck cm λd=>k d s) s λcn s=>
 fX h cn (.b false) s λco s=>
 eQ co
(eK 1 s c e λcp s=>
 eJ s cp λcu s=>
 ee e (.i .i64 (.ofNat 1)) λcv=>
 eK 1 s c cv λcw s=>
 eJ s cw λcy s=>
 et (.i .i64 (.ofNat 64)) m λcz=>
 vm cy cz λcA=>
 kOr cu cA λcB=>
 eK 1 s c e λcC s=>
 eU 1 s cC cB λ_ s=>
 N m c z A B e s)
(N m c z A B e s))
(eR (zU (fG φ)) [A] s λcE s=>
 kg 1 s c none (some z) none λcF s=>
(fG φ) [cF] s λcG s=>
 eX false s (.tup [cE,cG]) some)) φ K w o y o (.i .i64 (.ofNat 0)) s)) φ u I bB v bF bH s)))) s0
def jl(φ:Nat):List D→Option D:=
λas=>
(λ(s:LS)=>
 u1 as λe f=>
 u1 f λg h=>
 u0 h (
 eR qH [e] s λk s=>
 eR qH [g] s λl s=>
 lp (λ(_ _:D)(_:LS)=>none) (λ(m:D→D→LS→Rs)(c b:D)(s:LS)=>
 ek b s λn s=>
 kC n (.i .i64 (.ofNat 0)) λo=>
 eQ o
(eR (gW φ) [c,b] s λd s=>
 gD d 0 s λv s=>
 gD d 1 s λp s=>
 m b p s)
(eR sH [c] s λu s=>
 eX false s u some)) φ k l s)) s0
def iO(φ:Nat):List D→Option D:=
λas=>
(λ(s:LS)=>
 u1 as λc d=>
 u1 d λe f=>
 u0 f (
 eR qH [c] s λg s=>
 eR qH [e] s λh s=>
 eR (gW φ) [g,h] s λb s=>
 gD b 0 s λi s=>
 gD b 1 s λk s=>
 eR sH [i] s λl s=>
 eR sH [k] s λm s=>
 eX false s (.tup [l,m]) some)) s0
variable {s:LS} {K:D→LS→Rs}
theorem zy{kk:IntKind}{a b:Nat}{k:D→Rs}:mE (.i kk (.ofNat a)) (.i kk (.ofNat b)) k=k (.b (not (Nat.beq a b))):=by
 unfold mE;rw[qA,tZ]
theorem CO{kk:IntKind}{a b:Nat}{k:D→Rs}:jt (.i kk (.ofNat a)) (.i kk (.ofNat b)) k=k (.b (Nat.ble b a)):=by
 unfold jt;rw[qA,tZ]
theorem yG{kk:IntKind}{a b:Nat}{k:D→Rs}:ut (.i kk (.ofNat a)) (.i kk (.ofNat b)) k=k (.b (Nat.ble a b)):=by
 unfold ut;rw[qA,tZ]
theorem yy{k:D→Rs}:et (.i .i64 (.ofNat 0)) (.i .i64 (.ofNat 1)) k=k (.i .i64 (.negSucc 0)):=by
 show fV .sub (.i .i64 (.ofNat 0)) (.i .i64 (.ofNat 1)) k=_;unfold fV;rw[gS];rfl
theorem tK{k:D→Rs}:jt (.i .i64 (.negSucc 0)) (.i .i64 (.ofNat 0)) k=k (.b false):=by
 show fV .geq (.i .i64 (.negSucc 0)) (.i .i64 (.ofNat 0)) k=_;unfold fV;rw[gS];rfl
theorem rg{k:D→Rs}:fN (.i .i64 (.negSucc 0)) (.i .i64 (.ofNat 0)) k=k (.b true):=by
 show fV .lss (.i .i64 (.negSucc 0)) (.i .i64 (.ofNat 0)) k=_;unfold fV;rw[gS];rfl
def xW(x y:Nat):D:=cnd (Nat.blt x y) (.i .i64 (.negSucc 0)) (cnd (Nat.beq x y) (.i .i64 (.ofNat 0)) (.i .i64 (.ofNat 1)))
def cwF(q11:D→D→D→LS→Rs)(x12 x13 x14:D)(s:LS):Rs:=(
 jt x14 (.i .i64 (.ofNat 0)) λx15=>
 eQ x15
(eK 1 s x12 x14 λx16 s=>
 eJ s x16 λx17 s=>
 eK 1 s x13 x14 λx18 s=>
 eJ s x18 λx19 s=>
 mE x17 x19 λx20=>
 eQ x20
(eK 1 s x12 x14 λx21 s=>
 eJ s x21 λx22 s=>
 eK 1 s x13 x14 λx23 s=>
 eJ s x23 λx24 s=>
 fN x22 x24 λx25=>
 eQ x25
(eX false s (.i .i64 (.negSucc 0)) some)
(eX false s (.i .i64 (.ofNat 1)) some))
(et x14 (.i .i64 (.ofNat 1)) λx26=>
 q11 x12 x13 x26 s))
(eX false s (.i .i64 (.ofNat 0)) some))
theorem kRd{x:Nat}{ex:Bool}:(eK 1 s (.tree [n64 x] 1 ex) (.i .i64 (.ofNat 0)) λa s=>eJ s a K)=K (n64 x) s:=rfl
theorem NU{x y f:Nat}{ex ey:Bool}:lp (λ(_ _ _:D)(_:LS)=>none) cwF (f+2) (.tree [n64 x] 1 ex) (.tree [n64 y] 1 ey) (.i .i64 (.ofNat 0)) s0=some (xW x y):=by
 rw[eO];unfold cwF xW;rw[CO,show Nat.ble 0 0=true from rfl,eP];refine(kRd).trans ?_;refine(kRd).trans ?_;refine(zy).trans ?_;by_cases h:x=y
 ·subst h;rw[ej,cI,eM,yy,fC (bS x),eO];rw[tK,eM];rfl
 ·rw[gG h,Bool.not_false,eP];refine(kRd).trans ?_;refine(kRd).trans ?_;refine(ji).trans ?_;by_cases h2:x<y
  ·rw[ep h2,eP];rfl
  ·rw[fC h2,eM];rfl
theorem Hu{x y f:Nat}{ex ey:Bool}:iT (f+2) [.tree [n64 x] 1 ex,.tree [n64 y] 1 ey]=some (xW x y):=by
 show(ek (.tree [n64 x] 1 ex) s0 λx3 s=>ek (.tree [n64 y] 1 ey) s λx4 s=>mE x3 x4 λx5=>eQ x5
  (ek (.tree [n64 x] 1 ex) s λx6 s=>ek (.tree [n64 y] 1 ey) s λx7 s=>fN x6 x7 λx8=>eQ x8 (eX false s (.i .i64 (.negSucc 0)) some) (eX false s (.i .i64 (.ofNat 1)) some))
  (ek (.tree [n64 x] 1 ex) s λx9 s=>et x9 (.i .i64 (.ofNat 1)) λx10=>lp (λ(_ _ _:D)(_:LS)=>none) cwF (f+2) (.tree [n64 x] 1 ex) (.tree [n64 y] 1 ey) x10 s))=_
 rw[pI,pI,zy,ej,cI,eM,pI,oM (aD 1) (show 1≤jX .i64 by decide)];exact NU
theorem RK{y f:Nat}{ex ey:Bool}:iT f [.tree [] 0 ex,.tree [n64 y] 1 ey]=some (.i .i64 (.negSucc 0)):=by
 show(ek (.tree [] 0 ex) s0 λx3 s=>ek (.tree [n64 y] 1 ey) s λx4 s=>mE x3 x4 λx5=>eQ x5
  (ek (.tree [] 0 ex) s λx6 s=>ek (.tree [n64 y] 1 ey) s λx7 s=>fN x6 x7 λx8=>eQ x8 (eX false s (.i .i64 (.negSucc 0)) some) (eX false s (.i .i64 (.ofNat 1)) some))
  (ek (.tree [] 0 ex) s λx9 s=>et x9 (.i .i64 (.ofNat 1)) λx10=>lp (λ(_ _ _:D)(_:LS)=>none) cwF f (.tree [] 0 ex) (.tree [n64 y] 1 ey) x10 s))=_
 rw[pI,pI,zy];rfl
theorem Qy{x y φ:Nat}(hx:x<B64)(hy:0<y):∃q r,gU φ [n64 0,n64 x,n64 y]=some (.tup [n64 q,n64 r])∧q=x/y∧r=x%y:=by
 refine⟨_,_,?_,rfl,rfl⟩;unfold gU n64;dsimp only[eV,eZ,jn];refine(pb).trans ?_;rw[gG (by omega),eM];refine(yG).trans ?_;rw[kY (by omega),eM];refine(pb).trans ?_;rw[ej,eP];refine(F3 (by omega) (bc hx)).trans ?_;refine(JO (by omega)).trans ?_;rfl
theorem EF{l len h:Nat}{b:Blk}{k:D→LS→Rs}(hg:s.get l=some b)(hl:b.st.live=true)(h0:0<len)(hh:h≤len):kg 1 s (.sl l 0 len len 1 true) none (some (.i .i64 (.ofNat h))) none k=k (.sl l 0 h len 1 true) s:=by
 show(jQ s l λb=>cnd (lv b.st) (cnd (Nat.ble len len) (cnd (Nat.ble h len) (cnd (Nat.ble 0 h) (cnd (Nat.beq 1 1) (mw true λex=>cnd (Nat.blt 0 len) (frc (Nat.add 0 (Nat.mul 0 1)) λoff=>frc (Nat.sub h 0) λl'=>frc (Nat.sub len 0) λcm=>k (.sl l off l' cm 1 ex) s) (k (.tree [] 0 ex) s)) none) none) none) none) none)=_;rw[oe,hg];show cnd (lv b.st) (cnd (Nat.ble len len) (cnd (Nat.ble h len) (cnd (Nat.ble 0 h) (cnd (Nat.beq 1 1) (mw true λex=>cnd (Nat.blt 0 len) (frc (Nat.add 0 (Nat.mul 0 1)) λoff=>frc (Nat.sub h 0) λl'=>frc (Nat.sub len 0) λcm=>k (.sl l off l' cm 1 ex) s) (k (.tree [] 0 ex) s)) none) none) none) none) none=_;rw[sI,hl,aF (aD len),aF hh,aF (a9 h),ep h0];simp only[eL,jC,fA,ej];rfl
theorem GJ{l w f:Nat}{b:Blk}{k:D→LS→Rs}(hg:s.get l=some b)(hc:b.cs=[n64 w])(hl:b.st.live=true):
 fG (f+2) [.sl l 0 1 1 1 true] s k=k (.sl l 0 (if w=0 then 0 else 1) 1 1 true) s:=by
 rw[y3];refine(qk).trans ?_;rw[eO];unfold AN;rw[nj,show Nat.blt 0 1=true from rfl];simp only[tJ,oM (kk:=.i64) (aD 1) (show 1≤jX .i64 by decide),cC,vQ hg hl cy,bP,bH];refine(yF (d:=n64 w) hg hl (by rw[hc];rfl)).trans ?_;refine(pb).trans ?_;by_cases h:w=0
 ·rw[h,aC rfl,ej,fe,eP,eO];refine(nj).trans ?_;rw[show Nat.blt 0 0=false from rfl];simp only[wh,gE,eM];exact EF hg hl cy (a9 1)
 ·rw[aE h,gG h,fe,eM];exact EF hg hl cy (aD 1)
def dvF(φ:Nat)(q11:D→D→D→D→D→LS→Rs)(x12 x13 x14 x15 x16:D)(s:LS):Rs:=(
 jt x16 (.i .i64 (.ofNat 0)) λx17=>
 eQ x17
(eK 1 s x12 x16 λx18 s=>
 eJ s x18 λx19 s=>
 eK 1 s x13 (.i .i64 (.ofNat 0)) λx20 s=>
 eJ s x20 λx21 s=>
 eR (gU φ) [x15,x19,x21] s λx22 s=>
 gD x22 0 s λx23 s=>
 gD x22 1 s λx24 s=>
 eK 1 s x14 x16 λx25 s=>
 eU 1 s x25 x23 λ_ s=>
 et x16 (.i .i64 (.ofNat 1)) λx26=>
 q11 x12 x13 x14 x24 x26 s)
((fG φ) [x14] s λx27 s=>
 jY 1 [(.i .u64 (.ofNat 0))] [(0,1,x15)] s λx28 s=>
(fG φ) [x28] s λx29 s=>
 eX false s (.tup [x27,x29]) some))
theorem Y7{M:List D→Option D}{x y z:Nat}:eR M [n64 x,n64 y,n64 z] s K=ob (M [n64 x,n64 y,n64 z]) λr=>ju s [] r K:=rfl
theorem gN{α:Type}{a:α}{k:α→Rs}:ob (some a) k=k a:=rfl
theorem uN{g:Nat→Option Blk}{n l off len cm z:Nat}{ex:Bool}{b:Blk}{r cs:List D}{ls:List Nat}(hg:g l=some b)(hl:b.st.live=true)(hc:cut off (len*z) b.cs=some r)(hm:iP (res g n) r=some (cs,ls)):
 res g (n+1) (.sl l off len cm z ex)=some (.tree cs len (ex&&cm==len),l::ls):=by
 show(match g l with
  |some b=>if !b.st.live then none else match cut off (len*z) b.cs with
   |some r=>match iP (res g n) r with
    |some (cs,ls)=>some (D.tree cs len (ex&&cm==len),l::ls)
    |none=>none
   |none=>none
  |none=>none)=_
 rw[hg];show(if !b.st.live then none else match cut off (len*z) b.cs with
  |some r=>match iP (res g n) r with
   |some (cs,ls)=>some (D.tree cs len (ex&&cm==len),l::ls)
   |none=>none
  |none=>none)=_
 rw[hl,hc];show(match iP (res g n) r with
  |some (cs,ls)=>some (D.tree cs len (ex&&cm==len),l::ls)
  |none=>none)=_
 rw[hm]
theorem KP{q r m:Nat}(hm:m≤1):eX false ((st1 [n64 q]).push ⟨[n64 r],.rw⟩) (.tup [.sl 0 0 1 1 1 true,.sl 1 0 m 1 1 true]) some=some (.tup [.tree [n64 q] 1 true,.tree ([n64 r].take m) m (true&&1==m)]):=by
 unfold eX;rw[mU];show uw (nu false ((st1 [n64 q]).push ⟨[n64 r],.rw⟩).get fv (.tup [.sl 0 0 1 1 1 true,.sl 1 0 m 1 1 true])) some=_;have g0:((st1 [n64 q]).push ⟨[n64 r],.rw⟩).get 0=some ⟨[n64 q],.rw⟩:=rfl;have g1:((st1 [n64 q]).push ⟨[n64 r],.rw⟩).get 1=some ⟨[n64 r],.rw⟩:=by kernel_rfl
 have hq:∀g,iP (res g 59) [n64 q]=some ([n64 q],[]):=λg=>kL (k:=58) [n64 q] rfl;have hr:∀g,iP (res g 59) ([n64 r].take m)=some ([n64 r].take m,[]):=λg=>kL (k:=58) _ (by
  rcases bL m with h|h
  ·subst h;rfl
  ·have:m=1:=by omega
   subst this;rfl)
 have c1:cut 0 (m*1) [n64 r]=some ([n64 r].take m):=by
  unfold cut;rw[aj,ai,aC (by rw[ah];simp;omega)]
 have c0:cut 0 (1*1) [n64 q]=some [n64 q]:=rfl;have:nu false ((st1 [n64 q]).push ⟨[n64 r],.rw⟩).get fv (.tup [.sl 0 0 1 1 1 true,.sl 1 0 m 1 1 true])=some (.tup [.tree [n64 q] 1 true,.tree ([n64 r].take m) m (true&&1==m)]):=by
  have r0:=uN (n:=59) (off:=0) (len:=1) (cm:=1) (z:=1) (ex:=true) g0 rfl c0 (hq _);have r1:=uN (n:=59) (off:=0) (len:=m) (cm:=1) (z:=1) (ex:=true) g1 rfl c1 (hr _);show(match yi (res ((st1 [n64 q]).push ⟨[n64 r],.rw⟩).get 60 (.sl 0 0 1 1 1 true)),iP (res ((st1 [n64 q]).push ⟨[n64 r],.rw⟩).get 60) [.sl 1 0 m 1 1 true]with
   |some (d,o,ls),some (ds,ls')=>if o.all λl=> !(ls++ls').contains l then some (D.tup (d::ds))else none
   |_,_=>none)=_
  have r2:iP (res ((st1 [n64 q]).push ⟨[n64 r],.rw⟩).get 60) [.sl 1 0 m 1 1 true]=some ([.tree ([n64 r].take m) m (true&&1==m)],[1]):=by
   unfold iP;rw[r1];rfl
  rw[r0,r2];rfl
 rw[this,gS];rfl
theorem UX{M:List D→Option D}{x y z q r:Nat}(h:M [n64 x,n64 y,n64 z]=some (.tup [n64 q,n64 r])):eR M [n64 x,n64 y,n64 z] s K=K (.tup [n64 q,n64 r]) s:=by
 rw[Y7,h,gN];exact VO
theorem mS{a b:D}:gD (.tup [a,b]) 0 s K=K a s:=rfl
theorem mR{a b:D}:gD (.tup [a,b]) 1 s K=K b s:=rfl
theorem HY{r:Nat}:jY 1 [.i .u64 (.ofNat 0)] [(0,1,n64 r)] s K=K (.sl s.nx 0 1 1 1 true) (s.push ⟨[n64 r],.rw⟩):=by
 show(ku s ⟨[n64 r],.rw⟩ λs'=>K (.sl s.nx 0 1 1 1 true) s')=_;rw[lY]
theorem UT{x y f:Nat}{ex ey:Bool}(hx:x<B64)(hy:0<y)(hle:y≤x):∃e rs e',c64 rs=(if x%y=0 then[]else[n64 (x%y)])∧lp (λ(_ _ _ _ _:D)(_:LS)=>none) (dvF (f+2)) (f+2) (.tree [n64 x] 1 ex) (.tree [n64 y] 1 ey) (.sl 0 0 1 1 1 true) (.i .u64 (.ofNat 0)) (.i .i64 (.ofNat 0)) (st1 [n64 0])
 =some (.tup [.tree [n64 (x/y)] 1 e,.tree (c64 rs) rs.length e']):=by
 obtain⟨q,r,h1,hq,hr⟩:=Qy (φ:=f+2) hx hy;have hq0:q≠0:=by
  have:=z0T hle hy;omega
 rw[←hq,←hr];have e1:∀(rs:List Nat)(m:Nat),m=(if r=0 then 0 else 1)→c64 rs=(if r=0 then[]else[n64 r])→rs.length=m→∃e e',eX false ((st1 [n64 q]).push ⟨[n64 r],.rw⟩) (.tup [.sl 0 0 1 1 1 true,.sl 1 0 m 1 1 true]) some=some (.tup [.tree [n64 q] 1 e,.tree (c64 rs) rs.length e']):=by
  intro rs m hm hc hl;by_cases h:r=0
  ·rw[aC h]at hm hc;subst hm;rw[hc,hl,KP (a9 1)];exact⟨true,_,rfl⟩
  ·rw[aE h]at hm hc;subst hm;rw[hc,hl,KP (aD 1)];exact⟨true,_,rfl⟩
 have e2:lp (λ(_ _ _ _ _:D)(_:LS)=>none) (dvF (f+2)) (f+2) (.tree [n64 x] 1 ex) (.tree [n64 y] 1 ey) (.sl 0 0 1 1 1 true) (.i .u64 (.ofNat 0)) (.i .i64 (.ofNat 0)) (st1 [n64 0])
  =eX false ((st1 [n64 q]).push ⟨[n64 r],.rw⟩) (.tup [.sl 0 0 1 1 1 true,.sl 1 0 (if r=0 then 0 else 1) 1 1 true]) some:=by
  rw[show D.i .u64 (.ofNat 0)=n64 0 from rfl,eO];unfold dvF;rw[CO,show Nat.ble 0 0=true from rfl,eP];refine(kRd).trans ?_;refine(kRd).trans ?_;rw[UX h1];refine(mS).trans ?_;refine(mR).trans ?_;refine(ng cy).trans ?_;refine(uP cy).trans ?_;refine(yy).trans ?_;rw[eO];refine(tK).trans ?_;rw[eM,show[n64 0].set (0+0) (D.i .u64 (.ofNat q))=[n64 q]from rfl];refine(GJ (f:=f) (b:=⟨[n64 q],.rw⟩) (w:=q) rfl rfl rfl).trans ?_;rw[aE hq0,HY];exact GJ (f:=f) (b:=⟨[n64 r],.rw⟩) (w:=r) (by kernel_rfl) rfl rfl
 by_cases h:r=0
 ·obtain⟨e,e',h2⟩:=e1 [] 0 (by rw[aC h]) (by rw[aC h];rfl) rfl;refine⟨e,[],e',by rw[aC h];rfl,?_⟩;rw[e2,aC h];exact h2
 ·obtain⟨e,e',h2⟩:=e1 [r] 1 (by rw[aE h]) (by rw[aE h];rfl) rfl;refine⟨e,[r],e',by rw[aE h];rfl,?_⟩;rw[e2,aE h];exact h2
end
end Go.Proofs.Ev
namespace Go.Proofs.Ev
noncomputable section
variable {s:LS} {K:D→LS→Rs}
def One(ws:List Nat)(m:Nat):Prop:=(m=0∧ws=[])∨(0<m∧m<B64∧ws=[m])
theorem One.val{ws:List Nat}{m:Nat}(h:One ws m):Ev.val ws=m∧kx ws∧ws.length≤1:=by
 rcases h with⟨rfl,rfl⟩|⟨h1,h2,rfl⟩
 ·exact⟨rfl,(λw hw=>(by cases hw)),a9 1⟩
 ·exact⟨rfl,(λw hw=>(by rw[bi.1 hw];exact h2)),aD 1⟩
theorem B6{cs ds:List D}{n m:Nat}{e e':Bool}:eX false s (.tup [.tree cs n e,.tree ds m e']) some=some (.tup [.tree cs n e,.tree ds m e']):=by
 unfold eX;rw[mU];show uw _ some=_;rw[gS];rfl
theorem zz{M:List D→Option D}{cs ds:List D}{n m:Nat}{e e':Bool}{k:IntKind}{z:Int}(h:M [.tree cs n e,.tree ds m e']=some (.i k z)):eR M [.tree cs n e,.tree ds m e'] s K=K (.i k z) s:=by
 show ob (M [.tree cs n e,.tree ds m e']) (λr=>ju s [] r K)=_;rw[h];rfl
theorem LU{x y:Nat}(h:x<y):xW x y=.i .i64 (.negSucc 0):=by unfold xW;rw[ep h];rfl
theorem LV{x y:Nat}(h:y≤x):∃c,xW x y=.i .i64 (.ofNat c):=by
 unfold xW;rw[fC (by omega),e9];by_cases e:x=y
 ·subst e;rw[ej];exact⟨0,rfl⟩
 ·rw[gG e];exact⟨1,rfl⟩
theorem C8{x y f:Nat}{xs ys:List Nat}{ex ey:Bool}(hX:One xs x)(hY:One ys y)(hy:0<y):∃qs rs e e',One qs (x/y)∧One rs (x%y)∧
 gW (f+2) [.tree (c64 xs) xs.length ex,.tree (c64 ys) ys.length ey]=some (.tup [.tree (c64 qs) qs.length e,.tree (c64 rs) rs.length e']):=by
 have hys:ys=[y]:=by
  rcases hY with⟨h1,h2⟩|⟨h1,h2,h3⟩
  ·omega
  ·exact h3
 have hyB:y<B64:=by
  rcases hY with⟨h1,h2⟩|⟨h1,h2,h3⟩
  ·omega
  ·exact h2
 subst hys;rcases hX with⟨h1,h2⟩|⟨h1,h2,h3⟩
 ·subst h1 h2;refine⟨[],[],true,ex,Or.inl ⟨Nat.zero_div y,rfl⟩,Or.inl ⟨Nat.zero_mod y,rfl⟩,?_⟩;unfold gW;dsimp only[eV,eZ];refine(zz (cs:=[]) (n:=0) (ds:=[n64 y]) (m:=1) RK).trans ?_;refine(rg).trans ?_;rw[eP];exact B6
 ·subst h3;by_cases hlt:x<y
  ·refine⟨[],[x],true,ex,Or.inl ⟨cL hlt,rfl⟩,Or.inr ⟨by rw[bJ hlt];exact h1,by rw[bJ hlt];exact h2,by rw[bJ hlt]⟩,?_⟩;unfold gW;dsimp only[eV,eZ];refine(zz (cs:=[n64 x]) (n:=1) (ds:=[n64 y]) (m:=1) (by rw[Hu,LU hlt])).trans ?_;refine(rg).trans ?_;rw[eP];exact B6
  ·have hle:y≤x:=by omega
   obtain⟨c,hc⟩:=LV hle;obtain⟨e,rs,e',g1,g2⟩:=UT (f:=f) (ex:=ex) (ey:=ey) h2 hy hle;have hq:0<x/y:=z0T hle hy;have hr:One rs (x%y):=by
    by_cases h:x%y=0
    ·rw[aC h]at g1;refine Or.inl ⟨h,?_⟩;cases rs with
     |nil=>rfl
     |cons a b=>cases g1
    ·rw[aE h]at g1;have hlt:=bg x hy;refine Or.inr ⟨by omega,by omega,?_⟩;cases rs with
     |nil=>cases g1
     |cons a b=>
      cases b with
      |nil=>
       have:n64 a=n64 (x%y):=(z0Z g1).1;unfold n64 at this;injection this with _ h4;injection h4 with h5;rw[h5]
      |cons _ _=>cases(z0Z g1).2
   refine⟨[x/y],rs,e,e',Or.inr ⟨hq,br (z16 x y) h2,rfl⟩,hr,?_⟩;unfold gW;dsimp only[eV,eZ];refine(zz (cs:=[n64 x]) (n:=1) (ds:=[n64 y]) (m:=1) (by rw[Hu,hc])).trans ?_;refine(ji).trans ?_;rw[fC (cU c),eM];refine(pI).trans ?_;refine(pb).trans ?_;rw[show Nat.beq ([y]:List Nat).length 1=true from rfl,eP];refine(pI).trans ?_;refine(yz (n:=1) (by decide) (by decide)).trans ?_;refine(pI).trans ?_;refine(oM (kk:=.i64) (aD 1) (show 1≤jX .i64 by decide)).trans ?_;exact g2
theorem si{m:Nat}(hs:s.fit)(hm:m<B64):∃x s' ws,(∀K,eR qH [.n m] s K=K x s')∧Hold s' x ws∧One ws m∧More s s':=by
 by_cases h0:m=0
 ·subst h0;exact⟨.tree [] 0 true,s,[],λK=>rfl,.nil,Or.inl ⟨rfl,rfl⟩,More.refl s⟩
 ·have hl:Nat.log2 m<64:=(z1i h0).2 hm;obtain⟨x,s',ws,h1,h2,h3,h4,h5,h6,_⟩:=rJ (m:=m) hs (by omega);refine⟨x,s',ws,h1,h2,Or.inr ⟨by omega,hm,?_⟩,h6⟩;have h7:Nat.log2 m/64=0:=cL hl;rw[h7]at h5
  match ws,h4,h5 with
  |[],h4,_=>exact absurd h4.symm h0
  |[w],h4,_=>rw[show val [w]=w from rfl]at h4;rw[h4]
  |_::_::_,_,h5=>simp at h5
theorem DM{x y f:Nat}(hx:x<B64)(hy:y<B64)(h0:0<y):iO (f+2) [.n x,.n y]=some (.tup [.n (x/y),.n (x%y)]):=by
 obtain⟨X,s1,xs,k1,hX,ox,m1⟩:=si (s:=s0) (m:=x) rfl hx;obtain⟨Y,s2,ys,k2,hY,oy,m2⟩:=si (s:=s1) (m:=y) (m1.len rfl) hy;unfold iO;refine(k1 _).trans ?_;refine(k2 _).trans ?_;obtain⟨ex,ey,ls,h1,h2⟩:=zC (M:=gW (f+2)) (hX.more m2).ht hY.ht;obtain⟨s3,f1,f2,f3⟩:=xN ls s2 h2;obtain⟨qs,rs,e,e',g1,g2,g3⟩:=C8 (f:=f) (ex:=ex) (ey:=ey) ox oy h0;refine(h1 _).trans ?_;rw[g3,gN,BG,f1];refine(mS).trans ?_;refine(mR).trans ?_;obtain⟨v1,v2,v3⟩:=g1.val;obtain⟨w1,w2,w3⟩:=g2.val;refine(pc HT.tr v2 (by omega)).trans ?_;refine(pc HT.tr w2 (by omega)).trans ?_;rw[v1,w1];rfl
def oc(φ:Nat)(as:List D):Option D:=
 u1 as λa r=>u1 r λb r=>u0 r (oL a λx=>oL b λy=>cnd (Nat.blt x B64) (cnd (Nat.blt y B64) (cnd (Nat.blt 0 y) (frc (Nat.div x y) λq=>frc (Nat.mod x y) λr=>some (.tup [.n q,.n r])) none) (iO φ as)) (iO φ as))
theorem xQ{b:Bool}{t e:Rs}{q:D}(h:cnd b t e=some q):(b=true∧t=some q)∨e=some q:=by
 cases b with
 |true=>exact Or.inl ⟨rfl,h⟩
 |false=>exact Or.inr h
theorem uK{a b:Nat}(h:Nat.blt a b=true):a<b:=aa h
theorem Bn{φ:Nat}{as:List D}{r:D}(h:oc φ as=some r):∃φ',iO φ' as=some r:=by
 obtain⟨a,r1,rfl,g1⟩:=jR h;obtain⟨b,r2,rfl,g2⟩:=jR g1;obtain⟨rfl,g3⟩:=oB g2;obtain⟨x,rfl,g4⟩:=gk g3;obtain⟨y,rfl,g5⟩:=gk g4;rcases xQ g5 with⟨h1,g6⟩|g6
 ·rcases xQ g6 with⟨h2,g7⟩|g7
  ·obtain⟨h3,g8⟩:=fW g7;rw[fA,fA]at g8;exact⟨2,by rw[DM (f:=0) (uK h1) (uK h2) (uK h3)];exact g8⟩
  ·exact⟨φ,g7⟩
 ·exact⟨φ,g6⟩
def gcF(φ:Nat)(q5:D→D→LS→Rs)(x6 x7:D)(s:LS):Rs:=(
 ek x7 s λx8 s=>
 kC x8 (.i .i64 (.ofNat 0)) λx9=>
 eQ x9
(eR (gW φ) [x6,x7] s λx10 s=>
 gD x10 0 s λx11 s=>
 gD x10 1 s λx12 s=>
 q5 x7 x12 s)
(eR sH [x6] s λx13 s=>
 eX false s x13 some))
theorem LF{g:Nat}:∀(f x y:Nat)(xs ys:List Nat)(X Y:D)(s:LS),y<f→HT s X xs→HT s Y ys→One xs x→One ys y→lp (λ(_ _:D)(_:LS)=>none) (gcF (g+2)) f X Y s=some (.n (Nat.gcd x y))
 |0,x,y,xs,ys,X,Y,s,hf,hX,hY,ox,oy=>by omega
 |f+1,x,y,xs,ys,X,Y,s,hf,hX,hY,ox,oy=>by
  rw[eO];unfold gcF;refine(Tj hY).trans ?_;refine(nj).trans ?_;by_cases h0:y=0
  ·have hys:ys=[]:=by
    rcases oy with⟨h1,h2⟩|⟨h1,h2,h3⟩
    ·exact h2
    ·omega
   subst hys h0;rw[show Nat.blt 0 ([]:List Nat).length=false from rfl,eM];obtain⟨v1,v2,v3⟩:=ox.val;refine(pc hX v2 (by omega)).trans ?_;rw[v1,d5];rfl
  ·have hys:ys=[y]:=by
    rcases oy with⟨h1,h2⟩|⟨h1,h2,h3⟩
    ·omega
    ·exact h3
   rw[show Nat.blt 0 ys.length=true by rw[hys];rfl,eP];obtain⟨ex,ey,ls,h1,h2⟩:=zC (M:=gW (g+2)) hX hY;obtain⟨s3,f1,f2,f3⟩:=xN ls s h2;obtain⟨qs,rs,e,e',g1,g2,g3⟩:=C8 (f:=g) (ex:=ex) (ey:=ey) ox oy (by omega);refine(h1 _).trans ?_;rw[g3,gN,BG,f1];refine(mS).trans ?_;refine(mR).trans ?_;have ih:=LF (g:=g) f y (x%y) ys rs Y _ s3 (by have:=bg x (show 0<y by omega);omega) (f2 _ _ hY) (HT.tr (ex:=e')) oy g2;have e1:Nat.gcd x y=Nat.gcd y (x%y):=by
    rw[dO x y,z1G y x,dO]
   rw[e1];exact ih
theorem JB{x y f:Nat}(hx:x<B64)(hy:y<B64)(hf:y<f):jl (f+2) [.n x,.n y]=some (.n (Nat.gcd x y)):=by
 obtain⟨X,s1,xs,k1,hX,ox,m1⟩:=si (s:=s0) (m:=x) rfl hx;obtain⟨Y,s2,ys,k2,hY,oy,m2⟩:=si (s:=s1) (m:=y) (m1.len rfl) hy;unfold jl;refine(k1 _).trans ?_;refine(k2 _).trans ?_;exact LF (g:=f) (f+2) x y xs ys X Y s2 (by omega) (hX.more m2).ht hY.ht ox oy
def tt(φ:Nat)(as:List D):Option D:=
 u1 as λa r=>u1 r λb r=>u0 r (oL a λx=>oL b λy=>cnd (Nat.blt x B64) (cnd (Nat.blt y B64) (frc (Nat.gcd x y) λz=>some (.n z)) (jl φ as)) (jl φ as))
theorem HB{φ:Nat}{as:List D}{r:D}(h:tt φ as=some r):∃φ',jl φ' as=some r:=by
 obtain⟨a,r1,rfl,g1⟩:=jR h;obtain⟨b,r2,rfl,g2⟩:=jR g1;obtain⟨rfl,g3⟩:=oB g2;obtain⟨x,rfl,g4⟩:=gk g3;obtain⟨y,rfl,g5⟩:=gk g4;rcases xQ g5 with⟨h1,g6⟩|g6
 ·rcases xQ g6 with⟨h2,g7⟩|g7
  ·rw[fA]at g7;exact⟨y+1+2,by rw[JB (uK h1) (uK h2) (cK y)];exact g7⟩
  ·exact⟨φ,g7⟩
 ·exact⟨φ,g6⟩
end
end Go.Proofs.Ev
namespace Go.Proofs.Ev
noncomputable section
def UO(f:D→D→Bool)(xs:List D):List D→Bool:=
 List.rec (motive:=λ_=>List D→Bool) (λys=>List.rec (motive:=λ_=>Bool) true (λ_ _ _=>false) ys) (λx _ ih ys=>List.rec (motive:=λ_=>Bool) false (λy ys _=>cnd (f x y) (ih ys) false) ys) xs
def eqS(f:D→D→Bool):D→D→Bool
 |.i k (.ofNat a),.i k' (.ofNat b)=>cnd (Nat.beq (ug k) (ug k')) (Nat.beq a b) false
 |.i k (.negSucc a),.i k' (.negSucc b)=>cnd (Nat.beq (ug k) (ug k')) (Nat.beq a b) false
 |.b a,.b b=>cnd a b (not b)
 |.n a,.n b=>Nat.beq a b
 |.tree cs n e,.tree cs' n' e'=>cnd (Nat.beq n n') (cnd (cnd e e' (not e')) (UO f cs cs') false) false
 |.agg cs,.agg cs'=>UO f cs cs'
 |_,_=>false
def eqN(n:Nat):D→D→Bool:=Nat.rec (λ_ _=>false) (λ_ ih=>eqS ih) n
theorem uj{a b:Bool}(h:cnd a b false=true):a=true∧b=true:=by
 cases a<;>simp_all
theorem Hs{a b:Bool}(h:cnd a b (not b)=true):a=b:=by
 cases a<;>cases b<;>simp_all
theorem BJ{f:D→D→Bool}(hf:∀x y,f x y=true→x=y):∀{xs ys:List D},UO f xs ys=true→xs=ys
 |[],[],_=>rfl
 |x::xs,y::ys,h=>by
  obtain⟨h1,h2⟩:=uj h;rw[hf _ _ h1,BJ hf h2]
 |[],_::_,h=>by cases h
 |_::_,[],h=>by cases h
theorem XA{f:D→D→Bool}(hf:∀x y,f x y=true→x=y):∀{x y:D},eqS f x y=true→x=y:=by
 intro x y h;unfold eqS at h;split at h
 ·obtain⟨h1,h2⟩:=uj h;rw[vP h1,aT h2]
 ·obtain⟨h1,h2⟩:=uj h;rw[vP h1,aT h2]
 ·rw[Hs h]
 ·rw[aT h]
 ·obtain⟨h1,h2⟩:=uj h;obtain⟨h3,h4⟩:=uj h2;rw[aT h1,Hs h3,BJ hf h4]
 ·rw[BJ hf h]
 ·cases h
theorem Qq:∀(n:Nat)(x y:D),eqN n x y=true→x=y
 |0,x,y,h=>by cases h
 |n+1,x,y,h=>XA (Qq n) h
def ti(l:List Nat)(e:Bool):D:=.tree (List.rec (motive:=λ_=>List D) [] (λn _ r=>.i .i64 (.ofNat n)::r) l) l.length e
def eqA(xs ys:List D):Bool:=UO (eqN 40) xs ys
def Va(L:List (List D×D))(R:List D→Option D)(xs:List D):Option D:=
 List.rec (motive:=λ_=>Option D) (R xs) (λe _ ih=>cnd (eqA xs e.1) (some e.2) ih) L
def II(R:Nat→List D→Option D)(L:List (List D×D)):Prop:=∀e,e∈L→∃φ,R φ e.1=some e.2
theorem II.nil{R:Nat→List D→Option D}:II R []:=λe h=>by cases h
theorem II.cons{R:Nat→List D→Option D}{L:List (List D×D)}{k:List D}{v:D}{φ:Nat}(h:R φ k=some v)(hL:II R L):II R ((k,v)::L):=λe he=>by
 rcases bI.1 he with rfl|he
 ·exact⟨φ,h⟩
 ·exact hL e he
def sk(φ:Nat):List D→Option D:=
λas=>
(λ(s:LS)=>
 u1 as λb c=>
 u0 c (
 jY 1 [(.i .u64 (.ofNat 0))] [(0,1,b)] s λd s=>
 eR sH [d] s λe s=>
 eX false s e some)) s0
def fU(φ:Nat):List D→Option D:=
λas=>
(λ(s:LS)=>
 u1 as λc g=>
 u1 g λe h=>
 u0 h (
 fq [(.b false),(.n 0)] s λf s=>
 eI c true (λk=>k e s) s λi s=>
 eI c true (λk=>mE i (.n 0) λd=>k d s) s λl s=>
 fX c l (.b false) s λm s=>
 kN [(.b false),(.n 0)] [(0,1,m),(1,1,e)] s λo s=>
 eU 2 s f o λ_ s=>
 eS 2 s f λp _=>
 eX false s p some)) s0
def u6(φ:Nat):List D→Option D:=
λas=>
(λ(s:LS)=>
 u1 as λf g=>
 u1 g λh i=>
 u0 i (
 ic f s λc s=>
 ic h s λd s=>
 fq [(.b false),(.n 0)] s λe s=>
 eW 0 s c λk s=>
 eJ s k λl s=>
 eW 0 s d λm s=>
 eJ s m λo s=>
 wi .neq l o s λp s=>
 eW 1 s c λu s=>
 eJ s u λv s=>
 eW 1 s d λw s=>
 eJ s w λy s=>
 eR ms [v,y] s λz s=>
 eR (fU φ) [p,z] s λA s=>
 eU 2 s e A λ_ s=>
 eS 2 s e λB _=>
 eX false s B some)) s0
def uZ(φ:Nat):List D→Option D:=
λas=>
(λ(s:LS)=>
 u1 as λe f=>
 u0 f (
 ic e s λc s=>
 fq [(.b false),(.n 0)] s λd s=>
 eW 0 s c λg s=>
 eJ s g λh s=>
 sX h s λi s=>
 eW 1 s c λk s=>
 eJ s k λl s=>
 eR (fU φ) [i,l] s λm s=>
 eU 2 s d m λ_ s=>
 eS 2 s d λo _=>
 eX false s o some)) s0
def mq(φ:Nat):List D→Option D:=
λas=>
(λ(s:LS)=>
 u1 as λf g=>
 u1 g λh k=>
 u0 k (
 ic f s λc s=>
 ic h s λd s=>
 fq [(.b false),(.n 0)] s λe s=>
 eW 0 s c λl s=>
 eJ s l λm s=>
 eW 0 s d λo s=>
 eJ s o λp s=>
 wi .eql m p s λu s=>
 eQ u
(eW 0 s c λv s=>
 eJ s v λw s=>
 eW 1 s c λy s=>
 eJ s y λz s=>
 eW 1 s d λA s=>
 eJ s A λB s=>
 eR tv [z,B] s λC s=>
 eR (fU φ) [w,C] s λE s=>
 eU 2 s e E λ_ s=>
 eS 2 s e λF _=>
 eX false s F some)
(eW 1 s c λG s=>
 eJ s G λH s=>
 eW 1 s d λI s=>
 eJ s I λJ s=>
 eR nH [H,J] s λK s=>
 fN K (.i .i64 (.ofNat 0)) λM=>
 eQ M
(eW 0 s d λN s=>
 eJ s N λO s=>
 eW 1 s d λP s=>
 eJ s P λS s=>
 eW 1 s c λU s=>
 eJ s U λV s=>
 eR mP [S,V] s λW s=>
 eR (fU φ) [O,W] s λX s=>
 eU 2 s e X λ_ s=>
 eS 2 s e λY _=>
 eX false s Y some)
(eW 0 s c λZ s=>
 eJ s Z λbb s=>
 eW 1 s c λbc s=>
 eJ s bc λbd s=>
 eW 1 s d λbf s=>
 eJ s bf λbg s=>
 eR mP [bd,bg] s λbh s=>
 eR (fU φ) [bb,bh] s λbi s=>
 eU 2 s e bi λ_ s=>
 eS 2 s e λbk _=>
 eX false s bk some)))) s0
variable {s:LS} {K:D→LS→Rs}
theorem qK{M:List D→Option D}{a b z:Nat}(h:M [.n a,.n b]=some (.n z)):eR M [.n a,.n b] s K=K (.n z) s:=by
 show ob (M [.n a,.n b]) (λr=>ju s [] r K)=_;rw[h];rfl
theorem JT{M:List D→Option D}{a b:Nat}{k:IntKind}{z:Int}(h:M [.n a,.n b]=some (.i k z)):eR M [.n a,.n b] s K=K (.i k z) s:=by
 show ob (M [.n a,.n b]) (λr=>ju s [] r K)=_;rw[h];rfl
theorem F7{M:List D→Option D}{a b q r:Nat}(h:M [.n a,.n b]=some (.tup [.n q,.n r])):eR M [.n a,.n b] s K=K (.tup [.n q,.n r]) s:=by
 show ob (M [.n a,.n b]) (λr=>ju s [] r K)=_;rw[h];rfl
theorem yI{M:List D→Option D}{x y:Bool}{a z:Nat}(h:M [.b x,.n a]=some (.agg [.b y,.n z])):eR M [.b x,.n a] s K=K (.agg [.b y,.n z]) s:=by
 show ob (M [.b x,.n a]) (λr=>ju s [] r K)=_;rw[h];rfl
def it(x:Bool)(a:Nat):D:=.agg [.b x,.n a]
theorem rL{b:Bool}{a φ:Nat}:fU φ [.b b,.n a]=some (it (b&& !(Nat.beq a 0)) a):=by
 cases b
 ·rfl
 ·cases a<;>rfl
def mkS(a b:List D):LS:=⟨.node (some ⟨a,.rw⟩) (.node (some ⟨b,.rw⟩) .nil .nil) (.node (some ⟨[.b false,.n 0],.rw⟩) .nil .nil),3⟩
theorem UM{x:Bool}{z:Nat}{a b:List D}:(eU 2 (mkS a b) (.ptr 2 0) (it x z) λ_ s=>eS 2 s (.ptr 2 0) λx17 _=>eX false s x17 some)=some (it x z):=by kernel_rfl
theorem JV{x:Bool}{a φ:Nat}:uZ φ [it x a]=some (it (!x&& !(Nat.beq a 0)) a):=by
 refine Eq.trans (b:=eR (fU φ) [.b (!x),.n a] ⟨.node (some ⟨[.b x,.n a],.rw⟩) (.node (some ⟨[.b false,.n 0],.rw⟩) .nil .nil) .nil,2⟩ λx9 s=>eU 2 s (.ptr 1 0) x9 λ_ s=>eS 2 s (.ptr 1 0) λx10 _=>eX false s x10 some) (by cases x<;>kernel_rfl) ?_;rw[yI rL];kernel_rfl
theorem JW{x y:Bool}{a b z φ:Nat}(h:ms [.n a,.n b]=some (.n z)):u6 φ [it x a,it y b]=some (it ((x != y)&& !(Nat.beq z 0)) z):=by
 refine Eq.trans (b:=eR ms [.n a,.n b] (mkS [.b x,.n a] [.b y,.n b]) λx15 s'=>eR (fU φ) [.b (x != y),x15] s' λx16 s=>eU 2 s (.ptr 2 0) x16 λ_ s=>eS 2 s (.ptr 2 0) λx17 _=>eX false s x17 some) (by cases x<;>cases y<;>kernel_rfl) ?_;rw[qK h,yI rL];exact UM
theorem H5{x:Bool}{a b z φ:Nat}(h:tv [.n a,.n b]=some (.n z)):mq φ [it x a,it x b]=some (it (x&& !(Nat.beq z 0)) z):=by
 refine Eq.trans (b:=eR tv [.n a,.n b] (mkS [.b x,.n a] [.b x,.n b]) λx15 s'=>eR (fU φ) [.b x,x15] s' λx16 s=>eU 2 s (.ptr 2 0) x16 λ_ s=>eS 2 s (.ptr 2 0) λx17 _=>eX false s x17 some) (by cases x<;>kernel_rfl) ?_;rw[qK h,yI rL];exact UM
theorem CT{x y:Bool}{a b φ:Nat}{c:Int}(hxy:x≠y)(h:nH [.n a,.n b]=some (.i .i64 c)):mq φ [it x a,it y b]=
 (fN (.i .i64 c) (.i .i64 (.ofNat 0)) λx25=>eQ x25
  (eR mP [.n b,.n a] (mkS [.b x,.n a] [.b y,.n b]) λx15 s'=>eR (fU φ) [.b y,x15] s' λx16 s=>eU 2 s (.ptr 2 0) x16 λ_ s=>eS 2 s (.ptr 2 0) λx17 _=>eX false s x17 some)
  (eR mP [.n a,.n b] (mkS [.b x,.n a] [.b y,.n b]) λx15 s'=>eR (fU φ) [.b x,x15] s' λx16 s=>eU 2 s (.ptr 2 0) x16 λ_ s=>eS 2 s (.ptr 2 0) λx17 _=>eX false s x17 some)):=by
 refine Eq.trans (b:=eR nH [.n a,.n b] (mkS [.b x,.n a] [.b y,.n b]) λx24 s=>fN x24 (.i .i64 (.ofNat 0)) λx25=>eQ x25
  (eW 0 s (.ptr 1 0) λx26 s=>eJ s x26 λx27 s=>eW 1 s (.ptr 1 0) λx28 s=>eJ s x28 λx29 s=>eW 1 s (.ptr 0 0) λx30 s=>eJ s x30 λx31 s=>
   eR mP [x29,x31] s λx32 s=>eR (fU φ) [x27,x32] s λx33 s=>eU 2 s (.ptr 2 0) x33 λ_ s=>eS 2 s (.ptr 2 0) λx34 _=>eX false s x34 some)
  (eW 0 s (.ptr 0 0) λx35 s=>eJ s x35 λx36 s=>eW 1 s (.ptr 0 0) λx37 s=>eJ s x37 λx38 s=>eW 1 s (.ptr 1 0) λx39 s=>eJ s x39 λx40 s=>
   eR mP [x38,x40] s λx41 s=>eR (fU φ) [x36,x41] s λx42 s=>eU 2 s (.ptr 2 0) x42 λ_ s=>eS 2 s (.ptr 2 0) λx43 _=>eX false s x43 some)) (by cases x<;>cases y<;>first|exact absurd rfl hxy|kernel_rfl) ?_
 rw[JT h];kernel_rfl
theorem Dx{a b:Nat}(h:a<b):nH [.n a,.n b]=some (.i .i64 (.negSucc 0)):=by
 show some (cnd (Nat.blt a b) (D.i .i64 (.negSucc 0)) (cnd (Nat.beq a b) (D.i .i64 (.ofNat 0)) (D.i .i64 (.ofNat 1))))=_;rw[ep h];rfl
theorem Dy{a b:Nat}(h:b≤a):∃c,nH [.n a,.n b]=some (.i .i64 (.ofNat c)):=by
 have e:nH [.n a,.n b]=some (cnd (Nat.blt a b) (D.i .i64 (.negSucc 0)) (cnd (Nat.beq a b) (D.i .i64 (.ofNat 0)) (D.i .i64 (.ofNat 1)))):=rfl;rw[e,fC (by omega),e9];by_cases h2:a=b
 ·rw[h2,ej];exact⟨0,rfl⟩
 ·rw[gG h2];exact⟨1,rfl⟩
theorem NF{x y:Bool}{a b z φ:Nat}(hxy:x≠y)(hab:a<b)(h:mP [.n b,.n a]=some (.n z)):mq φ [it x a,it y b]=some (it (y&& !(Nat.beq z 0)) z):=by
 rw[CT hxy (Dx hab),rg,eP,qK h,yI rL];exact UM
theorem NG{x y:Bool}{a b z φ:Nat}(hxy:x≠y)(hab:b≤a)(h:mP [.n a,.n b]=some (.n z)):mq φ [it x a,it y b]=some (it (x&& !(Nat.beq z 0)) z):=by
 obtain⟨c,hc⟩:=Dy hab;rw[CT hxy hc,ji,fC (cU c),eM,qK h,yI rL];exact UM
def YL(d:D)(k:Bool→Rs):Rs:=onB d (k true) (k false) none
theorem M9{d:D}{k:Bool→Rs}{r:D}(h:YL d k=some r):∃x,d=.b x∧k x=some r:=by
 cases d with
 |b x=>cases x<;>exact⟨_,rfl,h⟩
 |_=>cases h
def zk(d:D)(k:Bool→Nat→Rs):Rs:=Ka d (λcs=>u1 cs λb r=>u1 r λn r=>u0 r (YL b λx=>oL n λa=>k x a)) none
theorem vN{d:D}{k:Bool→Nat→Rs}{r:D}(h:zk d k=some r):∃x a,d=it x a∧k x a=some r:=by
 obtain⟨cs,rfl,h1⟩:=xq h;obtain⟨b,r1,rfl,h2⟩:=jR h1;obtain⟨n,r2,rfl,h3⟩:=jR h2;obtain⟨rfl,h4⟩:=oB h3;obtain⟨x,rfl,h5⟩:=M9 h4;obtain⟨a,rfl,h6⟩:=gk h5;exact⟨x,a,rfl,h6⟩
def kIt(x:Bool)(z:Nat)(k:D→Rs):Rs:=cnd x (cnd (Nat.beq z 0) (k (.agg [.b false,.n z])) (k (.agg [.b true,.n z]))) (k (.agg [.b false,.n z]))
theorem sZ{x:Bool}{z:Nat}{k:D→Rs}:kIt x z k=k (it (x&& !(Nat.beq z 0)) z):=by
 unfold kIt it;cases x
 ·rfl
 ·cases Nat.beq z 0<;>rfl
def xM(as:List D):Option D:=u1 as λa r=>u0 r (zk a λx a=>kIt (cnd x false true) a some)
theorem H1{as:List D}{r:D}(h:xM as=some r):∃φ,uZ φ as=some r:=by
 obtain⟨a,r1,rfl,g1⟩:=jR h;obtain⟨rfl,g2⟩:=oB g1;obtain⟨x,a,rfl,g3⟩:=vN g2;rw[sZ]at g3;refine⟨0,?_⟩;rw[JV,←g3];cases x<;>rfl
def vp(as:List D):Option D:=u1 as λa r=>u1 r λb r=>u0 r (zk a λx a=>zk b λy b=>ob (ms [.n a,.n b]) λz=>oL z λz=>kIt (cnd x (cnd y false true) y) z some)
theorem H3{as:List D}{r:D}(h:vp as=some r):∃φ,u6 φ as=some r:=by
 obtain⟨a,r1,rfl,g1⟩:=jR h;obtain⟨b,r2,rfl,g2⟩:=jR g1;obtain⟨rfl,g3⟩:=oB g2;obtain⟨x,a,rfl,g4⟩:=vN g3;obtain⟨y,b,rfl,g5⟩:=vN g4;obtain⟨z,hz,g6⟩:=nG g5;obtain⟨z,rfl,g7⟩:=gk g6;rw[sZ]at g7;refine⟨0,?_⟩;rw[JW hz,←g7];cases x<;>cases y<;>rfl
def Ro(x:Bool)(a:Nat)(y:Bool)(b:Nat)(k:D→Rs):Rs:=
 cnd (cnd x y (cnd y false true)) (ob (tv [.n a,.n b]) λz=>oL z λz=>kIt x z k)
  (cnd (Nat.blt a b) (ob (mP [.n b,.n a]) λz=>oL z λz=>kIt y z k) (ob (mP [.n a,.n b]) λz=>oL z λz=>kIt x z k))
theorem N2{x y:Bool}{a b:Nat}{k:D→Rs}{r:D}(h:Ro x a y b k=some r):∃v z,(∀φ,mq φ [it x a,it y b]=some (it v z))∧k (it v z)=some r:=by
 unfold Ro at h;by_cases hxy:x=y
 ·subst hxy;have e:cnd x x (cnd x false true)=true:=by cases x<;>rfl
  rw[e,eL]at h;obtain⟨z,hz,g6⟩:=nG h;obtain⟨z,rfl,g7⟩:=gk g6;rw[sZ]at g7;exact⟨_,z,λφ=>H5 hz,g7⟩
 ·have e:cnd x y (cnd y false true)=false:=by cases x<;>cases y<;>first|rfl|exact absurd rfl hxy
  rw[e,e9]at h;rcases Cc h with⟨h1,g⟩|⟨h1,g⟩
  ·obtain⟨z,hz,g6⟩:=nG g;obtain⟨z,rfl,g7⟩:=gk g6;rw[sZ]at g7;exact⟨_,z,λφ=>NF hxy (uK h1) hz,g7⟩
  ·obtain⟨z,hz,g6⟩:=nG g;obtain⟨z,rfl,g7⟩:=gk g6;rw[sZ]at g7;have hle:b≤a:=by
    rcases az a b with hq|hq
    ·rw[ep hq]at h1;cases h1
    ·exact hq
   exact⟨_,z,λφ=>NG hxy hle hz,g7⟩
def uC(as:List D):Option D:=u1 as λa r=>u1 r λb r=>u0 r (zk a λx a=>zk b λy b=>Ro x a y b some)
theorem H6{as:List D}{r:D}(h:uC as=some r):∃φ,mq φ as=some r:=by
 obtain⟨a,r1,rfl,g1⟩:=jR h;obtain⟨b,r2,rfl,g2⟩:=jR g1;obtain⟨rfl,g3⟩:=oB g2;obtain⟨x,a,rfl,g4⟩:=vN g3;obtain⟨y,b,rfl,g5⟩:=vN g4;obtain⟨v,z,h1,h2⟩:=N2 g5;exact⟨0,by rw[h1];exact h2⟩
end
end Go.Proofs.Ev
set_option maxRecDepth 1000000
set_option maxHeartbeats 0
namespace Go.Proofs.Ev
noncomputable section
def mV(φ:Nat):List D→Option D:=
λas=>
(λ(s:LS)=>
 u1 as λd e=>
 u0 e (
 ic d s λf s=>
 fq [(.b false),(.n 0),(.n 0)] s λc s=>
 eS 2 s f λg s=>
 kN [(.b false),(.n 0),(.n 0)] [(0,2,g),(2,1,(.n 1))] s λh s=>
 eU 3 s c h λ_ s=>
 eS 3 s c λi _=>
 eX false s i some)) s0
def n6(φ:Nat):List D→Option D:=
λas=>
(λ(s:LS)=>
 u1 as λo p=>
 u1 p λu v=>
 u0 v (
 ic o s λc s=>
 ic u s λd s=>
 fq [(.b false),(.n 0),(.n 0)] s λf s=>
 eW 1 s c λw s=>
 eJ s w λy s=>
 eW 1 s d λz s=>
 eJ s z λA s=>
 eR (tt φ) [y,A] s λe s=>
 jn (λ(g h i:D)(s:LS)=>
 eW 0 s g λB s=>
 eJ s B λC s=>
 eW 0 s h λE s=>
 eJ s E λF s=>
 wi .neq C F s λG s=>
 eW 1 s g λH s=>
 eJ s H λI s=>
 eR (fU φ) [G,I] s λJ s=>
 eW 1 s h λK s=>
 eJ s K λM s=>
 kN [(.b false),(.n 0),(.n 0)] [(0,2,J),(2,1,M)] s λN s=>
 eU 3 s i N λ_ s=>
 eS 3 s i λO _=>
 eX false s O some) λk=>
 mE e (.n 1) λP=>
 eQ P
(eW 1 s c λS s=>
 eJ s S λU s=>
 eR (oc φ) [U,e] s λl s=>
 gD l 0 s λV s=>
 gD l 1 s λbc s=>
 eW 1 s c λW s=>
 eU 1 s W V λ_ s=>
 eW 1 s d λX s=>
 eJ s X λY s=>
 eR (oc φ) [Y,e] s λm s=>
 gD m 0 s λZ s=>
 gD m 1 s λbd s=>
 eW 1 s d λbb s=>
 eU 1 s bb Z λ_ s=>
 k c d f s)
(k c d f s))) s0
def lk(φ:Nat):List D→Option D:=
λas=>
(λ(s:LS)=>
 u1 as λh i=>
 u1 i λl m=>
 u0 m (
 ic h s λc s=>
 ic l s λe s=>
 fq [(.b false),(.n 0),(.n 0)] s λf s=>
 eW 2 s c λo s=>
 eJ s o λp s=>
 gx p (.n 1) λg=>
 eI g true (λk=>eW 2 s e k) s λu s=>
 eI g true (λk=>eJ s u k) s λv s=>
 eI g true (λk=>gx v (.n 1) λd=>k d s) s λw s=>
 fX g w (.b false) s λy s=>
 eQ y
(eW 0 s c λz s=>
 eS 2 s z λA s=>
 eW 0 s e λB s=>
 eS 2 s B λC s=>
 eR vp [A,C] s λE s=>
 eR (mV φ) [E] s λF s=>
 eU 3 s f F λ_ s=>
 eS 3 s f λG _=>
 eX false s G some)
(eW 0 s c λH s=>
 eS 2 s H λI s=>
 eW 0 s e λJ s=>
 eS 2 s J λK s=>
 eR vp [I,K] s λM s=>
 eW 2 s c λN s=>
 eJ s N λO s=>
 eW 2 s e λP s=>
 eJ s P λS s=>
 eR ms [O,S] s λU s=>
 kN [(.b false),(.n 0)] [(1,1,U)] s λV s=>
 eR (n6 φ) [M,V] s λW s=>
 eU 3 s f W λ_ s=>
 eS 3 s f λX _=>
 eX false s X some))) s0
def o8(φ:Nat):List D→Option D:=
λas=>
(λ(s:LS)=>
 u1 as λg h=>
 u1 h λi k=>
 u0 k (
 ic g s λc s=>
 ic i s λd s=>
 fq [(.b false),(.n 0),(.n 0)] s λe s=>
 eW 2 s c λl s=>
 eJ s l λm s=>
 eW 2 s d λo s=>
 eJ s o λp s=>
 gx m p λu=>
 eQ u
(eW 2 s c λv s=>
 eJ s v λw s=>
 gx w (.n 1) λy=>
 eQ y
(eW 0 s c λz s=>
 eS 2 s z λA s=>
 eW 0 s d λB s=>
 eS 2 s B λC s=>
 eR uC [A,C] s λE s=>
 eR (mV φ) [E] s λF s=>
 eU 3 s e F λ_ s=>
 eS 3 s e λG _=>
 eX false s G some)
(eW 0 s c λH s=>
 eS 2 s H λI s=>
 eW 0 s d λJ s=>
 eS 2 s J λK s=>
 eR uC [I,K] s λM s=>
 eW 2 s c λN s=>
 eJ s N λO s=>
 kN [(.b false),(.n 0)] [(1,1,O)] s λP s=>
 eR (n6 φ) [M,P] s λS s=>
 eU 3 s e S λ_ s=>
 eS 3 s e λU _=>
 eX false s U some))
(eW 0 s c λV s=>
 eW 0 s V λW s=>
 eJ s W λX s=>
 eW 0 s c λY s=>
 eW 1 s Y λZ s=>
 eJ s Z λbb s=>
 eW 2 s d λbc s=>
 eJ s bc λbd s=>
 eR ms [bb,bd] s λbf s=>
 eR (fU φ) [X,bf] s λbg s=>
 eW 0 s d λbh s=>
 eW 0 s bh λbi s=>
 eJ s bi λbk s=>
 eW 0 s d λbl s=>
 eW 1 s bl λbm s=>
 eJ s bm λbn s=>
 eW 2 s c λbo s=>
 eJ s bo λbp s=>
 eR ms [bn,bp] s λbu s=>
 eR (fU φ) [bk,bu] s λbv s=>
 eR uC [bg,bv] s λbw s=>
 fq [(.b false),(.n 0)] s λf s=>
 eU 2 s f bw λ_ s=>
 eS 2 s f λbz s=>
 eW 2 s c λbA s=>
 eJ s bA λbB s=>
 eW 2 s d λbC s=>
 eJ s bC λbE s=>
 eR ms [bB,bE] s λbF s=>
 kN [(.b false),(.n 0)] [(1,1,bF)] s λbG s=>
 eR (n6 φ) [bz,bG] s λbH s=>
 eU 3 s e bH λ_ s=>
 eS 3 s e λbI _=>
 eX false s bI some))) s0
variable {s:LS} {K:D→LS→Rs} {k:D→Rs}
theorem Y8{M:List D→Option D}{x:Bool}(h:M []=some (.b x)):eR M [] s K=K (.b x) s:=by
 show ob (M []) (λr=>ju s [] r K)=_;rw[h];rfl
variable {P:Program} {im:Nat→Option Nat} {okp:Nat→Nat→Prop} {w w':World}
theorem RR.keptBut{r:D}{v:Value}(h:RR im okp w w' r v)(may:MemPlace→Prop):w.keptBut w' may:=by
 obtain⟨hs,hk,hsm,ob,ho⟩:=h;refine⟨hsm.os,hsm.out,λi hi=>?_⟩;have:=(World.keptBut_refl w may).2.2 i hi;rw[hk i hi];exact this
theorem RR.bool{x:Bool}{v:Value}(h:RR im okp w w' (.b x) v):v=.bool x:=by
 obtain⟨hs,hk,hsm,ob,ho⟩:=h;simpa[Uq,TR]using ho
end
end Go.Proofs.Ev
namespace Go.Proofs.Ev
noncomputable section
def Tn(G:Nat→Nat→Option FT)(n φ:Nat):pG:=λk=>cnd (Nat.blt k n) (G φ k) none
theorem Ar{G:Nat→Nat→Option FT}{n φ:Nat}{x:FT}(h:G φ n=some x):sM (Tn G n φ) n x=Tn G (n+1) φ:=by
 funext k;unfold sM Tn;by_cases e:k=n
 ·subst e;rw[show Nat.beq k k=true from dW k,eL,ep (cK k),eL,h]
 ·rw[show Nat.beq k n=false from gG e,e9];by_cases hlt:k<n
  ·rw[ep hlt,ep (by omega)]
  ·rw[fC hlt,fC (by omega)]
variable {P:Program} {l:List Nat} {G:Nat→Nat→Option FT} {n F:Nat} {TD TD':Nat→pG} {fn:Func} {na md:Nat} {an:List (Option (List Nat))}
def Lb(P:Program)(l:List Nat)(G:Nat→Nat→Option FT)(n:Nat)(TD:Nat→pG):Prop:=P.follows .mixedOrders=true∧∀φ,yV P (λF=>imA F l 0) n (Tn G n φ) (TD φ)
theorem Lb.nil(hm:P.follows .mixedOrders=true):Lb P l G 0 λ_ _=>none:=⟨hm,λφ=>by
 have:Tn G 0 φ=λ_=>none:=by funext k;exact(by rw[Tn,fC (cU k),e9])
 rw[this];exact yV.nil⟩
def Fc(P:Program)(l:List Nat)(n F:Nat)(fn:Func):Prop:=(P.funcs[F]?,(fn.name== "runtime.NumGoroutine",fn.body.isSome),l[n]?)=(some fn,(false,true),some F)
theorem Fc.ok(h:Fc P l n F fn):FnOk P (λF=>imA F l 0) n F fn:=by
 simp only[Fc,aJ]at h;exact UE h.1 h.2.1.1 h.2.1.2 h.2.2
theorem Lb.put(h:Lb P l G n TD)(f:Fc P l n F fn){M:Nat→List D→Option D}(hM:∀φ,Snd P (λF=>imA F l 0) F (M φ))(g:(λφ=>G φ n)=λφ=>some (.iso (M φ))):Lb P l G (n+1) TD:=
 ⟨h.1,λφ=>by rw[←Ar (congrFun g φ)];exact(h.2 φ).iso false f.ok (hM φ)⟩
theorem Lb.putd(h:Lb P l G n TD)(f:Fc P l n F fn){M:Nat→List D→Option D}(hM:∀φ,Snd P (λF=>imA F l 0) F (M φ))(g:(λφ=>G φ n)=λφ=>some (.iso (M φ))):
 Lb P l G (n+1) λφ=>sM (TD φ) n (.iso (M φ)):=
 ⟨h.1,λφ=>by rw[←Ar (congrFun g φ)];exact(h.2 φ).iso true f.ok (hM φ)⟩
theorem Lb.snd(h:Lb P l G n TD)(f:Fc P l n F fn){R:Nat→List D→Option D}(e:(λφ=>C9 φ (Tn G n φ) (TD φ) na (rR P (λF=>imA F l 0) md an fn))=R)(φ:Nat):Snd P (λF=>imA F l 0) F (R φ):=
 (h.2 φ).snd h.1 f.ok (congrFun e φ)
theorem Lb.sndM(h:Lb P l G n TD)(f:Fc P l n F fn){R M:Nat→List D→Option D}(hM:∀φ xs r,M φ xs=some r→∃φ',R φ' xs=some r)(e:(λφ=>C9 φ (Tn G n φ) (TD φ) na (rR P (λF=>imA F l 0) md an fn))=R)(φ:Nat):Snd P (λF=>imA F l 0) F (M φ):=λxs r hr=>by
 obtain⟨φ',h'⟩:=hM φ xs r hr;exact h.snd f e φ' xs r h'
theorem Lb.mem(h:Lb P l G n TD)(f:Fc P l n F fn){R:Nat→List D→LS→(D→LS→Rs)→Rs}(e:(λφ=>Ca φ (Tn G n φ) (TD φ) na (rR P (λF=>imA F l 0) 2 an fn))=R)(g:(λφ=>G φ n)=λφ=>some (.mem (R φ))):Lb P l G (n+1) TD:=
 ⟨h.1,λφ=>by rw[←Ar (congrFun g φ)];exact(h.2 φ).mem false f.ok (congrFun e φ)⟩
theorem Lb.memR(h:Lb P l G n TD)(f:Fc P l n F fn){Q:Nat→(List D→LS→(D→LS→Rs)→Rs)→List D→LS→(D→LS→Rs)→Rs}{R:Nat→List D→LS→(D→LS→Rs)→Rs}(hR:R=λφ=>lp (λ_ _ _=>none) (Q φ) φ)
 (e:(λφ ih=>Ca φ (sM (Tn G n φ) n (.mem ih)) (TD φ) na (rR P (λF=>imA F l 0) 2 an fn))=Q) (g:(λφ=>G φ n)=λφ=>some (.mem (R φ))):Lb P l G (n+1) TD:=
 ⟨h.1,λφ=>by
  have g':=congrFun g φ;subst hR;rw[←Ar g'];exact(h.2 φ).memRec false f.ok (congrFun e φ) φ⟩
def fL(P:Program)(l:List Nat)(n F:Nat)(fn:Func):Option Func×(Bool×Bool)×Option Nat:=(P.funcs[F]?,(fn.name== "runtime.NumGoroutine",fn.body.isSome),l[n]?)
def fR(F:Nat)(fn:Func):Option Func×(Bool×Bool)×Option Nat:=(some fn,(false,true),some F)
theorem Lb.st(h:Lb P l G n TD)(F:Nat)(fn:Func)(na md:Nat)(an:List (Option (List Nat)))(R:Nat→List D→Option D)
 (f:(fL P l n F fn,λφ=>C9 φ (Tn G n φ) (TD φ) na (rR P (λF=>imA F l 0) md an fn),λφ=>G φ n)=(fR F fn,R,λφ=>some (.iso (R φ)))):Lb P l G (n+1) TD:=by
 simp only[aJ]at f;exact h.put f.1 (h.snd f.1 f.2.1) f.2.2
theorem Lb.std(h:Lb P l G n TD)(F:Nat)(fn:Func)(na md:Nat)(an:List (Option (List Nat)))(R:Nat→List D→Option D)
 (f:(fL P l n F fn,λφ=>C9 φ (Tn G n φ) (TD φ) na (rR P (λF=>imA F l 0) md an fn),λφ=>G φ n)=(fR F fn,R,λφ=>some (.iso (R φ)))):Lb P l G (n+1) λφ=>sM (TD φ) n (.iso (R φ)):=by
 simp only[aJ]at f;exact h.putd f.1 (h.snd f.1 f.2.1) f.2.2
theorem Lb.stM(h:Lb P l G n TD)(F:Nat)(fn:Func)(na md:Nat)(an:List (Option (List Nat)))(R M:Nat→List D→Option D)(hM:∀φ xs r,M φ xs=some r→∃φ',R φ' xs=some r)
 (f:(fL P l n F fn,λφ=>C9 φ (Tn G n φ) (TD φ) na (rR P (λF=>imA F l 0) md an fn),λφ=>G φ n)=(fR F fn,R,λφ=>some (.iso (M φ)))):Lb P l G (n+1) TD:=by
 simp only[aJ]at f;exact h.put f.1 (h.sndM f.1 hM f.2.1) f.2.2
theorem Lb.stC(h:Lb P l G n TD)(F:Nat)(fn:Func)(na md:Nat)(an:List (Option (List Nat)))(R:Nat→List D→Option D)(hC:∀{F:FuncId},P.funcs[F]?=some fn→∀ex,GC P (λF=>imA F l 0) F [.tree [] 0 ex] (.tree [] 0 true))
 (f:(fL P l n F fn,λφ=>C9 φ (Tn G n φ) (TD φ) na (rR P (λF=>imA F l 0) md an fn),λφ=>G φ n)=(fR F fn,R,λφ=>some (.iso (pP (R φ))))):Lb P l G (n+1) TD:=by
 simp only[aJ]at f;exact h.put f.1 (λφ=>NV (h.snd f.1 f.2.1 φ) (hC (Fc.ok f.1).fun')) f.2.2
theorem Lb.me(h:Lb P l G n TD)(F:Nat)(fn:Func)(na:Nat)(an:List (Option (List Nat)))(R:Nat→List D→LS→(D→LS→Rs)→Rs)
 (f:(fL P l n F fn,λφ=>Ca φ (Tn G n φ) (TD φ) na (rR P (λF=>imA F l 0) 2 an fn),λφ=>G φ n)=(fR F fn,R,λφ=>some (.mem (R φ)))):Lb P l G (n+1) TD:=by
 simp only[aJ]at f;exact h.mem f.1 f.2.1 f.2.2
theorem Lb.mr(h:Lb P l G n TD)(F:Nat)(fn:Func)(na:Nat)(an:List (Option (List Nat)))(Q:Nat→(List D→LS→(D→LS→Rs)→Rs)→List D→LS→(D→LS→Rs)→Rs)(R:Nat→List D→LS→(D→LS→Rs)→Rs)(hR:R=λφ=>lp (λ_ _ _=>none) (Q φ) φ)
 (f:(fL P l n F fn,λφ ih=>Ca φ (sM (Tn G n φ) n (.mem ih)) (TD φ) na (rR P (λF=>imA F l 0) 2 an fn),λφ=>G φ n)=(fR F fn,Q,λφ=>some (.mem (R φ)))):Lb P l G (n+1) TD:=by
 simp only[aJ]at f;exact h.memR f.1 hR f.2.1 f.2.2
end
end Go.Proofs.Ev
namespace Go.Proofs.Ev
noncomputable section
structure SS where
 r:pG→(iF→LS→Rs)→iF→LS→Rs
def shK(d:D)(k:D→Rs):Rs:=D.rec (motive_1:=λ_=>Rs) (motive_2:=λ_=>PUnit.{1}) (k .u) (λa b=>k (.i a b)) (λa=>k (.b a)) (λa=>k (.s a)) (λa=>k (.n a)) (k .np) (k .nf) (λa b c _=>k (.tree a b c)) (λa b c _=>k (.own a b c)) (λa b c d e f=>k (.sl a b c d e f)) (λa b=>k (.ptr a b)) (λa _=>k (.fp a)) (λa _=>k (.agg a)) (λa _=>k (.tup a)) (λa b _=>k (.fn a b)) ⟨⟩ (λ_ _ _ _=>⟨⟩) d
theorem IW(d:D)(k:D→Rs):shK d k=k d:=by cases d<;>rfl
def iS(i:Ins)(ih:SS):SS:=match i.gd with
 |none=>match i.dst with
  |none=>⟨λT K ε s=>(kPS i.op).r T T ε s λ_ s=>ih.r T K ε s⟩
  |some t=>⟨λT K ε s=>(kPS i.op).r T T ε s λd s=>shK d λd=>ih.r T K (sup ε t d) s⟩
 |some (t,w)=>match i.dst with
  |none=>⟨λT K ε s=>ob (ε t) λg=>eI g w (λk=>(kPS i.op).r T T ε s k) s λ_ s=>ih.r T K ε s⟩
  |some t'=>⟨λT K ε s=>ob (ε t) λg=>eI g w (λk=>(kPS i.op).r T T ε s k) s λd s=>shK d λd=>ih.r T K (sup ε t' d) s⟩
def lS(l:List Ins):SS:=List.rec (motive:=λ_=>SS) ⟨λ_ K ε s=>K ε s⟩ (λi _ ih=>iS i ih) l
theorem VJ{T:pG}{K:iF→LS→Rs}:∀(l:List Ins)(ε:iF)(s:LS),(lS l).r T K ε s=Aj T T l K ε s
 |[],_,_=>rfl
 |i::l,ε,s=>by
  obtain⟨dst,gd,o⟩:=i;have ih:∀ε s,(lS l).r T K ε s=Aj T T l K ε s:=λε s=>VJ l ε s;show(iS ⟨dst,gd,o⟩ (lS l)).r T K ε s=_;rcases gd with _|⟨t,w⟩
  ·cases dst<;>simp only[iS,Aj,ih,kOp,Gm,IW]
  ·cases dst<;>(simp only[iS,Aj,ih,kOp,ob,Gm,IW];cases ε t<;>rfl)
structure CSt where
 r:pG→KN→iF→LS→Rs
def reb(ls:List Nat)(ε:iF)(k:iF→Rs):Rs:=List.rec (motive:=λ_=>iF→Rs) k (λt _ ih a=>ob (ε t) λd=>ih (sup a t d)) ls noS
def cS(φ:Nat)(c:C):CSt:=C.rec (motive:=λ_=>CSt) ⟨λ_ _ _ _=>none⟩ ⟨λ_ K ε s=>K.n ε s⟩ (λl=>⟨λT K ε s=>(lS l).r T K.n ε s⟩)
 (λ_ _ a b=>⟨λT K ε s=>a.r T ⟨λε s=>b.r T K ε s,K.ex,K.ret⟩ ε s⟩) (λx _ _ a b=>⟨λT K ε s=>eQ (xv ε x) (a.r T K ε s) (b.r T K ε s)⟩)
 (λid _ c=>⟨λT K ε s=>c.r T ⟨K.n,K.exit id K.n,K.ret⟩ ε s⟩) (λ_ c=>⟨λT K ε s=>lp (λ_ _=>none) (λq ε s=>c.r T ⟨q,K.ex,K.ret⟩ ε s) φ ε s⟩)
 (λid=>⟨λ_ K ε s=>K.ex id ε s⟩) ⟨λ_ K ε s=>K.ret ε s⟩ (λls _ c=>⟨λT K ε s=>reb ls ε λε=>c.r T K ε s⟩) c
theorem O2{k:iF→Rs}{r:D}{ε:iF}{ls:List Nat}(h:reb ls ε k=some r):k (wJ ls ε)=some r:=by
 have go:∀(ls:List Nat)(a:iF),List.rec (motive:=λ_=>iF→Rs) k (λt _ ih a=>ob (ε t) λd=>ih (sup a t d)) ls a=some r→k (λn=>cnd (xw n ls) (ε n) (a n))=some r:=by
  intro ls
  induction ls with
  |nil=>intro a h;exact h
  |cons t ls ih=>
   intro a h;obtain⟨d,h1,h2⟩:=nG h;have h3:=ih _ h2;refine Eq.trans (congrArg k (funext λn=>?_)) h3;show cnd (cnd (Nat.beq n t) true (xw n ls)) (ε n) (a n)=cnd (xw n ls) (ε n) (cnd (Nat.beq n t) (some d) (a n));cases hb:Nat.beq n t with
   |false=>rfl
   |true=>
    rw[aT hb,h1];cases xw t ls<;>rfl
 exact go ls noS h
section
variable {Δ:Tr Ent} {T:pG} {φ:Nat} {r:D}
theorem U5(hT:TOk Δ T):∀(c:C)(K:KN)(s:LS)(e:Env)(σ:Sto),LSR s σ→(cS φ c).r T K e.get s=some r→
 ∃n x e' σ' s',run Δ n (.code c e σ)=some (.code x e' σ')∧LSR s' σ'∧K.at x e'.get s'=some r:=by
 intro c
 induction c with
 |bad=>intro K s e σ h hr;cases hr
 |skip=>intro K s e σ h hr;exact⟨1,.nrm,e,σ,s,rfl,h,hr⟩
 |reg l=>
  intro K s e σ h hr;have hr:(lS l).r T K.n e.get s=some r:=hr;rw[VJ]at hr;obtain⟨n,e',σ',s',h1,h2,h3⟩:=xP hT hT l s e σ h hr;exact⟨n+1,.nrm,e',σ',s',h1,h2,h3⟩
 |seq a b iha ihb=>
  intro K s e σ h hr;obtain⟨n,x,e1,σ1,s1,h1,h2,h3⟩:=iha _ s e σ h hr;cases x with
  |nrm=>
   obtain⟨m,x,e',σ',s',h4,h5,h6⟩:=ihb K s1 e1 σ1 h2 h3;refine⟨(n+m)+1,x,e',σ',s',?_,h5,h6⟩;simp only[run,qT (show n≤n+m by omega) h1,qT (show m≤n+m by omega) h4]
  |exit id=>exact⟨n+1,.exit id,e1,σ1,s1,by simp only[run,h1],h2,h3⟩
  |ret=>exact⟨n+1,.ret,e1,σ1,s1,by simp only[run,h1],h2,h3⟩
 |cond x a b iha ihb=>
  intro K s e σ h hr;rcases tF hr with⟨h1,h2⟩|⟨h1,h2⟩
  ·obtain⟨n,x',e',σ',s',h3,h4⟩:=iha K s e σ h h2;rw[←xev]at h1;exact⟨n+1,x',e',σ',s',by simp only[run,h1,h3],h4⟩
  ·obtain⟨n,x',e',σ',s',h3,h4⟩:=ihb K s e σ h h2;rw[←xev]at h1;exact⟨n+1,x',e',σ',s',by simp only[run,h1,h3],h4⟩
 |block id c ih=>
  intro K s e σ h hr;obtain⟨n,x,e',σ',s',h3,h4,h5⟩:=ih _ s e σ h hr;cases x with
  |nrm=>exact⟨n+1,.nrm,e',σ',s',by simp only[run,h3],h4,h5⟩
  |ret=>exact⟨n+1,.ret,e',σ',s',by simp only[run,h3],h4,h5⟩
  |exit j=>
   simp only[KN.at,KN.exit]at h5;cases hj:Nat.beq j id with
   |true=>
    rw[hj]at h5;exact⟨n+1,.nrm,e',σ',s',by simp only[run,h3,hj,cond_true],h4,h5⟩
   |false=>
    rw[hj]at h5;exact⟨n+1,.exit j,e',σ',s',by simp only[run,h3,hj,cond_false],h4,h5⟩
 |loop c ih=>
  intro K s e σ h hr;have key:∀(m:Nat)(s:LS)(e:Env)(σ:Sto),LSR s σ→lp (λ_ _=>none) (λq ε s=>(cS φ c).r T ⟨q,K.ex,K.ret⟩ ε s) m e.get s=some r→
   ∃n x e' σ' s',run Δ n (.code (.loop c) e σ)=some (.code x e' σ')∧LSR s' σ'∧K.at x e'.get s'=some r:=by
   intro m
   induction m with
   |zero=>intro s e σ h hr;cases hr
   |succ m ihm=>
    intro s e σ h hr;obtain⟨n,x,e1,σ1,s1,h4,h5,h6⟩:=ih _ s e σ h hr;cases x with
    |nrm=>
     obtain⟨n2,x,e',σ',s',h7,h8,h9⟩:=ihm s1 e1 σ1 h5 h6;refine⟨(n+n2)+1,x,e',σ',s',?_,h8,h9⟩;rw[run];simp only[qT (show n≤n+n2 by omega) h4,qT (show n2≤n+n2 by omega) h7]
    |exit id=>exact⟨n+1,.exit id,e1,σ1,s1,by rw[run];simp only[h4],h5,h6⟩
    |ret=>exact⟨n+1,.ret,e1,σ1,s1,by rw[run];simp only[h4],h5,h6⟩
  exact key φ s e σ h hr
 |exit id=>intro K s e σ h hr;exact⟨1,.exit id,e,σ,s,rfl,h,hr⟩
 |ret=>intro K s e σ h hr;exact⟨1,.ret,e,σ,s,rfl,h,hr⟩
 |cut ls c ih=>
  intro K s e σ h hr;have hr:=O2 (k:=λε=>(cS φ c).r T K ε s) hr;rw[←zx]at hr;obtain⟨n,x,e',σ',s',h3,h4,h5⟩:=ih K s _ σ h hr;exact⟨n+1,x,e',σ',s',by simp only[run];exact h3,h4,h5⟩
def Lp:Nat→Nat→iF→List D→(iF→Rs)→Rs
 |0,_,ε,l,F=>u0 l (F ε)
 |n+1,t,ε,l,F=>u1 l λd r=>shK d λd=>Lp n (Nat.succ t) (sup ε t d) r F
theorem ID{F:iF→Rs}:∀(n t:Nat)(ε:iF)(l:List D),Lp n t ε l F=A8 n t ε l F
 |0,_,_,_=>rfl
 |n+1,t,ε,l=>by simp only[Lp,A8,IW,ID n]
def fS(φ:Nat)(T:pG)(n:Nat)(G:Fun)(as:List D)(s:LS)(k:D→LS→Rs):Rs:=
 Lp n 0 noS as λε=>(cS φ G.body).r T ⟨λε s=>rvK ε s G.res λds=>k (MD ds) s,λ_ _ _=>none,λε s=>rvK ε s G.res λds=>k (MD ds) s⟩ ε s
def fI(φ:Nat)(T:pG)(n:Nat)(G:Fun)(as:List D):Option D:=fS φ T n G as s0 λd s=>eX (!Nat.beq G.mode 0) s d some
theorem LM{n:Nat}{G:Fun}(hT:TOk Δ T):xf Δ G (fS φ T n G):=by
 intro as s σ k r h hr;unfold fS at hr;rw[ID]at hr;have hr:=yO n 0 .nil as (show A8 n 0 (Tr.nil:Env).get as _=some r from hr);obtain⟨m,x,e',σ',s',h1,h2,h3⟩:=U5 hT _ _ s _ σ h hr;cases x with
 |exit id=>cases h3
 |nrm=>
  obtain⟨ds,h4,h5⟩:=vG h2 _ _ h3;exact⟨m,.nrm,e',σ',s',_,h1,λid h=>(by cases h),Ao h4,h2,h5⟩
 |ret=>
  obtain⟨ds,h4,h5⟩:=vG h2 _ _ h3;exact⟨m,.ret,e',σ',s',_,h1,λid h=>(by cases h),Ao h4,h2,h5⟩
theorem VP{n:Nat}{G:Fun}(hT:TOk Δ T):Lw Δ G (fI φ T n G):=by
 intro as q hq;obtain⟨m,x,e,σ',s',d,h1,h2,h3,h4,h5⟩:=LM hT _ _ Sto.empty _ _ LSR.empty hq;obtain⟨q',h6,h7⟩:=ze h5;cases h7;rw[←h4.get]at h6;exact⟨m,x,e,σ',d,h1,h2,h3,h6⟩
end
structure Spc where
 F:Nat
 na:Nat
 md:Nat
 an:List Nat
 fn:Func
def Zf(m:Nat):List Nat:=Nat.rec (motive:=λ_=>Nat→Nat→List Nat) (λ_ _=>[]) (λ_ ih i m=>cnd (Nat.beq m 0) [] (cnd (Nat.beq (Nat.mod m 2) 1) (i::frc (Nat.succ i) λi=>ih i (Nat.div m 2)) (frc (Nat.succ i) λi=>ih i (Nat.div m 2)))) m 0 m
def anU:List Nat→List (Option (List Nat))
 |k::m::r=>List.replicate k none++some (Zf m)::anU r
 |_=>[]
def VU(P:Program)(im:Nat→Option Nat)(nt:Nat)(ops:List Oper)(draw:Bool):C:=
 .reg (cnd draw ((places P im nt ops).map (·.i)++t6 (places P im nt ops) 0 (places P im nt ops)) (ops.map (sG P im nt ops)))
def qy(P:Program)(im:Nat→Option Nat)(nt:Nat):Code→C
 |.skip=>.skip
 |.label _=>.skip
 |.region _ ops draw=>VU P im nt ops.toList draw
 |.seq a b=>.seq (qy P im nt a) (qy P im nt b)
 |.cond x a b=>.cond (cX im x) (qy P im nt a) (qy P im nt b)
 |.block id c=>.block id (qy P im nt c)
 |.loop c=>.loop (qy P im nt c)
 |.scope c=>qy P im nt c
 |.exit id=>.exit id
 |.ret=>.ret
 |_=>.bad
def dOk(P:Program)(im:Nat→Option Nat)(nt:Nat):Code→Bool
 |.region _ ops draw=>cnd draw (AH ops.toList (places P im nt ops.toList)) true
 |.seq a b=>cnd (dOk P im nt a) (dOk P im nt b) false
 |.cond _ a b=>cnd (dOk P im nt a) (dOk P im nt b) false
 |.block _ c=>dOk P im nt c
 |.loop c=>dOk P im nt c
 |.scope c=>dOk P im nt c
 |_=>true
theorem NW(P:Program)(im:Nat→Option Nat)(nt:Nat)(c:Code):dOk P im nt c=true→qy P im nt c=j6 P im nt c:=by
 induction c with
 |region k ops draw=>
  intro h;simp only[qy,j6,VU,Hy];cases draw with
  |false=>rfl
  |true=>
   have h':AH ops.toList (places P im nt ops.toList)=true:=h;rw[aC rfl,aC h'];rfl
 |seq a b iha ihb=>intro h;obtain⟨h1,h2⟩:=uj h;simp only[qy,j6,iha h1,ihb h2]
 |cond x a b iha ihb=>intro h;obtain⟨h1,h2⟩:=uj h;simp only[qy,j6,iha h1,ihb h2]
 |block id c ih=>intro h;simp only[qy,j6,ih h]
 |loop c ih=>intro h;simp only[qy,j6,ih h]
 |scope c ih=>intro h;simp only[qy,j6,ih h]
 |_=>intro _;rfl
def spC(P:Program)(im:Nat→Option Nat)(q:Spc):C:=Option.rec (motive:=λ_=>C) .bad (λc=>qy P im (ntF q.md q.fn.ntmps) c) q.fn.body
def KG(P:Program)(im:Nat→Option Nat)(q:Spc):Bool:=Option.rec (motive:=λ_=>Bool) false (λc=>cnd (q.fn.results.toList.all (yg P)) (dOk P im (ntF q.md q.fn.ntmps) c) false) q.fn.body
def spG(P:Program)(im:Nat→Option Nat)(q:Spc):Fun:=⟨q.fn.params.size,q.fn.results.toList.map (Al P),q.md,Fy (spC P im q) (anU q.an) λc _=>c⟩
theorem Vc{P:Program}{im:Nat→Option Nat}{q:Spc}(h:KG P im q=true):spG P im q=rR P im q.md (anU q.an) q.fn:=by
 have:spC P im q=(wn P im q.md q.fn).body:=by
  unfold KG at h;unfold spC wn;cases hb:q.fn.body with
  |none=>rfl
  |some c=>
   rw[hb]at h;obtain⟨h1,h2⟩:=uj h;simp only[h1,bf];exact NW P im _ c h2
 unfold spG rR;rw[this]
abbrev Tbs:=List (Nat×List D×D)
def MK(k:Nat)(tb:Tbs):List (List D×D):=List.rec (motive:=λ_=>List (List D×D)) [] (λe _ ih=>cnd (Nat.beq e.1 k) (e.2::ih) ih) tb
theorem Bq{k:Nat}{e:List D×D}:∀{tb:Tbs},e∈MK k tb→(k,e)∈tb
 |[],h=>by cases h
 |x::tb,h=>by
  have h:e∈cnd (Nat.beq x.1 k) (x.2::MK k tb) (MK k tb):=h;cases hb:Nat.beq x.1 k with
  |false=>rw[hb]at h;exact bm _ (Bq h)
  |true=>
   rw[hb]at h;have hk:=aT hb;rcases bI.1 h with rfl|h
   ·rw[←hk];exact cA ..
   ·exact bm _ (Bq h)
theorem KD{Δ:Tr Ent}{G:Fun}{M:List D→Option D}(hM:Lw Δ G M):∀{L:List (List D×D)},(∀e,e∈L→Rv Δ G e.1 e.2)→Lw Δ G (Va L M)
 |[],_=>hM
 |e::L,hL=>λas q h=>by
  have h:cnd (eqA as e.1) (some e.2) (Va L M as)=some q:=h;cases hq:eqA as e.1 with
  |true=>
   rw[hq]at h;rw[BJ (Qq 40) hq,←ck h];exact hL e (cA ..)
  |false=>
   rw[hq]at h;exact KD hM (λe' he=>hL e' (bm _ he)) as q h
def ftS(P:Program)(im:Nat→Option Nat)(φ:Nat)(T:pG)(L:List (List D×D))(q:Spc):FT:=cnd (Nat.beq q.md 2) (.mem (fS φ T q.na (spG P im q))) (.iso (Va L (fI φ T q.na (spG P im q))))
def Iy{α:Type}(l:List α):Nat→Option α:=List.rec (motive:=λ_=>Nat→Option α) (λ_=>none) (λa _ ih n=>Nat.rec (some a) (λm _=>ih m) n) l
def yu(sp:List (List Spc))(j:Nat):Option Spc:=Option.rec none (λr=>Iy r (Nat.mod j 16)) (Iy sp (Nat.div j 16))
def JK(P:Program)(im:Nat→Option Nat)(G:Nat→Nat→Option FT)(n0:Nat)(sp:List (List Spc))(tb:Tbs)(φ m:Nat):pG:=
 Nat.rec (motive:=λ_=>pG) (λ_=>none) (λ_ ih k=>cnd (Nat.blt k n0) (G φ k) (Option.rec none (λq=>some (ftS P im φ ih (MK k tb) q)) (yu sp (Nat.sub k n0)))) m
def Vj(P:Program)(im:Nat→Option Nat)(G:Nat→Nat→Option FT)(n0:Nat)(sp:List (List Spc))(tb:Tbs)(φ m k:Nat)(as:List D):Option D:=
 Option.rec none (λq=>fI φ (JK P im G n0 sp tb φ m) q.na (spG P im q) as) (yu sp (Nat.sub k n0))
theorem Bj{α:Type}{a:α}:∀{l:List α}{n:Nat},Iy l n=some a→a∈l
 |[],_,h=>by cases h
 |b::l,0,h=>by cases(show some b=some a from h);exact cA ..
 |b::l,n+1,h=>bm _ (Bj (show Iy l n=some a from h))
theorem Gu{α:Type}:∀(l:List α)(n:Nat),l.length≤n→Iy l n=none
 |[],_,_=>rfl
 |a::l,0,h=>absurd h (by simp)
 |a::l,n+1,h=>Gu l n (by simpa using h)
section
variable {P:Program} {l:List Nat} {G:Nat→Nat→Option FT} {n0:Nat} {TD:Nat→pG} {sp:List (List Spc)}
def Up(P:Program)(l:List Nat)(n0:Nat)(sp:List (List Spc)):Prop:=
 (List.range (16*sp.length)).map (λj=>(yu sp j).map λq=>fL P l (n0+j) q.F q.fn)=(List.range (16*sp.length)).map λj=>(yu sp j).map λq=>fR q.F q.fn
def tW(P:Program)(l:List Nat)(sp:List (List Spc)):Prop:=sp.all (λr=>r.all (KG P λF=>imA F l 0))=true
theorem tW.app{sp':List (List Spc)}(h:tW P l sp)(h':tW P l sp'):tW P l (sp++sp'):=by
 unfold tW at*;rw[z1B,h,h'];rfl
def Uo(P:Program)(l:List Nat)(G:Nat→Nat→Option FT)(n0:Nat)(sp:List (List Spc))(φ:Nat):Tbs→Prop
 |[]=>True
 |(k,as,v)::tb=>Uo P l G n0 sp φ tb∧n0≤k∧∃m,Vj P (λF=>imA F l 0) G n0 sp tb φ m k as=some v
theorem Pa{j:Nat}(h:16*sp.length≤j):yu sp j=none:=by
 unfold yu;rw[Gu sp (Nat.div j 16) ((d7 (by decide)).2 (by omega))]
theorem Pb(hc:tW P l sp){j:Nat}{q:Spc}(h:yu sp j=some q):KG P (λF=>imA F l 0) q=true:=by
 unfold yu at h;cases hr:Iy sp (Nat.div j 16)with
 |none=>rw[hr]at h;cases h
 |some r=>
  rw[hr]at h;exact cZ.1 (cZ.1 hc r (Bj hr)) q (Bj (show Iy r (Nat.mod j 16)=some q from h))
theorem W6(h:Lb P l G n0 TD)(hs:Up P l n0 sp)(hc:tW P l sp)(φ:Nat):∃Δ,DOk P (λF=>imA F l 0) Δ∧∀tb,Uo P l G n0 sp φ tb→∀m,TOk Δ (JK P (λF=>imA F l 0) G n0 sp tb φ m):=by
 obtain⟨L,hT,hTD⟩:=h.2 φ;have build:∀N,N≤16*sp.length→∃Δ,DOk P (λF=>imA F l 0) Δ∧LeT L.Δ Δ∧(∀m,n0+N≤m→Δ.get m=none)∧∀j q,j<N→yu sp j=some q→Δ.get (n0+j)=some (.body (spG P (λF=>imA F l 0) q)):=by
  intro N
  induction N with
  |zero=>intro _;exact⟨L.Δ,L.ok,λ_ _ h=>h,L.bd,λj q h=>absurd h (cU j)⟩
  |succ N ih=>
   intro hN;obtain⟨Δ,h1,h2,h3,h4⟩:=ih (by omega);cases hq:yu sp N with
   |none=>
    refine⟨Δ,h1,h2,λm hm=>h3 m (by omega),λj q hj hjq=>?_⟩;rcases az j N with h5|h5
    ·exact h4 j q h5 hjq
    ·rw[show j=N by omega,hq]at hjq;cases hjq
   |some q=>
    have hf:Fc P l (n0+N) q.F q.fn:=by
     have:=List.map_inj_left.1 hs N (z1f.2 hN);rw[hq]at this;exact ck this
    refine⟨Δ.set (n0+N) (.body (spG P (λF=>imA F l 0) q)),Fj h1 hf.ok (by rw[Vc (Pb hc hq)];exact BI P _ q.md (anU q.an) q.fn),λm en hm=>LeT.set (h3 _ (aD _)) _ m en (h2 m en hm),λm hm=>?_,λj q' hj hjq=>?_⟩
    ·rw[Tr.get_set,aE (by omega)];exact h3 m (by omega)
    ·rcases az j N with h5|h5
     ·rw[Tr.get_set,aE (by omega)];exact h4 j q' h5 hjq
     ·obtain rfl:j=N:=by omega
      rw[Tr.get_set,aC rfl];rw[hq]at hjq;cases hjq;rfl
 obtain⟨Δ,h1,h2,h3,h4⟩:=build _ (aD _);have hget:∀k q,n0≤k→yu sp (Nat.sub k n0)=some q→Δ.get k=some (.body (spG P (λF=>imA F l 0) q)):=by
  intro k q hk hq;have hj:Nat.sub k n0<16*sp.length:=by
   rcases az (Nat.sub k n0) (16*sp.length)with h5|h5
   ·exact h5
   ·rw[Pa h5]at hq;cases hq
  have hg:=h4 _ q hj hq;rw[show n0+Nat.sub k n0=k from Nat.add_sub_of_le hk]at hg;exact hg
 have tok:∀tb:Tbs,(∀k as v q,(k,as,v)∈tb→n0≤k→yu sp (Nat.sub k n0)=some q→Rv Δ (spG P (λF=>imA F l 0) q) as v)→∀m,TOk Δ (JK P (λF=>imA F l 0) G n0 sp tb φ m):=by
  intro tb htb m
  induction m with
  |zero=>intro n ft h;cases h
  |succ m ih=>
   intro k ft hk;have hk:cnd (Nat.blt k n0) (G φ k) (Option.rec none (λq=>some (ftS P (λF=>imA F l 0) φ (JK P (λF=>imA F l 0) G n0 sp tb φ m) (MK k tb) q)) (yu sp (Nat.sub k n0)))=some ft:=hk;by_cases hlt:k<n0
   ·rw[ep hlt]at hk;refine(L.tok k ft ?_).le h2;rw[hT,Tn,ep hlt];exact hk
   ·rw[fC hlt]at hk;cases hq:yu sp (Nat.sub k n0)with
    |none=>rw[hq]at hk;cases hk
    |some q=>
     rw[hq]at hk;have hg:=hget k q (by omega) hq;have hk:ftS P (λF=>imA F l 0) φ (JK P (λF=>imA F l 0) G n0 sp tb φ m) (MK k tb) q=ft:=ck hk;rw[←hk];unfold ftS;cases hmd:Nat.beq q.md 2 with
     |true=>exact⟨_,hg,aT hmd,LM ih⟩
     |false=>exact Or.inr ⟨_,hg,hmd,KD (VP ih) λe he=>htb k e.1 e.2 q (Bq he) (by omega) hq⟩
 refine⟨Δ,h1,λtb htb=>tok tb ?_⟩
 induction tb with
 |nil=>intro k as v q hm;cases hm
 |cons e tb ih=>
  obtain⟨k0,as0,v0⟩:=e;obtain⟨g1,g2,m,g3⟩:=htb;intro k as v q hm hk hq;rcases bI.1 hm with he|hm
  ·cases he;unfold Vj at g3;rw[hq]at g3;exact VP (tok tb (ih g1) m) as0 v0 g3
  ·exact ih g1 k as v q hm hk hq
theorem T7(h:Lb P l G n0 TD)(hs:Up P l n0 sp)(hc:tW P l sp)(φ:Nat){tb:Tbs}(ht:Uo P l G n0 sp φ tb)(m F:Nat)(fn:Func)(na md:Nat)(an:List (Option (List Nat))){R:List D→Option D}(hf:(P.funcs[F]?,fn.body.isSome)=(some fn,true))
 (e:C9 φ (JK P (λF=>imA F l 0) G n0 sp tb φ m) (JK P (λF=>imA F l 0) G n0 sp tb φ m) na (rR P (λF=>imA F l 0) md an fn)=R):Snd P (λF=>imA F l 0) F R:=by
 obtain⟨Δ,h1,h2⟩:=W6 h hs hc φ;simp only[aJ]at hf;obtain⟨c,hc⟩:=z0K.1 hf.2;rw[←e];exact Hr h.1 h1 (h2 tb ht m) (h2 tb ht m) hf.1 hc (BI P _ md an fn) φ na
end
end
end Go.Proofs.Ev
set_option maxRecDepth 1000000
set_option maxHeartbeats 0
namespace Go.Proofs.YthljpappkomocaaGreat
open Ev
noncomputable section
def vL:List Nat:=[73,136,144,241,193,137,138,139,74,140,75,76,194,142,141,77,32,79,35,10,33,143,78,34,8,9,11,166,165,213,212,167,102,41,42,43,44,14,15,16,22,17,45,18,101,105,104,164,100,99,163,98,39,93,257,209,206,157,90,161,211,325,255,327,326,328,258,329,256,207,215,260,214,168,103,46,52,47,92,210,160,189,158,208,159,94,95,156,154,88,230,231,232,188,128,162,148,91,130,67,83,107,149,201,200,150,152,246,320,247,254,203,321,322,248,402,324,323,249,250,251,252,253,202,151,86,129,106,48,19,25,20,55,115,169,126,170,171,330,261,216,172,108,109,49,111,217,63,218,173,110,50,51,21,153,355,456,96,97,181,174,175,224,340,204,453,406,407,341,413,410,414,345,416,408,342,343,422,411,454,409,412,344,455,415,346,270,347,271,272,273,417,348,349,274,350,275,418,419,420,421,351,352,276,205,278,423,424,425,354,353,277,225,226,229,228,356,426,357,358,457,428,427,359,360,361,362,363,279,227,187,127,64,195,145,80,146,221,331,263,262,332,66,403,333,334,264,452,451,404,335,336,337,338,265,309,310,243,398,308,266,267,222,307,242,196,319,245,199,198,311,399,312,313,450,401,400,314,315,316,317,318,244,197,147,81,36,82,37,84,85,87,155,89,38,12,112,113,53,23,40,13,62,29,65,30,294,296,372,295,235,236,373,297,237,374,298,238,219,177,178,300,299,239,375,466,444,384,390,378,380,437,469,460,467,446,391,435,459,436,441,434,376,438,440,385,473,470,471,472,461,474,462,465,463,439,464,442,377,301,379,443,382,381,302,303,383,445,386,387,392,393,388,389,397,447,394,304,306,395,448,468,449,396,305,240,192,133,69,190,131,121,135,220,370,289,290,291,371,292,293,234,429,364,430,365,281,282,283,284,366,285,71,431,432,367,368,286,287,458,433,369,288,233,191,132,68,134,70,72,31,7,4]
def im(F:Nat):Option Nat:=imA F vL 0
end
end Go.Proofs.YthljpappkomocaaGreat
