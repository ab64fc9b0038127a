/- What the residuals compute, at all arguments. -/
import Derived.Test.YthljpappkomocaaGreatCC0
import Derived.Test.YthljpappkomocaaGreatD0
set_option linter.all false
namespace Go.Proofs.YthljpappkomocaaGreat
open Ev
noncomputable section
def pre(m i:Nat):Nat:=ef ((eo m).take i) 0
theorem Be{m i:Nat}{c:UInt8}(h:(eo m)[i]?=some c):pre m (i+1)=pre m i*256+c.toNat:=by
 unfold pre;rw[cH,h];exact p5 _ _ _
theorem Sy(m:Nat):pre m (eo m).length=m:=by unfold pre;rw[c7,mc]
theorem K2{m:Nat}(hm:0<m):∀i,0<i→i≤(eo m).length→0<pre m i
 |1,_,h=>by
  obtain⟨c,r,e,hc⟩:=sg hm;rw[Be (show(eo m)[0]?=some c by rw[e];rfl)];omega
 |i+2,_,h=>by
  have:=K2 hm (i+1) (by omega) (by omega);rw[Be (aB (show i+1<(eo m).length by omega))];omega
theorem HN{φ m e s:Nat}{X:D}{bs:List Blk}{q3:D→D→D→LS→Rs}(he:e≤(eo m).length)(h4:e≤s+4)(hN:(eo m).length≤100000000000):∀(k i f dig:Nat),i+k=e→s≤i→k<f→dig<256^(i-s)→pre m i=pre m s*256^(i-s)+dig→
 ∃dg,dg<256^(e-s)∧pre m e=pre m s*256^(e-s)+dg∧lp (λ(_ _ _ _ _:D)(_:LS)=>none) (rx φ q3) f (.n m) X (.i .i64 (.ofNat e)) (.i .u64 (.ofNat dig)) (.i .i64 (.ofNat i)) (mem bs)=
  jY 1 [(.i .u64 (.ofNat 0))] [(0,1,n64 dg)] (mem bs) λx22 s=>mF 1 8 s X x22 λx23 s=>et (.i .i64 (.ofNat e)) (.i .i64 (.ofNat 4)) λx24=>q3 (.n m) x23 x24 s
 |0,i,f+1,dig,h1,h2,h3,h5,h6=>by
  have:i=e:=by omega
  subst this;refine⟨dig,h5,h6,?_⟩;rw[eO];refine th ji ?_;rw[fC (by omega)];rfl
 |k+1,i,f+1,dig,h1,h2,h3,h5,h6=>by
  have hi:i<(eo m).length:=by omega
  have hc:=aB hi;generalize (eo m)[i]=c at hc;have hc8:=c.toNat_lt;have hd:dig<256^3:=bp h5 (ba (by decide) (by omega));have hd':dig<16777216:=hd;have e1:i+1-s=(i-s)+1:=by omega
  obtain⟨dg,g1,g2,g3⟩:=HN (φ:=φ) (X:=X) (bs:=bs) (q3:=q3) he h4 hN k (i+1) f (dig*256+c.toNat) (by omega) (by omega) (by omega) (by rw[e1,av];omega) (by rw[Be hc,h6,e1,av,←aU,aP];omega);refine⟨dg,g1,g2,?_⟩;rw[eO];refine th ji ?_;rw[ep (by omega)];refine th eP (th (yE (by show dig*256≤18446744073709551615;omega)) (th (CM hc) (th (we (by show c.toNat≤18446744073709551615;omega)) (th (nk (by show dig*256+c.toNat≤18446744073709551615;omega)) (th (nk (by show i+1≤9223372036854775807;omega)) ?_)))));exact g3
theorem Fs(a b:List Nat):c64 a++c64 b=c64 (a++b):=by unfold c64;rw[ak]
theorem ME{φ l n:Nat}{ws:List Nat}{bs:List Blk}{K:D→LS→Rs}{cm:Nat}{ex:Bool}(h:bs[l]?=some ⟨c64 ws,.rw⟩)(hn:ws.length=n)(ht:Tm ws)(hφ:0<φ)(hs:n≤100000000000):
 jx φ [.sl l 0 n cm 1 ex] (mem bs) K=K (.sl l 0 n cm 1 ex) (mem bs):=by
 obtain⟨φ,rfl⟩:∃q,φ=q+1:=⟨φ-1,by omega⟩
 unfold jx;dsimp only[eV,eZ];rw[eO];refine th AY (th nj ?_);cases n with
 |zero=>rw[fC (by omega)];rfl
 |succ n=>
  rw[ep (by omega)];simp only[tJ];obtain⟨a,w,rfl⟩:∃a w,ws=a++[w]:=⟨ws.dropLast,ws.getLast (by intro e;rw[e]at hn;cases hn),(dV _).symm⟩
  have hla:a.length=n:=by simpa using hn
  have hw:w≠0:=ht w (by simp);refine th AY (th (oM (by omega) (by show n+1≤9223372036854775807;omega)) ?_);rw[a7];refine th (AB h rfl (by omega)) ?_;rw[aV,ai];refine th (F1 h rfl (d:=n64 w) (by show(c64 (a++[w]))[n]?=_;rw[←hla];unfold c64;simp)) (th pb ?_);rw[gG hw];rfl
theorem Ml{φ m:Nat}{X x:D}{bs:List Blk}{q3:D→D→D→LS→Rs}{ws:List Nat}(hX:AS 1 bs X (c64 ws) ws.length)(hx:∀k,kC x (.i .i64 (.ofNat 0)) k=k (.b false))(hs:Sm B32 ws)(ht:Tm ws)(hv:vl B32 ws=m)(hm:0<m)(hφ:0<φ)(hl:ws.length≤100000000000):
 i7 φ q3 (.n m) X x (mem bs)=some (.own (c64 (lm B32 m)) (lm B32 m).length 1):=by
 have hlm:lm B32 m=ws:=by rw[←hv];exact YU (by decide) hs ht
 rw[hlm];unfold i7;refine th (hx _) (th eM ?_);generalize hc:c64 ws=cs at hX;generalize hn:ws.length=n at hX;cases hX with
 |nil=>
  have:ws=[]:=a8 hn;subst this;simp[vl]at hv;omega
 |blk h hc'=>
  subst hc;refine th (ME h hn ht hφ (by omega)) ?_;rw[ye h (vT ws) (by rw[fO];omega),aM (by rw[fO];omega)]
theorem Mk{φ m:Nat}(hm:0<m)(hN:(eo m).length≤100000000000)(hφ:(eo m).length<φ):∀(e f:Nat)(X:D)(bs:List Blk)(ws:List Nat),0<e→e≤(eo m).length→e+1<f→AS 1 bs X (c64 ws) ws.length→Sm B32 ws→vl B32 ws+B32^ws.length*pre m e=m→ws.length+e≤(eo m).length→
 lp (λ(_ _ _:D)(_:LS)=>none) (i7 φ) f (.n m) X (.i .i64 (.ofNat e)) (mem bs)=some (.own (c64 (lm B32 m)) (lm B32 m).length 1):=by
 intro e
 induction e using Nat.strongRecOn with
 |ind e ih=>
  intro f X bs ws h0 he hf hX hs hv hle;obtain⟨f,rfl⟩:∃q,f=q+1:=⟨f-1,by omega⟩
  rw[eO];unfold i7;refine th nj ?_;rw[ep h0];refine th eP (th (T1 (by omega) (by omega)) ?_);obtain⟨dg,g1,g2,g3⟩:=HN (φ:=φ) (X:=X) (bs:=bs) (q3:=lp (λ(_ _ _:D)(_:LS)=>none) (i7 φ) f) (s:=e-4) he (by omega) hN (e-(e-4)) (e-4) φ 0 (by omega) (by omega) (by omega) (bR (by decide)) (by simp);refine th g3 ?_;have hd:dg<B32:=bp g1 (show 256^(e-(e-4))≤256^4 from ba (by decide) (by omega));obtain⟨bs',X',k1,k2,k3⟩:=ap1 (K:=λx23 s=>et (.i .i64 (.ofNat e)) (.i .i64 (.ofNat 4)) λx24=>lp (λ(_ _ _:D)(_:LS)=>none) (i7 φ) f (.n m) x23 x24 s) (zero:=[(.i .u64 (.ofNat 0))]) (x:=n64 dg) (new:=c64 [dg]) (bytes:=8) hX rfl rfl rfl rfl (by omega) (by omega);refine th k3 ?_;rw[Fs]at k1;have k1':AS 1 bs' X' (c64 (ws++[dg])) (ws++[dg]).length:=by rw[bF];exact k1
  have hs':Sm B32 (ws++[dg]):=IU hs (Ec hd);have hv':vl B32 (ws++[dg])=vl B32 ws+B32^ws.length*dg:=by rw[qq];rfl
  by_cases h4:e≤4
  ·have hp0:pre m (e-4)=0:=by rw[show e-4=0 by omega];rfl
   rw[hp0,bP,aV]at g2;have hpos:=K2 hm e h0 he;obtain⟨x,e1,e2⟩:∃x,(∀k,et (.i .i64 (.ofNat e)) (.i .i64 (.ofNat 4)) k=k x)∧∀k,kC x (.i .i64 (.ofNat 0)) k=k (.b false):=by
    by_cases e4:4≤e
    ·exact⟨_,λk=>oM e4 (by show e≤9223372036854775807;omega),λk=>by rw[nj,fC (by omega)]⟩
    ·exact⟨_,λk=>nJ e4 (by omega),λk=>QG⟩
   refine th (e1 _) ?_;obtain⟨f,rfl⟩:∃q,f=q+1:=⟨f-1,by omega⟩
   rw[eO];refine Ml k1' e2 hs' (λw hw=>?_) (by rw[hv',←g2];exact hv) hm (by omega) (by simp;omega);have:dg=w:=by simpa using hw
   omega
  ·refine th (oM (by omega) (by show e≤9223372036854775807;omega)) ?_;refine ih (e-4) (by omega) f X' bs' (ws++[dg]) (by omega) (by omega) (by omega) k1' hs' ?_ (by simp;omega);rw[hv',bF];show vl B32 ws+B32^ws.length*dg+B32^(ws.length+1)*pre m (e-4)=m;rw[show e-(e-4)=4 by omega,show(256:Nat)^4=B32 from rfl]at g2;rw[g2,bA,←aU]at hv;rw[av,aU,aK B32 (pre m (e-4)),←aU];omega
theorem Mj{φ m:Nat}(hN:(eo m).length≤100000000000)(hφ:(eo m).length+1<φ):oE φ [.n m]=zu m:=by
 unfold oE zu;dsimp only[eV,eZ];refine th xK ?_;by_cases hm:m=0
 ·subst hm;obtain⟨φ,rfl⟩:∃q,φ=q+2:=⟨φ-2,by omega⟩
  rfl
 ·rw[gG hm];exact Mk (by omega) hN (by omega) _ φ _ [] [] (tI (by omega)).2 (aD _) hφ AS.nil (λx hx=>by simp at hx) (by rw[Sy];simp[vl]) (by simp)
theorem BY{x:Nat}{k:Rs}{r:D}(h:sz1 x k=some r):Nat.log2 x≤1000000000∧k=some r:=by
 unfold sz1 at h;by_cases hl:Nat.log2 x≤1000000000
 ·rw[aF hl,eL]at h;exact⟨hl,h⟩
 ·rw[kY hl]at h;cases h
theorem RY{m:Nat}(h:Nat.log2 m≤1000000000):(eo m).length≤200000000:=by
 by_cases hm:m=0
 ·subst hm;decide
 ·rw[vh (by omega)];omega
theorem JJ{as:List D}{r:D}(h:p6 as=some r):∃φ,oE φ as=some r:=by
 obtain⟨a,r1,rfl,g1⟩:=jR h;obtain⟨rfl,g2⟩:=oB g1;obtain⟨m,rfl,g3⟩:=gk g2;obtain⟨hl,g4⟩:=BY g3;have:=RY hl;exact⟨(eo m).length+2,by rw[Mj (by omega) (by omega)];exact g4⟩
structure Bt (bs:List Blk) (X:D) (V n:Nat):Prop where
 h:∃bl:List Nat,AS 1 bs X (c8 bl) n∧ef (bl.map UInt8.ofNat) 0=V∧(∀x r,bl=x::r→x≠0)∧(∀x,x∈bl→x<256)
theorem XU(a b:List Nat):c8 a++c8 b=c8 (a++b):=by unfold c8;rw[ak]
theorem Jp{z n:Nat}{bs:List Blk}{X:D}{cs:List D}(hA:AS z bs X cs n){K:D→LS→Rs}{s:LS}:ek X s K=K (.i .i64 (.ofNat n)) s:=by
 cases hA with
 |nil=>rfl
 |blk _ _=>rfl
theorem Rf{z n:Nat}{bs:List Blk}{X:D}{cs:List D}(hA:AS z bs X cs n):cs.length=n*z:=by
 cases hA with
 |nil=>simp
 |blk _ h=>exact h
theorem K5{φ i t w V n N:Nat}{X:D}{bs:List Blk}{ws:List Nat}{ex:Bool}{q4:D→D→D→LS→Rs}{q9:D→D→D→D→LS→Rs}(hB:Bt bs X V n)(hi:i<N)(hl:ws.length=N)(hw:ws[i]?=some w)(ht:t≤3)(hn:n+1≤1000000000000):
 ∃bs' X' n',Bt bs' X' (V*256+w/2^(8*t)%256) n'∧n'≤n+1∧iC φ q4 q9 (.tree (c64 ws) N ex) X (.i .i64 (.ofNat i)) (.i .i64 (.ofNat (8*t))) (mem bs)=
  et (.i .i64 (.ofNat (8*t))) (.i .i64 (.ofNat 8)) λy=>q9 (.tree (c64 ws) N ex) X' (.i .i64 (.ofNat i)) y (mem bs'):=by
 obtain⟨bl,hA,hv,hh,hs⟩:=hB.h;have hbl:bl.length=n:=by have:=Rf hA;rw[Fr]at this;omega
 have hg:(c64 ws)[i*1]?=some (n64 w):=by rw[ai];exact kP hw
 have hc8:w/2^(8*t)%256<256:=bg _ (by decide);have key:∀{q:Rs}(c:Bool),(0<n∨0<w/2^(8*t)%256→c=true)→(¬(0<n∨0<w/2^(8*t)%256)→c=false)→eQ (.b c)
  (jY 1 [(.i .u8 (.ofNat 0))] [(0,1,n8 (w/2^(8*t)%256))] (mem bs) λx30 s=>mF 1 1 s X x30 λx31 s=>et (.i .i64 (.ofNat (8*t))) (.i .i64 (.ofNat 8)) λy=>q9 (.tree (c64 ws) N ex) x31 (.i .i64 (.ofNat i)) y s)
  (et (.i .i64 (.ofNat (8*t))) (.i .i64 (.ofNat 8)) λy=>q9 (.tree (c64 ws) N ex) X (.i .i64 (.ofNat i)) y (mem bs))=q→
  iC φ q4 q9 (.tree (c64 ws) N ex) X (.i .i64 (.ofNat i)) (.i .i64 (.ofNat (8*t))) (mem bs)=q:=by
  intro q c c1 c2 hq;unfold iC;refine th CO ?_;rw[aF (a9 _)];refine th eP (th ph ?_);refine th (uv hi (by rw[fO];omega)) (th (vk hg) (th (uB (by omega)) (th CG (th (Jp hA) (th nj ?_)))));rw[←hq];by_cases h0:0<n
  ·rw[ep h0,c1 (Or.inl h0)];rfl
  ·rw[fC h0];by_cases h1:0<w/2^(8*t)%256
   ·rw[c1 (Or.inr h1)];refine th gA (th gA (th nj ?_));rw[ep h1];rfl
   ·rw[c2 (by omega)];refine th gA (th gA (th nj ?_));rw[fC h1];rfl
 by_cases hc:0<n∨0<w/2^(8*t)%256
 ·obtain⟨bs',X',k1,k2,k3⟩:=ap1 (K:=λx31 s=>et (.i .i64 (.ofNat (8*t))) (.i .i64 (.ofNat 8)) λy=>q9 (.tree (c64 ws) N ex) x31 (.i .i64 (.ofNat i)) y s) (zero:=[(.i .u8 (.ofNat 0))]) (x:=n8 (w/2^(8*t)%256)) (new:=c8 [w/2^(8*t)%256]) (bytes:=1) hA rfl rfl rfl rfl (by omega) (by omega);refine⟨bs',X',n+1,⟨bl++[w/2^(8*t)%256],by rw[←XU];exact k1,?_,?_,?_⟩,by omega,?_⟩
  ·rw[ak,bB,z1x,p5,hv];simp
  ·intro x r e;cases bl with
   |nil=>
    have:n=0:=by simpa using hbl.symm
    have h1:w/2^(8*t)%256=x:=by simpa using(z0Z e).1
    omega
   |cons y bl=>
    have:=(z0Z e).1;rw[←this];exact hh y bl rfl
  ·intro x hx;rcases am.1 hx with h|h
   ·exact hs x h
   ·have:x=w/2^(8*t)%256:=by simpa using h
    omega
  ·exact key true (λ_=>rfl) (λh=>absurd hc h) (th eP k3)
 ·refine⟨bs,X,n,?_,by omega,key false (λh=>absurd h hc) (λ_=>rfl) eM⟩;have h0:n=0:=by omega
  have:bl=[]:=a8 (by omega);have hV:V=0:=by rw[←hv,this];rfl
  rw[show V*256+w/2^(8*t)%256=V by omega];exact hB
theorem VE{φ i w N:Nat}{ws:List Nat}{ex:Bool}{q4:D→D→D→LS→Rs}(hi:i<N)(hl:ws.length=N)(hw:ws[i]?=some w)(hN:N≤100000000000):∀(t f:Nat)(X:D)(bs:List Blk)(V n:Nat),Bt bs X V n→t≤3→t+2≤f→n+t+1≤1000000000000→
 ∃bs' X' n',Bt bs' X' (V*256^(t+1)+w%256^(t+1)) n'∧n'≤n+t+1∧lp (λ(_ _ _ _:D)(_:LS)=>none) (iC φ q4) f (.tree (c64 ws) N ex) X (.i .i64 (.ofNat i)) (.i .i64 (.ofNat (8*t))) (mem bs)=
  et (.i .i64 (.ofNat i)) (.i .i64 (.ofNat 1)) λy=>q4 (.tree (c64 ws) N ex) X' y (mem bs')
 |0,f+2,X,bs,V,n,hB,h1,h2,h3=>by
  obtain⟨bs',X',n',k1,k2,k3⟩:=K5 (φ:=φ) (q4:=q4) (q9:=lp (λ(_ _ _ _:D)(_:LS)=>none) (iC φ q4) (f+1)) (ex:=ex) hB hi hl hw h1 (by omega);refine⟨bs',X',n',by simpa using k1,by omega,?_⟩;rw[eO];refine th k3 (th (nJ (by omega) (by omega)) ?_);rw[eO];unfold iC;refine th pJ (th eM ?_);rfl
 |t+1,f+1,X,bs,V,n,hB,h1,h2,h3=>by
  obtain⟨bs1,X1,n1,k1,k2,k3⟩:=K5 (φ:=φ) (q4:=q4) (q9:=lp (λ(_ _ _ _:D)(_:LS)=>none) (iC φ q4) f) (ex:=ex) hB hi hl hw h1 (by omega);obtain⟨bs',X',n',g1,g2,g3⟩:=VE hi hl hw hN t f X1 bs1 _ n1 k1 (by omega) (by omega) (by omega);refine⟨bs',X',n',?_,by omega,?_⟩
  ·have e1:(V*256+w/2^(8*(t+1))%256)*256^(t+1)+w%256^(t+1)=V*256^(t+1+1)+w%256^(t+1+1):=by
    rw[Nat.mod_pow_succ (x:=w) (b:=256) (k:=t+1),av 256 (t+1),show(2:Nat)^(8*(t+1))=256^(t+1) by rw[dm],aP,aU,aK 256 (256^(t+1)),aK (w/256^(t+1)%256)];omega
   rw[←e1];exact g1
  ·rw[eO];refine th k3 (th (gR) ?_);rw[show 8*(t+1)-8=8*t by omega];exact g3
theorem PP{φ N V n:Nat}{x X:D}{bs:List Blk}{ws:List Nat}{ex:Bool}{q4:D→D→D→LS→Rs}(hB:Bt bs X V n)(hx:∀k,jt x (.i .i64 (.ofNat 0)) k=k (.b false)):
 jh φ q4 (.tree (c64 ws) N ex) X x (mem bs)=some (.n V):=by
 obtain⟨bl,hA,hv,hh,hs⟩:=hB.h;unfold jh;refine th (hx _) (th eM ?_);have hb:kS (.b2s (.c X)) (mem bs) (λx33 s=>eX false s x33 some)=some (.n V):=by
  have he:evA (mem bs).nx cv (mem bs).get (.b2s (.c X))=some (.n V,[]):=by
   generalize hc:c8 bl=cs at hA;cases hA with
   |nil=>
    have:bl=[]:=by cases bl with|nil=>rfl|cons=>cases hc
    subst this;have:V=0:=hv.symm;subst this;rfl
   |blk hg hcl=>
    subst hc;have hcut:cut 0 (n*1) (c8 bl)=some (c8 bl):=by
     unfold cut;rw[aj,aM (by omega),aC hcl]
    simp only[evA,cv,cellsOf,mQ,hg,Stt.live,cI,bj,bz,bf,hcut,AK];cases bl with
    |nil=>have:V=0:=hv.symm
          subst this;rfl
    |cons c r=>
     have hb:(UInt8.ofNat c).toNat=c:=by have:=hs c (by simp);simp;omega
     show some (cond (Nat.beq (UInt8.ofNat c).toNat 0) _ _,_)=_;rw[hb,gG (hh c r rfl)];show some (D.n (ef ((c::r).map UInt8.ofNat) 0),_)=_;rw[hv]
  unfold kS sA;rw[he];show zG _ _=_;rw[rj];rfl
 exact hb
theorem PO{φ N:Nat}{ws:List Nat}{ex:Bool}(hl:ws.length=N)(hs:Sm B32 ws)(hN:N≤100000000000)(hφ:N+10<φ):∀(i f:Nat)(X:D)(bs:List Blk)(V n:Nat),Bt bs X V n→i<N→i+1<f→n+4*(i+1)≤4*N→
 lp (λ(_ _ _:D)(_:LS)=>none) (jh φ) f (.tree (c64 ws) N ex) X (.i .i64 (.ofNat i)) (mem bs)=some (.n (V*B32^(i+1)+vl B32 (ws.take (i+1))))
 |i,f+1,X,bs,V,n,hB,hi,hf,hn=>by
  have hw:=aB (show i<ws.length by omega);have hwB:=hs _ (bK (show i<ws.length by omega));have htk:ws.take (i+1)=ws.take i++[ws[i]'(by omega)]:=by rw[cH,hw];rfl
  generalize ws[i]'(by omega)=w at hw hwB htk;obtain⟨bs',X',n',k1,k2,k3⟩:=VE (φ:=φ) (q4:=lp (λ(_ _ _:D)(_:LS)=>none) (jh φ) f) (ex:=ex) hi hl hw hN 3 φ X bs V n hB (by omega) (by omega) (by omega);have e256:(256:Nat)^(3+1)=B32:=rfl;rw[e256,bJ hwB]at k1;rw[eO];unfold jh;refine th qC (th eP (th k3 ?_));have e1:V*B32^(i+1)+vl B32 (ws.take (i+1))=(V*B32+w)*B32^i+vl B32 (ws.take i):=by
   rw[htk,qq,ah,bO (by omega)];show _+(_+B32^i*(w+B32*0))=_;generalize B32=B;rw[av];grind
  rw[e1];cases i with
  |zero=>
   refine th (nJ (by omega) (by omega)) ?_;obtain⟨f,rfl⟩:∃q,f=q+1:=⟨f-1,by omega⟩
   rw[eO];refine th (PP k1 (λk=>pJ)) ?_;simp[vl]
  |succ i=>
   refine th (gR) ?_;rw[a7];exact PO hl hs hN hφ i f X' bs' _ n' k1 (by omega) (by omega) (by omega)
theorem Iu{φ N:Nat}{ws:List Nat}{ex:Bool}(hl:ws.length=N)(hs:Sm B32 ws)(hN:N≤100000000000)(hφ:N+10<φ):oj φ [.tree (c64 ws) N ex]=some (.n (vl B32 ws)):=by
 unfold oj;dsimp only[eV,eZ];have h0:Bt [] (.tree [] 0 true) 0 0:=⟨[],AS.nil,rfl,λ_ _ h=>by simp at h,λ_ h=>by simp at h⟩
 refine th fH ?_;cases N with
 |zero=>
  refine th (nJ (by omega) (by omega)) ?_;obtain⟨φ,rfl⟩:∃q,φ=q+1:=⟨φ-1,by omega⟩
  rw[eO,←fm];have:ws=[]:=a8 hl;subst this;exact PP h0 (λk=>pJ)
 |succ N=>
  refine th gR ?_;rw[a7,←fm];refine th (PO hl hs hN hφ N φ _ _ 0 0 h0 (by omega) (by omega) (by omega)) ?_;rw[bP,aV,aM (by omega)]
theorem yY:∀{cs:List D}{ws:List Nat},cs.mapM DJ=some ws→cs=c64 ws∧Sm B32 ws
 |[],ws,h=>by
  have:ws=[]:=by simpa using h.symm
  subst this;exact⟨rfl,λx hx=>by simp at hx⟩
 |d::cs,ws,h=>by
  rw[z0M]at h;cases hd:DJ d with
  |none=>rw[hd]at h;simp at h
  |some w=>
   rw[hd]at h;cases hc:cs.mapM DJ with
   |none=>rw[hc]at h;simp at h
   |some l=>
    rw[hc]at h;have e:ws=w::l:=by simpa using h.symm
    subst e;obtain⟨rfl,h2⟩:=yY hc;unfold DJ at hd;split at hd
    ·split at hd
     ·rename_i w' hw;have:w'=w:=by simpa using hd
      subst this;exact⟨rfl,λx hx=>by rcases bI.1 hx with h|h;(rw[h];exact hw);exact h2 x h⟩
     ·cases hd
    ·cases hd
theorem zP:∀{ws:List Nat},Sm B32 ws→(c64 ws).mapM DJ=some ws
 |[],_=>rfl
 |w::ws,h=>by
  show List.mapM DJ (n64 w::c64 ws)=_;rw[z0M,zP (λx hx=>h x (by simp[hx]))];have:DJ (n64 w)=some w:=by show(if w<B32 then some w else none)=_;rw[aC (h w (by simp))]
  rw[this];rfl
theorem Gp{as:List D}{r:D}(h:qj as=some r):∃φ,oj φ as=some r:=by
 unfold qj at h;split at h
 ·split at h
  ·rename_i hm;split at h
   ·rename_i hc;obtain⟨rfl,hs⟩:=yY hm;exact⟨_,by rw[Iu hc.1 hs hc.2 (cK _)];exact h⟩
   ·cases h
  ·cases h
 ·cases h
theorem sP{ws:List Nat}{n:Nat}{ex:Bool}(hs:Sm B32 ws)(hl:ws.length=n)(hn:n≤100000000000):qj [.tree (c64 ws) n ex]=some (.n (vl B32 ws)):=by
 unfold qj;simp only[zP hs];rw[aC ⟨hl,hn⟩]
theorem rK{m:Nat}{bs:List Blk}{K:D→LS→Rs}(hm:Nat.log2 m≤1000000000):∃bs' X,AS 1 bs' X (c64 (lm B32 m)) (lm B32 m).length∧(∀l b,bs[l]?=some b→bs'[l]?=some b∧kI X l)∧eR p6 [.n m] (mem bs) K=K X (mem bs'):=by
 have e0:p6 [.n m]=zu m:=by
  show sz1 m (zu m)=_;unfold sz1;rw[aF hm];rfl
 unfold zu at e0;by_cases h0:m=0
 ·subst h0;exact⟨bs,_,AS.nil,λl b h=>⟨h,λo n m z e h=>by cases h⟩,fP e0⟩
 ·rw[gG h0,e9]at e0;refine⟨bs++[⟨c64 (lm B32 m),.rw⟩],.sl bs.length 0 (lm B32 m).length (lm B32 m).length 1 false,AS.blk (by simp) (by rw[fO];omega),λl b h=>⟨by rw[bQ (fE h)];exact h,λo n m z e he=>?_⟩,?_⟩
  ·have:=fE h;injection he with h1;omega
  ·refine th (xe e0) ?_;rw[lX,js]
theorem FK{X:D}{bs:List Blk}{ws:List Nat}{n i c:Nat}{J:D→LS→Rs}(hA:WS 1 bs X (c64 ws) n)(hs:Sm B32 ws)(hc:c<9223372036854775808):
 (ek X (mem bs) λx38 s=>fN (.i .i64 (.ofNat i)) x38 λx39=>eQ x39 (eK 1 s X (.i .i64 (.ofNat i)) λx40 s=>eJ s x40 λx41 s=>ee (.i .u64 (.ofNat c)) x41 λx42=>J x42 s) (J (.i .u64 (.ofNat c)) s))=J (.i .u64 (.ofNat (c+dgt ws i))) (mem bs):=by
 have hl:=iQ hA;rw[fO]at hl;refine th (qo hA) (th ji ?_);by_cases h:i<n
 ·have hw:=aB (show i<ws.length by omega);have e:dgt ws i=ws[i]'(by omega):=by unfold dgt;rw[aH,hw];rfl
  have:dgt ws i<4294967296:=jF hs (by decide) i;rw[ep h];refine th eP (th (py hA hw) (th (tg (by rw[←e];omega)) ?_));rw[e]
 ·rw[fC h];have e:dgt ws i=0:=by unfold dgt;rw[aH,bX (by omega)];rfl
  rw[e];rfl
theorem Rm{X Y:D}{nx ny i c:Nat}{s:LS}{K:D→LS→Rs}(hX:∀(K:D→LS→Rs) s,ek X s K=K (.i .i64 (.ofNat nx)) s)(hY:∀(K:D→LS→Rs) s,ek Y s K=K (.i .i64 (.ofNat ny)) s):
 (ek X s λx11 s=>fN (.i .i64 (.ofNat i)) x11 λx12=>eI x12 false (λk=>k (.i .i64 (.ofNat i)) s) s λx13 s=>eI x12 false (λk=>k Y s) s λx14 s=>eI x12 false (λk=>ek x14 s k) s λx15 s=>eI x12 false (λk=>fN x13 x15 λd=>k d s) s λx16 s=>
  fX x12 (.b true) x16 s λx17 s=>eI x17 false (λk=>k (.i .u64 (.ofNat c)) s) s λx18 s=>eI x17 false (λk=>kC x18 (.i .u64 (.ofNat 0)) λd=>k d s) s λx19 s=>fX x17 (.b true) x19 s K)=K (.b (decide (i<nx∨i<ny∨0<c))) s:=by
 refine th (hX _ _) (th ji ?_);by_cases h1:i<nx
 ·rw[ep h1,aS (Or.inl h1)];rfl
 ·rw[fC h1];refine th gA (th gA (th gA (th (hY _ _) (th gA (th ji (th gE ?_))))));by_cases h2:i<ny
  ·rw[ep h2,aS (Or.inr (Or.inl h2))];rfl
  ·rw[fC h2];refine th gA (th gA (th nj (th gE ?_)));by_cases h3:0<c
   ·rw[ep h3,aS (Or.inr (Or.inr h3))]
   ·rw[fC h3,aN (by omega)]
theorem Rn{φ x y:Nat}{X Y:D}{xs ys:List Nat}{nx ny:Nat}(hxs:Sm B32 xs)(hys:Sm B32 ys)(hx:nx≤100000000)(hy:ny≤100000000):∀(k i f:Nat)(O:D)(bs:List Blk)(os:List Nat)(c:Nat),
 WS 1 bs X (c64 xs) nx→WS 1 bs Y (c64 ys) ny→AS 1 bs O (c64 os) i→Dis X O→Dis Y O→os.length=i→Sm B32 os→c≤1→vl B32 os+B32^i*(c+vl B32 (xs.drop i)+vl B32 (ys.drop i))=x+y→nx+ny+1≤i+k→(nx+ny<i→c=0)→k+1<f→i≤nx+ny+1→
 lp (λ(_ _ _ _ _:D)(_:LS)=>none) (jL φ) f X Y O (.i .u64 (.ofNat c)) (.i .i64 (.ofNat i)) (mem bs)=some (.n (x+y)):=by
 intro k
 induction k with
 |zero=>
  intro i f O bs os c aX aY aO dX dY hl hs hc hv hk hk2 hf hi;obtain⟨f,rfl⟩:∃q,f=q+1:=⟨f-1,by omega⟩
  have hxl:=iQ aX;have hyl:=iQ aY;rw[fO]at hxl hyl;have hc0:c=0:=hk2 (by omega);rw[bh (show xs.length≤i by omega),bh (show ys.length≤i by omega),hc0]at hv;rw[eO];unfold jL;refine th (Rm (λ_ _=>qo aX) (λ_ _=>qo aY)) ?_;rw[aN (by omega)];refine th eM (th (xL aO.ws (λex=>sP hs (by omega) (by omega)) rfl) ?_);have:vl B32 os=x+y:=by rw[←hv];simp[vl]
  rw[this];rfl
 |succ k ih=>
  intro i f O bs os c aX aY aO dX dY hl hs hc hv hk hk2 hf hi;obtain⟨f,rfl⟩:∃q,f=q+1:=⟨f-1,by omega⟩
  have hxl:=iQ aX;have hyl:=iQ aY;rw[fO]at hxl hyl;rw[eO];unfold jL;refine th (Rm (λ_ _=>qo aX) (λ_ _=>qo aY)) ?_;by_cases hgo:i<nx∨i<ny∨0<c
  ·rw[aS hgo];have d1:dgt xs i<4294967296:=jF hxs (by decide) i;have d2:dgt ys i<4294967296:=jF hys (by decide) i;refine th eP (th ph (th (FK aX hxs (by omega)) (th ph (th (FK aY hys (by omega)) ?_))));generalize hS:c+dgt xs i+dgt ys i=S;refine th (AX (by omega)) ?_;obtain⟨bs',O',k1,k2,k3⟩:=ap1 (K:=λx35 s=>o5 (.i .u64 (.ofNat S)) (.i .u64 (.ofNat 32)) λx36=>ee (.i .i64 (.ofNat i)) (.i .i64 (.ofNat 1)) λx37=>lp (λ(_ _ _ _ _:D)(_:LS)=>none) (jL φ) f X Y x35 x36 x37 s) (zero:=[(.i .u64 (.ofNat 0))]) (x:=n64 (S%4294967296)) (new:=c64 [S%4294967296]) (bytes:=8) aO rfl rfl rfl rfl (by omega) (by omega);refine th k3 (th B2 (th (fM) ?_));rw[Fs]at k1;obtain⟨aX',dX'⟩:=E5 aX dX k2;obtain⟨aY',dY'⟩:=E5 aY dY k2;refine ih (i+1) f O' bs' (os++[S%4294967296]) (S/4294967296) aX' aY' k1 dX' dY' (by simp;omega) (IU hs (Ec (bg _ (by decide)))) (by omega) ?_ (by omega) ?_ (by omega) (by omega)
   ·rw[←hv,qq,hl,pf xs i,pf ys i];have hdm:S%4294967296+B32*(S/4294967296)=S:=dE S 4294967296;generalize S%4294967296=r at*;generalize S/4294967296=q at*;show vl B32 os+B32^i*(r+B32*0)+_=_;generalize vl B32 (xs.drop (i+1))=a at*;generalize vl B32 (ys.drop (i+1))=b at*;rw[av];have:c+(dgt xs i+B32*a)+(dgt ys i+B32*b)=r+B32*(q+a+b):=by rw[bA,bA];omega
    rw[this];generalize B32^i=P;generalize B32=B;grind
   ·intro h;have e1:dgt xs i=0:=by unfold dgt;rw[aH,bX (by omega)];rfl
    have e2:dgt ys i=0:=by unfold dgt;rw[aH,bX (by omega)];rfl
    omega
  ·rw[aN hgo];have hc0:c=0:=by omega
   rw[bh (show xs.length≤i by omega),bh (show ys.length≤i by omega),hc0]at hv;refine th eM (th (xL aO.ws (λex=>sP hs (by omega) (by omega)) rfl) ?_);have:vl B32 os=x+y:=by rw[←hv];simp[vl]
   rw[this];rfl
theorem wR{as:List D}{k:Nat→Nat→Rs}{r:D}(h:two as k=some r):∃x y,as=[.n x,.n y]∧Nat.log2 x≤1000000000∧Nat.log2 y≤1000000000∧k x y=some r:=by
 obtain⟨a,r1,rfl,g1⟩:=jR h;obtain⟨b,r2,rfl,g2⟩:=jR g1;obtain⟨rfl,g3⟩:=oB g2;obtain⟨x,rfl,g4⟩:=gk g3;obtain⟨y,rfl,g5⟩:=gk g4;obtain⟨hx,g6⟩:=BY g5;obtain⟨hy,g7⟩:=BY g6;exact⟨x,y,rfl,hx,hy,g7⟩
theorem xz{m:Nat}(h:Nat.log2 m≤1000000000):(lm B32 m).length≤50000000:=by
 by_cases h0:m=0
 ·subst h0;decide
 ·have e32:B32=2^32:=rfl;have h1:lm B32 m≠[]:=by
   intro e;have:=vO (B:=B32) (by decide) m;rw[e]at this;exact h0 this.symm
  have h2:=xa (B:=B32) (HM (by decide) m) h1;rw[vO (by decide) m]at h2;generalize (lm B32 m).length=L at*;rw[e32,←dm]at h2;have h3:=(z0U h0).2 h2;omega
theorem N3{φ x y:Nat}(hx:Nat.log2 x≤1000000000)(hy:Nat.log2 y≤1000000000)(hφ:1000000000≤φ):pV φ [.n x,.n y]=some (.n (x+y)):=by
 unfold pV;dsimp only[eV,eZ];rw[←fm];obtain⟨b1,X,h1,h2,h3⟩:=rK (bs:=[]) (K:=λx3 s=>eR p6 [.n y] s λx4 s=>lp (λ(_ _ _ _ _:D)(_:LS)=>none) (jL φ) φ x3 x4 (.tree [] 0 true) (.i .u64 (.ofNat 0)) (.i .i64 (.ofNat 0)) s) hx;refine th h3 ?_;obtain⟨b2,Y,g1,g2,g3⟩:=rK (bs:=b1) (K:=λx4 s=>lp (λ(_ _ _ _ _:D)(_:LS)=>none) (jL φ) φ X x4 (.tree [] 0 true) (.i .u64 (.ofNat 0)) (.i .i64 (.ofNat 0)) s) hy;refine th g3 ?_;have l1:=xz hx;have l2:=xz hy;refine Rn (nx:=(lm B32 x).length) (ny:=(lm B32 y).length) (xd (by decide) x) (xd (by decide) y) (by omega) (by omega) ((lm B32 x).length+(lm B32 y).length+1) 0 φ _ b2 [] 0 (xg h1.ws g2).1 g1.ws AS.nil (λl o n m z e h o n m z e h'=>by cases h') (λl o n m z e h o n m z e h'=>by cases h') rfl (λx hx=>by simp at hx) (by omega) ?_ (by omega) (by omega) (by omega) (by omega);rw[aj,aj,vO (by decide),vO (by decide)];simp[vl]
theorem Jq{as:List D}{r:D}(h:yQ as=some r):∃φ,pV φ as=some r:=by
 obtain⟨x,y,rfl,hx,hy,h⟩:=wR h;exact⟨_,by rw[N3 hx hy (aD _)];rw[fA]at h;exact h⟩
theorem yX{B:Nat}(ws:List Nat)(i:Nat):vl B (ws.take (i+1))=vl B (ws.take i)+dgt ws i*B^i:=by
 by_cases h:i<ws.length
 ·have hw:=aB h;have e:dgt ws i=ws[i]:=by unfold dgt;rw[aH,hw];rfl
  rw[cH,hw,qq,ah,bO (by omega),e];show _+B^i*(ws[i]+B*0)=_;rw[dG,bH,aK]
 ·have e:dgt ws i=0:=by unfold dgt;rw[aH,bX (by omega)];rfl
  rw[aM (by omega),aM (by omega),e];simp
theorem RC{ws:List Nat}{i w:Nat}(h:ws[i]?=some w):dgt ws i=w:=by unfold dgt;rw[aH,h];rfl
theorem ki{ws:List Nat}{i:Nat}(h:i<ws.length):ws[i]?=some (dgt ws i):=by
 have hw:=aB h;rw[hw,RC hw]
theorem T6{x y:Nat}(h:y≤x):(lm B32 y).length≤(lm B32 x).length:=by
 by_cases h0:y=0
 ·subst h0;exact a9 _
 ·have h1:lm B32 y≠[]:=by
   intro e;have:=vO (B:=B32) (by decide) y;rw[e]at this;exact h0 this.symm
  have h2:=xa (B:=B32) (HM (by decide) y) h1;have h3:=t7 (xd (B:=B32) (by decide) x);rw[vO (by decide)]at h2 h3;have h4:B32^((lm B32 y).length-1)<B32^(lm B32 x).length:=by omega
  have:=(Nat.pow_lt_pow_iff_right (a:=B32) (by decide)).1 h4;omega
theorem Nt{φ x y:Nat}{X Y:D}{ys:List Nat}{nx ny:Nat}(hys:Sm B32 ys)(hxy:y≤x)(hy:vl B32 ys=y)(hn:ny≤nx)(hnx:nx≤100000000):∀(k i f:Nat)(bs:List Blk)(zs:List Nat)(c:Nat),
 WS 1 bs X (c64 zs) nx→WS 1 bs Y (c64 ys) ny→Dis Y X→Sm B32 zs→c≤1→vl B32 zs+vl B32 (ys.take i)=x+c*B32^i→i+k=nx→k+1<f→
 lp (λ(_ _ _ _:D)(_:LS)=>none) (gi φ) f X Y (.i .u64 (.ofNat c)) (.i .i64 (.ofNat i)) (mem bs)=some (.n (x-y)):=by
 intro k
 induction k with
 |zero=>
  intro i f bs zs c aX aY dY hs hc hv hk hf;obtain⟨f,rfl⟩:∃q,f=q+1:=⟨f-1,by omega⟩
  have hxl:=iQ aX;have hyl:=iQ aY;rw[fO]at hxl hyl;rw[aM (by omega),hy]at hv;have hlt:=t7 hs;rw[show zs.length=i by omega]at hlt;have hc0:c=0:=by
   rcases(show c=0∨c=1 by omega)with h|h
   ·exact h
   ·subst h;omega
  subst hc0;rw[eO];unfold gi;refine th (qo aX) (th (fy) (th eM (th (xL aX (λex=>sP hs (by omega) (by omega)) rfl) ?_)));rw[show vl B32 zs=x-y by omega];rfl
 |succ k ih=>
  intro i f bs zs c aX aY dY hs hc hv hk hf;obtain⟨f,rfl⟩:∃q,f=q+1:=⟨f-1,by omega⟩
  have hxl:=iQ aX;rw[fO]at hxl;have hz:=ki (show i<zs.length by omega);have d1:dgt zs i<4294967296:=jF hs (by decide) i;have d2:dgt ys i<4294967296:=jF hys (by decide) i;rw[eO];unfold gi;refine th (qo aX) (th (fk) (th eP (th ph (th (FK aY hys (by omega)) (th ph (th (py aX hz) (th ji ?_)))))));have hset:∀z',vl B32 (zs.set i z')+dgt zs i*B32^i=vl B32 zs+z'*B32^i:=λz'=>rS z' hz;by_cases hb:dgt zs i<c+dgt ys i
  ·rw[ep hb];refine th eP (th (py aX hz) (th (tg) ?_));obtain⟨b1,a1,a2,a3,a4⟩:=vB (w:=dgt zs i+4294967296) (kk:=.i64) (K:=λ_ s=>(eK 1 s X (.i .i64 (.ofNat i)) λx25 s=>eJ s x25 λx26 s=>et x26 (.i .u64 (.ofNat (c+dgt ys i))) λx27=>eK 1 s X (.i .i64 (.ofNat i)) λx28 s=>eU 1 s x28 x27 λ_ s=>ee (.i .i64 (.ofNat i)) (.i .i64 (.ofNat 1)) λx29=>lp (λ(_ _ _ _:D)(_:LS)=>none) (gi φ) f X Y (.i .u64 (.ofNat 1)) x29 s)) aX (show i<nx by omega);refine th a4 (th (py a1 (w:=dgt zs i+4294967296) (by rw[ao (by omega)])) (th (wS) ?_));obtain⟨b2,g1,g2,g3,g4⟩:=vB (w:=dgt zs i+4294967296-(c+dgt ys i)) (kk:=.i64) (K:=λ_ s=>ee (.i .i64 (.ofNat i)) (.i .i64 (.ofNat 1)) λx29=>lp (λ(_ _ _ _:D)(_:LS)=>none) (gi φ) f X Y (.i .u64 (.ofNat 1)) x29 s) a1 (show i<nx by omega);refine th g4 (th (fM) ?_);rw[z1A]at g1;refine ih (i+1) f b2 _ 1 g1 (g3 _ _ _ _ (a3 _ _ _ _ aY dY) dY) dY (oI hs (show _<B32 by show _<4294967296;omega)) (by omega) ?_ (by omega) (by omega);have h1:=hset (dgt zs i+4294967296-(c+dgt ys i));have e1:(dgt zs i+4294967296-(c+dgt ys i))+(c+dgt ys i)=dgt zs i+B32:=by show _=_+4294967296;omega
   generalize dgt zs i+4294967296-(c+dgt ys i)=z' at*;rw[yX,av];generalize vl B32 (zs.set i z')=v1 at*;generalize B32^i=P at*;generalize B32=B at*;have e2:z'*P+(c*P+dgt ys i*P)=dgt zs i*P+B*P:=by rw[←aP,←aP,←aP,e1]
   rw[bE,aK P B];omega
  ·rw[fC hb];refine th eM (th (py aX hz) (th (wS) ?_));obtain⟨b2,g1,g2,g3,g4⟩:=vB (w:=dgt zs i-(c+dgt ys i)) (kk:=.i64) (K:=λ_ s=>ee (.i .i64 (.ofNat i)) (.i .i64 (.ofNat 1)) λx29=>lp (λ(_ _ _ _:D)(_:LS)=>none) (gi φ) f X Y (.i .u64 (.ofNat 0)) x29 s) aX (show i<nx by omega);refine th g4 (th (fM) ?_);refine ih (i+1) f b2 _ 0 g1 (g3 _ _ _ _ aY dY) dY (oI hs (show _<B32 by show _<4294967296;omega)) (by omega) ?_ (by omega) (by omega);have h1:=hset (dgt zs i-(c+dgt ys i));have e1:(dgt zs i-(c+dgt ys i))+(c+dgt ys i)=dgt zs i:=by omega
   generalize dgt zs i-(c+dgt ys i)=z' at*;rw[yX];generalize vl B32 (zs.set i z')=v1 at*;generalize B32^i=P at*;have e2:z'*P+(c*P+dgt ys i*P)=dgt zs i*P:=by rw[←aP,←aP,e1]
   rw[bP];omega
theorem MG{φ x y:Nat}(hx:Nat.log2 x≤1000000000)(hy:Nat.log2 y≤1000000000)(hφ:1000000000≤φ):pT φ [.n x,.n y]=some (.n (x-y)):=by
 unfold pT;dsimp only[eV,eZ];rw[←fm];have hcmp:nH [.n x,.n y]=some (cnd (Nat.blt x y) (.i .i64 (.negSucc 0)) (cnd (Nat.beq x y) (.i .i64 (.ofNat 0)) (.i .i64 (.ofNat 1)))):=rfl;by_cases hlt:x<y
 ·rw[ep hlt,eL]at hcmp;refine th (fP hcmp) (th rg (th eP ?_));rw[show x-y=0 by omega];rfl
 ·rw[fC hlt,e9]at hcmp;have hres:∃c:Nat,nH [.n x,.n y]=some (.i .i64 (.ofNat c)):=by
   by_cases he:x=y
   ·exact⟨0,by rw[hcmp,he,ej];rfl⟩
   ·exact⟨1,by rw[hcmp,gG he];rfl⟩
  obtain⟨c,hc⟩:=hres;refine th (fP hc) (th (fy) (th eM ?_));obtain⟨b1,X,h1,h2,h3⟩:=rK (bs:=[]) (K:=λx3 s=>eR p6 [.n y] s λx4 s=>lp (λ(_ _ _ _:D)(_:LS)=>none) (gi φ) φ x3 x4 (.i .u64 (.ofNat 0)) (.i .i64 (.ofNat 0)) s) hx;refine th h3 ?_;obtain⟨b2,Y,g1,g2,g3⟩:=rK (bs:=b1) (K:=λx4 s=>lp (λ(_ _ _ _:D)(_:LS)=>none) (gi φ) φ X x4 (.i .u64 (.ofNat 0)) (.i .i64 (.ofNat 0)) s) hy;refine th g3 ?_;have l1:=xz hx;obtain⟨aX,dX⟩:=xg h1.ws g2;refine Nt (nx:=(lm B32 x).length) (ny:=(lm B32 y).length) (xd (by decide) y) (by omega) (vO (by decide) y) (T6 (by omega)) (by omega) (lm B32 x).length 0 φ b2 (lm B32 x) 0 aX g1.ws ?_ (xd (by decide) x) (by omega) ?_ (by omega) (by omega)
  ·intro l o n m z e he o' n' m' z' e' he';exact dX _ _ _ _ _ _ he' _ _ _ _ _ he
  ·rw[vO (by decide)];simp[vl]
theorem IQ{as:List D}{r:D}(h:v9 as=some r):∃φ,pT φ as=some r:=by
 obtain⟨x,y,rfl,hx,hy,h⟩:=wR h;exact⟨_,by rw[MG hx hy (aD _)];rw[fA]at h;exact h⟩
theorem zN{ws:List Nat}{i j w:Nat}(h:i≠j):dgt (ws.set i w) j=dgt ws j:=by
 unfold dgt;rw[aH,aH,bV h]
theorem UZ{ws:List Nat}{i:Nat}(h:ws.length≤i):dgt ws i=0:=by unfold dgt;rw[aH,bX h];rfl
theorem WR{a b c d:Nat}(ha:a<4294967296)(hb:b<4294967296)(hc:c<4294967296)(hd:d<4294967296):a+b*c+d<18446744073709551616:=by
 have:b*c≤4294967295*4294967295:=bv (by omega) (by omega);omega
theorem WV{φ i w:Nat}{X Y O:D}{xs ys:List Nat}{nx ny:Nat}{q9:D→D→D→D→LS→Rs}(hxs:Sm B32 xs)(hys:Sm B32 ys)(hx:nx≤100000000)(hy:ny≤100000000)(hw:xs[i]?=some w)(hi:i<nx):∀(k j f:Nat)(bs:List Blk)(os:List Nat)(c V:Nat),
 WS 1 bs X (c64 xs) nx→WS 1 bs Y (c64 ys) ny→WS 1 bs O (c64 os) (nx+ny)→Dis X O→Dis Y O→Sm B32 os→c<B32→vl B32 os+c*B32^(i+j)=V+w*vl B32 (ys.take j)*B32^i→(∀t,i+ny≤t→dgt os t=0)→j+k=ny→k+1<f→
 ∃bs' os',WS 1 bs' X (c64 xs) nx∧WS 1 bs' Y (c64 ys) ny∧WS 1 bs' O (c64 os') (nx+ny)∧Sm B32 os'∧vl B32 os'=V+w*vl B32 ys*B32^i∧(∀t,i+1+ny≤t→dgt os' t=0)∧
 lp (λ(_ _ _ _ _ _:D)(_:LS)=>none) (lh φ q9) f X Y O (.i .i64 (.ofNat i)) (.i .u64 (.ofNat c)) (.i .i64 (.ofNat j)) (mem bs)=ee (.i .i64 (.ofNat i)) (.i .i64 (.ofNat 1)) λx43=>q9 X Y O x43 (mem bs'):=by
 intro k
 induction k with
 |zero=>
  intro j f bs os c V aX aY aO dX dY hs hc hv hz hk hf;obtain⟨f,rfl⟩:∃q,f=q+1:=⟨f-1,by omega⟩
  have hol:=iQ aO;have hyl:=iQ aY;rw[fO]at hol hyl;obtain⟨b2,g1,g2,g3,g4⟩:=vB (w:=c) (i:=i+ny) (kk:=.i64) (K:=λ_ s=>ee (.i .i64 (.ofNat i)) (.i .i64 (.ofNat 1)) λx43=>q9 X Y O x43 s) aO (by omega);refine⟨b2,os.set (i+ny) c,g3 _ _ _ _ aX dX,g3 _ _ _ _ aY dY,g1,oI hs hc,?_,?_,?_⟩
  ·have h1:=rS (B:=B32) c (ki (show i+ny<os.length by omega));rw[hz _ (aD _),bP,bH]at h1;rw[aM (by omega)]at hv;rw[h1,←hv,show i+j=i+ny by omega]
  ·intro t ht;rw[zN (by omega)];exact hz t (by omega)
  ·rw[eO];unfold lh;refine th (qo aY) (th (fy) (th eM (th (qo aY) (th (fM) ?_))));exact g4
 |succ k ih=>
  intro j f bs os c V aX aY aO dX dY hs hc hv hz hk hf;obtain⟨f,rfl⟩:∃q,f=q+1:=⟨f-1,by omega⟩
  have hol:=iQ aO;have hyl:=iQ aY;rw[fO]at hol hyl;have d1:dgt os (i+j)<4294967296:=jF hs (by decide) _;have d2:dgt ys j<4294967296:=jF hys (by decide) j;have d3:w<4294967296:=hxs _ (bU hw);have d4:c<4294967296:=hc;have hlt:=WR d1 d3 d2 d4;generalize hS:dgt os (i+j)+w*dgt ys j+c=S at hlt;obtain⟨b2,g1,g2,g3,g4⟩:=vB (w:=S%4294967296) (i:=i+j) (kk:=.i64) (K:=λ_ s=>o5 (.i .u64 (.ofNat S)) (.i .u64 (.ofNat 32)) λx38=>ee (.i .i64 (.ofNat j)) (.i .i64 (.ofNat 1)) λx39=>lp (λ(_ _ _ _ _ _:D)(_:LS)=>none) (lh φ q9) f X Y O (.i .i64 (.ofNat i)) x38 x39 s) aO (show i+j<nx+ny by omega);obtain⟨bs',os',e1,e2,e3,e4,e5,e6,e7⟩:=ih (j+1) f b2 (os.set (i+j) (S%4294967296)) (S/4294967296) V (g3 _ _ _ _ aX dX) (g3 _ _ _ _ aY dY) g1 dX dY (oI hs (bg _ (by decide))) (by show _<4294967296;omega) (by
   have h1:=rS (B:=B32) (S%4294967296) (ki (show i+j<os.length by omega));have hdm:S%4294967296+B32*(S/4294967296)=S:=dE S 4294967296;rw[yX,←cx,av];rw[bY]at hv h1 ⊢;generalize S%4294967296=r at*;generalize S/4294967296=q at*;generalize vl B32 (os.set (i+j) r)=v1 at*;generalize vl B32 (ys.take j)=vy at*;generalize vl B32 os=v0 at*;generalize dgt os (i+j)=o at*;generalize dgt ys j=y at*;generalize B32^i=P at*;generalize B32^j=Q at*;generalize B32=B at*;have h2:(r+B*q)*(P*Q)=(o+w*y+c)*(P*Q):=by rw[hdm,←hS]
   grind) (λt ht=>by rw[zN (by omega)];exact hz t ht) (by omega) (by omega)
  refine⟨bs',os',e1,e2,e3,e4,e5,e6,?_⟩;rw[eO];unfold lh;refine th (qo aY) (th (fk) (th eP (th (fM) (th (py aO (ki (by omega))) (th (py aX hw) (th (py aY (ki (by omega))) ?_))))));have hm:w*dgt ys j<18446744073709551616:=by omega
  refine th (Bo hm) (th (tg (by omega)) (th (tg (by omega)) ?_));rw[hS];refine th (fM) (th (AX hlt) (th g4 (th B2 (th (fM) ?_))));exact e7
theorem TS{φ:Nat}{X Y O:D}{xs ys:List Nat}{nx ny:Nat}(hxs:Sm B32 xs)(hys:Sm B32 ys)(hx:nx≤100000000)(hy:ny≤100000000)(hφ:1000000000≤φ):∀(k i f:Nat)(bs:List Blk)(os:List Nat),
 WS 1 bs X (c64 xs) nx→WS 1 bs Y (c64 ys) ny→WS 1 bs O (c64 os) (nx+ny)→Dis X O→Dis Y O→Sm B32 os→vl B32 os=vl B32 (xs.take i)*vl B32 ys→(∀t,i+ny≤t→dgt os t=0)→i+k=nx→k+1<f→
 lp (λ(_ _ _ _:D)(_:LS)=>none) (jK φ) f X Y O (.i .i64 (.ofNat i)) (mem bs)=some (.n (vl B32 xs*vl B32 ys)):=by
 intro k
 induction k with
 |zero=>
  intro i f bs os aX aY aO dX dY hs hv hz hk hf;obtain⟨f,rfl⟩:∃q,f=q+1:=⟨f-1,by omega⟩
  have hol:=iQ aO;have hxl:=iQ aX;rw[fO]at hol hxl;rw[eO];unfold jK;refine th (qo aX) (th (fy) (th eM (th (xL aO (λex=>sP hs (by omega) (by omega)) rfl) ?_)));rw[hv,aM (by omega)];rfl
 |succ k ih=>
  intro i f bs os aX aY aO dX dY hs hv hz hk hf;obtain⟨f,rfl⟩:∃q,f=q+1:=⟨f-1,by omega⟩
  have hxl:=iQ aX;rw[fO]at hxl;have hw:=ki (show i<xs.length by omega);obtain⟨bs',os',e1,e2,e3,e4,e5,e6,e7⟩:=WV (φ:=φ) (q9:=lp (λ(_ _ _ _:D)(_:LS)=>none) (jK φ) f) hxs hys hx hy hw (show i<nx by omega) ny 0 φ bs os 0 (vl B32 (xs.take i)*vl B32 ys) aX aY aO dX dY hs (by decide) (by rw[hv];simp[vl]) hz (by omega) (by omega);rw[eO];unfold jK;refine th (qo aX) (th (fk) (th eP (th e7 (th (fM) ?_))));refine ih (i+1) f bs' os' e1 e2 e3 dX dY e4 ?_ e6 (by omega) (by omega);rw[e5,yX];generalize vl B32 (xs.take i)=a;generalize vl B32 ys=b;generalize dgt xs i=d;generalize B32^i=P;grind
theorem Md{φ x y:Nat}(hx:Nat.log2 x≤1000000000)(hy:Nat.log2 y≤1000000000)(hφ:1000000000≤φ):pU φ [.n x,.n y]=some (.n (x*y)):=by
 unfold pU;dsimp only[eV,eZ];rw[←fm];obtain⟨b1,X,h1,h2,h3⟩:=rK (bs:=[]) (K:=λx3 s=>eR p6 [.n y] s λx4 s=>ek x3 s λx5 s=>ek x4 s λx6 s=>ee x5 x6 λx7=>mK 1 8 [(.i .u64 (.ofNat 0))] s x7 x7 λx8 s=>lp (λ(_ _ _ _:D)(_:LS)=>none) (jK φ) φ x3 x4 x8 (.i .i64 (.ofNat 0)) s) hx;refine th h3 ?_;obtain⟨b2,Y,g1,g2,g3⟩:=rK (bs:=b1) (K:=λx4 s=>ek X s λx5 s=>ek x4 s λx6 s=>ee x5 x6 λx7=>mK 1 8 [(.i .u64 (.ofNat 0))] s x7 x7 λx8 s=>lp (λ(_ _ _ _:D)(_:LS)=>none) (jK φ) φ X x4 x8 (.i .i64 (.ofNat 0)) s) hy;refine th g3 ?_;have l1:=xz hx;have l2:=xz hy;obtain⟨aX,dX⟩:=xg h1.ws g2;refine th (qo aX) (th (qo g1.ws) (th (fM) (th (HE rfl (by omega) (by omega)) ?_)));generalize hnx:(lm B32 x).length=nx at*;generalize hny:(lm B32 y).length=ny at*;rw[rC,uk];have hnew:∀l b,b2[l]?=some b→(b2++[⟨c64 (List.replicate (nx+ny) 0),.rw⟩])[l]?=some b∧kI (.sl b2.length 0 (nx+ny) (nx+ny) 1 true) l:=λl b h=>⟨by rw[bQ (fE h)];exact h,λo n m z e he=>by have:=fE h;injection he with h1;omega⟩
 obtain⟨aX',dX'⟩:=xg aX hnew;obtain⟨aY',dY'⟩:=xg g1.ws hnew;refine th (TS (φ:=φ) (xd (B:=B32) (by decide) x) (xd (by decide) y) (by omega) (by omega) hφ nx 0 φ _ (List.replicate (nx+ny) 0) aX' aY' (WS.blk (by simp) (by rw[fO];simp) (aD _)) dX' dY' (zb (by decide)) (by rw[yW];simp[vl]) (λt ht=>?_) (by omega) (by omega)) ?_
 ·unfold dgt;rw[aH];cases h:(List.replicate (nx+ny) 0)[t]?with
  |none=>rfl
  |some w=>exact de (bU h)
 ·rw[vO (by decide),vO (by decide)]
theorem JH{as:List D}{r:D}(h:xt as=some r):∃φ,pU φ as=some r:=by
 obtain⟨x,y,rfl,hx,hy,h⟩:=wR h;exact⟨_,by rw[Md hx hy (aD _)];rw[fA]at h;exact h⟩
theorem GK{φ:Nat}{s:LS}{K:D→LS→Rs}:∀(n f:Nat)(xs:List Nat)(ex:Bool),xs.length=n→Sm B32 xs→n<f→n<9223372036854775808→
 ∃zs ex',Tm zs∧Sm B32 zs∧vl B32 zs=vl B32 xs∧zs.length≤n∧lp (λ(_:D)(_:LS)=>none) (sK φ K) f (.tree (c64 xs) n ex) s=K (.tree (c64 zs) zs.length ex') s:=by
 intro n
 induction n with
 |zero=>
  intro f xs ex hl hs hf hn;obtain⟨f,rfl⟩:∃q,f=q+1:=⟨f-1,by omega⟩
  have:xs=[]:=a8 hl;subst this;exact⟨[],ex,λw h=>by simp at h,hs,rfl,aD _,by rw[eO];rfl⟩
 |succ n ih=>
  intro f xs ex hl hs hf hn;obtain⟨f,rfl⟩:∃q,f=q+1:=⟨f-1,by omega⟩
  have hw:=ki (show n<xs.length by omega);have hx:xs=xs.take n++[dgt xs n]:=by
   have:xs.take (n+1)=xs.take n++[dgt xs n]:=by rw[cH,hw];rfl
   rw[aM (by omega)]at this;exact this
  by_cases h0:dgt xs n=0
  ·obtain⟨zs,ex',k1,k2,k3,k4,k5⟩:=ih f (xs.take n) (cnd ex (Nat.beq n (n+1)) false) (by rw[ah];omega) (rV hs) (by omega) (by omega);refine⟨zs,ex',k1,k2,?_,by omega,?_⟩
   ·rw[k3];have:=congrArg (vl B32) hx;rw[qq,h0]at this;rw[this];simp[vl]
   ·rw[eO];refine th fH (th (mf (by omega)) (th fD (th fD (th fD (th fH (th fD (th (gR) (th fD (th (uv (by omega) (by rw[fO];omega)) (th fD (th (vk (d:=n64 0) (by rw[a7,ai];rw[h0]at hw;exact kP hw)) (th fD (th (qE rfl) (th fe (th eP (th fH (th (gR) ?_)))))))))))))))));rw[a7];refine th (wf (by omega) (by rw[fO];omega)) ?_;have e2:(c64 xs).take n=c64 (xs.take n):=by unfold c64;rw[z0Y]
    rw[e2];exact k5
  ·refine⟨xs,ex,?_,hs,rfl,by omega,?_⟩
   ·intro w hw';rw[hx]at hw';have:dgt xs n=w:=by simpa using hw'
    omega
   ·rw[eO,hl];refine th fH (th (mf (by omega)) (th fD (th fD (th fD (th fH (th fD (th (gR) (th fD (th (uv (by omega) (by rw[fO];omega)) (th fD (th (vk (d:=n64 (dgt xs n)) (by rw[a7,ai];exact kP hw)) (th fD (th (tO h0) (th fe (th eM ?_)))))))))))))));rfl
theorem D1{a b:List Nat}(sa:Sm B32 a)(tb:Tm b)(h:a.length<b.length):vl B32 a<vl B32 b:=by
 have h1:=t7 sa;have h2:=xa (B:=B32) tb (by intro e;rw[e]at h;simp at h);have h3:B32^a.length≤B32^(b.length-1):=ba (by decide) (by omega);omega
theorem vC(ws:List Nat)(i:Nat):vl B32 ws=vl B32 (ws.take i)+B32^i*(dgt ws i+B32*vl B32 (ws.drop (i+1)))∨ws.length<i:=by
 by_cases h:ws.length<i
 ·exact Or.inr h
 ·left;have:=qq (B:=B32) (ws.take i) (ws.drop i);rw[cO,ah,bO (by omega),pf]at this;exact this
theorem Jo{φ n:Nat}{zs ys:List Nat}{e1 e2:Bool}{s:LS}(sz:Sm B32 zs)(sy:Sm B32 ys)(hz:zs.length=n)(hy:ys.length=n)(hn:n<9223372036854775808):∀(i f:Nat),i<n→i+1<f→zs.drop (i+1)=ys.drop (i+1)→
 lp (λ(_ _ _:D)(_:LS)=>none) (ol φ) f (.tree (c64 zs) n e1) (.tree (c64 ys) n e2) (.i .i64 (.ofNat i)) s=some (.b (Nat.blt (vl B32 zs) (vl B32 ys))):=by
 intro i
 induction i with
 |zero=>
  intro f hi hf hd;obtain⟨f,rfl⟩:∃q,f=q+2:=⟨f-2,by omega⟩
  have gz:=kP (ki (show 0<zs.length by omega));have gy:=kP (ki (show 0<ys.length by omega));have vz:vl B32 zs=dgt zs 0+B32*vl B32 (zs.drop (0+1)):=pf zs 0;have vy:vl B32 ys=dgt ys 0+B32*vl B32 (ys.drop (0+1)):=pf ys 0;rw[hd]at vz;rw[eO];refine th (qC (by omega)) (th eP (th (uv hi (by rw[fO];omega)) (th (vk gz) (th (uv hi (by rw[fO];omega)) (th (vk gy) ?_)))));by_cases he:dgt zs 0=dgt ys 0
  ·refine th (o6 he) (th eM (th (nJ (by omega) (by omega)) ?_));rw[eO];refine th pJ (th eM ?_);rw[vz,vy,he,fC (bS _)];rfl
  ·refine th (qU he) (th eP (th (uv hi (by rw[fO];omega)) (th (vk gz) (th (uv hi (by rw[fO];omega)) (th (vk gy) (th ji ?_))))));rw[vz,vy];by_cases hl:dgt zs 0<dgt ys 0
   ·rw[ep hl,ep (by omega)];rfl
   ·rw[fC hl,fC (by omega)];rfl
 |succ i ih=>
  intro f hi hf hd;obtain⟨f,rfl⟩:∃q,f=q+1:=⟨f-1,by omega⟩
  have gz:=kP (ki (show i+1<zs.length by omega));have gy:=kP (ki (show i+1<ys.length by omega));rw[eO];refine th (qC (by omega)) (th eP (th (uv hi (by rw[fO];omega)) (th (vk (by rw[ai];exact gz)) (th (uv hi (by rw[fO];omega)) (th (vk (by rw[ai];exact gy)) ?_)))));by_cases he:dgt zs (i+1)=dgt ys (i+1)
  ·refine th (o6 he) (th eM (th (gR) ?_));rw[a7];refine ih f (by omega) (by omega) ?_;have a1:=ki (show i+1<zs.length by omega);have a2:=ki (show i+1<ys.length by omega);rw[mz a1,mz a2,he,hd]
  ·refine th (qU he) (th eP (th (uv hi (by rw[fO];omega)) (th (vk (by rw[ai];exact gz)) (th (uv hi (by rw[fO];omega)) (th (vk (by rw[ai];exact gy)) (th ji ?_))))));have vz:=(vC zs (i+1)).resolve_right (by omega);have vy:=(vC ys (i+1)).resolve_right (by omega);rw[hd]at vz;have lz:vl B32 (zs.take (i+1))<B32^(i+1):=by
    have:=t7 (rV (n:=i+1) sz);rw[ah,bO (by omega)]at this;exact this
   have ly:vl B32 (ys.take (i+1))<B32^(i+1):=by
    have:=t7 (rV (n:=i+1) sy);rw[ah,bO (by omega)]at this;exact this
   generalize vl B32 (ys.drop (i+1+1))=R at*;generalize vl B32 (zs.take (i+1))=p at*;generalize vl B32 (ys.take (i+1))=q at*;generalize B32^(i+1)=P at*;generalize dgt zs (i+1)=a at*;generalize dgt ys (i+1)=b at*;rw[vz,vy];have key:∀{p q a b:Nat},p<P→a<b→p+P*(a+B32*R)<q+P*(b+B32*R):=by
    intro p q a b h1 h2;have:P*((a+B32*R)+1)≤P*(b+B32*R):=aZ _ (by omega);rw[bA P (a+B32*R) 1]at this;omega
   by_cases hl:a<b
   ·rw[ep hl,ep (key lz hl)];rfl
   ·have hgt:b<a:=by omega
    have:=key (q:=p) ly hgt;rw[fC hl,fC (by omega)];rfl
theorem IC{φ n m:Nat}{xs ys:List Nat}{e1 e2:Bool}(hx:xs.length=n)(hy:ys.length=m)(sx:Sm B32 xs)(sy:Sm B32 ys)(ty:Tm ys)(hn:n≤100000000000)(hm:m≤100000000000)(hφ:n+m+2<φ):
 oF φ [.tree (c64 xs) n e1,.tree (c64 ys) m e2]=some (.b (Nat.blt (vl B32 xs) (vl B32 ys))):=by
 unfold oF;dsimp only[eV,eZ];unfold jx;dsimp only[eV,eZ];obtain⟨zs,e3,k1,k2,k3,k4,k5⟩:=GK (φ:=φ) (s:=s0) (K:=λx3 s=>ek x3 s λx4 s=>ek (.tree (c64 ys) m e2) s λx5 s=>mE x4 x5 λx6=>eQ x6
  (ek x3 s λx7 s=>ek (.tree (c64 ys) m e2) s λx8 s=>fN x7 x8 λx9=>eX false s x9 some)
  (ek x3 s λx10 s=>et x10 (.i .i64 (.ofNat 1)) λx11=>lp (λ(_ _ _:D)(_:LS)=>none) (ol φ) φ x3 (.tree (c64 ys) m e2) x11 s)) n φ xs e1 hx sx (by omega) (by omega)
 refine th k5 (th fH (th fH ?_));rw[←k3];by_cases he:zs.length=m
 ·refine th (o6 he) (th eM (th fH ?_));rw[he];cases m with
  |zero=>
   obtain⟨φ,rfl⟩:∃q,φ=q+1:=⟨φ-1,by omega⟩
   have h1:zs=[]:=a8 he;have h2:ys=[]:=a8 hy;subst h1;subst h2;refine th (nJ (by omega) (by omega)) ?_;rw[eO];exact th pJ (th eM rfl)
  |succ m=>
   refine th (gR) ?_;rw[a7];exact Jo k2 sy he hy (by omega) m φ (by omega) (by omega) (by rw[bh (by omega),bh (by omega)])
 ·refine th (qU he) (th eP (th fH (th fH (th ji ?_))));by_cases hl:zs.length<m
  ·rw[ep hl,ep (D1 k2 ty (by omega))];rfl
  ·have:=D1 sy k1 (show ys.length<zs.length by omega);rw[fC hl,fC (by omega)];rfl
theorem V8{ys:List Nat}(h:ys.getLast?≠some 0):Tm ys:=λw hw e=>h (by rw[hw,e])
theorem Fv{as:List D}{r:D}(h:tQ as=some r):∃φ,oF φ as=some r:=by
 unfold tQ at h;split at h
 ·split at h
  ·rename_i h1 h2;split at h
   ·rename_i hc;obtain⟨rfl,hs1⟩:=yY h1;obtain⟨rfl,hs2⟩:=yY h2;obtain⟨c1,c2,c3,c4,c5⟩:=hc;exact⟨_,by rw[IC c1 c2 hs1 hs2 (V8 c5) c3 c4 (cK _)];exact h⟩
   ·cases h
  ·cases h
 ·cases h
theorem IA{n m:Nat}{xs ys:List Nat}{e1 e2:Bool}(hx:xs.length=n)(hy:ys.length=m)(sx:Sm B32 xs)(sy:Sm B32 ys)(ty:Tm ys)(hn:n≤100000000000)(hm:m≤100000000000):
 tQ [.tree (c64 xs) n e1,.tree (c64 ys) m e2]=some (.b (Nat.blt (vl B32 xs) (vl B32 ys))):=by
 unfold tQ;simp only[zP sx,zP sy];rw[aC ⟨hx,hy,hn,hm,λe=>ty _ e rfl⟩]
theorem GF{B:Nat}:∀{ws:List Nat},(∀t,dgt ws t=0)→vl B ws=0
 |[],_=>rfl
 |w::ws,h=>by
  have h0:w=0:=h 0;have:=GF (B:=B) (ws:=ws) (λt=>h (t+1));show w+B*vl B ws=0;rw[h0,this];simp
theorem RD{ws:List Nat}{i t:Nat}:dgt (ws.drop i) t=dgt ws (i+t):=by
 unfold dgt;rw[aH,aH,bx]
theorem UV{z p B:Nat}(hz:z<B)(hp:p≤(B-1)*(B-1)+(B-1))(hB:0<B):∃z' c',z'<B∧c'<B∧z'+p=z+c'*B∧(z<p%B→z'=z+B-p%B∧c'=p/B+1)∧(¬z<p%B→z'=z-p%B∧c'=p/B):=by
 have hm:=bg p hB;have hd:=dE p B;have key:∀z' c',z'<B→z'+p=z+c'*B→c'<B:=by
  intro z' c' h1 h2;rcases az c' B with h|h
  ·exact h
  ·exfalso;have h3:B*B≤c'*B:=aL _ h;have h4:(B-1)*(B-1)+(B-1)=(B-1)*B:=by rw[←Nat.mul_succ];congr 1;omega
   have h5:(B-1)*B=B*B-B:=by rw[z1F,bE]
   have h6:B≤B*B:=z0V _ hB;omega
 by_cases h:z<p%B
 ·have e:(z+B-p%B)+p=z+(p/B+1)*B:=by
   rw[aP,bE,aK (p/B) B];omega
  exact⟨z+B-p%B,p/B+1,by omega,key _ _ (by omega) e,e,λ_=>⟨rfl,rfl⟩,λh'=>absurd h h'⟩
 ·have e:(z-p%B)+p=z+(p/B)*B:=by
   rw[aK (p/B) B];omega
  exact⟨z-p%B,p/B,by omega,key _ _ (by omega) e,e,λh'=>absurd h' h,λ_=>⟨rfl,rfl⟩⟩
theorem Yd{φ k g n N V:Nat}{Y R Q:D}{ys:List Nat}{q23:D→D→D→D→D→LS→Rs}(hys:Sm B32 ys)(hyl:ys.length=n)(hg:g<B32)(hkn:k+n<N)(hN:N≤100000001)(hV:g*vl B32 ys*B32^k≤V)(dY:Dis Y R)(dQ:Dis Q R):∀(j i f:Nat)(bs:List Blk)(rs qs:List Nat)(c nq:Nat),
 WS 1 bs Y (c64 ys) n→WS 1 bs R (c64 rs) N→WS 1 bs Q (c64 qs) nq→Sm B32 rs→c<B32→vl B32 rs+g*vl B32 (ys.take i)*B32^k=V+c*B32^(k+i)→(∀t,k+n<t→dgt rs t=0)→i+j=n→j+1<f→
 ∃bs' rs',WS 1 bs' Y (c64 ys) n∧WS 1 bs' R (c64 rs') N∧WS 1 bs' Q (c64 qs) nq∧Sm B32 rs'∧vl B32 rs'+g*vl B32 ys*B32^k=V∧
 lp (λ(_ _ _ _ _ _ _ _:D)(_:LS)=>none) (gZ φ q23) f Y (.i .i64 (.ofNat n)) R Q (.i .i64 (.ofNat k)) (.i .u64 (.ofNat g)) (.i .u64 (.ofNat c)) (.i .i64 (.ofNat i)) (mem bs)=q23 Y (.i .i64 (.ofNat n)) R Q (.i .i64 (.ofNat k)) (mem bs'):=by
 intro j
 induction j with
 |zero=>
  intro i f bs rs qs c nq aY aR aQ hs hc hv hz hk hf;obtain⟨f,rfl⟩:∃q,f=q+1:=⟨f-1,by omega⟩
  have hrl:=iQ aR;rw[fO]at hrl;have hi:i=n:=by omega
  subst hi;rw[aM (by omega)]at hv;have hge:c≤dgt rs (k+i):=by
   have h1:=(vC rs (k+i)).resolve_right (by omega);have h2:vl B32 (rs.drop (k+i+1))=0:=GF (λt=>by rw[RD];exact hz _ (by omega));have h3:=t7 (rV (n:=k+i) hs);rw[ah,bO (by omega)]at h3;rw[h2,dG,bH]at h1;rcases az (dgt rs (k+i)) c with h|h
   ·exfalso;have h4:B32^(k+i)*(dgt rs (k+i)+1)≤B32^(k+i)*c:=aZ _ h;rw[bA,ai]at h4;rw[aK c]at hv;omega
   ·exact h
  have d1:dgt rs (k+i)<4294967296:=jF hs (by decide) _;obtain⟨b2,g1,g2,g3,g4⟩:=vB (w:=dgt rs (k+i)-c) (i:=k+i) (kk:=.i64) (K:=λ_ s=>q23 Y (.i .i64 (.ofNat i)) R Q (.i .i64 (.ofNat k)) s) aR (by omega);refine⟨b2,_,g3 _ _ _ _ aY dY,g1,g3 _ _ _ _ aQ dQ,oI hs (show _<4294967296 by omega),?_,?_⟩
  ·have h1:=rS (B:=B32) (dgt rs (k+i)-c) (ki (show k+i<rs.length by omega));generalize dgt rs (k+i)=d at*;generalize B32^(k+i)=P at*;have h2:(d-c)*P+c*P=d*P:=by rw[←aP,Nat.sub_add_cancel hge]
   omega
  ·rw[eO];unfold gZ;refine th (fy) (th eM (th (fM) (th (fM) (th (py aR (ki (by omega))) (th (wS hge) ?_)))));exact g4
 |succ j ih=>
  intro i f bs rs qs c nq aY aR aQ hs hc hv hz hk hf;obtain⟨f,rfl⟩:∃q,f=q+1:=⟨f-1,by omega⟩
  have hrl:=iQ aR;rw[fO]at hrl;have d1:dgt rs (k+i)<4294967296:=jF hs (by decide) _;have d2:dgt ys i<4294967296:=jF hys (by decide) _;have d3:g<4294967296:=hg;have d4:c<4294967296:=hc;have hm1:dgt ys i*g≤4294967295*4294967295:=bv (by omega) (by omega);have hp:dgt ys i*g+c≤(B32-1)*(B32-1)+(B32-1):=by show _≤(4294967296-1)*(4294967296-1)+(4294967296-1);omega
  have hzr:=ki (show k+i<rs.length by omega);obtain⟨z',c',u1',u2',u3',u4,u5⟩:=UV (z:=dgt rs (k+i)) (B:=B32) d1 hp (by decide);have hnew:vl B32 (rs.set (k+i) z')+g*vl B32 (ys.take (i+1))*B32^k=V+c'*B32^(k+(i+1)):=by
   have h1:=rS (B:=B32) z' hzr;rw[yX,←cx,av];rw[bY]at hv h1 ⊢;generalize vl B32 (rs.set (k+i) z')=v1 at*;generalize vl B32 rs=v0 at*;generalize vl B32 (ys.take i)=vy at*;generalize dgt rs (k+i)=z at*;generalize dgt ys i=y at*;generalize B32^k=P at*;generalize B32^i=Q at*;generalize B32=B at*;have h2:(z'+(y*g+c))*(P*Q)=(z+c'*B)*(P*Q):=by rw[u3']
   grind
  rw[eO];unfold gZ;have hpp:dgt ys i*g+c<18446744073709551616:=by omega
  generalize hP:dgt ys i*g+c=p at*;by_cases hb:dgt rs (k+i)<p%B32
  ·obtain⟨e1,e2⟩:=u4 hb;have hz4:dgt rs (k+i)+4294967296<18446744073709551616:=by omega
   obtain⟨b1,a1,a2,a3,a4⟩:=vB (w:=dgt rs (k+i)+4294967296) (i:=k+i) (kk:=.i64) (K:=λ_ s=>ee (.i .u64 (.ofNat (p/4294967296))) (.i .u64 (.ofNat 1)) λx95=>
    (λ(x67 x68 x69 x70 x71 x72 x73 x74 x75:D)(s:LS)=>
     ee x71 x74 λx76=>ee x71 x74 λx77=>eK 1 s x69 x77 λx78 s=>eJ s x78 λx79 s=>uu x75 (.i .u64 (.ofNat 4294967295)) λx80=>et x79 x80 λx81=>eK 1 s x69 x76 λx82 s=>eU 1 s x82 x81 λ_ s=>
     ee x74 (.i .i64 (.ofNat 1)) λx83=>lp (λ(_ _ _ _ _ _ _ _:D)(_:LS)=>none) (gZ φ q23) f x67 x68 x69 x70 x71 x72 x73 x83 s) Y (.i .i64 (.ofNat n)) R Q (.i .i64 (.ofNat k)) (.i .u64 (.ofNat g)) x95 (.i .i64 (.ofNat i)) (.i .u64 (.ofNat p)) s) aR (show k+i<N by omega)
   obtain⟨b2,g1,g2,g3,g4⟩:=vB (w:=dgt rs (k+i)+4294967296-p%4294967296) (i:=k+i) (kk:=.i64) (K:=λ_ s=>ee (.i .i64 (.ofNat i)) (.i .i64 (.ofNat 1)) λx83=>lp (λ(_ _ _ _ _ _ _ _:D)(_:LS)=>none) (gZ φ q23) f Y (.i .i64 (.ofNat n)) R Q (.i .i64 (.ofNat k)) (.i .u64 (.ofNat g)) (.i .u64 (.ofNat c')) x83 s) a1 (show k+i<N by omega);rw[z1A]at g1;have ez:dgt rs (k+i)+4294967296-p%4294967296=z':=e1.symm;rw[ez]at g1 g4;obtain⟨bs',rs',k1,k2,k3,k4,k5,k6⟩:=ih (i+1) f b2 _ qs c' nq (g3 _ _ _ _ (a3 _ _ _ _ aY dY) dY) g1 (g3 _ _ _ _ (a3 _ _ _ _ aQ dQ) dQ) (oI hs u1') u2' hnew (λt ht=>by rw[zN (by omega)];exact hz t ht) (by omega) (by omega);refine⟨bs',rs',k1,k2,k3,k4,k5,?_⟩;refine th (fk) (th eP (th (py aY (ki (by omega))) (th (Bo (by omega)) (th (tg (by omega)) ?_))));rw[hP];refine th B2 (th ph (th (fM) (th (py aR hzr) (th (AX hpp) (th (fk hb) (th eP (th (fM) (th (fM) (th (py aR hzr) (th (tg hz4) (th a4 (th (tg (by omega)) (th (fM) (th (fM) ?_))))))))))))));rw[show p/4294967296+1=c' from e2.symm];refine th (py a1 (w:=dgt rs (k+i)+4294967296) (by rw[ao (by omega)])) (th (AX hpp) (th (wS (by omega) hz4) ?_));rw[ez];exact th g4 (th (fM) k6)
  ·obtain⟨e1,e2⟩:=u5 hb;obtain⟨b2,g1,g2,g3,g4⟩:=vB (w:=z') (i:=k+i) (kk:=.i64) (K:=λ_ s=>ee (.i .i64 (.ofNat i)) (.i .i64 (.ofNat 1)) λx83=>lp (λ(_ _ _ _ _ _ _ _:D)(_:LS)=>none) (gZ φ q23) f Y (.i .i64 (.ofNat n)) R Q (.i .i64 (.ofNat k)) (.i .u64 (.ofNat g)) (.i .u64 (.ofNat c')) x83 s) aR (show k+i<N by omega);obtain⟨bs',rs',k1,k2,k3,k4,k5,k6⟩:=ih (i+1) f b2 _ qs c' nq (g3 _ _ _ _ aY dY) g1 (g3 _ _ _ _ aQ dQ) (oI hs u1') u2' hnew (λt ht=>by rw[zN (by omega)];exact hz t ht) (by omega) (by omega);refine⟨bs',rs',k1,k2,k3,k4,k5,?_⟩;refine th (fk) (th eP (th (py aY (ki (by omega))) (th (Bo (by omega)) (th (tg (by omega)) ?_))));rw[hP];refine th B2 (th ph (th (fM) (th (py aR hzr) (th (AX hpp) (th (fy hb) (th eM (th (fM) (th (fM) ?_))))))));rw[show p/4294967296=c' from e2.symm];refine th (py aR hzr) (th (AX hpp) (th (wS (Nat.le_of_not_lt hb) (by omega)) ?_));rw[show dgt rs (k+i)-p%4294967296=z' from e1.symm];exact th g4 (th (fM) k6)
theorem YR{a b:Nat}{s:LS}{K:D→LS→Rs}:kS (.max (.c (.i .u64 (.ofNat a))) (.c (.i .u64 (.ofNat b)))) s K=K (.i .u64 (.ofNat (max a b))) s:=HH
theorem QC{b:Bool}{s:LS}{K:D→LS→Rs}:sX (.b b) s K=K (.b (!b)) s:=by cases b<;>rfl
theorem Q5{rs ys:List Nat}{k n:Nat}(hn:0<n)(hyl:ys.length=n)(hrl:k+n<rs.length)(sy:Sm B32 ys)(hge:vl B32 ys≤vl B32 (rs.drop k)):
 max 1 ((dgt rs (k+n)*4294967296+dgt rs (k+n-1))/(dgt ys (n-1)+1))*(vl B32 ys*B32^k)≤vl B32 rs:=by
 have hsp:=(qq (B:=B32) (rs.take k) (rs.drop k))
 rw[cO,ah,bO (by omega)]at hsp;generalize hG:(dgt rs (k+n)*4294967296+dgt rs (k+n-1))/(dgt ys (n-1)+1)=G;have h1:1*(vl B32 ys*B32^k)≤vl B32 rs:=by
  have:=aL (B32^k) hge;rw[hsp,bE,aK (B32^k)];omega
 have h2:G*(vl B32 ys*B32^k)≤vl B32 rs:=by
  obtain⟨m,rfl⟩:∃m,n=m+1:=⟨n-1,by omega⟩
  rw[show k+(m+1)-1=k+m by omega,a7]at hG;have hy:=(vC ys m).resolve_right (by omega);rw[bh (show ys.length≤m+1 by omega)]at hy;have hyt:=t7 (rV (n:=m) sy);rw[ah,bO (by omega)]at hyt;have hr:=(vC rs (k+m)).resolve_right (by omega);rw[pf rs (k+m+1)]at hr;rw[show k+(m+1)=k+m+1 by omega]at hG;have hdiv:=dF (dgt rs (k+m+1)*4294967296+dgt rs (k+m)) (dgt ys m+1);rw[hG]at hdiv;have hy2:vl B32 ys≤B32^m*(dgt ys m+1):=by rw[hy,show B32*vl B32 ([]:List Nat)=0 from rfl,bH,bA (B32^m) (dgt ys m) 1,ai];omega
  have h3:G*(vl B32 ys*B32^k)≤G*(B32^m*(dgt ys m+1)*B32^k):=aZ _ (aL _ hy2);have h4:G*(B32^m*(dgt ys m+1)*B32^k)=G*(dgt ys m+1)*B32^(k+m):=by
   rw[bY];generalize B32^m=P;generalize B32^k=Q;grind
  have h5:G*(dgt ys m+1)*B32^(k+m)≤(dgt rs (k+m+1)*4294967296+dgt rs (k+m))*B32^(k+m):=aL _ hdiv;have h6:(dgt rs (k+m+1)*4294967296+dgt rs (k+m))*B32^(k+m)≤vl B32 rs:=by
   rw[hr,aK];have h7:B32^(k+m)*(dgt rs (k+m+1)*4294967296+dgt rs (k+m))≤B32^(k+m)*(dgt rs (k+m)+B32*(dgt rs (k+m+1)+B32*vl B32 (rs.drop (k+m+1+1)))):=by
    refine aZ _ ?_;rw[bA B32,aK B32 (dgt rs (k+m+1))];show dgt rs (k+m+1)*B32+_≤_;omega
   omega
  omega
 rcases Nat.le_total 1 G with h|h
 ·rw[z11 h];exact h2
 ·rw[Nat.max_eq_left h];exact h1
theorem RA{ws:List Nat}{m t:Nat}(h:vl B32 ws<B32^m)(ht:m≤t):dgt ws t=0:=by
 by_cases hl:t<ws.length
 ·have h1:=(vC ws t).resolve_right (by omega);rcases bL (dgt ws t)with h0|h0
  ·exact h0
  ·exfalso;have h2:B32^m≤B32^t:=ba (by decide) ht;have h3:B32^t*1≤B32^t*(dgt ws t+B32*vl B32 (ws.drop (t+1))):=aZ _ (by omega);omega
 ·exact UZ (by omega)
theorem Qv{φ k n N a V0:Nat}{Y R Q:D}{ys:List Nat}{nq:Nat}{q16:D→D→D→D→D→LS→Rs}(hn:0<n)(sy:Sm B32 ys)(ty:Tm ys)(hyl:ys.length=n)(hkn:k+n<N)(hN:N≤100000001)(hk:k<nq)(dY:Dis Y R)(dQ:Dis Q R)(dY':Dis Y Q)(dR':Dis R Q)(hφ:1000000000≤φ)(hV0:V0<vl B32 ys*B32^(k+1)):∀(u f:Nat)(bs:List Blk)(rs qs:List Nat),
 WS 1 bs Y (c64 ys) n→WS 1 bs R (c64 rs) N→WS 1 bs Q (c64 qs) nq→Sm B32 rs→Sm B32 qs→vl B32 rs+vl B32 qs*vl B32 ys=a→vl B32 rs+dgt qs k*(vl B32 ys*B32^k)=V0→(∀t,t<k→dgt qs t=0)→B32≤dgt qs k+u→u+1<f→
 ∃bs' rs' qs',WS 1 bs' Y (c64 ys) n∧WS 1 bs' R (c64 rs') N∧WS 1 bs' Q (c64 qs') nq∧Sm B32 rs'∧Sm B32 qs'∧vl B32 rs'+vl B32 qs'*vl B32 ys=a∧vl B32 rs'<vl B32 ys*B32^k∧(∀t,t<k→dgt qs' t=0)∧
 lp (λ(_ _ _ _ _:D)(_:LS)=>none) (jA φ q16) f Y (.i .i64 (.ofNat n)) R Q (.i .i64 (.ofNat k)) (mem bs)=et (.i .i64 (.ofNat k)) (.i .i64 (.ofNat 1)) λx102=>q16 Y (.i .i64 (.ofNat n)) R Q x102 (mem bs'):=by
 intro u;have hy0:0<vl B32 ys:=by
  have h2:=xa (B:=B32) ty (by intro e;rw[e]at hyl;simp at hyl;omega);have:0<B32^(ys.length-1):=bR (by decide);omega
 have hyk:0<vl B32 ys*B32^k:=cW hy0 (bR (by decide))
 induction u with
 |zero=>
  intro f bs rs qs aY aR aQ sr sq h1 h2 h3 h4 h5;exfalso;have:=jF sq (by decide) k;omega
 |succ u ih=>
  intro f bs rs qs aY aR aQ sr sq h1 h2 h3 h4 h5;obtain⟨f,rfl⟩:∃q,f=q+1:=⟨f-1,by omega⟩
  have hrl:=iQ aR;have hql:=iQ aQ;rw[fO]at hrl hql;have hbel:∀ex ex',tQ [.tree (c64 (rs.drop k)) (N-k) ex,.tree (c64 ys) n ex']=some (.b (Nat.blt (vl B32 (rs.drop k)) (vl B32 ys))):=λex ex'=>IA (by rw[cp];omega) hyl (SX sr) sy ty (by omega) (by omega);by_cases hlt:vl B32 (rs.drop k)<vl B32 ys
  ·refine⟨bs,rs,qs,aY,aR,aQ,sr,sq,h1,?_,h3,?_⟩
   ·have hsp:=(qq (B:=B32) (rs.take k) (rs.drop k))
    have hl:=t7 (rV (n:=k) sr);rw[ah,bO (by omega)]at hl;rw[cO,ah,bO (by omega)]at hsp;have:(vl B32 (rs.drop k)+1)*B32^k≤vl B32 ys*B32^k:=aL _ hlt;rw[aP,bE,aK]at this;omega
   ·rw[eO];unfold jA;refine th (Kw aR aY (by omega) hbel rfl) (th QC ?_);rw[ep hlt];rfl
  ·have hge:vl B32 ys≤vl B32 (rs.drop k):=by omega
   have hgl:=Q5 (k:=k) hn hyl (by omega) sy hge;have d1:dgt rs (k+n)<4294967296:=jF sr (by decide) _;have d2:dgt rs (k+n-1)<4294967296:=jF sr (by decide) _;have d3:dgt ys (n-1)<4294967296:=jF sy (by decide) _;generalize hG:max 1 ((dgt rs (k+n)*4294967296+dgt rs (k+n-1))/(dgt ys (n-1)+1))=G at*;have hG1:1≤G:=by rw[←hG];exact Nat.le_max_left _ _
   have hqG:dgt qs k+G<B32:=by
    rcases az (dgt qs k+G) B32 with h|h
    ·exact h
    ·exfalso;have e1:B32*(vl B32 ys*B32^k)≤(dgt qs k+G)*(vl B32 ys*B32^k):=aL _ h;rw[aP]at e1;rw[av]at hV0;have e2:vl B32 ys*(B32^k*B32)=B32*(vl B32 ys*B32^k):=by rw[←aU,aK]
     omega
   have hqG':dgt qs k+G<4294967296:=hqG;have hGB:G<B32:=by show G<4294967296;omega
   obtain⟨b1,g1,g2,g3,g4⟩:=vB (w:=dgt qs k+G) (i:=k) (kk:=.i64) (K:=λ_ s=>lp (λ(_ _ _ _ _ _ _ _:D)(_:LS)=>none) (gZ φ (lp (λ(_ _ _ _ _:D)(_:LS)=>none) (jA φ q16) f)) φ Y (.i .i64 (.ofNat n)) R Q (.i .i64 (.ofNat k)) (.i .u64 (.ofNat G)) (.i .u64 (.ofNat 0)) (.i .i64 (.ofNat 0)) s) aQ hk;have hrlt:vl B32 rs<B32^(k+n+1):=by
    have e1:=t7 sy;rw[hyl]at e1;have e2:vl B32 ys*B32^(k+1)≤B32^n*B32^(k+1):=aL _ (by omega);rw[←bY,show n+(k+1)=k+n+1 by omega]at e2;omega
   obtain⟨b2,rs2,k1,k2,k3,k4,k5,k6⟩:=Yd (φ:=φ) (k:=k) (g:=G) (N:=N) (V:=vl B32 rs) (q23:=lp (λ(_ _ _ _ _:D)(_:LS)=>none) (jA φ q16) f) sy hyl hGB hkn hN (by rw[aU];exact hgl) dY dQ n 0 φ b1 rs (qs.set k (dgt qs k+G)) 0 nq (g3 _ _ _ _ aY dY') (g3 _ _ _ _ aR dR') g1 sr (by decide) (by simp[vl]) (λt ht=>RA hrlt (by omega)) (by omega) (by omega);have hqk:=ki (show k<qs.length by omega);have hvq:=rS (B:=B32) (dgt qs k+G) hqk;have hdk:dgt (qs.set k (dgt qs k+G)) k=dgt qs k+G:=RC (by rw[ao (by omega)]);obtain⟨bs',rs',qs',m1,m2,m3,m4,m5,m6,m7,m8,m9⟩:=ih f b2 rs2 (qs.set k (dgt qs k+G)) k1 k2 k3 k4 (oI sq hqG) (by
    rw[aP]at hvq;have e3:vl B32 (qs.set k (dgt qs k+G))=vl B32 qs+G*B32^k:=by omega
    rw[e3,aP,←h1,←k5,aU,aK (B32^k),←aU G];omega) (by
    rw[hdk,aP,←h2,←k5,←aU G];omega) (λt ht=>by rw[zN (by omega)];exact h3 t ht) (by rw[hdk];omega) (by omega)
   refine⟨bs',rs',qs',m1,m2,m3,m4,m5,m6,m7,m8,?_⟩;rw[eO];unfold jA;refine th (Kw aR aY (by omega) hbel rfl) (th QC ?_);rw[fC hlt];refine th eP (th (fM) (th (py aR (ki (by omega))) (th (Xl d1) (th (fM) (th (gR) (th (py aR (ki (by omega))) (th (tg (by omega)) (th (gR) (th (py aY (ki (by omega))) (th (tg (by omega)) (th (KY (by omega) (by omega)) (th YR ?_))))))))))));rw[hG];refine th (py aQ hqk) (th (tg (by omega)) (th g4 (th k6 m9)))
theorem Qw{φ N nq:Nat}{Y R Q n x:D}{bs:List Blk}{rs qs:List Nat}{q16:D→D→D→D→D→LS→Rs}(aR:WS 1 bs R (c64 rs) N)(aQ:WS 1 bs Q (c64 qs) nq)(sr:Sm B32 rs)(sq:Sm B32 qs)(hN:N≤100000001)(hq:nq≤100000001)(hx:∀k,jt x (.i .i64 (.ofNat 0)) k=k (.b false)):
 fh φ q16 Y n R Q x (mem bs)=some (.tup [.n (vl B32 qs),.n (vl B32 rs)]):=by
 have hrl:=iQ aR;have hql:=iQ aQ;rw[fO]at hrl hql;unfold fh;exact th (hx _) (th eM (th (xL aQ (λex=>sP sq (by omega) (by omega)) rfl) (th (xL aR (λex=>sP sr (by omega) (by omega)) rfl) rfl)))
theorem XH{φ n N a:Nat}{Y R Q:D}{ys:List Nat}{nq:Nat}(hn:0<n)(sy:Sm B32 ys)(ty:Tm ys)(hyl:ys.length=n)(hN:N≤100000001)(hq:nq+n=N)(dY:Dis Y R)(dQ:Dis Q R)(dY':Dis Y Q)(dR':Dis R Q)(hφ:5000000000≤φ):∀(k f:Nat)(bs:List Blk)(rs qs:List Nat),
 WS 1 bs Y (c64 ys) n→WS 1 bs R (c64 rs) N→WS 1 bs Q (c64 qs) nq→Sm B32 rs→Sm B32 qs→vl B32 rs+vl B32 qs*vl B32 ys=a→vl B32 rs<vl B32 ys*B32^(k+1)→(∀t,t<k+1→dgt qs t=0)→k<nq→k+2<f→
 lp (λ(_ _ _ _ _:D)(_:LS)=>none) (fh φ) f Y (.i .i64 (.ofNat n)) R Q (.i .i64 (.ofNat k)) (mem bs)=some (.tup [.n (a/vl B32 ys),.n (a%vl B32 ys)]):=by
 intro k
 induction k with
 |zero=>
  intro f bs rs qs aY aR aQ sr sq h1 h2 h3 h4 h5;obtain⟨f,rfl⟩:∃q,f=q+2:=⟨f-2,by omega⟩
  obtain⟨bs',rs',qs',m1,m2,m3,m4,m5,m6,m7,m8,m9⟩:=Qv (φ:=φ) (k:=0) (N:=N) (nq:=nq) (q16:=lp (λ(_ _ _ _ _:D)(_:LS)=>none) (fh φ) (f+1)) hn sy ty hyl (by omega) hN h4 dY dQ dY' dR' (by omega) h2 B32 φ bs rs qs aY aR aQ sr sq h1 (by rw[h3 0 (by omega)];simp) (λt ht=>by omega) (z1C _ _) (by show 4294967296+1<φ;omega);rw[eO];unfold fh;refine th (qC (by omega)) (th eP (th m9 (th (nJ (by omega) (by omega)) ?_)));rw[eO];refine th (Qw m2 m3 m4 m5 hN (by omega) (λk=>pJ)) ?_;rw[ce,ai]at m7;have e1:a/vl B32 ys=vl B32 qs':=by
   rw[←m6,aK,z17 _ _ (by omega),cL m7,aV]
  have e2:a%vl B32 ys=vl B32 rs':=by
   rw[←m6,Nat.add_mul_mod_self_right,bJ m7]
  rw[e1,e2]
 |succ k ih=>
  intro f bs rs qs aY aR aQ sr sq h1 h2 h3 h4 h5;obtain⟨f,rfl⟩:∃q,f=q+1:=⟨f-1,by omega⟩
  obtain⟨bs',rs',qs',m1,m2,m3,m4,m5,m6,m7,m8,m9⟩:=Qv (φ:=φ) (k:=k+1) (N:=N) (nq:=nq) (q16:=lp (λ(_ _ _ _ _:D)(_:LS)=>none) (fh φ) f) hn sy ty hyl (by omega) hN h4 dY dQ dY' dR' (by omega) h2 B32 φ bs rs qs aY aR aQ sr sq h1 (by rw[h3 (k+1) (by omega)];simp) (λt ht=>h3 t (by omega)) (z1C _ _) (by show 4294967296+1<φ;omega);rw[eO];unfold fh;refine th (qC (by omega)) (th eP (th m9 (th (gR) ?_)));rw[a7];exact ih f bs' rs' qs' m1 m2 m3 m4 m5 m6 m7 m8 (by omega) (by omega)
theorem Pj{a b:Nat}{s:LS}{K:D→LS→Rs}(ha:a<4611686018427387904)(hb:b<4611686018427387904):(et (.i .i64 (.ofNat a)) (.i .i64 (.ofNat b)) λx=>ee x (.i .i64 (.ofNat 1)) λx=>kS (.max (.c (.i .i64 (.ofNat 0))) (.c x)) s K)=K (.i .i64 (.ofNat (a+1-b))) s:=by
 by_cases h:b≤a
 ·rw[oM h (by show a≤9223372036854775807;omega),fM,HH,z11 (a9 _),show a-b+1=a+1-b by omega]
 ·rw[nJ h hb];obtain⟨c,hc⟩:∃c,b-a-1=c:=⟨_,rfl⟩
  rw[hc];have:∀k,ee (.i .i64 (.negSucc c)) (.i .i64 (.ofNat 1)) k=k (.i .i64 (-(c:Int))):=by
   intro k;show fV .add (.i .i64 (.negSucc c)) (.i .i64 (.ofNat 1)) k=_;unfold fV;rw[show bin .add (.i .i64 (.negSucc c)) (.i .i64 (.ofNat 1))=some (.i .i64 (-(c:Int)))from ?_,gS]
   ·rfl
   ·show some (D.i .i64 (IntKind.wrap .i64 ((Int.negSucc c)+(Int.ofNat 1))))=_;have e:(Int.negSucc c)+(Int.ofNat 1)= -(c:Int):=by
     show(Int.negSucc c)+((1:Nat):Int)=_;rw[dc];omega
    rw[e,IntWalk.i64_in _ (by omega)]
  rw[this,Pk,aE (by show ¬(0:Int)< -(c:Int);omega),show a+1-b=0 by omega]
theorem XX{z n:Nat}{bs bs':List Blk}{X O:D}{cs:List D}(hA:AS z bs X cs n)(hk:∀l b,bs[l]?=some b→bs'[l]?=some b∧kI O l):AS z bs' X cs n∧Dis X O:=by
 cases hA with
 |nil=>exact⟨AS.nil,λl o n m z e h=>by cases h⟩
 |blk h hc=>exact⟨AS.blk (hk _ _ h).1 hc,λl o n m z e he=>by cases he;exact(hk _ _ h).2⟩
theorem F4{a b:Nat}{k:D→Rs}:gx (.n a) (.n b) k=k (.b (Nat.beq a b)):=by
 show fV .eql (.n a) (.n b) k=_;unfold fV;rw[gS];rfl
theorem Fk{φ x y:Nat}(hx:Nat.log2 x≤1000000000)(hy:Nat.log2 y≤1000000000)(hφ:5000000000≤φ):n5 φ [.n x,.n y]=some (.tup [.n (x/y),.n (if y=0 then 0 else x%y)]):=by
 unfold n5;dsimp only[eV,eZ];rw[←fm];refine th F4 ?_;by_cases h0:y=0
 ·subst h0;rw[aC rfl,Nat.div_zero];rfl
 rw[aE h0,gG h0];refine th eM ?_;obtain⟨b1,X,h1,h2,h3⟩:=rK (bs:=[]) (K:=λx4 s=>eR p6 [.n y] s λx5 s=>ek x5 s λx6 s=>jY 1 [(.i .u64 (.ofNat 0))] [(0,1,(.i .u64 (.ofNat 0)))] s λx7 s=>mF 1 8 s x4 x7 λx8 s=>ek x4 s λx9 s=>et x9 x6 λx10=>ee x10 (.i .i64 (.ofNat 1)) λx11=>kS (.max (.c (.i .i64 (.ofNat 0))) (.c x11)) s λx12 s=>mK 1 8 [(.i .u64 (.ofNat 0))] s x12 x12 λx13 s=>ek x13 s λx14 s=>et x14 (.i .i64 (.ofNat 1)) λx15=>lp (λ(_ _ _ _ _:D)(_:LS)=>none) (fh φ) φ x5 x6 x8 x13 x15 s) hx;refine th h3 ?_;obtain⟨b2,Y,g1,g2,g3⟩:=rK (bs:=b1) (K:=λx5 s=>ek x5 s λx6 s=>jY 1 [(.i .u64 (.ofNat 0))] [(0,1,(.i .u64 (.ofNat 0)))] s λx7 s=>mF 1 8 s X x7 λx8 s=>ek X s λx9 s=>et x9 x6 λx10=>ee x10 (.i .i64 (.ofNat 1)) λx11=>kS (.max (.c (.i .i64 (.ofNat 0))) (.c x11)) s λx12 s=>mK 1 8 [(.i .u64 (.ofNat 0))] s x12 x12 λx13 s=>ek x13 s λx14 s=>et x14 (.i .i64 (.ofNat 1)) λx15=>lp (λ(_ _ _ _ _:D)(_:LS)=>none) (fh φ) φ x5 x6 x8 x13 x15 s) hy;refine th g3 ?_;have l1:=xz hx;have l2:=xz hy;have vx:=vO (B:=B32) (by decide) x;have vy:=vO (B:=B32) (by decide) y;have sx:=xd (B:=B32) (by decide) x;have sy:=xd (B:=B32) (by decide) y;have tx:=HM (B:=B32) (by decide) x;have ty:=HM (B:=B32) (by decide) y;have hXlen:∀(K:D→LS→Rs) s,ek X s K=K (.i .i64 (.ofNat (lm B32 x).length)) s:=λ_ _=>Jp h1;obtain⟨aX,dXY⟩:=XX h1 g2;have dYX:Dis Y X:=λl o n m z e he o' n' m' z' e' he'=>dXY _ _ _ _ _ _ he' _ _ _ _ _ he;generalize hnx:(lm B32 x).length=nx at*;generalize hny:(lm B32 y).length=ny at*;generalize lm B32 x=xs at*;generalize lm B32 y=ys at*;refine th (Jp g1) ?_;obtain⟨b3,R,r1,r2,r3⟩:=ap1 (K:=λx8 s=>ek X s λx9 s=>et x9 (.i .i64 (.ofNat ny)) λx10=>ee x10 (.i .i64 (.ofNat 1)) λx11=>kS (.max (.c (.i .i64 (.ofNat 0))) (.c x11)) s λx12 s=>mK 1 8 [(.i .u64 (.ofNat 0))] s x12 x12 λx13 s=>ek x13 s λx14 s=>et x14 (.i .i64 (.ofNat 1)) λx15=>lp (λ(_ _ _ _ _:D)(_:LS)=>none) (fh φ) φ Y (.i .i64 (.ofNat ny)) x8 x13 x15 s) (zero:=[(.i .u64 (.ofNat 0))]) (x:=n64 0) (new:=c64 [0]) (bytes:=8) aX rfl rfl rfl rfl (by omega) (by omega);refine th r3 (th (hXlen _ _) (th (Pj (by omega) (by omega)) ?_));rw[Fs]at r1;obtain⟨aY3,dYR⟩:=E5 g1.ws dYX r2;generalize hnq:nx+1-ny=nq;refine th (HE rfl (by omega) (by omega)) (th AY ?_);rw[rC,uk];have hnew:∀l b,b3[l]?=some b→(b3++[⟨c64 (List.replicate nq 0),.rw⟩])[l]?=some b∧kI (.sl b3.length 0 nq nq 1 true) l:=λl b h=>⟨by rw[bQ (fE h)];exact h,λo n m z e he=>by have:=fE h;injection he with h1;omega⟩
 obtain⟨aY,dYQ⟩:=xg aY3 hnew;obtain⟨aR,dRQ⟩:=xg r1.ws hnew;have dQR:Dis (.sl b3.length 0 nq nq 1 true) R:=λl o n m z e he o' n' m' z' e' he'=>dRQ _ _ _ _ _ _ he' _ _ _ _ _ he;have hv0:vl B32 (xs++[0])=x:=by rw[qq,vx];simp[vl]
 have hs0:Sm B32 (xs++[0]):=IU sx (Ec (by decide));have hny0:0<ny:=by
  rcases bL ny with h|h
  ·exfalso;have:ys=[]:=a8 (by omega);rw[this]at vy;exact h0 vy.symm
  ·exact h
 have hyge:=xa (B:=B32) ty (by intro e;rw[e]at hny;simp at hny;omega);rw[vy,hny]at hyge;have hxlt:=t7 sx;rw[vx,hnx]at hxlt;have aQ:WS 1 (b3++[⟨c64 (List.replicate nq 0),.rw⟩]) (.sl b3.length 0 nq nq 1 true) (c64 (List.replicate nq 0)) nq:=WS.blk (by simp) (by rw[fO];simp) (aD _);cases nq with
 |zero=>
  refine th (nJ (by omega) (by omega)) ?_;obtain⟨φ,rfl⟩:∃q,φ=q+1:=⟨φ-1,by omega⟩
  rw[eO];refine th (Qw aR aQ hs0 (zb (by decide)) (by omega) (by omega) (λk=>pJ)) ?_;have hlt:x<y:=by
   have:B32^nx≤B32^(ny-1):=ba (by decide) (by omega);omega
  rw[hv0,cL hlt,bJ hlt];rfl
 |succ nq=>
  refine th (gR) ?_;rw[a7];refine th (XH (a:=x) (N:=nx+1) (nq:=nq+1) hny0 sy ty hny (by omega) (by omega) dYR dQR dYQ dRQ hφ nq φ _ (xs++[0]) (List.replicate (nq+1) 0) aY aR aQ hs0 (zb (by decide)) (by rw[hv0,yW];simp) ?_ (λt ht=>?_) (by omega) (by omega)) ?_
  ·rw[hv0,vy];have e1:B32^(ny-1)*B32^(nq+1)≤y*B32^(nq+1):=aL _ hyge;rw[←bY,show ny-1+(nq+1)=nx by omega]at e1;omega
  ·unfold dgt;rw[aH];cases h:(List.replicate (nq+1) 0)[t]?with
   |none=>rfl
   |some w=>exact de (bU h)
  ·rw[vy]
theorem DU{as:List D}{r:D}(h:oP as=some r):∃φ,n5 φ as=some r:=by
 obtain⟨x,y,rfl,hx,hy,h⟩:=wR h;refine⟨5000000000,?_⟩;rw[Fk hx hy (aD _),←h];by_cases h0:y=0
 ·subst h0;rw[aC rfl,Nat.div_zero];rfl
 ·rw[aE h0,gG h0,e9,fA,fA];rfl
theorem QE{a b:Nat}{k:D→Rs}:mE (.n a) (.n b) k=k (.b (!(Nat.beq a b))):=by
 show fV .neq (.n a) (.n b) k=_;unfold fV;rw[gS];rfl
theorem Q8{φ:Nat}:∀(k x y f:Nat)(s:LS),Nat.log2 x≤1000000000→Nat.log2 y≤1000000000→y≤k→k+1<f→lp (λ(_ _:D)(_:LS)=>none) (tU φ) f (.n x) (.n y) s=some (.n (Nat.gcd x y)):=by
 intro k
 induction k with
 |zero=>
  intro x y f s hx hy hk hf;obtain⟨f,rfl⟩:∃q,f=q+1:=⟨f-1,by omega⟩
  have:y=0:=by omega
  subst this;rw[eO];refine th QE ?_;rw[d5];rfl
 |succ k ih=>
  intro x y f s hx hy hk hf;obtain⟨f,rfl⟩:∃q,f=q+1:=⟨f-1,by omega⟩
  rw[eO];refine th QE ?_;by_cases h0:y=0
  ·subst h0;rw[d5];rfl
  ·rw[gG h0];have e0:oP [.n x,.n y]=some (.tup [.n (x/y),.n (x%y)]):=by
    show sz1 x (sz1 y _)=_;unfold sz1;rw[aF hx,aF hy,eL,eL];show cnd (Nat.beq y 0) _ _=_;rw[gG h0,e9,fA,fA];rfl
   have hlt:=bg x (show 0<y by omega);refine th eP (th (fP e0) (th mS (th mR ?_)));refine th (ih y (x%y) f s hy ?_ (by omega) (by omega)) ?_
   ·by_cases hm:x%y=0
    ·rw[hm];decide
    ·have:=(z0U h0).2 (bT (z10 hm) (dN hlt));omega
   ·rw[dO y,←z1G,dO]
theorem J1{as:List D}{r:D}(h:vr as=some r):∃φ,ry φ as=some r:=by
 obtain⟨x,y,rfl,hx,hy,h⟩:=wR h;refine⟨y+2,?_⟩;unfold ry;dsimp only[eV,eZ];rw[fA]at h;exact th (Q8 y x y (y+2) s0 hx hy (aD _) (by omega)) h
set_option maxRecDepth 10000
section
variable {x y:Bool} {a b m n k:Nat} {z w:Int} {p q:Rat} {φ:Nat}
theorem Jw(z:Int)(n:Nat):zt (decide (z<0)) (z.natAbs*n)=z*n:=by
 have:=JF z (n:Int);rwa[dl,aN (show ¬(n:Int)<0 by omega),show(decide (z<0) != false)=decide (z<0) by cases decide (z<0)<;>rfl]at this
theorem yH{v:Bool}{c:Nat}(h:zt v c=z):(D.agg [.b (v&& !(Nat.beq c 0)),.n c])=.agg [.b (decide (z<0)),.n z.natAbs]:=zB h
theorem Cu(p q:Rat):p+q=mkRat (p.num*q.den+q.num*p.den) (p.den*q.den):=by rw[Rat.add_def,Rat.normalize_eq_mkRat]
theorem FN(p q:Rat):p*q=mkRat (p.num*q.num) (p.den*q.den):=by rw[Rat.mul_def,Rat.normalize_eq_mkRat]
theorem Er(z:Int):rc (mkRat z 1)=.agg [.b (decide (z<0)),.n z.natAbs,.n 1]:=by
 have e1:(mkRat z 1).num=z:=by rw[Rat.num_mkRat,aE (by omega),Nat.gcd_one_left];simp
 have e2:(mkRat z 1).den=1:=by rw[Rat.den_mkRat,aE (by omega),Nat.gcd_one_left]
 unfold rc;rw[e1,e2]
theorem Ox:mV φ [.agg [.b x,.n a]]=some (.agg [.b x,.n a,.n 1]):=by cases x<;>kernel_rfl
theorem In(hz:Lg KA z.natAbs)(hb:Lg KA b)(h0:b≠0)(hφ:3000000000≤φ):n6 φ [.agg [.b (decide (z<0)),.n z.natAbs],.agg [.b false,.n b]]=some (rc (mkRat z b)):=by
 have:=YF (x:=decide (z<0)) hz hb h0 hφ;rwa[Jv]at this
theorem Au{j k:Nat}(hz:Lg j z.natAbs)(hn:Lg k n):Lg (j+k+1) (z*(n:Int)).natAbs:=by
 rw[dw,dl];exact iB hz hn
theorem FU{j:Nat}(hz:Lg j z.natAbs)(hw:Lg j w.natAbs):Lg (j+1) (z+w).natAbs:=p8 (wa hz hw) (Int.natAbs_add_le z w)
theorem YH(hp:Qz KB p)(hq:Qz KB q)(hφ:3000000000≤φ):o8 φ [rc p,rc q]=some (rc (p+q)):=by
 have hpn:=p.den_nz;have hqn:=q.den_nz;have iA:∀s K,eR uC [.agg [.b (decide (p.num<0)),.n p.num.natAbs],.agg [.b (decide (q.num<0)),.n q.num.natAbs]] s K=K (.agg [.b (decide (p.num+q.num<0)),.n (p.num+q.num).natAbs]) s:=qx (A4 (ew hp.1 (by decide)) (ew hq.1 (by decide))) rfl;have iW:∀(x:Bool)(a:Nat) s K,eR (mV φ) [.agg [.b x,.n a]] s K=K (.agg [.b x,.n a,.n 1]) s:=λx a=>yJ Ox rfl;by_cases hd:p.den=q.den
 ·by_cases h1:p.den=1
  ·have e:p+q=mkRat (p.num+q.num) 1:=by rw[Cu,←hd,h1];simp
   rw[e,Er];unfold o8 rc;simp -implicitDefEqProofs only[eV,eZ,ff,jB,qW,kD,kq,lO,qS,List.all_cons,List.all_nil,one,Bool.and_self,List.length_nil,List.length_cons,List.nil_append,List.cons_append,List.getElem?_cons_zero,List.getElem?_cons_succ,gN,gQ,mT,eL,sF,nz,Nat.zero_add,Nat.reduceAdd,List.set_cons_zero,List.set_cons_succ,qR,uA,qY,qX,qZ,ej,Mp,lL,lK,re3,List.drop_zero,iA,iW,←hd,h1]
  ·have e:p+q=mkRat (p.num+q.num) p.den:=by
    rw[Cu,←hd,←Int.add_mul,Rat.mkRat_mul_right hpn]
   have iM:=In (φ:=φ) (z:=p.num+q.num) (b:=p.den) (ew (FU hp.1 hq.1) (by decide)) (ew hp.2 (by decide)) hpn hφ;rw[←e]at iM;have iM':=qx iM rfl;unfold rc at iM';unfold o8 rc;simp -implicitDefEqProofs only[eV,eZ,ff,jB,qW,kD,kq,lO,qS,List.all_cons,List.all_nil,one,Bool.and_self,List.length_nil,List.length_cons,List.nil_append,List.cons_append,List.getElem?_cons_zero,List.getElem?_cons_succ,gN,gQ,mT,eL,e9,sF,nz,Nat.zero_add,Nat.reduceAdd,List.set_cons_zero,List.set_cons_succ,qR,uA,qY,qX,qZ,ej,Mp,lL,lK,re3,List.drop_zero,iA,iM',←hd,gG h1]
 ·have i1:∀s K,eR ms [.n p.num.natAbs,.n q.den] s K=K (.n (p.num.natAbs*q.den)) s:=λs K=>qK (tH (ew hp.1 (by decide)) (ew hq.2 (by decide)));have i2:∀s K,eR ms [.n q.num.natAbs,.n p.den] s K=K (.n (q.num.natAbs*p.den)) s:=λs K=>qK (tH (ew hq.1 (by decide)) (ew hp.2 (by decide)));have i3:∀s K,eR ms [.n p.den,.n q.den] s K=K (.n (p.den*q.den)) s:=λs K=>qK (tH (ew hp.2 (by decide)) (ew hq.2 (by decide)));have i4:∀s K,eR (fU φ) [.b (decide (p.num<0)),.n (p.num.natAbs*q.den)] s K=K (.agg [.b (decide (p.num*q.den<0)),.n (p.num*(q.den:Int)).natAbs]) s:=λs K=>by rw[yj,yH (Jw p.num q.den)]
  have i5:∀s K,eR (fU φ) [.b (decide (q.num<0)),.n (q.num.natAbs*p.den)] s K=K (.agg [.b (decide (q.num*p.den<0)),.n (q.num*(p.den:Int)).natAbs]) s:=λs K=>by rw[yj,yH (Jw q.num p.den)]
  have l1:Lg (KB+KB+1) (p.num*(q.den:Int)).natAbs:=Au hp.1 hq.2;have l2:Lg (KB+KB+1) (q.num*(p.den:Int)).natAbs:=Au hq.1 hp.2;have i6:∀s K,eR uC [.agg [.b (decide (p.num*q.den<0)),.n (p.num*(q.den:Int)).natAbs],.agg [.b (decide (q.num*p.den<0)),.n (q.num*(p.den:Int)).natAbs]] s K=K (.agg [.b (decide (p.num*q.den+q.num*p.den<0)),.n (p.num*(q.den:Int)+q.num*(p.den:Int)).natAbs]) s:=qx (A4 (ew l1 (by decide)) (ew l2 (by decide))) rfl;have iM:=In (φ:=φ) (z:=p.num*q.den+q.num*p.den) (b:=p.den*q.den) (ew (FU l1 l2) (by decide)) (ew (iB hp.2 hq.2) (by decide)) (z0H hpn hqn) hφ;rw[←Cu]at iM;have iM':=qx iM rfl;unfold rc at iM';unfold o8 rc;simp -implicitDefEqProofs only[eV,eZ,ff,jB,qW,kD,kq,lO,qS,List.all_cons,List.all_nil,one,Bool.and_self,List.length_nil,List.length_cons,List.nil_append,List.cons_append,List.getElem?_cons_zero,List.getElem?_cons_succ,gN,gQ,mT,eL,e9,sF,nz,Nat.zero_add,Nat.reduceAdd,List.set_cons_zero,List.set_cons_succ,qR,CC,uA,qY,qX,qZ,ej,Mp,lL,lK,re3,List.drop_zero,i1,i2,i3,i4,i5,i6,iM',gG hd]
theorem Oz(hp:Qz KB p)(hq:Qz KB q)(hφ:3000000000≤φ):lk φ [rc p,rc q]=some (rc (p*q)):=by
 have hpn:=p.den_nz;have hqn:=q.den_nz;have iA:∀s K,eR vp [.agg [.b (decide (p.num<0)),.n p.num.natAbs],.agg [.b (decide (q.num<0)),.n q.num.natAbs]] s K=K (.agg [.b (decide (p.num*q.num<0)),.n (p.num*q.num).natAbs]) s:=qx (H4 (ew hp.1 (by decide)) (ew hq.1 (by decide))) rfl;have iW:∀(x:Bool)(a:Nat) s K,eR (mV φ) [.agg [.b x,.n a]] s K=K (.agg [.b x,.n a,.n 1]) s:=λx a=>yJ Ox rfl;have i3:∀s K,eR ms [.n p.den,.n q.den] s K=K (.n (p.den*q.den)) s:=λs K=>qK (tH (ew hp.2 (by decide)) (ew hq.2 (by decide)));have l1:Lg (KB+KB+1) (p.num*q.num).natAbs:=by rw[dw];exact iB hp.1 hq.1
 have iM:=In (φ:=φ) (z:=p.num*q.num) (b:=p.den*q.den) (ew l1 (by decide)) (ew (iB hp.2 hq.2) (by decide)) (z0H hpn hqn) hφ;rw[←FN]at iM;have iM':=qx iM rfl;unfold rc at iM';by_cases h1:p.den=1
 ·by_cases h2:q.den=1
  ·have e:p*q=mkRat (p.num*q.num) 1:=by rw[FN,h1,h2]
   rw[e,Er];unfold lk rc;simp -implicitDefEqProofs only[eV,eZ,ff,jB,qW,kD,kq,lO,qS,List.all_cons,List.all_nil,one,Bool.and_self,List.length_nil,List.length_cons,List.nil_append,List.cons_append,List.getElem?_cons_zero,List.getElem?_cons_succ,gN,gQ,mT,eL,e9,sF,nz,ri,re,Nat.zero_add,Nat.reduceAdd,List.set_cons_zero,List.set_cons_succ,qR,uA,qY,qX,qZ,ej,lL,lK,re3,List.drop_zero,wv,iA,iW,h1,h2]
  ·unfold lk rc;rw[h1]at i3 iM' ⊢;simp -implicitDefEqProofs only[eV,eZ,ff,jB,qW,kD,kq,lO,qS,List.all_cons,List.all_nil,one,Bool.and_self,List.length_nil,List.length_cons,List.nil_append,List.cons_append,List.getElem?_cons_zero,List.getElem?_cons_succ,gN,gQ,mT,eL,e9,sF,nz,ri,re,Nat.zero_add,Nat.reduceAdd,List.set_cons_zero,List.set_cons_succ,qR,uA,qY,qX,qZ,ej,Mp,lL,lK,re3,List.drop_zero,wv,iA,i3,iM',gG h2]
 ·unfold lk rc;simp -implicitDefEqProofs only[eV,eZ,ff,jB,qW,kD,kq,lO,qS,List.all_cons,List.all_nil,one,Bool.and_self,List.length_nil,List.length_cons,List.nil_append,List.cons_append,List.getElem?_cons_zero,List.getElem?_cons_succ,gN,gQ,mT,eL,e9,sF,nz,ri,re,Nat.zero_add,Nat.reduceAdd,List.set_cons_zero,List.set_cons_succ,qR,uA,qY,qX,qZ,ej,Mp,lL,lK,re3,List.drop_zero,Cm,iA,i3,iM',gG h1]
theorem ZW:tV φ [rc p]=some (rc (-p)):=by
 have i1:∀s K,eR xM [.agg [.b (decide (p.num<0)),.n p.num.natAbs]] s K=K (.agg [.b (decide (-p.num<0)),.n (-p.num).natAbs]) s:=yJ H2 rfl;unfold tV rc;rw[z1I,z1J];simp -implicitDefEqProofs only[eV,eZ,ff,jB,qW,kD,kq,lO,qS,List.all_cons,List.all_nil,one,Bool.and_self,List.length_nil,List.length_cons,List.nil_append,List.cons_append,List.getElem?_cons_zero,List.getElem?_cons_succ,gN,gQ,mT,eL,Nat.zero_add,Nat.reduceAdd,List.set_cons_zero,List.set_cons_succ,qR,uA,qY,qX,qZ,ej,kb3,lL,lK,re3,List.drop_zero,i1]
theorem Xw(hp:Qz KB p)(hq:Qz KB q)(hφ:3000000000≤φ):rO φ [rc p,rc q]=some (rc (p-q)):=by
 have h1:=wj (ZW (φ:=φ) (p:=q)) rfl;have hq':Qz KB (-q):=⟨by rw[z1I,Int.natAbs_neg];exact hq.1,by rw[z1J];exact hq.2⟩
 have h2:=F6 (YH hp hq' hφ) rfl;rw[←z1m]at h2;unfold rc at h1 h2;unfold rO rc;simp -implicitDefEqProofs only[eV,eZ,ff,jB,qW,lO,qS,List.all_cons,List.all_nil,one,Bool.and_self,List.length_nil,List.length_cons,List.nil_append,List.cons_append,List.getElem?_cons_zero,List.getElem?_cons_succ,gN,gQ,mT,eL,Nat.zero_add,Nat.reduceAdd,List.set_cons_zero,List.set_cons_succ,qR,uA,qY,qX,qZ,ej,lL,lK,re3,List.drop_zero,h1,h2]
theorem wX:p.num.natAbs=0↔p=0:=by
 constructor
 ·intro h;exact Rat.ext (by show p.num=0;omega) (by
   have:=p.reduced;rw[h]at this;simpa using this)
 ·rintro rfl;rfl
theorem Ub:Nat.beq p.num.natAbs 0=decide (p=0):=by
 rw[R6];by_cases h:p=0
 ·rw[aS h,aS (wX.2 h)]
 ·rw[aN h,aN (λh'=>h (wX.1 h'))]
theorem rZ:jM φ [rc p]=some (.b (decide (p=0))):=by
 unfold jM rc;simp -implicitDefEqProofs only[eV,eZ,ff,jB,kD,kq,List.all_cons,List.all_nil,one,Bool.and_self,List.length_nil,List.nil_append,List.getElem?_cons_zero,List.getElem?_cons_succ,gN,gQ,eL,sF,Nat.zero_add,rP,Ub]
theorem PA:pF φ [rc p]=some (.b (Nat.beq p.den 1)):=by
 unfold pF rc;simp -implicitDefEqProofs only[eV,eZ,ff,jB,kD,kq,List.all_cons,List.all_nil,one,Bool.and_self,List.length_nil,List.nil_append,List.getElem?_cons_zero,List.getElem?_cons_succ,gN,gQ,eL,sF,Nat.zero_add,rP]
theorem Ky(h:p≠0):(p⁻¹).num=zt (decide (p.num<0)) p.den∧(p⁻¹).den=p.num.natAbs:=by
 have hn:p.num≠0:=λe=>h (wX.1 (by omega));rw[Rat.num_inv,Rat.den_inv,aE hn];refine⟨?_,rfl⟩;unfold zt;by_cases h0:p.num<0
 ·rw[aS h0,aC rfl,Int.sign_eq_neg_one_of_neg h0];omega
 ·rw[aN h0,aE (by simp),Int.sign_eq_one_of_pos (by omega)];omega
theorem O7(h:p≠0):rc p⁻¹=.agg [.b (decide (p.num<0)),.n p.den,.n p.num.natAbs]:=by
 obtain⟨h1,h2⟩:=Ky h;have:=p.den_nz;unfold rc;rw[h1,h2,vZ,E4,R6,aN this];simp
theorem Gj(h:p≠0):mJ φ [rc p]=some (rc p⁻¹):=by
 rw[O7 h];unfold mJ rc;simp -implicitDefEqProofs only[eV,eZ,ff,jB,qW,kD,kq,lO,qS,List.all_cons,List.all_nil,one,Bool.and_self,List.length_nil,List.length_cons,List.nil_append,List.cons_append,List.getElem?_cons_zero,List.getElem?_cons_succ,gN,gQ,mT,eL,Nat.zero_add,Nat.reduceAdd,List.set_cons_zero,List.set_cons_succ,qR,uA,qY,qX,qZ,ej,kb3,kb2,lL,lK,re3,List.drop_zero]
theorem PB:mW φ [.i .i64 (.ofNat 0)]=some (rc 0):=by kernel_rfl
theorem YG:mW φ [.i .i64 (.ofNat 1)]=some (rc 1):=by kernel_rfl
theorem Ot(h:Qz k p):Qz k (-p):=⟨by rw[z1I,Int.natAbs_neg];exact h.1,by rw[z1J];exact h.2⟩
end
section
variable {x y:Bool} {a b m n k:Nat} {z w:Int} {p q:Rat} {φ:Nat}
theorem BV{k:Nat→Nat→Rs}(ha:Lg KA a)(hb:Lg KA b):two [.n a,.n b] k=k a b:=by
 show sz1 a (sz1 b (k a b))=_;unfold sz1;rw[aF ha,aF hb];rfl
theorem N4(ha:Lg KA a)(hb:Lg KA b):yQ [.n a,.n b]=some (.n (a+b)):=by unfold yQ;rw[BV ha hb,fA];rfl
theorem D6(ha:Lg KA a)(hb:Lg KA b):v9 [.n a,.n b]=some (.n (a-b)):=by unfold v9;rw[BV ha hb,fA];rfl
theorem Me(ha:Lg KA a)(hb:Lg KA b):xt [.n a,.n b]=some (.n (a*b)):=by unfold xt;rw[BV ha hb,fA];rfl
theorem EM(ha:Lg KA a)(hb:Lg KA b):vr [.n a,.n b]=some (.n (Nat.gcd a b)):=by unfold vr;rw[BV ha hb,fA]
theorem zM(ha:Lg KA a)(hb:Lg KA b)(h0:b≠0):oP [.n a,.n b]=some (.tup [.n (a/b),.n (a%b)]):=by
 unfold oP;rw[BV ha hb,gG h0,e9,fA,fA];rfl
theorem xH(x:Bool)(a:Nat):∀s K,eR (gp φ) [.b x,.n a] s K=K (.agg [.b (x&& !(Nat.beq a 0)),.n a]) s:=λs K=>yI (by
 unfold gp;cases x<;>simp -implicitDefEqProofs only[eV,eZ,ff,qW,lO,qS,List.length_nil,List.length_cons,List.nil_append,List.getElem?_cons_zero,gN,gQ,mT,eL,e9,Gv,ri,re,Nat.zero_add,Nat.reduceAdd,List.set_cons_zero,qR,CC,qY,qX,qZ,ej,kb2,lL,lK,re2,List.drop_zero,wv,Cm,Bool.false_and,Bool.true_and])
theorem Oi(hz:Lg KA z.natAbs)(hw:Lg KA w.natAbs):gV φ [.agg [.b (decide (z<0)),.n z.natAbs],.agg [.b (decide (w<0)),.n w.natAbs]]=some (.agg [.b (decide (z*w<0)),.n (z*w).natAbs]):=by
 have i1:∀s K,eR xt [.n z.natAbs,.n w.natAbs] s K=K (.n (z.natAbs*w.natAbs)) s:=λs K=>qK (Me hz hw);have e:=yH (JF z w);unfold gV;simp -implicitDefEqProofs only[eV,eZ,ff,jB,qW,kD,kq,lO,qS,List.all_cons,List.all_nil,one,Bool.and_self,List.length_nil,List.length_cons,List.nil_append,List.cons_append,List.getElem?_cons_zero,List.getElem?_cons_succ,gN,gQ,mT,eL,Nat.zero_add,Nat.reduceAdd,List.set_cons_zero,List.set_cons_succ,qR,CC,qY,qX,qZ,ej,Lk,lL,lK,re2,List.drop_zero,i1,xH,e]
theorem Oq(hz:Lg KA z.natAbs)(hw:Lg KA w.natAbs):jf φ [.agg [.b (decide (z<0)),.n z.natAbs],.agg [.b (decide (w<0)),.n w.natAbs]]=some (.agg [.b (decide (z+w<0)),.n (z+w).natAbs]):=by
 have i1:∀s K,eR yQ [.n z.natAbs,.n w.natAbs] s K=K (.n (z.natAbs+w.natAbs)) s:=λs K=>qK (N4 hz hw);have i2:∀s K,eR v9 [.n z.natAbs,.n w.natAbs] s K=K (.n (z.natAbs-w.natAbs)) s:=λs K=>qK (D6 hz hw);have i3:∀s K,eR v9 [.n w.natAbs,.n z.natAbs] s K=K (.n (w.natAbs-z.natAbs)) s:=λs K=>qK (D6 hw hz);by_cases h:decide (z<0)=decide (w<0)
 ·have e:=yH (z:=z+w) (v:=decide (z<0)) (c:=z.natAbs+w.natAbs) (by
   unfold zt;by_cases h1:z<0
   ·have h2:w<0:=by rw[aS h1]at h;exact cg h.symm
    rw[aS h1,aC rfl];omega
   ·have h2:¬w<0:=by rw[aN h1]at h;exact of_decide_eq_false h.symm
    rw[aN h1,aE (by simp)];omega)
  unfold jf;rw[←h];simp -implicitDefEqProofs only[eV,eZ,ff,jB,qW,kD,kq,lO,qS,List.all_cons,List.all_nil,one,Bool.and_self,List.length_nil,List.length_cons,List.nil_append,List.cons_append,List.getElem?_cons_zero,List.getElem?_cons_succ,gN,gQ,mT,eL,nz,Nat.zero_add,Nat.reduceAdd,List.set_cons_zero,List.set_cons_succ,qR,CC,qY,qX,qZ,ej,R8,lL,lK,re2,List.drop_zero,i1,xH,e,beq_self_eq_true]
 ·have hb:(decide (z<0)==decide (w<0))=false:=by revert h;cases decide (z<0)<;>cases decide (w<0)<;>simp
  by_cases hc:z.natAbs<w.natAbs
  ·have i4:∀s K,eR nH [.n z.natAbs,.n w.natAbs] s K=K (.i .i64 (.negSucc 0)) s:=λs K=>JT (Dx hc);have e:=yH (z:=z+w) (v:=decide (w<0)) (c:=w.natAbs-z.natAbs) (by
    unfold zt;by_cases h1:w<0
    ·have h2:¬z<0:=λh2=>h (by rw[aS h1,aS h2]);rw[aS h1,aC rfl];omega
    ·have h2:z<0:=Classical.byContradiction λh2=>h (by rw[aN h1,aN h2]);rw[aN h1,aE (by simp)];omega)
   unfold jf;simp -implicitDefEqProofs only[eV,eZ,ff,jB,qW,kD,kq,lO,qS,List.all_cons,List.all_nil,one,Bool.and_self,List.length_nil,List.length_cons,List.nil_append,List.cons_append,List.getElem?_cons_zero,List.getElem?_cons_succ,gN,gQ,mT,eL,e9,nz,Nat.zero_add,Nat.reduceAdd,List.set_cons_zero,List.set_cons_succ,qR,CC,qY,qX,qZ,ej,R8,lL,lK,re2,List.drop_zero,i3,i4,hb,tK,xH,e]
  ·obtain⟨c,hcc⟩:=Dy (show w.natAbs≤z.natAbs by omega);have i4:∀s K,eR nH [.n z.natAbs,.n w.natAbs] s K=K (.i .i64 (.ofNat c)) s:=λs K=>JT hcc;have e:=yH (z:=z+w) (v:=decide (z<0)) (c:=z.natAbs-w.natAbs) (by
    unfold zt;by_cases h1:z<0
    ·have h2:¬w<0:=λh2=>h (by rw[aS h1,aS h2]);rw[aS h1,aC rfl];omega
    ·have h2:w<0:=Classical.byContradiction λh2=>h (by rw[aN h1,aN h2]);rw[aN h1,aE (by simp)];omega)
   have g0:∀k:D→Rs,jt (.i .i64 (.ofNat c)) (.i .i64 (.ofNat 0)) k=k (.b true):=λk=>qC (a9 c);unfold jf;simp -implicitDefEqProofs only[eV,eZ,ff,jB,qW,kD,kq,lO,qS,List.all_cons,List.all_nil,one,Bool.and_self,List.length_nil,List.length_cons,List.nil_append,List.cons_append,List.getElem?_cons_zero,List.getElem?_cons_succ,gN,gQ,mT,eL,e9,nz,Nat.zero_add,Nat.reduceAdd,List.set_cons_zero,List.set_cons_succ,qR,CC,qY,qX,qZ,ej,R8,lL,lK,re2,List.drop_zero,i2,i4,hb,g0,xH,e]
theorem KU(hz:Lg KA z.natAbs)(hb:Lg KA b)(h0:b≠0):lR φ [.agg [.b (decide (z<0)),.n z.natAbs],.agg [.b false,.n b]]=some (rc (mkRat z b)):=by
 have hg:Nat.gcd z.natAbs b≠0:=by have:=Nat.gcd_pos_of_pos_right z.natAbs (show 0<b by omega);omega
 have hgk:Lg KA (Nat.gcd z.natAbs b):=p8 hb (Nat.gcd_le_right _ (by omega));have i1:∀s K,eR vr [.n z.natAbs,.n b] s K=K (.n (Nat.gcd z.natAbs b)) s:=λs K=>qK (EM hz hb);have i2:∀s K,eR oP [.n z.natAbs,.n (Nat.gcd z.natAbs b)] s K=K (.tup [.n (z.natAbs/Nat.gcd z.natAbs b),.n (z.natAbs%Nat.gcd z.natAbs b)]) s:=λs K=>F7 (zM hz hgk hg);have i3:∀s K,eR oP [.n b,.n (Nat.gcd z.natAbs b)] s K=K (.tup [.n (b/Nat.gcd z.natAbs b),.n (b%Nat.gcd z.natAbs b)]) s:=λs K=>F7 (zM hb hgk hg);have e:=VA (x:=decide (z<0)) (a:=z.natAbs) h0;rw[Jv]at e;rw[e];unfold lR;simp -implicitDefEqProofs only[eV,eZ,ff,jB,qW,kD,kq,lO,qS,List.all_cons,List.all_nil,one,Bool.and_self,List.length_nil,List.length_cons,List.nil_append,List.cons_append,List.getElem?_cons_zero,List.getElem?_cons_succ,gN,gQ,mT,eL,e9,sF,nz,mS,mR,Nat.zero_add,Nat.reduceAdd,List.set_cons_zero,List.set_cons_succ,qR,uA,qY,qX,qZ,ej,Lk,kb3,lL,lK,re3,List.drop_zero,i1,i2,i3,gG h0,xH,Bool.bne_false]
theorem Ob:ik φ [.agg [.b x,.n a]]=some (.agg [.b x,.n a,.n 1]):=by
 unfold ik;simp -implicitDefEqProofs only[eV,eZ,ff,jB,qW,lO,qS,List.all_cons,List.all_nil,one,Bool.and_self,List.length_nil,List.length_cons,List.nil_append,List.cons_append,List.getElem?_cons_zero,List.getElem?_cons_succ,gN,gQ,mT,eL,Nat.zero_add,Nat.reduceAdd,List.set_cons_zero,List.set_cons_succ,qR,uA,qY,qX,qZ,ej,kb3,lL,lK,re3,List.drop_zero]
theorem Xs:fQ φ [.agg [.b x,.n a,.n m]]=some (.agg [.b false,.n m]):=by
 unfold fQ;simp -implicitDefEqProofs only[eV,eZ,ff,jB,qW,kD,kq,lO,qS,List.all_cons,List.all_nil,one,Bool.and_self,List.length_nil,List.length_cons,List.nil_append,List.cons_append,List.getElem?_cons_zero,List.getElem?_cons_succ,gN,gQ,mT,eL,Nat.zero_add,Nat.reduceAdd,List.set_cons_zero,List.set_cons_succ,qR,CC,qY,qX,qZ,ej,Mp,lL,lK,re2,List.drop_zero]
theorem Fm(n:Nat):decide ((n:Int)<0)=false:=aN (by omega)
theorem Og(hz:Lg KA z.natAbs)(hn:Lg KA n):gV φ [.agg [.b (decide (z<0)),.n z.natAbs],.agg [.b false,.n n]]=some (.agg [.b (decide (z*(n:Int)<0)),.n (z*(n:Int)).natAbs]):=by
 have:=Oi (φ:=φ) (z:=z) (w:=(n:Int)) hz hn;rwa[dl,Fm]at this
theorem Of(hm:Lg KA m)(hn:Lg KA n):gV φ [.agg [.b false,.n m],.agg [.b false,.n n]]=some (.agg [.b false,.n (m*n)]):=by
 have:=Og (φ:=φ) (z:=(m:Int)) (n:=n) hm hn;rwa[dl,Fm,←z15,dl,Fm]at this
theorem WF(hp:Qz KB p)(hq:Qz KB q):iw φ [rc p,rc q]=some (rc (p+q)):=by
 have hpn:=p.den_nz;have hqn:=q.den_nz;have kab:KB≤KA:=by decide
 have iA:=qx (Oq (φ:=φ) (ew hp.1 kab) (ew hq.1 kab)) rfl;have iW:∀(x:Bool)(a:Nat) s K,eR (ik φ) [.agg [.b x,.n a]] s K=K (.agg [.b x,.n a,.n 1]) s:=λx a=>yJ Ob rfl;have iD:∀(x:Bool)(a m:Nat) s K,eR (fQ φ) [.agg [.b x,.n a,.n m]] s K=K (.agg [.b false,.n m]) s:=λx a m=>wj Xs rfl;have i1:=qx (Og (φ:=φ) (ew hp.1 kab) (ew hq.2 kab)) rfl;have i2:=qx (Og (φ:=φ) (ew hq.1 kab) (ew hp.2 kab)) rfl;have i3:=qx (Of (φ:=φ) (ew hp.2 kab) (ew hq.2 kab)) rfl;have l1:Lg (KB+KB+1) (p.num*(q.den:Int)).natAbs:=Au hp.1 hq.2;have l2:Lg (KB+KB+1) (q.num*(p.den:Int)).natAbs:=Au hq.1 hp.2;have i6:=qx (Oq (φ:=φ) (ew l1 (by decide)) (ew l2 (by decide))) rfl;have iM:=KU (φ:=φ) (z:=p.num*q.den+q.num*p.den) (b:=p.den*q.den) (ew (FU l1 l2) (by decide)) (ew (iB hp.2 hq.2) (by decide)) (z0H hpn hqn);rw[←Cu]at iM;have iM':=qx iM rfl;unfold rc at iM';by_cases h1:p.den=1
 ·by_cases h2:q.den=1
  ·have e:p+q=mkRat (p.num+q.num) 1:=by rw[Cu,h1,h2];simp
   rw[e,Er];unfold iw rc;simp -implicitDefEqProofs only[eV,eZ,ff,jB,qW,kD,kq,lO,qS,List.all_cons,List.all_nil,one,Bool.and_self,List.length_nil,List.length_cons,List.nil_append,List.cons_append,List.getElem?_cons_zero,List.getElem?_cons_succ,gN,gQ,mT,eL,e9,sF,nz,ri,re,Nat.zero_add,Nat.reduceAdd,List.set_cons_zero,List.set_cons_succ,qR,uA,qY,qX,qZ,ej,lL,lK,re3,List.drop_zero,wv,iA,iW,h1,h2]
  ·unfold iw rc;rw[h1]at i2 i3 i6 iM' ⊢;simp -implicitDefEqProofs only[eV,eZ,ff,jB,qW,kD,kq,lO,qS,List.all_cons,List.all_nil,one,Bool.and_self,List.length_nil,List.length_cons,List.nil_append,List.cons_append,List.getElem?_cons_zero,List.getElem?_cons_succ,gN,gQ,mT,eL,e9,sF,nz,ri,re,Nat.zero_add,Nat.reduceAdd,List.set_cons_zero,List.set_cons_succ,qR,CC,uA,qY,qX,qZ,ej,lL,lK,re3,List.drop_zero,wv,iD,i1,i2,i3,i6,iM',gG h2]
 ·unfold iw rc;simp -implicitDefEqProofs only[eV,eZ,ff,jB,qW,kD,kq,lO,qS,List.all_cons,List.all_nil,one,Bool.and_self,List.length_nil,List.length_cons,List.nil_append,List.cons_append,List.getElem?_cons_zero,List.getElem?_cons_succ,gN,gQ,mT,eL,e9,sF,nz,ri,re,Nat.zero_add,Nat.reduceAdd,List.set_cons_zero,List.set_cons_succ,qR,CC,uA,qY,qX,qZ,ej,lL,lK,re3,List.drop_zero,Cm,iD,i1,i2,i3,i6,iM',gG h1]
theorem Oj(hp:Qz KB p)(hq:Qz KB q):gh φ [rc p,rc q]=some (rc (p*q)):=by
 have hpn:=p.den_nz;have hqn:=q.den_nz;have kab:KB≤KA:=by decide
 have iA:=qx (Oi (φ:=φ) (ew hp.1 kab) (ew hq.1 kab)) rfl;have iW:∀(x:Bool)(a:Nat) s K,eR (ik φ) [.agg [.b x,.n a]] s K=K (.agg [.b x,.n a,.n 1]) s:=λx a=>yJ Ob rfl;have iD:∀(x:Bool)(a m:Nat) s K,eR (fQ φ) [.agg [.b x,.n a,.n m]] s K=K (.agg [.b false,.n m]) s:=λx a m=>wj Xs rfl;have i3:=qx (Of (φ:=φ) (ew hp.2 kab) (ew hq.2 kab)) rfl;have l1:Lg (KB+KB+1) (p.num*q.num).natAbs:=by rw[dw];exact iB hp.1 hq.1
 have iM:=KU (φ:=φ) (z:=p.num*q.num) (b:=p.den*q.den) (ew l1 (by decide)) (ew (iB hp.2 hq.2) (by decide)) (z0H hpn hqn);rw[←FN]at iM;have iM':=qx iM rfl;unfold rc at iM';by_cases h1:p.den=1
 ·by_cases h2:q.den=1
  ·have e:p*q=mkRat (p.num*q.num) 1:=by rw[FN,h1,h2]
   rw[e,Er];unfold gh rc;simp -implicitDefEqProofs only[eV,eZ,ff,jB,qW,kD,kq,lO,qS,List.all_cons,List.all_nil,one,Bool.and_self,List.length_nil,List.length_cons,List.nil_append,List.cons_append,List.getElem?_cons_zero,List.getElem?_cons_succ,gN,gQ,mT,eL,e9,sF,nz,ri,re,Nat.zero_add,Nat.reduceAdd,List.set_cons_zero,List.set_cons_succ,qR,uA,qY,qX,qZ,ej,lL,lK,re3,List.drop_zero,wv,iA,iW,h1,h2]
  ·unfold gh rc;rw[h1]at i3 iM' ⊢;simp -implicitDefEqProofs only[eV,eZ,ff,jB,qW,kD,kq,lO,qS,List.all_cons,List.all_nil,one,Bool.and_self,List.length_nil,List.length_cons,List.nil_append,List.cons_append,List.getElem?_cons_zero,List.getElem?_cons_succ,gN,gQ,mT,eL,e9,sF,nz,ri,re,Nat.zero_add,Nat.reduceAdd,List.set_cons_zero,List.set_cons_succ,qR,uA,qY,qX,qZ,ej,lL,lK,re3,List.drop_zero,wv,iA,iD,i3,iM',gG h2]
 ·unfold gh rc;simp -implicitDefEqProofs only[eV,eZ,ff,jB,qW,kD,kq,lO,qS,List.all_cons,List.all_nil,one,Bool.and_self,List.length_nil,List.length_cons,List.nil_append,List.cons_append,List.getElem?_cons_zero,List.getElem?_cons_succ,gN,gQ,mT,eL,e9,sF,nz,ri,re,Nat.zero_add,Nat.reduceAdd,List.set_cons_zero,List.set_cons_succ,qR,uA,qY,qX,qZ,ej,lL,lK,re3,List.drop_zero,Cm,iA,iD,i3,iM',gG h1]
theorem Vy:nZ φ [.agg [.b (decide (z<0)),.n z.natAbs]]=some (.agg [.b (decide (-z<0)),.n (-z).natAbs]):=by
 have e:=yH (z:= -z) (v:= !(decide (z<0))) (c:=z.natAbs) (by
  unfold zt;by_cases h:z<0
  ·rw[aS h,aE (by simp)];omega
  ·rw[aN h,aC (by simp)];omega)
 unfold nZ;simp -implicitDefEqProofs only[eV,eZ,ff,jB,qW,kD,kq,lO,qS,List.all_cons,List.all_nil,one,Bool.and_self,List.length_nil,List.length_cons,List.nil_append,List.cons_append,List.getElem?_cons_zero,List.getElem?_cons_succ,gN,gQ,mT,eL,wO,Nat.zero_add,Nat.reduceAdd,List.set_cons_zero,List.set_cons_succ,qR,CC,qY,qX,qZ,ej,lL,lK,re2,List.drop_zero,xH,e]
theorem ZR:nX φ [rc p]=some (rc (-p)):=by
 have i1:=yJ (Vy (φ:=φ) (z:=p.num)) rfl;unfold nX rc;rw[z1I,z1J];simp -implicitDefEqProofs only[eV,eZ,ff,jB,qW,kD,kq,lO,qS,List.all_cons,List.all_nil,one,Bool.and_self,List.length_nil,List.length_cons,List.nil_append,List.cons_append,List.getElem?_cons_zero,List.getElem?_cons_succ,gN,gQ,mT,eL,Nat.zero_add,Nat.reduceAdd,List.set_cons_zero,List.set_cons_succ,qR,uA,qY,qX,qZ,ej,kb3,lL,lK,re3,List.drop_zero,i1]
theorem ZN(hp:Qz KB p)(hq:Qz KB q):nW φ [rc p,rc q]=some (rc (p-q)):=by
 have h1:=wj (ZR (φ:=φ) (p:=q)) rfl;have h2:=F6 (WF (φ:=φ) hp (Ot hq)) rfl;rw[←z1m]at h2;unfold rc at h1 h2;unfold nW rc;simp -implicitDefEqProofs only[eV,eZ,ff,jB,qW,lO,qS,List.all_cons,List.all_nil,one,Bool.and_self,List.length_nil,List.length_cons,List.nil_append,List.cons_append,List.getElem?_cons_zero,List.getElem?_cons_succ,gN,gQ,mT,eL,Nat.zero_add,Nat.reduceAdd,List.set_cons_zero,List.set_cons_succ,qR,uA,qY,qX,qZ,ej,lL,lK,re3,List.drop_zero,h1,h2]
theorem Ge:ir φ [rc p]=some (rc p⁻¹):=by
 by_cases h:p=0
 ·subst h;rw[Rat.inv_zero,show rc 0=.agg [.b false,.n 0,.n 1] by kernel_rfl];unfold ir;simp -implicitDefEqProofs only[eV,eZ,ff,jB,qW,kD,kq,lO,qS,List.all_cons,List.all_nil,one,Bool.and_self,List.length_nil,List.length_cons,List.nil_append,List.cons_append,List.getElem?_cons_zero,List.getElem?_cons_succ,gN,gQ,mT,eL,sF,nz,Nat.zero_add,Nat.reduceAdd,List.set_cons_zero,List.set_cons_succ,qR,uA,qY,qX,qZ,ej,kb3,kb2,lL,lK,re3,List.drop_zero]
 ·rw[O7 h];have hn:p.num.natAbs≠0:=λe=>h (wX.1 e);unfold ir rc;simp -implicitDefEqProofs only[eV,eZ,ff,jB,qW,kD,kq,lO,qS,List.all_cons,List.all_nil,one,Bool.and_self,List.length_nil,List.length_cons,List.nil_append,List.cons_append,List.getElem?_cons_zero,List.getElem?_cons_succ,gN,gQ,mT,eL,e9,sF,nz,Nat.zero_add,Nat.reduceAdd,List.set_cons_zero,List.set_cons_succ,qR,uA,qY,qX,qZ,ej,kb3,kb2,lL,lK,re3,List.drop_zero,gG hn]
theorem Il(h:Qz k p):Qz k p⁻¹:=by
 by_cases h0:p=0
 ·subst h0;rw[Rat.inv_zero];exact h
 ·obtain⟨h1,h2⟩:=Ky h0;exact⟨by rw[h1,vZ];exact h.2,by rw[h2];exact h.1⟩
theorem ZU(hp:Qz KB p)(hq:Qz KB q):nY φ [rc p,rc q]=some (rc (p*q⁻¹)):=by
 have h1:=wj (Ge (φ:=φ) (p:=q)) rfl;have h2:=F6 (Oj (φ:=φ) hp (Il hq)) rfl;unfold rc at h1 h2;unfold nY rc;simp -implicitDefEqProofs only[eV,eZ,ff,jB,qW,lO,qS,List.all_cons,List.all_nil,one,Bool.and_self,List.length_nil,List.length_cons,List.nil_append,List.cons_append,List.getElem?_cons_zero,List.getElem?_cons_succ,gN,gQ,mT,eL,Nat.zero_add,Nat.reduceAdd,List.set_cons_zero,List.set_cons_succ,qR,uA,qY,qX,qZ,ej,lL,lK,re3,List.drop_zero,h1,h2]
theorem Gc:iZ φ [rc p]=some (.i .i64 (if p.num<0 then .negSucc 0 else if p=0 then .ofNat 0 else .ofNat 1)):=by
 have h1:∀s K,eR (ml φ) [.agg [.b (decide (p.num<0)),.n p.num.natAbs]] s K=K (.i .i64 (if p.num<0 then .negSucc 0 else if p=0 then .ofNat 0 else .ofNat 1)) s:=yJ (by
  unfold ml;by_cases h:p.num<0
  ·rw[aC h,aS h];simp -implicitDefEqProofs only[eV,eZ,ff,jB,kD,kq,List.all_cons,List.all_nil,one,Bool.and_self,List.length_nil,List.nil_append,List.getElem?_cons_zero,List.getElem?_cons_succ,gN,gQ,eL,sF,nz,Nat.zero_add,ia]
  ·rw[aE h,aN h];by_cases h0:p=0
   ·rw[aC h0,h0];simp -implicitDefEqProofs only[eV,eZ,ff,jB,kD,kq,List.all_cons,List.all_nil,one,Bool.and_self,List.length_nil,List.nil_append,List.getElem?_cons_zero,List.getElem?_cons_succ,gN,gQ,eL,e9,sF,nz,Nat.zero_add,ej,ia,Rat.num_ofNat,Int.natAbs_zero]
   ·rw[aE h0];have hn:p.num.natAbs≠0:=λe=>h0 (wX.1 e);simp -implicitDefEqProofs only[eV,eZ,ff,jB,kD,kq,List.all_cons,List.all_nil,one,Bool.and_self,List.length_nil,List.nil_append,List.getElem?_cons_zero,List.getElem?_cons_succ,gN,gQ,eL,e9,sF,nz,Nat.zero_add,ia,gG hn]) rfl
 unfold iZ rc;simp -implicitDefEqProofs only[eV,eZ,ff,jB,kD,lO,List.all_cons,List.all_nil,one,Bool.and_self,List.length_nil,List.nil_append,List.getElem?_cons_zero,gN,gQ,eL,Nat.zero_add,lL,lK,ia,List.drop_zero,h1]
theorem Bb:fb φ [.i .i64 (.ofNat 0)]=some (rc 0):=by kernel_rfl
theorem WA:fb φ [.i .i64 (.ofNat 1)]=some (rc 1):=by kernel_rfl
theorem Vz:fb φ [.i .i64 (.negSucc 0)]=some (rc (-1)):=by kernel_rfl
end
def q3(q:Rat):Q3:=(decide (q.num<0),q.num.natAbs,q.den)
def rs(l:Row):List D:=qs (l.map q3)
def rcs(q:Rat):List D:=[.b (decide (q.num<0)),.n q.num.natAbs,.n q.den]
section
variable {bs:List Blk} {l:Row} {b:Blk} {i k n m c:Nat} {ex:Bool} {s:LS} {K:D→LS→Rs} {kk:IntKind} {q p:Rat} {φ:Nat}
theorem oa:(rs l).length=l.length*3:=by unfold rs;rw[Im,aI]
theorem Vl{a b:Row}:rs (a++b)=rs a++rs b:=by unfold rs;rw[ak,zf]
theorem Ei(h:i<l.length):((rs l).drop (i*3)).take 3=rcs (ent l i):=by
 unfold rs;rw[WG (q:=q3 (ent l i))]
 ·rfl
 ·rw[au,aB h];unfold ent;rw[aH,aB h];rfl
theorem Eh:(rs l).take (n*3)=rs (l.take n):=by unfold rs;rw[Eu,z0Y]
theorem Vk(h:i<l.length):lay (i*3) (rcs q) (rs l)=some (rs (l.set i q)):=by
 unfold rs;rw[show rcs q=qD (q3 q)from rfl,Ou (by rw[aI];exact h),dr]
theorem rW(l:Row):(rs l).all ot=true:=KZ _
theorem p9(hn:l.length=n)(h:i<n):(eK 3 s (.tree (rs l) n ex) (.i kk (.ofNat i)) λa s=>eS 3 s a K)=K (rc (ent l i)) s:=by
 refine th (uv h (by rw[oa];omega)) ?_;refine th (YT (by rw[oa];omega)) ?_;rw[Ei (by omega)];rfl
theorem HP(hb:bs[k]?=some b)(hc:b.cs=rs l)(hl:b.st.live=true)(h:i<n)(h':i<l.length):(eK 3 (mem bs) (.sl k 0 n c 3 ex) (.i kk (.ofNat i)) λa s=>eS 3 s a K)=K (rc (ent l i)) (mem bs):=by
 refine th (AB hb hl h) ?_;rw[aV];refine th (Mi hb hl (by rw[hc,oa];omega)) ?_;rw[hc,Ei h'];rfl
theorem Nd(hb:bs[k]?=some ⟨rs l,.rw⟩)(h:i<n)(h':i<l.length):(eK 3 (mem bs) (.sl k 0 n c 3 ex) (.i kk (.ofNat i)) λa s=>eU 3 s a (rc q) K)=K .u (mem (bs.set k ⟨rs (l.set i q),.rw⟩)):=by
 refine th (AB hb rfl h) ?_;rw[aV];exact GT hb rfl (hx:=rfl) (hn:=rfl) (h1:=rfl) (hl:=Vk h')
theorem xr{zero:List D}(hz:zero.length=3):(fq zero (mem bs) λx s=>eU 3 s x (rc q) λ_ s=>K x s)=K (.ptr bs.length 0) (mem (bs++[⟨rcs q,.rw⟩])):=by
 refine th N1 ?_;refine th (GT (b:=⟨zero,.rw⟩) (cs':=rcs q) (by simp) rfl (hx:=rfl) (hn:=rfl) (h1:=rfl) (hl:=?_)) ?_
 ·match zero,hz with
  |[a,b,c],_=>rfl
 ·rw[co _ _ (aD _),cC,dj]
theorem wb(hb:bs[k]?=some ⟨rcs q,.rw⟩):eS 3 (mem bs) (.ptr k 0) K=K (rc q) (mem bs):=by
 refine th (Mi hb rfl (aD 3)) ?_;rfl
theorem Xk{l':List D}(hb:bs[k]?=some ⟨l',.rw⟩)(hl:l'.length=3):eU 3 (mem bs) (.ptr k 0) (rc q) K=K .u (mem (bs.set k ⟨rcs q,.rw⟩)):=by
 refine GT hb rfl (hx:=rfl) (hn:=rfl) (h1:=rfl) (hl:=?_)
 match l',hl with
 |[a,b,c],_=>rfl
theorem MS{l':List D}(hb:bs[k]?=some ⟨l',.rw⟩)(hl:l'.length=3):(eU 3 (mem bs) (.ptr k 0) (rc q) λ_ s=>eS 3 s (.ptr k 0) λx _=>eX false s x some)=some (rc q):=by
 refine th (Xk hb hl) (th (wb (by rw[ao (fE hb)])) re3)
theorem rY{own:Bool}{cs:List D}:eX own s (.tree cs n ex) some=some (.tree cs n ex):=by
 unfold eX;rw[mU];show uw (nu own s.get fv (.tree cs n ex)) some=_;rw[show nu own s.get fv (.tree cs n ex)=some (.tree cs n ex) by cases own<;>rfl,gS];rfl
theorem jo{M:List D→Option D}{r:D}(h:M [rc p]=some r)(hp:rF r=true):eR M [rc p] s K=K r s:=wj h hp s K
theorem oC{M:List D→Option D}{r:D}(h:M [rc p,rc q]=some r)(hp:rF r=true):eR M [rc p,rc q] s K=K r s:=F6 h hp s K
theorem Uy{cs:List D}(hl:cs.length=n*m)(hh:k≤n)(mx:Option D)(hm:mx=none∨mx=some (.i kk (.ofNat k))):∃e,kg m s (.tree cs n ex) none (some (.i kk (.ofNat k))) mx K=K (.tree (cs.take (k*m)) k e) s:=by
 rcases hm with rfl|rfl
 ·refine⟨cnd ex (Nat.beq k n) false,?_⟩;show(cnd (Nat.ble n n) (cnd (Nat.ble k n) (cnd (Nat.ble 0 k) (cnd (Nat.beq cs.length (Nat.mul n m)) (iz (Nat.mul 0 m) cs λcs=>frc (Nat.sub k 0) λn'=>iy (Nat.mul n' m) cs λcs=>mw (cnd ex (Nat.beq k n) false) λex=>K (.tree cs n' ex) s) none) none) none) none)=_;rw[aF (aD n),aF hh,aF (a9 k),hl,show Nat.beq (n*m) (Nat.mul n m)=true from ej _,gB,fA];simp only[eL];rw[show cs.drop (Nat.mul 0 m)=cs by show cs.drop (0*m)=cs;rw[bP];rfl,i9,aC (by rw[hl];exact aL _ hh),jC];rfl
 ·refine⟨Nat.beq k k,?_⟩;show(cnd (Nat.ble k n) (cnd (Nat.ble k k) (cnd (Nat.ble 0 k) (cnd (Nat.beq cs.length (Nat.mul n m)) (iz (Nat.mul 0 m) cs λcs=>frc (Nat.sub k 0) λn'=>iy (Nat.mul n' m) cs λcs=>mw (Nat.beq k k) λex=>K (.tree cs n' ex) s) none) none) none) none)=_;rw[aF (aD k),aF hh,aF (a9 k),hl,show Nat.beq (n*m) (Nat.mul n m)=true from ej _,gB,fA];simp only[eL];rw[show cs.drop (Nat.mul 0 m)=cs by show cs.drop (0*m)=cs;rw[bP];rfl,i9,aC (by rw[hl];exact aL _ hh),jC];rfl
theorem EK{X i:D}{z n:Nat}:(eI (.b true) true (λk=>eK z s X i k) s λx s=>eI (.b true) true (λk=>eS n s x k) s K)=eK z s X i λa s=>eS n s a K:=rfl
theorem xo:∀{l:Row}{n:Nat},n≤l.length→(∀i,n≤i→ent l i=0)→(n=0∨ent l (n-1)≠0)→e8 l=l.take n
 |[],n,hn,_,_=>by simp[e8]
 |x::l,0,_,hz,_=>by rw[vJ λi=>hz i (a9 _)];rfl
 |x::l,n+1,hn,hz,hl=>by
  have hl:ent (x::l) n≠0:=by simpa using hl
  have ih:=xo (l:=l) (n:=n) (by simpa using hn) (λi hi=>hz (i+1) (by omega)) (by
   cases n with
   |zero=>exact Or.inl rfl
   |succ n=>exact Or.inr hl)
  unfold e8;rw[ih,aE]
  ·rfl
  ·rintro ⟨h1,h2⟩
   cases n with
   |zero=>exact hl h2
   |succ n=>
    have h3:=congrArg List.length h1;simp only[ay]at hn;rw[ah,bO (by omega)]at h3;simp at h3
theorem Iq(hn:l.length=n)(hs:n<9223372036854775807):∀(k f:Nat),k≤n→k<f→(∀i,k≤i→ent l i=0)→
 ∃e,lp (λ(_ _:D)(_:LS)=>none) (o4 φ) f (.tree (rs l) n ex) (.i .i64 (.ofNat k)) s=some (.tree (rs (e8 l)) (e8 l).length e):=by
 have fin:∀k,k≤n→(∀i,k≤i→ent l i=0)→(k=0∨ent l (k-1)≠0)→∃e,(kg 3 s (.tree (rs l) n ex) none (some (.i .i64 (.ofNat k))) (some (.i .i64 (.ofNat k))) λx15 s=>eX false s x15 some)=some (.tree (rs (e8 l)) (e8 l).length e):=by
  intro k hk hz hl;obtain⟨e,he⟩:=Uy (s:=s) (K:=λx15 s=>eX false s x15 some) (cs:=rs l) (n:=n) (m:=3) (k:=k) (ex:=ex) (kk:=.i64) (by rw[oa,hn]) hk (some (.i .i64 (.ofNat k))) (Or.inr rfl);have h1:=xo (l:=l) (n:=k) (by omega) hz hl;refine⟨e,he.trans ?_⟩;rw[rY,Eh,h1,ah,bO (by omega)]
 intro k
 induction k with
 |zero=>
  intro f hk hf hz;obtain⟨f,rfl⟩:∃q,f=q+1:=⟨f-1,by omega⟩
  obtain⟨e,he⟩:=fin 0 (a9 _) hz (Or.inl rfl);refine⟨e,?_⟩;rw[eO];unfold o4;exact th (oO (by omega)) (th fj (th fj (th fj (th fj (th fj (th fj (th gE (th eM he))))))))
 |succ k ih=>
  intro f hk hf hz;obtain⟨f,rfl⟩:∃q,f=q+1:=⟨f-1,by omega⟩
  by_cases h0:ent l k=0
  ·obtain⟨e,he⟩:=ih f (by omega) (by omega) (λi hi=>by
    by_cases h:i=k
    ·rw[h];exact h0
    ·exact hz i (by omega))
   refine⟨e,?_⟩;rw[eO];unfold o4;refine th (mf (by omega)) (th fD (th fD (th fD (th (gR (by omega) (by omega)) (th EK ?_)))));rw[a7];refine th (p9 hn (by omega)) (th fD (th (jo rZ rfl) ?_));rw[aS h0];refine th fe (th eP (th (gR (by omega) (by omega)) ?_));rw[a7];exact he
  ·obtain⟨e,he⟩:=fin (k+1) (by omega) hz (Or.inr h0);refine⟨e,?_⟩;rw[eO];unfold o4;refine th (mf (by omega)) (th fD (th fD (th fD (th (gR (by omega) (by omega)) (th EK ?_)))));rw[a7];refine th (p9 hn (by omega)) (th fD (th (jo rZ rfl) ?_));rw[aN h0];exact th fe (th eM he)
theorem Ez(hn:l.length=n)(hs:n<9223372036854775807)(hφ:n<φ):∃e,gF φ [.tree (rs l) n ex]=some (.tree (rs (e8 l)) (e8 l).length e):=by
 obtain⟨e,he⟩:=Iq (φ:=φ) (ex:=ex) (s:=s0) hn hs n φ (aD _) hφ (λi hi=>gL (by omega));refine⟨e,?_⟩;unfold gF;dsimp only[eV,eZ];exact th fH he
end
section
variable {bs:List Blk} {l f g:Row} {b:Blk} {i k n m c N M Df Dg:Nat} {ex:Bool} {s:LS} {K:D→LS→Rs} {kk:IntKind} {q p:Rat} {φ:Nat}
def z3:Q3:=(false,0,0)
def fl3(l:Row)(m:Nat):List D:=qs (l.map q3++List.replicate m z3)
theorem Qg:fl3 l 0=rs l:=by unfold fl3 rs;rw[List.replicate_zero,bq]
theorem Qf(n:Nat):oG n [.b false,.n 0,.n 0]=fl3 [] n:=by rw[Gi];rfl
theorem V2{n:Nat}(hb:bs[k]?=some ⟨fl3 l (m+1),.rw⟩)(h:l.length<n):(eK 3 (mem bs) (.sl k 0 n c 3 ex) (.i kk (.ofNat l.length)) λa s=>eU 3 s a (rc q) K)=K .u (mem (bs.set k ⟨fl3 (l++[q]) m,.rw⟩)):=by
 refine th (AB hb rfl h) ?_;rw[aV];refine GT hb rfl (hx:=rfl) (hn:=rfl) (h1:=rfl) (hl:=?_);show lay (l.length*3) (qD (q3 q)) (qs (l.map q3++List.replicate (m+1) z3))=_;rw[Ou (by simp)];congr 2;rw[ak,bW,co _ _ (by simp),aI,cC,List.replicate_succ,dj];rfl
theorem yw{a:Row}{v:Vec}(h:a.length=n)(he:∀i,i<n→ent a i=v i):a=lst n v:=by
 rw[←w7 (l:=a),h];unfold lst;exact cN λi hi=>he i (z1f.1 hi)
theorem rf{v:Vec}:lst (i+1) v=lst i v++[v i]:=by unfold lst;rw[z1c,ak];rfl
theorem Em{own:Bool}(ho:own=false)(hb:bs[k]?=some b)(hc:b.cs=rs l)(hl:b.st.live=true)(hn:l.length=n):∃e,eX own (mem bs) (.sl k 0 n c 3 ex) some=some (.tree (rs l) n e):=by
 subst ho;refine⟨ex&&c==n,?_⟩;unfold eX;rw[mU];show uw (nu false (mem bs).get fv (.sl k 0 n c 3 ex)) some=_;have h1:res (mem bs).get 60 (.sl k 0 n c 3 ex)=some (.tree (rs l) n (ex&&c==n),[k]):=by
  refine uN (n:=59) (r:=rs l) (ls:=[]) (by rw[mQ];exact hb) hl ?_ (kL (k:=58) _ (rW l));unfold cut;rw[hc,aj,aM (by rw[oa,hn];exact aD _),aC (by rw[oa,hn])]
 have:nu false (mem bs).get fv (.sl k 0 n c 3 ex)=some (.tree (rs l) n (ex&&c==n)):=by
  show(match yi (res (mem bs).get 60 (.sl k 0 n c 3 ex))with
   |some (d,o,ls)=>if o.all λl=> !ls.contains l then some d else none
   |none=>none)=_
  rw[h1];rfl
 rw[this,gS];rfl
theorem FR{s:LS}{j:Nat}{kk:List D→List Nat→Rs}:∀cs:List D,cs.all ot=true→nI (kJ s (j+1)) cs kk=kk cs []:=by
 intro cs
 induction cs generalizing kk with
 |nil=>intro _;rfl
 |cons d cs ih=>
  intro h;simp only[cJ,ae]at h;have hd:∀F:D→List Nat→Rs,kJ s (j+1) d F=F d []:=by
   intro F;cases d<;>first|rfl|(cases h.1;done)
  show(kJ s (j+1) d λy a=>nI (kJ s (j+1)) cs λys b=>l7 a b λab=>kk (y::ys) ab)=_;rw[hd,ih h.2];rfl
theorem Np{cs:List D}(hc:cs.take (n*3)=rs l)(hn:l.length=n):n*3≤cs.length:=by
 have:=congrArg List.length hc;rw[ah,oa,hn]at this;omega
theorem If{F:D→List Nat→Rs}{j:Nat}(hb:bs[k]?=some b)(hc:b.cs.take (n*3)=rs l)(hl:b.st.live=true)(hn:l.length=n):∃e,kJ (mem bs) (j+2) (.sl k 0 n c 3 ex) F=F (.tree (rs l) n e) [k]:=by
 have hle:=Np hc hn;refine⟨cnd ex (Nat.beq c n) false,?_⟩;show(jQ (mem bs) k λb=>cnd (lv b.st) (iz 0 b.cs λr=>iy (Nat.mul n 3) r λr=>nI (kJ (mem bs) (j+1)) r λcs ls=>mw (cnd ex (Nat.beq c n) false) λex=>F (.tree cs n ex) (k::ls)) none)=_;rw[gu hb,sI,hl,eL,gB,aj,i9,show Nat.mul n 3=n*3 from rfl,aC hle,hc,FR _ (rW l),jC]
theorem vt(hb:bs[k]?=some b){F:LS→Rs}:vR [k] (mem bs) F=F (mem (bs.set k ⟨b.cs,fzS b.st⟩)):=by
 show(jQ (mem bs) k λb=>oN (mem bs) k ⟨b.cs,fzS b.st⟩ λs=>F s)=_;rw[gu hb,pa (fE hb)]
theorem JS{M:List D→Option D}{cs:List D}{n':Nat}(hb:bs[k]?=some b)(hc:b.cs.take (n*3)=rs l)(hl:b.st.live=true)(hn:l.length=n)(h:∀ex',∃e,M [.tree (rs l) n ex']=some (.tree cs n' e)):∃e,eR M [.sl k 0 n c 3 ex] (mem bs) K=K (.tree cs n' e) (mem (bs.set k ⟨b.cs,fzS b.st⟩)):=by
 obtain⟨e1,h1⟩:=If (bs:=bs) (c:=c) (ex:=ex) (j:=58) (F:=λy a=>l7 a [] λab=>ob (M [y]) λr=>ju (mem bs) ab r K) hb hc hl hn;obtain⟨e2,h2⟩:=h e1;refine⟨e2,h1.trans ?_⟩;rw[gT,h2,gN];unfold ju;rw[mU];show vR [k] (mem bs) (λs=>K (.tree cs n' e2) s)=_;rw[vt hb]
theorem tX(hn:l.length=n):(rs l).take (n*3)=rs l:=aM (by rw[oa,hn];exact aD _)
theorem SD(hb:bs[k]?=some ⟨rs l,.rw⟩)(hn:l.length=n)(hs:n<1000000000)(hφ:1000000000≤φ):∃e,(eR (gF φ) [.sl k 0 n c 3 ex] (mem bs) λx s=>eX false s x some)=some (.tree (rs (e8 l)) (e8 l).length e):=by
 obtain⟨e,he⟩:=JS (bs:=bs) (c:=c) (ex:=ex) (M:=gF φ) (K:=λx s=>eX false s x some) hb (tX hn) rfl hn (λex'=>Ez hn (by omega) (by omega));exact⟨e,he.trans rY⟩
theorem WH(hn:l.length=n):qe φ [.tree (rs l) n ex,.i .i64 (.ofNat i)]=some (rc (ent l i)):=by
 unfold qe;dsimp only[eV,eZ];rw[←fm];refine th N1 (th (fy (cU i)) (th gA (th gA (th gA (th fH (th gA ?_))))));by_cases h:n≤i
 ·refine th (qC h) (th gE (th eP (th (fP PB) ?_)));rw[gL (by omega)];exact MS (k:=0) rfl rfl
 ·exact th (zE h) (th gE (th eM (th (p9 hn (by omega)) (MS (k:=0) rfl rfl))))
theorem OQ(hm:l.length=m)(hs:n<1000000000):∀(j i f:Nat)(bs:List Blk),i+j=n→j<f→bs[0]?=some ⟨fl3 (lst i (ent l)) j,.rw⟩→
 ∃e,lp (λ(_ _ _ _:D)(_:LS)=>none) (tT φ) f (.tree (rs l) m ex) (.sl 0 0 n n 3 true) (.i .i64 (.ofNat n)) (.i .i64 (.ofNat i)) (mem bs)=some (.tree (rs (lst n (ent l))) n e):=by
 intro j
 induction j with
 |zero=>
  intro i f bs hi hf hb;obtain⟨f,rfl⟩:∃q,f=q+1:=⟨f-1,by omega⟩
  have:i=n:=by omega
  subst this;rw[Qg]at hb;obtain⟨e,he⟩:=Em (own:=false) (c:=i) (ex:=true) rfl hb rfl rfl (iU);refine⟨e,?_⟩;rw[eO];unfold tT;exact th (fy (by omega)) (th eM he)
 |succ j ih=>
  intro i f bs hi hf hb;obtain⟨f,rfl⟩:∃q,f=q+1:=⟨f-1,by omega⟩
  obtain⟨e,he⟩:=ih (i+1) f (bs.set 0 ⟨fl3 (lst (i+1) (ent l)) j,.rw⟩) (by omega) (by omega) (by rw[ao (fE hb)]);refine⟨e,?_⟩;rw[eO];unfold tT;refine th (fk (by omega)) (th eP (th (fP (WH hm)) ?_));have hw:=V2 (q:=ent l i) (n:=n) (c:=n) (ex:=true) (kk:=.i64) (K:=λ_ s=>ee (.i .i64 (.ofNat i)) (.i .i64 (.ofNat 1)) λx13=>lp (λ(_ _ _ _:D)(_:LS)=>none) (tT φ) f (.tree (rs l) m ex) (.sl 0 0 n n 3 true) (.i .i64 (.ofNat n)) x13 s) hb (by rw[iU];omega);rw[iU]at hw;refine hw.trans (th (fM (by omega)) ?_);rw[←rf];exact he
theorem YA(hm:l.length=m)(hs:n<1000000000)(hφ:1000000000≤φ):∃e,ru φ [.tree (rs l) m ex,.i .i64 (.ofNat n)]=some (.tree (rs (lst n (ent l))) n e):=by
 obtain⟨e,he⟩:=OQ (φ:=φ) (ex:=ex) hm hs n 0 φ [⟨fl3 [] n,.rw⟩] (by omega) (by omega) rfl;refine⟨e,?_⟩;unfold ru;dsimp only[eV,eZ];rw[←fm];refine th (HE rfl (by omega) (by omega)) (th qk ?_);rw[Qf];exact he
theorem ud(hD:0<Df)(h:Ht Df N q)(h1:Lg KB Df)(h2:Lg KB N):Qz KB q:=by
 obtain⟨a,b⟩:=F9 hD h;exact⟨p8 h2 a,p8 h1 b⟩
theorem Pd{X Y:D}(hs:n<1000000000){P:Option D→Prop}(hφ:1000000000≤φ)(hX:∀s K,ek X s K=K (.i .i64 (.ofNat m)) s)(hR:∀bs,bs[0]?=some ⟨rs (lst n (λ_=>0)),.rw⟩→P (lp (λ(_ _ _ _ _:D)(_:LS)=>none) (mI φ) φ Y (.sl 0 0 n n 3 true) X (.i .i64 (.ofNat m)) (.i .i64 (.ofNat 0)) (mem bs))):∀(j i f:Nat)(bs:List Blk),i+j=n→j<f→bs[0]?=some ⟨fl3 (lst i (λ_=>0)) j,.rw⟩→
 P (lp (λ(_ _ _ _ _:D)(_:LS)=>none) (mH φ) f X Y (.sl 0 0 n n 3 true) (.i .i64 (.ofNat n)) (.i .i64 (.ofNat i)) (mem bs)):=by
 intro j
 induction j with
 |zero=>
  intro i f bs hi hf hb;obtain⟨f,rfl⟩:∃q,f=q+1:=⟨f-1,by omega⟩
  have:i=n:=by omega
  subst this;rw[Qg]at hb;have h1:=hR bs hb;rw[eO];unfold mH;rw[fy (bS i),eM,hX];exact h1
 |succ j ih=>
  intro i f bs hi hf hb;obtain⟨f,rfl⟩:∃q,f=q+1:=⟨f-1,by omega⟩
  have h1:=ih (i+1) f (bs.set 0 ⟨fl3 (lst (i+1) (λ_=>0)) j,.rw⟩) (by omega) (by omega) (by rw[ao (fE hb)]);have hw:=V2 (q:=0) (n:=n) (c:=n) (ex:=true) (kk:=.i64) (K:=λ_ s=>ee (.i .i64 (.ofNat i)) (.i .i64 (.ofNat 1)) λx24=>lp (λ(_ _ _ _ _:D)(_:LS)=>none) (mH φ) f X Y (.sl 0 0 n n 3 true) (.i .i64 (.ofNat n)) x24 s) hb (by rw[iU];omega);rw[iU]at hw;have e:lp (λ(_ _ _ _ _:D)(_:LS)=>none) (mH φ) (f+1) X Y (.sl 0 0 n n 3 true) (.i .i64 (.ofNat n)) (.i .i64 (.ofNat i)) (mem bs)=lp (λ(_ _ _ _ _:D)(_:LS)=>none) (mH φ) f X Y (.sl 0 0 n n 3 true) (.i .i64 (.ofNat n)) (.i .i64 (.ofNat (i+1))) (mem (bs.set 0 ⟨fl3 (lst (i+1) (λ_=>0)) j,.rw⟩)):=by
   rw[eO];unfold mH;refine th (fk (by omega)) (th eP (th (fP PB) (hw.trans (th (fM (by omega)) ?_))));rw[←rf];rfl
  rw[e];exact h1
def paV(f g:Row)(i j:Nat):Vec:=λk=>pmV f g i k+(if i≤k∧k<i+j then ent f i*ent g (k-i)else 0)
theorem YJ:paV f g i 0=pmV f g i:=by
 funext k;unfold paV;rw[aE (by omega)];grind
theorem TC(hg:g.length=m):paV f g i m=pmV f g (i+1):=by
 funext k;unfold paV;rw[yn];by_cases h:i≤k
 ·rw[aC h];by_cases h1:k<i+m
  ·rw[aC ⟨h,h1⟩]
  ·rw[aE (by omega),gL (r:=g) (i:=k-i) (by omega)];grind
 ·rw[aE (by omega),aE h]
theorem WM{j:Nat}:paV f g i j (i+j)=pmV f g i (i+j):=by unfold paV;rw[aE (by omega)];grind
theorem TB{j:Nat}:paV f g i (j+1) (i+j)=pmV f g i (i+j)+ent f i*ent g j:=by
 unfold paV;rw[aC (by omega),show i+j-i=j by omega]
theorem TA{j:Nat}(h:k≠i+j):paV f g i (j+1) k=paV f g i j k:=by
 unfold paV;by_cases h1:i≤k∧k<i+j
 ·rw[aC h1,aC (by omega)]
 ·rw[aE h1,aE (by omega)]
theorem BK{l:Row}(h:i<l.length):ent (l.set i q) k=if k=i then q else ent l k:=by
 unfold ent;simp only[aH];by_cases hk:k=i
 ·subst hk;rw[ao h,aC rfl];rfl
 ·rw[bV (Ne.symm hk),aE hk]
theorem gY{bs:List Blk}{b x:Blk}{k:Nat}(h:bs[k]?=some b):(bs++[x])[k]?=some b:=by rw[bQ (fE h)];exact h
theorem FX{bs:List Blk}{q:Rat}{K:D→LS→Rs}:eS 3 (mem (bs++[⟨rcs q,.rw⟩])) (.ptr bs.length 0) K=K (rc q) (mem (bs++[⟨rcs q,.rw⟩])):=wb (by simp)
structure MB (f g:Row) (Df N Dg M:Nat):Prop where
 hf:Hb Df N f
 hg:Hb Dg M g
 d0:0<Df
 e0:0<Dg
 l1:Lg KB Df
 l2:Lg KB N
 l3:Lg KB Dg
 l4:Lg KB M
 l5:Lg KB (Df*Dg)
 l6:Lg KB ((f.length+1)*(N*M))
theorem MB.qf(h:MB f g Df N Dg M)(i:Nat):Qz KB (ent f i):=ud h.d0 (h.hf i) h.l1 h.l2
theorem MB.qg(h:MB f g Df N Dg M)(i:Nat):Qz KB (ent g i):=ud h.e0 (h.hg i) h.l3 h.l4
theorem MB.qp(h:MB f g Df N Dg M)(i j:Nat):Qz KB (ent f i*ent g j):=
 ud (cW h.d0 h.e0) (vq (h.hf i) (h.hg j)) h.l5 (p8 h.l6 (by rw[aP,bE];omega))
theorem MB.qs(h:MB f g Df N Dg M)(hi:i≤f.length)(k:Nat):Qz KB (pmV f g i k):=
 ud (cW h.d0 h.e0) (PM h.hf h.hg) h.l5 (p8 h.l6 (aL _ (by omega)))
theorem WU{X:D}(hB:MB f g Df N Dg M)(hn:f.length=n)(hm:g.length=m)(hc:c=n+m-1)(hs:n+m<1000000000)(hφ:3000000000≤φ){ey:Bool}{j33:D→D→D→D→D→LS→Rs}(hi:i<n){P:Option D→Prop}(hR:∀bs out,bs[0]?=some ⟨rs out,.rw⟩→out.length=c→(∀k,k<c→ent out k=pmV f g (i+1) k)→P (j33 (.tree (rs g) m ey) (.sl 0 0 c c 3 true) X (.i .i64 (.ofNat n)) (.i .i64 (.ofNat i)) (mem bs))):∀(t j fu k:Nat)(bs:List Blk)(out:Row),j+t=m→t<fu→bs[0]?=some ⟨rs out,.rw⟩→bs[k]?=some ⟨rcs (ent f i),.rw⟩→k≠0→out.length=c→(∀k,k<c→ent out k=paV f g i j k)→
 P (lp (λ(_ _ _ _ _ _ _ _ _ _:D)(_:LS)=>none) (nE φ j33) fu (.tree (rs g) m ey) (.sl 0 0 c c 3 true) (.i .i64 (.ofNat i)) (.ptr k 0) X (.i .i64 (.ofNat n)) (.i .i64 (.ofNat i)) (.tree (rs g) m ey) (.i .i64 (.ofNat m)) (.i .i64 (.ofNat j)) (mem bs)):=by
 intro t
 induction t with
 |zero=>
  intro j fu k bs out hj hf h0 hk hk0 hl hv;obtain⟨fu,rfl⟩:∃q,fu=q+1:=⟨fu-1,by omega⟩
  have:j=m:=by omega
  subst this;rw[eO];unfold nE;rw[fy (bS j),eM];exact hR bs out h0 hl (λk hk=>by rw[hv k hk,TC hm])
 |succ t ih=>
  intro j fu k bs out hj hf h0 hk hk0 hl hv;obtain⟨fu,rfl⟩:∃q,fu=q+1:=⟨fu-1,by omega⟩
  have e1:ent out (i+j)=pmV f g i (i+j):=by rw[hv _ (by omega),WM]
  have h1:=ih (j+1) fu k ((bs++[(⟨rcs (ent g j),.rw⟩:Blk)]).set 0 ⟨rs (out.set (i+j) (pmV f g i (i+j)+ent f i*ent g j)),.rw⟩) (out.set (i+j) (pmV f g i (i+j)+ent f i*ent g j)) (by omega) (by omega) (by rw[ao (by simp)]) (by rw[bV (Ne.symm hk0)];exact gY hk) hk0 (by rw[bD];exact hl) (λk hk=>by
   rw[BK (by omega)];by_cases h:k=i+j
   ·rw[aC h,h,TB]
   ·rw[aE h,hv k hk,TA h])
  have e:lp (λ(_ _ _ _ _ _ _ _ _ _:D)(_:LS)=>none) (nE φ j33) (fu+1) (.tree (rs g) m ey) (.sl 0 0 c c 3 true) (.i .i64 (.ofNat i)) (.ptr k 0) X (.i .i64 (.ofNat n)) (.i .i64 (.ofNat i)) (.tree (rs g) m ey) (.i .i64 (.ofNat m)) (.i .i64 (.ofNat j)) (mem bs)=
   lp (λ(_ _ _ _ _ _ _ _ _ _:D)(_:LS)=>none) (nE φ j33) fu (.tree (rs g) m ey) (.sl 0 0 c c 3 true) (.i .i64 (.ofNat i)) (.ptr k 0) X (.i .i64 (.ofNat n)) (.i .i64 (.ofNat i)) (.tree (rs g) m ey) (.i .i64 (.ofNat m)) (.i .i64 (.ofNat (j+1))) (mem ((bs++[(⟨rcs (ent g j),.rw⟩:Blk)]).set 0 ⟨rs (out.set (i+j) (pmV f g i (i+j)+ent f i*ent g j)),.rw⟩)):=by
   rw[eO]
   conv=>lhs;unfold nE
   refine th (fk (by omega)) (th eP (th (p9 hm (by omega)) (th (xr rfl) (th (fM (by omega)) (th (fM (by omega)) (th (HP (gY h0) rfl rfl (by omega) (by omega)) (th (wb (gY hk)) (th (wb (by simp)) (th (oC (Oz (hB.qf i) (hB.qg j) hφ) rfl) ?_)))))))));rw[e1];exact th (oC (YH (hB.qs (by omega) (i+j)) (hB.qp i j) hφ) rfl) (th (Nd (gY h0) (by omega) (by omega)) (fM (by omega)))
  rw[e];exact h1
theorem WT(hB:MB f g Df N Dg M)(hn:f.length=n)(hm:g.length=m)(hc:c=n+m-1)(hs:n+m<1000000000)(hφ:3000000000≤φ){ex ey:Bool}:∀(t i fu:Nat)(bs:List Blk)(out:Row),i+t=n→t<fu→bs[0]?=some ⟨rs out,.rw⟩→out.length=c→(∀k,k<c→ent out k=pmV f g i k)→
 ∃e,lp (λ(_ _ _ _ _:D)(_:LS)=>none) (mI φ) fu (.tree (rs g) m ey) (.sl 0 0 c c 3 true) (.tree (rs f) n ex) (.i .i64 (.ofNat n)) (.i .i64 (.ofNat i)) (mem bs)=some (.tree (rs (gP f g)) (gP f g).length e):=by
 intro t
 induction t with
 |zero=>
  intro i fu bs out hi hf h0 hl hv;obtain⟨fu,rfl⟩:∃q,fu=q+1:=⟨fu-1,by omega⟩
  have:i=n:=by omega
  subst this;have e1:out=lst c (xV f g):=yw hl (λk hk=>by rw[hv k hk,←K4,hn]);obtain⟨e,he⟩:=SD (φ:=φ) (bs:=bs) (c:=c) (ex:=true) h0 hl (by omega) (by omega);refine⟨e,?_⟩;rw[eO];unfold mI;refine th (fy (by omega)) (th eM (he.trans ?_));unfold gP;rw[e1,hc,hn,hm]
 |succ t ih=>
  intro i fu bs out hi hf h0 hl hv;obtain⟨fu,rfl⟩:∃q,fu=q+1:=⟨fu-1,by omega⟩
  by_cases hz:ent f i=0
  ·obtain⟨e,he⟩:=ih (i+1) fu (bs++[(⟨rcs (ent f i),.rw⟩:Blk)]) out (by omega) (by omega) (gY h0) hl (λk hk=>by rw[hv k hk,PL hz]);refine⟨e,?_⟩;rw[eO];unfold mI;refine th (fk (by omega)) (th eP (th ph (th (p9 hn (by omega)) (th (xr rfl) (th FX (th (jo rZ rfl) ?_))))));rw[aS hz];exact th eP (th (fM (by omega)) he)
  ·have key:=WU (φ:=φ) (X:=.tree (rs f) n ex) (ey:=ey) (i:=i) (P:=λo=>∃e,o=some (.tree (rs (gP f g)) (gP f g).length e)) (j33:=λ(x34 x35 x36 x37 x38:D)(s:LS)=>ee x38 (.i .i64 (.ofNat 1)) λx39=>lp (λ(_ _ _ _ _:D)(_:LS)=>none) (mI φ) fu x34 x35 x36 x37 x39 s) hB hn hm hc hs hφ (by omega) (λbs' out' g0 gl gv=>by
    obtain⟨e,he⟩:=ih (i+1) fu bs' out' (by omega) (by omega) g0 gl gv;exact⟨e,th (fM (by omega)) he⟩) m 0 φ bs.length (bs++[(⟨rcs (ent f i),.rw⟩:Blk)]) out (by omega) (by omega) (gY h0) (by simp) (by have:=fE h0;omega) hl (λk hk=>by rw[YJ];exact hv k hk)
   obtain⟨e,he⟩:=key;refine⟨e,?_⟩;rw[eO];unfold mI;refine th (fk (by omega)) (th eP (th ph (th (p9 hn (by omega)) (th (xr rfl) (th FX (th (jo rZ rfl) ?_))))));rw[aN hz];exact th eM (th fH he)
theorem YD(hB:MB f g Df N Dg M)(hn:f.length=n)(hm:g.length=m)(hs:n+m<1000000000)(hφ:3000000000≤φ){ex ey:Bool}:∃e,pu φ [.tree (rs f) n ex,.tree (rs g) m ey]=some (.tree (rs (gP f g)) (gP f g).length e):=by
 by_cases hz:n=0∨m=0
 ·have e0:gP f g=[]:=by
   unfold gP;refine vJ λi=>?_;rw[kM];split
   ·refine vD λt ht=>?_;rcases hz with h|h
    ·omega
    ·split
     ·rw[gL (r:=g) (i:=i-t) (by omega)];grind
     ·rfl
   ·rfl
  refine⟨true,?_⟩;rw[e0];unfold pu;dsimp only[eV,eZ];refine th fH ?_;by_cases h:n=0
  ·exact th (qE h) (th jZ (th jZ (th jZ (th fe (th eP yf)))))
  ·exact th (tO h) (th gA (th gA (th fH (th gA (th (qE (by omega)) (th gE (th eP yf)))))))
 ·obtain⟨e,he⟩:=Pd (φ:=φ) (m:=n) (n:=n+m-1) (X:=.tree (rs f) n ex) (Y:=.tree (rs g) m ey) (by omega) (P:=λo=>∃e,o=some (.tree (rs (gP f g)) (gP f g).length e)) (by omega) (λs K=>fH) (λbs h0=>WT hB hn hm rfl hs hφ n 0 φ bs (lst (n+m-1) λ_=>0) (by omega) (by omega) h0 iU (λk hk=>by rw[kM,aC hk];rfl)) (n+m-1) 0 φ [⟨fl3 [] (n+m-1),.rw⟩] (by omega) (by omega) rfl;refine⟨e,?_⟩;unfold pu;dsimp only[eV,eZ];rw[←fm];refine th fH (th (tO (by omega)) (th gA (th gA (th fH (th gA (th (tO (by omega)) (th gE (th eM (th fH (th fH (th (fM (by omega)) (th (gR (by omega) (by omega)) (th (HE rfl (by omega) (by omega)) (th qk ?_))))))))))))));rw[Qf];exact he
end
section
variable {bs:List Blk} {l f g:Row} {b:Blk} {i k n m c N M Df Dg:Nat} {ex:Bool} {s:LS} {K:D→LS→Rs} {kk:IntKind} {q p:Rat} {φ:Nat}
theorem Ue{z bytes:Nat}{cs:List D}(hb:bs[k]?=some ⟨[],.rw⟩)(hc:cs.length=n*z)(h1:cs.all one=true)(hs:n*bytes≤1099511627776)(hn:n≤1099511627776):
 ∃j c e bs',mF z bytes (mem bs) (.sl k 0 0 0 z true) (.tree cs n ex) K=K (.sl j 0 n c z e) (mem bs')∧bs'[j]?=some ⟨cs,.rw⟩∧(n≠0→c=n∧e=false∧j=bs.length∧bs'=bs++[⟨cs,.rw⟩]):=by
 have hcell:∀F:List D→Nat→Rs,oQ z (mem bs) (.tree cs n ex) F=F cs n:=λF=>U4 hc;by_cases h0:n=0
 ·subst h0;have:cs=[]:=a8 (by omega);subst this;refine⟨k,0,true,bs.set k ⟨[],.rw⟩,?_,by rw[ao (fE hb)],λh=>absurd rfl h⟩;show oQ z (mem bs) (.tree [] 0 ex) _=_;rw[hcell];show(jQ (mem bs) k λb=>cnd (wr b.st) (cnd (Nat.beq z z) (pi [] (frc (Nat.add 0 0) λtot=>cnd (Nat.ble (Nat.mul tot bytes) 1099511627776) (cnd (Nat.ble tot 1099511627776) (cnd (Nat.ble tot 0) (ur (Nat.add 0 (Nat.mul 0 z)) [] b.cs λcs=>oN (mem bs) k ⟨cs,.rw⟩ λs=>K (.sl k 0 tot 0 z true) s) _) none) none)) none) none)=_;rw[gu hb,DY,show Stt.rw.wr=true from rfl,eL,ej,eL,qm rfl,fA,aF (show Nat.mul (Nat.add 0 0) bytes≤_ by show 0*bytes≤_;omega),aF (show Nat.add 0 0≤_ by omega),eL,eL,aF (aD 0),eL,od];have:Ae (Nat.add 0 (Nat.mul 0 z)) [] ([]:List D)=some []:=by
   rw[show Nat.add 0 (Nat.mul 0 z)=0 by show 0+0*z=0;omega];rfl
  rw[this,gN,pa (fE hb)]
 ·refine⟨bs.length,n,false,bs++[⟨cs,.rw⟩],?_,by simp,λ_=>⟨rfl,rfl,rfl,rfl⟩⟩;show oQ z (mem bs) (.tree cs n ex) _=_;rw[hcell];show(jQ (mem bs) k λb=>cnd (wr b.st) (cnd (Nat.beq z z) (pi cs (frc (Nat.add 0 n) λtot=>cnd (Nat.ble (Nat.mul tot bytes) 1099511627776) (cnd (Nat.ble tot 1099511627776) (cnd (Nat.ble tot 0) _ (iz 0 b.cs λr=>iy (Nat.mul 0 z) r λold=>l7 old cs λcs=>cnd true (ku (mem bs) ⟨cs,.rw⟩ λs'=>K (.sl (mem bs).nx 0 tot tot z false) s') _)) none) none)) none) none)=_;rw[gu hb,DY,show Stt.rw.wr=true from rfl,eL,ej,eL,qm h1,fA,show Nat.add 0 n=n from aV n,aF (show Nat.mul n bytes≤_ from hs),aF hn,eL,eL,kY (show ¬n≤0 by omega),e9,gB,aj,i9,
   aC (show Nat.mul 0 z≤([]:List D).length by show 0*z≤0;omega),gT,eL,ln,js]
  show K _ (mem (bs++[⟨List.take (Nat.mul 0 z) ([]:List D)++cs,.rw⟩]))=_;rw[List.take_nil];rfl
theorem Ks{zero:List D}{z:Nat}(hz:zero.length=z):jY 0 zero [] (mem bs) K=K (.sl bs.length 0 0 0 z true) (mem (bs++[⟨[],.rw⟩])):=by
 show(frc zero.length λz=>ku (mem bs) ⟨[],.rw⟩ λs'=>K (.sl (mem bs).nx 0 0 0 z true) s')=_;rw[fA,ln,js,hz]
theorem B4(l:Row):(rs l).all one=true:=by
 unfold rs
 induction l with
 |nil=>rfl
 |cons q l ih=>simp only[bB,qs,cJ,ih];rfl
theorem Io(hn:l.length=n)(hne:l≠[])(hs:n<1000000000):pP (fx φ) [.tree (rs l) n ex]=some (.own (rs l) n 3):=by
 have hcs:∃d r,rs l=d::r:=by
  cases l with
  |nil=>exact absurd rfl hne
  |cons q l=>exact⟨_,_,rfl⟩
 obtain⟨d,r,hd⟩:=hcs;have h1:pP (fx φ) [.tree (rs l) n ex]=fx φ [.tree (rs l) n ex]:=by rw[hd];rfl
 rw[h1];unfold fx;dsimp only[eV,eZ];rw[←fm];have h2:∀F:D→LS→Rs,wg false (mem []) (.tree (rs l) n ex) F=F (.b false) (mem []):=λF=>by rw[hd];rfl
 obtain⟨j,c,e,bs',a1,a2,a3⟩:=Ue (bs:=[⟨[],.rw⟩]) (k:=0) (z:=3) (bytes:=40) (n:=n) (cs:=rs l) (ex:=ex) (K:=λx4 s=>eX true s x4 some) rfl (by rw[oa,hn]) (B4 l) (by omega) (by omega);refine th (h2 _) (th eM (th (Ks rfl) (a1.trans ?_)));have hn0:n≠0:=by rw[←hn];exact λh=>hne (a8 h)
 obtain⟨rfl,rfl,rfl,rfl⟩:=a3 hn0;rw[ye (by simp) (rW l) (by rw[oa,hn];exact aD _),tX hn]
structure DB (f g:Row) (n m Df N M:Nat):Prop where
 hn:f.length=n
 hm:g.length=m
 hm2:2≤m
 hnm:m≤n
 hs:n<1000000000
 hf:Hb Df N f
 hg:Hb 1 M g
 h1:ent g (m-1)=1
 d0:0<Df
 l1:Lg KB Df
 l2:Lg KB M
 l3:Lg KB (N*(1+M)^(n+1-m))
def msV(g:Row)(k i:Nat)(v:Vec):Vec:=λt=>if k≤t∧t<k+i then v t-v (k+g.length-1)*ent g (t-k)else v t
theorem YP{v:Vec}:msV g k 0 v=v:=by funext t;unfold msV;rw[aE (by omega)]
theorem TU{v:Vec}(hm:g.length=m)(h1:ent g (m-1)=1):msV g k m v=stV g k v:=by
 funext t;unfold msV stV;rw[hm,h1,show(1:Rat)⁻¹ =1 by(have:=cw 1 (by decide);rwa[dL]at this),dL];by_cases h:k≤t
 ·rw[aC h];by_cases h2:t<k+m
  ·rw[aC ⟨h,h2⟩]
  ·rw[aE (by omega),gL (r:=g) (i:=t-k) (by omega)];grind
 ·rw[aE (by omega),aE h]
theorem Jd(hd:DB f g n m Df N M)(hφ:3000000000≤φ){ey er:Bool}{Q I:D}{B:Nat}{v:Vec}(hv:∀t,Ht Df B (v t))(hB:Lg KB (B*(1+M)))(hk:k+m≤n){j39:D→D→D→D→D→D→LS→Rs}{P:Option D→Prop}{q0:Nat}{qv:Row}{kc:Nat}(hq0:q0≠0)(hkc:kc≠0)
 (ip:Nat) (hip:ip≠0) (iv:Rat) (hR:∀bs r,bs[0]?=some ⟨rs r,.rw⟩→bs[q0]?=some ⟨rs qv,.rw⟩→bs[ip]?=some ⟨rcs iv,.rw⟩→r.length=n→(∀t,t<n→ent r t=stV g k v t)→P (j39 (.tree (rs g) m ey) (.sl 0 0 n n 3 er) (.i .i64 (.ofNat m)) Q I (.i .i64 (.ofNat k)) (mem bs))):
 ∀(t i fu:Nat)(bs:List Blk)(r:Row),i+t=m→t<fu→bs[0]?=some ⟨rs r,.rw⟩→bs[q0]?=some ⟨rs qv,.rw⟩→bs[ip]?=some ⟨rcs iv,.rw⟩→bs[kc]?=some ⟨rcs (v (k+m-1)),.rw⟩→r.length=n→(∀t,t<n→ent r t=msV g k i v t)→
 P (lp (λ(_ _ _ _ _ _ _ _ _:D)(_:LS)=>none) (jz φ j39) fu (.tree (rs g) m ey) (.sl 0 0 n n 3 er) (.i .i64 (.ofNat m)) Q I (.i .i64 (.ofNat k)) (.ptr kc 0) (.i .i64 (.ofNat m)) (.i .i64 (.ofNat i)) (mem bs)):=by
 have hm:=hd.hm;have hs:=hd.hs;intro t
 induction t with
 |zero=>
  intro i fu bs r hi hf h0 hq hip' hkc' hl hr;obtain⟨fu,rfl⟩:∃q,fu=q+1:=⟨fu-1,by omega⟩
  have:i=m:=by omega
  subst this;rw[eO];unfold jz;rw[fy (bS i),eM];exact hR bs r h0 hq hip' hl (λt ht=>by rw[hr t ht,TU hm hd.h1])
 |succ t ih=>
  intro i fu bs r hi hf h0 hq hip' hkc' hl hr;obtain⟨fu,rfl⟩:∃q,fu=q+1:=⟨fu-1,by omega⟩
  have e1:ent r (k+i)=v (k+i):=by rw[hr _ (by omega)];unfold msV;rw[aE (by omega)]
  have hgi:=hd.hg i;have hc:=hv (k+m-1);have hprod:=vq hc hgi;rw[ai]at hprod;have hBM:B*M≤B*(1+M):=aZ _ (by omega);have hBB:B≤B*(1+M):=by rw[bA,ai];omega
  have z1:Qz KB (v (k+m-1)):=ud hd.d0 hc hd.l1 (p8 hB hBB);have z2:Qz KB (ent g i):=ud cy hgi (by unfold Lg;rw[show Nat.log2 1=0 from by decide];exact a9 _) hd.l2;have z3:Qz KB (v (k+m-1)*ent g i):=ud hd.d0 hprod hd.l1 (p8 hB hBM);have z4:Qz KB (v (k+i)):=ud hd.d0 (hv _) hd.l1 (p8 hB hBB);have h1:=ih (i+1) fu (bs.set 0 ⟨rs (r.set (k+i) (v (k+i)-v (k+m-1)*ent g i)),.rw⟩) (r.set (k+i) (v (k+i)-v (k+m-1)*ent g i)) (by omega) (by omega) (by rw[ao (fE h0)]) (gg (Ne.symm hq0) hq) (gg (Ne.symm hip) hip') (gg (Ne.symm hkc) hkc') (by rw[bD];exact hl) (λt ht=>by
   rw[BK (by omega)];by_cases h:t=k+i
   ·subst h;rw[aC rfl];unfold msV;rw[aC (by omega),hm,show k+i-k=i by omega]
   ·rw[aE h,hr t ht];unfold msV;by_cases h2:k≤t∧t<k+i
    ·rw[aC h2,aC (by omega)]
    ·rw[aE h2,aE (by omega)])
  have e:lp (λ(_ _ _ _ _ _ _ _ _:D)(_:LS)=>none) (jz φ j39) (fu+1) (.tree (rs g) m ey) (.sl 0 0 n n 3 er) (.i .i64 (.ofNat m)) Q I (.i .i64 (.ofNat k)) (.ptr kc 0) (.i .i64 (.ofNat m)) (.i .i64 (.ofNat i)) (mem bs)=
   lp (λ(_ _ _ _ _ _ _ _ _:D)(_:LS)=>none) (jz φ j39) fu (.tree (rs g) m ey) (.sl 0 0 n n 3 er) (.i .i64 (.ofNat m)) Q I (.i .i64 (.ofNat k)) (.ptr kc 0) (.i .i64 (.ofNat m)) (.i .i64 (.ofNat (i+1))) (mem (bs.set 0 ⟨rs (r.set (k+i) (v (k+i)-v (k+m-1)*ent g i)),.rw⟩)):=by
   rw[eO]
   conv=>lhs;unfold jz
   refine th (fk (by omega)) (th eP (th (fM (by omega)) (th (fM (by omega)) (th (HP h0 rfl rfl (by omega) (by omega)) (th (wb hkc') (th (p9 hm (by omega)) (th (oC (Oz z1 z2 hφ) rfl) ?_)))))));rw[e1];exact th (oC (Xw z4 z3 hφ) rfl) (th (Nd h0 (by omega) (by omega)) (fM (by omega)))
  rw[e];exact h1
theorem GI{bs:List Blk}{k c:Nat}{b:Blk}(hb:bs[k]?=some b)(hc:b.cs.take (n*3)=rs l)(hl:b.st.live=true)(hn:l.length=n)(hs:n<1000000000)(hφ:1000000000≤φ):∃e,eR (gF φ) [.sl k 0 n c 3 ex] (mem bs) K=K (.tree (rs (e8 l)) (e8 l).length e) (mem (bs.set k ⟨b.cs,fzS b.st⟩)):=
 JS hb hc hl hn (λex'=>Ez hn (by omega) (by omega))
def DvR(f g:Row)(o:Option D):Prop:=∃qs' nq e e',o=some (.tup [.tree qs' nq e,.tree (rs (iL g f)) (iL g f).length e'])
theorem UW(hd:DB f g n m Df N M)(hφ:3000000000≤φ){ey er:Bool}{nq:Nat}(hnq:nq=n-m+1):∀(k fu B:Nat)(bs:List Blk)(r qv:Row)(v:Vec),k≤nq→k<fu→bs[0]?=some ⟨rs r,.rw⟩→bs[1]?=some ⟨rs qv,.rw⟩→bs[2]?=some ⟨rcs 1,.rw⟩→r.length=n→qv.length=nq→(∀t,t<n→ent r t=v t)→(∀t,Ht Df B (v t))→Lg KB (B*(1+M)^k)→uo g k v=uo g nq (ent f)→
 DvR f g (lp (λ(_ _ _ _ _ _:D)(_:LS)=>none) (i8 φ) fu (.tree (rs g) m ey) (.sl 0 0 n n 3 er) (.i .i64 (.ofNat m)) (.sl 1 0 nq nq 3 true) (.ptr 2 0) (ix k) (mem bs)):=by
 have hm:=hd.hm;have hs:=hd.hs;have hm2:=hd.hm2;have hnm:=hd.hnm;intro k
 induction k with
 |zero=>
  intro fu B bs r qv v hk hf h0 hq hi hl hql hr hv hB hrem;obtain⟨fu,rfl⟩:∃q,fu=q+1:=⟨fu-1,by omega⟩
  have hres:iL g f=e8 (r.take (m-1)):=by
   unfold iL;rw[hd.hn,hm,show n+1-m=nq by omega,←hrem];refine oK λi=>?_;rw[kM,Qr];by_cases h:i<m-1
   ·rw[aC h,aC h,hr i (by omega)];rfl
   ·rw[aE h,aE h]
  obtain⟨e1,h1⟩:=GI (bs:=bs) (k:=1) (c:=nq) (ex:=true) (n:=nq) (φ:=φ) (K:=λx81 s=>et (.i .i64 (.ofNat m)) (.i .i64 (.ofNat 1)) λx82=>kg 3 s (.sl 0 0 n n 3 er) none (some x82) none λx83 s=>eR (gF φ) [x83] s λx84 s=>eX false s (.tup [x81,x84]) some) hq (tX hql) rfl hql (by omega) (by omega);have g0:(bs.set 1 ⟨rs qv,fzS .rw⟩)[0]?=some ⟨rs r,.rw⟩:=gg (by omega) h0;obtain⟨e2,h2⟩:=GI (bs:=bs.set 1 ⟨rs qv,fzS .rw⟩) (k:=0) (c:=n) (ex:=er) (n:=m-1) (l:=r.take (m-1)) (φ:=φ) (K:=λx84 s=>eX false s (.tup [.tree (rs (e8 qv)) (e8 qv).length e1,x84]) some) g0 (by show(rs r).take ((m-1)*3)=_;exact Eh) rfl (by rw[ah];omega) (by omega) (by omega);refine⟨rs (e8 qv),(e8 qv).length,e1,e2,?_⟩;rw[hres,eO];unfold i8;exact th tK (th eM (h1.trans (th (gR (by omega) (by omega)) (th (Ed g0 rfl (by omega) (by omega)) (h2.trans B6)))))
 |succ k ih=>
  intro fu B bs r qv v hk hf h0 hq hi hl hql hr hv hB hrem;obtain⟨fu,rfl⟩:∃q,fu=q+1:=⟨fu-1,by omega⟩
  have hBk:B*(1+M)≤B*(1+M)^(k+1):=by
   refine aZ _ ?_;rw[av];have:1≤(1+M)^k:=bR (by omega);have:=aL (1+M) this;omega
  have hB1:Lg KB (B*(1+M)):=p8 hB hBk;have hBB:B≤B*(1+M):=by rw[bA,ai];omega
  have zc:Qz KB (v (k+m-1)):=ud hd.d0 (hv _) hd.l1 (p8 hB1 hBB);have z1:Qz KB 1:=⟨by show Lg KB 1;exact a9 _,by show Lg KB 1;exact a9 _⟩
  have ec:ent r (k+m-1)=v (k+m-1):=hr _ (by omega);have hB2:Lg KB ((B+B*M)*(1+M)^k):=by
   rw[show B+B*M=B*(1+M) by rw[bA,ai],aU,aK (1+M),←av];exact hB
  have hv2:∀t,Ht Df (B+B*M) (stV g k v t):=λt=>IS hd.hg (by rw[hm];exact hd.h1) hv t;have pre:lp (λ(_ _ _ _ _ _:D)(_:LS)=>none) (i8 φ) (fu+1) (.tree (rs g) m ey) (.sl 0 0 n n 3 er) (.i .i64 (.ofNat m)) (.sl 1 0 nq nq 3 true) (.ptr 2 0) (ix (k+1)) (mem bs)=
   eQ (.b (decide (v (k+m-1)=0)))
    (et (.i .i64 (.ofNat k)) (.i .i64 (.ofNat 1)) λx46=>lp (λ(_ _ _ _ _ _:D)(_:LS)=>none) (i8 φ) fu (.tree (rs g) m ey) (.sl 0 0 n n 3 er) (.i .i64 (.ofNat m)) (.sl 1 0 nq nq 3 true) (.ptr 2 0) x46 (mem ((bs++[(⟨rcs (v (k+m-1)),.rw⟩:Blk)]).set 1 ⟨rs (qv.set k (v (k+m-1))),.rw⟩)))
    (lp (λ(_ _ _ _ _ _ _ _ _:D)(_:LS)=>none) (jz φ (λ(x40 x41 x42 x43 x44 x45:D)(s:LS)=>et x45 (.i .i64 (.ofNat 1)) λx46=>lp (λ(_ _ _ _ _ _:D)(_:LS)=>none) (i8 φ) fu x40 x41 x42 x43 x44 x46 s)) φ (.tree (rs g) m ey) (.sl 0 0 n n 3 er) (.i .i64 (.ofNat m)) (.sl 1 0 nq nq 3 true) (.ptr 2 0) (.i .i64 (.ofNat k)) (.ptr bs.length 0) (.i .i64 (.ofNat m)) (.i .i64 (.ofNat 0)) (mem ((bs++[(⟨rcs (v (k+m-1)),.rw⟩:Blk)]).set 1 ⟨rs (qv.set k (v (k+m-1))),.rw⟩))):=by
   rw[eO]
   conv=>lhs;unfold i8
   refine th (qC (by omega)) (th eP (th ph (th (fM (by omega)) (th (gR (by omega) (by omega)) (th (HP h0 rfl rfl (by omega) (by omega)) ?_)))));rw[ec];refine th (wb hi) (th (oC (Oz zc z1 hφ) rfl) ?_);rw[dL];have hl1:1<bs.length:=fE hq;refine th (xr rfl) (th FX (th (Nd (gY hq) (by omega) (by omega)) (th (wb (q:=v (k+m-1)) ?_) (th (jo rZ rfl) ?_))))
   ·rw[bV (by omega)];simp
   ·rfl
  rw[pre];have hlen:=fE hi;have G0:((bs++[(⟨rcs (v (k+m-1)),.rw⟩:Blk)]).set 1 ⟨rs (qv.set k (v (k+m-1))),.rw⟩)[0]?=some ⟨rs r,.rw⟩:=gg (by omega) (gY h0);have G1:((bs++[(⟨rcs (v (k+m-1)),.rw⟩:Blk)]).set 1 ⟨rs (qv.set k (v (k+m-1))),.rw⟩)[1]?=some ⟨rs (qv.set k (v (k+m-1))),.rw⟩:=ao (by simp;omega);have G2:((bs++[(⟨rcs (v (k+m-1)),.rw⟩:Blk)]).set 1 ⟨rs (qv.set k (v (k+m-1))),.rw⟩)[2]?=some ⟨rcs 1,.rw⟩:=gg (by omega) (gY hi);have G3:((bs++[(⟨rcs (v (k+m-1)),.rw⟩:Blk)]).set 1 ⟨rs (qv.set k (v (k+m-1))),.rw⟩)[bs.length]?=some ⟨rcs (v (k+m-1)),.rw⟩:=by rw[bV (by omega)];simp
  have hst:uo g (k+1) v=uo g k (stV g k v):=rfl;by_cases hz:v (k+m-1)=0
  ·rw[aS hz,eP,CQ (by omega)];have hsv:stV g k v=v:=y8 (by rw[hm];exact hz);rw[hst,hsv]at hrem;exact ih fu B _ r (qv.set k (v (k+m-1))) v (by omega) (by omega) G0 G1 G2 hl (by rw[bD];exact hql) hr hv (p8 hB (aZ _ (by rw[av];exact Nat.le_mul_of_pos_right _ (by omega)))) hrem
  ·rw[aN hz,eM];refine Jd (P:=DvR f g) (qv:=qv.set k (v (k+m-1))) hd hφ hv hB1 (by omega) (q0:=1) (by omega) (kc:=bs.length) (by omega) 2 (by omega) 1 (λbs' r' a0 a1 a2 al ar=>?_) m 0 φ _ r (by omega) (by omega) G0 G1 G2 G3 hl (λt ht=>by rw[YP];exact hr t ht);rw[CQ (by omega)];rw[hst]at hrem;exact ih fu (B+B*M) bs' r' (qv.set k (v (k+m-1))) (stV g k v) (by omega) (by omega) a0 a1 a2 al (by rw[bD];exact hql) ar hv2 hB2 hrem
theorem Qx{n':Nat}{F X:D}(hs:n<1000000000){P:Option D→Prop}{mm:D}(hR:∀bs,bs[0]?=some b→bs[1]?=some ⟨rs (lst n (λ_=>0)),.rw⟩→bs.length=2→P ((et mm (.i .i64 (.ofNat 1)) λx24=>
 eK 3 (mem bs) X x24 λx25 s=>
 eS 3 s x25 λx26 s=>
 eR (mJ φ) [x26] s λx27 s=>
 fq [(.b false),(.n 0),(.n 0)] s λx28 s=>
 eU 3 s x28 x27 λ_ s=>
 ek F s λx29 s=>
 et x29 mm λx30=>
 lp (λ(_ _ _ _ _ _:D)(_:LS)=>none) (i8 φ) φ X (.sl 0 0 n' n' 3 false) mm (.sl 1 0 n n 3 true) x28 x30 s))):∀(j i f:Nat)(bs:List Blk),i+j=n→j<f→bs[0]?=some b→bs[1]?=some ⟨fl3 (lst i (λ_=>0)) j,.rw⟩→bs.length=2→
 P (lp (λ(_ _ _ _ _ _ _:D)(_:LS)=>none) (jy φ) f F X (.sl 0 0 n' n' 3 false) mm (.sl 1 0 n n 3 true) (.i .i64 (.ofNat n)) (.i .i64 (.ofNat i)) (mem bs)):=by
 intro j
 induction j with
 |zero=>
  intro i f bs hi hf h0 hb hl;obtain⟨f,rfl⟩:∃q,f=q+1:=⟨f-1,by omega⟩
  have:i=n:=by omega
  subst this;rw[Qg]at hb;have h1:=hR bs h0 hb hl;rw[eO];unfold jy;rw[fy (bS i),eM];exact h1
 |succ j ih=>
  intro i f bs hi hf h0 hb hl;obtain⟨f,rfl⟩:∃q,f=q+1:=⟨f-1,by omega⟩
  have h1:=ih (i+1) f (bs.set 1 ⟨fl3 (lst (i+1) (λ_=>0)) j,.rw⟩) (by omega) (by omega) (gg (by omega) h0) (by rw[ao (fE hb)]) (by rw[bD];exact hl);have hw:=V2 (q:=0) (n:=n) (c:=n) (ex:=true) (kk:=.i64) (K:=λ_ s=>ee (.i .i64 (.ofNat i)) (.i .i64 (.ofNat 1)) λx24=>lp (λ(_ _ _ _ _ _ _:D)(_:LS)=>none) (jy φ) f F X (.sl 0 0 n' n' 3 false) mm (.sl 1 0 n n 3 true) (.i .i64 (.ofNat n)) x24 s) hb (by rw[iU];omega);rw[iU]at hw;have e:lp (λ(_ _ _ _ _ _ _:D)(_:LS)=>none) (jy φ) (f+1) F X (.sl 0 0 n' n' 3 false) mm (.sl 1 0 n n 3 true) (.i .i64 (.ofNat n)) (.i .i64 (.ofNat i)) (mem bs)=lp (λ(_ _ _ _ _ _ _:D)(_:LS)=>none) (jy φ) f F X (.sl 0 0 n' n' 3 false) mm (.sl 1 0 n n 3 true) (.i .i64 (.ofNat n)) (.i .i64 (.ofNat (i+1))) (mem (bs.set 1 ⟨fl3 (lst (i+1) (λ_=>0)) j,.rw⟩)):=by
   rw[eO];unfold jy;refine th (fk (by omega)) (th eP (th (fP PB) (hw.trans (th (fM (by omega)) ?_))));rw[←rf];rfl
  rw[e];exact h1
theorem DvR.of{o o':Option D}(h:o=o')(h':DvR f g o'):DvR f g o:=by rw[h];exact h'
theorem Oy(hd:DB f g n m Df N M)(hφ:3000000000≤φ){ey:Bool}:DvR f g (jq φ [.tree (rs f) n ex,.tree (rs g) m ey]):=by
 have hm:=hd.hm;have hs:=hd.hs;have hm2:=hd.hm2;have hnm:=hd.hnm;have hfne:f≠[]:=λe=>by have:=hd.hn;subst e;simp at this;omega
 have hkey:=Qx (φ:=φ) (n':=n) (n:=n-m+1) (b:=⟨rs f,.rw⟩) (F:=.tree (rs f) n ex) (X:=.tree (rs g) m ey) (mm:=.i .i64 (.ofNat m)) (P:=DvR f g) (by omega) (λbs h0 h1 hl=>by
  have G0:(bs++[(⟨rcs 1,.rw⟩:Blk)])[0]?=some ⟨rs f,.rw⟩:=gY h0;have G1:(bs++[(⟨rcs 1,.rw⟩:Blk)])[1]?=some ⟨rs (lst (n-m+1) λ_=>0),.rw⟩:=gY h1;have G2:(bs++[(⟨rcs 1,.rw⟩:Blk)])[2]?=some ⟨rcs 1,.rw⟩:=by rw[←hl];simp
  have hi:=jo (s:=mem bs) (K:=λx27 s=>fq [(.b false),(.n 0),(.n 0)] s λx28 s=>
   eU 3 s x28 x27 λ_ s=>
   ek (.tree (rs f) n ex) s λx29 s=>
   et x29 (.i .i64 (.ofNat m)) λx30=>
   lp (λ(_ _ _ _ _ _:D)(_:LS)=>none) (i8 φ) φ (.tree (rs g) m ey) (.sl 0 0 n n 3 false) (.i .i64 (.ofNat m)) (.sl 1 0 (n-m+1) (n-m+1) 3 true) x28 x30 s) (Gj (φ:=φ) (p:=1) (by decide)) rfl
  rw[show(1:Rat)⁻¹ =1 by(have:=cw 1 (by decide);rwa[dL]at this)]at hi;refine DvR.of (th (gR (by omega) (by omega)) (th (p9 hm (by omega)) ?_)) (UW hd hφ (ey:=ey) (er:=false) rfl (n-m+1) φ N (bs++[(⟨rcs 1,.rw⟩:Blk)]) f (lst (n-m+1) λ_=>0) (ent f) (aD _) (by omega) G0 G1 G2 hd.hn iU (λt _=>rfl) hd.hf (by rw[show n-m+1=n+1-m by omega];exact hd.l3) rfl);rw[hd.h1];refine hi.trans (th (xr rfl) (th fH (th (gR (by omega) (by omega)) ?_)));rw[hl];rfl) (n-m+1) 0 φ [⟨rs f,.rw⟩,⟨fl3 [] (n-m+1),.rw⟩] (by omega) (by omega) rfl rfl rfl
 refine DvR.of ?_ hkey;unfold jq;dsimp only[eV,eZ];rw[←fm];refine th (xe (Io (φ:=φ) (ex:=ex) hd.hn hfne hs)) ?_;rw[lX,js];refine th fH (th fH (th (fy (by omega)) (th eM (th fH (th (gR (by omega) (by omega)) (th (fM (by omega)) (th (HE rfl (by omega) (by omega)) (th qk ?_))))))));rw[Qf];rfl
theorem wV(hn:f.length=n)(hm:g.length=m)(hnm:n<m)(hs:n<1000000000)(hp:Pt f){ey:Bool}:DvR f g (jq φ [.tree (rs f) n ex,.tree (rs g) m ey]):=by
 have hres:iL g f=f:=by
  unfold iL;rw[show f.length+1-g.length=0 by omega];show e8 (lst (g.length-1) (ent f))=f
  conv=>rhs;rw[←show e8 f=f from hp]
  refine oK λi=>?_;rw[kM];split
  ·rfl
  ·rw[gL (by omega)]
 unfold jq;dsimp only[eV,eZ];rw[←fm];by_cases hf:f=[]
 ·subst hf;have hn0:n=0:=by simpa using hn.symm
  subst hn0;refine⟨[],0,true,true,?_⟩;rw[hres];refine th (fP (r:=.tree [] 0 true) rfl) (th fH (th fH (th (fk hnm) (th eP ?_))));exact B6
 ·obtain⟨e,he⟩:∃e,eX false (mem [⟨rs f,.rw⟩]) (.tup [.tree [] 0 true,.sl 0 0 n n 3 false]) some=some (.tup [.tree [] 0 true,.tree (rs f) n e]):=by
   have h1:res (mem [⟨rs f,.rw⟩]).get 60 (.sl 0 0 n n 3 false)=some (.tree (rs f) n (false&&n==n),[0]):=by
    refine uN (n:=59) (r:=rs f) (ls:=[]) (by rw[mQ];rfl) rfl ?_ (kL (k:=58) _ (rW f));unfold cut;rw[aj,tX hn,aC (by rw[oa,hn])]
   exact⟨_,GX (A1:=.tree [] 0 true) (l1:=[]) rfl h1 rfl⟩
  refine⟨[],0,true,e,?_⟩;rw[hres,hn];refine th (xe (Io (φ:=φ) (ex:=ex) hn hf hs)) ?_;rw[lX,js];exact th fH (th fH (th (fk hnm) (th eP he)))
theorem YB{ey:Bool}(h:∀φ',φ'=φ→DvR f g (jq φ' [.tree (rs f) n ex,.tree (rs g) m ey])):∃e,pB φ [.tree (rs g) m ey,.tree (rs f) n ex]=some (.tree (rs (iL g f)) (iL g f).length e):=by
 obtain⟨qs',nq,e,e',he⟩:=h φ rfl;refine⟨e',?_⟩;unfold pB;dsimp only[eV,eZ];exact th (fP he) (th mS (th mR rY))
end
section
variable {bs bs':List Blk} {l f g r:Row} {b:Blk} {i k n m c N M Df Dg kr:Nat} {ex ey:Bool} {s:LS} {K:D→LS→Rs} {kk:IntKind} {q p:Rat} {φ:Nat} {X L T:D}
inductive RVal (bs:List Blk):D→Row→Prop
 |tr {l:Row} {e:Bool}:RVal bs (.tree (rs l) l.length e) l
 |sl {l:Row} {k c:Nat} {e:Bool} {b:Blk} (hb:bs[k]?=some b) (hc:b.cs.take (l.length*3)=rs l) (hl:b.st.live=true):RVal bs (.sl k 0 l.length c 3 e) l
theorem OH(h:RVal bs L l)(hi:i<l.length):(eK 3 (mem bs) L (.i kk (.ofNat i)) λa s=>eS 3 s a K)=K (rc (ent l i)) (mem bs):=by
 cases h with
 |tr=>exact p9 rfl hi
 | @sl _ k c e b hb hc hl=>
  have hle:=Np hc rfl;refine th (AB hb hl hi) ?_;rw[aV];refine th (Mi hb hl (by omega)) ?_;have:(b.cs.drop (i*3)).take 3=((b.cs.take (l.length*3)).drop (i*3)).take 3:=by
   rw[List.drop_take,List.take_take,bO (by omega)]
  rw[this,hc,Ei hi];rfl
theorem I5(h:RVal bs L l){s:LS}:ek L s K=K (.i .i64 (.ofNat l.length)) s:=by
 cases h with
 |tr=>rfl
 |sl _ _ _=>rfl
theorem S0(h:RVal bs L l)(hL:kI L kr)(hk:∀k b,k≠kr→bs[k]?=some b→bs'[k]?=some b):RVal bs' L l:=by
 cases h with
 |tr=>exact .tr
 | @sl _ k c e b hb hc hl=>exact .sl (hk k b (λe'=>hL 0 l.length c 3 e (by rw[e'])) hb) hc hl
theorem KJ(h:RVal bs L l){x:Blk}:RVal (bs++[x]) L l:=by
 cases h with
 |tr=>exact .tr
 |sl hb hc hl=>exact .sl (gY hb) hc hl
theorem IY{c:Nat}{e:Bool}(hb:bs[k]?=some ⟨rs l,.rw⟩):RVal bs (.sl k 0 l.length c 3 e) l:=.sl hb (tX rfl) rfl
theorem I7{M:List D→Option D}{v:D}(h:RVal bs L l)(hM:∀e,M [.tree (rs l) l.length e]=some v)(hf:tM v=true):eR M [L] (mem bs) K=K v (mem bs):=by
 have key:∀(e:Bool)(ls:List Nat),(ob (M [.tree (rs l) l.length e]) λr=>ju (mem bs) ls r K)=K v (mem bs):=by
  intro e ls;rw[hM,gN];unfold ju;rw[mU,hf];rfl
 cases h with
 | @tr _ e=>exact key e []
 | @sl _ k c e b hb hc hl=>
  obtain⟨e1,h1⟩:=If (bs:=bs) (c:=c) (ex:=e) (j:=58) (F:=λy a=>l7 a [] λab=>ob (M [y]) λr=>ju (mem bs) ab r K) hb hc hl rfl;refine Eq.trans h1 ?_;rw[gT];exact key e1 _
theorem S2{M:List D→Option D}{v L2:D}{l2:Row}(h:RVal bs L l)(h2:RVal bs L2 l2)(hM:∀e e',M [.tree (rs l) l.length e,.tree (rs l2) l2.length e']=some v)(hf:tM v=true):eR M [L,L2] (mem bs) K=K v (mem bs):=by
 have key:∀(e e':Bool)(ls:List Nat),(ob (M [.tree (rs l) l.length e,.tree (rs l2) l2.length e']) λr=>ju (mem bs) ls r K)=K v (mem bs):=by
  intro e e' ls;rw[hM,gN];unfold ju;rw[mU,hf];rfl
 have one:∀{L:D}{l:Row}(_:RVal bs L l)(F:D→List Nat→Rs),∃e ls,kJ (mem bs) 60 L F=F (.tree (rs l) l.length e) ls:=by
  intro L l h F;cases h with
  | @tr _ e=>exact⟨e,[],rfl⟩
  | @sl _ k c e b hb hc hl=>
   obtain⟨e1,h1⟩:=If (bs:=bs) (c:=c) (ex:=e) (j:=58) (F:=F) hb hc hl rfl;exact⟨e1,[k],h1⟩
 obtain⟨e1,ls1,g1⟩:=one h (λy a=>kJ (mem bs) 60 L2 λy2 b=>l7 b [] λab=>l7 a ab λab=>ob (M [y,y2]) λr=>ju (mem bs) ab r K);obtain⟨e2,ls2,g2⟩:=one h2 (λy2 b=>l7 b [] λab=>l7 ls1 ab λab=>ob (M [.tree (rs l) l.length e1,y2]) λr=>ju (mem bs) ab r K);refine Eq.trans g1 (Eq.trans g2 ?_);rw[gT,gT];exact key e1 e2 _
theorem Vh(h:RVal bs L l)(hb:bs[k]?=some b):RVal (bs.set k ⟨b.cs,fzS b.st⟩) L l:=by
 cases h with
 |tr=>exact .tr
 | @sl _ j c e b1 h1 hc hl=>
  by_cases hj:k=j
  ·subst hj;rw[hb]at h1;cases h1;refine .sl (b:=⟨b.cs,fzS b.st⟩) (by rw[ao (fE hb)]) hc ?_;cases hs:b.st<;>rw[hs]at hl<;>first|rfl|cases hl
  ·exact .sl (by rw[bV hj];exact h1) hc hl
theorem CX:∀(ls:List Nat)(bs:List Blk),(∀l,l∈ls→l<bs.length)→∃bs',bs'.length=bs.length∧(∀k b,k∉ls→bs[k]?=some b→bs'[k]?=some b)∧(∀L l,RVal bs L l→RVal bs' L l)∧∀F:LS→Rs,vR ls (mem bs) F=F (mem bs')
 |[],bs,_=>⟨bs,rfl,λ_ _ _ h=>h,λ_ _ h=>h,λF=>rfl⟩
 |l::ls,bs,h=>by
  obtain⟨b,hb⟩:∃b,bs[l]?=some b:=⟨bs[l]'(h l (by simp)),aB _⟩
  obtain⟨b1,g1,g2,g4,g3⟩:=CX ls (bs.set l ⟨b.cs,fzS b.st⟩) (λk hk=>by rw[bD];exact h k (by simp[hk]));refine⟨b1,by rw[g1,bD],λk x hk hx=>g2 k x (λhm=>hk (by simp[hm])) (by rw[bV (λe=>hk (by simp[e]))];exact hx),λL r hr=>g4 L r (Vh hr hb),λF=>?_⟩;show(jQ (mem bs) l λb=>oN (mem bs) l ⟨b.cs,fzS b.st⟩ λs=>vR ls s F)=_;rw[gu hb,pa (fE hb),g3]
theorem Qi{ls:List Nat}{v:D}(hp:rF v=true)(hl:∀l,l∈ls→l<bs.length):∃bs',bs'.length=bs.length∧(∀k b,k∉ls→bs[k]?=some b→bs'[k]?=some b)∧(∀L l,RVal bs L l→RVal bs' L l)∧∀K,ju (mem bs) ls v K=K v (mem bs'):=by
 by_cases hf:tM v=true
 ·refine⟨bs,rfl,λ_ _ _ h=>h,λ_ _ h=>h,λK=>?_⟩;unfold ju;rw[mU,hf];rfl
 ·obtain⟨b1,g1,g2,g4,g3⟩:=CX ls bs hl;refine⟨b1,g1,g2,g4,λK=>?_⟩;unfold ju;rw[mU,show tM v=false by simpa using hf];show vR ls (mem bs) (λs=>DP s v K)=_;rw[g3];unfold DP;split
  ·cases hp
  ·cases hp
  ·rfl
theorem UK{ls:List Nat}{cs:List D}{n z:Nat}(hl:∀l,l∈ls→l<bs.length):∃bs',(∀k b,k∉ls→bs[k]?=some b→bs'[k]?=some b)∧(∀L l,RVal bs L l→RVal bs' L l)∧bs'[bs.length]?=some ⟨cs,.rw⟩∧∀K,ju (mem bs) ls (.own cs n z) K=K (.sl bs.length 0 n n z false) (mem bs'):=by
 obtain⟨b1,g1,g2,g4,g3⟩:=CX ls bs hl;refine⟨b1++[⟨cs,.rw⟩],λk b hk hb=>gY (g2 k b hk hb),λL r hr=>KJ (g4 L r hr),by rw[←g1];simp,λK=>?_⟩;show vR ls (mem bs) (λs=>ku s ⟨cs,.rw⟩ λs'=>K (.sl s.nx 0 n n z false) s')=_;rw[g3,ln,js,g1]
theorem IZ(h:RVal bs L l):∃e ls,(∀k,k∈ls→k<bs.length)∧(∀k,kI L k→k∉ls)∧∀F:D→List Nat→Rs,kJ (mem bs) 60 L F=F (.tree (rs l) l.length e) ls:=by
 cases h with
 | @tr _ e=>exact⟨e,[],(λk h=>by cases h),(λk _ h=>by cases h),λF=>rfl⟩
 | @sl _ k c e b hb hc hl=>
  refine⟨cnd e (Nat.beq c l.length) false,[k],λj hj=>?_,λj hn hj=>?_,λF=>?_⟩
  ·have:j=k:=by simpa using hj
   subst this;exact fE hb
  ·have:j=k:=by simpa using hj
   subst this;exact hn _ _ _ _ _ rfl
  ·show(jQ (mem bs) k λb=>cnd (lv b.st) (iz 0 b.cs λr=>iy (Nat.mul l.length 3) r λr=>nI (kJ (mem bs) 59) r λcs ls=>mw (cnd e (Nat.beq c l.length) false) λex=>F (.tree cs l.length ex) (k::ls)) none)=_;rw[gu hb,sI,hl,eL,gB,aj,i9,show Nat.mul l.length 3=l.length*3 from rfl,aC (Np hc rfl),hc,FR _ (rW l),jC]
def Slf(T:D):Prop:=∀(F:D→List Nat→Rs)(bs:List Blk),kJ (mem bs) 60 T F=F T []
theorem Ux{cs:List D}{n:Nat}{e:Bool}:Slf (.tree cs n e):=λF bs=>rfl
theorem I6{M:List D→Option D}(h:RVal bs L l):∃e,∀cs n z,M [.tree (rs l) l.length e]=some (.own cs n z)→∃bs',(∀k b,kI L k→bs[k]?=some b→bs'[k]?=some b)∧(∀L l,RVal bs L l→RVal bs' L l)∧bs'[bs.length]?=some ⟨cs,.rw⟩∧∀K,eR M [L] (mem bs) K=K (.sl bs.length 0 n n z false) (mem bs'):=by
 obtain⟨e,ls,h1,h2,h3⟩:=IZ h;refine⟨e,λcs n z hv=>?_⟩;obtain⟨b1,g1,g4,g2,g3⟩:=UK (bs:=bs) (cs:=cs) (n:=n) (z:=z) h1;refine⟨b1,λk b hk hb=>g1 k b (h2 k hk) hb,g4,g2,λK=>?_⟩;show(kJ (mem bs) 60 L λy a=>l7 a [] λab=>ob (M [y]) λr=>ju (mem bs) ab r K)=_;rw[h3,gT,hv,gN,bq,g3]
theorem MN{M:List D→Option D}(h:RVal bs L l)(hT:Slf T):∃e,∀v,M [.tree (rs l) l.length e,T]=some v→rF v=true→∃bs',(∀k b,kI L k→bs[k]?=some b→bs'[k]?=some b)∧(∀L l,RVal bs L l→RVal bs' L l)∧∀K,eR M [L,T] (mem bs) K=K v (mem bs'):=by
 obtain⟨e,ls,h1,h2,h3⟩:=IZ h;refine⟨e,λv hv hp=>?_⟩;obtain⟨b1,g1,g2,g4,g3⟩:=Qi (bs:=bs) hp h1;refine⟨b1,λk b hk hb=>g2 k b (h2 k hk) hb,g4,λK=>?_⟩;show(kJ (mem bs) 60 L λy a=>kJ (mem bs) 60 T λy2 b=>l7 b [] λab=>l7 a ab λab=>ob (M [y,y2]) λr=>ju (mem bs) ab r K)=_;rw[h3,hT,gT,gT,hv,gN,bq,bq,g3]
theorem MM{M:List D→Option D}(h:RVal bs L l)(hT:Slf T):∃e,∀v,M [T,.tree (rs l) l.length e]=some v→rF v=true→∃bs',(∀k b,kI L k→bs[k]?=some b→bs'[k]?=some b)∧(∀L l,RVal bs L l→RVal bs' L l)∧∀K,eR M [T,L] (mem bs) K=K v (mem bs'):=by
 obtain⟨e,ls,h1,h2,h3⟩:=IZ h;refine⟨e,λv hv hp=>?_⟩;obtain⟨b1,g1,g2,g4,g3⟩:=Qi (bs:=bs) hp h1;refine⟨b1,λk b hk hb=>g2 k b (h2 k hk) hb,g4,λK=>?_⟩;show(kJ (mem bs) 60 T λy a=>kJ (mem bs) 60 L λy2 b=>l7 b [] λab=>l7 a ab λab=>ob (M [y,y2]) λr=>ju (mem bs) ab r K)=_;rw[hT,h3,gT,gT,hv,gN,bq,cQ,g3]
theorem ZK(h:RVal bs L l):∃e ls,res (mem bs).get 60 L=some (.tree (rs l) l.length e,ls):=by
 cases h with
 | @tr _ e=>exact⟨e,[],rfl⟩
 | @sl _ k c e b hb hc hl=>
  exact⟨_,_,uN (n:=59) (r:=rs l) (ls:=[]) (by rw[mQ];exact hb) hl (by
   unfold cut;rw[aj,hc,aC (by rw[oa])]) (kL (k:=58) _ (rW l))⟩
theorem Xm(h:RVal bs L l):∀ds es,tM (.tup (ds++L::es))=false:=by
 intro ds es;have:tL L=false:=by
  cases h with
  |tr=>rfl
  |sl _ _ _=>rfl
 show(ds++L::es).all tL=false;rw[z1B,cJ,this,z1g,dq]
theorem Vg(h:RVal bs L l):∃e,eX false (mem bs) L some=some (.tree (rs l) l.length e):=by
 cases h with
 | @tr _ e=>exact⟨e,rY⟩
 | @sl _ k c e b hb hc hl=>
  refine⟨e&&c==l.length,?_⟩;unfold eX;rw[mU];show uw (nu false (mem bs).get fv (.sl k 0 l.length c 3 e)) some=_;have h1:res (mem bs).get 60 (.sl k 0 l.length c 3 e)=some (.tree (rs l) l.length (e&&c==l.length),[k]):=uN (n:=59) (r:=rs l) (ls:=[]) (by rw[mQ];exact hb) hl (by
   unfold cut;rw[aj,hc,aC (by rw[oa])]) (kL (k:=58) _ (rW l))
  have:nu false (mem bs).get fv (.sl k 0 l.length c 3 e)=some (.tree (rs l) l.length (e&&c==l.length)):=by
   show(match yi (res (mem bs).get 60 (.sl k 0 l.length c 3 e))with
    |some (d,o,ls)=>if o.all λl=> !ls.contains l then some d else none
    |none=>none)=_
   rw[h1];rfl
  rw[this,gS];rfl
end
section
variable {bs:List Blk} {l f g:Row} {b:Blk} {i k n m c N M Df Dg:Nat} {ex ey:Bool} {s:LS} {K:D→LS→Rs} {kk:IntKind} {q p:Rat} {φ:Nat} {X:D}
theorem YE{a:Row}{na nb Na Nb Da Db':Nat}{ea eb eg:Bool}(hB:MB a l Da Na Db' Nb)(ha:a.length=na)(hb:l.length=nb)(hm:g.length=m)(hm2:2≤m)(hm3:m≤1000)(hna:na<m)(hnb:nb<m)(hg:Hb 1 M g)(h1:ent g (m-1)=1)(lM:Lg KB M)(lT:Lg KB (na*(Na*Nb)*(1+M)^m))(hφ:3000000000≤φ):
 ∃e,uX φ [.tree (rs g) m eg,.tree (rs a) na ea,.tree (rs l) nb eb]=some (.tree (rs (iL g (gP a l))) (iL g (gP a l)).length e):=by
 obtain⟨e1,p1⟩:=YD (φ:=φ) (ex:=ea) (ey:=eb) hB ha hb (by omega) hφ;have hlen:=uG (f:=a) (g:=l);rw[ha,hb]at hlen;have hDv:∀φ',φ'=φ→DvR (gP a l) g (jq φ' [.tree (rs (gP a l)) (gP a l).length e1,.tree (rs g) m eg]):=by
  rintro _ rfl
  by_cases hc:m≤(gP a l).length
  ·refine Oy (N:=na*(Na*Nb)) (Df:=Da*Db') (M:=M) ⟨rfl,hm,hm2,hc,by omega,?_,hg,h1,cW hB.d0 hB.e0,hB.l5,lM,p8 lT (aZ _ (ba (by omega) (by omega)))⟩ hφ;rw[←ha];exact wW hB.hf hB.hg
  ·exact wV (f:=gP a l) rfl hm (by omega) (by omega) (show Pt (gP a l)from qw _)
 obtain⟨e2,p2⟩:=YB hDv;refine⟨e2,?_⟩;unfold uX;dsimp only[eV,eZ];exact th (fP p1) (th (fP p2) rY)
theorem Di(hn:l.length=n)(hs:n<1000000000)(hk:k≤n)(hz:∀i,k≤i→ent l i=0)(hl:k=0∨ent l (k-1)≠0):
 (jY 0 [.b false,.n 0,.n 0] [] (mem []) λx16 s=>kg 3 s (.tree (rs l) n ex) none (some (.i .i64 (.ofNat k))) none λx17 s=>mF 3 40 s x16 x17 λx18 s=>eX true s x18 some)=some (.own (rs (e8 l)) (e8 l).length 3):=by
 have h1:=xo (l:=l) (n:=k) (by omega) hz hl;obtain⟨e1,h2⟩:=Uy (s:=mem [⟨[],.rw⟩]) (cs:=rs l) (n:=n) (m:=3) (k:=k) (ex:=ex) (kk:=.i64) (K:=λx17 s=>mF 3 40 s (.sl 0 0 0 0 3 true) x17 λx18 s=>eX true s x18 some) (by rw[oa,hn]) hk none (Or.inl rfl);have hl2:(l.take k).length=k:=by rw[ah,bO (by omega)]
 obtain⟨j,c,e2,bs',a1,a2,_⟩:=Ue (bs:=[⟨[],.rw⟩]) (k:=0) (z:=3) (bytes:=40) (n:=k) (cs:=rs (l.take k)) (ex:=e1) (K:=λx4 s=>eX true s x4 some) rfl (by rw[oa,hl2]) (B4 _) (by omega) (by omega);refine th (Ks rfl) (h2.trans ?_);rw[Eh];refine a1.trans ?_;rw[ye a2 (rW _) (by rw[oa,hl2];exact aD _),tX hl2,h1,hl2]
theorem Ij(h:q=0):eR (iZ φ) [rc q] s K=K (.i .i64 (.ofNat 0)) s:=by
 refine th (jo Gc rfl) ?_;subst h;rfl
theorem Fh{j:Int}(h:j= -1∨j=1){k:D→Rs}:gx (.i .i64 j) (.i .i64 (.ofNat 0)) k=k (.b false):=by
 rcases h with rfl|rfl
 ·show fV .eql (.i .i64 (-1)) (.i .i64 (.ofNat 0)) k=_;unfold fV;rw[gS];rfl
 ·exact tO (a:=1) (b:=0) (by omega)
theorem Oe(h:q≠0):(eR (iZ φ) [rc q] s λx s=>eI (.b true) true (λk=>gx x (.i .i64 (.ofNat 0)) λd=>k d s) s K)=K (.b false) s:=by
 by_cases h0:q.num<0
 ·refine th (jo Gc rfl) ?_;rw[aC h0];exact th fD (Fh (j:= -1) (Or.inl rfl))
 ·refine th (jo Gc rfl) ?_;rw[aE h0,aE h];exact th fD (Fh (j:=1) (Or.inr rfl))
theorem I8(hn:l.length=n)(hs:n<1000000000):∀(k f:Nat),k≤n→k<f→(∀i,k≤i→ent l i=0)→
 lp (λ(_ _:D)(_:LS)=>none) (lI φ) f (.tree (rs l) n ex) (.i .i64 (.ofNat k)) (mem [])=some (.own (rs (e8 l)) (e8 l).length 3):=by
 intro k
 induction k with
 |zero=>
  intro f hk hf hz;obtain⟨f,rfl⟩:∃q,f=q+1:=⟨f-1,by omega⟩
  have he:=Di (ex:=ex) hn hs (a9 _) hz (Or.inl rfl);rw[eO];unfold lI;exact th (oO (by omega)) (th fj (th fj (th fj (th fj (th fj (th fj (th fj (th gE (th eM he)))))))))
 |succ k ih=>
  intro f hk hf hz;obtain⟨f,rfl⟩:∃q,f=q+1:=⟨f-1,by omega⟩
  have pre:∀F:D→LS→Rs,(et (.i .i64 (.ofNat (k+1))) (.i .i64 (.ofNat 1)) λd=>eI (.b true) true (λk=>eK 3 (mem []) (.tree (rs l) n ex) d k) (mem []) λx10 s=>eI (.b true) true (λk=>eS 3 s x10 k) s F)=F (rc (ent l k)) (mem []):=by
   intro F;refine th (gR (by omega) (by omega)) (th EK ?_);rw[a7];exact p9 hn (by omega)
  by_cases h0:ent l k=0
  ·have he:=ih f (by omega) (by omega) (λi hi=>by
    by_cases h:i=k
    ·rw[h];exact h0
    ·exact hz i (by omega))
   rw[eO];unfold lI;refine th (mf (by omega)) (th fD (th fD (th fD (th (pre _) (th fD (th (Ij h0) (th fD (th (qE rfl) (th fe (th eP (th (gR (by omega) (by omega)) ?_)))))))))));rw[a7];exact he
  ·have he:=Di (ex:=ex) hn hs hk hz (Or.inr h0);rw[eO];unfold lI;exact th (mf (by omega)) (th fD (th fD (th fD (th (pre _) (th fD (th (Oe h0) (th fe (th eM he))))))))
theorem Od(hn:l.length=n)(hs:n<1000000000)(hφ:1000000000≤φ):fY φ [.tree (rs l) n ex]=some (.own (rs (e8 l)) (e8 l).length 3):=by
 have he:=I8 (φ:=φ) (ex:=ex) hn hs n φ (aD _) (by omega) (λi hi=>gL (by omega));unfold fY;dsimp only[eV,eZ];exact th fH he
def A3(bs:List Blk)(X:D)(l:Row):Prop:=AS 3 bs X (rs l) l.length
theorem yR:A3 bs (.tree [] 0 true) []:=AS.nil
theorem ap3(h:A3 bs X l)(hs:l.length<1000000000):∃bs' X',A3 bs' X' (l++[q])∧(∀k b,kI X k→bs[k]?=some b→bs'[k]?=some b∧kI X' k)∧(jY 1 [.b false,.n 0,.n 0] [(0,3,rc q)] (mem bs) λy s=>mF 3 40 s X y K)=K X' (mem bs'):=by
 obtain⟨bs',X',h1,h2,h3⟩:=ap1 (bytes:=40) (zero:=[.b false,.n 0,.n 0]) (x:=rc q) (new:=rcs q) (K:=K) h rfl rfl rfl rfl (by omega) (by omega);refine⟨bs',X',?_,h2,h3⟩;unfold A3;rw[Vl,bF];exact h1
theorem VX(h:A3 bs X l):RVal bs X l:=by
 unfold A3 at h;generalize hcs:rs l=cs at h;generalize hnn:l.length=nn at h;cases h with
 |nil=>
  have:l=[]:=a8 hnn;subst this;exact RVal.tr (l:=[])
 |blk hg hc=>
  subst hcs hnn;exact .sl hg (tX rfl) rfl
theorem I0{j:Nat}(h:bs[j]?=some ⟨rs l,.rw⟩):RVal bs (.sl j 0 l.length l.length 3 false) l:=.sl h (tX rfl) rfl
theorem Uu(h:RVal bs X l)(hs:l.length<1000000000)(hφ:1000000000≤φ):∃bs' k,(∀k b,kI X k→bs[k]?=some b→bs'[k]?=some b)∧(∀L l,RVal bs L l→RVal bs' L l)∧bs'[k]?=some ⟨rs (e8 l),.rw⟩∧∀K,eR (fY φ) [X] (mem bs) K=K (.sl k 0 (e8 l).length (e8 l).length 3 false) (mem bs'):=by
 obtain⟨e,he⟩:=I6 (M:=fY φ) h;obtain⟨b1,g1,g4,g2,g3⟩:=he _ _ _ (Od rfl hs hφ);exact⟨b1,_,g1,g4,g2,g3⟩
theorem Nl(h:A3 bs X l)(hs:l.length<1000000000)(hφ:1000000000≤φ):∃e,(eR (fY φ) [X] (mem bs) λx s=>eX false s x some)=some (.tree (rs (e8 l)) (e8 l).length e):=by
 obtain⟨b1,k,g1,_,g2,g3⟩:=Uu (φ:=φ) (VX h) hs hφ;obtain⟨e,he⟩:=Vg (I0 g2);exact⟨e,(g3 _).trans he⟩
theorem V7(h:A3 bs X l)(hs:l.length<1000000000)(hφ:1000000000≤φ):(eR (fY φ) [X] (mem bs) λx s=>eX true s x some)=some (.own (rs (e8 l)) (e8 l).length 3):=by
 obtain⟨b1,k,g1,_,g2,g3⟩:=Uu (φ:=φ) (VX h) hs hφ;refine(g3 _).trans ?_;rw[ye g2 (rW _) (by rw[oa];exact aD _),tX rfl]
theorem Vr(h:A3 bs X l):∃e,eX false (mem bs) X some=some (.tree (rs l) l.length e):=by
 unfold A3 at h;generalize hcs:rs l=cs at h;generalize hnn:l.length=nn at h;cases h with
 |nil=>
  have:l=[]:=a8 hnn;exact⟨true,yf⟩
 |blk hg hc=>
  subst hcs hnn;obtain⟨e,he⟩:=Em (own:=false) (c:=l.length) (ex:=false) rfl hg rfl rfl rfl;exact⟨e,he⟩
theorem rAt(hn:l.length=n):mX φ [.tree (rs l) n ex,.i .i64 (.ofNat i)]=some (rc (ent l i)):=by
 unfold mX;dsimp only[eV,eZ];rw[←fm];refine th N1 (th fH ?_);by_cases h:i<n
 ·exact th (fk h) (th eP (th (p9 hn h) (MS (k:=0) rfl rfl)))
 ·refine th (fy h) (th eM (th (fP Bb) ?_));rw[gL (by omega)];exact MS (k:=0) rfl rfl
theorem Ok(hn:l.length=n)(hs:n<1000000000):jv φ [.tree (rs l) n ex]=some (rc (ent l (n-1))):=by
 unfold jv;dsimp only[eV,eZ];rw[←fm];refine th N1 (th fH ?_);by_cases h:n=0
 ·refine th (qE h) (th eP (th (fP Bb) ?_));rw[gL (by omega)];exact MS (k:=0) rfl rfl
 ·exact th (tO h) (th eM (th fH (th (gR (by omega) (by omega)) (th (p9 hn (by omega)) (MS (k:=0) rfl rfl)))))
theorem Ia(hs:n<999999999)(hφ:1000000000≤φ):∀(j i fu:Nat)(bs:List Blk)(X:D),i+j=n→j<fu→A3 bs X (List.replicate i 0)→bs[0]?=some ⟨rcs q,.rw⟩→kI X 0→
 ∃e,lp (λ(_ _ _ _:D)(_:LS)=>none) (j7 φ) fu (.i .i64 (.ofNat n)) (.ptr 0 0) X (.i .i64 (.ofNat i)) (mem bs)=some (.tree (rs (e8 (List.replicate n 0++[q]))) (e8 (List.replicate n 0++[q])).length e):=by
 intro j
 induction j with
 |zero=>
  intro i fu bs X hi hf hA h0 hX;obtain⟨fu,rfl⟩:∃q,fu=q+1:=⟨fu-1,by omega⟩
  have:i=n:=by omega
  subst this;obtain⟨bs1,X1,hA1,_,h1⟩:=ap3 (q:=q) (K:=λx16 s=>eR (fY φ) [x16] s λx s=>eX false s x some) hA (by simp;omega);obtain⟨e,he⟩:=Nl (φ:=φ) hA1 (by simp;omega) hφ;refine⟨e,?_⟩;rw[eO];unfold j7;exact th (fy (by omega)) (th eM (th (wb h0) (h1.trans he)))
 |succ j ih=>
  intro i fu bs X hi hf hA h0 hX;obtain⟨fu,rfl⟩:∃q,fu=q+1:=⟨fu-1,by omega⟩
  obtain⟨bs1,X1,hA1,hk,h1⟩:=ap3 (q:=0) (K:=λx12 s=>ee (.i .i64 (.ofNat i)) (.i .i64 (.ofNat 1)) λx13=>lp (λ(_ _ _ _:D)(_:LS)=>none) (j7 φ) fu (.i .i64 (.ofNat n)) (.ptr 0 0) x12 x13 s) hA (by simp;omega);obtain⟨g0,gX⟩:=hk 0 _ hX h0;obtain⟨e,he⟩:=ih (i+1) fu bs1 X1 (by omega) (by omega) (by rw[List.replicate_succ'];exact hA1) g0 gX;refine⟨e,?_⟩;rw[eO];unfold j7;exact th (fk (by omega)) (th eP (th (fP Bb) (h1.trans (th (fM (by omega)) he))))
theorem M0(hs:n<999999999)(hφ:1000000000≤φ):∃e,kV φ [rc q,.i .i64 (.ofNat n)]=some (.tree (rs (e8 (List.replicate n 0++[q]))) (e8 (List.replicate n 0++[q])).length e):=by
 obtain⟨e,he⟩:=Ia (φ:=φ) (q:=q) hs hφ n 0 φ [⟨rcs q,.rw⟩] (.tree [] 0 true) (by omega) (by omega) yR rfl (λo n m z e h=>by cases h);refine⟨e,?_⟩;unfold kV;dsimp only[eV,eZ];rw[←fm];exact th (jB rfl) he
end
section
variable {bs:List Blk} {l f g:Row} {b:Blk} {i k n m c N M Df Dg:Nat} {ex ey:Bool} {s:LS} {K:D→LS→Rs} {kk:IntKind} {q p:Rat} {φ:Nat} {X:D}
theorem GA{x:Blk}(h:A3 bs X l):A3 (bs++[x]) X l:=by
 unfold A3 at*;generalize rs l=cs at*;generalize l.length=nn at*;cases h with
 |nil=>exact AS.nil
 |blk hg hc=>exact AS.blk (gY hg) hc
theorem Xa{x:Blk}(h:A3 bs X l)(hX:kI X k):A3 (bs.set k x) X l:=by
 unfold A3 at*;generalize rs l=cs at*;generalize l.length=nn at*;cases h with
 |nil=>exact AS.nil
 |blk hg hc=>exact AS.blk (by rw[bV (λe=>hX 0 _ _ 3 false (by rw[e]))];exact hg) hc
theorem Xb(h:A3 bs X l)(hk:bs.length≤k):kI X k:=by
 unfold A3 at*;generalize rs l=cs at*;generalize l.length=nn at*;intro o n' m' z e he;cases h with
 |nil=>cases he
 |blk hg hc=>cases he;have:=fE hg;omega
def AQ(l:Row):Prop:=∀i,Qz KB (ent l i)
theorem MX(hf:f.length=n)(hg:g.length=m)(af:AQ f)(ag:AQ g)(hs:n+m<1000000000)(hφ:1000000000≤φ):∀(j i fu:Nat)(bs:List Blk)(X:D),i+j=max n m→j<fu→A3 bs X (lst i (λi=>ent f i+ent g i))→
 ∃e,lp (λ(_ _ _ _:D)(_:LS)=>none) (lf φ) fu (.tree (rs f) n ex) (.tree (rs g) m ey) X (.i .i64 (.ofNat i)) (mem bs)=some (.tree (rs (e8 (lst (max n m) (λi=>ent f i+ent g i)))) (e8 (lst (max n m) (λi=>ent f i+ent g i))).length e):=by
 intro j
 induction j with
 |zero=>
  intro i fu bs X hi hfu hA;obtain⟨fu,rfl⟩:∃q,fu=q+1:=⟨fu-1,by omega⟩
  have:i=max n m:=by omega
  subst this;obtain⟨e,he⟩:=Nl (φ:=φ) hA (by rw[iU];omega) hφ;refine⟨e,?_⟩;rw[eO];unfold lf;exact th fH (th fH (th HH (th (fy (by omega)) (th eM he))))
 |succ j ih=>
  intro i fu bs X hi hfu hA;obtain⟨fu,rfl⟩:∃q,fu=q+1:=⟨fu-1,by omega⟩
  obtain⟨bs1,X1,hA1,_,h1⟩:=ap3 (q:=ent f i+ent g i) (K:=λx16 s=>ee (.i .i64 (.ofNat i)) (.i .i64 (.ofNat 1)) λx17=>lp (λ(_ _ _ _:D)(_:LS)=>none) (lf φ) fu (.tree (rs f) n ex) (.tree (rs g) m ey) x16 x17 s) hA (by rw[iU];omega);obtain⟨e,he⟩:=ih (i+1) fu bs1 X1 (by omega) (by omega) (by rw[rf];exact hA1);refine⟨e,?_⟩;rw[eO];unfold lf;exact th fH (th fH (th HH (th (fk (by omega)) (th eP (th (fP (rAt hf)) (th (fP (rAt hg)) (th (oC (WF (af i) (ag i)) rfl) (h1.trans (th (fM (by omega)) he)))))))))
theorem Oo(hf:f.length=n)(hg:g.length=m)(af:AQ f)(ag:AQ g)(hs:n+m<1000000000)(hφ:1000000000≤φ):
 ∃e,mD φ [.tree (rs f) n ex,.tree (rs g) m ey]=some (.tree (rs (e8 (lst (max n m) (λi=>ent f i+ent g i)))) (e8 (lst (max n m) (λi=>ent f i+ent g i))).length e):=by
 obtain⟨e,he⟩:=MX (φ:=φ) (ex:=ex) (ey:=ey) hf hg af ag hs hφ (max n m) 0 φ [] (.tree [] 0 true) (by omega) (by omega) yR;exact⟨e,he⟩
theorem GW(hl:l.length=n)(al:AQ l)(hc:Qz KB q)(hs:n<1000000000)(hφ:1000000000≤φ):∀(j i fu:Nat)(bs:List Blk)(X:D),i+j=n→j<fu→A3 bs X (lst i (λi=>ent l i*q))→bs[0]?=some ⟨rcs q,.rw⟩→kI X 0→
 lp (λ(_ _ _ _ _:D)(_:LS)=>none) (kU φ) fu (.ptr 0 0) X (.tree (rs l) n ex) (.i .i64 (.ofNat n)) (.i .i64 (.ofNat i)) (mem bs)=some (.own (rs (e8 (lst n (λi=>ent l i*q)))) (e8 (lst n (λi=>ent l i*q))).length 3):=by
 intro j
 induction j with
 |zero=>
  intro i fu bs X hi hfu hA h0 hX;obtain⟨fu,rfl⟩:∃q,fu=q+1:=⟨fu-1,by omega⟩
  have:i=n:=by omega
  subst this;have he:=V7 (φ:=φ) hA (by rw[iU];omega) hφ;rw[eO];unfold kU;exact th (fy (by omega)) (th eM he)
 |succ j ih=>
  intro i fu bs X hi hfu hA h0 hX;obtain⟨fu,rfl⟩:∃q,fu=q+1:=⟨fu-1,by omega⟩
  obtain⟨bs1,X1,hA1,hk,h1⟩:=ap3 (bs:=bs++[⟨rcs (ent l i),.rw⟩]) (q:=ent l i*q) (K:=λx16 s=>ee (.i .i64 (.ofNat i)) (.i .i64 (.ofNat 1)) λx17=>lp (λ(_ _ _ _ _:D)(_:LS)=>none) (kU φ) fu (.ptr 0 0) x16 (.tree (rs l) n ex) (.i .i64 (.ofNat n)) x17 s) (GA hA) (by rw[iU];omega);obtain⟨g0,gX⟩:=hk 0 _ hX (gY h0);have he:=ih (i+1) fu bs1 X1 (by omega) (by omega) (by rw[rf];exact hA1) g0 gX;rw[eO];unfold kU;exact th (fk (by omega)) (th eP (th (p9 hl (by omega)) (th (xr rfl) (th FX (th (wb (gY h0)) (th (oC (Oj (al i) hc) rfl) (h1.trans (th (fM (by omega)) he))))))))
theorem Vx(hl:l.length=n)(al:AQ l)(hc:Qz KB q)(hs:n<1000000000)(hφ:1000000000≤φ):
 mM φ [.tree (rs l) n ex,rc q]=some (.own (rs (e8 (lst n (λi=>ent l i*q)))) (e8 (lst n (λi=>ent l i*q))).length 3):=by
 have he:=GW (φ:=φ) (ex:=ex) hl al hc hs hφ n 0 φ [⟨rcs q,.rw⟩] (.tree [] 0 true) (by omega) (by omega) yR rfl (λo n m z e h=>by cases h);unfold mM;dsimp only[eV,eZ];rw[←fm];exact th (jB rfl) (th fH he)
def Ds(f g:Row):Row:=e8 (lst (max f.length g.length) (λi=>ent f i+(-1)*ent g i))
theorem Xu:Qz KB (-1):=⟨by show Lg KB 1;exact a9 _,by show Lg KB 1;exact a9 _⟩
theorem Ud(h:AQ l):AQ (e8 l):=λi=>by rw[kB];exact h i
theorem Et(k:Nat):Qz k 0:=⟨by show Lg k 0;exact a9 _,by show Lg k 1;exact a9 _⟩
theorem XY{v:Vec}(h:∀i,Qz KB (v i)):AQ (lst n v):=λi=>by
 rw[kM];split
 ·exact h i
 ·exact Et KB
theorem Vw(hf:f.length=n)(hg:g.length=m)(af:AQ f)(ag:AQ g)(hs:n+m<1000000000)(hφ:1000000000≤φ):
 ∃e,mC φ [.tree (rs f) n ex,.tree (rs g) m ey]=some (.tree (rs (Ds f g)) (Ds f g).length e):=by
 have h1:=Vx (φ:=φ) (ex:=ey) hg ag Xu (by omega) hφ;have hlen:=oJ (lst m (λi=>ent g i*(-1)));rw[iU]at hlen;have ag':AQ (e8 (lst m (λi=>ent g i*(-1)))):=Ud (XY λi=>by
  have:ent g i*(-1)= -(ent g i):=by grind
  rw[this];exact Ot (ag i))
 obtain⟨e1,hiso⟩:=MM (M:=mD φ) (T:=.tree (rs f) n ex) (I0 (bs:=[⟨rs (e8 (lst m (λi=>ent g i*(-1)))),.rw⟩]) (j:=0) (l:=e8 (lst m (λi=>ent g i*(-1)))) rfl) Ux;obtain⟨e2,h2⟩:=Oo (φ:=φ) (ex:=ex) (ey:=e1) hf (rfl:(e8 (lst m (λi=>ent g i*(-1)))).length=_) af ag' (by omega) hφ;obtain⟨b1,_,_,hk⟩:=hiso _ h2 rfl;refine⟨e2,?_⟩;have e3:e8 (lst (max n (e8 (lst m (λi=>ent g i*(-1)))).length) (λi=>ent f i+ent (e8 (lst m (λi=>ent g i*(-1)))) i))=Ds f g:=by
  unfold Ds;refine oK λi=>?_;rw[kM,kM,hf,hg];have e4:ent (e8 (lst m (λi=>ent g i*(-1)))) i=(-1)*ent g i:=by
   rw[kB,kM];by_cases h:i<m
   ·rw[aC h];grind
   ·rw[aE h,gL (r:=g) (by omega)];grind
  by_cases h:i<max n (e8 (lst m (λi=>ent g i*(-1)))).length
  ·rw[aC h,aC (by omega),e4]
  ·rw[aE h];by_cases h3:i<max n m
   ·rw[aC h3,←e4,gL (r:=f) (by omega),gL (r:=e8 (lst m (λi=>ent g i*(-1)))) (by omega)];grind
   ·rw[aE h3]
 rw[←e3];unfold mC;dsimp only[eV,eZ];rw[←fm];refine th (fP Vz) (th (xe h1) ?_);rw[lX,js];exact(hk _).trans rY
theorem W4{a b:Nat}{k:D→Rs}:fN (.i .i64 (.ofNat a)) (.i .i64 (.negSucc b)) k=k (.b false):=by
 show fV .lss (.i .i64 (.ofNat a)) (.i .i64 (.negSucc b)) k=_;unfold fV;rw[gS];show k (.b (decide ((Int.ofNat a)<Int.negSucc b)))=_;rw[aN (by rw[dc];show ¬(a:Int)<_;omega)]
theorem S8(hB:MB f g Df N Dg M)(hn:f.length=n)(hm:g.length=m)(hs:n+m<1000000000)(hφ:1000000000≤φ){q3:D→D→D→D→LS→Rs}{out:Row}{P:Option D→Prop}(hk:k<n+m)(kp:Nat)(hol:out.length=k)(hR:∀bs X,A3 bs X (out++[xV f g k])→P (q3 (.tree (rs f) n ex) (.tree (rs g) m ey) X (.i .i64 (.ofNat (k+1))) (mem bs))):∀(j i fu:Nat)(bs:List Blk)(X:D),i+j=n→j<fu→A3 bs X out→kI X kp→bs[kp]?=some ⟨rcs (pmV f g i k),.rw⟩→
 P (lp (λ(_ _ _ _ _ _ _:D)(_:LS)=>none) (fg φ q3) fu (.tree (rs f) n ex) (.tree (rs g) m ey) X (.i .i64 (.ofNat k)) (.ptr kp 0) (.i .i64 (.ofNat n)) (.i .i64 (.ofNat i)) (mem bs)):=by
 intro j
 induction j with
 |zero=>
  intro i fu bs X hi hfu hA hX hp;obtain⟨fu,rfl⟩:∃q,fu=q+1:=⟨fu-1,by omega⟩
  have:i=n:=by omega
  subst this;obtain⟨bs1,X1,hA1,_,h1⟩:=ap3 (q:=pmV f g i k) (K:=λx53 s=>ee (.i .i64 (.ofNat k)) (.i .i64 (.ofNat 1)) λx54=>q3 (.tree (rs f) i ex) (.tree (rs g) m ey) x53 x54 s) hA (by omega);have e:lp (λ(_ _ _ _ _ _ _:D)(_:LS)=>none) (fg φ q3) (fu+1) (.tree (rs f) i ex) (.tree (rs g) m ey) X (.i .i64 (.ofNat k)) (.ptr kp 0) (.i .i64 (.ofNat i)) (.i .i64 (.ofNat i)) (mem bs)=q3 (.tree (rs f) i ex) (.tree (rs g) m ey) X1 (.i .i64 (.ofNat (k+1))) (mem bs1):=by
   rw[eO];unfold fg;exact th (fy (by omega)) (th eM (th (wb hp) (h1.trans (fM (by omega)))))
  rw[e];exact hR bs1 X1 (by rw[←K4,hn];exact hA1)
 |succ j ih=>
  intro i fu bs X hi hfu hA hX hp;obtain⟨fu,rfl⟩:∃q,fu=q+1:=⟨fu-1,by omega⟩
  by_cases h1:i≤k
  ·by_cases h2:k-i<m
   ·have h3:=ih (i+1) fu (bs.set kp ⟨rcs (pmV f g i k+ent f i*ent g (k-i)),.rw⟩) X (by omega) (by omega) (Xa hA hX) hX (by rw[ao (fE hp),yn,aC h1]);have e:lp (λ(_ _ _ _ _ _ _:D)(_:LS)=>none) (fg φ q3) (fu+1) (.tree (rs f) n ex) (.tree (rs g) m ey) X (.i .i64 (.ofNat k)) (.ptr kp 0) (.i .i64 (.ofNat n)) (.i .i64 (.ofNat i)) (mem bs)=lp (λ(_ _ _ _ _ _ _:D)(_:LS)=>none) (fg φ q3) fu (.tree (rs f) n ex) (.tree (rs g) m ey) X (.i .i64 (.ofNat k)) (.ptr kp 0) (.i .i64 (.ofNat n)) (.i .i64 (.ofNat (i+1))) (mem (bs.set kp ⟨rcs (pmV f g i k+ent f i*ent g (k-i)),.rw⟩)):=by
     rw[eO]
     conv=>lhs;unfold fg
     exact th (fk (by omega)) (th eP (th ph (th (gR h1 (by omega)) (th (qC (a9 _)) (th fD (th fD (th fD (th (gR h1 (by omega)) (th fD (th fD (th fH (th fD (th (fk h2) (th fe (th eP (th (wb hp) (th (p9 hn (by omega)) (th (gR h1 (by omega)) (th (p9 hm h2) (th (oC (Oj (hB.qf i) (hB.qg (k-i))) rfl) (th (oC (WF (hB.qs (by omega) k) (hB.qp i (k-i))) rfl) (th (Xk hp rfl) (fM (by omega))))))))))))))))))))))))
    rw[e];exact h3
   ·have hz:pmV f g (i+1) k=pmV f g i k:=by rw[yn,aC h1,gL (r:=g) (i:=k-i) (by omega)];grind
    have h3:=ih (i+1) fu bs X (by omega) (by omega) hA hX (by rw[hz];exact hp);have e:lp (λ(_ _ _ _ _ _ _:D)(_:LS)=>none) (fg φ q3) (fu+1) (.tree (rs f) n ex) (.tree (rs g) m ey) X (.i .i64 (.ofNat k)) (.ptr kp 0) (.i .i64 (.ofNat n)) (.i .i64 (.ofNat i)) (mem bs)=lp (λ(_ _ _ _ _ _ _:D)(_:LS)=>none) (fg φ q3) fu (.tree (rs f) n ex) (.tree (rs g) m ey) X (.i .i64 (.ofNat k)) (.ptr kp 0) (.i .i64 (.ofNat n)) (.i .i64 (.ofNat (i+1))) (mem bs):=by
     rw[eO]
     conv=>lhs;unfold fg
     exact th (fk (by omega)) (th eP (th ph (th (gR h1 (by omega)) (th (qC (a9 _)) (th fD (th fD (th fD (th (gR h1 (by omega)) (th fD (th fD (th fH (th fD (th (fy h2) (th fe (th eM (fM (by omega)))))))))))))))))
    rw[e];exact h3
  ·have hz:pmV f g (i+1) k=pmV f g i k:=by rw[yn,aE h1];grind
   have h3:=ih (i+1) fu bs X (by omega) (by omega) hA hX (by rw[hz];exact hp);have e:lp (λ(_ _ _ _ _ _ _:D)(_:LS)=>none) (fg φ q3) (fu+1) (.tree (rs f) n ex) (.tree (rs g) m ey) X (.i .i64 (.ofNat k)) (.ptr kp 0) (.i .i64 (.ofNat n)) (.i .i64 (.ofNat i)) (mem bs)=lp (λ(_ _ _ _ _ _ _:D)(_:LS)=>none) (fg φ q3) fu (.tree (rs f) n ex) (.tree (rs g) m ey) X (.i .i64 (.ofNat k)) (.ptr kp 0) (.i .i64 (.ofNat n)) (.i .i64 (.ofNat (i+1))) (mem bs):=by
    rw[eO]
    conv=>lhs;unfold fg
    exact th (fk (by omega)) (th eP (th ph (th (nJ h1 (by omega)) (th pJ (th fj (th fj (th fj (th fj (th fj (th fj (th gE (th eM (fM (by omega))))))))))))))
   rw[e];exact h3
theorem S7(hB:MB f g Df N Dg M)(hn:f.length=n)(hm:g.length=m)(hs:n+m<1000000000)(hφ:1000000000≤φ):∀(j i fu:Nat)(bs:List Blk)(X:D),i+j=n+m-1→j<fu→A3 bs X (lst i (xV f g))→
 ∃e,lp (λ(_ _ _ _:D)(_:LS)=>none) (la φ) fu (.tree (rs f) n ex) (.tree (rs g) m ey) X (.i .i64 (.ofNat i)) (mem bs)=some (.tree (rs (gP f g)) (gP f g).length e):=by
 intro j
 induction j with
 |zero=>
  intro i fu bs X hi hfu hA;obtain⟨fu,rfl⟩:∃q,fu=q+1:=⟨fu-1,by omega⟩
  have:i=n+m-1:=by omega
  subst this;obtain⟨e,he⟩:=Nl (φ:=φ) hA (by rw[iU];omega) hφ;refine⟨e,?_⟩;have e1:e8 (lst (n+m-1) (xV f g))=gP f g:=by unfold gP;rw[hn,hm]
  rw[e1]at he;rw[eO];unfold la;by_cases h0:n+m=0
  ·have hn0:n=0:=by omega
   have hm0:m=0:=by omega
   refine th fH (th fH (th (fM (by omega)) ?_));rw[h0];refine th yy (th W4 (th eM he))
  ·exact th fH (th fH (th (fM (by omega)) (th (gR (by omega) (by omega)) (th (fy (by omega)) (th eM he)))))
 |succ j ih=>
  intro i fu bs X hi hfu hA;obtain⟨fu,rfl⟩:∃q,fu=q+1:=⟨fu-1,by omega⟩
  have key:=S8 (φ:=φ) (ex:=ex) (ey:=ey) (k:=i) (out:=lst i (xV f g)) (q3:=lp (λ(_ _ _ _:D)(_:LS)=>none) (la φ) fu) (P:=λo=>∃e,o=some (.tree (rs (gP f g)) (gP f g).length e)) hB hn hm hs hφ (by omega) bs.length iU (λbs' X' hA'=>ih (i+1) fu bs' X' (by omega) (by omega) (by rw[rf];exact hA')) n 0 φ (bs++[⟨rcs 0,.rw⟩]) X (by omega) (by omega) (GA hA) (Xb hA (aD _)) (by simp;rfl);obtain⟨e,he⟩:=key;refine⟨e,?_⟩;rw[eO];unfold la;exact th fH (th fH (th (fM (by omega)) (th (gR (by omega) (by omega)) (th (fk (by omega)) (th eP (th (fP Bb) (th (xr rfl) (th fH he))))))))
theorem Oh(hB:MB f g Df N Dg M)(hn:f.length=n)(hm:g.length=m)(hs:n+m<1000000000)(hφ:1000000000≤φ):
 ∃e,nT φ [.tree (rs f) n ex,.tree (rs g) m ey]=some (.tree (rs (gP f g)) (gP f g).length e):=by
 obtain⟨e,he⟩:=S7 (φ:=φ) (ex:=ex) (ey:=ey) hB hn hm hs hφ (n+m-1) 0 φ [] (.tree [] 0 true) (by omega) (by omega) yR;exact⟨e,he⟩
end
section
variable {bs:List Blk} {l f g:Row} {b:Blk} {i k n m c N M Df Dg:Nat} {ex ey:Bool} {s:LS} {K:D→LS→Rs} {kk:IntKind} {q p:Rat} {φ:Nat} {X:D}
structure KF (g:Row) (m M:Nat):Prop where
 hm:g.length=m
 hm2:2≤m
 hm3:m≤100
 hg:Hb 1 M g
 h1:ent g (m-1)=1
 lM:Lg KB M
theorem KF.ne(h:KF g m M):g≠[]:=λe=>by have:=h.hm;have:=h.hm2;subst e;simp at*;omega
theorem KF.lead(h:KF g m M):ent g (g.length-1)≠0:=by rw[h.hm,h.h1];decide
theorem Tv:(1:Rat)⁻¹ =1:=by have:=cw 1 (by decide);rwa[dL]at this
theorem Po:Lg KB 1:=by show Nat.log2 1≤_;rw[show Nat.log2 1=0 from by decide];exact a9 _
theorem KF.aq(h:KF g m M):AQ g:=λi=>ud cy (h.hg i) Po h.lM
theorem MW(h:KF g m M)(hd:0<Df)(lD:Lg KB Df)(hφ:1000000000≤φ):∀(j fu B:Nat)(rest quo:Row)(e0:Bool)(bs:List Blk)(L:D),RVal bs L rest→Pt rest→rest.length≤j+m-1→rest.length≤1000→j<fu→(∀t,Ht Df B (ent rest t))→Lg KB (2000*(B*(1+M)^(j+1)))→AQ quo→(∀i,i+m≤rest.length→ent quo i=0)→quo.length≤1000→
 ∃qs' nq e e',lp (λ(_ _ _:D)(_:LS)=>none) (kG φ) fu (.tree (rs g) m ey) (.tree (rs quo) quo.length e0) L (mem bs)=some (.tup [.tree qs' nq e,.tree (rs (qJ g j rest)) (qJ g j rest).length e']):=by
 have hm:=h.hm;have hm2:=h.hm2;have hm3:=h.hm3;have stop:∀(j fu:Nat)(rest quo:Row)(e0:Bool)(bs:List Blk)(L:D),RVal bs L rest→rest.length<m→0<fu→∃qs' nq e e',lp (λ(_ _ _:D)(_:LS)=>none) (kG φ) fu (.tree (rs g) m ey) (.tree (rs quo) quo.length e0) L (mem bs)=some (.tup [.tree qs' nq e,.tree (rs (qJ g j rest)) (qJ g j rest).length e']):=by
  intro j fu rest quo e0 bs L hv hlt hf;obtain⟨fu,rfl⟩:∃q,fu=q+1:=⟨fu-1,by omega⟩
  have hr:qJ g j rest=rest:=by
   cases j with
   |zero=>rfl
   |succ j=>unfold qJ;rw[aE (by omega)]
  obtain⟨e1,ls,hr1⟩:=ZK hv;refine⟨rs quo,quo.length,e0,e1,?_⟩;rw[hr,eO];unfold kG;exact th (I5 hv) (th fH (th (zE (by omega)) (th eM (GX (l1:=[]) rfl hr1 (Xm hv [_] [])))))
 intro j
 induction j with
 |zero=>
  intro fu B rest quo e0 bs L hL hp hl hl2 hf hv hB aq hq ql;exact stop 0 fu rest quo e0 bs L hL (by omega) (by omega)
 |succ j ih=>
  intro fu B rest quo e0 bs Lv hLv hp hl hl2 hf hv hB aq hq ql;by_cases hc:rest.length<m
  ·exact stop (j+1) fu rest quo e0 bs Lv hLv hc (by omega)
  ·obtain⟨fu,rfl⟩:∃q,fu=q+1:=⟨fu-1,by omega⟩
   have hrne:rest≠[]:=λe=>by subst e;simp at hc;omega
   have hlast:=FG hp hrne;obtain⟨L,hL⟩:∃L,rest.length=L:=⟨_,rfl⟩
   have hpow:1≤(1+M)^(j+1):=bR (by omega);have hBM:B*(1+M)≤B*(1+M)^(j+1+1):=aZ _ (by
    rw[av];exact z0V _ hpow)
   have hBM2:B*M≤B*(1+M):=aZ _ (by omega);have hBB:B≤B*(1+M):=by rw[bA,ai];omega
   have lB:Lg KB B:=p8 hB (by omega);have lBM:∀t,t≤2000→Lg KB (t*(B*M)):=λt ht=>p8 hB (bv ht (by omega));have arest:AQ rest:=λi=>ud hd (hv i) lD lB;obtain⟨cc,hcc⟩:∃cc,ent rest (rest.length-1)*(ent g (g.length-1))⁻¹ =cc:=⟨_,rfl⟩
   have hcc1:cc=ent rest (rest.length-1):=by rw[←hcc,hm,h.h1,Tv,dL]
   have hcne:cc≠0:=by rw[hcc1];exact hlast
   have hcv:Ht Df B cc:=by rw[hcc1];exact hv _
   have hcq:Qz KB cc:=ud hd hcv lD lB;obtain⟨mo,hmo⟩:∃mo,List.replicate (rest.length-g.length) (0:Rat)++[cc]=mo:=⟨_,rfl⟩
   have hme:∀i,ent mo i=if i=rest.length-g.length then cc else 0:=λi=>by rw[←hmo];exact Bp
   have hml:mo.length=L-m+1:=by rw[←hmo];simp[hL,hm]
   have hmp:e8 mo=mo:=by
    rw[←hmo];exact ve λx hx=>by
     rw[List.getLast?_append]at hx;simp at hx;rw[←hx];exact hcne
   have hmhb:Hb Df B mo:=λi=>by
    rw[hme];split
    ·exact hcv
    ·exact nK rh (a9 _)
   have amo:AQ mo:=λi=>ud hd (hmhb i) lD lB;obtain⟨e2,h2⟩:=M0 (φ:=φ) (q:=cc) (n:=L-m) (by omega) hφ;rw[show List.replicate (L-m) (0:Rat)++[cc]=mo by rw[←hmo,hL,hm],hmp]at h2;obtain⟨e3,h3⟩:=Oo (φ:=φ) (ex:=e0) (ey:=e2) (rfl:quo.length=_) (rfl:mo.length=_) aq amo (by omega) hφ;have hMB:MB mo g Df B 1 M:=⟨hmhb,h.hg,hd,cy,lD,lB,Po,h.lM,by rw[ai];exact lD,lBM _ (by omega)⟩
   obtain⟨e4,h4⟩:=Oh (φ:=φ) (ex:=e2) (ey:=ey) hMB rfl hm (by omega) hφ;have hph:=wW hMB.hf hMB.hg;have apm:AQ (gP mo g):=λi=>ud (cW hd cy) (hph i) (by rw[ai];exact lD) (lBM _ (by omega));have hpl:=uG (f:=mo) (g:=g);obtain⟨e1,hiso⟩:=MN (M:=mC φ) (T:=.tree (rs (gP mo g)) (gP mo g).length e4) hLv Ux;obtain⟨e5,h5⟩:=Vw (φ:=φ) (ex:=e1) (ey:=e4) (rfl:rest.length=_) (rfl:(gP mo g).length=_) arest apm (by omega) hφ;have hst:Ds rest (gP mo g)=tC g rest:=by
    unfold Ds tC;rw[hcc,hmo];refine oK λi=>?_;rw[kM,kM];by_cases hi:i<rest.length
    ·rw[aC hi,aC (by omega)]
    ·rw[aE hi];split
     ·rw[vK,←hmo,HD,gL (r:=rest) (by omega)];split
      ·rw[gL (r:=g) (i:=i-(rest.length-g.length)) (by omega)];grind
      ·grind
     ·rfl
   rw[hst]at h5;have hse:∀i,ent (tC g rest) i=stV g (rest.length-g.length) (ent rest) i:=λi=>Dn (by omega);have hsp:Pt (tC g rest):=qw _;have hsl:(tC g rest).length≤L-1:=PH hsp λi hi=>by
    rw[hse];exact Eb h.ne h.lead (λi hi=>gL (by omega)) i (by omega)
   have hsv:∀t,Ht Df (B+B*M) (ent (tC g rest) t):=λt=>by rw[hse];exact IS h.hg (by rw[hm];exact h.h1) hv t
   have hq':∀i,ent (e8 (lst (max quo.length mo.length) (λi=>ent quo i+ent mo i))) i=ent quo i+ent mo i:=λi=>by
    rw[kB,kM];split
    ·rfl
    ·rw[gL (r:=quo) (by omega),gL (r:=mo) (by omega)];grind
   have hQl:=oJ (lst (max quo.length mo.length) (λi=>ent quo i+ent mo i));rw[iU]at hQl;obtain⟨b1,_,_,hk⟩:=hiso _ h5 rfl;obtain⟨qs',nq,e6,e7,h6⟩:=ih fu (B+B*M) (tC g rest) (e8 (lst (max quo.length mo.length) (λi=>ent quo i+ent mo i))) e3 b1 (.tree (rs (tC g rest)) (tC g rest).length e5) .tr hsp (by omega) (by omega) (by omega) hsv (by
    rw[show B+B*M=B*(1+M) by rw[bA,ai],aU B,aK (1+M),←av];exact hB) (λi=>by
    rw[hq',hme];by_cases hi:i=rest.length-g.length
    ·rw[aC hi,hq i (by omega),Rat.zero_add];exact hcq
    ·rw[aE hi,Rat.add_zero];exact aq i) (λi hi=>by
    rw[hq',hme,aE (by omega),hq i (by omega),Rat.add_zero]) (by omega)
   have hrr:qJ g (j+1) rest=qJ g j (tC g rest):=by
    show(if g.length≤rest.length then _ else rest)=_;rw[aC (by omega)]
   refine⟨qs',nq,e6,e7,?_⟩;rw[hrr,eO]
   conv=>lhs;unfold kG
   refine th (I5 hLv) (th fH (th (qC (by omega)) (th eP (th (I7 hLv (λe=>Ok rfl (by omega)) rfl) (th (fP (Ok hm (by omega))) ?_)))));refine th (oC (ZU (φ:=φ) (arest _) (h.aq _)) rfl) ?_;rw[show ent rest (rest.length-1)*(ent g (m-1))⁻¹ =cc by rw[←hcc,hm]];refine th (I5 hLv) (th fH (th (gR (by omega) (by omega)) ?_));rw[hL]at*;exact th (fP h2) (th (fP h3) (th (fP h4) ((hk _).trans h6)))
theorem ZS(h:KF g m M)(hf:f.length=n)(hn:n≤1000)(hd:0<Df)(lD:Lg KB Df)(hv:Hb Df N f)(lT:Lg KB (2000*(N*(1+M)^(n+1))))(hφ:1000000000≤φ):
 ∃e,nU φ [.tree (rs f) n ex,.tree (rs g) m ey]=some (.tree (rs (iL g f)) (iL g f).length e):=by
 have h1:=Od (φ:=φ) (ex:=ex) hf (by omega) hφ;have hLv:RVal [⟨rs (e8 f),.rw⟩] (.sl 0 0 (e8 f).length (e8 f).length 3 false) (e8 f):=I0 rfl;have hlen:=oJ f;have hm2:=h.hm2;obtain⟨qs',nq,e2,e3,h2⟩:=MW (φ:=φ) (ey:=ey) (Df:=Df) h hd lD hφ n φ N (e8 f) [] true _ _ hLv (qw f) (by omega) (by omega) (by omega) (λt=>by rw[kB];exact hv t) lT (λi=>by rw[sj];exact Et KB) (λi _=>sj) (by simp);have hres:qJ g n (e8 f)=iL g f:=by
  rw[vI h.ne h.lead (f.length+1-g.length) n (e8 f) (qw f) (by omega) (by have:=h.hm;omega)];unfold iL;congr 2;rw[show ent (e8 f)=ent f from funext (kB f)]
 rw[hres]at h2;have h3:lb φ [.tree (rs f) n ex,.tree (rs g) m ey]=some (.tup [.tree qs' nq e2,.tree (rs (iL g f)) (iL g f).length e3]):=by
  unfold lb;dsimp only[eV,eZ];rw[←fm];refine th (xe h1) ?_;rw[lX,js];exact h2
 refine⟨e3,?_⟩;unfold nU;dsimp only[eV,eZ];exact th (fP h3) (th mS (th mR rY))
def fld(g:Row)(e:Bool):D:=.agg [.tree (rs g) g.length e]
theorem KT(h:KF g m M)(hf:f.length=n)(hn:n≤1000)(hd:0<Df)(lD:Lg KB Df)(hv:Hb Df N f)(lT:Lg KB (2000*(N*(1+M)^(n+1))))(hφ:1000000000≤φ):
 ∃e,jI φ [fld g ey,.tree (rs f) n ex]=some (.tree (rs (iL g f)) (iL g f).length e):=by
 obtain⟨e,he⟩:=ZS (φ:=φ) (ex:=ex) (ey:=ey) h hf hn hd lD hv lT hφ;refine⟨e,?_⟩;unfold jI fld;dsimp only[eV,eZ];rw[←fm];refine th (jB rfl) ?_;simp -implicitDefEqProofs only[kD,kq,List.length_nil,List.nil_append,List.getElem?_cons_zero,gN,gQ,eL,Nat.zero_add];rw[h.hm];exact th (fP he) rY
theorem Sr:fZ φ [fld g ey]=(et (.i .i64 (.ofNat g.length)) (.i .i64 (.ofNat 1)) λx=>eX false (mem [⟨[.tree (rs g) g.length ey],.rw⟩]) x some):=by
 unfold fZ fld;dsimp only[eV,eZ];rw[←fm];refine th (jB rfl) ?_;simp -implicitDefEqProofs only[kD,kq,List.length_nil,List.nil_append,List.getElem?_cons_zero,gN,gQ,eL,Nat.zero_add,fH]
end
section
variable {bs:List Blk} {l f g r:Row} {b:Blk} {i k n m c N M Df Dg:Nat} {ex ey:Bool} {s:LS} {K:D→LS→Rs} {kk:IntKind} {q p:Rat} {φ:Nat} {X:D}
theorem WE(h:KF g m M):fZ φ [fld g ey]=some (.i .i64 (.ofNat (m-1))):=by
 have:=h.hm2;have:=h.hm3;rw[Sr,h.hm];exact th (gR (by omega) (by omega)) ia
theorem up(h0:bs[k]?=some ⟨[.tree (rs g) g.length ey],.rw⟩):eS 1 (mem bs) (.ptr k 0) K=K (fld g ey) (mem bs):=th (Mi h0 rfl (aD 1)) rfl
theorem Xr{a b:Row}{na nb Na Nb Da Db':Nat}{ea eb:Bool}(h:KF g m M)(hB:MB a b Da Na Db' Nb)(ha:a.length=na)(hb:b.length=nb)(hna:na+nb≤1000)(lT:Lg KB (2000*(na*(Na*Nb)*(1+M)^(na+nb+1))))(hφ:1000000000≤φ):
 ∃e,kT φ [fld g ey,.tree (rs a) na ea,.tree (rs b) nb eb]=some (.tree (rs (iL g (gP a b))) (iL g (gP a b)).length e):=by
 obtain⟨e1,p1⟩:=Oh (φ:=φ) (ex:=ea) (ey:=eb) hB ha hb (by omega) hφ;have hlen:=uG (f:=a) (g:=b);obtain⟨e2,p2⟩:=KT (φ:=φ) (ex:=e1) (ey:=ey) (Df:=Da*Db') (N:=na*(Na*Nb)) h (rfl:(gP a b).length=_) (by omega) (cW hB.d0 hB.e0) hB.l5 (by rw[←ha];exact wW hB.hf hB.hg) (p8 lT (aZ _ (aZ _ (ba (by omega) (by omega))))) hφ;refine⟨e2,?_⟩;unfold kT;dsimp only[eV,eZ];rw[←fm];refine th (jB rfl) (th (up rfl) (th (fP p1) (th (fP p2) rY)))
theorem MQ(h:KF g m M)(hl:l.length=n):∀(j i fu:Nat)(bs:List Blk)(X:D),i+j=m-1→j<fu→A3 bs X (lst i (ent l))→bs[0]?=some ⟨[.tree (rs g) g.length ey],.rw⟩→kI X 0→
 ∃e,lp (λ(_ _ _ _:D)(_:LS)=>none) (l8 φ) fu (.tree (rs l) n ex) (.ptr 0 0) X (.i .i64 (.ofNat i)) (mem bs)=some (.tree (rs (lst (m-1) (ent l))) (m-1) e):=by
 have hm3:=h.hm3;intro j
 induction j with
 |zero=>
  intro i fu bs X hi hf hA h0 hX;obtain⟨fu,rfl⟩:∃q,fu=q+1:=⟨fu-1,by omega⟩
  have:i=m-1:=by omega
  subst this;obtain⟨e,he⟩:=Vr hA;rw[iU]at he;refine⟨e,?_⟩;rw[eO];unfold l8;exact th (up h0) (th (fP (WE h)) (th (fy (by omega)) (th eM he)))
 |succ j ih=>
  intro i fu bs X hi hf hA h0 hX;obtain⟨fu,rfl⟩:∃q,fu=q+1:=⟨fu-1,by omega⟩
  obtain⟨bs1,X1,hA1,hk,h1⟩:=ap3 (q:=ent l i) (K:=λx23 s=>ee (.i .i64 (.ofNat i)) (.i .i64 (.ofNat 1)) λx17=>lp (λ(_ _ _ _:D)(_:LS)=>none) (l8 φ) fu (.tree (rs l) n ex) (.ptr 0 0) x23 x17 s) hA (by rw[iU];omega);obtain⟨g0,gX⟩:=hk 0 _ hX h0;obtain⟨e,he⟩:=ih (i+1) fu bs1 X1 (by omega) (by omega) (by rw[rf];exact hA1) g0 gX;refine⟨e,?_⟩;rw[eO];unfold l8;refine th (up h0) (th (fP (WE h)) (th (fk (by omega)) (th eP (th ph (th fH ?_)))));by_cases hi:i<n
  ·exact th (fk hi) (th eP (th (p9 hl hi) (h1.trans (th (fM (by omega)) he))))
  ·rw[gL (r:=l) (i:=i) (by omega)]at h1;exact th (fy hi) (th eM (th (fP Bb) (h1.trans (th (fM (by omega)) he))))
theorem ZO(h:KF g m M)(hl:l.length=n)(hφ:1000000000≤φ):∃e,mB φ [fld g ey,.tree (rs l) n ex]=some (.tree (rs (lst (m-1) (ent l))) (m-1) e):=by
 have hm3:=h.hm3;obtain⟨e,he⟩:=MQ (φ:=φ) (ex:=ex) (ey:=ey) h hl (m-1) 0 φ [⟨[.tree (rs g) g.length ey],.rw⟩] (.tree [] 0 true) (by omega) (by omega) yR rfl (λo n m z e h=>by cases h);refine⟨e,?_⟩;unfold mB;dsimp only[eV,eZ];rw[←fm];exact th (jB rfl) he
theorem KV:jJ φ [rc q]=some (.b (decide (q=0))):=by
 unfold jJ;dsimp only[eV,eZ];rw[←fm];refine th (jB rfl) (th (wb (q:=q) rfl) ?_);by_cases h:q=0
 ·refine th (Ij h) (th (qE rfl) ?_);rw[aS h];exact rP
 ·by_cases h0:q.num<0
  ·refine th (jo Gc rfl) ?_;rw[aC h0,aN h];exact th (Fh (j:= -1) (Or.inl rfl)) rP
  ·refine th (jo Gc rfl) ?_;rw[aE h0,aE h,aN h];exact th (Fh (j:=1) (Or.inr rfl)) rP
theorem KI:scl l q=lst l.length (λi=>ent l i*q):=yw y9 (λi _=>As)
theorem Eg(hl:l.length=n)(al:AQ l)(hc:Qz KB q)(hs:n<1000000000):∀(j i fu:Nat)(bs:List Blk)(X:D),i+j=n→j<fu→A3 bs X (lst i (λi=>ent l i*q))→bs[0]?=some ⟨rcs q,.rw⟩→kI X 0→
 ∃e,lp (λ(_ _ _ _ _:D)(_:LS)=>none) (kH φ) fu (.ptr 0 0) X (.tree (rs l) n ex) (.i .i64 (.ofNat n)) (.i .i64 (.ofNat i)) (mem bs)=some (.tree (rs (scl l q)) n e):=by
 intro j
 induction j with
 |zero=>
  intro i fu bs X hi hfu hA h0 hX;obtain⟨fu,rfl⟩:∃q,fu=q+1:=⟨fu-1,by omega⟩
  have:i=n:=by omega
  subst this;obtain⟨e,he⟩:=Vr hA;rw[iU]at he;refine⟨e,?_⟩;rw[eO,KI,hl];unfold kH;exact th (fy (by omega)) (th eM he)
 |succ j ih=>
  intro i fu bs X hi hfu hA h0 hX;obtain⟨fu,rfl⟩:∃q,fu=q+1:=⟨fu-1,by omega⟩
  obtain⟨bs1,X1,hA1,hk,h1⟩:=ap3 (bs:=bs++[⟨rcs (ent l i),.rw⟩]) (q:=ent l i*q) (K:=λx16 s=>ee (.i .i64 (.ofNat i)) (.i .i64 (.ofNat 1)) λx17=>lp (λ(_ _ _ _ _:D)(_:LS)=>none) (kH φ) fu (.ptr 0 0) x16 (.tree (rs l) n ex) (.i .i64 (.ofNat n)) x17 s) (GA hA) (by rw[iU];omega);obtain⟨g0,gX⟩:=hk 0 _ hX (gY h0);obtain⟨e,he⟩:=ih (i+1) fu bs1 X1 (by omega) (by omega) (by rw[rf];exact hA1) g0 gX;refine⟨e,?_⟩;rw[eO];unfold kH;exact th (fk (by omega)) (th eP (th (p9 hl (by omega)) (th (xr rfl) (th FX (th (wb (gY h0)) (th (oC (Oj (al i) hc) rfl) (h1.trans (th (fM (by omega)) he))))))))
theorem Sn(hl:l.length=n)(al:AQ l)(hc:Qz KB q)(hs:n<1000000000)(hφ:1000000000≤φ):∃e,lg φ [.tree (rs l) n ex,rc q]=some (.tree (rs (scl l q)) n e):=by
 obtain⟨e,he⟩:=Eg (φ:=φ) (ex:=ex) hl al hc hs n 0 φ [⟨rcs q,.rw⟩] (.tree [] 0 true) (by omega) (by omega) yR rfl (λo n m z e h=>by cases h);refine⟨e,?_⟩;unfold lg;dsimp only[eV,eZ];rw[←fm];exact th (jB rfl) (th fH he)
structure SQ (r l:Row) (c:Rat):Prop where
 ar:AQ r
 al:AQ l
 ac:Qz KB c
 ap:∀i,Qz KB (c*ent l i)
theorem Ee(h:r.length=l.length):sbr r l q=lst r.length (λi=>ent r i-q*ent l i):=yw (se h) (λi _=>ya h)
theorem GU(h:r.length=l.length):sbr r l 0=r:=by
 rw[Ee h]
 conv=>rhs;rw[←w7 (l:=r)]
 unfold lst;exact cN λi _=>by grind
theorem DK(hr:r.length=n)(hl:l.length=n)(hq:SQ r l q)(hs:n<1000000000):∀(j i fu:Nat)(bs:List Blk)(X:D),i+j=n→j<fu→A3 bs X (lst i (λi=>ent r i-q*ent l i))→bs[0]?=some ⟨rcs q,.rw⟩→kI X 0→
 ∃e,lp (λ(_ _ _ _ _ _:D)(_:LS)=>none) (ie φ) fu (.tree (rs r) n ex) (.tree (rs l) n ey) (.ptr 0 0) X (.i .i64 (.ofNat n)) (.i .i64 (.ofNat i)) (mem bs)=some (.tree (rs (sbr r l q)) n e):=by
 intro j
 induction j with
 |zero=>
  intro i fu bs X hi hfu hA h0 hX;obtain⟨fu,rfl⟩:∃q,fu=q+1:=⟨fu-1,by omega⟩
  have:i=n:=by omega
  subst this;obtain⟨e,he⟩:=Vr hA;rw[iU]at he;refine⟨e,?_⟩;rw[eO,Ee (by omega),hr];unfold ie;exact th (fy (by omega)) (th eM he)
 |succ j ih=>
  intro i fu bs X hi hfu hA h0 hX;obtain⟨fu,rfl⟩:∃q,fu=q+1:=⟨fu-1,by omega⟩
  obtain⟨bs1,X1,hA1,hk,h1⟩:=ap3 (q:=ent r i-q*ent l i) (K:=λx16 s=>ee (.i .i64 (.ofNat i)) (.i .i64 (.ofNat 1)) λx17=>lp (λ(_ _ _ _ _ _:D)(_:LS)=>none) (ie φ) fu (.tree (rs r) n ex) (.tree (rs l) n ey) (.ptr 0 0) x16 (.i .i64 (.ofNat n)) x17 s) hA (by rw[iU];omega);obtain⟨g0,gX⟩:=hk 0 _ hX h0;obtain⟨e,he⟩:=ih (i+1) fu bs1 X1 (by omega) (by omega) (by rw[rf];exact hA1) g0 gX;refine⟨e,?_⟩;rw[eO];unfold ie;exact th (fk (by omega)) (th eP (th (p9 hr (by omega)) (th (wb h0) (th (p9 hl (by omega)) (th (oC (Oj hq.ac (hq.al i)) rfl) (th (oC (ZN (hq.ar i) (hq.ap i)) rfl) (h1.trans (th (fM (by omega)) he))))))))
theorem G9(hr:r.length=n)(hl:l.length=n)(hc:c<n)(hq:SQ r l (ent r c))(hs:n<1000000000)(hφ:1000000000≤φ):∃e,iq φ [.tree (rs r) n ex,.tree (rs l) n ey,.i .i64 (.ofNat c)]=some (.tree (rs (wo l c r)) n e):=by
 have pre:∀R,(eQ (.b (decide (ent r c=0))) (eX false (mem [⟨rcs (ent r c),.rw⟩]) (.tree (rs r) n ex) some) (lp (λ(_ _ _ _ _ _:D)(_:LS)=>none) (ie φ) φ (.tree (rs r) n ex) (.tree (rs l) n ey) (.ptr 0 0) (.tree [] 0 true) (.i .i64 (.ofNat n)) (.i .i64 (.ofNat 0)) (mem [⟨rcs (ent r c),.rw⟩])))=R→iq φ [.tree (rs r) n ex,.tree (rs l) n ey,.i .i64 (.ofNat c)]=R:=by
  intro R hR;unfold iq;dsimp only[eV,eZ];rw[←fm];exact th (p9 hr hc) (th (xr rfl) (th (wb (k:=0) (q:=ent r c) rfl) (th (jo KV rfl) hR)))
 by_cases h:ent r c=0
 ·refine⟨ex,pre _ ?_⟩;unfold wo;rw[aS h,h,GU (by omega)];exact th eP rY
 ·obtain⟨e,he⟩:=DK (φ:=φ) (ex:=ex) (ey:=ey) hr hl hq hs n 0 φ [⟨rcs (ent r c),.rw⟩] (.tree [] 0 true) (by omega) (by omega) yR rfl (λo n m z e h=>by cases h);refine⟨e,pre _ ?_⟩;rw[aN h];exact th eM he
end
section
variable {bs bs':List Blk} {l f g r:Row} {b:Blk} {i k n m c N M Df Dg kr:Nat} {ex ey:Bool} {s:LS} {K:D→LS→Rs} {kk:IntKind} {q p:Rat} {φ:Nat} {X L:D}
theorem WL(h0:∀t,t<i→ent l t=0)(h1:ent l i≠0):pvt l=i:=by
 have hil:i<l.length:=by
  rcases az i l.length with h|h
  ·exact h
  ·exact absurd (gL h) h1
 rcases dA (pvt l) i with h|h|h
 ·exact absurd (h0 _ h) (Bd (by omega))
 ·exact h
 ·exact absurd (FC h) h1
def pvD(l:Row):D:=if pvt l<l.length then .i .i64 (.ofNat (pvt l))else .i .i64 (.negSucc 0)
theorem Su:pp φ [rc q]=some (.b (!(decide (q=0)))):=by
 have h1:=wj (rZ (φ:=φ) (p:=q)) rfl;unfold rc at h1;unfold pp rc;simp -implicitDefEqProofs only[eV,eZ,ff,jB,lO,List.all_cons,List.all_nil,one,Bool.and_self,List.length_nil,List.nil_append,List.getElem?_cons_zero,gN,gQ,eL,wO,lL,lK,rP,List.drop_zero,h1]
theorem PQ(hs:l.length<1000000000){kk':D→LS→Rs}:∀(j i f:Nat),i+j=l.length→j<f→(∀t,t<i→ent l t=0)→
 lp (λ(_ _ _ _:D)(_:LS)=>none) (gr φ kk') f (.tree (rs l) l.length ex) (.fn 103 []) (.i .i64 (.ofNat l.length)) (.i .i64 (.ofNat i)) s=kk' (pvD l) s:=by
 intro j
 induction j with
 |zero=>
  intro i f hi hf h0;obtain⟨f,rfl⟩:∃q,f=q+1:=⟨f-1,by omega⟩
  have hp:¬pvt l<l.length:=λh=>Bd h (h0 _ (by omega));rw[eO];unfold gr pvD;rw[aE hp];exact th (fy (by omega)) eM
 |succ j ih=>
  intro i f hi hf h0;obtain⟨f,rfl⟩:∃q,f=q+1:=⟨f-1,by omega⟩
  have hd:∀F:D→LS→Rs,uD (pK φ) false (.fn 103 []) [rc (ent l i)] s F=F (.b (!(decide (ent l i=0)))) s:=λF=>by
   show eR (pp φ) [rc (ent l i)] s F=_;exact jo Su rfl
  rw[eO];unfold gr;refine th (fk (by omega)) (th eP (th (p9 rfl (by omega)) (th (hd _) ?_)));by_cases hz:ent l i=0
  ·rw[aS hz];refine th eM (th (fM (by omega)) ?_);exact ih (i+1) f (by omega) (by omega) (λt ht=>by
    by_cases h:t=i
    ·rw[h];exact hz
    ·exact h0 t (by omega))
  ·rw[aN hz];have:=WL h0 hz;unfold pvD;rw[aC (by omega),this];exact eP
theorem Gl:tM (pvD l)=true:=by unfold pvD;split<;>rfl
theorem Ey(hs:l.length<1000000000)(hφ:1000000000≤φ)(e:Bool):oi φ [.tree (rs l) l.length e]=some (pvD l):=by
 unfold oi;dsimp only[eV,eZ];unfold iX;dsimp only[eV,eZ];refine th fH (th (PQ hs l.length 0 φ (by omega) (by omega) (λt ht=>by omega)) ?_);unfold pvD;split
 ·exact ia
 ·exact ia
theorem MF(hr:r.length=n)(hl:l.length=n)(hL:kI L kr)(hq:SQ r l q)(hs:n<1000000000)(hφ:3000000000≤φ){kk':D→LS→Rs}{kc:Nat}(hkc:kc≠kr):∀(j i f:Nat)(bs:List Blk)(cur:Row),i+j=n→j<f→bs[kr]?=some ⟨rs cur,.rw⟩→RVal bs L l→bs[kc]?=some ⟨rcs q,.rw⟩→cur.length=n→(∀t,ent cur t=if t<i then ent r t-q*ent l t else ent r t)→
 ∃bs',bs'[kr]?=some ⟨rs (sbr r l q),.rw⟩∧(∀k b,k≠kr→bs[k]?=some b→bs'[k]?=some b)∧
 lp (λ(_ _ _ _ _:D)(_:LS)=>none) (oW φ kk') f (.sl kr 0 n c 3 ex) L (.ptr kc 0) (.i .i64 (.ofNat n)) (.i .i64 (.ofNat i)) (mem bs)=kk' (.tup []) (mem bs'):=by
 intro j
 induction j with
 |zero=>
  intro i f bs cur hi hf h0 hLv hc hcl hv;obtain⟨f,rfl⟩:∃q,f=q+1:=⟨f-1,by omega⟩
  have e1:cur=sbr r l q:=by
   rw[Ee (by omega),hr];exact yw hcl (λt ht=>by rw[hv,aC (by omega)])
  refine⟨bs,by rw[←e1];exact h0,λk b _ h=>h,?_⟩;rw[eO];unfold oW;exact th (fy (by omega)) eM
 |succ j ih=>
  intro i f bs cur hi hf h0 hLv hc hcl hv;obtain⟨f,rfl⟩:∃q,f=q+1:=⟨f-1,by omega⟩
  by_cases hz:ent l i=0
  ·obtain⟨bs',a1,a2,a3⟩:=ih (i+1) f bs cur (by omega) (by omega) h0 hLv hc hcl (λt=>by
    rw[hv];by_cases ht:t<i
    ·rw[aC ht,aC (by omega)]
    ·rw[aE ht];by_cases ht2:t=i
     ·subst ht2;rw[aC (by omega),hz];grind
     ·rw[aE (by omega)])
   refine⟨bs',a1,a2,?_⟩;rw[eO];unfold oW;refine th (fk (by omega)) (th eP (th ph (th (OH hLv (by omega)) (th (jo rZ rfl) ?_))));rw[aS hz];exact th wO (th eM (th (fM (by omega)) a3))
  ·have ec:ent cur i=ent r i:=by rw[hv,aE (by omega)]
   obtain⟨bs',a1,a2,a3⟩:=ih (i+1) f (bs.set kr ⟨rs (cur.set i (ent r i-q*ent l i)),.rw⟩) (cur.set i (ent r i-q*ent l i)) (by omega) (by omega) (by rw[ao (fE h0)]) (S0 hLv hL (λk b hk hb=>by rw[bV (Ne.symm hk)];exact hb)) (gg (Ne.symm hkc) hc) (by rw[bD];exact hcl) (λt=>by
    rw[BK (by omega)];by_cases ht:t=i
    ·subst ht;rw[aC rfl,aC (by omega)]
    ·rw[aE ht,hv];by_cases ht2:t<i
     ·rw[aC ht2,aC (by omega)]
     ·rw[aE ht2,aE (by omega)])
   refine⟨bs',a1,λk b hk hb=>a2 k b hk (gg (Ne.symm hk) hb),?_⟩;rw[eO];unfold oW;refine th (fk (by omega)) (th eP (th ph (th (OH hLv (by omega)) (th (jo rZ rfl) ?_))));rw[aN hz];refine th wO (th eP (th (HP h0 rfl rfl (by omega) (by omega)) (th (wb hc) (th (OH hLv (by omega)) (th (oC (Oz hq.ac (hq.al i) hφ) rfl) ?_)))));rw[ec];exact th (oC (Xw (hq.ar i) (hq.ap i) hφ) rfl) (th (Nd h0 (by omega) (by omega)) (th (fM (by omega)) a3))
theorem Do(hr:r.length=n)(hl:l.length=n)(hb:bs[kr]?=some ⟨rs r,.rw⟩)(hLv:RVal bs L l)(hL:kI L kr)(hq:SQ r l q)(hs:n<1000000000)(hφ:3000000000≤φ){kk':D→LS→Rs}:
 ∃bs',bs'[kr]?=some ⟨rs (sbr r l q),.rw⟩∧(∀k b,k≠kr→bs[k]?=some b→bs'[k]?=some b)∧oA φ [.sl kr 0 n c 3 ex,L,rc q] (mem bs) kk'=kk' (.tup []) (mem bs'):=by
 have hlt:=fE hb;by_cases h0:q=0
 ·refine⟨bs++[⟨rcs q,.rw⟩],?_,λk b _ h=>gY h,?_⟩
  ·rw[h0,GU (by omega)];exact gY hb
  ·unfold oA;dsimp only[eV,eZ];refine th (jB rfl) (th FX (th (jo rZ rfl) ?_));rw[aS h0];exact eP
 ·obtain⟨bs',a1,a2,a3⟩:=MF (φ:=φ) (c:=c) (ex:=ex) (kk':=kk') (kc:=bs.length) hr hl hL hq hs hφ (by omega) n 0 φ (bs++[⟨rcs q,.rw⟩]) r (by omega) (by omega) (gY hb) (KJ hLv) (by simp) hr (λt=>by rw[aE (by omega)]);refine⟨bs',a1,λk b hk hb'=>a2 k b hk (gY hb'),?_⟩;unfold oA;dsimp only[eV,eZ];refine th (jB rfl) (th FX (th (jo rZ rfl) ?_));rw[aN h0];exact th eM (th qk a3)
end
section
variable {bs bs':List Blk} {l f g r:Row} {b:Blk} {i j k n m c N kr h H J:Nat} {ex ey:Bool} {s:LS} {K:D→LS→Rs} {kk:IntKind} {q p:Rat} {φ:Nat} {X Y L A:D} {R:List (Nat×Row)}
def rD(N:Nat)(p:Nat×Row):D:=.sl p.1 0 N N 3 false
structure OS (bs:List Blk) (X:D) (R:List (Nat×Row)) (N:Nat):Prop where
 as:AS 1 bs X (R.map (rD N)) R.length
 rows:∀p,p∈R→bs[p.1]?=some ⟨rs p.2,.rw⟩∧p.2.length=N
 nd:(R.map Prod.fst).Nodup
 nb:∀p,p∈R→kI X p.1
theorem WP:OS bs (.tree [] 0 true) [] N:=⟨AS.nil,(λp h=>by cases h),dp,(λp h=>by cases h)⟩
theorem Re{cs:List D}{d:D}(h:AS 1 bs X cs n)(hd:cs[i]?=some d):(eK 1 (mem bs) X (.i kk (.ofNat i)) λa s=>eJ s a K)=K d (mem bs):=by
 cases h with
 |nil=>simp at hd
 |blk hg hc=>
  have:=fE hd;refine th (AB hg rfl (by omega)) ?_;rw[aV,ai];exact F1 hg rfl hd
theorem Rb{cs:List D}{d:D}(h:AS 1 bs X cs n)(hi:i<cs.length)(hv:jr d=[d])(h1:one d=true):
 ∃bs',AS 1 bs' X (cs.set i d) n∧(∀k b,kI X k→bs[k]?=some b→bs'[k]?=some b)∧(eK 1 (mem bs) X (.i kk (.ofNat i)) λa s=>eU 1 s a d K)=K .u (mem bs'):=by
 cases h with
 |nil=>simp at hi
 | @blk l n _ hg hc=>
  refine⟨bs.set l ⟨cs.set i d,.rw⟩,AS.blk (by rw[ao (fE hg)]) (by rw[bD];exact hc),λk b hk hb=>by rw[bV (λe=>hk 0 n n 1 false (by rw[e]))];exact hb,?_⟩;refine th (AB hg rfl (by omega)) ?_;rw[aV,ai];refine GT hg rfl (hx:=hv) (hn:=rfl) (h1:=by simp[h1]) (hl:=?_);rw[←sh];exact wc hi
theorem Lo{cs:List D}(h:AS 1 bs X cs n){s:LS}:ek X s K=K (.i .i64 (.ofNat n)) s:=qo h.ws
theorem Ln{cs:List D}(h:AS 1 bs X cs n)(hk:∀k b,k≠kr→bs[k]?=some b→bs'[k]?=some b)(hX:kI X kr):AS 1 bs' X cs n:=by
 cases h with
 |nil=>exact AS.nil
 |blk hg hc=>exact AS.blk (hk _ _ (λe=>hX 0 _ _ 1 false (by rw[e])) hg) hc
theorem K8(h:OS bs X R N)(hk:∀k b,k≠kr→bs[k]?=some b→bs'[k]?=some b)(hX:kI X kr)(hR:∀p,p∈R→p.1≠kr):OS bs' X R N:=
 ⟨Ln h.as hk hX,λp hp=>⟨hk _ _ (hR p hp) (h.rows p hp).1,(h.rows p hp).2⟩,h.nd,h.nb⟩
theorem PV(h:OS bs X R N)(hi:i<R.length):(eK 1 (mem bs) X (.i kk (.ofNat i)) λa s=>eJ s a K)=K (rD N R[i]) (mem bs):=
 Re h.as (by rw[au,aB hi];rfl)
theorem Iv(h:OS bs X R N){s:LS}:ek X s K=K (.i .i64 (.ofNat R.length)) s:=Lo h.as
theorem K7(h:OS bs X R N){p:Nat×Row}(hp:p∈R):RVal bs (rD N p) p.2:=by
 have:=(h.rows p hp).2;unfold rD;rw[←this];exact IY (h.rows p hp).1
theorem KO(hr:RH h r)(hl:RH H l)(hk:h+H+1≤KB)(p:Nat):SQ r l (ent r p):=
 ⟨λi=>vd (MR hr i) (by omega),λi=>vd (MR hl i) (by omega),vd (MR hr p) (by omega),λi=>vd (Xn hr hl p i) hk⟩
theorem MU{E:List Row}:tD (E++[l]) r=sbr (tD E r) l (ent (tD E r) (pvt l)):=by
 unfold tD;rw[dR];rfl
theorem Ss{p:Nat×Row}(h:p.1≠k):kI (rD N p) k:=λo n m z e he=>by
 unfold rD at he;injection he with h1;exact h h1
theorem XE(hφ:3000000000≤φ)(hN:N<1000000000)(hO:OS bs X R N)(hX:kI X kr)(hRk:∀p,p∈R→p.1≠kr)(hpv:∀p,p∈R→pvt p.2<N)(hH:∀p,p∈R→RH H p.2)(hr:r.length=N)(hh:RH h r)(hK:h+(R.length+1)*(H+2)≤KB)(hl:R.length<1000000){j9:D→D→D→D→LS→Rs}{a b' c':D}:
 ∀(j i fu:Nat)(bs:List Blk),i+j=R.length→j<fu→OS bs X R N→bs[kr]?=some ⟨rs (tD ((R.take i).map Prod.snd) r),.rw⟩→
 ∃bs',OS bs' X R N∧bs'[kr]?=some ⟨rs (tD (R.map Prod.snd) r),.rw⟩∧(∀k b,k≠kr→bs[k]?=some b→bs'[k]?=some b)∧
 lp (λ(_ _ _ _ _ _ _ _:D)(_:LS)=>none) (jP φ j9) fu X (.sl kr 0 N N 3 false) a b' c' X (.i .i64 (.ofNat R.length)) (.i .i64 (.ofNat i)) (mem bs)=
 lp (λ(_ _ _ _ _ _ _ _:D)(_:LS)=>none) (jP φ j9) (fu-j) X (.sl kr 0 N N 3 false) a b' c' X (.i .i64 (.ofNat R.length)) (.i .i64 (.ofNat R.length)) (mem bs'):=by
 intro j
 induction j with
 |zero=>
  intro i fu bs hi hf hO hb;have:i=R.length:=by omega
  subst this;rw[aM (aD _)]at hb;exact⟨bs,hO,hb,λ_ _ _ h=>h,rfl⟩
 |succ j ih=>
  intro i fu bs hi hf hO hb;obtain⟨fu,rfl⟩:∃q,fu=q+1:=⟨fu-1,by omega⟩
  have hiR:i<R.length:=by omega
  have hmem:R[i]∈R:=bK hiR;have hEi:∀l,l∈(R.take i).map Prod.snd→l.length=N∧RH H l:=λl hl=>by
   obtain⟨p,hp,rfl⟩:=aW.1 hl;have:=bw hp;exact⟨(hO.rows p this).2,hH p this⟩
  have hcl:=Ba (λl hl=>(hEi l hl).1) hr;have hcr:=El (λl hl=>hEi l hl) hr hh;rw[aI,ah,bO (by omega)]at hcr;have hbound:h+i*(H+2)+H+1≤KB:=by
   have h5:=aL (H+2) (show i+1≤R.length+1 by omega);rw[aP i 1,bE]at h5;omega
  have hli:=(hO.rows _ hmem).2;have hsq:=KO hcr (hH _ hmem) hbound (pvt R[i].2);obtain⟨b1,g1,g2,g3⟩:=Do (φ:=φ) (c:=N) (ex:=false) (L:=rD N R[i]) (kk':=λ_ s=>ee (.i .i64 (.ofNat i)) (.i .i64 (.ofNat 1)) λx35=>lp (λ(_ _ _ _ _ _ _ _:D)(_:LS)=>none) (jP φ j9) fu X (.sl kr 0 N N 3 false) a b' c' X (.i .i64 (.ofNat R.length)) x35 s) hcl hli hb (K7 hO hmem) (Ss (hRk _ hmem)) hsq hN hφ;obtain⟨bs',a1,a2,a3,a4⟩:=ih (i+1) fu b1 (by omega) (by omega) (K8 hO g2 hX hRk) (by
   rw[cH,aB hiR,ak];show b1[kr]?=some ⟨rs (tD (List.map Prod.snd (List.take i R)++[R[i].2]) r),.rw⟩;rw[MU];exact g1)
  refine⟨bs',a1,a2,λk b hk hb=>a3 k b hk (g2 k b hk hb),?_⟩;have hpi:=hpv _ hmem;rw[eO]
  conv=>lhs;unfold jP
  refine th (fk (by omega)) (th eP (th (PV hO hiR) (th (I7 (v:=pvD R[i].2) (K7 hO hmem) (λe=>Ey (by omega) (by omega) e) Gl) ?_)));rw[show pvD R[i].2=.i .i64 (.ofNat (pvt R[i].2)) by unfold pvD;rw[aC (by omega)]];refine th (HP hb rfl rfl (by omega) (by omega)) (g3.trans (th (fM (by omega)) ?_));rw[bt fu 1 j];exact a4
theorem XF(hφ:3000000000≤φ)(hN:N<1000000000)(hr:r.length=N)(ar:AQ r)(hq:Qz KB q){j9:D→D→D→D→LS→Rs}{at' a b' c':D}{kc:Nat}(hkc:kc≠kr):
 ∀(j i fu:Nat)(bs:List Blk)(cur:Row),i+j=N→j<fu→bs[kr]?=some ⟨rs cur,.rw⟩→bs[kc]?=some ⟨rcs q,.rw⟩→cur.length=N→(∀t,ent cur t=if t<i then ent r t*q else ent r t)→
 ∃bs',bs'[kr]?=some ⟨rs (scl r q),.rw⟩∧(∀k b,k≠kr→bs[k]?=some b→bs'[k]?=some b)∧
 lp (λ(_ _ _ _ _ _ _ _ _:D)(_:LS)=>none) (pC φ j9) fu X (.sl kr 0 N N 3 false) at' (.ptr kc 0) a b' c' (.i .i64 (.ofNat N)) (.i .i64 (.ofNat i)) (mem bs)=
 lp (λ(_ _ _ _ _ _ _ _ _:D)(_:LS)=>none) (pC φ j9) (fu-j) X (.sl kr 0 N N 3 false) at' (.ptr kc 0) a b' c' (.i .i64 (.ofNat N)) (.i .i64 (.ofNat N)) (mem bs'):=by
 intro j
 induction j with
 |zero=>
  intro i fu bs cur hi hf h0 hc hcl hv;have:i=N:=by omega
  subst this;have e1:cur=scl r q:=by
   rw[KI,hr];exact yw hcl (λt ht=>by rw[hv,aC ht])
  exact⟨bs,by rw[←e1];exact h0,λ_ _ _ h=>h,rfl⟩
 |succ j ih=>
  intro i fu bs cur hi hf h0 hc hcl hv;obtain⟨fu,rfl⟩:∃q,fu=q+1:=⟨fu-1,by omega⟩
  have ec:ent cur i=ent r i:=by rw[hv,aE (by omega)]
  obtain⟨bs',a1,a2,a3⟩:=ih (i+1) fu (bs.set kr ⟨rs (cur.set i (ent r i*q)),.rw⟩) (cur.set i (ent r i*q)) (by omega) (by omega) (by rw[ao (fE h0)]) (gg (Ne.symm hkc) hc) (by rw[bD];exact hcl) (λt=>by
   rw[BK (by omega)];by_cases ht:t=i
   ·subst ht;rw[aC rfl,aC (by omega)]
   ·rw[aE ht,hv];by_cases ht2:t<i
    ·rw[aC ht2,aC (by omega)]
    ·rw[aE ht2,aE (by omega)])
  refine⟨bs',a1,λk b hk hb=>a2 k b hk (gg (Ne.symm hk) hb),?_⟩;rw[eO]
  conv=>lhs;unfold pC
  refine th (fk (by omega)) (th eP (th (HP h0 rfl rfl (by omega) (by omega)) (th (wb hc) ?_)));rw[ec];refine th (oC (Oz (ar i) hq hφ) rfl) (th (Nd h0 (by omega) (by omega)) (th (fM (by omega)) ?_));rw[bt fu 1 j];exact a3
def upR(r:Row)(at':Nat)(p:Nat×Row):Nat×Row:=(p.1,sbr p.2 r (ent p.2 at'))
theorem XG(hφ:3000000000≤φ)(hN:N<1000000000){at':Nat}(hat:at'<N)(hr:r.length=N)(hrR:RH h r)(hH:∀p,p∈R→RH H p.2)(hK:H+h+1≤KB)(hX:kI X kr)(hRk:∀p,p∈R→p.1≠kr)(hl:R.length<1000000){j9:D→D→D→D→LS→Rs}{a b' c':D}:
 ∀(j i fu:Nat)(bs:List Blk),i+j=R.length→j<fu→OS bs X ((R.take i).map (upR r at')++R.drop i) N→bs[kr]?=some ⟨rs r,.rw⟩→
 ∃bs',OS bs' X (R.map (upR r at')) N∧bs'[kr]?=some ⟨rs r,.rw⟩∧
 lp (λ(_ _ _ _ _ _ _ _ _:D)(_:LS)=>none) (nC φ j9) fu X (.sl kr 0 N N 3 false) (.i .i64 (.ofNat at')) a b' c' X (.i .i64 (.ofNat R.length)) (.i .i64 (.ofNat i)) (mem bs)=
 lp (λ(_ _ _ _ _ _ _ _ _:D)(_:LS)=>none) (nC φ j9) (fu-j) X (.sl kr 0 N N 3 false) (.i .i64 (.ofNat at')) a b' c' X (.i .i64 (.ofNat R.length)) (.i .i64 (.ofNat R.length)) (mem bs'):=by
 intro j
 induction j with
 |zero=>
  intro i fu bs hi hf hO hb;have:i=R.length:=by omega
  subst this;rw[aM (aD _),bh (aD _),bq]at hO;exact⟨bs,hO,hb,rfl⟩
 |succ j ih=>
  intro i fu bs hi hf hO hb;obtain⟨fu,rfl⟩:∃q,fu=q+1:=⟨fu-1,by omega⟩
  have hiR:i<R.length:=by omega
  have hmem:R[i]∈R:=bK hiR;have hdr:R.drop i=R[i]::R.drop (i+1):=bZ hiR;have hmemO:R[i]∈(R.take i).map (upR r at')++R.drop i:=cF _ (by rw[hdr];exact cA);have hli:=(hO.rows _ hmemO).2;have hki:=(hO.rows _ hmemO).1;have hlen:((R.take i).map (upR r at')++R.drop i).length=R.length:=by simp;omega
  have hne:∀p,p∈(R.take i).map (upR r at')++R.drop (i+1)→p.1≠R[i].1:=by
   intro p hp e;have hnd:=hO.nd;rw[hdr,ak,bB]at hnd;rw[List.nodup_append]at hnd;obtain⟨n1,n2,n3⟩:=hnd;rcases am.1 hp with hp|hp
   ·exact n3 p.1 (ax hp) R[i].1 (by simp) e
   ·rw[z1E]at n2;exact n2.1 (e▸ax hp)
  have hsq:=KO (hH _ hmem) hrR (by omega) at';have hrv:RVal bs (.sl kr 0 N N 3 false) r:=by rw[←hr];exact IY hb
  have hnb:kI (.sl kr 0 N N 3 false) R[i].1:=λo n m z e he=>by
   injection he with h1;exact hRk _ hmem h1.symm
  obtain⟨b1,g1,g2,g3⟩:=Do (φ:=φ) (n:=N) (kr:=R[i].1) (r:=R[i].2) (l:=r) (c:=N) (ex:=false) (L:=.sl kr 0 N N 3 false) (kk':=λ_ s=>ee (.i .i64 (.ofNat i)) (.i .i64 (.ofNat 1)) λx77=>lp (λ(_ _ _ _ _ _ _ _ _:D)(_:LS)=>none) (nC φ j9) fu X (.sl kr 0 N N 3 false) (.i .i64 (.ofNat at')) a b' c' X (.i .i64 (.ofNat R.length)) x77 s) hli hr hki hrv hnb hsq hN hφ;have hO':OS b1 X ((R.take (i+1)).map (upR r at')++R.drop (i+1)) N:=by
   have e1:(R.take (i+1)).map (upR r at')++R.drop (i+1)=(R.take i).map (upR r at')++upR r at' R[i]::R.drop (i+1):=by
    rw[cH,aB hiR,ak,bW];rfl
   have e2:((R.take i).map (upR r at')++upR r at' R[i]::R.drop (i+1)).map (rD N)=((R.take i).map (upR r at')++R.drop i).map (rD N):=by
    rw[hdr];simp only[ak,bB];rfl
   have e3:((R.take i).map (upR r at')++upR r at' R[i]::R.drop (i+1)).map Prod.fst=((R.take i).map (upR r at')++R.drop i).map Prod.fst:=by
    rw[hdr];simp only[ak,bB];rfl
   have hXi:kI X R[i].1:=hO.nb _ hmemO;rw[e1];have inR:∀p,p∈R.drop (i+1)→p∈(R.take i).map (upR r at')++R.drop i:=λp hp=>cF _ (by rw[hdr];exact bm _ hp);refine⟨?_,λp hp=>?_,by rw[e3];exact hO.nd,λp hp=>?_⟩
   ·rw[e2,show((R.take i).map (upR r at')++upR r at' R[i]::R.drop (i+1)).length=((R.take i).map (upR r at')++R.drop i).length by rw[hdr];simp only[bF,ay]];exact Ln hO.as g2 hXi
   ·rcases am.1 hp with hp|hp
    ·exact⟨g2 _ _ (hne p (b9 _ hp)) (hO.rows p (b9 _ hp)).1,(hO.rows p (b9 _ hp)).2⟩
    ·rcases bI.1 hp with rfl|hp
     ·exact⟨g1,by show(sbr R[i].2 r (ent R[i].2 at')).length=N;rw[se (by omega)];exact hli⟩
     ·exact⟨g2 _ _ (hne p (cF _ hp)) (hO.rows p (inR p hp)).1,(hO.rows p (inR p hp)).2⟩
   ·rcases am.1 hp with hp|hp
    ·exact hO.nb p (b9 _ hp)
    ·rcases bI.1 hp with rfl|hp
     ·exact hXi
     ·exact hO.nb p (inR p hp)
  obtain⟨bs',a1,a2,a3⟩:=ih (i+1) fu b1 (by omega) (by omega) hO' (g2 _ _ (λe=>hRk _ hmem e.symm) hb);refine⟨bs',a1,a2,?_⟩;have hget:((R.take i).map (upR r at')++R.drop i)[i]?=some R[i]:=by
   rw[bN (by rw[aI,ah];omega),aI,ah,bO (by omega),cC,hdr];rfl
  rw[eO]
  conv=>lhs;unfold nC
  refine th (fk (by omega)) (th eP (th (Re hO.as (d:=rD N R[i]) (by rw[au,hget];rfl)) ?_));refine th (HP hki rfl rfl hat (by omega)) (g3.trans (th (fM (by omega)) ?_));rw[bt fu 1 j];exact a3
end
abbrev IR:=Nat×Row
def d0:IR:=(0,[])
def swp(l:List IR)(j:Nat):List IR:=(l.set j (l.getD (j-1) d0)).set (j-1) (l.getD j d0)
def zD:Nat→List IR→List IR
 |0,l=>l
 |j+1,l=>if pvt (l.getD (j+1) d0).2<pvt (l.getD j d0).2 then zD j (swp l (j+1))else l
def NE:Nat→Nat→List IR→List IR
 |0,_,l=>l
 |t+1,i,l=>NE t (i+1) (zD i l)
def xS(l:List IR):List IR:=NE (l.length-1) 1 l
section
variable {bs bs':List Blk} {i j k n m c N:Nat} {s:LS} {K:D→LS→Rs} {kk:IntKind} {φ:Nat} {X:D} {R R':List IR}
theorem xD{l:List IR}:(swp l j).length=l.length:=by unfold swp;simp
theorem y6:∀(j:Nat)(l:List IR),j+1<l.length→(swp l (j+1)).Perm l
 |0,a::b::r,_=>List.Perm.swap a b r
 |j+1,a::r,h=>by
  have ih:=y6 j r (by simpa using h);have e:swp (a::r) (j+1+1)=a::swp r (j+1):=rfl;rw[e];exact List.Perm.cons a ih
theorem AA:∀(j:Nat)(l:List IR),j<l.length→(zD j l).Perm l
 |0,l,_=>z1h _
 |j+1,l,h=>by
  unfold zD;split
  ·exact(AA j _ (by rw[xD];omega)).trans (y6 j l h)
  ·exact z1h _
theorem EJ:∀(t i:Nat)(l:List IR),i+t≤l.length→(NE t i l).Perm l
 |0,_,l,_=>z1h _
 |t+1,i,l,h=>by
  have h1:=AA i l (by omega);exact(EJ t (i+1) _ (by rw[h1.length_eq];omega)).trans h1
theorem z9(l:List IR):(xS l).Perm l:=by
 unfold xS;by_cases h:l.length=0
 ·have:l=[]:=a8 h;subst this;exact z1h _
 ·exact EJ _ _ _ (by omega)
theorem TG(h:OS bs X R N)(hp:R'.Perm R)(ha:AS 1 bs' X (R'.map (rD N)) R'.length)(hb:∀k b,kI X k→bs[k]?=some b→bs'[k]?=some b):OS bs' X R' N:=
 ⟨ha,λp hq=>⟨hb _ _ (h.nb p (hp.mem_iff.1 hq)) (h.rows p (hp.mem_iff.1 hq)).1,(h.rows p (hp.mem_iff.1 hq)).2⟩,(hp.map Prod.fst).nodup_iff.2 h.nd,λp hq=>h.nb p (hp.mem_iff.1 hq)⟩
def cD(a b:Nat):D:=if b≤a then .i .i64 (.ofNat (a-b))else .i .i64 (.negSucc (b-a-1))
theorem U7{a b:Nat}:tM (cD a b)=true:=by unfold cD;split<;>rfl
theorem RX{a b:Nat}{k:D→Rs}:fN (cD a b) (.i .i64 (.ofNat 0)) k=k (.b (decide (a<b))):=by
 unfold cD;by_cases h:b≤a
 ·rw[aC h,fy (cU _),aN (by omega)]
 ·rw[aE h,aS (by omega)];show fV .lss (.i .i64 (.negSucc _)) (.i .i64 (.ofNat 0)) k=_;unfold fV;rw[gS];show k (.b (decide (Int.negSucc (b-a-1)<Int.ofNat 0)))=_;rw[aS (by rw[dc];show _<(0:Int);omega)]
theorem ZX{r1 r2:Row}(h1:pvt r1<r1.length)(h2:pvt r2<r2.length)(hs:r1.length<1000000000)(hs2:r2.length<1000000000)(hφ:1000000000≤φ)(e e':Bool):oX φ [.tree (rs r1) r1.length e,.tree (rs r2) r2.length e']=some (cD (pvt r1) (pvt r2)):=by
 have g1:=Ey (φ:=φ) hs hφ e;have g2:=Ey (φ:=φ) hs2 hφ e';unfold pvD at g1 g2;rw[aC h1]at g1;rw[aC h2]at g2;unfold oX;dsimp only[eV,eZ];refine th (fP g1) (th (fP g2) ?_);unfold cD;by_cases h:pvt r2≤pvt r1
 ·rw[aC h];exact th (gR h (by omega)) ia
 ·rw[aE h];exact th (nJ h (by omega)) ia
theorem CV{X i:D}{s:LS}{K:D→LS→Rs}:(eI (.b true) true (λk=>eK 1 s X i k) s λx s=>eI (.b true) true (λk=>eJ s x k) s K)=eK 1 s X i λa s=>eJ s a K:=rfl
theorem Hd{l:List IR}(h:i<l.length):l.getD i d0=l[i]:=by rw[aH,aB h];rfl
theorem xI(h:OS bs X R N)(hi:i<R.length):(eK 1 (mem bs) X (.i kk (.ofNat i)) λa s=>eJ s a K)=K (rD N (R.getD i d0)) (mem bs):=by rw[Hd hi];exact PV h hi
theorem HG{l:List IR}(h:i<l.length):l.getD i d0∈l:=by rw[Hd h];exact bK h
theorem WN(h:OS bs X R N)(hj:j+1<R.length):∃bs',OS bs' X (swp R (j+1)) N∧
 (eK 1 (mem bs) X (.i .i64 (.ofNat (j+1))) λa s=>eU 1 s a (rD N (R.getD j d0)) λ_ s=>eK 1 s X (.i .i64 (.ofNat j)) λa s=>eU 1 s a (rD N (R.getD (j+1) d0)) K)=K .u (mem bs'):=by
 obtain⟨b1,g1,g2,g3⟩:=Rb (i:=j+1) (d:=rD N (R.getD j d0)) (kk:=.i64) (K:=λ_ s=>eK 1 s X (.i .i64 (.ofNat j)) λa s=>eU 1 s a (rD N (R.getD (j+1) d0)) K) h.as (by rw[aI];exact hj) rfl rfl;obtain⟨b2,k1,k2,k3⟩:=Rb (i:=j) (d:=rD N (R.getD (j+1) d0)) (kk:=.i64) (K:=K) g1 (by rw[bD,aI];omega) rfl rfl;refine⟨b2,TG h (y6 j R hj) ?_ (λk b hk hb=>k2 k b hk (g2 k b hk hb)),g3.trans k3⟩;rw[xD];have e:(swp R (j+1)).map (rD N)=((R.map (rD N)).set (j+1) (rD N (R.getD j d0))).set j (rD N (R.getD (j+1) d0)):=by
  unfold swp;rw[dr,dr];rfl
 rw[e];exact k1
theorem Wl(hφ:1000000000≤φ)(hN:N<1000000000){q6:D→D→D→D→D→LS→Rs}{bb:D}{i:Nat}(hi:i<1000000000):∀(j fu:Nat)(bs:List Blk)(R:List IR),OS bs X R N→(∀p,p∈R→pvt p.2<N)→j<R.length→R.length<1000000000→j<fu→
 ∃bs',OS bs' X (zD j R) N∧lp (λ(_ _ _ _ _ _:D)(_:LS)=>none) (fa φ q6) fu X (.i .i64 (.ofNat 0)) bb (.fn 106 []) (.i .i64 (.ofNat i)) (.i .i64 (.ofNat j)) (mem bs)=q6 X (.i .i64 (.ofNat 0)) bb (.fn 106 []) (.i .i64 (.ofNat (i+1))) (mem bs'):=by
 intro j
 induction j with
 |zero=>
  intro fu bs R hO hp hj hl hf;obtain⟨fu,rfl⟩:∃q,fu=q+1:=⟨fu-1,by omega⟩
  refine⟨bs,hO,?_⟩;rw[eO];unfold fa;exact th (oO (by omega)) (th fj (th fj (th fj (th fj (th fj (th fj (th fj (th fj (th fj (th fj (th fj (th fj (th gE (th eM (fM (by omega))))))))))))))))
 |succ j ih=>
  intro fu bs R hO hp hj hl hf;obtain⟨fu,rfl⟩:∃q,fu=q+1:=⟨fu-1,by omega⟩
  have m1:=HG hj;have m2:=HG (show j<R.length by omega);have l1:=(hO.rows _ m1).2;have l2:=(hO.rows _ m2).2;have p1:=hp _ m1;have p2:=hp _ m2;have hcmp:∀F:D→LS→Rs,uD (eT φ) false (.fn 106 []) [rD N (R.getD (j+1) d0),rD N (R.getD j d0)] (mem bs) F=F (cD (pvt (R.getD (j+1) d0).2) (pvt (R.getD j d0).2)) (mem bs):=λF=>by
   show eR (oX φ) [rD N (R.getD (j+1) d0),rD N (R.getD j d0)] (mem bs) F=_;exact S2 (K7 hO m1) (K7 hO m2) (λe e'=>ZX (by omega) (by omega) (by omega) (by omega) hφ e e') U7
  by_cases hc:pvt (R.getD (j+1) d0).2<pvt (R.getD j d0).2
  ·obtain⟨b1,g1,g2⟩:=WN (K:=λ_ s=>et (.i .i64 (.ofNat (j+1))) (.i .i64 (.ofNat 1)) λx42=>lp (λ(_ _ _ _ _ _:D)(_:LS)=>none) (fa φ q6) fu X (.i .i64 (.ofNat 0)) bb (.fn 106 []) (.i .i64 (.ofNat i)) x42 s) hO hj;have hperm:=y6 j R hj;obtain⟨b2,k1,k2⟩:=ih fu b1 (swp R (j+1)) g1 (λp hq=>hp p (hperm.mem_iff.1 hq)) (by rw[xD];omega) (by rw[xD];exact hl) (by omega);refine⟨b2,?_,?_⟩
   ·unfold zD;rw[aC hc];exact k1
   ·rw[eO]
    conv=>lhs;unfold fa
    refine th (mf (by omega)) (th fD (th fD (th fD (th CV (th (xI hO hj) (th fD (th fD (th fD (th (gR (by omega) (by omega)) (th CV ?_))))))))));rw[a7];refine th (xI hO (by omega)) (th fD (th (hcmp _) (th fD (th RX ?_))));rw[aS hc];refine th fe (th eP (th (gR (by omega) (by omega)) (th (gR (by omega) (by omega)) ?_)));rw[a7];refine th (xI hO (by omega)) (th (xI hO hj) (g2.trans (th (gR (by omega) (by omega)) ?_)));rw[a7];exact k2
  ·refine⟨bs,?_,?_⟩
   ·unfold zD;rw[aE hc];exact hO
   ·rw[eO]
    conv=>lhs;unfold fa
    refine th (mf (by omega)) (th fD (th fD (th fD (th CV (th (xI hO hj) (th fD (th fD (th fD (th (gR (by omega) (by omega)) (th CV ?_))))))))));rw[a7];refine th (xI hO (by omega)) (th fD (th (hcmp _) (th fD (th RX ?_))));rw[aN hc];exact th fe (th eM (fM (by omega)))
theorem Wk(hφ:1000000000≤φ)(hN:N<1000000000){kk':D→LS→Rs}{n:Nat}(hn:n<1000000000):∀(t i fu:Nat)(bs:List Blk)(R:List IR),OS bs X R N→(∀p,p∈R→pvt p.2<N)→R.length=n→(i+t=n∨t=0∧n≤i)→t<fu→
 ∃bs',OS bs' X (NE t i R) N∧lp (λ(_ _ _ _ _:D)(_:LS)=>none) (gC φ kk') fu X (.i .i64 (.ofNat 0)) (.i .i64 (.ofNat n)) (.fn 106 []) (.i .i64 (.ofNat i)) (mem bs)=kk' (.tup []) (mem bs'):=by
 intro t
 induction t with
 |zero=>
  intro i fu bs R hO hp hl hi hf;obtain⟨fu,rfl⟩:∃q,fu=q+1:=⟨fu-1,by omega⟩
  refine⟨bs,hO,?_⟩;rw[eO];unfold gC;exact th (fy (by omega)) eM
 |succ t ih=>
  intro i fu bs R hO hp hl hi hf;obtain⟨fu,rfl⟩:∃q,fu=q+1:=⟨fu-1,by omega⟩
  obtain⟨b1,g1,g2⟩:=Wl (φ:=φ) (i:=i) (q6:=lp (λ(_ _ _ _ _:D)(_:LS)=>none) (gC φ kk') fu) (bb:=.i .i64 (.ofNat n)) hφ hN (by omega) i φ bs R hO hp (by omega) (by omega) (by omega);have hperm:=AA i R (by omega);obtain⟨b2,k1,k2⟩:=ih (i+1) fu b1 (zD i R) g1 (λp hq=>hp p (hperm.mem_iff.1 hq)) (by rw[hperm.length_eq];exact hl) (by omega) (by omega);refine⟨b2,k1,?_⟩;rw[eO]
  conv=>lhs;unfold gC
  exact th (fk (by omega)) (th eP (g2.trans k2))
theorem Xy(hφ:1000000000≤φ)(hN:N<1000000000)(hO:OS bs X R N)(hp:∀p,p∈R→pvt p.2<N)(hl:R.length≤12){kk':D→LS→Rs}:
 ∃bs',OS bs' X (xS R) N∧ga φ [X,.fn 106 []] (mem bs) kk'=kk' (.tup []) (mem bs'):=by
 obtain⟨b1,g1,g2⟩:=Wk (φ:=φ) (n:=R.length) (kk':=λ_ s=>kk' (.tup []) s) hφ hN (by omega) (R.length-1) 1 φ bs R hO hp rfl (by omega) (by omega);obtain⟨L,_,hL⟩:=EE (φ:=φ) (x:=R.length) (by omega);have hlen:nD φ [.i .u64 (.ofNat R.length)]=some (.i .i64 (.ofNat L)):=by
  unfold nD;dsimp only[eV,eZ];exact th eM (th (fP hL) ia)
 refine⟨b1,g1,?_⟩;unfold ga;dsimp only[eV,eZ];refine th (Iv hO) (th (we (by show R.length≤18446744073709551615;omega)) (th (fP hlen) ?_));obtain⟨ψ,hψ⟩:∃ψ,φ=ψ+1:=⟨φ-1,by omega⟩
 have e1:hI φ=hZ φ (lp (λ_ _ _=>none) (hZ φ) ψ):=by
  unfold hI
  conv=>lhs;arg 3;rw[hψ]
  rfl
 rw[e1];unfold hZ;dsimp only[eV,eZ];have e2:∀{α:Type}(bot:α)(f:α→α),lp bot f φ=f (lp bot f ψ):=λbot f=>by rw[hψ,eO]
 rw[e2];unfold mg;refine th (gR (by omega) (by omega)) (th yG ?_);rw[aF (by omega)];refine th eP ?_;unfold gq;dsimp only[eV,eZ];exact th (fM (by omega)) g2
end
def mtD(p:Row×Bool):D:=.tree (rs p.1) p.1.length p.2
section
variable {bs bs':List Blk} {i j k n m c N h J:Nat} {ex ey:Bool} {s:LS} {K:D→LS→Rs} {kk:IntKind} {φ:Nat} {X:D} {R R':List IR} {P:List (Row×Bool)} {rows:List Row} {l r:Row}
theorem t8{cs:List D}{d:D}{e:Bool}(hd:cs[i]?=some d)(hn:cs.length=n):(eK 1 s (.tree cs n e) (.i kk (.ofNat i)) λa s=>eJ s a K)=K d s:=by
 have:=fE hd;refine th (uv (by omega) (by rw[ai];exact this)) ?_;rw[ai];exact vk hd
theorem K0(hn:l.length=n)(hne:l≠[])(hs:n<1000000000):pP (fK φ) [.tree (rs l) n ex]=some (.own (rs l) n 3):=Io (φ:=φ) hn hne hs
theorem FJ(hO:OS bs X R N){x:Blk}:OS (bs++[x]) X R N:=by
 refine⟨?_,λp hp=>⟨gY (hO.rows p hp).1,(hO.rows p hp).2⟩,hO.nd,hO.nb⟩;have:=hO.as;generalize R.map (rD N)=cs at*;generalize R.length=nn at*;cases this with
 |nil=>exact AS.nil
 |blk hg hc=>exact AS.blk (gY hg) hc
theorem PW(hO:OS bs X R N)(hk:bs.length≤k):kI X k∧∀p,p∈R→p.1≠k:=by
 refine⟨?_,λp hp e=>by have:=fE (hO.rows p hp).1;omega⟩;have:=hO.as;generalize R.map (rD N)=cs at*;generalize R.length=nn at*;intro o n' m' z e he;cases this with
 |nil=>cases he
 |blk hg hc=>cases he;have:=fE hg;omega
theorem M8(hO:OS bs X R N){kr:Nat}(hX:kI X kr)(hR:∀p,p∈R→p.1≠kr)(hb:bs[kr]?=some ⟨rs r,.rw⟩)(hr:r.length=N)(hl:R.length<1000000):
 ∃bs' X',OS bs' X' (R++[(kr,r)]) N∧(jY 1 [.tree [] 0 true] [(0,1,.sl kr 0 N N 3 false)] (mem bs) λy s=>mF 1 24 s X y K)=K X' (mem bs'):=by
 obtain⟨b1,X1,g1,g2,g3⟩:=ap1 (bytes:=24) (zero:=[.tree [] 0 true]) (x:=.sl kr 0 N N 3 false) (new:=[.sl kr 0 N N 3 false]) (K:=K) hO.as rfl rfl rfl rfl (by omega) (by omega);refine⟨b1,X1,⟨?_,λp hp=>?_,?_,λp hp=>?_⟩,g3⟩
 ·rw[ak,bF];exact g1
 ·rcases am.1 hp with hp|hp
  ·exact⟨(g2 _ _ (hO.nb p hp) (hO.rows p hp).1).1,(hO.rows p hp).2⟩
  ·have:p=(kr,r):=by simpa using hp
   subst this;exact⟨(g2 _ _ hX hb).1,hr⟩
 ·rw[ak,List.nodup_append];refine⟨hO.nd,by simp,λa ha b hb'=>?_⟩;obtain⟨p,hp,rfl⟩:=aW.1 ha;have:b=kr:=by simpa using hb'
  subst this;exact hR p hp
 ·rcases am.1 hp with hp|hp
  ·exact(g2 _ _ (hO.nb p hp) (hO.rows p hp).1).2
  ·have:p=(kr,r):=by simpa using hp
   subst this;exact(g2 _ _ hX hb).2
theorem Vp(hO:OS bs X R N):∃P:List (Row×Bool),P.map Prod.fst=R.map Prod.snd∧(eX true (mem bs) X some=some (.own (P.map mtD) R.length 1)∨R=[]∧eX true (mem bs) X some=some (.tree [] 0 true)):=by
 have hm:∀R':List IR,(∀p,p∈R'→bs[p.1]?=some ⟨rs p.2,.rw⟩∧p.2.length=N)→∃P:List (Row×Bool),P.map Prod.fst=R'.map Prod.snd∧iP (res (mem bs).get 60) (R'.map (rD N))=some (P.map mtD,R'.map Prod.fst):=by
  intro R'
  induction R' with
  |nil=>intro _;exact⟨[],rfl,rfl⟩
  |cons p R' ih=>
   intro h;obtain⟨P,h1,h2⟩:=ih (λq hq=>h q (by simp[hq]));obtain⟨g1,g2⟩:=h p (by simp);have h3:res (mem bs).get 60 (rD N p)=some (mtD (p.2,(false&&N==N)),[p.1]):=by
    unfold rD mtD;have:=uN (g:=(mem bs).get) (n:=59) (l:=p.1) (off:=0) (len:=N) (cm:=N) (z:=3) (ex:=false) (r:=rs p.2) (cs:=rs p.2) (ls:=[]) (by rw[mQ];exact g1) rfl (by
     unfold cut;rw[aj,tX g2,aC (by rw[oa,g2])]) (kL (k:=58) _ (rW p.2))
    rw[this,g2]
   refine⟨(p.2,(false&&N==N))::P,by simp[h1],?_⟩;rw[bB];unfold iP;rw[h3,h2];rfl
 obtain⟨P,h1,h2⟩:=hm R hO.rows;refine⟨P,h1,?_⟩;have ha:=hO.as;have hnb:=hO.nb;generalize hcs:R.map (rD N)=cs at ha h2;generalize hnn:R.length=nn at ha;cases ha with
 |nil=>exact Or.inr ⟨a8 hnn,yf⟩
 | @blk l _ _ hg hc=>
  left;unfold eX;rw[mU];show uw (nu true (mem bs).get fv (.sl l 0 nn nn 1 false)) some=_;have hcut:cut 0 (nn*1) cs=some cs:=by
   unfold cut;rw[aj,aM (by rw[hc];exact aD _),aC hc]
  have hnot:(R.map Prod.fst).contains l=false:=by
   rw[←Bool.not_eq_true,List.contains_iff_mem];intro hm;obtain⟨p,hp,rfl⟩:=aW.1 hm;exact hnb p hp 0 nn nn 1 false rfl
  have:nu true (mem bs).get fv (.sl l 0 nn nn 1 false)=some (.own (P.map mtD) nn 1):=by
   have e1:tN true (mem bs).get 60 (.sl l 0 nn nn 1 false)=some (.own (P.map mtD) nn 1,[l],R.map Prod.fst):=by
    show(match (mem bs).get l with
     |some b=>if b.st.wr then match cut 0 (nn*1) b.cs with
      |some r=>match iP (res (mem bs).get 60) r with
       |some (cs,ls)=>some (D.own cs nn 1,[l],ls)
       |none=>none
      |none=>none
      else yi (res (mem bs).get 60 (.sl l 0 nn nn 1 false))
     |none=>none)=_
    rw[mQ,hg];show(match cut 0 (nn*1) cs with
     |some r=>match iP (res (mem bs).get 60) r with
      |some (cs,ls)=>some (D.own cs nn 1,[l],ls)
      |none=>none
     |none=>none)=_
    rw[hcut];show(match iP (res (mem bs).get 60) cs with
     |some (cs,ls)=>some (D.own cs nn 1,[l],ls)
     |none=>none)=_
    rw[h2]
   show(match tN true (mem bs).get 60 (.sl l 0 nn nn 1 false)with
    |some (d,o,ls)=>if o.all λl=> !ls.contains l then some d else none
    |none=>none)=_
   rw[e1];show(if[l].all (λl=> !(R.map Prod.fst).contains l)then _ else none)=_;rw[cJ,hnot];rfl
  rw[this,gS];rfl
theorem US(hφ:3000000000≤φ)(hN:N<1000000000)(hN0:0<N)(hO:OS bs X R N)(hE:EI N rows (R.map Prod.snd))(hr:r.length=N)(hh:RH h r)(hH:∀p,p∈R→RH (hgt h R.length) p.2)(hK:hgt h (R.length+1)≤KB)(hl:R.length<1000000){j9:D→D→D→D→LS→Rs}{a b' c':D}{e:Bool}:
 ∃bs' X' R',OS bs' X' R' N∧R'.map Prod.snd=uT (R.map Prod.snd) r∧(∀p,p∈R'→RH (hgt h R'.length) p.2)∧
 (eR (pP (fK φ)) [.tree (rs r) N e] (mem bs) λx17 s=>ek X s λx18 s=>lp (λ(_ _ _ _ _ _ _ _:D)(_:LS)=>none) (jP φ j9) φ X x17 a b' c' X x18 (.i .i64 (.ofNat 0)) s)=j9 X' a b' c' (mem bs'):=by
 have hrne:r≠[]:=λe=>by subst e;simp at hr;omega
 obtain⟨f1,f2⟩:=PW hO (aD bs.length);have hg0:(bs++[(⟨rs r,.rw⟩:Blk)])[bs.length]?=some ⟨rs r,.rw⟩:=by simp
 have hpv:∀p,p∈R→pvt p.2<N:=λp hp=>by
  have hm:p.2∈R.map Prod.snd:=ax hp;have:=Av (hE.red.lead hm);rw[hE.len _ hm]at this;exact this
 have hHK:h+(R.length+1)*(hgt h R.length+2)≤KB:=hK;obtain⟨b1,g1,g2,g3,g4⟩:=XE (φ:=φ) (r:=r) (h:=h) (H:=hgt h R.length) (j9:=j9) (a:=a) (b':=b') (c':=c') hφ hN (FJ (x:=⟨rs r,.rw⟩) hO) f1 f2 hpv hH hr hh hHK hl R.length 0 φ (bs++[⟨rs r,.rw⟩]) (by omega) (by omega) (FJ hO) (by rw[d9];exact hg0);have hEl:∀l,l∈R.map Prod.snd→l.length=N∧RH (hgt h R.length) l:=λl hl=>by
  obtain⟨p,hp,rfl⟩:=aW.1 hl;exact⟨(hO.rows p hp).2,hH p hp⟩
 have hgl:=Ba (λl hl=>(hEl l hl).1) hr;have hgh:=El hEl hr hh;rw[aI]at hgh;generalize hG:tD (R.map Prod.snd) r=G at*;have pre:(eR (pP (fK φ)) [.tree (rs r) N e] (mem bs) λx17 s=>ek X s λx18 s=>lp (λ(_ _ _ _ _ _ _ _:D)(_:LS)=>none) (jP φ j9) φ X x17 a b' c' X x18 (.i .i64 (.ofNat 0)) s)=lp (λ(_ _ _ _ _ _ _ _:D)(_:LS)=>none) (jP φ j9) (φ-R.length) X (.sl bs.length 0 N N 3 false) a b' c' X (.i .i64 (.ofNat R.length)) (.i .i64 (.ofNat R.length)) (mem b1):=by
  refine th (xe (K0 (φ:=φ) (ex:=e) hr hrne hN)) ?_;rw[lX,js];exact th (Iv hO) g4
 obtain⟨u,hu⟩:∃u,φ-R.length=u+1:=⟨φ-R.length-1,by omega⟩
 have hrv:RVal b1 (.sl bs.length 0 N N 3 false) G:=by rw[←hgl];exact IY g2
 have hpd:∀F:D→LS→Rs,eR (oi φ) [.sl bs.length 0 N N 3 false] (mem b1) F=F (pvD G) (mem b1):=λF=>I7 hrv (λe=>Ey (by omega) (by omega) e) Gl;by_cases hp:pvt G<G.length
 ·have hpd':pvD G=.i .i64 (.ofNat (pvt G)):=by unfold pvD;rw[aC hp]
  have hne:=Bd hp;have hKG:h+R.length*(hgt h R.length+2)≤KB:=by rw[aP,bE]at hHK;omega
  have aG:AQ G:=λi=>vd (MR hgh i) hKG;obtain⟨b2,k1,k2,k3⟩:=XF (φ:=φ) (X:=X) (N:=N) (r:=G) (q:=(ent G (pvt G))⁻¹) (kr:=bs.length) (j9:=j9) (at':=.i .i64 (.ofNat (pvt G))) (a:=a) (b':=b') (c':=c') hφ hN hgl aG (Il (aG _)) (kc:=b1.length) (by have:=fE g2;omega) N 0 φ (b1++[⟨rcs (ent G (pvt G))⁻¹,.rw⟩]) G (by omega) (by omega) (gY g2) (by simp) hgl (λt=>by rw[aE (by omega)]);have hOb2:OS b2 X R N:=K8 (FJ (x:=⟨rcs (ent G (pvt G))⁻¹,.rw⟩) g1) k2 f1 f2;have hnl:(scl G (ent G (pvt G))⁻¹).length=N:=by rw[y9];exact hgl
  have hnh:=OU hgh hne;obtain⟨u2,hu2⟩:∃u,φ-N=u+1:=⟨φ-N-1,by omega⟩
  obtain⟨b3,m1,m2,m3⟩:=XG (φ:=φ) (X:=X) (R:=R) (N:=N) (r:=scl G (ent G (pvt G))⁻¹) (h:=h+R.length*(hgt h R.length+2)) (H:=hgt h R.length) (kr:=bs.length) (j9:=j9) (a:=a) (b':=b') (c':=c') (at':=pvt G) hφ hN (by omega) hnl hnh hH (by rw[aP,bE]at hHK;omega) f1 f2 hl R.length 0 φ b2 (by omega) (by omega) (by rw[d9,aj];exact hOb2) k1;obtain⟨b4,X4,n1,n2⟩:=M8 (K:=λx79 s=>j9 x79 a b' c' s) m1 f1 (λp hp=>by
   obtain⟨q,hq,rfl⟩:=aW.1 hp;exact f2 q hq) m2 hnl (by rw[aI];exact hl)
  have hsnd:(R.map (upR (scl G (ent G (pvt G))⁻¹) (pvt G))++[(bs.length,scl G (ent G (pvt G))⁻¹)]).map Prod.snd=uT (R.map Prod.snd) r:=by
   unfold uT;rw[hG,aC hp,ak,cE,cE];rfl
  refine⟨b4,X4,_,n1,hsnd,λp hp'=>?_,pre.trans ?_⟩
  ·have hlen:(R.map (upR (scl G (ent G (pvt G))⁻¹) (pvt G))++[(bs.length,scl G (ent G (pvt G))⁻¹)]).length=R.length+1:=by simp
   rw[hlen];have hbig:hgt h R.length+(h+R.length*(hgt h R.length+2))+2≤hgt h (R.length+1):=by
    show _≤h+(R.length+1)*(hgt h R.length+2);rw[aP,bE];omega
   rcases am.1 hp' with hp'|hp'
   ·obtain⟨q,hq,rfl⟩:=aW.1 hp';exact rX (Ib (hH q hq) hnh (by rw[hnl];exact(hO.rows q hq).2) (pvt G)) hbig
   ·have:p=(bs.length,scl G (ent G (pvt G))⁻¹):=by simpa using hp'
    subst this;exact rX hnh (by omega)
  ·rw[hu,eO];unfold jP;refine th (fy (by omega)) (th eM (th (hpd _) ?_));rw[hpd'];refine th (fy (by omega)) (th eM (th (HP g2 rfl rfl (by omega) (by omega)) (th (jo (Gj hne) rfl) (th (xr rfl) (th qk (k3.trans ?_))))));rw[hu2,eO];unfold pC;refine th (fy (by omega)) (th eM (th (Iv hOb2) (m3.trans ?_)));rw[hu,eO];unfold nC;exact th (fy (by omega)) (th eM n2)
 ·have hpd':pvD G=.i .i64 (.negSucc 0):=by unfold pvD;rw[aE hp]
  refine⟨b1,X,R,g1,?_,hH,pre.trans ?_⟩
  ·unfold uT;rw[hG,aE hp]
  ·rw[hu,eO];unfold jP;refine th (fy (by omega)) (th eM (th (hpd _) ?_));rw[hpd'];exact th rg eP
end
section
variable {bs bs':List Blk} {i j k n m c N h J:Nat} {ex ey:Bool} {s:LS} {K:D→LS→Rs} {kk:IntKind} {φ:Nat} {X:D} {R R':List IR} {P:List (Row×Bool)} {rows:List Row} {l r:Row}
def GD(N H:Nat)(rows:List Row)(o:Option D):Prop:=∃(R:List IR)(Q:List (Row×Bool)),R.map Prod.snd=ech rows∧Q.map Prod.fst=(xS R).map Prod.snd∧(∀q,q∈Q→q.1.length=N∧RH H q.1)∧(o=some (.own (Q.map mtD) Q.length 1)∨Q=[]∧o=some (.tree [] 0 true))
theorem GD.of{H:Nat}{o o':Option D}(h:o=o')(h':GD N H rows o'):GD N H rows o:=by rw[h];exact h'
theorem XD(hφ:3000000000≤φ)(hN:N<1000000000)(hN0:0<N)(hP:∀p,p∈P→p.1.length=N∧RH h p.1)(hn:P.length=n)(hns:n<1000000)(hJ:∀i,i≤n→(((P.map Prod.fst).take i).foldl uT []).length≤J)(hJ12:J≤12)(hK:hgt h (J+1)≤KB){e:Bool}:
 ∀(t i fu:Nat)(bs:List Blk)(X:D)(R:List IR),i+t=n→t<fu→OS bs X R N→R.map Prod.snd=((P.map Prod.fst).take i).foldl uT []→EI N ((P.map Prod.fst).take i) (R.map Prod.snd)→(∀p,p∈R→RH (hgt h R.length) p.2)→
 GD N (hgt h J) (P.map Prod.fst) (lp (λ(_ _ _ _:D)(_:LS)=>none) (nB φ) fu X (.tree (P.map mtD) n e) (.i .i64 (.ofNat n)) (.i .i64 (.ofNat i)) (mem bs)):=by
 intro t
 induction t with
 |zero=>
  intro i fu bs X R hi hf hO hR hE hH;obtain⟨fu,rfl⟩:∃q,fu=q+1:=⟨fu-1,by omega⟩
  have:i=n:=by omega
  subst this;have hlen:R.length≤J:=by
   have:=hJ i (aD _);rw[←hR,aI]at this;exact this
  have hall:(P.map Prod.fst).take i=P.map Prod.fst:=aM (by rw[aI,hn];exact aD _);rw[hall]at hR;have hpv:∀p,p∈R→pvt p.2<N:=λp hp=>by
   have hm:p.2∈R.map Prod.snd:=ax hp;have:=Av (hE.red.lead hm);rw[hE.len _ hm]at this;exact this
  obtain⟨b1,g1,g2⟩:=Xy (φ:=φ) (kk':=λ_ s=>eX true s X some) (by omega) hN hO hpv (by omega);have hfin:lp (λ(_ _ _ _:D)(_:LS)=>none) (nB φ) (fu+1) X (.tree (P.map mtD) i e) (.i .i64 (.ofNat i)) (.i .i64 (.ofNat i)) (mem bs)=eX true (mem b1) X some:=by
   rw[eO];unfold nB;exact th (fy (by omega)) (th eM g2)
  refine GD.of hfin ?_;obtain⟨Q,q1,q2⟩:=Vp g1;have hql:=congrArg List.length q1;rw[aI,aI]at hql;refine⟨R,Q,hR,q1,λq hq=>?_,?_⟩
  ·have hm:q.1∈(xS R).map Prod.snd:=by rw[←q1];exact ax hq
   obtain⟨p,hp,hpq⟩:=aW.1 hm;have hpR:=(z9 R).mem_iff.1 hp;rw[←hpq];exact⟨(hO.rows p hpR).2,rX (hH p hpR) (Q0 h hlen)⟩
  rcases q2 with q2|⟨q2,q3⟩
  ·left;rw[q2,hql]
  ·right;rw[q2]at hql;exact⟨a8 hql,q3⟩
 |succ t ih=>
  intro i fu bs X R hi hf hO hR hE hH;obtain⟨fu,rfl⟩:∃q,fu=q+1:=⟨fu-1,by omega⟩
  have hiP:i<P.length:=by omega
  have hmem:P[i]∈P:=bK hiP;obtain⟨hl,hh⟩:=hP _ hmem;have hlen:R.length≤J:=by
   have:=hJ i (by omega);rw[←hR,aI]at this;exact this
  obtain⟨b1,X1,R1,g1,g2,g3,g4⟩:=US (φ:=φ) (r:=P[i].1) (h:=h) (e:=P[i].2) (rows:=(P.map Prod.fst).take i) (j9:=λ(x10 x11 x12 x13:D)(s:LS)=>ee x13 (.i .i64 (.ofNat 1)) λx14=>lp (λ(_ _ _ _:D)(_:LS)=>none) (nB φ) fu x10 x11 x12 x14 s) (a:=.tree (P.map mtD) n e) (b':=.i .i64 (.ofNat n)) (c':=.i .i64 (.ofNat i)) hφ hN hN0 hO hE hl hh hH (bT (Q0 h (by omega)) hK) (by omega);have htake:(P.map Prod.fst).take (i+1)=(P.map Prod.fst).take i++[P[i].1]:=by
   rw[cH,au,aB hiP];rfl
  have hih:=ih (i+1) fu b1 X1 R1 (by omega) (by omega) g1 (by rw[g2,htake,dR,←hR];rfl) (by rw[g2,htake];exact LO hE hl) g3;refine GD.of ?_ hih;rw[eO]
  conv=>lhs;unfold nB
  refine th (fk (by omega)) (th eP (th ph (th (t8 (d:=mtD P[i]) (by rw[au,aB hiP];rfl) (by rw[aI,hn])) ?_)));unfold mtD;rw[hl];exact g4.trans (fM (by omega))
theorem PF(hφ:3000000000≤φ)(hN:N<1000000000)(hN0:0<N)(hP:∀p,p∈P→p.1.length=N∧RH h p.1)(hn:P.length=n)(hns:n<1000000)(hJ:∀i,i≤n→(((P.map Prod.fst).take i).foldl uT []).length≤J)(hJ12:J≤12)(hK:hgt h (J+1)≤KB){e:Bool}:GD N (hgt h J) (P.map Prod.fst) (lV φ [.tree (P.map mtD) n e]):=by
 have h0:EI N ((P.map Prod.fst).take 0) (([]:List IR).map Prod.snd):=by
  rw[d9];exact⟨(λl hl=>by cases hl),(λl hl=>by cases hl),(λl hl=>by cases hl),(by intro e he;cases he),dp⟩
 have:=XD (φ:=φ) (e:=e) hφ hN hN0 hP hn hns hJ hJ12 hK n 0 φ [] (.tree [] 0 true) [] (by omega) (by omega) WP rfl h0 (λp hp=>by cases hp);refine GD.of ?_ this;unfold lV;dsimp only[eV,eZ];exact fH
end
section
variable {bs bs':List Blk} {i j k n m c N h H J w:Nat} {ex ey:Bool} {s:LS} {K:D→LS→Rs} {kk:IntKind} {φ:Nat} {X W:D} {R R':List IR} {P:List (Row×Bool)} {rows:List Row} {l r t:Row}
theorem FQ:∀P:List (Row×Bool),(P.map mtD).all one=true
 |[]=>rfl
 |p::P=>by rw[bB,cJ,FQ P];rfl
def wD(N:Nat)(p:IR):D:=.sl p.1 0 N N 3 true
structure WO (bs:List Blk) (W:D) (R:List IR) (N:Nat):Prop where
 as:AS 1 bs W (R.map (wD N)) R.length
 rows:∀p,p∈R→bs[p.1]?=some ⟨rs p.2,.rw⟩∧p.2.length=N
 nb:∀p,p∈R→kI W p.1
end
section
variable {bs bs':List Blk} {i j k n m c N h H J w:Nat} {ex ey:Bool} {s:LS} {K:D→LS→Rs} {kk:IntKind} {φ:Nat} {X W:D} {R R':List IR} {P Q:List (Row×Bool)} {rows:List Row} {l r t:Row} {b:Blk}
theorem Uz{d:D}(hb:bs[w]?=some b)(hl:b.st.live=true)(hd:b.cs[i]?=some d)(hn:i<n):(eK 1 (mem bs) (.sl w 0 n c 1 ex) (.i kk (.ofNat i)) λa s=>eJ s a K)=K d (mem bs):=by
 refine th (AB hb hl hn) ?_;rw[aV,ai];exact F1 hb hl hd
end
section
variable {bs bs':List Blk} {i j k n m c N h H J w kr ke:Nat} {ex ey:Bool} {s:LS} {K:D→LS→Rs} {kk:IntKind} {φ:Nat} {X W:D} {R R':List IR} {P Q:List (Row×Bool)} {rows:List Row} {l r t:Row} {b:Blk}
end
section
variable {bs bs':List Blk} {i j k n m c w d D' N' M':Nat} {ex ey:Bool} {s:LS} {K:D→LS→Rs} {kk:IntKind} {φ:Nat} {X W:D} {P Q:List (Row×Bool)} {rows:List Row} {l r t g a b:Row}
theorem EL.lt(h:EL g a d D' N' M')(hj:j≤6)(e:Nat)(he:e≤20):Lg 100000 ((pwL g a j).length*(pwc d N' M'^j*N')*(1+M')^e):=by
 have hd5:=h.hd5;have hl:=K1 (g:=g) (a:=a) (by rw[h.hm];have:=h.hd;omega) j;rw[h.hm]at hl;have b2:(600+1)*j≤(600+1)*6:=aZ _ hj;have l2:=yA h.lc j;have l3:Lg 2 (pwL g a j).length:=p7 (by show _<8;omega);have h1M:Lg 41 (1+M'):=wa (j:=40) (m:=1) (n:=M') (p7 (by decide)) h.lM;have l4:=iB (iB l3 (iB l2 h.lN)) (yA h1M e);have b3:(41+1)*e≤(41+1)*20:=aZ _ he;exact ew l4 (by omega)
theorem Z5(h:Lg 40 n):Lg KB n:=ew h (by decide)
theorem YC(hφ:3000000000≤φ)(e:Bool):o7 φ [.tree [.i .i64 (.ofNat 1)] 1 e]=some (.tree (rs [1]) 1 true):=by
 obtain⟨ψ,rfl⟩:∃ψ,φ=ψ+5:=⟨φ-5,by omega⟩
 cases e<;>kernel_rfl
theorem Px{n:Nat}:jY 1 [.i .i64 (.ofNat 0)] [(0,1,.i .i64 (.ofNat n))] (mem bs) K=K (.sl bs.length 0 1 1 1 true) (mem (bs++[⟨[.i .i64 (.ofNat n)],.rw⟩])):=NX rfl rfl rfl rfl
theorem ZV(h:EL g a d D' N' M')(hφ:3000000000≤φ){eg:Bool}:∃e bs',∀K:D→LS→Rs,(jY 1 [.i .i64 (.ofNat 0)] [(0,1,.i .i64 (.ofNat 1))] (mem []) λx4 s=>eR (o7 φ) [x4] s λx5 s=>eR (pB φ) [.tree (rs g) (d+1) eg,x5] s K)=K (.tree (rs (pwL g a 0)) (pwL g a 0).length e) (mem bs'):=by
 have hd:=h.hd;have hpt:Pt ([1]:Row):=FB (g:=g) (a:=a) 0;have hpre:iL g [1]=[1]:=by
  unfold iL;rw[h.hm,show([1]:Row).length+1-(d+1)=0 by show 1+1-(d+1)=0;omega];show e8 (lst (d+1-1) (ent [1]))=[1]
  conv=>rhs;rw[←show e8 [1]=[1]from hpt]
  refine oK λi=>?_;rw[kM];split
  ·rfl
  ·rw[gL (by show 1≤i;omega)]
 obtain⟨e,he⟩:=YB (φ:=φ) (f:=[1]) (g:=g) (n:=1) (m:=d+1) (ex:=true) (ey:=eg) (by
  rintro _ rfl
  exact wV (n:=1) (f:=[1]) rfl h.hm (by omega) (by omega) hpt)
 rw[hpre]at he;refine⟨e,[⟨[.i .i64 (.ofNat 1)],.frz⟩],λK=>?_⟩;refine th Px ?_;have hres:eR (o7 φ) [.sl ([]:List Blk).length 0 1 1 1 true] (mem ([]++[⟨[.i .i64 (.ofNat 1)],.rw⟩])) (λx5 s=>eR (pB φ) [.tree (rs g) (d+1) eg,x5] s K)=eR (pB φ) [.tree (rs g) (d+1) eg,.tree (rs [1]) 1 true] (mem [⟨[.i .i64 (.ofNat 1)],.frz⟩]) K:=by
  show(jQ (mem [⟨[.i .i64 (.ofNat 1)],.rw⟩]) 0 λb=>cnd (lv b.st) (iz 0 b.cs λr=>iy (Nat.mul 1 1) r λr=>nI (kJ (mem [⟨[.i .i64 (.ofNat 1)],.rw⟩]) 59) r λcs ls=>mw (cnd true (Nat.beq 1 1) false) λex=>l7 (0::ls) [] λab=>ob (o7 φ [.tree cs 1 ex]) λr=>ju (mem [⟨[.i .i64 (.ofNat 1)],.rw⟩]) ab r λx5 s=>eR (pB φ) [.tree (rs g) (d+1) eg,x5] s K) none)=_;rw[gu (b:=⟨[.i .i64 (.ofNat 1)],.rw⟩) rfl];show(mw (cnd true (Nat.beq 1 1) false) λex=>l7 [0] [] λab=>ob (o7 φ [.tree [.i .i64 (.ofNat 1)] 1 ex]) λr=>ju (mem [⟨[.i .i64 (.ofNat 1)],.rw⟩]) ab r λx5 s=>eR (pB φ) [.tree (rs g) (d+1) eg,x5] s K)=_;rw[jC,gT,YC hφ,gN];unfold ju;rw[mU];show vR [0] (mem [⟨[.i .i64 (.ofNat 1)],.rw⟩]) (λs=>eR (pB φ) [.tree (rs g) (d+1) eg,.tree (rs [1]) 1 true] s K)=_;rw[vt (b:=⟨[.i .i64 (.ofNat 1)],.rw⟩) rfl];rfl
 exact hres.trans (fP he)
end
section
variable {bs bs':List Blk} {i j k n m c w d D' N' M' J:Nat} {ex ey:Bool} {s:LS} {K:D→LS→Rs} {kk:IntKind} {φ:Nat} {X W T:D} {P Q:List (Row×Bool)} {rows:List Row} {l r t g a b:Row} {q:Rat}
theorem Pf{s:LS}{j:Nat}{F:List D→List Nat→Rs}:∀P:List (Row×Bool),nI (kJ s (j+1)) (P.map mtD) F=F (P.map mtD) []:=by
 intro P
 induction P generalizing F with
 |nil=>rfl
 |cons p P ih=>
  rw[bB];show(nI (kJ s (j+1)) (P.map mtD) λys b=>l7 [] b λab=>F (mtD p::ys) ab)=_;rw[ih];rfl
theorem OY{st:Stt}(hb:bs[w]?=some ⟨P.map mtD,st⟩)(hl:st.live=true)(hn:P.length=n){F:D→List Nat→Rs}:kJ (mem bs) 60 (.sl w 0 n c 1 ex) F=F (.tree (P.map mtD) n (cnd ex (Nat.beq c n) false)) [w]:=by
 show(jQ (mem bs) w λb=>cnd (lv b.st) (iz 0 b.cs λr=>iy (Nat.mul n 1) r λr=>nI (kJ (mem bs) 59) r λcs ls=>mw (cnd ex (Nat.beq c n) false) λex=>F (.tree cs n ex) (w::ls)) none)=_;rw[gu hb,sI,hl,eL,gB,aj,i9,show Nat.mul n 1=n from ai n,aC (by rw[aI];omega),aM (by rw[aI];omega),Pf,jC]
theorem ZL(h:AS 1 bs X (P.map mtD) P.length):∃e,eX false (mem bs) X some=some (.tree (P.map mtD) P.length e):=by
 generalize hcs:P.map mtD=cs at h;generalize hnn:P.length=nn at h;cases h with
 |nil=>exact⟨true,yf⟩
 | @blk l _ _ hg hc=>
  subst hcs;refine⟨false&&nn==nn,?_⟩;unfold eX;rw[mU];show uw (nu false (mem bs).get fv (.sl l 0 nn nn 1 false)) some=_;have h1:res (mem bs).get 60 (.sl l 0 nn nn 1 false)=some (.tree (P.map mtD) nn (false&&nn==nn),[l]):=by
   refine uN (n:=59) (r:=P.map mtD) (ls:=[]) (by rw[mQ];exact hg) rfl ?_ ?_
   ·unfold cut;rw[aj,aM (by rw[aI];omega),aC (by rw[aI];omega)]
   ·have:∀P:List (Row×Bool),iP (res (mem bs).get 59) (P.map mtD)=some (P.map mtD,[]):=by
     intro P
     induction P with
     |nil=>rfl
     |cons p P ih=>
      rw[bB];unfold iP;rw[ih,show res (mem bs).get 59 (mtD p)=some (mtD p,[])from rfl];rfl
    exact this P
  have:nu false (mem bs).get fv (.sl l 0 nn nn 1 false)=some (.tree (P.map mtD) nn (false&&nn==nn)):=by
   show(match yi (res (mem bs).get 60 (.sl l 0 nn nn 1 false))with
    |some (d,o,ls)=>if o.all λl=> !ls.contains l then some d else none
    |none=>none)=_
   rw[h1];rfl
  rw[this,gS];rfl
theorem apT(h:AS 1 bs X (P.map mtD) P.length)(hl:P.length<1000000)(p:Row×Bool):∃bs' X',AS 1 bs' X' ((P++[p]).map mtD) (P++[p]).length∧(jY 1 [.tree [] 0 true] [(0,1,mtD p)] (mem bs) λy s=>mF 1 24 s X y K)=K X' (mem bs'):=by
 obtain⟨b1,X1,g1,_,g3⟩:=ap1 (bytes:=24) (zero:=[.tree [] 0 true]) (x:=mtD p) (new:=[mtD p]) (K:=K) h rfl rfl rfl rfl (by omega) (by omega);exact⟨b1,X1,by rw[ak,bF];exact g1,g3⟩
theorem Sx(h:EL g a d D' N' M')(j:Nat):PI g a j=lst d (ent (pwL g a j)):=by unfold PI;rw[h.hm];rfl
theorem Xz(h:EL g a d D' N' M')(hφ:3000000000≤φ){e1:Bool}:∃e,ru φ [.tree (rs (pwL g a j)) (pwL g a j).length e1,.i .i64 (.ofNat d)]=some (mtD (PI g a j,e)):=by
 have:=h.hd5;obtain⟨e,he⟩:=YA (φ:=φ) (ex:=e1) (l:=pwL g a j) (n:=d) rfl (by omega) (by omega);refine⟨e,?_⟩;rw[he];unfold mtD;rw[Sx h,iU]
inductive KL (bs:List Blk):D→List D→Nat→Prop
 |nil:KL bs (.tree [] 0 true) [] 0
 |blk {l n:Nat} {cs:List D} (h:bs[l]?=some ⟨cs,.apd⟩) (hc:cs.length=n):KL bs (.sl l 0 n n 1 false) cs n
theorem Rg{x:D}(h1:one x=true)(hy:bs[k]?=some ⟨[x],.rw⟩):mF 1 24 (mem bs) (.tree [] 0 true) (.sl k 0 1 1 1 true) K=K (.sl bs.length 0 1 1 1 false) (mem (bs++[⟨[x],.rw⟩])):=by
 have hc:∀F:List D→Nat→Rs,oQ 1 (mem bs) (.sl k 0 1 1 1 true) F=F [x] 1:=λF=>by
  rw[BN hy rfl (by simp)];rfl
 show oQ 1 (mem bs) (.sl k 0 1 1 1 true) _=_;rw[hc];show(cnd (Nat.beq 1 0) (K (.tree [] 0 true) (mem bs)) (cnd true (cnd (Nat.beq 0 (Nat.mul 0 1)) (frc (Nat.add 0 1) λtot=>cnd (Nat.ble (Nat.mul tot 24) 1099511627776) (cnd (Nat.ble tot 1099511627776) (l7 [] [x] λcs=>ku (mem bs) ⟨cs,.rw⟩ λs'=>K (.sl (mem bs).nx 0 tot tot 1 false) s') none) none) none) none))=_;rw[gG (by omega),e9,eL,show Nat.mul 0 1=0 from rfl,ej,eL,fA,show Nat.add 0 1=1 from rfl,aF (show Nat.mul 1 24≤_ by decide),aF (show 1≤_ by omega),eL,eL,gT,ln,js];rfl
end
section
variable {bs bs':List Blk} {i j k n m c w d D' N' M' J ko:Nat} {ex ey:Bool} {s:LS} {K:D→LS→Rs} {kk:IntKind} {φ:Nat} {X W T:D} {P Q:List (Row×Bool)} {rows:List Row} {l r t g a b:Row} {q:Rat}
end
end
end Go.Proofs.YthljpappkomocaaGreat
