/- What the residuals compute, at all arguments. -/
import Derived.Test.YthljpappkomocaaGreatCC0
import Derived.Test.YthljpappkomocaaGreatD0
set_option linter.all false
namespace Go.Proofs.YthljpappkomocaaGreat
open Ev
noncomputable section
def pre(m i:Nat):Nat:=ej ((ep m).take i) 0
theorem C4{m i:Nat}{c:UInt8}(h:(ep m)[i]?=some c):pre m (i+1)=pre m i*256+c.toNat:=by
 unfold pre;rw[bq,h];exact qM _ _ _
theorem Ti(m:Nat):pre m (ep m).length=m:=by unfold pre;rw[ch,nK]
theorem LM{m:Nat}(hm:0<m):∀i,0<i→i≤(ep m).length→0<pre m i
 |1,_,h=>by
  obtain⟨c,r,e,hc⟩:=t7 hm;rw[C4 (show(ep m)[0]?=some c by rw[e];rfl)];omega
 |i+2,_,h=>by
  have:=LM hm (i+1) (by omega) (by omega);rw[C4 (aB (show i+1<(ep m).length by omega))];omega
theorem Hm{φ m e s:Nat}{X:D}{bs:List Blk}{q3:D→D→D→LS→Rs}(he:e≤(ep m).length)(h4:e≤s+4)(hN:(ep m).length≤100000000000):∀(k i f dig:Nat),i+k=e→s≤i→k<f→dig<256^(i-s)→pre m i=pre m s*256^(i-s)+dig→
 ∃dg,dg<256^(e-s)∧pre m e=pre m s*256^(e-s)+dg∧lp (λ(_ _ _ _ _:D)(_:LS)=>none) (s9 φ q3) f (.n m) X (.i .i64 (.ofNat e)) (.i .u64 (.ofNat dig)) (.i .i64 (.ofNat i)) (mem bs)=
  ie 1 [(.i .u64 (.ofNat 0))] [(0,1,n64 dg)] (mem bs) λx22 s=>kJ 1 8 s X x22 λx23 s=>fA (.i .i64 (.ofNat e)) (.i .i64 (.ofNat 4)) λx24=>q3 (.n m) x23 x24 s
 |0,i,f+1,dig,h1,h2,h3,h5,h6=>by
  have:i=e:=by omega
  subst this;refine⟨dig,h5,h6,?_⟩;rw[eM];refine th kE ?_;rw[fE (by omega)];rfl
 |k+1,i,f+1,dig,h1,h2,h3,h5,h6=>by
  have hi:i<(ep m).length:=by omega
  have hc:=aB hi;generalize (ep m)[i]=c at hc;have hc8:=c.toNat_lt;have hd:dig<256^3:=bk h5 (bg (by decide) (by omega));have hd':dig<16777216:=hd;have e1:i+1-s=(i-s)+1:=by omega
  obtain⟨dg,g1,g2,g3⟩:=Hm (φ:=φ) (X:=X) (bs:=bs) (q3:=q3) he h4 hN k (i+1) f (dig*256+c.toNat) (by omega) (by omega) (by omega) (by rw[e1,ax];omega) (by rw[C4 hc,h6,e1,ax,←aa,aS];omega);refine⟨dg,g1,g2,?_⟩;rw[eM];refine th kE ?_;rw[ew (by omega)];refine th eO (th (ye (by show dig*256≤18446744073709551615;omega)) (th (DE hc) (th (xM (by show c.toNat≤18446744073709551615;omega)) (th (oU (by show dig*256+c.toNat≤18446744073709551615;omega)) (th (oU (by show i+1≤9223372036854775807;omega)) ?_)))));exact g3
theorem G7(a b:List Nat):c64 a++c64 b=c64 (a++b):=by unfold c64;rw[aW]
theorem Mr{φ l n:Nat}{ws:List Nat}{bs:List Blk}{K:D→LS→Rs}{cm:Nat}{ex:Bool}(h:bs[l]?=some ⟨c64 ws,.rw⟩)(hn:ws.length=n)(ht:Tm ws)(hφ:0<φ)(hs:n≤100000000000):
 kT φ [.sl l 0 n cm 1 ex] (mem bs) K=K (.sl l 0 n cm 1 ex) (mem bs):=by
 obtain⟨φ,rfl⟩:∃q,φ=q+1:=⟨φ-1,by omega⟩
 unfold kT;dsimp only[eV,eY];rw[eM];refine th Lk (th oS ?_);cases n with
 |zero=>rw[fE (by omega)];rfl
 |succ n=>
  rw[ew (by omega)];simp only[uA];obtain⟨a,w,rfl⟩:∃a w,ws=a++[w]:=⟨ws.dropLast,ws.getLast (by intro e;rw[e]at hn;cases hn),(dT _).symm⟩
  have hla:a.length=n:=by simpa using hn
  have hw:w≠0:=ht w (by simp);refine th Lk (th (oi (by omega) (by show n+1≤9223372036854775807;omega)) ?_);rw[a8];refine th (Ah h rfl (by omega)) ?_;rw[aV,aj];refine th (GC h rfl (d:=n64 w) (by show(c64 (a++[w]))[n]?=_;rw[←hla];unfold c64;simp)) (th rA ?_);rw[gR hw];rfl
theorem N8{φ m:Nat}{X x:D}{bs:List Blk}{q3:D→D→D→LS→Rs}{ws:List Nat}(hX:AS 1 bs X (c64 ws) ws.length)(hx:∀k,kv x (.i .i64 (.ofNat 0)) k=k (.b false))(hs:Sm B32 ws)(ht:Tm ws)(hv:vl B32 ws=m)(hm:0<m)(hφ:0<φ)(hl:ws.length≤100000000000):
 ir φ q3 (.n m) X x (mem bs)=some (.own (c64 (lm B32 m)) (lm B32 m).length 1):=by
 have hlm:lm B32 m=ws:=by rw[←hv];exact ZB (by decide) hs ht
 rw[hlm];unfold ir;refine th (hx _) (th eP ?_);generalize hc:c64 ws=cs at hX;generalize hn:ws.length=n at hX;cases hX with
 |nil=>
  have:ws=[]:=ao hn;subst this;simp[vl]at hv;omega
 |blk h hc'=>
  subst hc;refine th (Mr h hn ht hφ (by omega)) ?_;rw[xl h (vu ws) (by rw[fT];omega),aM (by rw[fT];omega)]
theorem N7{φ m:Nat}(hm:0<m)(hN:(ep m).length≤100000000000)(hφ:(ep m).length<φ):∀(e f:Nat)(X:D)(bs:List Blk)(ws:List Nat),0<e→e≤(ep m).length→e+1<f→AS 1 bs X (c64 ws) ws.length→Sm B32 ws→vl B32 ws+B32^ws.length*pre m e=m→ws.length+e≤(ep m).length→
 lp (λ(_ _ _:D)(_:LS)=>none) (ir φ) f (.n m) X (.i .i64 (.ofNat e)) (mem bs)=some (.own (c64 (lm B32 m)) (lm B32 m).length 1):=by
 intro e
 induction e using Nat.strongRecOn with
 |ind e ih=>
  intro f X bs ws h0 he hf hX hs hv hle;obtain⟨f,rfl⟩:∃q,f=q+1:=⟨f-1,by omega⟩
  rw[eM];unfold ir;refine th oS ?_;rw[ew h0];refine th eO (th (UH (by omega) (by omega)) ?_);obtain⟨dg,g1,g2,g3⟩:=Hm (φ:=φ) (X:=X) (bs:=bs) (q3:=lp (λ(_ _ _:D)(_:LS)=>none) (ir φ) f) (s:=e-4) he (by omega) hN (e-(e-4)) (e-4) φ 0 (by omega) (by omega) (by omega) (bN (by decide)) (by simp);refine th g3 ?_;have hd:dg<B32:=bk g1 (show 256^(e-(e-4))≤256^4 from bg (by decide) (by omega));obtain⟨bs',X',k1,k2,k3⟩:=ap1 (K:=λx23 s=>fA (.i .i64 (.ofNat e)) (.i .i64 (.ofNat 4)) λx24=>lp (λ(_ _ _:D)(_:LS)=>none) (ir φ) f (.n m) x23 x24 s) (zero:=[(.i .u64 (.ofNat 0))]) (x:=n64 dg) (new:=c64 [dg]) (bytes:=8) hX rfl rfl rfl rfl (by omega) (by omega);refine th k3 ?_;rw[G7]at k1;have k1':AS 1 bs' X' (c64 (ws++[dg])) (ws++[dg]).length:=by rw[ay];exact k1
  have hs':Sm B32 (ws++[dg]):=Iz hs (F0 hd);have hv':vl B32 (ws++[dg])=vl B32 ws+B32^ws.length*dg:=by rw[ri];rfl
  by_cases h4:e≤4
  ·have hp0:pre m (e-4)=0:=by rw[show e-4=0 by omega];rfl
   rw[hp0,bT,aV]at g2;have hpos:=LM hm e h0 he;obtain⟨x,e1,e2⟩:∃x,(∀k,fA (.i .i64 (.ofNat e)) (.i .i64 (.ofNat 4)) k=k x)∧∀k,kv x (.i .i64 (.ofNat 0)) k=k (.b false):=by
    by_cases e4:4≤e
    ·exact⟨_,λk=>oi e4 (by show e≤9223372036854775807;omega),λk=>by rw[oS,fE (by omega)]⟩
    ·exact⟨_,λk=>nk e4 (by omega),λk=>Qv⟩
   refine th (e1 _) ?_;obtain⟨f,rfl⟩:∃q,f=q+1:=⟨f-1,by omega⟩
   rw[eM];refine N8 k1' e2 hs' (λw hw=>?_) (by rw[hv',←g2];exact hv) hm (by omega) (by simp;omega);have:dg=w:=by simpa using hw
   omega
  ·refine th (oi (by omega) (by show e≤9223372036854775807;omega)) ?_;refine ih (e-4) (by omega) f X' bs' (ws++[dg]) (by omega) (by omega) (by omega) k1' hs' ?_ (by simp;omega);rw[hv',ay];show vl B32 ws+B32^ws.length*dg+B32^(ws.length+1)*pre m (e-4)=m;rw[show e-(e-4)=4 by omega,show(256:Nat)^4=B32 from rfl]at g2;rw[g2,bA,←aa]at hv;rw[ax,aa,aK B32 (pre m (e-4)),←aa];omega
theorem N6{φ m:Nat}(hN:(ep m).length≤100000000000)(hφ:(ep m).length+1<φ):o8 φ [.n m]=Aa m:=by
 unfold o8 Aa;dsimp only[eV,eY];refine th xu ?_;by_cases hm:m=0
 ·subst hm;obtain⟨φ,rfl⟩:∃q,φ=q+2:=⟨φ-2,by omega⟩
  rfl
 ·rw[gR hm];exact N7 (by omega) hN (by omega) _ φ _ [] [] (tv (by omega)).2 (aE _) hφ AS.nil (λx hx=>by simp at hx) (by rw[Ti];simp[vl]) (by simp)
theorem CE{x:Nat}{k:Rs}{r:D}(h:sz1 x k=some r):Nat.log2 x≤1000000000∧k=some r:=by
 unfold sz1 at h;by_cases hl:Nat.log2 x≤1000000000
 ·rw[aH hl,eL]at h;exact⟨hl,h⟩
 ·rw[mY hl]at h;cases h
theorem SK{m:Nat}(h:Nat.log2 m≤1000000000):(ep m).length≤200000000:=by
 by_cases hm:m=0
 ·subst hm;decide
 ·rw[wN (by omega)];omega
theorem Ji{as:List D}{r:D}(h:qN as=some r):∃φ,o8 φ as=some r:=by
 obtain⟨a,r1,rfl,g1⟩:=jh h;obtain⟨rfl,g2⟩:=oX g1;obtain⟨m,rfl,g3⟩:=iE g2;obtain⟨hl,g4⟩:=CE g3;have:=SK hl;exact⟨(ep m).length+2,by rw[N6 (by omega) (by omega)];exact g4⟩
structure Bt (bs:List Blk) (X:D) (V n:Nat):Prop where
 h:∃bl:List Nat,AS 1 bs X (c8 bl) n∧ej (bl.map UInt8.ofNat) 0=V∧(∀x r,bl=x::r→x≠0)∧(∀x,x∈bl→x<256)
theorem YA(a b:List Nat):c8 a++c8 b=c8 (a++b):=by unfold c8;rw[aW]
theorem K4{z n:Nat}{bs:List Blk}{X:D}{cs:List D}(hA:AS z bs X cs n){K:D→LS→Rs}{s:LS}:ek X s K=K (.i .i64 (.ofNat n)) s:=by
 cases hA with
 |nil=>rfl
 |blk _ _=>rfl
theorem S3{z n:Nat}{bs:List Blk}{X:D}{cs:List D}(hA:AS z bs X cs n):cs.length=n*z:=by
 cases hA with
 |nil=>simp
 |blk _ h=>exact h
theorem LO{φ i t w V n N:Nat}{X:D}{bs:List Blk}{ws:List Nat}{ex:Bool}{q4:D→D→D→LS→Rs}{q9:D→D→D→D→LS→Rs}(hB:Bt bs X V n)(hi:i<N)(hl:ws.length=N)(hw:ws[i]?=some w)(ht:t≤3)(hn:n+1≤1000000000000):
 ∃bs' X' n',Bt bs' X' (V*256+w/2^(8*t)%256) n'∧n'≤n+1∧iP φ q4 q9 (.tree (c64 ws) N ex) X (.i .i64 (.ofNat i)) (.i .i64 (.ofNat (8*t))) (mem bs)=
  fA (.i .i64 (.ofNat (8*t))) (.i .i64 (.ofNat 8)) λy=>q9 (.tree (c64 ws) N ex) X' (.i .i64 (.ofNat i)) y (mem bs'):=by
 obtain⟨bl,hA,hv,hh,hs⟩:=hB.h;have hbl:bl.length=n:=by have:=S3 hA;rw[G6]at this;omega
 have hg:(c64 ws)[i*1]?=some (n64 w):=by rw[aj];exact ky hw
 have hc8:w/2^(8*t)%256<256:=bc _ (by decide);have key:∀{q:Rs}(c:Bool),(0<n∨0<w/2^(8*t)%256→c=true)→(¬(0<n∨0<w/2^(8*t)%256)→c=false)→eQ (.b c)
  (ie 1 [(.i .u8 (.ofNat 0))] [(0,1,n8 (w/2^(8*t)%256))] (mem bs) λx30 s=>kJ 1 1 s X x30 λx31 s=>fA (.i .i64 (.ofNat (8*t))) (.i .i64 (.ofNat 8)) λy=>q9 (.tree (c64 ws) N ex) x31 (.i .i64 (.ofNat i)) y s)
  (fA (.i .i64 (.ofNat (8*t))) (.i .i64 (.ofNat 8)) λy=>q9 (.tree (c64 ws) N ex) X (.i .i64 (.ofNat i)) y (mem bs))=q→
  iP φ q4 q9 (.tree (c64 ws) N ex) X (.i .i64 (.ofNat i)) (.i .i64 (.ofNat (8*t))) (mem bs)=q:=by
  intro q c c1 c2 hq;unfold iP;refine th DF ?_;rw[aH (a9 _)];refine th eO (th om ?_);refine th (v8 hi (by rw[fT];omega)) (th (wQ hg) (th (uc (by omega)) (th Cy (th (K4 hA) (th oS ?_)))));rw[←hq];by_cases h0:0<n
  ·rw[ew h0,c1 (Or.inl h0)];rfl
  ·rw[fE h0];by_cases h1:0<w/2^(8*t)%256
   ·rw[c1 (Or.inr h1)];refine th fg (th fg (th oS ?_));rw[ew h1];rfl
   ·rw[c2 (by omega)];refine th fg (th fg (th oS ?_));rw[fE h1];rfl
 by_cases hc:0<n∨0<w/2^(8*t)%256
 ·obtain⟨bs',X',k1,k2,k3⟩:=ap1 (K:=λx31 s=>fA (.i .i64 (.ofNat (8*t))) (.i .i64 (.ofNat 8)) λy=>q9 (.tree (c64 ws) N ex) x31 (.i .i64 (.ofNat i)) y s) (zero:=[(.i .u8 (.ofNat 0))]) (x:=n8 (w/2^(8*t)%256)) (new:=c8 [w/2^(8*t)%256]) (bytes:=1) hA rfl rfl rfl rfl (by omega) (by omega);refine⟨bs',X',n+1,⟨bl++[w/2^(8*t)%256],by rw[←YA];exact k1,?_,?_,?_⟩,by omega,?_⟩
  ·rw[aW,bI,List.map_nil,qM,hv];simp
  ·intro x r e;cases bl with
   |nil=>
    have:n=0:=by simpa using hbl.symm
    have h1:w/2^(8*t)%256=x:=by simpa using(z1v e).1
    omega
   |cons y bl=>
    have:=(z1v e).1;rw[←this];exact hh y bl rfl
  ·intro x hx;rcases au.1 hx with h|h
   ·exact hs x h
   ·have:x=w/2^(8*t)%256:=by simpa using h
    omega
  ·exact key true (λ_=>rfl) (λh=>absurd hc h) (th eO k3)
 ·refine⟨bs,X,n,?_,by omega,key false (λh=>absurd h hc) (λ_=>rfl) eP⟩;have h0:n=0:=by omega
  have:bl=[]:=ao (by omega);have hV:V=0:=by rw[←hv,this];rfl
  rw[show V*256+w/2^(8*t)%256=V by omega];exact hB
theorem Vk{φ i w N:Nat}{ws:List Nat}{ex:Bool}{q4:D→D→D→LS→Rs}(hi:i<N)(hl:ws.length=N)(hw:ws[i]?=some w)(hN:N≤100000000000):∀(t f:Nat)(X:D)(bs:List Blk)(V n:Nat),Bt bs X V n→t≤3→t+2≤f→n+t+1≤1000000000000→
 ∃bs' X' n',Bt bs' X' (V*256^(t+1)+w%256^(t+1)) n'∧n'≤n+t+1∧lp (λ(_ _ _ _:D)(_:LS)=>none) (iP φ q4) f (.tree (c64 ws) N ex) X (.i .i64 (.ofNat i)) (.i .i64 (.ofNat (8*t))) (mem bs)=
  fA (.i .i64 (.ofNat i)) (.i .i64 (.ofNat 1)) λy=>q4 (.tree (c64 ws) N ex) X' y (mem bs')
 |0,f+2,X,bs,V,n,hB,h1,h2,h3=>by
  obtain⟨bs',X',n',k1,k2,k3⟩:=LO (φ:=φ) (q4:=q4) (q9:=lp (λ(_ _ _ _:D)(_:LS)=>none) (iP φ q4) (f+1)) (ex:=ex) hB hi hl hw h1 (by omega);refine⟨bs',X',n',by simpa using k1,by omega,?_⟩;rw[eM];refine th k3 (th (nk (by omega) (by omega)) ?_);rw[eM];unfold iP;refine th ol (th eP ?_);rfl
 |t+1,f+1,X,bs,V,n,hB,h1,h2,h3=>by
  obtain⟨bs1,X1,n1,k1,k2,k3⟩:=LO (φ:=φ) (q4:=q4) (q9:=lp (λ(_ _ _ _:D)(_:LS)=>none) (iP φ q4) f) (ex:=ex) hB hi hl hw h1 (by omega);obtain⟨bs',X',n',g1,g2,g3⟩:=Vk hi hl hw hN t f X1 bs1 _ n1 k1 (by omega) (by omega) (by omega);refine⟨bs',X',n',?_,by omega,?_⟩
  ·have e1:(V*256+w/2^(8*(t+1))%256)*256^(t+1)+w%256^(t+1)=V*256^(t+1+1)+w%256^(t+1+1):=by
    rw[Nat.mod_pow_succ (x:=w) (b:=256) (k:=t+1),ax 256 (t+1),show(2:Nat)^(8*(t+1))=256^(t+1) by rw[dw],aS,aa,aK 256 (256^(t+1)),aK (w/256^(t+1)%256)];omega
   rw[←e1];exact g1
  ·rw[eM];refine th k3 (th (gW) ?_);rw[show 8*(t+1)-8=8*t by omega];exact g3
theorem QM{φ N V n:Nat}{x X:D}{bs:List Blk}{ws:List Nat}{ex:Bool}{q4:D→D→D→LS→Rs}(hB:Bt bs X V n)(hx:∀k,kI x (.i .i64 (.ofNat 0)) k=k (.b false)):
 kD φ q4 (.tree (c64 ws) N ex) X x (mem bs)=some (.n V):=by
 obtain⟨bl,hA,hv,hh,hs⟩:=hB.h;unfold kD;refine th (hx _) (th eP ?_);have hb:kS (.b2s (.c X)) (mem bs) (λx33 s=>eW false s x33 some)=some (.n V):=by
  have he:evA (mem bs).nx cv (mem bs).get (.b2s (.c X))=some (.n V,[]):=by
   generalize hc:c8 bl=cs at hA;cases hA with
   |nil=>
    have:bl=[]:=by cases bl with|nil=>rfl|cons=>cases hc
    subst this;have:V=0:=hv.symm;subst this;rfl
   |blk hg hcl=>
    subst hc;have hcut:cut 0 (n*1) (c8 bl)=some (c8 bl):=by
     unfold cut;rw[am,aM (by omega),aC hcl]
    simp only[evA,cv,cellsOf,kj,hg,Stt.live,cG,bh,bx,b9,hcut,Aq];cases bl with
    |nil=>have:V=0:=hv.symm
          subst this;rfl
    |cons c r=>
     have hb:(UInt8.ofNat c).toNat=c:=by have:=hs c (by simp);simp;omega
     show some (cond (Nat.beq (UInt8.ofNat c).toNat 0) _ _,_)=_;rw[hb,gR (hh c r rfl)];show some (D.n (ej ((c::r).map UInt8.ofNat) 0),_)=_;rw[hv]
  unfold kS sA;rw[he];show zo _ _=_;rw[sV];rfl
 exact hb
theorem QL{φ N:Nat}{ws:List Nat}{ex:Bool}(hl:ws.length=N)(hs:Sm B32 ws)(hN:N≤100000000000)(hφ:N+10<φ):∀(i f:Nat)(X:D)(bs:List Blk)(V n:Nat),Bt bs X V n→i<N→i+1<f→n+4*(i+1)≤4*N→
 lp (λ(_ _ _:D)(_:LS)=>none) (kD φ) f (.tree (c64 ws) N ex) X (.i .i64 (.ofNat i)) (mem bs)=some (.n (V*B32^(i+1)+vl B32 (ws.take (i+1))))
 |i,f+1,X,bs,V,n,hB,hi,hf,hn=>by
  have hw:=aB (show i<ws.length by omega);have hwB:=hs _ (ak (show i<ws.length by omega));have htk:ws.take (i+1)=ws.take i++[ws[i]'(by omega)]:=by rw[bq,hw];rfl
  generalize ws[i]'(by omega)=w at hw hwB htk;obtain⟨bs',X',n',k1,k2,k3⟩:=Vk (φ:=φ) (q4:=lp (λ(_ _ _:D)(_:LS)=>none) (kD φ) f) (ex:=ex) hi hl hw hN 3 φ X bs V n hB (by omega) (by omega) (by omega);have e256:(256:Nat)^(3+1)=B32:=rfl;rw[e256,bL hwB]at k1;rw[eM];unfold kD;refine th qR (th eO (th k3 ?_));have e1:V*B32^(i+1)+vl B32 (ws.take (i+1))=(V*B32+w)*B32^i+vl B32 (ws.take i):=by
   rw[htk,ri,aZ,bS (by omega)];show _+(_+B32^i*(w+B32*0))=_;generalize B32=B;rw[ax];grind
  rw[e1];cases i with
  |zero=>
   refine th (nk (by omega) (by omega)) ?_;obtain⟨f,rfl⟩:∃q,f=q+1:=⟨f-1,by omega⟩
   rw[eM];refine th (QM k1 (λk=>ol)) ?_;simp[vl]
  |succ i=>
   refine th (gW) ?_;rw[a8];exact QL hl hs hN hφ i f X' bs' _ n' k1 (by omega) (by omega) (by omega)
theorem J1{φ N:Nat}{ws:List Nat}{ex:Bool}(hl:ws.length=N)(hs:Sm B32 ws)(hN:N≤100000000000)(hφ:N+10<φ):pS φ [.tree (c64 ws) N ex]=some (.n (vl B32 ws)):=by
 unfold pS;dsimp only[eV,eY];have h0:Bt [] (.tree [] 0 true) 0 0:=⟨[],AS.nil,rfl,λ_ _ h=>by simp at h,λ_ h=>by simp at h⟩
 refine th fO ?_;cases N with
 |zero=>
  refine th (nk (by omega) (by omega)) ?_;obtain⟨φ,rfl⟩:∃q,φ=q+1:=⟨φ-1,by omega⟩
  rw[eM,←fw];have:ws=[]:=ao hl;subst this;exact QM h0 (λk=>ol)
 |succ N=>
  refine th gW ?_;rw[a8,←fw];refine th (QL hl hs hN hφ N φ _ _ 0 0 h0 (by omega) (by omega) (by omega)) ?_;rw[bT,aV,aM (by omega)]
theorem zE:∀{cs:List D}{ws:List Nat},cs.mapM Ds=some ws→cs=c64 ws∧Sm B32 ws
 |[],ws,h=>by
  have:ws=[]:=by simpa using h.symm
  subst this;exact⟨rfl,λx hx=>by simp at hx⟩
 |d::cs,ws,h=>by
  rw[z1N]at h;cases hd:Ds d with
  |none=>rw[hd]at h;simp at h
  |some w=>
   rw[hd]at h;cases hc:cs.mapM Ds with
   |none=>rw[hc]at h;simp at h
   |some l=>
    rw[hc]at h;have e:ws=w::l:=by simpa using h.symm
    subst e;obtain⟨rfl,h2⟩:=zE hc;unfold Ds at hd;split at hd
    ·split at hd
     ·rename_i w' hw;have:w'=w:=by simpa using hd
      subst this;exact⟨rfl,λx hx=>by rcases bK.1 hx with h|h;(rw[h];exact hw);exact h2 x h⟩
     ·cases hd
    ·cases hd
theorem AC:∀{ws:List Nat},Sm B32 ws→(c64 ws).mapM Ds=some ws
 |[],_=>rfl
 |w::ws,h=>by
  show List.mapM Ds (n64 w::c64 ws)=_;rw[z1N,AC (λx hx=>h x (by simp[hx]))];have:Ds (n64 w)=some w:=by show(if w<B32 then some w else none)=_;rw[aC (h w (by simp))]
  rw[this];rfl
theorem HY{as:List D}{r:D}(h:rf as=some r):∃φ,pS φ as=some r:=by
 unfold rf at h;split at h
 ·split at h
  ·rename_i hm;split at h
   ·rename_i hc;obtain⟨rfl,hs⟩:=zE hm;exact⟨_,by rw[J1 hc.1 hs hc.2 (cR _)];exact h⟩
   ·cases h
  ·cases h
 ·cases h
theorem tJ{ws:List Nat}{n:Nat}{ex:Bool}(hs:Sm B32 ws)(hl:ws.length=n)(hn:n≤100000000000):rf [.tree (c64 ws) n ex]=some (.n (vl B32 ws)):=by
 unfold rf;simp only[AC hs];rw[aC ⟨hl,hn⟩]
theorem sB{m:Nat}{bs:List Blk}{K:D→LS→Rs}(hm:Nat.log2 m≤1000000000):∃bs' X,AS 1 bs' X (c64 (lm B32 m)) (lm B32 m).length∧(∀l b,bs[l]?=some b→bs'[l]?=some b∧jg X l)∧eS qN [.n m] (mem bs) K=K X (mem bs'):=by
 have e0:qN [.n m]=Aa m:=by
  show sz1 m (Aa m)=_;unfold sz1;rw[aH hm];rfl
 unfold Aa at e0;by_cases h0:m=0
 ·subst h0;exact⟨bs,_,AS.nil,λl b h=>⟨h,λo n m z e h=>by cases h⟩,fF e0⟩
 ·rw[gR h0,e9]at e0;refine⟨bs++[⟨c64 (lm B32 m),.rw⟩],.sl bs.length 0 (lm B32 m).length (lm B32 m).length 1 false,AS.blk (by simp) (by rw[fT];omega),λl b h=>⟨by rw[bO (ef h)];exact h,λo n m z e he=>?_⟩,?_⟩
  ·have:=ef h;injection he with h1;omega
  ·refine th (xR e0) ?_;rw[lU,jQ]
theorem Fp{X:D}{bs:List Blk}{ws:List Nat}{n i c:Nat}{J:D→LS→Rs}(hA:WS 1 bs X (c64 ws) n)(hs:Sm B32 ws)(hc:c<9223372036854775808):
 (ek X (mem bs) λx38 s=>fN (.i .i64 (.ofNat i)) x38 λx39=>eQ x39 (eJ 1 s X (.i .i64 (.ofNat i)) λx40 s=>eK s x40 λx41 s=>eZ (.i .u64 (.ofNat c)) x41 λx42=>J x42 s) (J (.i .u64 (.ofNat c)) s))=J (.i .u64 (.ofNat (c+dgt ws i))) (mem bs):=by
 have hl:=ic hA;rw[fT]at hl;refine th (rg hA) (th kE ?_);by_cases h:i<n
 ·have hw:=aB (show i<ws.length by omega);have e:dgt ws i=ws[i]'(by omega):=by unfold dgt;rw[aD,hw];rfl
  have:dgt ws i<4294967296:=jY hs (by decide) i;rw[ew h];refine th eO (th (qk hA hw) (th (uT (by rw[←e];omega)) ?_));rw[e]
 ·rw[fE h];have e:dgt ws i=0:=by unfold dgt;rw[aD,bW (by omega)];rfl
  rw[e];rfl
theorem Sc{X Y:D}{nx ny i c:Nat}{s:LS}{K:D→LS→Rs}(hX:∀(K:D→LS→Rs) s,ek X s K=K (.i .i64 (.ofNat nx)) s)(hY:∀(K:D→LS→Rs) s,ek Y s K=K (.i .i64 (.ofNat ny)) s):
 (ek X s λx11 s=>fN (.i .i64 (.ofNat i)) x11 λx12=>eI x12 false (λk=>k (.i .i64 (.ofNat i)) s) s λx13 s=>eI x12 false (λk=>k Y s) s λx14 s=>eI x12 false (λk=>ek x14 s k) s λx15 s=>eI x12 false (λk=>fN x13 x15 λd=>k d s) s λx16 s=>
  fY x12 (.b true) x16 s λx17 s=>eI x17 false (λk=>k (.i .u64 (.ofNat c)) s) s λx18 s=>eI x17 false (λk=>kv x18 (.i .u64 (.ofNat 0)) λd=>k d s) s λx19 s=>fY x17 (.b true) x19 s K)=K (.b (decide (i<nx∨i<ny∨0<c))) s:=by
 refine th (hX _ _) (th kE ?_);by_cases h1:i<nx
 ·rw[ew h1,aP (Or.inl h1)];rfl
 ·rw[fE h1];refine th fg (th fg (th fg (th (hY _ _) (th fg (th kE (th gD ?_))))));by_cases h2:i<ny
  ·rw[ew h2,aP (Or.inr (Or.inl h2))];rfl
  ·rw[fE h2];refine th fg (th fg (th oS (th gD ?_)));by_cases h3:0<c
   ·rw[ew h3,aP (Or.inr (Or.inr h3))]
   ·rw[fE h3,aN (by omega)]
theorem Se{φ x y:Nat}{X Y:D}{xs ys:List Nat}{nx ny:Nat}(hxs:Sm B32 xs)(hys:Sm B32 ys)(hx:nx≤100000000)(hy:ny≤100000000):∀(k i f:Nat)(O:D)(bs:List Blk)(os:List Nat)(c:Nat),
 WS 1 bs X (c64 xs) nx→WS 1 bs Y (c64 ys) ny→AS 1 bs O (c64 os) i→Dis X O→Dis Y O→os.length=i→Sm B32 os→c≤1→vl B32 os+B32^i*(c+vl B32 (xs.drop i)+vl B32 (ys.drop i))=x+y→nx+ny+1≤i+k→(nx+ny<i→c=0)→k+1<f→i≤nx+ny+1→
 lp (λ(_ _ _ _ _:D)(_:LS)=>none) (ja φ) f X Y O (.i .u64 (.ofNat c)) (.i .i64 (.ofNat i)) (mem bs)=some (.n (x+y)):=by
 intro k
 induction k with
 |zero=>
  intro i f O bs os c aX aY aO dX dY hl hs hc hv hk hk2 hf hi;obtain⟨f,rfl⟩:∃q,f=q+1:=⟨f-1,by omega⟩
  have hxl:=ic aX;have hyl:=ic aY;rw[fT]at hxl hyl;have hc0:c=0:=hk2 (by omega);rw[bf (show xs.length≤i by omega),bf (show ys.length≤i by omega),hc0]at hv;rw[eM];unfold ja;refine th (Sc (λ_ _=>rg aX) (λ_ _=>rg aY)) ?_;rw[aN (by omega)];refine th eP (th (xw aO.ws (λex=>tJ hs (by omega) (by omega)) rfl) ?_);have:vl B32 os=x+y:=by rw[←hv];simp[vl]
  rw[this];rfl
 |succ k ih=>
  intro i f O bs os c aX aY aO dX dY hl hs hc hv hk hk2 hf hi;obtain⟨f,rfl⟩:∃q,f=q+1:=⟨f-1,by omega⟩
  have hxl:=ic aX;have hyl:=ic aY;rw[fT]at hxl hyl;rw[eM];unfold ja;refine th (Sc (λ_ _=>rg aX) (λ_ _=>rg aY)) ?_;by_cases hgo:i<nx∨i<ny∨0<c
  ·rw[aP hgo];have d1:dgt xs i<4294967296:=jY hxs (by decide) i;have d2:dgt ys i<4294967296:=jY hys (by decide) i;refine th eO (th om (th (Fp aX hxs (by omega)) (th om (th (Fp aY hys (by omega)) ?_))));generalize hS:c+dgt xs i+dgt ys i=S;refine th (BA (by omega)) ?_;obtain⟨bs',O',k1,k2,k3⟩:=ap1 (K:=λx35 s=>pG (.i .u64 (.ofNat S)) (.i .u64 (.ofNat 32)) λx36=>eZ (.i .i64 (.ofNat i)) (.i .i64 (.ofNat 1)) λx37=>lp (λ(_ _ _ _ _:D)(_:LS)=>none) (ja φ) f X Y x35 x36 x37 s) (zero:=[(.i .u64 (.ofNat 0))]) (x:=n64 (S%4294967296)) (new:=c64 [S%4294967296]) (bytes:=8) aO rfl rfl rfl rfl (by omega) (by omega);refine th k3 (th CM (th (fH) ?_));rw[G7]at k1;obtain⟨aX',dX'⟩:=FR aX dX k2;obtain⟨aY',dY'⟩:=FR aY dY k2;refine ih (i+1) f O' bs' (os++[S%4294967296]) (S/4294967296) aX' aY' k1 dX' dY' (by simp;omega) (Iz hs (F0 (bc _ (by decide)))) (by omega) ?_ (by omega) ?_ (by omega) (by omega)
   ·rw[←hv,ri,hl,qY xs i,qY ys i];have hdm:S%4294967296+B32*(S/4294967296)=S:=dE S 4294967296;generalize S%4294967296=r at*;generalize S/4294967296=q at*;show vl B32 os+B32^i*(r+B32*0)+_=_;generalize vl B32 (xs.drop (i+1))=a at*;generalize vl B32 (ys.drop (i+1))=b at*;rw[ax];have:c+(dgt xs i+B32*a)+(dgt ys i+B32*b)=r+B32*(q+a+b):=by rw[bA,bA];omega
    rw[this];generalize B32^i=P;generalize B32=B;grind
   ·intro h;have e1:dgt xs i=0:=by unfold dgt;rw[aD,bW (by omega)];rfl
    have e2:dgt ys i=0:=by unfold dgt;rw[aD,bW (by omega)];rfl
    omega
  ·rw[aN hgo];have hc0:c=0:=by omega
   rw[bf (show xs.length≤i by omega),bf (show ys.length≤i by omega),hc0]at hv;refine th eP (th (xw aO.ws (λex=>tJ hs (by omega) (by omega)) rfl) ?_);have:vl B32 os=x+y:=by rw[←hv];simp[vl]
   rw[this];rfl
theorem wu{as:List D}{k:Nat→Nat→Rs}{r:D}(h:two as k=some r):∃x y,as=[.n x,.n y]∧Nat.log2 x≤1000000000∧Nat.log2 y≤1000000000∧k x y=some r:=by
 obtain⟨a,r1,rfl,g1⟩:=jh h;obtain⟨b,r2,rfl,g2⟩:=jh g1;obtain⟨rfl,g3⟩:=oX g2;obtain⟨x,rfl,g4⟩:=iE g3;obtain⟨y,rfl,g5⟩:=iE g4;obtain⟨hx,g6⟩:=CE g5;obtain⟨hy,g7⟩:=CE g6;exact⟨x,y,rfl,hx,hy,g7⟩
theorem ya{m:Nat}(h:Nat.log2 m≤1000000000):(lm B32 m).length≤50000000:=by
 by_cases h0:m=0
 ·subst h0;decide
 ·have e32:B32=2^32:=rfl;have h1:lm B32 m≠[]:=by
   intro e;have:=vo (B:=B32) (by decide) m;rw[e]at this;exact h0 this.symm
  have h2:=yK (B:=B32) (Hl (by decide) m) h1;rw[vo (by decide) m]at h2;generalize (lm B32 m).length=L at*;rw[e32,←dw]at h2;have h3:=(z1r h0).2 h2;omega
theorem OQ{φ x y:Nat}(hx:Nat.log2 x≤1000000000)(hy:Nat.log2 y≤1000000000)(hφ:1000000000≤φ):qC φ [.n x,.n y]=some (.n (x+y)):=by
 unfold qC;dsimp only[eV,eY];rw[←fw];obtain⟨b1,X,h1,h2,h3⟩:=sB (bs:=[]) (K:=λx3 s=>eS qN [.n y] s λx4 s=>lp (λ(_ _ _ _ _:D)(_:LS)=>none) (ja φ) φ x3 x4 (.tree [] 0 true) (.i .u64 (.ofNat 0)) (.i .i64 (.ofNat 0)) s) hx;refine th h3 ?_;obtain⟨b2,Y,g1,g2,g3⟩:=sB (bs:=b1) (K:=λx4 s=>lp (λ(_ _ _ _ _:D)(_:LS)=>none) (ja φ) φ X x4 (.tree [] 0 true) (.i .u64 (.ofNat 0)) (.i .i64 (.ofNat 0)) s) hy;refine th g3 ?_;have l1:=ya hx;have l2:=ya hy;refine Se (nx:=(lm B32 x).length) (ny:=(lm B32 y).length) (yN (by decide) x) (yN (by decide) y) (by omega) (by omega) ((lm B32 x).length+(lm B32 y).length+1) 0 φ _ b2 [] 0 (yQ h1.ws g2).1 g1.ws AS.nil (λl o n m z e h o n m z e h'=>by cases h') (λl o n m z e h o n m z e h'=>by cases h') rfl (λx hx=>by simp at hx) (by omega) ?_ (by omega) (by omega) (by omega) (by omega);rw[am,am,vo (by decide),vo (by decide)];simp[vl]
theorem K5{as:List D}{r:D}(h:yu as=some r):∃φ,qC φ as=some r:=by
 obtain⟨x,y,rfl,hx,hy,h⟩:=wu h;exact⟨_,by rw[OQ hx hy (aE _)];rw[fB]at h;exact h⟩
theorem zB{B:Nat}(ws:List Nat)(i:Nat):vl B (ws.take (i+1))=vl B (ws.take i)+dgt ws i*B^i:=by
 by_cases h:i<ws.length
 ·have hw:=aB h;have e:dgt ws i=ws[i]:=by unfold dgt;rw[aD,hw];rfl
  rw[bq,hw,ri,aZ,bS (by omega),e];show _+B^i*(ws[i]+B*0)=_;rw[dG,bH,aK]
 ·have e:dgt ws i=0:=by unfold dgt;rw[aD,bW (by omega)];rfl
  rw[aM (by omega),aM (by omega),e];simp
theorem Rr{ws:List Nat}{i w:Nat}(h:ws[i]?=some w):dgt ws i=w:=by unfold dgt;rw[aD,h];rfl
theorem lR{ws:List Nat}{i:Nat}(h:i<ws.length):ws[i]?=some (dgt ws i):=by
 have hw:=aB h;rw[hw,Rr hw]
theorem UN{x y:Nat}(h:y≤x):(lm B32 y).length≤(lm B32 x).length:=by
 by_cases h0:y=0
 ·subst h0;exact a9 _
 ·have h1:lm B32 y≠[]:=by
   intro e;have:=vo (B:=B32) (by decide) y;rw[e]at this;exact h0 this.symm
  have h2:=yK (B:=B32) (Hl (by decide) y) h1;have h3:=uQ (yN (B:=B32) (by decide) x);rw[vo (by decide)]at h2 h3;have h4:B32^((lm B32 y).length-1)<B32^(lm B32 x).length:=by omega
  have:=(Nat.pow_lt_pow_iff_right (a:=B32) (by decide)).1 h4;omega
theorem Og{φ x y:Nat}{X Y:D}{ys:List Nat}{nx ny:Nat}(hys:Sm B32 ys)(hxy:y≤x)(hy:vl B32 ys=y)(hn:ny≤nx)(hnx:nx≤100000000):∀(k i f:Nat)(bs:List Blk)(zs:List Nat)(c:Nat),
 WS 1 bs X (c64 zs) nx→WS 1 bs Y (c64 ys) ny→Dis Y X→Sm B32 zs→c≤1→vl B32 zs+vl B32 (ys.take i)=x+c*B32^i→i+k=nx→k+1<f→
 lp (λ(_ _ _ _:D)(_:LS)=>none) (hZ φ) f X Y (.i .u64 (.ofNat c)) (.i .i64 (.ofNat i)) (mem bs)=some (.n (x-y)):=by
 intro k
 induction k with
 |zero=>
  intro i f bs zs c aX aY dY hs hc hv hk hf;obtain⟨f,rfl⟩:∃q,f=q+1:=⟨f-1,by omega⟩
  have hxl:=ic aX;have hyl:=ic aY;rw[fT]at hxl hyl;rw[aM (by omega),hy]at hv;have hlt:=uQ hs;rw[show zs.length=i by omega]at hlt;have hc0:c=0:=by
   rcases(show c=0∨c=1 by omega)with h|h
   ·exact h
   ·subst h;omega
  subst hc0;rw[eM];unfold hZ;refine th (rg aX) (th (gA) (th eP (th (xw aX (λex=>tJ hs (by omega) (by omega)) rfl) ?_)));rw[show vl B32 zs=x-y by omega];rfl
 |succ k ih=>
  intro i f bs zs c aX aY dY hs hc hv hk hf;obtain⟨f,rfl⟩:∃q,f=q+1:=⟨f-1,by omega⟩
  have hxl:=ic aX;rw[fT]at hxl;have hz:=lR (show i<zs.length by omega);have d1:dgt zs i<4294967296:=jY hs (by decide) i;have d2:dgt ys i<4294967296:=jY hys (by decide) i;rw[eM];unfold hZ;refine th (rg aX) (th (fe) (th eO (th om (th (Fp aY hys (by omega)) (th om (th (qk aX hz) (th kE ?_)))))));have hset:∀z',vl B32 (zs.set i z')+dgt zs i*B32^i=vl B32 zs+z'*B32^i:=λz'=>sK z' hz;by_cases hb:dgt zs i<c+dgt ys i
  ·rw[ew hb];refine th eO (th (qk aX hz) (th (uT) ?_));obtain⟨b1,a1,a2,a3,a4⟩:=vc (w:=dgt zs i+4294967296) (kk:=.i64) (K:=λ_ s=>(eJ 1 s X (.i .i64 (.ofNat i)) λx25 s=>eK s x25 λx26 s=>fA x26 (.i .u64 (.ofNat (c+dgt ys i))) λx27=>eJ 1 s X (.i .i64 (.ofNat i)) λx28 s=>eU 1 s x28 x27 λ_ s=>eZ (.i .i64 (.ofNat i)) (.i .i64 (.ofNat 1)) λx29=>lp (λ(_ _ _ _:D)(_:LS)=>none) (hZ φ) f X Y (.i .u64 (.ofNat 1)) x29 s)) aX (show i<nx by omega);refine th a4 (th (qk a1 (w:=dgt zs i+4294967296) (by rw[a7 (by omega)])) (th (wv) ?_));obtain⟨b2,g1,g2,g3,g4⟩:=vc (w:=dgt zs i+4294967296-(c+dgt ys i)) (kk:=.i64) (K:=λ_ s=>eZ (.i .i64 (.ofNat i)) (.i .i64 (.ofNat 1)) λx29=>lp (λ(_ _ _ _:D)(_:LS)=>none) (hZ φ) f X Y (.i .u64 (.ofNat 1)) x29 s) a1 (show i<nx by omega);refine th g4 (th (fH) ?_);rw[z28]at g1;refine ih (i+1) f b2 _ 1 g1 (g3 _ _ _ _ (a3 _ _ _ _ aY dY) dY) dY (od hs (show _<B32 by show _<4294967296;omega)) (by omega) ?_ (by omega) (by omega);have h1:=hset (dgt zs i+4294967296-(c+dgt ys i));have e1:(dgt zs i+4294967296-(c+dgt ys i))+(c+dgt ys i)=dgt zs i+B32:=by show _=_+4294967296;omega
   generalize dgt zs i+4294967296-(c+dgt ys i)=z' at*;rw[zB,ax];generalize vl B32 (zs.set i z')=v1 at*;generalize B32^i=P at*;generalize B32=B at*;have e2:z'*P+(c*P+dgt ys i*P)=dgt zs i*P+B*P:=by rw[←aS,←aS,←aS,e1]
   rw[bG,aK P B];omega
  ·rw[fE hb];refine th eP (th (qk aX hz) (th (wv) ?_));obtain⟨b2,g1,g2,g3,g4⟩:=vc (w:=dgt zs i-(c+dgt ys i)) (kk:=.i64) (K:=λ_ s=>eZ (.i .i64 (.ofNat i)) (.i .i64 (.ofNat 1)) λx29=>lp (λ(_ _ _ _:D)(_:LS)=>none) (hZ φ) f X Y (.i .u64 (.ofNat 0)) x29 s) aX (show i<nx by omega);refine th g4 (th (fH) ?_);refine ih (i+1) f b2 _ 0 g1 (g3 _ _ _ _ aY dY) dY (od hs (show _<B32 by show _<4294967296;omega)) (by omega) ?_ (by omega) (by omega);have h1:=hset (dgt zs i-(c+dgt ys i));have e1:(dgt zs i-(c+dgt ys i))+(c+dgt ys i)=dgt zs i:=by omega
   generalize dgt zs i-(c+dgt ys i)=z' at*;rw[zB];generalize vl B32 (zs.set i z')=v1 at*;generalize B32^i=P at*;have e2:z'*P+(c*P+dgt ys i*P)=dgt zs i*P:=by rw[←aS,←aS,e1]
   rw[bT];omega
theorem Mt{φ x y:Nat}(hx:Nat.log2 x≤1000000000)(hy:Nat.log2 y≤1000000000)(hφ:1000000000≤φ):qA φ [.n x,.n y]=some (.n (x-y)):=by
 unfold qA;dsimp only[eV,eY];rw[←fw];have hcmp:ng [.n x,.n y]=some (cnd (Nat.blt x y) (.i .i64 (.negSucc 0)) (cnd (Nat.beq x y) (.i .i64 (.ofNat 0)) (.i .i64 (.ofNat 1)))):=rfl;by_cases hlt:x<y
 ·rw[ew hlt,eL]at hcmp;refine th (fF hcmp) (th sT (th eO ?_));rw[show x-y=0 by omega];rfl
 ·rw[fE hlt,e9]at hcmp;have hres:∃c:Nat,ng [.n x,.n y]=some (.i .i64 (.ofNat c)):=by
   by_cases he:x=y
   ·exact⟨0,by rw[hcmp,he,ei];rfl⟩
   ·exact⟨1,by rw[hcmp,gR he];rfl⟩
  obtain⟨c,hc⟩:=hres;refine th (fF hc) (th (gA) (th eP ?_));obtain⟨b1,X,h1,h2,h3⟩:=sB (bs:=[]) (K:=λx3 s=>eS qN [.n y] s λx4 s=>lp (λ(_ _ _ _:D)(_:LS)=>none) (hZ φ) φ x3 x4 (.i .u64 (.ofNat 0)) (.i .i64 (.ofNat 0)) s) hx;refine th h3 ?_;obtain⟨b2,Y,g1,g2,g3⟩:=sB (bs:=b1) (K:=λx4 s=>lp (λ(_ _ _ _:D)(_:LS)=>none) (hZ φ) φ X x4 (.i .u64 (.ofNat 0)) (.i .i64 (.ofNat 0)) s) hy;refine th g3 ?_;have l1:=ya hx;obtain⟨aX,dX⟩:=yQ h1.ws g2;refine Og (nx:=(lm B32 x).length) (ny:=(lm B32 y).length) (yN (by decide) y) (by omega) (vo (by decide) y) (UN (by omega)) (by omega) (lm B32 x).length 0 φ b2 (lm B32 x) 0 aX g1.ws ?_ (yN (by decide) x) (by omega) ?_ (by omega) (by omega)
  ·intro l o n m z e he o' n' m' z' e' he';exact dX _ _ _ _ _ _ he' _ _ _ _ _ he
  ·rw[vo (by decide)];simp[vl]
theorem Iw{as:List D}{r:D}(h:wI as=some r):∃φ,qA φ as=some r:=by
 obtain⟨x,y,rfl,hx,hy,h⟩:=wu h;exact⟨_,by rw[Mt hx hy (aE _)];rw[fB]at h;exact h⟩
theorem AA{ws:List Nat}{i j w:Nat}(h:i≠j):dgt (ws.set i w) j=dgt ws j:=by
 unfold dgt;rw[aD,aD,bU h]
theorem VD{ws:List Nat}{i:Nat}(h:ws.length≤i):dgt ws i=0:=by unfold dgt;rw[aD,bW h];rfl
theorem Wy{a b c d:Nat}(ha:a<4294967296)(hb:b<4294967296)(hc:c<4294967296)(hd:d<4294967296):a+b*c+d<18446744073709551616:=by
 have:b*c≤4294967295*4294967295:=cA (by omega) (by omega);omega
theorem XB{φ i w:Nat}{X Y O:D}{xs ys:List Nat}{nx ny:Nat}{q9:D→D→D→D→LS→Rs}(hxs:Sm B32 xs)(hys:Sm B32 ys)(hx:nx≤100000000)(hy:ny≤100000000)(hw:xs[i]?=some w)(hi:i<nx):∀(k j f:Nat)(bs:List Blk)(os:List Nat)(c V:Nat),
 WS 1 bs X (c64 xs) nx→WS 1 bs Y (c64 ys) ny→WS 1 bs O (c64 os) (nx+ny)→Dis X O→Dis Y O→Sm B32 os→c<B32→vl B32 os+c*B32^(i+j)=V+w*vl B32 (ys.take j)*B32^i→(∀t,i+ny≤t→dgt os t=0)→j+k=ny→k+1<f→
 ∃bs' os',WS 1 bs' X (c64 xs) nx∧WS 1 bs' Y (c64 ys) ny∧WS 1 bs' O (c64 os') (nx+ny)∧Sm B32 os'∧vl B32 os'=V+w*vl B32 ys*B32^i∧(∀t,i+1+ny≤t→dgt os' t=0)∧
 lp (λ(_ _ _ _ _ _:D)(_:LS)=>none) (mP φ q9) f X Y O (.i .i64 (.ofNat i)) (.i .u64 (.ofNat c)) (.i .i64 (.ofNat j)) (mem bs)=eZ (.i .i64 (.ofNat i)) (.i .i64 (.ofNat 1)) λx43=>q9 X Y O x43 (mem bs'):=by
 intro k
 induction k with
 |zero=>
  intro j f bs os c V aX aY aO dX dY hs hc hv hz hk hf;obtain⟨f,rfl⟩:∃q,f=q+1:=⟨f-1,by omega⟩
  have hol:=ic aO;have hyl:=ic aY;rw[fT]at hol hyl;obtain⟨b2,g1,g2,g3,g4⟩:=vc (w:=c) (i:=i+ny) (kk:=.i64) (K:=λ_ s=>eZ (.i .i64 (.ofNat i)) (.i .i64 (.ofNat 1)) λx43=>q9 X Y O x43 s) aO (by omega);refine⟨b2,os.set (i+ny) c,g3 _ _ _ _ aX dX,g3 _ _ _ _ aY dY,g1,od hs hc,?_,?_,?_⟩
  ·have h1:=sK (B:=B32) c (lR (show i+ny<os.length by omega));rw[hz _ (aE _),bT,bH]at h1;rw[aM (by omega)]at hv;rw[h1,←hv,show i+j=i+ny by omega]
  ·intro t ht;rw[AA (by omega)];exact hz t (by omega)
  ·rw[eM];unfold mP;refine th (rg aY) (th (gA) (th eP (th (rg aY) (th (fH) ?_))));exact g4
 |succ k ih=>
  intro j f bs os c V aX aY aO dX dY hs hc hv hz hk hf;obtain⟨f,rfl⟩:∃q,f=q+1:=⟨f-1,by omega⟩
  have hol:=ic aO;have hyl:=ic aY;rw[fT]at hol hyl;have d1:dgt os (i+j)<4294967296:=jY hs (by decide) _;have d2:dgt ys j<4294967296:=jY hys (by decide) j;have d3:w<4294967296:=hxs _ (bY hw);have d4:c<4294967296:=hc;have hlt:=Wy d1 d3 d2 d4;generalize hS:dgt os (i+j)+w*dgt ys j+c=S at hlt;obtain⟨b2,g1,g2,g3,g4⟩:=vc (w:=S%4294967296) (i:=i+j) (kk:=.i64) (K:=λ_ s=>pG (.i .u64 (.ofNat S)) (.i .u64 (.ofNat 32)) λx38=>eZ (.i .i64 (.ofNat j)) (.i .i64 (.ofNat 1)) λx39=>lp (λ(_ _ _ _ _ _:D)(_:LS)=>none) (mP φ q9) f X Y O (.i .i64 (.ofNat i)) x38 x39 s) aO (show i+j<nx+ny by omega);obtain⟨bs',os',e1,e2,e3,e4,e5,e6,e7⟩:=ih (j+1) f b2 (os.set (i+j) (S%4294967296)) (S/4294967296) V (g3 _ _ _ _ aX dX) (g3 _ _ _ _ aY dY) g1 dX dY (od hs (bc _ (by decide))) (by show _<4294967296;omega) (by
   have h1:=sK (B:=B32) (S%4294967296) (lR (show i+j<os.length by omega));have hdm:S%4294967296+B32*(S/4294967296)=S:=dE S 4294967296;rw[zB,←cy,ax];rw[bX]at hv h1 ⊢;generalize S%4294967296=r at*;generalize S/4294967296=q at*;generalize vl B32 (os.set (i+j) r)=v1 at*;generalize vl B32 (ys.take j)=vy at*;generalize vl B32 os=v0 at*;generalize dgt os (i+j)=o at*;generalize dgt ys j=y at*;generalize B32^i=P at*;generalize B32^j=Q at*;generalize B32=B at*;have h2:(r+B*q)*(P*Q)=(o+w*y+c)*(P*Q):=by rw[hdm,←hS]
   grind) (λt ht=>by rw[AA (by omega)];exact hz t ht) (by omega) (by omega)
  refine⟨bs',os',e1,e2,e3,e4,e5,e6,?_⟩;rw[eM];unfold mP;refine th (rg aY) (th (fe) (th eO (th (fH) (th (qk aO (lR (by omega))) (th (qk aX hw) (th (qk aY (lR (by omega))) ?_))))));have hm:w*dgt ys j<18446744073709551616:=by omega
  refine th (Ce hm) (th (uT (by omega)) (th (uT (by omega)) ?_));rw[hS];refine th (fH) (th (BA hlt) (th g4 (th CM (th (fH) ?_))));exact e7
theorem UA{φ:Nat}{X Y O:D}{xs ys:List Nat}{nx ny:Nat}(hxs:Sm B32 xs)(hys:Sm B32 ys)(hx:nx≤100000000)(hy:ny≤100000000)(hφ:1000000000≤φ):∀(k i f:Nat)(bs:List Blk)(os:List Nat),
 WS 1 bs X (c64 xs) nx→WS 1 bs Y (c64 ys) ny→WS 1 bs O (c64 os) (nx+ny)→Dis X O→Dis Y O→Sm B32 os→vl B32 os=vl B32 (xs.take i)*vl B32 ys→(∀t,i+ny≤t→dgt os t=0)→i+k=nx→k+1<f→
 lp (λ(_ _ _ _:D)(_:LS)=>none) (j7 φ) f X Y O (.i .i64 (.ofNat i)) (mem bs)=some (.n (vl B32 xs*vl B32 ys)):=by
 intro k
 induction k with
 |zero=>
  intro i f bs os aX aY aO dX dY hs hv hz hk hf;obtain⟨f,rfl⟩:∃q,f=q+1:=⟨f-1,by omega⟩
  have hol:=ic aO;have hxl:=ic aX;rw[fT]at hol hxl;rw[eM];unfold j7;refine th (rg aX) (th (gA) (th eP (th (xw aO (λex=>tJ hs (by omega) (by omega)) rfl) ?_)));rw[hv,aM (by omega)];rfl
 |succ k ih=>
  intro i f bs os aX aY aO dX dY hs hv hz hk hf;obtain⟨f,rfl⟩:∃q,f=q+1:=⟨f-1,by omega⟩
  have hxl:=ic aX;rw[fT]at hxl;have hw:=lR (show i<xs.length by omega);obtain⟨bs',os',e1,e2,e3,e4,e5,e6,e7⟩:=XB (φ:=φ) (q9:=lp (λ(_ _ _ _:D)(_:LS)=>none) (j7 φ) f) hxs hys hx hy hw (show i<nx by omega) ny 0 φ bs os 0 (vl B32 (xs.take i)*vl B32 ys) aX aY aO dX dY hs (by decide) (by rw[hv];simp[vl]) hz (by omega) (by omega);rw[eM];unfold j7;refine th (rg aX) (th (fe) (th eO (th e7 (th (fH) ?_))));refine ih (i+1) f bs' os' e1 e2 e3 dX dY e4 ?_ e6 (by omega) (by omega);rw[e5,zB];generalize vl B32 (xs.take i)=a;generalize vl B32 ys=b;generalize dgt xs i=d;generalize B32^i=P;grind
theorem N1{φ x y:Nat}(hx:Nat.log2 x≤1000000000)(hy:Nat.log2 y≤1000000000)(hφ:1000000000≤φ):qB φ [.n x,.n y]=some (.n (x*y)):=by
 unfold qB;dsimp only[eV,eY];rw[←fw];obtain⟨b1,X,h1,h2,h3⟩:=sB (bs:=[]) (K:=λx3 s=>eS qN [.n y] s λx4 s=>ek x3 s λx5 s=>ek x4 s λx6 s=>eZ x5 x6 λx7=>ku 1 8 [(.i .u64 (.ofNat 0))] s x7 x7 λx8 s=>lp (λ(_ _ _ _:D)(_:LS)=>none) (j7 φ) φ x3 x4 x8 (.i .i64 (.ofNat 0)) s) hx;refine th h3 ?_;obtain⟨b2,Y,g1,g2,g3⟩:=sB (bs:=b1) (K:=λx4 s=>ek X s λx5 s=>ek x4 s λx6 s=>eZ x5 x6 λx7=>ku 1 8 [(.i .u64 (.ofNat 0))] s x7 x7 λx8 s=>lp (λ(_ _ _ _:D)(_:LS)=>none) (j7 φ) φ X x4 x8 (.i .i64 (.ofNat 0)) s) hy;refine th g3 ?_;have l1:=ya hx;have l2:=ya hy;obtain⟨aX,dX⟩:=yQ h1.ws g2;refine th (rg aX) (th (rg g1.ws) (th (fH) (th (Dx rfl (by omega) (by omega)) ?_)));generalize hnx:(lm B32 x).length=nx at*;generalize hny:(lm B32 y).length=ny at*;rw[rt,vV];have hnew:∀l b,b2[l]?=some b→(b2++[⟨c64 (List.replicate (nx+ny) 0),.rw⟩])[l]?=some b∧jg (.sl b2.length 0 (nx+ny) (nx+ny) 1 true) l:=λl b h=>⟨by rw[bO (ef h)];exact h,λo n m z e he=>by have:=ef h;injection he with h1;omega⟩
 obtain⟨aX',dX'⟩:=yQ aX hnew;obtain⟨aY',dY'⟩:=yQ g1.ws hnew;refine th (UA (φ:=φ) (yN (B:=B32) (by decide) x) (yN (by decide) y) (by omega) (by omega) hφ nx 0 φ _ (List.replicate (nx+ny) 0) aX' aY' (WS.blk (by simp) (by rw[fT];simp) (aE _)) dX' dY' (AT (by decide)) (by rw[zA];simp[vl]) (λt ht=>?_) (by omega) (by omega)) ?_
 ·unfold dgt;rw[aD];cases h:(List.replicate (nx+ny) 0)[t]?with
  |none=>rfl
  |some w=>exact dk (bY h)
 ·rw[vo (by decide),vo (by decide)]
theorem Jg{as:List D}{r:D}(h:y5 as=some r):∃φ,qB φ as=some r:=by
 obtain⟨x,y,rfl,hx,hy,h⟩:=wu h;exact⟨_,by rw[N1 hx hy (aE _)];rw[fB]at h;exact h⟩
theorem Gr{φ:Nat}{s:LS}{K:D→LS→Rs}:∀(n f:Nat)(xs:List Nat)(ex:Bool),xs.length=n→Sm B32 xs→n<f→n<9223372036854775808→
 ∃zs ex',Tm zs∧Sm B32 zs∧vl B32 zs=vl B32 xs∧zs.length≤n∧lp (λ(_:D)(_:LS)=>none) (tC φ K) f (.tree (c64 xs) n ex) s=K (.tree (c64 zs) zs.length ex') s:=by
 intro n
 induction n with
 |zero=>
  intro f xs ex hl hs hf hn;obtain⟨f,rfl⟩:∃q,f=q+1:=⟨f-1,by omega⟩
  have:xs=[]:=ao hl;subst this;exact⟨[],ex,λw h=>by simp at h,hs,rfl,aE _,by rw[eM];rfl⟩
 |succ n ih=>
  intro f xs ex hl hs hf hn;obtain⟨f,rfl⟩:∃q,f=q+1:=⟨f-1,by omega⟩
  have hw:=lR (show n<xs.length by omega);have hx:xs=xs.take n++[dgt xs n]:=by
   have:xs.take (n+1)=xs.take n++[dgt xs n]:=by rw[bq,hw];rfl
   rw[aM (by omega)]at this;exact this
  by_cases h0:dgt xs n=0
  ·obtain⟨zs,ex',k1,k2,k3,k4,k5⟩:=ih f (xs.take n) (cnd ex (Nat.beq n (n+1)) false) (by rw[aZ];omega) (sN hs) (by omega) (by omega);refine⟨zs,ex',k1,k2,?_,by omega,?_⟩
   ·rw[k3];have:=congrArg (vl B32) hx;rw[ri,h0]at this;rw[this];simp[vl]
   ·rw[eM];refine th fO (th (nU (by omega)) (th eo (th eo (th eo (th fO (th eo (th (gW) (th eo (th (v8 (by omega) (by rw[fT];omega)) (th eo (th (wQ (d:=n64 0) (by rw[a8,aj];rw[h0]at hw;exact ky hw)) (th eo (th (oo rfl) (th fQ (th eO (th fO (th (gW) ?_)))))))))))))))));rw[a8];refine th (xN (by omega) (by rw[fT];omega)) ?_;have e2:(c64 xs).take n=c64 (xs.take n):=by unfold c64;rw[dp]
    rw[e2];exact k5
  ·refine⟨xs,ex,?_,hs,rfl,by omega,?_⟩
   ·intro w hw';rw[hx]at hw';have:dgt xs n=w:=by simpa using hw'
    omega
   ·rw[eM,hl];refine th fO (th (nU (by omega)) (th eo (th eo (th eo (th fO (th eo (th (gW) (th eo (th (v8 (by omega) (by rw[fT];omega)) (th eo (th (wQ (d:=n64 (dgt xs n)) (by rw[a8,aj];exact ky hw)) (th eo (th (sD h0) (th fQ (th eP ?_)))))))))))))));rfl
theorem EG{a b:List Nat}(sa:Sm B32 a)(tb:Tm b)(h:a.length<b.length):vl B32 a<vl B32 b:=by
 have h1:=uQ sa;have h2:=yK (B:=B32) tb (by intro e;rw[e]at h;simp at h);have h3:B32^a.length≤B32^(b.length-1):=bg (by decide) (by omega);omega
theorem vd(ws:List Nat)(i:Nat):vl B32 ws=vl B32 (ws.take i)+B32^i*(dgt ws i+B32*vl B32 (ws.drop (i+1)))∨ws.length<i:=by
 by_cases h:ws.length<i
 ·exact Or.inr h
 ·left;have:=ri (B:=B32) (ws.take i) (ws.drop i);rw[c7,aZ,bS (by omega),qY]at this;exact this
theorem K3{φ n:Nat}{zs ys:List Nat}{e1 e2:Bool}{s:LS}(sz:Sm B32 zs)(sy:Sm B32 ys)(hz:zs.length=n)(hy:ys.length=n)(hn:n<9223372036854775808):∀(i f:Nat),i<n→i+1<f→zs.drop (i+1)=ys.drop (i+1)→
 lp (λ(_ _ _:D)(_:LS)=>none) (pT φ) f (.tree (c64 zs) n e1) (.tree (c64 ys) n e2) (.i .i64 (.ofNat i)) s=some (.b (Nat.blt (vl B32 zs) (vl B32 ys))):=by
 intro i
 induction i with
 |zero=>
  intro f hi hf hd;obtain⟨f,rfl⟩:∃q,f=q+2:=⟨f-2,by omega⟩
  have gz:=ky (lR (show 0<zs.length by omega));have gy:=ky (lR (show 0<ys.length by omega));have vz:vl B32 zs=dgt zs 0+B32*vl B32 (zs.drop (0+1)):=qY zs 0;have vy:vl B32 ys=dgt ys 0+B32*vl B32 (ys.drop (0+1)):=qY ys 0;rw[hd]at vz;rw[eM];refine th (qR (by omega)) (th eO (th (v8 hi (by rw[fT];omega)) (th (wQ gz) (th (v8 hi (by rw[fT];omega)) (th (wQ gy) ?_)))));by_cases he:dgt zs 0=dgt ys 0
  ·refine th (pH he) (th eP (th (nk (by omega) (by omega)) ?_));rw[eM];refine th ol (th eP ?_);rw[vz,vy,he,fE (bC _)];rfl
  ·refine th (rv he) (th eO (th (v8 hi (by rw[fT];omega)) (th (wQ gz) (th (v8 hi (by rw[fT];omega)) (th (wQ gy) (th kE ?_))))));rw[vz,vy];by_cases hl:dgt zs 0<dgt ys 0
   ·rw[ew hl,ew (by omega)];rfl
   ·rw[fE hl,fE (by omega)];rfl
 |succ i ih=>
  intro f hi hf hd;obtain⟨f,rfl⟩:∃q,f=q+1:=⟨f-1,by omega⟩
  have gz:=ky (lR (show i+1<zs.length by omega));have gy:=ky (lR (show i+1<ys.length by omega));rw[eM];refine th (qR (by omega)) (th eO (th (v8 hi (by rw[fT];omega)) (th (wQ (by rw[aj];exact gz)) (th (v8 hi (by rw[fT];omega)) (th (wQ (by rw[aj];exact gy)) ?_)))));by_cases he:dgt zs (i+1)=dgt ys (i+1)
  ·refine th (pH he) (th eP (th (gW) ?_));rw[a8];refine ih f (by omega) (by omega) ?_;have a1:=lR (show i+1<zs.length by omega);have a2:=lR (show i+1<ys.length by omega);rw[nD a1,nD a2,he,hd]
  ·refine th (rv he) (th eO (th (v8 hi (by rw[fT];omega)) (th (wQ (by rw[aj];exact gz)) (th (v8 hi (by rw[fT];omega)) (th (wQ (by rw[aj];exact gy)) (th kE ?_))))));have vz:=(vd zs (i+1)).resolve_right (by omega);have vy:=(vd ys (i+1)).resolve_right (by omega);rw[hd]at vz;have lz:vl B32 (zs.take (i+1))<B32^(i+1):=by
    have:=uQ (sN (n:=i+1) sz);rw[aZ,bS (by omega)]at this;exact this
   have ly:vl B32 (ys.take (i+1))<B32^(i+1):=by
    have:=uQ (sN (n:=i+1) sy);rw[aZ,bS (by omega)]at this;exact this
   generalize vl B32 (ys.drop (i+1+1))=R at*;generalize vl B32 (zs.take (i+1))=p at*;generalize vl B32 (ys.take (i+1))=q at*;generalize B32^(i+1)=P at*;generalize dgt zs (i+1)=a at*;generalize dgt ys (i+1)=b at*;rw[vz,vy];have key:∀{p q a b:Nat},p<P→a<b→p+P*(a+B32*R)<q+P*(b+B32*R):=by
    intro p q a b h1 h2;have:P*((a+B32*R)+1)≤P*(b+B32*R):=aT _ (by omega);rw[bA P (a+B32*R) 1]at this;omega
   by_cases hl:a<b
   ·rw[ew hl,ew (key lz hl)];rfl
   ·have hgt:b<a:=by omega
    have:=key (q:=p) ly hgt;rw[fE hl,fE (by omega)];rfl
theorem Ii{φ n m:Nat}{xs ys:List Nat}{e1 e2:Bool}(hx:xs.length=n)(hy:ys.length=m)(sx:Sm B32 xs)(sy:Sm B32 ys)(ty:Tm ys)(hn:n≤100000000000)(hm:m≤100000000000)(hφ:n+m+2<φ):
 o9 φ [.tree (c64 xs) n e1,.tree (c64 ys) m e2]=some (.b (Nat.blt (vl B32 xs) (vl B32 ys))):=by
 unfold o9;dsimp only[eV,eY];unfold kT;dsimp only[eV,eY];obtain⟨zs,e3,k1,k2,k3,k4,k5⟩:=Gr (φ:=φ) (s:=s0) (K:=λx3 s=>ek x3 s λx4 s=>ek (.tree (c64 ys) m e2) s λx5 s=>nC x4 x5 λx6=>eQ x6
  (ek x3 s λx7 s=>ek (.tree (c64 ys) m e2) s λx8 s=>fN x7 x8 λx9=>eW false s x9 some)
  (ek x3 s λx10 s=>fA x10 (.i .i64 (.ofNat 1)) λx11=>lp (λ(_ _ _:D)(_:LS)=>none) (pT φ) φ x3 (.tree (c64 ys) m e2) x11 s)) n φ xs e1 hx sx (by omega) (by omega)
 refine th k5 (th fO (th fO ?_));rw[←k3];by_cases he:zs.length=m
 ·refine th (pH he) (th eP (th fO ?_));rw[he];cases m with
  |zero=>
   obtain⟨φ,rfl⟩:∃q,φ=q+1:=⟨φ-1,by omega⟩
   have h1:zs=[]:=ao he;have h2:ys=[]:=ao hy;subst h1;subst h2;refine th (nk (by omega) (by omega)) ?_;rw[eM];exact th ol (th eP rfl)
  |succ m=>
   refine th (gW) ?_;rw[a8];exact K3 k2 sy he hy (by omega) m φ (by omega) (by omega) (by rw[bf (by omega),bf (by omega)])
 ·refine th (rv he) (th eO (th fO (th fO (th kE ?_))));by_cases hl:zs.length<m
  ·rw[ew hl,ew (EG k2 ty (by omega))];rfl
  ·have:=EG sy k1 (show ys.length<zs.length by omega);rw[fE hl,fE (by omega)];rfl
theorem WK{ys:List Nat}(h:ys.getLast?≠some 0):Tm ys:=λw hw e=>h (by rw[hw,e])
theorem G9{as:List D}{r:D}(h:uD as=some r):∃φ,o9 φ as=some r:=by
 unfold uD at h;split at h
 ·split at h
  ·rename_i h1 h2;split at h
   ·rename_i hc;obtain⟨rfl,hs1⟩:=zE h1;obtain⟨rfl,hs2⟩:=zE h2;obtain⟨c1,c2,c3,c4,c5⟩:=hc;exact⟨_,by rw[Ii c1 c2 hs1 hs2 (WK c5) c3 c4 (cR _)];exact h⟩
   ·cases h
  ·cases h
 ·cases h
theorem Ih{n m:Nat}{xs ys:List Nat}{e1 e2:Bool}(hx:xs.length=n)(hy:ys.length=m)(sx:Sm B32 xs)(sy:Sm B32 ys)(ty:Tm ys)(hn:n≤100000000000)(hm:m≤100000000000):
 uD [.tree (c64 xs) n e1,.tree (c64 ys) m e2]=some (.b (Nat.blt (vl B32 xs) (vl B32 ys))):=by
 unfold uD;simp only[AC sx,AC sy];rw[aC ⟨hx,hy,hn,hm,λe=>ty _ e rfl⟩]
theorem Gm{B:Nat}:∀{ws:List Nat},(∀t,dgt ws t=0)→vl B ws=0
 |[],_=>rfl
 |w::ws,h=>by
  have h0:w=0:=h 0;have:=Gm (B:=B) (ws:=ws) (λt=>h (t+1));show w+B*vl B ws=0;rw[h0,this];simp
theorem Rt{ws:List Nat}{i t:Nat}:dgt (ws.drop i) t=dgt ws (i+t):=by
 unfold dgt;rw[aD,aD,bw]
theorem Uz{z p B:Nat}(hz:z<B)(hp:p≤(B-1)*(B-1)+(B-1))(hB:0<B):∃z' c',z'<B∧c'<B∧z'+p=z+c'*B∧(z<p%B→z'=z+B-p%B∧c'=p/B+1)∧(¬z<p%B→z'=z-p%B∧c'=p/B):=by
 have hm:=bc p hB;have hd:=dE p B;have key:∀z' c',z'<B→z'+p=z+c'*B→c'<B:=by
  intro z' c' h1 h2;rcases az c' B with h|h
  ·exact h
  ·exfalso;have h3:B*B≤c'*B:=aL _ h;have h4:(B-1)*(B-1)+(B-1)=(B-1)*B:=by rw[←Nat.mul_succ];congr 1;omega
   have h5:(B-1)*B=B*B-B:=by rw[z2e,bG]
   have h6:B≤B*B:=z1s _ hB;omega
 by_cases h:z<p%B
 ·have e:(z+B-p%B)+p=z+(p/B+1)*B:=by
   rw[aS,bG,aK (p/B) B];omega
  exact⟨z+B-p%B,p/B+1,by omega,key _ _ (by omega) e,e,λ_=>⟨rfl,rfl⟩,λh'=>absurd h h'⟩
 ·have e:(z-p%B)+p=z+(p/B)*B:=by
   rw[aK (p/B) B];omega
  exact⟨z-p%B,p/B,by omega,key _ _ (by omega) e,e,λh'=>absurd h' h,λ_=>⟨rfl,rfl⟩⟩
theorem ZP{φ k g n N V:Nat}{Y R Q:D}{ys:List Nat}{q23:D→D→D→D→D→LS→Rs}(hys:Sm B32 ys)(hyl:ys.length=n)(hg:g<B32)(hkn:k+n<N)(hN:N≤100000001)(hV:g*vl B32 ys*B32^k≤V)(dY:Dis Y R)(dQ:Dis Q R):∀(j i f:Nat)(bs:List Blk)(rs qs:List Nat)(c nq:Nat),
 WS 1 bs Y (c64 ys) n→WS 1 bs R (c64 rs) N→WS 1 bs Q (c64 qs) nq→Sm B32 rs→c<B32→vl B32 rs+g*vl B32 (ys.take i)*B32^k=V+c*B32^(k+i)→(∀t,k+n<t→dgt rs t=0)→i+j=n→j+1<f→
 ∃bs' rs',WS 1 bs' Y (c64 ys) n∧WS 1 bs' R (c64 rs') N∧WS 1 bs' Q (c64 qs) nq∧Sm B32 rs'∧vl B32 rs'+g*vl B32 ys*B32^k=V∧
 lp (λ(_ _ _ _ _ _ _ _:D)(_:LS)=>none) (gm φ q23) f Y (.i .i64 (.ofNat n)) R Q (.i .i64 (.ofNat k)) (.i .u64 (.ofNat g)) (.i .u64 (.ofNat c)) (.i .i64 (.ofNat i)) (mem bs)=q23 Y (.i .i64 (.ofNat n)) R Q (.i .i64 (.ofNat k)) (mem bs'):=by
 intro j
 induction j with
 |zero=>
  intro i f bs rs qs c nq aY aR aQ hs hc hv hz hk hf;obtain⟨f,rfl⟩:∃q,f=q+1:=⟨f-1,by omega⟩
  have hrl:=ic aR;rw[fT]at hrl;have hi:i=n:=by omega
  subst hi;rw[aM (by omega)]at hv;have hge:c≤dgt rs (k+i):=by
   have h1:=(vd rs (k+i)).resolve_right (by omega);have h2:vl B32 (rs.drop (k+i+1))=0:=Gm (λt=>by rw[Rt];exact hz _ (by omega));have h3:=uQ (sN (n:=k+i) hs);rw[aZ,bS (by omega)]at h3;rw[h2,dG,bH]at h1;rcases az (dgt rs (k+i)) c with h|h
   ·exfalso;have h4:B32^(k+i)*(dgt rs (k+i)+1)≤B32^(k+i)*c:=aT _ h;rw[bA,aj]at h4;rw[aK c]at hv;omega
   ·exact h
  have d1:dgt rs (k+i)<4294967296:=jY hs (by decide) _;obtain⟨b2,g1,g2,g3,g4⟩:=vc (w:=dgt rs (k+i)-c) (i:=k+i) (kk:=.i64) (K:=λ_ s=>q23 Y (.i .i64 (.ofNat i)) R Q (.i .i64 (.ofNat k)) s) aR (by omega);refine⟨b2,_,g3 _ _ _ _ aY dY,g1,g3 _ _ _ _ aQ dQ,od hs (show _<4294967296 by omega),?_,?_⟩
  ·have h1:=sK (B:=B32) (dgt rs (k+i)-c) (lR (show k+i<rs.length by omega));generalize dgt rs (k+i)=d at*;generalize B32^(k+i)=P at*;have h2:(d-c)*P+c*P=d*P:=by rw[←aS,Nat.sub_add_cancel hge]
   omega
  ·rw[eM];unfold gm;refine th (gA) (th eP (th (fH) (th (fH) (th (qk aR (lR (by omega))) (th (wv hge) ?_)))));exact g4
 |succ j ih=>
  intro i f bs rs qs c nq aY aR aQ hs hc hv hz hk hf;obtain⟨f,rfl⟩:∃q,f=q+1:=⟨f-1,by omega⟩
  have hrl:=ic aR;rw[fT]at hrl;have d1:dgt rs (k+i)<4294967296:=jY hs (by decide) _;have d2:dgt ys i<4294967296:=jY hys (by decide) _;have d3:g<4294967296:=hg;have d4:c<4294967296:=hc;have hm1:dgt ys i*g≤4294967295*4294967295:=cA (by omega) (by omega);have hp:dgt ys i*g+c≤(B32-1)*(B32-1)+(B32-1):=by show _≤(4294967296-1)*(4294967296-1)+(4294967296-1);omega
  have hzr:=lR (show k+i<rs.length by omega);obtain⟨z',c',u1',u2',u3',u4,u5⟩:=Uz (z:=dgt rs (k+i)) (B:=B32) d1 hp (by decide);have hnew:vl B32 (rs.set (k+i) z')+g*vl B32 (ys.take (i+1))*B32^k=V+c'*B32^(k+(i+1)):=by
   have h1:=sK (B:=B32) z' hzr;rw[zB,←cy,ax];rw[bX]at hv h1 ⊢;generalize vl B32 (rs.set (k+i) z')=v1 at*;generalize vl B32 rs=v0 at*;generalize vl B32 (ys.take i)=vy at*;generalize dgt rs (k+i)=z at*;generalize dgt ys i=y at*;generalize B32^k=P at*;generalize B32^i=Q at*;generalize B32=B at*;have h2:(z'+(y*g+c))*(P*Q)=(z+c'*B)*(P*Q):=by rw[u3']
   grind
  rw[eM];unfold gm;have hpp:dgt ys i*g+c<18446744073709551616:=by omega
  generalize hP:dgt ys i*g+c=p at*;by_cases hb:dgt rs (k+i)<p%B32
  ·obtain⟨e1,e2⟩:=u4 hb;have hz4:dgt rs (k+i)+4294967296<18446744073709551616:=by omega
   obtain⟨b1,a1,a2,a3,a4⟩:=vc (w:=dgt rs (k+i)+4294967296) (i:=k+i) (kk:=.i64) (K:=λ_ s=>eZ (.i .u64 (.ofNat (p/4294967296))) (.i .u64 (.ofNat 1)) λx95=>
    (λ(x67 x68 x69 x70 x71 x72 x73 x74 x75:D)(s:LS)=>
     eZ x71 x74 λx76=>eZ x71 x74 λx77=>eJ 1 s x69 x77 λx78 s=>eK s x78 λx79 s=>v7 x75 (.i .u64 (.ofNat 4294967295)) λx80=>fA x79 x80 λx81=>eJ 1 s x69 x76 λx82 s=>eU 1 s x82 x81 λ_ s=>
     eZ x74 (.i .i64 (.ofNat 1)) λx83=>lp (λ(_ _ _ _ _ _ _ _:D)(_:LS)=>none) (gm φ q23) f x67 x68 x69 x70 x71 x72 x73 x83 s) Y (.i .i64 (.ofNat n)) R Q (.i .i64 (.ofNat k)) (.i .u64 (.ofNat g)) x95 (.i .i64 (.ofNat i)) (.i .u64 (.ofNat p)) s) aR (show k+i<N by omega)
   obtain⟨b2,g1,g2,g3,g4⟩:=vc (w:=dgt rs (k+i)+4294967296-p%4294967296) (i:=k+i) (kk:=.i64) (K:=λ_ s=>eZ (.i .i64 (.ofNat i)) (.i .i64 (.ofNat 1)) λx83=>lp (λ(_ _ _ _ _ _ _ _:D)(_:LS)=>none) (gm φ q23) f Y (.i .i64 (.ofNat n)) R Q (.i .i64 (.ofNat k)) (.i .u64 (.ofNat g)) (.i .u64 (.ofNat c')) x83 s) a1 (show k+i<N by omega);rw[z28]at g1;have ez:dgt rs (k+i)+4294967296-p%4294967296=z':=e1.symm;rw[ez]at g1 g4;obtain⟨bs',rs',k1,k2,k3,k4,k5,k6⟩:=ih (i+1) f b2 _ qs c' nq (g3 _ _ _ _ (a3 _ _ _ _ aY dY) dY) g1 (g3 _ _ _ _ (a3 _ _ _ _ aQ dQ) dQ) (od hs u1') u2' hnew (λt ht=>by rw[AA (by omega)];exact hz t ht) (by omega) (by omega);refine⟨bs',rs',k1,k2,k3,k4,k5,?_⟩;refine th (fe) (th eO (th (qk aY (lR (by omega))) (th (Ce (by omega)) (th (uT (by omega)) ?_))));rw[hP];refine th CM (th om (th (fH) (th (qk aR hzr) (th (BA hpp) (th (fe hb) (th eO (th (fH) (th (fH) (th (qk aR hzr) (th (uT hz4) (th a4 (th (uT (by omega)) (th (fH) (th (fH) ?_))))))))))))));rw[show p/4294967296+1=c' from e2.symm];refine th (qk a1 (w:=dgt rs (k+i)+4294967296) (by rw[a7 (by omega)])) (th (BA hpp) (th (wv (by omega) hz4) ?_));rw[ez];exact th g4 (th (fH) k6)
  ·obtain⟨e1,e2⟩:=u5 hb;obtain⟨b2,g1,g2,g3,g4⟩:=vc (w:=z') (i:=k+i) (kk:=.i64) (K:=λ_ s=>eZ (.i .i64 (.ofNat i)) (.i .i64 (.ofNat 1)) λx83=>lp (λ(_ _ _ _ _ _ _ _:D)(_:LS)=>none) (gm φ q23) f Y (.i .i64 (.ofNat n)) R Q (.i .i64 (.ofNat k)) (.i .u64 (.ofNat g)) (.i .u64 (.ofNat c')) x83 s) aR (show k+i<N by omega);obtain⟨bs',rs',k1,k2,k3,k4,k5,k6⟩:=ih (i+1) f b2 _ qs c' nq (g3 _ _ _ _ aY dY) g1 (g3 _ _ _ _ aQ dQ) (od hs u1') u2' hnew (λt ht=>by rw[AA (by omega)];exact hz t ht) (by omega) (by omega);refine⟨bs',rs',k1,k2,k3,k4,k5,?_⟩;refine th (fe) (th eO (th (qk aY (lR (by omega))) (th (Ce (by omega)) (th (uT (by omega)) ?_))));rw[hP];refine th CM (th om (th (fH) (th (qk aR hzr) (th (BA hpp) (th (gA hb) (th eP (th (fH) (th (fH) ?_))))))));rw[show p/4294967296=c' from e2.symm];refine th (qk aR hzr) (th (BA hpp) (th (wv (Nat.le_of_not_lt hb) (by omega)) ?_));rw[show dgt rs (k+i)-p%4294967296=z' from e1.symm];exact th g4 (th (fH) k6)
theorem Yy{a b:Nat}{s:LS}{K:D→LS→Rs}:kS (.max (.c (.i .u64 (.ofNat a))) (.c (.i .u64 (.ofNat b)))) s K=K (.i .u64 (.ofNat (max a b))) s:=Hf
theorem Qr{b:Bool}{s:LS}{K:D→LS→Rs}:qP (.b b) s K=K (.b (!b)) s:=by cases b<;>rfl
theorem RX{rs ys:List Nat}{k n:Nat}(hn:0<n)(hyl:ys.length=n)(hrl:k+n<rs.length)(sy:Sm B32 ys)(hge:vl B32 ys≤vl B32 (rs.drop k)):
 max 1 ((dgt rs (k+n)*4294967296+dgt rs (k+n-1))/(dgt ys (n-1)+1))*(vl B32 ys*B32^k)≤vl B32 rs:=by
 have hsp:=(ri (B:=B32) (rs.take k) (rs.drop k))
 rw[c7,aZ,bS (by omega)]at hsp;generalize hG:(dgt rs (k+n)*4294967296+dgt rs (k+n-1))/(dgt ys (n-1)+1)=G;have h1:1*(vl B32 ys*B32^k)≤vl B32 rs:=by
  have:=aL (B32^k) hge;rw[hsp,bG,aK (B32^k)];omega
 have h2:G*(vl B32 ys*B32^k)≤vl B32 rs:=by
  obtain⟨m,rfl⟩:∃m,n=m+1:=⟨n-1,by omega⟩
  rw[show k+(m+1)-1=k+m by omega,a8]at hG;have hy:=(vd ys m).resolve_right (by omega);rw[bf (show ys.length≤m+1 by omega)]at hy;have hyt:=uQ (sN (n:=m) sy);rw[aZ,bS (by omega)]at hyt;have hr:=(vd rs (k+m)).resolve_right (by omega);rw[qY rs (k+m+1)]at hr;rw[show k+(m+1)=k+m+1 by omega]at hG;have hdiv:=dF (dgt rs (k+m+1)*4294967296+dgt rs (k+m)) (dgt ys m+1);rw[hG]at hdiv;have hy2:vl B32 ys≤B32^m*(dgt ys m+1):=by rw[hy,show B32*vl B32 ([]:List Nat)=0 from rfl,bH,bA (B32^m) (dgt ys m) 1,aj];omega
  have h3:G*(vl B32 ys*B32^k)≤G*(B32^m*(dgt ys m+1)*B32^k):=aT _ (aL _ hy2);have h4:G*(B32^m*(dgt ys m+1)*B32^k)=G*(dgt ys m+1)*B32^(k+m):=by
   rw[bX];generalize B32^m=P;generalize B32^k=Q;grind
  have h5:G*(dgt ys m+1)*B32^(k+m)≤(dgt rs (k+m+1)*4294967296+dgt rs (k+m))*B32^(k+m):=aL _ hdiv;have h6:(dgt rs (k+m+1)*4294967296+dgt rs (k+m))*B32^(k+m)≤vl B32 rs:=by
   rw[hr,aK];have h7:B32^(k+m)*(dgt rs (k+m+1)*4294967296+dgt rs (k+m))≤B32^(k+m)*(dgt rs (k+m)+B32*(dgt rs (k+m+1)+B32*vl B32 (rs.drop (k+m+1+1)))):=by
    refine aT _ ?_;rw[bA B32,aK B32 (dgt rs (k+m+1))];show dgt rs (k+m+1)*B32+_≤_;omega
   omega
  omega
 rcases Nat.le_total 1 G with h|h
 ·rw[z1y h];exact h2
 ·rw[Nat.max_eq_left h];exact h1
theorem Rq{ws:List Nat}{m t:Nat}(h:vl B32 ws<B32^m)(ht:m≤t):dgt ws t=0:=by
 by_cases hl:t<ws.length
 ·have h1:=(vd ws t).resolve_right (by omega);rcases bQ (dgt ws t)with h0|h0
  ·exact h0
  ·exfalso;have h2:B32^m≤B32^t:=bg (by decide) ht;have h3:B32^t*1≤B32^t*(dgt ws t+B32*vl B32 (ws.drop (t+1))):=aT _ (by omega);omega
 ·exact VD (by omega)
theorem Rm{φ k n N a V0:Nat}{Y R Q:D}{ys:List Nat}{nq:Nat}{q16:D→D→D→D→D→LS→Rs}(hn:0<n)(sy:Sm B32 ys)(ty:Tm ys)(hyl:ys.length=n)(hkn:k+n<N)(hN:N≤100000001)(hk:k<nq)(dY:Dis Y R)(dQ:Dis Q R)(dY':Dis Y Q)(dR':Dis R Q)(hφ:1000000000≤φ)(hV0:V0<vl B32 ys*B32^(k+1)):∀(u f:Nat)(bs:List Blk)(rs qs:List Nat),
 WS 1 bs Y (c64 ys) n→WS 1 bs R (c64 rs) N→WS 1 bs Q (c64 qs) nq→Sm B32 rs→Sm B32 qs→vl B32 rs+vl B32 qs*vl B32 ys=a→vl B32 rs+dgt qs k*(vl B32 ys*B32^k)=V0→(∀t,t<k→dgt qs t=0)→B32≤dgt qs k+u→u+1<f→
 ∃bs' rs' qs',WS 1 bs' Y (c64 ys) n∧WS 1 bs' R (c64 rs') N∧WS 1 bs' Q (c64 qs') nq∧Sm B32 rs'∧Sm B32 qs'∧vl B32 rs'+vl B32 qs'*vl B32 ys=a∧vl B32 rs'<vl B32 ys*B32^k∧(∀t,t<k→dgt qs' t=0)∧
 lp (λ(_ _ _ _ _:D)(_:LS)=>none) (jS φ q16) f Y (.i .i64 (.ofNat n)) R Q (.i .i64 (.ofNat k)) (mem bs)=fA (.i .i64 (.ofNat k)) (.i .i64 (.ofNat 1)) λx102=>q16 Y (.i .i64 (.ofNat n)) R Q x102 (mem bs'):=by
 intro u;have hy0:0<vl B32 ys:=by
  have h2:=yK (B:=B32) ty (by intro e;rw[e]at hyl;simp at hyl;omega);have:0<B32^(ys.length-1):=bN (by decide);omega
 have hyk:0<vl B32 ys*B32^k:=co hy0 (bN (by decide))
 induction u with
 |zero=>
  intro f bs rs qs aY aR aQ sr sq h1 h2 h3 h4 h5;exfalso;have:=jY sq (by decide) k;omega
 |succ u ih=>
  intro f bs rs qs aY aR aQ sr sq h1 h2 h3 h4 h5;obtain⟨f,rfl⟩:∃q,f=q+1:=⟨f-1,by omega⟩
  have hrl:=ic aR;have hql:=ic aQ;rw[fT]at hrl hql;have hbel:∀ex ex',uD [.tree (c64 (rs.drop k)) (N-k) ex,.tree (c64 ys) n ex']=some (.b (Nat.blt (vl B32 (rs.drop k)) (vl B32 ys))):=λex ex'=>Ih (by rw[dJ];omega) hyl (TJ sr) sy ty (by omega) (by omega);by_cases hlt:vl B32 (rs.drop k)<vl B32 ys
  ·refine⟨bs,rs,qs,aY,aR,aQ,sr,sq,h1,?_,h3,?_⟩
   ·have hsp:=(ri (B:=B32) (rs.take k) (rs.drop k))
    have hl:=uQ (sN (n:=k) sr);rw[aZ,bS (by omega)]at hl;rw[c7,aZ,bS (by omega)]at hsp;have:(vl B32 (rs.drop k)+1)*B32^k≤vl B32 ys*B32^k:=aL _ hlt;rw[aS,bG,aK]at this;omega
   ·rw[eM];unfold jS;refine th (Ly aR aY (by omega) hbel rfl) (th Qr ?_);rw[ew hlt];rfl
  ·have hge:vl B32 ys≤vl B32 (rs.drop k):=by omega
   have hgl:=RX (k:=k) hn hyl (by omega) sy hge;have d1:dgt rs (k+n)<4294967296:=jY sr (by decide) _;have d2:dgt rs (k+n-1)<4294967296:=jY sr (by decide) _;have d3:dgt ys (n-1)<4294967296:=jY sy (by decide) _;generalize hG:max 1 ((dgt rs (k+n)*4294967296+dgt rs (k+n-1))/(dgt ys (n-1)+1))=G at*;have hG1:1≤G:=by rw[←hG];exact Nat.le_max_left _ _
   have hqG:dgt qs k+G<B32:=by
    rcases az (dgt qs k+G) B32 with h|h
    ·exact h
    ·exfalso;have e1:B32*(vl B32 ys*B32^k)≤(dgt qs k+G)*(vl B32 ys*B32^k):=aL _ h;rw[aS]at e1;rw[ax]at hV0;have e2:vl B32 ys*(B32^k*B32)=B32*(vl B32 ys*B32^k):=by rw[←aa,aK]
     omega
   have hqG':dgt qs k+G<4294967296:=hqG;have hGB:G<B32:=by show G<4294967296;omega
   obtain⟨b1,g1,g2,g3,g4⟩:=vc (w:=dgt qs k+G) (i:=k) (kk:=.i64) (K:=λ_ s=>lp (λ(_ _ _ _ _ _ _ _:D)(_:LS)=>none) (gm φ (lp (λ(_ _ _ _ _:D)(_:LS)=>none) (jS φ q16) f)) φ Y (.i .i64 (.ofNat n)) R Q (.i .i64 (.ofNat k)) (.i .u64 (.ofNat G)) (.i .u64 (.ofNat 0)) (.i .i64 (.ofNat 0)) s) aQ hk;have hrlt:vl B32 rs<B32^(k+n+1):=by
    have e1:=uQ sy;rw[hyl]at e1;have e2:vl B32 ys*B32^(k+1)≤B32^n*B32^(k+1):=aL _ (by omega);rw[←bX,show n+(k+1)=k+n+1 by omega]at e2;omega
   obtain⟨b2,rs2,k1,k2,k3,k4,k5,k6⟩:=ZP (φ:=φ) (k:=k) (g:=G) (N:=N) (V:=vl B32 rs) (q23:=lp (λ(_ _ _ _ _:D)(_:LS)=>none) (jS φ q16) f) sy hyl hGB hkn hN (by rw[aa];exact hgl) dY dQ n 0 φ b1 rs (qs.set k (dgt qs k+G)) 0 nq (g3 _ _ _ _ aY dY') (g3 _ _ _ _ aR dR') g1 sr (by decide) (by simp[vl]) (λt ht=>Rq hrlt (by omega)) (by omega) (by omega);have hqk:=lR (show k<qs.length by omega);have hvq:=sK (B:=B32) (dgt qs k+G) hqk;have hdk:dgt (qs.set k (dgt qs k+G)) k=dgt qs k+G:=Rr (by rw[a7 (by omega)]);obtain⟨bs',rs',qs',m1,m2,m3,m4,m5,m6,m7,m8,m9⟩:=ih f b2 rs2 (qs.set k (dgt qs k+G)) k1 k2 k3 k4 (od sq hqG) (by
    rw[aS]at hvq;have e3:vl B32 (qs.set k (dgt qs k+G))=vl B32 qs+G*B32^k:=by omega
    rw[e3,aS,←h1,←k5,aa,aK (B32^k),←aa G];omega) (by
    rw[hdk,aS,←h2,←k5,←aa G];omega) (λt ht=>by rw[AA (by omega)];exact h3 t ht) (by rw[hdk];omega) (by omega)
   refine⟨bs',rs',qs',m1,m2,m3,m4,m5,m6,m7,m8,?_⟩;rw[eM];unfold jS;refine th (Ly aR aY (by omega) hbel rfl) (th Qr ?_);rw[fE hlt];refine th eO (th (fH) (th (qk aR (lR (by omega))) (th (Y0 d1) (th (fH) (th (gW) (th (qk aR (lR (by omega))) (th (uT (by omega)) (th (gW) (th (qk aY (lR (by omega))) (th (uT (by omega)) (th (LG (by omega) (by omega)) (th Yy ?_))))))))))));rw[hG];refine th (qk aQ hqk) (th (uT (by omega)) (th g4 (th k6 m9)))
theorem Rn{φ N nq:Nat}{Y R Q n x:D}{bs:List Blk}{rs qs:List Nat}{q16:D→D→D→D→D→LS→Rs}(aR:WS 1 bs R (c64 rs) N)(aQ:WS 1 bs Q (c64 qs) nq)(sr:Sm B32 rs)(sq:Sm B32 qs)(hN:N≤100000001)(hq:nq≤100000001)(hx:∀k,kI x (.i .i64 (.ofNat 0)) k=k (.b false)):
 gC φ q16 Y n R Q x (mem bs)=some (.tup [.n (vl B32 qs),.n (vl B32 rs)]):=by
 have hrl:=ic aR;have hql:=ic aQ;rw[fT]at hrl hql;unfold gC;exact th (hx _) (th eP (th (xw aQ (λex=>tJ sq (by omega) (by omega)) rfl) (th (xw aR (λex=>tJ sr (by omega) (by omega)) rfl) rfl)))
theorem Xo{φ n N a:Nat}{Y R Q:D}{ys:List Nat}{nq:Nat}(hn:0<n)(sy:Sm B32 ys)(ty:Tm ys)(hyl:ys.length=n)(hN:N≤100000001)(hq:nq+n=N)(dY:Dis Y R)(dQ:Dis Q R)(dY':Dis Y Q)(dR':Dis R Q)(hφ:5000000000≤φ):∀(k f:Nat)(bs:List Blk)(rs qs:List Nat),
 WS 1 bs Y (c64 ys) n→WS 1 bs R (c64 rs) N→WS 1 bs Q (c64 qs) nq→Sm B32 rs→Sm B32 qs→vl B32 rs+vl B32 qs*vl B32 ys=a→vl B32 rs<vl B32 ys*B32^(k+1)→(∀t,t<k+1→dgt qs t=0)→k<nq→k+2<f→
 lp (λ(_ _ _ _ _:D)(_:LS)=>none) (gC φ) f Y (.i .i64 (.ofNat n)) R Q (.i .i64 (.ofNat k)) (mem bs)=some (.tup [.n (a/vl B32 ys),.n (a%vl B32 ys)]):=by
 intro k
 induction k with
 |zero=>
  intro f bs rs qs aY aR aQ sr sq h1 h2 h3 h4 h5;obtain⟨f,rfl⟩:∃q,f=q+2:=⟨f-2,by omega⟩
  obtain⟨bs',rs',qs',m1,m2,m3,m4,m5,m6,m7,m8,m9⟩:=Rm (φ:=φ) (k:=0) (N:=N) (nq:=nq) (q16:=lp (λ(_ _ _ _ _:D)(_:LS)=>none) (gC φ) (f+1)) hn sy ty hyl (by omega) hN h4 dY dQ dY' dR' (by omega) h2 B32 φ bs rs qs aY aR aQ sr sq h1 (by rw[h3 0 (by omega)];simp) (λt ht=>by omega) (z2a _ _) (by show 4294967296+1<φ;omega);rw[eM];unfold gC;refine th (qR (by omega)) (th eO (th m9 (th (nk (by omega) (by omega)) ?_)));rw[eM];refine th (Rn m2 m3 m4 m5 hN (by omega) (λk=>ol)) ?_;rw[ck,aj]at m7;have e1:a/vl B32 ys=vl B32 qs':=by
   rw[←m6,aK,z1E _ _ (by omega),cL m7,aV]
  have e2:a%vl B32 ys=vl B32 rs':=by
   rw[←m6,Nat.add_mul_mod_self_right,bL m7]
  rw[e1,e2]
 |succ k ih=>
  intro f bs rs qs aY aR aQ sr sq h1 h2 h3 h4 h5;obtain⟨f,rfl⟩:∃q,f=q+1:=⟨f-1,by omega⟩
  obtain⟨bs',rs',qs',m1,m2,m3,m4,m5,m6,m7,m8,m9⟩:=Rm (φ:=φ) (k:=k+1) (N:=N) (nq:=nq) (q16:=lp (λ(_ _ _ _ _:D)(_:LS)=>none) (gC φ) f) hn sy ty hyl (by omega) hN h4 dY dQ dY' dR' (by omega) h2 B32 φ bs rs qs aY aR aQ sr sq h1 (by rw[h3 (k+1) (by omega)];simp) (λt ht=>h3 t (by omega)) (z2a _ _) (by show 4294967296+1<φ;omega);rw[eM];unfold gC;refine th (qR (by omega)) (th eO (th m9 (th (gW) ?_)));rw[a8];exact ih f bs' rs' qs' m1 m2 m3 m4 m5 m6 m7 m8 (by omega) (by omega)
theorem Q9{a b:Nat}{s:LS}{K:D→LS→Rs}(ha:a<4611686018427387904)(hb:b<4611686018427387904):(fA (.i .i64 (.ofNat a)) (.i .i64 (.ofNat b)) λx=>eZ x (.i .i64 (.ofNat 1)) λx=>kS (.max (.c (.i .i64 (.ofNat 0))) (.c x)) s K)=K (.i .i64 (.ofNat (a+1-b))) s:=by
 by_cases h:b≤a
 ·rw[oi h (by show a≤9223372036854775807;omega),fH,Hf,z1y (a9 _),show a-b+1=a+1-b by omega]
 ·rw[nk h hb];obtain⟨c,hc⟩:∃c,b-a-1=c:=⟨_,rfl⟩
  rw[hc];have:∀k,eZ (.i .i64 (.negSucc c)) (.i .i64 (.ofNat 1)) k=k (.i .i64 (-(c:Int))):=by
   intro k;show fc .add (.i .i64 (.negSucc c)) (.i .i64 (.ofNat 1)) k=_;unfold fc;rw[show bin .add (.i .i64 (.negSucc c)) (.i .i64 (.ofNat 1))=some (.i .i64 (-(c:Int)))from ?_,gV]
   ·rfl
   ·show some (D.i .i64 (IntKind.wrap .i64 ((Int.negSucc c)+(Int.ofNat 1))))=_;have e:(Int.negSucc c)+(Int.ofNat 1)= -(c:Int):=by
     show(Int.negSucc c)+((1:Nat):Int)=_;rw[dj];omega
    rw[e,IntWalk.i64_in _ (by omega)]
  rw[this,Qa,aF (by show ¬(0:Int)< -(c:Int);omega),show a+1-b=0 by omega]
theorem YD{z n:Nat}{bs bs':List Blk}{X O:D}{cs:List D}(hA:AS z bs X cs n)(hk:∀l b,bs[l]?=some b→bs'[l]?=some b∧jg O l):AS z bs' X cs n∧Dis X O:=by
 cases hA with
 |nil=>exact⟨AS.nil,λl o n m z e h=>by cases h⟩
 |blk h hc=>exact⟨AS.blk (hk _ _ h).1 hc,λl o n m z e he=>by cases he;exact(hk _ _ h).2⟩
theorem GE{a b:Nat}{k:D→Rs}:iB (.n a) (.n b) k=k (.b (Nat.beq a b)):=by
 show fc .eql (.n a) (.n b) k=_;unfold fc;rw[gV];rfl
theorem GV{φ x y:Nat}(hx:Nat.log2 x≤1000000000)(hy:Nat.log2 y≤1000000000)(hφ:5000000000≤φ):oM φ [.n x,.n y]=some (.tup [.n (x/y),.n (if y=0 then 0 else x%y)]):=by
 unfold oM;dsimp only[eV,eY];rw[←fw];refine th GE ?_;by_cases h0:y=0
 ·subst h0;rw[aC rfl,Nat.div_zero];rfl
 rw[aF h0,gR h0];refine th eP ?_;obtain⟨b1,X,h1,h2,h3⟩:=sB (bs:=[]) (K:=λx4 s=>eS qN [.n y] s λx5 s=>ek x5 s λx6 s=>ie 1 [(.i .u64 (.ofNat 0))] [(0,1,(.i .u64 (.ofNat 0)))] s λx7 s=>kJ 1 8 s x4 x7 λx8 s=>ek x4 s λx9 s=>fA x9 x6 λx10=>eZ x10 (.i .i64 (.ofNat 1)) λx11=>kS (.max (.c (.i .i64 (.ofNat 0))) (.c x11)) s λx12 s=>ku 1 8 [(.i .u64 (.ofNat 0))] s x12 x12 λx13 s=>ek x13 s λx14 s=>fA x14 (.i .i64 (.ofNat 1)) λx15=>lp (λ(_ _ _ _ _:D)(_:LS)=>none) (gC φ) φ x5 x6 x8 x13 x15 s) hx;refine th h3 ?_;obtain⟨b2,Y,g1,g2,g3⟩:=sB (bs:=b1) (K:=λx5 s=>ek x5 s λx6 s=>ie 1 [(.i .u64 (.ofNat 0))] [(0,1,(.i .u64 (.ofNat 0)))] s λx7 s=>kJ 1 8 s X x7 λx8 s=>ek X s λx9 s=>fA x9 x6 λx10=>eZ x10 (.i .i64 (.ofNat 1)) λx11=>kS (.max (.c (.i .i64 (.ofNat 0))) (.c x11)) s λx12 s=>ku 1 8 [(.i .u64 (.ofNat 0))] s x12 x12 λx13 s=>ek x13 s λx14 s=>fA x14 (.i .i64 (.ofNat 1)) λx15=>lp (λ(_ _ _ _ _:D)(_:LS)=>none) (gC φ) φ x5 x6 x8 x13 x15 s) hy;refine th g3 ?_;have l1:=ya hx;have l2:=ya hy;have vx:=vo (B:=B32) (by decide) x;have vy:=vo (B:=B32) (by decide) y;have sx:=yN (B:=B32) (by decide) x;have sy:=yN (B:=B32) (by decide) y;have tx:=Hl (B:=B32) (by decide) x;have ty:=Hl (B:=B32) (by decide) y;have hXlen:∀(K:D→LS→Rs) s,ek X s K=K (.i .i64 (.ofNat (lm B32 x).length)) s:=λ_ _=>K4 h1;obtain⟨aX,dXY⟩:=YD h1 g2;have dYX:Dis Y X:=λl o n m z e he o' n' m' z' e' he'=>dXY _ _ _ _ _ _ he' _ _ _ _ _ he;generalize hnx:(lm B32 x).length=nx at*;generalize hny:(lm B32 y).length=ny at*;generalize lm B32 x=xs at*;generalize lm B32 y=ys at*;refine th (K4 g1) ?_;obtain⟨b3,R,r1,r2,r3⟩:=ap1 (K:=λx8 s=>ek X s λx9 s=>fA x9 (.i .i64 (.ofNat ny)) λx10=>eZ x10 (.i .i64 (.ofNat 1)) λx11=>kS (.max (.c (.i .i64 (.ofNat 0))) (.c x11)) s λx12 s=>ku 1 8 [(.i .u64 (.ofNat 0))] s x12 x12 λx13 s=>ek x13 s λx14 s=>fA x14 (.i .i64 (.ofNat 1)) λx15=>lp (λ(_ _ _ _ _:D)(_:LS)=>none) (gC φ) φ Y (.i .i64 (.ofNat ny)) x8 x13 x15 s) (zero:=[(.i .u64 (.ofNat 0))]) (x:=n64 0) (new:=c64 [0]) (bytes:=8) aX rfl rfl rfl rfl (by omega) (by omega);refine th r3 (th (hXlen _ _) (th (Q9 (by omega) (by omega)) ?_));rw[G7]at r1;obtain⟨aY3,dYR⟩:=FR g1.ws dYX r2;generalize hnq:nx+1-ny=nq;refine th (Dx rfl (by omega) (by omega)) (th Lk ?_);rw[rt,vV];have hnew:∀l b,b3[l]?=some b→(b3++[⟨c64 (List.replicate nq 0),.rw⟩])[l]?=some b∧jg (.sl b3.length 0 nq nq 1 true) l:=λl b h=>⟨by rw[bO (ef h)];exact h,λo n m z e he=>by have:=ef h;injection he with h1;omega⟩
 obtain⟨aY,dYQ⟩:=yQ aY3 hnew;obtain⟨aR,dRQ⟩:=yQ r1.ws hnew;have dQR:Dis (.sl b3.length 0 nq nq 1 true) R:=λl o n m z e he o' n' m' z' e' he'=>dRQ _ _ _ _ _ _ he' _ _ _ _ _ he;have hv0:vl B32 (xs++[0])=x:=by rw[ri,vx];simp[vl]
 have hs0:Sm B32 (xs++[0]):=Iz sx (F0 (by decide));have hny0:0<ny:=by
  rcases bQ ny with h|h
  ·exfalso;have:ys=[]:=ao (by omega);rw[this]at vy;exact h0 vy.symm
  ·exact h
 have hyge:=yK (B:=B32) ty (by intro e;rw[e]at hny;simp at hny;omega);rw[vy,hny]at hyge;have hxlt:=uQ sx;rw[vx,hnx]at hxlt;have aQ:WS 1 (b3++[⟨c64 (List.replicate nq 0),.rw⟩]) (.sl b3.length 0 nq nq 1 true) (c64 (List.replicate nq 0)) nq:=WS.blk (by simp) (by rw[fT];simp) (aE _);cases nq with
 |zero=>
  refine th (nk (by omega) (by omega)) ?_;obtain⟨φ,rfl⟩:∃q,φ=q+1:=⟨φ-1,by omega⟩
  rw[eM];refine th (Rn aR aQ hs0 (AT (by decide)) (by omega) (by omega) (λk=>ol)) ?_;have hlt:x<y:=by
   have:B32^nx≤B32^(ny-1):=bg (by decide) (by omega);omega
  rw[hv0,cL hlt,bL hlt];rfl
 |succ nq=>
  refine th (gW) ?_;rw[a8];refine th (Xo (a:=x) (N:=nx+1) (nq:=nq+1) hny0 sy ty hny (by omega) (by omega) dYR dQR dYQ dRQ hφ nq φ _ (xs++[0]) (List.replicate (nq+1) 0) aY aR aQ hs0 (AT (by decide)) (by rw[hv0,zA];simp) ?_ (λt ht=>?_) (by omega) (by omega)) ?_
  ·rw[hv0,vy];have e1:B32^(ny-1)*B32^(nq+1)≤y*B32^(nq+1):=aL _ hyge;rw[←bX,show ny-1+(nq+1)=nx by omega]at e1;omega
  ·unfold dgt;rw[aD];cases h:(List.replicate (nq+1) 0)[t]?with
   |none=>rfl
   |some w=>exact dk (bY h)
  ·rw[vy]
theorem EC{as:List D}{r:D}(h:oq as=some r):∃φ,oM φ as=some r:=by
 obtain⟨x,y,rfl,hx,hy,h⟩:=wu h;refine⟨5000000000,?_⟩;rw[GV hx hy (aE _),←h];by_cases h0:y=0
 ·subst h0;rw[aC rfl,Nat.div_zero];rfl
 ·rw[aF h0,gR h0,e9,fB,fB];rfl
theorem Qt{a b:Nat}{k:D→Rs}:nC (.n a) (.n b) k=k (.b (!(Nat.beq a b))):=by
 show fc .neq (.n a) (.n b) k=_;unfold fc;rw[gV];rfl
theorem R0{φ:Nat}:∀(k x y f:Nat)(s:LS),Nat.log2 x≤1000000000→Nat.log2 y≤1000000000→y≤k→k+1<f→lp (λ(_ _:D)(_:LS)=>none) (uJ φ) f (.n x) (.n y) s=some (.n (Nat.gcd x y)):=by
 intro k
 induction k with
 |zero=>
  intro x y f s hx hy hk hf;obtain⟨f,rfl⟩:∃q,f=q+1:=⟨f-1,by omega⟩
  have:y=0:=by omega
  subst this;rw[eM];refine th Qt ?_;rw[d6];rfl
 |succ k ih=>
  intro x y f s hx hy hk hf;obtain⟨f,rfl⟩:∃q,f=q+1:=⟨f-1,by omega⟩
  rw[eM];refine th Qt ?_;by_cases h0:y=0
  ·subst h0;rw[d6];rfl
  ·rw[gR h0];have e0:oq [.n x,.n y]=some (.tup [.n (x/y),.n (x%y)]):=by
    show sz1 x (sz1 y _)=_;unfold sz1;rw[aH hx,aH hy,eL,eL];show cnd (Nat.beq y 0) _ _=_;rw[gR h0,e9,fB,fB];rfl
   have hlt:=bc x (show 0<y by omega);refine th eO (th (fF e0) (th iO (th iN ?_)));refine th (ih y (x%y) f s hy ?_ (by omega) (by omega)) ?_
   ·by_cases hm:x%y=0
    ·rw[hm];decide
    ·have:=(z1r h0).2 (bP (z1w hm) (dO hlt));omega
   ·rw[dP y,←z2f,dP]
theorem Jz{as:List D}{r:D}(h:wW as=some r):∃φ,sd φ as=some r:=by
 obtain⟨x,y,rfl,hx,hy,h⟩:=wu h;refine⟨y+2,?_⟩;unfold sd;dsimp only[eV,eY];rw[fB]at h;exact th (R0 y x y (y+2) s0 hx hy (aE _) (by omega)) h
set_option maxRecDepth 10000
section
variable {x y:Bool} {a b m n k:Nat} {z w:Int} {p q:Rat} {φ:Nat}
theorem Kc(z:Int)(n:Nat):zt (decide (z<0)) (z.natAbs*n)=z*n:=by
 have:=Je z (n:Int);rwa[d8,aN (show ¬(n:Int)<0 by omega),show(decide (z<0) != false)=decide (z<0) by cases decide (z<0)<;>rfl]at this
theorem yg{v:Bool}{c:Nat}(h:zt v c=z):(D.agg [.b (v&& !(Nat.beq c 0)),.n c])=.agg [.b (decide (z<0)),.n z.natAbs]:=zg h
theorem Dh(p q:Rat):p+q=mkRat (p.num*q.den+q.num*p.den) (p.den*q.den):=by rw[Rat.add_def,Rat.normalize_eq_mkRat]
theorem Fs(p q:Rat):p*q=mkRat (p.num*q.num) (p.den*q.den):=by rw[Rat.mul_def,Rat.normalize_eq_mkRat]
theorem Fa(z:Int):rc (mkRat z 1)=.agg [.b (decide (z<0)),.n z.natAbs,.n 1]:=by
 have e1:(mkRat z 1).num=z:=by rw[Rat.num_mkRat,aF (by omega),Nat.gcd_one_left];simp
 have e2:(mkRat z 1).den=1:=by rw[Rat.den_mkRat,aF (by omega),Nat.gcd_one_left]
 unfold rc;rw[e1,e2]
theorem Pn:nB φ [.agg [.b x,.n a]]=some (.agg [.b x,.n a,.n 1]):=by cases x<;>kernel_rfl
theorem JS(hz:Lg KA z.natAbs)(hb:Lg KA b)(h0:b≠0)(hφ:3000000000≤φ):oO φ [.agg [.b (decide (z<0)),.n z.natAbs],.agg [.b false,.n b]]=some (rc (mkRat z b)):=by
 have:=Ym (x:=decide (z<0)) hz hb h0 hφ;rwa[Kb]at this
theorem B7{j k:Nat}(hz:Lg j z.natAbs)(hn:Lg k n):Lg (j+k+1) (z*(n:Int)).natAbs:=by
 rw[dU,d8];exact jW hz hn
theorem Fx{j:Nat}(hz:Lg j z.natAbs)(hw:Lg j w.natAbs):Lg (j+1) (z+w).natAbs:=qo (xI hz hw) (Int.natAbs_add_le z w)
theorem Yn(hp:Qz KB p)(hq:Qz KB q)(hφ:3000000000≤φ):pI φ [rc p,rc q]=some (rc (p+q)):=by
 have hpn:=p.den_nz;have hqn:=q.den_nz;have iA:∀s K,eS ud [.agg [.b (decide (p.num<0)),.n p.num.natAbs],.agg [.b (decide (q.num<0)),.n q.num.natAbs]] s K=K (.agg [.b (decide (p.num+q.num<0)),.n (p.num+q.num).natAbs]) s:=rl (BE (fD hp.1 (by decide)) (fD hq.1 (by decide))) rfl;have iW:∀(x:Bool)(a:Nat) s K,eS (nB φ) [.agg [.b x,.n a]] s K=K (.agg [.b x,.n a,.n 1]) s:=λx a=>yj Pn rfl;by_cases hd:p.den=q.den
 ·by_cases h1:p.den=1
  ·have e:p+q=mkRat (p.num+q.num) 1:=by rw[Dh,←hd,h1];simp
   rw[e,Fa];unfold pI rc;simp -implicitDefEqProofs only[eV,eY,fy,jf,rQ,kW,lV,ln,rL,List.all_cons,List.all_nil,one,Bool.and_self,List.length_nil,List.length_cons,List.nil_append,List.cons_append,List.getElem?_cons_zero,List.getElem?_cons_succ,gN,gf,mz,eL,sj,oW,Nat.zero_add,Nat.reduceAdd,List.set_cons_zero,List.set_cons_succ,rK,ua,rS,rR,rU,ei,Nf,lk,li,re3,List.drop_zero,iA,iW,←hd,h1]
  ·have e:p+q=mkRat (p.num+q.num) p.den:=by
    rw[Dh,←hd,←Int.add_mul,Rat.mkRat_mul_right hpn]
   have iM:=JS (φ:=φ) (z:=p.num+q.num) (b:=p.den) (fD (Fx hp.1 hq.1) (by decide)) (fD hp.2 (by decide)) hpn hφ;rw[←e]at iM;have iM':=rl iM rfl;unfold rc at iM';unfold pI rc;simp -implicitDefEqProofs only[eV,eY,fy,jf,rQ,kW,lV,ln,rL,List.all_cons,List.all_nil,one,Bool.and_self,List.length_nil,List.length_cons,List.nil_append,List.cons_append,List.getElem?_cons_zero,List.getElem?_cons_succ,gN,gf,mz,eL,e9,sj,oW,Nat.zero_add,Nat.reduceAdd,List.set_cons_zero,List.set_cons_succ,rK,ua,rS,rR,rU,ei,Nf,lk,li,re3,List.drop_zero,iA,iM',←hd,gR h1]
 ·have i1:∀s K,eS nR [.n p.num.natAbs,.n q.den] s K=K (.n (p.num.natAbs*q.den)) s:=λs K=>rC (tu (fD hp.1 (by decide)) (fD hq.2 (by decide)));have i2:∀s K,eS nR [.n q.num.natAbs,.n p.den] s K=K (.n (q.num.natAbs*p.den)) s:=λs K=>rC (tu (fD hq.1 (by decide)) (fD hp.2 (by decide)));have i3:∀s K,eS nR [.n p.den,.n q.den] s K=K (.n (p.den*q.den)) s:=λs K=>rC (tu (fD hp.2 (by decide)) (fD hq.2 (by decide)));have i4:∀s K,eS (fb φ) [.b (decide (p.num<0)),.n (p.num.natAbs*q.den)] s K=K (.agg [.b (decide (p.num*q.den<0)),.n (p.num*(q.den:Int)).natAbs]) s:=λs K=>by rw[zT,yg (Kc p.num q.den)]
  have i5:∀s K,eS (fb φ) [.b (decide (q.num<0)),.n (q.num.natAbs*p.den)] s K=K (.agg [.b (decide (q.num*p.den<0)),.n (q.num*(p.den:Int)).natAbs]) s:=λs K=>by rw[zT,yg (Kc q.num p.den)]
  have l1:Lg (KB+KB+1) (p.num*(q.den:Int)).natAbs:=B7 hp.1 hq.2;have l2:Lg (KB+KB+1) (q.num*(p.den:Int)).natAbs:=B7 hq.1 hp.2;have i6:∀s K,eS ud [.agg [.b (decide (p.num*q.den<0)),.n (p.num*(q.den:Int)).natAbs],.agg [.b (decide (q.num*p.den<0)),.n (q.num*(p.den:Int)).natAbs]] s K=K (.agg [.b (decide (p.num*q.den+q.num*p.den<0)),.n (p.num*(q.den:Int)+q.num*(p.den:Int)).natAbs]) s:=rl (BE (fD l1 (by decide)) (fD l2 (by decide))) rfl;have iM:=JS (φ:=φ) (z:=p.num*q.den+q.num*p.den) (b:=p.den*q.den) (fD (Fx l1 l2) (by decide)) (fD (jW hp.2 hq.2) (by decide)) (z1g hpn hqn) hφ;rw[←Dh]at iM;have iM':=rl iM rfl;unfold rc at iM';unfold pI rc;simp -implicitDefEqProofs only[eV,eY,fy,jf,rQ,kW,lV,ln,rL,List.all_cons,List.all_nil,one,Bool.and_self,List.length_nil,List.length_cons,List.nil_append,List.cons_append,List.getElem?_cons_zero,List.getElem?_cons_succ,gN,gf,mz,eL,e9,sj,oW,Nat.zero_add,Nat.reduceAdd,List.set_cons_zero,List.set_cons_succ,rK,Cv,ua,rS,rR,rU,ei,Nf,lk,li,re3,List.drop_zero,i1,i2,i3,i4,i5,i6,iM',gR hd]
theorem Ps(hp:Qz KB p)(hq:Qz KB q)(hφ:3000000000≤φ):mR φ [rc p,rc q]=some (rc (p*q)):=by
 have hpn:=p.den_nz;have hqn:=q.den_nz;have iA:∀s K,eS wV [.agg [.b (decide (p.num<0)),.n p.num.natAbs],.agg [.b (decide (q.num<0)),.n q.num.natAbs]] s K=K (.agg [.b (decide (p.num*q.num<0)),.n (p.num*q.num).natAbs]) s:=rl (ID (fD hp.1 (by decide)) (fD hq.1 (by decide))) rfl;have iW:∀(x:Bool)(a:Nat) s K,eS (nB φ) [.agg [.b x,.n a]] s K=K (.agg [.b x,.n a,.n 1]) s:=λx a=>yj Pn rfl;have i3:∀s K,eS nR [.n p.den,.n q.den] s K=K (.n (p.den*q.den)) s:=λs K=>rC (tu (fD hp.2 (by decide)) (fD hq.2 (by decide)));have l1:Lg (KB+KB+1) (p.num*q.num).natAbs:=by rw[dU];exact jW hp.1 hq.1
 have iM:=JS (φ:=φ) (z:=p.num*q.num) (b:=p.den*q.den) (fD l1 (by decide)) (fD (jW hp.2 hq.2) (by decide)) (z1g hpn hqn) hφ;rw[←Fs]at iM;have iM':=rl iM rfl;unfold rc at iM';by_cases h1:p.den=1
 ·by_cases h2:q.den=1
  ·have e:p*q=mkRat (p.num*q.num) 1:=by rw[Fs,h1,h2]
   rw[e,Fa];unfold mR rc;simp -implicitDefEqProofs only[eV,eY,fy,jf,rQ,kW,lV,ln,rL,List.all_cons,List.all_nil,one,Bool.and_self,List.length_nil,List.length_cons,List.nil_append,List.cons_append,List.getElem?_cons_zero,List.getElem?_cons_succ,gN,gf,mz,eL,e9,sj,oW,sU,sR,Nat.zero_add,Nat.reduceAdd,List.set_cons_zero,List.set_cons_succ,rK,ua,rS,rR,rU,ei,lk,li,re3,List.drop_zero,xb,iA,iW,h1,h2]
  ·unfold mR rc;rw[h1]at i3 iM' ⊢;simp -implicitDefEqProofs only[eV,eY,fy,jf,rQ,kW,lV,ln,rL,List.all_cons,List.all_nil,one,Bool.and_self,List.length_nil,List.length_cons,List.nil_append,List.cons_append,List.getElem?_cons_zero,List.getElem?_cons_succ,gN,gf,mz,eL,e9,sj,oW,sU,sR,Nat.zero_add,Nat.reduceAdd,List.set_cons_zero,List.set_cons_succ,rK,ua,rS,rR,rU,ei,Nf,lk,li,re3,List.drop_zero,xb,iA,i3,iM',gR h2]
 ·unfold mR rc;simp -implicitDefEqProofs only[eV,eY,fy,jf,rQ,kW,lV,ln,rL,List.all_cons,List.all_nil,one,Bool.and_self,List.length_nil,List.length_cons,List.nil_append,List.cons_append,List.getElem?_cons_zero,List.getElem?_cons_succ,gN,gf,mz,eL,e9,sj,oW,sU,sR,Nat.zero_add,Nat.reduceAdd,List.set_cons_zero,List.set_cons_succ,rK,ua,rS,rR,rU,ei,Nf,lk,li,re3,List.drop_zero,D5,iA,i3,iM',gR h1]
theorem Wm:qW φ [rc p]=some (rc (-p)):=by
 have i1:∀s K,eS xx [.agg [.b (decide (p.num<0)),.n p.num.natAbs]] s K=K (.agg [.b (decide (-p.num<0)),.n (-p.num).natAbs]) s:=yj IA rfl;unfold qW rc;rw[z2h,z2i];simp -implicitDefEqProofs only[eV,eY,fy,jf,rQ,kW,lV,ln,rL,List.all_cons,List.all_nil,one,Bool.and_self,List.length_nil,List.length_cons,List.nil_append,List.cons_append,List.getElem?_cons_zero,List.getElem?_cons_succ,gN,gf,mz,eL,Nat.zero_add,Nat.reduceAdd,List.set_cons_zero,List.set_cons_succ,rK,ua,rS,rR,rU,ei,kb3,lk,li,re3,List.drop_zero,i1]
theorem Ye(hp:Qz KB p)(hq:Qz KB q)(hφ:3000000000≤φ):sG φ [rc p,rc q]=some (rc (p-q)):=by
 have h1:=xQ (Wm (φ:=φ) (p:=q)) rfl;have hq':Qz KB (-q):=⟨by rw[z2h,Int.natAbs_neg];exact hq.1,by rw[z2i];exact hq.2⟩
 have h2:=GG (Yn hp hq' hφ) rfl;rw[←z1V]at h2;unfold rc at h1 h2;unfold sG rc;simp -implicitDefEqProofs only[eV,eY,fy,jf,rQ,ln,rL,List.all_cons,List.all_nil,one,Bool.and_self,List.length_nil,List.length_cons,List.nil_append,List.cons_append,List.getElem?_cons_zero,List.getElem?_cons_succ,gN,gf,mz,eL,Nat.zero_add,Nat.reduceAdd,List.set_cons_zero,List.set_cons_succ,rK,ua,rS,rR,rU,ei,lk,li,re3,List.drop_zero,h1,h2]
theorem xC:p.num.natAbs=0↔p=0:=by
 constructor
 ·intro h;exact Rat.ext (by show p.num=0;omega) (by
   have:=p.reduced;rw[h]at this;simpa using this)
 ·rintro rfl;rfl
theorem VQ:Nat.beq p.num.natAbs 0=decide (p=0):=by
 rw[SU];by_cases h:p=0
 ·rw[aP h,aP (xC.2 h)]
 ·rw[aN h,aN (λh'=>h (xC.1 h'))]
theorem sP:jc φ [rc p]=some (.b (decide (p=0))):=by
 unfold jc rc;simp -implicitDefEqProofs only[eV,eY,fy,jf,kW,lV,List.all_cons,List.all_nil,one,Bool.and_self,List.length_nil,List.nil_append,List.getElem?_cons_zero,List.getElem?_cons_succ,gN,gf,eL,sj,Nat.zero_add,sO,VQ]
theorem Pv:pd φ [rc p]=some (.b (Nat.beq p.den 1)):=by
 unfold pd rc;simp -implicitDefEqProofs only[eV,eY,fy,jf,kW,lV,List.all_cons,List.all_nil,one,Bool.and_self,List.length_nil,List.nil_append,List.getElem?_cons_zero,List.getElem?_cons_succ,gN,gf,eL,sj,Nat.zero_add,sO]
theorem MA(h:p≠0):(p⁻¹).num=zt (decide (p.num<0)) p.den∧(p⁻¹).den=p.num.natAbs:=by
 have hn:p.num≠0:=λe=>h (xC.1 (by omega));rw[Rat.num_inv,Rat.den_inv,aF hn];refine⟨?_,rfl⟩;unfold zt;by_cases h0:p.num<0
 ·rw[aP h0,aC rfl,Int.sign_eq_neg_one_of_neg h0];omega
 ·rw[aN h0,aF (by simp),Int.sign_eq_one_of_pos (by omega)];omega
theorem PO(h:p≠0):rc p⁻¹=.agg [.b (decide (p.num<0)),.n p.den,.n p.num.natAbs]:=by
 obtain⟨h1,h2⟩:=MA h;have:=p.den_nz;unfold rc;rw[h1,h2,wF,FQ,SU,aN this];simp
theorem HS(h:p≠0):mn φ [rc p]=some (rc p⁻¹):=by
 rw[PO h];unfold mn rc;simp -implicitDefEqProofs only[eV,eY,fy,jf,rQ,kW,lV,ln,rL,List.all_cons,List.all_nil,one,Bool.and_self,List.length_nil,List.length_cons,List.nil_append,List.cons_append,List.getElem?_cons_zero,List.getElem?_cons_succ,gN,gf,mz,eL,Nat.zero_add,Nat.reduceAdd,List.set_cons_zero,List.set_cons_succ,rK,ua,rS,rR,rU,ei,kb3,kb2,lk,li,re3,List.drop_zero]
theorem LI:kd φ [.i .i64 (.ofNat 0)]=some (rc 0):=by kernel_rfl
theorem Pw:kd φ [.i .i64 (.ofNat 1)]=some (rc 1):=by kernel_rfl
theorem Pk(h:Qz k p):Qz k (-p):=⟨by rw[z2h,Int.natAbs_neg];exact h.1,by rw[z2i];exact h.2⟩
end
section
variable {x y:Bool} {a b m n k:Nat} {z w:Int} {p q:Rat} {φ:Nat}
theorem By{k:Nat→Nat→Rs}(ha:Lg KA a)(hb:Lg KA b):two [.n a,.n b] k=k a b:=by
 show sz1 a (sz1 b (k a b))=_;unfold sz1;rw[aH ha,aH hb];rfl
theorem OR(ha:Lg KA a)(hb:Lg KA b):yu [.n a,.n b]=some (.n (a+b)):=by unfold yu;rw[By ha hb,fB];rfl
theorem EO(ha:Lg KA a)(hb:Lg KA b):wI [.n a,.n b]=some (.n (a-b)):=by unfold wI;rw[By ha hb,fB];rfl
theorem N2(ha:Lg KA a)(hb:Lg KA b):y5 [.n a,.n b]=some (.n (a*b)):=by unfold y5;rw[By ha hb,fB];rfl
theorem Er(ha:Lg KA a)(hb:Lg KA b):wW [.n a,.n b]=some (.n (Nat.gcd a b)):=by unfold wW;rw[By ha hb,fB]
theorem zz(ha:Lg KA a)(hb:Lg KA b)(h0:b≠0):oq [.n a,.n b]=some (.tup [.n (a/b),.n (a%b)]):=by
 unfold oq;rw[By ha hb,gR h0,e9,fB,fB];rfl
theorem xm(x:Bool)(a:Nat):∀s K,eS (iH φ) [.b x,.n a] s K=K (.agg [.b (x&& !(Nat.beq a 0)),.n a]) s:=λs K=>yi (by
 unfold iH;cases x<;>simp -implicitDefEqProofs only[eV,eY,fy,rQ,ln,rL,List.length_nil,List.length_cons,List.nil_append,List.getElem?_cons_zero,gN,gf,mz,eL,e9,H3,sU,sR,Nat.zero_add,Nat.reduceAdd,List.set_cons_zero,rK,Cv,rS,rR,rU,ei,kb2,lk,li,re2,List.drop_zero,xb,D5,Bool.false_and,Bool.true_and])
theorem Pa(hz:Lg KA z.natAbs)(hw:Lg KA w.natAbs):gi φ [.agg [.b (decide (z<0)),.n z.natAbs],.agg [.b (decide (w<0)),.n w.natAbs]]=some (.agg [.b (decide (z*w<0)),.n (z*w).natAbs]):=by
 have i1:∀s K,eS y5 [.n z.natAbs,.n w.natAbs] s K=K (.n (z.natAbs*w.natAbs)) s:=λs K=>rC (N2 hz hw);have e:=yg (Je z w);unfold gi;simp -implicitDefEqProofs only[eV,eY,fy,jf,rQ,kW,lV,ln,rL,List.all_cons,List.all_nil,one,Bool.and_self,List.length_nil,List.length_cons,List.nil_append,List.cons_append,List.getElem?_cons_zero,List.getElem?_cons_succ,gN,gf,mz,eL,Nat.zero_add,Nat.reduceAdd,List.set_cons_zero,List.set_cons_succ,rK,Cv,rS,rR,rU,ei,M7,lk,li,re2,List.drop_zero,i1,xm,e]
theorem Pj(hz:Lg KA z.natAbs)(hw:Lg KA w.natAbs):kA φ [.agg [.b (decide (z<0)),.n z.natAbs],.agg [.b (decide (w<0)),.n w.natAbs]]=some (.agg [.b (decide (z+w<0)),.n (z+w).natAbs]):=by
 have i1:∀s K,eS yu [.n z.natAbs,.n w.natAbs] s K=K (.n (z.natAbs+w.natAbs)) s:=λs K=>rC (OR hz hw);have i2:∀s K,eS wI [.n z.natAbs,.n w.natAbs] s K=K (.n (z.natAbs-w.natAbs)) s:=λs K=>rC (EO hz hw);have i3:∀s K,eS wI [.n w.natAbs,.n z.natAbs] s K=K (.n (w.natAbs-z.natAbs)) s:=λs K=>rC (EO hw hz);by_cases h:decide (z<0)=decide (w<0)
 ·have e:=yg (z:=z+w) (v:=decide (z<0)) (c:=z.natAbs+w.natAbs) (by
   unfold zt;by_cases h1:z<0
   ·have h2:w<0:=by rw[aP h1]at h;exact cC h.symm
    rw[aP h1,aC rfl];omega
   ·have h2:¬w<0:=by rw[aN h1]at h;exact of_decide_eq_false h.symm
    rw[aN h1,aF (by simp)];omega)
  unfold kA;rw[←h];simp -implicitDefEqProofs only[eV,eY,fy,jf,rQ,kW,lV,ln,rL,List.all_cons,List.all_nil,one,Bool.and_self,List.length_nil,List.length_cons,List.nil_append,List.cons_append,List.getElem?_cons_zero,List.getElem?_cons_succ,gN,gf,mz,eL,oW,Nat.zero_add,Nat.reduceAdd,List.set_cons_zero,List.set_cons_succ,rK,Cv,rS,rR,rU,ei,SW,lk,li,re2,List.drop_zero,i1,xm,e,beq_self_eq_true]
 ·have hb:(decide (z<0)==decide (w<0))=false:=by revert h;cases decide (z<0)<;>cases decide (w<0)<;>simp
  by_cases hc:z.natAbs<w.natAbs
  ·have i4:∀s K,eS ng [.n z.natAbs,.n w.natAbs] s K=K (.i .i64 (.negSucc 0)) s:=λs K=>Jr (Eb hc);have e:=yg (z:=z+w) (v:=decide (w<0)) (c:=w.natAbs-z.natAbs) (by
    unfold zt;by_cases h1:w<0
    ·have h2:¬z<0:=λh2=>h (by rw[aP h1,aP h2]);rw[aP h1,aC rfl];omega
    ·have h2:z<0:=Classical.byContradiction λh2=>h (by rw[aN h1,aN h2]);rw[aN h1,aF (by simp)];omega)
   unfold kA;simp -implicitDefEqProofs only[eV,eY,fy,jf,rQ,kW,lV,ln,rL,List.all_cons,List.all_nil,one,Bool.and_self,List.length_nil,List.length_cons,List.nil_append,List.cons_append,List.getElem?_cons_zero,List.getElem?_cons_succ,gN,gf,mz,eL,e9,oW,Nat.zero_add,Nat.reduceAdd,List.set_cons_zero,List.set_cons_succ,rK,Cv,rS,rR,rU,ei,SW,lk,li,re2,List.drop_zero,i3,i4,hb,uB,xm,e]
  ·obtain⟨c,hcc⟩:=Ec (show w.natAbs≤z.natAbs by omega);have i4:∀s K,eS ng [.n z.natAbs,.n w.natAbs] s K=K (.i .i64 (.ofNat c)) s:=λs K=>Jr hcc;have e:=yg (z:=z+w) (v:=decide (z<0)) (c:=z.natAbs-w.natAbs) (by
    unfold zt;by_cases h1:z<0
    ·have h2:¬w<0:=λh2=>h (by rw[aP h1,aP h2]);rw[aP h1,aC rfl];omega
    ·have h2:w<0:=Classical.byContradiction λh2=>h (by rw[aN h1,aN h2]);rw[aN h1,aF (by simp)];omega)
   have g0:∀k:D→Rs,kI (.i .i64 (.ofNat c)) (.i .i64 (.ofNat 0)) k=k (.b true):=λk=>qR (a9 c);unfold kA;simp -implicitDefEqProofs only[eV,eY,fy,jf,rQ,kW,lV,ln,rL,List.all_cons,List.all_nil,one,Bool.and_self,List.length_nil,List.length_cons,List.nil_append,List.cons_append,List.getElem?_cons_zero,List.getElem?_cons_succ,gN,gf,mz,eL,e9,oW,Nat.zero_add,Nat.reduceAdd,List.set_cons_zero,List.set_cons_succ,rK,Cv,rS,rR,rU,ei,SW,lk,li,re2,List.drop_zero,i2,i4,hb,g0,xm,e]
theorem LA(hz:Lg KA z.natAbs)(hb:Lg KA b)(h0:b≠0):mC φ [.agg [.b (decide (z<0)),.n z.natAbs],.agg [.b false,.n b]]=some (rc (mkRat z b)):=by
 have hg:Nat.gcd z.natAbs b≠0:=by have:=Nat.gcd_pos_of_pos_right z.natAbs (show 0<b by omega);omega
 have hgk:Lg KA (Nat.gcd z.natAbs b):=qo hb (Nat.gcd_le_right _ (by omega));have i1:∀s K,eS wW [.n z.natAbs,.n b] s K=K (.n (Nat.gcd z.natAbs b)) s:=λs K=>rC (Er hz hb);have i2:∀s K,eS oq [.n z.natAbs,.n (Nat.gcd z.natAbs b)] s K=K (.tup [.n (z.natAbs/Nat.gcd z.natAbs b),.n (z.natAbs%Nat.gcd z.natAbs b)]) s:=λs K=>GH (zz hz hgk hg);have i3:∀s K,eS oq [.n b,.n (Nat.gcd z.natAbs b)] s K=K (.tup [.n (b/Nat.gcd z.natAbs b),.n (b%Nat.gcd z.natAbs b)]) s:=λs K=>GH (zz hb hgk hg);have e:=Vf (x:=decide (z<0)) (a:=z.natAbs) h0;rw[Kb]at e;rw[e];unfold mC;simp -implicitDefEqProofs only[eV,eY,fy,jf,rQ,kW,lV,ln,rL,List.all_cons,List.all_nil,one,Bool.and_self,List.length_nil,List.length_cons,List.nil_append,List.cons_append,List.getElem?_cons_zero,List.getElem?_cons_succ,gN,gf,mz,eL,e9,sj,oW,iO,iN,Nat.zero_add,Nat.reduceAdd,List.set_cons_zero,List.set_cons_succ,rK,ua,rS,rR,rU,ei,M7,kb3,lk,li,re3,List.drop_zero,i1,i2,i3,gR h0,xm,Bool.bne_false]
theorem PR:jG φ [.agg [.b x,.n a]]=some (.agg [.b x,.n a,.n 1]):=by
 unfold jG;simp -implicitDefEqProofs only[eV,eY,fy,jf,rQ,ln,rL,List.all_cons,List.all_nil,one,Bool.and_self,List.length_nil,List.length_cons,List.nil_append,List.cons_append,List.getElem?_cons_zero,List.getElem?_cons_succ,gN,gf,mz,eL,Nat.zero_add,Nat.reduceAdd,List.set_cons_zero,List.set_cons_succ,rK,ua,rS,rR,rU,ei,kb3,lk,li,re3,List.drop_zero]
theorem Yc:fW φ [.agg [.b x,.n a,.n m]]=some (.agg [.b false,.n m]):=by
 unfold fW;simp -implicitDefEqProofs only[eV,eY,fy,jf,rQ,kW,lV,ln,rL,List.all_cons,List.all_nil,one,Bool.and_self,List.length_nil,List.length_cons,List.nil_append,List.cons_append,List.getElem?_cons_zero,List.getElem?_cons_succ,gN,gf,mz,eL,Nat.zero_add,Nat.reduceAdd,List.set_cons_zero,List.set_cons_succ,rK,Cv,rS,rR,rU,ei,Nf,lk,li,re2,List.drop_zero]
theorem GX(n:Nat):decide ((n:Int)<0)=false:=aN (by omega)
theorem P8(hz:Lg KA z.natAbs)(hn:Lg KA n):gi φ [.agg [.b (decide (z<0)),.n z.natAbs],.agg [.b false,.n n]]=some (.agg [.b (decide (z*(n:Int)<0)),.n (z*(n:Int)).natAbs]):=by
 have:=Pa (φ:=φ) (z:=z) (w:=(n:Int)) hz hn;rwa[d8,GX]at this
theorem P0(hm:Lg KA m)(hn:Lg KA n):gi φ [.agg [.b false,.n m],.agg [.b false,.n n]]=some (.agg [.b false,.n (m*n)]):=by
 have:=P8 (φ:=φ) (z:=(m:Int)) (n:=n) hm hn;rwa[d8,GX,←z1C,d8,GX]at this
theorem Wj(hp:Qz KB p)(hq:Qz KB q):jP φ [rc p,rc q]=some (rc (p+q)):=by
 have hpn:=p.den_nz;have hqn:=q.den_nz;have kab:KB≤KA:=by decide
 have iA:=rl (Pj (φ:=φ) (fD hp.1 kab) (fD hq.1 kab)) rfl;have iW:∀(x:Bool)(a:Nat) s K,eS (jG φ) [.agg [.b x,.n a]] s K=K (.agg [.b x,.n a,.n 1]) s:=λx a=>yj PR rfl;have iD:∀(x:Bool)(a m:Nat) s K,eS (fW φ) [.agg [.b x,.n a,.n m]] s K=K (.agg [.b false,.n m]) s:=λx a m=>xQ Yc rfl;have i1:=rl (P8 (φ:=φ) (fD hp.1 kab) (fD hq.2 kab)) rfl;have i2:=rl (P8 (φ:=φ) (fD hq.1 kab) (fD hp.2 kab)) rfl;have i3:=rl (P0 (φ:=φ) (fD hp.2 kab) (fD hq.2 kab)) rfl;have l1:Lg (KB+KB+1) (p.num*(q.den:Int)).natAbs:=B7 hp.1 hq.2;have l2:Lg (KB+KB+1) (q.num*(p.den:Int)).natAbs:=B7 hq.1 hp.2;have i6:=rl (Pj (φ:=φ) (fD l1 (by decide)) (fD l2 (by decide))) rfl;have iM:=LA (φ:=φ) (z:=p.num*q.den+q.num*p.den) (b:=p.den*q.den) (fD (Fx l1 l2) (by decide)) (fD (jW hp.2 hq.2) (by decide)) (z1g hpn hqn);rw[←Dh]at iM;have iM':=rl iM rfl;unfold rc at iM';by_cases h1:p.den=1
 ·by_cases h2:q.den=1
  ·have e:p+q=mkRat (p.num+q.num) 1:=by rw[Dh,h1,h2];simp
   rw[e,Fa];unfold jP rc;simp -implicitDefEqProofs only[eV,eY,fy,jf,rQ,kW,lV,ln,rL,List.all_cons,List.all_nil,one,Bool.and_self,List.length_nil,List.length_cons,List.nil_append,List.cons_append,List.getElem?_cons_zero,List.getElem?_cons_succ,gN,gf,mz,eL,e9,sj,oW,sU,sR,Nat.zero_add,Nat.reduceAdd,List.set_cons_zero,List.set_cons_succ,rK,ua,rS,rR,rU,ei,lk,li,re3,List.drop_zero,xb,iA,iW,h1,h2]
  ·unfold jP rc;rw[h1]at i2 i3 i6 iM' ⊢;simp -implicitDefEqProofs only[eV,eY,fy,jf,rQ,kW,lV,ln,rL,List.all_cons,List.all_nil,one,Bool.and_self,List.length_nil,List.length_cons,List.nil_append,List.cons_append,List.getElem?_cons_zero,List.getElem?_cons_succ,gN,gf,mz,eL,e9,sj,oW,sU,sR,Nat.zero_add,Nat.reduceAdd,List.set_cons_zero,List.set_cons_succ,rK,Cv,ua,rS,rR,rU,ei,lk,li,re3,List.drop_zero,xb,iD,i1,i2,i3,i6,iM',gR h2]
 ·unfold jP rc;simp -implicitDefEqProofs only[eV,eY,fy,jf,rQ,kW,lV,ln,rL,List.all_cons,List.all_nil,one,Bool.and_self,List.length_nil,List.length_cons,List.nil_append,List.cons_append,List.getElem?_cons_zero,List.getElem?_cons_succ,gN,gf,mz,eL,e9,sj,oW,sU,sR,Nat.zero_add,Nat.reduceAdd,List.set_cons_zero,List.set_cons_succ,rK,Cv,ua,rS,rR,rU,ei,lk,li,re3,List.drop_zero,D5,iD,i1,i2,i3,i6,iM',gR h1]
theorem Pb(hp:Qz KB p)(hq:Qz KB q):hI φ [rc p,rc q]=some (rc (p*q)):=by
 have hpn:=p.den_nz;have hqn:=q.den_nz;have kab:KB≤KA:=by decide
 have iA:=rl (Pa (φ:=φ) (fD hp.1 kab) (fD hq.1 kab)) rfl;have iW:∀(x:Bool)(a:Nat) s K,eS (jG φ) [.agg [.b x,.n a]] s K=K (.agg [.b x,.n a,.n 1]) s:=λx a=>yj PR rfl;have iD:∀(x:Bool)(a m:Nat) s K,eS (fW φ) [.agg [.b x,.n a,.n m]] s K=K (.agg [.b false,.n m]) s:=λx a m=>xQ Yc rfl;have i3:=rl (P0 (φ:=φ) (fD hp.2 kab) (fD hq.2 kab)) rfl;have l1:Lg (KB+KB+1) (p.num*q.num).natAbs:=by rw[dU];exact jW hp.1 hq.1
 have iM:=LA (φ:=φ) (z:=p.num*q.num) (b:=p.den*q.den) (fD l1 (by decide)) (fD (jW hp.2 hq.2) (by decide)) (z1g hpn hqn);rw[←Fs]at iM;have iM':=rl iM rfl;unfold rc at iM';by_cases h1:p.den=1
 ·by_cases h2:q.den=1
  ·have e:p*q=mkRat (p.num*q.num) 1:=by rw[Fs,h1,h2]
   rw[e,Fa];unfold hI rc;simp -implicitDefEqProofs only[eV,eY,fy,jf,rQ,kW,lV,ln,rL,List.all_cons,List.all_nil,one,Bool.and_self,List.length_nil,List.length_cons,List.nil_append,List.cons_append,List.getElem?_cons_zero,List.getElem?_cons_succ,gN,gf,mz,eL,e9,sj,oW,sU,sR,Nat.zero_add,Nat.reduceAdd,List.set_cons_zero,List.set_cons_succ,rK,ua,rS,rR,rU,ei,lk,li,re3,List.drop_zero,xb,iA,iW,h1,h2]
  ·unfold hI rc;rw[h1]at i3 iM' ⊢;simp -implicitDefEqProofs only[eV,eY,fy,jf,rQ,kW,lV,ln,rL,List.all_cons,List.all_nil,one,Bool.and_self,List.length_nil,List.length_cons,List.nil_append,List.cons_append,List.getElem?_cons_zero,List.getElem?_cons_succ,gN,gf,mz,eL,e9,sj,oW,sU,sR,Nat.zero_add,Nat.reduceAdd,List.set_cons_zero,List.set_cons_succ,rK,ua,rS,rR,rU,ei,lk,li,re3,List.drop_zero,xb,iA,iD,i3,iM',gR h2]
 ·unfold hI rc;simp -implicitDefEqProofs only[eV,eY,fy,jf,rQ,kW,lV,ln,rL,List.all_cons,List.all_nil,one,Bool.and_self,List.length_nil,List.length_cons,List.nil_append,List.cons_append,List.getElem?_cons_zero,List.getElem?_cons_succ,gN,gf,mz,eL,e9,sj,oW,sU,sR,Nat.zero_add,Nat.reduceAdd,List.set_cons_zero,List.set_cons_succ,rK,ua,rS,rR,rU,ei,lk,li,re3,List.drop_zero,D5,iA,iD,i3,iM',gR h1]
theorem Wf:oL φ [.agg [.b (decide (z<0)),.n z.natAbs]]=some (.agg [.b (decide (-z<0)),.n (-z).natAbs]):=by
 have e:=yg (z:= -z) (v:= !(decide (z<0))) (c:=z.natAbs) (by
  unfold zt;by_cases h:z<0
  ·rw[aP h,aF (by simp)];omega
  ·rw[aN h,aC (by simp)];omega)
 unfold oL;simp -implicitDefEqProofs only[eV,eY,fy,jf,rQ,kW,lV,ln,rL,List.all_cons,List.all_nil,one,Bool.and_self,List.length_nil,List.length_cons,List.nil_append,List.cons_append,List.getElem?_cons_zero,List.getElem?_cons_succ,gN,gf,mz,eL,tL,Nat.zero_add,Nat.reduceAdd,List.set_cons_zero,List.set_cons_succ,rK,Cv,rS,rR,rU,ei,lk,li,re2,List.drop_zero,xm,e]
theorem Zo:oJ φ [rc p]=some (rc (-p)):=by
 have i1:=yj (Wf (φ:=φ) (z:=p.num)) rfl;unfold oJ rc;rw[z2h,z2i];simp -implicitDefEqProofs only[eV,eY,fy,jf,rQ,kW,lV,ln,rL,List.all_cons,List.all_nil,one,Bool.and_self,List.length_nil,List.length_cons,List.nil_append,List.cons_append,List.getElem?_cons_zero,List.getElem?_cons_succ,gN,gf,mz,eL,Nat.zero_add,Nat.reduceAdd,List.set_cons_zero,List.set_cons_succ,rK,ua,rS,rR,rU,ei,kb3,lk,li,re3,List.drop_zero,i1]
theorem Zm(hp:Qz KB p)(hq:Qz KB q):oI φ [rc p,rc q]=some (rc (p-q)):=by
 have h1:=xQ (Zo (φ:=φ) (p:=q)) rfl;have h2:=GG (Wj (φ:=φ) hp (Pk hq)) rfl;rw[←z1V]at h2;unfold rc at h1 h2;unfold oI rc;simp -implicitDefEqProofs only[eV,eY,fy,jf,rQ,ln,rL,List.all_cons,List.all_nil,one,Bool.and_self,List.length_nil,List.length_cons,List.nil_append,List.cons_append,List.getElem?_cons_zero,List.getElem?_cons_succ,gN,gf,mz,eL,Nat.zero_add,Nat.reduceAdd,List.set_cons_zero,List.set_cons_succ,rK,ua,rS,rR,rU,ei,lk,li,re3,List.drop_zero,h1,h2]
theorem HO:jK φ [rc p]=some (rc p⁻¹):=by
 by_cases h:p=0
 ·subst h;rw[Rat.inv_zero,show rc 0=.agg [.b false,.n 0,.n 1] by kernel_rfl];unfold jK;simp -implicitDefEqProofs only[eV,eY,fy,jf,rQ,kW,lV,ln,rL,List.all_cons,List.all_nil,one,Bool.and_self,List.length_nil,List.length_cons,List.nil_append,List.cons_append,List.getElem?_cons_zero,List.getElem?_cons_succ,gN,gf,mz,eL,sj,oW,Nat.zero_add,Nat.reduceAdd,List.set_cons_zero,List.set_cons_succ,rK,ua,rS,rR,rU,ei,kb3,kb2,lk,li,re3,List.drop_zero]
 ·rw[PO h];have hn:p.num.natAbs≠0:=λe=>h (xC.1 e);unfold jK rc;simp -implicitDefEqProofs only[eV,eY,fy,jf,rQ,kW,lV,ln,rL,List.all_cons,List.all_nil,one,Bool.and_self,List.length_nil,List.length_cons,List.nil_append,List.cons_append,List.getElem?_cons_zero,List.getElem?_cons_succ,gN,gf,mz,eL,e9,sj,oW,Nat.zero_add,Nat.reduceAdd,List.set_cons_zero,List.set_cons_succ,rK,ua,rS,rR,rU,ei,kb3,kb2,lk,li,re3,List.drop_zero,gR hn]
theorem JQ(h:Qz k p):Qz k p⁻¹:=by
 by_cases h0:p=0
 ·subst h0;rw[Rat.inv_zero];exact h
 ·obtain⟨h1,h2⟩:=MA h0;exact⟨by rw[h1,wF];exact h.2,by rw[h2];exact h.1⟩
theorem Zr(hp:Qz KB p)(hq:Qz KB q):oK φ [rc p,rc q]=some (rc (p*q⁻¹)):=by
 have h1:=xQ (HO (φ:=φ) (p:=q)) rfl;have h2:=GG (Pb (φ:=φ) hp (JQ hq)) rfl;unfold rc at h1 h2;unfold oK rc;simp -implicitDefEqProofs only[eV,eY,fy,jf,rQ,ln,rL,List.all_cons,List.all_nil,one,Bool.and_self,List.length_nil,List.length_cons,List.nil_append,List.cons_append,List.getElem?_cons_zero,List.getElem?_cons_succ,gN,gf,mz,eL,Nat.zero_add,Nat.reduceAdd,List.set_cons_zero,List.set_cons_succ,rK,ua,rS,rR,rU,ei,lk,li,re3,List.drop_zero,h1,h2]
theorem HL:iq φ [rc p]=some (.i .i64 (if p.num<0 then .negSucc 0 else if p=0 then .ofNat 0 else .ofNat 1)):=by
 have h1:∀s K,eS (nO φ) [.agg [.b (decide (p.num<0)),.n p.num.natAbs]] s K=K (.i .i64 (if p.num<0 then .negSucc 0 else if p=0 then .ofNat 0 else .ofNat 1)) s:=yj (by
  unfold nO;by_cases h:p.num<0
  ·rw[aC h,aP h];simp -implicitDefEqProofs only[eV,eY,fy,jf,kW,lV,List.all_cons,List.all_nil,one,Bool.and_self,List.length_nil,List.nil_append,List.getElem?_cons_zero,List.getElem?_cons_succ,gN,gf,eL,sj,oW,Nat.zero_add,jU]
  ·rw[aF h,aN h];by_cases h0:p=0
   ·rw[aC h0,h0];simp -implicitDefEqProofs only[eV,eY,fy,jf,kW,lV,List.all_cons,List.all_nil,one,Bool.and_self,List.length_nil,List.nil_append,List.getElem?_cons_zero,List.getElem?_cons_succ,gN,gf,eL,e9,sj,oW,Nat.zero_add,ei,jU,Rat.num_ofNat,Int.natAbs_zero]
   ·rw[aF h0];have hn:p.num.natAbs≠0:=λe=>h0 (xC.1 e);simp -implicitDefEqProofs only[eV,eY,fy,jf,kW,lV,List.all_cons,List.all_nil,one,Bool.and_self,List.length_nil,List.nil_append,List.getElem?_cons_zero,List.getElem?_cons_succ,gN,gf,eL,e9,sj,oW,Nat.zero_add,jU,gR hn]) rfl
 unfold iq rc;simp -implicitDefEqProofs only[eV,eY,fy,jf,kW,ln,List.all_cons,List.all_nil,one,Bool.and_self,List.length_nil,List.nil_append,List.getElem?_cons_zero,gN,gf,eL,Nat.zero_add,lk,li,jU,List.drop_zero,h1]
theorem wz:fK φ [.i .i64 (.ofNat 0)]=some (rc 0):=by kernel_rfl
theorem Pf:fK φ [.i .i64 (.ofNat 1)]=some (rc 1):=by kernel_rfl
theorem Pe:fK φ [.i .i64 (.negSucc 0)]=some (rc (-1)):=by kernel_rfl
end
def q3(q:Rat):Q3:=(decide (q.num<0),q.num.natAbs,q.den)
def rs(l:Row):List D:=qs (l.map q3)
def rcs(q:Rat):List D:=[.b (decide (q.num<0)),.n q.num.natAbs,.n q.den]
section
variable {bs:List Blk} {l:Row} {b:Blk} {i k n m c:Nat} {ex:Bool} {s:LS} {K:D→LS→Rs} {kk:IntKind} {q p:Rat} {φ:Nat}
theorem ji:(rs l).length=l.length*3:=by unfold rs;rw[Fg,aI]
theorem JH{a b:Row}:rs (a++b)=rs a++rs b:=by unfold rs;rw[aW,xn]
theorem B2(h:i<l.length):((rs l).drop (i*3)).take 3=rcs (ent l i):=by
 unfold rs;rw[Wk (q:=q3 (ent l i))]
 ·rfl
 ·rw[ae,aB h];unfold ent;rw[aD,aB h];rfl
theorem F6:(rs l).take (n*3)=rs (l.take n):=by unfold rs;rw[Ff,dp]
theorem W6(h:i<l.length):lay (i*3) (rcs q) (rs l)=some (rs (l.set i q)):=by
 unfold rs;rw[show rcs q=qD (q3 q)from rfl,JR (by rw[aI];exact h),d5]
theorem oY(l:Row):(rs l).all pY=true:=LH _
theorem qE(hn:l.length=n)(h:i<n):(eJ 3 s (.tree (rs l) n ex) (.i kk (.ofNat i)) λa s=>eT 3 s a K)=K (rc (ent l i)) s:=by
 refine th (v8 h (by rw[ji];omega)) ?_;refine th (ZA (by rw[ji];omega)) ?_;rw[B2 (by omega)];rfl
theorem Ct(hb:bs[k]?=some b)(hc:b.cs=rs l)(hl:b.st.live=true)(h:i<n)(h':i<l.length):(eJ 3 (mem bs) (.sl k 0 n c 3 ex) (.i kk (.ofNat i)) λa s=>eT 3 s a K)=K (rc (ent l i)) (mem bs):=by
 refine th (Ah hb hl h) ?_;rw[aV];refine th (N5 hb hl (by rw[hc,ji];omega)) ?_;rw[hc,B2 h'];rfl
theorem Ir(hb:bs[k]?=some ⟨rs l,.rw⟩)(h:i<n)(h':i<l.length):(eJ 3 (mem bs) (.sl k 0 n c 3 ex) (.i kk (.ofNat i)) λa s=>eU 3 s a (rc q) K)=K .u (mem (bs.set k ⟨rs (l.set i q),.rw⟩)):=by
 refine th (Ah hb rfl h) ?_;rw[aV];exact Gu hb rfl (hx:=rfl) (hn:=rfl) (h1:=rfl) (hl:=W6 h')
theorem yE{zero:List D}(hz:zero.length=3):(gG zero (mem bs) λx s=>eU 3 s x (rc q) λ_ s=>K x s)=K (.ptr bs.length 0) (mem (bs++[⟨rcs q,.rw⟩])):=by
 refine th OO ?_;refine th (Gu (b:=⟨zero,.rw⟩) (cs':=rcs q) (by simp) rfl (hx:=rfl) (hn:=rfl) (h1:=rfl) (hl:=?_)) ?_
 ·match zero,hz with
  |[a,b,c],_=>rfl
 ·rw[cO _ _ (aE _),bt,d7]
theorem xJ(hb:bs[k]?=some ⟨rcs q,.rw⟩):eT 3 (mem bs) (.ptr k 0) K=K (rc q) (mem bs):=by
 refine th (N5 hb rfl (aE 3)) ?_;rfl
theorem YY{l':List D}(hb:bs[k]?=some ⟨l',.rw⟩)(hl:l'.length=3):eU 3 (mem bs) (.ptr k 0) (rc q) K=K .u (mem (bs.set k ⟨rcs q,.rw⟩)):=by
 refine Gu hb rfl (hx:=rfl) (hn:=rfl) (h1:=rfl) (hl:=?_)
 match l',hl with
 |[a,b,c],_=>rfl
theorem NI{l':List D}(hb:bs[k]?=some ⟨l',.rw⟩)(hl:l'.length=3):(eU 3 (mem bs) (.ptr k 0) (rc q) λ_ s=>eT 3 s (.ptr k 0) λx _=>eW false s x some)=some (rc q):=by
 refine th (YY hb hl) (th (xJ (by rw[a7 (ef hb)])) re3)
theorem t6{own:Bool}{cs:List D}:eW own s (.tree cs n ex) some=some (.tree cs n ex):=by
 unfold eW;rw[kx];show uO (mT own s.get fj (.tree cs n ex)) some=_;rw[show mT own s.get fj (.tree cs n ex)=some (.tree cs n ex) by cases own<;>rfl,gV];rfl
theorem jk{M:List D→Option D}{r:D}(h:M [rc p]=some r)(hp:pt r=true):eS M [rc p] s K=K r s:=xQ h hp s K
theorem oZ{M:List D→Option D}{r:D}(h:M [rc p,rc q]=some r)(hp:pt r=true):eS M [rc p,rc q] s K=K r s:=GG h hp s K
theorem Vd{cs:List D}(hl:cs.length=n*m)(hh:k≤n)(mx:Option D)(hm:mx=none∨mx=some (.i kk (.ofNat k))):∃e,kn m s (.tree cs n ex) none (some (.i kk (.ofNat k))) mx K=K (.tree (cs.take (k*m)) k e) s:=by
 rcases hm with rfl|rfl
 ·refine⟨cnd ex (Nat.beq k n) false,?_⟩;show(cnd (Nat.ble n n) (cnd (Nat.ble k n) (cnd (Nat.ble 0 k) (cnd (Nat.beq cs.length (Nat.mul n m)) (jN (Nat.mul 0 m) cs λcs=>frc (Nat.sub k 0) λn'=>iw (Nat.mul n' m) cs λcs=>my (cnd ex (Nat.beq k n) false) λex=>K (.tree cs n' ex) s) none) none) none) none)=_;rw[aH (aE n),aH hh,aH (a9 k),hl,show Nat.beq (n*m) (Nat.mul n m)=true from ei _,gE,fB];simp only[eL];rw[show cs.drop (Nat.mul 0 m)=cs by show cs.drop (0*m)=cs;rw[bT];rfl,gu,aC (by rw[hl];exact aL _ hh),ij];rfl
 ·refine⟨Nat.beq k k,?_⟩;show(cnd (Nat.ble k n) (cnd (Nat.ble k k) (cnd (Nat.ble 0 k) (cnd (Nat.beq cs.length (Nat.mul n m)) (jN (Nat.mul 0 m) cs λcs=>frc (Nat.sub k 0) λn'=>iw (Nat.mul n' m) cs λcs=>my (Nat.beq k k) λex=>K (.tree cs n' ex) s) none) none) none) none)=_;rw[aH (aE k),aH hh,aH (a9 k),hl,show Nat.beq (n*m) (Nat.mul n m)=true from ei _,gE,fB];simp only[eL];rw[show cs.drop (Nat.mul 0 m)=cs by show cs.drop (0*m)=cs;rw[bT];rfl,gu,aC (by rw[hl];exact aL _ hh),ij];rfl
theorem Ep{X i:D}{z n:Nat}:(eI (.b true) true (λk=>eJ z s X i k) s λx s=>eI (.b true) true (λk=>eT n s x k) s K)=eJ z s X i λa s=>eT n s a K:=rfl
theorem yZ:∀{l:Row}{n:Nat},n≤l.length→(∀i,n≤i→ent l i=0)→(n=0∨ent l (n-1)≠0)→fG l=l.take n
 |[],n,hn,_,_=>by simp[fG]
 |x::l,0,_,hz,_=>by rw[vk λi=>hz i (a9 _)];rfl
 |x::l,n+1,hn,hz,hl=>by
  have hl:ent (x::l) n≠0:=by simpa using hl
  have ih:=yZ (l:=l) (n:=n) (by simpa using hn) (λi hi=>hz (i+1) (by omega)) (by
   cases n with
   |zero=>exact Or.inl rfl
   |succ n=>exact Or.inr hl)
  unfold fG;rw[ih,aF]
  ·rfl
  ·rintro ⟨h1,h2⟩
   cases n with
   |zero=>exact hl h2
   |succ n=>
    have h3:=congrArg List.length h1;simp only[bD]at hn;rw[aZ,bS (by omega)]at h3;simp at h3
theorem JW(hn:l.length=n)(hs:n<9223372036854775807):∀(k f:Nat),k≤n→k<f→(∀i,k≤i→ent l i=0)→
 ∃e,lp (λ(_ _:D)(_:LS)=>none) (pF φ) f (.tree (rs l) n ex) (.i .i64 (.ofNat k)) s=some (.tree (rs (fG l)) (fG l).length e):=by
 have fin:∀k,k≤n→(∀i,k≤i→ent l i=0)→(k=0∨ent l (k-1)≠0)→∃e,(kn 3 s (.tree (rs l) n ex) none (some (.i .i64 (.ofNat k))) (some (.i .i64 (.ofNat k))) λx15 s=>eW false s x15 some)=some (.tree (rs (fG l)) (fG l).length e):=by
  intro k hk hz hl;obtain⟨e,he⟩:=Vd (s:=s) (K:=λx15 s=>eW false s x15 some) (cs:=rs l) (n:=n) (m:=3) (k:=k) (ex:=ex) (kk:=.i64) (by rw[ji,hn]) hk (some (.i .i64 (.ofNat k))) (Or.inr rfl);have h1:=yZ (l:=l) (n:=k) (by omega) hz hl;refine⟨e,he.trans ?_⟩;rw[t6,F6,h1,aZ,bS (by omega)]
 intro k
 induction k with
 |zero=>
  intro f hk hf hz;obtain⟨f,rfl⟩:∃q,f=q+1:=⟨f-1,by omega⟩
  obtain⟨e,he⟩:=fin 0 (a9 _) hz (Or.inl rfl);refine⟨e,?_⟩;rw[eM];unfold pF;exact th (pX (by omega)) (th fX (th fX (th fX (th fX (th fX (th fX (th gD (th eP he))))))))
 |succ k ih=>
  intro f hk hf hz;obtain⟨f,rfl⟩:∃q,f=q+1:=⟨f-1,by omega⟩
  by_cases h0:ent l k=0
  ·obtain⟨e,he⟩:=ih f (by omega) (by omega) (λi hi=>by
    by_cases h:i=k
    ·rw[h];exact h0
    ·exact hz i (by omega))
   refine⟨e,?_⟩;rw[eM];unfold pF;refine th (nU (by omega)) (th eo (th eo (th eo (th (gW (by omega) (by omega)) (th Ep ?_)))));rw[a8];refine th (qE hn (by omega)) (th eo (th (jk sP rfl) ?_));rw[aP h0];refine th fQ (th eO (th (gW (by omega) (by omega)) ?_));rw[a8];exact he
  ·obtain⟨e,he⟩:=fin (k+1) (by omega) hz (Or.inr h0);refine⟨e,?_⟩;rw[eM];unfold pF;refine th (nU (by omega)) (th eo (th eo (th eo (th (gW (by omega) (by omega)) (th Ep ?_)))));rw[a8];refine th (qE hn (by omega)) (th eo (th (jk sP rfl) ?_));rw[aN h0];exact th fQ (th eP he)
theorem Pp(hn:l.length=n)(hs:n<9223372036854775807)(hφ:n<φ):∃e,i9 φ [.tree (rs l) n ex]=some (.tree (rs (fG l)) (fG l).length e):=by
 obtain⟨e,he⟩:=JW (φ:=φ) (ex:=ex) (s:=s0) hn hs n φ (aE _) hφ (λi hi=>gJ (by omega));refine⟨e,?_⟩;unfold i9;dsimp only[eV,eY];exact th fO he
end
section
variable {bs:List Blk} {l f g:Row} {b:Blk} {i k n m c N M Df Dg:Nat} {ex:Bool} {s:LS} {K:D→LS→Rs} {kk:IntKind} {q p:Rat} {φ:Nat}
def z3:Q3:=(false,0,0)
def fl3(l:Row)(m:Nat):List D:=qs (l.map q3++List.replicate m z3)
theorem Eu:fl3 l 0=rs l:=by unfold fl3 rs;rw[List.replicate_zero,ba]
theorem Et(n:Nat):oa n [.b false,.n 0,.n 0]=fl3 [] n:=by rw[HR];rfl
theorem OZ{n:Nat}(hb:bs[k]?=some ⟨fl3 l (m+1),.rw⟩)(h:l.length<n):(eJ 3 (mem bs) (.sl k 0 n c 3 ex) (.i kk (.ofNat l.length)) λa s=>eU 3 s a (rc q) K)=K .u (mem (bs.set k ⟨fl3 (l++[q]) m,.rw⟩)):=by
 refine th (Ah hb rfl h) ?_;rw[aV];refine Gu hb rfl (hx:=rfl) (hn:=rfl) (h1:=rfl) (hl:=?_);show lay (l.length*3) (qD (q3 q)) (qs (l.map q3++List.replicate (m+1) z3))=_;rw[JR (by simp)];congr 2;rw[aW,bV,cO _ _ (by simp),aI,bt,List.replicate_succ,d7];rfl
theorem xt{a:Row}{v:Vec}(h:a.length=n)(he:∀i,i<n→ent a i=v i):a=lst n v:=by
 rw[←Cq (l:=a),h];unfold lst;exact dS λi hi=>he i (di.1 hi)
theorem rO{v:Vec}:lst (i+1) v=lst i v++[v i]:=by unfold lst;rw[cw,aW];rfl
theorem Kw{own:Bool}(ho:own=false)(hb:bs[k]?=some b)(hc:b.cs=rs l)(hl:b.st.live=true)(hn:l.length=n):∃e,eW own (mem bs) (.sl k 0 n c 3 ex) some=some (.tree (rs l) n e):=by
 subst ho;refine⟨ex&&c==n,?_⟩;unfold eW;rw[kx];show uO (mT false (mem bs).get fj (.sl k 0 n c 3 ex)) some=_;have h1:res (mem bs).get 60 (.sl k 0 n c 3 ex)=some (.tree (rs l) n (ex&&c==n),[k]):=by
  refine tI (n:=59) (r:=rs l) (ls:=[]) (by rw[kj];exact hb) hl ?_ (jV (k:=58) _ (oY l));unfold cut;rw[hc,am,aM (by rw[ji,hn];exact aE _),aC (by rw[ji,hn])]
 have:mT false (mem bs).get fj (.sl k 0 n c 3 ex)=some (.tree (rs l) n (ex&&c==n)):=by
  show(match wy (res (mem bs).get 60 (.sl k 0 n c 3 ex))with
   |some (d,o,ls)=>if o.all λl=> !ls.contains l then some d else none
   |none=>none)=_
  rw[h1];rfl
 rw[this,gV];rfl
theorem Co{s:LS}{j:Nat}{kk:List D→List Nat→Rs}:∀cs:List D,cs.all pY=true→mg (iX s (j+1)) cs kk=kk cs []:=by
 intro cs
 induction cs generalizing kk with
 |nil=>intro _;rfl
 |cons d cs ih=>
  intro h;simp only[cH,ai]at h;have hd:∀F:D→List Nat→Rs,iX s (j+1) d F=F d []:=by
   intro F;cases d<;>first|rfl|(cases h.1;done)
  show(iX s (j+1) d λy a=>mg (iX s (j+1)) cs λys b=>ki a b λab=>kk (y::ys) ab)=_;rw[hd,ih h.2];rfl
theorem Od{cs:List D}(hc:cs.take (n*3)=rs l)(hn:l.length=n):n*3≤cs.length:=by
 have:=congrArg List.length hc;rw[aZ,ji,hn]at this;omega
theorem F8{F:D→List Nat→Rs}{j:Nat}(hb:bs[k]?=some b)(hc:b.cs.take (n*3)=rs l)(hl:b.st.live=true)(hn:l.length=n):∃e,iX (mem bs) (j+2) (.sl k 0 n c 3 ex) F=F (.tree (rs l) n e) [k]:=by
 have hle:=Od hc hn;refine⟨cnd ex (Nat.beq c n) false,?_⟩;show(jL (mem bs) k λb=>cnd (lv b.st) (jN 0 b.cs λr=>iw (Nat.mul n 3) r λr=>mg (iX (mem bs) (j+1)) r λcs ls=>my (cnd ex (Nat.beq c n) false) λex=>F (.tree cs n ex) (k::ls)) none)=_;rw[gg hb,rN,hl,eL,gE,am,gu,show Nat.mul n 3=n*3 from rfl,aC hle,hc,Co _ (oY l),ij]
theorem xy(hb:bs[k]?=some b){F:LS→Rs}:vI [k] (mem bs) F=F (mem (bs.set k ⟨b.cs,fzS b.st⟩)):=by
 show(jL (mem bs) k λb=>pL (mem bs) k ⟨b.cs,fzS b.st⟩ λs=>F s)=_;rw[gg hb,oj (ef hb)]
theorem RC{M:List D→Option D}{cs:List D}{n':Nat}(hb:bs[k]?=some b)(hc:b.cs.take (n*3)=rs l)(hl:b.st.live=true)(hn:l.length=n)(h:∀ex',∃e,M [.tree (rs l) n ex']=some (.tree cs n' e)):∃e,eS M [.sl k 0 n c 3 ex] (mem bs) K=K (.tree cs n' e) (mem (bs.set k ⟨b.cs,fzS b.st⟩)):=by
 obtain⟨e1,h1⟩:=F8 (bs:=bs) (c:=c) (ex:=ex) (j:=58) (F:=λy a=>ki a [] λab=>ob (M [y]) λr=>iz (mem bs) ab r K) hb hc hl hn;obtain⟨e2,h2⟩:=h e1;refine⟨e2,h1.trans ?_⟩;rw[gL,h2,gN];unfold iz;rw[kx];show vI [k] (mem bs) (λs=>K (.tree cs n' e2) s)=_;rw[xy hb]
theorem oe(hn:l.length=n):(rs l).take (n*3)=rs l:=aM (by rw[ji,hn];exact aE _)
theorem Sz(hb:bs[k]?=some ⟨rs l,.rw⟩)(hn:l.length=n)(hs:n<1000000000)(hφ:1000000000≤φ):∃e,(eS (i9 φ) [.sl k 0 n c 3 ex] (mem bs) λx s=>eW false s x some)=some (.tree (rs (fG l)) (fG l).length e):=by
 obtain⟨e,he⟩:=RC (bs:=bs) (c:=c) (ex:=ex) (M:=i9 φ) (K:=λx s=>eW false s x some) hb (oe hn) rfl hn (λex'=>Pp hn (by omega) (by omega));exact⟨e,he.trans t6⟩
theorem Wl(hn:l.length=n):rZ φ [.tree (rs l) n ex,.i .i64 (.ofNat i)]=some (rc (ent l i)):=by
 unfold rZ;dsimp only[eV,eY];rw[←fw];refine th OO (th (gA (cQ i)) (th fg (th fg (th fg (th fO (th fg ?_))))));by_cases h:n≤i
 ·refine th (qR h) (th gD (th eO (th (fF LI) ?_)));rw[gJ (by omega)];exact NI (k:=0) rfl rfl
 ·exact th (zj h) (th gD (th eP (th (qE hn (by omega)) (NI (k:=0) rfl rfl))))
theorem PA(hm:l.length=m)(hs:n<1000000000):∀(j i f:Nat)(bs:List Blk),i+j=n→j<f→bs[0]?=some ⟨fl3 (lst i (ent l)) j,.rw⟩→
 ∃e,lp (λ(_ _ _ _:D)(_:LS)=>none) (uG φ) f (.tree (rs l) m ex) (.sl 0 0 n n 3 true) (.i .i64 (.ofNat n)) (.i .i64 (.ofNat i)) (mem bs)=some (.tree (rs (lst n (ent l))) n e):=by
 intro j
 induction j with
 |zero=>
  intro i f bs hi hf hb;obtain⟨f,rfl⟩:∃q,f=q+1:=⟨f-1,by omega⟩
  have:i=n:=by omega
  subst this;rw[Eu]at hb;obtain⟨e,he⟩:=Kw (own:=false) (c:=i) (ex:=true) rfl hb rfl rfl (gp);refine⟨e,?_⟩;rw[eM];unfold uG;exact th (gA (by omega)) (th eP he)
 |succ j ih=>
  intro i f bs hi hf hb;obtain⟨f,rfl⟩:∃q,f=q+1:=⟨f-1,by omega⟩
  obtain⟨e,he⟩:=ih (i+1) f (bs.set 0 ⟨fl3 (lst (i+1) (ent l)) j,.rw⟩) (by omega) (by omega) (by rw[a7 (ef hb)]);refine⟨e,?_⟩;rw[eM];unfold uG;refine th (fe (by omega)) (th eO (th (fF (Wl hm)) ?_));have hw:=OZ (q:=ent l i) (n:=n) (c:=n) (ex:=true) (kk:=.i64) (K:=λ_ s=>eZ (.i .i64 (.ofNat i)) (.i .i64 (.ofNat 1)) λx13=>lp (λ(_ _ _ _:D)(_:LS)=>none) (uG φ) f (.tree (rs l) m ex) (.sl 0 0 n n 3 true) (.i .i64 (.ofNat n)) x13 s) hb (by rw[gp];omega);rw[gp]at hw;refine hw.trans (th (fH (by omega)) ?_);rw[←rO];exact he
theorem Yg(hm:l.length=m)(hs:n<1000000000)(hφ:1000000000≤φ):∃e,uH φ [.tree (rs l) m ex,.i .i64 (.ofNat n)]=some (.tree (rs (lst n (ent l))) n e):=by
 obtain⟨e,he⟩:=PA (φ:=φ) (ex:=ex) hm hs n 0 φ [⟨fl3 [] n,.rw⟩] (by omega) (by omega) rfl;refine⟨e,?_⟩;unfold uH;dsimp only[eV,eY];rw[←fw];refine th (Dx rfl (by omega) (by omega)) (th mX ?_);rw[Et];exact he
theorem vO(hD:0<Df)(h:Ht Df N q)(h1:Lg KB Df)(h2:Lg KB N):Qz KB q:=by
 obtain⟨a,b⟩:=MF hD h;exact⟨qo h2 a,qo h1 b⟩
theorem Q5{X Y:D}(hs:n<1000000000){P:Option D→Prop}(hφ:1000000000≤φ)(hX:∀s K,ek X s K=K (.i .i64 (.ofNat m)) s)(hR:∀bs,bs[0]?=some ⟨rs (lst n (λ_=>0)),.rw⟩→P (lp (λ(_ _ _ _ _:D)(_:LS)=>none) (ml φ) φ Y (.sl 0 0 n n 3 true) X (.i .i64 (.ofNat m)) (.i .i64 (.ofNat 0)) (mem bs))):∀(j i f:Nat)(bs:List Blk),i+j=n→j<f→bs[0]?=some ⟨fl3 (lst i (λ_=>0)) j,.rw⟩→
 P (lp (λ(_ _ _ _ _:D)(_:LS)=>none) (mj φ) f X Y (.sl 0 0 n n 3 true) (.i .i64 (.ofNat n)) (.i .i64 (.ofNat i)) (mem bs)):=by
 intro j
 induction j with
 |zero=>
  intro i f bs hi hf hb;obtain⟨f,rfl⟩:∃q,f=q+1:=⟨f-1,by omega⟩
  have:i=n:=by omega
  subst this;rw[Eu]at hb;have h1:=hR bs hb;rw[eM];unfold mj;rw[gA (bC i),eP,hX];exact h1
 |succ j ih=>
  intro i f bs hi hf hb;obtain⟨f,rfl⟩:∃q,f=q+1:=⟨f-1,by omega⟩
  have h1:=ih (i+1) f (bs.set 0 ⟨fl3 (lst (i+1) (λ_=>0)) j,.rw⟩) (by omega) (by omega) (by rw[a7 (ef hb)]);have hw:=OZ (q:=0) (n:=n) (c:=n) (ex:=true) (kk:=.i64) (K:=λ_ s=>eZ (.i .i64 (.ofNat i)) (.i .i64 (.ofNat 1)) λx24=>lp (λ(_ _ _ _ _:D)(_:LS)=>none) (mj φ) f X Y (.sl 0 0 n n 3 true) (.i .i64 (.ofNat n)) x24 s) hb (by rw[gp];omega);rw[gp]at hw;have e:lp (λ(_ _ _ _ _:D)(_:LS)=>none) (mj φ) (f+1) X Y (.sl 0 0 n n 3 true) (.i .i64 (.ofNat n)) (.i .i64 (.ofNat i)) (mem bs)=lp (λ(_ _ _ _ _:D)(_:LS)=>none) (mj φ) f X Y (.sl 0 0 n n 3 true) (.i .i64 (.ofNat n)) (.i .i64 (.ofNat (i+1))) (mem (bs.set 0 ⟨fl3 (lst (i+1) (λ_=>0)) j,.rw⟩)):=by
   rw[eM];unfold mj;refine th (fe (by omega)) (th eO (th (fF LI) (hw.trans (th (fH (by omega)) ?_))));rw[←rO];rfl
  rw[e];exact h1
def paV(f g:Row)(i j:Nat):Vec:=λk=>pmV f g i k+(if i≤k∧k<i+j then ent f i*ent g (k-i)else 0)
theorem Yp:paV f g i 0=pmV f g i:=by
 funext k;unfold paV;rw[aF (by omega)];grind
theorem Tp(hg:g.length=m):paV f g i m=pmV f g (i+1):=by
 funext k;unfold paV;rw[zY];by_cases h:i≤k
 ·rw[aC h];by_cases h1:k<i+m
  ·rw[aC ⟨h,h1⟩]
  ·rw[aF (by omega),gJ (r:=g) (i:=k-i) (by omega)];grind
 ·rw[aF (by omega),aF h]
theorem Ws{j:Nat}:paV f g i j (i+j)=pmV f g i (i+j):=by unfold paV;rw[aF (by omega)];grind
theorem Tl{j:Nat}:paV f g i (j+1) (i+j)=pmV f g i (i+j)+ent f i*ent g j:=by
 unfold paV;rw[aC (by omega),show i+j-i=j by omega]
theorem Tk{j:Nat}(h:k≠i+j):paV f g i (j+1) k=paV f g i j k:=by
 unfold paV;by_cases h1:i≤k∧k<i+j
 ·rw[aC h1,aC (by omega)]
 ·rw[aF h1,aF (by omega)]
theorem zx{l:Row}(h:i<l.length):ent (l.set i q) k=if k=i then q else ent l k:=by
 unfold ent;simp only[aD];by_cases hk:k=i
 ·subst hk;rw[a7 h,aC rfl];rfl
 ·rw[bU (Ne.symm hk),aF hk]
theorem gI{bs:List Blk}{b x:Blk}{k:Nat}(h:bs[k]?=some b):(bs++[x])[k]?=some b:=by rw[bO (ef h)];exact h
theorem Dy{bs:List Blk}{q:Rat}{K:D→LS→Rs}:eT 3 (mem (bs++[⟨rcs q,.rw⟩])) (.ptr bs.length 0) K=K (rc q) (mem (bs++[⟨rcs q,.rw⟩])):=xJ (by simp)
structure MB (f g:Row) (Df N Dg M:Nat):Prop where
 hf:Hb Df N f
 hg:Hb Dg M g
 d0:0<Df
 e0:0<Dg
 l1:Lg KB Df
 l2:Lg KB N
 l3:Lg KB Dg
 l4:Lg KB M
 l5:Lg KB (Df*Dg)
 l6:Lg KB ((f.length+1)*(N*M))
theorem MB.qf(h:MB f g Df N Dg M)(i:Nat):Qz KB (ent f i):=vO h.d0 (h.hf i) h.l1 h.l2
theorem MB.qg(h:MB f g Df N Dg M)(i:Nat):Qz KB (ent g i):=vO h.e0 (h.hg i) h.l3 h.l4
theorem MB.qp(h:MB f g Df N Dg M)(i j:Nat):Qz KB (ent f i*ent g j):=
 vO (co h.d0 h.e0) (xS (h.hf i) (h.hg j)) h.l5 (qo h.l6 (by rw[aS,bG];omega))
theorem MB.qs(h:MB f g Df N Dg M)(hi:i≤f.length)(k:Nat):Qz KB (pmV f g i k):=
 vO (co h.d0 h.e0) (QK h.hf h.hg) h.l5 (qo h.l6 (aL _ (by omega)))
theorem XA{X:D}(hB:MB f g Df N Dg M)(hn:f.length=n)(hm:g.length=m)(hc:c=n+m-1)(hs:n+m<1000000000)(hφ:3000000000≤φ){ey:Bool}{j33:D→D→D→D→D→LS→Rs}(hi:i<n){P:Option D→Prop}(hR:∀bs out,bs[0]?=some ⟨rs out,.rw⟩→out.length=c→(∀k,k<c→ent out k=pmV f g (i+1) k)→P (j33 (.tree (rs g) m ey) (.sl 0 0 c c 3 true) X (.i .i64 (.ofNat n)) (.i .i64 (.ofNat i)) (mem bs))):∀(t j fu k:Nat)(bs:List Blk)(out:Row),j+t=m→t<fu→bs[0]?=some ⟨rs out,.rw⟩→bs[k]?=some ⟨rcs (ent f i),.rw⟩→k≠0→out.length=c→(∀k,k<c→ent out k=paV f g i j k)→
 P (lp (λ(_ _ _ _ _ _ _ _ _ _:D)(_:LS)=>none) (n6 φ j33) fu (.tree (rs g) m ey) (.sl 0 0 c c 3 true) (.i .i64 (.ofNat i)) (.ptr k 0) X (.i .i64 (.ofNat n)) (.i .i64 (.ofNat i)) (.tree (rs g) m ey) (.i .i64 (.ofNat m)) (.i .i64 (.ofNat j)) (mem bs)):=by
 intro t
 induction t with
 |zero=>
  intro j fu k bs out hj hf h0 hk hk0 hl hv;obtain⟨fu,rfl⟩:∃q,fu=q+1:=⟨fu-1,by omega⟩
  have:j=m:=by omega
  subst this;rw[eM];unfold n6;rw[gA (bC j),eP];exact hR bs out h0 hl (λk hk=>by rw[hv k hk,Tp hm])
 |succ t ih=>
  intro j fu k bs out hj hf h0 hk hk0 hl hv;obtain⟨fu,rfl⟩:∃q,fu=q+1:=⟨fu-1,by omega⟩
  have e1:ent out (i+j)=pmV f g i (i+j):=by rw[hv _ (by omega),Ws]
  have h1:=ih (j+1) fu k ((bs++[(⟨rcs (ent g j),.rw⟩:Blk)]).set 0 ⟨rs (out.set (i+j) (pmV f g i (i+j)+ent f i*ent g j)),.rw⟩) (out.set (i+j) (pmV f g i (i+j)+ent f i*ent g j)) (by omega) (by omega) (by rw[a7 (by simp)]) (by rw[bU (Ne.symm hk0)];exact gI hk) hk0 (by rw[bB];exact hl) (λk hk=>by
   rw[zx (by omega)];by_cases h:k=i+j
   ·rw[aC h,h,Tl]
   ·rw[aF h,hv k hk,Tk h])
  have e:lp (λ(_ _ _ _ _ _ _ _ _ _:D)(_:LS)=>none) (n6 φ j33) (fu+1) (.tree (rs g) m ey) (.sl 0 0 c c 3 true) (.i .i64 (.ofNat i)) (.ptr k 0) X (.i .i64 (.ofNat n)) (.i .i64 (.ofNat i)) (.tree (rs g) m ey) (.i .i64 (.ofNat m)) (.i .i64 (.ofNat j)) (mem bs)=
   lp (λ(_ _ _ _ _ _ _ _ _ _:D)(_:LS)=>none) (n6 φ j33) fu (.tree (rs g) m ey) (.sl 0 0 c c 3 true) (.i .i64 (.ofNat i)) (.ptr k 0) X (.i .i64 (.ofNat n)) (.i .i64 (.ofNat i)) (.tree (rs g) m ey) (.i .i64 (.ofNat m)) (.i .i64 (.ofNat (j+1))) (mem ((bs++[(⟨rcs (ent g j),.rw⟩:Blk)]).set 0 ⟨rs (out.set (i+j) (pmV f g i (i+j)+ent f i*ent g j)),.rw⟩)):=by
   rw[eM]
   conv=>lhs;unfold n6
   refine th (fe (by omega)) (th eO (th (qE hm (by omega)) (th (yE rfl) (th (fH (by omega)) (th (fH (by omega)) (th (Ct (gI h0) rfl rfl (by omega) (by omega)) (th (xJ (gI hk)) (th (xJ (by simp)) (th (oZ (Ps (hB.qf i) (hB.qg j) hφ) rfl) ?_)))))))));rw[e1];exact th (oZ (Yn (hB.qs (by omega) (i+j)) (hB.qp i j) hφ) rfl) (th (Ir (gI h0) (by omega) (by omega)) (fH (by omega)))
  rw[e];exact h1
theorem Wz(hB:MB f g Df N Dg M)(hn:f.length=n)(hm:g.length=m)(hc:c=n+m-1)(hs:n+m<1000000000)(hφ:3000000000≤φ){ex ey:Bool}:∀(t i fu:Nat)(bs:List Blk)(out:Row),i+t=n→t<fu→bs[0]?=some ⟨rs out,.rw⟩→out.length=c→(∀k,k<c→ent out k=pmV f g i k)→
 ∃e,lp (λ(_ _ _ _ _:D)(_:LS)=>none) (ml φ) fu (.tree (rs g) m ey) (.sl 0 0 c c 3 true) (.tree (rs f) n ex) (.i .i64 (.ofNat n)) (.i .i64 (.ofNat i)) (mem bs)=some (.tree (rs (jy f g)) (jy f g).length e):=by
 intro t
 induction t with
 |zero=>
  intro i fu bs out hi hf h0 hl hv;obtain⟨fu,rfl⟩:∃q,fu=q+1:=⟨fu-1,by omega⟩
  have:i=n:=by omega
  subst this;have e1:out=lst c (Cf f g):=xt hl (λk hk=>by rw[hv k hk,←LN,hn]);obtain⟨e,he⟩:=Sz (φ:=φ) (bs:=bs) (c:=c) (ex:=true) h0 hl (by omega) (by omega);refine⟨e,?_⟩;rw[eM];unfold ml;refine th (gA (by omega)) (th eP (he.trans ?_));unfold jy;rw[e1,hc,hn,hm]
 |succ t ih=>
  intro i fu bs out hi hf h0 hl hv;obtain⟨fu,rfl⟩:∃q,fu=q+1:=⟨fu-1,by omega⟩
  by_cases hz:ent f i=0
  ·obtain⟨e,he⟩:=ih (i+1) fu (bs++[(⟨rcs (ent f i),.rw⟩:Blk)]) out (by omega) (by omega) (gI h0) hl (λk hk=>by rw[hv k hk,QJ hz]);refine⟨e,?_⟩;rw[eM];unfold ml;refine th (fe (by omega)) (th eO (th om (th (qE hn (by omega)) (th (yE rfl) (th Dy (th (jk sP rfl) ?_))))));rw[aP hz];exact th eO (th (fH (by omega)) he)
  ·have key:=XA (φ:=φ) (X:=.tree (rs f) n ex) (ey:=ey) (i:=i) (P:=λo=>∃e,o=some (.tree (rs (jy f g)) (jy f g).length e)) (j33:=λ(x34 x35 x36 x37 x38:D)(s:LS)=>eZ x38 (.i .i64 (.ofNat 1)) λx39=>lp (λ(_ _ _ _ _:D)(_:LS)=>none) (ml φ) fu x34 x35 x36 x37 x39 s) hB hn hm hc hs hφ (by omega) (λbs' out' g0 gl gv=>by
    obtain⟨e,he⟩:=ih (i+1) fu bs' out' (by omega) (by omega) g0 gl gv;exact⟨e,th (fH (by omega)) he⟩) m 0 φ bs.length (bs++[(⟨rcs (ent f i),.rw⟩:Blk)]) out (by omega) (by omega) (gI h0) (by simp) (by have:=ef h0;omega) hl (λk hk=>by rw[Yp];exact hv k hk)
   obtain⟨e,he⟩:=key;refine⟨e,?_⟩;rw[eM];unfold ml;refine th (fe (by omega)) (th eO (th om (th (qE hn (by omega)) (th (yE rfl) (th Dy (th (jk sP rfl) ?_))))));rw[aN hz];exact th eP (th fO he)
theorem Yj(hB:MB f g Df N Dg M)(hn:f.length=n)(hm:g.length=m)(hs:n+m<1000000000)(hφ:3000000000≤φ){ex ey:Bool}:∃e,qi φ [.tree (rs f) n ex,.tree (rs g) m ey]=some (.tree (rs (jy f g)) (jy f g).length e):=by
 by_cases hz:n=0∨m=0
 ·have e0:jy f g=[]:=by
   unfold jy;refine vk λi=>?_;rw[mW];split
   ·refine pg λt ht=>?_;rcases hz with h|h
    ·omega
    ·split
     ·rw[gJ (r:=g) (i:=i-t) (by omega)];grind
     ·rfl
   ·rfl
  refine⟨true,?_⟩;rw[e0];unfold qi;dsimp only[eV,eY];refine th fO ?_;by_cases h:n=0
  ·exact th (oo h) (th iC (th iC (th iC (th fQ (th eO zQ)))))
  ·exact th (sD h) (th fg (th fg (th fO (th fg (th (oo (by omega)) (th gD (th eO zQ)))))))
 ·obtain⟨e,he⟩:=Q5 (φ:=φ) (m:=n) (n:=n+m-1) (X:=.tree (rs f) n ex) (Y:=.tree (rs g) m ey) (by omega) (P:=λo=>∃e,o=some (.tree (rs (jy f g)) (jy f g).length e)) (by omega) (λs K=>fO) (λbs h0=>Wz hB hn hm rfl hs hφ n 0 φ bs (lst (n+m-1) λ_=>0) (by omega) (by omega) h0 gp (λk hk=>by rw[mW,aC hk];rfl)) (n+m-1) 0 φ [⟨fl3 [] (n+m-1),.rw⟩] (by omega) (by omega) rfl;refine⟨e,?_⟩;unfold qi;dsimp only[eV,eY];rw[←fw];refine th fO (th (sD (by omega)) (th fg (th fg (th fO (th fg (th (sD (by omega)) (th gD (th eP (th fO (th fO (th (fH (by omega)) (th (gW (by omega) (by omega)) (th (Dx rfl (by omega) (by omega)) (th mX ?_))))))))))))));rw[Et];exact he
end
section
variable {bs:List Blk} {l f g:Row} {b:Blk} {i k n m c N M Df Dg:Nat} {ex:Bool} {s:LS} {K:D→LS→Rs} {kk:IntKind} {q p:Rat} {φ:Nat}
theorem VU{z bytes:Nat}{cs:List D}(hb:bs[k]?=some ⟨[],.rw⟩)(hc:cs.length=n*z)(h1:cs.all one=true)(hs:n*bytes≤1099511627776)(hn:n≤1099511627776):
 ∃j c e bs',kJ z bytes (mem bs) (.sl k 0 0 0 z true) (.tree cs n ex) K=K (.sl j 0 n c z e) (mem bs')∧bs'[j]?=some ⟨cs,.rw⟩∧(n≠0→c=n∧e=false∧j=bs.length∧bs'=bs++[⟨cs,.rw⟩]):=by
 have hcell:∀F:List D→Nat→Rs,nL z (mem bs) (.tree cs n ex) F=F cs n:=λF=>Bo hc;by_cases h0:n=0
 ·subst h0;have:cs=[]:=ao (by omega);subst this;refine⟨k,0,true,bs.set k ⟨[],.rw⟩,?_,by rw[a7 (ef hb)],λh=>absurd rfl h⟩;show nL z (mem bs) (.tree [] 0 ex) _=_;rw[hcell];show(jL (mem bs) k λb=>cnd (wr b.st) (cnd (Nat.beq z z) (qS [] (frc (Nat.add 0 0) λtot=>cnd (Nat.ble (Nat.mul tot bytes) 1099511627776) (cnd (Nat.ble tot 1099511627776) (cnd (Nat.ble tot 0) (v6 (Nat.add 0 (Nat.mul 0 z)) [] b.cs λcs=>pL (mem bs) k ⟨cs,.rw⟩ λs=>K (.sl k 0 tot 0 z true) s) _) none) none)) none) none)=_;rw[gg hb,Bu,show Stt.rw.wr=true from rfl,eL,ei,eL,py rfl,fB,aH (show Nat.mul (Nat.add 0 0) bytes≤_ by show 0*bytes≤_;omega),aH (show Nat.add 0 0≤_ by omega),eL,eL,aH (aE 0),eL,nj];have:yc (Nat.add 0 (Nat.mul 0 z)) [] ([]:List D)=some []:=by
   rw[show Nat.add 0 (Nat.mul 0 z)=0 by show 0+0*z=0;omega];rfl
  rw[this,gN,oj (ef hb)]
 ·refine⟨bs.length,n,false,bs++[⟨cs,.rw⟩],?_,by simp,λ_=>⟨rfl,rfl,rfl,rfl⟩⟩;show nL z (mem bs) (.tree cs n ex) _=_;rw[hcell];show(jL (mem bs) k λb=>cnd (wr b.st) (cnd (Nat.beq z z) (qS cs (frc (Nat.add 0 n) λtot=>cnd (Nat.ble (Nat.mul tot bytes) 1099511627776) (cnd (Nat.ble tot 1099511627776) (cnd (Nat.ble tot 0) _ (jN 0 b.cs λr=>iw (Nat.mul 0 z) r λold=>ki old cs λcs=>cnd true (lP (mem bs) ⟨cs,.rw⟩ λs'=>K (.sl (mem bs).nx 0 tot tot z false) s') _)) none) none)) none) none)=_;rw[gg hb,Bu,show Stt.rw.wr=true from rfl,eL,ei,eL,py h1,fB,show Nat.add 0 n=n from aV n,aH (show Nat.mul n bytes≤_ from hs),aH hn,eL,eL,mY (show ¬n≤0 by omega),e9,gE,am,gu,
   aC (show Nat.mul 0 z≤([]:List D).length by show 0*z≤0;omega),gL,eL,kB,jQ]
  show K _ (mem (bs++[⟨List.take (Nat.mul 0 z) ([]:List D)++cs,.rw⟩]))=_;rw[List.take_nil];rfl
theorem Ls{zero:List D}{z:Nat}(hz:zero.length=z):ie 0 zero [] (mem bs) K=K (.sl bs.length 0 0 0 z true) (mem (bs++[⟨[],.rw⟩])):=by
 show(frc zero.length λz=>lP (mem bs) ⟨[],.rw⟩ λs'=>K (.sl (mem bs).nx 0 0 0 z true) s')=_;rw[fB,kB,jQ,hz]
theorem ut(l:Row):(rs l).all one=true:=by
 unfold rs
 induction l with
 |nil=>rfl
 |cons q l ih=>simp only[bI,qs,cH,ih];rfl
theorem JT(hn:l.length=n)(hne:l≠[])(hs:n<1000000000):pP (gO φ) [.tree (rs l) n ex]=some (.own (rs l) n 3):=by
 have hcs:∃d r,rs l=d::r:=by
  cases l with
  |nil=>exact absurd rfl hne
  |cons q l=>exact⟨_,_,rfl⟩
 obtain⟨d,r,hd⟩:=hcs;have h1:pP (gO φ) [.tree (rs l) n ex]=gO φ [.tree (rs l) n ex]:=by rw[hd];rfl
 rw[h1];unfold gO;dsimp only[eV,eY];rw[←fw];have h2:∀F:D→LS→Rs,wT false (mem []) (.tree (rs l) n ex) F=F (.b false) (mem []):=λF=>by rw[hd];rfl
 obtain⟨j,c,e,bs',a1,a2,a3⟩:=VU (bs:=[⟨[],.rw⟩]) (k:=0) (z:=3) (bytes:=40) (n:=n) (cs:=rs l) (ex:=ex) (K:=λx4 s=>eW true s x4 some) rfl (by rw[ji,hn]) (ut l) (by omega) (by omega);refine th (h2 _) (th eP (th (Ls rfl) (a1.trans ?_)));have hn0:n≠0:=by rw[←hn];exact λh=>hne (ao h)
 obtain⟨rfl,rfl,rfl,rfl⟩:=a3 hn0;rw[xl (by simp) (oY l) (by rw[ji,hn];exact aE _),oe hn]
structure DB (f g:Row) (n m Df N M:Nat):Prop where
 hn:f.length=n
 hm:g.length=m
 hm2:2≤m
 hnm:m≤n
 hs:n<1000000000
 hf:Hb Df N f
 hg:Hb 1 M g
 h1:ent g (m-1)=1
 d0:0<Df
 l1:Lg KB Df
 l2:Lg KB M
 l3:Lg KB (N*(1+M)^(n+1-m))
def msV(g:Row)(k i:Nat)(v:Vec):Vec:=λt=>if k≤t∧t<k+i then v t-v (k+g.length-1)*ent g (t-k)else v t
theorem Yv{v:Vec}:msV g k 0 v=v:=by funext t;unfold msV;rw[aF (by omega)]
theorem UC{v:Vec}(hm:g.length=m)(h1:ent g (m-1)=1):msV g k m v=stV g k v:=by
 funext t;unfold msV stV;rw[hm,h1,show(1:Rat)⁻¹ =1 by(have:=cx 1 (by decide);rwa[dM]at this),dM];by_cases h:k≤t
 ·rw[aC h];by_cases h2:t<k+m
  ·rw[aC ⟨h,h2⟩]
  ·rw[aF (by omega),gJ (r:=g) (i:=t-k) (by omega)];grind
 ·rw[aF (by omega),aF h]
theorem KR(hd:DB f g n m Df N M)(hφ:3000000000≤φ){ey er:Bool}{Q I:D}{B:Nat}{v:Vec}(hv:∀t,Ht Df B (v t))(hB:Lg KB (B*(1+M)))(hk:k+m≤n){j39:D→D→D→D→D→D→LS→Rs}{P:Option D→Prop}{q0:Nat}{qv:Row}{kc:Nat}(hq0:q0≠0)(hkc:kc≠0)
 (ip:Nat) (hip:ip≠0) (iv:Rat) (hR:∀bs r,bs[0]?=some ⟨rs r,.rw⟩→bs[q0]?=some ⟨rs qv,.rw⟩→bs[ip]?=some ⟨rcs iv,.rw⟩→r.length=n→(∀t,t<n→ent r t=stV g k v t)→P (j39 (.tree (rs g) m ey) (.sl 0 0 n n 3 er) (.i .i64 (.ofNat m)) Q I (.i .i64 (.ofNat k)) (mem bs))):
 ∀(t i fu:Nat)(bs:List Blk)(r:Row),i+t=m→t<fu→bs[0]?=some ⟨rs r,.rw⟩→bs[q0]?=some ⟨rs qv,.rw⟩→bs[ip]?=some ⟨rcs iv,.rw⟩→bs[kc]?=some ⟨rcs (v (k+m-1)),.rw⟩→r.length=n→(∀t,t<n→ent r t=msV g k i v t)→
 P (lp (λ(_ _ _ _ _ _ _ _ _:D)(_:LS)=>none) (kV φ j39) fu (.tree (rs g) m ey) (.sl 0 0 n n 3 er) (.i .i64 (.ofNat m)) Q I (.i .i64 (.ofNat k)) (.ptr kc 0) (.i .i64 (.ofNat m)) (.i .i64 (.ofNat i)) (mem bs)):=by
 have hm:=hd.hm;have hs:=hd.hs;intro t
 induction t with
 |zero=>
  intro i fu bs r hi hf h0 hq hip' hkc' hl hr;obtain⟨fu,rfl⟩:∃q,fu=q+1:=⟨fu-1,by omega⟩
  have:i=m:=by omega
  subst this;rw[eM];unfold kV;rw[gA (bC i),eP];exact hR bs r h0 hq hip' hl (λt ht=>by rw[hr t ht,UC hm hd.h1])
 |succ t ih=>
  intro i fu bs r hi hf h0 hq hip' hkc' hl hr;obtain⟨fu,rfl⟩:∃q,fu=q+1:=⟨fu-1,by omega⟩
  have e1:ent r (k+i)=v (k+i):=by rw[hr _ (by omega)];unfold msV;rw[aF (by omega)]
  have hgi:=hd.hg i;have hc:=hv (k+m-1);have hprod:=xS hc hgi;rw[aj]at hprod;have hBM:B*M≤B*(1+M):=aT _ (by omega);have hBB:B≤B*(1+M):=by rw[bA,aj];omega
  have z1:Qz KB (v (k+m-1)):=vO hd.d0 hc hd.l1 (qo hB hBB);have z2:Qz KB (ent g i):=vO dA hgi (by unfold Lg;rw[show Nat.log2 1=0 from by decide];exact a9 _) hd.l2;have z3:Qz KB (v (k+m-1)*ent g i):=vO hd.d0 hprod hd.l1 (qo hB hBM);have z4:Qz KB (v (k+i)):=vO hd.d0 (hv _) hd.l1 (qo hB hBB);have h1:=ih (i+1) fu (bs.set 0 ⟨rs (r.set (k+i) (v (k+i)-v (k+m-1)*ent g i)),.rw⟩) (r.set (k+i) (v (k+i)-v (k+m-1)*ent g i)) (by omega) (by omega) (by rw[a7 (ef h0)]) (gF (Ne.symm hq0) hq) (gF (Ne.symm hip) hip') (gF (Ne.symm hkc) hkc') (by rw[bB];exact hl) (λt ht=>by
   rw[zx (by omega)];by_cases h:t=k+i
   ·subst h;rw[aC rfl];unfold msV;rw[aC (by omega),hm,show k+i-k=i by omega]
   ·rw[aF h,hr t ht];unfold msV;by_cases h2:k≤t∧t<k+i
    ·rw[aC h2,aC (by omega)]
    ·rw[aF h2,aF (by omega)])
  have e:lp (λ(_ _ _ _ _ _ _ _ _:D)(_:LS)=>none) (kV φ j39) (fu+1) (.tree (rs g) m ey) (.sl 0 0 n n 3 er) (.i .i64 (.ofNat m)) Q I (.i .i64 (.ofNat k)) (.ptr kc 0) (.i .i64 (.ofNat m)) (.i .i64 (.ofNat i)) (mem bs)=
   lp (λ(_ _ _ _ _ _ _ _ _:D)(_:LS)=>none) (kV φ j39) fu (.tree (rs g) m ey) (.sl 0 0 n n 3 er) (.i .i64 (.ofNat m)) Q I (.i .i64 (.ofNat k)) (.ptr kc 0) (.i .i64 (.ofNat m)) (.i .i64 (.ofNat (i+1))) (mem (bs.set 0 ⟨rs (r.set (k+i) (v (k+i)-v (k+m-1)*ent g i)),.rw⟩)):=by
   rw[eM]
   conv=>lhs;unfold kV
   refine th (fe (by omega)) (th eO (th (fH (by omega)) (th (fH (by omega)) (th (Ct h0 rfl rfl (by omega) (by omega)) (th (xJ hkc') (th (qE hm (by omega)) (th (oZ (Ps z1 z2 hφ) rfl) ?_)))))));rw[e1];exact th (oZ (Ye z4 z3 hφ) rfl) (th (Ir h0 (by omega) (by omega)) (fH (by omega)))
  rw[e];exact h1
theorem CC{bs:List Blk}{k c:Nat}{b:Blk}(hb:bs[k]?=some b)(hc:b.cs.take (n*3)=rs l)(hl:b.st.live=true)(hn:l.length=n)(hs:n<1000000000)(hφ:1000000000≤φ):∃e,eS (i9 φ) [.sl k 0 n c 3 ex] (mem bs) K=K (.tree (rs (fG l)) (fG l).length e) (mem (bs.set k ⟨b.cs,fzS b.st⟩)):=
 RC hb hc hl hn (λex'=>Pp hn (by omega) (by omega))
def DvR(f g:Row)(o:Option D):Prop:=∃qs' nq e e',o=some (.tup [.tree qs' nq e,.tree (rs (n7 g f)) (n7 g f).length e'])
theorem VA(hd:DB f g n m Df N M)(hφ:3000000000≤φ){ey er:Bool}{nq:Nat}(hnq:nq=n-m+1):∀(k fu B:Nat)(bs:List Blk)(r qv:Row)(v:Vec),k≤nq→k<fu→bs[0]?=some ⟨rs r,.rw⟩→bs[1]?=some ⟨rs qv,.rw⟩→bs[2]?=some ⟨rcs 1,.rw⟩→r.length=n→qv.length=nq→(∀t,t<n→ent r t=v t)→(∀t,Ht Df B (v t))→Lg KB (B*(1+M)^k)→CY g k v=CY g nq (ent f)→
 DvR f g (lp (λ(_ _ _ _ _ _:D)(_:LS)=>none) (iu φ) fu (.tree (rs g) m ey) (.sl 0 0 n n 3 er) (.i .i64 (.ofNat m)) (.sl 1 0 nq nq 3 true) (.ptr 2 0) (ix k) (mem bs)):=by
 have hm:=hd.hm;have hs:=hd.hs;have hm2:=hd.hm2;have hnm:=hd.hnm;intro k
 induction k with
 |zero=>
  intro fu B bs r qv v hk hf h0 hq hi hl hql hr hv hB hrem;obtain⟨fu,rfl⟩:∃q,fu=q+1:=⟨fu-1,by omega⟩
  have hres:n7 g f=fG (r.take (m-1)):=by
   unfold n7;rw[hd.hn,hm,show n+1-m=nq by omega,←hrem];refine qZ λi=>?_;rw[mW,vr];by_cases h:i<m-1
   ·rw[aC h,aC h,hr i (by omega)];rfl
   ·rw[aF h,aF h]
  obtain⟨e1,h1⟩:=CC (bs:=bs) (k:=1) (c:=nq) (ex:=true) (n:=nq) (φ:=φ) (K:=λx81 s=>fA (.i .i64 (.ofNat m)) (.i .i64 (.ofNat 1)) λx82=>kn 3 s (.sl 0 0 n n 3 er) none (some x82) none λx83 s=>eS (i9 φ) [x83] s λx84 s=>eW false s (.tup [x81,x84]) some) hq (oe hql) rfl hql (by omega) (by omega);have g0:(bs.set 1 ⟨rs qv,fzS .rw⟩)[0]?=some ⟨rs r,.rw⟩:=gF (by omega) h0;obtain⟨e2,h2⟩:=CC (bs:=bs.set 1 ⟨rs qv,fzS .rw⟩) (k:=0) (c:=n) (ex:=er) (n:=m-1) (l:=r.take (m-1)) (φ:=φ) (K:=λx84 s=>eW false s (.tup [.tree (rs (fG qv)) (fG qv).length e1,x84]) some) g0 (by show(rs r).take ((m-1)*3)=_;exact F6) rfl (by rw[aZ];omega) (by omega) (by omega);refine⟨rs (fG qv),(fG qv).length,e1,e2,?_⟩;rw[hres,eM];unfold iu;exact th uB (th eP (h1.trans (th (gW (by omega) (by omega)) (th (CH g0 rfl (by omega) (by omega)) (h2.trans CT)))))
 |succ k ih=>
  intro fu B bs r qv v hk hf h0 hq hi hl hql hr hv hB hrem;obtain⟨fu,rfl⟩:∃q,fu=q+1:=⟨fu-1,by omega⟩
  have hBk:B*(1+M)≤B*(1+M)^(k+1):=by
   refine aT _ ?_;rw[ax];have:1≤(1+M)^k:=bN (by omega);have:=aL (1+M) this;omega
  have hB1:Lg KB (B*(1+M)):=qo hB hBk;have hBB:B≤B*(1+M):=by rw[bA,aj];omega
  have zc:Qz KB (v (k+m-1)):=vO hd.d0 (hv _) hd.l1 (qo hB1 hBB);have z1:Qz KB 1:=⟨by show Lg KB 1;exact a9 _,by show Lg KB 1;exact a9 _⟩
  have ec:ent r (k+m-1)=v (k+m-1):=hr _ (by omega);have hB2:Lg KB ((B+B*M)*(1+M)^k):=by
   rw[show B+B*M=B*(1+M) by rw[bA,aj],aa,aK (1+M),←ax];exact hB
  have hv2:∀t,Ht Df (B+B*M) (stV g k v t):=λt=>Ix hd.hg (by rw[hm];exact hd.h1) hv t;have pre:lp (λ(_ _ _ _ _ _:D)(_:LS)=>none) (iu φ) (fu+1) (.tree (rs g) m ey) (.sl 0 0 n n 3 er) (.i .i64 (.ofNat m)) (.sl 1 0 nq nq 3 true) (.ptr 2 0) (ix (k+1)) (mem bs)=
   eQ (.b (decide (v (k+m-1)=0)))
    (fA (.i .i64 (.ofNat k)) (.i .i64 (.ofNat 1)) λx46=>lp (λ(_ _ _ _ _ _:D)(_:LS)=>none) (iu φ) fu (.tree (rs g) m ey) (.sl 0 0 n n 3 er) (.i .i64 (.ofNat m)) (.sl 1 0 nq nq 3 true) (.ptr 2 0) x46 (mem ((bs++[(⟨rcs (v (k+m-1)),.rw⟩:Blk)]).set 1 ⟨rs (qv.set k (v (k+m-1))),.rw⟩)))
    (lp (λ(_ _ _ _ _ _ _ _ _:D)(_:LS)=>none) (kV φ (λ(x40 x41 x42 x43 x44 x45:D)(s:LS)=>fA x45 (.i .i64 (.ofNat 1)) λx46=>lp (λ(_ _ _ _ _ _:D)(_:LS)=>none) (iu φ) fu x40 x41 x42 x43 x44 x46 s)) φ (.tree (rs g) m ey) (.sl 0 0 n n 3 er) (.i .i64 (.ofNat m)) (.sl 1 0 nq nq 3 true) (.ptr 2 0) (.i .i64 (.ofNat k)) (.ptr bs.length 0) (.i .i64 (.ofNat m)) (.i .i64 (.ofNat 0)) (mem ((bs++[(⟨rcs (v (k+m-1)),.rw⟩:Blk)]).set 1 ⟨rs (qv.set k (v (k+m-1))),.rw⟩))):=by
   rw[eM]
   conv=>lhs;unfold iu
   refine th (qR (by omega)) (th eO (th om (th (fH (by omega)) (th (gW (by omega) (by omega)) (th (Ct h0 rfl rfl (by omega) (by omega)) ?_)))));rw[ec];refine th (xJ hi) (th (oZ (Ps zc z1 hφ) rfl) ?_);rw[dM];have hl1:1<bs.length:=ef hq;refine th (yE rfl) (th Dy (th (Ir (gI hq) (by omega) (by omega)) (th (xJ (q:=v (k+m-1)) ?_) (th (jk sP rfl) ?_))))
   ·rw[bU (by omega)];simp
   ·rfl
  rw[pre];have hlen:=ef hi;have G0:((bs++[(⟨rcs (v (k+m-1)),.rw⟩:Blk)]).set 1 ⟨rs (qv.set k (v (k+m-1))),.rw⟩)[0]?=some ⟨rs r,.rw⟩:=gF (by omega) (gI h0);have G1:((bs++[(⟨rcs (v (k+m-1)),.rw⟩:Blk)]).set 1 ⟨rs (qv.set k (v (k+m-1))),.rw⟩)[1]?=some ⟨rs (qv.set k (v (k+m-1))),.rw⟩:=a7 (by simp;omega);have G2:((bs++[(⟨rcs (v (k+m-1)),.rw⟩:Blk)]).set 1 ⟨rs (qv.set k (v (k+m-1))),.rw⟩)[2]?=some ⟨rcs 1,.rw⟩:=gF (by omega) (gI hi);have G3:((bs++[(⟨rcs (v (k+m-1)),.rw⟩:Blk)]).set 1 ⟨rs (qv.set k (v (k+m-1))),.rw⟩)[bs.length]?=some ⟨rcs (v (k+m-1)),.rw⟩:=by rw[bU (by omega)];simp
  have hst:CY g (k+1) v=CY g k (stV g k v):=rfl;by_cases hz:v (k+m-1)=0
  ·rw[aP hz,eO,DG (by omega)];have hsv:stV g k v=v:=Gv (by rw[hm];exact hz);rw[hst,hsv]at hrem;exact ih fu B _ r (qv.set k (v (k+m-1))) v (by omega) (by omega) G0 G1 G2 hl (by rw[bB];exact hql) hr hv (qo hB (aT _ (by rw[ax];exact Nat.le_mul_of_pos_right _ (by omega)))) hrem
  ·rw[aN hz,eP];refine KR (P:=DvR f g) (qv:=qv.set k (v (k+m-1))) hd hφ hv hB1 (by omega) (q0:=1) (by omega) (kc:=bs.length) (by omega) 2 (by omega) 1 (λbs' r' a0 a1 a2 al ar=>?_) m 0 φ _ r (by omega) (by omega) G0 G1 G2 G3 hl (λt ht=>by rw[Yv];exact hr t ht);rw[DG (by omega)];rw[hst]at hrem;exact ih fu (B+B*M) bs' r' (qv.set k (v (k+m-1))) (stV g k v) (by omega) (by omega) a0 a1 a2 al (by rw[bB];exact hql) ar hv2 hB2 hrem
theorem Ro{n':Nat}{F X:D}(hs:n<1000000000){P:Option D→Prop}{mm:D}(hR:∀bs,bs[0]?=some b→bs[1]?=some ⟨rs (lst n (λ_=>0)),.rw⟩→bs.length=2→P ((fA mm (.i .i64 (.ofNat 1)) λx24=>
 eJ 3 (mem bs) X x24 λx25 s=>
 eT 3 s x25 λx26 s=>
 eS (mn φ) [x26] s λx27 s=>
 gG [(.b false),(.n 0),(.n 0)] s λx28 s=>
 eU 3 s x28 x27 λ_ s=>
 ek F s λx29 s=>
 fA x29 mm λx30=>
 lp (λ(_ _ _ _ _ _:D)(_:LS)=>none) (iu φ) φ X (.sl 0 0 n' n' 3 false) mm (.sl 1 0 n n 3 true) x28 x30 s))):∀(j i f:Nat)(bs:List Blk),i+j=n→j<f→bs[0]?=some b→bs[1]?=some ⟨fl3 (lst i (λ_=>0)) j,.rw⟩→bs.length=2→
 P (lp (λ(_ _ _ _ _ _ _:D)(_:LS)=>none) (kU φ) f F X (.sl 0 0 n' n' 3 false) mm (.sl 1 0 n n 3 true) (.i .i64 (.ofNat n)) (.i .i64 (.ofNat i)) (mem bs)):=by
 intro j
 induction j with
 |zero=>
  intro i f bs hi hf h0 hb hl;obtain⟨f,rfl⟩:∃q,f=q+1:=⟨f-1,by omega⟩
  have:i=n:=by omega
  subst this;rw[Eu]at hb;have h1:=hR bs h0 hb hl;rw[eM];unfold kU;rw[gA (bC i),eP];exact h1
 |succ j ih=>
  intro i f bs hi hf h0 hb hl;obtain⟨f,rfl⟩:∃q,f=q+1:=⟨f-1,by omega⟩
  have h1:=ih (i+1) f (bs.set 1 ⟨fl3 (lst (i+1) (λ_=>0)) j,.rw⟩) (by omega) (by omega) (gF (by omega) h0) (by rw[a7 (ef hb)]) (by rw[bB];exact hl);have hw:=OZ (q:=0) (n:=n) (c:=n) (ex:=true) (kk:=.i64) (K:=λ_ s=>eZ (.i .i64 (.ofNat i)) (.i .i64 (.ofNat 1)) λx24=>lp (λ(_ _ _ _ _ _ _:D)(_:LS)=>none) (kU φ) f F X (.sl 0 0 n' n' 3 false) mm (.sl 1 0 n n 3 true) (.i .i64 (.ofNat n)) x24 s) hb (by rw[gp];omega);rw[gp]at hw;have e:lp (λ(_ _ _ _ _ _ _:D)(_:LS)=>none) (kU φ) (f+1) F X (.sl 0 0 n' n' 3 false) mm (.sl 1 0 n n 3 true) (.i .i64 (.ofNat n)) (.i .i64 (.ofNat i)) (mem bs)=lp (λ(_ _ _ _ _ _ _:D)(_:LS)=>none) (kU φ) f F X (.sl 0 0 n' n' 3 false) mm (.sl 1 0 n n 3 true) (.i .i64 (.ofNat n)) (.i .i64 (.ofNat (i+1))) (mem (bs.set 1 ⟨fl3 (lst (i+1) (λ_=>0)) j,.rw⟩)):=by
   rw[eM];unfold kU;refine th (fe (by omega)) (th eO (th (fF LI) (hw.trans (th (fH (by omega)) ?_))));rw[←rO];rfl
  rw[e];exact h1
theorem DvR.of{o o':Option D}(h:o=o')(h':DvR f g o'):DvR f g o:=by rw[h];exact h'
theorem Pq(hd:DB f g n m Df N M)(hφ:3000000000≤φ){ey:Bool}:DvR f g (kN φ [.tree (rs f) n ex,.tree (rs g) m ey]):=by
 have hm:=hd.hm;have hs:=hd.hs;have hm2:=hd.hm2;have hnm:=hd.hnm;have hfne:f≠[]:=λe=>by have:=hd.hn;subst e;simp at this;omega
 have hkey:=Ro (φ:=φ) (n':=n) (n:=n-m+1) (b:=⟨rs f,.rw⟩) (F:=.tree (rs f) n ex) (X:=.tree (rs g) m ey) (mm:=.i .i64 (.ofNat m)) (P:=DvR f g) (by omega) (λbs h0 h1 hl=>by
  have G0:(bs++[(⟨rcs 1,.rw⟩:Blk)])[0]?=some ⟨rs f,.rw⟩:=gI h0;have G1:(bs++[(⟨rcs 1,.rw⟩:Blk)])[1]?=some ⟨rs (lst (n-m+1) λ_=>0),.rw⟩:=gI h1;have G2:(bs++[(⟨rcs 1,.rw⟩:Blk)])[2]?=some ⟨rcs 1,.rw⟩:=by rw[←hl];simp
  have hi:=jk (s:=mem bs) (K:=λx27 s=>gG [(.b false),(.n 0),(.n 0)] s λx28 s=>
   eU 3 s x28 x27 λ_ s=>
   ek (.tree (rs f) n ex) s λx29 s=>
   fA x29 (.i .i64 (.ofNat m)) λx30=>
   lp (λ(_ _ _ _ _ _:D)(_:LS)=>none) (iu φ) φ (.tree (rs g) m ey) (.sl 0 0 n n 3 false) (.i .i64 (.ofNat m)) (.sl 1 0 (n-m+1) (n-m+1) 3 true) x28 x30 s) (HS (φ:=φ) (p:=1) (by decide)) rfl
  rw[show(1:Rat)⁻¹ =1 by(have:=cx 1 (by decide);rwa[dM]at this)]at hi;refine DvR.of (th (gW (by omega) (by omega)) (th (qE hm (by omega)) ?_)) (VA hd hφ (ey:=ey) (er:=false) rfl (n-m+1) φ N (bs++[(⟨rcs 1,.rw⟩:Blk)]) f (lst (n-m+1) λ_=>0) (ent f) (aE _) (by omega) G0 G1 G2 hd.hn gp (λt _=>rfl) hd.hf (by rw[show n-m+1=n+1-m by omega];exact hd.l3) rfl);rw[hd.h1];refine hi.trans (th (yE rfl) (th fO (th (gW (by omega) (by omega)) ?_)));rw[hl];rfl) (n-m+1) 0 φ [⟨rs f,.rw⟩,⟨fl3 [] (n-m+1),.rw⟩] (by omega) (by omega) rfl rfl rfl
 refine DvR.of ?_ hkey;unfold kN;dsimp only[eV,eY];rw[←fw];refine th (xR (JT (φ:=φ) (ex:=ex) hd.hn hfne hs)) ?_;rw[lU,jQ];refine th fO (th fO (th (gA (by omega)) (th eP (th fO (th (gW (by omega) (by omega)) (th (fH (by omega)) (th (Dx rfl (by omega) (by omega)) (th mX ?_))))))));rw[Et];rfl
theorem xB(hn:f.length=n)(hm:g.length=m)(hnm:n<m)(hs:n<1000000000)(hp:Pt f){ey:Bool}:DvR f g (kN φ [.tree (rs f) n ex,.tree (rs g) m ey]):=by
 have hres:n7 g f=f:=by
  unfold n7;rw[show f.length+1-g.length=0 by omega];show fG (lst (g.length-1) (ent f))=f
  conv=>rhs;rw[←show fG f=f from hp]
  refine qZ λi=>?_;rw[mW];split
  ·rfl
  ·rw[gJ (by omega)]
 unfold kN;dsimp only[eV,eY];rw[←fw];by_cases hf:f=[]
 ·subst hf;have hn0:n=0:=by simpa using hn.symm
  subst hn0;refine⟨[],0,true,true,?_⟩;rw[hres];refine th (fF (r:=.tree [] 0 true) rfl) (th fO (th fO (th (fe hnm) (th eO ?_))));exact CT
 ·obtain⟨e,he⟩:∃e,eW false (mem [⟨rs f,.rw⟩]) (.tup [.tree [] 0 true,.sl 0 0 n n 3 false]) some=some (.tup [.tree [] 0 true,.tree (rs f) n e]):=by
   have h1:res (mem [⟨rs f,.rw⟩]).get 60 (.sl 0 0 n n 3 false)=some (.tree (rs f) n (false&&n==n),[0]):=by
    refine tI (n:=59) (r:=rs f) (ls:=[]) (by rw[kj];rfl) rfl ?_ (jV (k:=58) _ (oY f));unfold cut;rw[am,oe hn,aC (by rw[ji,hn])]
   exact⟨_,EZ (A1:=.tree [] 0 true) (l1:=[]) rfl h1 rfl⟩
  refine⟨[],0,true,e,?_⟩;rw[hres,hn];refine th (xR (JT (φ:=φ) (ex:=ex) hn hf hs)) ?_;rw[lU,jQ];exact th fO (th fO (th (fe hnm) (th eO he)))
theorem Yh{ey:Bool}(h:∀φ',φ'=φ→DvR f g (kN φ' [.tree (rs f) n ex,.tree (rs g) m ey])):∃e,pB φ [.tree (rs g) m ey,.tree (rs f) n ex]=some (.tree (rs (n7 g f)) (n7 g f).length e):=by
 obtain⟨qs',nq,e,e',he⟩:=h φ rfl;refine⟨e',?_⟩;unfold pB;dsimp only[eV,eY];exact th (fF he) (th iO (th iN t6))
end
section
variable {bs bs':List Blk} {l f g r:Row} {b:Blk} {i k n m c N M Df Dg kr:Nat} {ex ey:Bool} {s:LS} {K:D→LS→Rs} {kk:IntKind} {q p:Rat} {φ:Nat} {X L T:D}
inductive RVal (bs:List Blk):D→Row→Prop
 |tr {l:Row} {e:Bool}:RVal bs (.tree (rs l) l.length e) l
 |sl {l:Row} {k c:Nat} {e:Bool} {b:Blk} (hb:bs[k]?=some b) (hc:b.cs.take (l.length*3)=rs l) (hl:b.st.live=true):RVal bs (.sl k 0 l.length c 3 e) l
theorem Ou(h:RVal bs L l)(hi:i<l.length):(eJ 3 (mem bs) L (.i kk (.ofNat i)) λa s=>eT 3 s a K)=K (rc (ent l i)) (mem bs):=by
 cases h with
 |tr=>exact qE rfl hi
 | @sl _ k c e b hb hc hl=>
  have hle:=Od hc rfl;refine th (Ah hb hl hi) ?_;rw[aV];refine th (N5 hb hl (by omega)) ?_;have:(b.cs.drop (i*3)).take 3=((b.cs.take (l.length*3)).drop (i*3)).take 3:=by
   rw[List.drop_take,List.take_take,bS (by omega)]
  rw[this,hc,B2 hi];rfl
theorem JE(h:RVal bs L l){s:LS}:ek L s K=K (.i .i64 (.ofNat l.length)) s:=by
 cases h with
 |tr=>rfl
 |sl _ _ _=>rfl
theorem TK(h:RVal bs L l)(hL:jg L kr)(hk:∀k b,k≠kr→bs[k]?=some b→bs'[k]?=some b):RVal bs' L l:=by
 cases h with
 |tr=>exact .tr
 | @sl _ k c e b hb hc hl=>exact .sl (hk k b (λe'=>hL 0 l.length c 3 e (by rw[e'])) hb) hc hl
theorem Ko(h:RVal bs L l){x:Blk}:RVal (bs++[x]) L l:=by
 cases h with
 |tr=>exact .tr
 |sl hb hc hl=>exact .sl (gI hb) hc hl
theorem F2{c:Nat}{e:Bool}(hb:bs[k]?=some ⟨rs l,.rw⟩):RVal bs (.sl k 0 l.length c 3 e) l:=.sl hb (oe rfl) rfl
theorem CO{M:List D→Option D}{v:D}(h:RVal bs L l)(hM:∀e,M [.tree (rs l) l.length e]=some v)(hf:sW v=true):eS M [L] (mem bs) K=K v (mem bs):=by
 have key:∀(e:Bool)(ls:List Nat),(ob (M [.tree (rs l) l.length e]) λr=>iz (mem bs) ls r K)=K v (mem bs):=by
  intro e ls;rw[hM,gN];unfold iz;rw[kx,hf];rfl
 cases h with
 | @tr _ e=>exact key e []
 | @sl _ k c e b hb hc hl=>
  obtain⟨e1,h1⟩:=F8 (bs:=bs) (c:=c) (ex:=e) (j:=58) (F:=λy a=>ki a [] λab=>ob (M [y]) λr=>iz (mem bs) ab r K) hb hc hl rfl;refine Eq.trans h1 ?_;rw[gL];exact key e1 _
theorem TM{M:List D→Option D}{v L2:D}{l2:Row}(h:RVal bs L l)(h2:RVal bs L2 l2)(hM:∀e e',M [.tree (rs l) l.length e,.tree (rs l2) l2.length e']=some v)(hf:sW v=true):eS M [L,L2] (mem bs) K=K v (mem bs):=by
 have key:∀(e e':Bool)(ls:List Nat),(ob (M [.tree (rs l) l.length e,.tree (rs l2) l2.length e']) λr=>iz (mem bs) ls r K)=K v (mem bs):=by
  intro e e' ls;rw[hM,gN];unfold iz;rw[kx,hf];rfl
 have one:∀{L:D}{l:Row}(_:RVal bs L l)(F:D→List Nat→Rs),∃e ls,iX (mem bs) 60 L F=F (.tree (rs l) l.length e) ls:=by
  intro L l h F;cases h with
  | @tr _ e=>exact⟨e,[],rfl⟩
  | @sl _ k c e b hb hc hl=>
   obtain⟨e1,h1⟩:=F8 (bs:=bs) (c:=c) (ex:=e) (j:=58) (F:=F) hb hc hl rfl;exact⟨e1,[k],h1⟩
 obtain⟨e1,ls1,g1⟩:=one h (λy a=>iX (mem bs) 60 L2 λy2 b=>ki b [] λab=>ki a ab λab=>ob (M [y,y2]) λr=>iz (mem bs) ab r K);obtain⟨e2,ls2,g2⟩:=one h2 (λy2 b=>ki b [] λab=>ki ls1 ab λab=>ob (M [.tree (rs l) l.length e1,y2]) λr=>iz (mem bs) ab r K);refine Eq.trans g1 (Eq.trans g2 ?_);rw[gL,gL];exact key e1 e2 _
theorem WZ(h:RVal bs L l)(hb:bs[k]?=some b):RVal (bs.set k ⟨b.cs,fzS b.st⟩) L l:=by
 cases h with
 |tr=>exact .tr
 | @sl _ j c e b1 h1 hc hl=>
  by_cases hj:k=j
  ·subst hj;rw[hb]at h1;cases h1;refine .sl (b:=⟨b.cs,fzS b.st⟩) (by rw[a7 (ef hb)]) hc ?_;cases hs:b.st<;>rw[hs]at hl<;>first|rfl|cases hl
  ·exact .sl (by rw[bU hj];exact h1) hc hl
theorem zn:∀(ls:List Nat)(bs:List Blk),(∀l,l∈ls→l<bs.length)→∃bs',bs'.length=bs.length∧(∀k b,k∉ls→bs[k]?=some b→bs'[k]?=some b)∧(∀L l,RVal bs L l→RVal bs' L l)∧∀F:LS→Rs,vI ls (mem bs) F=F (mem bs')
 |[],bs,_=>⟨bs,rfl,λ_ _ _ h=>h,λ_ _ h=>h,λF=>rfl⟩
 |l::ls,bs,h=>by
  obtain⟨b,hb⟩:∃b,bs[l]?=some b:=⟨bs[l]'(h l (by simp)),aB _⟩
  obtain⟨b1,g1,g2,g4,g3⟩:=zn ls (bs.set l ⟨b.cs,fzS b.st⟩) (λk hk=>by rw[bB];exact h k (by simp[hk]));refine⟨b1,by rw[g1,bB],λk x hk hx=>g2 k x (λhm=>hk (by simp[hm])) (by rw[bU (λe=>hk (by simp[e]))];exact hx),λL r hr=>g4 L r (WZ hr hb),λF=>?_⟩;show(jL (mem bs) l λb=>pL (mem bs) l ⟨b.cs,fzS b.st⟩ λs=>vI ls s F)=_;rw[gg hb,oj (ef hb),g3]
theorem Ug(ls:List Nat)(bs:List Blk)(h:∀l,l∈ls→l<bs.length):∃bs',bs'.length=bs.length∧(∀k b,k∉ls→bs[k]?=some b→bs'[k]?=some b)∧∀F:LS→Rs,vI ls (mem bs) F=F (mem bs'):=by
 obtain⟨b1,g1,g2,_,g3⟩:=zn ls bs h;exact⟨b1,g1,g2,g3⟩
theorem GO{ls:List Nat}{v:D}(hp:pt v=true)(hl:∀l,l∈ls→l<bs.length):∃bs',bs'.length=bs.length∧(∀k b,k∉ls→bs[k]?=some b→bs'[k]?=some b)∧(∀L l,RVal bs L l→RVal bs' L l)∧∀K,iz (mem bs) ls v K=K v (mem bs'):=by
 by_cases hf:sW v=true
 ·refine⟨bs,rfl,λ_ _ _ h=>h,λ_ _ h=>h,λK=>?_⟩;unfold iz;rw[kx,hf];rfl
 ·obtain⟨b1,g1,g2,g4,g3⟩:=zn ls bs hl;refine⟨b1,g1,g2,g4,λK=>?_⟩;unfold iz;rw[kx,show sW v=false by simpa using hf];show vI ls (mem bs) (λs=>yF s v K)=_;rw[g3];unfold yF;split
  ·cases hp
  ·cases hp
  ·rfl
theorem ML{ls:List Nat}{cs:List D}{n z:Nat}(hl:∀l,l∈ls→l<bs.length):∃bs',(∀k b,k∉ls→bs[k]?=some b→bs'[k]?=some b)∧(∀L l,RVal bs L l→RVal bs' L l)∧bs'[bs.length]?=some ⟨cs,.rw⟩∧∀K,iz (mem bs) ls (.own cs n z) K=K (.sl bs.length 0 n n z false) (mem bs'):=by
 obtain⟨b1,g1,g2,g4,g3⟩:=zn ls bs hl;refine⟨b1++[⟨cs,.rw⟩],λk b hk hb=>gI (g2 k b hk hb),λL r hr=>Ko (g4 L r hr),by rw[←g1];simp,λK=>?_⟩;show vI ls (mem bs) (λs=>lP s ⟨cs,.rw⟩ λs'=>K (.sl s.nx 0 n n z false) s')=_;rw[g3,kB,jQ,g1]
theorem F3(h:RVal bs L l):∃e ls,(∀k,k∈ls→k<bs.length)∧(∀k,jg L k→k∉ls)∧∀F:D→List Nat→Rs,iX (mem bs) 60 L F=F (.tree (rs l) l.length e) ls:=by
 cases h with
 | @tr _ e=>exact⟨e,[],(λk h=>by cases h),(λk _ h=>by cases h),λF=>rfl⟩
 | @sl _ k c e b hb hc hl=>
  refine⟨cnd e (Nat.beq c l.length) false,[k],λj hj=>?_,λj hn hj=>?_,λF=>?_⟩
  ·have:j=k:=by simpa using hj
   subst this;exact ef hb
  ·have:j=k:=by simpa using hj
   subst this;exact hn _ _ _ _ _ rfl
  ·show(jL (mem bs) k λb=>cnd (lv b.st) (jN 0 b.cs λr=>iw (Nat.mul l.length 3) r λr=>mg (iX (mem bs) 59) r λcs ls=>my (cnd e (Nat.beq c l.length) false) λex=>F (.tree cs l.length ex) (k::ls)) none)=_;rw[gg hb,rN,hl,eL,gE,am,gu,show Nat.mul l.length 3=l.length*3 from rfl,aC (Od hc rfl),hc,Co _ (oY l),ij]
def Slf(T:D):Prop:=∀(F:D→List Nat→Rs)(bs:List Blk),iX (mem bs) 60 T F=F T []
theorem WT:Slf (rc q):=λF bs=>rfl
theorem Vc{cs:List D}{n:Nat}{e:Bool}:Slf (.tree cs n e):=λF bs=>rfl
theorem YZ{v:Int}:Slf (.i kk v):=λF bs=>rfl
theorem JF{M:List D→Option D}(h:RVal bs L l):∃e,∀cs n z,M [.tree (rs l) l.length e]=some (.own cs n z)→∃bs',(∀k b,jg L k→bs[k]?=some b→bs'[k]?=some b)∧(∀L l,RVal bs L l→RVal bs' L l)∧bs'[bs.length]?=some ⟨cs,.rw⟩∧∀K,eS M [L] (mem bs) K=K (.sl bs.length 0 n n z false) (mem bs'):=by
 obtain⟨e,ls,h1,h2,h3⟩:=F3 h;refine⟨e,λcs n z hv=>?_⟩;obtain⟨b1,g1,g4,g2,g3⟩:=ML (bs:=bs) (cs:=cs) (n:=n) (z:=z) h1;refine⟨b1,λk b hk hb=>g1 k b (h2 k hk) hb,g4,g2,λK=>?_⟩;show(iX (mem bs) 60 L λy a=>ki a [] λab=>ob (M [y]) λr=>iz (mem bs) ab r K)=_;rw[h3,gL,hv,gN,ba,g3]
theorem EV{M:List D→Option D}(h:RVal bs L l)(hT:Slf T):∃e,∀v,M [.tree (rs l) l.length e,T]=some v→pt v=true→∃bs',(∀k b,jg L k→bs[k]?=some b→bs'[k]?=some b)∧(∀L l,RVal bs L l→RVal bs' L l)∧∀K,eS M [L,T] (mem bs) K=K v (mem bs'):=by
 obtain⟨e,ls,h1,h2,h3⟩:=F3 h;refine⟨e,λv hv hp=>?_⟩;obtain⟨b1,g1,g2,g4,g3⟩:=GO (bs:=bs) hp h1;refine⟨b1,λk b hk hb=>g2 k b (h2 k hk) hb,g4,λK=>?_⟩;show(iX (mem bs) 60 L λy a=>iX (mem bs) 60 T λy2 b=>ki b [] λab=>ki a ab λab=>ob (M [y,y2]) λr=>iz (mem bs) ab r K)=_;rw[h3,hT,gL,gL,hv,gN,ba,ba,g3]
theorem NC{M:List D→Option D}(h:RVal bs L l)(hT:Slf T):∃e,∀v,M [T,.tree (rs l) l.length e]=some v→pt v=true→∃bs',(∀k b,jg L k→bs[k]?=some b→bs'[k]?=some b)∧(∀L l,RVal bs L l→RVal bs' L l)∧∀K,eS M [T,L] (mem bs) K=K v (mem bs'):=by
 obtain⟨e,ls,h1,h2,h3⟩:=F3 h;refine⟨e,λv hv hp=>?_⟩;obtain⟨b1,g1,g2,g4,g3⟩:=GO (bs:=bs) hp h1;refine⟨b1,λk b hk hb=>g2 k b (h2 k hk) hb,g4,λK=>?_⟩;show(iX (mem bs) 60 T λy a=>iX (mem bs) 60 L λy2 b=>ki b [] λab=>ki a ab λab=>ob (M [y,y2]) λr=>iz (mem bs) ab r K)=_;rw[hT,h3,gL,gL,hv,gN,ba,cI,g3]
theorem ND{M:List D→Option D}(h:RVal bs L l)(hT:Slf T):∃e,∀cs n z,M [.tree (rs l) l.length e,T]=some (.own cs n z)→∃bs',(∀k b,jg L k→bs[k]?=some b→bs'[k]?=some b)∧(∀L l,RVal bs L l→RVal bs' L l)∧bs'[bs.length]?=some ⟨cs,.rw⟩∧∀K,eS M [L,T] (mem bs) K=K (.sl bs.length 0 n n z false) (mem bs'):=by
 obtain⟨e,ls,h1,h2,h3⟩:=F3 h;refine⟨e,λcs n z hv=>?_⟩;obtain⟨b1,g1,g4,g2,g3⟩:=ML (bs:=bs) (cs:=cs) (n:=n) (z:=z) h1;refine⟨b1,λk b hk hb=>g1 k b (h2 k hk) hb,g4,g2,λK=>?_⟩;show(iX (mem bs) 60 L λy a=>iX (mem bs) 60 T λy2 b=>ki b [] λab=>ki a ab λab=>ob (M [y,y2]) λr=>iz (mem bs) ab r K)=_;rw[h3,hT,gL,gL,hv,gN,ba,ba,g3]
theorem Y2(h:RVal bs L l):∃e ls,res (mem bs).get 60 L=some (.tree (rs l) l.length e,ls):=by
 cases h with
 | @tr _ e=>exact⟨e,[],rfl⟩
 | @sl _ k c e b hb hc hl=>
  exact⟨_,_,tI (n:=59) (r:=rs l) (ls:=[]) (by rw[kj];exact hb) hl (by
   unfold cut;rw[am,hc,aC (by rw[ji])]) (jV (k:=58) _ (oY l))⟩
theorem Ve(h:RVal bs L l):∀ds es,sW (.tup (ds++L::es))=false:=by
 intro ds es;have:uC L=false:=by
  cases h with
  |tr=>rfl
  |sl _ _ _=>rfl
 show(ds++L::es).all uC=false;rw[z29,cH,this,z1O,eB]
theorem WY(h:RVal bs L l):∃e,eW false (mem bs) L some=some (.tree (rs l) l.length e):=by
 cases h with
 | @tr _ e=>exact⟨e,t6⟩
 | @sl _ k c e b hb hc hl=>
  refine⟨e&&c==l.length,?_⟩;unfold eW;rw[kx];show uO (mT false (mem bs).get fj (.sl k 0 l.length c 3 e)) some=_;have h1:res (mem bs).get 60 (.sl k 0 l.length c 3 e)=some (.tree (rs l) l.length (e&&c==l.length),[k]):=tI (n:=59) (r:=rs l) (ls:=[]) (by rw[kj];exact hb) hl (by
   unfold cut;rw[am,hc,aC (by rw[ji])]) (jV (k:=58) _ (oY l))
  have:mT false (mem bs).get fj (.sl k 0 l.length c 3 e)=some (.tree (rs l) l.length (e&&c==l.length)):=by
   show(match wy (res (mem bs).get 60 (.sl k 0 l.length c 3 e))with
    |some (d,o,ls)=>if o.all λl=> !ls.contains l then some d else none
    |none=>none)=_
   rw[h1];rfl
  rw[this,gV];rfl
end
section
variable {bs:List Blk} {l f g:Row} {b:Blk} {i k n m c N M Df Dg:Nat} {ex ey:Bool} {s:LS} {K:D→LS→Rs} {kk:IntKind} {q p:Rat} {φ:Nat} {X:D}
theorem Yl{a:Row}{na nb Na Nb Da Db':Nat}{ea eb eg:Bool}(hB:MB a l Da Na Db' Nb)(ha:a.length=na)(hb:l.length=nb)(hm:g.length=m)(hm2:2≤m)(hm3:m≤1000)(hna:na<m)(hnb:nb<m)(hg:Hb 1 M g)(h1:ent g (m-1)=1)(lM:Lg KB M)(lT:Lg KB (na*(Na*Nb)*(1+M)^m))(hφ:3000000000≤φ):
 ∃e,s6 φ [.tree (rs g) m eg,.tree (rs a) na ea,.tree (rs l) nb eb]=some (.tree (rs (n7 g (jy a l))) (n7 g (jy a l)).length e):=by
 obtain⟨e1,p1⟩:=Yj (φ:=φ) (ex:=ea) (ey:=eb) hB ha hb (by omega) hφ;have hlen:=xo (f:=a) (g:=l);rw[ha,hb]at hlen;have hDv:∀φ',φ'=φ→DvR (jy a l) g (kN φ' [.tree (rs (jy a l)) (jy a l).length e1,.tree (rs g) m eg]):=by
  rintro _ rfl
  by_cases hc:m≤(jy a l).length
  ·refine Pq (N:=na*(Na*Nb)) (Df:=Da*Db') (M:=M) ⟨rfl,hm,hm2,hc,by omega,?_,hg,h1,co hB.d0 hB.e0,hB.l5,lM,qo lT (aT _ (bg (by omega) (by omega)))⟩ hφ;rw[←ha];exact zX hB.hf hB.hg
  ·exact xB (f:=jy a l) rfl hm (by omega) (by omega) (show Pt (jy a l)from qK _)
 obtain⟨e2,p2⟩:=Yh hDv;refine⟨e2,?_⟩;unfold s6;dsimp only[eV,eY];exact th (fF p1) (th (fF p2) t6)
theorem EY(hn:l.length=n)(hs:n<1000000000)(hk:k≤n)(hz:∀i,k≤i→ent l i=0)(hl:k=0∨ent l (k-1)≠0):
 (ie 0 [.b false,.n 0,.n 0] [] (mem []) λx16 s=>kn 3 s (.tree (rs l) n ex) none (some (.i .i64 (.ofNat k))) none λx17 s=>kJ 3 40 s x16 x17 λx18 s=>eW true s x18 some)=some (.own (rs (fG l)) (fG l).length 3):=by
 have h1:=yZ (l:=l) (n:=k) (by omega) hz hl;obtain⟨e1,h2⟩:=Vd (s:=mem [⟨[],.rw⟩]) (cs:=rs l) (n:=n) (m:=3) (k:=k) (ex:=ex) (kk:=.i64) (K:=λx17 s=>kJ 3 40 s (.sl 0 0 0 0 3 true) x17 λx18 s=>eW true s x18 some) (by rw[ji,hn]) hk none (Or.inl rfl);have hl2:(l.take k).length=k:=by rw[aZ,bS (by omega)]
 obtain⟨j,c,e2,bs',a1,a2,_⟩:=VU (bs:=[⟨[],.rw⟩]) (k:=0) (z:=3) (bytes:=40) (n:=k) (cs:=rs (l.take k)) (ex:=e1) (K:=λx4 s=>eW true s x4 some) rfl (by rw[ji,hl2]) (ut _) (by omega) (by omega);refine th (Ls rfl) (h2.trans ?_);rw[F6];refine a1.trans ?_;rw[xl a2 (oY _) (by rw[ji,hl2];exact aE _),oe hl2,h1,hl2]
theorem JP(h:q=0):eS (iq φ) [rc q] s K=K (.i .i64 (.ofNat 0)) s:=by
 refine th (jk HL rfl) ?_;subst h;rfl
theorem GR{j:Int}(h:j= -1∨j=1){k:D→Rs}:iB (.i .i64 j) (.i .i64 (.ofNat 0)) k=k (.b false):=by
 rcases h with rfl|rfl
 ·show fc .eql (.i .i64 (-1)) (.i .i64 (.ofNat 0)) k=_;unfold fc;rw[gV];rfl
 ·exact sD (a:=1) (b:=0) (by omega)
theorem PX(h:q≠0):(eS (iq φ) [rc q] s λx s=>eI (.b true) true (λk=>iB x (.i .i64 (.ofNat 0)) λd=>k d s) s K)=K (.b false) s:=by
 by_cases h0:q.num<0
 ·refine th (jk HL rfl) ?_;rw[aC h0];exact th eo (GR (j:= -1) (Or.inl rfl))
 ·refine th (jk HL rfl) ?_;rw[aF h0,aF h];exact th eo (GR (j:=1) (Or.inr rfl))
theorem JG(hn:l.length=n)(hs:n<1000000000):∀(k f:Nat),k≤n→k<f→(∀i,k≤i→ent l i=0)→
 lp (λ(_ _:D)(_:LS)=>none) (l9 φ) f (.tree (rs l) n ex) (.i .i64 (.ofNat k)) (mem [])=some (.own (rs (fG l)) (fG l).length 3):=by
 intro k
 induction k with
 |zero=>
  intro f hk hf hz;obtain⟨f,rfl⟩:∃q,f=q+1:=⟨f-1,by omega⟩
  have he:=EY (ex:=ex) hn hs (a9 _) hz (Or.inl rfl);rw[eM];unfold l9;exact th (pX (by omega)) (th fX (th fX (th fX (th fX (th fX (th fX (th fX (th gD (th eP he)))))))))
 |succ k ih=>
  intro f hk hf hz;obtain⟨f,rfl⟩:∃q,f=q+1:=⟨f-1,by omega⟩
  have pre:∀F:D→LS→Rs,(fA (.i .i64 (.ofNat (k+1))) (.i .i64 (.ofNat 1)) λd=>eI (.b true) true (λk=>eJ 3 (mem []) (.tree (rs l) n ex) d k) (mem []) λx10 s=>eI (.b true) true (λk=>eT 3 s x10 k) s F)=F (rc (ent l k)) (mem []):=by
   intro F;refine th (gW (by omega) (by omega)) (th Ep ?_);rw[a8];exact qE hn (by omega)
  by_cases h0:ent l k=0
  ·have he:=ih f (by omega) (by omega) (λi hi=>by
    by_cases h:i=k
    ·rw[h];exact h0
    ·exact hz i (by omega))
   rw[eM];unfold l9;refine th (nU (by omega)) (th eo (th eo (th eo (th (pre _) (th eo (th (JP h0) (th eo (th (oo rfl) (th fQ (th eO (th (gW (by omega) (by omega)) ?_)))))))))));rw[a8];exact he
  ·have he:=EY (ex:=ex) hn hs hk hz (Or.inr h0);rw[eM];unfold l9;exact th (nU (by omega)) (th eo (th eo (th eo (th (pre _) (th eo (th (PX h0) (th fQ (th eP he))))))))
theorem PV(hn:l.length=n)(hs:n<1000000000)(hφ:1000000000≤φ):fU φ [.tree (rs l) n ex]=some (.own (rs (fG l)) (fG l).length 3):=by
 have he:=JG (φ:=φ) (ex:=ex) hn hs n φ (aE _) (by omega) (λi hi=>gJ (by omega));unfold fU;dsimp only[eV,eY];exact th fO he
def A3(bs:List Blk)(X:D)(l:Row):Prop:=AS 3 bs X (rs l) l.length
theorem vD:A3 bs (.tree [] 0 true) []:=AS.nil
theorem ap3(h:A3 bs X l)(hs:l.length<1000000000):∃bs' X',A3 bs' X' (l++[q])∧(∀k b,jg X k→bs[k]?=some b→bs'[k]?=some b∧jg X' k)∧(ie 1 [.b false,.n 0,.n 0] [(0,3,rc q)] (mem bs) λy s=>kJ 3 40 s X y K)=K X' (mem bs'):=by
 obtain⟨bs',X',h1,h2,h3⟩:=ap1 (bytes:=40) (zero:=[.b false,.n 0,.n 0]) (x:=rc q) (new:=rcs q) (K:=K) h rfl rfl rfl rfl (by omega) (by omega);refine⟨bs',X',?_,h2,h3⟩;unfold A3;rw[JH,ay];exact h1
theorem WA(h:A3 bs X l):RVal bs X l:=by
 unfold A3 at h;generalize hcs:rs l=cs at h;generalize hnn:l.length=nn at h;cases h with
 |nil=>
  have:l=[]:=ao hnn;subst this;exact RVal.tr (l:=[])
 |blk hg hc=>
  subst hcs hnn;exact .sl hg (oe rfl) rfl
theorem ww{j:Nat}(h:bs[j]?=some ⟨rs l,.rw⟩):RVal bs (.sl j 0 l.length l.length 3 false) l:=.sl h (oe rfl) rfl
theorem Kg(h:RVal bs X l)(hs:l.length<1000000000)(hφ:1000000000≤φ):∃bs' k,(∀k b,jg X k→bs[k]?=some b→bs'[k]?=some b)∧(∀L l,RVal bs L l→RVal bs' L l)∧bs'[k]?=some ⟨rs (fG l),.rw⟩∧∀K,eS (fU φ) [X] (mem bs) K=K (.sl k 0 (fG l).length (fG l).length 3 false) (mem bs'):=by
 obtain⟨e,he⟩:=JF (M:=fU φ) h;obtain⟨b1,g1,g4,g2,g3⟩:=he _ _ _ (PV rfl hs hφ);exact⟨b1,_,g1,g4,g2,g3⟩
theorem O9(h:A3 bs X l)(hs:l.length<1000000000)(hφ:1000000000≤φ):∃e,(eS (fU φ) [X] (mem bs) λx s=>eW false s x some)=some (.tree (rs (fG l)) (fG l).length e):=by
 obtain⟨b1,k,g1,_,g2,g3⟩:=Kg (φ:=φ) (WA h) hs hφ;obtain⟨e,he⟩:=WY (ww g2);exact⟨e,(g3 _).trans he⟩
theorem WJ(h:A3 bs X l)(hs:l.length<1000000000)(hφ:1000000000≤φ):(eS (fU φ) [X] (mem bs) λx s=>eW true s x some)=some (.own (rs (fG l)) (fG l).length 3):=by
 obtain⟨b1,k,g1,_,g2,g3⟩:=Kg (φ:=φ) (WA h) hs hφ;refine(g3 _).trans ?_;rw[xl g2 (oY _) (by rw[ji];exact aE _),oe rfl]
theorem TZ(h:A3 bs X l):∃e,eW false (mem bs) X some=some (.tree (rs l) l.length e):=by
 unfold A3 at h;generalize hcs:rs l=cs at h;generalize hnn:l.length=nn at h;cases h with
 |nil=>
  have:l=[]:=ao hnn;exact⟨true,zQ⟩
 |blk hg hc=>
  subst hcs hnn;obtain⟨e,he⟩:=Kw (own:=false) (c:=l.length) (ex:=false) rfl hg rfl rfl rfl;exact⟨e,he⟩
theorem rAt(hn:l.length=n):nE φ [.tree (rs l) n ex,.i .i64 (.ofNat i)]=some (rc (ent l i)):=by
 unfold nE;dsimp only[eV,eY];rw[←fw];refine th OO (th fO ?_);by_cases h:i<n
 ·exact th (fe h) (th eO (th (qE hn h) (NI (k:=0) rfl rfl)))
 ·refine th (gA h) (th eP (th (fF wz) ?_));rw[gJ (by omega)];exact NI (k:=0) rfl rfl
theorem Pd(hn:l.length=n)(hs:n<1000000000):kQ φ [.tree (rs l) n ex]=some (rc (ent l (n-1))):=by
 unfold kQ;dsimp only[eV,eY];rw[←fw];refine th OO (th fO ?_);by_cases h:n=0
 ·refine th (oo h) (th eO (th (fF wz) ?_));rw[gJ (by omega)];exact NI (k:=0) rfl rfl
 ·exact th (sD h) (th eP (th fO (th (gW (by omega) (by omega)) (th (qE hn (by omega)) (NI (k:=0) rfl rfl)))))
theorem JI(hs:n<999999999)(hφ:1000000000≤φ):∀(j i fu:Nat)(bs:List Blk)(X:D),i+j=n→j<fu→A3 bs X (List.replicate i 0)→bs[0]?=some ⟨rcs q,.rw⟩→jg X 0→
 ∃e,lp (λ(_ _ _ _:D)(_:LS)=>none) (js φ) fu (.i .i64 (.ofNat n)) (.ptr 0 0) X (.i .i64 (.ofNat i)) (mem bs)=some (.tree (rs (fG (List.replicate n 0++[q]))) (fG (List.replicate n 0++[q])).length e):=by
 intro j
 induction j with
 |zero=>
  intro i fu bs X hi hf hA h0 hX;obtain⟨fu,rfl⟩:∃q,fu=q+1:=⟨fu-1,by omega⟩
  have:i=n:=by omega
  subst this;obtain⟨bs1,X1,hA1,_,h1⟩:=ap3 (q:=q) (K:=λx16 s=>eS (fU φ) [x16] s λx s=>eW false s x some) hA (by simp;omega);obtain⟨e,he⟩:=O9 (φ:=φ) hA1 (by simp;omega) hφ;refine⟨e,?_⟩;rw[eM];unfold js;exact th (gA (by omega)) (th eP (th (xJ h0) (h1.trans he)))
 |succ j ih=>
  intro i fu bs X hi hf hA h0 hX;obtain⟨fu,rfl⟩:∃q,fu=q+1:=⟨fu-1,by omega⟩
  obtain⟨bs1,X1,hA1,hk,h1⟩:=ap3 (q:=0) (K:=λx12 s=>eZ (.i .i64 (.ofNat i)) (.i .i64 (.ofNat 1)) λx13=>lp (λ(_ _ _ _:D)(_:LS)=>none) (js φ) fu (.i .i64 (.ofNat n)) (.ptr 0 0) x12 x13 s) hA (by simp;omega);obtain⟨g0,gX⟩:=hk 0 _ hX h0;obtain⟨e,he⟩:=ih (i+1) fu bs1 X1 (by omega) (by omega) (by rw[eH];exact hA1) g0 gX;refine⟨e,?_⟩;rw[eM];unfold js;exact th (fe (by omega)) (th eO (th (fF wz) (h1.trans (th (fH (by omega)) he))))
theorem NP(hs:n<999999999)(hφ:1000000000≤φ):∃e,lG φ [rc q,.i .i64 (.ofNat n)]=some (.tree (rs (fG (List.replicate n 0++[q]))) (fG (List.replicate n 0++[q])).length e):=by
 obtain⟨e,he⟩:=JI (φ:=φ) (q:=q) hs hφ n 0 φ [⟨rcs q,.rw⟩] (.tree [] 0 true) (by omega) (by omega) vD rfl (λo n m z e h=>by cases h);refine⟨e,?_⟩;unfold lG;dsimp only[eV,eY];rw[←fw];exact th (jf rfl) he
end
section
variable {bs:List Blk} {l f g:Row} {b:Blk} {i k n m c N M Df Dg:Nat} {ex ey:Bool} {s:LS} {K:D→LS→Rs} {kk:IntKind} {q p:Rat} {φ:Nat} {X:D}
theorem Gg{x:Blk}(h:A3 bs X l):A3 (bs++[x]) X l:=by
 unfold A3 at*;generalize rs l=cs at*;generalize l.length=nn at*;cases h with
 |nil=>exact AS.nil
 |blk hg hc=>exact AS.blk (gI hg) hc
theorem YO{x:Blk}(h:A3 bs X l)(hX:jg X k):A3 (bs.set k x) X l:=by
 unfold A3 at*;generalize rs l=cs at*;generalize l.length=nn at*;cases h with
 |nil=>exact AS.nil
 |blk hg hc=>exact AS.blk (by rw[bU (λe=>hX 0 _ _ 3 false (by rw[e]))];exact hg) hc
theorem YP(h:A3 bs X l)(hk:bs.length≤k):jg X k:=by
 unfold A3 at*;generalize rs l=cs at*;generalize l.length=nn at*;intro o n' m' z e he;cases h with
 |nil=>cases he
 |blk hg hc=>cases he;have:=ef hg;omega
def AQ(l:Row):Prop:=∀i,Qz KB (ent l i)
theorem NN(hf:f.length=n)(hg:g.length=m)(af:AQ f)(ag:AQ g)(hs:n+m<1000000000)(hφ:1000000000≤φ):∀(j i fu:Nat)(bs:List Blk)(X:D),i+j=max n m→j<fu→A3 bs X (lst i (λi=>ent f i+ent g i))→
 ∃e,lp (λ(_ _ _ _:D)(_:LS)=>none) (mN φ) fu (.tree (rs f) n ex) (.tree (rs g) m ey) X (.i .i64 (.ofNat i)) (mem bs)=some (.tree (rs (fG (lst (max n m) (λi=>ent f i+ent g i)))) (fG (lst (max n m) (λi=>ent f i+ent g i))).length e):=by
 intro j
 induction j with
 |zero=>
  intro i fu bs X hi hfu hA;obtain⟨fu,rfl⟩:∃q,fu=q+1:=⟨fu-1,by omega⟩
  have:i=max n m:=by omega
  subst this;obtain⟨e,he⟩:=O9 (φ:=φ) hA (by rw[gp];omega) hφ;refine⟨e,?_⟩;rw[eM];unfold mN;exact th fO (th fO (th Hf (th (gA (by omega)) (th eP he))))
 |succ j ih=>
  intro i fu bs X hi hfu hA;obtain⟨fu,rfl⟩:∃q,fu=q+1:=⟨fu-1,by omega⟩
  obtain⟨bs1,X1,hA1,_,h1⟩:=ap3 (q:=ent f i+ent g i) (K:=λx16 s=>eZ (.i .i64 (.ofNat i)) (.i .i64 (.ofNat 1)) λx17=>lp (λ(_ _ _ _:D)(_:LS)=>none) (mN φ) fu (.tree (rs f) n ex) (.tree (rs g) m ey) x16 x17 s) hA (by rw[gp];omega);obtain⟨e,he⟩:=ih (i+1) fu bs1 X1 (by omega) (by omega) (by rw[rO];exact hA1);refine⟨e,?_⟩;rw[eM];unfold mN;exact th fO (th fO (th Hf (th (fe (by omega)) (th eO (th (fF (rAt hf)) (th (fF (rAt hg)) (th (oZ (Wj (af i) (ag i)) rfl) (h1.trans (th (fH (by omega)) he)))))))))
theorem Pi(hf:f.length=n)(hg:g.length=m)(af:AQ f)(ag:AQ g)(hs:n+m<1000000000)(hφ:1000000000≤φ):
 ∃e,mf φ [.tree (rs f) n ex,.tree (rs g) m ey]=some (.tree (rs (fG (lst (max n m) (λi=>ent f i+ent g i)))) (fG (lst (max n m) (λi=>ent f i+ent g i))).length e):=by
 obtain⟨e,he⟩:=NN (φ:=φ) (ex:=ex) (ey:=ey) hf hg af ag hs hφ (max n m) 0 φ [] (.tree [] 0 true) (by omega) (by omega) vD;exact⟨e,he⟩
theorem HC(hl:l.length=n)(al:AQ l)(hc:Qz KB q)(hs:n<1000000000)(hφ:1000000000≤φ):∀(j i fu:Nat)(bs:List Blk)(X:D),i+j=n→j<fu→A3 bs X (lst i (λi=>ent l i*q))→bs[0]?=some ⟨rcs q,.rw⟩→jg X 0→
 lp (λ(_ _ _ _ _:D)(_:LS)=>none) (lF φ) fu (.ptr 0 0) X (.tree (rs l) n ex) (.i .i64 (.ofNat n)) (.i .i64 (.ofNat i)) (mem bs)=some (.own (rs (fG (lst n (λi=>ent l i*q)))) (fG (lst n (λi=>ent l i*q))).length 3):=by
 intro j
 induction j with
 |zero=>
  intro i fu bs X hi hfu hA h0 hX;obtain⟨fu,rfl⟩:∃q,fu=q+1:=⟨fu-1,by omega⟩
  have:i=n:=by omega
  subst this;have he:=WJ (φ:=φ) hA (by rw[gp];omega) hφ;rw[eM];unfold lF;exact th (gA (by omega)) (th eP he)
 |succ j ih=>
  intro i fu bs X hi hfu hA h0 hX;obtain⟨fu,rfl⟩:∃q,fu=q+1:=⟨fu-1,by omega⟩
  obtain⟨bs1,X1,hA1,hk,h1⟩:=ap3 (bs:=bs++[⟨rcs (ent l i),.rw⟩]) (q:=ent l i*q) (K:=λx16 s=>eZ (.i .i64 (.ofNat i)) (.i .i64 (.ofNat 1)) λx17=>lp (λ(_ _ _ _ _:D)(_:LS)=>none) (lF φ) fu (.ptr 0 0) x16 (.tree (rs l) n ex) (.i .i64 (.ofNat n)) x17 s) (Gg hA) (by rw[gp];omega);obtain⟨g0,gX⟩:=hk 0 _ hX (gI h0);have he:=ih (i+1) fu bs1 X1 (by omega) (by omega) (by rw[rO];exact hA1) g0 gX;rw[eM];unfold lF;exact th (fe (by omega)) (th eO (th (qE hl (by omega)) (th (yE rfl) (th Dy (th (xJ (gI h0)) (th (oZ (Pb (al i) hc) rfl) (h1.trans (th (fH (by omega)) he))))))))
theorem PY(hl:l.length=n)(al:AQ l)(hc:Qz KB q)(hs:n<1000000000)(hφ:1000000000≤φ):
 jv φ [.tree (rs l) n ex,rc q]=some (.own (rs (fG (lst n (λi=>ent l i*q)))) (fG (lst n (λi=>ent l i*q))).length 3):=by
 have he:=HC (φ:=φ) (ex:=ex) hl al hc hs hφ n 0 φ [⟨rcs q,.rw⟩] (.tree [] 0 true) (by omega) (by omega) vD rfl (λo n m z e h=>by cases h);unfold jv;dsimp only[eV,eY];rw[←fw];exact th (jf rfl) (th fO he)
def E7(f g:Row):Row:=fG (lst (max f.length g.length) (λi=>ent f i+(-1)*ent g i))
theorem Vi:Qz KB (-1):=⟨by show Lg KB 1;exact a9 _,by show Lg KB 1;exact a9 _⟩
theorem Md(h:AQ l):AQ (fG l):=λi=>by rw[mU];exact h i
theorem zS(k:Nat):Qz k 0:=⟨by show Lg k 0;exact a9 _,by show Lg k 1;exact a9 _⟩
theorem YE{v:Vec}(h:∀i,Qz KB (v i)):AQ (lst n v):=λi=>by
 rw[mW];split
 ·exact h i
 ·exact zS KB
theorem Wd(hf:f.length=n)(hg:g.length=m)(af:AQ f)(ag:AQ g)(hs:n+m<1000000000)(hφ:1000000000≤φ):
 ∃e,mc φ [.tree (rs f) n ex,.tree (rs g) m ey]=some (.tree (rs (E7 f g)) (E7 f g).length e):=by
 have h1:=PY (φ:=φ) (ex:=ey) hg ag Vi (by omega) hφ;have hlen:=nV (lst m (λi=>ent g i*(-1)));rw[gp]at hlen;have ag':AQ (fG (lst m (λi=>ent g i*(-1)))):=Md (YE λi=>by
  have:ent g i*(-1)= -(ent g i):=by grind
  rw[this];exact Pk (ag i))
 obtain⟨e1,hiso⟩:=NC (M:=mf φ) (T:=.tree (rs f) n ex) (ww (bs:=[⟨rs (fG (lst m (λi=>ent g i*(-1)))),.rw⟩]) (j:=0) (l:=fG (lst m (λi=>ent g i*(-1)))) rfl) Vc;obtain⟨e2,h2⟩:=Pi (φ:=φ) (ex:=ex) (ey:=e1) hf (rfl:(fG (lst m (λi=>ent g i*(-1)))).length=_) af ag' (by omega) hφ;obtain⟨b1,_,_,hk⟩:=hiso _ h2 rfl;refine⟨e2,?_⟩;have e3:fG (lst (max n (fG (lst m (λi=>ent g i*(-1)))).length) (λi=>ent f i+ent (fG (lst m (λi=>ent g i*(-1)))) i))=E7 f g:=by
  unfold E7;refine qZ λi=>?_;rw[mW,mW,hf,hg];have e4:ent (fG (lst m (λi=>ent g i*(-1)))) i=(-1)*ent g i:=by
   rw[mU,mW];by_cases h:i<m
   ·rw[aC h];grind
   ·rw[aF h,gJ (r:=g) (by omega)];grind
  by_cases h:i<max n (fG (lst m (λi=>ent g i*(-1)))).length
  ·rw[aC h,aC (by omega),e4]
  ·rw[aF h];by_cases h3:i<max n m
   ·rw[aC h3,←e4,gJ (r:=f) (by omega),gJ (r:=fG (lst m (λi=>ent g i*(-1)))) (by omega)];grind
   ·rw[aF h3]
 rw[←e3];unfold mc;dsimp only[eV,eY];rw[←fw];refine th (fF Pe) (th (xR h1) ?_);rw[lU,jQ];exact(hk _).trans t6
theorem XF{a b:Nat}{k:D→Rs}:fN (.i .i64 (.ofNat a)) (.i .i64 (.negSucc b)) k=k (.b false):=by
 show fc .lss (.i .i64 (.ofNat a)) (.i .i64 (.negSucc b)) k=_;unfold fc;rw[gV];show k (.b (decide ((Int.ofNat a)<Int.negSucc b)))=_;rw[aN (by rw[dj];show ¬(a:Int)<_;omega)]
theorem TS(hB:MB f g Df N Dg M)(hn:f.length=n)(hm:g.length=m)(hs:n+m<1000000000)(hφ:1000000000≤φ){q3:D→D→D→D→LS→Rs}{out:Row}{P:Option D→Prop}(hk:k<n+m)(kp:Nat)(hol:out.length=k)(hR:∀bs X,A3 bs X (out++[Cf f g k])→P (q3 (.tree (rs f) n ex) (.tree (rs g) m ey) X (.i .i64 (.ofNat (k+1))) (mem bs))):∀(j i fu:Nat)(bs:List Blk)(X:D),i+j=n→j<fu→A3 bs X out→jg X kp→bs[kp]?=some ⟨rcs (pmV f g i k),.rw⟩→
 P (lp (λ(_ _ _ _ _ _ _:D)(_:LS)=>none) (gB φ q3) fu (.tree (rs f) n ex) (.tree (rs g) m ey) X (.i .i64 (.ofNat k)) (.ptr kp 0) (.i .i64 (.ofNat n)) (.i .i64 (.ofNat i)) (mem bs)):=by
 intro j
 induction j with
 |zero=>
  intro i fu bs X hi hfu hA hX hp;obtain⟨fu,rfl⟩:∃q,fu=q+1:=⟨fu-1,by omega⟩
  have:i=n:=by omega
  subst this;obtain⟨bs1,X1,hA1,_,h1⟩:=ap3 (q:=pmV f g i k) (K:=λx53 s=>eZ (.i .i64 (.ofNat k)) (.i .i64 (.ofNat 1)) λx54=>q3 (.tree (rs f) i ex) (.tree (rs g) m ey) x53 x54 s) hA (by omega);have e:lp (λ(_ _ _ _ _ _ _:D)(_:LS)=>none) (gB φ q3) (fu+1) (.tree (rs f) i ex) (.tree (rs g) m ey) X (.i .i64 (.ofNat k)) (.ptr kp 0) (.i .i64 (.ofNat i)) (.i .i64 (.ofNat i)) (mem bs)=q3 (.tree (rs f) i ex) (.tree (rs g) m ey) X1 (.i .i64 (.ofNat (k+1))) (mem bs1):=by
   rw[eM];unfold gB;exact th (gA (by omega)) (th eP (th (xJ hp) (h1.trans (fH (by omega)))))
  rw[e];exact hR bs1 X1 (by rw[←LN,hn];exact hA1)
 |succ j ih=>
  intro i fu bs X hi hfu hA hX hp;obtain⟨fu,rfl⟩:∃q,fu=q+1:=⟨fu-1,by omega⟩
  by_cases h1:i≤k
  ·by_cases h2:k-i<m
   ·have h3:=ih (i+1) fu (bs.set kp ⟨rcs (pmV f g i k+ent f i*ent g (k-i)),.rw⟩) X (by omega) (by omega) (YO hA hX) hX (by rw[a7 (ef hp),zY,aC h1]);have e:lp (λ(_ _ _ _ _ _ _:D)(_:LS)=>none) (gB φ q3) (fu+1) (.tree (rs f) n ex) (.tree (rs g) m ey) X (.i .i64 (.ofNat k)) (.ptr kp 0) (.i .i64 (.ofNat n)) (.i .i64 (.ofNat i)) (mem bs)=lp (λ(_ _ _ _ _ _ _:D)(_:LS)=>none) (gB φ q3) fu (.tree (rs f) n ex) (.tree (rs g) m ey) X (.i .i64 (.ofNat k)) (.ptr kp 0) (.i .i64 (.ofNat n)) (.i .i64 (.ofNat (i+1))) (mem (bs.set kp ⟨rcs (pmV f g i k+ent f i*ent g (k-i)),.rw⟩)):=by
     rw[eM]
     conv=>lhs;unfold gB
     exact th (fe (by omega)) (th eO (th om (th (gW h1 (by omega)) (th (qR (a9 _)) (th eo (th eo (th eo (th (gW h1 (by omega)) (th eo (th eo (th fO (th eo (th (fe h2) (th fQ (th eO (th (xJ hp) (th (qE hn (by omega)) (th (gW h1 (by omega)) (th (qE hm h2) (th (oZ (Pb (hB.qf i) (hB.qg (k-i))) rfl) (th (oZ (Wj (hB.qs (by omega) k) (hB.qp i (k-i))) rfl) (th (YY hp rfl) (fH (by omega))))))))))))))))))))))))
    rw[e];exact h3
   ·have hz:pmV f g (i+1) k=pmV f g i k:=by rw[zY,aC h1,gJ (r:=g) (i:=k-i) (by omega)];grind
    have h3:=ih (i+1) fu bs X (by omega) (by omega) hA hX (by rw[hz];exact hp);have e:lp (λ(_ _ _ _ _ _ _:D)(_:LS)=>none) (gB φ q3) (fu+1) (.tree (rs f) n ex) (.tree (rs g) m ey) X (.i .i64 (.ofNat k)) (.ptr kp 0) (.i .i64 (.ofNat n)) (.i .i64 (.ofNat i)) (mem bs)=lp (λ(_ _ _ _ _ _ _:D)(_:LS)=>none) (gB φ q3) fu (.tree (rs f) n ex) (.tree (rs g) m ey) X (.i .i64 (.ofNat k)) (.ptr kp 0) (.i .i64 (.ofNat n)) (.i .i64 (.ofNat (i+1))) (mem bs):=by
     rw[eM]
     conv=>lhs;unfold gB
     exact th (fe (by omega)) (th eO (th om (th (gW h1 (by omega)) (th (qR (a9 _)) (th eo (th eo (th eo (th (gW h1 (by omega)) (th eo (th eo (th fO (th eo (th (gA h2) (th fQ (th eP (fH (by omega)))))))))))))))))
    rw[e];exact h3
  ·have hz:pmV f g (i+1) k=pmV f g i k:=by rw[zY,aF h1];grind
   have h3:=ih (i+1) fu bs X (by omega) (by omega) hA hX (by rw[hz];exact hp);have e:lp (λ(_ _ _ _ _ _ _:D)(_:LS)=>none) (gB φ q3) (fu+1) (.tree (rs f) n ex) (.tree (rs g) m ey) X (.i .i64 (.ofNat k)) (.ptr kp 0) (.i .i64 (.ofNat n)) (.i .i64 (.ofNat i)) (mem bs)=lp (λ(_ _ _ _ _ _ _:D)(_:LS)=>none) (gB φ q3) fu (.tree (rs f) n ex) (.tree (rs g) m ey) X (.i .i64 (.ofNat k)) (.ptr kp 0) (.i .i64 (.ofNat n)) (.i .i64 (.ofNat (i+1))) (mem bs):=by
    rw[eM]
    conv=>lhs;unfold gB
    exact th (fe (by omega)) (th eO (th om (th (nk h1 (by omega)) (th ol (th fX (th fX (th fX (th fX (th fX (th fX (th gD (th eP (fH (by omega))))))))))))))
   rw[e];exact h3
theorem TQ(hB:MB f g Df N Dg M)(hn:f.length=n)(hm:g.length=m)(hs:n+m<1000000000)(hφ:1000000000≤φ):∀(j i fu:Nat)(bs:List Blk)(X:D),i+j=n+m-1→j<fu→A3 bs X (lst i (Cf f g))→
 ∃e,lp (λ(_ _ _ _:D)(_:LS)=>none) (mL φ) fu (.tree (rs f) n ex) (.tree (rs g) m ey) X (.i .i64 (.ofNat i)) (mem bs)=some (.tree (rs (jy f g)) (jy f g).length e):=by
 intro j
 induction j with
 |zero=>
  intro i fu bs X hi hfu hA;obtain⟨fu,rfl⟩:∃q,fu=q+1:=⟨fu-1,by omega⟩
  have:i=n+m-1:=by omega
  subst this;obtain⟨e,he⟩:=O9 (φ:=φ) hA (by rw[gp];omega) hφ;refine⟨e,?_⟩;have e1:fG (lst (n+m-1) (Cf f g))=jy f g:=by unfold jy;rw[hn,hm]
  rw[e1]at he;rw[eM];unfold mL;by_cases h0:n+m=0
  ·have hn0:n=0:=by omega
   have hm0:m=0:=by omega
   refine th fO (th fO (th (fH (by omega)) ?_));rw[h0];refine th ze (th XF (th eP he))
  ·exact th fO (th fO (th (fH (by omega)) (th (gW (by omega) (by omega)) (th (gA (by omega)) (th eP he)))))
 |succ j ih=>
  intro i fu bs X hi hfu hA;obtain⟨fu,rfl⟩:∃q,fu=q+1:=⟨fu-1,by omega⟩
  have key:=TS (φ:=φ) (ex:=ex) (ey:=ey) (k:=i) (out:=lst i (Cf f g)) (q3:=lp (λ(_ _ _ _:D)(_:LS)=>none) (mL φ) fu) (P:=λo=>∃e,o=some (.tree (rs (jy f g)) (jy f g).length e)) hB hn hm hs hφ (by omega) bs.length gp (λbs' X' hA'=>ih (i+1) fu bs' X' (by omega) (by omega) (by rw[rO];exact hA')) n 0 φ (bs++[⟨rcs 0,.rw⟩]) X (by omega) (by omega) (Gg hA) (YP hA (aE _)) (by simp;rfl);obtain⟨e,he⟩:=key;refine⟨e,?_⟩;rw[eM];unfold mL;exact th fO (th fO (th (fH (by omega)) (th (gW (by omega) (by omega)) (th (fe (by omega)) (th eO (th (fF wz) (th (yE rfl) (th fO he))))))))
theorem P9(hB:MB f g Df N Dg M)(hn:f.length=n)(hm:g.length=m)(hs:n+m<1000000000)(hφ:1000000000≤φ):
 ∃e,oF φ [.tree (rs f) n ex,.tree (rs g) m ey]=some (.tree (rs (jy f g)) (jy f g).length e):=by
 obtain⟨e,he⟩:=TQ (φ:=φ) (ex:=ex) (ey:=ey) hB hn hm hs hφ (n+m-1) 0 φ [] (.tree [] 0 true) (by omega) (by omega) vD;exact⟨e,he⟩
end
section
variable {bs:List Blk} {l f g:Row} {b:Blk} {i k n m c N M Df Dg:Nat} {ex ey:Bool} {s:LS} {K:D→LS→Rs} {kk:IntKind} {q p:Rat} {φ:Nat} {X:D}
structure KF (g:Row) (m M:Nat):Prop where
 hm:g.length=m
 hm2:2≤m
 hm3:m≤100
 hg:Hb 1 M g
 h1:ent g (m-1)=1
 lM:Lg KB M
theorem KF.ne(h:KF g m M):g≠[]:=λe=>by have:=h.hm;have:=h.hm2;subst e;simp at*;omega
theorem KF.lead(h:KF g m M):ent g (g.length-1)≠0:=by rw[h.hm,h.h1];decide
theorem U9:(1:Rat)⁻¹ =1:=by have:=cx 1 (by decide);rwa[dM]at this
theorem Qd:Lg KB 1:=by show Nat.log2 1≤_;rw[show Nat.log2 1=0 from by decide];exact a9 _
theorem KF.aq(h:KF g m M):AQ g:=λi=>vO dA (h.hg i) Qd h.lM
theorem NL(h:KF g m M)(hd:0<Df)(lD:Lg KB Df)(hφ:1000000000≤φ):∀(j fu B:Nat)(rest quo:Row)(e0:Bool)(bs:List Blk)(L:D),RVal bs L rest→Pt rest→rest.length≤j+m-1→rest.length≤1000→j<fu→(∀t,Ht Df B (ent rest t))→Lg KB (2000*(B*(1+M)^(j+1)))→AQ quo→(∀i,i+m≤rest.length→ent quo i=0)→quo.length≤1000→
 ∃qs' nq e e',lp (λ(_ _ _:D)(_:LS)=>none) (kZ φ) fu (.tree (rs g) m ey) (.tree (rs quo) quo.length e0) L (mem bs)=some (.tup [.tree qs' nq e,.tree (rs (qy g j rest)) (qy g j rest).length e']):=by
 have hm:=h.hm;have hm2:=h.hm2;have hm3:=h.hm3;have stop:∀(j fu:Nat)(rest quo:Row)(e0:Bool)(bs:List Blk)(L:D),RVal bs L rest→rest.length<m→0<fu→∃qs' nq e e',lp (λ(_ _ _:D)(_:LS)=>none) (kZ φ) fu (.tree (rs g) m ey) (.tree (rs quo) quo.length e0) L (mem bs)=some (.tup [.tree qs' nq e,.tree (rs (qy g j rest)) (qy g j rest).length e']):=by
  intro j fu rest quo e0 bs L hv hlt hf;obtain⟨fu,rfl⟩:∃q,fu=q+1:=⟨fu-1,by omega⟩
  have hr:qy g j rest=rest:=by
   cases j with
   |zero=>rfl
   |succ j=>unfold qy;rw[aF (by omega)]
  obtain⟨e1,ls,hr1⟩:=Y2 hv;refine⟨rs quo,quo.length,e0,e1,?_⟩;rw[hr,eM];unfold kZ;exact th (JE hv) (th fO (th (zj (by omega)) (th eP (EZ (l1:=[]) rfl hr1 (Ve hv [_] [])))))
 intro j
 induction j with
 |zero=>
  intro fu B rest quo e0 bs L hL hp hl hl2 hf hv hB aq hq ql;exact stop 0 fu rest quo e0 bs L hL (by omega) (by omega)
 |succ j ih=>
  intro fu B rest quo e0 bs Lv hLv hp hl hl2 hf hv hB aq hq ql;by_cases hc:rest.length<m
  ·exact stop (j+1) fu rest quo e0 bs Lv hLv hc (by omega)
  ·obtain⟨fu,rfl⟩:∃q,fu=q+1:=⟨fu-1,by omega⟩
   have hrne:rest≠[]:=λe=>by subst e;simp at hc;omega
   have hlast:=B6 hp hrne;obtain⟨L,hL⟩:∃L,rest.length=L:=⟨_,rfl⟩
   have hpow:1≤(1+M)^(j+1):=bN (by omega);have hBM:B*(1+M)≤B*(1+M)^(j+1+1):=aT _ (by
    rw[ax];exact z1s _ hpow)
   have hBM2:B*M≤B*(1+M):=aT _ (by omega);have hBB:B≤B*(1+M):=by rw[bA,aj];omega
   have lB:Lg KB B:=qo hB (by omega);have lBM:∀t,t≤2000→Lg KB (t*(B*M)):=λt ht=>qo hB (cA ht (by omega));have arest:AQ rest:=λi=>vO hd (hv i) lD lB;obtain⟨cc,hcc⟩:∃cc,ent rest (rest.length-1)*(ent g (g.length-1))⁻¹ =cc:=⟨_,rfl⟩
   have hcc1:cc=ent rest (rest.length-1):=by rw[←hcc,hm,h.h1,U9,dM]
   have hcne:cc≠0:=by rw[hcc1];exact hlast
   have hcv:Ht Df B cc:=by rw[hcc1];exact hv _
   have hcq:Qz KB cc:=vO hd hcv lD lB;obtain⟨mo,hmo⟩:∃mo,List.replicate (rest.length-g.length) (0:Rat)++[cc]=mo:=⟨_,rfl⟩
   have hme:∀i,ent mo i=if i=rest.length-g.length then cc else 0:=λi=>by rw[←hmo];exact Cg
   have hml:mo.length=L-m+1:=by rw[←hmo];simp[hL,hm]
   have hmp:fG mo=mo:=by
    rw[←hmo];exact wL λx hx=>by
     rw[List.getLast?_append]at hx;simp at hx;rw[←hx];exact hcne
   have hmhb:Hb Df B mo:=λi=>by
    rw[hme];split
    ·exact hcv
    ·exact nS ue (a9 _)
   have amo:AQ mo:=λi=>vO hd (hmhb i) lD lB;obtain⟨e2,h2⟩:=NP (φ:=φ) (q:=cc) (n:=L-m) (by omega) hφ;rw[show List.replicate (L-m) (0:Rat)++[cc]=mo by rw[←hmo,hL,hm],hmp]at h2;obtain⟨e3,h3⟩:=Pi (φ:=φ) (ex:=e0) (ey:=e2) (rfl:quo.length=_) (rfl:mo.length=_) aq amo (by omega) hφ;have hMB:MB mo g Df B 1 M:=⟨hmhb,h.hg,hd,dA,lD,lB,Qd,h.lM,by rw[aj];exact lD,lBM _ (by omega)⟩
   obtain⟨e4,h4⟩:=P9 (φ:=φ) (ex:=e2) (ey:=ey) hMB rfl hm (by omega) hφ;have hph:=zX hMB.hf hMB.hg;have apm:AQ (jy mo g):=λi=>vO (co hd dA) (hph i) (by rw[aj];exact lD) (lBM _ (by omega));have hpl:=xo (f:=mo) (g:=g);obtain⟨e1,hiso⟩:=EV (M:=mc φ) (T:=.tree (rs (jy mo g)) (jy mo g).length e4) hLv Vc;obtain⟨e5,h5⟩:=Wd (φ:=φ) (ex:=e1) (ey:=e4) (rfl:rest.length=_) (rfl:(jy mo g).length=_) arest apm (by omega) hφ;have hst:E7 rest (jy mo g)=tj g rest:=by
    unfold E7 tj;rw[hcc,hmo];refine qZ λi=>?_;rw[mW,mW];by_cases hi:i<rest.length
    ·rw[aC hi,aC (by omega)]
    ·rw[aF hi];split
     ·rw[A4,←hmo,Hc,gJ (r:=rest) (by omega)];split
      ·rw[gJ (r:=g) (i:=i-(rest.length-g.length)) (by omega)];grind
      ·grind
     ·rfl
   rw[hst]at h5;have hse:∀i,ent (tj g rest) i=stV g (rest.length-g.length) (ent rest) i:=λi=>E2 (by omega);have hsp:Pt (tj g rest):=qK _;have hsl:(tj g rest).length≤L-1:=QD hsp λi hi=>by
    rw[hse];exact FZ h.ne h.lead (λi hi=>gJ (by omega)) i (by omega)
   have hsv:∀t,Ht Df (B+B*M) (ent (tj g rest) t):=λt=>by rw[hse];exact Ix h.hg (by rw[hm];exact h.h1) hv t
   have hq':∀i,ent (fG (lst (max quo.length mo.length) (λi=>ent quo i+ent mo i))) i=ent quo i+ent mo i:=λi=>by
    rw[mU,mW];split
    ·rfl
    ·rw[gJ (r:=quo) (by omega),gJ (r:=mo) (by omega)];grind
   have hQl:=nV (lst (max quo.length mo.length) (λi=>ent quo i+ent mo i));rw[gp]at hQl;obtain⟨b1,_,_,hk⟩:=hiso _ h5 rfl;obtain⟨qs',nq,e6,e7,h6⟩:=ih fu (B+B*M) (tj g rest) (fG (lst (max quo.length mo.length) (λi=>ent quo i+ent mo i))) e3 b1 (.tree (rs (tj g rest)) (tj g rest).length e5) .tr hsp (by omega) (by omega) (by omega) hsv (by
    rw[show B+B*M=B*(1+M) by rw[bA,aj],aa B,aK (1+M),←ax];exact hB) (λi=>by
    rw[hq',hme];by_cases hi:i=rest.length-g.length
    ·rw[aC hi,hq i (by omega),Rat.zero_add];exact hcq
    ·rw[aF hi,Rat.add_zero];exact aq i) (λi hi=>by
    rw[hq',hme,aF (by omega),hq i (by omega),Rat.add_zero]) (by omega)
   have hrr:qy g (j+1) rest=qy g j (tj g rest):=by
    show(if g.length≤rest.length then _ else rest)=_;rw[aC (by omega)]
   refine⟨qs',nq,e6,e7,?_⟩;rw[hrr,eM]
   conv=>lhs;unfold kZ
   refine th (JE hLv) (th fO (th (qR (by omega)) (th eO (th (CO hLv (λe=>Pd rfl (by omega)) rfl) (th (fF (Pd hm (by omega))) ?_)))));refine th (oZ (Zr (φ:=φ) (arest _) (h.aq _)) rfl) ?_;rw[show ent rest (rest.length-1)*(ent g (m-1))⁻¹ =cc by rw[←hcc,hm]];refine th (JE hLv) (th fO (th (gW (by omega) (by omega)) ?_));rw[hL]at*;exact th (fF h2) (th (fF h3) (th (fF h4) ((hk _).trans h6)))
theorem Zp(h:KF g m M)(hf:f.length=n)(hn:n≤1000)(hd:0<Df)(lD:Lg KB Df)(hv:Hb Df N f)(lT:Lg KB (2000*(N*(1+M)^(n+1))))(hφ:1000000000≤φ):
 ∃e,oG φ [.tree (rs f) n ex,.tree (rs g) m ey]=some (.tree (rs (n7 g f)) (n7 g f).length e):=by
 have h1:=PV (φ:=φ) (ex:=ex) hf (by omega) hφ;have hLv:RVal [⟨rs (fG f),.rw⟩] (.sl 0 0 (fG f).length (fG f).length 3 false) (fG f):=ww rfl;have hlen:=nV f;have hm2:=h.hm2;obtain⟨qs',nq,e2,e3,h2⟩:=NL (φ:=φ) (ey:=ey) (Df:=Df) h hd lD hφ n φ N (fG f) [] true _ _ hLv (qK f) (by omega) (by omega) (by omega) (λt=>by rw[mU];exact hv t) lT (λi=>by rw[uf];exact zS KB) (λi _=>uf) (by simp);have hres:qy g n (fG f)=n7 g f:=by
  rw[vi h.ne h.lead (f.length+1-g.length) n (fG f) (qK f) (by omega) (by have:=h.hm;omega)];unfold n7;congr 2;rw[show ent (fG f)=ent f from funext (mU f)]
 rw[hres]at h2;have h3:mM φ [.tree (rs f) n ex,.tree (rs g) m ey]=some (.tup [.tree qs' nq e2,.tree (rs (n7 g f)) (n7 g f).length e3]):=by
  unfold mM;dsimp only[eV,eY];rw[←fw];refine th (xR h1) ?_;rw[lU,jQ];exact h2
 refine⟨e3,?_⟩;unfold oG;dsimp only[eV,eY];exact th (fF h3) (th iO (th iN t6))
def fld(g:Row)(e:Bool):D:=.agg [.tree (rs g) g.length e]
theorem Kz(h:KF g m M)(hf:f.length=n)(hn:n≤1000)(hd:0<Df)(lD:Lg KB Df)(hv:Hb Df N f)(lT:Lg KB (2000*(N*(1+M)^(n+1))))(hφ:1000000000≤φ):
 ∃e,ig φ [fld g ey,.tree (rs f) n ex]=some (.tree (rs (n7 g f)) (n7 g f).length e):=by
 obtain⟨e,he⟩:=Zp (φ:=φ) (ex:=ex) (ey:=ey) h hf hn hd lD hv lT hφ;refine⟨e,?_⟩;unfold ig fld;dsimp only[eV,eY];rw[←fw];refine th (jf rfl) ?_;simp -implicitDefEqProofs only[kW,lV,List.length_nil,List.nil_append,List.getElem?_cons_zero,gN,gf,eL,Nat.zero_add];rw[h.hm];exact th (fF he) t6
theorem Tb:fa φ [fld g ey]=(fA (.i .i64 (.ofNat g.length)) (.i .i64 (.ofNat 1)) λx=>eW false (mem [⟨[.tree (rs g) g.length ey],.rw⟩]) x some):=by
 unfold fa fld;dsimp only[eV,eY];rw[←fw];refine th (jf rfl) ?_;simp -implicitDefEqProofs only[kW,lV,List.length_nil,List.nil_append,List.getElem?_cons_zero,gN,gf,eL,Nat.zero_add,fO]
end
section
variable {bs:List Blk} {l f g r:Row} {b:Blk} {i k n m c N M Df Dg:Nat} {ex ey:Bool} {s:LS} {K:D→LS→Rs} {kk:IntKind} {q p:Rat} {φ:Nat} {X:D}
theorem Wi(h:KF g m M):fa φ [fld g ey]=some (.i .i64 (.ofNat (m-1))):=by
 have:=h.hm2;have:=h.hm3;rw[Tb,h.hm];exact th (gW (by omega) (by omega)) jU
theorem qz(h0:bs[k]?=some ⟨[.tree (rs g) g.length ey],.rw⟩):eT 1 (mem bs) (.ptr k 0) K=K (fld g ey) (mem bs):=th (N5 h0 rfl (aE 1)) rfl
theorem Yb{a b:Row}{na nb Na Nb Da Db':Nat}{ea eb:Bool}(h:KF g m M)(hB:MB a b Da Na Db' Nb)(ha:a.length=na)(hb:b.length=nb)(hna:na+nb≤1000)(lT:Lg KB (2000*(na*(Na*Nb)*(1+M)^(na+nb+1))))(hφ:1000000000≤φ):
 ∃e,i8 φ [fld g ey,.tree (rs a) na ea,.tree (rs b) nb eb]=some (.tree (rs (n7 g (jy a b))) (n7 g (jy a b)).length e):=by
 obtain⟨e1,p1⟩:=P9 (φ:=φ) (ex:=ea) (ey:=eb) hB ha hb (by omega) hφ;have hlen:=xo (f:=a) (g:=b);obtain⟨e2,p2⟩:=Kz (φ:=φ) (ex:=e1) (ey:=ey) (Df:=Da*Db') (N:=na*(Na*Nb)) h (rfl:(jy a b).length=_) (by omega) (co hB.d0 hB.e0) hB.l5 (by rw[←ha];exact zX hB.hf hB.hg) (qo lT (aT _ (aT _ (bg (by omega) (by omega))))) hφ;refine⟨e2,?_⟩;unfold i8;dsimp only[eV,eY];rw[←fw];refine th (jf rfl) (th (qz rfl) (th (fF p1) (th (fF p2) t6)))
theorem NF(h:KF g m M)(hl:l.length=n):∀(j i fu:Nat)(bs:List Blk)(X:D),i+j=m-1→j<fu→A3 bs X (lst i (ent l))→bs[0]?=some ⟨[.tree (rs g) g.length ey],.rw⟩→jg X 0→
 ∃e,lp (λ(_ _ _ _:D)(_:LS)=>none) (mJ φ) fu (.tree (rs l) n ex) (.ptr 0 0) X (.i .i64 (.ofNat i)) (mem bs)=some (.tree (rs (lst (m-1) (ent l))) (m-1) e):=by
 have hm3:=h.hm3;intro j
 induction j with
 |zero=>
  intro i fu bs X hi hf hA h0 hX;obtain⟨fu,rfl⟩:∃q,fu=q+1:=⟨fu-1,by omega⟩
  have:i=m-1:=by omega
  subst this;obtain⟨e,he⟩:=TZ hA;rw[gp]at he;refine⟨e,?_⟩;rw[eM];unfold mJ;exact th (qz h0) (th (fF (Wi h)) (th (gA (by omega)) (th eP he)))
 |succ j ih=>
  intro i fu bs X hi hf hA h0 hX;obtain⟨fu,rfl⟩:∃q,fu=q+1:=⟨fu-1,by omega⟩
  obtain⟨bs1,X1,hA1,hk,h1⟩:=ap3 (q:=ent l i) (K:=λx23 s=>eZ (.i .i64 (.ofNat i)) (.i .i64 (.ofNat 1)) λx17=>lp (λ(_ _ _ _:D)(_:LS)=>none) (mJ φ) fu (.tree (rs l) n ex) (.ptr 0 0) x23 x17 s) hA (by rw[gp];omega);obtain⟨g0,gX⟩:=hk 0 _ hX h0;obtain⟨e,he⟩:=ih (i+1) fu bs1 X1 (by omega) (by omega) (by rw[rO];exact hA1) g0 gX;refine⟨e,?_⟩;rw[eM];unfold mJ;refine th (qz h0) (th (fF (Wi h)) (th (fe (by omega)) (th eO (th om (th fO ?_)))));by_cases hi:i<n
  ·exact th (fe hi) (th eO (th (qE hl hi) (h1.trans (th (fH (by omega)) he))))
  ·rw[gJ (r:=l) (i:=i) (by omega)]at h1;exact th (gA hi) (th eP (th (fF wz) (h1.trans (th (fH (by omega)) he))))
theorem Y9(h:KF g m M)(hl:l.length=n)(hφ:1000000000≤φ):∃e,i7 φ [fld g ey,.tree (rs l) n ex]=some (.tree (rs (lst (m-1) (ent l))) (m-1) e):=by
 have hm3:=h.hm3;obtain⟨e,he⟩:=NF (φ:=φ) (ex:=ex) (ey:=ey) h hl (m-1) 0 φ [⟨[.tree (rs g) g.length ey],.rw⟩] (.tree [] 0 true) (by omega) (by omega) vD rfl (λo n m z e h=>by cases h);refine⟨e,?_⟩;unfold i7;dsimp only[eV,eY];rw[←fw];exact th (jf rfl) he
theorem LB:j6 φ [rc q]=some (.b (decide (q=0))):=by
 unfold j6;dsimp only[eV,eY];rw[←fw];refine th (jf rfl) (th (xJ (q:=q) rfl) ?_);by_cases h:q=0
 ·refine th (JP h) (th (oo rfl) ?_);rw[aP h];exact sO
 ·by_cases h0:q.num<0
  ·refine th (jk HL rfl) ?_;rw[aC h0,aN h];exact th (GR (j:= -1) (Or.inl rfl)) sO
  ·refine th (jk HL rfl) ?_;rw[aF h0,aF h,aN h];exact th (GR (j:=1) (Or.inr rfl)) sO
theorem Kn:scl l q=lst l.length (λi=>ent l i*q):=xt zL (λi _=>B1)
theorem F5(hl:l.length=n)(al:AQ l)(hc:Qz KB q)(hs:n<1000000000):∀(j i fu:Nat)(bs:List Blk)(X:D),i+j=n→j<fu→A3 bs X (lst i (λi=>ent l i*q))→bs[0]?=some ⟨rcs q,.rw⟩→jg X 0→
 ∃e,lp (λ(_ _ _ _ _:D)(_:LS)=>none) (ka φ) fu (.ptr 0 0) X (.tree (rs l) n ex) (.i .i64 (.ofNat n)) (.i .i64 (.ofNat i)) (mem bs)=some (.tree (rs (scl l q)) n e):=by
 intro j
 induction j with
 |zero=>
  intro i fu bs X hi hfu hA h0 hX;obtain⟨fu,rfl⟩:∃q,fu=q+1:=⟨fu-1,by omega⟩
  have:i=n:=by omega
  subst this;obtain⟨e,he⟩:=TZ hA;rw[gp]at he;refine⟨e,?_⟩;rw[eM,Kn,hl];unfold ka;exact th (gA (by omega)) (th eP he)
 |succ j ih=>
  intro i fu bs X hi hfu hA h0 hX;obtain⟨fu,rfl⟩:∃q,fu=q+1:=⟨fu-1,by omega⟩
  obtain⟨bs1,X1,hA1,hk,h1⟩:=ap3 (bs:=bs++[⟨rcs (ent l i),.rw⟩]) (q:=ent l i*q) (K:=λx16 s=>eZ (.i .i64 (.ofNat i)) (.i .i64 (.ofNat 1)) λx17=>lp (λ(_ _ _ _ _:D)(_:LS)=>none) (ka φ) fu (.ptr 0 0) x16 (.tree (rs l) n ex) (.i .i64 (.ofNat n)) x17 s) (Gg hA) (by rw[gp];omega);obtain⟨g0,gX⟩:=hk 0 _ hX (gI h0);obtain⟨e,he⟩:=ih (i+1) fu bs1 X1 (by omega) (by omega) (by rw[rO];exact hA1) g0 gX;refine⟨e,?_⟩;rw[eM];unfold ka;exact th (fe (by omega)) (th eO (th (qE hl (by omega)) (th (yE rfl) (th Dy (th (xJ (gI h0)) (th (oZ (Pb (al i) hc) rfl) (h1.trans (th (fH (by omega)) he))))))))
theorem T8(hl:l.length=n)(al:AQ l)(hc:Qz KB q)(hs:n<1000000000)(hφ:1000000000≤φ):∃e,mO φ [.tree (rs l) n ex,rc q]=some (.tree (rs (scl l q)) n e):=by
 obtain⟨e,he⟩:=F5 (φ:=φ) (ex:=ex) hl al hc hs n 0 φ [⟨rcs q,.rw⟩] (.tree [] 0 true) (by omega) (by omega) vD rfl (λo n m z e h=>by cases h);refine⟨e,?_⟩;unfold mO;dsimp only[eV,eY];rw[←fw];exact th (jf rfl) (th fO he)
structure SQ (r l:Row) (c:Rat):Prop where
 ar:AQ r
 al:AQ l
 ac:Qz KB c
 ap:∀i,Qz KB (c*ent l i)
theorem F1(h:r.length=l.length):sbr r l q=lst r.length (λi=>ent r i-q*ent l i):=xt (tZ h) (λi _=>zM h)
theorem Gz(h:r.length=l.length):sbr r l 0=r:=by
 rw[F1 h]
 conv=>rhs;rw[←Cq (l:=r)]
 unfold lst;exact dS λi _=>by grind
theorem Dt(hr:r.length=n)(hl:l.length=n)(hq:SQ r l q)(hs:n<1000000000):∀(j i fu:Nat)(bs:List Blk)(X:D),i+j=n→j<fu→A3 bs X (lst i (λi=>ent r i-q*ent l i))→bs[0]?=some ⟨rcs q,.rw⟩→jg X 0→
 ∃e,lp (λ(_ _ _ _ _ _:D)(_:LS)=>none) (jB φ) fu (.tree (rs r) n ex) (.tree (rs l) n ey) (.ptr 0 0) X (.i .i64 (.ofNat n)) (.i .i64 (.ofNat i)) (mem bs)=some (.tree (rs (sbr r l q)) n e):=by
 intro j
 induction j with
 |zero=>
  intro i fu bs X hi hfu hA h0 hX;obtain⟨fu,rfl⟩:∃q,fu=q+1:=⟨fu-1,by omega⟩
  have:i=n:=by omega
  subst this;obtain⟨e,he⟩:=TZ hA;rw[gp]at he;refine⟨e,?_⟩;rw[eM,F1 (by omega),hr];unfold jB;exact th (gA (by omega)) (th eP he)
 |succ j ih=>
  intro i fu bs X hi hfu hA h0 hX;obtain⟨fu,rfl⟩:∃q,fu=q+1:=⟨fu-1,by omega⟩
  obtain⟨bs1,X1,hA1,hk,h1⟩:=ap3 (q:=ent r i-q*ent l i) (K:=λx16 s=>eZ (.i .i64 (.ofNat i)) (.i .i64 (.ofNat 1)) λx17=>lp (λ(_ _ _ _ _ _:D)(_:LS)=>none) (jB φ) fu (.tree (rs r) n ex) (.tree (rs l) n ey) (.ptr 0 0) x16 (.i .i64 (.ofNat n)) x17 s) hA (by rw[gp];omega);obtain⟨g0,gX⟩:=hk 0 _ hX h0;obtain⟨e,he⟩:=ih (i+1) fu bs1 X1 (by omega) (by omega) (by rw[rO];exact hA1) g0 gX;refine⟨e,?_⟩;rw[eM];unfold jB;exact th (fe (by omega)) (th eO (th (qE hr (by omega)) (th (xJ h0) (th (qE hl (by omega)) (th (oZ (Pb hq.ac (hq.al i)) rfl) (th (oZ (Zm (hq.ar i) (hq.ap i)) rfl) (h1.trans (th (fH (by omega)) he))))))))
theorem HJ(hr:r.length=n)(hl:l.length=n)(hc:c<n)(hq:SQ r l (ent r c))(hs:n<1000000000)(hφ:1000000000≤φ):∃e,jJ φ [.tree (rs r) n ex,.tree (rs l) n ey,.i .i64 (.ofNat c)]=some (.tree (rs (wo l c r)) n e):=by
 have pre:∀R,(eQ (.b (decide (ent r c=0))) (eW false (mem [⟨rcs (ent r c),.rw⟩]) (.tree (rs r) n ex) some) (lp (λ(_ _ _ _ _ _:D)(_:LS)=>none) (jB φ) φ (.tree (rs r) n ex) (.tree (rs l) n ey) (.ptr 0 0) (.tree [] 0 true) (.i .i64 (.ofNat n)) (.i .i64 (.ofNat 0)) (mem [⟨rcs (ent r c),.rw⟩])))=R→jJ φ [.tree (rs r) n ex,.tree (rs l) n ey,.i .i64 (.ofNat c)]=R:=by
  intro R hR;unfold jJ;dsimp only[eV,eY];rw[←fw];exact th (qE hr hc) (th (yE rfl) (th (xJ (k:=0) (q:=ent r c) rfl) (th (jk LB rfl) hR)))
 by_cases h:ent r c=0
 ·refine⟨ex,pre _ ?_⟩;unfold wo;rw[aP h,h,Gz (by omega)];exact th eO t6
 ·obtain⟨e,he⟩:=Dt (φ:=φ) (ex:=ex) (ey:=ey) hr hl hq hs n 0 φ [⟨rcs (ent r c),.rw⟩] (.tree [] 0 true) (by omega) (by omega) vD rfl (λo n m z e h=>by cases h);refine⟨e,pre _ ?_⟩;rw[aN h];exact th eP he
end
section
variable {bs bs':List Blk} {l f g r:Row} {b:Blk} {i k n m c N M Df Dg kr:Nat} {ex ey:Bool} {s:LS} {K:D→LS→Rs} {kk:IntKind} {q p:Rat} {φ:Nat} {X L:D}
theorem Wq(h0:∀t,t<i→ent l t=0)(h1:ent l i≠0):pvt l=i:=by
 have hil:i<l.length:=by
  rcases az i l.length with h|h
  ·exact h
  ·exact absurd (gJ h) h1
 rcases cp (pvt l) i with h|h|h
 ·exact absurd (h0 _ h) (AY (by omega))
 ·exact h
 ·exact absurd (AZ h) h1
def pvD(l:Row):D:=if pvt l<l.length then .i .i64 (.ofNat (pvt l))else .i .i64 (.negSucc 0)
theorem Te:qc φ [rc q]=some (.b (!(decide (q=0)))):=by
 have h1:=xQ (sP (φ:=φ) (p:=q)) rfl;unfold rc at h1;unfold qc rc;simp -implicitDefEqProofs only[eV,eY,fy,jf,ln,List.all_cons,List.all_nil,one,Bool.and_self,List.length_nil,List.nil_append,List.getElem?_cons_zero,gN,gf,eL,tL,lk,li,sO,List.drop_zero,h1]
theorem QN(hs:l.length<1000000000){kk':D→LS→Rs}:∀(j i f:Nat),i+j=l.length→j<f→(∀t,t<i→ent l t=0)→
 lp (λ(_ _ _ _:D)(_:LS)=>none) (iJ φ kk') f (.tree (rs l) l.length ex) (.fn 94 []) (.i .i64 (.ofNat l.length)) (.i .i64 (.ofNat i)) s=kk' (pvD l) s:=by
 intro j
 induction j with
 |zero=>
  intro i f hi hf h0;obtain⟨f,rfl⟩:∃q,f=q+1:=⟨f-1,by omega⟩
  have hp:¬pvt l<l.length:=λh=>AY h (h0 _ (by omega));rw[eM];unfold iJ pvD;rw[aF hp];exact th (gA (by omega)) eP
 |succ j ih=>
  intro i f hi hf h0;obtain⟨f,rfl⟩:∃q,f=q+1:=⟨f-1,by omega⟩
  have hd:∀F:D→LS→Rs,ug (pi φ) false (.fn 94 []) [rc (ent l i)] s F=F (.b (!(decide (ent l i=0)))) s:=λF=>by
   show eS (qc φ) [rc (ent l i)] s F=_;exact jk Te rfl
  rw[eM];unfold iJ;refine th (fe (by omega)) (th eO (th (qE rfl (by omega)) (th (hd _) ?_)));by_cases hz:ent l i=0
  ·rw[aP hz];refine th eP (th (fH (by omega)) ?_);exact ih (i+1) f (by omega) (by omega) (λt ht=>by
    by_cases h:t=i
    ·rw[h];exact hz
    ·exact h0 t (by omega))
  ·rw[aN hz];have:=Wq h0 hz;unfold pvD;rw[aC (by omega),this];exact eO
theorem zW:sW (pvD l)=true:=by unfold pvD;split<;>rfl
theorem AX(hs:l.length<1000000000)(hφ:1000000000≤φ)(e:Bool):lC φ [.tree (rs l) l.length e]=some (pvD l):=by
 unfold lC;dsimp only[eV,eY];unfold il;dsimp only[eV,eY];refine th fO (th (QN hs l.length 0 φ (by omega) (by omega) (λt ht=>by omega)) ?_);unfold pvD;split
 ·exact jU
 ·exact jU
theorem Ms(hr:r.length=n)(hl:l.length=n)(hL:jg L kr)(hq:SQ r l q)(hs:n<1000000000)(hφ:3000000000≤φ){kk':D→LS→Rs}{kc:Nat}(hkc:kc≠kr):∀(j i f:Nat)(bs:List Blk)(cur:Row),i+j=n→j<f→bs[kr]?=some ⟨rs cur,.rw⟩→RVal bs L l→bs[kc]?=some ⟨rcs q,.rw⟩→cur.length=n→(∀t,ent cur t=if t<i then ent r t-q*ent l t else ent r t)→
 ∃bs',bs'[kr]?=some ⟨rs (sbr r l q),.rw⟩∧(∀k b,k≠kr→bs[k]?=some b→bs'[k]?=some b)∧
 lp (λ(_ _ _ _ _:D)(_:LS)=>none) (pA φ kk') f (.sl kr 0 n c 3 ex) L (.ptr kc 0) (.i .i64 (.ofNat n)) (.i .i64 (.ofNat i)) (mem bs)=kk' (.tup []) (mem bs'):=by
 intro j
 induction j with
 |zero=>
  intro i f bs cur hi hf h0 hLv hc hcl hv;obtain⟨f,rfl⟩:∃q,f=q+1:=⟨f-1,by omega⟩
  have e1:cur=sbr r l q:=by
   rw[F1 (by omega),hr];exact xt hcl (λt ht=>by rw[hv,aC (by omega)])
  refine⟨bs,by rw[←e1];exact h0,λk b _ h=>h,?_⟩;rw[eM];unfold pA;exact th (gA (by omega)) eP
 |succ j ih=>
  intro i f bs cur hi hf h0 hLv hc hcl hv;obtain⟨f,rfl⟩:∃q,f=q+1:=⟨f-1,by omega⟩
  by_cases hz:ent l i=0
  ·obtain⟨bs',a1,a2,a3⟩:=ih (i+1) f bs cur (by omega) (by omega) h0 hLv hc hcl (λt=>by
    rw[hv];by_cases ht:t<i
    ·rw[aC ht,aC (by omega)]
    ·rw[aF ht];by_cases ht2:t=i
     ·subst ht2;rw[aC (by omega),hz];grind
     ·rw[aF (by omega)])
   refine⟨bs',a1,a2,?_⟩;rw[eM];unfold pA;refine th (fe (by omega)) (th eO (th om (th (Ou hLv (by omega)) (th (jk sP rfl) ?_))));rw[aP hz];exact th tL (th eP (th (fH (by omega)) a3))
  ·have ec:ent cur i=ent r i:=by rw[hv,aF (by omega)]
   obtain⟨bs',a1,a2,a3⟩:=ih (i+1) f (bs.set kr ⟨rs (cur.set i (ent r i-q*ent l i)),.rw⟩) (cur.set i (ent r i-q*ent l i)) (by omega) (by omega) (by rw[a7 (ef h0)]) (TK hLv hL (λk b hk hb=>by rw[bU (Ne.symm hk)];exact hb)) (gF (Ne.symm hkc) hc) (by rw[bB];exact hcl) (λt=>by
    rw[zx (by omega)];by_cases ht:t=i
    ·subst ht;rw[aC rfl,aC (by omega)]
    ·rw[aF ht,hv];by_cases ht2:t<i
     ·rw[aC ht2,aC (by omega)]
     ·rw[aF ht2,aF (by omega)])
   refine⟨bs',a1,λk b hk hb=>a2 k b hk (gF (Ne.symm hk) hb),?_⟩;rw[eM];unfold pA;refine th (fe (by omega)) (th eO (th om (th (Ou hLv (by omega)) (th (jk sP rfl) ?_))));rw[aN hz];refine th tL (th eO (th (Ct h0 rfl rfl (by omega) (by omega)) (th (xJ hc) (th (Ou hLv (by omega)) (th (oZ (Ps hq.ac (hq.al i) hφ) rfl) ?_)))));rw[ec];exact th (oZ (Ye (hq.ar i) (hq.ap i) hφ) rfl) (th (Ir h0 (by omega) (by omega)) (th (fH (by omega)) a3))
theorem AW(hr:r.length=n)(hl:l.length=n)(hb:bs[kr]?=some ⟨rs r,.rw⟩)(hLv:RVal bs L l)(hL:jg L kr)(hq:SQ r l q)(hs:n<1000000000)(hφ:3000000000≤φ){kk':D→LS→Rs}:
 ∃bs',bs'[kr]?=some ⟨rs (sbr r l q),.rw⟩∧(∀k b,k≠kr→bs[k]?=some b→bs'[k]?=some b)∧nA φ [.sl kr 0 n c 3 ex,L,rc q] (mem bs) kk'=kk' (.tup []) (mem bs'):=by
 have hlt:=ef hb;by_cases h0:q=0
 ·refine⟨bs++[⟨rcs q,.rw⟩],?_,λk b _ h=>gI h,?_⟩
  ·rw[h0,Gz (by omega)];exact gI hb
  ·unfold nA;dsimp only[eV,eY];refine th (jf rfl) (th Dy (th (jk sP rfl) ?_));rw[aP h0];exact eO
 ·obtain⟨bs',a1,a2,a3⟩:=Ms (φ:=φ) (c:=c) (ex:=ex) (kk':=kk') (kc:=bs.length) hr hl hL hq hs hφ (by omega) n 0 φ (bs++[⟨rcs q,.rw⟩]) r (by omega) (by omega) (gI hb) (Ko hLv) (by simp) hr (λt=>by rw[aF (by omega)]);refine⟨bs',a1,λk b hk hb'=>a2 k b hk (gI hb'),?_⟩;unfold nA;dsimp only[eV,eY];refine th (jf rfl) (th Dy (th (jk sP rfl) ?_));rw[aN h0];exact th eP (th mX a3)
end
section
variable {bs bs':List Blk} {l f g r:Row} {b:Blk} {i j k n m c N kr h H J:Nat} {ex ey:Bool} {s:LS} {K:D→LS→Rs} {kk:IntKind} {q p:Rat} {φ:Nat} {X Y L A:D} {R:List (Nat×Row)}
def rD(N:Nat)(p:Nat×Row):D:=.sl p.1 0 N N 3 false
structure OS (bs:List Blk) (X:D) (R:List (Nat×Row)) (N:Nat):Prop where
 as:AS 1 bs X (R.map (rD N)) R.length
 rows:∀p,p∈R→bs[p.1]?=some ⟨rs p.2,.rw⟩∧p.2.length=N
 nd:(R.map Prod.fst).Nodup
 nb:∀p,p∈R→jg X p.1
theorem J2:OS bs (.tree [] 0 true) [] N:=⟨AS.nil,(λp h=>by cases h),dz,(λp h=>by cases h)⟩
theorem Ma{cs:List D}{d:D}(h:AS 1 bs X cs n)(hd:cs[i]?=some d):(eJ 1 (mem bs) X (.i kk (.ofNat i)) λa s=>eK s a K)=K d (mem bs):=by
 cases h with
 |nil=>simp at hd
 |blk hg hc=>
  have:=ef hd;refine th (Ah hg rfl (by omega)) ?_;rw[aV,aj];exact GC hg rfl hd
theorem SZ{cs:List D}{d:D}(h:AS 1 bs X cs n)(hi:i<cs.length)(hv:kP d=[d])(h1:one d=true):
 ∃bs',AS 1 bs' X (cs.set i d) n∧(∀k b,jg X k→bs[k]?=some b→bs'[k]?=some b)∧(eJ 1 (mem bs) X (.i kk (.ofNat i)) λa s=>eU 1 s a d K)=K .u (mem bs'):=by
 cases h with
 |nil=>simp at hi
 | @blk l n _ hg hc=>
  refine⟨bs.set l ⟨cs.set i d,.rw⟩,AS.blk (by rw[a7 (ef hg)]) (by rw[bB];exact hc),λk b hk hb=>by rw[bU (λe=>hk 0 n n 1 false (by rw[e]))];exact hb,?_⟩;refine th (Ah hg rfl (by omega)) ?_;rw[aV,aj];refine Gu hg rfl (hx:=hv) (hn:=rfl) (h1:=by simp[h1]) (hl:=?_);rw[←sS];exact xK hi
theorem Mb{cs:List D}(h:AS 1 bs X cs n){s:LS}:ek X s K=K (.i .i64 (.ofNat n)) s:=rg h.ws
theorem Bq{cs:List D}(h:AS 1 bs X cs n)(hk:∀k b,k≠kr→bs[k]?=some b→bs'[k]?=some b)(hX:jg X kr):AS 1 bs' X cs n:=by
 cases h with
 |nil=>exact AS.nil
 |blk hg hc=>exact AS.blk (hk _ _ (λe=>hX 0 _ _ 1 false (by rw[e])) hg) hc
theorem LR(h:OS bs X R N)(hk:∀k b,k≠kr→bs[k]?=some b→bs'[k]?=some b)(hX:jg X kr)(hR:∀p,p∈R→p.1≠kr):OS bs' X R N:=
 ⟨Bq h.as hk hX,λp hp=>⟨hk _ _ (hR p hp) (h.rows p hp).1,(h.rows p hp).2⟩,h.nd,h.nb⟩
theorem J4(h:OS bs X R N)(hi:i<R.length):(eJ 1 (mem bs) X (.i kk (.ofNat i)) λa s=>eK s a K)=K (rD N R[i]) (mem bs):=
 Ma h.as (by rw[ae,aB hi];rfl)
theorem J3(h:OS bs X R N){s:LS}:ek X s K=K (.i .i64 (.ofNat R.length)) s:=Mb h.as
theorem LQ(h:OS bs X R N){p:Nat×Row}(hp:p∈R):RVal bs (rD N p) p.2:=by
 have:=(h.rows p hp).2;unfold rD;rw[←this];exact F2 (h.rows p hp).1
theorem HD(hr:RH h r)(hl:RH H l)(hk:h+H+1≤KB)(p:Nat):SQ r l (ent r p):=
 ⟨λi=>vN (JK hr i) (by omega),λi=>vN (JK hl i) (by omega),vN (JK hr p) (by omega),λi=>vN (Y4 hr hl p i) hk⟩
theorem E3{E:List Row}:sH (E++[l]) r=sbr (sH E r) l (ent (sH E r) (pvt l)):=by
 unfold sH;rw[dy];rfl
theorem Tc{p:Nat×Row}(h:p.1≠k):jg (rD N p) k:=λo n m z e he=>by
 unfold rD at he;injection he with h1;exact h h1
theorem Xk(hφ:3000000000≤φ)(hN:N<1000000000)(hO:OS bs X R N)(hX:jg X kr)(hRk:∀p,p∈R→p.1≠kr)(hpv:∀p,p∈R→pvt p.2<N)(hH:∀p,p∈R→RH H p.2)(hr:r.length=N)(hh:RH h r)(hK:h+(R.length+1)*(H+2)≤KB)(hl:R.length<1000000){j9:D→D→D→D→LS→Rs}{a b' c':D}:
 ∀(j i fu:Nat)(bs:List Blk),i+j=R.length→j<fu→OS bs X R N→bs[kr]?=some ⟨rs (sH ((R.take i).map Prod.snd) r),.rw⟩→
 ∃bs',OS bs' X R N∧bs'[kr]?=some ⟨rs (sH (R.map Prod.snd) r),.rw⟩∧(∀k b,k≠kr→bs[k]?=some b→bs'[k]?=some b)∧
 lp (λ(_ _ _ _ _ _ _ _:D)(_:LS)=>none) (je φ j9) fu X (.sl kr 0 N N 3 false) a b' c' X (.i .i64 (.ofNat R.length)) (.i .i64 (.ofNat i)) (mem bs)=
 lp (λ(_ _ _ _ _ _ _ _:D)(_:LS)=>none) (je φ j9) (fu-j) X (.sl kr 0 N N 3 false) a b' c' X (.i .i64 (.ofNat R.length)) (.i .i64 (.ofNat R.length)) (mem bs'):=by
 intro j
 induction j with
 |zero=>
  intro i fu bs hi hf hO hb;have:i=R.length:=by omega
  subst this;rw[aM (aE _)]at hb;exact⟨bs,hO,hb,λ_ _ _ h=>h,rfl⟩
 |succ j ih=>
  intro i fu bs hi hf hO hb;obtain⟨fu,rfl⟩:∃q,fu=q+1:=⟨fu-1,by omega⟩
  have hiR:i<R.length:=by omega
  have hmem:R[i]∈R:=ak hiR;have hEi:∀l,l∈(R.take i).map Prod.snd→l.length=N∧RH H l:=λl hl=>by
   obtain⟨p,hp,rfl⟩:=av.1 hl;have:=br hp;exact⟨(hO.rows p this).2,hH p this⟩
  have hcl:=vj (λl hl=>(hEi l hl).1) hr;have hcr:=B3 (λl hl=>hEi l hl) hr hh;rw[aI,aZ,bS (by omega)]at hcr;have hbound:h+i*(H+2)+H+1≤KB:=by
   have h5:=aL (H+2) (show i+1≤R.length+1 by omega);rw[aS i 1,bG]at h5;omega
  have hli:=(hO.rows _ hmem).2;have hsq:=HD hcr (hH _ hmem) hbound (pvt R[i].2);obtain⟨b1,g1,g2,g3⟩:=AW (φ:=φ) (c:=N) (ex:=false) (L:=rD N R[i]) (kk':=λ_ s=>eZ (.i .i64 (.ofNat i)) (.i .i64 (.ofNat 1)) λx35=>lp (λ(_ _ _ _ _ _ _ _:D)(_:LS)=>none) (je φ j9) fu X (.sl kr 0 N N 3 false) a b' c' X (.i .i64 (.ofNat R.length)) x35 s) hcl hli hb (LQ hO hmem) (Tc (hRk _ hmem)) hsq hN hφ;obtain⟨bs',a1,a2,a3,a4⟩:=ih (i+1) fu b1 (by omega) (by omega) (LR hO g2 hX hRk) (by
   rw[bq,aB hiR,aW];show b1[kr]?=some ⟨rs (sH (List.map Prod.snd (List.take i R)++[R[i].2]) r),.rw⟩;rw[E3];exact g1)
  refine⟨bs',a1,a2,λk b hk hb=>a3 k b hk (g2 k b hk hb),?_⟩;have hpi:=hpv _ hmem;rw[eM]
  conv=>lhs;unfold je
  refine th (fe (by omega)) (th eO (th (J4 hO hiR) (th (CO (v:=pvD R[i].2) (LQ hO hmem) (λe=>AX (by omega) (by omega) e) zW) ?_)));rw[show pvD R[i].2=.i .i64 (.ofNat (pvt R[i].2)) by unfold pvD;rw[aC (by omega)]];refine th (Ct hb rfl rfl (by omega) (by omega)) (g3.trans (th (fH (by omega)) ?_));rw[bj fu 1 j];exact a4
theorem Xl(hφ:3000000000≤φ)(hN:N<1000000000)(hr:r.length=N)(ar:AQ r)(hq:Qz KB q){j9:D→D→D→D→LS→Rs}{at' a b' c':D}{kc:Nat}(hkc:kc≠kr):
 ∀(j i fu:Nat)(bs:List Blk)(cur:Row),i+j=N→j<fu→bs[kr]?=some ⟨rs cur,.rw⟩→bs[kc]?=some ⟨rcs q,.rw⟩→cur.length=N→(∀t,ent cur t=if t<i then ent r t*q else ent r t)→
 ∃bs',bs'[kr]?=some ⟨rs (scl r q),.rw⟩∧(∀k b,k≠kr→bs[k]?=some b→bs'[k]?=some b)∧
 lp (λ(_ _ _ _ _ _ _ _ _:D)(_:LS)=>none) (pa φ j9) fu X (.sl kr 0 N N 3 false) at' (.ptr kc 0) a b' c' (.i .i64 (.ofNat N)) (.i .i64 (.ofNat i)) (mem bs)=
 lp (λ(_ _ _ _ _ _ _ _ _:D)(_:LS)=>none) (pa φ j9) (fu-j) X (.sl kr 0 N N 3 false) at' (.ptr kc 0) a b' c' (.i .i64 (.ofNat N)) (.i .i64 (.ofNat N)) (mem bs'):=by
 intro j
 induction j with
 |zero=>
  intro i fu bs cur hi hf h0 hc hcl hv;have:i=N:=by omega
  subst this;have e1:cur=scl r q:=by
   rw[Kn,hr];exact xt hcl (λt ht=>by rw[hv,aC ht])
  exact⟨bs,by rw[←e1];exact h0,λ_ _ _ h=>h,rfl⟩
 |succ j ih=>
  intro i fu bs cur hi hf h0 hc hcl hv;obtain⟨fu,rfl⟩:∃q,fu=q+1:=⟨fu-1,by omega⟩
  have ec:ent cur i=ent r i:=by rw[hv,aF (by omega)]
  obtain⟨bs',a1,a2,a3⟩:=ih (i+1) fu (bs.set kr ⟨rs (cur.set i (ent r i*q)),.rw⟩) (cur.set i (ent r i*q)) (by omega) (by omega) (by rw[a7 (ef h0)]) (gF (Ne.symm hkc) hc) (by rw[bB];exact hcl) (λt=>by
   rw[zx (by omega)];by_cases ht:t=i
   ·subst ht;rw[aC rfl,aC (by omega)]
   ·rw[aF ht,hv];by_cases ht2:t<i
    ·rw[aC ht2,aC (by omega)]
    ·rw[aF ht2,aF (by omega)])
  refine⟨bs',a1,λk b hk hb=>a2 k b hk (gF (Ne.symm hk) hb),?_⟩;rw[eM]
  conv=>lhs;unfold pa
  refine th (fe (by omega)) (th eO (th (Ct h0 rfl rfl (by omega) (by omega)) (th (xJ hc) ?_)));rw[ec];refine th (oZ (Ps (ar i) hq hφ) rfl) (th (Ir h0 (by omega) (by omega)) (th (fH (by omega)) ?_));rw[bj fu 1 j];exact a3
def upR(r:Row)(at':Nat)(p:Nat×Row):Nat×Row:=(p.1,sbr p.2 r (ent p.2 at'))
theorem Xm(hφ:3000000000≤φ)(hN:N<1000000000){at':Nat}(hat:at'<N)(hr:r.length=N)(hrR:RH h r)(hH:∀p,p∈R→RH H p.2)(hK:H+h+1≤KB)(hX:jg X kr)(hRk:∀p,p∈R→p.1≠kr)(hl:R.length<1000000){j9:D→D→D→D→LS→Rs}{a b' c':D}:
 ∀(j i fu:Nat)(bs:List Blk),i+j=R.length→j<fu→OS bs X ((R.take i).map (upR r at')++R.drop i) N→bs[kr]?=some ⟨rs r,.rw⟩→
 ∃bs',OS bs' X (R.map (upR r at')) N∧bs'[kr]?=some ⟨rs r,.rw⟩∧
 lp (λ(_ _ _ _ _ _ _ _ _:D)(_:LS)=>none) (nY φ j9) fu X (.sl kr 0 N N 3 false) (.i .i64 (.ofNat at')) a b' c' X (.i .i64 (.ofNat R.length)) (.i .i64 (.ofNat i)) (mem bs)=
 lp (λ(_ _ _ _ _ _ _ _ _:D)(_:LS)=>none) (nY φ j9) (fu-j) X (.sl kr 0 N N 3 false) (.i .i64 (.ofNat at')) a b' c' X (.i .i64 (.ofNat R.length)) (.i .i64 (.ofNat R.length)) (mem bs'):=by
 intro j
 induction j with
 |zero=>
  intro i fu bs hi hf hO hb;have:i=R.length:=by omega
  subst this;rw[aM (aE _),bf (aE _),ba]at hO;exact⟨bs,hO,hb,rfl⟩
 |succ j ih=>
  intro i fu bs hi hf hO hb;obtain⟨fu,rfl⟩:∃q,fu=q+1:=⟨fu-1,by omega⟩
  have hiR:i<R.length:=by omega
  have hmem:R[i]∈R:=ak hiR;have hdr:R.drop i=R[i]::R.drop (i+1):=bu hiR;have hmemO:R[i]∈(R.take i).map (upR r at')++R.drop i:=cN _ (by rw[hdr];exact bz);have hli:=(hO.rows _ hmemO).2;have hki:=(hO.rows _ hmemO).1;have hlen:((R.take i).map (upR r at')++R.drop i).length=R.length:=by simp;omega
  have hne:∀p,p∈(R.take i).map (upR r at')++R.drop (i+1)→p.1≠R[i].1:=by
   intro p hp e;have hnd:=hO.nd;rw[hdr,aW,bI]at hnd;rw[List.nodup_append]at hnd;obtain⟨n1,n2,n3⟩:=hnd;rcases au.1 hp with hp|hp
   ·exact n3 p.1 (bM hp) R[i].1 (by simp) e
   ·rw[List.nodup_cons]at n2;exact n2.1 (e▸bM hp)
  have hsq:=HD (hH _ hmem) hrR (by omega) at';have hrv:RVal bs (.sl kr 0 N N 3 false) r:=by rw[←hr];exact F2 hb
  have hnb:jg (.sl kr 0 N N 3 false) R[i].1:=λo n m z e he=>by
   injection he with h1;exact hRk _ hmem h1.symm
  obtain⟨b1,g1,g2,g3⟩:=AW (φ:=φ) (n:=N) (kr:=R[i].1) (r:=R[i].2) (l:=r) (c:=N) (ex:=false) (L:=.sl kr 0 N N 3 false) (kk':=λ_ s=>eZ (.i .i64 (.ofNat i)) (.i .i64 (.ofNat 1)) λx77=>lp (λ(_ _ _ _ _ _ _ _ _:D)(_:LS)=>none) (nY φ j9) fu X (.sl kr 0 N N 3 false) (.i .i64 (.ofNat at')) a b' c' X (.i .i64 (.ofNat R.length)) x77 s) hli hr hki hrv hnb hsq hN hφ;have hO':OS b1 X ((R.take (i+1)).map (upR r at')++R.drop (i+1)) N:=by
   have e1:(R.take (i+1)).map (upR r at')++R.drop (i+1)=(R.take i).map (upR r at')++upR r at' R[i]::R.drop (i+1):=by
    rw[bq,aB hiR,aW,bV];rfl
   have e2:((R.take i).map (upR r at')++upR r at' R[i]::R.drop (i+1)).map (rD N)=((R.take i).map (upR r at')++R.drop i).map (rD N):=by
    rw[hdr];simp only[aW,bI];rfl
   have e3:((R.take i).map (upR r at')++upR r at' R[i]::R.drop (i+1)).map Prod.fst=((R.take i).map (upR r at')++R.drop i).map Prod.fst:=by
    rw[hdr];simp only[aW,bI];rfl
   have hXi:jg X R[i].1:=hO.nb _ hmemO;rw[e1];have inR:∀p,p∈R.drop (i+1)→p∈(R.take i).map (upR r at')++R.drop i:=λp hp=>cN _ (by rw[hdr];exact bn _ hp);refine⟨?_,λp hp=>?_,by rw[e3];exact hO.nd,λp hp=>?_⟩
   ·rw[e2,show((R.take i).map (upR r at')++upR r at' R[i]::R.drop (i+1)).length=((R.take i).map (upR r at')++R.drop i).length by rw[hdr];simp only[ay,bD]];exact Bq hO.as g2 hXi
   ·rcases au.1 hp with hp|hp
    ·exact⟨g2 _ _ (hne p (bi _ hp)) (hO.rows p (bi _ hp)).1,(hO.rows p (bi _ hp)).2⟩
    ·rcases bK.1 hp with rfl|hp
     ·exact⟨g1,by show(sbr R[i].2 r (ent R[i].2 at')).length=N;rw[tZ (by omega)];exact hli⟩
     ·exact⟨g2 _ _ (hne p (cN _ hp)) (hO.rows p (inR p hp)).1,(hO.rows p (inR p hp)).2⟩
   ·rcases au.1 hp with hp|hp
    ·exact hO.nb p (bi _ hp)
    ·rcases bK.1 hp with rfl|hp
     ·exact hXi
     ·exact hO.nb p (inR p hp)
  obtain⟨bs',a1,a2,a3⟩:=ih (i+1) fu b1 (by omega) (by omega) hO' (g2 _ _ (λe=>hRk _ hmem e.symm) hb);refine⟨bs',a1,a2,?_⟩;have hget:((R.take i).map (upR r at')++R.drop i)[i]?=some R[i]:=by
   rw[bJ (by rw[aI,aZ];omega),aI,aZ,bS (by omega),bt,hdr];rfl
  rw[eM]
  conv=>lhs;unfold nY
  refine th (fe (by omega)) (th eO (th (Ma hO.as (d:=rD N R[i]) (by rw[ae,hget];rfl)) ?_));refine th (Ct hki rfl rfl hat (by omega)) (g3.trans (th (fH (by omega)) ?_));rw[bj fu 1 j];exact a3
end
abbrev IR:=Nat×Row
def d0:IR:=(0,[])
def swp(l:List IR)(j:Nat):List IR:=(l.set j (l.getD (j-1) d0)).set (j-1) (l.getD j d0)
def IG:Nat→List IR→List IR
 |0,l=>l
 |j+1,l=>if pvt (l.getD (j+1) d0).2<pvt (l.getD j d0).2 then IG j (swp l (j+1))else l
def U8:Nat→Nat→List IR→List IR
 |0,_,l=>l
 |t+1,i,l=>U8 t (i+1) (IG i l)
def Mv(l:List IR):List IR:=U8 (l.length-1) 1 l
section
variable {bs bs':List Blk} {i j k n m c N:Nat} {s:LS} {K:D→LS→Rs} {kk:IntKind} {φ:Nat} {X:D} {R R':List IR}
theorem BZ{l:List IR}:(swp l j).length=l.length:=by unfold swp;simp
theorem zI:∀(j:Nat)(l:List IR),j+1<l.length→(swp l (j+1)).Perm l
 |0,a::b::r,_=>List.Perm.swap a b r
 |j+1,a::r,h=>by
  have ih:=zI j r (by simpa using h);have e:swp (a::r) (j+1+1)=a::swp r (j+1):=rfl;rw[e];exact List.Perm.cons a ih
theorem Ag:∀(j:Nat)(l:List IR),j<l.length→(IG j l).Perm l
 |0,l,_=>z1P _
 |j+1,l,h=>by
  unfold IG;split
  ·exact(Ag j _ (by rw[BZ];omega)).trans (zI j l h)
  ·exact z1P _
theorem Eo:∀(t i:Nat)(l:List IR),i+t≤l.length→(U8 t i l).Perm l
 |0,_,l,_=>z1P _
 |t+1,i,l,h=>by
  have h1:=Ag i l (by omega);exact(Eo t (i+1) _ (by rw[h1.length_eq];omega)).trans h1
theorem AP(l:List IR):(Mv l).Perm l:=by
 unfold Mv;by_cases h:l.length=0
 ·have:l=[]:=ao h;subst this;exact z1P _
 ·exact Eo _ _ _ (by omega)
theorem Ts(h:OS bs X R N)(hp:R'.Perm R)(ha:AS 1 bs' X (R'.map (rD N)) R'.length)(hb:∀k b,jg X k→bs[k]?=some b→bs'[k]?=some b):OS bs' X R' N:=
 ⟨ha,λp hq=>⟨hb _ _ (h.nb p (hp.mem_iff.1 hq)) (h.rows p (hp.mem_iff.1 hq)).1,(h.rows p (hp.mem_iff.1 hq)).2⟩,(hp.map Prod.fst).nodup_iff.2 h.nd,λp hq=>h.nb p (hp.mem_iff.1 hq)⟩
def cD(a b:Nat):D:=if b≤a then .i .i64 (.ofNat (a-b))else .i .i64 (.negSucc (b-a-1))
theorem VN{a b:Nat}:sW (cD a b)=true:=by unfold cD;split<;>rfl
theorem SJ{a b:Nat}{k:D→Rs}:fN (cD a b) (.i .i64 (.ofNat 0)) k=k (.b (decide (a<b))):=by
 unfold cD;by_cases h:b≤a
 ·rw[aC h,gA (cQ _),aN (by omega)]
 ·rw[aF h,aP (by omega)];show fc .lss (.i .i64 (.negSucc _)) (.i .i64 (.ofNat 0)) k=_;unfold fc;rw[gV];show k (.b (decide (Int.negSucc (b-a-1)<Int.ofNat 0)))=_;rw[aP (by rw[dj];show _<(0:Int);omega)]
theorem Zs{r1 r2:Row}(h1:pvt r1<r1.length)(h2:pvt r2<r2.length)(hs:r1.length<1000000000)(hs2:r2.length<1000000000)(hφ:1000000000≤φ)(e e':Bool):pC φ [.tree (rs r1) r1.length e,.tree (rs r2) r2.length e']=some (cD (pvt r1) (pvt r2)):=by
 have g1:=AX (φ:=φ) hs hφ e;have g2:=AX (φ:=φ) hs2 hφ e';unfold pvD at g1 g2;rw[aC h1]at g1;rw[aC h2]at g2;unfold pC;dsimp only[eV,eY];refine th (fF g1) (th (fF g2) ?_);unfold cD;by_cases h:pvt r2≤pvt r1
 ·rw[aC h];exact th (gW h (by omega)) jU
 ·rw[aF h];exact th (nk h (by omega)) jU
theorem DI{X i:D}{s:LS}{K:D→LS→Rs}:(eI (.b true) true (λk=>eJ 1 s X i k) s λx s=>eI (.b true) true (λk=>eK s x k) s K)=eJ 1 s X i λa s=>eK s a K:=rfl
theorem IN{l:List IR}(h:i<l.length):l.getD i d0=l[i]:=by rw[aD,aB h];rfl
theorem xp(h:OS bs X R N)(hi:i<R.length):(eJ 1 (mem bs) X (.i kk (.ofNat i)) λa s=>eK s a K)=K (rD N (R.getD i d0)) (mem bs):=by rw[IN hi];exact J4 h hi
theorem He{l:List IR}(h:i<l.length):l.getD i d0∈l:=by rw[IN h];exact ak h
theorem Wu(h:OS bs X R N)(hj:j+1<R.length):∃bs',OS bs' X (swp R (j+1)) N∧
 (eJ 1 (mem bs) X (.i .i64 (.ofNat (j+1))) λa s=>eU 1 s a (rD N (R.getD j d0)) λ_ s=>eJ 1 s X (.i .i64 (.ofNat j)) λa s=>eU 1 s a (rD N (R.getD (j+1) d0)) K)=K .u (mem bs'):=by
 obtain⟨b1,g1,g2,g3⟩:=SZ (i:=j+1) (d:=rD N (R.getD j d0)) (kk:=.i64) (K:=λ_ s=>eJ 1 s X (.i .i64 (.ofNat j)) λa s=>eU 1 s a (rD N (R.getD (j+1) d0)) K) h.as (by rw[aI];exact hj) rfl rfl;obtain⟨b2,k1,k2,k3⟩:=SZ (i:=j) (d:=rD N (R.getD (j+1) d0)) (kk:=.i64) (K:=K) g1 (by rw[bB,aI];omega) rfl rfl;refine⟨b2,Ts h (zI j R hj) ?_ (λk b hk hb=>k2 k b hk (g2 k b hk hb)),g3.trans k3⟩;rw[BZ];have e:(swp R (j+1)).map (rD N)=((R.map (rD N)).set (j+1) (rD N (R.getD j d0))).set j (rD N (R.getD (j+1) d0)):=by
  unfold swp;rw[d5,d5];rfl
 rw[e];exact k1
theorem XV(hφ:1000000000≤φ)(hN:N<1000000000){q6:D→D→D→D→D→LS→Rs}{bb:D}{i:Nat}(hi:i<1000000000):∀(j fu:Nat)(bs:List Blk)(R:List IR),OS bs X R N→(∀p,p∈R→pvt p.2<N)→j<R.length→R.length<1000000000→j<fu→
 ∃bs',OS bs' X (IG j R) N∧lp (λ(_ _ _ _ _ _:D)(_:LS)=>none) (fq φ q6) fu X (.i .i64 (.ofNat 0)) bb (.fn 97 []) (.i .i64 (.ofNat i)) (.i .i64 (.ofNat j)) (mem bs)=q6 X (.i .i64 (.ofNat 0)) bb (.fn 97 []) (.i .i64 (.ofNat (i+1))) (mem bs'):=by
 intro j
 induction j with
 |zero=>
  intro fu bs R hO hp hj hl hf;obtain⟨fu,rfl⟩:∃q,fu=q+1:=⟨fu-1,by omega⟩
  refine⟨bs,hO,?_⟩;rw[eM];unfold fq;exact th (pX (by omega)) (th fX (th fX (th fX (th fX (th fX (th fX (th fX (th fX (th fX (th fX (th fX (th fX (th gD (th eP (fH (by omega))))))))))))))))
 |succ j ih=>
  intro fu bs R hO hp hj hl hf;obtain⟨fu,rfl⟩:∃q,fu=q+1:=⟨fu-1,by omega⟩
  have m1:=He hj;have m2:=He (show j<R.length by omega);have l1:=(hO.rows _ m1).2;have l2:=(hO.rows _ m2).2;have p1:=hp _ m1;have p2:=hp _ m2;have hcmp:∀F:D→LS→Rs,ug (eR φ) false (.fn 97 []) [rD N (R.getD (j+1) d0),rD N (R.getD j d0)] (mem bs) F=F (cD (pvt (R.getD (j+1) d0).2) (pvt (R.getD j d0).2)) (mem bs):=λF=>by
   show eS (pC φ) [rD N (R.getD (j+1) d0),rD N (R.getD j d0)] (mem bs) F=_;exact TM (LQ hO m1) (LQ hO m2) (λe e'=>Zs (by omega) (by omega) (by omega) (by omega) hφ e e') VN
  by_cases hc:pvt (R.getD (j+1) d0).2<pvt (R.getD j d0).2
  ·obtain⟨b1,g1,g2⟩:=Wu (K:=λ_ s=>fA (.i .i64 (.ofNat (j+1))) (.i .i64 (.ofNat 1)) λx42=>lp (λ(_ _ _ _ _ _:D)(_:LS)=>none) (fq φ q6) fu X (.i .i64 (.ofNat 0)) bb (.fn 97 []) (.i .i64 (.ofNat i)) x42 s) hO hj;have hperm:=zI j R hj;obtain⟨b2,k1,k2⟩:=ih fu b1 (swp R (j+1)) g1 (λp hq=>hp p (hperm.mem_iff.1 hq)) (by rw[BZ];omega) (by rw[BZ];exact hl) (by omega);refine⟨b2,?_,?_⟩
   ·unfold IG;rw[aC hc];exact k1
   ·rw[eM]
    conv=>lhs;unfold fq
    refine th (nU (by omega)) (th eo (th eo (th eo (th DI (th (xp hO hj) (th eo (th eo (th eo (th (gW (by omega) (by omega)) (th DI ?_))))))))));rw[a8];refine th (xp hO (by omega)) (th eo (th (hcmp _) (th eo (th SJ ?_))));rw[aP hc];refine th fQ (th eO (th (gW (by omega) (by omega)) (th (gW (by omega) (by omega)) ?_)));rw[a8];refine th (xp hO (by omega)) (th (xp hO hj) (g2.trans (th (gW (by omega) (by omega)) ?_)));rw[a8];exact k2
  ·refine⟨bs,?_,?_⟩
   ·unfold IG;rw[aF hc];exact hO
   ·rw[eM]
    conv=>lhs;unfold fq
    refine th (nU (by omega)) (th eo (th eo (th eo (th DI (th (xp hO hj) (th eo (th eo (th eo (th (gW (by omega) (by omega)) (th DI ?_))))))))));rw[a8];refine th (xp hO (by omega)) (th eo (th (hcmp _) (th eo (th SJ ?_))));rw[aN hc];exact th fQ (th eP (fH (by omega)))
theorem XU(hφ:1000000000≤φ)(hN:N<1000000000){kk':D→LS→Rs}{n:Nat}(hn:n<1000000000):∀(t i fu:Nat)(bs:List Blk)(R:List IR),OS bs X R N→(∀p,p∈R→pvt p.2<N)→R.length=n→(i+t=n∨t=0∧n≤i)→t<fu→
 ∃bs',OS bs' X (U8 t i R) N∧lp (λ(_ _ _ _ _:D)(_:LS)=>none) (gP φ kk') fu X (.i .i64 (.ofNat 0)) (.i .i64 (.ofNat n)) (.fn 97 []) (.i .i64 (.ofNat i)) (mem bs)=kk' (.tup []) (mem bs'):=by
 intro t
 induction t with
 |zero=>
  intro i fu bs R hO hp hl hi hf;obtain⟨fu,rfl⟩:∃q,fu=q+1:=⟨fu-1,by omega⟩
  refine⟨bs,hO,?_⟩;rw[eM];unfold gP;exact th (gA (by omega)) eP
 |succ t ih=>
  intro i fu bs R hO hp hl hi hf;obtain⟨fu,rfl⟩:∃q,fu=q+1:=⟨fu-1,by omega⟩
  obtain⟨b1,g1,g2⟩:=XV (φ:=φ) (i:=i) (q6:=lp (λ(_ _ _ _ _:D)(_:LS)=>none) (gP φ kk') fu) (bb:=.i .i64 (.ofNat n)) hφ hN (by omega) i φ bs R hO hp (by omega) (by omega) (by omega);have hperm:=Ag i R (by omega);obtain⟨b2,k1,k2⟩:=ih (i+1) fu b1 (IG i R) g1 (λp hq=>hp p (hperm.mem_iff.1 hq)) (by rw[hperm.length_eq];exact hl) (by omega) (by omega);refine⟨b2,k1,?_⟩;rw[eM]
  conv=>lhs;unfold gP
  exact th (fe (by omega)) (th eO (g2.trans k2))
theorem Yf(hφ:1000000000≤φ)(hN:N<1000000000)(hO:OS bs X R N)(hp:∀p,p∈R→pvt p.2<N)(hl:R.length≤12){kk':D→LS→Rs}:
 ∃bs',OS bs' X (Mv R) N∧gn φ [X,.fn 97 []] (mem bs) kk'=kk' (.tup []) (mem bs'):=by
 obtain⟨b1,g1,g2⟩:=XU (φ:=φ) (n:=R.length) (kk':=λ_ s=>kk' (.tup []) s) hφ hN (by omega) (R.length-1) 1 φ bs R hO hp rfl (by omega) (by omega);obtain⟨L,_,hL⟩:=Ej (φ:=φ) (x:=R.length) (by omega);have hlen:n5 φ [.i .u64 (.ofNat R.length)]=some (.i .i64 (.ofNat L)):=by
  unfold n5;dsimp only[eV,eY];exact th eP (th (fF hL) jU)
 refine⟨b1,g1,?_⟩;unfold gn;dsimp only[eV,eY];refine th (J3 hO) (th (xM (by show R.length≤18446744073709551615;omega)) (th (fF hlen) ?_));obtain⟨ψ,hψ⟩:∃ψ,φ=ψ+1:=⟨φ-1,by omega⟩
 have e1:iK φ=iL φ (lp (λ_ _ _=>none) (iL φ) ψ):=by
  unfold iK
  conv=>lhs;arg 3;rw[hψ]
  rfl
 rw[e1];unfold iL;dsimp only[eV,eY];have e2:∀{α:Type}(bot:α)(f:α→α),lp bot f φ=f (lp bot f ψ):=λbot f=>by rw[hψ,eM]
 rw[e2];unfold nM;refine th (gW (by omega) (by omega)) (th Ae ?_);rw[aH (by omega)];refine th eO ?_;unfold iI;dsimp only[eV,eY];exact th (fH (by omega)) g2
end
def mtD(p:Row×Bool):D:=.tree (rs p.1) p.1.length p.2
section
variable {bs bs':List Blk} {i j k n m c N h J:Nat} {ex ey:Bool} {s:LS} {K:D→LS→Rs} {kk:IntKind} {φ:Nat} {X:D} {R R':List IR} {P:List (Row×Bool)} {rows:List Row} {l r:Row}
theorem yL{cs:List D}{d:D}{e:Bool}(hd:cs[i]?=some d)(hn:cs.length=n):(eJ 1 s (.tree cs n e) (.i kk (.ofNat i)) λa s=>eK s a K)=K d s:=by
 have:=ef hd;refine th (v8 (by omega) (by rw[aj];exact this)) ?_;rw[aj];exact wQ hd
theorem LJ(hn:l.length=n)(hne:l≠[])(hs:n<1000000000):pP (gK φ) [.tree (rs l) n ex]=some (.own (rs l) n 3):=JT (φ:=φ) hn hne hs
theorem Fo(hO:OS bs X R N){x:Blk}:OS (bs++[x]) X R N:=by
 refine⟨?_,λp hp=>⟨gI (hO.rows p hp).1,(hO.rows p hp).2⟩,hO.nd,hO.nb⟩;have:=hO.as;generalize R.map (rD N)=cs at*;generalize R.length=nn at*;cases this with
 |nil=>exact AS.nil
 |blk hg hc=>exact AS.blk (gI hg) hc
theorem QU(hO:OS bs X R N)(hk:bs.length≤k):jg X k∧∀p,p∈R→p.1≠k:=by
 refine⟨?_,λp hp e=>by have:=ef (hO.rows p hp).1;omega⟩;have:=hO.as;generalize R.map (rD N)=cs at*;generalize R.length=nn at*;intro o n' m' z e he;cases this with
 |nil=>cases he
 |blk hg hc=>cases he;have:=ef hg;omega
theorem E9(hO:OS bs X R N){kr:Nat}(hX:jg X kr)(hR:∀p,p∈R→p.1≠kr)(hb:bs[kr]?=some ⟨rs r,.rw⟩)(hr:r.length=N)(hl:R.length<1000000):
 ∃bs' X',OS bs' X' (R++[(kr,r)]) N∧(ie 1 [.tree [] 0 true] [(0,1,.sl kr 0 N N 3 false)] (mem bs) λy s=>kJ 1 24 s X y K)=K X' (mem bs'):=by
 obtain⟨b1,X1,g1,g2,g3⟩:=ap1 (bytes:=24) (zero:=[.tree [] 0 true]) (x:=.sl kr 0 N N 3 false) (new:=[.sl kr 0 N N 3 false]) (K:=K) hO.as rfl rfl rfl rfl (by omega) (by omega);refine⟨b1,X1,⟨?_,λp hp=>?_,?_,λp hp=>?_⟩,g3⟩
 ·rw[aW,ay];exact g1
 ·rcases au.1 hp with hp|hp
  ·exact⟨(g2 _ _ (hO.nb p hp) (hO.rows p hp).1).1,(hO.rows p hp).2⟩
  ·have:p=(kr,r):=by simpa using hp
   subst this;exact⟨(g2 _ _ hX hb).1,hr⟩
 ·rw[aW,List.nodup_append];refine⟨hO.nd,by simp,λa ha b hb'=>?_⟩;obtain⟨p,hp,rfl⟩:=av.1 ha;have:b=kr:=by simpa using hb'
  subst this;exact hR p hp
 ·rcases au.1 hp with hp|hp
  ·exact(g2 _ _ (hO.nb p hp) (hO.rows p hp).1).2
  ·have:p=(kr,r):=by simpa using hp
   subst this;exact(g2 _ _ hX hb).2
theorem W8(hO:OS bs X R N):∃P:List (Row×Bool),P.map Prod.fst=R.map Prod.snd∧(eW true (mem bs) X some=some (.own (P.map mtD) R.length 1)∨R=[]∧eW true (mem bs) X some=some (.tree [] 0 true)):=by
 have hm:∀R':List IR,(∀p,p∈R'→bs[p.1]?=some ⟨rs p.2,.rw⟩∧p.2.length=N)→∃P:List (Row×Bool),P.map Prod.fst=R'.map Prod.snd∧gr (res (mem bs).get 60) (R'.map (rD N))=some (P.map mtD,R'.map Prod.fst):=by
  intro R'
  induction R' with
  |nil=>intro _;exact⟨[],rfl,rfl⟩
  |cons p R' ih=>
   intro h;obtain⟨P,h1,h2⟩:=ih (λq hq=>h q (by simp[hq]));obtain⟨g1,g2⟩:=h p (by simp);have h3:res (mem bs).get 60 (rD N p)=some (mtD (p.2,(false&&N==N)),[p.1]):=by
    unfold rD mtD;have:=tI (g:=(mem bs).get) (n:=59) (l:=p.1) (off:=0) (len:=N) (cm:=N) (z:=3) (ex:=false) (r:=rs p.2) (cs:=rs p.2) (ls:=[]) (by rw[kj];exact g1) rfl (by
     unfold cut;rw[am,oe g2,aC (by rw[ji,g2])]) (jV (k:=58) _ (oY p.2))
    rw[this,g2]
   refine⟨(p.2,(false&&N==N))::P,by simp[h1],?_⟩;rw[bI];unfold gr;rw[h3,h2];rfl
 obtain⟨P,h1,h2⟩:=hm R hO.rows;refine⟨P,h1,?_⟩;have ha:=hO.as;have hnb:=hO.nb;generalize hcs:R.map (rD N)=cs at ha h2;generalize hnn:R.length=nn at ha;cases ha with
 |nil=>exact Or.inr ⟨ao hnn,zQ⟩
 | @blk l _ _ hg hc=>
  left;unfold eW;rw[kx];show uO (mT true (mem bs).get fj (.sl l 0 nn nn 1 false)) some=_;have hcut:cut 0 (nn*1) cs=some cs:=by
   unfold cut;rw[am,aM (by rw[hc];exact aE _),aC hc]
  have hnot:(R.map Prod.fst).contains l=false:=by
   rw[←Bool.not_eq_true,List.contains_iff_mem];intro hm;obtain⟨p,hp,rfl⟩:=av.1 hm;exact hnb p hp 0 nn nn 1 false rfl
  have:mT true (mem bs).get fj (.sl l 0 nn nn 1 false)=some (.own (P.map mtD) nn 1):=by
   have e1:pu true (mem bs).get 60 (.sl l 0 nn nn 1 false)=some (.own (P.map mtD) nn 1,[l],R.map Prod.fst):=by
    show(match (mem bs).get l with
     |some b=>if b.st.wr then match cut 0 (nn*1) b.cs with
      |some r=>match gr (res (mem bs).get 60) r with
       |some (cs,ls)=>some (D.own cs nn 1,[l],ls)
       |none=>none
      |none=>none
      else wy (res (mem bs).get 60 (.sl l 0 nn nn 1 false))
     |none=>none)=_
    rw[kj,hg];show(match cut 0 (nn*1) cs with
     |some r=>match gr (res (mem bs).get 60) r with
      |some (cs,ls)=>some (D.own cs nn 1,[l],ls)
      |none=>none
     |none=>none)=_
    rw[hcut];show(match gr (res (mem bs).get 60) cs with
     |some (cs,ls)=>some (D.own cs nn 1,[l],ls)
     |none=>none)=_
    rw[h2]
   show(match pu true (mem bs).get 60 (.sl l 0 nn nn 1 false)with
    |some (d,o,ls)=>if o.all λl=> !ls.contains l then some d else none
    |none=>none)=_
   rw[e1];show(if[l].all (λl=> !(R.map Prod.fst).contains l)then _ else none)=_;rw[cH,hnot];rfl
  rw[this,gV];rfl
theorem Uw(hφ:3000000000≤φ)(hN:N<1000000000)(hN0:0<N)(hO:OS bs X R N)(hE:EI N rows (R.map Prod.snd))(hr:r.length=N)(hh:RH h r)(hH:∀p,p∈R→RH (hgt h R.length) p.2)(hK:hgt h (R.length+1)≤KB)(hl:R.length<1000000){j9:D→D→D→D→LS→Rs}{a b' c':D}{e:Bool}:
 ∃bs' X' R',OS bs' X' R' N∧R'.map Prod.snd=tB (R.map Prod.snd) r∧(∀p,p∈R'→RH (hgt h R'.length) p.2)∧
 (eS (pP (gK φ)) [.tree (rs r) N e] (mem bs) λx17 s=>ek X s λx18 s=>lp (λ(_ _ _ _ _ _ _ _:D)(_:LS)=>none) (je φ j9) φ X x17 a b' c' X x18 (.i .i64 (.ofNat 0)) s)=j9 X' a b' c' (mem bs'):=by
 have hrne:r≠[]:=λe=>by subst e;simp at hr;omega
 obtain⟨f1,f2⟩:=QU hO (aE bs.length);have hg0:(bs++[(⟨rs r,.rw⟩:Blk)])[bs.length]?=some ⟨rs r,.rw⟩:=by simp
 have hpv:∀p,p∈R→pvt p.2<N:=λp hp=>by
  have hm:p.2∈R.map Prod.snd:=bM hp;have:=B8 (hE.red.lead hm);rw[hE.len _ hm]at this;exact this
 have hHK:h+(R.length+1)*(hgt h R.length+2)≤KB:=hK;obtain⟨b1,g1,g2,g3,g4⟩:=Xk (φ:=φ) (r:=r) (h:=h) (H:=hgt h R.length) (j9:=j9) (a:=a) (b':=b') (c':=c') hφ hN (Fo (x:=⟨rs r,.rw⟩) hO) f1 f2 hpv hH hr hh hHK hl R.length 0 φ (bs++[⟨rs r,.rw⟩]) (by omega) (by omega) (Fo hO) (by rw[dB];exact hg0);have hEl:∀l,l∈R.map Prod.snd→l.length=N∧RH (hgt h R.length) l:=λl hl=>by
  obtain⟨p,hp,rfl⟩:=av.1 hl;exact⟨(hO.rows p hp).2,hH p hp⟩
 have hgl:=vj (λl hl=>(hEl l hl).1) hr;have hgh:=B3 hEl hr hh;rw[aI]at hgh;generalize hG:sH (R.map Prod.snd) r=G at*;have pre:(eS (pP (gK φ)) [.tree (rs r) N e] (mem bs) λx17 s=>ek X s λx18 s=>lp (λ(_ _ _ _ _ _ _ _:D)(_:LS)=>none) (je φ j9) φ X x17 a b' c' X x18 (.i .i64 (.ofNat 0)) s)=lp (λ(_ _ _ _ _ _ _ _:D)(_:LS)=>none) (je φ j9) (φ-R.length) X (.sl bs.length 0 N N 3 false) a b' c' X (.i .i64 (.ofNat R.length)) (.i .i64 (.ofNat R.length)) (mem b1):=by
  refine th (xR (LJ (φ:=φ) (ex:=e) hr hrne hN)) ?_;rw[lU,jQ];exact th (J3 hO) g4
 obtain⟨u,hu⟩:∃u,φ-R.length=u+1:=⟨φ-R.length-1,by omega⟩
 have hrv:RVal b1 (.sl bs.length 0 N N 3 false) G:=by rw[←hgl];exact F2 g2
 have hpd:∀F:D→LS→Rs,eS (lC φ) [.sl bs.length 0 N N 3 false] (mem b1) F=F (pvD G) (mem b1):=λF=>CO hrv (λe=>AX (by omega) (by omega) e) zW;by_cases hp:pvt G<G.length
 ·have hpd':pvD G=.i .i64 (.ofNat (pvt G)):=by unfold pvD;rw[aC hp]
  have hne:=AY hp;have hKG:h+R.length*(hgt h R.length+2)≤KB:=by rw[aS,bG]at hHK;omega
  have aG:AQ G:=λi=>vN (JK hgh i) hKG;obtain⟨b2,k1,k2,k3⟩:=Xl (φ:=φ) (X:=X) (N:=N) (r:=G) (q:=(ent G (pvt G))⁻¹) (kr:=bs.length) (j9:=j9) (at':=.i .i64 (.ofNat (pvt G))) (a:=a) (b':=b') (c':=c') hφ hN hgl aG (JQ (aG _)) (kc:=b1.length) (by have:=ef g2;omega) N 0 φ (b1++[⟨rcs (ent G (pvt G))⁻¹,.rw⟩]) G (by omega) (by omega) (gI g2) (by simp) hgl (λt=>by rw[aF (by omega)]);have hOb2:OS b2 X R N:=LR (Fo (x:=⟨rcs (ent G (pvt G))⁻¹,.rw⟩) g1) k2 f1 f2;have hnl:(scl G (ent G (pvt G))⁻¹).length=N:=by rw[zL];exact hgl
  have hnh:=PB hgh hne;obtain⟨u2,hu2⟩:∃u,φ-N=u+1:=⟨φ-N-1,by omega⟩
  obtain⟨b3,m1,m2,m3⟩:=Xm (φ:=φ) (X:=X) (R:=R) (N:=N) (r:=scl G (ent G (pvt G))⁻¹) (h:=h+R.length*(hgt h R.length+2)) (H:=hgt h R.length) (kr:=bs.length) (j9:=j9) (a:=a) (b':=b') (c':=c') (at':=pvt G) hφ hN (by omega) hnl hnh hH (by rw[aS,bG]at hHK;omega) f1 f2 hl R.length 0 φ b2 (by omega) (by omega) (by rw[dB,am];exact hOb2) k1;obtain⟨b4,X4,n1,n2⟩:=E9 (K:=λx79 s=>j9 x79 a b' c' s) m1 f1 (λp hp=>by
   obtain⟨q,hq,rfl⟩:=av.1 hp;exact f2 q hq) m2 hnl (by rw[aI];exact hl)
  have hsnd:(R.map (upR (scl G (ent G (pvt G))⁻¹) (pvt G))++[(bs.length,scl G (ent G (pvt G))⁻¹)]).map Prod.snd=tB (R.map Prod.snd) r:=by
   unfold tB;rw[hG,aC hp,aW,cM,cM];rfl
  refine⟨b4,X4,_,n1,hsnd,λp hp'=>?_,pre.trans ?_⟩
  ·have hlen:(R.map (upR (scl G (ent G (pvt G))⁻¹) (pvt G))++[(bs.length,scl G (ent G (pvt G))⁻¹)]).length=R.length+1:=by simp
   rw[hlen];have hbig:hgt h R.length+(h+R.length*(hgt h R.length+2))+2≤hgt h (R.length+1):=by
    show _≤h+(R.length+1)*(hgt h R.length+2);rw[aS,bG];omega
   rcases au.1 hp' with hp'|hp'
   ·obtain⟨q,hq,rfl⟩:=av.1 hp';exact uX (JJ (hH q hq) hnh (by rw[hnl];exact(hO.rows q hq).2) (pvt G)) hbig
   ·have:p=(bs.length,scl G (ent G (pvt G))⁻¹):=by simpa using hp'
    subst this;exact uX hnh (by omega)
  ·rw[hu,eM];unfold je;refine th (gA (by omega)) (th eP (th (hpd _) ?_));rw[hpd'];refine th (gA (by omega)) (th eP (th (Ct g2 rfl rfl (by omega) (by omega)) (th (jk (HS hne) rfl) (th (yE rfl) (th mX (k3.trans ?_))))));rw[hu2,eM];unfold pa;refine th (gA (by omega)) (th eP (th (J3 hOb2) (m3.trans ?_)));rw[hu,eM];unfold nY;exact th (gA (by omega)) (th eP n2)
 ·have hpd':pvD G=.i .i64 (.negSucc 0):=by unfold pvD;rw[aF hp]
  refine⟨b1,X,R,g1,?_,hH,pre.trans ?_⟩
  ·unfold tB;rw[hG,aF hp]
  ·rw[hu,eM];unfold je;refine th (gA (by omega)) (th eP (th (hpd _) ?_));rw[hpd'];exact th sT eO
end
section
variable {bs bs':List Blk} {i j k n m c N h J:Nat} {ex ey:Bool} {s:LS} {K:D→LS→Rs} {kk:IntKind} {φ:Nat} {X:D} {R R':List IR} {P:List (Row×Bool)} {rows:List Row} {l r:Row}
def Gk(N H:Nat)(rows:List Row)(o:Option D):Prop:=∃(R:List IR)(Q:List (Row×Bool)),R.map Prod.snd=ech rows∧Q.map Prod.fst=(Mv R).map Prod.snd∧(∀q,q∈Q→q.1.length=N∧RH H q.1)∧(o=some (.own (Q.map mtD) Q.length 1)∨Q=[]∧o=some (.tree [] 0 true))
theorem Gk.of{H:Nat}{o o':Option D}(h:o=o')(h':Gk N H rows o'):Gk N H rows o:=by rw[h];exact h'
theorem Xj(hφ:3000000000≤φ)(hN:N<1000000000)(hN0:0<N)(hP:∀p,p∈P→p.1.length=N∧RH h p.1)(hn:P.length=n)(hns:n<1000000)(hJ:∀i,i≤n→(((P.map Prod.fst).take i).foldl tB []).length≤J)(hJ12:J≤12)(hK:hgt h (J+1)≤KB){e:Bool}:
 ∀(t i fu:Nat)(bs:List Blk)(X:D)(R:List IR),i+t=n→t<fu→OS bs X R N→R.map Prod.snd=((P.map Prod.fst).take i).foldl tB []→EI N ((P.map Prod.fst).take i) (R.map Prod.snd)→(∀p,p∈R→RH (hgt h R.length) p.2)→
 Gk N (hgt h J) (P.map Prod.fst) (lp (λ(_ _ _ _:D)(_:LS)=>none) (nX φ) fu X (.tree (P.map mtD) n e) (.i .i64 (.ofNat n)) (.i .i64 (.ofNat i)) (mem bs)):=by
 intro t
 induction t with
 |zero=>
  intro i fu bs X R hi hf hO hR hE hH;obtain⟨fu,rfl⟩:∃q,fu=q+1:=⟨fu-1,by omega⟩
  have:i=n:=by omega
  subst this;have hlen:R.length≤J:=by
   have:=hJ i (aE _);rw[←hR,aI]at this;exact this
  have hall:(P.map Prod.fst).take i=P.map Prod.fst:=aM (by rw[aI,hn];exact aE _);rw[hall]at hR;have hpv:∀p,p∈R→pvt p.2<N:=λp hp=>by
   have hm:p.2∈R.map Prod.snd:=bM hp;have:=B8 (hE.red.lead hm);rw[hE.len _ hm]at this;exact this
  obtain⟨b1,g1,g2⟩:=Yf (φ:=φ) (kk':=λ_ s=>eW true s X some) (by omega) hN hO hpv (by omega);have hfin:lp (λ(_ _ _ _:D)(_:LS)=>none) (nX φ) (fu+1) X (.tree (P.map mtD) i e) (.i .i64 (.ofNat i)) (.i .i64 (.ofNat i)) (mem bs)=eW true (mem b1) X some:=by
   rw[eM];unfold nX;exact th (gA (by omega)) (th eP g2)
  refine Gk.of hfin ?_;obtain⟨Q,q1,q2⟩:=W8 g1;have hql:=congrArg List.length q1;rw[aI,aI]at hql;refine⟨R,Q,hR,q1,λq hq=>?_,?_⟩
  ·have hm:q.1∈(Mv R).map Prod.snd:=by rw[←q1];exact bM hq
   obtain⟨p,hp,hpq⟩:=av.1 hm;have hpR:=(AP R).mem_iff.1 hp;rw[←hpq];exact⟨(hO.rows p hpR).2,uX (hH p hpR) (Jw h hlen)⟩
  rcases q2 with q2|⟨q2,q3⟩
  ·left;rw[q2,hql]
  ·right;rw[q2]at hql;exact⟨ao hql,q3⟩
 |succ t ih=>
  intro i fu bs X R hi hf hO hR hE hH;obtain⟨fu,rfl⟩:∃q,fu=q+1:=⟨fu-1,by omega⟩
  have hiP:i<P.length:=by omega
  have hmem:P[i]∈P:=ak hiP;obtain⟨hl,hh⟩:=hP _ hmem;have hlen:R.length≤J:=by
   have:=hJ i (by omega);rw[←hR,aI]at this;exact this
  obtain⟨b1,X1,R1,g1,g2,g3,g4⟩:=Uw (φ:=φ) (r:=P[i].1) (h:=h) (e:=P[i].2) (rows:=(P.map Prod.fst).take i) (j9:=λ(x10 x11 x12 x13:D)(s:LS)=>eZ x13 (.i .i64 (.ofNat 1)) λx14=>lp (λ(_ _ _ _:D)(_:LS)=>none) (nX φ) fu x10 x11 x12 x14 s) (a:=.tree (P.map mtD) n e) (b':=.i .i64 (.ofNat n)) (c':=.i .i64 (.ofNat i)) hφ hN hN0 hO hE hl hh hH (bP (Jw h (by omega)) hK) (by omega);have htake:(P.map Prod.fst).take (i+1)=(P.map Prod.fst).take i++[P[i].1]:=by
   rw[bq,ae,aB hiP];rfl
  have hih:=ih (i+1) fu b1 X1 R1 (by omega) (by omega) g1 (by rw[g2,htake,dy,←hR];rfl) (by rw[g2,htake];exact GS hE hl) g3;refine Gk.of ?_ hih;rw[eM]
  conv=>lhs;unfold nX
  refine th (fe (by omega)) (th eO (th om (th (yL (d:=mtD P[i]) (by rw[ae,aB hiP];rfl) (by rw[aI,hn])) ?_)));unfold mtD;rw[hl];exact g4.trans (fH (by omega))
theorem QA(hφ:3000000000≤φ)(hN:N<1000000000)(hN0:0<N)(hP:∀p,p∈P→p.1.length=N∧RH h p.1)(hn:P.length=n)(hns:n<1000000)(hJ:∀i,i≤n→(((P.map Prod.fst).take i).foldl tB []).length≤J)(hJ12:J≤12)(hK:hgt h (J+1)≤KB){e:Bool}:Gk N (hgt h J) (P.map Prod.fst) (mF φ [.tree (P.map mtD) n e]):=by
 have h0:EI N ((P.map Prod.fst).take 0) (([]:List IR).map Prod.snd):=by
  rw[dB];exact⟨(λl hl=>by cases hl),(λl hl=>by cases hl),(λl hl=>by cases hl),(by intro e he;cases he),dz⟩
 have:=Xj (φ:=φ) (e:=e) hφ hN hN0 hP hn hns hJ hJ12 hK n 0 φ [] (.tree [] 0 true) [] (by omega) (by omega) J2 rfl h0 (λp hp=>by cases hp);refine Gk.of ?_ this;unfold mF;dsimp only[eV,eY];exact fO
theorem Rg(E:List Row)(r:Row):(tB E r).length≤E.length+1:=by
 unfold tB;split
 ·simp
 ·omega
theorem KO:∀(rows E:List Row),(rows.foldl tB E).length≤E.length+rows.length
 |[],E=>by simp
 |r::rows,E=>by
  have:=KO rows (tB E r);have:=Rg E r;rw[dq,bD];omega
end
section
variable {bs bs':List Blk} {i j k n m c N h H J w:Nat} {ex ey:Bool} {s:LS} {K:D→LS→Rs} {kk:IntKind} {φ:Nat} {X W:D} {R R':List IR} {P:List (Row×Bool)} {rows:List Row} {l r t:Row}
theorem Fu:∀P:List (Row×Bool),(P.map mtD).all one=true
 |[]=>rfl
 |p::P=>by rw[bI,cH,Fu P];rfl
theorem Lf(g:Nat→Option Blk):∀P:List (Row×Bool),gr (res g 60) (P.map mtD)=some (P.map mtD,[])
 |[]=>rfl
 |p::P=>by
  rw[bI];unfold gr;rw[Lf g P,show res g 60 (mtD p)=some (mtD p,[])from rfl];rfl
theorem NH(hb:bs[k]?=some ⟨P.map mtD,.rw⟩)(hn:P.length=n):eW true (mem bs) (.sl k 0 n c 1 ex) some=some (.own (P.map mtD) n 1):=by
 unfold eW;rw[kx];show uO (mT true (mem bs).get fj (.sl k 0 n c 1 ex)) some=_;have hcut:cut 0 (n*1) (P.map mtD)=some (P.map mtD):=by
  unfold cut;rw[am,aM (by rw[aI];omega),aC (by rw[aI];omega)]
 have:mT true (mem bs).get fj (.sl k 0 n c 1 ex)=some (.own (P.map mtD) n 1):=by
  have e1:pu true (mem bs).get 60 (.sl k 0 n c 1 ex)=some (.own (P.map mtD) n 1,[k],[]):=by
   show(match (mem bs).get k with
    |some b=>if b.st.wr then match cut 0 (n*1) b.cs with
     |some r=>match gr (res (mem bs).get 60) r with
      |some (cs,ls)=>some (D.own cs n 1,[k],ls)
      |none=>none
     |none=>none
     else wy (res (mem bs).get 60 (.sl k 0 n c 1 ex))
    |none=>none)=_
   rw[kj,hb];show(match cut 0 (n*1) (P.map mtD)with
    |some r=>match gr (res (mem bs).get 60) r with
     |some (cs,ls)=>some (D.own cs n 1,[k],ls)
     |none=>none
    |none=>none)=_
   rw[hcut];show(match gr (res (mem bs).get 60) (P.map mtD)with
    |some (cs,ls)=>some (D.own cs n 1,[k],ls)
    |none=>none)=_
   rw[Lf]
  show(match pu true (mem bs).get 60 (.sl k 0 n c 1 ex)with
   |some (d,o,ls)=>if o.all λl=> !ls.contains l then some d else none
   |none=>none)=_
  rw[e1];rfl
 rw[this,gV];rfl
theorem Th(hn:P.length=n)(hne:P≠[])(hs:n<1000000000):pP (fk φ) [.tree (P.map mtD) n ex]=some (.own (P.map mtD) n 1):=by
 obtain⟨d,r,hd⟩:∃d r,P.map mtD=d::r:=by
  cases P with
  |nil=>exact absurd rfl hne
  |cons p P=>exact⟨_,_,rfl⟩
 have h1:pP (fk φ) [.tree (P.map mtD) n ex]=fk φ [.tree (P.map mtD) n ex]:=by rw[hd];rfl
 rw[h1];unfold fk;dsimp only[eV,eY];rw[←fw];have h2:∀F:D→LS→Rs,wT false (mem []) (.tree (P.map mtD) n ex) F=F (.b false) (mem []):=λF=>by rw[hd];rfl
 obtain⟨j,c,e,bs',a1,a2,a3⟩:=VU (bs:=[⟨[],.rw⟩]) (k:=0) (z:=1) (bytes:=24) (n:=n) (cs:=P.map mtD) (ex:=ex) (K:=λx4 s=>eW true s x4 some) rfl (by rw[aI];omega) (Fu P) (by omega) (by omega);exact th (h2 _) (th eP (th (Ls rfl) (a1.trans (NH a2 hn))))
def wD(N:Nat)(p:IR):D:=.sl p.1 0 N N 3 true
structure WO (bs:List Blk) (W:D) (R:List IR) (N:Nat):Prop where
 as:AS 1 bs W (R.map (wD N)) R.length
 rows:∀p,p∈R→bs[p.1]?=some ⟨rs p.2,.rw⟩∧p.2.length=N
 nb:∀p,p∈R→jg W p.1
theorem WE:WO bs (.tree [] 0 true) [] N:=⟨AS.nil,(λp h=>by cases h),(λp h=>by cases h)⟩
theorem FU{kr:Nat}(h:WO bs W R N)(hk:∀k b,k≠kr→bs[k]?=some b→bs'[k]?=some b)(hX:jg W kr)(hR:∀p,p∈R→p.1≠kr):WO bs' W R N:=
 ⟨Bq h.as hk hX,λp hp=>⟨hk _ _ (hR p hp) (h.rows p hp).1,(h.rows p hp).2⟩,h.nb⟩
theorem Sq(hO:WO bs W R N){x:Blk}:WO (bs++[x]) W R N:=by
 refine⟨?_,λp hp=>⟨gI (hO.rows p hp).1,(hO.rows p hp).2⟩,hO.nb⟩;have:=hO.as;generalize R.map (wD N)=cs at*;generalize R.length=nn at*;cases this with
 |nil=>exact AS.nil
 |blk hg hc=>exact AS.blk (gI hg) hc
theorem O1(hO:WO bs W R N)(hk:bs.length≤k):jg W k∧∀p,p∈R→p.1≠k:=by
 refine⟨?_,λp hp e=>by have:=ef (hO.rows p hp).1;omega⟩;have:=hO.as;generalize R.map (wD N)=cs at*;generalize R.length=nn at*;intro o n' m' z e he;cases this with
 |nil=>cases he
 |blk hg hc=>cases he;have:=ef hg;omega
theorem Mo(hO:WO bs W R N){kr:Nat}(hX:jg W kr)(hb:bs[kr]?=some ⟨rs r,.rw⟩)(hr:r.length=N)(hl:R.length<1000000):
 ∃bs' W',WO bs' W' (R++[(kr,r)]) N∧(∀k b,jg W k→bs[k]?=some b→bs'[k]?=some b∧jg W' k)∧(ie 1 [.tree [] 0 true] [(0,1,.sl kr 0 N N 3 true)] (mem bs) λy s=>kJ 1 24 s W y K)=K W' (mem bs'):=by
 obtain⟨b1,X1,g1,g2,g3⟩:=ap1 (bytes:=24) (zero:=[.tree [] 0 true]) (x:=.sl kr 0 N N 3 true) (new:=[.sl kr 0 N N 3 true]) (K:=K) hO.as rfl rfl rfl rfl (by omega) (by omega);refine⟨b1,X1,⟨?_,λp hp=>?_,λp hp=>?_⟩,g2,g3⟩
 ·rw[aW,ay];exact g1
 ·rcases au.1 hp with hp|hp
  ·exact⟨(g2 _ _ (hO.nb p hp) (hO.rows p hp).1).1,(hO.rows p hp).2⟩
  ·have:p=(kr,r):=by simpa using hp
   subst this;exact⟨(g2 _ _ hX hb).1,hr⟩
 ·rcases au.1 hp with hp|hp
  ·exact(g2 _ _ (hO.nb p hp) (hO.rows p hp).1).2
  ·have:p=(kr,r):=by simpa using hp
   subst this;exact(g2 _ _ hX hb).2
theorem Rw{kr:Nat}(hb:bs[kr]?=some ⟨fl3 [] (n+m),.rw⟩)(hl:l.length=n){e:Bool}{C:Bool}:Lw 3 (mem bs) (.sl kr 0 (n+m) c 3 C) (.tree (rs l) n e) K=K (.i .i64 (.ofNat n)) (mem (bs.set kr ⟨fl3 l m,.rw⟩)):=by
 show(nL 3 (mem bs) (.tree (rs l) n e) λsrc n'=>jL (mem bs) kr λb=>cnd (wr b.st) (cnd (Nat.beq 3 3) (qS src (frc (cnd (Nat.ble n' (n+m)) n' (n+m)) λm'=>iw (Nat.mul m' 3) src λsrc=>v6 0 src b.cs λcs=>pL (mem bs) kr ⟨cs,.rw⟩ λs=>K (.i .i64 (.ofNat m')) s)) none) none)=_;rw[Bo (by rw[ji,hl]),gg hb,Bu,show Stt.rw.wr=true from rfl,eL,ei,eL,py (ut l),aH (z1x n m),eL,fB,gu,show Nat.mul n 3=n*3 from rfl,aC (by rw[ji,hl];exact aE _),oe hl,nj];have hlay:yc 0 (rs l) (fl3 [] (n+m))=some (fl3 l m):=by
  unfold yc;have hfl:(fl3 [] (n+m)).length=(n+m)*3:=by unfold fl3;rw[Fg];simp
  rw[aC (by rw[hfl,ji,hl];omega),dB,cI,aV,ji,hl];congr 1;unfold fl3 rs;rw[B5,xn];congr 1;congr 1;simp
 rw[hlay,gN,oj (ef hb)]
theorem Sy(hl:l.length=n):(l++List.replicate m (0:Rat)).set (n+i) 1=l++unt m i:=by
 rw[cO _ _ (by omega),hl,Nat.add_sub_cancel_left];rfl
theorem VH(hl:l.length=n)(hs:n+m<1000000)(hi:i<m){kr:Nat}(hW:jg W kr)(hRl:R.length<1000000)(hN:N=n+m){q9:D→D→D→D→D→D→LS→Rs}{X13 X14:D}{kq:Nat}(hkq:kq<1000000):∀(u j fu:Nat)(bs:List Blk),j+u=m→u<fu→WO bs W R N→(∀p,p∈R→p.1≠kr)→bs[kr]?=some ⟨fl3 (l++List.replicate j 0) u,.rw⟩→
 ∃bs' W',WO bs' W' (R++[(kr,l++unt m i)]) N∧(∀k b,k≠kr→jg W k→bs[k]?=some b→bs'[k]?=some b∧jg W' k)∧
 lp (λ(_ _ _ _ _ _ _ _ _ _:D)(_:LS)=>none) (pb φ q9) fu (.i .i64 (.ofNat n)) (.i .i64 (.ofNat kq)) W (.i .i64 (.ofNat i)) (.sl kr 0 N N 3 true) X13 X14 (.i .i64 (.ofNat i)) (.i .i64 (.ofNat m)) (.i .i64 (.ofNat j)) (mem bs)=q9 (.i .i64 (.ofNat n)) (.i .i64 (.ofNat kq)) W' X13 X14 (.i .i64 (.ofNat (i+1))) (mem bs'):=by
 intro u
 induction u with
 |zero=>
  intro j fu bs hj hf hO hR hb;obtain⟨fu,rfl⟩:∃q,fu=q+1:=⟨fu-1,by omega⟩
  have:j=m:=by omega
  subst this;rw[Eu]at hb;have hll:(l++List.replicate j (0:Rat)).length=N:=by simp[hl,hN]
  have hb':(bs.set kr ⟨rs (l++unt j i),.rw⟩)[kr]?=some ⟨rs (l++unt j i),.rw⟩:=by rw[a7 (ef hb)]
  obtain⟨b1,W1,g1,g2,g3⟩:=Mo (K:=λx44 s=>eZ (.i .i64 (.ofNat i)) (.i .i64 (.ofNat 1)) λx45=>q9 (.i .i64 (.ofNat n)) (.i .i64 (.ofNat kq)) x44 X13 X14 x45 s) (FU hO (λk b hk hb=>gF (Ne.symm hk) hb) hW hR) hW hb' (by rw[ay,zC,hl,hN]) hRl;refine⟨b1,W1,g1,λk b hk hw hb=>g2 k b hw (gF (Ne.symm hk) hb),?_⟩;rw[eM];unfold pb;refine th (gA (by omega)) (th eP (th (fH (by omega)) (th (fF Pw) (th (Ir hb (by omega) (by omega)) ?_))));rw[Sy hl];exact g3.trans (fH (by omega))
 |succ u ih=>
  intro j fu bs hj hf hO hR hb;obtain⟨fu,rfl⟩:∃q,fu=q+1:=⟨fu-1,by omega⟩
  have hll:(l++List.replicate j (0:Rat)).length=n+j:=by simp[hl]
  have hw:=OZ (q:=0) (n:=N) (c:=N) (ex:=true) (kk:=.i64) (K:=λ_ s=>eZ (.i .i64 (.ofNat j)) (.i .i64 (.ofNat 1)) λx39=>lp (λ(_ _ _ _ _ _ _ _ _ _:D)(_:LS)=>none) (pb φ q9) fu (.i .i64 (.ofNat n)) (.i .i64 (.ofNat kq)) W (.i .i64 (.ofNat i)) (.sl kr 0 N N 3 true) X13 X14 (.i .i64 (.ofNat i)) (.i .i64 (.ofNat m)) x39 s) hb (by omega);rw[hll,bV,←eH]at hw;obtain⟨b1,W1,g1,g2,g3⟩:=ih (j+1) fu (bs.set kr ⟨fl3 (l++List.replicate (j+1) 0) u,.rw⟩) (by omega) (by omega) (FU hO (λk b hk hb=>gF (Ne.symm hk) hb) hW hR) hR (by rw[a7 (ef hb)]);refine⟨b1,W1,g1,λk b hk hwk hb'=>g2 k b hk hwk (gF (Ne.symm hk) hb'),?_⟩;rw[eM]
  conv=>lhs;unfold pb
  exact th (fe (by omega)) (th eO (th (fH (by omega)) (th (fF LI) (hw.trans (th (fH (by omega)) g3)))))
end
end
end Go.Proofs.YthljpappkomocaaGreat
