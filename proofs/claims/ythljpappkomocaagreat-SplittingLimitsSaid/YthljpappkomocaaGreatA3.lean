/- What the evaluator and the residuals compute. -/
import Derived.Test.YthljpappkomocaaGreatA2
import Derived.KernelRfl
set_option linter.all false
set_option maxRecDepth 10000
namespace Go.Proofs.Ev
noncomputable section
def z2T{R U P V Ul vl' v Q:Nat}(hR:R=U*P+Ul)(hU:Ul<P)(hv:v=V*P+vl')(hQ:Q*v<=R):Q*V<=U:=by
 have h1:Q*(V*P)<=Q*v:=ae _ eP;rw[<-aa]at h1;have h2:Q*V*P<(U+1)*P:=by rw[aS,ao];omega
 exact bL (zn6 h2)
def z4v{R U P V Ul vl' v Q q:Nat}(hP:0<P)(hR:R=U*P+Ul)(hv:v=V*P+vl')(hl:vl'<P)(hQ:R<(Q+1)*v)(hV:Q+1<=V)(hq:q*V<=U):q<=Q+1:=by
 rcases aY (Q+1) q with h|h
 ·exfalso;have h1:(Q+2)*V*P<=q*V*P:=aK _ (aK _ h);have h2:q*V*P<=U*P:=aK _ hq;have h3:(Q+1)*v<=(Q+1)*(V*P)+(Q+1)*P:=by rw[<-bK];exact ae _ eP
  rw[<-aa]at h3;have h4:(Q+2)*V*P=(Q+1)*V*P+V*P:=by rw[<-aS];congr 1;rw[aS (Q+1) 1,ao]
  have h5:(Q+1)*P<=V*P:=aK _ hV;omega
 ·exact h
def PB{B q r u2 u1 u0 v1 v0:Nat}(h:q*v1+r=u2*B+u1)(h1:q*v0<=r*B+u0):q*(v1*B+v0)<=(u2*B+u1)*B+u0:=by
 rw[<-h,bK,aS,<-aa];omega
def z0J{B q r u2 u1 u0 v1 v0 Q:Nat}(h:q*v1+r=u2*B+u1)(h1:r*B+u0<q*v0)(hQ:Q*(v1*B+v0)<=(u2*B+u1)*B+u0):Q+1<=q:=by
 rcases aY Q q with h2|h2
 ·exact h2
 ·exfalso;have h3:q*(v1*B+v0)<=Q*(v1*B+v0):=aK _ h2;have h4:q*(v1*B+v0)=q*v1*B+q*v0:=by rw[bK,<-aa]
  have h5:(u2*B+u1)*B=q*v1*B+r*B:=by rw[<-h,aS]
  omega
def z4H{hi lo r u0 B:Nat}(hl:lo<B)(hu:u0<B):(hi<r\/hi=r/\lo<=u0)↔hi*B+lo<=r*B+u0:=by
 constructor
 ·rintro (h|⟨h,h1⟩)
  ·have:=aK B h;rw[eL]at this;omega
  ·subst h;omega
 ·intro h;rcases cy hi r with h1|h1|h1
  ·exact Or.inl h1
  ·subst h1;exact Or.inr ⟨rfl,eP⟩
  ·exfalso;have:=aK B h1;rw[eL]at this;omega
def Ty{B m u2 u1 u0 v1 v0 Rl vl' R v:Nat}(hB:2<=B)(hR:R=((u2*B+u1)*B+u0)*B^m+Rl)(hRl:Rl<B^m)(hv:v=(v1*B+v0)*B^m+vl')(hvl:vl'<B^m)
 (hu0:u0<B) (hu1:u1<B) (hv0:v0<B) (z8P:B<=2*v1) (hlt:R<v*B):
 0<v/\u2<=v1/\R/v<B/\R/v*v1<=u2*B+u1/\(∀q,q*(v1*B+v0)<=(u2*B+u1)*B+u0->q<=R/v+1)/\R/v*(v1*B+v0)<=(u2*B+u1)*B+u0:=by
 have hP:0<B^m:=bj eP;have hv1:1<=v1:=eP;have hvB:B<=v1*B+v0:=by have:=aK B hv1;rw[ao]at this;omega
 have hvp:0<v:=by
  have:0<(v1*B+v0)*B^m:=zmH eP hP;omega
 have hQ:R/v<B:=by rw[br hvp,aL];exact hlt
 have hQv:R/v*v<=R:=dG R v;have hQ1:R<(R/v+1)*v:=by rw[aS,ao,aL];exact Nat.lt_mul_div_succ R hvp
 have h1:B^(m+1)=B*B^m:=by rw[bI,aL]
 have hl1:u0*B^m+Rl<B^(m+1):=by
  have:=aK (B^m) (show u0+1<=B from hu0);rw[aS,ao]at this;omega
 have hl2:v0*B^m+vl'<B^(m+1):=by
  have:=aK (B^m) (show v0+1<=B from hv0);rw[aS,ao]at this;omega
 have hR1:R=(u2*B+u1)*B^(m+1)+(u0*B^m+Rl):=by rw[hR,h1,aS,aa];omega
 have hv':v=v1*B^(m+1)+(v0*B^m+vl'):=by rw[hv,h1,aS,aa];omega
 refine⟨hvp,?_,hQ,z2T hR1 hl1 hv' hQv,λq hq=>z4v hP hR hv hvl hQ1 eP hq,z2T hR hRl hv hQv⟩;rcases aY v1 u2 with h|h
 ·exfalso;have h2:(v1+1)*B^(m+1)*B<=u2*B^(m+1)*B:=aK _ (aK _ h);have h3:v<(v1+1)*B^(m+1):=by rw[aS,ao];omega
  have h4:v*B<=(v1+1)*B^(m+1)*B:=aK _ (bq h3);have h5:u2*B*B^(m+1)=u2*B^(m+1)*B:=by rw[dP]
  have h6:(u2*B+u1)*B^(m+1)=u2*B*B^(m+1)+u1*B^(m+1):=aS _ _ _;omega
 ·exact h
def rF{B:Nat}:∀(k:Nat)(ws:eZ),(∀t,k<=t->dgt ws t=0)->vl B ws=vl B (ws.take k)
 |k,[],_=>by simp
 |0,w::ws,h=>by
  have h0:w=0:=h 0 (aC _);have h1:=rF (B:=B) 0 ws (λt _=>h (t+1) eP);show w+B*vl B ws=0;rw[h0,h1];simp[vl]
 |k+1,w::ws,h=>by
  show w+B*vl B ws=w+B*vl B (ws.take k);rw[rF k ws (λt ht=>h (t+1) eP)]
def uf{ws:eZ}{i t:Nat}:dgt (ws.drop i) t=dgt ws (i+t):=by
 unfold dgt;rw[aB,aB,cA]
def Ew{B:Nat}{ws:eZ}{j:Nat}(h:j<=ws.length):vl B ws=vl B (ws.take j)+B^j*vl B (ws.drop j):=by
 conv=>lhs;rw[<-bY j ws]
 rw[Ct,aR,cF h]
def nY{B:Nat}{ws:eZ}{k:Nat}(s:Sm B ws)(hB:0<B):vl B (ws.take k)<B^k:=by
 have h1:=HS (B:=B) (ws:=ws.take k) (λw hw=>s w (bH hw));exact bw h1 (cM hB (by rw[aR];omega))
def SU{B:Nat}{ws:eZ}{m:Nat}(hz:∀t,m+3<=t->dgt ws t=0):vl B ws=((dgt ws (m+2)*B+dgt ws (m+1))*B+dgt ws m)*B^m+vl B (ws.take m):=by
 rw[rF (m+3) ws hz,qQ,qQ,qQ,bI B (m+1),bI B m];generalize B^m=P;grind
def Z4{B:Nat}{ws:eZ}{m:Nat}:vl B (ws.take (m+2))=(dgt ws (m+1)*B+dgt ws m)*B^m+vl B (ws.take m):=by
 rw[qQ,qQ,bI];generalize B^m=P;grind
structure StD (bs:fQ) (us vf:eZ) (l lv j n Q v:Nat) (bs':fQ) (us':eZ):Prop where
 b1:bs'[l]?=some ⟨c64 us',.rw⟩
 b2:bs'[lv]?=some ⟨c64 vf,.rw⟩
 len:us'.length=us.length
 sm:Sm B64 us'
 hi:∀t,j+n<t->dgt us' t=dgt us t
 val:vl B64 us'+Q*v*B64^j=vl B64 us
 keep:∀l' x,l≠l'->bs[l']?=some x->bs'[l']?=some x
def Md{us:eZ}{bs:fQ}{l j n cm:Nat}{ex:Bool}{K:fK}(h:bs[l]?=some ⟨c64 us,.rw⟩)(hl:j+n<us.length){i:Nat}(hi:i<=n):(eT 1 (mem bs) (.sl l j (n+1) cm 1 ex) (.i .i64 (.ofNat i)) λa s=>eR s a K)=K (n64 (dgt us (j+i))) (mem bs):=vb h eP eP
def z4P{a b c V Q x y:Nat}(h1:a+c=b+y)(h2:b+(Q+y)=V+x)(h3:Q<=V):a+c=V-Q+x:=eP
def Q5{φ l lv j n cm cmv q Q:Nat}{ex exv:Bool}{us vf:eZ}{bs:fQ}{kk:fK}(hq:q<B64)(su:Sm B64 us)(sv:Sm B64 vf)(hvf:n<=vf.length)(hne:l≠lv)(hn:n<=100000000000)(hφ:n+4<φ)
 (h1:bs[l]?=some ⟨c64 us,.rw⟩) (h2:bs[lv]?=some ⟨c64 vf,.rw⟩) (hl:j+n<us.length) (hz:∀t,j+n<t->dgt us t=0) (hv:0<vl B64 (vf.take n)) (hQ:Q=vl B64 (us.drop j)/vl B64 (vf.take n)) (hq1:Q<=q) (hq2:q<=Q+1):
 ∃bs' us',StD bs us vf l lv j n Q (vl B64 (vf.take n)) bs' us'/\
 lp pu (jK φ kk) φ (.sl l j (n+1) cm 1 ex) (.sl lv 0 n cmv 1 exv) (.i .i64 (.ofNat n)) (n64 q) (n64 0) (n64 0) (.i .i64 (.ofNat n)) fB (mem bs)=kk (n64 Q) (mem bs'):=by
 have hBp:0<B64:=eV;obtain⟨bs1,us1,b1,c1,g1,g2,g3,g4,g5,g6,g7,g8,g9,g10⟩:=W9 (φ:=φ) (cm:=cm) (cmv:=cmv) (ex:=ex) (exv:=exv) (kk:=kk) (j:=j) (V:=vl B64 us) hq sv hvf hne hn n 0 φ bs us 0 0 h1 h2 hl su eP eV (by simp[vl]) eP eP;have e0:n64 0=n64 0:=rfl;obtain⟨f,hf⟩:∃f,φ-n=f+1:=⟨φ-n-1,eP⟩
 have d1:dgt us1 (j+n)<B64:=oj g4 hBp _;obtain⟨d2,b2,s1,s2,s3,s4⟩:=KQ d1 g6 g5;have z78:=zI (B:=B64) d2 (j9 (show j+n<us1.length by omega));rw[bi]at z78;have hv2:=z0H g7 z78 s4;have z6f:=Ew (B:=B64) (show j<=us.length by omega);have hlo:=nY (k:=j) su hBp;have hP:0<B64^j:=bj hBp;have hPN:B64^j*B64^n=B64^(j+n):=(bi _ _ _).symm;refine Exists.elim (p:=λ_=>True) ⟨0,trivial⟩ λ_ _=>?_;rw[g10,hf,ep];have hb2:b2=0\/b2=1:=eP;rcases hb2 with rfl|rfl
 ·rw[bX,bO]at hv2;refine⟨bs1.set l ⟨c64 (us1.set (j+n) d2),.rw⟩,us1.set (j+n) d2,⟨xD g1,fc hne g2,by rw[a8,g3],vS g4 s2,λt ht=>by rw[sO eP,g8 t eP],?_,λl' x hl' hx=>fc hl' (g9 l' x hl' hx)⟩,?_⟩
  ·have:=z2V hv hP z6f hlo hQ hq1 hv2;rw[<-this];exact hv2
  ·have:=z2V hv hP z6f hlo hQ hq1 hv2;rw[<-this];unfold jK;exact th (gP eP) (th ez (th (Md g1 eP (aC n)) (th (s1 _ _) (th iG (th iF (th (Ch g1 eP eP) (th (oW rfl) fG)))))))
 ·have hz1:∀t,j+n+1<=t->dgt (us1.set (j+n) d2) t=0:=λt ht=>by rw[sO eP,g8 t eP,hz t eP]
  have hX:vl B64 (us1.set (j+n) d2)<B64*(B64^j*B64^n):=by
   rw[rF (j+n+1) _ hz1,hPN];have:=nY (k:=j+n+1) (vS (i:=j+n) g4 s2) hBp;rwa[bI,aL]at this
  have hqQ:=z4w hv hP z6f hQ hq2 hX (by rw[ao]at hv2;exact hv2);have zeu:=vS (i:=j+n) g4 s2;obtain⟨bs3,us3,c3,k1,k2,k3,k4,k5,k6,k7,k8,k9⟩:=Wa (φ:=φ) (cm:=cm) (cmv:=cmv) (ex:=ex) (exv:=exv) (x53:=n64 q) (kk:=kk) (j:=j) (V:=vl B64 (us1.set (j+n) d2)) sv hvf hne hn n 0 φ (bs1.set l ⟨c64 (us1.set (j+n) d2),.rw⟩) (us1.set (j+n) d2) 0 (xD g1) (fc hne g2) (by rw[a8];omega) zeu eP (by simp[vl]) eP eP;rw[a8]at k3;have hz3:∀t,j+n+1<=t->dgt us3 t=0:=λt ht=>by rw[k7 t eP,hz1 t ht]
  have d3:dgt us3 (j+n)<B64:=oj k4 hBp _;have h3v:vl B64 us3=vl B64 (us3.take (j+n))+B64^(j+n)*dgt us3 (j+n):=by
   conv=>lhs;rw[rF (j+n+1) us3 hz3,qQ]
   rw[aL]
  have hQv:Q*vl B64 (vf.take n)*B64^j<=vl B64 us:=by
   have h4:Q*vl B64 (vf.take n)<=vl B64 (us.drop j):=by rw[hQ];exact dG _ _
   have h5:=ae (B64^j) h4;rw[aL]at h5;omega
  rw[hPN]at k6 hv2;have hab:=Y2 (PN:=B64^(j+n)) (B:=B64) (v3:=vl B64 us3) (c:=c3) (z':=dgt us3 (j+n)) (lo:=vl B64 (us3.take (j+n))) (W:=vl B64 us-Q*vl B64 (vf.take n)*B64^j) k5 (nY k4 hBp) h3v d3 (by
   rw[hqQ,aS,aS,ao,ao]at hv2;exact z4P k6 hv2 hQv)
  obtain⟨e1,e2,e3⟩:=hab;have zc3:=zI (B:=B64) 0 (j9 (show j+n<us3.length by omega));rw[bX,bO,aL]at zc3;refine⟨bs3.set l ⟨c64 (us3.set (j+n) 0),.rw⟩,us3.set (j+n) 0,⟨xD k1,fc hne k2,by rw[a8,k3,g3],vS k4 hBp,λt ht=>by rw[sO eP,k7 t eP,sO eP,g8 t eP],eP,λl' x hl' hx=>fc hl' (k8 l' x hl' (fc hl' (g9 l' x hl' hx)))⟩,?_⟩;obtain⟨f3,hf3⟩:∃f,φ-n=f+1:=⟨φ-n-1,eP⟩
  have e4:(dgt us3 (j+n)+c3)%18446744073709551616=0:=by
   rw[e1,e2];decide
  unfold jK;refine th (gP eP) (th ez (th (Md g1 eP (aC n)) (th (s1 _ _) (th iG (th iF (th (Ch g1 eP eP) (th (mJ eP) (th ez (k9.trans ?_)))))))));rw[hf3,ep];unfold qX;refine th (gP eP) (th ez (th (Md k1 eP (aC n)) (th WA ?_)));rw[e4];refine th (Ch k1 eP eP) (th (HZ eP (by have:=hq;show q<18446744073709551616;exact hq)) ?_);rw[hqQ,au];rfl
def W8{φ l lv j m cm cmv Q u2 u1 u0 v1 v0:Nat}{ex exv:Bool}{us vf:eZ}{bs:fQ}{j11:mu}(sv:Sm B64 vf)(su:Sm B64 us)(hn:m<=100000000000)
 (h1:bs[l]?=some ⟨c64 us,.rw⟩) (h2:bs[lv]?=some ⟨c64 vf,.rw⟩) (hvf:m+2<=vf.length) (hl:j+(m+2)<us.length) (e2:dgt us (j+m)=u0) (f1:dgt vf (m+1)=v1) (f0:dgt vf m=v0) (hv1:9223372036854775808<=v1)
 (hQ:Q*(v1*B64+v0)<=(u2*B64+u1)*B64+u0):∀(k f q r o:Nat),q*v1+(r+o*B64)=u2*B64+u1->o<=1->Q<=q->q<B64->r<B64->(o=0->B64<=r+k*v1)->k+1<f->
 ∃q',Q<=q'/\q'<B64/\q'*(v1*B64+v0)<=(u2*B64+u1)*B64+u0/\
 lp iH (jj φ j11) f (.sl l j (m+3) cm 1 ex) (.sl lv 0 (m+2) cmv 1 exv) (.i .i64 (.ofNat (m+2))) (n64 q) (n64 r) (n64 o) (mem bs)=j11 (.sl l j (m+3) cm 1 ex) (.sl lv 0 (m+2) cmv 1 exv) (.i .i64 (.ofNat (m+2))) (n64 q') (mem bs):=by
 have hBp:0<B64:=eV;have hu0:u0<B64:=e2▸oj su hBp _;have hv0:v0<B64:=f0▸oj sv hBp _;have z97:v1<B64:=f1▸oj sv hBp _;have one:∀(f q r:Nat),q*v1+(r+1*B64)=u2*B64+u1->q<B64->0<f->q*(v1*B64+v0)<=(u2*B64+u1)*B64+u0/\
  lp iH (jj φ j11) f (.sl l j (m+3) cm 1 ex) (.sl lv 0 (m+2) cmv 1 exv) (.i .i64 (.ofNat (m+2))) (n64 q) (n64 r) (n64 1) (mem bs)=j11 (.sl l j (m+3) cm 1 ex) (.sl lv 0 (m+2) cmv 1 exv) (.i .i64 (.ofNat (m+2))) (n64 q) (mem bs):=by
  intro f q r hq hqb hf;obtain⟨f,rfl⟩:∃p,f=p+1:=⟨f-1,eP⟩
  refine⟨PB hq ?_,?_⟩
  ·have h3:q*v0<=B64*B64:=ay (bq hqb) (bq hv0);have h4:(r+1*B64)*B64=r*B64+B64*B64:=by rw[aS,ao]
   rw[h4];exact aX h3 (aX (zmT _ _) (cL _ _))
  ·rw[ep];unfold jj;exact th (mJ eP) ez
 intro k
 induction k with
 |zero=>
  intro f q r o h0 ho hQq hq hr hk hf;have:o=1:=by
   rcases(show o=0\/o=1 by omega)with h|h
   ·have:=hk h;rw[bX]at this;omega
   ·exact h
  subst this;obtain⟨a,b⟩:=one f q r h0 hq eP;exact⟨q,hQq,hq,a,b⟩
 |succ k ih=>
  intro f q r o h0 ho hQq hq hr hk hf;rcases(show o=0\/o=1 by omega)with rfl|rfl
  ·obtain⟨f,rfl⟩:∃p,f=p+1:=⟨f-1,eP⟩
   rw[bX,bO]at h0;obtain⟨hi,lo,m1,m2,m3⟩:=DN hq hv0;have hil:=z4H (hi:=hi) (r:=r) m3 hu0;rw[m2]at hil;by_cases hc:q*v0<=r*B64+u0
   ·refine⟨q,hQq,hq,PB h0 hc,?_⟩;rw[ep];unfold jj;refine th (oW rfl) (th fG (th (iJ eP eP) (th (vb h2 eP eP) ?_)));rw[aN,show m+2-2=m by omega,f0];refine th (fX m1) (th iG (th iF ?_));rcases hil.2 hc with h3|⟨h3,h4⟩
    ·exact th (gX h3) (th qV (th qV (th qV (th qV (th J5 (th J5 (th J5 (th J5 (th J5 (th J5 (th J5 (th qV (th gT fG)))))))))))))
    ·refine th (gP eP) (th iX (th iX (th iX (th (oW h3) (th iX (th gG (th gG (th gG (th gG (th (iJ eP eP) (th gG ?_)))))))))));rw[show m+2-2=m by omega];refine Eq.trans (b:=eU (.b true) true (λk=>eT 1 (mem bs) (.sl l j (m+3) cm 1 ex) (.i .i64 (.ofNat m)) λa s=>eR s a k) (mem bs) λx96 s=>_) rfl ?_;refine th gG (th (vb h1 eP eP) ?_);rw[e2];refine th gG (th wP ?_);rw[aD h4];exact th iX (th gT (th ga fG))
   ·have zjN:=z0J h0 (show r*B64+u0<q*v0 by omega) hQ;obtain⟨d,c',a1,a2,a3,a4⟩:=xg (c:=0) hr z97 eP;have hqm:(q-1)*v1+v1=q*v1:=by rw[<-eL];congr 1;omega
    obtain⟨q',z1,z2,z3,z4⟩:=ih f (q-1) d c' eP a3 eP eP a2 (λh=>by subst h;have:=hk rfl;rw[aS,ao]at this;omega) eP;refine⟨q',z1,z2,z3,?_⟩;rw[ep];unfold jj;refine th (oW rfl) (th fG (th (iJ eP eP) (th (vb h2 eP eP) ?_)));rw[aN,show m+2-2=m by omega,f0];refine th (fX m1) (th iG (th iF ?_));have fin:∀K:fK,K=(λx99 s=>fE x99 (j11 (.sl l j (m+3) cm 1 ex) (.sl lv 0 (m+2) cmv 1 exv) (.i .i64 (.ofNat (m+2))) (n64 q) s)
     (fe (n64 q) (.i .u64 (.ofNat 1)) λx100=>fe (.i .i64 (.ofNat (m+2))) ej λx101=>eT 1 s (.sl lv 0 (m+2) cmv 1 exv) x101 λx102 s=>eR s x102 λx103 s=>oi (n64 r) x103 (.i .u64 (.ofNat 0)) s λx104 s=>gB x104 0 s λx105 s=>gB x104 1 s λx106 s=>
      lp iH (jj φ j11) f (.sl l j (m+3) cm 1 ex) (.sl lv 0 (m+2) cmv 1 exv) (.i .i64 (.ofNat (m+2))) x100 x105 x106 s))->
     K (.b false) (mem bs)=j11 (.sl l j (m+3) cm 1 ex) (.sl lv 0 (m+2) cmv 1 exv) (.i .i64 (.ofNat (m+2))) (n64 q') (mem bs):=by
     intro K hK;subst hK;refine th ez (th (HZ eP (by have:=hq;show q<18446744073709551616;exact hq)) (th (iJ eP eP) (th (vb h2 eP eP) ?_)));rw[aN,show m+2-1=m+1 by omega,f1];exact th (a1 _ _) (th iG (th iF z4))
    by_cases he:hi=r
    ·refine th (gP eP) (th iX (th iX (th iX (th (oW he) (th iX (th gG (th gG (th gG (th gG (th (iJ eP eP) (th gG ?_)))))))))));rw[show m+2-2=m by omega];refine Eq.trans (b:=eU (.b true) true (λk=>eT 1 (mem bs) (.sl l j (m+3) cm 1 ex) (.i .i64 (.ofNat m)) λa s=>eR s a k) (mem bs) λx96 s=>_) rfl ?_;refine th gG (th (vb h1 eP eP) ?_);rw[e2];refine th gG (th wP ?_);rw[il (show ¬lo<=u0 from λh=>hc (hil.1 (Or.inr ⟨he,h⟩)))];exact th iX (th gT (th ga (fin _ rfl)))
    ·have zeO:¬hi<r:=λh=>hc (hil.1 (Or.inl h));refine th (gP zeO) (th iX (th iX (th iX (th (mJ he) (th iX (th gx (th gx (th gx (th gx (th gx (th gx (th gx (th iX (th ga (th ga (fin _ rfl))))))))))))))))
  ·obtain⟨a,b⟩:=one f q r h0 hq eP;exact⟨q,hQq,hq,a,b⟩
def S8{φ l lv j m cm cmv:Nat}{ex exv:Bool}{us vf:eZ}{bs:fQ}{kk:fK}(su:Sm B64 us)(sv:Sm B64 vf)(hvf:m+2<=vf.length)(hne:l≠lv)(hn:m<=10000000000)(hφ:m+10<φ)
 (h1:bs[l]?=some ⟨c64 us,.rw⟩) (h2:bs[lv]?=some ⟨c64 vf,.rw⟩) (hl:j+(m+2)<us.length) (hz:∀t,j+(m+2)<t->dgt us t=0) (hv1:9223372036854775808<=dgt vf (m+1)) (hlt:vl B64 (us.drop j)<vl B64 (vf.take (m+2))*B64):
 ∃bs' us',StD bs us vf l lv j (m+2) (vl B64 (us.drop j)/vl B64 (vf.take (m+2))) (vl B64 (vf.take (m+2))) bs' us'/\
 nP φ [.sl l j (m+2+1) cm 1 ex,.sl lv 0 (m+2) cmv 1 exv] (mem bs) kk=kk (n64 (vl B64 (us.drop j)/vl B64 (vf.take (m+2)))) (mem bs'):=by
 have hBp:0<B64:=eV;have hR:=SU (B:=B64) (ws:=us.drop j) (m:=m) (λt ht=>by rw[uf];exact hz _ eP);rw[uf,uf,uf]at hR;have sud:Sm B64 (us.drop j):=λw hw=>su w (ba hw);have hu2:dgt us (j+(m+2))<B64:=oj su hBp _;have hu1:dgt us (j+(m+1))<B64:=oj su hBp _;have hu0:dgt us (j+m)<B64:=oj su hBp _;have z97:dgt vf (m+1)<B64:=oj sv hBp _;have hv0:dgt vf m<B64:=oj sv hBp _;obtain⟨k1,k2,k3,k4,k5,k6⟩:=Ty (B:=B64) eV hR (nY sud hBp) (Z4 (B:=B64) (ws:=vf) (m:=m)) (nY sv hBp) hu0 hu1 hv0 (by show 18446744073709551616<=_;omega) hlt;have fin:∀(q r o:Nat),q*dgt vf (m+1)+(r+o*B64)=dgt us (j+(m+2))*B64+dgt us (j+(m+1))->o<=1->vl B64 (us.drop j)/vl B64 (vf.take (m+2))<=q->q<B64->r<B64->
  ∃bs' us',StD bs us vf l lv j (m+2) (vl B64 (us.drop j)/vl B64 (vf.take (m+2))) (vl B64 (vf.take (m+2))) bs' us'/\
  (lp iH (jj φ (λ(x12 x13 x14 x15:D)(s:LS)=>
   lp pu (jK φ kk) φ x12 x13 x14 x15 (.i .u64 (.ofNat 0)) (.i .u64 (.ofNat 0)) x14 fB s)) φ (.sl l j (m+2+1) cm 1 ex) (.sl lv 0 (m+2) cmv 1 exv) (.i .i64 (.ofNat (m+2))) (n64 q) (n64 r) (n64 o) (mem bs))=kk (n64 (vl B64 (us.drop j)/vl B64 (vf.take (m+2)))) (mem bs'):=by
  intro q r o a1 a2 a3 a4 a5;obtain⟨q',z1,z2,z3,z4⟩:=W8 (φ:=φ) (cm:=cm) (cmv:=cmv) (ex:=ex) (exv:=exv) (j11:=(λ(x12 x13 x14 x15:D)(s:LS)=>
   lp pu (jK φ kk) φ x12 x13 x14 x15 (.i .u64 (.ofNat 0)) (.i .u64 (.ofNat 0)) x14 fB s)) sv su eP h1 h2 hvf hl rfl rfl rfl hv1 k6 2 φ q r o a1 a2 a3 a4 a5 (λ_=>by show 18446744073709551616<=_;omega) eP
  obtain⟨bs',us',y1,y2⟩:=Q5 (φ:=φ) (cm:=cm) (cmv:=cmv) (ex:=ex) (exv:=exv) (kk:=kk) (n:=m+2) z2 su sv hvf hne eP eP h1 h2 hl hz k1 rfl z1 (k5 q' z3);exact⟨bs',us',y1,z4.trans y2⟩
 have hS:∀r:Rs,(∀x108 x111:D,x108=n64 (dgt us (j+(m+2)))->x111=n64 (dgt vf (m+1))->(mb x108 x111 λx112=>
 fE x112
(fe (.i .i64 (.ofNat (m+2))) ej λx113=>
 eT 1 (mem bs) (.sl l j (m+2+1) cm 1 ex) x113 λx114 s=>
 eR s x114 λx115 s=>
 fe (.i .i64 (.ofNat (m+2))) ej λx116=>
 eT 1 s (.sl lv 0 (m+2) cmv 1 exv) x116 λx117 s=>
 eR s x117 λx118 s=>
 oi x115 x118 (.i .u64 (.ofNat 0)) s λx119 s=>
 gB x119 0 s λx120 s=>
 gB x119 1 s λx121 s=>
(lp iH (jj φ (λ(x12 x13 x14 x15:D)(s:LS)=>
  lp pu (jK φ kk) φ x12 x13 x14 x15 (.i .u64 (.ofNat 0)) (.i .u64 (.ofNat 0)) x14 fB s)) φ) (.sl l j (m+2+1) cm 1 ex) (.sl lv 0 (m+2) cmv 1 exv) (.i .i64 (.ofNat (m+2))) (.i .u64 (.ofNat 18446744073709551615)) x120 x121 s)
(eT 1 (mem bs) (.sl l j (m+2+1) cm 1 ex) (.i .i64 (.ofNat (m+2))) λx122 s=>
 eR s x122 λx123 s=>
 fe (.i .i64 (.ofNat (m+2))) ej λx124=>
 eT 1 s (.sl l j (m+2+1) cm 1 ex) x124 λx125 s=>
 eR s x125 λx126 s=>
 fe (.i .i64 (.ofNat (m+2))) ej λx127=>
 eT 1 s (.sl lv 0 (m+2) cmv 1 exv) x127 λx128 s=>
 eR s x128 λx129 s=>
 eY (iC φ) [x123,x126,x129] s λx130 s=>
 gB x130 0 s λx131 s=>
 gB x130 1 s λx132 s=>
(lp iH (jj φ (λ(x12 x13 x14 x15:D)(s:LS)=>
  lp pu (jK φ kk) φ x12 x13 x14 x15 (.i .u64 (.ofNat 0)) (.i .u64 (.ofNat 0)) x14 fB s)) φ) (.sl l j (m+2+1) cm 1 ex) (.sl lv 0 (m+2) cmv 1 exv) (.i .i64 (.ofNat (m+2))) x131 x132 (.i .u64 (.ofNat 0)) s))=r)->nP φ [.sl l j (m+2+1) cm 1 ex,.sl lv 0 (m+2) cmv 1 exv] (mem bs) kk=r:=by
  intro r hr;rw[EU];unfold Cn;dsimp only[fJ,fV];refine th vq (th sj (th sj (th (Md h1 hl (aC _)) (th (iJ eP eP) (th (vb h2 eP eP) ?_)))));rw[aN,show m+2-1=m+1 by omega];exact hr _ _ rfl rfl
 by_cases hc:dgt vf (m+1)<=dgt us (j+(m+2))
 ·have he:dgt us (j+(m+2))=dgt vf (m+1):=eP;obtain⟨d,c',a1,a2,a3,a4⟩:=xg (c:=0) hu1 z97 eP;obtain⟨bs',us',y1,y2⟩:=fin 18446744073709551615 d c' (by
   rw[he];show 18446744073709551615*dgt vf (m+1)+(d+c'*18446744073709551616)=dgt vf (m+1)*18446744073709551616+_;have:c'*18446744073709551616+d=dgt us (j+(m+1))+dgt vf (m+1)+0:=a4;omega) a3 (by
   have:vl B64 (us.drop j)/vl B64 (vf.take (m+2))<18446744073709551616:=k3;omega) eV a2
  refine⟨bs',us',y1,hS _ λx y hx hy=>?_⟩;subst hx hy;refine th (uS hc) (th fG (th (iJ eP eP) (th (Md h1 hl eP) (th (iJ eP eP) (th (vb h2 eP eP) ?_)))));rw[aN,show m+2-1=m+1 by omega];exact th (a1 _ _) (th iG (th iF y2))
 ·obtain⟨N,hN⟩:∃N,dgt us (j+(m+2))*18446744073709551616+dgt us (j+(m+1))=N:=⟨_,rfl⟩
  have hN':dgt us (j+(m+2))*B64+dgt us (j+(m+1))=N:=hN;have hd:=IX (φ:=φ) (h:=dgt us (j+(m+2))) (l:=dgt us (j+(m+1))) (y:=dgt vf (m+1)) hN hu1 z97 eP eP;have z7K:=cK N (dgt vf (m+1));have hml:=bN N (show 0<dgt vf (m+1) by omega);rw[hN']at k4 fin;have z9e:N/dgt vf (m+1)<B64:=by
   rw[br eP];have h8:=aK 18446744073709551616 (show dgt us (j+(m+2))+1<=dgt vf (m+1) by omega);have h9:dgt us (j+(m+1))<18446744073709551616:=hu1;rw[aL];exact bw eP h8
  obtain⟨bs',us',y1,y2⟩:=fin (N/dgt vf (m+1)) (N%dgt vf (m+1)) 0 (by rw[aL,bX,bO];exact z7K) eP (by rw[di eP];exact k4) z9e (cj hml z97);refine⟨bs',us',y1,hS _ λx y hx hy=>?_⟩;subst hx hy;refine th (GO hc) (th ez (th (Md h1 hl (aC _)) (th (iJ eP eP) (th (Md h1 hl eP) (th (iJ eP eP) (th (vb h2 eP eP) ?_))))));rw[aN,show m+2-1=m+1 by omega];exact th (fX hd) (th iG (th iF y2))
section
variable {bs:fQ} {ws:eZ} {b:Blk} {l off n cm h lo z m:Nat} {ex:Bool} {K:fK} {k1 k2:IntKind}
def Ip(hg:bs[l]?=some b)(hl:b.st.live=true)(hh:h<=cm)(h0:0<cm):iT z (mem bs) (.sl l off n cm z ex) none (some (.i k1 (.ofNat h))) none K=K (.sl l off h cm z ex) (mem bs):=by
 show(iq (mem bs) l λb=>cnd (lv b.st) (cnd (Nat.ble cm cm) (cnd (Nat.ble h cm) (cnd (Nat.ble 0 h) (cnd (Nat.beq z z) (nM ex λex=>cnd (Nat.blt 0 cm) (frc (Nat.add off (Nat.mul 0 z)) λoff=>frc (Nat.sub h 0) λlen=>frc (Nat.sub cm 0) λcm=>K (.sl l off len cm z ex) (mem bs)) (K (.tree [] 0 ex) (mem bs))) none) none) none) none) none)=_;rw[gV hg,nQ,hl,aD (aC cm),aD hh,aD (aJ h),fk h0];simp only[fH,iz,fj,gE];rw[show Nat.add off (Nat.mul 0 z)=off by show off+0*z=off;omega];rfl
def z02(hg:bs[l]?=some b)(hl:b.st.live=true)(hlo:lo<=h)(hh:h<=cm)(h0:lo<cm):iT 1 (mem bs) (.sl l off n cm 1 ex) (some (.i k1 (.ofNat lo))) (some (.i k2 (.ofNat h))) none K=K (.sl l (off+lo) (h-lo) (cm-lo) 1 ex) (mem bs):=by
 show(iq (mem bs) l λb=>cnd (lv b.st) (cnd (Nat.ble cm cm) (cnd (Nat.ble h cm) (cnd (Nat.ble lo h) (cnd (Nat.beq 1 1) (nM ex λex=>cnd (Nat.blt lo cm) (frc (Nat.add off (Nat.mul lo 1)) λoff=>frc (Nat.sub h lo) λlen=>frc (Nat.sub cm lo) λcm=>K (.sl l off len cm 1 ex) (mem bs)) (K (.tree [] 0 ex) (mem bs))) none) none) none) none) none)=_;rw[gV hg,nQ,hl,aD (aC cm),aD hh,aD hlo,fk h0];simp only[fH,iz,fj,gE];rw[show Nat.add off (Nat.mul lo 1)=off+lo by show off+lo*1=off+lo;omega];rfl
def Ai(hg:bs[l]?=some b)(hb:b.cs=c64 ws)(hl:b.st.live=true)(hn:n<=ws.length)(hc:n<=cm)(hc0:0<cm)(hs:n<=9223372036854775807):∀(i f:Nat),i<=n->i<f->
 lp li (Dd K) f (.sl l 0 n cm 1 ex) (.i .i64 (.ofNat i)) (mem bs)=K (.sl l 0 (tl ws i) cm 1 ex) (mem bs)
 |0,f,hi,hf=>by
  obtain⟨f,rfl⟩:∃q,f=q+1:=⟨f-1,eP⟩
  rw[ep];unfold Dd;simp only[qF,fw (bE 0),xX,ga,ez];exact Ip hg hl (aJ _) hc0
 |i+1,f,hi,hf=>by
  obtain⟨f,rfl⟩:∃q,f=q+1:=⟨f-1,eP⟩
  have hlt:i<ws.length:=eP;have hw:=aE hlt;rw[ep];unfold Dd;have hm:i+1<=i9 .i64:=by show i+1<=9223372036854775807;omega
  simp only[qF,fk (cD i),vK,mQ (show 1<=i+1 by omega) hm,au];have hr:∀K:fK,(eT 1 (mem bs) (.sl l 0 n cm 1 ex) (.i .i64 (.ofNat i)) λa s=>eR s a K)=K (n64 ws[i]) (mem bs):=λK=>by
   refine th (DY hg hl eP) ?_;rw[a9,aN];exact vp hg hl (by rw[hb];exact pA hw)
  refine th (hr _) (th qG ?_);by_cases h0:ws[i]=0
  ·rw[h0,show Nat.beq 0 0=true from rfl,gT,fG];have ht:tl ws (i+1)=tl ws i:=by
    show(if ws[i]?=some 0 then tl ws i else i+1)=_;rw[hw,h0,aF rfl]
   rw[ht];exact Ai hg hb hl hn hc hc0 hs i f eP eP
  ·rw[ik h0,gT,ez];have ht:tl ws (i+1)=i+1:=by
    show(if ws[i]?=some 0 then tl ws i else i+1)=_;rw[hw,aG (λe=>h0 (cJ e))]
   rw[ht];exact Ip hg hl eP hc0
def Bl{φ:Nat}(hg:bs[l]?=some b)(hb:b.cs=c64 ws)(hl:b.st.live=true)(hn:n<=ws.length)(hc:n<=cm)(hc0:0<cm)(hs:n<=9223372036854775807)(hφ:n<φ):fv φ [.sl l 0 n cm 1 ex] (mem bs) K=K (.sl l 0 (tl ws n) cm 1 ex) (mem bs):=by
 rw[Bm];exact th vq (Ai hg hb hl hn hc hc0 hs n φ (aC _) hφ)
def KP{ws:eZ}:∀n,n<=ws.length->Tm (ws.take (tl ws n))
 |0,_=>λw hw=>by simp[tl]at hw
 |n+1,h=>by
  have hw:=aE (show n<ws.length by omega);show Tm (ws.take (if ws[n]?=some 0 then tl ws n else n+1));by_cases h0:ws[n]?=some 0
  ·rw[aF h0];exact KP n eP
  ·rw[aG h0];intro w hw';rw[znc,aR,cF h,cN,aF eP,au]at hw';intro e;rw[e]at hw';exact h0 hw'
def zK:∀ws:eZ,val ws=vl B64 ws
 |[]=>rfl
 |w::ws=>by show w+B64*val ws=w+B64*vl B64 ws;rw[zK ws]
def OH{ws:eZ}(n:Nat)(h:n<=ws.length):vl B64 (ws.take (tl ws n))=vl B64 (ws.take n):=by rw[<-zK,<-zK];exact MU ws n h
def Wn{g:Nat->Option Blk}{j:Nat}(ws:eZ):i8 (res g (j+1)) (c64 ws)=some (c64 ws,[]):=mG (k:=j) _ (zk ws)
def JA{g:Nat->Option Blk}{j:Nat}(hg:g l=some b)(hb:b.cs=c64 ws)(hl:b.st.live=true)(hn:n<=ws.length):res g (j+2) (.sl l 0 n cm 1 ex)=some (.tree (c64 (ws.take n)) n (ex&&cm==n),[l]):=by
 refine wx (n:=j+1) (r:=c64 (ws.take n)) hg hl ?_ (Wn _);unfold cut;rw[hb,a7,a9,aF (by rw[aR,jO];omega)];unfold c64;rw[dN]
def z0e{g:Nat->Option Blk}{j n:Nat}{ex:Bool}{ws:eZ}:res g (j+2) (.tree (c64 ws) n ex)=some (.tree (c64 ws) n ex,[]):=rfl
def Yp{bs:fQ}{r1 r2 A1 A2:D}{l1 l2:eZ}(h1:res (mem bs).get 60 r1=some (A1,l1))(h2:res (mem bs).get 60 r2=some (A2,l2))(hf:wT (.tup [r1,r2])=false):fO false (mem bs) (.tup [r1,r2]) some=some (.tup [A1,A2]):=by
 have hr:lf false (mem bs).get gJ (.tup [r1,r2])=some (.tup [A1,A2]):=by
  have e1:vL false (mem bs).get 60 r1=some (A1,[],l1):=by rw[show vL false (mem bs).get 60 r1=yF (res (mem bs).get 60 r1) by cases r1<;>rfl,h1];rfl
  have e2:i8 (res (mem bs).get 60) [r2]=some ([A2],l2++[]):=by unfold i8;rw[h2];rfl
  show(match vL false (mem bs).get 60 r1,i8 (res (mem bs).get 60) [r2]with
   |some (d,o,ls),some (ds,ls')=>if o.all λl=> !(ls++ls').contains l then some (D.tup (d::ds))else none
   |_,_=>none)=_
  rw[e1,e2];rfl
 unfold fO;rw[lJ,hf,hr,gc];rfl
def ix:Nat->D
 |0=>lC
 |k+1=>.i .i64 (.ofNat k)
def ub{k:Nat}(hk:k<9223372036854775808){K:D->Rs}:fe (.i .i64 (.ofNat k)) ej K=K (ix k):=by
 cases k with
 |zero=>exact E6
 |succ k=>refine th (iJ eP eP) ?_;rw[au];rfl
def z0j{ws:eZ}{i n:Nat}{ex:Bool}{s:LS}{kk:IntKind}{K:fK}(hl:ws.length=n)(hi:i<n):(eT 1 s (.tree (c64 ws) n ex) (.i kk (.ofNat i)) λa s=>eR s a K)=K (n64 (dgt ws i)) s:=by
 refine th (HL hi (by rw[a9,jO];omega)) ?_;rw[a9];exact Ky (pA (j9 eP))
def XD{B a X Q r q r' y N:Nat}(h:X=y*Q+r)(hd:r*B+a=N)(hq:q=N/y)(hr:r'=N%y):a+B*X=y*(q+B*Q)+r':=by
 have:=cK N y;rw[<-hq,<-hr,<-hd]at this;rw[h,bK,bK,eI,aL B r];omega
def Ah(x y:Nat)(o:Option D):Prop:=∃qs rs e e',Sm B64 qs/\Tm qs/\vl B64 qs=x/y/\Sm B64 rs/\Tm rs/\vl B64 rs=x%y/\o=some (.tup [.tree (c64 qs) qs.length e,.tree (c64 rs) rs.length e'])
def Bn{ws:eZ}{k:Nat}(h:k<=ws.length):(ws.take k).length=k:=by rw[aR];omega
def z2m{bs:fQ}{l1 l2 n1 n2 c1 c2:Nat}{x y:Nat}{b1 b2:Blk}{w1 w2:eZ}{e1 e2:Bool}(g1:bs[l1]?=some b1)(g2:bs[l2]?=some b2)(h1:b1.cs=c64 w1)(h2:b2.cs=c64 w2)(v1:b1.st.live=true)(v2:b2.st.live=true)(hn1:n1<=w1.length)(hn2:n2<=w2.length)
 (s1:Sm B64 w1) (s2:Sm B64 w2) (d1:vl B64 (w1.take n1)=x/y) (d2:vl B64 (w2.take n2)=x%y):Ah x y (fO false (mem bs) (.tup [.sl l1 0 (tl w1 n1) c1 1 e1,.sl l2 0 (tl w2 n2) c2 1 e2]) some):=by
 have t1:=HX w1 n1;have t2:=HX w2 n2;have l1':=Bn (ws:=w1) (k:=tl w1 n1) eP;have l2':=Bn (ws:=w2) (k:=tl w2 n2) eP;refine⟨w1.take (tl w1 n1),w2.take (tl w2 n2),(e1&&c1==tl w1 n1),(e2&&c2==tl w2 n2),Bq s1,KP _ hn1,by rw[OH _ hn1];exact d1,Bq s2,KP _ hn2,by rw[OH _ hn2];exact d2,?_⟩;rw[l1',l2'];exact Yp (JA (j:=58) (by rw[mK];exact g1) h1 v1 eP) (JA (j:=58) (by rw[mK];exact g2) h2 v2 eP) rfl
def z1p{φ n y:Nat}{xs:eZ}{ex ey:Bool}(hl:xs.length=n)(sx:Sm B64 xs)(hnp:0<n)(hn:n<=1000000000)(hy0:0<y)(hy:y<B64)(hφ:n+5<φ):∀(i f r:Nat)(qs:eZ),qs.length=n->Sm B64 qs->i<=n->i<f->r<y->vl B64 (xs.drop i)=y*vl B64 (qs.drop i)+r->
 Ah (vl B64 xs) y (lp gQ (kB φ) f (.tree (c64 xs) n ex) (.tree [n64 y] 1 ey) (.sl 0 0 n n 1 true) (n64 r) (ix i) (mem [⟨c64 qs,.rw⟩])):=by
 intro i
 induction i with
 |zero=>
  intro f r qs hq sq hi hf hr hv;obtain⟨f,rfl⟩:∃p,f=p+1:=⟨f-1,eP⟩
  rw[a7,a7]at hv;obtain⟨f1,f2⟩:=(Nat.div_mod_unique hy0).2 ⟨(by rw[hv,cx]:r+y*vl B64 qs=vl B64 xs),hr⟩
  ·have key:∀o,(lp gQ (kB φ) (f+1) (.tree (c64 xs) n ex) (.tree [n64 y] 1 ey) (.sl 0 0 n n 1 true) (n64 r) (ix 0) (mem [⟨c64 qs,.rw⟩]))=o->Ah (vl B64 xs) y o->Ah (vl B64 xs) y (lp gQ (kB φ) (f+1) (.tree (c64 xs) n ex) (.tree [n64 y] 1 ey) (.sl 0 0 n n 1 true) (n64 r) (ix 0) (mem [⟨c64 qs,.rw⟩])):=λo h1 h2=>by rw[h1];exact h2
   refine key _ ?_ (z2m (bs:=[⟨c64 qs,.rw⟩,⟨c64 [r],.rw⟩]) (l1:=0) (l2:=1) (n1:=n) (n2:=1) (c1:=n) (c2:=1) (e1:=true) (e2:=true) (w1:=qs) (w2:=[r]) rfl rfl rfl rfl rfl rfl eP fU sq (z01 (cj hr hy)) (by rw[aP eP];exact f1.symm) (by rw[<-show r=vl B64 xs%y from f2.symm];simp[vl]));rw[ep];unfold kB;refine th sM (th ez (th (Bl (ws:=qs) rfl rfl rfl eP (aC _) hnp eP eP) (th GJ ?_)));rw[rH,mP];exact Bl (ws:=[r]) rfl rfl rfl (aC _) (aC _) eP eP eP
 |succ k ih=>
  intro f r qs hq sq hi hf hr hv;obtain⟨f,rfl⟩:∃p,f=p+1:=⟨f-1,eP⟩
  have hd:=IX (φ:=φ) (h:=r) (l:=dgt xs k) (y:=y) rfl (oj sx eV _) hy hr eP;have hN:∃N,r*18446744073709551616+dgt xs k=N:=⟨_,rfl⟩
  obtain⟨N,hN⟩:=hN;rw[hN]at hd;have hqB:N/y<B64:=by
   rw[br hy0];have h8:=aK 18446744073709551616 (show r+1<=y from hr);have h9:dgt xs k<18446744073709551616:=oj sx eV _;rw[aL];exact bw eP h8
  have hqd:vl B64 ((qs.set k (N/y)).drop k)=N/y+B64*vl B64 (qs.drop (k+1)):=by
   rw[xu,zmZ eP];congr 1;unfold dgt;rw[aB,aH eP];rfl
  have h3:=ih f (N%y) (qs.set k (N/y)) (by rw[a8];exact hq) (vS sq hqB) eP eP (bN _ hy0) (by
   rw[xu,hqd];exact XD hv hN rfl rfl)
  have e:lp gQ (kB φ) (f+1) (.tree (c64 xs) n ex) (.tree [n64 y] 1 ey) (.sl 0 0 n n 1 true) (n64 r) (ix (k+1)) (mem [⟨c64 qs,.rw⟩])=lp gQ (kB φ) f (.tree (c64 xs) n ex) (.tree [n64 y] 1 ey) (.sl 0 0 n n 1 true) (n64 (N%y)) (ix k) (mem [⟨c64 (qs.set k (N/y)),.rw⟩]):=by
   rw[ep];unfold kB;refine th (uS eP) (th fG (th (z0j hl eP) (th (z0j (ws:=[y]) (i:=0) rfl eP) (th (fX hd) (th iG (th iF (th (Ch (l:=0) rfl eP eP) ?_)))))));rw[aN];exact ub eP
  rw[e];exact h3
def z04{Bz Cz a b T' T S:Nat}(hz:0<Bz)(hS:S=a+Bz*Cz*T)(hT:T=b+Bz*Cz*T'):S/Bz=(a/Bz+Cz*(b%Bz))+Bz*Cz*(T/Bz):=by
 have e1:S/Bz=a/Bz+Cz*T:=by
  rw[hS,aa,cx,zmS hz,cx]
 have e2:T%Bz=b%Bz:=by rw[hT,aa,cQ]
 have e3:=cK T Bz;rw[e2]at e3;rw[e1];have e4:Cz*T=Cz*(Bz*(T/Bz)+b%Bz):=by rw[e3]
 rw[e4,bK,aL Bz Cz,aa];omega
def z1o{φ n z lu lq nq cu:Nat}{eu:Bool}{us0 qs:eZ}(hz:z<=63)(hu0:us0.length=cu)(hn:n<cu)(hcu:cu<=10000000000)(su0:Sm B64 us0){P:Option D->Prop}(hR:∀(bs:fQ)(us:eZ),bs[lu]?=some ⟨c64 us,.rw⟩->bs[lq]?=some ⟨c64 qs,.rw⟩->Sm B64 us->us.length=cu->vl B64 (us.take n)+B64^n*(vl B64 (us0.drop n)/2^z)=vl B64 us0/2^z->
 ∃R,P R/\(eY (xf (fv φ)) [.sl lq 0 nq nq 1 true] (mem bs) λx95 s=>iT 1 s (.sl lu 0 cu cu 1 eu) none (some (.i .i64 (.ofNat n))) none λx96 s=>(fv φ) [x96] s λx97 s=>fO false s (.tup [x95,x97]) some)=R) (hne:lu≠lq):∀(k i f:Nat)(bs:fQ)(us:eZ),i+k=n->k<f->bs[lu]?=some ⟨c64 us,.rw⟩->bs[lq]?=some ⟨c64 qs,.rw⟩->Sm B64 us->us.length=cu->us.drop i=us0.drop i->vl B64 (us.take i)+B64^i*(vl B64 (us0.drop i)/2^z)=vl B64 us0/2^z->
 ∃R,P R/\lp iH (lQ φ) f (.i .i64 (.ofNat z)) (.sl lu 0 cu cu 1 eu) (.i .i64 (.ofNat n)) (.sl lq 0 nq nq 1 true) (.i .i64 (.ofNat n)) (.i .i64 (.ofNat i)) (mem bs)=R:=by
 intro k
 induction k with
 |zero=>
  intro i f bs us hi hf h1 h2 su hl hd hv;obtain⟨f,rfl⟩:∃p,f=p+1:=⟨f-1,eP⟩
  have:i=n:=eP;subst this;obtain⟨R,hP,hR'⟩:=hR bs us h1 h2 su hl hv;refine⟨R,hP,?_⟩;rw[ep];unfold lQ;exact th (gP eP) (th ez hR')
 |succ k ih=>
  intro i f bs us hi hf h1 h2 su hl hd hv;obtain⟨f,rfl⟩:∃p,f=p+1:=⟨f-1,eP⟩
  have hpz:0<2^z:=bj eV;have e64:2^z*2^(64-z)=18446744073709551616:=by rw[<-bi,ce eP]
  have da:dgt us i=dgt us0 i:=by
   have:=congrArg (λl=>dgt l 0) hd;simpa[uf]using this
  have db:dgt us (i+1)=dgt us0 (i+1):=by
   have:=congrArg (λl=>dgt l 1) hd;simpa[uf]using this
  have ha:dgt us0 i<18446744073709551616:=oj su0 eV _;have hb:dgt us0 (i+1)<18446744073709551616:=oj su0 eV _;have zcj:=z04 (Bz:=2^z) (Cz:=2^(64-z)) (a:=dgt us0 i) (b:=dgt us0 (i+1)) (T:=vl B64 (us0.drop (i+1))) (S:=vl B64 (us0.drop i)) (T':=vl B64 (us0.drop (i+2))) hpz (by rw[e64];exact xu us0 i) (by rw[e64];exact xu us0 (i+1));rw[e64]at zcj;have zaT:dgt us0 i/2^z<2^(64-z):=by rw[br hpz,aL,e64];exact ha
  have hbz:dgt us0 (i+1)%2^z<2^z:=bN _ hpz;have ho:dgt us0 i/2^z+2^(64-z)*(dgt us0 (i+1)%2^z)<18446744073709551616:=by
   have:=ae (2^(64-z)) hbz;rw[Nat.mul_succ,aL _ (2^z),e64]at this;omega
  generalize hO:dgt us0 i/2^z+2^(64-z)*(dgt us0 (i+1)%2^z)=O at*;have next:∀(bs':fQ),bs'[lu]?=some ⟨c64 (us.set i O),.rw⟩->bs'[lq]?=some ⟨c64 qs,.rw⟩->∃R,P R/\lp iH (lQ φ) f (.i .i64 (.ofNat z)) (.sl lu 0 cu cu 1 eu) (.i .i64 (.ofNat n)) (.sl lq 0 nq nq 1 true) (.i .i64 (.ofNat n)) (.i .i64 (.ofNat (i+1))) (mem bs')=R:=λbs' g1 g2=>
   ih (i+1) f bs' (us.set i O) eP eP g1 g2 (vS su ho) (by rw[a8];exact hl) (by
    rw[zmZ eP,<-List.drop_drop,<-List.drop_drop,hd]) (by
    rw[qQ,<-hv,zcj];have e1:(us.set i O).take i=us.take i:=by rw[List.take_set_of_le (aC _)]
    have e2:dgt (us.set i O) i=O:=by unfold dgt;rw[aB,aH eP];rfl
    rw[e1,e2,bI,bK,aa,aL O];exact dL _ _ _)
  obtain⟨R,hP,hR'⟩:=next (bs.set lu ⟨c64 (us.set i O),.rw⟩) (xD h1) (fc hne h2)
  refine⟨R,hP,?_⟩;rw[ep];unfold lQ;refine th (gX eP) (th fG (th sj (th (vb h1 eP eP) (th (wi eP) ?_))));rw[aN,da];refine th (Ch h1 eP eP) ?_;rw[aN];by_cases h0:z=0
  ·subst h0;refine th (qw eP) (th gx (th gx (th gx (th gx (th gx (th ga (th ez (th (gA eP) ?_))))))));have e0:dgt us0 i/2^0=O:=by rw[<-hO,dI,Nat.mod_one,dU,bO]
   rw[e0];exact hR'
  ·refine th (oG eP) (th gG (th gG (th (gA eP) (th gG (th gG (th vq (th gG (th (gX eP) (th gT (th fG ?_))))))))));refine th (vb (xD h1) eP (by rw[a8];omega)) (th (gA eP) (th (vb (xD h1) eP (by rw[a8];omega)) (th (iJ eP eP) (th (yR eP) ?_))));have e2:dgt (us.set i (dgt us0 i/2^z)) (0+i)=dgt us0 i/2^z:=by unfold dgt;rw[aN,aB,aH eP];rfl
   have e3:dgt (us.set i (dgt us0 i/2^z)) (0+(i+1))=dgt us0 (i+1):=by rw[sO eP,aN];exact db
   rw[e2,e3];have e4:dgt us0 (i+1)*2^(64-z)%18446744073709551616=2^(64-z)*(dgt us0 (i+1)%2^z):=by
    rw[<-e64,zmN,aL]
   rw[e4];have e5:dgt us0 i/2^z|||2^(64-z)*(dgt us0 (i+1)%2^z)=O:=by
    rw[Nat.or_comm,<-dc zaT,cx];exact hO
   refine th (Wz eP eP) ?_;rw[e5];refine th (Ch (xD h1) eP (by rw[a8];omega)) (th (gA eP) ?_);rw[aN,List.set_set,List.set_set];exact hR'
def AU{B:Nat}(hB:2<=B){ws:eZ}{m t:Nat}(h:vl B ws<B^m)(ht:m<=t):dgt ws t=0:=by
 by_cases hl:t<ws.length
 ·have h1:=Cs (B:=B) (show t<=ws.length by omega);rcases bT (dgt ws t)with h0|h0
  ·exact h0
  ·exfalso;have h2:B^m<=B^t:=cM eP ht;have h3:B^t*1<=B^t*(dgt ws t+B*vl B (ws.drop (t+1))):=ae _ eP;omega
 ·unfold dgt;rw[aB,ai eP];rfl
def XW{u u' Q v P R lo lo' R':Nat}(hv:u'+Q*v*P=u)(hu:u=lo+P*R)(hlo:lo<P)(hu':u'=lo'+P*R')(zeW:lo'<P)(hQ:Q=R/v):R'=R%v:=by
 have h1:=cK R v;rw[<-hQ]at h1;have hP:0<P:=eP;have e1:u'/P=R':=by rw[hu',cx,zmS hP,cq zeW,bO]
 have e2:u=(lo+P*(R%v))+Q*v*P:=by
  rw[hu]
  conv=>lhs;rw[<-h1]
  rw[bK,aL v Q,aL P (Q*v)];omega
 have e3:u'=lo+P*(R%v):=eP;rw[<-e1,e3,cx,zmS hP,cq hlo,bO]
def z1n{φ m z lu lv lq nq cu cv:Nat}{eu ev':Bool}{vf:eZ}{X:Nat}(hlv:lu≠lv)(hlq:lu≠lq)(hvq:lv≠lq)(sv:Sm B64 vf)(hvf:m+2<=vf.length)(hm:m<=1000000000)(hcu:cu<=10000000000)(hv1:9223372036854775808<=dgt vf (m+1))(hφ:m+10<φ){P:Option D->Prop}
 (hR:∀(bs:fQ)(us qs:eZ),bs[lu]?=some ⟨c64 us,.rw⟩->bs[lq]?=some ⟨c64 qs,.rw⟩->Sm B64 us->Sm B64 qs->us.length=cu->qs.length=nq->vl B64 us+vl B64 (vf.take (m+2))*vl B64 qs=X->vl B64 us<vl B64 (vf.take (m+2))->
  ∃R,P R/\lp iH (lQ φ) φ (.i .i64 (.ofNat z)) (.sl lu 0 cu cu 1 eu) (.i .i64 (.ofNat (m+2))) (.sl lq 0 nq nq 1 true) (.i .i64 (.ofNat (m+2))) fB (mem bs)=R):∀(i f:Nat)(bs:fQ)(us qs:eZ),i+(m+2)<=cu->i<=nq->i<f->bs[lu]?=some ⟨c64 us,.rw⟩->bs[lv]?=some ⟨c64 vf,.rw⟩->bs[lq]?=some ⟨c64 qs,.rw⟩->Sm B64 us->Sm B64 qs->us.length=cu->qs.length=nq->
  vl B64 us+vl B64 (vf.take (m+2))*(B64^i*vl B64 (qs.drop i))=X->vl B64 (us.drop i)<vl B64 (vf.take (m+2))->(∀t,i+(m+2)<=t->dgt us t=0)->
  ∃R,P R/\lp iH (oX φ) f (.i .i64 (.ofNat z)) (.sl lv 0 (m+2) cv 1 ev') (.sl lu 0 cu cu 1 eu) (.i .i64 (.ofNat (m+2))) (.sl lq 0 nq nq 1 true) (ix i) (mem bs)=R:=by
 have hBp:0<B64:=eV;intro i
 induction i with
 |zero=>
  intro f bs us qs hi hq hf h1 h2 h3 su sq lu' lq' hX hlt hz;obtain⟨f,rfl⟩:∃p,f=p+1:=⟨f-1,eP⟩
  rw[dI,ao]at hX;obtain⟨R,hP,hR'⟩:=hR bs us qs h1 h3 su sq lu' lq' hX hlt;refine⟨R,hP,?_⟩;rw[ep];unfold oX;exact th sM (th ez hR')
 |succ j ih=>
  intro f bs us qs hi hq hf h1 h2 h3 su sq lu' lq' hX hlt hz;obtain⟨f,rfl⟩:∃p,f=p+1:=⟨f-1,eP⟩
  have hdj:=xu (B:=B64) us j;have hdg:dgt us j<B64:=oj su hBp _;have z9e:vl B64 (us.drop j)<vl B64 (vf.take (m+2))*B64:=by
   rw[hdj];have:=ae B64 (show vl B64 (us.drop (j+1))+1<=vl B64 (vf.take (m+2))from hlt);rw[bK,a9,aL B64 (vl B64 (vf.take (m+2)))]at this;exact bw (by rw[cx];exact Nat.add_lt_add_left hdg _) this
  have hvp:0<vl B64 (vf.take (m+2)):=cR (aJ _) hlt;obtain⟨bs',us',S,e⟩:=S8 (φ:=φ) (cm:=cu-j) (cmv:=cv) (ex:=eu) (exv:=ev') (j:=j) (kk:=λx56 s=>
   eT 1 s (.sl lq 0 nq nq 1 true) (.i .i64 (.ofNat j)) λx57 s=>
   fA 1 s x57 x56 λ_ s=>
   fe (.i .i64 (.ofNat j)) ej λx58=>
   lp iH (oX φ) f (.i .i64 (.ofNat z)) (.sl lv 0 (m+2) cv 1 ev') (.sl lu 0 cu cu 1 eu) (.i .i64 (.ofNat (m+2))) (.sl lq 0 nq nq 1 true) x58 s) su sv hvf hlv eP eP h1 h2 eP (λt ht=>hz t eP) hv1 z9e
  have g3:=S.keep _ _ hlq h3;have z6f:=Ew (B:=B64) (show j<=us.length by omega);have zcJ:=Ew (B:=B64) (show j<=us'.length by rw[S.len];omega);have z7K:=XW S.val z6f (nY su hBp) zcJ (nY S.sm hBp) rfl;have hml:=bN (vl B64 (us.drop j)) hvp;have hQ:vl B64 (us.drop j)/vl B64 (vf.take (m+2))<B64:=by rw[br hvp,aL];exact z9e
  generalize vl B64 (us.drop j)/vl B64 (vf.take (m+2))=Q at*;have hqd:vl B64 ((qs.set j Q).drop j)=Q+B64*vl B64 (qs.drop (j+1)):=by
   rw[xu,zmZ eP];congr 1;unfold dgt;rw[aB,aH eP];rfl
  have hX':vl B64 us'+vl B64 (vf.take (m+2))*(B64^j*vl B64 ((qs.set j Q).drop j))=X:=by
   rw[hqd,<-hX,<-S.val,bI,bK,bK,<-dL,aL Q,aa (vl B64 (vf.take (m+2))) Q,aL Q (B64^j),aa (B64^j) B64]
  have hvl:vl B64 (us'.drop j)<B64^(m+2):=cj (by rw[z7K];exact hml) (nY sv hBp);obtain⟨R,hP,hih⟩:=ih f (bs'.set lq ⟨c64 (qs.set j Q),.rw⟩) us' (qs.set j Q) eP eP eP (fc (Ne.symm hlq) S.b1) (fc (Ne.symm hvq) S.b2) (xD g3) S.sm (vS sq hQ) (by rw[S.len];exact lu') (by rw[a8];exact lq') hX' (by rw[z7K];exact hml) (λt ht=>by
   have:=AU eV hvl (show m+2<=t-j by omega);rwa[uf,show j+(t-j)=t by omega]at this)
  refine⟨R,hP,?_⟩;rw[ep];unfold oX;refine th (uS eP) (th fG (th (gA eP) (th (gA eP) (th (z02 h1 rfl eP eP eP) ?_))));rw[aN,show j+(m+2)+1-j=m+2+1 by omega];refine e.trans (th (Ch g3 eP eP) (th (ub eP) ?_));rw[aN];exact hih
def Wj{s:LS}{n:Nat}{e:Bool}{ws:eZ}:fO true s (.tree (c64 ws) n e) some=some (.tree (c64 ws) n e):=by
 unfold fO;rw[lJ];show sk (lf true s.get gJ (.tree (c64 ws) n e)) some=_;rw[show lf true s.get gJ (.tree (c64 ws) n e)=some (.tree (c64 ws) n e)from rfl,gc];rfl
def z0U{bs:fQ}{l n φ:Nat}{qs:eZ}{K:fK}(hg:bs[l]?=some ⟨c64 qs,.rw⟩)(hn:qs.length=n)(hs:n<=9223372036854775807)(hφ:n<φ):
 eY (xf (fv φ)) [.sl l 0 n n 1 true] (mem bs) K=K (.tree (c64 (qs.take (tl qs n))) (tl qs n) (cnd true (Nat.beq (tl qs n) n) false)) (mem (bs.set l ⟨c64 qs,.frz⟩)):=by
 have e1:(cnd true (Nat.beq n n) false)=true:=by rw[gE];rfl
 show(iq (mem bs) l λb=>cnd (lv b.st) (jJ 0 b.cs λr=>jP (Nat.mul n 1) r λr=>ma (jX (mem bs) 59) r λcs ls=>nM (cnd true (Nat.beq n n) false) λex=>pk (l::ls) [] λab=>ob (xf (fv φ) [.tree cs n ex]) λr=>nD (mem bs) ab r K) none)=_;rw[gV hg];show(jJ 0 (c64 qs) λr=>jP (Nat.mul n 1) r λr=>ma (jX (mem bs) 59) r λcs ls=>nM (cnd true (Nat.beq n n) false) λex=>pk (l::ls) [] λab=>ob (xf (fv φ) [.tree cs n ex]) λr=>nD (mem bs) ab r K)=_;rw[gZ,a7,i7,aF (by rw[jO];show n*1<=_;omega),aP (by rw[jO];show _<=n*1;omega),NH,iz,jt,e1];have e2:xf (fv φ) [.tree (c64 qs) n true]=some (.tree (c64 (qs.take (tl qs n))) (tl qs n) (cnd true (Nat.beq (tl qs n) n) false)):=by
  show fv φ [.tree (c64 qs) n true] s0 (λd s=>fO true s d some)=_;rw[HW hn hs hφ,Wj]
 rw[e2,jY];unfold nD;rw[lJ];show(iq (mem bs) l λb=>oh (mem bs) l ⟨b.cs,fzS b.st⟩ λs=>K _ s)=_;rw[gV hg,mD (fC hg)];rfl
def W3{os:eZ}{n c:Nat}(hl:os.length=n+2)(so:Sm B64 os)(hlt:vl B64 os<B64^(n+1))(hge:c*B64^n<=vl B64 os):c<=dgt os n/\dgt os (n+1)=0:=by
 have hz:dgt os (n+1)=0:=AU eV hlt (aC _);refine⟨?_,hz⟩;have h1:vl B64 os=vl B64 (os.take n)+dgt os n*B64^n:=by
  rw[rF (n+1) os (λt ht=>AU eV hlt ht),qQ]
 have h2:=nY (k:=n) so (show 0<B64 by decide);rcases aY (dgt os n) c with h|h
 ·exfalso;have:=aK (B64^n) h;rw[eL]at this;omega
 ·exact h
def Zu{os:eZ}{n:Nat}(hl:os.length=n+2)(h0:dgt os (n+1)=0)(h1:dgt os n≠0):tl os (n+2)=n+1:=by
 have g0:=j9 (show n+1<os.length by omega);have g1:=j9 (show n<os.length by omega);show(if os[n+1]?=some 0 then tl os (n+1)else n+2)=_;rw[g0,h0,aF rfl];show(if os[n]?=some 0 then tl os n else n+1)=_;rw[g1,aG (λe=>h1 (cJ e))]
def Ah.of{x y:Nat}{o o':Option D}(h:o=o')(h':Ah x y o'):Ah x y o:=by rw[h];exact h'
def YR{φ n z lu lq nq cu x y v:Nat}{eu:Bool}{us0 qs:eZ}(hz:z<=63)(hu0:us0.length=cu)(hn:n<cu)(hn0:0<n)(hcu:cu<=10000000000)(su0:Sm B64 us0)(sq:Sm B64 qs)(hq:qs.length=nq)(hnq:nq<=cu)(hne:lu≠lq)(hφ:cu+5<φ)
 (hv:v=y*2^z) (hX:vl B64 us0+v*vl B64 qs=x*2^z) (hlt:vl B64 us0<v) (hvn:v<B64^n) {bs:fQ} (h1:bs[lu]?=some ⟨c64 us0,.rw⟩) (h2:bs[lq]?=some ⟨c64 qs,.rw⟩):
 Ah x y (lp iH (lQ φ) φ (.i .i64 (.ofNat z)) (.sl lu 0 cu cu 1 eu) (.i .i64 (.ofNat n)) (.sl lq 0 nq nq 1 true) (.i .i64 (.ofNat n)) fB (mem bs)):=by
 have hpz:0<2^z:=bj eV;have hvp:0<v:=cR (aJ _) hlt;obtain⟨f1,f2⟩:=(Nat.div_mod_unique hvp).2 ⟨hX,hlt⟩;rw[hv,Nat.mul_div_mul_right _ _ hpz]at f1;rw[hv,zmN]at f2;have hdz:vl B64 (us0.drop n)=0:=by
  have hc:=Ew (B:=B64) (show n<=us0.length by omega);rcases bT (vl B64 (us0.drop n))with h|h
  ·exact h
  ·exfalso;have:B64^n*1<=B64^n*vl B64 (us0.drop n):=ae _ h;omega
 obtain⟨R,hP,hR⟩:=z1o (φ:=φ) (z:=z) (lu:=lu) (lq:=lq) (nq:=nq) (eu:=eu) (qs:=qs) (n:=n) (P:=Ah x y) hz hu0 hn hcu su0 (by
  intro bs us g1 g2 su hul z6F;refine⟨_,?_,rfl⟩;rw[hdz,Nat.zero_div,dU,bO,<-f2,zn4 _ hpz]at z6F;have g1':(bs.set lq ⟨c64 qs,.frz⟩)[lu]?=some ⟨c64 us,.rw⟩:=fc (Ne.symm hne) g1;have t1:=HX qs nq;have t2:=HX us n;refine Ah.of (th (z0U g2 hq eP eP) (th (Ip g1' rfl eP eP) (Bl g1' rfl rfl eP eP eP eP eP))) ?_;refine⟨qs.take (tl qs nq),us.take (tl us n),(cnd true (Nat.beq (tl qs nq) nq) false),(eu&&cu==tl us n),Bq sq,KP _ eP,by rw[OH _ eP,aP eP];exact f1.symm,Bq su,KP _ eP,by rw[OH _ eP];exact z6F,?_⟩;rw[Bn eP,Bn eP];exact Yp (z0e (j:=58)) (JA (j:=58) (by rw[mK];exact g1') rfl rfl eP) rfl) hne n 0 φ bs us0 eP eP h1 h2 su0 hu0 rfl (by simp[vl])
 exact Ah.of hR hP
def G4{φ:Nat}{xs ys:eZ}{ex ey:Bool}(sx:Sm B64 xs)(sy:Sm B64 ys)(tx:Tm xs)(ty:Tm ys)(hx:xs.length<=1000000000)(hy:ys.length<=1000000000)(h0:0<vl B64 ys)(hφ:xs.length+20<φ):
 Ah (vl B64 xs) (vl B64 ys) (iI φ [.tree (c64 xs) xs.length ex,.tree (c64 ys) ys.length ey]):=by
 have hBp:0<B64:=eV;have z9o:=V3 (φ:=φ) (e1:=ex) (e2:=ey) rfl rfl sx sy tx ty eP eP eP;rw[Co];unfold zw;dsimp only[fJ,fV];by_cases hlt:vl B64 xs<vl B64 ys
 ·rw[Pz hlt]at z9o;refine Ah.of (th (DX z9o) (th CZ (th fG Az))) ?_;exact⟨[],xs,true,ex,(λw hw=>by cases hw),(λw hw=>by simp at hw),by rw[cq hlt];rfl,sx,tx,by rw[am hlt],rfl⟩
 ·obtain⟨c,hc⟩:=QA (x:=vl B64 xs) (y:=vl B64 ys) eP;rw[hc]at z9o;have zei:ys≠[]:=λe=>by subst e;simp[vl]at h0
  have zek:xs≠[]:=λe=>by subst e;simp[vl]at hlt;omega
  have hxl:0<xs.length:=az.2 zek;have hyl:0<ys.length:=az.2 zei;by_cases h1:ys.length=1
  ·obtain⟨y,rfl⟩:∃y,ys=[y]:=by
    match ys,h1 with
    |[y],_=>exact⟨y,rfl⟩
   have hyv:vl B64 [y]=y:=by simp[vl]
   rw[hyv]at h0 ⊢;have:=z1p (φ:=φ) (ex:=ex) (ey:=ey) rfl sx hxl hx h0 (sy y fU) eP xs.length φ 0 (List.replicate xs.length 0) fU (MY hBp) (aC _) eP h0 (by
    rw[dK (aC _),dK fU];simp[vl])
   refine Ah.of ?_ this;refine th (DX z9o) (th (gP (cO c)) (th ez (th fY (th (oW rfl) (th fG (th fY ?_))))));rw[<-fg];refine th (BI rfl eP eP) (th fY (th (ub eP) ?_));rw[wA,AY];rfl
  ·obtain⟨m,hm⟩:∃m,ys.length=m+2:=⟨ys.length-2,eP⟩
   obtain⟨k,hk⟩:∃k,xs.length=m+2+k:=by
    refine⟨xs.length-(m+2),?_⟩;rcases aY xs.length ys.length with h|h
    ·exact absurd (Au eV sx ty h) hlt
    ·omega
   have zfV:dgt ys (m+1)<18446744073709551616:=oj sy hBp _;have dne:dgt ys (m+1)≠0:=by
    refine ty _ ?_;rw[znc,hm];exact j9 eP
   obtain⟨z,z1,z2,z3,z4⟩:=Ku (φ:=φ) zfV (zmy dne);have hpz:0<2^z:=bj eV;obtain⟨vf,v1,v2,v3,v4⟩:=De (φ:=φ) (n:=m+2) (ex:=ey) z1 hm sy eP eP;obtain⟨us,u1,u2,u3,u4⟩:=De (φ:=φ) (n:=m+2+k) (ex:=ex) z1 hk sx eP eP;have zbW:vl B64 ys=vl B64 (ys.take (m+1))+dgt ys (m+1)*B64^(m+1):=by
    conv=>lhs;rw[<-aP (show ys.length<=m+1+1 by omega),qQ]
   have zit:vl B64 (ys.take (m+1))<B64^(m+1):=nY sy hBp;have z8k:(dgt ys (m+1)*2^z)*B64^(m+1)<=vl B64 vf:=by
    rw[v3,dP];exact aK _ eP
   have zat:vl B64 vf<B64^(m+1+1):=by
    have h5:vl B64 ys*2^z<(dgt ys (m+1)+1)*B64^(m+1)*2^z:=dE (by rw[aS,ao];omega) hpz;rw[<-v3,dP]at h5;have h6:(dgt ys (m+1)+1)*2^z<=18446744073709551616:=by
     have hd:2^z∣18446744073709551616:=⟨2^(64-z),by rw[<-bi,ce eP]⟩
     obtain⟨w,hw⟩:=hd;rw[hw,aL]at z2;have:=znd z2;rw[hw,aL];exact ae _ this
    have h7:=aK (B64^(m+1)) h6;rw[bI B64 (m+1),aL (B64^(m+1))];exact bw h5 h7
   obtain⟨t1,t2⟩:=W3 (n:=m+1) (c:=dgt ys (m+1)*2^z) v1 v2 zat z8k;have htl:=Zu (n:=m+1) v1 t2 eP;have hvt:vl B64 (vf.take (m+2))=vl B64 ys*2^z:=by
    rw[<-v3,<-rF (m+2) vf (λt ht=>AU eV zat ht)]
   have hX:vl B64 us=vl B64 xs*2^z:=u3;have hu0:vl B64 (us.drop (k+1))<vl B64 (vf.take (m+2)):=by
    have hc:=Ew (B:=B64) (show k+1<=us.length by omega);have h5:vl B64 xs<B64^(m+2+k):=by have:=HS sx;rwa[hk]at this
    have h6:vl B64 us<B64^(m+2+k)*2^z:=by rw[u3];exact dE h5 hpz
    have h7:B64^(k+1)*vl B64 (us.drop (k+1))<B64^(k+1)*(B64^(m+1)*2^z):=by
     have e:B64^(k+1)*(B64^(m+1)*2^z)=B64^(m+2+k)*2^z:=by
      rw[<-aa,<-bi];congr 2;omega
     rw[e];omega
    have h8:=znd h7;rw[hvt,zbW];refine bw h8 ?_;have h9:B64^(m+1)*1<=B64^(m+1)*dgt ys (m+1):=ae _ (zmy dne);refine aK _ ?_;rw[a9,aL]at h9;omega
   have hz0:∀t,vl B64 ((List.replicate (k+1) 0).drop t)=0:=λt=>by rw[List.drop_replicate];exact Ii _
   obtain⟨R,hP,hR⟩:=z1n (φ:=φ) (m:=m) (z:=z) (lu:=1) (lv:=0) (lq:=2) (nq:=k+1) (cu:=m+2+k+1) (cv:=m+2+1) (eu:=false) (ev':=false) (vf:=vf) (X:=vl B64 xs*2^z) (P:=Ah (vl B64 xs) (vl B64 ys)) eP eP eP v2 eP eP eP eP eP (by
    intro bs us' qs' g1 g2 s1 s2 l1' l2' hX' z8A;refine⟨_,?_,rfl⟩;exact YR z1 l1' eP eP eP s1 s2 l2' eP eP eP hvt hX' z8A (nY v2 hBp) g1 g2) (k+1) φ [⟨c64 vf,.rw⟩,⟨c64 us,.rw⟩,⟨c64 (List.replicate (k+1) 0),.rw⟩] us (List.replicate (k+1) 0) eP (aC _) eP rfl rfl rfl u2 (MY hBp) u1 fU (by rw[hz0,dU,dU,bO,hX]) hu0 (λt ht=>by unfold dgt;rw[aB,ai eP];rfl)
   refine Ah.of ?_ hP;have hml:(mem [⟨c64 vf,Stt.rw⟩]).nx=1:=mP _;refine th (DX z9o) (th (gP (cO c)) (th ez (th fY (th (mJ h1) (th ez (th fY (th (iJ eP eP) (th (z0j rfl eP) ?_))))))));rw[show ys.length-1=m+1 by omega];refine th (fX z4) ?_;rw[hm,hk,<-fg];refine th (PL v4) ?_;rw[rH,mP];refine th (Bl (ws:=vf) rfl rfl rfl eP (aC _) eP eP eP) ?_;rw[htl];refine th (PL u4) ?_;rw[rH,mP];refine th ou (th fY (th (iJ eP eP) (th (gA eP) ?_)));rw[show m+2+k-(m+1+1)=k by omega];refine th (BI rfl eP eP) (th fY (th (iJ eP eP) ?_));rw[wA,AY,show m+2+k-(m+1+1)=k by omega];exact hR
end
variable {s:LS} {K:fK}
def yT{m:Nat}(hs:s.fit)(hm:Nat.log2 m<=1000000000):∃x s' ws,(∀K,eY pL [.n m] s K=K x s')/\HT s' x ws/\Sm B64 ws/\Tm ws/\vl B64 ws=m/\ws.length<=15625001/\More s s':=by
 by_cases h0:m=0
 ·subst h0;exact⟨.tree [] 0 true,s,[],λK=>rfl,.tr (ws:=[]),(λw hw=>by cases hw),(λw hw=>by simp at hw),rfl,by simp,More.refl s⟩
 ·obtain⟨x,s',ws,h1,h2,h3,h4,h5,h6,_⟩:=ri (m:=m) hs hm;refine⟨x,s',ws,h1,h2.ht,h3,?_,by rw[<-zK];exact h4,eP,h6⟩;intro w hw e;subst e;obtain⟨a,rfl⟩:∃a,ws=a++[0]:=by
   have hne:ws≠[]:=λe=>by subst e;simp at hw
   refine⟨ws.dropLast,?_⟩;rw[List.getLast?_eq_some_getLast hne]at hw;have:=zn1 hne;rw[cJ hw]at this;exact this.symm
  rw[zK,Ct]at h4;have e1:vl B64 a=m:=by simpa[vl]using h4
  have e2:vl B64 a<B64^a.length:=HS (λw hw=>h3 w (by simp[hw]));have e3:B64^a.length<=2^Nat.log2 m:=by
   have:(B64:Nat)=2^64:=eV;rw[this,<-zmF];refine cM eV ?_;simp only[aq,ah,dV]at h5;omega
  have e4:=zng h0;omega
def FC{ws:eZ}{x:Nat}(ht:Tm ws)(hv:vl B64 ws<=x)(hx:Nat.log2 x<=1000000000):ws.length<=15625001:=by
 by_cases hne:ws=[]
 ·subst hne;simp
 ·have h1:=S3 (B:=B64) ht hne;have hx0:x≠0:=by
   have:0<B64^(ws.length-1):=bj eV;omega
  have h2:2^(64*(ws.length-1))<=x:=by
   rw[zmF,show(2:Nat)^64=B64 from by decide];omega
  have:=(znp hx0).2 h2;omega
def HI{x y φ:Nat}(hx:Nat.log2 x<=1000000000)(hy:Nat.log2 y<=1000000000)(h0:0<y)(hφ:100000000<=φ):ii φ [.n x,.n y]=some (.tup [.n (x/y),.n (x%y)]):=by
 obtain⟨X,s1,xs,k1,hX,sx,tx,vx,lx,m1⟩:=yT (s:=s0) (m:=x) rfl hx;obtain⟨Y,s2,ys,k2,hY,sy,ty,vy,ly,m2⟩:=yT (s:=s1) (m:=y) (m1.len rfl) hy;unfold ii;refine(k1 _).trans ?_;refine(k2 _).trans ?_;have hX2:HT s2 X xs:=by
  cases hX with
  |tr=>exact .tr
  |sl hg hc hl=>exact .sl (m2.old _ _ hg) hc hl
 obtain⟨ex,ey,ls,h1,h2⟩:=yU (M:=iI φ) hX2 hY;obtain⟨s3,f1,f2,f3⟩:=wm ls s2 h2;obtain⟨qs,rs,e,e',q1,q2,q3,r1,r2,r3,g3⟩:=G4 (φ:=φ) (ex:=ex) (ey:=ey) sx sy tx ty eP eP eP eP;have hxy:x/y<=x:=dX x y;have hxm:x%y<=x:=znb x y;rw[vx,vy]at q3 r3;refine(h1 _).trans ?_;rw[g3,jY,Eg,f1];refine(iG).trans ?_;refine(iF).trans ?_;refine(pp HT.tr q1 (by have:=FC q2 (by rw[q3];exact hxy) hx;omega)).trans ?_;refine(pp HT.tr r1 (by have:=FC r2 (by rw[r3];exact hxm) hx;omega)).trans ?_;rw[zK,zK,q3,r3];rfl
def zX{x y:Nat}(hx:Nat.log2 x<=1000000000):Nat.log2 (x%y)<=1000000000:=by
 by_cases h:x%y=0
 ·rw[h];decide
 ·have h1:=zng h;have h2:x≠0:=λe=>by subst e;simp at h
  have:=(znp h2).2 (aX h1 (znb x y));omega
def HT.len{x:D}{ws:eZ}(h:HT s x ws){K:fK}:fT x s K=K (.i .i64 (.ofNat ws.length)) s:=by
 cases h<;>rfl
def z14{φ:Nat}(hφ:100000000<=φ):∀(k f x y:Nat)(xs ys:eZ)(X Y:D)(s:LS),y<=2^k->k<=1000000001->2*k+2<f->HT s X xs->HT s Y ys->Sm B64 xs->Sm B64 ys->Tm xs->Tm ys->vl B64 xs=x->vl B64 ys=y->Nat.log2 x<=1000000000->Nat.log2 y<=1000000000->
 lp li (gcF φ) f X Y s=some (.n (Nat.gcd x y)):=by
 have one:∀(f x y:Nat)(xs ys:eZ)(X Y:D)(s:LS),HT s X xs->HT s Y ys->Sm B64 xs->Sm B64 ys->Tm xs->Tm ys->vl B64 xs=x->vl B64 ys=y->Nat.log2 x<=1000000000->Nat.log2 y<=1000000000->
  (y=0->lp li (gcF φ) (f+1) X Y s=some (.n x))/\(0<y->∃(rs:eZ)(R:D)(s':LS),HT s' Y ys/\HT s' R rs/\Sm B64 rs/\Tm rs/\vl B64 rs=x%y/\lp li (gcF φ) (f+1) X Y s=lp li (gcF φ) f Y R s'):=by
  intro f x y xs ys X Y s hX hY sx sy tx ty vx vy lx ly;refine⟨λh0=>?_,λh0=>?_⟩
  ·have hys:ys=[]:=by
    cases ys with
    |nil=>rfl
    |cons a b=>
     have h1:=S3 (B:=B64) ty fU;have:0<B64^((a::b).length-1):=bj eV;omega
   subst hys;rw[ep];unfold gcF;refine th hY.len (th (qw fU) (th ez (th (pp hX sx (by have:=FC tx (zmR vx) lx;omega)) ?_)));rw[zK,vx];rfl
  ·have hyl:0<ys.length:=by
    cases ys with
    |nil=>simp[vl]at vy;omega
    |cons a b=>simp
   obtain⟨ex,ey,ls,h1,h2⟩:=yU (M:=iI φ) hX hY;obtain⟨s3,f1,f2,f3⟩:=wm ls s h2;have l1:=FC tx (zmR vx) lx;have l2:=FC ty (zmR vy) ly;obtain⟨qs,rs,e,e',q1,q2,q3,r1,r2,r3,g3⟩:=G4 (φ:=φ) (ex:=ex) (ey:=ey) sx sy tx ty eP eP eP eP;rw[vx,vy]at r3;refine⟨rs,.tree (c64 rs) rs.length e',s3,f2 _ _ hY,.tr,r1,r2,r3,?_⟩;rw[ep]
   conv=>lhs;unfold gcF
   refine th hY.len (th (oG hyl) (th fG (th (h1 _) ?_)));rw[g3,jY,Eg,f1];exact th iG iF
 intro k
 induction k with
 |zero=>
  intro f x y xs ys X Y s hk hk2 hf hX hY sx sy tx ty vx vy lx ly;obtain⟨f,rfl⟩:∃q,f=q+2:=⟨f-2,eP⟩
  rcases(show y=0\/y=1 by rw[dI]at hk;omega)with h0|h0
  ·rw[(one (f+1) x y xs ys X Y s hX hY sx sy tx ty vx vy lx ly).1 h0,h0,zmx]
  ·obtain⟨rs,R,s',a1,a2,a3,a4,a5,a6⟩:=(one (f+1) x y xs ys X Y s hX hY sx sy tx ty vx vy lx ly).2 eP;rw[a6];have hm:x%y=0:=by rw[h0,Nat.mod_one]
   rw[(one f y (x%y) ys rs Y R s' a1 a2 sy a3 ty a4 vy a5 ly (zX lx)).1 hm,h0,Nat.gcd_one_right]
 |succ k ih=>
  intro f x y xs ys X Y s hk hk2 hf hX hY sx sy tx ty vx vy lx ly;obtain⟨f,rfl⟩:∃q,f=q+2:=⟨f-2,eP⟩
  rcases bT y with h0|h0
  ·rw[(one (f+1) x y xs ys X Y s hX hY sx sy tx ty vx vy lx ly).1 h0,h0,zmx]
  ·obtain⟨rs,R,s',a1,a2,a3,a4,a5,a6⟩:=(one (f+1) x y xs ys X Y s hX hY sx sy tx ty vx vy lx ly).2 h0;have e1:Nat.gcd x y=Nat.gcd y (x%y):=by rw[dJ x y,znq y x,dJ]
   have hml:=bN x h0;rw[a6,e1];rcases bT (x%y)with g0|g0
   ·rw[(one f y (x%y) ys rs Y R s' a1 a2 sy a3 ty a4 vy a5 ly (zX lx)).1 g0,g0,zmx]
   ·obtain⟨rs2,R2,s2,b1,b2,b3,b4,b5,b6⟩:=(one f y (x%y) ys rs Y R s' a1 a2 sy a3 ty a4 vy a5 ly (zX lx)).2 g0;have e2:Nat.gcd y (x%y)=Nat.gcd (x%y) (y%(x%y)):=by rw[dJ y,znq (x%y) y,dJ]
    rw[b6,e2];refine ih f (x%y) (y%(x%y)) rs rs2 R R2 s2 ?_ eP eP b1 b2 a3 b3 a4 b4 a5 b5 (zX lx) (zX ly);have zja:=bN y g0;have h5:=cK y (x%y);have h6:1<=y/(x%y):=zmG eP g0;have h7:(x%y)*1<=(x%y)*(y/(x%y)):=ae _ h6;rw[bI]at hk;omega
def ND{x y φ:Nat}(hx:Nat.log2 x<=1000000000)(hy:Nat.log2 y<=1000000000)(hφ:gW φ):jh φ [.n x,.n y]=some (.n (Nat.gcd x y)):=by
 obtain⟨X,s1,xs,k1,hX,sx,tx,vx,lx,m1⟩:=yT (s:=s0) (m:=x) rfl hx;obtain⟨Y,s2,ys,k2,hY,sy,ty,vy,ly,m2⟩:=yT (s:=s1) (m:=y) (m1.len rfl) hy;have hX2:HT s2 X xs:=by
  cases hX with
  |tr=>exact .tr
  |sl hg hc hl=>exact .sl (m2.old _ _ hg) hc hl
 unfold jh;refine(k1 _).trans ?_;refine(k2 _).trans ?_;obtain⟨k,hk⟩:∃k,k=1000000001:=⟨_,rfl⟩
 refine z14 (φ:=φ) eP k φ x y xs ys X Y s2 ?_ eP eP hX2 hY sx sy tx ty vx vy hx hy;by_cases h0:y=0
 ·subst h0;exact aJ _
 ·exact bq ((zn3 h0).1 eP)
end
end Go.Proofs.Ev
namespace Go.Proofs.Ev
noncomputable section
abbrev Row:=List Rat
abbrev Vec:=Nat->Rat
def ent(r:Row):Vec:=λi=>r.getD i 0
inductive Sp (A:List Row):Vec->Prop
 |zero:Sp A (λ_=>0)
 |add {f:Vec} {r:Row} (h:Sp A f) (c:Rat) (hr:r∈A):Sp A (λi=>f i+c*ent r i)
section
variable {A:List Row} {f g:Vec} {r:Row}
def Sp.of(h:Sp A f)(e:∀i,f i=g i):Sp A g:=by rw[<-show f=g from funext e];exact h
def z3G(r:Row)(p:Nat):Prop:=ent r p=1/\∀c,c<p->ent r c=0
def RE(E:List (Row×Nat)):Prop:=(∀e,e∈E->z3G e.1 e.2)/\E.Pairwise (λa b=>ent a.1 b.2=0/\ent b.1 a.2=0)
end
def FE(f:Nat->Rat):Nat->Rat
 |0=>0
 |n+1=>FE f n+f n
def MW{f g:Nat->Rat}:∀{n:Nat},(∀i,i<n->f i=g i)->FE f n=FE g n
 |0,_=>rfl
 |n+1,h=>by unfold FE;rw[MW (n:=n) (λi hi=>h i eP),h n eP]
def Cx{f:Nat->Rat}:∀{n:Nat},(∀i,i<n->f i=0)->FE f n=0
 |0,_=>rfl
 |n+1,h=>by unfold FE;rw[Cx (n:=n) (λi hi=>h i eP),h n eP];grind
def lc:List Rat->List Row->Vec
 |c::cs,r::rows=>λi=>c*ent r i+lc cs rows i
 |_,_=>λ_=>0
def pvt(r:Row):Nat:=r.findIdx (λx=>decide (x≠0))
def scl(r:Row)(c:Rat):Row:=r.map (λx=>x*c)
def nrm(r:Row):Row:=scl r (ent r (pvt r))⁻¹
section
variable {r l:Row} {i N:Nat} {E out rows:List Row}
def yW(h:r.length<=i):ent r i=0:=by unfold ent;rw[aB,ai h];rfl
def pr(r:Row):Row×Nat:=(r,pvt r)
def RE'(E:List Row):Prop:=RE (E.map pr)
structure EI (N:Nat) (rows out:List Row):Prop where
 len:∀l,l∈out->l.length=N
 sub:∀l,l∈out->Sp rows (ent l)
 sup:∀r,r∈rows->Sp out (ent r)
 red:RE' out
def RE'.lead(h:RE' out)(hl:l∈out):z3G l (pvt l):=h.1 (pr l) (zn0 hl)
end
section
variable {l:Row} {i n:Nat}
def Ux:ent (l.take n) i=if i<n then ent l i else 0:=by
 unfold ent;simp only[aB,cN];by_cases h:i<n
 ·rw[aF h,aF h]
 ·rw[aG h,aG h];rfl
end
section
variable {r l:Row} {c:Rat} {N col:Nat} {rows z8G:List Row} {done:List (Row×Nat)}
structure RI (N col:Nat) (z8G rows:List Row) (done:List (Row×Nat)):Prop where
 len:∀l,l∈rows->l.length=N
 dlen:∀e,e∈done->e.1.length=N
 zer:∀l,l∈rows->∀c,c<col->ent l c=0
 low:∀e,e∈done->e.2<col
 red:RE done
 sub:∀l,l∈rows->Sp z8G (ent l)
 dsub:∀e,e∈done->Sp z8G (ent e.1)
 sup:∀r,r∈z8G->Sp (rows++done.map Prod.fst) (ent r)
end
section
end
section
end
def IB(N:Nat)(x:Rat):Prop:=∃z:Int,x=(z:Rat)/\z.natAbs<=N
section
variable {N M D E:Nat} {x y:Rat}
def z0Z(hx:IB N x)(hy:IB M y):IB (N+M) (x+y):=by
 obtain⟨a,rfl,ha⟩:=hx;obtain⟨b,rfl,hb⟩:=hy;exact⟨a+b,by rw[zmU],eP⟩
def z0Y(hx:IB N x)(hy:IB M y):IB (N*M) (x*y):=by
 obtain⟨a,rfl,ha⟩:=hx;obtain⟨b,rfl,hb⟩:=hy;exact⟨a*b,by rw[dB],by rw[bt];exact ay ha hb⟩
def Xo:IB 0 (0:Rat):=⟨0,rfl,by simp⟩
def Xp(h:IB N x)(hn:N<=M):IB M x:=by
 obtain⟨a,rfl,ha⟩:=h;exact⟨a,rfl,eP⟩
def XJ(x:Rat):x*(x.den:Rat)=(x.num:Rat):=by
 have hd:(x.den:Rat)≠0:=λh0=>x.den_nz (Rat.natCast_eq_zero_iff.1 h0);have h1:=Rat.mkRat_self x;rw[Rat.mkRat_eq_div,Rat.div_def]at h1;have h2:=zn5 _ hd;have h3:(x.num:Rat)*(x.den:Rat)⁻¹ *(x.den:Rat)=x*(x.den:Rat):=by rw[h1]
 rw[<-h3,Rat.mul_assoc,h2,dz]
def TM{A B:Int}(hA:A≠0)(h:x*(A:Rat)=(B:Rat)):x.num.natAbs<=B.natAbs/\x.den<=A.natAbs:=by
 have hx:x*(x.den:Rat)=(x.num:Rat):=XJ x;have e1:(x.num:Rat)*(A:Rat)=(B:Rat)*((x.den:Int):Rat):=by
  rw[<-hx,<-h];show x*(x.den:Rat)*(A:Rat)=x*(A:Rat)*(x.den:Rat);grind
 rw[<-dB,<-dB]at e1;have e2:x.num*A=B*(x.den:Int):=dx.1 e1;have e3:x.num.natAbs*A.natAbs=B.natAbs*x.den:=by
  have:=congrArg Int.natAbs e2;rw[bt,bt]at this;exact this
 have hc:Nat.Coprime x.num.natAbs x.den:=x.reduced;have h1:x.den∣A.natAbs:=hc.symm.dvd_of_dvd_mul_left ⟨B.natAbs,by rw[e3,aL]⟩;have h2:x.num.natAbs∣B.natAbs:=hc.dvd_of_dvd_mul_right ⟨A.natAbs,by rw[e3]⟩;have hA':0<A.natAbs:=eP;refine⟨?_,Nat.le_of_dvd hA' h1⟩;by_cases hB:B.natAbs=0
 ·rw[hB,bX]at e3;rcases Nat.mul_eq_zero.1 e3 with h3|h3<;>omega
 ·exact Nat.le_of_dvd eP h2
def Ht(D N:Nat)(x:Rat):Prop:=IB N (x*(D:Rat))
def Xu(hD:0<D)(h:Ht D N x):x.num.natAbs<=N/\x.den<=D:=by
 obtain⟨z,h1,h2⟩:=h;have:=TM (x:=x) (A:=(D:Int)) (B:=z) eP h1;omega
def z11(hx:Ht D N x)(hy:Ht D M y):Ht D (N+M) (x+y):=by
 unfold Ht;rw[Rat.add_mul];exact z0Z hx hy
def Va(a b:Nat):((a*b:Nat):Rat)=(a:Rat)*(b:Rat):=Rat.natCast_mul a b
def U6(hx:Ht D N x)(hy:Ht E M y):Ht (D*E) (N*M) (x*y):=by
 unfold Ht;rw[Va,show x*y*((D:Rat)*(E:Rat))=(x*D)*(y*E) by grind];exact z0Y hx hy
def PR(h:Ht D N x)(hn:N<=M):Ht D M x:=Xp h hn
def PP:Ht D 0 (0:Rat):=by unfold Ht;rw[Rat.zero_mul];exact Xo
end
structure RB where
 v:Vec
 D:Nat
 N:Nat
def RB.ok(r:RB):Prop:=∀i,Ht r.D r.N (r.v i)
def ib:Row->Row
 |[]=>[]
 |x::l=>if ib l=[]/\x=0 then[]else x::ib l
section
variable {f g l:Row} {x:Rat} {i k n:Nat}
def AM:∀{l:Row},(∀i,ent l i=0)->ib l=[]
 |[],_=>rfl
 |x::l,h=>by
  unfold ib;rw[aF ⟨AM λi=>h (i+1),h 0⟩]
def lst(n:Nat)(v:Vec):Row:=(List.range n).map v
def uo{v:Vec}:(lst n v).length=n:=by simp[lst]
def CW{v:Vec}:ent (lst n v) i=if i<n then v i else 0:=by
 unfold ent lst;simp only[aB,af];by_cases h:i<n
 ·rw[cf h,aF h];rfl
 ·rw[ai (by simp;omega),aG h];rfl
def Ts:lst l.length (ent l)=l:=by
 refine cr (by simp[lst]) λi hi hj=>?_;simp only[lst,cZ,cn];unfold ent;rw[aB,aE hj];rfl
def Qj(f g:Row):Vec:=λk=>FE (λi=>if i<=k then ent f i*ent g (k-i)else 0) f.length
def wf(f g:Row):Row:=ib (lst (f.length+g.length-1) (Qj f g))
def Tg(h:f.length+g.length-1<=k):Qj f g k=0:=Cx λi hi=>by
 by_cases h1:i<=k
 ·rw[aF h1,yW (r:=g) eP];grind
 ·rw[aG h1]
def stV(g:Row)(k:Nat)(f:Vec):Vec:=λi=>if k<=i then f i-f (k+g.length-1)*(ent g (g.length-1))⁻¹ *ent g (i-k)else f i
def z2q(g:Row):Nat->Vec->Vec
 |0,f=>f
 |k+1,f=>z2q g k (stV g k f)
def TP(g f:Row):Row:=ib (lst (g.length-1) (z2q g (f.length+1-g.length) (ent f)))
end
section
variable {bs:fQ} {l o n z:Nat} {cs zero:fN} {d x y:D} {K:fK} {b c:Bool} {s:LS} {a m:Nat}
def XZ{F:Blk->Rs}:iq (mem bs) l F=ob bs[l]? F:=by rw[oB,mK]
def om(h:cs.all one=true):jB (.agg cs) (mem bs) K=K (.ptr bs.length 0) (mem (bs++[⟨cs,.rw⟩])):=by
 show vcK (.agg cs) (λcs=>sP cs (lh (mem bs) ⟨cs,.rw⟩ λs'=>K (.ptr (mem bs).nx 0) s'))=_;rw[zJ];show sP cs _=_;rw[sY h,kI,mP];rfl
def Ac:ff zero (mem bs) K=K (.ptr bs.length 0) (mem (bs++[⟨zero,.rw⟩])):=vM
def qm:fF z (mem bs) (.ptr l o) K=ob bs[l]? λb=>cnd b.st.live (K (.ptr l (o+z)) (mem bs)) none:=by
 show(iq (mem bs) l λb=>cnd (lv b.st) (frc (Nat.add o z) λo=>K (.ptr l o) (mem bs)) none)=_;rw[XZ];cases bs[l]?with
 |none=>rfl
 |some b=>rw[jY,jY,nQ,fj];rfl
def xB:eR (mem bs) (.ptr l o) K=ob bs[l]? λb=>cnd b.st.live (ob b.cs[o]? λd=>K d (mem bs)) none:=by
 show(iq (mem bs) l λb=>cnd (lv b.st) (EN o b.cs λd=>K d (mem bs)) none)=_;rw[XZ];cases bs[l]?with
 |none=>rfl
 |some b=>rw[jY,jY,nQ,CK]
def yN:eW n (mem bs) (.ptr l o) K=ob bs[l]? λb=>cnd b.st.live (jP n (b.cs.drop o) λr=>K (.agg r) (mem bs)) none:=by
 show iq (mem bs) l (λb=>cnd (lv b.st) (jJ o b.cs λr=>jP n r λr=>K (.agg r) (mem bs)) none)=_;rw[XZ];cases bs[l]?with
 |none=>rfl
 |some b=>rw[jY,jY,nQ,gZ]
def xx{α:Type}{l:List α}{k:List α->Rs}:jP 0 l k=k []:=rfl
def xw{α:Type}{n:Nat}{x:α}{l:List α}{k:List α->Rs}:jP (n+1) (x::l) k=jP n l λr=>k (x::r):=rfl
def A6:fA n (mem bs) (.ptr l o) x K=ob bs[l]? λb=>cnd b.st.wr (cnd (Nat.beq (lA x).length n) (sP (lA x) (ob (lay o (lA x) b.cs) λcs=>K .u (mem (bs.set l ⟨cs,.rw⟩)))) none) none:=by
 show iq (mem bs) l (λb=>cnd (wr b.st) (vcK x λnew=>cnd (Nat.beq new.length n) (sP new (xU o new b.cs λcs=>oh (mem bs) l ⟨cs,.rw⟩ λs=>K .u s)) none) none)=_;rw[XZ];cases h:bs[l]?with
 |none=>rfl
 |some b=>
  rw[jY,jY,Bj,zJ,qE,vo];simp only[mD (fC h)]
def Ae{b:Bool}{l:fN}{t:Rs}:sP (.b b::l) t=sP l t:=rfl
def Ad{l:fN}{t:Rs}:sP (.n a::l) t=sP l t:=rfl
def Af{t:Rs}:sP [] t=t:=rfl
def A5:lA (.agg cs)=cs:=rfl
def z3M:lA (.n a)=[.n a]:=rfl
def qU:Stt.rw.live=true:=rfl
def v9:Stt.rw.wr=true:=rfl
def Qt{x y u' v:D}{r:fN}:lay 0 [x,y] (u'::v::r)=some (x::y::r):=rfl
def Fw{x y z u' v w:D}:lay 0 [x,y,z] [u',v,w]=some [x,y,z]:=rfl
def z4k{x y u':D}:lay 1 [x] [u',y]=some [u',x]:=rfl
def re2{own:Bool}:fO own s (.agg [.b b,.n a]) some=some (.agg [.b b,.n a]):=by cases own<;>rfl
def re3{own:Bool}:fO own s (.agg [.b b,.n a,.n m]) some=some (.agg [.b b,.n a,.n m]):=by cases own<;>rfl
def z49{own:Bool}:fO own s (.b b) some=some (.b b):=by cases own<;>rfl
def z2r{own:Bool}:fO own s (.n a) some=some (.n a):=by cases own<;>rfl
def HG{own:Bool}{k:IntKind}{i:Int}:fO own s (.i k i) some=some (.i k i):=by cases own<;>rfl
def kb3:gf [.b false,.n 0,.n 0] [(0,2,.agg [.b b,.n a]),(2,1,.n m)] s K=K (.agg [.b b,.n a,.n m]) s:=rfl
def NP:gf [.b false,.n 0] [(1,1,.n m)] s K=K (.agg [.b false,.n m]) s:=rfl
def kb2:gf [.b false,.n 0] [(0,1,.b b),(1,1,.n m)] s K=K (.agg [.b b,.n m]) s:=rfl
def I7:z9 .neq (.b b) (.b c) s K=K (.b (b != c)) s:=by cases b<;>cases c<;>rfl
def z4e:GG (.b b) s K=K (.b (!b)) s:=by cases b<;>rfl
def Ki{a m:Nat}{k:D->Rs}:sG (.n a) (.n m) k=k (.b (!(Nat.beq a m))):=by
 show gN .neq (.n a) (.n m) k=_;unfold gN;rw[gc];rfl
def Cf{a m:Nat}{k:D->Rs}:iR (.n a) (.n m) k=k (.b (Nat.beq a m)):=by
 show gN .eql (.n a) (.n m) k=_;unfold gN;rw[gc];rfl
def Ve:(true==true)=true:=eV
def QE:(false==true)=false:=eV
def Vf:(true==false)=false:=eV
def QF:(false==false)=true:=eV
def nB:s0=mem []:=rfl
def NY{w b:Bool}{op:fK->Rs}:eU (.b b) w op s K=cnd (b==w) (op K) (K (.tup []) s):=by cases b<;>cases w<;>rfl
def Mp{b:Bool}{x y:D}:iB (.b b) x y s K=cnd b (K x s) (K y s):=by cases b<;>rfl
def zA{b:Bool}{x y:Rs}:fE (.b b) x y=cnd b x y:=by cases b<;>rfl
end
def zt(x:Bool)(a:Nat):Int:=if x then -(a:Int)else a
def itz(z:Int):D:=.agg [.b (decide (z<0)),.n z.natAbs]
def rc(q:Rat):D:=.agg [.b (decide (q.num<0)),.n q.num.natAbs,.n q.den]
section
variable {x y:Bool} {a b m n k:Nat} {z w:Int} {q:Rat} {φ:Nat}
def z1B(a b:Nat):Nat.beq a b=decide (a=b):=by
 by_cases h:a=b
 ·subst h;rw[gE,ac rfl]
 ·rw[ik h,aU h]
def Ar:(zt x a).natAbs=a:=by unfold zt;cases x<;>simp
def MH:decide (zt x a<0)=(x&& !(Nat.beq a 0)):=by
 unfold zt;rw[z1B];cases x with
 |false=>simp
 |true=>
  by_cases h:a=0
  ·subst h;simp
  ·simp only[bf,Bool.true_and,aU h,Bool.not_false];exact ac eP
def z0S:itz (zt x a)=.agg [.b (x&& !(Nat.beq a 0)),.n a]:=by unfold itz;rw[Ar,MH]
def WR(z:Int):zt (decide (z<0)) z.natAbs=z:=by
 unfold zt;by_cases h:z<0
 ·rw[ac h,aF rfl];omega
 ·rw[aU h,aG fU];omega
def ZP{g:Nat}(hg:g∣a):zt x a/(g:Int)=zt x (a/g):=by
 obtain⟨c,rfl⟩:=hg;unfold zt;by_cases h0:g=0
 ·subst h0;cases x<;>simp
 ·cases x with
  |false=>
   rw[aG fU,aG fU,znh]
  |true=>
   rw[aF rfl,aF rfl,Nat.mul_div_cancel_left _ eP];rw[bZ,<-eB,Int.mul_ediv_cancel_left _ eP]
def z2u(hb:b≠0):rc (mkRat (zt x a) b)=.agg [.b (x&& !(Nat.beq (a/Nat.gcd a b) 0)),.n (a/Nat.gcd a b),.n (b/Nat.gcd a b)]:=by
 have e1:(mkRat (zt x a) b).num=zt x (a/Nat.gcd a b):=by
  rw[Rat.num_mkRat,aG hb,Ar,dJ,ZP (Nat.gcd_dvd_left a b)]
 have e2:(mkRat (zt x a) b).den=b/Nat.gcd a b:=by rw[Rat.den_mkRat,aG hb,Ar,dJ]
 unfold rc;rw[e1,e2,Ar,MH]
def Lg(k n:Nat):Prop:=Nat.log2 n<=k
def IA(h:Lg k n):n<2^(k+1):=by
 by_cases h0:n=0
 ·subst h0;exact bj eV
 ·exact(zn3 h0).1 (by unfold Lg at h;omega)
def xS(h:n<2^(k+1)):Lg k n:=by
 by_cases h0:n=0
 ·subst h0;unfold Lg;rw[show Nat.log2 0=0 from by decide];exact aJ _
 ·have:=(zn3 h0).2 h;unfold Lg;omega
def iK(h:Lg k n)(hm:m<=n):Lg k m:=xS (cR hm (IA h))
def fM{j:Nat}(h:Lg j n)(hk:j<=k):Lg k n:=aX h hk
def mB{j:Nat}(h:Lg j m)(h':Lg k n):Lg (j+k+1) (m*n):=by
 refine xS ?_;have h1:=IA h;have h2:=IA h';by_cases h0:n=0
 ·subst h0;rw[dU];exact bj eV
 ·have:=zn7 h1 (bq h2) (bj eV);rw[<-bi]at this;rw[show j+k+1+1=j+1+(k+1) by omega];exact this
def tf{j:Nat}(h:Lg j m)(h':Lg j n):Lg (j+1) (m+n):=by
 refine xS ?_;have h1:=IA h;have h2:=IA h';rw[bI];omega
def Qz(k:Nat)(q:Rat):Prop:=Lg k q.num.natAbs/\Lg k q.den
abbrev KA:Nat:=1000000000
abbrev KB:Nat:=200000000
def zS(ha:Lg KA a)(hb:Lg KA b)(hφ:gW φ):rh φ [.n a,.n b]=some (.n (Nat.gcd a b)):=by
 unfold rh;show cnd (Nat.blt a B64) (cnd (Nat.blt b B64) (frc (Nat.gcd a b) λz=>some (D.n z)) (jh φ [.n a,.n b])) (jh φ [.n a,.n b])=_;rw[ND ha hb hφ,fj];cases Nat.blt a B64<;>cases Nat.blt b B64<;>rfl
def wK(ha:Lg KA a)(hb:Lg KA b)(h0:0<b)(hφ:gW φ):kU φ [.n a,.n b]=some (.tup [.n (a/b),.n (a%b)]):=by
 unfold kU;show cnd (Nat.blt a B64) (cnd (Nat.blt b B64) (cnd (Nat.blt 0 b) (frc (Nat.div a b) λq=>frc (Nat.mod a b) λr=>some (D.tup [.n q,.n r])) none) (ii φ [.n a,.n b])) (ii φ [.n a,.n b])=_;rw[HI ha hb h0 eP,fj,fj,fk h0];cases Nat.blt a B64<;>cases Nat.blt b B64<;>rfl
def vI(ha:Lg KA a)(hb:Lg KA b):mj [.n a,.n b]=some (.n (a*b)):=by
 unfold mj;show cnd (Nat.ble (Nat.log2 a) 1000000000) (cnd (Nat.ble (Nat.log2 b) 1000000000) (frc (Nat.mul a b) λz=>some (D.n z)) none) none=_;rw[aD ha,aD hb,fj];rfl
def zV(ha:Lg KA a)(hb:Lg KA b):qC [.n a,.n b]=some (.n (a+b)):=by
 unfold qC;show cnd (Nat.ble (Nat.log2 a) 1000000000) (cnd (Nat.ble (Nat.log2 b) 1000000000) (frc (Nat.add a b) λz=>some (D.n z)) none) none=_;rw[aD ha,aD hb,fj];rfl
def vG(ha:Lg KA a)(hb:b<=a):kA [.n a,.n b]=some (.n (a-b)):=by
 unfold kA;show cnd (Nat.ble (Nat.log2 a) 1000000000) (cnd (Nat.ble b a) (frc (Nat.sub a b) λz=>some (D.n z)) none) none=_;rw[aD ha,aD hb,fj];rfl
def z0T(z:Int):itz z=it (decide (z<0)) z.natAbs:=rfl
def yq{v:Bool}{c:Nat}(h:zt v c=z):it (v&& !(Nat.beq c 0)) c=itz z:=by rw[<-h,z0S];rfl
def XE{x:Bool}{a:Nat}{k:Bool->Nat->Rs}:DL (it x a) k=k x a:=by cases x<;>rfl
def F5{k:Bool->Nat->Rs}:DL (itz z) k=k (decide (z<0)) z.natAbs:=by rw[z0T,XE]
def wk(hz:Lg KA z.natAbs)(hw:Lg KA w.natAbs):oC [itz z,itz w]=some (itz (z+w)):=by
 show DL (itz z) (λx a=>DL (itz w) λy b=>WB x a y b some)=_;rw[F5,F5];unfold WB;by_cases h1:z<0
 ·by_cases h2:w<0
  ·rw[ac h1,ac h2,zV hz hw];show kIt true (z.natAbs+w.natAbs) some=_;rw[ua,yq (z:=z+w) (by unfold zt;rw[aF rfl];omega)]
  ·rw[ac h1,aU h2];show cnd (Nat.blt z.natAbs w.natAbs) (ob (kA [.n w.natAbs,.n z.natAbs]) λc=>po c λc=>kIt false c some) (ob (kA [.n z.natAbs,.n w.natAbs]) λc=>po c λc=>kIt true c some)=_;by_cases h3:z.natAbs<w.natAbs
   ·rw[fk h3,fH,vG hw eP];show kIt false (w.natAbs-z.natAbs) some=_;rw[ua,yq (z:=z+w) (by unfold zt;rw[aG fU];omega)]
   ·rw[fw h3,fq,vG hz eP];show kIt true (z.natAbs-w.natAbs) some=_;rw[ua,yq (z:=z+w) (by unfold zt;rw[aF rfl];omega)]
 ·by_cases h2:w<0
  ·rw[aU h1,ac h2];show cnd (Nat.blt z.natAbs w.natAbs) (ob (kA [.n w.natAbs,.n z.natAbs]) λc=>po c λc=>kIt true c some) (ob (kA [.n z.natAbs,.n w.natAbs]) λc=>po c λc=>kIt false c some)=_;by_cases h3:z.natAbs<w.natAbs
   ·rw[fk h3,fH,vG hw eP];show kIt true (w.natAbs-z.natAbs) some=_;rw[ua,yq (z:=z+w) (by unfold zt;rw[aF rfl];omega)]
   ·rw[fw h3,fq,vG hz eP];show kIt false (z.natAbs-w.natAbs) some=_;rw[ua,yq (z:=z+w) (by unfold zt;rw[aG fU];omega)]
  ·rw[aU h1,aU h2,zV hz hw];show kIt false (z.natAbs+w.natAbs) some=_;rw[ua,yq (z:=z+w) (by unfold zt;rw[aG fU];omega)]
def Td(z w:Int):zt (decide (z<0) != decide (w<0)) (z.natAbs*w.natAbs)=z*w:=by
 have h1:((z.natAbs*w.natAbs:Nat):Int)=(z.natAbs:Int)*(w.natAbs:Int):=bZ _ _;unfold zt;by_cases hz:z<0<;>by_cases hw:w<0
 ·rw[ac hz,ac hw,aG fU,h1,show(z.natAbs:Int)= -z by omega,show(w.natAbs:Int)= -w by omega,Int.neg_mul_neg]
 ·rw[ac hz,aU hw,aF fU,h1,show(z.natAbs:Int)= -z by omega,show(w.natAbs:Int)=w by omega,Int.neg_mul,Int.neg_neg]
 ·rw[aU hz,ac hw,aF fU,h1,show(z.natAbs:Int)=z by omega,show(w.natAbs:Int)= -w by omega,eB,Int.neg_neg]
 ·rw[aU hz,aU hw,aG fU,h1,show(z.natAbs:Int)=z by omega,show(w.natAbs:Int)=w by omega]
def Dw(hz:Lg KA z.natAbs)(hw:Lg KA w.natAbs):lI [itz z,itz w]=some (itz (z*w)):=by
 show DL (itz z) (λx a=>DL (itz w) λy b=>ob (mj [.n a,.n b]) λc=>po c λc=>kIt (cnd x (cnd y false true) y) c some)=_;rw[F5,F5,vI hz hw];show kIt (cnd (decide (z<0)) (cnd (decide (w<0)) false true) (decide (w<0))) (z.natAbs*w.natAbs) some=_;rw[ua,show cnd (decide (z<0)) (cnd (decide (w<0)) false true) (decide (w<0))=(decide (z<0) != decide (w<0)) by cases decide (z<0)<;>cases decide (w<0)<;>rfl,yq (Td z w)]
def Du:tg [itz z]=some (itz (-z)):=by
 show DL (itz z) (λx a=>kIt (cnd x false true) a some)=_;rw[F5];show kIt (cnd (decide (z<0)) false true) z.natAbs some=_;rw[ua,show cnd (decide (z<0)) false true= !(decide (z<0)) by cases decide (z<0)<;>rfl,yq (z:= -z)];unfold zt;by_cases h:z<0
 ·rw[ac h,aG fU];omega
 ·rw[aU h,aF fU];omega
def GM{M:fP}{x:Bool}{a:Nat}{r:D}(h:M [.agg [.b x,.n a]]=some r)(hp:wg r=true):∀s K,eY M [.agg [.b x,.n a]] s K=K r s:=λs K=>fX h (by intro kk;rfl) hp
def za{M:fP}{x y:Bool}{a b:Nat}{r:D}(h:M [.agg [.b x,.n a],.agg [.b y,.n b]]=some r)(hp:wg r=true):∀s K,eY M [.agg [.b x,.n a],.agg [.b y,.n b]] s K=K r s:=λs K=>fX h (by intro kk;rfl) hp
def UY{M:fP}{x:Bool}{a m:Nat}{r:D}(h:M [.agg [.b x,.n a,.n m]]=some r)(hp:wg r=true):∀s K,eY M [.agg [.b x,.n a,.n m]] s K=K r s:=λs K=>fX h (by intro kk;rfl) hp
def UX{M:fP}{x y:Bool}{a m b n:Nat}{r:D}(h:M [.agg [.b x,.n a,.n m],.agg [.b y,.n b,.n n]]=some r)(hp:wg r=true):∀s K,eY M [.agg [.b x,.n a,.n m],.agg [.b y,.n b,.n n]] s K=K r s:=λs K=>fX h (by intro kk;rfl) hp
def zR(x:Bool)(a:Nat):∀s K,eY (fx φ) [.b x,.n a] s K=K (.agg [.b (x&& !(Nat.beq a 0)),.n a]) s:=λs K=>BR rI
def z2y(ha:Lg KA a)(hb:Lg KA b)(h0:b≠0)(hφ:gW φ):od φ [.agg [.b x,.n a],.agg [.b false,.n b]]=some (rc (mkRat (zt x a) b)):=by
 have hg:0<Nat.gcd a b:=Nat.gcd_pos_of_pos_right a eP;have hgk:Lg KA (Nat.gcd a b):=iK hb (Nat.gcd_le_right a eP);have i1:∀s K,eY (rh φ) [.n a,.n b] s K=K (.n (Nat.gcd a b)) s:=λs K=>uc (zS ha hb hφ);have i2:∀s K,eY (kU φ) [.n a,.n (Nat.gcd a b)] s K=K (.tup [.n (a/Nat.gcd a b),.n (a%Nat.gcd a b)]) s:=λs K=>J0 (wK ha hgk hg hφ);have i3:∀s K,eY (kU φ) [.n b,.n (Nat.gcd a b)] s K=K (.tup [.n (b/Nat.gcd a b),.n (b%Nat.gcd a b)]) s:=λs K=>J0 (wK hb hgk hg hφ);rw[z2u h0];unfold od;by_cases h1:Nat.gcd a b=1
 ·simp -implicitDefEqProofs only[fJ,fV,nB,om,Ac,qm,xB,yN,A6,List.all_cons,List.all_nil,one,Bool.and_self,List.length_nil,List.length_cons,List.nil_append,List.cons_append,List.getElem?_cons_zero,List.getElem?_cons_succ,jY,qU,v9,fH,fq,jn,Ki,zA,Bool.not_true,Nat.zero_add,Nat.reduceAdd,List.set_cons_zero,List.set_cons_succ,A5,Fw,Ae,Ad,Af,gE,I7,kb3,xx,xw,re3,List.drop_zero,i1,h1,zR,Bool.bne_false,Nat.div_one]
 ·simp -implicitDefEqProofs only[fJ,fV,nB,om,Ac,qm,xB,yN,A6,List.all_cons,List.all_nil,one,Bool.and_self,List.length_nil,List.length_cons,List.nil_append,List.cons_append,List.getElem?_cons_zero,List.getElem?_cons_succ,jY,qU,v9,fH,jn,Ki,zA,Bool.not_false,iG,iF,Nat.zero_add,Nat.reduceAdd,List.set_cons_zero,List.set_cons_succ,A5,z3M,Fw,z4k,Ae,Ad,Af,gE,I7,kb3,xx,xw,re3,List.drop_zero,i1,i2,i3,ik h1,zR,Bool.bne_false]
end
end
end Go.Proofs.Ev
set_option maxRecDepth 1000000
set_option maxHeartbeats 0
namespace Go.Proofs.YthljpappkomocaaGreat
open Ev
noncomputable section
def xL:eZ:=[73,136,144,241,193,137,138,139,74,75,76,77,32,79,35,10,33,143,78,34,8,9,11,93,257,209,206,157,90,161,95,83,211,325,255,327,326,328,258,329,256,207,215,260,214,168,103,92,210,160,189,158,208,159,94,156,154,88,230,231,232,188,128,162,148,97,181,174,175,123,221,129,96,224,340,204,453,406,407,341,413,410,414,345,416,408,342,343,422,411,454,409,412,344,455,415,346,270,347,271,272,273,417,348,349,274,350,275,418,419,420,456,421,351,352,276,205,278,423,424,425,354,355,353,277,225,226,254,203,229,228,356,357,358,359,360,361,362,363,279,227,187,331,263,262,332,66,403,333,130,334,264,452,451,404,335,336,337,338,265,309,310,243,398,308,266,267,222,182,184,268,269,223,183,124,125,60,27,39,61,28,26,6]
def im(F:Nat):Option Nat:=imA F xL 0
end
end Go.Proofs.YthljpappkomocaaGreat
namespace Go.Proofs.Ev
noncomputable section
def Uw(f:D->D->Bool)(xs:fN):fN->Bool:=
 List.rec (motive:=λ_=>fN->Bool) (λys=>List.rec (motive:=λ_=>Bool) true (λ_ _ _=>false) ys) (λx _ ih ys=>List.rec (motive:=λ_=>Bool) false (λy ys _=>cnd (f x y) (ih ys) false) ys) xs
def eqS(f:D->D->Bool):D->D->Bool
 |.i k (.ofNat a),.i k' (.ofNat b)=>cnd (Nat.beq (wh k) (wh k')) (Nat.beq a b) false
 |.i k (.negSucc a),.i k' (.negSucc b)=>cnd (Nat.beq (wh k) (wh k')) (Nat.beq a b) false
 |.b a,.b b=>cnd a b (not b)
 |.n a,.n b=>Nat.beq a b
 |.tree cs n e,.tree cs' n' e'=>cnd (Nat.beq n n') (cnd (cnd e e' (not e')) (Uw f cs cs') false) false
 |.agg cs,.agg cs'=>Uw f cs cs'
 |_,_=>false
def eqN(n:Nat):D->D->Bool:=Nat.rec (λ_ _=>false) (λ_ ih=>eqS ih) n
def uq{a b:Bool}(h:cnd a b false=true):a=true/\b=true:=by
 cases a<;>simp_all
def Lp{a b:Bool}(h:cnd a b (not b)=true):a=b:=by
 cases a<;>cases b<;>simp_all
def AT{f:D->D->Bool}(hf:∀x y,f x y=true->x=y):∀{xs ys:fN},Uw f xs ys=true->xs=ys
 |[],[],_=>rfl
 |x::xs,y::ys,h=>by
  obtain⟨h1,h2⟩:=uq h;rw[hf _ _ h1,AT hf h2]
 |[],_::_,h=>by cases h
 |_::_,[],h=>by cases h
def z1h{f:D->D->Bool}(hf:∀x y,f x y=true->x=y):∀{x y:D},eqS f x y=true->x=y:=by
 intro x y h;unfold eqS at h;split at h
 ·obtain⟨h1,h2⟩:=uq h;rw[xV h1,aT h2]
 ·obtain⟨h1,h2⟩:=uq h;rw[xV h1,aT h2]
 ·rw[Lp h]
 ·rw[aT h]
 ·obtain⟨h1,h2⟩:=uq h;obtain⟨h3,h4⟩:=uq h2;rw[aT h1,Lp h3,AT hf h4]
 ·rw[AT hf h]
 ·cases h
def Jd:∀(n:Nat)(x y:D),eqN n x y=true->x=y
 |0,x,y,h=>by cases h
 |n+1,x,y,h=>z1h (Jd n) h
def ti(l:eZ)(e:Bool):D:=.tree (List.rec (motive:=λ_=>fN) [] (λn _ r=>.i .i64 (.ofNat n)::r) l) l.length e
def qi(l:List (Bool×Nat))(e:Bool):D:=.tree (List.rec (motive:=λ_=>fN) [] (λp _ r=>.b p.1::.n p.2::.n 1::r) l) l.length e
def eqA(xs ys:fN):Bool:=Uw (eqN 40) xs ys
def zM(L:List (fN×D))(R:fP)(xs:fN):Option D:=
 List.rec (motive:=λ_=>Option D) (R xs) (λe _ ih=>cnd (eqA xs e.1) (some e.2) ih) L
def ME(R:Nat->fP)(L:List (fN×D)):Prop:=∀e,e∈L->∃φ,R φ e.1=some e.2
def ME.nil{R:Nat->fP}:ME R []:=λe h=>by cases h
def ME.cons{R:Nat->fP}{L:List (fN×D)}{k:fN}{v:D}{φ:Nat}(h:R φ k=some v)(hL:ME R L):ME R ((k,v)::L):=λe he=>by
 rcases bh.1 he with rfl|he
 ·exact⟨φ,h⟩
 ·exact hL e he
end
end Go.Proofs.Ev
set_option maxRecDepth 1000000
set_option maxHeartbeats 0
namespace Go.Proofs.YthljpappkomocaaGreat
open Ev
noncomputable section
def TD0(φ:Nat):qP:=λ_=>none
def sJ(φ:Nat):fP:=
 λas=>
(λ(s:LS)=>
 u1 as λc d=>
 u0 d (
 jB c s λe s=>
 ff iw s λb s=>
 eW 2 s e λf s=>
 gf iw [(0,2,f),(2,1,(.n 1))] s λg s=>
 fA 3 s b g λ_ s=>
 eW 3 s b λh _=>
 fO false s h some)) s0
def ng(φ:Nat):fP:=
 λas=>
(λ(s:LS)=>
 u1 as λc g=>
 u1 g λe h=>
 u0 h (
 ff gL s λf s=>
 eU c true (λk=>k e s) s λi s=>
 eU c true (λk=>sG i (.n 0) λd=>k d s) s λl s=>
 iB c l (.b false) s λm s=>
 gf gL [(0,1,m),(1,1,e)] s λo s=>
 fA 2 s f o λ_ s=>
 eW 2 s f λp _=>
 fO false s p some)) s0
def zE(φ:Nat)(n:wW)(o:mu)(c e f g:D)(s:LS):Rs:=(
 mb g fB λp=>
 fE p
(jn (λ(u v w y:D)(s:LS)=>
 fe y (.i .i64 (.ofNat 8)) λz=>
 o u v w z s) λl=>
 eT 1 s c f λA s=>
 eR s A λB s=>
 pP B g λC=>
 kV .u8 C s λm s=>
 fT e s λE s=>
 kH E fB λh=>
 eU h false (λk=>k m s) s λF s=>
 eU h false (λk=>kH F (.i .u8 (.ofNat 0)) λd=>k d s) s λG s=>
 iB h (.b true) G s λH s=>
 fE H
(iO 1 [(.i .u8 (.ofNat 0))] [(0,1,m)] s λI s=>
 mc 1 1 s e I λJ s=>
 l c J f g s)
(l c e f g s))
(fe f ej λK=>
 n c e K s))
def zC(φ:Nat)(e:wW)(f b d:D)(s:LS):Rs:=(
 mb d fB λg=>
 fE g
(lp jc (zE φ e) φ f b d (.i .i64 (.ofNat 24)) s)
(kS (.b2s (.c b)) s λh s=>
 fO false s h some))
def qM(φ:Nat):fP:=
 λas=>
(λ(s:LS)=>
 u1 as λb c=>
 u0 c (
 fT b s λd s=>
 fe d ej λe=>
 lp vN (zC φ) φ b gj e s)) s0
def zB(φ:Nat)(kk:fK)(f:fK)(e:D)(s:LS):Rs:=(
 fT e s λg s=>
 kH g fB λc=>
 eU c true (λk=>k e s) s λh s=>
 eU c true (λk=>k e s) s λl s=>
 eU c true (λk=>fT l s k) s λm s=>
 eU c true (λk=>fe m ej λd=>k d s) s λn s=>
 eU c true (λk=>eT 1 s h n k) s λo s=>
 eU c true (λk=>eR s o k) s λp s=>
 eU c true (λk=>iR p (.i .u64 (.ofNat 0)) λd=>k d s) s λu s=>
 iB c u (.b false) s λv s=>
 fE v
(fT e s λw s=>
 fe w ej λy=>
 iT 1 s e none (some y) none λz s=>
 f z s)
(kk e s))
def tG(φ:Nat):fN->LS->fK->Rs:=
 λas s kk=>
 u1 as λb c=>
 u0 c (
 lp (λ(_:D)(_:LS)=>none) (zB φ kk) φ b s)
def yc(φ:Nat)(h:wW)(k:jo)(b f d g e:D)(s:LS):Rs:=(
 gD e d λl=>
 fE l
(jZ g (.i .u64 (.ofNat 256)) λm=>
 kS (.index (.c b) (.c e)) s λn s=>
 kV .u64 n s λo s=>
 f7 m o λp=>
 f7 e ej λu=>
 k b f d p u s)
(iO 1 [(.i .u64 (.ofNat 0))] [(0,1,g)] s λv s=>
 mc 1 8 s f v λw s=>
 fe d (.i .i64 (.ofNat 4)) λy=>
 h b w y s))
def yb(φ:Nat)(e:wW)(f d b:D)(s:LS):Rs:=(
 kH b fB λg=>
 fE g
(fe b (.i .i64 (.ofNat 4)) λh=>
 kS (.max (.c fB) (.c h)) s λk s=>
 lp gQ (yc φ e) φ f d b (.i .u64 (.ofNat 0)) k s)
((tG φ) [d] s λl s=>
 fO true s l some))
def pH(φ:Nat):fP:=
 λas=>
(λ(s:LS)=>
 u1 as λb d=>
 u0 d (
 kS (.lens (.c b)) s λe s=>
 lp vN (yb φ) φ b gj e s)) s0
def zz(φ:Nat)(A:jo)(e l m n c:D)(s:LS):Rs:=(
 fT e s λB s=>
 gD c B λf=>
 eU f false (λk=>k c s) s λC s=>
 eU f false (λk=>k l s) s λE s=>
 eU f false (λk=>fT E s k) s λF s=>
 eU f false (λk=>gD C F λd=>k d s) s λG s=>
 iB f (.b true) G s λo s=>
 eU o false (λk=>k n s) s λH s=>
 eU o false (λk=>kH H (.i .u64 (.ofNat 0)) λd=>k d s) s λI s=>
 iB o (.b true) I s λJ s=>
 fE J
(jn (λ(p g u h v:D)(s:LS)=>
 jn (λ(K M N O w:D)(s:LS)=>
 vY w (.i .u64 (.ofNat 4294967295)) λP=>
 iO 1 [(.i .u64 (.ofNat 0))] [(0,1,P)] s λS s=>
 mc 1 8 s N S λU s=>
 pP w (.i .u64 (.ofNat 32)) λV=>
 f7 O ej λW=>
 A K M U V W s) λy=>
 fT g s λX s=>
 gD h X λY=>
 fE Y
(eT 1 s g h λZ s=>
 eR s Z λbb s=>
 f7 v bb λbc=>
 y p g u h bc s)
(y p g u h v s)) λz=>
 fT e s λbd s=>
 gD c bd λbf=>
 fE bf
(eT 1 s e c λbg s=>
 eR s bg λbh s=>
 f7 n bh λbi=>
 z e l m c bi s)
(z e l m c n s))
(eY (qM φ) [m] s λbk s=>
 fO false s bk some))
def uH(φ:Nat):fP:=
 λas=>
(λ(s:LS)=>
 u1 as λb c=>
 u1 c λd e=>
 u0 e (
 eY (pH φ) [b] s λf s=>
 eY (pH φ) [d] s λg s=>
 lp gQ (zz φ) φ f g gj (.i .u64 (.ofNat 0)) fB s)) s0
def qr(φ:Nat):fP:=λ_=>none
def rC(φ:Nat):fP:=λ_=>none
def rA(φ:Nat):fP:=
 λas=>
(λ(s:LS)=>
 u1 as λe f=>
 u1 f λg h=>
 u0 h (
 jB e s λb s=>
 jB g s λc s=>
 ff gL s λd s=>
 fF 0 s b λi s=>
 eR s i λk s=>
 fF 0 s c λl s=>
 eR s l λm s=>
 z9 .eql k m s λn s=>
 fE n
(fF 0 s b λo s=>
 eR s o λp s=>
 fF 1 s b λu s=>
 eR s u λv s=>
 fF 1 s c λw s=>
 eR s w λy s=>
 eY (uH φ) [v,y] s λz s=>
 eY (ng φ) [p,z] s λA s=>
 fA 2 s d A λ_ s=>
 eW 2 s d λB _=>
 fO false s B some)
(fF 1 s b λC s=>
 eR s C λE s=>
 fF 1 s c λF s=>
 eR s F λG s=>
 eY (qr φ) [E,G] s λH s=>
 mb H fB λI=>
 fE I
(fF 0 s b λJ s=>
 eR s J λK s=>
 fF 1 s b λM s=>
 eR s M λN s=>
 fF 1 s c λO s=>
 eR s O λP s=>
 eY (rC φ) [N,P] s λS s=>
 eY (ng φ) [K,S] s λU s=>
 fA 2 s d U λ_ s=>
 eW 2 s d λV _=>
 fO false s V some)
(fF 0 s c λW s=>
 eR s W λX s=>
 fF 1 s c λY s=>
 eR s Y λZ s=>
 fF 1 s b λbb s=>
 eR s bb λbc s=>
 eY (rC φ) [Z,bc] s λbd s=>
 eY (ng φ) [X,bd] s λbf s=>
 fA 2 s d bf λ_ s=>
 eW 2 s d λbg _=>
 fO false s bg some)))) s0
def oa(φ:Nat):fP:=λ_=>none
def jD(φ:Nat):fP:=λ_=>none
def tE(φ:Nat):fP:=λ_=>none
def kD(φ:Nat):fP:=
 λas=>
(λ(s:LS)=>
 u1 as λi l=>
 u1 l λm o=>
 u0 o (
 jB i s λc s=>
 jB m s λe s=>
 ff iw s λf s=>
 fF 2 s c λp s=>
 eR s p λu s=>
 iR u (.n 1) λg=>
 eU g true (λk=>fF 2 s e k) s λv s=>
 eU g true (λk=>eR s v k) s λw s=>
 eU g true (λk=>iR w (.n 1) λd=>k d s) s λy s=>
 iB g y (.b false) s λz s=>
 fE z
(fF 0 s c λA s=>
 eW 2 s A λB s=>
 fF 0 s e λC s=>
 eW 2 s C λE s=>
 eY (rA φ) [B,E] s λF s=>
 eY (sJ φ) [F] s λG s=>
 fA 3 s f G λ_ s=>
 eW 3 s f λH _=>
 fO false s H some)
(fF 0 s c λI s=>
 eW 2 s I λJ s=>
 eW 3 s e λK s=>
 eY (jD φ) [K] s λM s=>
 eY (oa φ) [J,M] s λN s=>
 fF 0 s e λO s=>
 eW 2 s O λP s=>
 eW 3 s c λS s=>
 eY (jD φ) [S] s λU s=>
 eY (oa φ) [P,U] s λV s=>
 eY (rA φ) [N,V] s λW s=>
 ff gL s λh s=>
 fA 2 s h W λ_ s=>
 eW 2 s h λX s=>
 eW 3 s c λY s=>
 eY (jD φ) [Y] s λZ s=>
 eW 3 s e λbb s=>
 eY (jD φ) [bb] s λbc s=>
 eY (oa φ) [Z,bc] s λbd s=>
 eY (tE φ) [X,bd] s λbf s=>
 fA 3 s f bf λ_ s=>
 eW 3 s f λbg _=>
 fO false s bg some))) s0
def rq(φ:Nat):fP:=
 λas=>
(λ(s:LS)=>
 u1 as λb c=>
 u0 c (
 vY b (.i .u64 (.ofNat 4294967295)) λd=>
 pP b (.i .u64 (.ofNat 32)) λe=>
 iO 2 [(.i .u64 (.ofNat 0))] [(0,1,d),(1,1,e)] s λf s=>
 eY (qM φ) [f] s λg s=>
 fO false s g some)) s0
def qo(φ:Nat):fP:=
 λas=>
(λ(s:LS)=>
 u1 as λe f=>
 u0 f (
 ff gL s λd s=>
 gD e fB λg=>
 fE g
(f7 e ej λh=>
 kS (.neg (.c h)) s λk s=>
 kV .u64 k s λl s=>
 f7 l (.i .u64 (.ofNat 1)) λm=>
 eY (rq φ) [m] s λn s=>
 gf gL [(0,1,(.b true)),(1,1,n)] s λo s=>
 fA 2 s d o λ_ s=>
 eW 2 s d λp _=>
 fO false s p some)
(kV .u64 e s λu s=>
 eY (rq φ) [u] s λv s=>
 gf gL [(1,1,v)] s λw s=>
 fA 2 s d w λ_ s=>
 eW 2 s d λy _=>
 fO false s y some))) s0
def ir(φ:Nat):fP:=
 λas=>
(λ(s:LS)=>
 u1 as λc d=>
 u0 d (
 ff iw s λb s=>
 eY (qo φ) [c] s λe s=>
 gf iw [(0,2,e),(2,1,(.n 1))] s λf s=>
 fA 3 s b f λ_ s=>
 eW 3 s b λg _=>
 fO false s g some)) s0
def nV(φ:Nat):fP:=
 λas=>
(λ(s:LS)=>
 u1 as λc e=>
 u1 e λd f=>
 u0 f (
 ff iw s λb s=>
 fT c s λg s=>
 gD d g λh=>
 fE h
(eT 3 s c d λi s=>
 eW 3 s i λk s=>
 fA 3 s b k λ_ s=>
 eW 3 s b λl _=>
 fO false s l some)
(eY (ir φ) lL s λm s=>
 fA 3 s b m λ_ s=>
 eW 3 s b λn _=>
 fO false s n some))) s0
def tF(φ:Nat):fP:=
 λas=>
(λ(s:LS)=>
 u1 as λc d=>
 u0 d (
 jB c s λb s=>
 fF 0 s b λe s=>
 eR s e λf s=>
 fE f
(fO false s lC some)
(fF 1 s b λg s=>
 eR s g λh s=>
 iR h (.n 0) λi=>
 fE i
(fO false s fB some)
(fO false s ej some)))) s0
def qL(φ:Nat):fP:=
 λas=>
(λ(s:LS)=>
 u1 as λb c=>
 u0 c (
 jB b s λd s=>
 fF 0 s d λe s=>
 eW 2 s e λf s=>
 eY (tF φ) [f] s λg s=>
 fO false s g some)) s0
def qn(φ:Nat)(g:tS)(f e:D)(s:LS):Rs:=(
 kH e fB λc=>
 eU c true (λk=>k f s) s λh s=>
 eU c true (λk=>k e s) s λi s=>
 eU c true (λk=>fe i ej λd=>k d s) s λl s=>
 eU c true (λk=>eT 3 s h l k) s λm s=>
 eU c true (λk=>eW 3 s m k) s λn s=>
 eU c true (λk=>eY (qL φ) [n] s k) s λo s=>
 eU c true (λk=>iR o fB λd=>k d s) s λp s=>
 iB c p (.b false) s λu s=>
 fE u
(fe e ej λv=>
 g f v s)
(iO 0 iw [] s λw s=>
 iT 3 s f none (some e) none λy s=>
 mc 3 40 s w y λz s=>
 fO true s z some))
def jH(φ:Nat):fP:=
 λas=>
(λ(s:LS)=>
 u1 as λb c=>
 u0 c (
 fT b s λd s=>
 lp li (qn φ) φ b d s)) s0
def mT(φ:Nat)(g:mu)(d e f b:D)(s:LS):Rs:=(
 fT d s λh s=>
 fT e s λi s=>
 kS (.max (.c h) (.c i)) s λk s=>
 gD b k λl=>
 fE l
(eY (nV φ) [d,b] s λm s=>
 eY (nV φ) [e,b] s λn s=>
 eY (kD φ) [m,n] s λo s=>
 iO 1 iw [(0,3,o)] s λp s=>
 mc 3 40 s f p λu s=>
 f7 b ej λv=>
 g d e u v s)
(eY (jH φ) [f] s λw s=>
 fO false s w some))
def o9(φ:Nat):fP:=
 λas=>
(λ(s:LS)=>
 u1 as λb c=>
 u1 c λd e=>
 u0 e (
 lp jc (mT φ) φ b d gj fB s)) s0
def wa(φ:Nat)(f:mu)(b c d e:D)(s:LS):Rs:=(
 gD e b λg=>
 fE g
(eY (ir φ) lL s λh s=>
 iO 1 iw [(0,3,h)] s λi s=>
 mc 3 40 s d i λk s=>
 f7 e ej λl=>
 f b c k l s)
(eW 3 s c λm s=>
 iO 1 iw [(0,3,m)] s λn s=>
 mc 3 40 s d n λo s=>
 eY (jH φ) [o] s λp s=>
 fO false s p some))
def nN(φ:Nat):fP:=
 λas=>
(λ(s:LS)=>
 u1 as λb c=>
 u1 c λd e=>
 u0 e (
 jB b s λf s=>
 lp jc (wa φ) φ d f gj fB s)) s0
def Ag(φ:Nat)(f:mu)(c d e b:D)(s:LS):Rs:=(
 gD b e λg=>
 fE g
(eT 1 s d b λh s=>
 eR s h λi s=>
 eY (ir φ) [i] s λk s=>
 iO 1 iw [(0,3,k)] s λl s=>
 mc 3 40 s c l λm s=>
 f7 b ej λn=>
 f m d e n s)
(eY (jH φ) [c] s λo s=>
 fO false s o some))
def p7(φ:Nat):fP:=
 λas=>
(λ(s:LS)=>
 u1 as λb c=>
 u0 c (
 fT b s λd s=>
 lp jc (Ag φ) φ gj b d fB s)) s0
def iN(φ:Nat):fP:=
 λas=>
(λ(s:LS)=>
 u1 as λe f=>
 u0 f (
 ff gL s λd s=>
 gD e fB λg=>
 fE g
(kV .u64 e s λh s=>
 kS (.neg (.c h)) s λi s=>
 eY (jA φ) [i] s λk s=>
 gf gL [(0,1,(.b true)),(1,1,k)] s λl s=>
 fA 2 s d l λ_ s=>
 eW 2 s d λm _=>
 fO false s m some)
(kV .u64 e s λn s=>
 eY (jA φ) [n] s λo s=>
 gf gL [(1,1,o)] s λp s=>
 fA 2 s d p λ_ s=>
 eW 2 s d λu _=>
 fO false s u some))) s0
def iZ(φ:Nat):fP:=
 λas=>
(λ(s:LS)=>
 u1 as λc d=>
 u0 d (
 ff iw s λb s=>
 eY (iN φ) [c] s λe s=>
 eY (kN φ) [e] s λf s=>
 fA 3 s b f λ_ s=>
 eW 3 s b λg _=>
 fO false s g some)) s0
def mX(φ:Nat):fP:=
 λas=>
(λ(s:LS)=>
 u1 as λb c=>
 u0 c (
 jB b s λd s=>
 fF 0 s d λe s=>
 fF 1 s e λf s=>
 eR s f λg s=>
 iR g (.n 0) λh=>
 fO false s h some)) s0
def pf(φ:Nat)(g:tS)(f e:D)(s:LS):Rs:=(
 kH e fB λc=>
 eU c true (λk=>k f s) s λh s=>
 eU c true (λk=>k e s) s λi s=>
 eU c true (λk=>fe i ej λd=>k d s) s λl s=>
 eU c true (λk=>eT 3 s h l k) s λm s=>
 eU c true (λk=>eW 3 s m k) s λn s=>
 eU c true (λk=>eY (mX φ) [n] s k) s λo s=>
 iB c o (.b false) s λp s=>
 fE p
(fe e ej λu=>
 g f u s)
(iT 3 s f none (some e) (some e) λv s=>
 fO false s v some))
def gY(φ:Nat):fP:=
 λas=>
(λ(s:LS)=>
 u1 as λb c=>
 u0 c (
 fT b s λd s=>
 lp li (pf φ) φ b d s)) s0
def uM(φ:Nat)(f:mu)(c d e b:D)(s:LS):Rs:=(
 gD b e λg=>
 fE g
(eT 1 s d b λh s=>
 eR s h λi s=>
 eY (iZ φ) [i] s λk s=>
 eT 3 s c b λl s=>
 fA 3 s l k λ_ s=>
 f7 b ej λm=>
 f c d e m s)
(eY (gY φ) [c] s λn s=>
 fO false s n some))
def kr(φ:Nat):fP:=
 λas=>
(λ(s:LS)=>
 u1 as λb d=>
 u0 d (
 fT b s λc s=>
 io 3 40 iw s c c λe s=>
 fT b s λf s=>
 lp jc (uM φ) φ e b f fB s)) s0
def ll(φ:Nat):fP:=
 λas=>
(λ(s:LS)=>
 u1 as λf g=>
 u0 g (
 kS (.lens (.c f)) s λh s=>
 kH h fB λe=>
 eU e true (λk=>k f s) s λl s=>
 eU e true (λk=>kS (.index (.c l) (.c fB)) s k) s λm s=>
 eU e true (λk=>iR m (.i .u8 (.ofNat 0)) λd=>k d s) s λn s=>
 iB e n (.b false) s λo s=>
 fE o
(fO false s ej some)
(kS (.lens (.c f)) s λp s=>
 kH p (.i .i64 (.ofNat 1024)) λu=>
 fE u
(fO false s (.i .i64 (.ofNat 4)) some)
(fO false s fB some)))) s0
def p6(φ:Nat):fP:=
 λas=>
(λ(s:LS)=>
 u0 as (
 ff gL s λb s=>
 gf gL [] s λc s=>
 fA 2 s b c λ_ s=>
 eW 2 s b λd _=>
 fO false s d some)) s0
def oN(φ:Nat):fP:=
 λas=>
(λ(s:LS)=>
 u1 as λg h=>
 u0 h (
 jB g s λe s=>
 fF 1 s e λi s=>
 eR s i λl s=>
 eY (ll φ) [l] s λf s=>
 iR f ej λm=>
 fE m
(fO false s f some)
(eW 2 s e λo s=>
 eY (p6 φ) [] s λp s=>
 RK true [1,2] o p s λc s=>
 eU c true (λk=>fF 1 s e k) s λu s=>
 eU c true (λk=>eR s u k) s λv s=>
 eU c true (λk=>iR v (.n 0) λd=>k d s) s λw s=>
 iB c w (.b false) s λy s=>
 fE y
(fO false s ej some)
(fO false s f some)))) s0
def nU(φ:Nat):fP:=
 λas=>
(λ(s:LS)=>
 u1 as λl m=>
 u0 m (
 jB l s λe s=>
 fF 0 s e λo s=>
 eW 2 s o λp s=>
 eY (oN φ) [p] s λg s=>
 fF 2 s e λu s=>
 eR s u λv s=>
 eY (ll φ) [v] s λh s=>
 iR g ej λi=>
 eU i false (λk=>k h s) s λw s=>
 eU i false (λk=>iR w ej λd=>k d s) s λy s=>
 iB i (.b true) y s λf s=>
 eU f false (λk=>fF 2 s e k) s λz s=>
 eU f false (λk=>eR s z k) s λA s=>
 eU f false (λk=>iR A (.n 0) λd=>k d s) s λB s=>
 iB f (.b true) B s λC s=>
 fE C
(fO false s ej some)
(sG g fB λE=>
 fE E
(fO false s g some)
(sG h fB λF=>
 fE F
(fO false s h some)
(fF 2 s e λG s=>
 eR s G λH s=>
 sG H (.n 1) λc=>
 eU c true (λk=>fF 0 s e k) s λI s=>
 eU c true (λk=>fF 1 s I k) s λJ s=>
 eU c true (λk=>eR s J k) s λK s=>
 eU c true (λk=>fF 2 s e k) s λM s=>
 eU c true (λk=>eR s M k) s λN s=>
 eU c true (λk=>eY (rh φ) [K,N] s k) s λO s=>
 eU c true (λk=>sG O (.n 1) λd=>k d s) s λP s=>
 iB c P (.b false) s λS s=>
 fE S
(fO false s ej some)
(fO false s fB some)))))) s0
def rp(φ:Nat)(m:mu)(e g h f:D)(s:LS):Rs:=(
 gD f h λn=>
 fE n
(eT 3 s g f λo s=>
 eW 3 s o λp s=>
 ff iw s λi s=>
 fA 3 s i p λ_ s=>
 eW 3 s i λu s=>
 eY (nU φ) [u] s λl s=>
 sG l fB λv=>
 fE v
(fO false s l some)
(f7 f ej λw=>
 m e g h w s))
(fT e s λy s=>
 kH y fB λc=>
 eU c true (λk=>k e s) s λz s=>
 eU c true (λk=>k e s) s λA s=>
 eU c true (λk=>fT A s k) s λB s=>
 eU c true (λk=>fe B ej λd=>k d s) s λC s=>
 eU c true (λk=>eT 3 s z C k) s λE s=>
 eU c true (λk=>eW 3 s E k) s λF s=>
 eU c true (λk=>eY (mX φ) [F] s k) s λG s=>
 iB c G (.b false) s λH s=>
 fE H
(fO false s ej some)
(fO false s fB some)))
def sT(φ:Nat):fP:=
 λas=>
(λ(s:LS)=>
 u1 as λb c=>
 u0 c (
 fT b s λd s=>
 kH d (.i .i64 (.ofNat 65)) λe=>
 fE e
(fO false s (.i .i64 (.ofNat 4)) some)
(fT b s λf s=>
 lp jc (rp φ) φ b b f fB s))) s0
def kR(φ:Nat):fP:=
 λas=>
(λ(s:LS)=>
 u1 as λd e=>
 u0 e (
 jB d s λb s=>
 ff iw s λc s=>
 fF 0 s b λf s=>
 fF 0 s f λg s=>
 eR s g λh s=>
 fF 2 s b λi s=>
 eR s i λk s=>
 gf gL [(0,1,h),(1,1,k)] s λl s=>
 fF 0 s b λm s=>
 fF 1 s m λn s=>
 eR s n λo s=>
 gf iw [(0,2,l),(2,1,o)] s λp s=>
 fA 3 s c p λ_ s=>
 eW 3 s c λu _=>
 fO false s u some)) s0
def gM(φ:Nat):fP:=
 λas=>
(λ(s:LS)=>
 u1 as λb c=>
 u0 c (
 xC false s b λd s=>
 fE d
(fO true s gj some)
(iO 0 iw [] s λe s=>
 mc 3 40 s e b λf s=>
 fO true s f some))) s0
def tW(φ:Nat):fP:=
 λas=>
(λ(s:LS)=>
 u1 as λd e=>
 u0 e (
 jB d s λb s=>
 ff iw s λc s=>
 fF 0 s b λf s=>
 eW 2 s f λg s=>
 eY tg [g] s λh s=>
 fF 2 s b λi s=>
 eR s i λk s=>
 gf iw [(0,2,h),(2,1,k)] s λl s=>
 fA 3 s c l λ_ s=>
 eW 3 s c λm _=>
 fO false s m some)) s0
def rW(φ:Nat):fP:=
 λas=>
(λ(s:LS)=>
 u1 as λc d=>
 u1 d λe f=>
 u0 f (
 jB c s λg s=>
 jB e s λh s=>
 ff iw s λb s=>
 eW 3 s g λi s=>
 eW 3 s h λk s=>
 eY (tW φ) [k] s λl s=>
 eY (nT φ) [i,l] s λm s=>
 fA 3 s b m λ_ s=>
 eW 3 s b λn _=>
 fO false s n some)) s0
def qN(φ:Nat)(l:kT)(m:EK)(e c f g h d i k b:D)(s:LS):Rs:=(
 gD b k λn=>
 fE n
(f7 d b λo=>
 f7 d b λp=>
 eT 3 s c p λu s=>
 eW 3 s u λv s=>
 eW 3 s i λw s=>
 eT 3 s e b λy s=>
 eW 3 s y λz s=>
 eY (ji φ) [w,z] s λA s=>
 eY (rW φ) [v,A] s λB s=>
 eT 3 s c o λC s=>
 fA 3 s C B λ_ s=>
 f7 b ej λE=>
 m e c f g h d i k E s)
(l e c f g h d s))
def nu(φ:Nat)(k:kT)(g c d e h b:D)(s:LS):Rs:=(
 mb b fB λl=>
 fE l
(jn (λ(m n o p u v:D)(s:LS)=>
 fe v ej λw=>
 k m n o p u w s) λi=>
 f7 b d λy=>
 fe y ej λz=>
 eT 3 s c z λA s=>
 eW 3 s A λB s=>
 eW 3 s h λC s=>
 eY (ji φ) [B,C] s λE s=>
 ff iw s λf s=>
 fA 3 s f E λ_ s=>
 eW 3 s f λF s=>
 eT 3 s e b λG s=>
 fA 3 s G F λ_ s=>
 eW 3 s f λH s=>
 eY (mX φ) [H] s λI s=>
 fE I
(i g c d e h b s)
(fT g s λJ s=>
 lp tR (qN φ i) φ g c d e h b f J fB s))
(eY (gY φ) [e] s λK s=>
 fe d ej λM=>
 iT 3 s c none (some M) none λN s=>
 eY (gY φ) [N] s λO s=>
 fO false s (.tup [K,O]) some))
def kb(φ:Nat)(k:ov)(f c g b d h e:D)(s:LS):Rs:=(
 gD e h λl=>
 fE l
(eY (iZ φ) lL s λm s=>
 eT 3 s d e λn s=>
 fA 3 s n m λ_ s=>
 f7 e ej λo=>
 k f c g b d h o s)
(fe b ej λp=>
 eT 3 s c p λu s=>
 eW 3 s u λv s=>
 eY (kR φ) [v] s λw s=>
 ff iw s λi s=>
 fA 3 s i w λ_ s=>
 fT f s λy s=>
 fe y b λz=>
 lp iH (nu φ) φ c g b d i z s))
def gO(φ:Nat):fP:=
 λas=>
(λ(s:LS)=>
 u1 as λb h=>
 u1 h λd i=>
 u0 i (
 eY (mS (gM φ)) [b] s λe s=>
 fT d s λc s=>
 fT b s λk s=>
 gD k c λl=>
 fE l
(fO false s (.tup [gj,e]) some)
(fT b s λm s=>
 fe m c λn=>
 f7 n ej λf=>
 io 3 40 iw s f f λg s=>
 fT g s λo s=>
 lp lK (kb φ) φ b d e c g o fB s))) s0
def rD(φ:Nat)(h:jo)(d c e f b:D)(s:LS):Rs:=(
 gD b f λi=>
 fE i
(eT 3 s e b λk s=>
 eW 3 s k λl s=>
 ff iw s λg s=>
 fA 3 s g l λ_ s=>
 eW 3 s g λm s=>
 eW 3 s d λn s=>
 eY (ji φ) [m,n] s λo s=>
 eT 3 s c b λp s=>
 fA 3 s p o λ_ s=>
 f7 b ej λu=>
 h d c e f u s)
(eY (gY φ) [c] s λv s=>
 fO false s v some))
def ig(φ:Nat):fP:=
 λas=>
(λ(s:LS)=>
 u1 as λb d=>
 u1 d λe f=>
 u0 f (
 jB e s λg s=>
 fT b s λc s=>
 io 3 40 iw s c c λh s=>
 fT b s λi s=>
 lp gQ (rD φ) φ g h b i fB s)) s0
def jg(φ:Nat):fP:=
 λas=>
(λ(s:LS)=>
 u1 as λb c=>
 u0 c (
 fT b s λd s=>
 iR d fB λe=>
 fE e
(fO false s gj some)
(fT b s λf s=>
 fe f ej λg=>
 eT 3 s b g λh s=>
 eW 3 s h λi s=>
 eY (kR φ) [i] s λk s=>
 eY (ig φ) [b,k] s λl s=>
 fO false s l some))) s0
def jl(φ:Nat)(e:tS)(c b:D)(s:LS):Rs:=(
 fT b s λf s=>
 kH f fB λg=>
 fE g
(eY (gO φ) [c,b] s λd s=>
 gB d 0 s λm s=>
 gB d 1 s λh s=>
 eY (jg φ) [b] s λi s=>
 eY (jg φ) [h] s λk s=>
 e i k s)
(eY (jg φ) [c] s λl s=>
 fO false s l some))
def mM(φ:Nat):fP:=
 λas=>
(λ(s:LS)=>
 u1 as λb c=>
 u1 c λd e=>
 u0 e (
 lp li (jl φ) φ b d s)) s0
def l7(φ:Nat)(e:wW)(c d b:D)(s:LS):Rs:=(
 fT c s λf s=>
 gD b f λg=>
 fE g
(eT 3 s c b λh s=>
 eW 3 s h λi s=>
 eY (iZ φ) [b] s λk s=>
 eY (ji φ) [i,k] s λl s=>
 iO 1 iw [(0,3,l)] s λm s=>
 mc 3 40 s d m λn s=>
 f7 b ej λo=>
 e c n o s)
(eY (gY φ) [d] s λp s=>
 fO false s p some))
def iP(φ:Nat):fP:=
 λas=>
(λ(s:LS)=>
 u1 as λb c=>
 u0 c (
 lp vN (l7 φ) φ b gj ej s)) s0
def pi(φ:Nat):fP:=
 λas=>
(λ(s:LS)=>
 u1 as λb d=>
 u0 d (
 eY (iP φ) [b] s λe s=>
 eY (mM φ) [b,e] s λf s=>
 eY (gO φ) [b,f] s λc s=>
 gB c 0 s λg s=>
 gB c 1 s λi s=>
 eY (jg φ) [g] s λh s=>
 fO false s h some)) s0
def uJ(φ:Nat):fP:=
 λas=>
(λ(s:LS)=>
 u1 as λd e=>
 u0 e (
 jB d s λb s=>
 ff [gj,fB] s λc s=>
 fF 0 s b λf s=>
 eR s f λg s=>
 fF 0 s b λh s=>
 eR s h λi s=>
 fT i s λk s=>
 fe k ej λl=>
 gf [gj,fB] [(0,1,g),(1,1,l)] s λm s=>
 fA 2 s c m λ_ s=>
 eW 2 s c λn _=>
 fO false s n some)) s0
def mN(φ:Nat):fP:=
 λas=>
(λ(s:LS)=>
 u1 as λg h=>
 u1 h λf i=>
 u0 i (
 ff iw s λe s=>
 gD f fB λc=>
 eU c false (λk=>k f s) s λl s=>
 eU c false (λk=>k g s) s λm s=>
 eU c false (λk=>fT m s k) s λn s=>
 eU c false (λk=>mb l n λd=>k d s) s λo s=>
 iB c (.b true) o s λp s=>
 fE p
(eY (iZ φ) lL s λu s=>
 fA 3 s e u λ_ s=>
 eW 3 s e λv _=>
 fO false s v some)
(eT 3 s g f λw s=>
 eW 3 s w λy s=>
 fA 3 s e y λ_ s=>
 eW 3 s e λz _=>
 fO false s z some))) s0
def s8(φ:Nat)(g:jo)(d e c f b:D)(s:LS):Rs:=(
 gD b f λh=>
 fE h
(eY (mN φ) [d,b] s λi s=>
 eY (mN φ) [e,b] s λk s=>
 eY (rW φ) [i,k] s λl s=>
 eT 3 s c b λm s=>
 fA 3 s m l λ_ s=>
 f7 b ej λn=>
 g d e c f n s)
(eY (gY φ) [c] s λo s=>
 fO false s o some))
def lZ(φ:Nat):fP:=
 λas=>
(λ(s:LS)=>
 u1 as λb g=>
 u1 g λd h=>
 u0 h (
 fT b s λi s=>
 fT d s λk s=>
 kS (.max (.c i) (.c k)) s λe s=>
 io 3 40 iw s e e λf s=>
 fT f s λl s=>
 lp gQ (s8 φ) φ b d f l fB s)) s0
def kX(φ:Nat)(m:mu)(d b e f:D)(s:LS):Rs:=(
 fT b s λn s=>
 kH n ej λo=>
 fE o
(eY (mM φ) [b,e] s λc s=>
 jn (λ(p u v w g:D)(s:LS)=>
 eY (gO φ) [u,g] s λh s=>
 gB h 0 s λi s=>
 gB h 1 s λI s=>
 eY (gO φ) [v,g] s λk s=>
 gB k 0 s λy s=>
 gB k 1 s λJ s=>
 eY (iP φ) [i] s λz s=>
 eY (lZ φ) [y,z] s λA s=>
 f7 w ej λB=>
 m p i A B s) λl=>
 fT c s λC s=>
 kH C ej λE=>
 fE E
(gf [gj,fB] [(0,1,c),(1,1,f)] s λF s=>
 iO 1 [gj,fB] [(0,2,F)] s λG s=>
 mc 2 32 s d G λH s=>
 l H b e f c s)
(l d b e f c s))
(fO false s d some))
def qY(φ:Nat):fP:=
 λas=>
(λ(s:LS)=>
 u1 as λb h=>
 u0 h (
 eY (iP φ) [b] s λc s=>
 eY (mM φ) [b,c] s λd s=>
 eY (gO φ) [b,d] s λe s=>
 gB e 0 s λf s=>
 gB e 1 s λm s=>
 eY (gO φ) [c,d] s λg s=>
 gB g 0 s λi s=>
 gB g 1 s λn s=>
 eY (iP φ) [f] s λk s=>
 eY (lZ φ) [i,k] s λl s=>
 lp jc (kX φ) φ gj f l ej s)) s0
def sR(φ:Nat)(e:tS)(c d:D)(s:LS):Rs:=(
 jZ d d λf=>
 wQ f c λg=>
 fE g
(vX c d λh=>
 iR h fB λi=>
 fE i
(fO false s (.b false) some)
(f7 d ej λk=>
 e c k s))
(kH c ej λl=>
 fO false s l some))
def wX(φ:Nat):fP:=
 λas=>
(λ(s:LS)=>
 u1 as λb c=>
 u0 c (
 lp li (sR φ) φ b pU s)) s0
def oP(φ:Nat):fP:=
 λas=>
(λ(s:LS)=>
 u1 as λd e=>
 u0 e (
 eY pL [d] s λc s=>
 fT c s λf s=>
 kH f ej λg=>
 fE g
(fO false s (.tup [(.i .u64 (.ofNat 0)),(.b false)]) some)
(fT c s λh s=>
 iR h fB λk=>
 fE k
(fO false s (.tup [(.i .u64 (.ofNat 0)),(.b true)]) some)
(eT 1 s c fB λl s=>
 eR s l λm s=>
 fO false s (.tup [m,(.b true)]) some)))) s0
def oq(φ:Nat):fP:=
 λas=>
(λ(s:LS)=>
 u1 as λn o=>
 u0 o (
 jB n s λh s=>
 fF 1 s h λp s=>
 eR s p λu s=>
 eY (oP φ) [u] s λm s=>
 gB m 0 s λf s=>
 gB m 1 s λv s=>
 GG v s λl s=>
 eU l false (λk=>k f s) s λw s=>
 eU l false (λk=>kH w (.i .u64 (.ofNat 9223372036854775808)) λd=>k d s) s λy s=>
 iB l (.b true) y s λe s=>
 eU e false (λk=>k f s) s λz s=>
 eU e false (λk=>iR z (.i .u64 (.ofNat 9223372036854775808)) λd=>k d s) s λA s=>
 eU e false (λk=>k A s) s λg s=>
 eU g true (λk=>fF 0 s h k) s λB s=>
 eU g true (λk=>eR s B k) s λC s=>
 eU g true (λk=>GG C s k) s λE s=>
 eU e false (λk=>iB g E (.b false) s k) s λF s=>
 iB e (.b true) F s λG s=>
 fE G
(fO false s (.tup [fB,(.b false)]) some)
(fF 0 s h λH s=>
 eR s H λI s=>
 fE I
(kS (.neg (.c f)) s λJ s=>
 kV .i64 J s λK s=>
 fO false s (.tup [K,(.b true)]) some)
(kV .i64 f s λM s=>
 fO false s (.tup [M,(.b true)]) some)))) s0
def rO(φ:Nat)(l:jo)(d c e f b:D)(s:LS):Rs:=(
 gD b f λm=>
 fE m
(eT 2 s e b λn s=>
 eW 2 s n λo s=>
 ff gL s λg s=>
 fA 2 s g o λ_ s=>
 eW 2 s g λp s=>
 eY (iN φ) [d] s λu s=>
 eY (gK φ) [p,u] s λh s=>
 gB h 0 s λv s=>
 gB h 1 s λw s=>
 ff gL s λy s=>
 ff gL s λi s=>
 fA 2 s y v λ_ s=>
 fA 2 s i w λ_ s=>
 eW 2 s i λz s=>
 eY (oq φ) [z] s λk s=>
 gB k 0 s λA s=>
 gB k 1 s λF s=>
 eT 1 s c b λB s=>
 fA 1 s B A λ_ s=>
 f7 b ej λC=>
 l d c e f C s)
(eY (iL φ) [c] s λE s=>
 fO false s E some))
def pw(φ:Nat):fP:=
 λas=>
(λ(s:LS)=>
 u1 as λb d=>
 u1 d λe f=>
 u0 f (
 fT b s λc s=>
 io 1 8 lL s c c λg s=>
 fT b s λh s=>
 lp gQ (rO φ) φ e g b h fB s)) s0
def uy(φ:Nat)(h:kT)(d e c f g b:D)(s:LS):Rs:=(
 gD b g λi=>
 fE i
(eT 1 s f b λk s=>
 eR s k λl s=>
 jZ l e λm=>
 vX m d λn=>
 eT 1 s c b λo s=>
 fA 1 s o n λ_ s=>
 f7 b ej λp=>
 h d e c f g p s)
(eY (iL φ) [c] s λu s=>
 fO false s u some))
def tH(φ:Nat):fP:=
 λas=>
(λ(s:LS)=>
 u1 as λd e=>
 u1 e λb f=>
 u1 f λg h=>
 u0 h (
 fT b s λc s=>
 io 1 8 lL s c c λi s=>
 fT b s λk s=>
 lp iH (uy φ) φ d g i b k fB s)) s0
def oo(φ:Nat):fP:=
 λas=>
(λ(s:LS)=>
 u1 as λc d=>
 u1 d λb e=>
 u0 e (
 fT b s λf s=>
 iR f fB λg=>
 fE g
(fO false s gj some)
(fT b s λh s=>
 fe h ej λi=>
 eT 1 s b i λk s=>
 eR s k λl s=>
 eY (p8 φ) [c,l] s λm s=>
 eY (tH φ) [c,b,m] s λn s=>
 fO false s n some))) s0
def rS(φ:Nat):fP:=
 λas=>
(λ(s:LS)=>
 u1 as λc d=>
 u1 d λe f=>
 u1 f λg h=>
 u0 h (
 eY (ko φ) [c,e,g] s λb s=>
 gB b 0 s λk s=>
 gB b 1 s λi s=>
 fO false s i some)) s0
def AA(φ:Nat)(e:wW)(b d c:D)(s:LS):Rs:=(
 fT c s λf s=>
 kH f fB λg=>
 fE g
(eY (rS φ) [b,d,c] s λh s=>
 e b c h s)
(eY (oo φ) [b,d] s λi s=>
 fO false s i some))
def xn(φ:Nat):fP:=
 λas=>
(λ(s:LS)=>
 u1 as λb c=>
 u1 c λd e=>
 u1 e λf g=>
 u0 g (
 lp vN (AA φ) φ b d f s)) s0
def nk(φ:Nat)(f:mu)(c d e b:D)(s:LS):Rs:=(
 fT d s λg s=>
 gD b g λh=>
 fE h
(vX b c λi=>
 eT 1 s d b λk s=>
 eR s k λl s=>
 jZ i l λm=>
 vX m c λn=>
 iO 1 lL [(0,1,n)] s λo s=>
 mc 1 8 s e o λp s=>
 f7 b ej λu=>
 f c d p u s)
(eY (iL φ) [e] s λv s=>
 fO false s v some))
def qb(φ:Nat):fP:=
 λas=>
(λ(s:LS)=>
 u1 as λb c=>
 u1 c λd e=>
 u0 e (
 lp jc (nk φ) φ b d gj ej s)) s0
def lm(φ:Nat):fP:=
 λas=>
(λ(s:LS)=>
 u1 as λb c=>
 u1 c λd e=>
 u1 e λf g=>
 u1 g λh i=>
 u0 i (
 eY (nj φ) [b,d,f] s λk s=>
 eY (rS φ) [b,k,h] s λl s=>
 fO false s l some)) s0
def kL(φ:Nat)(p:ov)(u:EK)(b e d h f k g l m:D)(s:LS):Rs:=(
 mb g fB λv=>
 fE v
(jn (λ(w y z A B C E F G:D)(s:LS)=>
 fe E ej λH=>
 u w y z A B C H F G s) λn=>
 eY (lm φ) [b,h,h,d] s λo s=>
 kS (.index (.c e) (.c k)) s λI s=>
 pP I g λJ=>
 vY J (.i .u8 (.ofNat 1)) λK=>
 iR K (.i .u8 (.ofNat 1)) λM=>
 fE M
(eY (lm φ) [b,o,f,d] s λN s=>
 n b e d N f k g l m s)
(n b e d o f k g l m s))
(f7 m ej λO=>
 p b e d h f l O s))
def rU(φ:Nat)(e:ov)(f g h c k d b:D)(s:LS):Rs:=(
 gD b d λl=>
 fE l
(lp tR (kL φ e) φ f g h c k b (.i .i64 (.ofNat 7)) d b s)
(fO false s c some))
def tU(φ:Nat):fP:=
 λas=>
(λ(s:LS)=>
 u1 as λb f=>
 u1 f λg h=>
 u1 h λe i=>
 u1 i λd k=>
 u0 k (
 iO 1 lL [(0,1,ej)] s λl s=>
 eY (rS φ) [b,l,d] s λm s=>
 eY (rS φ) [b,g,d] s λn s=>
 kS (.lens (.c e)) s λo s=>
 lp lK (rU φ) φ b e d m n o fB s)) s0
def ul(φ:Nat):fP:=
 λas=>
(λ(s:LS)=>
 u1 as λb d=>
 u1 d λe f=>
 u1 f λg h=>
 u0 h (
 pP b (.i .u64 (.ofNat 8)) λk=>
 kV .u8 k s λl s=>
 kV .u8 b s λm s=>
 iO 2 [(.i .u8 (.ofNat 0))] [(0,1,l),(1,1,m)] s λn s=>
 kS (.b2s (.c n)) s λo s=>
 eY (tU φ) [b,e,o,g] s λp s=>
 fO false s p some)) s0
def tt(φ:Nat)(u:B8)(v:z1F)(d b g h e i f k l m n o p c:D)(s:LS):Rs:=(
 gD c p λw=>
 fE w
(eT 1 s b f λy s=>
 eR s y λz s=>
 eT 1 s b f λA s=>
 eR s A λB s=>
 eT 1 s B c λC s=>
 eR s C λE s=>
 eT 1 s b e λF s=>
 eR s F λG s=>
 eT 1 s G c λH s=>
 eR s H λI s=>
 jZ k I λJ=>
 fe E J λK=>
 eY (mU φ) [d,K] s λM s=>
 eT 1 s z c λN s=>
 fA 1 s N M λ_ s=>
 f7 c ej λO=>
 v d b g h e i f k l m n o p O s)
(u d b g h e i l m n o s))
def rN(φ:Nat)(w:ov)(y:B8)(l f g h e i m n o c:D)(s:LS):Rs:=(
 gD c o λz=>
 fE z
(jn (λ(A B C E F G H I J K:D)(s:LS)=>
 f7 K ej λM=>
 y A B C E F G H I J M s) λu=>
 eT 1 s f c λN s=>
 eR s N λO s=>
 eT 1 s O i λP s=>
 eR s P λv s=>
 iR c e λp=>
 eU p false (λk=>k v s) s λS s=>
 eU p false (λk=>iR S fB λd=>k d s) s λU s=>
 iB p (.b true) U s λV s=>
 fE V
(u l f g h e i m n o c s)
(lp (λ(_ _ _ _ _ _ _ _ _ _ _ _ _ _:D)(_:LS)=>none) (tt φ u) φ l f g h e i c v m n o c g fB s))
(eT 1 s h i λW s=>
 fA 1 s W e λ_ s=>
 f7 e ej λX=>
 w l f g h X m n s))
def rM(φ:Nat)(n:ov)(o:xE)(e b f g c h i k l m d:D)(s:LS):Rs:=(
 gD d m λp=>
 fE p
(eT 1 s b c λu s=>
 eR s u λv s=>
 eT 1 s b c λw s=>
 eR s w λy s=>
 eT 1 s y d λz s=>
 eR s z λA s=>
 jZ A i λB=>
 vX B e λC=>
 eT 1 s v d λE s=>
 fA 1 s E C λ_ s=>
 f7 d ej λF=>
 o e b f g c h i k l m F s)
(fT b s λG s=>
 lp uh (rN φ n) φ e b f g c h k l G fB s))
def tq(φ:Nat)(u:ov)(w:B8)(g c f m e h i l n o:D)(s:LS):Rs:=(
 gD l f λp=>
 eU p true (λk=>k i s) s λy s=>
 eU p true (λk=>gD y fB λd=>k d s) s λz s=>
 iB p z (.b false) s λA s=>
 fE A
(jn (λ(B C E F G H I J K M:D)(s:LS)=>
 f7 J ej λN=>
 w B C E F G H I N K M s) λv=>
 eT 1 s c l λO s=>
 eR s O λP s=>
 eT 1 s P h λS s=>
 eR s S λU s=>
 sG U fB λV=>
 fE V
(v g c f m e h l l n o s)
(v g c f m e h i l n o s))
(gD i fB λW=>
 fE W
(u g c f m e n o s)
(eT 1 s c i λX s=>
 eR s X λY s=>
 eT 1 s c e λZ s=>
 eR s Z λbb s=>
 eT 1 s c e λbc s=>
 fA 1 s bc Y λ_ s=>
 eT 1 s c i λbd s=>
 fA 1 s bd bb λ_ s=>
 eT 1 s c e λbf s=>
 eR s bf λbg s=>
 eT 1 s bg h λbh s=>
 eR s bh λbi s=>
 eY (p8 φ) [g,bi] s λbk s=>
 lp qI (rM φ u) φ g c f m e h bk n o f fB s)))
def pW(φ:Nat)(kk:fK)(f:ov)(g h i c d e b:D)(s:LS):Rs:=(
 gD b e λk=>
 fE k
(jn (λ(l m n o p u v:D)(s:LS)=>
 f7 v ej λw=>
 f l m n o p u w s) λy=>
 eT 1 s c b λz s=>
 fA 1 s z lC λ_ s=>
 lp uh (tq φ y) φ g h i c d b lC d e b s)
(kk c s))
def vQ(φ:Nat):fN->LS->fK->Rs:=
 λas s kk=>
 u1 as λd e=>
 u1 e λc f=>
 u0 f (
 fT c s λb s=>
 io 1 8 lL s b b λg s=>
 lp lK (pW φ kk) φ d c b g fB b fB s)
def uC(φ:Nat)(l:kT)(m:EK)(f g c d e h i k b:D)(s:LS):Rs:=(
 gD b k λn=>
 fE n
(eT 1 s d e λo s=>
 eR s o λp s=>
 eT 1 s c b λu s=>
 eR s u λv s=>
 eT 1 s v e λw s=>
 eR s w λy s=>
 eT 1 s p b λz s=>
 fA 1 s z y λ_ s=>
 f7 b ej λA=>
 m f g c d e h i k A s)
(f7 i ej λB=>
 l f g c d h B s))
def uB(φ:Nat)(p:ov)(u:xE)(e h f d i k g l m n b:D)(s:LS):Rs:=(
 gD b n λv=>
 fE v
(jn (λ(w y z A B C E F G H I:D)(s:LS)=>
 f7 I ej λJ=>
 u w y z A B C E F G H J s) λo=>
 eT 1 s d b λK s=>
 eR s K λM s=>
 mb M fB λN=>
 fE N
(eT 1 s d b λO s=>
 eR s O λP s=>
 eT 1 s f P λS s=>
 eR s S λU s=>
 eT 1 s U k λV s=>
 eR s V λW s=>
 kS (.neg (.c W)) s λX s=>
 eY (mU φ) [e,X] s λY s=>
 eT 1 s g b λZ s=>
 fA 1 s Z Y λ_ s=>
 o e h f d i k g l m n b s)
(o e h f d i k g l m n b s))
(eY (iL φ) [g] s λbb s=>
 iO 1 ms [(0,1,bb)] s λbc s=>
 mc 1 24 s i bc λbd s=>
 p e h f d bd l m s))
def uA(φ:Nat)(l:ov)(g c h d e f b:D)(s:LS):Rs:=(
 gD b f λm=>
 fE m
(jn (λ(n o p u v w y:D)(s:LS)=>
 f7 y ej λz=>
 l n o p u v w z s) λi=>
 eT 1 s d b λA s=>
 eR s A λB s=>
 mb B fB λC=>
 fE C
(i g c h d e f b s)
(io 1 8 lL s c c λk s=>
 eT 1 s k b λE s=>
 fA 1 s E ej λ_ s=>
 lp qI (uB φ i) φ g c h d e b k f b c fB s))
(fO false s e some))
def tv(φ:Nat)(g:kT)(e b h c f d:D)(s:LS):Rs:=(
 gD d f λi=>
 fE i
(io 1 8 lL s b b λk s=>
 eT 1 s c d λl s=>
 fA 1 s l k λ_ s=>
 lp tR (uC φ g) φ e b h c d f d b fB s)
((vQ φ) [e,c] s λm s=>
 lp lK (uA φ) φ e b c m gj b fB s))
def rQ(φ:Nat)(l:yx)(e f c g d h i b:D)(s:LS):Rs:=(
 gD b i λm=>
 fE m
(io 1 8 lL s c c λn s=>
 eT 1 s d b λo s=>
 fA 1 s o n λ_ s=>
 eT 1 s d b λp s=>
 eR s p λu s=>
 IH 1 s u h λJ s=>
 eT 1 s d b λv s=>
 eR s v λw s=>
 eT 1 s d b λy s=>
 eR s y λz s=>
 eT 1 s z b λA s=>
 eR s A λB s=>
 fe B ej λC=>
 eY (mU φ) [e,C] s λE s=>
 eT 1 s w b λF s=>
 fA 1 s F E λ_ s=>
 eY (lm φ) [e,h,g,f] s λG s=>
 f7 b ej λH=>
 l e f c g d G i H s)
(io 1 24 ms s c c λk s=>
 fT k s λI s=>
 lp iH (tv φ) φ e c d k I fB s))
def rR(φ:Nat):fP:=
 λas=>
(λ(s:LS)=>
 u1 as λd e=>
 u1 e λb f=>
 u0 f (
 fT b s λg s=>
 fe g ej λc=>
 iO 2 lL [(0,1,fB),(1,1,ej)] s λh s=>
 eY (rS φ) [d,h,b] s λi s=>
 eY (ul φ) [d,i,b] s λk s=>
 io 1 24 ms s c c λl s=>
 iO 1 lL [(0,1,ej)] s λm s=>
 lp pu (rQ φ) φ d b c k l m c fB s)) s0
def A4(φ:Nat):fP:=
 λas=>
(λ(s:LS)=>
 u1 as λb d=>
 u1 d λc e=>
 u0 e (
 fT b s λf s=>
 gD c f λg=>
 fE g
(eT 1 s b c λh s=>
 eR s h λi s=>
 fO false s i some)
(fO false s fB some))) s0
def wt(φ:Nat)(h:kT)(c e f d g b:D)(s:LS):Rs:=(
 gD b g λi=>
 fE i
(eY (A4 φ) [e,b] s λk s=>
 f7 k c λl=>
 eY (A4 φ) [f,b] s λm s=>
 fe l m λn=>
 vX n c λo=>
 eT 1 s d b λp s=>
 fA 1 s p o λ_ s=>
 f7 b ej λu=>
 h c e f d g u s)
(eY (iL φ) [d] s λv s=>
 fO false s v some))
def w6(φ:Nat):fP:=
 λas=>
(λ(s:LS)=>
 u1 as λg h=>
 u1 h λb i=>
 u1 i λd k=>
 u0 k (
 fT b s λl s=>
 fT d s λm s=>
 kS (.max (.c l) (.c m)) s λe s=>
 io 1 8 lL s e e λf s=>
 fT f s λn s=>
 lp iH (wt φ) φ g b d f n fB s)) s0
def oY(φ:Nat)(z:yx)(A:xE)(g i e l m n o p u v f:D)(s:LS):Rs:=(
 gD f v λB=>
 fE B
(jn (λ(C E F G H I J K M N O:D)(s:LS)=>
 f7 O ej λP=>
 A C E F G H I J K M N P s) λw=>
 eT 1 s e f λS s=>
 eR s S λU s=>
 eY (xn φ) [g,U,n] s λh s=>
 fT h s λV s=>
 kH V ej λc=>
 eU c true (λk=>k h s) s λW s=>
 eU c true (λk=>fT W s k) s λX s=>
 eU c true (λk=>k e s) s λY s=>
 eU c true (λk=>k f s) s λZ s=>
 eU c true (λk=>eT 1 s Y Z k) s λbb s=>
 eU c true (λk=>eR s bb k) s λbc s=>
 eU c true (λk=>fT bc s k) s λbd s=>
 eU c true (λk=>gD X bd λd=>k d s) s λbf s=>
 iB c bf (.b false) s λbg s=>
 fE bg
(eT 1 s e f λbh s=>
 eR s bh λbi s=>
 eY (ko φ) [g,bi,h] s λy s=>
 gB y 0 s λbk s=>
 gB y 1 s λbp s=>
 eT 1 s e f λbl s=>
 fA 1 s bl h λ_ s=>
 iO 1 ms [(0,1,bk)] s λbm s=>
 mc 1 24 s e bm λbn s=>
 w g i bn l m n o p u v f s)
(w g i e l m n o p u v f s))
(f7 m ej λbo=>
 z g i e l bo o p u s))
def qz(φ:Nat)(o:kT)(p:yx)(e g f i h l m n:D)(s:LS):Rs:=(
 gD h e λc=>
 eU c true (λk=>k f s) s λu s=>
 eU c true (λk=>fT u s k) s λv s=>
 eU c true (λk=>k g s) s λw s=>
 eU c true (λk=>fT w s k) s λy s=>
 eU c true (λk=>gD v y λd=>k d s) s λz s=>
 iB c z (.b false) s λA s=>
 fE A
(iO 1 lL [(0,1,h)] s λB s=>
 eY (iL φ) [B] s λC s=>
 eY (w6 φ) [e,i,C] s λE s=>
 fT f s λF s=>
 lp qI (oY φ p) φ e g f i h E l m n F fB s)
(o e g f l m n s))
def lT(φ:Nat)(k:kT)(f g c d e b:D)(s:LS):Rs:=(
 gD b e λl=>
 fE l
(jn (λ(m n o p u v:D)(s:LS)=>
 f7 v ej λw=>
 k m n o p u w s) λh=>
 eT 1 s d b λy s=>
 eR s y λi s=>
 fT i s λz s=>
 gD z pU λA=>
 fE A
(h f g c d e b s)
(lp pu (qz φ h) φ f g c i fB d e b s))
(fO false s c some))
def n7(φ:Nat):fP:=
 λas=>
(λ(s:LS)=>
 u1 as λc e=>
 u1 e λd f=>
 u0 f (
 eY (rR φ) [c,d] s λb s=>
 iO 1 ms [(0,1,d)] s λg s=>
 fT b s λh s=>
 lp iH (lT φ) φ c b g b h fB s)) s0
def nF(φ:Nat)(w:jo)(g f h l c:D)(s:LS):Rs:=(
 gD l (.i .i64 (.ofNat 5)) λo=>
 eU o true (λk=>k h s) s λy s=>
 eU o true (λk=>kH y ej λd=>k d s) s λz s=>
 iB o z (.b false) s λp s=>
 eU p true (λk=>k c s) s λA s=>
 eU p true (λk=>wQ A (.i .i64 (.ofNat 65521)) λd=>k d s) s λB s=>
 iB p B (.b false) s λC s=>
 fE C
(jn (λ(E F G H I:D)(s:LS)=>
 f7 I ej λJ=>
 w E F G H J s) λm=>
 eY (wX φ) [c] s λK s=>
 GG K s λM s=>
 fE M
(m g f h l c s)
(eY (pw φ) [g,c] s λn s=>
 fT n s λN s=>
 fT g s λO s=>
 sG N O λe=>
 eU e false (λk=>k c s) s λP s=>
 eU e false (λk=>k n s) s λS s=>
 eU e false (λk=>k c s) s λU s=>
 eU e false (λk=>k n s) s λV s=>
 eU e false (λk=>eY (qb φ) [U,V] s k) s λW s=>
 eU e false (λk=>eY (xn φ) [P,S,W] s k) s λX s=>
 eU e false (λk=>fT X s k) s λY s=>
 eU e false (λk=>sG Y ej λd=>k d s) s λZ s=>
 iB e (.b true) Z s λbb s=>
 fE bb
(m g f h l c s)
(f7 l ej λu=>
 eY (oo φ) [c,n] s λbc s=>
 eY (rR φ) [c,bc] s λbd s=>
 fT bd s λv s=>
 gD v h λbf=>
 fE bf
(m g c v u c s)
(m g f h u c s))))
(iR f fB λbg=>
 fE bg
(fO false s (.tup [fB,gj]) some)
(eY (pw φ) [g,f] s λbh s=>
 eY (oo φ) [f,bh] s λbi s=>
 eY (n7 φ) [f,bi] s λbk s=>
 fO false s (.tup [f,bk]) some)))
def tu(φ:Nat):fP:=
 λas=>
(λ(s:LS)=>
 u1 as λb c=>
 u0 c (
 fT b s λd s=>
 lp gQ (nF φ) φ b fB d fB pU s)) s0
def rX(φ:Nat):fP:=
 λas=>
(λ(s:LS)=>
 u1 as λb f=>
 u0 f (
 xW b (.i .i64 (.ofNat 8)) λg=>
 f7 g ej λd=>
 io 1 1 [(.i .u8 (.ofNat 0))] s d d λe s=>
 vX b (.i .i64 (.ofNat 8)) λh=>
 BQ (.i .u8 (.ofNat 1)) h λk=>
 eT 1 s e fB λl s=>
 fA 1 s l k λ_ s=>
 kS (.b2s (.c e)) s λm s=>
 fO false s m some)) s0
def ux(φ:Nat)(k:kT)(f d b g h e:D)(s:LS):Rs:=(
 gD e h λl=>
 fE l
(eT 2 s g e λm s=>
 eW 2 s m λn s=>
 ff gL s λi s=>
 fA 2 s i n λ_ s=>
 eW 2 s b λo s=>
 fF 1 s i λp s=>
 eR s p λu s=>
 gf gL [(1,1,u)] s λv s=>
 eY oC [o,v] s λw s=>
 fA 2 s b w λ_ s=>
 f7 e ej λy=>
 k f d b g h y s)
(eW 2 s b λz s=>
 fT f s λA s=>
 fe A ej λB=>
 kS (.max (.c B) (.c fB)) s λC s=>
 eY (rX φ) [C] s λE s=>
 gf gL [(1,1,E)] s λF s=>
 eY lI [z,F] s λG s=>
 fA 2 s d G λ_ s=>
 eW 2 s d λH _=>
 fO false s H some))
def w5(φ:Nat):fP:=
 λas=>
(λ(s:LS)=>
 u1 as λb c=>
 u0 c (
 ff gL s λd s=>
 ff gL s λe s=>
 fT b s λf s=>
 lp iH (ux φ) φ b d e b f fB s)) s0
def oM(φ:Nat):fP:=
 λas=>
(λ(s:LS)=>
 u1 as λb d=>
 u0 d (
 ff gL s λc s=>
 fT b s λe s=>
 fe e ej λf=>
 eT 2 s b f λg s=>
 eW 2 s g λh s=>
 fA 2 s c h λ_ s=>
 eW 2 s c λi _=>
 fO false s i some)) s0
def mL(φ:Nat)(kk:fK)(g:tS)(f e:D)(s:LS):Rs:=(
 kH e fB λc=>
 eU c true (λk=>k f s) s λh s=>
 eU c true (λk=>k e s) s λi s=>
 eU c true (λk=>fe i ej λd=>k d s) s λl s=>
 eU c true (λk=>eT 2 s h l k) s λm s=>
 eU c true (λk=>fF 1 s m k) s λo s=>
 eU c true (λk=>eR s o k) s λp s=>
 eU c true (λk=>iR p (.n 0) λd=>k d s) s λu s=>
 iB c u (.b false) s λv s=>
 fE v
(fe e ej λw=>
 g f w s)
(iT 2 s f none (some e) (some e) λy s=>
 kk y s))
def oL(φ:Nat):fN->LS->fK->Rs:=
 λas s kk=>
 u1 as λb c=>
 u0 c (
 fT b s λd s=>
 lp li (mL φ kk) φ b d s)
def pD(φ:Nat)(i:jo)(d c e f b:D)(s:LS):Rs:=(
 gD b f λk=>
 fE k
(eT 2 s e b λl s=>
 eW 2 s l λm s=>
 ff gL s λg s=>
 fA 2 s g m λ_ s=>
 eW 2 s g λn s=>
 fF 0 s d λo s=>
 eW 2 s o λp s=>
 eY (gK φ) [n,p] s λh s=>
 gB h 0 s λz s=>
 gB h 1 s λu s=>
 eT 2 s c b λv s=>
 fA 2 s v u λ_ s=>
 f7 b ej λw=>
 i d c e f w s)
((oL φ) [c] s λy s=>
 fO true s y some))
def gn(φ:Nat):fP:=
 λas=>
(λ(s:LS)=>
 u1 as λd e=>
 u1 e λb f=>
 u0 f (
 jB d s λg s=>
 fT b s λc s=>
 io 2 24 gL s c c λh s=>
 fT b s λi s=>
 lp gQ (pD φ) φ g h b i fB s)) s0
def wq(φ:Nat)(n:jo)(o:B8)(e c d f g h i k l b:D)(s:LS):Rs:=(
 gD b l λp=>
 fE p
(eT 2 s k b λu s=>
 eW 2 s u λv s=>
 ff gL s λm s=>
 fA 2 s m v λ_ s=>
 f7 d b λw=>
 f7 d b λy=>
 eT 2 s c y λz s=>
 eW 2 s z λA s=>
 eW 2 s f λB s=>
 eW 2 s m λC s=>
 eY lI [B,C] s λE s=>
 eY oC [A,E] s λF s=>
 eT 2 s c w λG s=>
 fA 2 s G F λ_ s=>
 f7 b ej λH=>
 o e c d f g h i k l H s)
(n e c g h i s))
def tT(φ:Nat)(i:jo)(c d e f b:D)(s:LS):Rs:=(
 gD b f λk=>
 fE k
(jn (λ(l m o p u:D)(s:LS)=>
 f7 u ej λv=>
 i l m o p v s) λh=>
 eT 2 s e b λw s=>
 eW 2 s w λy s=>
 ff gL s λg s=>
 fA 2 s g y λ_ s=>
 fF 1 s g λz s=>
 eR s z λA s=>
 iR A (.n 0) λB=>
 fE B
(h c d e f b s)
(fT c s λC s=>
 lp uh (wq φ h) φ c d b g e f b c C fB s))
((oL φ) [d] s λE s=>
 fO false s E some))
def uE(φ:Nat):fP:=
 λas=>
(λ(s:LS)=>
 u1 as λc h=>
 u1 h λf i=>
 u0 i (
 fT c s λl s=>
 iR l fB λe=>
 eU e false (λk=>k f s) s λm s=>
 eU e false (λk=>fT m s k) s λn s=>
 eU e false (λk=>iR n fB λd=>k d s) s λo s=>
 iB e (.b true) o s λp s=>
 fE p
(fO false s gj some)
(fT c s λu s=>
 fT f s λv s=>
 f7 u v λw=>
 fe w ej λg=>
 io 2 24 gL s g g λy s=>
 fT c s λz s=>
 lp gQ (tT φ) φ f y c z fB s))) s0
def gh(φ:Nat):fP:=
 λas=>
(λ(s:LS)=>
 u1 as λb c=>
 u1 c λd e=>
 u1 e λf g=>
 u0 g (
 jB b s λh s=>
 eW 2 s h λi s=>
 eY (uE φ) [d,f] s λk s=>
 eY (gn φ) [i,k] s λl s=>
 fO false s l some)) s0
def jd(φ:Nat)(o:kT)(i g e d b f:D)(s:LS):Rs:=(
 fF 1 s d λp s=>
 eR s p λu s=>
 sG u (.n 0) λv=>
 fE v
(eW 2 s e λw s=>
 eW 2 s d λy s=>
 eY (gK φ) [w,y] s λk s=>
 gB k 0 s λz s=>
 gB k 1 s λA s=>
 ff gL s λl s=>
 ff gL s λh s=>
 fA 2 s l z λ_ s=>
 fA 2 s h A λ_ s=>
 eW 2 s d λB s=>
 eW 2 s h λC s=>
 fA 2 s e B λ_ s=>
 fA 2 s d C λ_ s=>
 kS (.apart (.c h) (.c e)) s λ_ s=>
 eW 2 s f λE s=>
 eW 2 s b λF s=>
 eW 2 s l λG s=>
 eW 2 s f λH s=>
 eY lI [G,H] s λI s=>
 eY (jM φ) [F,I] s λJ s=>
 fA 2 s b E λ_ s=>
 fA 2 s f J λ_ s=>
 o i g e d b f s)
(eW 2 s b λK s=>
 fF 0 s i λM s=>
 eW 2 s M λN s=>
 eY (gK φ) [K,N] s λm s=>
 gB m 0 s λU s=>
 gB m 1 s λO s=>
 fA 2 s b O λ_ s=>
 eW 2 s b λP s=>
 fA 2 s g P λ_ s=>
 eW 2 s g λS _=>
 fO false s S some))
def lR(φ:Nat):fP:=
 λas=>
(λ(s:LS)=>
 u1 as λi k=>
 u1 k λl m=>
 u0 m (
 jB i s λd s=>
 jB l s λe s=>
 ff gL s λn s=>
 fF 0 s d λo s=>
 eW 2 s o λp s=>
 eW 2 s e λu s=>
 ff gL s λb s=>
 ff gL s λf s=>
 fA 2 s b p λ_ s=>
 fA 2 s f u λ_ s=>
 kS (.apart (.c e) (.c b)) s λ_ s=>
 eY (iN φ) lL s λv s=>
 eY (iN φ) [ej] s λw s=>
 ff gL s λg s=>
 ff gL s λh s=>
 fA 2 s g v λ_ s=>
 fA 2 s h w λ_ s=>
 lp iH (jd φ) φ d n b f g h s)) s0
def nO(φ:Nat)(p:ov)(b g d c e h i:D)(s:LS):Rs:=(
 fT e s λu s=>
 kH u fB λv=>
 fE v
(eY (ko φ) [b,c,e] s λk s=>
 gB k 0 s λw s=>
 gB k 1 s λy s=>
 eY (nj φ) [b,w,i] s λz s=>
 eY (w6 φ) [b,h,z] s λA s=>
 p b g d e y i A s)
(fT c s λB s=>
 fe B ej λC=>
 eT 1 s c C λE s=>
 eR s E λF s=>
 eY (p8 φ) [b,F] s λl s=>
 eY (tH φ) [b,c,l] s λf s=>
 eY (ko φ) [b,d,f] s λm s=>
 gB m 0 s λG s=>
 gB m 1 s λM s=>
 eY (tH φ) [b,h,l] s λH s=>
 eY (rS φ) [b,H,G] s λn s=>
 eY (nj φ) [b,n,g] s λI s=>
 eY (w6 φ) [b,f,I] s λJ s=>
 eY (ko φ) [b,J,d] s λo s=>
 gB o 0 s λK s=>
 gB o 1 s λN s=>
 fO false s (.tup [f,n,K]) some))
def xk(φ:Nat):fP:=
 λas=>
(λ(s:LS)=>
 u1 as λc e=>
 u1 e λb f=>
 u1 f λd g=>
 u0 g (
 fT d s λh s=>
 iR h fB λi=>
 fE i
(fT b s λk s=>
 iR k fB λl=>
 fE l
(fO false s (.tup wn) some)
(eY (oo φ) [c,b] s λm s=>
 fT b s λn s=>
 fe n ej λo=>
 eT 1 s b o λp s=>
 eR s p λu s=>
 eY (p8 φ) [c,u] s λv s=>
 iO 1 lL [(0,1,v)] s λw s=>
 fO false s (.tup [m,w,gj]) some))
(iO 1 lL [(0,1,ej)] s λy s=>
 lp lK (nO φ) φ c b d b d y gj s))) s0
def rP(φ:Nat)(f:mu)(c d e b:D)(s:LS):Rs:=(
 gD b e λg=>
 fE g
(eT 1 s d b λh s=>
 eR s h λi s=>
 eY (iN φ) [i] s λk s=>
 eT 2 s c b λl s=>
 fA 2 s l k λ_ s=>
 f7 b ej λm=>
 f c d e m s)
(fO false s c some))
def px(φ:Nat):fP:=
 λas=>
(λ(s:LS)=>
 u1 as λb d=>
 u0 d (
 fT b s λc s=>
 io 2 24 gL s c c λe s=>
 fT b s λf s=>
 lp jc (rP φ) φ e b f fB s)) s0
def ki(φ:Nat)(i:kT)(d e c f g b:D)(s:LS):Rs:=(
 gD b g λk=>
 fE k
(eT 2 s f b λl s=>
 eW 2 s l λm s=>
 ff gL s λh s=>
 fA 2 s h m λ_ s=>
 eT 2 s c b λn s=>
 eW 2 s n λo s=>
 eW 2 s h λp s=>
 eY (iN φ) [d] s λu s=>
 eY lI [p,u] s λv s=>
 eY oC [o,v] s λw s=>
 eT 2 s c b λy s=>
 fA 2 s y w λ_ s=>
 f7 b ej λz=>
 i d e c f g z s)
(eW 2 s e λA s=>
 eY (gn φ) [A,c] s λB s=>
 fO false s B some))
def gm(φ:Nat):fP:=
 λas=>
(λ(s:LS)=>
 u1 as λg h=>
 u1 h λd i=>
 u1 i λb k=>
 u1 k λl m=>
 u0 m (
 jB g s λn s=>
 fT d s λo s=>
 fT b s λp s=>
 kS (.max (.c o) (.c p)) s λe s=>
 io 2 24 gL s e e λf s=>
 IH 2 s f d λv s=>
 fT b s λu s=>
 lp iH (ki φ) φ l n f b u fB s)) s0
def fm(φ:Nat):fP:=
 λas=>
(λ(s:LS)=>
 u1 as λb c=>
 u0 c (
 xC false s b λd s=>
 fE d
(fO true s gj some)
(iO 0 gL [] s λe s=>
 mc 2 24 s e b λf s=>
 fO true s f some))) s0
def pE(φ:Nat)(m:jo)(n:EK)(e f c g d h i k b:D)(s:LS):Rs:=(
 gD b k λo=>
 fE o
(eT 2 s i b λp s=>
 eW 2 s p λu s=>
 ff gL s λl s=>
 fA 2 s l u λ_ s=>
 f7 d b λv=>
 f7 d b λw=>
 eT 2 s c w λy s=>
 eW 2 s y λz s=>
 eW 2 s h λA s=>
 eW 2 s l λB s=>
 eY lI [A,B] s λC s=>
 eY (jM φ) [z,C] s λE s=>
 eT 2 s c v λF s=>
 fA 2 s F E λ_ s=>
 f7 b ej λG=>
 n e f c g d h i k G s)
(fe d ej λH=>
 m e f c g H s))
def nJ(φ:Nat)(i:jo)(b c e f d:D)(s:LS):Rs:=(
 mb d fB λk=>
 fE k
(fT b s λl s=>
 f7 d l λm=>
 fe m ej λn=>
 eT 2 s e n λo s=>
 eW 2 s o λp s=>
 fF 0 s c λu s=>
 eW 2 s u λv s=>
 eY (gK φ) [p,v] s λh s=>
 gB h 0 s λw s=>
 gB h 1 s λy s=>
 ff gL s λz s=>
 ff gL s λg s=>
 fA 2 s z w λ_ s=>
 fA 2 s g y λ_ s=>
 eW 2 s g λA s=>
 eT 2 s f d λB s=>
 fA 2 s B A λ_ s=>
 fT b s λC s=>
 lp tR (pE φ i) φ b c e f d g b C fB s)
(eW 2 s c λE s=>
 eY (gn φ) [E,f] s λF s=>
 eW 2 s c λG s=>
 fT b s λH s=>
 fe H ej λI=>
 iT 2 s e none (some I) none λJ s=>
 eY (gn φ) [G,J] s λK s=>
 fO false s (.tup [F,K]) some))
def mH(φ:Nat):fP:=
 λas=>
(λ(s:LS)=>
 u1 as λf g=>
 u1 g λb h=>
 u1 h λc i=>
 u0 i (
 jB f s λk s=>
 fT b s λl s=>
 fT c s λm s=>
 gD l m λn=>
 fE n
(fO false s (.tup [gj,b]) some)
(eY (mS (fm φ)) [b] s λo s=>
 fT b s λp s=>
 fT c s λu s=>
 fe p u λv=>
 f7 v ej λd=>
 io 2 24 gL s d d λe s=>
 fT e s λw s=>
 fe w ej λy=>
 lp gQ (nJ φ) φ c k o e y s))) s0
def rn(φ:Nat)(v:yx)(k d e f g c l m:D)(s:LS):Rs:=(
 gD m l λw=>
 fE w
(eW 2 s c λy s=>
 eW 2 s c λz s=>
 eY lI [y,z] s λA s=>
 fA 2 s c A λ_ s=>
 eW 2 s c λB s=>
 gf gL [(0,2,B)] s λC s=>
 ff gL s λb s=>
 fA 2 s b C λ_ s=>
 eW 2 s b λE s=>
 eW 2 s b λF s=>
 eY (gn φ) [F,k] s λG s=>
 eW 2 s b λH s=>
 eY (gh φ) [H,d,e] s λI s=>
 eY (gm φ) [E,G,I,lC] s λn s=>
 eW 2 s b λJ s=>
 eW 2 s b λK s=>
 eY (gh φ) [K,f,n] s λM s=>
 eY (mH φ) [J,M,e] s λo s=>
 gB o 0 s λN s=>
 gB o 1 s λO s=>
 eW 2 s b λP s=>
 eW 2 s b λS s=>
 eW 2 s b λU s=>
 eY (gh φ) [U,g,n] s λV s=>
 eW 2 s b λW s=>
 eY (gh φ) [W,N,d] s λX s=>
 eY (gm φ) [S,V,X,ej] s λY s=>
 eY (gm φ) [P,d,Y,ej] s λh s=>
 eW 2 s b λZ s=>
 eY (gm φ) [Z,e,O,ej] s λi s=>
 eW 2 s b λbb s=>
 eW 2 s b λbc s=>
 eW 2 s b λbd s=>
 eY (gh φ) [bd,f,h] s λbf s=>
 eW 2 s b λbg s=>
 eY (gh φ) [bg,g,i] s λbh s=>
 eY (gm φ) [bc,bf,bh,ej] s λbi s=>
 eY (iN φ) [ej] s λbk s=>
 iO 1 gL [(0,2,bk)] s λbl s=>
 eY (gm φ) [bb,bi,bl,lC] s λp s=>
 eW 2 s b λbm s=>
 eW 2 s b λbn s=>
 eY (gh φ) [bn,f,p] s λbo s=>
 eY (mH φ) [bm,bo,i] s λu s=>
 gB u 0 s λbp s=>
 gB u 1 s λbu s=>
 eW 2 s b λbv s=>
 eY (gm φ) [bv,f,bu,lC] s λbw s=>
 eW 2 s b λbz s=>
 eW 2 s b λbA s=>
 eW 2 s b λbB s=>
 eY (gh φ) [bB,g,p] s λbC s=>
 eW 2 s b λbE s=>
 eY (gh φ) [bE,bp,h] s λbF s=>
 eY (gm φ) [bA,bC,bF,ej] s λbG s=>
 eY (gm φ) [bz,g,bG,lC] s λbH s=>
 f7 m ej λbI=>
 v k h i bw bH c l bI s)
(fO false s (.tup [d,e]) some))
def xj(φ:Nat):fP:=
 λas=>
(λ(s:LS)=>
 u1 as λg h=>
 u1 h λc i=>
 u1 i λk l=>
 u1 l λd m=>
 u1 m λe n=>
 u0 n (
 eY (xk φ) [c,d,e] s λb s=>
 gB b 0 s λA s=>
 gB b 1 s λo s=>
 gB b 2 s λp s=>
 eY (px φ) [d] s λu s=>
 eY (px φ) [e] s λv s=>
 eY (px φ) [o] s λw s=>
 eY (px φ) [p] s λy s=>
 eY (iN φ) [c] s λz s=>
 ff gL s λf s=>
 fA 2 s f z λ_ s=>
 lp pu (rn φ) φ g u v w y f k fB s)) s0
def nE(φ:Nat)(g:jo)(c d e f b:D)(s:LS):Rs:=(
 gD b f λh=>
 fE h
(eT 1 s e b λi s=>
 eR s i λk s=>
 eY (nj φ) [c,d,k] s λl s=>
 f7 b ej λm=>
 g c l e f m s)
(fO false s d some))
def rk(φ:Nat):fP:=
 λas=>
(λ(s:LS)=>
 u1 as λc d=>
 u1 d λb e=>
 u0 e (
 iO 1 lL [(0,1,ej)] s λf s=>
 fT b s λg s=>
 lp gQ (nE φ) φ c f b g fB s)) s0
def AB(φ:Nat)(ih:fP):fP:=
 λas=>
(λ(s:LS)=>
 u1 as λf h=>
 u1 h λc i=>
 u1 i λe k=>
 u1 k λb l=>
 u0 l (
 fT b s λm s=>
 iR m ej λn=>
 fE n
(iO 1 ms [(0,1,f)] s λo s=>
 fO true s o some)
(fT b s λp s=>
 xW p pU λd=>
 iT 1 s b none (some d) none λu s=>
 eY (rk φ) [c,u] s λv s=>
 iT 1 s b (some d) none none λw s=>
 eY (rk φ) [c,w] s λy s=>
 eY (xj φ) [f,c,e,v,y] s λg s=>
 gB g 0 s λz s=>
 gB g 1 s λA s=>
 iT 1 s b none (some d) none λB s=>
 eY ih [z,c,e,B] s λC s=>
 iT 1 s b (some d) none none λE s=>
 eY ih [A,c,e,E] s λF s=>
 mc 1 24 s C F λG s=>
 fO true s G some))) s0
def zy(φ:Nat):fP:=lp (λ_=>none) (AB φ) φ
def ny(φ:Nat):fP:=
 λas=>
(λ(s:LS)=>
 u1 as λc d=>
 u1 d λe f=>
 u0 f (
 jB c s λg s=>
 jB e s λh s=>
 ff gL s λb s=>
 fF 1 s g λi s=>
 eR s i λk s=>
 fF 1 s h λl s=>
 eR s l λm s=>
 eY (rh φ) [k,m] s λn s=>
 gf gL [(1,1,n)] s λo s=>
 fA 2 s b o λ_ s=>
 eW 2 s b λp _=>
 fO false s p some)) s0
def qy(φ:Nat)(i:jo)(d c e f b:D)(s:LS):Rs:=(
 gD b f λk=>
 fE k
(eT 2 s e b λl s=>
 eW 2 s l λm s=>
 ff gL s λg s=>
 fA 2 s g m λ_ s=>
 eW 2 s g λn s=>
 eW 2 s d λo s=>
 eY (gK φ) [n,o] s λh s=>
 gB h 0 s λp s=>
 gB h 1 s λw s=>
 eT 2 s c b λu s=>
 fA 2 s u p λ_ s=>
 f7 b ej λv=>
 i d c e f v s)
(fO false s c some))
def qx(φ:Nat)(l:jo)(c b f g d:D)(s:LS):Rs:=(
 gD d g λm=>
 fE m
(eT 2 s f d λn s=>
 eW 2 s n λo s=>
 ff gL s λh s=>
 fA 2 s h o λ_ s=>
 eW 2 s b λp s=>
 eW 2 s h λu s=>
 eY (ny φ) [p,u] s λv s=>
 fA 2 s b v λ_ s=>
 f7 d ej λw=>
 l c b f g w s)
(jn (λ(e y:D)(s:LS)=>
 fT e s λi s=>
 io 2 24 gL s i i λz s=>
 fT e s λA s=>
 lp gQ (qy φ) φ y z e A fB s) λk=>
 eY (oM φ) [c] s λB s=>
 E9 0 B s λC s=>
 fE C
(eW 2 s b λE s=>
 eY tg [E] s λF s=>
 fA 2 s b F λ_ s=>
 k c b s)
(k c b s)))
def pX(φ:Nat):fP:=
 λas=>
(λ(s:LS)=>
 u1 as λb c=>
 u0 c (
 ff gL s λd s=>
 fT b s λe s=>
 lp gQ (qx φ) φ b d b e fB s)) s0
def gk(φ:Nat)(i:jo)(c d f g b:D)(s:LS):Rs:=(
 gD b g λk=>
 fE k
(jn (λ(l m n o p:D)(s:LS)=>
 f7 p ej λu=>
 i l m n o u s) λh=>
 eT 2 s f b λv s=>
 eW 2 s v λw s=>
 ff gL s λe s=>
 fA 2 s e w λ_ s=>
 eW 2 s e λy s=>
 eW 2 s e λz s=>
 eY oC [y,z] s λA s=>
 fF 0 s c λB s=>
 eW 2 s B λC s=>
 eY (jN φ) [A,C] s λE s=>
 kH E fB λF=>
 fE F
(eW 2 s e λG s=>
 fF 0 s c λH s=>
 eW 2 s H λI s=>
 eY (jM φ) [G,I] s λJ s=>
 eT 2 s d b λK s=>
 fA 2 s K J λ_ s=>
 h c d f g b s)
(h c d f g b s))
(fO false s d some))
def jR(φ:Nat):fP:=
 λas=>
(λ(s:LS)=>
 u1 as λd e=>
 u1 e λf g=>
 u0 g (
 jB d s λc s=>
 eW 2 s c λh s=>
 eY (gn φ) [h,f] s λb s=>
 fT b s λi s=>
 lp gQ (gk φ) φ c b b i fB s)) s0
def uD(φ:Nat)(l:mu)(m:yx)(e c f d g h i b:D)(s:LS):Rs:=(
 gD b i λn=>
 fE n
(eT 2 s h b λo s=>
 eW 2 s o λp s=>
 ff gL s λk s=>
 fA 2 s k p λ_ s=>
 f7 d b λu=>
 f7 d b λv=>
 eT 2 s c v λw s=>
 eW 2 s w λy s=>
 eW 2 s g λz s=>
 eW 2 s k λA s=>
 eY lI [z,A] s λB s=>
 eY (jM φ) [y,B] s λC s=>
 eT 2 s c u λE s=>
 fA 2 s E C λ_ s=>
 f7 b ej λF=>
 m e c f d g h i F s)
(l e c f d s))
def pY(φ:Nat)(l:mu)(c e f d:D)(s:LS):Rs:=(
 mb d fB λm=>
 fE m
(jn (λ(o p u v:D)(s:LS)=>
 fe v ej λw=>
 l o p u w s) λh=>
 fT c s λy s=>
 f7 d y λz=>
 fe z ej λA=>
 eT 2 s e A λB s=>
 eW 2 s B λC s=>
 eY (oM φ) [c] s λE s=>
 eY (gK φ) [C,E] s λi s=>
 gB i 0 s λF s=>
 gB i 1 s λG s=>
 ff gL s λg s=>
 ff gL s λk s=>
 fA 2 s g F λ_ s=>
 fA 2 s k G λ_ s=>
 fF 1 s k λH s=>
 eR s H λI s=>
 sG I (.n 0) λJ=>
 fE J
(fO false s (.tup [gj,(.b false)]) some)
(eW 2 s g λK s=>
 eT 2 s f d λM s=>
 fA 2 s M K λ_ s=>
 fF 1 s g λN s=>
 eR s N λO s=>
 iR O (.n 0) λP=>
 fE P
(h c e f d s)
(fT c s λS s=>
 lp pu (uD φ h) φ c e f d g c S fB s)))
((oL φ) [e] s λU s=>
 fT U s λV s=>
 iR V fB λW=>
 fO false s (.tup [f,W]) some))
def vR(φ:Nat):fP:=
 λas=>
(λ(s:LS)=>
 u1 as λb f=>
 u1 f λc g=>
 u0 g (
 fT b s λh s=>
 fT c s λi s=>
 gD h i λk=>
 fE k
(fT b s λl s=>
 iR l fB λm=>
 fO false s (.tup [gj,m]) some)
(eY (mS (fm φ)) [b] s λn s=>
 fT b s λo s=>
 fT c s λp s=>
 fe o p λu=>
 f7 u ej λd=>
 io 2 24 gL s d d λe s=>
 fT e s λv s=>
 fe v ej λw=>
 lp jc (pY φ) φ c n e w s))) s0
def kK(φ:Nat):fN->LS->fK->Rs:=λ_ _ _=>none
def Be(φ:Nat)(kk:fK)(f:wW)(d e c:D)(s:LS):Rs:=(
 mb c fB λg=>
 fE g
(jm s d λh s=>
 fF 3 s h λi s=>
 eR s i λk s=>
 eT 1 s e c λl s=>
 eR s l λm s=>
 eT 1 s e c λn s=>
 eR s n λo s=>
 f7 o ej λp=>
(kK φ) [k,m,p] s λu s=>
 jm s d λv s=>
 fF 3 s v λw s=>
 fA 1 s w u λ_ s=>
 fe c ej λy=>
 f d e y s)
(kk (.b true) s))
def n6(φ:Nat)(kk:fK)(l:kT)(c d f g h e:D)(s:LS):Rs:=(
 gD e h λm=>
 fE m
(eT 1 s g e λn s=>
 eR s n λo s=>
 jm s c λp s=>
 fF 0 s p λu s=>
 eW 2 s u λv s=>
 jm s c λw s=>
 fF 3 s w λy s=>
 eR s y λz s=>
 eT 1 s z o λA s=>
 eR s A λB s=>
 eY (gh φ) [v,f,B] s λC s=>
 f7 e ej λE=>
 l c d C g h E s)
(jm s c λF s=>
 fF 0 s F λG s=>
 eW 2 s G λH s=>
 eY (jR φ) [H,f] s λI s=>
 eY (pX φ) [I] s λi s=>
 jm s c λJ s=>
 fF 2 s J λK s=>
 eR s K λM s=>
 eY (vR φ) [M,i] s λk s=>
 gB k 0 s λN s=>
 gB k 1 s λO s=>
 GG O s λP s=>
 fE P
(kk (.b false) s)
(jm s c λS s=>
 fF 2 s S λU s=>
 fA 1 s U N λ_ s=>
 jm s c λV s=>
 fF 4 s V λW s=>
 eR s W λX s=>
 iO 1 ms [(0,1,i)] s λY s=>
 mc 1 24 s X Y λZ s=>
 jm s c λbb s=>
 fF 4 s bb λbc s=>
 fA 1 s bc Z λ_ s=>
 fT d s λbd s=>
 fe bd ej λbf=>
 lp vN (Be φ kk) φ c d bf s)))
def qJ(φ:Nat)(kk:fK)(z:ov)(c f g o p u h:D)(s:LS):Rs:=(
 gD h u λA=>
 fE A
(eT 1 s p h λB s=>
 eR s B λC s=>
 jm s c λE s=>
 fF 0 s E λF s=>
 eW 2 s F λG s=>
 jm s c λH s=>
 fF 3 s H λI s=>
 eR s I λJ s=>
 eT 1 s J C λK s=>
 eR s K λM s=>
 iT 2 s M none (some ej) (some ej) λN s=>
 eY (xf (oL φ)) [N] s λO s=>
 eY (gh φ) [G,o,O] s λP s=>
 f7 h ej λS=>
 z c f g P p u S s)
(jm s c λU s=>
 fF 0 s U λV s=>
 eW 2 s V λW s=>
 eY (jR φ) [W,o] s λi s=>
 jm s c λX s=>
 fF 2 s X λY s=>
 eR s Y λZ s=>
 eT 2 s Z fB λbb s=>
 eW 2 s bb λbc s=>
 jm s c λbd s=>
 fF 2 s bd λbf s=>
 eR s bf λbg s=>
 eY (oM φ) [bg] s λbh s=>
 eY lI [bc,bh] s λbi s=>
 ff gL s λl s=>
 fA 2 s l bi λ_ s=>
 fT i s λbk s=>
 iR bk fB λe=>
 eU e true (λk=>fF 1 s l k) s λbl s=>
 eU e true (λk=>eR s bl k) s λbm s=>
 eU e true (λk=>sG bm (.n 0) λd=>k d s) s λbn s=>
 iB e bn (.b false) s λbo s=>
 fE bo
(kk (.b false) s)
(jn (λ(bp m bu:D)(s:LS)=>
 fT m s λbv s=>
 lp iH (n6 φ kk) φ bp m bu m bv fB s) λv=>
 fT i s λbw s=>
 kH bw fB λbz=>
 fE bz
(eW 2 s l λbA s=>
 eT 2 s i fB λbB s=>
 eW 2 s bB λbC s=>
 eY (gK φ) [bA,bC] s λw s=>
 gB w 0 s λbE s=>
 gB w 1 s λbF s=>
 ff gL s λbG s=>
 ff gL s λy s=>
 fA 2 s bG bE λ_ s=>
 fA 2 s y bF λ_ s=>
 fF 1 s y λbH s=>
 eR s bH λbI s=>
 sG bI (.n 0) λbJ=>
 fE bJ
(kk (.b false) s)
(v c f g s))
(v c f g s))))
def qZ(φ:Nat):fN->LS->fK->Rs:=
 λas s kk=>
 u1 as λb d=>
 u1 d λc e=>
 u0 e (
 jm s b λf s=>
 fF 2 s f λg s=>
 eR s g λh s=>
 eY (oM φ) [h] s λi s=>
 iO 1 gL [(0,2,i)] s λk s=>
 jm s b λl s=>
 fF 2 s l λm s=>
 eR s m λn s=>
 eY (oM φ) [n] s λo s=>
 iO 1 gL [(0,2,o)] s λp s=>
 fT c s λu s=>
 lp lK (qJ φ kk) φ b c k p c u fB s)
def gS(φ:Nat):fP:=
 λas=>
(λ(s:LS)=>
 u1 as λb c=>
 u0 c (
 xC false s b λd s=>
 fE d
(fO true s gj some)
(iO 0 lL [] s λe s=>
 mc 1 8 s e b λf s=>
 fO true s f some))) s0
def mF(φ:Nat)(ih:fN->LS->fK->Rs)(kk:fK)(k:jo)(e g h f d:D)(s:LS):Rs:=(
 eR s h λl s=>
 jm s l λm s=>
 fF 3 s m λn s=>
 eR s n λo s=>
 fT o s λp s=>
 eR s g λu s=>
 fT e s λv s=>
 fe u v λw=>
 fe p w λy=>
 wQ d y λz=>
 fE z
(eR s f λA s=>
 f7 d ej λB=>
 eY (mS (gS φ)) [e] s λi s=>
 iO 1 lL [(0,1,d)] s λC s=>
 mc 1 8 s i C λE s=>
 D5 (oQ (TD0 φ) 123 (.mem ih)) false A [B,E] s λF s=>
 kS (.apart (.c f) (.c i)) s λ_ s=>
 fE F
(kk (.b true) s)
(f7 d ej λG=>
 k e g h f G s))
(kk (.b false) s))
def qO(φ:Nat)(ih:fN->LS->fK->Rs):fN->LS->fK->Rs:=
 λas s kk=>
 u1 as λe f=>
 u1 f λb g=>
 u1 g λc h=>
 u1 h λd i=>
 u1 i λk l=>
 u0 l (
 fT b s λm s=>
 eR s c λn s=>
 iR m n λo=>
 fE o
(eR s d λp s=>
(qZ φ) [p,b] s λu s=>
 kk u s)
(lp gQ (mF φ ih kk) φ b c d k e s))
def tC(φ:Nat):fN->LS->fK->Rs:=lp (λ_ _ _=>none) (qO φ) φ
def iu(φ:Nat):qP:=oQ (TD0 φ) 123 (.mem (tC φ))
def pV(φ:Nat):fN->LS->fK->Rs:=
 λas s kk=>
 u1 as λc d=>
 u1 d λe f=>
 u0 f (
 jB c s λg s=>
 jB e s λh s=>
 ff [.nf] s λb s=>
 fA 1 s b (.fn 123 [h,g,b]) λ_ s=>
 eR s b λi s=>
 D5 (iu φ) false i [fB,gj] s λk s=>
 kk k s)
def sQ(φ:Nat)(d:tS)(b c:D)(s:LS):Rs:=(
 jZ pU c λe=>
 jm s b λf s=>
 fF 3 s f λg s=>
 eR s g λh s=>
 fT h s λi s=>
 wQ e i λk=>
 fE k
((pV φ) [b,c] s λl s=>
 fE l
(d b c s)
(f7 c ej λm=>
 d b m s))
(jm s b λn s=>
 fF 4 s n λo s=>
 eR s o λp s=>
 jm s b λu s=>
 fF 2 s u λv s=>
 eR s v λw s=>
 iO 1 ms [(0,1,w)] s λy s=>
 mc 1 24 s p y λz s=>
 fO false s z some))
def ut(φ:Nat)(k:kT)(d f g h i c:D)(s:LS):Rs:=(
 eW 2 s c λl s=>
 eW 2 s h λm s=>
 eY (jN φ) [l,m] s λo s=>
 wQ o fB λp=>
 fE p
(eW 2 s c λu s=>
 eW 2 s c λv s=>
 eY lI [u,v] s λw s=>
 fA 2 s c w λ_ s=>
 f7 i ej λy=>
 k d f g h y c s)
(eW 2 s c λz s=>
 gf gL [(0,2,z)] s λA s=>
 ff gL s λe s=>
 fA 2 s e A λ_ s=>
 eW 2 s e λB s=>
 eW 2 s e λC s=>
 eY (oM φ) [d] s λE s=>
 eY (lR φ) [C,E] s λF s=>
 iO 1 gL [(0,2,F)] s λG s=>
 eY (gh φ) [B,d,G] s λH s=>
 eW 2 s e λI s=>
 eY (zy φ) [H,f,i,g] s λJ s=>
 gf [(.b false),(.n 0),gj,gj,gj] [(0,2,I),(2,1,d),(3,1,J)] s λK s=>
 jB K s λM s=>
 lp li (sQ φ) φ M ej s))
def uk(φ:Nat):fP:=
 λas=>
(λ(s:LS)=>
 u1 as λb h=>
 u0 h (
 fT b s λi s=>
 iR i pU λk=>
 fE k
(iO 1 ms [(0,1,b)] s λl s=>
 fO false s l some)
(eY (tu φ) [b] s λc s=>
 gB c 0 s λd s=>
 gB c 1 s λe s=>
 fT e s λm s=>
 wQ m ej λn=>
 fE n
(iO 1 ms [(0,1,b)] s λo s=>
 fO false s o some)
(eY (w5 φ) [b] s λp s=>
 eY (oM φ) [b] s λu s=>
 eY lI [p,u] s λv s=>
 eY (iN φ) [pU] s λw s=>
 eY lI [v,w] s λy s=>
 ff gL s λf s=>
 fA 2 s f y λ_ s=>
 eY (iN φ) [d] s λz s=>
 ff gL s λg s=>
 fA 2 s g z λ_ s=>
 lp iH (ut φ) φ b d e f fB g s)))) s0
def uw(φ:Nat)(k:jo)(e c f g b:D)(s:LS):Rs:=(
 gD b g λl=>
 fE l
(eT 3 s f b λm s=>
 eW 3 s m λn s=>
 ff iw s λd s=>
 fA 3 s d n λ_ s=>
 eW 2 s e λo s=>
 fF 2 s d λp s=>
 eR s p λu s=>
 gf gL [(1,1,u)] s λv s=>
 eY (gK φ) [o,v] s λh s=>
 gB h 0 s λw s=>
 gB h 1 s λy s=>
 ff gL s λi s=>
 ff gL s λz s=>
 fA 2 s i w λ_ s=>
 fA 2 s z y λ_ s=>
 fF 0 s d λA s=>
 eW 2 s A λB s=>
 eW 2 s i λC s=>
 eY lI [B,C] s λE s=>
 eT 2 s c b λF s=>
 fA 2 s F E λ_ s=>
 f7 b ej λG=>
 k e c f g G s)
(eY (pX φ) [c] s λH s=>
 fO false s H some))
def uv(φ:Nat)(m:jo)(c b f g d:D)(s:LS):Rs:=(
 gD d g λn=>
 fE n
(eT 3 s f d λo s=>
 eW 3 s o λp s=>
 ff iw s λh s=>
 fA 3 s h p λ_ s=>
 fF 2 s h λu s=>
 eR s u λv s=>
 gf gL [(1,1,v)] s λw s=>
 ff gL s λe s=>
 fA 2 s e w λ_ s=>
 eW 2 s e λy s=>
 eW 2 s e λz s=>
 eW 2 s b λA s=>
 eY (ny φ) [z,A] s λB s=>
 eY (gK φ) [y,B] s λi s=>
 gB i 0 s λC s=>
 gB i 1 s λE s=>
 ff gL s λk s=>
 ff gL s λF s=>
 fA 2 s k C λ_ s=>
 fA 2 s F E λ_ s=>
 eW 2 s b λG s=>
 eW 2 s k λH s=>
 eY lI [G,H] s λI s=>
 fA 2 s b I λ_ s=>
 f7 d ej λJ=>
 m c b f g J s)
(fT c s λl s=>
 io 2 24 gL s l l λK s=>
 fT c s λM s=>
 lp gQ (uw φ) φ b K c M fB s))
def wY(φ:Nat):fP:=
 λas=>
(λ(s:LS)=>
 u1 as λb d=>
 u0 d (
 eY (iN φ) [ej] s λe s=>
 ff gL s λc s=>
 fA 2 s c e λ_ s=>
 fT b s λf s=>
 lp gQ (uv φ) φ b c b f fB s)) s0
def uG(φ:Nat):fP:=λ_=>none
def s7(φ:Nat):fP:=
 λas=>
(λ(s:LS)=>
 u1 as λc d=>
 u0 d (
 fE (.b false)
(kV .u32 c s λe s=>
 eY (uG φ) [e] s λf s=>
 fO false s f some)
(eY (kC φ) [c] s λg s=>
 fO false s g some))) s0
def y9(φ:Nat):fP:=λ_=>none
def wZ(φ:Nat):fP:=
 λas=>
(λ(s:LS)=>
 u1 as λb c=>
 u1 c λd e=>
 u0 e (
 jB b s λf s=>
 jB d s λg s=>
 fF 0 s f λh s=>
 eR s h λi s=>
 fF 0 s g λk s=>
 eR s k λl s=>
 eY (y9 φ) [i,l] s λm s=>
 fO false s m some)) s0
def gu(φ:Nat):qP:=oQ (iu φ) 130 (.iso (wZ φ))
def pn(φ:Nat)(m:jo)(n:kT)(e g i h l f:D)(s:LS):Rs:=(
 kH f g λc=>
 eU c true (λk=>k h s) s λo s=>
 eU c true (λk=>k e s) s λp s=>
 eU c true (λk=>k f s) s λu s=>
 eU c true (λk=>eT 2 s p u k) s λv s=>
 eU c true (λk=>eW 2 s v k) s λw s=>
 eU c true (λk=>k e s) s λy s=>
 eU c true (λk=>k f s) s λz s=>
 eU c true (λk=>fe z ej λd=>k d s) s λA s=>
 eU c true (λk=>eT 2 s y A k) s λB s=>
 eU c true (λk=>eW 2 s B k) s λC s=>
 eU c true (λk=>D5 (gu φ) false o [w,C] s k) s λE s=>
 eU c true (λk=>gD E fB λd=>k d s) s λF s=>
 iB c F (.b false) s λG s=>
 fE G
(fe f ej λH=>
 fe f ej λI=>
 eT 2 s e I λJ s=>
 eW 2 s J λK s=>
 eT 2 s e f λM s=>
 eW 2 s M λN s=>
 eT 2 s e f λO s=>
 fA 2 s O K λ_ s=>
 eT 2 s e H λP s=>
 fA 2 s P N λ_ s=>
 fe f ej λS=>
 n e g i h l S s)
(f7 l ej λU=>
 m e g i h U s))
def lE(φ:Nat)(kk:fK)(d:jo)(e f c g b:D)(s:LS):Rs:=(
 gD b c λh=>
 fE h
(lp iH (pn φ d) φ e f c g b b s)
(kk (.tup []) s))
def iY(φ:Nat):fN->LS->fK->Rs:=
 λas s kk=>
 u1 as λc d=>
 u1 d λb e=>
 u1 e λf g=>
 u1 g λh i=>
 u0 i (
 f7 b ej λk=>
 lp gQ (lE φ kk) φ c b f h k s)
def kJ(φ:Nat):fN->LS->fK->Rs:=λ_ _ _=>none
def jU(φ:Nat):fN->LS->fK->Rs:=λ_ _ _=>none
def jf(φ:Nat):fN->LS->fK->Rs:=λ_ _ _=>none
def j6(φ:Nat):fN->LS->fK->Rs:=λ_ _ _=>none
def ic(φ:Nat):fN->LS->fK->Rs:=λ_ _ _=>none
def jL(φ:Nat):fN->LS->fK->Rs:=λ_ _ _=>none
def jz(φ:Nat):fN->LS->fK->Rs:=λ_ _ _=>none
def my(φ:Nat)(kk:fK)(ih:fN->LS->fK->Rs)(B:ov)(o h l C p E O:D)(s:LS):Rs:=(
 fe l h λF=>
 wQ F (.i .i64 (.ofNat 12)) λbn=>
 fE bn
((iY φ) [o,h,l,p] s λcl s=>
 kk (.tup []) s)
(iR C fB λbo=>
 fE bo
((kJ φ) [o,h,l,p] s λcm s=>
 kk (.tup []) s)
(jn (λ(y u v P z S U V:D)(s:LS)=>
(jf φ) [y,u,v,z] s λW s=>
 gB W 0 s λX s=>
 gB W 1 s λY s=>
 jn (λ(G H I Z J A K bb bc bp:D)(s:LS)=>
 jn (λ(e g m w f bu bv bw M:D)(s:LS)=>
 kH g fB λc=>
 eU c true (λk=>k f s) s λbz s=>
 eU c true (λk=>k e s) s λbA s=>
 eU c true (λk=>k g s) s λbB s=>
 eU c true (λk=>fe bB ej λd=>k d s) s λbC s=>
 eU c true (λk=>eT 2 s bA bC k) s λbE s=>
 eU c true (λk=>eW 2 s bE k) s λbF s=>
 eU c true (λk=>k e s) s λbG s=>
 eU c true (λk=>k M s) s λbH s=>
 eU c true (λk=>eT 2 s bG bH k) s λbI s=>
 eU c true (λk=>eW 2 s bI k) s λbJ s=>
 eU c true (λk=>D5 (gu φ) false bz [bF,bJ] s k) s λbK s=>
 eU c true (λk=>gD bK fB λd=>k d s) s λbM s=>
 eU c true (λk=>GG bM s k) s λbN s=>
 iB c bN (.b false) s λbO s=>
 fE bO
((jL φ) [e,g,m,M,f] s λbP s=>
 B e bP m w f bu bv s)
((jz φ) [e,g,m,M,f] s λbd s=>
 gB bd 0 s λn s=>
 gB bd 1 s λbf s=>
 fe n g λbg=>
 fe m n λbh=>
 xW bw (.i .i64 (.ofNat 8)) λbi=>
 gD bg bh λbS=>
 fE bS
(mb bg bi λbU=>
 ih [e,g,n,w,f] s λcn s=>
 f7 n ej λbV=>
 B e bV m w f bU bf s)
(mb bh bi λbW=>
 f7 n ej λbX=>
 ih [e,bX,m,w,f] s λco s=>
 B e g n w f bW bf s))) λbk=>
 eU A true (λk=>k K s) s λbY s=>
 iB A bY (.b false) s λN s=>
 eU N true (λk=>k bp s) s λbZ s=>
 eU N true (λk=>iR bZ ej λd=>k d s) s λcb s=>
 iB N cb (.b false) s λcc s=>
 fE cc
((ic φ) [G,H,I,J] s λcd s=>
 fE cd
(kk (.tup []) s)
(bk G H I Z J A K bb bc s))
(bk G H I Z J A K bb bc s)) λbl=>
 iR Y pU λce=>
 fE ce
((j6 φ) [y,u,v,z] s λcp s=>
 fe v ej λcf=>
 fe X u λcg=>
 fe cf cg λch=>
 bl y u v P z S U V ch ej s)
(bl y u v P z S U V X Y s)) λbm=>
 GG E s λci s=>
 fE ci
((jU φ) [o,h,l,p] s λcu s=>
 fe C ej λck=>
 bm o h l ck p E O F s)
(bm o h l C p E O F s))))
def ke(φ:Nat)(ih:fN->LS->fK->Rs):fN->LS->fK->Rs:=
 λas s kk=>
 u1 as λc d=>
 u1 d λe f=>
 u1 f λg h=>
 u1 h λi k=>
 u1 k λl m=>
 u0 m (
 lp lK (my φ kk ih) φ c e g i l (.b true) (.b true) s)
def jG(φ:Nat):fN->LS->fK->Rs:=lp (λ_ _ _=>none) (ke φ) φ
def iE(φ:Nat):fN->LS->fK->Rs:=
 λas s kk=>
 u1 as λb d=>
 u1 d λe f=>
 u0 f (
 fT b s λc s=>
 kV .u64 c s λg s=>
 eY (s7 φ) [g] s λh s=>
(jG φ) [b,fB,c,h,e] s λi s=>
 kk (.tup []) s)
def sZ(φ:Nat)(k:mu)(l:yx)(c d e f g h i b:D)(s:LS):Rs:=(
 gD b i λm=>
 fE m
(eT 1 s h b λn s=>
 eR s n λo s=>
 fF 1 s d λp s=>
 eR s p λu s=>
 gf [gj,fB] [(0,1,o),(1,1,u)] s λv s=>
 iO 1 [gj,fB] [(0,2,v)] s λw s=>
 mc 2 32 s c w λy s=>
 f7 b ej λz=>
 l y d e f g h i z s)
(f7 g ej λA=>
 k c e f A s))
def qa(φ:Nat)(h:mu)(b e f c:D)(s:LS):Rs:=(
 gD c f λi=>
 fE i
(eT 2 s e c λk s=>
 eW 2 s k λl s=>
 ff [gj,fB] s λd s=>
 fA 2 s d l λ_ s=>
 fF 0 s d λm s=>
 eR s m λn s=>
 eY (wY φ) [n] s λo s=>
 eY (uk φ) [o] s λg s=>
 fT g s λp s=>
 lp pu (sZ φ h) φ b d e f c g p fB s)
((iE φ) [b,(.fn 130 [])] s λu s=>
 fO false s b some))
def uF(φ:Nat):fP:=
 λas=>
(λ(s:LS)=>
 u1 as λb d=>
 u0 d (
 fT b s λe s=>
 gD e pU λf=>
 fE f
(fO false s gj some)
(eY (qY φ) [b] s λc s=>
 fT c s λg s=>
 lp jc (qa φ) φ gj c g fB s))) s0
def ie(φ:Nat):fP:=
 λas=>
(λ(s:LS)=>
 u1 as λe f=>
 u1 f λb g=>
 u0 g (
 jB e s λc s=>
 fT b s λh s=>
 fF 1 s c λi s=>
 eR s i λk s=>
 wQ h k λl=>
 fE l
(fO false s b some)
(fF 0 s c λm s=>
 eR s m λn s=>
 eY (gO φ) [b,n] s λd s=>
 gB d 0 s λp s=>
 gB d 1 s λo s=>
 fO false s o some))) s0
def mV(φ:Nat):fP:=
 λas=>
(λ(s:LS)=>
 u1 as λb c=>
 u0 c (
 jB b s λd s=>
 eW 2 s d λe s=>
 iO 2 lL [(0,1,fB),(1,1,ej)] s λf s=>
 eY (kr φ) [f] s λg s=>
 eY (ie φ) [e,g] s λh s=>
 fO false s h some)) s0
def kZ(φ:Nat):fP:=
 λas=>
(λ(s:LS)=>
 u1 as λb c=>
 u1 c λd e=>
 u0 e (
 eW 2 s d λf s=>
 eY (mV φ) [f] s λg s=>
 eY (iZ φ) [b] s λh s=>
 eY (ig φ) [g,h] s λi s=>
 fO false s i some)) s0
def sH(φ:Nat):qP:=oQ (gu φ) 144 (.iso (kZ φ))
def uI(φ:Nat)(f:fK)(e:D)(s:LS):Rs:=(
 fT e s λg s=>
 kH g fB λc=>
 eU c true (λk=>k e s) s λh s=>
 eU c true (λk=>k e s) s λi s=>
 eU c true (λk=>fT i s k) s λl s=>
 eU c true (λk=>fe l ej λd=>k d s) s λm s=>
 eU c true (λk=>eT 1 s h m k) s λn s=>
 eU c true (λk=>eR s n k) s λo s=>
 eU c true (λk=>fT o s k) s λp s=>
 eU c true (λk=>iR p fB λd=>k d s) s λu s=>
 iB c u (.b false) s λv s=>
 fE v
(fT e s λw s=>
 fe w ej λy=>
 iT 1 s e none (some y) none λz s=>
 f z s)
(fO false s e some))
def ru(φ:Nat):fP:=
 λas=>
(λ(s:LS)=>
 u1 as λb c=>
 u0 c (
 lp (λ(_:D)(_:LS)=>none) (uI φ) φ b s)) s0
def s9(φ:Nat)(g:jo)(d e c f b:D)(s:LS):Rs:=(
 gD b f λh=>
 fE h
(eY (mN φ) [d,b] s λi s=>
 eY (mN φ) [e,b] s λk s=>
 eY (nT φ) [i,k] s λl s=>
 eT 3 s c b λm s=>
 fA 3 s m l λ_ s=>
 f7 b ej λn=>
 g d e c f n s)
(eY (gY φ) [c] s λo s=>
 fO false s o some))
def l8(φ:Nat):fP:=
 λas=>
(λ(s:LS)=>
 u1 as λb g=>
 u1 g λd h=>
 u0 h (
 fT b s λi s=>
 fT d s λk s=>
 kS (.max (.c i) (.c k)) s λe s=>
 io 3 40 iw s e e λf s=>
 fT f s λl s=>
 lp gQ (s9 φ) φ b d f l fB s)) s0
def gH(φ:Nat):qP:=oQ (sH φ) 146 (.iso (l8 φ))
def ye(φ:Nat):fP:=
 λas=>
(λ(s:LS)=>
 u1 as λb d=>
 u1 d λc e=>
 u0 e (
 fT b s λf s=>
 gD c f λg=>
 fE g
(eT 1 s b c λh s=>
 eR s h λi s=>
 fO false s i some)
(fO false s gj some))) s0
def qd(φ:Nat)(h:kT)(c d e f g b:D)(s:LS):Rs:=(
 gD b g λi=>
 fE i
(eY (ye φ) [c,b] s λk s=>
 eY (ye φ) [d,b] s λl s=>
 D5 (gH φ) false e [k,l] s λm s=>
 iO 1 ms [(0,1,m)] s λn s=>
 mc 1 24 s f n λo s=>
 f7 b ej λp=>
 h c d e o g p s)
(eY (ru φ) [f] s λu s=>
 fO false s u some))
def uK(φ:Nat):fP:=
 λas=>
(λ(s:LS)=>
 u1 as λb e=>
 u1 e λd f=>
 u1 f λg h=>
 u0 h (
 fT b s λi s=>
 fT d s λk s=>
 kS (.max (.c i) (.c k)) s λl s=>
 lp iH (qd φ) φ b d g gj l fB s)) s0
def oO(φ:Nat)(n:jo)(o:B8)(e c d f g h i k l b:D)(s:LS):Rs:=(
 gD b l λp=>
 fE p
(eT 3 s k b λu s=>
 eW 3 s u λv s=>
 ff iw s λm s=>
 fA 3 s m v λ_ s=>
 f7 d b λw=>
 f7 d b λy=>
 eT 3 s c y λz s=>
 eW 3 s z λA s=>
 eW 3 s f λB s=>
 eW 3 s m λC s=>
 eY (ji φ) [B,C] s λE s=>
 eY (nT φ) [A,E] s λF s=>
 eT 3 s c w λG s=>
 fA 3 s G F λ_ s=>
 f7 b ej λH=>
 o e c d f g h i k l H s)
(n e c g h i s))
def nH(φ:Nat)(i:jo)(c d e f b:D)(s:LS):Rs:=(
 gD b f λk=>
 fE k
(jn (λ(l m n o p:D)(s:LS)=>
 f7 p ej λu=>
 i l m n o u s) λh=>
 eT 3 s e b λv s=>
 eW 3 s v λw s=>
 ff iw s λg s=>
 fA 3 s g w λ_ s=>
 eW 3 s g λy s=>
 eY (mX φ) [y] s λz s=>
 fE z
(h c d e f b s)
(fT c s λA s=>
 lp uh (oO φ h) φ c d b g e f b c A fB s))
(eY (gY φ) [d] s λB s=>
 fO false s B some))
def nG(φ:Nat)(g:jo)(b e c f d:D)(s:LS):Rs:=(
 gD d f λh=>
 fE h
(eY (iZ φ) lL s λi s=>
 eT 3 s c d λk s=>
 fA 3 s k i λ_ s=>
 f7 d ej λl=>
 g b e c f l s)
(fT b s λm s=>
 lp gQ (nH φ) φ e c b m fB s))
def kQ(φ:Nat):fP:=
 λas=>
(λ(s:LS)=>
 u1 as λe i=>
 u1 i λf l=>
 u0 l (
 fT e s λm s=>
 iR m fB λc=>
 eU c false (λk=>k f s) s λn s=>
 eU c false (λk=>fT n s k) s λo s=>
 eU c false (λk=>iR o fB λd=>k d s) s λp s=>
 iB c (.b true) p s λu s=>
 fE u
(fO false s gj some)
(fT e s λv s=>
 fT f s λw s=>
 f7 v w λy=>
 fe y ej λg=>
 io 3 40 iw s g g λh s=>
 fT h s λz s=>
 lp gQ (nG φ) φ e f h z fB s))) s0
def oF(φ:Nat)(n:kT)(o:xE)(e f c d g h i k l m b:D)(s:LS):Rs:=(
 gD b m λp=>
 fE p
(eT 1 s l b λu s=>
 eR s u λv s=>
 f7 d b λw=>
 f7 d b λy=>
 eT 1 s c y λz s=>
 eR s z λA s=>
 eY (kQ φ) [g,v] s λB s=>
 eY (l8 φ) [A,B] s λC s=>
 eT 1 s c w λE s=>
 fA 1 s E C λ_ s=>
 f7 b ej λF=>
 o e f c d g h i k l m F s)
(f7 k ej λG=>
 n e f c h i G s))
def oE(φ:Nat)(g:jo)(d c e f b:D)(s:LS):Rs:=(
 gD b f λh=>
 fE h
(eT 1 s e b λi s=>
 eR s i λk s=>
 eW 2 s d λl s=>
 eY (ie φ) [l,k] s λm s=>
 eT 1 s c b λn s=>
 fA 1 s n m λ_ s=>
 f7 b ej λo=>
 g d c e f o s)
(eY (ru φ) [c] s λp s=>
 fO false s p some))
def oD(φ:Nat)(h:kT)(d e b f g c:D)(s:LS):Rs:=(
 gD c g λi=>
 fE i
(eT 1 s f c λk s=>
 eR s k λl s=>
 fT d s λm s=>
 lp qI (oF φ h) φ d e b c l f g c d m fB s)
(fT b s λn s=>
 lp gQ (oE φ) φ e b b n fB s))
def jI(φ:Nat):fP:=
 λas=>
(λ(s:LS)=>
 u1 as λh i=>
 u1 i λc l=>
 u1 l λf m=>
 u0 m (
 jB h s λn s=>
 fT c s λo s=>
 iR o fB λe=>
 eU e false (λk=>k f s) s λp s=>
 eU e false (λk=>fT p s k) s λu s=>
 eU e false (λk=>iR u fB λd=>k d s) s λv s=>
 iB e (.b true) v s λw s=>
 fE w
(fO false s gj some)
(fT c s λy s=>
 fT f s λz s=>
 f7 y z λA=>
 fe A ej λg=>
 io 1 24 ms s g g λB s=>
 fT c s λC s=>
 lp iH (oD φ) φ f n B c C fB s))) s0
def pJ(φ:Nat)(g:jo)(c d e f b:D)(s:LS):Rs:=(
 mb b fB λh=>
 fE h
(eW 2 s d λi s=>
 eY (jI φ) [i,e,f] s λk s=>
 eT 1 s c b λl s=>
 eR s l λm s=>
 iO 1 ms [(0,1,m)] s λn s=>
 eY (ru φ) [n] s λo s=>
 eY (uK φ) [k,o,(.fn 146 [])] s λp s=>
 fe b ej λu=>
 g c d p f u s)
(fO false s e some))
def nX(φ:Nat):fP:=
 λas=>
(λ(s:LS)=>
 u1 as λc d=>
 u1 d λb e=>
 u1 e λf g=>
 u0 g (
 jB c s λh s=>
 iO 1 lL [(0,1,ej)] s λi s=>
 eY (kr φ) [i] s λk s=>
 iO 2 ms [(0,1,f),(1,1,k)] s λl s=>
 eY (ru φ) [l] s λm s=>
 fT b s λn s=>
 fe n ej λo=>
 lp gQ (pJ φ) φ b h gj m o s)) s0
def wv(φ:Nat)(g:wW)(b c d:D)(s:LS):Rs:=(
 kH b fB λh=>
 fE h
(jn (λ(k l e:D)(s:LS)=>
 eY (ia φ) [e,e] s λm s=>
 pP k (.i .u64 (.ofNat 1)) λn=>
 g n l m s) λf=>
 vY b ej λo=>
 iR o ej λp=>
 fE p
(eY (ia φ) [c,d] s λu s=>
 f b u d s)
(f b c d s))
(eY sL [c] s λv s=>
 fO false s v some))
def pj(φ:Nat):fP:=
 λas=>
(λ(s:LS)=>
 u1 as λb c=>
 u1 c λd e=>
 u0 e (
 iO 1 [(.i .u64 (.ofNat 0))] [(0,1,(.i .u64 (.ofNat 1)))] s λf s=>
 eY pL [b] s λg s=>
 lp vN (wv φ) φ d f g s)) s0
def re(φ:Nat):fP:=
 λas=>
(λ(s:LS)=>
 u1 as λh i=>
 u1 i λe l=>
 u0 l (
 jB h s λf s=>
 ff gL s λg s=>
 fF 0 s f λm s=>
 eR s m λc s=>
 eU c true (λk=>k e s) s λn s=>
 eU c true (λk=>vX n pU λd=>k d s) s λo s=>
 eU c true (λk=>iR o ej λd=>k d s) s λp s=>
 iB c p (.b false) s λu s=>
 fF 1 s f λv s=>
 eR s v λw s=>
 eY (pj φ) [w,e] s λy s=>
 eY (fx φ) [u,y] s λz s=>
 fA 2 s g z λ_ s=>
 eW 2 s g λA _=>
 fO false s A some)) s0
def tV(φ:Nat):fP:=
 λas=>
(λ(s:LS)=>
 u1 as λe f=>
 u1 f λb g=>
 u0 g (
 jB e s λc s=>
 ff iw s λd s=>
 fF 0 s c λh s=>
 eW 2 s h λi s=>
 eY (re φ) [i,b] s λk s=>
 fF 2 s c λl s=>
 eR s l λm s=>
 eY (pj φ) [m,b] s λn s=>
 gf iw [(0,2,k),(2,1,n)] s λo s=>
 fA 3 s d o λ_ s=>
 eW 3 s d λp _=>
 fO false s p some)) s0
def w7(φ:Nat)(o:mu)(b i c d:D)(s:LS):Rs:=(
 fT i s λp s=>
 fe p ej λf=>
 fT c s λu s=>
 fe u ej λe=>
 gD e fB λv=>
 fE v
(eY (iZ φ) lL s λw s=>
 fA 3 s b w λ_ s=>
 eW 3 s b λy _=>
 fO false s y some)
(iR e fB λz=>
 fE z
(eW 3 s d λA s=>
 eT 3 s c fB λB s=>
 eW 3 s B λC s=>
 eY (tV φ) [C,f] s λE s=>
 eY (ji φ) [A,E] s λF s=>
 fA 3 s b F λ_ s=>
 eW 3 s b λG _=>
 fO false s G some)
(eY (gO φ) [i,c] s λk s=>
 gB k 0 s λbh s=>
 gB k 1 s λg s=>
 fT g s λH s=>
 iR H fB λI=>
 fE I
(eY (iZ φ) lL s λJ s=>
 fA 3 s b J λ_ s=>
 eW 3 s b λK _=>
 fO false s K some)
(jn (λ(M l h N O m:D)(s:LS)=>
 eW 3 s h λP s=>
 eT 3 s l O λS s=>
 eW 3 s S λU s=>
 fT m s λV s=>
 fe V ej λW=>
 fe N W λX=>
 eY (tV φ) [U,X] s λY s=>
 eY (ji φ) [P,Y] s λZ s=>
 fA 3 s h Z λ_ s=>
 o M l m h s) λn=>
 jZ f e λbb=>
 vX bb pU λbc=>
 iR bc ej λbd=>
 fE bd
(eW 3 s d λbf s=>
 eY (tW φ) [bf] s λbg s=>
 fA 3 s d bg λ_ s=>
 n b c d f e g s)
(n b c d f e g s)))))
def qc(φ:Nat):fP:=
 λas=>
(λ(s:LS)=>
 u1 as λc d=>
 u1 d λe f=>
 u0 f (
 jB c s λg s=>
 ff iw s λh s=>
 fF 0 s g λi s=>
 eR s i λk s=>
 eY (iZ φ) [ej] s λl s=>
 ff iw s λb s=>
 fA 3 s b l λ_ s=>
 lp jc (w7 φ) φ h k e b s)) s0
def vw(φ:Nat)(f:mu)(c d e b:D)(s:LS):Rs:=(
 mb b fB λg=>
 fE g
(eW 3 s d λh s=>
 eY (ig φ) [e,h] s λi s=>
 eT 1 s c b λk s=>
 eR s k λl s=>
 eY (l8 φ) [i,l] s λm s=>
 fe b ej λn=>
 f c d m n s)
(fO false s e some))
def xo(φ:Nat):fP:=
 λas=>
(λ(s:LS)=>
 u1 as λb c=>
 u1 c λd e=>
 u0 e (
 jB d s λf s=>
 fT b s λg s=>
 fe g ej λh=>
 lp jc (vw φ) φ b f gj h s)) s0
def rv(φ:Nat)(g:jo)(e f c b d:D)(s:LS):Rs:=(
 mb d fB λh=>
 fE h
(eW 3 s b λi s=>
 eW 3 s f λk s=>
 eY (ji φ) [i,k] s λl s=>
 eT 3 s e d λm s=>
 eW 3 s m λn s=>
 eY (nT φ) [l,n] s λo s=>
 fA 3 s b o λ_ s=>
 fe d ej λp=>
 g e f c b p s)
(eW 3 s b λu s=>
 fA 3 s c u λ_ s=>
 eW 3 s c λv _=>
 fO false s v some))
def qj(φ:Nat):fP:=
 λas=>
(λ(s:LS)=>
 u1 as λb d=>
 u1 d λe f=>
 u0 f (
 jB e s λg s=>
 ff iw s λh s=>
 eY (iZ φ) lL s λi s=>
 ff iw s λc s=>
 fA 3 s c i λ_ s=>
 fT b s λk s=>
 fe k ej λl=>
 lp gQ (rv φ) φ b g h c l s)) s0
def tX(φ:Nat):fP:=
 λas=>
(λ(s:LS)=>
 u1 as λc d=>
 u1 d λe f=>
 u0 f (
 jB c s λg s=>
 jB e s λh s=>
 ff iw s λb s=>
 eW 3 s g λi s=>
 eW 3 s h λk s=>
 eY (kR φ) [k] s λl s=>
 eY (ji φ) [i,l] s λm s=>
 fA 3 s b m λ_ s=>
 eW 3 s b λn _=>
 fO false s n some)) s0
def lW(φ:Nat)(m:ov)(g h n e f i b:D)(s:LS):Rs:=(
 gD b i λo=>
 fE o
(eY (iZ φ) [b] s λp s=>
 ff iw s λd s=>
 fA 3 s d p λ_ s=>
 eW 2 s h λu s=>
 eW 3 s d λv s=>
 eY (xo φ) [g,v] s λw s=>
 eY (qc φ) [u,w] s λy s=>
 eW 3 s d λz s=>
 eY (qj φ) [e,z] s λA s=>
 eY (rW φ) [y,A] s λB s=>
 ff iw s λk s=>
 fA 3 s k B λ_ s=>
 eW 3 s d λC s=>
 eY (qj φ) [f,C] s λE s=>
 iO 1 iw [(0,3,E)] s λF s=>
 mc 3 40 s n F λl s=>
 eW 3 s k λG s=>
 eT 3 s l b λH s=>
 eW 3 s H λI s=>
 eY (tX φ) [G,I] s λJ s=>
 eY (ig φ) [f,J] s λK s=>
 eY (l8 φ) [e,K] s λM s=>
 kS (.neg (.c b)) s λN s=>
 iO 2 lL [(0,1,N),(1,1,ej)] s λO s=>
 eY (kr φ) [O] s λP s=>
 eY (kQ φ) [f,P] s λS s=>
 f7 b ej λU=>
 m g h l M S i U s)
(fO false s e some))
def lb(φ:Nat):fP:=
 λas=>
(λ(s:LS)=>
 u1 as λd e=>
 u1 e λb f=>
 u0 f (
 jB d s λc s=>
 fF 1 s c λg s=>
 eR s g λh s=>
 fT b s λi s=>
 fe i ej λk=>
 jZ h k λl=>
 f7 l ej λm=>
 iO 1 lL [(0,1,ej)] s λn s=>
 eY (kr φ) [n] s λo s=>
 lp lK (lW φ) φ b c gj gj o m fB s)) s0
def pd(φ:Nat):fP:=
 λas=>
(λ(s:LS)=>
 u1 as λb c=>
 u1 c λd e=>
 u1 e λf g=>
 u0 g (
 jB b s λh s=>
 eW 2 s h λi s=>
 iO 1 ms [(0,1,f)] s λk s=>
 eY (jI φ) [i,d,k] s λl s=>
 fO false s l some)) s0
def uV(φ:Nat)(f:jo)(d g b h c:D)(s:LS):Rs:=(
 fT b s λi s=>
 kH i ej λk=>
 fE k
(eY (gO φ) [g,b] s λe s=>
 gB e 0 s λl s=>
 gB e 1 s λm s=>
 eY (kQ φ) [l,c] s λn s=>
 eY (lZ φ) [h,n] s λo s=>
 f d b m c o s)
(eW 2 s d λp s=>
 eT 3 s b fB λu s=>
 eW 3 s u λv s=>
 eY (kR φ) [v] s λw s=>
 eY (ig φ) [c,w] s λy s=>
 eY (ie φ) [p,y] s λz s=>
 fO false s z some))
def nr(φ:Nat):fP:=
 λas=>
(λ(s:LS)=>
 u1 as λc d=>
 u1 d λe f=>
 u0 f (
 jB c s λb s=>
 fF 0 s b λg s=>
 eR s g λh s=>
 iO 1 lL [(0,1,ej)] s λi s=>
 eY (kr φ) [i] s λk s=>
 lp gQ (uV φ) φ b h e gj k s)) s0
def kq(φ:Nat):fP:=
 λas=>
(λ(s:LS)=>
 u1 as λd e=>
 u1 e λb f=>
 u0 f (
 jB d s λc s=>
 fT b s λg s=>
 iR g fB λh=>
 fE h
(fO false s gj some)
(eW 2 s c λi s=>
 eW 2 s c λk s=>
 fT b s λl s=>
 fe l ej λm=>
 eT 1 s b m λn s=>
 eR s n λo s=>
 eY (nr φ) [k,o] s λp s=>
 eY (pd φ) [i,b,p] s λu s=>
 fO false s u some))) s0
def pe(φ:Nat):fP:=
 λas=>
(λ(s:LS)=>
 u1 as λb c=>
 u1 c λd e=>
 u1 e λf g=>
 u0 g (
 jB b s λh s=>
 eW 2 s h λi s=>
 eY (kQ φ) [d,f] s λk s=>
 eY (ie φ) [i,k] s λl s=>
 fO false s l some)) s0
def oc(φ:Nat)(m:kT)(n:B8)(f e c g h d i k l b:D)(s:LS):Rs:=(
 gD b l λo=>
 fE o
(eT 1 s k b λp s=>
 eR s p λu s=>
 f7 d b λv=>
 f7 d b λw=>
 eT 1 s c w λy s=>
 eR s y λz s=>
 eW 2 s e λA s=>
 eY (pe φ) [A,i,u] s λB s=>
 eY (lZ φ) [z,B] s λC s=>
 eT 1 s c v λE s=>
 fA 1 s E C λ_ s=>
 f7 b ej λF=>
 n f e c g h d i k l F s)
(fe d ej λG=>
 m f e c g h G s))
def mW(φ:Nat)(h:kT)(c i d f e b:D)(s:LS):Rs:=(
 mb b fB λk=>
 fE k
(f7 b f λl=>
 eT 1 s d l λm s=>
 eR s m λg s=>
 eT 1 s e b λn s=>
 fA 1 s n g λ_ s=>
 fT c s λo s=>
 lp uh (oc φ h) φ c i d f e b g c o fB s)
(eY (ru φ) [e] s λp s=>
 eY (ru φ) [d] s λu s=>
 fO false s (.tup [p,u]) some))
def mz(φ:Nat):fP:=
 λas=>
(λ(s:LS)=>
 u1 as λh i=>
 u1 i λb k=>
 u1 k λd l=>
 u0 l (
 jB h s λm s=>
 iO 0 ms [] s λn s=>
 mc 1 24 s n b λo s=>
 fT d s λp s=>
 fe p ej λe=>
 fT b s λu s=>
 fe u e λv=>
 kS (.max (.c fB) (.c v)) s λf s=>
 io 1 24 ms s f f λg s=>
 fT g s λw s=>
 fe w ej λy=>
 lp iH (mW φ) φ d m o e g y s)) s0
def wu(φ:Nat)(f:wW)(d c b:D)(s:LS):Rs:=(
 fT c s λg s=>
 kH g fB λh=>
 fE h
(eW 2 s b λi s=>
 eY (mz φ) [i,d,c] s λe s=>
 gB e 0 s λp s=>
 gB e 1 s λk s=>
 eW 2 s b λl s=>
 eY (kq φ) [l,k] s λm s=>
 f c m b s)
(eW 2 s b λn s=>
 eY (kq φ) [n,d] s λo s=>
 fO false s o some))
def rV(φ:Nat):fP:=
 λas=>
(λ(s:LS)=>
 u1 as λc d=>
 u1 d λe f=>
 u1 f λg h=>
 u0 h (
 jB c s λb s=>
 eW 2 s b λi s=>
 eY (kq φ) [i,g] s λk s=>
 lp vN (wu φ) φ e k b s)) s0
def nW(φ:Nat)(g:mu)(c d e b:D)(s:LS):Rs:=(
 gD b e λh=>
 fE h
(eT 2 s d b λi s=>
 eW 2 s i λk s=>
 ff gL s λf s=>
 fA 2 s f k λ_ s=>
 eW 2 s f λl s=>
 eY (kN φ) [l] s λm s=>
 iO 1 iw [(0,3,m)] s λn s=>
 eY (gY φ) [n] s λo s=>
 iO 1 ms [(0,1,o)] s λp s=>
 mc 1 24 s c p λu s=>
 f7 b ej λv=>
 g u d e v s)
(fO false s c some))
def sU(φ:Nat):fP:=
 λas=>
(λ(s:LS)=>
 u1 as λb c=>
 u0 c (
 fT b s λd s=>
 lp jc (nW φ) φ gj b d fB s)) s0
def la(φ:Nat)(m:yx)(b e f g h i k d:D)(s:LS):Rs:=(
 gD d k λn=>
 fE n
(eT 2 s i d λo s=>
 eW 2 s o λp s=>
 ff [gj,fB] s λl s=>
 fA 2 s l p λ_ s=>
 eW 2 s b λu s=>
 fF 0 s l λv s=>
 eR s v λw s=>
 eY (sU φ) [w] s λy s=>
 eY (rV φ) [u,f,y] s λz s=>
 eW 2 s b λA s=>
 kS (.neg (.c e)) s λB s=>
 D5 (gH φ) true g [B] s λC s=>
 eY (nX φ) [A,z,C] s λE s=>
 iO 1 ms [(0,1,E)] s λF s=>
 mc 1 24 s h F λG s=>
 f7 d ej λH=>
 m b e f g G i k H s)
(fO false s h some))
def vi(φ:Nat)(h:mu)(f b d e:D)(s:LS):Rs:=(
 eW 2 s b λl s=>
 D5 (gH φ) true e [d] s λm s=>
 eY (nX φ) [l,f,m] s λi s=>
 eW 2 s b λn s=>
 eY (lb φ) [n,i] s λg s=>
 eY (iP φ) [g] s λo s=>
 eY (mM φ) [g,o] s λp s=>
 fT p s λu s=>
 wQ u ej λv=>
 fE v
(eY (uF φ) [g] s λk s=>
 fT k s λw s=>
 lp pu (la φ) φ b d i e gj k w fB s)
(kH d fB λy=>
 fE y
(kS (.neg (.c d)) s λz s=>
 h f b z e s)
(fe ej d λA=>
 h f b A e s)))
def p9(φ:Nat):fP:=
 λas=>
(λ(s:LS)=>
 u1 as λd e=>
 u1 e λb f=>
 u0 f (
 jB d s λc s=>
 fT b s λg s=>
 iR g pU λh=>
 fE h
(iO 1 ms [(0,1,b)] s λi s=>
 fO false s i some)
(lp jc (vi φ) φ b c fB (.fn 144 [c]) s))) s0
def um(φ:Nat):fP:=
 λas=>
(λ(s:LS)=>
 u1 as λb c=>
 u1 c λd e=>
 u0 e (
 jB b s λf s=>
 eW 1 s f λg s=>
 eY (uJ φ) [g] s λh s=>
 eY (p9 φ) [h,d] s λi s=>
 fO false s i some)) s0
def oJ(φ:Nat):fN->LS->fK->Rs:=
 λas s kk=>
 u1 as λb c=>
 u1 c λd e=>
 u0 e (
 fT d s λf s=>
 fT b s λg s=>
 fe f g λh=>
 kk h s)
def gC(φ:Nat):qP:=oQ (gH φ) 169 (.mem (oJ φ))
def qK(φ:Nat)(m:jo)(n:kT)(e g i h l f:D)(s:LS):Rs:=(
 kH f g λc=>
 eU c true (λk=>k h s) s λo s=>
 eU c true (λk=>k e s) s λp s=>
 eU c true (λk=>k f s) s λu s=>
 eU c true (λk=>eT 1 s p u k) s λv s=>
 eU c true (λk=>eR s v k) s λw s=>
 eU c true (λk=>k e s) s λy s=>
 eU c true (λk=>k f s) s λz s=>
 eU c true (λk=>fe z ej λd=>k d s) s λA s=>
 eU c true (λk=>eT 1 s y A k) s λB s=>
 eU c true (λk=>eR s B k) s λC s=>
 eU c true (λk=>D5 (gC φ) false o [w,C] s k) s λE s=>
 eU c true (λk=>gD E fB λd=>k d s) s λF s=>
 iB c F (.b false) s λG s=>
 fE G
(fe f ej λH=>
 fe f ej λI=>
 eT 1 s e I λJ s=>
 eR s J λK s=>
 eT 1 s e f λM s=>
 eR s M λN s=>
 eT 1 s e f λO s=>
 fA 1 s O K λ_ s=>
 eT 1 s e H λP s=>
 fA 1 s P N λ_ s=>
 fe f ej λS=>
 n e g i h l S s)
(f7 l ej λU=>
 m e g i h U s))
def lV(φ:Nat)(kk:fK)(d:jo)(e f c g b:D)(s:LS):Rs:=(
 gD b c λh=>
 fE h
(lp iH (qK φ d) φ e f c g b b s)
(kk (.tup []) s))
def iD(φ:Nat):fN->LS->fK->Rs:=
 λas s kk=>
 u1 as λc d=>
 u1 d λb e=>
 u1 e λf g=>
 u1 g λh i=>
 u0 i (
 f7 b ej λk=>
 lp gQ (lV φ kk) φ c b f h k s)
def jF(φ:Nat):fN->LS->fK->Rs:=λ_ _ _=>none
def sS(φ:Nat)(k:mu)(l:kT)(d b e c f g:D)(s:LS):Rs:=(
 wQ g b λm=>
 fE m
(f7 f c λn=>
(jF φ) [d,f,n,g,e] s λB s=>
 jZ pU c λo=>
 f7 g o λp=>
 l d b e c g p s)
(jn (λ(u v w y:D)(s:LS)=>
 jZ y pU λz=>
 k u v w z s) λh=>
 f7 f c λi=>
 gD i b λA=>
 fE A
((jF φ) [d,f,i,b,e] s λC s=>
 h d b e c s)
(h d b e c s)))
def nS(φ:Nat)(kk:fK)(d:mu)(e c f b:D)(s:LS):Rs:=(
 gD b c λg=>
 fE g
(jZ pU b λh=>
 lp iH (sS φ d) φ e c f b fB h s)
(kk (.tup []) s))
def nR(φ:Nat)(kk:fK)(h:kT)(b c d f g e:D)(s:LS):Rs:=(
 wQ e c λi=>
 fE i
((iD φ) [b,g,e,d] s λl s=>
 f7 e f λk=>
 h b c d f e k s)
((iD φ) [b,g,c,d] s λm s=>
 lp jc (nS φ kk) φ b c d f s))
def jW(φ:Nat):fN->LS->fK->Rs:=
 λas s kk=>
 u1 as λb c=>
 u1 c λd e=>
 u1 e λf g=>
 u0 g (
 lp iH (nR φ kk) φ b d f (.i .i64 (.ofNat 20)) fB (.i .i64 (.ofNat 20)) s)
def gg(φ:Nat):fN->LS->fK->Rs:=
 λas s kk=>
 u1 as λb c=>
 u1 c λd e=>
 u0 e (
 fT b s λf s=>
(jW φ) [b,f,d] s λg s=>
 kk (.tup []) s)
def lU(φ:Nat)(l:mu)(m:ov)(b d e f g h c:D)(s:LS):Rs:=(
 gD c h λn=>
 fE n
(jn (λ(o p u v w y z:D)(s:LS)=>
 f7 z ej λA=>
 m o p u v w y A s) λk=>
 eT 1 s g c λB s=>
 eR s B λi s=>
 fT i s λC s=>
 iR C pU λE=>
 fE E
(jm s b λF s=>
 fF 1 s F λG s=>
 eR s G λH s=>
 eT 1 s i fB λI s=>
 eR s I λJ s=>
 eY (iZ φ) [lC] s λK s=>
 eY (ig φ) [J,K] s λM s=>
 iO 1 ms [(0,1,M)] s λN s=>
 mc 1 24 s H N λO s=>
 jm s b λP s=>
 fF 1 s P λS s=>
 fA 1 s S O λ_ s=>
 k b d e f g h c s)
(jm s b λU s=>
 fF 2 s U λV s=>
 eR s V λW s=>
 iO 1 ms [(0,1,i)] s λX s=>
 mc 1 24 s W X λY s=>
 jm s b λZ s=>
 fF 2 s Z λbb s=>
 fA 1 s bb Y λ_ s=>
 k b d e f g h c s))
(l b d e f s))
def je(φ:Nat)(kk:fK)(i:mu)(b d e c:D)(s:LS):Rs:=(
 gD c e λk=>
 fE k
(jn (λ(l m n o:D)(s:LS)=>
 f7 o ej λp=>
 i l m n p s) λf=>
 eT 1 s d c λu s=>
 eR s u λg s=>
 fT g s λv s=>
 gD v pU λw=>
 fE w
(f b d e c s)
(jm s b λy s=>
 fF 0 s y λz s=>
 eW 1 s z λA s=>
 eY (um φ) [A,g] s λh s=>
 fT h s λB s=>
 lp lK (lU φ f) φ b d e c h B fB s))
(jm s b λC s=>
 fF 2 s C λE s=>
 eR s E λF s=>
(gg φ) [F,(.fn 169 [])] s λG s=>
 kk (.tup []) s))
def kj(φ:Nat):fN->LS->fK->Rs:=
 λas s kk=>
 u1 as λb d=>
 u1 d λc e=>
 u0 e (
 jm s b λf s=>
 fF 2 s f λg s=>
 fA 1 s g gj λ_ s=>
 fT c s λh s=>
 lp jc (je φ kk) φ b c h fB s)
def p5(φ:Nat):fN->LS->fK->Rs:=λ_ _ _=>none
def vd(φ:Nat)(l:wW)(m:ov)(b e c f g h d:D)(s:LS):Rs:=(
 gD d h λn=>
 fE n
(eT 1 s g d λo s=>
 eR s o λp s=>
 fT p s λu s=>
 fe u ej λv=>
 jZ f v λw=>
 kH w (.i .i64 (.ofNat 12)) λy=>
 fE y
(gf wn [] s λz s=>
 fA 3 s b z λ_ s=>
 eW 3 s b λA _=>
 fO false s (.tup [A,(.i .i64 (.ofNat 17))]) some)
(f7 d ej λB=>
 m b e c f g h B s))
((p5 φ) [c] s λk s=>
 iR k fB λC=>
 fE C
(l b e c s)
(gf wn [] s λE s=>
 fA 3 s b E λ_ s=>
 eW 3 s b λF _=>
 fO false s (.tup [F,k]) some)))
def vc(φ:Nat)(f:wW)(c d b:D)(s:LS):Rs:=(
 jm s b λg s=>
 fF 2 s g λh s=>
 eR s h λi s=>
 fT i s λk s=>
 kH k fB λl=>
 fE l
(jm s b λm s=>
 fF 0 s m λn s=>
 fF 0 s n λo s=>
 eR s o λp s=>
 fT p s λu s=>
 fe u ej λv=>
 jm s b λw s=>
 fF 2 s w λy s=>
 eR s y λe s=>
 fT e s λz s=>
 lp lK (vd φ f) φ c d b v e z fB s)
(jm s b λA s=>
 fF 0 s A λB s=>
 eW 1 s B λC s=>
 jm s b λE s=>
 fF 1 s E λF s=>
 eR s F λG s=>
 gf wn [(0,1,d),(1,1,C),(2,1,G)] s λH s=>
 fA 3 s c H λ_ s=>
 eW 3 s c λI _=>
 fO false s (.tup [I,fB]) some))
def jy(φ:Nat)(k:kT)(c d e f g b:D)(s:LS):Rs:=(
 gD b g λl=>
 fE l
(eT 3 s f b λm s=>
 eW 3 s m λn s=>
 ff iw s λh s=>
 fA 3 s h n λ_ s=>
 eW 3 s h λo s=>
 iO 1 iw [(0,3,o)] s λp s=>
 eY (gY φ) [p] s λu s=>
 iO 1 ms [(0,1,u)] s λv s=>
 mc 1 24 s e v λw s=>
 f7 b ej λy=>
 k c d w f g y s)
(iO 2 lL [(0,1,fB),(1,1,ej)] s λz s=>
 eY (kr φ) [z] s λA s=>
 gf ms [(0,1,A)] s λB s=>
 gf wn [(0,1,B)] s λC s=>
 jB C s λi s=>
 iO 1 ms [(0,1,e)] s λE s=>
(kj φ) [i,E] s λF s=>
 lp vN (vc φ) φ c d i s))
def mI(φ:Nat):fP:=
 λas=>
(λ(s:LS)=>
 u1 as λc f=>
 u0 f (
 ff wn s λb s=>
 eY (sT φ) [c] s λe s=>
 sG e fB λg=>
 fE g
(gf wn [] s λh s=>
 fA 3 s b h λ_ s=>
 eW 3 s b λk _=>
 fO false s (.tup [k,e]) some)
(fT c s λl s=>
 gD l pU λm=>
 fE m
(gf wn [] s λn s=>
 fA 3 s b n λ_ s=>
 eW 3 s b λo _=>
 fO false s (.tup [o,(.i .i64 (.ofNat 27))]) some)
(eY (pi φ) [c] s λd s=>
 fT d s λp s=>
 lp iH (jy φ) φ b d gj d p fB s)))) s0
def kY(φ:Nat):fP:=
 λas=>
(λ(s:LS)=>
 u1 as λe f=>
 u0 f (
 eY (mI φ) [e] s λb s=>
 gB b 0 s λg s=>
 gB b 1 s λc s=>
 ff wn s λd s=>
 fA 3 s d g λ_ s=>
 sG c fB λh=>
 fE h
(fO false s (.tup [fB,c]) some)
(fF 1 s d λi s=>
 fF 0 s i λk s=>
 eR s k λl s=>
 fT l s λm s=>
 fe m ej λn=>
 fO false s (.tup [n,fB]) some))) s0
def ya(φ:Nat):fP:=λ_=>none
def w8(φ:Nat):fP:=λ_=>none
def oZ(φ:Nat):fP:=
 λas=>
(λ(s:LS)=>
 u1 as λl m=>
 u0 m (
 ff wn s λc s=>
 eY (mI φ) [l] s λg s=>
 gB g 0 s λn s=>
 gB g 1 s λh s=>
 ff wn s λe s=>
 fA 3 s e n λ_ s=>
 sG h fB λo=>
 fE o
(gf wn [] s λp s=>
 fA 3 s c p λ_ s=>
 eW 3 s c λu _=>
 fO false s (.tup [u,h]) some)
(fF 0 s e λv s=>
 eR s v λw s=>
 eY (w8 φ) [w] s λd s=>
 eU d false (λk=>fF 1 s e k) s λy s=>
 eU d false (λk=>fF 0 s y k) s λz s=>
 eU d false (λk=>eR s z k) s λA s=>
 eU d false (λk=>iO 1 ms [(0,1,A)] s k) s λB s=>
 eU d false (λk=>eY (ya φ) [B] s k) s λC s=>
 iB d (.b true) C s λf s=>
 eU f false (λk=>fF 2 s e k) s λE s=>
 eU f false (λk=>eR s E k) s λF s=>
 eU f false (λk=>eY (ya φ) [F] s k) s λG s=>
 iB f (.b true) G s λH s=>
 fE H
(gf wn [] s λI s=>
 fA 3 s c I λ_ s=>
 eW 3 s c λJ _=>
 fO false s (.tup [J,(.i .i64 (.ofNat 4))]) some)
(eW 3 s e λK s=>
 fA 3 s c K λ_ s=>
 eW 3 s c λM _=>
 fO false s (.tup [M,fB]) some)))) s0
def kG(aw:Nat->fP)(φ:Nat):fP:=
 λas=>
(λ(s:LS)=>
 u1 as λf y=>
 u1 y λg z=>
 u0 z (
 wQ f (.i .i64 (.ofNat 12)) λh=>
 eU h false (λk=>k f s) s λA s=>
 eU h false (λk=>kH A (.i .i64 (.ofNat 64)) λd=>k d s) s λB s=>
 iB h (.b true) B s λl s=>
 eU l false (λk=>k g s) s λC s=>
 eU l false (λk=>gD C fB λd=>k d s) s λE s=>
 iB l (.b true) E s λm s=>
 eU m false (λk=>k g s) s λF s=>
 eU m false (λk=>kH F (.i .i64 (.ofNat 1000)) λd=>k d s) s λG s=>
 iB m (.b true) G s λH s=>
 fE H
(eY (aw φ) [] s λI s=>
 fO false s I some)
(eY (ir φ) [ej] s λJ s=>
 eY (nN φ) [J,f] s λK s=>
 jZ (.i .i64 (.ofNat 4)) g λM=>
 f7 pU M λN=>
 iO 1 lL [(0,1,N)] s λO s=>
 eY (p7 φ) [O] s λP s=>
 eY (o9 φ) [K,P] s λp s=>
 eY (kY φ) [p] s λu s=>
 gB u 0 s λS s=>
 gB u 1 s λU s=>
 eY (oZ φ) [p] s λv s=>
 gB v 0 s λV s=>
 gB v 1 s λW s=>
 ff wn s λe s=>
 fA 3 s e V λ_ s=>
 iR U (.i .i64 (.ofNat 17)) λn=>
 eU n true (λk=>k W s) s λX s=>
 eU n true (λk=>iR X (.i .i64 (.ofNat 17)) λd=>k d s) s λY s=>
 iB n Y (.b false) s λo s=>
 eU o true (λk=>k S s) s λZ s=>
 eU o true (λk=>iR Z fB λd=>k d s) s λbb s=>
 iB o bb (.b false) s λc s=>
 eU c true (λk=>fF 0 s e k) s λbc s=>
 eU c true (λk=>eR s bc k) s λbd s=>
 eU c true (λk=>fT bd s k) s λbf s=>
 eU c true (λk=>fF 2 s e k) s λbg s=>
 eU c true (λk=>eR s bg k) s λbh s=>
 eU c true (λk=>fT bh s k) s λbi s=>
 eU c true (λk=>f7 bf bi λd=>k d s) s λbk s=>
 eU c true (λk=>fF 1 s e k) s λbl s=>
 eU c true (λk=>fF 0 s bl k) s λbm s=>
 eU c true (λk=>eR s bm k) s λbn s=>
 eU c true (λk=>fT bn s k) s λbo s=>
 eU c true (λk=>f7 bk bo λd=>k d s) s λbp s=>
 eU c true (λk=>iR bp fB λd=>k d s) s λbu s=>
 iB c bu (.b false) s λw s=>
 eU w true (λk=>eY (aw φ) [] s k) s λbv s=>
 iB w bv (.b false) s λbw s=>
 fO false s bw some))) s0
section
variable {x:Bool} {a b n k:Nat} {z w:Int} {p q:Rat} {φ:Nat}
def Ny(z:Int)(n:Nat):zt (decide (z<0)) (z.natAbs*n)=z*n:=by
 have:=Td z (n:Int);rwa[bJ,aU (show ¬(n:Int)<0 by omega),show(decide (z<0) != false)=decide (z<0) by cases decide (z<0)<;>rfl]at this
def UW{v:Bool}{c:Nat}(h:zt v c=z):(D.agg [.b (v&& !(Nat.beq c 0)),.n c])=.agg [.b (decide (z<0)),.n z.natAbs]:=yq h
def No(p q:Rat):p+q=mkRat (p.num*q.den+q.num*p.den) (p.den*q.den):=by rw[Rat.add_def,Rat.normalize_eq_mkRat]
def Te(p q:Rat):p*q=mkRat (p.num*q.num) (p.den*q.den):=by rw[Rat.mul_def,Rat.normalize_eq_mkRat]
def TL(z:Int):rc (mkRat z 1)=.agg [.b (decide (z<0)),.n z.natAbs,.n 1]:=by
 have e1:(mkRat z 1).num=z:=by rw[Rat.num_mkRat,aG eP,Nat.gcd_one_left];simp
 have e2:(mkRat z 1).den=1:=by rw[Rat.den_mkRat,aG eP,Nat.gcd_one_left]
 unfold rc;rw[e1,e2]
def JG:kN φ [.agg [.b x,.n a]]=some (.agg [.b x,.n a,.n 1]):=by cases x<;>kernel_rfl
def Mh(hz:Lg KA z.natAbs)(hb:Lg KA b)(h0:b≠0)(hφ:gW φ):od φ [.agg [.b (decide (z<0)),.n z.natAbs],.agg [.b false,.n b]]=some (rc (mkRat z b)):=by
 have:=z2y (x:=decide (z<0)) hz hb h0 hφ;rwa[WR]at this
def Oz{j k:Nat}(hz:Lg j z.natAbs)(hn:Lg k n):Lg (j+k+1) (z*(n:Int)).natAbs:=by
 rw[bt,bJ];exact mB hz hn
def PA{j:Nat}(hz:Lg j z.natAbs)(hw:Lg j w.natAbs):Lg (j+1) (z+w).natAbs:=iK (tf hz hw) (eJ z w)
def Ws(hp:Qz KB p)(hq:Qz KB q)(hφ:gW φ):nT φ [rc p,rc q]=some (rc (p+q)):=by
 have hpn:=p.den_nz;have hqn:=q.den_nz;have iA:∀s K,eY oC [.agg [.b (decide (p.num<0)),.n p.num.natAbs],.agg [.b (decide (q.num<0)),.n q.num.natAbs]] s K=K (.agg [.b (decide (p.num+q.num<0)),.n (p.num+q.num).natAbs]) s:=za (wk (fM hp.1 eV) (fM hq.1 eV)) rfl;have iW:∀(x:Bool)(a:Nat) s K,eY (kN φ) [.agg [.b x,.n a]] s K=K (.agg [.b x,.n a,.n 1]) s:=λx a=>GM JG rfl;by_cases hd:p.den=q.den
 ·by_cases h1:p.den=1
  ·have e:p+q=mkRat (p.num+q.num) 1:=by rw[No,<-hd,h1];simp
   rw[e,TL];unfold nT rc;simp -implicitDefEqProofs only[fJ,fV,nB,om,Ac,qm,xB,yN,A6,List.all_cons,List.all_nil,one,Bool.and_self,List.length_nil,List.length_cons,List.nil_append,List.cons_append,List.getElem?_cons_zero,List.getElem?_cons_succ,jY,qU,v9,fH,Cf,zA,Nat.zero_add,Nat.reduceAdd,List.set_cons_zero,List.set_cons_succ,A5,Fw,Ae,Ad,Af,gE,NP,xx,xw,re3,List.drop_zero,iA,iW,<-hd,h1]
  ·have e:p+q=mkRat (p.num+q.num) p.den:=by
    rw[No,<-hd,<-Int.add_mul,Rat.mkRat_mul_right hpn]
   have iM:=Mh (φ:=φ) (z:=p.num+q.num) (b:=p.den) (fM (PA hp.1 hq.1) eV) (fM hp.2 eV) hpn hφ;rw[<-e]at iM;have iM':=za iM rfl;unfold rc at iM';unfold nT rc;simp -implicitDefEqProofs only[fJ,fV,nB,om,Ac,qm,xB,yN,A6,List.all_cons,List.all_nil,one,Bool.and_self,List.length_nil,List.length_cons,List.nil_append,List.cons_append,List.getElem?_cons_zero,List.getElem?_cons_succ,jY,qU,v9,fH,fq,Cf,zA,Nat.zero_add,Nat.reduceAdd,List.set_cons_zero,List.set_cons_succ,A5,Fw,Ae,Ad,Af,gE,NP,xx,xw,re3,List.drop_zero,iA,iM',<-hd,ik h1]
 ·have i1:∀s K,eY mj [.n p.num.natAbs,.n q.den] s K=K (.n (p.num.natAbs*q.den)) s:=λs K=>uc (vI (fM hp.1 eV) (fM hq.2 eV));have i2:∀s K,eY mj [.n q.num.natAbs,.n p.den] s K=K (.n (q.num.natAbs*p.den)) s:=λs K=>uc (vI (fM hq.1 eV) (fM hp.2 eV));have i3:∀s K,eY mj [.n p.den,.n q.den] s K=K (.n (p.den*q.den)) s:=λs K=>uc (vI (fM hp.2 eV) (fM hq.2 eV));have i4:∀s K,eY (fx φ) [.b (decide (p.num<0)),.n (p.num.natAbs*q.den)] s K=K (.agg [.b (decide (p.num*q.den<0)),.n (p.num*(q.den:Int)).natAbs]) s:=λs K=>by rw[zR,UW (Ny p.num q.den)]
  have i5:∀s K,eY (fx φ) [.b (decide (q.num<0)),.n (q.num.natAbs*p.den)] s K=K (.agg [.b (decide (q.num*p.den<0)),.n (q.num*(p.den:Int)).natAbs]) s:=λs K=>by rw[zR,UW (Ny q.num p.den)]
  have l1:Lg (KB+KB+1) (p.num*(q.den:Int)).natAbs:=Oz hp.1 hq.2;have l2:Lg (KB+KB+1) (q.num*(p.den:Int)).natAbs:=Oz hq.1 hp.2;have i6:∀s K,eY oC [.agg [.b (decide (p.num*q.den<0)),.n (p.num*(q.den:Int)).natAbs],.agg [.b (decide (q.num*p.den<0)),.n (q.num*(p.den:Int)).natAbs]] s K=K (.agg [.b (decide (p.num*q.den+q.num*p.den<0)),.n (p.num*(q.den:Int)+q.num*(p.den:Int)).natAbs]) s:=za (wk (fM l1 eV) (fM l2 eV)) rfl;have iM:=Mh (φ:=φ) (z:=p.num*q.den+q.num*p.den) (b:=p.den*q.den) (fM (PA l1 l2) eV) (fM (mB hp.2 hq.2) eV) (Nat.mul_ne_zero hpn hqn) hφ;rw[<-No]at iM;have iM':=za iM rfl;unfold rc at iM';unfold nT rc;simp -implicitDefEqProofs only[fJ,fV,nB,om,Ac,qm,xB,yN,A6,List.all_cons,List.all_nil,one,Bool.and_self,List.length_nil,List.length_cons,List.nil_append,List.cons_append,List.getElem?_cons_zero,List.getElem?_cons_succ,jY,qU,v9,fH,fq,Cf,zA,Nat.zero_add,Nat.reduceAdd,List.set_cons_zero,List.set_cons_succ,A5,Qt,Fw,Ae,Ad,Af,gE,NP,xx,xw,re3,List.drop_zero,i1,i2,i3,i4,i5,i6,iM',ik hd]
def Ka(hp:Qz KB p)(hq:Qz KB q)(hφ:gW φ):ji φ [rc p,rc q]=some (rc (p*q)):=by
 have hpn:=p.den_nz;have hqn:=q.den_nz;have iA:∀s K,eY lI [.agg [.b (decide (p.num<0)),.n p.num.natAbs],.agg [.b (decide (q.num<0)),.n q.num.natAbs]] s K=K (.agg [.b (decide (p.num*q.num<0)),.n (p.num*q.num).natAbs]) s:=za (Dw (fM hp.1 eV) (fM hq.1 eV)) rfl;have iW:∀(x:Bool)(a:Nat) s K,eY (kN φ) [.agg [.b x,.n a]] s K=K (.agg [.b x,.n a,.n 1]) s:=λx a=>GM JG rfl;have i3:∀s K,eY mj [.n p.den,.n q.den] s K=K (.n (p.den*q.den)) s:=λs K=>uc (vI (fM hp.2 eV) (fM hq.2 eV));have l1:Lg (KB+KB+1) (p.num*q.num).natAbs:=by rw[bt];exact mB hp.1 hq.1
 have iM:=Mh (φ:=φ) (z:=p.num*q.num) (b:=p.den*q.den) (fM l1 eV) (fM (mB hp.2 hq.2) eV) (Nat.mul_ne_zero hpn hqn) hφ;rw[<-Te]at iM;have iM':=za iM rfl;unfold rc at iM';by_cases h1:p.den=1
 ·by_cases h2:q.den=1
  ·have e:p*q=mkRat (p.num*q.num) 1:=by rw[Te,h1,h2]
   rw[e,TL];unfold ji rc;simp -implicitDefEqProofs only[fJ,fV,nB,om,Ac,qm,xB,yN,A6,List.all_cons,List.all_nil,one,Bool.and_self,List.length_nil,List.length_cons,List.nil_append,List.cons_append,List.getElem?_cons_zero,List.getElem?_cons_succ,jY,qU,v9,fH,fq,Cf,zA,NY,Mp,Nat.zero_add,Nat.reduceAdd,List.set_cons_zero,List.set_cons_succ,A5,Fw,Ae,Ad,Af,gE,xx,xw,re3,List.drop_zero,Ve,iA,iW,h1,h2]
  ·unfold ji rc;rw[h1]at i3 iM' ⊢;simp -implicitDefEqProofs only[fJ,fV,nB,om,Ac,qm,xB,yN,A6,List.all_cons,List.all_nil,one,Bool.and_self,List.length_nil,List.length_cons,List.nil_append,List.cons_append,List.getElem?_cons_zero,List.getElem?_cons_succ,jY,qU,v9,fH,fq,Cf,zA,NY,Mp,Nat.zero_add,Nat.reduceAdd,List.set_cons_zero,List.set_cons_succ,A5,Fw,Ae,Ad,Af,gE,NP,xx,xw,re3,List.drop_zero,Ve,iA,i3,iM',ik h2]
 ·unfold ji rc;simp -implicitDefEqProofs only[fJ,fV,nB,om,Ac,qm,xB,yN,A6,List.all_cons,List.all_nil,one,Bool.and_self,List.length_nil,List.length_cons,List.nil_append,List.cons_append,List.getElem?_cons_zero,List.getElem?_cons_succ,jY,qU,v9,fH,fq,Cf,zA,NY,Mp,Nat.zero_add,Nat.reduceAdd,List.set_cons_zero,List.set_cons_succ,A5,Fw,Ae,Ad,Af,gE,NP,xx,xw,re3,List.drop_zero,QE,iA,i3,iM',ik h1]
def z4a:tW φ [rc p]=some (rc (-p)):=by
 have i1:∀s K,eY tg [.agg [.b (decide (p.num<0)),.n p.num.natAbs]] s K=K (.agg [.b (decide (-p.num<0)),.n (-p.num).natAbs]) s:=GM Du rfl;unfold tW rc;rw[Rat.neg_num,Rat.neg_den];simp -implicitDefEqProofs only[fJ,fV,nB,om,Ac,qm,xB,yN,A6,List.all_cons,List.all_nil,one,Bool.and_self,List.length_nil,List.length_cons,List.nil_append,List.cons_append,List.getElem?_cons_zero,List.getElem?_cons_succ,jY,qU,v9,fH,Nat.zero_add,Nat.reduceAdd,List.set_cons_zero,List.set_cons_succ,A5,Fw,Ae,Ad,Af,gE,kb3,xx,xw,re3,List.drop_zero,i1]
def z0m(hp:Qz KB p)(hq:Qz KB q)(hφ:gW φ):rW φ [rc p,rc q]=some (rc (p-q)):=by
 have h1:=UY (z4a (φ:=φ) (p:=q)) rfl;have hq':Qz KB (-q):=⟨by rw[Rat.neg_num,Int.natAbs_neg];exact hq.1,by rw[Rat.neg_den];exact hq.2⟩
 have h2:=UX (Ws hp hq' hφ) rfl;rw[<-Rat.sub_eq_add_neg]at h2;unfold rc at h1 h2;unfold rW rc;simp -implicitDefEqProofs only[fJ,fV,nB,om,Ac,yN,A6,List.all_cons,List.all_nil,one,Bool.and_self,List.length_nil,List.length_cons,List.nil_append,List.cons_append,List.getElem?_cons_zero,List.getElem?_cons_succ,jY,qU,v9,fH,Nat.zero_add,Nat.reduceAdd,List.set_cons_zero,List.set_cons_succ,A5,Fw,Ae,Ad,Af,gE,xx,xw,re3,List.drop_zero,h1,h2]
def F7:p.num.natAbs=0↔p=0:=by
 constructor
 ·intro h;exact Rat.ext (by show p.num=0;omega) (by
   have:=p.reduced;rw[h]at this;simpa using this)
 ·rintro rfl;rfl
def Y0:Nat.beq p.num.natAbs 0=decide (p=0):=by
 rw[z1B];by_cases h:p=0
 ·rw[ac h,ac (F7.2 h)]
 ·rw[aU h,aU (λh'=>h (F7.1 h'))]
def AL:mX φ [rc p]=some (.b (decide (p=0))):=by
 unfold mX rc;simp -implicitDefEqProofs only[fJ,fV,nB,om,qm,xB,List.all_cons,List.all_nil,one,Bool.and_self,List.length_nil,List.nil_append,List.getElem?_cons_zero,List.getElem?_cons_succ,jY,qU,fH,Cf,Nat.zero_add,z49,Y0]
def J3(h:p≠0):(p⁻¹).num=zt (decide (p.num<0)) p.den/\(p⁻¹).den=p.num.natAbs:=by
 have hn:p.num≠0:=λe=>h (F7.1 eP);rw[Rat.num_inv,Rat.den_inv,aG hn];refine⟨?_,rfl⟩;unfold zt;by_cases h0:p.num<0
 ·rw[ac h0,aF rfl,Int.sign_eq_neg_one_of_neg h0];omega
 ·rw[aU h0,aG fU,Int.sign_eq_one_of_pos eP];omega
def z0k(h:p≠0):rc p⁻¹=.agg [.b (decide (p.num<0)),.n p.den,.n p.num.natAbs]:=by
 obtain⟨h1,h2⟩:=J3 h;have:=p.den_nz;unfold rc;rw[h1,h2,Ar,MH,z1B,aU this];simp
def CC(h:p≠0):kR φ [rc p]=some (rc p⁻¹):=by
 rw[z0k h];unfold kR rc;simp -implicitDefEqProofs only[fJ,fV,nB,om,Ac,qm,xB,yN,A6,List.all_cons,List.all_nil,one,Bool.and_self,List.length_nil,List.length_cons,List.nil_append,List.cons_append,List.getElem?_cons_zero,List.getElem?_cons_succ,jY,qU,v9,fH,Nat.zero_add,Nat.reduceAdd,List.set_cons_zero,List.set_cons_succ,A5,Fw,Ae,Ad,Af,gE,kb3,kb2,xx,xw,re3,List.drop_zero]
def Hi:iZ φ [fB]=some (rc 0):=eX
def z2z:iZ φ [ej]=some (rc 1):=eX
def Me(h:Qz k p):Qz k p⁻¹:=by
 by_cases h0:p=0
 ·subst h0;rw[Rat.inv_zero];exact h
 ·obtain⟨h1,h2⟩:=J3 h0;exact⟨by rw[h1,Ar];exact h.2,by rw[h2];exact h.1⟩
end
end
end Go.Proofs.YthljpappkomocaaGreat
namespace Go.Proofs.Ev
noncomputable section
def Hb(D N:Nat)(l:Row):Prop:=∀i,Ht D N (ent l i)
section
variable {f g:Row} {D N E M n i k:Nat}
def PQ{v:Nat->Rat}(h:∀i,Ht D N (v i)):∀n,Ht D (n*N) (FE v n)
 |0=>PR PP (aJ _)
 |n+1=>by
  have:=z11 (PQ h n) (h n);rw[aS,ao];exact this
def pmV(f g:Row)(n:Nat):Vec:=λk=>FE (λi=>if i<=k then ent f i*ent g (k-i)else 0) n
def Wt:pmV f g f.length=Qj f g:=rfl
def z0r(hf:Hb D N f)(hg:Hb E M g):Ht (D*E) (n*(N*M)) (pmV f g n k):=
 PQ (λi=>by
  by_cases h:i<=k
  ·rw[aF h];exact U6 (hf i) (hg _)
  ·rw[aG h];exact PR PP (aJ _)) n
def TV(h:ent f i=0):pmV f g (i+1) k=pmV f g i k:=by
 show pmV f g i k+(if i<=k then ent f i*ent g (k-i)else 0)=_;rw[h];split<;>grind
def TW:pmV f g (i+1) k=pmV f g i k+(if i<=k then ent f i*ent g (k-i)else 0):=rfl
end
section
end
def pwL(g a:Row):Nat->Row
 |0=>[1]
 |j+1=>TP g (wf (pwL g a j) a)
section
variable {g a:Row} {M D N d j k x:Nat}
def NK(h:Lg k x):∀j,Lg ((k+1)*j) (x^j)
 |0=>by rw[dI];show Nat.log2 1<=_;rw[show Nat.log2 1=0 from by decide];exact aJ _
 |j+1=>by
  rw[bI];refine fM (mB (NK h j) h) ?_;rw[bK,a9];omega
def pwc(d N M:Nat):Nat:=d*N*(1+M)^d
structure EL (g a:Row) (d D N M:Nat):Prop where
 hm:g.length=d+1
 hd:1<=d
 hd5:d<=5
 hg:Hb 1 M g
 h1:ent g d=1
 ha:Hb D N a
 hal:a.length<=d
 d0:0<D
 lD:Lg 330 D
 lN:Lg 330 N
 lM:Lg 40 M
end
section
end
end
end Go.Proofs.Ev
namespace Go.Proofs.Ev
section
variable {g q v:Nat->Int} {n k dg dq:Nat}
def sI(v:Nat->Int):Nat->Int
 |0=>0
 |n+1=>sI v n+v n
def cvI(g q:Nat->Int)(k:Nat):Int:=sI (λi=>g i*q (k-i)) (k+1)
def It(v:Nat->Int):∀n:Nat,(∀i,i<n->v i%2=0)->sI v n%2=0
 |0,_=>rfl
 |n+1,h=>by
  have h1:=It v n λi hi=>h i (zn9 hi);have h2:=h n (co n);show(sI v n+v n)%2=0;omega
def Br:∀n:Nat,sI v (n+1)=v 0+sI (λi=>v (i+1)) n
 |0=>by show 0+v 0=v 0+0;omega
 |n+1=>by
  show sI v (n+1)+v (n+1)=v 0+(sI (λi=>v (i+1)) n+v (n+1))
  rw[Br n];omega
def Ff{a b:Int}(h:a%2=0):a*b%2=0:=by rw[Int.mul_emod,h];simp
def Fe{a b:Int}(h:b%2=0):a*b%2=0:=by rw[Int.mul_emod,h];simp
def ED{a b:Int}(h:a*b%2=0)(hb:b%2=1):a%2=0:=by
 rw[Int.mul_emod,hb]at h;omega
def z3d(hf:∀k,k<n->cvI g q k%2=0)(h0:q 0%2=1):∀k,k<n->g k%2=0:=by
 intro k
 induction k using Nat.strongRecOn with
 |ind k ih=>
  intro hk;have h1:=hf k hk;have h2:sI (λi=>g i*q (k-i)) k%2=0:=It _ _ λi hi=>Ff (ih i hi eP);have h3:cvI g q k=sI (λi=>g i*q (k-i)) k+g k*q 0:=by
   show sI (λi=>g i*q (k-i)) k+g k*q (k-k)=_;rw[bD]
  exact ED (b:=q 0) eP h0
def z3c(hf:∀k,k<n->cvI g q k%2=0)(h0:g 0%2=1):∀k,k<n->q k%2=0:=by
 intro k
 induction k using Nat.strongRecOn with
 |ind k ih=>
  intro hk;have h1:=hf k hk;have h2:sI (λi=>g (i+1)*q (k-(i+1))) k%2=0:=It _ _ λi hi=>Fe (ih _ eP eP);have h3:cvI g q k=g 0*q k+sI (λi=>g (i+1)*q (k-(i+1))) k:=Br k;have h4:q k*g 0%2=0:=by rw[eM];omega
  exact ED h4 h0
def N9(hn:1<=n)(hf0:cvI g q 0%4=2)(hf:∀k,0<k->k<n->cvI g q k=0)(hg:g dg%2=1)(hq:q dq%2=1)(hd:dg+dq=n):dg=0\/dq=0:=by
 have he:∀k,k<n->cvI g q k%2=0:=λk hk=>by
  rcases bT k with rfl|h
  ·omega
  ·rw[hf k h hk];rfl
 have h00:cvI g q 0=g 0*q 0:=by show 0+g 0*q 0=_;omega
 rw[h00]at hf0;rcases zmV (q 0)with h|h
 ·rcases zmV (g 0)with h'|h'
  ·exfalso;obtain⟨a,ha⟩:∃a,g 0=2*a:=⟨g 0/2,eP⟩
   obtain⟨b,hb⟩:∃b,q 0=2*b:=⟨q 0/2,eP⟩
   rw[ha,hb,show 2*a*(2*b)=4*(a*b) by grind]at hf0;omega
  ·left;rcases aY dq n with h1|h1
   ·have:=z3c he h' dq h1;omega
   ·omega
 ·right;rcases aY dg n with h1|h1
  ·have:=z3d he h dg h1;omega
  ·omega
end
section
variable {u v w:Nat->Int} {f g:fZ} {n k:Nat} {a c m:Int}
def ei(l:fZ)(i:Nat):Int:=l.getD i 0
def shI(u:Nat->Int):Nat->Int
 |0=>0
 |k+1=>u k
def act:fZ->(Nat->Int)->Nat->Int
 |[],_=>λ_=>0
 |a::f,u=>λk=>a*u k+shI (act f u) k
def e0I:Nat->Int
 |0=>1
 |_+1=>0
def We:shI (λk=>u k+c*v k)=λk=>shI u k+c*shI v k:=by
 funext k;cases k with
 |zero=>show(0:Int)=0+c*0;omega
 |succ k=>rfl
def QO:∀f:fZ,act f (λk=>u k+c*v k)=λk=>act f u k+c*act f v k
 |[]=>by funext k;show(0:Int)=0+c*0;omega
 |a::f=>by
  funext k;show a*(u k+c*v k)+shI (act f λk=>u k+c*v k) k=a*u k+shI (act f u) k+c*(a*v k+shI (act f v) k);rw[QO f,We];grind
def WC:∀f:fZ,act f (shI u)=shI (act f u)
 |[]=>by funext k;cases k<;>rfl
 |a::f=>by
  funext k;show a*shI u k+shI (act f (shI u)) k=shI (λk=>a*u k+shI (act f u) k) k;rw[WC f];cases k with
  |zero=>show a*0+0=(0:Int);omega
  |succ k=>rfl
def Gu:∀f g:fZ,act f (act g u)=act g (act f u)
 |[],g=>by
  have:∀g:fZ,act g (λ_=>0)=λ_=>0:=by
   intro g
   induction g with
   |nil=>rfl
   |cons a g ih=>
    funext k;show a*0+shI (act g λ_=>0) k=0;rw[ih];cases k with
    |zero=>show a*0+0=(0:Int);omega
    |succ k=>show a*0+0=(0:Int);omega
  exact(this g).symm
 |a::f,g=>by
  have h1:act (a::f) u=λk=>shI (act f u) k+a*u k:=by
   funext k;show a*u k+shI (act f u) k=_;omega
  rw[h1,QO,WC,<-Gu f g];funext k;show a*act g u k+shI (act f (act g u)) k=_;omega
def Np:∀f:fZ,act f e0I=ei f
 |[]=>by funext k;rfl
 |a::f=>by
  funext k;show a*e0I k+shI (act f e0I) k=ei (a::f) k;rw[Np f];cases k with
  |zero=>show a*1+0=a;omega
  |succ k=>show a*0+ei f k=ei f k;omega
def Qc(f g:fZ):act f (ei g)=act g (ei f):=by rw[<-Np g,Gu,Np]
def V0{w:Nat->Int}:cvI w u k=w 0*u k+shI (cvI (λi=>w (i+1)) u) k:=by
 unfold cvI;rw[Br];cases k with
 |zero=>show w 0*u (0-0)+0=w 0*u 0+0;rfl
 |succ k=>
  show w 0*u (k+1-0)+sI (λi=>w (i+1)*u (k+1-(i+1))) (k+1)=w 0*u (k+1)+sI (λi=>w (i+1)*u (k-i)) (k+1);rw[zne,show(λi=>w (i+1)*u (k+1-(i+1)))=λi=>w (i+1)*u (k-i)from funext λi=>by rw[eO]]
def y8:∀f:fZ,act f u=cvI (ei f) u
 |[]=>by
  funext k;show(0:Int)=_;have:∀n,sI (λi=>ei [] i*u (k-i)) n=0:=by
   intro n
   induction n with
   |zero=>rfl
   |succ n ih=>show sI _ n+ei [] n*u (k-n)=0;rw[ih];show 0+0*u (k-n)=(0:Int);omega
  exact(this _).symm
 |a::f=>by
  funext k;rw[V0];show a*u k+shI (act f u) k=_;rw[y8 f];rfl
def Cg(m:Int)(u v:Nat->Int):Prop:=∀k,∃z,u k=v k+m*z
def Cg.rfl':Cg m u u:=λk=>⟨0,eP⟩
end
section
variable {u v w u' v':Nat->Int} {h:fZ} {n k:Nat}
def t6:∀n:Nat,(∀i,i<n->u i=v i)->sI u n=sI v n
 |0,_=>rfl
 |n+1,h=>by
  show sI u n+u n=sI v n+v n;rw[t6 n λi hi=>h i (zn9 hi),h n (co n)]
def M5:∀n:Nat,sI (λi=>u i+v i) n=sI u n+sI v n
 |0=>rfl
 |n+1=>by
  show sI (λi=>u i+v i) n+(u n+v n)=sI u n+u n+(sI v n+v n)
  rw[M5 n];omega
def xe(h:∀i,i<=k->u i=u' i)(h':∀i,i<=k->v i=v' i):cvI u v k=cvI u' v' k:=
 t6 _ λi hi=>by rw[h i eP,h' (k-i) eP]
def trI(u:Nat->Int)(n:Nat):fZ:=(List.range n).map u
def Ph(h:k<n):ei (trI u n) k=u k:=by
 unfold ei trI;rw[aB,af,cf h];rfl
def Ek:cvI u v k=cvI v u k:=by
 have h1:∀i,i<=k->u i=ei (trI u (k+1)) i:=λi hi=>(Ph eP).symm;have h2:∀i,i<=k->v i=ei (trI v (k+1)) i:=λi hi=>(Ph eP).symm;rw[xe h1 h2,xe h2 h1,<-y8,<-y8,Qc]
def VZ:cvI (cvI u v) w k=cvI u (cvI v w) k:=by
 have h1:∀i,i<=k->u i=ei (trI u (k+1)) i:=λi hi=>(Ph eP).symm;have h2:∀i,i<=k->w i=ei (trI w (k+1)) i:=λi hi=>(Ph eP).symm;rw[Ek,xe (u:=w) (v:=cvI u v) h2 λi hi=>xe (λj hj=>h1 j eP) λj hj=>rfl];rw[xe (u:=u) (v:=cvI v w) h1 λi hi=>(Ek (u:=v) (v:=w)).trans (xe (λj hj=>h2 j eP) λj hj=>rfl)];rw[<-y8,<-y8,<-y8,<-y8,Gu]
end
structure ZX where
 c:Nat->Int
def ZX.ext'{x y:ZX}(h:∀k,x.c k=y.c k):x=y:=by
 cases x;cases y;congr;exact funext h
def ZX.C(a:Int):ZX:=⟨λk=>match k with|0=>a|_+1=>0⟩
def ZX.C_mul{a:Int}{v:Nat->Int}{k:Nat}:cvI (ZX.C a).c v k=a*v k:=by
 have h:(ZX.C a).c=ei [a]:=by
  funext k;cases k<;>rfl
 rw[h,<-y8];cases k with
 |zero=>show a*v 0+0=_;omega
 |succ k=>show a*v (k+1)+0=_;omega
instance:Add ZX:=⟨λx y=>⟨λk=>x.c k+y.c k⟩⟩
instance:Mul ZX:=⟨λx y=>⟨cvI x.c y.c⟩⟩
instance:Neg ZX:=⟨λx=>⟨λk=> -x.c k⟩⟩
instance:_root_.Sub ZX:=⟨λx y=>⟨λk=>x.c k-y.c k⟩⟩
instance {n:Nat}:OfNat ZX n:=⟨ZX.C n⟩
def ZX.pow(x:ZX):Nat->ZX
 |0=>ZX.C 1
 |n+1=>ZX.pow x n*x
instance:HPow ZX Nat ZX:=⟨ZX.pow⟩
def ZX.mul_comm'(x y:ZX):x*y=y*x:=ZX.ext' λk=>Ek
def ZX.mul_one'(x:ZX):x*1=x:=ZX.ext' λk=>by
 show cvI x.c (ZX.C 1).c k=x.c k;rw[Ek,ZX.C_mul,Int.one_mul]
def ZX.left'(x y z:ZX):x*(y+z)=x*y+x*z:=ZX.ext' λk=>by
 show cvI x.c (λk=>y.c k+z.c k) k=cvI x.c y.c k+cvI x.c z.c k;unfold cvI;rw[<-M5];exact t6 _ λi hi=>Int.mul_add _ _ _
def ZX.zero'(x:ZX):0*x=0:=ZX.ext' λk=>by
 show cvI (ZX.C 0).c x.c k=(ZX.C 0).c k;rw[ZX.C_mul];cases k<;>(show 0*_=(0:Int);omega)
def ZX.rgt(x y z:ZX):(x+y)*z=x*z+y*z:=by rw[ZX.mul_comm' (x+y) z,ZX.left',ZX.mul_comm' z x,ZX.mul_comm' z y]
def ZX.mul_asc(x y z:ZX):x*y*z=x*(y*z):=ZX.ext' λk=>VZ
def ZX.mul_lc(x y z:ZX):x*(y*z)=y*(x*z):=by rw[<-ZX.mul_asc,ZX.mul_comm' x y,ZX.mul_asc]
def ZX.one_mul'(x:ZX):1*x=x:=(ZX.mul_comm' _ _).trans (ZX.mul_one' x)
def ZX.mul_zero'(x:ZX):x*0=0:=(ZX.mul_comm' _ _).trans (ZX.zero' x)
def ZX.zero_c'(k:Nat):(0:ZX).c k=0:=by cases k<;>rfl
def z6a{u:Nat->Int}:∀n:Nat,sI (λi=> -u i) n= -sI u n
 |0=>rfl
 |n+1=>by
  show sI (λi=> -u i) n+ -u n= -(sI u n+u n);rw[z6a n];omega
def ZX.neg_mul'(x y:ZX): -x*y= -(x*y):=ZX.ext' λk=>by
 show sI (λi=> -x.c i*y.c (k-i)) (k+1)= -sI (λi=>x.c i*y.c (k-i)) (k+1);rw[<-z6a];exact t6 _ λi hi=>Int.neg_mul _ _
def ZX.mul_neg'(x y:ZX):x* -y= -(x*y):=by rw[ZX.mul_comm',ZX.neg_mul',ZX.mul_comm']
def ZX.sub_neg(x y:ZX):x-y=x+ -y:=ZX.ext' λk=>zmz
def ZX.ac(x y:ZX)(k:Nat):(x+y).c k=x.c k+y.c k:=rfl
def ZX.nc(x:ZX)(k:Nat):(-x).c k= -x.c k:=rfl
def zrg{x y:ZX}(h:x=y:=by(try simp only[ZX.sub_neg,ZX.left',ZX.rgt,ZX.neg_mul',ZX.mul_neg',ZX.one_mul',ZX.mul_one',ZX.zero',ZX.mul_zero',ZX.mul_asc,ZX.mul_comm',ZX.mul_lc])<;>(refine ZX.ext' λk=>?_;(try simp only[ZX.ac,ZX.nc,ZX.zero_c'])<;>omega)):x=y:=h
def z69{p:Prop}(h:p:=by first|exact zrg|grind):p:=h
section
end
section
variable {n k N d a b:Nat} {m:Int} {x y z h q r:ZX}
def tI(n:Nat)(x:ZX):Prop:=∀k,n<=k->x.c k=0
structure MonZ (d:Nat) (x:ZX):Prop where
 one:x.c d=1
 low:tI (d+1) x
def DvZ(m:Int)(n:Nat)(x:ZX):Prop:=∀k,n<=k->∃z,x.c k=m*z
def wL(hx:tI a x)(hy:tI b y):tI (a+b-1) (x*y):=λk hk=>by
 show cvI x.c y.c k=0;have:∀n,sI (λi=>x.c i*y.c (k-i)) n=0:=by
  intro n
  induction n with
  |zero=>rfl
  |succ n ih=>
   show sI _ n+x.c n*y.c (k-n)=0;rw[ih];rcases aY n a with h|h
   ·rw[hy (k-n) eP];omega
   ·rw[hx n h];omega
 exact this _
def Kv(hx:tI a x)(hy:tI a y):tI a (x+y):=λk hk=>by
 show x.c k+y.c k=0;rw[hx k hk,hy k hk];rfl
def AR(hx:tI a x)(h:a<=b):tI b x:=λk hk=>hx k (aX h hk)
def OG(hx:tI (a+1) x)(hy:tI (b+1) y):(x*y).c (a+b)=x.c a*y.c b:=by
 show sI (λi=>x.c i*y.c (a+b-i)) (a+b+1)=_;have:∀n,sI (λi=>x.c i*y.c (a+b-i)) n=if a<n then x.c a*y.c b else 0:=by
  intro n
  induction n with
  |zero=>rfl
  |succ n ih=>
   show sI _ n+x.c n*y.c (a+b-n)=_;rw[ih];rcases cy n a with h|h|h
   ·rw[aG eP,aG eP,hy (a+b-n) eP];omega
   ·subst h;rw[aG eP,aF eP,Nat.add_sub_cancel_left];omega
   ·rw[aF h,aF eP,hx n eP];omega
 rw[this,aF eP]
def Ko(hx:MonZ a x)(hy:MonZ b y):MonZ (a+b) (x*y):=
 ⟨by rw[OG hx.low hy.low,hx.one,hy.one];rfl,λk hk=>wL hx.low hy.low k eP⟩
def xQ(hh:MonZ d h)(hu:tI N x)(hd:DvZ m (n+d) (h*x)):DvZ m n x:=by
 have key:∀j k,k+j=N->n<=k->∃z,x.c k=m*z:=by
  intro j
  induction j using Nat.strongRecOn with
  |ind j ih=>
   intro k hk hn;have hup:∀i,k<i->∃z,x.c i=m*z:=λi hi=>by
    rcases aY i N with h1|h1
    ·exact ih (N-i) eP i eP eP
    ·exact⟨0,by rw[hu i h1];omega⟩
   have hs:∀n',∃z,sI (λi=>h.c i*x.c (k+d-i)) n'=(if d<n' then x.c k else 0)+m*z:=by
    intro n'
    induction n' with
    |zero=>exact⟨0,by show(0:Int)=0+m*0;omega⟩
    |succ n' ih'=>
     obtain⟨z,hz⟩:=ih';rcases cy n' d with h1|h1|h1
     ·obtain⟨y,hy⟩:=hup (k+d-n') eP;refine⟨z+h.c n'*y,?_⟩;show sI _ n'+h.c n'*x.c (k+d-n')=_;rw[hz,aG eP,aG eP,hy];exact z69
     ·subst h1;refine⟨z,?_⟩;show sI _ n'+h.c n'*x.c (k+n'-n')=_;rw[hz,aG eP,aF eP,hh.one,au];exact z69
     ·refine⟨z,?_⟩;show sI _ n'+h.c n'*x.c (k+d-n')=_;rw[hz,aF h1,aF eP,hh.low n' eP];omega
   obtain⟨z,hz⟩:=hs (k+d+1);rw[aF eP]at hz;obtain⟨y,hy⟩:=hd (k+d) eP;have hy':sI (λi=>h.c i*x.c (k+d-i)) (k+d+1)=m*y:=hy;exact⟨y-z,by rw[hy']at hz;exact z69⟩
 intro k hk;rcases aY k N with h1|h1
 ·exact key (N-k) k eP hk
 ·exact⟨0,by rw[hu k h1];omega⟩
def YO(h:DvZ m 0 x):∃y:ZX,x=ZX.C m*y:=by
 refine⟨⟨λk=>Classical.choose (h k (aJ _))⟩,ZX.ext' λk=>?_⟩;show x.c k=cvI (ZX.C m).c _ k;rw[ZX.C_mul];exact Classical.choose_spec (h k (aJ _))
def VP(hh:MonZ d h)(hq:tI N q)(hr:tI d r)(he:∃y:ZX,q*h+r=ZX.C m*y):(∃y:ZX,q=ZX.C m*y)/\∃y:ZX,r=ZX.C m*y:=by
 obtain⟨y,hy⟩:=he;have h1:DvZ m 0 q:=xQ hh hq λk hk=>by
  have e1:(h*q).c k=(q*h+r).c k:=by
   show(h*q).c k=(q*h).c k+r.c k;rw[hr k eP,ZX.mul_comm' h q];omega
  rw[e1,hy];exact⟨y.c k,ZX.C_mul⟩
 obtain⟨z,hz⟩:=YO h1;refine⟨⟨z,hz⟩,y-z*h,?_⟩;have:r=ZX.C m*y-q*h:=by rw[<-hy];exact z69
 rw[this,hz];exact z69
end
section
variable {k N a b:Nat} {m M:Int} {x y z h q r g f e s t g' h':ZX}
def RdZ(M:Int)(x:ZX):Prop:=∀k,0<=x.c k/\x.c k<M
def sB{a b:Int}:ZX.C (a*b)=ZX.C a*ZX.C b:=ZX.ext' λk=>by
 show(ZX.C (a*b)).c k=cvI (ZX.C a).c (ZX.C b).c k;rw[ZX.C_mul];cases k with
 |zero=>rfl
 |succ k=>show(0:Int)=a*0;omega
def z2t{v c z:Int}(h0:0<=v)(h1:v<M)(hc:0<=c)(hc1:c<M)(h:v=c+M*z):v=c:=by
 have e1:v%M=v:=eK h0 h1;have e2:(c+M*z)%M=c:=by rw[zmp,eK hc hc1]
 rw[<-e1,h,e2]
def Ov(hm:2<=M)(hg:MonZ a g)(hd:DvZ M a x)(hr:RdZ M g')(he:g'=g+x+ZX.C M*y):MonZ a g':=by
 have hc:∀k,a<=k->g'.c k=g.c k:=λk hk=>by
  obtain⟨z,hz⟩:=hd k hk;have e1:g'.c k=g.c k+M*(z+y.c k):=by
   rw[he];show g.c k+x.c k+cvI (ZX.C M).c y.c k=_;rw[ZX.C_mul,hz];exact z69
  have hgk:g.c k=0\/g.c k=1:=by
   rcases Nat.eq_or_lt_of_le hk with h|h
   ·right;rw[<-h];exact hg.one
   ·left;exact hg.low k eP
  exact z2t (hr k).1 (hr k).2 eP eP e1
 exact⟨by rw[hc a (aC _)];exact hg.one,λk hk=>by rw[hc k eP];exact hg.low k hk⟩
def ri1(A B C:ZX):B=A+B+C-A-C:=z69
def ri2(s e g t h q M z:ZX):h*(t*e+q*g)=e*(s*g+t*h)-g*(s*e-q*h-M*z)-g*(M*z):=z69
def ri3(e g r x w M z y:ZX):e*(1+M*x)-g*r-g*(M*M*z)=e-g*r+(M*x*e-g*(M*M*z)):=z69
def ri4(M x y g z:ZX):M*x*(M*y)-g*(M*M*z)=M*M*(x*y-g*z):=z69
def J4(hm:2<=m*m)(hg:MonZ a g)(hh:MonZ b h)(c1:∃y,f-g*h=ZX.C m*y)(c2:∃x,s*g+t*h=1+ZX.C m*x)
 (he:∃z,e=f-g*h+ZX.C (m*m)*z) (hle:tI (a+b) e) (hq:∃z,s*e=q*h+r+ZX.C (m*m)*z) (hlq:tI N q) (hlr:tI b r) (hlt:tI N t)
 (hg':∃z,g'=g+(t*e+q*g)+ZX.C (m*m)*z) (hrg:RdZ (m*m) g') (hh':∃z,h'=h+r+ZX.C (m*m)*z) (hrh:RdZ (m*m) h'):
 MonZ a g'/\MonZ b h'/\(∃w,f-g'*h'=ZX.C (m*m)*w)/\(∃g1,g'=g+ZX.C m*g1)/\∃h1,h'=h+ZX.C m*h1:=by
 obtain⟨y,hy⟩:=c1;obtain⟨x,hx⟩:=c2;obtain⟨z1,hz1⟩:=he;obtain⟨z2,hz2⟩:=hq;obtain⟨z3,hz3⟩:=hg';obtain⟨z4,hz4⟩:=hh';have zeh:=hz3;have zeg:=hz4;rw[sB]at hz1 hz2 hz3 hz4;have heY:e=ZX.C m*(y+ZX.C m*z1):=by rw[hz1,hy];exact z69
 have hqr:q*h+r=ZX.C m*(s*(y+ZX.C m*z1)-ZX.C m*z2):=by
  have:q*h+r=s*e-ZX.C m*ZX.C m*z2:=by rw[hz2];exact z69
  rw[this,heY];exact z69
 obtain⟨⟨q1,hq1⟩,r1,hr1⟩:=VP hh hlq hlr ⟨_,hqr⟩;have z8x:h*(t*e+q*g)=e-g*r+ZX.C (m*m)*(x*(y+ZX.C m*z1)-g*z2):=by
  have e0:r=s*e-q*h-ZX.C m*ZX.C m*z2:=by rw[hz2];exact ri1 _ _ _
  have e1:h*(t*e+q*g)=e*(s*g+t*h)-g*r-g*(ZX.C m*ZX.C m*z2):=by
   conv=>rhs;rw[e0]
   exact ri2 _ _ _ _ _ _ _ _
  rw[e1,hx,sB,ri3 e g r x x (ZX.C m) z2 x,<-ri4,<-heY]
 have z8k:tI (N+(a+b)+(N+(a+1))) (t*e+q*g):=
  Kv (AR (wL hlt hle) eP) (AR (wL hlq hg.low) eP)
 have hdv:DvZ (m*m) a (t*e+q*g):=xQ hh z8k λk hk=>by
  rw[z8x];refine⟨(x*(y+ZX.C m*z1)-g*z2).c k,?_⟩;show e.c k-(g*r).c k+cvI (ZX.C (m*m)).c _ k=_;rw[ZX.C_mul,hle k eP,wL hg.low hlr k eP];omega
 refine⟨Ov hm hg hdv hrg zeh,Ov hm hh (λk hk=>⟨0,by rw[hlr k hk];omega⟩) hrh zeg,?_,⟨t*(y+ZX.C m*z1)+q1*g+ZX.C m*z3,by rw[hz3,heY,hq1];exact z69⟩,⟨r1+ZX.C m*z4,by rw[hz4,hr1];exact z69⟩⟩;generalize hB:t*e+q*g=B at*;have hB1:B=ZX.C m*(t*(y+ZX.C m*z1)+q1*g):=by rw[<-hB,heY,hq1];exact z69
 have hf:f=g*h+e-ZX.C m*ZX.C m*z1:=by rw[hz1];exact z69
 rw[sB]at z8x ⊢;refine⟨-z1-(x*(y+ZX.C m*z1)-g*z2)-r1*(t*(y+ZX.C m*z1)+q1*g)-z3*h'-(g+B)*z4,?_⟩;have e1:f-g'*h'=f-(g+B)*(h+r)-ZX.C m*ZX.C m*z3*h'-(g+B)*(ZX.C m*ZX.C m*z4):=by
  rw[hz3];have:(g+B)*h'=(g+B)*(h+r)+(g+B)*(ZX.C m*ZX.C m*z4):=by rw[hz4];exact z69
  have e0:((g+B)+ZX.C m*ZX.C m*z3)*h'=(g+B)*h'+ZX.C m*ZX.C m*z3*h':=z69;rw[e0,this];exact z69
 have e2:(g+B)*(h+r)=g*h+g*r+h*B+r*B:=z69;have e3:r*B=ZX.C m*ZX.C m*(r1*(t*(y+ZX.C m*z1)+q1*g)):=by
  conv=>lhs;rw[hr1,hB1]
  exact z69
 rw[e1,e2,e3,z8x];generalize r1*(t*(y+ZX.C m*z1)+q1*g)=R;generalize x*(y+ZX.C m*z1)-g*z2=S;rw[hf];exact z69
end
section
variable {m:Int} {x h q r g d s t g' h' s' t':ZX}
def rj1(s g t h M x g1 h1 z:ZX)(hx:s*g+t*h=1+M*x):s*(g+M*g1)+t*(h+M*h1)-1+M*M*z=M*(x+s*g1+t*h1+M*z):=by
 have:s*(g+M*g1)+t*(h+M*h1)-1+M*M*z=(s*g+t*h)-1+M*(s*g1+t*h1+M*z):=by clear hx;exact z69
 rw[this,hx];clear this hx;exact z69
def rj2(s t r q d g h K3 K4:ZX):(s-r+K3)*g+(t-(t*d+q*g)+K4)*h=(s*g+t*h)-g*(q*h+r)-t*d*h+(K3*g+K4*h):=z69
def rj3(s d q h r K:ZX)(e:s*d=q*h+r+K):q*h+r=s*d-K:=by rw[e];clear e;exact z69
def rj4(s t d g h K2 E:ZX):(s*g+t*h)-g*(s*d-K2)-t*d*h+E=(s*g+t*h)*(1-d)+(g*K2+E):=z69
def rj5(S d K:ZX)(e:d=S-1+K):S=1+d-K:=by rw[e];clear e;exact z69
def rj6(M D z1 z2 z3 z4 g h:ZX):(1+M*D-M*M*z1)*(1-M*D)+(g*(M*M*z2)+(M*M*z3*g+M*M*z4*h))=1+M*M*(g*z2+z3*g+z4*h-z1*(1-M*D)-D*D):=z69
def Rm(c2:∃x,s*g+t*h=1+ZX.C m*x)(hg:∃g1,g'=g+ZX.C m*g1)(hh:∃h1,h'=h+ZX.C m*h1)
 (hd:∃z,d=s*g'+t*h'-1+ZX.C (m*m)*z) (hq:∃z,s*d=q*h'+r+ZX.C (m*m)*z)
 (hs:∃z,s'=s-r+ZX.C (m*m)*z) (ht:∃z,t'=t-(t*d+q*g')+ZX.C (m*m)*z):
 ∃w,s'*g'+t'*h'=1+ZX.C (m*m)*w:=by
 obtain⟨x,hx⟩:=c2;obtain⟨g1,hg1⟩:=hg;obtain⟨h1,hh1⟩:=hh;obtain⟨z1,hz1⟩:=hd;obtain⟨z2,hz2⟩:=hq;obtain⟨z3,hz3⟩:=hs;obtain⟨z4,hz4⟩:=ht;have e1:=rj5 _ _ _ hz1;have hD:d=ZX.C m*(x+s*g1+t*h1+ZX.C m*z1):=by
  rw[hz1,hg1,hh1,sB];exact rj1 _ _ _ _ _ _ _ _ _ hx
 generalize x+s*g1+t*h1+ZX.C m*z1=D0 at hD;rw[hz3,hz4,rj2,rj3 _ _ _ _ _ _ hz2,rj4,e1,sB,hD];exact⟨_,rj6 _ _ _ _ _ _ _ _⟩
end
section
variable {n dg dq:Nat} {x y f:ZX}
def Uy(hn:1<=n)(hx:tI (dg+1) x)(hx0:x.c dg≠0)(hy:tI (dq+1) y)(hy0:y.c dq≠0)(hf:MonZ n f)(h4:f.c 0%4=2)(hz:∀k,0<k->k<n->f.c k=0)(he:x*y=f):dg=0\/dg=n:=by
 have h1:=OG hx hy;rw[he]at h1;have h2:=wL hx hy;rw[he]at h2;have hne:f.c (dg+dq)≠0:=by rw[h1];exact Int.mul_ne_zero hx0 hy0
 have hle:dg+dq<=n:=by
  rcases aY n (dg+dq)with h|h
  ·exact absurd (hf.low _ eP) hne
  ·exact h
 have hge:n<=dg+dq:=by
  rcases aY (dg+dq) n with h|h
  ·have:=h2 n eP;rw[hf.one]at this;omega
  ·exact h
 have hd:dg+dq=n:=eP;rw[hd,hf.one]at h1;have ho:x.c dg%2=1/\y.c dq%2=1:=by
  rcases zmV (x.c dg)with h|h
  ·have:=Ff (b:=y.c dq) h;omega
  ·rcases zmV (y.c dq)with h'|h'
   ·have:=Fe (a:=x.c dg) h';omega
   ·exact⟨h,h'⟩
 have hcv:∀k,cvI x.c y.c k=f.c k:=λk=>by rw[<-he];rfl
 rcases N9 (g:=x.c) (q:=y.c) hn (by rw[hcv];exact h4) (λk h0 hk=>by rw[hcv];exact hz k h0 hk) ho.1 ho.2 hd with h|h
 ·left;exact h
 ·right;omega
end
section
variable {n k e N:Nat} {c p:Int} {x y d a b u z:ZX}
def tZ(u:Nat->Int):Nat->Int:=λk=>((k:Int)+1)*u (k+1)
def ZX.der(x:ZX):ZX:=⟨tZ x.c⟩
def So{c:Int}{u:Nat->Int}:∀n:Nat,sI (λi=>c*u i) n=c*sI u n
 |0=>by show(0:Int)=c*0;omega
 |n+1=>by
  show sI (λi=>c*u i) n+c*u n=c*(sI u n+u n);rw[So n,Int.mul_add]
def Pw:(x*y).der=x.der*y+x*y.der:=ZX.ext' λk=>by
 show((k:Int)+1)*cvI x.c y.c (k+1)=cvI (tZ x.c) y.c k+cvI x.c (tZ y.c) k;have h1:cvI (tZ x.c) y.c k=sI (λi=>(i:Int)*(x.c i*y.c (k+1-i))) (k+2):=by
  rw[Br];show sI (λi=>((i:Int)+1)*x.c (i+1)*y.c (k-i)) (k+1)=((0:Nat):Int)*_+_;rw[show((0:Nat):Int)*(x.c 0*y.c (k+1-0))=0 from zni _,Int.zero_add];refine t6 _ λi hi=>?_;rw[eO,Int.mul_assoc];rfl
 have h2:cvI x.c (tZ y.c) k=sI (λi=>((k+1-i:Nat):Int)*(x.c i*y.c (k+1-i))) (k+2):=by
  show _=sI _ (k+1)+((k+1-(k+1):Nat):Int)*_;rw[bD,show((0:Nat):Int)*(x.c (k+1)*y.c 0)=0 from zni _,znj];refine t6 _ λi hi=>?_;show x.c i*((((k-i:Nat):Int)+1)*y.c (k-i+1))=_;rw[show k+1-i=k-i+1 by omega,show((k-i+1:Nat):Int)=((k-i:Nat):Int)+1 from rfl];exact z69
 rw[h1,h2,<-M5];unfold cvI;rw[<-So];refine t6 _ λi hi=>?_;rw[<-Int.add_mul];congr 1;omega
def rk1(U V a b a1 b1:ZX):(U*b+V*b1)*a+V*a1*b=U*(a*b)+V*(a1*b+a*b1):=z69
def SW(hd:MonZ e d)(hx:tI N x)(h:∃z:ZX,d*x=ZX.C c+ZX.C p*z)(hc:¬ ∃z,c=p*z):e=0:=by
 rcases bT e with he|he
 ·exact he
 ·exfalso;obtain⟨z,hz⟩:=h;have h1:DvZ p 0 x:=xQ hd hx λk hk=>by
   refine⟨z.c k,?_⟩;rw[hz];show(ZX.C c).c k+cvI (ZX.C p).c z.c k=_;rw[ZX.C_mul];obtain⟨j,rfl⟩:∃j,k=j+1:=⟨k-1,eP⟩
   show(0:Int)+_=_;omega
  obtain⟨y,hy⟩:=h1 0 (aC _);have h2:(d*x).c 0=d.c 0*x.c 0:=by show 0+d.c 0*x.c 0=_;omega
  have h3:(d*x).c 0=c+p*z.c 0:=by
   rw[hz];show(ZX.C c).c 0+cvI (ZX.C p).c z.c 0=_;rw[ZX.C_mul];rfl
  refine hc ⟨d.c 0*y-z.c 0,?_⟩;rw[h3,hy]at h2;have:c=d.c 0*(p*y)-p*z.c 0:=eP;rw[this];exact z69
end
section
variable {n:Nat} {x:ZX}
def qu:List ZX->ZX
 |[]=>1
 |x::l=>x*qu l
inductive PartsZ:List ZX->Nat->Prop
 |nil:PartsZ [] 0
 |cons {x:ZX} {l:List ZX} {d n:Nat} (h:MonZ d x) (h1:1<=d) (t:PartsZ l n):PartsZ (x::l) (d+n)
def Tj:MonZ 0 (1:ZX):=⟨rfl,λk hk=>by
 obtain⟨j,rfl⟩:∃j,k=j+1:=⟨k-1,eP⟩
 rfl⟩
def PartsZ.mon{l:List ZX}:PartsZ l n->MonZ n (qu l):=λh=>by
 induction h with
 |nil=>exact Tj
 |cons h h1 t ih=>exact Ko h ih
def PartsZ.app{l r:List ZX}{a b:Nat}(h:PartsZ l a)(h':PartsZ r b):PartsZ (l++r) (a+b):=by
 induction h with
 |nil=>rw[aN];exact h'
 | @cons x l d n h h1 t ih=>rw[dL];exact PartsZ.cons h h1 ih
def PartsZ.pos{l:List ZX}(h:PartsZ l n):l.length<=n:=by
 induction h with
 |nil=>exact aC _
 |cons h h1 t ih=>rw[ah];omega
def PartsZ.sub{l r:List ZX}(h:PartsZ l n)(hs:List.Sublist r l):∃k,PartsZ r k/\k+(l.length-r.length)<=n:=by
 induction hs generalizing n with
 |slnil=>cases h;exact⟨0,PartsZ.nil,aC _⟩
 | @cons r l x hs ih=>
  cases h with
  |cons h h1 t=>
   obtain⟨k,h2,h3⟩:=ih t;have:=hs.length_le;exact⟨k,h2,by rw[ah];omega⟩
 | @cons_cons r l x hs ih=>
  cases h with
  |cons h h1 t=>
   obtain⟨k,h2,h3⟩:=ih t;exact⟨_,PartsZ.cons h h1 h2,by rw[ah,ah];omega⟩
end
end Go.Proofs.Ev
namespace Go.Proofs.Ev
noncomputable section
variable {s:LS} {K:fK}
def ni(n:Nat):D:=.i .i64 (.ofNat n)
def ci(l:eZ):fN:=l.map ni
def j0(l:eZ):(ci l).length=l.length:=aj _
def wV{l:eZ}{i n:Nat}(h:l[i]?=some n):(ci l)[i]?=some (ni n):=by
 unfold ci;rw[af,h];rfl
def Ri(a b:eZ):ci (a++b)=ci a++ci b:=bG ..
def ur:∀(l:eZ),(ci l).all oH=true
 |[]=>rfl
 |x::l=>ur l
def Ni(n:Nat):List.replicate n (fB)=ci (List.replicate n 0):=by
 unfold ci;rw[de];rfl
def z6{cs:fN}{len i:Nat}{ex:Bool}{d:D}{k2:IntKind}(h:i<len)(hi:cs[i]?=some d):(eT 1 s (.tree cs len ex) (.i k2 (.ofNat i)) λa s=>eR s a K)=K d s:=by
 rw[z8 h hi];rfl
def xR{n:Nat}:∀{cs:fN}{kk:fN->eZ->Rs},cs.all oH=true->ma (jX s (n+1)) cs kk=kk cs []
 |[],kk,_=>rfl
 |d::cs,kk,h=>by
  simp only[cH,aW]at h;have h1:∀(k:D->eZ->Rs),jX s (n+1) d k=k d []:=by
   intro k;cases d<;>first|rfl|(simp[oH]at h)
  show(jX s (n+1) d λy a=>ma (jX s (n+1)) cs λys b=>pk a b λab=>kk (y::ys) ab)=_;rw[h1,xR h.2];rfl
def By{l len cm n:Nat}{ex:Bool}{b:Blk}(hg:s.get l=some b)(hl:b.st.live=true)(hf:b.cs.all oH=true)(hlen:len<=b.cs.length):∃e,∀kk,jX s (n+2) (.sl l 0 len cm 1 ex) kk=kk (.tree (b.cs.take len) len e) [l]:=by
 refine⟨cnd ex (Nat.beq cm len) false,λkk=>?_⟩;show(iq s l λb=>cnd (lv b.st) (jJ 0 b.cs λr=>jP (Nat.mul len 1) r λr=>ma (jX s (n+1)) r λcs ls=>nM (cnd ex (Nat.beq cm len) false) λex=>kk (.tree cs len ex) (l::ls)) none)=_;rw[oB,hg];show cnd (lv b.st) (jJ 0 b.cs λr=>jP (Nat.mul len 1) r λr=>ma (jX s (n+1)) r λcs ls=>nM (cnd ex (Nat.beq cm len) false) λex=>kk (.tree cs len ex) (l::ls)) none=_;have hf2:(b.cs.take len).all oH=true:=by
  rw[cp]at hf ⊢;exact λx hx=>hf x (bH hx)
 rw[nQ,hl,fH,gZ,i7,show Nat.mul len 1=len from a9 _,a7,aF hlen,xR hf2,iz]
def FR{cs:fN}{n:Nat}{e:Bool}:fO false s (.tree cs n e) some=some (.tree cs n e):=by
 unfold fO;rw[lJ];show sk _ some=_;rw[gc];rfl
def NT{M:fP}{l len cm:Nat}{ex:Bool}{b:Blk}{cs':fN}{n':Nat}{e':Bool}(hg:s.get l=some b)(hl:b.st.live=true)(hf:b.cs.all oH=true)(hlen:len<=b.cs.length)
 (hM:∀e,M [.tree (b.cs.take len) len e]=some (.tree cs' n' e')):∃s',(∀K,eY M [.sl l 0 len cm 1 ex] s K=K (.tree cs' n' e') s')/\∀l' b',l'≠l->s.get l'=some b'->s'.get l'=some b':=by
 obtain⟨e,he⟩:=By (n:=58) (cm:=cm) (ex:=ex) hg hl hf hlen;refine⟨s.put l ⟨b.cs,fzS b.st⟩,λK=>?_,λl' b' hne h=>by rw[tN hg,aG hne];exact h⟩;show jX s 60 (.sl l 0 len cm 1 ex) (λy a=>pk a [] λab=>ob (M [y]) λr=>nD s ab r K)=_;rw[he,jt,hM];show(iq s l λb=>oh s l ⟨b.cs,fzS b.st⟩ λs=>K (.tree cs' n' e') s)=_;rw[oB,hg];show(oh s l ⟨b.cs,fzS b.st⟩ λs=>K (.tree cs' n' e') s)=_;rw[GE hg]
def tz:eZ->eZ
 |[]=>[]
 |a::l=>match tz l with
  |[]=>if a=0 then[]else[a]
  |b::r=>a::b::r
def KL:∀(l:eZ),tz (l++[0])=tz l
 |[]=>rfl
 |a::l=>by
  show(match tz (l++[0])with|[]=>if a=0 then[]else[a]|b::r=>a::b::r)=(match tz l with|[]=>if a=0 then[]else[a]|b::r=>a::b::r)
  rw[KL l]
def OE:∀(l:eZ){w:Nat},w≠0->tz (l++[w])=l++[w]
 |[],w,h=>by
  show(if w=0 then[]else[w])=[w]
  rw[aG h]
 |a::l,w,h=>by
  show(match tz (l++[w])with|[]=>if a=0 then[]else[a]|b::r=>a::b::r)=a::(l++[w]);rw[OE l h];cases l<;>rfl
def ftF(q3:tS)(x4 x5:D)(s:LS):Rs:=(
 kH x5 fB λx6=>
 eU x6 true (λk=>k x4 s) s λx7 s=>
 eU x6 true (λk=>k x5 s) s λx8 s=>
 eU x6 true (λk=>fe x8 ej λd=>k d s) s λx9 s=>
 eU x6 true (λk=>eT 1 s x7 x9 k) s λx10 s=>
 eU x6 true (λk=>eR s x10 k) s λx11 s=>
 eU x6 true (λk=>iR x11 fB λd=>k d s) s λx12 s=>
 iB x6 x12 (.b false) s λx13 s=>
 fE x13
(fe x5 ej λx14=>
 q3 x4 x14 s)
(iT 1 s x4 none (some x5) (some x5) λx15 s=>
 fO false s x15 some))
def ID{cs:fN}{len h:Nat}{ex:Bool}{k:fK}(hh:h<=len)(hl:cs.length=len):iT 1 s (.tree cs len ex) none (some (.i .i64 (.ofNat h))) (some (.i .i64 (.ofNat h))) k=k (.tree (cs.take h) h true) s:=by
 show cnd (Nat.ble h len) (cnd (Nat.ble h h) (cnd (Nat.ble 0 h) (cnd (Nat.beq cs.length (Nat.mul len 1))
  (jJ (Nat.mul 0 1) cs λcs=>frc (Nat.sub h 0) λn=>jP (Nat.mul n 1) cs λcs=>
   nM (Nat.beq h h) λex=>k (.tree cs n ex) s)
  none) none) none) none=_
 rw[aD (aC h),aD hh,aD (aJ h),hl,show Nat.mul len 1=len from a9 len,gE,gE];simp only[fH,gZ,fj,iz];rw[show Nat.mul 0 1=0 from rfl,a7,show Nat.sub h 0=h from rfl,i7,show Nat.mul h 1=h from a9 h,aF eP]
def PY{ws:eZ}{ex:Bool}(hlen:ws.length<=9223372036854775807):∀(n f:Nat),n<=ws.length->n<f->
 lp li ftF f (.tree (ci ws) ws.length ex) (.i .i64 (.ofNat n)) s=some (.tree (ci (tz (ws.take n))) (tz (ws.take n)).length true)
 |0,f+1,hn,hf=>by
  rw[ep];unfold ftF;simp only[qF,fw (bE 0),xX,ga,ez];refine(ID (aJ _) (j0 ws)).trans ?_;exact FR
 |n+1,f+1,hn,hf=>by
  have hlt:n<ws.length:=eP;have hw:=aE hlt;have htk:ws.take (n+1)=ws.take n++[ws[n]]:=List.take_succ_eq_append_getElem hlt;have hm:n+1<=i9 .i64:=by show n+1<=9223372036854775807;omega
  rw[ep];unfold ftF;simp only[qF,fk (cD n),vK,mQ (show 1<=n+1 by omega) hm,au];refine(z6 hlt (wV hw)).trans ?_;refine(qG).trans ?_;by_cases h0:ws[n]=0
  ·rw[h0,gE,gT,fG,htk,h0,KL];exact PY hlen n f eP eP
  ·rw[ik h0,gT,ez,htk,OE _ h0,<-htk];refine(ID hn (j0 ws)).trans ?_;rw[aR,cF hn];unfold ci;rw[dN];exact FR
def wS{ws:eZ}{ex:Bool}{φ:Nat}(hlen:ws.length<=9223372036854775807)(hφ:ws.length<φ):iL φ [.tree (ci ws) ws.length ex]=some (.tree (ci (tz ws)) (tz ws).length true):=by
 show(fT (.tree (ci ws) ws.length ex) s0 λx2 s=>lp li ftF φ (.tree (ci ws) ws.length ex) x2 s)=_;rw[jC,PY hlen ws.length φ (aC _) hφ,bV]
end
end Go.Proofs.Ev
namespace Go.Proofs.Ev
noncomputable section
variable {s:LS}
def LIM:Nat:=2147483648
def Lo(l:eZ):Prop:=∀x,x∈l->x<LIM
def Tt{a b c:Nat}(ha:a<LIM)(hb:b<LIM)(hc:c<LIM):a*b+c<=i9 .i64:=by
 show a*b+c<=9223372036854775807;have h1:a*b<=2147483648*2147483648:=ay (bq ha) (bq hb);have h2:c<2147483648:=hc;omega
def Oy{a b:Nat}(ha:a<LIM)(hb:b<LIM):a*b<=i9 .i64:=aX (cL _ _) (Tt ha hb ha)
def Lo.get{l:eZ}(h:Lo l){i n:Nat}(hi:l[i]?=some n):n<LIM:=h n (bS hi)
def Lo.append{a b:eZ}(ha:Lo a)(hb:Lo b):Lo (a++b):=λx hx=>by
 rcases bM.1 hx with h|h
 ·exact ha x h
 ·exact hb x h
def Lo.tail{a:Nat}{l:eZ}(h:Lo (a::l)):Lo l:=λx hx=>h x (bC _ hx)
def Lo.head{a:Nat}{l:eZ}(h:Lo (a::l)):a<LIM:=h a (b9 ..)
def Lo.cons{a:Nat}{l:eZ}(h1:a<LIM)(h:Lo l):Lo (a::l):=λx hx=>by
 rcases bh.1 hx with rfl|hx
 ·exact h1
 ·exact h x hx
def Jm(l:eZ)(i w:Nat):(ci l).set i (.i .i64 (.ofNat w))=ci (l.set i w):=by
 unfold ci;rw[dC];rfl
def Iq(a:eZ)(o w:Nat)(b:eZ){i:Nat}(h:a.length=i):(a++o::b).set i w=(a++[w])++b:=by
 rw[<-h,bU _ _ (aC _),bD,aQ];rfl
def C7(a:eZ)(o:Nat)(b:eZ){i:Nat}(h:a.length=i):(a++o::b)[i]?=some o:=by
 rw[aM eP,h,bD];rfl
def vB(p x:Nat):eZ->eZ->eZ
 |[],os=>os
 |_::_,[]=>[]
 |y::ys,o::os=>(o+x*y)%p::vB p x ys os
def xK{p x:Nat}:∀{ys os:eZ},ys.length<=os.length->(vB p x ys os).length=os.length
 |[],os,_=>rfl
 |y::ys,[],h=>by simp at h
 |y::ys,o::os,h=>congrArg Nat.succ (xK (c7 h))
def Ix{p x:Nat}(hp:0<p)(hpL:p<LIM):∀{ys os:eZ},Lo os->Lo (vB p x ys os)
 |[],os,h=>h
 |y::ys,[],h=>λx hx=>by cases hx
 |y::ys,o::os,h=>Lo.cons (cj (bN _ hp) hpL) (Ix hp hpL h.tail)
def yM(p:Nat)(ys:eZ):eZ->eZ->eZ
 |[],os=>os
 |x::xr,os=>match vB p x ys os with
  |[]=>[]
  |o::os'=>o::yM p ys xr os'
def fmI(φ:Nat)(q16:kT)(q27:xE)(x28 x29 x30 x31 x32 x33 x34 x35 x36 x37 x38:D)(s:LS):Rs:=(
 gD x38 x37 λx39=>
 fE x39
(eT 1 s x36 x38 λx40 s=>
 eR s x40 λx41 s=>
 f7 x31 x38 λx42=>
 f7 x31 x38 λx43=>
 eT 1 s x30 x43 λx44 s=>
 eR s x44 λx45 s=>
 jZ x32 x41 λx46=>
 f7 x45 x46 λx47=>
 vX x47 x28 λx48=>
 eT 1 s x30 x42 λx49 s=>
 fA 1 s x49 x48 λ_ s=>
 f7 x38 ej λx50=>
 q27 x28 x29 x30 x31 x32 x33 x34 x35 x36 x37 x50 s)
(f7 x35 ej λx51=>
 q16 x28 x29 x30 x33 x34 x51 s))
def ZD{ys:eZ}{ey:Bool}{p x i N φ:Nat}{q16:kT}{X33 X34:D}(hp:0<p)(hpL:p<LIM)(hx:x<LIM)(hys:Lo ys)(hN:N<=1000000000):
 ∀(yr os yd done:eZ)(f:Nat),ys=yd++yr->done.length=i+yd.length->(done++os).length=N->yr.length<=os.length->yr.length<f->Lo os->i<N->
 lp qI (fmI φ q16) f (ni p) (.tree (ci ys) ys.length ey) (.sl 0 0 N N 1 true) (ni i) (ni x) X33 X34 (ni i) (.tree (ci ys) ys.length ey) (ni ys.length) (ni yd.length) (st1 (ci (done++os)))
  =q16 (ni p) (.tree (ci ys) ys.length ey) (.sl 0 0 N N 1 true) X33 X34 (ni (i+1)) (st1 (ci (done++vB p x yr os)))
 |[],os,yd,done,f+1,h1,h2,h3,h4,h5,h6,h7=>by
  rw[bQ]at h1;rw[ep];unfold fmI;refine(jp).trans ?_;rw[fw (by rw[h1];exact bE _),ez];exact kW (show i+1<=i9 .i64 from(by show i+1<=9223372036854775807;omega))
 |y::yr,[],yd,done,f,h1,h2,h3,h4,h5,h6,h7=>by simp at h4
 |y::yr,o::os,yd,done,f+1,h1,h2,h3,h4,h5,h6,h7=>by
  have hlt:yd.length<ys.length:=by rw[h1];simp
  have hy:ys[yd.length]?=some y:=by rw[h1];exact C7 _ _ _ rfl
  have hyL:=hys.get hy;have hoL:o<LIM:=h6.head;have hin:i+yd.length<N:=by
   rw[aq,ah]at h3;omega
  have hB:x*y+o<=i9 .i64:=Tt hx hyL hoL;have ha:i+yd.length<=i9 .i64:=by show i+yd.length<=9223372036854775807;omega
  rw[ep];unfold fmI;refine(jp).trans ?_;rw[fk hlt,fG];refine(z6 (by exact hlt) (wV hy)).trans ?_;refine(kW ha).trans ?_;refine(kW ha).trans ?_;refine(nC hin).trans ?_;rw[aN];refine(si (wV (C7 done o os h2))).trans ?_;refine(wO (aX (cL _ _) hB)).trans ?_;refine(kW (by rw[cx];exact hB)).trans ?_;refine(sh (Nat.ne_of_gt hp)).trans ?_;refine(nC hin).trans ?_;rw[aN];refine(u9 (by rw[j0];omega)).trans ?_;refine(kW (show yd.length+1<=i9 .i64 from(by show yd.length+1<=9223372036854775807;omega))).trans ?_;rw[Jm,Iq done o _ os h2];have ih:=ZD (φ:=φ) (ey:=ey) (q16:=q16) (X33:=X33) (X34:=X34) hp hpL hx hys hN yr os (yd++[y]) (done++[(o+x*y)%p]) f (by rw[h1,aQ];rfl) (by simp;omega) (by rw[<-h3];simp) (c7 h4) (by simp at h5;omega) h6.tail h7;rw[show(yd++[y]).length=yd.length+1 by simp]at ih;refine Eq.trans ih ?_;rw[aQ];rfl
def fmO(φ:Nat)(q16:kT)(x17 x18 x19 x20 x21 x22:D)(s:LS):Rs:=(
 gD x22 x21 λx23=>
 fE x23
(eT 1 s x20 x22 λx24 s=>
 eR s x24 λx25 s=>
 fT x18 s λx26 s=>
 lp qI (fmI φ q16) φ x17 x18 x19 x22 x25 x20 x21 x22 x18 x26 fB s)
(eY (iL φ) [x19] s λx52 s=>
 fO false s x52 some))
def Ue{xs ys:eZ}{ex ey:Bool}{p N φ:Nat}(hp:0<p)(hpL:p<LIM)(hxs:Lo xs)(hys:Lo ys)(hN:N<=1000000000)(hy0:0<ys.length)(hφ:ys.length<φ):
 ∀(xr os xd done:eZ)(f:Nat),xs=xd++xr->done.length=xd.length->(done++os).length=N->os.length+1=xr.length+ys.length->xr.length<f->Lo os->
 lp iH (fmO φ) f (ni p) (.tree (ci ys) ys.length ey) (.sl 0 0 N N 1 true) (.tree (ci xs) xs.length ex) (ni xs.length) (ni xd.length) (st1 (ci (done++os)))
  =eY (iL φ) [.sl 0 0 N N 1 true] (st1 (ci (done++yM p ys xr os))) λx52 s=>fO false s x52 some
 |[],os,xd,done,f+1,h1,h2,h3,h4,h5,h6=>by
  rw[bQ]at h1;rw[ep];unfold fmO;refine(jp).trans ?_;rw[fw (by rw[h1];exact bE _),ez];rfl
 |x::xr,os,xd,done,f+1,h1,h2,h3,h4,h5,h6=>by
  have hlt:xd.length<xs.length:=by rw[h1];simp
  have hx:xs[xd.length]?=some x:=by rw[h1];exact C7 _ _ _ rfl
  have hle:ys.length<=os.length:=by simp at h4;omega
  rw[ep];unfold fmO;refine(jp).trans ?_;rw[fk hlt,fG];refine(z6 (by exact hlt) (wV hx)).trans ?_;refine(jC).trans ?_;refine Eq.trans (ZD (φ:=φ) (ey:=ey) (i:=xd.length) hp hpL (hxs.get hx) hys hN ys os [] done φ rfl (by simp;omega) h3 hle hφ h6 (by rw[<-h3,aq];omega)) ?_;cases hr:vB p x ys os with
  |nil=>
   have:=xK (p:=p) (x:=x) hle;rw[hr]at this;simp at this;omega
  |cons o os'=>
   have hl:=xK (p:=p) (x:=x) hle;rw[hr,ah]at hl;have hlo:=Ix (x:=x) hp hpL (ys:=ys) h6;rw[hr]at hlo;have ih:=Ue (ex:=ex) (ey:=ey) (N:=N) hp hpL hxs hys hN hy0 hφ xr os' (xd++[x]) (done++[o]) f (by rw[h1,aQ];rfl) (by simp;omega) (by rw[<-h3];simp;omega) (by simp at h4;omega) (by simp at h5;omega) hlo.tail;rw[show(xd++[x]).length=xd.length+1 by simp,aQ]at ih;refine Eq.trans ih ?_;rw[show yM p ys (x::xr) os=o::yM p ys xr os' by show(match vB p x ys os with|[]=>[]|o::os'=>o::yM p ys xr os')=_;rw[hr]];rw[aQ];rfl
def Fh{p:Nat}{ys:eZ}:∀{xr os:eZ},xr.length+ys.length<=os.length+1->0<ys.length->(yM p ys xr os).length=os.length
 |[],os,_,_=>rfl
 |x::xr,os,h,h0=>by
  have hle:ys.length<=os.length:=by simp at h;omega
  have hl:=xK (p:=p) (x:=x) hle;show(match vB p x ys os with|[]=>[]|o::os'=>o::yM p ys xr os').length=os.length;cases hr:vB p x ys os with
  |nil=>rw[hr]at hl;exact hl
  |cons o os'=>
   rw[hr,ah]at hl;show(yM p ys xr os').length+1=os.length;rw[Fh (by simp at h;omega) h0];exact hl
def DV{op:fK->Rs}{k:fK}:eU (.b false) false op s k=op k:=rfl
def RY{xs ys:eZ}{ex ey:Bool}{p φ:Nat}(hp:0<p)(hpL:p<LIM)(hxs:Lo xs)(hys:Lo ys)(hx0:0<xs.length)(hy0:0<ys.length)(hN:xs.length+ys.length<=1000000000)(hφ:xs.length+ys.length<φ):
 nj φ [ni p,.tree (ci xs) xs.length ex,.tree (ci ys) ys.length ey]=some (.tree (ci (tz (yM p ys xs (List.replicate (xs.length+ys.length-1) 0)))) (tz (yM p ys xs (List.replicate (xs.length+ys.length-1) 0))).length true):=by
 unfold nj;dsimp only[fJ,fV];refine(jC).trans ?_;refine(qG).trans ?_;rw[ik eP];rw[DV];dsimp only;rw[DV];rw[jC,DV];rw[qG,ik (show ys.length≠0 by omega)];dsimp only;rw[ga,ez];refine(jC).trans ?_;refine(jC).trans ?_;refine(kW (show xs.length+ys.length<=i9 .i64 from(by show xs.length+ys.length<=9223372036854775807;omega))).trans ?_;refine(mQ (show 1<=xs.length+ys.length by omega) (show xs.length+ys.length<=i9 .i64 from(by show xs.length+ys.length<=9223372036854775807;omega))).trans ?_;refine(z7 eP eP).trans ?_;refine(jC).trans ?_;rw[Ni];have hz:Lo (List.replicate (xs.length+ys.length-1) 0):=λx hx=>by rw[cG hx];decide
 refine Eq.trans (Ue (ex:=ex) (ey:=ey) (φ:=φ) (N:=xs.length+ys.length-1) hp hpL hxs hys eP hy0 eP xs (List.replicate (xs.length+ys.length-1) 0) [] [] φ rfl rfl fU (by simp;omega) eP hz) ?_;rw[cW];have hl:(yM p ys xs (List.replicate (xs.length+ys.length-1) 0)).length=xs.length+ys.length-1:=by
  rw[Fh (by simp;omega) hy0];simp
 generalize yM p ys xs (List.replicate (xs.length+ys.length-1) 0)=zs at*;obtain⟨s',h1,_⟩:=NT (M:=iL φ) (s:=st1 (ci zs)) (l:=0) (len:=xs.length+ys.length-1) (cm:=xs.length+ys.length-1) (ex:=true) (cs':=ci (tz zs)) (n':=(tz zs).length) (e':=true) vn rfl (ur zs) (by show _<=(ci zs).length;rw[j0];omega) (λe=>by
  show iL φ [.tree ((ci zs).take (xs.length+ys.length-1)) (xs.length+ys.length-1) e]=_;rw[<-hl,aP (by rw[j0];exact aC _)];exact wS eP eP)
 rw[h1];exact FR
end
end Go.Proofs.Ev
namespace Go.Proofs.Ev
noncomputable section
variable {s:LS} {K:fK}
def AF{z:Int}(h1: -9223372036854775808<=z)(h2:z<=9223372036854775807):IntKind.i64.wrap z=z:=by
 unfold IntKind.wrap;simp[IntKind.signed,IntKind.bits];omega
def LD{a b:Nat}{k:D->Rs}(h:a<b)(hb:b<=9223372036854775807):fe (ni a) (ni b) k=k (.i .i64 (.negSucc (b-a-1))):=by
 unfold fe ni;rw[qT,il eP,fq];show gN .sub (.i .i64 (.ofNat a)) (.i .i64 (.ofNat b)) k=_;unfold gN;rw[gc];show ob (some (D.i .i64 (IntKind.i64.wrap ((a:Int)-(b:Int))))) k=_;rw[AF eP eP,show((a:Int)-(b:Int))=Int.negSucc (b-a-1) by omega];rfl
def UF{m p:Nat}{k:D->Rs}(hp:0<p):vX (.i .i64 (.negSucc m)) (ni p) k=k (.i .i64 (-(((m+1)%p:Nat):Int))):=by
 show gN .rem (.i .i64 (.negSucc m)) (.i .i64 (.ofNat p)) k=_;unfold gN;rw[gc];show ob (if(p:Int)=0 then none else some (D.i .i64 (Int.tmod (.negSucc m) (p:Int)))) k=_;rw[aG eP];rfl
def DU{m:Nat}{k:D->Rs}:gD (.i .i64 (.negSucc m)) fB k=k (.b true):=by
 show gN .lss (.i .i64 (.negSucc m)) fB k=_;unfold gN;rw[gc];show ob (some (D.b (decide (Int.negSucc m<0)))) k=_;rw[ac (Int.negSucc_lt_zero m)];rfl
def UV{m p:Nat}{k:D->Rs}(h:m<p)(hp:p<=9223372036854775807):f7 (.i .i64 (.negSucc m)) (ni p) k=k (ni (p-(m+1))):=by
 show gN .add (.i .i64 (.negSucc m)) (.i .i64 (.ofNat p)) k=_;unfold gN;rw[gc];show ob (some (D.i .i64 (IntKind.i64.wrap (Int.negSucc m+(p:Int))))) k=_;rw[AF eP eP,show(Int.negSucc m+(p:Int))=Int.ofNat (p-(m+1)) by rw[zn2];simp only[ag];omega];rfl
def z0D{a b p:Nat}(hp:0<p)(h:b<=a):(a-b)%p=(a+(p-1)*b)%p:=by
 have e:a+(p-1)*b=(a-b)+p*b:=by
  obtain⟨q,rfl⟩:∃q,p=q+1:=⟨p-1,eP⟩
  rw[au,aS];omega
 rw[e,cQ]
def XN{a b p:Nat}(hp:0<p)(h:a<b)(h0:(b-a)%p=0):(a+(p-1)*b)%p=0:=by
 have e:=cK (b-a) p;rw[h0,bO]at e;have e2:a+(p-1)*b+p*((b-a)/p)=p*b:=by
  obtain⟨q,rfl⟩:∃q,p=q+1:=⟨p-1,eP⟩
  rw[e,au,aS q 1 b];omega
 have e3:(a+(p-1)*b+p*((b-a)/p))%p=(p*b)%p:=by rw[e2]
 rw[cQ,Nat.mul_mod_right]at e3;exact e3
def XM{a b p:Nat}(hp:0<p)(h:a<b)(h0:(b-a)%p≠0):(a+(p-1)*b)%p=p-(b-a)%p:=by
 have e:=cK (b-a) p;have hlt:=bN (b-a) hp;have e2:a+(p-1)*b+p*((b-a)/p+1)=p-(b-a)%p+p*b:=by
  obtain⟨q,rfl⟩:∃q,p=q+1:=⟨p-1,eP⟩
  rw[bK,au,aS q 1 b];omega
 have e3:(a+(p-1)*b+p*((b-a)/p+1))%p=(p-(b-a)%p+p*b)%p:=by rw[e2]
 rw[cQ,cQ,am (show p-(b-a)%p<p by omega)]at e3;exact e3
def RZ{a b p φ:Nat}{z:D}(hp:0<p)(hpL:p<LIM)(hz:∀k,fe (ni a) (ni b) k=k z)(ha:a<LIM)(hb:b<=4611686018427387904):mU φ [ni p,z]=some (ni ((a+(p-1)*b)%p)):=by
 have zeJ:p<=9223372036854775807:=aX (bq hpL) eV;by_cases h:b<=a
 ·have e:z=ni (a-b):=by
   have h1:=hz some;unfold ni at h1;rw[mQ h (show a<=i9 .i64 from aX (bq ha) eV)]at h1;exact(cJ h1).symm
  subst e;unfold mU;dsimp only[fJ,fV,jn];refine(sh eP).trans ?_;refine(jp).trans ?_;rw[fw (cO _),ez,z0D hp h];rfl
 ·have h:a<b:=eP;have e:z=.i .i64 (.negSucc (b-a-1)):=by
   have h1:=hz some;rw[LD h (aX hb eV)]at h1;exact(cJ h1).symm
  subst e;unfold mU;dsimp only[fJ,fV,jn];refine(UF hp).trans ?_;rw[show b-a-1+1=b-a by omega];by_cases h0:(b-a)%p=0
  ·rw[h0,show(-((0:Nat):Int))=Int.ofNat 0 from rfl];refine(jp).trans ?_;rw[fw (cO _),ez,XN hp h h0];rfl
  ·obtain⟨e,he⟩:∃e,(b-a)%p=e+1:=⟨(b-a)%p-1,eP⟩
   have hlt:=bN (b-a) hp;rw[XM hp h h0,he,show(-((e+1:Nat):Int))=Int.negSucc e from rfl];refine(DU).trans ?_;rw[fG];refine(UV eP zeJ).trans ?_;rfl
def st3(r q:eZ):LS:=⟨.node (some ⟨[],.rw⟩) (.node (some ⟨ci r,.rw⟩) .nil .nil) (.node (some ⟨ci q,.rw⟩) .nil .nil),3⟩
variable {r q:eZ} {i v len cm:Nat} {ex:Bool}
def KR:(st3 r q).get 1=some ⟨ci r,.rw⟩:=rfl
def S9:(st3 r q).get 2=some ⟨ci q,.rw⟩:=rfl
def z2s(hi:i<len)(h:r[i]?=some v):(eT 1 (st3 r q) (.sl 1 0 len cm 1 ex) (ni i) λa s=>eR s a K)=K (ni v) (st3 r q):=by
 refine(tO KR rfl hi).trans ?_;refine yS KR rfl ?_;rw[show 0+i*1=i by omega];exact wV h
def z3K(hi:i<len)(h:i<r.length):(eT 1 (st3 r q) (.sl 1 0 len cm 1 ex) (ni i) λa s=>fA 1 s a (ni v) K)=K .u (st3 (r.set i v) q):=by
 refine(tO KR rfl hi).trans ?_;rw[show 0+i*1=i by omega];refine(yQ KR rfl (by rw[j0];exact h)).trans ?_;rw[Jm];rfl
def z3L(hi:i<len)(h:i<q.length):(eT 1 (st3 r q) (.sl 2 0 len cm 1 ex) (ni i) λa s=>fA 1 s a (ni v) K)=K .u (st3 r (q.set i v)):=by
 refine(tO S9 rfl hi).trans ?_;rw[show 0+i*1=i by omega];refine(yQ S9 rfl (by rw[j0];exact h)).trans ?_;rw[Jm];rfl
def U0{M:fP}{p w:Nat}{k2:IntKind}{z:Int}(h:M [ni p,.i k2 z]=some (ni w)):eY M [ni p,.i k2 z] s K=K (ni w) s:=by
 show ob (M [ni p,.i k2 z]) (λr=>nD s [] r K)=_;rw[h];rfl
def dmI(φ:Nat)(q19:ov)(q36:xE)(x37 x38 x39 x40 x41 x42 x43 x44 x45 x46 x47:D)(s:LS):Rs:=(
 gD x47 x46 λx48=>
 fE x48
(eT 1 s x45 x47 λx49 s=>
 eR s x49 λx50 s=>
 f7 x43 x47 λx51=>
 f7 x43 x47 λx52=>
 eT 1 s x39 x52 λx53 s=>
 eR s x53 λx54 s=>
 jZ x44 x50 λx55=>
 fe x54 x55 λx56=>
 eY (mU φ) [x37,x56] s λx57 s=>
 eT 1 s x39 x51 λx58 s=>
 fA 1 s x58 x57 λ_ s=>
 f7 x47 ej λx59=>
 q36 x37 x38 x39 x40 x41 x42 x43 x44 x45 x46 x59 s)
(fe x43 ej λx60=>
 q19 x37 x38 x39 x40 x41 x42 x60 s))
def ZH{g:eZ}{eg:Bool}{p c k m φ:Nat}{q19:ov}{X40 X41 X42:D}(hp:0<p)(hpL:p<LIM)(hc:c<LIM)(hg:Lo g)(hm:m<=1000000000):
 ∀(gr os gd done:eZ)(f:Nat),g=gd++gr->done.length=k+gd.length->(done++os).length=m->gr.length<=os.length->gr.length<f->Lo os->
 lp qI (dmI φ q19) f (ni p) (.tree (ci g) g.length eg) (.sl 1 0 m m 1 false) X40 X41 X42 (ni k) (ni c) (.tree (ci g) g.length eg) (ni g.length) (ni gd.length) (st3 (done++os) q)
  =fe (ni k) ej λx60=>q19 (ni p) (.tree (ci g) g.length eg) (.sl 1 0 m m 1 false) X40 X41 X42 x60 (st3 (done++vB p ((p-1)*c) gr os) q)
 |[],os,gd,done,f+1,h1,h2,h3,h4,h5,h6=>by
  rw[bQ]at h1;rw[ep];unfold dmI;refine(jp).trans ?_;rw[fw (by rw[h1];exact bE _),ez];rfl
 |y::gr,[],gd,done,f,h1,h2,h3,h4,h5,h6=>by simp at h4
 |y::gr,o::os,gd,done,f+1,h1,h2,h3,h4,h5,h6=>by
  have hlt:gd.length<g.length:=by rw[h1];simp
  have hy:g[gd.length]?=some y:=by rw[h1];exact C7 _ _ _ rfl
  have hyL:=hg.get hy;have hoL:o<LIM:=h6.head;have hlen:=h3;rw[aq,ah]at hlen;have hin:k+gd.length<m:=eP;have ha:k+gd.length<=i9 .i64:=by show k+gd.length<=9223372036854775807;omega
  have hcy:c*y<=4611686018427387904:=aX (ay (bq hc) (bq hyL)) eV;obtain⟨kz,z,hz⟩:∃kz z,∀k,fe (ni o) (ni (c*y)) k=k (.i kz z):=by
   by_cases h:c*y<=o
   ·exact⟨.i64,.ofNat (o-c*y),λk=>mQ h (aX (bq hoL) eV)⟩
   ·exact⟨.i64,_,λk=>LD eP (aX hcy eV)⟩
  rw[ep];unfold dmI;refine(jp).trans ?_;rw[fk hlt,fG];refine(z6 (by exact hlt) (wV hy)).trans ?_;refine(kW ha).trans ?_;refine(kW ha).trans ?_;refine(z2s hin (C7 done o os h2)).trans ?_;refine(wO (Oy hc hyL)).trans ?_;refine(hz _).trans ?_;refine(U0 (RZ hp hpL hz hoL hcy)).trans ?_;refine(z3K hin (by rw[h3];exact hin)).trans ?_;refine(kW (show gd.length+1<=i9 .i64 from(by show gd.length+1<=9223372036854775807;omega))).trans ?_;rw[Iq done o _ os h2];have ih:=ZH (φ:=φ) (k:=k) (c:=c) (eg:=eg) (q19:=q19) (X40:=X40) (X41:=X41) (X42:=X42) hp hpL hc hg hm gr os (gd++[y]) (done++[(o+(p-1)*(c*y))%p]) f (by rw[h1,aQ];rfl) (by simp;omega) (by rw[<-h3];simp) (c7 h4) (by simp at h5;omega) h6.tail;rw[show(gd++[y]).length=gd.length+1 by simp]at ih;refine Eq.trans ih ?_;rw[aQ,<-aa];rfl
end
end Go.Proofs.Ev
namespace Go.Proofs.Ev
noncomputable section
variable {s:LS} {K:fK}
def idx(j:Nat):D:=match j with|0=>lC|j+1=>ni j
def UD{j:Nat}{k:D->Rs}(h:j<=9223372036854775807):fe (ni j) ej k=k (idx j):=by
 cases j with
 |zero=>exact E6
 |succ j=>exact mQ (show 1<=j+1 by omega) h
def uQ(p iv:Nat)(g:eZ):Nat->eZ->eZ->eZ×eZ
 |0,rest,q=>(rest,q)
 |j+1,rest,q=>uQ p iv g j (rest.take j++vB p ((p-1)*(rest.getD (j+g.length-1) 0*iv%p)) g (rest.drop j)) (rest.getD (j+g.length-1) 0*iv%p::q)
def dmE(φ:Nat)(x22 x23 x24:D)(s:LS):Rs:=(
 eY (iL φ) [x24] s λx61 s=>
 fe x23 ej λx62=>
 iT 1 s x22 none (some x62) none λx63 s=>
 eY (iL φ) [x63] s λx64 s=>
 fO false s (.tup [x61,x64]) some)
def dmO(φ:Nat)(q19:ov)(x20 x21 x22 x23 x24 x25 x26:D)(s:LS):Rs:=(
 mb x26 fB λx27=>
 fE x27
(f7 x26 x23 λx28=>
 fe x28 ej λx29=>
 eT 1 s x22 x29 λx30 s=>
 eR s x30 λx31 s=>
 jZ x31 x25 λx32=>
 vX x32 x20 λx33=>
 eT 1 s x24 x26 λx34 s=>
 fA 1 s x34 x33 λ_ s=>
 fT x21 s λx35 s=>
 lp qI (dmI φ q19) φ x20 x21 x22 x23 x24 x25 x26 x33 x21 x35 fB s)
(dmE φ x22 x23 x24 s))
def z0a{p c:Nat}{g rest:eZ}{j:Nat}(hp:0<p)(hpL:p<LIM)(h:Lo rest):Lo (rest.take j++vB p c g (rest.drop j)):=
 Lo.append (λx hx=>h x (bH hx)) (Ix hp hpL λx hx=>h x (ba hx))
def E1{p c:Nat}{g rest:eZ}{j:Nat}(h:j+g.length<=rest.length):(rest.take j++vB p c g (rest.drop j)).length=rest.length:=by
 rw[aq,xK (by rw[bR];omega),aR,bR];omega
def VN{g:eZ}{eg:Bool}{p iv m Q φ:Nat}(hp:0<p)(hpL:p<LIM)(hiv:iv<LIM)(hg:Lo g)(hg0:0<g.length)(hm:m<=1000000000)(hQ:Q+g.length=m+1)(hφ:g.length<φ):
 ∀(j f:Nat)(rest q:eZ),rest.length=m->Lo rest->j+q.length=Q->j<f->
 lp lK (dmO φ) f (ni p) (.tree (ci g) g.length eg) (.sl 1 0 m m 1 false) (ni g.length) (.sl 2 0 Q Q 1 true) (ni iv) (idx j) (st3 rest (List.replicate j 0++q))
  =dmE φ (.sl 1 0 m m 1 false) (ni g.length) (.sl 2 0 Q Q 1 true) (st3 (uQ p iv g j rest q).1 (uQ p iv g j rest q).2)
 |0,f+1,rest,q,h1,h2,h3,h4=>by
  rw[ep];unfold dmO;refine(sM).trans ?_;rw[ez];rfl
 |j+1,f+1,rest,q,h1,h2,h3,h4=>by
  have hi:j+g.length-1<m:=eP;have hr:rest[j+g.length-1]?=some (rest.getD (j+g.length-1) 0):=by rw[aB,aE eP];rfl
  have hrL:=h2.get hr;have hcp:rest.getD (j+g.length-1) 0*iv%p<LIM:=cj (bN _ hp) hpL;rw[ep];unfold dmO;refine(DW).trans ?_;rw[show Nat.ble 0 j=true from aD (aJ j),fG];refine(kW (show j+g.length<=i9 .i64 from(by show j+g.length<=9223372036854775807;omega))).trans ?_;refine(mQ (show 1<=j+g.length by omega) (show j+g.length<=i9 .i64 from(by show j+g.length<=9223372036854775807;omega))).trans ?_;refine(z2s hi hr).trans ?_;refine(wO (Oy hrL hiv)).trans ?_;refine(sh (Nat.ne_of_gt hp)).trans ?_;refine(z3L (show j<Q by omega) (by rw[aq,bg];omega)).trans ?_;refine(jC).trans ?_;have e1:(List.replicate (j+1) 0++q).set j (rest.getD (j+g.length-1) 0*iv%p)=List.replicate j 0++(rest.getD (j+g.length-1) 0*iv%p::q):=by
   rw[zmW,aQ];exact(Iq (List.replicate j 0) 0 _ q fU).trans (aQ ..)
  rw[e1];have e2:=ZH (φ:=φ) (eg:=eg) (k:=j) (c:=rest.getD (j+g.length-1) 0*iv%p) (m:=m) (q:=List.replicate j 0++(rest.getD (j+g.length-1) 0*iv%p::q)) (q19:=lp lK (dmO φ) f) (X40:=ni g.length) (X41:=.sl 2 0 Q Q 1 true) (X42:=ni iv) hp hpL hcp hg hm g (rest.drop j) [] (rest.take j) φ rfl (by rw[aR];simp;omega) (by rw[bY];exact h1) (by rw[bR];omega) hφ (λx hx=>h2 x (ba hx));rw[bY]at e2;refine Eq.trans e2 ?_;refine(UD eP).trans ?_;exact VN hp hpL hiv hg hg0 hm hQ hφ j f _ _ (by rw[E1 eP];exact h1) (z0a hp hpL h2) (by simp;omega) eP
def G6{p iv:Nat}{g:eZ}:∀{j:Nat}{rest q:eZ},j+g.length<=rest.length+1->(uQ p iv g j rest q).1.length=rest.length/\(uQ p iv g j rest q).2.length=j+q.length
 |0,rest,q,h=>⟨rfl,(aN _).symm⟩
 |j+1,rest,q,h=>by
  have e:=E1 (p:=p) (c:=(p-1)*(rest.getD (j+g.length-1) 0*iv%p)) (g:=g) (rest:=rest) (j:=j) eP;obtain⟨h1,h2⟩:=G6 (p:=p) (iv:=iv) (g:=g) (j:=j) (rest:=rest.take j++vB p ((p-1)*(rest.getD (j+g.length-1) 0*iv%p)) g (rest.drop j)) (q:=rest.getD (j+g.length-1) 0*iv%p::q) eP;refine⟨h1.trans e,h2.trans ?_⟩;simp;omega
def UE{l len cm h:Nat}{ex:Bool}{b:Blk}{k:fK}(hg:s.get l=some b)(hl:b.st.live=true)(h0:0<cm)(hh:h<=cm):iT 1 s (.sl l 0 len cm 1 ex) none (some (.i .i64 (.ofNat h))) none k=k (.sl l 0 h cm 1 ex) s:=by
 show(iq s l λb=>cnd (lv b.st) (cnd (Nat.ble cm cm) (cnd (Nat.ble h cm) (cnd (Nat.ble 0 h) (cnd (Nat.beq 1 1) (nM ex λex=>cnd (Nat.blt 0 cm) (frc (Nat.add 0 (Nat.mul 0 1)) λoff=>frc (Nat.sub h 0) λl'=>frc (Nat.sub cm 0) λcm=>k (.sl l off l' cm 1 ex) s) (k (.tree [] 0 ex) s)) none) none) none) none) none)=_;rw[oB,hg];show cnd (lv b.st) (cnd (Nat.ble cm cm) (cnd (Nat.ble h cm) (cnd (Nat.ble 0 h) (cnd (Nat.beq 1 1) (nM ex λex=>cnd (Nat.blt 0 cm) (frc (Nat.add 0 (Nat.mul 0 1)) λoff=>frc (Nat.sub h 0) λl'=>frc (Nat.sub cm 0) λcm=>k (.sl l off l' cm 1 ex) s) (k (.tree [] 0 ex) s)) none) none) none) none) none=_;rw[nQ,hl,aD (aC cm),aD hh,aD (aJ h),fk h0];simp only[fH,iz,fj,gE];rfl
def z1m{rest q:eZ}{n Q φ:Nat}(hn:0<n)(hnm:n<=rest.length)(hq:q.length=Q)(hm:rest.length<=1000000000)(hQ:Q<=1000000000)(h1:Q<φ)(h2:rest.length<φ):
 dmE φ (.sl 1 0 rest.length rest.length 1 false) (ni n) (.sl 2 0 Q Q 1 true) (st3 rest q)=some (.tup [.tree (ci (tz q)) (tz q).length true,.tree (ci (tz (rest.take (n-1)))) (tz (rest.take (n-1))).length true]):=by
 subst hq;obtain⟨s1,k1,f1⟩:=NT (M:=iL φ) (s:=st3 rest q) (l:=2) (len:=q.length) (cm:=q.length) (ex:=true) (cs':=ci (tz q)) (n':=(tz q).length) (e':=true) S9 rfl (ur q) (by show _<=(ci q).length;rw[j0];exact aC _) (λe=>by
  show iL φ [.tree ((ci q).take q.length) q.length e]=_;rw[aP (by rw[j0];exact aC _)];exact wS eP eP)
 have g1:=f1 1 _ eV KR;unfold dmE;rw[k1];refine(mQ hn (show n<=i9 .i64 from(by show n<=9223372036854775807;omega))).trans ?_;refine(UE g1 rfl eP (show n-1<=rest.length by omega)).trans ?_;obtain⟨s2,k2,_⟩:=NT (M:=iL φ) (s:=s1) (l:=1) (len:=n-1) (cm:=rest.length) (ex:=false) (cs':=ci (tz (rest.take (n-1)))) (n':=(tz (rest.take (n-1))).length) (e':=true) g1 rfl (ur rest) (by show _<=(ci rest).length;rw[j0];omega) (λe=>by
  have hl:(rest.take (n-1)).length=n-1:=by rw[aR];omega
  have:=wS (ws:=rest.take (n-1)) (ex:=e) (φ:=φ) eP eP;rw[hl]at this;show iL φ [.tree ((ci rest).take (n-1)) (n-1) e]=_;rw[show(ci rest).take (n-1)=ci (rest.take (n-1)) by unfold ci;rw[dN]];exact this)
 rw[k2];exact Az
def QN{t:Rs}:∀{l:eZ},sP (ci l) t=t
 |[]=>rfl
 |a::l=>QN (l:=l)
def UT{xs:eZ}{ex:Bool}(h0:0<xs.length)(hm:xs.length<=1000000000):mc 1 8 (s0.push ⟨[],.rw⟩) (.sl 0 0 0 0 1 true) (.tree (ci xs) xs.length ex) K=K (.sl 1 0 xs.length xs.length 1 false) ((s0.push ⟨[],.rw⟩).push ⟨ci xs,.rw⟩):=by
 show cnd (Nat.beq (ci xs).length (Nat.mul xs.length 1)) (sP (ci xs) (frc (Nat.add 0 xs.length) λtot=>cnd (Nat.ble (Nat.mul tot 8) 1099511627776) (cnd (Nat.ble tot 1099511627776)
  (cnd (Nat.ble tot 0) (xU (Nat.add 0 (Nat.mul 0 1)) (ci xs) [] λcs=>oh (s0.push ⟨[],.rw⟩) 0 ⟨cs,.rw⟩ λs=>K (.sl 0 0 tot 0 1 true) s)
   (pk [] (ci xs) λcs=>(lh (s0.push ⟨[],.rw⟩) ⟨cs,.rw⟩ λs'=>K (.sl 1 0 tot tot 1 false) s')))
  none) none)) none=_
 rw[j0,show Nat.mul xs.length 1=xs.length from a9 _,gE,fH,QN,fj,show Nat.add 0 xs.length=xs.length from aN _,aD (show Nat.mul xs.length 8<=1099511627776 by show xs.length*8<=_;omega),aD (show xs.length<=1099511627776 by omega),fH,fH,il eP,fq,jt,lH];rfl
def RO:iO 0 [fB] [] s0 K=K (.sl 0 0 0 0 1 true) (s0.push ⟨[],.rw⟩):=by
 show(lh s0 ⟨[],.rw⟩ λs'=>K (.sl 0 0 0 0 1 true) s')=_;rw[lH]
def Sa{r q:eZ}:((s0.push ⟨[],.rw⟩).push ⟨ci r,.rw⟩).push ⟨ci q,.rw⟩=st3 r q:=eX
def J9{xs g:eZ}{ex eg:Bool}{p iv lead φ:Nat}(hp:0<p)(hpL:p<LIM)(hiv:iv<LIM)(hxs:Lo xs)(hg:Lo g)(hg0:0<g.length)(hgx:g.length<=xs.length)(hm:xs.length<=100000000)(hφ:xs.length+1<φ)
 (z6M:g[g.length-1]?=some lead) (hinv:p8 φ [ni p,ni lead]=some (ni iv)):
 ko φ [ni p,.tree (ci xs) xs.length ex,.tree (ci g) g.length eg]=
  some (.tup [.tree (ci (tz (uQ p iv g (xs.length-g.length+1) xs []).2)) (tz (uQ p iv g (xs.length-g.length+1) xs []).2).length true,
   .tree (ci (tz ((uQ p iv g (xs.length-g.length+1) xs []).1.take (g.length-1)))) (tz ((uQ p iv g (xs.length-g.length+1) xs []).1.take (g.length-1))).length true]):=by
 obtain⟨l1,l2⟩:=G6 (p:=p) (iv:=iv) (g:=g) (j:=xs.length-g.length+1) (rest:=xs) (q:=[]) eP;have hk:∀n,n<=1000000000->n<=i9 .i64:=λn h=>by show n<=9223372036854775807;omega
 unfold ko;dsimp only[fJ,fV];refine(RO).trans ?_;refine(UT eP eP).trans ?_;refine(jC).trans ?_;refine(jC).trans ?_;refine(jp).trans ?_;rw[fw eP,ez];refine(jC).trans ?_;refine(mQ hgx (hk _ eP)).trans ?_;refine(kW (hk _ eP)).trans ?_;refine(PG eP eP).trans ?_;refine(mQ (show 1<=g.length by omega) (hk _ eP)).trans ?_;refine(z6 (show g.length-1<g.length by omega) (wV z6M)).trans ?_;refine(U0 hinv).trans ?_;refine(jC).trans ?_;refine(mQ hgx (hk _ eP)).trans ?_;rw[Ni,Sa];have e:=VN (eg:=eg) (iv:=iv) (m:=xs.length) (Q:=xs.length-g.length+1) (φ:=φ) hp hpL hiv hg hg0 eP eP eP (xs.length-g.length+1) φ xs [] rfl hxs fU eP;rw[bQ]at e;refine Eq.trans e ?_;have e2:=z1m (rest:=(uQ p iv g (xs.length-g.length+1) xs []).1) (q:=(uQ p iv g (xs.length-g.length+1) xs []).2) (n:=g.length) (Q:=xs.length-g.length+1) (φ:=φ) hg0 (by rw[l1];exact hgx) (by rw[l2];rfl) (by rw[l1];omega) eP eP (by rw[l1];omega);rw[l1]at e2;exact e2
end
end Go.Proofs.Ev
namespace Go.Proofs.Ev
section
variable {n k p d:Nat} {m a b c:Int} {x y z x' y' v q r:ZX} {l f g os ys:eZ}
def CgZ(m:Int)(x y:ZX):Prop:=∃z,x=y+ZX.C m*z
def y4(h:∀k,∃z,x.c k=y.c k+m*z):CgZ m x y:=
 ⟨⟨λk=>(h k).choose⟩,ZX.ext' λk=>by
  show x.c k=y.c k+cvI (ZX.C m).c _ k;rw[ZX.C_mul];exact(h k).choose_spec⟩
def yv(h:CgZ m x y)(k:Nat):∃z,x.c k=y.c k+m*z:=by
 obtain⟨z,rfl⟩:=h;refine⟨z.c k,?_⟩;show y.c k+cvI (ZX.C m).c z.c k=_;rw[ZX.C_mul]
def CgZ.rfl':CgZ m x x:=⟨0,z69⟩
def CgZ.of(h:x=y):CgZ m x y:=h▸CgZ.rfl'
def CgZ.sy(h:CgZ m x y):CgZ m y x:=by obtain⟨z,rfl⟩:=h;exact⟨-z,z69⟩
def CgZ.tr(h:CgZ m x y)(h':CgZ m y z):CgZ m x z:=by obtain⟨a,rfl⟩:=h;obtain⟨b,rfl⟩:=h';exact⟨a+b,z69⟩
def CgZ.ad(h:CgZ m x x')(h':CgZ m y y'):CgZ m (x+y) (x'+y'):=by obtain⟨a,rfl⟩:=h;obtain⟨b,rfl⟩:=h';exact⟨a+b,z69⟩
def CgZ.sb(h:CgZ m x x')(h':CgZ m y y'):CgZ m (x-y) (x'-y'):=by obtain⟨a,rfl⟩:=h;obtain⟨b,rfl⟩:=h';exact⟨a-b,z69⟩
def CgZ.ml(h:CgZ m x x')(h':CgZ m y y'):CgZ m (x*y) (x'*y'):=by obtain⟨a,rfl⟩:=h;obtain⟨b,rfl⟩:=h';exact⟨x'*b+a*y'+a*ZX.C m*b,z69⟩
def zx(l:eZ):ZX:=⟨λk=>((l.getD k 0:Nat):Int)⟩
def XX:ZX:=⟨ei [0,1]⟩
def SJ(k:Nat):(XX*x).c k=shI x.c k:=by
 show cvI (ei [0,1]) x.c k=_;rw[<-y8];show 0*x.c k+shI (λk=>1*x.c k+shI (λ_=>0) k) k=_;cases k with
 |zero=>show 0*x.c 0+0=(0:Int);omega
 |succ k=>
  show 0*x.c (k+1)+(1*x.c k+shI (λ_=>0) k)=x.c k;cases k with
  |zero=>show _+(_+(0:Int))=_;omega
  |succ k=>show _+(_+(0:Int))=_;omega
def uW:zx []=0:=ZX.ext' λk=>by
 show(([]:eZ).getD k 0:Int)=(ZX.C 0).c k;cases k<;>rfl
def Ck(k:Nat):(x+y).c k=x.c k+y.c k:=rfl
def H7(k:Nat):(x-y).c k=x.c k-y.c k:=rfl
def uP(k:Nat):(ZX.C a*x).c k=a*x.c k:=ZX.C_mul
def C_z:(ZX.C a).c 0=a:=rfl
def C_s(k:Nat):(ZX.C a).c (k+1)=0:=rfl
def As(k:Nat):(0:ZX).c k=0:=by cases k<;>rfl
def xq{a:Nat}:zx (a::l)=ZX.C a+XX*zx l:=ZX.ext' λk=>by
 rw[Ck,SJ];cases k with
 |zero=>show((a:Nat):Int)=a+0;omega
 |succ k=>show((l.getD k 0:Nat):Int)=0+((l.getD k 0:Nat):Int);omega
def ww(k:Nat):(zx l).c k=((l.getD k 0:Nat):Int):=rfl
def If:tI l.length (zx l):=λk hk=>by
 rw[ww,aB,ai hk];rfl
def Aq:zx [1]=1:=by rw[xq,uW];show ZX.C 1+XX*0=1;have:ZX.C 1=1:=rfl;rw[this];exact z69
structure Pq (p:Nat) (l:eZ):Prop where
 lt:∀x,x∈l->x<p
 top:∀d,l.length=d+1->l.getD d 0≠0
def wH(h:∀x,x∈l->x<p)(hp:0<p)(k:Nat):l.getD k 0<p:=by
 rw[aB];cases hk:l[k]?with
 |none=>exact hp
 |some a=>exact h a (bS hk)
def Pq.get(h:Pq p l)(hp:0<p)(k:Nat):l.getD k 0<p:=wH h.lt hp k
def BC:Pq p []:=⟨λ_ h=>(by cases h),λ_ h=>(by cases h)⟩
def FW{a b p:Nat}(ha:a<p)(hb:b<p)(h:∃z:Int,(a:Int)=b+p*z):a=b:=by
 obtain⟨z,hz⟩:=h;have h1:((a:Int)-b)=p*z:=eP;rcases Int.lt_trichotomy z 0 with h0|h0|h0
 ·have:(p:Int)*z<=p*(-1):=dZ eP eP;omega
 ·subst h0;omega
 ·have:(p:Int)*1<=p*z:=dZ eP eP;omega
def BH(a p:Nat):∃z:Int,((a%p:Nat):Int)=a+p*z:=⟨-((a/p:Nat):Int),by
 have:=cK a p;have h2:((p*(a/p)+a%p:Nat):Int)=(a:Int):=by rw[this]
 have h3:((p*(a/p):Nat):Int)=(p:Int)*((a/p:Nat):Int):=bZ _ _;rw[eB];omega⟩
def Bk:∀l:eZ,∃j,j<=l.length/\tz l=l.take j/\(∀k,j<=k->l.getD k 0=0)/\∀d,j=d+1->l.getD d 0≠0
 |[]=>⟨0,aC _,rfl,λk _=>rfl,λd h=>by cases h⟩
 |a::l=>by
  obtain⟨j,h1,h2,h3,h4⟩:=Bk l;cases h:tz l with
  |nil=>
   have hj:j=0\/l=[]:=by
    rw[h]at h2;have:=congrArg List.length h2;rw[aR,cF h1]at this;exact Or.inl this.symm
   have hj:j=0:=by
    rcases hj with h|h
    ·exact h
    ·subst h;simpa using h1
   subst hj;by_cases ha:a=0
   ·refine⟨0,aJ _,?_,λk _=>?_,λd h=>by cases h⟩
    ·show(match tz l with|[]=>if a=0 then[]else[a]|b::r=>a::b::r)=_;rw[h];simp[ha]
    ·cases k with
     |zero=>simpa using ha
     |succ k=>exact h3 k (aJ _)
   ·refine⟨1,by simp,?_,λk hk=>?_,λd hd=>?_⟩
    ·show(match tz l with|[]=>if a=0 then[]else[a]|b::r=>a::b::r)=_;rw[h];simp[ha]
    ·obtain⟨k,rfl⟩:∃i,k=i+1:=⟨k-1,eP⟩
     exact h3 k (aJ _)
    ·obtain rfl:d=0:=eP;simpa using ha
  |cons b r=>
   refine⟨j+1,by simpa using h1,?_,λk hk=>?_,λd hd=>?_⟩
   ·show(match tz l with|[]=>if a=0 then[]else[a]|b::r=>a::b::r)=_;rw[h,cb,<-h2,h]
   ·obtain⟨k,rfl⟩:∃i,k=i+1:=⟨k-1,eP⟩
    exact h3 k eP
   ·have hd:d=j:=eP;subst hd;cases d with
    |zero=>rw[h]at h2;simp at h2
    |succ d=>exact h4 d rfl
def II{j k:Nat}:(l.take j).getD k 0=if k<j then l.getD k 0 else 0:=by
 simp only[aB,cN];split<;>rfl
def Nv(h:∀k,n<=k->l.getD k 0=0):zx (l.take n)=zx l:=ZX.ext' λk=>by
 rw[ww,ww,II];by_cases hk:k<n
 ·rw[aF hk]
 ·rw[aG hk,h k eP]
def Ep:zx (tz l)=zx l:=by
 obtain⟨j,h1,h2,h3,h4⟩:=Bk l;rw[h2];exact Nv h3
def CE(h:∀x,x∈l->x<p):Pq p (tz l):=by
 obtain⟨j,h1,h2,h3,h4⟩:=Bk l;rw[h2];refine⟨λx hx=>h x (bH hx),λd hd=>?_⟩;rw[aR,cF h1]at hd;rw[II,aF eP];exact h4 d hd
def Dc:(tz l).length<=l.length:=by
 obtain⟨j,h1,h2,h3,h4⟩:=Bk l;rw[h2,aR];omega
def Ik(h:∀d,l.length=d+1->l.getD d 0≠0):tz l=l:=by
 obtain⟨j,h1,h2,h3,h4⟩:=Bk l;rw[h2];rcases aY j l.length with hj|hj
 ·exfalso;obtain⟨d,hd⟩:∃d,l.length=d+1:=⟨l.length-1,eP⟩
  exact h d hd (h3 d eP)
 ·exact aP hj
def FM{x:Nat}:∀(ys os:eZ)(k:Nat),ys.length<=os.length->(vB p x ys os).getD k 0=if k<ys.length then(os.getD k 0+x*ys.getD k 0)%p else os.getD k 0
 |[],os,k,_=>by rw[vB];simp
 |y::ys,[],k,h=>by simp at h
 |y::ys,o::os,k,h=>by
  rw[vB];cases k with
  |zero=>simp
  |succ k=>
   have:=FM (x:=x) ys os k (by simpa using h);simpa using this
def Rx{x:Nat}(h:ys.length<=os.length):CgZ p (zx (vB p x ys os)) (zx os+ZX.C x*zx ys):=y4 λk=>by
 rw[Ck,uP,ww,ww,ww,FM ys os k h];by_cases hk:k<ys.length
 ·rw[aF hk];obtain⟨z,hz⟩:=BH (os.getD k 0+x*ys.getD k 0) p;refine⟨z,?_⟩;rw[hz,znl,bZ]
 ·refine⟨0,?_⟩;rw[aG hk,show ys.getD k 0=0 by rw[aB,ai eP];rfl];simp
def E2{x:Nat}(hp:0<p):∀{ys os:eZ},(∀a,a∈os->a<p)->∀a,a∈vB p x ys os->a<p
 |[],os,h=>h
 |y::ys,[],h=>λa ha=>by cases ha
 |y::ys,o::os,h=>λa ha=>by
  rcases bh.1 ha with rfl|ha
  ·exact bN _ hp
  ·exact E2 hp (λa ha=>h a (bC _ ha)) a ha
def XH(O O' x y xr X:ZX)(h:CgZ m (O+X*O') (z+x*y)):CgZ m (O+X*(O'+xr*y)) (z+(x+X*xr)*y):=by
 obtain⟨w,hw⟩:=h;exact⟨w,by
  have e1:O+X*(O'+xr*y)=(O+X*O')+X*xr*y:=by clear hw;exact z69
  rw[e1,hw];clear e1 hw;exact z69⟩
def Nw(hp:0<p)(h0:0<ys.length):∀(xr os:eZ),xr.length+ys.length<=os.length+1->(∀a,a∈os->a<p)->
 CgZ p (zx (yM p ys xr os)) (zx os+zx xr*zx ys)/\∀a,a∈yM p ys xr os->a<p
 |[],os,h,hl=>⟨by rw[yM,uW];exact CgZ.of z69,hl⟩
 |x::xr,os,h,hl=>by
  have hle:ys.length<=os.length:=by simp at h;omega
  have hlen:=xK (p:=p) (x:=x) hle;have z82:=Rx (p:=p) (x:=x) hle;have hlt:=E2 (p:=p) (x:=x) (ys:=ys) hp hl;show CgZ p (zx (match vB p x ys os with|[]=>[]|o::os'=>o::yM p ys xr os')) _/\∀a,a∈(match vB p x ys os with|[]=>[]|o::os'=>o::yM p ys xr os')->a<p;cases hr:vB p x ys os with
  |nil=>rw[hr]at hlen;simp at hlen;omega
  |cons o os'=>
   rw[hr]at hlen z82 hlt;obtain⟨i1,i2⟩:=Nw hp h0 xr os' (by simp at h hlen;omega) (λa ha=>hlt a (bC _ ha));refine⟨?_,λa ha=>?_⟩
   ·show CgZ p (zx (o::yM p ys xr os')) _;rw[xq];refine(CgZ.ad CgZ.rfl' (CgZ.ml CgZ.rfl' i1)).tr ?_;rw[xq]at z82;rw[xq (l:=xr)];exact XH _ _ _ _ _ _ z82
   ·rcases bh.1 ha with rfl|ha
    ·exact hlt _ (b9 ..)
    ·exact i2 a ha
def ZO(n:Nat):zx (List.replicate n 0)=0:=ZX.ext' λk=>by
 rw[ww,As,aB,zmB];split<;>rfl
def XL(p:Nat)(f g:eZ):eZ:=tz (yM p g f (List.replicate (f.length+g.length-1) 0))
def XK(hp:0<p)(hf:0<f.length)(hg:0<g.length):CgZ p (zx (XL p f g)) (zx f*zx g)/\Pq p (XL p f g)/\(XL p f g).length<=f.length+g.length-1:=by
 obtain⟨h1,h2⟩:=Nw (p:=p) (ys:=g) hp hg f (List.replicate (f.length+g.length-1) 0) (by rw[bg];omega) (λa ha=>by rw[cG ha];exact hp);unfold XL;refine⟨?_,CE h2,?_⟩
 ·rw[Ep];refine h1.tr (CgZ.of ?_);rw[ZO];exact z69
 ·refine aX Dc ?_;rw[Fh (by rw[bg];omega) hg,bg];exact aC _
def Er:∀(j:Nat)(l r:eZ),j<=l.length->zx (l.take j++r)=zx (l.take j)+XX^j*zx r
 |0,l,r,_=>by rw[dr,cW,uW,show XX^0=1 from rfl];exact z69
 |j+1,[],r,h=>by simp at h
 |j+1,a::l,r,h=>by
  rw[cb,d9,xq,Er j l r (by simpa using h),xq,show XX^(j+1)=XX^j*XX from rfl];generalize XX^j=Y;exact z69
def z1l(R R' T D Y Q G c cc:ZX)(hR:R=T+Y*D)(hR':CgZ m R' (T+Y*(D+cc*G)))(hc:CgZ m (cc+c) 0):CgZ m (R+Y*XX*Q*G) (R'+Y*(c+XX*Q)*G):=by
 obtain⟨w,hw⟩:=hR';obtain⟨v,hv⟩:=hc;refine⟨-w-Y*v*G,?_⟩;have e:cc=ZX.C m*v-c:=by
  have:cc=(cc+c)-c:=by clear hw hv hR;exact z69
  rw[this,hv];clear this hw hv hR;exact z69
 rw[hw,hR,e];clear hw hv hR e;exact z69
def z0s{c:Nat}(hp:0<p):CgZ (p:Int) (ZX.C ((p-1)*c:Nat)+ZX.C c) 0:=y4 λk=>by
 rw[Ck,As];cases k with
 |zero=>
  refine⟨c,?_⟩;rw[C_z,C_z,bZ,show((p-1:Nat):Int)=(p:Int)-1 by omega,Int.sub_mul];omega
 |succ k=>exact⟨0,by rw[C_s,C_s];omega⟩
def Nx{iv:Nat}(hp:0<p)(hg0:0<g.length):∀(j:Nat)(rest q:eZ),j+g.length<=rest.length+1->(∀a,a∈rest->a<p)->(∀a,a∈q->a<p)->(∀k,j+g.length-1<=k->rest.getD k 0=0)\/True->
 CgZ p (zx rest+XX^j*zx q*zx g) (zx (uQ p iv g j rest q).1+zx (uQ p iv g j rest q).2*zx g)/\(∀a,a∈(uQ p iv g j rest q).1->a<p)/\(∀a,a∈(uQ p iv g j rest q).2->a<p)
 |0,rest,q,h,hr,hq,_=>⟨by
  show CgZ p (zx rest+XX^0*zx q*zx g) (zx rest+zx q*zx g);rw[show XX^0=1 from rfl];exact CgZ.of z69,hr,hq⟩
 |j+1,rest,q,h,hr,hq,_=>by
  have hc:rest.getD (j+g.length-1) 0*iv%p<p:=bN _ hp;rw[uQ];generalize rest.getD (j+g.length-1) 0*iv%p=c at hc ⊢;have hj:j<=rest.length:=eP;have hle:g.length<=(rest.drop j).length:=by rw[bR];omega
  have hlt:∀a,a∈rest.take j++vB p ((p-1)*c) g (rest.drop j)->a<p:=λa ha=>by
   rcases bM.1 ha with ha|ha
   ·exact hr a (bH ha)
   ·exact E2 hp (λa ha=>hr a (ba ha)) a ha
  obtain⟨i1,i2,i3⟩:=Nx (iv:=iv) hp hg0 j (rest.take j++vB p ((p-1)*c) g (rest.drop j)) (c::q) (by rw[E1 eP];omega) hlt (λa ha=>by
   rcases bh.1 ha with rfl|ha
   ·exact hc
   ·exact hq a ha) (Or.inr trivial)
  refine⟨CgZ.tr ?_ i1,i2,i3⟩;rw[show XX^(j+1)=XX^j*XX from rfl,xq];refine z1l (zx rest) _ (zx (rest.take j)) (zx (rest.drop j)) (XX^j) (zx q) (zx g) (ZX.C c) (ZX.C ((p-1)*c:Nat)) ?_ ?_ (z0s hp)
  ·rw[<-Er j rest _ hj,bY]
  ·rw[Er j rest _ hj];exact CgZ.ad CgZ.rfl' (CgZ.ml CgZ.rfl' (Rx hle))
def Lk{iv lead:Nat}(hp:0<p)(hg0:0<g.length)(hl:g.getD (g.length-1) 0=lead)(hi:lead*iv%p=1%p):∀(j:Nat)(rest q:eZ),j+g.length<=rest.length+1->(∀a,a∈rest->a<p)->(∀k,j+g.length-1<=k->rest.getD k 0=0)->
 ∀k,g.length-1<=k->(uQ p iv g j rest q).1.getD k 0=0
 |0,rest,q,h,hr,hz=>λk hk=>hz k eP
 |j+1,rest,q,h,hr,hz=>by
  rw[uQ];have hj:j<=rest.length:=eP;have hle:g.length<=(rest.drop j).length:=by rw[bR];omega
  refine Lk hp hg0 hl hi j _ _ (by rw[E1 eP];omega) (λa ha=>?_) (λk hk=>?_)
  ·rcases bM.1 ha with ha|ha
   ·exact hr a (bH ha)
   ·exact E2 hp (λa ha=>hr a (ba ha)) a ha
  ·have htk:(rest.take j).length=j:=by rw[aR];omega
   rw[aB,aM eP,htk,<-aB,FM _ _ _ hle];have hdr:∀i,(rest.drop j).getD i 0=rest.getD (j+i) 0:=λi=>by simp only[aB,cA]
   rw[hdr];by_cases hk2:k-j<g.length
   ·have:k-j=g.length-1:=eP;rw[aF hk2,this,hl,show j+(g.length-1)=j+g.length-1 by omega];generalize rest.getD (j+g.length-1) 0=R;have h1:(R+(p-1)*(R*iv%p)*lead)%p=(R+(p-1)*(R*(lead*iv)))%p:=by
     rw[znr,dS,dS (p-1),Nat.mod_mod,<-dS (p-1),<-dS,<-znr];congr 2;rw[aa,aa,aL iv lead]
    rw[h1,znr,dS (p-1),dS R,hi,<-dS R,<-dS,<-znr,a9];have:R+(p-1)*R=p*R:=by
     obtain⟨q,rfl⟩:∃q,p=q+1:=⟨p-1,eP⟩
     rw[au,aS];omega
    rw[this,Nat.mul_mod_right]
   ·rw[aG hk2];exact hz _ eP
def VU{iv:Nat}:∀(j:Nat)(rest q:eZ),∃l,l.length=j/\(uQ p iv g j rest q).2=l++q
 |0,rest,q=>⟨[],rfl,rfl⟩
 |j+1,rest,q=>by
  rw[uQ];obtain⟨l,h1,h2⟩:=VU (iv:=iv) j (rest.take j++vB p ((p-1)*(rest.getD (j+g.length-1) 0*iv%p)) g (rest.drop j)) (rest.getD (j+g.length-1) 0*iv%p::q);exact⟨l++[rest.getD (j+g.length-1) 0*iv%p],by rw[aq,h1];rfl,by rw[h2,aQ];rfl⟩
def VT{iv:Nat}(j:Nat)(rest:eZ):(uQ p iv g (j+1) rest []).2.getD j 0=rest.getD (j+g.length-1) 0*iv%p:=by
 rw[uQ];obtain⟨l,h1,h2⟩:=VU (p:=p) (g:=g) (iv:=iv) j (rest.take j++vB p ((p-1)*(rest.getD (j+g.length-1) 0*iv%p)) g (rest.drop j)) [rest.getD (j+g.length-1) 0*iv%p];rw[h2,aB,aM eP,h1,bD];rfl
end
end Go.Proofs.Ev
