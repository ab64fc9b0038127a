/- What the evaluator and the residuals compute. -/
import Derived.Test.YthljpappkomocaaGreatA3
import Derived.Test.YthljpappkomocaaGreatA2
import Derived.KernelRfl
set_option linter.all false
namespace Go.Proofs.Ev
section
variable {k p d:Nat} {m a c:Int} {x y z x' y' q r:ZX}
def Po(x:ZX):Prop:=∃N,tI N x
def Po.add(h:Po x)(h':Po y):Po (x+y):=by
 obtain⟨N,h⟩:=h;obtain⟨M,h'⟩:=h';exact⟨N+M,Kv (AR h eP) (AR h' eP)⟩
def Po.mul(h:Po x)(h':Po y):Po (x*y):=by
 obtain⟨N,h⟩:=h;obtain⟨M,h'⟩:=h';exact⟨_,wL h h'⟩
def Po.C(a:Int):Po (ZX.C a):=⟨1,λk hk=>by
 obtain⟨j,rfl⟩:∃j,k=j+1:=⟨k-1,eP⟩
 rfl⟩
def Po.one:Po 1:=Po.C 1
def Po.zero:Po 0:=Po.C 0
def Po.sub(h:Po x)(h':Po y):Po (x-y):=by
 obtain⟨N,h⟩:=h;obtain⟨M,h'⟩:=h';exact⟨N+M,λk hk=>by rw[H7,h k eP,h' k eP];rfl⟩
def Po.zx{l:eZ}:Po (zx l):=⟨_,If⟩
def Po.der(h:Po x):Po x.der:=by
 obtain⟨N,h⟩:=h;exact⟨N,λk hk=>by show((k:Int)+1)*x.c (k+1)=0;rw[h (k+1) eP];omega⟩
def z1q(h:CgZ m x y):CgZ m x.der y.der:=by
 refine y4 λk=>?_;obtain⟨z,hz⟩:=yv h (k+1);refine⟨((k:Int)+1)*z,?_⟩;show((k:Int)+1)*x.c (k+1)=((k:Int)+1)*y.c (k+1)+_;rw[hz];exact z69
def Bez(m:Int)(x y:ZX):Prop:=∃S T,Po S/\Po T/\CgZ m (S*x+T*y) 1
def Bez.cg(h:Bez m x y)(hx:CgZ m x x')(hy:CgZ m y y'):Bez m x' y':=by
 obtain⟨S,T,h1,h2,h3⟩:=h;exact⟨S,T,h1,h2,(CgZ.ad (CgZ.ml CgZ.rfl' hx.sy) (CgZ.ml CgZ.rfl' hy.sy)).tr h3⟩
def Bez.sy(h:Bez m x y):Bez m y x:=by
 obtain⟨S,T,h1,h2,h3⟩:=h;exact⟨T,S,h2,h1,(CgZ.of z69).tr h3⟩
def YZ(hx:Po x)(hy:Po y)(h:Bez m (x*y) (x*y).der):Bez m x y:=by
 obtain⟨S,T,h1,h2,h3⟩:=h;refine⟨S*y+T*y.der,T*x.der,(h1.mul hy).add (h2.mul hy.der),h2.mul hx.der,CgZ.tr (CgZ.of ?_) h3⟩;rw[rk1,<-Pw]
def rl1(S T y r q:ZX):S*(q*y+r)+T*y=(S*q+T)*y+S*r:=z69
def Bez.step(h:Bez m x y)(hq:Po q)(he:CgZ m x (q*y+r)):Bez m y r:=by
 obtain⟨S,T,h1,h2,h3⟩:=h;refine⟨S*q+T,S,(h1.mul hq).add h2,h1,CgZ.tr (y:=S*x+T*y) ?_ h3⟩;rw[<-rl1];exact CgZ.ad (CgZ.ml CgZ.rfl' he.sy) CgZ.rfl'
def Vj{p:Int}(hd:MonZ d x)(hp:¬ ∃z,(1:Int)=p*z)(h:∃S,Po S/\CgZ p (x*S) 1):d=0:=by
 obtain⟨S,⟨N,hN⟩,z,hz⟩:=h;exact SW (c:=1) hd hN ⟨z,hz⟩ hp
end
section
variable {n k p d e iv:Nat} {l f g q r a d':eZ} {x y:ZX}
structure Pr (p:Nat):Prop where
 two:2<=p
 cop:∀a,0<a->a<p->Nat.gcd a p=1
def Pr.pos(h:Pr p):0<p:=bw eV h.two
def Pr.one(h:Pr p):¬ ∃z:Int,(1:Int)=p*z:=λ⟨z,hz⟩=>by
 have:=h.two;have h1:(p:Int)∣1:=⟨z,hz⟩
 have:=Int.le_of_dvd eV h1;omega
def Mo(l:eZ):Prop:=l≠[]/\l.getD (l.length-1) 0=1
def Mo.ex(h:Mo l):∃d,l.length=d+1/\l.getD d 0=1:=by
 obtain⟨h1,h2⟩:=h;have:=az.2 h1;exact⟨l.length-1,eP,h2⟩
def Mo.monz(h:Mo l)(hd:l.length=d+1):MonZ d (zx l):=by
 obtain⟨d',h1,h2⟩:=h.ex;have:d=d':=eP;subst this;exact⟨by rw[ww,h2];rfl,by rw[<-h1];exact If⟩
def Pq.lead(h:Pq p l)(h0:l≠[]):0<l.getD (l.length-1) 0:=by
 have:=az.2 h0;exact zmy (h.top (l.length-1) eP)
def z0W{c:Nat}(hi:n*iv%p=1%p)(hc:c<p)(h:c*iv%p=0):c=0:=by
 have h1:c*(n*iv)%p=c%p:=by rw[dS,hi,<-dS,a9]
 have h2:c*(n*iv)%p=0:=by
  rw[show c*(n*iv)=n*(c*iv) by rw[eI],dS,h,dU,znf]
 rw[h2,am hc]at h1;exact h1.symm
structure DM (p:Nat) (f g q r:eZ):Prop where
 eq:CgZ p (zx f) (zx q*zx g+zx r)
 pq:Pq p q
 pr:Pq p r
 lr:r.length<g.length
 lq:g.length<=f.length->q.length=f.length-g.length+1
 lo:f.length<g.length->q=[]
 mo:g.length<=f.length->Mo f->Mo g->Mo q
 rf:r.length<=f.length
def z3g(hp:0<p)(hp2:2<=p)(hf:Pq p f)(hg:Pq p g)(h0:g≠[])(hle:g.length<=f.length)(hi:g.getD (g.length-1) 0*iv%p=1%p)(hiv:Mo g->iv%p=1):
 DM p f g (tz (uQ p iv g (f.length-g.length+1) f []).2) (tz ((uQ p iv g (f.length-g.length+1) f []).1.take (g.length-1))):=by
 have hg0:=az.2 h0;have hz:∀k,f.length-g.length+1+g.length-1<=k->f.getD k 0=0:=λk hk=>by
  rw[aB,ai eP];rfl
 obtain⟨i1,i2,i3⟩:=Nx (iv:=iv) hp hg0 (f.length-g.length+1) f [] eP hf.lt (λa ha=>by cases ha) (Or.inr trivial);have i4:=Lk (iv:=iv) (q:=[]) hp hg0 rfl hi (f.length-g.length+1) f eP hf.lt hz;obtain⟨l1,l2⟩:=G6 (p:=p) (iv:=iv) (g:=g) (j:=f.length-g.length+1) (rest:=f) (q:=[]) eP;have l2:(uQ p iv g (f.length-g.length+1) f []).2.length=f.length-g.length+1:=l2;have ht:=VT (p:=p) (g:=g) (iv:=iv) (f.length-g.length) f;rw[show f.length-g.length+g.length-1=f.length-1 by omega]at ht;have hne:f≠[]:=λh=>by rw[h]at hle;simp at hle;exact h0 hle
 have hfl:=hf.lead hne;have hfp:=hf.get hp (f.length-1);have hs:tz (uQ p iv g (f.length-g.length+1) f []).2=(uQ p iv g (f.length-g.length+1) f []).2:=Ik λd hd=>by
  have:d=f.length-g.length:=eP;rw[this,ht];intro h;have:=z0W hi hfp h;omega
 have hrl:(tz ((uQ p iv g (f.length-g.length+1) f []).1.take (g.length-1))).length<g.length:=by
  refine cR Dc ?_;rw[aR];omega
 refine⟨?_,CE i3,CE λa ha=>i2 a (bH ha),hrl,λ_=>by rw[hs,l2],λh=>eP,λ_ m1 m2=>?_,eP⟩
 ·rw[Ep,Ep,Nv i4];refine CgZ.tr (CgZ.of ?_) (i1.tr (CgZ.of ?_))
  ·rw[uW];exact z69
  ·exact z69
 ·rw[hs];refine⟨λh=>by rw[h]at l2;simp at l2,?_⟩;rw[l2,au,ht,m1.2,ao];exact hiv m2
def VM(hf:Pq p f)(h:f.length<g.length):DM p f g [] f:=
 ⟨by rw[uW];exact CgZ.of z69,BC,hf,h,λh'=>eP,λ_=>rfl,λh'=>eP,aC _⟩
structure GC (p:Nat) (f g d:eZ):Prop where
 pm:Pq p d
 bz:∃U V,Po U/\Po V/\CgZ p (zx d) (U*zx f+V*zx g)
 df:∃x,Po x/\CgZ p (zx f) (zx d*x)
 dg:∃x,Po x/\CgZ p (zx g) (zx d*x)
 mo:f≠[]\/g≠[]->Mo d
 ln:f≠[]->d.length<=f.length
def rl2(U V q y r:ZX):U*y+V*r=V*(q*y+r)+(U-V*q)*y:=z69
def rl3(D x q y r:ZX):q*(D*x)+D*y=D*(q*x+y):=z69
def Yw{N:Nat}(hm:Mo l)(hf:Pq p f)(hf0:f≠[])(hx:tI N x)(h:CgZ p (zx f) (zx l*x))(hp:Pr p):l.length<=f.length:=by
 obtain⟨d,hd,h1⟩:=hm.ex;rcases aY f.length l.length with hlt|hge
 ·exfalso;obtain⟨w,hw⟩:=h.sy;have h2:DvZ p 0 x:=by
   have h3:DvZ p (f.length-d) x:=xQ (n:=f.length-d) (hm.monz hd) hx λk hk=>by
    rw[hw];refine⟨w.c k,?_⟩;rw[Ck,uP,If k eP];omega
   intro k hk;exact h3 k eP
  obtain⟨z0,hz0⟩:∃z0:ZX,x=ZX.C p*z0:=⟨⟨λk=>(h2 k (aJ _)).choose⟩,ZX.ext' λk=>by
   rw[uP];exact(h2 k (aJ _)).choose_spec⟩
  have h4:CgZ p (zx f) 0:=h.tr ⟨zx l*z0,by rw[hz0];exact z69⟩;obtain⟨z1,hz1⟩:=yv h4 (f.length-1);have h5:=hf.lead hf0;have h6:=hf.get hp.pos (f.length-1);rw[ww,As]at hz1;have:=FW (p:=p) h6 hp.pos ⟨z1,hz1⟩;omega
 ·exact hge
def GC.step(hp:Pr p)(h:DM p f g q r)(hf:Pq p f)(hg0:g≠[])(hd:GC p g r d'):GC p f g d':=by
 obtain⟨U,V,h1,h2,h3⟩:=hd.bz;obtain⟨x,hx,h4⟩:=hd.df;obtain⟨y,hy,h5⟩:=hd.dg;have hdf:∃x,Po x/\CgZ p (zx f) (zx d'*x):=by
  refine⟨zx q*x+y,(Po.zx.mul hx).add hy,h.eq.tr ?_⟩;rw[<-rl3 _ _ _ _ (zx r)];exact CgZ.ad (CgZ.ml CgZ.rfl' h4) h5
 refine⟨hd.pm,⟨V,U-V*zx q,h2,h1.sub (h2.mul Po.zx),?_⟩,hdf,⟨x,hx,h4⟩,λ_=>hd.mo (Or.inl hg0),λhf0=>?_⟩
 ·refine h3.tr ?_;rw[rl2 U V (zx q)];exact CgZ.ad (CgZ.ml CgZ.rfl' h.eq.sy) CgZ.rfl'
 ·obtain⟨x1,⟨N,hN⟩,h6⟩:=hdf;exact Yw (hd.mo (Or.inl hg0)) hf hf0 hN h6 hp
def GC.unit(h:GC p f g d')(h1:d'.length=1)(hm:Mo d'):Bez p (zx f) (zx g):=by
 obtain⟨U,V,h2,h3,h4⟩:=h.bz;refine⟨U,V,h2,h3,h4.sy.tr (CgZ.of ?_)⟩;obtain⟨hn,ht⟩:=hm;rw[h1]at ht
 match d',h1,ht with
 |[c],_,ht=>
  have:c=1:=by simpa using ht
  rw[this,Aq]
def VO(hp:Pr p)(h:DM p f g q r)(hg:Mo g)(hd:∃x,Po x/\CgZ p (zx f) (zx g*x)):r=[]/\CgZ p (zx f) (zx g*zx q):=by
 obtain⟨x,⟨N,hN⟩,hx⟩:=hd;obtain⟨e,he,h1⟩:=hg.ex;have h2:CgZ p (zx g*(x-zx q)) (zx r):=by
  refine CgZ.tr (CgZ.of (z69:zx g*(x-zx q)=zx g*x-zx q*zx g)) ((CgZ.sb (hx.sy.tr h.eq) CgZ.rfl').tr (CgZ.of z69))
 have hPo:Po (x-zx q):=Po.sub ⟨N,hN⟩ Po.zx;obtain⟨M,hM⟩:=hPo;have h3:DvZ p 0 (x-zx q):=xQ (n:=0) (hg.monz he) hM λk hk=>by
  obtain⟨z,hz⟩:=yv h2 k;have hlr:=h.lr;exact⟨z,by rw[hz,If k eP];omega⟩
 obtain⟨z0,hz0⟩:∃z0:ZX,x-zx q=ZX.C p*z0:=⟨⟨λk=>(h3 k (aJ _)).choose⟩,ZX.ext' λk=>by
  rw[uP];exact(h3 k (aJ _)).choose_spec⟩
 have h4:CgZ p (zx r) 0:=h2.sy.tr ⟨zx g*z0,by rw[hz0];exact z69⟩;have hr:r=[]:=by
  rcases zmL r with h|⟨l,a,h'⟩
  ·exact h
  ·exfalso;have hne:r≠[]:=by rw[h'];simp
   have h5:=h.pr.lead hne;have h6:=h.pr.get hp.pos (r.length-1);obtain⟨z1,hz1⟩:=yv h4 (r.length-1);rw[ww,As]at hz1;have:=FW (p:=p) h6 hp.pos ⟨z1,hz1⟩;omega
 refine⟨hr,h.eq.tr (CgZ.of ?_)⟩;rw[hr,uW];exact z69
end
section
variable {k i:Nat} {a b f g h l o:fZ} {x y c:Int}
def zl(l:fZ):ZX:=⟨ei l⟩
def sd:(zl l).c k=ei l k:=rfl
def pK:zl []=0:=ZX.ext' λk=>by
 show ei [] k=(ZX.C 0).c k;cases k<;>rfl
def mC:zl (c::l)=ZX.C c+XX*zl l:=ZX.ext' λk=>by
 rw[Ck,SJ];cases k with
 |zero=>show c=c+0;omega
 |succ k=>show ei l k=0+ei l k;omega
def jr(h:l.length<=k):ei l k=0:=by
 unfold ei;rw[aB,ai h];rfl
def MK:tI l.length (zl l):=λk hk=>jr hk
def pI:fZ->Int->Int
 |[],_=>0
 |a::l,x=>a+x*pI l x
def wI:pI [] x=0:=rfl
def sW:pI (c::l) x=c+x*pI l x:=rfl
def sdI(c:Int):fZ->fZ
 |[]=>[]
 |[_]=>[]
 |_::b::l=>pI (b::l) c::sdI c (b::l)
def OT:∀l:fZ,(sdI c l).length=l.length-1
 |[]=>rfl
 |[_]=>rfl
 |_::b::l=>by
  rw[sdI,ah,OT (b::l)];simp
def ZN:ZX.C (x+y)=ZX.C x+ZX.C y:=ZX.ext' λk=>by
 cases k with
 |zero=>rfl
 |succ k=>rfl
def C_0:ZX.C 0=0:=rfl
def C_1:ZX.C 1=1:=rfl
def rn1(A X B C D K:ZX):A+X*(B+(X-K)*D)=A+K*B+(X-K)*(B+X*D):=z69
def Sk:∀l:fZ,zl l=ZX.C (pI l c)+(XX-ZX.C c)*zl (sdI c l)
 |[]=>by rw[sdI,pK,wI,C_0];exact z69
 |[a]=>by rw[sdI,mC,pK,sW,wI,zmX,znj];exact z69
 |a::b::l=>by
  have ih:=Sk (b::l);rw[sdI,mC,ih,show pI (a::b::l) c=a+c*pI (b::l) c from rfl,mC (l:=sdI c (b::l)),ZN,sB];generalize zl (sdI c (b::l))=S;generalize ZX.C (pI (b::l) c)=B;exact rn1 _ _ _ B _ _
def Sl:∀l:fZ,pI l x=(x-c)*pI (sdI c l) x+pI l c
 |[]=>by rw[sdI,wI,wI];exact z69
 |[a]=>by rw[sdI,wI,sW,sW,wI,wI];exact z69
 |a::b::l=>by
  have ih:=Sl (b::l);rw[sdI,sW (l:=sdI c (b::l)),sW (l:=b::l),sW (l:=b::l) (x:=c)];generalize pI (b::l) c=C at*;generalize pI (sdI c (b::l)) x=S at*;rw[ih];exact z69
def JM:∀{v a b:fZ},(∀i,ei v i=ei a i+c*ei b i)->pI v x=pI a x+c*pI b x
 |[],[],[],_=>by rw[wI];omega
 |v,a,b,h=>by
  have sp:∀l:fZ,pI l x=ei l 0+x*pI l.tail x:=λl=>by
   cases l with
   |nil=>show(0:Int)=0+x*0;omega
   |cons=>rfl
  have st:∀(l:fZ) i,ei l.tail i=ei l (i+1):=λl i=>by cases l<;>rfl
  by_cases h0:v=[]/\a=[]/\b=[]
  ·obtain⟨rfl,rfl,rfl⟩:=h0;rw[wI];omega
  ·have hlt:v.tail.length+a.tail.length+b.tail.length<v.length+a.length+b.length:=by
    cases v with
    |cons=>simp;omega
    |nil=>cases a with
     |cons=>simp;omega
     |nil=>cases b with
      |cons=>simp
      |nil=>exact absurd ⟨rfl,rfl,rfl⟩ h0
   have ih:=JM (v:=v.tail) (a:=a.tail) (b:=b.tail) λi=>by rw[st,st,st];exact h (i+1)
   rw[sp v,sp a,sp b,h 0,ih];exact z69
 termination_by v a b=>v.length+a.length+b.length
structure NI (f o b g:fZ):Prop where
 zx:zl f=zl o+zl b*zl g
 pv:∀x,pI f x=pI o x+pI b x*pI g x
def NI.start:NI f [] [1] f:=⟨by rw[pK,mC,pK,C_1];exact z69,λx=>by rw[wI,sW,wI];exact z69⟩
def rn2(o b g c K X:ZX):o+b*(c+(X-K)*g)=(o+c*b)+(X*b-K*b)*g:=z69
def NI.step{o' b':fZ}(h:NI f o b g)(ho:∀k,ei o' k=ei o k+pI g c*ei b k)(hb:∀k,ei b' k=shI (ei b) k-c*ei b k):NI f o' b' (sdI c g):=by
 have eo:zl o'=zl o+ZX.C (pI g c)*zl b:=ZX.ext' λk=>by rw[Ck,uP];exact ho k
 have eb:zl b'=XX*zl b-ZX.C c*zl b:=ZX.ext' λk=>by rw[H7,uP,SJ];exact hb k
 refine⟨?_,λx=>?_⟩
 ·rw[h.zx,eo,eb,Sk (c:=c) g];exact rn2 _ _ _ _ _ _
 ·have e1:=JM (x:=x) ho;have e2:pI b' x=pI (0::b) x+(-c)*pI b x:=JM λk=>by
   rw[hb];cases k with
   |zero=>show(0:Int)-c*_=0+_;exact z69
   |succ k=>show ei b k-c*_=ei b k+_;exact z69
  have e3:=Sl (x:=x) (c:=c) g;rw[h.pv,e1,e2,sW];generalize pI g c=G at*;generalize pI (sdI c g) x=S at*;rw[e3];exact z69
def NI.done(h:NI f o b []):∀k,ei o k=ei f k:=λk=>by
 have:=congrArg (λz:ZX=>z.c k) h.zx;simp only[pK]at this;have e:zl o+zl b*0=zl o:=z69;rw[e]at this;exact this.symm
def NI.coef(h:NI f o b g)(hb:pI b c≠0):(pI f c-pI o c)=pI g c*pI b c:=by rw[h.pv c];exact z69
def BdI(B:Nat)(l:fZ):Prop:=∀k,(ei l k).natAbs<=B
def Gm(h:BdI k (c::l)):BdI k l:=λi=>h (i+1)
def Dj{B X:Nat}(hx:x.natAbs<=X)(hX:1<=X):∀{l:fZ},BdI B l->(pI l x).natAbs<=l.length*B*X^l.length
 |[],_=>by simp[pI]
 |a::l,h=>by
  have ih:=Dj (l:=l) hx hX (Gm h);have h0:a.natAbs<=B:=h 0;rw[sW];have h1:=eJ a (x*pI l x);rw[bt]at h1;have h2:x.natAbs*(pI l x).natAbs<=X*(l.length*B*X^l.length):=ay hx ih;have h3:1<=X^(l.length+1):=Nat.one_le_pow _ _ hX;have h4:B*1<=B*X^(l.length+1):=ae _ h3;rw[ah,aS,aS,ao];have h5:X*(l.length*B*X^l.length)=l.length*B*X^(l.length+1):=by rw[bI];ac_rfl
  omega
def Sn{B X:Nat}(hc:c.natAbs<=X)(hX:1<=X):∀{l:fZ}{N:Nat},BdI B l->l.length<=N->BdI (N*B*X^N) (sdI c l)
 |[],N,_,_=>λk=>by show(ei [] k).natAbs<=_;rw[jr (aJ _)];exact aJ _
 |[a],N,_,_=>λk=>by show(ei [] k).natAbs<=_;rw[jr (aJ _)];exact aJ _
 |a::b::l,N,h,hl=>λk=>by
  rw[sdI];cases k with
  |zero=>
   refine aX (Dj hc hX (Gm h)) ?_;simp only[ah]at hl ⊢;exact ay (aK _ eP) (cM hX eP)
  |succ k=>exact Sn hc hX (l:=b::l) (Gm h) (by simp at hl ⊢;omega) k
end
end Go.Proofs.Ev
namespace Go.Proofs.Ev
noncomputable section
variable {a b:Int} {k:D->Rs}
def zd(z:Int):D:=.i .i64 z
def IZ(z:Int):Prop:= -9223372036854775808<=z/\z<=9223372036854775807
def wb{op:BinOp}{r:D}(h:bin op (zd a) (zd b)=some r):gN op (zd a) (zd b) k=k r:=by
 unfold gN;rw[gc,h];rfl
def DT(h:IZ (a-b))(ha:IZ a):fe (zd a) (zd b) k=k (zd (a-b)):=by
 have hs:gN .sub (zd a) (zd b) k=k (zd (a-b)):=wb (by
  show some (D.i .i64 (IntKind.i64.wrap (a-b)))=_;rw[AF h.1 h.2];rfl)
 cases a with
 |negSucc a=>exact hs
 |ofNat a=>cases b with
  |negSucc b=>exact hs
  |ofNat b=>
   by_cases hle:b<=a
   ·refine(mQ (kk:=.i64) hle (show a<=9223372036854775807 from by have:=ha.2;simp at this;omega)).trans ?_;congr 1;unfold zd;rw[show(Int.ofNat a-Int.ofNat b)=Int.ofNat (a-b) by simp only[ag];omega]
   ·unfold fe zd;rw[qT,il hle];exact hs
def z0Q(h:IZ (a+b)):f7 (zd a) (zd b) k=k (zd (a+b)):=by
 have hs:gN .add (zd a) (zd b) k=k (zd (a+b)):=wb (by
  show some (D.i .i64 (IntKind.i64.wrap (a+b)))=_;rw[AF h.1 h.2];rfl)
 cases a with
 |negSucc a=>exact hs
 |ofNat a=>cases b with
  |negSucc b=>exact hs
  |ofNat b=>exact kW (kk:=.i64) (show a+b<=9223372036854775807 from by have:=h.2;simp only[ag]at this;omega)
def z0M(h:IZ (a*b)):jZ (zd a) (zd b) k=k (zd (a*b)):=by
 have hs:gN .mul (zd a) (zd b) k=k (zd (a*b)):=wb (by
  show some (D.i .i64 (IntKind.i64.wrap (a*b)))=_;rw[AF h.1 h.2];rfl)
 cases a with
 |negSucc a=>exact hs
 |ofNat a=>cases b with
  |negSucc b=>exact hs
  |ofNat b=>
   refine(wO (kk:=.i64) (show a*b<=9223372036854775807 from by
    have:=h.2;rw[ag,ag,<-bZ]at this;omega)).trans ?_
   congr 1
def z0L(hb:b≠0):vX (zd a) (zd b) k=k (zd (a.tmod b)):=by
 have hs:gN .rem (zd a) (zd b) k=k (zd (a.tmod b)):=wb (by
  show(if b=0 then none else some (D.i .i64 (Int.tmod a b)))=_;rw[aG hb];rfl)
 cases a with
 |negSucc a=>exact hs
 |ofNat a=>cases b with
  |negSucc b=>exact hs
  |ofNat b=>exact sh (by intro h;subst h;exact hb rfl)
def JX:gD (zd a) (zd b) k=k (.b (decide (a<b))):=by
 have hs:gN .lss (zd a) (zd b) k=k (.b (decide (a<b))):=wb rfl;cases a with
 |negSucc a=>exact hs
 |ofNat a=>cases b with
  |negSucc b=>exact hs
  |ofNat b=>
   refine(jp).trans ?_;by_cases h:a<b
   ·rw[fk h,ac (by simp only[ag];omega)]
   ·rw[fw h,aU (by simp only[ag];omega)]
def z0O:kH (zd a) (zd b) k=k (.b (decide (b<a))):=by
 have hs:gN .gtr (zd a) (zd b) k=k (.b (decide (b<a))):=wb rfl;cases a with
 |negSucc a=>exact hs
 |ofNat a=>cases b with
  |negSucc b=>exact hs
  |ofNat b=>
   refine(qF).trans ?_;by_cases h:b<a
   ·rw[fk h,ac (by simp only[ag];omega)]
   ·rw[fw h,aU (by simp only[ag];omega)]
def GI:mb (zd a) (zd b) k=k (.b (decide (b<=a))):=by
 have hs:gN .geq (zd a) (zd b) k=k (.b (decide (b<=a))):=wb rfl;cases a with
 |negSucc a=>exact hs
 |ofNat a=>cases b with
  |negSucc b=>exact hs
  |ofNat b=>
   refine(DW).trans ?_;by_cases h:b<=a
   ·rw[aD h,ac (by simp only[ag];omega)]
   ·rw[il h,aU (by simp only[ag];omega)]
end
end Go.Proofs.Ev
namespace Go.Proofs.Ev
noncomputable section
variable {s:LS}
def mk4(a b:fN):LS:=⟨.node (some ⟨a,.rw⟩) (.node (some ⟨b,.rw⟩) (.node (some ⟨[.b false,.n 0],.rw⟩) .nil .nil) .nil) (.node (some ⟨[.b false,.n 0],.rw⟩) .nil .nil),4⟩
def dvJ(φ:Nat)(x15 x16 x17 x18 x19 x20:D)(s:LS):Rs:=(
 fF 0 s x15 λx21 s=>
 eR s x21 λx22 s=>
 fF 0 s x16 λx23 s=>
 eR s x23 λx24 s=>
 z9 .neq x22 x24 s λx25 s=>
 eY (fx φ) [x25,x19] s λx26 s=>
 gf gL [(1,1,x20)] s λx27 s=>
 fA 2 s x17 x26 λ_ s=>
 fA 2 s x18 x27 λ_ s=>
 eW 2 s x17 λx28 _=>
 eW 2 s x18 λx29 _=>
 fO false s (.tup [x28,x29]) some)
def Pn{x y:Bool}{a b q r φ:Nat}:dvJ φ (.ptr 0 0) (.ptr 1 0) (.ptr 2 0) (.ptr 3 0) (.n q) (.n r) (mk4 [.b x,.n a] [.b y,.n b])=some (.tup [it ((x != y)&& !(Nat.beq q 0)) q,it false r]):=by
 refine Eq.trans (b:=eY (fx φ) [.b (x != y),.n q] (mk4 [.b x,.n a] [.b y,.n b]) λx26 s=>gf gL [(1,1,.n r)] s λx27 s=>fA 2 s (.ptr 2 0) x26 λ_ s=>fA 2 s (.ptr 3 0) x27 λ_ s=>eW 2 s (.ptr 2 0) λx28 _=>eW 2 s (.ptr 3 0) λx29 _=>fO false s (.tup [x28,x29]) some) (by cases x<;>cases y<;>kernel_rfl) ?_;rw[BR rI];kernel_rfl
def Qg{φ:Nat}:jA φ [.i .u64 (.ofNat 1)]=some (.n 1):=eX
def IW{x y:Bool}{a b φ:Nat}:gK φ [it x a,it y b]=eY (kU φ) [.n a,.n b] (mk4 [.b x,.n a] [.b y,.n b]) λx11 s=>
 gB x11 0 s λx12 s=>gB x11 1 s λx13 s=>fF 0 s (.ptr 0 0) λx30 s=>eR s x30 λx31 s=>eU x31 true (λk=>k x13 s) s λx32 s=>eU x31 true (λk=>sG x32 (.n 0) λd=>k d s) s λx33 s=>iB x31 x33 (.b false) s λx34 s=>
 fE x34 (eY (jA φ) [(.i .u64 (.ofNat 1))] s λx35 s=>eY qC [x12,x35] s λx36 s=>fF 1 s (.ptr 1 0) λx37 s=>eR s x37 λx38 s=>eY kA [x38,x13] s λx39 s=>dvJ φ (.ptr 0 0) (.ptr 1 0) (.ptr 2 0) (.ptr 3 0) x36 x39 s)
  (dvJ φ (.ptr 0 0) (.ptr 1 0) (.ptr 2 0) (.ptr 3 0) x12 x13 s):=eX
def yu{x y:Bool}{a b q r φ:Nat}(h:kU φ [.n a,.n b]=some (.tup [.n q,.n r]))(hx:x=false\/r=0):gK φ [it x a,it y b]=some (.tup [it ((x != y)&& !(Nat.beq q 0)) q,it false r]):=by
 rw[IW,J0 h,<-Pn (x:=x) (y:=y) (a:=a) (b:=b) (φ:=φ)];rcases hx with rfl|rfl
 ·kernel_rfl
 ·cases x<;>kernel_rfl
def HK{y:Bool}{a b q r z z2 φ:Nat}(h:kU φ [.n a,.n b]=some (.tup [.n q,.n (r+1)]))(h1:qC [.n q,.n 1]=some (.n z))(h2:kA [.n b,.n (r+1)]=some (.n z2)):
 gK φ [it true a,it y b]=some (.tup [it ((true != y)&& !(Nat.beq z 0)) z,it false z2]):=by
 rw[IW,J0 h,<-Pn (x:=true) (y:=y) (a:=a) (b:=b) (φ:=φ)];refine Eq.trans (b:=eY (jA φ) [(.i .u64 (.ofNat 1))] (mk4 [.b true,.n a] [.b y,.n b]) λx35 s=>eY qC [.n q,x35] s λx36 s=>fF 1 s (.ptr 1 0) λx37 s=>eR s x37 λx38 s=>eY kA [x38,.n (r+1)] s λx39 s=>dvJ φ (.ptr 0 0) (.ptr 1 0) (.ptr 2 0) (.ptr 3 0) x36 x39 s) eX ?_;rw[NS Qg,uc h1];refine Eq.trans (b:=eY kA [.n b,.n (r+1)] (mk4 [.b true,.n a] [.b y,.n b]) λx39 s=>dvJ φ (.ptr 0 0) (.ptr 1 0) (.ptr 2 0) (.ptr 3 0) (.n z) x39 s) eX ?_;rw[uc h2]
end
end Go.Proofs.Ev
set_option maxRecDepth 10000
namespace Go.Proofs.YthljpappkomocaaGreat
open Ev
noncomputable section
section
variable {i k n m c v:Nat} {s:LS} {K:fK} {φ:Nat} {a b z:Int} {d X:D}
def PK:itz z=.agg [.b (decide (z<0)),.n z.natAbs]:=rfl
def iI1{M:fP}{r:D}(h:M [itz a]=some r)(hp:wg r=true:=by rfl):eY M [itz a] s K=K r s:=GM h hp s K
def iI2{M:fP}{r:D}(h:M [itz a,itz b]=some r)(hp:wg r=true:=by rfl):eY M [itz a,itz b] s K=K r s:=za h hp s K
def Oj(h:v<18446744073709551616):jA φ [.i .u64 (.ofNat v)]=some (.n v):=by
 unfold jA;dsimp only[fJ,fV];rw[<-fg];have hA:WS 1 ([]++[⟨[n64 v],.rw⟩]) (.sl 0 0 1 1 1 true) (c64 [v]) 1:=WS.blk rfl rfl (aC 1);refine th (B4 (zero:=[.i .u64 (.ofNat 0)]) (x:=n64 v) (new:=[n64 v]) (z:=1) rfl rfl rfl rfl) ?_;refine th (Xh hA (r:=.n v) (λex=>?_) rfl) z2r;refine(BD (ws:=[v]) (λw hw=>?_) (by show 1<=1000000000;decide)).trans ?_
 ·rw[cY.1 hw];exact h
 ·rfl
def z2Y(h:v<18446744073709551616):kV .u64 (.i .i64 (.ofNat v)) s K=K (.i .u64 (.ofNat v)) s:=by
 show mkI .u64 v (λd=>K d s) _=_;unfold mkI;rw[aD (show v<=i9 .u64 from bL h),fH,fj]
def z0p(hz:z.natAbs<4611686018427387904):iN φ [zd z]=some (itz z):=by
 have e0:(fB:D)=zd 0:=rfl;cases z with
 |ofNat v=>
  have hv:v<4611686018427387904:=hz;have h1:∀s K,eY (jA φ) [.i .u64 (.ofNat v)] s K=K (.n v) s:=λs K=>NS (Oj eP);have h2:∀(k:D->Rs),gD (.i .i64 (.ofNat v)) fB k=k (.b false):=λk=>gP eP;have h3:∀s K,kV .u64 (.i .i64 (.ofNat v)) s K=K (.i .u64 (.ofNat v)) s:=λs K=>z2Y eP;have h4:itz (Int.ofNat v)=.agg [.b false,.n v]:=by
   rw[PK,aU (by simp only[ag];omega)];rfl
  rw[h4];unfold iN zd;simp -implicitDefEqProofs only[fJ,fV,nB,Ac,yN,A6,List.length_nil,List.length_cons,List.nil_append,List.getElem?_cons_zero,jY,qU,v9,fH,fq,zA,Nat.zero_add,Nat.reduceAdd,List.set_cons_zero,A5,Qt,Ae,Ad,Af,gE,NP,xx,xw,re2,List.drop_zero,h1,h2,h3]
 |negSucc v=>
  have hv:v+1<4611686018427387904:=hz;have h1:∀s K,eY (jA φ) [.i .u64 (.ofNat (v+1))] s K=K (.n (v+1)) s:=λs K=>NS (Oj eP);have h2:∀(k:D->Rs),gD (.i .i64 (.negSucc v)) fB k=k (.b true):=λk=>DU;have hw:IntKind.u64.wrap (Int.negSucc v)=Int.ofNat (18446744073709551616-(v+1)):=by
   unfold IntKind.wrap;simp[IntKind.signed,IntKind.bits];omega
  have h3:∀s K,kV .u64 (.i .i64 (.negSucc v)) s K=K (.i .u64 (.ofNat (18446744073709551616-(v+1)))) s:=λs K=>by
   show sk (FB .u64 (.i .i64 (.negSucc v))) (λd=>K d s)=_;rw[gc];show ob (some (D.i .u64 (IntKind.u64.wrap (Int.negSucc v)))) _=_;rw[hw];rfl
  have hw2:IntKind.u64.wrap (0-Int.ofNat (18446744073709551616-(v+1)))=Int.ofNat (v+1):=by
   unfold IntKind.wrap;simp[IntKind.signed,IntKind.bits];omega
  have h5:∀s K,kS (.neg (.c (.i .u64 (.ofNat (18446744073709551616-(v+1)))))) s K=K (.i .u64 (.ofNat (v+1))) s:=λs K=>by
   have he:evA s.nx cv s.get (.neg (.c (.i .u64 (.ofNat (18446744073709551616-(v+1))))))=some (.i .u64 (.ofNat (v+1)),[]):=by
    show some (D.i .u64 (IntKind.u64.wrap (0-Int.ofNat (18446744073709551616-(v+1)))),([]:fQ))=_;rw[hw2]
   unfold kS sA;rw[he];show wR _ _=_;rw[mq]
  have h4:itz (Int.negSucc v)=.agg [.b true,.n (v+1)]:=by
   rw[PK,ac (Int.negSucc_lt_zero v)];rfl
  have h6:∀s K,gf [.b false,.n 0] [(0,1,.b true),(1,1,.n (v+1))] s K=K (.agg [.b true,.n (v+1)]) s:=λs K=>rfl;rw[h4];unfold iN zd;simp -implicitDefEqProofs only[fJ,fV,nB,Ac,yN,A6,List.length_nil,List.length_cons,List.nil_append,List.getElem?_cons_zero,jY,qU,v9,fH,zA,Nat.zero_add,Nat.reduceAdd,List.set_cons_zero,A5,Qt,Ae,Ad,Af,gE,xx,xw,re2,List.drop_zero,h1,h2,h3,h5,h6]
def iOf(hz:z.natAbs<4611686018427387904):eY (iN φ) [zd z] s K=K (itz z) s:=fX (z0p hz)
def Wo(ha:Lg KA a.natAbs)(hb:Lg KA b.natAbs):jM φ [itz a,itz b]=some (itz (a-b)):=by
 have h1:∀s K,eY tg [.agg [.b (decide (b<0)),.n b.natAbs]] s K=K (.agg [.b (decide (-b<0)),.n (-b).natAbs]) s:=λs K=>GM (Du (z:=b)) rfl s K;have h2:∀s K,eY oC [.agg [.b (decide (a<0)),.n a.natAbs],.agg [.b (decide (-b<0)),.n (-b).natAbs]] s K=K (.agg [.b (decide (a+ -b<0)),.n (a+ -b).natAbs]) s:=λs K=>za (wk ha (by rw[Int.natAbs_neg];exact hb)) rfl s K;rw[zmz];unfold jM itz;simp -implicitDefEqProofs only[fJ,fV,nB,om,Ac,yN,A6,List.all_cons,List.all_nil,one,Bool.and_self,List.length_nil,List.length_cons,List.nil_append,List.cons_append,List.getElem?_cons_zero,List.getElem?_cons_succ,jY,qU,v9,fH,Nat.zero_add,Nat.reduceAdd,List.set_cons_zero,List.set_cons_succ,A5,Qt,Ae,Ad,Af,gE,xx,xw,re2,List.drop_zero,h1,h2]
def z30(x:Bool)(v:Nat):it x v=.agg [.b x,.n v]:=rfl
def C6:itz (v:Nat)=it false v:=by
 unfold itz;rw[aU eP];rfl
def Oh{A B q r:Nat}(hB:0<B)(h:A+r=B*q)(hr:r<B):(-(A:Int))/(B:Int)= -(q:Int)/\(-(A:Int))%(B:Int)=r:=by
 have h1:(A:Int)+r=B*q:=by rw[<-znl,h,bZ]
 exact(Int.ediv_emod_unique (a:= -(A:Int)) (b:=(B:Int)) (r:=(r:Int)) (q:= -(q:Int)) eP).2 ⟨by rw[eB];omega,eP,eP⟩
def KU(b:Int):(0<=b/\b=((b.natAbs:Nat):Int)/\decide (b<0)=false)\/(b<0/\b= -((b.natAbs:Nat):Int)/\decide (b<0)=true):=by
 by_cases h:b<0
 ·exact Or.inr ⟨h,eP,ac h⟩
 ·exact Or.inl ⟨eP,eP,aU h⟩
def Mi(ha:Lg 900000000 a.natAbs)(hb:Lg 900000000 b.natAbs)(h0:b≠0)(hφ:gW φ):gK φ [itz a,itz b]=some (.tup [itz (a/b),itz (a%b)]):=by
 have hB:0<b.natAbs:=eP;have hdm:=wK (φ:=φ) (fM ha eV) (fM hb eV) hB hφ;have ea:itz a=it (decide (a<0)) a.natAbs:=rfl;have eb:itz b=it (decide (b<0)) b.natAbs:=rfl;rw[ea,eb];rcases KU a with⟨a1,a2,a3⟩|⟨a1,a2,a3⟩
 ·rw[a3];refine(yu hdm (Or.inl rfl)).trans ?_;have e1:(false != decide (b<0))=decide (b<0):=by cases decide (b<0)<;>rfl
  rw[e1];have e2:it (decide (b<0)&& !(Nat.beq (a.natAbs/b.natAbs) 0)) (a.natAbs/b.natAbs)=itz (a/b):=yq (by
   rcases KU b with⟨b1,b2,b3⟩|⟨b1,b2,b3⟩
   ·rw[b3];show((a.natAbs/b.natAbs:Nat):Int)=_
    conv=>rhs;rw[a2,b2]
    rw[znh]
   ·rw[b3];show -((a.natAbs/b.natAbs:Nat):Int)=_
    conv=>rhs;rw[a2,b2]
    rw[Int.ediv_neg,znh])
  have e3:it false (a.natAbs%b.natAbs)=itz (a%b):=by
   rw[<-C6];congr 1;rcases KU b with⟨b1,b2,b3⟩|⟨b1,b2,b3⟩
   ·conv=>rhs;rw[a2,b2]
    rw[zmK]
   ·conv=>rhs;rw[a2,b2]
    rw[Int.emod_neg,zmK]
  rw[e2,e3]
 ·rw[a3];have hd:=cK a.natAbs b.natAbs;have hm:=bN a.natAbs hB;have e1:(true != decide (b<0))= !(decide (b<0)):=by cases decide (b<0)<;>rfl
  have key:∀(Q R:Nat),(-(a.natAbs:Int))/(b.natAbs:Int)= -(Q:Int)->(-(a.natAbs:Int))%(b.natAbs:Int)=R->it (!(decide (b<0))&& !(Nat.beq Q 0)) Q=itz (a/b)/\it false R=itz (a%b):=λQ R hQ hR=>by
   refine⟨yq ?_,?_⟩
   ·rcases KU b with⟨b1,b2,b3⟩|⟨b1,b2,b3⟩
    ·rw[b3];show -(Q:Int)=_
     conv=>rhs;rw[a2,b2]
     exact hQ.symm
    ·rw[b3];show(Q:Int)=_
     conv=>rhs;rw[a2,b2]
     rw[Int.ediv_neg,hQ];omega
   ·rw[<-C6];congr 1;rcases KU b with⟨b1,b2,b3⟩|⟨b1,b2,b3⟩
    ·conv=>rhs;rw[a2,b2]
     exact hR.symm
    ·conv=>rhs;rw[a2,b2]
     rw[Int.emod_neg];exact hR.symm
  by_cases hr:a.natAbs%b.natAbs=0
  ·rw[hr]at hdm hd;obtain⟨k1,k2⟩:=Oh (A:=a.natAbs) (r:=0) (q:=a.natAbs/b.natAbs) hB eP hB;obtain⟨f1,f2⟩:=key _ _ k1 k2;refine(yu hdm (Or.inr rfl)).trans ?_;rw[e1,f1,f2]
  ·obtain⟨r,hr2⟩:∃r,a.natAbs%b.natAbs=r+1:=⟨a.natAbs%b.natAbs-1,eP⟩
   rw[hr2]at hdm hd hm;obtain⟨k1,k2⟩:=Oh (A:=a.natAbs) (r:=b.natAbs-(r+1)) (q:=a.natAbs/b.natAbs+1) hB (by rw[bK];omega) eP;obtain⟨f1,f2⟩:=key _ _ k1 k2;have hq:Lg 900000000 (a.natAbs/b.natAbs):=iK ha (dX _ _);refine(HK hdm (zV (fM hq eV) (by show Nat.log2 1<=_;decide)) (vG (fM hb eV) eP)).trans ?_;rw[e1,f1,f2]
def iDM(ha:Lg 900000000 a.natAbs)(hb:Lg 900000000 b.natAbs)(h0:b≠0)(hφ:gW φ):eY (gK φ) [itz a,itz b] s K=K (.tup [itz (a/b),itz (a%b)]) s:=iI2 (Mi ha hb h0 hφ)
def Xq(ha:Lg KA a.natAbs)(hb:Lg KA b.natAbs):eY (jM φ) [itz a,itz b] s K=K (itz (a-b)) s:=iI2 (Wo ha hb)
def Xt(ha:Lg KA a.natAbs)(hb:Lg KA b.natAbs):eY oC [itz a,itz b] s K=K (itz (a+b)) s:=iI2 (wk ha hb)
def DZ(ha:Lg KA a.natAbs)(hb:Lg KA b.natAbs):eY lI [itz a,itz b] s K=K (itz (a*b)) s:=iI2 (Dw ha hb)
def sgz(z:Int):Int:=if z<0 then -1 else if z=0 then 0 else 1
def Tc(x y:Nat):qB [.n x,.n y]=some (zd (sgz ((x:Int)-y))):=by
 show some (cnd (Nat.blt x y) (lC) (cnd (Nat.beq x y) (fB) (ej)))=_;unfold sgz;by_cases h:x<y
 ·rw[fk h,aF eP];rfl
 ·rw[fw h,aG eP];by_cases h2:x=y
  ·rw[h2,gE,aF eP];rfl
  ·rw[ik h2,aG eP];rfl
def Wq:jN φ [itz a,itz b]=some (zd (sgz (a-b))):=by
 have hc:∀(x y:Nat) s K,eY qB [.n x,.n y] s K=K (zd (sgz ((x:Int)-y))) s:=λx y s K=>UZ (Tc x y);have hr:∀z s,fO false s (zd z) some=some (zd z):=λz s=>HG;rcases KU a with⟨a1,a2,a3⟩|⟨a1,a2,a3⟩<;>rcases KU b with⟨b1,b2,b3⟩|⟨b1,b2,b3⟩
 ·have e:sgz (a-b)=sgz ((a.natAbs:Int)-b.natAbs):=by rw[<-a2,<-b2]
  rw[e];unfold jN itz;simp -implicitDefEqProofs only[fJ,fV,nB,om,qm,xB,List.all_cons,List.all_nil,one,Bool.and_self,List.length_nil,List.length_cons,List.nil_append,List.cons_append,List.getElem?_cons_zero,List.getElem?_cons_succ,jY,qU,fH,fq,zA,Nat.zero_add,I7,HG,hc,hr,a3,b3,Bool.bne_false]
 ·have e:zd (sgz (a-b))=ej:=by
   unfold sgz;rw[aG eP,aG eP];rfl
  rw[e];unfold jN itz;simp -implicitDefEqProofs only[fJ,fV,nB,om,qm,xB,List.all_cons,List.all_nil,one,Bool.and_self,List.length_nil,List.length_cons,List.nil_append,List.cons_append,List.getElem?_cons_zero,List.getElem?_cons_succ,jY,qU,fH,fq,zA,Nat.zero_add,I7,HG,hc,hr,a3,b3,Bool.false_bne]
 ·have e:zd (sgz (a-b))=lC:=by
   unfold sgz;rw[aF eP];rfl
  rw[e];unfold jN itz;simp -implicitDefEqProofs only[fJ,fV,nB,om,qm,xB,List.all_cons,List.all_nil,one,Bool.and_self,List.length_nil,List.length_cons,List.nil_append,List.cons_append,List.getElem?_cons_zero,List.getElem?_cons_succ,jY,qU,fH,zA,Nat.zero_add,I7,HG,hc,hr,a3,b3,Bool.bne_false]
 ·have e:sgz (a-b)=sgz ((b.natAbs:Int)-a.natAbs):=by
   conv=>lhs;rw[a2,b2]
   congr 1;omega
  rw[e];have hb:(true != true)=false:=rfl;unfold jN itz;simp -implicitDefEqProofs only[fJ,fV,nB,om,qm,xB,List.all_cons,List.all_nil,one,Bool.and_self,List.length_nil,List.length_cons,List.nil_append,List.cons_append,List.getElem?_cons_zero,List.getElem?_cons_succ,jY,qU,fH,fq,zA,Nat.zero_add,I7,HG,hc,hr,a3,b3,hb]
def z10:eY (jN φ) [itz a,itz b] s K=K (zd (sgz (a-b))) s:=iI2 Wq
def Wp(ha:Lg KA a.natAbs)(hb:Lg KA b.natAbs)(hφ:gW φ):ny φ [itz a,itz b]=some (itz (Int.gcd a b:Nat)):=by
 have h1:∀s K,eY (rh φ) [.n a.natAbs,.n b.natAbs] s K=K (.n (Nat.gcd a.natAbs b.natAbs)) s:=λs K=>uc (zS ha hb hφ);rw[C6,z30];show _=some (D.agg [.b false,.n (Nat.gcd a.natAbs b.natAbs)]);unfold ny itz;simp -implicitDefEqProofs only[fJ,fV,nB,om,Ac,qm,xB,yN,A6,List.all_cons,List.all_nil,one,Bool.and_self,List.length_nil,List.length_cons,List.nil_append,List.cons_append,List.getElem?_cons_zero,List.getElem?_cons_succ,jY,qU,v9,fH,Nat.zero_add,Nat.reduceAdd,List.set_cons_zero,List.set_cons_succ,A5,Qt,Ae,Ad,Af,gE,NP,xx,xw,re2,List.drop_zero,h1]
def z34(ha:Lg KA a.natAbs)(hb:Lg KA b.natAbs)(hφ:gW φ):eY (ny φ) [itz a,itz b] s K=K (itz (Int.gcd a b:Nat)) s:=iI2 (Wp ha hb hφ)
def My:(List.range 65).map (λk=>rX φ [.i .i64 (.ofNat k)])=(List.range 65).map (λk=>some (.n (2^k))):=eX
def z0y(h:k<=64):rX φ [.i .i64 (.ofNat k)]=some (.n (2^k)):=List.map_inj_left.1 (My (φ:=φ)) k (dp.2 eP)
def XG(h:v<18446744073709551616):oP φ [.n v]=some (.tup [.i .u64 (.ofNat v),.b true]):=by
 obtain⟨X,s',ws,h1,h2,h3,_⟩:=sN (s:=s0) (m:=v) rfl h;unfold oP;dsimp only[fJ,fV];refine th (h1 _) (th (pQ h2) ?_);have rt:∀(w:Nat)(st:LS),fO false st (.tup [.i .u64 (.ofNat w),.b true]) some=some (.tup [.i .u64 (.ofNat w),.b true]):=λw st=>by
  unfold fO;rw[lJ];rfl
 rcases h3 with⟨rfl,rfl⟩|⟨g1,g2,rfl⟩
 ·exact th (qw (cO 1)) (th ez (th (pQ h2) (th (oW rfl) (th fG (rt 0 s')))))
 ·exact th (qw (bE 1)) (th ez (th (pQ h2) (th (mJ (by show 1≠0;decide)) (th ez (th (wN h2 rfl) (rt v s'))))))
def z0o(h:v<9223372036854775808):oq φ [itz (v:Nat)]=some (.tup [.i .i64 (.ofNat v),.b true]):=by
 have h1:∀s K,eY (oP φ) [.n v] s K=K (.tup [.i .u64 (.ofNat v),.b true]) s:=λs K=>fX (XG eP);have h2:∀(k:D->Rs),kH (.i .u64 (.ofNat v)) (.i .u64 (.ofNat 9223372036854775808)) k=k (.b false):=λk=>qw eP;have h3:∀(k:D->Rs),iR (.i .u64 (.ofNat v)) (.i .u64 (.ofNat 9223372036854775808)) k=k (.b false):=λk=>mJ eP;have h4:∀s K,kV .i64 (.i .u64 (.ofNat v)) s K=K (.i .i64 (.ofNat v)) s:=λs K=>by
  show mkI .i64 v (λd=>K d s) _=_;unfold mkI;rw[aD (show v<=i9 .i64 from bL h),fH,fj]
 have h5:∀s,fO false s (.tup [.i .i64 (.ofNat v),.b true]) some=some (.tup [.i .i64 (.ofNat v),.b true]):=λs=>by
  unfold fO;rw[lJ];rfl
 have h6:∀s K,gB (.tup [.i .u64 (.ofNat v),.b true]) 0 s K=K (.i .u64 (.ofNat v)) s:=λs K=>rfl;rw[C6,z30];unfold oq;simp -implicitDefEqProofs only[fJ,fV,nB,om,qm,xB,List.all_cons,List.all_nil,one,Bool.and_self,List.length_nil,List.nil_append,List.getElem?_cons_zero,List.getElem?_cons_succ,jY,qU,fH,fq,zA,NY,Mp,z4e,Bool.not_true,iG,iF,Nat.zero_add,QE,Vf,QF,J5,h1,h2,h3,h4,h5]
def iTo(h:v<9223372036854775808):eY (oq φ) [itz (v:Nat)] s K=K (.tup [.i .i64 (.ofNat v),.b true]) s:=iI1 (z0o h)
end
end
end Go.Proofs.YthljpappkomocaaGreat
namespace Go.Proofs.Ev
section
variable {n p a b:Nat} {x y z d r:ZX} {L:List ZX} {m:Int}
def JR(hp:¬ ∃z:Int,(1:Int)=m*z)(hx:MonZ a x)(hy:MonZ b y)(h:CgZ m x y):a=b:=by
 have key:∀{a b:Nat}{x y:ZX},MonZ a x->MonZ b y->CgZ m x y->¬b<a:=λ{a b x y} hx hy h hlt=>by
  obtain⟨z,hz⟩:=yv h a;rw[hx.one,hy.low a eP]at hz;exact hp ⟨z,eP⟩
 have h1:=key hx hy h;have h2:=key hy hx h.sy;omega
def AO:∀(l r:List ZX),qu (l++r)=qu l*qu r
 |[],r=>by show qu r=1*qu r;exact z69
 |x::l,r=>by
  show x*qu (l++r)=x*qu l*qu r;rw[AO l r];exact z69
def Hn:∀(L:List ZX)(i:Nat)(x d r:ZX),L[i]?=some x->CgZ m x (d*r)->CgZ m (qu (L.set i d++[r])) (qu L)
 |[],i,x,d,r,h,_=>by simp at h
 |y::L,0,x,d,r,h,hx=>by
  have:y=x:=by simpa using h
  subst this;show CgZ m (d*qu (L++[r])) (y*qu L);rw[AO];show CgZ m (d*(qu L*(r*1))) _;refine CgZ.tr (CgZ.of (by clear hx;exact z69:d*(qu L*(r*1))=(d*r)*qu L)) (CgZ.ml hx.sy CgZ.rfl')
 |y::L,i+1,x,d,r,h,hx=>by
  show CgZ m (y*qu (L.set i d++[r])) (y*qu L);exact CgZ.ml CgZ.rfl' (Hn L i x d r (by simpa using h) hx)
def Kd:∀(L:List ZX),(∀x,x∈L->∃d,1<=d/\MonZ d x)->∃n,PartsZ L n
 |[],_=>⟨0,PartsZ.nil⟩
 |x::L,h=>by
  obtain⟨n,hn⟩:=Kd L λy hy=>h y (bC _ hy);obtain⟨d,h1,h2⟩:=h x (b9 ..);exact⟨d+n,PartsZ.cons h2 h1 hn⟩
structure BL (p:Nat) (f:eZ) (W:List (eZ×Bool)):Prop where
 all:∀q,q∈W->Pq p q.1/\Mo q.1/\2<=q.1.length
 pr:CgZ p (qu (W.map λq=>zx q.1)) (zx f)
def BL.parts{f:eZ}{W:List (eZ×Bool)}(h:BL p f W)(hp:Pr p)(hf:Mo f)(hn:f.length=n+1):PartsZ (W.map λq=>zx q.1) n:=by
 obtain⟨m,hm⟩:=Kd (W.map λq=>zx q.1) λx hx=>by
  obtain⟨q,hq,rfl⟩:=dY.1 hx;obtain⟨h1,h2,h3⟩:=h.all q hq;exact⟨q.1.length-1,eP,h2.monz eP⟩
 have:=JR hp.one hm.mon (hf.monz hn) h.pr;subst this;exact hm
def BL.len{f:eZ}{W:List (eZ×Bool)}(h:BL p f W)(hp:Pr p)(hf:Mo f)(hn:f.length=n+1):W.length<=n:=by
 have:=(h.parts hp hf hn).pos;simpa using this
def BL.start{f:eZ}{e:Bool}(hf:Pq p f)(hm:Mo f)(hn:2<=f.length):BL p f [(f,e)]:=
 ⟨λq hq=>by
  have:q=(f,e):=by simpa using hq
  subst this;exact⟨hf,hm,hn⟩,CgZ.of (by show zx f*1=zx f;exact z69)⟩
def BL.split{f d r:eZ}{W:List (eZ×Bool)}{i:Nat}{q:eZ×Bool}{e e':Bool}(h:BL p f W)(hi:W[i]?=some q)(hd:Pq p d)(dm:Mo d)(dl:2<=d.length)(hr:Pq p r)(rm:Mo r)(rl:2<=r.length)(he:CgZ p (zx q.1) (zx d*zx r)):BL p f (W.set i (d,e)++[(r,e')]):=by
 refine⟨λx hx=>?_,?_⟩
 ·rcases bM.1 hx with h1|h1
  ·rcases c9 h1 with h2|h2
   ·exact h.all x h2
   ·subst h2;exact⟨hd,dm,dl⟩
  ·have:x=(r,e'):=by simpa using h1
   subst this;exact⟨hr,rm,rl⟩
 ·rw[bG,dC];exact(Hn _ i (zx q.1) _ _ (by rw[af,hi];rfl) he).tr h.pr
end
section
variable {n k j B S:Nat} {m a b c x y:Int} {l f g os ys:fZ}
def tzI:fZ->fZ
 |[]=>[]
 |a::l=>match tzI l with
  |[]=>if a=0 then[]else[a]
  |b::r=>a::b::r
def qR:∀l:fZ,∃j,j<=l.length/\tzI l=l.take j/\(∀k,j<=k->ei l k=0)/\∀d,j=d+1->ei l d≠0
 |[]=>⟨0,aC _,rfl,λk _=>rfl,λd h=>by cases h⟩
 |a::l=>by
  obtain⟨j,h1,h2,h3,h4⟩:=qR l;cases h:tzI l with
  |nil=>
   have hj:j=0:=by
    rw[h]at h2;have:=congrArg List.length h2;rw[aR,cF h1]at this;exact this.symm
   subst hj;by_cases ha:a=0
   ·refine⟨0,aJ _,?_,λk _=>?_,λd h=>by cases h⟩
    ·show(match tzI l with|[]=>if a=0 then[]else[a]|b::r=>a::b::r)=_;rw[h];simp[ha]
    ·cases k with
     |zero=>exact ha
     |succ k=>exact h3 k (aJ _)
   ·refine⟨1,by simp,?_,λk hk=>?_,λd hd=>?_⟩
    ·show(match tzI l with|[]=>if a=0 then[]else[a]|b::r=>a::b::r)=_;rw[h];simp[ha]
    ·obtain⟨k,rfl⟩:∃i,k=i+1:=⟨k-1,eP⟩
     exact h3 k (aJ _)
    ·obtain rfl:d=0:=eP;exact ha
  |cons b r=>
   refine⟨j+1,by simpa using h1,?_,λk hk=>?_,λd hd=>?_⟩
   ·show(match tzI l with|[]=>if a=0 then[]else[a]|b::r=>a::b::r)=_;rw[h,cb,<-h2,h]
   ·obtain⟨k,rfl⟩:∃i,k=i+1:=⟨k-1,eP⟩
    exact h3 k eP
   ·have hd:d=j:=eP;subst hd;cases d with
    |zero=>rw[h]at h2;simp at h2
    |succ d=>exact h4 d rfl
def Jf:ei (l.take n) k=if k<n then ei l k else 0:=by
 unfold ei;simp only[aB,cN];split<;>rfl
def wU(k:Nat):ei (tzI l) k=ei l k:=by
 obtain⟨j,h1,h2,h3,h4⟩:=qR l;rw[h2,Jf];split
 ·rfl
 ·rw[h3 k eP]
def ZT(h:∀k,ei f k=ei g k):zl f=zl g:=ZX.ext' h
def SA:zl (tzI l)=zl l:=ZT wU
def zL:(tzI l).length<=l.length:=by
 obtain⟨j,h1,h2,h3,h4⟩:=qR l;rw[h2,aR];omega
def EY(h:∀k,n<=k->ei l k=0):(tzI l).length<=n:=by
 obtain⟨j,h1,h2,h3,h4⟩:=qR l;rw[h2,aR,cF h1];rcases aY n j with hj|hj
 ·exfalso;obtain⟨d,hd⟩:∃d,j=d+1:=⟨j-1,eP⟩
  exact h4 d hd (h d eP)
 ·exact hj
def t5(h:∀d,l.length=d+1->ei l d≠0):tzI l=l:=by
 obtain⟨j,h1,h2,h3,h4⟩:=qR l;rw[h2];rcases aY j l.length with hj|hj
 ·exfalso;obtain⟨d,hd⟩:∃d,l.length=d+1:=⟨l.length-1,eP⟩
  exact h d hd (h3 d eP)
 ·exact aP hj
def BdL(B:Nat)(l:fZ):Prop:=∀x,x∈l->x.natAbs<=B
def BdL.get(h:BdL B l)(k:Nat):(ei l k).natAbs<=B:=by
 unfold ei;rw[aB];cases hk:l[k]?with
 |none=>exact aJ _
 |some a=>exact h a (bS hk)
def BdL.tz(h:BdL B l):BdL B (tzI l):=by
 obtain⟨j,h1,h2,_⟩:=qR l;rw[h2];exact λx hx=>h x (bH hx)
def BdL.mono{C:Nat}(h:BdL B l)(hC:B<=C):BdL C l:=λx hx=>aX (h x hx) hC
def VA{F:Int->Int}(h0:F 0=0)(k:Nat):ei (l.map F) k=F (ei l k):=by
 unfold ei;simp only[aB,af];cases l[k]?with
 |none=>exact h0.symm
 |some a=>rfl
def ue{F:Nat->Int}(k:Nat):ei ((List.range n).map F) k=if k<n then F k else 0:=by
 unfold ei;simp only[aB,af];by_cases h:k<n
 ·rw[cf h,aF h];rfl
 ·rw[ai (by simp;omega),aG h];rfl
def mZ(m:Int)(l:fZ):fZ:=tzI (l.map (· %m))
def BV(k:Nat):ei (mZ m l) k=ei l k%m:=by unfold mZ;rw[wU,VA (dt m)]
def Mc:CgZ m (zl (mZ m l)) (zl l):=y4 λk=>by
 rw[sd,sd,BV];have:=zmO (ei l k) m;exact⟨-(ei l k/m),by rw[eB];omega⟩
def z0h(hm:0<m):RdZ m (zl (mZ m l)):=λk=>by
 rw[sd,BV];exact⟨dF _ eP,dQ _ hm⟩
def JC{M:Nat}(hm:m=(M:Nat))(h0:0<M):BdL M (mZ m l):=λx hx=>by
 have hx:x∈tzI (l.map (· %m)):=hx;obtain⟨j,h1,h2,_⟩:=qR (l.map (· %m));rw[h2]at hx;obtain⟨y,_,rfl⟩:=dY.1 (bH hx);have h3:=dF y (show m≠0 by omega);have h4:=dQ y (show 0<m by omega);show(y%m).natAbs<=M;omega
def DH:(mZ m l).length<=l.length:=aX zL fU
def O3(h:∀k,n<=k->ei l k%m=0):(mZ m l).length<=n:=EY λk hk=>by
 rw[VA (dt m)];exact h k hk
def y3(c:Int)(f g:fZ):fZ:=(List.range (max f.length g.length)).map λi=>ei f i+ei g i*c
def zf(k:Nat):ei (y3 c f g) k=ei f k+ei g k*c:=by
 unfold y3;rw[ue];split
 ·rfl
 ·rw[jr (l:=f) eP,jr (l:=g) eP];omega
def z1t:zl (y3 c f g)=zl f+ZX.C c*zl g:=ZX.ext' λk=>by
 rw[Ck,uP,sd,sd,sd,zf,eM]
def qA(x:Int):fZ->fZ->fZ
 |[],os=>os
 |_::_,[]=>[]
 |y::ys,o::os=>(o+x*y)::qA x ys os
def xJ:∀{ys os:fZ},ys.length<=os.length->(qA x ys os).length=os.length
 |[],os,_=>rfl
 |y::ys,[],h=>by simp at h
 |y::ys,o::os,h=>congrArg Nat.succ (xJ (c7 h))
def Bx:∀(ys os:fZ),ys.length<=os.length->zl (qA x ys os)=zl os+ZX.C x*zl ys
 |[],os,_=>by rw[qA,pK];exact z69
 |y::ys,[],h=>by simp at h
 |y::ys,o::os,h=>by
  rw[qA,mC,Bx ys os (by simpa using h),mC,mC,ZN,sB];exact z69
def yE{Y X:Nat}(hx:x.natAbs<=X):∀{ys os:fZ},BdL Y ys->BdL S os->BdL (S+X*Y) (qA x ys os)
 |[],os,_,h=>h.mono (cL _ _)
 |y::ys,[],_,_=>λa ha=>by cases ha
 |y::ys,o::os,hy,h=>λa ha=>by
  rcases bh.1 ha with rfl|ha
  ·have h1:=h o (b9 ..);have h2:=hy y (b9 ..);have h3:=eJ o (x*y);rw[bt]at h3;have h4:x.natAbs*y.natAbs<=X*Y:=ay hx h2;omega
  ·exact yE hx (λb hb=>hy b (bC _ hb)) (λb hb=>h b (bC _ hb)) a ha
def M8:∀(ys os:fZ),ys.length<=os.length->qA 0 ys os=os
 |[],os,_=>rfl
 |y::ys,[],h=>by simp at h
 |y::ys,o::os,h=>by rw[qA,M8 ys os (by simpa using h)];simp
def vV(ys:fZ):fZ->fZ->fZ
 |[],os=>os
 |x::xr,os=>match qA x ys os with
  |[]=>[]
  |o::os'=>o::vV ys xr os'
def Fg:∀{xr os:fZ},xr.length+ys.length<=os.length+1->0<ys.length->(vV ys xr os).length=os.length
 |[],os,_,_=>rfl
 |x::xr,os,h,h0=>by
  have hle:ys.length<=os.length:=by simp at h;omega
  have hl:=xJ (x:=x) hle;show(match qA x ys os with|[]=>[]|o::os'=>o::vV ys xr os').length=os.length;cases hr:qA x ys os with
  |nil=>rw[hr]at hl;exact hl
  |cons o os'=>
   rw[hr,ah]at hl;show(vV ys xr os').length+1=os.length;rw[Fg (by simp at h;omega) h0];exact hl
def Oo(h0:0<ys.length):∀(xr os:fZ),xr.length+ys.length<=os.length+1->zl (vV ys xr os)=zl os+zl xr*zl ys
 |[],os,h=>by rw[vV,pK];exact z69
 |x::xr,os,h=>by
  have hle:ys.length<=os.length:=by simp at h;omega
  have hlen:=xJ (x:=x) hle;have z82:=Bx (x:=x) ys os hle;show zl (match qA x ys os with|[]=>[]|o::os'=>o::vV ys xr os')=_;cases hr:qA x ys os with
  |nil=>rw[hr]at hlen;simp at hlen;omega
  |cons o os'=>
   rw[hr]at hlen z82;show zl (o::vV ys xr os')=_;rw[mC,Oo h0 xr os' (by simp at h hlen;omega),mC (l:=xr)];rw[mC]at z82;have:ZX.C o+XX*(zl os'+zl xr*zl ys)=(ZX.C o+XX*zl os')+XX*zl xr*zl ys:=by clear z82;exact z69
   rw[this,z82];clear this z82;exact z69
def Oq{X Y:Nat}(hy:BdL Y ys):∀{xr os:fZ}{S:Nat},BdL X xr->BdL S os->BdL (S+xr.length*(X*Y)) (vV ys xr os)
 |[],os,S,_,h=>h.mono (cL _ _)
 |x::xr,os,S,hx,h=>by
  have h1:=yE (x:=x) (hx x (b9 ..)) hy h;show BdL _ (match qA x ys os with|[]=>[]|o::os'=>o::vV ys xr os');cases hr:qA x ys os with
  |nil=>exact λa ha=>by cases ha
  |cons o os'=>
   rw[hr]at h1;have h2:=Oq (X:=X) hy (xr:=xr) (os:=os') (λb hb=>hx b (bC _ hb)) (λb hb=>h1 b (bC _ hb));rw[ah,aS,ao];intro a ha;rcases bh.1 ha with rfl|ha
   ·have:=h1 a (b9 ..);omega
   ·have:=h2 a ha;omega
def ZS(n:Nat):zl (List.replicate n 0)=0:=ZX.ext' λk=>by
 rw[sd,As];unfold ei;rw[aB,zmB];split<;>rfl
def xP(f g:fZ):fZ:=tzI (vV g f (List.replicate (f.length+g.length-1) 0))
def E4(hf:0<f.length)(hg:0<g.length):zl (xP f g)=zl f*zl g:=by
 unfold xP;rw[SA,Oo hg f _ (by rw[bg];omega),ZS];exact z69
def Fi(hf:0<f.length)(hg:0<g.length):(xP f g).length<=f.length+g.length-1:=by
 refine aX zL ?_;rw[Fg (by rw[bg];omega) hg,bg];exact aC _
def Ot{X Y:Nat}(hf:BdL X f)(hg:BdL Y g):BdL (f.length*(X*Y)) (xP f g):=by
 have h:=Oq hg hf (os:=List.replicate (f.length+g.length-1) 0) (S:=0) (λa ha=>by rw[cG ha];exact aJ _);rw[aN]at h;exact h.tz
def dvI(m:Int)(g:fZ):Nat->fZ->fZ->fZ×fZ
 |0,rest,q=>(rest,q)
 |j+1,rest,q=>dvI m g j (rest.take j++qA (-(ei rest (j+g.length-1)%m)) g (rest.drop j)) ((ei rest (j+g.length-1)%m)::q)
def tj{rest:fZ}(h:j+g.length<=rest.length):(rest.take j++qA x g (rest.drop j)).length=rest.length:=by
 rw[aq,xJ (by rw[bR];omega),aR,bR];omega
def zG:∀(j:Nat)(l r:fZ),j<=l.length->zl (l.take j++r)=zl (l.take j)+XX^j*zl r
 |0,l,r,_=>by rw[dr,cW,pK,show XX^0=1 from rfl];exact z69
 |j+1,[],r,h=>by simp at h
 |j+1,a::l,r,h=>by
  rw[cb,d9,mC,zG j l r (by simpa using h),mC,show XX^(j+1)=XX^j*XX from rfl];generalize XX^j=Y;exact z69
def Ie:ZX.C (-x)= -ZX.C x:=ZX.ext' λk=>by
 cases k with
 |zero=>rfl
 |succ k=>rfl
def Pk(T Y D c Q G X:ZX):T+Y*D+Y*X*Q*G=T+Y*(D+ -c*G)+Y*(c+X*Q)*G:=z69
def VI:∀(j:Nat)(rest q:fZ),j+g.length<=rest.length+1->0<g.length->zl rest+XX^j*zl q*zl g=zl (dvI m g j rest q).1+zl (dvI m g j rest q).2*zl g
 |0,rest,q,h,_=>by
  show zl rest+XX^0*zl q*zl g=zl rest+zl q*zl g;rw[show XX^0=1 from rfl];exact z69
 |j+1,rest,q,h,h0=>by
  rw[dvI,<-VI j _ _ (by rw[tj eP];omega) h0];generalize ei rest (j+g.length-1)%m=c;have hj:j<=rest.length:=eP;rw[zG j rest _ hj,Bx _ _ (by rw[bR];omega),mC,Ie,show XX^(j+1)=XX^j*XX from rfl];have e:zl rest=zl (rest.take j)+XX^j*zl (rest.drop j):=by rw[<-zG j rest _ hj,bY]
  rw[e];exact Pk _ _ _ _ _ _ _
def Ps:∀{j:Nat}{rest q:fZ},j+g.length<=rest.length+1->(dvI m g j rest q).1.length=rest.length/\(dvI m g j rest q).2.length=j+q.length
 |0,rest,q,h=>⟨rfl,(aN _).symm⟩
 |j+1,rest,q,h=>by
  have e:=tj (x:= -(ei rest (j+g.length-1)%m)) (g:=g) (rest:=rest) (j:=j) eP;rw[dvI];obtain⟨h1,h2⟩:=Ps (j:=j) (rest:=rest.take j++qA (-(ei rest (j+g.length-1)%m)) g (rest.drop j)) (q:=(ei rest (j+g.length-1)%m)::q) eP;refine⟨h1.trans e,h2.trans ?_⟩;simp;omega
def VB(hk:l.length<=k):ei (l++f) k=ei f (k-l.length):=by
 unfold ei;rw[aB,aM hk,<-aB]
def Pi:ei (l.drop j) k=ei l (j+k):=by
 unfold ei;simp only[aB,cA]
def z1i:∀(ys os:fZ)(k:Nat),ys.length<=os.length->ei (qA x ys os) k=ei os k+x*ei ys k:=λys os k h=>by
 have:=congrArg (λz:ZX=>z.c k) (Bx (x:=x) ys os h);simpa only[Ck,uP,sd]using this
def Pp(h0:0<g.length)(hg:ei g (g.length-1)=1):∀(j:Nat)(rest q:fZ),j+g.length<=rest.length+1->(∀k,j+g.length-1<=k->ei rest k%m=0)->∀k,g.length-1<=k->ei (dvI m g j rest q).1 k%m=0
 |0,rest,q,h,hz=>λk hk=>hz k eP
 |j+1,rest,q,h,hz=>by
  rw[dvI];refine Pp h0 hg j _ _ (by rw[tj eP];omega) λk hk=>?_;have htk:(rest.take j).length=j:=by rw[aR];omega
  rw[VB eP,htk,z1i _ _ _ (by rw[bR];omega),Pi,show j+(k-j)=k by omega];by_cases hk2:k=j+g.length-1
  ·subst hk2;rw[show j+g.length-1-j=g.length-1 by omega,hg,eC,Int.add_neg_eq_sub,Int.sub_emod,Int.emod_emod_of_dvd _ (Int.dvd_refl m),Int.sub_self,dt]
  ·rw[jr (l:=g) eP,zmX,znj];exact hz k eP
def VJ{M G:Nat}(hm:m=(M:Nat))(hM:0<M)(hg:BdL G g):∀{j:Nat}{rest q:fZ}{S:Nat},BdL S rest->BdL M q->BdL (S+j*(M*G)) (dvI m g j rest q).1/\BdL M (dvI m g j rest q).2
 |0,rest,q,S,h,hq=>⟨h.mono eP,hq⟩
 |j+1,rest,q,S,h,hq=>by
  rw[dvI];have h3:=dF (ei rest (j+g.length-1)) (show m≠0 by omega);have h4:=dQ (ei rest (j+g.length-1)) (show 0<m by omega);generalize ei rest (j+g.length-1)%m=c at*;have h5:BdL (S+M*G) (rest.take j++qA (-c) g (rest.drop j)):=λa ha=>by
   rcases bM.1 ha with ha|ha
   ·exact aX (h a (bH ha)) (cL _ _)
   ·exact yE (X:=M) eP hg (λb hb=>h b (ba hb)) a ha
  obtain⟨h6,h7⟩:=VJ hm hM hg (j:=j) (q:=c::q) h5 (λa ha=>by
   rcases bh.1 ha with rfl|ha
   ·omega
   ·exact hq a ha)
  exact⟨h6.mono (by rw[aS,ao];omega),h7⟩
end
end Go.Proofs.Ev
set_option maxRecDepth 10000
namespace Go.Proofs.YthljpappkomocaaGreat
open Ev
noncomputable section
def q3(q:Rat):Q3:=(decide (q.num<0),q.num.natAbs,q.den)
def rs(l:Row):fN:=qs (l.map q3)
def rcs(q:Rat):fN:=[.b (decide (q.num<0)),.n q.num.natAbs,.n q.den]
section
variable {bs:fQ} {l:Row} {b:Blk} {i k n m c:Nat} {ex:Bool} {s:LS} {K:fK} {kk:IntKind} {q p:Rat} {φ:Nat}
def vT:(rs l).length=l.length*3:=by unfold rs;rw[Mg,aj]
def M7{a b:Row}:rs (a++b)=rs a++rs b:=by unfold rs;rw[bG,DJ]
def OX(h:i<l.length):((rs l).drop (i*3)).take 3=rcs (ent l i):=by
 unfold rs;rw[z0l (q:=q3 (ent l i))]
 ·rfl
 ·rw[af,aE h];unfold ent;rw[aB,aE h];rfl
def OW:(rs l).take (n*3)=rs (l.take n):=by unfold rs;rw[JE,dN]
def z09(h:i<l.length):lay (i*3) (rcs q) (rs l)=some (rs (l.set i q)):=by
 unfold rs;rw[show rcs q=qD (q3 q)from rfl,TO (by rw[aj];exact h),dC]
def Bw(l:Row):(rs l).all oH=true:=O6 _
def Fv(hn:l.length=n)(h:i<n):(eT 3 s (.tree (rs l) n ex) (.i kk (.ofNat i)) λa s=>eW 3 s a K)=K (rc (ent l i)) s:=by
 refine th (HL h (by rw[vT];omega)) ?_;refine th (z2P (by rw[vT];omega)) ?_;rw[OX eP];rfl
def XY(hb:bs[k]?=some b)(hc:b.cs=rs l)(hl:b.st.live=true)(h:i<n)(h':i<l.length):(eT 3 (mem bs) (.sl k 0 n c 3 ex) (.i kk (.ofNat i)) λa s=>eW 3 s a K)=K (rc (ent l i)) (mem bs):=by
 refine th (DY hb hl h) ?_;rw[aN];refine th (zZ hb hl (by rw[hc,vT];omega)) ?_;rw[hc,OX h'];rfl
def Z1(hb:bs[k]?=some ⟨rs l,.rw⟩)(h:i<n)(h':i<l.length):(eT 3 (mem bs) (.sl k 0 n c 3 ex) (.i kk (.ofNat i)) λa s=>fA 3 s a (rc q) K)=K .u (mem (bs.set k ⟨rs (l.set i q),.rw⟩)):=by
 refine th (DY hb rfl h) ?_;rw[aN];exact xF hb rfl (hx:=rfl) (hn:=rfl) (h1:=rfl) (hl:=z09 h')
def CO{zero:fN}(hz:zero.length=3):(ff zero (mem bs) λx s=>fA 3 s x (rc q) λ_ s=>K x s)=K (.ptr bs.length 0) (mem (bs++[⟨rcs q,.rw⟩])):=by
 refine th vM ?_;refine th (xF (b:=⟨zero,.rw⟩) (cs':=rcs q) fU rfl (hx:=rfl) (hn:=rfl) (h1:=rfl) (hl:=?_)) ?_
 ·match zero,hz with
  |[a,b,c],_=>rfl
 ·rw[bU _ _ (aC _),bD,ck]
def yP(hb:bs[k]?=some ⟨rcs q,.rw⟩):eW 3 (mem bs) (.ptr k 0) K=K (rc q) (mem bs):=by
 refine th (zZ hb rfl (aC 3)) ?_;rfl
def z2i{l':fN}(hb:bs[k]?=some ⟨l',.rw⟩)(hl:l'.length=3):fA 3 (mem bs) (.ptr k 0) (rc q) K=K .u (mem (bs.set k ⟨rcs q,.rw⟩)):=by
 refine xF hb rfl (hx:=rfl) (hn:=rfl) (h1:=rfl) (hl:=?_)
 match l',hl with
 |[a,b,c],_=>rfl
def HF{l':fN}(hb:bs[k]?=some ⟨l',.rw⟩)(hl:l'.length=3):(fA 3 (mem bs) (.ptr k 0) (rc q) λ_ s=>eW 3 s (.ptr k 0) λx _=>fO false s x some)=some (rc q):=by
 refine th (z2i hb hl) (th (yP (by rw[aH (fC hb)])) re3)
def jV{own:Bool}{cs:fN}:fO own s (.tree cs n ex) some=some (.tree cs n ex):=by
 unfold fO;rw[lJ];show sk (lf own s.get gJ (.tree cs n ex)) some=_;rw[show lf own s.get gJ (.tree cs n ex)=some (.tree cs n ex) by cases own<;>rfl,gc];rfl
def sX{M:fP}{r:D}(h:M [rc p]=some r)(hp:wg r=true):eY M [rc p] s K=K r s:=UY h hp s K
def oz{M:fP}{r:D}(h:M [rc p,rc q]=some r)(hp:wg r=true):eY M [rc p,rc q] s K=K r s:=UX h hp s K
def Ym{cs:fN}(hl:cs.length=n*m)(hh:k<=n)(mx:Option D)(hm:mx=none\/mx=some (.i kk (.ofNat k))):∃e,iT m s (.tree cs n ex) none (some (.i kk (.ofNat k))) mx K=K (.tree (cs.take (k*m)) k e) s:=by
 rcases hm with rfl|rfl
 ·refine⟨cnd ex (Nat.beq k n) false,?_⟩;show(cnd (Nat.ble n n) (cnd (Nat.ble k n) (cnd (Nat.ble 0 k) (cnd (Nat.beq cs.length (Nat.mul n m)) (jJ (Nat.mul 0 m) cs λcs=>frc (Nat.sub k 0) λn'=>jP (Nat.mul n' m) cs λcs=>nM (cnd ex (Nat.beq k n) false) λex=>K (.tree cs n' ex) s) none) none) none) none)=_;rw[aD (aC n),aD hh,aD (aJ k),hl,show Nat.beq (n*m) (Nat.mul n m)=true from gE _,gZ,fj];simp only[fH];rw[show cs.drop (Nat.mul 0 m)=cs by show cs.drop (0*m)=cs;rw[bX];rfl,i7,aF (by rw[hl];exact aK _ hh),iz];rfl
 ·refine⟨Nat.beq k k,?_⟩;show(cnd (Nat.ble k n) (cnd (Nat.ble k k) (cnd (Nat.ble 0 k) (cnd (Nat.beq cs.length (Nat.mul n m)) (jJ (Nat.mul 0 m) cs λcs=>frc (Nat.sub k 0) λn'=>jP (Nat.mul n' m) cs λcs=>nM (Nat.beq k k) λex=>K (.tree cs n' ex) s) none) none) none) none)=_;rw[aD (aC k),aD hh,aD (aJ k),hl,show Nat.beq (n*m) (Nat.mul n m)=true from gE _,gZ,fj];simp only[fH];rw[show cs.drop (Nat.mul 0 m)=cs by show cs.drop (0*m)=cs;rw[bX];rfl,i7,aF (by rw[hl];exact aK _ hh),iz];rfl
def PT{X i:D}{z n:Nat}:(eU (.b true) true (λk=>eT z s X i k) s λx s=>eU (.b true) true (λk=>eW n s x k) s K)=eT z s X i λa s=>eW n s a K:=rfl
def BB:∀{l:Row}{n:Nat},n<=l.length->(∀i,n<=i->ent l i=0)->(n=0\/ent l (n-1)≠0)->ib l=l.take n
 |[],n,hn,_,_=>by simp[ib]
 |x::l,0,_,hz,_=>by rw[AM λi=>hz i (aJ _)];rfl
 |x::l,n+1,hn,hz,hl=>by
  have hl:ent (x::l) n≠0:=by simpa using hl
  have ih:=BB (l:=l) (n:=n) (by simpa using hn) (λi hi=>hz (i+1) eP) (by
   cases n with
   |zero=>exact Or.inl rfl
   |succ n=>exact Or.inr hl)
  unfold ib;rw[ih,aG]
  ·rfl
  ·rintro ⟨h1,h2⟩
   cases n with
   |zero=>exact hl h2
   |succ n=>
    have h3:=congrArg List.length h1;simp only[ah]at hn;rw[aR,cF eP]at h3;simp at h3
def Mk(hn:l.length=n)(hs:n<9223372036854775807):∀(k f:Nat),k<=n->k<f->(∀i,k<=i->ent l i=0)->
 ∃e,lp li (pf φ) f (.tree (rs l) n ex) (.i .i64 (.ofNat k)) s=some (.tree (rs (ib l)) (ib l).length e):=by
 have fin:∀k,k<=n->(∀i,k<=i->ent l i=0)->(k=0\/ent l (k-1)≠0)->∃e,(iT 3 s (.tree (rs l) n ex) none (some (.i .i64 (.ofNat k))) (some (.i .i64 (.ofNat k))) λx15 s=>fO false s x15 some)=some (.tree (rs (ib l)) (ib l).length e):=by
  intro k hk hz hl;obtain⟨e,he⟩:=Ym (s:=s) (K:=λx15 s=>fO false s x15 some) (cs:=rs l) (n:=n) (m:=3) (k:=k) (ex:=ex) (kk:=.i64) (by rw[vT,hn]) hk (some (.i .i64 (.ofNat k))) (Or.inr rfl);have h1:=BB (l:=l) (n:=k) eP hz hl;refine⟨e,he.trans ?_⟩;rw[jV,OW,h1,aR,cF eP]
 intro k
 induction k with
 |zero=>
  intro f hk hf hz;obtain⟨f,rfl⟩:∃q,f=q+1:=⟨f-1,eP⟩
  obtain⟨e,he⟩:=fin 0 (aJ _) hz (Or.inl rfl);refine⟨e,?_⟩;rw[ep];unfold pf;exact th (qw eP) (th gx (th gx (th gx (th gx (th gx (th gx (th ga (th ez he))))))))
 |succ k ih=>
  intro f hk hf hz;obtain⟨f,rfl⟩:∃q,f=q+1:=⟨f-1,eP⟩
  by_cases h0:ent l k=0
  ·obtain⟨e,he⟩:=ih f eP eP (λi hi=>by
    by_cases h:i=k
    ·rw[h];exact h0
    ·exact hz i eP)
   refine⟨e,?_⟩;rw[ep];unfold pf;refine th (oG eP) (th gG (th gG (th gG (th (iJ eP eP) (th PT ?_)))));rw[au];refine th (Fv hn eP) (th gG (th (sX AL rfl) ?_));rw[ac h0];refine th gT (th fG (th (iJ eP eP) ?_));rw[au];exact he
  ·obtain⟨e,he⟩:=fin (k+1) eP hz (Or.inr h0);refine⟨e,?_⟩;rw[ep];unfold pf;refine th (oG eP) (th gG (th gG (th gG (th (iJ eP eP) (th PT ?_)))));rw[au];refine th (Fv hn eP) (th gG (th (sX AL rfl) ?_));rw[aU h0];exact th gT (th ez he)
def FZ(hn:l.length=n)(hs:n<9223372036854775807)(hφ:n<φ):∃e,gY φ [.tree (rs l) n ex]=some (.tree (rs (ib l)) (ib l).length e):=by
 obtain⟨e,he⟩:=Mk (φ:=φ) (ex:=ex) (s:=s0) hn hs n φ (aC _) hφ (λi hi=>yW eP);refine⟨e,?_⟩;unfold gY;dsimp only[fJ,fV];exact th fY he
end
section
variable {bs:fQ} {l f g:Row} {b:Blk} {i k n m c N M Df Dg:Nat} {ex:Bool} {s:LS} {K:fK} {kk:IntKind} {q:Rat} {φ:Nat}
def z3:Q3:=(false,0,0)
def fl3(l:Row)(m:Nat):fN:=qs (l.map q3++List.replicate m z3)
def Ug:fl3 l 0=rs l:=by unfold fl3 rs;rw[zmq,bQ]
def IN(n:Nat):mf n [.b false,.n 0,.n 0]=fl3 [] n:=by rw[K8];rfl
def Z0{n:Nat}(hb:bs[k]?=some ⟨fl3 l (m+1),.rw⟩)(h:l.length<n):(eT 3 (mem bs) (.sl k 0 n c 3 ex) (.i kk (.ofNat l.length)) λa s=>fA 3 s a (rc q) K)=K .u (mem (bs.set k ⟨fl3 (l++[q]) m,.rw⟩)):=by
 refine th (DY hb rfl h) ?_;rw[aN];refine xF hb rfl (hx:=rfl) (hn:=rfl) (h1:=rfl) (hl:=?_);show lay (l.length*3) (qD (q3 q)) (qs (l.map q3++List.replicate (m+1) z3))=_;rw[TO fU];congr 2;rw[bG,aQ,bU _ _ fU,aj,bD,ch,ck];rfl
def JV{a:Row}{v:Vec}(h:a.length=n)(he:∀i,i<n->ent a i=v i):a=lst n v:=by
 rw[<-Ts (l:=a),h];unfold lst;exact cz λi hi=>he i (dp.1 hi)
def CV{v:Vec}:lst (i+1) v=lst i v++[v i]:=by unfold lst;rw[zmu,bG];rfl
def Tq{s:LS}{j:Nat}{kk:fN->eZ->Rs}:∀cs:fN,cs.all oH=true->ma (jX s (j+1)) cs kk=kk cs []:=by
 intro cs
 induction cs generalizing kk with
 |nil=>intro _;rfl
 |cons d cs ih=>
  intro h;simp only[cH,aW]at h;have hd:∀F:D->eZ->Rs,jX s (j+1) d F=F d []:=by
   intro F;cases d<;>first|rfl|(cases h.1;done)
  show(jX s (j+1) d λy a=>ma (jX s (j+1)) cs λys b=>pk a b λab=>kk (y::ys) ab)=_;rw[hd,ih h.2];rfl
def Yk{cs:fN}(hc:cs.take (n*3)=rs l)(hn:l.length=n):n*3<=cs.length:=by
 have:=congrArg List.length hc;rw[aR,vT,hn]at this;omega
def z0f{F:D->eZ->Rs}{j:Nat}(hb:bs[k]?=some b)(hc:b.cs.take (n*3)=rs l)(hl:b.st.live=true)(hn:l.length=n):∃e,jX (mem bs) (j+2) (.sl k 0 n c 3 ex) F=F (.tree (rs l) n e) [k]:=by
 have hle:=Yk hc hn;refine⟨cnd ex (Nat.beq c n) false,?_⟩;show(iq (mem bs) k λb=>cnd (lv b.st) (jJ 0 b.cs λr=>jP (Nat.mul n 3) r λr=>ma (jX (mem bs) (j+1)) r λcs ls=>nM (cnd ex (Nat.beq c n) false) λex=>F (.tree cs n ex) (k::ls)) none)=_;rw[gV hb,nQ,hl,fH,gZ,a7,i7,show Nat.mul n 3=n*3 from rfl,aF hle,hc,Tq _ (Bw l),iz]
def PZ(hb:bs[k]?=some b){F:LS->Rs}:Aa [k] (mem bs) F=F (mem (bs.set k ⟨b.cs,fzS b.st⟩)):=by
 show(iq (mem bs) k λb=>oh (mem bs) k ⟨b.cs,fzS b.st⟩ λs=>F s)=_;rw[gV hb,mD (fC hb)]
def JZ{M:fP}{cs:fN}{n':Nat}(hb:bs[k]?=some b)(hc:b.cs.take (n*3)=rs l)(hl:b.st.live=true)(hn:l.length=n)(h:∀ex',∃e,M [.tree (rs l) n ex']=some (.tree cs n' e)):∃e,eY M [.sl k 0 n c 3 ex] (mem bs) K=K (.tree cs n' e) (mem (bs.set k ⟨b.cs,fzS b.st⟩)):=by
 obtain⟨e1,h1⟩:=z0f (bs:=bs) (c:=c) (ex:=ex) (j:=58) (F:=λy a=>pk a [] λab=>ob (M [y]) λr=>nD (mem bs) ab r K) hb hc hl hn;obtain⟨e2,h2⟩:=h e1;refine⟨e2,h1.trans ?_⟩;rw[jt,h2,jY];unfold nD;rw[lJ];show Aa [k] (mem bs) (λs=>K (.tree cs n' e2) s)=_;rw[PZ hb]
def yC(hn:l.length=n):(rs l).take (n*3)=rs l:=aP (by rw[vT,hn];exact aC _)
def Il(hb:bs[k]?=some ⟨rs l,.rw⟩)(hn:l.length=n)(hs:n<1000000000)(hφ:1000000000<=φ):∃e,(eY (gY φ) [.sl k 0 n c 3 ex] (mem bs) λx s=>fO false s x some)=some (.tree (rs (ib l)) (ib l).length e):=by
 obtain⟨e,he⟩:=JZ (bs:=bs) (c:=c) (ex:=ex) (M:=gY φ) (K:=λx s=>fO false s x some) hb (yC hn) rfl hn (λex'=>FZ hn eP eP);exact⟨e,he.trans jV⟩
def z0n(hn:l.length=n):mN φ [.tree (rs l) n ex,.i .i64 (.ofNat i)]=some (rc (ent l i)):=by
 unfold mN;dsimp only[fJ,fV];rw[<-fg];refine th vM (th (gP (cO i)) (th iX (th iX (th iX (th fY (th iX ?_))))));by_cases h:n<=i
 ·refine th (uS h) (th ga (th fG (th (fX Hi) ?_)));rw[yW eP];exact HF (k:=0) rfl rfl
 ·exact th (GO h) (th ga (th ez (th (Fv hn eP) (HF (k:=0) rfl rfl))))
def O5(hD:0<Df)(h:Ht Df N q)(h1:Lg KB Df)(h2:Lg KB N):Qz KB q:=by
 obtain⟨a,b⟩:=Xu hD h;exact⟨iK h2 a,iK h1 b⟩
def Tf{X Y:D}(hs:n<1000000000){P:Option D->Prop}(hφ:1000000000<=φ)(hX:∀s K,fT X s K=K (.i .i64 (.ofNat m)) s)(hR:∀bs,bs[0]?=some ⟨rs (lst n (λ_=>0)),.rw⟩->P (lp gQ (nH φ) φ Y (.sl 0 0 n n 3 true) X (.i .i64 (.ofNat m)) fB (mem bs))):∀(j i f:Nat)(bs:fQ),i+j=n->j<f->bs[0]?=some ⟨fl3 (lst i (λ_=>0)) j,.rw⟩->
 P (lp gQ (nG φ) f X Y (.sl 0 0 n n 3 true) (.i .i64 (.ofNat n)) (.i .i64 (.ofNat i)) (mem bs)):=by
 intro j
 induction j with
 |zero=>
  intro i f bs hi hf hb;obtain⟨f,rfl⟩:∃q,f=q+1:=⟨f-1,eP⟩
  have:i=n:=eP;subst this;rw[Ug]at hb;have h1:=hR bs hb;rw[ep];unfold nG;rw[gP (bE i),ez,hX];exact h1
 |succ j ih=>
  intro i f bs hi hf hb;obtain⟨f,rfl⟩:∃q,f=q+1:=⟨f-1,eP⟩
  have h1:=ih (i+1) f (bs.set 0 ⟨fl3 (lst (i+1) (λ_=>0)) j,.rw⟩) eP eP (by rw[aH (fC hb)]);have hw:=Z0 (q:=0) (n:=n) (c:=n) (ex:=true) (kk:=.i64) (K:=λ_ s=>f7 (.i .i64 (.ofNat i)) ej λx24=>lp gQ (nG φ) f X Y (.sl 0 0 n n 3 true) (.i .i64 (.ofNat n)) x24 s) hb (by rw[uo];omega);rw[uo]at hw;have e:lp gQ (nG φ) (f+1) X Y (.sl 0 0 n n 3 true) (.i .i64 (.ofNat n)) (.i .i64 (.ofNat i)) (mem bs)=lp gQ (nG φ) f X Y (.sl 0 0 n n 3 true) (.i .i64 (.ofNat n)) (.i .i64 (.ofNat (i+1))) (mem (bs.set 0 ⟨fl3 (lst (i+1) (λ_=>0)) j,.rw⟩)):=by
   rw[ep];unfold nG;refine th (gX eP) (th fG (th (fX Hi) (hw.trans (th (gA eP) ?_))));rw[<-CV];rfl
  rw[e];exact h1
def paV(f g:Row)(i j:Nat):Vec:=λk=>pmV f g i k+(if i<=k/\k<i+j then ent f i*ent g (k-i)else 0)
def z2D:paV f g i 0=pmV f g i:=by
 funext k;unfold paV;rw[aG eP];grind
def Wx(hg:g.length=m):paV f g i m=pmV f g (i+1):=by
 funext k;unfold paV;rw[TW];by_cases h:i<=k
 ·rw[aF h];by_cases h1:k<i+m
  ·rw[aF ⟨h,h1⟩]
  ·rw[aG eP,yW (r:=g) (i:=k-i) eP];grind
 ·rw[aG eP,aG h]
def z0t{j:Nat}:paV f g i j (i+j)=pmV f g i (i+j):=by unfold paV;rw[aG eP];grind
def Ww{j:Nat}:paV f g i (j+1) (i+j)=pmV f g i (i+j)+ent f i*ent g j:=by
 unfold paV;rw[aF eP,show i+j-i=j by omega]
def Wv{j:Nat}(h:k≠i+j):paV f g i (j+1) k=paV f g i j k:=by
 unfold paV;by_cases h1:i<=k/\k<i+j
 ·rw[aF h1,aF eP]
 ·rw[aG h1,aG eP]
def Je{l:Row}(h:i<l.length):ent (l.set i q) k=if k=i then q else ent l k:=by
 unfold ent;simp only[aB];by_cases hk:k=i
 ·subst hk;rw[aH h,aF rfl];rfl
 ·rw[bW (Ne.symm hk),aG hk]
def fW{bs:fQ}{b x:Blk}{k:Nat}(h:bs[k]?=some b):(bs++[x])[k]?=some b:=by rw[bF (fC h)];exact h
def Qs{bs:fQ}{q:Rat}{K:fK}:eW 3 (mem (bs++[⟨rcs q,.rw⟩])) (.ptr bs.length 0) K=K (rc q) (mem (bs++[⟨rcs q,.rw⟩])):=yP fU
structure MB (f g:Row) (Df N Dg M:Nat):Prop where
 hf:Hb Df N f
 hg:Hb Dg M g
 d0:0<Df
 e0:0<Dg
 l1:Lg KB Df
 l2:Lg KB N
 l3:Lg KB Dg
 l4:Lg KB M
 l5:Lg KB (Df*Dg)
 l6:Lg KB ((f.length+1)*(N*M))
def MB.qf(h:MB f g Df N Dg M)(i:Nat):Qz KB (ent f i):=O5 h.d0 (h.hf i) h.l1 h.l2
def MB.qg(h:MB f g Df N Dg M)(i:Nat):Qz KB (ent g i):=O5 h.e0 (h.hg i) h.l3 h.l4
def MB.qp(h:MB f g Df N Dg M)(i j:Nat):Qz KB (ent f i*ent g j):=
 O5 (zmH h.d0 h.e0) (U6 (h.hf i) (h.hg j)) h.l5 (iK h.l6 (by rw[aS,ao];omega))
def MB.qs(h:MB f g Df N Dg M)(hi:i<=f.length)(k:Nat):Qz KB (pmV f g i k):=
 O5 (zmH h.d0 h.e0) (z0r h.hf h.hg) h.l5 (iK h.l6 (aK _ eP))
def z0A{X:D}(hB:MB f g Df N Dg M)(hn:f.length=n)(hm:g.length=m)(hc:c=n+m-1)(hs:n+m<1000000000)(hφ:gW φ){ey:Bool}{j33:jo}(hi:i<n){P:Option D->Prop}(hR:∀bs out,bs[0]?=some ⟨rs out,.rw⟩->out.length=c->(∀k,k<c->ent out k=pmV f g (i+1) k)->P (j33 (.tree (rs g) m ey) (.sl 0 0 c c 3 true) X (.i .i64 (.ofNat n)) (.i .i64 (.ofNat i)) (mem bs))):∀(t j fu k:Nat)(bs:fQ)(out:Row),j+t=m->t<fu->bs[0]?=some ⟨rs out,.rw⟩->bs[k]?=some ⟨rcs (ent f i),.rw⟩->k≠0->out.length=c->(∀k,k<c->ent out k=paV f g i j k)->
 P (lp uh (oO φ j33) fu (.tree (rs g) m ey) (.sl 0 0 c c 3 true) (.i .i64 (.ofNat i)) (.ptr k 0) X (.i .i64 (.ofNat n)) (.i .i64 (.ofNat i)) (.tree (rs g) m ey) (.i .i64 (.ofNat m)) (.i .i64 (.ofNat j)) (mem bs)):=by
 intro t
 induction t with
 |zero=>
  intro j fu k bs out hj hf h0 hk hk0 hl hv;obtain⟨fu,rfl⟩:∃q,fu=q+1:=⟨fu-1,eP⟩
  have:j=m:=eP;subst this;rw[ep];unfold oO;rw[gP (bE j),ez];exact hR bs out h0 hl (λk hk=>by rw[hv k hk,Wx hm])
 |succ t ih=>
  intro j fu k bs out hj hf h0 hk hk0 hl hv;obtain⟨fu,rfl⟩:∃q,fu=q+1:=⟨fu-1,eP⟩
  have e1:ent out (i+j)=pmV f g i (i+j):=by rw[hv _ eP,z0t]
  have h1:=ih (j+1) fu k ((bs++[(⟨rcs (ent g j),.rw⟩:Blk)]).set 0 ⟨rs (out.set (i+j) (pmV f g i (i+j)+ent f i*ent g j)),.rw⟩) (out.set (i+j) (pmV f g i (i+j)+ent f i*ent g j)) eP eP (by rw[aH fU]) (by rw[bW (Ne.symm hk0)];exact fW hk) hk0 (by rw[a8];exact hl) (λk hk=>by
   rw[Je eP];by_cases h:k=i+j
   ·rw[aF h,h,Ww]
   ·rw[aG h,hv k hk,Wv h])
  have e:lp uh (oO φ j33) (fu+1) (.tree (rs g) m ey) (.sl 0 0 c c 3 true) (.i .i64 (.ofNat i)) (.ptr k 0) X (.i .i64 (.ofNat n)) (.i .i64 (.ofNat i)) (.tree (rs g) m ey) (.i .i64 (.ofNat m)) (.i .i64 (.ofNat j)) (mem bs)=
   lp uh (oO φ j33) fu (.tree (rs g) m ey) (.sl 0 0 c c 3 true) (.i .i64 (.ofNat i)) (.ptr k 0) X (.i .i64 (.ofNat n)) (.i .i64 (.ofNat i)) (.tree (rs g) m ey) (.i .i64 (.ofNat m)) (.i .i64 (.ofNat (j+1))) (mem ((bs++[(⟨rcs (ent g j),.rw⟩:Blk)]).set 0 ⟨rs (out.set (i+j) (pmV f g i (i+j)+ent f i*ent g j)),.rw⟩)):=by
   rw[ep]
   conv=>lhs;unfold oO
   refine th (gX eP) (th fG (th (Fv hm eP) (th (CO rfl) (th (gA eP) (th (gA eP) (th (XY (fW h0) rfl rfl eP eP) (th (yP (fW hk)) (th (yP fU) (th (oz (Ka (hB.qf i) (hB.qg j) hφ) rfl) ?_)))))))));rw[e1];exact th (oz (Ws (hB.qs eP (i+j)) (hB.qp i j) hφ) rfl) (th (Z1 (fW h0) eP eP) (gA eP))
  rw[e];exact h1
def z0z(hB:MB f g Df N Dg M)(hn:f.length=n)(hm:g.length=m)(hc:c=n+m-1)(hs:n+m<1000000000)(hφ:gW φ){ex ey:Bool}:∀(t i fu:Nat)(bs:fQ)(out:Row),i+t=n->t<fu->bs[0]?=some ⟨rs out,.rw⟩->out.length=c->(∀k,k<c->ent out k=pmV f g i k)->
 ∃e,lp gQ (nH φ) fu (.tree (rs g) m ey) (.sl 0 0 c c 3 true) (.tree (rs f) n ex) (.i .i64 (.ofNat n)) (.i .i64 (.ofNat i)) (mem bs)=some (.tree (rs (wf f g)) (wf f g).length e):=by
 intro t
 induction t with
 |zero=>
  intro i fu bs out hi hf h0 hl hv;obtain⟨fu,rfl⟩:∃q,fu=q+1:=⟨fu-1,eP⟩
  have:i=n:=eP;subst this;have e1:out=lst c (Qj f g):=JV hl (λk hk=>by rw[hv k hk,<-Wt,hn]);obtain⟨e,he⟩:=Il (φ:=φ) (bs:=bs) (c:=c) (ex:=true) h0 hl eP eP;refine⟨e,?_⟩;rw[ep];unfold nH;refine th (gP eP) (th ez (he.trans ?_));unfold wf;rw[e1,hc,hn,hm]
 |succ t ih=>
  intro i fu bs out hi hf h0 hl hv;obtain⟨fu,rfl⟩:∃q,fu=q+1:=⟨fu-1,eP⟩
  by_cases hz:ent f i=0
  ·obtain⟨e,he⟩:=ih (i+1) fu (bs++[(⟨rcs (ent f i),.rw⟩:Blk)]) out eP eP (fW h0) hl (λk hk=>by rw[hv k hk,TV hz]);refine⟨e,?_⟩;rw[ep];unfold nH;refine th (gX eP) (th fG (th sj (th (Fv hn eP) (th (CO rfl) (th Qs (th (sX AL rfl) ?_))))));rw[ac hz];exact th fG (th (gA eP) he)
  ·have key:=z0A (φ:=φ) (X:=.tree (rs f) n ex) (ey:=ey) (i:=i) (P:=λo=>∃e,o=some (.tree (rs (wf f g)) (wf f g).length e)) (j33:=λ(x34 x35 x36 x37 x38:D)(s:LS)=>f7 x38 ej λx39=>lp gQ (nH φ) fu x34 x35 x36 x37 x39 s) hB hn hm hc hs hφ eP (λbs' z77 g0 gl gv=>by
    obtain⟨e,he⟩:=ih (i+1) fu bs' z77 eP eP g0 gl gv;exact⟨e,th (gA eP) he⟩) m 0 φ bs.length (bs++[(⟨rcs (ent f i),.rw⟩:Blk)]) out eP eP (fW h0) fU (by have:=fC h0;omega) hl (λk hk=>by rw[z2D];exact hv k hk)
   obtain⟨e,he⟩:=key;refine⟨e,?_⟩;rw[ep];unfold nH;refine th (gX eP) (th fG (th sj (th (Fv hn eP) (th (CO rfl) (th Qs (th (sX AL rfl) ?_))))));rw[aU hz];exact th ez (th fY he)
def z2x(hB:MB f g Df N Dg M)(hn:f.length=n)(hm:g.length=m)(hs:n+m<1000000000)(hφ:gW φ){ex ey:Bool}:∃e,kQ φ [.tree (rs f) n ex,.tree (rs g) m ey]=some (.tree (rs (wf f g)) (wf f g).length e):=by
 by_cases hz:n=0\/m=0
 ·have e0:wf f g=[]:=by
   unfold wf;refine AM λi=>?_;rw[CW];split
   ·refine Cx λt ht=>?_;rcases hz with h|h
    ·omega
    ·split
     ·rw[yW (r:=g) (i:=i-t) eP];grind
     ·rfl
   ·rfl
  refine⟨true,?_⟩;rw[e0];unfold kQ;dsimp only[fJ,fV];refine th fY ?_;by_cases h:n=0
  ·exact th (oW h) (th qV (th qV (th qV (th gT (th fG AK)))))
  ·exact th (mJ h) (th iX (th iX (th fY (th iX (th (oW eP) (th ga (th fG AK)))))))
 ·obtain⟨e,he⟩:=Tf (φ:=φ) (m:=n) (n:=n+m-1) (X:=.tree (rs f) n ex) (Y:=.tree (rs g) m ey) eP (P:=λo=>∃e,o=some (.tree (rs (wf f g)) (wf f g).length e)) eP (λs K=>fY) (λbs h0=>z0z hB hn hm rfl hs hφ n 0 φ bs (lst (n+m-1) λ_=>0) eP eP h0 uo (λk hk=>by rw[CW,aF hk];rfl)) (n+m-1) 0 φ [⟨fl3 [] (n+m-1),.rw⟩] eP eP rfl;refine⟨e,?_⟩;unfold kQ;dsimp only[fJ,fV];rw[<-fg];refine th fY (th (mJ eP) (th iX (th iX (th fY (th iX (th (mJ eP) (th ga (th ez (th fY (th fY (th (gA eP) (th (iJ eP eP) (th (BI rfl eP eP) (th vq ?_))))))))))))));rw[IN];exact he
end
section
variable {bs:fQ} {l f g:Row} {b:Blk} {i k n m c N M Df:Nat} {ex:Bool} {s:LS} {K:fK} {kk:IntKind} {q:Rat} {φ:Nat}
def Rp{z bytes:Nat}{cs:fN}(hb:bs[k]?=some ⟨[],.rw⟩)(hc:cs.length=n*z)(h1:cs.all one=true)(hs:n*bytes<=1099511627776)(hn:n<=1099511627776):
 ∃j c e bs',mc z bytes (mem bs) (.sl k 0 0 0 z true) (.tree cs n ex) K=K (.sl j 0 n c z e) (mem bs')/\bs'[j]?=some ⟨cs,.rw⟩/\(n≠0->c=n/\e=false/\j=bs.length/\bs'=bs++[⟨cs,.rw⟩]):=by
 have z6D:∀F:fN->Nat->Rs,oI z (mem bs) (.tree cs n ex) F=F cs n:=λF=>Jn hc;by_cases h0:n=0
 ·subst h0;have:cs=[]:=aZ eP;subst this;refine⟨k,0,true,bs.set k ⟨[],.rw⟩,?_,by rw[aH (fC hb)],λh=>absurd rfl h⟩;show oI z (mem bs) (.tree [] 0 ex) _=_;rw[z6D];show(iq (mem bs) k λb=>cnd (wr b.st) (cnd (Nat.beq z z) (sP [] (frc (Nat.add 0 0) λtot=>cnd (Nat.ble (Nat.mul tot bytes) 1099511627776) (cnd (Nat.ble tot 1099511627776) (cnd (Nat.ble tot 0) (xU (Nat.add 0 (Nat.mul 0 z)) [] b.cs λcs=>oh (mem bs) k ⟨cs,.rw⟩ λs=>K (.sl k 0 tot 0 z true) s) _) none) none)) none) none)=_;rw[gV hb,Bj,show Stt.rw.wr=true from rfl,fH,gE,fH,sY rfl,fj,aD (show Nat.mul (Nat.add 0 0) bytes<=_ by show 0*bytes<=_;omega),aD (show Nat.add 0 0<=_ by omega),fH,fH,aD (aC 0),fH,qE];have:A8 (Nat.add 0 (Nat.mul 0 z)) [] ([]:fN)=some []:=by
   rw[show Nat.add 0 (Nat.mul 0 z)=0 by show 0+0*z=0;omega];rfl
  rw[this,jY,mD (fC hb)]
 ·refine⟨bs.length,n,false,bs++[⟨cs,.rw⟩],?_,by simp,λ_=>⟨rfl,rfl,rfl,rfl⟩⟩;show oI z (mem bs) (.tree cs n ex) _=_;rw[z6D];show(iq (mem bs) k λb=>cnd (wr b.st) (cnd (Nat.beq z z) (sP cs (frc (Nat.add 0 n) λtot=>cnd (Nat.ble (Nat.mul tot bytes) 1099511627776) (cnd (Nat.ble tot 1099511627776) (cnd (Nat.ble tot 0) _ (jJ 0 b.cs λr=>jP (Nat.mul 0 z) r λold=>pk old cs λcs=>cnd true (lh (mem bs) ⟨cs,.rw⟩ λs'=>K (.sl (mem bs).nx 0 tot tot z false) s') _)) none) none)) none) none)=_;rw[gV hb,Bj,show Stt.rw.wr=true from rfl,fH,gE,fH,sY h1,fj,show Nat.add 0 n=n from aN n,aD (show Nat.mul n bytes<=_ from hs),aD hn,fH,fH,il (show ¬n<=0 by omega),fq,gZ,a7,i7,
   aF (show Nat.mul 0 z<=([]:fN).length by show 0*z<=0;omega),jt,fH,kI,mP]
  show K _ (mem (bs++[⟨List.take (Nat.mul 0 z) ([]:fN)++cs,.rw⟩]))=_;rw[List.take_nil];rfl
def IC{zero:fN}{z:Nat}(hz:zero.length=z):iO 0 zero [] (mem bs) K=K (.sl bs.length 0 0 0 z true) (mem (bs++[⟨[],.rw⟩])):=by
 show(frc zero.length λz=>lh (mem bs) ⟨[],.rw⟩ λs'=>K (.sl (mem bs).nx 0 0 0 z true) s')=_;rw[fj,kI,mP,hz]
def FL(l:Row):(rs l).all one=true:=by
 unfold rs
 induction l with
 |nil=>rfl
 |cons q l ih=>simp only[cC,qs,cH,ih];rfl
def z0q(hn:l.length=n)(hne:l≠[])(hs:n<1000000000):mS (gM φ) [.tree (rs l) n ex]=some (.own (rs l) n 3):=by
 have hcs:∃d r,rs l=d::r:=by
  cases l with
  |nil=>exact absurd rfl hne
  |cons q l=>exact⟨_,_,rfl⟩
 obtain⟨d,r,hd⟩:=hcs;have h1:mS (gM φ) [.tree (rs l) n ex]=gM φ [.tree (rs l) n ex]:=by rw[hd];rfl
 rw[h1];unfold gM;dsimp only[fJ,fV];rw[<-fg];have h2:∀F:fK,xC false (mem []) (.tree (rs l) n ex) F=F (.b false) (mem []):=λF=>by rw[hd];rfl
 obtain⟨j,c,e,bs',a1,a2,a3⟩:=Rp (bs:=[⟨[],.rw⟩]) (k:=0) (z:=3) (bytes:=40) (n:=n) (cs:=rs l) (ex:=ex) (K:=λx4 s=>fO true s x4 some) rfl (by rw[vT,hn]) (FL l) eP eP;refine th (h2 _) (th ez (th (IC rfl) (a1.trans ?_)));have hn0:n≠0:=by rw[<-hn];exact λh=>hne (aZ h)
 obtain⟨rfl,rfl,rfl,rfl⟩:=a3 hn0;rw[Iz fU (Bw l) (by rw[vT,hn];exact aC _),yC hn]
structure DB (f g:Row) (n m Df N M:Nat):Prop where
 hn:f.length=n
 hm:g.length=m
 hm2:2<=m
 hnm:m<=n
 hs:n<1000000000
 hf:Hb Df N f
 hg:Hb 1 M g
 h1:ent g (m-1)=1
 d0:0<Df
 l1:Lg KB Df
 l2:Lg KB M
 l3:Lg KB (N*(1+M)^(n+1-m))
def KM{bs:fQ}{k c:Nat}{b:Blk}(hb:bs[k]?=some b)(hc:b.cs.take (n*3)=rs l)(hl:b.st.live=true)(hn:l.length=n)(hs:n<1000000000)(hφ:1000000000<=φ):∃e,eY (gY φ) [.sl k 0 n c 3 ex] (mem bs) K=K (.tree (rs (ib l)) (ib l).length e) (mem (bs.set k ⟨b.cs,fzS b.st⟩)):=
 JZ hb hc hl hn (λex'=>FZ hn eP eP)
def DvR(f g:Row)(o:Option D):Prop:=∃qs' nq e e',o=some (.tup [.tree qs' nq e,.tree (rs (TP g f)) (TP g f).length e'])
def VQ{n':Nat}{F X:D}(hs:n<1000000000){P:Option D->Prop}{mm:D}(hR:∀bs,bs[0]?=some b->bs[1]?=some ⟨rs (lst n (λ_=>0)),.rw⟩->bs.length=2->P ((fe mm ej λx24=>
 eT 3 (mem bs) X x24 λx25 s=>
 eW 3 s x25 λx26 s=>
 eY (kR φ) [x26] s λx27 s=>
 ff iw s λx28 s=>
 fA 3 s x28 x27 λ_ s=>
 fT F s λx29 s=>
 fe x29 mm λx30=>
 lp iH (nu φ) φ X (.sl 0 0 n' n' 3 false) mm (.sl 1 0 n n 3 true) x28 x30 s))):∀(j i f:Nat)(bs:fQ),i+j=n->j<f->bs[0]?=some b->bs[1]?=some ⟨fl3 (lst i (λ_=>0)) j,.rw⟩->bs.length=2->
 P (lp lK (kb φ) f F X (.sl 0 0 n' n' 3 false) mm (.sl 1 0 n n 3 true) (.i .i64 (.ofNat n)) (.i .i64 (.ofNat i)) (mem bs)):=by
 intro j
 induction j with
 |zero=>
  intro i f bs hi hf h0 hb hl;obtain⟨f,rfl⟩:∃q,f=q+1:=⟨f-1,eP⟩
  have:i=n:=eP;subst this;rw[Ug]at hb;have h1:=hR bs h0 hb hl;rw[ep];unfold kb;rw[gP (bE i),ez];exact h1
 |succ j ih=>
  intro i f bs hi hf h0 hb hl;obtain⟨f,rfl⟩:∃q,f=q+1:=⟨f-1,eP⟩
  have h1:=ih (i+1) f (bs.set 1 ⟨fl3 (lst (i+1) (λ_=>0)) j,.rw⟩) eP eP (fc eP h0) (by rw[aH (fC hb)]) (by rw[a8];exact hl);have hw:=Z0 (q:=0) (n:=n) (c:=n) (ex:=true) (kk:=.i64) (K:=λ_ s=>f7 (.i .i64 (.ofNat i)) ej λx24=>lp lK (kb φ) f F X (.sl 0 0 n' n' 3 false) mm (.sl 1 0 n n 3 true) (.i .i64 (.ofNat n)) x24 s) hb (by rw[uo];omega);rw[uo]at hw;have e:lp lK (kb φ) (f+1) F X (.sl 0 0 n' n' 3 false) mm (.sl 1 0 n n 3 true) (.i .i64 (.ofNat n)) (.i .i64 (.ofNat i)) (mem bs)=lp lK (kb φ) f F X (.sl 0 0 n' n' 3 false) mm (.sl 1 0 n n 3 true) (.i .i64 (.ofNat n)) (.i .i64 (.ofNat (i+1))) (mem (bs.set 1 ⟨fl3 (lst (i+1) (λ_=>0)) j,.rw⟩)):=by
   rw[ep];unfold kb;refine th (gX eP) (th fG (th (fX Hi) (hw.trans (th (gA eP) ?_))));rw[<-CV];rfl
  rw[e];exact h1
def DvR.of{o o':Option D}(h:o=o')(h':DvR f g o'):DvR f g o:=by rw[h];exact h'
end
section
variable {bs:fQ} {l f g q r:eZ} {b:Blk} {i k n c a p w:Nat} {ex:Bool} {s:LS} {K:fK} {kk:IntKind} {φ:Nat} {z x y:Int} {d:D} {cs:fN}
def tn(l:eZ)(e:Bool):D:=.tree (ci l) l.length e
def wr1(hb:bs[k]?=some ⟨cs,.rw⟩)(hi:i<n)(hi':i<cs.length)(hx:lA d=[d]:=by rfl)(h1:one d=true:=by rfl):(eT 1 (mem bs) (.sl k 0 n c 1 ex) (.i kk (.ofNat i)) λa s=>fA 1 s a d K)=K .u (mem (bs.set k ⟨cs.set i d,.rw⟩)):=by
 refine th (DY hb rfl hi) ?_;rw[aN,a9];refine xF hb rfl (hx:=hx) (hn:=rfl) (h1:=by simp[h1]) (hl:=?_);unfold lay;rw[aF (by simp;omega),dH,aF hi'];simp
def rd1(hb:bs[k]?=some b)(hl:b.st.live=true)(hd:b.cs[i]?=some d)(hn:i<n):(eT 1 (mem bs) (.sl k 0 n c 1 ex) (.i kk (.ofNat i)) λa s=>eR s a K)=K d (mem bs):=by
 refine th (DY hb hl hn) ?_;rw[aN,a9];exact vp hb hl hd
def rdt{e:Bool}(hd:cs[i]?=some d)(hn:cs.length=n):(eT 1 s (.tree cs n e) (.i kk (.ofNat i)) λa s=>eR s a K)=K d s:=by
 have:=fC hd;refine th (HL eP (by rw[a9];exact this)) ?_;rw[a9];exact Ky hd
def QC(h:i<l.length):(ci l)[i]?=some (ni (l.getD i 0)):=by
 refine wV ?_;rw[aB,aE h];rfl
def rdn{e:Bool}(h:i<l.length):(eT 1 s (tn l e) (.i kk (.ofNat i)) λa s=>eR s a K)=K (ni (l.getD i 0)) s:=rdt (QC h) (j0 l)
def vr(v:Nat->Nat)(i j:Nat):eZ:=(List.range i).map v++List.replicate j 0
def GS{v:Nat->Nat}{j:Nat}:(vr v i j).length=i+j:=by simp[vr]
def Un{v:Nat->Nat}{j:Nat}:(vr v i (j+1)).set i (v i)=vr v (i+1) j:=by
 unfold vr;rw[bU _ _ fU,aj,zna,bD,ch,ck,zmu,bG,aQ];rfl
def QB:(ci l).set i (ni w)=ci (l.set i w):=Jm l i w
def SG(n:Nat):mf n [fB]=ci (vr (λ_=>0) 0 n):=by
 show _=ci ([]++List.replicate n 0);rw[cW,<-Ni]
 induction n with
 |zero=>rfl
 |succ n ih=>rw[ch,<-ih];rfl
def z1b{v:Nat->Nat}:vr v 0 n=vr (λ_=>0) 0 n:=rfl
def GT{v:Nat->Nat}:vr v n 0=(List.range n).map v:=by unfold vr;rw[zmq,bQ]
def wrn{v:Nat->Nat}{j:Nat}(hb:bs[k]?=some ⟨ci (vr v i (j+1)),.rw⟩)(hi:i<n):(eT 1 (mem bs) (.sl k 0 n c 1 ex) (.i kk (.ofNat i)) λa s=>fA 1 s a (ni (v i)) K)=K .u (mem (bs.set k ⟨ci (vr v (i+1) j),.rw⟩)):=by
 refine th (wr1 hb hi (by rw[j0,GS];omega)) ?_;rw[QB,Un]
def mkn(h:n<=1000000000):io 1 8 [fB] (mem bs) (.i .i64 (.ofNat n)) (.i .i64 (.ofNat n)) K=K (.sl bs.length 0 n n 1 true) (mem (bs++[⟨ci (vr (λ_=>0) 0 n),.rw⟩])):=by
 refine th (BI rfl eP eP) ?_;rw[SG]
def z2o{F:D->eZ->Rs}{j:Nat}(hb:bs[k]?=some ⟨ci l,.rw⟩)(hn:l.length=n):∃e,jX (mem bs) (j+2) (.sl k 0 n c 1 ex) F=F (.tree (ci l) n e) [k]:=by
 obtain⟨e,he⟩:=By (s:=mem bs) (l:=k) (len:=n) (cm:=c) (n:=j) (ex:=ex) (b:=⟨ci l,.rw⟩) (by rw[mK];exact hb) rfl (ur l) (by show n<=(ci l).length;rw[j0];omega);refine⟨e,(he F).trans ?_⟩;rw[show List.take n (Blk.cs ⟨ci l,.rw⟩)=ci l from aP (by rw[j0];omega)]
def OF(hb:bs[k]?=some ⟨ci l,.rw⟩)(hn:l.length=n)(hs:n<=1000000000)(hφ:gW φ):eY (iL φ) [.sl k 0 n c 1 ex] (mem bs) K=K (tn (tz l) true) (mem (bs.set k ⟨ci l,.frz⟩)):=by
 obtain⟨e,he⟩:=z2o (c:=c) (ex:=ex) (j:=58) (F:=λy a=>pk a [] λab=>ob (iL φ [y]) λr=>nD (mem bs) ab r K) hb hn;refine he.trans ?_;subst hn;rw[jt,wS eP eP,jY];show(iq (mem bs) k λb=>oh (mem bs) k ⟨b.cs,fzS b.st⟩ λs=>K (tn (tz l) true) s)=_;rw[gV hb,mD (fC hb)];rfl
def HE{own:Bool}{e:Bool}:fO own s (tn l e) some=some (tn l e):=by
 unfold fO;rw[lJ];show sk (lf own s.get gJ (tn l e)) some=_;rw[show lf own s.get gJ (tn l e)=some (tn l e) by cases own<;>rfl,gc];rfl
def Cv(hb:bs[k]?=some ⟨ci l,.rw⟩)(hn:l.length=n)(hs:n<=1000000000)(hφ:gW φ):(eY (iL φ) [.sl k 0 n c 1 ex] (mem bs) λx s=>fO false s x some)=some (tn (tz l) true):=by
 rw[OF hb hn hs hφ];exact HE
def rz(p:Nat)(z:Int):Nat:=(z%(p:Int)).toNat
def FJ(hp:0<p):rz p z<p:=by
 have h1:=dF z (show(p:Int)≠0 by omega);have h2:=dQ z (show(0:Int)<p by omega);unfold rz;omega
def Ss(hp:0<p):∃w:Int,((rz p z:Nat):Int)=z+p*w:=by
 have h1:=dF z (show(p:Int)≠0 by omega);have h2:=zmO z p;refine⟨-(z/p),?_⟩;unfold rz;rw[Int.toNat_of_nonneg h1,eB];omega
def Iu{v:Nat}(hp:0<p)(hv:v<p)(h:∃w:Int,(v:Int)=z+p*w):rz p z=v:=by
 obtain⟨w,hw⟩:=h;obtain⟨u,hu⟩:=Ss (z:=z) hp;refine FW (p:=p) (FJ hp) hv ⟨u-w,?_⟩;rw[hu,hw,Int.mul_sub];omega
def Xx(hp:0<p)(hp2:p<1000000000)(hz:IZ z):mU φ [ni p,zd z]=some (ni (rz p z)):=by
 have e:=Int.mul_tdiv_add_tmod z p;have hlt: -(p:Int)<z.tmod p/\z.tmod p<p:=by
  have h0:(0:Int)<p:=eP;refine⟨?_,Int.tmod_lt_of_pos z h0⟩;have:=Int.tmod_lt_of_pos (-z) h0;rw[Int.neg_tmod]at this;omega
 unfold mU;dsimp only[fJ,fV,jn];refine th (z0L (by omega:(p:Int)≠0)) ?_;generalize z.tdiv p=t at e;generalize z.tmod p=r at*;have e0:(fB:D)=zd 0:=rfl;rw[e0];refine th JX ?_;by_cases h:r<0
 ·rw[ac h,fG];refine th (z0Q (by unfold IZ;simp only[ag];omega)) ?_;have h3:r+(p:Int)=((r+p).toNat:Int):=eP;have h4:rz p z=(r+p).toNat:=Iu hp eP ⟨1-t,by rw[<-h3,Int.mul_sub];omega⟩;rw[h4];show fO false s0 (zd (r+(p:Int))) some=_;rw[h3];rfl
 ·rw[aU h,ez];have h3:r=(r.toNat:Int):=eP;have h4:rz p z=r.toNat:=Iu hp eP ⟨-t,by rw[<-h3,eB];omega⟩;rw[h4];show fO false s0 (zd r) some=_;rw[h3];rfl
def Xr(hp:0<p)(hp2:p<1000000000)(hz:IZ z):eY (mU φ) [ni p,zd z] s K=K (ni (rz p z)) s:=fX (Xx hp hp2 hz)
def U2(hp:0<p)(hp2:p<1000000000)(ha:a<p):∀(f y x:Nat)(s t:Int),y<f->0<x->x<=p->y<=p->Nat.gcd x y=1->(∃z,s*a=x+p*z)->(∃z,t*a=y+p*z)->s.natAbs*y+t.natAbs*x<=p->s.natAbs<=p->
 ∃iv,iv<p/\a*iv%p=1%p/\lp gQ (zu φ) f (ni p) (ni x) (ni y) (zd s) (zd t) s0=some (ni iv):=by
 intro f
 induction f with
 |zero=>intro y x s t hy;omega
 |succ f ih=>
  intro y x s t hy hx hxp hyp hg hs ht hb hsp;rw[ep];unfold zu;rcases bT y with h0|h0
  ·subst h0;have hx1:x=1:=by simpa using hg
   subst hx1;refine⟨rz p s,FJ hp,?_,?_⟩
   ·obtain⟨z,hz⟩:=hs;obtain⟨w,hw⟩:=Ss (z:=s) hp;have:∃v:Int,((a*rz p s:Nat):Int)=(1:Nat)+p*v:=⟨z+a*w,by rw[bZ,hw];exact z69⟩
    obtain⟨v,hv⟩:=this;have h1:(((a*rz p s)%p:Nat):Int)=((1%p:Nat):Int):=by
     rw[zmK,hv,zmp,<-zmK]
    exact Int.natCast_inj.1 h1
   ·refine th (qw eP) (th ez (th (Xr hp hp2 ?_) ?_))
    ·unfold IZ;omega
    ·rfl
  ·have hq1:x/y*y<=x:=dG x y;have hqx:x/y<=x:=dX x y;have hm:=cK x y;have hmy:=bN x h0;generalize hq:x/y=q at*;generalize hr:x%y=r at*;have htx:q*t.natAbs<=p:=by
    have h1:q*t.natAbs<=x*t.natAbs:=aK _ hqx;rw[aL x]at h1;omega
   have hta:((q:Int)*t).natAbs=q*t.natAbs:=by rw[bt,bJ]
   have htp:t.natAbs<=p:=by
    have h1:t.natAbs*1<=t.natAbs*x:=ae _ hx;omega
   have hyq:y*q=q*y:=aL _ _;obtain⟨iv,i1,i2,i3⟩:=ih r y t (s-q*t) eP h0 hyp eP (by rw[<-hr,dJ,<-znq,dJ];exact hg) ht (by
    obtain⟨z1,h1⟩:=hs;obtain⟨z2,h2⟩:=ht;refine⟨z1-q*z2,?_⟩;have h3:(x:Int)=y*q+r:=by rw[<-hm];simp
    have h4:(s-q*t)*a=s*a-q*(t*a):=z69;rw[h4,h1,h2,h3];exact z69) (by
    have h1:=zmE s (q*t);rw[hta]at h1;have h2:(s-q*t).natAbs*y<=(s.natAbs+q*t.natAbs)*y:=aK _ h1;have h3:t.natAbs*r+(s.natAbs+q*t.natAbs)*y=s.natAbs*y+t.natAbs*x:=by rw[<-hm];exact z69
    omega) htp
   refine⟨iv,i1,i2,?_⟩;refine th (oG h0) (th fG (th (Yq eP eP) ?_));rw[hq];refine th (xO eP) (th (iJ eP eP) ?_);rw[show x-q*y=r by omega];have e0:(.i .i64 (.ofNat q):D)=zd (q:Int):=rfl;rw[e0];have hsq:=zmE s (q*t);refine th (z0M (by unfold IZ;omega)) (th (DT (by unfold IZ;omega) (by unfold IZ;omega)) ?_);exact i3
def P9(hp:Pr p)(hp2:p<1000000000)(h0:0<a)(ha:a<p)(hφ:gW φ):∃iv,iv<p/\a*iv%p=1%p/\p8 φ [ni p,ni a]=some (ni iv):=by
 obtain⟨iv,i1,i2,i3⟩:=U2 (φ:=φ) hp.pos hp2 ha φ a p 0 1 eP hp.pos (aC _) (bq ha) (by rw[dJ];exact hp.cop a h0 ha) ⟨-1,eP⟩ ⟨0,eP⟩ fU fU;refine⟨iv,i1,i2,?_⟩;rw[MF];exact i3
def FI(hp:0<p)(hp2:p<1000000000)(hf:∀x,x∈f->x<p)(hc:c<p)(hs:f.length<=1000000000)(hφ:gW φ){ef:Bool}:∀(j i fu:Nat)(bs:fQ),i+j=f.length->j<fu->bs[0]?=some ⟨ci (vr (λk=>f.getD k 0*c%p) i j),.rw⟩->
 lp iH (uy φ) fu (ni p) (ni c) (.sl 0 0 f.length f.length 1 true) (tn f ef) (ni f.length) (ni i) (mem bs)=some (tn (tz ((List.range f.length).map λk=>f.getD k 0*c%p)) true)
 |0,i,fu+1,bs,h,hfu,hb=>by
  have:i=f.length:=eP;subst this;rw[GT]at hb;rw[ep];unfold uy;exact th (gP eP) (th ez (Cv hb fU hs hφ))
 |j+1,i,fu+1,bs,h,hfu,hb=>by
  have hx:=wH hf hp i;have hm:f.getD i 0*c<=p*p:=ay (bq hx) (bq hc);have hpp:p*p<=1000000000*1000000000:=ay (bq hp2) (bq hp2);rw[ep];unfold uy;refine th (gX eP) (th fG (th (rdn eP) (th (xO eP) (th (sh eP) (th (wrn (v:=λk=>f.getD k 0*c%p) hb eP) (th (gA eP) ?_))))));exact FI hp hp2 hf hc hs hφ j (i+1) fu _ eP eP (by rw[aH (fC hb)])
def scN(p c:Nat)(f:eZ):eZ:=tz ((List.range f.length).map λk=>f.getD k 0*c%p)
def J8(hp:0<p)(hp2:p<1000000000)(hf:∀x,x∈f->x<p)(hc:c<p)(hs:f.length<=1000000000)(hφ:gW φ){ef:Bool}:tH φ [ni p,tn f ef,ni c]=some (tn (scN p c f) true):=by
 unfold tH;dsimp only[fJ,fV];rw[<-fg];refine th fY (th (mkn hs) (th fY ?_));exact FI hp hp2 hf hc hs hφ f.length 0 φ _ eP eP rfl
def Ir(hp:0<p):Pq p (scN p c f)/\CgZ p (zx (scN p c f)) (ZX.C c*zx f):=by
 refine⟨CE λx hx=>?_,?_⟩
 ·obtain⟨k,_,rfl⟩:=dY.1 hx;exact bN _ hp
 ·unfold scN;rw[Ep];refine y4 λk=>?_;rw[uP,ww,ww];by_cases hk:k<f.length
  ·have:((List.range f.length).map λk=>f.getD k 0*c%p).getD k 0=f.getD k 0*c%p:=by
    rw[aB,af,cf hk];rfl
   rw[this];obtain⟨z,hz⟩:=BH (f.getD k 0*c) p;exact⟨z,by rw[hz,bZ,eM]⟩
  ·refine⟨0,?_⟩;rw[aB,ai (by simp;omega),aB (l:=f),ai eP];simp
def Wf:(scN p c f).length<=f.length:=aX Dc fU
def M4(hp:Pr p)(hf:Pq p f)(h0:f≠[])(hi:f.getD (f.length-1) 0*c%p=1%p):Mo (scN p c f)/\(scN p c f).length=f.length:=by
 have hl:=az.2 h0;have ht:((List.range f.length).map λk=>f.getD k 0*c%p).getD (f.length-1) 0=1:=by
  rw[aB,af,cf eP];show f.getD (f.length-1) 0*c%p=1;rw[hi,am hp.two]
 have hs:scN p c f=(List.range f.length).map λk=>f.getD k 0*c%p:=Ik λd hd=>by
  have:d=f.length-1:=by simp at hd;omega
  rw[this,ht];decide
 have hlen:(scN p c f).length=f.length:=by rw[hs];simp
 refine⟨⟨λe=>by rw[e]at hlen;simp at hlen;omega,?_⟩,hlen⟩;rw[hlen,hs];exact ht
structure MN (p:Nat) (f d:eZ):Prop where
 pm:Pq p d
 mo:Mo d
 ln:d.length=f.length
 up:∃c,CgZ p (zx d) (ZX.C c*zx f)
 dn:∃c,CgZ p (zx f) (ZX.C c*zx d)
 id:Mo f->d=f
def Ef(hp:Pr p)(hp2:p<1000000000)(hf:Pq p f)(h0:f≠[])(hs:f.length<=1000000000)(hφ:gW φ){ef:Bool}:∃d,MN p f d/\oo φ [ni p,tn f ef]=some (tn d true):=by
 have hl:=az.2 h0;obtain⟨iv,i1,i2,i3⟩:=P9 hp hp2 (hf.lead h0) (hf.get hp.pos (f.length-1)) hφ;obtain⟨g1,g2⟩:=Ir (f:=f) (c:=iv) hp.pos;obtain⟨g3,g4⟩:=M4 hp hf h0 i2;refine⟨scN p iv f,⟨g1,g3,g4,⟨iv,g2⟩,⟨f.getD (f.length-1) 0,?_⟩,λhm=>?_⟩,?_⟩
 ·refine(CgZ.tr (CgZ.ml CgZ.rfl' g2) ?_).sy;obtain⟨z,hz⟩:=BH (f.getD (f.length-1) 0*iv) p;rw[i2,am hp.two]at hz;generalize f.getD (f.length-1) 0=t at*;have hC:ZX.C (t:Nat)*ZX.C (iv:Nat)=1-ZX.C p*ZX.C z:=by
   rw[<-sB,<-sB];have e:(t:Int)*iv=1-p*z:=by rw[bZ]at hz;omega
   rw[e];refine ZX.ext' λk=>?_;cases k with
   |zero=>rfl
   |succ k=>rfl
  refine⟨-(ZX.C z*zx f),?_⟩;have:ZX.C (t:Nat)*(ZX.C (iv:Nat)*zx f)=(ZX.C (t:Nat)*ZX.C (iv:Nat))*zx f:=z69;rw[this,hC];exact z69
 ·have hiv:iv=1:=by
   rw[hm.2,ao,am i1,am hp.two]at i2;exact i2
  subst hiv;have:(List.range f.length).map (λk=>f.getD k 0*1%p)=f:=by
   refine cr fU λk h1 h2=>?_;rw[cZ,cn,a9,am (hf.get hp.pos k),aB,aE h2];rfl
  unfold scN;rw[this,Ik hf.top]
 ·unfold oo;dsimp only[fJ,fV];refine th fY (th (mJ eP) (th ez (th fY (th (iJ eP eP) (th (rdn eP) (th (fX i3) (th (fX (J8 hp.pos hp2 hf.lt i1 hs hφ)) HE)))))))
def z2n(hb:bs[k]?=some b)(hc:b.cs=ci l)(hl:b.st.live=true)(hn:l.length=n):∃e,res (mem bs).get 60 (.sl k 0 n c 1 ex)=some (tn l e,[k]):=by
 refine⟨ex&&c==n,?_⟩;have h1:=wx (g:=(mem bs).get) (n:=59) (l:=k) (off:=0) (len:=n) (cm:=c) (z:=1) (ex:=ex) (r:=ci l) (cs:=ci l) (ls:=[]) (by rw[mK];exact hb) hl (by
  unfold cut;rw[hc,a7,aP (by rw[j0];omega),aF (by rw[j0];omega)]) (mG (k:=58) _ (ur l))
 rw[h1];unfold tn;rw[hn]
def Sz(hb:bs[k]?=some b)(hc:b.cs=ci l)(hl:b.st.live=true)(hn:l.length=n):∃e,fO false (mem bs) (.tup [.tree [] 0 true,.sl k 0 n c 1 ex]) some=some (.tup [.tree [] 0 true,tn l e]):=by
 obtain⟨e,he⟩:=z2n (c:=c) (ex:=ex) hb hc hl hn;refine⟨e,?_⟩;unfold fO;rw[lJ];show sk (lf false (mem bs).get gJ (.tup [.tree [] 0 true,.sl k 0 n c 1 ex])) some=_;have:lf false (mem bs).get gJ (.tup [.tree [] 0 true,.sl k 0 n c 1 ex])=some (.tup [.tree [] 0 true,tn l e]):=by
  show(match yF (res (mem bs).get 60 gj),i8 (res (mem bs).get 60) [.sl k 0 n c 1 ex]with
   |some (d,o,ls),some (ds,ls')=>if o.all λl=> !(ls++ls').contains l then some (D.tup (d::ds))else none
   |_,_=>none)=_
  have r2:i8 (res (mem bs).get 60) [.sl k 0 n c 1 ex]=some ([tn l e],[k]):=by
   unfold i8;rw[he];rfl
  rw[r2];rfl
 rw[this,gc];rfl
def BZ(l:eZ):(ci l).all one=true:=by
 induction l with
 |nil=>rfl
 |cons a l ih=>exact ih
def z3z{P:Option D->Prop}{ef:Bool}{bs:fQ}(hs:f.length<=100000000)(h:∀j c e bs',bs'[j]?=some ⟨ci f,.rw⟩->P (K (.sl j 0 f.length c 1 e) (mem bs'))):P (mc 1 8 (mem (bs++[⟨[],.rw⟩])) (.sl bs.length 0 0 0 1 true) (tn f ef) K):=by
 obtain⟨j,c,e1,bs',a1,a2,_⟩:=Rp (bs:=bs++[⟨[],.rw⟩]) (k:=bs.length) (z:=1) (bytes:=8) (n:=f.length) (cs:=ci f) (ex:=ef) (K:=K) fU (by rw[j0];omega) (BZ f) eP eP;have a1:mc 1 8 (mem (bs++[⟨[],.rw⟩])) (.sl bs.length 0 0 0 1 true) (tn f ef) K=_:=a1;rw[a1];exact h _ _ _ _ a2
def xZ(hp:Pr p)(hp2:p<1000000000)(hf:Pq p f)(hg:Pq p g)(h0:g≠[])(hs:f.length<=100000000)(hφ:gW φ){ef eg:Bool}:∃q r e1 e2,DM p f g q r/\ko φ [ni p,tn f ef,tn g eg]=some (.tup [tn q e1,tn r e2]):=by
 have hg0:=az.2 h0;have hL:∀l:eZ,Pq p l->Lo l:=λl h x hx=>cj (h.lt x hx) (cj hp2 eV);rcases aY f.length g.length with hlt|hge
 ·unfold ko;dsimp only[fJ,fV];rw[<-fg]
  suffices h:∃e,(iO 0 [fB] [] (mem []) λx4 s=>mc 1 8 s x4 (tn f ef) λx5 s=>fT (tn g eg) s λx6 s=>fT (tn f ef) s λx7 s=>gD x7 x6 λx8=>fE x8 (fO false s (.tup [gj,x5]) some) _)=some (.tup [tn [] true,tn f e]) by
   obtain⟨e,he⟩:=h;exact⟨[],f,true,e,VM hf hlt,he⟩
  rw[IC rfl];refine z3z (P:=λo=>∃e,o=some (.tup [tn [] true,tn f e])) (bs:=[]) hs λj c e1 bs' a2=>?_;obtain⟨e,he⟩:=Sz (c:=c) (ex:=e1) a2 rfl rfl (show f.length=f.length from rfl);exact⟨e,th fY (th fY (th (gX hlt) (th fG he)))⟩
 ·obtain⟨iv,i1,i2,i3⟩:=P9 hp hp2 (hg.lead h0) (hg.get hp.pos (g.length-1)) hφ;have hd:=z3g hp.pos hp.two hf hg h0 hge i2 (λhm=>by rw[hm.2,ao]at i2;rw[i2,am hp.two]);refine⟨_,_,true,true,hd,?_⟩;exact J9 hp.pos (cj hp2 eV) (cj (cj i1 hp2) eV) (hL f hf) (hL g hg) hg0 hge hs eP (by rw[aB,aE (show g.length-1<g.length by omega)];rfl) i3
end
section
variable {bs:fQ} {l f g q r:eZ} {b:Blk} {i k n c a p w:Nat} {ex:Bool} {s:LS} {K:fK} {kk:IntKind} {φ:Nat} {z x y:Int} {d X:D} {cs:fN}
structure PF (p φ:Nat):Prop where
 pr:Pr p
 lt:p<1000000000
 ph:3000000000<=φ
def IL(h:PF p φ)(hf:Pq p f)(hg:Pq p g)(h0:g≠[])(hs:f.length<=100000000){ef eg:Bool}:∃q r e,DM p f g q r/\rS φ [ni p,tn f ef,tn g eg]=some (tn r e):=by
 obtain⟨q,r,e1,e2,hd,he⟩:=xZ h.pr h.lt hf hg h0 hs h.ph (ef:=ef) (eg:=eg);refine⟨q,r,e2,hd,?_⟩;unfold rS;dsimp only[fJ,fV];exact th (fX he) (th iG (th iF HE))
def z15(hp:Pr p)(hf:Pq p f)(h0:f≠[]){d:eZ}(hd:MN p f d):GC p f [] d:=by
 obtain⟨c,hc⟩:=hd.up;obtain⟨c',hc'⟩:=hd.dn;refine⟨hd.pm,⟨ZX.C c,0,Po.C c,Po.zero,hc.tr (CgZ.of z69)⟩,⟨ZX.C c',Po.C c',hc'.tr (CgZ.of z69)⟩,⟨0,Po.zero,CgZ.of (by rw[uW];exact z69)⟩,λ_=>hd.mo,λ_=>zmR hd.ln⟩
def IJ(h:PF p φ):∀(fu:Nat)(f g:eZ)(ef eg:Bool)(s:LS),Pq p f->Pq p g->f≠[]->f.length<=100000000->g.length<=100000000->g.length<fu->∃d,GC p f g d/\lp vN (AA φ) fu (ni p) (tn f ef) (tn g eg) s=some (tn d true)
 |fu+1,f,g,ef,eg,s,hf,hg,h0,hs,hs2,hfu=>by
  rw[ep];unfold AA;by_cases hg0:g=[]
  ·subst hg0;obtain⟨d,hd,he⟩:=Ef h.pr h.lt hf h0 eP h.ph (ef:=ef);exact⟨d,z15 h.pr hf h0 hd,th fY (th (qw (bE 0)) (th ez (th (fX he) HE)))⟩
  ·obtain⟨q,r,e,hd,he⟩:=IL h hf hg hg0 hs (ef:=ef) (eg:=eg);have hlr:=hd.lr;obtain⟨d,h1,h2⟩:=IJ h fu g r eg e s hg hd.pr hg0 hs2 eP eP;exact⟨d,h1.step h.pr hd hf hg0,th fY (th (oG (az.2 hg0)) (th fG (th (fX he) h2)))⟩
def ZC(h:PF p φ)(hf:Pq p f)(hg:Pq p g)(h0:f≠[])(hs:f.length<=100000000)(hs2:g.length<=100000000){ef eg:Bool}:∃d,GC p f g d/\xn φ [ni p,tn f ef,tn g eg]=some (tn d true):=by
 have:=h.ph;obtain⟨d,h1,h2⟩:=IJ h φ f g ef eg s0 hf hg h0 hs hs2 eP;refine⟨d,h1,?_⟩;unfold xn;dsimp only[fJ,fV];exact h2
def Vr{z:Nat}{x:Blk}(h:AS z bs X cs n):AS z (bs++[x]) X cs n:=by
 cases h with
 |nil=>exact AS.nil
 |blk hg hc=>exact AS.blk (fW hg) hc
def z24(h:AS 1 bs X (ci l) n)(hn:l.length=n)(hs:n<=1000000000)(hφ:gW φ):∃bs',∀K:fK,eY (iL φ) [X] (mem bs) K=K (tn (tz l) true) (mem bs'):=by
 generalize hc:ci l=cs at h;cases h with
 |nil=>
  have:l=[]:=aZ hn;subst this;exact⟨bs,λK=>fX (wS (ws:=[]) eV (by show 0<φ;omega))⟩
 | @blk k _ _ hg hc'=>
  subst hc;exact⟨bs.set k ⟨ci l,.frz⟩,λK=>OF hg hn hs hφ⟩
def dvN(p:Nat)(f:eZ)(i:Nat):Nat:=(i+1)%p*f.getD (i+1) 0%p
def z1D(h:AS 1 bs X (ci l) n)(hn:n<1000000000):∃bs' X',AS 1 bs' X' (ci (l++[w])) (n+1)/\(∀l b,rx X l->bs[l]?=some b->bs'[l]?=some b/\rx X' l)/\(iO 1 [fB] [(0,1,ni w)] (mem bs) λy s=>mc 1 8 s X y K)=K X' (mem bs'):=by
 obtain⟨bs',X',h1,h2,h3⟩:=ap1 (zero:=[fB]) (x:=ni w) (new:=[ni w]) (bytes:=8) (K:=K) h rfl rfl rfl rfl eP eP;refine⟨bs',X',?_,h2,h3⟩;rw[Ri];exact h1
def Lm(h:PF p φ)(hf:Pq p f)(hs:f.length<=100000000){ef:Bool}:∀(j i fu:Nat)(bs:fQ)(X:D),1+i+j=max 1 f.length->j<fu->AS 1 bs X (ci ((List.range i).map (dvN p f))) i->
 lp jc (nk φ) fu (ni p) (tn f ef) X (ni (i+1)) (mem bs)=some (tn (tz ((List.range (f.length-1)).map (dvN p f))) true)
 |0,i,fu+1,bs,X,hj,hfu,hA=>by
  obtain⟨bs',ht⟩:=z24 hA fU eP h.ph;rw[ep];unfold nk;refine th fY (th (gP eP) (th ez (th (ht _) ?_)));rw[show f.length-1=i by omega];exact HE
 |j+1,i,fu+1,bs,X,hj,hfu,hA=>by
  have hp:=h.pr.pos;have hx:=hf.get hp (i+1);have hlt:=h.lt;have hm0:(i+1)%p<p:=bN _ hp;have hm:(i+1)%p*f.getD (i+1) 0<=p*p:=ay (bq hm0) (bq hx);have hpp:p*p<=1000000000*1000000000:=ay (bq hlt) (bq hlt);obtain⟨bs',X',h1,_,h3⟩:=z1D (w:=dvN p f i) (K:=λx16 s=>f7 (ni (i+1)) ej λx17=>lp jc (nk φ) fu (ni p) (tn f ef) x16 x17 s) hA eP;rw[ep];unfold nk;refine th fY (th (gX eP) (th fG (th (sh eP) (th (rdn eP) (th (xO eP) (th (sh eP) (th h3 (th (gA eP) ?_))))))));refine Lm h hf hs j (i+1) fu bs' X' eP eP ?_;rw[zmu,bG];exact h1
def Nf(p:Nat)(f:eZ):eZ:=tz ((List.range (f.length-1)).map (dvN p f))
def z37(h:PF p φ)(hf:Pq p f)(hs:f.length<=100000000){ef:Bool}:qb φ [ni p,tn f ef]=some (tn (Nf p f) true):=by
 have:=h.ph;unfold qb;dsimp only[fJ,fV];rw[<-fg];exact Lm h hf hs (max 1 f.length-1) 0 φ [] _ eP eP AS.nil
def Px(hp:0<p):Pq p (Nf p f)/\CgZ p (zx (Nf p f)) (zx f).der/\(Nf p f).length<=f.length-1:=by
 refine⟨CE λx hx=>?_,?_,aX Dc fU⟩
 ·obtain⟨k,_,rfl⟩:=dY.1 hx;exact bN _ hp
 ·unfold Nf;rw[Ep];refine y4 λk=>?_;show ∃z:Int,(zx ((List.range (f.length-1)).map (dvN p f))).c k=((k:Int)+1)*(zx f).c (k+1)+p*z;rw[ww,ww];by_cases hk:k<f.length-1
  ·have e:((List.range (f.length-1)).map (dvN p f)).getD k 0=dvN p f k:=by
    rw[aB,af,cf hk];rfl
   rw[e];obtain⟨z,hz⟩:=BH ((k+1)%p*f.getD (k+1) 0) p;obtain⟨w,hw⟩:=BH (k+1) p;refine⟨w*f.getD (k+1) 0+z,?_⟩;unfold dvN;rw[hz,bZ,hw];have:((k+1:Nat):Int)=(k:Int)+1:=eP;rw[this];exact z69
  ·refine⟨0,?_⟩;rw[aB,ai (by simp;omega),aB (l:=f),ai eP];simp
def z38{ef:Bool}:A4 φ [tn f ef,ni i]=some (ni (f.getD i 0)):=by
 unfold A4;dsimp only[fJ,fV];by_cases hi:i<f.length
 ·exact th fY (th (gX hi) (th fG (th (rdn hi) rfl)))
 ·rw[aB,ai eP];exact th fY (th (gP hi) (th ez rfl))
def sbN(p:Nat)(f g:eZ)(k:Nat):Nat:=(f.getD k 0+p-g.getD k 0)%p
def H6(h:PF p φ)(hf:Pq p f)(hg:Pq p g)(hn:n<=100000000){ef eg:Bool}:∀(j i fu:Nat)(bs:fQ),i+j=n->j<fu->bs[0]?=some ⟨ci (vr (sbN p f g) i j),.rw⟩->
 lp iH (wt φ) fu (ni p) (tn f ef) (tn g eg) (.sl 0 0 n n 1 true) (ni n) (ni i) (mem bs)=some (tn (tz ((List.range n).map (sbN p f g))) true)
 |0,i,fu+1,bs,hj,hfu,hb=>by
  have:i=n:=eP;subst this;rw[GT]at hb;rw[ep];unfold wt;exact th (gP eP) (th ez (Cv hb fU eP h.ph))
 |j+1,i,fu+1,bs,hj,hfu,hb=>by
  have h1:=hf.get h.pr.pos i;have h2:=hg.get h.pr.pos i;have hlt:=h.lt;have hp:=h.pr.pos;rw[ep];unfold wt;refine th (gX eP) (th fG (th (fX z38) (th (gA eP) (th (fX z38) (th (iJ eP eP) (th (sh eP) (th (wrn (v:=sbN p f g) hb eP) (th (gA eP) ?_))))))));exact H6 h hf hg hn j (i+1) fu _ eP eP (by rw[aH (fC hb)])
def Bp(p:Nat)(f g:eZ):eZ:=tz ((List.range (max f.length g.length)).map (sbN p f g))
def P8(h:PF p φ)(hf:Pq p f)(hg:Pq p g)(hs:f.length<=100000000)(hs2:g.length<=100000000){ef eg:Bool}:w6 φ [ni p,tn f ef,tn g eg]=some (tn (Bp p f g) true):=by
 have:=h.ph;unfold w6;dsimp only[fJ,fV];rw[<-fg];refine th fY (th fY (th CU (th (mkn eP) (th ou ?_))));exact H6 h hf hg eP (max f.length g.length) 0 φ _ eP eP rfl
def E0(hp:0<p)(hf:Pq p f)(hg:Pq p g):Pq p (Bp p f g)/\CgZ p (zx (Bp p f g)) (zx f-zx g)/\(Bp p f g).length<=max f.length g.length:=by
 refine⟨CE λx hx=>?_,?_,aX Dc fU⟩
 ·obtain⟨k,_,rfl⟩:=dY.1 hx;exact bN _ hp
 ·unfold Bp;rw[Ep];refine y4 λk=>?_;rw[H7,ww,ww,ww];by_cases hk:k<max f.length g.length
  ·have e:((List.range (max f.length g.length)).map (sbN p f g)).getD k 0=sbN p f g k:=by
    rw[aB,af,cf hk];rfl
   have h1:=hg.get hp k;rw[e];obtain⟨z,hz⟩:=BH (f.getD k 0+p-g.getD k 0) p;refine⟨1+z,?_⟩;unfold sbN;rw[hz,Int.mul_add];omega
  ·refine⟨0,?_⟩;rw[aB,ai (by simp;omega),aB (l:=f),ai eP,aB (l:=g),ai eP];simp
def IM(h:PF p φ)(hf:Pq p f)(hg:Pq p g)(hs:f.length<=100000000)(hs2:g.length<=100000000){ef eg:Bool}:∃o,Pq p o/\CgZ p (zx o) (zx f*zx g)/\o.length<=f.length+g.length-1/\nj φ [ni p,tn f ef,tn g eg]=some (tn o true):=by
 have hph:=h.ph;have hL:∀l:eZ,Pq p l->Lo l:=λl hl x hx=>cj (hl.lt x hx) (cj h.lt eV);by_cases hf0:f=[]
 ·subst hf0;exact⟨[],BC,CgZ.of (by rw[uW];exact z69),aJ _,rfl⟩
 ·have hfl:=az.2 hf0;by_cases hg0:g=[]
  ·subst hg0;refine⟨[],BC,CgZ.of (by rw[uW];exact z69),aJ _,?_⟩;unfold nj;dsimp only[fJ,fV];exact th fY (th (mJ eP) (th iX (th iX (th fY (th iX (th (oW rfl) (th ga (th fG rfl))))))))
  ·have hgl:=az.2 hg0;obtain⟨h1,h2,h3⟩:=XK (f:=f) (g:=g) h.pr.pos hfl hgl;exact⟨_,h2,h1,h3,RY h.pr.pos (cj h.lt eV) (hL f hf) (hL g hg) hfl hgl eP eP⟩
def GQ(h:PF p φ)(hf:Pq p f)(hg:Pq p g){md:eZ}(hm:Pq p md)(h0:md≠[])(hs:f.length<=10000000)(hs2:g.length<=10000000){ef eg em:Bool}:∃r e,Pq p r/\r.length<md.length/\lm φ [ni p,tn f ef,tn g eg,tn md em]=some (tn r e):=by
 obtain⟨o,h1,h2,h3,h4⟩:=IM h hf hg eP eP (ef:=ef) (eg:=eg);obtain⟨q,r,e,hd,he⟩:=IL h h1 hm h0 eP (ef:=true) (eg:=em);refine⟨r,e,hd.pr,hd.lr,?_⟩;unfold lm;dsimp only[fJ,fV];exact th (fX h4) (th (fX he) HE)
def X5{u:List UInt8}(h:str X=some u):kS (.lens (.c X)) s K=K (.i .i64 (.ofNat u.length)) s:=by
 have he:evA s.nx cv s.get (.lens (.c X))=some (.i .i64 u.length,[]):=by
  show(match str X with|some l=>some (D.i .i64 l.length,[])|none=>none)=_;rw[h]
 unfold kS sA;rw[he];show wR _ _=_;rw[mq];rfl
def LG{u:List UInt8}{e:UInt8}(h:str X=some u)(hi:u[i]?=some e):kS (.index (.c X) (.c (.i kk (.ofNat i)))) s K=K (.i .u8 (.ofNat e.toNat)) s:=by
 have he:evA s.nx cv s.get (.index (.c X) (.c (.i kk (.ofNat i))))=some (.i .u8 e.toNat,[]):=by
  show(match D.i kk (Int.ofNat i),str X with
   |.i _ n,some l=>(if(0:Int)<=n then match l.drop n.toNat with
    |c::_=>some (D.i .u8 c.toNat,([]:fQ))
    |[]=>none
   else none)
   |_,_=>none)=_
  rw[h];show(if(0:Int)<=Int.ofNat i then match u.drop i with|c::_=>some (D.i .u8 c.toNat,([]:fQ))|[]=>none else none)=_;rw[aF (by simp only[ag];omega),pS hi]
 unfold kS sA;rw[he];show wR _ _=_;rw[mq];rfl
def OQ{v b:Nat}{k:D->Rs}(hv:v<256):(pP (.i .u8 (.ofNat v)) (.i .i64 (.ofNat b)) λx42=>vY x42 (.i .u8 (.ofNat 1)) λx43=>iR x43 (.i .u8 (.ofNat 1)) k)=k (.b (Nat.beq ((v/2^(A9 b 8))&&&1) 1)):=by
 show(frc (Nat.div v (Nat.pow 2 (A9 b (LA .u8)))) λn=>vY (.i .u8 (.ofNat n)) (.i .u8 (.ofNat 1)) λx43=>iR x43 (.i .u8 (.ofNat 1)) k)=_;rw[fj];have hle:v/2^(A9 b 8)<=255:=by have:=dX v (2^(A9 b 8));omega
 show vY (.i .u8 (.ofNat (v/2^(A9 b 8)))) _ _=_;unfold vY;rw[qT];unfold inK;rw[aD (show v/2^A9 b 8<=i9 .u8 from hle),fH,aD (show 1<=i9 .u8 by decide),fH,fj];exact qG
def TS(h:PF p φ){md xs:eZ}{u:List UInt8}{e:UInt8}{em ex:Bool}(hm:Pq p md)(h0:md≠[])(hms:md.length<=1000000)(hx:Pq p xs)(hxl:xs.length<md.length)(hX:str X=some u)(hi:u[i]?=some e)(hi2:i<1000){L:D}{q9:ov}:∀(b fu:Nat)(out:eZ)(eo:Bool),b<=8->b<fu->Pq p out->out.length<md.length->
 ∃z77 eo',Pq p z77/\z77.length<md.length/\lp tR (kL φ q9) fu (ni p) X (tn md em) (tn out eo) (tn xs ex) (ni i) (zd ((b:Int)-1)) L (ni i) s=q9 (ni p) X (tn md em) (tn z77 eo') (tn xs ex) L (ni (i+1)) s
 |0,fu+1,out,eo,hb,hfu,ho,hol=>by
  refine⟨out,eo,ho,hol,?_⟩;rw[ep];unfold kL;exact th (GI (b:=0)) (th ez (gA eP))
 |b+1,fu+1,out,eo,hb,hfu,ho,hol=>by
  obtain⟨r1,e1,a1,a2,a3⟩:=GQ h ho ho hm h0 eP eP (ef:=eo) (eg:=eo) (em:=em);obtain⟨r2,e2,b1,b2,b3⟩:=GQ h a1 hx hm h0 eP eP (ef:=e1) (eg:=ex) (em:=em);have hbz:(((b+1:Nat):Int)-1)=(b:Int):=eP;have hst:∀(w:eZ)(ew:Bool),Pq p w->w.length<md.length->∃z77 eo',Pq p z77/\z77.length<md.length/\(fe (zd (b:Int)) ej λx39=>lp tR (kL φ q9) fu (ni p) X (tn md em) (tn w ew) (tn xs ex) (ni i) x39 L (ni i) s)=q9 (ni p) X (tn md em) (tn z77 eo') (tn xs ex) L (ni (i+1)) s:=λw ew g1 g2=>by
   obtain⟨o',e',c1,c2,c3⟩:=TS h hm h0 hms hx hxl hX hi hi2 b fu w ew eP eP g1 g2;refine⟨o',e',c1,c2,th (DT (b:=1) ?_ ?_) c3⟩
   ·unfold IZ;omega
   ·unfold IZ;omega
  have z9h:∀P:Option D->Prop,P (eY (lm φ) [ni p,tn out eo,tn out eo,tn md em] s λx40 s=>kS (.index (.c X) (.c (ni i))) s λx41 s=>pP x41 (zd (b:Int)) λx42=>vY x42 (.i .u8 (.ofNat 1)) λx43=>iR x43 (.i .u8 (.ofNat 1)) λx44=>fE x44 (eY (lm φ) [ni p,x40,tn xs ex,tn md em] s λx45 s=>fe (zd (b:Int)) ej λx39=>lp tR (kL φ q9) fu (ni p) X (tn md em) x45 (tn xs ex) (ni i) x39 L (ni i) s) (fe (zd (b:Int)) ej λx39=>lp tR (kL φ q9) fu (ni p) X (tn md em) x40 (tn xs ex) (ni i) x39 L (ni i) s))->P (lp tR (kL φ q9) (fu+1) (ni p) X (tn md em) (tn out eo) (tn xs ex) (ni i) (zd (((b+1:Nat):Int)-1)) L (ni i) s):=λP hP=>by
   rw[ep,hbz];unfold kL;have:=(uS (a:=b) (b:=0) (aJ b) (kk:=.i64) (k:=λx=>fE x (eY (lm φ) [ni p,tn out eo,tn out eo,tn md em] s λx40 s=>kS (.index (.c X) (.c (ni i))) s λx41 s=>pP x41 (zd (b:Int)) λx42=>vY x42 (.i .u8 (.ofNat 1)) λx43=>iR x43 (.i .u8 (.ofNat 1)) λx44=>fE x44 (eY (lm φ) [ni p,x40,tn xs ex,tn md em] s λx45 s=>fe (zd (b:Int)) ej λx39=>lp tR (kL φ q9) fu (ni p) X (tn md em) x45 (tn xs ex) (ni i) x39 L (ni i) s) (fe (zd (b:Int)) ej λx39=>lp tR (kL φ q9) fu (ni p) X (tn md em) x40 (tn xs ex) (ni i) x39 L (ni i) s)) (f7 (ni i) ej λx46=>q9 (ni p) X (tn md em) (tn out eo) (tn xs ex) L x46 s)))
   exact this▸hP
  have hv:e.toNat<256:=e.toNat_lt;refine z9h (λo=>∃z77 eo',Pq p z77/\z77.length<md.length/\o=q9 (ni p) X (tn md em) (tn z77 eo') (tn xs ex) L (ni (i+1)) s) ?_;cases za6:Nat.beq ((e.toNat/2^(A9 b 8))&&&1) 1 with
  |true=>
   obtain⟨o',e',c1,c2,c3⟩:=hst r2 e2 b1 b2;refine⟨o',e',c1,c2,th (fX a3) (th (LG hX hi) (th (OQ hv) ?_))⟩;rw[za6];exact th fG (th (fX b3) c3)
  |false=>
   obtain⟨o',e',c1,c2,c3⟩:=hst r1 e1 a1 a2;refine⟨o',e',c1,c2,th (fX a3) (th (LG hX hi) (th (OQ hv) ?_))⟩;rw[za6];exact th ez c3
end
section
variable {bs:fQ} {l f g q r:eZ} {b:Blk} {i k n c a p w:Nat} {ex:Bool} {s:LS} {K:fK} {φ:Nat} {z x y:Int} {d X:D} {cs:fN}
def TQ(h:PF p φ){md xs:eZ}{u:List UInt8}{em ex:Bool}(hm:Pq p md)(h0:md≠[])(hms:md.length<=1000000)(hx:Pq p xs)(hxl:xs.length<md.length)(hX:str X=some u)(hu:u.length<1000):∀(j i fu:Nat)(out:eZ)(eo:Bool),i+j=u.length->j<fu->Pq p out->out.length<md.length->
 ∃z77 eo',Pq p z77/\z77.length<md.length/\lp lK (rU φ) fu (ni p) X (tn md em) (tn out eo) (tn xs ex) (ni u.length) (ni i) s=some (tn z77 eo')
 |0,i,fu+1,out,eo,hj,hfu,ho,hol=>by
  refine⟨out,eo,ho,hol,?_⟩;rw[ep];unfold rU;exact th (gP eP) (th ez HE)
 |j+1,i,fu+1,out,eo,hj,hfu,ho,hol=>by
  have hph:=h.ph;have hi:i<u.length:=eP;obtain⟨o1,e1,a1,a2,a3⟩:=TS h (s:=s) (i:=i) (em:=em) (ex:=ex) (L:=ni u.length) (q9:=lp lK (rU φ) fu) hm h0 hms hx hxl hX (aE hi) eP 8 φ out eo (aC _) eP ho hol;obtain⟨o2,e2,b1,b2,b3⟩:=TQ h hm h0 hms hx hxl hX hu j (i+1) fu o1 e1 eP eP a1 a2;refine⟨o2,e2,b1,b2,?_⟩;rw[ep];unfold rU;exact th (gX hi) (th fG (th a3 b3))
def PO{eg:Bool}(hb:bs[k]?=some ⟨ci l,.rw⟩)(hn:l.length=n):∃e,∀(M:fP)(r:eZ)(er:Bool)(K:fK),M [ni p,tn l e,tn g eg]=some (tn r er)->eY M [ni p,.sl k 0 n c 1 ex,tn g eg] (mem bs) K=K (tn r er) (mem (bs.set k ⟨ci l,.frz⟩)):=by
 subst hn;obtain⟨e,he⟩:=By (s:=mem bs) (l:=k) (len:=l.length) (cm:=c) (n:=58) (ex:=ex) (b:=⟨ci l,.rw⟩) (by rw[mK];exact hb) rfl (ur l) (by show l.length<=(ci l).length;rw[j0];omega);refine⟨e,λM r er K hM=>?_⟩;show(jX (mem bs) 60 (.sl k 0 l.length c 1 ex) λy a=>pk a [] λab=>ob (M [ni p,y,tn g eg]) λr=>nD (mem bs) ab r K)=_;rw[he,jt,show List.take l.length (Blk.cs ⟨ci l,.rw⟩)=ci l from aP (by rw[j0];omega)];have hM:M [ni p,.tree (ci l) l.length e,tn g eg]=some (tn r er):=hM;rw[hM,jY];show(iq (mem bs) k λb=>oh (mem bs) k ⟨b.cs,fzS b.st⟩ λs=>K (tn r er) s)=_;rw[gV hb,mD (fC hb)];rfl
def Gi:iO 1 [fB] [(0,1,ni w)] (mem bs) K=K (.sl bs.length 0 1 1 1 true) (mem (bs++[⟨ci [w],.rw⟩])):=B4 (zero:=[fB]) (x:=ni w) (new:=[ni w]) rfl rfl rfl rfl
def YX{v:Nat}:iO 2 [fB] [(0,1,ni v),(1,1,ni w)] (mem bs) K=K (.sl bs.length 0 2 2 1 true) (mem (bs++[⟨ci [v,w],.rw⟩])):=by
 show(lh (mem bs) ⟨ci [v,w],.rw⟩ λs'=>K (.sl (mem bs).nx 0 2 2 1 true) s')=_;rw[kI,mP]
def CG(hp:Pr p):Pq p [1]:=⟨λx hx=>by have:=hp.two;simp at hx;omega,λd hd=>by
 have:d=0:=by simpa using hd.symm
 subst this;decide⟩
def TU(hp:Pr p):Pq p [0,1]:=⟨λx hx=>by
 have:=hp.two;rcases bh.1 hx with h|h
 ·omega
 ·simp at h;omega,λd hd=>by
 have:d=1:=by simpa using hd.symm
 subst this;decide⟩
def Ud(h:PF p φ){md:eZ}{u:List UInt8}{em:Bool}(hf:Pq p f)(hs:f.length<=1000000)(hm:Pq p md)(h0:md≠[])(hms:md.length<=1000000)(hX:str X=some u)(hu:u.length<1000){ef:Bool}:
 ∃out e,Pq p out/\out.length<md.length/\tU φ [ni p,tn f ef,X,tn md em]=some (tn out e):=by
 have hph:=h.ph;obtain⟨e1,he1⟩:=PO (bs:=[⟨ci [1],.rw⟩]) (k:=0) (l:=[1]) (n:=1) (c:=1) (ex:=true) (p:=p) (g:=md) (eg:=em) rfl rfl;obtain⟨q1,r1,e2,d1,g1⟩:=IL h (CG h.pr) hm h0 eV (ef:=e1) (eg:=em);obtain⟨q2,r2,e3,d2,g2⟩:=IL h hf hm h0 eP (ef:=ef) (eg:=em);obtain⟨o,eo,a1,a2,a3⟩:=TQ h (s:=mem [⟨ci [1],.frz⟩]) (em:=em) (ex:=e3) hm h0 hms d2.pr d2.lr hX hu u.length 0 φ r1 e2 eP eP d1.pr d1.lr;refine⟨o,eo,a1,a2,?_⟩;unfold tU;dsimp only[fJ,fV];rw[<-fg];refine th Gi (th (he1 _ _ _ _ g1) (th (fX g2) (th (X5 hX) a3)))
def z25{v:Nat}:kV .u8 (ni v) s K=K (.i .u8 (.ofNat (v%256))) s:=by
 show mkI .u8 v (λd=>K d s) _=_;unfold mkI;by_cases h:v<=255
 ·rw[aD (show v<=i9 .u8 from h),fH,fj,am eP]
 ·rw[il (show ¬v<=i9 .u8 from h),fq];show(frc (Nat.mod v 256) λn=>K (.i .u8 (.ofNat n)) s)=_;rw[fj];rfl
def z1A{v:Nat}:iO 2 [.i .u8 (.ofNat 0)] [(0,1,.i .u8 (.ofNat v)),(1,1,.i .u8 (.ofNat w))] (mem bs) K=K (.sl bs.length 0 2 2 1 true) (mem (bs++[⟨[.i .u8 (.ofNat v),.i .u8 (.ofNat w)],.rw⟩])):=by
 show(lh (mem bs) ⟨[.i .u8 (.ofNat v),.i .u8 (.ofNat w)],.rw⟩ λs'=>K (.sl (mem bs).nx 0 2 2 1 true) s')=_;rw[kI,mP]
def z3s{v:Nat}(hb:bs[k]?=some ⟨[.i .u8 (.ofNat v),.i .u8 (.ofNat w)],.rw⟩):∃X u,str X=some u/\u.length<1000/\(X=.s u\/∃n,X=.n n)/\∀K:fK,kS (.b2s (.c (.sl k 0 2 2 1 true))) (mem bs) K=K X (mem bs):=by
 let u:List UInt8:=[UInt8.ofNat v,UInt8.ofNat w]
 have hk:∀K:fK,kS (.b2s (.c (.sl k 0 2 2 1 true))) (mem bs) K=K (Io u) (mem bs):=λK=>by
  have he:evA (mem bs).nx cv (mem bs).get (.b2s (.c (.sl k 0 2 2 1 true)))=some (Io u,[]):=by
   have hc:kw (mem bs).get 1 (.sl k 0 2 2 1 true)=some [.i .u8 (.ofNat v),.i .u8 (.ofNat w)]:=by
    show(match (mem bs).get k with
     |some b=>if(!b.st.live)=true then none else if 1=1 then cut 0 (2*1) b.cs else none
     |none=>none)=_
    rw[mK,hb];rfl
   show(match kw (mem bs).get 1 (.sl k 0 2 2 1 true)with
    |some cs=>match y6 cs with
     |some l=>some (Io l,([]:fQ))
     |none=>none
    |none=>none)=_
   rw[hc];rfl
  unfold kS sA;rw[he];show wR _ _=_;rw[mq]
 by_cases h0:(UInt8.ofNat v).toNat=0
 ·have e:Io u=.s u:=by
   show cond (Nat.beq (UInt8.ofNat v).toNat 0) (D.s u) (D.n (fa u 0))=_;rw[h0];rfl
  rw[e]at hk;exact⟨.s u,u,rfl,(by show 2<1000;decide),Or.inl rfl,hk⟩
 ·have e:Io u=.n (fa u 0):=by
   show cond (Nat.beq (UInt8.ofNat v).toNat 0) (D.s u) (D.n (fa u 0))=_;rw[ik h0];rfl
  rw[e]at hk;refine⟨.n (fa u 0),fy (fa u 0),rfl,?_,Or.inr ⟨_,rfl⟩,hk⟩;have h1:=CQ u;rw[show u.length=2 from rfl]at h1;rcases bT (fa u 0)with h2|h2
  ·rw[h2,Al];decide
  ·have h3:=(vJ h2).1;rcases aY (fy (fa u 0)).length 1000 with h4|h4
   ·exact h4
   ·exfalso;have h5:256^2<=256^((fy (fa u 0)).length-1):=cM eV eP;omega
def Xw(h:PF p φ){md:eZ}{em:Bool}(hf:Pq p f)(hs:f.length<=1000000)(hm:Pq p md)(h0:md≠[])(hms:md.length<=1000000){ef:Bool}:
 ∃out e,Pq p out/\out.length<md.length/\ul φ [ni p,tn f ef,tn md em]=some (tn out e):=by
 obtain⟨X,u,h1,h2,h4,h5⟩:=z3s (bs:=[⟨[.i .u8 (.ofNat (p/256%256)),.i .u8 (.ofNat (p%256))],.rw⟩]) (k:=0) (v:=p/256%256) (w:=p%256) rfl;obtain⟨o,e,a1,a2,a3⟩:=Ud h hf hs hm h0 hms h1 h2 (ef:=ef) (em:=em);refine⟨o,e,a1,a2,?_⟩;unfold ul;dsimp only[fJ,fV];rw[<-fg];have hsh:∀k:D->Rs,pP (ni p) (.i .u64 (.ofNat 8)) k=k (ni (p/256)):=λk=>by
  show(frc (Nat.div p (Nat.pow 2 (A9 8 (LA .i64)))) λn=>k (.i .i64 (.ofNat n)))=_;rw[fj];rfl
 refine th (hsh _) (th z25 (th z25 (th z1A (th (h5 _) ?_))));have hi:eY (tU φ) [ni p,tn f ef,X,tn md em] (mem [⟨[.i .u8 (.ofNat (p/256%256)),.i .u8 (.ofNat (p%256))],.rw⟩]) (λx9 s=>fO false s x9 some)=some (tn o e):=by
  rcases h4 with rfl|⟨n,rfl⟩
  ·exact th (fX a3) HE
  ·exact th (fX a3) HE
 exact hi
def rx1(s t u v q F G:ZX):(s*F+u*G)-q*(t*F+v*G)=(s-q*t)*F+(u-q*v)*G:=z69
def XB(p:Nat)(f g a s:eZ):Prop:=∃u,Po u/\CgZ p (zx a) (zx s*zx f+u*zx g)
def SK(h:PF p φ)(hf:Pq p f)(hg:Pq p g)(hg0:g≠[])(hfs:f.length<=1000000)(hgs:g.length<=1000000){a sa:eZ}(ha:Pq p a)(hsa:Pq p sa)(ha0:a≠[])(hsl:sa.length<=10000000)(hx:XB p f g a sa)(hbz:∃S,Po S/\CgZ p (S*zx a) 1){ef eg ea es:Bool}{b t:D}(hb:∀s K,fT b s K=K (ni 0) s):
 ∃d sr u e2 e3,Pq p sr/\Pq p u/\sr.length+1<=g.length/\u.length<=f.length+g.length/\CgZ p (zx sr*zx f+zx u*zx g) 1/\∀(fu:Nat)(st:LS),lp lK (nO φ) (fu+1) (ni p) (tn f ef) (tn g eg) (tn a ea) b (tn sa es) t st=some (.tup [tn d true,tn sr e2,tn u e3]):=by
 have hph:=h.ph;have hal:=az.2 ha0;have hgl:=az.2 hg0;obtain⟨iv,i1,i2,i3⟩:=P9 h.pr h.lt (ha.lead ha0) (ha.get h.pr.pos (a.length-1)) hph;have zfl:a.length=1:=by
  obtain⟨g3,g4⟩:=M4 h.pr ha ha0 i2;obtain⟨_,g2⟩:=Ir (f:=a) (c:=iv) h.pr.pos;obtain⟨S,hS,hS2⟩:=hbz;obtain⟨d,hd1,hd2⟩:=g3.ex;have hdn:∃c:Int,CgZ p (zx a) (ZX.C c*zx (scN p iv a)):=by
   refine⟨a.getD (a.length-1) 0,?_⟩;refine(CgZ.tr (CgZ.ml CgZ.rfl' g2) ?_).sy;obtain⟨z,hz⟩:=BH (a.getD (a.length-1) 0*iv) p;rw[i2,am h.pr.two]at hz;generalize a.getD (a.length-1) 0=t at*;refine⟨-(ZX.C z*zx a),?_⟩;have hC:ZX.C (t:Nat)*ZX.C (iv:Nat)=1-ZX.C p*ZX.C z:=by
    rw[<-sB,<-sB];have e:(t:Int)*iv=1-p*z:=by rw[bZ]at hz;omega
    rw[e];refine ZX.ext' λk=>?_;cases k with
    |zero=>rfl
    |succ k=>rfl
   have:ZX.C (t:Nat)*(ZX.C (iv:Nat)*zx a)=(ZX.C (t:Nat)*ZX.C (iv:Nat))*zx a:=z69;rw[this,hC];exact z69
  obtain⟨c,hc⟩:=hdn;have:=Vj (p:=p) (g3.monz hd1) h.pr.one ⟨S*ZX.C c,hS.mul (Po.C c),by
   refine CgZ.tr (CgZ.of (z69:zx (scN p iv a)*(S*ZX.C c)=S*(ZX.C c*zx (scN p iv a)))) ((CgZ.ml CgZ.rfl' hc.sy).tr hS2)⟩
  omega
 have hd1:scN p iv a=[1]:=by
  obtain⟨g3,g4⟩:=M4 h.pr ha ha0 i2;rw[zfl]at g4;obtain⟨hn,ht⟩:=g3;rw[g4]at ht
  match hq:scN p iv a,g4 with
  |[c],_=>rw[hq]at ht;simpa using ht
 obtain⟨s1,s2⟩:=Ir (f:=sa) (c:=iv) h.pr.pos;have s3:(scN p iv sa).length<=10000000:=aX Wf hsl;have m1:=CG h.pr;obtain⟨q1,r1,e1,e2,d1,g1⟩:=xZ h.pr h.lt hg m1 fU eP hph (ef:=eg) (eg:=true);have hq1:q1.length=g.length:=by have:=d1.lq (by show 1<=g.length;omega);simp at this;omega
 have zeG:q1≠[]:=λe=>by rw[e]at hq1;simp at hq1;omega
 have hr1:r1=[]:=aZ (by have:=d1.lr;simp at this;simpa using this);have hqg:CgZ p (zx g) (zx q1):=d1.eq.tr (CgZ.of (by rw[hr1,uW,Aq];exact z69));obtain⟨q2,sr,e3,d2,g2⟩:=IL h s1 d1.pq zeG eP (ef:=true) (eg:=e1);have hsr:=d2.lr;obtain⟨o3,o1,o2,o4,g3⟩:=IM h d2.pr hf eP eP (ef:=e3) (eg:=ef);obtain⟨u1,u2,u3⟩:=E0 (f:=[1]) (g:=o3) h.pr.pos m1 o1;have g4:=P8 h m1 o1 eV eP (ef:=true) (eg:=true);have u3:(Bp p [1] o3).length<=max 1 o3.length:=u3;have hul:(Bp p [1] o3).length<=2000000:=eP;obtain⟨q5,r5,e5,e6,d5,g5⟩:=xZ h.pr h.lt u1 hg hg0 eP hph (ef:=true) (eg:=eg);have hex:∃w,Po w/\CgZ p (zx (Bp p [1] o3)) (w*zx g):=by
  obtain⟨u,hu,hxu⟩:=hx;obtain⟨_,s2a⟩:=Ir (f:=a) (c:=iv) h.pr.pos;rw[hd1,Aq]at s2a;refine⟨ZX.C iv*u+zx q2*zx f,((Po.C _).mul hu).add (Po.zx.mul Po.zx),?_⟩;refine u2.tr ((CgZ.sb (CgZ.of Aq) o2).tr ?_);have e1:CgZ p (zx sr) (ZX.C iv*zx sa-zx q2*zx g):=by
   have e2:=CgZ.sb (s2.sy.tr d2.eq) (CgZ.rfl' (x:=zx q2*zx q1));refine CgZ.tr (CgZ.of ?_) (e2.sy.tr (CgZ.sb CgZ.rfl' (CgZ.ml CgZ.rfl' hqg.sy)));clear e2;exact z69
  have e3:CgZ p 1 (ZX.C iv*(zx sa*zx f+u*zx g)):=s2a.tr (CgZ.ml CgZ.rfl' hxu);refine(CgZ.sb e3 (CgZ.ml e1 CgZ.rfl')).tr (CgZ.of ?_);clear e1 e3 s2a hxu;exact z69
 have hr5:CgZ p (zx (Bp p [1] o3)) (zx q5*zx g):=by
  obtain⟨mg,hmg,_⟩:=Ef h.pr h.lt hg hg0 eP hph (ef:=true);obtain⟨w,hw1,hw2⟩:=hex;obtain⟨c,hc⟩:=hmg.dn;have hz:r5=[]:=by
   have hrm:CgZ p (zx r5) (zx mg*(ZX.C c*(w-zx q5))):=by
    refine CgZ.tr (y:=(w-zx q5)*zx g) ?_ ?_
    ·refine CgZ.tr (CgZ.of (z69:zx r5=(zx q5*zx g+zx r5)-zx q5*zx g)) ((CgZ.sb (d5.eq.sy.tr hw2) CgZ.rfl').tr (CgZ.of ?_));clear hw2 hc;exact z69
    ·refine(CgZ.ml CgZ.rfl' hc).tr (CgZ.of ?_);clear hw2 hc;exact z69
   rcases zmL r5 with e|⟨l',a',e⟩
   ·exact e
   ·exfalso;have hne:r5≠[]:=by rw[e];simp
    obtain⟨N,hN⟩:=(Po.C c).mul (hw1.sub (Po.zx (l:=q5)));have:=Yw hmg.mo d5.pr hne hN hrm h.pr;have:=d5.lr;have:=hmg.ln;omega
  refine d5.eq.tr (CgZ.of ?_);rw[hz,uW];exact z69
 have hql:q5.length<=f.length+g.length:=by
  rcases aY (Bp p [1] o3).length g.length with hlt|hge
  ·rw[d5.lo hlt];exact aJ _
  ·rw[d5.lq hge];omega
 refine⟨[1],sr,q5,e3,e5,d2.pr,d5.pq,eP,hql,?_,λfu st=>?_⟩
 ·refine(CgZ.ad CgZ.rfl' (hr5.sy.tr u2)).tr ?_;refine(CgZ.ad CgZ.rfl' (CgZ.sb (CgZ.of Aq) o2)).tr (CgZ.of ?_);clear hr5 u2 o2;exact z69
 ·rw[ep];unfold nO;have hsc:=J8 h.pr.pos h.lt ha.lt i1 eP hph (ef:=ea);rw[hd1]at hsc;have zey:=J8 h.pr.pos h.lt hsa.lt i1 eP hph (ef:=es);refine th (hb _ _) (th (qw (bE 0)) (th ez (th fY (th (iJ eP eP) (th (rdn eP) (th (fX i3) (th (fX hsc) (th (fX g1) (th iG (th iF ?_))))))))));refine th (fX zey) (th (fX g2) (th (fX g3) (th (fX g4) (th (fX g5) (th iG (th iF ?_))))));unfold fO;rw[lJ];show sk _ some=_;rw[gc];rfl
end
section
variable {bs:fQ} {l f g q r:eZ} {b:Blk} {k n c a p:Nat} {ex:Bool} {φ:Nat} {d:D}
def XB.step{a b sa t q r t':eZ}(ha:XB p f g a sa)(hb:XB p f g b t)(hd:DM p a b q r)(ht:CgZ p (zx t') (zx sa-zx q*zx t)):XB p f g r t':=by
 obtain⟨u,hu,h1⟩:=ha;obtain⟨v,hv,h2⟩:=hb;refine⟨u-zx q*v,hu.sub (Po.zx.mul hv),?_⟩;have e1:CgZ p (zx r) (zx a-zx q*zx b):=by
  refine CgZ.tr (CgZ.of (z69:zx r=(zx q*zx b+zx r)-zx q*zx b)) (CgZ.sb hd.eq.sy CgZ.rfl')
 refine e1.tr ((CgZ.sb h1 (CgZ.ml CgZ.rfl' h2)).tr ?_);rw[rx1];exact CgZ.ad (CgZ.ml ht.sy CgZ.rfl') CgZ.rfl'
def HP(h:PF p φ)(hf:Pq p f)(hg:Pq p g)(hg0:g≠[])(hfs:f.length<=1000000)(hgs:g.length<=1000000){ef eg:Bool}:∀(fu:Nat)(a b sa t:eZ)(ea eb es et:Bool)(st:LS),Pq p a->Pq p b->Pq p sa->Pq p t->a≠[]->a.length<=1000000->b.length<fu->b.length<=1000000->t.length+a.length<=f.length+g.length+1->sa.length+b.length<=f.length+g.length+1->XB p f g a sa->XB p f g b t->Bez p (zx a) (zx b)->
 ∃d sr u e2 e3,Pq p sr/\Pq p u/\sr.length+1<=g.length/\u.length<=f.length+g.length/\CgZ p (zx sr*zx f+zx u*zx g) 1/\lp lK (nO φ) fu (ni p) (tn f ef) (tn g eg) (tn a ea) (tn b eb) (tn sa es) (tn t et) st=some (.tup [tn d true,tn sr e2,tn u e3])
 |fu+1,a,b,sa,t,ea,eb,es,et,st,pa,pb,ps,pt,ha0,hal,hfu,hbl,hN1,hN2,xa,xb,hbz=>by
  by_cases hb0:b=[]
  ·subst hb0;obtain⟨S,T,hS,hT,hST⟩:=hbz;obtain⟨d,sr,u,e2,e3,h1,h2,h3,h4,h5,h6⟩:=SK h hf hg hg0 hfs hgs pa ps ha0 eP xa ⟨S,hS,by
    refine CgZ.tr (CgZ.of ?_) hST;rw[uW];clear hST;exact z69⟩ (ef:=ef) (eg:=eg) (ea:=ea) (es:=es) (b:=tn [] eb) (t:=tn t et) (λ_ _=>fY)
   exact⟨d,sr,u,e2,e3,h1,h2,h3,h4,h5,h6 fu st⟩
  ·have hb1:=az.2 hb0;obtain⟨q,r,e1,e2,hd,he⟩:=xZ h.pr h.lt pa pb hb0 eP h.ph (ef:=ea) (eg:=eb);have hrf:=hd.rf;have hlr:=hd.lr;have hql:q.length+b.length<=a.length+1\/q=[]:=by
    rcases aY a.length b.length with h1|h1
    ·exact Or.inr (hd.lo h1)
    ·exact Or.inl (by rw[hd.lq h1];omega)
   have zeE:q.length<=1000000:=by
    rcases hql with h1|h1
    ·omega
    ·rw[h1];exact aJ _
   obtain⟨o,o1,o2,o3,he2⟩:=IM h hd.pq pt eP eP (ef:=e1) (eg:=et);obtain⟨v1,v2,v3⟩:=E0 (f:=sa) (g:=o) h.pr.pos ps o1;have hol:o.length<=q.length+t.length-1/\(q=[]->o.length<=t.length-1):=⟨o3,λe=>by rw[e]at o3;simpa using o3⟩
   have he3:=P8 h ps o1 eP eP (ef:=es) (eg:=true);have hx:=xa.step xb hd (v2.tr (CgZ.sb CgZ.rfl' o2));have zbc:=hbz.step (q:=zx q) (r:=zx r) Po.zx hd.eq;have hq0:q=[]->o.length=0:=λe=>by
    have:=fpMul_nil (p:=p) (φ:=φ) (e1:=e1) (et:=et) (t:=t);rw[e]at he2;rw[this]at he2;injection he2 with h1;injection h1 with h1 h2 h3;exact h2.symm
   have hmx:(Bp p sa o).length+b.length<=f.length+g.length+1:=by
    rcases hql with h1|h1
    ·omega
    ·have h8:=hq0 h1;rw[h8]at v3;have h9:(Bp p sa o).length<=sa.length:=by simpa using v3
     omega
   obtain⟨d,sr,u,x2,x3,h1,h2,h3,h4,h5,h6⟩:=HP h hf hg hg0 hfs hgs fu b r t (Bp p sa o) eb e2 et true st pb hd.pr pt v1 hb0 hbl eP eP hmx eP xb hx zbc;refine⟨d,sr,u,x2,x3,h1,h2,h3,h4,h5,?_⟩;rw[ep];unfold nO;exact th fY (th (oG hb1) (th fG (th (fX he) (th iG (th iF (th (fX he2) (th (fX he3) h6)))))))
where fpMul_nil {p φ:Nat} {e1 et:Bool} {t:eZ}:nj φ [ni p,tn [] e1,tn t et]=some (tn [] true):=rfl
def MQ(h:PF p φ)(hf:Pq p f)(hg:Pq p g)(hf0:f≠[])(hg0:g≠[])(hfs:f.length<=1000000)(hgs:g.length<=1000000)(hbz:Bez p (zx f) (zx g)){ef eg:Bool}(hb:bs[k]?=some ⟨ci [1],.rw⟩):
 ∃d sr u e2 e3,Pq p sr/\Pq p u/\sr.length+1<=g.length/\u.length<=f.length+g.length/\CgZ p (zx sr*zx f+zx u*zx g) 1/\lp lK (nO φ) φ (ni p) (tn f ef) (tn g eg) (tn f ef) (tn g eg) (.sl k 0 1 1 1 true) (tn [] true) (mem bs)=some (.tup [tn d true,tn sr e2,tn u e3]):=by
 have hph:=h.ph;have hg1:=az.2 hg0;have m1:=CG h.pr;obtain⟨q,r,e1,e2,hd,he⟩:=xZ h.pr h.lt hf hg hg0 eP h.ph (ef:=ef) (eg:=eg);have hrf:=hd.rf;have hlr:=hd.lr;have zeE:q.length<=1000000:=by
  rcases aY f.length g.length with h1|h1
  ·rw[hd.lo h1];exact aJ _
  ·rw[hd.lq h1];omega
 obtain⟨o,o1,o2,o3,he2⟩:=IM h hd.pq (BC (p:=p)) eP fU (ef:=e1) (eg:=true);have ho0:o=[]:=by
  have h7:nj φ [ni p,tn q e1,tn [] true]=some (tn [] true):=by
   by_cases hq:q=[]
   ·subst hq;rfl
   ·unfold nj;dsimp only[fJ,fV];have:=az.2 hq;exact th fY (th (mJ eP) (th iX (th iX (th fY (th iX (th (oW rfl) (th ga (th fG rfl))))))))
  rw[h7]at he2;injection he2 with h1;injection h1 with h1 h2 h3;exact aZ h2.symm
 subst ho0;obtain⟨v1,v2,v3⟩:=E0 (f:=[1]) (g:=[]) h.pr.pos m1 BC;obtain⟨e4,he4⟩:=PO (bs:=bs) (k:=k) (l:=[1]) (n:=1) (c:=1) (ex:=true) (p:=p) (g:=[]) (eg:=true) hb rfl;have he3:=P8 h m1 (BC (p:=p)) eV fU (ef:=e4) (eg:=true);have xa:XB p f g f [1]:=⟨0,Po.zero,CgZ.of (by rw[Aq];exact z69)⟩
 have xb:XB p f g g []:=⟨1,Po.one,CgZ.of (by rw[uW];exact z69)⟩
 have hx:=xa.step xb hd (v2.tr (CgZ.sb CgZ.rfl' o2));have zbc:=hbz.step (q:=zx q) (r:=zx r) Po.zx hd.eq;have hf1:=az.2 hf0;obtain⟨d,sr,u,x2,x3,h1,h2,h3,h4,h5,h6⟩:=HP h hf hg hg0 hfs hgs (φ-1) g r [] (Bp p [1] []) eg e2 true true (mem (bs.set k ⟨ci [1],.frz⟩)) hg hd.pr BC v1 hg0 hgs eP eP (by simp at v3;omega) (by simp;omega) xb hx zbc (ef:=ef) (eg:=eg);refine⟨d,sr,u,x2,x3,h1,h2,h3,h4,h5,?_⟩;obtain⟨ψ,hψ⟩:∃ψ,φ=ψ+1:=⟨φ-1,eP⟩
 rw[show φ-1=ψ by omega]at h6;have e0:lp lK (nO φ) φ=lp lK (nO φ) (ψ+1):=by rw[<-hψ]
 rw[e0,ep];unfold nO;exact th fY (th (oG hg1) (th fG (th (fX he) (th iG (th iF (th (fX he2) (th (he4 _ _ _ _ he3) h6)))))))
def z17(h:PF p φ)(hf:Pq p f)(hg:Pq p g)(hf0:f≠[])(hg0:g≠[])(hfs:f.length<=1000000)(hgs:g.length<=1000000)(hbz:Bez p (zx f) (zx g)){ef eg:Bool}:
 ∃d sr u e2 e3,Pq p sr/\Pq p u/\sr.length+1<=g.length/\u.length<=f.length+g.length/\CgZ p (zx sr*zx f+zx u*zx g) 1/\xk φ [ni p,tn f ef,tn g eg]=some (.tup [tn d true,tn sr e2,tn u e3]):=by
 obtain⟨d,sr,u,x2,x3,h1,h2,h3,h4,h5,h6⟩:=MQ h hf hg hf0 hg0 hfs hgs hbz (bs:=[⟨ci [1],.rw⟩]) (k:=0) rfl (ef:=ef) (eg:=eg);refine⟨d,sr,u,x2,x3,h1,h2,h3,h4,h5,?_⟩;have hg1:=az.2 hg0;unfold xk;dsimp only[fJ,fV];rw[<-fg];exact th fY (th (mJ eP) (th ez (th Gi h6)))
def F0(hp:p<100000):∀(fu e:Nat),2<=e->p+2<=fu+e->(∀d,2<=d->d<e->p%d≠0)->∃b,(b=true->2<=p/\∀d,2<=d->d*d<=p->p%d≠0)/\(e<=p+1->lp li (sR φ) fu (ni p) (ni e) s0=some (.b b))
 |0,e,h2,hfu,hd=>⟨false,λh=>(by cases h),λh=>eP⟩
 |fu+1,e,h2,hfu,hd=>by
  by_cases hle:e<=p+1
  ·have hee:e*e<=100001*100001:=ay eP eP;by_cases h1:e*e<=p
   ·by_cases h3:p%e=0
    ·refine⟨false,λh=>(by cases h),λ_=>?_⟩;rw[ep];unfold sR;refine th (xO eP) (th wP ?_);rw[aD h1];exact th fG (th (sh eP) (th (oW h3) (th fG rfl)))
    ·obtain⟨b,hb1,hb2⟩:=F0 hp fu (e+1) eP eP (λd g1 g2=>by
      rcases aY d e with g3|g3
      ·exact hd d g1 g3
      ·rw[show d=e by omega];exact h3)
     refine⟨b,hb1,λ_=>?_⟩;have h4:e+1<=p+1:=by
      have:e*2<=e*e:=ae _ h2;omega
     rw[ep];unfold sR;refine th (xO eP) (th wP ?_);rw[aD h1];exact th fG (th (sh eP) (th (mJ h3) (th ez (th (gA eP) (hb2 h4)))))
   ·refine⟨decide (1<p),λh=>⟨zmD h,λd g1 g2=>?_⟩,λ_=>?_⟩
    ·refine hd d g1 ?_;rcases aY d e with g3|g3
     ·exact g3
     ·exact absurd (aX (ay g3 g3) g2) h1
    ·rw[ep];unfold sR;refine th (xO eP) (th wP ?_);rw[il h1];refine th ez (th qF ?_);by_cases h5:1<p
     ·rw[fk h5,ac h5];rfl
     ·rw[fw h5,aU h5];rfl
  ·exact⟨false,λh=>(by cases h),λh=>absurd h hle⟩
def z2B(h2:2<=p)(h:∀d,2<=d->d*d<=p->p%d≠0):Pr p:=by
 refine⟨h2,λa h0 ha=>?_⟩;have hd1:=Nat.gcd_dvd_left a p;have hd2:=Nat.gcd_dvd_right a p;have hg0:0<Nat.gcd a p:=Nat.gcd_pos_of_pos_left _ h0;rcases aY (Nat.gcd a p) 2 with h3|h3
 ·omega
 ·exfalso;have hlt:Nat.gcd a p<p:=cR (Nat.le_of_dvd h0 hd1) ha;generalize Nat.gcd a p=c at*;obtain⟨e,he⟩:=hd2;have he2:2<=e:=by
   rcases aY e 2 with h4|h4
   ·exfalso;rcases bT e with h5|h5
    ·subst h5;omega
    ·have:e=1:=eP;subst this;omega
   ·exact h4
  rcases Nat.le_total c e with h4|h4
  ·refine h c h3 ?_ (Nat.mod_eq_zero_of_dvd ⟨e,he⟩);have:c*c<=c*e:=ae _ h4;omega
  ·refine h e he2 ?_ (Nat.mod_eq_zero_of_dvd ⟨c,by rw[he,aL]⟩);have:e*e<=c*e:=aK _ h4;omega
def WV(hp:p<100000)(h2:2<=p)(hφ:gW φ):∃b,(b=true->Pr p)/\wX φ [ni p]=some (.b b):=by
 obtain⟨b,h1,h3⟩:=F0 (φ:=φ) hp φ 2 (aC _) eP (λd g1 g2=>eP);refine⟨b,λh=>z2B (h1 h).1 (h1 h).2,?_⟩;unfold wX;dsimp only[fJ,fV];exact h3 eP
end
def pm{P:Option D->Prop}{a b:Rs}(h:a=b)(hp:P b):P a:=h▸hp
section
variable {bs:fQ} {l q ks:eZ} {b:Blk} {i j k n a p w y:Nat} {s:LS} {K:fK} {kk:IntKind} {φ:Nat} {z x:Int} {d:D} {cs:fN} {P:Option D->Prop} {pv:fZ}
def slD(n k:Nat):D:=.sl k 0 n n 1 true
structure MX (bs:fQ) (w n p:Nat) (ks:eZ):Prop where
 hw:bs[w]?=some ⟨ks.map (slD n),.rw⟩
 hl:ks.length=n
 nw:∀k,k∈ks->k≠w
 row:∀k,k∈ks->∃l,bs[k]?=some ⟨ci l,.rw⟩/\l.length=n/\∀x,x∈l->x<p
def MX.rd(h:MX bs w n p ks)(hi:ks[i]?=some k):(eT 1 (mem bs) (slD n w) (.i kk (.ofNat i)) λa s=>eR s a K)=K (slD n k) (mem bs):=by
 have:=fC hi;have hl:=h.hl;exact rd1 h.hw rfl (by show(ks.map (slD n))[i]?=_;rw[af,hi];rfl) eP
def MX.get(h:MX bs w n p ks)(hi:i<n):∃k,ks[i]?=some k/\k∈ks:=by
 have hl:=h.hl;exact⟨_,aE eP,cU _⟩
def yD(hb:bs[k]?=some ⟨ci l,.rw⟩)(hl:l.length=n)(hj:j<n):(eT 1 (mem bs) (slD n k) (.i kk (.ofNat j)) λa s=>eR s a K)=K (ni (l.getD j 0)) (mem bs):=rd1 hb rfl (QC eP) hj
def DE(hb:bs[k]?=some ⟨ci l,.rw⟩)(hl:l.length=n)(hj:j<n){v:Nat}:(eT 1 (mem bs) (slD n k) (.i kk (.ofNat j)) λa s=>fA 1 s a (ni v) K)=K .u (mem (bs.set k ⟨ci (l.set j v),.rw⟩)):=by
 refine th (wr1 hb hj (by rw[j0];omega)) ?_;rw[QB]
def MX.upd(h:MX bs w n p ks)(hk:k∈ks)(hl:l.length=n)(hp:∀x,x∈l->x<p):MX (bs.set k ⟨ci l,.rw⟩) w n p ks:=by
 obtain⟨l0,h0,_⟩:=h.row k hk;refine⟨fc (h.nw k hk) h.hw,h.hl,h.nw,λk' hk'=>?_⟩;by_cases e:k=k'
 ·subst e;exact⟨l,aH (fC h0),hl,hp⟩
 ·obtain⟨l',h1,h2⟩:=h.row k' hk';exact⟨l',fc e h1,h2⟩
def DC{v:Nat}(hp:∀x,x∈l->x<p)(hv:v<p):∀x,x∈l.set j v->x<p:=λx hx=>by
 rcases c9 hx with h|h
 ·exact hp x h
 ·omega
def MX.other{y:Nat}{b:Blk}(h:MX bs w n p ks)(hy:y≠w)(hk:y∉ks):MX (bs.set y b) w n p ks:=
 ⟨fc hy h.hw,h.hl,h.nw,λk hk'=>by
  obtain⟨l,h1,h2⟩:=h.row k hk';exact⟨l,fc (λe=>hk (e▸hk')) h1,h2⟩⟩
def MX.app{b:Blk}(h:MX bs w n p ks):MX (bs++[b]) w n p ks:=
 ⟨fW h.hw,h.hl,h.nw,λk hk'=>by
  obtain⟨l,h1,h2⟩:=h.row k hk';exact⟨l,fW h1,h2⟩⟩
def MX.wrc(h:MX bs w n p ks)(hi:i<n):(eT 1 (mem bs) (slD n w) (.i kk (.ofNat i)) λa s=>fA 1 s a (slD n k) K)=K .u (mem (bs.set w ⟨(ks.set i k).map (slD n),.rw⟩)):=by
 have hl:=h.hl;refine th (wr1 h.hw hi (by rw[aj];omega)) ?_;rw[dC]
structure PV (bs:fQ) (y n:Nat) (pv:fZ):Prop where
 hb:bs[y]?=some ⟨pv.map zd,.rw⟩
 hl:pv.length=n
 ok:∀z,z∈pv-> -1<=z/\z<n
def PV.rd(h:PV bs y n pv)(hi:i<n):∃z,-1<=z/\z<(n:Int)/\∀K,(eT 1 (mem bs) (slD n y) (.i kk (.ofNat i)) λa s=>eR s a K)=K (zd z) (mem bs):=by
 have hl:=h.hl;have hg:=aE (l:=pv) (show i<pv.length by omega);obtain⟨h1,h2⟩:=h.ok _ (cU (show i<pv.length by omega));exact⟨_,h1,h2,λK=>rd1 h.hb rfl (by show(pv.map zd)[i]?=_;rw[af,hg];rfl) hi⟩
def PV.wr(h:PV bs y n pv)(hi:i<n){v:Int}:(eT 1 (mem bs) (slD n y) (.i kk (.ofNat i)) λa s=>fA 1 s a (zd v) K)=K .u (mem (bs.set y ⟨(pv.set i v).map zd,.rw⟩)):=by
 have hl:=h.hl;refine th (wr1 (d:=zd v) h.hb hi (by rw[aj];omega)) ?_;rw[dC]
def PV.set(h:PV bs y n pv){v:Int}(h1: -1<=v)(h2:v<n):PV (bs.set y ⟨(pv.set i v).map zd,.rw⟩) y n (pv.set i v):=
 ⟨aH (fC h.hb),by rw[a8];exact h.hl,λz hz=>by
  rcases c9 hz with h3|h3
  ·exact h.ok z h3
  ·rw[h3];exact⟨h1,h2⟩⟩
def PV.other{b:Blk}(h:PV bs y n pv)(hk:k≠y):PV (bs.set k b) y n pv:=⟨fc hk h.hb,h.hl,h.ok⟩
structure RM (bs:fQ) (w y n p:Nat) (ks:eZ):Prop where
 mx:MX bs w n p ks
 pv:∃pv,PV bs y n pv
 yw:y≠w
 yk:y∉ks
def RM.upd(h:RM bs w y n p ks)(hk:k∈ks)(hl:l.length=n)(hp:∀x,x∈l->x<p):RM (bs.set k ⟨ci l,.rw⟩) w y n p ks:=by
 obtain⟨pv,hv⟩:=h.pv;exact⟨h.mx.upd hk hl hp,⟨pv,hv.other λe=>h.yk (e▸hk)⟩,h.yw,h.yk⟩
def RM.pvw(h:RM bs w y n p ks)(hi:i<n){v:Int}(h1: -1<=v)(h2:v<n)(hP:∀bs',RM bs' w y n p ks->P (K .u (mem bs'))):P (eT 1 (mem bs) (slD n y) (.i kk (.ofNat i)) λa s=>fA 1 s a (zd v) K):=by
 obtain⟨pv,hv⟩:=h.pv;exact pm (hv.wr hi) (hP _ ⟨h.mx.other h.yw h.yk,⟨_,hv.set h1 h2⟩,h.yw,h.yk⟩)
variable {j14:ov}
def z0R{v:Nat}(h:v<9223372036854775808):IZ (Int.ofNat v):=by unfold IZ;simp only[ag];omega
def Sq{u v e:Nat}(hp:p<1000000000)(hu:u<p)(hv:v<p)(he:e<p):IZ ((u:Int)-(e:Int)*v):=by
 have h1:(e:Int)*v<=1000000000*1000000000:=by
  have:e*v<=1000000000*1000000000:=ay eP eP;rw[<-bZ];omega
 have h2:0<=(e:Int)*v:=by rw[<-bZ];omega
 unfold IZ;omega
def TJ(hp:0<p)(hp2:p<1000000000)(hn:n<=1000000){e dn ro:Nat}(he:e<p)(hd:dn<n)(hr:ro<n){x133 x134 x135 x136 x130 Y:D}{j104:B8}:∀(u i fu:Nat)(bs:fQ),i+u=n->u<fu->RM bs w y n p ks->(∀bs',RM bs' w y n p ks->P (j104 (ni p) (slD n w) (ni n) Y (ni dn) x130 x133 x134 x135 x136 (mem bs')))->
 P (lp (λ(_ _ _ _ _ _ _ _ _ _ _ _ _ _:D)(_:LS)=>none) (tt φ j104) fu (ni p) (slD n w) (ni n) Y (ni dn) x130 (ni ro) (ni e) x133 x134 x135 x136 (ni n) (ni i) (mem bs))
 |0,i,fu+1,bs,h,hfu,hR,hP=>by
  rw[ep];unfold tt;exact pm (gP eP) (pm ez (hP bs hR))
 |u+1,i,fu+1,bs,h,hfu,hR,hP=>by
  obtain⟨k,hk,hkm⟩:=hR.mx.get hr;obtain⟨k2,hk2,zeZ⟩:=hR.mx.get hd;obtain⟨l,hl1,hl2,hl3⟩:=hR.mx.row k hkm;obtain⟨l',z9f,z9X,zb3⟩:=hR.mx.row k2 zeZ;have hu:=wH hl3 hp i;have hv:=wH zb3 hp i;have hmul:e*l'.getD i 0<=1000000000*1000000000:=ay eP eP;rw[ep];unfold tt;refine pm (gX eP) (pm fG (pm (hR.mx.rd hk) (pm (hR.mx.rd hk) (pm (yD hl1 hl2 eP) (pm (hR.mx.rd hk2) (pm (yD z9f z9X eP) (pm (xO eP) ?_)))))));have e0:(.i .i64 (.ofNat (e*l'.getD i 0)):D)=zd ((e:Int)*(l'.getD i 0:Nat)):=by rw[<-bZ];rfl
  rw[e0];refine pm (DT (Sq hp2 hu hv he) (z0R eP)) (pm (Xr hp hp2 (Sq hp2 hu hv he)) (pm (DE hl1 hl2 eP) (pm (gA eP) ?_)));exact TJ hp hp2 hn he hd hr u (i+1) fu _ eP eP (hR.upd hkm (by rw[a8];exact hl2) (DC hl3 (FJ hp))) hP
def TI(hφ:gW φ)(hp:0<p)(hp2:p<1000000000)(hn:n<=1000000){dn col:Nat}(hd:dn<n)(hc:col<n){x99 x100:D}:∀(u i fu:Nat)(bs:fQ),i+u=n->u<fu->RM bs w y n p ks->(∀bs',RM bs' w y n p ks->P (j14 (ni p) (slD n w) (ni n) (slD n y) (ni (dn+1)) x99 x100 (mem bs')))->
 P (lp uh (rN φ j14) fu (ni p) (slD n w) (ni n) (slD n y) (ni dn) (ni col) x99 x100 (ni n) (ni i) (mem bs))
 |0,i,fu+1,bs,h,hfu,hR,hP=>by
  rw[ep];unfold rN;refine pm (gP eP) (pm ez ?_);refine hR.pvw (v:=(dn:Int)) hc eP eP λbs' hR'=>?_;exact pm (gA eP) (hP bs' hR')
 |u+1,i,fu+1,bs,h,hfu,hR,hP=>by
  obtain⟨k,hk,hkm⟩:=hR.mx.get (show i<n by omega);obtain⟨l,hl1,hl2,hl3⟩:=hR.mx.row k hkm;have hu:=wH hl3 hp col;have z6w:∀bs',RM bs' w y n p ks->P (f7 (ni i) ej λx115=>lp uh (rN φ j14) fu (ni p) (slD n w) (ni n) (slD n y) (ni dn) (ni col) x99 x100 (ni n) x115 (mem bs')):=λbs' hR'=>
   pm (gA eP) (TI hφ hp hp2 hn hd hc u (i+1) fu bs' eP eP hR' hP)
  rw[ep];unfold rN;refine pm (gX eP) (pm fG (pm sj (pm (hR.mx.rd hk) (pm (yD hl1 hl2 hc) ?_))));by_cases he:i=dn
  ·exact pm (oW he) (pm qV (pm qV (pm gT (pm fG (z6w bs hR)))))
  ·refine pm (mJ he) (pm iX (pm iX ?_));by_cases h0:l.getD col 0=0
   ·exact pm (oW h0) (pm ga (pm fG (z6w bs hR)))
   ·refine pm (mJ h0) (pm ga (pm ez ?_));exact TJ hp hp2 hn hu hd (show i<n by omega) n 0 φ bs eP eP hR z6w
def TH(hφ:gW φ)(hp:0<p)(hp2:p<1000000000)(hn:n<=1000000){dn col:Nat}{e:Nat}(he:e<p)(hd:dn<n)(hc:col<n){x76 x77:D}:∀(u i fu:Nat)(bs:fQ),i+u=n->u<fu->RM bs w y n p ks->(∀bs',RM bs' w y n p ks->P (j14 (ni p) (slD n w) (ni n) (slD n y) (ni (dn+1)) x76 x77 (mem bs')))->
 P (lp qI (rM φ j14) fu (ni p) (slD n w) (ni n) (slD n y) (ni dn) (ni col) (ni e) x76 x77 (ni n) (ni i) (mem bs))
 |0,i,fu+1,bs,h,hfu,hR,hP=>by
  rw[ep];unfold rM;exact pm (gP eP) (pm ez (pm ou (TI hφ hp hp2 hn hd hc n 0 φ bs eP eP hR hP)))
 |u+1,i,fu+1,bs,h,hfu,hR,hP=>by
  obtain⟨k,hk,hkm⟩:=hR.mx.get hd;obtain⟨l,hl1,hl2,hl3⟩:=hR.mx.row k hkm;have hu:=wH hl3 hp i;have hmul:l.getD i 0*e<=1000000000*1000000000:=ay eP eP;rw[ep];unfold rM;refine pm (gX eP) (pm fG (pm (hR.mx.rd hk) (pm (hR.mx.rd hk) (pm (yD hl1 hl2 eP) (pm (xO eP) (pm (sh eP) (pm (DE hl1 hl2 eP) (pm (gA eP) ?_))))))));exact TH hφ hp hp2 hn he hd hc u (i+1) fu _ eP eP (hR.upd hkm (by rw[a8];exact hl2) (DC hl3 (bN _ hp))) hP
def z3I(bs:fQ)(n col:Nat)(ks:eZ)(z:Int):Prop:=z= -1\/∃(a k:Nat),z=(a:Nat)/\a<n/\ks[a]?=some k/\∀l,bs[k]?=some ⟨ci l,.rw⟩->l.getD col 0≠0
def U8{d a kd ka:Nat}(hd:ks[d]?=some kd)(ha:ks[a]?=some ka):((ks.set d ka).set a kd)[d]?=some ka:=by
 have h1:=fC hd;by_cases e:a=d
 ·subst e;rw[hd]at ha;cases ha;rw[aH (by rw[a8];exact h1)]
 ·rw[bW e,aH h1]
def CT{d a kd ka k:Nat}(hd:kd∈ks)(ha:ka∈ks)(h:k∈(ks.set d ka).set a kd):k∈ks:=by
 rcases c9 h with h1|h1
 ·rcases c9 h1 with h2|h2
  ·exact h2
  ·rw[h2];exact ha
 ·rw[h1];exact hd
def RM.swap(h:RM bs w y n p ks){d a kd ka:Nat}{A:Blk}(hd:kd∈ks)(ha:ka∈ks):RM ((bs.set w A).set w ⟨((ks.set d ka).set a kd).map (slD n),.rw⟩) w y n p ((ks.set d ka).set a kd):=by
 obtain⟨pv,hv⟩:=h.pv;have hne:∀k,k∈(ks.set d ka).set a kd->w≠k:=λk hk e=>h.mx.nw k (CT hd ha hk) e.symm;exact⟨⟨aH (by rw[a8];exact fC h.mx.hw),by rw[a8,a8];exact h.mx.hl,λk hk=>h.mx.nw k (CT hd ha hk),λk hk=>by
  obtain⟨l,h1,h2⟩:=h.mx.row k (CT hd ha hk);exact⟨l,fc (hne k hk) (fc (hne k hk) h1),h2⟩⟩,⟨pv,(hv.other h.yw.symm).other h.yw.symm⟩,h.yw,λhy=>h.yk (CT hd ha hy)⟩
def z0i(hq:PF p φ)(hn:n<=1000000){dn col:Nat}(hc:col<n){x33 x34:D}(hR:RM bs w y n p ks)(hP:∀bs' ks' dn',dn'<=n->RM bs' w y n p ks'->P (j14 (ni p) (slD n w) (ni n) (slD n y) (ni dn') x33 x34 (mem bs'))):∀(u i fu:Nat)(z:Int),i+u=n->u<fu->dn<=i->z3I bs n col ks z->(z= -1\/dn<n)->
 P (lp uh (tq φ j14) fu (ni p) (slD n w) (ni n) (slD n y) (ni dn) (ni col) (zd z) (ni i) x33 x34 (mem bs)):=by
 have hp:=hq.pr.pos;have hφ:=hq.ph;have e0:(fB:D)=zd 0:=rfl;have fin:∀(z:Int),dn<=n->z3I bs n col ks z->(z= -1\/dn<n)->
  P (gD (zd z) fB λx56=>fE x56 (j14 (ni p) (slD n w) (ni n) (slD n y) (ni dn) x33 x34 (mem bs))
   (eT 1 (mem bs) (slD n w) (zd z) λx57 s=>eR s x57 λx58 s=>eT 1 s (slD n w) (ni dn) λx59 s=>eR s x59 λx60 s=>eT 1 s (slD n w) (ni dn) λx61 s=>fA 1 s x61 x58 λ_ s=>eT 1 s (slD n w) (zd z) λx62 s=>fA 1 s x62 x60 λ_ s=>eT 1 s (slD n w) (ni dn) λx63 s=>eR s x63 λx64 s=>eT 1 s x64 (ni col) λx65 s=>eR s x65 λx66 s=>eY (p8 φ) [ni p,x66] s λx67 s=>lp qI (rM φ j14) φ (ni p) (slD n w) (ni n) (slD n y) (ni dn) (ni col) x67 x33 x34 (ni n) fB s)):=λz hd hA hz=>by
  rcases hA with rfl|⟨a,k,rfl,ha,hka,hne⟩
  ·rw[e0];exact pm (JX (a:= -1) (b:=0)) (pm fG (hP bs ks dn hd hR))
  ·have hdn:dn<n:=by
    rcases hz with h|h
    ·omega
    ·exact h
   obtain⟨kd,hkd,zf1⟩:=hR.mx.get hdn;have hkm:k∈ks:=bS hka;obtain⟨l1,hl1,hl2,hl3⟩:=hR.mx.row k hkm;have hlen:=hR.mx.hl;have R2:=hR.swap (d:=dn) (a:=a) (A:=⟨(ks.set dn k).map (slD n),.rw⟩) zf1 hkm;have hg2:=U8 hkd hka;have z9f:(((bs.set w ⟨(ks.set dn k).map (slD n),.rw⟩).set w ⟨((ks.set dn k).set a kd).map (slD n),.rw⟩))[k]?=some ⟨ci l1,.rw⟩:=fc (λe=>hR.mx.nw k hkm e.symm) (fc (λe=>hR.mx.nw k hkm e.symm) hl1);have hw1:∀K:fK,(eT 1 (mem bs) (slD n w) (ni dn) λa s=>fA 1 s a (slD n k) K)=K .u (mem (bs.set w ⟨(ks.set dn k).map (slD n),.rw⟩)):=λK=>hR.mx.wrc hdn;have hw2:∀K:fK,(eT 1 (mem (bs.set w ⟨(ks.set dn k).map (slD n),.rw⟩)) (slD n w) (ni a) λa s=>fA 1 s a (slD n kd) K)=K .u (mem ((bs.set w ⟨(ks.set dn k).map (slD n),.rw⟩).set w ⟨((ks.set dn k).set a kd).map (slD n),.rw⟩)):=λK=>by
    refine th (wr1 (aH (fC hR.mx.hw)) ha (by rw[aj,a8];omega)) ?_;rw[dC (l:=ks.set dn k)]
   obtain⟨iv,v1,v2,v3⟩:=P9 hq.pr hq.lt (zmy (hne l1 hl1)) (wH hl3 hp col) hφ;rw[e0];refine pm (JX (a:=(a:Nat)) (b:=0)) ?_;rw[aU eP];refine pm ez (pm (hR.mx.rd hka) (pm (hR.mx.rd hkd) (pm (hw1 _) (pm (hw2 _) (pm (R2.mx.rd hg2) (pm (yD z9f hl2 hc) (pm (fX v3) ?_)))))));exact TH hφ hp hq.lt hn v1 hdn hc n 0 φ _ eP eP R2 λbs' hR'=>hP bs' _ (dn+1) eP hR'
 intro u
 induction u with
 |zero=>
  intro i fu z h hfu hdi hA hz;obtain⟨fu,rfl⟩:∃q,fu=q+1:=⟨fu-1,eP⟩
  rw[ep];unfold tq;exact pm (gP eP) (pm gx (pm gx (pm ga (pm ez (fin z eP hA hz)))))
 |succ u ih=>
  intro i fu z h hfu hdi hA hz;obtain⟨fu,rfl⟩:∃q,fu=q+1:=⟨fu-1,eP⟩
  rw[ep];unfold tq;refine pm (gX eP) (pm gG (pm gG ?_));rw[e0];refine pm (JX (a:=z) (b:=0)) ?_;by_cases hz0:z<0
  ·rw[ac hz0];obtain⟨k,hk,hkm⟩:=hR.mx.get (show i<n by omega);obtain⟨l,hl1,hl2,hl3⟩:=hR.mx.row k hkm;refine pm gT (pm fG (pm sj (pm (hR.mx.rd hk) (pm (yD hl1 hl2 hc) ?_))));by_cases h0:l.getD col 0=0
   ·refine pm (Fb h0) (pm ez (pm (gA eP) ?_));exact ih (i+1) fu z eP eP eP hA hz
   ·refine pm (Hv h0) (pm fG (pm (gA eP) ?_));refine ih (i+1) fu (i:Nat) eP eP eP (Or.inr ⟨i,k,rfl,eP,hk,λl' hl'=>?_⟩) (Or.inr eP);have h4:ci l=ci l':=congrArg Blk.cs (cJ (hl1.symm.trans hl'));intro h5;apply h0;have h6:=congrArg (λcs:fN=>cs[col]?) h4;have hcl:col<l'.length:=by
     have:=congrArg List.length h4;rw[j0,j0]at this;omega
    simp only[QC (show col<l.length by omega),QC hcl]at h6;have h7:=cJ h6;unfold ni at h7;injection h7 with _ h8;injection h8 with h9;rw[h9,h5]
  ·rw[aU hz0];exact pm gT (pm ez (fin z eP hA hz))
def TG(hq:PF p φ)(hn:n<=1000000){kk:fK}(hP:∀bs' ks',RM bs' w y n p ks'->P (kk (slD n y) (mem bs'))):∀(u col fu dn:Nat)(bs:fQ)(ks:eZ),col+u=n->u<fu->dn<=n->RM bs w y n p ks->
 P (lp lK (pW φ kk) fu (ni p) (slD n w) (ni n) (slD n y) (ni dn) (ni n) (ni col) (mem bs))
 |0,col,fu+1,dn,bs,ks,h,hfu,hd,hR=>by
  rw[ep];unfold pW;exact pm (gP eP) (pm ez (hP bs ks hR))
 |u+1,col,fu+1,dn,bs,ks,h,hfu,hd,hR=>by
  have hφ:=hq.ph;rw[ep];unfold pW;refine pm (gX eP) (pm fG (pm sj ?_));have em:(lC:D)=zd (-1):=rfl;rw[em];refine hR.pvw (v:= -1) (show col<n by omega) eP eP λbs' hR'=>?_;have hc:col<n:=eP;have hN:∀bs2 ks2 dn2,dn2<=n->RM bs2 w y n p ks2->P ((λ(x15 x16 x17 x18 x19 x20 x21:D)(s:LS)=>f7 x21 ej λx22=>lp lK (pW φ kk) fu x15 x16 x17 x18 x19 x20 x22 s) (ni p) (slD n w) (ni n) (slD n y) (ni dn2) (ni n) (ni col) (mem bs2)):=λbs2 ks2 dn2 h2 hR2=>
   pm (gA eP) (TG hq hn hP u (col+1) fu dn2 bs2 ks2 eP eP h2 hR2)
  have:=z0i (P:=P) (j14:=λ(x15 x16 x17 x18 x19 x20 x21:D)(s:LS)=>f7 x21 ej λx22=>lp lK (pW φ kk) fu x15 x16 x17 x18 x19 x20 x22 s) (x33:=ni n) (x34:=ni col) hq hn (dn:=dn) (col:=col) hc hR' hN (n-dn) dn φ (-1) eP eP (aC _) (Or.inl rfl) (Or.inl rfl);exact this
end
section
variable {bs:fQ} {l g q r ks:eZ} {b:Blk} {i j k n m c a p w y o:Nat} {s:LS} {K:fK} {kk:IntKind} {φ:Nat} {z x:Int} {d X:D} {cs:fN} {P:Option D->Prop} {pv:fZ} {W:List (eZ×Bool)}
def SD(hq:PF p φ)(hn:n<=1000000){kk:fK}(hM:MX bs w n p ks)(hP:∀bs' ks' y,RM bs' w y n p ks'->P (kk (slD n y) (mem bs'))):P (vQ φ [ni p,slD n w] (mem bs) kk):=by
 have hφ:=hq.ph;unfold vQ;dsimp only[fJ,fV];refine pm ou (pm (mkn eP) ?_);have hpv:PV (bs++[⟨ci (vr (λ_=>0) 0 n),.rw⟩]) bs.length n (List.replicate n 0):=by
  refine⟨?_,by simp,λz hz=>by
   have h1:=cG hz;have h2:0<n:=by
    rcases bT n with e|e
    ·subst e;cases hz
    ·exact e
   omega⟩
  rw[aM (aC _),bD];show some _=_;congr 2;show ci ([]++List.replicate n 0)=_;rw[cW];unfold ci;rw[de,de];rfl
 have hy:bs.length∉ks:=λh=>by
  obtain⟨l,h1,_⟩:=hM.row _ h;have:=fC h1;omega
 have hyw:bs.length≠w:=λe=>by
  have:=fC hM.hw;omega
 exact TG hq hn (λbs' ks' hR=>hP bs' ks' bs.length hR) n 0 φ 0 _ ks eP eP (aJ _) ⟨hM.app,⟨_,hpv⟩,hyw,hy⟩
def tD(q:eZ×Bool):D:=tn q.1 q.2
def Zx:∀W:List (eZ×Bool),(W.map tD).all one=true
 |[]=>rfl
 |p::W=>by rw[cC,cH,Zx W];rfl
def MV(g:Nat->Option Blk)(j:Nat):∀W:List (eZ×Bool),i8 (res g (j+1)) (W.map tD)=some (W.map tD,[])
 |[]=>rfl
 |p::W=>by
  rw[cC];unfold i8;rw[MV g j W,show res g (j+1) (tD p)=some (tD p,[])from rfl];rfl
def Wl(h:AS 1 bs X (W.map tD) n)(hn:W.length=n):∃e,fO false (mem bs) X some=some (.tree (W.map tD) W.length e):=by
 generalize hc:W.map tD=cs at h;cases h with
 |nil=>
  have:W=[]:=aZ hn;subst this;exact⟨true,by unfold fO;rw[lJ];show sk _ some=_;rw[gc];rfl⟩
 | @blk k _ _ hg hl=>
  subst hn;refine⟨(false&&W.length==W.length),?_⟩;unfold fO;rw[lJ];show sk (lf false (mem bs).get gJ (.sl k 0 W.length W.length 1 false)) some=_;have h1:res (mem bs).get 60 (.sl k 0 W.length W.length 1 false)=some (.tree cs W.length (false&&W.length==W.length),[k]):=by
   refine wx (n:=59) (r:=cs) (ls:=[]) (by rw[mK];exact hg) rfl ?_ (by rw[<-hc];exact MV _ 58 W);unfold cut;show(if((cs.drop 0).take (W.length*1)).length=W.length*1 then some ((cs.drop 0).take (W.length*1))else none)=_;rw[a7,aP eP,aF eP]
  have:lf false (mem bs).get gJ (.sl k 0 W.length W.length 1 false)=some (.tree cs W.length (false&&W.length==W.length)):=by
   show(match yF (res (mem bs).get 60 (.sl k 0 W.length W.length 1 false))with
    |some (d,o,ls)=>if o.all λl=> !ls.contains l then some d else none
    |none=>none)=_
   rw[h1];rfl
  rw[this,gc];rfl
def z3y(h:AS 1 bs X (W.map tD) W.length)(hl:W.length<1000000){q:eZ×Bool}(hP:∀bs' X',AS 1 bs' X' ((W++[q]).map tD) (W++[q]).length->(∀l b,rx X l->bs[l]?=some b->bs'[l]?=some b/\rx X' l)->P (K X' (mem bs'))):
 P (iO 1 [.tree [] 0 true] [(0,1,tD q)] (mem bs) λy s=>mc 1 24 s X y K):=by
 obtain⟨bs',X',h1,h2,h3⟩:=ap1 (zero:=[.tree [] 0 true]) (x:=tD q) (new:=[tD q]) (bytes:=24) (K:=K) h rfl rfl rfl rfl eP eP;refine pm h3 (hP bs' X' ?_ h2);rw[bG,aq];exact h1
def z3w{z:Nat}{bs':fQ}(h:AS z bs X cs n)(hk:∀k' b,k'≠k->bs[k']?=some b->bs'[k']?=some b)(hX:rx X k):AS z bs' X cs n:=by
 cases h with
 |nil=>exact AS.nil
 | @blk l _ _ hg hc=>exact AS.blk (hk _ _ (λe=>hX 0 n n z false (by rw[e])) hg) hc
def Vt{z:Nat}(h:AS z bs X cs n)(hk:bs.length<=k):rx X k:=λo n' m z' e he=>by
 cases h with
 |nil=>cases he
 |blk hg hc=>cases he;have:=fC hg;omega
structure KS (bs:fQ) (w y n p:Nat) (ks:eZ) (X:D) (W:List (eZ×Bool)):Prop where
 rm:RM bs w y n p ks
 as:AS 1 bs X (W.map tD) W.length
 nb:∀k,k=w\/k=y\/k∈ks->rx X k
 gd:∀q,q∈W->Pq p q.1/\q.1.length<=n
def RM.live(h:RM bs w y n p ks)(hk:k=w\/k=y\/k∈ks):∃b,bs[k]?=some b:=by
 rcases hk with rfl|rfl|hk
 ·exact⟨_,h.mx.hw⟩
 ·obtain⟨pv,hv⟩:=h.pv;exact⟨_,hv.hb⟩
 ·obtain⟨l,h1,_⟩:=h.mx.row k hk;exact⟨_,h1⟩
def RM.keep{bs':fQ}(h:RM bs w y n p ks)(hk:∀k b,k=w\/k=y\/k∈ks->bs[k]?=some b->bs'[k]?=some b):RM bs' w y n p ks:=by
 obtain⟨pv,hv⟩:=h.pv;exact⟨⟨hk _ _ (Or.inl rfl) h.mx.hw,h.mx.hl,h.mx.nw,λk hk'=>by
  obtain⟨l,h1,h2⟩:=h.mx.row k hk';exact⟨l,hk _ _ (Or.inr (Or.inr hk')) h1,h2⟩⟩,⟨pv,hk _ _ (Or.inr (Or.inl rfl)) hv.hb,hv.hl,hv.ok⟩,h.yw,h.yk⟩
def KS.app{b:Blk}(h:KS bs w y n p ks X W):KS (bs++[b]) w y n p ks X W:=⟨h.rm.keep λk b _ hb=>fW hb,Vr h.as,h.nb,h.gd⟩
def KS.set{b:Blk}(h:KS bs w y n p ks X W)(hk:¬(k=w\/k=y\/k∈ks))(hX:rx X k):KS (bs.set k b) w y n p ks X W:=
 ⟨h.rm.keep λk' b' hk' hb=>fc (λe=>hk (e▸hk')) hb,z3w h.as (λk' b' hne hb=>fc (Ne.symm hne) hb) hX,h.nb,h.gd⟩
def z0K{v:Nat}(h:v<9223372036854775808):kS (.neg (.c (ni v))) s K=K (zd (-(v:Int))) s:=by
 have he:evA s.nx cv s.get (.neg (.c (ni v)))=some (zd (-(v:Int)),[]):=by
  show some (D.i .i64 (IntKind.i64.wrap (0-(v:Int))),([]:fQ))=_;rw[AF eP eP,Int.zero_sub];rfl
 unfold kS sA;rw[he];show wR _ _=_;rw[mq]
def NO(hq:PF p φ)(hn:n<=1000000)(hW:W.length<1000000){fr kv:Nat}(hfr:fr<n){j78:ov}(hk:¬(kv=w\/kv=y\/kv∈ks))(hX:rx X kv)(hP:∀bs' X' q,KS bs' w y n p ks X' (W++[q])->P (j78 (ni p) (ni n) (slD n w) (slD n y) X' (ni n) (ni fr) (mem bs'))):∀(u col fu:Nat)(bs:fQ)(v:eZ),col+u=n->u<fu->KS bs w y n p ks X W->bs[kv]?=some ⟨ci v,.rw⟩->v.length=n->(∀x,x∈v->x<p)->
 P (lp qI (uB φ j78) fu (ni p) (ni n) (slD n w) (slD n y) X (ni fr) (slD n kv) (ni n) (ni fr) (ni n) (ni col) (mem bs))
 |0,col,fu+1,bs,v,h,hfu,hS,hb,hv,hvp=>by
  rw[ep];unfold uB;refine pm (gP eP) (pm ez (pm (OF hb hv eP hq.ph) ?_));have hS':=hS.set (b:=⟨ci v,.frz⟩) hk hX;refine z3y (q:=(tz v,true)) hS'.as hW λbs' X' h1 h2=>hP bs' X' (tz v,true) ?_;refine⟨hS'.rm.keep λk b hk' hb=>(h2 k b (hS'.nb k hk') hb).1,h1,λk hk'=>?_,λq hq'=>?_⟩
  ·obtain⟨b,hb⟩:=hS'.rm.live hk';exact(h2 k b (hS'.nb k hk') hb).2
  ·rcases bM.1 hq' with h3|h3
   ·exact hS.gd q h3
   ·have:q=(tz v,true):=by simpa using h3
    subst this;exact⟨CE hvp,by have:=Dc (l:=v);show(tz v).length<=n;omega⟩
 |u+1,col,fu+1,bs,v,h,hfu,hS,hb,hv,hvp=>by
  have hp:=hq.pr.pos;have hlt:=hq.lt;obtain⟨pv,hpv⟩:=hS.rm.pv;obtain⟨z,hz1,hz2,hz3⟩:=hpv.rd (kk:=.i64) (show col<n by omega);have e0:(fB:D)=zd 0:=rfl;rw[ep];unfold uB;rw[e0];refine pm (gX eP) (pm fG (pm sj (pm (hz3 _) (pm (GI (a:=z) (b:=0)) ?_))));by_cases hz:0<=z
  ·obtain⟨t,rfl⟩:∃t:Nat,z=t:=⟨z.toNat,eP⟩
   rw[ac hz];obtain⟨k,hk1,hkm⟩:=hS.rm.mx.get (show t<n by omega);obtain⟨l,hl1,hl2,hl3⟩:=hS.rm.mx.row k hkm;have hu:=wH hl3 hp fr;refine pm fG (pm (hz3 _) (pm (hS.rm.mx.rd hk1) (pm (yD hl1 hl2 hfr) (pm (z0K eP) (pm (Xr hp hlt (by unfold IZ;omega)) (pm (DE hb hv eP) (pm (gA eP) ?_)))))));exact NO hq hn hW hfr hk hX hP u (col+1) fu _ _ eP eP (hS.set hk hX) (aH (fC hb)) (by rw[a8];exact hv) (DC hvp (FJ hp))
  ·rw[aU hz];refine pm ez (pm (gA eP) ?_);exact NO hq hn hW hfr hk hX hP u (col+1) fu bs v eP eP hS hb hv hvp
def NM(hq:PF p φ)(hn:n<=100000)(hP:∀(W:List (eZ×Bool))(e:Bool),W.length<=n->(∀q,q∈W->Pq p q.1/\q.1.length<=n)->P (some (.tree (W.map tD) W.length e))):∀(u fr fu:Nat)(bs:fQ)(X:D)(W:List (eZ×Bool)),fr+u=n->u<fu->W.length<=fr->KS bs w y n p ks X W->
 P (lp lK (uA φ) fu (ni p) (ni n) (slD n w) (slD n y) X (ni n) (ni fr) (mem bs))
 |0,fr,fu+1,bs,X,W,h,hfu,hW,hS=>by
  obtain⟨e,he⟩:=Wl hS.as rfl;rw[ep];unfold uA;exact pm (gP eP) (pm ez (pm he (hP W e eP hS.gd)))
 |u+1,fr,fu+1,bs,X,W,h,hfu,hW,hS=>by
  have hp:=hq.pr.pos;have hφ:=hq.ph;obtain⟨pv,hpv⟩:=hS.rm.pv;obtain⟨z,hz1,hz2,hz3⟩:=hpv.rd (kk:=.i64) (show fr<n by omega);have e0:(fB:D)=zd 0:=rfl;rw[ep];unfold uA;refine pm (gX eP) (pm fG (pm sj (pm (hz3 _) (pm (GI (a:=z) (b:=0)) ?_))));by_cases hz:0<=z
  ·rw[ac hz];refine pm fG (pm (gA eP) ?_);exact NM hq hn hP u (fr+1) fu bs X W eP eP eP hS
  ·rw[aU hz];have hlen:(vr (λ_=>0) 0 n).length=n:=by rw[GS];omega
   have hb1:(bs++[⟨ci (vr (λ_=>0) 0 n),.rw⟩])[bs.length]?=some ⟨ci (vr (λ_=>0) 0 n),.rw⟩:=by simp
   have z6b:¬(bs.length=w\/bs.length=y\/bs.length∈ks):=λhc=>by
    obtain⟨b,hb⟩:=hS.rm.live hc;have:=fC hb;omega
   have hX:=Vt hS.as (aC bs.length);have hz0:∀x,x∈vr (λ_=>0) 0 n->x<p:=λx hx=>by
    have:x∈[]++List.replicate n 0:=hx;rw[cW]at this;rw[cG this];exact hp
   refine pm ez (pm (mkn eP) (pm (DE hb1 hlen (show fr<n by omega)) ?_));have h2:=hS.app (b:=⟨ci (vr (λ_=>0) 0 n),.rw⟩);refine NO hq eP eP (show fr<n by omega) z6b hX (λbs' X' q hS'=>?_) n 0 φ _ _ eP eP (h2.set z6b hX) (aH (fC hb1)) (by rw[a8];exact hlen) (DC hz0 hq.pr.two);refine pm (gA eP) ?_;exact NM hq hn hP u (fr+1) fu bs' X' (W++[q]) eP eP (by simp;omega) hS'
end
def zcs(z:Int):fN:=[.b (decide (z<0)),.n z.natAbs]
def zs:fZ->fN
 |[]=>[]
 |z::l=>.b (decide (z<0))::.n z.natAbs::zs l
def zn(l:fZ)(e:Bool):D:=.tree (zs l) l.length e
section
variable {bs:fQ} {l f g:fZ} {b:Blk} {i j k n c h v B:Nat} {ex:Bool} {s:LS} {K:fK} {kk:IntKind} {φ:Nat} {z x:Int} {d X:D} {cs:fN} {st:Stt}
def mA:∀l:fZ,(zs l).length=l.length*2
 |[]=>rfl
 |z::l=>by show(zs l).length+1+1=_;rw[mA l,ah];omega
def MJ:∀(a b:fZ),zs (a++b)=zs a++zs b
 |[],b=>rfl
 |z::a,b=>by show _::_::zs (a++b)=_;rw[MJ a b];rfl
def EW:∀(l:fZ)(i:Nat),(zs l).drop (i*2)=zs (l.drop i)
 |[],i=>by simp[zs]
 |z::l,0=>by simp
 |z::l,i+1=>by
  rw[show(i+1)*2=i*2+1+1 by omega];show(zs l).drop (i*2)=zs (l.drop i);exact EW l i
def EV:∀(l:fZ)(i:Nat),(zs l).take (i*2)=zs (l.take i)
 |[],i=>by simp[zs]
 |z::l,0=>by simp[zs]
 |z::l,i+1=>by
  rw[show(i+1)*2=i*2+1+1 by omega];show _::_::(zs l).take (i*2)=_::_::zs (l.take i);rw[EV l i]
def EX(hi:i<l.length):((zs l).drop (i*2)).take 2=zcs (ei l i):=by
 rw[EW];have:l.drop i=l[i]::l.drop (i+1):=cI hi;rw[this];show zcs l[i]=_;unfold ei;rw[aB,aE hi];rfl
def ZQ(hi:i<l.length):lay (i*2) (zcs z) (zs l)=some (zs (l.set i z)):=by
 unfold lay;have hlen:(zcs z).length=2:=rfl;rw[hlen,aF (by rw[mA];omega),EV,show i*2+2=(i+1)*2 by omega,EW,dH,aF hi,MJ,aQ];rfl
def Bf:∀l:fZ,(zs l).all oH=true
 |[]=>rfl
 |z::l=>Bf l
def MI:∀l:fZ,(zs l).all one=true
 |[]=>rfl
 |z::l=>MI l
def Ry(n:Nat):mf n [.b false,.n 0]=zs (List.replicate n 0):=by
 induction n with
 |zero=>rfl
 |succ n ih=>rw[ch];show[.b false,.n 0]++mf n _=_;rw[ih];rfl
def ldt(hi:i<l.length){e:Bool}:(eT 2 s (zn l e) (.i kk (.ofNat i)) λa s=>eW 2 s a K)=K (itz (ei l i)) s:=by
 refine th (HL hi (by rw[mA];omega)) ?_;refine th (z2P (by rw[mA];omega)) ?_;rw[EX hi];rfl
def ldb(hb:bs[k]?=some ⟨zs l,st⟩)(hl:st.live=true)(hi:i<n)(hi':i<l.length):(eT 2 (mem bs) (.sl k 0 n c 2 ex) (.i kk (.ofNat i)) λa s=>eW 2 s a K)=K (itz (ei l i)) (mem bs):=by
 refine th (DY hb hl hi) ?_;rw[aN];refine th (zZ hb hl (by show i*2+2<=(zs l).length;rw[mA];omega)) ?_;show K (.agg (((zs l).drop (i*2)).take 2)) _=_;rw[EX hi'];rfl
def wrb(hb:bs[k]?=some ⟨zs l,.rw⟩)(hi:i<n)(hi':i<l.length):(eT 2 (mem bs) (.sl k 0 n c 2 ex) (.i kk (.ofNat i)) λa s=>fA 2 s a (itz z) K)=K .u (mem (bs.set k ⟨zs (l.set i z),.rw⟩)):=by
 refine th (DY hb rfl hi) ?_;rw[aN];exact xF hb rfl (hx:=rfl) (hn:=rfl) (h1:=rfl) (hl:=ZQ hi')
def al2{zero:fN}(hz:zero.length=2):(ff zero (mem bs) λx s=>fA 2 s x (itz z) λ_ s=>K x s)=K (.ptr bs.length 0) (mem (bs++[⟨zcs z,.rw⟩])):=by
 refine th vM ?_;refine th (xF (b:=⟨zero,.rw⟩) (cs':=zcs z) fU rfl (hx:=rfl) (hn:=rfl) (h1:=rfl) (hl:=?_)) ?_
 ·match zero,hz with
  |[a,b],_=>rfl
 ·rw[bU _ _ (aC _),bD,ck]
def ld2(hb:bs[k]?=some ⟨zcs z,st⟩)(hl:st.live=true):eW 2 (mem bs) (.ptr k 0) K=K (itz z) (mem bs):=zZ hb hl (aC 2)
def A7:eW 2 (mem (bs++[⟨zcs z,.rw⟩])) (.ptr bs.length 0) K=K (itz z) (mem (bs++[⟨zcs z,.rw⟩])):=ld2 (st:=.rw) fU rfl
def st2{l':fN}(hb:bs[k]?=some ⟨l',.rw⟩)(hl:l'.length=2):fA 2 (mem bs) (.ptr k 0) (itz z) K=K .u (mem (bs.set k ⟨zcs z,.rw⟩)):=by
 refine xF hb rfl (hx:=rfl) (hn:=rfl) (h1:=rfl) (hl:=?_)
 match l',hl with
 |[a,b],_=>rfl
def fa0(hb:bs[k]?=some ⟨zcs z,st⟩)(hl:st.live=true):(fF 0 (mem bs) (.ptr k 0) λa s=>eW 2 s a K)=K (itz z) (mem bs):=by
 refine th qm ?_;rw[hb,jY];show cnd st.live _ none=_;rw[hl,fH];exact ld2 hb hl
def fa1(hb:bs[k]?=some ⟨zcs z,st⟩)(hl:st.live=true):(fF 1 (mem bs) (.ptr k 0) λa s=>eR s a K)=K (.n z.natAbs) (mem bs):=by
 refine th qm ?_;rw[hb,jY];show cnd st.live _ none=_;rw[hl,fH,xB,hb,jY];show cnd st.live _ none=_;rw[hl,fH];rfl
def HM:jB (itz z) (mem bs) K=K (.ptr bs.length 0) (mem (bs++[⟨zcs z,.rw⟩])):=om rfl
def mkz(h:n<=1000000000):io 2 24 [.b false,.n 0] (mem bs) (.i .i64 (.ofNat n)) (.i .i64 (.ofNat n)) K=K (.sl bs.length 0 n n 2 true) (mem (bs++[⟨zs (List.replicate n 0),.rw⟩])):=by
 refine th (BI rfl eP eP) ?_;rw[Ry]
def slT(k:Nat)(l:fZ):D:=if l.length=0 then .tree [] 0 true else .sl k 0 l.length l.length 2 true
def z45(hb:bs[k]?=some b)(hl:b.st.live=true)(hh:h<=c):iT 2 (mem bs) (.sl k 0 n c 2 ex) none (some (.i .i64 (.ofNat h))) (some (.i .i64 (.ofNat h))) K=K (if h=0 then .tree [] 0 true else .sl k 0 h h 2 true) (mem bs):=by
 show(iq (mem bs) k λb=>cnd (lv b.st) (cnd (Nat.ble h c) (cnd (Nat.ble h h) (cnd (Nat.ble 0 h) (cnd (Nat.beq 2 2) (nM true λex=>cnd (Nat.blt 0 h) (frc (Nat.add 0 (Nat.mul 0 2)) λoff=>frc (Nat.sub h 0) λl'=>frc (Nat.sub h 0) λcm=>K (.sl k off l' cm 2 ex) (mem bs)) (K (.tree [] 0 ex) (mem bs))) none) none) none) none) none)=_;rw[gV hb,nQ,hl,aD hh,aD (aC h),aD (aJ h)];simp only[fH,iz,fj,gE];by_cases h0:h=0
 ·subst h0;rfl
 ·rw[fk eP,aG h0];rfl
def U9{X i:D}:(eU (.b true) true (λk=>eT 2 s X i k) s λx s=>eU (.b true) true (λk=>fF 1 s x k) s λx s=>eU (.b true) true (λk=>eR s x k) s K)=eT 2 s X i λa s=>fF 1 s a λa s=>eR s a K:=rfl
def z2S(hb:bs[k]?=some ⟨zs l,st⟩)(hl:st.live=true)(hi:i<n)(hi':i<l.length):(eT 2 (mem bs) (.sl k 0 n c 2 ex) (.i kk (.ofNat i)) λa s=>fF 1 s a λa s=>eR s a K)=K (.n (ei l i).natAbs) (mem bs):=by
 refine th (DY hb hl hi) ?_;rw[aN];refine th qm ?_;rw[hb,jY];show cnd st.live _ none=_;rw[hl,fH];refine vp hb hl ?_;show(zs l)[i*2+1]?=_;have h1:=EX hi';have h2:((zs l).drop (i*2))[1]?=(zs l)[i*2+1]?:=by rw[cA]
 rw[<-h2];have h3:(((zs l).drop (i*2)).take 2)[1]?=some (.n (ei l i).natAbs):=by rw[h1];rfl
 rw[cN]at h3;simpa using h3
def OJ(hj:h<=l.length)(hz:∀k,h<=k->ei l k=0)(ht:h=0\/ei l (h-1)≠0):tzI l=l.take h:=by
 obtain⟨j,h1,h2,h3,h4⟩:=qR l;have:j=h:=by
  rcases cy j h with g|g|g
  ·exfalso;rcases ht with e|e
   ·omega
   ·exact e (h3 (h-1) eP)
  ·exact g
  ·exfalso;obtain⟨d,hd⟩:∃d,j=d+1:=⟨j-1,eP⟩
   exact h4 d hd (hz d eP)
 rw[h2,this]
def AH(hb:bs[k]?=some ⟨zs l,.rw⟩)(hn:l.length=n)(hnc:n<=c)(hs:n<=1000000000){kk:fK}:∀(h f:Nat),h<=n->h<f->(∀j,h<=j->ei l j=0)->
 lp li (mL φ kk) f (.sl k 0 n c 2 ex) (.i .i64 (.ofNat h)) (mem bs)=kk (slT k (tzI l)) (mem bs):=by
 have fin:∀h,h<=n->(∀j,h<=j->ei l j=0)->(h=0\/ei l (h-1)≠0)->(iT 2 (mem bs) (.sl k 0 n c 2 ex) none (some (.i .i64 (.ofNat h))) (some (.i .i64 (.ofNat h))) λx16 s=>kk x16 s)=kk (slT k (tzI l)) (mem bs):=λh hh hz hl=>by
  refine th (z45 hb rfl eP) ?_;have h1:=OJ (l:=l) (h:=h) eP hz hl;have h2:(tzI l).length=h:=by rw[h1,aR];omega
  unfold slT;rw[h2]
 intro h
 induction h with
 |zero=>
  intro f hh hf hz;obtain⟨f,rfl⟩:∃q,f=q+1:=⟨f-1,eP⟩
  rw[ep];unfold mL;exact th (qw eP) (th gx (th gx (th gx (th gx (th gx (th gx (th gx (th ga (th ez (fin 0 (aJ _) hz (Or.inl rfl)))))))))))
 |succ h ih=>
  intro f hh hf hz;obtain⟨f,rfl⟩:∃q,f=q+1:=⟨f-1,eP⟩
  rw[ep];unfold mL;refine th (oG eP) (th gG (th gG (th gG (th (iJ eP eP) (th U9 ?_)))));rw[au];refine th (z2S hb rfl eP eP) (th gG (th Cf ?_));by_cases h0:ei l h=0
  ·rw[h0];refine th gT (th fG (th (iJ eP eP) ?_));rw[au];exact ih f eP eP λj hj=>by
    by_cases e:j=h
    ·rw[e];exact h0
    ·exact hz j eP
  ·rw[ik eP];exact th gT (th ez (fin (h+1) hh hz (Or.inr h0)))
def ML(hb:bs[k]?=some ⟨zs l,.rw⟩)(hn:l.length=n)(hnc:n<=c)(hs:n<=1000000000)(hφ:gW φ){kk:fK}:oL φ [.sl k 0 n c 2 ex] (mem bs) kk=kk (slT k (tzI l)) (mem bs):=by
 unfold oL;dsimp only[fJ,fV];exact th ou (AH hb hn hnc hs n φ (aC _) eP λj hj=>jr eP)
def RL(r:D)(l:fZ):Prop:=(∃e,r=zn l e/\l=[])\/r=.own (zs l) l.length 2
def TE(hb:bs[k]?=some b)(hc:b.cs.take (n*2)=zs l)(hl:b.st.live=true)(hn:l.length=n):∃e,res (mem bs).get 60 (.sl k 0 n c 2 ex)=some (zn l e,[k]):=by
 refine⟨ex&&c==n,?_⟩;have hle:n*2<=b.cs.length:=by
  have:=congrArg List.length hc;rw[aR,mA,hn]at this;omega
 have h1:=wx (g:=(mem bs).get) (n:=59) (l:=k) (off:=0) (len:=n) (cm:=c) (z:=2) (ex:=ex) (r:=zs l) (cs:=zs l) (ls:=[]) (by rw[mK];exact hb) hl (by
  unfold cut;rw[a7,hc,aF (by rw[mA,hn])]) (mG (k:=58) _ (Bf l))
 rw[h1];unfold zn;rw[hn]
def FP(hb:bs[k]?=some b)(hc:b.cs.take (n*2)=zs l)(hl:b.st.live=true)(hn:l.length=n):∃e,fO false (mem bs) (.sl k 0 n c 2 ex) some=some (zn l e):=by
 obtain⟨e,he⟩:=TE (c:=c) (ex:=ex) hb hc hl hn;refine⟨e,?_⟩;unfold fO;rw[lJ];show sk (lf false (mem bs).get gJ (.sl k 0 n c 2 ex)) some=_;have:lf false (mem bs).get gJ (.sl k 0 n c 2 ex)=some (zn l e):=by
  show(match yF (res (mem bs).get 60 (.sl k 0 n c 2 ex))with
   |some (d,o,ls)=>if o.all λl=> !ls.contains l then some d else none
   |none=>none)=_
  rw[he];rfl
 rw[this,gc];rfl
def Sw(hb:bs[k]?=some ⟨cs,.rw⟩)(hc:cs.take (n*2)=zs l)(hn:l.length=n):fO true (mem bs) (.sl k 0 n c 2 ex) some=some (.own (zs l) n 2):=by
 have hle:n*2<=cs.length:=by
  have:=congrArg List.length hc;rw[aR,mA,hn]at this;omega
 have z6f:cut 0 (n*2) cs=some (zs l):=by
  unfold cut;rw[a7,hc,aF (by rw[mA,hn])]
 unfold fO;rw[lJ];show sk (lf true (mem bs).get gJ (.sl k 0 n c 2 ex)) some=_;have:lf true (mem bs).get gJ (.sl k 0 n c 2 ex)=some (.own (zs l) n 2):=by
  have e1:vL true (mem bs).get 60 (.sl k 0 n c 2 ex)=some (.own (zs l) n 2,[k],[]):=by
   show(match (mem bs).get k with
    |some b=>if b.st.wr then match cut 0 (n*2) b.cs with
     |some r=>match i8 (res (mem bs).get 60) r with
      |some (cs,ls)=>some (D.own cs n 2,[k],ls)
      |none=>none
     |none=>none
     else yF (res (mem bs).get 60 (.sl k 0 n c 2 ex))
    |none=>none)=_
   rw[mK,hb];show(match cut 0 (n*2) cs with
    |some r=>match i8 (res (mem bs).get 60) r with
     |some (cs,ls)=>some (D.own cs n 2,[k],ls)
     |none=>none
    |none=>none)=_
   rw[z6f];show(match i8 (res (mem bs).get 60) (zs l)with
    |some (cs,ls)=>some (D.own cs n 2,[k],ls)
    |none=>none)=_
   rw[mG (k:=59) _ (Bf l)]
  show(match vL true (mem bs).get 60 (.sl k 0 n c 2 ex)with
   |some (d,o,ls)=>if o.all λl=> !ls.contains l then some d else none
   |none=>none)=_
  rw[e1];rfl
 rw[this,gc];rfl
def OI{L:fZ}(h:l=L.take n):(zs L).take (n*2)=zs l:=by rw[EV,h]
def SX:tzI l=l.take (tzI l).length:=by
 obtain⟨j,h1,h2,_⟩:=qR l;have:(tzI l).length=j:=by rw[h2,aR];omega
 rw[this];exact h2
def O0(own:Bool)(hb:bs[k]?=some ⟨zs l,.rw⟩):∃r,(own=true->RL r (tzI l))/\fO own (mem bs) (slT k (tzI l)) some=some r/\(own=false->∃e,r=zn (tzI l) e):=by
 unfold slT;by_cases h0:(tzI l).length=0
 ·rw[aF h0];have h1:tzI l=[]:=aZ h0;rw[h1];exact⟨.tree [] 0 true,λ_=>Or.inl ⟨true,rfl,rfl⟩,AK,λ_=>⟨true,rfl⟩⟩
 ·rw[aG h0];cases own with
  |true=>exact⟨_,λ_=>Or.inr rfl,Sw hb (OI SX) rfl,λh=>by cases h⟩
  |false=>
   obtain⟨e,he⟩:=FP (c:=(tzI l).length) (ex:=true) hb (OI SX) rfl (show(tzI l).length=_ from rfl);exact⟨_,λh=>(by cases h),he,λ_=>⟨e,rfl⟩⟩
def w9(v:Nat->Int)(i j:Nat):fZ:=(List.range i).map v++List.replicate j 0
def Um{v:Nat->Int}:(w9 v i j).length=i+j:=by simp[w9]
def Uk{v:Nat->Int}:(w9 v i (j+1)).set i (v i)=w9 v (i+1) j:=by
 unfold w9;rw[bU _ _ fU,aj,zna,bD,ch,ck,zmu,bG,aQ];rfl
def Jb{v:Nat->Int}:w9 v 0 n=List.replicate n 0:=by unfold w9;rw[List.range_zero];rfl
def Ce{v:Nat->Int}:w9 v n 0=(List.range n).map v:=by unfold w9;rw[zmq,bQ]
def wrf{v:Nat->Int}(hb:bs[k]?=some ⟨zs (w9 v i (j+1)),.rw⟩)(hi:i<n):(eT 2 (mem bs) (.sl k 0 n c 2 ex) (.i kk (.ofNat i)) λa s=>fA 2 s a (itz (v i)) K)=K .u (mem (bs.set k ⟨zs (w9 v (i+1) j),.rw⟩)):=by
 refine th (wrb hb hi (by rw[Um];omega)) ?_;rw[Uk]
def Ox{F:Int->Int}:(List.range l.length).map (λi=>F (ei l i))=l.map F:=by
 refine cr fU λi h1 h2=>?_;rw[cZ,cn,cZ];unfold ei;rw[aB,aE (by simpa using h2)];rfl
def K6(hm:z≠0)(hzb:Lg 900000000 z.natAbs)(hB:BdL B l)(hBl:Lg 900000000 B)(hs:l.length<=1000000000)(hφ:gW φ){e:Bool}:∀(j i fu:Nat)(bs:fQ),i+j=l.length->j<fu->bs[0]?=some ⟨zcs z,.rw⟩->bs[1]?=some ⟨zs (w9 (λi=>ei l i%z) i j),.rw⟩->
 ∃r,RL r (mZ z l)/\lp gQ (pD φ) fu (.ptr 0 0) (.sl 1 0 l.length l.length 2 true) (zn l e) (ni l.length) (ni i) (mem bs)=some r
 |0,i,fu+1,bs,h,hfu,h0,h1=>by
  have:i=l.length:=eP;subst this;rw[Ce,Ox (F:=λa=>a%z)]at h1;obtain⟨r,g1,g2,_⟩:=O0 true h1;refine⟨r,g1 rfl,?_⟩;rw[ep];unfold pD;exact th (gP eP) (th ez (th (ML h1 fU (aC _) hs hφ) g2))
 |j+1,i,fu+1,bs,h,hfu,h0,h1=>by
  have hlen:=fC h1;have h1':(bs++[⟨zcs (ei l i),.rw⟩])[1]?=some ⟨zs (w9 (λi=>ei l i%z) i (j+1)),.rw⟩:=fW h1;have hx:Lg 900000000 (ei l i).natAbs:=iK hBl (hB.get i);obtain⟨r,g1,g2⟩:=K6 hm hzb hB hBl hs hφ (e:=e) j (i+1) fu ((bs++[Blk.mk (zcs (ei l i)) .rw]).set 1 ⟨zs (w9 (λi=>ei l i%z) (i+1) j),.rw⟩) eP eP (fc eV (fW h0)) (aH (fC h1'));refine⟨r,g1,?_⟩;rw[ep];unfold pD;refine th (gX eP) (th fG (th (ldt eP) (th (al2 rfl) (th A7 (th (fa0 (fW h0) rfl) (th (iDM hx hzb hm hφ) (th iG (th iF (th (wrf (v:=λi=>ei l i%z) h1' eP) (th (gA eP) g2))))))))))
def QX(hm:z≠0)(hzb:Lg 900000000 z.natAbs)(hB:BdL B l)(hBl:Lg 900000000 B)(hs:l.length<=1000000000)(hφ:gW φ){e:Bool}:∃r,RL r (mZ z l)/\gn φ [itz z,zn l e]=some r:=by
 obtain⟨r,g1,g2⟩:=K6 hm hzb hB hBl hs hφ (e:=e) l.length 0 φ (([]++[(Blk.mk (zcs z) .rw)])++[Blk.mk (zs (List.replicate l.length 0)) .rw]) eP eP rfl (by rw[Jb];rfl);refine⟨r,g1,?_⟩;unfold gn;dsimp only[fJ,fV];rw[<-fg];exact th HM (th fY (th (mkz hs) (th fY g2)))
end
section
variable {bs:fQ} {l f g os:fZ} {b:Blk} {i j k n c h w X Y S:Nat} {ex:Bool} {s:LS} {K:fK} {kk:IntKind} {φ:Nat} {z x y:Int} {cs:fN} {P:Option D->Prop} {st:Stt} {r:D}
structure ZR (bs bs':fQ) (V:D) (l:fZ):Prop where
 old:∀(k:Nat)(b:Blk),bs[k]?=some b->bs'[k]?=some b
 val:(∃e,V=zn l e/\l=[])\/(V=.sl bs.length 0 l.length l.length 2 false/\bs'[bs.length]?=some ⟨zs l,.rw⟩)
def Tl(hr:RL r l)(hne:wT r=false):∃V bs',ZR bs bs' V l/\∀K:fK,Kr (mem bs) r K=K V (mem bs'):=by
 rcases hr with⟨e,rfl,hl⟩|rfl
 ·exact⟨zn l e,bs,⟨λ_ _ h=>h,Or.inl ⟨e,rfl,hl⟩⟩,λK=>rfl⟩
 ·refine⟨_,bs++[⟨zs l,.rw⟩],⟨λk b h=>fW h,Or.inr ⟨rfl,by simp⟩⟩,λK=>?_⟩;show lh (mem bs) ⟨zs l,.rw⟩ (λs'=>K (.sl (mem bs).nx 0 l.length l.length 2 false) s')=_;rw[kI,mP]
def RL.nf(hr:RL r l):wT r=false:=by
 rcases hr with⟨e,rfl,_⟩|rfl<;>rfl
def J2{Mf:fP}{as:fN}(ha:∀(s:LS)(kk:fN->eZ->Rs),ma (jX s gJ) as kk=kk as [])(hM:Mf as=some r)(hr:RL r l):∃V bs',ZR bs bs' V l/\∀K:fK,eY Mf as (mem bs) K=K V (mem bs'):=by
 obtain⟨V,bs',h1,h2⟩:=Tl (bs:=bs) hr hr.nf;refine⟨V,bs',h1,λK=>?_⟩;unfold eY;rw[ha,hM,jY];unfold nD;rw[lJ,hr.nf];exact h2 K
def M9{bs':fQ}{V:D}(h:ZR bs bs' V l):∃e,fO false (mem bs') V some=some (zn l e):=by
 rcases h.val with⟨e,rfl,_⟩|⟨rfl,hb⟩
 ·exact⟨e,jV⟩
 ·exact FP hb (by show(zs l).take _=_;rw[<-mA,bV]) rfl rfl
def J1{Mf:fP}{L l2:fZ}(hb:bs[k]?=some ⟨zs L,.rw⟩)(hl:l=L.take n)(hn:l.length=n)(hM:∀e,∃r,RL r l2/\Mf [itz z,zn l e]=some r):∃V bs',(∀j b,j≠k->bs[j]?=some b->bs'[j]?=some b)/\ZR (bs.set k ⟨zs L,.frz⟩) bs' V l2/\∀K:fK,eY Mf [itz z,.sl k 0 n c 2 ex] (mem bs) K=K V (mem bs'):=by
 have hle:n*2<=(zs L).length:=by
  rw[hl,aR]at hn;rw[mA];omega
 have z9a:∃e,∀F,jX (mem bs) 60 (.sl k 0 n c 2 ex) F=F (zn l e) [k]:=by
  refine⟨cnd ex (Nat.beq c n) false,λF=>?_⟩;show(iq (mem bs) k λb=>cnd (lv b.st) (jJ 0 b.cs λr=>jP (Nat.mul n 2) r λr=>ma (jX (mem bs) 59) r λcs ls=>nM (cnd ex (Nat.beq c n) false) λex=>F (.tree cs n ex) (k::ls)) none)=_;rw[gV hb];show cnd (lv .rw) (jJ 0 (zs L) _) none=_;rw[nQ,show Stt.rw.live=true from rfl,fH,gZ,a7,i7,show Nat.mul n 2=n*2 from rfl,aF hle,EV,<-hl,xR (n:=58) (Bf l),iz];unfold zn;rw[hn]
 obtain⟨e,he⟩:=z9a;obtain⟨r,hr,hM⟩:=hM e;obtain⟨V,bs',h1,h2⟩:=Tl (bs:=bs.set k ⟨zs L,.frz⟩) hr hr.nf;refine⟨V,bs',λj b hj hb'=>h1.old j b (fc (Ne.symm hj) hb'),h1,λK=>?_⟩;show(jX (mem bs) 60 (.sl k 0 n c 2 ex) λy a=>pk a [] λab=>ob (Mf [itz z,y]) λr=>nD (mem bs) ab r K)=_;rw[he,jt,hM,jY];unfold nD;rw[lJ,hr.nf];show(iq (mem bs) k λb=>oh (mem bs) k ⟨b.cs,fzS b.st⟩ λs=>Kr s r K)=_;rw[gV hb,mD (fC hb)];exact h2 K
def FH{a o:fZ}{u w:Int}:(a++u::o).set a.length w=(a++[w])++o:=by
 rw[bU _ _ (aC _),bD,aQ];rfl
def yX{a o:fZ}{u:Int}:ei (a++u::o) a.length=u:=by
 rw[VB (aC _),bD];rfl
def OA(hx:x.natAbs<=X)(hg:BdL Y g)(hXY:Lg 900000000 (X*Y))(hX:Lg 900000000 X)(hY:Lg 900000000 Y)(hS:Lg 900000000 S){N kx:Nat}(hN:N<=1000000)(hkx:kx≠0){eg:Bool}{A B':D}{j22:jo}:∀(yr os yd done:fZ)(fu:Nat)(bs:fQ),g=yd++yr->done.length=i+yd.length->(done++os).length=N->yr.length<=os.length->yr.length<fu->BdL S os->bs[0]?=some ⟨zs (done++os),.rw⟩->bs[kx]?=some ⟨zcs x,.rw⟩->i<N->(∀bs',bs'[0]?=some ⟨zs (done++qA x yr os),.rw⟩->P (j22 (zn g eg) (.sl 0 0 N N 2 true) A B' (ni i) (mem bs')))->
 P (lp uh (wq φ j22) fu (zn g eg) (.sl 0 0 N N 2 true) (ni i) (.ptr kx 0) A B' (ni i) (zn g eg) (ni g.length) (ni yd.length) (mem bs))
 |[],os,yd,done,fu+1,bs,h1,h2,h3,h4,h5,h6,hb,hk,hi,hP=>by
  rw[bQ]at h1;rw[ep];unfold wq;exact pm (gP (by rw[h1];omega)) (pm ez (hP bs hb))
 |y::yr,[],yd,done,fu+1,bs,h1,h2,h3,h4,h5,h6,hb,hk,hi,hP=>by simp at h4
 |y::yr,o::os,yd,done,fu+1,bs,h1,h2,h3,h4,h5,h6,hb,hk,hi,hP=>by
  have hlt:yd.length<g.length:=by rw[h1];simp
  have hy:ei g yd.length=y:=by rw[h1];exact yX
  have hyY:y.natAbs<=Y:=by rw[<-hy];exact hg.get _
  have hoS:o.natAbs<=S:=h6 o (b9 ..);have hin:i+yd.length<N:=by rw[<-h3];simp;omega
  have hxy:(x*y).natAbs<=X*Y:=by rw[bt];exact ay hx hyY
  have ho:ei (done++o::os) (i+yd.length)=o:=by rw[<-h2];exact yX
  have hb':(bs++[Blk.mk (zcs y) .rw])[0]?=some ⟨zs (done++o::os),.rw⟩:=fW hb;have e1:(done++o::os).set (i+yd.length) (o+x*y)=(done++[o+x*y])++os:=by rw[<-h2];exact FH
  have zjx:g.length<=1000000:=by
   have:(yd++y::yr).length<=N:=by simp at h3 h4 ⊢;omega
   rw[h1];omega
  rw[ep];unfold wq;refine pm (gX hlt) (pm fG (pm (ldt hlt) ?_));rw[hy];refine pm (al2 rfl) (pm (gA eP) (pm (gA eP) (pm (ldb (st:=.rw) hb' rfl hin (by rw[h3];exact hin)) ?_)));rw[ho];refine pm (ld2 (st:=.rw) (fW hk) rfl) (pm A7 (pm (DZ (fM (iK hX hx) eV) (fM (iK hY hyY) eV)) (pm (Xt (fM (iK hS hoS) eV) (fM (iK hXY hxy) eV)) (pm (wrb hb' hin (by rw[h3];exact hin)) (pm (gA eP) ?_)))));rw[e1];have ih:=OA hx hg hXY hX hY hS hN hkx (eg:=eg) (A:=A) (B':=B') (j22:=j22) yr os (yd++[y]) (done++[o+x*y]) fu ((bs++[Blk.mk (zcs y) .rw]).set 0 ⟨zs ((done++[o+x*y])++os),.rw⟩) (by rw[h1,aQ];rfl) (by simp;omega) (by rw[<-h3];simp) (c7 h4) (by simp at h5;omega) (λa ha=>h6 a (bC _ ha)) (aH (fC hb')) (fc (Ne.symm hkx) (fW hk)) hi (λbs' hb2=>hP bs' (by rw[hb2,aQ];rfl));rw[show(yd++[y]).length=yd.length+1 by simp]at ih;exact ih
def Nz(hf:BdL X f)(hg:BdL Y g)(hg0:0<g.length)(hXY:Lg 900000000 (X*Y))(hX:Lg 900000000 X)(hY:Lg 900000000 Y){T N:Nat}(hT:Lg 900000000 T)(hN:N<=1000000)(hφ:gW φ){ef eg:Bool}(hP:∀bs',bs'[0]?=some ⟨zs (vV g f (List.replicate N 0)),.rw⟩->P (oL φ [.sl 0 0 N N 2 true] (mem bs') λx61 s=>fO false s x61 some)):∀(xr os xd done:fZ)(S fu:Nat)(bs:fQ),f=xd++xr->done.length=xd.length->(done++os).length=N->os.length+1=xr.length+g.length->xr.length<fu->BdL S os->S+xr.length*(X*Y)<=T->bs[0]?=some ⟨zs (done++os),.rw⟩->done++vV g xr os=vV g f (List.replicate N 0)->
 P (lp gQ (tT φ) fu (zn g eg) (.sl 0 0 N N 2 true) (zn f ef) (ni f.length) (ni xd.length) (mem bs))
 |[],os,xd,done,S,fu+1,bs,h1,h2,h3,h4,h5,h6,hS,hb,he=>by
  rw[bQ]at h1;rw[ep];unfold tT;exact pm (gP (by rw[h1];omega)) (pm ez (hP bs (by rw[<-he];exact hb)))
 |x::xr,os,xd,done,S,fu+1,bs,h1,h2,h3,h4,h5,h6,hS,hb,he=>by
  have hlt:xd.length<f.length:=by rw[h1];simp
  have hx:ei f xd.length=x:=by rw[h1];exact yX
  have hxX:x.natAbs<=X:=by rw[<-hx];exact hf.get _
  have hle:g.length<=os.length:=by simp at h4;omega
  have zjC:f.length<=1000000:=by
   have:(xd++x::xr).length<=N:=by simp at h3 h4 ⊢;omega
   rw[h1];omega
  have hl:=xJ (x:=x) hle;have hST:S<=T:=aX (cL _ _) hS;have hbd:=yE (x:=x) hxX hg h6;obtain⟨o,os',hr⟩:∃o os',qA x g os=o::os':=by
   cases hr:qA x g os with
   |nil=>rw[hr]at hl;simp at hl;omega
   |cons o os'=>exact⟨o,os',rfl⟩
  rw[hr]at hl hbd;have he2:vV g (x::xr) os=o::vV g xr os':=by show(match qA x g os with|[]=>[]|o::os'=>o::vV g xr os')=_;rw[hr]
  rw[he2]at he;have z6w:∀bs',bs'[0]?=some ⟨zs (done++o::os'),.rw⟩->P (f7 (ni xd.length) ej λx28=>lp gQ (tT φ) fu (zn g eg) (.sl 0 0 N N 2 true) (zn f ef) (ni f.length) x28 (mem bs')):=λbs' hb'=>by
   refine pm (gA eP) ?_;have ih:=Nz hf hg hg0 hXY hX hY hT hN hφ (ef:=ef) (eg:=eg) hP xr os' (xd++[x]) (done++[o]) (S+X*Y) fu bs' (by rw[h1,aQ];rfl) (by simp;omega) (by rw[<-h3];simp at hl ⊢;omega) (by simp at h4 hl;omega) (by simp at h5;omega) (λa ha=>hbd a (bC _ ha)) (by rw[ah,aS,ao]at hS;omega) (by rw[hb',aQ];rfl) (by rw[aQ];exact he);rw[show(xd++[x]).length=xd.length+1 by simp]at ih;exact ih
  rw[ep];unfold tT;refine pm (gX hlt) (pm fG (pm sj (pm (ldt hlt) ?_)));rw[hx];refine pm (al2 rfl) (pm (fa1 (z:=x) (st:=.rw) fU rfl) (pm Cf ?_));by_cases h0:x=0
  ·subst h0;have:o::os'=os:=by rw[<-hr];exact M8 g os hle
   rw[this]at z6w;exact pm fG (z6w _ (fW hb))
  ·rw[ik eP];refine pm ez (pm fY ?_);have hk0:0<bs.length:=fC hb;have hgN:g.length<=N:=by
    have:os.length<=(done++os).length:=by simp
    omega
   exact OA (φ:=φ) hxX hg hXY hX hY (iK hT hST) hN (show bs.length≠0 by omega) g os [] done φ (bs++[Blk.mk (zcs x) .rw]) rfl (by simp;omega) h3 hle eP h6 (fW hb) fU (by rw[<-h3];simp;omega) (λbs' hb'=>z6w bs' (by rw[hr]at hb';exact hb'))
def Yg(hf:BdL X f)(hg:BdL Y g)(hX:Lg 900000000 X)(hY:Lg 900000000 Y)(hT:Lg 900000000 (f.length*(X*Y)))(hf0:0<f.length)(hg0:0<g.length)(hN:f.length+g.length<=1000000)(hφ:gW φ){ef eg:Bool}:∃e,uE φ [zn f ef,zn g eg]=some (zn (xP f g) e):=by
 have hXY:Lg 900000000 (X*Y):=by
  refine iK hT ?_;have:1*(X*Y)<=f.length*(X*Y):=aK _ hf0;omega
 unfold uE;dsimp only[fJ,fV];rw[<-fg]
 suffices h:(λo=>∃e,o=some (zn (xP f g) e)) (fT (zn f ef) (mem []) λx9 s=>fT (zn g eg) s λx10 s=>f7 x9 x10 λx11=>fe x11 ej λx12=>io 2 24 gL s x12 x12 λx13 s=>fT (zn f ef) s λx14 s=>lp gQ (tT φ) φ (zn g eg) x13 (zn f ef) x14 fB s) by
  obtain⟨e,he⟩:=h;exact⟨e,th fY (th (mJ eP) (th iX (th iX (th fY (th iX (th (mJ eP) (th ga (th ez he))))))))⟩
 generalize hP:(λo:Option D=>∃e,o=some (zn (xP f g) e))=P;have hP':∀e,P (some (zn (xP f g) e)):=λe=>by rw[<-hP];exact⟨e,rfl⟩
 refine pm fY (pm fY (pm (gA eP) (pm (iJ eP eP) (pm (mkz eP) (pm fY ?_)))));refine Nz hf hg hg0 hXY hX hY hT (N:=f.length+g.length-1) eP hφ (λbs' hb'=>?_) f (List.replicate (f.length+g.length-1) 0) [] [] 0 φ _ rfl rfl fU (by simp;omega) eP (λa ha=>by rw[cG ha];exact aC 0) eP rfl rfl;have hlen:(vV g f (List.replicate (f.length+g.length-1) 0)).length=f.length+g.length-1:=by
  rw[Fg (by rw[bg];omega) hg0,bg]
 obtain⟨r,_,g2,g3⟩:=O0 false hb';obtain⟨e,rfl⟩:=g3 rfl;exact pm (ML hb' hlen (aC _) eP hφ) (pm g2 (hP' e))
def MO{ef eg:Bool}:uE φ [zn [] ef,zn g eg]=some (zn [] true):=rfl
def MM(hf0:0<f.length){ef eg:Bool}:uE φ [zn f ef,zn [] eg]=some (zn [] true):=by
 unfold uE;dsimp only[fJ,fV];exact th fY (th (mJ eP) (th iX (th iX (th fY (th iX (th (oW rfl) (th ga (th fG rfl))))))))
end
section
variable {bs:fQ} {l f g:fZ} {b:Blk} {i j k n m c h w v B M X N:Nat} {ex:Bool} {s:LS} {K:fK} {kk:IntKind} {φ:Nat} {z x y:Int} {cs:fN} {st:Stt} {r:D} {ls:eZ} {u t:ZX}
def AV(bs:fQ)(X V:D)(ls:eZ):Prop:=∀F:D->eZ->Rs,jX (mem bs) gJ X F=F V ls
inductive AVL (bs:fQ):fN->fN->eZ->Prop
 |nil:AVL bs [] [] []
 |cons {X V:D} {Xs Vs:fN} {ls ls':eZ} (h:AV bs X V ls) (t:AVL bs Xs Vs ls'):AVL bs (X::Xs) (V::Vs) (ls++ls')
def AVL.map{Xs Vs:fN}(h:AVL bs Xs Vs ls):∀F:fN->eZ->Rs,ma (jX (mem bs) gJ) Xs F=F Vs ls:=by
 induction h with
 |nil=>exact λF=>rfl
 | @cons X V Xs Vs l1 l2 h t ih=>
  intro F;show(jX (mem bs) gJ X λy a=>ma (jX (mem bs) gJ) Xs λys b=>pk a b λab=>F (y::ys) ab)=_;rw[h,ih,jt]
def NZ:∀(ls:eZ)(bs:fQ),(∀k,k∈ls->k<bs.length)->∃bs':fQ,bs'.length=bs.length/\(∀(k:Nat)(b:Blk),k∉ls->bs[k]?=some b->bs'[k]?=some b)/\∀F:LS->Rs,Aa ls (mem bs) F=F (mem bs')
 |[],bs,_=>⟨bs,rfl,λ_ _ _ h=>h,λF=>rfl⟩
 |k::ls,bs,h=>by
  have hk:=h k (b9 ..);obtain⟨bs',h0,h1,h2⟩:=NZ ls (bs.set k ⟨bs[k].cs,fzS bs[k].st⟩) λj hj=>by rw[a8];exact h j (bC _ hj)
  refine⟨bs',by rw[h0,a8],λj b hj hb=>h1 j b (λhm=>hj (bC _ hm)) (fc (λe=>hj (by rw[<-e];exact b9 ..)) hb),λF=>?_⟩;show(iq (mem bs) k λb=>oh (mem bs) k ⟨b.cs,fzS b.st⟩ λs=>Aa ls s F)=_;rw[gV (aE hk),mD hk,h2]
def xY{Mf:fP}{Xs Vs:fN}{e:Bool}(hA:AVL bs Xs Vs ls)(hl:∀k,k∈ls->k<bs.length)(hM:Mf Vs=some (zn l e)):∃bs',bs'.length=bs.length/\(∀(k:Nat)(b:Blk),k∉ls->bs[k]?=some b->bs'[k]?=some b)/\∀K:fK,eY Mf Xs (mem bs) K=K (zn l e) (mem bs'):=by
 obtain⟨bs',h0,h1,h2⟩:=NZ ls bs hl;refine⟨bs',h0,h1,λK=>?_⟩;unfold eY;rw[hA.map,hM,jY];unfold nD;rw[lJ];exact h2 _
def Vo:AV bs (itz z) (itz z) []:=λF=>rfl
def z1C{k:IntKind}:AV bs (.i k z) (.i k z) []:=λF=>rfl
def Vp{e:Bool}:AV bs (zn l e) (zn l e) []:=λF=>rfl
def Ro(hb:bs[k]?=some ⟨zs l,st⟩)(hl:st.live=true)(hn:l.length=n):∃e,AV bs (.sl k 0 n c 2 ex) (zn l e) [k]:=by
 subst hn;refine⟨cnd ex (Nat.beq c l.length) false,λF=>?_⟩;show(iq (mem bs) k λb=>cnd (lv b.st) (jJ 0 b.cs λr=>jP (Nat.mul l.length 2) r λr=>ma (jX (mem bs) 59) r λcs ls=>nM (cnd ex (Nat.beq c l.length) false) λex=>F (.tree cs l.length ex) (k::ls)) none)=_;rw[gV hb];show cnd (lv st) (jJ 0 (zs l) _) none=_;rw[nQ,hl,fH,gZ,a7,i7,show Nat.mul l.length 2=l.length*2 from rfl,aF (by rw[mA];exact aC _),<-mA,bV,xR (n:=58) (Bf l),iz];rfl
structure MD (M φ:Nat):Prop where
 two:2<=M
 lg:Lg 100000 M
 ph:3000000000<=φ
structure RV (M:Nat) (h:fZ) (x:ZX) (N:Nat):Prop where
 cg:CgZ M (zl h) x
 rd:RdZ M (zl h)
 bd:BdL M h
 ln:h.length<=N
 tr:∀n,tI n (zl h)->h.length<=n
def te(h:n<=1000000):Lg 20 n:=xS (by show n<2097152;omega)
def MD.big(h:MD M φ)(hn:n<=1000000):Lg 900000000 (n*(M*M)):=fM (mB (te hn) (mB h.lg h.lg)) eV
def MD.lgM(h:MD M φ):Lg 900000000 M:=fM h.lg eV
def MD.ne(h:MD M φ):(M:Int)≠0:=by have:=h.two;omega
def Iv(h:MD M φ)(hx:CgZ M (zl l) u)(hN:∀k,N<=k->ei l k%(M:Int)=0):RV M (mZ M l) u N:=
 ⟨Mc.tr hx,z0h (by have:=h.two;omega),JC rfl (by have:=h.two;omega),O3 hN,λn hn=>EY λk hk=>by
  have:=hn k hk;rw[sd]at this;unfold mZ at this;rwa[wU]at this⟩
def sg(h:MD M φ)(hB:BdL B l)(hBl:Lg 900000000 B)(hs:l.length<=1000000000){e:Bool}:∃r,RL r (mZ M l)/\gn φ [itz (M:Nat),zn l e]=some r:=
 QX h.ne (by show Lg _ ((M:Nat):Int).natAbs;rw[bJ];exact h.lgM) hB hBl hs h.ph
def t8(h:MD M φ)(hf:BdL M f)(hg:BdL M g)(hfl:f.length<=400000)(hgl:g.length<=400000){ef eg:Bool}:∃o e,RV M o (zl f*zl g) (f.length+g.length-1)/\gh φ [itz (M:Nat),zn f ef,zn g eg]=some (zn o e):=by
 have hp:∃o e,zl o=zl f*zl g/\o.length<=f.length+g.length-1/\BdL (1000000*(M*M)) o/\uE φ [zn f ef,zn g eg]=some (zn o e):=by
  by_cases hf0:f=[]
  ·subst hf0;exact⟨[],true,by rw[pK];exact z69,aJ _,λx hx=>(by cases hx),MO⟩
  ·have hf1:=az.2 hf0;by_cases hg0:g=[]
   ·subst hg0;exact⟨[],true,by rw[pK];exact z69,aJ _,λx hx=>(by cases hx),MM hf1⟩
   ·have hg1:=az.2 hg0;obtain⟨e,he⟩:=Yg hf hg h.lgM h.lgM (h.big eP) hf1 hg1 eP h.ph (ef:=ef) (eg:=eg);exact⟨_,e,E4 hf1 hg1,Fi hf1 hg1,(Ot hf hg).mono (aK _ eP),he⟩
 obtain⟨o,e,h1,h2,h3,h4⟩:=hp;obtain⟨r,hr,hre⟩:=sg h h3 (h.big (aC _)) eP (e:=e);obtain⟨V,bs',hv,hve⟩:=J2 (bs:=[⟨zcs (M:Nat),.rw⟩]) (λs kk=>rfl) hre hr;obtain⟨e2,he2⟩:=M9 hv;refine⟨_,e2,Iv h (CgZ.of h1) (λk hk=>by rw[jr eP,dt]),?_⟩;unfold gh;dsimp only[fJ,fV];rw[<-fg];exact th HM (th (ld2 (k:=0) (st:=.rw) rfl rfl) (th (fX h4) (th (hve _) he2)))
def prg(v w:Nat->Int)(i n:Nat):fZ:=(List.range n).map λj=>if j<i then v j else w j
def CD{v w:Nat->Int}:(prg v w i n).length=n:=by simp[prg]
def Ml{v w:Nat->Int}:ei (prg v w i n) k=if k<n then(if k<i then v k else w k)else 0:=ue k
def Oa{v w:Nat->Int}:(prg v w i n).set i (v i)=prg v w (i+1) n:=by
 unfold prg;refine cr fU λj h1 h2=>?_;simp only[List.getElem_set,cZ,cn];by_cases e:i=j
 ·rw[aF e,aF eP,e]
 ·rw[aG e];by_cases e2:j<i
  ·rw[aF e2,aF eP]
  ·rw[aG e2,aG eP]
def z3i{e:Bool}(hb:bs[k]?=some ⟨zs (List.replicate n 0),.rw⟩)(hl:f.length<=n):∃m,IH 2 (mem bs) (.sl k 0 n c 2 ex) (zn f e) K=K m (mem (bs.set k ⟨zs (f++List.replicate (n-f.length) 0),.rw⟩)):=by
 refine⟨.i .i64 (.ofNat f.length),?_⟩;show(oI 2 (mem bs) (zn f e) λsrc n'=>iq (mem bs) k λb=>cnd (wr b.st) (cnd (Nat.beq 2 2) (sP src (frc (cnd (Nat.ble n' n) n' n) λm'=>jP (Nat.mul m' 2) src λsrc=>xU 0 src b.cs λcs=>oh (mem bs) k ⟨cs,.rw⟩ λs=>K (.i .i64 (.ofNat m')) s)) none) none)=_;rw[show ∀F:fN->Nat->Rs,oI 2 (mem bs) (zn f e) F=F (zs f) f.length from λF=>Jn (by rw[mA]),gV hb,Bj,show Stt.rw.wr=true from rfl,fH,show Nat.beq 2 2=true from rfl,fH,sY (MI f),aD hl,fH,fj,i7,show Nat.mul f.length 2=f.length*2 from rfl,aF (by rw[mA];exact aC _),<-mA,bV,qE];have:A8 0 (zs f) (zs (List.replicate n 0))=some (zs (f++List.replicate (n-f.length) 0)):=by
  unfold A8;rw[aF (by rw[mA,mA,bg];omega),dr,cW,aN,mA,EW,List.drop_replicate,MJ]
 rw[this,jY,mD (fC hb)]
def Lr(h:MD M φ)(hf:BdL M f)(hg:BdL M g)(hn:max f.length g.length=n)(hs:n<=1000000)(hz:z.natAbs<=1){eg:Bool}:∀(j i fu:Nat)(bs:fQ),i+j=g.length->j<fu->bs[0]?=some ⟨zcs (M:Nat),.rw⟩->bs[1]?=some ⟨zs (prg (λj=>ei f j+ei g j*z) (ei f) i n),.rw⟩->
 ∃e,lp iH (ki φ) fu (zd z) (.ptr 0 0) (.sl 1 0 n n 2 true) (zn g eg) (ni g.length) (ni i) (mem bs)=some (zn (mZ M (y3 z f g)) e)
 |0,i,fu+1,bs,hj,hfu,h0,h1=>by
  have hi:i=g.length:=eP;have z75:prg (λj=>ei f j+ei g j*z) (ei f) i n=y3 z f g:=by
   unfold prg y3;rw[hn];refine cz λj hj=>?_;by_cases e:j<i
   ·rw[aF e]
   ·rw[aG e,jr (l:=g) eP];omega
  rw[z75]at h1;have hlen:(y3 z f g).length=n:=by unfold y3;simp[hn]
  have hbd:BdL (M+M) (y3 z f g):=λx hx=>by
   obtain⟨j,_,rfl⟩:=dY.1 hx;have h2:=eJ (ei f j) (ei g j*z);rw[bt]at h2;have h3:=hf.get j;have h4:=hg.get j;have h5:(ei g j).natAbs*z.natAbs<=M*1:=ay h4 hz;omega
  obtain⟨V,bs',_,g2,g3⟩:=J1 (c:=n) (ex:=true) (l:=y3 z f g) (l2:=mZ M (y3 z f g)) (z:=(M:Nat)) (Mf:=gn φ) h1 (by rw[aP eP]) hlen λe=>sg h hbd (fM (tf h.lg h.lg) eV) eP;obtain⟨e2,he2⟩:=M9 g2;refine⟨e2,?_⟩;rw[ep];unfold ki;exact th (gP eP) (th ez (th (ld2 (st:=.rw) h0 rfl) (th (g3 _) he2)))
 |j+1,i,fu+1,bs,hj,hfu,h0,h1=>by
  have hin:i<n:=eP;have hb1:(bs++[Blk.mk (zcs (ei g i)) .rw])[1]?=some ⟨zs (prg (λj=>ei f j+ei g j*z) (ei f) i n),.rw⟩:=fW h1;have hr:ei (prg (λj=>ei f j+ei g j*z) (ei f) i n) i=ei f i:=by rw[Ml,aF hin,aG (bE i)]
  have hfi:=hf.get i;have hgi:=hg.get i;have hmul:(ei g i*z).natAbs<=M:=by
   rw[bt];have:(ei g i).natAbs*z.natAbs<=M*1:=ay hgi hz;omega
  have hK:=h.lgM;obtain⟨e,he⟩:=Lr h hf hg hn hs hz (eg:=eg) j (i+1) fu ((bs++[Blk.mk (zcs (ei g i)) .rw]).set 1 ⟨zs (prg (λj=>ei f j+ei g j*z) (ei f) (i+1) n),.rw⟩) eP eP (fc eV (fW h0)) (aH (fC hb1));refine⟨e,?_⟩;have hlen:(prg (λj=>ei f j+ei g j*z) (ei f) i n).length=n:=CD;rw[ep];unfold ki;refine th (gX eP) (th fG (th (ldt eP) (th (al2 rfl) (th (ldb (st:=.rw) hb1 rfl hin eP) ?_))));rw[hr];refine th A7 (th (iOf eP) (th (DZ (fM (iK hK hgi) eV) (fM (iK (te (show 1<=1000000 by decide)) hz) eV)) (th (Xt (fM (iK hK hfi) eV) (fM (iK hK hmul) eV)) ?_)));have hw:=wrb (K:=λ_ s=>f7 (ni i) ej λx30=>lp iH (ki φ) fu (zd z) (.ptr 0 0) (.sl 1 0 n n 2 true) (zn g eg) (ni g.length) x30 s) (z:=ei f i+ei g i*z) (kk:=.i64) (c:=n) (ex:=true) hb1 hin eP;rw[Oa (v:=λj=>ei f j+ei g j*z)]at hw;exact th hw (th (gA eP) he)
def oS(h:MD M φ)(hf:BdL M f)(hg:BdL M g)(hfl:f.length<=1000000)(hgl:g.length<=1000000)(hz:z.natAbs<=1){ef eg:Bool}:∃o e,RV M o (zl f+ZX.C z*zl g) (max f.length g.length)/\gm φ [itz (M:Nat),zn f ef,zn g eg,zd z]=some (zn o e):=by
 have hph:=h.ph;obtain⟨e,he⟩:=Lr h hf hg rfl eP hz (eg:=eg) g.length 0 φ ((([]++[Blk.mk (zcs (M:Nat)) .rw])++[Blk.mk (zs (List.replicate (max f.length g.length) 0)) .rw]).set 1 ⟨zs (f++List.replicate (max f.length g.length-f.length) 0),.rw⟩) eP eP rfl (by
  have:prg (λj=>ei f j+ei g j*z) (ei f) 0 (max f.length g.length)=f++List.replicate (max f.length g.length-f.length) 0:=by
   unfold prg;refine cr (by simp;omega) λj h1 h2=>?_;rw[cZ,cn,aG (cO j)];by_cases e:j<f.length
   ·rw[List.getElem_append_left e];unfold ei;rw[aB,aE e];rfl
   ·rw[List.getElem_append_right eP,jr eP,List.getElem_replicate]
  rw[this];rfl)
 refine⟨_,e,Iv h (CgZ.of z1t) (λk hk=>by
  rw[zf,jr (l:=f) eP,jr (l:=g) eP];simp),?_⟩
 obtain⟨m1,hm1⟩:=z3i (bs:=([]++[Blk.mk (zcs (M:Nat)) .rw])++[Blk.mk (zs (List.replicate (max f.length g.length) 0)) .rw]) (k:=1) (c:=max f.length g.length) (ex:=true) (f:=f) (e:=ef) (n:=max f.length g.length) (K:=λx10 s=>fT (zn g eg) s λx11 s=>lp iH (ki φ) φ (zd z) (.ptr 0 0) (.sl 1 0 (max f.length g.length) (max f.length g.length) 2 true) (zn g eg) x11 fB s) rfl (Nat.le_max_left _ _);unfold gm;dsimp only[fJ,fV];rw[<-fg];exact th HM (th fY (th fY (th CU (th (mkz eP) (th hm1 (th fY he))))))
end
section
variable {bs:fQ} {l f g os q:fZ} {b:Blk} {i j k n m c h w M X Y S N:Nat} {ex:Bool} {s:LS} {K:fK} {kk:IntKind} {φ:Nat} {z x y:Int} {d:D} {cs:fN} {P:Option D->Prop} {st:Stt} {r:D} {ls:eZ}
def Ju{zero:fN}{K:tS}(hz:zero.length=2):(ff zero (mem bs) λa s=>ff zero s λb s=>fA 2 s a (itz x) λ_ s=>fA 2 s b (itz y) λ_ s=>K a b s)=K (.ptr bs.length 0) (.ptr (bs.length+1) 0) (mem (bs++[⟨zcs x,.rw⟩]++[⟨zcs y,.rw⟩])):=by
 have z7g:∀w:Int,lay 0 (zcs w) zero=some (zcs w):=λw=>by
  match zero,hz with
  |[a,b],_=>rfl
 refine th vM (th vM ?_);have e1:(bs++[Blk.mk zero .rw]).length=bs.length+1:=by simp
 rw[e1];refine th (xF (b:=⟨zero,.rw⟩) (cs':=zcs x) fU rfl (hx:=rfl) (hn:=rfl) (h1:=rfl) (hl:=z7g x)) ?_;refine th (xF (b:=⟨zero,.rw⟩) (cs':=zcs y) (by
  rw[bW eP,aM fU];simp) rfl (hx:=rfl) (hn:=rfl) (h1:=rfl) (hl:=z7g y)) ?_
 congr 1;congr 1;rw[aQ,aQ,bU _ _ (aC _),bD,bU _ _ eP,show bs.length+1-bs.length=1 by omega];rfl
def O7(hne:f≠[])(hs:f.length<=1000000){e:Bool}:mS (fm φ) [zn f e]=some (.own (zs f) f.length 2):=by
 obtain⟨d,r,hd⟩:∃d r,zs f=d::r:=by
  cases f with
  |nil=>exact absurd rfl hne
  |cons z f=>exact⟨_,_,rfl⟩
 have h1:mS (fm φ) [zn f e]=fm φ [zn f e]:=by unfold zn;rw[hd];rfl
 rw[h1];unfold fm;dsimp only[fJ,fV];rw[<-fg];have h2:∀F:fK,xC false (mem []) (zn f e) F=F (.b false) (mem []):=λF=>by unfold zn;rw[hd];rfl
 obtain⟨j,c,e',bs',a1,a2,a3⟩:=Rp (bs:=[⟨[],.rw⟩]) (k:=0) (z:=2) (bytes:=24) (n:=f.length) (cs:=zs f) (ex:=e) (K:=λx4 s=>fO true s x4 some) rfl (mA f) (MI f) eP eP;refine th (h2 _) (th ez (th (IC rfl) (a1.trans ?_)));have hn0:f.length≠0:=λh=>hne (aZ h);obtain⟨rfl,rfl,rfl,rfl⟩:=a3 hn0;exact Sw (cs:=zs f) rfl (by rw[<-mA,bV]) rfl
def GK{Mf:fP}{as:fN}{z:Nat}(h:Mf as=some (.own cs n z))(ha:∀kk,ma (jX (mem bs) gJ) as kk=kk as []:=by intro kk;rfl):eY Mf as (mem bs) K=K (.sl bs.length 0 n n z false) (mem (bs++[⟨cs,.rw⟩])):=by
 rw[PL h ha,mP,rH]
def z44(hb:bs[k]?=some b)(hl:b.st.live=true)(hh:h<=c)(hc:0<c):iT 2 (mem bs) (.sl k 0 n c 2 ex) none (some (.i .i64 (.ofNat h))) none K=K (.sl k 0 h c 2 ex) (mem bs):=by
 show(iq (mem bs) k λb=>cnd (lv b.st) (cnd (Nat.ble c c) (cnd (Nat.ble h c) (cnd (Nat.ble 0 h) (cnd (Nat.beq 2 2) (nM ex λex=>cnd (Nat.blt 0 c) (frc (Nat.add 0 (Nat.mul 0 2)) λoff=>frc (Nat.sub h 0) λl'=>frc (Nat.sub c 0) λcm=>K (.sl k off l' cm 2 ex) (mem bs)) (K (.tree [] 0 ex) (mem bs))) none) none) none) none) none)=_;rw[gV hb,nQ,hl,aD (aC c),aD hh,aD (aJ h),fk hc];simp only[fH,iz,fj,gE];rfl
def FQ{V1 V2:D}{q r:fZ}(h1:∃e ls,res (mem bs).get 60 V1=some (zn q e,ls))(h2:∃e ls,res (mem bs).get 60 V2=some (zn r e,ls)):∃e1 e2,fO false (mem bs) (.tup [V1,V2]) some=some (.tup [zn q e1,zn r e2]):=by
 obtain⟨e1,l1,h1⟩:=h1;obtain⟨e2,l2,h2⟩:=h2;refine⟨e1,e2,?_⟩;have hx:lf false (mem bs).get gJ (.tup [V1,V2])=some (.tup [zn q e1,zn r e2]):=by
  show(match yF (res (mem bs).get 60 V1),i8 (res (mem bs).get 60) [V2]with
   |some (d,o,ls),some (ds,ls')=>if o.all λl=> !(ls++ls').contains l then some (D.tup (d::ds))else none
   |_,_=>none)=_
  have r2:i8 (res (mem bs).get 60) [V2]=some ([zn r e2],l2++[]):=by
   unfold i8;rw[h2];rfl
  rw[h1,r2];rfl
 have hnf:wT (.tup [V1,V2])=false:=by
  by_cases hf:wT (.tup [V1,V2])=true
  ·exfalso;have:∀V:D,uT V=true->∀(e:Bool)(l:fZ)(ls:eZ),res (mem bs).get 60 V=some (zn l e,ls)->False:=λV hV e l ls hr=>by
    cases V with
    |agg cs=>
     have hr:(match i8 (res (mem bs).get 59) cs with
      |some (cs,ls)=>some (D.agg cs,ls)
      |none=>none)=some (zn l e,ls):=hr
     split at hr<;>cases hr
    |i k n=>cases hr
    |b x=>cases hr
    |s x=>cases hr
    |n x=>cases hr
    |np=>cases hr
    |nf=>cases hr
    |_=>cases hV
   have hf1:uT V1=true:=by
    have hf:([V1,V2].all uT)=true:=hf;simp only[cH,aW]at hf;exact hf.1
   exact this V1 hf1 e1 q l1 h1
  ·simpa using hf
 unfold fO;rw[lJ,hnf];show sk (lf false (mem bs).get gJ (.tup [V1,V2])) some=_;rw[hx,gc];rfl
def O1{bs':fQ}{V:D}(h:(∃e,V=zn l e)\/∃k,V=.sl k 0 l.length l.length 2 false/\bs'[k]?=some ⟨zs l,.rw⟩):∃e ls,res (mem bs').get 60 V=some (zn l e,ls):=by
 rcases h with⟨e,rfl⟩|⟨k,rfl,hb⟩
 ·exact⟨e,[],rfl⟩
 ·obtain⟨e,he⟩:=TE (c:=l.length) (ex:=false) hb (by show(zs l).take _=_;rw[<-mA,bV]) rfl rfl;exact⟨e,[k],he⟩
def Pv(hx:x.natAbs<=X)(hg:BdL Y g)(hXY:Lg 900000000 (X*Y))(hX:Lg 900000000 X)(hY:Lg 900000000 Y)(hS:Lg 900000000 S){N Q kx:Nat}(hN:N<=1000000)(hkx:3<=kx)(hgl:g.length<=1000000){eg:Bool}{qv:fN}{q16:jo}(hki:k+1=i):∀(yr os yd done:fZ)(fu:Nat)(bs:fQ),g=yd++yr->done.length=k+yd.length->(done++os).length=N->yr.length<=os.length->yr.length<fu->BdL S os->bs[0]?=some ⟨zcs z,.rw⟩->bs[1]?=some ⟨zs (done++os),.rw⟩->bs[2]?=some ⟨qv,.rw⟩->bs[kx]?=some ⟨zcs x,.rw⟩->(∀bs',bs'[0]?=some ⟨zcs z,.rw⟩->bs'[1]?=some ⟨zs (done++qA (-x) yr os),.rw⟩->bs'[2]?=some ⟨qv,.rw⟩->P (q16 (zn g eg) (.ptr 0 0) (.sl 1 0 N N 2 false) (.sl 2 0 Q Q 2 true) (zd ((k:Int)-1)) (mem bs')))->
 P (lp tR (pE φ q16) fu (zn g eg) (.ptr 0 0) (.sl 1 0 N N 2 false) (.sl 2 0 Q Q 2 true) (ni k) (.ptr kx 0) (zn g eg) (ni g.length) (ni yd.length) (mem bs))
 |[],os,yd,done,fu+1,bs,h1,h2,h3,h4,h5,h6,b0,b1,b2,bk,hP=>by
  rw[bQ]at h1;rw[ep];unfold pE;have hkN:k<=1000000:=by rw[aq]at h3;omega
  exact pm (gP (by rw[h1];omega)) (pm ez (pm (DT (a:=(k:Nat)) (b:=1) (by unfold IZ;omega) (by unfold IZ;omega)) (hP bs b0 b1 b2)))
 |y::yr,[],yd,done,fu+1,bs,h1,h2,h3,h4,h5,h6,b0,b1,b2,bk,hP=>by simp at h4
 |y::yr,o::os,yd,done,fu+1,bs,h1,h2,h3,h4,h5,h6,b0,b1,b2,bk,hP=>by
  have hlt:yd.length<g.length:=by rw[h1];simp
  have hy:ei g yd.length=y:=by rw[h1];exact yX
  have hyY:y.natAbs<=Y:=by rw[<-hy];exact hg.get _
  have hoS:o.natAbs<=S:=h6 o (b9 ..);have hin:k+yd.length<N:=by rw[<-h3];simp;omega
  have hxy:(x*y).natAbs<=X*Y:=by rw[bt];exact ay hx hyY
  have ho:ei (done++o::os) (k+yd.length)=o:=by rw[<-h2];exact yX
  have hb':(bs++[Blk.mk (zcs y) .rw])[1]?=some ⟨zs (done++o::os),.rw⟩:=fW b1;have e1:(done++o::os).set (k+yd.length) (o-x*y)=(done++[o-x*y])++os:=by rw[<-h2];exact FH
  rw[ep];unfold pE;refine pm (gX hlt) (pm fG (pm (ldt hlt) ?_));rw[hy];refine pm (al2 rfl) (pm (gA eP) (pm (gA eP) (pm (ldb (st:=.rw) hb' rfl hin (by rw[h3];exact hin)) ?_)));rw[ho];refine pm (ld2 (st:=.rw) (fW bk) rfl) (pm A7 (pm (DZ (fM (iK hX hx) eV) (fM (iK hY hyY) eV)) (pm (Xq (fM (iK hS hoS) eV) (fM (iK hXY hxy) eV)) (pm (wrb hb' hin (by rw[h3];exact hin)) (pm (gA eP) ?_)))));rw[e1];have ih:=Pv hx hg hXY hX hY hS hN hkx hgl (eg:=eg) (qv:=qv) (q16:=q16) hki yr os (yd++[y]) (done++[o-x*y]) fu ((bs++[Blk.mk (zcs y) .rw]).set 1 ⟨zs ((done++[o-x*y])++os),.rw⟩) (by rw[h1,aQ];rfl) (by simp;omega) (by rw[<-h3];simp) (c7 h4) (by simp at h5;omega) (λa ha=>h6 a (bC _ ha)) (fc eV (fW b0)) (aH (fC hb')) (fc eV (fW b2)) (fc eP (fW bk)) (λbs' c0 c1 c2=>hP bs' c0 (by
   rw[c1,aQ];show some (Blk.mk (zs (done++(o-x*y)::qA (-x) yr os)) .rw)=some (Blk.mk (zs (done++(o+ -x*y)::qA (-x) yr os)) .rw);rw[Int.neg_mul,<-zmz]) c2)
  rw[show(yd++[y]).length=yd.length+1 by simp]at ih;exact ih
def Pu(hm:MD M φ)(hg:BdL M g)(hg0:0<g.length){T N Q:Nat}(hT:Lg 900000000 T)(hN:N<=400000)(hgN:g.length<=N)(hQ:Q=N-g.length+1){eg:Bool}(hP:∀bs' r q,bs'[0]?=some ⟨zcs (M:Nat),.rw⟩->bs'[1]?=some ⟨zs r,.rw⟩->bs'[2]?=some ⟨zs q,.rw⟩->(r,q)=dvI M g Q f []->P (eW 2 (mem bs') (.ptr 0 0) λx63 s=>eY (gn φ) [x63,.sl 2 0 Q Q 2 true] s λx64 s=>eW 2 s (.ptr 0 0) λx65 s=>fT (zn g eg) s λx66 s=>fe x66 ej λx67=>iT 2 s (.sl 1 0 N N 2 false) none (some x67) none λx68 s=>eY (gn φ) [x65,x68] s λx69 s=>fO false s (.tup [x64,x69]) some)):∀(j:Nat)(rest q:fZ)(S fu:Nat)(bs:fQ),j<=Q->j<fu->rest.length=N->q.length+j=Q->BdL S rest->S+j*(M*M)<=T->bs[0]?=some ⟨zcs (M:Nat),.rw⟩->bs[1]?=some ⟨zs rest,.rw⟩->bs[2]?=some ⟨zs (List.replicate j 0++q),.rw⟩->dvI M g j rest q=dvI M g Q f []->
 P (lp gQ (nJ φ) fu (zn g eg) (.ptr 0 0) (.sl 1 0 N N 2 false) (.sl 2 0 Q Q 2 true) (zd ((j:Int)-1)) (mem bs))
 |0,rest,q,S,fu+1,bs,hj,hfu,hr,hq,hS,hST,b0,b1,b2,he=>by
  rw[ep];unfold nJ;exact pm (GI (b:=0)) (pm ez (hP bs rest q b0 b1 b2 he))
 |j+1,rest,q,S,fu+1,bs,hj,hfu,hr,hq,hS,hST,b0,b1,b2,he=>by
  have hph:=hm.ph;have z6Y:j+g.length-1<N:=eP;have za7:=hm.big (show 1<=1000000 by decide);rw[ao]at za7;have hSl:Lg 900000000 S:=iK hT eP;have hR:=iK hSl (hS.get (j+g.length-1));have hMz:Lg 900000000 ((M:Nat):Int).natAbs:=by rw[bJ];exact hm.lgM
  have hc1:=dF (ei rest (j+g.length-1)) hm.ne;have hc2:=dQ (ei rest (j+g.length-1)) (show(0:Int)<(M:Nat) by have:=hm.two;omega);rw[dvI]at he;have hb2:∀X:fQ,(bs++X)[2]?=some ⟨zs (List.replicate (j+1) 0++q),.rw⟩:=λX=>by rw[bF (fC b2)];exact b2
  have hbz:(((j+1:Nat):Int)-1)=((j:Nat):Int):=eP;rw[ep,hbz];unfold nJ;generalize hcc:ei rest (j+g.length-1)%(M:Int)=cc at*;have e1:(List.replicate (j+1) 0++q).set j cc=List.replicate j 0++(cc::q):=by
   rw[zmW,aQ,bU _ _ fU,bg,bD];rfl
  refine pm (uS (a:=j) (b:=0) (aJ j)) (pm fG (pm fY (pm (gA eP) (pm (iJ eP eP) (pm (ldb (st:=.rw) b1 rfl z6Y eP) (pm (fa0 (st:=.rw) b0 rfl) (pm (iDM hR hMz hm.ne hph) (pm iG (pm iF (pm (Ju rfl) ?_))))))))));rw[hcc];have hbq:(bs++[Blk.mk (zcs (ei rest (j+g.length-1)/(M:Int))) .rw]++[Blk.mk (zcs cc) .rw])[bs.length+1]?=some ⟨zcs cc,.rw⟩:=by
   rw[aM fU];simp
  have z8V:(bs++[Blk.mk (zcs (ei rest (j+g.length-1)/(M:Int))) .rw]++[Blk.mk (zcs cc) .rw])[2]?=some ⟨zs (List.replicate (j+1) 0++q),.rw⟩:=fW (fW b2);refine pm (ld2 (st:=.rw) hbq rfl) (pm (wrb z8V (show j<Q by omega) (by simp;omega)) (pm fY ?_));rw[e1];have hl3:=fC b2;refine Pv (φ:=φ) (k:=j) (i:=j+1) (X:=M) (Y:=M) (S:=S) (g:=g) (z:=(M:Nat)) (qv:=zs (List.replicate j 0++(cc::q))) (x:=cc) (kx:=bs.length+1) eP hg za7 hm.lgM hm.lgM hSl (show N<=1000000 by omega) eP eP rfl g (rest.drop j) [] (rest.take j) φ _ rfl (by rw[aR];simp;omega) (by rw[bY];exact hr) (by rw[bR];omega) eP (λa ha=>hS a (ba ha)) (fc eV (fW (fW b0))) (by rw[bY];exact fc eV (fW (fW b1))) (aH (fC z8V)) (fc eP hbq) λbs' c0 c1 c2=>?_;have hbd:BdL (S+M*M) (rest.take j++qA (-cc) g (rest.drop j)):=λa ha=>by
   rcases bM.1 ha with ha|ha
   ·exact aX (hS a (bH ha)) (cL _ _)
   ·exact yE (X:=M) eP hg (λb hb=>hS b (ba hb)) a ha
  exact Pu hm hg hg0 hT hN hgN hQ hP j _ _ (S+M*M) fu bs' eP eP (by rw[tj eP];exact hr) (by simp;omega) hbd (by rw[aS,ao]at hST;omega) c0 c1 c2 he
def FO(h:MD M φ)(hf:BdL M f)(hg:BdL M g){b:Nat}(hgl:g.length=b+1)(hg1:ei g b=1)(hfl:f.length<=400000)(hb:b<=300000){ef eg:Bool}:∃q r e1 e2,CgZ M (zl f) (zl q*zl g+zl r)/\BdL M q/\BdL M r/\q.length<=f.length/\r.length<=b/\r.length<=f.length/\mH φ [itz (M:Nat),zn f ef,zn g eg]=some (.tup [zn q e1,zn r e2]):=by
 have hph:=h.ph;rcases aY f.length g.length with hlt|hge
 ·obtain⟨e1,e2,he⟩:=FQ (bs:=[]++[⟨zcs (M:Nat),.rw⟩]) (V1:=zn [] true) (V2:=zn f ef) (q:=[]) (r:=f) ⟨true,[],rfl⟩ ⟨ef,[],rfl⟩;refine⟨[],f,e1,e2,CgZ.of (by rw[pK];exact z69),λx hx=>(by cases hx),hf,aJ _,eP,aC _,?_⟩;unfold mH;dsimp only[fJ,fV];rw[<-fg];exact th HM (th fY (th fY (th (gX hlt) (th fG he))))
 ·have hf0:f≠[]:=λe=>by
   have:g.length<=0:=by rw[e]at hge;exact hge
   omega
  obtain⟨l1,l2⟩:=Ps (m:=(M:Int)) (g:=g) (j:=f.length-g.length+1) (rest:=f) (q:=[]) eP;have l2:(dvI M g (f.length-g.length+1) f []).2.length=f.length-g.length+1:=l2;have hzl:=VI (m:=(M:Int)) (g:=g) (f.length-g.length+1) f [] eP eP;have z8k:=Pp (m:=(M:Int)) (g:=g) eP (by rw[hgl];exact hg1) (f.length-g.length+1) f [] eP λk hk=>by rw[jr eP,dt]
  obtain⟨d1,d2⟩:=VJ (M:=M) rfl (by have:=h.two;omega) hg (j:=f.length-g.length+1) (q:=[]) hf (λx hx=>by cases hx);have hT:Lg 900000000 (M+(f.length-g.length+1)*(M*M)):=by
   refine iK (h.big (show 500000<=1000000 by decide)) ?_;have h1:M*1<=M*M:=ae _ (by have:=h.two;omega);have h2:(f.length-g.length+1)*(M*M)<=400000*(M*M):=aK _ eP;omega
  unfold mH;dsimp only[fJ,fV];rw[<-fg];have hcl:=O7 (φ:=φ) (e:=ef) hf0 eP
  suffices hs:(λo=>∃q r e1 e2,CgZ M (zl f) (zl q*zl g+zl r)/\BdL M q/\BdL M r/\q.length<=f.length/\r.length<=b/\r.length<=f.length/\o=some (.tup [zn q e1,zn r e2])) (eY (mS (fm φ)) [zn f ef] (mem ([]++[⟨zcs (M:Nat),.rw⟩])) λx8 s=>fT (zn f ef) s λx9 s=>fT (zn g eg) s λx10 s=>fe x9 x10 λx11=>f7 x11 ej λx12=>io 2 24 gL s x12 x12 λx13 s=>fT x13 s λx14 s=>fe x14 ej λx15=>lp gQ (nJ φ) φ (zn g eg) (.ptr 0 0) x8 x13 x15 s) by
   obtain⟨q,r,e1,e2,g1,g2,g3,g4,g5,g6,g7⟩:=hs;exact⟨q,r,e1,e2,g1,g2,g3,g4,g5,g6,th HM (th fY (th fY (th (gP eP) (th ez g7))))⟩
  generalize hP:(λo:Option D=>∃q r e1 e2,CgZ M (zl f) (zl q*zl g+zl r)/\BdL M q/\BdL M r/\q.length<=f.length/\r.length<=b/\r.length<=f.length/\o=some (.tup [zn q e1,zn r e2]))=P;refine pm (GK hcl) (pm fY (pm fY (pm (iJ hge eP) (pm (gA eP) (pm (mkz eP) (pm ou (pm (iJ eP eP) ?_)))))));have hst:=Pu (P:=P) (f:=f) (N:=f.length) (Q:=f.length-g.length+1) (eg:=eg) h hg eP hT eP hge rfl (λbs' r q c0 c1 c2 hd=>?_) (f.length-g.length+1) f [] M φ (([]++[Blk.mk (zcs (M:Nat)) .rw])++[Blk.mk (zs f) .rw]++[Blk.mk (zs (List.replicate (f.length-g.length+1) 0)) .rw]) (aC _) eP rfl fU hf (aC _) rfl rfl (by rw[bQ];rfl) rfl
  ·rw[show(((f.length-g.length+1:Nat):Int)-1)=((f.length-g.length:Nat):Int) by omega]at hst;rw[show f.length-g.length+1-1=f.length-g.length by omega];exact hst
  ·have hr:r=(dvI M g (f.length-g.length+1) f []).1:=congrArg Prod.fst hd;have hq:q=(dvI M g (f.length-g.length+1) f []).2:=congrArg Prod.snd hd;rw[<-hr,<-hq]at hzl;rw[<-hr]at l1 z8k d1;rw[<-hq]at l2 d2;have hMl:=h.lgM;obtain⟨V1,bs1,k1,z1,i1⟩:=J1 (c:=f.length-g.length+1) (ex:=true) (l:=q) (l2:=mZ M q) (z:=(M:Nat)) (Mf:=gn φ) c2 (by rw[aP eP]) l2 λe=>sg h d2 hMl eP;have c0':=k1 0 _ eV c0;have c1':=k1 1 _ eV c1;have htl:(r.take (g.length-1)).length=g.length-1:=by rw[aR];omega
   obtain⟨V2,bs2,k2,z2,i2⟩:=J1 (c:=f.length) (ex:=false) (l:=r.take (g.length-1)) (n:=g.length-1) (l2:=mZ M (r.take (g.length-1))) (z:=(M:Nat)) (Mf:=gn φ) c1' rfl htl λe=>sg h (λx hx=>d1 x (bH hx)) hT eP;have r1:∃e ls,res (mem bs2).get 60 V1=some (zn (mZ M q) e,ls):=O1 (by
    rcases z1.val with⟨ee,he,_⟩|⟨he,hb1⟩
    ·exact Or.inl ⟨ee,he⟩
    ·refine Or.inr ⟨_,he,k2 _ _ ?_ hb1⟩;have:=fC c2;rw[a8];omega)
   have r2:∃e ls,res (mem bs2).get 60 V2=some (zn (mZ M (r.take (g.length-1))) e,ls):=O1 (by
    rcases z2.val with⟨ee,he,_⟩|⟨he,hb1⟩
    ·exact Or.inl ⟨ee,he⟩
    ·exact Or.inr ⟨_,he,hb1⟩)
   obtain⟨e1,e2,he⟩:=FQ r1 r2;refine pm (ld2 (st:=.rw) c0 rfl) (pm (i1 _) (pm (ld2 (st:=.rw) c0' rfl) (pm fY (pm (iJ eP eP) (pm (z44 c1' rfl eP eP) (pm (i2 _) (pm he ?_)))))));rw[<-hP];have hM0:0<M:=by have:=h.two;omega
   refine⟨_,_,e1,e2,?_,JC rfl hM0,JC rfl hM0,by have:=DH (m:=(M:Int)) (l:=q);omega,by have:=DH (m:=(M:Int)) (l:=r.take (g.length-1));omega,by have:=DH (m:=(M:Int)) (l:=r.take (g.length-1));omega,rfl⟩;have e3:zl f=zl r+zl q*zl g:=by
    rw[<-hzl,pK];clear hzl;exact z69
   rw[e3];have e4:CgZ M (zl r) (zl (mZ M (r.take (g.length-1)))):=by
    refine CgZ.tr ?_ Mc.sy;refine y4 λk=>?_;rw[sd,sd,Jf];by_cases hk:k<g.length-1
    ·rw[aF hk];exact⟨0,eP⟩
    ·rw[aG hk];have h1:=z8k k eP;have h2:=zmO (ei r k) M;exact⟨ei r k/M,eP⟩
   refine(CgZ.ad e4 (CgZ.ml Mc.sy CgZ.rfl')).tr (CgZ.of ?_);clear hzl e3 e4;exact z69
end
section
variable {bs:fQ} {l f g:fZ} {ln:eZ} {i j k n m c h w v B M N a b p:Nat} {ex:Bool} {st:LS} {K:fK} {kk:IntKind} {φ:Nat} {z x y:Int} {u t:ZX}
def ofN(l:eZ):fZ:=l.map λn:Nat=>(n:Int)
def z0x(k:Nat):ei (ofN ln) k=((ln.getD k 0:Nat):Int):=by
 unfold ofN ei;simp only[aB,af];cases ln[k]?<;>rfl
def xA:zl (ofN ln)=zx ln:=ZX.ext' λk=>by rw[sd,ww,z0x]
def Hz(hp:∀x,x∈ln->x<1000000000)(hs:ln.length<=1000000){e:Bool}:∀(j i fu:Nat)(bs:fQ),i+j=ln.length->j<fu->bs[0]?=some ⟨zs (w9 (λi=>((ln.getD i 0:Nat):Int)) i j),.rw⟩->
 ∃e',lp jc (rP φ) fu (.sl 0 0 ln.length ln.length 2 true) (tn ln e) (ni ln.length) (ni i) (mem bs)=some (zn (ofN ln) e')
 |0,i,fu+1,bs,h,hfu,h0=>by
  have:i=ln.length:=eP;subst this;have e1:w9 (λi=>((ln.getD i 0:Nat):Int)) ln.length 0=ofN ln:=by
   rw[Ce];unfold ofN;refine cr fU λj h1 h2=>?_;rw[cZ,cn,cZ,aB,aE (by simpa using h2)];rfl
  rw[e1]at h0;obtain⟨e',he⟩:=FP (c:=ln.length) (ex:=true) (n:=ln.length) h0 (by show(zs (ofN ln)).take _=_;rw[show ln.length=(ofN ln).length by simp[ofN],<-mA,bV]) rfl (by simp[ofN]);refine⟨e',?_⟩;rw[ep];unfold rP;exact th (gP eP) (th ez he)
 |j+1,i,fu+1,bs,h,hfu,h0=>by
  have hx:=wH hp eV i;obtain⟨e',he⟩:=Hz hp hs (e:=e) j (i+1) fu _ eP eP (aH (fC h0));refine⟨e',?_⟩;rw[ep];unfold rP;have ho:=iOf (φ:=φ) (z:=((ln.getD i 0:Nat):Int)) (s:=mem bs) (K:=λx13 s=>eT 2 s (.sl 0 0 ln.length ln.length 2 true) (ni i) λx14 s=>fA 2 s x14 x13 λ_ s=>f7 (ni i) ej λx15=>lp jc (rP φ) fu (.sl 0 0 ln.length ln.length 2 true) (tn ln e) (ni ln.length) x15 s) eP;exact th (gX eP) (th fG (th (rdn eP) (th ho (th (wrf (v:=λi=>((ln.getD i 0:Nat):Int)) h0 eP) (th (gA eP) he)))))
def Bi(hp:∀x,x∈ln->x<1000000000)(hs:ln.length<=1000000)(hφ:gW φ){e:Bool}:∃e',px φ [tn ln e]=some (zn (ofN ln) e'):=by
 obtain⟨e',he⟩:=Hz (φ:=φ) hp hs (e:=e) ln.length 0 φ ([]++[Blk.mk (zs (List.replicate ln.length 0)) .rw]) eP eP (by rw[Jb];rfl);refine⟨e',?_⟩;unfold px;dsimp only[fJ,fV];rw[<-fg];exact th fY (th (mkz eP) (th fY he))
structure PI (M p a b:Nat) (F G0 H0:ZX) (g h s t:fZ):Prop where
 mg:MonZ a (zl g)
 gl:g.length=a+1
 gb:BdL M g
 mh:MonZ b (zl h)
 hl:h.length=b+1
 hb:BdL M h
 sl:s.length<=b
 sb:BdL M s
 tl:t.length<=2000
 tb:BdL M t
 c1:CgZ M F (zl g*zl h)
 c2:CgZ M (zl s*zl g+zl t*zl h) 1
 pg:CgZ p (zl g) G0
 ph:CgZ p (zl h) H0
def Nj{m p:Int}{x y:ZX}(h:CgZ m x y)(hp:p∣m):CgZ p x y:=by
 obtain⟨c,rfl⟩:=hp;obtain⟨z,hz⟩:=h;exact⟨ZX.C c*z,by rw[hz,sB];exact z69⟩
def RV.len_of{o:fZ}(h:RV M o u N)(hm:MonZ a (zl o)):o.length=a+1:=by
 have h1:=h.tr (a+1) hm.low;rcases aY a o.length with h2|h2
 ·omega
 ·have:=hm.one;rw[sd,jr h2]at this;omega
def JD{m:Int}{x:ZX}(hm:0<m)(hr:RdZ m x){k:Nat}(h:∃z,x.c k=m*z):x.c k=0:=by
 obtain⟨z,hz⟩:=h;obtain⟨h1,h2⟩:=hr k;rw[hz]at h1 h2 ⊢;rcases Int.lt_trichotomy z 0 with g|g|g
 ·have:m*z<=m*(-1):=dZ eP eP;omega
 ·rw[g];omega
 ·have:m*1<=m*z:=dZ eP eP;omega
def z2W{s:LS}{K:fK}:gf [.b false,.n 0] [(0,2,itz z)] s K=K (itz z) s:=rfl
def Vd{K:fK}:iO 1 [.b false,.n 0] [(0,2,itz z)] (mem bs) K=K (.sl bs.length 0 1 1 2 true) (mem (bs++[⟨zs [z],.rw⟩])):=B4 (z:=2) (x:=itz z) (new:=zcs z) rfl rfl rfl rfl
def TY{x y z w:ZX}(h1:CgZ M x (y+ZX.C (-1)*z))(h2:z=w):CgZ M x (y-w):=by
 subst h2;refine h1.tr (CgZ.of ?_);rw[Ie,C_1];exact z69
def xp{z:ZX}:ZX.C 1*z=z:=by rw[C_1];exact z69
def Mq(hM:MD (M*M) φ)(hpM:(p:Int)∣(M:Int))(h2:2<=M){F G0 H0:ZX}{f g h s t:fZ}(hF:zl f=F)(hfb:BdL B f)(hB:Lg 900000000 B)(hfl:f.length=a+b+1)(hfm:MonZ (a+b) (zl f))(hab:a+b<=1000)(ha:1<=a)(hI:PI M p a b F G0 H0 g h s t){ef eg eh es et:Bool}{rr N0:D}{fu:Nat}{bs:fQ}(hj:i<n)(hn:n<=1000000)(hb0:bs[0]?=some ⟨zcs (M:Nat),.rw⟩):
 ∃g' h' s' t' e1 e2 e3 e4 bs',PI (M*M) p a b F G0 H0 g' h' s' t'/\bs'[0]?=some ⟨zcs ((M*M:Nat):Nat),.rw⟩/\
 lp pu (rn φ) (fu+1) (zn f ef) (zn g eg) (zn h eh) (zn s es) (zn t et) (.ptr 0 0) (ni n) (ni i) (mem bs)=lp pu (rn φ) fu (zn f ef) (zn g' e1) (zn h' e2) (zn s' e3) (zn t' e4) (.ptr 0 0) (ni n) (ni (i+1)) (mem bs'):=by
 have hph:=hM.ph;have hMM:M<=M*M:=by
  have:M*1<=M*M:=ae _ eP;omega
 have hm2:(2:Int)<=((M*M:Nat):Int):=by have:=hM.two;omega
 have hm0:(0:Int)<((M*M:Nat):Int):=eP;have z6H:((M*M:Nat):Int)=(M:Int)*M:=bZ _ _;have gb:=hI.gb.mono hMM;have hb:=hI.hb.mono hMM;have sb:=hI.sb.mono hMM;have tb:=hI.tb.mono hMM;have gl:=hI.gl;have hl:=hI.hl;have sl:=hI.sl;have tl:=hI.tl;obtain⟨r1,rl1,re1⟩:=sg hM hfb hB eP (e:=ef);have rv1:RV (M*M) (mZ ((M*M:Nat):Int) f) (zl f) f.length:=Iv hM CgZ.rfl' λk hk=>by rw[jr hk,dt]
 obtain⟨o2,e2,v2,m2⟩:=t8 hM gb hb eP eP (ef:=eg) (eg:=eh);have ln1:=rv1.ln;have ln2:=v2.ln;have cE:∀ex,∃o e,RV (M*M) o (zl (mZ ((M*M:Nat):Int) f)+ZX.C (-1)*zl o2) (max (mZ ((M*M:Nat):Int) f).length o2.length)/\gm φ [itz ((M*M:Nat):Nat),zn (mZ ((M*M:Nat):Int) f) ex,zn o2 e2,zd (-1)]=some (zn o e):=λex=>oS hM rv1.bd v2.bd eP eP eV (ef:=ex) (eg:=e2)
 let bsA:fQ:=bs.set 0 ⟨zcs ((M*M:Nat):Nat),.rw⟩++[⟨zcs ((M*M:Nat):Nat),.rw⟩]
 have hlen:=fC hb0;have zcR:bsA[0]?=some ⟨zcs ((M*M:Nat):Nat),.rw⟩:=fW (aH hlen);have zaw:(bs.set 0 (Blk.mk (zcs ((M*M:Nat):Nat)) .rw)).length=bs.length:=by simp
 have z9p:bsA[bs.length]?=some ⟨zcs ((M*M:Nat):Nat),.rw⟩:=by
  show(bs.set 0 _++_)[bs.length]?=_;rw[aM fU,zaw,bD];rfl
 obtain⟨V,bs1,z1,k1⟩:=J2 (bs:=bsA) (λs kk=>rfl) re1 rl1;have b10:=z1.old _ _ zcR;have b11:=z1.old _ _ z9p;have hAl:bsA.length=bs.length+1:=by show(bs.set 0 _++_).length=_;simp
 have hE:∃o e bs2,RV (M*M) o (zl (mZ ((M*M:Nat):Int) f)+ZX.C (-1)*zl o2) (max (mZ ((M*M:Nat):Int) f).length o2.length)/\bs2[0]?=some ⟨zcs ((M*M:Nat):Nat),.rw⟩/\bs2[bs.length]?=some ⟨zcs ((M*M:Nat):Nat),.rw⟩/\∀K:fK,eY (gm φ) [itz ((M*M:Nat):Nat),V,zn o2 e2,zd (-1)] (mem bs1) K=K (zn o e) (mem bs2):=by
  rcases z1.val with⟨ex,rfl,_⟩|⟨rfl,hv⟩
  ·obtain⟨o,e,w1,w2⟩:=cE ex;exact⟨o,e,bs1,w1,b10,b11,λK=>fX w2⟩
  ·obtain⟨ex,av⟩:=Ro (c:=(mZ ((M*M:Nat):Int) f).length) (ex:=false) hv rfl rfl;obtain⟨o,e,w1,w2⟩:=cE ex;have hL:AVL bs1 [itz ((M*M:Nat):Nat),.sl bsA.length 0 (mZ ((M*M:Nat):Int) f).length (mZ ((M*M:Nat):Int) f).length 2 false,zn o2 e2,zd (-1)] [itz ((M*M:Nat):Nat),zn (mZ ((M*M:Nat):Int) f) ex,zn o2 e2,zd (-1)] ([]++([bsA.length]++([]++([]++[])))):=AVL.cons Vo (AVL.cons av (AVL.cons Vp (AVL.cons z1C AVL.nil)));obtain⟨bs2,c1,c2,c3⟩:=xY hL (λk hk=>by
    have:k=bsA.length:=by simpa using hk
    rw[this];exact fC hv) w2
   have nm:∀k,k<bsA.length->k∉([]++([bsA.length]++([]++([]++[])))):=λk hk hm=>by
    have:k=bsA.length:=by simpa using hm
    omega
   exact⟨o,e,bs2,w1,c2 _ _ (nm 0 eP) b10,c2 _ _ (nm _ eP) b11,c3⟩
 obtain⟨e',eE,bs2,vE,b20,b21,kE⟩:=hE;have lnE:=vE.ln;have cgE:CgZ (M*M:Nat) (zl e') (zl f-zl g*zl h):=by
  refine vE.cg.tr ?_;refine(CgZ.ad rv1.cg (CgZ.ml CgZ.rfl' v2.cg)).tr (CgZ.of ?_);rw[Ie,C_1];exact z69
 have hgh:MonZ (a+b) (zl g*zl h):=Ko hI.mg hI.mh;have zbT:tI (a+b) (zl e'):=λk hk=>by
  refine JD hm0 vE.rd ?_;obtain⟨z,hz⟩:=yv cgE k;refine⟨z,?_⟩;rw[hz,H7];rcases aY (a+b) k with g1|g1
  ·rw[hfm.low k eP,hgh.low k eP];omega
  ·have:k=a+b:=eP;rw[this,hfm.one,hgh.one];omega
 have eln:=vE.tr _ zbT;obtain⟨o3,e3,v3,m3⟩:=t8 hM sb vE.bd eP eP (ef:=es) (eg:=eE);have ln3:=v3.ln;have hh1:ei h b=1:=hI.mh.one;obtain⟨q1,r1',e4,e5,dv1,qb1,rb1,ql1,zhN,rf1,m4⟩:=FO hM v3.bd hb hl hh1 eP eP (ef:=e3) (eg:=eh);obtain⟨o5,e6,v5,m5⟩:=t8 hM tb vE.bd eP eP (ef:=et) (eg:=eE);obtain⟨o6,e7,v6,m6⟩:=t8 hM qb1 gb eP eP (ef:=e4) (eg:=eg);have ln5:=v5.ln;have ln6:=v6.ln;obtain⟨o7,e8,v7,m7⟩:=oS (z:=1) hM v5.bd v6.bd eP eP eV (ef:=e6) (eg:=e7);have ln7:=v7.ln;obtain⟨g',e9,vg,m8⟩:=oS (z:=1) hM gb v7.bd eP eP eV (ef:=eg) (eg:=e8);obtain⟨h',e10,vh,m9⟩:=oS (z:=1) hM hb rb1 eP eP eV (ef:=eh) (eg:=e5);have cgg:CgZ (M*M:Nat) (zl g') (zl g+(zl t*zl e'+zl q1*zl g)):=by
  refine vg.cg.tr (CgZ.ad CgZ.rfl' ?_);rw[xp];refine v7.cg.tr ?_;rw[xp];exact CgZ.ad v5.cg v6.cg
 have cgh:CgZ (M*M:Nat) (zl h') (zl h+zl r1'):=by
  refine vh.cg.tr (CgZ.of ?_);rw[xp]
 have c1:∃y,zl f-zl g*zl h=ZX.C (M:Int)*y:=by
  obtain⟨y,hy⟩:=hI.c1;exact⟨y,by rw[hF,hy];clear hy;exact z69⟩
 have zbS:tI b (zl r1'):=λk hk=>by rw[sd,jr eP]
 have hq':∃z,zl s*zl e'=zl q1*zl h+zl r1'+ZX.C ((M:Int)*M)*z:=by
  rw[<-z6H];exact(v3.cg.sy.tr dv1)
 obtain⟨H1,H2,H3,H4,H5⟩:=J4 (m:=(M:Int)) (N:=5000) (by rw[<-z6H];exact hm2) hI.mg hI.mh c1 hI.c2 (by rw[<-z6H];exact cgE) zbT hq' (λk hk=>by rw[sd,jr eP]) zbS (λk hk=>by rw[sd,jr eP]) (by rw[<-z6H];exact cgg) (by rw[<-z6H];exact vg.rd) (by rw[<-z6H];exact cgh) (by rw[<-z6H];exact vh.rd);have gl':=vg.len_of H1;have hl':=vh.len_of H2;obtain⟨o10,e11,v10,m10⟩:=t8 hM sb vg.bd eP eP (ef:=es) (eg:=e9);obtain⟨o11,e12,v11,m11⟩:=t8 hM tb vh.bd eP eP (ef:=et) (eg:=e10);have zif:=v10.ln;have zie:=v11.ln;obtain⟨o12,e13,v12,m12⟩:=oS (z:=1) hM v10.bd v11.bd eP eP eV (ef:=e11) (eg:=e12);have zid:=v12.ln;have zfZ:BdL (M*M) [1]:=λx hx=>by
  have:x=1:=by simpa using hx
  subst this;show 1<=M*M;have:=hM.two;omega
 have hb1:(bs2++[Blk.mk (zs [1]) .rw])[bs2.length]?=some ⟨zs [1],.rw⟩:=by simp
 obtain⟨ex1,av1⟩:=Ro (bs:=bs2++[Blk.mk (zs [1]) .rw]) (c:=1) (ex:=true) hb1 rfl rfl;obtain⟨d',e14,v13,m13⟩:=oS (z:= -1) (g:=[1]) hM v12.bd zfZ eP eV eV (ef:=e13) (eg:=ex1);have hL2:AVL (bs2++[Blk.mk (zs [1]) .rw]) [itz ((M*M:Nat):Nat),zn o12 e13,.sl bs2.length 0 1 1 2 true,zd (-1)] [itz ((M*M:Nat):Nat),zn o12 e13,zn [1] ex1,zd (-1)] ([]++([]++([bs2.length]++([]++[])))):=AVL.cons Vo (AVL.cons Vp (AVL.cons av1 (AVL.cons z1C AVL.nil)));obtain⟨bs3,c1',c2',c3'⟩:=xY hL2 (λk hk=>by
  have:k=bs2.length:=by simpa using hk
  rw[this];simp) m13
 have nm:∀k,k<bs2.length->k∉([]++([]++([bs2.length]++([]++[])))):=λk hk hm=>by
  have:k=bs2.length:=by simpa using hm
  omega
 have b30:=c2' _ _ (nm _ (fC b20)) (fW b20);have b31:=c2' _ _ (nm _ (fC b21)) (fW b21);have zbU:=v13.ln;have zbU:d'.length<=max o12.length 1:=zbU;have cgd:CgZ (M*M:Nat) (zl d') (zl s*zl g'+zl t*zl h'-1):=by
  refine v13.cg.tr ?_;have e1:CgZ (M*M:Nat) (zl o12) (zl s*zl g'+zl t*zl h'):=by
   refine v12.cg.tr ?_;rw[xp];exact CgZ.ad v10.cg v11.cg
  refine(CgZ.ad e1 CgZ.rfl').tr (CgZ.of ?_);rw[show zl [1]=1 by rw[mC,pK,C_1];clear e1;exact z69,Ie,C_1];clear e1;exact z69
 obtain⟨o14,e15,v14,m14⟩:=t8 hM sb v13.bd eP eP (ef:=es) (eg:=e14);have zic:=v14.ln;obtain⟨q2,r2,e16,e17,dv2,qb2,rb2,ql2,rl2,rf2,m15⟩:=FO hM v14.bd vh.bd hl' (show ei h' b=1 from H2.one) eP eP (ef:=e15) (eg:=e10);obtain⟨s',e18,vs,m16⟩:=oS (z:= -1) hM sb rb2 eP eP eV (ef:=es) (eg:=e17);obtain⟨o17,e19,v17,m17⟩:=t8 hM tb v13.bd eP eP (ef:=et) (eg:=e14);obtain⟨o18,e20,v18,m18⟩:=t8 hM qb2 vg.bd eP eP (ef:=e16) (eg:=e9);have zib:=v17.ln;have zia:=v18.ln;obtain⟨o19,e21,v19,m19⟩:=oS (z:=1) hM v17.bd v18.bd eP eP eV (ef:=e19) (eg:=e20);have zi9:=v19.ln;obtain⟨t',e22,vt,m20⟩:=oS (z:= -1) hM tb v19.bd eP eP eV (ef:=et) (eg:=e21);have lns:=vs.ln;have cgs:CgZ (M*M:Nat) (zl s') (zl s-zl r2):=TY vs.cg rfl;have cgt:CgZ (M*M:Nat) (zl t') (zl t-(zl t*zl d'+zl q2*zl g')):=by
  refine(TY vt.cg rfl).tr (CgZ.sb CgZ.rfl' ?_);refine v19.cg.tr ?_;rw[xp];exact CgZ.ad v17.cg v18.cg
 have za8:=Rm (m:=(M:Int)) hI.c2 H4 H5 (by rw[<-z6H];exact cgd) (by rw[<-z6H];exact v14.cg.sy.tr dv2) (by rw[<-z6H];exact cgs) (by rw[<-z6H];exact cgt);have ze4:tI a (zl t'):=λk hk=>by
  refine JD hm0 vt.rd ?_;obtain⟨w,hw⟩:=za8;have hmul:zl h'*zl t'=1-zl s'*zl g'+ZX.C ((M:Int)*M)*w:=by
   have:zl h'*zl t'=(zl s'*zl g'+zl t'*zl h')-zl s'*zl g':=by clear hw;exact z69
   rw[this,hw];clear this hw;exact z69
  have hdv:=xQ (m:=((M*M:Nat):Int)) (n:=a) H2 (x:=zl t') (N:=t'.length) MK λk hk=>by
   refine⟨w.c k,?_⟩;rw[hmul,Ck,H7,uP,<-z6H];have h1:(1:ZX).c k=0:=by
    obtain⟨j,rfl⟩:∃j,k=j+1:=⟨k-1,eP⟩
    rfl
   have h2:(zl s'*zl g').c k=0:=wL (a:=s'.length) (b:=g'.length) MK MK k eP;rw[h1,h2];omega
  exact hdv k hk
 have tln:=vt.tr _ ze4;refine⟨g',h',s',t',e9,e10,e18,e22,bs3,⟨H1,gl',vg.bd,H2,hl',vh.bd,eP,vs.bd,eP,vt.bd,?_,?_,?_,?_⟩,b30,?_⟩
 ·obtain⟨w,hw⟩:=H3;rw[<-hF];refine⟨w,?_⟩;rw[z6H,<-hw];clear hw;exact z69
 ·rw[z6H];exact za8
 ·obtain⟨w,hw⟩:=H4;exact(Nj ⟨w,hw⟩ hpM).tr hI.pg
 ·obtain⟨w,hw⟩:=H5;exact(Nj ⟨w,hw⟩ hpM).tr hI.ph
 ·have zcY:Lg KA ((M:Nat):Int).natAbs:=by
   rw[bJ];exact fM (iK hM.lgM hMM) eV
  have hzz:itz ((M:Nat)*(M:Nat):Int)=itz ((M*M:Nat):Nat):=by rw[z6H]
  have L2:∀(bs':fQ)(K:fK),bs'[bs.length]?=some ⟨zcs ((M*M:Nat):Nat),.rw⟩->eW 2 (mem bs') (.ptr bs.length 0) K=K (itz ((M*M:Nat):Nat)) (mem bs'):=λbs' K hb=>ld2 (st:=.rw) hb rfl;rw[ep];unfold rn;refine th (gX hj) (th fG (th (ld2 (st:=.rw) hb0 rfl) (th (ld2 (st:=.rw) hb0 rfl) (th (DZ zcY zcY) ?_))));rw[hzz];refine th (st2 hb0 rfl) (th (ld2 (st:=.rw) (aH hlen) rfl) (th z2W (th (al2 rfl) ?_)));rw[zaw];refine th (L2 bsA _ z9p) (th (L2 bsA _ z9p) (th (k1 _) (th (L2 bs1 _ b11) (th (fX m2) (th (kE _) ?_)))));refine th (L2 _ _ b21) (th (L2 _ _ b21) (th (fX m3) (th (fX m4) (th iG (th iF ?_)))));refine th (L2 _ _ b21) (th (L2 _ _ b21) (th (L2 _ _ b21) (th (fX m5) (th (L2 _ _ b21) (th (fX m6) (th (fX m7) (th (fX m8) ?_)))))));refine th (L2 _ _ b21) (th (fX m9) ?_);refine th (L2 _ _ b21) (th (L2 _ _ b21) (th (L2 _ _ b21) (th (fX m10) (th (L2 _ _ b21) (th (fX m11) (th (fX m12) ?_))))));refine th (iOf (z:=1) eV) (th Vd (th (c3' _) ?_));refine th (L2 _ _ b31) (th (L2 _ _ b31) (th (fX m14) (th (fX m15) (th iG (th iF ?_)))));refine th (L2 _ _ b31) (th (fX m16) ?_);refine th (L2 _ _ b31) (th (L2 _ _ b31) (th (L2 _ _ b31) (th (fX m17) (th (L2 _ _ b31) (th (fX m18) (th (fX m19) (th (fX m20) ?_)))))));exact gA eP
end
section
variable {bs:fQ} {l f g q r ks js:eZ} {b:Blk} {i j k n m c a p w y o:Nat} {ex:Bool} {s:LS} {K:fK} {kk:IntKind} {φ:Nat} {z x:Int} {d X:D} {cs:fN} {P:Option D->Prop} {W:List (eZ×Bool)}
structure CM (bs:fQ) (w n p:Nat) (ks:eZ):Prop where
 hw:bs[w]?=some ⟨ks.map (slD n)++List.replicate (n-ks.length) gj,.rw⟩
 hl:ks.length<=n
 nw:∀k,k∈ks->k≠w
 row:∀k,k∈ks->∃l,bs[k]?=some ⟨ci l,.rw⟩/\l.length=n/\∀x,x∈l->x<p
def CM.full(h:CM bs w n p ks)(hn:ks.length=n):MX bs w n p ks:=
 ⟨by rw[h.hw,hn,bD,zmq,bQ],hn,h.nw,h.row⟩
def CM.rd(h:CM bs w n p ks)(hi:ks[i]?=some k):(eT 1 (mem bs) (slD n w) (.i kk (.ofNat i)) λa s=>eR s a K)=K (slD n k) (mem bs):=by
 have:=fC hi;have hl:=h.hl;refine rd1 h.hw rfl ?_ eP;show(ks.map (slD n)++_)[i]?=_;rw[bF (by simpa using this),af,hi];rfl
def CM.keep{bs':fQ}(h:CM bs w n p ks)(hk:∀k b,k=w\/k∈ks->bs[k]?=some b->bs'[k]?=some b):CM bs' w n p ks:=
 ⟨hk _ _ (Or.inl rfl) h.hw,h.hl,h.nw,λk hk'=>by
  obtain⟨l,h1,h2⟩:=h.row k hk';exact⟨l,hk _ _ (Or.inr hk') h1,h2⟩⟩
def MX.keep{bs':fQ}(h:MX bs w n p ks)(hk:∀k b,k=w\/k∈ks->bs[k]?=some b->bs'[k]?=some b):MX bs' w n p ks:=
 ⟨hk _ _ (Or.inl rfl) h.hw,h.hl,h.nw,λk hk'=>by
  obtain⟨l,h1,h2⟩:=h.row k hk';exact⟨l,hk _ _ (Or.inr hk') h1,h2⟩⟩
def CM.upd(h:CM bs w n p ks)(hk:k∈ks)(hl:l.length=n)(hp:∀x,x∈l->x<p):CM (bs.set k ⟨ci l,.rw⟩) w n p ks:=by
 obtain⟨l0,h0,_⟩:=h.row k hk;refine⟨fc (h.nw k hk) h.hw,h.hl,h.nw,λk' hk'=>?_⟩;by_cases e:k=k'
 ·subst e;exact⟨l,aH (fC h0),hl,hp⟩
 ·obtain⟨l',h1,h2⟩:=h.row k' hk';exact⟨l',fc e h1,h2⟩
def CM.live(h:CM bs w n p ks)(hk:k=w\/k∈ks):k<bs.length:=by
 rcases hk with rfl|hk
 ·exact fC h.hw
 ·obtain⟨l,h1,_⟩:=h.row k hk;exact fC h1
def MX.live(h:MX bs w n p ks)(hk:k=w\/k∈ks):k<bs.length:=by
 rcases hk with rfl|hk
 ·exact fC h.hw
 ·obtain⟨l,h1,_⟩:=h.row k hk;exact fC h1
def zN(n:Nat):eZ:=vr (λ_=>0) 0 n
def ZY:(zN n).length=n:=by unfold zN;rw[GS];omega
def z1U(hp:0<p):∀x,x∈zN n->x<p:=λx hx=>by
 have:x∈[]++List.replicate n 0:=hx;rw[cW]at this;rw[cG this];exact hp
def CM.push(h:CM bs w n p ks)(hp:0<p)(hi:ks.length<n){b:Blk}(hb:b=⟨ci (zN n),.rw⟩):∃bs',CM bs' w n p (ks++[bs.length])/\(∀k' b',k'≠w->bs[k']?=some b'->bs'[k']?=some b')/\
 ∀K:fK,(eT 1 (mem (bs++[b])) (slD n w) (ni ks.length) λa s=>fA 1 s a (slD n bs.length) K)=K .u (mem bs'):=by
 subst hb;have hw:(bs++[⟨ci (zN n),.rw⟩])[w]?=some ⟨ks.map (slD n)++List.replicate (n-ks.length) gj,.rw⟩:=fW h.hw;have hwl:=fC h.hw;refine⟨(bs++[(⟨ci (zN n),.rw⟩:Blk)]).set w (⟨(ks.map (slD n)++List.replicate (n-ks.length) (D.tree [] 0 true)).set ks.length (slD n bs.length),.rw⟩:Blk),⟨?_,by simp;omega,λk hk=>?_,λk hk=>?_⟩,λk' b' hne hb'=>fc (Ne.symm hne) (fW hb'),λK=>wr1 (d:=slD n bs.length) (c:=n) (ex:=true) hw hi (by simp;omega)⟩
 ·rw[aH (fC hw)];congr 2;rw[bU _ _ fU,aj,bD,bG,aQ,aq];congr 1;obtain⟨t,ht⟩:∃t,n-ks.length=t+1:=⟨n-ks.length-1,eP⟩
  rw[ht,ch,ck,show n-(ks.length+[bs.length].length)=t by simp;omega];rfl
 ·rcases bM.1 hk with h1|h1
  ·exact h.nw k h1
  ·have:k=bs.length:=by simpa using h1
   omega
 ·rcases bM.1 hk with h1|h1
  ·obtain⟨l,g1,g2⟩:=h.row k h1;exact⟨l,fc (Ne.symm (h.nw k h1)) (fW g1),g2⟩
  ·have:k=bs.length:=by simpa using h1
   subst this;exact⟨zN n,fc eP fU,ZY,z1U hp⟩
def UB(hp:0<p)(hn:n<=100000){wc wr i:Nat}(hi:i<n){q38:kT}(hks:ks[i]?=some k)(z9n:∀k,k=wc\/k∈js->k≠wr/\k∉ks)(hP:∀bs',MX bs' wc n p js->CM bs' wr n p ks->P (q38 (ni p) (ni n) (slD n wc) (slD n wr) (ni n) (ni (i+1)) (mem bs'))):∀(u j fu:Nat)(bs:fQ),j+u=n->u<fu->MX bs wc n p js->CM bs wr n p ks->
 P (lp tR (uC φ q38) fu (ni p) (ni n) (slD n wc) (slD n wr) (ni i) (ni n) (ni i) (ni n) (ni j) (mem bs))
 |0,j,fu+1,bs,h,hfu,hM,hC=>by
  rw[ep];unfold uC;exact pm (gP eP) (pm ez (pm (gA eP) (hP bs hM hC)))
 |u+1,j,fu+1,bs,h,hfu,hM,hC=>by
  obtain⟨k2,hk2,zf3⟩:=hM.get (show j<n by omega);obtain⟨l,hl1,hl2,hl3⟩:=hM.row k2 zf3;have hkm:k∈ks:=bS hks;obtain⟨l',z9f,z9X,zb3⟩:=hC.row k hkm;rw[ep];unfold uC;refine pm (gX eP) (pm fG (pm (hC.rd hks) (pm (hM.rd hk2) (pm (yD hl1 hl2 hi) (pm (DE z9f z9X eP) (pm (gA eP) ?_))))));have hk':∀k3 b,k3=wc\/k3∈js->bs[k3]?=some b->(bs.set k ⟨ci (l'.set j (l.getD i 0)),.rw⟩)[k3]?=some b:=λk3 b h3 hb=>fc (λe=>(z9n k3 h3).2 (e▸hkm)) hb;exact UB hp hn hi hks z9n hP u (j+1) fu _ eP eP (hM.keep hk') (hC.upd hkm (by rw[a8];exact z9X) (DC zb3 (wH hl3 hp i)))
def UA(hq:PF p φ)(hn:n<=100000){wc wr:Nat}(hP:∀(W:List (eZ×Bool))(e:Bool),W.length<=n->(∀q,q∈W->Pq p q.1/\q.1.length<=n)->P (some (.tree (W.map tD) W.length e))):∀(u i fu:Nat)(bs:fQ)(ks:eZ),i+u=n->u<fu->ks.length=i->MX bs wc n p js->CM bs wr n p ks->(∀k,k=wc\/k∈js->k≠wr/\k∉ks)->
 P (lp iH (tv φ) fu (ni p) (ni n) (slD n wc) (slD n wr) (ni n) (ni i) (mem bs))
 |0,i,fu+1,bs,ks,h,hfu,hi,hM,hC,hd=>by
  have hφ:=hq.ph;rw[ep];unfold tv;refine pm (gP eP) (pm ez ?_);refine SD hq eP (hC.full eP) λbs' ks' y hR=>?_;exact NM hq hn hP n 0 φ bs' _ [] eP eP (aJ _) ⟨hR,AS.nil,λk _ o n' m z e he=>(by cases he),λq hq=>by cases hq⟩
 |u+1,i,fu+1,bs,ks,h,hfu,hi,hM,hC,hd=>by
  have hφ:=hq.ph;have hp:=hq.pr.pos;obtain⟨bs',h1,h2,h3⟩:=hC.push hp (b:=⟨ci (zN n),.rw⟩) eP rfl;have z9n:∀k,k=wc\/k∈js->k≠wr/\k∉ks++[bs.length]:=λk hk=>by
   refine⟨(hd k hk).1,λhm=>?_⟩;rcases bM.1 hm with h4|h4
   ·exact(hd k hk).2 h4
   ·have h5:=hM.live hk;have:k=bs.length:=by simpa using h4
    omega
  have hM':MX bs' wc n p js:=hM.keep λk b hk hb=>h2 k b (hd k hk).1 hb;rw[ep];unfold tv;subst hi;refine pm (gX eP) (pm fG (pm (mkn eP) (pm (h3 _) ?_)));refine UB hp hn (show ks.length<n by omega) (k:=bs.length) fU z9n (λbs2 hM2 hC2=>?_) n 0 φ bs' eP eP hM' h1;exact UA hq hn hP u (ks.length+1) fu bs2 _ eP eP fU hM2 hC2 z9n
inductive PS (bs:fQ) (w:Nat) (ks:eZ):D->eZ->Prop
 |t {l:eZ} {e:Bool}:PS bs w ks (tn l e) l
 |b {l:eZ} {k c:Nat} {ex:Bool} (hb:bs[k]?=some ⟨ci l,.rw⟩) (hw:k≠w) (hk:k∉ks):PS bs w ks (.sl k 0 l.length c 1 ex) l
def z3j{u:eZ}(hb:bs[k]?=some ⟨ci u,.rw⟩)(hv:u.length=n)(hX:∀F:fN->Nat->Rs,oI 1 (mem bs) X F=F (ci l) l.length)(hp:∀x,x∈u->x<p)(hlp:∀x,x∈l->x<p):∃u' m,u'.length=n/\(∀x,x∈u'->x<p)/\∀K:fK,IH 1 (mem bs) (slD n k) X K=K (ni m) (mem (bs.set k ⟨ci u',.rw⟩)):=by
 have hm:∃m,m<=l.length/\m<=n/\cnd (Nat.ble l.length n) l.length n=m:=by
  by_cases h:l.length<=n
  ·exact⟨l.length,aC _,h,by rw[aD h];rfl⟩
  ·exact⟨n,eP,aC _,by rw[il h];rfl⟩
 obtain⟨m,h1,h2,h3⟩:=hm;refine⟨l.take m++u.drop m,m,by simp;omega,λx hx=>?_,λK=>?_⟩
 ·rcases bM.1 hx with h|h
  ·exact hlp x (bH h)
  ·exact hp x (ba h)
 ·show(oI 1 (mem bs) X λsrc n'=>iq (mem bs) k λb=>cnd (wr b.st) (cnd (Nat.beq 1 1) (sP src (frc (cnd (Nat.ble n' n) n' n) λm'=>jP (Nat.mul m' 1) src λsrc=>xU 0 src b.cs λcs=>oh (mem bs) k ⟨cs,.rw⟩ λs=>K (.i .i64 (.ofNat m')) s)) none) none)=_;rw[hX,gV hb,Bj,show Stt.rw.wr=true from rfl,fH,show Nat.beq 1 1=true from rfl,fH,sY (BZ l),h3,fj,i7,show Nat.mul m 1=m from a9 m,aF (by rw[j0];exact h1),qE];have:A8 0 ((ci l).take m) (ci u)=some (ci (l.take m++u.drop m)):=by
   unfold A8;have e1:((ci l).take m).length=m:=by rw[aR,j0];omega
   rw[aF (by rw[j0,e1];omega),dr,cW,e1,aN];unfold ci;rw[bG,dN,zmJ]
  rw[this,jY,mD (fC hb)];rfl
def PS.cells(h:PS bs w ks X l):∀F:fN->Nat->Rs,oI 1 (mem bs) X F=F (ci l) l.length:=λF=>by
 cases h with
 |t=>exact Jn (by rw[j0];omega)
 |b hb _ _=>
  refine(El hb rfl (by show 0+l.length*1<=(ci l).length;rw[j0];omega)).trans ?_;rw[a7,show(Blk.cs ⟨ci l,.rw⟩).take (l.length*1)=ci l from aP (by rw[j0];omega)]
def PS.keep{bs':fQ}(h:PS bs w ks X l)(hk:∀k b,k≠w->k∉ks->bs[k]?=some b->bs'[k]?=some b):PS bs' w ks X l:=by
 cases h with
 |t=>exact PS.t
 |b hb h1 h2=>exact PS.b (hk _ _ h1 h2 hb) h1 h2
def PS.more(h:PS bs w ks X l)(hm:m=bs.length):PS bs w (ks++[m]) X l:=by
 cases h with
 |t=>exact PS.t
 | @b l k _ _ hb h1 h2=>
  exact PS.b hb h1 λhm'=>by
   rcases bM.1 hm' with h|h
   ·exact h2 h
   ·have:=fC hb;have:k=m:=by simpa using h
    omega
def z33{M:fP}{A B:D}(hAB:∀(st:LS)(kk:fN->eZ->Rs),ma (jX st 60) [A,B] kk=kk [A,B] [])(h:PS bs w ks X l)(G:eZ->Prop)(hM:∀e,∃r e',G r/\M [ni p,tn l e,A,B]=some (tn r e')):∃r e' bs',G r/\(∀k b,k=w\/k∈ks->bs[k]?=some b->bs'[k]?=some b)/\∀K:fK,eY M [ni p,X,A,B] (mem bs) K=K (tn r e') (mem bs'):=by
 cases h with
 | @t l e=>
  obtain⟨r,e',h1,h2⟩:=hM e;refine⟨r,e',bs,h1,λ_ _ _ h=>h,λK=>fX h2 λkk=>?_⟩;show ma (jX (mem bs) 60) [A,B] (λys c=>kk (ni p::tn l e::ys) c)=_;rw[hAB]
 | @b l k c ex hb hw hk=>
  obtain⟨e,he⟩:=By (s:=mem bs) (l:=k) (len:=l.length) (cm:=c) (n:=58) (ex:=ex) (b:=⟨ci l,.rw⟩) (by rw[mK];exact hb) rfl (ur l) (by show l.length<=(ci l).length;rw[j0];omega);obtain⟨r,e',h1,h2⟩:=hM e;refine⟨r,e',bs.set k ⟨ci l,.frz⟩,h1,λk' b' hk' hb'=>fc (λe=>?_) hb',λK=>?_⟩
  ·subst e;rcases hk' with h|h
   ·exact hw h
   ·exact hk h
  ·show(jX (mem bs) 60 (.sl k 0 l.length c 1 ex) λy1 a=>ma (jX (mem bs) 60) [A,B] λys b=>pk a b λab=>ob (M (ni p::y1::ys)) λr=>nD (mem bs) ab r K)=_;rw[he,show List.take l.length (Blk.cs ⟨ci l,.rw⟩)=ci l from aP (by rw[j0];omega),hAB,jt];have h2:M [ni p,.tree (ci l) l.length e,A,B]=some (tn r e'):=h2;rw[h2,jY];show(iq (mem bs) k λb=>oh (mem bs) k ⟨b.cs,fzS b.st⟩ λs=>K (tn r e') s)=_;rw[gV hb,mD (fC hb)];rfl
def Tz(hq:PF p φ)(hn:n<=100000)(hf:Pq p f)(hfn:f.length=n+1){fb:eZ}(hfb:Pq p fb)(zfd:fb.length<=n){ef e1:Bool}{w:Nat}(hP:∀(W:List (eZ×Bool))(e:Bool),W.length<=n->(∀q,q∈W->Pq p q.1/\q.1.length<=n)->P (some (.tree (W.map tD) W.length e))):∀(u i fu:Nat)(bs:fQ)(ks:eZ)(X:D)(l:eZ),i+u=n->u<fu->ks.length=i->CM bs w n p ks->PS bs w ks X l->Pq p l->l.length<=n+1->
 P (lp pu (rQ φ) fu (ni p) (tn f ef) (ni n) (tn fb e1) (slD n w) X (ni n) (ni i) (mem bs))
 |0,i,fu+1,bs,ks,X,l,h,hfu,hi,hC,hX,hl,hln=>by
  have hφ:=hq.ph;rw[ep];unfold rQ;have hz:∀n,mf n [.tree [] 0 true]=List.replicate n (D.tree [] 0 true):=λn=>by
   induction n with
   |zero=>rfl
   |succ n ih=>rw[ch,<-ih];rfl
  refine pm (gP eP) (pm ez (pm (BI rfl eP eP) (pm ou ?_)));rw[hz];have hMx:=hC.full eP;refine UA hq hn hP n 0 φ _ [] eP eP rfl hMx.app ⟨by rw[aM (aC _),bD];rfl,aJ _,λk hk=>(by cases hk),λk hk=>by cases hk⟩ λk hk=>⟨λe=>by have:=hMx.live hk;omega,λhk=>by cases hk⟩
 |u+1,i,fu+1,bs,ks,X,l,h,hfu,hi,hC,hX,hl,hln=>by
  have hφ:=hq.ph;have hp:=hq.pr.pos;have hlt:=hq.lt;subst hi;obtain⟨bs1,h1,h2,h3⟩:=hC.push hp (b:=⟨ci (zN n),.rw⟩) eP rfl;have hX1:PS bs1 w (ks++[bs.length]) X l:=by
   have:=hX.more (m:=bs.length) rfl;exact this.keep λk b hk _ hb=>h2 k b hk hb
  have hkn:(ks++[bs.length])[ks.length]?=some bs.length:=by simp
  have z9g:bs.length∈ks++[bs.length]:=by simp
  obtain⟨u0,g1,g2,g3⟩:=h1.row _ z9g;obtain⟨u1,m1,c1,c2,c3⟩:=z3j (p:=p) g1 g2 hX1.cells g3 hl.lt;have C2:=h1.upd z9g c1 c2;have hX2:PS (bs1.set bs.length ⟨ci u1,.rw⟩) w (ks++[bs.length]) X l:=hX1.keep λk b _ hk hb=>fc (λe=>hk (e▸z9g)) hb;have g1':(bs1.set bs.length ⟨ci u1,.rw⟩)[bs.length]?=some ⟨ci u1,.rw⟩:=aH (fC g1);have hx:=wH c2 hp ks.length;have hv:rz p ((u1.getD ks.length 0:Nat)-1:Int)<p:=FJ hp;have C3:=C2.upd z9g (l:=u1.set ks.length (rz p ((u1.getD ks.length 0:Nat)-1:Int))) (by rw[a8];exact c1) (DC c2 hv);have hX3:PS ((bs1.set bs.length ⟨ci u1,.rw⟩).set bs.length ⟨ci (u1.set ks.length (rz p ((u1.getD ks.length 0:Nat)-1:Int))),.rw⟩) w (ks++[bs.length]) X l:=hX2.keep λk b _ hk hb=>fc (λe=>hk (e▸z9g)) hb;have hf0:f≠[]:=λe=>by rw[e]at hfn;simp at hfn
  obtain⟨r,e',bs4,d1,d2,d3⟩:=z33 (p:=p) (M:=lm φ) (A:=tn fb e1) (B:=tn f ef) (λst kk=>rfl) hX3 (λr=>Pq p r/\r.length<f.length) λe=>by
   obtain⟨r,er,a1,a2,a3⟩:=GQ hq hl hfb hf hf0 eP eP (ef:=e) (eg:=e1) (em:=ef);exact⟨r,er,⟨a1,a2⟩,a3⟩
  have C4:CM bs4 w n p (ks++[bs.length]):=C3.keep λk b hk hb=>d2 k b hk hb;rw[ep];unfold rQ;have e0:(ej:D)=zd 1:=rfl;refine pm (gX eP) (pm fG (pm (mkn eP) (pm (h3 _) (pm (h1.rd hkn) (pm (c3 _) (pm (C2.rd hkn) (pm (C2.rd hkn) (pm (yD g1' c1 eP) ?_))))))));refine pm (DT (a:=((u1.getD ks.length 0:Nat):Int)) (b:=1) (by unfold IZ;omega) (by unfold IZ;omega)) ?_;refine pm (Xr hp hlt (by unfold IZ;omega)) (pm (DE g1' c1 eP) (pm (d3 _) (pm (gA eP) ?_)));exact Tz hq hn hf hfn hfb zfd hP u (ks.length+1) fu bs4 _ _ r eP eP fU C4 PS.t d1.1 eP
def KD(hq:PF p φ)(hf:Pq p f)(hfn:f.length=n+1)(hn0:0<n)(hn:n<=100000){ef:Bool}:∃(W:List (eZ×Bool))(e:Bool),W.length<=n/\(∀q,q∈W->Pq p q.1/\q.1.length<=n)/\rR φ [ni p,tn f ef]=some (.tree (W.map tD) W.length e):=by
 have hφ:=hq.ph;have hf0:f≠[]:=λe=>by rw[e]at hfn;simp at hfn
 obtain⟨e0,he0⟩:=PO (bs:=[⟨ci [0,1],.rw⟩]) (k:=0) (l:=[0,1]) (n:=2) (c:=2) (ex:=true) (p:=p) (g:=f) (eg:=ef) rfl rfl;obtain⟨q1,r1,e1,d1,g1⟩:=IL hq (TU hq.pr) hf hf0 eV (ef:=e0) (eg:=ef);have hr1:=d1.lr;obtain⟨fb,e2,a1,a2,a3⟩:=Xw hq d1.pr eP hf hf0 eP (ef:=e1) (em:=ef);have hz:∀n,mf n [.tree [] 0 true]=List.replicate n (D.tree [] 0 true):=λn=>by
  induction n with
  |zero=>rfl
  |succ n ih=>rw[ch,<-ih];rfl
 unfold rR;dsimp only[fJ,fV];rw[<-fg]
 suffices h:(λo=>∃(W:List (eZ×Bool))(e:Bool),W.length<=n/\(∀q,q∈W->Pq p q.1/\q.1.length<=n)/\o=some (.tree (W.map tD) W.length e)) (fT (tn f ef) (mem []) λx3 s=>fe x3 ej λx4=>iO 2 lL [(0,1,fB),(1,1,ej)] s λx5 s=>eY (rS φ) [ni p,x5,tn f ef] s λx6 s=>eY (ul φ) [ni p,x6,tn f ef] s λx7 s=>io 1 24 ms s x4 x4 λx8 s=>iO 1 lL [(0,1,ej)] s λx9 s=>lp pu (rQ φ) φ (ni p) (tn f ef) x4 x7 x8 x9 x4 fB s)from h
 generalize hP:(λo:Option D=>∃(W:List (eZ×Bool))(e:Bool),W.length<=n/\(∀q,q∈W->Pq p q.1/\q.1.length<=n)/\o=some (.tree (W.map tD) W.length e))=P;have hP':∀(W:List (eZ×Bool))(e:Bool),W.length<=n->(∀q,q∈W->Pq p q.1/\q.1.length<=n)->P (some (.tree (W.map tD) W.length e)):=λW e h1 h2=>by rw[<-hP];exact⟨W,e,h1,h2,rfl⟩
 refine pm fY (pm (iJ eP eP) ?_);rw[show f.length-1=n by omega];refine pm YX (pm (he0 _ _ _ _ g1) (pm (fX a3) (pm (BI rfl eP eP) (pm Gi ?_))));rw[hz];refine Tz hq hn hf hfn a1 eP hP' n 0 φ _ [] _ [1] eP eP rfl ⟨rfl,aJ _,λk hk=>(by cases hk),λk hk=>by cases hk⟩ ?_ (CG hq.pr) fU;show PS _ 1 [] (.sl 2 0 [1].length 1 1 true) [1];exact PS.b (k:=2) rfl eV fU
end
section
variable {bs:fQ} {l f g r:eZ} {b:Blk} {i k n m c a p y o v:Nat} {ex:Bool} {s:LS} {K:fK} {kk:IntKind} {φ:Nat} {z x:Int} {d X:D} {cs:fN} {P:Option D->Prop} {W B:List (eZ×Bool)} {q:eZ×Bool}
inductive OL (bs:fQ):D->List (eZ×Bool)->Prop
 |mk {k n:Nat} {ex:Bool} {W:List (eZ×Bool)} (h:bs[k]?=some ⟨W.map tD,.rw⟩) (hn:W.length=n):OL bs (.sl k 0 n n 1 ex) W
def OL.rd(h:OL bs X W)(hi:W[i]?=some q):(eT 1 (mem bs) X (.i kk (.ofNat i)) λa s=>eR s a K)=K (tD q) (mem bs):=by
 have:=fC hi;cases h with
 |mk h hn=>exact rd1 h rfl (by show(W.map tD)[i]?=_;rw[af,hi];rfl) eP
def OL.len(h:OL bs X W):fT X s K=K (.i .i64 (.ofNat W.length)) s:=by
 cases h with
 |mk h hn=>rw[hn];exact ou
def OL.put(h:OL bs X W)(hi:i<W.length)(hP:∀bs',OL bs' X (W.set i q)->P (K .u (mem bs'))):P (eT 1 (mem bs) X (.i kk (.ofNat i)) λa s=>fA 1 s a (tD q) K):=by
 cases h with
 |mk h hn=>
  refine pm (wr1 h eP (by simp;omega)) (hP _ (OL.mk ?_ (by simp;omega)));rw[aH (fC h),dC]
def OL.keep{bs':fQ}(h:OL bs X W)(hk:∀k b,b.st=.rw->bs[k]?=some b->k<bs.length->bs'[k]?=some b):OL bs' X W:=by
 cases h with
 |mk h hn=>exact OL.mk (hk _ _ rfl h (fC h)) hn
def OL.app(h:OL bs X W)(hl:W.length<1000000)(hP:∀bs' X',OL bs' X' (W++[q])->P (K X' (mem bs'))):P (iO 1 [.tree [] 0 true] [(0,1,tD q)] (mem bs) λy s=>mc 1 24 s X y K):=by
 refine pm (B4 (zero:=[.tree [] 0 true]) (x:=tD q) (new:=[tD q]) (z:=1) rfl rfl rfl rfl) ?_;cases h with
 | @mk k n ex W h hn=>
  have hlt:=fC h;have hg:(bs++[⟨[tD q],.rw⟩])[k]?=some ⟨W.map tD,.rw⟩:=fW h;have hk:(bs++[⟨[tD q],.rw⟩])[bs.length]?=some ⟨[tD q],.rw⟩:=by simp
  generalize hbs:bs++[(⟨[tD q],.rw⟩:Blk)]=bs2 at*;have z6D:∀F:fN->Nat->Rs,oI 1 (mem bs2) (.sl bs.length 0 1 1 1 true) F=F [tD q] 1:=λF=>by
   rw[El hk rfl fU];rfl
  have hlen:(W.map tD).length=n:=by rw[aj];exact hn
  have h3:mc 1 24 (mem bs2) (.sl k 0 n n 1 ex) (.sl bs.length 0 1 1 1 true) K=cnd ex (K (.sl bs2.length 0 (n+1) (n+1) 1 false) (mem (bs2++[⟨W.map tD++[tD q],.rw⟩]))) (K (.sl bs2.length 0 (n+1) (n+1) 1 false) (mem (bs2.set k ⟨[],.gone⟩++[⟨W.map tD++[tD q],.rw⟩]))):=by
   show oI 1 (mem bs2) (.sl bs.length 0 1 1 1 true) _=_;rw[z6D];show iq (mem bs2) k (λb=>cnd (wr b.st) (cnd (Nat.beq 1 1) (sP [tD q] (frc (Nat.add n 1) λtot=>cnd (Nat.ble (Nat.mul tot 24) 1099511627776) (cnd (Nat.ble tot 1099511627776) (cnd (Nat.ble tot n) _ (jJ 0 b.cs λr=>jP (Nat.mul n 1) r λold=>pk old [tD q] λcs=>cnd ex (lh (mem bs2) ⟨cs,.rw⟩ λs'=>K (.sl (mem bs2).nx 0 tot tot 1 false) s') (oh (mem bs2) k ⟨[],.gone⟩ λs'=>lh s' ⟨cs,.rw⟩ λs''=>K (.sl (mem bs2).nx 0 tot tot 1 false) s''))) none) none)) none) none)=_;rw[gV hg,Bj,show Stt.rw.wr=true from rfl,fH,show Nat.beq 1 1=true from rfl,fH,sY rfl,fj,show Nat.add n 1=n+1 from rfl,aD (show Nat.mul (n+1) 24<=1099511627776 by show(n+1)*24<=_;omega),aD (show n+1<=1099511627776 by omega),fH,fH,il (show ¬n+1<=n by omega),fq,gZ,a7,i7,show Nat.mul n 1=n from a9 n,aF (by show n<=(W.map tD).length;omega),jt,show(Blk.cs ⟨W.map tD,.rw⟩).take n=W.map tD from aP (by show(W.map tD).length<=n;omega),kI,mP,mD (fC hg),kI]
  rw[h3];have hP1:∀bs3:fQ,bs3[bs2.length]?=some ⟨(W++[q]).map tD,.rw⟩->P (K (.sl bs2.length 0 (n+1) (n+1) 1 false) (mem bs3)):=λbs3 h4=>hP bs3 _ (OL.mk h4 (by simp;omega));cases ex with
  |true=>exact hP1 _ (by rw[aM (aC _),bD,bG];rfl)
  |false=>exact hP1 _ (by rw[aM fU,a8,bD,bG];rfl)
def OL.ret(h:OL bs X W):∃e,fO false (mem bs) X some=some (.tree (W.map tD) W.length e):=by
 cases h with
 | @mk k n ex W hg hn=>
  subst hn;refine⟨(ex&&W.length==W.length),?_⟩;unfold fO;rw[lJ];show sk (lf false (mem bs).get gJ (.sl k 0 W.length W.length 1 ex)) some=_;have h1:res (mem bs).get 60 (.sl k 0 W.length W.length 1 ex)=some (.tree (W.map tD) W.length (ex&&W.length==W.length),[k]):=by
   refine wx (n:=59) (r:=W.map tD) (ls:=[]) (by rw[mK];exact hg) rfl ?_ (MV _ 58 W);unfold cut;show(if(((W.map tD).drop 0).take (W.length*1)).length=W.length*1 then some (((W.map tD).drop 0).take (W.length*1))else none)=_;rw[a7,aP fU,aF fU]
  have:lf false (mem bs).get gJ (.sl k 0 W.length W.length 1 ex)=some (.tree (W.map tD) W.length (ex&&W.length==W.length)):=by
   show(match yF (res (mem bs).get 60 (.sl k 0 W.length W.length 1 ex))with
    |some (d,o,ls)=>if o.all λl=> !ls.contains l then some d else none
    |none=>none)=_
   rw[h1];rfl
  rw[this,gc];rfl
def z35{X i:D}{s:LS}{K:fK}:(eU (.b true) true (λk=>eT 1 s X i k) s λx s=>eU (.b true) true (λk=>eR s x k) s K)=eT 1 s X i λa s=>eR s a K:=rfl
def Vm(hq:PF p φ)(hf:Mo f)(hfn:f.length=n+1)(hn:n<=100000){wl:eZ}{we:Bool}(hw:Pq p wl)(hwl:wl.length<=1000000){Bs V x53 x54 x55:D}{sv:Nat}(hsv:sv<1000000000){q26:yx}(hP:∀bs' X' W',OL bs' X' W'->BL p f W'->P (q26 (ni p) Bs X' V (ni (sv+1)) x53 x54 x55 (mem bs'))):∀(u i fu:Nat)(bs:fQ)(X:D)(W:List (eZ×Bool))(N:Nat),i+u=N->u<fu->N<=W.length->OL bs X W->BL p f W->
 P (lp qI (oY φ q26) fu (ni p) Bs X V (ni sv) (tn wl we) x53 x54 x55 (ni N) (ni i) (mem bs))
 |0,i,fu+1,bs,X,W,N,h,hfu,hN,hO,hB=>by
  rw[ep];unfold oY;exact pm (gP eP) (pm ez (pm (gA eP) (hP bs X W hO hB)))
 |u+1,i,fu+1,bs,X,W,N,h,hfu,hN,hO,hB=>by
  have hφ:=hq.ph;have hWn:=hB.len hq.pr hf hfn;have hi:W[i]?=some W[i]:=aE eP;obtain⟨a1,a2,a3⟩:=hB.all W[i] (cU _);generalize hqq:W[i]=q at*;have hq0:q.1≠[]:=a2.1;have hql:q.1.length<=n+1:=by
   have hp:=(hB.parts hq.pr hf hfn).sub (r:=[zx q.1]) (List.singleton_sublist.2 (dY.2 ⟨q,bS hi,rfl⟩));obtain⟨k,hk,hk2⟩:=hp;have hm:=hk.mon;have h1:=a2.monz (d:=q.1.length-1) eP;have:=JR (m:=p) hq.pr.one h1 hm (CgZ.of (by show zx q.1=zx q.1*1;exact z69));omega
  obtain⟨d,hd,hde⟩:=ZC hq a1 hw hq0 eP eP (ef:=q.2) (eg:=we);have z6w:∀bs' X' W',N<=W'.length->OL bs' X' W'->BL p f W'->P (f7 (ni i) ej λx71=>lp qI (oY φ q26) fu (ni p) Bs X' V (ni sv) (tn wl we) x53 x54 x55 (ni N) x71 (mem bs')):=λbs' X' W' g1 g2 g3=>
   pm (gA eP) (Vm hq hf hfn hn hw hwl hsv hP u (i+1) fu bs' X' W' N eP eP g1 g2 g3)
  rw[ep];unfold oY;refine pm (gX eP) (pm fG (pm sj (pm (hO.rd hi) (pm (fX hde) (pm fY ?_)))));by_cases h1:1<d.length
  ·refine pm (oG h1) (pm gG (pm gG (pm fY (pm gG (pm gG (pm z35 (pm (hO.rd hi) (pm gG (pm fY (pm gG ?_))))))))));by_cases h2:d.length<q.1.length
   ·obtain⟨qq,rr,e1,e2,dm,dme⟩:=xZ hq.pr hq.lt a1 hd.pm (by intro e;rw[e]at h1;simp at h1) eP hφ (ef:=q.2) (eg:=true);have hmo:=hd.mo (Or.inl hq0);obtain⟨r0,hex⟩:=VO hq.pr dm hmo hd.df;refine pm (gX h2) (pm gT (pm fG (pm (hO.rd hi) (pm (fX dme) (pm iG (pm iF ?_))))));refine hO.put (q:=(d,true)) eP λbs1 hO1=>?_;refine hO1.app (q:=(qq,e1)) (by simp;omega) λbs2 X2 hO2=>?_;refine z6w bs2 X2 _ (by simp;omega) hO2 (hB.split hi hd.pm hmo h1 dm.pq (dm.mo eP a2 hmo) (by rw[dm.lq eP];omega) hex)
   ·exact pm (gP h2) (pm gT (pm ez (z6w bs X W hN hO hB)))
  ·exact pm (qw h1) (pm gx (pm gx (pm gx (pm gx (pm gx (pm gx (pm gx (pm gx (pm ga (pm ez (z6w bs X W hN hO hB)))))))))))
def z3Q(hq:PF p φ){v:Nat}(hv:v<p):∃l,Pq p l/\l.length<=1/\∀(bs:fQ)(K:fK),(iO 1 [fB] [(0,1,ni v)] (mem bs) λx42 s=>eY (iL φ) [x42] s K)=K (tn l true) (mem (bs++[⟨ci [v],.frz⟩])):=by
 have hv1:∀x,x∈[v]->x<p:=λx hx=>by
  have:x=v:=by simpa using hx
  omega
 refine⟨tz [v],CE hv1,Dc,λbs K=>th Gi ?_⟩;refine th (OF (l:=[v]) (n:=1) (c:=1) (ex:=true) fU rfl eV hq.ph) ?_;rw[bU _ _ (aC _),bD,ck]
def Vl(hq:PF p φ)(hf:Mo f)(hfn:f.length=n+1)(hn:n<=100000)(hBl:B.length<=n){vl:eZ}{ve:Bool}(hv:Pq p vl)(hvl:vl.length<=n){eb:Bool}{x32 x33 x34:D}{j14:kT}(hP:∀bs' X' W',OL bs' X' W'->BL p f W'->P (j14 (ni p) (.tree (B.map tD) B.length eb) X' x32 x33 x34 (mem bs'))):∀(u v fu:Nat)(bs:fQ)(X:D)(W:List (eZ×Bool)),v+u=p->u<fu->OL bs X W->BL p f W->
 P (lp pu (qz φ j14) fu (ni p) (.tree (B.map tD) B.length eb) X (tn vl ve) (ni v) x32 x33 x34 (mem bs))
 |0,v,fu+1,bs,X,W,h,hfu,hO,hB=>by
  rw[ep];unfold qz;exact pm (gP eP) (pm gx (pm gx (pm gx (pm gx (pm gx (pm ga (pm ez (hP bs X W hO hB))))))))
 |u+1,v,fu+1,bs,X,W,h,hfu,hO,hB=>by
  have hφ:=hq.ph;have hlt:=hq.lt;have hWn:=hB.len hq.pr hf hfn;rw[ep];unfold qz;refine pm (gX eP) (pm gG (pm gG (pm hO.len (pm gG (pm gG (pm fY (pm gG ?_)))))));by_cases h1:W.length<B.length
  ·obtain⟨l,a1,a2,a3⟩:=z3Q hq (v:=v) eP;obtain⟨w1,w2,w3⟩:=E0 (f:=vl) (g:=l) hq.pr.pos hv a1;have hO':OL (bs++[⟨ci [v],.frz⟩]) X W:=hO.keep λk b _ hb _=>fW hb;refine pm (gX h1) (pm gT (pm fG (pm (a3 bs _) (pm (fX (P8 hq hv a1 eP eP (ef:=ve) (eg:=true))) (pm hO'.len ?_)))));refine Vm hq hf hfn hn w1 eP eP (λbs' X' W' h2 h3=>?_) W.length 0 φ _ X W W.length eP eP (aC _) hO' hB;exact Vl hq hf hfn hn hBl hv hvl hP u (v+1) fu bs' X' W' eP eP h2 h3
  ·exact pm (gP h1) (pm gT (pm ez (hP bs X W hO hB)))
def Vk(hq:PF p φ)(hf:Mo f)(hfn:f.length=n+1)(hn:n<=100000)(hBl:B.length<=n)(hBp:∀q,q∈B->Pq p q.1/\q.1.length<=n){eb:Bool}(hP:∀(W:List (eZ×Bool))(e:Bool),BL p f W->P (some (.tree (W.map tD) W.length e))):∀(u i fu:Nat)(bs:fQ)(X:D)(W:List (eZ×Bool)),i+u=B.length->u<fu->OL bs X W->BL p f W->
 P (lp iH (lT φ) fu (ni p) (.tree (B.map tD) B.length eb) X (.tree (B.map tD) B.length eb) (ni B.length) (ni i) (mem bs))
 |0,i,fu+1,bs,X,W,h,hfu,hO,hB=>by
  obtain⟨e,he⟩:=hO.ret;rw[ep];unfold lT;exact pm (gP eP) (pm ez (pm he (hP W e hB)))
 |u+1,i,fu+1,bs,X,W,h,hfu,hO,hB=>by
  have hφ:=hq.ph;have hlt:=hq.lt;have hi:B[i]?=some B[i]:=aE eP;obtain⟨g1,g2⟩:=hBp B[i] (cU _);generalize B[i]=q at*;have z6w:∀bs' X' W',OL bs' X' W'->BL p f W'->P ((λ(x15 x16 x17 x18 x19 x20:D)(s:LS)=>f7 x20 ej λx21=>lp iH (lT φ) fu x15 x16 x17 x18 x19 x21 s) (ni p) (.tree (B.map tD) B.length eb) X' (.tree (B.map tD) B.length eb) (ni B.length) (ni i) (mem bs')):=λbs' X' W' h1 h2=>
   pm (gA eP) (Vk hq hf hfn hn hBl hBp hP u (i+1) fu bs' X' W' eP eP h1 h2)
  rw[ep];unfold lT;refine pm (gX eP) (pm fG (pm sj (pm (rdt (d:=tD q) (by rw[af,hi];rfl) fU) (pm fY ?_))));by_cases h2:q.1.length<2
  ·exact pm (gX h2) (pm fG (z6w bs X W hO hB))
  ·refine pm (gP h2) (pm ez ?_);exact Vl (j14:=λ(x15 x16 x17 x18 x19 x20:D)(s:LS)=>f7 x20 ej λx21=>lp iH (lT φ) fu x15 x16 x17 x18 x19 x21 s) hq hf hfn hn hBl g1 g2 z6w p 0 φ bs X W eP eP hO hB
def KE(hq:PF p φ)(hf:Pq p f)(hm:Mo f)(hfn:f.length=n+1)(hn0:0<n)(hn:n<=100000){ef:Bool}:∃(W:List (eZ×Bool))(e:Bool),BL p f W/\n7 φ [ni p,tn f ef]=some (.tree (W.map tD) W.length e):=by
 have hφ:=hq.ph;obtain⟨B,eb,b1,b2,b3⟩:=KD hq hf hfn hn0 hn (ef:=ef);unfold n7;dsimp only[fJ,fV];rw[<-fg]
 suffices h:(λo=>∃(W:List (eZ×Bool))(e:Bool),BL p f W/\o=some (.tree (W.map tD) W.length e)) (eY (rR φ) [ni p,tn f ef] (mem []) λx3 s=>iO 1 ms [(0,1,tn f ef)] s λx4 s=>fT x3 s λx5 s=>lp iH (lT φ) φ (ni p) x3 x4 x3 x5 fB s)from h
 generalize hP:(λo:Option D=>∃(W:List (eZ×Bool))(e:Bool),BL p f W/\o=some (.tree (W.map tD) W.length e))=P;have hP':∀(W:List (eZ×Bool))(e:Bool),BL p f W->P (some (.tree (W.map tD) W.length e)):=λW e h1=>by rw[<-hP];exact⟨W,e,h1,rfl⟩
 refine pm (fX b3) (pm (B4 (zero:=[.tree [] 0 true]) (x:=tn f ef) (new:=[tn f ef]) (z:=1) rfl rfl rfl rfl) (pm fY ?_));exact Vk hq hm hfn hn b1 b2 hP' B.length 0 φ _ _ [(f,ef)] eP eP (OL.mk (k:=0) rfl rfl) (BL.start hf hm eP)
end
def sqN(M:Nat):Nat->Nat
 |0=>M
 |j+1=>sqN (M*M) j
section
variable {bs:fQ} {l f g q:fZ} {ln:eZ} {i j k n c h B M N a b p:Nat} {ex:Bool} {K:fK} {φ:Nat} {z x y:Int} {d:D} {r:D} {u t:ZX} {W:List (eZ×Bool)}
def ON:∀(j M:Nat),1<=M->M<=sqN M j
 |0,M,_=>aC _
 |j+1,M,h=>by
  have h1:M*1<=M*M:=ae _ h;have:=ON j (M*M) eP;show M<=sqN (M*M) j;omega
def Sb:∀(j M:Nat),(M:Int)∣(sqN M j:Nat)
 |0,M=>Int.dvd_refl _
 |j+1,M=>by
  have:=Sb j (M*M);refine Int.dvd_trans ⟨(M:Int),by rw[bZ]⟩ this
def MD.of(h:MD N φ)(hM:M<=N)(h2:2<=M):MD M φ:=⟨h2,iK h.lg hM,h.ph⟩
def Hp{F G0 H0:ZX}{f:fZ}(hF:zl f=F)(hfb:BdL B f)(hB:Lg 900000000 B)(hfl:f.length=a+b+1)(hfm:MonZ (a+b) (zl f))(hab:a+b<=1000)(ha:1<=a)(hn:n<=1000000){ef:Bool}:∀(j i M fu:Nat)(g h s t:fZ)(eg eh es et:Bool)(bs:fQ),i+j=n->j<fu->2<=M->(p:Int)∣(M:Int)->MD (sqN M j) φ->PI M p a b F G0 H0 g h s t->bs[0]?=some ⟨zcs (M:Nat),.rw⟩->
 ∃g' h' s' t' e1 e2,PI (sqN M j) p a b F G0 H0 g' h' s' t'/\lp pu (rn φ) fu (zn f ef) (zn g eg) (zn h eh) (zn s es) (zn t et) (.ptr 0 0) (ni n) (ni i) (mem bs)=some (.tup [zn g' e1,zn h' e2])
 |0,i,M,fu+1,g,h,s,t,eg,eh,es,et,bs,hj,hfu,h2,hp,hM,hI,hb=>by
  obtain⟨e1,e2,he⟩:=FQ (bs:=bs) (V1:=zn g eg) (V2:=zn h eh) (q:=g) (r:=h) ⟨eg,[],rfl⟩ ⟨eh,[],rfl⟩;refine⟨g,h,s,t,e1,e2,hI,?_⟩;rw[ep];unfold rn;exact th (gP eP) (th ez he)
 |j+1,i,M,fu+1,g,h,s,t,eg,eh,es,et,bs,hj,hfu,h2,hp,hM,hI,hb=>by
  have hM:MD (sqN (M*M) j) φ:=hM;have h4:M*2<=M*M:=ae _ h2;obtain⟨g1,h1,s1,t1,e1,e2,e3,e4,bs1,hI1,hb1,he1⟩:=Mq (hM.of (ON j (M*M) eP) eP) hp h2 hF hfb hB hfl hfm hab ha hI (ef:=ef) (eg:=eg) (eh:=eh) (es:=es) (et:=et) (rr:=.u) (N0:=.u) (fu:=fu) (bs:=bs) (i:=i) (n:=n) eP hn hb;obtain⟨g2,h2',s2,t2,f1,f2,hI2,he2⟩:=Hp hF hfb hB hfl hfm hab ha hn (ef:=ef) j (i+1) (M*M) fu g1 h1 s1 t1 e1 e2 e3 e4 bs1 eP eP eP (Int.dvd_trans hp ⟨(M:Int),by rw[bZ]⟩) hM hI1 hb1;exact⟨g2,h2',s2,t2,f1,f2,hI2,he1.trans he2⟩
def JP(h:∀x,x∈ln->x<p):BdL p (ofN ln):=λx hx=>by
 obtain⟨y,hy,rfl⟩:=dY.1 hx;have:=h y hy;rw[bJ];omega
def E3:(ofN ln).length=ln.length:=by simp[ofN]
def Sy{s:LS}{x y z:eZ}{e1 e2 e3:Bool}{K:fK}:gB (.tup [tn x e1,tn y e2,tn z e3]) 2 s K=K (tn z e3) s:=rfl
def ZW(hq:PF p φ){al bl:eZ}(hal:Pq p al)(hbl:Pq p bl)(ham:Mo al)(hbm:Mo bl)(hla:al.length=a+1)(hlb:bl.length=b+1)(ha:1<=a)(hbz:Bez p (zx al) (zx bl))(hfb:BdL B f)(hB:Lg 900000000 B)(hfl:f.length=a+b+1)(hfm:MonZ (a+b) (zl f))(hab:a+b<=1000)(hpr:CgZ p (zl f) (zx al*zx bl))(hn:n<=1000000)(hM:MD (sqN p n) φ){ef ea eb:Bool}:
 ∃g h e1 e2,MonZ a (zl g)/\g.length=a+1/\BdL (sqN p n) g/\MonZ b (zl h)/\h.length=b+1/\BdL (sqN p n) h/\CgZ p (zl g) (zx al)/\CgZ p (zl h) (zx bl)/\xj φ [zn f ef,ni p,ni n,tn al ea,tn bl eb]=some (.tup [zn g e1,zn h e2]):=by
 have hph:=hq.ph;have hlt:=hq.lt;obtain⟨d,sr,uu,e2,e3,s1,s2,s3,s4,s5,s6⟩:=z17 hq hal hbl ham.1 hbm.1 eP eP hbz (ef:=ea) (eg:=eb);have hx:∀l:eZ,Pq p l->∀x,x∈l->x<1000000000:=λl hl x hx=>cj (hl.lt x hx) hlt;obtain⟨l1,k1⟩:=Bi (hx al hal) eP hph (e:=ea);obtain⟨l2,k2⟩:=Bi (hx bl hbl) eP hph (e:=eb);obtain⟨l3,k3⟩:=Bi (hx sr s1) eP hph (e:=e2);obtain⟨l4,k4⟩:=Bi (hx uu s2) eP hph (e:=e3);have hI:PI p p a b (zl f) (zx al) (zx bl) (ofN al) (ofN bl) (ofN sr) (ofN uu):=⟨by rw[xA];exact ham.monz hla,by rw[E3];exact hla,JP hal.lt,by rw[xA];exact hbm.monz hlb,by rw[E3];exact hlb,JP hbl.lt,by rw[E3];omega,JP s1.lt,by rw[E3];omega,JP s2.lt,by rw[xA,xA];exact hpr,by rw[xA,xA,xA,xA];exact s5,CgZ.of xA,CgZ.of xA⟩
 obtain⟨g,h,s',t',e5,e6,hI2,he⟩:=Hp rfl hfb hB hfl hfm hab ha hn (ef:=ef) n 0 p φ (ofN al) (ofN bl) (ofN sr) (ofN uu) l1 l2 l3 l4 ([]++[Blk.mk (zcs (p:Nat)) .rw]) eP eP hq.pr.two (Int.dvd_refl _) hM hI rfl;refine⟨g,h,e5,e6,hI2.mg,hI2.gl,hI2.gb,hI2.mh,hI2.hl,hI2.hb,hI2.pg,hI2.ph,?_⟩;unfold xj;dsimp only[fJ,fV];rw[<-fg];have hz3:∀(K:fK)(s:LS),gB (.tup [tn d true,tn sr e2,tn uu e3]) 0 s K=K (tn d true) s:=λ_ _=>rfl;have hz4:∀(K:fK)(s:LS),gB (.tup [tn d true,tn sr e2,tn uu e3]) 1 s K=K (tn sr e2) s:=λ_ _=>rfl;have ho:∀(K:fK)(s:LS),eY (iN φ) [ni p] s K=K (itz (p:Nat)) s:=λK s=>iOf (z:=(p:Nat)) eP;exact th (fX s6) (th (hz3 _ _) (th (hz4 _ _) (th Sy (th (fX k1) (th (fX k2) (th (fX k3) (th (fX k4) (th (ho _ _) (th (al2 rfl) he)))))))))
def pZ(W:List (eZ×Bool)):ZX:=qu (W.map λq=>zx q.1)
def JJ(hp:Pr p)(hl:Pq p ln)(hm:MonZ n u)(hc:CgZ p (zx ln) u):ln.length=n+1/\Mo ln:=by
 have h1:ln.getD n 0=1:=by
  obtain⟨z,hz⟩:=yv hc n;rw[ww,hm.one]at hz;exact FW (p:=p) (hl.get hp.pos n) (by have:=hp.two;omega) ⟨z,hz⟩
 have h2:∀k,n<k->ln.getD k 0=0:=λk hk=>by
  obtain⟨z,hz⟩:=yv hc k;rw[ww,hm.low k eP]at hz;exact FW (p:=p) (hl.get hp.pos k) hp.pos ⟨z,hz⟩
 have h3:ln.length=n+1:=by
  rcases cy ln.length (n+1)with h|h|h
  ·rw[aB,ai eP]at h1;cases h1
  ·exact h
  ·exact absurd (h2 (ln.length-1) eP) (hl.top (ln.length-1) eP)
 refine⟨h3,λe=>by rw[e]at h3;simp at h3,by rw[h3];exact h1⟩
def Hm(h:PF p φ)(hW:∀q,q∈W->Pq p q.1/\q.1.length<=100000)(hl:W.length<=1000){e:Bool}:∀(j i fu:Nat)(o:eZ)(eo:Bool)(bs:fQ),i+j=W.length->j<fu->Pq p o->o.length<=i*100000+10->
 ∃o' e',Pq p o'/\CgZ p (zx o') (zx o*pZ (W.drop i))/\lp gQ (nE φ) fu (ni p) (tn o eo) (.tree (W.map tD) W.length e) (ni W.length) (ni i) (mem bs)=some (tn o' e')
 |0,i,fu+1,o,eo,bs,hj,hfu,ho,hol=>by
  refine⟨o,eo,ho,CgZ.of ?_,?_⟩
  ·rw[zmI eP];show zx o=zx o*1;exact z69
  ·rw[ep];unfold nE;exact th (gP eP) (th ez HE)
 |j+1,i,fu+1,o,eo,bs,hj,hfu,ho,hol=>by
  have hi:W[i]?=some W[i]:=aE eP;obtain⟨w1,w2⟩:=hW W[i] (cU _);have hd:W.drop i=W[i]::W.drop (i+1):=cI eP;have him:i*100000<=1000*100000:=aK _ eP;obtain⟨o1,a1,a2,a3,a4⟩:=IM h ho w1 eP eP (ef:=eo) (eg:=W[i].2);obtain⟨o2,e2,b1,b2,b3⟩:=Hm h hW hl (e:=e) j (i+1) fu o1 true bs eP eP a1 (by rw[aS,ao];omega);refine⟨o2,e2,b1,b2.tr ((CgZ.ml a2 CgZ.rfl').tr (CgZ.of ?_)),?_⟩
  ·rw[hd];show zx o*zx W[i].1*pZ (W.drop (i+1))=zx o*(zx W[i].1*pZ (W.drop (i+1)));exact z69
  ·rw[ep];unfold nE;exact th (gX eP) (th fG (th (rdt (d:=tD W[i]) (by rw[af,hi];rfl) fU) (th (fX a4) (th (gA eP) b3))))
def HO(h:PF p φ)(hW:∀q,q∈W->Pq p q.1/\q.1.length<=100000)(hl:W.length<=1000)(h0:0<W.length){e:Bool}:∃o e',Pq p o/\CgZ p (zx o) (pZ W)/\rk φ [ni p,.tree (W.map tD) W.length e]=some (tn o e'):=by
 have hph:=h.ph;have hi:W[0]?=some W[0]:=aE eP;obtain⟨w1,w2⟩:=hW W[0] (cU _);have hd:W=W[0]::W.drop 1:=by
  have:=cI (l:=W) (i:=0) h0;simpa using this
 obtain⟨e0,he0⟩:=PO (bs:=[]++[Blk.mk (ci [1]) .rw]) (k:=0) (l:=[1]) (n:=1) (c:=1) (ex:=true) (p:=p) (g:=W[0].1) (eg:=W[0].2) rfl rfl;obtain⟨o1,a1,a2,a3,a4⟩:=IM h (CG h.pr) w1 eV eP (ef:=e0) (eg:=W[0].2);obtain⟨o2,e2,b1,b2,b3⟩:=Hm h hW hl (e:=e) (W.length-1) 1 (φ-1) o1 true (([]++[Blk.mk (ci [1]) .rw]).set 0 ⟨ci [1],.frz⟩) eP eP a1 (by simp at a3;omega);refine⟨o2,e2,b1,b2.tr ((CgZ.ml a2 CgZ.rfl').tr (CgZ.of ?_)),?_⟩
 ·conv=>rhs;rw[hd]
  show zx [1]*zx W[0].1*pZ (W.drop 1)=zx W[0].1*pZ (W.drop 1);rw[Aq];exact z69
 ·unfold rk;dsimp only[fJ,fV];rw[<-fg];obtain⟨ψ,hψ⟩:∃ψ,φ=ψ+1:=⟨φ-1,eP⟩
  rw[show φ-1=ψ by omega]at b3;have e1:lp gQ (nE φ) φ=lp gQ (nE φ) (ψ+1):=by rw[<-hψ]
  refine th Gi (th fY ?_);rw[e1,ep];unfold nE;exact th (gX h0) (th fG (th (rdt (d:=tD W[0]) (by rw[af,hi];rfl) fU) (th (he0 _ _ _ _ a4) (th (gA eP) b3))))
end
end
end Go.Proofs.YthljpappkomocaaGreat
