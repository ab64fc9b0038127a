/- What the evaluator and the residuals compute. -/
import Derived.Test.YthljpappkomocaaGreatA4
set_option linter.all false
set_option maxRecDepth 10000
namespace Go.Proofs.YthljpappkomocaaGreat
open Ev
noncomputable section
def zD(q:fZ×Bool):D:=zn q.1 q.2
section
variable {bs:fQ} {l f g q:fZ} {i j k n m c h S a b p:Nat} {ex:Bool} {s:LS} {K:fK} {φ:Nat} {z x y:Int} {d:D} {cs:fN} {r:D} {ls:eZ} {t:ZX} {W:List (eZ×Bool)} {L:List (fZ×Bool)}
def SI:∀L:List (fZ×Bool),(L.map zD).all one=true
 |[]=>rfl
 |p::L=>by rw[cC,cH,SI L];rfl
def Es(g:Nat->Option Blk)(j:Nat):∀L:List (fZ×Bool),i8 (res g (j+1)) (L.map zD)=some (L.map zD,[])
 |[]=>rfl
 |p::L=>by
  rw[cC];unfold i8;rw[Es g j L,show res g (j+1) (zD p)=some (zD p,[])from rfl];rfl
def FS(hb:bs[k]?=some ⟨cs,.rw⟩)(hn:cs.length=n)(hr:∀g:Nat->Option Blk,i8 (res g 60) cs=some (cs,[])):fO true (mem bs) (.sl k 0 n c 1 ex) some=some (.own cs n 1):=by
 unfold fO;rw[lJ];show sk (lf true (mem bs).get gJ (.sl k 0 n c 1 ex)) some=_;have z6f:cut 0 (n*1) cs=some cs:=by
  unfold cut;rw[a7,aP eP,aF eP]
 have:lf true (mem bs).get gJ (.sl k 0 n c 1 ex)=some (.own cs n 1):=by
  have e1:vL true (mem bs).get 60 (.sl k 0 n c 1 ex)=some (.own cs n 1,[k],[]):=by
   show(match (mem bs).get k with
    |some b=>if b.st.wr then match cut 0 (n*1) b.cs with
     |some r=>match i8 (res (mem bs).get 60) r with
      |some (cs,ls)=>some (D.own cs n 1,[k],ls)
      |none=>none
     |none=>none
     else yF (res (mem bs).get 60 (.sl k 0 n c 1 ex))
    |none=>none)=_
   rw[mK,hb];show(match cut 0 (n*1) cs with
    |some r=>match i8 (res (mem bs).get 60) r with
     |some (cs,ls)=>some (D.own cs n 1,[k],ls)
     |none=>none
    |none=>none)=_
   rw[z6f];show(match i8 (res (mem bs).get 60) cs with
    |some (cs,ls)=>some (D.own cs n 1,[k],ls)
    |none=>none)=_
   rw[hr]
  show(match vL true (mem bs).get 60 (.sl k 0 n c 1 ex)with
   |some (d,o,ls)=>if o.all λl=> !ls.contains l then some d else none
   |none=>none)=_
  rw[e1];rfl
 rw[this,gc];rfl
def Yo{e:Bool}(hl:cs.length=n)(hh:k<=n):∃e',∀K:fK,iT 1 s (.tree cs n e) none (some (.i .i64 (.ofNat k))) none K=K (.tree (cs.take k) k e') s:=by
 refine⟨cnd e (Nat.beq k n) false,λK=>?_⟩;show(cnd (Nat.ble n n) (cnd (Nat.ble k n) (cnd (Nat.ble 0 k) (cnd (Nat.beq cs.length (Nat.mul n 1)) (jJ (Nat.mul 0 1) cs λcs=>frc (Nat.sub k 0) λn'=>jP (Nat.mul n' 1) cs λcs=>nM (cnd e (Nat.beq k n) false) λex=>K (.tree cs n' ex) s) none) none) none) none)=_;rw[aD (aC n),aD hh,aD (aJ k),hl,show Nat.mul n 1=n from a9 n,gE,gZ,fj];simp only[fH];rw[show Nat.mul 0 1=0 from rfl,a7,show Nat.sub k 0=k from rfl,show Nat.mul k 1=k from a9 k,i7,aF eP,iz]
def Yn{e:Bool}(hl:cs.length=n)(hh:k<=n):∃e',∀K:fK,iT 1 s (.tree cs n e) (some (.i .i64 (.ofNat k))) none none K=K (.tree (cs.drop k) (n-k) e') s:=by
 refine⟨cnd e (Nat.beq n n) false,λK=>?_⟩;show(cnd (Nat.ble n n) (cnd (Nat.ble n n) (cnd (Nat.ble k n) (cnd (Nat.beq cs.length (Nat.mul n 1)) (jJ (Nat.mul k 1) cs λcs=>frc (Nat.sub n k) λn'=>jP (Nat.mul n' 1) cs λcs=>nM (cnd e (Nat.beq n n) false) λex=>K (.tree cs n' ex) s) none) none) none) none)=_;rw[aD (aC n),aD hh,hl,show Nat.mul n 1=n from a9 n,gE,gZ,fj];simp only[fH];rw[show Nat.mul k 1=k from a9 k,show Nat.sub n k=n-k from rfl,show Nat.mul (n-k) 1=n-k from a9 _,i7,aF (by rw[bR];omega),aP (by rw[bR];omega),iz]
def PartsZ.split:∀{l r:List ZX}{n:Nat},PartsZ (l++r) n->∃a b,PartsZ l a/\PartsZ r b/\a+b=n
 |[],r,n,h=>⟨0,n,PartsZ.nil,h,aN n⟩
 |x::l,r,n,h=>by
  cases h with
  | @cons _ _ d n' h h1 t=>
   obtain⟨a,b,h2,h3,h4⟩:=PartsZ.split (l:=l) t;exact⟨d+a,b,PartsZ.cons h h1 h2,h3,eP⟩
def z0u(W1 W2:List (eZ×Bool)):pZ (W1++W2)=pZ W1*pZ W2:=by
 unfold pZ;rw[bG,AO]
def z2l{m:Int}{x y:ZX}(hx:Po x)(hy:Po y)(h:Bez m (x*y) (x*y).der):Bez m x x.der:=by
 obtain⟨S,T,h1,h2,h3⟩:=h;refine⟨S*y+T*y.der,T*y,(h1.mul hy).add (h2.mul hy.der),h2.mul hy,CgZ.tr (CgZ.of ?_) h3⟩;rw[Pw];clear h3;exact z69
def z47{m:Int}{x y:ZX}(hx:Po x)(hy:Po y)(h:Bez m (x*y) (x*y).der):Bez m y y.der:=by
 refine z2l (x:=y) (y:=x) hy hx ?_;have:y*x=x*y:=z69;rw[this];exact h
def AP{d:Nat}{x:ZX}(h:MonZ d x):Po x:=⟨_,h.low⟩
structure WP (p:Nat) (W:List (eZ×Bool)) (n:Nat):Prop where
 all:∀q,q∈W->Pq p q.1/\Mo q.1/\q.1.length<=100000
 pt:PartsZ (W.map λq=>zx q.1) n
 sf:Bez p (pZ W) (pZ W).der
def Jt(hq:PF p φ){R:Nat}(hR:R<=1000000)(hM:MD (sqN p R) φ):∀(fu:Nat)(W:List (eZ×Bool))(f:fZ)(n:Nat)(ef e:Bool),W.length<=fu->1<=W.length->WP p W n->n<=1000->MonZ n (zl f)->f.length=n+1->BdL (sqN p R) f->CgZ p (zl f) (pZ W)->
 ∃L:List (fZ×Bool),L.length=W.length/\PartsZ (L.map λq=>zl q.1) n/\(∀q,q∈L->BdL (sqN p R) q.1/\q.1.length<=n+1)/\lp (λ_=>none) (AB φ) fu [zn f ef,ni p,ni R,.tree (W.map tD) W.length e]=some (.own (L.map zD) L.length 1)
 |0,W,f,n,ef,e,hfu,h1,hW,hn,hm,hl,hb,hc=>eP
 |fu+1,W,f,n,ef,e,hfu,h1,hW,hn,hm,hl,hb,hc=>by
  by_cases hw1:W.length=1
  ·refine⟨[(f,ef)],hw1.symm,?_,λq hq'=>?_,?_⟩
   ·have hp1:=hW.pt.pos;have z6W:1<=n:=by simp at hp1;omega
    exact PartsZ.cons hm z6W PartsZ.nil
   ·have:q=(f,ef):=by simpa using hq'
    subst this;exact⟨hb,by show f.length<=n+1;omega⟩
   ·rw[ep];unfold AB;dsimp only[fJ,fV];rw[<-fg];refine th fY (th (oW hw1) (th fG (th (B4 (zero:=[.tree [] 0 true]) (x:=zn f ef) (new:=[zn f ef]) (z:=1) rfl rfl rfl rfl) ?_)));exact FS (cs:=[zn f ef]) rfl rfl λg=>Es g 59 [(f,ef)]
  ·
   have hh:W.length/2<=W.length:=dX _ _;have hh1:1<=W.length/2:=eP;have hWl:W.length<=n:=by have:=hW.pt.pos;simpa using this
   generalize hH:W.length/2=H at hh hh1;have htl:(W.take H).length=H:=by rw[aR];omega
   have hdl:(W.drop H).length=W.length-H:=by rw[bR]
   have hsp:W.take H++W.drop H=W:=bY _ _;have hpt:=hW.pt;rw[<-hsp,bG]at hpt;obtain⟨a,b,p1,p2,hab⟩:=PartsZ.split hpt;have m1:MonZ a (pZ (W.take H)):=p1.mon;have m2:MonZ b (pZ (W.drop H)):=p2.mon;have zal:pZ W=pZ (W.take H)*pZ (W.drop H):=by rw[<-z0u,hsp]
   have hsf:=hW.sf;rw[zal]at hsf;have A1:∀q,q∈W.take H->Pq p q.1/\Mo q.1/\q.1.length<=100000:=λq hq'=>hW.all q (bH hq');have A2:∀q,q∈W.drop H->Pq p q.1/\Mo q.1/\q.1.length<=100000:=λq hq'=>hW.all q (ba hq');obtain⟨t1,ht1⟩:=Yo (s:=mem []) (cs:=W.map tD) (n:=W.length) (k:=H) (e:=e) fU hh;obtain⟨t2,ht2⟩:=Yn (s:=mem []) (cs:=W.map tD) (n:=W.length) (k:=H) (e:=e) fU hh;rw[<-dN]at ht1;rw[<-zmJ]at ht2;obtain⟨o1,e1,c1,c2,c3⟩:=HO hq (W:=W.take H) (λq hq'=>⟨(A1 q hq').1,(A1 q hq').2.2⟩) eP eP (e:=t1);obtain⟨o2,e2,d1,d2,d3⟩:=HO hq (W:=W.drop H) (λq hq'=>⟨(A2 q hq').1,(A2 q hq').2.2⟩) eP eP (e:=t2);obtain⟨l1,mo1⟩:=JJ hq.pr c1 m1 c2;obtain⟨l2,mo2⟩:=JJ hq.pr d1 m2 d2;have ha1:1<=a:=by have:=p1.pos;simp at this;omega
   have za8:Bez p (zx o1) (zx o2):=(YZ (AP m1) (AP m2) hsf).cg c2.sy d2.sy;obtain⟨g,h,e5,e6,g1,g2,g3,g4,g5,g6,g7,g8,g9⟩:=ZW (n:=R) (f:=f) hq c1 d1 mo1 mo2 l1 l2 ha1 za8 hb hM.lgM eP (by rw[hab];exact hm) eP (hc.tr (by rw[zal];exact CgZ.ml c2.sy d2.sy)) hR hM (ef:=ef) (ea:=e1) (eb:=e2);obtain⟨L1,r1,r2,r3,r4⟩:=Jt hq hR hM fu (W.take H) g a e5 t1 eP eP ⟨A1,p1,z2l (AP m1) (AP m2) hsf⟩ eP g1 g2 g3 (g7.tr c2);obtain⟨L2,s1,s2,s3,s4⟩:=Jt hq hR hM fu (W.drop H) h b e6 t2 eP eP ⟨A2,p2,z47 (AP m1) (AP m2) hsf⟩ eP g4 g5 g6 (g8.tr d2);rw[htl]at c3 r4;rw[hdl]at d3 s4;refine⟨L1++L2,by rw[aq];omega,by rw[bG,<-hab];exact r2.app s2,λq hq'=>?_,?_⟩
   ·rcases bM.1 hq' with h|h
    ·obtain⟨x1,x2⟩:=r3 q h;exact⟨x1,eP⟩
    ·obtain⟨x1,x2⟩:=s3 q h;exact⟨x1,eP⟩
   ·have hAS:AS 1 ([]++[Blk.mk (L1.map zD) .rw]++[Blk.mk (L2.map zD) .rw]) (.sl 0 0 L1.length L1.length 1 false) (L1.map zD) L1.length:=AS.blk rfl fU;have z6D:∀F:fN->Nat->Rs,oI 1 (mem ([]++[Blk.mk (L1.map zD) .rw]++[Blk.mk (L2.map zD) .rw])) (.sl 1 0 L2.length L2.length 1 false) F=F (L2.map zD) L2.length:=λF=>by
     rw[El (b:=Blk.mk (L2.map zD) .rw) rfl rfl (by show 0+L2.length*1<=(L2.map zD).length;simp),a7,show(Blk.cs (Blk.mk (L2.map zD) .rw)).take (L2.length*1)=L2.map zD from aP fU]
    obtain⟨bs3,X3,f1,f2,f3⟩:=Vu (K:=λx21 s=>fO true s x21 some) (bytes:=24) hAS z6D fU (SI L2) eP eP;have zaR:fO true (mem bs3) X3 some=some (.own ((L1++L2).map zD) (L1++L2).length 1):=by
     rw[<-bG]at f1;rw[<-aq]at f1;have hne:(L1++L2).length≠0:=by rw[aq];omega
     generalize hcs:(L1++L2).map zD=cs at f1;generalize hnn:(L1++L2).length=nn at*;cases f1 with
     |nil=>exact absurd rfl hne
     |blk hg hcl=>exact FS hg eP λg=>by rw[<-hcs];exact Es g 59 _
    rw[ep];unfold AB;dsimp only[fJ,fV];rw[<-fg];refine th fY (th (mJ hw1) (th ez (th fY (th (Yq eV eP) ?_))));rw[hH];refine th (ht1 _) (th (fX c3) (th (ht2 _) (th (fX d3) (th (fX g9) (th iG (th iF (th (ht1 _) ?_)))))));obtain⟨t2',zaO⟩:=Yn (s:=mem ([]++[Blk.mk (L1.map zD) .rw])) (cs:=W.map tD) (n:=W.length) (k:=H) (e:=e) fU hh;have et:t2'=t2:=by
     have h1:=ht2 (λd s=>some d);have h2:iT 1 (mem ([]++[Blk.mk (L1.map zD) .rw])) (.tree (W.map tD) W.length e) (some (.i .i64 (.ofNat H))) none none (λd s=>some d)=iT 1 (mem []) (.tree (W.map tD) W.length e) (some (.i .i64 (.ofNat H))) none none (λd s=>some d):=rfl;rw[zaO,h1,<-zmJ]at h2;injection h2 with h3;injection h3
    subst et;rw[<-zmJ]at zaO;refine th (GK r4) (th (zaO _) (th (GK s4) ?_));exact th f3 zaR
def z1T(hq:PF p φ){R:Nat}(hR:R<=1000000)(hM:MD (sqN p R) φ){f:fZ}{ef e:Bool}(h1:1<=W.length)(hW:WP p W n)(hn:n<=1000)(hm:MonZ n (zl f))(hl:f.length=n+1)(hb:BdL (sqN p R) f)(hc:CgZ p (zl f) (pZ W)):
 ∃L:List (fZ×Bool),L.length=W.length/\PartsZ (L.map λq=>zl q.1) n/\(∀q,q∈L->BdL (sqN p R) q.1/\q.1.length<=n+1)/\zy φ [zn f ef,ni p,ni R,.tree (W.map tD) W.length e]=some (.own (L.map zD) L.length 1):=by
 have:=hq.ph;have hWl:W.length<=n:=by have:=hW.pt.pos;simpa using this
 exact Jt hq hR hM φ W f n ef e eP h1 hW hn hm hl hb hc
end
section
variable {bs:fQ} {l f g:fZ} {i j k n m c h v B M a b:Nat} {ex:Bool} {s:LS} {K:fK} {kk:IntKind} {φ:Nat} {z x:Int} {V:D} {P:Option D->Prop} {r:D}
def Wm{own:Bool}:fO own s (itz z) some=some (itz z):=by cases own<;>rfl
def Cq(h0:0<f.length)(hs:f.length<=1000000000){e:Bool}:oM φ [zn f e]=some (itz (ei f (f.length-1))):=by
 unfold oM;dsimp only[fJ,fV];rw[<-fg];refine th vM (th fY (th (iJ eP eP) (th (ldt eP) (th (st2 (k:=0) (l':=[.b false,.n 0]) rfl rfl) (th (ld2 (k:=0) (st:=.rw) rfl rfl) Wm)))))
def set_self?{α:Type}{l:List α}{i:Nat}{x:α}(h:l[i]?=some x):l.set i x=l:=by
 refine List.ext_getElem? λj=>?_;by_cases e:i=j
 ·subst e;rw[aH (fC h),h]
 ·rw[bW e]
def sym(M:Nat)(c:Int):Int:=if(M:Int)<c+c then c-M else c
def Zy(h0:0<=x)(h1:x<M):(sym M x).natAbs<=M:=by unfold sym;split<;>omega
def FD(hM:MD M φ)(hb:BdL M l)(hs:l.length<=1000000){k0:Nat}(hk:k0≠0):∀(j i fu:Nat)(bs:fQ),i+j=l.length->j<fu->bs[0]?=some ⟨zcs (M:Nat),.rw⟩->bs[k0]?=some ⟨zs (prg (λj=>sym M (ei l j)) (ei l) i l.length),.rw⟩->
 ∃e,lp gQ (gk φ) fu (.ptr 0 0) (.sl k0 0 l.length l.length 2 false) (.sl k0 0 l.length l.length 2 false) (ni l.length) (ni i) (mem bs)=some (zn (prg (λj=>sym M (ei l j)) (ei l) l.length l.length) e)
 |0,i,fu+1,bs,h,hfu,h0,h1=>by
  have:i=l.length:=eP;subst this;obtain⟨e,he⟩:=FP (c:=l.length) (ex:=false) h1 (by show(zs _).take _=_;rw[show l.length*2=(zs (prg (λj=>sym M (ei l j)) (ei l) l.length l.length)).length by rw[mA,CD],bV]) rfl CD;refine⟨e,?_⟩;rw[ep];unfold gk;exact th (gP eP) (th ez he)
 |j+1,i,fu+1,bs,h,hfu,h0,h1=>by
  have hin:i<l.length:=eP;have hxi:=hb.get i;have hr:ei (prg (λj=>sym M (ei l j)) (ei l) i l.length) i=ei l i:=by rw[Ml,aF hin,aG (bE i)]
  have hlen:(prg (λj=>sym M (ei l j)) (ei l) i l.length).length=l.length:=CD;have hb1:(bs++[Blk.mk (zcs (ei l i)) .rw])[k0]?=some ⟨zs (prg (λj=>sym M (ei l j)) (ei l) i l.length),.rw⟩:=fW h1;have hb0:(bs++[Blk.mk (zcs (ei l i)) .rw])[0]?=some ⟨zcs (M:Nat),.rw⟩:=fW h0;have hlt:=fC h1;have hK:Lg KA (ei l i).natAbs:=fM (iK hM.lgM hxi) eV;have hKM:Lg KA ((M:Nat):Int).natAbs:=by rw[bJ];exact fM hM.lgM eV
  have z9h:∀P:Option D->Prop,P (kH (zd (sgz (ei l i+ei l i-(M:Nat)))) fB λx30=>fE x30
   (eW 2 (mem (bs++[Blk.mk (zcs (ei l i)) .rw])) (.ptr bs.length 0) λx31 s=>fF 0 s (.ptr 0 0) λx32 s=>eW 2 s x32 λx33 s=>eY (jM φ) [x31,x33] s λx34 s=>eT 2 s (.sl k0 0 l.length l.length 2 false) (ni i) λx35 s=>fA 2 s x35 x34 λ_ s=>f7 (ni i) ej λx20=>lp gQ (gk φ) fu (.ptr 0 0) (.sl k0 0 l.length l.length 2 false) (.sl k0 0 l.length l.length 2 false) (ni l.length) x20 s)
   (f7 (ni i) ej λx20=>lp gQ (gk φ) fu (.ptr 0 0) (.sl k0 0 l.length l.length 2 false) (.sl k0 0 l.length l.length 2 false) (ni l.length) x20 (mem (bs++[Blk.mk (zcs (ei l i)) .rw]))))->P (lp gQ (gk φ) (fu+1) (.ptr 0 0) (.sl k0 0 l.length l.length 2 false) (.sl k0 0 l.length l.length 2 false) (ni l.length) (ni i) (mem bs)):=λP hP=>by
   rw[ep];unfold gk;refine pm (gX hin) (pm fG (pm sj (pm (ldb (st:=.rw) h1 rfl hin eP) ?_)));rw[hr];exact pm (al2 rfl) (pm A7 (pm A7 (pm (Xt hK hK) (pm (fa0 (st:=.rw) hb0 rfl) (pm z10 hP)))))
  refine z9h (λo=>∃e,o=some (zn (prg (λj=>sym M (ei l j)) (ei l) l.length l.length) e)) ?_;have z78:∀v,v=sym M (ei l i)->(prg (λj=>sym M (ei l j)) (ei l) i l.length).set i v=prg (λj=>sym M (ei l j)) (ei l) (i+1) l.length:=λv hv=>by
   rw[hv];exact Oa (v:=λj=>sym M (ei l j))
  by_cases hg:(M:Int)<ei l i+ei l i
  ·have hs1:sgz (ei l i+ei l i-(M:Nat))=1:=by unfold sgz;rw[aG eP,aG eP]
   obtain⟨e,he⟩:=FD hM hb hs hk j (i+1) fu ((bs++[Blk.mk (zcs (ei l i)) .rw]).set k0 ⟨zs (prg (λj=>sym M (ei l j)) (ei l) (i+1) l.length),.rw⟩) eP eP (fc hk hb0) (aH (fC hb1));refine⟨e,?_⟩;rw[hs1];refine th (oG (a:=1) (b:=0) eV) (th fG (th A7 (th (fa0 (st:=.rw) hb0 rfl) (th (Xq hK hKM) (th (wrb hb1 hin eP) ?_)))));rw[z78 _ (by unfold sym;rw[aF hg])];exact th (gA eP) he
  ·have hz:¬(0<sgz (ei l i+ei l i-(M:Nat))):=by unfold sgz;split<;>(try split)<;>omega
   have z99:prg (λj=>sym M (ei l j)) (ei l) i l.length=prg (λj=>sym M (ei l j)) (ei l) (i+1) l.length:=by
    rw[<-z78 (ei l i) (by unfold sym;rw[aG hg])];have h9:(prg (λj=>sym M (ei l j)) (ei l) i l.length)[i]?=some (ei l i):=by
     unfold prg;rw[af,cf hin];show some (if i<i then _ else _)=_;rw[aG (bE i)]
    exact(set_self? h9).symm
   rw[z99]at hb1;obtain⟨e,he⟩:=FD hM hb hs hk j (i+1) fu (bs++[Blk.mk (zcs (ei l i)) .rw]) eP eP hb0 hb1;refine⟨e,?_⟩;refine th (z0O (b:=0)) ?_;rw[aU hz];exact th ez (th (gA eP) he)
def vm(M:Nat)(f:fZ):fZ:=prg (λj=>sym M (ei (mZ M f) j)) (ei (mZ M f)) (mZ (M:Int) f).length (mZ (M:Int) f).length
def zP:(vm M f).length=(mZ (M:Int) f).length:=CD
def OM(k:Nat):ei (vm M f) k=if k<(mZ (M:Int) f).length then sym M (ei f k%(M:Int))else 0:=by
 unfold vm;rw[Ml];split
 ·rw[BV]
 ·rfl
def OY(h:MD M φ)(hB:BdL B f)(hBl:Lg 900000000 B)(hs:f.length<=1000000){e:Bool}:∃e',jR φ [itz (M:Nat),zn f e]=some (zn (vm M f) e'):=by
 have hph:=h.ph;have hM0:0<M:=by have:=h.two;omega
 have hle:=DH (m:=(M:Int)) (l:=f);obtain⟨r,r1,r2⟩:=sg h hB hBl eP (e:=e);obtain⟨V,bs1,z1,k1⟩:=J2 (bs:=[]++[Blk.mk (zcs (M:Nat)) .rw]) (λs kk=>rfl) r2 r1;have b0:=z1.old 0 _ rfl;unfold jR;dsimp only[fJ,fV];rw[<-fg]
 suffices hh:∃e',(fT V (mem bs1) λx6 s=>lp gQ (gk φ) φ (.ptr 0 0) V V x6 fB s)=some (zn (vm M f) e') by
  obtain⟨e',he⟩:=hh;exact⟨e',th HM (th (ld2 (k:=0) (st:=.rw) rfl rfl) (th (k1 _) he))⟩
 rcases z1.val with⟨ex,rfl,hl⟩|⟨rfl,hv⟩
 ·have e1:vm M f=[]:=aZ (by rw[zP,hl];rfl);rw[e1,hl];refine⟨ex,th fY ?_⟩;obtain⟨ψ,hψ⟩:∃ψ,φ=ψ+1:=⟨φ-1,eP⟩
  have e2:lp gQ (gk φ) φ=lp gQ (gk φ) (ψ+1):=by rw[<-hψ]
  rw[e2,ep];unfold gk;exact th (gP (bE 0)) (th ez jV)
 ·have zeH:prg (λj=>sym M (ei (mZ M f) j)) (ei (mZ M f)) 0 (mZ (M:Int) f).length=mZ M f:=by
   unfold prg;refine cr fU λj h1 h2=>?_;rw[cZ,cn,aG (cO j)];unfold ei;rw[aB,aE h2];rfl
  obtain⟨e',he⟩:=FD (l:=mZ (M:Int) f) h (JC rfl hM0) eP (k0:=1) eV (mZ (M:Int) f).length 0 φ bs1 eP eP b0 (by rw[zeH];exact hv);exact⟨e',th ou he⟩
def z0d{z:Int}:E9 0 (itz z) s K=K (.b (decide (z<0))) s:=rfl
def O9{G:Int}(hG:G≠0)(hGb:Lg 900000000 G.natAbs)(hB:BdL B f)(hBl:Lg 900000000 B)(hs:f.length<=1000000)(hφ:gW φ){e:Bool}{k0 kg:Nat}(hk:k0≠kg):∀(j i fu:Nat)(bs:fQ),i+j=f.length->j<fu->bs[kg]?=some ⟨zcs G,.rw⟩->bs[k0]?=some ⟨zs (w9 (λi=>ei f i/G) i j),.rw⟩->
 ∃e',lp gQ (qy φ) fu (.ptr kg 0) (.sl k0 0 f.length f.length 2 true) (zn f e) (ni f.length) (ni i) (mem bs)=some (zn (f.map (· /G)) e')
 |0,i,fu+1,bs,h,hfu,h0,h1=>by
  have:i=f.length:=eP;subst this;rw[Ce,Ox (F:=λa=>a/G)]at h1;obtain⟨e',he⟩:=FP (c:=f.length) (ex:=true) (n:=f.length) h1 (by show(zs _).take _=_;rw[show f.length*2=(zs (f.map (· /G))).length by rw[mA,aj],bV]) rfl (aj _);refine⟨e',?_⟩;rw[ep];unfold qy;exact th (gP eP) (th ez he)
 |j+1,i,fu+1,bs,h,hfu,h0,h1=>by
  have h1':(bs++[Blk.mk (zcs (ei f i)) .rw])[k0]?=some ⟨zs (w9 (λi=>ei f i/G) i (j+1)),.rw⟩:=fW h1;have hx:Lg 900000000 (ei f i).natAbs:=iK hBl (hB.get i);obtain⟨e',he⟩:=O9 hG hGb hB hBl hs hφ (e:=e) hk j (i+1) fu ((bs++[Blk.mk (zcs (ei f i)) .rw]).set k0 ⟨zs (w9 (λi=>ei f i/G) (i+1) j),.rw⟩) eP eP (fc hk (fW h0)) (aH (fC h1'));refine⟨e',?_⟩;rw[ep];unfold qy;exact th (gX eP) (th fG (th (ldt eP) (th (al2 rfl) (th A7 (th (ld2 (st:=.rw) (fW h0) rfl) (th (iDM hx hGb hG hφ) (th iG (th iF (th (wrf (v:=λi=>ei f i/G) h1' eP) (th (gA eP) he))))))))))
def gcL:fZ->Nat->Nat
 |[],g=>g
 |z::l,g=>gcL l (Int.gcd g z)
def O8(hB:BdL B f)(hBl:Lg 900000000 B)(hB1:1<=B)(hs:f.length<=1000000)(h0:0<f.length)(hl:0<=ei f (f.length-1))(hφ:gW φ){e:Bool}(hG:gcL f 0≠0):∀(r yd:fZ)(g fu:Nat)(bs:fQ),f=yd++r->r.length<fu->g<=B->gcL r g=gcL f 0->bs[0]?=some ⟨zcs (g:Nat),.rw⟩->
 ∃e',lp gQ (qx φ) fu (zn f e) (.ptr 0 0) (zn f e) (ni f.length) (ni yd.length) (mem bs)=some (zn (f.map (· /((gcL f 0:Nat):Int))) e')
 |[],yd,g,fu+1,bs,h1,hfu,hg,he,hb=>by
  rw[bQ]at h1;have he:g=gcL f 0:=he;rw[<-he]at hG ⊢;have hlt:=fC hb;obtain⟨e',he'⟩:=O9 (G:=(g:Nat)) eP (by rw[bJ];exact iK hBl hg) hB hBl hs hφ (e:=e) (k0:=bs.length) (kg:=0) eP f.length 0 φ (bs++[Blk.mk (zs (List.replicate f.length 0)) .rw]) eP eP (fW hb) (by rw[Jb];simp);refine⟨e',?_⟩;rw[ep];unfold qx;refine th (gP (by rw[h1];omega)) (th ez (th sj (th (fX (Cq h0 eP)) (th z0d ?_))));rw[aU eP];exact th ez (th fY (th (mkz eP) (th fY he')))
 |x::r,yd,g,fu+1,bs,h1,hfu,hg,he,hb=>by
  have hlt:yd.length<f.length:=by rw[h1];simp
  have hx:ei f yd.length=x:=by rw[h1];exact yX
  have hxB:x.natAbs<=B:=by rw[<-hx];exact hB.get _
  have hyl:yd.length<=1000000:=eP;have hgl:Int.gcd g x<=B:=by
   by_cases h:g=0
   ·subst h;show Nat.gcd 0 x.natAbs<=B;rw[Nat.gcd_zero_left];exact hxB
   ·refine aX (Nat.gcd_le_left _ ?_) hg;show 0<((g:Nat):Int).natAbs;rw[bJ];omega
  have hKg:Lg KA ((g:Nat):Int).natAbs:=by rw[bJ];exact fM (iK hBl hg) eV
  obtain⟨e',he'⟩:=O8 hB hBl hB1 hs h0 hl hφ (e:=e) hG r (yd++[x]) (Int.gcd g x) fu ((bs++[Blk.mk (zcs x) .rw]).set 0 ⟨zcs ((Int.gcd g x:Nat):Nat),.rw⟩) (by rw[h1,aQ];rfl) (by simp at hfu;omega) hgl he (aH (fC (fW hb)));rw[show(yd++[x]).length=yd.length+1 by simp]at he';refine⟨e',?_⟩;rw[ep];unfold qx;refine th (gX hlt) (th fG (th (ldt hlt) ?_));rw[hx];exact th (al2 rfl) (th (ld2 (st:=.rw) (fW hb) rfl) (th A7 (th (z34 hKg (fM (iK hBl hxB) eV) hφ) (th (st2 (fW hb) rfl) (th (gA eP) he')))))
def PX:∀(l:fZ)(g:Nat),gcL l g∣g/\∀x,x∈l->((gcL l g:Nat):Int)∣x
 |[],g=>⟨Nat.dvd_refl g,λx hx=>by cases hx⟩
 |z::l,g=>by
  obtain⟨h1,h2⟩:=PX l (Int.gcd g z);refine⟨Nat.dvd_trans h1 ?_,λx hx=>?_⟩
  ·have:=Int.gcd_dvd_left (a:=(g:Int)) (b:=z);exact zmC.1 this
  ·rcases bh.1 hx with rfl|hx
   ·exact Int.dvd_trans (zmC.2 h1) (Int.gcd_dvd_right ..)
   ·exact h2 x hx
def Bh(hB:BdL B f)(hBl:Lg 900000000 B)(hs:f.length<=1000000)(h0:0<f.length)(hl:ei f (f.length-1)=1)(hφ:gW φ){e:Bool}:∃e',pX φ [zn f e]=some (zn f e'):=by
 have hB1:1<=B:=by have:=hB.get (f.length-1);rw[hl]at this;exact this
 have hG:gcL f 0=1:=by
  obtain⟨_,h2⟩:=PX f 0;have hm:(1:Int)∈f:=by
   rw[<-hl];unfold ei;rw[aB,aE eP];exact cU _
  have h3:=zmC.1 (show((gcL f 0:Nat):Int)∣((1:Nat):Int)from h2 1 hm);exact Nat.dvd_one.1 h3
 obtain⟨e',he⟩:=O8 hB hBl hB1 hs h0 eP hφ (e:=e) eP f [] 0 φ ([]++[Blk.mk [.b false,.n 0] .rw]) rfl eP (aJ _) rfl rfl;rw[hG]at he;have hid:f.map (· /((1:Nat):Int))=f:=by
  conv=>rhs;rw[<-List.map_id f]
  exact cz λx _=>Int.ediv_one x
 rw[hid]at he;refine⟨e',?_⟩;unfold pX;dsimp only[fJ,fV];rw[<-fg];exact th vM (th fY he)
end
section
variable {bs:fQ} {l f g os q:fZ} {b':Blk} {j k n m c h X Y S N a b:Nat} {ex:Bool} {s:LS} {φ:Nat} {x y:Int} {d:D} {P:Option D->Prop} {ls:eZ}
def Sx{V1:D}{x:Bool}(h1:∃e ls,res (mem bs).get 60 V1=some (zn q e,ls))(hf:wT (.tup [V1,.b x])=false):∃e,fO false (mem bs) (.tup [V1,.b x]) some=some (.tup [zn q e,.b x]):=by
 obtain⟨e1,l1,h1⟩:=h1;refine⟨e1,?_⟩;have hx:lf false (mem bs).get gJ (.tup [V1,.b x])=some (.tup [zn q e1,.b x]):=by
  show(match yF (res (mem bs).get 60 V1),i8 (res (mem bs).get 60) [.b x]with
   |some (d,o,ls),some (ds,ls')=>if o.all λl=> !(ls++ls').contains l then some (D.tup (d::ds))else none
   |_,_=>none)=_
  rw[h1];rfl
 unfold fO;rw[lJ,hf];show sk (lf false (mem bs).get gJ (.tup [V1,.b x])) some=_;rw[hx,gc];rfl
def VG(hx:x.natAbs<=X)(hg:BdL Y g)(hXY:Lg 900000000 (X*Y))(hX:Lg 900000000 X)(hY:Lg 900000000 Y)(hS:Lg 900000000 S){N Q kx:Nat}(hN:N<=1000000)(hkx:2<=kx)(hgl:g.length<=1000000){eg:Bool}{qv:fN}{j22:mu}:∀(yr os yd done:fZ)(fu:Nat)(bs:fQ),g=yd++yr->done.length=k+yd.length->(done++os).length=N->yr.length<=os.length->yr.length<fu->BdL S os->bs[0]?=some ⟨zs (done++os),.rw⟩->bs[1]?=some ⟨qv,.rw⟩->bs[kx]?=some ⟨zcs x,.rw⟩->(∀bs',bs'[0]?=some ⟨zs (done++qA (-x) yr os),.rw⟩->bs'[1]?=some ⟨qv,.rw⟩->P (j22 (zn g eg) (.sl 0 0 N N 2 false) (.sl 1 0 Q Q 2 true) (ni k) (mem bs')))->
 P (lp pu (uD φ j22) fu (zn g eg) (.sl 0 0 N N 2 false) (.sl 1 0 Q Q 2 true) (ni k) (.ptr kx 0) (zn g eg) (ni g.length) (ni yd.length) (mem bs))
 |[],os,yd,done,fu+1,bs,h1,h2,h3,h4,h5,h6,b0,b1,bk,hP=>by
  rw[bQ]at h1;rw[ep];unfold uD;exact pm (gP (by rw[h1];omega)) (pm ez (hP bs b0 b1))
 |y::yr,[],yd,done,fu+1,bs,h1,h2,h3,h4,h5,h6,b0,b1,bk,hP=>by simp at h4
 |y::yr,o::os,yd,done,fu+1,bs,h1,h2,h3,h4,h5,h6,b0,b1,bk,hP=>by
  have hlt:yd.length<g.length:=by rw[h1];simp
  have hy:ei g yd.length=y:=by rw[h1];exact yX
  have hyY:y.natAbs<=Y:=by rw[<-hy];exact hg.get _
  have hoS:o.natAbs<=S:=h6 o (b9 ..);have hin:k+yd.length<N:=by rw[<-h3];simp;omega
  have hxy:(x*y).natAbs<=X*Y:=by rw[bt];exact ay hx hyY
  have ho:ei (done++o::os) (k+yd.length)=o:=by rw[<-h2];exact yX
  have hb':(bs++[Blk.mk (zcs y) .rw])[0]?=some ⟨zs (done++o::os),.rw⟩:=fW b0;have e1:(done++o::os).set (k+yd.length) (o-x*y)=(done++[o-x*y])++os:=by rw[<-h2];exact FH
  rw[ep];unfold uD;refine pm (gX hlt) (pm fG (pm (ldt hlt) ?_));rw[hy];refine pm (al2 rfl) (pm (gA eP) (pm (gA eP) (pm (ldb (st:=.rw) hb' rfl hin (by rw[h3];exact hin)) ?_)));rw[ho];refine pm (ld2 (st:=.rw) (fW bk) rfl) (pm A7 (pm (DZ (fM (iK hX hx) eV) (fM (iK hY hyY) eV)) (pm (Xq (fM (iK hS hoS) eV) (fM (iK hXY hxy) eV)) (pm (wrb hb' hin (by rw[h3];exact hin)) (pm (gA eP) ?_)))));rw[e1];have ih:=VG hx hg hXY hX hY hS hN hkx hgl (eg:=eg) (qv:=qv) (j22:=j22) yr os (yd++[y]) (done++[o-x*y]) fu ((bs++[Blk.mk (zcs y) .rw]).set 0 ⟨zs ((done++[o-x*y])++os),.rw⟩) (by rw[h1,aQ];rfl) (by simp;omega) (by rw[<-h3];simp) (c7 h4) (by simp at h5;omega) (λa ha=>h6 a (bC _ ha)) (aH (fC hb')) (fc eV (fW b1)) (fc eP (fW bk)) (λbs' c1 c2=>hP bs' (by
   rw[c1,aQ];show some (Blk.mk (zs (done++(o-x*y)::qA (-x) yr os)) .rw)=some (Blk.mk (zs (done++(o+ -x*y)::qA (-x) yr os)) .rw);rw[Int.neg_mul,<-zmz]) c2)
  rw[show(yd++[y]).length=yd.length+1 by simp]at ih;exact ih
def VF(hφ:gW φ)(hg:BdL Y g)(hY:Lg a Y)(hY1:1<=Y)(hg0:0<g.length)(hg1:ei g (g.length-1)=1){N Q:Nat}(hN:N<=1000000)(hgN:g.length<=N)(hQ:Q=N-g.length+1){eg:Bool}(hno:∀q,zl f≠zl q*zl g)(hP:∀q e,P (some (.tup [zn q e,.b false]))):∀(j:Nat)(rest q:fZ)(S e0 fu:Nat)(bs:fQ),j<=Q->j<fu->rest.length=N->q.length+j=Q->BdL S rest->Lg e0 S->e0+(j+1)*(a+2)<=800000000->bs[0]?=some ⟨zs rest,.rw⟩->bs[1]?=some ⟨zs (List.replicate j 0++q),.rw⟩->zl f=zl rest+XX^j*zl q*zl g->
 P (lp jc (pY φ) fu (zn g eg) (.sl 0 0 N N 2 false) (.sl 1 0 Q Q 2 true) (zd ((j:Int)-1)) (mem bs))
 |0,rest,q,S,e0,fu+1,bs,hj,hfu,hr,hq,hS,hL,hST,b0,b1,he=>by
  have hne:tzI rest≠[]:=λh=>by
   have h2:zl rest=0:=by rw[<-SA,h,pK]
   refine hno q ?_;rw[he,h2,show XX^0=1 from rfl];exact z69
  have hl0:=az.2 hne;rw[ep];unfold pY;refine pm (GI (b:=0)) (pm ez (pm (ML b0 hr (aC _) eP hφ) ?_));unfold slT;rw[aG eP];have b1:bs[1]?=some ⟨zs q,.rw⟩:=b1;obtain⟨e,h2⟩:=TE (n:=Q) (c:=Q) (ex:=true) (l:=q) b1 (by show(zs q).take _=_;rw[show Q=q.length by omega,<-mA,bV]) rfl eP;obtain⟨e2,h3⟩:=Sx (x:=false) (q:=q) ⟨e,_,h2⟩ rfl;exact pm ou (pm (mJ eP) (pm h3 (hP q e2)))
 |j+1,rest,q,S,e0,fu+1,bs,hj,hfu,hr,hq,hS,hL,hST,b0,b1,he=>by
  have z6Y:j+g.length-1<N:=eP;have e5:(j+1+1)*(a+2)=(j+1)*(a+2)+(a+2):=by rw[aS (j+1) 1,ao]
  have e6:(j+1)*(a+2)=j*(a+2)+(a+2):=by rw[aS j 1,ao]
  have hXY:Lg (e0+a+1) (S*Y):=mB hL hY;have hR:=iK (fM hL (show e0<=900000000 by omega)) (hS.get (j+g.length-1));have h1l:Lg 900000000 (1:Int).natAbs:=by show Nat.log2 1<=_;rw[show Nat.log2 1=0 from by decide];exact aJ _
  have hbz:(((j+1:Nat):Int)-1)=((j:Nat):Int):=eP;have hcS:=hS.get (j+g.length-1);have hb1:∀X:fQ,(bs++X)[1]?=some ⟨zs (List.replicate (j+1) 0++q),.rw⟩:=λX=>by rw[bF (fC b1)];exact b1
  rw[ep,hbz];unfold pY;generalize hcc:ei rest (j+g.length-1)=cc at*;have e1:(List.replicate (j+1) 0++q).set j cc=List.replicate j 0++(cc::q):=by
   rw[zmW,aQ,bU _ _ fU,bg,bD];rfl
  have hjr:j<=rest.length:=eP;have zfA:zl f=zl (rest.take j++qA (-cc) g (rest.drop j))+XX^j*zl (cc::q)*zl g:=by
   rw[he,zG j rest _ hjr,Bx _ _ (by rw[bR];omega),mC,Ie,show XX^(j+1)=XX^j*XX from rfl];have e:zl rest=zl (rest.take j)+XX^j*zl (rest.drop j):=by rw[<-zG j rest _ hjr,bY]
   rw[e];exact Pk _ _ _ _ _ _ _
  have hbd:BdL (S+S*Y) (rest.take j++qA (-cc) g (rest.drop j)):=λa ha=>by
   rcases bM.1 ha with ha|ha
   ·exact aX (hS a (bH ha)) (cL _ _)
   ·exact yE (X:=S) eP hg (λb hb=>hS b (ba hb)) a ha
  have hbl:Lg (e0+a+2) (S+S*Y):=tf (fM hL eP) hXY;have z6w:∀bs',bs'[0]?=some ⟨zs (rest.take j++qA (-cc) g (rest.drop j)),.rw⟩->bs'[1]?=some ⟨zs (List.replicate j 0++(cc::q)),.rw⟩->P (fe (ni j) ej λx27=>lp jc (pY φ) fu (zn g eg) (.sl 0 0 N N 2 false) (.sl 1 0 Q Q 2 true) x27 (mem bs')):=λbs' c0 c1=>by
   refine pm (DT (a:=(j:Nat)) (b:=1) (by unfold IZ;omega) (by unfold IZ;omega)) ?_;exact VF hφ hg hY hY1 hg0 hg1 hN hgN hQ hno hP j _ _ (S+S*Y) (e0+a+2) fu bs' eP eP (by rw[tj eP];exact hr) (by simp;omega) hbd hbl eP c0 c1 zfA
  refine pm (uS (a:=j) (b:=0) (aJ j)) (pm fG (pm sj (pm fY (pm (gA eP) (pm (iJ eP eP) (pm (ldb (st:=.rw) b0 rfl z6Y eP) (pm (fX (Cq hg0 eP)) ?_)))))));rw[hg1,hcc];refine pm (iDM hR h1l eV hφ) (pm iG (pm iF (pm (Ju rfl) ?_)));rw[Int.ediv_one,Int.emod_one];have zfo:(bs++[Blk.mk (zcs cc) .rw]++[Blk.mk (zcs 0) .rw])[bs.length+1]?=some ⟨zcs 0,.rw⟩:=by
   rw[aM fU];simp
  have hbc:(bs++[Blk.mk (zcs cc) .rw]++[Blk.mk (zcs 0) .rw])[bs.length]?=some ⟨zcs cc,.rw⟩:=fW fU;have zcT:(bs++[Blk.mk (zcs cc) .rw]++[Blk.mk (zcs 0) .rw])[1]?=some ⟨zs (List.replicate (j+1) 0++q),.rw⟩:=fW (fW b1);have zfx:(bs++[Blk.mk (zcs cc) .rw]++[Blk.mk (zcs 0) .rw])[0]?=some ⟨zs rest,.rw⟩:=fW (fW b0);have hl3:=fC b1;refine pm (fa1 (st:=.rw) zfo rfl) (pm Ki (pm ez (pm (ld2 (st:=.rw) hbc rfl) (pm (wrb zcT (show j<Q by omega) (by simp;omega)) ?_))));rw[e1];have c1:=aH (a:=Blk.mk (zs (List.replicate j 0++(cc::q))) .rw) (fC zcT);have c0:=fc (b':=Blk.mk (zs (List.replicate j 0++(cc::q))) .rw) (show(1:Nat)≠0 by decide) zfx;have cc':=fc (b':=Blk.mk (zs (List.replicate j 0++(cc::q))) .rw) (show(1:Nat)≠bs.length by omega) hbc;refine pm (fa1 (st:=.rw) cc' rfl) (pm Cf ?_);by_cases h0:cc=0
  ·subst h0;refine pm fG (z6w _ ?_ c1);rw[show -(0:Int)=0 from rfl,M8 _ _ (by rw[bR];omega),bY];exact c0
  ·rw[ik eP];refine pm ez (pm fY ?_);exact VG (φ:=φ) (k:=j) (X:=S) (Y:=Y) (S:=S) (g:=g) (qv:=zs (List.replicate j 0++(cc::q))) (x:=cc) (kx:=bs.length) hcS hg (fM hXY eP) (fM hL eP) (fM hY eP) (fM hL eP) hN eP eP g (rest.drop j) [] (rest.take j) φ _ rfl (by rw[aR];simp;omega) (by rw[bY];exact hr) (by rw[bR];omega) eP (λa ha=>hS a (ba ha)) (by rw[bY];exact c0) c1 cc' λbs' c2 c3=>z6w bs' c2 c3
def SE(hφ:gW φ)(hf:BdL X f)(hX:Lg m X)(hg:BdL Y g)(hY:Lg a Y)(hY1:1<=Y)(hg0:0<g.length)(hg1:ei g (g.length-1)=1)(hfl:f.length<=1000)(hgN:g.length<=f.length)(hST:m+1001*(a+2)<=800000000)(hno:∀q,zl f≠zl q*zl g){ef eg:Bool}:∃q e,vR φ [zn f ef,zn g eg]=some (.tup [zn q e,.b false]):=by
 have hf0:f≠[]:=λe=>by
  have:g.length<=0:=by rw[e]at hgN;exact hgN
  omega
 have hcl:=O7 (φ:=φ) (e:=ef) hf0 eP;unfold vR;dsimp only[fJ,fV];rw[<-fg]
 suffices hs:(λo=>∃q e,o=some (.tup [zn q e,.b false])) (eY (mS (fm φ)) [zn f ef] (mem []) λx8 s=>fT (zn f ef) s λx9 s=>fT (zn g eg) s λx10 s=>fe x9 x10 λx11=>f7 x11 ej λx12=>io 2 24 gL s x12 x12 λx13 s=>fT x13 s λx14 s=>fe x14 ej λx15=>lp jc (pY φ) φ (zn g eg) x8 x13 x15 s) by
  obtain⟨q,e,g7⟩:=hs;exact⟨q,e,th fY (th fY (th (gP eP) (th ez g7)))⟩
 generalize hP:(λo:Option D=>∃q e,o=some (.tup [zn q e,.b false]))=P;refine pm (GK hcl) (pm fY (pm fY (pm (iJ hgN eP) (pm (gA eP) (pm (mkz eP) (pm ou (pm (iJ eP eP) ?_)))))));have hle:(f.length-g.length+1+1)*(a+2)<=1001*(a+2):=aK _ eP;have hst:=VF (P:=P) (f:=f) (N:=f.length) (Q:=f.length-g.length+1) (eg:=eg) hφ hg hY hY1 hg0 hg1 eP hgN rfl hno (λq e=>by rw[<-hP];exact⟨q,e,rfl⟩) (f.length-g.length+1) f [] X m φ (([]++[Blk.mk (zs f) .rw])++[Blk.mk (zs (List.replicate (f.length-g.length+1) 0)) .rw]) (aC _) eP rfl fU hf hX eP rfl (by rw[bQ];rfl) (by rw[pK];exact z69);rw[show(((f.length-g.length+1:Nat):Int)-1)=((f.length-g.length:Nat):Int) by omega]at hst;rw[show f.length-g.length+1-1=f.length-g.length by omega];exact hst
end
section
variable {bs bs0 bs1:fQ} {l f g q:fZ} {i j k n m c h w M X N a b K0 kx kp kc:Nat} {ex ef:Bool} {s:LS} {K:fK} {kk:fK} {φ:Nat} {z x y:Int} {d V:D} {cs:fN} {P:Option D->Prop} {r:D} {ls:eZ} {u:ZX} {L:List (fZ×Bool)} {idx:eZ} {st:Stt}
structure EF (n:Nat) (f:fZ):Prop where
 len:f.length=n+1
 mon:MonZ n (zl f)
 h4:ei f 0%4=2
 mid:∀k,0<k->k<n->ei f k=0
 n1:1<=n
def ZU(h:zl q≠0):∃d,tI (d+1) (zl q)/\(zl q).c d≠0:=by
 obtain⟨j,h1,h2,h3,h4⟩:=qR q;cases j with
 |zero=>
  exfalso;refine h (ZX.ext' λk=>?_);rw[sd,As];exact h3 k (aJ _)
 |succ d=>
  refine⟨d,λk hk=>?_,?_⟩
  ·rw[sd];exact h3 k hk
  ·rw[sd];exact h4 d rfl
def EF.no(h:EF n f)(hg:g.length=k+1)(h1:ei g k=1)(h0:0<k)(hk:k<n):∀q,zl f≠zl q*zl g:=λq he=>by
 have hq:zl q≠0:=λe=>by
  have:=h.mon.one;rw[he,e,show(0:ZX)*zl g=0 from z69,As]at this;omega
 obtain⟨d,d1,d2⟩:=ZU hq;rcases Uy (x:=zl g) (y:=zl q) (f:=zl f) h.n1 (dg:=k) (dq:=d) (λj hj=>by rw[sd,jr eP]) (by rw[sd,h1];decide) d1 d2 h.mon (by rw[sd];exact h.h4) (λj a b=>by rw[sd];exact h.mid j a b) (by rw[he];exact z69)with e|e
 ·omega
 ·omega
def z1w(hM:2<=M)(hm:MonZ k u)(hc:CgZ M (zl l) u):(mZ (M:Int) l).length=k+1/\ei (mZ (M:Int) l) k=1:=by
 have h1:ei l k%(M:Int)=1:=by
  obtain⟨z,hz⟩:=yv hc k;rw[sd,hm.one]at hz;rw[hz,zmp];exact eK eP eP
 have h2:∀j,k+1<=j->ei l j%(M:Int)=0:=λj hj=>by
  obtain⟨z,hz⟩:=yv hc j;rw[sd,hm.low j hj]at hz;rw[hz,Int.zero_add,Int.mul_emod_right]
 have h3:ei (mZ (M:Int) l) k=1:=by rw[BV];exact h1
 refine⟨?_,h3⟩;have h4:(mZ (M:Int) l).length<=k+1:=O3 h2;rcases aY k (mZ (M:Int) l).length with h5|h5
 ·omega
 ·rw[jr h5]at h3;omega
def Im(hM:0<M):BdL M (vm M l):=λx hx=>by
 obtain⟨j,hj,rfl⟩:=dY.1 hx;show(if j<(mZ (M:Int) l).length then sym M (ei (mZ (M:Int) l) j)else ei (mZ (M:Int) l) j).natAbs<=M;rw[BV];have h1:=dF (ei l j) (show(M:Int)≠0 by omega);have h2:=dQ (ei l j) (show(0:Int)<M by omega);split
 ·exact Zy h1 h2
 ·omega
def S5(hM:2<=M)(hm:MonZ k u)(hc:CgZ M (zl l) u):(vm M l).length=k+1/\ei (vm M l) k=1:=by
 obtain⟨h1,h2⟩:=z1w hM hm hc;refine⟨zP.trans h1,?_⟩;rw[OM,aF eP,<-BV,h2];unfold sym;rw[aG eP]
def W4(hM:0<M)(h:0<(vm M l).length)(h1:(vm M l).length<=1):ei (vm M l) 0≠0:=by
 rw[zP]at h h1;have hl:(mZ (M:Int) l).length=1:=eP;rw[OM,aF eP];have hne:ei (mZ (M:Int) l) 0≠0:=by
  unfold mZ at hl ⊢;rw[wU];obtain⟨j,h1,h2,h3,h4⟩:=qR (l.map (· %(M:Int)));have:j=1:=by rw[h2,aR]at hl;omega
  exact h4 0 this
 rw[BV]at hne;have h2:=dF (ei l 0) (show(M:Int)≠0 by omega);have h3:=dQ (ei l 0) (show(0:Int)<M by omega);unfold sym;split<;>omega
def sel(L:List (fZ×Bool))(idx:eZ):List ZX:=idx.map λi=>zl (L.getD i ([],false)).1
def OS{a b:eZ}:sel L (a++b)=sel L a++sel L b:=by unfold sel;rw[bG]
def Qd:qu [u]=u:=by show u*1=u;exact z69
structure SC (M φ n:Nat) (f:fZ) (L:List (fZ×Bool)):Prop where
 md:MD M φ
 ef:EF n f
 n5:n<=500
 fb:∃X,Lg 100000 X/\BdL X f
 pt:PartsZ (L.map λq=>zl q.1) n
 pb:∀q,q∈L->BdL M q.1/\q.1.length<=n+1/\0<q.1.length
def SB(M:Nat)(f:fZ)(ef:Bool)(kp N:Nat):fN:=.b (decide ((M:Int)<0))::.n ((M:Int)).natAbs::[zn f ef,.sl kp 0 N N 1 false,.tree [] 0 true]
def sL0(h:bs[kx]?=some ⟨SB M f ef kp N,.rw⟩):(jm (mem bs) (.ptr kx 0) λa s=>fF 0 s a λb s=>eW 2 s b K)=K (itz (M:Nat)) (mem bs):=by
 show(iq (mem bs) kx λb=>cnd (lv b.st) (fF 0 (mem bs) (.ptr kx 0) λb s=>eW 2 s b K) none)=_;rw[gV h];show cnd (lv .rw) (fF 0 (mem bs) (.ptr kx 0) λb s=>eW 2 s b K) none=_;rw[nQ,show Stt.rw.live=true from rfl,fH];refine th qm ?_;rw[h,jY];show cnd true _ none=_;rw[fH];exact zZ h rfl (by show 0+2<=5;decide)
def sL2(h:bs[kx]?=some ⟨SB M f ef kp N,.rw⟩):(jm (mem bs) (.ptr kx 0) λa s=>fF 2 s a λb s=>eR s b K)=K (zn f ef) (mem bs):=by
 show(iq (mem bs) kx λb=>cnd (lv b.st) (fF 2 (mem bs) (.ptr kx 0) λb s=>eR s b K) none)=_;rw[gV h];show cnd (lv .rw) (fF 2 (mem bs) (.ptr kx 0) λb s=>eR s b K) none=_;rw[nQ,show Stt.rw.live=true from rfl,fH];refine th qm ?_;rw[h,jY];show cnd true _ none=_;rw[fH];exact vp h rfl rfl
def sL3(h:bs[kx]?=some ⟨SB M f ef kp N,.rw⟩):(jm (mem bs) (.ptr kx 0) λa s=>fF 3 s a λb s=>eR s b K)=K (.sl kp 0 N N 1 false) (mem bs):=by
 show(iq (mem bs) kx λb=>cnd (lv b.st) (fF 3 (mem bs) (.ptr kx 0) λb s=>eR s b K) none)=_;rw[gV h];show cnd (lv .rw) (fF 3 (mem bs) (.ptr kx 0) λb s=>eR s b K) none=_;rw[nQ,show Stt.rw.live=true from rfl,fH];refine th qm ?_;rw[h,jY];show cnd true _ none=_;rw[fH];exact vp h rfl rfl
def Ex(K0:Nat)(bs bs':fQ):Prop:=bs.length<=bs'.length/\∀(k:Nat)(b:Blk),k<K0->bs[k]?=some b->bs'[k]?=some b
def Ex.tr(h:Ex K0 bs bs0)(h':Ex K0 bs0 bs1):Ex K0 bs bs1:=⟨aX h.1 h'.1,λk b hk hb=>h'.2 k b hk (h.2 k b hk hb)⟩
def Ex.rf:Ex K0 bs bs:=⟨aC _,λ_ _ _ h=>h⟩
def Ex.ap{X:fQ}:Ex K0 bs (bs++X):=⟨by simp,λk b _ h=>by rw[bF (fC h)];exact h⟩
def VS(bs:fQ)(K0:Nat)(V:D)(l:fZ):Prop:=∃e ls,AV bs V (zn l e) ls/\∀k,k∈ls->K0<=k/\k<bs.length
def z1Y{e:Bool}:VS bs K0 (zn l e) l:=⟨e,[],Vp,λk hk=>by cases hk⟩
def U1{Mf:fP}{Q:fZ->Prop}{eg:Bool}(hv:VS bs K0 V l)(hM:∀e,∃o e2,Q o/\Mf [itz z,zn l e,zn g eg]=some (zn o e2)):∃o e2 bs',Q o/\Ex K0 bs bs'/\∀K:fK,eY Mf [itz z,V,zn g eg] (mem bs) K=K (zn o e2) (mem bs'):=by
 obtain⟨e,ls,hA,hl⟩:=hv;obtain⟨o,e2,h1,h2⟩:=hM e;obtain⟨bs',c1,c2,c3⟩:=xY (AVL.cons (Vo (z:=z)) (AVL.cons hA (AVL.cons (Vp (l:=g) (e:=eg)) AVL.nil))) (λk hk=>(hl k (by simpa using hk)).2) h2;exact⟨o,e2,bs',h1,⟨eP,λk b hk hb=>c2 k b (λhm=>by have:=(hl k (by simpa using hm)).1;omega) hb⟩,c3⟩
def PM{Mf:fP}{Q:fZ->Prop}(hv:VS bs K0 V l)(hM:∀e,∃o e2,Q o/\Mf [itz z,zn l e]=some (zn o e2)):∃o e2 bs',Q o/\Ex K0 bs bs'/\∀K:fK,eY Mf [itz z,V] (mem bs) K=K (zn o e2) (mem bs'):=by
 obtain⟨e,ls,hA,hl⟩:=hv;obtain⟨o,e2,h1,h2⟩:=hM e;obtain⟨bs',c1,c2,c3⟩:=xY (AVL.cons (Vo (z:=z)) (AVL.cons hA AVL.nil)) (λk hk=>(hl k (by simpa using hk)).2) h2;exact⟨o,e2,bs',h1,⟨eP,λk b hk hb=>c2 k b (λhm=>by have:=(hl k (by simpa using hm)).1;omega) hb⟩,c3⟩
def wV(h:i<idx.length):(ci idx)[i]?=some (ni (idx.getD i 0)):=by
 unfold ci;rw[af,aB,aE h];rfl
def SH(h:i<L.length):(L.map zD)[i]?=some (zn (L.getD i ([],false)).1 (L.getD i ([],false)).2):=by
 rw[af,aB,aE h];rfl
def Kq(h:i<L.length):L.getD i ([],false)∈L:=by
 rw[aB,aE h];exact cU _
def SZ(hc:SC M φ n f L)(hx0:bs0[kx]?=some ⟨SB M f ef kp L.length,.rw⟩)(hp0:bs0[kp]?=some ⟨L.map zD,.rw⟩)(hc0:bs0[kc]?=some ⟨ci idx,st⟩)(hst:st.live=true)(kxl:kx<K0)(kpl:kp<K0)(kcl:kc<K0)(z6Y:∀i,i∈idx->i<L.length)(hil:idx.length<=500){k:Nat}(hpt:PartsZ (sel L idx) k)(h0:0<k)(hk:k<n)
 (hP:∀bs',Ex K0 bs0 bs'->P (kk (.b false) (mem bs'))):∀(r yd:eZ)(V:D)(l:fZ)(fu:Nat)(bs:fQ),idx=yd++r->r.length<fu->Ex K0 bs0 bs->VS bs K0 V l->BdL M l->l.length<=1+yd.length*(n+1)->CgZ M (zl l) (qu (sel L yd))->
 P (lp iH (n6 φ kk) fu (.ptr kx 0) (.sl kc 0 idx.length idx.length 1 false) V (.sl kc 0 idx.length idx.length 1 false) (ni idx.length) (ni yd.length) (mem bs))
 |[],yd,V,l,fu+1,bs,h1,h2,h3,h4,h5,h6,h7=>by
  rw[bQ]at h1;subst h1;have hM2:=hc.md.two;have hlen:l.length<=400000:=by
   have:idx.length*(n+1)<=500*501:=ay hil (by have:=hc.n5;omega);omega
  obtain⟨s1,s2⟩:=S5 hM2 hpt.mon h7;have hsl:(vm M l).length<=l.length:=by rw[zP];exact DH
  have hbx:=h3.2 _ _ kxl hx0;obtain⟨o,e2,bs',g1,g2,g3⟩:=PM (Q:=λo=>o=vm M l) (Mf:=jR φ) (z:=(M:Nat)) h4 λe=>by
   obtain⟨e',he⟩:=OY hc.md h5 hc.md.lgM eP (e:=e);exact⟨_,e',rfl,he⟩
  subst g1;obtain⟨e3,he3⟩:=Bh (φ:=φ) (f:=vm M l) (Im eP) hc.md.lgM eP eP (by rw[s1];exact s2) hc.md.ph (e:=e2);obtain⟨X,x1,x2⟩:=hc.fb;have hn5:=hc.n5;have hfl:=hc.ef.len;obtain⟨q,e4,he4⟩:=SE (φ:=φ) (m:=100000) (a:=100000) hc.md.ph x2 x1 (Im (l:=l) (M:=M) eP) hc.md.lg eP eP (by rw[s1];exact s2) eP eP eV (hc.ef.no s1 s2 h0 hk) (ef:=ef) (eg:=e3);rw[ep];unfold n6;refine pm (gP eP) (pm ez (pm (sL0 hbx) (pm (g3 _) (pm (fX he3) (pm (sL2 (g2.2 _ _ kxl hbx)) (pm (fX he4) (pm iG (pm iF (pm UH (pm fG ?_))))))))));exact hP bs' (h3.tr g2)
 |i::r,yd,V,l,fu+1,bs,h1,h2,h3,h4,h5,h6,h7=>by
  have hlt:yd.length<idx.length:=by rw[h1];simp
  have hgi:idx.getD yd.length 0=i:=by rw[h1,aB,aM (aC _),bD];rfl
  have hiN:i<L.length:=z6Y i (by rw[h1];simp);obtain⟨p1,p2,p3⟩:=hc.pb _ (Kq hiN);have hn5:=hc.n5;have hlen:l.length<=390000:=by
   have:yd.length*(n+1)<=500*501:=ay eP eP;omega
  have hbx:=h3.2 _ _ kxl hx0;have hbp:=h3.2 _ _ kpl hp0;have hbc:=h3.2 _ _ kcl hc0;obtain⟨o,e2,bs',⟨g1a,g1b,g1c⟩,g2,g3⟩:=U1 (g:=(L.getD i ([],false)).1) (eg:=(L.getD i ([],false)).2) (Q:=λo=>BdL M o/\o.length<=1+(yd++[i]).length*(n+1)/\CgZ M (zl o) (qu (sel L (yd++[i])))) (Mf:=gh φ) (z:=(M:Nat)) h4 λe=>by
   obtain⟨o,e',hv,he⟩:=t8 hc.md h5 p1 eP eP (ef:=e) (eg:=(L.getD i ([],false)).2);refine⟨o,e',⟨hv.bd,?_,?_⟩,he⟩
   ·have:=hv.ln;rw[aq,aS,zmP,ao];omega
   ·refine hv.cg.tr ?_;rw[OS,AO];refine CgZ.ml h7 (CgZ.of ?_);exact Qd.symm
  have ih:=SZ hc hx0 hp0 hc0 hst kxl kpl kcl z6Y hil hpt h0 hk hP r (yd++[i]) (zn o e2) o fu bs' (by rw[h1,aQ];rfl) (by simp at h2;omega) (h3.tr g2) z1Y g1a g1b g1c;rw[show(yd++[i]).length=yd.length+1 by simp]at ih;rw[ep];unfold n6;refine pm (gX hlt) (pm fG (pm (rd1 hbc hst (wV hlt) hlt) ?_));rw[hgi];refine pm (sL0 hbx) (pm (sL3 hbx) (pm (rd1 hbp rfl (SH hiN) hiN) (pm (g3 _) (pm (gA eP) ih))))
def z2k(h:0<l.length){e:Bool}:iT 2 s (zn l e) none (some ej) (some ej) K=K (.tree (zcs (ei l 0)) 1 true) s:=by
 show(cnd (Nat.ble 1 l.length) (cnd (Nat.ble 1 1) (cnd (Nat.ble 0 1) (cnd (Nat.beq (zs l).length (Nat.mul l.length 2)) (jJ (Nat.mul 0 2) (zs l) λcs=>frc (Nat.sub 1 0) λn=>jP (Nat.mul n 2) cs λcs=>nM (cnd true (Nat.beq 1 1) (cnd e (Nat.beq 1 l.length) false)) λex=>K (.tree cs n ex) s) none) none) none) none)=_;rw[aD (show 1<=l.length from h),mA,show Nat.mul l.length 2=l.length*2 from rfl,gE,gZ,fj];simp only[show Nat.ble 1 1=true from rfl,show Nat.ble 0 1=true from rfl,fH];rw[show Nat.mul 0 2=0 from rfl,a7,i7,show Nat.mul (Nat.sub 1 0) 2=2 from rfl,aF (by rw[mA];omega),iz];have h1:=EX (i:=0) h;rw[bX,a7]at h1;rw[h1];rfl
def z22:tzI [0]=[]:=rfl
def tz1(h:z≠0):tzI [z]=[z]:=t5 λd hd=>by
 have:d=0:=by simpa using hd.symm
 subst this;exact h
def Zt{φ:Nat}{K:fK}(hK:K gj s=some (zn [] true)):lp li (mL φ K) (w+1) (.tree (zcs z) 1 true) (ni 0) s=some (zn [] true):=by
 rw[ep];unfold mL;exact th (qw eP) (th gx (th gx (th gx (th gx (th gx (th gx (th gx (th ga (th ez hK)))))))))
def Rq(hφ:gW φ):∃e,xf (oL φ) [.tree (zcs z) 1 true]=some (zn (tzI [z]) e):=by
 obtain⟨ψ,hψ⟩:∃ψ,φ=ψ+2:=⟨φ-2,eP⟩
 have hld:∀(s:LS)(K:fK),(eT 2 s (.tree (zcs z) 1 true) fB λa s=>fF 1 s a λa s=>eR s a K)=K (.n z.natAbs) s:=λs K=>rfl;have hlp:∀K:fK,lp li (mL φ K) φ=lp li (mL φ K) (ψ+1+1):=λK=>by rw[hψ]
 by_cases h0:z=0
 ·subst h0;refine⟨true,?_⟩;rw[z22];unfold xf oL;dsimp only[fJ,fV];refine th fY ?_;rw[hlp,ep];unfold mL;exact th (oG eP) (th gG (th gG (th gG (th (iJ eP eP) (th U9 (th (hld _ _) (th gG (th Cf (th gT (th fG (th (iJ eP eP) (Zt (φ:=φ) rfl))))))))))))
 ·refine⟨true,?_⟩;rw[tz1 h0];unfold xf oL;dsimp only[fJ,fV];refine th fY ?_;rw[hlp,ep];unfold mL;refine th (oG eP) (th gG (th gG (th gG (th (iJ eP eP) (th U9 (th (hld _ _) (th gG (th Cf ?_))))))));rw[ik eP];exact th gT (th ez (th (z2k (l:=[z]) (e:=true) (cD 0)) jV))
def z13{X:D}{s:LS}:(eU (.b true) true (λk=>fF 1 s X k) s λx s=>eU (.b true) true (λk=>eR s x k) s K)=fF 1 s X λa s=>eR s a K:=rfl
def SY(hc:SC M φ n f L)(hx0:bs0[kx]?=some ⟨SB M f ef kp L.length,.rw⟩)(hp0:bs0[kp]?=some ⟨L.map zD,.rw⟩)(hc0:bs0[kc]?=some ⟨ci idx,st⟩)(hst:st.live=true)(kxl:kx<K0)(kpl:kp<K0)(kcl:kc<K0)(hK0:K0=bs0.length)(z6Y:∀i,i∈idx->i<L.length)(hil:idx.length<=500){k:Nat}(hpt:PartsZ (sel L idx) k)(h0:0<k)(hk:k<n)
 (hP:∀bs',Ex K0 bs0 bs'->P (kk (.b false) (mem bs'))):∀(r yd:eZ)(V:D)(l:fZ)(fu:Nat)(bs:fQ),idx=yd++r->r.length<fu->Ex (K0+1) (bs0++[Blk.mk (zs [1]) .rw]) bs->VS bs (K0+1) V l->BdL M l->l.length<=1->
 P (lp lK (qJ φ kk) fu (.ptr kx 0) (.sl kc 0 idx.length idx.length 1 false) (.sl K0 0 1 1 2 true) V (.sl kc 0 idx.length idx.length 1 false) (ni idx.length) (ni yd.length) (mem bs))
 |[],yd,V,l,fu+1,bs,h1,h2,h3,h4,h5,h6=>by
  rw[bQ]at h1;subst h1;have hM2:=hc.md.two;have hn5:=hc.n5;have hph:=hc.md.ph;have hfl:=hc.ef.len;have hE:∀bs',Ex (K0+1) (bs0++[Blk.mk (zs [1]) .rw]) bs'->Ex K0 bs0 bs':=λbs' h=>⟨aX fU h.1,λk b hk hb=>h.2 k b eP (fW hb)⟩
  have hbx:=(hE _ h3).2 _ _ kxl hx0;obtain⟨o,e2,bs1,g1,g2,g3⟩:=PM (Q:=λo=>o=vm M l) (Mf:=jR φ) (z:=(M:Nat)) h4 λe=>by
   obtain⟨e',he⟩:=OY hc.md h5 hc.md.lgM eP (e:=e);exact⟨_,e',rfl,he⟩
  subst g1;have x1:=h3.tr g2;have zcQ:=(hE _ x1).2 _ _ kxl hx0;have h40:=hc.ef.h4;have hw:ei f 0*1=ei f 0:=eC _;obtain⟨X,xl,xb⟩:=hc.fb;have hK1:=fM (iK xl (xb.get 0)) (show 100000<=KA by decide);have hK2:Lg KA (1:Int).natAbs:=by show Nat.log2 1<=_;rw[show Nat.log2 1=0 from by decide];exact aJ _
  have z6M:=Cq (φ:=φ) (f:=f) eP eP (e:=ef);rw[hfl,show n+1-1=n by omega,show ei f n=1 from hc.ef.mon.one]at z6M;have hgo:∀bs2,Ex (K0+1) (bs0++[Blk.mk (zs [1]) .rw]) bs2->P (fT (.sl kc 0 idx.length idx.length 1 false) (mem bs2) λx62 s=>lp iH (n6 φ kk) φ (.ptr kx 0) (.sl kc 0 idx.length idx.length 1 false) (.sl K0 0 1 1 2 true) (.sl kc 0 idx.length idx.length 1 false) x62 fB s):=λbs2 hx2=>by
   refine pm ou ?_;have hb1:bs2[K0]?=some ⟨zs [1],.rw⟩:=hx2.2 K0 _ eP (by rw[hK0];simp);obtain⟨e5,av5⟩:=Ro (c:=1) (ex:=true) hb1 rfl rfl;exact SZ hc hx0 hp0 hc0 hst kxl kpl kcl z6Y hil hpt h0 hk hP idx [] _ [1] φ bs2 rfl eP (hE _ hx2) ⟨e5,[K0],av5,λk hk'=>by
    have:k=K0:=by simpa using hk'
    subst this;exact⟨aC _,fC hb1⟩⟩ (λx hx=>by
     have:x=1:=by simpa using hx
     subst this;show 1<=M;omega) fU (CgZ.of (by show zl [1]=1;rw[mC,pK,C_1];exact z69))
  rw[ep];unfold qJ;refine pm (gP eP) (pm ez (pm (sL0 hbx) (pm (g3 _) (pm (sL2 zcQ) (pm (ldt eP) (pm (sL2 zcQ) (pm (fX z6M) (pm (DZ hK1 hK2) (pm (al2 rfl) (pm fY ?_))))))))));rw[hw];have hbw:(bs1++[Blk.mk (zcs (ei f 0)) .rw])[bs1.length]?=some ⟨zcs (ei f 0),.rw⟩:=by simp
  have x2:Ex (K0+1) (bs0++[Blk.mk (zs [1]) .rw]) (bs1++[Blk.mk (zcs (ei f 0)) .rw]):=x1.tr Ex.ap;rcases bT (vm M l).length with hz|hz
  ·rw[hz];refine pm (oW rfl) (pm z13 (pm (fa1 (st:=.rw) hbw rfl) (pm gG (pm Ki ?_))));rw[ik eP];exact pm gT (pm fG (hP _ (hE _ x2)))
  ·have hl1:(vm M l).length<=1:=by
    rw[zP];exact aX DH h6
   have hne:=W4 (show 0<M by omega) hz hl1;refine pm (mJ eP) (pm gx (pm gx (pm gx (pm ga (pm ez (pm sj (pm fY (pm (oG hz) (pm fG (pm (ld2 (st:=.rw) hbw rfl) (pm (ldt hz) (pm (iDM (fM (iK xl (xb.get 0)) eV) (iK hc.md.lgM ((Im (show 0<M by omega)).get 0)) hne hph) (pm iG (pm iF (pm (Ju rfl) ?_)))))))))))))));have hbr:((bs1++[Blk.mk (zcs (ei f 0)) .rw])++[Blk.mk (zcs (ei f 0/ei (vm M l) 0)) .rw]++[Blk.mk (zcs (ei f 0%ei (vm M l) 0)) .rw])[(bs1++[Blk.mk (zcs (ei f 0)) .rw]).length+1]?=some ⟨zcs (ei f 0%ei (vm M l) 0),.rw⟩:=by
    rw[aM fU];simp
   have x3:=(x2.tr (Ex.ap (K0:=K0+1) (X:=[Blk.mk (zcs (ei f 0/ei (vm M l) 0)) .rw]))).tr (Ex.ap (X:=[Blk.mk (zcs (ei f 0%ei (vm M l) 0)) .rw]));refine pm (fa1 (st:=.rw) hbr rfl) (pm Ki ?_);by_cases hr:(ei f 0%ei (vm M l) 0).natAbs=0
   ·rw[hr];exact pm ez (hgo _ x3)
   ·rw[ik hr];exact pm fG (hP _ (hE _ x3))
 |i::r,yd,V,l,fu+1,bs,h1,h2,h3,h4,h5,h6=>by
  have hlt:yd.length<idx.length:=by rw[h1];simp
  have hgi:idx.getD yd.length 0=i:=by rw[h1,aB,aM (aC _),bD];rfl
  have hiN:i<L.length:=z6Y i (by rw[h1];simp);obtain⟨p1,p2,p3⟩:=hc.pb _ (Kq hiN);have hn5:=hc.n5;have hE:∀bs',Ex (K0+1) (bs0++[Blk.mk (zs [1]) .rw]) bs'->Ex K0 bs0 bs':=λbs' h=>⟨aX fU h.1,λk b hk hb=>h.2 k b eP (fW hb)⟩
  have hbx:=(hE _ h3).2 _ _ kxl hx0;have hbp:=(hE _ h3).2 _ _ kpl hp0;have hbc:=(hE _ h3).2 _ _ kcl hc0;obtain⟨et,het⟩:=Rq (φ:=φ) (z:=ei (L.getD i ([],false)).1 0) hc.md.ph;have htl:(tzI [ei (L.getD i ([],false)).1 0]).length<=1:=zL;have htb:BdL M (tzI [ei (L.getD i ([],false)).1 0]):=BdL.tz λx hx=>by
   have:x=ei (L.getD i ([],false)).1 0:=by simpa using hx
   subst this;exact p1.get 0
  obtain⟨o,e2,bs',⟨g1a,g1b⟩,g2,g3⟩:=U1 (g:=tzI [ei (L.getD i ([],false)).1 0]) (eg:=et) (Q:=λo=>BdL M o/\o.length<=1) (Mf:=gh φ) (z:=(M:Nat)) h4 λe=>by
   obtain⟨o,e',hv,he⟩:=t8 hc.md h5 htb eP eP (ef:=e) (eg:=et);have:=hv.ln;exact⟨o,e',⟨hv.bd,eP⟩,he⟩
  have ih:=SY hc hx0 hp0 hc0 hst kxl kpl kcl hK0 z6Y hil hpt h0 hk hP r (yd++[i]) (zn o e2) o fu bs' (by rw[h1,aQ];rfl) (by simp at h2;omega) (h3.tr g2) z1Y g1a g1b;rw[show(yd++[i]).length=yd.length+1 by simp]at ih;rw[ep];unfold qJ;refine pm (gX hlt) (pm fG (pm (rd1 hbc hst (wV hlt) hlt) ?_));rw[hgi];refine pm (sL0 hbx) (pm (sL3 hbx) (pm (rd1 hbp rfl (SH hiN) hiN) (pm (z2k p3) (pm (fX het) (pm (g3 _) (pm (gA eP) ih))))))
def z1S(hc:SC M φ n f L)(hx0:bs[kx]?=some ⟨SB M f ef kp L.length,.rw⟩)(hp0:bs[kp]?=some ⟨L.map zD,.rw⟩)(hc0:bs[kc]?=some ⟨ci idx,st⟩)(hst:st.live=true)(z6Y:∀i,i∈idx->i<L.length)(hil:idx.length<L.length)(h0:0<idx.length)(z7S:List.Sublist (sel L idx) (L.map λq=>zl q.1))
 (hP:∀bs',Ex bs.length bs bs'->P (kk (.b false) (mem bs'))):P (qZ φ [.ptr kx 0,.sl kc 0 idx.length idx.length 1 false] (mem bs) kk):=by
 obtain⟨k,k1,k2⟩:=hc.pt.sub z7S;have k3:=k1.pos;have hsl:(sel L idx).length=idx.length:=by unfold sel;simp
 rw[hsl,aj]at k2;rw[hsl]at k3;have hn5:=hc.n5;have hN:=hc.pt.pos;rw[aj]at hN;have hfl:=hc.ef.len;have hM2:=hc.md.two;have hph:=hc.md.ph;have z6M:=Cq (φ:=φ) (f:=f) eP eP (e:=ef);rw[hfl,show n+1-1=n by omega,show ei f n=1 from hc.ef.mon.one]at z6M;have b1:BdL M [1]:=λx hx=>by
  have:x=1:=by simpa using hx
  subst this;show 1<=M;omega
 have hbl:(bs++[Blk.mk (zs [1]) .rw]++[Blk.mk (zs [1]) .rw])[bs.length+1]?=some ⟨zs [1],.rw⟩:=by
  rw[aM fU];simp
 obtain⟨e5,av5⟩:=Ro (c:=1) (ex:=true) hbl rfl rfl;unfold qZ;dsimp only[fJ,fV];have hbz:∀(bs:fQ)(K:fK),iO 1 [.b false,.n 0] [(0,2,itz 1)] (mem bs) K=K (.sl bs.length 0 1 1 2 true) (mem (bs++[⟨zs [1],.rw⟩])):=λbs K=>Vd;refine pm (sL2 hx0) (pm (fX z6M) (pm (hbz _ _) (pm (sL2 (fW hx0)) (pm (fX z6M) (pm (hbz _ _) (pm ou ?_))))));rw[show(bs++[Blk.mk (zs [1]) .rw]).length=bs.length+1 by simp];exact SY hc hx0 hp0 hc0 hst (fC hx0) (fC hp0) (fC hc0) rfl z6Y eP k1 eP eP hP idx [] _ [1] φ _ rfl eP Ex.ap ⟨e5,[bs.length+1],av5,λk hk'=>by
  have:k=bs.length+1:=by simpa using hk'
  subst this;exact⟨aC _,by simp⟩⟩ b1 (aC _)
end
section
variable {bs bs0 bs1:fQ} {l f g q:fZ} {i j k n m c h M a b p kx kp kc kn ks n0 frm:Nat} {ex ef:Bool} {s:LS} {K:fK} {kk:fK} {φ:Nat} {z x y:Int} {d V X X':D} {cs:fN} {P:Option D->Prop} {r:D} {ls:eZ} {u:ZX} {L:List (fZ×Bool)} {idx:eZ} {st:Stt}
def bx1(hx:lA d=[d]:=by rfl)(h1:one d=true:=by rfl):jB d (mem bs) K=K (.ptr bs.length 0) (mem (bs++[⟨[d],.rw⟩])):=by
 unfold jB;rw[zJ,hx,sY (by rw[cH,h1];rfl),kI,mP]
def BO(h:i<=j){k:D->Rs}{kd:IntKind}:wQ (.i kd (.ofNat i)) (.i kd (.ofNat j)) k=k (.b true):=by rw[wP,aD h]
def Ft(h:j<i){k:D->Rs}{kd:IntKind}:wQ (.i kd (.ofNat i)) (.i kd (.ofNat j)) k=k (.b false):=by rw[wP,il eP]
def ug{z n:Nat}(h:AS z bs X cs n)(h0:n≠0):∃l,X=.sl l 0 n n z false/\bs[l]?=some ⟨cs,.rw⟩:=by
 cases h with
 |nil=>exact absurd rfl h0
 |blk h hc=>exact⟨_,rfl,h⟩
def CHL(bs:fQ)(X:D)(idx:eZ):Prop:=(X=.tree [] 0 true/\idx=[])\/∃k st,X=.sl k 0 idx.length idx.length 1 false/\bs[k]?=some ⟨ci idx,st⟩/\st.live=true
def Rt(X:D)(bs bs':fQ):Prop:=bs.length<=bs'.length/\∀(k:Nat)(b:Blk),rx X k->bs[k]?=some b->bs'[k]?=some b
def Rt.tr(h:Rt X bs bs0)(h':Rt X bs0 bs1):Rt X bs bs1:=⟨aX h.1 h'.1,λk b hk hb=>h'.2 k b hk (h.2 k b hk hb)⟩
def Rt.rf:Rt X bs bs:=⟨aC _,λ_ _ _ h=>h⟩
def CHL.len(h:CHL bs X idx):fT X (mem bs) K=K (ni idx.length) (mem bs):=by
 rcases h with⟨rfl,rfl⟩|⟨k,st,rfl,_,_⟩
 ·exact fY
 ·exact ou
def Og{o n m z:Nat}{e:Bool}(h:k≠c):rx (.sl c o n m z e) k:=λo' n' m' z' e' he=>by injection he with h1;exact h h1.symm
def t9{e:Bool}:rx (.tree cs n e) k:=λo' n' m' z' e' he=>by cases he
def YT(hne:idx≠[])(hs:idx.length<=1000000){e:Bool}:mS (gS φ) [tn idx e]=some (.own (ci idx) idx.length 1):=by
 obtain⟨d,r,hd⟩:∃d r,ci idx=d::r:=by
  cases idx with
  |nil=>exact absurd rfl hne
  |cons z f=>exact⟨_,_,rfl⟩
 have h1:mS (gS φ) [tn idx e]=gS φ [tn idx e]:=by unfold tn;rw[hd];rfl
 rw[h1];unfold gS;dsimp only[fJ,fV];rw[<-fg];have h2:∀F:fK,xC false (mem []) (tn idx e) F=F (.b false) (mem []):=λF=>by unfold tn;rw[hd];rfl
 obtain⟨j,c,e',bs',a1,a2,a3⟩:=Rp (bs:=[⟨[],.rw⟩]) (k:=0) (z:=1) (bytes:=8) (n:=idx.length) (cs:=ci idx) (ex:=e) (K:=λx4 s=>fO true s x4 some) rfl (by rw[j0,a9]) (BZ idx) eP eP;refine th (h2 _) (th ez (th (IC rfl) (a1.trans ?_)));have hn0:idx.length≠0:=λh=>hne (aZ h);obtain⟨rfl,rfl,rfl,rfl⟩:=a3 hn0;exact FS (cs:=ci idx) rfl (j0 _) λg=>mG (k:=59) _ (ur idx)
def V8(h:CHL bs X idx)(hs:idx.length<=1000000):∃V bs',AS 1 bs' V (ci idx) idx.length/\Rt X bs bs'/\CHL bs' X idx/\(∀k,k<bs.length->rx V k/\∀(s:LS)(K:fK),kS (.apart (.c (.ptr k 0)) (.c V)) s K=K .u s)/\∀K:fK,eY (mS (gS φ)) [X] (mem bs) K=K V (mem bs'):=by
 rcases h with⟨rfl,rfl⟩|⟨k,st,rfl,hb,hl⟩
 ·refine⟨.tree [] 0 true,bs,AS.nil,Rt.rf,Or.inl ⟨rfl,rfl⟩,λk hk=>⟨t9,λs K=>?_⟩,λK=>fX rfl⟩;have he:evA s.nx cv s.get (.apart (.c (.ptr k 0)) (.c gj))=some (.u,[]):=rfl;unfold kS sA;rw[he];show wR _ _=_;rw[mq]
 ·by_cases hne:idx=[]
  ·subst hne;refine⟨.tree [] 0 true,bs.set k ⟨ci [],fzS st⟩,AS.nil,⟨by simp,λk' b hk' hb'=>fc (λe=>hk' 0 _ _ 1 false (by rw[e])) hb'⟩,Or.inr ⟨k,fzS st,rfl,aH (fC hb),by cases st<;>first|rfl|exact hl⟩,λk hk=>⟨t9,λs K=>?_⟩,λK=>?_⟩
   ·have he:evA s.nx cv s.get (.apart (.c (.ptr k 0)) (.c gj))=some (.u,[]):=rfl;unfold kS sA;rw[he];show wR _ _=_;rw[mq]
   ·unfold eY;show(jX (mem bs) 60 (.sl k 0 0 0 1 false) λy a=>pk a [] λab=>ob (mS (gS φ) [y]) λr=>nD (mem bs) ab r K)=_;show(iq (mem bs) k λb=>cnd (lv b.st) (jJ 0 b.cs λr=>jP (Nat.mul 0 1) r λr=>ma (jX (mem bs) 59) r λcs ls=>nM (cnd false (Nat.beq 0 0) false) λex=>(λy a=>pk a [] λab=>ob (mS (gS φ) [y]) λr=>nD (mem bs) ab r K) (.tree cs 0 ex) (k::ls)) none)=_;rw[gV hb];show cnd (lv st) _ none=_;rw[nQ,hl,fH,gZ,a7,i7,aF (aJ _)];show(iq (mem bs) k λb=>oh (mem bs) k ⟨b.cs,fzS b.st⟩ λs=>K gj s)=_;rw[gV hb,mD (fC hb)]
  ·obtain⟨e,hav⟩:∃e,∀F:D->eZ->Rs,jX (mem bs) 60 (.sl k 0 idx.length idx.length 1 false) F=F (tn idx e) [k]:=by
    refine⟨cnd false (Nat.beq idx.length idx.length) false,λF=>?_⟩;show(iq (mem bs) k λb=>cnd (lv b.st) (jJ 0 b.cs λr=>jP (Nat.mul idx.length 1) r λr=>ma (jX (mem bs) 59) r λcs ls=>nM (cnd false (Nat.beq idx.length idx.length) false) λex=>F (.tree cs idx.length ex) (k::ls)) none)=_;rw[gV hb];show cnd (lv st) (jJ 0 (ci idx) _) none=_;rw[nQ,hl,fH,gZ,a7,i7,show Nat.mul idx.length 1=idx.length from a9 _,aF (by rw[j0];exact aC _),aP (by rw[j0];exact aC _),xR (n:=58) (ur idx),iz];rfl
   have hcl:=YT (φ:=φ) hne hs (e:=e);have hkl:=fC hb;refine⟨.sl bs.length 0 idx.length idx.length 1 false,bs.set k ⟨ci idx,fzS st⟩++[⟨ci idx,.rw⟩],AS.blk (by rw[aM fU];simp) (by rw[j0,a9]),⟨by simp,λk' b hk' hb'=>fW (fc (λe=>hk' 0 _ _ 1 false (by rw[e])) hb')⟩,Or.inr ⟨k,fzS st,rfl,fW (aH hkl),by cases st<;>first|rfl|exact hl⟩,λk' hk'=>⟨Og eP,λs K=>?_⟩,λK=>?_⟩
   ·have he:evA s.nx cv s.get (.apart (.c (.ptr k' 0)) (.c (.sl bs.length 0 idx.length idx.length 1 false)))=some (.u,[]):=by
     show(if k'=bs.length then none else some (D.u,([]:fQ)))=_;rw[aG eP]
    unfold kS sA;rw[he];show wR _ _=_;rw[mq]
   ·unfold eY;show(jX (mem bs) 60 (.sl k 0 idx.length idx.length 1 false) λy a=>pk a [] λab=>ob (mS (gS φ) [y]) λr=>nD (mem bs) ab r K)=_;rw[hav,jt,hcl,jY];show(iq (mem bs) k λb=>oh (mem bs) k ⟨b.cs,fzS b.st⟩ λs=>Kr s (.own (ci idx) idx.length 1) K)=_;rw[gV hb,mD hkl];show lh (mem (bs.set k ⟨ci idx,fzS st⟩)) ⟨ci idx,.rw⟩ (λs'=>K (.sl (mem (bs.set k ⟨ci idx,fzS st⟩)).nx 0 idx.length idx.length 1 false) s')=_;rw[kI,mP,a8]
structure BX (M:Nat) (f:fZ) (ef:Bool) (L:List (fZ×Bool)) (kp kx n0 kn ks kc:Nat) (bs:fQ):Prop where
 bn:bs[kn]?=some ⟨[ni n0],.rw⟩
 bs':bs[ks]?=some ⟨[.ptr kx 0],.rw⟩
 bc:bs[kc]?=some ⟨[.fn 123 [.ptr kn 0,.ptr ks 0,.ptr kc 0]],.rw⟩
 bx:bs[kx]?=some ⟨SB M f ef kp L.length,.rw⟩
 bp:bs[kp]?=some ⟨L.map zD,.rw⟩
structure NB (kp kx kn ks kc:Nat) (X:D):Prop where
 n:rx X kn
 s:rx X ks
 c:rx X kc
 x:rx X kx
 p:rx X kp
def BX.rt(h:BX M f ef L kp kx n0 kn ks kc bs)(hn:NB kp kx kn ks kc X)(hr:Rt X bs bs0):BX M f ef L kp kx n0 kn ks kc bs0:=
 ⟨hr.2 _ _ hn.n h.bn,hr.2 _ _ hn.s h.bs',hr.2 _ _ hn.c h.bc,hr.2 _ _ hn.x h.bx,hr.2 _ _ hn.p h.bp⟩
def S6{α:Type}{l r:List α}{x':α}(h:List.Sublist r (l.take a))(hab:a<=i)(hi:l[i]?=some x'):List.Sublist (r++[x']) (l.take (i+1)):=by
 have hil:=fC hi;have e:l.take (i+1)=l.take i++[x']:=by
  rw[dj,hi];rfl
 rw[e];refine List.Sublist.append (h.trans ?_) (List.Sublist.refl _);have:l.take a=(l.take i).take a:=by rw[List.take_take,cF hab]
 rw[this];exact List.take_sublist _ _
def WO(P:Option D->Prop)(M:Nat)(f:fZ)(ef:Bool)(L:List (fZ×Bool))(kp kx n0 kn ks kc:Nat)(F:fN->LS->fK->Rs)(len:Nat):Prop:=
 ∀(idx:eZ)(frm:Nat)(X:D)(bs:fQ)(kk:fK),idx.length=len->CHL bs X idx->BX M f ef L kp kx n0 kn ks kc bs->NB kp kx kn ks kc X->(∀i,i∈idx->i<L.length)->List.Sublist (sel L idx) ((L.map λq=>zl q.1).take frm)->frm+n0<=L.length+idx.length->(∀bs',Rt X bs bs'->P (kk (.b false) (mem bs')))->P (F [ni frm,X,.ptr kn 0,.ptr ks 0,.ptr kc 0] (mem bs) kk)
def OP{ih:fN->LS->fK->Rs}(hL:L.length<=500)(hIH:WO P M f ef L kp kx n0 kn ks kc ih (idx.length+1))(hnl:idx.length<n0)(h2:n0<=L.length)(hnb:NB kp kx kn ks kc X)(z6Y:∀i,i∈idx->i<L.length)(z7S:List.Sublist (sel L idx) ((L.map λq=>zl q.1).take frm))(hP:∀bs',Rt X bs0 bs'->P (kk (.b false) (mem bs'))):∀(j i fu:Nat)(bs:fQ),i+j+n0=L.length+idx.length+1->frm<=i->j<fu->Rt X bs0 bs->CHL bs X idx->BX M f ef L kp kx n0 kn ks kc bs->
 P (lp gQ (mF φ ih kk) fu X (.ptr kn 0) (.ptr ks 0) (.ptr kc 0) (ni i) (mem bs))
 |0,i,fu+1,bs,h1,h3,h4,h5,h6,h7=>by
  rw[ep];unfold mF;exact pm (vp h7.bs' rfl rfl) (pm (sL3 h7.bx) (pm ou (pm (vp h7.bn rfl rfl) (pm h6.len (pm (iJ eP eP) (pm (iJ eP eP) (pm (Ft eP) (pm ez (hP bs h5)))))))))
 |j+1,i,fu+1,bs,h1,h3,h4,h5,h6,h7=>by
  have hiN:i<L.length:=eP;obtain⟨V,bs1,c1,c2,c3,c4,c5⟩:=V8 (φ:=φ) h6 eP;have hlt:∀{k b},bs[k]?=some b->k<bs.length:=λh=>fC h;obtain⟨bs2,X',d1,d2,d3⟩:=ap1 (K:=λx31 s=>D5 (oQ (TD0 φ) 123 (.mem ih)) false (.fn 123 [.ptr kn 0,.ptr ks 0,.ptr kc 0]) [ni (i+1),x31] s λx32 s=>kS (.apart (.c (.ptr kc 0)) (.c V)) s λ_ s=>fE x32 (kk (.b true) s) (f7 (ni i) ej λx33=>lp gQ (mF φ ih kk) fu X (.ptr kn 0) (.ptr ks 0) (.ptr kc 0) x33 s)) (bytes:=8) (zero:=[fB]) (x:=ni i) (new:=[ni i]) c1 rfl rfl rfl rfl eP eP;have h7':=h7.rt hnb c2;have keep:∀{k b},rx X k->bs[k]?=some b->bs2[k]?=some b/\rx X' k:=λ{k b} hk hb=>d2 k b (c4 k (fC hb)).1 (c2.2 k b hk hb);have hB2:BX M f ef L kp kx n0 kn ks kc bs2:=⟨(keep hnb.n h7.bn).1,(keep hnb.s h7.bs').1,(keep hnb.c h7.bc).1,(keep hnb.x h7.bx).1,(keep hnb.p h7.bp).1⟩
  have hN2:NB kp kx kn ks kc X':=⟨(keep hnb.n h7.bn).2,(keep hnb.s h7.bs').2,(keep hnb.c h7.bc).2,(keep hnb.x h7.bx).2,(keep hnb.p h7.bp).2⟩
  have hci:ci idx++[ni i]=ci (idx++[i]):=by unfold ci;rw[bG];rfl
  rw[hci]at d1;have hX':CHL bs2 X' (idx++[i]):=by
   obtain⟨l,e1,e2⟩:=ug d1 (Nat.succ_ne_zero _);exact Or.inr ⟨l,.rw,by rw[aq,zmP];exact e1,e2,rfl⟩
  have hbl:bs.length<=bs2.length:=by
   rcases aY bs2.length bs.length with h|h
   ·exfalso;have h8:=c2.1;have z6T:bs1[bs.length-1]?=some (bs1[bs.length-1]' eP):=aE eP;have h9:=(d2 (bs.length-1) _ (c4 _ eP).1 z6T).1;have:=fC h9;omega
   ·exact h
  have hgL:(L.map λq=>zl q.1)[i]?=some (zl (L.getD i ([],false)).1):=by
   rw[af,aB,aE hiN];rfl
  have zc1:List.Sublist (sel L (idx++[i])) ((L.map λq=>zl q.1).take (i+1)):=by
   rw[OS];exact S6 z7S h3 hgL
  rw[ep];unfold mF;refine pm (vp h7.bs' rfl rfl) (pm (sL3 h7.bx) (pm ou (pm (vp h7.bn rfl rfl) (pm h6.len (pm (iJ eP eP) (pm (iJ eP eP) (pm (BO eP) (pm fG (pm (vp h7.bc rfl rfl) (pm (gA eP) (pm (c5 _) (pm d3 ?_))))))))))));refine hIH (idx++[i]) (i+1) X' bs2 _ fU hX' hB2 hN2 (λa ha=>?_) zc1 (by simp;omega) λbs3 hr=>?_
  ·rcases bM.1 ha with ha|ha
   ·exact z6Y a ha
   ·rw[cY.1 ha];exact hiN
  ·refine pm ((c4 kc (fC h7.bc)).2 _ _) (pm ez (pm (gA eP) ?_));have hRt:Rt X bs bs3:=⟨aX hbl hr.1,λk b hk hb=>hr.2 k b (keep hk hb).2 (keep hk hb).1⟩
   have hC3:CHL bs3 X idx:=by
    rcases c3 with⟨e1,e2⟩|⟨k,st,e1,e2,e3⟩
    ·exact Or.inl ⟨e1,e2⟩
    ·have hk:k<bs.length:=by
      rcases h6 with⟨g1,_⟩|⟨k',st',g1,g2,_⟩
      ·rw[g1]at e1;cases e1
      ·rw[g1]at e1;injection e1 with e4;rw[<-e4];exact fC g2
     have h10:=d2 k _ (c4 k hk).1 e2;exact Or.inr ⟨k,st,e1,hr.2 k _ h10.2 h10.1,e3⟩
   exact OP hL hIH hnl h2 hnb z6Y z7S hP j (i+1) fu bs3 eP eP eP (h5.tr hRt) hC3 (h7.rt hnb hRt)
def KT(hc:SC M φ n f L)(hn0:1<=n0)(h2:2*n0<=L.length):∀(fu len:Nat),n0-len<fu->len<=n0->WO P M f ef L kp kx n0 kn ks kc (lp (λ_ _ _=>none) (qO φ) fu) len
 |fu+1,len,hfu,hle=>by
  have hph:=hc.md.ph;have hn5:=hc.n5;have hNn:=hc.pt.pos;rw[aj]at hNn;intro idx frm X bs kk e1 h3 h4 h5 h6 h7 h8 hP;rw[ep];unfold qO;dsimp only[fJ,fV];refine pm h3.len (pm (vp h4.bn rfl rfl) ?_);by_cases hl:idx.length=n0
  ·refine pm (oW hl) (pm fG (pm (vp h4.bs' rfl rfl) ?_));rcases h3 with⟨g1,g2⟩|⟨k,st,g1,g2,g3⟩
   ·rw[g2]at hl;simp at hl;omega
   ·subst g1;refine z1S hc h4.bx h4.bp g2 g3 h6 eP eP (h7.trans (List.take_sublist _ _)) λbs' he=>hP bs' ⟨he.1,λk b _ hb=>he.2 k b (fC hb) hb⟩
  ·refine pm (mJ hl) (pm ez ?_);have ih:=KT hc hn0 h2 fu (len+1) eP eP;exact OP (φ:=φ) eP (by rw[e1];exact ih) eP eP h5 h6 h7 hP (L.length+idx.length+1-n0-frm) frm φ bs eP (aC _) eP Rt.rf h3 h4
def ZV(hc:SC M φ n f L)(hn0:1<=n0)(h2:2*n0<=L.length)(hx0:bs[kx]?=some ⟨SB M f ef kp L.length,.rw⟩)(hp0:bs[kp]?=some ⟨L.map zD,.rw⟩)(hP:∀bs',bs'[kx]?=some ⟨SB M f ef kp L.length,.rw⟩->bs'[kp]?=some ⟨L.map zD,.rw⟩->P (kk (.b false) (mem bs'))):P (pV φ [.ptr kx 0,ni n0] (mem bs) kk):=by
 have hph:=hc.md.ph;have hn5:=hc.n5;have hNn:=hc.pt.pos;rw[aj]at hNn;unfold pV;dsimp only[fJ,fV]
 let bsA:fQ:=bs++[⟨[.ptr kx 0],.rw⟩]++[⟨[ni n0],.rw⟩]++[⟨[.fn 123 [.ptr (bs.length+1) 0,.ptr bs.length 0,.ptr (bs.length+2) 0]],.rw⟩]
 have hB:BX M f ef L kp kx n0 (bs.length+1) bs.length (bs.length+2) bsA:=by
  refine⟨?_,?_,?_,fW (fW (fW hx0)),fW (fW (fW hp0))⟩
  ·exact fW (by rw[aM fU];simp)
  ·exact fW (fW fU)
  ·show(bs++[_]++[_]++[_])[bs.length+2]?=_;rw[aM fU];simp
 have z8o:=KT (P:=P) (f:=f) (ef:=ef) (kp:=kp) (kx:=kx) (kn:=bs.length+1) (ks:=bs.length) (kc:=bs.length+2) hc hn0 h2 φ 0 eP (aJ _);have hnb:NB kp kx (bs.length+1) bs.length (bs.length+2) gj:=⟨t9,t9,t9,t9,t9⟩
 have hgo:=z8o [] 0 gj bsA kk rfl (Or.inl ⟨rfl,rfl⟩) hB hnb (λi hi=>by cases hi) (by show List.Sublist [] _;exact List.nil_sublist _) (by show 0+n0<=L.length+0;omega) λbs' hr=>hP bs' (hr.2 _ _ t9 hB.bx) (hr.2 _ _ t9 hB.bp);have hst:∀K:fK,fA 1 (mem (bs++[⟨[.ptr kx 0],.rw⟩]++[⟨[ni n0],.rw⟩]++[⟨[.nf],.rw⟩])) (.ptr (bs.length+2) 0) (.fn 123 [.ptr (bs.length+1) 0,.ptr bs.length 0,.ptr (bs.length+2) 0]) K=K .u (mem bsA):=λK=>by
  refine th (xF (b:=⟨[.nf],.rw⟩) (cs':=[.fn 123 [.ptr (bs.length+1) 0,.ptr bs.length 0,.ptr (bs.length+2) 0]]) (by rw[aM fU];simp) rfl (hx:=rfl) (hn:=rfl) (h1:=rfl) (hl:=rfl)) ?_;rw[bU _ _ fU];simp only[aq,zmP,bD,ck];rfl
 refine pm bx1 (pm bx1 (pm vM ?_));rw[show(bs++[Blk.mk [D.ptr kx 0] .rw]++[Blk.mk [ni n0] .rw]).length=bs.length+2 by simp,show(bs++[Blk.mk [D.ptr kx 0] .rw]).length=bs.length+1 by simp];refine pm (hst _) (pm (vp hB.bc rfl rfl) ?_);exact hgo
end
section
variable {bs:fQ} {f q:fZ} {i j k n h w v B X N a b p:Nat} {ef:Bool} {s:LS} {K:fK} {φ:Nat} {z x y:Int} {d:D} {P:Option D->Prop} {t:ZX} {W:List (eZ×Bool)} {o:eZ}
def Sr(hp:0<p):z%(p:Int)=((rz p z:Nat):Int):=by
 unfold rz;exact(Int.toNat_of_nonneg (dF z eP)).symm
def mdN(p:Nat)(f:fZ):eZ:=tz ((List.range f.length).map λi=>rz p (ei f i))
def JU(hp:0<p):Pq p (mdN p f)/\CgZ p (zx (mdN p f)) (zl f)/\(mdN p f).length<=f.length:=by
 refine⟨CE λx hx=>?_,?_,aX Dc fU⟩
 ·obtain⟨k,_,rfl⟩:=dY.1 hx;exact FJ hp
 ·unfold mdN;rw[Ep];refine y4 λk=>?_;rw[ww,sd];by_cases hk:k<f.length
  ·rw[aB,af,cf hk];exact Ss hp
  ·rw[aB,ai (by simp;omega),jr eP];exact⟨0,by simp⟩
def Dp(hp:0<p)(hp2:p<100000)(hB:BdL B f)(hBl:Lg 900000000 B)(hs:f.length<=1000000)(hφ:gW φ):∀(j i fu:Nat)(bs:fQ),i+j=f.length->j<fu->bs[0]?=some ⟨ci (vr (λi=>rz p (ei f i)) i j),.rw⟩->
 lp gQ (rO φ) fu (ni p) (.sl 0 0 f.length f.length 1 true) (zn f ef) (ni f.length) (ni i) (mem bs)=some (tn (mdN p f) true)
 |0,i,fu+1,bs,h1,h2,h3=>by
  have:i=f.length:=eP;subst this;rw[GT]at h3;rw[ep];unfold rO;exact th (gP eP) (th ez (Cv h3 fU eP hφ))
 |j+1,i,fu+1,bs,h1,h2,h3=>by
  have h3':∀X:fQ,(bs++X)[0]?=some ⟨ci (vr (λi=>rz p (ei f i)) i (j+1)),.rw⟩:=λX=>by rw[bF (fC h3)];exact h3
  have hlp:Lg 900000000 ((p:Nat):Int).natAbs:=by rw[bJ];exact fM (te (show p<=1000000 by omega)) eV
  have hrz:=FJ (z:=ei f i) hp;have ho:=iOf (φ:=φ) (z:=((p:Nat):Int)) (s:=mem (bs++[Blk.mk (zcs (ei f i)) .rw])) (K:=λx17 s=>eY (gK φ) [itz (ei f i),x17] s λx18 s=>gB x18 0 s λx19 s=>gB x18 1 s λx20 s=>ff gL s λx21 s=>ff gL s λx22 s=>fA 2 s x21 x19 λ_ s=>fA 2 s x22 x20 λ_ s=>eW 2 s x22 λx23 s=>eY (oq φ) [x23] s λx24 s=>gB x24 0 s λx25 s=>gB x24 1 s λx26 s=>eT 1 s (.sl 0 0 f.length f.length 1 true) (ni i) λx27 s=>fA 1 s x27 x25 λ_ s=>f7 (ni i) ej λx28=>lp gQ (rO φ) fu (ni p) (.sl 0 0 f.length f.length 1 true) (zn f ef) (ni f.length) x28 s) eP;rw[ep];unfold rO;refine th (gX eP) (th fG (th (ldt eP) (th (al2 rfl) (th A7 (th ho (th (iDM (iK hBl (hB.get i)) hlp eP hφ) (th iG (th iF (th (Ju rfl) ?_)))))))));rw[Sr hp];refine th (ld2 (st:=.rw) (z:=((rz p (ei f i):Nat):Int)) (by rw[aM fU];simp) rfl) (th (iTo (v:=rz p (ei f i)) eP) (th iG (th iF ?_)));refine th (wrn (v:=λi=>rz p (ei f i)) (by rw[aQ,aQ];exact h3' _) eP) (th (gA eP) ?_);exact Dp hp hp2 hB hBl hs hφ j (i+1) fu _ eP eP (by rw[aH (by have:=fC h3;simp)])
def KC(hp:0<p)(hp2:p<100000)(hB:BdL B f)(hBl:Lg 900000000 B)(hs:f.length<=1000000)(hφ:gW φ):pw φ [zn f ef,ni p]=some (tn (mdN p f) true):=by
 unfold pw;dsimp only[fJ,fV];rw[<-fg];refine th fY (th (mkn eP) (th fY ?_));exact Dp hp hp2 hB hBl hs hφ f.length 0 φ _ eP eP (by rw[z1b];rfl)
def NG(hp:Pr p)(hm:MonZ n (zl f)):(mdN p f).length=n+1/\Mo (mdN p f):=by
 obtain⟨h1,h2,h3⟩:=JU (f:=f) hp.pos;exact JJ hp h1 hm h2
def Fl:∀{L:List ZX}{n:Nat}{x:ZX},PartsZ L n->x∈L->∃d,d<=n/\MonZ d x
 |[],n,x,h,hx=>by cases hx
 |y::L,n,x,h,hx=>by
  cases h with
  | @cons _ _ d n' h h1 t=>
   rcases bh.1 hx with rfl|hx
   ·exact⟨d,cL _ _,h⟩
   ·obtain⟨e,e1,e2⟩:=Fl t hx;exact⟨e,eP,e2⟩
def z1X(hp:Pr p)(hm:MonZ n (zl f))(hn:n<=1000)(hb:BL p (mdN p f) W)(hz:Bez p (zx (mdN p f)) (zx (Nf p (mdN p f)))):WP p W n/\CgZ p (zl f) (pZ W):=by
 obtain⟨h1,h2,h3⟩:=JU (f:=f) hp.pos;obtain⟨h4,h5⟩:=NG hp hm;obtain⟨d1,d2,d3⟩:=Px (p:=p) (f:=mdN p f) hp.pos;have hpt:=hb.parts hp h5 h4;have hpr:CgZ p (pZ W) (zx (mdN p f)):=hb.pr;refine⟨⟨λq hq=>?_,hpt,hz.cg hpr.sy (d2.tr (z1q hpr.sy))⟩,h2.sy.tr hpr.sy⟩;obtain⟨q1,q2,q3⟩:=hb.all q hq;obtain⟨e,e1,e2⟩:=Fl hpt (zn0 hq);have e3:=JR hp.one (q2.monz (d:=q.1.length-1) eP) e2 CgZ.rfl';exact⟨q1,q2,eP⟩
def GP(p:Nat)(f:fZ):Prop:=p=0\/(Pr p/\p<65522/\Bez p (zx (mdN p f)) (zx (Nf p (mdN p f))))
def MR(n:Nat)(f:fZ)(p:Nat)(W:List (eZ×Bool)):Prop:=W=[]\/(Pr p/\p<65522/\WP p W n/\CgZ p (zl f) (pZ W))
def KY{e:Bool}:fO false s (.tup [ni p,.tree (W.map tD) N e]) some=some (.tup [ni p,.tree (W.map tD) N e]):=by
 have hx:lf false s.get gJ (.tup [ni p,.tree (W.map tD) N e])=some (.tup [ni p,.tree (W.map tD) N e]):=rfl;unfold fO;rw[lJ,hx,gc];cases wT (.tup [ni p,.tree (W.map tD) N e])<;>rfl
def JS(hm:MonZ n (zl f))(hfl:f.length=n+1)(hn0:0<n)(hn:n<=1000)(hB:BdL B f)(hBl:Lg 900000000 B)(hφ:gW φ):∀(j p at' least found fu:Nat)(s:LS),p+j=65522->2<=p->j<fu->GP at' f->found<=p->least<=1000000->
 ∃a W e,MR n f a W/\lp gQ (nF φ) fu (zn f ef) (ni at') (ni least) (ni found) (ni p) s=some (.tup [ni a,.tree (W.map tD) W.length e]):=by
 have fin:∀(at' least found p fu:Nat)(s:LS),GP at' f->∃a W e,MR n f a W/\(iR (ni at') fB λx43=>fE x43 (fO false s (.tup [fB,gj]) some) (eY (pw φ) [zn f ef,ni at'] s λx44 s=>eY (oo φ) [ni at',x44] s λx45 s=>eY (n7 φ) [ni at',x45] s λx46 s=>fO false s (.tup [ni at',x46]) some))=some (.tup [ni a,.tree (W.map tD) W.length e]):=by
  intro at' least found p fu s hg;rcases hg with rfl|⟨g1,g2,g3⟩
  ·exact⟨0,[],true,Or.inl rfl,th (oW rfl) (th fG (KY (W:=[]) (N:=0)))⟩
  ·have h0:=g1.pos;have hPF:PF at' φ:=⟨g1,eP,hφ⟩
   obtain⟨m1,m2⟩:=NG g1 hm;obtain⟨p1,_,_⟩:=JU (f:=f) h0;obtain⟨d,d1,d2⟩:=Ef g1 eP p1 m2.1 eP hφ (ef:=true);have hd:=d1.id m2;subst hd;obtain⟨W,e,w1,w2⟩:=KE hPF p1 m2 m1 hn0 eP (ef:=true);obtain⟨w3,w4⟩:=z1X g1 hm hn w1 g3;exact⟨at',W,e,Or.inr ⟨g1,g2,w3,w4⟩,th (mJ eP) (th ez (th (fX (KC h0 eP hB hBl eP hφ)) (th (fX d2) (th (fX w2) KY))))⟩
 intro j
 induction j with
 |zero=>
  intro p at' least found fu s h1 h2 h3 hg hf hl;obtain⟨fu,rfl⟩:∃q,fu=q+1:=⟨fu-1,eP⟩
  obtain⟨a,W,e,w1,w2⟩:=fin at' least found p fu s hg;refine⟨a,W,e,w1,?_⟩;have hp:p=65522:=eP;subst hp;rw[ep];unfold nF;by_cases hc1:found<5
  ·refine th (gX hc1) (th gG ?_);by_cases hc2:1<least
   ·exact th gG (th (oG hc2) (th gT (th gG (th gG (th (Ft eV) (th gT (th ez w2)))))))
   ·exact th gG (th (qw eP) (th gT (th gx (th gx (th ga (th ez w2))))))
  ·exact th (gP eP) (th gx (th gx (th ga (th gx (th gx (th ga (th ez w2)))))))
 |succ j ih=>
  intro p at' least found fu s h1 h2 h3 hg hf hl;obtain⟨fu,rfl⟩:∃q,fu=q+1:=⟨fu-1,eP⟩
  have z6w:∀(z9w z7E z7N:Nat)(s:LS),GP z9w f->z7N<=p+1->z7E<=1000000->∃a W e,MR n f a W/\(f7 (ni p) ej λx22=>lp gQ (nF φ) fu (zn f ef) (ni z9w) (ni z7E) (ni z7N) x22 s)=some (.tup [ni a,.tree (W.map tD) W.length e]):=λa1 a2 a3 s b1 b2 b3=>by
   obtain⟨a,W,e,w1,w2⟩:=ih (p+1) a1 a2 a3 fu s eP eP eP b1 eP b3;exact⟨a,W,e,w1,th (gA eP) w2⟩
  have zai:∀x:Option D->Prop,(∀a W e,MR n f a W->x (some (.tup [ni a,.tree (W.map tD) W.length e])))->∀s,x (iR (ni at') fB λx43=>fE x43 (fO false s (.tup [fB,gj]) some) (eY (pw φ) [zn f ef,ni at'] s λx44 s=>eY (oo φ) [ni at',x44] s λx45 s=>eY (n7 φ) [ni at',x45] s λx46 s=>fO false s (.tup [ni at',x46]) some)):=λx hx s=>by
   obtain⟨a,W,e,w1,w2⟩:=fin at' least found p fu s hg;rw[w2];exact hx a W e w1
  suffices hs:∀P:Option D->Prop,(∀a W e,MR n f a W->P (some (.tup [ni a,.tree (W.map tD) W.length e])))->P (lp gQ (nF φ) (fu+1) (zn f ef) (ni at') (ni least) (ni found) (ni p) s)from hs (λo=>∃a W e,MR n f a W/\o=some (.tup [ni a,.tree (W.map tD) W.length e])) λa W e w=>⟨a,W,e,w,rfl⟩
  intro P hP;have z83:∀(z9w z7E z7N:Nat)(s:LS),GP z9w f->z7N<=p+1->z7E<=1000000->P (f7 (ni p) ej λx22=>lp gQ (nF φ) fu (zn f ef) (ni z9w) (ni z7E) (ni z7N) x22 s):=λa1 a2 a3 s b1 b2 b3=>by
   obtain⟨a,W,e,w1,w2⟩:=z6w a1 a2 a3 s b1 b2 b3;rw[w2];exact hP a W e w1
  rw[ep];unfold nF;by_cases hc1:found<5
  ·refine pm (gX hc1) (pm gG ?_);by_cases hc2:1<least
   ·refine pm gG (pm (oG hc2) (pm gT (pm gG (pm gG (pm (BO (show p<=65521 by omega)) (pm gT (pm fG (pm sj ?_))))))));obtain⟨b,hb1,hb2⟩:=WV (φ:=φ) (p:=p) eP h2 hφ;refine pm (fX hb2) (pm UH ?_);cases b with
    |false=>exact pm fG (z83 at' least found s hg eP hl)
    |true=>
     have hpr:=hb1 rfl;have hPF:PF p φ:=⟨hpr,eP,hφ⟩
     obtain⟨m1,m2⟩:=NG hpr hm;obtain⟨p1,_,_⟩:=JU (f:=f) hpr.pos;obtain⟨d1,d2,d3⟩:=Px (p:=p) (f:=mdN p f) hpr.pos;obtain⟨d,g1,g2⟩:=ZC hPF p1 d1 m2.1 eP eP (ef:=true) (eg:=true);refine pm ez (pm (fX (KC hpr.pos eP hB hBl eP hφ)) (pm fY (pm fY (pm (Fb eP) (pm iX (pm iX (pm iX (pm iX (pm iX (pm (fX (z37 hPF p1 eP)) (pm iX (pm (fX g2) (pm iX (pm fY (pm iX ?_)))))))))))))));by_cases hd:d.length=1
     ·have hgp:GP p f:=Or.inr ⟨hpr,eP,g1.unit hd (g1.mo (Or.inl m2.1))⟩;obtain⟨dm,n1,n2⟩:=Ef hpr eP p1 m2.1 eP hφ (ef:=true);have hdm:=n1.id m2;subst hdm;obtain⟨W,e,w1,w2,w3⟩:=KD hPF p1 m1 hn0 eP (ef:=true);refine pm (Fb hd) (pm ga (pm ez (pm (gA eP) (pm (fX n2) (pm (fX w3) (pm fY ?_))))));by_cases hlt:W.length<least
      ·exact pm (gX hlt) (pm fG (z83 p W.length (found+1) _ hgp eP eP))
      ·exact pm (gP hlt) (pm ez (z83 at' least (found+1) _ hg eP hl))
     ·exact pm (Hv hd) (pm ga (pm fG (z83 at' least found _ hg eP hl)))
   ·refine pm gG (pm (qw eP) (pm gT (pm gx (pm gx (pm ga (pm ez (zai P hP s)))))))
  ·refine pm (gP eP) (pm gx (pm gx (pm ga (pm gx (pm gx (pm ga (pm ez (zai P hP s))))))))
def QY(hm:MonZ n (zl f))(hfl:f.length=n+1)(hn0:0<n)(hn:n<=1000)(hB:BdL B f)(hBl:Lg 900000000 B)(hφ:gW φ):∃a W e,MR n f a W/\tu φ [zn f ef]=some (.tup [ni a,.tree (W.map tD) W.length e]):=by
 obtain⟨a,W,e,h1,h2⟩:=JS (ef:=ef) hm hfl hn0 hn hB hBl hφ 65520 2 0 f.length 0 φ (mem []) eV eV eP (Or.inl rfl) eV eP;refine⟨a,W,e,h1,?_⟩;unfold tu;dsimp only[fJ,fV];rw[<-fg];exact th fY h2
end
section
variable {bs:fQ} {l f g q:fZ} {i j k n c h v B M X S N a b p kx kp:Nat} {ex ef:Bool} {s:LS} {K:fK} {φ:Nat} {z x:Int} {d V:D} {cs:fN} {P:Option D->Prop} {r:D} {ls:eZ} {u:ZX} {W:List (eZ×Bool)} {L:List (fZ×Bool)} {o:eZ}
def UL{a b:Int}{k:D->Rs}:wQ (zd a) (zd b) k=k (.b (decide (a<=b))):=by
 have hs:gN .leq (zd a) (zd b) k=k (.b (decide (a<=b))):=wb rfl;cases a with
 |negSucc a=>exact hs
 |ofNat a=>cases b with
  |negSucc b=>exact hs
  |ofNat b=>
   refine(wP).trans ?_;by_cases h:a<=b
   ·rw[aD h,ac (by simp only[ag];omega)]
   ·rw[il h,aU (by simp only[ag];omega)]
def z2X{v:Nat}:gf [.b false,.n 0] [(1,1,.n v)] s K=K (itz (v:Nat)) s:=by rw[C6];rfl
def Gj(hB:BdL B f)(hl:f.length<=65)(hl0:0<f.length)(hBl:Lg 30000 B)(hφ:gW φ){ef:Bool}:∀(j i S fu:Nat)(bs:fQ),i+j=f.length->j<fu->S<=i*B->bs[1]?=some ⟨zcs (S:Nat),.rw⟩->bs[0]?=some ⟨[.b false,.n 0],.rw⟩->
 ∃Bd:Nat,Lg 31000 Bd/\lp iH (ux φ) fu (zn f ef) (.ptr 0 0) (.ptr 1 0) (zn f ef) (ni f.length) (ni i) (mem bs)=some (itz (Bd:Nat))
 |0,i,S,fu+1,bs,h1,h2,h3,b1,b0=>by
  have:i=f.length:=eP;subst this;have h4:f.length*B<=65*B:=aK _ hl;have h6:Lg (6+30000+1) (65*B):=mB (xS (show 65<2^7 by decide)) hBl;have hS:Lg 30020 S:=iK (fM h6 eV) eP;have hk:max (f.length-1) 0<=64:=eP;have h2k:Lg 64 (2^max (f.length-1) 0):=xS (Nat.pow_lt_pow_right eV eP);generalize hq:max (f.length-1) 0=q at*;refine⟨S*2^q,fM (mB hS h2k) eV,?_⟩;rw[ep];unfold ux;refine th (gP eP) (th ez (th (ld2 (st:=.rw) b1 rfl) (th fY (th (iJ eP eP) (th CU ?_)))));rw[hq];refine th (fX (z0y hk)) (th z2X (th (DZ (fM (show Lg 30020 ((S:Nat):Int).natAbs by rw[bJ];exact hS) eV) (fM (show Lg 64 ((2^q:Nat):Int).natAbs by rw[bJ];exact h2k) eV)) ?_));rw[<-bZ];exact th (st2 b0 rfl) (th (ld2 (st:=.rw) (aH (fC b0)) rfl) Wm)
 |j+1,i,S,fu+1,bs,h1,h2,h3,b1,b0=>by
  have hx:=hB.get i;have hiB:i*B<=65*B:=aK _ eP;have h65:Lg 30007 (65*B):=mB (xS (show 65<2^7 by decide)) hBl;have hb1:(bs++[Blk.mk (zcs (ei f i)) .rw])[1]?=some ⟨zcs (S:Nat),.rw⟩:=fW b1;obtain⟨Bd,e1,e2⟩:=Gj hB hl hl0 hBl hφ (ef:=ef) j (i+1) (S+(ei f i).natAbs) fu ((bs++[Blk.mk (zcs (ei f i)) .rw]).set 1 ⟨zcs ((S+(ei f i).natAbs:Nat):Nat),.rw⟩) eP eP (by rw[aS,ao];omega) (aH (fC hb1)) (fc eV (fW b0));refine⟨Bd,e1,?_⟩;rw[ep];unfold ux;refine th (gX eP) (th fG (th (ldt eP) (th (al2 rfl) (th (ld2 (st:=.rw) hb1 rfl) (th (fa1 (z:=ei f i) (st:=.rw) fU rfl) (th z2X (th (Xt (fM (show Lg 30007 ((S:Nat):Int).natAbs by rw[bJ];exact iK h65 eP) eV) (fM (show Lg 30007 (((ei f i).natAbs:Nat):Int).natAbs by rw[bJ];exact fM (iK hBl hx) eV) eV)) ?_)))))));rw[<-znl];exact th (st2 hb1 rfl) (th (gA eP) e2)
def WW(hB:BdL B f)(hl:f.length<=65)(hl0:0<f.length)(hBl:Lg 30000 B)(hφ:gW φ):∃Bd:Nat,Lg 31000 Bd/\w5 φ [zn f ef]=some (itz (Bd:Nat)):=by
 obtain⟨Bd,h1,h2⟩:=Gj (ef:=ef) hB hl hl0 hBl hφ f.length 0 0 φ ([]++[Blk.mk [.b false,.n 0] .rw]++[Blk.mk [.b false,.n 0] .rw]) eP eP (aJ _) rfl rfl;refine⟨Bd,h1,?_⟩;unfold w5;dsimp only[fJ,fV];rw[<-fg];exact th vM (th vM (th fY h2))
def Vw{a b:Nat}(h:a≠b):kS (.apart (.c (.ptr a 0)) (.c (.ptr b 0))) s K=K .u s:=by
 have he:evA s.nx cv s.get (.apart (.c (.ptr a 0)) (.c (.ptr b 0)))=some (.u,[]):=by
  show(if a=b then none else some (D.u,([]:fQ)))=_;rw[aG h]
 unfold kS sA;rw[he];show wR _ _=_;rw[mq]
def HJ:Lg 900000000 (1:Int).natAbs:=by show Nat.log2 1<=_;rw[show Nat.log2 1=0 from by decide];exact aJ _
set_option maxHeartbeats 20000
def Xj{ψ:Nat}(hm:MD M φ)(b0:bs[0]?=some ⟨zcs (M:Nat),.rw⟩)(b2:bs[2]?=some ⟨[.b false,.n 0],.rw⟩)(b4:bs[4]?=some ⟨zcs 0,.rw⟩)(b5:bs[5]?=some ⟨zcs 1,.rw⟩):lp iH (jd φ) (ψ+1) (.ptr 0 0) (.ptr 2 0) (.ptr 3 0) (.ptr 4 0) (.ptr 5 0) (.ptr 6 0) (mem bs)=some (itz 1):=by
 have hφ:=hm.ph;have hM2:=hm.two;have hMl:Lg 900000000 ((M:Nat):Int).natAbs:=by rw[bJ];exact hm.lgM
 have h1M:(1:Int)%((M:Nat):Int)=1:=eK eV eP;rw[ep];unfold jd;refine th (fa1 (st:=.rw) b4 rfl) (th Ki (th ez (th (ld2 (st:=.rw) b5 rfl) (th (fa0 (st:=.rw) b0 rfl) (th (iDM HJ hMl hm.ne hφ) (th iG (th iF ?_)))))));rw[h1M];have c5:=fC b5;exact th (st2 b5 rfl) (th (ld2 (st:=.rw) (aH c5) rfl) (th (st2 (fc eV b2) rfl) (th (ld2 (st:=.rw) (aH (by rw[a8];exact fC b2)) rfl) Wm)))
def RS{ψ:Nat}(hm:MD M φ)(b0:bs[0]?=some ⟨zcs (M:Nat),.rw⟩)(b2:bs[2]?=some ⟨[.b false,.n 0],.rw⟩)(b3:bs[3]?=some ⟨zcs (M:Nat),.rw⟩)(b4:bs[4]?=some ⟨zcs 1,.rw⟩)(b5:bs[5]?=some ⟨zcs 0,.rw⟩)(b6:bs[6]?=some ⟨zcs 1,.rw⟩):lp iH (jd φ) (ψ+1+1) (.ptr 0 0) (.ptr 2 0) (.ptr 3 0) (.ptr 4 0) (.ptr 5 0) (.ptr 6 0) (mem bs)=some (itz 1):=by
 have hφ:=hm.ph;have hM2:=hm.two;have hMl:Lg 900000000 ((M:Nat):Int).natAbs:=by rw[bJ];exact hm.lgM
 have hK0:Lg KA (0:Int).natAbs:=by show Nat.log2 0<=_;rw[show Nat.log2 0=0 from by decide];exact aJ _
 have hl:=fC b6;rw[ep];unfold jd;refine th (fa1 (st:=.rw) b4 rfl) (th Ki (th fG (th (ld2 (st:=.rw) b3 rfl) (th (ld2 (st:=.rw) b4 rfl) (th (iDM hMl HJ eV hφ) (th iG (th iF (th (Ju rfl) ?_))))))));rw[Int.ediv_one,Int.emod_one];have g:∀{k b},bs[k]?=some b->(bs++[Blk.mk (zcs ((M:Nat):Int)) .rw]++[Blk.mk (zcs 0) .rw])[k]?=some b:=λh=>fW (fW h);have g7:(bs++[Blk.mk (zcs ((M:Nat):Int)) .rw]++[Blk.mk (zcs 0) .rw])[bs.length]?=some ⟨zcs ((M:Nat):Int),.rw⟩:=fW fU;have g8:(bs++[Blk.mk (zcs ((M:Nat):Int)) .rw]++[Blk.mk (zcs 0) .rw])[bs.length+1]?=some ⟨zcs 0,.rw⟩:=by
  rw[aM fU];simp
 have c0:=g b0;have c2:=g b2;have c3:=g b3;have c4:=g b4;have c5:=g b5;have c6:=g b6;generalize (bs++[Blk.mk (zcs ((M:Nat):Int)) .rw]++[Blk.mk (zcs 0) .rw])=B at*;refine th (ld2 (st:=.rw) c4 rfl) (th (ld2 (st:=.rw) g8 rfl) (th (st2 c3 rfl) ?_));have hne:∀{k k':Nat}{b b':Blk}{X:fQ},k≠k'->X[k']?=some b->(X.set k b')[k']?=some b:=λh1 h2=>fc h1 h2;have d4:=hne (k:=3) (b':=⟨zcs 1,.rw⟩) eV c4;have d0:=hne (k:=3) (b':=⟨zcs 1,.rw⟩) eV c0;have d2:=hne (k:=3) (b':=⟨zcs 1,.rw⟩) eV c2;have d5:=hne (k:=3) (b':=⟨zcs 1,.rw⟩) eV c5;have d6:=hne (k:=3) (b':=⟨zcs 1,.rw⟩) eV c6;have d7:=hne (k:=3) (b':=⟨zcs 1,.rw⟩) eP g7;generalize B.set 3 ⟨zcs 1,.rw⟩=B1 at*;refine th (st2 d4 rfl) (th (Vw eP) ?_);have e0:=hne (k:=4) (b':=⟨zcs 0,.rw⟩) eV d0;have e2:=hne (k:=4) (b':=⟨zcs 0,.rw⟩) eV d2;have e4:=aH (a:=Blk.mk (zcs 0) .rw) (fC d4);have e5:=hne (k:=4) (b':=⟨zcs 0,.rw⟩) eV d5;have e6:=hne (k:=4) (b':=⟨zcs 0,.rw⟩) eV d6;have e7:=hne (k:=4) (b':=⟨zcs 0,.rw⟩) eP d7;generalize B1.set 4 ⟨zcs 0,.rw⟩=B2 at*;refine th (ld2 (st:=.rw) e6 rfl) (th (ld2 (st:=.rw) e5 rfl) (th (ld2 (st:=.rw) e7 rfl) (th (ld2 (st:=.rw) e6 rfl) (th (DZ (fM hMl eV) (fM HJ eV)) (th (Xq hK0 (by rw[eC];exact fM hMl eV)) (th (st2 e5 rfl) ?_))))));have f6:=hne (k:=5) (b':=⟨zcs 1,.rw⟩) eV e6;refine th (st2 f6 rfl) (Xj hm ?_ ?_ ?_ ?_)
 ·exact hne eV (hne eV e0)
 ·exact hne eV (hne eV e2)
 ·exact hne eV (hne eV e4)
 ·exact hne eV (aH (fC e5))
def Iy(hm:MD M φ)(hz:z=1):lR φ [itz (M:Nat),itz z]=some (itz 1):=by
 have hφ:=hm.ph;have hM2:=hm.two;have hMl:Lg 900000000 ((M:Nat):Int).natAbs:=by rw[bJ];exact hm.lgM
 obtain⟨ψ,hψ⟩:∃ψ,φ=ψ+1+1:=⟨φ-2,eP⟩
 have hlp:lp iH (jd φ) φ=lp iH (jd φ) (ψ+1+1):=by rw[<-hψ]
 unfold lR;refine(id ?_:u1 [itz (M:Nat),itz z] _=some (itz 1));rw[fJ,fJ,fV,<-fg];have ho0:=λ(s:LS)(K:fK)=>iOf (φ:=φ) (z:=0) (s:=s) (K:=K) eP;have ho1:=λ(s:LS)(K:fK)=>iOf (φ:=φ) (z:=1) (s:=s) (K:=K) eP;refine th HM (th HM (th vM (th (fa0 (st:=.rw) (k:=0) (z:=(M:Nat)) rfl rfl) (th (ld2 (st:=.rw) (k:=1) (z:=z) rfl rfl) (th (Ju rfl) (th (Vw (a:=1) (b:=3) eV) (th (ho0 _ _) (th (ho1 _ _) (th (Ju rfl) ?_)))))))));subst hz;rw[hlp];exact RS hm rfl rfl rfl rfl rfl rfl
set_option maxHeartbeats 200000
def KX(hm:MD M φ):lR φ [itz (M:Nat),itz 1]=some (itz 1):=Iy hm rfl
def FU(hb:bs[k]?=some ⟨cs,.rw⟩)(hn:cs.length=n)(hr:∀g:Nat->Option Blk,i8 (res g 59) cs=some (cs,[])):∃e,fO false (mem bs) (.sl k 0 n c 1 ex) some=some (.tree cs n e):=by
 refine⟨ex&&c==n,?_⟩;unfold fO;rw[lJ];show sk (lf false (mem bs).get gJ (.sl k 0 n c 1 ex)) some=_;have z6f:cut 0 (n*1) cs=some cs:=by
  unfold cut;rw[a7,aP eP,aF eP]
 have h1:=wx (g:=(mem bs).get) (n:=59) (l:=k) (off:=0) (len:=n) (cm:=c) (z:=1) (ex:=ex) (r:=cs) (cs:=cs) (ls:=[]) (by rw[mK];exact hb) rfl z6f (hr _);have:lf false (mem bs).get gJ (.sl k 0 n c 1 ex)=some (.tree cs n (ex&&c==n)):=by
  show(match yF (res (mem bs).get 60 (.sl k 0 n c 1 ex))with
   |some (d,o,ls)=>if o.all λl=> !ls.contains l then some d else none
   |none=>none)=_
  rw[h1];rfl
 rw[this,gc];rfl
def T5:∃e,(iO 1 [.tree [] 0 true] [(0,1,zn f ef)] (mem bs) λx4 s=>fO false s x4 some)=some (.tree [zn f ef] 1 e):=by
 obtain⟨e,he⟩:=FU (bs:=bs++[Blk.mk [zn f ef] .rw]) (k:=bs.length) (cs:=[zn f ef]) (n:=1) (c:=1) (ex:=true) fU rfl λg=>Es g 58 [(f,ef)];exact⟨e,th (B4 (zero:=[.tree [] 0 true]) (x:=zn f ef) (new:=[zn f ef]) (z:=1) rfl rfl rfl rfl) he⟩
def Sv(h:MD M φ)(hf:BdL B f)(hB:Lg 30000 B)(hf0:0<f.length)(hfl:f.length<=1000){eg:Bool}:∃o e,RV M o (zl f*zl [1]) (f.length+1-1)/\gh φ [itz (M:Nat),zn f ef,zn [1] eg]=some (zn o e):=by
 have hg:BdL 1 [1]:=λx hx=>by
  have:x=1:=by simpa using hx
  subst this;decide
 have hlB:Lg 900000000 (f.length*(B*1)):=fM (mB (te (show f.length<=1000000 by omega)) (by rw[a9];exact hB)) eV;obtain⟨e,h4⟩:=Yg (φ:=φ) hf hg (fM hB eV) (fM (te eV) eV) hlB hf0 (cD 0) (by show f.length+1<=1000000;omega) h.ph (ef:=ef) (eg:=eg);have h2:=Fi (f:=f) (g:=[1]) hf0 (cD 0);have h2:(xP f [1]).length<=f.length+1-1:=h2;obtain⟨r,hr,hre⟩:=sg h (Ot hf hg) hlB eP (e:=e);obtain⟨V,bs',hv,hve⟩:=J2 (bs:=[⟨zcs (M:Nat),.rw⟩]) (λs kk=>rfl) hre hr;obtain⟨e2,he2⟩:=M9 hv;refine⟨_,e2,Iv h (CgZ.of (E4 hf0 (cD 0))) (λk hk=>by rw[jr eP,dt]),?_⟩;unfold gh;dsimp only[fJ,fV];rw[<-fg];exact th HM (th (ld2 (k:=0) (st:=.rw) rfl rfl) (th (fX h4) (th (hve _) he2)))
def Wc:∀(r p:Nat),sqN p (r+1)=sqN p r*sqN p r
 |0,p=>rfl
 |r+1,p=>Wc r (p*p)
def RV.mon(hv:RV M l u N)(hm:MonZ n u)(hM:2<=M):MonZ n (zl l):=by
 refine⟨?_,λk hk=>?_⟩
 ·obtain⟨z,hz⟩:=yv hv.cg n;obtain⟨h1,h2⟩:=hv.rd n;have h3:=Iu (p:=M) (z:=(zl l).c n) (v:=1) eP eP ⟨-z,by rw[hz,hm.one,eB];omega⟩;have h4:=Sr (p:=M) (z:=(zl l).c n) eP;rw[h3,eK h1 h2]at h4;exact h4
 ·refine JD eP hv.rd ?_;obtain⟨z,hz⟩:=yv hv.cg k;rw[hm.low k hk,Int.zero_add]at hz;exact⟨z,hz⟩
def sL4(h:bs[kx]?=some ⟨SB M f ef kp N,.rw⟩):(jm (mem bs) (.ptr kx 0) λa s=>fF 4 s a λb s=>eR s b K)=K gj (mem bs):=by
 show(iq (mem bs) kx λb=>cnd (lv b.st) (fF 4 (mem bs) (.ptr kx 0) λb s=>eR s b K) none)=_;rw[gV h];show cnd (lv .rw) (fF 4 (mem bs) (.ptr kx 0) λb s=>eR s b K) none=_;rw[nQ,show Stt.rw.live=true from rfl,fH];refine th qm ?_;rw[h,jY];show cnd true _ none=_;rw[fH];exact vp h rfl rfl
def Se(hc:SC M φ n f L)(hP:∀e,P (some (.tree [zn f ef] 1 e))):∀(j n0 fu:Nat)(bs:fQ),n0+j=L.length+1->1<=n0->j<fu->bs[kx]?=some ⟨SB M f ef kp L.length,.rw⟩->bs[kp]?=some ⟨L.map zD,.rw⟩->
 P (lp li (sQ φ) fu (.ptr kx 0) (ni n0) (mem bs)):=by
 have hn5:=hc.n5;have hNn:=hc.pt.pos;rw[aj]at hNn;have z75:∀bs:fQ,bs[kx]?=some ⟨SB M f ef kp L.length,.rw⟩->P (jm (mem bs) (.ptr kx 0) λx58 s=>fF 4 s x58 λx59 s=>eR s x59 λx60 s=>jm s (.ptr kx 0) λx61 s=>fF 2 s x61 λx62 s=>eR s x62 λx63 s=>iO 1 ms [(0,1,x63)] s λx64 s=>mc 1 24 s x60 x64 λx65 s=>fO false s x65 some):=λbs hb=>by
  refine pm (sL4 hb) (pm (sL2 hb) ?_);obtain⟨bs2,X',d1,d2,d3⟩:=ap1 (K:=λx65 s=>fO false s x65 some) (bytes:=24) (zero:=[.tree [] 0 true]) (x:=zn f ef) (new:=[zn f ef]) (AS.nil (z:=1) (bs:=bs)) rfl rfl rfl rfl eV eV;obtain⟨l,e1,e2⟩:=ug d1 eV;subst e1;obtain⟨e,he⟩:=FU (k:=l) (c:=1) (ex:=false) e2 rfl λg=>Es g 58 [(f,ef)];exact pm d3 (pm he (hP e))
 intro j
 induction j with
 |zero=>
  intro n0 fu bs h1 h2 h3 b0 b1;obtain⟨fu,rfl⟩:∃q,fu=q+1:=⟨fu-1,eP⟩
  rw[ep];unfold sQ;exact pm (xO eP) (pm (sL3 b0) (pm ou (pm (Ft eP) (pm ez (z75 bs b0)))))
 |succ j ih=>
  intro n0 fu bs h1 h2 h3 b0 b1;obtain⟨fu,rfl⟩:∃q,fu=q+1:=⟨fu-1,eP⟩
  rw[ep];unfold sQ;refine pm (xO eP) (pm (sL3 b0) (pm ou ?_));by_cases hle:2*n0<=L.length
  ·refine pm (BO hle) (pm fG ?_);refine ZV hc h2 hle b0 b1 λbs' c0 c1=>?_;exact pm ez (pm (gA eP) (ih (n0+1) fu bs' eP eP eP c0 c1))
  ·exact pm (Ft eP) (pm ez (z75 bs b0))
def kb5:gf [.b false,.n 0,.tree [] 0 true,.tree [] 0 true,.tree [] 0 true] [(0,2,itz (M:Nat)),(2,1,zn f ef),(3,1,.sl kp 0 N N 1 false)] s K=K (.agg (SB M f ef kp N)) s:=rfl
structure SF (n:Nat) (f:fZ):Prop where
 ef:EF n f
 n64:n<=64
 n2:2<=n
 fb:∃X,Lg 30000 X/\BdL X f
def Sc(hf:SF n f)(hp:Pr p)(hp2:p<65522)(hφ:gW φ)(hW:WP p W n)(hW2:2<=W.length)(hcg:CgZ p (zl f) (pZ W)){e:Bool}{most:Nat}(z8K:Lg 40000 most)(hP:∀e,P (some (.tree [zn f ef] 1 e))):∀(j r fu:Nat)(bs:fQ),r+j=40001->j<fu->Lg 80001 (sqN p r)->2^r<=sqN p r->bs[0]?=some ⟨zcs (most:Nat),.rw⟩->bs[1]?=some ⟨zcs (sqN p r:Nat),.rw⟩->
 P (lp iH (ut φ) fu (zn f ef) (ni p) (.tree (W.map tD) W.length e) (.ptr 0 0) (ni r) (.ptr 1 0) (mem bs)):=by
 have z75:∀(r:Nat)(bs:fQ),r<=40001->Lg 80001 (sqN p r)->bs[1]?=some ⟨zcs (sqN p r:Nat),.rw⟩->P (eW 2 (mem bs) (.ptr 1 0) λx34 s=>gf gL [(0,2,x34)] s λx35 s=>ff gL s λx36 s=>fA 2 s x36 x35 λ_ s=>eW 2 s x36 λx37 s=>eW 2 s x36 λx38 s=>eY (oM φ) [zn f ef] s λx39 s=>eY (lR φ) [x38,x39] s λx40 s=>iO 1 gL [(0,2,x40)] s λx41 s=>eY (gh φ) [x37,zn f ef,x41] s λx42 s=>eW 2 s x36 λx43 s=>eY (zy φ) [x42,ni p,ni r,.tree (W.map tD) W.length e] s λx44 s=>gf [(.b false),(.n 0),gj,gj,gj] [(0,2,x43),(2,1,zn f ef),(3,1,x44)] s λx45 s=>jB x45 s λx46 s=>lp li (sQ φ) φ x46 ej s):=λr bs hr hlg hb1=>by
  have hsp:=ON r p (by have:=hp.two;omega);have hM:MD (sqN p r) φ:=⟨by have:=hp.two;omega,fM hlg eV,hφ⟩
  have hM2:=hM.two;have hn1:=hf.n64;have hfl:=hf.ef.len;obtain⟨X,x1,x2⟩:=hf.fb;have z6M:=Cq (φ:=φ) (f:=f) eP eP (e:=ef);rw[hfl,show n+1-1=n by omega,show ei f n=1 from hf.ef.mon.one]at z6M;refine pm (ld2 (st:=.rw) hb1 rfl) (pm z2W (pm (al2 rfl) (pm A7 (pm A7 (pm (fX z6M) (pm (fX (KX hM)) (pm Vd ?_)))))));have hbz:(bs++[Blk.mk (zcs (sqN p r:Nat)) .rw]++[Blk.mk (zs [1]) .rw])[(bs++[Blk.mk (zcs (sqN p r:Nat)) .rw]).length]?=some ⟨zs [1],.rw⟩:=by
   rw[aM (aC _),bD];rfl
  have hbm:(bs++[Blk.mk (zcs (sqN p r:Nat)) .rw]++[Blk.mk (zs [1]) .rw])[bs.length]?=some ⟨zcs (sqN p r:Nat),.rw⟩:=fW fU;obtain⟨e5,av5⟩:=Ro (c:=1) (ex:=true) hbz rfl rfl;obtain⟨o,e6,hv,hm6⟩:=Sv hM x2 x1 eP eP (ef:=ef) (eg:=e5);have hzf:zl f*zl [1]=zl f:=by
   rw[show zl [1]=1 by rw[mC,pK,C_1];exact z69];exact z69
  rw[hzf]at hv;have hmo:=hv.mon hf.ef.mon hM2;have hol:=hv.len_of hmo;obtain⟨bs3,c1,c2,c3⟩:=xY (AVL.cons (Vo (z:=((sqN p r:Nat):Int))) (AVL.cons (Vp (l:=f) (e:=ef)) (AVL.cons av5 AVL.nil))) (λk hk=>by
   have:k=(bs++[Blk.mk (zcs (sqN p r:Nat)) .rw]).length:=by simpa using hk
   rw[this];exact fC hbz) hm6
  have zfr:=c2 _ _ (λhm=>by
   simp at hm) hbm
  have hPF:PF p φ:=⟨hp,eP,hφ⟩
  obtain⟨L,l1,l2,l3,l4⟩:=z1T hPF (R:=r) eP hM (ef:=e6) (e:=e) eP hW eP hmo hol hv.bd ((Nj hv.cg (Sb r p)).tr hcg);have hSC:SC (sqN p r) φ n f L:=⟨hM,hf.ef,eP,⟨X,fM x1 eV,x2⟩,l2,λq hq=>by
   obtain⟨q1,q2⟩:=l3 q hq;refine⟨q1,q2,?_⟩;obtain⟨d,_,hd⟩:=Fl l2 (zn0 hq);rcases bT q.1.length with h|h
   ·have:=hd.one;rw[sd,jr eP]at this;omega
   ·exact h⟩
  refine pm (c3 _) (pm (ld2 (st:=.rw) zfr rfl) (pm (GK l4) (pm kb5 (pm (om rfl) ?_))));exact Se hSC hP L.length 1 φ _ eP (aC _) (by have:=l2.pos;rw[aj]at this;omega) (by
   rw[aM (aC _),bD];rfl) (fW (k:=bs3.length) (by rw[aM (aC _),bD];rfl))
 intro j
 induction j with
 |zero=>
  intro r fu bs h1 h2 h3 h4 b0 b1;obtain⟨fu,rfl⟩:∃q,fu=q+1:=⟨fu-1,eP⟩
  have hlt:most<sqN p r:=by
   have h5:=IA z8K;have:r=40000+1:=eP;subst this;exact bw h5 h4
  rw[ep];unfold ut;refine pm (ld2 (st:=.rw) b1 rfl) (pm (ld2 (st:=.rw) b0 rfl) (pm z10 (pm (UL (b:=0)) ?_)));have hz:¬(sgz (((sqN p r:Nat):Int)-(most:Nat))<=0):=by
   unfold sgz;rw[aG eP,aG eP];decide
  rw[aU hz];exact pm ez (z75 r bs eP h3 b1)
 |succ j ih=>
  intro r fu bs h1 h2 h3 h4 b0 b1;obtain⟨fu,rfl⟩:∃q,fu=q+1:=⟨fu-1,eP⟩
  rw[ep];unfold ut;refine pm (ld2 (st:=.rw) b1 rfl) (pm (ld2 (st:=.rw) b0 rfl) (pm z10 (pm (UL (b:=0)) ?_)));by_cases hle:sqN p r<=most
  ·have hz:sgz (((sqN p r:Nat):Int)-(most:Nat))<=0:=by
    unfold sgz;split
    ·decide
    ·rw[aF eP];decide
   have hlg:Lg 40000 (sqN p r):=iK z8K hle;have hKl:Lg KA ((sqN p r:Nat):Int).natAbs:=by rw[bJ];exact fM hlg eV
   rw[ac hz];refine pm fG (pm (ld2 (st:=.rw) b1 rfl) (pm (ld2 (st:=.rw) b1 rfl) (pm (DZ hKl hKl) ?_)));rw[<-bZ,<-Wc];have h2r:2<=sqN p r:=by
    have:=ON r p (by have:=hp.two;omega);have:=hp.two;omega
   have h4':2^(r+1)<=sqN p (r+1):=by
    rw[Wc,bI];exact ay h4 h2r
   refine pm (st2 b1 rfl) (pm (gA eP) (ih (r+1) fu _ eP eP (by rw[Wc];exact mB hlg hlg) h4' (fc eV b0) (aH (fC b1))))
  ·have hz:¬(sgz (((sqN p r:Nat):Int)-(most:Nat))<=0):=by
    unfold sgz;rw[aG eP,aG eP];decide
   rw[aU hz];exact pm ez (z75 r bs eP h3 b1)
def WU(hf:SF n f)(hφ:gW φ):∃e,uk φ [zn f ef]=some (.tree [zn f ef] 1 e):=by
 have hn1:=hf.n64;have hn2:=hf.n2;have hfl:=hf.ef.len;obtain⟨X,x1,x2⟩:=hf.fb;obtain⟨p,W,e,hmr,hmo⟩:=QY (ef:=ef) hf.ef.mon hfl eP eP x2 (fM x1 eV) hφ
 suffices hs:∀P:Option D->Prop,(∀e,P (some (.tree [zn f ef] 1 e)))->P (uk φ [zn f ef])from hs (λo=>∃e,o=some (.tree [zn f ef] 1 e)) λe=>⟨e,rfl⟩
 intro P hP;have h1l:∀s:LS,∀bs,s=mem bs->P (iO 1 ms [(0,1,zn f ef)] s λx10 s=>fO false s x10 some):=λs bs hs=>by
  subst hs;obtain⟨e,he⟩:=T5 (f:=f) (ef:=ef) (bs:=bs);rw[he];exact hP e
 unfold uk;dsimp only[fJ,fV];rw[<-fg];refine pm fY (pm (mJ eP) (pm ez (pm (fX hmo) (pm iG (pm iF (pm fY ?_))))));by_cases hle:W.length<=1
 ·exact pm (BO hle) (pm fG (h1l _ [] rfl))
 ·have hW0:W≠[]:=λe=>by rw[e]at hle;simp at hle
  rcases hmr with h|⟨hp,hp2,hW,hcg⟩
  ·exact absurd h hW0
  ·have z6M:=Cq (φ:=φ) (f:=f) eP eP (e:=ef);rw[hfl,show n+1-1=n by omega,show ei f n=1 from hf.ef.mon.one]at z6M;obtain⟨Bd,b1,b2⟩:=WW (ef:=ef) x2 eP eP x1 hφ;have hB:Lg KA ((Bd:Nat):Int).natAbs:=by rw[bJ];exact fM b1 eV
   have h2l:Lg KA (2:Int).natAbs:=by show Nat.log2 2<=_;rw[show Nat.log2 2=1 from by decide];exact aV rfl
   have ho2:=λ(s:LS)(K:fK)=>iOf (φ:=φ) (z:=2) (s:=s) (K:=K) eP;have hop:=λ(s:LS)(K:fK)=>iOf (φ:=φ) (z:=(p:Nat)) (s:=s) (K:=K) eP;have z8K:Lg 40000 (Bd*2):=fM (mB b1 (xS (show 2<2^2 by decide))) eV;refine pm (Ft eP) (pm ez (pm (fX b2) (pm (fX z6M) (pm (DZ hB (fM HJ eV)) (pm (ho2 _ _) ?_)))));rw[eC];refine pm (DZ hB h2l) ?_;rw[show((Bd:Nat):Int)*2=((Bd*2:Nat):Int) by rw[bZ];rfl];refine pm (al2 rfl) (pm (hop _ _) (pm (al2 rfl) ?_));exact Sc hf hp hp2 hφ hW eP hcg z8K hP 40001 0 φ _ rfl eP (fM (te (show p<=1000000 by omega)) eV) (by show 1<=p;exact hp.pos) rfl rfl
end
section
variable {bs:fQ} {l f g:fZ} {b:Blk} {i j k n c B:Nat} {ex ef eg:Bool} {s:LS} {K:fK} {kk:IntKind} {q p:Rat} {φ:Nat} {z x:Int} {v:Nat->Int}
def zr(l:fZ):Row:=l.map λz:Int=>(z:Rat)
def pz(l:fZ)(e:Bool):D:=.tree (rs (zr l)) l.length e
def nK:(zr l).length=l.length:=by unfold zr;simp
def qk:ent (zr l) i=((ei l i:Int):Rat):=by
 unfold ent zr ei;simp only[aB,af];cases l[i]?<;>rfl
def AD:∀l:fZ,ib (zr l)=zr (tzI l)
 |[]=>rfl
 |a::l=>by
  show ib ((a:Rat)::zr l)=_;unfold ib tzI;rw[AD l];cases h:tzI l with
  |nil=>
   show(if([]:Row)=[]/\(a:Rat)=0 then _ else _)=zr (if a=0 then[]else[a]);by_cases h0:a=0
   ·subst h0;rw[aF ⟨rfl,rfl⟩,aF rfl];rfl
   ·rw[aG (λh=>h0 (by
     have:=h.2;rw[<-dO,dx]at this;exact this)),aG h0];rfl
  |cons b r=>
   show(if((b:Rat)::zr r)=[]/\(a:Rat)=0 then _ else _)=zr (a::b::r);rw[aG (λh=>by cases h.1)];rfl
def sF(h:Lg k z.natAbs):Qz k (z:Rat):=⟨by rw[znm];exact h,by rw[znn];exact aX (show Nat.log2 1<=0 by decide) (aJ _)⟩
def Rz:lst n (λi=>((v i:Int):Rat))=zr ((List.range n).map v):=by
 unfold lst zr;rw[List.map_map];rfl
def DI:rc (z:Rat)=.agg [.b (decide (z<0)),.n z.natAbs,.n 1]:=by
 unfold rc;rw[znm,znn]
def Cd(hb:bs[k]?=some ⟨fl3 (lst n (λi=>((v i:Int):Rat))) 0,.rw⟩)(hs:n<1000000000)(hφ:1000000000<=φ):∃e,(eY (gY φ) [.sl k 0 n c 3 ex] (mem bs) λx s=>fO false s x some)=some (pz (tzI ((List.range n).map v)) e):=by
 rw[Ug,Rz]at hb;obtain⟨e,he⟩:=Il (c:=c) (ex:=ex) hb (by rw[nK];simp) hs hφ;refine⟨e,he.trans ?_⟩;rw[AD];unfold pz;rw[nK]
def Eh(hb:bs[k]?=some ⟨fl3 (lst i (λi=>((v i:Int):Rat))) (j+1),.rw⟩)(h:i<n)(hq:q=((v i:Int):Rat)):(eT 3 (mem bs) (.sl k 0 n c 3 ex) (.i kk (.ofNat i)) λa s=>fA 3 s a (rc q) K)=K .u (mem (bs.set k ⟨fl3 (lst (i+1) (λi=>((v i:Int):Rat))) j,.rw⟩)):=by
 subst hq;have hw:=Z0 (q:=((v i:Int):Rat)) (n:=n) (c:=c) (ex:=ex) (kk:=kk) (K:=K) hb (by rw[uo];exact h);rw[uo]at hw;rw[hw,<-CV (v:=λi=>((v i:Int):Rat))]
def Fu(h:i<l.length){e:Bool}:(eT 3 s (pz l e) (.i kk (.ofNat i)) λa s=>eW 3 s a K)=K (rc ((ei l i:Int):Rat)) s:=by
 have:=Fv (s:=s) (K:=K) (kk:=kk) (ex:=e) (l:=zr l) (n:=l.length) nK h;rw[qk]at this;exact this
def Jk{e:Bool}:eY (mN φ) [pz l e,.i .i64 (.ofNat i)] s K=K (rc ((ei l i:Int):Rat)) s:=by
 have:=z0n (φ:=φ) (i:=i) (ex:=e) (l:=zr l) (n:=l.length) nK;rw[qk]at this;exact fX this
def yi(hB:BdL B l)(hl:Lg 100000000 B):Qz KB ((ei l i:Int):Rat):=sF (fM (iK hl (hB.get i)) eV)
def Hl{ef eg:Bool}(hf:BdL B f)(hg:BdL B g)(hl:Lg 100000000 B)(hs:n<1000000000)(hφ:gW φ):∀(j i fu:Nat)(bs:fQ),i+j=n->j<fu->bs[0]?=some ⟨fl3 (lst i (λi=>((ei f i+ei g i*(-1):Int):Rat))) j,.rw⟩->
 ∃e,lp gQ (s8 φ) fu (pz f ef) (pz g eg) (.sl 0 0 n n 3 true) (ni n) (ni i) (mem bs)=some (pz (tzI ((List.range n).map λi=>ei f i+ei g i*(-1))) e)
 |0,i,fu+1,bs,h1,h2,h3=>by
  have:i=n:=eP;subst this;obtain⟨e,he⟩:=Cd (c:=i) (ex:=true) (φ:=φ) h3 hs eP;refine⟨e,?_⟩;rw[ep];unfold s8;exact th (gP eP) (th ez he)
 |j+1,i,fu+1,bs,h1,h2,h3=>by
  obtain⟨e,he⟩:=Hl hf hg hl hs hφ (ef:=ef) (eg:=eg) j (i+1) fu _ eP eP (aH (fC h3));refine⟨e,?_⟩;rw[ep];unfold s8;refine th (gX eP) (th fG (th Jk (th Jk (th (oz (z0m (yi hf hl) (yi hg hl) hφ) rfl) (th (Eh (v:=λi=>ei f i+ei g i*(-1)) h3 eP ?_) (th (gA eP) he))))));rw[<-Rat.intCast_sub];congr 1;omega
def z0v(hf:BdL B f)(hg:BdL B g)(hl:Lg 100000000 B)(hfl:f.length<=1000000)(hgl:g.length<=1000000)(hφ:gW φ):∃e,lZ φ [pz f ef,pz g eg]=some (pz (tzI (y3 (-1) f g)) e):=by
 obtain⟨e,he⟩:=Hl (φ:=φ) (n:=max f.length g.length) hf hg hl eP hφ (ef:=ef) (eg:=eg) (max f.length g.length) 0 φ ([]++[Blk.mk (fl3 [] (max f.length g.length)) .rw]) eP eP rfl;refine⟨e,?_⟩;unfold lZ;dsimp only[fJ,fV];rw[<-fg];refine th fY (th fY (th CU (th (BI rfl eP eP) (th ou ?_))));rw[IN];exact he
def Hq{ef eg:Bool}(hf:BdL B f)(hg:BdL B g)(hl:Lg 100000000 B)(hs:n<1000000000)(hφ:gW φ):∀(j i fu:Nat)(bs:fQ),i+j=n->j<fu->bs[0]?=some ⟨fl3 (lst i (λi=>((ei f i+ei g i*1:Int):Rat))) j,.rw⟩->
 ∃e,lp gQ (s9 φ) fu (pz f ef) (pz g eg) (.sl 0 0 n n 3 true) (ni n) (ni i) (mem bs)=some (pz (tzI ((List.range n).map λi=>ei f i+ei g i*1)) e)
 |0,i,fu+1,bs,h1,h2,h3=>by
  have:i=n:=eP;subst this;obtain⟨e,he⟩:=Cd (c:=i) (ex:=true) (φ:=φ) h3 hs eP;refine⟨e,?_⟩;rw[ep];unfold s9;exact th (gP eP) (th ez he)
 |j+1,i,fu+1,bs,h1,h2,h3=>by
  obtain⟨e,he⟩:=Hq hf hg hl hs hφ (ef:=ef) (eg:=eg) j (i+1) fu _ eP eP (aH (fC h3));refine⟨e,?_⟩;rw[ep];unfold s9;refine th (gX eP) (th fG (th Jk (th Jk (th (oz (Ws (yi hf hl) (yi hg hl) hφ) rfl) (th (Eh (v:=λi=>ei f i+ei g i*1) h3 eP ?_) (th (gA eP) he))))));rw[<-zmU];congr 1;omega
def z2G(hf:BdL B f)(hg:BdL B g)(hl:Lg 100000000 B)(hfl:f.length<=1000000)(hgl:g.length<=1000000)(hφ:gW φ):∃e,l8 φ [pz f ef,pz g eg]=some (pz (tzI (y3 1 f g)) e):=by
 obtain⟨e,he⟩:=Hq (φ:=φ) (n:=max f.length g.length) hf hg hl eP hφ (ef:=ef) (eg:=eg) (max f.length g.length) 0 φ ([]++[Blk.mk (fl3 [] (max f.length g.length)) .rw]) eP eP rfl;refine⟨e,?_⟩;unfold l8;dsimp only[fJ,fV];rw[<-fg];refine th fY (th fY (th CU (th (BI rfl eP eP) (th ou ?_))));rw[IN];exact he
def Di{ef:Bool}(hf:BdL B f)(hl:Lg 100000000 B)(hp:Qz KB p)(hv:∀i,i<f.length->((ei f i:Int):Rat)*p=((v i:Int):Rat))(hs:f.length<1000000000)(hφ:gW φ):∀(j i fu:Nat)(bs:fQ),i+j=f.length->j<fu->bs[0]?=some ⟨rcs p,.rw⟩->bs[1]?=some ⟨fl3 (lst i (λi=>((v i:Int):Rat))) j,.rw⟩->
 ∃e,lp gQ (rD φ) fu (.ptr 0 0) (.sl 1 0 f.length f.length 3 true) (pz f ef) (ni f.length) (ni i) (mem bs)=some (pz (tzI ((List.range f.length).map v)) e)
 |0,i,fu+1,bs,h1,h2,h0,h3=>by
  have:i=f.length:=eP;subst this;obtain⟨e,he⟩:=Cd (c:=f.length) (ex:=true) (φ:=φ) h3 hs eP;refine⟨e,?_⟩;rw[ep];unfold rD;exact th (gP eP) (th ez he)
 |j+1,i,fu+1,bs,h1,h2,h0,h3=>by
  have h3':(bs++[Blk.mk (rcs ((ei f i:Int):Rat)) .rw])[1]?=some ⟨fl3 (lst i (λi=>((v i:Int):Rat))) (j+1),.rw⟩:=fW h3;obtain⟨e,he⟩:=Di hf hl hp hv hs hφ (ef:=ef) j (i+1) fu _ eP eP (fc eV (fW h0)) (aH (fC h3'));refine⟨e,?_⟩;rw[ep];unfold rD;exact th (gX eP) (th fG (th (Fu eP) (th (CO rfl) (th Qs (th (yP (fW h0)) (th (oz (Ka (yi hf hl) hp hφ) rfl) (th (Eh h3' eP (hv i eP)) (th (gA eP) he))))))))
def Rk:jB (rc q) (mem bs) K=K (.ptr bs.length 0) (mem (bs++[⟨rcs q,.rw⟩])):=om rfl
def Ms(hf:BdL B f)(hl:Lg 100000000 B)(hp:Qz KB p)(hv:∀i,i<f.length->((ei f i:Int):Rat)*p=((v i:Int):Rat))(hs:f.length<=1000000)(hφ:gW φ):∃e,ig φ [pz f ef,rc p]=some (pz (tzI ((List.range f.length).map v)) e):=by
 obtain⟨e,he⟩:=Di (φ:=φ) hf hl hp hv eP hφ (ef:=ef) f.length 0 φ ([]++[Blk.mk (rcs p) .rw]++[Blk.mk (fl3 [] f.length) .rw]) eP eP rfl rfl;refine⟨e,?_⟩;unfold ig;dsimp only[fJ,fV];rw[<-fg];refine th Rk (th fY (th (BI rfl eP eP) (th fY ?_)));rw[IN];exact he
def Mt{e:Bool}:jg φ [pz [] e]=some (pz [] true):=rfl
def Mu(hf:BdL B f)(hl:Lg 100000000 B)(h0:0<f.length)(hz:ei f (f.length-1)≠0)(hv:∀i,i<f.length->ei f i=ei f (f.length-1)*v i)(hs:f.length<=1000000)(hφ:gW φ):∃e,jg φ [pz f ef]=some (pz (tzI ((List.range f.length).map v)) e):=by
 have hne:((ei f (f.length-1):Int):Rat)≠0:=λh=>hz (by
  rw[<-dO,dx]at h;exact h)
 have hq:=yi (i:=f.length-1) hf hl;have hinv:Qz KB ((ei f (f.length-1):Int):Rat)⁻¹ :=by
  obtain⟨h1,h2⟩:=J3 hne;refine⟨?_,by rw[h2];exact hq.1⟩;rw[h1,Ar];exact hq.2
 obtain⟨e,he⟩:=Ms (ef:=ef) (φ:=φ) (p:=((ei f (f.length-1):Int):Rat)⁻¹) (v:=v) hf hl hinv (λi hi=>by
  rw[hv i hi,dB];generalize ((ei f (f.length-1):Int):Rat)=t at*;rw[Rat.mul_comm t,Rat.mul_assoc,Rat.mul_inv_cancel _ hne,dz]) hs hφ
 refine⟨e,?_⟩;unfold jg;dsimp only[fJ,fV];exact th fY (th (mJ eP) (th ez (th fY (th (iJ eP eP) (th (Fu eP) (th (sX (CC hne) rfl) (th (fX he) jV)))))))
def JL(hf:BdL B f)(hl:Lg 100000000 B)(h0:0<f.length)(h1:ei f (f.length-1)=1)(hs:f.length<=1000000)(hφ:gW φ):∃e,jg φ [pz f ef]=some (pz f e):=by
 obtain⟨e,he⟩:=Mu (ef:=ef) (φ:=φ) (v:=ei f) hf hl h0 (by rw[h1];decide) (λi _=>by rw[h1];omega) hs hφ;refine⟨e,he.trans ?_⟩;have h2:(List.range f.length).map (ei f)=f:=by
  refine cr fU λk h1 h2=>?_;rw[cZ,cn];unfold ei;rw[aB,aE h2];rfl
 rw[h2,t5 λd hd=>?_];rw[show d=f.length-1 by omega,h1];decide
end
section
variable {bs:fQ} {l f:fZ} {b:Blk} {i j k n c B X:Nat} {ex ef:Bool} {s:LS} {K:fK} {φ:Nat} {z x:Int} {V:D} {cs:fN}
def z4b(hz:z.natAbs<4611686018427387904):iZ φ [zd z]=some (rc (z:Rat)):=by
 have hw:kN φ [itz z]=some (rc (z:Rat)):=by
  rw[DI];exact JG
 unfold iZ;dsimp only[fJ,fV];rw[<-fg];exact th vM (th (iOf hz) (th (iI1 hw) (HF (k:=0) rfl rfl)))
def z1W(hz:z.natAbs<4611686018427387904):eY (iZ φ) [zd z] s K=K (rc (z:Rat)) s:=fX (z4b hz)
def Yi(hi:i<4611686018427387904):eY (iZ φ) [.i .i64 (.ofNat i)] s K=K (rc (((i:Nat):Int):Rat)) s:=z1W (z:=(i:Nat)) eP
def W0(h:AS 3 bs V (rs (zr l)) l.length)(hs:l.length<1000000000)(hφ:1000000000<=φ):∃e,(eY (gY φ) [V] (mem bs) λx s=>fO false s x some)=some (pz (tzI l) e):=by
 have hpz:∀e,(some (.tree (rs (ib (zr l))) (ib (zr l)).length e):Option D)=some (pz (tzI l) e):=λe=>by
  rw[AD];unfold pz;rw[nK]
 generalize hcs:rs (zr l)=cs at h;generalize hnn:l.length=nn at h;cases h with
 |nil=>
  have hl0:l=[]:=aZ hnn;subst hl0;obtain⟨e,he⟩:=FZ (φ:=φ) (l:=zr []) (n:=0) (ex:=true) rfl eV eP;exact⟨e,th (fX he) (jV.trans (hpz e))⟩
 |blk hb hc=>
  subst hcs;obtain⟨e,he⟩:=Il (n:=nn) (c:=nn) (ex:=false) hb (by rw[nK];exact hnn) eP hφ;exact⟨e,he.trans (hpz e)⟩
def tZ(f:fZ):fZ:=(List.range (f.length-1)).map λi=>ei f (i+1)*((i+1:Nat):Int)
def YS:ei (tZ f) i=if i<f.length-1 then ei f (i+1)*((i+1:Nat):Int)else 0:=ue i
def KW{w:Nat->Int}:(List.range (i+1)).map w=(List.range i).map w++[w i]:=by rw[zmu,bG];rfl
def IY{ef:Bool}(hf:BdL B f)(hl:Lg 100000000 B)(hs:f.length<=1000000)(hφ:gW φ):∀(j i fu:Nat)(V:D)(bs:fQ),i+j=f.length-1->j<fu->AS 3 bs V (rs (zr ((List.range i).map λi=>ei f (i+1)*((i+1:Nat):Int)))) i->
 ∃e,lp vN (l7 φ) fu (pz f ef) V (ni (i+1)) (mem bs)=some (pz (tzI (tZ f)) e)
 |0,i,fu+1,V,bs,h1,h2,h3=>by
  have:i=f.length-1:=eP;subst this;obtain⟨e,he⟩:=W0 (φ:=φ) (l:=tZ f) (by
   have:(tZ f).length=f.length-1:=by unfold tZ;simp
   rw[this];exact h3) (by unfold tZ;simp;omega) eP
  refine⟨e,?_⟩;rw[ep];unfold l7;exact th fY (th (gP eP) (th ez he))
 |j+1,i,fu+1,V,bs,h1,h2,h3=>by
  obtain⟨bs2,X',d1,d2,d3⟩:=ap1 (K:=λx13 s=>f7 (ni (i+1)) ej λx14=>lp vN (l7 φ) fu (pz f ef) x13 x14 s) (bytes:=40) (zero:=[.b false,.n 0,.n 0]) (x:=rc ((ei f (i+1)*((i+1:Nat):Int):Int):Rat)) (new:=rcs ((ei f (i+1)*((i+1:Nat):Int):Int):Rat)) h3 rfl rfl rfl rfl eP eP;have hcs:rs (zr ((List.range i).map λi=>ei f (i+1)*((i+1:Nat):Int)))++rcs ((ei f (i+1)*((i+1:Nat):Int):Int):Rat)=rs (zr ((List.range (i+1)).map λi=>ei f (i+1)*((i+1:Nat):Int))):=by
   rw[KW];unfold zr;rw[bG,M7];rfl
  rw[hcs]at d1;obtain⟨e,he⟩:=IY hf hl hs hφ (ef:=ef) j (i+1) fu X' bs2 eP eP d1;refine⟨e,?_⟩;rw[ep];unfold l7;refine th fY (th (gX eP) (th fG (th (Fu eP) (th (Yi eP) (th (oz (Ka (yi hf hl) (sF (by rw[bJ];exact fM (te (show i+1<=1000000 by omega)) eV)) hφ) rfl) ?_)))));rw[<-dB];exact th d3 (th (gA eP) he)
def vC(hf:BdL B f)(hl:Lg 100000000 B)(hs:f.length<=1000000)(hφ:gW φ):∃e,iP φ [pz f ef]=some (pz (tzI (tZ f)) e):=by
 obtain⟨e,he⟩:=IY (φ:=φ) hf hl hs hφ (ef:=ef) (f.length-1) 0 φ gj [] eP eP AS.nil;refine⟨e,?_⟩;unfold iP;dsimp only[fJ,fV];rw[<-fg];exact he
def B5(h:BdL B l):BdI B l:=λk=>h.get k
def Jg(h:k<f.length):f.drop k=ei f k::f.drop (k+1):=by
 rw[cI h];unfold ei;rw[aB,aE h];rfl
def T2(hf:BdL B f)(hx:x.natAbs<=X)(hX:1<=X)(k:Nat):(pI (f.drop k) x).natAbs<=f.length*B*X^f.length:=by
 have h1:=Dj (B:=B) (l:=f.drop k) hx hX (B5 λa ha=>hf a (ba ha));refine aX h1 ?_;have h2:(f.drop k).length<=f.length:=by rw[bR];omega
 exact ay (aK _ h2) (cM hX h2)
def IR{ef:Bool}(hf:BdL B f)(hl:Lg 100000000 B)(hx:x.natAbs<=X)(hX:1<=X)(hXl:Lg 100000000 X)(hS:Lg 90000000 (f.length*B*X^f.length))(hs:f.length<=1000000)(hφ:gW φ):∀(k fu:Nat)(bs:fQ),k<=f.length->k<fu->bs[0]?=some ⟨rcs (x:Rat),.rw⟩->bs[1]?=some ⟨[.b false,.n 0,.n 0],.rw⟩->bs[2]?=some ⟨rcs ((pI (f.drop k) x:Int):Rat),.rw⟩->
 lp gQ (rv φ) fu (pz f ef) (.ptr 0 0) (.ptr 1 0) (.ptr 2 0) (ix k) (mem bs)=some (rc ((pI f x:Int):Rat))
 |0,fu+1,bs,h1,h2,b0,b1,b2=>by
  rw[a7]at b2;rw[ep];unfold rv;exact th sM (th ez (th (yP b2) (HF b1 rfl)))
 |k+1,fu+1,bs,h1,h2,b0,b1,b2=>by
  have hb:=T2 hf hx hX (k+1);have hz1:Qz KB ((pI (f.drop (k+1)) x:Int):Rat):=sF (fM (iK hS hb) eV);have hzx:Qz KB (x:Rat):=sF (fM (iK hXl hx) eV);have hzm:Qz KB ((pI (f.drop (k+1)) x*x:Int):Rat):=sF (by
   rw[bt];exact fM (mB (iK hS hb) (iK hXl hx)) eV)
  have z6z:pI (f.drop (k+1)) x*x+ei f k=pI (f.drop k) x:=by
   rw[Jg (show k<f.length by omega),sW,eM,Int.add_comm]
  rw[ep];unfold rv;refine th (uS (a:=k) (b:=0) (aJ _)) (th fG (th (yP b2) (th (yP b0) (th (oz (Ka hz1 hzx hφ) rfl) (th (Fu eP) ?_)))));rw[<-dB];refine th (oz (Ws hzm (yi hf hl) hφ) rfl) ?_;rw[<-zmU,z6z];refine th (z2i b2 rfl) (th (ub eP) ?_);exact IR hf hl hx hX hXl hS hs hφ k fu _ eP eP (fc eV b0) (fc eV b1) (aH (fC b2))
def Ys(hf:BdL B f)(hl:Lg 100000000 B)(hx:x.natAbs<=X)(hX:1<=X)(hXl:Lg 100000000 X)(hS:Lg 90000000 (f.length*B*X^f.length))(hs:f.length<=1000000)(hφ:gW φ):qj φ [pz f ef,rc (x:Rat)]=some (rc ((pI f x:Int):Rat)):=by
 have h:=IR (φ:=φ) (ef:=ef) hf hl hx hX hXl hS hs hφ f.length φ ([]++[Blk.mk (rcs (x:Rat)) .rw]++[Blk.mk [.b false,.n 0,.n 0] .rw]++[Blk.mk (rcs 0) .rw]) (aC _) eP rfl rfl (by rw[List.drop_length];rfl);unfold qj;dsimp only[fJ,fV];rw[<-fg];exact th Rk (th vM (th (fX Hi) (th (CO rfl) (th fY (th (ub eP) h)))))
end
section
variable {bs:fQ} {f g:Row} {b:Blk} {i k n m c X nq:Nat} {ex ey er:Bool} {s:LS} {K:fK} {q iv cc:Rat} {φ:Nat} {P:Option D->Prop}
def msG(g:Row)(c:Rat)(k i:Nat)(v:Vec):Vec:=λt=>if k<=t/\t<k+i then v t-c*ent g (t-k)else v t
def z2L{v:Vec}:msG g cc k 0 v=v:=by funext t;unfold msG;rw[aG eP]
def Yv{v:Vec}:msG g 0 k i v=v:=by funext t;unfold msG;split<;>exact z69
def z1k(hm:g.length=m)(hs:n<1000000000)(hφ:gW φ){Q I:D}{v:Vec}(hz:∀i,i<m->Qz KB (v (k+i))/\Qz KB (ent g i)/\Qz KB (cc*ent g i))(hzc:Qz KB cc)(hk:k+m<=n){j39:kT}{q0:Nat}{qv:Row}{kc:Nat}(hq0:q0≠0)(hkc:kc≠0)
 (ip:Nat) (hip:ip≠0) (hR:∀bs r,bs[0]?=some ⟨rs r,.rw⟩->bs[q0]?=some ⟨rs qv,.rw⟩->bs[ip]?=some ⟨rcs iv,.rw⟩->r.length=n->(∀t,t<n->ent r t=msG g cc k m v t)->P (j39 (.tree (rs g) m ey) (.sl 0 0 n n 3 er) (.i .i64 (.ofNat m)) Q I (.i .i64 (.ofNat k)) (mem bs))):
 ∀(t i fu:Nat)(bs:fQ)(r:Row),i+t=m->t<fu->bs[0]?=some ⟨rs r,.rw⟩->bs[q0]?=some ⟨rs qv,.rw⟩->bs[ip]?=some ⟨rcs iv,.rw⟩->bs[kc]?=some ⟨rcs cc,.rw⟩->r.length=n->(∀t,t<n->ent r t=msG g cc k i v t)->
 P (lp tR (qN φ j39) fu (.tree (rs g) m ey) (.sl 0 0 n n 3 er) (.i .i64 (.ofNat m)) Q I (.i .i64 (.ofNat k)) (.ptr kc 0) (.i .i64 (.ofNat m)) (.i .i64 (.ofNat i)) (mem bs)):=by
 intro t
 induction t with
 |zero=>
  intro i fu bs r hi hf h0 hq zb6 zb4 hl hr;obtain⟨fu,rfl⟩:∃q,fu=q+1:=⟨fu-1,eP⟩
  have:i=m:=eP;subst this;rw[ep];unfold qN;rw[gP (bE i),ez];exact hR bs r h0 hq zb6 hl hr
 |succ t ih=>
  intro i fu bs r hi hf h0 hq zb6 zb4 hl hr;obtain⟨fu,rfl⟩:∃q,fu=q+1:=⟨fu-1,eP⟩
  have e1:ent r (k+i)=v (k+i):=by rw[hr _ eP];unfold msG;rw[aG eP]
  obtain⟨z4,z2,z3⟩:=hz i eP;have h1:=ih (i+1) fu (bs.set 0 ⟨rs (r.set (k+i) (v (k+i)-cc*ent g i)),.rw⟩) (r.set (k+i) (v (k+i)-cc*ent g i)) eP eP (by rw[aH (fC h0)]) (fc (Ne.symm hq0) hq) (fc (Ne.symm hip) zb6) (fc (Ne.symm hkc) zb4) (by rw[a8];exact hl) (λt ht=>by
   rw[Je eP];by_cases h:t=k+i
   ·subst h;rw[aF rfl];unfold msG;rw[aF eP,show k+i-k=i by omega]
   ·rw[aG h,hr t ht];unfold msG;by_cases h2:k<=t/\t<k+i
    ·rw[aF h2,aF eP]
    ·rw[aG h2,aG eP])
  rw[ep];unfold qN;refine pm (gX eP) (pm fG (pm (gA eP) (pm (gA eP) (pm (XY h0 rfl rfl eP eP) (pm (yP zb4) (pm (Fv hm eP) (pm (oz (Ka hzc z2 hφ) rfl) ?_)))))));rw[e1];exact pm (oz (z0m z4 z3 hφ) rfl) (pm (Z1 h0 eP eP) (pm (gA eP) h1))
def upV(w:Vec)(k:Nat)(c:Rat):Vec:=λt=>if t=k then c else w t
structure DG (f g:Row) (n m nq:Nat) (iv:Rat) (I:Nat->Vec->Vec->Prop):Prop where
 hn:f.length=n
 hm:g.length=m
 m1:1<=m
 hnm:m<=n
 hq:nq=n-m+1
 hs:n<1000000
 g0:ent g (m-1)≠0
 gi:iv=(ent g (m-1))⁻¹
 qi:Qz KB iv
 st:I nq (ent f) (λ_=>0)
 step:∀k v w,k<nq->I (k+1) v w->Qz KB (v (k+m-1))/\Qz KB (v (k+m-1)*iv)/\(∀i,i<m->Qz KB (v (k+i))/\Qz KB (ent g i)/\Qz KB (v (k+m-1)*iv*ent g i))/\I k (msG g (v (k+m-1)*iv) k m v) (upV w k (v (k+m-1)*iv))
 ext:∀k v v' w w',(∀t,t<n->v t=v' t)->(∀t,t<nq->w t=w' t)->I k v w->I k v' w'
def z1j{I:Nat->Vec->Vec->Prop}(hd:DG f g n m nq iv I)(hφ:gW φ)(hR:∀v w e e',I 0 v w->P (some (.tup [.tree (rs (ib (lst nq w))) (ib (lst nq w)).length e,.tree (rs (ib (lst (m-1) v))) (ib (lst (m-1) v)).length e']))):∀(k fu:Nat)(bs:fQ)(r qv:Row),k<=nq->k<fu->bs[0]?=some ⟨rs r,.rw⟩->bs[1]?=some ⟨rs qv,.rw⟩->bs[2]?=some ⟨rcs iv,.rw⟩->r.length=n->qv.length=nq->I k (ent r) (ent qv)->
 P (lp iH (nu φ) fu (.tree (rs g) m ey) (.sl 0 0 n n 3 er) (.i .i64 (.ofNat m)) (.sl 1 0 nq nq 3 true) (.ptr 2 0) (ix k) (mem bs)):=by
 have hm:=hd.hm;have hs:=hd.hs;have hm1:=hd.m1;have hnm:=hd.hnm;have hq:=hd.hq;intro k
 induction k with
 |zero=>
  intro fu bs r qv hk hf h0 hq' hi hl hql hI;obtain⟨fu,rfl⟩:∃q,fu=q+1:=⟨fu-1,eP⟩
  have e1:qv=lst nq (ent qv):=JV hql λi _=>rfl;have e2:r.take (m-1)=lst (m-1) (ent r):=JV (by rw[aR];omega) λi hi=>by rw[Ux,aF hi]
  obtain⟨e1',h1⟩:=KM (bs:=bs) (k:=1) (c:=nq) (ex:=true) (n:=nq) (φ:=φ) (K:=λx81 s=>fe (.i .i64 (.ofNat m)) ej λx82=>iT 3 s (.sl 0 0 n n 3 er) none (some x82) none λx83 s=>eY (gY φ) [x83] s λx84 s=>fO false s (.tup [x81,x84]) some) hq' (yC hql) rfl hql eP eP;have g0:(bs.set 1 ⟨rs qv,fzS .rw⟩)[0]?=some ⟨rs r,.rw⟩:=fc eP h0;obtain⟨e2',h2⟩:=KM (bs:=bs.set 1 ⟨rs qv,fzS .rw⟩) (k:=0) (c:=n) (ex:=er) (n:=m-1) (l:=r.take (m-1)) (φ:=φ) (K:=λx84 s=>fO false s (.tup [.tree (rs (ib qv)) (ib qv).length e1',x84]) some) g0 (by show(rs r).take ((m-1)*3)=_;exact OW) rfl (by rw[aR];omega) eP eP;have hP:=hR (ent r) (ent qv) e1' e2' hI;rw[<-e1,<-e2]at hP;rw[ep];unfold nu;exact pm sM (pm ez (pm h1 (pm (iJ eP eP) (pm (Ip g0 rfl eP eP) (pm h2 (pm Az hP))))))
 |succ k ih=>
  intro fu bs r qv hk hf h0 hq' hi hl hql hI;obtain⟨fu,rfl⟩:∃q,fu=q+1:=⟨fu-1,eP⟩
  obtain⟨zc,z1,z2,hI'⟩:=hd.step k (ent r) (ent qv) eP hI;have hl1:1<bs.length:=fC hq';have hlen:=fC hi;have z6Y:k+m-1<n:=eP;generalize hcc:ent r (k+m-1)*iv=cc at*;have G0:((bs++[(⟨rcs cc,.rw⟩:Blk)]).set 1 ⟨rs (qv.set k cc),.rw⟩)[0]?=some ⟨rs r,.rw⟩:=fc eP (fW h0);have G1:((bs++[(⟨rcs cc,.rw⟩:Blk)]).set 1 ⟨rs (qv.set k cc),.rw⟩)[1]?=some ⟨rs (qv.set k cc),.rw⟩:=aH (by simp;omega);have G2:((bs++[(⟨rcs cc,.rw⟩:Blk)]).set 1 ⟨rs (qv.set k cc),.rw⟩)[2]?=some ⟨rcs iv,.rw⟩:=fc eP (fW hi);have G3:((bs++[(⟨rcs cc,.rw⟩:Blk)]).set 1 ⟨rs (qv.set k cc),.rw⟩)[bs.length]?=some ⟨rcs cc,.rw⟩:=by rw[bW eP];simp
  have hup:∀t,t<nq->upV (ent qv) k cc t=ent (qv.set k cc) t:=λt ht=>by
   rw[Je eP];rfl
  rw[ep];unfold nu;refine pm (uS (a:=k) (b:=0) (aJ _)) (pm fG (pm sj (pm (gA eP) (pm (iJ eP eP) (pm (XY h0 rfl rfl z6Y eP) (pm (yP hi) (pm (oz (Ka zc hd.qi hφ) rfl) ?_)))))));rw[hcc];refine pm (CO rfl) (pm Qs (pm (Z1 (fW hq') eP eP) (pm (yP G3) (pm (sX AL rfl) ?_))));by_cases hz:cc=0
  ·rw[ac hz];refine pm fG (pm (ub eP) ?_);refine ih fu _ r (qv.set k cc) eP eP G0 G1 G2 hl (by rw[a8];exact hql) (hd.ext _ _ _ _ _ (λt _=>?_) hup hI');rw[hz,Yv]
  ·rw[aU hz];refine pm ez (pm fY ?_);refine z1k (φ:=φ) (iv:=iv) (qv:=qv.set k cc) (v:=ent r) (k:=k) (cc:=cc) hm (show n<1000000000 by omega) hφ (λi hi=>z2 i hi) z1 eP (q0:=1) eP (kc:=bs.length) eP 2 eP (λbs' r' a0 a1 a2 al ar=>?_) m 0 φ _ r eP eP G0 G1 G2 G3 hl (λt _=>by rw[z2L]);refine pm (ub eP) ?_;exact ih fu bs' r' (qv.set k cc) eP eP a0 a1 a2 al (by rw[a8];exact hql) (hd.ext _ _ _ _ _ (λt ht=>(ar t ht).symm) hup hI')
def dvG{I:Nat->Vec->Vec->Prop}(hd:DG f g n m nq iv I)(hφ:gW φ):∃v w e e',I 0 v w/\gO φ [.tree (rs f) n ex,.tree (rs g) m ey]=some (.tup [.tree (rs (ib (lst nq w))) (ib (lst nq w)).length e,.tree (rs (ib (lst (m-1) v))) (ib (lst (m-1) v)).length e']):=by
 have hm:=hd.hm;have hs:=hd.hs;have hm1:=hd.m1;have hnm:=hd.hnm;have hq:=hd.hq;have zfc:f≠[]:=λe=>by have:=hd.hn;subst e;simp at this;omega
 suffices hh:∀P:Option D->Prop,(∀v w e e',I 0 v w->P (some (.tup [.tree (rs (ib (lst nq w))) (ib (lst nq w)).length e,.tree (rs (ib (lst (m-1) v))) (ib (lst (m-1) v)).length e'])))->P (gO φ [.tree (rs f) n ex,.tree (rs g) m ey])from
  hh (λo=>∃v w e e',I 0 v w/\o=some (.tup [.tree (rs (ib (lst nq w))) (ib (lst nq w)).length e,.tree (rs (ib (lst (m-1) v))) (ib (lst (m-1) v)).length e'])) λv w e e' h=>⟨v,w,e,e',h,rfl⟩
 intro P hR;have zf0:=VQ (φ:=φ) (n':=n) (n:=nq) (b:=⟨rs f,.rw⟩) (F:=.tree (rs f) n ex) (X:=.tree (rs g) m ey) (mm:=.i .i64 (.ofNat m)) (P:=P) eP (λbs h0 h1 hl=>by
  have G0:(bs++[(⟨rcs iv,.rw⟩:Blk)])[0]?=some ⟨rs f,.rw⟩:=fW h0;have G1:(bs++[(⟨rcs iv,.rw⟩:Blk)])[1]?=some ⟨rs (lst nq λ_=>0),.rw⟩:=fW h1;have G2:(bs++[(⟨rcs iv,.rw⟩:Blk)])[2]?=some ⟨rcs iv,.rw⟩:=by rw[<-hl];simp
  have hst:I nq (ent f) (ent (lst nq λ_=>0)):=hd.ext _ _ _ _ _ (λt _=>rfl) (λt ht=>by rw[CW,aF ht]) hd.st;refine pm (iJ eP eP) (pm (Fv hm eP) (pm (sX (CC hd.g0) rfl) ?_));rw[<-hd.gi];refine pm (CO rfl) (pm fY (pm (iJ eP eP) ?_));rw[hl];have:=z1j (P:=P) (φ:=φ) (ey:=ey) (er:=false) hd hφ hR nq φ (bs++[(⟨rcs iv,.rw⟩:Blk)]) f (lst nq λ_=>0) (aC _) eP G0 G1 G2 hd.hn uo hst;have e:ix nq=.i .i64 (.ofNat (n-m)):=by rw[hq];rfl
  rw[e]at this;exact this) nq 0 φ [⟨rs f,.rw⟩,⟨fl3 [] nq,.rw⟩] eP eP rfl rfl rfl
 refine pm ?_ zf0;unfold gO;dsimp only[fJ,fV];rw[<-fg];refine th (PL (z0q (φ:=φ) (ex:=ex) hd.hn zfc eP)) ?_;rw[rH,mP];refine th fY (th fY (th (gP eP) (th ez (th fY (th (iJ eP eP) (th (gA eP) (th (BI rfl eP eP) (th vq ?_))))))));rw[IN,<-hq];rfl
end
section
variable {f l:fZ} {b:Blk} {i k n B:Nat} {ex ey:Bool} {φ:Nat} {a:Int} {v w:Vec} {u:Nat->Int}
def z0X:(1:Rat)⁻¹ =1:=by(have:=zn5 1 eV;rwa[dz]at this)
def lg0:Lg k (0:Int).natAbs:=by show Nat.log2 0<=_;rw[show Nat.log2 0=0 from by decide];exact aJ _
def lg1:Lg k (1:Int).natAbs:=by show Nat.log2 1<=_;rw[show Nat.log2 1=0 from by decide];exact aJ _
def qz1:Qz KB 1:=sF (z:=1) lg1
def qz0:Qz KB 0:=sF (z:=0) lg0
def AN(h:∀t,t<n->w t=((u t:Int):Rat)):ib (lst n w)=zr (tzI ((List.range n).map u)):=by
 have:lst n w=lst n (λt=>((u t:Int):Rat)):=by
  unfold lst;exact cz λt ht=>h t (dp.1 ht)
 rw[this,Rz,AD]
def Hj{R:Row}(h:R=zr l):∀e,D.tree (rs R) R.length e=pz l e:=λe=>by subst h;unfold pz;rw[nK]
def FN:(List.range f.length).map (ei f)=f:=by
 refine cr fU λk h1 h2=>?_;rw[cZ,cn];unfold ei;rw[aB,aE h2];rfl
def OD(h:∀i,ei l i=0):tzI l=[]:=aZ (zno.1 (EY λk _=>h k))
def Pm(hl:BdL B l)(hB:Lg 100000000 B)(h0:0<l.length)(hs:l.length<=100000)(hφ:gW φ):∃e e',gO φ [pz l ex,pz [1] ey]=some (.tup [pz (tzI l) e,pz [] e']):=by
 have h11:ent (zr [1]) (1-1)=1:=rfl;have hd:DG (zr l) (zr [1]) l.length 1 l.length 1 (λk v w=>(∀t,t<k->t<l.length->v t=((ei l t:Int):Rat))/\∀t,k<=t->t<l.length->w t=((ei l t:Int):Rat)):=by
  refine⟨nK,rfl,aC 1,h0,eP,eP,by rw[h11];decide,by rw[h11,z0X],qz1,⟨λt _ _=>qk,λt h1 h2=>eP⟩,λk v w hk hI=>?_,λk v v' w w' h1 h2 hI=>⟨λt a b=>by rw[<-h1 t b];exact hI.1 t a b,λt a b=>by rw[<-h2 t b];exact hI.2 t a b⟩⟩;have hv:v (k+1-1)=((ei l k:Int):Rat):=hI.1 k eP hk;have hq:=yi (i:=k) hl hB;rw[hv,dz];refine⟨hq,hq,λi hi=>?_,λt h1 h2=>?_,λt h1 h2=>?_⟩
  ·have:i=0:=eP;subst this;have e1:ent (zr [1]) 0=1:=rfl;rw[e1,dz,show v (k+0)=((ei l k:Int):Rat)from hv];exact⟨hq,qz1,hq⟩
  ·unfold msG;rw[aG eP];exact hI.1 t eP h2
  ·unfold upV;by_cases e:t=k
   ·rw[aF e,e]
   ·rw[aG e];exact hI.2 t eP h2
 obtain⟨v,w,e,e',hI,he⟩:=dvG (ex:=ex) (ey:=ey) hd hφ;refine⟨e,e',he.trans ?_⟩;have h1:ib (lst l.length w)=zr (tzI l):=by
  have:=AN (n:=l.length) (w:=w) (u:=ei l) λt ht=>hI.2 t (aJ _) ht;rw[this,FN]
 rw[Hj h1,Hj (l:=[]) (R:=ib (lst (1-1) v)) rfl]
def VH(hf:BdL B f)(hB:Lg 100000000 B)(h0:0<f.length)(h1:ei f (f.length-1)=1)(hs:f.length<=100000)(hφ:gW φ):∃e e',gO φ [pz f ex,pz f ey]=some (.tup [pz [1] e,pz [] e']):=by
 have hg:ent (zr f) (f.length-1)=1:=by rw[qk,h1];rfl
 have hd:DG (zr f) (zr f) f.length f.length 1 1 (λk v w=>if k=0 then(∀t,t<f.length->v t=0)/\w 0=1 else ∀t,t<f.length->v t=((ei f t:Int):Rat)):=by
  refine⟨nK,nK,h0,aC _,eP,eP,by rw[hg];decide,by rw[hg,z0X],qz1,?_,λk v w hk hI=>?_,λk v v' w w' h1 h2 hI=>?_⟩
  ·rw[aG eV];exact λt _=>qk
  ·have:k=0:=eP;subst this;rw[aG eV]at hI;have hv:v (0+f.length-1)=1:=by
    rw[show 0+f.length-1=f.length-1 by omega,hI _ eP,h1];rfl
   rw[hv,dz];refine⟨qz1,qz1,λi hi=>?_,?_⟩
   ·rw[aN,hI i hi,zns,qk];exact⟨yi hf hB,yi hf hB,yi hf hB⟩
   ·rw[aF rfl];refine⟨λt ht=>?_,rfl⟩;unfold msG;rw[aF eP,hI t ht,zne,qk,zns,Rat.sub_self]
  ·by_cases hk:k=0
   ·subst hk;rw[aF rfl]at hI ⊢;exact⟨λt ht=>by rw[<-h1 t ht];exact hI.1 t ht,by rw[<-h2 0 eV];exact hI.2⟩
   ·rw[aG hk]at hI ⊢;exact λt ht=>by rw[<-h1 t ht];exact hI t ht
 obtain⟨v,w,e,e',hI,he⟩:=dvG (ex:=ex) (ey:=ey) hd hφ;rw[aF rfl]at hI;refine⟨e,e',he.trans ?_⟩;have e1:ib (lst 1 w)=zr [1]:=by
  have:=AN (n:=1) (w:=w) (u:=λ_=>1) λt ht=>by
   have:t=0:=eP;subst this;exact hI.2
  rw[this];rfl
 have e2:ib (lst (f.length-1) v)=zr []:=AM λi=>by
  rw[CW];split
  ·exact hI.1 i eP
  ·rfl
 rw[Hj e1,Hj e2]
def z3e(h0:0<f.length){e:Bool}:gO φ [pz [] e,pz f ey]=some (.tup [pz [] true,pz [] true]):=by
 unfold gO;dsimp only[fJ,fV];rw[<-fg];exact th (fX (r:=.tree [] 0 true) rfl) (th fY (th fY (th (gX h0) (th fG Az))))
structure XA (n:Nat) (a:Int) (f:fZ):Prop where
 len:f.length=n+1
 top:ei f n=1
 bot:ei f 0=a
 mid:∀k,0<k->k<n->ei f k=0
 n2:2<=n
 n9:n<=1000
def XA.der(h:XA n a f):tzI (tZ f)=tZ f/\(tZ f).length=n/\∀i,ei (tZ f) i=if i=n-1 then(n:Int)else 0:=by
 have hl:(tZ f).length=n:=by unfold tZ;rw[aj,zna,h.len];rfl
 have he:∀i,ei (tZ f) i=if i=n-1 then(n:Int)else 0:=λi=>by
  rw[YS,h.len];have hn2:=h.n2;by_cases e:i=n-1
  ·rw[aF eP,aF e,show i+1=n by omega,h.top,Int.one_mul]
  ·rw[aG e];split
   ·rw[h.mid (i+1) eP eP,zni]
   ·rfl
 refine⟨t5 λd hd=>?_,hl,he⟩;have hn2:=h.n2;rw[he,aF eP];omega
def qzN(h:n<=1000000):Qz KB (((n:Nat):Int):Rat):=sF (by rw[bJ];exact fM (te h) eV)
def z2v(h:0<n):(((n:Nat):Int):Rat)≠0:=λe=>by
 rw[<-dO,dx]at e;omega
def z3f(h:XA n a f)(ha:Lg 100000000 a.natAbs)(ha0:a≠0)(hφ:gW φ):∃cs nn e e',gO φ [pz f ex,pz (tZ f) ey]=some (.tup [.tree cs nn e,pz [a] e']):=by
 obtain⟨d1,d2,d3⟩:=h.der;have hn2:=h.n2;have hn9:=h.n9;have hN0:(((n:Nat):Int):Rat)≠0:=z2v eP;have hqn:Qz KB (((n:Nat):Int):Rat):=qzN eP;have hgn:ent (zr (tZ f)) (n-1)=(((n:Nat):Int):Rat):=by rw[qk,d3,aF rfl]
 have hqa:Qz KB ((a:Int):Rat):=sF (fM ha eV);have hd:DG (zr f) (zr (tZ f)) (n+1) n 2 (((n:Nat):Int):Rat)⁻¹ (λk v w=>if 2<=k then ∀t,t<n+1->v t=((ei f t:Int):Rat)else ∀t,t<n+1->v t=(((if t=0 then a else 0:Int)):Rat)):=by
  refine⟨by rw[nK];exact h.len,by rw[nK];exact d2,eP,eP,eP,eP,by rw[hgn];exact hN0,by rw[hgn],Me hqn,?_,λk v w hk hI=>?_,λk v v' w w' h1 h2 hI=>?_⟩
  ·rw[aF eV];exact λt _=>qk
  ·have hk2:k=0\/k=1:=eP;rcases hk2 with rfl|rfl
   ·rw[aG eV]at hI;have hv:v (0+n-1)=0:=by rw[hI _ eP,aG eP];rfl
    rw[hv,Rat.zero_mul,Yv,aG eV];refine⟨qz0,qz0,λi hi=>?_,hI⟩;rw[Rat.zero_mul,aN,hI i eP,qk,d3];refine⟨?_,?_,qz0⟩
    ·split
     ·exact hqa
     ·exact qz0
    ·split
     ·exact hqn
     ·exact qz0
   ·rw[aF eV]at hI;have hv:v (1+n-1)=1:=by rw[show 1+n-1=n by omega,hI _ eP,h.top];rfl
    rw[hv,zns,aG eV];have z6D:∀i,(((n:Nat):Int):Rat)⁻¹ *ent (zr (tZ f)) i=if i=n-1 then 1 else 0:=λi=>by
     rw[qk,d3];split
     ·exact zn5 _ hN0
     ·show _*(0:Rat)=0;rw[Rat.mul_zero]
    have z6F:∀t,t<n+1->v t=(((if t=0 then a else if t=n then 1 else 0:Int)):Rat):=λt ht=>by
     rw[hI t ht];congr 1;by_cases e0:t=0
     ·rw[aF e0,e0,h.bot]
     ·rw[aG e0];by_cases e1:t=n
      ·rw[aF e1,e1,h.top]
      ·rw[aG e1,h.mid t eP eP]
    refine⟨qz1,Me hqn,λi hi=>?_,λt ht=>?_⟩
    ·rw[z6D,z6F _ eP,aG eP,qk,d3];refine⟨?_,?_,?_⟩
     ·split
      ·exact qz1
      ·exact qz0
     ·split
      ·exact hqn
      ·exact qz0
     ·split
      ·exact qz1
      ·exact qz0
    ·unfold msG;by_cases e0:t=0
     ·rw[aG eP,z6F t ht,aF e0,aF e0]
     ·rw[aF eP,z6D,z6F t ht,aG e0,aG e0];by_cases e1:t=n
      ·rw[aF e1,aF eP];exact Rat.sub_self
      ·rw[aG e1,aG eP];exact Rat.sub_self
  ·by_cases hk:2<=k
   ·rw[aF hk]at hI ⊢;exact λt ht=>by rw[<-h1 t ht];exact hI t ht
   ·rw[aG hk]at hI ⊢;exact λt ht=>by rw[<-h1 t ht];exact hI t ht
 obtain⟨v,w,e,e',hI,he⟩:=dvG (ex:=ex) (ey:=ey) hd hφ;rw[aG eV]at hI;have e2:ib (lst (n-1) v)=zr [a]:=by
  rw[AN (u:=λt=>if t=0 then a else 0) λt ht=>hI t eP];congr 1;rw[OJ (h:=1) (by simp;omega) (λk hk=>by
   rw[ue];split
   ·rw[aG eP]
   ·rfl) (Or.inr (by rw[ue,aF eP,aF rfl];exact ha0))]
  obtain⟨d,hd⟩:∃d,n-1=d+1:=⟨n-2,eP⟩
  rw[hd,List.range_succ_eq_map,cC,cb];rfl
 refine⟨rs (ib (lst 2 w)),(ib (lst 2 w)).length,e,e',?_⟩;rw[<-Hj e2];unfold pz;rw[h.len,d2];exact he
end
section
variable {bs:fQ} {f g l:fZ} {i k n c B w:Nat} {ex ef eg ey:Bool} {s:LS} {K:fK} {φ:Nat} {a:Int} {cs:fN}
def bd1:BdL 1 [1]:=λx hx=>by
 have:x=1:=by simpa using hx
 subst this;decide
def Qp:Lg 100000000 1:=by show Nat.log2 1<=_;rw[show Nat.log2 1=0 from by decide];exact aJ _
def PU(hf:BdL B f)(hB:Lg 100000000 B)(h0:0<f.length)(h1:ei f (f.length-1)=1)(hs:f.length<=100000)(hφ:gW φ){e:Bool}:∃e',lp li (jl φ) (w+1) (pz f ef) (pz [] e) s=some (pz f e'):=by
 obtain⟨e',he⟩:=JL (φ:=φ) (ef:=ef) hf hB h0 h1 eP hφ;refine⟨e',?_⟩;rw[ep];unfold jl;exact th fY (th (qw eV) (th ez (th (fX he) jV)))
def z2F(hf:BdL B f)(hB:Lg 100000000 B)(h0:0<f.length)(h1:ei f (f.length-1)=1)(hs:f.length<=100000)(hφ:gW φ){e:Bool}:∃e',mM φ [pz f ef,pz [] e]=some (pz f e'):=by
 obtain⟨ψ,hψ⟩:∃ψ,φ=ψ+1:=⟨φ-1,eP⟩
 have hlp:lp li (jl φ) φ=lp li (jl φ) (ψ+1):=by rw[<-hψ]
 obtain⟨e',he⟩:=PU (φ:=φ) (w:=ψ) (s:=mem []) (ef:=ef) hf hB h0 h1 hs hφ (e:=e);refine⟨e',?_⟩;unfold mM;dsimp only[fJ,fV];rw[<-fg,hlp];exact he
def XA.bd(h:XA n a f):BdL (a.natAbs+1) f:=λx hx=>by
 obtain⟨k,hk,rfl⟩:=zmr hx;have hg:ei f k=f[k]:=by
  unfold ei;rw[aB,aE hk];rfl
 rw[<-hg];have hlen:=h.len;by_cases h0:k=0
 ·rw[h0,h.bot];omega
 ·by_cases h1:k=n
  ·rw[h1,h.top];omega
  ·rw[h.mid k eP eP];omega
def Jj(h:XA n a f):BdL n (tZ f):=λx hx=>by
 obtain⟨_,d2,d3⟩:=h.der;obtain⟨k,hk,rfl⟩:=zmr hx;have hg:ei (tZ f) k=(tZ f)[k]:=by
  unfold ei;rw[aB,aE hk];rfl
 rw[<-hg,d3];split<;>omega
def JN(h:XA n a f)(ha:Lg 1000 a.natAbs)(ha0:a≠0)(hφ:gW φ):∃e',mM φ [pz f ef,pz (tZ f) eg]=some (pz [1] e'):=by
 obtain⟨ψ,hψ⟩:∃ψ,φ=ψ+1+1+1:=⟨φ-3,eP⟩
 have hlp:lp li (jl φ) φ=lp li (jl φ) (ψ+1+1+1):=by rw[<-hψ]
 obtain⟨d1,d2,d3⟩:=h.der;have hn2:=h.n2;have hn9:=h.n9;have hln:Lg 100000000 n:=fM (te (show n<=1000000 by omega)) eV;obtain⟨csA,nA,eQ,eA,hA⟩:=z3f (φ:=φ) (ex:=ef) (ey:=eg) h (fM ha eV) ha0 hφ;obtain⟨e1,hm1⟩:=Mu (φ:=φ) (ef:=eg) (f:=tZ f) (v:=λi=>if i=n-1 then 1 else 0) (Jj h) hln eP (by rw[d2,d3,aF rfl];omega) (λi hi=>by
  rw[d3,d2,d3,aF rfl];show _=_*(if i=n-1 then(1:Int)else 0);split
  ·rw[eC]
  ·rw[zmX]) eP hφ
 rw[d2]at hm1;have hxe:∀i,ei (tzI ((List.range n).map λi=>if i=n-1 then(1:Int)else 0)) i=if i=n-1 then 1 else 0:=λi=>by
  rw[wU,ue];split
  ·rfl
  ·rw[aG eP]
 have hxl:(tzI ((List.range n).map λi=>if i=n-1 then(1:Int)else 0)).length=n:=by
  have h1:(tzI ((List.range n).map λi=>if i=n-1 then(1:Int)else 0)).length<=n:=aX zL fU;rcases aY (n-1) (tzI ((List.range n).map λi=>if i=n-1 then(1:Int)else 0)).length with h2|h2
  ·omega
  ·have:=hxe (n-1);rw[jr h2,aF rfl]at this;omega
 generalize tzI ((List.range n).map λi=>if i=n-1 then(1:Int)else 0)=xm at*;have hxb:BdL 1 xm:=λx hx=>by
  obtain⟨k,hk,rfl⟩:=zmr hx;have hg:ei xm k=xm[k]:=by
   unfold ei;rw[aB,aE hk];rfl
  rw[<-hg,hxe];split<;>decide
 have hab:BdL a.natAbs [a]:=λx hx=>by
  have:x=a:=by simpa using hx
  subst this;exact aC _
 obtain⟨e2,hm2⟩:=Mu (φ:=φ) (ef:=eA) (f:=[a]) (v:=λ_=>1) hab (fM ha eV) (cD 0) (show a≠0 from ha0) (λi hi=>by
  have:i=0:=by simpa using hi
  subst this;show a=a*1;omega) (show 1<=1000000 by decide) hφ
 have hm2:jg φ [pz [a] eA]=some (pz [1] e2):=hm2;obtain⟨e3,e4,hB⟩:=Pm (φ:=φ) (ex:=e1) (ey:=e2) (l:=xm) hxb Qp eP eP hφ;obtain⟨e5,hm3⟩:=JL (φ:=φ) (ef:=e2) bd1 Qp (cD 0) rfl eV hφ;obtain⟨e6,z75⟩:=PU (φ:=φ) (w:=ψ) (s:=mem []) (ef:=e5) (e:=true) bd1 Qp (cD 0) rfl eV hφ;have h2:lp li (jl φ) (ψ+1+1) (pz xm e1) (pz [1] e2) (mem [])=some (pz [1] e6):=by
  rw[ep];unfold jl;exact th fY (th (oG (cD 0)) (th fG (th (fX hB) (th iG (th iF (th (fX hm3) (th (fX Mt) z75)))))))
 refine⟨e6,?_⟩;unfold mM;dsimp only[fJ,fV];rw[<-fg,hlp,ep];unfold jl;exact th fY (th (oG (show 0<(tZ f).length by omega)) (th fG (th (fX hA) (th iG (th iF (th (fX hm1) (th (fX hm2) h2)))))))
def XA.tz(h:XA n a f):tzI f=f:=t5 λd hd=>by
 have hl:=h.len;rw[show d=n by omega,h.top];decide
def XA.top'(h:XA n a f):ei f (f.length-1)=1:=by rw[h.len];exact h.top
def T1(h:XA n a f)(ha:Lg 1000 a.natAbs)(ha0:a≠0)(hφ:gW φ):∃e',pi φ [pz f ef]=some (pz f e'):=by
 have hn9:=h.n9;have hl:=h.len;have hB:Lg 100000000 (a.natAbs+1):=fM (tf ha (show Lg 1000 1 by show Nat.log2 1<=_;rw[show Nat.log2 1=0 from by decide];exact aJ _)) eV;obtain⟨e1,h1⟩:=vC (φ:=φ) (ef:=ef) h.bd hB eP hφ;rw[h.der.1]at h1;obtain⟨e2,h2⟩:=JN (φ:=φ) (ef:=ef) (eg:=e1) h ha ha0 hφ;obtain⟨e3,e4,h3⟩:=Pm (φ:=φ) (ex:=ef) (ey:=e2) h.bd hB eP eP hφ;rw[h.tz]at h3;obtain⟨e5,h5⟩:=JL (φ:=φ) (ef:=e3) h.bd hB eP h.top' eP hφ;refine⟨e5,?_⟩;unfold pi;dsimp only[fJ,fV];exact th (fX h1) (th (fX h2) (th (fX h3) (th iG (th iF (th (fX h5) jV)))))
def TA{z:Nat}(hb:bs[k]?=some ⟨cs,.rw⟩)(hn:cs.length=n*z)(hr:∀g:Nat->Option Blk,i8 (res g 59) cs=some (cs,[])):∃e,fO false (mem bs) (.sl k 0 n c z ex) some=some (.tree cs n e):=by
 refine⟨ex&&c==n,?_⟩;unfold fO;rw[lJ];show sk (lf false (mem bs).get gJ (.sl k 0 n c z ex)) some=_;have z6f:cut 0 (n*z) cs=some cs:=by
  unfold cut;rw[a7,aP eP,aF eP]
 have h1:=wx (g:=(mem bs).get) (n:=59) (l:=k) (off:=0) (len:=n) (cm:=c) (z:=z) (ex:=ex) (r:=cs) (cs:=cs) (ls:=[]) (by rw[mK];exact hb) rfl z6f (hr _);have:lf false (mem bs).get gJ (.sl k 0 n c z ex)=some (.tree cs n (ex&&c==n)):=by
  show(match yF (res (mem bs).get 60 (.sl k 0 n c z ex))with
   |some (d,o,ls)=>if o.all λl=> !ls.contains l then some d else none
   |none=>none)=_
  rw[h1];rfl
 rw[this,gc];rfl
def In:tzI (y3 (-1) f f)=[]:=OD λi=>by rw[zf];omega
def Ig(h:XA n a f)(ha:Lg 1000 a.natAbs)(ha0:a≠0)(hφ:gW φ):∃e1 e2,qY φ [pz f ef]=some (.tree [pz f e1,ni 1] 1 e2):=by
 have hn9:=h.n9;have hn2:=h.n2;have hl:=h.len;obtain⟨d1,d2,d3⟩:=h.der;have hB:Lg 100000000 (a.natAbs+1):=fM (tf ha (show Lg 1000 1 by show Nat.log2 1<=_;rw[show Nat.log2 1=0 from by decide];exact aJ _)) eV;have hln:Lg 100000000 n:=fM (te (show n<=1000000 by omega)) eV;obtain⟨e1,h1⟩:=vC (φ:=φ) (ef:=ef) h.bd hB eP hφ;rw[d1]at h1;obtain⟨e2,h2⟩:=JN (φ:=φ) (ef:=ef) (eg:=e1) h ha ha0 hφ;obtain⟨e3,e4,h3⟩:=Pm (φ:=φ) (ex:=ef) (ey:=e2) h.bd hB eP eP hφ;rw[h.tz]at h3;obtain⟨e5,e6,h5⟩:=Pm (φ:=φ) (ex:=e1) (ey:=e2) (Jj h) hln eP eP hφ;rw[d1]at h5;obtain⟨e7,h7⟩:=vC (φ:=φ) (ef:=e3) h.bd hB eP hφ;rw[d1]at h7;obtain⟨e8,h8⟩:=z0v (φ:=φ) (ef:=e5) (eg:=e7) (Jj h) (Jj h) hln eP eP hφ;rw[In]at h8;obtain⟨e9,h9⟩:=z2F (φ:=φ) (ef:=e3) (e:=e8) h.bd hB eP h.top' eP hφ;obtain⟨e10,e11,h10⟩:=VH (φ:=φ) (ex:=e3) (ey:=e9) h.bd hB eP h.top' eP hφ;have h11:=z3e (φ:=φ) (ey:=e9) (f:=f) eP (e:=e8);obtain⟨e12,h12⟩:=vC (φ:=φ) (ef:=e10) bd1 Qp eV hφ;have h12:iP φ [pz [1] e10]=some (pz [] e12):=h12;obtain⟨e13,h13⟩:=z0v (φ:=φ) (ef:=true) (eg:=e12) (B:=1) (f:=[]) (g:=[]) (λx hx=>by cases hx) (λx hx=>by cases hx) Qp eV eV hφ;have h13:lZ φ [pz [] true,pz [] e12]=some (pz [] e13):=h13;obtain⟨ψ,hψ⟩:∃ψ,φ=ψ+1+1:=⟨φ-2,eP⟩
 have hlp:lp jc (kX φ) φ=lp jc (kX φ) (ψ+1+1):=by rw[<-hψ]
 obtain⟨bs2,X',c1,c2,c3⟩:=ap1 (K:=λx39 s=>eY (gO φ) [pz f e3,pz f e9] s λx26 s=>gB x26 0 s λx27 s=>gB x26 1 s λx28 s=>eY (gO φ) [pz [] e8,pz f e9] s λx29 s=>gB x29 0 s λx30 s=>gB x29 1 s λx31 s=>eY (iP φ) [x27] s λx32 s=>eY (lZ φ) [x30,x32] s λx33 s=>f7 (ni 1) ej λx34=>lp jc (kX φ) (ψ+1) x39 x27 x33 x34 s) (bytes:=32) (zero:=[.tree [] 0 true,fB]) (x:=.agg [pz f e9,ni 1]) (new:=[pz f e9,ni 1]) (AS.nil (z:=2) (bs:=[])) rfl rfl rfl rfl eV eV;obtain⟨l,f1,f2⟩:=ug c1 eV;subst f1;obtain⟨e14,h14⟩:=TA (k:=l) (c:=1) (ex:=false) (n:=1) (z:=2) f2 rfl λg=>rfl;refine⟨e9,e14,?_⟩;have hb:∀(s:LS)(K:fK),gf [.tree [] 0 true,fB] [(0,1,pz f e9),(1,1,ni 1)] s K=K (.agg [pz f e9,ni 1]) s:=λs K=>rfl;have z85:lp jc (kX φ) (ψ+1) (.sl l 0 1 1 2 false) (pz [1] e10) (pz [] e13) (ni 2) (mem bs2)=some (.tree [pz f e9,ni 1] 1 e14):=by
  rw[ep];unfold kX;exact th fY (th (qw eV) (th ez h14))
 unfold qY;dsimp only[fJ,fV];rw[<-fg];refine th (fX h1) (th (fX h2) (th (fX h3) (th iG (th iF (th (fX h5) (th iG (th iF (th (fX h7) (th (fX h8) ?_)))))))));rw[hlp,ep];unfold kX;refine th fY (th (oG (show 1<f.length by omega)) (th fG (th (fX h9) (th sj (th fY (th (oG (show 1<f.length by omega)) (th fG (th (hb _ _) (th c3 ?_)))))))));exact th (fX h10) (th iG (th iF (th (fX h11) (th iG (th iF (th (fX h12) (th (fX h13) (th (gA eV) z85))))))))
end
section
variable {bs:fQ} {f g l:fZ} {b:Blk} {i j k n c B:Nat} {ex ef:Bool} {s:LS} {K:fK} {kk:fK} {φ:Nat} {a z:Int} {cs:fN} {V:D}
def O4:rcs ((z:Int):Rat)=[.b (decide (z<0)),.n z.natAbs,.n 1]:=by
 unfold rcs;rw[znm,znn]
def fq2(hb:bs[k]?=some ⟨rcs ((z:Int):Rat),.rw⟩):(fF 2 (mem bs) (.ptr k 0) λa s=>eR s a K)=K (.n 1) (mem bs):=by
 rw[O4]at hb;refine th qm ?_;rw[hb,jY];show cnd true _ none=_;rw[fH];exact vp hb rfl rfl
def fq0(hb:bs[k]?=some ⟨rcs ((z:Int):Rat),.rw⟩):(fF 0 (mem bs) (.ptr k 0) λa s=>eW 2 s a K)=K (itz z) (mem bs):=by
 rw[O4]at hb;refine th qm ?_;rw[hb,jY];show cnd true _ none=_;rw[fH];exact zZ hb rfl (by show 0+2<=3;decide)
def kb1:gf [.b false,.n 0] [(1,1,.n 1)] s K=K (itz 1) s:=rfl
def KH(hB:BdL B f)(hBl:Lg 100000000 B)(hs:f.length<=1000000)(h0:0<f.length)(ht:ei f (f.length-1)=1)(hφ:gW φ){ef:Bool}:∀(j i fu:Nat)(bs:fQ),i+j=f.length->j<fu->bs[0]?=some ⟨zcs 1,.rw⟩->∀k0,k0≠0->bs[k0]?=some ⟨zs (w9 (λi=>ei f i) i j),.rw⟩->
 ∃e,lp gQ (uw φ) fu (.ptr 0 0) (.sl k0 0 f.length f.length 2 true) (pz f ef) (ni f.length) (ni i) (mem bs)=some (zn f e)
 |0,i,fu+1,bs,h1,h2,b0,k0,hk,b1=>by
  have:i=f.length:=eP;subst this;rw[Ce,FN]at b1;obtain⟨e1,av⟩:=Ro (c:=f.length) (ex:=true) b1 rfl rfl;obtain⟨e2,he⟩:=Bh (φ:=φ) (f:=f) hB (fM hBl eV) hs h0 ht hφ (e:=e1);obtain⟨bs',c1,c2,c3⟩:=xY (AVL.cons av AVL.nil) (λk hk=>by
   have:k=k0:=by simpa using hk
   subst this;exact fC b1) he
  refine⟨e2,?_⟩;rw[ep];unfold uw;exact th (gP eP) (th ez (th (c3 _) jV))
 |j+1,i,fu+1,bs,h1,h2,b0,k0,hk,b1=>by
  let b2:fQ:=bs++[Blk.mk (rcs ((ei f i:Int):Rat)) .rw]++[Blk.mk (zcs 1) .rw]++[Blk.mk (zcs 0) .rw]
  have g1:b2[k0]?=some ⟨zs (w9 (λi=>ei f i) i (j+1)),.rw⟩:=fW (fW (fW b1));have g0:b2[0]?=some ⟨zcs 1,.rw⟩:=fW (fW (fW b0));have gr:b2[bs.length]?=some ⟨rcs ((ei f i:Int):Rat),.rw⟩:=fW (fW fU);have gq:b2[bs.length+1]?=some ⟨zcs 1,.rw⟩:=fW (by rw[aM fU];simp);obtain⟨e,he⟩:=KH hB hBl hs h0 ht hφ (ef:=ef) j (i+1) fu (b2.set k0 ⟨zs (w9 (λi=>ei f i) (i+1) j),.rw⟩) eP eP (fc hk g0) k0 hk (aH (fC g1));refine⟨e,?_⟩;rw[ep];unfold uw;refine th (gX eP) (th fG (th (Fu eP) (th (CO rfl) (th (ld2 (st:=.rw) (fW b0) rfl) (th (fq2 (z:=ei f i) fU) (th kb1 (th (iDM HJ HJ eV hφ) (th iG (th iF (th (Ju rfl) ?_))))))))));have e1:(bs++[Blk.mk (rcs ((ei f i:Int):Rat)) .rw]).length=bs.length+1:=by simp
  rw[e1];refine th (fq0 gr) (th (ld2 (st:=.rw) gq rfl) (th (DZ (fM (iK hBl (hB.get i)) eV) (fM HJ eV)) ?_));rw[eC];exact th (wrf (v:=λi=>ei f i) g1 eP) (th (gA eP) he)
def KG(hB:BdL B f)(hBl:Lg 100000000 B)(hs:f.length<=1000000)(h0:0<f.length)(ht:ei f (f.length-1)=1)(hφ:gW φ){ef:Bool}:∀(j i fu:Nat)(bs:fQ),i+j=f.length->j<fu->bs[0]?=some ⟨zcs 1,.rw⟩->
 ∃e,lp gQ (uv φ) fu (pz f ef) (.ptr 0 0) (pz f ef) (ni f.length) (ni i) (mem bs)=some (zn f e)
 |0,i,fu+1,bs,h1,h2,b0=>by
  have:i=f.length:=eP;subst this;have hl0:=fC b0;obtain⟨e,he⟩:=KH (φ:=φ) hB hBl hs h0 ht hφ (ef:=ef) f.length 0 φ (bs++[Blk.mk (zs (List.replicate f.length 0)) .rw]) eP eP (fW b0) bs.length eP (by rw[Jb];simp);refine⟨e,?_⟩;rw[ep];unfold uv;exact th (gP eP) (th ez (th fY (th (mkz eP) (th fY he))))
 |j+1,i,fu+1,bs,h1,h2,b0=>by
  have hK1:Lg KA (1:Int).natAbs:=fM HJ eV;have hb1:(bs++[Blk.mk (rcs ((ei f i:Int):Rat)) .rw]++[Blk.mk (zcs 1) .rw])[0]?=some ⟨zcs 1,.rw⟩:=fW (fW b0)
  let b2:fQ:=bs++[Blk.mk (rcs ((ei f i:Int):Rat)) .rw]++[Blk.mk (zcs 1) .rw]++[Blk.mk (zcs 1) .rw]++[Blk.mk (zcs 0) .rw]
  have g0:b2[0]?=some ⟨zcs 1,.rw⟩:=fW (fW hb1);have e1:(bs++[Blk.mk (rcs ((ei f i:Int):Rat)) .rw]++[Blk.mk (zcs 1) .rw]).length=bs.length+2:=by simp
  have gq:b2[bs.length+2]?=some ⟨zcs 1,.rw⟩:=fW (by rw[aM fU];simp);obtain⟨e,he⟩:=KG hB hBl hs h0 ht hφ (ef:=ef) j (i+1) fu (b2.set 0 ⟨zcs 1,.rw⟩) eP eP (aH (fC g0));refine⟨e,?_⟩;have zfb:((Int.gcd 1 1:Nat):Int)=1:=rfl;rw[ep];unfold uv;refine th (gX eP) (th fG (th (Fu eP) (th (CO rfl) (th (fq2 (z:=ei f i) fU) (th kb1 (th (al2 rfl) (th A7 (th A7 (th (ld2 (st:=.rw) hb1 rfl) (th (z34 hK1 hK1 hφ) ?_))))))))));rw[zfb];refine th (iDM HJ HJ eV hφ) (th iG (th iF (th (Ju rfl) ?_)));rw[e1];exact th (ld2 (st:=.rw) g0 rfl) (th (ld2 (st:=.rw) gq rfl) (th (DZ hK1 hK1) (th (st2 g0 rfl) (th (gA eP) he))))
def WT(hB:BdL B f)(hBl:Lg 100000000 B)(hs:f.length<=1000000)(h0:0<f.length)(ht:ei f (f.length-1)=1)(hφ:gW φ):∃e,wY φ [pz f ef]=some (zn f e):=by
 obtain⟨e,he⟩:=KG (φ:=φ) hB hBl hs h0 ht hφ (ef:=ef) f.length 0 φ ([]++[Blk.mk (zcs 1) .rw]) eP eP rfl;have ho1:=λ(s:LS)(K:fK)=>iOf (φ:=φ) (z:=1) (s:=s) (K:=K) eP;refine⟨e,?_⟩;unfold wY;dsimp only[fJ,fV];rw[<-fg];exact th (ho1 _ _) (th (al2 rfl) (th fY he))
def z4j:s7 φ [.i .u64 (.ofNat 1)]=some (ni 1):=eX
def z2j(h:AS 2 bs V cs 1)(hφ:gW φ){F:D}:iE φ [V,F] (mem bs) kk=kk (.tup []) (mem bs):=by
 obtain⟨l,rfl,_⟩:=ug h eV;obtain⟨ψ,hψ⟩:∃ψ,φ=ψ+1:=⟨φ-1,eP⟩
 unfold iE;dsimp only[fJ,fV];refine th ou (th (z2Y eV) (th (fX z4j) ?_));unfold jG;have h1:∀{α:Type}(a:α)(b:α->α),lp a b φ=lp a b (ψ+1):=λa b=>by rw[<-hψ]
 rw[h1,ep];unfold ke;dsimp only[fJ,fV];rw[h1,ep];unfold my;refine th (iJ eV eV) (th (BO eV) (th fG ?_));unfold iY;dsimp only[fJ,fV];refine th (gA eV) ?_;rw[h1,ep];unfold lE;exact th (gP eV) (th ez rfl)
structure FA (n:Nat) (a:Int) (f:fZ):Prop where
 xa:XA n a f
 n64:n<=64
 a4:a%4=2
 al:Lg 1000 a.natAbs
def FA.sf(h:FA n a f):SF n f:=by
 have hx:=h.xa;have hn2:=hx.n2;refine⟨⟨hx.len,⟨hx.top,λk hk=>?_⟩,by rw[hx.bot];exact h.a4,λk h1 h2=>hx.mid k h1 h2,eP⟩,h.n64,hn2,⟨_,fM (tf h.al (show Lg 1000 1 by show Nat.log2 1<=_;rw[show Nat.log2 1=0 from by decide];exact aJ _)) eV,hx.bd⟩⟩;rw[sd,jr (by rw[hx.len];omega)]
def QZ(h:FA n a f)(hφ:gW φ):∃e1 e2,uF φ [pz f ef]=some (.tree [zn f e1,ni 1] 1 e2):=by
 have hx:=h.xa;have hn2:=hx.n2;have hl:=hx.len;have ha0:a≠0:=by have:=h.a4;omega
 have zcm:=h.n64;have hB:Lg 100000000 (a.natAbs+1):=fM (tf h.al (show Lg 1000 1 by show Nat.log2 1<=_;rw[show Nat.log2 1=0 from by decide];exact aJ _)) eV;obtain⟨e1,e2,h1⟩:=Ig (φ:=φ) (ef:=ef) hx h.al ha0 hφ;obtain⟨e3,h3⟩:=WT (φ:=φ) (ef:=e1) hx.bd hB eP eP hx.top' hφ;obtain⟨e4,h4⟩:=WU (φ:=φ) (ef:=e3) h.sf hφ;obtain⟨ψ,hψ⟩:∃ψ,φ=ψ+1+1:=⟨φ-2,eP⟩
 have hlp:∀{α:Type}(a:α)(b:α->α),lp a b φ=lp a b (ψ+1+1):=λa b=>by rw[<-hψ]
 have z75:∀(V:D)(bs:fQ),AS 2 bs V [zn f e3,ni 1] 1->∃e,lp jc (qa φ) (ψ+1) V (.tree [pz f e1,ni 1] 1 e2) (ni 1) (ni 1) (mem bs)=some (.tree [zn f e3,ni 1] 1 e):=λV bs hA=>by
  obtain⟨l,e5,e6⟩:=ug hA eV;have hs:=z2j (φ:=φ) (kk:=λx39 s=>fO false s V some) (F:=.fn 130 []) hA hφ;subst e5;obtain⟨e,he⟩:=TA (k:=l) (c:=1) (ex:=false) (n:=1) (z:=2) e6 rfl λg=>rfl;refine⟨e,?_⟩;rw[ep];unfold qa;exact th (gP eV) (th ez (hs.trans he))
 have hb:∀(s:LS)(K:fK),gf [.tree [] 0 true,fB] [(0,1,zn f e3),(1,1,ni 1)] s K=K (.agg [zn f e3,ni 1]) s:=λs K=>rfl;obtain⟨bs2,X',c1,c2,c3⟩:=ap1 (K:=λx36 s=>f7 (ni 0) ej λx37=>lp pu (sZ φ (lp jc (qa φ) (ψ+1))) (ψ+1) x36 (.ptr 0 0) (.tree [pz f e1,ni 1] 1 e2) (ni 1) (ni 0) (.tree [zn f e3] 1 e4) (ni 1) x37 s) (bytes:=32) (zero:=[.tree [] 0 true,fB]) (x:=.agg [zn f e3,ni 1]) (new:=[zn f e3,ni 1]) (AS.nil (z:=2) (bs:=[]++[Blk.mk [pz f e1,ni 1] .rw])) rfl rfl rfl rfl eV eV;obtain⟨e,he⟩:=z75 X' bs2 c1;refine⟨e3,e,?_⟩;have hst:∀K:fK,(ff [.tree [] 0 true,fB] (mem []) λx14 s=>fA 2 s x14 (.agg [pz f e1,ni 1]) λ_ s=>K x14 s)=K (.ptr 0 0) (mem ([]++[Blk.mk [pz f e1,ni 1] .rw])):=λK=>rfl;have hld:∀(s:LS)(K:fK),(eT 2 s (.tree [pz f e1,ni 1] 1 e2) (ni 0) λx12 s=>eW 2 s x12 K)=K (.agg [pz f e1,ni 1]) s:=λs K=>rfl;have hf0:∀K:fK,(fF 0 (mem ([]++[Blk.mk [pz f e1,ni 1] .rw])) (.ptr 0 0) λx15 s=>eR s x15 K)=K (pz f e1) (mem ([]++[Blk.mk [pz f e1,ni 1] .rw])):=λK=>rfl;have hf1:∀K:fK,(fF 1 (mem ([]++[Blk.mk [pz f e1,ni 1] .rw])) (.ptr 0 0) λx15 s=>eR s x15 K)=K (ni 1) (mem ([]++[Blk.mk [pz f e1,ni 1] .rw])):=λK=>rfl;have zeX:∀(s:LS)(K:fK),(eT 1 s (.tree [zn f e3] 1 e4) (ni 0) λx12 s=>eR s x12 K)=K (zn f e3) s:=λs K=>rfl;unfold uF;dsimp only[fJ,fV];rw[<-fg];refine th fY (th (gP (show ¬f.length<2 by omega)) (th ez (th (fX h1) (th fY ?_))));rw[hlp,ep];unfold qa;refine th (gX eV) (th fG (th (hld _ _) (th (hst _) (th (hf0 _) (th (fX h3) (th (fX h4) (th fY ?_)))))));rw[hlp,ep];unfold sZ;refine th (gX eV) (th fG (th (zeX _ _) (th (hf1 _) (th (hb _ _) (c3.trans (th (gA eV) ?_))))));rw[ep];unfold sZ;exact th (gP eV) (th ez (th (gA eV) he))
end
section
variable {b:Blk} {i k n m w:Nat} {ex ey:Bool} {s:LS} {K:fK} {φ:Nat} {a z:Int}
def Oi(hm:Lg 100000000 m)(hφ:gW φ):pj φ [.n m,ej]=some (.n m):=by
 obtain⟨ψ,hψ⟩:∃ψ,φ=ψ+1+1:=⟨φ-2,eP⟩
 have hlp:∀{α:Type}(a:α)(b:α->α),lp a b φ=lp a b (ψ+1+1):=λa b=>by rw[<-hψ]
 have hm':Nat.log2 m<=1000000000:=aX hm eV;obtain⟨Y,s2,ys,k2,hY,sy,vy,ly,m2,_⟩:=ri (s:=s0.push ⟨[n64 1],.rw⟩) (m:=m) rfl hm';have hX:Hold (s0.push ⟨[n64 1],.rw⟩) (.sl s0.nx 0 1 1 1 true) [1]:=Hold.sl (ws:=[1]) (cm:=1) rfl;have hl0:Nat.log2 m<=100000000:=hm;have s1:lk [1]:=λw hw=>by
  have:w=1:=by simpa using hw
  subst this;decide
 obtain⟨ex,ey,ls,h1,h2⟩:=yU (M:=ia φ) (hX.more m2).ht hY.ht;obtain⟨s3,f1,f2,f3⟩:=wm ls s2 h2;obtain⟨zs,e,g1,g2,g3,g4⟩:=yL (xs:=[1]) (ex:=ex) (ey:=ey) (φ:=φ) s1 sy (by show 1+ys.length<=_;omega) (by show 1+ys.length<φ;omega);have hY3:=f2 _ _ hY.ht;obtain⟨ex2,ey2,ls2,h12,h22⟩:=yU (M:=ia φ) hY3 hY3;obtain⟨s4,f12,f22,f32⟩:=wm ls2 s3 h22;obtain⟨zs2,e2,g12,g22,g32,g42⟩:=yL (xs:=ys) (ex:=ex2) (ey:=ey2) (φ:=φ) sy sy eP eP;have hv1:val [1]=1:=rfl;rw[hv1,vy,ao]at g2;have hzl:zs.length<=1000000000:=by
  have:([1]:eZ).length=1:=rfl;omega
 unfold pj;dsimp only[fJ,fV];refine th GJ (th (k2 _) ?_);rw[hlp,ep];unfold wv;have hand:∀k:D->Rs,vY ej ej k=k ej:=λk=>UU eV eV;have zev:∀k:D->Rs,pP ej (.i .u64 (.ofNat 1)) k=k fB:=λk=>rfl;refine th (oG eV) (th fG (th sj (th (hand _) (th (oW rfl) (th fG (th (h1 _) ?_))))));rw[g4];show nD s2 ls (.tree (c64 zs) zs.length e) _=_;rw[GR,f1];refine th (h12 _) ?_;rw[g42];show nD s3 ls2 (.tree (c64 zs2) zs2.length e2) _=_;rw[GR,f12];refine th (zev _) ?_;rw[ep];refine th (qw eV) (th ez (th (pp HT.tr g1 hzl) ?_));rw[g2];exact z2r
def Xk(hm:Lg 100000000 z.natAbs)(hφ:gW φ):re φ [itz z,ej]=some (itz z):=by
 have hp:=Oi hm hφ;have hsg:it (decide (z<0)&& !(Nat.beq z.natAbs 0)) z.natAbs=itz z:=yq (by
  rcases KU z with⟨b1,b2,b3⟩|⟨b1,b2,b3⟩
  ·rw[b3];exact b2.symm
  ·rw[b3];exact b2.symm)
 have hb:([]++[Blk.mk (zcs z) .rw]++[Blk.mk [.b false,.n 0] .rw])[0]?=some ⟨zcs z,.rw⟩:=rfl;have hf0:∀K:fK,(fF 0 (mem ([]++[Blk.mk (zcs z) .rw]++[Blk.mk [.b false,.n 0] .rw])) (.ptr 0 0) λa s=>eR s a K)=K (.b (decide (z<0))) (mem ([]++[Blk.mk (zcs z) .rw]++[Blk.mk [.b false,.n 0] .rw])):=λK=>rfl;have zeC:∀k:D->Rs,vX ej pU k=k ej:=λk=>sh (a:=1) (b:=2) eV;have hmk:∀s K,eY (fx φ) [.b (decide (z<0)),.n z.natAbs] s K=K (itz z) s:=λs K=>by
  rw[zR,<-hsg];rfl
 unfold re;dsimp only[fJ,fV];rw[<-fg];refine th HM (th vM (th (hf0 _) ?_));have hg:∀(s:LS)(K:fK),(eU (.b (decide (z<0))) true (λk=>k ej s) s λx7 s=>eU (.b (decide (z<0))) true (λk=>vX x7 pU λd=>k d s) s λx8 s=>eU (.b (decide (z<0))) true (λk=>iR x8 ej λd=>k d s) s λx9 s=>iB (.b (decide (z<0))) x9 (.b false) s K)=K (.b (decide (z<0))) s:=λs K=>by
  cases decide (z<0)with
  |true=>exact th gG (th gG (th (zeC _) (th gG (th (oW rfl) gT))))
  |false=>exact th gx (th gx (th gx ga))
 refine th (hg _ _) (th (fa1 (k:=0) (z:=z) (st:=.rw) rfl rfl) (th (fX hp) (th (hmk _ _) (th (st2 (k:=1) (l':=[.b false,.n 0]) rfl rfl) (th (ld2 (k:=1) (z:=z) (st:=.rw) rfl rfl) Wm)))))
end
section
variable {bs:fQ} {f g:fZ} {b:Blk} {i j k n m c B X Y w:Nat} {ex ef eg ey:Bool} {s:LS} {K:fK} {φ:Nat} {a z y:Int} {cs:fN} {u:Nat->Int}
def z4c(hm:Lg 100000000 z.natAbs)(hφ:gW φ):tV φ [rc (z:Rat),ej]=some (rc (z:Rat)):=by
 have h1:=Xk hm hφ;have h2:=Oi (m:=1) (φ:=φ) (by show Nat.log2 1<=_;rw[show Nat.log2 1=0 from by decide];exact aJ _) hφ;have hb:([]++[Blk.mk (rcs (z:Rat)) .rw]++[Blk.mk [.b false,.n 0,.n 0] .rw])[0]?=some ⟨rcs (z:Rat),.rw⟩:=rfl;have hbd:∀(s:LS)(K:fK),gf [.b false,.n 0,.n 0] [(0,2,itz z),(2,1,.n 1)] s K=K (rc (z:Rat)) s:=λs K=>by rw[DI];rfl
 unfold tV;dsimp only[fJ,fV];rw[<-fg];exact th Rk (th vM (th (fq0 hb) (th (fX h1) (th (fq2 hb) (th (fX h2) (th (hbd _ _) (HF (k:=1) rfl rfl)))))))
def Ax{a b:fZ}(h:∀k,ei a k=ei b k):tzI a=tzI b:=by
 have hl:∀{a b:fZ},(∀k,ei a k=ei b k)->(tzI a).length<=(tzI b).length:=λ{a b} h=>EY λk hk=>by
  rw[h k,<-wU,jr hk]
 have h1:=hl h;have h2:=hl λk=>(h k).symm;refine cr eP λk k1 k2=>?_;have e1:ei (tzI a) k=(tzI a)[k]:=by
  unfold ei;rw[aB,aE k1];rfl
 have e2:ei (tzI b) k=(tzI b)[k]:=by
  unfold ei;rw[aB,aE k2];rfl
 rw[<-e1,<-e2,wU,wU,h]
def Is(h:∀i,n<=i->u i=0):∀d,sI u (n+d)=sI u n
 |0=>rfl
 |d+1=>by
  show sI u (n+d)+u (n+d)=_;rw[Is h d,h _ eP,znj]
def t6{v:Nat->Int}:∀n,(∀i,i<n->u i=v i)->sI u n=sI v n
 |0,_=>rfl
 |n+1,h=>by
  show sI u n+u n=sI v n+v n;rw[t6 n λi hi=>h i eP,h n eP]
def HY{w:Nat->Rat}:∀n,(∀i,i<n->w i=((u i:Int):Rat))->FE w n=((sI u n:Int):Rat)
 |0,_=>rfl
 |n+1,h=>by
  show FE w n+w n=((sI u n+u n:Int):Rat)
  rw[HY n λi hi=>h i eP,h n eP,zmU]
def Kn:Qj (zr f) (zr g) k=(((zl f*zl g).c k:Int):Rat):=by
 unfold Qj;rw[HY (u:=λi=>if i<=k then ei f i*ei g (k-i)else 0) _ λi hi=>by
  rw[qk,qk];split
  ·rw[dB]
  ·rfl]
 congr 1;show _=cvI (ei f) (ei g) k;unfold cvI;rw[nK];have h1:=Is (n:=f.length) (u:=λi=>if i<=k then ei f i*ei g (k-i)else 0) (λi hi=>by
  show(if i<=k then ei f i*ei g (k-i)else 0)=0;rw[jr hi];split<;>simp) (k+1)
 have h2:=Is (n:=k+1) (u:=λi=>if i<=k then ei f i*ei g (k-i)else 0) (λi hi=>aG eP) f.length;rw[<-h1,cx,h2];exact t6 _ λi hi=>aF eP
def U7(h:BdL B f):Hb 1 B (zr f):=λi=>by
 rw[qk];exact⟨ei f i,dz _,h.get i⟩
def z2E(hf:BdL X f)(hg:BdL Y g)(hX:Lg 50000000 X)(hY:Lg 50000000 Y)(hfl:f.length<=100000)(hgl:g.length<=100000)(hφ:gW φ):∃o e,(∀k,ei o k=(zl f*zl g).c k)/\tzI o=o/\o.length<=f.length+g.length-1/\kQ φ [pz f ef,pz g eg]=some (pz o e):=by
 have h1:Lg KB 1:=by show Nat.log2 1<=_;rw[show Nat.log2 1=0 from by decide];exact aJ _
 have hMB:MB (zr f) (zr g) 1 X 1 Y:=⟨U7 hf,U7 hg,dy,dy,h1,fM hX eV,h1,fM hY eV,by rw[a9];exact h1,fM (mB (te (show(zr f).length+1<=1000000 by rw[nK];omega)) (mB hX hY)) eV⟩
 obtain⟨e,he⟩:=z2x (φ:=φ) hMB nK nK eP hφ (ex:=ef) (ey:=eg);have h2:wf (zr f) (zr g)=zr (tzI ((List.range (f.length+g.length-1)).map λk=>(zl f*zl g).c k)):=by
  unfold wf;rw[nK,nK];exact AN λt _=>Kn
 refine⟨_,e,λk=>?_,?_,aX zL fU,he.trans (congrArg some (Hj h2 e))⟩
 ·rw[wU,ue];split
  ·rfl
  ·rename_i hk;show(0:Int)=cvI (ei f) (ei g) k;have h3:((cvI (ei f) (ei g) k:Int):Rat)=0:=by
    have h4:=Kn (f:=f) (g:=g) (k:=k);rw[Tg (by rw[nK,nK];omega)]at h4;exact h4.symm
   rw[<-dO,dx]at h3;exact h3.symm
 ·refine t5 λd hd=>?_;obtain⟨j,h1,h2,h3,h4⟩:=qR ((List.range (f.length+g.length-1)).map λk=>(zl f*zl g).c k);have:j=d+1:=by rw[h2,aR]at hd;omega
  rw[wU];exact h4 d this
def Kc{c0:fZ}{e0:Bool}(hs:c0.length<=1000000)(hz:∀z,z∈c0->z.natAbs<4611686018427387904)(hφ:gW φ):∀(j i fu:Nat)(bs:fQ),i+j=c0.length->j<fu->bs[0]?=some ⟨fl3 (lst i (λi=>((ei c0 i:Int):Rat))) j,.rw⟩->
 ∃e,lp jc (uM φ) fu (.sl 0 0 c0.length c0.length 3 true) (.tree (c0.map zd) c0.length e0) (ni c0.length) (ni i) (mem bs)=some (pz (tzI c0) e)
 |0,i,fu+1,bs,h1,h2,b1=>by
  have:i=c0.length:=eP;subst this;obtain⟨e,he⟩:=Cd (c:=c0.length) (ex:=true) (φ:=φ) (v:=ei c0) b1 eP eP;rw[FN]at he;refine⟨e,?_⟩;rw[ep];unfold uM;exact th (gP eP) (th ez he)
 |j+1,i,fu+1,bs,h1,h2,b1=>by
  obtain⟨e,he⟩:=Kc (e0:=e0) hs hz hφ j (i+1) fu _ eP eP (aH (fC b1));have hd:(c0.map zd)[i]?=some (zd (ei c0 i)):=by
   rw[af,aE (show i<c0.length by omega)];unfold ei;rw[aB,aE (show i<c0.length by omega)];rfl
  have hzi:(ei c0 i).natAbs<4611686018427387904:=by
   unfold ei;rw[aB,aE (show i<c0.length by omega)];exact hz _ (cU _)
  refine⟨e,?_⟩;rw[ep];unfold uM;exact th (gX eP) (th fG (th (rdt hd fU) (th (z1W hzi) (th (Eh (v:=ei c0) b1 eP rfl) (th (gA eP) he)))))
def pOf{c0:fZ}{e0:Bool}(hs:c0.length<=1000000)(hz:∀z,z∈c0->z.natAbs<4611686018427387904)(hφ:gW φ):∃e,kr φ [.tree (c0.map zd) c0.length e0]=some (pz (tzI c0) e):=by
 obtain⟨e,he⟩:=Kc (φ:=φ) (e0:=e0) hs hz hφ c0.length 0 φ ([]++[Blk.mk (fl3 [] c0.length) .rw]) eP eP rfl;refine⟨e,?_⟩;unfold kr;dsimp only[fJ,fV];rw[<-fg];refine th fY (th (BI rfl eP eP) (th fY ?_));rw[IN];exact he
def pR{Mf:fP}{Xs Vs:fN}{cs:fN}{n:Nat}{e:Bool}{ls:eZ}(hA:AVL bs Xs Vs ls)(hl:∀k,k∈ls->k<bs.length)(hM:Mf Vs=some (.tree cs n e)):∃bs',bs'.length=bs.length/\(∀(k:Nat)(b:Blk),k∉ls->bs[k]?=some b->bs'[k]?=some b)/\∀K:fK,eY Mf Xs (mem bs) K=K (.tree cs n e) (mem bs'):=by
 obtain⟨bs',h0,h1,h2⟩:=NZ ls bs hl;refine⟨bs',h0,h1,λK=>?_⟩;unfold eY;rw[hA.map,hM,jY];unfold nD;rw[lJ];exact h2 _
def Gp{st:Stt}(hb:bs[k]?=some ⟨cs,st⟩)(hl:st.live=true)(hn:cs.length=n)(hr:∀(s:LS)(F:fN->eZ->Rs),ma (jX s 59) cs F=F cs []):∃e,AV bs (.sl k 0 n c 1 ex) (.tree cs n e) [k]:=by
 subst hn;refine⟨cnd ex (Nat.beq c cs.length) false,λF=>?_⟩;show(iq (mem bs) k λb=>cnd (lv b.st) (jJ 0 b.cs λr=>jP (Nat.mul cs.length 1) r λr=>ma (jX (mem bs) 59) r λcs' ls=>nM (cnd ex (Nat.beq c cs.length) false) λex=>F (.tree cs' cs.length ex) (k::ls)) none)=_;rw[gV hb];show cnd (lv st) (jJ 0 cs _) none=_;rw[nQ,hl,fH,gZ,a7,i7,show Nat.mul cs.length 1=cs.length from a9 _,aF (aC _),bV,hr,iz]
def SM(hφ:gW φ)(hz:z.natAbs<4611686018427387904):∃e bs',bs'.length=bs.length+1/\(∀(k:Nat)(b:Blk),bs[k]?=some b->bs'[k]?=some b)/\∀K:fK,(iO 1 [fB] [(0,1,zd z)] (mem bs) λx s=>eY (kr φ) [x] s K)=K (pz (tzI [z]) e) (mem bs'):=by
 have hb:(bs++[Blk.mk ([z].map zd) .rw])[bs.length]?=some ⟨[z].map zd,.rw⟩:=by simp
 obtain⟨e0,av⟩:=Gp (c:=1) (ex:=true) hb rfl rfl λs F=>rfl;obtain⟨e,he⟩:=pOf (φ:=φ) (c0:=[z]) (e0:=e0) (show 1<=1000000 by decide) (λx hx=>by
  have:x=z:=by simpa using hx
  subst this;exact hz) hφ
 obtain⟨bs',c1,c2,c3⟩:=pR (AVL.cons av AVL.nil) (λk hk=>by
  have:k=bs.length:=by simpa using hk
  subst this;exact fC hb) he
 refine⟨e,bs',by rw[c1];simp,λk b hk=>c2 k b (λhm=>by
  have:k=bs.length:=by simpa using hm
  have:=fC hk;omega) (fW hk),λK=>?_⟩
 exact th (B4 (zero:=[fB]) (x:=zd z) (new:=[zd z]) (z:=1) rfl rfl rfl rfl) (c3 _)
def z3q:iO 2 [fB] [(0,1,zd z),(1,1,zd y)] (mem bs) K=K (.sl bs.length 0 2 2 1 true) (mem (bs++[⟨[zd z,zd y],.rw⟩])):=by
 show lh (mem bs) ⟨[zd z,zd y],.rw⟩ (λs'=>K (.sl (mem bs).nx 0 2 2 1 true) s')=_;rw[kI,mP]
def SL(hφ:gW φ)(hz:z.natAbs<4611686018427387904)(hy:y.natAbs<4611686018427387904):∃e bs',bs'.length=bs.length+1/\(∀(k:Nat)(b:Blk),bs[k]?=some b->bs'[k]?=some b)/\∀K:fK,(iO 2 [fB] [(0,1,zd z),(1,1,zd y)] (mem bs) λx s=>eY (kr φ) [x] s K)=K (pz (tzI [z,y]) e) (mem bs'):=by
 have hb:(bs++[Blk.mk ([z,y].map zd) .rw])[bs.length]?=some ⟨[z,y].map zd,.rw⟩:=by simp
 obtain⟨e0,av⟩:=Gp (c:=2) (ex:=true) hb rfl rfl λs F=>rfl;obtain⟨e,he⟩:=pOf (φ:=φ) (c0:=[z,y]) (e0:=e0) (show 2<=1000000 by decide) (λx hx=>by
  have:x=z\/x=y:=by simpa using hx
  rcases this with rfl|rfl
  ·exact hz
  ·exact hy) hφ
 obtain⟨bs',c1,c2,c3⟩:=pR (AVL.cons av AVL.nil) (λk hk=>by
  have:k=bs.length:=by simpa using hk
  subst this;exact fC hb) he
 refine⟨e,bs',by rw[c1];simp,λk b hk=>c2 k b (λhm=>by
  have:k=bs.length:=by simpa using hm
  have:=fC hk;omega) (fW hk),λK=>?_⟩
 exact th z3q (c3 _)
def z3J(h:z=a*y)(hy:y≠0)(hzl:Lg 100000000 z.natAbs)(hyl:Lg 100000000 y.natAbs)(hφ:gW φ):tX φ [rc (z:Rat),rc (y:Rat)]=some (rc (a:Rat)):=by
 have hne:(y:Rat)≠0:=λe=>hy (by
  rw[<-dO,dx]at e;exact e)
 have hq:=sF (k:=KB) (fM hzl eV);have hqy:=sF (k:=KB) (fM hyl eV);have hm:=Ka (φ:=φ) hq (Me hqy) hφ;have z6F:(z:Rat)*(y:Rat)⁻¹ =(a:Rat):=by
  rw[h,dB,Rat.mul_assoc,Rat.mul_inv_cancel _ hne,dz]
 rw[z6F]at hm;have h0:([]++[Blk.mk (rcs (z:Rat)) .rw]++[Blk.mk (rcs (y:Rat)) .rw]++[Blk.mk [.b false,.n 0,.n 0] .rw])[0]?=some ⟨rcs (z:Rat),.rw⟩:=rfl;have h1:([]++[Blk.mk (rcs (z:Rat)) .rw]++[Blk.mk (rcs (y:Rat)) .rw]++[Blk.mk [.b false,.n 0,.n 0] .rw])[1]?=some ⟨rcs (y:Rat),.rw⟩:=rfl;unfold tX;refine(id ?_:u1 [rc (z:Rat),rc (y:Rat)] _=some (rc (a:Rat)));rw[fJ,fJ,fV,<-fg];exact th Rk (th Rk (th vM (th (yP h0) (th (yP h1) (th (sX (CC hne) rfl) (th (oz hm rfl) (HF (k:=2) rfl rfl)))))))
end
def pc(c:Int):fZ:=if c=0 then[]else[c]
def eD(q:Int×Bool):D:=pz (pc q.1) q.2
def kF(e:Bool):D:=.agg [pz [0,1] e,ni 1]
section
variable {bs:fQ} {f g l:fZ} {b:Blk} {i k n B X:Nat} {ef eg ek:Bool} {s:LS} {K:fK} {p:Rat} {φ:Nat} {a z y x:Int} {L:List (Int×Bool)}
def yG:(pc z).length<=1:=by
 unfold pc;split
 ·exact aJ _
 ·exact aC 1
def yj:ei (pc z) k=if k=0 then z else 0:=by
 unfold pc;by_cases h:z=0
 ·rw[aF h,h];cases k<;>rfl
 ·rw[aG h];cases k with
  |zero=>rfl
  |succ k=>rfl
def Ho(h:∀k,0<k->ei l k=0):tzI l=pc (ei l 0):=by
 have h1:tzI (pc (ei l 0))=pc (ei l 0):=by
  refine t5 λd hd=>?_;unfold pc at hd ⊢;by_cases h0:ei l 0=0
  ·rw[aF h0]at hd;cases hd
  ·rw[aG h0]at hd ⊢;have:d=0:=by simpa using hd.symm
   subst this;exact h0
 rw[<-h1];refine Ax λk=>?_;rw[yj];split
 ·rename_i e;rw[e]
 ·exact h k eP
def F3(h:z.natAbs<=B):BdL B (pc z):=λy hy=>by
 unfold pc at hy;split at hy
 ·cases hy
 ·have:y=z:=by simpa using hy
  subst this;exact h
def z1d(hz:Lg 100000000 z.natAbs)(hφ:gW φ){e:Bool}:qc φ [kF ek,pz (pc z) e]=some (rc (z:Rat)):=by
 obtain⟨ψ,hψ⟩:∃ψ,φ=ψ+1:=⟨φ-1,eP⟩
 have hlp:∀{α:Type}(a:α)(b:α->α),lp a b φ=lp a b (ψ+1):=λa b=>by rw[<-hψ]
 let B0:fQ:=[]++[Blk.mk [pz [0,1] ek,ni 1] .rw]++[Blk.mk [.b false,.n 0,.n 0] .rw]
 have hf0:∀K:fK,(fF 0 (mem B0) (.ptr 0 0) λa s=>eR s a K)=K (pz [0,1] ek) (mem B0):=λK=>rfl;have hb1:(B0++[Blk.mk (rcs 1) .rw])[1]?=some ⟨[.b false,.n 0,.n 0],.rw⟩:=rfl;have hb2:(B0++[Blk.mk (rcs 1) .rw])[2]?=some ⟨rcs 1,.rw⟩:=rfl;unfold qc;refine(id ?_:u1 [kF ek,pz (pc z) e] _=some (rc (z:Rat)));rw[fJ,fJ,fV,<-fg];refine th (om rfl) (th vM (th (hf0 _) (th (fX z2z) (th (CO rfl) ?_))));rw[hlp,ep];unfold w7;refine th fY (th (iJ eV eV) (th fY ?_));by_cases h0:z=0
 ·subst h0;have hl:gD (ix 0) fB=λk=>k (.b true):=by funext k;exact DU
  show(fe (ni 0) ej _:Rs)=_;refine th (ub (k:=0) eV) ?_;rw[hl];exact th fG (th (fX Hi) (HF hb1 rfl))
 ·have hpc:pc z=[z]:=aG h0;have hm:=Ka (φ:=φ) qz1 (sF (k:=KB) (fM hz eV)) hφ;rw[zns]at hm;have hld:∀(s:LS)(K:fK),(eT 3 s (pz [z] e) fB λa s=>eW 3 s a K)=K (rc (z:Rat)) s:=λs K=>Fu (l:=[z]) (i:=0) (cD 0);rw[hpc];refine th (iJ (show 1<=1 by decide) (show 1<9223372036854775808 by decide)) (th (gP (bE 0)) (th ez (th (oW rfl) (th fG (th (yP hb2) (th (hld _ _) (th (fX (z4c hz hφ)) (th (oz hm rfl) (HF hb1 rfl)))))))))
def JK(hz:Lg 50000000 z.natAbs)(hx:Lg 50000000 x.natAbs)(hφ:gW φ){e:Bool}:∃e',ig φ [pz (pc z) e,rc (x:Rat)]=some (pz (pc (z*x)) e'):=by
 obtain⟨e',he⟩:=Ms (φ:=φ) (ef:=e) (f:=pc z) (p:=(x:Rat)) (v:=λi=>ei (pc z) i*x) (F3 (aC _)) (fM hz eV) (sF (fM hx eV)) (λi _=>by rw[dB]) (by have:=yG (z:=z);omega) hφ;refine⟨e',he.trans ?_⟩;have hl:=yG (z:=z);rw[Ho λk hk=>?_]
 ·congr 3;rw[ue];split
  ·rw[yj,aF rfl]
  ·rename_i h;have:pc z=[]:=aZ eP;have h0:z=0:=by
    have h1:=yj (z:=z) (k:=0);rw[this,aF rfl]at h1;exact h1.symm
   rw[h0,zni]
 ·rw[ue,aG eP]
def TZ(hz:Lg 50000000 z.natAbs)(hx:Lg 50000000 x.natAbs)(hφ:gW φ){e e2:Bool}:∃e',l8 φ [pz (pc z) e,pz (pc x) e2]=some (pz (pc (z+x)) e'):=by
 have h1:=yG (z:=z);have h2:=yG (z:=x);obtain⟨e',he⟩:=z2G (φ:=φ) (ef:=e) (eg:=e2) (f:=pc z) (g:=pc x) (B:=z.natAbs+x.natAbs) (F3 (cL _ _)) (F3 (zmT _ _)) (fM (tf hz hx) eV) eP eP hφ;refine⟨e',he.trans ?_⟩;rw[Ho λk hk=>?_]
 ·congr 3;rw[zf,yj,yj,aF rfl,aF rfl,eC]
 ·rw[zf,yj,yj,aG eP,aG eP];rfl
def z2C(hz:Lg 50000000 z.natAbs)(hx:Lg 50000000 x.natAbs)(hφ:gW φ){e e2:Bool}:∃e',lZ φ [pz (pc z) e,pz (pc x) e2]=some (pz (pc (z-x)) e'):=by
 have h1:=yG (z:=z);have h2:=yG (z:=x);obtain⟨e',he⟩:=z0v (φ:=φ) (ef:=e) (eg:=e2) (f:=pc z) (g:=pc x) (B:=z.natAbs+x.natAbs) (F3 (cL _ _)) (F3 (zmT _ _)) (fM (tf hz hx) eV) eP eP hφ;refine⟨e',he.trans ?_⟩;rw[Ho λk hk=>?_]
 ·congr 3;rw[zf,yj,yj,aF rfl,aF rfl];omega
 ·rw[zf,yj,yj,aG eP,aG eP];rfl
def Na(h:i<L.length):(L.map eD)[i]?=some (pz (pc (ei (L.map (·.1)) i)) (L.getD i (0,false)).2):=by
 unfold ei;rw[af,aB,aB,af,aE h];rfl
def EB{e0:Bool}(hf:BdL B (L.map (·.1)))(hx:x.natAbs<=X)(hX:1<=X)(hXl:Lg 20000000 X)(hBl:Lg 20000000 B)(hS:Lg 20000000 (L.length*B*X^L.length))(hs:L.length<=1000000)(hφ:gW φ):∀(k fu:Nat)(e:Bool)(bs:fQ),k<=L.length->k<fu->bs[0]?=some ⟨rcs (x:Rat),.rw⟩->
 ∃e',lp jc (vw φ) fu (.tree (L.map eD) L.length e0) (.ptr 0 0) (pz (pc (pI ((L.map (·.1)).drop k) x)) e) (ix k) (mem bs)=some (pz (pc (pI (L.map (·.1)) x)) e')
 |0,fu+1,e,bs,h1,h2,b0=>by
  refine⟨e,?_⟩;rw[ep];unfold vw;exact th sM (th ez jV)
 |k+1,fu+1,e,bs,h1,h2,b0=>by
  have hlen:(L.map (·.1)).length=L.length:=by simp
  have hb:=T2 hf hx hX (k+1);rw[hlen]at hb;have hz1:Lg 20000000 (pI ((L.map (·.1)).drop (k+1)) x).natAbs:=iK hS hb;have hzx:Lg 20000000 x.natAbs:=iK hXl hx;have hzm:Lg 40000001 (pI ((L.map (·.1)).drop (k+1)) x*x).natAbs:=by
   rw[bt];exact mB hz1 hzx
  have hc:Lg 20000000 (ei (L.map (·.1)) k).natAbs:=iK hBl (hf.get k);have z6z:pI ((L.map (·.1)).drop (k+1)) x*x+ei (L.map (·.1)) k=pI ((L.map (·.1)).drop k) x:=by
   rw[Jg (show k<(L.map (·.1)).length by omega),sW,eM,Int.add_comm]
  obtain⟨e1,g1⟩:=JK (φ:=φ) (fM hz1 eV) (fM hzx eV) hφ (e:=e);obtain⟨e2,g2⟩:=TZ (φ:=φ) (fM hzm eV) (fM hc eV) hφ (e:=e1) (e2:=(L.getD k (0,false)).2);rw[z6z]at g2;obtain⟨e',he⟩:=EB (e0:=e0) hf hx hX hXl hBl hS hs hφ k fu e2 bs eP eP b0;refine⟨e',?_⟩;rw[ep];unfold vw;exact th (uS (a:=k) (b:=0) (aJ _)) (th fG (th (yP b0) (th (fX g1) (th (rdt (Na eP) fU) (th (fX g2) (th (ub eP) he))))))
def z1f{e0:Bool}(hf:BdL B (L.map (·.1)))(hx:x.natAbs<=X)(hX:1<=X)(hXl:Lg 20000000 X)(hBl:Lg 20000000 B)(hS:Lg 20000000 (L.length*B*X^L.length))(hs:L.length<=1000000)(hφ:gW φ):∃e',xo φ [.tree (L.map eD) L.length e0,rc (x:Rat)]=some (pz (pc (pI (L.map (·.1)) x)) e'):=by
 obtain⟨e',he⟩:=EB (φ:=φ) (e0:=e0) hf hx hX hXl hBl hS hs hφ L.length φ true ([]++[Blk.mk (rcs (x:Rat)) .rw]) (aC _) eP rfl;refine⟨e',?_⟩;have hd:pI ((L.map (·.1)).drop L.length) x=0:=by
  rw[zmI fU];rfl
 rw[hd]at he;unfold xo;refine(id ?_:u1 [.tree (L.map eD) L.length e0,rc (x:Rat)] _=some (pz (pc (pI (L.map (·.1)) x)) e'));rw[fJ,fJ,fV,<-fg];exact th Rk (th fY (th (ub eP) he))
end
section
variable {bs:fQ} {f g l o:fZ} {b:Blk} {i j k n c B X N E:Nat} {ef eg ek:Bool} {s:LS} {K:fK} {p:Rat} {φ:Nat} {a z y x:Int} {cs:fN} {V:D} {u:Nat->Int} {L:List (Int×Bool)}
def Qo:Lg 6 65:=xS eV
def lgS(hl:l.length<=66)(hB:Lg E B):Lg (E+600) (l.length*B*65^l.length):=by
 have h1:Lg 6 l.length:=xS (show l.length<2^7 by omega);have h2:Lg ((6+1)*l.length) (65^l.length):=NK Qo _;exact fM (mB (mB h1 hB) h2) eP
def Da(h:BdI B l):BdL B l:=λx hx=>by
 obtain⟨k,hk,rfl⟩:=zmr hx;have hg:ei l k=l[k]:=by
  unfold ei;rw[aB,aE hk];rfl
 rw[<-hg];exact h k
def z3x{z n:Nat}(h:AS z bs V cs n)(hk:bs.length<=k):rx V k:=by
 cases h with
 |nil=>exact t9
 |blk hg hc=>exact Og (by have:=fC hg;omega)
def z2U(h:i<4611686018427387904):kS (.neg (.c (ni i))) s K=K (zd (-(i:Int))) s:=by
 have hw:IntKind.i64.wrap (0-Int.ofNat i)= -(i:Int):=by
  unfold IntKind.wrap;simp[IntKind.signed,IntKind.bits];omega
 have he:evA s.nx cv s.get (.neg (.c (ni i)))=some (zd (-(i:Int)),[]):=by
  show some (D.i .i64 (IntKind.i64.wrap (0-Int.ofNat i)),([]:fQ))=_;rw[hw];rfl
 unfold kS sA;rw[he];show wR _ _=_;rw[mq]
def Em{z n:Nat}{bs':fQ}(h:AS z bs V cs n)(hm:∀(k:Nat)(b:Blk),bs[k]?=some b->bs'[k]?=some b):AS z bs' V cs n:=by
 cases h with
 |nil=>exact AS.nil
 |blk hg hc=>exact AS.blk (hm _ _ hg) hc
structure PN (F:fZ) (N i:Nat) (o b g:fZ):Prop where
 ni:NI F o b g
 gl:g.length=N-i
 ot:tzI o=o
 ol:o.length<=66
 bl:b.length<=i+1
 nz:∀x:Int,(∀j:Nat,j<i->x≠(j:Int))->pI b x≠0
 gb:∃B,Lg (1000*i+2000) B/\BdL B g
 bb:∃B,Lg (1000*i+2000) B/\BdL B b
 ob:∃B,Lg (3000*i+6000) B/\BdL B o
def PN.step{F b b' o':fZ}(h:PN F N i o b g)(hN:N<=65)(hi:i<N)(ho:∀k,ei o' k=ei o k+pI g i*ei b k)(hot:tzI o'=o')(hol:o'.length<=66)(hb:∀k,ei b' k=shI (ei b) k-(i:Int)*ei b k)(hbl:b'.length<=i+2):PN F N (i+1) o' b' (sdI i g):=by
 obtain⟨Bg,g1,g2⟩:=h.gb;obtain⟨Bb,b1,b2⟩:=h.bb;obtain⟨Bo,o1,o2⟩:=h.ob;have hgl:=h.gl;have hpg:=Dj (X:=65) (x:=((i:Nat):Int)) eP eV (B5 g2);have zeI:Lg (1000*i+2600) (pI g i).natAbs:=iK (lgS eP g1) hpg;refine⟨h.ni.step ho hb,by rw[OT];omega,hot,hol,hbl,λx hx=>?_,?_,?_,?_⟩
 ·have e2:pI b' x=pI (0::b) x+(-(i:Int))*pI b x:=JM λk=>by
   rw[hb];cases k with
   |zero=>show(0:Int)-_*_=0+_;exact z69
   |succ k=>show ei b k-_*_=ei b k+_;exact z69
  have e3:pI b' x=(x-i)*pI b x:=by rw[e2,sW];exact z69
  rw[e3];exact Int.mul_ne_zero (by have:=hx i eP;omega) (h.nz x λj hj=>hx j eP)
 ·refine⟨66*Bg*65^66,?_,Da (Sn eP eV (B5 g2) eP)⟩;have h1:Lg 6 66:=xS eV;exact fM (mB (mB h1 g1) (NK Qo 66)) eP
 ·refine⟨66*Bb,fM (mB (xS (show 66<2^7 by decide)) b1) eP,Da λk=>?_⟩;rw[hb];have h1:(shI (ei b) k).natAbs<=Bb:=by
   cases k with
   |zero=>exact aJ _
   |succ k=>exact b2.get k
  have h2:=b2.get k;have h3:=zmE (shI (ei b) k) ((i:Int)*ei b k);rw[bt,bJ]at h3;have h4:i*(ei b k).natAbs<=65*Bb:=ay eP h2;omega
 ·refine⟨Bo+(pI g i).natAbs*Bb,fM (tf (fM o1 (show 3000*i+6000<=3000*i+6001 by omega)) (fM (mB zeI b1) eP)) eP,Da λk=>?_⟩;rw[ho];have h1:=eJ (ei o k) (pI g i*ei b k);rw[bt]at h1;have h2:(pI g i).natAbs*(ei b k).natAbs<=(pI g i).natAbs*Bb:=ae _ (b2.get k);have h3:=o2.get k;omega
def TT(hF:L.length=N){F:fZ}(hFl:F.length=N)(hB:∃B,Lg 2000 B/\BdL B F):PN F N 0 [] [1] F:=
 ⟨NI.start,eP,rfl,eV,aC _,λx _=>by
  show(1:Int)+x*0≠0;rw[zmX];decide,hB,⟨1,fM (xS (show 1<2^(0+1) by decide)) (aJ _),bd1⟩,⟨0,by show Nat.log2 0<=_;rw[show Nat.log2 0=0 from by decide];exact aJ _,λx hx=>by cases hx⟩⟩
def z2Q(hb:∀k,ei l k=(zl f*zl (tzI [-(i:Int),1])).c k)(k:Nat):ei l k=shI (ei f) k-(i:Int)*ei f k:=by
 rw[hb];have e1:zl f*zl (tzI [-(i:Int),1])=XX*zl f-ZX.C (i:Int)*zl f:=by
  rw[SA,mC,mC,pK,Ie,C_1];clear hb;exact zrg
 rw[e1,H7,SJ,uP];rfl
def Ak{e0:Bool}(hN:L.length=N)(hN1:N<=65)(hB:∃B,Lg 2000 B/\BdL B (L.map (·.1)))(hφ:gW φ):∀(j i fu:Nat)(o b g tb:fZ)(eo eb:Bool)(V:D)(bs:fQ),i+j=N->j<fu->PN (L.map (·.1)) N i o b g->AS 3 bs V (rs (zr tb)) i->tb.length=i->rx V 0->bs[0]?=some ⟨[pz [0,1] ek,ni 1],.rw⟩->
 ∃e,lp lK (lW φ) fu (.tree (L.map eD) L.length e0) (.ptr 0 0) V (pz o eo) (pz b eb) (ni N) (ni i) (mem bs)=some (pz (tzI (L.map (·.1))) e)
 |0,i,fu+1,o,b,g,tb,eo,eb,V,bs,h1,h2,hp,hA,htb,hnb,b0=>by
  have hi:i=N:=eP;subst hi;have hg:g=[]:=aZ (by rw[hp.gl];omega);have hni:=hp.ni;rw[hg]at hni;have ho:o=tzI (L.map (·.1)):=by
   rw[<-hp.ot];exact Ax hni.done
  refine⟨eo,?_⟩;rw[<-ho,ep];unfold lW;exact th (gP eP) (th ez jV)
 |j+1,i,fu+1,o,b,g,tb,eo,eb,V,bs,h1,h2,hp,hA,htb,hnb,b0=>by
  obtain⟨Bg,g1,g2⟩:=hp.gb;obtain⟨Bb,bb1,bb2⟩:=hp.bb;obtain⟨Bo,o1,o2⟩:=hp.ob;obtain⟨BF,F1,F2⟩:=hB;have hgl:=hp.gl;have hbl:=hp.bl;have hol:=hp.ol;have hiX:(((i:Nat):Int)).natAbs<=65:=eP;have hFl:(L.map (·.1)).length=N:=by rw[aj];exact hN
  have pF:=Dj (X:=65) (x:=((i:Nat):Int)) hiX eV (B5 F2);have pO:=Dj (X:=65) (x:=((i:Nat):Int)) hiX eV (B5 o2);have pB:=Dj (X:=65) (x:=((i:Nat):Int)) hiX eV (B5 bb2);have pG:=Dj (X:=65) (x:=((i:Nat):Int)) hiX eV (B5 g2);have lF:Lg 300000 (pI (L.map (·.1)) i).natAbs:=fM (iK (lgS eP F1) pF) eV;have lO:Lg 300000 (pI o i).natAbs:=fM (iK (lgS hol o1) pO) eP;have lB:Lg 300000 (pI b i).natAbs:=fM (iK (lgS eP bb1) pB) eP;have lG:Lg 300000 (pI g i).natAbs:=fM (iK (lgS eP g1) pG) eP;have lX:Lg 20000000 65:=fM Qo eV;have hnz:pI b i≠0:=hp.nz i λj hj=>eP;have hco:=hp.ni.coef (c:=i) hnz;have ld:Lg 300001 (pI (L.map (·.1)) i-pI o i).natAbs:=iK (tf lF lO) (zmE _ _);obtain⟨e1,h3⟩:=z1f (φ:=φ) (e0:=e0) (L:=L) F2 hiX eV lX (fM F1 eV) (by rw[show L.length=(L.map (·.1)).length by simp];exact fM (lgS eP F1) eV) eP hφ;have h4:=z1d (φ:=φ) (ek:=ek) (fM lF eV) hφ (e:=e1);have h5:=Ys (φ:=φ) (ef:=eo) o2 (fM o1 eP) hiX eV (fM lX eV) (fM (lgS hol o1) eP) eP hφ;have h6:=z0m (φ:=φ) (sF (k:=KB) (fM lF eV)) (sF (k:=KB) (fM lO eV)) hφ;rw[<-Rat.intCast_sub]at h6;have h7:=Ys (φ:=φ) (ef:=eb) bb2 (fM bb1 eP) hiX eV (fM lX eV) (fM (lgS eP bb1) eP) eP hφ;have h8:=z3J (φ:=φ) hco hnz (fM ld eV) (fM lB eV) hφ;obtain⟨e2,h9⟩:=Ms (φ:=φ) (ef:=eb) (f:=b) (p:=((pI g i:Int):Rat)) (v:=λk=>ei b k*pI g i) bb2 (fM bb1 eP) (sF (fM lG eV)) (λk _=>by rw[dB]) eP hφ;have hsc:∀k,ei (tzI ((List.range b.length).map λk=>ei b k*pI g i)) k=pI g i*ei b k:=λk=>by
   rw[wU,ue];split
   ·exact eM _ _
   ·rw[jr eP,zmX]
  have ziL:(tzI ((List.range b.length).map λk=>ei b k*pI g i)).length<=b.length:=aX zL fU;generalize tzI ((List.range b.length).map λk=>ei b k*pI g i)=sc at*;have zex:BdL ((pI g i).natAbs*Bb+Bo) sc:=Da λk=>by
   rw[hsc,bt];have:=ae (pI g i).natAbs (bb2.get k);omega
  have zcq:Lg 100000000 ((pI g i).natAbs*Bb+Bo):=fM (tf (fM (mB lG bb1) (show _<=1000000 by omega)) (fM o1 (show _<=1000000 by omega))) eV;obtain⟨e3,h10⟩:=z2G (φ:=φ) (ef:=eo) (eg:=e2) (f:=o) (g:=sc) (o2.mono (zmT _ _)) zex zcq eP eP hφ;have ho':∀k,ei (tzI (y3 1 o sc)) k=ei o k+pI g i*ei b k:=λk=>by
   rw[wU,zf,hsc,eC]
  have zeM:(tzI (y3 1 o sc)).length<=66:=aX zL (by unfold y3;simp;omega);have zeL:tzI (tzI (y3 1 o sc))=tzI (y3 1 o sc):=Ax λk=>wU k;have hg2:BdL 65 (tzI [-(i:Int),1]):=BdL.tz λx hx=>by
   have:x= -(i:Int)\/x=1:=by simpa using hx
   rcases this with rfl|rfl<;>omega
  have zjy:(tzI [-(i:Int),1]).length<=2:=zL
  let bsA:fQ:=bs++[Blk.mk (rcs (((i:Nat):Int):Rat)) .rw]
  let bsB:fQ:=bsA++[Blk.mk (rcs ((pI (L.map (·.1)) i-pI o i:Int):Rat)) .rw]
  have hAl:bsA.length=bs.length+1:=by simp[bsA]
  have hk0:∀K:fK,eW 2 (mem bsA) (.ptr 0 0) K=K (kF ek) (mem bsA):=λK=>zZ (fW b0) rfl (aC 2);have ha1:bsA[bs.length]?=some ⟨rcs (((i:Nat):Int):Rat),.rw⟩:=by simp[bsA]
  have hb1:bsB[bs.length]?=some ⟨rcs (((i:Nat):Int):Rat),.rw⟩:=fW ha1;have hb2:bsB[bsA.length]?=some ⟨rcs ((pI (L.map (·.1)) i-pI o i:Int):Rat),.rw⟩:=by simp[bsB]
  have hb0:bsB[0]?=some ⟨[pz [0,1] ek,ni 1],.rw⟩:=fW (fW b0);have hAB:AS 3 bsB V (rs (zr tb)) i:=Em hA λk b h=>fW (fW h);have hrs:rs (zr tb)++rcs ((pI b i:Int):Rat)=rs (zr (tb++[pI b i])):=by
   unfold zr;rw[bG,M7];rfl
  let KK:fK:=λx34 s=>eW 3 s (.ptr bsA.length 0) λx35 s=>eT 3 s x34 (ni i) λx36 s=>eW 3 s x36 λx37 s=>eY (tX φ) [x35,x37] s λx38 s=>eY (ig φ) [pz b eb,x38] s λx39 s=>eY (l8 φ) [pz o eo,x39] s λx40 s=>kS (.neg (.c (ni i))) s λx41 s=>iO 2 lL [(0,1,x41),(1,1,ej)] s λx42 s=>eY (kr φ) [x42] s λx43 s=>eY (kQ φ) [pz b eb,x43] s λx44 s=>f7 (ni i) ej λx45=>lp lK (lW φ) fu (.tree (L.map eD) L.length e0) (.ptr 0 0) x34 x40 x44 (ni N) x45 s
  obtain⟨bs2,V',d1,d2,d3⟩:=ap1 (K:=KK) (bytes:=40) (zero:=[.b false,.n 0,.n 0]) (x:=rc ((pI b i:Int):Rat)) (new:=rcs ((pI b i:Int):Rat)) hAB rfl rfl rfl rfl eP eP;rw[hrs]at d1;obtain⟨h20,zeR⟩:=d2 0 _ hnb hb0;obtain⟨h21,_⟩:=d2 bsA.length _ (z3x hA eP) hb2;obtain⟨l,rfl,zfs⟩:=ug d1 (Nat.succ_ne_zero _);obtain⟨e5,bs3,_,c2,c3⟩:=SL (bs:=bs2) (φ:=φ) (z:= -(i:Int)) (y:=1) hφ eP eP;obtain⟨b',e6,m1,m2,m3,m4⟩:=z2E (φ:=φ) (ef:=eb) (eg:=e5) bb2 hg2 (fM bb1 eP) (fM Qo eV) eP eP hφ;have z6z:=hp.step hN1 eP ho' zeL zeM (z2Q m1) eP;obtain⟨e,he⟩:=Ak (e0:=e0) hN hN1 ⟨BF,F1,F2⟩ hφ j (i+1) fu _ b' _ (tb++[pI b i]) e3 e6 _ bs3 eP eP z6z (Em d1 c2) (by simp;omega) zeR (c2 _ _ h20);refine⟨e,?_⟩;have hei:ei (tb++[pI b i]) i=pI b i:=by
   have:=yX (a:=tb) (o:=[]) (u:=pI b i);rw[htb]at this;exact this
  have z7T:ent (zr (tb++[pI b i])) i=((pI b i:Int):Rat):=by rw[qk,hei]
  have hKK:KK (.sl l 0 (i+1) (i+1) 3 false) (mem bs2)=some (pz (tzI (L.map (·.1))) e):=by
   refine th (yP h21) (th (XY zfs rfl rfl eP (by rw[nK];simp;omega)) ?_);rw[z7T];exact th (oz h8 rfl) (th (fX h9) (th (fX h10) (th (z2U eP) ((c3 _).trans (th (fX m4) (th (gA eP) he))))))
  rw[ep];unfold lW;refine th (gX eP) (th fG (th (Yi eP) (th (CO rfl) (th (hk0 _) (th (yP ha1) (th (fX h3) (th (fX h4) (th (yP ha1) (th (fX h5) (th (oz h6 rfl) (th (CO rfl) (th (yP hb1) (th (fX h7) (d3.trans hKK))))))))))))))
def N5{e0:Bool}(hL:1<=L.length)(hN1:L.length<=65)(hB:∃B,Lg 2000 B/\BdL B (L.map (·.1)))(hφ:gW φ):∃e,lb φ [kF ek,.tree (L.map eD) L.length e0]=some (pz (tzI (L.map (·.1))) e):=by
 obtain⟨e1,bs1,c1,c2,c3⟩:=SM (bs:=[]++[Blk.mk [pz [0,1] ek,ni 1] .rw]) (φ:=φ) (z:=1) hφ eV;obtain⟨e,he⟩:=Ak (φ:=φ) (e0:=e0) (ek:=ek) (L:=L) rfl hN1 hB hφ L.length 0 φ [] [1] (L.map (·.1)) [] true e1 gj bs1 eP eP (TT rfl fU hB) AS.nil rfl t9 (c2 _ _ rfl);refine⟨e,?_⟩;have hf1:∀K:fK,(fF 1 (mem ([]++[Blk.mk [pz [0,1] ek,ni 1] .rw])) (.ptr 0 0) λa s=>eR s a K)=K (ni 1) (mem ([]++[Blk.mk [pz [0,1] ek,ni 1] .rw])):=λK=>rfl;unfold lb;refine(id ?_:u1 [kF ek,.tree (L.map eD) L.length e0] _=some (pz (tzI (L.map (·.1))) e));rw[fJ,fJ,fV,<-fg];refine th (om rfl) (th (hf1 _) (th fY (th (iJ hL eP) (th (xO eP) (th (gA eP) ((c3 _).trans ?_))))));rw[show 1*(L.length-1)+1=L.length by omega];exact he
end
section
variable {bs:fQ} {l:fZ} {b:Blk} {i j k n X:Nat} {ek:Bool} {s:LS} {K:fK} {p:Rat} {φ:Nat} {a z x:Int} {cs:fN} {L:List (Int×Bool)}
def fD(L:List (Int×Bool))(e:Bool):D:=.tree (L.map eD) L.length e
def GU{e:Bool}:ie φ [kF ek,pz (pc z) e]=some (pz (pc z) e):=by
 have hf1:∀K:fK,(fF 1 (mem ([]++[Blk.mk [pz [0,1] ek,ni 1] .rw])) (.ptr 0 0) λa s=>eR s a K)=K (ni 1) (mem ([]++[Blk.mk [pz [0,1] ek,ni 1] .rw])):=λK=>rfl;unfold ie;refine(id ?_:u1 [kF ek,pz (pc z) e] _=some (pz (pc z) e));rw[fJ,fJ,fV,<-fg];exact th (om rfl) (th fY (th (hf1 _) (th (BO yG) (th fG jV))))
def N6(hφ:gW φ){e:Bool}:∃e',nr φ [kF ek,pz [1] e]=some (pz [1] e'):=by
 obtain⟨ψ,hψ⟩:∃ψ,φ=ψ+1:=⟨φ-1,eP⟩
 have hlp:∀{α:Type}(a:α)(b:α->α),lp a b φ=lp a b (ψ+1):=λa b=>by rw[<-hψ]
 obtain⟨e1,bs1,c1,c2,c3⟩:=SM (bs:=[]++[Blk.mk [pz [0,1] ek,ni 1] .rw]) (φ:=φ) (z:=1) hφ eV;obtain⟨e2,h2⟩:=JK (φ:=φ) (z:=1) (x:=1) lg1 lg1 hφ (e:=e1);have h2:ig φ [pz [1] e1,rc 1]=some (pz [1] e2):=h2;have h3:=GU (φ:=φ) (ek:=ek) (z:=1) (e:=e2);have h3:ie φ [kF ek,pz [1] e2]=some (pz [1] e2):=h3;have hinv:=CC (φ:=φ) (p:=1) eV;rw[z0X]at hinv;have hf0:∀K:fK,(fF 0 (mem ([]++[Blk.mk [pz [0,1] ek,ni 1] .rw])) (.ptr 0 0) λa s=>eR s a K)=K (pz [0,1] ek) (mem ([]++[Blk.mk [pz [0,1] ek,ni 1] .rw])):=λK=>rfl;have hb0:bs1[0]?=some ⟨[pz [0,1] ek,ni 1],.rw⟩:=c2 _ _ rfl;have hk0:∀K:fK,eW 2 (mem bs1) (.ptr 0 0) K=K (kF ek) (mem bs1):=λK=>zZ hb0 rfl (aC 2);have hld:∀(s:LS)(K:fK),(eT 3 s (pz [1] e) fB λa s=>eW 3 s a K)=K (rc 1) s:=λs K=>Fu (l:=[1]) (i:=0) (cD 0);refine⟨e2,?_⟩;unfold nr;refine(id ?_:u1 [kF ek,pz [1] e] _=some (pz [1] e2));rw[fJ,fJ,fV,<-fg];refine th (om rfl) (th (hf0 _) ((c3 _).trans ?_));rw[hlp,ep];unfold uV;exact th fY (th (qw (bE 1)) (th ez (th (hk0 _) (th (hld _ _) (th (sX hinv rfl) (th (fX h2) (th (fX h3) jV)))))))
def Ua{X i:D}{s:LS}{K:fK}:(eU (.b true) true (λk=>eT 1 s X i k) s λx s=>eU (.b true) true (λk=>eR s x k) s K)=eT 1 s X i λa s=>eR s a K:=rfl
def Ob:(pc z).length=0↔z=0:=by
 unfold pc;constructor
 ·intro h;by_cases h0:z=0
  ·exact h0
  ·rw[aG h0]at h;cases h
 ·intro h;rw[aF h];rfl
def zb(L:List (Int×Bool))(i:Nat):(L.getD i (0,false)).1=ei (L.map (·.1)) i:=by
 unfold ei;rw[aB,aB,af];cases L[i]?<;>rfl
def EA:∀(j fu:Nat)(L:List (Int×Bool))(e:Bool)(s:LS),L.length=j->j<=1000000->j<fu->∃L' e',L'.map (·.1)=tzI (L.map (·.1))/\(∃t,L'=L.take t)/\lp (λ(_:D)(_:LS)=>none) (uI φ) fu (fD L e) s=some (fD L' e')
 |0,fu+1,L,e,s,h1,h2,h3=>by
  have hL:L=[]:=aZ h1;subst hL;refine⟨[],e,rfl,⟨0,rfl⟩,?_⟩;rw[ep];unfold uI;exact th fY (th (qw (bE 0)) (th gx (th gx (th gx (th gx (th gx (th gx (th gx (th gx (th ga (th ez jV)))))))))))
 |j+1,fu+1,L,e,s,h1,h2,h3=>by
  have z6T:=Na (L:=L) (i:=j) eP;have hld:∀(s:LS)(K:fK),(eT 1 s (fD L e) (.i .i64 (.ofNat j)) λa s=>eR s a K)=K (pz (pc (ei (L.map (·.1)) j)) (L.getD j (0,false)).2) s:=λs K=>rdt z6T fU;by_cases h0:ei (L.map (·.1)) j=0
  ·obtain⟨e1,hsl⟩:=Yo (s:=s) (cs:=L.map eD) (n:=L.length) (k:=j) (e:=e) fU eP;have htl:(L.take j).length=j:=by rw[aR];omega
   obtain⟨L',e',g1,⟨t,g2⟩,g3⟩:=EA j fu (L.take j) e1 s htl eP eP;refine⟨L',e',?_,⟨min t j,by rw[g2,List.take_take]⟩,?_⟩
   ·rw[g1];refine Ax λk=>?_;rw[dN,Jf];split
    ·rfl
    ·by_cases e:k=j
     ·rw[e,h0]
     ·rw[jr (by rw[aj];omega)]
   ·rw[ep];unfold uI;refine th fY (th (oG eP) (th gG (th gG (th gG (th fY (th gG (th (iJ eP eP) (th Ua ?_))))))));rw[show L.length-1=j by omega];refine th (hld _ _) (th gG (th fY (th gG (th (oW (Ob.2 h0)) (th gT (th fG (th fY (th (iJ eP eP) ?_))))))));rw[show L.length-1=j by omega];refine th (hsl _) ?_;rw[<-dN];unfold fD at g3;rw[htl]at g3;exact g3
  ·refine⟨L,e,?_,⟨L.length,bV.symm⟩,?_⟩
   ·rw[t5 λd hd=>?_];rw[aj]at hd;rw[show d=j by omega];exact h0
   ·rw[ep];unfold uI;refine th fY (th (oG eP) (th gG (th gG (th gG (th fY (th gG (th (iJ eP eP) (th Ua ?_))))))));rw[show L.length-1=j by omega];exact th (hld _ _) (th gG (th fY (th gG (th (mJ (λh=>h0 (Ob.1 h))) (th gT (th ez jV))))))
def D3(hs:L.length<=1000000)(hφ:gW φ){e:Bool}:∃L' e',L'.map (·.1)=tzI (L.map (·.1))/\(∃t,L'=L.take t)/\ru φ [fD L e]=some (fD L' e'):=by
 obtain⟨L',e',h1,h2,h3⟩:=EA (φ:=φ) L.length φ L e s0 rfl hs eP;exact⟨L',e',h1,h2,h3⟩
end
section
variable {bs:fQ} {f g o:fZ} {b:Blk} {i k n X Y S N:Nat} {ef eg:Bool} {s:LS} {p:Rat} {φ:Nat} {P:Option D->Prop} {a z y x:Int} {L F G:List (Int×Bool)}
def Yf:zl (pc z)=ZX.C z:=ZX.ext' λk=>by
 rw[sd,yj];cases k<;>rfl
def Yr(hz:Lg 20000000 z.natAbs)(hx:Lg 20000000 x.natAbs)(hφ:gW φ){e e2:Bool}:∃e',kQ φ [pz (pc z) e,pz (pc x) e2]=some (pz (pc (z*x)) e'):=by
 have h1:=yG (z:=z);have h2:=yG (z:=x);obtain⟨o,e',g1,g2,g3,g4⟩:=z2E (φ:=φ) (ef:=e) (eg:=e2) (f:=pc z) (g:=pc x) (F3 (aC _)) (F3 (aC _)) (fM hz eV) (fM hx eV) eP eP hφ;rw[Yf,Yf,<-sB]at g1;refine⟨e',g4.trans ?_⟩;rw[<-g2,Ho λk hk=>?_,g1]
 ·rfl
 ·rw[g1];obtain⟨d,rfl⟩:∃d,k=d+1:=⟨k-1,eP⟩
  rfl
def VC(n:Nat):mf n [.tree [] 0 true]=(List.replicate n ((0:Int),true)).map eD:=by
 induction n with
 |zero=>rfl
 |succ n ih=>rw[ch,cC,<-ih];rfl
def VE:∀L:List (Int×Bool),(L.map eD).all one=true
 |[]=>rfl
 |p::L=>by rw[cC,cH,VE L];rfl
def vu(s:LS):∀(L:List (Int×Bool))(F:fN->eZ->Rs),ma (jX s 59) (L.map eD) F=F (L.map eD) []
 |[],F=>rfl
 |p::L,F=>by
  rw[cC];show(jX s 59 (eD p) λy a=>ma (jX s 59) (L.map eD) λys b=>pk a b λab=>F (y::ys) ab)=_;show(ma (jX s 59) (L.map eD) λys b=>pk [] b λab=>F (eD p::ys) ab)=_;rw[vu s L];rfl
def fs(L:List (Int×Bool)):fZ:=L.map (·.1)
def An(h:i<L.length):(L.map eD)[i]?=some (eD (L.getD i (0,false))):=by
 rw[af,aB,aE h];rfl
def JT{a o:List (Int×Bool)}{v d:Int×Bool}:(a++v::o).getD a.length d=v:=by
 rw[aB,aM (aC _),bD];rfl
def XO{a o:List (Int×Bool)}{v d:Int×Bool}:(a++v::o).set a.length d=(a++[d])++o:=by
 rw[bU _ _ (aC _),bD,aQ];rfl
def Uq(hx:a.natAbs<=X)(hg:BdL Y (fs G))(hX:Lg 10000000 X)(hY:Lg 10000000 Y)(hS:Lg 20000000 S)(hN:N<=100000)(hφ:gW φ){A B':D}{eA eG:Bool}{q17:kT}{b0:Blk}:∀(yr os yd done:List (Int×Bool))(fu:Nat)(bs:fQ),G=yd++yr->done.length=i+yd.length->(done++os).length=N->yr.length<=os.length->yr.length<fu->BdL S (fs os)->bs[0]?=some b0->bs[1]?=some ⟨(done++os).map eD,.rw⟩->i<N->(∀bs' os',os'.length=os.length->fs os'=qA a (fs yr) (fs os)->bs'[0]?=some b0->bs'[1]?=some ⟨(done++os').map eD,.rw⟩->P (q17 (fD G eG) (.ptr 0 0) (.sl 1 0 N N 1 true) A B' (ni (i+1)) (mem bs')))->
 P (lp qI (oF φ q17) fu (fD G eG) (.ptr 0 0) (.sl 1 0 N N 1 true) (ni i) (pz (pc a) eA) A B' (ni i) (fD G eG) (ni G.length) (ni yd.length) (mem bs))
 |[],os,yd,done,fu+1,bs,h1,h2,h3,h4,h5,h6,b0',b1,hi,hP=>by
  rw[bQ]at h1;rw[ep];unfold oF;exact pm (gP (by rw[h1];omega)) (pm ez (pm (gA eP) (hP bs os rfl (by show fs os=qA a [] (fs os);unfold qA;cases fs os<;>rfl) b0' b1)))
 |y::yr,[],yd,done,fu+1,bs,h1,h2,h3,h4,h5,h6,b0',b1,hi,hP=>by simp at h4
 |y::yr,v::os,yd,done,fu+1,bs,h1,h2,h3,h4,h5,h6,b0',b1,hi,hP=>by
  have hlt:yd.length<G.length:=by rw[h1];simp
  have hy:G.getD yd.length (0,false)=y:=by rw[h1];exact JT
  have hyY:y.1.natAbs<=Y:=by
   refine hg y.1 ?_;rw[h1];unfold fs;simp
  have hvS:v.1.natAbs<=S:=h6 v.1 (by unfold fs;simp);have hin:i+yd.length<N:=by rw[<-h3];simp;omega
  have hv:(done++v::os).getD (i+yd.length) (0,false)=v:=by rw[<-h2];exact JT
  have lX:Lg 20000000 a.natAbs:=fM (iK hX hx) eV;have lY:Lg 20000000 y.1.natAbs:=fM (iK hY hyY) eV;have lP:Lg 40000001 (a*y.1).natAbs:=by rw[bt];exact mB lX lY
  obtain⟨e1,g1⟩:=Yr (φ:=φ) lX lY hφ (e:=eA) (e2:=y.2);obtain⟨e2,g2⟩:=TZ (φ:=φ) (z:=v.1) (x:=a*y.1) (fM (iK hS hvS) eV) (fM lP eV) hφ (e:=v.2) (e2:=e1);have hGl:G.length<=1000000:=by
   have:(done++v::os).length=done.length+(os.length+1):=by simp
   rw[h1];simp at h4 ⊢;omega
  have hs1:((done++v::os).map eD).set (i+yd.length) (eD (v.1+a*y.1,e2))=((done++[(v.1+a*y.1,e2)])++os).map eD:=by
   rw[<-dC,<-h2,XO]
  rw[ep];unfold oF;refine pm (gX hlt) (pm fG (pm (rdt (An hlt) fU) ?_));rw[hy];refine pm (gA eP) (pm (gA eP) (pm (rd1 b1 rfl (An (by rw[h3];exact hin)) hin) ?_));rw[hv];refine pm (fX g1) (pm (fX g2) (pm (wr1 (d:=eD (v.1+a*y.1,e2)) b1 hin (by rw[aj,h3];exact hin) rfl rfl) (pm (gA eP) ?_)));rw[hs1];have ih:=Uq hx hg hX hY hS hN hφ (A:=A) (B':=B') (eA:=eA) (eG:=eG) (q17:=q17) (b0:=b0) yr os (yd++[y]) (done++[(v.1+a*y.1,e2)]) fu _ (by rw[h1,aQ];rfl) (by simp;omega) (by rw[<-h3];simp) (c7 h4) (by simp at h5;omega) (λz hz=>h6 z (by unfold fs at hz ⊢;rw[cC];exact bC _ hz)) (fc eV b0') (aH (fC b1)) hi (λbs' os' k1 k2 k3 k4=>hP bs' ((v.1+a*y.1,e2)::os') (by simp[k1]) (by
   show(v.1+a*y.1)::fs os'=qA a (y.1::fs yr) (v.1::fs os);rw[k2];rfl) k3 (by rw[k4,aQ];rfl))
  rw[show(yd++[y]).length=yd.length+1 by simp]at ih;exact ih
end
section
variable {bs:fQ} {o:fZ} {i j k n c X Y S w N T:Nat} {ex ek:Bool} {s:LS} {K:fK} {φ:Nat} {P:Option D->Prop} {z x:Int} {L F G O:List (Int×Bool)}
def ja:(fs L).length=L.length:=by unfold fs;simp
def Up(hO:O.length=N)(hN:N<=100000)(hP:∀L' e',fs L'=tzI (fs O)->(∃t,L'=O.take t)->P (some (fD L' e')))(hφ:gW φ):∀(j i fu:Nat)(bs:fQ),i+j=N->j<fu->bs[0]?=some ⟨[pz [0,1] ek,ni 1],.rw⟩->bs[1]?=some ⟨O.map eD,.rw⟩->
 P (lp gQ (oE φ) fu (.ptr 0 0) (.sl 1 0 N N 1 true) (.sl 1 0 N N 1 true) (ni N) (ni i) (mem bs))
 |0,i,fu+1,bs,h1,h2,b0,b1=>by
  have:i=N:=eP;subst this;obtain⟨e0,av⟩:=Gp (n:=i) (c:=i) (ex:=true) b1 rfl (by rw[aj];exact hO) (λs F=>vu s O F);obtain⟨L',e',g1,g2,g3⟩:=D3 (φ:=φ) (L:=O) eP hφ (e:=e0);unfold fD at g3;rw[hO]at g3;obtain⟨bs',c1,c2,c3⟩:=pR (AVL.cons av AVL.nil) (λk hk=>by
   have:k=1:=by simpa using hk
   subst this;exact fC b1) g3
  rw[ep];unfold oE;exact pm (gP eP) (pm ez (pm (c3 _) (pm jV (hP L' e' g1 g2))))
 |j+1,i,fu+1,bs,h1,h2,b0,b1=>by
  have hi:i<O.length:=eP;have hk0:∀K:fK,eW 2 (mem bs) (.ptr 0 0) K=K (kF ek) (mem bs):=λK=>zZ b0 rfl (aC 2);have z78:(O.map eD).set i (eD (O.getD i (0,false)))=O.map eD:=set_self? (An hi);rw[ep];unfold oE;refine pm (gX eP) (pm fG (pm (rd1 b1 rfl (An hi) eP) (pm (hk0 _) (pm (fX (GU (z:=(O.getD i (0,false)).1) (e:=(O.getD i (0,false)).2))) (pm (wr1 (d:=eD (O.getD i (0,false))) b1 eP (by rw[aj];exact hi) rfl rfl) (pm (gA eP) ?_))))));rw[z78];exact Up hO hN hP hφ j (i+1) fu _ eP eP (fc eV b0) (aH (fC b1))
def Uo{ek:Bool}(hf:BdL X (fs F))(hg:BdL Y (fs G))(hg0:0<G.length)(hX:Lg 10000000 X)(hY:Lg 10000000 Y)(hT:Lg 20000000 T)(hN:N<=100000)(hφ:gW φ){eF eG:Bool}(hP:∀L' e',fs L'=tzI (vV (fs G) (fs F) (List.replicate N 0))->P (some (fD L' e'))):∀(xr os xd done:List (Int×Bool))(S fu:Nat)(bs:fQ),F=xd++xr->done.length=xd.length->(done++os).length=N->os.length+1=xr.length+G.length->xr.length<fu->BdL S (fs os)->S+xr.length*(X*Y)<=T->bs[0]?=some ⟨[pz [0,1] ek,ni 1],.rw⟩->bs[1]?=some ⟨(done++os).map eD,.rw⟩->fs done++vV (fs G) (fs xr) (fs os)=vV (fs G) (fs F) (List.replicate N 0)->
 P (lp iH (oD φ) fu (fD G eG) (.ptr 0 0) (.sl 1 0 N N 1 true) (fD F eF) (ni F.length) (ni xd.length) (mem bs))
 |[],os,xd,done,S,fu+1,bs,h1,h2,h3,h4,h5,h6,hS,b0,b1,he=>by
  rw[bQ]at h1;have hO:fs (done++os)=vV (fs G) (fs F) (List.replicate N 0):=by
   rw[<-he];unfold fs;rw[bG];rfl
  rw[ep];unfold oD;exact pm (gP (by rw[h1];omega)) (pm ez (pm ou (Up h3 hN (λL' e' g1 _=>hP L' e' (by rw[g1,hO])) hφ N 0 φ bs eP eP b0 b1)))
 |v::xr,os,xd,done,S,fu+1,bs,h1,h2,h3,h4,h5,h6,hS,b0,b1,he=>by
  have hlt:xd.length<F.length:=by rw[h1];simp
  have hx:F.getD xd.length (0,false)=v:=by rw[h1];exact JT
  have hvX:v.1.natAbs<=X:=hf v.1 (by rw[h1];unfold fs;simp);have hle:G.length<=os.length:=by simp at h4;omega
  have hGN:G.length<=N:=by
   have:(done++os).length=done.length+os.length:=aq;omega
  have hST:S<=T:=aX (cL _ _) hS;have hFl:F.length<=1000000:=by
   have:(xd++v::xr).length<=N:=by simp at h3 h4 ⊢;omega
   rw[h1];omega
  have hbd:=yE (x:=v.1) hvX hg h6;have hrl:=xJ (x:=v.1) (ys:=fs G) (os:=fs os) (by rw[ja,ja];exact hle);rw[ep];unfold oD;refine pm (gX hlt) (pm fG (pm (rdt (An hlt) fU) ?_));rw[hx];refine pm fY ?_;refine Uq (φ:=φ) (i:=xd.length) (G:=G) (eG:=eG) (eA:=v.2) (b0:=⟨[pz [0,1] ek,ni 1],.rw⟩) hvX hg hX hY (iK hT hST) hN hφ G os [] done φ bs rfl (by simp;omega) h3 hle eP h6 b0 b1 (by rw[<-h3];simp;omega) λbs' os' k1 k2 k3 k4=>?_;cases os' with
  |nil=>simp at k1;omega
  |cons w os2=>
   rw[<-k2]at hbd;have he2:vV (fs G) (fs (v::xr)) (fs os)=w.1::vV (fs G) (fs xr) (fs os2):=by
    show(match qA v.1 (fs G) (fs os)with|[]=>[]|o::os'=>o::vV (fs G) (fs xr) os')=_;rw[<-k2];rfl
   rw[he2]at he;have ih:=Uo (ek:=ek) hf hg hg0 hX hY hT hN hφ (eF:=eF) (eG:=eG) hP xr os2 (xd++[v]) (done++[w]) (S+X*Y) fu bs' (by rw[h1,aQ];rfl) (by simp;omega) (by rw[<-h3];simp at k1 ⊢;omega) (by simp at h4 k1;omega) (by simp at h5;omega) (λz hz=>hbd z (by unfold fs at hz ⊢;rw[cC];exact bC _ hz)) (by rw[ah,aS,ao]at hS;omega) k3 (by rw[k4,aQ];rfl) (by rw[<-he];unfold fs;rw[bG,aQ];rfl);rw[show(xd++[v]).length=xd.length+1 by simp]at ih;exact ih
def IQ(hf:BdL X (fs F))(hg:BdL Y (fs G))(hf0:0<F.length)(hg0:0<G.length)(hX:Lg 10000 X)(hY:Lg 10000 Y)(hN:F.length+G.length<=100000)(hφ:gW φ){eF eG:Bool}:∃L' e',fs L'=xP (fs F) (fs G)/\jI φ [kF ek,fD F eF,fD G eG]=some (fD L' e'):=by
 have hT:Lg 20000000 (F.length*(X*Y)):=fM (mB (te (show F.length<=1000000 by omega)) (mB hX hY)) eV
 suffices hh:∀P:Option D->Prop,(∀L' e',fs L'=xP (fs F) (fs G)->P (some (fD L' e')))->P (jI φ [kF ek,fD F eF,fD G eG])from
  hh (λo=>∃L' e',fs L'=xP (fs F) (fs G)/\o=some (fD L' e')) λL' e' h=>⟨L',e',h,rfl⟩
 intro P hP;unfold jI;refine(id ?_:P (u1 [kF ek,fD F eF,fD G eG] _));rw[fJ,fJ,fJ,fV,<-fg];refine pm (om rfl) (pm fY (pm (mJ eP) (pm iX (pm iX (pm fY (pm iX (pm (mJ eP) (pm ga (pm ez (pm fY (pm fY (pm (gA eP) (pm (iJ eP eP) (pm (BI rfl eP eP) (pm fY ?_)))))))))))))));rw[VC];have hfs:fs (List.replicate (F.length+G.length-1) ((0:Int),true))=List.replicate (F.length+G.length-1) 0:=by unfold fs;rw[de]
 exact Uo (P:=P) (ek:=ek) (X:=X) (Y:=Y) (T:=F.length*(X*Y)) (N:=F.length+G.length-1) hf hg hg0 (fM hX eV) (fM hY eV) hT eP hφ (λL' e' h=>hP L' e' (by rw[h];unfold xP;rw[ja,ja])) F (List.replicate (F.length+G.length-1) ((0:Int),true)) [] [] 0 φ _ rfl rfl fU (by simp;omega) eP (by rw[hfs];exact λz hz=>by rw[cG hz];exact aC 0) eP rfl rfl (by rw[hfs];rfl)
end
section
variable {bs:fQ} {f:fZ} {i k n c X Y:Nat} {ex ek:Bool} {s:LS} {K:fK} {φ:Nat} {z x:Int} {L F G:List (Int×Bool)}
def z4N:AV bs (kF ek) (kF ek) []:=λF=>rfl
def z3v{e:Bool}:AV bs (fD L e) (fD L e) []:=λF=>rfl
def Th(hf:0<f.length)(ht:tzI f=f):xP f [1]=f:=by
 have h1:∀k,ei (xP f [1]) k=ei f k:=λk=>by
  have h2:=congrArg (λz:ZX=>z.c k) (E4 hf (show 0<[(1:Int)].length from cD 0));simp only[sd]at h2;rw[h2];have h3:zl f*zl [1]=zl f:=by
   rw[show zl [1]=1 by rw[mC,pK,C_1];clear h2;exact z69];clear h2;exact z69
  rw[h3];rfl
 have h2:tzI (xP f [1])=xP f [1]:=by
  unfold xP;exact Ax λk=>wU k
 rw[<-h2,Ax h1,ht]
def Us(hf:BdL X (fs F))(hf0:0<F.length)(ht:tzI (fs F)=fs F)(hX:Lg 10000 X)(hN:F.length<=90000)(hφ:gW φ){eF e:Bool}:∃L' e',fs L'=fs F/\pd φ [kF ek,fD F eF,pz [1] e]=some (fD L' e'):=by
 let B1:fQ:=[]++[Blk.mk [pz [0,1] ek,ni 1] .rw]++[Blk.mk ([((1:Int),e)].map eD) .rw]
 have hb:B1[1]?=some ⟨[((1:Int),e)].map eD,.rw⟩:=rfl;obtain⟨e1,av⟩:=Gp (n:=1) (c:=1) (ex:=true) hb rfl rfl (λs F=>vu s _ F);obtain⟨L',e',g1,g2⟩:=IQ (φ:=φ) (ek:=ek) (G:=[(1,e)]) (Y:=1) hf bd1 hf0 (cD 0) hX (fM Qo eV|>λh=>iK h eV) (by show F.length+1<=100000;omega) hφ (eF:=eF) (eG:=e1);obtain⟨bs',c1,c2,c3⟩:=pR (AVL.cons (z4N (ek:=ek)) (AVL.cons (z3v (L:=F) (e:=eF)) (AVL.cons av AVL.nil))) (λk hk=>by
  have:k=1:=by simpa using hk
  subst this;exact fC hb) g2
 refine⟨L',e',by rw[g1];exact Th (by rw[ja];exact hf0) ht,?_⟩;have hk0:∀K:fK,eW 2 (mem ([]++[Blk.mk [pz [0,1] ek,ni 1] .rw])) (.ptr 0 0) K=K (kF ek) (mem ([]++[Blk.mk [pz [0,1] ek,ni 1] .rw])):=λK=>rfl;unfold pd;refine(id ?_:u1 [kF ek,fD F eF,pz [1] e] _=some (fD L' e'));rw[fJ,fJ,fJ,fV,<-fg];exact th (om rfl) (th (hk0 _) (th (B4 (zero:=[.tree [] 0 true]) (x:=pz [1] e) (new:=[pz [1] e]) (z:=1) rfl rfl rfl rfl) (th (c3 _) jV)))
def LZ{e:Bool}:kq φ [kF ek,fD [] e]=some gj:=rfl
def Ld(hf:BdL X (fs F))(hf0:0<F.length)(h1:ei (fs F) (F.length-1)=1)(hX:Lg 10000 X)(hN:F.length<=90000)(hφ:gW φ){eF:Bool}:∃L' e',fs L'=fs F/\kq φ [kF ek,fD F eF]=some (fD L' e'):=by
 have ht:tzI (fs F)=fs F:=t5 λd hd=>by
  rw[ja]at hd;rw[show d=F.length-1 by omega,h1];decide
 have hk0:∀K:fK,eW 2 (mem ([]++[Blk.mk [pz [0,1] ek,ni 1] .rw])) (.ptr 0 0) K=K (kF ek) (mem ([]++[Blk.mk [pz [0,1] ek,ni 1] .rw])):=λK=>rfl;have z6T:=An (L:=F) (i:=F.length-1) eP;have z8P:eD (F.getD (F.length-1) (0,false))=pz [1] (F.getD (F.length-1) (0,false)).2:=by
  unfold eD;rw[zb,show ei (F.map (·.1)) (F.length-1)=1 from h1];rfl
 rw[z8P]at z6T;obtain⟨e1,h3⟩:=N6 (φ:=φ) (ek:=ek) hφ (e:=(F.getD (F.length-1) (0,false)).2);obtain⟨L',e',g1,g2⟩:=Us (φ:=φ) (ek:=ek) hf hf0 ht hX hN hφ (eF:=eF) (e:=e1);refine⟨L',e',g1,?_⟩;unfold kq;refine(id ?_:u1 [kF ek,fD F eF] _=some (fD L' e'));rw[fJ,fJ,fV,<-fg];exact th (om rfl) (th fY (th (mJ eP) (th ez (th (hk0 _) (th (hk0 _) (th fY (th (iJ eP eP) (th (rdt z6T fU) (th (fX h3) (th (fX g2) jV))))))))))
def z39(hz:Lg 20000000 z.natAbs)(hx:Lg 20000000 x.natAbs)(hφ:gW φ){e e2:Bool}:∃e',pe φ [kF ek,pz (pc z) e,pz (pc x) e2]=some (pz (pc (z*x)) e'):=by
 obtain⟨e',h1⟩:=Yr (φ:=φ) hz hx hφ (e:=e) (e2:=e2);have hk0:∀K:fK,eW 2 (mem ([]++[Blk.mk [pz [0,1] ek,ni 1] .rw])) (.ptr 0 0) K=K (kF ek) (mem ([]++[Blk.mk [pz [0,1] ek,ni 1] .rw])):=λK=>rfl;refine⟨e',?_⟩;unfold pe;refine(id ?_:u1 [kF ek,pz (pc z) e,pz (pc x) e2] _=some (pz (pc (z*x)) e'));rw[fJ,fJ,fJ,fV,<-fg];exact th (om rfl) (th (hk0 _) (th (fX h1) (th (fX GU) jV)))
end
section
variable {bs:fQ} {o:fZ} {b:Blk} {i j k n c X N:Nat} {ex eg er ek:Bool} {s:LS} {K:fK} {φ:Nat} {P:Option D->Prop} {a z x:Int} {cs:fN} {L F G R:List (Int×Bool)}
def LY{ek:Bool}(hG:BdL X (fs G))(hX:Lg 10000 X)(hN:G.length=N)(hN1:N<=1000)(hφ:gW φ){eG ec:Bool}{q15:kT}{NN:D}{b3:Blk}(hP:∀R bs,R.length=N->(∀t,ei (fs R) t=0)->bs[2]?=some ⟨R.map eD,.rw⟩->bs[3]?=some b3->P (q15 (fD G eG) (.ptr 0 0) (.sl 2 0 N N 1 false) NN (.sl 3 0 1 1 1 true) (ix 0) (mem bs))):∀(t j fu:Nat)(R:List (Int×Bool))(bs:fQ),j+t=N->t<fu->R.length=N->(∀i,ei (fs R) i=if i<j then 0 else ei (fs G) i)->bs[0]?=some ⟨[pz [0,1] ek,ni 1],.rw⟩->bs[2]?=some ⟨R.map eD,.rw⟩->bs[3]?=some b3->
 P (lp uh (oc φ q15) fu (fD G eG) (.ptr 0 0) (.sl 2 0 N N 1 false) NN (.sl 3 0 1 1 1 true) (ni 0) (pz [1] ec) (fD G eG) (ni N) (ni j) (mem bs))
 |0,j,fu+1,R,bs,h1,h2,h3,h4,b0,b2,b3'=>by
  rw[ep];unfold oc;refine pm (gP eP) (pm ez ?_);show P (fe (ni 0) ej _);refine pm (ub (k:=0) eV) (hP R bs h3 (λt=>?_) b2 b3');rw[h4];split
  ·rfl
  ·rw[jr (by rw[ja];omega)]
 |t+1,j,fu+1,R,bs,h1,h2,h3,h4,b0,b2,b3'=>by
  have hk0:∀K:fK,eW 2 (mem bs) (.ptr 0 0) K=K (kF ek) (mem bs):=λK=>zZ b0 rfl (aC 2);have hgj:(G.getD j (0,false)).1=ei (fs G) j:=zb G j;have hrj:(R.getD j (0,false)).1=ei (fs G) j:=by
   rw[zb R j];have:=h4 j;rw[aG (bE j)]at this;exact this
  have lg:=fM (iK hX (hG.get j)) (show 10000<=20000000 by decide);obtain⟨e1,g1⟩:=z39 (φ:=φ) (ek:=ek) (z:=1) (x:=ei (fs G) j) lg1 lg hφ (e:=ec) (e2:=(G.getD j (0,false)).2);have g1:pe φ [kF ek,pz [1] ec,pz (pc (ei (fs G) j)) (G.getD j (0,false)).2]=some (pz (pc (1*ei (fs G) j)) e1):=g1;rw[Int.one_mul]at g1;obtain⟨e2,g2⟩:=z2C (φ:=φ) (z:=ei (fs G) j) (x:=ei (fs G) j) (fM lg eV) (fM lg eV) hφ (e:=(R.getD j (0,false)).2) (e2:=e1);rw[Int.sub_self]at g2;have eg:eD (G.getD j (0,false))=pz (pc (ei (fs G) j)) (G.getD j (0,false)).2:=by unfold eD;rw[hgj]
  have er:eD (R.getD j (0,false))=pz (pc (ei (fs G) j)) (R.getD j (0,false)).2:=by unfold eD;rw[hrj]
  have hlG:=An (L:=G) (i:=j) eP;have hlR:=An (L:=R) (i:=j) eP;rw[eg]at hlG;rw[er]at hlR;rw[ep];unfold oc;refine pm (gX eP) (pm fG (pm (rdt hlG fU) (pm (gA (a:=0) eP) (pm (gA (a:=0) eP) ?_))));rw[aN];refine pm (rd1 b2 rfl hlR eP) (pm (hk0 _) (pm (fX g1) (pm (fX g2) (pm (wr1 (d:=eD (0,e2)) b2 eP (by rw[aj];omega) rfl rfl) (pm (gA eP) ?_)))));rw[<-dC];refine LY (ek:=ek) hG hX hN hN1 hφ hP t (j+1) fu (R.set j (0,e2)) _ eP eP (by rw[a8];exact h3) (λi=>?_) (fc eV b0) (aH (fC b2)) (fc eV b3');have hs:fs (R.set j (0,e2))=(fs R).set j 0:=by unfold fs;rw[dC]
  rw[hs];unfold ei;rw[aB];by_cases e:i=j
  ·subst e;rw[aH (by rw[ja];omega),aF eP];rfl
  ·rw[bW (Ne.symm e),<-aB];have h5:=h4 i;unfold ei at h5;rw[h5];by_cases h6:i<j
   ·rw[aF h6,aF eP]
   ·rw[aG h6,aG eP]
def R9(hG:BdL X (fs G))(hX:Lg 10000 X)(hFG:fs F=fs G)(hN:G.length=n+1)(hN1:n<=900)(h1:ei (fs G) n=1)(hφ:gW φ){eF eG:Bool}:∃Q e e',mz φ [kF ek,fD F eF,fD G eG]=some (.tup [fD Q e,fD [] e']):=by
 have hFl:F.length=n+1:=by
  have:=congrArg List.length hFG;rw[ja,ja]at this;omega
 suffices hh:∀P:Option D->Prop,(∀Q e e',P (some (.tup [fD Q e,fD [] e'])))->P (mz φ [kF ek,fD F eF,fD G eG])from
  hh (λo=>∃Q e e',o=some (.tup [fD Q e,fD [] e'])) λQ e e'=>⟨Q,e,e',rfl⟩
 intro P hP;obtain⟨ψ,hψ⟩:∃ψ,φ=ψ+1+1:=⟨φ-2,eP⟩
 have hlp:∀{α:Type}(a:α)(b:α->α),lp a b φ=lp a b (ψ+1+1):=λa b=>by rw[<-hψ]
 have z8P:eD (F.getD n (0,false))=pz [1] (F.getD n (0,false)).2:=by
  unfold eD;rw[zb,show ei (F.map (·.1)) n=1 by rw[show F.map (·.1)=fs F from rfl,hFG];exact h1];rfl
 have hlF:=An (L:=F) (i:=n) eP;rw[z8P]at hlF;have z85:∀R bs,R.length=n+1->(∀t,ei (fs R) t=0)->bs[2]?=some ⟨R.map eD,.rw⟩->bs[3]?=some ⟨[((1:Int),(F.getD n (0,false)).2)].map eD,.rw⟩->P (lp iH (mW φ) (ψ+1) (fD G eG) (.ptr 0 0) (.sl 2 0 (n+1) (n+1) 1 false) (ni n) (.sl 3 0 1 1 1 true) (ix 0) (mem bs)):=λR bs r1 r2 b2 b3=>by
  obtain⟨e1,av1⟩:=Gp (n:=1) (c:=1) (ex:=true) b3 rfl rfl (λs F=>vu s _ F);obtain⟨Q,e2,_,_,g1⟩:=D3 (φ:=φ) (L:=[((1:Int),(F.getD n (0,false)).2)]) (show 1<=1000000 by decide) hφ (e:=e1);obtain⟨bs',c1,c2,c3⟩:=pR (AVL.cons av1 AVL.nil) (λk hk=>by
   have:k=3:=by simpa using hk
   subst this;exact fC b3) g1
  have b2':=c2 2 _ fU b2;obtain⟨e3,av2⟩:=Gp (n:=n+1) (c:=n+1) (ex:=false) b2' rfl (by rw[aj];exact r1) (λs F=>vu s _ F);obtain⟨Z,e4,z1,_,g2⟩:=D3 (φ:=φ) (L:=R) eP hφ (e:=e3);have hZ:Z=[]:=by
   have h2:Z.map (·.1)=[]:=by rw[z1];exact OD r2
   exact List.map_eq_nil_iff.1 h2
  subst hZ;unfold fD at g2;rw[r1]at g2;obtain⟨bs2,d1,d2,d3⟩:=pR (AVL.cons av2 AVL.nil) (λk hk=>by
   have:k=2:=by simpa using hk
   subst this;exact fC b2') g2
  rw[ep];unfold mW;exact pm sM (pm ez (pm (c3 _) (pm (d3 _) (pm Az (hP Q e2 e4)))))
 let B0:fQ:=[]++[Blk.mk [pz [0,1] ek,ni 1] .rw]++[Blk.mk [] .rw]
 obtain⟨j',c',e',bs',a1,a2,a3⟩:=Rp (bs:=B0) (k:=1) (z:=1) (bytes:=24) (n:=F.length) (cs:=F.map eD) (ex:=eF) (K:=λx6 s=>fT (fD G eG) s λx7 s=>fe x7 ej λx8=>fT (fD F eF) s λx9 s=>fe x9 x8 λx10=>kS (.max (.c fB) (.c x10)) s λx11 s=>io 1 24 ms s x11 x11 λx12 s=>fT x12 s λx13 s=>fe x13 ej λx14=>lp iH (mW φ) φ (fD G eG) (.ptr 0 0) x6 x8 x12 x14 s) rfl fU (VE F) eP eP;obtain⟨rfl,rfl,rfl,rfl⟩:=a3 eP;unfold mz;refine(id ?_:P (u1 [kF ek,fD F eF,fD G eG] _));rw[fJ,fJ,fJ,fV,<-fg];refine pm (om rfl) (pm (IC rfl) (pm a1 (pm fY (pm (iJ eP eP) (pm fY (pm (iJ eP eP) (pm CU (pm (BI rfl eP eP) (pm ou (pm (iJ eP eP) ?_))))))))));have e1:max 0 (F.length-(G.length-1))=1:=eP;rw[e1,hlp,ep];unfold mW;rw[hFl,hN,show n+1-1=n by omega];have hb2:(B0++[Blk.mk (F.map eD) .rw]++[Blk.mk (mf 1 [.tree [] 0 true]) .rw])[2]?=some ⟨F.map eD,.rw⟩:=rfl;have hb3:(B0++[Blk.mk (F.map eD) .rw]++[Blk.mk (mf 1 [.tree [] 0 true]) .rw])[3]?=some ⟨[.tree [] 0 true],.rw⟩:=rfl;have hb0:(B0++[Blk.mk (F.map eD) .rw]++[Blk.mk (mf 1 [.tree [] 0 true]) .rw])[0]?=some ⟨[pz [0,1] ek,ni 1],.rw⟩:=rfl;refine pm (uS (a:=0) (b:=0) (aC 0)) (pm fG (pm (gA (a:=0) (b:=n) eP) ?_));rw[aN];refine pm (rd1 hb2 rfl hlF eP) (pm (wr1 (d:=pz [1] (F.getD n (0,false)).2) hb3 eV (cD 0) rfl rfl) (pm fY ?_));rw[hN];exact LY (φ:=φ) (ek:=ek) (N:=n+1) hG hX hN eP hφ (λR bs r1 r2 b2 b3=>z85 R bs r1 r2 b2 b3) (n+1) 0 φ F _ eP eP hFl (λi=>by rw[aG (cO i),hFG]) (fc (show(3:Nat)≠0 by decide) hb0) (fc (show(3:Nat)≠2 by decide) hb2) (aH (fC hb3))
end
section
variable {bs:fQ} {l:fZ} {b:Blk} {i j k n c B X:Nat} {ex ek:Bool} {s:LS} {K:fK} {φ:Nat} {a z x:Int} {cs:fN} {V:D} {L F G O:List (Int×Bool)}
def R7(hG:BdL X (fs G))(hX:Lg 10000 X)(hFG:fs F=fs G)(hN:G.length=n+1)(hN1:n<=900)(h1:ei (fs G) n=1)(hφ:gW φ){eF eG:Bool}:∃L e,fs L=fs G/\rV φ [kF ek,fD F eF,fD G eG]=some (fD L e):=by
 obtain⟨ψ,hψ⟩:∃ψ,φ=ψ+1+1:=⟨φ-2,eP⟩
 have hlp:∀{α:Type}(a:α)(b:α->α),lp a b φ=lp a b (ψ+1+1):=λa b=>by rw[<-hψ]
 obtain⟨G1,e1,g1,g2⟩:=Ld (φ:=φ) (ek:=ek) (F:=G) hG eP (by rw[hN];exact h1) hX eP hφ (eF:=eG);have l1:G1.length=n+1:=by
  have:=congrArg List.length g1;rw[ja,ja]at this;omega
 have hG1:BdL X (fs G1):=by rw[g1];exact hG
 obtain⟨Q,e2,e3,g3⟩:=R9 (φ:=φ) (ek:=ek) (F:=F) (G:=G1) hG1 hX (by rw[g1,hFG]) l1 hN1 (by rw[g1];exact h1) hφ (eF:=eF) (eG:=e1);obtain⟨G2,e4,g4,g5⟩:=Ld (φ:=φ) (ek:=ek) (F:=G1) hG1 eP (by rw[l1,g1];exact h1) hX eP hφ (eF:=e1);refine⟨G2,e4,by rw[g4,g1],?_⟩;have hk0:∀K:fK,eW 2 (mem ([]++[Blk.mk [pz [0,1] ek,ni 1] .rw])) (.ptr 0 0) K=K (kF ek) (mem ([]++[Blk.mk [pz [0,1] ek,ni 1] .rw])):=λK=>rfl;unfold rV;refine(id ?_:u1 [kF ek,fD F eF,fD G eG] _=some (fD G2 e4));rw[fJ,fJ,fJ,fV,<-fg];refine th (om rfl) (th (hk0 _) (th (fX g2) ?_));rw[hlp,ep];unfold wu;refine th fY (th (oG eP) (th fG (th (hk0 _) (th (fX g3) (th iG (th iF (th (hk0 _) (th (fX LZ) ?_))))))));rw[ep];exact th fY (th (qw eV) (th ez (th (hk0 _) (th (fX g5) jV))))
def z3a(hs:F.length<=1000000){eF:Bool}:∃e,ye φ [fD F eF,ni i]=some (pz (pc (ei (fs F) i)) e):=by
 by_cases h:i<F.length
 ·refine⟨(F.getD i (0,false)).2,?_⟩;have hl:=Na (L:=F) h;unfold ye;dsimp only[fJ,fV];exact th fY (th (gX h) (th fG (th (rdt hl fU) jV)))
 ·refine⟨true,?_⟩;rw[jr (by rw[ja];omega)];unfold ye;dsimp only[fJ,fV];exact th fY (th (gP h) (th ez AK))
def EC{eF eG:Bool}(hF:BdL B (fs F))(hG:BdL B (fs G))(hB:Lg 10000 B)(hn:n<=100000)(hFl:F.length<=n)(hGl:G.length<=n)(hφ:gW φ):∀(j i fu:Nat)(O:List (Int×Bool))(V:D)(bs:fQ),i+j=n->j<fu->O.length=i->fs O=(List.range i).map (λk=>ei (fs F) k+ei (fs G) k)->AS 1 bs V (O.map eD) i->
 ∃L e,fs L=tzI ((List.range n).map λk=>ei (fs F) k+ei (fs G) k)/\lp iH (qd φ) fu (fD F eF) (fD G eG) (.fn 146 []) V (ni n) (ni i) (mem bs)=some (fD L e)
 |0,i,fu+1,O,V,bs,h1,h2,h3,h4,hA=>by
  have:i=n:=eP;subst this;have hav:∃e ls,AV bs V (fD O e) ls/\∀k,k∈ls->k<bs.length:=by
   by_cases h0:i=0
   ·subst h0;have hO:O=[]:=aZ h3;subst hO;generalize hcs:([]:List (Int×Bool)).map eD=cs at hA;cases hA with
    |nil=>exact⟨true,[],λF=>rfl,λk hk=>by cases hk⟩
    |blk hg hc=>
     subst hcs;obtain⟨e,av⟩:=Gp (n:=0) (c:=0) (ex:=false) hg rfl rfl (λs F=>rfl);exact⟨e,_,av,λk hk=>by
      have:k=_:=cY.1 hk;rw[this];exact fC hg⟩
   ·obtain⟨l,rfl,hg⟩:=ug hA h0;obtain⟨e,av⟩:=Gp (n:=i) (c:=i) (ex:=false) hg rfl (by rw[aj];exact h3) (λs F=>vu s _ F);refine⟨e,[l],?_,λk hk=>by
     rw[cY.1 hk];exact fC hg⟩
    unfold fD;rw[h3];exact av
  obtain⟨e,ls,av,hls⟩:=hav;obtain⟨L',e',g1,_,g2⟩:=D3 (φ:=φ) (L:=O) eP hφ (e:=e);obtain⟨bs',c1,c2,c3⟩:=pR (AVL.cons av AVL.nil) (λk hk=>hls k (by simpa using hk)) g2;refine⟨L',e',by unfold fs at h4 ⊢;rw[g1,h4],?_⟩;rw[ep];unfold qd;exact th (gP eP) (th ez (th (c3 _) jV))
 |j+1,i,fu+1,O,V,bs,h1,h2,h3,h4,hA=>by
  obtain⟨e1,g1⟩:=z3a (φ:=φ) (F:=F) (i:=i) eP (eF:=eF);obtain⟨e2,g2⟩:=z3a (φ:=φ) (F:=G) (i:=i) eP (eF:=eG);obtain⟨e3,g3⟩:=TZ (φ:=φ) (z:=ei (fs F) i) (x:=ei (fs G) i) (fM (iK hB (hF.get i)) eV) (fM (iK hB (hG.get i)) eV) hφ (e:=e1) (e2:=e2);have hdy:∀(s:LS)(K:fK),D5 (gH φ) false (.fn 146 []) [pz (pc (ei (fs F) i)) e1,pz (pc (ei (fs G) i)) e2] s K=K (pz (pc (ei (fs F) i+ei (fs G) i)) e3) s:=λs K=>by
   show eY (l8 φ) [pz (pc (ei (fs F) i)) e1,pz (pc (ei (fs G) i)) e2] s K=_;exact fX g3
  obtain⟨bs2,X',d1,d2,d3⟩:=ap1 (K:=λx19 s=>f7 (ni i) ej λx20=>lp iH (qd φ) fu (fD F eF) (fD G eG) (.fn 146 []) x19 (ni n) x20 s) (bytes:=24) (zero:=[.tree [] 0 true]) (x:=eD (ei (fs F) i+ei (fs G) i,e3)) (new:=[eD (ei (fs F) i+ei (fs G) i,e3)]) hA rfl rfl rfl rfl eP eP;have hm:O.map eD++[eD (ei (fs F) i+ei (fs G) i,e3)]=(O++[(ei (fs F) i+ei (fs G) i,e3)]).map eD:=by rw[bG];rfl
  rw[hm]at d1;obtain⟨L,e,r1,r2⟩:=EC (eF:=eF) (eG:=eG) hF hG hB hn hFl hGl hφ j (i+1) fu (O++[(ei (fs F) i+ei (fs G) i,e3)]) X' bs2 eP eP (by simp;omega) (by
   rw[KW,<-h4];unfold fs;rw[bG];rfl) d1
  refine⟨L,e,r1,?_⟩;rw[ep];unfold qd;exact th (gX eP) (th fG (th (fX g1) (th (fX g2) (th (hdy _ _) (d3.trans (th (gA eP) r2))))))
def Ra(hF:BdL B (fs F))(hG:BdL B (fs G))(hB:Lg 10000 B)(hFl:F.length<=50000)(hGl:G.length<=50000)(hφ:gW φ){eF eG:Bool}:∃L e,fs L=tzI ((List.range (max F.length G.length)).map λk=>ei (fs F) k+ei (fs G) k)/\uK φ [fD F eF,fD G eG,.fn 146 []]=some (fD L e):=by
 obtain⟨L,e,h1,h2⟩:=EC (φ:=φ) (eF:=eF) (eG:=eG) (n:=max F.length G.length) hF hG hB eP eP eP hφ (max F.length G.length) 0 φ [] gj [] eP eP rfl rfl AS.nil;refine⟨L,e,h1,?_⟩;unfold uK;dsimp only[fJ,fV];rw[<-fg];exact th fY (th fY (th CU h2))
end
section
variable {bs:fQ} {f g:fZ} {b:Blk} {i j k n c X:Nat} {ex ek:Bool} {s:LS} {K:fK} {φ:Nat} {a z x:Int} {L F G O:List (Int×Bool)}
def Uz(k:Nat):ei (xP f [0,1]) k=if f=[]then ei (xP f [0,1]) k else shI (ei f) k:=by
 by_cases h:f=[]
 ·rw[aF h]
 ·rw[aG h];have h2:=congrArg (λz:ZX=>z.c k) (E4 (f:=f) (g:=[0,1]) (az.2 h) (cD 1));simp only[sd]at h2;rw[h2];have h3:zl f*zl [0,1]=XX*zl f:=by
   rw[mC,mC,pK,C_0,C_1];clear h2;exact z69
  rw[h3,SJ];rfl
def z1e(hf:BdL X (fs F))(hX:Lg 10000 X)(hN:F.length<=90000)(hG:fs G=[0,1])(hφ:gW φ){eF eG:Bool}:∃L e,(∀k,ei (fs L) k=shI (ei (fs F)) k)/\L.length<=F.length+1/\jI φ [kF ek,fD F eF,fD G eG]=some (fD L e):=by
 have hGl:G.length=2:=by
  have:=congrArg List.length hG;rw[ja]at this;exact this
 by_cases h0:F=[]
 ·subst h0;refine⟨[],true,λk=>by cases k<;>rfl,by simp,?_⟩;unfold jI;refine(id ?_:u1 [kF ek,fD [] eF,fD G eG] _=some (fD [] true));rw[fJ,fJ,fJ,fV,<-fg];exact th (om rfl) (th fY (th (oW rfl) (th qV (th qV (th qV (th gT (th fG AK)))))))
 ·have hF0:=az.2 h0;have hg:BdL 1 (fs G):=by
   rw[hG];intro x hx;have:x=0\/x=1:=by simpa using hx
   rcases this with rfl|rfl<;>decide
  obtain⟨L,e,g1,g2⟩:=IQ (φ:=φ) (ek:=ek) hf hg hF0 eP hX (iK (fM Qo eV) (show 1<=65 by decide)) eP hφ (eF:=eF) (eG:=eG);refine⟨L,e,λk=>?_,?_,g2⟩
  ·rw[g1,hG,Uz,aG (λh=>h0 (by
    have:=congrArg List.length h;rw[ja]at this;exact aZ this))]
  ·have h1:=congrArg List.length g1;have h2:=Fi (f:=fs F) (g:=fs G) (by rw[ja];exact hF0) (by rw[ja];omega);rw[ja]at h1;rw[ja,ja]at h2;omega
def FG{ek eF eS:Bool}(hf:BdL X (fs F))(hX:Lg 9000 X)(hN:F.length=n+1)(hN1:n<=1000)(h1:ei (fs F) n=1)(hG:fs G=[0,1])(hφ:gW φ):∀(k fu:Nat)(O:List (Int×Bool))(e:Bool)(bs:fQ),k<=n+1->k<fu->fs O=(fs F).drop k->bs[0]?=some ⟨[pz [0,1] ek,ni 1],.rw⟩->
 ∃L e',fs L=fs F/\lp gQ (pJ φ) fu (fD F eF) (.ptr 0 0) (fD O e) (fD G eS) (ix k) (mem bs)=some (fD L e')
 |0,fu+1,O,e,bs,h2,h3,h4,b0=>by
  refine⟨O,e,by rw[h4,a7],?_⟩;rw[ep];unfold pJ;exact th sM (th ez jV)
 |k+1,fu+1,O,e,bs,h2,h3,h4,b0=>by
  have hk0:∀K:fK,eW 2 (mem bs) (.ptr 0 0) K=K (kF ek) (mem bs):=λK=>zZ b0 rfl (aC 2);have hOl:O.length=n-k:=by
   have:=congrArg List.length h4;rw[ja,bR,ja]at this;omega
  have hOb:BdL X (fs O):=by rw[h4];exact λx hx=>hf x (ba hx)
  obtain⟨M1,e1,g1,g2,g3⟩:=z1e (φ:=φ) (ek:=ek) hOb (fM hX eV) eP hG hφ (eF:=e) (eG:=eS);have hlF:=An (L:=F) (i:=k) eP;have hb:(bs++[Blk.mk ([F.getD k (0,false)].map eD) .rw])[bs.length]?=some ⟨[F.getD k (0,false)].map eD,.rw⟩:=by simp
  obtain⟨e2,av⟩:=Gp (n:=1) (c:=1) (ex:=true) hb rfl rfl (λs F=>vu s _ F);obtain⟨C,e3,c1,⟨t,ct⟩,c2⟩:=D3 (φ:=φ) (L:=[F.getD k (0,false)]) (show 1<=1000000 by decide) hφ (e:=e2);obtain⟨bs2,d1,d2,d3⟩:=pR (AVL.cons av AVL.nil) (λj hj=>by
   have:j=bs.length:=by simpa using hj
   subst this;exact fC hb) c2
  have hCl:C.length<=1:=by rw[ct,aR];exact Nat.min_le_right _ _
  have hCe:∀j,ei (fs C) j=if j=0 then ei (fs F) k else 0:=λj=>by
   show ei (C.map (·.1)) j=_;rw[c1,wU];cases j with
   |zero=>rw[aF rfl];exact zb F k
   |succ j=>rw[aG eP];rfl
  have hM1:BdL X (fs M1):=Da λj=>by
   rw[g1];cases j with
   |zero=>exact aJ _
   |succ j=>exact hOb.get j
  have hCb:BdL X (fs C):=Da λj=>by
   rw[hCe];split
   ·exact hf.get k
   ·exact aJ _
  obtain⟨O2,e4,r1,r2⟩:=Ra (φ:=φ) (F:=M1) (G:=C) hM1 hCb (fM hX eV) eP eP hφ (eF:=e1) (eG:=e3);have hdr:(fs F).drop k=ei (fs F) k::(fs F).drop (k+1):=Jg (by rw[ja];omega);have hdt:tzI ((fs F).drop k)=(fs F).drop k:=t5 λd hd=>by
   rw[bR,ja]at hd;rw[Pi,show k+d=n by omega,h1];decide
  have hO2:fs O2=(fs F).drop k:=by
   rw[r1,<-hdt];refine Ax λj=>?_;rw[ue,hdr];have zaT:¬j<max M1.length C.length->ei (fs M1) j=0/\ei (fs C) j=0:=λh=>⟨jr (by rw[ja];omega),jr (by rw[ja];omega)⟩
   have z6F:ei (fs M1) j+ei (fs C) j=ei (ei (fs F) k::(fs F).drop (k+1)) j:=by
    rw[g1,hCe,h4];cases j with
    |zero=>rw[aF rfl];show 0+_=ei (fs F) k;omega
    |succ j=>rw[aG eP];show ei _ j+0=ei _ j;omega
   split
   ·exact z6F
   ·rename_i h;obtain⟨x1,x2⟩:=zaT h;rw[<-z6F,x1,x2];rfl
  obtain⟨L,e5,z1,z2⟩:=FG (eF:=eF) (eS:=eS) hf hX hN hN1 h1 hG hφ k fu O2 e4 bs2 eP eP hO2 (d2 0 _ (λhm=>by
   have:(0:Nat)=bs.length:=by simpa using hm
   have:=fC b0;omega) (fW b0))
  refine⟨L,e5,z1,?_⟩;rw[ep];unfold pJ;exact th (uS (a:=k) (b:=0) (aJ _)) (th fG (th (hk0 _) (th (fX g3) (th (rdt hlF fU) (th (B4 (zero:=[.tree [] 0 true]) (x:=eD (F.getD k (0,false))) (new:=[eD (F.getD k (0,false))]) (z:=1) rfl rfl rfl rfl) (th (d3 _) (th (fX r2) (th (ub eP) z2))))))))
end
section
variable {bs:fQ} {f g l:fZ} {b:Blk} {i j k n c X:Nat} {ex ef ek:Bool} {s:LS} {K:fK} {q p:Rat} {φ:Nat} {z x:Int} {cs:fN} {V:D} {L F G O:List (Int×Bool)}
def z3r{p q:Int×Bool}:iO 2 [.tree [] 0 true] [(0,1,eD p),(1,1,eD q)] (mem bs) K=K (.sl bs.length 0 2 2 1 true) (mem (bs++[⟨[p,q].map eD,.rw⟩])):=by
 show lh (mem bs) ⟨[eD p,eD q],.rw⟩ (λs'=>K (.sl (mem bs).nx 0 2 2 1 true) s')=_;rw[kI,mP];rfl
def Pe(hf:BdL X (fs F))(hX:Lg 9000 X)(hN:F.length=n+1)(hN1:n<=1000)(h1:ei (fs F) n=1)(hφ:gW φ){eF ea:Bool}:∃L e',fs L=fs F/\nX φ [kF ek,fD F eF,pz [] ea]=some (fD L e'):=by
 obtain⟨e1,bs1,a1,a2,a3⟩:=SM (bs:=[]++[Blk.mk [pz [0,1] ek,ni 1] .rw]) (φ:=φ) (z:=1) hφ eV;have b0:bs1[0]?=some ⟨[pz [0,1] ek,ni 1],.rw⟩:=a2 _ _ rfl;have hb:(bs1++[Blk.mk ([((0:Int),ea),(1,e1)].map eD) .rw])[bs1.length]?=some ⟨[((0:Int),ea),(1,e1)].map eD,.rw⟩:=by simp
 obtain⟨e2,av⟩:=Gp (n:=2) (c:=2) (ex:=true) hb rfl rfl (λs F=>vu s _ F);obtain⟨G,e3,c1,_,c2⟩:=D3 (φ:=φ) (L:=[((0:Int),ea),(1,e1)]) (show 2<=1000000 by decide) hφ (e:=e2);obtain⟨bs2,d1,d2,d3⟩:=pR (AVL.cons av AVL.nil) (λj hj=>by
  have:j=bs1.length:=by simpa using hj
  subst this;exact fC hb) c2
 have hG:fs G=[0,1]:=c1;obtain⟨L,e4,z1,z2⟩:=FG (φ:=φ) (ek:=ek) (eF:=eF) (eS:=e3) hf hX hN hN1 h1 hG hφ (n+1) φ [] true bs2 (aC _) eP (by rw[zmI (by rw[ja];omega)];rfl) (d2 0 _ (λhm=>by
  have:(0:Nat)=bs1.length:=by simpa using hm
  have:=fC b0;omega) (fW b0))
 refine⟨L,e4,z1,?_⟩;unfold nX;refine(id ?_:u1 [kF ek,fD F eF,pz [] ea] _=some (fD L e4));rw[fJ,fJ,fJ,fV,<-fg];refine th (om rfl) ((a3 _).trans (th (z3r (p:=(0,ea)) (q:=(1,e1))) (th (d3 _) (th fY ?_))));rw[hN];exact th (ub eP) z2
def VD(g:Nat->Option Blk)(j:Nat):∀L:List (Int×Bool),i8 (res g (j+1)) (L.map eD)=some (L.map eD,[])
 |[]=>rfl
 |p::L=>by
  rw[cC];unfold i8;rw[VD g j L,show res g (j+1) (eD p)=some (eD p,[])from rfl];rfl
def K7{ef:Bool}(hs:f.length<=1000000)(hφ:gW φ):∀(j i fu:Nat)(O:List (Int×Bool))(V:D)(bs:fQ),i+j=f.length->j<fu->O.length=i->fs O=f.take i->AS 1 bs V (O.map eD) i->
 ∃L e,fs L=f/\lp jc (nW φ) fu V (zn f ef) (ni f.length) (ni i) (mem bs)=some (fD L e)
 |0,i,fu+1,O,V,bs,h1,h2,h3,h4,hA=>by
  have:i=f.length:=eP;subst this;have hO:fs O=f:=by rw[h4,bV]
  have zaR:∃e,fO false (mem bs) V some=some (fD O e):=by
   by_cases h0:f.length=0
   ·have hO0:O=[]:=aZ eP;subst hO0;generalize hcs:([]:List (Int×Bool)).map eD=cs at hA;rw[h0]at hA;cases hA with
    |nil=>exact⟨true,AK⟩
    |blk hg hc=>
     subst hcs;exact FU hg rfl λg=>rfl
   ·obtain⟨l,rfl,hg⟩:=ug hA h0;obtain⟨e,he⟩:=FU (c:=f.length) (ex:=false) (n:=f.length) hg (by rw[aj];exact h3) λg=>VD g 58 O;refine⟨e,he.trans ?_⟩;unfold fD;rw[h3]
  obtain⟨e,he⟩:=zaR;refine⟨O,e,hO,?_⟩;rw[ep];unfold nW;exact th (gP eP) (th ez he)
 |j+1,i,fu+1,O,V,bs,h1,h2,h3,h4,hA=>by
  let bA:fQ:=bs++[Blk.mk (zcs (ei f i)) .rw]
  let bB:fQ:=bA++[Blk.mk (rcs ((ei f i:Int):Rat)) .rw]
  have hw:kN φ [itz (ei f i)]=some (rc ((ei f i:Int):Rat)):=by
   rw[DI];exact JG
  have hbB:bB[bA.length]?=some ⟨rs (zr [ei f i]),.rw⟩:=by simp[bB];rfl
  obtain⟨e1,hd⟩:=JZ (n':=(ib (zr [ei f i])).length) (cs:=rs (ib (zr [ei f i]))) (bs:=bB) (c:=1) (ex:=true) (n:=1) (M:=gY φ) (K:=λx15 s=>iO 1 ms [(0,1,x15)] s λx16 s=>mc 1 24 s V x16 λx17 s=>f7 (ni i) ej λx18=>lp jc (nW φ) fu x17 (zn f ef) (ni f.length) x18 s) hbB (yC rfl) rfl rfl (λex'=>FZ rfl eV eP);have hpt:D.tree (rs (ib (zr [ei f i]))) (ib (zr [ei f i])).length e1=eD (ei f i,e1):=by
   rw[AD,Ho (l:=[ei f i]) (λk hk=>by
    obtain⟨d,rfl⟩:∃d,k=d+1:=⟨k-1,eP⟩
    rfl),nK];rfl
  rw[hpt]at hd;have hAl:bA.length=bs.length+1:=by simp[bA]
  have hAB:AS 1 (bB.set bA.length ⟨rs (zr [ei f i]),fzS .rw⟩) V (O.map eD) i:=Em hA λk b h=>fc (by have:=fC h;omega) (fW (fW h));obtain⟨bs2,X',d1,d2,d3⟩:=ap1 (K:=λx17 s=>f7 (ni i) ej λx18=>lp jc (nW φ) fu x17 (zn f ef) (ni f.length) x18 s) (bytes:=24) (zero:=[.tree [] 0 true]) (x:=eD (ei f i,e1)) (new:=[eD (ei f i,e1)]) hAB rfl rfl rfl rfl eP eP;have hm:O.map eD++[eD (ei f i,e1)]=(O++[(ei f i,e1)]).map eD:=by rw[bG];rfl
  rw[hm]at d1;have htk:f.take (i+1)=f.take i++[ei f i]:=by
   have hil:i<f.length:=eP;rw[dj,aE hil];unfold ei;rw[aB,aE hil];rfl
  obtain⟨L,e,r1,r2⟩:=K7 (ef:=ef) hs hφ j (i+1) fu (O++[(ei f i,e1)]) X' bs2 eP eP (by simp;omega) (by
   rw[htk,<-h4];unfold fs;rw[bG];rfl) d1
  refine⟨L,e,r1,?_⟩;rw[ep];unfold nW;exact th (gX eP) (th fG (th (ldt eP) (th (al2 rfl) (th A7 (th (iI1 hw) (th (B4 (zero:=[.b false,.n 0,.n 0]) (x:=rc ((ei f i:Int):Rat)) (new:=rcs ((ei f i:Int):Rat)) (z:=3) rfl rfl rfl rfl) (hd.trans (d3.trans (th (gA eP) r2)))))))))
def N4(hs:f.length<=1000000)(hφ:gW φ):∃L e,fs L=f/\sU φ [zn f ef]=some (fD L e):=by
 obtain⟨L,e,h1,h2⟩:=K7 (φ:=φ) (ef:=ef) hs hφ f.length 0 φ [] gj [] eP eP rfl rfl AS.nil;refine⟨L,e,h1,?_⟩;unfold sU;dsimp only[fJ,fV];rw[<-fg];exact th fY h2
end
section
variable {bs:fQ} {f:fZ} {ex ey ek:Bool} {s:LS} {K:fK} {φ:Nat} {a z y x:Int}
def R6(hφ:gW φ){e:Bool}:∃e',ie φ [kF ek,pz [0,1] e]=some (pz [] e'):=by
 have hb:BdL 1 [0,1]:=λx hx=>by
  have:x=0\/x=1:=by simpa using hx
  rcases this with rfl|rfl<;>decide
 obtain⟨e1,e2,h1⟩:=VH (φ:=φ) (ex:=e) (ey:=ek) (f:=[0,1]) hb Qp (cD 1) rfl eV hφ;have hf1:∀K:fK,(fF 1 (mem ([]++[Blk.mk [pz [0,1] ek,ni 1] .rw])) (.ptr 0 0) λa s=>eR s a K)=K (ni 1) (mem ([]++[Blk.mk [pz [0,1] ek,ni 1] .rw])):=λK=>rfl;have hf0:∀K:fK,(fF 0 (mem ([]++[Blk.mk [pz [0,1] ek,ni 1] .rw])) (.ptr 0 0) λa s=>eR s a K)=K (pz [0,1] ek) (mem ([]++[Blk.mk [pz [0,1] ek,ni 1] .rw])):=λK=>rfl;refine⟨e2,?_⟩;unfold ie;refine(id ?_:u1 [kF ek,pz [0,1] e] _=some (pz [] e2));rw[fJ,fJ,fV,<-fg];exact th (om rfl) (th fY (th (hf1 _) (th (Ft (show 1<2 by decide)) (th ez (th (hf0 _) (th (fX h1) (th iG (th iF jV))))))))
def Le(hφ:gW φ):∃e',mV φ [kF ek]=some (pz [] e'):=by
 obtain⟨e1,bs1,a1,a2,a3⟩:=SL (bs:=[]++[Blk.mk [pz [0,1] ek,ni 1] .rw]) (φ:=φ) (z:=0) (y:=1) hφ eV eV;obtain⟨e2,h2⟩:=R6 (φ:=φ) (ek:=ek) (e:=e1) hφ;have hk0:∀K:fK,eW 2 (mem ([]++[Blk.mk [pz [0,1] ek,ni 1] .rw])) (.ptr 0 0) K=K (kF ek) (mem ([]++[Blk.mk [pz [0,1] ek,ni 1] .rw])):=λK=>rfl;refine⟨e2,?_⟩;unfold mV;refine(id ?_:u1 [kF ek] _=some (pz [] e2));rw[fJ,fV,<-fg];exact th (om rfl) (th (hk0 _) ((a3 _).trans (th (fX h2) jV)))
def z1c(hφ:gW φ):∃e',kZ φ [ni 0,.fp [pz [0,1] ek,ni 1]]=some (pz [] e'):=by
 obtain⟨e1,h1⟩:=Le (φ:=φ) (ek:=ek) hφ;obtain⟨e2,h2⟩:=JK (φ:=φ) (z:=0) (x:=0) lg0 lg0 hφ (e:=e1);have h2:ig φ [pz [] e1,rc 0]=some (pz [] e2):=h2;have hk0:∀(s:LS)(K:fK),eW 2 s (.fp [pz [0,1] ek,ni 1]) K=K (kF ek) s:=λs K=>rfl;refine⟨e2,?_⟩;unfold kZ;refine(id ?_:u1 [ni 0,.fp [pz [0,1] ek,ni 1]] _=some (pz [] e2));rw[fJ,fJ,fV,<-fg];exact th (hk0 _ _) (th (fX h1) (th (fX Hi) (th (fX h2) jV)))
end
section
variable {bs:fQ} {f g l:fZ} {b:Blk} {i k n c:Nat} {ex ef eg ek:Bool} {s:LS} {K:fK} {φ:Nat} {a z x:Int} {cs:fN} {L F G:List (Int×Bool)} {st:Stt}
def z3t(hb:bs[k]?=some ⟨[pz [0,1] ek,ni 1],st⟩)(hl:st.live=true):AV bs (.ptr k 0) (.fp [pz [0,1] ek,ni 1]) [k]:=λF=>by
 show(iq (mem bs) k λb=>cnd (lv b.st) (jJ 0 b.cs λr=>ma (jX (mem bs) 59) r λcs ls=>F (.fp cs) (k::ls)) none)=_;rw[gV hb];show cnd (lv st) _ none=_;rw[nQ,hl,fH,gZ];rfl
def Pj(hb:bs[0]?=some ⟨[pz [0,1] ek,ni 1],st⟩)(hl:st.live=true)(hφ:gW φ):∃e,∀K:fK,D5 (gH φ) true (.fn 144 [.ptr 0 0]) [ni 0] (mem bs) K=K (pz [] e) (mem (bs.set 0 ⟨[pz [0,1] ek,ni 1],fzS st⟩)):=by
 obtain⟨e,he⟩:=z1c (φ:=φ) (ek:=ek) hφ;refine⟨e,λK=>?_⟩;show eY (kZ φ) [ni 0,.ptr 0 0] (mem bs) K=_;unfold eY;refine((AVL.cons (z1C (k:=.i64) (z:=.ofNat 0)) (AVL.cons (z3t hb hl) AVL.nil)).map _).trans ?_;show(ob (kZ φ [ni 0,.fp [pz [0,1] ek,ni 1]]) λr=>nD (mem bs) ([]++([0]++[])) r K)=_;rw[he,jY];unfold nD;rw[lJ];show Aa [0] (mem bs) (λs=>K (pz [] e) s)=_;rw[PZ hb]
def YI(h:FA n a f)(hn:3<=n)(hF:fs F=f)(hφ:gW φ){eF:Bool}:∃L e e',fs L=f/\p9 φ [kF ek,fD F eF]=some (.tree [fD L e] 1 e'):=by
 have hx:=h.xa;have zcm:=h.n64;have hl:=hx.len;have ha0:a≠0:=by have:=h.a4;omega
 have hFl:F.length=n+1:=by
  have:=congrArg List.length hF;rw[ja]at this;omega
 have z9s:Lg 1000 1:=by show Nat.log2 1<=_;rw[show Nat.log2 1=0 from by decide];exact aJ _
 have hBs:Lg 1001 (a.natAbs+1):=tf h.al z9s;have hB:Lg 100000000 (a.natAbs+1):=fM hBs eV;have hbd:BdL (a.natAbs+1) f:=hx.bd
 let B0:fQ:=[]++[Blk.mk [pz [0,1] ek,ni 1] .rw]
 have b0:B0[0]?=some ⟨[pz [0,1] ek,ni 1],.rw⟩:=rfl;obtain⟨e1,d1⟩:=Pj (φ:=φ) b0 rfl hφ;obtain⟨F1,e2,s1,s2⟩:=Pe (φ:=φ) (ek:=ek) (F:=F) (by rw[hF];exact hbd) (fM hBs eV) hFl eP (by rw[hF];exact hx.top) hφ (eF:=eF) (ea:=e1);rw[hF]at s1;have l1:F1.length=n+1:=by
  have:=congrArg List.length s1;rw[ja]at this;omega
 obtain⟨e3,p1⟩:=N5 (φ:=φ) (ek:=ek) (L:=F1) (e0:=e2) eP eP ⟨a.natAbs+1,fM hBs eV,by show BdL _ (fs F1);rw[s1];exact hbd⟩ hφ;have p1:lb φ [kF ek,fD F1 e2]=some (pz f e3):=by
  have e:tzI (F1.map (·.1))=f:=by show tzI (fs F1)=f;rw[s1];exact hx.tz
  rw[e]at p1;exact p1
 obtain⟨e4,p2⟩:=vC (φ:=φ) (ef:=e3) hbd hB eP hφ;rw[hx.der.1]at p2;obtain⟨e5,p3⟩:=JN (φ:=φ) (ef:=e3) (eg:=e4) hx h.al ha0 hφ;obtain⟨e6,e7,p4⟩:=QZ (φ:=φ) (ef:=e3) h hφ;obtain⟨L1,e8,r1,r2⟩:=N4 (φ:=φ) (f:=f) (ef:=e6) eP hφ;have l2:L1.length=n+1:=by
  have:=congrArg List.length r1;rw[ja]at this;omega
 obtain⟨L2,e9,g1,g2⟩:=R7 (φ:=φ) (ek:=ek) (F:=F1) (G:=L1) (by rw[r1];exact hbd) (fM hBs eV) (by rw[s1,r1]) l2 eP (by rw[r1];exact hx.top) hφ (eF:=e2) (eG:=e8);rw[r1]at g1;have l3:L2.length=n+1:=by
  have:=congrArg List.length g1;rw[ja]at this;omega
 obtain⟨ψ,hψ⟩:∃ψ,φ=ψ+1+1:=⟨φ-2,eP⟩
 have hlp:∀{α:Type}(a:α)(b:α->α),lp a b φ=lp a b (ψ+1+1):=λa b=>by rw[<-hψ]
 let B1:fQ:=B0.set 0 ⟨[pz [0,1] ek,ni 1],fzS .rw⟩
 have b1:B1[0]?=some ⟨[pz [0,1] ek,ni 1],fzS .rw⟩:=rfl;have hk0:∀K:fK,eW 2 (mem B0) (.ptr 0 0) K=K (kF ek) (mem B0):=λK=>rfl;have hk1:∀K:fK,eW 2 (mem B1) (.ptr 0 0) K=K (kF ek) (mem B1):=λK=>zZ b1 rfl (aC 2)
 let B2:fQ:=B1++[Blk.mk [zn f e6,ni 1] .rw]
 have b2:B2[0]?=some ⟨[pz [0,1] ek,ni 1],fzS .rw⟩:=rfl;have hk2:∀K:fK,eW 2 (mem B2) (.ptr 0 0) K=K (kF ek) (mem B2):=λK=>zZ b2 rfl (aC 2);have hst:∀K:fK,(ff [.tree [] 0 true,fB] (mem B1) λx s=>fA 2 s x (.agg [zn f e6,ni 1]) λ_ s=>K x s)=K (.ptr 1 0) (mem B2):=λK=>by
  refine th vM ?_;have hb:(B1++[Blk.mk [.tree [] 0 true,fB] .rw])[1]?=some ⟨[.tree [] 0 true,fB],.rw⟩:=rfl;exact xF (cs':=[zn f e6,ni 1]) hb rfl (hx:=rfl) (hn:=rfl) (h1:=rfl) (hl:=rfl)
 have hld:∀(s:LS)(K:fK),(eT 2 s (.tree [zn f e6,ni 1] 1 e7) (ni 0) λx12 s=>eW 2 s x12 K)=K (.agg [zn f e6,ni 1]) s:=λs K=>rfl;have hf0:∀K:fK,(fF 0 (mem B2) (.ptr 1 0) λx15 s=>eR s x15 K)=K (zn f e6) (mem B2):=λK=>by
  have hb:B2[1]?=some ⟨[zn f e6,ni 1],.rw⟩:=rfl;refine th qm ?_;rw[hb,jY];show cnd true _ none=_;rw[fH];exact vp hb rfl rfl
 obtain⟨e10,d2⟩:=Pj (φ:=φ) b2 rfl hφ;obtain⟨L3,e11,t1,t2⟩:=Pe (φ:=φ) (ek:=ek) (F:=L2) (by rw[g1];exact hbd) (fM hBs eV) l3 eP (by rw[g1];exact hx.top) hφ (eF:=e9) (ea:=e10)
 let B3:fQ:=B2.set 0 ⟨[pz [0,1] ek,ni 1],fzS (fzS .rw)⟩
 have hk3:∀K:fK,eW 2 (mem B3) (.ptr 0 0) K=K (kF ek) (mem B3):=λK=>zZ (b:=⟨[pz [0,1] ek,ni 1],fzS (fzS .rw)⟩) rfl rfl (aC 2);obtain⟨bs4,X',c1,c2,c3⟩:=ap1 (K:=λx46 s=>f7 (ni 0) ej λx47=>lp pu (la φ) (ψ+1) (.ptr 0 0) (ni 0) (fD F1 e2) (.fn 144 [.ptr 0 0]) x46 (.tree [zn f e6,ni 1] 1 e7) (ni 1) x47 s) (bytes:=24) (zero:=[.tree [] 0 true]) (x:=fD L3 e11) (new:=[fD L3 e11]) (AS.nil (z:=1) (bs:=B3)) rfl rfl rfl rfl eV eV;obtain⟨l,rfl,hg⟩:=ug c1 eV;obtain⟨e12,hr⟩:=FU (c:=1) (ex:=false) (n:=1) (k:=l) hg rfl λg=>rfl;refine⟨L3,e11,e12,by rw[t1,g1],?_⟩;have z85:lp pu (la φ) (ψ+1) (.ptr 0 0) (ni 0) (fD F1 e2) (.fn 144 [.ptr 0 0]) (.sl l 0 1 1 1 false) (.tree [zn f e6,ni 1] 1 e7) (ni 1) (ni 1) (mem bs4)=some (.tree [fD L3 e11] 1 e12):=by
  rw[ep];unfold la;exact th (gP (bE 1)) (th ez hr)
 have hl0:lp pu (la φ) (ψ+1+1) (.ptr 0 0) (ni 0) (fD F1 e2) (.fn 144 [.ptr 0 0]) gj (.tree [zn f e6,ni 1] 1 e7) (ni 1) (ni 0) (mem B1)=some (.tree [fD L3 e11] 1 e12):=by
  rw[ep];unfold la;refine th (gX eV) (th fG (th (hld _ _) (th (hst _) (th (hk2 _) (th (hf0 _) (th (fX r2) (th (fX g2) (th (hk2 _) (th (z2U (i:=0) eV) ?_)))))))));exact th (d2 _) (th (fX t2) (c3.trans (th (gA eV) z85)))
 unfold p9;refine(id ?_:u1 [kF ek,fD F eF] _=some (.tree [fD L3 e11] 1 e12));rw[fJ,fJ,fV,<-fg];refine th (om rfl) (th fY (th (mJ eP) (th ez ?_)));rw[hlp,ep];unfold vi;refine th (hk0 _) (th (d1 _) (th (fX s2) (th (hk1 _) (th (fX p1) (th (fX p2) (th (fX p3) (th fY (th (BO (aC 1)) (th fG (th (fX p4) (th fY ?_)))))))))));rw[hlp];exact hl0
end
section
variable {f:fZ} {n:Nat} {ek:Bool} {s:LS} {K:fK} {φ:Nat} {a:Int} {F:List (Int×Bool)}
def kM(e:Bool):D:=.agg [pz [0,1] e]
def z0c:fO false s (kF ek) some=some (kF ek):=by
 have hx:lf false s.get gJ (kF ek)=some (kF ek):=rfl;unfold fO;rw[lJ,hx,gc];cases wT (kF ek)<;>rfl
def R8:uJ φ [kM ek]=some (kF ek):=by
 let B0:fQ:=[]++[Blk.mk [pz [0,1] ek] .rw]++[Blk.mk [.tree [] 0 true,fB] .rw]
 have b0:B0[0]?=some ⟨[pz [0,1] ek],.rw⟩:=rfl;have b1:B0[1]?=some ⟨[.tree [] 0 true,fB],.rw⟩:=rfl;have hf:∀K:fK,(fF 0 (mem B0) (.ptr 0 0) λx s=>eR s x K)=K (pz [0,1] ek) (mem B0):=λK=>by
  refine th qm ?_;rw[b0,jY];show cnd true _ none=_;rw[fH];exact vp b0 rfl rfl
 have hb:∀(s:LS)(K:fK),gf [.tree [] 0 true,fB] [(0,1,pz [0,1] ek),(1,1,ni 1)] s K=K (kF ek) s:=λs K=>rfl;unfold uJ;refine(id ?_:u1 [kM ek] _=some (kF ek));rw[fJ,fV,<-fg];refine th (om rfl) (th vM (th (hf _) (th (hf _) (th fY (th (iJ eV eV) (th (hb _ _) ?_))))));refine th (xF (cs':=[pz [0,1] ek,ni 1]) b1 rfl (hx:=rfl) (hn:=rfl) (h1:=rfl) (hl:=rfl)) ?_;exact th (zZ (b:=⟨[pz [0,1] ek,ni 1],.rw⟩) rfl rfl (aC 2)) z0c
def Ur(h:FA n a f)(hn:3<=n)(hF:fs F=f)(hφ:gW φ){eF:Bool}:∃L e e',fs L=f/\um φ [kM ek,fD F eF]=some (.tree [fD L e] 1 e'):=by
 obtain⟨L,e,e',h1,h2⟩:=YI (φ:=φ) (ek:=ek) (F:=F) h hn hF hφ (eF:=eF);have hk:∀K:fK,eW 1 (mem ([]++[Blk.mk [pz [0,1] ek] .rw])) (.ptr 0 0) K=K (kM ek) (mem ([]++[Blk.mk [pz [0,1] ek] .rw])):=λK=>rfl;refine⟨L,e,e',h1,?_⟩;unfold um;refine(id ?_:u1 [kM ek,fD F eF] _=some (.tree [fD L e] 1 e'));rw[fJ,fJ,fV,<-fg];exact th (om rfl) (th (hk _) (th (fX R8) (th (fX h2) jV)))
end
def Kl(m:Nat):Nat:=(fy m).length
section
variable {s:LS} {K:fK} {k:D->Rs} {m a b:Nat} {x y:Bool} {φ:Nat}
def Yz{o:O}{dv:D}(h:evA s.nx cv s.get o=some (dv,[])):kS o s K=K dv s:=by
 unfold kS sA;rw[h];show wR dv (λd=>K d s)=_;rw[mq]
def XU{c:Nat}(h:Lg (8*c+7) m):Kl m<=c+1:=by
 rcases bT m with h0|h0
 ·subst h0;exact aJ _
 ·rw[show Kl m=Nat.log2 m/8+1 from yI h0];have:Nat.log2 m<=8*c+7:=h;omega
def Hh(hm:Kl m<=1024):ll φ [.n m]=some fB:=by
 unfold ll;dsimp only[fJ,fV];have fin:(kS (.lens (.c (.n m))) s0 λx8 s=>kH x8 (.i .i64 (.ofNat 1024)) λx9=>fE x9 (fO false s (.i .i64 (.ofNat 4)) some) (fO false s fB some))=some fB:=th (Yz rfl) (th (qw (show ¬1024<Kl m by omega)) (th ez HG));refine th (Yz rfl) ?_;rcases bT m with h0|h0
 ·subst h0;exact th (qw (bE _)) (th gx (th gx (th gx (th ga (th ez fin)))))
 ·obtain⟨c,r,h1,h2⟩:=Am h0;refine th (oG (by show 0<Kl m;rw[show Kl m=Nat.log2 m/8+1 from yI h0];omega)) (th gG (th gG (th (LI (by rw[h1];rfl)) (th gG (th (mJ h2) (th gT (th ez fin)))))))
def eqI{a b:Nat}{kk:IntKind}:iR (.i kk (.ofNat a)) (.i kk (.ofNat b)) k=k (.b (Nat.beq a b)):=qG
def z2w:p6 φ []=some (.agg [.b false,.n 0]):=by
 unfold p6;simp -implicitDefEqProofs only[fV,nB,Ac,yN,A6,List.length_nil,List.length_cons,List.nil_append,List.getElem?_cons_zero,jY,qU,v9,fH,Nat.zero_add,Nat.reduceAdd,List.set_cons_zero,A5,Qt,Ae,Ad,Af,gE,xx,xw,re2,List.drop_zero,show ∀(s:LS)(K:fK),gf [.b false,.n 0] [] s K=K (.agg [.b false,.n 0]) s from λs K=>rfl]
def z3b:RK true [1,2] (.agg [.b x,.n a]) (.agg [.b y,.n b]) s K=K (.b (!((x==y)&&Nat.beq a b))) s:=by
 unfold RK;rw[gc];cases hx:x<;>cases hy:y<;>cases hb:Nat.beq a b<;>(show ob (YL true [1,2] _ _) _=_;simp[YL,eqL,eq1,hb];rfl)
def Qb(hm:Kl m<=1024)(hx:x=true->m≠0):oN φ [.agg [.b x,.n m]]=some fB:=by
 have i1:∀(s:LS)(K:fK),eY (ll φ) [.n m] s K=K fB s:=λs K=>fX (Hh hm);have i2:∀(s:LS)(K:fK),eY (p6 φ) [] s K=K (.agg [.b false,.n 0]) s:=λs K=>fX z2w;have e0:Nat.beq 0 1=false:=rfl;unfold oN;rcases bT m with h0|h0
 ·have:x=false:=by cases x;rfl;exact absurd h0 (hx rfl)
  subst this h0;simp -implicitDefEqProofs only[fJ,fV,nB,om,qm,xB,yN,List.all_cons,List.all_nil,one,Bool.and_self,List.length_nil,List.nil_append,List.getElem?_cons_zero,List.getElem?_cons_succ,jY,qU,fH,fq,zA,NY,Mp,Bool.not_true,Nat.zero_add,gE,xx,xw,HG,List.drop_zero,QE,QF,i1,i2,eqI,e0,z3b]
  try rfl
 ·have hb:Nat.beq m 0=false:=ik eP;cases x<;>simp -implicitDefEqProofs only[fJ,fV,nB,om,qm,xB,yN,List.all_cons,List.all_nil,one,Bool.and_self,List.length_nil,List.nil_append,List.getElem?_cons_zero,List.getElem?_cons_succ,jY,qU,fH,fq,Cf,zA,NY,Mp,Bool.not_false,Nat.zero_add,xx,xw,HG,List.drop_zero,Ve,Vf,QF,i1,i2,eqI,e0,z3b,hb,Bool.and_false,Bool.not_false]<;>try rfl
def Qa(hm:Kl m<=1024)(hx:x=true->m≠0)(hl:Lg 1000000 m)(hφ:gW φ):nU φ [.agg [.b x,.n m,.n 1]]=some fB:=by
 have i1:∀(s:LS)(K:fK),eY (oN φ) [.agg [.b x,.n m]] s K=K fB s:=λs K=>fX (Qb hm hx);have i2:∀(s:LS)(K:fK),eY (ll φ) [.n 1] s K=K fB s:=λs K=>fX (Hh eV);have i3:∀(s:LS)(K:fK),eY (rh φ) [.n m,.n 1] s K=K (.n (Nat.gcd m 1)) s:=λs K=>uc (zS (fM hl eV) (show Nat.log2 1<=_ by rw[show Nat.log2 1=0 from by decide];exact aJ _) hφ);have e1:Nat.beq 0 1=false:=rfl;have e2:Nat.beq 1 1=true:=rfl;have e3:Nat.beq 1 0=false:=rfl;have e4:Nat.beq 0 0=true:=rfl;unfold nU;simp -implicitDefEqProofs only[fJ,fV,nB,om,qm,xB,yN,List.all_cons,List.all_nil,one,Bool.and_self,List.length_nil,List.nil_append,List.getElem?_cons_zero,List.getElem?_cons_succ,jY,qU,fH,fq,Ki,Cf,zA,NY,Mp,Bool.not_true,Nat.zero_add,gE,xx,xw,HG,List.drop_zero,QE,Vf,QF,J5,i1,i2,eqI,e1,e3]
 try rfl
end
section
variable {bs:fQ} {f:fZ} {i j B:Nat} {ef:Bool} {φ:Nat} {z:Int}
def Q9(hz:Lg 7 z.natAbs\/Lg 8000 z.natAbs)(hφ:gW φ):nU φ [rc (z:Rat)]=some (ni 0):=by
 have hl:Lg 8000 z.natAbs:=by
  rcases hz with h|h
  ·exact fM h eV
  ·exact h
 rw[DI];exact Qa (aX (XU (c:=1023) (fM hl eV)) eV) (λh=>by have:=zmD h;omega) (fM hl eV) hφ
def Hg{ef:Bool}(hB:BdL B f)(hBl:Lg 8000 B)(hs:f.length<=65)(h0:0<f.length)(ht:ei f (f.length-1)=1)(hφ:gW φ):∀(j i fu:Nat)(bs:fQ),i+j=f.length->j<fu->
 lp jc (rp φ) fu (pz f ef) (pz f ef) (ni f.length) (ni i) (mem bs)=some (ni 0)
 |0,i,fu+1,bs,h1,h2=>by
  have:i=f.length:=eP;subst this;have hz:¬((1:Int):Rat)=0:=eV;rw[ep];unfold rp;refine th (gP eP) (th ez (th fY (th (oG h0) (th gG (th gG (th gG (th fY (th gG (th (iJ eP eP) (th PT (th (Fu eP) ?_)))))))))));rw[ht];refine th gG (th (sX AL rfl) ?_);rw[aU hz];exact th gT (th ez HG)
 |j+1,i,fu+1,bs,h1,h2=>by
  have ih:=Hg (ef:=ef) hB hBl hs h0 ht hφ j (i+1) fu (bs++[Blk.mk (rcs ((ei f i:Int):Rat)) .rw]) eP eP;have hc:=Q9 (φ:=φ) (z:=ei f i) (Or.inr (iK hBl (hB.get i))) hφ;rw[ep];unfold rp;exact th (gX eP) (th fG (th (Fu eP) (th (CO rfl) (th Qs (th (sX hc rfl) (th (Fb rfl) (th ez (th (gA eP) ih))))))))
def K9(hB:BdL B f)(hBl:Lg 8000 B)(hs:f.length<=65)(h0:0<f.length)(ht:ei f (f.length-1)=1)(hφ:gW φ):sT φ [pz f ef]=some (ni 0):=by
 unfold sT;dsimp only[fJ,fV];rw[<-fg];exact th fY (th (qw eP) (th ez (th fY (Hg hB hBl hs h0 ht hφ f.length 0 φ [] eP eP))))
end
section
variable {bs:fQ} {kk:fK} {φ:Nat} {V:D} {cs:fN}
def Wb(h:AS 1 bs V cs 1)(hφ:gW φ){F:D}:gg φ [V,F] (mem bs) kk=kk (.tup []) (mem bs):=by
 obtain⟨l,rfl,_⟩:=ug h eV;obtain⟨ψ,hψ⟩:∃ψ,φ=ψ+1:=⟨φ-1,eP⟩
 have h1:∀{α:Type}(a:α)(b:α->α),lp a b φ=lp a b (ψ+1):=λa b=>by rw[<-hψ]
 unfold gg;rw[fJ,fJ,fV];refine th ou ?_;unfold jW;rw[fJ,fJ,fJ,fV];rw[h1,ep];unfold nR;refine th (Ft (show 1<20 by decide)) (th ez ?_);unfold iD;rw[fJ,fJ,fJ,fJ,fV];refine th (gA eV) ?_;rw[h1,ep];unfold lV;refine th (gP eV) (th ez ?_);rw[h1,ep];unfold nS;exact th (gP eV) (th ez rfl)
end
section
variable {bs:fQ} {s:LS} {K:fK} {R0 R1 d:D} {kx:Nat} {a:Int} {ek:Bool}
def SS(ek:Bool)(R0 R1:D):fN:=[pz [0,1] ek,R0,R1]
def sS2(h:bs[kx]?=some ⟨SS ek R0 R1,.rw⟩):(jm (mem bs) (.ptr kx 0) λa s=>fF 2 s a λb s=>eR s b K)=K R1 (mem bs):=by
 show(iq (mem bs) kx λb=>cnd (lv b.st) (fF 2 (mem bs) (.ptr kx 0) λb s=>eR s b K) none)=_;rw[gV h];show cnd (lv .rw) (fF 2 (mem bs) (.ptr kx 0) λb s=>eR s b K) none=_;rw[nQ,show Stt.rw.live=true from rfl,fH];refine th qm ?_;rw[h,jY];show cnd true _ none=_;rw[fH];exact vp h rfl rfl
def sS0(h:bs[kx]?=some ⟨SS ek R0 R1,.rw⟩):(jm (mem bs) (.ptr kx 0) λa s=>fF 0 s a λb s=>eW 1 s b K)=K (kM ek) (mem bs):=by
 show(iq (mem bs) kx λb=>cnd (lv b.st) (fF 0 (mem bs) (.ptr kx 0) λb s=>eW 1 s b K) none)=_;rw[gV h];show cnd (lv .rw) (fF 0 (mem bs) (.ptr kx 0) λb s=>eW 1 s b K) none=_;rw[nQ,show Stt.rw.live=true from rfl,fH];refine th qm ?_;rw[h,jY];show cnd true _ none=_;rw[fH];exact zZ h rfl (by show 0+1<=3;decide)
def sSw(h:bs[kx]?=some ⟨SS ek R0 R1,.rw⟩)(hx:lA d=[d]:=by rfl)(h1:one d=true:=by rfl):(jm (mem bs) (.ptr kx 0) λa s=>fF 2 s a λb s=>fA 1 s b d K)=K .u (mem (bs.set kx ⟨SS ek R0 d,.rw⟩)):=by
 show(iq (mem bs) kx λb=>cnd (lv b.st) (fF 2 (mem bs) (.ptr kx 0) λb s=>fA 1 s b d K) none)=_;rw[gV h];show cnd (lv .rw) (fF 2 (mem bs) (.ptr kx 0) λb s=>fA 1 s b d K) none=_;rw[nQ,show Stt.rw.live=true from rfl,fH];refine th qm ?_;rw[h,jY];show cnd true _ none=_;rw[fH];exact xF (cs':=SS ek R0 d) h rfl (hx:=hx) (hn:=rfl) (h1:=by rw[cH,h1];rfl) (hl:=rfl)
end
section
variable {bs:fQ} {s:LS} {K:fK} {kk:fK} {φ:Nat} {V R0 R1:D} {P:Option D->Prop} {f:fZ} {n kx kl kv cv:Nat} {a:Int} {F:List (Int×Bool)} {ek eF:Bool}
def z3u:AV bs (kM ek) (kM ek) []:=λF=>rfl
def Sf(h:FA n a f)(hn:3<=n)(hF:fs F=f)(hφ:gW φ)(hb:bs[kx]?=some ⟨SS ek R0 R1,.rw⟩)(hl:bs[kl]?=some ⟨[.sl kv 0 F.length cv 1 false],.rw⟩)(hv:bs[kv]?=some ⟨F.map eD,.rw⟩)(hne:kx≠kl)(zck:kx≠kv)(hP:∀bs' L e l,fs L=f->bs'[kx]?=some ⟨SS ek R0 (.sl l 0 1 1 1 false),.rw⟩->bs'[l]?=some ⟨[fD L e],.rw⟩->(∀k b,k≠kx->k≠kv->bs[k]?=some b->bs'[k]?=some b)->P (kk (.tup []) (mem bs'))):P (kj φ [.ptr kx 0,.sl kl 0 1 1 1 true] (mem bs) kk):=by
 have hx:=h.xa;have hFl:F.length=n+1:=by
  have:=congrArg List.length hF;rw[ja,hx.len]at this;omega
 obtain⟨ψ,hψ⟩:∃ψ,φ=ψ+1+1:=⟨φ-2,eP⟩
 have hlp:∀{α:Type}(a:α)(b:α->α),lp a b φ=lp a b (ψ+1+1):=λa b=>by rw[<-hψ]
 have hkx:=fC hb
 let B1:fQ:=bs.set kx ⟨SS ek R0 gj,.rw⟩
 have b1:B1[kx]?=some ⟨SS ek R0 gj,.rw⟩:=aH hkx;have bl:B1[kl]?=some ⟨[.sl kv 0 F.length cv 1 false],.rw⟩:=fc hne hl;have bv:B1[kv]?=some ⟨F.map eD,.rw⟩:=fc zck hv;obtain⟨eF,av⟩:=Gp (c:=cv) (ex:=false) (n:=F.length) bv rfl fU (λs F=>vu s _ F);obtain⟨L,e,e',g1,g2⟩:=Ur (φ:=φ) (ek:=ek) (F:=F) h hn hF hφ (eF:=eF);have hLl:L.length=n+1:=by
  have:=congrArg List.length g1;rw[ja,hx.len]at this;omega
 obtain⟨B2,q0,q1,q2⟩:=pR (Mf:=um φ) (AVL.cons (z3u (ek:=ek)) (AVL.cons av AVL.nil)) (λk hk=>by
  have:k=kv:=by simpa using hk
  rw[this];exact fC bv) g2
 have q1:∀k b,k≠kv->B1[k]?=some b->B2[k]?=some b:=λk b hk=>q1 k b (by simpa using hk);have b2:=q1 _ _ zck b1;have hld:∀(s:LS)(K:fK),(eT 1 s (.tree [fD L e] 1 e') (ni 0) λx12 s=>eR s x12 K)=K (fD L e) s:=λs K=>rfl;have z85:∀(V:D)(B:fQ),AS 1 B V [fD L e] 1->(∀k b,k≠kx->k≠kv->bs[k]?=some b->B[k]?=some b)->B[kx]?=some ⟨SS ek R0 V,.rw⟩->P (lp jc (je φ kk) (ψ+1) (.ptr kx 0) (.sl kl 0 1 1 1 true) (ni 1) (ni 1) (mem B)):=λV B hA hk hB=>by
  obtain⟨l,e1,e2⟩:=ug hA eV;rw[ep];unfold je;refine pm (gP (bE 1)) (pm ez (pm (sS2 hB) (pm (Wb hA hφ) ?_)));exact hP B L e l g1 (by rw[<-e1];exact hB) e2 hk
 obtain⟨bs2,X',c1,c2,c3⟩:=ap1 (K:=λx64 s=>jm s (.ptr kx 0) λx65 s=>fF 2 s x65 λx66 s=>fA 1 s x66 x64 λ_ s=>f7 (ni 0) ej λx44=>lp lK (lU φ (λ(x13 x14 x15 x16:D)(s:LS)=>f7 x16 ej λx17=>lp jc (je φ kk) (ψ+1) x13 x14 x15 x17 s)) (ψ+1) (.ptr kx 0) (.sl kl 0 1 1 1 true) (ni 1) (ni 0) (.tree [fD L e] 1 e') (ni 1) x44 s) (bytes:=24) (zero:=[.tree [] 0 true]) (x:=fD L e) (new:=[fD L e]) (AS.nil (z:=1) (bs:=B2)) rfl rfl rfl rfl eV eV;obtain⟨b2',nb2⟩:=c2 kx _ t9 b2;obtain⟨l,e1,e2⟩:=ug c1 eV;have hlk:l≠kx:=λe=>nb2 0 1 1 1 false (by rw[e1,e]);subst e1
 let B3:fQ:=bs2.set kx ⟨SS ek R0 (.sl l 0 1 1 1 false),.rw⟩
 have b3:B3[kx]?=some ⟨SS ek R0 (.sl l 0 1 1 1 false),.rw⟩:=aH (fC b2');have b3l:B3[l]?=some ⟨[fD L e],.rw⟩:=fc (Ne.symm hlk) e2;have hA3:AS 1 B3 (.sl l 0 1 1 1 false) [fD L e] 1:=AS.blk b3l rfl;unfold kj;rw[fJ,fJ,fV];refine pm (sSw hb) (pm ou ?_);rw[hlp,ep];unfold je;refine pm (gX eV) (pm fG (pm sj (pm (rd1 bl rfl rfl eV) (pm ou (pm (gP (show ¬F.length<2 by omega)) (pm ez (pm (sS0 b1) (pm (q2 _) (pm fY ?_)))))))));rw[hlp,ep];unfold lU;refine pm (gX eV) (pm fG (pm sj (pm (hld _ _) (pm fY (pm (mJ (show L.length≠2 by omega)) (pm ez (pm (sS2 b2) (pm c3 (pm (sSw b2') (pm (gA eV) ?_))))))))));rw[ep];unfold lU;refine pm (gP (bE 1)) (pm ez (pm (gA eV) ?_));exact z85 _ B3 hA3 (λk b k1 k2 hk=>fc (Ne.symm k1) (c2 k b t9 (q1 k b k2 (fc (Ne.symm k1) hk))).1) b3
end
section
variable {s:LS} {K:fK} {φ:Nat} {P:Option D->Prop} {f:fZ} {ef:Bool}
def Pb{ef ef2:Bool}(hs:f.length<=1000000)(hφ:gW φ){b0:Blk}{x14:D}{w:Nat}(hP:∀(O:List (Int×Bool))(V:D)(bs:fQ),fs O=f->AS 1 bs V (O.map eD) f.length->bs[0]?=some b0->P (lp iH (jy φ) (w+1) x14 (pz f ef) V (pz f ef2) (ni f.length) (ni f.length) (mem bs))):∀(j i fu:Nat)(O:List (Int×Bool))(V:D)(bs:fQ),i+j=f.length->fu=j+1+w->fs O=f.take i->AS 1 bs V (O.map eD) i->rx V 0->bs[0]?=some b0->
 P (lp iH (jy φ) fu x14 (pz f ef) V (pz f ef2) (ni f.length) (ni i) (mem bs))
 |0,i,fu,O,V,bs,h1,h2,h4,hA,hnb,hb=>by
  have:i=f.length:=eP;subst this;have e:fu=w+1:=eP;subst e;exact hP O V bs (by rw[h4,bV]) hA hb
 |j+1,i,fu,O,V,bs,h1,h2,h4,hA,hnb,hb=>by
  have e:fu=(j+1+w)+1:=eP;subst e
  let bA:fQ:=bs++[Blk.mk (rcs ((ei f i:Int):Rat)) .rw]
  let bB:fQ:=bA++[Blk.mk (rcs ((ei f i:Int):Rat)) .rw]
  have hAl:bA.length=bs.length+1:=by simp[bA]
  have h0l:=fC hb;have hbB:bB[bA.length]?=some ⟨rs (zr [ei f i]),.rw⟩:=by simp[bB];rfl
  obtain⟨e1,hd⟩:=JZ (n':=(ib (zr [ei f i])).length) (cs:=rs (ib (zr [ei f i]))) (bs:=bB) (c:=1) (ex:=true) (n:=1) (M:=gY φ) (K:=λx26 s=>iO 1 ms [(0,1,x26)] s λx27 s=>mc 1 24 s V x27 λx28 s=>f7 (ni i) ej λx29=>lp iH (jy φ) (j+1+w) x14 (pz f ef) x28 (pz f ef2) (ni f.length) x29 s) hbB (yC rfl) rfl rfl (λex'=>FZ rfl eV eP);have hpt:D.tree (rs (ib (zr [ei f i]))) (ib (zr [ei f i])).length e1=eD (ei f i,e1):=by
   rw[AD,Ho (l:=[ei f i]) (λk hk=>by
    obtain⟨d,rfl⟩:∃d,k=d+1:=⟨k-1,eP⟩
    rfl),nK];rfl
  rw[hpt]at hd;have hAB:AS 1 (bB.set bA.length ⟨rs (zr [ei f i]),fzS .rw⟩) V (O.map eD) i:=Em hA λk b h=>fc (by have:=fC h;omega) (fW (fW h));obtain⟨bs2,X',d1,d2,d3⟩:=ap1 (K:=λx28 s=>f7 (ni i) ej λx29=>lp iH (jy φ) (j+1+w) x14 (pz f ef) x28 (pz f ef2) (ni f.length) x29 s) (bytes:=24) (zero:=[.tree [] 0 true]) (x:=eD (ei f i,e1)) (new:=[eD (ei f i,e1)]) hAB rfl rfl rfl rfl eP eP;have hm:O.map eD++[eD (ei f i,e1)]=(O++[(ei f i,e1)]).map eD:=by rw[bG];rfl
  rw[hm]at d1;have htk:f.take (i+1)=f.take i++[ei f i]:=by
   have hil:i<f.length:=eP;rw[dj,aE hil];unfold ei;rw[aB,aE hil];rfl
  obtain⟨k0,k1⟩:=d2 0 _ hnb (fc eP (fW (fW hb)));have ih:=Pb (ef:=ef) (ef2:=ef2) hs hφ hP j (i+1) (j+1+w) (O++[(ei f i,e1)]) X' bs2 eP rfl (by
   rw[htk,<-h4];unfold fs;rw[bG];rfl) d1 k1 k0
  rw[ep];unfold jy;exact pm (gX eP) (pm fG (pm (Fu eP) (pm (CO rfl) (pm Qs (pm (B4 (zero:=[.b false,.n 0,.n 0]) (x:=rc ((ei f i:Int):Rat)) (new:=rcs ((ei f i:Int):Rat)) (z:=3) rfl rfl rfl rfl) (pm hd (pm d3 (pm (gA eP) ih))))))))
end
section
variable {bs:fQ} {s:LS} {K:fK} {φ:Nat} {V R0 R1:D} {cs:fN} {P:Option D->Prop} {f:fZ} {n kx:Nat} {a:Int} {F:List (Int×Bool)} {ek ef:Bool}
def sp0:D:=.agg [.tree [] 0 true,.tree [] 0 true,.tree [] 0 true]
def sF0(h:bs[kx]?=some ⟨SS ek R0 R1,.rw⟩):(jm (mem bs) (.ptr kx 0) λa s=>fF 0 s a λb s=>fF 0 s b λc s=>eR s c K)=K (pz [0,1] ek) (mem bs):=by
 show(iq (mem bs) kx λb=>cnd (lv b.st) (fF 0 (mem bs) (.ptr kx 0) λb s=>fF 0 s b λc s=>eR s c K) none)=_;rw[gV h];show cnd (lv .rw) (fF 0 (mem bs) (.ptr kx 0) λb s=>fF 0 s b λc s=>eR s c K) none=_;rw[nQ,show Stt.rw.live=true from rfl,fH];refine th qm ?_;rw[h,jY];show cnd true (fF 0 (mem bs) (.ptr kx 0) λc s=>eR s c K) none=_;rw[fH];refine th qm ?_;rw[h,jY];show cnd true _ none=_;rw[fH];exact vp h rfl rfl
def z0b{s:LS}:fO false s (.tup [sp0,ni 17]) some=some (.tup [sp0,ni 17]):=by
 have hx:lf false s.get gJ (.tup [sp0,ni 17])=some (.tup [sp0,ni 17]):=rfl;unfold fO;rw[lJ,hx,gc];cases wT (.tup [sp0,ni 17])<;>rfl
def ZG(hb:bs[0]?=some ⟨[.tree [] 0 true,.tree [] 0 true,.tree [] 0 true],.rw⟩):(gf [.tree [] 0 true,.tree [] 0 true,.tree [] 0 true] [] (mem bs) λx s=>fA 3 s (.ptr 0 0) x λ_ s=>eW 3 s (.ptr 0 0) λx _=>fO false s (.tup [x,ni 17]) some)=some (.tup [sp0,ni 17]):=by
 show(fA 3 (mem bs) (.ptr 0 0) sp0 λ_ s=>eW 3 s (.ptr 0 0) λx _=>fO false s (.tup [x,ni 17]) some)=_;refine th (xF (cs':=[.tree [] 0 true,.tree [] 0 true,.tree [] 0 true]) hb rfl (hx:=rfl) (hn:=rfl) (h1:=rfl) (hl:=rfl)) ?_;exact th (zZ (b:=⟨[.tree [] 0 true,.tree [] 0 true,.tree [] 0 true],.rw⟩) (aH (fC hb)) rfl (aC 3)) z0b
def YE(h:FA n a f)(hn:13<=n)(hφ:gW φ)(hP:P (some (.tup [sp0,ni 17]))):P (mI φ [pz f ef]):=by
 have hx:=h.xa;have hl:=hx.len;have zcm:=h.n64;have ha0:a≠0:=by have:=h.a4;omega
 have z9s:Lg 1000 1:=by show Nat.log2 1<=_;rw[show Nat.log2 1=0 from by decide];exact aJ _
 have hBs:Lg 1001 (a.natAbs+1):=tf h.al z9s;obtain⟨e1,p1⟩:=T1 (φ:=φ) (ef:=ef) hx h.al ha0 hφ;have p0:=K9 (φ:=φ) (ef:=ef) hx.bd (fM hBs eV) eP eP hx.top' hφ;obtain⟨ψ,hψ⟩:∃ψ,φ=(n+1)+1+ψ+1:=⟨φ-(n+3),eP⟩
 let b0:Blk:=⟨[.tree [] 0 true,.tree [] 0 true,.tree [] 0 true],.rw⟩
 have nb0:rx gj 0:=t9;have go:=Pb (φ:=φ) (f:=f) (ef:=e1) (ef2:=e1) (P:=P) eP hφ (b0:=b0) (x14:=.ptr 0 0) (w:=ψ+1) (λO V bs hO hA hb=>by
  have hOl:O.length=n+1:=by
   have:=congrArg List.length hO;rw[ja]at this;omega
  obtain⟨kv,rfl,hv⟩:=ug hA eP;obtain⟨e2,bs1,q1,q2,q3⟩:=SL (φ:=φ) (bs:=bs) (z:=0) (y:=1) hφ eV eV
  let B1:fQ:=bs1++[Blk.mk (SS e2 gj gj) .rw]
  let B2:fQ:=B1++[Blk.mk [.sl kv 0 f.length f.length 1 false] .rw]
  have hB1:B1.length=bs1.length+1:=by simp[B1]
  have b1:B2[bs1.length]?=some ⟨SS e2 gj gj,.rw⟩:=fW (by simp[B1]);have b2:B2[B1.length]?=some ⟨[.sl kv 0 O.length f.length 1 false],.rw⟩:=by rw[hOl,<-hl];simp[B2]
  have hkv:=fC hv;have h0l:=fC hb;have zar:∀k b,bs[k]?=some b->B2[k]?=some b:=λk b hk=>fW (fW (q2 k b hk));have zfu:∀(s:LS)(K:fK),gf [.tree [] 0 true] [(0,1,pz (tzI [0,1]) e2)] s K=K (.agg [pz [0,1] e2]) s:=λs K=>rfl;have zft:∀(s:LS)(K:fK),gf [.tree [] 0 true,.tree [] 0 true,.tree [] 0 true] [(0,1,.agg [pz [0,1] e2])] s K=K (.agg (SS e2 gj gj)) s:=λs K=>rfl;obtain⟨ψ',zeb⟩:∃ψ',φ=ψ'+1:=⟨φ-1,eP⟩
  have hlp:∀{α:Type}(a:α)(b:α->α),lp a b φ=lp a b (ψ'+1):=λa b=>by rw[<-zeb]
  rw[ep];unfold jy;refine pm (gP (bE _)) (pm ez (pm (q3 _) (pm (zfu _ _) (pm (zft _ _) (pm (om rfl) (pm (B4 (zero:=[.tree [] 0 true]) (x:=.sl kv 0 f.length f.length 1 false) (new:=[.sl kv 0 f.length f.length 1 false]) (z:=1) rfl rfl rfl rfl) ?_))))));refine Sf (φ:=φ) (F:=O) h eP hO hφ b1 b2 (zar _ _ hv) (show bs1.length≠B1.length by omega) (show bs1.length≠kv by omega) λbs' L e l hL c1 c2 c3=>?_;have hLl:L.length=n+1:=by
   have:=congrArg List.length hL;rw[ja]at this;omega
  have hb':bs'[0]?=some b0:=by
   by_cases hk0:(0:Nat)=kv
   ·subst hk0;rw[hb]at hv;have:=congrArg Blk.cs (cJ hv);have:=congrArg List.length this;simp[b0]at this;omega
   ·exact c3 0 _ eP hk0 (zar _ _ hb)
  rw[hlp,ep];unfold vc;refine pm (sS2 c1) (pm ou (pm (oG eV) (pm fG (pm (sF0 c1) (pm fY (pm (iJ eV eV) (pm (sS2 c1) (pm ou ?_))))))));rw[hlp,ep];unfold vd;refine pm (gX eV) (pm fG (pm (rd1 c2 rfl rfl eV) (pm fY (pm (iJ eP eP) (pm (xO (show 1*(L.length-1)<9223372036854775808 by omega)) (pm (oG (show 12<1*(L.length-1) by omega)) (pm fG ?_)))))));exact pm (ZG hb') hP) f.length 0 φ [] gj [b0] eP eP rfl AS.nil nb0 rfl
 unfold mI;refine(id ?_:P (u1 [pz f ef] _));rw[fJ,fV,<-fg];exact pm vM (pm (fX p0) (pm (Fb rfl) (pm ez (pm fY (pm (gP (show ¬f.length<2 by omega)) (pm ez (pm (fX p1) (pm fY go))))))))
def Uh(h:FA n a f)(hn:13<=n)(hφ:gW φ):mI φ [pz f ef]=some (.tup [sp0,ni 17]):=YE (P:=λo=>o=some (.tup [sp0,ni 17])) h hn hφ rfl
def Ln(h:FA n a f)(hn:13<=n)(hφ:gW φ):kY φ [pz f ef]=some (.tup [ni 0,ni 17]):=by
 have hf:=Uh (φ:=φ) (ef:=ef) h hn hφ;unfold kY;refine(id ?_:u1 [pz f ef] _=some (.tup [ni 0,ni 17]));rw[fJ,fV,<-fg];refine th (fX hf) (th iG (th iF (th vM ?_)));refine th (xF (cs':=[.tree [] 0 true,.tree [] 0 true,.tree [] 0 true]) rfl rfl (hx:=rfl) (hn:=rfl) (h1:=rfl) (hl:=rfl)) ?_;exact th (Hv (show 17≠0 by decide)) (th fG rfl)
def Wd(h:FA n a f)(hn:13<=n)(hφ:gW φ):oZ φ [pz f ef]=some (.tup [sp0,ni 17]):=by
 have hf:=Uh (φ:=φ) (ef:=ef) h hn hφ;unfold oZ;refine(id ?_:u1 [pz f ef] _=some (.tup [sp0,ni 17]));rw[fJ,fV,<-fg];refine th vM (th (fX hf) (th iG (th iF (th vM ?_))));refine th (xF (cs':=[.tree [] 0 true,.tree [] 0 true,.tree [] 0 true]) rfl rfl (hx:=rfl) (hn:=rfl) (h1:=rfl) (hl:=rfl)) ?_;exact th (Hv (show 17≠0 by decide)) (th fG (ZG rfl))
end
section
variable {bs bs':fQ} {l r:Row} {b:Blk} {k n c M:Nat} {ex:Bool} {s:LS} {K:fK} {L:D}
inductive RVal (bs:fQ):D->Row->Prop
 |tr {l:Row} {e:Bool}:RVal bs (.tree (rs l) l.length e) l
 |sl {l:Row} {k c:Nat} {e:Bool} {b:Blk} (hb:bs[k]?=some b) (hc:b.cs.take (l.length*3)=rs l) (hl:b.st.live=true):RVal bs (.sl k 0 l.length c 3 e) l
def Wg(h:RVal bs L l){x:Blk}:RVal (bs++[x]) L l:=by
 cases h with
 |tr=>exact .tr
 |sl hb hc hl=>exact .sl (fW hb) hc hl
def z07(h:RVal bs L l)(hb:bs[k]?=some b):RVal (bs.set k ⟨b.cs,fzS b.st⟩) L l:=by
 cases h with
 |tr=>exact .tr
 | @sl _ j c e b1 h1 hc hl=>
  by_cases hj:k=j
  ·subst hj;rw[hb]at h1;cases h1;refine .sl (b:=⟨b.cs,fzS b.st⟩) (by rw[aH (fC hb)]) hc ?_;cases hs:b.st<;>rw[hs]at hl<;>first|rfl|cases hl
  ·exact .sl (by rw[bW hj];exact h1) hc hl
def LU:∀(ls:eZ)(bs:fQ),(∀l,l∈ls->l<bs.length)->∃bs',bs'.length=bs.length/\(∀k b,k∉ls->bs[k]?=some b->bs'[k]?=some b)/\(∀L l,RVal bs L l->RVal bs' L l)/\∀F:LS->Rs,Aa ls (mem bs) F=F (mem bs')
 |[],bs,_=>⟨bs,rfl,λ_ _ _ h=>h,λ_ _ h=>h,λF=>rfl⟩
 |l::ls,bs,h=>by
  obtain⟨b,hb⟩:∃b,bs[l]?=some b:=⟨bs[l]'(h l fU),aE _⟩
  obtain⟨b1,g1,g2,g4,g3⟩:=LU ls (bs.set l ⟨b.cs,fzS b.st⟩) (λk hk=>by rw[a8];exact h k (by simp[hk]));refine⟨b1,by rw[g1,a8],λk x hk hx=>g2 k x (λhm=>hk (by simp[hm])) (by rw[bW (λe=>hk (by simp[e]))];exact hx),λL r hr=>g4 L r (z07 hr hb),λF=>?_⟩;show(iq (mem bs) l λb=>oh (mem bs) l ⟨b.cs,fzS b.st⟩ λs=>Aa ls s F)=_;rw[gV hb,mD (fC hb),g3]
def YF{ls:eZ}{cs:fN}{n z:Nat}(hl:∀l,l∈ls->l<bs.length):∃bs',(∀k b,k∉ls->bs[k]?=some b->bs'[k]?=some b)/\(∀L l,RVal bs L l->RVal bs' L l)/\bs'[bs.length]?=some ⟨cs,.rw⟩/\∀K,nD (mem bs) ls (.own cs n z) K=K (.sl bs.length 0 n n z false) (mem bs'):=by
 obtain⟨b1,g1,g2,g4,g3⟩:=LU ls bs hl;refine⟨b1++[⟨cs,.rw⟩],λk b hk hb=>fW (g2 k b hk hb),λL r hr=>Wg (g4 L r hr),by rw[<-g1];simp,λK=>?_⟩;show Aa ls (mem bs) (λs=>lh s ⟨cs,.rw⟩ λs'=>K (.sl s.nx 0 n n z false) s')=_;rw[g3,kI,mP,g1]
def z06(h:RVal bs L l):∃e ls,(∀k,k∈ls->k<bs.length)/\(∀k,rx L k->k∉ls)/\∀F:D->eZ->Rs,jX (mem bs) 60 L F=F (.tree (rs l) l.length e) ls:=by
 cases h with
 | @tr _ e=>exact⟨e,[],(λk h=>by cases h),(λk _ h=>by cases h),λF=>rfl⟩
 | @sl _ k c e b hb hc hl=>
  refine⟨cnd e (Nat.beq c l.length) false,[k],λj hj=>?_,λj hn hj=>?_,λF=>?_⟩
  ·have:j=k:=by simpa using hj
   subst this;exact fC hb
  ·have:j=k:=by simpa using hj
   subst this;exact hn _ _ _ _ _ rfl
  ·show(iq (mem bs) k λb=>cnd (lv b.st) (jJ 0 b.cs λr=>jP (Nat.mul l.length 3) r λr=>ma (jX (mem bs) 59) r λcs ls=>nM (cnd e (Nat.beq c l.length) false) λex=>F (.tree cs l.length ex) (k::ls)) none)=_;rw[gV hb,nQ,hl,fH,gZ,a7,i7,show Nat.mul l.length 3=l.length*3 from rfl,aF (Yk hc rfl),hc,Tq _ (Bw l),iz]
def M6{M:fP}(h:RVal bs L l):∃e,∀cs n z,M [.tree (rs l) l.length e]=some (.own cs n z)->∃bs',(∀k b,rx L k->bs[k]?=some b->bs'[k]?=some b)/\(∀L l,RVal bs L l->RVal bs' L l)/\bs'[bs.length]?=some ⟨cs,.rw⟩/\∀K,eY M [L] (mem bs) K=K (.sl bs.length 0 n n z false) (mem bs'):=by
 obtain⟨e,ls,h1,h2,h3⟩:=z06 h;refine⟨e,λcs n z hv=>?_⟩;obtain⟨b1,g1,g4,g2,g3⟩:=YF (bs:=bs) (cs:=cs) (n:=n) (z:=z) h1;refine⟨b1,λk b hk hb=>g1 k b (h2 k hk) hb,g4,g2,λK=>?_⟩;show(jX (mem bs) 60 L λy a=>pk a [] λab=>ob (M [y]) λr=>nD (mem bs) ab r K)=_;rw[h3,jt,hv,jY,bQ,g3]
def z05(h:RVal bs L l):∃e,fO false (mem bs) L some=some (.tree (rs l) l.length e):=by
 cases h with
 | @tr _ e=>exact⟨e,jV⟩
 | @sl _ k c e b hb hc hl=>
  refine⟨e&&c==l.length,?_⟩;unfold fO;rw[lJ];show sk (lf false (mem bs).get gJ (.sl k 0 l.length c 3 e)) some=_;have h1:res (mem bs).get 60 (.sl k 0 l.length c 3 e)=some (.tree (rs l) l.length (e&&c==l.length),[k]):=wx (n:=59) (r:=rs l) (ls:=[]) (by rw[mK];exact hb) hl (by
   unfold cut;rw[a7,hc,aF (by rw[vT])]) (mG (k:=58) _ (Bw l))
  have:lf false (mem bs).get gJ (.sl k 0 l.length c 3 e)=some (.tree (rs l) l.length (e&&c==l.length)):=by
   show(match yF (res (mem bs).get 60 (.sl k 0 l.length c 3 e))with
    |some (d,o,ls)=>if o.all λl=> !ls.contains l then some d else none
    |none=>none)=_
   rw[h1];rfl
  rw[this,gc];rfl
end
end
end Go.Proofs.YthljpappkomocaaGreat
