/- What the evaluator and the residuals compute. -/
import Derived.Test.YthljpappkomocaaGreatKAA0
set_option linter.all false
set_option maxRecDepth 10000
namespace Go.Proofs.YthljpappkomocaaGreat
open Ev
noncomputable section
section
variable {bs:fQ} {l f g:Row} {i k n m c:Nat} {ex ey:Bool} {s:LS} {K:fK} {q:Rat} {X:D}
def uAt(hn:l.length=n):nV 4000000000 [.tree (rs l) n ex,.i .i64 (.ofNat i)]=some (rc (ent l i)):=by
 unfold nV;refine(id ?_:u1 [.tree (rs l) n ex,.i .i64 (.ofNat i)] _=some (rc (ent l i)));rw[fJ,fJ,fV,<-fg];refine th vM (th fY ?_);by_cases h:i<n
 ·exact th (gX h) (th fG (th (Fv hn h) (HF (k:=0) rfl rfl)))
 ·refine th (gP h) (th ez (th (fX Zq) ?_));rw[yW eP];exact HF (k:=0) rfl rfl
def z1Z(hn:l.length=n+1)(hs:n<100000)(h1:ent l n=1):jH 4000000000 [.tree (rs l) (n+1) ex]=some (.own (rs l) (n+1) 3):=by
 have h2:=BB (l:=l) (n:=n+1) eP (λi hi=>yW eP) (Or.inr (by rw[au,h1];decide));have hp:ib l=l:=by rw[h2,aP eP]
 obtain⟨e1,h3⟩:=Ym (s:=mem [⟨[],.rw⟩]) (cs:=rs l) (n:=n+1) (m:=3) (k:=n+1) (ex:=ex) (kk:=.i64) (K:=λx17 s=>mc 3 40 s (.sl 0 0 0 0 3 true) x17 λx18 s=>fO true s x18 some) (by rw[vT,hn]) (aC _) none (Or.inl rfl);obtain⟨j,c,e2,bs',a1,a2,_⟩:=Rp (bs:=[⟨[],.rw⟩]) (k:=0) (z:=3) (bytes:=40) (n:=n+1) (cs:=rs l) (ex:=e1) (K:=λx4 s=>fO true s x4 some) rfl (by rw[vT,hn]) (FL _) eP eP;have z75:(iO 0 [.b false,.n 0,.n 0] [] (mem []) λx16 s=>iT 3 s (.tree (rs l) (n+1) ex) none (some (.i .i64 (.ofNat (n+1)))) none λx17 s=>mc 3 40 s x16 x17 λx18 s=>fO true s x18 some)=some (.own (rs l) (n+1) 3):=by
  refine th (IC rfl) (h3.trans ?_);rw[yC hn];refine a1.trans ?_;rw[Iz a2 (Bw _) (by rw[vT,hn];exact aC _),yC hn]
 have pre:∀F:fK,(fe (.i .i64 (.ofNat (n+1))) ej λd=>eU (.b true) true (λk=>eT 3 (mem []) (.tree (rs l) (n+1) ex) d k) (mem []) λx10 s=>eU (.b true) true (λk=>eW 3 s x10 k) s F)=F (rc 1) (mem []):=by
  intro F;refine th (iJ eP eP) (th PT ?_);rw[au];refine(Fv hn eP).trans ?_;rw[h1]
 have hlp:lp li (qn 4000000000) 4000000000 (.tree (rs l) (n+1) ex) (.i .i64 (.ofNat (n+1))) (mem [])=some (.own (rs l) (n+1) 3):=by
  obtain⟨ψ,hψ⟩:∃ψ,(4000000000:Nat)=ψ+1:=⟨3999999999,rfl⟩
  have hlp:∀{α:Type}(a:α)(b:α->α),lp a b 4000000000=lp a b (ψ+1):=λa b=>by rw[<-hψ]
  rw[hlp,ep];unfold qn;exact th (oG eP) (th gG (th gG (th gG (th (pre _) (th gG (th (sX Zo rfl) (th gG (th (mJ eP) (th gT (th ez z75))))))))))
 unfold jH;refine(id ?_:u1 [.tree (rs l) (n+1) ex] _=some (.own (rs l) (n+1) 3));rw[fJ,fV,<-fg];exact th fY hlp
def U3(bs:fQ)(X:D)(l:Row):Prop:=AS 3 bs X (rs l) l.length
def uap(h:U3 bs X l)(hs:l.length<1000000000):∃bs' X',U3 bs' X' (l++[q])/\(iO 1 [.b false,.n 0,.n 0] [(0,3,rc q)] (mem bs) λy s=>mc 3 40 s X y K)=K X' (mem bs'):=by
 obtain⟨bs',X',h1,h2,h3⟩:=ap1 (bytes:=40) (zero:=[.b false,.n 0,.n 0]) (x:=rc q) (new:=rcs q) (K:=K) h rfl rfl rfl rfl eP eP;refine⟨bs',X',?_,h3⟩;unfold U3;rw[M7,aq];exact h1
def urv(h:U3 bs X l):RVal bs X l:=by
 unfold U3 at h;generalize hcs:rs l=cs at h;generalize hnn:l.length=nn at h;cases h with
 |nil=>
  have:l=[]:=aZ hnn;subst this;exact RVal.tr (l:=[])
 |blk hg hc=>
  subst hcs hnn;exact .sl hg (yC rfl) rfl
def Ze(h:U3 bs X l)(hn:l.length=n+1)(hs:n<100000)(h1:ent l n=1):∃e,(eY (jH 4000000000) [X] (mem bs) λx s=>fO false s x some)=some (.tree (rs l) (n+1) e):=by
 obtain⟨e,he⟩:=M6 (M:=jH 4000000000) (urv h);obtain⟨b1,g1,g4,g2,g3⟩:=he _ _ _ (by rw[hn];exact z1Z hn hs h1);have hr:RVal b1 (.sl bs.length 0 (n+1) (n+1) 3 false) l:=by
  have:=RVal.sl (k:=bs.length) (c:=n+1) (e:=false) g2 (yC rfl) rfl;rw[hn]at this;exact this
 obtain⟨e2,he2⟩:=z05 hr;rw[hn]at he2;exact⟨e2,(g3 _).trans he2⟩
def HV{v:Vec}(hf:f.length=n+1)(hg:g.length=1)(hs:n<100000)(hv:∀i,i<=n->kD 4000000000 [rc (ent f i),rc (ent g i)]=some (rc (v i)))(h1:v n=1):∀(j i fu:Nat)(bs:fQ)(X:D),i+j=n+1->j<fu->U3 bs X (lst i v)->
 ∃e,lp jc (mT 4000000000) fu (.tree (rs f) (n+1) ex) (.tree (rs g) 1 ey) X (.i .i64 (.ofNat i)) (mem bs)=some (.tree (rs (lst (n+1) v)) (n+1) e)
 |0,i,fu+1,bs,X,hi,hfu,hA=>by
  have:i=n+1:=eP;subst this;obtain⟨e,he⟩:=Ze hA uo hs (by rw[CW,aF eP,h1]);refine⟨e,?_⟩;rw[ep];unfold mT;exact th fY (th fY (th CU (th (gP eP) (th ez he))))
 |j+1,i,fu+1,bs,X,hi,hfu,hA=>by
  obtain⟨bs1,X1,hA1,h2⟩:=uap (q:=v i) (K:=λx16 s=>f7 (.i .i64 (.ofNat i)) ej λx17=>lp jc (mT 4000000000) fu (.tree (rs f) (n+1) ex) (.tree (rs g) 1 ey) x16 x17 s) hA (by rw[uo];omega);obtain⟨e,he⟩:=HV hf hg hs hv h1 j (i+1) fu bs1 X1 eP eP (by rw[CV];exact hA1);refine⟨e,?_⟩;rw[ep];unfold mT;exact th fY (th fY (th CU (th (gX eP) (th fG (th (fX (uAt hf)) (th (fX (uAt hg)) (th (oz (hv i eP) rfl) (h2.trans (th (gA eP) he)))))))))
def xnL(n:Nat):fZ:=List.replicate n 0++[1]
def xaL(n:Nat)(a:Int):fZ:=(List.range (n+1)).map λi=>if i=0 then a else if i=n then 1 else 0
def Yh{a:Int}(h2:2<=n)(h9:n<=64):XA n a (xaL n a):=by
 have he:∀i,ei (xaL n a) i=if i<n+1 then(if i=0 then a else if i=n then 1 else 0)else 0:=λi=>by unfold xaL;rw[ue]
 refine⟨by unfold xaL;simp,?_,?_,λk h0 hk=>?_,h2,eP⟩
 ·rw[he,aF eP,aG eP,aF rfl]
 ·rw[he,aF eP,aF rfl]
 ·rw[he,aF eP,aG eP,aG eP]
def z0E:moL n=rs (zr (xnL n)):=by
 have h1:rs (zr [1])=[.b false,.n 1,.n 1]:=eX
 induction n with
 |zero=>exact h1.symm
 |succ n ih=>
  show .b false::.n 0::.n 1::moL n=_;rw[ih];rfl
def z1V(k:Nat):ei (xnL n) k=if k=n then 1 else 0:=by
 unfold ei xnL;rw[aB];rcases aY k n with h|h
 ·rw[bF (by simpa using h),zmB,aF h,aG eP];rfl
 ·rw[aM (by simpa using h),bg];by_cases h2:k=n
  ·subst h2;rw[bD,aF rfl];rfl
  ·obtain⟨d,hd⟩:∃d,k-n=d+1:=⟨k-n-1,eP⟩
   rw[hd,aG h2];rfl
def z3O{z:Int}:rs (zr [z])=[.b (decide (z<0)),.n z.natAbs,.n 1]:=by
 have h:=DI (z:=z);unfold rc at h;injection h
def z3P(h2:2<=n)(h9:n<=64)(hc:c<=1000):∃e,o9 4000000000 [.tree (moL n) (n+1) false,.tree [.b false,.n (Nat.add 2 (Nat.mul 4 c)),.n 1] 1 false]=some (pz (xaL n ((2+4*c:Nat):Int)) e):=by
 have hg:rs (zr [((2+4*c:Nat):Int)])=[.b false,.n (Nat.add 2 (Nat.mul 4 c)),.n 1]:=by
  rw[z3O,aU eP];rfl
 have hf:(zr (xnL n)).length=n+1:=by rw[nK];unfold xnL;simp
 have he:∀i,ei (xaL n ((2+4*c:Nat):Int)) i=if i<n+1 then(if i=0 then((2+4*c:Nat):Int)else if i=n then 1 else 0)else 0:=λi=>by unfold xaL;rw[ue]
 have hi0:ei (xaL n ((2+4*c:Nat):Int)) 0=((2+4*c:Nat):Int):=by rw[he,aF eP,aF rfl]
 have hin:ei (xaL n ((2+4*c:Nat):Int)) n=1:=by rw[he,aF eP,aG eP,aF rfl]
 have him:∀i,i<n->i≠0->ei (xaL n ((2+4*c:Nat):Int)) i=0:=λi h1 h0=>by rw[he,aF eP,aG h0,aG eP]
 have hr0:rc 0=.agg [.b false,.n 0,.n 1]:=eX;have hrm:rc (((2+4*c:Nat):Int):Rat)=.agg [.b false,.n (Nat.add 2 (Nat.mul 4 c)),.n 1]:=by
  rw[DI,aU eP];rfl
 have ha0:=NU (Cj z21 (show c<1001 by omega));rw[<-hr0,<-hrm]at ha0;have hv:∀i,i<=n->kD 4000000000 [rc (ent (zr (xnL n)) i),rc (ent (zr [((2+4*c:Nat):Int)]) i)]=some (rc ((ei (xaL n ((2+4*c:Nat):Int)) i:Int):Rat)):=λi hi=>by
  rw[qk,qk,z1V];by_cases h0:i=0
  ·subst h0;rw[hi0,aG (show ¬0=n by omega),show ei [((2+4*c:Nat):Int)] 0=((2+4*c:Nat):Int)from rfl,dO];exact ha0
  ·rw[jr (l:=[((2+4*c:Nat):Int)]) (show 1<=i by omega),dO];by_cases h1:i=n
   ·subst h1;rw[hin,aF rfl,Rat.intCast_one];exact Zr
   ·rw[him i eP h0,aG h1,dO];exact Zs
 obtain⟨e,h⟩:=HV (ex:=false) (ey:=false) (f:=zr (xnL n)) (g:=zr [((2+4*c:Nat):Int)]) (v:=λi=>((ei (xaL n ((2+4*c:Nat):Int)) i:Int):Rat)) hf rfl eP hv (by
  show((ei (xaL n _) n:Int):Rat)=1;rw[hin,Rat.intCast_one]) (n+1) 0 4000000000 [] gj eP eP AS.nil
 have hl:lst (n+1) (λi=>((ei (xaL n ((2+4*c:Nat):Int)) i:Int):Rat))=zr (xaL n ((2+4*c:Nat):Int)):=by
  unfold lst zr
  conv=>rhs;unfold xaL
  rw[List.map_map];exact cz λi hi=>by
   show((ei (xaL n _) i:Int):Rat)=_;rw[he,aF (dp.1 hi)];rfl
 rw[hl,hg,<-z0E]at h;refine⟨e,?_⟩;have hx:(xaL n ((2+4*c:Nat):Int)).length=n+1:=by unfold xaL;simp
 unfold pz;rw[hx];unfold o9;exact h
def UM{a:Int}{b:Nat}{k:D->Rs}:wQ (.i .i64 a) (.i .i64 (.ofNat b)) k=k (.b (decide (a<=(b:Int)))):=by
 cases a with
 |ofNat a=>
  rw[wP];by_cases h:a<=b
  ·rw[aD h,ac (by simp only[ag];omega)]
  ·rw[il h,aU (by simp only[ag];omega)]
 |negSucc a=>
  show gN .leq (.i .i64 (.negSucc a)) (.i .i64 (.ofNat b)) k=_;unfold gN;rw[gc];rfl
def YJ{b:Blk}{z o:Nat}(h:bs[k]?=some b)(hl:b.st.live=true):fF z (mem bs) (.ptr k o) K=K (.ptr k (o+z)) (mem bs):=by rw[qm,h,jY,hl,fH]
def uaw:eY awC [] s K=K (.b true) s:=z32 rfl
def Qu(a0 a1:Int):kG (λ_=>awC) 4000000000 [.i .i64 a0,.i .i64 a1]=some (.b true):=by
 unfold kG;refine(id ?_:u1 [.i .i64 a0,.i .i64 a1] _=some (.b true));rw[fJ,fJ,fV,<-fg];refine th UM ?_;by_cases h1:a0<=((12:Nat):Int)
 ·rw[ac h1];exact th qV (th qV (th gT (th qV (th qV (th gT (th qV (th qV (th gT (th fG (th uaw KZ))))))))))
 rw[aU h1];refine th iX (th iX (th LJ ?_));by_cases h2:a0>((64:Nat):Int)
 ·rw[ac h2];exact th ga (th qV (th qV (th gT (th qV (th qV (th gT (th fG (th uaw KZ))))))))
 rw[aU h2];refine th ga (th iX (th iX (th UK ?_)));by_cases h3:a1<((0:Nat):Int)
 ·rw[ac h3];exact th ga (th qV (th qV (th gT (th fG (th uaw KZ)))))
 rw[aU h3];refine th ga (th iX (th iX (th LJ ?_)));by_cases h4:a1>((1000:Nat):Int)
 ·rw[ac h4];exact th ga (th fG (th uaw KZ))
 rw[aU h4];obtain⟨n,rfl⟩:∃n:Nat,a0=Int.ofNat n:=⟨a0.toNat,by simp only[ag];omega⟩
 obtain⟨c,rfl⟩:∃c:Nat,a1=Int.ofNat c:=⟨a1.toNat,by simp only[ag];omega⟩
 simp only[ag]at h1 h2 h3 h4;have hm:=NU (Cj z20 (show n<65 by omega));have ho:=NU (Cj uOf (show c<1001 by omega));obtain⟨e,hs⟩:=z3P (n:=n) (c:=c) eP eP eP;have hl8:Lg 1000 (((2+4*c:Nat):Int)).natAbs:=fM (te (show((2+4*c:Nat):Int).natAbs<=1000000 by omega)) eV;have hFA:FA n ((2+4*c:Nat):Int) (xaL n ((2+4*c:Nat):Int)):=⟨Yh eP eP,eP,eP,hl8⟩
 have hd:=Ln (φ:=4000000000) (ef:=e) hFA eP eV;have hp:=Wd (φ:=4000000000) (ef:=e) hFA eP eV
 let B0:fQ:=[]++[Blk.mk [ni (2+4*c)] .rw]
 obtain⟨B1,q0,q1,q2⟩:=pR (bs:=B0) (Mf:=p7 4000000000) (Xs:=[.sl 0 0 1 1 1 true]) (Vs:=[.tree [ni (2+4*c)] 1 true]) (ls:=[0]++[]) (AVL.cons (λF=>rfl) AVL.nil) (λk hk=>by
  have:k=0:=by simpa using hk
  subst this;exact Nat.zero_lt_one) ho
 refine th ga (th ez (th (fX Zp) (th (fX hm) (th (xO eP) (th (gA eP) (th (B4 (zero:=[fB]) (x:=ni (2+4*c)) (new:=[ni (2+4*c)]) (z:=1) rfl rfl rfl rfl) (th (q2 _) (th (fX hs) (th (fX hd) (th iG (th iF (th (fX hp) (th iG (th iF (th vM ?_)))))))))))))))
 let B2:fQ:=B1++[Blk.mk [.tree [] 0 true,.tree [] 0 true,.tree [] 0 true] .rw]
 have b2:B2[B1.length]?=some ⟨[.tree [] 0 true,.tree [] 0 true,.tree [] 0 true],.rw⟩:=by simp[B2]
 refine th (xF (cs':=[.tree [] 0 true,.tree [] 0 true,.tree [] 0 true]) b2 rfl (hx:=rfl) (hn:=rfl) (h1:=rfl) (hl:=rfl)) ?_;have b3:(B2.set B1.length ⟨[.tree [] 0 true,.tree [] 0 true,.tree [] 0 true],.rw⟩)[B1.length]?=some ⟨[.tree [] 0 true,.tree [] 0 true,.tree [] 0 true],.rw⟩:=aH (fC b2);refine th (oW rfl) (th gG (th gG (th (oW rfl) (th gT (th gG (th gG (th (oW rfl) (th gT ?_))))))));refine th gG (th (YJ b3 rfl) (th gG (th (vp b3 rfl rfl) (th gG (th fY ?_)))));refine th gG (th (YJ b3 rfl) (th gG (th (vp b3 rfl rfl) (th gG (th fY (th gG (th (gA eV) ?_)))))));refine th gG (th (YJ b3 rfl) (th gG (th (YJ b3 rfl) (th gG (th (vp b3 rfl rfl) (th gG (th fY (th gG (th (gA eV) ?_)))))))));exact th gG (th (oW rfl) (th gT (th gG (th uaw (th gT KZ)))))
def z3h:kY 4000000000 [(.tree [(.b true),(.n 2),(.n 1),(.b false),(.n 0),(.n 1),(.b false),(.n 0),(.n 1),(.b false),(.n 0),(.n 1),(.b false),(.n 0),(.n 1),(.b false),(.n 0),(.n 1),(.b false),(.n 0),(.n 1),(.b false),(.n 0),(.n 1),(.b false),(.n 0),(.n 1),(.b false),(.n 0),(.n 1),(.b false),(.n 0),(.n 1),(.b false),(.n 0),(.n 1),(.b false),(.n 0),(.n 1),(.b false),(.n 1),(.n 1)] 14 false)]=some (.tup [fB,.i .i64 (.ofNat 17)]):=by
 have h:=Ln (φ:=4000000000) (ef:=false) (n:=13) (a:= -2) (f:=xaL 13 (-2)) ⟨Yh eV eV,eV,eV,fM (te (show(-2:Int).natAbs<=1000000 by decide)) eV⟩ eV eV;rw[show pz (xaL 13 (-2)) false=(.tree [(.b true),(.n 2),(.n 1),(.b false),(.n 0),(.n 1),(.b false),(.n 0),(.n 1),(.b false),(.n 0),(.n 1),(.b false),(.n 0),(.n 1),(.b false),(.n 0),(.n 1),(.b false),(.n 0),(.n 1),(.b false),(.n 0),(.n 1),(.b false),(.n 0),(.n 1),(.b false),(.n 0),(.n 1),(.b false),(.n 0),(.n 1),(.b false),(.n 0),(.n 1),(.b false),(.n 0),(.n 1),(.b false),(.n 1),(.n 1)] 14 false) by kernel_rfl]at h;exact h
end
end
end Go.Proofs.YthljpappkomocaaGreat
