/- What the residuals compute, at all arguments. -/
import Derived.Test.YthljpappkomocaaGreatE0
import Derived.Test.YthljpappkomocaaGreatD0
import Derived.Test.YthljpappkomocaaGreatB0
import Derived.ChangeArms
import Derived.Test.YthljpappkomocaaGreatCC0
set_option linter.all false
set_option maxRecDepth 10000
namespace Go.Proofs.YthljpappkomocaaGreat
open Ev
noncomputable section
section
variable {bs bs':List Blk} {i j k n m c N h H col:Nat} {ex ey e:Bool} {s:LS} {K:D→LS→Rs} {kk:IntKind} {φ:Nat} {X Y Z W X' x0:D} {P Q:List (Row×Bool)} {rows L:List Row} {l r pv:Row} {q:Rat} {cs cs':List D} {V:List Nat}
inductive TL (bs:List Blk):D→List D→Prop
 |tr {cs:List D} {e:Bool}:TL bs (.tree cs cs.length e) cs
 |sl {k c:Nat} {e:Bool} {b:Blk} {cs:List D} (hb:bs[k]?=some b) (hl:b.st.live=true) (hc:b.cs=cs):TL bs (.sl k 0 cs.length c 1 e) cs
theorem Nn{d:D}(h:TL bs X cs)(hd:cs[i]?=some d):(eK 1 (mem bs) X (.i kk (.ofNat i)) λa s=>eJ s a K)=K d (mem bs):=by
 cases h with
 |tr=>exact t8 hd rfl
 |sl hb hl hc=>exact Uz hb hl (by rw[hc];exact hd) (fE hd)
theorem No(h:TL bs X cs){s:LS}:ek X s K=K (.i .i64 (.ofNat cs.length)) s:=by
 cases h with
 |tr=>rfl
 |sl _ _ _=>rfl
theorem Xi(h:AS 1 bs X cs n):TL bs X cs:=by
 cases h with
 |nil=>exact .tr (cs:=[])
 | @blk l _ _ hg hc=>
  have:n=cs.length:=by omega
  subst this;exact .sl hg rfl rfl
def Sep(X Y:D):Prop:=∀k,kI X k∨kI Y k
theorem va:Sep (.tree cs n e) Y:=λk=>Or.inl λo n m z e h=>by cases h
theorem vF(h:Sep X Y):Sep Y X:=λk=>(h k).symm
theorem Dw{z:Nat}(h:kI (.sl k n m c z e) k):False:=h _ _ _ _ _ rfl
def Kp(bs bs':List Blk)(X X':D):Prop:=∀k b,kI X k→bs[k]?=some b→bs'[k]?=some b∧kI X' k
theorem Kn:Kp bs bs X X:=λk b h h'=>⟨h',h⟩
theorem HR{bs1:List Blk}{X1:D}(h:Kp bs bs1 X X1)(h':Kp bs1 bs' X1 X'):Kp bs bs' X X':=λk b hk hb=>by
 obtain⟨a,b'⟩:=h k b hk hb;exact h' k b b' a
theorem zR(h:AS 1 bs Y cs n)(hs:Sep X Y)(hk:Kp bs bs' X X'):AS 1 bs' Y cs n∧Sep X' Y:=by
 cases h with
 |nil=>exact⟨AS.nil,vF va⟩
 | @blk l _ _ hg hc=>
  have hn:kI X l:=(hs l).elim id λh=>(Dw h).elim;obtain⟨a,b⟩:=hk l _ hn hg;refine⟨AS.blk a hc,λk=>?_⟩;by_cases e:k=l
  ·subst e;exact Or.inl b
  ·exact Or.inr λo n m z e' he=>by injection he with h1;exact e h1.symm
theorem Xh(h:TL bs Y cs)(hs:Sep X Y)(hk:Kp bs bs' X X'):TL bs' Y cs∧Sep X' Y:=by
 cases h with
 |tr=>exact⟨.tr,vF va⟩
 | @sl l c e b _ hb hl hc=>
  have hn:kI X l:=(hs l).elim id λh=>(Dw h).elim;obtain⟨a,b'⟩:=hk l _ hn hb;refine⟨.sl a hl hc,λk=>?_⟩;by_cases e:k=l
  ·subst e;exact Or.inl b'
  ·exact Or.inr λo n m z e' he=>by injection he with h1;exact e h1.symm
theorem apC{x:D}(h:AS 1 bs X cs n)(hl:n<1000000)(hx:jr x=[x])(h1:one x=true){bytes:Nat}(hb:bytes≤1000){zero:List D}(hz:zero.length=1):∃bs' X',AS 1 bs' X' (cs++[x]) (n+1)∧Kp bs bs' X X'∧(jY 1 zero [(0,1,x)] (mem bs) λy s=>mF 1 bytes s X y K)=K X' (mem bs'):=by
 have:(n+1)*bytes≤1000000*1000:=bv (by omega) hb;obtain⟨b1,X1,g1,g2,g3⟩:=ap1 (bytes:=bytes) (zero:=zero) (x:=x) (new:=[x]) (K:=K) h hz hx rfl (by simp[h1]) (by omega) (by omega);exact⟨b1,X1,g1,g2,g3⟩
inductive FA (rows:List Row) (col i:Nat):Option Nat→Prop
 |no (h:∀t,t<i→ent (rows.getD t []) col=0):FA rows col i none
 |yes {a:Nat} (h1:a<i) (h2:ent (rows.getD a []) col≠0) (h3:∀t,t<a→ent (rows.getD t []) col=0):FA rows col i (some a)
theorem Wy{o:Option Nat}(h:FA rows col rows.length o):(o=none→¬fnd rows col<rows.length)∧∀a,o=some a→fnd rows col=a∧a<rows.length:=by
 cases h with
 |no h=>
  refine⟨λ_ hf=>?_,λa ha=>by cases ha⟩;have:=dz (xs:=rows) (p:=λr=>decide (ent r col≠0)) (w:=hf);have h2:=h _ hf;rw[aH,aB hf]at h2;exact cg this h2
 | @yes a h1 h2 h3=>
  refine⟨λh=>(by cases h),λa' ha=>?_⟩;cases ha;refine⟨?_,h1⟩;have hg:∀t(ht:t<rows.length),rows.getD t []=rows[t]:=λt ht=>by rw[aH,aB ht];rfl
  have h4:fnd rows col≤a:=by
   rcases az a (fnd rows col)with h|h
   ·have:=List.not_of_lt_findIdx (xs:=rows) (p:=λr=>decide (ent r col≠0)) h;rw[hg a h1]at h2;simp at this;exact absurd this h2
   ·exact h
  rcases az (fnd rows col) a with h|h
  ·have hf:fnd rows col<rows.length:=by omega
   have:=dz (xs:=rows) (p:=λr=>decide (ent r col≠0)) (w:=hf);have h5:=h3 _ h;rw[hg _ hf]at h5;exact absurd h5 (cg this)
  ·omega
def atD:Option Nat→D
 |none=>.i .i64 (.negSucc 0)
 |some a=>.i .i64 (.ofNat a)
theorem Sj(hP:∀p,p∈P→p.1.length=N)(hc:col<N)(hn:P.length=n)(hs:n<1000000)(hX:TL bs X (P.map mtD)){j12:D→D→D→D→D→LS→Rs}:∀(j i fu:Nat)(o:Option Nat),i+j=n→j<fu→FA (P.map Prod.fst) col i o→
 ∃o',FA (P.map Prod.fst) col n o'∧lp (λ(_ _ _ _ _ _ _ _:D)(_:LS)=>none) (fc φ j12) fu x0 X Y Z (.i .i64 (.ofNat col)) (atD o) (.i .i64 (.ofNat n)) (.i .i64 (.ofNat i)) (mem bs)=
  lp (λ(_ _ _ _ _ _ _ _:D)(_:LS)=>none) (fc φ j12) (fu-j) x0 X Y Z (.i .i64 (.ofNat col)) (atD o') (.i .i64 (.ofNat n)) (.i .i64 (.ofNat n)) (mem bs):=by
 intro j
 induction j with
 |zero=>
  intro i fu o hi hf h;have:i=n:=by omega
  subst this;exact⟨o,h,rfl⟩
 |succ j ih=>
  intro i fu o hi hf h;obtain⟨fu,rfl⟩:∃q,fu=q+1:=⟨fu-1,by omega⟩
  have hiP:i<P.length:=by omega
  have hmem:P[i]∈P:=bK hiP;have hget:(P.map Prod.fst).getD i []=P[i].1:=by rw[aH,au,aB hiP];rfl
  cases h with
  | @yes a h1 h2 h3=>
   obtain⟨o',g1,g2⟩:=ih (i+1) fu (some a) (by omega) (by omega) (.yes (by omega) h2 h3);refine⟨o',g1,?_⟩;rw[eO]
   conv=>lhs;unfold fc
   rw[bt fu 1 j];exact th (fk (by omega)) (th eP (th ph (th (fy (cU a)) (th fj (th fj (th fj (th fj (th fj (th fj (th fj (th fj (th fj (th gE (th eM (th (fM (by omega)) g2)))))))))))))))
  |no h=>
   have pre:∀F:D→LS→Rs,(eI (.b true) true (λk=>eK 1 (mem bs) X (.i .i64 (.ofNat i)) k) (mem bs) λx43 s=>eI (.b true) true (λk=>eJ s x43 k) s λx44 s=>eI (.b true) true (λk=>k (.i .i64 (.ofNat col)) s) s λx45 s=>eI (.b true) true (λk=>eK 3 s x44 x45 k) s λx46 s=>eI (.b true) true (λk=>eS 3 s x46 k) s λx47 s=>eI (.b true) true (λk=>eR (jJ φ) [x47] s k) s F)=F (.b (decide (ent P[i].1 col=0))) (mem bs):=λF=>by
    refine th CV (th (Nn hX (d:=mtD P[i]) (by rw[au,aB hiP];rfl)) (th fD (th EK ?_)));unfold mtD;exact th (p9 rfl (by rw[hP _ hmem];exact hc)) (th fD (jo KV rfl))
   by_cases hz:ent P[i].1 col=0
   ·obtain⟨o',g1,g2⟩:=ih (i+1) fu none (by omega) (by omega) (.no λt ht=>by
     by_cases e:t=i
     ·subst e;rw[hget];exact hz
     ·exact h t (by omega))
    refine⟨o',g1,?_⟩;rw[eO]
    conv=>lhs;unfold fc
    rw[bt fu 1 j];refine th (fk (by omega)) (th eP (th ph (th rg (th fD (th fD ((pre _).trans ?_))))));rw[aS hz];exact th fD (th wO (th fe (th eM (th (fM (by omega)) g2))))
   ·obtain⟨o',g1,g2⟩:=ih (i+1) fu (some i) (by omega) (by omega) (.yes (by omega) (by rw[hget];exact hz) h);refine⟨o',g1,?_⟩;rw[eO]
    conv=>lhs;unfold fc
    rw[bt fu 1 j];refine th (fk (by omega)) (th eP (th ph (th rg (th fD (th fD ((pre _).trans ?_))))));rw[aN hz];exact th fD (th wO (th fe (th eP (th (fM (by omega)) g2))))
theorem DS{α:Type}{A:List α}{x:α}{a:Nat}(h:A.length≠a):(A++[x]).eraseIdx a=A.eraseIdx a++[x]:=by
 rcases az a A.length with h1|h1
 ·rw[List.eraseIdx_append_of_lt_length h1]
 ·rw[z0X h1,z1r (l:=A) h1];obtain⟨t,ht⟩:∃t,a-A.length=t+1:=⟨a-A.length-1,by omega⟩
  rw[ht];rfl
theorem DT{α:Type}{A:List α}{x:α}:(A++[x]).eraseIdx A.length=A.eraseIdx A.length:=by
 rw[z0X (aD _),cC,z1r (l:=A) (aD _)];exact bq _
theorem Sk(hφ:1000000000≤φ)(hP:∀p,p∈P→p.1.length=N∧SQ p.1 pv (ent p.1 col))(hpv:pv.length=N)(hN:N<1000000000)(hc:col<N)(hn:P.length=n)(hs:n<1000000){a:Nat}{j12:D→D→D→D→D→LS→Rs}:∀(j i fu:Nat)(bs:List Blk)(W:D)(P1:List (Row×Bool)),i+j=n→j<fu→TL bs X (P.map mtD)→Sep W X→AS 1 bs W (P1.map mtD) P1.length→P1.map Prod.fst=(((P.map Prod.fst).take i).eraseIdx a).map (wo pv col)→
 ∃(bs':List Blk)(W':D)(P1':List (Row×Bool)),AS 1 bs' W' (P1'.map mtD) P1'.length∧P1'.map Prod.fst=((P.map Prod.fst).eraseIdx a).map (wo pv col)∧Kp bs bs' W W'∧
  lp (λ(_ _ _ _ _ _ _ _ _ _:D)(_:LS)=>none) (gn φ j12) fu x0 X Y Z (.i .i64 (.ofNat col)) (.i .i64 (.ofNat a)) (.tree (rs pv) N e) W (.i .i64 (.ofNat n)) (.i .i64 (.ofNat i)) (mem bs)=
  lp (λ(_ _ _ _ _ _ _ _ _ _:D)(_:LS)=>none) (gn φ j12) (fu-j) x0 X Y Z (.i .i64 (.ofNat col)) (.i .i64 (.ofNat a)) (.tree (rs pv) N e) W' (.i .i64 (.ofNat n)) (.i .i64 (.ofNat n)) (mem bs'):=by
 intro j
 induction j with
 |zero=>
  intro i fu bs W P1 hi hf hX hW hA h1;have:i=n:=by omega
  subst this;rw[aM (by rw[aI];omega)]at h1;exact⟨bs,W,P1,hA,h1,Kn,rfl⟩
 |succ j ih=>
  intro i fu bs W P1 hi hf hX hW hA h1;obtain⟨fu,rfl⟩:∃q,fu=q+1:=⟨fu-1,by omega⟩
  have hiP:i<P.length:=by omega
  obtain⟨hl,hq⟩:=hP _ (bK hiP);have htk:(P.map Prod.fst).take (i+1)=(P.map Prod.fst).take i++[P[i].1]:=by
   rw[cH,au,aB hiP];rfl
  have htl:((P.map Prod.fst).take i).length=i:=by rw[ah,aI];omega
  by_cases he:i=a
  ·obtain⟨b',W',P1',g1,g2,g3,g4⟩:=ih (i+1) fu bs W P1 (by omega) (by omega) hX hW hA (by
    rw[h1,htk];have:=DT (A:=(P.map Prod.fst).take i) (x:=P[i].1);rw[htl]at this;rw[←he,this])
   refine⟨b',W',P1',g1,g2,g3,?_⟩;rw[eO]
   conv=>lhs;unfold gn
   rw[bt fu 1 j];refine th (fk (by omega)) (th eP (th ph ?_));refine th (o6 he) (th eM (th (fM (by omega)) g4))
  ·obtain⟨e1,w1⟩:=G9 (φ:=φ) (ex:=P[i].2) (ey:=e) hl hpv hc hq hN hφ;obtain⟨b1,W1,a1,a2,a3⟩:=apC (K:=λx90 s=>ee (.i .i64 (.ofNat i)) (.i .i64 (.ofNat 1)) λx84=>lp (λ(_ _ _ _ _ _ _ _ _ _:D)(_:LS)=>none) (gn φ j12) fu x0 X Y Z (.i .i64 (.ofNat col)) (.i .i64 (.ofNat a)) (.tree (rs pv) N e) x90 (.i .i64 (.ofNat n)) x84 s) (bytes:=24) (zero:=[.tree [] 0 true]) (x:=.tree (rs (wo pv col P[i].1)) N e1) hA (by
    have:=congrArg List.length h1;rw[aI,aI]at this;have h5:=List.length_eraseIdx_le ((P.map Prod.fst).take i) a;omega) rfl rfl (by omega) rfl
   obtain⟨hX1,hW1⟩:=Xh hX hW a2;have hwl:(wo pv col P[i].1).length=N:=by unfold wo;rw[se (by omega)];exact hl
   obtain⟨b',W',P1',g1,g2,g3,g4⟩:=ih (i+1) fu b1 W1 (P1++[(wo pv col P[i].1,e1)]) (by omega) (by omega) hX1 hW1 (by
    rw[ak,bF];show AS 1 b1 W1 (P1.map mtD++[mtD (wo pv col P[i].1,e1)]) (P1.length+1);unfold mtD at a1 ⊢;rw[hwl];exact a1) (by
    rw[ak,h1,htk,DS (by rw[htl];exact he),ak];rfl)
   refine⟨b',W',P1',g1,g2,HR a2 g3,?_⟩;rw[eO]
   conv=>lhs;unfold gn
   rw[bt fu 1 j];refine th (fk (by omega)) (th eP (th ph (th (qU he) (th eP (th (Nn hX (d:=mtD P[i]) (by rw[au,aB hiP];rfl)) ?_)))));unfold mtD at*;rw[hl];exact th (fP w1) (a3.trans (th (fM (by omega)) g4))
theorem Sl(hφ:1000000000≤φ)(hL:∀l,l∈L→l.length=N∧SQ l pv (ent l col))(hpv:pv.length=N)(hN:N<1000000000)(hc:col<N)(hn:L.length=n)(hs:n<1000000){j12:D→D→D→D→D→LS→Rs}:∀(j i fu:Nat)(bs:List Blk)(Q:List (Row×Bool)),i+j=n→j<fu→AS 1 bs Y (Q.map mtD) n→Q.map Prod.fst=(L.take i).map (wo pv col)++L.drop i→
 ∃(bs':List Blk)(Q':List (Row×Bool)),AS 1 bs' Y (Q'.map mtD) n∧Q'.map Prod.fst=L.map (wo pv col)∧Kp bs bs' Y Y∧
  lp (λ(_ _ _ _ _ _ _ _:D)(_:LS)=>none) (ii φ j12) fu x0 Y Z (.i .i64 (.ofNat col)) (.tree (rs pv) N e) W (.i .i64 (.ofNat n)) (.i .i64 (.ofNat i)) (mem bs)=
  lp (λ(_ _ _ _ _ _ _ _:D)(_:LS)=>none) (ii φ j12) (fu-j) x0 Y Z (.i .i64 (.ofNat col)) (.tree (rs pv) N e) W (.i .i64 (.ofNat n)) (.i .i64 (.ofNat n)) (mem bs'):=by
 intro j
 induction j with
 |zero=>
  intro i fu bs Q hi hf hA hQ;have:i=n:=by omega
  subst this;rw[aM (by omega),bh (by omega),bq]at hQ;exact⟨bs,Q,hA,hQ,Kn,rfl⟩
 |succ j ih=>
  intro i fu bs Q hi hf hA hQ;obtain⟨fu,rfl⟩:∃q,fu=q+1:=⟨fu-1,by omega⟩
  have hiL:i<L.length:=by omega
  have hQl:Q.length=n:=by
   have:=congrArg List.length hQ;simp at this;omega
  have hiQ:i<Q.length:=by omega
  obtain⟨hl,hq⟩:=hL _ (bK hiL);have hdr:L.drop i=L[i]::L.drop (i+1):=bZ hiL;have hQi:Q[i].1=L[i]:=by
   have:(Q.map Prod.fst)[i]?=some L[i]:=by
    rw[hQ,bN (by rw[aI,ah];omega),aI,ah,bO (by omega),cC,hdr];rfl
   rw[au,aB hiQ]at this;exact ck this
  obtain⟨e1,w1⟩:=G9 (φ:=φ) (ex:=Q[i].2) (ey:=e) hl hpv hc hq hN hφ;have hwl:(wo pv col L[i]).length=N:=by unfold wo;rw[se (by omega)];exact hl
  obtain⟨b1,a1,a2,a3⟩:=Rb (kk:=.i64) (i:=i) (d:=.tree (rs (wo pv col L[i])) N e1) (K:=λ_ s=>ee (.i .i64 (.ofNat i)) (.i .i64 (.ofNat 1)) λx106=>lp (λ(_ _ _ _ _ _ _ _:D)(_:LS)=>none) (ii φ j12) fu x0 Y Z (.i .i64 (.ofNat col)) (.tree (rs pv) N e) W (.i .i64 (.ofNat n)) x106 s) hA (by rw[aI];exact hiQ) rfl rfl;obtain⟨b',Q',g1,g2,g3,g4⟩:=ih (i+1) fu b1 (Q.set i (wo pv col L[i],e1)) (by omega) (by omega) (by
   rw[dr];unfold mtD at a1 ⊢;rw[hwl];exact a1) (by
   rw[dr,hQ,co _ _ (by rw[aI,ah];omega),aI,ah,bO (by omega),cC,hdr,dj,cH,aB hiL,ak,bW];rfl)
  refine⟨b',Q',g1,g2,HR (λk b hk hb=>⟨a2 k b hk hb,hk⟩) g3,?_⟩;rw[eO]
  conv=>lhs;unfold ii
  rw[bt fu 1 j];refine th (fk (by omega)) (th eP (th (Re hA (d:=mtD Q[i]) (by rw[au,aB hiQ];rfl)) ?_));unfold mtD at*;rw[hQi,hl];exact th (fP w1) (a3.trans (th (fM (by omega)) g4))
end
def iD(p:Nat):D:=.i .i64 (.ofNat p)
def hg2(h:Nat):Nat→Nat
 |0=>h
 |k+1=>2*hg2 h k+2
section
variable {bs bs':List Blk} {i j k n m c N h H col:Nat} {ex ey e:Bool} {s:LS} {K:D→LS→Rs} {kk:IntKind} {φ:Nat} {X Y Z W X' x0:D} {P Q:List (Row×Bool)} {rows L:List Row} {l r pv:Row} {q:Rat} {cs cs':List D} {V:List Nat} {st:List Row×List (Row×Nat)}
theorem Q4(hk:j≤k):hg2 h j≤hg2 h k:=by
 induction k with
 |zero=>have:j=0:=by omega
        subst this;exact aD _
 |succ k ih=>
  by_cases e:j=k+1
  ·subst e;exact aD _
  ·have:=ih (by omega);show _≤2*hg2 h k+2;omega
structure ER (bs:List Blk) (X Y Z:D) (N H:Nat) (st:List Row×List (Row×Nat)) (P Q:List (Row×Bool)):Prop where
 x:TL bs X (P.map mtD)
 y:AS 1 bs Y (Q.map mtD) Q.length
 z:AS 1 bs Z ((st.2.map Prod.snd).map iD) Q.length
 sep:Sep Y Z
 hP:P.map Prod.fst=st.1
 hQ:Q.map Prod.fst=st.2.map Prod.fst
 pr:∀p,p∈P→p.1.length=N∧RH H p.1
 qr:∀q,q∈Q→q.1.length=N∧RH H q.1
theorem MV(h:ER bs X Y Z N H st P Q)(hφ:1000000000≤φ)(hN:N<1000000000)(hc:col<N)(hK:2*H+2≤KB)(pn:P.length≤1000)(qn:Q.length≤1000){j12:D→D→D→D→D→LS→Rs}:
 ∃(bs':List Blk)(X' Y' Z':D)(P' Q':List (Row×Bool)),ER bs' X' Y' Z' N (2*H+2) (tB st col) P' Q'∧P'.length≤P.length∧Q'.length≤Q.length+1∧
 (ek X (mem bs) λx19 s=>lp (λ(_ _ _ _ _ _ _ _:D)(_:LS)=>none) (fc φ j12) φ x0 X Y Z (.i .i64 (.ofNat col)) (.i .i64 (.negSucc 0)) x19 (.i .i64 (.ofNat 0)) s)=j12 x0 X' Y' Z' (.i .i64 (.ofNat col)) (mem bs'):=by
 have hPl:(P.map mtD).length=P.length:=aI _;obtain⟨o,f1,f2⟩:=Sj (φ:=φ) (x0:=x0) (Y:=Y) (Z:=Z) (j12:=j12) (λp hp=>(h.pr p hp).1) hc rfl (by omega) h.x P.length 0 φ none (by omega) (by omega) (.no λt ht=>by omega);obtain⟨u,hu⟩:∃u,φ-P.length=u+1:=⟨φ-P.length-1,by omega⟩
 have pre:(ek X (mem bs) λx19 s=>lp (λ(_ _ _ _ _ _ _ _:D)(_:LS)=>none) (fc φ j12) φ x0 X Y Z (.i .i64 (.ofNat col)) (.i .i64 (.negSucc 0)) x19 (.i .i64 (.ofNat 0)) s)=lp (λ(_ _ _ _ _ _ _ _:D)(_:LS)=>none) (fc φ j12) φ x0 X Y Z (.i .i64 (.ofNat col)) (atD none) (.i .i64 (.ofNat P.length)) (.i .i64 (.ofNat 0)) (mem bs):=(No h.x).trans (by rw[hPl];rfl);have hrl:(P.map Prod.fst).length=P.length:=aI _;have hfn:=Wy (rows:=P.map Prod.fst) (by rw[hrl];exact f1);rw[h.hP]at hfn;have hsl:st.1.length=P.length:=by rw[←h.hP];exact hrl
 cases ho:o with
 |none=>
  subst ho;have hno:=hfn.1 rfl;refine⟨bs,X,Y,Z,P,Q,?_,aD _,by omega,pre.trans (f2.trans ?_)⟩
  ·have:tB st col=st:=by unfold tB;rw[aE hno]
   rw[this];exact⟨h.x,h.y,h.z,h.sep,h.hP,h.hQ,λp hp=>⟨(h.pr p hp).1,rX (h.pr p hp).2 (by omega)⟩,λp hp=>⟨(h.qr p hp).1,rX (h.qr p hp).2 (by omega)⟩⟩
  ·rw[hu,eO];unfold fc;exact th (fy (bS _)) (th eM (th rg eP))
 |some a=>
  subst ho;obtain⟨ha,hal⟩:=hfn.2 a rfl;have haP:a<P.length:=by omega
  obtain⟨hl,hh⟩:=h.pr _ (bK haP);have hga:st.1.getD a []=P[a].1:=by rw[←h.hP,aH,au,aB haP];rfl
  have hne:ent P[a].1 col≠0:=by
   cases f1 with
   |yes h1 h2 h3=>rw[h.hP,hga]at h2;exact h2
  have hpv:pvr st.1 col=scl P[a].1 (ent P[a].1 col)⁻¹ :=by unfold pvr;rw[ha,hga]
  have hpl:(scl P[a].1 (ent P[a].1 col)⁻¹).length=N:=by rw[y9];exact hl
  have hph:=OU hh hne;have hHK:H≤KB:=by omega
  obtain⟨e1,s1⟩:=Sn (φ:=φ) (ex:=P[a].2) hl (λi=>vd (MR hh i) hHK) (Il (vd (MR hh col) hHK)) hN hφ;obtain⟨b1,W,P1,g1,g2,g3,g4⟩:=Sk (φ:=φ) (x0:=x0) (X:=X) (Y:=Y) (Z:=Z) (e:=e1) (a:=a) (j12:=j12) (P:=P) (n:=P.length) (col:=col) hφ (λp hp=>⟨(h.pr p hp).1,KO (h.pr p hp).2 hph (by omega) col⟩) hpl hN hc rfl (by omega) P.length 0 φ bs (.tree [] 0 true) [] (by omega) (by omega) h.x va AS.nil rfl;obtain⟨y1,_⟩:=zR h.y va g3;obtain⟨z1,sWZ⟩:=zR h.z va g3;obtain⟨_,sWY⟩:=zR h.y va g3;have hQl:(Q.map Prod.fst).length=Q.length:=aI _;obtain⟨b2,Q2,k1,k2,k3,k4⟩:=Sl (φ:=φ) (x0:=x0) (Y:=Y) (Z:=Z) (W:=W) (e:=e1) (j12:=j12) (L:=Q.map Prod.fst) (n:=Q.length) (col:=col) (pv:=scl P[a].1 (ent P[a].1 col)⁻¹) hφ (λl hl=>by
   obtain⟨p,hp,rfl⟩:=aW.1 hl;exact⟨(h.qr p hp).1,KO (h.qr p hp).2 hph (by omega) col⟩) hpl hN hc hQl (by omega) Q.length 0 φ b1 Q (by omega) (by omega) y1 (by rw[d9,aj];rfl)
  have hQ2:Q2.length=Q.length:=by
   have:=congrArg List.length k2;rw[aI,aI,aI]at this;exact this
  obtain⟨z2,sYZ⟩:=zR z1 h.sep k3;obtain⟨w2,sYW⟩:=zR g1 (vF sWY) k3;obtain⟨b3,Y3,m1,m2,m3⟩:=apC (bytes:=24) (zero:=[.tree [] 0 true]) (x:=.tree (rs (scl P[a].1 (ent P[a].1 col)⁻¹)) N e1) (K:=λx108 s=>jY 1 [(.i .i64 (.ofNat 0))] [(0,1,.i .i64 (.ofNat col))] s λx109 s=>mF 1 8 s Z x109 λx110 s=>j12 x0 W x108 x110 (.i .i64 (.ofNat col)) s) k1 (by omega) rfl rfl (by omega) rfl;obtain⟨z3,sY3Z⟩:=zR z2 sYZ m2;obtain⟨w3,sY3W⟩:=zR w2 sYW m2;obtain⟨b4,Z4,n1,n2,n3⟩:=apC (bytes:=8) (zero:=[.i .i64 (.ofNat 0)]) (x:=.i .i64 (.ofNat col)) (K:=λx110 s=>j12 x0 W Y3 x110 (.i .i64 (.ofNat col)) s) z3 (by omega) rfl rfl (by omega) rfl;have sZ3W:Sep Z W:=vF sWZ;obtain⟨y4,sZY⟩:=zR m1 (vF sY3Z) n2;obtain⟨w4,_⟩:=zR w3 sZ3W n2;have hst:tB st col=((st.1.eraseIdx a).map (wo (scl P[a].1 (ent P[a].1 col)⁻¹) col),(st.2.map λe=>(wo (scl P[a].1 (ent P[a].1 col)⁻¹) col e.1,e.2))++[(scl P[a].1 (ent P[a].1 col)⁻¹,col)]):=by
   unfold tB;rw[aC (by rw[ha];exact hal),hpv,ha]
  have hwo:∀l:Row,l.length=N→RH H l→(wo (scl P[a].1 (ent P[a].1 col)⁻¹) col l).length=N∧RH (2*H+2) (wo (scl P[a].1 (ent P[a].1 col)⁻¹) col l):=λl hl hh'=>by
   refine⟨by unfold wo;rw[se (by omega)];exact hl,?_⟩;have:=Ib hh' hph (by omega) col;exact rX this (by omega)
  refine⟨b4,W,Y3,Z4,P1,Q2++[(scl P[a].1 (ent P[a].1 col)⁻¹,e1)],?_,?_,?_,pre.trans (f2.trans ?_)⟩
  ·rw[hst];refine⟨Xi w4,?_,?_,vF sZY,?_,?_,λp hp=>?_,λp hp=>?_⟩
   ·rw[ak,bF,hQ2];show AS 1 b4 Y3 (Q2.map mtD++[mtD (scl P[a].1 (ent P[a].1 col)⁻¹,e1)]) (Q.length+1);unfold mtD at y4 ⊢;rw[hpl];exact y4
   ·have hsn:((st.2.map λe=>(wo (scl P[a].1 (ent P[a].1 col)⁻¹) col e.1,e.2))++[(scl P[a].1 (ent P[a].1 col)⁻¹,col)]).map Prod.snd=st.2.map Prod.snd++[col]:=by
     rw[ak,cE];rfl
    rw[bF,hQ2];show AS 1 b4 Z4 ((((st.2.map λe=>(wo (scl P[a].1 (ent P[a].1 col)⁻¹) col e.1,e.2))++[(scl P[a].1 (ent P[a].1 col)⁻¹,col)]).map Prod.snd).map iD) (Q.length+1);rw[hsn,ak];exact n1
   ·rw[g2,h.hP]
   ·rw[ak,k2,h.hQ,ak,cE,cE];rfl
   ·have hm:p.1∈((P.map Prod.fst).eraseIdx a).map (wo (scl P[a].1 (ent P[a].1 col)⁻¹) col):=by rw[←g2];exact ax hp
    obtain⟨l,hl',hlp⟩:=aW.1 hm;obtain⟨p',hp',rfl⟩:=aW.1 (List.mem_of_mem_eraseIdx hl');rw[←hlp];exact hwo _ (h.pr p' hp').1 (h.pr p' hp').2
   ·rcases am.1 hp with hp|hp
    ·have hm:p.1∈(Q.map Prod.fst).map (wo (scl P[a].1 (ent P[a].1 col)⁻¹) col):=by rw[←k2];exact ax hp
     obtain⟨l,hl',hlp⟩:=aW.1 hm;obtain⟨p',hp',rfl⟩:=aW.1 hl';rw[←hlp];exact hwo _ (h.qr p' hp').1 (h.qr p' hp').2
    ·have:p=(scl P[a].1 (ent P[a].1 col)⁻¹,e1):=by simpa using hp
     subst this;exact⟨hpl,rX hph (by omega)⟩
  ·have h5:=congrArg List.length g2;rw[aI,aI]at h5;have h6:=List.length_eraseIdx_le (P.map Prod.fst) a;omega
  ·rw[bF,hQ2];exact aD _
  ·have hrd:∀F:D→LS→Rs,(eK 1 (mem bs) X (.i .i64 (.ofNat a)) λx s=>eJ s x F)=F (.tree (rs P[a].1) N P[a].2) (mem bs):=λF=>by
    refine th (Nn h.x (d:=mtD P[a]) (by rw[au,aB haP];rfl)) ?_;unfold mtD;rw[hl]
   rw[hu,eO];unfold fc;refine th (fy (bS _)) (th eM (th (fy (cU a)) (th eM ((hrd _).trans ((hrd _).trans (th (p9 hl hc) (th (jo Ge rfl) (th (fP s1) (th (No h.x) ?_)))))))));rw[hPl];refine g4.trans ?_;rw[hu,eO];unfold gn;refine th (fy (bS _)) (th eM (th (Lo y1) (k4.trans ?_)));obtain⟨u2,hu2⟩:∃u,φ-Q.length=u+1:=⟨φ-Q.length-1,by omega⟩
   rw[hu2,eO];unfold ii;exact th (fy (bS _)) (th eM (m3.trans n3))
theorem Xt(hP:∀p,p∈P→p.1.length=N)(hn:P.length=n)(h0:0<n):mi φ [.tree (P.map mtD) n e]=some (.i .i64 (.ofNat N)):=by
 have hP0:0<P.length:=by omega
 unfold mi;dsimp only[eV,eZ];refine th fH (th (tO (by omega)) (th eM (th (t8 (d:=mtD P[0]) (by rw[au,aB hP0];rfl) (by rw[aI,hn])) ?_)));unfold mtD;rw[hP _ (bK hP0)];exact th fH ia
theorem Rc(h:AS 1 bs X cs n)(hm:iP (res (mem bs).get 59) cs=some (cs,[])):∃e ls,res (mem bs).get 60 X=some (.tree cs n e,ls):=by
 cases h with
 |nil=>exact⟨true,[],rfl⟩
 | @blk l _ _ hg hc=>
  exact⟨_,_,uN (n:=59) (r:=cs) (ls:=[]) (by rw[mQ];exact hg) rfl (by
   show cut 0 (n*1) cs=some cs;unfold cut;rw[aj,aM (by omega),aC hc]) hm⟩
theorem Dz(g:Nat→Option Blk):∀P:List (Row×Bool),iP (res g 59) (P.map mtD)=some (P.map mtD,[])
 |[]=>rfl
 |p::P=>by
  rw[bB];unfold iP;rw[Dz g P,show res g 59 (mtD p)=some (mtD p,[])from rfl];rfl
theorem LB:∀V:List Nat,(V.map iD).all ot=true
 |[]=>rfl
 |v::V=>by rw[bB,cJ,LB V];rfl
theorem Uc(h:AS 1 bs X cs n):∀ds,tM (.tup (X::ds))=false:=by
 intro ds;cases h with
 |nil=>rfl
 |blk _ _=>rfl
def Yv(N H:Nat)(rows:List Row)(o:Option D):Prop:=∃(Q:List (Row×Bool))(e1 e2:Bool),Q.map Prod.fst=(DL N rows).map Prod.fst∧(∀q,q∈Q→q.1.length=N∧RH H q.1)∧o=some (.tup [.tree (Q.map mtD) Q.length e1,.tree (((DL N rows).map Prod.snd).map iD) Q.length e2])
theorem Si(hφ:1000000000≤φ)(hN:N<1000)(hP0:∀p,p∈P→p.1.length=N∧RH h p.1)(hn:P.length=n)(h0:0<n)(hn1:n≤1000)(hK:hg2 h N≤KB):∀(t col fu:Nat)(bs:List Blk)(X Y Z:D)(P1 Q1:List (Row×Bool)),col+t=N→t<fu→ER bs X Y Z N (hg2 h col) ((List.range col).foldl tB (P.map Prod.fst,[])) P1 Q1→P1.length≤1000→Q1.length≤col→
 Yv N (hg2 h N) (P.map Prod.fst) (lp (λ(_ _ _ _ _:D)(_:LS)=>none) (ig φ) fu (.tree (P.map mtD) n e) X Y Z (.i .i64 (.ofNat col)) (mem bs)):=by
 have hcols:=Xt (φ:=φ) (e:=e) (λp hp=>(hP0 p hp).1) hn h0;have hma:∀(s:LS)(kk:List D→List Nat→Rs),nI (kJ s fv) [.tree (P.map mtD) n e] kk=kk [.tree (P.map mtD) n e] []:=λs kk=>rfl;intro t
 induction t with
 |zero=>
  intro col fu bs X Y Z P1 Q1 hi hf hE hp hq;obtain⟨fu,rfl⟩:∃q,fu=q+1:=⟨fu-1,by omega⟩
  have:col=N:=by omega
  subst this;obtain⟨e1,l1,r1⟩:=Rc hE.y (Dz _ Q1);obtain⟨e2,l2,r2⟩:=Rc hE.z (kL (k:=58) _ (LB _));refine⟨Q1,e1,e2,hE.hQ,hE.qr,?_⟩;rw[eO];unfold ig;refine th (fP hcols) (th (fy (bS _)) (th eM ?_));exact GX r1 r2 (Uc hE.y _)
 |succ t ih=>
  intro col fu bs X Y Z P1 Q1 hi hf hE hp hq;obtain⟨fu,rfl⟩:∃q,fu=q+1:=⟨fu-1,by omega⟩
  have hb:hg2 h (col+1)≤KB:=bT (Q4 (by omega)) hK;obtain⟨b1,X1,Y1,Z1,P2,Q2,a1,a2,a3,a4⟩:=MV (φ:=φ) (x0:=.tree (P.map mtD) n e) (col:=col) (j12:=λx13 x14 x15 x16 x17 s=>ee x17 (.i .i64 (.ofNat 1)) λx18=>lp (λ(_ _ _ _ _:D)(_:LS)=>none) (ig φ) fu x13 x14 x15 x16 x18 s) hE hφ (by omega) (by omega) hb hp (by omega);obtain⟨Q',e1,e2,c1,c2,c3⟩:=ih (col+1) fu b1 X1 Y1 Z1 P2 Q2 (by omega) (by omega) (by
   rw[z1c,dR];exact a1) (by omega) (by omega)
  refine⟨Q',e1,e2,c1,c2,?_⟩;rw[eO]
  conv=>lhs;unfold ig
  refine th (fP hcols) (th (fk (by omega)) (th eP (th ph (a4.trans (th (fM (by omega)) c3)))))
theorem On(hφ:1000000000≤φ)(hN:N<1000)(hP0:∀p,p∈P→p.1.length=N∧RH h p.1)(hn:P.length=n)(h0:0<n)(hn1:n≤1000)(hK:hg2 h N≤KB):Yv N (hg2 h N) (P.map Prod.fst) (jg φ [.tree (P.map mtD) n e]):=by
 obtain⟨j,c,e',bs',a1,a2,_⟩:=Ue (bs:=[⟨[],.rw⟩]) (k:=0) (z:=1) (bytes:=24) (n:=n) (cs:=P.map mtD) (ex:=e) (K:=λx3 s=>lp (λ(_ _ _ _ _:D)(_:LS)=>none) (ig φ) φ (.tree (P.map mtD) n e) x3 (.tree [] 0 true) (.tree [] 0 true) (.i .i64 (.ofNat 0)) s) rfl (by rw[aI];omega) (FQ P) (by omega) (by omega);have hX:TL bs' (.sl j 0 n c 1 e') (P.map mtD):=by
  have:=TL.sl (k:=j) (c:=c) (e:=e') (cs:=P.map mtD) a2 rfl rfl;rw[aI,hn]at this;exact this
 obtain⟨Q',e1,e2,c1,c2,c3⟩:=Si (φ:=φ) (e:=e) hφ hN hP0 hn h0 hn1 hK N 0 φ bs' (.sl j 0 n c 1 e') (.tree [] 0 true) (.tree [] 0 true) P [] (by omega) (by omega) ⟨hX,AS.nil,AS.nil,va,rfl,rfl,hP0,(λq hq=>by cases hq)⟩ (by omega) (by simp);refine⟨Q',e1,e2,c1,c2,?_⟩;unfold jg;dsimp only[eV,eZ];rw[←fm];exact th (Ks rfl) (a1.trans c3)
end
section
variable {bs bs':List Blk} {i j k n m c d N h H col kr:Nat} {ex ey e:Bool} {s:LS} {K:D→LS→Rs} {kk:IntKind} {φ:Nat} {X Y Z W W' X' x0 T:D} {P Q:List (Row×Bool)} {rows L:List Row} {l r pv:Row} {q:Rat} {cs cs':List D} {V:List Nat} {R:List IR}
end
section
variable {bs bs':List Blk} {i j k n m c d N h H col kr:Nat} {ex ey e:Bool} {s:LS} {K:D→LS→Rs} {kk:IntKind} {φ:Nat} {X Y Z W W' X' x0 T:D} {P Q:List (Row×Bool)} {rows L:List Row} {l r pv t:Row} {q:Rat} {cs cs':List D} {V:List Nat} {R:List IR}
theorem QA{o:O}{dv:D}(h:evA s.nx cv s.get o=some (dv,[])):kS o s K=K dv s:=by
 unfold kS;rw[h];show zG dv (λd=>K d s)=_;rw[rj]
inductive FP (V:List Nat) (col i:Nat):Prop
 |mk (h:∀t,t<i→V.getD t 0≠col):FP V col i
end
section
variable {bs bs':List Blk} {i j k n m c d D' N' M' N h H col kr J:Nat} {ex ey e:Bool} {s:LS} {K:D→LS→Rs} {kk:IntKind} {φ:Nat} {X Y Z W W' X' x0 T L:D} {P Q:List (Row×Bool)} {rows:List Row} {l r pv t g a b:Row} {q:Rat} {cs cs':List D} {V:List Nat} {R:List IR}
theorem Pp(h:i≤j){k:D→Rs}:ut (.i kk (.ofNat i)) (.i kk (.ofNat j)) k=k (.b true):=by rw[yG,aF h]
theorem EL.kf(h:EL g a d D' N' M'):KF g (d+1) M':=by
 have:=h.hd5;exact⟨h.hm,by have:=h.hd;omega,by omega,h.hg,by rw[a7];exact h.h1,Z5 h.lM⟩
theorem Wg{M:List D→Option D}{v:D}{z:Nat}(hb:bs[k]?=some ⟨cs,.rw⟩)(hf:cs.all ot=true)(hn:cs.length=n*z)(hM:M [.tree cs n true]=some v)(hp:rF v=true)(hfv:tM v=false):eR M [.sl k 0 n n z true] (mem bs) K=K v (mem (bs.set k ⟨cs,.frz⟩)):=by
 show(jQ (mem bs) k λb=>cnd (lv b.st) (iz 0 b.cs λr=>iy (Nat.mul n z) r λr=>nI (kJ (mem bs) 59) r λcs ls=>mw (cnd true (Nat.beq n n) false) λex=>l7 (k::ls) [] λab=>ob (M [.tree cs n ex]) λr=>ju (mem bs) ab r K) none)=_;rw[gu hb,sI,show(⟨cs,.rw⟩:Blk).st.live=true from rfl,eL,gB,aj,i9,show Nat.mul n z=n*z from rfl,aC (by show n*z≤cs.length;omega),aM (by show cs.length≤n*z;omega),FR _ hf,eL,ej,jC,gT,hM,gN];unfold ju;rw[mU,hfv];show vR [k] (mem bs) (λs=>DP s v K)=_;rw[vt hb];unfold DP;split
 ·cases hp
 ·cases hp
 ·rfl
theorem PJ(h:EL g a d D' N' M'):iL g [1]=[1]:=by
 have hd:=h.hd;have hpt:Pt ([1]:Row):=FB (g:=g) (a:=a) 0;unfold iL;rw[h.hm,show([1]:Row).length+1-(d+1)=0 by show 1+1-(d+1)=0;omega];show e8 (lst (d+1-1) (ent [1]))=[1]
 conv=>rhs;rw[←show e8 [1]=[1]from hpt]
 refine oK λi=>?_;rw[kM];split
 ·rfl
 ·rw[gL (by show 1≤i;omega)]
theorem ZQ(hφ:1000000000≤φ):oZ φ [.tree [.i .i64 (.ofNat 1)] 1 true]=some (.tree (rs [1]) 1 false):=by
 obtain⟨ψ,rfl⟩:∃ψ,φ=ψ+5:=⟨φ-5,by omega⟩
 kernel_rfl
theorem ZP(h:EL g a d D' N' M')(hφ:1000000000≤φ):∃(e:Bool)(bs':List Blk),(∀(k:Nat)(b:Blk),bs[k]?=some b→bs'[k]?=some b)∧∀K:D→LS→Rs,(jY 1 [.i .i64 (.ofNat 0)] [(0,1,.i .i64 (.ofNat 1))] (mem bs) λx5 s=>eR (oZ φ) [x5] s λx6 s=>eR (jI φ) [fld g ey,x6] s K)=K (.tree (rs (pwL g a 0)) (pwL g a 0).length e) (mem bs'):=by
 obtain⟨e,he⟩:=KT (φ:=φ) (f:=[1]) (n:=1) (ex:=false) (ey:=ey) (Df:=1) (N:=1) (EL.kf h) rfl (by omega) cy (a9 _) JY (by
  have h1M:Lg 41 (1+M'):=wa (j:=40) (m:=1) (n:=M') (p7 (by decide)) h.lM;have h2:=iB (p7 (by decide):Lg 11 2000) (yA h1M (1+1));rw[bE];exact ew h2 (by decide)) hφ
 rw[PJ h]at he;refine⟨e,(bs++[(⟨[.i .i64 (.ofNat 1)],.rw⟩:Blk)]).set bs.length ⟨[.i .i64 (.ofNat 1)],.frz⟩,λk b hk=>gg (by have:=fE hk;omega) (gY hk),λK=>?_⟩;refine th Px ((Wg (z:=1) (n:=1) (cs:=[.i .i64 (.ofNat 1)]) (by simp) rfl rfl (ZQ hφ) rfl rfl).trans ?_);exact fP he
end
section
variable {bs bs':List Blk} {i j k n m c d D' N' M' N h H col kr J:Nat} {ex ey e eg ea eb:Bool} {s:LS} {K:D→LS→Rs} {kk:IntKind} {φ:Nat} {X Y Z W W' X' x0 T L:D} {P Q:List (Row×Bool)} {rows:List Row} {l r pv t g a b:Row} {q:Rat} {cs cs':List D} {V:List Nat} {R:List IR}
end
inductive St
 |ok (m:Nat)
 |bad (l:List UInt8)
def St.d:St→D
 |.ok m=>.n m
 |.bad l=>.s (0::l)
def sS(m:Nat):Nat:=(eo m).length
def St.len:St→Nat
 |.ok m=>sS m
 |.bad l=>l.length+1
def St.fine:St→Bool
 |.ok _=>true
 |.bad _=>false
def St.isN(n:Nat):St→Bool
 |.ok m=>Nat.beq m n
 |.bad _=>false
section
variable {bs:List Blk} {s:LS} {K:D→LS→Rs} {k:D→Rs} {S T:St} {m n a b:Nat} {x y:Bool} {φ:Nat} {l:List D} {t:Rs} {p q:Rat}
theorem Bl(h:0<m):sS m=Nat.log2 m/8+1:=vh h
theorem tp{c:Nat}(h:sS m≤c):Lg (8*c) m:=by
 rcases bL m with h0|h0
 ·subst h0;exact a9 _
 ·rw[Bl h0]at h;show Nat.log2 m≤_;omega
theorem Kj{c:Nat}(h:Lg (8*c+7) m):sS m≤c+1:=by
 rcases bL m with h0|h0
 ·subst h0;exact a9 _
 ·rw[Bl h0];have:Nat.log2 m≤8*c+7:=h;omega
theorem RZ:ic (.agg [.b x,S.d]) (mem bs) K=K (.ptr bs.length 0) (mem (bs++[⟨[.b x,S.d],.rw⟩])):=jB (by cases S<;>rfl)
theorem vU:ic (.agg [.b x,S.d,T.d]) (mem bs) K=K (.ptr bs.length 0) (mem (bs++[⟨[.b x,S.d,T.d],.rw⟩])):=jB (by cases S<;>cases T<;>rfl)
theorem JL:kS (.lens (.c S.d)) s K=K (.i .i64 (.ofNat S.len)) s:=by cases S<;>exact QA rfl
theorem qF(b:Bool):b=false∨b=true:=by cases b<;>simp
theorem VK{o:BinOp}{d1 d2 r:D}(h:bin o d1 d2=some r):fV o d1 d2 k=k r:=by
 unfold fV;rw[gS,h];rfl
theorem R9(l:List UInt8)(n:Nat):((0::l:List UInt8)==eo n)=false:=by
 rw[beq_eq_false_iff_ne];intro h;rcases bL n with h0|h0
 ·subst h0;cases h
 ·obtain⟨c,r,h1,h2⟩:=sg h0;rw[←h]at h1;injection h1 with h3;subst h3;exact h2 rfl
theorem ET:gx S.d (.n n) k=k (.b (S.isN n)):=by
 cases S with
 |ok m=>exact sF
 |bad l=>
  show fV .eql (.s (0::l)) (.n n) k=_;refine VK ?_;show some (D.b ((0::l:List UInt8)==eo n))=_;rw[R9];rfl
theorem YN:mE S.d (.n n) k=k (.b (!S.isN n)):=by
 cases S with
 |ok m=>exact Gv
 |bad l=>
  show fV .neq (.s (0::l)) (.n n) k=_;refine VK ?_;show some (D.b (!((0::l:List UInt8)==eo n)))=_;rw[R9];rfl
theorem QV(h:0<m):∃c,c≠0∧∀(s:LS)(K:D→LS→Rs),kS (.index (.c (.n m)) (.c (.i .i64 (.ofNat 0)))) s K=K (.i .u8 (.ofNat c)) s:=by
 obtain⟨c,r,h1,h2⟩:=sg h;exact⟨c.toNat,h2,λs K=>CM (by rw[h1];rfl)⟩
theorem LA{l:List UInt8}:kS (.index (.c (.s (0::l))) (.c (.i .i64 (.ofNat 0)))) s K=K (.i .u8 (.ofNat 0)) s:=QA rfl
theorem EH{M:List D→Option D}{r:D}(h:M [S.d]=some r)(hp:rF r=true):∀s K,eR M [S.d] s K=K r s:=by
 cases S<;>exact λs K=>fP h (by intro kk;rfl) hp
theorem JU{M:List D→Option D}{r:D}(h:M [.agg [.b x,S.d]]=some r)(hp:rF r=true):∀s K,eR M [.agg [.b x,S.d]] s K=K r s:=by
 cases S<;>exact λs K=>fP h (by intro kk;rfl) hp
theorem QN{M:List D→Option D}{r:D}(h:M [.agg [.b x,S.d,T.d]]=some r)(hp:rF r=true):∀s K,eR M [.agg [.b x,S.d,T.d]] s K=K r s:=by
 cases S<;>cases T<;>exact λs K=>fP h (by intro kk;rfl) hp
def vS(S:St):Nat:=if S.fine then(if 1024<S.len then 4 else 0)else 1
theorem LY(h:vS S=0):∃m,S=.ok m∧sS m≤1024:=by
 cases S with
 |ok m=>
  refine⟨m,rfl,?_⟩;by_cases h1:1024<sS m
  ·have:vS (.ok m)=4:=by unfold vS;rw[aC (show(St.ok m).fine=true from rfl),aC (show 1024<(St.ok m).len from h1)]
   omega
  ·omega
 |bad l=>cases h
theorem Cf(S:St):vS S=0∨vS S=1∨vS S=4:=by
 unfold vS;split
 ·split
  ·exact Or.inr (Or.inr rfl)
  ·exact Or.inl rfl
 ·exact Or.inr (Or.inl rfl)
theorem Dp:mG φ [S.d]=some (.i .i64 (.ofNat (vS S))):=by
 unfold mG;dsimp only[eV,eZ];refine th JL ?_;have fin:∀m,(kS (.lens (.c (St.ok m).d)) s0 λx8 s=>kC x8 (.i .i64 (.ofNat 1024)) λx9=>eQ x9 (eX false s (.i .i64 (.ofNat 4)) some) (eX false s (.i .i64 (.ofNat 0)) some))=some (.i .i64 (.ofNat (vS (.ok m)))):=by
  intro m;refine th JL ?_;unfold vS;rw[aC (show(St.ok m).fine=true from rfl)];by_cases h:1024<(St.ok m).len
  ·rw[aC h];exact th (mf h) (th eP ia)
  ·rw[aE h];exact th (oO h) (th eM ia)
 cases S with
 |ok m=>
  rcases bL m with h0|h0
  ·subst h0;exact th (oO (bS _)) (th fj (th fj (th fj (th gE (th eM (fin 0))))))
  ·obtain⟨c,hc,hi⟩:=QV h0;refine th (mf (by show 0<sS m;rw[Bl h0];omega)) (th fD (th fD ((hi _ _).trans (th fD (th (tO hc) (th fe (th eM (fin m))))))))
 |bad l=>
  exact th (mf (by show 0<l.length+1;omega)) (th fD (th fD (th LA (th fD (th (qE rfl) (th fe (th eP ia)))))))
theorem Ga:kZ φ [S.d]=some (.b S.fine):=by
 unfold kZ;dsimp only[eV,eZ];refine th ET ?_;cases S with
 |ok m=>
  rcases bL m with h0|h0
  ·subst h0;exact th jZ (th jZ (th jZ (th fe rP)))
  ·obtain⟨c,hc,hi⟩:=QV h0;have hz:(St.ok m).isN 0=false:=gG (by omega);rw[hz];exact th gA (th gA ((hi _ _).trans (th gA (th (qU hc) (th gE rP)))))
 |bad l=>exact th gA (th gA (th LA (th gA (th (o6 rfl) (th gE rP)))))
def AE(S:St):Nat:=if 1024<S.len then 4 else 0
theorem KW:lU φ [S.d]=some (.i .i64 (.ofNat (AE S))):=by
 unfold lU;dsimp only[eV,eZ];refine th JL ?_;unfold AE;by_cases h:1024<S.len
 ·rw[aC h];exact th (mf h) (th eP ia)
 ·rw[aE h];exact th (oO h) (th eM ia)
theorem eqI{a b:Nat}{kk:IntKind}:gx (.i kk (.ofNat a)) (.i kk (.ofNat b)) k=k (.b (Nat.beq a b)):=pb
theorem neI{a b:Nat}{kk:IntKind}:mE (.i kk (.ofNat a)) (.i kk (.ofNat b)) k=k (.b (!(Nat.beq a b))):=zy
theorem Xv:oY φ []=some (.agg [.b false,.n 0]):=by
 unfold oY;simp -implicitDefEqProofs only[eZ,ff,qW,lO,qS,List.length_nil,List.length_cons,List.nil_append,List.getElem?_cons_zero,gN,gQ,mT,eL,Nat.zero_add,Nat.reduceAdd,List.set_cons_zero,qR,CC,qY,qX,qZ,ej,lL,lK,re2,List.drop_zero,show ∀(s:LS)(K:D→LS→Rs),kN [.b false,.n 0] [] s K=K (.agg [.b false,.n 0]) s from λs K=>rfl]
theorem Yc:Af true [1,2] (.agg [.b x,.n a]) (.agg [.b y,.n b]) s K=K (.b (!((x==y)&&Nat.beq a b))) s:=by
 unfold Af;rw[gS];cases hx:x<;>cases hy:y<;>cases hb:Nat.beq a b<;>(show ob (NR true [1,2] _ _) _=_;simp[NR,eqL,eq1,hb];rfl)
def Ak(x:Bool)(S:St):Nat:=if x&&S.isN 0 then 1 else vS S
theorem M4:pE φ [.agg [.b x,S.d]]=some (.i .i64 (.ofNat (Ak x S))):=by
 have i1:=λs K=>EH (S:=S) (Dp (φ:=φ)) rfl s K;have i2:∀(s:LS)(K:D→LS→Rs),eR (oY φ) [] s K=K (.agg [.b false,.n 0]) s:=λs K=>fP Xv;unfold pE Ak;cases S with
 |bad l=>
  have h1:vS (.bad l)=1:=rfl;rw[h1]at i1;rw[h1,show(x&&(St.bad l).isN 0)=false by cases x<;>rfl];simp -implicitDefEqProofs only[eV,eZ,ff,kD,kq,lO,List.length_nil,List.nil_append,List.getElem?_cons_zero,List.getElem?_cons_succ,gN,gQ,eL,nz,Nat.zero_add,ej,lL,lK,ia,List.drop_zero,RZ,i1,eqI];rfl
 |ok m=>
  have h1:(Nat.beq (vS (.ok m)) 1)=false:=by
   unfold vS;rw[aC (show(St.ok m).fine=true from rfl)];split<;>rfl
  rw[show(St.ok m).isN 0=Nat.beq m 0 from rfl];have i1':∀(s:LS)(K:D→LS→Rs),eR (mG φ) [.n m] s K=K (.i .i64 (.ofNat (vS (.ok m)))) s:=i1;clear i1;rcases bL m with h0|h0
  ·subst h0;cases x<;>simp -implicitDefEqProofs only[eV,eZ,ff,jB,kD,kq,lO,List.all_cons,List.all_nil,one,Bool.and_self,Bool.and_true,List.length_nil,List.nil_append,List.getElem?_cons_zero,List.getElem?_cons_succ,gN,gQ,eL,e9,sF,nz,ri,re,Bool.not_false,Bool.not_true,Nat.zero_add,ej,lL,lK,ia,List.drop_zero,wv,Cm,rl,uV,i1',i2,eqI,h1,St.d,Yc]<;>rfl
  ·have hb:Nat.beq m 0=false:=gG (by omega);cases x<;>simp -implicitDefEqProofs only[eV,eZ,ff,jB,kD,kq,lO,List.all_cons,List.all_nil,one,Bool.and_self,List.length_nil,List.nil_append,List.getElem?_cons_zero,List.getElem?_cons_succ,gN,gQ,eL,e9,sF,nz,ri,re,Bool.not_false,Nat.zero_add,lL,lK,ia,List.drop_zero,wv,rl,uV,i1',i2,eqI,h1,St.d,Yc,hb,Bool.and_false,Bool.not_false]<;>rfl
def Q9:St→St→Nat
 |.ok a,.ok b=>Nat.gcd a b
 |_,_=>0
def Jj(x:Bool)(S T:St):Nat:=if Nat.beq (Ak x S) 1||Nat.beq (vS T) 1||T.isN 0 then 1 else if Nat.beq (Ak x S) 0 then(if Nat.beq (vS T) 0 then(if Nat.beq (Q9 S T) 1 then 0 else 1)else vS T)else Ak x S
theorem Jk(x:Bool)(S:St):Ak x S=0∨Ak x S=1∨Ak x S=4:=by
 unfold Ak;split
 ·exact Or.inr (Or.inl rfl)
 ·exact Cf S
theorem U3(h:Ak x S=0):vS S=0:=by
 unfold Ak at h;split at h
 ·cases h
 ·exact h
theorem M1(hφ:3000000000≤φ):oU φ [.agg [.b x,S.d,T.d]]=some (.i .i64 (.ofNat (Jj x S T))):=by
 have i1:=λs K=>JU (S:=S) (x:=x) (M4 (φ:=φ)) rfl s K;have i2:=λs K=>EH (S:=T) (Dp (φ:=φ)) rfl s K;have e1:Nat.beq 0 1=false:=rfl;have e2:Nat.beq 1 1=true:=rfl;have e3:Nat.beq 4 1=false:=rfl;have e4:Nat.beq 0 0=true:=rfl;have e5:Nat.beq 4 0=false:=rfl;unfold oU Jj;rcases Jk x S with h5|h5|h5<;>rcases Cf T with h8|h8|h8<;>rw[h5]at i1<;>rw[h8]at i2<;>rw[h5,h8]
 ·obtain⟨a,rfl,ha⟩:=LY (U3 h5);obtain⟨b,rfl,hb⟩:=LY h8;have i3:∀(s:LS)(K:D→LS→Rs),eR (tt φ) [.n a,.n b] s K=K (.n (Nat.gcd a b)) s:=λs K=>qK (AT (ew (tp ha) (by decide)) (ew (tp hb) (by decide)) hφ);simp only[St.d]at i1 i2;simp only[St.d,e1,z1q,St.isN,e4,bf,Q9];rcases qF (Nat.beq b 0)with hz|hz
  ·rcases qF (Nat.beq b 1)with h1|h1
   ·rcases qF (Nat.beq (Nat.gcd a b) 1)with hg|hg<;>simp -implicitDefEqProofs only[eV,eZ,ff,jB,kD,kq,lO,List.all_cons,List.all_nil,one,Bool.and_self,List.length_nil,List.nil_append,List.getElem?_cons_zero,List.getElem?_cons_succ,gN,gQ,eL,e9,Gv,sF,nz,ri,re,Bool.not_false,Bool.not_true,Nat.zero_add,ej,lL,lK,ia,List.drop_zero,wv,rl,uV,uS,i1,i2,i3,eqI,neI,e1,hz,h1,hg,Bool.false_eq_true,if_false,if_true]
   ·have hb1:b=1:=aT h1;subst hb1;have hg1:Nat.beq (Nat.gcd a 1) 1=true:=by rw[Nat.gcd_one_right];rfl
    simp -implicitDefEqProofs only[eV,eZ,ff,jB,kD,kq,lO,List.all_cons,List.all_nil,one,Bool.and_self,List.length_nil,List.nil_append,List.getElem?_cons_zero,List.getElem?_cons_succ,gN,gQ,eL,e9,Gv,sF,nz,ri,re,Bool.not_true,Nat.zero_add,ej,lL,lK,ia,List.drop_zero,Cm,rl,uV,uS,hg1,i1,i2,eqI,neI,e1,hz,Bool.false_eq_true,if_false,if_true]
  ·simp -implicitDefEqProofs only[eV,eZ,ff,jB,kD,kq,lO,List.all_cons,List.all_nil,one,Bool.and_self,List.length_nil,List.nil_append,List.getElem?_cons_zero,List.getElem?_cons_succ,gN,gQ,eL,e9,Gv,sF,nz,ri,re,Bool.not_true,Nat.zero_add,ej,lL,lK,ia,List.drop_zero,rl,uV,uS,i1,i2,eqI,neI,e1,hz,if_true]
 ·simp -implicitDefEqProofs only[eV,eZ,ff,kD,kq,lO,List.length_nil,List.nil_append,List.getElem?_cons_zero,List.getElem?_cons_succ,gN,gQ,eL,e9,nz,ri,re,Bool.not_true,Nat.zero_add,ej,lL,lK,ia,List.drop_zero,rl,uV,uS,vU,i1,i2,eqI,neI,e1,Bool.or_true,Bool.true_or,if_true]
 ·rcases qF (T.isN 0)with hz|hz<;>simp -implicitDefEqProofs only[eV,eZ,ff,kD,kq,lO,List.length_nil,List.nil_append,List.getElem?_cons_zero,List.getElem?_cons_succ,gN,gQ,eL,e9,nz,ri,re,Bool.not_false,Bool.not_true,Nat.zero_add,ej,lL,lK,ia,List.drop_zero,rl,uV,uS,vU,i1,i2,eqI,neI,ET,hz,e1,e3,e5,Bool.or_true,Bool.or_false,Bool.false_eq_true,if_false,if_true]
 ·simp -implicitDefEqProofs only[eV,eZ,ff,kD,kq,lO,List.length_nil,List.nil_append,List.getElem?_cons_zero,List.getElem?_cons_succ,gN,gQ,eL,e9,nz,ri,re,Nat.zero_add,ej,lL,lK,ia,List.drop_zero,rl,vU,i1,i2,eqI,neI,e1,Bool.true_or,if_true]
 ·simp -implicitDefEqProofs only[eV,eZ,ff,kD,kq,lO,List.length_nil,List.nil_append,List.getElem?_cons_zero,List.getElem?_cons_succ,gN,gQ,eL,e9,nz,ri,re,Nat.zero_add,ej,lL,lK,ia,List.drop_zero,rl,vU,i1,i2,eqI,neI,Bool.or_true,Bool.true_or,if_true]
 ·simp -implicitDefEqProofs only[eV,eZ,ff,kD,kq,lO,List.length_nil,List.nil_append,List.getElem?_cons_zero,List.getElem?_cons_succ,gN,gQ,eL,e9,nz,ri,re,Nat.zero_add,ej,lL,lK,ia,List.drop_zero,rl,vU,i1,i2,eqI,neI,Bool.true_or,if_true]
 ·rcases qF (T.isN 0)with hz|hz<;>simp -implicitDefEqProofs only[eV,eZ,ff,kD,kq,lO,List.length_nil,List.nil_append,List.getElem?_cons_zero,List.getElem?_cons_succ,gN,gQ,eL,e9,nz,ri,re,Bool.not_false,Nat.zero_add,ej,lL,lK,ia,List.drop_zero,rl,uV,uS,vU,i1,i2,eqI,neI,ET,hz,e1,e3,e5,Bool.or_true,Bool.or_false,Bool.false_eq_true,if_false,if_true]
 ·simp -implicitDefEqProofs only[eV,eZ,ff,kD,kq,lO,List.length_nil,List.nil_append,List.getElem?_cons_zero,List.getElem?_cons_succ,gN,gQ,eL,e9,nz,ri,re,Bool.not_false,Nat.zero_add,ej,lL,lK,ia,List.drop_zero,rl,uV,uS,vU,i1,i2,eqI,neI,e3,e5,Bool.or_true,Bool.true_or,if_true]
 ·rcases qF (T.isN 0)with hz|hz<;>simp -implicitDefEqProofs only[eV,eZ,ff,kD,kq,lO,List.length_nil,List.nil_append,List.getElem?_cons_zero,List.getElem?_cons_succ,gN,gQ,eL,e9,nz,ri,re,Bool.not_false,Nat.zero_add,lL,lK,ia,List.drop_zero,rl,uV,uS,vU,i1,i2,eqI,neI,ET,hz,e3,e5,Bool.or_true,Bool.or_false,Bool.false_eq_true,if_false,if_true]
end
section
variable {bs:List Blk} {s:LS} {K:D→LS→Rs} {k:D→Rs} {S T:St} {m n a b:Nat} {x y:Bool} {φ:Nat} {l:List D} {t:Rs} {p q:Rat}
def E7(x:Bool)(S:St):Bool:=S.fine&&(!x|| !S.isN 0)
theorem Oc:mO φ [.agg [.b x,S.d]]=some (.b (E7 x S)):=by
 have i1:=λs K=>EH (S:=S) (Ga (φ:=φ)) rfl s K;unfold mO E7;rcases qF S.fine with h|h<;>rcases qF (S.isN 0)with h0|h0<;>rw[h]at i1<;>rw[h]<;>cases x<;>simp -implicitDefEqProofs only[eV,eZ,ff,kD,kq,Bool.and_self,Bool.and_true,List.length_nil,List.nil_append,List.getElem?_cons_zero,List.getElem?_cons_succ,gN,gQ,eL,e9,ri,re,wO,Bool.not_false,Bool.not_true,Nat.zero_add,rP,wv,Cm,rl,uV,uS,RZ,i1,h0,YN,Bool.true_and,Bool.or_true,Bool.or_false]
def Fg(S T:St):Nat:=if Nat.beq (AE S) 0 then AE T else 4
theorem yL(S:St):AE S=0∨AE S=4:=by unfold AE;split;exact Or.inr rfl;exact Or.inl rfl
theorem Sq:mn φ [.agg [.b x,S.d]]=some (.i .i64 (.ofNat (AE S))):=by
 have i1:=λs K=>EH (S:=S) (KW (φ:=φ)) rfl s K;unfold mn;simp -implicitDefEqProofs only[eV,eZ,ff,kD,kq,List.length_nil,List.nil_append,List.getElem?_cons_zero,List.getElem?_cons_succ,gN,gQ,eL,Nat.zero_add,ia,RZ,i1]
theorem So:mj φ [.agg [.b x,S.d,T.d]]=some (.i .i64 (.ofNat (Fg S T))):=by
 have i1:=λs K=>JU (S:=S) (x:=x) (Sq (φ:=φ)) rfl s K;have i2:=λs K=>EH (S:=T) (KW (φ:=φ)) rfl s K;have e4:Nat.beq 0 0=true:=rfl;have e5:Nat.beq 4 0=false:=rfl;unfold mj Fg;rcases yL S with h|h<;>rw[h]at i1<;>rw[h]<;>simp -implicitDefEqProofs only[eV,eZ,ff,kD,kq,lO,List.length_nil,List.nil_append,List.getElem?_cons_zero,List.getElem?_cons_succ,gN,gQ,eL,e9,nz,Bool.not_false,Bool.not_true,Nat.zero_add,ej,lL,lK,ia,List.drop_zero,vU,i1,i2,neI,e5,if_true,Bool.false_eq_true,if_false]
theorem LZ:Jj x S T=if !(E7 x S)|| !T.fine||T.isN 0 then 1 else if Nat.beq (Fg S T) 0 then(if Nat.beq (Q9 S T) 1 then 0 else 1)else 4:=by
 unfold Jj E7 Fg Ak vS AE;cases S with
 |bad l=>simp[St.fine,St.isN]
 |ok a=>
  cases T with
  |bad l=>simp[St.fine,St.isN]
  |ok b=>
   simp only[St.fine,St.isN,St.len,bf,z1n,cI,Bool.or_false];by_cases h1:1024<sS a<;>by_cases h2:1024<sS b<;>cases x<;>cases h3:Nat.beq a 0<;>cases h4:Nat.beq b 0<;>simp[h1,h2]
theorem CY(S T:St):Fg S T=0∨Fg S T=4:=by
 unfold Fg;split
 ·exact yL T
 ·exact Or.inr rfl
theorem LI(h:Fg S T=0):AE S=0∧AE T=0:=by
 unfold Fg at h;rcases yL S with h1|h1<;>rw[h1]at h
 ·exact⟨h1,h⟩
 ·cases h
theorem BF(h:AE (.ok a)=0):sS a≤1024:=by
 unfold AE at h;split at h
 ·cases h
 ·rename_i h1;have:¬1024<sS a:=h1;omega
theorem MZ:mN φ [.agg [.b x,S.d,T.d]]=some (.i .i64 (.ofNat (Jj x S T))):=by
 have i1:=λs K=>JU (S:=S) (x:=x) (Oc (φ:=φ)) rfl s K;have i2:=λs K=>EH (S:=T) (Ga (φ:=φ)) rfl s K;have i3:=λs K=>QN (S:=S) (T:=T) (x:=x) (So (φ:=φ)) rfl s K;have e4:Nat.beq 0 0=true:=rfl;have e5:Nat.beq 4 0=false:=rfl;rw[LZ];unfold mN;rcases qF (E7 x S)with h1|h1<;>rw[h1]at i1<;>rw[h1]
 ·simp -implicitDefEqProofs only[eV,eZ,ff,kD,lO,List.length_nil,List.nil_append,List.getElem?_cons_zero,gN,gQ,eL,e9,nz,ri,re,wO,Bool.not_false,Nat.zero_add,lL,lK,ia,List.drop_zero,rl,vU,i1,Bool.true_or,if_true]
 rcases qF T.fine with h2|h2<;>rw[h2]at i2<;>rw[h2]
 ·simp -implicitDefEqProofs only[eV,eZ,ff,kD,kq,lO,List.length_nil,List.nil_append,List.getElem?_cons_zero,List.getElem?_cons_succ,gN,gQ,eL,e9,nz,ri,re,wO,Bool.not_false,Bool.not_true,Nat.zero_add,lL,lK,ia,List.drop_zero,rl,uV,uS,vU,i1,i2,Bool.true_or,Bool.or_true,if_true]
 rcases qF (T.isN 0)with h3|h3<;>rw[h3]
 ·rcases CY S T with h4|h4<;>rw[h4]at i3<;>rw[h4]
  ·obtain⟨f1,f2⟩:=LI h4;have hS:S.fine=true:=by unfold E7 at h1;cases hf:S.fine<;>rw[hf]at h1<;>simp_all
   cases S with
   |bad l=>cases hS
   |ok a=>
    cases T with
    |bad l=>cases h2
    |ok b=>
     have i4:∀(s:LS)(K:D→LS→Rs),eR vr [.n a,.n b] s K=K (.n (Nat.gcd a b)) s:=λs K=>qK (EM (ew (tp (BF f1)) (by decide)) (ew (tp (BF f2)) (by decide)));simp only[St.d]at i1 i2 i3;have h3':Nat.beq b 0=false:=h3;rcases qF (Nat.beq (Nat.gcd a b) 1)with hg|hg<;>simp -implicitDefEqProofs only[eV,eZ,ff,jB,kD,kq,lO,List.all_cons,List.all_nil,one,Bool.and_self,List.length_nil,List.nil_append,List.getElem?_cons_zero,List.getElem?_cons_succ,gN,gQ,eL,e9,Gv,sF,nz,ri,re,wO,Bool.not_false,Bool.not_true,Nat.zero_add,ej,lL,lK,ia,List.drop_zero,rl,uV,uS,St.d,i1,i2,i3,i4,h3',hg,neI,Q9,Bool.or_false,Bool.false_eq_true,if_false,if_true]
  ·simp -implicitDefEqProofs only[eV,eZ,ff,kD,kq,lO,List.length_nil,List.nil_append,List.getElem?_cons_zero,List.getElem?_cons_succ,gN,gQ,eL,e9,nz,ri,re,wO,Bool.not_false,Bool.not_true,Nat.zero_add,lL,lK,ia,List.drop_zero,rl,uV,uS,vU,i1,i2,i3,ET,h3,neI,e5,Bool.or_false,Bool.false_eq_true,if_false]
 ·simp -implicitDefEqProofs only[eV,eZ,ff,kD,kq,lO,List.length_nil,List.nil_append,List.getElem?_cons_zero,List.getElem?_cons_succ,gN,gQ,eL,e9,nz,ri,re,wO,Bool.not_true,Nat.zero_add,lL,lK,ia,List.drop_zero,rl,uV,uS,vU,i1,i2,ET,h3,Bool.or_true,if_true]
def SC(x:Bool):St→St→Rat
 |.ok a,.ok b=>if h:b≠0∧(zt x a).natAbs.Coprime b then⟨zt x a,b,h.1,h.2⟩else 0
 |_,_=>0
theorem SB(h:Jj x S T=0):D.agg [.b x,S.d,T.d]=rc (SC x S T)∧Qz 8192 (SC x S T):=by
 rw[LZ]at h;rcases qF (E7 x S)with h1|h1<;>rw[h1]at h
 ·cases h
 rcases qF T.fine with h2|h2<;>rw[h2]at h
 ·cases h
 rcases qF (T.isN 0)with h3|h3<;>rw[h3]at h
 ·rcases CY S T with h4|h4<;>rw[h4]at h
  ·obtain⟨f1,f2⟩:=LI h4;have hS:S.fine=true:=by unfold E7 at h1;cases hf:S.fine<;>rw[hf]at h1<;>simp_all
   cases S with
   |bad l=>cases hS
   |ok a=>
    cases T with
    |bad l=>cases h2
    |ok b=>
     rcases qF (Nat.beq (Nat.gcd a b) 1)with hg|hg
     ·have:Nat.beq (Q9 (.ok a) (.ok b)) 1=false:=hg;rw[this]at h;cases h
     ·have hb:b≠0:=λe=>by
       subst e;cases h3
      have hgcd:(zt x a).natAbs.Coprime b:=by
       rw[vZ];exact aT hg
      have hx:(x&& !(Nat.beq a 0))=x:=by
       unfold E7 at h1;cases x with
       |false=>rfl
       |true=>
        have h5:(!(Nat.beq a 0))=true:=by
         have h6:(true&&(!true|| !(Nat.beq a 0)))=true:=h1;simpa using h6
        rw[h5];rfl
      have hv:SC x (.ok a) (.ok b)=⟨zt x a,b,hb,hgcd⟩:=dif_pos (⟨hb,hgcd⟩:b≠0∧(zt x a).natAbs.Coprime b);rw[hv];refine⟨?_,?_,?_⟩
      ·show D.agg [.b x,.n a,.n b]=.agg [.b (decide (zt x a<0)),.n (zt x a).natAbs,.n b];rw[E4,vZ,hx]
      ·show Lg 8192 (zt x a).natAbs;rw[vZ];exact tp (BF f1)
      ·exact tp (BF f2)
  ·cases h
 ·cases h
end
abbrev RQ:=Bool×St×St
def rq(q:RQ):List D:=[.b q.1,q.2.1.d,q.2.2.d]
def raw:List RQ→List D
 |[]=>[]
 |q::l=>.b q.1::q.2.1.d::q.2.2.d::raw l
def ckq(q:RQ):Nat:=Jj q.1 q.2.1 q.2.2
def vlq(q:RQ):Rat:=SC q.1 q.2.1 q.2.2
def tP:List RQ→Nat
 |[]=>0
 |q::l=>if ckq q=0 then tP l else ckq q
def iR(l:List RQ):Row:=l.map vlq
def Hw(l:List RQ):Nat:=if tP l=0 then(if 0<l.length∧ent (iR l) (l.length-1)=0 then 1 else 0)else tP l
def wB(l:List RQ):Nat:=if 65<l.length then 4 else Hw l
section
variable {bs:List Blk} {s:LS} {K:D→LS→Rs} {k:D→Rs} {S T:St} {m n a b i:Nat} {x y ex:Bool} {φ:Nat} {l r:List RQ} {t:Rs} {p q:Rat} {z:RQ} {kk:IntKind}
theorem Es:∀l:List RQ,(raw l).length=l.length*3
 |[]=>rfl
 |q::l=>by simp only[raw,ay,Es l];omega
theorem G8:∀(l:List RQ)(i:Nat),(raw l).drop (i*3)=raw (l.drop i)
 |l,0=>by simp
 |[],i+1=>by simp[raw]
 |q::l,i+1=>by rw[show(i+1)*3=i*3+3 by omega];simp only[raw,eG];exact G8 l i
theorem O9(h:i<l.length):((raw l).drop (i*3)).take 3=rq l[i]:=by
 rw[G8,bZ h];rfl
theorem FW(hn:l.length=n)(h:i<n):(eK 3 s (.tree (raw l) n ex) (.i kk (.ofNat i)) λa s=>eS 3 s a K)=K (.agg (rq (l[i]'(by omega)))) s:=by
 refine th (uv h (by rw[Es];omega)) ?_;refine th (YT (by rw[Es];omega)) ?_;rw[O9 (by omega)]
theorem Vn:(rq z).all one=true:=by
 obtain⟨x,S,T⟩:=z;cases S<;>cases T<;>rfl
theorem TP{zero:List D}(hz:zero.length=3):(fq zero (mem bs) λx s=>eU 3 s x (.agg (rq z)) λ_ s=>K x s)=K (.ptr bs.length 0) (mem (bs++[⟨rq z,.rw⟩])):=by
 refine th N1 ?_;refine th (GT (b:=⟨zero,.rw⟩) (cs':=rq z) (by simp) rfl (hx:=rfl) (hn:=rfl) (h1:=Vn) (hl:=?_)) ?_
 ·match zero,hz with
  |[a,b,c],_=>rfl
 ·rw[co _ _ (aD _),cC,dj]
theorem ldR:eS 3 (mem (bs++[⟨rq z,.rw⟩])) (.ptr bs.length 0) K=K (.agg (rq z)) (mem (bs++[⟨rq z,.rw⟩])):=by
 refine th (Mi (b:=⟨rq z,.rw⟩) (by simp) rfl (aD 3)) ?_;rfl
theorem QL{M:List D→Option D}{r:D}(h:M [.agg (rq z)]=some r)(hp:rF r=true):∀s K,eR M [.agg (rq z)] s K=K r s:=QN h hp
theorem EW(h:tP (l.take i)=0)(hi:i<l.length)(h0:ckq l[i]=0):tP (l.take (i+1))=0:=by
 induction l generalizing i with
 |nil=>simp at hi
 |cons q l ih=>
  cases i with
  |zero=>
   show(if ckq q=0 then tP []else ckq q)=0;rw[aC (show ckq q=0 from h0)];rfl
  |succ i=>
   have h1:(if ckq q=0 then tP (l.take i)else ckq q)=0:=h;by_cases hq:ckq q=0
   ·rw[aC hq]at h1;show(if ckq q=0 then tP (l.take (i+1))else ckq q)=0;rw[aC hq];exact ih h1 (by simpa using hi) h0
   ·rw[aE hq]at h1;exact absurd h1 hq
theorem wC(h:tP (l.take i)=0)(hi:i<l.length)(h0:ckq l[i]≠0):tP l=ckq l[i]:=by
 induction l generalizing i with
 |nil=>simp at hi
 |cons q l ih=>
  cases i with
  |zero=>
   show(if ckq q=0 then tP l else ckq q)=ckq q;rw[aE (show ¬ckq q=0 from h0)]
  |succ i=>
   have h1:(if ckq q=0 then tP (l.take i)else ckq q)=0:=h;by_cases hq:ckq q=0
   ·rw[aC hq]at h1;show(if ckq q=0 then tP l else ckq q)=_;rw[aC hq];exact ih h1 (by simpa using hi) h0
   ·rw[aE hq]at h1;exact absurd h1 hq
theorem vc:∀{l:List RQ},tP l=0→raw l=rs (iR l)∧∀i,Qz 8192 (ent (iR l) i)
 |[],_=>⟨rfl,λi=>by rw[show iR []=[]from rfl,sj];exact Et _⟩
 |q::l,h=>by
  have h1:(if ckq q=0 then tP l else ckq q)=0:=h;by_cases hq:ckq q=0
  ·rw[aC hq]at h1;obtain⟨a1,a2⟩:=vc h1;obtain⟨b1,b2⟩:=SB hq;refine⟨?_,λi=>?_⟩
   ·show .b q.1::q.2.1.d::q.2.2.d::raw l=_;rw[a1];injection b1 with b1;have:rs (iR (q::l))=rcs (vlq q)++rs (iR l):=rfl;rw[this];show[.b q.1,q.2.1.d,q.2.2.d]++rs (iR l)=_;rw[b1];rfl
   ·cases i with
    |zero=>exact b2
    |succ i=>exact a2 i
  ·rw[aE hq]at h1;exact absurd h1 hq
theorem my:(iR l).length=l.length:=by unfold iR;rw[aI]
theorem LX(h:tP l≠0):Hw l=tP l:=by unfold Hw;rw[aE h]
theorem RT(h:tP l=0):Hw l=if 0<l.length∧ent (iR l) (l.length-1)=0 then 1 else 0:=by unfold Hw;rw[aC h]
theorem Ov(hn:l.length=n)(hs:n<1000000)(hφ:3000000000≤φ):∀(j i fu:Nat)(bs:List Blk),i+j=n→j<fu→tP (l.take i)=0→
 lp (λ(_ _ _ _:D)(_:LS)=>none) (oV φ) fu (.tree (raw l) n ex) (.tree (raw l) n ex) (.i .i64 (.ofNat n)) (.i .i64 (.ofNat i)) (mem bs)=some (.i .i64 (.ofNat (Hw l))):=by
 intro j
 induction j with
 |zero=>
  intro i fu bs hi hf hc;obtain⟨fu,rfl⟩:∃q,fu=q+1:=⟨fu-1,by omega⟩
  have:i=n:=by omega
  subst this;rw[aM (by omega)]at hc;rw[RT hc,hn,(vc hc).1,eO];unfold oV;refine th (fy (bS _)) (th eM (th fH ?_));by_cases h0:0<i
  ·refine th (mf h0) (th fD (th fD (th fD (th fH (th fD (th (gR (by omega) (by omega)) (th EK (th (p9 (my.trans hn) (by omega)) (th fD (th (jo rZ rfl) (th fe ?_)))))))))));by_cases hz:ent (iR l) (i-1)=0
   ·rw[aC ⟨h0,hz⟩,aS hz];exact th eP ia
   ·rw[aE (λh=>hz h.2),aN hz];exact th eM ia
  ·rw[aE (λh=>h0 h.1)];exact th (oO h0) (th fj (th fj (th fj (th fj (th fj (th fj (th fj (th gE (th eM ia)))))))))
 |succ j ih=>
  intro i fu bs hi hf hc;obtain⟨fu,rfl⟩:∃q,fu=q+1:=⟨fu-1,by omega⟩
  have hil:i<l.length:=by omega
  have hck:=λs K=>QL (z:=l[i]) (M1 (x:=l[i].1) (S:=l[i].2.1) (T:=l[i].2.2) hφ) rfl s K;by_cases h0:ckq l[i]=0
  ·have hih:=ih (i+1) fu (bs++[⟨rq l[i],.rw⟩]) (by omega) (by omega) (EW hc hil h0);rw[eO]
   conv=>lhs;unfold oV
   exact th (fk (by omega)) (th eP (th (FW hn (by omega)) (th (TP rfl) (th ldR (th (hck _ _) (th (o6 h0) (th eM (th (fM (by omega)) hih))))))))
  ·rw[LX (by rw[wC hc hil h0];exact h0),wC hc hil h0,eO];unfold oV;exact th (fk (by omega)) (th eP (th (FW hn (by omega)) (th (TP rfl) (th ldR (th (hck _ _) (th (qU h0) (th eP ia)))))))
theorem Bc(hn:l.length=n)(hφ:3000000000≤φ):pL φ [.tree (raw l) n ex]=some (.i .i64 (.ofNat (wB l))):=by
 unfold pL wB;dsimp only[eV,eZ];refine th fH ?_;rw[hn];by_cases h:65<n
 ·rw[aC h];exact th (mf h) (th eP ia)
 ·rw[aE h];exact th (oO h) (th eM (th fH (Ov hn (by omega) hφ n 0 φ [] (by omega) (by omega) rfl)))
theorem OP(hn:l.length=n)(hs:n<1000000)(hφ:3000000000≤φ):∀(j i fu:Nat)(bs:List Blk),i+j=n→j<fu→tP (l.take i)=0→
 lp (λ(_ _ _ _:D)(_:LS)=>none) (kW φ) fu (.tree (raw l) n ex) (.tree (raw l) n ex) (.i .i64 (.ofNat n)) (.i .i64 (.ofNat i)) (mem bs)=some (.i .i64 (.ofNat (Hw l))):=by
 intro j
 induction j with
 |zero=>
  intro i fu bs hi hf hc;obtain⟨fu,rfl⟩:∃q,fu=q+1:=⟨fu-1,by omega⟩
  have:i=n:=by omega
  subst this;rw[aM (by omega)]at hc;rw[RT hc,hn,(vc hc).1,eO];unfold kW;refine th (fy (bS _)) (th eM (th fH ?_));by_cases h0:0<i
  ·refine th (mf h0) (th fD (th fD (th fD (th fH (th fD (th (gR (by omega) (by omega)) (th EK (th (p9 (my.trans hn) (by omega)) (th fD ?_)))))))));by_cases hz:ent (iR l) (i-1)=0
   ·rw[aC ⟨h0,hz⟩];exact th (Ij hz) (th fD (th (qE rfl) (th fe (th eP ia))))
   ·rw[aE (λh=>hz h.2)];exact th (Oe hz) (th fe (th eM ia))
  ·rw[aE (λh=>h0 h.1)];exact th (oO h0) (th fj (th fj (th fj (th fj (th fj (th fj (th fj (th fj (th gE (th eM ia))))))))))
 |succ j ih=>
  intro i fu bs hi hf hc;obtain⟨fu,rfl⟩:∃q,fu=q+1:=⟨fu-1,by omega⟩
  have hil:i<l.length:=by omega
  have hck:=λs K=>QL (z:=l[i]) (MZ (φ:=φ) (x:=l[i].1) (S:=l[i].2.1) (T:=l[i].2.2)) rfl s K;by_cases h0:ckq l[i]=0
  ·have hih:=ih (i+1) fu (bs++[⟨rq l[i],.rw⟩]) (by omega) (by omega) (EW hc hil h0);rw[eO]
   conv=>lhs;unfold kW
   exact th (fk (by omega)) (th eP (th (FW hn (by omega)) (th (TP rfl) (th ldR (th (hck _ _) (th (o6 h0) (th eM (th (fM (by omega)) hih))))))))
  ·rw[LX (by rw[wC hc hil h0];exact h0),wC hc hil h0,eO];unfold kW;exact th (fk (by omega)) (th eP (th (FW hn (by omega)) (th (TP rfl) (th ldR (th (hck _ _) (th (qU h0) (th eP ia)))))))
theorem xn(hn:l.length=n)(hφ:3000000000≤φ):jd φ [.tree (raw l) n ex]=some (.i .i64 (.ofNat (wB l))):=by
 unfold jd wB;dsimp only[eV,eZ];refine th fH ?_;rw[hn];by_cases h:65<n
 ·rw[aC h];exact th (mf h) (th eP ia)
 ·rw[aE h];exact th (oO h) (th eM (th fH (OP hn (by omega) hφ n 0 φ [] (by omega) (by omega) rfl)))
theorem wA(h:wB l=0):tP l=0∧l.length≤65∧Pt (iR l):=by
 unfold wB at h;by_cases h1:65<l.length
 ·rw[aC h1]at h;cases h
 rw[aE h1]at h;unfold Hw at h;by_cases h2:tP l=0
 ·rw[aC h2]at h;refine⟨h2,by omega,ve λx hx=>?_⟩;by_cases h3:0<l.length∧ent (iR l) (l.length-1)=0
  ·rw[aC h3]at h;cases h
  ·intro hx0;apply h3;have hpos:0<l.length:=by
    rcases bL l.length with h4|h4
    ·have:l=[]:=a8 h4;subst this;cases hx
    ·exact h4
   refine⟨hpos,?_⟩;rw[z0F,my]at hx;unfold ent;rw[aH,hx,hx0];rfl
 ·rw[aE h2]at h;exact absurd h h2
end
section
variable {bs:List Blk} {s:LS} {K:D→LS→Rs} {k:D→Rs} {S T:St} {m n a b i kb:Nat} {x y ex e:Bool} {φ:Nat} {l r:List RQ} {t:Rs} {p q:Rat} {z:RQ} {kk:IntKind} {g h:Row} {cs:List D} {f:D}
theorem wM(hb:bs[kb]?=some ⟨[.tree cs n e],.rw⟩):(eW 0 (mem bs) (.ptr kb 0) λx s=>eJ s x K)=K (.tree cs n e) (mem bs):=by
 rw[kD,hb,gN];show(eJ (mem bs) (.ptr kb 0) K)=_;exact F1 hb rfl rfl
theorem Q6{w:Bool}{X:D}:(eI (.b w) w (λk=>eW 0 s X k) s λx s=>eI (.b w) w (λk=>eJ s x k) s K)=eW 0 s X λa s=>eJ s a K:=by cases w<;>rfl
theorem Ws{X i:D}{z n:Nat}:(eI (.b false) false (λk=>eK z s X i k) s λx s=>eI (.b false) false (λk=>eS n s x k) s K)=eK z s X i λa s=>eS n s a K:=rfl
theorem J6:Af true [1,2,2] (rc p) (rc q) s K=K (.b (!(decide (p=q)))) s:=by
 have key:(decide (p=q))=((decide (p.num<0)==decide (q.num<0))&&(Nat.beq p.num.natAbs q.num.natAbs&&Nat.beq p.den q.den)):=by
  by_cases hpq:p=q
  ·subst hpq;rw[aS rfl,ej,ej];cases decide (p.num<0)<;>rfl
  ·rw[aN hpq];rw[R6,R6];by_cases h1:p.den=q.den
   ·by_cases h2:p.num.natAbs=q.num.natAbs
    ·rw[aS h1,aS h2];by_cases h3:p.num<0<;>by_cases h4:q.num<0
     ·exact absurd (Rat.ext (by omega) h1) hpq
     ·rw[aS h3,aN h4];rfl
     ·rw[aN h3,aS h4];rfl
     ·exact absurd (Rat.ext (by omega) h1) hpq
    ·rw[aN h2,z1g,dq]
   ·rw[aN h1,dq,dq]
 rw[key];unfold Af rc;rw[gS];generalize decide (p.num<0)=u1;generalize decide (q.num<0)=u2;generalize hA:Nat.beq p.num.natAbs q.num.natAbs=u3;generalize hB:Nat.beq p.den q.den=u4;cases u1<;>cases u2<;>cases u3<;>cases u4<;>(show ob (NR true [1,2,2] _ _) _=_;simp[NR,eqL,eq1,hA,hB];rfl)
theorem wy{P:Rat→Bool}(h0:∀t,t<i→t<g.length→P (ent g t)=false)(hi:i<g.length)(h1:P (ent g i)=true):g.any P=true:=by
 rw[List.any_eq_true];refine⟨g[i],bK hi,?_⟩;have:ent g i=g[i]:=by unfold ent;rw[aH,aB hi];rfl
 rw[←this];exact h1
theorem zT{P:Rat→Bool}(h0:∀t,t<g.length→P (ent g t)=false):g.any P=false:=by
 rw[z0R];intro v hv;obtain⟨j,hj,rfl⟩:=eA.1 hv;have:ent g j=g[j]:=by unfold ent;rw[aH,aB hj];rfl
 rw[←this,h0 j hj];simp
theorem NT{P:Rat→Bool}(hd:∀(v:Rat)(s:LS)(F:D→LS→Rs),uD (io φ) false f [rc v] s F=F (.b (P v)) s)(hn:g.length=n)(hs:n<1000000){k':D→LS→Rs}:∀(j i fu:Nat),i+j=n→j<fu→(∀t,t<i→P (ent g t)=false)→
 lp (λ(_ _ _ _:D)(_:LS)=>none) (gI φ (λx3 s=>jt x3 (.i .i64 (.ofNat 0)) λx4=>k' x4 s)) fu (.tree (rs g) n ex) f (.i .i64 (.ofNat n)) (.i .i64 (.ofNat i)) s=k' (.b (g.any P)) s:=by
 intro j
 induction j with
 |zero=>
  intro i fu hi hf h0;obtain⟨fu,rfl⟩:∃q,fu=q+1:=⟨fu-1,by omega⟩
  have:i=n:=by omega
  subst this;rw[zT (λt ht=>h0 t (by omega)),eO];unfold gI;exact th (fy (bS _)) (th eM tK)
 |succ j ih=>
  intro i fu hi hf h0;obtain⟨fu,rfl⟩:∃q,fu=q+1:=⟨fu-1,by omega⟩
  rcases qF (P (ent g i))with hP|hP
  ·have hih:=ih (i+1) fu (by omega) (by omega) (λt ht=>by
    by_cases e:t=i
    ·subst e;exact hP
    ·exact h0 t (by omega))
   rw[eO]
   conv=>lhs;unfold gI
   refine th (fk (by omega)) (th eP (th (p9 hn (by omega)) ((hd _ _ _).trans ?_)));rw[hP];exact th eM (th (fM (by omega)) hih)
  ·rw[wy (i:=i) (λt ht _=>h0 t ht) (by omega) hP,eO];unfold gI;refine th (fk (by omega)) (th eP (th (p9 hn (by omega)) ((hd _ _ _).trans ?_)));rw[hP];exact th eP (qC (a9 _))
theorem Dq{P:Rat→Bool}(hd:∀(v:Rat)(s:LS)(F:D→LS→Rs),uD (io φ) false f [rc v] s F=F (.b (P v)) s)(hn:g.length=n)(hs:n<1000000)(hφ:1000000000≤φ){k':D→LS→Rs}:
 fT φ [.tree (rs g) n ex,f] s k'=k' (.b (g.any P)) s:=by
 unfold fT iN;dsimp only[eV,eZ];exact th fH (NT hd hn hs n 0 φ (by omega) (by omega) (λt ht=>by omega))
def Ad(v:Rat):Bool:= !(Nat.beq v.den 1)
theorem WJ:kE φ [rc p]=some (.b (Ad p)):=by
 have h1:=wj (PA (φ:=φ) (p:=p)) rfl;unfold rc at h1;unfold kE rc Ad;simp -implicitDefEqProofs only[eV,eZ,ff,jB,lO,List.all_cons,List.all_nil,one,Bool.and_self,List.length_nil,List.nil_append,List.getElem?_cons_zero,gN,gQ,eL,wO,lL,lK,rP,List.drop_zero,h1]
def qL(l:List RQ):Nat:=
 if wB l=0 then(if l.length<2∨ent (iR l) (l.length-1)≠1 then 1 else if(iR l).any Ad then 1 else if 24<l.length-1 then 4 else 0)else wB l
theorem W5:fN (.i .i64 (.negSucc 0)) (.i .i64 (.ofNat 1)) k=k (.b true):=by
 show fV .lss (.i .i64 (.negSucc 0)) (.i .i64 (.ofNat 1)) k=_;unfold fV;rw[gS];rfl
theorem PD(hn:l.length=n)(hφ:3000000000≤φ):lQ φ [.agg [.tree (raw l) n e]]=some (.i .i64 (.ofNat (qL l))):=by
 have hck:=Bc (φ:=φ) (ex:=e) hn hφ;unfold lQ qL;dsimp only[eV,eZ];rw[←fm];have hb:([]++[(⟨[.tree (raw l) n e],.rw⟩:Blk)])[([]:List Blk).length]?=some ⟨[.tree (raw l) n e],.rw⟩:=rfl;refine th (jB rfl) (th (wM hb) (th (fP hck) ?_));by_cases h0:wB l=0
 ·rw[aC h0];obtain⟨hz,hl,hpt⟩:=wA h0;have hrs:=(vc hz).1;have hrl:(iR l).length=n:=my.trans hn;rw[hrs]at hb ⊢;rw[hn];generalize iR l=g at*;refine th (o6 h0) (th eM (th (wM hb) (th fH ?_)));by_cases h2:n<2
  ·rw[aC (Or.inl h2)];have hfin:∀d,(eI (.b true) false (λk=>eW 0 (mem ([]++[⟨[.tree (rs g) n e],.rw⟩])) (.ptr ([]:List Blk).length 0) k) (mem ([]++[⟨[.tree (rs g) n e],.rw⟩])) λx12 s=>eI (.b true) false (λk=>eJ s x12 k) s λx13 s=>eI (.b true) false (λk=>k d s) s λx14 s=>eI (.b true) false (λk=>eK 3 s x13 x14 k) s λx15 s=>eI (.b true) false (λk=>eS 3 s x15 k) s λx16 s=>eI (.b true) false (λk=>eR (mW φ) [(.i .i64 (.ofNat 1))] s k) s λx17 s=>eI (.b true) false (λk=>Af true [1,2,2] x16 x17 s k) s λx18 s=>fX (.b true) (.b true) x18 s λx19 s=>eI x19 false (λk=>eW 0 s (.ptr ([]:List Blk).length 0) k) s λx20 s=>eI x19 false (λk=>eJ s x20 k) s λx21 s=>eI x19 false (λk=>(fT φ) [x21,(.fn 46 [])] s k) s λx22 s=>fX x19 (.b true) x22 s λx23 s=>eQ x23 (eX false s (.i .i64 (.ofNat 1)) some) (kC d (.i .i64 (.ofNat 24)) λx24=>eQ x24 (eX false s (.i .i64 (.ofNat 4)) some) (eX false s (.i .i64 (.ofNat 0)) some)))=some (.i .i64 (.ofNat 1)):=λd=>
    th jZ (th jZ (th jZ (th jZ (th jZ (th jZ (th jZ (th fe (th jZ (th jZ (th jZ (th fe (th eP ia))))))))))))
   rcases bL n with h3|h3
   ·rw[h3]at hfin ⊢;exact th yy (th W5 (hfin _))
   ·have:n=1:=by omega
    rw[this]at hfin ⊢;exact th (gR (by omega) (by omega)) (th (fk (by omega)) (hfin _))
  ·refine th (gR (by omega) (by omega)) (th (fy (by omega)) (th Q6 (th (wM hb) (th gA (th Ws (th (p9 hrl (by omega)) (th gA (th (fP YG) (th gA (th J6 (th gE ?_)))))))))));by_cases h4:ent g (n-1)=1
   ·rw[aE (λh=>h.elim h2 (λh=>h h4)),aS h4];refine th Q6 (th (wM hb) (th gA (th (Dq (P:=Ad) (f:=.fn 46 []) (λv s F=>by
     show eR (kE φ) [rc v] s F=_;exact jo WJ rfl) hrl (by omega) (by omega)) (th gE ?_))))
    rcases qF (g.any Ad)with h5|h5
    ·rw[h5,aE (by decide)];by_cases h6:24<n-1
     ·rw[aC h6];exact th eM (th (mf h6) (th eP ia))
     ·rw[aE h6];exact th eM (th (oO h6) (th eM ia))
    ·rw[h5,aC rfl];exact th eP ia
   ·rw[aC (Or.inr h4),aN h4];exact th jZ (th jZ (th jZ (th fe (th eP ia))))
 ·rw[aE h0];exact th (qU h0) (th eP ia)
end
section
variable {bs:List Blk} {s:LS} {K:D→LS→Rs} {k:D→Rs} {S T:St} {m n a b i kb:Nat} {x y ex e:Bool} {φ:Nat} {l r:List RQ} {t:Rs} {p q:Rat} {z:RQ} {kk:IntKind} {g h:Row} {cs:List D} {f:D}
theorem Gd:lJ φ [rc p]=some (.b (Nat.beq p.den 1)):=by
 unfold lJ rc;simp -implicitDefEqProofs only[eV,eZ,ff,jB,kD,kq,List.all_cons,List.all_nil,one,Bool.and_self,List.length_nil,List.nil_append,List.getElem?_cons_zero,List.getElem?_cons_succ,gN,gQ,eL,sF,Nat.zero_add,rP]
theorem KX(h:1≤n)(h':n<1000000):fZ φ [.agg [.tree cs n e]]=some (.i .i64 (.ofNat (n-1))):=by
 have key:fZ φ [.agg [.tree cs n e]]=(et (.i .i64 (.ofNat n)) (.i .i64 (.ofNat 1)) λx=>eX false (mem [⟨[.tree cs n e],.rw⟩]) x some):=by
  unfold fZ;dsimp only[eV,eZ];rw[←fm];refine th (jB rfl) ?_;simp -implicitDefEqProofs only[kD,kq,List.length_nil,List.nil_append,List.getElem?_cons_zero,gN,gQ,eL,Nat.zero_add,fH]
 rw[key];exact th (gR (by omega) (by omega)) ia
theorem qB(h0:bs[kb]?=some ⟨[.tree cs n e],.rw⟩):eS 1 (mem bs) (.ptr kb 0) K=K (.agg [.tree cs n e]) (mem bs):=th (Mi h0 rfl (aD 1)) rfl
theorem Fa(h:i<g.length):ent g i=g[i]:=by unfold ent;rw[aH,aB h];rfl
theorem Ic(hn:g.length=n)(h1:1≤n)(hs:n<1000000):∀(j i fu:Nat)(bs:List Blk),i+j=n→j<fu→bs[0]?=some ⟨[.tree (rs g) n e],.rw⟩→(∀t,t<i→Ad (ent g t)=false)→
 lp (λ(_ _ _ _:D)(_:LS)=>none) (lG φ) fu (.ptr 0 0) (.tree (rs g) n e) (.i .i64 (.ofNat n)) (.i .i64 (.ofNat i)) (mem bs)=some (.i .i64 (.ofNat (if g.any Ad then 1 else if 24<n-1 then 4 else 0))):=by
 intro j
 induction j with
 |zero=>
  intro i fu bs hi hf hb h0;obtain⟨fu,rfl⟩:∃q,fu=q+1:=⟨fu-1,by omega⟩
  have:i=n:=by omega
  subst this;rw[zT (λt ht=>h0 t (by omega)),aE (by decide),eO];unfold lG;refine th (fy (bS _)) (th eM (th (qB hb) (th (fP (KX h1 hs)) ?_)));by_cases h6:24<i-1
  ·rw[aC h6];exact th (mf h6) (th eP ia)
  ·rw[aE h6];exact th (oO h6) (th eM ia)
 |succ j ih=>
  intro i fu bs hi hf hb h0;obtain⟨fu,rfl⟩:∃q,fu=q+1:=⟨fu-1,by omega⟩
  rcases qF (Ad (ent g i))with hP|hP
  ·have hih:=ih (i+1) fu (bs++[⟨rcs (ent g i),.rw⟩]) (by omega) (by omega) (gY hb) (λt ht=>by
    by_cases e:t=i
    ·subst e;exact hP
    ·exact h0 t (by omega))
   have hw:Nat.beq (ent g i).den 1=true:=by
    unfold Ad at hP;cases hx:Nat.beq (ent g i).den 1<;>rw[hx]at hP<;>simp_all
   rw[eO]
   conv=>lhs;unfold lG
   refine th (fk (by omega)) (th eP (th (p9 hn (by omega)) (th (xr rfl) (th FX (th (jo Gd rfl) ?_)))));rw[hw];exact th wO (th eM (th (fM (by omega)) hih))
  ·have hw:Nat.beq (ent g i).den 1=false:=by
    unfold Ad at hP;cases hx:Nat.beq (ent g i).den 1<;>rw[hx]at hP<;>simp_all
   rw[wy (i:=i) (λt ht _=>h0 t ht) (by omega) hP,aC rfl,eO];unfold lG;refine th (fk (by omega)) (th eP (th (p9 hn (by omega)) (th (xr rfl) (th FX (th (jo Gd rfl) ?_)))));rw[hw];exact th wO (th eP ia)
theorem Gg(hn:l.length=n)(hφ:3000000000≤φ):gm φ [.agg [.tree (raw l) n e]]=some (.i .i64 (.ofNat (qL l))):=by
 have hck:=xn (φ:=φ) (ex:=e) hn hφ;unfold gm qL;dsimp only[eV,eZ];rw[←fm];have hb:([]++[(⟨[.tree (raw l) n e],.rw⟩:Blk)])[([]:List Blk).length]?=some ⟨[.tree (raw l) n e],.rw⟩:=rfl;refine th (jB rfl) (th (wM hb) (th (fP hck) ?_));by_cases h0:wB l=0
 ·rw[aC h0];obtain⟨hz,hl,hpt⟩:=wA h0;have hrs:=(vc hz).1;have hrl:(iR l).length=n:=my.trans hn;rw[hrs]at hb ⊢;rw[hn];generalize iR l=g at*;refine th (o6 h0) (th eM (th (wM hb) (th fH ?_)));by_cases h2:n<2
  ·rw[aC (Or.inl h2)];exact th (fk h2) (th jZ (th jZ (th jZ (th jZ (th jZ (th fe (th eP ia)))))))
  ·refine th (fy h2) (th Q6 (th (wM hb) (th gA (th (fP (Ok hrl (by omega))) (th gA (th (fP WA) (th gA (th J6 (th gE ?_)))))))));by_cases h4:ent g (n-1)=1
   ·rw[aE (λh=>h.elim h2 (λh=>h h4)),aS h4];exact th eM (th (wM hb) (th fH (Ic hrl (by omega) (by omega) n 0 φ _ (by omega) (by omega) hb (λt ht=>by omega))))
   ·rw[aC (Or.inr h4),aN h4];exact th eP ia
 ·rw[aE h0];exact th (qU h0) (th eP ia)
structure FF (l:List RQ):Prop where
 hz:tP l=0
 h2:2≤l.length
 h25:l.length≤25
 h1:ent (iR l) (l.length-1)=1
 hw:∀i,(ent (iR l) i).den=1
theorem BH(h:qL l=0):FF l:=by
 unfold qL at h;by_cases h0:wB l=0
 ·rw[aC h0]at h;by_cases h2:l.length<2∨ent (iR l) (l.length-1)≠1
  ·rw[aC h2]at h;cases h
  rw[aE h2]at h;by_cases h3:(iR l).any Ad=true
  ·rw[aC h3]at h;cases h
  rw[aE h3]at h;by_cases h4:24<l.length-1
  ·rw[aC h4]at h;cases h
  refine⟨(wA h0).1,by omega,by omega,Classical.byContradiction λhc=>h2 (Or.inr hc),λi=>?_⟩;rcases az i (iR l).length with hi|hi
  ·rw[List.any_eq_true]at h3;apply Classical.byContradiction;intro hc;apply h3;refine⟨(iR l)[i],bK hi,?_⟩;rw[←Fa hi];unfold Ad;rw[gG hc];rfl
  ·rw[gL hi];rfl
 ·rw[aE h0]at h;exact absurd h h0
def u9(l r:List RQ):Nat:=if qL l=0 then(if wB r=0 then(if l.length≤r.length then 3 else 0)else wB r)else qL l
theorem PE(hn:l.length=n)(hm:r.length=m)(hφ:3000000000≤φ):ky φ [.agg [.tree (raw l) n e],.tree (raw r) m ex]=some (.i .i64 (.ofNat (u9 l r))):=by
 have hF:=PD (φ:=φ) (e:=e) hn hφ;have hC:=Bc (φ:=φ) (ex:=ex) hm hφ;unfold ky u9;dsimp only[eV,eZ];rw[←fm];have hb:([]++[(⟨[.tree (raw l) n e],.rw⟩:Blk)])[([]:List Blk).length]?=some ⟨[.tree (raw l) n e],.rw⟩:=rfl;refine th (jB rfl) (th (qB hb) (th (fP hF) ?_));by_cases h0:qL l=0
 ·rw[aC h0];refine th (o6 h0) (th eM (th (fP hC) ?_));by_cases h1:wB r=0
  ·rw[aC h1];refine th (o6 h1) (th eM (th fH (th (wM hb) (th fH ?_))));rw[hn,hm];by_cases h2:n≤m
   ·rw[aC h2];exact th (qC h2) (th eP ia)
   ·rw[aE h2];exact th (zE h2) (th eM ia)
  ·rw[aE h1];exact th (qU h1) (th eP ia)
 ·rw[aE h0];exact th (qU h0) (th eP ia)
theorem Om(hn:l.length=n)(hm:r.length=m)(hφ:3000000000≤φ):lH φ [.agg [.tree (raw l) n e],.tree (raw r) m ex]=some (.i .i64 (.ofNat (u9 l r))):=by
 have hF:=Gg (φ:=φ) (e:=e) hn hφ;have hC:=xn (φ:=φ) (ex:=ex) hm hφ;unfold lH u9;dsimp only[eV,eZ];rw[←fm];have hb:([]++[(⟨[.tree (raw l) n e],.rw⟩:Blk)])[([]:List Blk).length]?=some ⟨[.tree (raw l) n e],.rw⟩:=rfl;refine th (jB rfl) (th (qB hb) (th (fP hF) ?_));by_cases h0:qL l=0
 ·rw[aC h0];have hff:=BH h0;have h2n:=hff.h2;have h25:=hff.h25;refine th (o6 h0) (th eM (th (fP hC) ?_));by_cases h1:wB r=0
  ·rw[aC h1];have hm65:=(wA h1).2.1;refine th (qE h1) (th fD (th fD (th fH (th fD (th (qB hb) (th fD (th (fP (KX (by omega) (by omega))) (th fD ?_))))))));rw[hn,hm];by_cases h2:n≤m
   ·rw[aC h2];exact th (mf (by omega)) (th fe (th eP ia))
   ·rw[aE h2,h1];exact th (oO (by omega)) (th fe (th eM ia))
  ·rw[aE h1];exact th (tO h1) (th fj (th fj (th fj (th fj (th fj (th gE (th eM ia)))))))
 ·rw[aE h0];exact th (qU h0) (th eP ia)
theorem Fi(h:u9 l r=0):FF l∧tP r=0∧r.length<l.length∧Pt (iR r):=by
 unfold u9 at h;by_cases h0:qL l=0
 ·rw[aC h0]at h;by_cases h1:wB r=0
  ·rw[aC h1]at h;by_cases h2:l.length≤r.length
   ·rw[aC h2]at h;cases h
   ·obtain⟨a,b,c⟩:=wA h1;exact⟨BH h0,a,by omega,c⟩
  ·rw[aE h1]at h;exact absurd h h1
 ·rw[aE h0]at h;exact absurd h h0
end
def NY(v:Rat):Bool:=decide (4<sS v.num.natAbs)
def wx(v:Rat):Bool:=decide (8<sS v.num.natAbs)||decide (8<sS v.den)
section
variable {bs:List Blk} {s:LS} {K:D→LS→Rs} {k:D→Rs} {S T:St} {m n a b i kb d:Nat} {x y ex e:Bool} {φ:Nat} {l r:List RQ} {t:Rs} {p q:Rat} {z:RQ} {kk:IntKind} {g h:Row} {cs:List D} {f:D}
theorem LK(hb:bs[kb]?=some ⟨rcs q,.rw⟩):(eW 0 (mem bs) (.ptr kb 0) λx s=>eW 1 s x λy s=>eJ s y K)=K (.n q.num.natAbs) (mem bs):=by
 rw[kD,hb,gN];show(eW 1 (mem bs) (.ptr kb 0) λy s=>eJ s y K)=_;rw[kD,hb,gN];show(eJ (mem bs) (.ptr kb 1) K)=_;exact F1 hb rfl rfl
theorem Qm(hb:bs[kb]?=some ⟨rcs q,.rw⟩):(eW 2 (mem bs) (.ptr kb 0) λx s=>eJ s x K)=K (.n q.den) (mem bs):=by
 rw[kD,hb,gN];show(eJ (mem bs) (.ptr kb 2) K)=_;exact F1 hb rfl rfl
theorem yB:kS (.lens (.c (.n m))) s K=K (.i .i64 (.ofNat (sS m))) s:=QA rfl
theorem Q7{w:Bool}{X:D}:(eI (.b w) w (λk=>eW 2 s X k) s λx s=>eI (.b w) w (λk=>eJ s x k) s K)=eW 2 s X λa s=>eJ s a K:=by cases w<;>rfl
theorem NN(hn:g.length=n)(hs:n<1000000):∀(j i fu:Nat)(bs:List Blk),i+j=n→j<fu→(∀t,t<i→NY (ent g t)=false)→
 lp (λ(_ _ _:D)(_:LS)=>none) (l9 φ) fu (.tree (rs g) n e) (.i .i64 (.ofNat n)) (.i .i64 (.ofNat i)) (mem bs)=some (.b (!(g.any NY))):=by
 intro j
 induction j with
 |zero=>
  intro i fu bs hi hf h0;obtain⟨fu,rfl⟩:∃q,fu=q+1:=⟨fu-1,by omega⟩
  have:i=n:=by omega
  subst this;rw[zT (λt ht=>h0 t (by omega)),eO];unfold l9;exact th (fy (bS _)) (th eM rP)
 |succ j ih=>
  intro i fu bs hi hf h0;obtain⟨fu,rfl⟩:∃q,fu=q+1:=⟨fu-1,by omega⟩
  have hb:(bs++[(⟨rcs (ent g i),.rw⟩:Blk)])[bs.length]?=some ⟨rcs (ent g i),.rw⟩:=by simp
  by_cases hP:4<sS (ent g i).num.natAbs
  ·rw[wy (P:=NY) (i:=i) (λt ht _=>h0 t ht) (by omega) (aS hP),eO];unfold l9;exact th (fk (by omega)) (th eP (th (p9 hn (by omega)) (th (xr rfl) (th (LK hb) (th yB (th (mf hP) (th eP rP)))))))
  ·have hih:=ih (i+1) fu (bs++[⟨rcs (ent g i),.rw⟩]) (by omega) (by omega) (λt ht=>by
    by_cases e:t=i
    ·subst e;exact aN hP
    ·exact h0 t (by omega))
   rw[eO]
   conv=>lhs;unfold l9
   exact th (fk (by omega)) (th eP (th (p9 hn (by omega)) (th (xr rfl) (th (LK hb) (th yB (th (oO hP) (th eM (th (fM (by omega)) hih))))))))
def DR(l:List RQ):Bool:= !(decide (6<l.length))&& !((iR l).any NY)
theorem ZT(hn:l.length=n)(h0:qL l=0)(hφ:3000000000≤φ):nS φ [.agg [.tree (raw l) n e],.i .i64 (.ofNat 5)]=some (.b (DR l)):=by
 have hF:=Gg (φ:=φ) (e:=e) hn hφ;have hff:=BH h0;have hrs:=(vc hff.hz).1;have h25:=hff.h25;unfold nS DR;dsimp only[eV,eZ];rw[←fm];have hb:([]++[(⟨[.tree (raw l) n e],.rw⟩:Blk)])[([]:List Blk).length]?=some ⟨[.tree (raw l) n e],.rw⟩:=rfl;refine th (jB rfl) (th (wM hb) (th fH (th (fM (by omega)) ?_)));rw[hn];by_cases h6:6<n
 ·rw[aS h6];exact th (mf h6) (th jZ (th jZ (th jZ (th fe (th eP rP)))))
 ·rw[aN h6];refine th (oO h6) (th gA (th (qB hb) (th gA (th (fP hF) (th gA (th (o6 h0) (th gE (th eM (th (wM hb) (th fH ?_))))))))));rw[hrs,NN (my.trans hn) (by omega) n 0 φ _ (by omega) (by omega) (λt ht=>by omega)];rfl
theorem NM(hn:g.length=n)(hs:n<1000000):∀(j i fu:Nat)(bs:List Blk),i+j=n→j<fu→(∀t,t<i→wx (ent g t)=false)→
 lp (λ(_ _ _:D)(_:LS)=>none) (kF φ) fu (.tree (rs g) n e) (.i .i64 (.ofNat n)) (.i .i64 (.ofNat i)) (mem bs)=some (.b (!(g.any wx))):=by
 intro j
 induction j with
 |zero=>
  intro i fu bs hi hf h0;obtain⟨fu,rfl⟩:∃q,fu=q+1:=⟨fu-1,by omega⟩
  have:i=n:=by omega
  subst this;rw[zT (λt ht=>h0 t (by omega)),eO];unfold kF;exact th (fy (bS _)) (th eM rP)
 |succ j ih=>
  intro i fu bs hi hf h0;obtain⟨fu,rfl⟩:∃q,fu=q+1:=⟨fu-1,by omega⟩
  have hb:(bs++[(⟨rcs (ent g i),.rw⟩:Blk)])[bs.length]?=some ⟨rcs (ent g i),.rw⟩:=by simp
  have pre:∀R,(kC (.i .i64 (.ofNat (sS (ent g i).num.natAbs))) (.i .i64 (.ofNat 8)) λx23=>eI x23 false (λk=>eW 2 (mem (bs++[(⟨rcs (ent g i),.rw⟩:Blk)])) (.ptr bs.length 0) k) (mem (bs++[(⟨rcs (ent g i),.rw⟩:Blk)])) λx24 s=>eI x23 false (λk=>eJ s x24 k) s λx25 s=>eI x23 false (λk=>kS (.lens (.c x25)) s k) s λx26 s=>eI x23 false (λk=>kC x26 (.i .i64 (.ofNat 8)) λd=>k d s) s λx27 s=>fX x23 (.b true) x27 s λx28 s=>eQ x28 (eX false s (.b false) some) (ee (.i .i64 (.ofNat i)) (.i .i64 (.ofNat 1)) λx29=>lp (λ(_ _ _:D)(_:LS)=>none) (kF φ) fu (.tree (rs g) n e) (.i .i64 (.ofNat n)) x29 s))=R→lp (λ(_ _ _:D)(_:LS)=>none) (kF φ) (fu+1) (.tree (rs g) n e) (.i .i64 (.ofNat n)) (.i .i64 (.ofNat i)) (mem bs)=R:=by
   intro R hR;rw[eO]
   conv=>lhs;unfold kF
   exact th (fk (by omega)) (th eP (th (p9 hn (by omega)) (th (xr rfl) (th (LK hb) (th yB hR)))))
  by_cases hP:8<sS (ent g i).num.natAbs
  ·rw[wy (P:=wx) (i:=i) (λt ht _=>h0 t ht) (by omega) (by unfold wx;rw[aS hP];rfl)];exact pre _ (th (mf hP) (th jZ (th jZ (th jZ (th jZ (th fe (th eP rP)))))))
  ·by_cases hQ:8<sS (ent g i).den
   ·rw[wy (P:=wx) (i:=i) (λt ht _=>h0 t ht) (by omega) (by unfold wx;rw[aS hQ,Bool.or_true])];exact pre _ (th (oO hP) (th Q7 (th (Qm hb) (th gA (th yB (th gA (th (mf hQ) (th gE (th eP rP)))))))))
   ·have hih:=ih (i+1) fu (bs++[⟨rcs (ent g i),.rw⟩]) (by omega) (by omega) (λt ht=>by
     by_cases e:t=i
     ·subst e;unfold wx;rw[aN hP,aN hQ];rfl
     ·exact h0 t (by omega))
    exact pre _ (th (oO hP) (th Q7 (th (Qm hb) (th gA (th yB (th gA (th (oO hQ) (th gE (th eM (th (fM (by omega)) hih))))))))))
theorem WC(hn:r.length=n)(h0:wB r=0)(hd:n≤d+1)(hd1:d<1000000)(hφ:3000000000≤φ):nV φ [.tree (raw r) n e,.i .i64 (.ofNat d)]=some (.b (!((iR r).any wx))):=by
 have hC:=xn (φ:=φ) (ex:=e) hn hφ;have hrs:=(vc (wA h0).1).1;have h65:=(wA h0).2.1;unfold nV;dsimp only[eV,eZ];rw[←fm];refine th fH (th (fM (by omega)) (th (oO (by omega)) (th gA (th gA (th (fP hC) (th gA (th (o6 h0) (th gE (th eM (th fH ?_))))))))));rw[hrs];exact NM (my.trans hn) (by omega) n 0 φ [] (by omega) (by omega) (λt ht=>by omega)
theorem Gh(hn:l.length=n)(hm:r.length=m)(h0:u9 l r=0)(hφ:3000000000≤φ):jk φ [.agg [.tree (raw l) n e],.tree (raw r) m ex]=some (.b (!((iR r).any wx))):=by
 have hF:=Gg (φ:=φ) (e:=e) hn hφ;obtain⟨hff,hz,hlt,hpt⟩:=Fi h0;have h2:=hff.h2;have h25:=hff.h25;have hf0:qL l=0:=by
  unfold u9 at h0;by_cases h:qL l=0
  ·exact h
  ·rw[aE h]at h0;exact absurd h0 h
 have hp0:wB r=0:=by
  unfold u9 at h0;rw[aC hf0]at h0;by_cases h:wB r=0
  ·exact h
  ·rw[aE h]at h0;exact absurd h0 h
 have hw:=WC (φ:=φ) (e:=ex) (d:=n-1) hm hp0 (by omega) (by omega) hφ;unfold jk;dsimp only[eV,eZ];rw[←fm];have hb:([]++[(⟨[.tree (raw l) n e],.rw⟩:Blk)])[([]:List Blk).length]?=some ⟨[.tree (raw l) n e],.rw⟩:=rfl;exact th (jB rfl) (th (qB hb) (th (fP hF) (th (qE hf0) (th fD (th fD (th fH (th fD (th (qB hb) (th fD (th (fP (KX (by omega) (by omega))) (th fD (th (Pp (by omega)) (th fe (th fD (th fD (th (qB hb) (th fD (th (fP (KX (by omega) (by omega))) (th fD (th (fP hw) (th fe rP)))))))))))))))))))))
theorem Yo{P:Rat→Bool}(h:g.any P=false)(hi:i<g.length):P (ent g i)=false:=by
 rw[z0R]at h;have:=h g[i] (bK hi);rw[Fa hi];simpa using this
end
section
variable {l r:List RQ} {g h t:Row} {p q:Rat} {i j m n d D' N' M' J Db Nb:Nat} {a:Row}
theorem Ql:∀r:Row,(∀v,v∈r→Lg 64 v.num.natAbs∧Lg 64 v.den)→∃D N,0<D∧Lg (65*r.length) D∧Lg (66*r.length) N∧Hb D N r
 |[],_=>⟨1,0,cy,a9 _,a9 _,λi=>by rw[sj];exact rh⟩
 |v::r,h=>by
  obtain⟨D,N,a,b,c,d⟩:=Ql r (λv hv=>h v (by simp[hv]));obtain⟨h1,h2⟩:=h v (by simp);refine⟨D*v.den,N*v.den+v.num.natAbs*D,cW a (z1k v.den_nz),?_,?_,λi=>?_⟩
  ·rw[ay,bA];exact ew (iB b h2) (by omega)
  ·rw[ay,bA];have e1:=ew (iB c h2) (show _≤66*r.length+65 by omega);have e2:=ew (iB h1 b) (show _≤66*r.length+65 by omega);exact ew (wa e1 e2) (by omega)
  ·cases i with
   |zero=>
    have:=QX D (LD (x:=v));rw[aK v.den D]at this;exact nK this (by omega)
   |succ i=>exact nK (QX v.den (d i)) (by omega)
theorem XV(h:g.any wx=false):∀v,v∈g→Lg 64 v.num.natAbs∧Lg 64 v.den:=by
 rw[z0R]at h;intro v hv;have h1:=h v hv;unfold wx at h1;by_cases h2:8<sS v.num.natAbs
 ·rw[aS h2]at h1;exact absurd rfl h1
 ·by_cases h3:8<sS v.den
  ·rw[aS h3,Bool.or_true]at h1;exact absurd rfl h1
  ·exact⟨ew (tp (c:=8) (by omega)) (by decide),ew (tp (c:=8) (by omega)) (by decide)⟩
theorem VS(hf:FF l)(h4:DR l=true)(hlt:r.length<l.length)(h8:(iR r).any wx=false):∃D N,EL (iR l) (iR r) (l.length-1) D N (2^33):=by
 obtain⟨D,N,a,b,c,d⟩:=Ql (iR r) (XV h8);have h6:l.length≤6:=by
  unfold DR at h4;by_cases h:6<l.length
  ·rw[aS h]at h4;cases h4
  ·omega
 have hb:(iR l).any NY=false:=by
  unfold DR at h4;rcases qF ((iR l).any NY)with h|h
  ·exact h
  ·rw[h,cI,dq]at h4;cases h4
 have h2:=hf.h2;have hrl:(iR r).length≤5:=by rw[my];omega
 refine⟨D,N,?_,by omega,by omega,λi=>?_,hf.h1,d,by rw[my];omega,a,ew b (by have:=aZ 65 hrl;omega),ew c (by have:=aZ 66 hrl;omega),by show Nat.log2 (2^33)≤40;rw[Nat.log2_two_pow];omega⟩
 ·rw[my];omega
 ·have hd1:=hf.hw i;have hs:(ent (iR l) i).num.natAbs≤2^33:=by
   rcases az i (iR l).length with hi|hi
   ·have:=Yo hb hi;have h5:sS (ent (iR l) i).num.natAbs≤4:=by
     have:¬4<sS (ent (iR l) i).num.natAbs:=of_decide_eq_false this;omega
    have:=ED (tp (c:=4) h5);omega
   ·rw[gL hi];exact a9 _
  have:=LD (x:=ent (iR l) i);rw[hd1]at this;exact nK this hs
end
def DV(v:Rat):Bool:=decide (1024<sS v.num.natAbs)||decide (1024<sS v.den)
section
variable {bs:List Blk} {s:LS} {K:D→LS→Rs} {k:D→Rs} {m n a b i kb d na nb:Nat} {x y ex ey e ea eb eg:Bool} {φ:Nat} {l r ra rb:List RQ} {t:Rs} {p q:Rat} {kk:IntKind} {g h c:Row} {cs:List D} {f:D}
theorem WI:pM φ [rc p]=some (.b (DV p)):=by
 have hb:([]++[(⟨rcs p,.rw⟩:Blk)])[([]:List Blk).length]?=some ⟨rcs p,.rw⟩:=rfl;unfold pM DV;dsimp only[eV,eZ];rw[←fm];refine th (jB rfl) (th (LK hb) (th yB ?_));by_cases hP:1024<sS p.num.natAbs
 ·rw[aS hP];exact th (mf hP) (th jZ (th jZ (th jZ (th jZ (th fe rP)))))
 ·rw[aN hP,z1q];refine th (oO hP) (th Q7 (th (Qm hb) (th gA (th yB (th gA ?_)))));by_cases hQ:1024<sS p.den
  ·rw[aS hQ];exact th (mf hQ) (th gE rP)
  ·rw[aN hQ];exact th (oO hQ) (th gE rP)
theorem Sv(hn:c.length=n)(hs:n<1000000)(hφ:1000000000≤φ):pq φ [.tree (rs c) n e]=some (.b (c.any DV)):=by
 unfold pq;dsimp only[eV,eZ];exact th (Dq (P:=DV) (f:=.fn 44 []) (λv s F=>by
  show eR (pM φ) [rc v] s F=_;exact jo WI rfl) hn hs hφ) rP
theorem Ze{z d1 d2:D}(h1:jr d1=[d1])(h2:jr d2=[d2])(o1:one d1=true)(o2:one d2=true):jY 2 [z] [(0,1,d1),(1,1,d2)] (mem bs) K=K (.sl bs.length 0 2 2 1 true) (mem (bs++[⟨[d1,d2],.rw⟩])):=by
 show(Hj [(0,1,d1),(1,1,d2)] [z,z] λcs=>frc ([z]:List D).length λz=>ku (mem bs) ⟨cs,.rw⟩ λs'=>K (.sl (mem bs).nx 0 2 2 z true) s')=_;show(vcK d1 λnew=>cnd (Nat.beq new.length 1) (pi new (ur 0 new [z,z] λcs=>vcK d2 λnew=>cnd (Nat.beq new.length 1) (pi new (ur 1 new cs λcs=>frc ([z]:List D).length λz=>ku (mem bs) ⟨cs,.rw⟩ λs'=>K (.sl (mem bs).nx 0 2 2 z true) s')) none)) none)=_;rw[v7,h1];show pi [d1] _=_;rw[qm (by simp[o1]),od];show(ob (some [d1,z]) _)=_;rw[gN,v7,h2];show pi [d2] _=_;rw[qm (by simp[o2]),od];show(ob (some [d1,d2]) _)=_;rw[gN,fA,ln,js];rfl
theorem Tu{M:List D→Option D}{v:D}{z:Nat}(hb:bs[kb]?=some ⟨cs,.rw⟩)(hf:∀F:List D→List Nat→Rs,nI (kJ (mem bs) 59) cs F=F cs [])(hn:cs.length=n*z)(hM:M [.tree cs n true]=some v)(hfv:tM v=true):eR M [.sl kb 0 n n z true] (mem bs) K=K v (mem bs):=by
 show(jQ (mem bs) kb λb=>cnd (lv b.st) (iz 0 b.cs λr=>iy (Nat.mul n z) r λr=>nI (kJ (mem bs) 59) r λcs ls=>mw (cnd true (Nat.beq n n) false) λex=>l7 (kb::ls) [] λab=>ob (M [.tree cs n ex]) λr=>ju (mem bs) ab r K) none)=_;rw[gu hb,sI,show(⟨cs,.rw⟩:Blk).st.live=true from rfl,eL,gB,aj,i9,show Nat.mul n z=n*z from rfl,aC (by show n*z≤cs.length;omega),aM (by show cs.length≤n*z;omega),hf,eL,ej,jC,gT,hM,gN];unfold ju;rw[mU,hfv];rfl
theorem Ie{cs:List D}{v:Int}:eX false s (.tup [.tree cs n e,.i kk v]) some=some (.tup [.tree cs n e,.i kk v]):=by
 unfold eX;rw[mU];show uw (nu false s.get fv (.tup [.tree cs n e,.i kk v])) some=_;rw[show nu false s.get fv (.tup [.tree cs n e,.i kk v])=some (.tup [.tree cs n e,.i kk v])from rfl,gS];rfl
def CW(x y:Nat):Nat:=if x=0 then y else x
theorem WB:ka φ [.tree [.i .i64 (.ofNat a),.i .i64 (.ofNat b)] 2 true]=some (.i .i64 (.ofNat (CW a b)))∨φ<3:=by
 rcases az φ 3 with h|h
 ·exact Or.inr h
 ·left;obtain⟨ψ,rfl⟩:∃ψ,φ=ψ+3:=⟨φ-3,by omega⟩
  unfold ka CW;dsimp only[eV,eZ];refine th fH ?_;rw[eO];unfold rz;refine th (fk (by omega)) (th eP (th (t8 (d:=.i .i64 (.ofNat a)) rfl rfl) ?_));by_cases ha:a=0
  ·rw[aC ha];refine th (o6 ha) (th eM (th (fM (by omega)) ?_));rw[eO];refine th (fk (by omega)) (th eP (th (t8 (d:=.i .i64 (.ofNat b)) rfl rfl) ?_));by_cases hb:b=0
   ·rw[hb];refine th (o6 rfl) (th eM (th (fM (by omega)) ?_));rw[eO];exact th (fy (by omega)) (th eM ia)
   ·exact th (qU hb) (th eP ia)
  ·rw[aE ha];exact th (qU ha) (th eP ia)
theorem ML(hn:c.length=n)(hs:n<1000000):∀(j i fu:Nat),i+j=n→j<fu→
 lp (λ(_ _ _ _:D)(_:LS)=>none) (mu φ) fu (.tree (rs c) n ex) (.tree (rs c) n ey) (.i .i64 (.ofNat n)) (.i .i64 (.ofNat i)) s=some (.b true):=by
 intro j
 induction j with
 |zero=>
  intro i fu hi hf;obtain⟨fu,rfl⟩:∃q,fu=q+1:=⟨fu-1,by omega⟩
  rw[eO];unfold mu;exact th (fy (by omega)) (th eM rP)
 |succ j ih=>
  intro i fu hi hf;obtain⟨fu,rfl⟩:∃q,fu=q+1:=⟨fu-1,by omega⟩
  have hih:=ih (i+1) fu (by omega) (by omega);rw[eO]
  conv=>lhs;unfold mu
  refine th (fk (by omega)) (th eP (th (p9 hn (by omega)) (th (p9 hn (by omega)) (th J6 ?_))));rw[aS rfl];exact th eM (th (fM (by omega)) hih)
theorem Xq(hn:c.length=n)(hs:n<1000000)(hφ:1000000000≤φ):mh φ [.tree (rs c) n ex,.tree (rs c) n ey]=some (.b true):=by
 unfold mh;dsimp only[eV,eZ];exact th fH (th fH (th (o6 rfl) (th eM (th fH (ML hn hs n 0 φ (by omega) (by omega))))))
end
section
variable {bs:List Blk} {s:LS} {K:D→LS→Rs} {k:D→Rs} {m n a b i kb d na nb D' N' M' J:Nat} {x y ex ey e ea eb eg:Bool} {φ:Nat} {l r ra rb:List RQ} {t:Rs} {p q:Rat} {kk:IntKind} {g h c:Row} {cs:List D} {f:D} {aw:Nat→List D→Option D}
end
section
variable {im:Nat→Option Nat} {P:Program} {w w':World} {okp:Nat→Nat→Prop} {H:Type} {enc:TypeId×Value→H} {spare:Nat→Bool} {held:Bool}
theorem Nu(s:ByteArray):∃S:St,TR im w okp S.d (.string s):=by
 obtain⟨⟨l⟩⟩:=s;by_cases h0:∃r,l=0::r
 ·obtain⟨r,rfl⟩:=h0;exact⟨.bad r,by show TR im w okp (.s (0::r)) _;simp[TR]⟩
 ·refine⟨.ok (ef l 0),?_⟩;have hb:eo (ef l 0)=l:=by
   have:=(tu l.length l (ef l 0) [] rfl (λc r h hc=>h0 ⟨r,by
    rw[h];have:c=0:=UInt8.toNat_inj.1 hc;rw[this]⟩) (aD _)).1
   rw[bq]at this;exact this
  show TR im w okp (.n (ef l 0)) _;simp[TR,hb]
def R3(im:Nat→Option Nat)(w:World)(okp:Nat→Nat→Prop)(b o:Nat)(q:RQ):Prop:=
 (∃v,w.cell? ⟨b,o,none⟩=some v∧TR im w okp (.b q.1) v)∧(∃v,w.cell? ⟨b,o+1,none⟩=some v∧TR im w okp q.2.1.d v)∧(∃v,w.cell? ⟨b,o+1+1,none⟩=some v∧TR im w okp q.2.2.d v)
theorem O8{b:Nat}:∀(n o:Nat),(∀i,i<n→∃q,R3 im w okp b (o+i*3) q)→∃l:List RQ,l.length=n∧TRc im w okp (raw l) b o
 |0,o,_=>⟨[],rfl,by simp[raw,TRc]⟩
 |n+1,o,h=>by
  obtain⟨q,h1,h2,h3⟩:=h 0 (by omega);rw[bP,bH]at h1 h2 h3;obtain⟨l,hl,ht⟩:=O8 n (o+3) (λi hi=>by
   obtain⟨q,hq⟩:=h (i+1) (by omega);refine⟨q,?_⟩;have e:o+(i+1)*3=o+3+i*3:=by omega
   rw[e]at hq;exact hq)
  refine⟨q::l,by simp[hl],?_⟩;simp only[raw,TRc];exact⟨h1,h2,h3,ht⟩
structure QT (P:Program) (tq tz tn tb:TypeId) (f1 f2 g1 g2:Field):Prop where
 uq:P.underlying tq=some (.struct #[f1,f2])
 t1:f1.type=tz
 o1:f1.offset=0
 t2:f2.type=tn
 o2:f2.offset=2
 uz:P.underlying tz=some (.struct #[g1,g2])
 s1:g1.type=tb
 p1:g1.offset=0
 s2:g2.type=tn
 p2:g2.offset=1
 un:P.underlying tn=some .string
 ub:P.underlying tb=some .bool
 cq:P.cellsOf tq=3
 cz:P.cellsOf tz=2
 cn:P.cellsOf tn=1
 cb:P.cellsOf tb=1
variable {tq tz tn tb ts tf:TypeId} {f1 f2 g1 g2 fp:Field}
theorem V6(h:QT P tq tz tn tb f1 f2 g1 g2){base fuel:Nat}{cs:List Value}{x:DataW H×List MemPlace}(hx:DataW.trod enc P w base spare held fuel tq cs=some x):
 ∃(v1 v2 v3:Value)(q:RQ),cs=[v1,v2,v3]∧TR im w okp (.b q.1) v1∧TR im w okp q.2.1.d v2∧TR im w okp q.2.2.d v3:=by
 obtain⟨xs,n,_,_,hl,hxl,hf⟩:=DataW.trod_struct h.uq hx;rw[h.cq]at hl
 match cs,hl with
 |[v1,v2,v3],_=>
  have hxl2:xs.length=2:=hxl;have e1:=hf 0 f1 rfl;have e2:=hf 1 f2 rfl;rw[h.t1,h.o1,h.cz]at e1;rw[h.t2,h.o2,h.cn]at e2;have g0:xs[0]?=some (xs[0]'(by omega)):=aB (by omega);have g1':xs[1]?=some (xs[1]'(by omega)):=aB (by omega);rw[g0]at e1;rw[g1']at e2;obtain⟨ys,m,_,_,_,hyl,hg⟩:=DataW.trod_struct h.uz e1;have hyl2:ys.length=2:=hyl;have a1:=hg 0 g1 rfl;have a2:=hg 1 g2 rfl;rw[h.s1,h.p1,h.cb]at a1;rw[h.s2,h.p2,h.cn]at a2;rw[aB (show 0<ys.length by omega)]at a1;rw[aB (show 1<ys.length by omega)]at a2;obtain⟨b,hb,_⟩:=DataW.trod_bool h.ub a1;obtain⟨s1,hs1,_⟩:=DataW.trod_string h.un a2;obtain⟨s2,hs2,_⟩:=DataW.trod_string h.un e2;have hb':v1=.bool b:=by
   have:[v1]=[Value.bool b]:=hb;injection this
  have hs1':v2=.string s1:=by
   have:[v2]=[Value.string s1]:=hs1;injection this
  have hs2':v3=.string s2:=by
   have:[v3]=[Value.string s2]:=hs2;injection this
  obtain⟨S,hS⟩:=Nu (im:=im) (w:=w) (okp:=okp) s1;obtain⟨T,hT⟩:=Nu (im:=im) (w:=w) (okp:=okp) s2;exact⟨v1,v2,v3,(b,S,T),rfl,by rw[hb'];simp[TR],by rw[hs1'];exact hS,by rw[hs2'];exact hT⟩
theorem XQ{a:Addr}{cs:List Value}{v1 v2 v3:Value}(h:w.cells? 0 a 3=some cs)(hc:cs=[v1,v2,v3]):w.cell? (a.add 0)=some v1∧w.cell? (a.add 1)=some v2∧w.cell? (a.add 2)=some v3:=by
 subst hc;unfold World.cells? at h;rw[aC (a9 _),show List.range 3=[0,1,2]from rfl]at h;simp only[z0M,List.mapM_nil,Option.bind_eq_bind,Option.pure_def]at h;cases h0:w.cell? (a.add 0)with
 |none=>rw[h0]at h;simp at h
 |some u0=>
  rw[h0]at h;cases h1:w.cell? (a.add 1)with
  |none=>rw[h1]at h;simp at h
  |some u1=>
   rw[h1]at h;cases h2:w.cell? (a.add 2)with
   |none=>rw[h2]at h;simp at h
   |some u2=>
    rw[h2]at h;simp at h;obtain⟨rfl,rfl,rfl⟩:=h;exact⟨rfl,rfl,rfl⟩
theorem Ld{a:Addr}{v:Value}(h:w.cell? a=some v):a.spot=none∧a.block<w.heap.size:=by
 unfold World.cell? at h;split at h
 ·rename_i c el fr hh;split at h
  ·cases h
  ·rename_i hs;refine⟨by simpa using hs,?_⟩;exact(bk.1 hh).1
 ·cases h
theorem add_eq{a:Addr}(h:a.spot=none){k:Nat}:a.add k=⟨a.block,a.off+k,none⟩:=by
 unfold Addr.add;split
 ·rename_i h0;subst h0;cases a;simp at h;subst h;rfl
 ·rfl
theorem K3(h:QT P tq tz tn tb f1 f2 g1 g2)(hs:P.underlying ts=some (.slice tq)){fuel:Nat}{v:Value}{x:DataW H×List MemPlace}(hx:DataW.trod enc P w 0 spare held fuel ts [v]=some x):
 ∃l:List RQ,TR im w (λb _=>b<w.heap.size) (.tree (raw l) l.length false) v:=by
 rcases DataW.trod_slice hs hx with⟨hc,_⟩|⟨a,len,cap,elems,rest,n,_,hc,_,_,hlc,_,hel,hi,_⟩
 ·have hv:v=.slice none 0 0:=by injection hc
  refine⟨[],?_⟩;rw[hv];simp only[TR];exact⟨none,0,rfl,aD _,(λh=>by cases h),λh=>absurd rfl h⟩
 ·have hv:v=.slice (some a) len cap:=by injection hc
  have pre:∀i,i<len→∃v1 v2 v3 q,(w.cell? ((a.add (i*3)).add 0)=some v1∧w.cell? ((a.add (i*3)).add 1)=some v2∧w.cell? ((a.add (i*3)).add 2)=some v3)∧TR im w (λb _=>b<w.heap.size) (.b (q:RQ).1) v1∧TR im w (λb _=>b<w.heap.size) q.2.1.d v2∧TR im w (λb _=>b<w.heap.size) q.2.2.d v3:=by
   intro i hil;have h1:=hi i hil;rw[aB (by omega),h.cq]at h1;obtain⟨cs,h2,h3⟩:=Option.bind_eq_some_iff.1 h1;obtain⟨v1,v2,v3,q,e,t1,t2,t3⟩:=V6 (im:=im) (okp:=λb _=>b<w.heap.size) h h3;exact⟨v1,v2,v3,q,XQ h2 e,t1,t2,t3⟩
  have hsb:0<len→a.spot=none∧a.block<w.heap.size:=λh0=>by
   obtain⟨v1,v2,v3,q,⟨c1,_⟩,_⟩:=pre 0 h0;have e:(a.add (0*3)).add 0=a:=rfl;rw[e]at c1;exact Ld c1
  have key:∀i,i<len→∃q,R3 im w (λb _=>b<w.heap.size) a.block (a.off+i*3) q∧a.spot=none∧a.block<w.heap.size:=by
   intro i hil;obtain⟨v1,v2,v3,q,⟨c1,c2,c3⟩,t1,t2,t3⟩:=pre i hil;obtain⟨hsp,hbl⟩:=hsb (by omega);rw[add_eq hsp,add_eq rfl]at c1 c2 c3;exact⟨q,⟨⟨v1,c1,t1⟩,⟨v2,c2,t2⟩,⟨v3,c3,t3⟩⟩,hsp,hbl⟩
  obtain⟨l,hl,ht⟩:=O8 (im:=im) (w:=w) (okp:=λb _=>b<w.heap.size) (b:=a.block) len a.off (λi hil=>by
   obtain⟨q,hq,_⟩:=key i hil;exact⟨q,hq⟩)
  refine⟨l,?_⟩;rw[hv];simp only[TR];refine⟨some a,cap,by rw[hl],by omega,(λh=>by cases h),λhne=>?_⟩;have hl0:0<len:=by
   rcases bL len with h0|h0
   ·exfalso;apply hne;have:l=[]:=a8 (by omega);rw[this];rfl
   ·exact h0
  obtain⟨q,_,hsp,hbl⟩:=key 0 hl0;exact⟨a,rfl,hsp,λj _=>hbl,ht⟩
theorem Qk(h:QT P tq tz tn tb f1 f2 g1 g2)(hs:P.underlying ts=some (.slice tq))(hf:P.underlying tf=some (.struct #[fp]))(ht:fp.type=ts)(ho:fp.offset=0)(hc1:P.cellsOf ts=1){fuel:Nat}{v:Value}{x:DataW H×List MemPlace}(hx:DataW.trod enc P w 0 spare held fuel tf [v]=some x):
 ∃l:List RQ,TR im w (λb _=>b<w.heap.size) (.tree (raw l) l.length false) v:=by
 obtain⟨xs,n,_,_,hl,hxl,hg⟩:=DataW.trod_struct hf hx;have e1:=hg 0 fp rfl;have hxl1:xs.length=1:=hxl;rw[ht,ho,hc1,aB (by omega)]at e1;exact K3 h hs e1
theorem Mn{F:FuncId}{M:List D→Option D}(hS:Snd P im F M){as:List D}{vs:List Value}(h:M as=some (.b true))(ha:TRl im w (λb _=>b<w.heap.size) as vs):
 Calls P F vs.toArray w (λe w'=>e=.returned (.bool true)∧w.keptBut w' (λ_=>False)∧∀b,b<w.heap.size→w'.heap[b]?=w.heap[b]?):=by
 refine Calls.mono (hS _ _ h vs w (λb _=>b<w.heap.size) ha (λb o hb=>hb)) (λe w' he=>?_);cases e with
 |outgrown=>exact he.elim
 |panicked c=>exact he.elim
 |returned v=>
  exact⟨by rw[RR.bool he],RR.keptBut he _,he.2.1⟩
end
section
variable {bs bs':List Blk} {i j k n m c N h J:Nat} {R R':List IR} {rows:List Row} {l r:Row} {P Q:List (Row×Bool)}
def pk(l:List IR)(i:Nat):Nat:=pvt (l.getD i d0).2
theorem Nr{l:List IR}(h:j+1<l.length)(i:Nat):pk (swp l (j+1)) i=if i=j then pk l (j+1)else if i=j+1 then pk l j else pk l i:=by
 unfold pk swp;rw[a7];simp only[aH,List.getElem?_set,bD];by_cases h1:i=j
 ·subst h1;rw[aC rfl,aC rfl,aC (by omega)];rfl
 ·rw[aE (λe=>h1 e.symm),aE h1];by_cases h2:i=j+1
  ·subst h2;rw[aC rfl,aC rfl,aC h];rfl
  ·rw[aE (λe=>h2 e.symm),aE h2]
def SI(l:List IR)(t j:Nat):Prop:=∀a b,a<b→b≤t→b≠j→pk l a≤pk l b
def SO(l:List IR)(t:Nat):Prop:=∀a b,a<b→b≤t→pk l a≤pk l b
theorem Kz:∀(j:Nat)(l:List IR)(t:Nat),t<l.length→j≤t→SI l t j→SO (zD j l) t
 |0,l,t,ht,hj,h=>λa b hab hb=>h a b hab hb (by omega)
 |j+1,l,t,ht,hj,h=>by
  unfold zD;by_cases hc:pvt (l.getD (j+1) d0).2<pvt (l.getD j d0).2
  ·rw[aC hc];have hc:pk l (j+1)<pk l j:=hc;refine Kz j (swp l (j+1)) t (by rw[xD];exact ht) (by omega) λa b hab hb hne=>?_;rw[Nr (by omega),Nr (by omega)];by_cases b1:b=j+1
   ·subst b1;rw[aE (by omega:¬j+1=j),aC rfl];by_cases a1:a=j
    ·rw[aC a1];omega
    ·rw[aE a1,aE (by omega)];exact h a j (by omega) (by omega) (by omega)
   ·rw[aE hne,aE b1];have hb':=λa(ha:a<b)=>h a b ha hb b1;by_cases a1:a=j
    ·rw[aC a1];subst a1;exact hb' (a+1) (by omega)
    ·rw[aE a1];by_cases a2:a=j+1
     ·rw[aC a2];exact hb' j (by omega)
     ·rw[aE a2];exact hb' a hab
  ·rw[aE hc];have hc:¬pk l (j+1)<pk l j:=hc;intro a b hab hb;by_cases b1:b=j+1
   ·subst b1;by_cases a1:a=j
    ·subst a1;omega
    ·have:=h a j (by omega) (by omega) (by omega);omega
   ·exact h a b hab hb b1
theorem CU:∀(j:Nat)(l:List IR),(zD j l).length=l.length
 |0,l=>rfl
 |j+1,l=>by
  unfold zD;split
  ·rw[CU j,xD]
  ·rfl
theorem Kx:∀(t i:Nat)(l:List IR),i+t=l.length→0<i→SO l (i-1)→SO (NE t i l) (l.length-1)
 |0,i,l,h,h0,hs=>by
  have:i=l.length:=by omega
  subst this;exact hs
 |t+1,i,l,h,h0,hs=>by
  show SO (NE t (i+1) (zD i l)) _;have:=Kx t (i+1) (zD i l) (by rw[CU];omega) (by omega) (by
   rw[a7];refine Kz i l i (by omega) (aD _) λa b hab hb hne=>hs a b hab (by omega))
  rwa[CU]at this
theorem SR(l:List IR):SO (xS l) (l.length-1):=by
 unfold xS;by_cases h:l.length=0
 ·have:l=[]:=a8 h;subst this;intro a b hab hb;have:b=0:=by simpa using hb
  omega
 ·exact Kx _ 1 l (by omega) (by omega) λa b hab hb=>by omega
theorem uM(l:List IR):(xS l).length=l.length:=(z9 l).length_eq
theorem Ny(h:EI N rows (R.map Prod.snd)):RR' N rows ((xS R).map Prod.snd):=by
 have hp:((xS R).map Prod.snd).Perm (R.map Prod.snd):=(z9 R).map _;have hmem:=λx=>hp.mem_iff (a:=x);have hre:RE' ((xS R).map Prod.snd):=by
  refine⟨λe he=>?_,?_⟩
  ·obtain⟨l,hl,rfl⟩:=aW.1 he;exact h.red.lead ((hmem l).1 hl)
  ·exact((hp.map pr).pairwise_iff (λ{a b} hab=>⟨hab.2,hab.1⟩)).2 h.red.2
 refine⟨⟨λl hl=>h.len l ((hmem l).1 hl),λl hl=>h.sub l ((hmem l).1 hl),λr hr=>sd (λx hx=>(hmem x).2 hx) (h.sup r hr),hre⟩,?_⟩;have hnd:=zi hre;unfold Srt;rw[z1w];intro a b ha hb hab;rw[aI,uM]at ha hb;have h1:=SR R a b hab (by omega);have e:∀(i:Nat)(hi:i<(xS R).length),pk (xS R) i=pvt (((xS R).map Prod.snd)[i]'(by simpa using hi)):=λi hi=>by
  unfold pk;rw[aH,aB hi,cG];rfl
 rw[e a (by rw[uM];exact ha),e b (by rw[uM];exact hb)]at h1;refine Nat.lt_of_le_of_ne h1 λhe=>?_;have h2:(((xS R).map Prod.snd).map pvt)[a]'(by simpa[uM]using ha)≠(((xS R).map Prod.snd).map pvt)[b]'(by simpa[uM]using hb):=z1w.1 hnd a b (by simpa[uM]using ha) (by simpa[uM]using hb) hab;exact h2 (by rw[cG,cG (f:=pvt)];exact he)
theorem XC{H:Nat}{o:Option D}(h:GD N H rows o)(hr:∀r,r∈rows→r.length=N):∃Q:List (Row×Bool),Q.map Prod.fst=rr N rows∧(∀q,q∈Q→q.1.length=N∧RH H q.1)∧(o=some (.own (Q.map mtD) Q.length 1)∨Q=[]∧o=some (.tree [] 0 true)):=by
 obtain⟨R,Q,h1,h2,h3,h4⟩:=h;refine⟨Q,?_,h3,h4⟩;rw[h2];have h5:=Ja hr;rw[←h1]at h5;exact Ej (Ny h5) (B5 hr) (λr hr=>n7 hr) (λr hr=>n7 hr)
theorem LP(hr:∀r,r∈rows→r.length=N)(i:Nat):((rows.take i).foldl uT []).length≤N:=by
 have h5:=Ja (N:=N) (rows:=rows.take i) λr h=>hr r (bw h);have:=O5 (N:=N) h5.red λe he=>by
  obtain⟨l,hl,rfl⟩:=aW.1 he;have:=Av (h5.red.lead hl);rw[h5.len l hl]at this;exact this
 rwa[aI]at this
end
section
variable {bs bs' bs2:List Blk} {i j k n m c w d N h J M:Nat} {ex ey:Bool} {s:LS} {K:D→LS→Rs} {kk:IntKind} {φ:Nat} {X Y T:D} {P Q W:List (Row×Bool)} {rows as:List Row} {l r t g a b:Row} {cs:List D} {l':Nat}
def Kpp(bs bs':List Blk):Prop:=∀(k:Nat)(b:Blk),bs[k]?=some b→b.st.live=true→∃b',bs'[k]?=some b'∧b'.cs=b.cs∧b'.st.live=true
theorem Kpp.rfl':Kpp bs bs:=λk b h hl=>⟨b,h,rfl,hl⟩
theorem Kpp.trans'(h:Kpp bs bs')(h':Kpp bs' bs2):Kpp bs bs2:=λk b hb hl=>by
 obtain⟨b1,g1,g2,g3⟩:=h k b hb hl;obtain⟨b2,e1,e2,e3⟩:=h' k b1 g1 g3;exact⟨b2,e1,by rw[e2,g2],e3⟩
theorem YX(h:∀(k:Nat)(b:Blk),bs[k]?=some b→bs'[k]?=some b):Kpp bs bs':=λk b hb hl=>⟨b,h k b hb,rfl,hl⟩
theorem yC(x:Blk):Kpp bs (bs++[x]):=λk b h hl=>⟨b,gY h,rfl,hl⟩
theorem F2{st st':Stt}(hb:bs[w]?=some ⟨cs,st⟩)(hl:st'.live=true):Kpp bs (bs.set w ⟨cs,st'⟩):=λk b h hl'=>by
 by_cases e:w=k
 ·subst e;rw[hb]at h;cases h;exact⟨⟨cs,st'⟩,ao (fE hb),rfl,hl⟩
 ·exact⟨b,gg e h,rfl,hl'⟩
inductive Rd (bs:List Blk):D→List D→Prop
 |mk {l n cm:Nat} {ex:Bool} {b:Blk} (h:bs[l]?=some b) (hl:b.st.live=true) (hc:b.cs.length=n):Rd bs (.sl l 0 n cm 1 ex) b.cs
theorem Rd.kp(h:Rd bs X cs)(hk:Kpp bs bs'):Rd bs' X cs:=by
 obtain⟨h1,h2,h3⟩:=h;obtain⟨b',g1,g2,g3⟩:=hk _ _ h1 h2;rw[←g2];exact Rd.mk g1 g3 (by rw[g2];exact h3)
theorem Rd.get{x:D}(h:Rd bs X cs)(hx:cs[i]?=some x):(eK 1 (mem bs) X (.i kk (.ofNat i)) λa s=>eJ s a K)=K x (mem bs):=by
 obtain⟨h1,h2,h3⟩:=h;exact Uz h1 h2 hx (by have:=fE hx;omega)
theorem Rd.len(h:Rd bs X cs):ek X s K=K (.i .i64 (.ofNat cs.length)) s:=by
 obtain⟨h1,h2,h3⟩:=h;rw[h3];exact AY
inductive AP (bs:List Blk):D→List D→Prop
 |f {l n cm:Nat} {st:Stt} {cs:List D} (h:bs[l]?=some ⟨cs,st⟩) (ho:ow st=true) (hc:cs.length=n):AP bs (.sl l 0 n cm 1 false) cs
 |t {l n:Nat} {cs:List D} (h:bs[l]?=some ⟨cs,.rw⟩) (hc:cs.length=n):AP bs (.sl l 0 n n 1 true) cs
theorem TF{st:Stt}(h:ow st=true):st.live=true:=by cases st<;>first|rfl|cases h
theorem AP.rd(h:AP bs X cs):Rd bs X cs:=by
 cases h with
 |f h ho hc=>exact Rd.mk h (TF ho) hc
 |t h hc=>exact Rd.mk h rfl hc
theorem YZ(h:KL bs X cs n)(h0:0<n):AP bs X cs:=by
 cases h with
 |nil=>omega
 |blk h hc=>exact AP.f h rfl hc
theorem Ym{x:D}{F:D→LS→Rs}(hb:bs[l']?=some ⟨cs,.rw⟩)(hc:cs.length=n)(hk:bs[k]?=some ⟨[x],.rw⟩)(h1:one x=true)(hl:n<1000000):mF 1 24 (mem bs) (.sl l' 0 n n 1 true) (.sl k 0 1 1 1 true) F=F (.sl bs.length 0 (n+1) (n+1) 1 false) (mem (bs++[⟨cs++[x],.rw⟩])):=by
 have hcell:∀F:List D→Nat→Rs,oQ 1 (mem bs) (.sl k 0 1 1 1 true) F=F [x] 1:=λF=>by
  rw[BN hk rfl (by simp)];rfl
 show oQ 1 (mem bs) (.sl k 0 1 1 1 true) _=_;rw[hcell];show jQ (mem bs) l' (λb=>cnd (wr b.st) (cnd (Nat.beq 1 1) (pi [x] (frc (Nat.add n 1) λtot=>cnd (Nat.ble (Nat.mul tot 24) 1099511627776) (cnd (Nat.ble tot 1099511627776) (cnd (Nat.ble tot n) (ur (Nat.add 0 (Nat.mul n 1)) [x] b.cs λcs=>oN (mem bs) l' ⟨cs,.rw⟩ λs=>F (.sl l' 0 tot n 1 true) s) (iz 0 b.cs λr=>iy (Nat.mul n 1) r λold=>l7 old [x] λcs=>cnd true (ku (mem bs) ⟨cs,.rw⟩ λs'=>F (.sl (mem bs).nx 0 tot tot 1 false) s') (oN (mem bs) l' ⟨[],.gone⟩ λs'=>ku s' ⟨cs,.rw⟩ λs'=>F (.sl (mem bs).nx 0 tot tot 1 false) s'))) none) none)) none) none)=_;rw[gu hb];show cnd true (cnd (Nat.beq 1 1) (pi [x] (frc (Nat.add n 1) λtot=>cnd (Nat.ble (Nat.mul tot 24) 1099511627776) (cnd (Nat.ble tot 1099511627776) (cnd (Nat.ble tot n) (ur (Nat.add 0 (Nat.mul n 1)) [x] cs λcs=>oN (mem bs) l' ⟨cs,.rw⟩ λs=>F (.sl l' 0 tot n 1 true) s) (iz 0 cs λr=>iy (Nat.mul n 1) r λold=>l7 old [x] λcs=>cnd true (ku (mem bs) ⟨cs,.rw⟩ λs'=>F (.sl (mem bs).nx 0 tot tot 1 false) s') (oN (mem bs) l' ⟨[],.gone⟩ λs'=>ku s' ⟨cs,.rw⟩ λs'=>F (.sl (mem bs).nx 0 tot tot 1 false) s'))) none) none)) none) none=_;rw[eL,ej,eL,qm (by simp[h1]),fA,show Nat.add n 1=n+1 from rfl,aF (show Nat.mul (n+1) 24≤_ by show(n+1)*24≤_;omega),aF (show n+1≤_ by omega),eL,eL,kY (show ¬n+1≤n by omega),e9,
  gB,aj,i9,show Nat.mul n 1=n from ai _,aC (by omega),aM (by omega),gT,eL,ln,js]
theorem apk(h:AP bs X (W.map mtD))(hl:W.length<1000000)(p:Row×Bool):∃bs' X',KL bs' X' ((W++[p]).map mtD) (W.length+1)∧Kpp bs bs'∧(jY 1 [.tree [] 0 true] [(0,1,mtD p)] (mem bs) λy s=>zA 1 24 s X y K)=K X' (mem bs'):=by
 have hb1:(bs++[(⟨[mtD p],.rw⟩:Blk)])[bs.length]?=some ⟨[mtD p],.rw⟩:=by simp
 have hbs:=λ(F:D→LS→Rs)=>NX (bs:=bs) (zero:=[.tree [] 0 true]) (x:=mtD p) (new:=[mtD p]) (z:=1) (K:=F) rfl rfl rfl rfl;have hcell:∀F:List D→Nat→Rs,oQ 1 (mem (bs++[⟨[mtD p],.rw⟩])) (.sl bs.length 0 1 1 1 true) F=F [mtD p] 1:=λF=>by
  rw[BN hb1 rfl (by simp)];rfl
 generalize hcs:W.map mtD=cs at h;have hn:cs.length=W.length:=by rw[←hcs,aI]
 cases h with
 | @f l n cm st _ hg ho hc=>
  have hnW:n=W.length:=by omega
  subst hnW;refine⟨(bs++[(⟨[mtD p],.rw⟩:Blk)]).set l ⟨cs,.frz⟩++[(⟨cs++[mtD p],.apd⟩:Blk)],.sl (bs++[(⟨[mtD p],.rw⟩:Blk)]).length 0 (W.length+1) (W.length+1) 1 false,?_,(yC _).trans' ((F2 (gY hg) rfl).trans' (yC _)),?_⟩
  ·rw[ak,hcs];refine KL.blk (cs:=cs++[mtD p]) (n:=W.length+1) ?_ (by simp;omega);rw[bN (by rw[bD];exact aD _),bD,cC];rfl
  ·rw[hbs];show oQ 1 (mem (bs++[⟨[mtD p],.rw⟩])) (.sl bs.length 0 1 1 1 true) _=_;rw[hcell,gu (gY hg)];show cnd (ow st) (cnd (Nat.beq 1 1) (pi [mtD p] (frc (Nat.add W.length 1) λtot=>cnd (Nat.ble (Nat.mul tot 24) 1099511627776) (cnd (Nat.ble tot 1099511627776) (cnd (Nat.beq (Nat.add 0 (Nat.mul W.length 1)) cs.length) (iz 0 cs λr=>iy (Nat.mul W.length 1) r λold=>l7 old [mtD p] λcs'=>oN (mem (bs++[⟨[mtD p],.rw⟩])) l ⟨cs,.frz⟩ λs'=>ku s' ⟨cs',.apd⟩ λs'=>K (.sl (mem (bs++[⟨[mtD p],.rw⟩])).nx 0 tot tot 1 false) s') none) none) none)) none) none=_;rw[ho,eL,ej,eL,qm rfl,fA,show Nat.add W.length 1=W.length+1 from rfl,aF (show Nat.mul (W.length+1) 24≤_ by show(W.length+1)*24≤_;omega),aF (show W.length+1≤_ by omega),eL,eL,
    show Nat.add 0 (Nat.mul W.length 1)=cs.length by show 0+W.length*1=_;omega,ej,eL,gB,aj,i9,show Nat.mul W.length 1=W.length from ai _,aC (by omega),aM (by omega),gT,pa (fE (gY hg)),ln,js]
 | @t l n _ hg hc=>
  have hnW:n=W.length:=by omega
  subst hnW;have hbb:(bs++[(⟨[mtD p],.rw⟩:Blk)]++[(⟨cs++[mtD p],.rw⟩:Blk)])[(bs++[(⟨[mtD p],.rw⟩:Blk)]).length]?=some ⟨cs++[mtD p],.rw⟩:=by rw[bN (aD _),cC];rfl
  refine⟨(bs++[(⟨[mtD p],.rw⟩:Blk)]++[(⟨cs++[mtD p],.rw⟩:Blk)]).set (bs++[(⟨[mtD p],.rw⟩:Blk)]).length ⟨cs++[mtD p],.apd⟩,.sl (bs++[(⟨[mtD p],.rw⟩:Blk)]).length 0 (W.length+1) (W.length+1) 1 false,?_,(yC _).trans' ((yC _).trans' (F2 hbb rfl)),?_⟩
  ·rw[ak,hcs];exact KL.blk (cs:=cs++[mtD p]) (n:=W.length+1) (ao (fE hbb)) (by simp;omega)
  ·rw[hbs];show mF 1 24 (mem (bs++[⟨[mtD p],.rw⟩])) (.sl l 0 W.length W.length 1 true) (.sl bs.length 0 1 1 1 true) (λd s=>match d with
    |.sl l off len cm z ex=>cnd (Nat.beq l (mem (bs++[⟨[mtD p],.rw⟩])).nx) (jQ s l λb=>cnd (ow b.st) (oN s l ⟨b.cs,.apd⟩ λs=>K (.sl l off len cm z ex) s) none) (K (.sl l off len cm z ex) s)
    |d=>K d s)=_
   rw[Ym (gY hg) hc hb1 rfl (by omega)];show(cnd (Nat.beq (bs++[(⟨[mtD p],.rw⟩:Blk)]).length (mem (bs++[⟨[mtD p],.rw⟩])).nx) (jQ (mem (bs++[⟨[mtD p],.rw⟩]++[⟨cs++[mtD p],.rw⟩])) (bs++[(⟨[mtD p],.rw⟩:Blk)]).length λb=>cnd (ow b.st) (oN (mem (bs++[⟨[mtD p],.rw⟩]++[⟨cs++[mtD p],.rw⟩])) (bs++[(⟨[mtD p],.rw⟩:Blk)]).length ⟨b.cs,.apd⟩ λs=>K (.sl (bs++[(⟨[mtD p],.rw⟩:Blk)]).length 0 (W.length+1) (W.length+1) 1 false) s) none) _)=_;rw[js,ej,eL,gu hbb];show cnd true (oN _ _ _ _) none=_;rw[eL,pa (fE hbb)]
theorem Y5{Mf:List D→Option D}(h:Rd bs X (W.map mtD)):∃e,∀(q:List D)(n':Nat),Mf [.tree (W.map mtD) W.length e]=some (.own q n' 1)→∃bs',Kpp bs bs'∧bs'[bs.length]?=some ⟨q,.rw⟩∧∀K,eR Mf [X] (mem bs) K=K (.sl bs.length 0 n' n' 1 false) (mem bs'):=by
 generalize hcs:W.map mtD=cs at h;cases h with
 | @mk l n cm ex b hb hl hc=>
  have hn:n=W.length:=by rw[←hc,←hcs,aI]
  subst hn;obtain⟨bcs,bst⟩:=b;have hcs:W.map mtD=bcs:=hcs;subst hcs;refine⟨cnd ex (Nat.beq cm W.length) false,λq n' hM=>⟨bs.set l ⟨W.map mtD,fzS bst⟩++[⟨q,.rw⟩],(F2 hb (by cases bst<;>first|rfl|cases hl)).trans' (yC _),by rw[bN (by rw[bD];exact aD _),bD,cC];rfl,λK=>?_⟩⟩;have h1:=OY (bs:=bs) (w:=l) (c:=cm) (ex:=ex) (P:=W) (n:=W.length) (F:=λy a=>l7 a [] λab=>ob (Mf [y]) λr=>ju (mem bs) ab r K) hb hl rfl;refine Eq.trans h1 ?_;rw[gT,hM,gN];unfold ju;rw[mU];show vR [l] (mem bs) (λs=>DP s (.own q n' 1) K)=_;rw[vt hb];show ku (mem (bs.set l ⟨W.map mtD,fzS bst⟩)) ⟨q,.rw⟩ (λs'=>K (.sl (mem (bs.set l ⟨W.map mtD,fzS bst⟩)).nx 0 n' n' 1 false) s')=_;rw[ln,js,bD]
theorem Cd{e0:Bool}(hn:r.length=d)(hd:1≤d)(hs:d<1000000000)(hφ:1000000000≤φ):∃e bs',(∀(k:Nat)(b:Blk),bs[k]?=some b→bs'[k]?=some b)∧∀K:D→LS→Rs,(eR (pP (fK φ)) [mtD (r,e0)] (mem bs) λx s=>eR (gF φ) [x] s K)=K (mtD (e8 r,e)) (mem bs'):=by
 have hcl:=K0 (φ:=φ) (l:=r) (ex:=e0) rfl (by intro e;rw[e]at hn;simp at hn;omega) (by omega);have hb:(bs++[(⟨rs r,.rw⟩:Blk)])[bs.length]?=some ⟨rs r,.rw⟩:=by simp
 obtain⟨e1,h1⟩:=JS (bs:=bs++[(⟨rs r,.rw⟩:Blk)]) (k:=bs.length) (c:=r.length) (ex:=false) (M:=gF φ) (l:=r) (n:=r.length) (K:=λ_ _=>none) hb (tX rfl) rfl rfl (λex'=>Ez rfl (by omega) (by omega));clear h1;have key:∃e bs',(∀(k:Nat)(b:Blk),bs[k]?=some b→bs'[k]?=some b)∧∀K:D→LS→Rs,eR (gF φ) [.sl bs.length 0 r.length r.length 3 false] (mem (bs++[⟨rs r,.rw⟩])) K=K (mtD (e8 r,e)) (mem bs'):=by
  obtain⟨e2,h2⟩:=Ez (φ:=φ) (l:=r) (n:=r.length) (ex:=cnd false (Nat.beq r.length r.length) false) rfl (by omega) (by omega);refine⟨e2,(bs++[(⟨rs r,.rw⟩:Blk)]).set bs.length ⟨rs r,fzS .rw⟩,λk b hk=>gg (by have:=fE hk;omega) (gY hk),λK=>?_⟩;show(jQ (mem (bs++[⟨rs r,.rw⟩])) bs.length λb=>cnd (lv b.st) (iz 0 b.cs λq=>iy (Nat.mul r.length 3) q λq=>nI (kJ (mem (bs++[⟨rs r,.rw⟩])) 59) q λcs ls=>mw (cnd false (Nat.beq r.length r.length) false) λex=>l7 (bs.length::ls) [] λab=>ob (gF φ [.tree cs r.length ex]) λv=>ju (mem (bs++[⟨rs r,.rw⟩])) ab v K) none)=_;rw[gu hb,sI];show cnd true (iz 0 (rs r) _) none=_;rw[eL,gB,aj,i9,show Nat.mul r.length 3=r.length*3 from rfl,aC (by rw[oa];exact aD _),tX rfl,FR _ (rW r),jC,gT];rw[h2,gN];unfold ju;rw[mU];show vR [bs.length] (mem (bs++[⟨rs r,.rw⟩])) (λs=>K (.tree (rs (e8 r)) (e8 r).length e2) s)=_;rw[vt hb];rfl
 obtain⟨e,bs',k1,k2⟩:=key;refine⟨e,bs',k1,λK=>?_⟩;refine th (xe hcl) ?_;rw[lX,js];exact k2 K
end
section
variable {bs bs' bs2:List Blk} {i j k n m c w d N h J M Da Na:Nat} {ex ey eg el er:Bool} {s:LS} {K:D→LS→Rs} {kk:IntKind} {φ:Nat} {X Y T:D} {P Q W A:List (Row×Bool)} {rows as:List Row} {l r t g a b:Row} {cs:List D}
theorem TQ(hG:EL g a d Da Na M)(hr:RH 6030 r)(hrl:r.length=d)(hφ:3000000000≤φ){e1 e2:Bool}:∃e,uX φ [.tree (rs g) (d+1) eg,.tree (rs (e8 r)) (e8 r).length e1,.tree (rs a) a.length e2]=some (.tree (rs (iL g (gP (e8 r) a))) (iL g (gP (e8 r) a)).length e):=by
 obtain⟨D,N,h0,h1,h2,h3⟩:=hr;have hp:=oJ r;have:=hG.hd;have:=hG.hd5;have:=hG.hal;have hb:MB (e8 r) a D N Da Na:=⟨BB h3,hG.ha,h0,hG.d0,ew h1 (by decide),ew h2 (by decide),ew hG.lD (by decide),ew hG.lN (by decide),ew (iB h1 hG.lD) (by decide),ew (iB (p7 (k:=2) (show(e8 r).length+1<2^3 by show _<8;omega)) (iB h2 hG.lN)) (by decide)⟩
 refine YE (φ:=φ) hb rfl rfl hG.hm (by omega) (by omega) (by omega) (by omega) hG.hg (by rw[a7];exact hG.h1) (ew hG.lM (by decide)) ?_ hφ;have h5:Lg 2 (e8 r).length:=p7 (br (show(e8 r).length≤5 by omega) (by decide));have h1M:Lg 41 (1+M):=wa (j:=40) (m:=1) (n:=M) (p7 (by decide)) hG.lM;refine ew (iB (iB h5 (iB h2 hG.lN)) (yA h1M (d+1))) ?_;have:(41+1)*(d+1)≤(41+1)*6:=aZ _ (by omega);show _≤200000000;omega
theorem Vo(hm:g.length=d+1)(hd:d≤5)(hφ:3000000000≤φ){e1:Bool}:∃e,ru φ [.tree (rs (iL g (gP (e8 r) a))) (iL g (gP (e8 r) a)).length e1,.i .i64 (.ofNat d)]=some (mtD (mr g a r,e)):=by
 obtain⟨e,he⟩:=YA (φ:=φ) (ex:=e1) (l:=iL g (gP (e8 r) a)) (n:=d) rfl (by omega) (by omega);refine⟨e,?_⟩;rw[he];unfold mtD mr;rw[hm,a7,iU]
theorem MI(hG:EL g a d Da Na M)(hr:RH 6030 r)(hrl:r.length=d)(hφ:3000000000≤φ){e2:Bool}(hY:AP bs Y (W.map mtD))(hW:W.length<1000000):
 ∃(e:Bool)(bs':List Blk)(Y':D),AP bs' Y' ((W++[(mr g a r,e)]).map mtD)∧Kpp bs bs'∧(eR (pP (fK φ)) [mtD (r,er)] (mem bs) λx45 s=>eR (gF φ) [x45] s λx46 s=>eR (uX φ) [.tree (rs g) (d+1) eg,x46,mtD (a,e2)] s λx47 s=>eR (ru φ) [x47,.i .i64 (.ofNat d)] s λx48 s=>jY 1 [(.tree [] 0 true)] [(0,1,x48)] s λx49 s=>zA 1 24 s Y x49 K)=K Y' (mem bs'):=by
 obtain⟨e3,b1,k1,h1⟩:=Cd (bs:=bs) (φ:=φ) (e0:=er) hrl hG.hd (by have:=hG.hd5;omega) (by omega);obtain⟨e4,h2⟩:=TQ (φ:=φ) (eg:=eg) (e1:=e3) (e2:=e2) hG hr hrl hφ;obtain⟨e5,h3⟩:=Vo (φ:=φ) (g:=g) (a:=a) (r:=r) (e1:=e4) hG.hm hG.hd5 hφ;have hY1:AP b1 Y (W.map mtD):=by
  generalize W.map mtD=cs at hY;cases hY with
  |f h ho hc=>exact AP.f (k1 _ _ h) ho hc
  |t h hc=>exact AP.t (k1 _ _ h) hc
 obtain⟨b2,Y',g1,g2,g3⟩:=apk (K:=K) hY1 hW (mr g a r,e5);refine⟨e5,b2,Y',YZ g1 (by omega),(YX k1).trans' g2,?_⟩;rw[h1];exact th (fP h2) (th (fP h3) g3)
theorem SW(hG:∀a,a∈A.map Prod.fst→∃D N,EL g a d D N M)(hr:RH 6030 r)(hrl:r.length=d)(hφ:3000000000≤φ)(hA:A.length<1000000){x33 x36 x37:D}{q16:D→D→D→D→D→D→D→D→LS→Rs}(hi:i<1000000):
 ∀(t j fu:Nat)(bs:List Blk)(Y:D)(W:List (Row×Bool)),j+t=A.length→t<fu→W.length+t<1000000→AP bs Y (W.map mtD)→
 ∃(bs':List Blk)(Y':D)(W':List (Row×Bool)),W'.map Prod.fst=W.map Prod.fst++((A.map Prod.fst).drop j).map (λa=>mr g a r)∧AP bs' Y' (W'.map mtD)∧Kpp bs bs'∧
  lp (λ(_ _ _ _ _ _ _ _ _ _ _ _:D)(_:LS)=>none) (rt φ q16) fu (.tree (rs g) (d+1) eg) (.tree (A.map mtD) A.length el) (.i .i64 (.ofNat d)) x33 Y (mtD (r,er)) x36 x37 (.i .i64 (.ofNat i)) (.tree (A.map mtD) A.length el) (.i .i64 (.ofNat A.length)) (.i .i64 (.ofNat j)) (mem bs)=
   q16 (.tree (rs g) (d+1) eg) (.tree (A.map mtD) A.length el) (.i .i64 (.ofNat d)) x33 Y' x36 x37 (.i .i64 (.ofNat (i+1))) (mem bs'):=by
 intro t
 induction t with
 |zero=>
  intro j fu bs Y W hj hf hW hY;obtain⟨fu,rfl⟩:∃q,fu=q+1:=⟨fu-1,by omega⟩
  refine⟨bs,Y,W,?_,hY,Kpp.rfl',?_⟩
  ·rw[dH (by rw[aI];omega)];simp
  ·rw[eO];unfold rt;exact th (fy (by omega)) (th eM (fM (by omega)))
 |succ t ih=>
  intro j fu bs Y W hj hf hW hY;obtain⟨fu,rfl⟩:∃q,fu=q+1:=⟨fu-1,by omega⟩
  have hjl:j<A.length:=by omega
  obtain⟨Da,Na,hel⟩:=hG (A[j].1) (ax (bK hjl));obtain⟨e,b1,Y1,g1,g2,g3⟩:=MI (φ:=φ) (eg:=eg) (er:=er) (e2:=A[j].2) (K:=λx50 s=>ee (.i .i64 (.ofNat j)) (.i .i64 (.ofNat 1)) λx51=>lp (λ(_ _ _ _ _ _ _ _ _ _ _ _:D)(_:LS)=>none) (rt φ q16) fu (.tree (rs g) (d+1) eg) (.tree (A.map mtD) A.length el) (.i .i64 (.ofNat d)) x33 x50 (mtD (r,er)) x36 x37 (.i .i64 (.ofNat i)) (.tree (A.map mtD) A.length el) (.i .i64 (.ofNat A.length)) x51 s) hel hr hrl hφ hY (by omega);obtain⟨b2,Y2,W2,w1,w2,w3,w4⟩:=ih (j+1) fu b1 Y1 (W++[(mr g A[j].1 r,e)]) (by omega) (by omega) (by simp;omega) g1;refine⟨b2,Y2,W2,?_,w2,g2.trans' w3,?_⟩
  ·rw[w1,ak];have hjm:j<(A.map Prod.fst).length:=by rw[aI];exact hjl
   rw[bZ hjm,bB,cG];simp
  ·rw[eO]
   conv=>lhs;unfold rt
   refine th (fk (by omega)) (th eP (th (t8 (d:=mtD A[j]) (by rw[au,aB hjl];rfl) (by rw[aI])) ?_));exact th g3 (th (fM (by omega)) w4)
def IT(φ:Nat)(q10:D→D→D→D→LS→Rs)(m list n X Y:D)(s:LS):Rs:=
 eR (lV φ) [Y] s λx53 s=>ek x53 s λx54 s=>ek X s λx55 s=>gx x54 x55 λx56=>eQ x56 (eR (lV φ) [X] s λx57 s=>ek x57 s λx58 s=>lp (λ(_ _ _ _:D)(_:LS)=>none) (po φ) φ (.tree [] 0 true) x57 x58 (.i .i64 (.ofNat 0)) s) (q10 m list n x53 s)
theorem KE(hG:∀a,a∈A.map Prod.fst→∃D N,EL g a d D N M)(hP:∀p,p∈P→p.1.length=d∧RH 6030 p.1)(hφ:3000000000≤φ)(hA:A.length<1000)(hPl:P.length<100){q10:D→D→D→D→LS→Rs}:
 ∀(t i fu:Nat)(bs:List Blk)(Y:D)(W:List (Row×Bool)),i+t=P.length→t<fu→W.length+t*A.length<1000000→Rd bs X (P.map mtD)→AP bs Y (W.map mtD)→
 ∃(bs':List Blk)(Y':D)(W':List (Row×Bool)),W'.map Prod.fst=W.map Prod.fst++((P.map Prod.fst).drop i).flatMap (λr=>(A.map Prod.fst).map λa=>mr g a r)∧AP bs' Y' (W'.map mtD)∧Kpp bs bs'∧
  lp (λ(_ _ _ _ _ _ _ _:D)(_:LS)=>none) (ro φ q10) fu (.tree (rs g) (d+1) eg) (.tree (A.map mtD) A.length el) (.i .i64 (.ofNat d)) X Y X (.i .i64 (.ofNat P.length)) (.i .i64 (.ofNat i)) (mem bs)=
   IT φ q10 (.tree (rs g) (d+1) eg) (.tree (A.map mtD) A.length el) (.i .i64 (.ofNat d)) X Y' (mem bs'):=by
 intro t
 induction t with
 |zero=>
  intro i fu bs Y W hi hf hW hX hY;obtain⟨fu,rfl⟩:∃q,fu=q+1:=⟨fu-1,by omega⟩
  refine⟨bs,Y,W,?_,hY,Kpp.rfl',?_⟩
  ·rw[dH (by rw[aI];omega)];simp
  ·rw[eO];unfold ro;exact th (fy (by omega)) eM
 |succ t ih=>
  intro i fu bs Y W hi hf hW hX hY;obtain⟨fu,rfl⟩:∃q,fu=q+1:=⟨fu-1,by omega⟩
  have hil:i<P.length:=by omega
  have hp:=hP P[i] (bK hil);have hmul:(t+1)*A.length=t*A.length+A.length:=cr _ _;obtain⟨b1,Y1,W1,w1,w2,w3,w4⟩:=SW (φ:=φ) (eg:=eg) (el:=el) (er:=P[i].2) (r:=P[i].1) (x33:=X) (x36:=X) (x37:=.i .i64 (.ofNat P.length)) (i:=i) (q16:=λa b c e f x36 x37 x52 s=>lp (λ(_ _ _ _ _ _ _ _:D)(_:LS)=>none) (ro φ q10) fu a b c e f x36 x37 x52 s) hG hp.2 hp.1 hφ (by omega) (by omega) A.length 0 φ bs Y W (by omega) (by omega) (by omega) hY;have hl1:=congrArg List.length w1;simp at hl1;obtain⟨b2,Y2,W2,v1,v2,v3,v4⟩:=ih (i+1) fu b1 Y1 W1 (by omega) (by omega) (by omega) (hX.kp w3) w2;refine⟨b2,Y2,W2,?_,v2,w3.trans' v3,?_⟩
  ·rw[v1,w1];have him:i<(P.map Prod.fst).length:=by rw[aI];exact hil
   rw[bZ him,List.flatMap_cons,cG,aj,bW]
  ·rw[eO]
   conv=>lhs;unfold ro
   refine th (fk (by omega)) (th eP (th (hX.get (x:=mtD P[i]) (by rw[au,aB hil];rfl)) (th fH ?_)));exact th w4 v4
theorem Y0(p:Row×Bool):∃bs' X',KL bs' X' ([p].map mtD) 1∧Kpp bs bs'∧(jY 1 [.tree [] 0 true] [(0,1,mtD p)] (mem bs) λy s=>zA 1 24 s (.tree [] 0 true) y K)=K X' (mem bs'):=by
 have hb1:(bs++[(⟨[mtD p],.rw⟩:Blk)])[bs.length]?=some ⟨[mtD p],.rw⟩:=by simp
 have hbs:=λ(F:D→LS→Rs)=>NX (bs:=bs) (zero:=[.tree [] 0 true]) (x:=mtD p) (new:=[mtD p]) (z:=1) (K:=F) rfl rfl rfl rfl;have hg:(bs++[(⟨[mtD p],.rw⟩:Blk)]++[⟨[mtD p],.rw⟩])[(bs++[(⟨[mtD p],.rw⟩:Blk)]).length]?=some ⟨[mtD p],.rw⟩:=by rw[bN (aD _),cC];rfl
 refine⟨(bs++[(⟨[mtD p],.rw⟩:Blk)]++[(⟨[mtD p],.rw⟩:Blk)]).set (bs++[(⟨[mtD p],.rw⟩:Blk)]).length ⟨[mtD p],.apd⟩,.sl (bs++[(⟨[mtD p],.rw⟩:Blk)]).length 0 1 1 1 false,KL.blk (ao (fE hg)) rfl,(yC _).trans' ((yC _).trans' (F2 hg rfl)),?_⟩;rw[hbs];show mF 1 24 (mem (bs++[⟨[mtD p],.rw⟩])) (.tree [] 0 true) (.sl bs.length 0 1 1 1 true) (λd s=>match d with
  |.sl l off len cm z ex=>cnd (Nat.beq l (mem (bs++[⟨[mtD p],.rw⟩])).nx) (jQ s l λb=>cnd (ow b.st) (oN s l ⟨b.cs,.apd⟩ λs=>K (.sl l off len cm z ex) s) none) (K (.sl l off len cm z ex) s)
  |d=>K d s)=_
 rw[Rg rfl hb1];show(cnd (Nat.beq (bs++[(⟨[mtD p],.rw⟩:Blk)]).length (mem (bs++[⟨[mtD p],.rw⟩])).nx) (jQ (mem (bs++[⟨[mtD p],.rw⟩]++[⟨[mtD p],.rw⟩])) (bs++[(⟨[mtD p],.rw⟩:Blk)]).length λb=>cnd (ow b.st) (oN (mem (bs++[⟨[mtD p],.rw⟩]++[⟨[mtD p],.rw⟩])) (bs++[(⟨[mtD p],.rw⟩:Blk)]).length ⟨b.cs,.apd⟩ λs=>K (.sl (bs++[(⟨[mtD p],.rw⟩:Blk)]).length 0 1 1 1 false) s) none) _)=_;rw[js,ej,eL,gu hg];show cnd true (oN _ _ _ _) none=_;rw[eL,pa (fE hg)]
theorem Wa(h:KL bs X (W.map mtD) W.length)(hl:W.length<1000000)(p:Row×Bool):∃bs' X',KL bs' X' ((W++[p]).map mtD) (W++[p]).length∧Kpp bs bs'∧(jY 1 [.tree [] 0 true] [(0,1,mtD p)] (mem bs) λy s=>zA 1 24 s X y K)=K X' (mem bs'):=by
 generalize hcs:W.map mtD=cs at h;generalize hn:W.length=n at h;cases h with
 |nil=>
  have:W=[]:=a8 hn;subst this;exact Y0 p
 |blk h hc=>
  subst hcs;rw[bF];exact apk (AP.f h rfl hc) hl p
theorem Vq(h:KL bs X (P.map mtD) P.length):∃e,eX true (mem bs) X some=some (.tree (P.map mtD) P.length e):=by
 generalize hcs:P.map mtD=cs at h;generalize hnn:P.length=nn at h;cases h with
 |nil=>exact⟨true,rfl⟩
 | @blk l _ _ hg hc=>
  subst hcs;refine⟨false&&nn==nn,?_⟩;unfold eX;rw[mU];show uw (nu true (mem bs).get fv (.sl l 0 nn nn 1 false)) some=_;have h1:res (mem bs).get 60 (.sl l 0 nn nn 1 false)=some (.tree (P.map mtD) nn (false&&nn==nn),[l]):=by
   refine uN (n:=59) (r:=P.map mtD) (ls:=[]) (by rw[mQ];exact hg) rfl ?_ ?_
   ·unfold cut;rw[aj,aM (by rw[aI];omega),aC (by rw[aI];omega)]
   ·have:∀P:List (Row×Bool),iP (res (mem bs).get 59) (P.map mtD)=some (P.map mtD,[]):=by
     intro P
     induction P with
     |nil=>rfl
     |cons p P ih=>
      rw[bB];unfold iP;rw[ih,show res (mem bs).get 59 (mtD p)=some (mtD p,[])from rfl];rfl
    exact this P
  have h2:tN true (mem bs).get 60 (.sl l 0 nn nn 1 false)=some (.tree (P.map mtD) nn (false&&nn==nn),[],[l]):=by
   show(match (mem bs).get l with
    |some b=>if b.st.wr then match cut 0 (nn*1) b.cs with
     |some r=>match iP (res (mem bs).get 60) r with
      |some (cs,ls)=>some (D.own cs nn 1,[l],ls)
      |none=>none
     |none=>none
     else yi (res (mem bs).get 60 (.sl l 0 nn nn 1 false))
    |none=>none)=_
   rw[mQ,hg];show(if Stt.wr .apd then _ else yi (res (mem bs).get 60 (.sl l 0 nn nn 1 false)))=_;rw[aE (by decide),h1];rfl
  have:nu true (mem bs).get fv (.sl l 0 nn nn 1 false)=some (.tree (P.map mtD) nn (false&&nn==nn)):=by
   show(match tN true (mem bs).get 60 (.sl l 0 nn nn 1 false)with
    |some (d,o,ls)=>if o.all λl=> !ls.contains l then some d else none
    |none=>none)=_
   rw[h2];rfl
  rw[this,gS];rfl
theorem SV(hP:∀p,p∈P→p.1.length=d)(hd:1≤d)(hd5:d≤5)(hPl:P.length<1000)(hφ:3000000000≤φ):
 ∀(t i fu:Nat)(bs:List Blk)(Y:D)(W:List (Row×Bool)),i+t=P.length→t<fu→Rd bs X (P.map mtD)→KL bs Y (W.map mtD) W.length→W.map Prod.fst=((P.map Prod.fst).take i).map e8→
 ∃(Q:List (Row×Bool))(e:Bool),Q.map Prod.fst=(P.map Prod.fst).map e8∧lp (λ(_ _ _ _:D)(_:LS)=>none) (po φ) fu Y X (.i .i64 (.ofNat P.length)) (.i .i64 (.ofNat i)) (mem bs)=some (.tree (Q.map mtD) Q.length e):=by
 intro t
 induction t with
 |zero=>
  intro i fu bs Y W hi hf hX hY hW;obtain⟨fu,rfl⟩:∃q,fu=q+1:=⟨fu-1,by omega⟩
  obtain⟨e,he⟩:=Vq hY;refine⟨W,e,?_,?_⟩
  ·rw[hW,aM (by rw[aI];omega)]
  ·rw[eO];unfold po;exact th (fy (by omega)) (th eM he)
 |succ t ih=>
  intro i fu bs Y W hi hf hX hY hW;obtain⟨fu,rfl⟩:∃q,fu=q+1:=⟨fu-1,by omega⟩
  have hil:i<P.length:=by omega
  have him:i<(P.map Prod.fst).length:=by rw[aI];exact hil
  have hWl:=congrArg List.length hW;simp at hWl;obtain⟨e1,b1,k1,h1⟩:=Cd (bs:=bs) (φ:=φ) (e0:=P[i].2) (r:=P[i].1) (hP P[i] (bK hil)) hd (by omega) (by omega);have hY1:KL b1 Y (W.map mtD) W.length:=by
   generalize W.map mtD=cs at hY;generalize W.length=n at hY;cases hY with
   |nil=>exact KL.nil
   |blk h hc=>exact KL.blk (k1 _ _ h) hc
  obtain⟨b2,Y2,g1,g2,g3⟩:=Wa (K:=λx70 s=>ee (.i .i64 (.ofNat i)) (.i .i64 (.ofNat 1)) λx71=>lp (λ(_ _ _ _:D)(_:LS)=>none) (po φ) fu x70 X (.i .i64 (.ofNat P.length)) x71 s) hY1 (by omega) (e8 P[i].1,e1);obtain⟨Q,e,q1,q2⟩:=ih (i+1) fu b2 Y2 (W++[(e8 P[i].1,e1)]) (by omega) (by omega) ((hX.kp (YX k1)).kp g2) g1 (by
   rw[ak,hW,c9 him,ak,cG];rfl)
  refine⟨Q,e,q1,?_⟩;rw[eO]
  conv=>lhs;unfold po
  refine th (fk (by omega)) (th eP (th (hX.get (x:=mtD P[i]) (by rw[au,aB hil];rfl)) ?_));refine th (h1 _) ?_;exact th g3 (th (fM (by omega)) q2)
end
section
variable {bs bs' bs2:List Blk} {i j k n m c w d N h J M Da Na T:Nat} {ex ey eg el er:Bool} {s:LS} {K:D→LS→Rs} {kk:IntKind} {φ:Nat} {X Y:D} {P Q W A:List (Row×Bool)} {rows as E:List Row} {l r t g a b:Row} {cs:List D}
theorem QQ(h:Ind rows)(hi:i<rows.length):¬Sp (rows.take i) (ent rows[i]):=by
 intro hs;obtain⟨cs,h1,h2⟩:=OA hs;have e:rows=rows.take i++rows[i]::rows.drop (i+1):=by rw[←bZ hi,cO]
 have hl:(cs++(-1)::List.replicate (rows.drop (i+1)).length (0:Rat)).length=rows.length:=by
  rw[bF,ay,du,h1,ah,cp];omega
 have:=h _ hl (λj=>by
  have h3:lc (cs++(-1)::List.replicate (rows.drop (i+1)).length (0:Rat)) (rows.take i++rows[i]::rows.drop (i+1)) j=0:=by
   rw[FZ _ _ _ _ _ _ h1,CA,←h2 j];grind
  rwa[←e]at h3) (-1) (by simp)
 exact absurd this (by decide)
theorem Wm(h:Ind rows)(hr:∀r,r∈rows→r.length=N):rows.length≤N:=by
 have key:∀i,i≤rows.length→(ech (rows.take i)).length=i:=by
  intro i
  induction i with
  |zero=>intro _;rfl
  |succ i ih=>
   intro hi;have h1:=ih (by omega);have hil:i<rows.length:=by omega
   rw[c9 hil];have e1:ech (rows.take i++[rows[i]])=uT (ech (rows.take i)) rows[i]:=by unfold ech;rw[dR];rfl
   rw[e1,NQ (Ja λr hr'=>hr r (bw hr')) (hr _ (bK hil)) (QQ h hil),h1]
 have h1:=key rows.length (aD _);have h2:=LP hr rows.length;show rows.length≤N;have h3:(ech (rows.take rows.length)).length≤N:=h2;omega
theorem wT(hM:GM g as d M)(t:Nat):∀r,r∈stp g as t→r.length=d∧RH 6030 r:=by
 intro r hr;obtain⟨B,hB⟩:=Nw hM t;obtain⟨rows,hR⟩:=z8 hM.gl t;have:=Wm hB.ind (N:=d) (λq hq=>by
  obtain⟨x,hx,rfl⟩:=aW.1 hq;exact(hB.mon x hx).2)
 rw[aI]at this;have:=hM.hd5;exact⟨Aq hM.gl t r hr,S4 hB hR.ei.red (by omega) hr⟩
theorem PZ(hM:GM g as d M)(hE:∀r,r∈E→r.length=d∧RH 6030 r):∀r,r∈nx g as E→r.length=d∧RH 7000 r:=by
 intro r hr;rcases am.1 hr with hr|hr
 ·exact⟨(hE r hr).1,rX (hE r hr).2 (by decide)⟩
 ·obtain⟨q,hq,hr⟩:=dU.1 hr;obtain⟨a,ha,rfl⟩:=aW.1 hr;obtain⟨Da,Na,hel⟩:=hM.el a ha;obtain⟨hl,D,N,h0,h1,h2,h3⟩:=hE q hq;exact⟨hM.gl.len,D*Da,N*pwc d Na M,cW h0 hel.d0,ew (iB h1 hel.lD) (by decide),ew (iB h2 hel.lc) (by decide),VH hel h3 hl⟩
theorem C6(hY:Rd bs Y (W.map mtD))(hd:1≤d)(hd5:d≤5)(hW:∀q,q∈W→q.1.length=d∧RH 7000 q.1)(hWl:W.length<1000000)(hne:rr d (W.map Prod.fst)≠[])(hφ:3000000000≤φ):
 ∃(Q:List (Row×Bool))(bs':List Blk),Q.map Prod.fst=rr d (W.map Prod.fst)∧Kpp bs bs'∧bs'[bs.length]?=some ⟨Q.map mtD,.rw⟩∧∀K,eR (lV φ) [Y] (mem bs) K=K (.sl bs.length 0 Q.length Q.length 1 false) (mem bs'):=by
 obtain⟨e,he⟩:=Y5 (Mf:=lV φ) hY;have hr:∀r,r∈W.map Prod.fst→r.length=d:=λr hr=>by
  obtain⟨q,hq,rfl⟩:=aW.1 hr;exact(hW q hq).1
 have h1:=PF (φ:=φ) (P:=W) (n:=W.length) (N:=d) (h:=7000) (J:=5) (e:=e) hφ (by omega) (by omega) hW rfl hWl (λi _=>bT (LP hr i) hd5) (by decide) (by decide);obtain⟨Q,q1,q2,q3⟩:=XC h1 hr;rcases q3 with q3|⟨q3,_⟩
 ·obtain⟨b1,k1,k2,k3⟩:=he _ _ q3;exact⟨Q,b1,q1,k1,k2,k3⟩
 ·rw[q3]at q1;exact absurd q1.symm hne
theorem xE(h:GL' g as d):∀t,1≤(stp g as t).length
 |0=>by rw[y7 h];exact aD _
 |t+1=>bT (xE h t) (GS h t)
theorem VQ{a b:Nat}{k:D→Rs}:gx (.i .i64 (.ofNat a)) (.i .i64 (.ofNat b)) k=k (.b (Nat.beq a b)):=by rw[pb]
theorem SU(hM:GM g (A.map Prod.fst) d M)(hA:A.length<1000)(hφ:3000000000≤φ)(hT1:stp g (A.map Prod.fst) (T+1)=stp g (A.map Prod.fst) T)(hT2:∀s,s<T→(stp g (A.map Prod.fst) s).length<(stp g (A.map Prod.fst) (s+1)).length):
 ∀(u t fu:Nat)(bs:List Blk)(X:D)(P:List (Row×Bool)),t+u=T→u<fu→AP bs X (P.map mtD)→P.map Prod.fst=stp g (A.map Prod.fst) t→
 ∃(Q:List (Row×Bool))(e:Bool),Q.map Prod.fst=(stp g (A.map Prod.fst) T).map e8∧lp (λ(_ _ _ _:D)(_:LS)=>none) (pj φ) fu (.tree (rs g) (d+1) eg) (.tree (A.map mtD) A.length el) (.i .i64 (.ofNat d)) X (mem bs)=some (.tree (Q.map mtD) Q.length e):=by
 have hd5:=hM.hd5;have hd:=hM.gl.hd;intro u
 induction u with
 |zero=>
  intro t fu bs X P ht hf hX hP;obtain⟨fu,rfl⟩:∃q,fu=q+1:=⟨fu-1,by omega⟩
  have htT:t=T:=by omega
  subst htT;have hPr:∀p,p∈P→p.1.length=d∧RH 6030 p.1:=λp hp=>wT hM t p.1 (by rw[←hP];exact ax hp);have hPl:P.length=(stp g (A.map Prod.fst) t).length:=by rw[←hP,aI]
  have:=B0 hM.gl t;have:=xE hM.gl t;have hmul:P.length*A.length≤5*A.length:=aL _ (by omega);obtain⟨b1,Y1,W1,w1,w2,w3,w4⟩:=KE (φ:=φ) (eg:=eg) (el:=el) (A:=A) (P:=P) (X:=X) (q10:=λa b c x s=>lp (λ(_ _ _ _:D)(_:LS)=>none) (pj φ) fu a b c x s) hM.el hPr hφ hA (by omega) P.length 0 φ bs X P (by omega) (by omega) (by omega) hX.rd hX;have hW1:W1.map Prod.fst=nx g (A.map Prod.fst) (stp g (A.map Prod.fst) t):=by rw[w1,hP,aj];rfl
  have hWr:∀q,q∈W1→q.1.length=d∧RH 7000 q.1:=λq hq=>PZ hM (wT hM t) q.1 (by rw[←hW1];exact ax hq);have hrr:rr d (W1.map Prod.fst)=stp g (A.map Prod.fst) (t+1):=by
   rw[hW1];show _=rr (g.length-1) _;rw[show g.length-1=d by rw[hM.gl.hm];rfl]
  have hl1:=congrArg List.length w1;rw[bF,aI,aI,z1e]at hl1;have hWl:W1.length<1000000:=by
   have e1:(List.map (λr=>((A.map Prod.fst).map λa=>mr g a r).length) ((P.map Prod.fst).drop 0)).sum=P.length*A.length:=by
    rw[aj,cE];have:∀L:List (Row×Bool),(L.map ((λr=>((A.map Prod.fst).map λa=>mr g a r).length)∘Prod.fst)).sum=L.length*A.length:=by
     intro L
     induction L with
     |nil=>simp
     |cons x L ih=>rw[bB,eE,ih,ay,cr];simp;omega
    exact this P
   omega
  obtain⟨Q1,b2,q1,q2,q3,q4⟩:=C6 (φ:=φ) (W:=W1) w2.rd hd hd5 hWr hWl (by rw[hrr];intro e;have:=xE hM.gl (t+1);rw[e]at this;simp at this) hφ;have hX2:=(hX.rd.kp w3).kp q2;have hQ1:Q1.length=P.length:=by rw[hPl,←hT1,←hrr,←q1,aI]
  obtain⟨Q2,b3,r1,r2,r3,r4⟩:=C6 (φ:=φ) (W:=P) hX2 hd hd5 (λq hq=>⟨(hPr q hq).1,rX (hPr q hq).2 (by decide)⟩) (by omega) (by
   obtain⟨rows,hR⟩:=z8 hM.gl t;rw[hP,Ek hR];intro e;rw[e]at this;simp at this) hφ
  have hQ2:Q2.map Prod.fst=stp g (A.map Prod.fst) t:=by
   obtain⟨rows,hR⟩:=z8 hM.gl t;rw[r1,hP,Ek hR]
  have hQ2l:Q2.length=P.length:=by rw[hPl,←hQ2,aI]
  obtain⟨Q,e,z1,z2⟩:=SV (φ:=φ) (P:=Q2) (d:=d) (X:=.sl b2.length 0 Q2.length Q2.length 1 false) (λp hp=>(wT hM t p.1 (by rw[←hQ2];exact ax hp)).1) hd hd5 (by omega) hφ Q2.length 0 φ b3 (.tree [] 0 true) [] (by omega) (by omega) (Rd.mk r3 rfl (by rw[aI])) KL.nil rfl;refine⟨Q,e,by rw[z1,hQ2],?_⟩;rw[eO];unfold pj;refine th hX.rd.len ?_;rw[aI];refine th w4 ?_;unfold IT;refine th (q4 _) (th AY (th hX2.len ?_));rw[aI];refine th VQ ?_;rw[hQ1,ej];exact th eP (th (r4 _) (th AY z2))
 |succ u ih=>
  intro t fu bs X P ht hf hX hP;obtain⟨fu,rfl⟩:∃q,fu=q+1:=⟨fu-1,by omega⟩
  have hPr:∀p,p∈P→p.1.length=d∧RH 6030 p.1:=λp hp=>wT hM t p.1 (by rw[←hP];exact ax hp);have hPl:P.length=(stp g (A.map Prod.fst) t).length:=by rw[←hP,aI]
  have:=B0 hM.gl t;have:=xE hM.gl t;have hmul:P.length*A.length≤5*A.length:=aL _ (by omega);obtain⟨b1,Y1,W1,w1,w2,w3,w4⟩:=KE (φ:=φ) (eg:=eg) (el:=el) (A:=A) (P:=P) (X:=X) (q10:=λa b c x s=>lp (λ(_ _ _ _:D)(_:LS)=>none) (pj φ) fu a b c x s) hM.el hPr hφ hA (by omega) P.length 0 φ bs X P (by omega) (by omega) (by omega) hX.rd hX;have hW1:W1.map Prod.fst=nx g (A.map Prod.fst) (stp g (A.map Prod.fst) t):=by rw[w1,hP,aj];rfl
  have hWr:∀q,q∈W1→q.1.length=d∧RH 7000 q.1:=λq hq=>PZ hM (wT hM t) q.1 (by rw[←hW1];exact ax hq);have hrr:rr d (W1.map Prod.fst)=stp g (A.map Prod.fst) (t+1):=by
   rw[hW1];show _=rr (g.length-1) _;rw[show g.length-1=d by rw[hM.gl.hm];rfl]
  have hl1:=congrArg List.length w1;rw[bF,aI,aI,z1e]at hl1;have hWl:W1.length<1000000:=by
   have e1:(List.map (λr=>((A.map Prod.fst).map λa=>mr g a r).length) ((P.map Prod.fst).drop 0)).sum=P.length*A.length:=by
    rw[aj,cE];have:∀L:List (Row×Bool),(L.map ((λr=>((A.map Prod.fst).map λa=>mr g a r).length)∘Prod.fst)).sum=L.length*A.length:=by
     intro L
     induction L with
     |nil=>simp
     |cons x L ih=>rw[bB,eE,ih,ay,cr];simp;omega
    exact this P
   omega
  obtain⟨Q1,b2,q1,q2,q3,q4⟩:=C6 (φ:=φ) (W:=W1) w2.rd hd hd5 hWr hWl (by rw[hrr];intro e;have:=xE hM.gl (t+1);rw[e]at this;simp at this) hφ;have hX2:=(hX.rd.kp w3).kp q2;have hgrow:=hT2 t (by omega);have hQ1:Q1.length=(stp g (A.map Prod.fst) (t+1)).length:=by rw[←hrr,←q1,aI]
  obtain⟨Q,e,z1,z2⟩:=ih (t+1) fu b2 (.sl b1.length 0 Q1.length Q1.length 1 false) Q1 (by omega) (by omega) (AP.f q3 rfl (by rw[aI])) (by rw[q1,hrr]);refine⟨Q,e,z1,?_⟩;rw[eO]
  conv=>lhs;unfold pj
  refine th hX.rd.len ?_;rw[aI];refine th w4 ?_;unfold IT;refine th (q4 _) (th AY (th hX2.len ?_));rw[aI];refine th VQ ?_;rw[gG (by omega)];exact th eM z2
theorem Xx(hM:GM g (A.map Prod.fst) d M)(h0:EL g [] d 1 1 M)(hA:A.length<1000)(hφ:3000000000≤φ)(hT1:stp g (A.map Prod.fst) (T+1)=stp g (A.map Prod.fst) T)(hT2:∀s,s<T→(stp g (A.map Prod.fst) s).length<(stp g (A.map Prod.fst) (s+1)).length)(hTd:T≤d):
 ∃(Q:List (Row×Bool))(e:Bool),Q.map Prod.fst=(stp g (A.map Prod.fst) T).map e8∧sc φ [.tree (rs g) (d+1) eg,.tree (A.map mtD) A.length el]=some (.tree (Q.map mtD) Q.length e):=by
 have hd5:=hM.hd5;have hd:=hM.gl.hd;obtain⟨e1,b1,h1⟩:=ZV (φ:=φ) (eg:=eg) h0 hφ;obtain⟨e2,h2⟩:=Xz (φ:=φ) (j:=0) (e1:=e1) h0 hφ;have hone:PI g [] 0=sQ g:=by
  have hpt:Pt ([1]:Row):=FB (g:=g) (a:=[]) 0;have hpre:iL g [1]=[1]:=by
   unfold iL;rw[h0.hm,show([1]:Row).length+1-(d+1)=0 by show 1+1-(d+1)=0;omega];show e8 (lst (d+1-1) (ent [1]))=[1]
   conv=>rhs;rw[←show e8 [1]=[1]from hpt]
   refine oK λi=>?_;rw[kM];split
   ·rfl
   ·rw[gL (by show 1≤i;omega)]
  unfold PI sQ;rw[hpre];rfl
 rw[hone]at h2;have hb:(b1++[(⟨[mtD (sQ g,e2)],.rw⟩:Blk)])[b1.length]?=some ⟨[mtD (sQ g,e2)],.rw⟩:=by simp
 obtain⟨Q,e,z1,z2⟩:=SU (φ:=φ) (eg:=eg) (el:=el) (A:=A) hM hA hφ hT1 hT2 T 0 φ (b1++[(⟨[mtD (sQ g,e2)],.rw⟩:Blk)]) (.sl b1.length 0 1 1 1 true) [(sQ g,e2)] (by omega) (by omega) (AP.t hb rfl) (by rw[y7 hM.gl];rfl);refine⟨Q,e,z1,?_⟩;unfold sc;dsimp only[eV,eZ];rw[←fm];refine th fH (th (gR (by omega) (by omega)) ?_);rw[a7];refine th (h1 _) (th (fP h2) (th (NX rfl rfl rfl rfl) ?_));exact z2
end
section
variable {bs bs' bs2:List Blk} {i j k n m c w d N h J M Da Na T:Nat} {ex ey eg el er:Bool} {s:LS} {K:D→LS→Rs} {kk:IntKind} {φ:Nat} {X Y:D} {P Q W A L:List (Row×Bool)} {rows as E:List Row} {l r t g a b:Row} {cs:List D}
theorem Ol(hn:l.length=n)(hs:n<1000000000)(hφ:1000000000≤φ):∃e,lC φ [.tree (rs l) n ex]=some (.tree (rs (e8 l)) (e8 l).length e):=by
 have hb:([]++[(⟨rs (e8 l),.rw⟩:Blk)])[([]:List Blk).length]?=some ⟨rs (e8 l),.rw⟩:=rfl;obtain⟨e,he⟩:=Em (bs:=[]++[(⟨rs (e8 l),.rw⟩:Blk)]) (k:=([]:List Blk).length) (c:=(e8 l).length) (ex:=false) (own:=false) rfl hb rfl rfl rfl;refine⟨e,?_⟩;unfold lC;dsimp only[eV,eZ];rw[←fm];refine th (xe (Od (ex:=ex) hn hs hφ)) ?_;rw[lX,js];exact he
theorem Yn(h:AS 1 bs X (P.map mtD) P.length)(hl:P.length<1000000)(h0:kI X 0){b:Blk}(hb:bs[0]?=some b)(p:Row×Bool):∃bs' X',AS 1 bs' X' ((P++[p]).map mtD) (P++[p]).length∧kI X' 0∧bs'[0]?=some b∧(jY 1 [.tree [] 0 true] [(0,1,mtD p)] (mem bs) λy s=>mF 1 24 s X y K)=K X' (mem bs'):=by
 obtain⟨b1,X1,g1,g2,g3⟩:=ap1 (bytes:=24) (zero:=[.tree [] 0 true]) (x:=mtD p) (new:=[mtD p]) (K:=K) h rfl rfl rfl rfl (by omega) (by omega);obtain⟨g4,g5⟩:=g2 0 b h0 hb;exact⟨b1,X1,by rw[ak,bF];exact g1,g5,g4,g3⟩
theorem Y6{Mf:List D→Option D}(h:AS 1 bs X (P.map mtD) P.length):∃e,∀(r1 r2:List D)(n1 n2:Nat)(x1 x2:Bool),Mf [.tree (P.map mtD) P.length e]=some (.tup [.tree r1 n1 x1,.tree r2 n2 x2])→∃bs',∀K,eR Mf [X] (mem bs) K=K (.tup [.tree r1 n1 x1,.tree r2 n2 x2]) (mem bs'):=by
 generalize hcs:P.map mtD=cs at h;generalize hnn:P.length=nn at h;cases h with
 |nil=>exact⟨true,λr1 r2 n1 n2 x1 x2 hM=>⟨bs,λK=>fP hM⟩⟩
 | @blk l _ _ hg hc=>
  subst hcs;subst hnn;refine⟨cnd false (Nat.beq P.length P.length) false,λr1 r2 n1 n2 x1 x2 hM=>⟨bs.set l ⟨P.map mtD,fzS .rw⟩,λK=>?_⟩⟩;have h1:=OY (bs:=bs) (w:=l) (c:=P.length) (ex:=false) (F:=λy a=>l7 a [] λab=>ob (Mf [y]) λr=>ju (mem bs) ab r K) hg rfl rfl;refine Eq.trans h1 ?_;rw[gT,hM,gN];unfold ju;rw[mU];show vR [l] (mem bs) (λs=>K (.tup [.tree r1 n1 x1,.tree r2 n2 x2]) s)=_;rw[vt hg]
theorem OL(hP:∀p,p∈P→p.1.length=d)(hd5:d≤5)(hPl:P.length<1000)(hφ:3000000000≤φ):
 ∀(t i fu:Nat)(bs:List Blk)(Y:D)(W:List (Row×Bool)),i+t=P.length→t<fu→AS 1 bs Y (W.map mtD) W.length→W.map Prod.fst=((P.map Prod.fst).take i).map e8→
 ∃(Q:List (Row×Bool))(e:Bool),Q.map Prod.fst=(P.map Prod.fst).map e8∧lp (λ(_ _ _ _:D)(_:LS)=>none) (lA φ) fu Y (.tree (P.map mtD) P.length ex) (.i .i64 (.ofNat P.length)) (.i .i64 (.ofNat i)) (mem bs)=some (.tree (Q.map mtD) Q.length e):=by
 intro t
 induction t with
 |zero=>
  intro i fu bs Y W hi hf hY hW;obtain⟨fu,rfl⟩:∃q,fu=q+1:=⟨fu-1,by omega⟩
  obtain⟨e,he⟩:=ZL hY;refine⟨W,e,?_,?_⟩
  ·rw[hW,aM (by rw[aI];omega)]
  ·rw[eO];unfold lA;exact th (fy (by omega)) (th eM he)
 |succ t ih=>
  intro i fu bs Y W hi hf hY hW;obtain⟨fu,rfl⟩:∃q,fu=q+1:=⟨fu-1,by omega⟩
  have hil:i<P.length:=by omega
  have him:i<(P.map Prod.fst).length:=by rw[aI];exact hil
  have hWl:=congrArg List.length hW;simp at hWl;have hpi:=hP P[i] (bK hil);obtain⟨e1,h1⟩:=Ol (φ:=φ) (l:=P[i].1) (n:=P[i].1.length) (ex:=P[i].2) rfl (by omega) (by omega);obtain⟨b2,Y2,g1,g4⟩:=apT (K:=λx33 s=>ee (.i .i64 (.ofNat i)) (.i .i64 (.ofNat 1)) λx34=>lp (λ(_ _ _ _:D)(_:LS)=>none) (lA φ) fu x33 (.tree (P.map mtD) P.length ex) (.i .i64 (.ofNat P.length)) x34 s) hY (by omega) (e8 P[i].1,e1);obtain⟨Q,e,q1,q2⟩:=ih (i+1) fu b2 Y2 (W++[(e8 P[i].1,e1)]) (by omega) (by omega) g1 (by
   rw[ak,hW,c9 him,ak,cG];rfl)
  refine⟨Q,e,q1,?_⟩;rw[eO]
  conv=>lhs;unfold lA
  refine th (fk (by omega)) (th eP (th (t8 (d:=mtD P[i]) (by rw[au,aB hil];rfl) (by rw[aI])) ?_));exact th (fP h1) (th g4 (th (fM (by omega)) q2))
theorem TN{cs:List D}{n:Nat}{e:Bool}:kI (.tree cs n e) k:=λo n m z e h=>by cases h
def xU(d:Nat)(L:List (Row×Bool)):List Row:=L.map λp=>lst d (ent p.1)
theorem OK(hG:KF g (d+1) M)(hd:1≤d)(hd5:d≤5)(hL:∀p,p∈L→RH 7000 (lst d (ent p.1)))(hLl:L.length≤1000)(hL0:0<L.length)(hφ:3000000000≤φ):
 ∀(t i fu:Nat)(bs:List Blk)(Y:D)(W:List (Row×Bool)),i+t=L.length→t<fu→AS 1 bs Y (W.map mtD) W.length→kI Y 0→bs[0]?=some ⟨[.tree (rs g) g.length ey],.rw⟩→W.map Prod.fst=(xU d L).take i→
 ∃(Q:List (Row×Bool))(e:Bool),Q.map Prod.fst=(rr d (xU d L)).map e8∧lp (λ(_ _ _ _ _:D)(_:LS)=>none) (kz φ) fu (.ptr 0 0) Y (.tree (L.map mtD) L.length el) (.i .i64 (.ofNat L.length)) (.i .i64 (.ofNat i)) (mem bs)=some (.tree (Q.map mtD) Q.length e):=by
 intro t
 induction t with
 |zero=>
  intro i fu bs Y W hi hf hY hn0 hb0 hW;obtain⟨fu,rfl⟩:∃q,fu=q+1:=⟨fu-1,by omega⟩
  have hWr:W.map Prod.fst=xU d L:=by rw[hW,aM (by unfold xU;rw[aI];omega)]
  have hWl:W.length=L.length:=by have:=congrArg List.length hWr;unfold xU at this;simpa using this
  obtain⟨e,he⟩:=Y6 (Mf:=jg φ) hY;have hWp:∀p,p∈W→p.1.length=d∧RH 7000 p.1:=λp hp=>by
   have:p.1∈xU d L:=by rw[←hWr];exact ax hp
   obtain⟨q,hq,hqe⟩:=aW.1 this;rw[←hqe];exact⟨iU,hL q hq⟩
  obtain⟨Q1,e1,e2,c1,c2,c3⟩:=On (φ:=φ) (P:=W) (N:=d) (h:=7000) (n:=W.length) (e:=e) (by omega) (by omega) hWp rfl (by omega) (by omega) (by
   have:∀d,d≤5→hg2 7000 d≤KB:=by
    intro d hd
    match d,hd with
    |0,_=>decide
    |1,_=>decide
    |2,_=>decide
    |3,_=>decide
    |4,_=>decide
    |5,_=>decide
   exact this d hd5)
  obtain⟨b1,k1⟩:=he _ _ _ _ _ _ c3;have hQ1:Q1.length≤5:=by
   have h1:=congrArg List.length c1;rw[aI,aI]at h1;have h2:=(B5 (N:=d) (rows:=W.map Prod.fst) (λr hr=>by
    obtain⟨q,hq,rfl⟩:=aW.1 hr;exact(hWp q hq).1)).len_le
   unfold rr at h2;rw[aI]at h2;omega
  obtain⟨Q,e',z1,z2⟩:=OL (φ:=φ) (P:=Q1) (d:=d) (ex:=e1) (λp hp=>(c2 p hp).1) hd5 (by omega) hφ Q1.length 0 φ b1 (.tree [] 0 true) [] (by omega) (by omega) AS.nil rfl;refine⟨Q,e',?_,?_⟩
  ·rw[z1,c1,hWr];rfl
  ·rw[eO];unfold kz;refine th (fy (by omega)) (th eM (th (k1 _) ?_));exact z2
 |succ t ih=>
  intro i fu bs Y W hi hf hY hn0 hb0 hW;obtain⟨fu,rfl⟩:∃q,fu=q+1:=⟨fu-1,by omega⟩
  have hil:i<L.length:=by omega
  have him:i<(xU d L).length:=by unfold xU;rw[aI];exact hil
  have hWl:=congrArg List.length hW;simp[xU]at hWl;obtain⟨e1,h1⟩:=ZO (φ:=φ) (ex:=L[i].2) (ey:=ey) (l:=L[i].1) (n:=L[i].1.length) hG rfl (by omega);rw[a7]at h1;obtain⟨b2,Y2,g1,g2,g3,g4⟩:=Yn (K:=λx17 s=>ee (.i .i64 (.ofNat i)) (.i .i64 (.ofNat 1)) λx18=>lp (λ(_ _ _ _ _:D)(_:LS)=>none) (kz φ) fu (.ptr 0 0) x17 (.tree (L.map mtD) L.length el) (.i .i64 (.ofNat L.length)) x18 s) hY (by omega) hn0 hb0 (lst d (ent L[i].1),e1);obtain⟨Q,e,q1,q2⟩:=ih (i+1) fu b2 Y2 (W++[(lst d (ent L[i].1),e1)]) (by omega) (by omega) g1 g2 g3 (by
   rw[ak,hW,c9 him];simp[xU])
  refine⟨Q,e,q1,?_⟩;rw[eO]
  conv=>lhs;unfold kz
  refine th (fk (by omega)) (th eP (th (t8 (d:=mtD L[i]) (by rw[au,aB hil];rfl) (by rw[aI])) ?_));have h1':mB φ [fld g ey,mtD L[i]]=some (mtD (lst d (ent L[i].1),e1)):=by
   unfold mtD;rw[h1,iU]
  exact th (up hb0) (th (fP h1') (th g4 (th (fM (by omega)) q2)))
theorem VB(hG:KF g (d+1) M)(hd:1≤d)(hd5:d≤5)(hL:∀p,p∈L→RH 7000 (lst d (ent p.1)))(hLl:L.length≤1000)(hL0:0<L.length)(hφ:3000000000≤φ):
 ∃(Q:List (Row×Bool))(e:Bool),Q.map Prod.fst=(rr d (xU d L)).map e8∧iY φ [fld g ey,.tree (L.map mtD) L.length el]=some (.tree (Q.map mtD) Q.length e):=by
 obtain⟨Q,e,q1,q2⟩:=OK (φ:=φ) (ey:=ey) (el:=el) hG hd hd5 hL hLl hL0 hφ L.length 0 φ [⟨[.tree (rs g) g.length ey],.rw⟩] (.tree [] 0 true) [] (by omega) (by omega) AS.nil TN rfl rfl;refine⟨Q,e,q1,?_⟩;unfold iY;dsimp only[eV,eZ];rw[←fm];exact th (jB rfl) (th fH q2)
end
section
variable {bs bs' bs2:List Blk} {i j k n m c w d N h J M Da Na T rd:Nat} {ex ey eg el er eb:Bool} {s:LS} {K:D→LS→Rs} {kk:IntKind} {φ:Nat} {X Y:D} {P Q W A L B:List (Row×Bool)} {rows as E:List Row} {l r t g a b:Row} {cs:List D}
theorem VI{a b:Nat}{k:D→Rs}(h:¬a≤b):ut (.i kk (.ofNat a)) (.i kk (.ofNat b)) k=k (.b false):=by rw[yG,kY h]
theorem QM{Mf:List D→Option D}(h:Rd bs X (W.map mtD)):∃e,∀(r:List D)(n':Nat)(x':Bool),Mf [fld g ey,.tree (W.map mtD) W.length e]=some (.tree r n' x')→∃bs',(∀b,kI X 0→bs[0]?=some b→bs'[0]?=some b)∧∀K,eR Mf [fld g ey,X] (mem bs) K=K (.tree r n' x') (mem bs'):=by
 generalize hcs:W.map mtD=cs at h;cases h with
 | @mk l n cm ex b hb hl hc=>
  have hn:n=W.length:=by rw[←hc,←hcs,aI]
  subst hn;obtain⟨bcs,bst⟩:=b;have hcs:W.map mtD=bcs:=hcs;subst hcs;refine⟨cnd ex (Nat.beq cm W.length) false,λr n' x' hM=>⟨bs.set l ⟨W.map mtD,fzS bst⟩,λb hX h0=>gg (λe=>by subst e;exact hX _ _ _ _ _ rfl) h0,λK=>?_⟩⟩;have h1:=OY (bs:=bs) (w:=l) (c:=cm) (ex:=ex) (P:=W) (n:=W.length) (F:=λy2 b=>l7 b [] λab=>l7 [] ab λab=>ob (Mf [fld g ey,y2]) λr=>ju (mem bs) ab r K) hb hl rfl;refine Eq.trans h1 ?_;rw[gT,gT,hM,gN];unfold ju;rw[mU];show vR [l] (mem bs) (λs=>K (.tree r n' x') s)=_;rw[vt hb]
theorem Yl(h:AS 1 bs X cs n)(h0:0<n):Rd bs X cs:=by
 cases h with
 |nil=>omega
 |blk h hc=>exact Rd.mk h rfl (by rw[hc,ai])
theorem OR(hG:EL g a d Da Na M)(hr:RH 6030 r)(hrl:r.length=d)(hφ:3000000000≤φ){e1 e2:Bool}:∃e,kT φ [fld g ey,mtD (e8 r,e1),mtD (a,e2)]=some (mtD (iL g (gP (e8 r) a),e)):=by
 obtain⟨D,N,h0,h1,h2,h3⟩:=hr;have hp:=oJ r;have:=hG.hd;have:=hG.hd5;have:=hG.hal;have hb:MB (e8 r) a D N Da Na:=⟨BB h3,hG.ha,h0,hG.d0,ew h1 (by decide),ew h2 (by decide),ew hG.lD (by decide),ew hG.lN (by decide),ew (iB h1 hG.lD) (by decide),ew (iB (p7 (k:=2) (show(e8 r).length+1<2^3 by show _<8;omega)) (iB h2 hG.lN)) (by decide)⟩
 show ∃e,kT φ [fld g ey,.tree (rs (e8 r)) (e8 r).length e1,.tree (rs a) a.length e2]=some (.tree (rs (iL g (gP (e8 r) a))) (iL g (gP (e8 r) a)).length e);refine Xr (φ:=φ) (ey:=ey) (EL.kf hG) hb rfl rfl (by omega) ?_ (by omega);have h5:Lg 2 (e8 r).length:=p7 (br (show(e8 r).length≤5 by omega) (by decide));have h1M:Lg 41 (1+M):=wa (j:=40) (m:=1) (n:=M) (p7 (by decide)) hG.lM;refine ew (iB (p7 (by decide):Lg 11 2000) (iB (iB h5 (iB h2 hG.lN)) (yA h1M ((e8 r).length+a.length+1)))) ?_;have:(41+1)*((e8 r).length+a.length+1)≤(41+1)*11:=aZ _ (by omega);show _≤200000000;omega
theorem Se(hG:∀a,a∈A.map Prod.fst→∃D N,EL g a d D N M)(hr:RH 6030 r)(hrl:r.length=d)(hφ:3000000000≤φ)(hA:A.length<1000000){x37 x40 x41:D}{q22:D→D→D→D→D→D→D→LS→Rs}(hi:i<1000000):
 ∀(t j fu:Nat)(bs:List Blk)(Y:D)(W:List (Row×Bool)),j+t=A.length→t<fu→W.length+t<1000000→AS 1 bs Y (W.map mtD) W.length→kI Y 0→bs[0]?=some ⟨[.tree (rs g) g.length ey],.rw⟩→
 ∃(bs':List Blk)(Y':D)(W':List (Row×Bool)),W'.map Prod.fst=W.map Prod.fst++((A.map Prod.fst).drop j).map (λa=>iL g (gP (e8 r) a))∧AS 1 bs' Y' (W'.map mtD) W'.length∧kI Y' 0∧bs'[0]?=some ⟨[.tree (rs g) g.length ey],.rw⟩∧
  lp (λ(_ _ _ _ _ _ _ _ _ _ _:D)(_:LS)=>none) (jH φ q22) fu (.tree (A.map mtD) A.length el) (.ptr 0 0) x37 Y (mtD (e8 r,er)) x40 x41 (.i .i64 (.ofNat i)) (.tree (A.map mtD) A.length el) (.i .i64 (.ofNat A.length)) (.i .i64 (.ofNat j)) (mem bs)=
   q22 (.tree (A.map mtD) A.length el) (.ptr 0 0) x37 Y' x40 x41 (.i .i64 (.ofNat (i+1))) (mem bs'):=by
 intro t
 induction t with
 |zero=>
  intro j fu bs Y W hj hf hW hY hn0 hb0;obtain⟨fu,rfl⟩:∃q,fu=q+1:=⟨fu-1,by omega⟩
  refine⟨bs,Y,W,?_,hY,hn0,hb0,?_⟩
  ·rw[dH (by rw[aI];omega)];simp
  ·rw[eO];unfold jH;exact th (fy (by omega)) (th eM (fM (by omega)))
 |succ t ih=>
  intro j fu bs Y W hj hf hW hY hn0 hb0;obtain⟨fu,rfl⟩:∃q,fu=q+1:=⟨fu-1,by omega⟩
  have hjl:j<A.length:=by omega
  obtain⟨Da,Na,hel⟩:=hG (A[j].1) (ax (bK hjl));obtain⟨e,h1⟩:=OR (φ:=φ) (ey:=ey) (e1:=er) (e2:=A[j].2) hel hr hrl hφ;obtain⟨b1,Y1,g1,g2,g3,g4⟩:=Yn (K:=λx52 s=>ee (.i .i64 (.ofNat j)) (.i .i64 (.ofNat 1)) λx53=>lp (λ(_ _ _ _ _ _ _ _ _ _ _:D)(_:LS)=>none) (jH φ q22) fu (.tree (A.map mtD) A.length el) (.ptr 0 0) x37 x52 (mtD (e8 r,er)) x40 x41 (.i .i64 (.ofNat i)) (.tree (A.map mtD) A.length el) (.i .i64 (.ofNat A.length)) x53 s) hY (by omega) hn0 hb0 (iL g (gP (e8 r) A[j].1),e);obtain⟨b2,Y2,W2,w1,w2,w3,w4,w5⟩:=ih (j+1) fu b1 Y1 (W++[(iL g (gP (e8 r) A[j].1),e)]) (by omega) (by omega) (by simp;omega) g1 g2 g3;refine⟨b2,Y2,W2,?_,w2,w3,w4,?_⟩
  ·rw[w1,ak];have hjm:j<(A.map Prod.fst).length:=by rw[aI];exact hjl
   rw[bZ hjm,bB,cG];simp
  ·rw[eO]
   conv=>lhs;unfold jH
   refine th (fk (by omega)) (th eP (th (t8 (d:=mtD A[j]) (by rw[au,aB hjl];rfl) (by rw[aI])) ?_));exact th (up hb0) (th (fP h1) (th g4 (th (fM (by omega)) w5)))
def nxE(g:Row)(as E:List Row):List Row:=E.map e8++E.flatMap λr=>as.map λa=>iL g (gP (e8 r) a)
def OV(φ:Nat)(q11:D→D→D→D→LS→Rs)(list ptr rd Y:D)(s:LS):Rs:=
 eS 1 s ptr λx55 s=>eR (iY φ) [x55,Y] s λx56 s=>ee rd (.i .i64 (.ofNat 1)) λx57=>q11 list ptr x56 x57 s
theorem Sc(hG:∀a,a∈A.map Prod.fst→∃D N,EL g a d D N M)(hE:∀r,r∈E→r.length=d∧RH 6030 r)(hB:B.map Prod.fst=E.map e8)(hφ:3000000000≤φ)(hA:A.length<1000)(hBl:B.length<100){x25:D}{q11:D→D→D→D→LS→Rs}:
 ∀(t i fu:Nat)(bs:List Blk)(Y:D)(W:List (Row×Bool)),i+t=B.length→t<fu→W.length+t*A.length<1000000→AS 1 bs Y (W.map mtD) W.length→kI Y 0→bs[0]?=some ⟨[.tree (rs g) g.length ey],.rw⟩→
 ∃(bs':List Blk)(Y':D)(W':List (Row×Bool)),W'.map Prod.fst=W.map Prod.fst++(E.drop i).flatMap (λr=>(A.map Prod.fst).map λa=>iL g (gP (e8 r) a))∧AS 1 bs' Y' (W'.map mtD) W'.length∧kI Y' 0∧bs'[0]?=some ⟨[.tree (rs g) g.length ey],.rw⟩∧
  lp (λ(_ _ _ _ _ _ _:D)(_:LS)=>none) (iJ φ q11) fu (.tree (A.map mtD) A.length el) (.ptr 0 0) x25 Y (.tree (B.map mtD) B.length eb) (.i .i64 (.ofNat B.length)) (.i .i64 (.ofNat i)) (mem bs)=
   OV φ q11 (.tree (A.map mtD) A.length el) (.ptr 0 0) x25 Y' (mem bs'):=by
 have hBE:B.length=E.length:=by have:=congrArg List.length hB;simpa using this
 intro t
 induction t with
 |zero=>
  intro i fu bs Y W hi hf hW hY hn0 hb0;obtain⟨fu,rfl⟩:∃q,fu=q+1:=⟨fu-1,by omega⟩
  refine⟨bs,Y,W,?_,hY,hn0,hb0,?_⟩
  ·rw[dH (by omega)];simp
  ·rw[eO];unfold iJ;exact th (fy (by omega)) eM
 |succ t ih=>
  intro i fu bs Y W hi hf hW hY hn0 hb0;obtain⟨fu,rfl⟩:∃q,fu=q+1:=⟨fu-1,by omega⟩
  have hil:i<B.length:=by omega
  have hie:i<E.length:=by omega
  have hp:=hE E[i] (bK hie);have hBi:B[i]=(e8 E[i],B[i].2):=by
   have h1:(B.map Prod.fst)[i]'(by rw[aI];exact hil)=(E.map e8)[i]'(by rw[aI];exact hie):=by simp only[hB]
   rw[cG,cG]at h1;exact Prod.ext h1 rfl
  have hmul:(t+1)*A.length=t*A.length+A.length:=cr _ _;obtain⟨b1,Y1,W1,w1,w2,w3,w4,w5⟩:=Se (φ:=φ) (ey:=ey) (el:=el) (er:=B[i].2) (r:=E[i]) (x37:=x25) (x40:=.tree (B.map mtD) B.length eb) (x41:=.i .i64 (.ofNat B.length)) (i:=i) (q22:=λa b c e x y z s=>lp (λ(_ _ _ _ _ _ _:D)(_:LS)=>none) (iJ φ q11) fu a b c e x y z s) hG hp.2 hp.1 hφ (by omega) (by omega) A.length 0 φ bs Y W (by omega) (by omega) (by omega) hY hn0 hb0;have hl1:=congrArg List.length w1;simp at hl1;obtain⟨b2,Y2,W2,v1,v2,v3,v4,v5⟩:=ih (i+1) fu b1 Y1 W1 (by omega) (by omega) (by omega) w2 w3 w4;refine⟨b2,Y2,W2,?_,v2,v3,v4,?_⟩
  ·rw[v1,w1,bZ hie,List.flatMap_cons,aj,bW]
  ·rw[eO]
   conv=>lhs;unfold iJ
   refine th (fk (by omega)) (th eP (th (t8 (d:=mtD (e8 E[i],B[i].2)) (by rw[au,aB hil,←hBi];rfl) (by rw[aI])) (th fH ?_)));exact th w5 v5
end
section
variable {bs bs' bs2:List Blk} {i j k n m c w d N h J M Da Na T rd:Nat} {ex ey eg el er eb:Bool} {s:LS} {K:D→LS→Rs} {kk:IntKind} {φ:Nat} {X Y:D} {P Q W A L B:List (Row×Bool)} {rows as E:List Row} {l r t g a b:Row} {cs:List D}
theorem Pn(hr:r.length=d):lst d (ent (e8 r))=r:=by
 rw[show ent (e8 r)=ent r from funext (kB r),←hr,w7]
theorem P8(hm:g.length=d+1)(hE:∀r,r∈E→r.length=d)(hW:W.map Prod.fst=nxE g as E):xU d W=nx g as E:=by
 have e1:xU d W=(W.map Prod.fst).map λp=>lst d (ent p):=by unfold xU;rw[cE];rfl
 rw[e1,hW];unfold nxE nx;rw[ak,cE,List.map_flatMap];congr 1
 ·refine(cN λr hr=>?_).trans (List.map_id _);exact Pn (hE r hr)
 ·congr 1;funext r;rw[cE];refine cN λa _=>?_;show lst d (ent (iL g (gP (e8 r) a)))=mr g a r;unfold mr;rw[show g.length-1=d by omega]
theorem Sb(hM:GM g (A.map Prod.fst) d M)(hK:KF g (d+1) M)(hA:A.length<100)(hφ:3000000000≤φ):
 ∀(u t fu:Nat)(bs:List Blk)(B:List (Row×Bool))(eb:Bool),t+u=d+1→u<fu→bs[0]?=some ⟨[.tree (rs g) g.length ey],.rw⟩→B.map Prod.fst=(stp g (A.map Prod.fst) t).map e8→
 ∃(Q:List (Row×Bool))(e:Bool),Q.map Prod.fst=(stp g (A.map Prod.fst) (d+1)).map e8∧lp (λ(_ _ _ _:D)(_:LS)=>none) (iI φ) fu (.tree (A.map mtD) A.length el) (.ptr 0 0) (.tree (B.map mtD) B.length eb) (.i .i64 (.ofNat t)) (mem bs)=some (.tree (Q.map mtD) Q.length e):=by
 have hd5:=hM.hd5;have hd:=hM.gl.hd;have hdeg:=WE (φ:=φ) (ey:=ey) hK;rw[a7]at hdeg;intro u
 induction u with
 |zero=>
  intro t fu bs B eb ht hf hb0 hB;obtain⟨fu,rfl⟩:∃q,fu=q+1:=⟨fu-1,by omega⟩
  have htd:t=d+1:=by omega
  subst htd;refine⟨B,eb,hB,?_⟩;rw[eO];unfold iI;exact th (up hb0) (th (fP hdeg) (th (VI (by omega)) (th eM rY)))
 |succ u ih=>
  intro t fu bs B eb ht hf hb0 hB;obtain⟨fu,rfl⟩:∃q,fu=q+1:=⟨fu-1,by omega⟩
  have hE:=wT hM t;have hBl:B.length=(stp g (A.map Prod.fst) t).length:=by have:=congrArg List.length hB;simpa using this
  have hle:=B0 hM.gl t;have hpos:=xE hM.gl t;have hmul:B.length*A.length≤5*A.length:=aL _ (by omega);have hbl:=fE hb0;obtain⟨j,c,e',b1,a1,a2,a3⟩:=Ue (bs:=bs++[(⟨[],.rw⟩:Blk)]) (k:=bs.length) (z:=1) (bytes:=24) (n:=B.length) (cs:=B.map mtD) (ex:=eb) (K:=λx20 s=>ek (.tree (B.map mtD) B.length eb) s λx21 s=>lp (λ(_ _ _ _ _ _ _:D)(_:LS)=>none) (iJ φ λa b c x s=>lp (λ(_ _ _ _:D)(_:LS)=>none) (iI φ) fu a b c x s) φ (.tree (A.map mtD) A.length el) (.ptr 0 0) (.i .i64 (.ofNat t)) x20 (.tree (B.map mtD) B.length eb) x21 (.i .i64 (.ofNat 0)) s) (by simp) (by rw[aI];omega) (FQ B) (by omega) (by omega);obtain⟨rfl,rfl,rfl,rfl⟩:=a3 (by omega);have hA0:AS 1 (bs++[(⟨[],.rw⟩:Blk)]++[(⟨B.map mtD,.rw⟩:Blk)]) (.sl (bs++[(⟨[],.rw⟩:Blk)]).length 0 B.length B.length 1 false) (B.map mtD) B.length:=AS.blk a2 (by rw[aI];omega);obtain⟨b2,Y2,W2,w1,w2,w3,w4,w5⟩:=Sc (φ:=φ) (ey:=ey) (el:=el) (eb:=eb) (B:=B) (E:=stp g (A.map Prod.fst) t) (x25:=.i .i64 (.ofNat t)) (q11:=λa b c x s=>lp (λ(_ _ _ _:D)(_:LS)=>none) (iI φ) fu a b c x s) hM.el hE hB hφ (by omega) (by omega) B.length 0 φ _ _ B (by omega) (by omega) (by omega) hA0 (λo n m z e h=>by injection h with h1;simp at h1) (gY (gY hb0));have hW2:W2.map Prod.fst=nxE g (A.map Prod.fst) (stp g (A.map Prod.fst) t):=by rw[w1,hB,aj];rfl
  have hrow:=P8 hM.gl.hm (λr hr=>(hE r hr).1) hW2;have hWl:B.length≤W2.length:=by
   have:=congrArg List.length w1;rw[bF,aI,aI]at this;omega
  have hWu:W2.length≤1000:=by
   have h1:=congrArg List.length w1;rw[bF,aI,aI,z1e,aj]at h1;have h2:∀L:List Row,(L.map λr=>((A.map Prod.fst).map λa=>iL g (gP (e8 r) a)).length).sum=L.length*A.length:=by
    intro L
    induction L with
    |nil=>simp
    |cons x L ih=>rw[bB,eE,ih,ay,cr];simp;omega
   rw[h2,←hBl]at h1;omega
  obtain⟨e2,h2⟩:=QM (g:=g) (ey:=ey) (Mf:=iY φ) (Yl w2 (by omega));obtain⟨Q1,e3,q1,q2⟩:=VB (φ:=φ) (ey:=ey) (el:=e2) (L:=W2) hK hd hd5 (λp hp=>by
   have:lst d (ent p.1)∈xU d W2:=ax hp;rw[hrow]at this;exact(PZ hM hE _ this).2) hWu (by omega) hφ
  obtain⟨b3,k1,k2⟩:=h2 _ _ _ q2;have hQ1:Q1.map Prod.fst=(stp g (A.map Prod.fst) (t+1)).map e8:=by
   rw[q1,hrow];show _=(rr (g.length-1) _).map e8;rw[show g.length-1=d by rw[hM.gl.hm];rfl]
  obtain⟨Q,e,z1,z2⟩:=ih (t+1) fu b3 Q1 e3 (by omega) (by omega) (k1 _ w3 w4) hQ1;refine⟨Q,e,z1,?_⟩;rw[eO]
  conv=>lhs;unfold iI
  refine th (up hb0) (th (fP hdeg) (th (Pp (by omega)) (th eP (th (Ks rfl) (th a1 (th fH (th w5 ?_)))))));unfold OV;exact th (up w4) (th (k2 _) (th (fM (by omega)) z2))
theorem K9(h0:EL g [] d 1 1 M):lst d (ent (pwL g [] 0))=sQ g:=by
 have hd:=h0.hd;have hpt:Pt ([1]:Row):=FB (g:=g) (a:=[]) 0;have hpre:iL g [1]=[1]:=by
  unfold iL;rw[h0.hm,show([1]:Row).length+1-(d+1)=0 by show 1+1-(d+1)=0;omega];show e8 (lst (d+1-1) (ent [1]))=[1]
  conv=>rhs;rw[←show e8 [1]=[1]from hpt]
  refine oK λi=>?_;rw[kM];split
  ·rfl
  ·rw[gL (by show 1≤i;omega)]
 unfold sQ;rw[hpre,h0.hm,a7];rfl
theorem Ik(hM:GM g (A.map Prod.fst) d M)(h0:EL g [] d 1 1 M)(hA:A.length<100)(hφ:3000000000≤φ):
 ∃(Q:List (Row×Bool))(e:Bool),Q.map Prod.fst=(stp g (A.map Prod.fst) (d+1)).map e8∧iK φ [fld g ey,.tree (A.map mtD) A.length el]=some (.tree (Q.map mtD) Q.length e):=by
 have hd5:=hM.hd5;have hd:=hM.gl.hd;have hb0:([]++[(⟨[.tree (rs g) g.length ey],.rw⟩:Blk)])[0]?=some ⟨[.tree (rs g) g.length ey],.rw⟩:=rfl;obtain⟨e1,b1,k1,h1⟩:=ZP (φ:=φ) (ey:=ey) (bs:=[]++[(⟨[.tree (rs g) g.length ey],.rw⟩:Blk)]) h0 (by omega);have hb1:=k1 0 _ hb0;have hbl:=fE hb1;have hR:Rd (b1++[(⟨[mtD (pwL g [] 0,e1)],.rw⟩:Blk)]) (.sl b1.length 0 1 1 1 true) ([(pwL g [] 0,e1)].map mtD):=Rd.mk (b:=⟨[mtD (pwL g [] 0,e1)],.rw⟩) (by simp) rfl rfl;obtain⟨e2,h2⟩:=QM (g:=g) (ey:=ey) (W:=[(pwL g [] 0,e1)]) (Mf:=iY φ) hR;have hrow:xU d [(pwL g [] 0,e1)]=[sQ g]:=by
  show[lst d (ent (pwL g [] 0))]=_;rw[K9 h0]
 obtain⟨Q1,e3,q1,q2⟩:=VB (φ:=φ) (ey:=ey) (el:=e2) (L:=[(pwL g [] 0,e1)]) (EL.kf h0) hd hd5 (λp hp=>by
  rw[bi]at hp;subst hp;rw[show lst d (ent ((pwL g [] 0,e1):Row×Bool).1)=sQ g from K9 h0];have:=wT hM 0 (sQ g) (by rw[y7 hM.gl];simp);exact rX this.2 (by decide)) (by simp) (by simp) hφ
 obtain⟨b3,c1,c2⟩:=h2 _ _ _ q2;have hb3:=c1 _ (λo n m z e h=>by injection h with h3;omega) (gY hb1);obtain⟨Q,e,z1,z2⟩:=Sb (φ:=φ) (ey:=ey) (el:=el) hM (EL.kf h0) hA hφ (d+1) 0 φ b3 Q1 e3 (by omega) (by omega) hb3 (by
  rw[q1,hrow];show _=(rr (g.length-1) _).map e8;rw[show g.length-1=d by rw[hM.gl.hm];rfl])
 refine⟨Q,e,z1,?_⟩;unfold iK;dsimp only[eV,eZ];rw[←fm];refine th (jB rfl) (th (up hb0) (th (up hb0) (th (h1 _) (th (NX rfl rfl rfl rfl) ?_))));exact th (c2 _) z2
end
def rwT(p:List RQ×Bool):D:=.tree (raw p.1) p.1.length p.2
def Ho(l:List RQ):List (List RQ×Bool)→Nat
 |[]=>0
 |p::r=>if u9 l p.1=0 then Ho l r else u9 l p.1
def ux(l:List RQ)(LL:List (List RQ×Bool)):Nat:=if 256<LL.length then 5 else Ho l LL
section
variable {bs:List Blk} {i j k n m d M T:Nat} {ex ey eg el e eb:Bool} {s:LS} {K:D→LS→Rs} {kk:IntKind} {φ:Nat} {X Y:D} {P Q W A L B Q1 Q2:List (Row×Bool)} {l r:List RQ} {LL:List (List RQ×Bool)} {g:Row} {cs:List D}
theorem Hn(h:i<LL.length):Ho l (LL.drop i)=if u9 l LL[i].1=0 then Ho l (LL.drop (i+1))else u9 l LL[i].1:=by
 rw[bZ h];rfl
theorem Ow(hn:l.length=n)(hφ:3000000000≤φ)(hL:LL.length<1000000)(hb0:bs[0]?=some ⟨[.tree (raw l) n e],.rw⟩):∀(t i fu:Nat),i+t=LL.length→t<fu→
 lp (λ(_ _ _ _:D)(_:LS)=>none) (pw φ) fu (.ptr 0 0) (.tree (LL.map rwT) LL.length el) (.i .i64 (.ofNat LL.length)) (.i .i64 (.ofNat i)) (mem bs)=some (.i .i64 (.ofNat (Ho l (LL.drop i)))):=by
 intro t
 induction t with
 |zero=>
  intro i fu hi hf;obtain⟨fu,rfl⟩:∃q,fu=q+1:=⟨fu-1,by omega⟩
  rw[eO,dH (by omega)];unfold pw;exact th (fy (by omega)) (th eM ia)
 |succ t ih=>
  intro i fu hi hf;obtain⟨fu,rfl⟩:∃q,fu=q+1:=⟨fu-1,by omega⟩
  have hil:i<LL.length:=by omega
  have hE:=PE (φ:=φ) (e:=e) (ex:=LL[i].2) (l:=l) (r:=LL[i].1) hn rfl hφ;have hih:=ih (i+1) fu (by omega) (by omega);rw[eO,Hn hil]
  conv=>lhs;unfold pw
  refine th (fk (by omega)) (th eP (th (t8 (d:=rwT LL[i]) (by rw[au,aB hil];rfl) (by rw[aI])) (th (qB hb0) (th (fP hE) ?_))));by_cases h:u9 l LL[i].1=0
  ·rw[aC h];exact th (o6 h) (th eM (th (fM (by omega)) hih))
  ·rw[aE h];exact th (qU h) (th eP ia)
theorem VD(hn:l.length=n)(hφ:3000000000≤φ):qh φ [.agg [.tree (raw l) n e],.tree (LL.map rwT) LL.length el]=some (.i .i64 (.ofNat (ux l LL))):=by
 unfold qh ux;dsimp only[eV,eZ];rw[←fm];refine th (jB rfl) (th fH ?_);by_cases h:256<LL.length
 ·rw[aC h];exact th (mf h) (th eP ia)
 ·rw[aE h];refine th (oO h) (th eM (th fH ?_));exact Ow hn hφ (by omega) rfl LL.length 0 φ (by omega) (by omega)
theorem OT(hn:l.length=n)(hφ:3000000000≤φ)(hL:LL.length<1000000)(hb0:bs[0]?=some ⟨[.tree (raw l) n e],.rw⟩):∀(t i fu:Nat),i+t=LL.length→t<fu→
 lp (λ(_ _ _ _:D)(_:LS)=>none) (kj φ) fu (.ptr 0 0) (.tree (LL.map rwT) LL.length el) (.i .i64 (.ofNat LL.length)) (.i .i64 (.ofNat i)) (mem bs)=some (.i .i64 (.ofNat (Ho l (LL.drop i)))):=by
 intro t
 induction t with
 |zero=>
  intro i fu hi hf;obtain⟨fu,rfl⟩:∃q,fu=q+1:=⟨fu-1,by omega⟩
  rw[eO,dH (by omega)];unfold kj;exact th (fy (by omega)) (th eM ia)
 |succ t ih=>
  intro i fu hi hf;obtain⟨fu,rfl⟩:∃q,fu=q+1:=⟨fu-1,by omega⟩
  have hil:i<LL.length:=by omega
  have hE:=Om (φ:=φ) (e:=e) (ex:=LL[i].2) (l:=l) (r:=LL[i].1) hn rfl hφ;have hih:=ih (i+1) fu (by omega) (by omega);rw[eO,Hn hil]
  conv=>lhs;unfold kj
  refine th (fk (by omega)) (th eP (th (t8 (d:=rwT LL[i]) (by rw[au,aB hil];rfl) (by rw[aI])) (th (qB hb0) (th (fP hE) ?_))));by_cases h:u9 l LL[i].1=0
  ·rw[aC h];exact th (o6 h) (th eM (th (fM (by omega)) hih))
  ·rw[aE h];exact th (qU h) (th eP ia)
theorem WD(hn:l.length=n)(hφ:3000000000≤φ):jV φ [.agg [.tree (raw l) n e],.tree (LL.map rwT) LL.length el]=some (.i .i64 (.ofNat (ux l LL))):=by
 unfold jV ux;dsimp only[eV,eZ];rw[←fm];refine th (jB rfl) (th fH ?_);by_cases h:256<LL.length
 ·rw[aC h];exact th (mf h) (th eP ia)
 ·rw[aE h];refine th (oO h) (th eM (th fH ?_));exact OT hn hφ (by omega) rfl LL.length 0 φ (by omega) (by omega)
theorem OB(hQ:Q1.map Prod.fst=Q2.map Prod.fst)(hl:Q1.length<1000000)(hs:∀q,q∈Q1→q.1.length<1000000)(hφ:1000000000≤φ):∀(t i fu:Nat),i+t=Q1.length→t<fu→
 lp (λ(_ _ _ _:D)(_:LS)=>none) (kn φ) fu (.tree (Q1.map mtD) Q1.length ex) (.tree (Q2.map mtD) Q2.length ey) (.i .i64 (.ofNat Q1.length)) (.i .i64 (.ofNat i)) s=some (.b true):=by
 have h12:Q1.length=Q2.length:=by have:=congrArg List.length hQ;simpa using this
 intro t
 induction t with
 |zero=>
  intro i fu hi hf;obtain⟨fu,rfl⟩:∃q,fu=q+1:=⟨fu-1,by omega⟩
  rw[eO];unfold kn;exact th (fy (by omega)) (th eM rP)
 |succ t ih=>
  intro i fu hi hf;obtain⟨fu,rfl⟩:∃q,fu=q+1:=⟨fu-1,by omega⟩
  have hil:i<Q1.length:=by omega
  have hi2:i<Q2.length:=by omega
  have hq:Q2[i]=(Q1[i].1,Q2[i].2):=by
   have h1:(Q1.map Prod.fst)[i]'(by rw[aI];exact hil)=(Q2.map Prod.fst)[i]'(by rw[aI];exact hi2):=by simp only[hQ]
   rw[cG,cG]at h1;exact Prod.ext h1.symm rfl
  have hS:=Xq (φ:=φ) (ex:=Q1[i].2) (ey:=Q2[i].2) (c:=Q1[i].1) rfl (hs _ (bK hil)) hφ;rw[eO]
  conv=>lhs;unfold kn
  refine th (fk (by omega)) (th eP (th (t8 (d:=mtD Q1[i]) (by rw[au,aB hil];rfl) (by rw[aI])) (th (t8 (d:=mtD (Q1[i].1,Q2[i].2)) (by rw[au,aB hi2,←hq];rfl) (by rw[aI])) (th (fP hS) (th wO (th eM (th (fM (by omega)) (ih (i+1) fu (by omega) (by omega)))))))))
theorem MY(hQ:Q1.map Prod.fst=Q2.map Prod.fst)(hl:Q1.length<1000000)(hs:∀q,q∈Q1→q.1.length<1000000)(hφ:1000000000≤φ):jW φ [.tree (Q1.map mtD) Q1.length ex,.tree (Q2.map mtD) Q2.length ey]=some (.b true):=by
 have h12:Q1.length=Q2.length:=by have:=congrArg List.length hQ;simpa using this
 unfold jW;dsimp only[eV,eZ];refine th fH (th fH ?_);have h0:=OB (s:=s0) (ex:=ex) (ey:=ey) hQ hl hs hφ Q1.length 0 φ (by omega) (by omega);rw[←h12];rw[←h12]at h0;exact th (o6 rfl) (th eM (th fH h0))
theorem M3(hQ:∀q,q∈Q→q.1.length<1000000∧q.1.any DV=false)(hl:Q.length<1000000)(hφ:1000000000≤φ):uY φ [.tree (Q.map mtD) Q.length ex]=some (.b false):=by
 have hd:∀q,q∈Q→∀F:D→LS→Rs,uD (eY φ) false (.fn 49 []) [mtD q] s0 F=F (.b false) s0:=λq hq F=>by
  show eR (pq φ) [mtD q] s0 F=_;have h1:=Sv (φ:=φ) (e:=q.2) (c:=q.1) rfl (hQ q hq).1 hφ;rw[(hQ q hq).2]at h1;exact fP h1
 unfold uY gc iE;dsimp only[eV,eZ];refine th fH ?_;have key:∀(F:D→LS→Rs)(t i fu:Nat),i+t=Q.length→t<fu→lp (λ(_ _ _ _:D)(_:LS)=>none) (gb φ F) fu (.tree (Q.map mtD) Q.length ex) (.fn 49 []) (.i .i64 (.ofNat Q.length)) (.i .i64 (.ofNat i)) s0=F (.i .i64 (.negSucc 0)) s0:=by
  intro F t
  induction t with
  |zero=>
   intro i fu hi hf;obtain⟨fu,rfl⟩:∃q,fu=q+1:=⟨fu-1,by omega⟩
   rw[eO];unfold gb;exact th (fy (by omega)) eM
  |succ t ih=>
   intro i fu hi hf;obtain⟨fu,rfl⟩:∃q,fu=q+1:=⟨fu-1,by omega⟩
   have hil:i<Q.length:=by omega
   rw[eO]
   conv=>lhs;unfold gb
   exact th (fk (by omega)) (th eP (th (t8 (d:=mtD Q[i]) (by rw[au,aB hil];rfl) (by rw[aI])) ((hd _ (bK hil) _).trans (th eM (th (fM (by omega)) (ih (i+1) fu (by omega) (by omega)))))))
 exact(key (λx3 s=>jt x3 (.i .i64 (.ofNat 0)) λx4=>eX false s x4 some) Q.length 0 φ (by omega) (by omega)).trans (th tK rP)
theorem PC(hn:l.length=n)(he:CW (qL l) (ux l LL)≠0)(hφ:3000000000≤φ):jN φ [.agg [.tree (raw l) n e],.tree (LL.map rwT) LL.length el]=some (.tup [.tree [] 0 true,.i .i64 (.ofNat (CW (qL l) (ux l LL)))]):=by
 have hF:=PD (φ:=φ) (e:=e) hn hφ;have hL:=VD (φ:=φ) (e:=e) (el:=el) (LL:=LL) hn hφ;have hb0:([]++[(⟨[.tree (raw l) n e],.rw⟩:Blk)])[([]:List Blk).length]?=some ⟨[.tree (raw l) n e],.rw⟩:=rfl;unfold jN;dsimp only[eV,eZ];rw[←fm];refine th (jB rfl) (th (qB hb0) (th (fP hF) ?_));by_cases h0:qL l=0
 ·have e1:CW (qL l) (ux l LL)=ux l LL:=aC h0;rw[e1]at he ⊢;exact th (o6 h0) (th eM (th (qB hb0) (th (fP hL) (th (qU he) (th eP Ie)))))
 ·have e1:CW (qL l) (ux l LL)=qL l:=aE h0;rw[e1];exact th (qU h0) (th eP Ie)
theorem Sw(hn:l.length=n)(h0:qL l=0)(h1:ux l LL=0)(hφ:3000000000≤φ){el':Bool}(hS:sc φ [.tree (raw l) n e,.tree (LL.map rwT) LL.length el]=some (.tree (Q.map mtD) Q.length el'))(hQ:∀q,q∈Q→q.1.length<1000000∧q.1.any DV=false)(hl:Q.length<1000000):
 jN φ [.agg [.tree (raw l) n e],.tree (LL.map rwT) LL.length el]=some (.tup [.tree (Q.map mtD) Q.length el',.i .i64 (.ofNat 0)]):=by
 have hF:=PD (φ:=φ) (e:=e) hn hφ;have hL:=VD (φ:=φ) (e:=e) (el:=el) (LL:=LL) hn hφ;have hG:=M3 (φ:=φ) (ex:=el') hQ hl (by omega);have hb0:([]++[(⟨[.tree (raw l) n e],.rw⟩:Blk)])[([]:List Blk).length]?=some ⟨[.tree (raw l) n e],.rw⟩:=rfl;unfold jN;dsimp only[eV,eZ];rw[←fm];refine th (jB rfl) (th (qB hb0) (th (fP hF) (th (o6 h0) (th eM (th (qB hb0) (th (fP hL) (th (o6 h1) (th eM ?_))))))));exact th (wM hb0) (th (fP hS) (th (fP hG) (th eM Ie)))
end
section
variable {bs:List Blk} {i j k n m d M T:Nat} {ex ey eg el e eb:Bool} {s:LS} {K:D→LS→Rs} {kk:IntKind} {φ:Nat} {X Y:D} {P Q W A L B Q1 Q2:List (Row×Bool)} {l r:List RQ} {LL:List (List RQ×Bool)} {g:Row} {cs:List D} {aw:Nat→List D→Option D}
def I9(p:List RQ×Bool):Row×Bool:=(iR p.1,p.2)
theorem SY(h:tP r=0){b:Bool}:rwT (r,b)=mtD (I9 (r,b)):=by
 unfold rwT mtD I9;rw[(vc h).1,my]
theorem SZ(h:∀p,p∈LL→tP p.1=0):LL.map rwT=(LL.map I9).map mtD:=by
 rw[cE];exact cN λp hp=>SY (h p hp)
theorem T8{v:Rat}(h1:Lg 8191 v.num.natAbs)(h2:Lg 8191 v.den):DV v=false:=by
 have g1:=Kj (c:=1023) h1;have g2:=Kj (c:=1023) h2;unfold DV;rw[aN (by omega),aN (by omega)];decide
theorem Sa{r:Row}(h:RH 6030 r):(e8 r).any DV=false:=by
 obtain⟨D,N,a,b,c,d⟩:=h;rw[z0R];intro v hv;obtain⟨j,hj,rfl⟩:=eA.1 hv;rw[←Fa hj,kB];have:=F9 a (d j);rw[T8 (ew (p8 c this.1) (by decide)) (ew (p8 b this.2) (by decide))];decide
theorem J9:∀{LL:List (List RQ×Bool)},Ho l LL=0→∀p,p∈LL→u9 l p.1=0
 |[],_,p,hp=>by simp at hp
 |q::LL,h,p,hp=>by
  have h1:(if u9 l q.1=0 then Ho l LL else u9 l q.1)=0:=h;by_cases h2:u9 l q.1=0
  ·rw[aC h2]at h1;rcases bI.1 hp with rfl|hp
   ·exact h2
   ·exact J9 h1 p hp
  ·rw[aE h2]at h1;exact absurd h1 h2
theorem NH(hff:FF l)(h4:DR l=true)(hl:LL.length≤4)(he:∀p,p∈LL→u9 l p.1=0)(h8:∀p,p∈LL→(iR p.1).any wx=false)(hφ:3000000000≤φ):
 ∃(Q1 Q2:List (Row×Bool))(e1 e2:Bool),Q1.map Prod.fst=Q2.map Prod.fst∧Q1.length<1000000∧(∀q,q∈Q1→q.1.length<1000000∧q.1.any DV=false)∧
  sc φ [.tree (raw l) l.length e,.tree (LL.map rwT) LL.length el]=some (.tree (Q1.map mtD) Q1.length e1)∧
  iK φ [.agg [.tree (raw l) l.length e],.tree (LL.map rwT) LL.length el]=some (.tree (Q2.map mtD) Q2.length e2):=by
 have h2:=hff.h2;have hmap:=SZ (LL:=LL) λp hp=>(Fi (he p hp)).2.1;have hraw:=(vc hff.hz).1;have hfst:∀a,a∈(LL.map I9).map Prod.fst→∃p,p∈LL∧a=iR p.1:=λa ha=>by
  rw[cE]at ha;obtain⟨p,hp,rfl⟩:=aW.1 ha;exact⟨p,hp,rfl⟩
 have hel:∀a,a∈(LL.map I9).map Prod.fst→∃D N,EL (iR l) a (l.length-1) D N (2^33):=λa ha=>by
  obtain⟨p,hp,rfl⟩:=hfst a ha;exact VS hff h4 (Fi (he p hp)).2.2.1 (h8 p hp)
 obtain⟨D0,N0,w⟩:=VS (r:=[]) hff h4 (by simp;omega) rfl;have h0:EL (iR l) [] (l.length-1) 1 1 (2^33):=⟨w.hm,w.hd,w.hd5,w.hg,w.h1,λi=>by rw[sj];exact nK rh (a9 _),a9 _,cy,(show Nat.log2 1≤330 by decide),(show Nat.log2 1≤330 by decide),w.lM⟩
 have hM:GM (iR l) ((LL.map I9).map Prod.fst) (l.length-1) (2^33):=⟨⟨w.hm,w.h1,w.hd,λa ha=>by
  obtain⟨D,N,h⟩:=hel a ha;exact h.hal⟩,w.hd5,w.hg,hel⟩
 obtain⟨T,t1,t2,t3⟩:=SK hM.gl;have hcon:=D7 hM.gl t2 (l.length-1+1-T);rw[show T+(l.length-1+1-T)=l.length-1+1 by omega]at hcon;obtain⟨Q1,e1,a1,a2⟩:=Xx (φ:=φ) (eg:=e) (el:=el) hM h0 (by rw[aI];omega) hφ t2 t3 t1;obtain⟨Q2,e2,b1,b2⟩:=Ik (φ:=φ) (ey:=e) (el:=el) hM h0 (by rw[aI];omega) hφ;rw[aI,show l.length-1+1=l.length by omega,←hraw,←hmap]at a2;unfold fld at b2;rw[aI,←hraw,←hmap,my]at b2;have hlen:Q1.length=(stp (iR l) ((LL.map I9).map Prod.fst) T).length:=by have:=congrArg List.length a1;simpa using this
 have hle:=B0 hM.gl T;have hd5:=hM.hd5;refine⟨Q1,Q2,e1,e2,by rw[a1,b1,hcon],by omega,λq hq=>?_,a2,b2⟩;have hq1:q.1∈Q1.map Prod.fst:=ax hq;rw[a1]at hq1;obtain⟨r,hr,hre⟩:=aW.1 hq1;obtain⟨c1,c2⟩:=wT hM T r hr;rw[←hre];refine⟨?_,Sa c2⟩;have:=oJ r;omega
def gJ(aw:Nat→List D→Option D)(φ:Nat):D→D→D→LS→Rs:=λx28 x29 x30 s=>
 eS 1 s x29 λx31 s=>eR (jN φ) [x31,x28] s λx32 s=>gD x32 0 s λx33 s=>gD x32 1 s λx34 s=>mE x30 (.i .i64 (.ofNat 0)) λx35=>eQ x35
  (gx x34 x30 λx36=>eI x36 true (λk=>k x33 s) s λx37 s=>eI x36 true (λk=>ek x37 s k) s λx38 s=>eI x36 true (λk=>gx x38 (.i .i64 (.ofNat 0)) λd=>k d s) s λx39 s=>fX x36 x39 (.b false) s λx40 s=>eI x40 true (λk=>eR (aw φ) [] s k) s λx41 s=>fX x40 x41 (.b false) s λx42 s=>eX false s x42 some)
  (gx x34 (.i .i64 (.ofNat 0)) λx43=>eI x43 true (λk=>k x33 s) s λx44 s=>eI x43 true (λk=>eS 1 s x29 k) s λx45 s=>eI x43 true (λk=>k x28 s) s λx46 s=>eI x43 true (λk=>eR (iK φ) [x45,x46] s k) s λx47 s=>eI x43 true (λk=>eR (jW φ) [x44,x47] s k) s λx48 s=>fX x43 x48 (.b false) s λx49 s=>eI x49 true (λk=>eR (aw φ) [] s k) s λx50 s=>fX x49 x50 (.b false) s λx51 s=>eX false s x51 some)
def Qb(aw:Nat→List D→Option D)(φ:Nat)(a2 x3:D)(s:LS):Rs:=
 eS 1 s x3 λx21 s=>eR (gm φ) [x21] s λx22 s=>eS 1 s x3 λx23 s=>eR (jV φ) [x23,a2] s λx24 s=>jY 2 [(.i .i64 (.ofNat 0))] [(0,1,x22),(1,1,x24)] s λx25 s=>eR (ka φ) [x25] s λx26 s=>jn (gJ aw φ) λj27=>gx x26 (.i .i64 (.ofNat 0)) λx52=>eQ x52 (ek a2 s λx53 s=>lp (λ(_ _ _ _ _ _:D)(_:LS)=>none) (gj aw φ j27) φ a2 x3 x26 a2 x53 (.i .i64 (.ofNat 0)) s) (j27 a2 x3 x26 s)
theorem Wq(hn:l.length=n)(he:CW (qL l) (ux l LL)≠0)(hb0:bs[0]?=some ⟨[.tree (raw l) n e],.rw⟩)(hφ:3000000000≤φ)(hA:∀(s:LS)(K:D→LS→Rs),eR (aw φ) [] s K=K (.b true) s):
 gJ aw φ (.tree (LL.map rwT) LL.length el) (.ptr 0 0) (.i .i64 (.ofNat (CW (qL l) (ux l LL)))) (mem bs)=some (.b true):=by
 have hx:=PC (φ:=φ) (e:=e) (el:=el) hn he hφ;unfold gJ;exact th (qB hb0) (th (fP hx) (th mS (th mR (th (qU he) (th eP (th (qE rfl) (th fD (th fD (th fH (th fD (th (qE rfl) (th fe (th fD ((hA _ _).trans (th fe rP)))))))))))))))
theorem Ya(h0:qL l=0)(h1:ux l LL=0)(h4:DR l=true)(hl:LL.length≤4)(h8:∀p,p∈LL→(iR p.1).any wx=false)(hb0:bs[0]?=some ⟨[.tree (raw l) l.length e],.rw⟩)(hφ:3000000000≤φ)(hA:∀(s:LS)(K:D→LS→Rs),eR (aw φ) [] s K=K (.b true) s):
 gJ aw φ (.tree (LL.map rwT) LL.length el) (.ptr 0 0) (.i .i64 (.ofNat 0)) (mem bs)=some (.b true):=by
 have hels:∀p,p∈LL→u9 l p.1=0:=J9 (by unfold ux at h1;rwa[aE (by omega)]at h1);obtain⟨Q1,Q2,e1,e2,q0,q1,q2,q3,q4⟩:=NH (φ:=φ) (e:=e) (el:=el) (BH h0) h4 hl hels h8 hφ;have hx:=Sw (φ:=φ) (e:=e) (el:=el) (LL:=LL) rfl h0 h1 hφ q3 q2 q1;have hs:=MY (φ:=φ) (ex:=e1) (ey:=e2) q0 q1 (λq hq=>(q2 q hq).1) (by omega);unfold gJ;exact th (qB hb0) (th (fP hx) (th mS (th mR (th (o6 rfl) (th eM (th (qE rfl) (th fD (th fD (th (qB hb0) (th fD (th fD (th (fP q4) (th fD (th (fP hs) (th fe (th fD ((hA _ _).trans (th fe rP))))))))))))))))))
theorem Y9(hE:∀p,p∈LL→u9 l p.1=0)(hL:LL.length<1000000)(hφ:3000000000≤φ)(hb0:bs[0]?=some ⟨[.tree (raw l) l.length e],.rw⟩)(hA:∀(s:LS)(K:D→LS→Rs),eR (aw φ) [] s K=K (.b true) s){j27:D→D→D→LS→Rs}{x57:D}
 (hj:(∀p,p∈LL→(iR p.1).any wx=false)→j27 (.tree (LL.map rwT) LL.length el) (.ptr 0 0) x57 (mem bs)=some (.b true)):
 ∀(t i fu:Nat),i+t=LL.length→t<fu→(∀p,p∈LL.take i→(iR p.1).any wx=false)→
 lp (λ(_ _ _ _ _ _:D)(_:LS)=>none) (gj aw φ j27) fu (.tree (LL.map rwT) LL.length el) (.ptr 0 0) x57 (.tree (LL.map rwT) LL.length el) (.i .i64 (.ofNat LL.length)) (.i .i64 (.ofNat i)) (mem bs)=some (.b true):=by
 intro t
 induction t with
 |zero=>
  intro i fu hi hf h8;obtain⟨fu,rfl⟩:∃q,fu=q+1:=⟨fu-1,by omega⟩
  rw[eO];unfold gj;exact th (fy (by omega)) (th eM (hj (by rw[aM (by omega)]at h8;exact h8)))
 |succ t ih=>
  intro i fu hi hf h8;obtain⟨fu,rfl⟩:∃q,fu=q+1:=⟨fu-1,by omega⟩
  have hil:i<LL.length:=by omega
  have hW:=Gh (φ:=φ) (e:=e) (ex:=LL[i].2) (l:=l) (r:=LL[i].1) rfl rfl (hE _ (bK hil)) hφ;rw[eO]
  conv=>lhs;unfold gj
  refine th (fk (by omega)) (th eP (th (t8 (d:=rwT LL[i]) (by rw[au,aB hil];rfl) (by rw[aI])) (th (qB hb0) (th (fP hW) (th wO ?_)))));rcases qF ((iR LL[i].1).any wx)with h|h
  ·rw[h];refine th eM (th (fM (by omega)) (ih (i+1) fu (by omega) (by omega) λp hp=>?_));rw[c9 hil]at hp;rcases am.1 hp with hp|hp
   ·exact h8 p hp
   ·rw[bi]at hp;subst hp;exact h
  ·rw[h];exact th eP ((hA _ _).trans rP)
theorem Qa(hg:qL l=0→DR l=true∧(LL.length≤256→LL.length≤4))(hb0:bs[0]?=some ⟨[.tree (raw l) l.length e],.rw⟩)(hφ:3000000000≤φ)(hA:∀(s:LS)(K:D→LS→Rs),eR (aw φ) [] s K=K (.b true) s):
 Qb aw φ (.tree (LL.map rwT) LL.length el) (.ptr 0 0) (mem bs)=some (.b true):=by
 have hF:=Gg (φ:=φ) (e:=e) (l:=l) rfl hφ;have hE:=WD (φ:=φ) (e:=e) (el:=el) (l:=l) (LL:=LL) rfl hφ;have hfi:=(WB (φ:=φ) (a:=qL l) (b:=ux l LL)).resolve_right (by omega);have hb1:(bs++[(⟨[.i .i64 (.ofNat (qL l)),.i .i64 (.ofNat (ux l LL))],.rw⟩:Blk)])[0]?=some ⟨[.tree (raw l) l.length e],.rw⟩:=gY hb0;unfold Qb;refine th (qB hb0) (th (fP hF) (th (qB hb0) (th (fP hE) (th (Ze rfl rfl rfl rfl) (th (Tu (z:=1) (n:=2) (cs:=[.i .i64 (.ofNat (qL l)),.i .i64 (.ofNat (ux l LL))]) (by simp) (λF=>rfl) rfl hfi rfl) ?_)))));by_cases he:CW (qL l) (ux l LL)=0
 ·have h0:qL l=0:=by
   unfold CW at he;by_cases h:qL l=0
   ·exact h
   ·rw[aE h]at he;exact he
  have h1:ux l LL=0:=by
   unfold CW at he;rw[aC h0]at he;exact he
  have hle:LL.length≤256:=by
   unfold ux at h1;by_cases h:256<LL.length
   ·rw[aC h]at h1;cases h1
   ·omega
  obtain⟨g1,g2⟩:=hg h0;have g3:=g2 hle;rw[he];refine th (qE rfl) (th eP (th fH ?_));exact Y9 (J9 (by unfold ux at h1;rwa[aE (by omega)]at h1)) (by omega) hφ hb1 hA (λh8=>Ya h0 h1 g1 g3 h8 hb1 hφ hA) LL.length 0 φ (by omega) (by omega) (by simp)
 ·refine th (tO he) (th eM ?_);exact Wq rfl he hb1 hφ hA
theorem F0(hφ:3000000000≤φ)(hA:∀(s:LS)(K:D→LS→Rs),eR (aw φ) [] s K=K (.b true) s):
 li aw φ [.agg [.tree (raw l) l.length e],.tree (LL.map rwT) LL.length el]=some (.b true):=by
 have hF:=Gg (φ:=φ) (e:=e) (l:=l) rfl hφ;have hb0:([]++[(⟨[.tree (raw l) l.length e],.rw⟩:Blk)])[0]?=some ⟨[.tree (raw l) l.length e],.rw⟩:=rfl;have hlast:∀s,(eR (aw φ) [] s λx36 s=>eX false s x36 some)=some (.b true):=λs=>(hA _ _).trans rP;have main:=λh=>Qa (aw:=aw) (φ:=φ) (el:=el) (LL:=LL) h hb0 hφ hA;unfold li;dsimp only[eV,eZ];rw[←fm];refine th (jB rfl) (th (qB hb0) (th (fP hF) ?_));have tail:(qL l=0→DR l=true)→(eI (.b false) false (λk=>k (.tree (LL.map rwT) LL.length el) (mem ([]++[(⟨[.tree (raw l) l.length e],.rw⟩:Blk)]))) (mem ([]++[(⟨[.tree (raw l) l.length e],.rw⟩:Blk)])) λx11 s=>eI (.b false) false (λk=>ek x11 s k) s λx12 s=>eI (.b false) false (λk=>kC x12 (.i .i64 (.ofNat 4)) λd=>k d s) s λx13 s=>eI (.b false) false (λk=>k x13 s) s λx14 s=>eI x14 true (λk=>k (.tree (LL.map rwT) LL.length el) s) s λx15 s=>eI x14 true (λk=>ek x15 s k) s λx16 s=>eI x14 true (λk=>ut x16 (.i .i64 (.ofNat 256)) λd=>k d s) s λx17 s=>eI (.b false) false (λk=>fX x14 x17 (.b false) s k) s λx18 s=>fX (.b false) (.b true) x18 s λx19 s=>eQ x19 (eR (aw φ) [] s λx20 s=>eX false s x20 some) (Qb aw φ (.tree (LL.map rwT) LL.length el) (.ptr 0 0) s))=some (.b true):=by
  intro h4;refine th gA (th gA (th fH (th gA ?_)));by_cases h5:4<LL.length
  ·refine th (mf h5) (th gA (th fD (th fD (th fH (th fD ?_)))));by_cases h6:LL.length≤256
   ·exact th (Pp h6) (th gA (th fe (th gE (th eP (hlast _)))))
   ·exact th (VI h6) (th gA (th fe (th gE (th eM (main λh=>⟨h4 h,λh7=>absurd h7 h6⟩)))))
  ·exact th (oO h5) (th gA (th fj (th fj (th fj (th gA (th gE (th gE (th eM (main λh=>⟨h4 h,λ_=>by omega⟩)))))))))
 by_cases h0:qL l=0
 ·have hW:=ZT (φ:=φ) (e:=e) (l:=l) rfl h0 hφ;refine th (qE h0) (th fD (th (qB hb0) (th fD (th (fP hW) (th fD (th wO (th fe ?_)))))));rcases qF (DR l)with h4|h4
  ·rw[h4];exact th jZ (th jZ (th jZ (th jZ (th uS (th uS (th uS (th jZ (th fe (th eP (hlast _))))))))))
  ·rw[h4];exact tail λ_=>h4
 ·refine th (tO h0) (th fj (th fj (th fj (th gE ?_))));exact tail λh=>absurd h h0
end
section
variable {im:Nat→Option Nat} {P:Program} {w w':World} {okp:Nat→Nat→Prop} {H:Type} {enc:TypeId×Value→H} {spare:Nat→Bool} {held:Bool}
variable {tq tz tn tb ts tf tl:TypeId} {f1 f2 g1 g2 fp:Field}
theorem OG{b:Nat}:∀(n o:Nat),(∀i,i<n→∃(l:List RQ)(v:Value),w.cell? ⟨b,o+i,none⟩=some v∧TR im w okp (.tree (raw l) l.length false) v)→∃LL:List (List RQ×Bool),LL.length=n∧TRc im w okp (LL.map rwT) b o
 |0,o,_=>⟨[],rfl,by simp[TRc]⟩
 |n+1,o,h=>by
  obtain⟨l,v,h1,h2⟩:=h 0 (by omega);obtain⟨LL,hl,ht⟩:=OG n (o+1) (λi hi=>by
   have:=h (i+1) (by omega);rw[show o+(i+1)=o+1+i by omega]at this;exact this)
  refine⟨(l,false)::LL,by simp[hl],?_⟩;rw[bB];unfold rwT at ht ⊢;simp only[TRc];exact⟨⟨v,h1,h2⟩,ht⟩
theorem XR{a:Addr}{cs:List Value}(h:w.cells? 0 a 1=some cs):∃v,cs=[v]∧w.cell? (a.add 0)=some v:=by
 unfold World.cells? at h;rw[aC (a9 _),show List.range 1=[0]from rfl]at h;simp only[z0M,List.mapM_nil,Option.bind_eq_bind,Option.pure_def]at h;cases h0:w.cell? (a.add 0)with
 |none=>rw[h0]at h;simp at h
 |some u0=>
  rw[h0]at h;simp at h;exact⟨u0,h.symm,rfl⟩
theorem PK(h:QT P tq tz tn tb f1 f2 g1 g2)(hs:P.underlying ts=some (.slice tq))(hl:P.underlying tl=some (.slice ts))(hc1:P.cellsOf ts=1){fuel:Nat}{v:Value}{x:DataW H×List MemPlace}(hx:DataW.trod enc P w 0 spare held fuel tl [v]=some x):
 ∃LL:List (List RQ×Bool),TR im w (λb _=>b<w.heap.size) (.tree (LL.map rwT) LL.length false) v:=by
 rcases DataW.trod_slice hl hx with⟨hc,_⟩|⟨a,len,cap,elems,rest,n,_,hc,_,_,hlc,_,hel,hi,_⟩
 ·have hv:v=.slice none 0 0:=by injection hc
  refine⟨[],?_⟩;rw[hv,z1x];simp only[TR];exact⟨none,0,rfl,aD _,(λh=>by cases h),λh=>absurd rfl h⟩
 ·have hv:v=.slice (some a) len cap:=by injection hc
  have pre:∀i,i<len→∃(l:List RQ)(v:Value),w.cell? ((a.add (i*1)).add 0)=some v∧TR im w (λb _=>b<w.heap.size) (.tree (raw l) l.length false) v:=by
   intro i hil;have h1:=hi i hil;rw[aB (by omega),hc1]at h1;obtain⟨cs,h2,h3⟩:=Option.bind_eq_some_iff.1 h1;obtain⟨v,rfl,h4⟩:=XR h2;obtain⟨l,hl⟩:=K3 (im:=im) h hs h3;exact⟨l,v,h4,hl⟩
  have hsb:0<len→a.spot=none∧a.block<w.heap.size:=λh0=>by
   obtain⟨l,v,c1,_⟩:=pre 0 h0;have e:(a.add (0*1)).add 0=a:=rfl;rw[e]at c1;exact Ld c1
  obtain⟨LL,hl,ht⟩:=OG (im:=im) (w:=w) (okp:=λb _=>b<w.heap.size) (b:=a.block) len a.off (λi hil=>by
   obtain⟨l,v,c1,c2⟩:=pre i hil;obtain⟨hsp,hbl⟩:=hsb (by omega);rw[add_eq hsp,add_eq rfl,ai,bH]at c1;exact⟨l,v,c1,c2⟩)
  refine⟨LL,?_⟩;rw[hv];simp only[TR];refine⟨some a,cap,by rw[hl],by omega,(λh=>by cases h),λhne=>?_⟩;have hl0:0<len:=by
   rcases bL len with h0|h0
   ·exfalso;apply hne;have:LL=[]:=a8 (by omega);rw[this];rfl
   ·exact h0
  obtain⟨hsp,hbl⟩:=hsb hl0;exact⟨a,rfl,hsp,λj _=>hbl,ht⟩
end
end
end Go.Proofs.YthljpappkomocaaGreat
