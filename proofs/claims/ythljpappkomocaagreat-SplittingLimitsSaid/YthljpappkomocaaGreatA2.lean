/- What the evaluator and the residuals compute. -/
import Derived.Test.YthljpappkomocaaGreatA1
import Derived.KernelRfl
import Derived.IntWalk
set_option linter.all false
namespace Go.Proofs.Ev
noncomputable section
def KF(o:Option (List Nat))(c:C):C:=
 match o with
 |some ls=>.cut ls c
 |none=>c
def Jv:C->List (Option (List Nat))->(C->List (Option (List Nat))->C)->C
 |.seq a b,an,k=>match an with
  |[]=>k (.seq a b) []
  |o::an=>Jv a an λa an=>Jv b an λb an=>k (.seq a (KF o b)) an
 |.loop c,an,k=>match an with
  |[]=>k (.loop c) []
  |o::an=>Jv c an λc an=>k (.loop (KF o c)) an
 |.cond x a b,an,k=>Jv a an λa an=>Jv b an λb an=>k (.cond x a b) an
 |.block id c,an,k=>Jv c an λc an=>k (.block id c) an
 |c,an,k=>k c an
def Li(o:Option (List Nat))(c:C):(KF o c).er=c.er:=by cases o<;>rfl
def YK(X:C):∀(c:C)(an:List (Option (List Nat)))(k:C->List (Option (List Nat))->C),(∀c' an',c'.er=c.er->(k c' an').er=X)->(Jv c an k).er=X:=by
 intro c
 induction c with
 |seq a b iha ihb=>
  intro an k h;cases an with
  |nil=>exact h _ _ rfl
  |cons o an=>
   refine iha _ _ (λa' an' ha=>ihb _ _ (λb' zg2 hb=>h _ _ ?_));show C.seq a'.er (KF o b').er=C.seq a.er b.er;rw[Li,ha,hb]
 |loop c ih=>
  intro an k h;cases an with
  |nil=>exact h _ _ rfl
  |cons o an=>
   refine ih _ _ (λc' an' hc=>h _ _ ?_);show C.loop (KF o c').er=C.loop c.er;rw[Li,hc]
 |cond x a b iha ihb=>
  intro an k h;refine iha _ _ (λa' an' ha=>ihb _ _ (λb' zg2 hb=>h _ _ ?_));show C.cond x a'.er b'.er=C.cond x a.er b.er;rw[ha,hb]
 |block id c ih=>
  intro an k h;refine ih _ _ (λc' an' hc=>h _ _ ?_);show C.block id c'.er=C.block id c.er;rw[hc]
 |_=>intro an k h;exact h _ _ rfl
def z1g(P:Program)(im:Nat->Option Nat)(nt:Nat)(ops:List Oper)(draw:Bool):(Lu P im nt ops draw).er=Lu P im nt ops draw:=by
 unfold Lu;split
 ·split<;>rfl
 ·rfl
def GZ(P:Program)(im:Nat->Option Nat)(nt:Nat):∀(c:Code),(jv P im nt c).er=jv P im nt c:=by
 intro c
 induction c with
 |region k ops draw=>exact z1g P im nt _ _
 |seq a b iha ihb=>simp only[jv,C.er,iha,ihb]
 |cond x a b iha ihb=>simp only[jv,C.er,iha,ihb]
 |block id c ih=>simp only[jv,C.er,ih]
 |loop c ih=>simp only[jv,C.er,ih]
 |scope c ih=>simp only[jv,ih]
 |_=>rfl
def qW(P:Program)(im:Nat->Option Nat)(mode:Nat)(an:List (Option (List Nat)))(fn:Func):Fun:=
 ⟨fn.params.size,fn.results.toList.map (ES P),mode,Jv (zj P im mode fn).body an λc _=>c⟩
def Jc(P:Program)(im:Nat->Option Nat)(mode:Nat)(an:List (Option (List Nat)))(fn:Func):(qW P im mode an fn).er=zj P im (qW P im mode an fn).mode fn:=by
 have hb:(zj P im mode fn).body.er=(zj P im mode fn).body:=by
  unfold zj;split
  ·split
   ·exact GZ P im _ _
   ·rfl
  ·rfl
 have h:(qW P im mode an fn).body.er=(zj P im mode fn).body:=
  YK _ _ _ _ (λc' an' h=>by rw[h,hb])
 show(⟨_,_,_,(qW P im mode an fn).body.er⟩:Fun)=_;rw[h];rfl
def imA(F:Nat):List Nat->Nat->Option Nat
 |[],_=>none
 |x::r,i=>cnd (Nat.beq F x) (some i) (imA F r (Nat.succ i))
def LP{F n:Nat}:∀{l:List Nat}{i:Nat},imA F l i=some n->i<=n/\l[n-i]?=some F
 |[],i,h=>by cases h
 |x::r,i,h=>by
  simp only[imA]at h;cases hb:Nat.beq F x with
  |true=>
   rw[hb]at h;have:=aT hb;subst this;simp only[fH,aA]at h;subst h;simp
  |false=>
   rw[hb]at h;obtain⟨h1,h2⟩:=LP (show imA F r (Nat.succ i)=some n from h);refine⟨eP,?_⟩;have:n-i=(n-Nat.succ i)+1:=eP;rw[this];exact h2
def oQ(T:qP)(n:Nat)(ft:FT):qP:=λm=>cnd (Nat.beq m n) (some ft) (T m)
structure Lib (P:Program) (im:Nat->Option Nat) (n:Nat) where
 Δ:Tr Ent
 T:qP
 TD:qP
 ok:DOk P im Δ
 tok:TOk Δ T
 dok:TOk Δ TD
 bd:∀m,n<=m->Δ.get m=none
section
variable {P:Program} {im:Nat->Option Nat} {n:Nat}
def Lib.nil:Lib P im 0:=⟨.nil,λ_=>none,λ_=>none,⟨λF f en _ h=>(by cases h)⟩,λn ft h=>(by cases h),λn ft h=>(by cases h),λ_ _=>rfl⟩
def LeT(Δ Δ':Tr Ent):Prop:=∀m en,Δ.get m=some en->Δ'.get m=some en
def Su{Δ Δ':Tr Ent}(hl:LeT Δ Δ'):∀(k:Nat)(j:Job)(r:Out),run Δ k j=some r->run Δ' k j=some r:=by
 intro k
 induction k with
 |zero=>intro j r h;simp[run]at h
 |succ k ih=>
  intro j r h;cases j with
  |code c e σ=>
   cases c with
   |bad=>simp[run]at h
   |skip=>simpa only[run]using h
   |reg l=>simp only[run]at h;rw[run];exact ih _ _ h
   |seq a b=>
    simp only[run]at h;rw[run];split at h
    ·rename_i e1 σ1 h1;rw[ih _ _ h1];exact ih _ _ h
    ·rename_i x h1;rw[ih _ _ h];cases r with
     |val d σ=>rfl
     |code x e σ=>
      cases x with
      |nrm=>exact absurd h (h1 _ _)
      |exit id=>rfl
      |ret=>rfl
   |cond x a b=>
    simp only[run]at h;rw[run];split at h
    ·exact ih _ _ h
    ·exact ih _ _ h
    ·cases h
   |block id c=>
    simp only[run]at h;rw[run];split at h
    ·rename_i j e1 σ1 h1;rw[ih _ _ h1];exact h
    ·rename_i x h1;rw[ih _ _ h];cases r with
     |val d σ=>rfl
     |code x e σ=>
      cases x with
      |nrm=>rfl
      |exit j=>exact absurd h (h1 _ _ _)
      |ret=>rfl
   |loop c=>
    simp only[run]at h;rw[run];split at h
    ·rename_i e1 σ1 h1;rw[ih _ _ h1];exact ih _ _ h
    ·rename_i x h1;rw[ih _ _ h];cases r with
     |val d σ=>rfl
     |code x e σ=>
      cases x with
      |nrm=>exact absurd h (h1 _ _)
      |exit id=>rfl
      |ret=>rfl
   |exit id=>simpa only[run]using h
   |ret=>simpa only[run]using h
   |cut ls c=>simp only[run]at h;rw[run];exact ih _ _ h
  |ops l e σ=>
   cases l with
   |nil=>simpa only[run]using h
   |cons i l=>
    obtain⟨dst,gd,op⟩:=i;cases hg:gdv e gd with
    |none=>rw[OU hg]at h;cases h
    |some b=>
     cases b with
     |false=>
      rw[AJ hg]at h;rw[AJ hg];exact ih _ _ h
     |true=>
      by_cases hc:∃p f as,op=.call p f as
      ·obtain⟨p,f,as,rfl⟩:=hc;rw[AI hg]at h;rw[AI hg];split at h
       ·rename_i d σ1 h1;rw[ih _ _ h1];exact ih _ _ h
       ·cases h
      ·have hne:∀p f as,op≠.call p f as:=λp f as h=>hc ⟨p,f,as,h⟩;rw[wd hg hne]at h;rw[wd hg hne];split at h
       ·exact ih _ _ h
       ·split at h
        ·exact ih _ _ h
        ·cases h
  |call p f as σ=>
   cases f
   case fn f z6c=>
    rw[yB]at h;rw[yB];cases hΔ:Δ.get f with
    |none=>simp only[hΔ]at h;cases h
    |some en=>
     simp only[hΔ]at h;simp only[hl _ _ hΔ];cases en with
     |model M=>exact h
     |body F=>
      simp only at h ⊢;split at h
      ·split at h
       ·rename_i x e σ1 h1;simp only[ih _ _ h1];exact h
       ·cases h
      ·split at h
       ·rename_i as' ls hm;split at h
        ·rename_i x e σ1 h1;simp only[ih _ _ h1];exact h
        ·cases h
       ·cases h
   all_goals simp[run]at h
def Ao.le{Δ Δ':Tr Ent}(hl:LeT Δ Δ'){G:Fun}{M2:List D->LS->(D->LS->Rs)->Rs}(h:Ao Δ G M2):Ao Δ' G M2:=by
 intro as s σ k r hs hr;obtain⟨n,x,e,σ',s',d,h1,h2⟩:=h as s σ k r hs hr;exact⟨n,x,e,σ',s',d,Su hl _ _ _ h1,h2⟩
def Rw.le{Δ Δ':Tr Ent}(hl:LeT Δ Δ'){n:Nat}{ft:FT}(h:Rw Δ n ft):Rw Δ' n ft:=by
 cases ft with
 |iso M=>
  rcases h with h|⟨G,h1,h2,h3⟩
  ·exact .inl (hl _ _ h)
  ·refine .inr ⟨G,hl _ _ h1,h2,λas q hq=>?_⟩;obtain⟨n,x,e,σ,d,g1,g2⟩:=h3 as q hq;exact⟨n,x,e,σ,d,Su hl _ _ _ g1,g2⟩
 |mem M2=>
  obtain⟨G,h1,h2,h3⟩:=h;exact⟨G,hl _ _ h1,h2,h3.le hl⟩
def TOk.le{Δ Δ':Tr Ent}(hl:LeT Δ Δ'){T:qP}(h:TOk Δ T):TOk Δ' T:=λn ft hf=>(h n ft hf).le hl
def TOk.set{Δ:Tr Ent}{T:qP}(h:TOk Δ T){n:Nat}{ft:FT}(hf:Rw Δ n ft):TOk Δ (oQ T n ft):=by
 intro m ft' hm;unfold oQ at hm;cases hb:Nat.beq m n with
 |true=>
  rw[hb]at hm;have:=aT hb;subst this;cases hm;exact hf
 |false=>rw[hb]at hm;exact h m ft' hm
def LeT.set{Δ:Tr Ent}(hb:Δ.get n=none)(en:Ent):LeT Δ (Δ.set n en):=by
 intro m en' hm;rw[Tr.get_set];by_cases h:m=n
 ·subst h;rw[hb]at hm;cases hm
 ·rw[aG h];exact hm
structure FnOk (P:Program) (im:Nat->Option Nat) (n:Nat) (F:FuncId) (fn:Func):Prop where
 fun':P.funcs[F]?=some fn
 nm:(fn.name== "runtime.NumGoroutine")=false
 body:fn.body.isSome=true
 uniq:∀F',im F'=some n->F'=F
def Jh{Δ:Tr Ent}(h:DOk P im Δ){F:FuncId}{fn:Func}(hF:FnOk P im n F fn){en:Ent}(he:match en with
 |.body G=>G.er=zj P im G.mode fn
 |.model M=>Snd P im F M):DOk P im (Δ.set n en):=by
 refine⟨λF' f en' hf hen=>?_⟩;rw[Tr.get_set]at hen;by_cases hfn:f=n
 ·rw[aF hfn]at hen;cases hen;rw[hfn]at hf;have:=hF.uniq F' hf;subst this;obtain⟨c,hc⟩:=Option.isSome_iff_exists.1 hF.body;exact⟨fn,c,hF.fun',hF.nm,hc,he⟩
 ·rw[aG hfn]at hen;exact h.ent F' f en' hf hen
def Vn{Δ:Tr Ent}(h:∀m,n<=m->Δ.get m=none)(en:Ent):∀m,n+1<=m->(Δ.set n en).get m=none:=by
 intro m hm;rw[Tr.get_set,aG eP];exact h m eP
def Lib.iso(L:Lib P im n)(dyn:Bool){F:FuncId}{fn:Func}(hF:FnOk P im n F fn)(M:List D->Option D)(hM:Snd P im F M):Lib P im (n+1) where
 Δ:=L.Δ.set n (.model M)
 T:=oQ L.T n (.iso M)
 TD:=cnd dyn (oQ L.TD n (.iso M)) L.TD
 ok:=Jh L.ok hF hM
 tok:=(L.tok.le (LeT.set (L.bd n (aC _)) _)).set (Or.inl (by rw[Tr.get_set,aF rfl]))
 dok:=by
  have h:=L.dok.le (LeT.set (L.bd n (aC _)) (.model M));cases dyn
  ·exact h
  ·exact h.set (Or.inl (by rw[Tr.get_set,aF rfl]))
 bd:=Vn L.bd _
def Lib.mem(L:Lib P im n)(dyn:Bool){F:FuncId}{fn:Func}(hF:FnOk P im n F fn)(an:List (Option (List Nat)))(M2:List D->LS->(D->LS->Rs)->Rs)(hM:Ao (L.Δ.set n (.body (qW P im 2 an fn))) (qW P im 2 an fn) M2):Lib P im (n+1) where
 Δ:=L.Δ.set n (.body (qW P im 2 an fn))
 T:=oQ L.T n (.mem M2)
 TD:=cnd dyn (oQ L.TD n (.mem M2)) L.TD
 ok:=Jh L.ok hF (Jc P im 2 an fn)
 tok:=(L.tok.le (LeT.set (L.bd n (aC _)) _)).set ⟨_,by rw[Tr.get_set,aF rfl],rfl,hM⟩
 dok:=by
  have h:=L.dok.le (LeT.set (L.bd n (aC _)) (.body (qW P im 2 an fn)));cases dyn
  ·exact h
  ·exact h.set ⟨_,by rw[Tr.get_set,aF rfl],rfl,hM⟩
 bd:=Vn L.bd _
def Lib.snd(hm:P.follows .mixedOrders=true)(L:Lib P im n){F:FuncId}{fn:Func}(hf:P.funcs[F]?=some fn)(hb:fn.body.isSome=true)(φ na mode:Nat)(an:List (Option (List Nat))){M:List D->Option D}
 (h:BW φ L.T L.TD na (qW P im mode an fn)=M):Snd P im F M:=by
 obtain⟨c,hc⟩:=Option.isSome_iff_exists.1 hb;rw[<-h];exact VY hm L.ok L.tok L.dok hf hc (Jc P im mode an fn) φ na
def Lib.sndRec(hm:P.follows .mixedOrders=true)(L:Lib P im n)(dyn:Bool){F:FuncId}{fn:Func}(hF:FnOk P im n F fn)(φ na mode:Nat)(an:List (Option (List Nat))){step:(List D->Option D)->List D->Option D}
 (h:(λih=>BW φ (oQ L.T n (.iso ih)) (cnd dyn (oQ L.TD n (.iso ih)) L.TD) na (qW P im mode an fn))=step):∀i:Nat,Snd P im F (lp (λ_=>none) step i):=by
 intro i
 induction i with
 |zero=>intro as r hr;cases hr
 |succ i ih=>
  have h2:=Lib.snd hm (L.iso dyn hF _ ih) hF.fun' hF.body φ na mode an rfl;have h3:=congrFun h (lp (λ_=>none) step i);show Snd P im F (step (lp (λ_=>none) step i));rw[<-h3];exact h2
def Lib.memOk(L:Lib P im n)(en:Ent)(G:Fun)(φ na:Nat){M2:List D->LS->(D->LS->Rs)->Rs}(h:BY φ L.T L.TD na G=M2):Ao (L.Δ.set n en) G M2:=by
 rw[<-h];have hl:=LeT.set (L.bd n (aC _)) en;exact D7 (L.tok.le hl) (L.dok.le hl)
def Lib.memRec(L:Lib P im n)(dyn:Bool)(an:List (Option (List Nat)))(fn:Func)(φ na:Nat){step:(List D->LS->(D->LS->Rs)->Rs)->List D->LS->(D->LS->Rs)->Rs}
 (h:(λih=>BY φ (oQ L.T n (.mem ih)) (cnd dyn (oQ L.TD n (.mem ih)) L.TD) na (qW P im 2 an fn))=step):∀i:Nat,Ao (L.Δ.set n (.body (qW P im 2 an fn))) (qW P im 2 an fn) (lp (λ_ _ _=>none) step i):=by
 intro i;have hl:=LeT.set (L.bd n (aC _)) (.body (qW P im 2 an fn))
 induction i with
 |zero=>intro as s σ k r hs hr;cases hr
 |succ i ih=>
  have hft:Rw (L.Δ.set n (.body (qW P im 2 an fn))) n (.mem (lp (λ_ _ _=>none) step i)):=⟨_,by rw[Tr.get_set,aF rfl],rfl,ih⟩
  have h3:=congrFun h (lp (λ_ _ _=>none) step i);show Ao _ _ (step (lp (λ_ _ _=>none) step i));rw[<-h3];refine D7 ((L.tok.le hl).set hft) ?_;cases dyn
  ·exact L.dok.le hl
  ·exact(L.dok.le hl).set hft
def AC(P:Program)(im:Nat->Option Nat)(n:Nat)(T TD:qP):Prop:=∃L:Lib P im n,L.T=T/\L.TD=TD
variable {T TD:qP}
def AC.nil:AC P im 0 (λ_=>none) (λ_=>none):=⟨Lib.nil,rfl,rfl⟩
def AC.iso(h:AC P im n T TD)(dyn:Bool){F:FuncId}{fn:Func}(hF:FnOk P im n F fn){M:List D->Option D}(hM:Snd P im F M):
 AC P im (n+1) (oQ T n (.iso M)) (cnd dyn (oQ TD n (.iso M)) TD):=by
 obtain⟨L,rfl,rfl⟩:=h;exact⟨L.iso dyn hF M hM,rfl,rfl⟩
def AC.snd(h:AC P im n T TD)(hm:P.follows .mixedOrders=true){F:FuncId}{fn:Func}(hF:FnOk P im n F fn){φ na mode:Nat}{an:List (Option (List Nat))}{M:List D->Option D}
 (he:BW φ T TD na (qW P im mode an fn)=M):Snd P im F M:=by
 obtain⟨L,rfl,rfl⟩:=h;exact Lib.snd hm L hF.fun' hF.body φ na mode an he
def AC.sndRec(h:AC P im n T TD)(hm:P.follows .mixedOrders=true)(dyn:Bool){F:FuncId}{fn:Func}(hF:FnOk P im n F fn){φ na mode:Nat}{an:List (Option (List Nat))}{step:(List D->Option D)->List D->Option D}
 (he:(λih=>BW φ (oQ T n (.iso ih)) (cnd dyn (oQ TD n (.iso ih)) TD) na (qW P im mode an fn))=step) (i:Nat):Snd P im F (lp (λ_=>none) step i):=by
 obtain⟨L,rfl,rfl⟩:=h;exact Lib.sndRec hm L dyn hF φ na mode an he i
def AC.mem(h:AC P im n T TD)(dyn:Bool){F:FuncId}{fn:Func}(hF:FnOk P im n F fn){φ na:Nat}{an:List (Option (List Nat))}{M2:List D->LS->(D->LS->Rs)->Rs}
 (he:BY φ T TD na (qW P im 2 an fn)=M2):AC P im (n+1) (oQ T n (.mem M2)) (cnd dyn (oQ TD n (.mem M2)) TD):=by
 obtain⟨L,rfl,rfl⟩:=h;exact⟨L.mem dyn hF an M2 (L.memOk _ _ φ na he),rfl,rfl⟩
def AC.memRec(h:AC P im n T TD)(dyn:Bool){F:FuncId}{fn:Func}(hF:FnOk P im n F fn){φ na:Nat}{an:List (Option (List Nat))}{step:(List D->LS->(D->LS->Rs)->Rs)->List D->LS->(D->LS->Rs)->Rs}
 (he:(λih=>BY φ (oQ T n (.mem ih)) (cnd dyn (oQ TD n (.mem ih)) TD) na (qW P im 2 an fn))=step) (i:Nat):
 AC P im (n+1) (oQ T n (.mem (lp (λ_ _ _=>none) step i))) (cnd dyn (oQ TD n (.mem (lp (λ_ _ _=>none) step i))) TD):=by
 obtain⟨L,rfl,rfl⟩:=h;exact⟨L.mem dyn hF an _ (L.memRec dyn an fn φ na he i),rfl,rfl⟩
def Xy{l:List Nat}{F:FuncId}{fn:Func}(h1:P.funcs[F]?=some fn)(h2:(fn.name== "runtime.NumGoroutine")=false)(h3:fn.body.isSome=true)(h4:l[n]?=some F):FnOk P (λF=>imA F l 0) n F fn:=
 ⟨h1,h2,h3,λF' h=>by
  have:=(LP h).2;rw[zne,h4]at this;exact(cJ this).symm⟩
end
abbrev fB:D:=(.i .i64 (.ofNat 0))
abbrev ej:D:=(.i .i64 (.ofNat 1))
abbrev pU:D:=(.i .i64 (.ofNat 2))
abbrev lC:D:=(.i .i64 (.negSucc 0))
abbrev gj:D:=(.tree [] 0 true)
abbrev gL:List D:=[(.b false),(.n 0)]
abbrev iw:List D:=[(.b false),(.n 0),(.n 0)]
abbrev wn:List D:=[(.tree [] 0 true),(.tree [] 0 true),(.tree [] 0 true)]
abbrev ms:List D:=[(.tree [] 0 true)]
abbrev lL:List D:=[(.i .i64 (.ofNat 0))]
abbrev li:D->D->LS->Rs:=(λ(_ _:D)(_:LS)=>none)
abbrev vN:D->D->D->LS->Rs:=(λ(_ _ _:D)(_:LS)=>none)
abbrev jc:D->D->D->D->LS->Rs:=(λ(_ _ _ _:D)(_:LS)=>none)
abbrev gQ:D->D->D->D->D->LS->Rs:=(λ(_ _ _ _ _:D)(_:LS)=>none)
abbrev iH:D->D->D->D->D->D->LS->Rs:=(λ(_ _ _ _ _ _:D)(_:LS)=>none)
abbrev lK:D->D->D->D->D->D->D->LS->Rs:=(λ(_ _ _ _ _ _ _:D)(_:LS)=>none)
abbrev pu:D->D->D->D->D->D->D->D->LS->Rs:=(λ(_ _ _ _ _ _ _ _:D)(_:LS)=>none)
abbrev tR:D->D->D->D->D->D->D->D->D->LS->Rs:=(λ(_ _ _ _ _ _ _ _ _:D)(_:LS)=>none)
abbrev uh:D->D->D->D->D->D->D->D->D->D->LS->Rs:=(λ(_ _ _ _ _ _ _ _ _ _:D)(_:LS)=>none)
abbrev qI:D->D->D->D->D->D->D->D->D->D->D->LS->Rs:=(λ(_ _ _ _ _ _ _ _ _ _ _:D)(_:LS)=>none)
abbrev fK:Type:=D->LS->Rs
abbrev tS:Type:=D->D->LS->Rs
abbrev wW:Type:=D->D->D->LS->Rs
abbrev mu:Type:=D->D->D->D->LS->Rs
abbrev jo:Type:=D->D->D->D->D->LS->Rs
abbrev kT:Type:=D->D->D->D->D->D->LS->Rs
abbrev ov:Type:=D->D->D->D->D->D->D->LS->Rs
abbrev yx:Type:=D->D->D->D->D->D->D->D->LS->Rs
abbrev EK:Type:=D->D->D->D->D->D->D->D->D->LS->Rs
abbrev B8:Type:=D->D->D->D->D->D->D->D->D->D->LS->Rs
abbrev xE:Type:=D->D->D->D->D->D->D->D->D->D->D->LS->Rs
abbrev z1F:Type:=D->D->D->D->D->D->D->D->D->D->D->D->D->D->LS->Rs
abbrev gW(φ:Nat):Prop:=3000000000<=φ
abbrev fP:Type:=List D->Option D
abbrev eZ:Type:=List Nat
abbrev fZ:Type:=List Int
abbrev fN:Type:=List D
abbrev fQ:Type:=List Blk
variable {kk:IntKind} {a b n:Nat} {k:D->Rs} {s:LS} {K:fK}
def Kp{no:Rs}(h:n<=i9 kk):mkI kk n k no=k (.i kk (.ofNat n)):=by
 unfold mkI;rw[aD h,fH,fj]
def DO{no:Rs}:mkI .u64 n k no=k (.i .u64 (.ofNat (n%18446744073709551616))):=by
 unfold mkI;by_cases h:n<=i9 .u64
 ·rw[aD h,fH,fj];have:n<18446744073709551616:=Nat.lt_succ_of_le h;rw[am this]
 ·rw[il h,fq];rw[show Nat.beq (wM .u64) 0=false from rfl,fq,fj];rfl
def z2M{no:Rs}:mkI .u8 n k no=k (.i .u8 (.ofNat (n%256))):=by
 unfold mkI;by_cases h:n<=i9 .u8
 ·rw[aD h,fH,fj];have:n<256:=Nat.lt_succ_of_le h;rw[am this]
 ·rw[il h,fq];rw[show Nat.beq (wM .u8) 0=false from rfl,fq,fj];rfl
def qT{f:IntKind->Nat->Nat->Rs}{no:Rs}:on2 (.i kk (.ofNat a)) (.i kk (.ofNat b)) f no=f kk a b:=by
 show cnd (Nat.beq (wh kk) (wh kk)) (f kk a b) no=_;rw[gE];rfl
def kW(h:a+b<=i9 kk):f7 (.i kk (.ofNat a)) (.i kk (.ofNat b)) k=k (.i kk (.ofNat (a+b))):=by
 unfold f7;rw[qT];exact Kp h
def wO(h:a*b<=i9 kk):jZ (.i kk (.ofNat a)) (.i kk (.ofNat b)) k=k (.i kk (.ofNat (a*b))):=by
 unfold jZ;rw[qT];exact Kp h
def mQ(hb:b<=a)(h:a<=i9 kk):fe (.i kk (.ofNat a)) (.i kk (.ofNat b)) k=k (.i kk (.ofNat (a-b))):=by
 unfold fe;rw[qT,aD hb,fH];exact Kp (aX (Nat.sub_le _ _) h)
def ik(h:a≠b):Nat.beq a b=false:=by
 cases hq:Nat.beq a b with
 |false=>rfl
 |true=>exact absurd (aT hq) h
def GB(hb:b≠0)(h:a<=i9 kk):xW (.i kk (.ofNat a)) (.i kk (.ofNat b)) k=k (.i kk (.ofNat (a/b))):=by
 unfold xW;rw[qT,ik hb,fq];exact Kp (aX (dX _ _) h)
def sh(hb:b≠0):vX (.i kk (.ofNat a)) (.i kk (.ofNat b)) k=k (.i kk (.ofNat (a%b))):=by
 unfold vX;rw[qT,ik hb,fq,fj];rfl
def jp:gD (.i kk (.ofNat a)) (.i kk (.ofNat b)) k=k (.b (Nat.blt a b)):=by
 unfold gD;rw[qT,vW]
def qF:kH (.i kk (.ofNat a)) (.i kk (.ofNat b)) k=k (.b (Nat.blt b a)):=by
 unfold kH;rw[qT,vW]
def qG:iR (.i kk (.ofNat a)) (.i kk (.ofNat b)) k=k (.b (Nat.beq a b)):=by
 unfold iR;rw[qT,vW]
def ZA(ha:a<=i9 kk)(hb:b<=i9 kk):kOr (.i kk (.ofNat a)) (.i kk (.ofNat b)) k=k (.i kk (.ofNat (a|||b))):=by
 unfold kOr inK;rw[qT,aD ha,aD hb,fH,fH,fj];rfl
def PC(h:a<=b):A9 a b=a:=by unfold A9;rw[aD h];rfl
def yR{k2:IntKind}(hb:b<=64):BQ (.i .u64 (.ofNat a)) (.i k2 (.ofNat b)) k=k (.i .u64 (.ofNat (a*2^b%18446744073709551616))):=by
 show mkI .u64 (Nat.mul a (Nat.pow 2 (A9 b 64))) k _=_;rw[PC hb];exact DO
def wi{k2:IntKind}(hb:b<=64):pP (.i .u64 (.ofNat a)) (.i k2 (.ofNat b)) k=k (.i .u64 (.ofNat (a/2^b))):=by
 show(frc (Nat.div a (Nat.pow 2 (A9 b 64))) λn=>k (.i .u64 (.ofNat n)))=_;rw[PC hb,fj];rfl
def Fz{k2:IntKind}(h:n<=i9 kk):kV kk (.i k2 (.ofNat n)) s K=K (.i kk (.ofNat n)) s:=by
 show mkI kk n (λd=>K d s) _=_;exact Kp h
def LB{k2:IntKind}:kV .u8 (.i k2 (.ofNat n)) s K=K (.i .u8 (.ofNat (n%256))) s:=by
 show mkI .u8 n (λd=>K d s) _=_;exact z2M
def C5{m:Nat}:kS (.lens (.c (.n m))) s K=K (.i .i64 (.ofNat (fy m).length)) s:=by
 have he:evA s.nx cv s.get (.lens (.c (.n m)))=some (.i .i64 (.ofNat (fy m).length),[]):=rfl;unfold kS sA;rw[he];show wR _ _=_;rw[mq]
def LI{m i:Nat}{c:UInt8}{k2:IntKind}(h:(fy m)[i]?=some c):kS (.index (.c (.n m)) (.c (.i k2 (.ofNat i)))) s K=K (.i .u8 (.ofNat c.toNat)) s:=by
 have he:evA s.nx cv s.get (.index (.c (.n m)) (.c (.i k2 (.ofNat i))))=some (.i .u8 (.ofNat c.toNat),[]):=by
  simp only[evA,cv,str];rw[aF fU];have:(Int.ofNat i).toNat=i:=rfl;rw[this,pS h];rfl
 unfold kS sA;rw[he];show wR _ _=_;rw[mq]
def st1(cs:fN):LS:=⟨.node (some ⟨cs,.rw⟩) .nil .nil,1⟩
variable {cs:fN} {i len cm:Nat} {ex:Bool} {d:D} {k2:IntKind}
def vn:(st1 cs).get 0=some ⟨cs,.rw⟩:=rfl
def nC{off:Nat}(h:i<len):eT 1 (st1 cs) (.sl 0 off len cm 1 ex) (.i k2 (.ofNat i)) K=K (.ptr 0 (off+i)) (st1 cs):=by
 show iq (st1 cs) 0 (λb=>cnd (lv b.st) (cnd (Nat.blt i len) (cnd (Nat.beq 1 1) (frc (Nat.add off (Nat.mul i 1)) λo=>K (.ptr 0 o) (st1 cs)) none) none) none)=_;rw[oB,vn];show cnd (Nat.blt i len) (frc (Nat.add off (Nat.mul i 1)) λo=>K (.ptr 0 o) (st1 cs)) none=_;rw[fk h,fH,fj];have:Nat.add off (Nat.mul i 1)=off+i:=by show off+i*1=off+i;omega
 rw[this]
def si(h:cs[i]?=some d):eR (st1 cs) (.ptr 0 i) K=K d (st1 cs):=by
 show iq (st1 cs) 0 (λb=>cnd (lv b.st) (EN i b.cs λd=>K d (st1 cs)) none)=_;rw[oB,vn];show EN i cs (λd=>K d (st1 cs))=_;rw[CK,h];rfl
def CY{α:Type}{x:α}{l:List α}(h:i<l.length):A8 i [x] l=some (l.set i x):=by
 unfold A8;rw[aF (by simp;omega),dH,aF h];simp
def u9(h:i<cs.length):fA 1 (st1 cs) (.ptr 0 i) (.i kk (.ofNat n)) K=K .u (st1 (cs.set i (.i kk (.ofNat n)))):=by
 show iq (st1 cs) 0 (λb=>cnd (wr b.st) (xU i [.i kk (.ofNat n)] b.cs λcs'=>oh (st1 cs) 0 ⟨cs',.rw⟩ λs=>K .u s) none)=_;rw[oB,vn];show(xU i [.i kk (.ofNat n)] cs λcs'=>oh (st1 cs) 0 ⟨cs',.rw⟩ λs=>K .u s)=_;rw[qE,CY h];rfl
def wA(z:D):∀n,mf n [z]=List.replicate n z
 |0=>rfl
 |n+1=>by
  show z::mf n [z]=_;rw[wA z n];rfl
def z7{bytes:Nat}{z:D}(h1:n<=140737488355328)(h2:n*bytes<=140737488355328):io 1 bytes [z] s0 (.i .i64 (.ofNat n)) (.i .i64 (.ofNat n)) K=K (.sl 0 0 n n 1 true) (st1 (List.replicate n z)):=by
 unfold io;rw[qT];show cnd (Nat.ble n n) (cnd (Nat.ble n 140737488355328) (cnd (Nat.ble (Nat.mul n bytes) 140737488355328) (xt [z] n λcs=>lh s0 ⟨cs,.rw⟩ λs'=>K (.sl 0 0 n n 1 true) s') none) none) none=_;rw[aD (aC n),aD h1,aD (show Nat.mul n bytes<=140737488355328 from h2)];simp only[fH];rw[tK,wA,lH];rfl
def TB{cs:fN}{len:Nat}(hc:cs.all oH=true)(hl:cs.length=len):fO true (st1 cs) (.sl 0 0 len len 1 true) some=some (.own cs len 1):=by
 unfold fO;rw[lJ];show sk (lf true (st1 cs).get gJ (.sl 0 0 len len 1 true)) some=_;have:lf true (st1 cs).get gJ (.sl 0 0 len len 1 true)=some (.own cs len 1):=by
  have z6f:cut 0 (len*1) cs=some cs:=by
   unfold cut;rw[a7,a9,<-hl,bV];simp
  have hm:i8 (res (st1 cs).get gJ) cs=some (cs,[]):=mG (k:=59) cs hc;simp only[lf,vL,vn,Stt.wr,bf,z6f,hm];rfl
 rw[this,gc];rfl
end
end Go.Proofs.Ev
namespace Go.Proofs.Ev
abbrev B64:Nat:=18446744073709551616
def val:eZ->Nat
 |[]=>0
 |w::ws=>w+B64*val ws
def dg:Nat->Nat->eZ
 |0,_=>[]
 |n+1,m=>m%B64::dg n (m/B64)
def lk(ws:eZ):Prop:=∀w,w∈ws->w<B64
def VW:∀{ws:eZ},lk ws->dg ws.length (val ws)=ws
 |[],_=>rfl
 |w::ws,h=>by
  have h1:w<B64:=h w fU;show(w+B64*val ws)%B64::dg ws.length ((w+B64*val ws)/B64)=w::ws;have e1:(w+B64*val ws)%B64=w:=by rw[cQ,am h1]
  have e2:(w+B64*val ws)/B64=val ws:=by
   rw[Nat.add_mul_div_left _ _ eV,cq h1,aN]
  rw[e1,e2,VW (λx hx=>h x (by simp[hx]))]
def Av:∀{ws:eZ},lk ws->val ws<B64^ws.length
 |[],_=>by simp[val]
 |w::ws,h=>by
  have h1:w<B64:=h w fU;have h2:=Av (ws:=ws) (λx hx=>h x (by simp[hx]));show w+B64*val ws<B64^(ws.length+1);rw[bI,aL (B64^ws.length)];have h3:B64*(val ws+1)<=B64*B64^ws.length:=ae _ h2;rw[bK,a9]at h3;omega
def AG:∀{ws:eZ}{j w:Nat},lk ws->ws[j]?=some w->w=val ws/B64^j%B64
 |[],j,w,_,h=>by simp at h
 |x::ws,0,w,hs,h=>by
  simp only[ax,aA]at h;subst h;have h1:x<B64:=hs x fU;rw[dI,Nat.div_one];show x=(x+B64*val ws)%B64;rw[cQ,am h1]
 |x::ws,j+1,w,hs,h=>by
  simp only[bP]at h;have h1:x<B64:=hs x fU;have ih:=AG (λy hy=>hs y (by simp[hy])) h;have e2:(x+B64*val ws)/B64=val ws:=by
   rw[Nat.add_mul_div_left _ _ eV,cq h1,aN]
  show w=(x+B64*val ws)/B64^(j+1)%B64;rw[bI,aL (B64^j),<-Nat.div_div_eq_div_mul,e2];exact ih
def OB:∀{ws:eZ}{j w:Nat}(y:Nat),ws[j]?=some w->val (ws.set j (w+y))=val ws+y*B64^j
 |[],j,w,y,h=>by simp at h
 |x::ws,0,w,y,h=>by
  simp only[ax,aA]at h;subst h;show x+y+B64*val ws=x+B64*val ws+y*B64^0;rw[dI];omega
 |x::ws,j+1,w,y,h=>by
  simp only[bP]at h;have ih:=OB y h;show x+B64*val (ws.set j (w+y))=x+B64*val ws+y*B64^(j+1);rw[ih,bI,bK];have:B64*(y*B64^j)=y*(B64^j*B64):=by rw[<-aa,aL B64 y,aa,aL B64 (B64^j)]
  omega
def Eo(j:Nat):B64^j=2^(64*j):=by rw[zmF]
def Wy(j:Nat):256^j=2^(8*j):=by rw[zmF]
def XC{ws:eZ}{A b k w:Nat}(hs:lk ws)(hw:ws[k/8]?=some w)(hb:b<256)(hv:val ws=A*256^(k+1)):
 w|||b*2^(8*(k%8))=w+b*2^(8*(k%8))/\w+b*2^(8*(k%8))<B64/\val (ws.set (k/8) (w+b*2^(8*(k%8))))=(A*256+b)*256^k:=by
 have hwv:=AG hs hw;have hk:8*(k+1)=(8*(k%8)+8)+64*(k/8):=eP;have hle:8*(k%8)+8<=64:=eP;have e1:val ws/B64^(k/8)=A*2^(8*(k%8)+8):=by
  rw[hv,Wy,Eo,hk,bi,<-aa,zn4 _ (bj eV)]
 have e2:B64=2^(8*(k%8)+8)*2^(64-(8*(k%8)+8)):=by
  rw[<-bi,show 8*(k%8)+8+(64-(8*(k%8)+8))=64 by omega]
 have e3:w=2^(8*(k%8)+8)*(A%2^(64-(8*(k%8)+8))):=by
  rw[hwv,e1,e2,aL A,Nat.mul_mod_mul_left]
 have hy:b*2^(8*(k%8))<2^(8*(k%8)+8):=by
  rw[bi,aL (2^(8*(k%8)))];exact dE hb (bj eV)
 have hq:A%2^(64-(8*(k%8)+8))<2^(64-(8*(k%8)+8)):=bN _ (bj eV);refine⟨?_,?_,?_⟩
 ·rw[e3];exact(dc hy _).symm
 ·have h3:2^(8*(k%8)+8)*(A%2^(64-(8*(k%8)+8))+1)<=2^(8*(k%8)+8)*2^(64-(8*(k%8)+8)):=ae _ hq;rw[<-e2,bK,a9,<-e3]at h3;omega
 ·rw[OB _ hw,hv,Eo,aa b,<-bi,show 8*(k%8)+64*(k/8)=8*k by omega,<-Wy,bI,aS,aL (256^k) 256,aa]
def mO:∀(l:List UInt8)(acc:Nat),fa l acc=acc*256^l.length+fa l 0
 |[],acc=>by simp[fa]
 |c::l,acc=>by
  show fa l (acc*256+c.toNat)=acc*256^(l.length+1)+fa l (0*256+c.toNat);rw[mO l (acc*256+c.toNat),mO l (0*256+c.toNat),bI,aS,bX,aN,aa,aL 256];omega
def yo:∀(k m:Nat)(acc:List UInt8),m<=k->fa (mn k m acc) 0=fa acc m
 |0,m,acc,h=>by
  have:m=0:=eP;subst this;rfl
 |k+1,m,acc,h=>by
  show fa (cond (Nat.beq m 0) acc (mn k (m/256) (UInt8.ofNat (m%256)::acc))) 0=_;by_cases hm:m=0
  ·subst hm;rfl
  ·rw[ik hm,cond_false,yo k (m/256) _ eP];show fa acc (m/256*256+(UInt8.ofNat (m%256)).toNat)=_;have:(UInt8.ofNat (m%256)).toNat=m%256:=by simp
   rw[this];congr 1;omega
def pN(m:Nat):fa (fy m) 0=m:=by
 unfold fy;rw[yo _ _ _ (aC _)];rfl
def zU:∀(k m:Nat)(acc:List UInt8),0<m->m<=k->∃c r,mn k m acc=c::r/\c.toNat≠0
 |0,m,acc,h0,h=>eP
 |k+1,m,acc,h0,h=>by
  show ∃c r,cond (Nat.beq m 0) acc (mn k (m/256) (UInt8.ofNat (m%256)::acc))=c::r/\c.toNat≠0;rw[ik (show m≠0 by omega),cond_false];by_cases hq:m/256=0
  ·rw[hq];refine⟨UInt8.ofNat (m%256),acc,?_,?_⟩
   ·cases k<;>rfl
   ·have:(UInt8.ofNat (m%256)).toNat=m%256:=by simp
    rw[this];omega
  ·exact zU k (m/256) _ eP eP
def Am{m:Nat}(h:0<m):∃c r,fy m=c::r/\c.toNat≠0:=zU m m [] h (aC _)
def vJ{m:Nat}(h:0<m):256^((fy m).length-1)<=m/\0<(fy m).length:=by
 obtain⟨c,r,h1,h2⟩:=Am h;have h3:=pN m;rw[h1]at h3 ⊢;have h4:fa r (0*256+c.toNat)=m:=h3;rw[mO,bX,aN]at h4;refine⟨?_,by simp⟩;simp only[ah,au];have:1*256^r.length<=c.toNat*256^r.length:=aK _ eP;omega
def Al:fy 0=[]:=rfl
end Go.Proofs.Ev
set_option maxRecDepth 1000000
set_option maxHeartbeats 0
namespace Go.Proofs.Ev
noncomputable section
def fv(φ:Nat):fN->LS->fK->Rs:=
 λas s kk=>
 u1 as λg h=>
 u0 h (
 fT g s λl s=>
 lp li (λ(m:tS)(f e:D)(s:LS)=>
 kH e fB λc=>
 eU c true (λk=>k f s) s λn s=>
 eU c true (λk=>k e s) s λo s=>
 eU c true (λk=>fe o ej λd=>k d s) s λp s=>
 eU c true (λk=>eT 1 s n p k) s λu s=>
 eU c true (λk=>eR s u k) s λv s=>
 eU c true (λk=>iR v (.i .u64 (.ofNat 0)) λd=>k d s) s λw s=>
 iB c w (.b false) s λy s=>
 fE y
(fe e ej λz=>
 m f z s)
(iT 1 s f none (some e) none λA s=>
 kk A s)) φ g l s)
def uL(φ:Nat):fP:=
 λas=>
(λ(s:LS)=>
 u1 as λz A=>
 u0 A (
(fv φ) [z] s λb s=>
 fT b s λB s=>
 iR B fB λC=>
 fE C
(fO false s (.n 0) some)
(fT b s λE s=>
 jZ (.i .i64 (.ofNat 8)) E λk=>
 io 1 1 [(.i .u8 (.ofNat 0))] s k k λF s=>
 fT b s λG s=>
 lp jc (λ(H:mu)(l m o d:D)(s:LS)=>
 gD d o λI=>
 fE I
(eT 1 s m d λJ s=>
 eR s J λK s=>
 lp lK (λ(M:ov)(e p u v w y f:D)(s:LS)=>
 gD f (.i .i64 (.ofNat 8)) λN=>
 fE N
(fT e s λO s=>
 fe O ej λP=>
 jZ (.i .i64 (.ofNat 8)) p λS=>
 fe P S λU=>
 fe U f λV=>
 jZ (.i .i64 (.ofNat 8)) f λW=>
 pP u W λX=>
 kV .u8 X s λY s=>
 eT 1 s e V λZ s=>
 fA 1 s Z Y λ_ s=>
 f7 f ej λbb=>
 M e p u v w y bb s)
(f7 y ej λbc=>
 H e v w bc s)) φ l d K m o d fB s)
(lp li (λ(bd:tS)(g h:D)(s:LS)=>
 eT 1 s g h λbf s=>
 eR s bf λbg s=>
 iR bg (.i .u8 (.ofNat 0)) λbh=>
 fE bh
(f7 h ej λbi=>
 bd g bi s)
(iT 1 s g (some h) none none λbk s=>
 kS (.b2s (.c bk)) s λbl s=>
 fO false s bl some)) φ l fB s)) φ F b G fB s))) s0
def qh(φ:Nat):fP:=
 λas=>
(λ(s:LS)=>
 u1 as λe m=>
 u0 m (
 kS (.lens (.c e)) s λn s=>
 f7 n (.i .i64 (.ofNat 7)) λo=>
 xW o (.i .i64 (.ofNat 8)) λg=>
 io 1 8 [(.i .u64 (.ofNat 0))] s g g λp s=>
 kS (.lens (.c e)) s λu s=>
 lp jc (λ(v:mu)(f b h d:D)(s:LS)=>
 gD d h λw=>
 fE w
(kS (.lens (.c f)) s λy s=>
 fe y ej λz=>
 fe z d λk=>
 xW k (.i .i64 (.ofNat 8)) λl=>
 eT 1 s b l λA s=>
 eR s A λB s=>
 kS (.index (.c f) (.c d)) s λC s=>
 kV .u64 C s λE s=>
 vX k (.i .i64 (.ofNat 8)) λF=>
 jZ (.i .i64 (.ofNat 8)) F λG=>
 BQ E G λH=>
 kOr B H λI=>
 eT 1 s b l λJ s=>
 fA 1 s J I λ_ s=>
 f7 d ej λK=>
 v f b h K s)
((fv φ) [b] s λM s=>
 fO true s M some)) φ e p u fB s)) s0
def o8(φ:Nat):fP:=
 λas=>
(λ(s:LS)=>
 u1 as λb k=>
 u1 k λc l=>
 u0 l (
 vY b (.i .u64 (.ofNat 4294967295)) λd=>
 pP b (.i .u64 (.ofNat 32)) λe=>
 vY c (.i .u64 (.ofNat 4294967295)) λf=>
 pP c (.i .u64 (.ofNat 32)) λg=>
 jZ d f λm=>
 jZ e f λn=>
 pP m (.i .u64 (.ofNat 32)) λo=>
 f7 n o λh=>
 vY h (.i .u64 (.ofNat 4294967295)) λp=>
 pP h (.i .u64 (.ofNat 32)) λu=>
 jZ d g λv=>
 f7 p v λw=>
 jZ e g λy=>
 f7 y u λz=>
 pP w (.i .u64 (.ofNat 32)) λA=>
 f7 z A λB=>
 jZ b c λC=>
 fO false s (.tup [B,C]) some)) s0
def iL(φ:Nat):fP:=
 λas=>
(λ(s:LS)=>
 u1 as λg h=>
 u0 h (
 fT g s λi s=>
 lp li (λ(l:tS)(f e:D)(s:LS)=>
 kH e fB λc=>
 eU c true (λk=>k f s) s λm s=>
 eU c true (λk=>k e s) s λn s=>
 eU c true (λk=>fe n ej λd=>k d s) s λo s=>
 eU c true (λk=>eT 1 s m o k) s λp s=>
 eU c true (λk=>eR s p k) s λu s=>
 eU c true (λk=>iR u fB λd=>k d s) s λv s=>
 iB c v (.b false) s λw s=>
 fE w
(fe e ej λy=>
 l f y s)
(iT 1 s f none (some e) (some e) λz s=>
 fO false s z some)) φ g i s)) s0
def nj(φ:Nat):fP:=
 λas=>
(λ(s:LS)=>
 u1 as λF G=>
 u1 G λe H=>
 u1 H λi I=>
 u0 I (
 fT e s λJ s=>
 iR J fB λf=>
 eU f false (λk=>k i s) s λK s=>
 eU f false (λk=>fT K s k) s λM s=>
 eU f false (λk=>iR M fB λd=>k d s) s λN s=>
 iB f (.b true) N s λO s=>
 fE O
(fO false s gj some)
(fT e s λP s=>
 fT i s λS s=>
 f7 P S λU=>
 fe U ej λo=>
 io 1 8 lL s o o λV s=>
 fT e s λW s=>
 lp iH (λ(X:kT)(Y l p u v g:D)(s:LS)=>
 gD g v λZ=>
 fE Z
(eT 1 s u g λbb s=>
 eR s bb λbc s=>
 fT l s λbd s=>
 lp qI (λ(bf:xE)(m w h n y z A B C E c:D)(s:LS)=>
 gD c E λbg=>
 fE bg
(eT 1 s C c λbh s=>
 eR s bh λbi s=>
 f7 n c λbk=>
 f7 n c λbl=>
 eT 1 s h bl λbm s=>
 eR s bm λbn s=>
 jZ y bi λbo=>
 f7 bn bo λbp=>
 vX bp m λbu=>
 eT 1 s h bk λbv s=>
 fA 1 s bv bu λ_ s=>
 f7 c ej λbw=>
 bf m w h n y z A B C E bw s)
(f7 B ej λbz=>
 X m w h z A bz s)) φ Y l p g bc u v g l bd fB s)
(eY (iL φ) [p] s λbA s=>
 fO false s bA some)) φ F i V e W fB s))) s0
def fJ{d:D}{r:fN}{k:D->fN->Rs}:u1 (d::r) k=k d r:=rfl
def fV{x:Rs}:u0 [] x=x:=rfl
def fG{a b:Rs}:fE (.b true) a b=a:=rfl
def ez{a b:Rs}:fE (.b false) a b=b:=rfl
def ep{α:Type}{bot:α}{f:α->α}{n:Nat}:lp bot f (n+1)=f (lp bot f n):=rfl
def n64(w:Nat):D:=.i .u64 (.ofNat w)
def c64(ws:eZ):fN:=ws.map n64
def jO(ws:eZ):(c64 ws).length=ws.length:=aj _
def pA{ws:eZ}{i w:Nat}(h:ws[i]?=some w):(c64 ws)[i]?=some (.i .u64 (.ofNat w)):=by
 unfold c64;rw[af,h];rfl
def y5(ws:eZ)(i w:Nat):(c64 ws).set i (.i .u64 (.ofNat w))=c64 (ws.set i w):=by
 unfold c64;rw[dC];rfl
def zk:∀(ws:eZ),(c64 ws).all oH=true
 |[]=>rfl
 |w::ws=>zk ws
def AY(n w:Nat):List.replicate n (D.i .u64 (.ofNat w))=c64 (List.replicate n w):=by
 unfold c64;rw[de];rfl
def H8(n:Nat):lk (List.replicate n 0):=λw h=>by
 rw[(List.mem_replicate.1 h).2];decide
def Ij:∀n,val (List.replicate n 0)=0
 |0=>rfl
 |n+1=>by
  show 0+B64*val (List.replicate n 0)=0;rw[Ij n];rfl
def Cy{ws:eZ}{j w:Nat}(h:lk ws)(hw:w<B64):lk (ws.set j w):=λx hx=>by
 rcases c9 hx with h1|h1
 ·exact h x h1
 ·rw[h1];exact hw
def vK{op:fK->Rs}{s:LS}{k:fK}:eU (.b true) true op s k=op k:=rfl
def xX{op:fK->Rs}{s:LS}{k:fK}:eU (.b false) true op s k=k (.tup []) s:=rfl
def gT{a b:D}{s:LS}{k:fK}:iB (.b true) a b s k=k a s:=rfl
def ga{a b:D}{s:LS}{k:fK}:iB (.b false) a b s k=k b s:=rfl
def vq{l off len cm z:Nat}{ex:Bool}{s:LS}{k:fK}:fT (.sl l off len cm z ex) s k=k (.i .i64 (.ofNat len)) s:=rfl
def jC{cs:fN}{len:Nat}{ex:Bool}{s:LS}{k:fK}:fT (.tree cs len ex) s k=k (.i .i64 (.ofNat len)) s:=rfl
def BP{cs:fN}{len h:Nat}{k:fK}(h0:0<len)(hh:h<=len):iT 1 (st1 cs) (.sl 0 0 len len 1 true) none (some (.i .i64 (.ofNat h))) none k=k (.sl 0 0 h len 1 true) (st1 cs):=by
 show(iq (st1 cs) 0 λb=>cnd (lv b.st) (cnd (Nat.ble len len) (cnd (Nat.ble h len) (cnd (Nat.ble 0 h) (cnd (Nat.beq 1 1) (nM true λex=>cnd (Nat.blt 0 len) (frc (Nat.add 0 (Nat.mul 0 1)) λoff=>frc (Nat.sub h 0) λl=>frc (Nat.sub len 0) λcm=>k (.sl 0 off l cm 1 ex) (st1 cs)) (k (.tree [] 0 ex) (st1 cs))) none) none) none) none) none)=_;rw[oB,vn];show cnd (Nat.ble len len) (cnd (Nat.ble h len) (cnd (Nat.ble 0 h) (cnd (Nat.beq 1 1) (nM true λex=>cnd (Nat.blt 0 len) (frc (Nat.add 0 (Nat.mul 0 1)) λoff=>frc (Nat.sub h 0) λl=>frc (Nat.sub len 0) λcm=>k (.sl 0 off l cm 1 ex) (st1 cs)) (k (.tree [] 0 ex) (st1 cs))) none) none) none) none=_;rw[aD (aC len),aD hh,aD (aJ h),fk h0];simp only[fH,iz,fj,gE];rfl
def S0{ws:eZ}{len w φ:Nat}{k:fK}(h0:0<len)(hlen:len<=9223372036854775807)(hw:ws[len-1]?=some w)(hne:w≠0):
 fv (φ+1) [.sl 0 0 len len 1 true] (st1 (c64 ws)) k=k (.sl 0 0 len len 1 true) (st1 (c64 ws)):=by
 unfold fv;have hm:len<=i9 .i64:=hlen;simp only[fJ,fV,vq,ep,qF,fk h0,vK,mQ (show 1<=len from h0) hm,nC (show len-1<len by omega),aN,si (pA hw),qG,ik hne,gT,ez,BP h0 (aC len)]
def Ih(φ:Nat):mu->mu:=(λ(q7:mu)(x8 x9 x10 x11:D)(s:LS)=>
 gD x11 x10 λx12=>
 fE x12
(kS (.lens (.c x8)) s λx13 s=>
 fe x13 ej λx14=>
 fe x14 x11 λx15=>
 xW x15 (.i .i64 (.ofNat 8)) λx16=>
 eT 1 s x9 x16 λx17 s=>
 eR s x17 λx18 s=>
 kS (.index (.c x8) (.c x11)) s λx19 s=>
 kV .u64 x19 s λx20 s=>
 vX x15 (.i .i64 (.ofNat 8)) λx21=>
 jZ (.i .i64 (.ofNat 8)) x21 λx22=>
 BQ x20 x22 λx23=>
 kOr x18 x23 λx24=>
 eT 1 s x9 x16 λx25 s=>
 fA 1 s x25 x24 λ_ s=>
 f7 x11 ej λx26=>
 q7 x8 x9 x10 x26 s)
(fv φ [x9] s λx27 s=>
 fO true s x27 some))
def SQ(φ:Nat)(a:D):qh φ [a]=(kS (.lens (.c a)) s0 λx2 s=>
 f7 x2 (.i .i64 (.ofNat 7)) λx3=>
 xW x3 (.i .i64 (.ofNat 8)) λx4=>
 io 1 8 [(.i .u64 (.ofNat 0))] s x4 x4 λx5 s=>
 kS (.lens (.c a)) s λx6 s=>
 lp jc (Ih φ) φ a x5 x6 fB s):=rfl
def Et{m n W:Nat}(hm:0<m)(hn:n=(fy m).length)(hW:W=(n+7)/8)(hs:n<=1000000000000)(φ:Nat):∀(j i:Nat)(ws:eZ)(f:Nat),i+j=n->j<f->0<φ->ws.length=W->lk ws->
 val ws=fa ((fy m).take i) 0*256^j->
 lp jc (Ih φ) f (.n m) (.sl 0 0 W W 1 true) (.i .i64 (.ofNat n)) (.i .i64 (.ofNat i)) (st1 (c64 ws))=some (.own (c64 (dg W m)) W 1)
 |0,i,ws,f,hi,hf,hφ,hl,hsm,hv=>by
  obtain⟨f,rfl⟩:∃q,f=q+1:=⟨f-1,eP⟩
  obtain⟨φ,rfl⟩:∃q,φ=q+1:=⟨φ-1,eP⟩
  have hin:i=n:=eP;subst hin;have z6F:val ws=m:=by
   rw[hv,dI,a9,hn,bV,pN]
  have hdg:dg W m=ws:=by rw[<-hl,<-z6F];exact VW hsm
  obtain⟨hb1,hb2⟩:=vJ hm;rw[<-hn]at hb1 hb2;have hW0:0<W:=eP;have hlt:W-1<ws.length:=eP;have hw:=aE hlt;have hne:ws[W-1]≠0:=by
   intro e;have h1:=AG hsm hw;rw[e]at h1;have h2:=Av hsm;have h3:B64^ws.length=B64^(W-1)*B64:=by rw[hl,<-bI];congr 1;omega
   have h4:val ws/B64^(W-1)<B64:=by
    rw[h3]at h2;exact dk h2
   rw[am h4]at h1;have h5:val ws<B64^(W-1):=by
    rcases aY (val ws) (B64^(W-1))with h|h
    ·exact h
    ·have:=zmG h (bj eV);omega
   have h6:B64^(W-1)=256^(8*(W-1)):=by rw[zmF]
   have h7:256^(8*(W-1))<=256^(i-1):=cM eV eP;omega
  rw[ep];unfold Ih;simp only[jp,fw (bE i),ez,S0 hW0 (show W<=9223372036854775807 by omega) hw hne];rw[TB (zk ws) (by rw[jO,hl]),hdg]
 |j+1,i,ws,f,hi,hf,hφ,hl,hsm,hv=>by
  obtain⟨f,rfl⟩:∃q,f=q+1:=⟨f-1,eP⟩
  have hlt:i<n:=eP;have hib:i<(fy m).length:=by rw[<-hn];exact hlt
  have hc:=aE hib;generalize hcc:(fy m)[i]=c at hc;have hc8:c.toNat<256:=c.toNat_lt;have hk:n-1-i=j:=eP;have hj8:j/8<ws.length:=by rw[hl,hW];omega
  have hw:=aE hj8;obtain⟨o1,o2,o3⟩:=XC (b:=c.toNat) hsm hw hc8 hv;have hwl:=hsm _ (cU hj8);have h64:c.toNat*2^(8*(j%8))<B64:=eP;have z7K:c.toNat*2^(8*(j%8))%18446744073709551616=c.toNat*2^(8*(j%8)):=am h64;rw[ep];unfold Ih;simp only[jp,fk hlt,fG,C5,<-hn,mQ (show 1<=n by omega) (show n<=i9 .i64 from(by show n<=9223372036854775807;omega)),
   mQ (show i<=n-1 by omega) (show n-1<=i9 .i64 from(by show n-1<=9223372036854775807;omega)),hk,
   GB (show(8:Nat)≠0 by decide) (show j<=i9 .i64 from(by show j<=9223372036854775807;omega)),nC (show j/8<W by omega),aN,si (pA hw),LI hc,
   Fz (show c.toNat<=i9 .u64 from(by show c.toNat<=18446744073709551615;omega)),sh (show(8:Nat)≠0 by decide),wO (show 8*(j%8)<=i9 .i64 from(by show 8*(j%8)<=9223372036854775807;omega)),
   yR (show 8*(j%8)<=64 by omega),z7K,ZA (show ws[j/8]<=i9 .u64 from bL hwl) (show c.toNat*2^(8*(j%8))<=i9 .u64 from bL h64),o1,
   u9 (show j/8<(c64 ws).length by rw[jO];exact hj8),y5,kW (show i+1<=i9 .i64 from(by show i+1<=9223372036854775807;omega))]
  refine Et hm hn hW hs φ j (i+1) _ f eP eP hφ (by rw[a8,hl]) (Cy hsm o2) ?_;rw[o3];congr 1;have ht:(fy m).take (i+1)=(fy m).take i++[c]:=by
   rw[dj,hc];rfl
  rw[ht,wJ]
def Q1{m n W φ:Nat}(hm:0<m)(hn:n=(fy m).length)(hW:W=(n+7)/8)(hs:n<=1000000000000)(hφ:n<φ):qh φ [.n m]=some (.own (c64 (dg W m)) W 1):=by
 rw[SQ];obtain⟨hb1,hb2⟩:=vJ hm;have h7:n+7<=i9 .i64:=by show n+7<=9223372036854775807;omega
 simp only[C5,<-hn,kW h7,GB (show(8:Nat)≠0 by decide) h7,<-hW,z7 (bytes:=8) (z:=.i .u64 (.ofNat 0)) (n:=W) (show W<=140737488355328 by omega) (show W*8<=140737488355328 by omega),AY];refine Et hm hn hW hs φ n 0 _ φ eP hφ eP fU (H8 W) ?_;rw[Ij];simp[fa]
def z8{cs:fN}{len i:Nat}{ex:Bool}{d:D}{k2:IntKind}{s:LS}{K:fK}(h:i<len)(hd:cs[i]?=some d):eT 1 s (.tree cs len ex) (.i k2 (.ofNat i)) K=K (.fp (d::cs.drop (i+1))) s:=by
 show cnd (Nat.blt i len) (jJ (Nat.mul i 1) cs λr=>List.rec (motive:=λ_=>Rs) none (λ_ _ _=>K (.fp r) s) r) none=_;rw[fk h,fH,gZ];have:cs.drop (Nat.mul i 1)=d::cs.drop (i+1):=by
  rw[show Nat.mul i 1=i from a9 i];exact pS hd
 rw[this]
def IF{d:D}{r:fN}{s:LS}{K:fK}:eR s (.fp (d::r)) K=K d s:=rfl
def Dr{cs:fN}{len h:Nat}{ex:Bool}{s:LS}{k:fK}(hh:h<=len)(hl:cs.length=len):iT 1 s (.tree cs len ex) none (some (.i .i64 (.ofNat h))) none k=k (.tree (cs.take h) h (cnd ex (Nat.beq h len) false)) s:=by
 show cnd (Nat.ble len len) (cnd (Nat.ble h len) (cnd (Nat.ble 0 h) (cnd (Nat.beq cs.length (Nat.mul len 1))
  (jJ (Nat.mul 0 1) cs λcs=>frc (Nat.sub h 0) λn=>jP (Nat.mul n 1) cs λcs=>
   nM (cnd ex (Nat.beq h len) false) λex=>k (.tree cs n ex) s)
  none) none) none) none=_
 rw[aD (aC len),aD hh,aD (aJ h),hl,show Nat.mul len 1=len from a9 len,gE];simp only[fH,gZ,fj,iz];rw[show Nat.mul 0 1=0 from rfl,a7,show Nat.sub h 0=h from rfl,i7,show Nat.mul h 1=h from a9 h,aF eP]
def tl(ws:eZ):Nat->Nat
 |0=>0
 |n+1=>if ws[n]?=some 0 then tl ws n else n+1
def HX(ws:eZ):∀n,tl ws n<=n
 |0=>aC _
 |n+1=>by
  unfold tl;split
  ·have:=HX ws n;omega
  ·exact aC _
def KI:∀(ws:eZ)(w:Nat),val (ws++[w])=val ws+w*B64^ws.length
 |[],w=>by show w+B64*0=0+w*B64^0;rw[dI];omega
 |x::ws,w=>by
  show x+B64*val (ws++[w])=x+B64*val ws+w*B64^(ws.length+1);rw[KI ws w,bK,bI];have:B64*(w*B64^ws.length)=w*(B64^ws.length*B64):=by rw[<-aa,aL B64 w,aa,aL B64 (B64^ws.length)]
  omega
def MU(ws:eZ):∀n,n<=ws.length->val (ws.take (tl ws n))=val (ws.take n)
 |0,_=>rfl
 |n+1,h=>by
  unfold tl;split
  ·rename_i h0;rw[MU ws n eP,dj,h0];show _=val (ws.take n++[0]);rw[KI,bX,bO]
  ·rfl
def Dd(k:fK):tS->tS:=(λ(q3:tS)(x4 x5:D)(s:LS)=>
 kH x5 fB λx6=>
 eU x6 true (λk=>k x4 s) s λx7 s=>
 eU x6 true (λk=>k x5 s) s λx8 s=>
 eU x6 true (λk=>fe x8 ej λd=>k d s) s λx9 s=>
 eU x6 true (λk=>eT 1 s x7 x9 k) s λx10 s=>
 eU x6 true (λk=>eR s x10 k) s λx11 s=>
 eU x6 true (λk=>iR x11 (.i .u64 (.ofNat 0)) λd=>k d s) s λx12 s=>
 iB x6 x12 (.b false) s λx13 s=>
 fE x13
(fe x5 ej λx14=>
 q3 x4 x14 s)
(iT 1 s x4 none (some x5) none λx15 s=>
 k x15 s))
def Bm(φ:Nat)(a:D)(s:LS)(k:fK):fv φ [a] s k=(fT a s λx2 s=>lp li (Dd k) φ a x2 s):=rfl
def AH{ws:eZ}{len:Nat}{ex:Bool}{s:LS}{k:fK}(hl:ws.length=len)(hlen:len<=9223372036854775807):∀(n f:Nat),n<=len->n<f->
 lp li (Dd k) f (.tree (c64 ws) len ex) (.i .i64 (.ofNat n)) s=k (.tree (c64 (ws.take (tl ws n))) (tl ws n) (cnd ex (Nat.beq (tl ws n) len) false)) s
 |0,f,hn,hf=>by
  obtain⟨f,rfl⟩:∃q,f=q+1:=⟨f-1,eP⟩
  rw[ep];unfold Dd;simp only[qF,fw (bE 0),xX,ga,ez,Dr (ex:=ex) (aJ len) (show(c64 ws).length=len by rw[jO,hl])];rfl
 |n+1,f,hn,hf=>by
  obtain⟨f,rfl⟩:∃q,f=q+1:=⟨f-1,eP⟩
  have hlt:n<ws.length:=eP;have hw:=aE hlt;rw[ep];unfold Dd;have hm:n+1<=i9 .i64:=by show n+1<=9223372036854775807;omega
  simp only[qF,fk (cD n),vK,mQ (show 1<=n+1 by omega) hm,au,z8 (show n<len by omega) (pA hw),IF,qG,gT];by_cases h0:ws[n]=0
  ·rw[h0,show Nat.beq 0 0=true from rfl,fG];have ht:tl ws (n+1)=tl ws n:=by
    show(if ws[n]?=some 0 then tl ws n else n+1)=_;rw[hw,h0,aF rfl]
   rw[ht];exact AH hl hlen n f eP eP
  ·rw[ik h0,ez,Dr hn (show(c64 ws).length=len by rw[jO,hl])];have ht:tl ws (n+1)=n+1:=by
    show(if ws[n]?=some 0 then tl ws n else n+1)=_;rw[hw,aG (λe=>h0 (cJ e))]
   rw[ht];unfold c64;rw[dN]
def HW{ws:eZ}{len φ:Nat}{ex:Bool}{s:LS}{k:fK}(hl:ws.length=len)(hlen:len<=9223372036854775807)(hφ:len<φ):
 fv φ [.tree (c64 ws) len ex] s k=k (.tree (c64 (ws.take (tl ws len))) (tl ws len) (cnd ex (Nat.beq (tl ws len) len) false)) s:=by
 rw[Bm,jC];exact AH hl hlen len φ (aC _) hφ
def n8(w:Nat):D:=.i .u8 (.ofNat w)
def c8(bs:eZ):fN:=bs.map n8
def Nl(ws:eZ):(c8 ws).length=ws.length:=aj _
def z1z{ws:eZ}{i w:Nat}(h:ws[i]?=some w):(c8 ws)[i]?=some (.i .u8 (.ofNat w)):=by
 unfold c8;rw[af,h];rfl
def z1y(ws:eZ)(i w:Nat):(c8 ws).set i (.i .u8 (.ofNat w))=c8 (ws.set i w):=by
 unfold c8;rw[dC];rfl
def be:Nat->Nat->eZ
 |0,_=>[]
 |t+1,v=>v/256^t%256::be t v
def Jr:∀t v,(be t v).length=t
 |0,_=>rfl
 |t+1,v=>by show(be t v).length+1=t+1;rw[Jr t v]
def QJ:∀(i t v:Nat),i<=t->(be t v).drop i=be (t-i) v
 |0,t,v,_=>rfl
 |i+1,0,v,h=>eP
 |i+1,t+1,v,h=>by
  show(be t v).drop i=_;rw[QJ i t v eP,show t+1-(i+1)=t-i by omega]
def OR(c:Nat)(l:eZ):∀m,(List.replicate (m+1) 0++l).set m c=List.replicate m 0++c::l
 |0=>rfl
 |m+1=>by
  show 0::(List.replicate (m+1) 0++l).set m c=0::(List.replicate m 0++c::l);rw[OR c l m]
def Km:∀(t v:Nat),fa ((be t v).map UInt8.ofNat) 0=v%256^t
 |0,v=>by rw[dI,Nat.mod_one];rfl
 |t+1,v=>by
  show fa ((be t v).map UInt8.ofNat) (0*256+(UInt8.ofNat (v/256^t%256)).toNat)=_;have:(UInt8.ofNat (v/256^t%256)).toNat=v/256^t%256:=by simp
  rw[this,mO,aj,Jr,Km t v,bX,aN,Nat.mod_pow_succ,aL];omega
def I5:∀(bs:eZ),y6 (c8 bs)=some (bs.map UInt8.ofNat)
 |[]=>rfl
 |b::bs=>by
  show(match y6 (c8 bs)with
   |some l=>some (UInt8.ofNat (Int.ofNat b).toNat::l)
   |none=>none)=_
  rw[I5 bs];rfl
def RC{cs:fN}{len i:Nat}{k:fK}(hi:i<len):iT 1 (st1 cs) (.sl 0 0 len len 1 true) (some (.i .i64 (.ofNat i))) none none k=k (.sl 0 i (len-i) (len-i) 1 true) (st1 cs):=by
 show(iq (st1 cs) 0 λb=>cnd (lv b.st) (cnd (Nat.ble len len) (cnd (Nat.ble len len) (cnd (Nat.ble i len) (cnd (Nat.beq 1 1) (nM true λex=>cnd (Nat.blt i len) (frc (Nat.add 0 (Nat.mul i 1)) λoff=>frc (Nat.sub len i) λl=>frc (Nat.sub len i) λcm=>k (.sl 0 off l cm 1 ex) (st1 cs)) (k (.tree [] 0 ex) (st1 cs))) none) none) none) none) none)=_;rw[oB,vn];show cnd (Nat.ble len len) (cnd (Nat.ble len len) (cnd (Nat.ble i len) (cnd (Nat.beq 1 1) (nM true λex=>cnd (Nat.blt i len) (frc (Nat.add 0 (Nat.mul i 1)) λoff=>frc (Nat.sub len i) λl=>frc (Nat.sub len i) λcm=>k (.sl 0 off l cm 1 ex) (st1 cs)) (k (.tree [] 0 ex) (st1 cs))) none) none) none) none=_;rw[aD (aC len),aD (bq hi),fk hi];simp only[fH,iz,fj,gE];have:Nat.add 0 (Nat.mul i 1)=i:=by show 0+i*1=i;omega
 rw[this];rfl
def UQ{bs:eZ}{i len c:Nat}{r:eZ}{K:fK}(hl:bs.length=len)(hd:bs.drop i=c::r)(hc:c<256)(hne:c≠0):
 kS (.b2s (.c (.sl 0 i (len-i) (len-i) 1 true))) (st1 (c8 bs)) K=K (.n (fa ((c::r).map UInt8.ofNat) 0)) (st1 (c8 bs)):=by
 have z6f:cut i ((len-i)*1) (c8 bs)=some (c8 (c::r)):=by
  unfold cut;have h1:(c8 bs).drop i=c8 (c::r):=by
   unfold c8;rw[<-zmJ,hd]
  have h2:(c::r).length=len-i:=by rw[<-hd,bR,hl]
  rw[h1,a9,aP (by rw[Nl,h2];exact aC _)];rw[aF (by rw[Nl,h2])]
 have he:evA (st1 (c8 bs)).nx cv (st1 (c8 bs)).get (.b2s (.c (.sl 0 i (len-i) (len-i) 1 true)))=some (.n (fa ((c::r).map UInt8.ofNat) 0),[]):=by
  simp only[evA,cv,kw,vn,Stt.live,cw,bm,cP,bf,z6f,I5];have hb:(UInt8.ofNat c).toNat=c:=by simp;omega
  show some (cond (Nat.beq (UInt8.ofNat c).toNat 0) _ _,_)=_;rw[hb,ik hne];rfl
 unfold kS sA;rw[he];show wR _ _=_;rw[mq]
def Sg(x10:D):tS->tS:=(λ(q37:tS)(x38 x39:D)(s:LS)=>
 eT 1 s x38 x39 λx40 s=>
 eR s x40 λx41 s=>
 iR x41 (.i .u8 (.ofNat 0)) λx42=>
 fE x42
(f7 x39 ej λx43=>
 q37 x38 x43 s)
(iT 1 s x38 (some x39) none none λx44 s=>
 kS (.b2s (.c x44)) s λx45 s=>
 fO false s x45 some))
def Xm(φ:Nat)(q9:mu):ov->ov:=(λ(q17:ov)(x18 x19 x20 x21 x22 x23 x24:D)(s:LS)=>
 gD x24 (.i .i64 (.ofNat 8)) λx25=>
 fE x25
(fT x18 s λx26 s=>
 fe x26 ej λx27=>
 jZ (.i .i64 (.ofNat 8)) x19 λx28=>
 fe x27 x28 λx29=>
 fe x29 x24 λx30=>
 jZ (.i .i64 (.ofNat 8)) x24 λx31=>
 pP x20 x31 λx32=>
 kV .u8 x32 s λx33 s=>
 eT 1 s x18 x30 λx34 s=>
 fA 1 s x34 x33 λ_ s=>
 f7 x24 ej λx35=>
 q17 x18 x19 x20 x21 x22 x23 x35 s)
(f7 x23 ej λx36=>
 q9 x18 x21 x22 x36 s))
def T3(φ:Nat):mu->mu:=(λ(q9:mu)(x10 x11 x12 x13:D)(s:LS)=>
 gD x13 x12 λx14=>
 fE x14
(eT 1 s x11 x13 λx15 s=>
 eR s x15 λx16 s=>
 lp lK (Xm φ q9) φ x10 x13 x16 x11 x12 x13 fB s)
(lp li (Sg x10) φ x10 fB s))
def Wu(φ:Nat)(a:D):uL φ [a]=(fv φ [a] s0 λx2 s=>
 fT x2 s λx3 s=>
 iR x3 fB λx4=>
 fE x4
 (fO false s (.n 0) some)
 (fT x2 s λx5 s=>
 jZ (.i .i64 (.ofNat 8)) x5 λx6=>
 io 1 1 [(.i .u8 (.ofNat 0))] s x6 x6 λx7 s=>
 fT x2 s λx8 s=>
 lp jc (T3 φ) φ x7 x2 x8 fB s)):=rfl
def Ha{L v:Nat}{x:D}(hL:L<=1000000000000)(hv:0<v):∀(j i f:Nat),i+j=L->j<f->v<256^j->
 lp li (Sg x) f (.sl 0 0 L L 1 true) (.i .i64 (.ofNat i)) (st1 (c8 (be L v)))=some (.n v)
 |0,i,f,hi,hf,hlt=>by
  rw[dI]at hlt;omega
 |j+1,i,f,hi,hf,hlt=>by
  obtain⟨f,rfl⟩:∃q,f=q+1:=⟨f-1,eP⟩
  have hd:(be L v).drop i=v/256^j%256::be j v:=by
   rw[QJ i L v eP,show L-i=j+1 by omega];rfl
  have z6T:(be L v)[i]?=some (v/256^j%256):=by
   have h1:((be L v).drop i)[0]?=some (v/256^j%256):=by rw[hd];rfl
   rw[cA]at h1;simpa using h1
  have z7K:v/256^j%256=v/256^j:=am (dk (by rw[bI]at hlt;exact hlt));rw[ep];unfold Sg;simp only[nC (show i<L by omega),aN,si (z1z z6T),qG];by_cases h0:v/256^j%256=0
  ·rw[h0,show Nat.beq 0 0=true from rfl,fG,kW (show i+1<=i9 .i64 from(by show i+1<=9223372036854775807;omega))];refine Ha (x:=x) hL hv j (i+1) f eP eP ?_;rw[z7K]at h0;rcases aY v (256^j)with h|h
   ·exact h
   ·have:=zmG h (bj (show 0<256 by decide));omega
  ·rw[ik h0,ez];simp only[RC (show i<L by omega),UQ (Jr L v) hd (bN _ eV) h0];have he:fa ((v/256^j%256::be j v).map UInt8.ofNat) 0=v:=by
    have:=Km (j+1) v;rw[am hlt]at this;exact this
   rw[he];rfl
def YW{v i s x:Nat}(hs:s<8)(hx:x=v/B64^i%B64):x/2^(8*s)%256=v/256^(8*i+s)%256:=by
 have e1:256^(8*i+s)=B64^i*2^(8*s):=by
  rw[Wy,Eo,<-bi];congr 1;omega
 have e2:B64=2^(8*s)*(256*2^(56-8*s)):=by
  have h1:(256:Nat)=2^8:=rfl;have h2:B64=2^64:=rfl;rw[h1,<-bi,<-bi,h2];congr 1;omega
 rw[e1,<-Nat.div_div_eq_div_mul,hx,e2,Nat.mod_mul_right_div_self,Nat.mod_mul_right_mod]
def LN{ws:eZ}{t L φ i x v:Nat}{ex:Bool}(q:mu)(hL:L=8*t)(hLs:L<=1000000000000)(hi:i<t)(hv:v=val ws)(hx:x=v/B64^i%B64):∀(j s f:Nat),s+j=8->j<f->
 lp lK (Xm φ q) f (.sl 0 0 L L 1 true) (.i .i64 (.ofNat i)) (.i .u64 (.ofNat x)) (.tree (c64 ws) t ex) (.i .i64 (.ofNat t)) (.i .i64 (.ofNat i)) (.i .i64 (.ofNat s)) (st1 (c8 (List.replicate (L-(8*i+s)) 0++be (8*i+s) v)))
  =q (.sl 0 0 L L 1 true) (.tree (c64 ws) t ex) (.i .i64 (.ofNat t)) (.i .i64 (.ofNat (i+1))) (st1 (c8 (List.replicate (L-8*(i+1)) 0++be (8*(i+1)) v)))
 |0,s,f,hs,hf=>by
  obtain⟨f,rfl⟩:∃q,f=q+1:=⟨f-1,eP⟩
  have:s=8:=eP;subst this;rw[ep];unfold Xm;simp only[jp,show Nat.blt 8 8=false from rfl,ez,kW (show i+1<=i9 .i64 from(by show i+1<=9223372036854775807;omega))];rw[show 8*i+8=8*(i+1) by omega]
 |j+1,s,f,hs,hf=>by
  obtain⟨f,rfl⟩:∃q,f=q+1:=⟨f-1,eP⟩
  have hs8:s<8:=eP;rw[ep];unfold Xm;have k1:8*i<=i9 .i64:=by show 8*i<=9223372036854775807;omega
  have k2:L<=i9 .i64:=by show L<=9223372036854775807;omega
  have k3:L-1<=i9 .i64:=by show L-1<=9223372036854775807;omega
  have k4:L-1-8*i<=i9 .i64:=by show L-1-8*i<=9223372036854775807;omega
  have k5:8*s<=i9 .i64:=by show 8*s<=9223372036854775807;omega
  have k6:s+1<=i9 .i64:=by show s+1<=9223372036854775807;omega
  have z6Y:L-1-8*i-s<L:=eP;have hlen:L-1-8*i-s<(c8 (List.replicate (L-(8*i+s)) 0++be (8*i+s) v)).length:=by
   rw[Nl,aq,bg,Jr];omega
  simp only[jp,fk hs8,fG,vq,mQ (show 1<=L by omega) k2,wO k1,mQ (show 8*i<=L-1 by omega) k3,mQ (show s<=L-1-8*i by omega) k4,wO k5,
   wi (show 8*s<=64 by omega),LB,nC z6Y,aN,u9 hlen,z1y,kW k6]
  have z78:(List.replicate (L-(8*i+s)) 0++be (8*i+s) v).set (L-1-8*i-s) (x/2^(8*s)%256)=List.replicate (L-(8*i+(s+1))) 0++be (8*i+(s+1)) v:=by
   rw[YW hs8 hx,show L-(8*i+s)=(L-1-8*i-s)+1 by omega,OR,show L-1-8*i-s=L-(8*i+(s+1)) by omega];rfl
  rw[z78];exact LN (φ:=φ) q hL hLs hi hv hx j (s+1) f eP eP
def Kf{ws:eZ}{t L φ v:Nat}{ex:Bool}(hsm:lk ws)(hlw:ws.length=t)(hL:L=8*t)(hLs:L<=1000000000000)(hv:v=val ws)(hv0:0<v)(hφ:L+8<φ):∀(j i f:Nat),i+j=t->j<f->
 lp jc (T3 φ) f (.sl 0 0 L L 1 true) (.tree (c64 ws) t ex) (.i .i64 (.ofNat t)) (.i .i64 (.ofNat i)) (st1 (c8 (List.replicate (L-8*i) 0++be (8*i) v)))=some (.n v)
 |0,i,f,hi,hf=>by
  obtain⟨f,rfl⟩:∃q,f=q+1:=⟨f-1,eP⟩
  have:i=t:=eP;subst this;rw[ep];unfold T3;simp only[jp,fw (bE i),ez];have hb:List.replicate (L-8*i) 0++be (8*i) v=be L v:=by
   rw[hL,bD];rfl
  rw[hb];refine Ha hLs hv0 L 0 φ eP eP ?_;have:=Av hsm;rw[hlw,<-hv]at this;rw[hL,zmF];exact this
 |j+1,i,f,hi,hf=>by
  obtain⟨f,rfl⟩:∃q,f=q+1:=⟨f-1,eP⟩
  have hit:i<t:=eP;have hlt:i<ws.length:=eP;have hw:=aE hlt;rw[ep];unfold T3;simp only[jp,fk hit,fG,z8 hit (pA hw),IF];have h1:=LN (φ:=φ) (ex:=ex) (λa b c d s=>lp jc (T3 φ) f a b c d s) hL hLs hit hv (x:=ws[i]) (by rw[hv];exact AG hsm hw) 8 0 φ eP eP;rw[bO]at h1;refine Eq.trans h1 ?_;exact Kf hsm hlw hL hLs hv hv0 hφ j (i+1) f eP eP
def T0{ws:eZ}{len φ:Nat}{ex:Bool}(hsm:lk ws)(hl:ws.length=len)(hs:len<=100000000000)(hφ:8*len+8<φ):uL φ [.tree (c64 ws) len ex]=some (.n (val ws)):=by
 rw[Wu,HW hl eP eP];have htl:=HX ws len;have z6F:val (ws.take (tl ws len))=val ws:=by
  rw[MU ws len eP,<-hl,bV]
 generalize ht:tl ws len=t at*;generalize hws:ws.take t=us at*;have hus:us.length=t:=by rw[<-hws,aR];omega
 have hsu:lk us:=λw hw=>hsm w (bH (by rw[hws];exact hw));simp only[jC,qG];by_cases h0:t=0
 ·subst h0;rw[show Nat.beq 0 0=true from rfl,fG];have:us=[]:=zmA.1 hus;rw[this]at z6F;have hz:val ws=0:=z6F.symm;rw[hz];rfl
 ·rw[ik h0,ez];by_cases hv0:0<val ws
  ·have k1:8*t<=i9 .i64:=by show 8*t<=9223372036854775807;omega
   rw[wO k1,z7 eP eP];have hr:List.replicate (8*t) (D.i .u8 (.ofNat 0))=c8 (List.replicate (8*t-8*0) 0++be (8*0) (val ws)):=by
    show _=c8 (List.replicate (8*t) 0++[]);unfold c8;rw[bQ,de];rfl
   rw[hr];exact Kf hsu hus rfl eP z6F.symm hv0 eP t 0 φ eP eP
  ·exfalso;obtain⟨t,rfl⟩:∃q,t=q+1:=⟨t-1,eP⟩
   have hne:∀(n:Nat),tl ws n=t+1->ws[t]?≠some 0:=by
    intro n
    induction n with
    |zero=>intro h;simp[tl]at h
    |succ n ih=>
     intro h;unfold tl at h;split at h
     ·exact ih h
     ·rename_i h1;have:n=t:=eP;rw[<-this];exact h1
   have hn:=hne len ht;have hlt:t<us.length:=eP;have hg:=aE hlt;have hv:=AG hsu hg;rw[z6F,show val ws=0 by omega,Nat.zero_div,znf]at hv;refine hn ?_;have:(ws.take (t+1))[t]?=some us[t]:=by rw[hws];exact hg
   rw[zmv eP]at this;rw[this,hv]
def yI{m:Nat}(h:0<m):(fy m).length=Nat.log2 m/8+1:=by
 obtain⟨h1,h2⟩:=vJ h;have h3:m<256^(fy m).length:=by
  have hb:∀(l:List UInt8),fa l 0<256^l.length:=by
   intro l
   induction l with
   |nil=>simp[fa]
   |cons c l ih=>
    show fa l (0*256+c.toNat)<256^(l.length+1);rw[mO,bI];have hc:c.toNat<256:=c.toNat_lt;have h4:(c.toNat+1)*256^l.length<=256*256^l.length:=aK _ hc;rw[aS,ao]at h4;rw[bX,aN,aL (256^l.length)];omega
  have:=hb (fy m);rwa[pN]at this
 have hne:m≠0:=eP;rw[Wy]at h1 h3;have a1:=(znp hne).2 h1;have a2:=(zn3 hne).2 h3;omega
def dgK(n:Nat):Nat->(fN->Rs)->Rs:=
 Nat.rec (motive:=λ_=>Nat->(fN->Rs)->Rs) (λ_ k=>k []) (λ_ ih m k=>frc (Nat.mod m B64) λw=>frc (Nat.div m B64) λm=>ih m λr=>k (.i .u64 (.ofNat w)::r)) n
def Nd:∀(n m:Nat)(k:fN->Rs),dgK n m k=k (c64 (dg n m))
 |0,m,k=>rfl
 |n+1,m,k=>by
  show frc (Nat.mod m B64) (λw=>frc (Nat.div m B64) λm=>dgK n m λr=>k (.i .u64 (.ofNat w)::r))=_;rw[fj,fj,Nd n];rfl
def asM(d:D):Option Nat:=D.rec (motive_1:=λ_=>Option Nat) (motive_2:=λ_=>PUnit.{1}) none (λ_ _=>none) (λ_=>none) (λ_=>none) (λm=>some m) none none (λ_ _ _ _=>none) (λ_ _ _ _=>none) (λ_ _ _ _ _ _=>none) (λ_ _=>none) (λ_ _=>none) (λ_ _=>none) (λ_ _=>none) (λ_ _ _=>none) ⟨⟩ (λ_ _ _ _=>⟨⟩) d
def po(d:D)(k:Nat->Rs):Rs:=ob (asM d) k
def jT{d:D}{k:Nat->Rs}{r:D}(h:po d k=some r):∃m,d=.n m/\k m=some r:=by
 cases d with
 |n m=>exact⟨m,rfl,h⟩
 |_=>cases h
def pL(as:fN):Option D:=
 u1 as λa r=>u0 r (po a λm=>cnd (Nat.beq m 0) (some gj) (cnd (Nat.ble (Nat.log2 m) 1000000000) (frc (Nat.succ (Nat.div (Nat.log2 m) 64)) λW=>dgK W m λds=>some (.own ds W 1)) none))
def MS:qh 5 [.n 0]=some gj:=rfl
def ku{as:fN}{k:D->fN->Rs}{r:D}(h:u1 as k=some r):∃a as',as=a::as'/\k a as'=some r:=by
 cases as with
 |nil=>cases h
 |cons a as'=>exact⟨a,as',rfl,h⟩
def qt{as:fN}{x:Rs}{r:D}(h:u0 as x=some r):as=[]/\x=some r:=by
 cases as with
 |nil=>exact⟨rfl,h⟩
 |cons a as'=>cases h
def Eu{as:fN}{r:D}(h:pL as=some r):∃φ,qh φ as=some r:=by
 obtain⟨a,as',rfl,h⟩:=ku h;obtain⟨rfl,h⟩:=qt h;obtain⟨m,rfl,h⟩:=jT h
 ·by_cases hm:m=0
  ·subst hm;have h:some (D.tree [] 0 true)=some r:=h;exact⟨5,by rw[MS,h]⟩
  ·have h:cnd (Nat.beq m 0) (some gj) (cnd (Nat.ble (Nat.log2 m) 1000000000) (frc (Nat.succ (Nat.div (Nat.log2 m) 64)) λW=>dgK W m λds=>some (.own ds W 1)) none)=some r:=h;rw[ik hm,fq]at h;obtain⟨h1,h2⟩:=gR h;have h1:=aV h1;rw[fj,Nd]at h2;have hl:=yI (show 0<m by omega);have hW:Nat.succ (Nat.div (Nat.log2 m) 64)=((fy m).length+7)/8:=by
    show Nat.log2 m/64+1=_;rw[hl];omega
   refine⟨(fy m).length+1,?_⟩;rw[Q1 (show 0<m by omega) rfl hW eP (co _)];exact h2
def Q2(cs:fN):(Nat->Nat->Rs)->Rs:=
 List.rec (motive:=λ_=>(Nat->Nat->Rs)->Rs) (λk=>k 0 0) (λd _ ih k=>EM d λw=>cnd (Nat.blt w B64) (ih λv n=>frc (Nat.add w (Nat.mul B64 v)) λv=>frc (Nat.succ n) λn=>k v n) none) cs
def HU{r:D}:∀{cs:fN}{k:Nat->Nat->Rs},Q2 cs k=some r->∃ws,cs=c64 ws/\lk ws/\k (val ws) ws.length=some r
 |[],k,h=>⟨[],rfl,λw hw=>(by cases hw),h⟩
 |d::cs,k,h=>by
  have h:(EM d λw=>cnd (Nat.blt w B64) (Q2 cs λv n=>frc (Nat.add w (Nat.mul B64 v)) λv=>frc (Nat.succ n) λn=>k v n) none)=some r:=h;obtain⟨w,rfl,h1⟩:=rg h;obtain⟨h2,h3⟩:=gR h1;obtain⟨ws,rfl,h4,h5⟩:=HU h3;rw[fj,fj]at h5;have h2:w<B64:=by simpa[zmm]using h2
  refine⟨w::ws,rfl,λx hx=>?_,h5⟩;rcases bh.1 hx with rfl|hx
  ·exact h2
  ·exact h4 x hx
def sL(as:fN):Option D:=
 u1 as λa r=>u0 r (JO a (λ_ _ _ _ _ _=>none) (λcs len _=>Q2 cs λv n=>cnd (Nat.beq n len) (cnd (Nat.ble len 1000000000) (some (.n v)) none) none) none)
def Hr{as:fN}{r:D}(h:sL as=some r):∃φ,uL φ as=some r:=by
 obtain⟨a,as',rfl,h⟩:=ku h;obtain⟨rfl,h⟩:=qt h;rcases tL h with⟨l,off,len,cm,z,ex,rfl,h1⟩|⟨cs,len,ex,rfl,h1⟩
 ·cases h1
 ·obtain⟨ws,rfl,h2,h3⟩:=HU h1;obtain⟨h4,h5⟩:=gR h3;obtain⟨h6,h7⟩:=gR h5;have h4:=aT h4;have h6:=aV h6;exact⟨8*len+9,by rw[T0 h2 h4 eP eP];exact h7⟩
end
end Go.Proofs.Ev
namespace Go.Proofs.Ev
variable {P:Program} {im:Nat->Option Nat}
def QW(P:Program)(im:Nat->Option Nat)(fn:Func)(c:Code)(e:Env):Prop:=
 ∃e' σ' d,run .nil 20 (.code (jv P im fn.ntmps c) e Sto.empty)=some (.code .ret e' σ')/\sE e' σ' (fn.results.toList.map (ES P))=some d/\lf false σ'.get gJ d=some gj
def Ls(hm:P.follows .mixedOrders=true){F:FuncId}{fn:Func}(hf:P.funcs[F]?=some fn){c0 cT cB:Code}{id:Nat}{ops:Array Oper}{o0 o1:Oper}{t el yt:TypeId}
 (hb:fn.body=some (.seq c0 (.seq (.seq (.region id ops false) (.cond (.tmp 4) cT .skip)) cB)))
 (zaU:ops.toList=[o0,o1]) (g0:o0.guard=none) (g1:o1.guard=none) (d0:o0.dst=some 3) (d1:o1.dst=some 4) (p0:o0.op=.move (.tmp 0))
 (p1:o1.op=.binOp .eql t (.tmp 3) (.const (.slice none 0 0)) yt) (hu:P.underlying t=some (.slice el)) (hnt:5<=fn.ntmps%yp)
 (hok:fn.results.toList.all (CA P)=true) {ex:Bool} {e0:Env}
 (r0:run .nil 20 (.code (jv P im fn.ntmps c0) (tP .nil 0 [.tree [] 0 ex]) Sto.empty)=some (.code .nrm e0 Sto.empty)) (he0:e0.get 0=some (.tree [] 0 ex))
 (rT:QW P im fn cT ((e0.set 3 (.tree [] 0 ex)).set 4 (.b true))) (rB:QW P im fn cB ((e0.set 3 (.tree [] 0 ex)).set 4 (.b false))):
 rj P im F [.tree [] 0 ex] gj:=by
 intro vs w okp hT hbk;have hC:Cp P im .nil 20:=(DD hm ⟨λF f en _ h=>(by cases h)⟩ 20).1;refine calls_of_wp hf hb ?_;generalize hQ:bodyPost P fn (λe w'=>match e with
  |.returned v=>RR im okp w w' gj v
  |.outgrown=>False
  |.panicked _=>False)=Q
 have fin:∀(c:Code)(e:Env),QW P im fn c e->∀(a:Act)(w1:World),St im fn.ntmps okp w.heap.size Sto.empty.get (λ_=>(0,0)) w okp e Sto.empty a w1->∀Q':Exit->Act->World->Prop,(∀a w,Q .ret a w->Q' .ret a w)->c.wp P Q' a w1:=by
  intro c e ⟨e',σ',d,h1,h2,h3⟩ a w1 hst Q' hQ';refine hC _ _ _ _ _ _ _ _ (GZ P im _ c) h1 okp w.heap.size Sto.empty.get (λ_=>(0,0)) w okp a w1 Q' hst ?_;intro a' w' ⟨q1,q2,q3,μ,ok,R,hE,hS⟩;refine hQ' a' w' ?_;obtain⟨v,v1,v2⟩:=zQ R hE rfl hok h2;have hq:=Pg R (λb hb=>hS.low b hb) hS.sm h3 v2;rw[<-hQ];exact⟨q2,v,v1,hq⟩
 have zes:St im fn.ntmps okp w.heap.size Sto.empty.get (λ_=>(0,0)) w okp (tP .nil 0 [.tree [] 0 ex]) Sto.empty {tmps:=vs.toArray++Array.replicate (fn.ntmps-vs.toArray.size) undef,defers:=[]} w:=
  ⟨λl _=>rfl,rfl,aX (znb _ _) (by simp;omega),λ_=>(0,0),okp,Rel.empty hbk _,ry.args (tB _ _ hT) _,.refl ..⟩
 refine wp_seq (hC _ _ _ _ _ _ _ _ (GZ P im _ c0) r0 okp w.heap.size Sto.empty.get (λ_=>(0,0)) w okp _ w _ zes ?_);intro a1 w1 ⟨s1,s2,s3,μ,ok,R,hE,hS⟩;refine wp_seq (wp_seq (wp_region_list ?_));rw[zaU];have wanted:∀(o:Oper)(a:Act),o.guard=none->Region.wanted o (yielded ops a.tmps)=true:=by
  intro o a ho;unfold Region.wanted;rw[ho]
 unfold wpList;rw[aF (wanted o0 a1 g0)];refine .inl ?_;have hA0:evA Sto.empty.nx (X.ev e0) Sto.empty.get (cOp P im o0.op)=some (.tree [] 0 ex,[]):=by
  rw[p0];simp only[cOp,evA,cX,X.ev,he0]
 refine(IT R hE _ _ hA0 (λj hj=>by simp at hj)).wp (λv w2 ⟨μ2,ok2,R2,n3,hv⟩=>?_);rw[d0];have hE2:ry im Sto.empty.get μ2 w2 ok2 (e0.set 3 (.tree [] 0 ex)) (a1.put (some 3) v).tmps:=ry.put (dst:=some 3) (e:=e0) (hE.step n3) (λt ht=>(by cases ht;omega)) hv;unfold wpList;rw[aF (wanted o1 _ g1)];refine .inl ?_;have hx:VR im Sto.empty.get μ2 w2 ok2 (.tree [] 0 ex) ((a1.put (some 3) v).eval (.tmp 3)):=by
  have:=hE2 3;have h3:X.ev (e0.set 3 (.tree [] 0 ex)) (.t 3)=.tree [] 0 ex:=by
   show(match (e0.set 3 (.tree [] 0 ex)).get 3 with|some d=>d|none=>.u)=_;rw[Tr.get_set,aF rfl]
  rw[h3]at this;exact this
 simp only[VR,TR]at hx;obtain⟨p,cap,hv3,_,_,_⟩:=hx;have zcG:zF im Sto.empty.get μ2 w2 ok2 okp w.heap.size (tp Sto.empty.get Sto.empty.nx []) (.b p.isNone) ((execOp (a1.put (some 3) v).eval o1).run P w2):=by
  have ey:(a1.put (some 3) v).eval (.const (.slice none 0 0))=.slice none 0 0:=rfl;have hg:(eqGuard .eql t (.tmp 3) (.const (.slice none 0 0)) (.slice p 0 cap) (.slice none 0 0)).run P w2=.ok () w2:=by simp[eqGuard]
  have h1:=run_equal_slice_nil (P:=P) w2 t el p 0 cap hu;refine iV (nx:=Sto.empty.nx) (v:=.bool p.isNone) R2 (s:=do eqGuard .eql t (.tmp 3) (.const (.slice none 0 0)) ((a1.put (some 3) v).eval (.tmp 3)) ((a1.put (some 3) v).eval (.const (.slice none 0 0)));binOp .eql t ((a1.put (some 3) v).eval (.tmp 3)) ((a1.put (some 3) v).eval (.const (.slice none 0 0)))) (by simp only[execOp,p1]) ?_ (by simp[VR]);rw[hv3,ey];simp only[Sem.run_bind,hg,Result.andThen_ok];simp[binOp,h1]
 refine zcG.wp (λv4 w3 ⟨μ3,ok3,R3,n4,hv4⟩=>?_);rw[d1];unfold wpList;have hE3:ry im Sto.empty.get μ3 w3 ok3 ((e0.set 3 (.tree [] 0 ex)).set 4 (.b p.isNone)) ((a1.put (some 3) v).put (some 4) v4).tmps:=ry.put (dst:=some 4) (e:=e0.set 3 (.tree [] 0 ex)) (hE2.step n4) (λt ht=>(by cases ht;rw[qS];omega)) hv4;have z9S:St im fn.ntmps okp w.heap.size Sto.empty.get (λ_=>(0,0)) w okp ((e0.set 3 (.tree [] 0 ex)).set 4 (.b p.isNone)) Sto.empty ((a1.put (some 3) v).put (some 4) v4) w3:=
  ⟨s1,by rw[nZ,nZ];exact s2,by rw[qS,qS];exact s3,μ3,ok3,R3,hE3,(hS.trans n3).trans n4⟩
 have h4:((a1.put (some 3) v).put (some 4) v4).eval (.tmp 4)=.bool p.isNone:=by
  have:=hE3 4;have h5:X.ev ((e0.set 3 (.tree [] 0 ex)).set 4 (.b p.isNone)) (.t 4)=.b p.isNone:=by
   show(match ((e0.set 3 (.tree [] 0 ex)).set 4 (.b p.isNone)).get 4 with|some d=>d|none=>.u)=_;rw[Tr.get_set,aF rfl]
  rw[h5]at this;simp only[VR]at this;exact this
 cases hp:p.isNone with
 |true=>
  rw[hp]at h4 z9S;exact wp_cond_true h4 (fin cT _ rT _ _ z9S _ (λ_ _ h=>h))
 |false=>
  rw[hp]at h4 z9S;exact wp_cond_false h4 (wp_skip (fin cB _ rB _ _ z9S _ (λ_ _ h=>h)))
def bod(fn:Func):Code:=match fn.body with
 |some c=>c
 |none=>.skip
def Sj:Code->Code
 |.seq a _=>a
 |c=>c
def M3:Code->Code
 |.seq _ b=>b
 |c=>c
def z3l:Code->Code
 |.cond _ a _=>a
 |c=>c
def z0g:Code->Array Oper
 |.region _ ops _=>ops
 |_=> #[]
def z48:Code->Nat
 |.region id _ _=>id
 |_=>0
def clR(fn:Func):Code:=Sj (Sj (M3 (bod fn)))
def clC(fn:Func):Code:=M3 (Sj (M3 (bod fn)))
def clO(fn:Func)(i:Nat):Oper:=((z0g (clR fn)).toList[i]?).getD default
def clT(fn:Func):TypeId×TypeId:=match (clO fn 1).op with
 |.binOp _ t _ _ yt=>(t,yt)
 |_=>(0,0)
def clE(P:Program)(fn:Func):TypeId:=match P.underlying (clT fn).1 with
 |some (.slice el)=>el
 |_=>0
def cl0(ex:Bool):Env:=Tr.set (tP .nil 0 [.tree [] 0 ex]) 2 gj
def YN(P:Program)(im:Nat->Option Nat)(fn:Func)(c:Code)(e:Env):Option D:=
 match run .nil 20 (.code (jv P im fn.ntmps c) e Sto.empty)with
 |some (.code x e' σ')=>match x with
  |.ret=>match sE e' σ' (fn.results.toList.map (ES P))with
   |some d=>lf false σ'.get gJ d
   |none=>none
  |_=>none
 |_=>none
def IV{fn:Func}{c:Code}{e:Env}(h:YN P im fn c e=some gj):QW P im fn c e:=by
 unfold YN at h;split at h
 ·rename_i x e' σ' hr;split at h
  ·split at h
   ·rename_i d hd;exact⟨e',σ',d,hr,hd,h⟩
   ·cases h
  ·cases h
 ·cases h
def rJ(hm:P.follows .mixedOrders=true){F:FuncId}{fn:Func}(hf:P.funcs[F]?=some fn)
 (hb:fn.body=some (.seq (Sj (bod fn)) (.seq (.seq (.region (z48 (clR fn)) (z0g (clR fn)) false) (.cond (.tmp 4) (z3l (clC fn)) .skip)) (M3 (M3 (bod fn))))))
 (zaU:(z0g (clR fn)).toList=[clO fn 0,clO fn 1])
 (hd:((clO fn 0).guard,(clO fn 1).guard,(clO fn 0).dst,(clO fn 1).dst)=(none,none,some 3,some 4)) (p0:(clO fn 0).op=.move (.tmp 0))
 (p1:(clO fn 1).op=.binOp .eql (clT fn).1 (.tmp 3) (.const (.slice none 0 0)) (clT fn).2) (hu:P.underlying (clT fn).1=some (.slice (clE P fn))) (hnt:Nat.ble 5 (fn.ntmps%yp)=true)
 (hok:fn.results.toList.all (CA P)=true)
 (r0:(λex=>run .nil 20 (.code (jv P im fn.ntmps (Sj (bod fn))) (tP .nil 0 [.tree [] 0 ex]) Sto.empty))=λex=>some (.code .nrm (cl0 ex) Sto.empty))
 (rT:(λex=>YN P im fn (z3l (clC fn)) (((cl0 ex).set 3 (.tree [] 0 ex)).set 4 (.b true)))=λ_=>some gj)
 (rB:(λex=>YN P im fn (M3 (M3 (bod fn))) (((cl0 ex).set 3 (.tree [] 0 ex)).set 4 (.b false)))=λ_=>some gj) (ex:Bool):
 rj P im F [.tree [] 0 ex] gj:=by
 simp only[aI]at hd;exact Ls hm hf hb zaU hd.1 hd.2.1 hd.2.2.1 hd.2.2.2 p0 p1 hu (aV hnt) hok (congrFun r0 ex) rfl (IV (congrFun rT ex)) (IV (congrFun rB ex))
noncomputable section
def mS(R:fP)(as:fN):Option D:=
 u1 as λa r=>u0 r (JO a (λ_ _ _ _ _ _=>none) (λcs len ex=>List.rec (motive:=λ_=>Rs) (cnd (Nat.beq len 0) (some gj) none) (λ_ _ _=>R [a]) cs) none)
def Rh{F:FuncId}{R:fP}(hR:Snd P im F R)(h:∀ex,rj P im F [.tree [] 0 ex] gj):Snd P im F (mS R):=by
 intro as r hr;obtain⟨a,as',rfl,h1⟩:=ku hr;obtain⟨rfl,h2⟩:=qt h1;rcases tL h2 with⟨l,off,len,cm,z,ex,rfl,h3⟩|⟨cs,len,ex,rfl,h3⟩
 ·cases h3
 ·cases cs with
  |nil=>
   have h3:cnd (Nat.beq len 0) (some (D.tree [] 0 true)) none=some r:=h3;obtain⟨h4,h5⟩:=gR h3;have:=aT h4;subst this;cases h5;exact h ex
  |cons c cs=>exact hR _ _ h3
end
end Go.Proofs.Ev
namespace Go.Proofs.Ev
noncomputable section
def UU{kk:IntKind}{a b:Nat}{k:D->Rs}(ha:a<=i9 kk)(hb:b<=i9 kk):vY (.i kk (.ofNat a)) (.i kk (.ofNat b)) k=k (.i kk (.ofNat (a&&&b))):=by
 unfold vY inK;rw[qT,aD ha,aD hb,fH,fH,fj];rfl
def X8{a b:Nat}{k:D->Rs}:jZ (.i .u64 (.ofNat a)) (.i .u64 (.ofNat b)) k=k (.i .u64 (.ofNat (a*b%B64))):=by
 unfold jZ;rw[qT];exact DO
def z1E(a:Nat):a&&&4294967295=a%4294967296:=zmQ a 32
def m32:(4294967295:Nat)<=i9 .u64:=aV rfl
def JY{x:Nat}{K:D->Rs}(h:x<18446744073709551616):vY (.i .u64 (.ofNat x)) (.i .u64 (.ofNat 4294967295)) K=K (.i .u64 (.ofNat (x%4294967296))):=by rw[UU (bL h) m32,z1E]
def Ea{a b:Nat}{K:D->Rs}(h:a+b<18446744073709551616):f7 (.i .u64 (.ofNat a)) (.i .u64 (.ofNat b)) K=K (.i .u64 (.ofNat (a+b))):=kW (bL h)
def E7{a b:Nat}{K:D->Rs}(h:a*b<18446744073709551616):jZ (.i .u64 (.ofNat a)) (.i .u64 (.ofNat b)) K=K (.i .u64 (.ofNat (a*b))):=wO (bL h)
def FF{a:Nat}{k:D->Rs}:pP (.i .u64 (.ofNat a)) (.i .u64 (.ofNat 32)) k=k (.i .u64 (.ofNat (a/4294967296))):=wi eV
def z12(L M:Nat)(hM:L*L=M)(x1 x0 y1 y0:Nat):(x1*L+x0)*(y1*L+y0)=x1*y1*M+(x1*y0+x0*y1)*L+x0*y0:=by
 subst hM;simp only[aS,bK];have a1:x1*L*(y1*L)=x1*y1*(L*L):=by rw[aa,eI L,<-aa x1]
 have a2:x1*L*y0=x1*y0*L:=by rw[aa,aL L,<-aa]
 have a3:x0*(y1*L)=x0*y1*L:=by rw[aa]
 rw[a1,a2,a3];omega
def Qk{x y φ:Nat}(hx:x<B64)(hy:y<B64):o8 φ [n64 x,n64 y]=some (.tup [n64 (x*y/B64),n64 (x*y%B64)]):=by
 have hx':x<18446744073709551616:=hx;have hy':y<18446744073709551616:=hy;have hx0:x%4294967296<=4294967295:=eP;have hx1:x/4294967296<=4294967295:=eP;have hy0:y%4294967296<=4294967295:=eP;have hy1:y/4294967296<=4294967295:=eP;have ha:=ay hx0 hy0;have hb:=ay hx1 hy0;have hc:=ay hx0 hy1;have hd:=ay hx1 hy1;have hP:x*y=(x/4294967296)*(y/4294967296)*B64+((x/4294967296)*(y%4294967296)+(x%4294967296)*(y/4294967296))*4294967296+(x%4294967296)*(y%4294967296):=by
  have e:=z12 4294967296 B64 rfl (x/4294967296) (x%4294967296) (y/4294967296) (y%4294967296);rw[show x/4294967296*4294967296+x%4294967296=x by omega,show y/4294967296*4294967296+y%4294967296=y by omega]at e;exact e
 have hhi:x*y/B64=(x/4294967296)*(y/4294967296)+((x/4294967296)*(y%4294967296)+(x%4294967296)*(y%4294967296)/4294967296)/4294967296+(((x/4294967296)*(y%4294967296)+(x%4294967296)*(y%4294967296)/4294967296)%4294967296+(x%4294967296)*(y/4294967296))/4294967296:=by
  rw[hP];generalize (x/4294967296)*(y/4294967296)=d at*;generalize (x/4294967296)*(y%4294967296)=b at*;generalize (x%4294967296)*(y/4294967296)=c at*;generalize (x%4294967296)*(y%4294967296)=a at*;show(d*18446744073709551616+(b+c)*4294967296+a)/18446744073709551616=_;omega
 rw[hhi];clear hhi hP;have t0:(x%4294967296)*(y%4294967296)<18446744073709551616:=eP;have tb:(x/4294967296)*(y%4294967296)<18446744073709551616:=eP;have tc:(x%4294967296)*(y/4294967296)<18446744073709551616:=eP;have td:(x/4294967296)*(y/4294967296)<18446744073709551616:=eP;have t1:(x/4294967296)*(y%4294967296)+(x%4294967296)*(y%4294967296)/4294967296<18446744073709551616:=eP;have t2:((x/4294967296)*(y%4294967296)+(x%4294967296)*(y%4294967296)/4294967296)%4294967296+(x%4294967296)*(y/4294967296)<18446744073709551616:=eP;have t3:(x/4294967296)*(y/4294967296)+((x/4294967296)*(y%4294967296)+(x%4294967296)*(y%4294967296)/4294967296)/4294967296<18446744073709551616:=eP;have t4:(x/4294967296)*(y/4294967296)+((x/4294967296)*(y%4294967296)+(x%4294967296)*(y%4294967296)/4294967296)/4294967296+(((x/4294967296)*(y%4294967296)+(x%4294967296)*(y%4294967296)/4294967296)%4294967296+(x%4294967296)*(y/4294967296))/4294967296<18446744073709551616:=eP;unfold o8 n64;simp only[fJ,fV];refine(JY hx').trans ?_;refine FF.trans ?_;refine(JY hy').trans ?_;refine FF.trans ?_;refine(E7 t0).trans ?_;refine(E7 tb).trans ?_;refine FF.trans ?_;refine(Ea t1).trans ?_;refine(JY t1).trans ?_;refine FF.trans ?_;refine(E7 tc).trans ?_;refine(Ea t2).trans ?_;refine(E7 td).trans ?_;refine(Ea t3).trans ?_;refine FF.trans ?_;refine(Ea t4).trans ?_;refine X8.trans ?_;rfl
def ta(as:fN):Option D:=
 u1 as λa r=>u1 r λb r=>u0 r (EM a λx=>EM b λy=>cnd (Nat.blt x B64) (cnd (Nat.blt y B64) (frc (Nat.mul x y) λp=>frc (Nat.div p B64) λhi=>frc (Nat.mod p B64) λlo=>some (.tup [.i .u64 (.ofNat hi),.i .u64 (.ofNat lo)])) none) none)
def Fj{as:fN}{r:D}(h:ta as=some r):∃φ,o8 φ as=some r:=by
 obtain⟨a,as1,h1,h2⟩:=ku h;obtain⟨b,as2,h3,h4⟩:=ku h2;obtain⟨h5,h6⟩:=qt h4;obtain⟨x,h7,h8⟩:=rg h6;obtain⟨y,h9,h10⟩:=rg h8;obtain⟨hx,h11⟩:=gR h10;obtain⟨hy,h12⟩:=gR h11;have hx:x<B64:=by simpa[zmm]using hx
 have hy:y<B64:=by simpa[zmm]using hy
 simp only[fj]at h12;subst h1 h3 h5 h7 h9;exact⟨0,(Qk hx hy).trans h12⟩
def ia(φ:Nat):fP:=
 λas=>
(λ(s:LS)=>
 u1 as λf F=>
 u1 F λk G=>
 u0 G (
 fT f s λH s=>
 fT k s λI s=>
 f7 H I λl=>
 io 1 8 [(.i .u64 (.ofNat 0))] s l l λJ s=>
 fT f s λK s=>
 lp gQ (λ(M:jo)(g m n o d:D)(s:LS)=>
 gD d o λN=>
 fE N
(eT 1 s n d λO s=>
 eR s O λP s=>
 fT g s λS s=>
 lp qI (λ(U:xE)(h b e p u v w y z A c:D)(s:LS)=>
 gD c A λV=>
 fE V
(eT 1 s z c λW s=>
 eR s W λX s=>
 eY ta [p,X] s λB s=>
 gB B 0 s λY s=>
 gB B 1 s λZ s=>
 f7 e c λbb=>
 eT 1 s b bb λbc s=>
 eR s bc λbd s=>
 oi Z bd (.i .u64 (.ofNat 0)) s λC s=>
 gB C 0 s λbf s=>
 gB C 1 s λbg s=>
 f7 Y bg λbh=>
 oi bf u (.i .u64 (.ofNat 0)) s λE s=>
 gB E 0 s λbi s=>
 gB E 1 s λbk s=>
 f7 e c λbl=>
 f7 bh bk λbm=>
 eT 1 s b bl λbn s=>
 fA 1 s bn bi λ_ s=>
 f7 c ej λbo=>
 U h b e p bm v w y z A bo s)
(fT h s λbp s=>
 f7 e bp λbu=>
 eT 1 s b bu λbv s=>
 fA 1 s bv u λ_ s=>
 f7 y ej λbw=>
 M h b v w bw s)) φ g m d P (.i .u64 (.ofNat 0)) n o d g S fB s)
((fv φ) [m] s λbz s=>
 fO false s bz some)) φ k J f K fB s)) s0
def rZ(φ:Nat):fP:=
 λas=>
(λ(s:LS)=>
 u1 as λb c=>
 u1 c λd e=>
 u0 e (
 eY pL [b] s λf s=>
 eY pL [d] s λg s=>
 eY (ia φ) [f,g] s λh s=>
 eY sL [h] s λi s=>
 fO false s i some)) s0
def rb(φ:Nat):fP:=
 λas=>
(λ(s:LS)=>
 u1 as λy z=>
 u1 z λA B=>
 u0 B (
 eY pL [y] s λe s=>
 eY pL [A] s λf s=>
 jn (λ(g C:D)(s:LS)=>
 fT g s λE s=>
 f7 E ej λm=>
 io 1 8 [(.i .u64 (.ofNat 0))] s m m λF s=>
 fT g s λG s=>
 lp iH (λ(H:kT)(h c d k l b:D)(s:LS)=>
 gD b l λI=>
 fE I
(jn (λ(n J o K p M N O:D)(s:LS)=>
 eT 1 s n p λP s=>
 eR s P λS s=>
 oi S M K s λu s=>
 gB u 0 s λU s=>
 gB u 1 s λV s=>
 eT 1 s o p λW s=>
 fA 1 s W U λ_ s=>
 f7 O ej λX=>
 H n J o V N X s) λv=>
 fT c s λY s=>
 gD b Y λZ=>
 fE Z
(eT 1 s c b λbb s=>
 eR s bb λbc s=>
 v h c d k b bc l b s)
(v h c d k b (.i .u64 (.ofNat 0)) l b s))
(fT h s λbd s=>
 eT 1 s d bd λbf s=>
 fA 1 s bf k λ_ s=>
 eY sL [d] s λbg s=>
 fO false s bg some)) φ g C F (.i .u64 (.ofNat 0)) G fB s) λw=>
 fT e s λbh s=>
 fT f s λbi s=>
 gD bh bi λbk=>
 fE bk
(w f e s)
(w e f s))) s0
def ra(φ:Nat):fP:=
 λas=>
(λ(s:LS)=>
 u1 as λf i=>
 u1 i λg l=>
 u0 l (
 kS (.lens (.c f)) s λm s=>
 kS (.lens (.c g)) s λn s=>
 gD m n λe=>
 eU e false (λk=>k f s) s λo s=>
 eU e false (λk=>kS (.lens (.c o)) s k) s λp s=>
 eU e false (λk=>k g s) s λu s=>
 eU e false (λk=>kS (.lens (.c u)) s k) s λv s=>
 eU e false (λk=>iR p v λd=>k d s) s λw s=>
 eU e false (λk=>k w s) s λh s=>
 eU h true (λk=>k f s) s λy s=>
 eU h true (λk=>k g s) s λz s=>
 eU h true (λk=>gD y z λd=>k d s) s λA s=>
 eU e false (λk=>iB h A (.b false) s k) s λB s=>
 iB e (.b true) B s λC s=>
 fE C
(fO false s lC some)
(iR f g λE=>
 fE E
(fO false s fB some)
(fO false s ej some)))) s0
def rY(φ:Nat):fP:=
 λas=>
(λ(s:LS)=>
 u1 as λn o=>
 u1 o λp u=>
 u0 u (
 eY pL [n] s λg s=>
 eY pL [p] s λv s=>
 fT g s λw s=>
 lp gQ (λ(y:jo)(d c h e b:D)(s:LS)=>
 gD b e λz=>
 fE z
(jn (λ(f A B k C E F:D)(s:LS)=>
 eT 1 s f k λG s=>
 eR s G λH s=>
 u7 H C B s λl s=>
 gB l 0 s λI s=>
 gB l 1 s λJ s=>
 eT 1 s f k λK s=>
 fA 1 s K I λ_ s=>
 f7 F ej λM=>
 y f A J E M s) λm=>
 fT c s λN s=>
 gD b N λO=>
 fE O
(eT 1 s c b λP s=>
 eR s P λS s=>
 m d c h b S e b s)
(m d c h b (.i .u64 (.ofNat 0)) e b s))
(eY sL [d] s λU s=>
 fO false s U some)) φ g v (.i .u64 (.ofNat 0)) w fB s)) s0
variable {s:LS} {l off len cm z i n:Nat} {ex:Bool} {b:Blk} {d:D} {kk k2:IntKind} {K:fK}
def tO(hg:s.get l=some b)(hl:b.st.live=true)(hi:i<len):eT z s (.sl l off len cm z ex) (.i k2 (.ofNat i)) K=K (.ptr l (off+i*z)) s:=by
 show iq s l (λb=>cnd (lv b.st) (cnd (Nat.blt i len) (cnd (Nat.beq z z) (frc (Nat.add off (Nat.mul i z)) λo=>K (.ptr l o) s) none) none) none)=_;rw[oB,hg];show cnd (lv b.st) (cnd (Nat.blt i len) (cnd (Nat.beq z z) (frc (Nat.add off (Nat.mul i z)) λo=>K (.ptr l o) s) none) none) none=_;rw[nQ,hl,fk hi,gE,fH,fH,fH,fj];rfl
def yS(hg:s.get l=some b)(hl:b.st.live=true)(hd:b.cs[i]?=some d):eR s (.ptr l i) K=K d s:=by
 show iq s l (λb=>cnd (lv b.st) (EN i b.cs λd=>K d s) none)=_;rw[oB,hg];show cnd (lv b.st) (EN i b.cs λd=>K d s) none=_;rw[nQ,hl,fH,CK,hd];rfl
def NX(hg:s.get l=some b):l<s.nx:=by
 unfold LS.get at hg;split at hg
 ·assumption
 ·cases hg
def GE(hg:s.get l=some b)(b':Blk)(k:LS->Rs):oh s l b' k=k (s.put l b'):=GD s l b' k
def tN(hg:s.get l=some b)(b':Blk)(m:Nat):(s.put l b').get m=if m=l then some b' else s.get m:=LS.get_put hg b' m
def BM(hs:s.fit)(b':Blk)(m:Nat):(s.push b').get m=if m=s.nx then some b' else s.get m:=LS.get_push s b' m
def NJ(hs:s.fit)(b':Blk):(s.push b').fit/\(s.push b').nx=s.nx+1:=⟨rfl,rfl⟩
def yQ(hg:s.get l=some b)(hw:b.st.wr=true)(hi:i<b.cs.length):fA 1 s (.ptr l i) (.i kk (.ofNat n)) K=K .u (s.put l ⟨b.cs.set i (.i kk (.ofNat n)),.rw⟩):=by
 show iq s l (λb=>cnd (wr b.st) (xU i [.i kk (.ofNat n)] b.cs λcs'=>oh s l ⟨cs',.rw⟩ λs=>K .u s) none)=_;rw[oB,hg];show cnd (wr b.st) (xU i [.i kk (.ofNat n)] b.cs λcs'=>oh s l ⟨cs',.rw⟩ λs=>K .u s) none=_;rw[Bj,hw,fH,qE,CY hi];show oh s l _ _=_;rw[GE hg]
def PG{bytes:Nat}{z:D}(h1:n<=140737488355328)(h2:n*bytes<=140737488355328):io 1 bytes [z] s (.i .i64 (.ofNat n)) (.i .i64 (.ofNat n)) K=K (.sl s.nx 0 n n 1 true) (s.push ⟨List.replicate n z,.rw⟩):=by
 unfold io;rw[qT];show cnd (Nat.ble n n) (cnd (Nat.ble n 140737488355328) (cnd (Nat.ble (Nat.mul n bytes) 140737488355328) (xt [z] n λcs=>lh s ⟨cs,.rw⟩ λs'=>K (.sl s.nx 0 n n 1 true) s') none) none) none=_;rw[aD (aC n),aD h1,aD (show Nat.mul n bytes<=140737488355328 from h2)];simp only[fH];rw[tK,wA,lH]
end
end Go.Proofs.Ev
namespace Go.Proofs.Ev
noncomputable section
variable {s:LS} {K:fK}
inductive Hold (s:LS):D->eZ->Prop
 |nil:Hold s gj []
 |sl {l cm:Nat} {ex:Bool} {ws:eZ} (hg:s.get l=some ⟨c64 ws,.rw⟩):Hold s (.sl l 0 ws.length cm 1 ex) ws
def pQ{x:D}{ws:eZ}(h:Hold s x ws):fT x s K=K (.i .i64 (.ofNat ws.length)) s:=by
 cases h<;>rfl
def wN{x:D}{ws:eZ}{i w:Nat}{k2:IntKind}(h:Hold s x ws)(hi:ws[i]?=some w):(eT 1 s x (.i k2 (.ofNat i)) λa s=>eR s a K)=K (n64 w) s:=by
 cases h with
 |nil=>cases hi
 |sl hg=>
  have hlt:i<ws.length:=(ak.1 hi).1;refine(tO hg rfl hlt).trans ?_;refine yS hg rfl ?_;rw[show 0+i*1=i by omega];exact pA hi
def Fq{n:Nat}:∀{ws:eZ}{kk:fN->eZ->Rs},ma (jX s (n+1)) (c64 ws) kk=kk (c64 ws) []
 |[],kk=>rfl
 |w::ws,kk=>by
  show ma (jX s (n+1)) (c64 ws) (λys b=>kk (n64 w::ys) b)=_;rw[Fq];rfl
def TF{x:D}{ws:eZ}{n:Nat}(h:Hold s x ws):∃ex ls,∀kk,jX s (n+2) x kk=kk (.tree (c64 ws) ws.length ex) ls:=by
 cases h with
 |nil=>exact⟨true,[],λkk=>rfl⟩
 | @sl l cm ex ws hg=>
  refine⟨cnd ex (Nat.beq cm ws.length) false,[l],λkk=>?_⟩;show(iq s l λb=>cnd (lv b.st) (jJ 0 b.cs λr=>jP (Nat.mul ws.length 1) r λr=>ma (jX s (n+1)) r λcs ls=>nM (cnd ex (Nat.beq cm ws.length) false) λex=>kk (.tree cs ws.length ex) (l::ls)) none)=_;rw[oB,hg];show(jJ 0 (c64 ws) λr=>jP (Nat.mul ws.length 1) r λr=>ma (jX s (n+1)) r λcs ls=>nM (cnd ex (Nat.beq cm ws.length) false) λex=>kk (.tree cs ws.length ex) (l::ls))=_;have hlen:(c64 ws).length=ws.length:=by simp[c64]
  rw[gZ,i7,show Nat.mul ws.length 1=ws.length from a9 _,a7,aF eP,aP eP,Fq,iz]
def KJ:∀{ws:eZ}{k:Nat->Nat->Rs},lk ws->Q2 (c64 ws) k=k (val ws) ws.length
 |[],k,h=>rfl
 |w::ws,k,h=>by
  show cnd (Nat.blt w B64) (Q2 (c64 ws) λv n=>frc (Nat.add w (Nat.mul B64 v)) λv=>frc (Nat.succ n) λn=>k v n) none=_;rw[fk (h w (b9 ..)),fH,KJ λx hx=>h x (bC _ hx),fj,fj];rfl
def BD{ws:eZ}{ex:Bool}(h:lk ws)(hl:ws.length<=1000000000):sL [.tree (c64 ws) ws.length ex]=some (.n (val ws)):=by
 show(Q2 (c64 ws) λv n=>cnd (Nat.beq n ws.length) (cnd (Nat.ble ws.length 1000000000) (some (.n v)) none) none)=_;rw[KJ h,gE,aD hl];rfl
def LL{x:D}{ws:eZ}(hx:Hold s x ws)(h:lk ws)(hl:ws.length<=1000000000):eY sL [x] s K=K (.n (val ws)) s:=by
 obtain⟨ex,ls,hr⟩:=TF (n:=58) hx;show jX s 60 x (λy a=>pk a [] λab=>ob (sL [y]) λr=>nD s ab r K)=_;rw[hr,jt,BD h hl];rfl
structure More (s s':LS):Prop where
 old:∀l b,s.get l=some b->s'.get l=some b
 len:s.fit->s'.fit
def More.refl(s:LS):More s s:=⟨λ_ _ h=>h,id⟩
def More.trans{s s' s'':LS}(h:More s s')(h':More s' s''):More s s'':=⟨λl b g=>h'.old l b (h.old l b g),λg=>h'.len (h.len g)⟩
def More.push(hs:s.fit)(b:Blk):More s (s.push b):=by
 refine⟨λl b' h=>?_,λh=>(NJ h b).1⟩;rw[BM hs,aG (by have:=NX h;omega)];exact h
def Hold.more{s s':LS}(h:More s s'){x:D}{ws:eZ}(hx:Hold s x ws):Hold s' x ws:=by
 cases hx with
 |nil=>exact .nil
 |sl hg=>exact .sl (h.old _ _ hg)
def Ll:∀(n m:Nat),lk (dg n m)
 |0,m=>λw hw=>by cases hw
 |n+1,m=>λw hw=>by
  rcases bh.1 hw with rfl|hw
  ·exact bN _ eV
  ·exact Ll n _ w hw
def Nc:∀(n m:Nat),(dg n m).length=n
 |0,m=>rfl
 |n+1,m=>congrArg Nat.succ (Nc n (m/B64))
def SV:∀(n m:Nat),m<B64^n->val (dg n m)=m
 |0,m,h=>by
  have:m=0:=by simpa using h
  subst this;rfl
 |n+1,m,h=>by
  show m%B64+B64*val (dg n (m/B64))=m;rw[SV n (m/B64) (dk (by rw[bI,aL]at h;exact h))];exact zmt m B64
def ri{m:Nat}(hs:s.fit)(hm:Nat.log2 m<=1000000000):∃x s' ws,(∀K,eY pL [.n m] s K=K x s')/\Hold s' x ws/\lk ws/\val ws=m/\ws.length<=Nat.log2 m/64+1/\More s s'/\(∀l off len cm z ex,x=.sl l off len cm z ex->s.nx<=l):=by
 by_cases h0:m=0
 ·subst h0;exact⟨.tree [] 0 true,s,[],λK=>rfl,.nil,λw hw=>(by cases hw),rfl,aJ _,More.refl s,λl off len cm z ex e=>(by cases e)⟩
 ·refine⟨.sl s.nx 0 (dg (Nat.log2 m/64+1) m).length (dg (Nat.log2 m/64+1) m).length 1 false,s.push ⟨c64 (dg (Nat.log2 m/64+1) m),.rw⟩,dg (Nat.log2 m/64+1) m,λK=>?_,?_,Ll _ _,?_,zmR (Nc _ _),More.push hs _,λl off len cm z ex e=>(by cases e;exact aC _)⟩
  ·show(ob (cnd (Nat.beq m 0) (some gj) (cnd (Nat.ble (Nat.log2 m) 1000000000) (frc (Nat.succ (Nat.div (Nat.log2 m) 64)) λW=>dgK W m λds=>some (.own ds W 1)) none)) λr=>nD s [] r K)=_;rw[ik h0,aD hm,fq,fH,fj,Nd,Nc];show lh s ⟨c64 (dg (Nat.log2 m/64+1) m),.rw⟩ (λs'=>K (.sl s.nx 0 (Nat.log2 m/64+1) (Nat.log2 m/64+1) 1 false) s')=_;rw[lH]
  ·refine .sl ?_;rw[BM hs,aF rfl]
  ·apply SV;rw[Eo];refine bw (Nat.lt_log2_self (n:=m)) ?_;exact cM eV eP
end
end Go.Proofs.Ev
namespace Go.Proofs.Ev
noncomputable section
variable {s:LS} {K:fK}
def Off(lo:Nat)(x:D):Prop:=∀l off len cm z ex,x=.sl l off len cm z ex->l≠lo
def Hold.off{x:D}{ws:eZ}(h:Hold s x ws){lo:Nat}(hlo:s.nx<=lo):Off lo x:=by
 intro l off len cm z ex e;subst e;cases h with
 |sl hg=>have:=NX hg;omega
def Hold.put{x:D}{ws:eZ}(h:Hold s x ws){lo:Nat}(ho:Off lo x){b b':Blk}(hg:s.get lo=some b):Hold (s.put lo b') x ws:=by
 cases h with
 |nil=>exact .nil
 |sl hg'=>exact .sl (by rw[tN hg,aG (ho _ _ _ _ _ _ rfl)];exact hg')
def wF:∀(a b:eZ),val (a++b)=val a+B64^a.length*val b
 |[],b=>by show val b=0+1*val b;omega
 |w::a,b=>by
  show w+B64*val (a++b)=w+B64*val a+B64^(a.length+1)*val b;rw[wF a b,bK,bI,aL (B64^a.length) B64,aa];omega
def uz:∀(ws:eZ)(i:Nat),val (ws.take (i+1))=val (ws.take i)+ws.getD i 0*B64^i
 |[],i=>by simp[val]
 |w::ws,0=>by
  show w+B64*val []=0+w*1;show w+B64*0=0+w*1;omega
 |w::ws,i+1=>by
  show w+B64*val (ws.take (i+1))=w+B64*val (ws.take i)+ws.getD i 0*B64^(i+1);rw[uz ws i,bK,bI,aL B64 (ws.getD i 0*B64^i),aa];omega
def LK{a b c:Nat}(hc:c<=1):oi (n64 a) (n64 b) (n64 c) s K=K (.tup [n64 ((a+b+c)%B64),n64 ((a+b+c)/B64)]) s:=by
 show cnd (Nat.ble c 1) (frc (Nat.mod (Nat.add (Nat.add a b) c) B64) λlo=>frc (Nat.div (Nat.add (Nat.add a b) c) B64) λhi=>K (.tup [.i .u64 (.ofNat lo),.i .u64 (.ofNat hi)]) s) none=_;rw[aD hc,fH,fj,fj];rfl
def UC{lo i n w k:Nat}{outs:eZ}(hg:s.get lo=some ⟨c64 (outs++List.replicate (k+1) 0),.rw⟩)(ho:outs.length=i)(hi:i<n){k2:IntKind}:
 (eT 1 s (.sl lo 0 n n 1 true) (.i k2 (.ofNat i)) λa s=>fA 1 s a (n64 w) K)=K .u (s.put lo ⟨c64 ((outs++[w])++List.replicate k 0),.rw⟩):=by
 refine(tO hg rfl hi).trans ?_;refine(yQ hg rfl ?_).trans ?_
 ·rw[jO,aq,bg];omega
 ·rw[y5,show 0+i*1=outs.length by omega,bU _ _ (aC _),bD];rw[aQ];rfl
def naF(φ:Nat)(q12:kT)(x13 x14 x15 x16 x17 x18:D)(s:LS):Rs:=(
 gD x18 x17 λx19=>
 fE x19
(jn (λ(x21 x22 x23 x24 x25 x26 x27 x28:D)(s:LS)=>
 eT 1 s x21 x25 λx29 s=>
 eR s x29 λx30 s=>
 oi x30 x26 x24 s λx31 s=>
 gB x31 0 s λx32 s=>
 gB x31 1 s λx33 s=>
 eT 1 s x23 x25 λx34 s=>
 fA 1 s x34 x32 λ_ s=>
 f7 x28 ej λx35=>
 q12 x21 x22 x23 x33 x27 x35 s) λj20=>
 fT x14 s λx36 s=>
 gD x18 x36 λx37=>
 fE x37
(eT 1 s x14 x18 λx38 s=>
 eR s x38 λx39 s=>
 j20 x13 x14 x15 x16 x18 x39 x17 x18 s)
(j20 x13 x14 x15 x16 x18 (.i .u64 (.ofNat 0)) x17 x18 s))
(fT x13 s λx40 s=>
 eT 1 s x15 x40 λx41 s=>
 fA 1 s x41 x16 λ_ s=>
 eY sL [x15] s λx42 s=>
 fO false s x42 some))
def Ok{X Y:D}{xs ys:eZ}{lo φ:Nat}(hx:lk xs)(hy:lk ys)(hl:ys.length<=xs.length)(hn:xs.length<=900000000)(ox:Off lo X)(oy:Off lo Y):
 ∀(j i f c:Nat)(outs:eZ)(s:LS),j+i=xs.length->j<f->Hold s X xs->Hold s Y ys->s.get lo=some ⟨c64 (outs++List.replicate (j+1) 0),.rw⟩->outs.length=i->lk outs->c<=1->
  val outs+c*B64^i=val (xs.take i)+val (ys.take i)->
  lp iH (naF φ) f X Y (.sl lo 0 (xs.length+1) (xs.length+1) 1 true) (n64 c) (.i .i64 (.ofNat xs.length)) (.i .i64 (.ofNat i)) s=some (.n (val xs+val ys))
 |0,i,f+1,c,outs,s,hj,hf,hX,hY,hg,ho,hs,hc,hv=>by
  have hi:i=xs.length:=eP;subst hi;rw[ep];unfold naF;rw[jp,fw (bE _),ez,pQ hX,UC hg ho (co _)];have hg':=tN hg (⟨c64 ((outs++[c])++List.replicate 0 0),.rw⟩:Blk) lo;rw[aF rfl]at hg';have hH:Hold (s.put lo ⟨c64 ((outs++[c])++List.replicate 0 0),.rw⟩) (.sl lo 0 (xs.length+1) (xs.length+1) 1 true) (outs++[c]):=by
   have:=Hold.sl (cm:=xs.length+1) (ex:=true) (show(s.put lo ⟨c64 ((outs++[c])++List.replicate 0 0),.rw⟩).get lo=some ⟨c64 (outs++[c]),.rw⟩ by rw[hg'];simp);rw[show(outs++[c]).length=xs.length+1 by simp[ho]]at this;exact this
  rw[LL hH ?_ (by simp[ho];omega)]
  ·rw[wF,ho];rw[bV,aP hl]at hv;show some (D.n (val outs+B64^xs.length*val [c]))=_;rw[show val [c]=c from rfl,aL,hv]
  ·intro w hw;rcases bM.1 hw with h|h
   ·exact hs w h
   ·rw[cY.1 h];exact cR hc eV
 |j+1,i,f+1,c,outs,s,hj,hf,hX,hY,hg,ho,hs,hc,hv=>by
  have hi:i<xs.length:=eP;have hxi:xs[i]?=some (xs.getD i 0):=by rw[aB,aE hi];rfl
  have key:∀(b:Nat),b=ys.getD i 0->(eT 1 s X (.i .i64 (.ofNat i)) λx29 s=>eR s x29 λx30 s=>oi x30 (n64 b) (n64 c) s λx31 s=>gB x31 0 s λx32 s=>gB x31 1 s λx33 s=>eT 1 s (.sl lo 0 (xs.length+1) (xs.length+1) 1 true) (.i .i64 (.ofNat i)) λx34 s=>fA 1 s x34 x32 λ_ s=>f7 (.i .i64 (.ofNat i)) ej λx35=>
   lp iH (naF φ) f X Y (.sl lo 0 (xs.length+1) (xs.length+1) 1 true) x33 (.i .i64 (.ofNat xs.length)) x35 s)=some (.n (val xs+val ys)):=by
   intro b hb;have hb':b<B64:=by
    subst hb;rw[aB];cases h:ys[i]?with
    |none=>decide
    |some w=>exact hy w (bS h)
   have ha':xs.getD i 0<B64:=hx _ (bS hxi);refine(wN hX hxi).trans ?_;refine(LK hc).trans ?_;show(eT 1 s (.sl lo 0 (xs.length+1) (xs.length+1) 1 true) (.i .i64 (.ofNat i)) λx34 s=>fA 1 s x34 (n64 ((xs.getD i 0+b+c)%B64)) λ_ s=>f7 (.i .i64 (.ofNat i)) ej λx35=>
    lp iH (naF φ) f X Y (.sl lo 0 (xs.length+1) (xs.length+1) 1 true) (n64 ((xs.getD i 0+b+c)/B64)) (.i .i64 (.ofNat xs.length)) x35 s)=_
   refine(UC hg ho (zn9 hi)).trans ?_;refine(kW (show i+1<=i9 .i64 from(by show i+1<=9223372036854775807;omega))).trans ?_;refine Ok hx hy hl hn ox oy j (i+1) f _ (outs++[(xs.getD i 0+b+c)%B64]) _ eP eP (hX.put ox hg) (hY.put oy hg) ?_ (by simp[ho]) ?_ ?_ ?_
   ·rw[tN hg,aF rfl]
   ·intro w hw;rcases bM.1 hw with h|h
    ·exact hs w h
    ·rw[cY.1 h];exact bN _ eV
   ·have:xs.getD i 0+b+c<B64*2:=eP;have:=dk this;omega
   ·rw[wF,uz,uz,ho,show val [(xs.getD i 0+b+c)%B64]=(xs.getD i 0+b+c)%B64 from rfl,<-hb];have e:=zmt (xs.getD i 0+b+c) B64;generalize xs.getD i 0=a at*;have e2:B64^i*((a+b+c)%B64)+(a+b+c)/B64*B64^(i+1)=(a+b+c)*B64^i:=by
     rw[bI,aL (B64^i) ((a+b+c)%B64),aL (B64^i) B64,<-aa,<-aS,aL ((a+b+c)/B64) B64,e]
    rw[aS,aS]at e2;omega
  rw[ep];unfold naF;rw[jp,fk hi,fG];show(fT Y s λx36 s=>gD (.i .i64 (.ofNat i)) x36 λx37=>fE x37 _ _)=_;rw[pQ hY,jp];by_cases hyi:i<ys.length
  ·have zaJ:ys[i]?=some (ys.getD i 0):=by rw[aB,aE hyi];rfl
   rw[fk hyi,fG];refine(wN hY zaJ).trans ?_;exact key _ rfl
  ·rw[fw eP,ez];exact key 0 (by rw[aB,ai eP];rfl)
def naJ(φ:Nat)(x6 x7:D)(s:LS):Rs:=(
 fT x6 s λx8 s=>
 f7 x8 ej λx9=>
 io 1 8 [(.i .u64 (.ofNat 0))] s x9 x9 λx10 s=>
 fT x6 s λx11 s=>
 lp iH (naF φ) φ x6 x7 x10 (.i .u64 (.ofNat 0)) x11 fB s)
def Ol{X Y:D}{xs ys:eZ}{φ:Nat}(hx:lk xs)(hy:lk ys)(hl:ys.length<=xs.length)(hn:xs.length<=900000000)(hs:s.fit)(hX:Hold s X xs)(hY:Hold s Y ys)(hφ:xs.length<φ):
 naJ φ X Y s=some (.n (val xs+val ys)):=by
 unfold naJ;rw[pQ hX];refine(kW (show xs.length+1<=i9 .i64 from(by show xs.length+1<=9223372036854775807;omega))).trans ?_;refine(PG eP eP).trans ?_;have hm:=More.push hs (⟨List.replicate (xs.length+1) (.i .u64 (.ofNat 0)),.rw⟩:Blk);refine(pQ (hX.more hm)).trans ?_;refine Ok hx hy hl hn (hX.off (aC _)) (hY.off (aC _)) xs.length 0 φ 0 [] _ eP hφ (hX.more hm) (hY.more hm) ?_ rfl (λw hw=>(by cases hw)) (aJ _) ?_
 ·rw[BM hs,aF rfl,AY];rfl
 ·simp[val]
def NF{x y φ:Nat}(hx:Nat.log2 x<=1000000000)(hy:Nat.log2 y<=1000000000)(h1:Nat.log2 x/64+1<φ)(h2:Nat.log2 y/64+1<φ):rb φ [.n x,.n y]=some (.n (x+y)):=by
 obtain⟨X,s1,xs,k1,hX,sx,vx,lx,m1,_⟩:=ri (s:=s0) (m:=x) rfl hx;obtain⟨Y,s2,ys,k2,hY,sy,vy,ly,m2,_⟩:=ri (s:=s1) (m:=y) (m1.len rfl) hy;unfold rb;refine(k1 _).trans ?_;refine(k2 _).trans ?_;have hX:=hX.more m2;have hs:=m2.len (m1.len rfl);show(fT X s2 λx43 s=>fT Y s λx44 s=>gD x43 x44 λx45=>fE x45 (naJ φ Y X s) (naJ φ X Y s))=_;rw[pQ hX,pQ hY,jp];by_cases h:xs.length<ys.length
 ·rw[fk h,fG,Ol sy sx eP eP hs hY hX eP,vx,vy,cx]
 ·rw[fw h,ez,Ol sx sy eP eP hs hX hY eP,vx,vy]
def qC(as:fN):Option D:=
 u1 as λa r=>u1 r λb r=>u0 r (po a λx=>po b λy=>cnd (Nat.ble (Nat.log2 x) 1000000000) (cnd (Nat.ble (Nat.log2 y) 1000000000) (frc (Nat.add x y) λz=>some (.n z)) none) none)
def Do{as:fN}{r:D}(h:qC as=some r):∃φ,rb φ as=some r:=by
 obtain⟨a,r1,rfl,g1⟩:=ku h;obtain⟨b,r2,rfl,g2⟩:=ku g1;obtain⟨rfl,g3⟩:=qt g2;obtain⟨x,rfl,g4⟩:=jT g3;obtain⟨y,rfl,g5⟩:=jT g4;obtain⟨h1,g6⟩:=gR g5;obtain⟨h2,h⟩:=gR g6;rw[fj]at h;exact⟨Nat.log2 x/64+Nat.log2 y/64+3,by rw[NF (aV h1) (aV h2) eP eP];exact h⟩
end
end Go.Proofs.Ev
namespace Go.Proofs.Ev
noncomputable section
variable {s:LS} {K:fK}
def WQ(x y:D):Prop:=∀l off len cm z ex,x=.sl l off len cm z ex->Off l y
def F6{a:Nat}{k:Nat->Rs}:EM (.i .u64 (.ofNat a)) k=k a:=rfl
def W6(M a b c:Nat):Nat.mod (Nat.sub (Nat.sub (Nat.add a M) b) c) M=(a+M-b-c)%M:=rfl
def LF{a b c:Nat}(hc:c<=1):u7 (n64 a) (n64 b) (n64 c) s K=K (.tup [n64 ((a+B64-b-c)%B64),n64 (if a<b+c then 1 else 0)]) s:=by
 unfold u7 n64;rw[F6,F6,F6,aD hc,fH,fj,W6,show(18446744073709551616:Nat)=B64 from rfl];by_cases h:a<b+c
 ·rw[show Nat.blt a (Nat.add b c)=true from fk h,aF h,fH]
 ·rw[show Nat.blt a (Nat.add b c)=false from fw h,aG h,fq]
def X4{X:D}{outs rest:eZ}{v w i:Nat}{k2:IntKind}(h:Hold s X (outs++v::rest))(ho:outs.length=i):
 ∃s',(∀K,(eT 1 s X (.i k2 (.ofNat i)) λa s=>fA 1 s a (n64 w) K)=K .u s')/\Hold s' X ((outs++[w])++rest)/\(∀Y ys,WQ X Y->Hold s Y ys->Hold s' Y ys)/\(s.fit->s'.fit):=by
 generalize hz:outs++v::rest=zs at h;cases h with
 |nil=>cases outs<;>cases hz
 | @sl l cm ex _ hg=>
  subst hz;have hlen:(outs++v::rest).length=((outs++[w])++rest).length:=by simp
  refine⟨s.put l ⟨c64 ((outs++[w])++rest),.rw⟩,λK=>?_,?_,λY ys ha hY=>hY.put (ha _ _ _ _ _ _ rfl) hg,λhs=>rfl⟩
  ·refine(tO hg rfl (show i<(outs++v::rest).length by simp;omega)).trans ?_;refine(yQ hg rfl ?_).trans ?_
   ·rw[jO];simp;omega
   ·rw[y5,show 0+i*1=outs.length by omega,bU _ _ (aC _),bD,aQ];rfl
  ·have:=Hold.sl (cm:=cm) (ex:=ex) (show(s.put l ⟨c64 ((outs++[w])++rest),.rw⟩).get l=some ⟨c64 ((outs++[w])++rest),.rw⟩ by rw[tN hg,aF rfl]);rwa[<-hlen]at this
def nsF(φ:Nat)(q6:jo)(x7 x8 x9 x10 x11:D)(s:LS):Rs:=(
 gD x11 x10 λx12=>
 fE x12
(jn (λ(x14 x15 x16 x17 x18 x19 x20:D)(s:LS)=>
 eT 1 s x14 x17 λx21 s=>
 eR s x21 λx22 s=>
 u7 x22 x18 x16 s λx23 s=>
 gB x23 0 s λx24 s=>
 gB x23 1 s λx25 s=>
 eT 1 s x14 x17 λx26 s=>
 fA 1 s x26 x24 λ_ s=>
 f7 x20 ej λx27=>
 q6 x14 x15 x25 x19 x27 s) λj13=>
 fT x8 s λx28 s=>
 gD x11 x28 λx29=>
 fE x29
(eT 1 s x8 x11 λx30 s=>
 eR s x30 λx31 s=>
 j13 x7 x8 x9 x11 x31 x10 x11 s)
(j13 x7 x8 x9 x11 (.i .u64 (.ofNat 0)) x10 x11 s))
(eY sL [x7] s λx32 s=>
 fO false s x32 some))
def W5(a b c:Nat)(ha:a<B64)(hb:b<B64)(hc:c<=1):(a+B64-b-c)%B64+b+c=a+(if a<b+c then 1 else 0)*B64:=by
 by_cases h:a<b+c
 ·rw[aF h,am eP];omega
 ·rw[aG h,show a+B64-b-c=(a-b-c)+B64 by omega,Nat.add_mod_right,am eP];omega
def S7{a b c:Nat}(ha:a<B64)(hb:b<B64)(hc:c<=1):∃d c',(∀(s:LS)(K:fK),u7 (n64 a) (n64 b) (n64 c) s K=K (.tup [n64 d,n64 c']) s)/\d<B64/\c'<=1/\d+b+c=a+c'*B64:=
 ⟨_,_,λs K=>LF hc,bN _ eV,by split<;>omega,W5 a b c ha hb hc⟩
def WZ(w:Nat):val [w]=w:=rfl
def Of{X Y:D}{xs ys:eZ}{φ:Nat}(hx:lk xs)(hy:lk ys)(hle:val ys<=val xs)(hn:xs.length<=900000000)(hxy:WQ X Y):
 ∀(j i f c:Nat)(outs:eZ)(s:LS),j+i=xs.length->j<f->Hold s X (outs++xs.drop i)->Hold s Y ys->outs.length=i->lk outs->c<=1->
  val outs+val (ys.take i)=val (xs.take i)+c*B64^i->
  lp gQ (nsF φ) f X Y (n64 c) (.i .i64 (.ofNat xs.length)) (.i .i64 (.ofNat i)) s=some (.n (val xs-val ys))
 |0,i,f+1,c,outs,s,hj,hf,hX,hY,ho,hs,hc,hv=>by
  have hi:i=xs.length:=eP;subst hi;rw[ep];unfold nsF;rw[List.drop_length,bQ]at hX;rw[jp,fw (bE _),ez,LL hX hs eP];show some (D.n (val outs))=_;have h1:=Av hs;have h2:=Av hx;rw[ho]at h1;have h3:val ys=val (ys.take xs.length):=by
   have h4:=wF (ys.take xs.length) (ys.drop xs.length);rw[bY]at h4;by_cases h5:ys.length<=xs.length
   ·rw[aP h5]
   ·rw[aR,cF eP]at h4;have:val (ys.drop xs.length)=0:=by
     rcases bT (val (ys.drop xs.length))with h|h
     ·exact h
     ·have:=Nat.le_mul_of_pos_right (B64^xs.length) h;omega
    rw[this]at h4;omega
  rw[bV,<-h3]at hv;have:c=0\/c=1:=eP;rcases this with rfl|rfl
  ·congr 2;omega
  ·exfalso;omega
 |j+1,i,f+1,c,outs,s,hj,hf,hX,hY,ho,hs,hc,hv=>by
  have hi:i<xs.length:=eP;have hxi:xs[i]?=some (xs.getD i 0):=by rw[aB,aE hi];rfl
  have hdr:xs.drop i=xs.getD i 0::xs.drop (i+1):=by
   rw[cI hi,aB,aE hi];rfl
  rw[hdr]at hX;have ha':xs.getD i 0<B64:=hx _ (bS hxi);have hXi:(outs++xs.getD i 0::xs.drop (i+1))[i]?=some (xs.getD i 0):=by
   rw[aM eP,ho,bD];rfl
  have key:∀(b:Nat),b=ys.getD i 0->(eT 1 s X (.i .i64 (.ofNat i)) λx29 s=>eR s x29 λx30 s=>u7 x30 (n64 b) (n64 c) s λx31 s=>gB x31 0 s λx32 s=>gB x31 1 s λx33 s=>eT 1 s X (.i .i64 (.ofNat i)) λx34 s=>fA 1 s x34 x32 λ_ s=>f7 (.i .i64 (.ofNat i)) ej λx35=>
   lp gQ (nsF φ) f X Y x33 (.i .i64 (.ofNat xs.length)) x35 s)=some (.n (val xs-val ys)):=by
   intro b hb;have hb':b<B64:=by
    subst hb;rw[aB];cases h:ys[i]?with
    |none=>decide
    |some w=>exact hy w (bS h)
   refine(wN hX hXi).trans ?_;obtain⟨d,c',k0,hd,hc',e⟩:=S7 ha' hb' hc;refine(k0 _ _).trans ?_;obtain⟨s',k1,k2,k3,_⟩:=X4 (w:=d) (k2:=.i64) hX ho;show(eT 1 s X (.i .i64 (.ofNat i)) λx34 s=>fA 1 s x34 (n64 d) λ_ s=>f7 (.i .i64 (.ofNat i)) ej λx35=>
    lp gQ (nsF φ) f X Y (n64 c') (.i .i64 (.ofNat xs.length)) x35 s)=_
   refine(k1 _).trans ?_;refine(kW (show i+1<=i9 .i64 from(by show i+1<=9223372036854775807;omega))).trans ?_;refine Of hx hy hle hn hxy j (i+1) f c' (outs++[d]) _ eP eP k2 (k3 _ _ hxy hY) (by simp[ho]) ?_ hc' ?_
   ·intro w hw;rcases bM.1 hw with h|h
    ·exact hs w h
    ·rw[cY.1 h];exact hd
   ·rw[wF,uz,uz,ho,WZ,<-hb];have e2:=congrArg (· *B64^i) e;simp only[aS]at e2;rw[bI,aL (B64^i) B64,<-aa,aL (B64^i) d];omega
  rw[ep];unfold nsF;rw[jp,fk hi,fG];show(fT Y s λx36 s=>gD (.i .i64 (.ofNat i)) x36 λx37=>fE x37 _ _)=_;rw[pQ hY,jp];by_cases hyi:i<ys.length
  ·have zaJ:ys[i]?=some (ys.getD i 0):=by rw[aB,aE hyi];rfl
   rw[fk hyi,fG];refine(wN hY zaJ).trans ?_;exact key _ rfl
  ·rw[fw eP,ez];exact key 0 (by rw[aB,ai eP];rfl)
def Mz{x y φ:Nat}(hx:Nat.log2 x<=1000000000)(hy:Nat.log2 y<=1000000000)(h1:Nat.log2 x/64+1<φ)(hle:y<=x):rY φ [.n x,.n y]=some (.n (x-y)):=by
 obtain⟨X,s1,xs,k1,hX,sx,vx,lx,m1,f1⟩:=ri (s:=s0) (m:=x) rfl hx;obtain⟨Y,s2,ys,k2,hY,sy,vy,ly,m2,f2⟩:=ri (s:=s1) (m:=y) (m1.len rfl) hy;unfold rY;refine(k1 _).trans ?_;refine(k2 _).trans ?_;have hX2:=hX.more m2;refine(pQ hX2).trans ?_;have ha:WQ X Y:=by
  intro l off len cm z ex e l' zhT zig cm' z' ex' e';have g2:=f2 _ _ _ _ _ _ e';subst e;cases hX with
  |sl hg=>have:=NX hg;omega
 refine(Of (φ:=φ) sx sy eP eP ha xs.length 0 φ 0 [] s2 eP eP (by exact hX2) hY rfl (λw hw=>(by cases hw)) (aJ _) (by simp[val])).trans ?_;rw[vx,vy]
def kA(as:fN):Option D:=
 u1 as λa r=>u1 r λb r=>u0 r (po a λx=>po b λy=>cnd (Nat.ble (Nat.log2 x) 1000000000) (cnd (Nat.ble y x) (frc (Nat.sub x y) λz=>some (.n z)) none) none)
def Dk{as:fN}{r:D}(h:kA as=some r):∃φ,rY φ as=some r:=by
 obtain⟨a,r1,rfl,g1⟩:=ku h;obtain⟨b,r2,rfl,g2⟩:=ku g1;obtain⟨rfl,g3⟩:=qt g2;obtain⟨x,rfl,g4⟩:=jT g3;obtain⟨y,rfl,g5⟩:=jT g4;obtain⟨h1,g6⟩:=gR g5;obtain⟨h2,h⟩:=gR g6;rw[fj]at h;have h1:=aV h1;have h2:=aV h2;have hy:Nat.log2 y<=1000000000:=by
  by_cases hy0:y=0
  ·subst hy0;exact aJ _
  ·have:=(znp (n:=x) (k:=Nat.log2 y) eP).2 (aX (zng hy0) h2);omega
 exact⟨Nat.log2 x/64+3,by rw[Mz h1 hy eP h2];exact h⟩
end
end Go.Proofs.Ev
namespace Go.Proofs.Ev
noncomputable section
variable {s:LS} {K:fK}
def E8{ws:eZ}{ex:Bool}:fT (.tree (c64 ws) ws.length ex) s K=K (.i .i64 (.ofNat ws.length)) s:=rfl
def LH{ws:eZ}{ex:Bool}{i w:Nat}{k2:IntKind}(hi:ws[i]?=some w):(eT 1 s (.tree (c64 ws) ws.length ex) (.i k2 (.ofNat i)) λa s=>eR s a K)=K (n64 w) s:=by
 have hlt:i<ws.length:=(ak.1 hi).1;show cnd (Nat.blt i ws.length) (jJ (Nat.mul i 1) (c64 ws) λr=>List.rec (motive:=λ_=>Rs) none (λ_ _ _=>eR s (.fp r) K) r) none=_;rw[fk hlt,fH,gZ,show Nat.mul i 1=i from a9 i,cI (by rw[jO];exact hlt)];show K ((c64 ws)[i]'(by rw[jO];exact hlt)) s=_;have:=pA hi;rw[aE (by rw[jO];exact hlt)]at this;rw[cJ this];rfl
def z4i(a b:Nat):Nat.div a b=a/b:=rfl
def z4g(a b:Nat):Nat.mod a b=a%b:=rfl
def z4f(a b:Nat):Nat.mul a b=a*b:=rfl
def z0V{M:fP}{x y:Nat}:eY M [n64 x,n64 y] s K=ob (M [n64 x,n64 y]) λr=>nD s [] r K:=rfl
def ZE{h l:Nat}:nD s [] (.tup [n64 h,n64 l]) K=K (.tup [n64 h,n64 l]) s:=rfl
def DN{x y:Nat}(hx:x<B64)(hy:y<B64):∃h l,ta [n64 x,n64 y]=some (.tup [n64 h,n64 l])/\h*B64+l=x*y/\l<B64:=by
 refine⟨x*y/B64,x*y%B64,?_,?_,bN _ eV⟩
 ·unfold ta n64;rw[fJ,fJ,fV,F6,F6,fk hx,fk hy,fH,fH,fj,fj,fj];rw[z4i,z4g,z4f]
 ·rw[aL];exact cK _ _
def Ql{x y:Nat}(hx:x<B64)(hy:y<B64):∃h l,(∀(s:LS)(K:fK),eY ta [n64 x,n64 y] s K=K (.tup [n64 h,n64 l]) s)/\h*B64+l=x*y/\l<B64:=by
 obtain⟨h,l,e,h1,h2⟩:=DN hx hy;exact⟨h,l,λs K=>by rw[z0V,e];exact ZE,h1,h2⟩
def XI(M a b o c h l lo2 c1 lo3 c2:Nat)(h1:h*M+l=a*b)(h2:c1*M+lo2=l+o)(h3:c2*M+lo3=lo2+c):
 (h+c1+c2)*M+lo3=a*b+o+c:=by
 rw[aS,aS];omega
def Ey:∀{ws:eZ}{j w:Nat}(v:Nat),ws[j]?=some w->val (ws.set j v)+w*B64^j=val ws+v*B64^j
 |[],j,w,v,h=>by simp at h
 |x::ws,0,w,v,h=>by
  simp only[ax,aA]at h;subst h;show v+B64*val ws+x*B64^0=x+B64*val ws+v*B64^0;rw[dI];omega
 |x::ws,j+1,w,v,h=>by
  simp only[bP]at h;have ih:=Ey v h;show x+B64*val (ws.set j v)+w*B64^(j+1)=x+B64*val ws+v*B64^(j+1);have e:=congrArg (B64* ·) ih;simp only[bK]at e;rw[bI,aL (B64^j) B64,eI w,eI v];omega
def trF(k:fK)(q3:tS)(x4 x5:D)(s:LS):Rs:=(
 kH x5 fB λx6=>
 eU x6 true (λk=>k x4 s) s λx7 s=>
 eU x6 true (λk=>k x5 s) s λx8 s=>
 eU x6 true (λk=>fe x8 ej λd=>k d s) s λx9 s=>
 eU x6 true (λk=>eT 1 s x7 x9 k) s λx10 s=>
 eU x6 true (λk=>eR s x10 k) s λx11 s=>
 eU x6 true (λk=>iR x11 (.i .u64 (.ofNat 0)) λd=>k d s) s λx12 s=>
 iB x6 x12 (.b false) s λx13 s=>
 fE x13
(fe x5 ej λx14=>
 q3 x4 x14 s)
(iT 1 s x4 none (some x5) none λx15 s=>
 k x15 s))
def Ez{ws:eZ}{len:Nat}{k:fK}(h0:0<len)(hlen:len<=9223372036854775807)(hw:ws.length=len):∀(h f:Nat),h<=len->h<f->
 ∃m,m<=h/\val (ws.take m)=val (ws.take h)/\lp li (trF k) f (.sl 0 0 len len 1 true) (.i .i64 (.ofNat h)) (st1 (c64 ws))=k (.sl 0 0 m len 1 true) (st1 (c64 ws))
 |0,f+1,hh,hf=>by
  refine⟨0,aC _,rfl,?_⟩;rw[ep];unfold trF;simp only[qF,fw (bE 0),xX,ga,ez,BP h0 (aJ len)]
 |h+1,f+1,hh,hf=>by
  have hi:h<ws.length:=eP;have hwi:ws[h]?=some ws[h]:=aE hi;have hm:h+1<=i9 .i64:=aX hh hlen;rw[ep];unfold trF;by_cases hz:ws[h]=0
  ·obtain⟨m,h1,h2,h3⟩:=Ez (k:=k) h0 hlen hw h f eP eP;refine⟨m,eP,?_,?_⟩
   ·rw[h2,uz,aB,hwi];show _=_+ws[h]*_;rw[hz,bX];rfl
   ·simp only[qF,fk (cD h),vK,mQ (show 1<=h+1 by omega) hm,au,nC (show h<len by omega),aN,si (pA hwi),qG,hz,gE,gT,fG];exact h3
  ·refine⟨h+1,aC _,rfl,?_⟩;simp only[qF,fk (cD h),vK,mQ (show 1<=h+1 by omega) hm,au,nC (show h<len by omega),aN,si (pA hwi),qG,ik hz,gT,ez,BP h0 hh]
end
end Go.Proofs.Ev
namespace Go.Proofs.Ev
noncomputable section
def muF(φ:Nat)(q8:jo)(q18:xE)(x19 x20 x21 x22 x23 x24 x25 x26 x27 x28 x29:D)(s:LS):Rs:=(
 gD x29 x28 λx30=>
 fE x30
(eT 1 s x27 x29 λx31 s=>
 eR s x31 λx32 s=>
 eY ta [x22,x32] s λx33 s=>
 gB x33 0 s λx34 s=>
 gB x33 1 s λx35 s=>
 f7 x21 x29 λx36=>
 eT 1 s x20 x36 λx37 s=>
 eR s x37 λx38 s=>
 oi x35 x38 (.i .u64 (.ofNat 0)) s λx39 s=>
 gB x39 0 s λx40 s=>
 gB x39 1 s λx41 s=>
 f7 x34 x41 λx42=>
 oi x40 x23 (.i .u64 (.ofNat 0)) s λx43 s=>
 gB x43 0 s λx44 s=>
 gB x43 1 s λx45 s=>
 f7 x21 x29 λx46=>
 f7 x42 x45 λx47=>
 eT 1 s x20 x46 λx48 s=>
 fA 1 s x48 x44 λ_ s=>
 f7 x29 ej λx49=>
 q18 x19 x20 x21 x22 x47 x24 x25 x26 x27 x28 x49 s)
(fT x19 s λx50 s=>
 f7 x21 x50 λx51=>
 eT 1 s x20 x51 λx52 s=>
 fA 1 s x52 x23 λ_ s=>
 f7 x26 ej λx53=>
 q8 x19 x20 x24 x25 x53 s))
def xg{a b c:Nat}(ha:a<B64)(hb:b<B64)(hc:c<=1):∃d c',(∀(s:LS)(K:fK),oi (n64 a) (n64 b) (n64 c) s K=K (.tup [n64 d,n64 c']) s)/\d<B64/\c'<=1/\c'*B64+d=a+b+c:=by
 refine⟨_,_,λs K=>LK hc,bN _ eV,?_,?_⟩
 ·have:a+b+c<B64*2:=eP;have:=dk this;omega
 ·rw[aL];exact cK _ _
def z0B(P B vz vz1 z lo c c' a y:Nat)(h1:vz1+z*P=vz+lo*P)(h2:c'*B+lo=a*y+z+c):vz1+c'*(P*B)=vz+a*y*P+c*P:=by
 have e:=congrArg (· *P) h2;simp only[aS]at e;rw[show c'*(P*B)=c'*B*P by rw[aL P B,aa]];omega
def Vb(M a b o c H lo:Nat)(ha:a<M)(hb:b<M)(ho:o<M)(hc:c<M)(h:H*M+lo=a*b+o+c):H<M:=by
 have h1:a*b<=(M-1)*(M-1):=ay eP eP;obtain⟨m,rfl⟩:∃m,M=m+1:=⟨M-1,eP⟩
 rw[au]at h1;have h2:H*(m+1)<(m+1)*(m+1):=by
  rw[aS m 1 (m+1),bK m m 1];omega
 exact zn6 h2
def Ou{ys:eZ}{a i N φ:Nat}{ex:Bool}{q8:jo}{X24 X25:D}(ha:a<B64)(hy:lk ys)(hN:N<=1000000000)(hiN:i+ys.length<N):
 ∀(j' j f c:Nat)(zs:eZ),j'+j=ys.length->j'<f->zs.length=N->lk zs->c<B64->
 ∃zs':eZ,zs'.length=N/\lk zs'/\val zs'+zs.getD (i+ys.length) 0*B64^(i+ys.length)+a*val (ys.take j)*B64^i=val zs+c*B64^(i+j)+a*val ys*B64^i/\
  lp qI (muF φ q8) f (.tree (c64 ys) ys.length ex) (.sl 0 0 N N 1 true) (.i .i64 (.ofNat i)) (n64 a) (n64 c) X24 X25 (.i .i64 (.ofNat i)) (.tree (c64 ys) ys.length ex) (.i .i64 (.ofNat ys.length)) (.i .i64 (.ofNat j)) (st1 (c64 zs))
   =q8 (.tree (c64 ys) ys.length ex) (.sl 0 0 N N 1 true) X24 X25 (.i .i64 (.ofNat (i+1))) (st1 (c64 zs'))
 |0,j,f+1,c,zs,hj,hf,hl,hs,hc=>by
  have hj:j=ys.length:=eP;subst hj;have hzi:zs[i+ys.length]?=some (zs.getD (i+ys.length) 0):=by rw[aB,aE eP];rfl
  refine⟨zs.set (i+ys.length) c,by simp[hl],Cy hs hc,?_,?_⟩
  ·rw[Ey c hzi,bV]
  ·rw[ep];unfold muF;rw[jp,fw (bE _),ez];refine(E8).trans ?_;refine(kW (show i+ys.length<=i9 .i64 from(by show i+ys.length<=9223372036854775807;omega))).trans ?_;refine(nC hiN).trans ?_;rw[aN];refine(u9 (by rw[jO];omega)).trans ?_;refine(kW (show i+1<=i9 .i64 from(by show i+1<=9223372036854775807;omega))).trans ?_;rw[y5]
 |j'+1,j,f+1,c,zs,hj,hf,hl,hs,hc=>by
  have hjl:j<ys.length:=eP;have hyj:ys[j]?=some (ys.getD j 0):=by rw[aB,aE hjl];rfl
  have hzj:zs[i+j]?=some (zs.getD (i+j) 0):=by rw[aB,aE eP];rfl
  have hb:=hy _ (bS hyj);have ho:=hs _ (bS hzj);obtain⟨h,l,k1,e1,hl1⟩:=Ql ha hb;obtain⟨lo2,c1,k2,zeV,hc1,e2⟩:=xg hl1 ho (aJ 1);obtain⟨lo3,c2,k3,zeU,hc2,e3⟩:=xg zeV hc (aJ 1);have hd:=XI B64 a (ys.getD j 0) (zs.getD (i+j) 0) c h l lo2 c1 lo3 c2 e1 (e2.trans (bO _)) (e3.trans (bO _));have hC:=Vb B64 _ _ _ _ _ _ ha hb ho hc hd;obtain⟨zs',h1,h2,h3,h4⟩:=Ou (φ:=φ) (ex:=ex) (q8:=q8) (X24:=X24) (X25:=X25) ha hy hN hiN j' (j+1) f (h+c1+c2) (zs.set (i+j) lo3) eP eP (by simp[hl]) (Cy hs zeU) hC;refine⟨zs',h1,h2,?_,?_⟩
  ·have e4:=Ey lo3 hzj;have e5:=z0B (B64^(i+j)) B64 _ _ _ _ _ _ _ _ e4 hd;rw[uz,bK,aS,show i+(j+1)=(i+j)+1 from rfl,bI]at h3;have e6:a*(ys.getD j 0*B64^j)*B64^i=a*ys.getD j 0*B64^(i+j):=by
    rw[bi,aL (B64^i),<-aa,<-aa]
   have e7:(zs.set (i+j) lo3).getD (i+ys.length) 0=zs.getD (i+ys.length) 0:=by
    rw[aB,aB,bW eP]
   rw[e6,e7]at h3;generalize B64^(i+ys.length)=P1 at*;generalize (h+c1+c2)*(B64^(i+j)*B64)=P2 at*;generalize a*ys.getD j 0*B64^(i+j)=P3 at*;generalize a*val (List.take j ys)*B64^i=P4 at*;generalize c*B64^(i+j)=P5 at*;generalize a*val ys*B64^i=P6 at*;generalize zs.getD (i+ys.length) 0*P1=P7 at*;clear hd hC e1 e2 e3 e4 k1 k2 k3 h4;omega
  ·rw[<-h4,ep];conv=>lhs;unfold muF
   rw[jp,fk hjl,fG];refine(LH hyj).trans ?_;refine(k1 _ _).trans ?_;refine(kW (show i+j<=i9 .i64 from(by show i+j<=9223372036854775807;omega))).trans ?_;refine(nC (show i+j<N by omega)).trans ?_;rw[aN];refine(si (pA hzj)).trans ?_;refine(k2 _ _).trans ?_;refine(kW (show h+c1<=i9 .u64 from bL (cR (cL _ c2) hC))).trans ?_;refine(k3 _ _).trans ?_;refine(kW (show i+j<=i9 .i64 from(by show i+j<=9223372036854775807;omega))).trans ?_;refine(kW (show h+c1+c2<=i9 .u64 from bL hC)).trans ?_;refine(nC (show i+j<N by omega)).trans ?_;rw[aN];refine(u9 (by rw[jO];omega)).trans ?_;refine(kW (show j+1<=i9 .i64 from(by show j+1<=9223372036854775807;omega))).trans ?_;rw[y5];rfl
def moF(φ:Nat)(q8:jo)(x9 x10 x11 x12 x13:D)(s:LS):Rs:=(
 gD x13 x12 λx14=>
 fE x14
(eT 1 s x11 x13 λx15 s=>
 eR s x15 λx16 s=>
 fT x9 s λx17 s=>
 lp qI (muF φ q8) φ x9 x10 x13 x16 (.i .u64 (.ofNat 0)) x11 x12 x13 x9 x17 fB s)
((fv φ) [x10] s λx54 s=>
 fO false s x54 some))
def Ow{xs ys:eZ}{N φ:Nat}{ex ex':Bool}(hx:lk xs)(hy:lk ys)(hN:N<=1000000000)(hNe:N=xs.length+ys.length)(hφ:ys.length<φ):
 ∀(k i f:Nat)(zs:eZ),k+i=xs.length->k<f->zs.length=N->lk zs->val zs=val (xs.take i)*val ys->
 ∃zs':eZ,zs'.length=N/\lk zs'/\val zs'=val xs*val ys/\
  lp gQ (moF φ) f (.tree (c64 ys) ys.length ex) (.sl 0 0 N N 1 true) (.tree (c64 xs) xs.length ex') (.i .i64 (.ofNat xs.length)) (.i .i64 (.ofNat i)) (st1 (c64 zs))
   =fv φ [.sl 0 0 N N 1 true] (st1 (c64 zs')) λx54 s=>fO false s x54 some
 |0,i,f+1,zs,hi,hf,hl,hs,hv=>by
  have hi:i=xs.length:=eP;subst hi;refine⟨zs,hl,hs,by rw[hv,bV],?_⟩;rw[ep];unfold moF;rw[jp,fw (bE _),ez]
 |k+1,i,f+1,zs,hi,hf,hl,hs,hv=>by
  have hix:i<xs.length:=eP;have hxi:xs[i]?=some (xs.getD i 0):=by rw[aB,aE hix];rfl
  obtain⟨zs1,h1,h2,h3,h4⟩:=Ou (φ:=φ) (ex:=ex) (q8:=lp gQ (moF φ) f) (X24:=.tree (c64 xs) xs.length ex') (X25:=.i .i64 (.ofNat xs.length)) (i:=i) (hx _ (bS hxi)) hy hN eP ys.length 0 φ 0 zs eP hφ hl hs eV;have z8P:zs.getD (i+ys.length) 0=0:=by
   have hz:zs[i+ys.length]?=some (zs.getD (i+ys.length) 0):=by rw[aB,aE eP];rfl
   have hlt:val zs<B64^(i+ys.length):=by
    rw[hv,bi];have g1:=Av (ws:=xs.take i) λw hw=>hx w (bH hw);rw[aR,cF eP]at g1;exact zn7 g1 (bq (Av hy)) (bj eV)
   rw[AG hs hz,cq hlt,znf]
  rw[z8P]at h3;obtain⟨zs2,g1,g2,g3,g4⟩:=Ow hx hy hN hNe hφ k (i+1) f zs1 eP eP h1 h2 (by
   rw[uz,aS];rw[bX,bX,dr,show val []=0 from rfl,dU,bX]at h3;rw[show xs.getD i 0*B64^i*val ys=xs.getD i 0*val ys*B64^i by rw[aa,aL (B64^i),<-aa],<-hv];omega)
  refine⟨zs2,g1,g2,g3,?_⟩;rw[<-g4,<-h4,ep];conv=>lhs;unfold moF
  rw[jp,fk hix,fG];refine(LH hxi).trans ?_;rfl
end
end Go.Proofs.Ev
namespace Go.Proofs.Ev
def CQ(l:List UInt8):fa l 0<256^l.length:=by
 induction l with
 |nil=>exact dy
 |cons a x ih=>
  show fa x (0*256+a.toNat)<256^(x.length+1);rw[mO,bX,aN,bI];have ha:a.toNat+1<=256:=a.toNat_lt;have h2:(a.toNat+1)*256^x.length<=256*256^x.length:=aK _ ha;rw[aS,ao]at h2;rw[aL (256^x.length) 256];omega
def blt_eq{a b c d:Nat}(h:a<b↔c<d):Nat.blt a b=Nat.blt c d:=by
 by_cases h1:a<b
 ·rw[fk h1,fk (h.1 h1)]
 ·rw[fw h1,fw λh2=>h1 (h.2 h2)]
def Kx:∀{x y:List UInt8},x.length=y.length->Op.bytesLess x y=Nat.blt (fa x 0) (fa y 0)
 |[],[],_=>rfl
 |a::x,b::y,h=>by
  have hl:x.length=y.length:=Nat.succ.inj h;have ih:=Kx hl;show(decide (a<b)||(a==b&&Op.bytesLess x y))=Nat.blt (fa x (0*256+a.toNat)) (fa y (0*256+b.toNat));rw[mO x,mO y,ih,bX,aN,aN,<-hl];have hx:=CQ x;have hy:=CQ y;rw[<-hl]at hy;generalize 256^x.length=P at*;generalize fa x 0=vx at*;generalize fa y 0=vy at*;rcases cy a.toNat b.toNat with h1|h1|h1
  ·have h2:a<b:=UInt8.lt_iff_toNat_lt.2 h1;rw[ac h2,Bool.true_or];have h3:(a.toNat+1)*P<=b.toNat*P:=aK _ h1;rw[aS,ao]at h3;rw[fk eP]
  ·have h2:a=b:=UInt8.toNat_inj.1 h1;subst h2;have h3:¬a<a:=UInt8.lt_irrefl a;rw[aU h3,Bool.false_or,beq_self_eq_true,Bool.true_and];exact blt_eq eP
  ·have h2:¬a<b:=λh=>by have:=UInt8.lt_iff_toNat_lt.1 h;omega
   have h4:(a==b)=false:=by
    apply beq_eq_false_iff_ne.2;intro e;subst e;omega
   rw[aU h2,Bool.false_or,h4,Bool.false_and];have h3:(b.toNat+1)*P<=a.toNat*P:=aK _ h1;rw[aS,ao]at h3;rw[fw eP]
def Tv{a b:Nat}(h:(fy a).length<(fy b).length):a<b:=by
 have h1:=CQ (fy a);rw[pN]at h1;have hb:0<b:=by
  rcases bT b with h0|h0
  ·subst h0;rw[Al]at h;exact absurd h (cO _)
  ·exact h0
 obtain⟨h2,h3⟩:=vJ hb;have h4:256^(fy a).length<=256^((fy b).length-1):=cM eV eP;omega
def T8{a b:Nat}(h:(fy a).length=(fy b).length):Op.bytesLess (fy a) (fy b)=Nat.blt a b:=by
 rw[Kx h,pN,pN]
end Go.Proofs.Ev
namespace Go.Proofs.Ev
noncomputable section
variable {s:LS} {K:fK}
inductive HT (s:LS):D->eZ->Prop
 |tr {ws:eZ} {ex:Bool}:HT s (.tree (c64 ws) ws.length ex) ws
 |sl {l cm:Nat} {ex:Bool} {ws:eZ} {b:Blk} (hg:s.get l=some b) (hc:b.cs=c64 ws) (hl:b.st.live=true):HT s (.sl l 0 ws.length cm 1 ex) ws
def Hold.ht{x:D}{ws:eZ}(h:Hold s x ws):HT s x ws:=by
 cases h with
 |nil=>exact HT.tr (ws:=[])
 |sl hg=>exact .sl hg rfl rfl
def Xa{x:D}{ws:eZ}(h:HT s x ws):fT x s K=K (.i .i64 (.ofNat ws.length)) s:=by
 cases h<;>rfl
def Ma{x:D}{ws:eZ}{n:Nat}(h:HT s x ws):∃ex ls,(∀kk,jX s (n+2) x kk=kk (.tree (c64 ws) ws.length ex) ls)/\∀l,l∈ls->∃b,s.get l=some b:=by
 cases h with
 | @tr ws ex=>exact⟨ex,[],λkk=>rfl,λl h=>by cases h⟩
 | @sl l cm ex ws b hg hc hl=>
  refine⟨cnd ex (Nat.beq cm ws.length) false,[l],λkk=>?_,λl' h=>⟨b,by rw[cY.1 h];exact hg⟩⟩;show(iq s l λb=>cnd (lv b.st) (jJ 0 b.cs λr=>jP (Nat.mul ws.length 1) r λr=>ma (jX s (n+1)) r λcs ls=>nM (cnd ex (Nat.beq cm ws.length) false) λex=>kk (.tree cs ws.length ex) (l::ls)) none)=_;rw[oB,hg];show cnd (lv b.st) (jJ 0 b.cs λr=>jP (Nat.mul ws.length 1) r λr=>ma (jX s (n+1)) r λcs ls=>nM (cnd ex (Nat.beq cm ws.length) false) λex=>kk (.tree cs ws.length ex) (l::ls)) none=_;have hlen:(c64 ws).length=ws.length:=by simp[c64]
  rw[nQ,hl,fH,hc,gZ,i7,show Nat.mul ws.length 1=ws.length from a9 _,a7,aF eP,aP eP,Fq,iz]
def wm:∀(ls:eZ)(s:LS),(∀l,l∈ls->∃b,s.get l=some b)->∃s',(∀k,Aa ls s k=k s')/\(∀x ws,HT s x ws->HT s' x ws)/\(s.fit->s'.fit)
 |[],s,h=>⟨s,λk=>rfl,λ_ _ h=>h,id⟩
 |l::ls,s,h=>by
  obtain⟨b,hb⟩:=h l (b9 ..);obtain⟨s',h1,h2,h3⟩:=wm ls (s.put l ⟨b.cs,fzS b.st⟩) λl' hl=>by
   obtain⟨b',hb'⟩:=h l' (bC _ hl);rw[tN hb];by_cases e:l'=l
   ·rw[aF e];exact⟨_,rfl⟩
   ·rw[aG e];exact⟨_,hb'⟩
  refine⟨s',λk=>?_,λx ws hx=>h2 x ws ?_,λhs=>h3 rfl⟩
  ·show(iq s l λb=>oh s l ⟨b.cs,fzS b.st⟩ λs=>Aa ls s k)=_;rw[oB,hb];show(oh s l ⟨b.cs,fzS b.st⟩ λs=>Aa ls s k)=_;rw[GE hb,h1]
  ·cases hx with
   |tr=>exact .tr
   | @sl l2 cm ex ws b2 hg hc hl=>
    by_cases e:l2=l
    ·subst e;rw[hb]at hg;cases hg;exact .sl (b:=⟨b.cs,fzS b.st⟩) (by rw[tN hb,aF rfl]) hc (by show(fzS b.st).live=true;rw[Uc,Ee];assumption)
    ·exact .sl (by rw[tN hb,aG e];exact hg) hc hl
def yU{M:fP}{x y:D}{xs ys:eZ}(hx:HT s x xs)(hy:HT s y ys):∃ex ey ls,(∀K,eY M [x,y] s K=ob (M [.tree (c64 xs) xs.length ex,.tree (c64 ys) ys.length ey]) λr=>nD s ls r K)/\∀l,l∈ls->∃b,s.get l=some b:=by
 obtain⟨ex,l1,h1,g1⟩:=Ma (n:=58) hx;obtain⟨ey,l2,h2,g2⟩:=Ma (n:=58) hy;refine⟨ex,ey,l1++(l2++[]),λK=>?_,λl hl=>?_⟩
 ·show jX s 60 x (λy1 a=>jX s 60 y λy2 b=>pk b [] λab=>pk a ab λab=>ob (M [y1,y2]) λr=>nD s ab r K)=_;rw[h1,h2,jt,jt]
 ·rw[bQ]at hl;rcases bM.1 hl with h|h
  ·exact g1 l h
  ·exact g2 l h
def GR{ls:eZ}{cs:fN}{n:Nat}{e:Bool}:nD s ls (.tree cs n e) K=Aa ls s λs=>K (.tree cs n e) s:=rfl
def Eg{ls:eZ}{cs ds:fN}{n m:Nat}{e f:Bool}:nD s ls (.tup [.tree cs n e,.tree ds m f]) K=Aa ls s λs=>K (.tup [.tree cs n e,.tree ds m f]) s:=rfl
def pp{x:D}{ws:eZ}(hx:HT s x ws)(h:lk ws)(hl:ws.length<=1000000000):eY sL [x] s K=K (.n (val ws)) s:=by
 obtain⟨ex,ls,hr,_⟩:=Ma (n:=58) hx;show jX s 60 x (λy a=>pk a [] λab=>ob (sL [y]) λr=>nD s ab r K)=_;rw[hr,jt,BD h hl];rfl
def Wk{ws:eZ}{m len:Nat}(hm:m<=ws.length):∃e,fO false (st1 (c64 ws)) (.sl 0 0 m len 1 true) some=some (.tree (c64 (ws.take m)) m e):=by
 refine⟨true&&len==m,?_⟩;unfold fO;rw[lJ];show sk (lf false (st1 (c64 ws)).get gJ (.sl 0 0 m len 1 true)) some=_;have:lf false (st1 (c64 ws)).get gJ (.sl 0 0 m len 1 true)=some (.tree (c64 (ws.take m)) m (true&&len==m)):=by
  have z6f:cut 0 (m*1) (c64 ws)=some (c64 (ws.take m)):=by
   unfold cut;rw[a7,a9,aF (by rw[aR,jO];omega)];unfold c64;rw[dN]
  have hm:i8 (res (st1 (c64 ws)).get 59) (c64 (ws.take m))=some (c64 (ws.take m),[]):=mG (k:=58) _ (zk _);have hr:res (st1 (c64 ws)).get 60 (.sl 0 0 m len 1 true)=some (.tree (c64 (ws.take m)) m (true&&len==m),[0]):=by
   show(match (st1 (c64 ws)).get 0 with
    |some b=>if !b.st.live then none else match cut 0 (m*1) b.cs with
     |some r=>match i8 (res (st1 (c64 ws)).get 59) r with
      |some (cs,ls)=>some (D.tree cs m (true&&len==m),0::ls)
      |none=>none
     |none=>none
    |none=>none)=_
   rw[vn];show(if !Stt.rw.live then none else match cut 0 (m*1) (c64 ws)with
    |some r=>match i8 (res (st1 (c64 ws)).get 59) r with
     |some (cs,ls)=>some (D.tree cs m (true&&len==m),0::ls)
     |none=>none
    |none=>none)=_
   rw[aG eV,z6f];show(match i8 (res (st1 (c64 ws)).get 59) (c64 (ws.take m))with
    |some (cs,ls)=>some (D.tree cs m (true&&len==m),0::ls)
    |none=>none)=_
   rw[hm]
  show(match yF (res (st1 (c64 ws)).get 60 (.sl 0 0 m len 1 true))with
   |some (d,o,ls)=>if o.all λl=> !ls.contains l then some d else none
   |none=>none)=_
  rw[hr];rfl
 rw[this,gc];rfl
def yL{xs ys:eZ}{ex ey:Bool}{φ:Nat}(hx:lk xs)(hy:lk ys)(hn:xs.length+ys.length<=1000000000)(hφ:xs.length+ys.length<φ):
 ∃zs e,lk zs/\val zs=val xs*val ys/\zs.length<=xs.length+ys.length/\ia φ [.tree (c64 xs) xs.length ex,.tree (c64 ys) ys.length ey]=some (.tree (c64 zs) zs.length e):=by
 obtain⟨zs,h1,h2,h3,h4⟩:=Ow (N:=xs.length+ys.length) (φ:=φ) (ex:=ey) (ex':=ex) hx hy hn rfl eP xs.length 0 φ (List.replicate (xs.length+ys.length) 0) eP eP fU (H8 _) (by rw[Ij,dr];show 0=0*val ys;rw[bX]);have e0:ia φ [.tree (c64 xs) xs.length ex,.tree (c64 ys) ys.length ey]=fv φ [.sl 0 0 (xs.length+ys.length) (xs.length+ys.length) 1 true] (st1 (c64 zs)) λx54 s=>fO false s x54 some:=by
  rw[<-h4];show(fT (.tree (c64 xs) xs.length ex) s0 λx3 s=>fT (.tree (c64 ys) ys.length ey) s λx4 s=>f7 x3 x4 λx5=>io 1 8 [(.i .u64 (.ofNat 0))] s x5 x5 λx6 s=>fT (.tree (c64 xs) xs.length ex) s λx7 s=>
   lp gQ (moF φ) φ (.tree (c64 ys) ys.length ey) x6 (.tree (c64 xs) xs.length ex) x7 fB s)=_
  refine(E8).trans ?_;refine(E8).trans ?_;refine(kW (show xs.length+ys.length<=i9 .i64 from(by show xs.length+ys.length<=9223372036854775807;omega))).trans ?_;refine(z7 eP eP).trans ?_;refine(E8).trans ?_;rw[AY]
 by_cases h0:xs.length+ys.length=0
 ·have hz:zs=[]:=aZ eP;subst hz;refine⟨[],true,λw hw=>(by cases hw),h3,by simp,?_⟩;rw[e0,h0];obtain⟨f,rfl⟩:∃f,φ=f+1:=⟨φ-1,eP⟩
  rw[Bm];rfl
 ·obtain⟨m,g1,g2,g3⟩:=Ez (k:=λx54 s=>fO false s x54 some) eP eP h1 (xs.length+ys.length) φ (aC _) hφ;obtain⟨e,g4⟩:=Wk (ws:=zs) (m:=m) (len:=xs.length+ys.length) eP;refine⟨zs.take m,e,λw hw=>h2 w (bH hw),?_,?_,?_⟩
  ·rw[g2,<-h1,bV,h3]
  ·rw[aR];omega
  ·rw[e0,Bm];refine(vq).trans ?_;refine Eq.trans g3 ?_;rw[g4,aR,cF eP]
def NA{x y φ:Nat}(hx:Nat.log2 x<=1000000000)(hy:Nat.log2 y<=1000000000)(hφ:Nat.log2 x/64+Nat.log2 y/64+2<φ):rZ φ [.n x,.n y]=some (.n (x*y)):=by
 obtain⟨X,s1,xs,k1,hX,sx,vx,lx,m1,_⟩:=ri (s:=s0) (m:=x) rfl hx;obtain⟨Y,s2,ys,k2,hY,sy,vy,ly,m2,_⟩:=ri (s:=s1) (m:=y) (m1.len rfl) hy;unfold rZ;refine(k1 _).trans ?_;refine(k2 _).trans ?_;obtain⟨ex,ey,ls,h1,h2⟩:=yU (M:=ia φ) (hX.more m2).ht hY.ht;obtain⟨s3,f1,f2,f3⟩:=wm ls s2 h2;obtain⟨zs,e,g1,g2,g3,g4⟩:=yL (ex:=ex) (ey:=ey) (φ:=φ) sx sy eP eP;refine(h1 _).trans ?_;rw[g4];show nD s2 ls (.tree (c64 zs) zs.length e) _=_;rw[GR,f1];refine(pp HT.tr g1 eP).trans ?_;rw[g2,vx,vy];rfl
def mj(as:fN):Option D:=
 u1 as λa r=>u1 r λb r=>u0 r (po a λx=>po b λy=>cnd (Nat.ble (Nat.log2 x) 1000000000) (cnd (Nat.ble (Nat.log2 y) 1000000000) (frc (Nat.mul x y) λz=>some (.n z)) none) none)
def Dl{as:fN}{r:D}(h:mj as=some r):∃φ,rZ φ as=some r:=by
 obtain⟨a,r1,rfl,g1⟩:=ku h;obtain⟨b,r2,rfl,g2⟩:=ku g1;obtain⟨rfl,g3⟩:=qt g2;obtain⟨x,rfl,g4⟩:=jT g3;obtain⟨y,rfl,g5⟩:=jT g4;obtain⟨h1,g6⟩:=gR g5;obtain⟨h2,h⟩:=gR g6;rw[fj]at h;exact⟨Nat.log2 x/64+Nat.log2 y/64+3,by rw[NA (aV h1) (aV h2) eP];exact h⟩
def z0N{a b:Nat}{k:D->Rs}:gD (.n a) (.n b) k=k (.b (Op.bytesLess (fy a) (fy b))):=by
 show gN .lss (.n a) (.n b) k=_;unfold gN;rw[gc];rfl
def UN{a b:Nat}{k:D->Rs}:iR (.n a) (.n b) k=k (.b (Nat.beq a b)):=by
 show gN .eql (.n a) (.n b) k=_;unfold gN;rw[gc];rfl
def NE{x y φ:Nat}:ra φ [.n x,.n y]=some (cnd (Nat.blt x y) lC (cnd (Nat.beq x y) fB ej)):=by
 unfold ra;dsimp only[fJ,fV];rw[C5,C5,jp];by_cases h1:(fy x).length<(fy y).length
 ·rw[fk h1,fk (Tv h1)];rfl
 ·rw[fw h1];simp only[show ∀(op:fK->Rs)(s:LS)(k:fK),eU (.b false) false op s k=op k from λ_ _ _=>rfl,C5,qG];by_cases h2:(fy x).length=(fy y).length
  ·rw[h2,gE];simp only[vK,z0N,T8 h2,gT,ga];by_cases h3:x<y
   ·rw[fk h3,fG];rfl
   ·rw[fw h3,ez,UN];cases Nat.beq x y<;>rfl
  ·rw[ik h2];simp only[xX,ga,ez,UN];have h3:y<x:=Tv eP;rw[fw eP,ik (show x≠y by omega)];rfl
def qB(as:fN):Option D:=
 u1 as λa r=>u1 r λb r=>u0 r (po a λx=>po b λy=>some (cnd (Nat.blt x y) lC (cnd (Nat.beq x y) fB ej)))
def Dn{as:fN}{r:D}(h:qB as=some r):∃φ,ra φ as=some r:=by
 obtain⟨a,r1,rfl,g1⟩:=ku h;obtain⟨b,r2,rfl,g2⟩:=ku g1;obtain⟨rfl,g3⟩:=qt g2;obtain⟨x,rfl,g4⟩:=jT g3;obtain⟨y,rfl,g5⟩:=jT g4;exact⟨0,by rw[NE];exact g5⟩
end
end Go.Proofs.Ev
set_option maxRecDepth 1000000
set_option maxHeartbeats 0
namespace Go.Proofs.Ev
noncomputable section
def iU(φ:Nat):fP:=
 λas=>
(λ(s:LS)=>
 u1 as λc g=>
 u1 g λd h=>
 u0 h (
 fT c s λi s=>
 fT d s λk s=>
 sG i k λl=>
 fE l
(fT c s λm s=>
 fT d s λn s=>
 gD m n λo=>
 fE o
(fO false s lC some)
(fO false s ej some))
(fT c s λp s=>
 fe p ej λu=>
 lp vN (λ(v:wW)(e f b:D)(s:LS)=>
 mb b fB λw=>
 fE w
(eT 1 s e b λy s=>
 eR s y λz s=>
 eT 1 s f b λA s=>
 eR s A λB s=>
 sG z B λC=>
 fE C
(eT 1 s e b λE s=>
 eR s E λF s=>
 eT 1 s f b λG s=>
 eR s G λH s=>
 gD F H λI=>
 fE I
(fO false s lC some)
(fO false s ej some))
(fe b ej λJ=>
 v e f J s))
(fO false s fB some)) φ c d u s))) s0
def kC(φ:Nat):fP:=
 λas=>
(λ(s:LS)=>
 u1 as λb m=>
 u0 m (
 jn (λ(d f:D)(s:LS)=>
 jn (λ(e g:D)(s:LS)=>
 jn (λ(n o:D)(s:LS)=>
 kV .u8 n s λp s=>
 kS (.index (.c (.s [0,1,2,2,3,3,3,3,4,4,4,4,4,4,4,4,5,5,5,5,5,5,5,5,5,5,5,5,5,5,5,5,6,6,6,6,6,6,6,6,6,6,6,6,6,6,6,6,6,6,6,6,6,6,6,6,6,6,6,6,6,6,6,6,7,7,7,7,7,7,7,7,7,7,7,7,7,7,7,7,7,7,7,7,7,7,7,7,7,7,7,7,7,7,7,7,7,7,7,7,7,7,7,7,7,7,7,7,7,7,7,7,7,7,7,7,7,7,7,7,7,7,7,7,7,7,7,7,8,8,8,8,8,8,8,8,8,8,8,8,8,8,8,8,8,8,8,8,8,8,8,8,8,8,8,8,8,8,8,8,8,8,8,8,8,8,8,8,8,8,8,8,8,8,8,8,8,8,8,8,8,8,8,8,8,8,8,8,8,8,8,8,8,8,8,8,8,8,8,8,8,8,8,8,8,8,8,8,8,8,8,8,8,8,8,8,8,8,8,8,8,8,8,8,8,8,8,8,8,8,8,8,8,8,8,8,8,8,8,8,8,8,8,8,8,8,8,8,8,8,8,8,8,8,8,8])) (.c p)) s λu s=>
 kV .i64 u s λv s=>
 f7 o v λw=>
 fO false s w some) λh=>
 mb e (.i .u64 (.ofNat 256)) λy=>
 fE y
(pP e (.i .u64 (.ofNat 8)) λz=>
 f7 g (.i .i64 (.ofNat 8)) λA=>
 h z A s)
(h e g s)) λk=>
 mb d (.i .u64 (.ofNat 65536)) λB=>
 fE B
(pP d (.i .u64 (.ofNat 16)) λC=>
 f7 f (.i .i64 (.ofNat 16)) λE=>
 k C E s)
(k d f s)) λl=>
 mb b (.i .u64 (.ofNat 4294967296)) λF=>
 fE F
(pP b (.i .u64 (.ofNat 32)) λG=>
 l G (.i .i64 (.ofNat 32)) s)
(l b fB s))) s0
def gU(φ:Nat):fP:=
 λas=>
(λ(s:LS)=>
 u1 as λb c=>
 u0 c (
 eY (kC φ) [b] s λd s=>
 fe (.i .i64 (.ofNat 64)) d λe=>
 fO false s e some)) s0
def iC(φ:Nat):fP:=
 λas=>
(λ(s:LS)=>
 u1 as λbm bn=>
 u1 bn λbo bp=>
 u1 bp λM bu=>
 u0 bu (
 jn (λ(N bv O:D)(s:LS)=>
 jn (λ(P g h:D)(s:LS)=>
 iR P (.i .u64 (.ofNat 0)) λbw=>
 fE bw
(xW g h λbz=>
 vX g h λbA=>
 fO false s (.tup [bz,bA]) some)
(eY (gU φ) [h] s λbB s=>
 kV .u64 bB s λf s=>
 BQ h f λw=>
 pP w (.i .u64 (.ofNat 32)) λy=>
 vY w (.i .u64 (.ofNat 4294967295)) λbC=>
 BQ P f λbE=>
 fe (.i .u64 (.ofNat 64)) f λbF=>
 pP g bF λbG=>
 kOr bE bG λz=>
 BQ g f λS=>
 pP S (.i .u64 (.ofNat 32)) λbH=>
 vY S (.i .u64 (.ofNat 4294967295)) λbI=>
 xW z y λU=>
 jZ U y λbJ=>
 fe z bJ λbK=>
 jn (λ(V bM A bN bO bP bS W:D)(s:LS)=>
 jZ bO (.i .u64 (.ofNat 4294967296)) λbU=>
 f7 bU bP λbV=>
 jZ W V λbW=>
 fe bV bW λB=>
 xW B A λX=>
 jZ X A λbX=>
 fe B bX λbY=>
 jn (λ(bZ cb cc cd ce Y:D)(s:LS)=>
 jZ cd (.i .u64 (.ofNat 4294967296)) λcf=>
 f7 cf Y λcg=>
 jZ ce (.i .u64 (.ofNat 4294967296)) λch=>
 f7 ch cc λci=>
 jZ Y bZ λck=>
 fe ci ck λcl=>
 pP cl cb λcm=>
 fO false s (.tup [cg,cm]) some) λZ=>
 lp tR (λ(cn:EK)(C E bb bc l F bd G m:D)(s:LS)=>
 mb m (.i .u64 (.ofNat 4294967296)) λc=>
 eU c false (λk=>k m s) s λco s=>
 eU c false (λk=>k bc s) s λcp s=>
 eU c false (λk=>jZ co cp λd=>k d s) s λcu s=>
 eU c false (λk=>k bd s) s λcv s=>
 eU c false (λk=>jZ (.i .u64 (.ofNat 4294967296)) cv λd=>k d s) s λcw s=>
 eU c false (λk=>k l s) s λcy s=>
 eU c false (λk=>f7 cw cy λd=>k d s) s λcz s=>
 eU c false (λk=>kH cu cz λd=>k d s) s λcA s=>
 iB c (.b true) cA s λcB s=>
 fE cB
(fe m (.i .u64 (.ofNat 1)) λbf=>
 f7 bd bb λbg=>
 mb bg (.i .u64 (.ofNat 4294967296)) λcC=>
 fE cC
(Z C E l F G bf s)
(cn C E bb bc l F bg G bf s))
(Z C E l F G m s)) φ V bM A bN bS W bY B X s) λbh=>
 lp tR (λ(cE:EK)(H I n o J p K v bi:D)(s:LS)=>
 mb v (.i .u64 (.ofNat 4294967296)) λe=>
 eU e false (λk=>k v s) s λcF s=>
 eU e false (λk=>k o s) s λcG s=>
 eU e false (λk=>jZ cF cG λd=>k d s) s λcH s=>
 eU e false (λk=>k bi s) s λcI s=>
 eU e false (λk=>jZ (.i .u64 (.ofNat 4294967296)) cI λd=>k d s) s λcJ s=>
 eU e false (λk=>k p s) s λcK s=>
 eU e false (λk=>f7 cJ cK λd=>k d s) s λcM s=>
 eU e false (λk=>kH cH cM λd=>k d s) s λcN s=>
 iB e (.b true) cN s λcO s=>
 fE cO
(fe v (.i .u64 (.ofNat 1)) λbk=>
 f7 bi n λbl=>
 mb bl (.i .u64 (.ofNat 4294967296)) λcP=>
 fE cP
(bh H I n o J p K bk s)
(cE H I n o J p K bk bl s))
(bh H I n o J p K v s)) φ w f y bC z bH bI U bK s)) λcS=>
 wQ O N λcU=>
 fE cU
(eR s .u λcX s=>
 none)
(cS N bv O s)) λcV=>
 iR M (.i .u64 (.ofNat 0)) λcW=>
 fE cW
(eR s .u λcY s=>
 none)
(cV bm bo M s))) s0
def jk(φ:Nat):fP:=
 λas=>
(λ(s:LS)=>
 u1 as λe m=>
 u1 m λn o=>
 u0 o (
 fT e s λp s=>
 f7 p ej λh=>
 io 1 8 [(.i .u64 (.ofNat 0))] s h h λu s=>
 fT e s λv s=>
 lp gQ (λ(w:jo)(d c f g b:D)(s:LS)=>
 gD b g λy=>
 fE y
(jn (λ(z A B C E:D)(s:LS)=>
 f7 E ej λF=>
 w z A B C F s) λk=>
 eT 1 s f b λG s=>
 eR s G λl s=>
 eT 1 s c b λH s=>
 eR s H λI s=>
 BQ l d λJ=>
 kOr I J λK=>
 eT 1 s c b λM s=>
 fA 1 s M K λ_ s=>
 kH d fB λN=>
 fE N
(f7 b ej λO=>
 fe (.i .i64 (.ofNat 64)) d λP=>
 pP l P λS=>
 eT 1 s c O λU s=>
 fA 1 s U S λ_ s=>
 k d c f g b s)
(k d c f g b s))
(fO true s c some)) φ n u e v fB s)) s0
def nP(φ:Nat):fN->LS->fK->Rs:=
 λas s kk=>
 u1 as λf bd=>
 u1 bd λg bf=>
 u0 bf (
 fT g s λc s=>
 jn (λ(bg bh bi bk bl bm:D)(s:LS)=>
 jn (λ(bn bo E bp:D)(s:LS)=>
 lp pu (λ(bu:yx)(h A n w F G H o:D)(s:LS)=>
 gD o H λbv=>
 fE bv
(eT 1 s A o λbw s=>
 eR s bw λbz s=>
 eY ta [w,bz] s λI s=>
 gB I 0 s λbA s=>
 gB I 1 s λbB s=>
 oi bB G (.i .u64 (.ofNat 0)) s λJ s=>
 gB J 0 s λbC s=>
 gB J 1 s λbE s=>
 f7 bA bE λbF=>
 eT 1 s h o λbG s=>
 eR s bG λbH s=>
 u7 bH bC F s λK s=>
 gB K 0 s λbI s=>
 gB K 1 s λbJ s=>
 eT 1 s h o λbK s=>
 fA 1 s bK bI λ_ s=>
 f7 o ej λbM=>
 bu h A n w bJ bF H bM s)
(eT 1 s h n λbN s=>
 eR s bN λbO s=>
 u7 bO G F s λM s=>
 gB M 0 s λbP s=>
 gB M 1 s λbS s=>
 eT 1 s h n λbU s=>
 fA 1 s bU bP λ_ s=>
 iR bS (.i .u64 (.ofNat 0)) λbV=>
 fE bV
(kk w s)
(lp lK (λ(bW:ov)(p N B O P S u:D)(s:LS)=>
 gD u S λbX=>
 fE bX
(eT 1 s p u λbY s=>
 eR s bY λbZ s=>
 eT 1 s N u λcb s=>
 eR s cb λcc s=>
 oi bZ cc P s λU s=>
 gB U 0 s λcd s=>
 gB U 1 s λce s=>
 eT 1 s p u λcf s=>
 fA 1 s cf cd λ_ s=>
 f7 u ej λcg=>
 bW p N B O ce S cg s)
(eT 1 s p B λch s=>
 eR s ch λci s=>
 f7 ci P λck=>
 eT 1 s p B λcl s=>
 fA 1 s cl ck λ_ s=>
 fe O (.i .u64 (.ofNat 1)) λcm=>
 kk cm s)) φ h A n w (.i .u64 (.ofNat 0)) n fB s))) φ bn bo E bp (.i .u64 (.ofNat 0)) (.i .u64 (.ofNat 0)) E fB s) λV=>
 lp iH (λ(cn:kT)(y v l z C co:D)(s:LS)=>
 iR co (.i .u64 (.ofNat 0)) λcp=>
 fE cp
(fe l pU λcu=>
 eT 1 s v cu λcv s=>
 eR s cv λcw s=>
 eY ta [z,cw] s λW s=>
 gB W 0 s λX s=>
 gB W 1 s λcy s=>
 gD X C λm=>
 eU m false (λk=>k X s) s λcz s=>
 eU m false (λk=>k C s) s λcA s=>
 eU m false (λk=>iR cz cA λd=>k d s) s λcB s=>
 eU m false (λk=>k cB s) s λe s=>
 eU e true (λk=>k cy s) s λcC s=>
 eU e true (λk=>k y s) s λcE s=>
 eU e true (λk=>k l s) s λcF s=>
 eU e true (λk=>fe cF pU λd=>k d s) s λcG s=>
 eU e true (λk=>eT 1 s cE cG k) s λcH s=>
 eU e true (λk=>eR s cH k) s λcI s=>
 eU e true (λk=>wQ cC cI λd=>k d s) s λcJ s=>
 eU m false (λk=>iB e cJ (.b false) s k) s λcK s=>
 iB m (.b true) cK s λcM s=>
 fE cM
(V y v l z s)
(fe z (.i .u64 (.ofNat 1)) λcN=>
 fe l ej λcO=>
 eT 1 s v cO λcP s=>
 eR s cP λcS s=>
 oi C cS (.i .u64 (.ofNat 0)) s λY s=>
 gB Y 0 s λcU s=>
 gB Y 1 s λcV s=>
 cn y v l cN cU cV s))
(V y v l z s)) φ bg bh bi bk bl bm s) λZ=>
 eT 1 s f c λcW s=>
 eR s cW λcX s=>
 fe c ej λcY=>
 eT 1 s g cY λcZ s=>
 eR s cZ λdb s=>
 mb cX db λdc=>
 fE dc
(fe c ej λdd=>
 eT 1 s f dd λde s=>
 eR s de λdf s=>
 fe c ej λdg=>
 eT 1 s g dg λdh s=>
 eR s dh λdi s=>
 oi df di (.i .u64 (.ofNat 0)) s λbb s=>
 gB bb 0 s λdk s=>
 gB bb 1 s λdl s=>
 Z f g c (.i .u64 (.ofNat 18446744073709551615)) dk dl s)
(eT 1 s f c λdm s=>
 eR s dm λdn s=>
 fe c ej λdp=>
 eT 1 s f dp λdu s=>
 eR s du λdv s=>
 fe c ej λdw=>
 eT 1 s g dw λdy s=>
 eR s dy λdz s=>
 eY (iC φ) [dn,dv,dz] s λbc s=>
 gB bc 0 s λdA s=>
 gB bc 1 s λdB s=>
 Z f g c dA dB (.i .u64 (.ofNat 0)) s))
def iI(φ:Nat):fP:=
 λas=>
(λ(s:LS)=>
 u1 as λf O=>
 u1 O λg P=>
 u0 P (
 eY (iU φ) [f,g] s λS s=>
 gD S fB λU=>
 fE U
(fO false s (.tup [gj,f]) some)
(fT g s λV s=>
 iR V ej λW=>
 fE W
(fT f s λC s=>
 io 1 8 [(.i .u64 (.ofNat 0))] s C C λX s=>
 fT f s λY s=>
 fe Y ej λZ=>
 lp gQ (λ(bb:jo)(E F p G n:D)(s:LS)=>
 mb n fB λbc=>
 fE bc
(eT 1 s E n λbd s=>
 eR s bd λbf s=>
 eT 1 s F fB λbg s=>
 eR s bg λbh s=>
 eY (iC φ) [G,bf,bh] s λH s=>
 gB H 0 s λbi s=>
 gB H 1 s λbk s=>
 eT 1 s p n λbl s=>
 fA 1 s bl bi λ_ s=>
 fe n ej λbm=>
 bb E F p bk bm s)
((fv φ) [p] s λbn s=>
 iO 1 [(.i .u64 (.ofNat 0))] [(0,1,G)] s λbo s=>
(fv φ) [bo] s λbp s=>
 fO false s (.tup [bn,bp]) some)) φ f g X (.i .u64 (.ofNat 0)) Z s)
(fT g s λbu s=>
 fe bu ej λbv=>
 eT 1 s g bv λbw s=>
 eR s bw λbz s=>
 eY (gU φ) [bz] s λu s=>
 eY (jk φ) [g,u] s λbA s=>
(fv φ) [bA] s λI s=>
 eY (jk φ) [f,u] s λbB s=>
 fT I s λv s=>
 fT f s λbC s=>
 fe bC v λbE=>
 f7 bE ej λJ=>
 io 1 8 [(.i .u64 (.ofNat 0))] s J J λbF s=>
 fT f s λbG s=>
 fe bG v λbH=>
 lp iH (λ(bI:kT)(K M w o y l:D)(s:LS)=>
 mb l fB λbJ=>
 fE bJ
(f7 l o λbK=>
 f7 bK ej λbM=>
 iT 1 s w (some l) (some bM) none λbN s=>
(nP φ) [bN,M] s λbO s=>
 eT 1 s y l λbP s=>
 fA 1 s bP bO λ_ s=>
 fe l ej λbS=>
 bI K M w o y bS s)
(lp iH (λ(bU:kT)(m c z A B e:D)(s:LS)=>
 gD e B λbV=>
 fE bV
(jn (λ(bW bX bY bZ cb cc:D)(s:LS)=>
 f7 cc ej λcd=>
 bU bW bX bY bZ cb cd s) λN=>
 eT 1 s c e λce s=>
 eR s ce λcf s=>
 pP cf m λcg=>
 eT 1 s c e λch s=>
 fA 1 s ch cg λ_ s=>
 kH m fB λh=>
 eU h true (λk=>k e s) s λci s=>
 eU h true (λk=>f7 ci ej λd=>k d s) s λck s=>
 eU h true (λk=>k c s) s λcl s=>
 eU h true (λk=>fT cl s k) s λcm s=>
 eU h true (λk=>gD ck cm λd=>k d s) s λcn s=>
 iB h cn (.b false) s λco s=>
 fE co
(eT 1 s c e λcp s=>
 eR s cp λcu s=>
 f7 e ej λcv=>
 eT 1 s c cv λcw s=>
 eR s cw λcy s=>
 fe (.i .i64 (.ofNat 64)) m λcz=>
 BQ cy cz λcA=>
 kOr cu cA λcB=>
 eT 1 s c e λcC s=>
 fA 1 s cC cB λ_ s=>
 N m c z A B e s)
(N m c z A B e s))
(eY (xf (fv φ)) [A] s λcE s=>
 iT 1 s c none (some z) none λcF s=>
(fv φ) [cF] s λcG s=>
 fO false s (.tup [cE,cG]) some)) φ K w o y o fB s)) φ u I bB v bF bH s)))) s0
def jh(φ:Nat):fP:=
 λas=>
(λ(s:LS)=>
 u1 as λe f=>
 u1 f λg h=>
 u0 h (
 eY pL [e] s λi s=>
 eY pL [g] s λk s=>
 lp li (λ(l:tS)(c b:D)(s:LS)=>
 fT b s λm s=>
 kH m fB λn=>
 fE n
(eY (iI φ) [c,b] s λd s=>
 gB d 0 s λu s=>
 gB d 1 s λo s=>
 l b o s)
(eY sL [c] s λp s=>
 fO false s p some)) φ i k s)) s0
def ii(φ:Nat):fP:=
 λas=>
(λ(s:LS)=>
 u1 as λc d=>
 u1 d λe f=>
 u0 f (
 eY pL [c] s λg s=>
 eY pL [e] s λh s=>
 eY (iI φ) [g,h] s λb s=>
 gB b 0 s λi s=>
 gB b 1 s λk s=>
 eY sL [i] s λl s=>
 eY sL [k] s λm s=>
 fO false s (.tup [l,m]) some)) s0
def mU(φ:Nat):fP:=
 λas=>
(λ(s:LS)=>
 u1 as λc e=>
 u1 e λf g=>
 u0 g (
 vX f c λb=>
 jn (λ(h:D)(s:LS)=>
 fO false s h some) λd=>
 gD b fB λi=>
 fE i
(f7 b c λk=>
 d k s)
(d b s))) s0
def p8(φ:Nat):fP:=
 λas=>
(λ(s:LS)=>
 u1 as λc i=>
 u1 i λk l=>
 u0 l (
 lp gQ (λ(m:jo)(d e b f g:D)(s:LS)=>
 kH b fB λn=>
 fE n
(xW e b λh=>
 jZ h b λo=>
 fe e o λp=>
 jZ h g λu=>
 fe f u λv=>
 m d b p g v s)
(eY (mU φ) [d,f] s λw s=>
 fO false s w some)) φ c c k fB ej s)) s0
def ko(φ:Nat):fP:=
 λas=>
(λ(s:LS)=>
 u1 as λo H=>
 u1 H λd I=>
 u1 I λh J=>
 u0 J (
 iO 0 lL [] s λK s=>
 mc 1 8 s K d λp s=>
 fT h s λb s=>
 fT d s λM s=>
 gD M b λN=>
 fE N
(fO false s (.tup [gj,p]) some)
(fT d s λO s=>
 fe O b λP=>
 f7 P ej λu=>
 io 1 8 lL s u u λS s=>
 fe b ej λU=>
 eT 1 s h U λV s=>
 eR s V λW s=>
 eY (p8 φ) [o,W] s λX s=>
 fT d s λY s=>
 fe Y b λZ=>
 lp lK (λ(bb:ov)(v i k l m w e:D)(s:LS)=>
 mb e fB λbc=>
 fE bc
(f7 e l λbd=>
 fe bd ej λbf=>
 eT 1 s k bf λbg s=>
 eR s bg λbh s=>
 jZ bh w λbi=>
 vX bi v λy=>
 eT 1 s m e λbk s=>
 fA 1 s bk y λ_ s=>
 fT i s λbl s=>
 lp qI (λ(bm:xE)(n z f A B C g E F G c:D)(s:LS)=>
 gD c G λbn=>
 fE bn
(eT 1 s F c λbo s=>
 eR s bo λbp s=>
 f7 g c λbu=>
 f7 g c λbv=>
 eT 1 s f bv λbw s=>
 eR s bw λbz s=>
 jZ E bp λbA=>
 fe bz bA λbB=>
 eY (mU φ) [n,bB] s λbC s=>
 eT 1 s f bu λbE s=>
 fA 1 s bE bC λ_ s=>
 f7 c ej λbF=>
 bm n z f A B C g E F G bF s)
(fe g ej λbG=>
 bb n z f A B C bG s)) φ v i k l m w e y i bl fB s)
(eY (iL φ) [m] s λbH s=>
 fe l ej λbI=>
 iT 1 s k none (some bI) none λbJ s=>
 eY (iL φ) [bJ] s λbK s=>
 fO false s (.tup [bH,bK]) some)) φ o h p b S X Z s))) s0
variable {s:LS} {K:fK}
def GH{kk:IntKind}{a b:Nat}{k:D->Rs}:sG (.i kk (.ofNat a)) (.i kk (.ofNat b)) k=k (.b (not (Nat.beq a b))):=by
 unfold sG;rw[qT,vW]
def DW{kk:IntKind}{a b:Nat}{k:D->Rs}:mb (.i kk (.ofNat a)) (.i kk (.ofNat b)) k=k (.b (Nat.ble b a)):=by
 unfold mb;rw[qT,vW]
def wP{kk:IntKind}{a b:Nat}{k:D->Rs}:wQ (.i kk (.ofNat a)) (.i kk (.ofNat b)) k=k (.b (Nat.ble a b)):=by
 unfold wQ;rw[qT,vW]
def E6{k:D->Rs}:fe fB ej k=k lC:=by
 show gN .sub fB ej k=_;unfold gN;rw[gc];rfl
def sM{k:D->Rs}:mb lC fB k=k (.b false):=by
 show gN .geq lC fB k=_;unfold gN;rw[gc];rfl
def CZ{k:D->Rs}:gD lC fB k=k (.b true):=by
 show gN .lss lC fB k=_;unfold gN;rw[gc];rfl
def Ab(x y:Nat):D:=cnd (Nat.blt x y) lC (cnd (Nat.beq x y) fB ej)
def cwF(q11:wW)(x12 x13 x14:D)(s:LS):Rs:=(
 mb x14 fB λx15=>
 fE x15
(eT 1 s x12 x14 λx16 s=>
 eR s x16 λx17 s=>
 eT 1 s x13 x14 λx18 s=>
 eR s x18 λx19 s=>
 sG x17 x19 λx20=>
 fE x20
(eT 1 s x12 x14 λx21 s=>
 eR s x21 λx22 s=>
 eT 1 s x13 x14 λx23 s=>
 eR s x23 λx24 s=>
 gD x22 x24 λx25=>
 fE x25
(fO false s lC some)
(fO false s ej some))
(fe x14 ej λx26=>
 q11 x12 x13 x26 s))
(fO false s fB some))
def kRd{x:Nat}{ex:Bool}:(eT 1 s (.tree [n64 x] 1 ex) fB λa s=>eR s a K)=K (n64 x) s:=rfl
def Rg{x y f:Nat}{ex ey:Bool}:lp vN cwF (f+2) (.tree [n64 x] 1 ex) (.tree [n64 y] 1 ey) fB s0=some (Ab x y):=by
 rw[ep];unfold cwF Ab;rw[DW,show Nat.ble 0 0=true from rfl,fG];refine(kRd).trans ?_;refine(kRd).trans ?_;refine(GH).trans ?_;by_cases h:x=y
 ·subst h;rw[gE,cw,ez,E6,fw (bE x),ep];rw[sM,ez];rfl
 ·rw[ik h,Bool.not_false,fG];refine(kRd).trans ?_;refine(kRd).trans ?_;refine(jp).trans ?_;by_cases h2:x<y
  ·rw[fk h2,fG];rfl
  ·rw[fw h2,ez];rfl
def Lq{x y f:Nat}{ex ey:Bool}:iU (f+2) [.tree [n64 x] 1 ex,.tree [n64 y] 1 ey]=some (Ab x y):=by
 show(fT (.tree [n64 x] 1 ex) s0 λx3 s=>fT (.tree [n64 y] 1 ey) s λx4 s=>sG x3 x4 λx5=>fE x5
  (fT (.tree [n64 x] 1 ex) s λx6 s=>fT (.tree [n64 y] 1 ey) s λx7 s=>gD x6 x7 λx8=>fE x8 (fO false s lC some) (fO false s ej some))
  (fT (.tree [n64 x] 1 ex) s λx9 s=>fe x9 ej λx10=>lp vN cwF (f+2) (.tree [n64 x] 1 ex) (.tree [n64 y] 1 ey) x10 s))=_
 rw[jC,jC,GH,gE,cw,ez,jC,mQ (aC 1) (show 1<=i9 .i64 by decide)];exact Rg
def V4{y f:Nat}{ex ey:Bool}:iU f [.tree [] 0 ex,.tree [n64 y] 1 ey]=some lC:=by
 show(fT (.tree [] 0 ex) s0 λx3 s=>fT (.tree [n64 y] 1 ey) s λx4 s=>sG x3 x4 λx5=>fE x5
  (fT (.tree [] 0 ex) s λx6 s=>fT (.tree [n64 y] 1 ey) s λx7 s=>gD x6 x7 λx8=>fE x8 (fO false s lC some) (fO false s ej some))
  (fT (.tree [] 0 ex) s λx9 s=>fe x9 ej λx10=>lp vN cwF f (.tree [] 0 ex) (.tree [n64 y] 1 ey) x10 s))=_
 rw[jC,jC,GH];rfl
def VV{x y φ:Nat}(hx:x<B64)(hy:0<y):∃q r,iC φ [n64 0,n64 x,n64 y]=some (.tup [n64 q,n64 r])/\q=x/y/\r=x%y:=by
 refine⟨_,_,?_,rfl,rfl⟩;unfold iC n64;dsimp only[fJ,fV,jn];refine(qG).trans ?_;rw[ik eP,ez];refine(wP).trans ?_;rw[il eP,ez];refine(qG).trans ?_;rw[gE,fG];refine(GB eP (bL hx)).trans ?_;refine(sh eP).trans ?_;rfl
def IE{l len h:Nat}{b:Blk}{k:fK}(hg:s.get l=some b)(hl:b.st.live=true)(h0:0<len)(hh:h<=len):iT 1 s (.sl l 0 len len 1 true) none (some (.i .i64 (.ofNat h))) none k=k (.sl l 0 h len 1 true) s:=by
 show(iq s l λb=>cnd (lv b.st) (cnd (Nat.ble len len) (cnd (Nat.ble h len) (cnd (Nat.ble 0 h) (cnd (Nat.beq 1 1) (nM true λex=>cnd (Nat.blt 0 len) (frc (Nat.add 0 (Nat.mul 0 1)) λoff=>frc (Nat.sub h 0) λl'=>frc (Nat.sub len 0) λcm=>k (.sl l off l' cm 1 ex) s) (k (.tree [] 0 ex) s)) none) none) none) none) none)=_;rw[oB,hg];show cnd (lv b.st) (cnd (Nat.ble len len) (cnd (Nat.ble h len) (cnd (Nat.ble 0 h) (cnd (Nat.beq 1 1) (nM true λex=>cnd (Nat.blt 0 len) (frc (Nat.add 0 (Nat.mul 0 1)) λoff=>frc (Nat.sub h 0) λl'=>frc (Nat.sub len 0) λcm=>k (.sl l off l' cm 1 ex) s) (k (.tree [] 0 ex) s)) none) none) none) none) none=_;rw[nQ,hl,aD (aC len),aD hh,aD (aJ h),fk h0];simp only[fH,iz,fj,gE];rfl
def KO{l w f:Nat}{b:Blk}{k:fK}(hg:s.get l=some b)(hc:b.cs=[n64 w])(hl:b.st.live=true):
 fv (f+2) [.sl l 0 1 1 1 true] s k=k (.sl l 0 (if w=0 then 0 else 1) 1 1 true) s:=by
 rw[Bm];refine(vq).trans ?_;rw[ep];unfold Dd;rw[qF,show Nat.blt 0 1=true from rfl];simp only[vK,mQ (kk:=.i64) (aC 1) (show 1<=i9 .i64 by decide),bD,tO hg hl dy,bX,bO];refine(yS (d:=n64 w) hg hl (by rw[hc];rfl)).trans ?_;refine(qG).trans ?_;by_cases h:w=0
 ·rw[h,aF rfl,gE,gT,fG,ep];refine(qF).trans ?_;rw[show Nat.blt 0 0=false from rfl];simp only[xX,ga,ez];exact IE hg hl dy (aJ 1)
 ·rw[aG h,ik h,gT,ez];exact IE hg hl dy (aC 1)
def dvF(φ:Nat)(q11:jo)(x12 x13 x14 x15 x16:D)(s:LS):Rs:=(
 mb x16 fB λx17=>
 fE x17
(eT 1 s x12 x16 λx18 s=>
 eR s x18 λx19 s=>
 eT 1 s x13 fB λx20 s=>
 eR s x20 λx21 s=>
 eY (iC φ) [x15,x19,x21] s λx22 s=>
 gB x22 0 s λx23 s=>
 gB x22 1 s λx24 s=>
 eT 1 s x14 x16 λx25 s=>
 fA 1 s x25 x23 λ_ s=>
 fe x16 ej λx26=>
 q11 x12 x13 x14 x24 x26 s)
((fv φ) [x14] s λx27 s=>
 iO 1 [(.i .u64 (.ofNat 0))] [(0,1,x15)] s λx28 s=>
(fv φ) [x28] s λx29 s=>
 fO false s (.tup [x27,x29]) some))
def z31{M:fP}{x y z:Nat}:eY M [n64 x,n64 y,n64 z] s K=ob (M [n64 x,n64 y,n64 z]) λr=>nD s [] r K:=rfl
def jY{α:Type}{a:α}{k:α->Rs}:ob (some a) k=k a:=rfl
def wx{g:Nat->Option Blk}{n l off len cm z:Nat}{ex:Bool}{b:Blk}{r cs:fN}{ls:eZ}(hg:g l=some b)(hl:b.st.live=true)(hc:cut off (len*z) b.cs=some r)(hm:i8 (res g n) r=some (cs,ls)):
 res g (n+1) (.sl l off len cm z ex)=some (.tree cs len (ex&&cm==len),l::ls):=by
 show(match g l with
  |some b=>if !b.st.live then none else match cut off (len*z) b.cs with
   |some r=>match i8 (res g n) r with
    |some (cs,ls)=>some (D.tree cs len (ex&&cm==len),l::ls)
    |none=>none
   |none=>none
  |none=>none)=_
 rw[hg];show(if !b.st.live then none else match cut off (len*z) b.cs with
  |some r=>match i8 (res g n) r with
   |some (cs,ls)=>some (D.tree cs len (ex&&cm==len),l::ls)
   |none=>none
  |none=>none)=_
 rw[hl,hc];show(match i8 (res g n) r with
  |some (cs,ls)=>some (D.tree cs len (ex&&cm==len),l::ls)
  |none=>none)=_
 rw[hm]
def OZ{q r m:Nat}(hm:m<=1):fO false ((st1 [n64 q]).push ⟨[n64 r],.rw⟩) (.tup [.sl 0 0 1 1 1 true,.sl 1 0 m 1 1 true]) some=some (.tup [.tree [n64 q] 1 true,.tree ([n64 r].take m) m (true&&1==m)]):=by
 unfold fO;rw[lJ];show sk (lf false ((st1 [n64 q]).push ⟨[n64 r],.rw⟩).get gJ (.tup [.sl 0 0 1 1 1 true,.sl 1 0 m 1 1 true])) some=_;have g0:((st1 [n64 q]).push ⟨[n64 r],.rw⟩).get 0=some ⟨[n64 q],.rw⟩:=rfl;have g1:((st1 [n64 q]).push ⟨[n64 r],.rw⟩).get 1=some ⟨[n64 r],.rw⟩:=eX;have hq:∀g,i8 (res g 59) [n64 q]=some ([n64 q],[]):=λg=>mG (k:=58) [n64 q] rfl;have hr:∀g,i8 (res g 59) ([n64 r].take m)=some ([n64 r].take m,[]):=λg=>mG (k:=58) _ (by
  rcases bT m with h|h
  ·subst h;rfl
  ·have:m=1:=eP;subst this;rfl)
 have c1:cut 0 (m*1) [n64 r]=some ([n64 r].take m):=by
  unfold cut;rw[a7,a9,aF (by rw[aR];simp;omega)]
 have c0:cut 0 (1*1) [n64 q]=some [n64 q]:=rfl;have:lf false ((st1 [n64 q]).push ⟨[n64 r],.rw⟩).get gJ (.tup [.sl 0 0 1 1 1 true,.sl 1 0 m 1 1 true])=some (.tup [.tree [n64 q] 1 true,.tree ([n64 r].take m) m (true&&1==m)]):=by
  have r0:=wx (n:=59) (off:=0) (len:=1) (cm:=1) (z:=1) (ex:=true) g0 rfl c0 (hq _);have r1:=wx (n:=59) (off:=0) (len:=m) (cm:=1) (z:=1) (ex:=true) g1 rfl c1 (hr _);show(match yF (res ((st1 [n64 q]).push ⟨[n64 r],.rw⟩).get 60 (.sl 0 0 1 1 1 true)),i8 (res ((st1 [n64 q]).push ⟨[n64 r],.rw⟩).get 60) [.sl 1 0 m 1 1 true]with
   |some (d,o,ls),some (ds,ls')=>if o.all λl=> !(ls++ls').contains l then some (D.tup (d::ds))else none
   |_,_=>none)=_
  have r2:i8 (res ((st1 [n64 q]).push ⟨[n64 r],.rw⟩).get 60) [.sl 1 0 m 1 1 true]=some ([.tree ([n64 r].take m) m (true&&1==m)],[1]):=by
   unfold i8;rw[r1];rfl
  rw[r0,r2];rfl
 rw[this,gc];rfl
def YQ{M:fP}{x y z q r:Nat}(h:M [n64 x,n64 y,n64 z]=some (.tup [n64 q,n64 r])):eY M [n64 x,n64 y,n64 z] s K=K (.tup [n64 q,n64 r]) s:=by
 rw[z31,h,jY];exact ZE
def iG{a b:D}:gB (.tup [a,b]) 0 s K=K a s:=rfl
def iF{a b:D}:gB (.tup [a,b]) 1 s K=K b s:=rfl
def GJ{r:Nat}:iO 1 [.i .u64 (.ofNat 0)] [(0,1,n64 r)] s K=K (.sl s.nx 0 1 1 1 true) (s.push ⟨[n64 r],.rw⟩):=by
 show(lh s ⟨[n64 r],.rw⟩ λs'=>K (.sl s.nx 0 1 1 1 true) s')=_;rw[lH]
def YP{x y f:Nat}{ex ey:Bool}(hx:x<B64)(hy:0<y)(hle:y<=x):∃e rs e',c64 rs=(if x%y=0 then[]else[n64 (x%y)])/\lp gQ (dvF (f+2)) (f+2) (.tree [n64 x] 1 ex) (.tree [n64 y] 1 ey) (.sl 0 0 1 1 1 true) (.i .u64 (.ofNat 0)) fB (st1 [n64 0])
 =some (.tup [.tree [n64 (x/y)] 1 e,.tree (c64 rs) rs.length e']):=by
 obtain⟨q,r,h1,hq,hr⟩:=VV (φ:=f+2) hx hy;have hq0:q≠0:=by
  have:=zmG hle hy;omega
 rw[<-hq,<-hr];have e1:∀(rs:eZ)(m:Nat),m=(if r=0 then 0 else 1)->c64 rs=(if r=0 then[]else[n64 r])->rs.length=m->∃e e',fO false ((st1 [n64 q]).push ⟨[n64 r],.rw⟩) (.tup [.sl 0 0 1 1 1 true,.sl 1 0 m 1 1 true]) some=some (.tup [.tree [n64 q] 1 e,.tree (c64 rs) rs.length e']):=by
  intro rs m hm hc hl;by_cases h:r=0
  ·rw[aF h]at hm hc;subst hm;rw[hc,hl,OZ (aJ 1)];exact⟨true,_,rfl⟩
  ·rw[aG h]at hm hc;subst hm;rw[hc,hl,OZ (aC 1)];exact⟨true,_,rfl⟩
 have e2:lp gQ (dvF (f+2)) (f+2) (.tree [n64 x] 1 ex) (.tree [n64 y] 1 ey) (.sl 0 0 1 1 1 true) (.i .u64 (.ofNat 0)) fB (st1 [n64 0])
  =fO false ((st1 [n64 q]).push ⟨[n64 r],.rw⟩) (.tup [.sl 0 0 1 1 1 true,.sl 1 0 (if r=0 then 0 else 1) 1 1 true]) some:=by
  rw[show D.i .u64 (.ofNat 0)=n64 0 from rfl,ep];unfold dvF;rw[DW,show Nat.ble 0 0=true from rfl,fG];refine(kRd).trans ?_;refine(kRd).trans ?_;rw[YQ h1];refine(iG).trans ?_;refine(iF).trans ?_;refine(nC dy).trans ?_;refine(u9 dy).trans ?_;refine(E6).trans ?_;rw[ep];refine(sM).trans ?_;rw[ez,show[n64 0].set (0+0) (D.i .u64 (.ofNat q))=[n64 q]from rfl];refine(KO (f:=f) (b:=⟨[n64 q],.rw⟩) (w:=q) rfl rfl rfl).trans ?_;rw[aG hq0,GJ];exact KO (f:=f) (b:=⟨[n64 r],.rw⟩) (w:=r) eX rfl rfl
 by_cases h:r=0
 ·obtain⟨e,e',h2⟩:=e1 [] 0 (by rw[aF h]) (by rw[aF h];rfl) rfl;refine⟨e,[],e',by rw[aF h];rfl,?_⟩;rw[e2,aF h];exact h2
 ·obtain⟨e,e',h2⟩:=e1 [r] 1 (by rw[aG h]) (by rw[aG h];rfl) rfl;refine⟨e,[r],e',by rw[aG h];rfl,?_⟩;rw[e2,aG h];exact h2
end
end Go.Proofs.Ev
namespace Go.Proofs.Ev
noncomputable section
variable {s:LS} {K:fK}
def One(ws:eZ)(m:Nat):Prop:=(m=0/\ws=[])\/(0<m/\m<B64/\ws=[m])
def One.val{ws:eZ}{m:Nat}(h:One ws m):Ev.val ws=m/\lk ws/\ws.length<=1:=by
 rcases h with⟨rfl,rfl⟩|⟨h1,h2,rfl⟩
 ·exact⟨rfl,(λw hw=>(by cases hw)),aJ 1⟩
 ·exact⟨rfl,(λw hw=>(by rw[cY.1 hw];exact h2)),aC 1⟩
def Az{cs ds:fN}{n m:Nat}{e e':Bool}:fO false s (.tup [.tree cs n e,.tree ds m e']) some=some (.tup [.tree cs n e,.tree ds m e']):=by
 unfold fO;rw[lJ];show sk _ some=_;rw[gc];rfl
def DX{M:fP}{cs ds:fN}{n m:Nat}{e e':Bool}{k:IntKind}{z:Int}(h:M [.tree cs n e,.tree ds m e']=some (.i k z)):eY M [.tree cs n e,.tree ds m e'] s K=K (.i k z) s:=by
 show ob (M [.tree cs n e,.tree ds m e']) (λr=>nD s [] r K)=_;rw[h];rfl
def Pz{x y:Nat}(h:x<y):Ab x y=lC:=by unfold Ab;rw[fk h];rfl
def QA{x y:Nat}(h:y<=x):∃c,Ab x y=.i .i64 (.ofNat c):=by
 unfold Ab;rw[fw eP,fq];by_cases e:x=y
 ·subst e;rw[gE];exact⟨0,rfl⟩
 ·rw[ik e];exact⟨1,rfl⟩
def G5{x y f:Nat}{xs ys:eZ}{ex ey:Bool}(hX:One xs x)(hY:One ys y)(hy:0<y):∃qs rs e e',One qs (x/y)/\One rs (x%y)/\
 iI (f+2) [.tree (c64 xs) xs.length ex,.tree (c64 ys) ys.length ey]=some (.tup [.tree (c64 qs) qs.length e,.tree (c64 rs) rs.length e']):=by
 have hys:ys=[y]:=by
  rcases hY with⟨h1,h2⟩|⟨h1,h2,h3⟩
  ·omega
  ·exact h3
 have hyB:y<B64:=by
  rcases hY with⟨h1,h2⟩|⟨h1,h2,h3⟩
  ·omega
  ·exact h2
 subst hys;rcases hX with⟨h1,h2⟩|⟨h1,h2,h3⟩
 ·subst h1 h2;refine⟨[],[],true,ex,Or.inl ⟨Nat.zero_div y,rfl⟩,Or.inl ⟨znf y,rfl⟩,?_⟩;unfold iI;dsimp only[fJ,fV];refine(DX (cs:=[]) (n:=0) (ds:=[n64 y]) (m:=1) V4).trans ?_;refine(CZ).trans ?_;rw[fG];exact Az
 ·subst h3;by_cases hlt:x<y
  ·refine⟨[],[x],true,ex,Or.inl ⟨cq hlt,rfl⟩,Or.inr ⟨by rw[am hlt];exact h1,by rw[am hlt];exact h2,by rw[am hlt]⟩,?_⟩;unfold iI;dsimp only[fJ,fV];refine(DX (cs:=[n64 x]) (n:=1) (ds:=[n64 y]) (m:=1) (by rw[Lq,Pz hlt])).trans ?_;refine(CZ).trans ?_;rw[fG];exact Az
  ·have hle:y<=x:=eP;obtain⟨c,hc⟩:=QA hle;obtain⟨e,rs,e',g1,g2⟩:=YP (f:=f) (ex:=ex) (ey:=ey) h2 hy hle;have hq:0<x/y:=zmG hle hy;have hr:One rs (x%y):=by
    by_cases h:x%y=0
    ·rw[aF h]at g1;refine Or.inl ⟨h,?_⟩;cases rs with
     |nil=>rfl
     |cons a b=>cases g1
    ·rw[aG h]at g1;have hlt:=bN x hy;refine Or.inr ⟨eP,eP,?_⟩;cases rs with
     |nil=>cases g1
     |cons a b=>
      cases b with
      |nil=>
       have:n64 a=n64 (x%y):=(List.cons.inj g1).1;unfold n64 at this;injection this with _ h4;injection h4 with h5;rw[h5]
      |cons _ _=>cases(List.cons.inj g1).2
   refine⟨[x/y],rs,e,e',Or.inr ⟨hq,cR (dX x y) h2,rfl⟩,hr,?_⟩;unfold iI;dsimp only[fJ,fV];refine(DX (cs:=[n64 x]) (n:=1) (ds:=[n64 y]) (m:=1) (by rw[Lq,hc])).trans ?_;refine(jp).trans ?_;rw[fw (cO c),ez];refine(jC).trans ?_;refine(qG).trans ?_;rw[show Nat.beq ([y]:eZ).length 1=true from rfl,fG];refine(jC).trans ?_;refine(z7 (n:=1) eV eV).trans ?_;refine(jC).trans ?_;refine(mQ (kk:=.i64) (aC 1) (show 1<=i9 .i64 by decide)).trans ?_;exact g2
def sN{m:Nat}(hs:s.fit)(hm:m<B64):∃x s' ws,(∀K,eY pL [.n m] s K=K x s')/\Hold s' x ws/\One ws m/\More s s':=by
 by_cases h0:m=0
 ·subst h0;exact⟨.tree [] 0 true,s,[],λK=>rfl,.nil,Or.inl ⟨rfl,rfl⟩,More.refl s⟩
 ·have hl:Nat.log2 m<64:=(zn3 h0).2 hm;obtain⟨x,s',ws,h1,h2,h3,h4,h5,h6,_⟩:=ri (m:=m) hs eP;refine⟨x,s',ws,h1,h2,Or.inr ⟨eP,hm,?_⟩,h6⟩;have h7:Nat.log2 m/64=0:=cq hl;rw[h7]at h5
  match ws,h4,h5 with
  |[],h4,_=>exact absurd h4.symm h0
  |[w],h4,_=>rw[show val [w]=w from rfl]at h4;rw[h4]
  |_::_::_,_,h5=>simp at h5
def HH{x y f:Nat}(hx:x<B64)(hy:y<B64)(h0:0<y):ii (f+2) [.n x,.n y]=some (.tup [.n (x/y),.n (x%y)]):=by
 obtain⟨X,s1,xs,k1,hX,ox,m1⟩:=sN (s:=s0) (m:=x) rfl hx;obtain⟨Y,s2,ys,k2,hY,oy,m2⟩:=sN (s:=s1) (m:=y) (m1.len rfl) hy;unfold ii;refine(k1 _).trans ?_;refine(k2 _).trans ?_;obtain⟨ex,ey,ls,h1,h2⟩:=yU (M:=iI (f+2)) (hX.more m2).ht hY.ht;obtain⟨s3,f1,f2,f3⟩:=wm ls s2 h2;obtain⟨qs,rs,e,e',g1,g2,g3⟩:=G5 (f:=f) (ex:=ex) (ey:=ey) ox oy h0;refine(h1 _).trans ?_;rw[g3,jY,Eg,f1];refine(iG).trans ?_;refine(iF).trans ?_;obtain⟨v1,v2,v3⟩:=g1.val;obtain⟨w1,w2,w3⟩:=g2.val;refine(pp HT.tr v2 eP).trans ?_;refine(pp HT.tr w2 eP).trans ?_;rw[v1,w1];rfl
def kU(φ:Nat)(as:fN):Option D:=
 u1 as λa r=>u1 r λb r=>u0 r (po a λx=>po b λy=>cnd (Nat.blt x B64) (cnd (Nat.blt y B64) (cnd (Nat.blt 0 y) (frc (Nat.div x y) λq=>frc (Nat.mod x y) λr=>some (.tup [.n q,.n r])) none) (ii φ as)) (ii φ as))
def AX{b:Bool}{t e:Rs}{q:D}(h:cnd b t e=some q):(b=true/\t=some q)\/e=some q:=by
 cases b with
 |true=>exact Or.inl ⟨rfl,h⟩
 |false=>exact Or.inr h
def wE{a b:Nat}(h:Nat.blt a b=true):a<b:=aV h
def zT{φ:Nat}{as:fN}{r:D}(h:kU φ as=some r):∃φ',ii φ' as=some r:=by
 obtain⟨a,r1,rfl,g1⟩:=ku h;obtain⟨b,r2,rfl,g2⟩:=ku g1;obtain⟨rfl,g3⟩:=qt g2;obtain⟨x,rfl,g4⟩:=jT g3;obtain⟨y,rfl,g5⟩:=jT g4;rcases AX g5 with⟨h1,g6⟩|g6
 ·rcases AX g6 with⟨h2,g7⟩|g7
  ·obtain⟨h3,g8⟩:=gR g7;rw[fj,fj]at g8;exact⟨2,by rw[HH (f:=0) (wE h1) (wE h2) (wE h3)];exact g8⟩
  ·exact⟨φ,g7⟩
 ·exact⟨φ,g6⟩
def gcF(φ:Nat)(q5:tS)(x6 x7:D)(s:LS):Rs:=(
 fT x7 s λx8 s=>
 kH x8 fB λx9=>
 fE x9
(eY (iI φ) [x6,x7] s λx10 s=>
 gB x10 0 s λx11 s=>
 gB x10 1 s λx12 s=>
 q5 x7 x12 s)
(eY sL [x6] s λx13 s=>
 fO false s x13 some))
def PW{g:Nat}:∀(f x y:Nat)(xs ys:eZ)(X Y:D)(s:LS),y<f->HT s X xs->HT s Y ys->One xs x->One ys y->lp li (gcF (g+2)) f X Y s=some (.n (Nat.gcd x y))
 |0,x,y,xs,ys,X,Y,s,hf,hX,hY,ox,oy=>eP
 |f+1,x,y,xs,ys,X,Y,s,hf,hX,hY,ox,oy=>by
  rw[ep];unfold gcF;refine(Xa hY).trans ?_;refine(qF).trans ?_;by_cases h0:y=0
  ·have hys:ys=[]:=by
    rcases oy with⟨h1,h2⟩|⟨h1,h2,h3⟩
    ·exact h2
    ·omega
   subst hys h0;rw[show Nat.blt 0 ([]:eZ).length=false from rfl,ez];obtain⟨v1,v2,v3⟩:=ox.val;refine(pp hX v2 eP).trans ?_;rw[v1,zmx];rfl
  ·have hys:ys=[y]:=by
    rcases oy with⟨h1,h2⟩|⟨h1,h2,h3⟩
    ·omega
    ·exact h3
   rw[show Nat.blt 0 ys.length=true by rw[hys];rfl,fG];obtain⟨ex,ey,ls,h1,h2⟩:=yU (M:=iI (g+2)) hX hY;obtain⟨s3,f1,f2,f3⟩:=wm ls s h2;obtain⟨qs,rs,e,e',g1,g2,g3⟩:=G5 (f:=g) (ex:=ex) (ey:=ey) ox oy eP;refine(h1 _).trans ?_;rw[g3,jY,Eg,f1];refine(iG).trans ?_;refine(iF).trans ?_;have ih:=PW (g:=g) f y (x%y) ys rs Y _ s3 (by have:=bN x (show 0<y by omega);omega) (f2 _ _ hY) (HT.tr (ex:=e')) oy g2;have e1:Nat.gcd x y=Nat.gcd y (x%y):=by
    rw[dJ x y,znq y x,dJ]
   rw[e1];exact ih
def NC{x y f:Nat}(hx:x<B64)(hy:y<B64)(hf:y<f):jh (f+2) [.n x,.n y]=some (.n (Nat.gcd x y)):=by
 obtain⟨X,s1,xs,k1,hX,ox,m1⟩:=sN (s:=s0) (m:=x) rfl hx;obtain⟨Y,s2,ys,k2,hY,oy,m2⟩:=sN (s:=s1) (m:=y) (m1.len rfl) hy;unfold jh;refine(k1 _).trans ?_;refine(k2 _).trans ?_;exact PW (g:=f) (f+2) x y xs ys X Y s2 eP (hX.more m2).ht hY.ht ox oy
def rh(φ:Nat)(as:fN):Option D:=
 u1 as λa r=>u1 r λb r=>u0 r (po a λx=>po b λy=>cnd (Nat.blt x B64) (cnd (Nat.blt y B64) (frc (Nat.gcd x y) λz=>some (.n z)) (jh φ as)) (jh φ as))
def Dm{φ:Nat}{as:fN}{r:D}(h:rh φ as=some r):∃φ',jh φ' as=some r:=by
 obtain⟨a,r1,rfl,g1⟩:=ku h;obtain⟨b,r2,rfl,g2⟩:=ku g1;obtain⟨rfl,g3⟩:=qt g2;obtain⟨x,rfl,g4⟩:=jT g3;obtain⟨y,rfl,g5⟩:=jT g4;rcases AX g5 with⟨h1,g6⟩|g6
 ·rcases AX g6 with⟨h2,g7⟩|g7
  ·rw[fj]at g7;exact⟨y+1+2,by rw[NC (wE h1) (wE h2) (co y)];exact g7⟩
  ·exact⟨φ,g7⟩
 ·exact⟨φ,g6⟩
end
end Go.Proofs.Ev
set_option maxRecDepth 1000000
set_option maxHeartbeats 0
namespace Go.Proofs.Ev
noncomputable section
def jA(φ:Nat):fP:=
 λas=>
(λ(s:LS)=>
 u1 as λb c=>
 u0 c (
 iO 1 [(.i .u64 (.ofNat 0))] [(0,1,b)] s λd s=>
 eY sL [d] s λe s=>
 fO false s e some)) s0
def fx(φ:Nat):fP:=
 λas=>
(λ(s:LS)=>
 u1 as λc g=>
 u1 g λe h=>
 u0 h (
 ff gL s λf s=>
 eU c true (λk=>k e s) s λi s=>
 eU c true (λk=>sG i (.n 0) λd=>k d s) s λl s=>
 iB c l (.b false) s λm s=>
 gf gL [(0,1,m),(1,1,e)] s λo s=>
 fA 2 s f o λ_ s=>
 eW 2 s f λp _=>
 fO false s p some)) s0
def uO(φ:Nat):fP:=
 λas=>
(λ(s:LS)=>
 u1 as λe f=>
 u1 f λg h=>
 u0 h (
 jB e s λb s=>
 jB g s λc s=>
 ff gL s λd s=>
 fF 0 s b λi s=>
 eR s i λk s=>
 fF 0 s c λl s=>
 eR s l λm s=>
 z9 .neq k m s λn s=>
 fF 1 s b λo s=>
 eR s o λp s=>
 fF 1 s c λu s=>
 eR s u λv s=>
 eY mj [p,v] s λw s=>
 eY (fx φ) [n,w] s λy s=>
 fA 2 s d y λ_ s=>
 eW 2 s d λz _=>
 fO false s z some)) s0
def uN(φ:Nat):fP:=
 λas=>
(λ(s:LS)=>
 u1 as λd e=>
 u0 e (
 jB d s λb s=>
 ff gL s λc s=>
 fF 0 s b λf s=>
 eR s f λg s=>
 GG g s λh s=>
 fF 1 s b λi s=>
 eR s i λk s=>
 eY (fx φ) [h,k] s λl s=>
 fA 2 s c l λ_ s=>
 eW 2 s c λm _=>
 fO false s m some)) s0
def mY(φ:Nat):fP:=
 λas=>
(λ(s:LS)=>
 u1 as λe f=>
 u1 f λg h=>
 u0 h (
 jB e s λb s=>
 jB g s λc s=>
 ff gL s λd s=>
 fF 0 s b λi s=>
 eR s i λk s=>
 fF 0 s c λl s=>
 eR s l λm s=>
 z9 .eql k m s λn s=>
 fE n
(fF 0 s b λo s=>
 eR s o λp s=>
 fF 1 s b λu s=>
 eR s u λv s=>
 fF 1 s c λw s=>
 eR s w λy s=>
 eY qC [v,y] s λz s=>
 eY (fx φ) [p,z] s λA s=>
 fA 2 s d A λ_ s=>
 eW 2 s d λB _=>
 fO false s B some)
(fF 1 s b λC s=>
 eR s C λE s=>
 fF 1 s c λF s=>
 eR s F λG s=>
 eY qB [E,G] s λH s=>
 gD H fB λI=>
 fE I
(fF 0 s c λJ s=>
 eR s J λK s=>
 fF 1 s c λM s=>
 eR s M λN s=>
 fF 1 s b λO s=>
 eR s O λP s=>
 eY kA [N,P] s λS s=>
 eY (fx φ) [K,S] s λU s=>
 fA 2 s d U λ_ s=>
 eW 2 s d λV _=>
 fO false s V some)
(fF 0 s b λW s=>
 eR s W λX s=>
 fF 1 s b λY s=>
 eR s Y λZ s=>
 fF 1 s c λbb s=>
 eR s bb λbc s=>
 eY kA [Z,bc] s λbd s=>
 eY (fx φ) [X,bd] s λbf s=>
 fA 2 s d bf λ_ s=>
 eW 2 s d λbg _=>
 fO false s bg some)))) s0
def gK(φ:Nat):fP:=
 λas=>
(λ(s:LS)=>
 u1 as λw y=>
 u1 y λz A=>
 u0 A (
 jB w s λc s=>
 jB z s λe s=>
 ff gL s λh s=>
 ff gL s λl s=>
 fF 1 s c λB s=>
 eR s B λC s=>
 fF 1 s e λE s=>
 eR s E λF s=>
 eY (kU φ) [C,F] s λm s=>
 gB m 0 s λo s=>
 gB m 1 s λf s=>
 jn (λ(G H p u I J:D)(s:LS)=>
 fF 0 s G λK s=>
 eR s K λM s=>
 fF 0 s H λN s=>
 eR s N λO s=>
 z9 .neq M O s λP s=>
 eY (fx φ) [P,I] s λS s=>
 gf gL [(1,1,J)] s λU s=>
 fA 2 s p S λ_ s=>
 fA 2 s u U λ_ s=>
 eW 2 s p λV _=>
 eW 2 s u λW _=>
 fO false s (.tup [V,W]) some) λv=>
 fF 0 s c λX s=>
 eR s X λg s=>
 eU g true (λk=>k f s) s λY s=>
 eU g true (λk=>sG Y (.n 0) λd=>k d s) s λZ s=>
 iB g Z (.b false) s λbb s=>
 fE bb
(eY (jA φ) [(.i .u64 (.ofNat 1))] s λbc s=>
 eY qC [o,bc] s λbd s=>
 fF 1 s e λbf s=>
 eR s bf λbg s=>
 eY kA [bg,f] s λbh s=>
 v c e h l bd bh s)
(v c e h l o f s))) s0
def jN(φ:Nat):fP:=
 λas=>
(λ(s:LS)=>
 u1 as λd e=>
 u1 e λf g=>
 u0 g (
 jB d s λb s=>
 jB f s λc s=>
 fF 0 s b λh s=>
 eR s h λi s=>
 fF 0 s c λk s=>
 eR s k λl s=>
 z9 .neq i l s λm s=>
 fE m
(fF 0 s b λn s=>
 eR s n λo s=>
 fE o
(fO false s lC some)
(fO false s ej some))
(fF 0 s b λp s=>
 eR s p λu s=>
 fE u
(fF 1 s c λv s=>
 eR s v λw s=>
 fF 1 s b λy s=>
 eR s y λz s=>
 eY qB [w,z] s λA s=>
 fO false s A some)
(fF 1 s b λB s=>
 eR s B λC s=>
 fF 1 s c λE s=>
 eR s E λF s=>
 eY qB [C,F] s λG s=>
 fO false s G some)))) s0
variable {s:LS} {K:fK}
def uc{M:fP}{a b z:Nat}(h:M [.n a,.n b]=some (.n z)):eY M [.n a,.n b] s K=K (.n z) s:=by
 show ob (M [.n a,.n b]) (λr=>nD s [] r K)=_;rw[h];rfl
def UZ{M:fP}{a b:Nat}{k:IntKind}{z:Int}(h:M [.n a,.n b]=some (.i k z)):eY M [.n a,.n b] s K=K (.i k z) s:=by
 show ob (M [.n a,.n b]) (λr=>nD s [] r K)=_;rw[h];rfl
def J0{M:fP}{a b q r:Nat}(h:M [.n a,.n b]=some (.tup [.n q,.n r])):eY M [.n a,.n b] s K=K (.tup [.n q,.n r]) s:=by
 show ob (M [.n a,.n b]) (λr=>nD s [] r K)=_;rw[h];rfl
def BR{M:fP}{x y:Bool}{a z:Nat}(h:M [.b x,.n a]=some (.agg [.b y,.n z])):eY M [.b x,.n a] s K=K (.agg [.b y,.n z]) s:=by
 show ob (M [.b x,.n a]) (λr=>nD s [] r K)=_;rw[h];rfl
def NS{M:fP}{k:IntKind}{x:Int}{z:Nat}(h:M [.i k x]=some (.n z)):eY M [.i k x] s K=K (.n z) s:=by
 show ob (M [.i k x]) (λr=>nD s [] r K)=_;rw[h];rfl
def it(x:Bool)(a:Nat):D:=.agg [.b x,.n a]
def rI{b:Bool}{a φ:Nat}:fx φ [.b b,.n a]=some (it (b&& !(Nat.beq a 0)) a):=by
 cases b
 ·rfl
 ·cases a<;>rfl
def mkS(a b:fN):LS:=⟨.node (some ⟨a,.rw⟩) (.node (some ⟨b,.rw⟩) .nil .nil) (.node (some ⟨[.b false,.n 0],.rw⟩) .nil .nil),3⟩
def YH{x:Bool}{z:Nat}{a b:fN}:(fA 2 (mkS a b) (.ptr 2 0) (it x z) λ_ s=>eW 2 s (.ptr 2 0) λx17 _=>fO false s x17 some)=some (it x z):=eX
def NV{x:Bool}{a φ:Nat}:uN φ [it x a]=some (it (!x&& !(Nat.beq a 0)) a):=by
 refine Eq.trans (b:=eY (fx φ) [.b (!x),.n a] ⟨.node (some ⟨[.b x,.n a],.rw⟩) (.node (some ⟨[.b false,.n 0],.rw⟩) .nil .nil) .nil,2⟩ λx9 s=>fA 2 s (.ptr 1 0) x9 λ_ s=>eW 2 s (.ptr 1 0) λx10 _=>fO false s x10 some) (by cases x<;>kernel_rfl) ?_;rw[BR rI];kernel_rfl
def NW{x y:Bool}{a b z φ:Nat}(h:mj [.n a,.n b]=some (.n z)):uO φ [it x a,it y b]=some (it ((x != y)&& !(Nat.beq z 0)) z):=by
 refine Eq.trans (b:=eY mj [.n a,.n b] (mkS [.b x,.n a] [.b y,.n b]) λx15 s'=>eY (fx φ) [.b (x != y),x15] s' λx16 s=>fA 2 s (.ptr 2 0) x16 λ_ s=>eW 2 s (.ptr 2 0) λx17 _=>fO false s x17 some) (by cases x<;>cases y<;>kernel_rfl) ?_;rw[uc h,BR rI];exact YH
def LM{x:Bool}{a b z φ:Nat}(h:qC [.n a,.n b]=some (.n z)):mY φ [it x a,it x b]=some (it (x&& !(Nat.beq z 0)) z):=by
 refine Eq.trans (b:=eY qC [.n a,.n b] (mkS [.b x,.n a] [.b x,.n b]) λx15 s'=>eY (fx φ) [.b x,x15] s' λx16 s=>fA 2 s (.ptr 2 0) x16 λ_ s=>eW 2 s (.ptr 2 0) λx17 _=>fO false s x17 some) (by cases x<;>kernel_rfl) ?_;rw[uc h,BR rI];exact YH
def GN{x y:Bool}{a b φ:Nat}{c:Int}(hxy:x≠y)(h:qB [.n a,.n b]=some (.i .i64 c)):mY φ [it x a,it y b]=
 (gD (.i .i64 c) fB λx25=>fE x25
  (eY kA [.n b,.n a] (mkS [.b x,.n a] [.b y,.n b]) λx15 s'=>eY (fx φ) [.b y,x15] s' λx16 s=>fA 2 s (.ptr 2 0) x16 λ_ s=>eW 2 s (.ptr 2 0) λx17 _=>fO false s x17 some)
  (eY kA [.n a,.n b] (mkS [.b x,.n a] [.b y,.n b]) λx15 s'=>eY (fx φ) [.b x,x15] s' λx16 s=>fA 2 s (.ptr 2 0) x16 λ_ s=>eW 2 s (.ptr 2 0) λx17 _=>fO false s x17 some)):=by
 refine Eq.trans (b:=eY qB [.n a,.n b] (mkS [.b x,.n a] [.b y,.n b]) λx24 s=>gD x24 fB λx25=>fE x25
  (fF 0 s (.ptr 1 0) λx26 s=>eR s x26 λx27 s=>fF 1 s (.ptr 1 0) λx28 s=>eR s x28 λx29 s=>fF 1 s (.ptr 0 0) λx30 s=>eR s x30 λx31 s=>
   eY kA [x29,x31] s λx32 s=>eY (fx φ) [x27,x32] s λx33 s=>fA 2 s (.ptr 2 0) x33 λ_ s=>eW 2 s (.ptr 2 0) λx34 _=>fO false s x34 some)
  (fF 0 s (.ptr 0 0) λx35 s=>eR s x35 λx36 s=>fF 1 s (.ptr 0 0) λx37 s=>eR s x37 λx38 s=>fF 1 s (.ptr 1 0) λx39 s=>eR s x39 λx40 s=>
   eY kA [x38,x40] s λx41 s=>eY (fx φ) [x36,x41] s λx42 s=>fA 2 s (.ptr 2 0) x42 λ_ s=>eW 2 s (.ptr 2 0) λx43 _=>fO false s x43 some)) (by cases x<;>cases y<;>first|exact absurd rfl hxy|kernel_rfl) ?_
 rw[UZ h];kernel_rfl
def Qh{a b:Nat}(h:a<b):qB [.n a,.n b]=some lC:=by
 show some (cnd (Nat.blt a b) (lC) (cnd (Nat.beq a b) (fB) (ej)))=_;rw[fk h];rfl
def Qi{a b:Nat}(h:b<=a):∃c,qB [.n a,.n b]=some (.i .i64 (.ofNat c)):=by
 have e:qB [.n a,.n b]=some (cnd (Nat.blt a b) (lC) (cnd (Nat.beq a b) (fB) (ej))):=rfl;rw[e,fw eP,fq];by_cases h2:a=b
 ·rw[h2,gE];exact⟨0,rfl⟩
 ·rw[ik h2];exact⟨1,rfl⟩
def RT{x y:Bool}{a b z φ:Nat}(hxy:x≠y)(hab:a<b)(h:kA [.n b,.n a]=some (.n z)):mY φ [it x a,it y b]=some (it (y&& !(Nat.beq z 0)) z):=by
 rw[GN hxy (Qh hab),CZ,fG,uc h,BR rI];exact YH
def RU{x y:Bool}{a b z φ:Nat}(hxy:x≠y)(hab:b<=a)(h:kA [.n a,.n b]=some (.n z)):mY φ [it x a,it y b]=some (it (x&& !(Nat.beq z 0)) z):=by
 obtain⟨c,hc⟩:=Qi hab;rw[GN hxy hc,jp,fw (cO c),ez,uc h,BR rI];exact YH
def z2I(d:D)(k:Bool->Rs):Rs:=onB d (k true) (k false) none
def Qe{d:D}{k:Bool->Rs}{r:D}(h:z2I d k=some r):∃x,d=.b x/\k x=some r:=by
 cases d with
 |b x=>cases x<;>exact⟨_,rfl,h⟩
 |_=>cases h
def DL(d:D)(k:Bool->Nat->Rs):Rs:=Od d (λcs=>u1 cs λb r=>u1 r λn r=>u0 r (z2I b λx=>po n λa=>k x a)) none
def xN{d:D}{k:Bool->Nat->Rs}{r:D}(h:DL d k=some r):∃x a,d=it x a/\k x a=some r:=by
 obtain⟨cs,rfl,h1⟩:=BE h;obtain⟨b,r1,rfl,h2⟩:=ku h1;obtain⟨n,r2,rfl,h3⟩:=ku h2;obtain⟨rfl,h4⟩:=qt h3;obtain⟨x,rfl,h5⟩:=Qe h4;obtain⟨a,rfl,h6⟩:=jT h5;exact⟨x,a,rfl,h6⟩
def kIt(x:Bool)(z:Nat)(k:D->Rs):Rs:=cnd x (cnd (Nat.beq z 0) (k (.agg [.b false,.n z])) (k (.agg [.b true,.n z]))) (k (.agg [.b false,.n z]))
def ua{x:Bool}{z:Nat}{k:D->Rs}:kIt x z k=k (it (x&& !(Nat.beq z 0)) z):=by
 unfold kIt it;cases x
 ·rfl
 ·cases Nat.beq z 0<;>rfl
def tg(as:fN):Option D:=u1 as λa r=>u0 r (DL a λx a=>kIt (cnd x false true) a some)
def Dt{as:fN}{r:D}(h:tg as=some r):∃φ,uN φ as=some r:=by
 obtain⟨a,r1,rfl,g1⟩:=ku h;obtain⟨rfl,g2⟩:=qt g1;obtain⟨x,a,rfl,g3⟩:=xN g2;rw[ua]at g3;refine⟨0,?_⟩;rw[NV,<-g3];cases x<;>rfl
def lI(as:fN):Option D:=u1 as λa r=>u1 r λb r=>u0 r (DL a λx a=>DL b λy b=>ob (mj [.n a,.n b]) λz=>po z λz=>kIt (cnd x (cnd y false true) y) z some)
def Dv{as:fN}{r:D}(h:lI as=some r):∃φ,uO φ as=some r:=by
 obtain⟨a,r1,rfl,g1⟩:=ku h;obtain⟨b,r2,rfl,g2⟩:=ku g1;obtain⟨rfl,g3⟩:=qt g2;obtain⟨x,a,rfl,g4⟩:=xN g3;obtain⟨y,b,rfl,g5⟩:=xN g4;obtain⟨z,hz,g6⟩:=oV g5;obtain⟨z,rfl,g7⟩:=jT g6;rw[ua]at g7;refine⟨0,?_⟩;rw[NW hz,<-g7];cases x<;>cases y<;>rfl
def WB(x:Bool)(a:Nat)(y:Bool)(b:Nat)(k:D->Rs):Rs:=
 cnd (cnd x y (cnd y false true)) (ob (qC [.n a,.n b]) λz=>po z λz=>kIt x z k)
  (cnd (Nat.blt a b) (ob (kA [.n b,.n a]) λz=>po z λz=>kIt y z k) (ob (kA [.n a,.n b]) λz=>po z λz=>kIt x z k))
def Rr{x y:Bool}{a b:Nat}{k:D->Rs}{r:D}(h:WB x a y b k=some r):∃v z,(∀φ,mY φ [it x a,it y b]=some (it v z))/\k (it v z)=some r:=by
 unfold WB at h;by_cases hxy:x=y
 ·subst hxy;have e:cnd x x (cnd x false true)=true:=by cases x<;>rfl
  rw[e,fH]at h;obtain⟨z,hz,g6⟩:=oV h;obtain⟨z,rfl,g7⟩:=jT g6;rw[ua]at g7;exact⟨_,z,λφ=>LM hz,g7⟩
 ·have e:cnd x y (cnd y false true)=false:=by cases x<;>cases y<;>first|rfl|exact absurd rfl hxy
  rw[e,fq]at h;rcases G8 h with⟨h1,g⟩|⟨h1,g⟩
  ·obtain⟨z,hz,g6⟩:=oV g;obtain⟨z,rfl,g7⟩:=jT g6;rw[ua]at g7;exact⟨_,z,λφ=>RT hxy (wE h1) hz,g7⟩
  ·obtain⟨z,hz,g6⟩:=oV g;obtain⟨z,rfl,g7⟩:=jT g6;rw[ua]at g7;have hle:b<=a:=by
    rcases aY a b with hq|hq
    ·rw[fk hq]at h1;cases h1
    ·exact hq
   exact⟨_,z,λφ=>RU hxy hle hz,g7⟩
def oC(as:fN):Option D:=u1 as λa r=>u1 r λb r=>u0 r (DL a λx a=>DL b λy b=>WB x a y b some)
def Dx{as:fN}{r:D}(h:oC as=some r):∃φ,mY φ as=some r:=by
 obtain⟨a,r1,rfl,g1⟩:=ku h;obtain⟨b,r2,rfl,g2⟩:=ku g1;obtain⟨rfl,g3⟩:=qt g2;obtain⟨x,a,rfl,g4⟩:=xN g3;obtain⟨y,b,rfl,g5⟩:=xN g4;obtain⟨v,z,h1,h2⟩:=Rr g5;exact⟨0,by rw[h1];exact h2⟩
end
end Go.Proofs.Ev
set_option maxRecDepth 1000000
set_option maxHeartbeats 0
namespace Go.Proofs.Ev
noncomputable section
def kN(φ:Nat):fP:=
 λas=>
(λ(s:LS)=>
 u1 as λc d=>
 u0 d (
 jB c s λe s=>
 ff iw s λb s=>
 eW 2 s e λf s=>
 gf iw [(0,2,f),(2,1,(.n 1))] s λg s=>
 fA 3 s b g λ_ s=>
 eW 3 s b λh _=>
 fO false s h some)) s0
def od(φ:Nat):fP:=
 λas=>
(λ(s:LS)=>
 u1 as λm o=>
 u1 o λp u=>
 u0 u (
 jB m s λb s=>
 jB p s λc s=>
 ff iw s λe s=>
 fF 1 s b λv s=>
 eR s v λw s=>
 fF 1 s c λy s=>
 eR s y λz s=>
 eY (rh φ) [w,z] s λd s=>
 jn (λ(f g h:D)(s:LS)=>
 fF 0 s f λA s=>
 eR s A λB s=>
 fF 0 s g λC s=>
 eR s C λE s=>
 z9 .neq B E s λF s=>
 fF 1 s f λG s=>
 eR s G λH s=>
 eY (fx φ) [F,H] s λI s=>
 fF 1 s g λJ s=>
 eR s J λK s=>
 gf iw [(0,2,I),(2,1,K)] s λM s=>
 fA 3 s h M λ_ s=>
 eW 3 s h λN _=>
 fO false s N some) λi=>
 sG d (.n 1) λO=>
 fE O
(fF 1 s b λP s=>
 eR s P λS s=>
 eY (kU φ) [S,d] s λk s=>
 gB k 0 s λU s=>
 gB k 1 s λbb s=>
 fF 1 s b λV s=>
 fA 1 s V U λ_ s=>
 fF 1 s c λW s=>
 eR s W λX s=>
 eY (kU φ) [X,d] s λl s=>
 gB l 0 s λY s=>
 gB l 1 s λbc s=>
 fF 1 s c λZ s=>
 fA 1 s Z Y λ_ s=>
 i b c e s)
(i b c e s))) s0
def ji(φ:Nat):fP:=
 λas=>
(λ(s:LS)=>
 u1 as λh i=>
 u1 i λl m=>
 u0 m (
 jB h s λc s=>
 jB l s λe s=>
 ff iw s λf s=>
 fF 2 s c λo s=>
 eR s o λp s=>
 iR p (.n 1) λg=>
 eU g true (λk=>fF 2 s e k) s λu s=>
 eU g true (λk=>eR s u k) s λv s=>
 eU g true (λk=>iR v (.n 1) λd=>k d s) s λw s=>
 iB g w (.b false) s λy s=>
 fE y
(fF 0 s c λz s=>
 eW 2 s z λA s=>
 fF 0 s e λB s=>
 eW 2 s B λC s=>
 eY lI [A,C] s λE s=>
 eY (kN φ) [E] s λF s=>
 fA 3 s f F λ_ s=>
 eW 3 s f λG _=>
 fO false s G some)
(fF 0 s c λH s=>
 eW 2 s H λI s=>
 fF 0 s e λJ s=>
 eW 2 s J λK s=>
 eY lI [I,K] s λM s=>
 fF 2 s c λN s=>
 eR s N λO s=>
 fF 2 s e λP s=>
 eR s P λS s=>
 eY mj [O,S] s λU s=>
 gf gL [(1,1,U)] s λV s=>
 eY (od φ) [M,V] s λW s=>
 fA 3 s f W λ_ s=>
 eW 3 s f λX _=>
 fO false s X some))) s0
def nT(φ:Nat):fP:=
 λas=>
(λ(s:LS)=>
 u1 as λf g=>
 u1 g λh i=>
 u0 i (
 jB f s λb s=>
 jB h s λc s=>
 ff iw s λd s=>
 fF 2 s b λk s=>
 eR s k λl s=>
 fF 2 s c λm s=>
 eR s m λo s=>
 iR l o λp=>
 fE p
(fF 2 s b λu s=>
 eR s u λv s=>
 iR v (.n 1) λw=>
 fE w
(fF 0 s b λy s=>
 eW 2 s y λz s=>
 fF 0 s c λA s=>
 eW 2 s A λB s=>
 eY oC [z,B] s λC s=>
 eY (kN φ) [C] s λE s=>
 fA 3 s d E λ_ s=>
 eW 3 s d λF _=>
 fO false s F some)
(fF 0 s b λG s=>
 eW 2 s G λH s=>
 fF 0 s c λI s=>
 eW 2 s I λJ s=>
 eY oC [H,J] s λK s=>
 fF 2 s b λM s=>
 eR s M λN s=>
 gf gL [(1,1,N)] s λO s=>
 eY (od φ) [K,O] s λP s=>
 fA 3 s d P λ_ s=>
 eW 3 s d λS _=>
 fO false s S some))
(fF 0 s b λU s=>
 fF 0 s U λV s=>
 eR s V λW s=>
 fF 0 s b λX s=>
 fF 1 s X λY s=>
 eR s Y λZ s=>
 fF 2 s c λbb s=>
 eR s bb λbc s=>
 eY mj [Z,bc] s λbd s=>
 eY (fx φ) [W,bd] s λbf s=>
 fF 0 s c λbg s=>
 fF 0 s bg λbh s=>
 eR s bh λbi s=>
 fF 0 s c λbk s=>
 fF 1 s bk λbl s=>
 eR s bl λbm s=>
 fF 2 s b λbn s=>
 eR s bn λbo s=>
 eY mj [bm,bo] s λbp s=>
 eY (fx φ) [bi,bp] s λbu s=>
 eY oC [bf,bu] s λbv s=>
 ff gL s λe s=>
 fA 2 s e bv λ_ s=>
 eW 2 s e λbw s=>
 fF 2 s b λbz s=>
 eR s bz λbA s=>
 fF 2 s c λbB s=>
 eR s bB λbC s=>
 eY mj [bA,bC] s λbE s=>
 gf gL [(1,1,bE)] s λbF s=>
 eY (od φ) [bw,bF] s λbG s=>
 fA 3 s d bG λ_ s=>
 eW 3 s d λbH _=>
 fO false s bH some))) s0
def jM(φ:Nat):fP:=
 λas=>
(λ(s:LS)=>
 u1 as λc d=>
 u1 d λe f=>
 u0 f (
 jB c s λg s=>
 jB e s λh s=>
 ff gL s λb s=>
 eW 2 s g λi s=>
 eW 2 s h λk s=>
 eY tg [k] s λl s=>
 eY oC [i,l] s λm s=>
 fA 2 s b m λ_ s=>
 eW 2 s b λn _=>
 fO false s n some)) s0
section
variable {α:Type}
def Tr.v:Tr α->Option α
 |.nil=>none
 |.node v _ _=>v
def Tr.l:Tr α->Tr α
 |.nil=>.nil
 |.node _ l _=>l
def Tr.r:Tr α->Tr α
 |.nil=>.nil
 |.node _ _ r=>r
def Hc(x:α):∀(k k':Nat)(n:Nat),n<k->n<k'->Tr.setF k .nil n x=Tr.setF k' .nil n x:=by
 intro k
 induction k with
 |zero=>intro k' n h;omega
 |succ k ih=>
  intro k' n h h';obtain⟨k',rfl⟩:∃j,k'=j+1:=⟨k'-1,eP⟩
  simp only[Tr.setF];by_cases h0:n=0
  ·subst h0;rfl
  ·rw[show Nat.beq n 0=false from Rn h0];by_cases h2:n%2=1
   ·rw[show Nat.beq (Nat.mod n 2) 1=true by show Nat.beq (n%2) 1=true;rw[h2];rfl];have:=ih k' (n/2) eP eP;show Tr.node none (Tr.setF k .nil (n/2) x) .nil=Tr.node none (Tr.setF k' .nil (n/2) x) .nil;rw[this]
   ·rw[show Nat.beq (Nat.mod n 2) 1=false by(have:n%2=0:=by omega);show Nat.beq (n%2) 1=false;rw[this];rfl];have:=ih k' (n/2-1) eP eP;show Tr.node none .nil (Tr.setF k .nil (n/2-1) x)=Tr.node none .nil (Tr.setF k' .nil (n/2-1) x);rw[this]
def BS(x:α)(t:Tr α)(n:Nat):Tr.ins x t n=if n=0 then .node (some x) t.l t.r else if n%2=1 then .node t.v (Tr.ins x t.l (n/2)) t.r else .node t.v t.l (Tr.ins x t.r (n/2-1)):=by
 by_cases h0:n=0
 ·subst h0;rw[aF rfl];cases t<;>rfl
 ·rw[aG h0];have hb:Nat.beq n 0=false:=Rn h0;by_cases h2:n%2=1
  ·have h3:Nat.beq (Nat.mod n 2) 1=true:=by show Nat.beq (n%2) 1=true;rw[h2];rfl
   rw[aF h2];cases t with
   |nil=>
    show Tr.setF (Nat.succ n) .nil n x=.node none (Tr.setF (Nat.succ (n/2)) .nil (n/2) x) .nil;show cond (Nat.beq n 0) _ (cond (Nat.beq (Nat.mod n 2) 1) (Tr.node none (Tr.setF n .nil (n/2) x) .nil) _)=_;rw[hb,h3,Hc x n (Nat.succ (n/2)) (n/2) eP eP];rfl
   |node v l r=>show cond (Nat.beq n 0) _ (cond (Nat.beq (Nat.mod n 2) 1) _ _)=_;rw[hb,h3];rfl
  ·have h3:Nat.beq (Nat.mod n 2) 1=false:=by
    have:n%2=0:=eP;show Nat.beq (n%2) 1=false;rw[this];rfl
   rw[aG h2];cases t with
   |nil=>
    show Tr.setF (Nat.succ n) .nil n x=.node none .nil (Tr.setF (Nat.succ (n/2-1)) .nil (n/2-1) x);show cond (Nat.beq n 0) _ (cond (Nat.beq (Nat.mod n 2) 1) _ (Tr.node none .nil (Tr.setF n .nil (n/2-1) x)))=_;rw[hb,h3,Hc x n (Nat.succ (n/2-1)) (n/2-1) eP eP];rfl
   |node v l r=>show cond (Nat.beq n 0) _ (cond (Nat.beq (Nat.mod n 2) 1) _ _)=_;rw[hb,h3];rfl
def Xl(x y:α):∀(n:Nat)(t:Tr α),Tr.ins x (Tr.ins y t n) n=Tr.ins x t n:=by
 intro n
 induction n using Nat.strongRecOn with
 |ind n ih=>
  intro t;rw[BS x (Tr.ins y t n),BS y t n,BS x t n];by_cases h0:n=0
  ·simp only[h0,bf,Tr.l,Tr.r]
  ·simp only[h0,cP];by_cases h2:n%2=1
   ·simp only[h2,bf,Tr.l,Tr.r,Tr.v];rw[ih _ eP]
   ·simp only[h2,cP,Tr.l,Tr.r,Tr.v];rw[ih _ eP]
def U4(x y:α):∀(n m:Nat)(t:Tr α),n≠m->Tr.ins x (Tr.ins y t n) m=Tr.ins y (Tr.ins x t m) n:=by
 intro n
 induction n using Nat.strongRecOn with
 |ind n ih=>
  intro m t hne;rw[BS x (Tr.ins y t n),BS y (Tr.ins x t m),BS y t n,BS x t m];by_cases h0:n=0
  ·have hm:¬m=0:=eP;simp only[h0,hm,bf,cP];by_cases h2:m%2=1
   ·simp only[h2,bf,Tr.l,Tr.r,Tr.v]
   ·simp only[h2,cP,Tr.l,Tr.r,Tr.v]
  ·simp only[h0,cP];by_cases hm:m=0
   ·simp only[hm,bf];by_cases h2:n%2=1
    ·simp only[h2,bf,Tr.l,Tr.r,Tr.v]
    ·simp only[h2,cP,Tr.l,Tr.r,Tr.v]
   ·simp only[hm,cP];by_cases h2:n%2=1
    ·by_cases h3:m%2=1
     ·simp only[h2,h3,bf,Tr.l,Tr.r,Tr.v];rw[ih (n/2) eP (m/2) _ eP]
     ·simp only[h2,h3,bf,cP,Tr.l,Tr.r,Tr.v]
    ·by_cases h3:m%2=1
     ·simp only[h2,h3,bf,cP,Tr.l,Tr.r,Tr.v]
     ·simp only[h2,h3,cP,Tr.l,Tr.r,Tr.v];rw[ih (n/2-1) eP (m/2-1) _ eP]
end
def Fs{α:Type}{P:List α->Prop}(h0:P [])(h1:∀l a,P l->P (l++[a]))(l:List α):P l:=by
 have:∀l:List α,P l.reverse:=λl=>by
  induction l with
  |nil=>exact h0
  |cons a l ih=>rw[List.reverse_cons];exact h1 _ _ ih
 rw[<-List.reverse_reverse l];exact this _
def mem(bs:fQ):LS:=bs.foldl LS.push s0
variable {bs:fQ} {b:Blk} {l off len cm z i n:Nat} {ex:Bool} {d:D} {kk k2:IntKind} {K:fK}
def fg:mem []=s0:=rfl
def rH:(mem bs).push b=mem (bs++[b]):=by unfold mem;rw[List.foldl_append];rfl
def mP:∀(bs:fQ),(mem bs).nx=bs.length:=by
 refine Fs rfl λbs c ih=>?_;rw[<-rH,aq];show Nat.succ (mem bs).nx=_;rw[ih];rfl
def mK:∀(bs:fQ)(l:Nat),(mem bs).get l=bs[l]?:=by
 refine Fs (λl=>?_) λbs c ih l=>?_
 ·unfold LS.get;rw[aG (by show ¬l<0;omega)];rfl
 ·rw[<-rH,LS.get_push,mP,ih];by_cases h:l=bs.length
  ·subst h;simp
  ·rw[aG h];by_cases h2:l<bs.length
   ·rw[bF h2]
   ·rw[ai eP,ai (by simp;omega)]
def XP:∀(bs:fQ)(l:Nat)(b:Blk),l<bs.length->(mem bs).put l b=mem (bs.set l b):=by
 refine Fs (λl b h=>by simp at h) λbs c ih l b h=>?_
 ·rw[<-rH];by_cases e:l=bs.length
  ·subst e;rw[bU _ _ (aC _),bD,ck,<-rH];unfold LS.push LS.put;simp only[mP];rw[Xl]
  ·have hl:l<bs.length:=by simp at h;omega
   rw[List.set_append_left _ _ hl,<-rH,<-ih l b hl];unfold LS.push LS.put;simp only[mP];rw[U4 _ _ _ _ _ eP]
def gV{F:Blk->Rs}(h:bs[l]?=some b):iq (mem bs) l F=F b:=by rw[oB,mK,h];rfl
def mD{F:LS->Rs}(h:l<bs.length):oh (mem bs) l b F=F (mem (bs.set l b)):=by rw[GD,XP _ _ _ h]
def kI{F:LS->Rs}:lh (mem bs) b F=F (mem (bs++[b])):=by rw[lH,rH]
def fC{α:Type}{l:List α}{i:Nat}{x:α}(h:l[i]?=some x):i<l.length:=(ak.1 h).1
def th{a b c:Rs}(h:a=b)(h':b=c):a=c:=h.trans h'
def fY{cs:fN}{s:LS}:fT (.tree cs n ex) s K=K (.i .i64 (.ofNat n)) s:=rfl
def ou{s:LS}:fT (.sl l off n cm z ex) s K=K (.i .i64 (.ofNat n)) s:=rfl
def DY(h:bs[l]?=some b:=by rfl)(hl:b.st.live=true:=by rfl)(hi:i<len:=by omega):eT z (mem bs) (.sl l off len cm z ex) (.i k2 (.ofNat i)) K=K (.ptr l (off+i*z)) (mem bs):=tO (by rw[mK];exact h) hl hi
def HL{cs:fN}{s:LS}(hi:i<len:=by omega)(h:i*z<cs.length:=by omega):eT z s (.tree cs len ex) (.i k2 (.ofNat i)) K=K (.fp (cs.drop (i*z))) s:=by
 show cnd (Nat.blt i len) (jJ (Nat.mul i z) cs λr=>List.rec (motive:=λ_=>Rs) none (λ_ _ _=>K (.fp r) s) r) none=_;rw[fk hi,fH,gZ];show List.rec (motive:=λ_=>Rs) none (λ_ _ _=>K (.fp (cs.drop (i*z))) s) (cs.drop (i*z))=_;rw[cI h]
def vp(h:bs[l]?=some b:=by rfl)(hl:b.st.live=true:=by rfl)(hd:b.cs[i]?=some d:=by rfl):eR (mem bs) (.ptr l i) K=K d (mem bs):=yS (by rw[mK];exact h) hl hd
def Ky{cs:fN}{s:LS}(hd:cs[i]?=some d):eR s (.fp (cs.drop i)) K=K d s:=by
 rw[pS hd];rfl
def z2P{cs:fN}{s:LS}(h:i+n<=cs.length):eW n s (.fp (cs.drop i)) K=K (.agg ((cs.drop i).take n)) s:=by
 show jP n (cs.drop i) (λr=>K (.agg r) s)=_;rw[i7,aF (by rw[bR];omega)]
def zZ(h:bs[l]?=some b:=by rfl)(hl:b.st.live=true:=by rfl)(hn:i+n<=b.cs.length:=by first|exact aV rfl|omega):eW n (mem bs) (.ptr l i) K=K (.agg ((b.cs.drop i).take n)) (mem bs):=by
 show iq (mem bs) l (λb=>cnd (lv b.st) (jJ i b.cs λr=>jP n r λr=>K (.agg r) (mem bs)) none)=_;rw[gV h,nQ,hl,fH,gZ,i7,aF (by rw[bR];omega)]
def sY{t:Rs}:∀{l:fN},l.all one=true->sP l t=t
 |[],_=>rfl
 |d::l,h=>by
  simp only[cH,aW]at h;show on1 d (sP l t)=t;rw[sY h.2];have:is1 d=true:=by cases d<;>first|rfl|(cases h.1;done)
  unfold on1;rw[this];rfl
def xF{x:D}{new cs':fN}(h:bs[l]?=some b:=by rfl)(hw:b.st=.rw:=by rfl)(hx:lA x=new:=by rfl)(hn:new.length=n:=by rfl)(h1:new.all one=true:=by rfl)(hl:lay i new b.cs=some cs':=by rfl):
 fA n (mem bs) (.ptr l i) x K=K .u (mem (bs.set l ⟨cs',.rw⟩)):=by
 show iq (mem bs) l (λb=>cnd (wr b.st) (vcK x λnew=>cnd (Nat.beq new.length n) (sP new (xU i new b.cs λcs=>oh (mem bs) l ⟨cs,.rw⟩ λs=>K .u s)) none) none)=_;rw[gV h,Bj,hw,show Stt.rw.wr=true from rfl,fH,zJ,hx,hn,show Nat.beq n n=true from dW n,fH,sY h1,qE,vo,hl];show oh _ _ _ _=_;rw[mD (fC h)]
def BI{bytes sz:Nat}{zero:fN}(hz:zero.length=sz:=by rfl)(h1:n<=140737488355328:=by omega)(h2:n*bytes<=140737488355328:=by omega):
 io sz bytes zero (mem bs) (.i .i64 (.ofNat n)) (.i .i64 (.ofNat n)) K=K (.sl bs.length 0 n n sz true) (mem (bs++[⟨mf n zero,.rw⟩])):=by
 unfold io;rw[qT];show cnd (Nat.ble n n) (cnd (Nat.ble n 140737488355328) (cnd (Nat.ble (Nat.mul n bytes) 140737488355328) (cnd (Nat.beq zero.length sz) (xt zero n λcs=>lh (mem bs) ⟨cs,.rw⟩ λs'=>K (.sl (mem bs).nx 0 n n sz true) s') none) none) none) none=_;rw[aD (aC n),aD h1,aD (show Nat.mul n bytes<=140737488355328 from h2),hz,show Nat.beq sz sz=true from dW sz];simp only[fH];rw[tK,kI,mP]
def vM{zero:fN}:ff zero (mem bs) K=K (.ptr bs.length 0) (mem (bs++[⟨zero,.rw⟩])):=by
 show lh (mem bs) ⟨zero,.rw⟩ (λs'=>K (.ptr (mem bs).nx 0) s')=_;rw[kI,mP]
def wg:D->Bool
 |.own .. =>false
 |.tup (.own .. ::_)=>false
 |_=>true
def Ui{s:LS}{r:D}(h:wg r=true):nD s [] r K=K r s:=by
 unfold nD;rw[lJ];cases wT r with
 |true=>rfl
 |false=>
  show Kr s r K=_;unfold Kr;split
  ·cases h
  ·cases h
  ·rfl
def fX{M:fP}{as:fN}{s:LS}{r:D}(h:M as=some r)(ha:∀kk,ma (jX s gJ) as kk=kk as []:=by intro kk;rfl)(hp:wg r=true:=by rfl):eY M as s K=K r s:=by
 unfold eY;rw[ha,h];exact Ui hp
def PL{M:fP}{as cs:fN}{s:LS}(h:M as=some (.own cs n z))(ha:∀kk,ma (jX s gJ) as kk=kk as []:=by intro kk;rfl):eY M as s K=K (.sl s.nx 0 n n z false) (s.push ⟨cs,.rw⟩):=by
 unfold eY;rw[ha,h];show lh s ⟨cs,.rw⟩ _=_;rw[lH]
end
end Go.Proofs.Ev
namespace Go.Proofs.Ev
noncomputable section
abbrev Q3:=Bool×Nat×Nat
def qD(q:Q3):fN:=[.b q.1,.n q.2.1,.n q.2.2]
def qs:List Q3->fN
 |[]=>[]
 |q::l=>.b q.1::.n q.2.1::.n q.2.2::qs l
def Mg:∀l:List Q3,(qs l).length=l.length*3
 |[]=>rfl
 |q::l=>by simp only[qs,ah,Mg l];omega
def DJ:∀(a b:List Q3),qs (a++b)=qs a++qs b
 |[],b=>rfl
 |q::a,b=>by simp only[d9,qs,DJ a b]
def JF:∀(l:List Q3)(i:Nat),(qs l).drop (i*3)=qs (l.drop i)
 |l,0=>by simp
 |[],i+1=>by simp[qs]
 |q::l,i+1=>by rw[show(i+1)*3=i*3+3 by omega];simp only[qs,zmY];exact JF l i
def JE:∀(l:List Q3)(i:Nat),(qs l).take (i*3)=qs (l.take i)
 |l,0=>by simp[qs]
 |[],i+1=>by simp[qs]
 |q::l,i+1=>by rw[show(i+1)*3=i*3+3 by omega];simp only[qs,cb];rw[JE l i]
def z0l{l:List Q3}{i:Nat}{q:Q3}(h:l[i]?=some q):((qs l).drop (i*3)).take 3=qD q:=by
 rw[JF,pS h];rfl
def TO{l:List Q3}{i:Nat}{q:Q3}(h:i<l.length):lay (i*3) (qD q) (qs l)=some (qs (l.set i q)):=by
 unfold lay;have:(qD q).length=3:=rfl;rw[aF (by rw[Mg,this];omega),dH,aF h,DJ,JE,this,show i*3+3=(i+1)*3 by omega,JF,aQ];rfl
def K8:∀n,mf n [.b false,.n 0,.n 0]=qs (List.replicate n (false,0,0))
 |0=>rfl
 |n+1=>by show[.b false,.n 0,.n 0]++mf n _=_;rw[K8 n];rfl
def O6:∀l:List Q3,(qs l).all oH=true
 |[]=>rfl
 |q::l=>by simp only[qs,cH,oH,O6 l,dM]
inductive AS (z:Nat) (bs:fQ):D->fN->Nat->Prop
 |nil:AS z bs gj [] 0
 |blk {l n:Nat} {cs:fN} (h:bs[l]?=some ⟨cs,.rw⟩) (hc:cs.length=n*z):AS z bs (.sl l 0 n n z false) cs n
variable {bs bs':fQ} {l n m z bytes:Nat} {cs new zero:fN} {x X y:D} {K:fK}
def rx(X:D)(l:Nat):Prop:=∀o n m z e,X≠.sl l o n m z e
def El{k:fN->Nat->Rs}{b:Blk}{off cm:Nat}{ex:Bool}(h:bs[l]?=some b)(hl:b.st.live=true)(hc:off+n*z<=b.cs.length):oI z (mem bs) (.sl l off n cm z ex) k=k ((b.cs.drop off).take (n*z)) n:=by
 show iq (mem bs) l (λb=>cnd (lv b.st) (cnd (Nat.beq z z) (jJ off b.cs λr=>jP (Nat.mul n z) r λr=>k r n) none) none)=_;rw[gV h,nQ,hl,fH,show Nat.beq z z=true from dW z,fH,gZ,i7,aF (by rw[bR];show n*z<=_;omega)];rfl
def Jn{k:fN->Nat->Rs}{s:LS}{ex:Bool}(hc:cs.length=n*z):oI z s (.tree cs n ex) k=k cs n:=by
 show cnd (Nat.beq cs.length (n*z)) (k cs n) none=_;rw[hc,show Nat.beq (n*z) (n*z)=true from dW _];rfl
def Vu(h:AS z bs X cs n)(hy:∀k:fN->Nat->Rs,oI z (mem bs) y k=k new m)(hm:new.length=m*z)(h1:new.all one=true)
 (hb:(n+m)*bytes<=1099511627776) (ht:n+m<=1099511627776):
 ∃bs' X',AS z bs' X' (cs++new) (n+m)/\(∀l b,rx X l->bs[l]?=some b->bs'[l]?=some b/\rx X' l)/\mc z bytes (mem bs) X y K=K X' (mem bs'):=by
 cases h with
 |nil=>
  by_cases h0:m=0
  ·subst h0;have:new=[]:=by cases new with|nil=>rfl|cons=>simp at hm
   subst this;refine⟨bs,_,AS.nil,λl b ho hg=>⟨hg,ho⟩,?_⟩;show oI z (mem bs) y _=_;rw[hy];rfl
  ·refine⟨bs++[⟨new,.rw⟩],.sl bs.length 0 m m z false,by rw[aN,cW];exact AS.blk fU hm,λl b ho hg=>⟨by rw[bF (fC hg)];exact hg,λo n m' z' e he=>?_⟩,?_⟩
   ·injection he with e1;have:=fC hg;omega
   ·show oI z (mem bs) y _=_;rw[hy];show cnd (Nat.beq m 0) _ (cnd true (cnd (Nat.beq 0 (Nat.mul 0 z)) (frc (Nat.add 0 m) λtot=>cnd (Nat.ble (Nat.mul tot bytes) 1099511627776) (cnd (Nat.ble tot 1099511627776) (pk [] new λcs=>lh (mem bs) ⟨cs,.rw⟩ λs'=>K (.sl (mem bs).nx 0 tot tot z false) s') none) none) none) none)=_;rw[ik h0,fq,fH,show Nat.mul 0 z=0 from bX z,show Nat.beq 0 0=true from rfl,fH,fj,show Nat.add 0 m=m from aN m,
     aD (show Nat.mul m bytes<=_ by have:=hb;rw[aN]at this;exact this),aD (show m<=_ by omega),fH,fH,jt,kI,mP];rfl
 | @blk l _ _ hg hc=>
  have hlt:=fC hg;by_cases h0:m=0
  ·subst h0;have:new=[]:=by cases new with|nil=>rfl|cons=>simp at hm
   subst this;refine⟨bs.set l ⟨cs,.rw⟩,.sl l 0 n n z false,by rw[bQ,bO];exact AS.blk (by rw[aH hlt]) hc,λl' b ho hg'=>⟨?_,ho⟩,?_⟩
   ·by_cases e:l=l'
    ·subst e;rw[aH hlt,<-hg,hg'];
    ·rw[bW e];exact hg'
   ·show oI z (mem bs) y _=_;rw[hy];show iq (mem bs) l _=_;rw[gV hg];show cnd true (cnd (Nat.beq z z) (sP [] (frc (Nat.add n 0) λtot=>cnd (Nat.ble (Nat.mul tot bytes) 1099511627776) (cnd (Nat.ble tot 1099511627776) (cnd (Nat.ble tot n) (xU (Nat.add 0 (Nat.mul n z)) [] cs λcs=>oh (mem bs) l ⟨cs,.rw⟩ λs=>K (.sl l 0 tot n z false) s) _) none) none)) none) none=_;rw[fH,show Nat.beq z z=true from dW z,fH,sY rfl,fj,show Nat.add n 0=n from rfl,
     aD (show Nat.mul n bytes<=_ from hb),aD (show n<=_ from ht),aD (aC n),fH,fH,fH,qE]
    have:A8 (Nat.add 0 (Nat.mul n z)) [] cs=some cs:=by
     unfold A8;rw[show Nat.add 0 (Nat.mul n z)=cs.length by rw[hc];exact aN _,aF fU];simp
    rw[this];show oh _ _ _ _=_;rw[mD hlt]
  ·refine⟨(bs.set l ⟨[],.gone⟩)++[⟨cs++new,.rw⟩],.sl bs.length 0 (n+m) (n+m) z false,AS.blk (by rw[aM fU];simp) (by rw[aq,hc,hm,aS]),λl' b ho hg'=>⟨?_,λo n m' z' e he=>?_⟩,?_⟩
   ·have hne:l≠l':=λe=>ho 0 n n z false (by rw[e]);have:=fC hg';rw[bF (by simpa using this),bW hne];exact hg'
   ·injection he with e1;have:=fC hg';omega
   ·show oI z (mem bs) y _=_;rw[hy];show iq (mem bs) l _=_;rw[gV hg];show cnd true (cnd (Nat.beq z z) (sP new (frc (Nat.add n m) λtot=>cnd (Nat.ble (Nat.mul tot bytes) 1099511627776) (cnd (Nat.ble tot 1099511627776) (cnd (Nat.ble tot n) _ (jJ 0 cs λr=>jP (Nat.mul n z) r λold=>pk old new λcs=>cnd false _ (oh (mem bs) l ⟨[],.gone⟩ λs'=>lh s' ⟨cs,.rw⟩ λs''=>K (.sl (mem bs).nx 0 tot tot z false) s''))) none) none)) none) none=_;rw[fH,show Nat.beq z z=true from dW z,fH,sY h1,fj,
     aD (show Nat.mul (Nat.add n m) bytes<=_ from hb),aD (show Nat.add n m<=_ from ht),il (show ¬Nat.add n m<=n by show ¬n+m<=n;omega),fH,fH,fq,gZ,a7,i7,
     aF (show Nat.mul n z<=cs.length by rw[hc];exact aC _),jt,fq,mD hlt,kI,mP,aP (show cs.length<=Nat.mul n z by rw[hc];exact aC _)];rfl
def B4{x:D}{new:fN}(hz:zero.length=z)(hx:lA x=new)(hn:new.length=z)(h1:new.all one=true):iO 1 zero [(0,z,x)] (mem bs) K=K (.sl bs.length 0 1 1 z true) (mem (bs++[⟨new,.rw⟩])):=by
 show xt zero 1 (λcs=>vcK x λnw=>cnd (Nat.beq nw.length z) (sP nw (xU 0 nw cs λcs=>frc zero.length λz=>lh (mem bs) ⟨cs,.rw⟩ λs'=>K (.sl (mem bs).nx 0 1 1 z true) s')) none)=_;have hz1:mf 1 zero=zero:=by show zero++[]=_;simp
 rw[tK,hz1,zJ,hx,hn,show Nat.beq z z=true from dW z,fH,sY h1,qE];have:A8 0 new zero=some new:=by
  unfold A8;rw[aF eP];simp[hn,hz]
 rw[this];rw[jY];rw[fj,kI,mP,hz]
def ap1{x:D}{new:fN}(h:AS z bs X cs n)(hz:zero.length=z)(hx:lA x=new)(hn:new.length=z)(h1:new.all one=true)(hb:(n+1)*bytes<=1099511627776)(ht:n+1<=1099511627776):
 ∃bs' X',AS z bs' X' (cs++new) (n+1)/\(∀l b,rx X l->bs[l]?=some b->bs'[l]?=some b/\rx X' l)/\iO 1 zero [(0,z,x)] (mem bs) (λy s=>mc z bytes s X y K)=K X' (mem bs'):=by
 have h':AS z (bs++[⟨new,.rw⟩]) X cs n:=by
  cases h with
  |nil=>exact AS.nil
  |blk hg hc=>exact AS.blk (by rw[bF (fC hg)];exact hg) hc
 obtain⟨bs',X',hA,hk,he⟩:=Vu (K:=K) (y:=.sl bs.length 0 1 1 z true) (new:=new) (m:=1) (bytes:=bytes) h' (λk=>by
  rw[El (b:=⟨new,.rw⟩) fU rfl (by show 0+1*z<=new.length;omega)];show k ((new.drop 0).take (1*z)) 1=_;rw[a7,aP eP]) eP h1 hb ht
 refine⟨bs',X',hA,λl b ho hg=>hk l b ho (by rw[bF (fC hg)];exact hg),?_⟩;rw[B4 hz hx hn h1,he]
def Dis(X O:D):Prop:=∀l o n m z e,X=.sl l o n m z e->rx O l
inductive WS (z:Nat) (bs:fQ):D->fN->Nat->Prop
 |nil {ex:Bool}:WS z bs (.tree [] 0 ex) [] 0
 |blk {l n cm:Nat} {ex:Bool} {cs:fN} (h:bs[l]?=some ⟨cs,.rw⟩) (hc:cs.length=n*z) (hm:n<=cm):WS z bs (.sl l 0 n cm z ex) cs n
def AS.ws{z n:Nat}{bs:fQ}{X:D}{cs:fN}(h:AS z bs X cs n):WS z bs X cs n:=by
 cases h with
 |nil=>exact WS.nil
 |blk h hc=>exact WS.blk h hc (aC _)
def zH{z n:Nat}{bs:fQ}{X:D}{cs:fN}(hA:WS z bs X cs n):cs.length=n*z:=by
 cases hA with
 |nil=>simp
 |blk _ h _=>exact h
end
end Go.Proofs.Ev
namespace Go.Proofs.Ev
noncomputable section
def vl(B:Nat):eZ->Nat
 |[]=>0
 |w::ws=>w+B*vl B ws
def Sm(B:Nat)(ws:eZ):Prop:=∀w,w∈ws->w<B
def Tm(ws:eZ):Prop:=∀w,ws.getLast?=some w->w≠0
section
variable {B:Nat}
def Ct:∀(a b:eZ),vl B (a++b)=vl B a+B^a.length*vl B b
 |[],b=>by simp[vl]
 |w::a,b=>by
  show w+B*vl B (a++b)=w+B*vl B a+B^(a.length+1)*vl B b;rw[Ct a b,bK,bI,aL (B^a.length) B,aa];omega
def HS:∀{ws:eZ},Sm B ws->vl B ws<B^ws.length
 |[],_=>by simp[vl]
 |w::ws,h=>by
  have h1:w<B:=h w fU;have h2:=HS (λx hx=>h x (by simp[hx]):Sm B ws);show w+B*vl B ws<B^(ws.length+1);rw[bI,aL (B^ws.length)];have h3:B*(vl B ws+1)<=B*B^ws.length:=ae _ h2;rw[bK]at h3;omega
def Ii:∀n,vl B (List.replicate n 0)=0
 |0=>rfl
 |n+1=>by show 0+B*vl B (List.replicate n 0)=0;rw[Ii n];simp
def zI:∀{ws:eZ}{i w:Nat}(y:Nat),ws[i]?=some w->vl B (ws.set i y)+w*B^i=vl B ws+y*B^i
 |[],i,w,y,h=>by simp at h
 |x::ws,0,w,y,h=>by
  have:x=w:=by simpa using h
  subst this;show y+B*vl B ws+x*B^0=x+B*vl B ws+y*B^0;simp;omega
 |x::ws,i+1,w,y,h=>by
  have ih:=zI (ws:=ws) (i:=i) y (by simpa using h);show x+B*vl B (ws.set i y)+w*B^(i+1)=x+B*vl B ws+y*B^(i+1);rw[bI,<-aa,<-aa,aL _ B,aL _ B];have e1:B*(vl B (ws.set i y)+w*B^i)=B*(vl B ws+y*B^i):=by rw[ih]
  rw[bK,bK]at e1;omega
def vS{ws:eZ}{i w:Nat}(h:Sm B ws)(hw:w<B):Sm B (ws.set i w):=λx hx=>by
 rcases c9 hx with h1|h1
 ·exact h x h1
 ·rw[h1];exact hw
def z01{w:Nat}(h:w<B):Sm B [w]:=λx hx=>by simp at hx;omega
def MY{n:Nat}(h:0<B):Sm B (List.replicate n 0):=λx hx=>by
 have:=cG hx;omega
def Bq{ws:eZ}{n:Nat}(h:Sm B ws):Sm B (ws.take n):=λx hx=>h x (bH hx)
def S3{ws:eZ}(h:Tm ws)(hne:ws≠[]):B^(ws.length-1)<=vl B ws:=by
 obtain⟨a,w,rfl⟩:∃a w,ws=a++[w]:=⟨ws.dropLast,ws.getLast hne,(zn1 hne).symm⟩
 have hw:w≠0:=h w fU;rw[Ct];show _<=vl B a+B^a.length*(w+B*0);rw[aq];show B^(a.length+1-1)<=_;have:B^a.length*1<=B^a.length*w:=ae _ eP;rw[au,dU,bO];omega
end
def Iz{bs:fQ}{l n cm z:Nat}{ex:Bool}{cs:fN}(h:bs[l]?=some ⟨cs,.rw⟩)(hf:cs.all oH=true)(hn:n*z<=cs.length):
 fO true (mem bs) (.sl l 0 n cm z ex) some=some (.own (cs.take (n*z)) n z):=by
 unfold fO;rw[lJ];show sk (lf true (mem bs).get gJ (.sl l 0 n cm z ex)) some=_;have z6f:cut 0 (n*z) cs=some (cs.take (n*z)):=by
  unfold cut;rw[a7,aF (by rw[aR];omega)]
 have hm:i8 (res (mem bs).get gJ) (cs.take (n*z))=some (cs.take (n*z),[]):=mG (k:=59) _ (by
  rw[cp]at hf ⊢;exact λx hx=>hf x (bH hx))
 have:lf true (mem bs).get gJ (.sl l 0 n cm z ex)=some (.own (cs.take (n*z)) n z):=by
  simp only[lf,vL,mK,h,Stt.wr,bf,z6f,hm];rfl
 rw[this,gc];rfl
def AK{s:LS}{own:Bool}:fO own s gj some=some gj:=by cases own<;>rfl
def z2N{kk:IntKind}{a b:Int}{s:LS}{K:fK}:kS (.max (.c (.i kk a)) (.c (.i kk b))) s K=K (.i kk (if b>a then b else a)) s:=by
 have he:evA s.nx cv s.get (.max (.c (.i kk a)) (.c (.i kk b)))=some (.i kk (if b>a then b else a),[]):=by
  simp only[evA,cv,bf]
 unfold kS sA;rw[he];show wR _ _=_;rw[mq]
def CU{kk:IntKind}{a b:Nat}{s:LS}{K:fK}:kS (.max (.c (.i kk (.ofNat a))) (.c (.i kk (.ofNat b)))) s K=K (.i kk (.ofNat (max a b))) s:=by
 rw[z2N];by_cases h:b>a
 ·rw[aF (by show(a:Int)<b;omega),Nat.max_eq_right eP]
 ·rw[aG (by show ¬(a:Int)<b;omega),Nat.max_eq_left eP]
def LC{a b:Nat}{k:D->Rs}(h:¬b<=a)(hb:b<4611686018427387904):fe (.i .i64 (.ofNat a)) (.i .i64 (.ofNat b)) k=k (.i .i64 (.negSucc (b-a-1))):=by
 obtain⟨c,hc⟩:∃c,b=a+1+c:=⟨b-a-1,eP⟩
 rw[show b-a-1=c by omega];unfold fe;rw[qT,il h,fq,show Nat.beq (wM .i64) 0=true from rfl,fH];unfold gN;rw[show bin .sub (.i .i64 (.ofNat a)) (.i .i64 (.ofNat b))=some (.i .i64 (.negSucc c))from ?_,gc]
 ·rfl
 ·show some (D.i .i64 (IntKind.wrap .i64 ((Int.ofNat a)-(Int.ofNat b))))=_;have:(Int.ofNat a)-(Int.ofNat b)=.negSucc c:=by
   show(a:Int)-(b:Int)=.negSucc c;rw[zn2];omega
  have hw:IntKind.wrap .i64 (.negSucc c)=.negSucc c:=IntWalk.i64_in _ (by rw[zn2];omega);rw[this,hw]
def IG{c b:Nat}{k:D->Rs}:mb (.i .i64 (.negSucc c)) (.i .i64 (.ofNat b)) k=k (.b false):=by
 show gN .geq (.i .i64 (.negSucc c)) (.i .i64 (.ofNat b)) k=_;unfold gN;rw[gc];show k (.b (decide (Int.ofNat b<=Int.negSucc c)))=_;rw[aU (by show ¬(b:Int)<=_;rw[zn2];omega)]
section
variable {a b:Nat} {k:D->Rs} {s:LS} {K:fK} {w:Bool} {op:fK->Rs} {l:fN}
def sj{α:Type}{B:α}{A:α->Rs}:jn B A=A B:=rfl
def gG:eU (.b true) true op s K=op K:=rfl
def iX:eU (.b false) false op s K=op K:=rfl
def qV:eU (.b true) false op s K=K (.tup []) s:=rfl
def gx:eU (.b false) true op s K=K (.tup []) s:=rfl
def J5:eU (.tup l) w op s K=K (.tup []) s:=rfl
def gA(h:a+b<9223372036854775808:=by omega):f7 (.i .i64 (.ofNat a)) (.i .i64 (.ofNat b)) k=k (.i .i64 (.ofNat (a+b))):=kW (bL h)
def iJ(hb:b<=a:=by omega)(h:a<9223372036854775808:=by omega):fe (.i .i64 (.ofNat a)) (.i .i64 (.ofNat b)) k=k (.i .i64 (.ofNat (a-b))):=mQ hb (bL h)
def xO(h:a*b<9223372036854775808:=by omega):jZ (.i .i64 (.ofNat a)) (.i .i64 (.ofNat b)) k=k (.i .i64 (.ofNat (a*b))):=wO (bL h)
def Yq(hb:b≠0:=by omega)(h:a<9223372036854775808:=by omega):xW (.i .i64 (.ofNat a)) (.i .i64 (.ofNat b)) k=k (.i .i64 (.ofNat (a/b))):=GB hb (bL h)
def Ly(h:a+b<18446744073709551616:=by omega):f7 (.i .u64 (.ofNat a)) (.i .u64 (.ofNat b)) k=k (.i .u64 (.ofNat (a+b))):=kW (bL h)
def HZ(hb:b<=a:=by omega)(h:a<18446744073709551616:=by omega):fe (.i .u64 (.ofNat a)) (.i .u64 (.ofNat b)) k=k (.i .u64 (.ofNat (a-b))):=mQ hb (bL h)
def On(h:a*b<18446744073709551616:=by omega):jZ (.i .u64 (.ofNat a)) (.i .u64 (.ofNat b)) k=k (.i .u64 (.ofNat (a*b))):=wO (bL h)
def TN(hb:b≠0:=by omega)(h:a<18446744073709551616:=by omega):xW (.i .u64 (.ofNat a)) (.i .u64 (.ofNat b)) k=k (.i .u64 (.ofNat (a/b))):=GB hb (bL h)
def z3A(ha:a<18446744073709551616:=by omega)(hb:b<18446744073709551616:=by omega):vY (.i .u64 (.ofNat a)) (.i .u64 (.ofNat b)) k=k (.i .u64 (.ofNat (a&&&b))):=by
 unfold vY inK;rw[qT,aD (show a<=i9 .u64 from bL ha),aD (show b<=i9 .u64 from bL hb),fH,fH,fj];rfl
def Yx(ha:a<18446744073709551616:=by omega):vY (.i .u64 (.ofNat a)) (.i .u64 (.ofNat 4294967295)) k=k (.i .u64 (.ofNat (a%4294967296))):=by
 rw[z3A ha];rw[show a&&&4294967295=a%4294967296 from zmQ a 32]
def Sh:pP (.i .u64 (.ofNat a)) (.i .u64 (.ofNat 32)) k=k (.i .u64 (.ofNat (a/4294967296))):=wi eP
def gX(h:a<b:=by omega){kk:IntKind}:gD (.i kk (.ofNat a)) (.i kk (.ofNat b)) k=k (.b true):=by rw[jp,fk h]
def gP(h:¬a<b:=by omega){kk:IntKind}:gD (.i kk (.ofNat a)) (.i kk (.ofNat b)) k=k (.b false):=by rw[jp,fw h]
def oG(h:b<a:=by omega){kk:IntKind}:kH (.i kk (.ofNat a)) (.i kk (.ofNat b)) k=k (.b true):=by rw[qF,fk h]
def qw(h:¬b<a:=by omega){kk:IntKind}:kH (.i kk (.ofNat a)) (.i kk (.ofNat b)) k=k (.b false):=by rw[qF,fw h]
def uS(h:b<=a:=by omega){kk:IntKind}:mb (.i kk (.ofNat a)) (.i kk (.ofNat b)) k=k (.b true):=by rw[DW,aD h]
def GO(h:¬b<=a:=by omega){kk:IntKind}:mb (.i kk (.ofNat a)) (.i kk (.ofNat b)) k=k (.b false):=by rw[DW,il h]
def oW(h:a=b:=by omega){kk:IntKind}:iR (.i kk (.ofNat a)) (.i kk (.ofNat b)) k=k (.b true):=by rw[qG,h,gE]
def mJ(h:a≠b:=by omega){kk:IntKind}:iR (.i kk (.ofNat a)) (.i kk (.ofNat b)) k=k (.b false):=by rw[qG,ik h]
def Hv(h:a≠b:=by omega){kk:IntKind}:sG (.i kk (.ofNat a)) (.i kk (.ofNat b)) k=k (.b true):=by rw[GH,ik h];rfl
def Fb(h:a=b:=by omega){kk:IntKind}:sG (.i kk (.ofNat a)) (.i kk (.ofNat b)) k=k (.b false):=by rw[GH,h,gE];rfl
end
def NH{s:LS}{j:Nat}{kk:fN->eZ->Rs}:∀ws:eZ,ma (jX s (j+1)) (c64 ws) kk=kk (c64 ws) []
 |[]=>rfl
 |w::ws=>by
  show(ma (jX s (j+1)) (c64 ws) λys b=>pk [] b λab=>kk (n64 w::ys) ab)=_;rw[NH ws];rfl
def Xh{M:fP}{X r:D}{bs:fQ}{ws:eZ}{n:Nat}{K:fK}(hA:WS 1 bs X (c64 ws) n)(h:∀ex,M [.tree (c64 ws) n ex]=some r)(hf:wT r=true):eY M [X] (mem bs) K=K r (mem bs):=by
 have key:∀(ex:Bool)(ls:eZ),(ob (M [.tree (c64 ws) n ex]) λr=>nD (mem bs) ls r K)=K r (mem bs):=by
  intro ex ls;rw[h,jY];unfold nD;rw[lJ,hf];rfl
 unfold eY;generalize hcs:c64 ws=cs at hA;cases hA with
 | @nil ex=>rw[<-key ex []];rw[hcs];rfl
 | @blk l _ cm ex _ hg hc hm=>
  subst hcs;show(iq (mem bs) l λb=>cnd (lv b.st) (jJ 0 b.cs λr=>jP (Nat.mul n 1) r λr=>ma (jX (mem bs) 59) r λcs ls=>nM (cnd ex (Nat.beq cm n) false) λex=>pk (l::ls) [] λab=>ob (M [.tree cs n ex]) λr=>nD (mem bs) ab r K) none)=_;rw[gV hg];show(jJ 0 (c64 ws) λr=>jP (Nat.mul n 1) r λr=>ma (jX (mem bs) 59) r λcs ls=>nM (cnd ex (Nat.beq cm n) false) λex=>pk (l::ls) [] λab=>ob (M [.tree cs n ex]) λr=>nD (mem bs) ab r K)=_;rw[gZ,a7,i7,aF (by rw[hc];exact aC _),aP (by rw[hc];exact aC _),NH,iz,jt];exact key _ _
def Yj{X:D}{bs:fQ}{ws:eZ}{n i w:Nat}{K:fK}{kk:IntKind}(hA:WS 1 bs X (c64 ws) n)(hw:ws[i]?=some w):(eT 1 (mem bs) X (.i kk (.ofNat i)) λa s=>eR s a K)=K (n64 w) (mem bs):=by
 have hc:=zH hA;rw[jO]at hc;have hi:=fC hw;generalize hcs:c64 ws=cs at hA;cases hA with
 |nil=>simp at hc;subst hc;simp at hw
 |blk hg hc' hm=>
  subst hcs;refine th (DY hg rfl eP) ?_;rw[aN,a9];exact vp hg rfl (pA hw)
def SN{X:D}{bs:fQ}{ws:eZ}{n i w:Nat}{K:fK}{kk:IntKind}(hA:WS 1 bs X (c64 ws) n)(hi:i<n):
 ∃bs',WS 1 bs' X (c64 (ws.set i w)) n/\(∀l b,rx X l->bs[l]?=some b->bs'[l]?=some b/\rx X l)/\(∀Y z cs m,WS z bs Y cs m->Dis Y X->WS z bs' Y cs m)/\(eT 1 (mem bs) X (.i kk (.ofNat i)) λa s=>fA 1 s a (n64 w) K)=K .u (mem bs'):=by
 have hc:=zH hA;rw[jO]at hc;generalize hcs:c64 ws=cs at hA;cases hA with
 |nil=>omega
 | @blk l _ cm ex _ hg hc' hm=>
  subst hcs;have hlt:=fC hg;have hl:lay i (c64 [w]) (c64 ws)=some (c64 (ws.set i w)):=by
   rw[<-vo,show c64 [w]=[D.i .u64 (.ofNat w)]from rfl,CY (by rw[jO];omega),y5]
  have hk:∀l' b,rx (.sl l 0 n cm 1 ex) l'->bs[l']?=some b->(bs.set l ⟨c64 (ws.set i w),.rw⟩)[l']?=some b:=λl' b ho hg'=>by
   rw[bW (λe=>ho 0 n cm 1 ex (by rw[e]))];exact hg'
  refine⟨bs.set l ⟨c64 (ws.set i w),.rw⟩,WS.blk (by rw[aH hlt]) (by rw[jO,a8];omega) hm,λl' b ho hg'=>⟨hk l' b ho hg',ho⟩,λY z cs m hY hd=>?_,?_⟩
  ·cases hY with
   |nil=>exact WS.nil
   |blk h hc hm=>exact WS.blk (hk _ _ (hd _ _ _ _ _ _ rfl) h) hc hm
  ·refine th (DY hg rfl hi) ?_;rw[aN,a9];exact xF hg rfl (hx:=rfl) (hn:=rfl) (h1:=rfl) (hl:=hl)
def dgt(ws:eZ)(i:Nat):Nat:=ws.getD i 0
def oj{B:Nat}{ws:eZ}(h:Sm B ws)(hB:0<B)(i:Nat):dgt ws i<B:=by
 unfold dgt;rw[aB];cases hw:ws[i]?with
 |none=>exact hB
 |some w=>exact h w (bS hw)
def xu{B:Nat}(ws:eZ)(i:Nat):vl B (ws.drop i)=dgt ws i+B*vl B (ws.drop (i+1)):=by
 by_cases h:i<ws.length
 ·rw[cI h];unfold dgt;rw[aB,aE h];rfl
 ·rw[dK eP,dK eP];unfold dgt;rw[aB,ai eP];simp[vl]
def UH{b:Bool}{s:LS}{K:fK}:GG (.b b) s K=K (.b (!b)) s:=by cases b<;>rfl
def sz1(x:Nat)(k:Rs):Rs:=cnd (Nat.ble (Nat.log2 x) 1000000000) k none
def two(as:fN)(k:Nat->Nat->Rs):Rs:=u1 as λa r=>u1 r λb r=>u0 r (po a λx=>po b λy=>sz1 x (sz1 y (k x y)))
def mw(φ:Nat)(e:wW)(c d b:D)(s:LS):Rs:=(
 mb b fB λf=>
 fE f
(eT 1 s c b λg s=>
 eR s g λh s=>
 eT 1 s d b λi s=>
 eR s i λk s=>
 sG h k λl=>
 fE l
(eT 1 s c b λm s=>
 eR s m λn s=>
 eT 1 s d b λo s=>
 eR s o λp s=>
 gD n p λu=>
 fE u
(fO false s lC some)
(fO false s ej some))
(fe b ej λv=>
 e c d v s))
(fO false s fB some))
def vP(φ:Nat):fP:=
 λas=>
(λ(s:LS)=>
 u1 as λb d=>
 u1 d λc e=>
 u0 e (
 fT b s λf s=>
 fT c s λg s=>
 sG f g λh=>
 fE h
(fT b s λi s=>
 fT c s λk s=>
 gD i k λl=>
 fE l
(fO false s lC some)
(fO false s ej some))
(fT b s λm s=>
 fe m ej λn=>
 lp vN (mw φ) φ b c n s))) s0
def xi:iU=vP:=rfl
def rL(φ:Nat)(n:kT)(y:EK)(g h o p e l u m f:D)(s:LS):Rs:=(
 mb f (.i .u64 (.ofNat 4294967296)) λc=>
 eU c false (λk=>k f s) s λz s=>
 eU c false (λk=>k p s) s λA s=>
 eU c false (λk=>jZ z A λd=>k d s) s λB s=>
 eU c false (λk=>k u s) s λC s=>
 eU c false (λk=>jZ (.i .u64 (.ofNat 4294967296)) C λd=>k d s) s λE s=>
 eU c false (λk=>k e s) s λF s=>
 eU c false (λk=>f7 E F λd=>k d s) s λG s=>
 eU c false (λk=>kH B G λd=>k d s) s λH s=>
 iB c (.b true) H s λI s=>
 fE I
(fe f (.i .u64 (.ofNat 1)) λv=>
 f7 u o λw=>
 mb w (.i .u64 (.ofNat 4294967296)) λJ=>
 fE J
(n g h e l m v s)
(y g h o p e l w m v s))
(n g h e l m f s))
def rK(φ:Nat)(p:yx)(y:EK)(l m e f n g o h u:D)(s:LS):Rs:=(
 mb h (.i .u64 (.ofNat 4294967296)) λc=>
 eU c false (λk=>k h s) s λz s=>
 eU c false (λk=>k f s) s λA s=>
 eU c false (λk=>jZ z A λd=>k d s) s λB s=>
 eU c false (λk=>k u s) s λC s=>
 eU c false (λk=>jZ (.i .u64 (.ofNat 4294967296)) C λd=>k d s) s λE s=>
 eU c false (λk=>k g s) s λF s=>
 eU c false (λk=>f7 E F λd=>k d s) s λG s=>
 eU c false (λk=>kH B G λd=>k d s) s λH s=>
 iB c (.b true) H s λI s=>
 fE I
(fe h (.i .u64 (.ofNat 1)) λv=>
 f7 u e λw=>
 mb w (.i .u64 (.ofNat 4294967296)) λJ=>
 fE J
(p l m e f n g o v s)
(y l m e f n g o v w s))
(p l m e f n g o h s))
def wo(φ:Nat):fP:=
 λas=>
(λ(s:LS)=>
 u1 as λB C=>
 u1 C λE F=>
 u1 F λl G=>
 u0 G (
 jn (λ(m H n:D)(s:LS)=>
 jn (λ(o c d:D)(s:LS)=>
 iR o (.i .u64 (.ofNat 0)) λI=>
 fE I
(xW c d λJ=>
 vX c d λK=>
 fO false s (.tup [J,K]) some)
(eY (gU φ) [d] s λM s=>
 kV .u64 M s λb s=>
 BQ d b λe=>
 pP e (.i .u64 (.ofNat 32)) λf=>
 vY e (.i .u64 (.ofNat 4294967295)) λN=>
 BQ o b λO=>
 fe (.i .u64 (.ofNat 64)) b λP=>
 pP c P λS=>
 kOr O S λg=>
 BQ c b λp=>
 pP p (.i .u64 (.ofNat 32)) λU=>
 vY p (.i .u64 (.ofNat 4294967295)) λV=>
 xW g f λv=>
 jZ v f λW=>
 fe g W λX=>
 jn (λ(w Y h Z bb bc bd y:D)(s:LS)=>
 jZ bb (.i .u64 (.ofNat 4294967296)) λbf=>
 f7 bf bc λbg=>
 jZ y w λbh=>
 fe bg bh λk=>
 xW k h λz=>
 jZ z h λbi=>
 fe k bi λbk=>
 jn (λ(bl bm bn bo bp A:D)(s:LS)=>
 jZ bo (.i .u64 (.ofNat 4294967296)) λbu=>
 f7 bu A λbv=>
 jZ bp (.i .u64 (.ofNat 4294967296)) λbw=>
 f7 bw bn λbz=>
 jZ A bl λbA=>
 fe bz bA λbB=>
 pP bB bm λbC=>
 fO false s (.tup [bv,bC]) some) λbE=>
 lp tR (rL φ bE) φ w Y h Z bd y bk k z s) λbF=>
 lp tR (rK φ bF) φ e b f N g U V v X s)) λbG=>
 wQ n m λbH=>
 fE bH
(eR s .u λbK s=>
 none)
(bG m H n s)) λbI=>
 iR l (.i .u64 (.ofNat 0)) λbJ=>
 fE bJ
(eR s .u λbM s=>
 none)
(bI B E l s))) s0
def zq:iC=wo:=rfl
def jE(φ:Nat)(k:jo)(d c e f b:D)(s:LS):Rs:=(
 gD b f λl=>
 fE l
(jn (λ(m n o p u:D)(s:LS)=>
 f7 u ej λv=>
 k m n o p v s) λg=>
 eT 1 s e b λw s=>
 eR s w λh s=>
 eT 1 s c b λy s=>
 eR s y λz s=>
 BQ h d λA=>
 kOr z A λB=>
 eT 1 s c b λC s=>
 fA 1 s C B λ_ s=>
 kH d fB λE=>
 fE E
(f7 b ej λF=>
 fe (.i .i64 (.ofNat 64)) d λG=>
 pP h G λH=>
 eT 1 s c F λI s=>
 fA 1 s I H λ_ s=>
 g d c e f b s)
(g d c e f b s))
(fO true s c some))
def yy(φ:Nat):fP:=
 λas=>
(λ(s:LS)=>
 u1 as λb d=>
 u1 d λe f=>
 u0 f (
 fT b s λg s=>
 f7 g ej λc=>
 io 1 8 [(.i .u64 (.ofNat 0))] s c c λh s=>
 fT b s λk s=>
 lp gQ (jE φ) φ e h b k fB s)) s0
def Bc:jk=yy:=rfl
def qX(φ:Nat)(kk:fK)(l:ov)(b e d f g h c:D)(s:LS):Rs:=(
 gD c h λm=>
 fE m
(eT 1 s b c λn s=>
 eR s n λo s=>
 eT 1 s e c λp s=>
 eR s p λu s=>
 oi o u g s λk s=>
 gB k 0 s λv s=>
 gB k 1 s λw s=>
 eT 1 s b c λy s=>
 fA 1 s y v λ_ s=>
 f7 c ej λz=>
 l b e d f w h z s)
(eT 1 s b d λA s=>
 eR s A λB s=>
 f7 B g λC=>
 eT 1 s b d λE s=>
 fA 1 s E C λ_ s=>
 fe f (.i .u64 (.ofNat 1)) λF=>
 kk F s))
def jK(φ:Nat)(kk:fK)(p:yx)(b f c e g h k d:D)(s:LS):Rs:=(
 gD d k λu=>
 fE u
(eT 1 s f d λv s=>
 eR s v λw s=>
 eY ta [e,w] s λl s=>
 gB l 0 s λy s=>
 gB l 1 s λz s=>
 oi z h (.i .u64 (.ofNat 0)) s λm s=>
 gB m 0 s λA s=>
 gB m 1 s λB s=>
 f7 y B λC=>
 eT 1 s b d λE s=>
 eR s E λF s=>
 u7 F A g s λn s=>
 gB n 0 s λG s=>
 gB n 1 s λH s=>
 eT 1 s b d λI s=>
 fA 1 s I G λ_ s=>
 f7 d ej λJ=>
 p b f c e H C k J s)
(eT 1 s b c λK s=>
 eR s K λM s=>
 u7 M h g s λo s=>
 gB o 0 s λN s=>
 gB o 1 s λO s=>
 eT 1 s b c λP s=>
 fA 1 s P N λ_ s=>
 iR O (.i .u64 (.ofNat 0)) λS=>
 fE S
(kk e s)
(lp lK (qX φ kk) φ b f c e (.i .u64 (.ofNat 0)) c fB s)))
def jj(φ:Nat)(n:mu)(v:kT)(h g e l m w:D)(s:LS):Rs:=(
 iR w (.i .u64 (.ofNat 0)) λy=>
 fE y
(fe e pU λz=>
 eT 1 s g z λA s=>
 eR s A λB s=>
 eY ta [l,B] s λo s=>
 gB o 0 s λp s=>
 gB o 1 s λC s=>
 gD p m λf=>
 eU f false (λk=>k p s) s λE s=>
 eU f false (λk=>k m s) s λF s=>
 eU f false (λk=>iR E F λd=>k d s) s λG s=>
 eU f false (λk=>k G s) s λc s=>
 eU c true (λk=>k C s) s λH s=>
 eU c true (λk=>k h s) s λI s=>
 eU c true (λk=>k e s) s λJ s=>
 eU c true (λk=>fe J pU λd=>k d s) s λK s=>
 eU c true (λk=>eT 1 s I K k) s λM s=>
 eU c true (λk=>eR s M k) s λN s=>
 eU c true (λk=>wQ H N λd=>k d s) s λO s=>
 eU f false (λk=>iB c O (.b false) s k) s λP s=>
 iB f (.b true) P s λS s=>
 fE S
(n h g e l s)
(fe l (.i .u64 (.ofNat 1)) λU=>
 fe e ej λV=>
 eT 1 s g V λW s=>
 eR s W λX s=>
 oi m X (.i .u64 (.ofNat 0)) s λu s=>
 gB u 0 s λY s=>
 gB u 1 s λZ s=>
 v h g e U Y Z s))
(n h g e l s))
def Cn(φ:Nat):fN->LS->fK->Rs:=
 λas s kk=>
 u1 as λc k=>
 u1 k λd l=>
 u0 l (
 fT d s λb s=>
 jn (λ(m n o p u v:D)(s:LS)=>
 jn (λ(w y e z:D)(s:LS)=>
 lp pu (jK φ kk) φ w y e z (.i .u64 (.ofNat 0)) (.i .u64 (.ofNat 0)) e fB s) λA=>
 lp iH (jj φ A) φ m n o p u v s) λf=>
 eT 1 s c b λB s=>
 eR s B λC s=>
 fe b ej λE=>
 eT 1 s d E λF s=>
 eR s F λG s=>
 mb C G λH=>
 fE H
(fe b ej λI=>
 eT 1 s c I λJ s=>
 eR s J λK s=>
 fe b ej λM=>
 eT 1 s d M λN s=>
 eR s N λO s=>
 oi K O (.i .u64 (.ofNat 0)) s λg s=>
 gB g 0 s λP s=>
 gB g 1 s λS s=>
 f c d b (.i .u64 (.ofNat 18446744073709551615)) P S s)
(eT 1 s c b λU s=>
 eR s U λV s=>
 fe b ej λW=>
 eT 1 s c W λX s=>
 eR s X λY s=>
 fe b ej λZ=>
 eT 1 s d Z λbb s=>
 eR s bb λbc s=>
 eY (iC φ) [V,Y,bc] s λh s=>
 gB h 0 s λbd s=>
 gB h 1 s λbf s=>
 f c d b bd bf (.i .u64 (.ofNat 0)) s))
def EU:nP=Cn:=rfl
def kB(φ:Nat)(h:jo)(d e c f b:D)(s:LS):Rs:=(
 mb b fB λk=>
 fE k
(eT 1 s d b λl s=>
 eR s l λm s=>
 eT 1 s e fB λn s=>
 eR s n λo s=>
 eY (iC φ) [f,m,o] s λg s=>
 gB g 0 s λp s=>
 gB g 1 s λu s=>
 eT 1 s c b λv s=>
 fA 1 s v p λ_ s=>
 fe b ej λw=>
 h d e c u w s)
((fv φ) [c] s λy s=>
 iO 1 [(.i .u64 (.ofNat 0))] [(0,1,f)] s λz s=>
(fv φ) [z] s λA s=>
 fO false s (.tup [y,A]) some))
def lQ(φ:Nat)(o:kT)(g c h l m e:D)(s:LS):Rs:=(
 gD e m λp=>
 fE p
(jn (λ(u v w y z A:D)(s:LS)=>
 f7 A ej λB=>
 o u v w y z B s) λn=>
 eT 1 s c e λC s=>
 eR s C λE s=>
 pP E g λF=>
 eT 1 s c e λG s=>
 fA 1 s G F λ_ s=>
 kH g fB λf=>
 eU f true (λk=>k e s) s λH s=>
 eU f true (λk=>f7 H ej λd=>k d s) s λI s=>
 eU f true (λk=>k c s) s λJ s=>
 eU f true (λk=>fT J s k) s λK s=>
 eU f true (λk=>gD I K λd=>k d s) s λM s=>
 iB f M (.b false) s λN s=>
 fE N
(eT 1 s c e λO s=>
 eR s O λP s=>
 f7 e ej λS=>
 eT 1 s c S λU s=>
 eR s U λV s=>
 fe (.i .i64 (.ofNat 64)) g λW=>
 BQ V W λX=>
 kOr P X λY=>
 eT 1 s c e λZ s=>
 fA 1 s Z Y λ_ s=>
 n g c h l m e s)
(n g c h l m e s))
(eY (xf (fv φ)) [l] s λbb s=>
 iT 1 s c none (some h) none λbc s=>
(fv φ) [bc] s λbd s=>
 fO false s (.tup [bb,bd]) some))
def oX(φ:Nat)(h:kT)(f g d c e b:D)(s:LS):Rs:=(
 mb b fB λi=>
 fE i
(f7 b c λk=>
 f7 k ej λl=>
 iT 1 s d (some b) (some l) none λm s=>
(nP φ) [m,g] s λn s=>
 eT 1 s e b λo s=>
 fA 1 s o n λ_ s=>
 fe b ej λp=>
 h f g d c e p s)
(lp iH (lQ φ) φ f d c e c fB s))
def zw(φ:Nat):fP:=
 λas=>
(λ(s:LS)=>
 u1 as λb k=>
 u1 k λc l=>
 u0 l (
 eY (iU φ) [b,c] s λm s=>
 gD m fB λn=>
 fE n
(fO false s (.tup [gj,b]) some)
(fT c s λo s=>
 iR o ej λp=>
 fE p
(fT b s λf s=>
 io 1 8 [(.i .u64 (.ofNat 0))] s f f λu s=>
 fT b s λv s=>
 fe v ej λw=>
 lp gQ (kB φ) φ b c u (.i .u64 (.ofNat 0)) w s)
(fT c s λy s=>
 fe y ej λz=>
 eT 1 s c z λA s=>
 eR s A λB s=>
 eY (gU φ) [B] s λd s=>
 eY (jk φ) [c,d] s λC s=>
(fv φ) [C] s λg s=>
 eY (jk φ) [b,d] s λE s=>
 fT g s λe s=>
 fT b s λF s=>
 fe F e λG=>
 f7 G ej λh=>
 io 1 8 [(.i .u64 (.ofNat 0))] s h h λH s=>
 fT b s λI s=>
 fe I e λJ=>
 lp iH (oX φ) φ d g E e H J s)))) s0
def Co:iI=zw:=rfl
def zu(φ:Nat)(h:jo)(c d b e f:D)(s:LS):Rs:=(
 kH b fB λi=>
 fE i
(xW d b λg=>
 jZ g b λk=>
 fe d k λl=>
 jZ g f λm=>
 fe e m λn=>
 h c b l f n s)
(eY (mU φ) [c,e] s λo s=>
 fO false s o some))
def WK(φ:Nat):fP:=
 λas=>
(λ(s:LS)=>
 u1 as λb c=>
 u1 c λd e=>
 u0 e (
 lp gQ (zu φ) φ b b d fB ej s)) s0
def MF:p8=WK:=rfl
def Xn{l:List UInt8}{i:Nat}{c:UInt8}{kk:IntKind}{s:LS}{K:fK}(h:l[i]?=some c):kS (.index (.c (.s l)) (.c (.i kk (.ofNat i)))) s K=K (.i .u8 (.ofNat c.toNat)) s:=by
 have he:evA s.nx cv s.get (.index (.c (.s l)) (.c (.i kk (.ofNat i))))=some (.i .u8 (.ofNat c.toNat),[]):=by
  simp only[evA,cv,str];rw[aF fU];have:(Int.ofNat i).toNat=i:=rfl;rw[this,pS h];rfl
 unfold kS sA;rw[he];show wR _ _=_;rw[mq]
def JW:List UInt8:=[0,1,2,2,3,3,3,3,4,4,4,4,4,4,4,4,5,5,5,5,5,5,5,5,5,5,5,5,5,5,5,5,6,6,6,6,6,6,6,6,6,6,6,6,6,6,6,6,6,6,6,6,6,6,6,6,6,6,6,6,6,6,6,6,7,7,7,7,7,7,7,7,7,7,7,7,7,7,7,7,7,7,7,7,7,7,7,7,7,7,7,7,7,7,7,7,7,7,7,7,7,7,7,7,7,7,7,7,7,7,7,7,7,7,7,7,7,7,7,7,7,7,7,7,7,7,7,7,8,8,8,8,8,8,8,8,8,8,8,8,8,8,8,8,8,8,8,8,8,8,8,8,8,8,8,8,8,8,8,8,8,8,8,8,8,8,8,8,8,8,8,8,8,8,8,8,8,8,8,8,8,8,8,8,8,8,8,8,8,8,8,8,8,8,8,8,8,8,8,8,8,8,8,8,8,8,8,8,8,8,8,8,8,8,8,8,8,8,8,8,8,8,8,8,8,8,8,8,8,8,8,8,8,8,8,8,8,8,8,8,8,8,8,8,8,8,8,8,8,8,8,8,8,8,8,8]
def Qq:∀v:Nat,v<256->∃c,JW[v]?=some c/\c.toNat<=8/\v<2^c.toNat/\(0<v->2^c.toNat<=2*v):=by
 have h:∀v:Nat,v<256->(match JW[v]?with|some c=>decide (c.toNat<=8/\v<2^c.toNat/\(0<v->2^c.toNat<=2*v))|none=>false)=true:=by decide+kernel
 intro v hv;have:=h v hv;cases hc:JW[v]?with
 |none=>rw[hc]at this;cases this
 |some c=>rw[hc]at this;exact⟨c,rfl,zmD this⟩
def HB(x l:Nat):Prop:=l<=64/\x<2^l/\(0<x->2^l<=2*x)
def Ds{x k l:Nat}(h:HB (x/2^k) l)(hx:2^k<=x)(hk:l+k<=64):HB x (l+k):=by
 obtain⟨h1,h2,h3⟩:=h;have hp:0<2^k:=bj eV;have h0:0<x/2^k:=zmG hx hp;have h4:=h3 h0;have h5:=dG x (2^k);refine⟨hk,?_,λ_=>?_⟩
 ·rw[bi];exact(br hp).1 h2
 ·rw[bi];have:=aK (2^k) h4;rw[aa]at this;omega
def Yl{b:Nat}(hb:b<=32){J:D->D->Rs}(hJ:∀x n,x<2^b->n+b<=64->∃l,HB x l/\l<=b/\J (n64 x) (.i .i64 (.ofNat n))=some (.i .i64 (.ofNat (n+l)))):
 ∀x n,x<2^(b+b)->n+(b+b)<=64->∃l,HB x l/\l<=b+b/\(mb (n64 x) (.i .u64 (.ofNat (2^b))) λx15=>fE x15 (pP (n64 x) (.i .u64 (.ofNat b)) λx16=>f7 (.i .i64 (.ofNat n)) (.i .i64 (.ofNat b)) λx17=>J x16 x17) (J (n64 x) (.i .i64 (.ofNat n))))=some (.i .i64 (.ofNat (n+l))):=by
 intro x n hx hn;by_cases hc:2^b<=x
 ·have hp:0<2^b:=bj eV;obtain⟨l,h1,h2,h3⟩:=hJ (x/2^b) (n+b) (by rw[br hp,<-bi];exact hx) eP;refine⟨l+b,Ds h1 hc eP,eP,th (uS hc) (th fG (th (wi eP) (th (gA eP) (th h3 ?_))))⟩;rw[dL,cx b]
 ·obtain⟨l,h1,h2,h3⟩:=hJ x n eP eP;exact⟨l,h1,eP,th (GO hc) (th ez h3)⟩
def XV(x10 x9:D):Rs:=kV .u8 x10 s0 λx11 s=>kS (.index (.c (.s JW)) (.c x11)) s λx12 s=>kV .i64 x12 s λx13 s=>f7 x9 x13 λx14=>fO false s x14 some
def z2R(a n:D):Rs:=mb a (.i .u64 (.ofNat (2^8))) λx15=>fE x15 (pP a (.i .u64 (.ofNat 8)) λx16=>f7 n (.i .i64 (.ofNat 8)) λx17=>XV x16 x17) (XV a n)
def Qr{φ x:Nat}(hx:x<18446744073709551616):∃l,HB x l/\kC φ [n64 x]=some (.i .i64 (.ofNat l)):=by
 have st0:∀x n,x<2^8->n+8<=64->∃l,HB x l/\l<=8/\XV (n64 x) (.i .i64 (.ofNat n))=some (.i .i64 (.ofNat (n+l))):=by
  intro x n h hn;obtain⟨c,h1,h2,h3,h4⟩:=Qq x h;refine⟨c.toNat,⟨eP,h3,h4⟩,h2,?_⟩;refine th LB ?_;rw[am h];exact th (Xn h1) (th (Fz (by show _<=9223372036854775807;omega)) (th (gA eP) rfl))
 have st1:∀x n,x<2^16->n+16<=64->∃l,HB x l/\l<=16/\z2R (n64 x) (.i .i64 (.ofNat n))=some (.i .i64 (.ofNat (n+l))):=Yl (b:=8) (J:=XV) eP st0;have st2:=Yl (b:=16) (J:=z2R) eP st1;unfold kC;dsimp only[fJ,fV];by_cases hc:4294967296<=x
 ·obtain⟨l,h1,h2,h3⟩:=st2 (x/2^32) 32 eP eP;refine⟨l+32,Ds h1 hc eP,th sj (th (uS hc) (th fG (th Sh ?_)))⟩;rw[cx l];exact h3
 ·obtain⟨l,h1,h2,h3⟩:=st2 x 0 eP eP;refine⟨l,h1,th sj (th (GO hc) (th ez ?_))⟩;rw[aN]at h3;exact h3
def Ku{φ x:Nat}(hx:x<18446744073709551616)(h0:0<x):∃z,z<=63/\x*2^z<18446744073709551616/\9223372036854775808<=x*2^z/\gU φ [n64 x]=some (.i .i64 (.ofNat z)):=by
 obtain⟨l,⟨h1,h2,h3⟩,h4⟩:=Qr (φ:=φ) hx;have h5:=h3 h0;have hl:0<l:=by
  rcases bT l with h|h
  ·subst h;simp at h2;omega
  ·exact h
 have e:2^l*2^(64-l)=18446744073709551616:=by rw[<-bi,ce h1]
 refine⟨64-l,eP,?_,?_,?_⟩
 ·rw[<-e];exact dE h2 (bj eV)
 ·have:=aK (2^(64-l)) h5;rw[e,aa]at this;omega
 ·unfold gU;dsimp only[fJ,fV];exact th (fX h4) (th (iJ eP) rfl)
def ZI{q y0 r d:Nat}{s:LS}{K:fK}(hy:y0<4294967296)(hr:r<4294967296)(hd:d<4294967296)(hq:q<18446744073709551616):
 (mb (n64 q) (.i .u64 (.ofNat 4294967296)) λx70=>eU x70 false (λk=>k (n64 q) s) s λx71 s=>eU x70 false (λk=>k (n64 y0) s) s λx72 s=>eU x70 false (λk=>jZ x71 x72 λd=>k d s) s λx73 s=>
  eU x70 false (λk=>k (n64 r) s) s λx74 s=>eU x70 false (λk=>jZ (.i .u64 (.ofNat 4294967296)) x74 λd=>k d s) s λx75 s=>eU x70 false (λk=>k (n64 d) s) s λx76 s=>eU x70 false (λk=>f7 x75 x76 λd=>k d s) s λx77 s=>
  eU x70 false (λk=>kH x73 x77 λd=>k d s) s λx78 s=>iB x70 (.b true) x78 s K)=K (.b (decide (4294967296<=q\/4294967296*r+d<q*y0))) s:=by
 by_cases h:4294967296<=q
 ·refine th (uS h) ?_;rw[ac (Or.inl h)];rfl
 ·have hm:q*y0<=4294967295*4294967295:=ay eP eP;refine th (GO h) (th iX (th iX (th iX (th (On eP) (th iX (th iX (th (On eP) (th iX (th iX (th (Ly eP) (th iX (th qF (th ga ?_)))))))))))));by_cases h2:4294967296*r+d<q*y0
  ·rw[fk h2,ac (Or.inr h2)]
  ·rw[fw h2,aU eP]
structure DQ (b y1 y0 u d q r:Nat):Prop where
 hq:(u*b+d)/(y1*b+y0)<=q
 hr:r+q*y1=u
 hb:q<=b+1
def Ej{b y1 y0 u d q r:Nat}(h:DQ b y1 y0 u d q r)(hb:0<b)(hy1:0<y1)(h1:q*y0<=b*r+d):q=(u*b+d)/(y1*b+y0):=by
 have hp:0<y1*b+y0:=by have:=zmH hy1 hb;omega
 refine znk ?_ h.hq;rw[di hp,<-h.hr,bK,aS,aL r b,aa];omega
def VL{b y1 y0 u d q r:Nat}(h:DQ b y1 y0 u d q r)(hu:(u*b+d)/(y1*b+y0)<b)(hp:0<y1*b+y0)(h1:b<=q\/b*r+d<q*y0):0<q/\DQ b y1 y0 u d (q-1) (r+y1):=by
 have hlt:(u*b+d)/(y1*b+y0)<q:=by
  rcases h1 with h1|h1
  ·omega
  ·rw[br hp,<-h.hr,bK,aS,aL r b,aa];omega
 refine⟨cR (aJ _) hlt,⟨Nat.le_sub_one_of_lt hlt,?_,by have:=h.hb;omega⟩⟩;have hq0:=cR (aJ _) hlt;obtain⟨q,rfl⟩:∃p,q=p+1:=⟨q-1,eP⟩
 have:=h.hr;rw[aS,ao]at this;rw[au];omega
def Lj{b y1 y0 u d q r:Nat}(h:DQ b y1 y0 u d q r)(hq:q<=b)(hy0:y0<b)(hr:b<=r):q*y0<=b*r+d:=by
 have h1:q*y0<=b*b:=ay hq eP;have h2:b*b<=b*r:=ae _ hr;omega
def Pt{b y1 y0 u d:Nat}(hu:u<y1*b+y0)(hy:b<=2*y1)(h0:y0<b)(hd:d<b)(h1:0<y1):DQ b y1 y0 u d (u/y1) (u%y1)/\(u*b+d)/(y1*b+y0)<b:=by
 have hp:0<y1*b+y0:=by have:=zmH h1 (show 0<b by omega);omega
 refine⟨⟨?_,by rw[aL];exact zmt u y1,?_⟩,?_⟩
 ·rw[di h1];have h3:=dG (u*b+d) (y1*b+y0);rcases aY u ((u*b+d)/(y1*b+y0)*y1)with h|h
  ·exfalso;generalize (u*b+d)/(y1*b+y0)=q at*;have h4:(u+1)*b<=q*y1*b:=aK _ h;rw[aS,ao]at h4;rw[bK,<-aa]at h3;omega
  ·exact h
 ·have:u<(b+2)*y1:=by rw[aS,aL b];omega
  have:=(br h1).2 this;omega
 ·rw[br hp];have:(u+1)*b<=(y1*b+y0)*b:=aK _ hu;rw[aS,ao]at this;rw[aL b];omega
def z1r{φ y1 y0 u d:Nat}{a b c e:D}{j30:yx}{s:LS}(hy1:0<y1)(h1:y1<4294967296)(h0:y0<4294967296)(hd:d<4294967296)(hu:(u*4294967296+d)/(y1*4294967296+y0)<4294967296):
 ∀(k f q r:Nat),DQ 4294967296 y1 y0 u d q r->r<4294967296->4294967296<=r+k*y1->k+1<f->
 lp tR (rK φ j30) f a b (n64 y1) (n64 y0) c (n64 d) e (n64 q) (n64 r) s=j30 a b (n64 y1) (n64 y0) c (n64 d) e (n64 ((u*4294967296+d)/(y1*4294967296+y0))) s:=by
 intro k;have hp:0<y1*4294967296+y0:=eP
 induction k with
 |zero=>intro f q r h hr hk;omega
 |succ k ih=>
  intro f q r h hr hk hf;obtain⟨f,rfl⟩:∃p,f=p+1:=⟨f-1,eP⟩
  have hqb:=h.hb;rw[ep];unfold rK;refine th (ZI h0 hr hd eP) ?_;by_cases hc:4294967296<=q\/4294967296*r+d<q*y0
  ·obtain⟨hq0,h'⟩:=VL h hu hp hc;rw[ac hc];refine th fG (th (HZ eP eP) (th (Ly eP) ?_));by_cases hbk:4294967296<=r+y1
   ·have:=Ej h' eP hy1 (Lj h' eP h0 hbk);rw[<-this];exact th (uS hbk) fG
   ·refine th (GO hbk) (th ez ?_);exact ih f (q-1) (r+y1) h' eP (by rw[aS,ao]at hk;omega) eP
  ·have:=Ej h eP hy1 eP;rw[aU hc,<-this];rfl
def z1s{φ y1 y0 u d:Nat}{a b c e:D}{j46:kT}{s:LS}(hy1:0<y1)(h1:y1<4294967296)(h0:y0<4294967296)(hd:d<4294967296)(hu:(u*4294967296+d)/(y1*4294967296+y0)<4294967296):
 ∀(k f q r:Nat),DQ 4294967296 y1 y0 u d q r->r<4294967296->4294967296<=r+k*y1->k+1<f->
 lp tR (rL φ j46) f a b (n64 y1) (n64 y0) (n64 d) c (n64 r) e (n64 q) s=j46 a b (n64 d) c e (n64 ((u*4294967296+d)/(y1*4294967296+y0))) s:=by
 intro k;have hp:0<y1*4294967296+y0:=eP
 induction k with
 |zero=>intro f q r h hr hk;omega
 |succ k ih=>
  intro f q r h hr hk hf;obtain⟨f,rfl⟩:∃p,f=p+1:=⟨f-1,eP⟩
  have hqb:=h.hb;rw[ep];unfold rL;refine th (ZI h0 hr hd eP) ?_;by_cases hc:4294967296<=q\/4294967296*r+d<q*y0
  ·obtain⟨hq0,h'⟩:=VL h hu hp hc;rw[ac hc];refine th fG (th (HZ eP eP) (th (Ly eP) ?_));by_cases hbk:4294967296<=r+y1
   ·have:=Ej h' eP hy1 (Lj h' eP h0 hbk);rw[<-this];exact th (uS hbk) fG
   ·refine th (GO hbk) (th ez ?_);exact ih f (q-1) (r+y1) h' eP (by rw[aS,ao]at hk;omega) eP
  ·have:=Ej h eP hy1 eP;rw[aU hc,<-this];rfl
def Om{a b:Nat}{k:D->Rs}:jZ (n64 a) (n64 b) k=k (n64 (a*b%18446744073709551616)):=by
 unfold jZ;rw[show n64 a=.i .u64 (.ofNat a)from rfl,show n64 b=.i .u64 (.ofNat b)from rfl,qT];exact DO
def WA{a b:Nat}{k:D->Rs}:f7 (n64 a) (n64 b) k=k (n64 ((a+b)%18446744073709551616)):=by
 unfold f7;rw[show n64 a=.i .u64 (.ofNat a)from rfl,show n64 b=.i .u64 (.ofNat b)from rfl,qT];exact DO
def z2h{a b:Nat}{k:D->Rs}(ha:a<18446744073709551616)(hb:b<18446744073709551616):fe (n64 a) (n64 b) k=k (n64 ((a+18446744073709551616-b)%18446744073709551616)):=by
 unfold fe;rw[show n64 a=.i .u64 (.ofNat a)from rfl,show n64 b=.i .u64 (.ofNat b)from rfl,qT];by_cases h:b<=a
 ·rw[aD h,fH,DO,show Nat.sub a b=a-b from rfl,am (show a-b<18446744073709551616 by omega),show(a+18446744073709551616-b)%18446744073709551616=a-b by omega];rfl
 ·rw[il h,fq,show Nat.beq (wM .u64) 0=false from rfl,fq,aD (show b<=wM .u64 from bq hb),fH];exact DO
def SO{A C d:Nat}(h1:C<=A+d)(h2:A+d-C<18446744073709551616):((A%18446744073709551616+d)%18446744073709551616+18446744073709551616-C%18446744073709551616)%18446744073709551616=A+d-C:=eP
def z03{h l z:Nat}(hz:z<=64)(hl:l<18446744073709551616):h*2^z|||l/2^(64-z)=h*2^z+l/2^(64-z):=by
 rw[aL,<-dc];rw[br (bj eV),<-bi,ce hz];exact hl
def z4h{N P y q r:Nat}(hy:0<y)(hP:0<P)(e:N*P=q*(y*P)+r)(hr:r<y*P):q=N/y/\r/P=N%y:=by
 have hy0:0<y*P:=zmH hy hP;have q1:N*P/(y*P)=q:=by rw[e,aL q,zmS hy0,cq hr,bO]
 have r1:N*P%(y*P)=r:=by rw[e,aL q,Nat.mul_add_mod,am hr]
 rw[Nat.mul_div_mul_right _ _ hP]at q1;rw[zmN]at r1;exact⟨q1.symm,by rw[<-r1,zn4 _ hP]⟩
def nlt{h l y M P u v:Nat}(hlt:h<y)(hl:l<M)(hP:0<P)(e:(h*M+l)*P=u*M+v):u<y*P:=by
 rcases aY u (y*P)with hh|hh
 ·exact hh
 ·exfalso;have k1:y*P*M<=u*M:=aK _ hh;have k0:h*M+l+1<=y*M:=by
   have:=aK M hlt;rw[eL]at this;omega
  have k2:=aK P k0;rw[aS _ 1,ao,e,dP y]at k2;omega
def Wz{a b:Nat}{k:D->Rs}(ha:a<18446744073709551616)(hb:b<18446744073709551616):kOr (.i .u64 (.ofNat a)) (.i .u64 (.ofNat b)) k=k (.i .u64 (.ofNat (a|||b))):=ZA (bL ha) (bL hb)
def IX{φ h l y N:Nat}(hNN:h*18446744073709551616+l=N)(hl:l<18446744073709551616)(hy:y<18446744073709551616)(hlt:h<y)(hφ:4<φ):
 iC φ [n64 h,n64 l,n64 y]=some (.tup [n64 (N/y),n64 (N%y)]):=by
 rw[zq];unfold wo;dsimp only[fJ,fV];refine th sj (th (mJ (show y≠0 by omega)) (th ez (th sj (th wP ?_))));rw[il eP];refine th ez ?_;by_cases h0:h=0
 ·subst h0;refine th (oW rfl) (th fG (th (TN eP hl) (th (sh eP) ?_)));have e0:l=N:=by rw[<-hNN,bX,aN]
  subst e0;rfl
 obtain⟨z,z1,z2,z3,z4⟩:=Ku (φ:=φ) hy eP;have hpz:0<2^z:=bj eV;have e64:2^z*2^(64-z)=18446744073709551616:=by rw[<-bi,ce eP]
 have hhz:h*2^z<y*2^z:=dE hlt hpz;have hlz:l/2^(64-z)<2^z:=by rw[br (bj eV),e64];exact hl
 have hl2:l*2^z/18446744073709551616=l/2^(64-z):=by
  rw[<-e64,aL l,Nat.mul_div_mul_left _ _ hpz]
 have z8x:=cK (l*2^z) 18446744073709551616;rw[hl2]at z8x;refine th (mJ h0) (th ez (th (fX z4) (th (Fz (bL (show z<18446744073709551616 by omega))) (th (yR eP) ?_))));rw[am z2];refine th Sh (th (Yx z2) (th (yR eP) ?_));rw[am (show h*2^z<18446744073709551616 by omega)];have z6z:(h+1)*2^z<=y*2^z:=aK _ hlt;rw[aS,ao]at z6z;refine th (HZ eP eP) (th (wi eP) (th (Wz eP eP) (th (yR eP) ?_)));rw[z03 eP hl];have hN:(h*18446744073709551616+l)*2^z=(h*2^z+l/2^(64-z))*18446744073709551616+l*2^z%18446744073709551616:=by
  rw[aS,aS,dP,dL,aL (l/_),z8x]
 have hu:=nlt hlt hl hpz hN;rw[hNN]at hN;clear hNN z8x hl2 e64 z6z;have zb0:l*2^z%18446744073709551616<18446744073709551616:=bN _ eV;have z75:∀q r,(h*2^z+l/2^(64-z))*18446744073709551616+l*2^z%18446744073709551616=q*(y*2^z)+r->r<y*2^z->q=N/y/\r/2^z=N%y:=
  λq r e hr=>z4h eP hpz (hN.trans e) hr
 generalize h*2^z+l/2^(64-z)=u at*;generalize l*2^z%18446744073709551616=v at*;generalize hY:y*2^z=Y at*;have hYd:Y=Y/4294967296*4294967296+Y%4294967296:=eP;have hvd:v=v/4294967296*4294967296+v%4294967296:=eP;have b1:0<Y/4294967296:=eP;have b2:Y/4294967296<4294967296:=eP;have b3:4294967296<=2*(Y/4294967296):=eP;have b4:Y%4294967296<4294967296:=eP;have b5:v/4294967296<4294967296:=eP;have b6:v%4294967296<4294967296:=eP;have b7:u<Y/4294967296*4294967296+Y%4294967296:=eP;refine th Sh (th (Yx zb0) (th (TN eP eP) ?_));generalize Y/4294967296=y1 at*;generalize Y%4294967296=y0 at*;generalize v/4294967296=v1 at*;generalize v%4294967296=v0 at*;have main:∀(u d:Nat)(K:D->Rs),u<y1*4294967296+y0->(jZ (n64 (u/y1)) (n64 y1) λx28=>fe (n64 u) x28 K)=K (n64 (u%y1)):=by
  intro u d K hu;have hm:=zmt u y1;have hle:u/y1*y1<=u:=dG u y1;refine th (On eP) (th (HZ hle eP) ?_);have e:u-u/y1*y1=u%y1:=by rw[aL (u/y1)];omega
  rw[e];rfl
 refine th (main u 0 _ b7) (th sj ?_);obtain⟨i1,i2⟩:=Pt (d:=v1) b7 b3 b4 b5 b1;have i3:u%y1<y1:=bN _ b1;refine th (z1r b1 b2 b4 b5 i2 3 φ _ _ i1 eP eP hφ) ?_;rw[<-hYd]at i2 ⊢;have hY0:0<Y:=eP;have c1:=cK (u*4294967296+v1) Y;have c2:=bN (u*4294967296+v1) hY0;generalize hq1:(u*4294967296+v1)/Y=q1 at*;generalize (u*4294967296+v1)%Y=w at*;rw[aL Y]at c1;have wr:∀(A C d w:Nat)(K:D->Rs),C+w=A+d->w<18446744073709551616->fe (n64 ((A%18446744073709551616+d)%18446744073709551616)) (n64 (C%18446744073709551616)) K=K (n64 w):=by
  intro A C d w K h1 h2;refine th (z2h (bN _ eV) (bN _ eV)) ?_;rw[SO eP eP,show A+d-C=w by omega]
 refine th Om (th WA (th Om (th (wr _ _ _ w _ c1 eP) (th (TN eP eP) (th (main w 0 _ eP) (th sj ?_))))));have b8:w<y1*4294967296+y0:=eP;obtain⟨j1,j2⟩:=Pt (d:=v0) b8 b3 b4 b6 b1;have j3:w%y1<y1:=bN _ b1;refine th (z1s b1 b2 b4 b6 j2 3 φ _ _ j1 eP eP hφ) ?_;rw[<-hYd]at j2 ⊢;have c3:=cK (w*4294967296+v0) Y;have c4:=bN (w*4294967296+v0) hY0;clear hq1 i1;generalize hq0:(w*4294967296+v0)/Y=q0 at*;generalize (w*4294967296+v0)%Y=r at*;rw[aL Y]at c3;have hf:=z75 (q1*4294967296+q0) r (by
  rw[aS,dP];revert c1 c3;generalize q1*Y=C1;generalize q0*Y=C0;intro c1 c3;omega) c4
 refine th (On eP) (th (Ly eP) (th Om (th WA (th Om (th (wr _ _ _ r _ c3 eP) (th (wi eP) ?_))))));refine Eq.trans (b:=some (.tup [n64 (q1*4294967296+q0),n64 (r/2^z)])) rfl ?_;obtain⟨f1,f2⟩:=hf;rw[f1,f2]
section
variable {B:Nat}
def Ji{ws:eZ}{i w:Nat}(h:ws[i]?=some w):dgt ws i=w:=by unfold dgt;rw[aB,h];rfl
def j9{ws:eZ}{i:Nat}(h:i<ws.length):ws[i]?=some (dgt ws i):=by
 have hw:=aE h;rw[hw,Ji hw]
def Au(hB:2<=B){a b:eZ}(sa:Sm B a)(tb:Tm b)(h:a.length<b.length):vl B a<vl B b:=by
 have h1:=HS sa;have h2:=S3 (B:=B) tb (by intro e;rw[e]at h;simp at h);have h3:B^a.length<=B^(b.length-1):=cM eP eP;omega
def Cs{ws:eZ}{i:Nat}(h:i<=ws.length):vl B ws=vl B (ws.take i)+B^i*(dgt ws i+B*vl B (ws.drop (i+1))):=by
 have:=Ct (B:=B) (ws.take i) (ws.drop i);rw[bY,aR,cF eP,xu]at this;exact this
def HR{zs ys:eZ}{i:Nat}(hB:0<B)(sz:Sm B zs)(hz:i<zs.length)(hy:i<ys.length)(hd:zs.drop (i+1)=ys.drop (i+1))(h:dgt zs i<dgt ys i):vl B zs<vl B ys:=by
 rw[Cs (show i<=zs.length by omega),Cs (show i<=ys.length by omega),hd];have lz:vl B (zs.take i)<B^i:=by
  have:=HS (Bq (n:=i) sz);rw[aR,cF eP]at this;exact this
 generalize vl B (ys.drop (i+1))=R;have:B^i*((dgt zs i+B*R)+1)<=B^i*(dgt ys i+B*R):=ae _ eP;rw[bK _ _ 1]at this;omega
end
def V5{x y:Nat}(h:x<y):Ab x y=lC:=by unfold Ab;rw[fk h];rfl
def V6{x y:Nat}(h:y<x):Ab x y=ej:=by unfold Ab;rw[fw eP,ik eP];rfl
def V7{x:Nat}:Ab x x=fB:=by unfold Ab;rw[fw eP,gE];rfl
def Ng{φ n:Nat}{zs ys:eZ}{e1 e2:Bool}{s:LS}(sz:Sm B64 zs)(sy:Sm B64 ys)(hz:zs.length=n)(hy:ys.length=n)(hn:n<9223372036854775808):∀(i f:Nat),i<n->i+1<f->zs.drop (i+1)=ys.drop (i+1)->
 lp vN (mw φ) f (.tree (c64 zs) n e1) (.tree (c64 ys) n e2) (.i .i64 (.ofNat i)) s=some (Ab (vl B64 zs) (vl B64 ys)):=by
 have step:∀(i:Nat)(q:wW),i<n->zs.drop (i+1)=ys.drop (i+1)->mw φ q (.tree (c64 zs) n e1) (.tree (c64 ys) n e2) (.i .i64 (.ofNat i)) s=
  if dgt zs i=dgt ys i then fe (.i .i64 (.ofNat i)) ej λx26=>q (.tree (c64 zs) n e1) (.tree (c64 ys) n e2) x26 s else some (Ab (vl B64 zs) (vl B64 ys)):=by
  intro i q hi hd;have gz:(c64 zs)[i*1]?=some (n64 (dgt zs i)):=by rw[a9];exact pA (j9 eP)
  have gy:(c64 ys)[i*1]?=some (n64 (dgt ys i)):=by rw[a9];exact pA (j9 eP)
  unfold mw;refine th (uS eP) (th fG (th (HL hi (by rw[jO];omega)) (th (Ky gz) (th (HL hi (by rw[jO];omega)) (th (Ky gy) ?_)))));by_cases he:dgt zs i=dgt ys i
  ·rw[aF he];exact th (Fb he) ez
  ·rw[aG he];refine th (Hv he) (th fG (th (HL hi (by rw[jO];omega)) (th (Ky gz) (th (HL hi (by rw[jO];omega)) (th (Ky gy) ?_)))));by_cases hl:dgt zs i<dgt ys i
   ·rw[V5 (HR eV sz eP eP hd hl)];exact th (gX hl) rfl
   ·rw[V6 (HR eV sy eP eP hd.symm eP)];exact th (gP hl) rfl
 intro i
 induction i with
 |zero=>
  intro f hi hf hd;obtain⟨f,rfl⟩:∃q,f=q+2:=⟨f-2,eP⟩
  rw[ep,step 0 _ hi hd];by_cases he:dgt zs 0=dgt ys 0
  ·rw[aF he];refine th (LC eP eP) ?_;rw[ep];refine th IG (th ez ?_);have:zs=ys:=by
    have a1:=pS (j9 (show 0<zs.length by omega));have a2:=pS (j9 (show 0<ys.length by omega));rw[a7]at a1 a2;rw[a1,a2,he,hd]
   rw[this,V7];rfl
  ·rw[aG he]
 |succ i ih=>
  intro f hi hf hd;obtain⟨f,rfl⟩:∃q,f=q+1:=⟨f-1,eP⟩
  rw[ep,step (i+1) _ hi hd];by_cases he:dgt zs (i+1)=dgt ys (i+1)
  ·rw[aF he];refine th (iJ eP eP) ?_;rw[au];refine ih f eP eP ?_;rw[pS (j9 (show i+1<zs.length by omega)),pS (j9 (show i+1<ys.length by omega)),he,hd]
  ·rw[aG he]
def V3{φ n m:Nat}{zs ys:eZ}{e1 e2:Bool}(hz:zs.length=n)(hy:ys.length=m)(sz:Sm B64 zs)(sy:Sm B64 ys)(tz:Tm zs)(ty:Tm ys)(hn:n<9223372036854775807)(hm:m<9223372036854775807)(hφ:n+1<φ):
 iU φ [.tree (c64 zs) n e1,.tree (c64 ys) m e2]=some (Ab (vl B64 zs) (vl B64 ys)):=by
 rw[xi];unfold vP;dsimp only[fJ,fV];refine th fY (th fY ?_);by_cases he:n=m
 ·subst he;refine th (Fb rfl) (th ez (th fY ?_));cases n with
  |zero=>
   obtain⟨φ,rfl⟩:∃q,φ=q+1:=⟨φ-1,eP⟩
   have h1:zs=[]:=aZ hz;have h2:ys=[]:=aZ hy;subst h1;subst h2;refine th (LC eP eP) ?_;rw[ep,V7];exact th IG (th ez rfl)
  |succ n=>
   refine th (iJ eP eP) ?_;rw[au];exact Ng sz sy hz hy eP n φ eP eP (by rw[dK eP,dK eP])
 ·refine th (Hv he) (th fG (th fY (th fY ?_)));by_cases hl:n<m
  ·rw[V5 (Au eV sz ty eP)];exact th (gX hl) rfl
  ·rw[V6 (Au eV sy tz eP)];exact th (gP hl) rfl
def sO{ws:eZ}{i j w:Nat}(h:i≠j):dgt (ws.set i w) j=dgt ws j:=by
 unfold dgt;rw[aB,aB,bW h]
def z0w{a c z M:Nat}(hz:z<=64)(hc:c<2^z)(hM:M=2^64):c|||a*2^z%M=c+a*2^z%M/\c+a*2^z%M<M:=by
 subst hM;have e:a*2^z%2^64=2^z*(a%2^(64-z)):=by
  rw[show(2:Nat)^64=2^z*2^(64-z) by rw[<-bi,ce hz],aL a,Nat.mul_mod_mul_left]
 have hlt:a%2^(64-z)+1<=2^(64-z):=bN _ (bj eV);have h2:=ae (2^z) hlt;rw[<-bi,ce hz,bK,a9]at h2;rw[e];refine⟨?_,eP⟩;rw[Nat.or_comm,<-dc hc,cx]
def Q6{a z:Nat}(hz:z<=64)(M:Nat)(hM:M=2^64):a*2^z%M+M*(a/2^(64-z))=a*2^z:=by
 subst hM;have:=zmt (a*2^z) (2^64);have e:a*2^z/2^64=a/2^(64-z):=by
  rw[show(2:Nat)^64=2^z*2^(64-z) by rw[<-bi,ce hz],aL a,Nat.mul_div_mul_left _ _ (bj eV)]
 rw[e]at this;exact this
def MZ{os ws:eZ}{i z M:Nat}(hM:M=2^64)(hz:z<=64)(hi:i+1<os.length)(h0:dgt os (i+1)=0)(hv:vl M os=vl M (ws.take i)*2^z)(hw:vl M (ws.take (i+1))=vl M (ws.take i)+dgt ws i*M^i):
 vl M ((os.set i (dgt os i+dgt ws i*2^z%M)).set (i+1) (dgt ws i/2^(64-z)))=vl M (ws.take (i+1))*2^z:=by
 have h1:=zI (B:=M) (dgt os i+dgt ws i*2^z%M) (j9 (show i<os.length by omega));have hg:(os.set i (dgt os i+dgt ws i*2^z%M))[i+1]?=some 0:=by rw[bW eP,j9 eP,h0]
 have h2:=zI (B:=M) (dgt ws i/2^(64-z)) hg;rw[bX,bO,bI]at h2;have h3:=Q6 (a:=dgt ws i) hz M hM;rw[h2,hw,aS,<-hv];rw[aS]at h1;generalize dgt ws i*2^z%M=lo at*;generalize dgt ws i/2^(64-z)=hi' at*;have h4:(lo+M*hi')*M^i=dgt ws i*2^z*M^i:=by rw[h3]
 rw[aS]at h4;have h5:hi'*(M^i*M)=M*hi'*M^i:=by grind
 have h6:dgt ws i*M^i*2^z=dgt ws i*2^z*M^i:=dP _ _ _;omega
def qQ{B:Nat}(ws:eZ)(i:Nat):vl B (ws.take (i+1))=vl B (ws.take i)+dgt ws i*B^i:=by
 by_cases h:i<ws.length
 ·rw[dj,j9 h,Ct,aR,cF eP];show _+B^i*(dgt ws i+B*0)=_;rw[dU,bO,aL]
 ·have e:dgt ws i=0:=by unfold dgt;rw[aB,ai eP];rfl
  rw[aP eP,aP eP,e];simp
def ZZ{X:D}{bs:fQ}{ws:eZ}{n:Nat}(hA:WS 1 bs X (c64 ws) n)(h0:0<n):fO true (mem bs) X some=some (.own (c64 ws) n 1):=by
 have hc:=zH hA;generalize hcs:c64 ws=cs at hA;cases hA with
 |nil=>omega
 |blk hg hc' hm=>
  subst hcs;rw[Iz hg (zk ws) eP,aP eP]
def Si{φ n z:Nat}{O:D}{ws:eZ}{ex:Bool}(hz:z<=63)(hl:ws.length=n)(sw:Sm B64 ws)(hn:n<=100000000000):∀(k i f:Nat)(bs:fQ)(os:eZ),WS 1 bs O (c64 os) (n+1)->Sm B64 os->vl B64 os=vl B64 (ws.take i)*2^z->dgt os i<2^z->(∀t,i<t->dgt os t=0)->i+k=n->k+1<f->
 ∃os',os'.length=n+1/\Sm B64 os'/\vl B64 os'=vl B64 ws*2^z/\lp gQ (jE φ) f (.i .i64 (.ofNat z)) O (.tree (c64 ws) n ex) (.i .i64 (.ofNat n)) (.i .i64 (.ofNat i)) (mem bs)=some (.own (c64 os') (n+1) 1):=by
 intro k
 induction k with
 |zero=>
  intro i f bs os aO so hv hd h0 hk hf;obtain⟨f,rfl⟩:∃q,f=q+1:=⟨f-1,eP⟩
  have hol:=zH aO;rw[jO]at hol;refine⟨os,eP,so,by rw[hv,aP eP],?_⟩;rw[ep];exact th (gP eP) (th ez (ZZ aO eP))
 |succ k ih=>
  intro i f bs os aO so hv hd h0 hk hf;obtain⟨f,rfl⟩:∃q,f=q+1:=⟨f-1,eP⟩
  have hol:=zH aO;rw[jO]at hol;have hw:dgt ws i<18446744073709551616:=oj sw eV i;have gw:(c64 ws)[i*1]?=some (n64 (dgt ws i)):=by rw[a9];exact pA (j9 eP)
  obtain⟨o1,o2⟩:=z0w (a:=dgt ws i) (M:=18446744073709551616) eP hd eV;have hst:=MZ (os:=os) (ws:=ws) (i:=i) (z:=z) (M:=B64) eV eP eP (h0 _ eP) hv (qQ ws i);have hhi:dgt ws i/2^(64-z)<2^z:=by
   rw[br (bj eV),<-bi,ce eP];exact hw
  generalize hv1:dgt os i+dgt ws i*2^z%18446744073709551616=v1 at*;by_cases hz0:0<z
  ·obtain⟨b1,a1,a2,a3,a4⟩:=SN (w:=v1) (i:=i) (kk:=.i64) (K:=λ_ s=>kH (.i .i64 (.ofNat z)) fB λx28=>fE x28
    (f7 (.i .i64 (.ofNat i)) ej λx29=>fe (.i .i64 (.ofNat 64)) (.i .i64 (.ofNat z)) λx30=>pP (n64 (dgt ws i)) x30 λx31=>eT 1 s O x29 λx32 s=>fA 1 s x32 x31 λ_ s=>f7 (.i .i64 (.ofNat i)) ej λx20=>lp gQ (jE φ) f (.i .i64 (.ofNat z)) O (.tree (c64 ws) n ex) (.i .i64 (.ofNat n)) x20 s)
    (f7 (.i .i64 (.ofNat i)) ej λx20=>lp gQ (jE φ) f (.i .i64 (.ofNat z)) O (.tree (c64 ws) n ex) (.i .i64 (.ofNat n)) x20 s)) aO (show i<n+1 by omega)
   obtain⟨b2,g1,g2,g3,g4⟩:=SN (w:=dgt ws i/2^(64-z)) (i:=i+1) (kk:=.i64) (K:=λ_ s=>f7 (.i .i64 (.ofNat i)) ej λx20=>lp gQ (jE φ) f (.i .i64 (.ofNat z)) O (.tree (c64 ws) n ex) (.i .i64 (.ofNat n)) x20 s) a1 (show i+1<n+1 by omega);have zf7:dgt ws i/2^(64-z)<B64:=cR (dX _ _) hw;obtain⟨os',k1,k2,k3,k4⟩:=ih (i+1) f b2 _ g1 (vS (vS so o2) zf7) hst (by rw[Ji (by rw[aH (by simp;omega)])];exact hhi) (λt ht=>by rw[sO eP,sO eP];exact h0 t eP) eP eP;refine⟨os',k1,k2,k3,?_⟩;rw[ep];unfold jE;refine th (gX eP) (th fG (th sj (th (HL eP (by rw[jO];omega)) (th (Ky gw) (th (Yj aO (j9 eP)) (th (yR eP) (th (Wz eP (bN _ eV)) ?_)))))));rw[o1];exact th a4 (th (oG hz0) (th fG (th (gA eP) (th (iJ eP eP) (th (wi eP) (th g4 (th (gA eP) k4)))))))
  ·have hz1:z=0:=eP;have hh0:dgt ws i/2^(64-z)=0:=cq (by rw[hz1];exact hw);rw[hh0]at hst;have hg:(os.set i v1)[i+1]?=some 0:=by rw[bW eP,j9 eP,h0 _ eP]
   have h2:=zI (B:=B64) 0 hg;rw[bX,bO,bO]at h2;rw[h2]at hst;obtain⟨b1,a1,a2,a3,a4⟩:=SN (w:=v1) (i:=i) (kk:=.i64) (K:=λ_ s=>kH (.i .i64 (.ofNat z)) fB λx28=>fE x28
    (f7 (.i .i64 (.ofNat i)) ej λx29=>fe (.i .i64 (.ofNat 64)) (.i .i64 (.ofNat z)) λx30=>pP (n64 (dgt ws i)) x30 λx31=>eT 1 s O x29 λx32 s=>fA 1 s x32 x31 λ_ s=>f7 (.i .i64 (.ofNat i)) ej λx20=>lp gQ (jE φ) f (.i .i64 (.ofNat z)) O (.tree (c64 ws) n ex) (.i .i64 (.ofNat n)) x20 s)
    (f7 (.i .i64 (.ofNat i)) ej λx20=>lp gQ (jE φ) f (.i .i64 (.ofNat z)) O (.tree (c64 ws) n ex) (.i .i64 (.ofNat n)) x20 s)) aO (show i<n+1 by omega)
   obtain⟨os',k1,k2,k3,k4⟩:=ih (i+1) f b1 _ a1 (vS so o2) hst (by rw[Ji hg];exact bj eV) (λt ht=>by rw[sO eP];exact h0 t eP) eP eP;refine⟨os',k1,k2,k3,?_⟩;rw[ep];unfold jE;refine th (gX eP) (th fG (th sj (th (HL eP (by rw[jO];omega)) (th (Ky gw) (th (Yj aO (j9 eP)) (th (yR eP) (th (Wz eP (bN _ eV)) ?_)))))));rw[o1];exact th a4 (th (qw hz0) (th ez (th (gA eP) k4)))
def De{φ n z:Nat}{ws:eZ}{ex:Bool}(hz:z<=63)(hl:ws.length=n)(sw:Sm B64 ws)(hn:n<=100000000000)(hφ:n+1<φ):
 ∃os,os.length=n+1/\Sm B64 os/\vl B64 os=vl B64 ws*2^z/\jk φ [.tree (c64 ws) n ex,.i .i64 (.ofNat z)]=some (.own (c64 os) (n+1) 1):=by
 obtain⟨os',k1,k2,k3,k4⟩:=Si (φ:=φ) (O:=.sl 0 0 (n+1) (n+1) 1 true) (ex:=ex) hz hl sw hn n 0 φ [⟨c64 (List.replicate (n+1) 0),.rw⟩] (List.replicate (n+1) 0) (WS.blk rfl (by rw[jO];simp) (aC _)) (MY eV) (by rw[Ii];simp[vl]) (by
  have:dgt (List.replicate (n+1) 0) 0=0:=rfl;rw[this];exact bj eV) (λt ht=>by
  unfold dgt;rw[aB];cases h:(List.replicate (n+1) 0)[t]?with
  |none=>rfl
  |some w=>exact cG (bS h)) eP eP
 refine⟨os',k1,k2,k3,?_⟩;rw[Bc];unfold yy;dsimp only[fJ,fV];rw[<-fg];refine th fY (th (gA eP) (th (BI rfl eP eP) (th fY ?_)));rw[wA,AY];exact k4
variable {bs:fQ} {us:eZ} {l off n cm i w:Nat} {ex:Bool} {kk:IntKind} {K:fK}
def vb(h:bs[l]?=some ⟨c64 us,.rw⟩)(hi:i<n)(ho:off+i<us.length):(eT 1 (mem bs) (.sl l off n cm 1 ex) (.i kk (.ofNat i)) λa s=>eR s a K)=K (n64 (dgt us (off+i))) (mem bs):=by
 refine th (DY h rfl hi) ?_;rw[a9];exact vp h rfl (pA (j9 ho))
def Ch(h:bs[l]?=some ⟨c64 us,.rw⟩)(hi:i<n)(ho:off+i<us.length):(eT 1 (mem bs) (.sl l off n cm 1 ex) (.i kk (.ofNat i)) λa s=>fA 1 s a (n64 w) K)=K .u (mem (bs.set l ⟨c64 (us.set (off+i) w),.rw⟩)):=by
 have hl:lay (off+i) (c64 [w]) (c64 us)=some (c64 (us.set (off+i) w)):=by
  rw[<-vo,show c64 [w]=[D.i .u64 (.ofNat w)]from rfl,CY (by rw[jO];omega),y5]
 refine th (DY h rfl hi) ?_;rw[a9];exact xF h rfl (hx:=rfl) (hn:=rfl) (h1:=rfl) (hl:=hl)
def xD{us':eZ}(h:bs[l]?=some ⟨c64 us,.rw⟩):(bs.set l ⟨c64 us',.rw⟩)[l]?=some ⟨c64 us',.rw⟩:=by rw[aH (fC h)]
def fc{l':Nat}{b b':Blk}(hne:l≠l')(h:bs[l']?=some b):(bs.set l b')[l']?=some b:=by rw[bW hne];exact h
def KQ{a b c:Nat}(ha:a<18446744073709551616)(hb:b<18446744073709551616)(hc:c<=1):∃d c',(∀(s:LS)(K:fK),u7 (n64 a) (n64 b) (n64 c) s K=K (.tup [n64 d,n64 c']) s)/\d<18446744073709551616/\c'<=1/\d+b+c=a+c'*18446744073709551616:=by
 refine⟨_,_,λs K=>LF hc,bN _ eV,?_,?_⟩
 ·split<;>omega
 ·show(a+18446744073709551616-b-c)%18446744073709551616+b+c=_;split<;>omega
def z0C{B j i v0 v1 vy z z' lo c c' b b' q y V:Nat}(hv:v0+q*vy*B^j=V+(b+c)*(B^j*B^i))(h1:v1+z*(B^j*B^i)=v0+z'*(B^j*B^i))(h2:z'+lo+b=z+b'*B)(h3:q*y+c=lo+B*c'):
 v1+q*(vy+y*B^i)*B^j=V+(b'+c')*(B^j*(B^i*B)):=by
 generalize B^j=P at*;generalize B^i=Q at*;have h4:(z'+lo+b)*(P*Q)=(z+b'*B)*(P*Q):=by rw[h2]
 have h5:(q*y+c)*(P*Q)=(lo+B*c')*(P*Q):=by rw[h3]
 grind
def Ti{q y c lo c' B:Nat}(hq:q<B)(hy:y<B)(hc:c<B)(h3:q*y+c=lo+B*c'):c'<B:=by
 rcases aY c' B with h|h
 ·exact h
 ·exfalso;have h1:B*B<=B*c':=ae _ h;have h2:q*y<=(B-1)*(B-1):=ay eP eP;have h4:(B-1)*(B-1)+(B-1)=(B-1)*B:=by rw[<-Nat.mul_succ];congr 1;omega
  have h5:(B-1)*B=B*B-B:=by rw[Nat.sub_mul,ao]
  have h6:B<=B*B:=Nat.le_mul_of_pos_left _ eP;omega
def z2K{B q y c lo hi lo' cc:Nat}(m2:hi*B+lo'=q*y)(a4:cc*B+lo=lo'+c+0):q*y+c=lo+B*(hi+cc):=by
 rw[<-m2,bK,aL B hi,aL B cc];omega
def W9{φ l lv j n cm cmv q V:Nat}{ex exv:Bool}{vf:eZ}{kk:fK}(hq:q<B64)(sv:Sm B64 vf)(hvf:n<=vf.length)(hne:l≠lv)(hn:n<=100000000000):∀(k i f:Nat)(bs:fQ)(us:eZ)(b c:Nat),
 bs[l]?=some ⟨c64 us,.rw⟩->bs[lv]?=some ⟨c64 vf,.rw⟩->j+n<us.length->Sm B64 us->b<=1->c<B64->vl B64 us+q*vl B64 (vf.take i)*B64^j=V+(b+c)*(B64^j*B64^i)->i+k=n->k+1<f->
 ∃bs' us' b' c',bs'[l]?=some ⟨c64 us',.rw⟩/\bs'[lv]?=some ⟨c64 vf,.rw⟩/\us'.length=us.length/\Sm B64 us'/\b'<=1/\c'<B64/\vl B64 us'+q*vl B64 (vf.take n)*B64^j=V+(b'+c')*(B64^j*B64^n)/\(∀t,j+n<=t->dgt us' t=dgt us t)/\(∀l' x,l≠l'->bs[l']?=some x->bs'[l']?=some x)/\
 lp pu (jK φ kk) f (.sl l j (n+1) cm 1 ex) (.sl lv 0 n cmv 1 exv) (.i .i64 (.ofNat n)) (n64 q) (n64 b) (n64 c) (.i .i64 (.ofNat n)) (.i .i64 (.ofNat i)) (mem bs)=
 lp pu (jK φ kk) (f-k) (.sl l j (n+1) cm 1 ex) (.sl lv 0 n cmv 1 exv) (.i .i64 (.ofNat n)) (n64 q) (n64 b') (n64 c') (.i .i64 (.ofNat n)) (.i .i64 (.ofNat n)) (mem bs'):=by
 intro k
 induction k with
 |zero=>
  intro i f bs us b c h1 h2 hl su hb hc hv hi hf;have:i=n:=eP;subst this;exact⟨bs,us,b,c,h1,h2,rfl,su,hb,hc,hv,λ_ _=>rfl,λ_ _ _ h=>h,rfl⟩
 |succ k ih=>
  intro i f bs us b c h1 h2 hl su hb hc hv hi hf;obtain⟨f,rfl⟩:∃p,f=p+1:=⟨f-1,eP⟩
  have d1:dgt us (j+i)<B64:=oj su eV _;have d2:dgt vf i<B64:=oj sv eV _;obtain⟨hi',lo',m1,m2,m3⟩:=DN hq d2;obtain⟨lo,cc,a1,a2,a3,a4⟩:=xg (c:=0) m3 hc eP;obtain⟨z',b',s1,s2,s3,s4⟩:=KQ d1 a2 hb;have h3:=z2K m2 a4;have hcb:=Ti hq d2 hc h3;have z78:=zI (B:=B64) z' (j9 (show j+i<us.length by omega));rw[bi]at z78;have z6O:=z0C hv z78 s4 h3;rw[<-qQ,<-bI]at z6O;obtain⟨bs',us',b2,c2,k1,k2,k3,k4,k5,k6,k7,k8,k9,k10⟩:=ih (i+1) f (bs.set l ⟨c64 (us.set (j+i) z'),.rw⟩) (us.set (j+i) z') b' (hi'+cc) (xD h1) (fc hne h2) (by rw[a8];exact hl) (vS su s2) s3 hcb z6O eP eP;refine⟨bs',us',b2,c2,k1,k2,by rw[k3,a8],k4,k5,k6,k7,λt ht=>by rw[k8 t ht,sO eP],λl' x hl' hx=>k9 l' x hl' (fc hl' hx),?_⟩;rw[ep];have e0:vf[0+i]?=some (dgt vf (0+i)):=j9 eP;unfold jK;refine th (gX eP) (th fG (th (vb h2 eP eP) ?_));rw[aN];refine th (fX m1) (th iG (th iF (th (a1 _ _) (th iG (th iF (th (Ly hcb) (th (vb h1 eP eP) (th (s1 _ _) (th iG (th iF (th (Ch h1 eP eP) (th (gA eP) ?_))))))))))));rw[eO f 1 k];exact k10
def z1G{B j i v0 v1 vy z z' c c' y V:Nat}(hv:v0+c*(B^j*B^i)=V+vy*B^j)(h1:v1+z*(B^j*B^i)=v0+z'*(B^j*B^i))(h2:c'*B+z'=z+y+c):
 v1+c'*(B^j*(B^i*B))=V+(vy+y*B^i)*B^j:=by
 generalize B^j=P at*;generalize B^i=Q at*;have h4:(c'*B+z')*(P*Q)=(z+y+c)*(P*Q):=by rw[h2]
 grind
def Wa{φ l lv j n cm cmv V:Nat}{ex exv:Bool}{x53:D}{vf:eZ}{kk:fK}(sv:Sm B64 vf)(hvf:n<=vf.length)(hne:l≠lv)(hn:n<=100000000000):∀(k i f:Nat)(bs:fQ)(us:eZ)(c:Nat),
 bs[l]?=some ⟨c64 us,.rw⟩->bs[lv]?=some ⟨c64 vf,.rw⟩->j+n<us.length->Sm B64 us->c<=1->vl B64 us+c*(B64^j*B64^i)=V+vl B64 (vf.take i)*B64^j->i+k=n->k+1<f->
 ∃bs' us' c',bs'[l]?=some ⟨c64 us',.rw⟩/\bs'[lv]?=some ⟨c64 vf,.rw⟩/\us'.length=us.length/\Sm B64 us'/\c'<=1/\vl B64 us'+c'*(B64^j*B64^n)=V+vl B64 (vf.take n)*B64^j/\(∀t,j+n<=t->dgt us' t=dgt us t)/\(∀l' x,l≠l'->bs[l']?=some x->bs'[l']?=some x)/\
 lp lK (qX φ kk) f (.sl l j (n+1) cm 1 ex) (.sl lv 0 n cmv 1 exv) (.i .i64 (.ofNat n)) x53 (n64 c) (.i .i64 (.ofNat n)) (.i .i64 (.ofNat i)) (mem bs)=
 lp lK (qX φ kk) (f-k) (.sl l j (n+1) cm 1 ex) (.sl lv 0 n cmv 1 exv) (.i .i64 (.ofNat n)) x53 (n64 c') (.i .i64 (.ofNat n)) (.i .i64 (.ofNat n)) (mem bs'):=by
 intro k
 induction k with
 |zero=>
  intro i f bs us c h1 h2 hl su hc hv hi hf;have:i=n:=eP;subst this;exact⟨bs,us,c,h1,h2,rfl,su,hc,hv,λ_ _=>rfl,λ_ _ _ h=>h,rfl⟩
 |succ k ih=>
  intro i f bs us c h1 h2 hl su hc hv hi hf;obtain⟨f,rfl⟩:∃p,f=p+1:=⟨f-1,eP⟩
  have d1:dgt us (j+i)<B64:=oj su eV _;have d2:dgt vf i<B64:=oj sv eV _;obtain⟨z',c',a1,a2,a3,a4⟩:=xg d1 d2 hc;have z78:=zI (B:=B64) z' (j9 (show j+i<us.length by omega));rw[bi]at z78;have z6O:=z1G hv z78 a4;rw[<-qQ,<-bI]at z6O;obtain⟨bs',us',c2,k1,k2,k3,k4,k5,k6,k7,k8,k9⟩:=ih (i+1) f (bs.set l ⟨c64 (us.set (j+i) z'),.rw⟩) (us.set (j+i) z') c' (xD h1) (fc hne h2) (by rw[a8];exact hl) (vS su a2) a3 z6O eP eP;refine⟨bs',us',c2,k1,k2,by rw[k3,a8],k4,k5,k6,λt ht=>by rw[k7 t ht,sO eP],λl' x hl' hx=>k8 l' x hl' (fc hl' hx),?_⟩;rw[ep];unfold qX;refine th (gX eP) (th fG (th (vb h1 eP eP) (th (vb h2 eP eP) ?_)));rw[aN];refine th (a1 _ _) (th iG (th iF (th (Ch h1 eP eP) (th (gA eP) ?_))));rw[eO f 1 k];exact k9
def z0H{PN v1 v2 z z' c b b' B qv V:Nat}(h:v1+qv=V+(b+c)*PN)(h1:v2+z*PN=v1+z'*PN)(h2:z'+c+b=z+b'*B):v2+qv=V+b'*(B*PN):=by
 have h4:(z'+c+b)*PN=(z+b'*B)*PN:=by rw[h2]
 grind
def z2V{P v q Q V v2 R lo:Nat}(hv:0<v)(hP:0<P)(hV:V=lo+P*R)(hlo:lo<P)(hQ:Q=R/v)(hq:Q<=q)(h:v2+q*v*P=V):q=Q:=by
 refine znk ?_ hq;rw[hQ,di hv];rcases aY R (q*v)with h1|h1
 ·exfalso;have:=ae P h1;rw[Nat.succ_eq_add_one,bK,a9,aL P (q*v)]at this;omega
 ·exact h1
def z4w{P v q Q V v2 R lo X:Nat}(hv:0<v)(hP:0<P)(hV:V=lo+P*R)(hQ:Q=R/v)(hq:q<=Q+1)(hX:v2<X)(h:v2+q*v*P=V+X):q=Q+1:=by
 refine znk hq ?_;rcases aY Q q with h1|h1
 ·exact h1
 ·exfalso;have h2:q*v<=Q*v:=aK _ h1;have h3:=dG R v;rw[<-hQ]at h3;have h4:q*v*P<=R*P:=aK _ eP;rw[aL R]at h4;omega
def Y2{PN B v3 c z' lo W:Nat}(hc:c<=1)(hlo:lo<PN)(h3:v3=lo+PN*z')(hz:z'<B)(hW:v3+c*PN=W+B*PN):c=1/\z'+1=B/\W=lo:=by
 have hc1:c=1:=by
  rcases(show c=0\/c=1 by omega)with h|h
  ·exfalso;subst h;have:=ae PN (show z'+1<=B from hz);rw[bK,a9,aL PN B]at this;omega
  ·exact h
 subst hc1;have hz1:z'+1=B:=by
  rcases aY (z'+1) B with h|h
  ·exfalso;have:=ae PN (show z'+1+1<=B from h);rw[bK PN (z'+1) 1,bK PN z' 1,a9,aL PN B]at this;omega
  ·omega
 refine⟨rfl,hz1,?_⟩;subst hz1;rw[aS,ao,aL z']at hW;omega
end
end Go.Proofs.Ev
