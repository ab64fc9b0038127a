/- An evaluator of the code in the model, proved sound, and residuals of code as Lean functions. -/
import Derived.Test.YthljpappkomocaaGreatA0
import Derived.Deep.LoopGhost
import Derived.Scope
import Derived.Orders
set_option linter.all false
namespace Go.Proofs.Ev
theorem uJ{α β:Type}{f:α→Option (β×List Nat)}:∀{xs:List α}{ys:List β}{ls:List Nat},iP f xs=some (ys,ls)→
 ys.length=xs.length∧∀(j:Nat)(y:β),ys[j]?=some y→∃x lj,xs[j]?=some x∧f x=some (y,lj)∧∀l∈lj,l∈ls:=by
 intro xs
 induction xs with
 |nil=>intro ys ls h;simp only[iP,aA,aJ]at h;obtain⟨rfl,rfl⟩:=h;exact⟨rfl,λj y h=>by simp at h⟩
 |cons x xs ih=>
  intro ys ls h;simp only[iP]at h;split at h
  ·rename_i y a hx;split at h
   ·rename_i ys' b hr;simp only[aA,aJ]at h;obtain⟨rfl,rfl⟩:=h;obtain⟨h1,h2⟩:=ih hr;refine⟨by simp[h1],λj z hj=>?_⟩;cases j with
    |zero=>
     simp only[bG,aA]at hj;subst hj;exact⟨x,a,rfl,hx,λl hl=>b9 _ hl⟩
    |succ j=>
     obtain⟨x',lj,e1,e2,e3⟩:=h2 j z (by simpa using hj);exact⟨x',lj,by simpa using e1,e2,λl hl=>cF _ (e3 l hl)⟩
   ·cases h
  ·cases h
theorem HJ{α β:Type}{f:α→Option (β×List Nat)}:∀{xs:List α}{ys:List β}{ls:List Nat},iP f xs=some (ys,ls)→∀l∈ls,∃x y lj,x∈xs∧f x=some (y,lj)∧l∈lj:=by
 intro xs
 induction xs with
 |nil=>intro ys ls h;simp only[iP,aA,aJ]at h;obtain⟨rfl,rfl⟩:=h;intro l hl;cases hl
 |cons x xs ih=>
  intro ys ls h;simp only[iP]at h;split at h
  ·rename_i y a hx;split at h
   ·rename_i ys' b hr;simp only[aA,aJ]at h;obtain⟨rfl,rfl⟩:=h;intro l hl;rcases am.1 hl with hl|hl
    ·exact⟨x,y,a,by simp,hx,hl⟩
    ·obtain⟨x',y',lj,e1,e2,e3⟩:=ih hr l hl;exact⟨x',y',lj,by simp[e1],e2,e3⟩
   ·cases h
  ·cases h
section
variable {P:Program} {im:Nat→Option Nat} {g:Nat→Option Blk} {μ:Nat→Nat×Nat} {w:World} {ok okp:Nat→Nat→Prop} {base:Nat}
theorem B7:∀(k:Nat)(d d':D)(ls:List Nat),res g k d=some (d',ls)→∀l∈ls,∃b,g l=some b∧b.st.live=true:=by
 intro k
 induction k with
 |zero=>intro d d' ls h;simp[res]at h
 |succ k ih=>
  intro d d' ls h;have list:∀(cs cs':List D)(l2:List Nat),iP (res g k) cs=some (cs',l2)→∀l∈l2,∃b,g l=some b∧b.st.live=true:=by
   intro cs cs' l2 hm l hl;obtain⟨x,y,lj,e1,e2,e3⟩:=HJ hm l hl;exact ih x y lj e2 l e3
  cases d<;>simp only[res]at h<;>try (simp only[aA,aJ]at h;obtain⟨rfl,rfl⟩:=h;intro l hl;cases hl;done)
  case u=>cases h
  case own=>cases h
  case sl l off len cm z ex=>
   cases hb:g l with
   |none=>rw[hb]at h;cases h
   |some b=>
    rw[hb]at h;simp only at h;split at h
    ·cases h
    ·rename_i hlive;split at h
     ·split at h
      ·rename_i cs l2 hm;simp only[aA,aJ]at h;obtain⟨rfl,rfl⟩:=h;intro l' hl';rcases bI.1 hl' with rfl|hl'
       ·exact⟨b,hb,by simpa using hlive⟩
       ·exact list _ _ _ hm l' hl'
      ·cases h
     ·cases h
  case ptr l off=>
   cases hb:g l with
   |none=>rw[hb]at h;cases h
   |some b=>
    rw[hb]at h;simp only at h;split at h
    ·cases h
    ·rename_i hlive;split at h
     ·rename_i cs l2 hm;simp only[aA,aJ]at h;obtain⟨rfl,rfl⟩:=h;intro l' hl';rcases bI.1 hl' with rfl|hl'
      ·exact⟨b,hb,by simpa using hlive⟩
      ·exact list _ _ _ hm l' hl'
     ·cases h
  all_goals
   split at h
   ·rename_i cs l2 hm;simp only[aA,aJ]at h;obtain⟨rfl,rfl⟩:=h;exact list _ _ _ hm
   ·cases h
theorem Eo(R:Rel im g μ w ok okp base){okx:Nat→Nat→Prop}(hok:∀b o,ok b o→okx b o):∀(k:Nat)(d d':D)(ls:List Nat)(v:Value),res g k d=some (d',ls)→VR im g μ w ok d v→
 (∀l,l∈ls→∀b,g l=some b→okN okx (μ l).1 (μ l).2 b.cs.length)→TR im w okx d' v:=by
 intro k
 induction k with
 |zero=>intro d d' ls v h;simp[res]at h
 |succ k ih=>
  intro d d' ls v h hv hx;have list:∀(cs cs':List D)(l2:List Nat)(vs:List Value),iP (res g k) cs=some (cs',l2)→VRl im g μ w ok cs vs→(∀l∈l2,l∈ls)→TRl im w okx cs' vs:=by
   intro cs cs' l2 vs hm hv hsub;obtain⟨m1,m2⟩:=uJ hm;refine Lt.2 ⟨by rw[jD hv,m1],λj y hj=>?_⟩;obtain⟨x,lj,e1,e2,e3⟩:=m2 j y hj;obtain⟨u,u1,u2⟩:=(jp.1 hv).2 j x e1;exact⟨u,u1,ih x y lj u e2 u2 (λl hl=>hx l (hsub l (e3 l hl)))⟩
  have cells:∀(cs cs':List D)(l2:List Nat)(b o:Nat),iP (res g k) cs=some (cs',l2)→VRc im g μ w ok cs b o→(∀l∈l2,l∈ls)→TRc im w okx cs' b o:=by
   intro cs cs' l2 b o hm hv hsub;obtain⟨m1,m2⟩:=uJ hm;refine DA λj y hj=>?_;obtain⟨x,lj,e1,e2,e3⟩:=m2 j y hj;obtain⟨u,u1,u2⟩:=xR hv e1;exact⟨u,u1,ih x y lj u e2 u2 (λl hl=>hx l (hsub l (e3 l hl)))⟩
  cases d<;>simp only[res]at h<;>simp only[VR]at hv
  case u=>cases h
  case sl l off len cm z ex=>
   obtain⟨b,p,cap,hb,rfl,hl⟩:=hv;rw[hb]at h;simp only at h;split at h
   ·cases h
   ·rename_i hlive;have hlive':b.st.live=true:=by simpa using hlive
    obtain⟨l1,rfl,l2',l3,l5⟩:=hl hlive';split at h
    ·rename_i r hcut;split at h
     ·rename_i cs l2 hm;simp only[aA,aJ]at h;obtain⟨rfl,rfl⟩:=h;simp only[TR];have hN:=((hx l (by simp) b hb).drop off).take (len*z);rw[←(vv hcut).1,←(uJ hm).1]at hN;refine⟨_,_,rfl,by omega,λhe=>?_,λ_=>⟨_,rfl,rfl,hN,?_⟩⟩
      ·simp only[ae,beq_iff_eq]at he;rw[l3 he.1];exact he.2
      ·exact cells _ _ _ _ _ hm (vw hcut (R.blk l b hb hlive').2) (λl' hl'=>by simp[hl'])
     ·cases h
    ·cases h
  case ptr l off=>
   obtain⟨b,p,hb,rfl,hl⟩:=hv;rw[hb]at h;simp only at h;split at h
   ·cases h
   ·rename_i hlive;have hlive':b.st.live=true:=by simpa using hlive
    have hp:=hl hlive';subst hp;split at h
    ·rename_i cs l2 hm;simp only[aA,aJ]at h;obtain⟨rfl,rfl⟩:=h;simp only[TR];have hN:=(hx l (by simp) b hb).drop off;rw[←(uJ hm).1]at hN;exact⟨_,rfl,rfl,hN,cells _ _ _ _ _ hm (Cw (R.blk l b hb hlive').2 off) (λl' hl'=>by simp[hl'])⟩
    ·cases h
  case agg cs=>
   obtain⟨arr,rfl,hv⟩:=hv;split at h
   ·rename_i cs' l2 hm;simp only[aA,aJ]at h;obtain⟨rfl,rfl⟩:=h;simp only[TR];exact⟨arr,rfl,list _ _ _ _ hm hv (λ_ h=>h)⟩
   ·cases h
  case tup cs=>
   obtain⟨arr,rfl,hv⟩:=hv;split at h
   ·rename_i cs' l2 hm;simp only[aA,aJ]at h;obtain⟨rfl,rfl⟩:=h;simp only[TR];exact⟨arr,rfl,list _ _ _ _ hm hv (λ_ h=>h)⟩
   ·cases h
  case fn f cs=>
   obtain⟨F,arr,hF,rfl,hv⟩:=hv;split at h
   ·rename_i cs' l2 hm;simp only[aA,aJ]at h;obtain⟨rfl,rfl⟩:=h;simp only[TR];exact⟨F,arr,hF,rfl,list _ _ _ _ hm hv (λ_ h=>h)⟩
   ·cases h
  case tree cs len ex=>
   simp only[aA,aJ]at h;obtain⟨rfl,rfl⟩:=h;exact wG hok (λ_ _ _=>rfl) _ _ hv
  case fp cs=>
   simp only[aA,aJ]at h;obtain⟨rfl,rfl⟩:=h;exact wG hok (λ_ _ _=>rfl) _ _ hv
  all_goals
   simp only[aA,aJ]at h;obtain⟨rfl,rfl⟩:=h;subst hv;simp only[TR]
end
section
variable {im:Nat→Option Nat} {μ:Nat→Nat×Nat} {w:World} {ok okp:Nat→Nat→Prop} {base:Nat}
def ja(σ:Sto):Prop:=∀l,σ.nx≤l→σ.get l=none
theorem ja.put{σ:Sto}(h:ja σ){l:Nat}{b b':Blk}(hl:σ.get l=some b):ja (σ.put l b'):=by
 intro m hm;rw[Sto.get_put];by_cases e:m=l
 ·subst e;rw[h m hm]at hl;cases hl
 ·rw[aE e];exact h m hm
theorem ja.add1{σ:Sto}(h:ja σ)(b:Blk):ja (σ.adds [b]):=by
 intro m hm;have hn:(σ.adds [b]).nx=σ.nx+1:=rfl;rw[hn]at hm;rw[Sto.get_add1,aE (by omega)];exact h m (by omega)
theorem Fb:∀(ls:List Nat)(σ:Sto),(σ.frz ls).nx=σ.nx
 |[],σ=>rfl
 |l::ls,σ=>by
  simp only[Sto.frz];split
  ·rw[Fb ls];rfl
  ·exact Fb ls σ
theorem AC:∀(ls:List Nat)(σ:Sto),ja σ→ja (σ.frz ls)
 |[],σ,h=>h
 |l::ls,σ,h=>by
  simp only[Sto.frz];split
  ·rename_i b hb;exact AC ls _ (h.put hb)
  ·exact AC ls σ h
def t5(g:Nat→Option Blk):List Nat→Nat→Option Blk
 |[]=>g
 |l::ls=>match g l with
  |some b=>t5 (upd g l (some ⟨b.cs,b.st.fz⟩)) ls
  |none=>t5 g ls
theorem Fe:∀(ls:List Nat)(σ:Sto),(σ.frz ls).get=t5 σ.get ls
 |[],σ=>rfl
 |l::ls,σ=>by
  simp only[Sto.frz,t5];cases h:σ.get l with
  |none=>exact Fe ls σ
  |some b=>
   have hg:(σ.put l ⟨b.cs,b.st.fz⟩).get=upd σ.get l (some ⟨b.cs,b.st.fz⟩):=get_put _ _ _;show((σ.put l ⟨b.cs,b.st.fz⟩).frz ls).get=t5 (upd σ.get l (some ⟨b.cs,b.st.fz⟩)) ls;rw[Fe ls,hg]
theorem AD{m:Nat}:∀(ls:List Nat)(g:Nat→Option Blk),g m=none→t5 g ls m=none
 |[],g,h=>h
 |l::ls,g,h=>by
  simp only[t5];cases hb:g l with
  |none=>exact AD ls g h
  |some b=>
   refine AD ls _ ?_;by_cases e:m=l
   ·subst e;rw[h]at hb;cases hb
   ·rw[fJ _ _ e];exact h
theorem Hf:∀(ls:List Nat)(g:Nat→Option Blk)(ok:Nat→Nat→Prop),Rel im g μ w ok okp base→(∀l∈ls,∃b,g l=some b∧b.st.live=true)→
 ∃ok',Rel im (t5 g ls) μ w ok' okp base∧Stp g μ w ok (t5 g ls) μ w ok' base∧∀l∈ls,∀b,g l=some b→okN ok' (μ l).1 (μ l).2 b.cs.length
 |[],g,ok,R,_=>⟨ok,R,.refl ..,λl hl=>by cases hl⟩
 |l::ls,g,ok,R,h=>by
  obtain⟨b,hb,hlive⟩:=h l (by simp);obtain⟨ok1,r1,r2,r3⟩:=R.freeze hb hlive;obtain⟨ok',k1,k2,k3⟩:=Hf ls (upd g l (some ⟨b.cs,b.st.fz⟩)) _ r1 (λm hm=>by
   obtain⟨b',hb',hl'⟩:=h m (by simp[hm]);by_cases e:m=l
   ·subst e;exact⟨_,fB _ _ _,(BE _).trans hlive⟩
   ·exact⟨b',by rw[fJ _ _ e];exact hb',hl'⟩)
  simp only[t5,hb];refine⟨ok',k1,r2.trans k2,λm hm b0 hb0=>?_⟩;by_cases e:m=l
  ·subst e;rw[hb]at hb0;simp only[aA]at hb0;subst hb0;exact r3.mono k2.okk
  ·rcases bI.1 hm with rfl|hm
   ·exact absurd rfl e
   ·exact k3 m hm b0 (by rw[fJ _ _ e];exact hb0)
end
section
variable {P:Program} {im:Nat→Option Nat}
def Ur(im:Nat→Option Nat)(w:World)(ok:Nat→Nat→Prop)(base:Nat)(ob:Option Nat)(cs:List D)(len z:Nat)(v:Value):Prop:=
 ∃bb bo cap,ob=some bb∧base≤bb∧v=.slice (some ⟨bb,bo,none⟩) len cap∧len≤cap∧bo+cap*z≤pz w bb∧
  (∃arr el fr,w.heap[bb]?=some (.cells arr el fr)∧∀o,o<arr.size→¬(fr.1≤o∧o<fr.2))∧TRc im w ok cs bb bo
def Uq(im:Nat→Option Nat)(w:World)(ok:Nat→Nat→Prop)(base:Nat)(ob:Option Nat):D→Value→Prop
 |.own cs len z,v=>Ur im w ok base ob cs len z v
 |.tup (.own cs len z::ds),v=>∃v0 vs,v=.tuple (v0::vs).toArray∧Ur im w ok base ob cs len z v0∧TRl im w ok ds vs
 |d,v=>TR im w ok d v
def RR(im:Nat→Option Nat)(okp:Nat→Nat→Prop)(w w':World)(r:D)(v:Value):Prop:=
 w.heap.size≤w'.heap.size∧(∀b,b<w.heap.size→w'.heap[b]?=w.heap[b]?)∧Same w w'∧
 ∃ob:Option Nat,Uq im w' (λb o=>okp b o∨(w.heap.size≤b∧b<w'.heap.size∧some b≠ob)) w.heap.size ob r v
def GC(P:Program)(im:Nat→Option Nat)(F:FuncId)(as:List D)(r:D):Prop:=
 ∀(vs:List Value)(w:World)(okp:Nat→Nat→Prop),TRl im w okp as vs→(∀b o,okp b o→b<w.heap.size)→
  Calls P F vs.toArray w (λe w'=>match e with
   |.returned v=>RR im okp w w' r v
   |.outgrown=>False
   |.panicked _=>False)
def Snd(P:Program)(im:Nat→Option Nat)(F:FuncId)(M:List D→Option D):Prop:=
 ∀(as:List D)(r:D),M as=some r→GC P im F as r
variable {g:Nat→Option Blk} {μ:Nat→Nat×Nat} {w w':World} {ok okp:Nat→Nat→Prop} {base:Nat}
theorem Rel.grow(R:Rel im g μ w ok okp base)(hs:w.heap.size≤w'.heap.size)(hk:∀b,b<w.heap.size→w'.heap[b]?=w.heap[b]?)(sm:Same w w')(ob:Option Nat):
 Rel im g μ w' (λb o=>ok b o∨(w.heap.size≤b∧b<w'.heap.size∧some b≠ob)) okp base∧Stp g μ w ok g μ w' (λb o=>ok b o∨(w.heap.size≤b∧b<w'.heap.size∧some b≠ob)) base:=by
 have blt:∀m b,g m=some b→b.st.live=true→(μ m).1<w.heap.size:=λm b h hb=>by
  obtain⟨⟨arr,el,fr,hh,_⟩,_⟩:=R.blk m b h hb;exact(bk.1 hh).1
 have st:Stp g μ w ok g μ w' (λb o=>ok b o∨(w.heap.size≤b∧b<w'.heap.size∧some b≠ob)) base:=
  ⟨λ_ _ h=>.inl h,λb o h=>nA (hk b (R.okl b o h).1),λb h=>hk b (bp h R.bas),λl b h=>⟨b,h,λhl=>⟨hl,rfl,sO (hk _ (blt l b h hl))⟩⟩,hs,sm⟩
 refine⟨⟨λl b h hl=>?_,λl b h hb=>⟨(R.wrb l b h hb).1,λo ho=>?_⟩,λl b h hb=>⟨(R.apd l b h hb).1,λo hle ho=>?_⟩,λl b h hl hb=>(R.frz l b h hl hb).mono λ_ _ h=>.inl h,R.inj,λb o h=>?_,λb o h=>.inl (R.okp b o h),by have:=R.bas;omega⟩,st⟩
 ·obtain⟨⟨arr,el,fr,hh,hf⟩,hv⟩:=R.blk l b h hl;have hlt:=blt l b h hl;exact⟨⟨arr,el,fr,by rw[hk _ hlt];exact hh,hf⟩,mL st _ _ _ (λj _=>nA (hk _ hlt)) hv⟩
 ·rcases ho with ho|ho
  ·exact(R.wrb l b h hb).2 o ho
  ·have:=blt l b h (nc hb);omega
 ·rcases ho with ho|ho
  ·exact(R.apd l b h hb).2 o hle ho
  ·have:=blt l b h (fw hb);omega
 ·rcases h with h|h
  ·have:=R.okl b o h;exact⟨by omega,this.2⟩
  ·exact⟨h.2.1,.inr (by have:=R.bas;omega)⟩
theorem Rel.adopt(R:Rel im g μ w ok okp base){l:Nat}(hl:g l=none){cs:List D}{bb bo:Nat}(hb:base≤bb)(hno:∀o,¬ok bb o)(hnot:∀m b,g m=some b→b.st.live=true→(μ m).1≠bb)
 (harr:∃arr el fr,w.heap[bb]?=some (.cells arr el fr)∧∀o,o<arr.size→¬(fr.1≤o∧o<fr.2)) (hc:TRc im w ok cs bb bo):
 Rel im (upd g l (some ⟨cs,.rw⟩)) (upd μ l (bb,bo)) w ok okp base∧Stp g μ w ok (upd g l (some ⟨cs,.rw⟩)) (upd μ l (bb,bo)) w ok base:=by
 have gl:∀m b,g m=some b→m≠l:=λm b h e=>by subst e;rw[hl]at h;cases h
 have st:Stp g μ w ok (upd g l (some ⟨cs,.rw⟩)) (upd μ l (bb,bo)) w ok base:=
  ⟨λ_ _ h=>h,λ_ _ _=>rfl,λ_ _=>rfl,λm b h=>⟨b,by rw[fJ _ _ (gl m b h)];exact h,λhl=>⟨hl,fJ _ _ (gl m b h),rfl⟩⟩,aD _,.refl _⟩
 refine⟨⟨λm b h hb'=>?_,λm b h hb'=>?_,λm b h hb'=>?_,λm b h hb' hb2=>?_,λm b m' b' h h' hb1 hb2 he=>?_,R.okl,R.okp,R.bas⟩,st⟩
 ·by_cases e:m=l
  ·subst e;rw[fB]at h ⊢;simp only[aA]at h;subst h;exact⟨harr,yS hc⟩
  ·rw[fJ _ _ e]at h ⊢;obtain⟨h1,h2⟩:=R.blk m b h hb';exact⟨h1,mL st _ _ _ (λ_ _=>rfl) h2⟩
 ·by_cases e:m=l
  ·subst e;rw[fB];exact⟨hb,hno⟩
  ·rw[fJ _ _ e]at h ⊢;exact R.wrb m b h hb'
 ·by_cases e:m=l
  ·subst e;rw[fB];exact⟨hb,λo _=>hno o⟩
  ·rw[fJ _ _ e]at h ⊢;exact R.apd m b h hb'
 ·by_cases e:m=l
  ·subst e;rw[fB]at h;simp only[aA]at h;subst h;simp[Stt.wr]at hb2
  ·rw[fJ _ _ e]at h ⊢;exact R.frz m b h hb' hb2
 ·by_cases e:m=l
  ·by_cases e':m'=l
   ·omega
   ·rw[fJ _ _ e']at h' he;subst e;rw[fB]at he;exact absurd he.symm (hnot m' b' h' (fw hb2))
  ·rw[fJ _ _ e]at h he;by_cases e':m'=l
   ·subst e';rw[fB]at he;exact absurd he (hnot m b h (fw hb1))
   ·rw[fJ _ _ e']at h' he;exact R.inj m b m' b' h h' hb1 hb2 he
theorem UL{nx:Nat}{r:D}(hn:(mat nx r).2≠[]→g nx=none){v:Value}(R:Rel im g μ w ok okp base)(hr:RR im ok w w' r v):
 ∃μ' ok',Rel im (rm g nx (mat nx r).2) μ' w' ok' okp base∧Stp g μ w ok (rm g nx (mat nx r).2) μ' w' ok' base∧VR im (rm g nx (mat nx r).2) μ' w' ok' (mat nx r).1 v:=by
 obtain⟨hs,hk,hsm,ob,ho⟩:=hr;obtain⟨r1,r2⟩:=R.grow hs hk hsm ob;have own:g nx=none→∀cs len z v0,Ur im w' (λb o=>ok b o∨(w.heap.size≤b∧b<w'.heap.size∧some b≠ob)) w.heap.size ob cs len z v0→
  ∃μ',Rel im (upd g nx (some ⟨cs,.rw⟩)) μ' w' (λb o=>ok b o∨(w.heap.size≤b∧b<w'.heap.size∧some b≠ob)) okp base∧
   Stp g μ w ok (upd g nx (some ⟨cs,.rw⟩)) μ' w' (λb o=>ok b o∨(w.heap.size≤b∧b<w'.heap.size∧some b≠ob)) base∧
   VR im (upd g nx (some ⟨cs,.rw⟩)) μ' w' (λb o=>ok b o∨(w.heap.size≤b∧b<w'.heap.size∧some b≠ob)) (.sl nx 0 len len z false) v0:=by
  intro hn cs len z v0 h;obtain⟨bb,bo,cap,h1,h2,h3,h4,h5,h6,h7⟩:=h;obtain⟨a1,a2⟩:=r1.adopt (l:=nx) (bo:=bo) hn (by have:=R.bas;omega) (λo hq=>by
   rcases hq with hq|hq
   ·have:=(R.okl bb o hq).1;omega
   ·exact hq.2.2 h1.symm) (λm b hm hl he=>by
   obtain⟨⟨arr,el,fr,hh,_⟩,_⟩:=R.blk m b hm hl;have:=(bk.1 hh).1;omega) h6 h7
  refine⟨_,a1,r2.trans a2,?_⟩;subst h3;simp only[VR];exact⟨_,_,_,fB _ _ _,rfl,λ_=>⟨aD _,by rw[fB];rfl,h4,(λh=>by cases h),by rw[fB];show bo+0+cap*z≤_;omega⟩⟩
 by_cases hown:∃cs len z,r=.own cs len z
 ·obtain⟨cs,len,z,rfl⟩:=hown;obtain⟨μ',k1,k2,k3⟩:=own (hn (by simp[mat])) cs len z v ho;exact⟨μ',_,by simp only[mat,rm];exact k1,by simp only[mat,rm];exact k2,by simp only[mat,rm];exact k3⟩
 ·by_cases htup:∃cs len z ds,r=.tup (.own cs len z::ds)
  ·obtain⟨cs,len,z,ds,rfl⟩:=htup;obtain⟨v0,vs,rfl,h1,h2⟩:=ho;obtain⟨μ',k1,k2,k3⟩:=own (hn (by simp[mat])) cs len z v0 h1;refine⟨μ',_,by simp only[mat,rm];exact k1,by simp only[mat,rm];exact k2,?_⟩;simp only[mat,rm,VR];refine⟨_,rfl,?_⟩;simp only[VRl];exact⟨v0,vs,rfl,k3,qz _ _ h2⟩
  ·have hm:mat nx r=(r,[]):=by
    cases r<;>try rfl
    case own cs len z=>exact absurd ⟨cs,len,z,rfl⟩ hown
    case tup vs=>
     cases vs with
     |nil=>rfl
     |cons d ds=>
      cases d<;>try rfl
      case own cs len z=>exact absurd ⟨cs,len,z,ds,rfl⟩ htup
   have ht:TR im w' (λb o=>ok b o∨(w.heap.size≤b∧b<w'.heap.size∧some b≠ob)) r v:=by
    cases r<;>try exact ho
    case own cs len z=>exact absurd ⟨cs,len,z,rfl⟩ hown
    case tup vs=>
     cases vs with
     |nil=>exact ho
     |cons d ds=>
      cases d<;>try exact ho
      case own cs len z=>exact absurd ⟨cs,len,z,ds,rfl⟩ htup
   rw[hm];exact⟨μ,_,r1,r2,Cx _ _ ht⟩
theorem Pm(R:Rel im g μ w ok okp base){okx:Nat→Nat→Prop}(hok:∀b o,ok b o→okx b o){k:Nat}{cs cs':List D}{l2:List Nat}{b o:Nat}(hm:iP (res g k) cs=some (cs',l2))(hv:VRc im g μ w ok cs b o)
 (hx:∀l,l∈l2→∀b,g l=some b→okN okx (μ l).1 (μ l).2 b.cs.length):TRc im w okx cs' b o:=by
 obtain⟨m1,m2⟩:=uJ hm;refine DA λj y hj=>?_;obtain⟨x,lj,e1,e2,e3⟩:=m2 j y hj;obtain⟨u,u1,u2⟩:=xR hv e1;exact⟨u,u1,Eo R hok k x y lj u e2 u2 (λl hl=>hx l (e3 l hl))⟩
theorem Bu(R:Rel im g μ w ok okp base){okx:Nat→Nat→Prop}(hok:∀b o,ok b o→okx b o){k:Nat}{cs cs':List D}{l2:List Nat}{vs:List Value}(hm:iP (res g k) cs=some (cs',l2))(hv:VRl im g μ w ok cs vs)
 (hx:∀l,l∈l2→∀b,g l=some b→okN okx (μ l).1 (μ l).2 b.cs.length):TRl im w okx cs' vs:=by
 obtain⟨m1,m2⟩:=uJ hm;refine Lt.2 ⟨by rw[jD hv,m1],λj y hj=>?_⟩;obtain⟨x,lj,e1,e2,e3⟩:=m2 j y hj;obtain⟨u,u1,u2⟩:=(jp.1 hv).2 j x e1;exact⟨u,u1,Eo R hok k x y lj u e2 u2 (λl hl=>hx l (e3 l hl))⟩
theorem rH{k:Nat}{cs cs':List D}{l2:List Nat}(hm:iP (res g k) cs=some (cs',l2)):∀l∈l2,∃b,g l=some b∧b.st.live=true:=by
 intro l hl;obtain⟨x,y,lj,e1,e2,e3⟩:=HJ hm l hl;exact B7 k x y lj e2 l e3
theorem B8{r:Option (D×List Nat)}{x:D×List Nat×List Nat}(h:yi r=some x):∃d' ls,r=some (d',ls)∧x=(d',[],ls):=by
 cases r with
 |none=>cases h
 |some q=>
  obtain⟨d',ls⟩:=q;simp only[yi,aA]at h;exact⟨d',ls,rfl,h.symm⟩
theorem Hl{own:Bool}{k:Nat}{d:D}{x:D×List Nat×List Nat}(hx:tN own g k d=some x):
 (∃l off len cm z ex b rr cs ls,d=.sl l off len cm z ex∧g l=some b∧b.st.wr=true∧cut off (len*z) b.cs=some rr∧iP (res g k) rr=some (cs,ls)∧x=(.own cs len z,[l],ls))∨
 (∃d' ls,res g k d=some (d',ls)∧x=(d',[],ls)):=by
 unfold tN at hx;split at hx
 ·rename_i l off len cm z ex;cases hb:g l with
  |none=>rw[hb]at hx;cases hx
  |some b=>
   rw[hb]at hx;simp only at hx;split at hx
   ·rename_i hw;split at hx
    ·rename_i rr hcut;split at hx
     ·rename_i cs ls hm;simp only[aA]at hx;exact .inl ⟨l,off,len,cm,z,ex,b,rr,cs,ls,rfl,hb,hw,hcut,hm,hx.symm⟩
     ·cases hx
    ·cases hx
   ·obtain⟨d',ls,h1,h2⟩:=B8 hx;exact .inr ⟨d',ls,h1,h2⟩
 ·obtain⟨d',ls,h1,h2⟩:=B8 hx;exact .inr ⟨d',ls,h1,h2⟩
theorem Bg{ob:Option Nat}{d:D}{v:Value}(h:TR im w ok d v):Uq im w ok base ob d v:=by
 cases d with
 |own cs len z=>simp[TR]at h
 |tup vs=>
  cases vs with
  |nil=>exact h
  |cons y ys=>
   cases y with
   |own cs len z=>
    simp only[TR,TRl]at h;obtain⟨_,_,_,_,_,h,_⟩:=h;exact h.elim
   |_=>exact h
 |_=>exact h
theorem LN{w0:World}(R:Rel im g μ w ok okp w0.heap.size)(hlow:∀b,b<w0.heap.size→w.heap[b]?=w0.heap[b]?)(hsm:Same w0 w){own:Bool}{k:Nat}{d r:D}{v:Value}(h:nu own g k d=some r)(hv:VR im g μ w ok d v):
 RR im okp w0 w r v:=by
 refine⟨R.bas,hlow,hsm,?_⟩;have rF:∀(ls:List Nat),(∀l∈ls,∃b,g l=some b∧b.st.live=true)→∀l∈ls,∀b,g l=some b→okN (λb o=>okp b o∨(w0.heap.size≤b∧b<w.heap.size∧some b≠none)) (μ l).1 (μ l).2 b.cs.length:=by
  intro ls hl l hm b0 hb0 j hj;obtain⟨b,hb,hlive⟩:=hl l hm;rw[hb]at hb0;simp only[aA]at hb0;subst hb0;obtain⟨⟨arr,el,fr,hh,_⟩,_⟩:=R.blk l b hb hlive;have hlt:=(bk.1 hh).1;by_cases hw:b.st.wr=true
  ·exact .inr ⟨(R.wrb l b hb hw).1,hlt,by simp⟩
  ·rcases(R.okl _ _ (R.frz l b hb hlive (by simpa using hw) j hj)).2 with h|h
   ·exact .inl h
   ·exact .inr ⟨h,hlt,by simp⟩
 have hok0:∀b o,ok b o→okp b o∨(w0.heap.size≤b∧b<w.heap.size∧some b≠none):=λb o h=>by
  obtain⟨h1,h2⟩:=R.okl b o h;rcases h2 with h2|h2
  ·exact .inl h2
  ·exact .inr ⟨h2,h1,by simp⟩
 have owned:∀(l:Nat)(b:Blk),g l=some b→b.st.wr=true→∀(ls:List Nat),l∉ls→(∀l∈ls,∃b,g l=some b∧b.st.live=true)→
  (∀m∈ls,∀b,g m=some b→okN (λb o=>okp b o∨(w0.heap.size≤b∧b<w.heap.size∧some b≠some (μ l).1)) (μ m).1 (μ m).2 b.cs.length)∧(∀c o,ok c o→okp c o∨(w0.heap.size≤c∧c<w.heap.size∧some c≠some (μ l).1)):=by
  intro l b hb hw ls hnl hls;have nok:∀c o,ok c o→c≠(μ l).1:=λc o h e=>(R.wrb l b hb hw).2 o (e▸h);have q:∀c o,ok c o→okp c o∨(w0.heap.size≤c∧c<w.heap.size∧some c≠some (μ l).1):=λc o h=>by
   obtain⟨h1,h2⟩:=R.okl c o h;rcases h2 with h2|h2
   ·exact .inl h2
   ·exact .inr ⟨h2,h1,λe=>nok c o h (by simpa using e)⟩
  refine⟨λm hm b0 hb0 j hj=>?_,q⟩;obtain⟨b',hb',hlive⟩:=hls m hm;rw[hb']at hb0;simp only[aA]at hb0;subst hb0;obtain⟨⟨arr,el,fr,hh,_⟩,_⟩:=R.blk m b' hb' hlive;have hlt:=(bk.1 hh).1;by_cases hw':b'.st.wr=true
  ·refine .inr ⟨(R.wrb m b' hb' hw').1,hlt,λe=>?_⟩;have:m=l:=R.inj m b' l b hb' hb (kX hw') (kX hw) (by simpa using e);subst this;exact hnl hm
  ·exact q _ _ (R.frz m b' hb' hlive (by simpa using hw') j hj)
 have own1:∀(l off len cm z:Nat)(ex:Bool)(b:Blk)(rr cs:List D)(ls:List Nat)(v0:Value)(okx:Nat→Nat→Prop),g l=some b→b.st.wr=true→cut off (len*z) b.cs=some rr→iP (res g k) rr=some (cs,ls)→
  VR im g μ w ok (.sl l off len cm z ex) v0→(∀c o,ok c o→okx c o)→(∀m,m∈ls→∀b,g m=some b→okN okx (μ m).1 (μ m).2 b.cs.length)→Ur im w okx w0.heap.size (some (μ l).1) cs len z v0:=by
  intro l off len cm z ex b rr cs ls v0 okx hb hw hcut hm hv0 h1 h2;simp only[VR]at hv0;obtain⟨b',p,cap,hb',rfl,hl⟩:=hv0;rw[hb]at hb';simp only[aA]at hb';subst hb';obtain⟨l1,rfl,l2,l3,l5⟩:=hl (nc hw);obtain⟨ha,hvc⟩:=R.blk l b hb (nc hw);exact⟨(μ l).1,(μ l).2+off,cap,rfl,(R.wrb l b hb hw).1,rfl,by omega,l5,ha,Pm R h1 hm (vw hcut hvc) h2⟩
 have first:=λ(d:D)(x:D×List Nat×List Nat)(h:tN own g k d=some x)=>Hl h
 unfold nu at h;split at h
 ·rename_i dd ds;split at h
  ·rename_i d1 o ls ds' ls' h1 h2;split at h
   ·rename_i hall;simp only[aA]at h;subst h;simp only[VR]at hv;obtain⟨arr,rfl,hv⟩:=hv;simp only[VRl]at hv;obtain⟨v0,vs,e,hv0,hvs⟩:=hv;have earr:arr=(v0::vs).toArray:=by rw[←e]
    subst earr;rcases first _ _ h1 with⟨l,off,len,cm,z,ex,b,rr,cs,ls1,rfl,hb,hw,hcut,hm,he⟩|⟨d'',ls1,hr,he⟩
    ·simp only[aJ]at he;obtain⟨rfl,rfl,rfl⟩:=he;have hnl:l∉ls++ls':=by simpa using hall
     obtain⟨q1,q2⟩:=owned l b hb hw (ls++ls') hnl (λm hmm=>by
      rcases am.1 hmm with hmm|hmm
      ·exact rH hm m hmm
      ·exact rH h2 m hmm)
     exact⟨some (μ l).1,v0,vs,rfl,own1 l off len cm z ex b rr cs ls v0 _ hb hw hcut hm hv0 q2 (λm hmm=>q1 m (b9 _ hmm)),
      Bu R q2 h2 hvs (λm hmm=>q1 m (cF _ hmm))⟩
    ·simp only[aJ]at he;obtain⟨rfl,rfl,rfl⟩:=he;have t1:=Eo R hok0 k _ _ _ _ hr hv0 (rF ls (B7 k _ _ _ hr));have t2:=Bu R hok0 h2 hvs (rF ls' (rH h2));refine⟨none,Bg ?_⟩;simp only[TR,TRl];exact⟨_,rfl,v0,vs,rfl,t1,t2⟩
   ·cases h
  ·cases h
 ·split at h
  ·rename_i d1 o ls h1;split at h
   ·rename_i hall;simp only[aA]at h;subst h;rcases first _ _ h1 with⟨l,off,len,cm,z,ex,b,rr,cs,ls1,rfl,hb,hw,hcut,hm,he⟩|⟨d'',ls1,hr,he⟩
    ·simp only[aJ]at he;obtain⟨rfl,rfl,rfl⟩:=he;have hnl:l∉ls:=by simpa using hall
     obtain⟨q1,q2⟩:=owned l b hb hw ls hnl (rH hm);exact⟨some (μ l).1,own1 l off len cm z ex b rr cs ls v _ hb hw hcut hm hv q2 q1⟩
    ·simp only[aJ]at he;obtain⟨rfl,rfl,rfl⟩:=he;exact⟨none,Bg (Eo R hok0 k _ _ _ _ hr hv (rF ls (B7 k _ _ _ hr)))⟩
   ·cases h
  ·cases h
def Ah(r:D)(ls:List Nat):List Nat:=if tM r then[]else ls
theorem zJ{d:D}{v:Value}{g2:Nat→Option Blk}{μ2:Nat→Nat×Nat}{w2:World}{ok2:Nat→Nat→Prop}(hf:ot d=true)(h:TR im w ok d v):VR im g2 μ2 w2 ok2 d v:=by
 cases d<;>first|(simp only[ot]at hf;cases hf;done)|(simp only[TR]at h;simp only[VR];exact h)
theorem zI{f:D→Bool}{g2:Nat→Option Blk}{μ2:Nat→Nat×Nat}{w2:World}{ok2:Nat→Nat→Prop}(hf:∀d v,f d=true→TR im w ok d v→VR im g2 μ2 w2 ok2 d v):
 ∀(cs:List D)(vs:List Value),cs.all f=true→TRl im w ok cs vs→VRl im g2 μ2 w2 ok2 cs vs
 |[],_,_,h=>by simpa only[TRl,VRl]using h
 |d::ds,vs,ha,h=>by
  simp only[TRl]at h;obtain⟨v,r,e,h1,h2⟩:=h;simp only[cJ,ae]at ha;simp only[VRl];exact⟨v,r,e,hf d v ha.1 h1,zI hf ds r ha.2 h2⟩
theorem Qe{d:D}{v:Value}{g2:Nat→Option Blk}{μ2:Nat→Nat×Nat}{w2:World}{ok2:Nat→Nat→Prop}(hf:tL d=true)(h:TR im w ok d v):VR im g2 μ2 w2 ok2 d v:=by
 cases d with
 |agg cs=>
  simp only[TR]at h;obtain⟨arr,e,hl⟩:=h;simp only[VR];exact⟨arr,e,zI (λ_ _=>zJ) cs _ hf hl⟩
 |_=>exact zJ hf h
theorem UF{d:D}{v:Value}{g2:Nat→Option Blk}{μ2:Nat→Nat×Nat}{w2:World}{ok2:Nat→Nat→Prop}(hf:tM d=true)(h:TR im w ok d v):VR im g2 μ2 w2 ok2 d v:=by
 cases d with
 |agg cs=>
  simp only[TR]at h;obtain⟨arr,e,hl⟩:=h;simp only[VR];exact⟨arr,e,zI (λ_ _=>zJ) cs _ hf hl⟩
 |tup cs=>
  simp only[TR]at h;obtain⟨arr,e,hl⟩:=h;simp only[VR];exact⟨arr,e,zI (λ_ _=>Qe) cs _ hf hl⟩
 |_=>exact zJ hf h
theorem zH{r:D}(hf:tM r=true)(nx:Nat):mat nx r=(r,[]):=by
 cases r with
 |own _ _ _=>cases hf
 |tup vs=>
  cases vs with
  |nil=>rfl
  |cons d ds=>
   cases d with
   |own _ _ _=>simp[tM,tL,ot]at hf
   |_=>rfl
 |_=>rfl
theorem UG{ob:Option Nat}{r:D}{v:Value}(hf:tM r=true)(h:Uq im w ok base ob r v):TR im w ok r v:=by
 cases r with
 |own _ _ _=>cases hf
 |tup vs=>
  cases vs with
  |nil=>exact h
  |cons d ds=>
   cases d with
   |own _ _ _=>simp[tM,tL,ot]at hf
   |_=>exact h
 |_=>exact h
def Lu(im:Nat→Option Nat)(g:Nat→Option Blk)(μ:Nat→Nat×Nat)(w:World)(ok okp:Nat→Nat→Prop)(base:Nat)(nx:Nat)(ls:List Nat)(r:D)(v:Value)(w':World):Prop:=
 ∃μ' ok',Rel im (rm (t5 g (Ah r ls)) nx (mat nx r).2) μ' w' ok' okp base∧Stp g μ w ok (rm (t5 g (Ah r ls)) nx (mat nx r).2) μ' w' ok' base∧
  VR im (rm (t5 g (Ah r ls)) nx (mat nx r).2) μ' w' ok' (mat nx r).1 v
theorem FE(R:Rel im g μ w ok okp base){nx k:Nat}{r:D}(hn:(mat nx r).2≠[]→g nx=none){ds as:List D}{ls:List Nat}{vs:List Value}(hm:iP (res g k) ds=some (as,ls))(hv:VRl im g μ w ok ds vs)
 {F:FuncId} (hS:GC P im F as r):
 Calls P F vs.toArray w (λe w'=>match e with
  |.returned v=>Lu im g μ w ok okp base nx ls r v w'
  |.outgrown=>False
  |.panicked _=>False):=by
 have hlive:=rH hm;obtain⟨ok1,R1,S1,hls⟩:=Hf ls g ok R hlive;have hT:TRl im w ok1 as vs:=Bu R S1.okk hm hv hls;refine Calls.mono (hS vs w ok1 hT (λb o hb=>(R1.okl b o hb).1)) (λe w' he=>?_);cases e with
 |outgrown=>exact he
 |panicked c=>exact he
 |returned v=>
  simp only at he ⊢;by_cases hf:tM r=true
  ·have h1:Ah r ls=[]:=aC hf;unfold Lu;rw[h1,zH hf];obtain⟨hs,hk,hsm,ob,ho⟩:=he;obtain⟨r1,r2⟩:=R.grow hs hk hsm none;exact⟨μ,_,r1,r2,UF hf (UG hf ho)⟩
  ·have h1:Ah r ls=ls:=aE hf;unfold Lu;rw[h1];obtain⟨μ',ok',k1,k2,k3⟩:=UL (λh=>AD ls g (hn h)) R1 he;exact⟨μ',ok',k1,S1.trans k2,k3⟩
theorem LJ(σ:Sto)(ls:List Nat)(r:D):(fin σ ls r).1=(mat σ.nx r).1:=by
 unfold fin;split
 ·rename_i h;rw[zH h]
 ·rfl
theorem oR:∀(bs:List Blk)(σ:Sto),(σ.adds bs).get=rm σ.get σ.nx bs∧(σ.adds bs).nx=σ.nx+bs.length
 |[],σ=>⟨rfl,rfl⟩
 |b::bs,σ=>by
  obtain⟨h1,h2⟩:=oR bs ⟨σ.m.set σ.nx b,Nat.succ σ.nx⟩;have hg:(Sto.mk (σ.m.set σ.nx b) (Nat.succ σ.nx)).get=upd σ.get σ.nx (some b):=funext λm=>Tr.get_set _ _ _ _;simp only[Sto.adds,rm];refine⟨?_,?_⟩
  ·rw[h1,hg]
  ·rw[h2];simp only[ay];omega
theorem ja.adds:∀(bs:List Blk){σ:Sto},ja σ→ja (σ.adds bs)
 |[],_,h=>h
 |b::bs,σ,h=>by
  have:=h.add1 b;exact ja.adds bs (σ:=⟨σ.m.set σ.nx b,Nat.succ σ.nx⟩) this
theorem zK(σ:Sto)(ls:List Nat)(r:D):(fin σ ls r).2.get=rm (t5 σ.get (Ah r ls)) σ.nx (mat σ.nx r).2:=by
 unfold fin Ah;split
 ·rename_i h;rw[aC h,zH h];rfl
 ·rename_i h;rw[aE (by rw[h];simp)];show((σ.frz ls).adds (mat σ.nx r).2).get=_;rw[(oR _ _).1,Fe,Fb]
theorem EO{σ:Sto}(hf:ja σ)(ls:List Nat)(r:D):ja (fin σ ls r).2:=by
 unfold fin;split
 ·exact hf
 ·exact ja.adds _ (AC ls σ hf)
theorem J4(σ:Sto)(ls:List Nat)(r:D):(fin σ ls r).2.nx=σ.nx+(mat σ.nx r).2.length:=by
 unfold fin;split
 ·rename_i h;rw[zH h];rfl
 ·show((σ.frz ls).adds (mat σ.nx r).2).nx=_;rw[(oR _ _).2,Fb]
end
end Go.Proofs.Ev
namespace Go.Proofs.Ev
section
variable {P:Program} {im:Nat→Option Nat} {g:Nat→Option Blk} {μ:Nat→Nat×Nat} {w:World} {ok okp:Nat→Nat→Prop} {base:Nat} {e:Env} {a:Act} {o:Oper} {nx:Nat}
theorem N7{d:D}{v:Value}(h:VR im g μ w ok d v)(h1:trD d=true):TR im w ok d v:=by
 cases d<;>first|(cases h1;done)|(simp only[VR]at h;simp only[TR];exact h)|(simp only[VR]at h;exact h)
variable (R:Rel im g μ w ok okp base) (hE:px im g μ w ok e a.tmps)
include R hE
theorem M6{n:Nat}{zr:List D}{l:List (Nat×Nat×X)}(hc:cOp P im o.op=.bsl n zr l){cs:List D}(hcs:fill (X.ev e) l (oG n zr)=some cs)(hall:cs.all trD=true):
 wI im g μ w ok okp base g (.tree cs n true) ((execOp a.eval o).run P w):=by
 cases ho:o.op with
 |buildSlice t len parts=>
  obtain⟨rfl,arr',el,h1,h2,h3⟩:=wt (w:=w) (g:=g) (μ:=μ) (ok:=ok) hE ho hc hcs;obtain⟨r1,r2⟩:=R.grow (w':=w.alloc (.cells arr' el)) (by simp) (λb hb=>heap_alloc_old w _ b hb) (.alloc _ _ _) none;refine⟨_,_,.inl h1,μ,_,r1,r2,?_⟩;simp only[VR,TR];refine⟨_,_,rfl,aD _,λ_=>rfl,λ_=>⟨_,rfl,rfl,λj hj=>.inr ⟨aD _,by simp,by simp⟩,DA λj d hj=>?_⟩⟩;obtain⟨v,q1,q2⟩:=(jp.1 h2).2 j d hj;refine⟨v,?_,wG r2.okk r2.kept _ _ (N7 q2 (cZ.1 hall d (bU hj)))⟩;simp only[World.cell?,heap_alloc_new w _];simpa using q1
 |call c=>
  exfalso;rw[ho]at hc;simp only[cOp,gf]at hc
  (repeat' split at hc)<;>cases hc
 |makeFunc fn fi ca=>
  exfalso;rw[ho]at hc;cases fn<;>first|(cases hc;done)|(simp only[cOp]at hc;(repeat' split at hc)<;>cases hc)
 |_=>
  exfalso;rw[ho]at hc;simp only[cOp]at hc
  (repeat' split at hc)<;>cases hc
theorem C4{nt:Nat}{d:D}{bs:List Blk}(h:evA nx (X.ev e) g (kpO nt (cOp P im o.op))=some (d,bs))(hf:∀j,j<bs.length→g (nx+j)=none):wI im g μ w ok okp base (rm g nx bs) d ((execOp a.eval o).run P w):=by
 rcases zw nt (cOp P im o.op)with hq|hq|⟨sz,bs,x,y,h1,h2⟩
 ·rw[hq]at h;exact s6 R hE d bs h hf
 ·rw[hq]at h;rcases zg (cOp P im o.op)with h2|⟨x,h1,h2⟩|⟨n,x,h1,h2⟩|⟨sz,x,lo,hi,mx,h1,h2⟩|⟨sz,x,i,h1,h2⟩|⟨n,z,l,h1,h2⟩
  ·rw[h2]at h;exact s6 R hE d bs h hf
  ·rw[h2]at h;refine s6 R hE d bs ?_ hf;rw[h1];simp only[evA]at h ⊢;split at h
   ·rename_i hd;rw[hd];simp only[at_];exact h
   ·cases h
  ·rw[h2]at h;refine s6 R hE d bs ?_ hf;rw[h1];simp only[evA]at h ⊢;split at h
   ·rename_i hd;rw[hd];simp only[at_];exact h
   ·cases h
  ·rw[h2]at h;refine s6 R hE d bs ?_ hf;rw[h1];simp only[evA]at h ⊢;split at h
   ·rename_i hd;rw[hd];exact h
   ·cases h
  ·rw[h2]at h;refine s6 R hE d bs ?_ hf;rw[h1];simp only[evA]at h ⊢;split at h
   ·split at h
    ·rename_i hd;rw[hd];exact h
    ·cases h
   ·cases h
  ·rw[h2]at h;simp only[evA]at h;split at h
   ·rename_i cs hcs;split at h
    ·rename_i hall;simp only[aA,aJ]at h;obtain⟨rfl,rfl⟩:=h;exact M6 R hE h1 hcs hall
    ·cases h
   ·cases h
 ·rw[h2]at h;cases h
end
section
variable {P:Program} {im:Nat→Option Nat} {g g':Nat→Option Blk} {μ μ':Nat→Nat×Nat} {w w':World} {ok ok' okp:Nat→Nat→Prop} {base:Nat} {e:Env} {a:Act}
theorem px.step(h:px im g μ w ok e a.tmps)(s:Stp g μ w ok g' μ' w' ok' base):px im g' μ' w' ok' e a.tmps:=λt=>oD s _ _ (h t)
theorem px.put(h:px im g μ w ok e a.tmps){dst:Option Nat}{d:D}{v:Value}(hd:∀t,dst=some t→t<a.tmps.size)(hv:VR im g μ w ok d v):px im g μ w ok (put e dst d) (a.put dst v).tmps:=by
 cases dst with
 |none=>exact h
 |some t=>
  intro n;have hlt:=hd t rfl;have h0:=h n;simp only[X.ev]at h0;simp only[Ev.put,X.ev,Tr.get_set,Act.put];by_cases e1:n=t
  ·subst e1;rw[aC rfl];have:(a.tmps.setIfInBounds n v).getD n undef=v:=by simp[Array.getD,hlt]
   rw[this];exact hv
  ·rw[aE e1];have:(a.tmps.setIfInBounds t v).getD n undef=a.tmps.getD n undef:=by
    simp only[dC];rw[dK (Ne.symm e1)]
   rw[this];exact h0
theorem oq(a:Act)(dst:Option Nat)(v:Value):(a.put dst v).tmps.size=a.tmps.size:=by
 cases dst<;>simp[Act.put]
theorem mb(a:Act)(dst:Option Nat)(v:Value):(a.put dst v).defers=a.defers:=by
 cases dst<;>rfl
theorem EZ:∀(ds:List D)(e:Env)(t n:Nat),(rM e t ds).get n=if t≤n∧n<t+ds.length then ds[n-t]?else e.get n
 |[],e,t,n=>by simp only[rM,cj];rw[aE (by omega)]
 |d::ds,e,t,n=>by
  simp only[rM];rw[EZ ds (e.set t d) (Nat.succ t) n,Tr.get_set];simp only[ay];by_cases h:n=t
  ·subst h;rw[aE (by omega),aC rfl,aC (by omega)];simp
  ·by_cases h2:t≤n∧n<t+(ds.length+1)
   ·rw[aC (by omega),aC h2,show n-t=(n-Nat.succ t)+1 by omega];simp
   ·rw[aE (by omega),aE h,aE h2]
theorem px.args{as:List D}{vs:List Value}(h:VRl im g μ w ok as vs)(k:Nat):px im g μ w ok (rM .nil 0 as) (vs.toArray++Array.replicate k undef):=by
 intro t;simp only[X.ev,EZ,a9,true_and,aV,Nat.sub_zero];by_cases ht:t<as.length
 ·rw[aC ht];obtain⟨v,h1,h2⟩:=(jp.1 h).2 t _ (aB ht);rw[aB ht];have hlt:t<vs.length:=by rw[jD h];exact ht
  have:(vs.toArray++Array.replicate k undef).getD t undef=v:=by
   rw[dC,eC (by simpa using hlt)];simp[h1]
  rw[this];exact h2
 ·rw[aE ht,Tr.get_nil];simp only[VR]
theorem Ih(R:Rel im g μ w ok okp base)(hE:px im g μ w ok e a.tmps){σ:Sto}(hg:σ.get=g){r:ResultVar}{d:D}(hok:yg P r=true)(h:xm e σ (Al P r)=some d):
 ∃v,(match r with
  |.tmp t=>pure (a.tmps.getD t undef)
  |.cell x t=>do loadVar t (←asAddr (a.tmps.getD x undef)):Sem Value).run P w=.ok v w∧VR im g μ w ok d v:=by
 cases r with
 |tmp t=>
  simp only[Al,xm]at h;have:=hE t;simp only[X.ev,h]at this;exact⟨_,rfl,this⟩
 |cell x t=>
  simp only[Al,xm]at h;simp only[yg]at hok;split at hok
  ·rename_i td hu;obtain⟨ti,hti⟩:=og hu;split at h
   ·rename_i ad hget;have hx:=hE x;simp only[X.ev,hget]at hx;split at h
    ·rename_i cs hcs;rw[hg]at hcs;obtain⟨ad',hv,hs,hc⟩:=Ra R hcs hx;by_cases hag:Ct P t=true
     ·rw[aC hag]at h;have hsz:il P t≠0:=by simpa[hag]using hok
      split at h
      ·exact absurd ‹_› hsz
      ·split at h
       ·rename_i r hcut;simp only[aA]at h;subst h;have hlen:=(vv hcut).2;have hvr:=vw hcut hc;simp only[bH]at hvr;obtain⟨vs,h1,h2⟩:=Cv hvr;have hn:vs.length=ti.size:=by rw[jD h1,hlen,o9 hti]
        refine⟨.agg vs.toArray,?_,by simp only[VR];exact⟨vs.toArray,rfl,by simpa using h1⟩⟩;have hl:=run_loadCells_list (P:=P) w ad' vs (λj u hj=>by rw[Addr.add_eq hs];exact h2 j u hj);simp[hv,asAddr,loadVar,n9 hu,hag,ij hti,←hn,hl]
       ·cases h
     ·rw[aE hag]at h;simp only at h;split at h
      ·rename_i d' rest;simp only[aA]at h;subst h;simp only[VRc]at hc;obtain⟨⟨v,hcell,hd⟩,_⟩:=hc;rw[←Addr.eta hs]at hcell;refine⟨v,?_,hd⟩;simp[hv,asAddr,loadVar,n9 hu,hag,run_load,hcell]
      ·cases h
    ·cases h
   ·cases h
  ·cases hok
theorem B9(R:Rel im g μ w ok okp base)(hE:px im g μ w ok e a.tmps){σ:Sto}(hg:σ.get=g):∀(rs:List ResultVar)(ds:List D),rs.all (yg P)=true→um e σ (rs.map (Al P))=some ds→
 ∃vs,(rs.mapM (m:=Sem) (λ
  |.tmp t=>pure (a.tmps.getD t undef)
  |.cell x t=>do loadVar t (←asAddr (a.tmps.getD x undef)))).run P w=.ok vs w∧VRl im g μ w ok ds vs:=by
 intro rs
 induction rs with
 |nil=>intro ds _ h;simp only[z1x,um,aA]at h;subst h;exact⟨[],by simp,by simp[VRl]⟩
 |cons r rs ih=>
  intro ds hok h;simp only[cJ,ae]at hok;simp only[bB,um]at h;split at h
  ·rename_i d ds' h1 h2;simp only[aA]at h;subst h;obtain⟨v,r1,r2⟩:=Ih R hE hg hok.1 h1;obtain⟨vs,q1,q2⟩:=ih ds' hok.2 h2;refine⟨v::vs,?_,by simp only[VRl];exact⟨v,vs,rfl,r2,q2⟩⟩;simp only[z0M,Sem.run_bind,r1,Result.andThen_ok,q1,Sem.run_pure]
  ·cases h
theorem wU(R:Rel im g μ w ok okp base)(hE:px im g μ w ok e a.tmps){σ:Sto}(hg:σ.get=g){fn:Func}{d:D}(hok:fn.results.toList.all (yg P)=true)(h:qI e σ (fn.results.toList.map (Al P))=some d):
 ∃v,(results fn a.tmps).run P w=.ok v w∧VR im g μ w ok d v:=by
 unfold qI at h;have key:∀ds vs,VRl im g μ w ok ds vs→um e σ (fn.results.toList.map (Al P))=some ds→(fn.results.toList.mapM (m:=Sem) (λ
  |.tmp t=>pure (a.tmps.getD t undef)
  |.cell x t=>do loadVar t (←asAddr (a.tmps.getD x undef)))).run P w=.ok vs w→
  (results fn a.tmps).run P w=.ok (if h:vs.toArray.size=1 then vs.toArray[0]else .tuple vs.toArray) w:=by
  intro ds vs hv hr hm;simp only[results,Array.mapM_eq_mapM_toList,Sem.run_bind,Sem.run_map];refine(congrArg (λr=>(Result.andThen (Result.andThen r _) _)) hm).trans ?_;rfl
 split at h
 ·rename_i d' hr;simp only[aA]at h;subst h;obtain⟨vs,h1,h2⟩:=B9 R hE hg _ _ hok hr;have:=key _ _ h2 hr h1;simp only[VRl]at h2;obtain⟨v,r,rfl,hv,rfl⟩:=h2;exact⟨v,by rw[this];rfl,hv⟩
 ·rename_i ds hne hr;simp only[aA]at h;subst h;obtain⟨vs,h1,h2⟩:=B9 R hE hg _ _ hok hr;have:=key _ _ h2 hr h1;refine⟨.tuple vs.toArray,?_,by simp only[VR];exact⟨vs.toArray,rfl,by simpa using h2⟩⟩;rw[this,dif_neg];intro hs;have hl:=jD h2;rw[z1s]at hs
  match ds,hl with
  |[x],_=>exact hne x rfl
  |[],hl=>rw[hs]at hl;simp at hl
  |x::y::z,hl=>rw[hs]at hl;simp at hl
 ·cases h
end
section
variable {P:Program} {im:Nat→Option Nat}
theorem Lr{g:Nat→Option Blk}{μ:Nat→Nat×Nat}{w:World}{ok:Nat→Nat→Prop}:∀{xs ys:List D}{us vs:List Value},VRl im g μ w ok xs us→VRl im g μ w ok ys vs→VRl im g μ w ok (xs++ys) (us++vs)
 |[],ys,us,vs,h1,h2=>by
  simp only[VRl]at h1;subst h1;exact h2
 |d::ds,ys,us,vs,h1,h2=>by
  simp only[VRl]at h1;obtain⟨v,r,rfl,h3,h4⟩:=h1;simp only[bu,VRl];exact⟨v,r++vs,rfl,h3,Lr h4 h2⟩
structure DOk (P:Program) (im:Nat→Option Nat) (Δ:Tr Ent):Prop where
 ent:∀F f en,im F=some f→Δ.get f=some en→∃fn c,P.funcs[F]?=some fn∧(fn.name== "runtime.NumGoroutine")=false∧fn.body=some c∧
  match en with
  |.body G=>G.er=wn P im G.mode fn
  |.model M=>Snd P im F M
def St(im:Nat→Option Nat)(nt:Nat)(okp:Nat→Nat→Prop)(base:Nat)(g0:Nat→Option Blk)(μ0:Nat→Nat×Nat)(w0:World)(ok0:Nat→Nat→Prop)(e:Env)(σ:Sto)(a:Act)(w:World):Prop:=
 ja σ∧a.defers=[]∧nt%uf≤a.tmps.size∧∃μ ok,Rel im σ.get μ w ok okp base∧px im σ.get μ w ok e a.tmps∧Stp g0 μ0 w0 ok0 σ.get μ w ok base
def Ex.toExit:Ex→Exit
 |.nrm=>.normal
 |.exit id=>.exit id
 |.ret=>.ret
def ShR(im:Nat→Option Nat)(okp:Nat→Nat→Prop)(base:Nat)(μ:Nat→Nat×Nat)(w:World)(ok:Nat→Nat→Prop)(σ σ':Sto)(d:D)(v:Value)(w':World):Prop:=
 ja σ'∧∃μ' ok',Rel im σ'.get μ' w' ok' okp base∧Stp σ.get μ w ok σ'.get μ' w' ok' base∧VR im σ'.get μ' w' ok' d v
def zY(P:Program)(im:Nat→Option Nat)(Δ:Tr Ent)(k:Nat):Prop:=
 ∀nt c c' e σ x e' σ',C.er c'=j6 P im nt c→run Δ k (.code c' e σ)=some (.code x e' σ')→∀okp base g0 μ0 w0 ok0 a w Q,St im nt okp base g0 μ0 w0 ok0 e σ a w→
  (∀a' w',St im nt okp base g0 μ0 w0 ok0 e' σ' a' w'→Q x.toExit a' w')→c.wp P Q a w
def Us(P:Program)(im:Nat→Option Nat)(Δ:Tr Ent)(k:Nat):Prop:=
 ∀nt(ops:Array Oper) l e σ x e' σ',run Δ k (.ops (l.map (sG P im nt ops.toList)) e σ)=some (.code x e' σ')→∀okp base g0 μ0 w0 ok0 a w Q,St im nt okp base g0 μ0 w0 ok0 e σ a w→
  (∀a' w',St im nt okp base g0 μ0 w0 ok0 e' σ' a' w'→Q x.toExit a' w')→wpList P ops Q l a w
def Jt(P:Program)(im:Nat→Option Nat)(Δ:Tr Ent)(k:Nat):Prop:=
 ∀f caps as σ d σ',run Δ k (.call false (.fn f caps) as σ)=some (.val d σ')→∀F,im F=some f→∀okp base μ w ok vs,ja σ→Rel im σ.get μ w ok okp base→VRl im σ.get μ w ok (as++caps) vs→
  Calls P F vs.toArray w (λe w'=>match e with
   |.returned v=>ShR im okp base μ w ok σ σ' d v w'
   |.outgrown=>False
   |.panicked _=>False)
def E2(P:Program)(im:Nat→Option Nat)(Δ:Tr Ent)(k:Nat):Prop:=
 ∀f caps as σ d σ',run Δ k (.call true (.fn f caps) as σ)=some (.val d σ')→
  ∃as' ls r,iP (res σ.get fv) (as++caps)=some (as',ls)∧d=(fin σ ls r).1∧σ'=(fin σ ls r).2∧∀F,im F=some f→GC P im F as' r
variable {g g':Nat→Option Blk} {μ μ':Nat→Nat×Nat} {w w':World} {ok ok' okp:Nat→Nat→Prop} {base:Nat} {e:Env} {a:Act} {o:Oper} {nx:Nat} {K:Act→World→Prop} {Q:Exit→Act→World→Prop}
theorem wI.wp{d:D}(h:wI im g μ w ok okp base g' d ((execOp a.eval o).run P w))(hK:∀v w',Okv im g μ w ok okp base g' d v w'→K (a.put o.dst v) w'):o.wp P a w K Q:=by
 obtain⟨v,w',hr,hv⟩:=h;unfold Oper.wp;rcases hr with hr|⟨hr,rfl⟩
 ·rw[hr];exact hK v w' hv
 ·rw[hr];exact hK undef w' hv
theorem xk{F:FuncId}{vs:Array Value}{R:Value→World→Prop}(hr:(execOp a.eval o).run P w=.ok (.enter F vs) w)
 (hc:Calls P F vs w (λe w'=>match e with
  |.returned v=>R v w'
  |.outgrown=>False
  |.panicked _=>False)) (hK:∀v w',R v w'→K (a.put o.dst v) w'):o.wp P a w K Q:=by
 unfold Oper.wp;rw[hr];refine Calls.mono hc (λe w' he=>?_);cases e with
 |returned v=>exact hK v w' he
 |panicked c=>exact he.elim
 |outgrown=>exact he.elim
theorem AJ(hE:px im g μ w ok e a.tmps){c:Call}(ho:o.op=.call c){p:Bool}{f:X}{as:List X}(hc:gf P im c=.call p f as){k:Nat}{caps:List D}(hf:X.ev e f=.fn k caps):
 ∃F vs,im F=some k∧VRl im g μ w ok (as.map (X.ev e)++caps) vs∧
  ∀fn cd,P.funcs[F]?=some fn→(fn.name== "runtime.NumGoroutine")=false→fn.body=some cd→(execOp a.eval o).run P w=.ok (.enter F vs.toArray) w:=by
 obtain⟨cal,args,tys⟩:=c;have fin:∀fo,cal=.value fo→as=args.toList.map (cX im)→f=cX im fo→∃F vs,im F=some k∧VRl im g μ w ok (as.map (X.ev e)++caps) vs∧
  ∀fn cd,P.funcs[F]?=some fn→(fn.name== "runtime.NumGoroutine")=false→fn.body=some cd→(execOp a.eval o).run P w=.ok (.enter F vs.toArray) w:=by
  intro fo h1 h2 h3;subst h1 h2 h3;have hv:=j0 hE fo;rw[hf]at hv;simp only[VR]at hv;obtain⟨F,arr,hF,hv,hl⟩:=hv;refine⟨F,args.toList.map a.eval++arr.toList,hF,Lr (Le hE args.toList) hl,?_⟩;intro fn cd h1 h2 h3;have h4:fn.body.isNone=false:=by rw[h3];rfl
  have harr:(#[]++args.map a.eval++arr:Array Value)=(args.toList.map a.eval++arr.toList).toArray:=by
   apply Array.ext';simp
  simp only[execOp,ho,resolve,hv,Deferred.ofValue,Sem.run_bind,Sem.run_pure,Result.andThen_ok,invoke,callFunc,run_program,h1,h2,h4,harr,bj,bz]
 cases cal with
 |invoke r m=>simp[gf]at hc
 |builtin b=>
  exfalso;simp only[gf]at hc
  (repeat' split at hc)<;>cases hc
 |value fo=>
  cases fo with
  |tmp t=>
   simp only[gf,O.call.injEq]at hc;obtain⟨_,rfl,rfl⟩:=hc;exact fin _ rfl rfl rfl
  |func F=>
   simp only[gf]at hc
   (repeat' split at hc)<;>first|(cases hc;done)|skip
   simp only[O.call.injEq]at hc;obtain⟨_,rfl,rfl⟩:=hc;exact fin _ rfl rfl rfl
  |_=>simp[gf]at hc
theorem wk{ev:X→D}{σ σ':Sto}{sz bs:Nat}{x y:X}{d:D}(hf:ja σ)(h:sJ ev σ sz bs x y=some (d,σ')):ja σ':=by
 unfold sJ at h
 (repeat' split at h)<;>first|(cases h;done)|skip
 all_goals
  simp only[aA,aJ]at h;obtain⟨_,rfl⟩:=h
  first
   |exact hf
   |exact hf.add1 _
   |exact ja.put hf (by assumption)
   |(refine ja.add1 ?_ _
     first
      |exact hf
      |exact ja.put hf (by assumption))
theorem EQ{ev:X→D}{σ σ':Sto}{q:O}{d:D}(hf:ja σ)(h:evW ev σ q=some (d,σ')):ja σ':=by
 cases q<;>simp only[evW]at h<;>first|(cases h;done)|skip
 all_goals
  (repeat' split at h)<;>first|(cases h;done)|(exact wk hf h)|skip
 all_goals
  simp only[aA,aJ]at h;obtain⟨_,rfl⟩:=h
  first
   |exact hf
   |exact hf.add1 _
   |exact ja.put hf (by assumption)
   |exact ja.put (wk hf (by assumption)) (by assumption)
   |exact wk hf (by assumption)
   |(refine ja.add1 ?_ _
     first
      |exact hf
      |exact ja.put hf (by assumption))
end
section
variable {P:Program} {im:Nat→Option Nat} {Δ:Tr Ent}
def Xg(P:Program)(im:Nat→Option Nat)(Δ:Tr Ent)(k:Nat):Prop:=
 ∀nt(ops:Array Oper) e σ x e' σ',AH ops.toList (places P im nt ops.toList)=true→run Δ k (.ops ((places P im nt ops.toList).map (·.i)++t6 (places P im nt ops.toList) 0 (places P im nt ops.toList)) e σ)=some (.code x e' σ')→
  ∀okp base g0 μ0 w0 ok0 a w Q,St im nt okp base g0 μ0 w0 ok0 e σ a w→
  (∀a' w',St im nt okp base g0 μ0 w0 ok0 e' σ' a' w'→Q x.toExit a' w')→wpAny P .any ops Q ops.size (Array.replicate ops.size false) a w
theorem Rel.empty{okp:Nat→Nat→Prop}{w:World}(h:∀b o,okp b o→b<w.heap.size)(μ:Nat→Nat×Nat):Rel im Sto.empty.get μ w okp okp w.heap.size:=
 ⟨λl b h=>(by cases h),λl b h=>(by cases h),λl b h=>(by cases h),λl b h=>(by cases h),λl b l' b' h=>(by cases h),λb o hb=>⟨h b o hb,.inl hb⟩,λ_ _ h=>h,aD _⟩
theorem Ef:∀(c:C)(k:Nat)(e:Env)(σ:Sto)(r:Out),c.er=.bad→run Δ k (.code c e σ)≠some r:=by
 intro c
 induction c with
 |bad=>intro k e σ r _ h;cases k<;>simp[run]at h
 |cut ls c ih=>
  intro k e σ r he h;cases k with
  |zero=>simp[run]at h
  |succ k=>simp only[run]at h;exact ih k _ σ r he h
 |_=>intro k e σ r he;simp[C.er]at he
theorem EX{G:Fun}{fn:Func}{c:Code}(hG:G.er=wn P im G.mode fn)(hb:fn.body=some c){e:Env}{σ:Sto}{k:Nat}{r:Out}(h:run Δ k (.code G.body e σ)=some r):
 fn.results.toList.all (yg P)=true∧G.body.er=j6 P im (ntF G.mode fn.ntmps) c∧G.res=fn.results.toList.map (Al P):=by
 have h1:G.body.er=(wn P im G.mode fn).body:=by rw[←hG];rfl
 have h2:G.res=(wn P im G.mode fn).res:=by rw[←hG];rfl
 simp only[wn,hb]at h1;split at h1
 ·exact⟨‹_›,h1,h2⟩
 ·exact absurd h (Ef _ _ _ _ _ h1)
theorem Wj{k:Nat}(hC:zY P im Δ k){F:FuncId}{fn:Func}{c:Code}(hf:P.funcs[F]?=some fn)(hb:fn.body=some c){G:Fun}(hG:G.er=wn P im G.mode fn){as:List D}{x:Ex}{e:Env}{σ:Sto}{d r:D}{own:Bool}
 (hr:run Δ k (.code G.body (rM .nil 0 as) Sto.empty)=some (.code x e σ)) (hx:∀id,x≠.exit id) (hd:qI e σ G.res=some d) (he:nu own σ.get fv d=some r):GC P im F as r:=by
 intro vs w okp hT hb';obtain⟨hok,hbody,hres⟩:=EX hG hb hr;refine calls_of_wp hf hb ?_;refine hC _ _ _ _ _ _ _ _ hbody hr okp w.heap.size Sto.empty.get (λ_=>(0,0)) w okp _ w _ ⟨?_,rfl,bT (Pc _ _) (by simp;omega),λ_=>(0,0),okp,Rel.empty hb' _,px.args (qz _ _ hT) _,.refl ..⟩ ?_
 ·intro l _;rfl
 ·intro a' w' ⟨h1,h2,h3,μ,ok,R,hE,hS⟩;rw[hres]at hd;obtain⟨v,v1,v2⟩:=wU R hE rfl hok hd;have hq:=LN R (λb hb=>hS.low b hb) hS.sm he v2;cases x with
  |exit id=>exact absurd rfl (hx id)
  |nrm=>exact⟨h2,v,v1,hq⟩
  |ret=>exact⟨h2,v,v1,hq⟩
theorem ZJ{k:Nat}(hC:zY P im Δ k){F:FuncId}{fn:Func}{c:Code}(hf:P.funcs[F]?=some fn)(hb:fn.body=some c){G:Fun}(hG:G.er=wn P im G.mode fn){as:List D}{x:Ex}{e:Env}{σ σ':Sto}{d:D}
 (hr:run Δ k (.code G.body (rM .nil 0 as) σ)=some (.code x e σ')) (hx:∀id,x≠.exit id) (hd:qI e σ' G.res=some d)
 {okp:Nat→Nat→Prop} {base:Nat} {μ:Nat→Nat×Nat} {w:World} {ok:Nat→Nat→Prop} {vs:List Value} (hfr:ja σ) (R:Rel im σ.get μ w ok okp base) (hv:VRl im σ.get μ w ok as vs):
 Calls P F vs.toArray w (λe w'=>match e with
  |.returned v=>ShR im okp base μ w ok σ σ' d v w'
  |.outgrown=>False
  |.panicked _=>False):=by
 obtain⟨hok,hbody,hres⟩:=EX hG hb hr;refine calls_of_wp hf hb ?_;refine hC _ _ _ _ _ _ _ _ hbody hr okp base σ.get μ w ok _ w _ ⟨hfr,rfl,bT (Pc _ _) (by simp;omega),μ,ok,R,px.args hv _,.refl ..⟩ ?_;intro a' w' ⟨h1,h2,h3,μ',ok',R',hE,hS⟩;rw[hres]at hd;obtain⟨v,v1,v2⟩:=wU R' hE rfl hok hd;have hq:ShR im okp base μ w ok σ σ' d v w':=⟨h1,μ',ok',R',hS,v2⟩
 cases x with
 |exit id=>exact absurd rfl (hx id)
 |nrm=>exact⟨h2,v,v1,hq⟩
 |ret=>exact⟨h2,v,v1,hq⟩
theorem GV{k:Nat}{p:Bool}{f:Nat}{caps as:List D}{σ σ':Sto}{d:D}(h:run Δ (k+1) (.call p (.fn f caps) as σ)=some (.val d σ')):
 (∃M as' ls r,Δ.get f=some (.model M)∧iP (res σ.get fv) (as++caps)=some (as',ls)∧M as'=some r∧d=(fin σ ls r).1∧σ'=(fin σ ls r).2)∨
 (∃G x e,Δ.get f=some (.body G)∧p=false∧run Δ k (.code G.body (rM .nil 0 (as++caps)) σ)=some (.code x e σ')∧(∀id,x≠.exit id)∧qI e σ' G.res=some d)∨
 (∃G x e σ1 d1 own as' ls r,Δ.get f=some (.body G)∧iP (res σ.get fv) (as++caps)=some (as',ls)∧run Δ k (.code G.body (rM .nil 0 as') Sto.empty)=some (.code x e σ1)∧(∀id,x≠.exit id)∧
  qI e σ1 G.res=some d1∧nu own σ1.get fv d1=some r∧d=(fin σ ls r).1∧σ'=(fin σ ls r).2):=by
 simp only[run]at h;cases hΔ:Δ.get f with
 |none=>simp only[hΔ]at h;cases h
 |some en=>
  cases en with
  |model M=>
   simp only[hΔ]at h;split at h
   ·rename_i as' ls hm;split at h
    ·rename_i r hr;simp only[aA,Out.val.injEq]at h;exact .inl ⟨M,as',ls,r,rfl,hm,hr,h.1.symm,h.2.symm⟩
    ·cases h
   ·cases h
  |body G=>
   simp only[hΔ]at h;split at h
   ·rename_i hp;simp only[ae,dn]at hp;split at h
    ·rename_i x e σ1 hr;split at h
     ·cases h
     ·rename_i hx;split at h
      ·rename_i d1 hd;simp only[aA,Out.val.injEq]at h;obtain⟨rfl,rfl⟩:=h;exact .inr (.inl ⟨G,x,e,rfl,hp.1,hr,λid hid=>hx id hid,hd⟩)
      ·cases h
    ·cases h
   ·split at h
    ·rename_i as' ls hm;split at h
     ·rename_i x e σ1 hr;split at h
      ·cases h
      ·rename_i hx;split at h
       ·rename_i d1 hd;split at h
        ·rename_i r he;simp only[aA,Out.val.injEq]at h;exact .inr (.inr ⟨G,x,e,σ1,d1,_,as',ls,r,rfl,hm,hr,λid hid=>hx id hid,hd,he,h.1.symm,h.2.symm⟩)
        ·cases h
       ·cases h
     ·cases h
    ·cases h
theorem Dr{okp:Nat→Nat→Prop}{base:Nat}{μ:Nat→Nat×Nat}{w w':World}{ok:Nat→Nat→Prop}{σ:Sto}{ls:List Nat}{r:D}{v:Value}(hf:ja σ)
 (h:Lu im σ.get μ w ok okp base σ.nx ls r v w'):ShR im okp base μ w ok σ (fin σ ls r).2 (fin σ ls r).1 v w':=by
 obtain⟨μ',ok',k1,k2,k3⟩:=h;refine⟨EO hf ls r,μ',ok',?_,?_,?_⟩
 ·rw[zK];exact k1
 ·rw[zK];exact k2
 ·rw[zK,LJ];exact k3
theorem Yy{k:Nat}(hΔ:DOk P im Δ)(hC:zY P im Δ k):Jt P im Δ (k+1):=by
 intro f caps as σ d σ' h F hF okp base μ w ok vs hfr R hv;rcases GV h with⟨M,as',ls,r,he,hm,hr,rfl,rfl⟩|⟨G,x,e,he,_,hr,hx,hd⟩|⟨G,x,e,σ1,d1,own,as',ls,r,he,hm,hr,hx,hd,hex,rfl,rfl⟩
 ·obtain⟨fn,c,hfn,_,_,hS⟩:=hΔ.ent F f _ hF he;refine Calls.mono (FE R (λ_=>hfr _ (aD _)) hm hv (hS as' r hr)) (λe w' hq=>?_);cases e with
  |returned v=>exact Dr hfr hq
  |outgrown=>exact hq
  |panicked c=>exact hq
 ·obtain⟨fn,c,hfn,_,hb,hG⟩:=hΔ.ent F f _ hF he;exact ZJ hC hfn hb hG hr hx hd hfr R hv
 ·obtain⟨fn,c,hfn,_,hb,hG⟩:=hΔ.ent F f _ hF he;refine Calls.mono (FE R (λ_=>hfr _ (aD _)) hm hv (Wj hC hfn hb hG hr hx hd hex)) (λe w' hq=>?_);cases e with
  |returned v=>exact Dr hfr hq
  |outgrown=>exact hq
  |panicked c=>exact hq
theorem YI{k:Nat}(hΔ:DOk P im Δ)(hC:zY P im Δ k):E2 P im Δ (k+1):=by
 intro f caps as σ d σ' h;rcases GV h with⟨M,as',ls,r,he,hm,hr,rfl,rfl⟩|⟨G,x,e,he,hp,hr,hx,hd⟩|⟨G,x,e,σ1,d1,own,as',ls,r,he,hm,hr,hx,hd,hex,rfl,rfl⟩
 ·refine⟨as',ls,r,hm,rfl,rfl,λF hF=>?_⟩;obtain⟨fn,c,hfn,_,_,hS⟩:=hΔ.ent F f _ hF he;exact hS as' r hr
 ·cases hp
 ·refine⟨as',ls,r,hm,rfl,rfl,λF hF=>?_⟩;obtain⟨fn,c,hfn,_,hb,hG⟩:=hΔ.ent F f _ hF he;exact Wj hC hfn hb hG hr hx hd hex
end
section
variable {P:Program} {im:Nat→Option Nat} {Δ:Tr Ent}
theorem px.put_undef{g:Nat→Option Blk}{μ:Nat→Nat×Nat}{w:World}{ok:Nat→Nat→Prop}{e:Env}{a:Act}(h:px im g μ w ok e a.tmps)(dst:Option Nat):
 px im g μ w ok (Ev.put e dst (.tup [])) (a.put dst undef).tmps:=by
 have hu:VR im g μ w ok (.tup []) undef:=by simp only[VR,undef];exact⟨#[],rfl,by simp[VRl]⟩
 cases dst with
 |none=>exact h
 |some t=>
  by_cases hlt:t<a.tmps.size
  ·exact h.put (λt' e'=>by cases e';exact hlt) hu
  ·intro n;have h0:=h n;simp only[X.ev]at h0;have e1:a.tmps.setIfInBounds t undef=a.tmps:=by simp[Array.setIfInBounds,hlt]
   simp only[Ev.put,X.ev,Tr.get_set,Act.put,e1];by_cases e2:n=t
   ·subst e2;rw[aC rfl];have:a.tmps.getD n undef=undef:=by simp[Array.getD,hlt]
    rw[this];exact hu
   ·rw[aE e2];exact h0
theorem s5{g:Nat→Option Blk}{μ:Nat→Nat×Nat}{w:World}{ok:Nat→Nat→Prop}{e:Env}{a:Act}(hE:px im g μ w ok e a.tmps){ops:Array Oper}{o:Oper}{gd:Option (Nat×Bool)}(hc:cGd ops.toList o.guard=some gd){b:Bool}
 (hb:gdv e gd=some b):Region.wanted o (yielded ops a.tmps)=b:=by
 unfold Region.wanted;cases hg:o.guard with
 |none=>
  rw[hg]at hc;simp only[cGd,aA]at hc;subst hc;simpa[gdv]using hb
 |some jw=>
  obtain⟨j,want⟩:=jw;rw[hg]at hc;simp only[cGd]at hc;split at hc
  ·rename_i q hq;split at hc
   ·rename_i t ht;simp only[aA]at hc;subst hc;have hq':ops[j]?=some q:=by simpa using hq
    simp only[yielded,hq',Option.bind_some,ht];simp only[gdv]at hb;have hv:=hE t;simp only[X.ev]at hv;split at hb
    ·rename_i p hp;simp only[hp,VR]at hv;have hlt:t<a.tmps.size:=by
      rcases az t a.tmps.size with h|h
      ·exact h
      ·rw[dC,Array.getElem?_eq_none h]at hv;cases hv
     have:a.tmps[t]?=some (.bool p):=by
      rw[dC,eH hlt]at hv;rw[eH hlt];simpa using hv
     rw[this];simp only[aA]at hb;rw[←hb];cases p<;>cases want<;>rfl
    ·rename_i l hp;simp only[hp,VR]at hv;obtain⟨arr,hv,_⟩:=hv;simp only[aA]at hb;subst hb;cases ht2:a.tmps[t]?with
     |none=>rfl
     |some u=>
      rw[dC,ht2]at hv;simp only[Option.getD_some]at hv;subst hv;rfl
    ·cases hb
   ·cases hc
  ·cases hc
theorem yb{k:Nat}{i:Ins}{l:List Ins}{e:Env}{σ:Sto}{r:Out}(h:run Δ (k+1) (.ops (i::l) e σ)=some r):
 (gdv e i.gd=some false∧run Δ k (.ops l (put e i.dst (.tup [])) σ)=some r)∨
 (gdv e i.gd=some true∧
  ((∃p f caps as d σ1,i.op=.call p f as∧X.ev e f=.fn (caps:Nat×List D).1 caps.2∧run Δ k (.call p (.fn caps.1 caps.2) (as.map (X.ev e)) σ)=some (.val d σ1)∧run Δ k (.ops l (put e i.dst d) σ1)=some r)∨
   (∃d bs,(∀p f as,i.op≠.call p f as)∧evA σ.nx (X.ev e) σ.get i.op=some (d,bs)∧run Δ k (.ops l (put e i.dst d) (σ.adds bs))=some r)∨
   (∃d σ1,(∀p f as,i.op≠.call p f as)∧evA σ.nx (X.ev e) σ.get i.op=none∧evW (X.ev e) σ i.op=some (d,σ1)∧run Δ k (.ops l (put e i.dst d) σ1)=some r))):=by
 simp only[run]at h;cases hg:gdv e i.gd with
 |none=>simp only[hg]at h;cases h
 |some b=>
  cases b with
  |false=>simp only[hg]at h;exact .inl ⟨rfl,h⟩
  |true=>
   simp only[hg]at h;refine .inr ⟨rfl,?_⟩;split at h
   ·rename_i p f as hop;split at h
    ·rename_i d σ1 hr;refine .inl ?_;cases hf:X.ev e f with
     |fn f' caps=>rw[hf]at hr;exact⟨p,f,(f',caps),as,d,σ1,hop,hf,hr,h⟩
     |_=>rw[hf]at hr;cases k<;>simp[run]at hr
    ·cases h
   ·rename_i o hne;refine .inr ?_;split at h
    ·rename_i d bs hA;exact .inl ⟨d,bs,λp f as hq=>hne p f as hq,hA,h⟩
    ·rename_i hA;split at h
     ·rename_i d σ1 hW;exact .inr ⟨d,σ1,λp f as hq=>hne p f as hq,hA,hW,h⟩
     ·cases h
theorem Cj{op:Op}{p:Bool}{f:X}{as:List X}(h:cOp P im op=.call p f as):p=false∧∃c,op=.call c∧gf P im c=.call p f as:=by
 cases op with
 |call c=>
  refine⟨?_,c,rfl,h⟩;have h':gf P im c=.call p f as:=h;unfold gf at h'
  (repeat' split at h')<;>first|(cases h';done)|(simp only[O.call.injEq]at h';exact h'.1.symm)
 |makeFunc fn fi ca=>
  exfalso;cases fn<;>first|(cases h;done)|(simp only[cOp]at h;(repeat' split at h)<;>cases h)
 |_=>
  exfalso;simp only[cOp]at h
  (repeat' split at h)<;>cases h
theorem CD{nt:Nat}{q:O}{p:Bool}{f:X}{as:List X}(h:kpO nt q=.call p f as):q=.call p f as:=by
 rcases zw nt q with h1|h1|⟨_,_,_,_,_,h1⟩
 ·rwa[h1]at h
 ·rw[h1]at h;rcases zg q with h2|⟨_,_,h2⟩|⟨_,_,_,h2⟩|⟨_,_,_,_,_,_,h2⟩|⟨_,_,_,_,h2⟩|⟨_,_,_,_,h2⟩
  ·rwa[h2]at h
  all_goals
   rw[h2]at h;cases h
 ·rw[h1]at h;cases h
theorem AM{σ:Sto}(hf:ja σ)(bs:List Blk):∀j,j<bs.length→σ.get (σ.nx+j)=none:=λj _=>hf _ (by omega)
theorem BL{nt:Nat}{dst:Option Nat}{q r:O}(h:Jc nt dst q=r)(hne:r≠.bad):q=r∧∀t,dst=some t→t<nt:=by
 cases dst with
 |none=>exact⟨h,λt ht=>by cases ht⟩
 |some t=>
  simp only[Jc]at h;split at h
  ·rename_i hlt;exact⟨h,λt' ht=>by cases ht;exact hlt⟩
  ·exact absurd h.symm hne
theorem ZY{k:Nat}(hΔ:DOk P im Δ)(ih:Us P im Δ k)(hV:Jt P im Δ k):Us P im Δ (k+1):=by
 intro nt ops l e σ x e' σ' h okp base g0 μ0 w0 ok0 a w Q ⟨hfr,hdf,hsz,μ,ok,R,hE,hS⟩ hQ;cases l with
 |nil=>
  simp only[z1x,run,aA,Out.code.injEq]at h;obtain⟨rfl,rfl,rfl⟩:=h;exact hQ a w ⟨hfr,hdf,hsz,μ,ok,R,hE,hS⟩
 |cons o l=>
  simp only[bB]at h;simp only[wpList];cases hgd:cGd ops.toList o.guard with
  |none=>
   exfalso;have hi:sG P im nt ops.toList o=⟨o.dst,none,.bad⟩:=by unfold sG;rw[hgd]
   rw[hi]at h;rcases yb h with⟨h1,_⟩|⟨_,⟨p,f,caps,as,d,σ1,h1,_⟩|⟨d,bs,_,h1,_⟩|⟨d,σ1,_,_,h1,_⟩⟩
   ·cases h1
   ·cases h1
   ·cases h1
   ·cases h1
  |some gd=>
   have hi:sG P im nt ops.toList o=⟨o.dst,gd,Jc (nt%uf) o.dst (kpO nt (cOp P im o.op))⟩:=by unfold sG;rw[hgd]
   rw[hi]at h;rcases yb h with⟨h1,h2⟩|⟨h1,h2⟩
   ·rw[s5 hE hgd h1];simp only[bj,bz];refine ih nt ops l _ _ _ _ _ h2 okp base g0 μ0 w0 ok0 _ w Q ⟨hfr,by rw[mb];exact hdf,by rw[oq];exact hsz,μ,ok,R,hE.put_undef _,hS⟩ hQ
   ·rw[s5 hE hgd h1];simp only[bf];refine .inl ?_;have hop:∀q,Jc (nt%uf) o.dst (kpO nt (cOp P im o.op))=q→q≠.bad→kpO nt (cOp P im o.op)=q∧∀t,o.dst=some t→t<a.tmps.size:=λq h1 h2=>
     ⟨(BL h1 h2).1,λt ht=>bp ((BL h1 h2).2 t ht) hsz⟩
    rcases h2 with⟨p,f,caps,as,d,σ1,q1,q2,q3,q4⟩|⟨d,bs,q0,q1,q2⟩|⟨d,σ1,q0,_,q1,q2⟩
    ·obtain⟨c1,hd⟩:=hop _ q1 (by simp);obtain⟨rfl,c,hc,hcc⟩:=Cj (CD c1);obtain⟨F,vs,hF,hv,hx⟩:=AJ hE (w:=w) hc hcc q2;cases hent:Δ.get caps.1 with
     |none=>cases k<;>simp[run,hent]at q3
     |some en=>
      obtain⟨fn,cd,f1,f2,f3,_⟩:=hΔ.ent F caps.1 en hF hent;refine xk (hx fn cd f1 f2 f3) (hV caps.1 caps.2 _ σ d σ1 q3 F hF okp base μ w ok vs hfr R hv) (λv w' ⟨n1,μ',ok',n2,n3,n4⟩=>?_);exact ih nt ops l _ _ _ _ _ q4 okp base g0 μ0 w0 ok0 _ w' Q ⟨n1,by rw[mb];exact hdf,by rw[oq];exact hsz,μ',ok',n2,(hE.step n3).put hd n4,hS.trans n3⟩ hQ
    ·obtain⟨c1,hd⟩:=hop _ rfl (by intro hb;rw[hb]at q1;cases q1);simp only at q1;rw[←c1]at q1;refine(C4 R hE q1 (AM hfr bs)).wp (λv w' ⟨μ',ok',n2,n3,n4⟩=>?_);rw[←(oR bs σ).1]at n2 n3 n4;exact ih nt ops l _ _ _ _ _ q2 okp base g0 μ0 w0 ok0 _ w' Q ⟨ja.adds bs hfr,by rw[mb];exact hdf,by rw[oq];exact hsz,μ',ok',n2,(hE.step n3).put hd n4,hS.trans n3⟩ hQ
    ·obtain⟨c1,hd⟩:=hop _ rfl (by intro hb;rw[hb]at q1;cases q1);simp only at q1;rw[←c1]at q1;refine(C2 R hE (hfr _ (aD _)) q1).wp (λv w' ⟨μ',ok',n2,n3,n4⟩=>?_);exact ih nt ops l _ _ _ _ _ q2 okp base g0 μ0 w0 ok0 _ w' Q ⟨EQ hfr q1,by rw[mb];exact hdf,by rw[oq];exact hsz,μ',ok',n2,(hE.step n3).put hd n4,hS.trans n3⟩ hQ
end
section
variable {P:Program} {im:Nat→Option Nat} {Δ:Tr Ent}
theorem St.heap{nt:Nat}{okp:Nat→Nat→Prop}{base:Nat}{g0:Nat→Option Blk}{μ0:Nat→Nat×Nat}{w0:World}{ok0:Nat→Nat→Prop}{e:Env}{σ:Sto}{a:Act}{w w':World}(h:St im nt okp base g0 μ0 w0 ok0 e σ a w)(hw:w'.heap=w.heap)(sm:Same w w'):
 St im nt okp base g0 μ0 w0 ok0 e σ a w':=by
 obtain⟨h1,h2,h3,μ,ok,R,hE,hS⟩:=h;obtain⟨r1,r2⟩:=R.heap hw sm;exact⟨h1,h2,h3,μ,ok,r1,hE.step r2,hS.trans r2⟩
theorem CE:∀(ls:List Nat)(e:Env)(t:Nat),X.ev (wd ls e) (.t t)=.u∨X.ev (wd ls e) (.t t)=X.ev e (.t t)
 |[],e,t=>.inl rfl
 |u::ls,e,t=>by
  simp only[wd];cases h:e.get u with
  |none=>exact CE ls e t
  |some d=>
   simp only[X.ev,Tr.get_set];by_cases ht:t=u
   ·subst ht;rw[aC rfl,h];exact .inr rfl
   ·rw[aE ht];exact CE ls e t
theorem St.keep{nt:Nat}{okp:Nat→Nat→Prop}{base:Nat}{g0:Nat→Option Blk}{μ0:Nat→Nat×Nat}{w0:World}{ok0:Nat→Nat→Prop}{e:Env}{σ:Sto}{a:Act}{w:World}(h:St im nt okp base g0 μ0 w0 ok0 e σ a w)(ls:List Nat):
 St im nt okp base g0 μ0 w0 ok0 (wd ls e) σ a w:=by
 obtain⟨h1,h2,h3,μ,ok,R,hE,hS⟩:=h;refine⟨h1,h2,h3,μ,ok,R,λt=>?_,hS⟩;rcases CE ls e t with h|h
 ·rw[h];simp only[VR]
 ·rw[h];exact hE t
theorem Yf{k:Nat}(hm:P.follows .mixedOrders=true)(ihC:∀j,j≤k→zY P im Δ j)(ihO:Us P im Δ k)(ihA:Xg P im Δ k):zY P im Δ (k+1):=by
 have hcut:∀nt c ls c1 e σ x e' σ',C.er c1=j6 P im nt c→run Δ (k+1) (.code (.cut ls c1) e σ)=some (.code x e' σ')→∀okp base g0 μ0 w0 ok0 a w Q,St im nt okp base g0 μ0 w0 ok0 e σ a w→
  (∀a' w',St im nt okp base g0 μ0 w0 ok0 e' σ' a' w'→Q x.toExit a' w')→c.wp P Q a w:=by
  intro nt c ls c1 e σ x e' σ' her h okp base g0 μ0 w0 ok0 a w Q hst hQ;simp only[run]at h;exact ihC k (aD _) nt c c1 _ _ _ _ _ her h okp base g0 μ0 w0 ok0 a w Q (hst.keep ls) hQ
 intro nt c
 induction c with
 |skip=>
  intro c' e σ x e' σ' her h okp base g0 μ0 w0 ok0 a w Q hst hQ;cases c'<;>first|(simp[C.er,j6]at her;done)|skip
  case cut ls c1=>exact hcut _ _ ls c1 _ _ _ _ _ her h okp base g0 μ0 w0 ok0 a w Q hst hQ
  simp only[run,aA,Out.code.injEq]at h;obtain⟨rfl,rfl,rfl⟩:=h;exact wp_skip (hQ a w hst)
 |label l=>
  intro c' e σ x e' σ' her h okp base g0 μ0 w0 ok0 a w Q hst hQ;cases c'<;>first|(simp[C.er,j6]at her;done)|skip
  case cut ls c1=>exact hcut _ _ ls c1 _ _ _ _ _ her h okp base g0 μ0 w0 ok0 a w Q hst hQ
  simp only[run,aA,Out.code.injEq]at h;obtain⟨rfl,rfl,rfl⟩:=h;exact wp_label (hQ a w hst)
 |region id ops draw=>
  intro c' e σ x e' σ' her h okp base g0 μ0 w0 ok0 a w Q hst hQ;simp only[j6,Hy]at her;cases draw with
  |true=>
   simp only[bf]at her;split at her
   ·rename_i hok;cases c'<;>first|(simp[C.er]at her;done)|skip
    case cut ls c1=>
     refine hcut nt (.region id ops true) ls c1 _ _ _ _ _ ?_ h okp base g0 μ0 w0 ok0 a w Q hst hQ;simp only[j6,Hy,bf];rw[aC hok];exact her
    simp only[C.er,C.reg.injEq]at her;subst her;simp only[run]at h;exact wp_region_any hm (ihA nt ops _ _ _ _ _ hok h okp base g0 μ0 w0 ok0 a _ Q (hst.heap rfl (.drew _)) hQ)
   ·exact absurd h (Ef _ _ _ _ _ her)
  |false=>
   simp only[bj,bz]at her;cases c'<;>first|(simp[C.er]at her;done)|skip
   case cut ls c1=>
    refine hcut nt (.region id ops false) ls c1 _ _ _ _ _ ?_ h okp base g0 μ0 w0 ok0 a w Q hst hQ;simp only[j6,Hy,bj,bz];exact her
   simp only[C.er,C.reg.injEq]at her;subst her;simp only[run]at h;exact wp_region_list (ihO nt ops ops.toList _ _ _ _ _ h okp base g0 μ0 w0 ok0 a w Q hst hQ)
 |seq y z _ _=>
  intro c' e σ x e' σ' her h okp base g0 μ0 w0 ok0 a w Q hst hQ;cases c'<;>first|(simp[C.er,j6]at her;done)|skip
  case cut ls c1=>exact hcut _ _ ls c1 _ _ _ _ _ her h okp base g0 μ0 w0 ok0 a w Q hst hQ
  rename_i y' z';simp only[C.er,j6,C.seq.injEq]at her;simp only[run]at h;refine wp_seq ?_;split at h
  ·rename_i e1 σ1 h1;exact ihC k (aD _) nt y y' _ _ _ _ _ her.1 h1 okp base g0 μ0 w0 ok0 a w _ hst (λa' w' hst'=>ihC k (aD _) nt z z' _ _ _ _ _ her.2 h okp base g0 μ0 w0 ok0 a' w' Q hst' hQ)
  ·rename_i hne;refine ihC k (aD _) nt y y' _ _ _ _ _ her.1 h okp base g0 μ0 w0 ok0 a w _ hst (λa' w' hst'=>?_);cases x with
   |nrm=>exact absurd h (hne _ _)
   |exit id=>exact hQ a' w' hst'
   |ret=>exact hQ a' w' hst'
 |cond c y z _ _=>
  intro c' e σ x e' σ' her h okp base g0 μ0 w0 ok0 a w Q hst hQ;cases c'<;>first|(simp[C.er,j6]at her;done)|skip
  case cut ls c1=>exact hcut _ _ ls c1 _ _ _ _ _ her h okp base g0 μ0 w0 ok0 a w Q hst hQ
  rename_i xc y' z';simp only[C.er,j6,C.cond.injEq]at her;obtain⟨rfl,her1,her2⟩:=her;simp only[run]at h;obtain⟨h1,h2,h3,μ,ok,R,hE,hS⟩:=hst;have hc:=j0 hE c;split at h
  ·rename_i hb;rw[hb]at hc;simp only[VR]at hc;exact wp_cond_true hc (ihC k (aD _) nt y y' _ _ _ _ _ her1 h okp base g0 μ0 w0 ok0 a w Q ⟨h1,h2,h3,μ,ok,R,hE,hS⟩ hQ)
  ·rename_i hb;rw[hb]at hc;simp only[VR]at hc;exact wp_cond_false hc (ihC k (aD _) nt z z' _ _ _ _ _ her2 h okp base g0 μ0 w0 ok0 a w Q ⟨h1,h2,h3,μ,ok,R,hE,hS⟩ hQ)
  ·cases h
 |block id c _=>
  intro c' e σ x e' σ' her h okp base g0 μ0 w0 ok0 a w Q hst hQ;cases c'<;>first|(simp[C.er,j6]at her;done)|skip
  case cut ls c1=>exact hcut _ _ ls c1 _ _ _ _ _ her h okp base g0 μ0 w0 ok0 a w Q hst hQ
  rename_i id' c1;simp only[C.er,j6,C.block.injEq]at her;obtain⟨rfl,her1⟩:=her;simp only[run]at h;refine wp_block ?_;split at h
  ·rename_i j e1 σ1 h1;refine ihC k (aD _) nt c c1 _ _ _ _ _ her1 h1 okp base g0 μ0 w0 ok0 a w _ hst (λa' w' hst'=>?_);show(if j=id' then Q .normal a' w' else Q (.exit j) a' w');by_cases hj:j=id'
   ·subst hj;simp only[dW,cond_true,aA,Out.code.injEq]at h;obtain⟨rfl,rfl,rfl⟩:=h;rw[aC rfl];exact hQ a' w' hst'
   ·have hb:Nat.beq j id'=false:=by
     cases hq:Nat.beq j id' with
     |false=>rfl
     |true=>exact absurd (aT hq) hj
    simp only[hb,cond_false,aA,Out.code.injEq]at h;obtain⟨rfl,rfl,rfl⟩:=h;rw[aE hj];exact hQ a' w' hst'
  ·rename_i hne;refine ihC k (aD _) nt c c1 _ _ _ _ _ her1 h okp base g0 μ0 w0 ok0 a w _ hst (λa' w' hst'=>?_);cases x with
   |nrm=>exact hQ a' w' hst'
   |exit j=>exact absurd h (hne _ _ _)
   |ret=>exact hQ a' w' hst'
 |loop c _=>
  intro c' e σ x e' σ' her h okp base g0 μ0 w0 ok0 a w Q hst hQ;cases c'<;>first|(simp[C.er,j6]at her;done)|skip
  case cut ls c1=>exact hcut _ _ ls c1 _ _ _ _ _ her h okp base g0 μ0 w0 ok0 a w Q hst hQ
  rename_i c1;simp only[C.er,j6,C.loop.injEq]at her;refine wp_loop_ghost (λn a w=>n≤k+1∧∃e σ,run Δ n (.code (.loop c1) e σ)=some (.code x e' σ')∧St im nt okp base g0 μ0 w0 ok0 e σ a w) (k+1) ⟨aD _,e,σ,h,hst⟩ ?_;intro n a w ⟨hn,e,σ,h,hst⟩;cases n with
  |zero=>simp[run]at h
  |succ n=>
   simp only[run]at h;split at h
   ·rename_i e1 σ1 h1;exact ihC n (by omega) nt c c1 _ _ _ _ _ her h1 okp base g0 μ0 w0 ok0 a w _ hst (λa' w' hst'=>⟨n,cK n,by omega,e1,σ1,h,hst'⟩)
   ·rename_i hne;refine ihC n (by omega) nt c c1 _ _ _ _ _ her h okp base g0 μ0 w0 ok0 a w _ hst (λa' w' hst'=>?_);cases x with
    |nrm=>exact absurd h (hne _ _)
    |exit j=>exact hQ a' w' hst'
    |ret=>exact hQ a' w' hst'
 |scope c ih=>
  intro c' e σ x e' σ' her h okp base g0 μ0 w0 ok0 a w Q hst hQ;refine wp_scope_straight (ih c' _ _ _ _ _ her h okp base g0 μ0 w0 ok0 a w _ hst (λa' w' hst'=>?_));cases x with
  |nrm=>exact hQ a' w' hst'
  |exit j=>exact hQ a' w' hst'
  |ret=>exact hQ a' w' hst'
 |exit id=>
  intro c' e σ x e' σ' her h okp base g0 μ0 w0 ok0 a w Q hst hQ;cases c'<;>first|(simp[C.er,j6]at her;done)|skip
  case cut ls c1=>exact hcut _ _ ls c1 _ _ _ _ _ her h okp base g0 μ0 w0 ok0 a w Q hst hQ
  simp only[C.er,j6,C.exit.injEq]at her;subst her;simp only[run,aA,Out.code.injEq]at h;obtain⟨rfl,rfl,rfl⟩:=h;exact wp_exit (hQ a w hst)
 |ret=>
  intro c' e σ x e' σ' her h okp base g0 μ0 w0 ok0 a w Q hst hQ;cases c'<;>first|(simp[C.er,j6]at her;done)|skip
  case cut ls c1=>exact hcut _ _ ls c1 _ _ _ _ _ her h okp base g0 μ0 w0 ok0 a w Q hst hQ
  simp only[run,aA,Out.code.injEq]at h;obtain⟨rfl,rfl,rfl⟩:=h;exact wp_ret (hQ a w hst)
 |_=>
  intro c' e σ x e' σ' her h;exact absurd h (Ef _ _ _ _ _ her)
theorem S3(hm:P.follows .mixedOrders=true)(hΔ:DOk P im Δ)(hA:∀k,(∀j,j<k→Jt P im Δ j∧E2 P im Δ j)→Xg P im Δ k):
 ∀k,(∀j,j≤k→zY P im Δ j∧Jt P im Δ j∧E2 P im Δ j)∧Us P im Δ k:=by
 intro k
 induction k with
 |zero=>
  refine⟨λj hj=>?_,?_⟩
  ·cases Nat.le_zero.1 hj;refine⟨?_,?_,?_⟩
   ·intro nt c c' e σ x e' σ' _ h;simp[run]at h
   ·intro f caps as σ d σ' h;simp[run]at h
   ·intro f caps as σ d σ' h;simp[run]at h
  ·intro nt ops l e σ x e' σ' h;simp[run]at h
 |succ k ih=>
  obtain⟨i1,i2⟩:=ih;have hk:=i1 k (aD _);refine⟨λj hj=>?_,ZY hΔ i2 hk.2.1⟩;rcases az j (k+1)with h|h
  ·exact i1 j (by omega)
  ·have:j=k+1:=by omega
   subst this;exact⟨Yf hm (λj hj=>(i1 j hj).1) i2 (hA k (λj hj=>(i1 j (by omega)).2)),Yy hΔ hk.1,YI hΔ hk.1⟩
end
def tj(e e':Env)(l:List Nat):Prop:=∀t,t∈l→X.ev e (.t t)=X.ev e' (.t t)
section
variable {e e':Env}
theorem rd{x:X}(h:tj e e' (xT x)):X.ev e x=X.ev e' x:=by
 cases x with
 |t n=>exact h n (by simp[xT])
 |c d=>rfl
theorem rdL{l:List X}(h:tj e e' (xsT l)):∀x,x∈l→X.ev e x=X.ev e' x:=λx hx=>
 rd λt ht=>h t (dU.2 ⟨x,hx,ht⟩)
theorem rdM{l:List X}(h:tj e e' (xsT l)):l.map (X.ev e)=l.map (X.ev e'):=cN (rdL h)
theorem tj.left{a b:List Nat}(h:tj e e' (a++b)):tj e e' a:=λt ht=>h t (b9 _ ht)
theorem tj.right{a b:List Nat}(h:tj e e' (a++b)):tj e e' b:=λt ht=>h t (cF _ ht)
theorem rdF:∀{l:List (Nat×Nat×X)}{cs:List D},(∀x,x∈l.map (·.2.2)→X.ev e x=X.ev e' x)→fill (X.ev e) l cs=fill (X.ev e') l cs
 |[],_,_=>rfl
 |(off,sz,x)::r,cs,h=>by
  simp only[fill];rw[h x (by simp)];split
  ·split
   ·exact rdF (λy hy=>h y (by simp only[bB,bI];exact .inr hy))
   ·rfl
  ·rfl
theorem rdO{x:Option X}{n:Nat}(h:tj e e' (oT x)):rQ (X.ev e) x n=rQ (X.ev e') x n:=by
 cases x with
 |none=>rfl
 |some x=>simp only[rQ];rw[rd h]
theorem ES{nx:Nat}{g:Nat→Option Blk}{o:O}(h:tj e e' o.reads):evA nx (X.ev e) g o=evA nx (X.ev e') g o:=by
 cases o with
 |bad=>rfl
 |mv x=>simp only[O.reads]at h;simp only[evA,rd h]
 |pick c a b=>simp only[O.reads]at h;have h:=rdL h;simp only[evA,h c (by simp),h a (by simp),h b (by simp)]
 |alloc z=>rfl
 |box x=>simp only[O.reads]at h;simp only[evA,rd h]
 |build z l=>simp only[O.reads]at h;simp only[evA,rdF (rdL h)]
 |bsl n z l=>simp only[O.reads]at h;simp only[evA,rdF (rdL h)]
 |load1 x=>simp only[O.reads]at h;simp only[evA,rd h]
 |loadn n x=>simp only[O.reads]at h;simp only[evA,rd h]
 |store n x y=>rfl
 |nilc x=>simp only[O.reads]at h;simp only[evA,rd h]
 |isnil n x=>simp only[O.reads]at h;simp only[evA,rd h]
 |bin op x y=>simp only[O.reads]at h;have h:=rdL h;simp only[evA,h x (by simp),h y (by simp)]
 |binb op x y=>simp only[O.reads]at h;have h:=rdL h;simp only[evA,h x (by simp),h y (by simp)]
 |eqs n ks x y=>simp only[O.reads]at h;have h:=rdL h;simp only[evA,h x (by simp),h y (by simp)]
 |neg x=>simp only[O.reads]at h;simp only[evA,rd h]
 |not x=>simp only[O.reads]at h;simp only[evA,rd h]
 |toInt k x=>simp only[O.reads]at h;simp only[evA,rd h]
 |sid x=>simp only[O.reads]at h;simp only[evA,rd h]
 |b2s x=>simp only[O.reads]at h;simp only[evA,rd h]
 |s2b x=>simp only[O.reads]at h;simp only[evA,rd h]
 |mkfn f l=>simp only[O.reads]at h;simp only[evA,rdM h]
 |mksl sz by_ z l c=>simp only[O.reads]at h;have h:=rdL h;simp only[evA,h l (by simp),h c (by simp)]
 |slice sz x a b c=>
  simp only[O.reads]at h;simp only[evA,rd h.left,rdO h.right.left,rdO h.right.right.left,rdO h.right.right.right]
 |slstr x a b=>
  simp only[O.reads]at h;simp only[evA,rd h.left,rdO h.right.left,rdO h.right.right]
 |faddr n x=>simp only[O.reads]at h;simp only[evA,rd h]
 |field1 n x=>simp only[O.reads]at h;simp only[evA,rd h]
 |fieldn n m x=>simp only[O.reads]at h;simp only[evA,rd h]
 |iaddr sz x i=>simp only[O.reads]at h;have h:=rdL h;simp only[evA,h x (by simp),h i (by simp)]
 |index x i=>simp only[O.reads]at h;have h:=rdL h;simp only[evA,h x (by simp),h i (by simp)]
 |ext x i=>simp only[O.reads]at h;simp only[evA,rd h]
 |len x=>simp only[O.reads]at h;simp only[evA,rd h]
 |lens x=>simp only[O.reads]at h;simp only[evA,rd h]
 |max x y=>simp only[O.reads]at h;have h:=rdL h;simp only[evA,h x (by simp),h y (by simp)]
 |min x y=>simp only[O.reads]at h;have h:=rdL h;simp only[evA,h x (by simp),h y (by simp)]
 |apart x y=>simp only[O.reads]at h;have h:=rdL h;simp only[evA,h x (by simp),h y (by simp)]
 |add64 x y c=>simp only[O.reads]at h;have h:=rdL h;simp only[evA,h x (by simp),h y (by simp),h c (by simp)]
 |sub64 x y c=>simp only[O.reads]at h;have h:=rdL h;simp only[evA,h x (by simp),h y (by simp),h c (by simp)]
 |call p f l=>rfl
 |pld1 x=>simp only[O.reads]at h;simp only[evA,rd h]
 |pldn n x=>simp only[O.reads]at h;simp only[evA,rd h]
 |psl sz x lo hi mx=>
  simp only[O.reads]at h;simp only[evA,rd h.left,rdO h.right.left,rdO h.right.right.left,rdO h.right.right.right]
 |pia sz x i=>simp only[O.reads]at h;have h:=rdL h;simp only[evA,h x (by simp),h i (by simp)]
 |pbs n z l=>simp only[O.reads]at h;simp only[evA,rdF (rdL h)]
 |app sz by_ x y=>rfl
 |appk sz by_ x y=>rfl
 |copy sz x y=>rfl
 |clr sz z x=>rfl
theorem NP{σ:Sto}{o:O}(h:tj e e' o.reads):evW (X.ev e) σ o=evW (X.ev e') σ o:=by
 cases o with
 |store n x y=>simp only[O.reads]at h;have h:=rdL h;simp only[evW,h x (by simp),h y (by simp)]
 |app sz by_ x y=>simp only[O.reads]at h;have h:=rdL h;simp only[evW,sJ,h x (by simp),h y (by simp)]
 |appk sz by_ x y=>simp only[O.reads]at h;have h:=rdL h;simp only[evW,sJ,h x (by simp),h y (by simp)]
 |copy sz x y=>simp only[O.reads]at h;have h:=rdL h;simp only[evW,h x (by simp),h y (by simp)]
 |clr sz z x=>simp only[O.reads]at h;simp only[evW,rd h]
 |_=>rfl
theorem NI{gd:Option (Nat×Bool)}(h:tj e e' (match gd with
 |some (t,_)=>[t]
 |none=>[])):gdv e gd=gdv e' gd:=by
 cases gd with
 |none=>rfl
 |some tw=>
  obtain⟨t,want⟩:=tw;have h1:=h t (by simp);have key:∀(e:Env),gdv e (some (t,want))=match X.ev e (.t t)with
   |.b p=>some (p==want)
   |.tup _=>some false
   |_=>none:=by
   intro e;simp only[gdv,X.ev];cases e.get t with
   |none=>rfl
   |some d=>cases d<;>rfl
  rw[key,key,h1]
end
theorem AG{nx:Nat}{ev:X→D}{g:Nat→Option Blk}{o:O}(hb:blind o=true){d:D}{bs:List Blk}(h:evA nx ev g o=some (d,bs)):
 bs=[]∧∀nx' g',evA nx' ev g' o=some (d,[]):=by
 cases o<;>first|(cases hb;done)|skip
 all_goals
  have h0:=h;simp only[evA]at h
  (repeat' split at h)<;>first|(cases h;done)|skip
 all_goals
  simp only[aA,aJ]at h;obtain⟨_,rfl⟩:=h;exact⟨rfl,λnx' g'=>h0⟩
theorem J5{nx:Nat}{ev:X→D}{g:Nat→Option Blk}{o:O}{r:D×List Blk}(h:evA nx ev g o=some r):qG o=false:=by
 cases o<;>first|rfl|(cases h;done)
theorem yN{ev:X→D}{σ:Sto}{o:O}{r:D×Sto}(h:evW ev σ o=some r):qG o=true:=by
 cases o<;>first|rfl|(cases h;done)
def Sub(g g':Nat→Option Blk):Prop:=∀l b,g l=some b→∃b',g' l=some b'∧b'.cs=b.cs∧b'.st.live=b.st.live
section
variable {g g':Nat→Option Blk}
theorem Ll(hs:Sub g g'){d:D}{cs:List D}(h:at_ g d=some cs):at_ g' d=some cs:=by
 cases d<;>simp only[at_]at h ⊢ <;>first|(cases h;done)|skip
 case ptr l off=>
  cases hb:g l with
  |none=>rw[hb]at h;cases h
  |some b=>
   obtain⟨b',h1,h2,h3⟩:=hs l b hb;rw[hb]at h;simp only[h1,h2,h3];exact h
 case fp l=>exact h
theorem Fp(hs:Sub g g'){d:D}{sz:Nat}{cs:List D}(h:cellsOf g sz d=some cs):cellsOf g' sz d=some cs:=by
 cases d<;>simp only[cellsOf]at h ⊢ <;>first|(cases h;done)|skip
 case sl l off len cm z ex=>
  cases hb:g l with
  |none=>rw[hb]at h;cases h
  |some b=>
   obtain⟨b',h1,h2,h3⟩:=hs l b hb;rw[hb]at h;simp only[h1,h2,h3];exact h
 case tree l n ex=>exact h
def Cl(g:Nat→Option Blk):D→Prop
 |.sl l _ _ _ _ _=>g l≠none
 |.ptr l _=>g l≠none
 |_=>True
theorem Lm(hs:Sub g g'){d:D}(hc:Cl g d){cs:List D}(h:at_ g' d=some cs):at_ g d=some cs:=by
 cases d<;>simp only[at_]at h ⊢ <;>first|(cases h;done)|skip
 case ptr l off=>
  cases hb:g l with
  |none=>exact absurd hb hc
  |some b=>
   obtain⟨b',h1,h2,h3⟩:=hs l b hb;simp only[h1,h2,h3]at h;exact h
 case fp l=>exact h
theorem Fq(hs:Sub g g'){d:D}(hc:Cl g d){sz:Nat}{cs:List D}(h:cellsOf g' sz d=some cs):cellsOf g sz d=some cs:=by
 cases d<;>simp only[cellsOf]at h ⊢ <;>first|(cases h;done)|skip
 case sl l off len cm z ex=>
  cases hb:g l with
  |none=>exact absurd hb hc
  |some b=>
   obtain⟨b',h1,h2,h3⟩:=hs l b hb;simp only[h1,h2,h3]at h;exact h
 case tree l n ex=>exact h
theorem Qo(hs:Sub g g'){nx:Nat}{ev:X→D}{o:O}{r:D×List Blk}(h:evA nx ev g o=some r):evA nx ev g' o=some r:=by
 cases o with
 |load1 x=>
  simp only[evA]at h ⊢;split at h
  ·rename_i d ds hd;rw[Ll hs hd];exact h
  ·cases h
 |loadn n x=>
  simp only[evA]at h ⊢;split at h
  ·rename_i cs hd;rw[Ll hs hd];exact h
  ·cases h
 |b2s x=>
  simp only[evA]at h ⊢;split at h
  ·rename_i cs hd;rw[Fp hs hd];exact h
  ·cases h
 |nilc x=>
  simp only[evA]at h ⊢;split at h
  ·rename_i l o hd;cases hb:g l with
   |none=>rw[hb]at h;cases h
   |some b=>
    obtain⟨b',h1,h2,h3⟩:=hs l b hb;simp only[hb]at h;simp only[h1,h3];exact h
  all_goals exact h
 |isnil n x=>
  simp only[evA]at h ⊢;split at h
  ·rename_i l o len cm z ex hd;cases hb:g l with
   |none=>rw[hb]at h;cases h
   |some b=>
    obtain⟨b',h1,h2,h3⟩:=hs l b hb;simp only[hb]at h;simp only[h1,h3];exact h
  all_goals exact h
 |slice sz x a b c=>
  simp only[evA]at h ⊢;split at h
  ·rename_i l off len cm z ex hd;cases hb:g l with
   |none=>
    exfalso;revert h;rw[hb];intro h;split at h
    ·rename_i hq;cases hq
    ·cases h
   |some b1=>
    obtain⟨b',h1,h2,h3⟩:=hs l b1 hb;rw[h1];rw[hb]at h;split at h
    ·rename_i m hh lw b2 q1 q2 q3 q4;simp only[aA]at q4;subst q4;simp only[q1,q2,q3,h3];exact h
    ·cases h
  all_goals exact h
 |faddr n x=>
  simp only[evA]at h ⊢;split at h
  ·rename_i l o hd;cases hb:g l with
   |none=>rw[hb]at h;cases h
   |some b=>
    obtain⟨b',h1,h2,h3⟩:=hs l b hb;simp only[hb]at h;simp only[h1,h3];exact h
  all_goals exact h
 |iaddr sz x i=>
  simp only[evA]at h ⊢;split at h
  ·rename_i k n hi;split at h
   ·rename_i l off len cm z ex hd;cases hb:g l with
    |none=>rw[hb]at h;cases h
    |some b=>
     obtain⟨b',h1,h2,h3⟩:=hs l b hb;simp only[hb]at h;simp only[h1,h3];exact h
   all_goals exact h
  ·cases h
 |_=>exact h
theorem Qp(hs:Sub g g'){nx:Nat}{ev:X→D}{o:O}(hc:∀x,o.adr=some x→Cl g (ev x)){r:D×List Blk}(h:evA nx ev g' o=some r):evA nx ev g o=some r:=by
 cases o with
 |load1 x=>
  have hc:=hc x rfl;simp only[evA]at h ⊢;split at h
  ·rename_i d ds hd;rw[Lm hs hc hd];exact h
  ·cases h
 |loadn n x=>
  have hc:=hc x rfl;simp only[evA]at h ⊢;split at h
  ·rename_i cs hd;rw[Lm hs hc hd];exact h
  ·cases h
 |b2s x=>
  have hc:=hc x rfl;simp only[evA]at h ⊢;split at h
  ·rename_i cs hd;rw[Fq hs hc hd];exact h
  ·cases h
 |nilc x=>
  have hc:=hc x rfl;simp only[evA]at h ⊢;split at h
  ·rename_i l o hd;cases hb:g l with
   |none=>rw[hd]at hc;exact absurd hb hc
   |some b=>
    obtain⟨b',h1,h2,h3⟩:=hs l b hb;simp only[h1,h3]at h;exact h
  all_goals exact h
 |isnil n x=>
  have hc:=hc x rfl;simp only[evA]at h ⊢;split at h
  ·rename_i l o len cm z ex hd;cases hb:g l with
   |none=>rw[hd]at hc;exact absurd hb hc
   |some b=>
    obtain⟨b',h1,h2,h3⟩:=hs l b hb;simp only[h1,h3]at h;exact h
  all_goals exact h
 |slice sz x a b c=>
  have hc:=hc x rfl;simp only[evA]at h ⊢;split at h
  ·rename_i l off len cm z ex hd;cases hb:g l with
   |none=>rw[hd]at hc;exact absurd hb hc
   |some b1=>
    obtain⟨b',h1,h2,h3⟩:=hs l b1 hb;rw[h1]at h;split at h
    ·rename_i m hh lw b2 q1 q2 q3 q4;simp only[aA]at q4;subst q4;simp only[q1,q2,q3,←h3];exact h
    ·cases h
  all_goals exact h
 |faddr n x=>
  have hc:=hc x rfl;simp only[evA]at h ⊢;split at h
  ·rename_i l o hd;cases hb:g l with
   |none=>rw[hd]at hc;exact absurd hb hc
   |some b=>
    obtain⟨b',h1,h2,h3⟩:=hs l b hb;simp only[h1,h3]at h;exact h
  all_goals exact h
 |iaddr sz x i=>
  have hc:=hc x rfl;simp only[evA]at h ⊢;split at h
  ·rename_i k n hi;split at h
   ·rename_i l off len cm z ex hd;cases hb:g l with
    |none=>rw[hd]at hc;exact absurd hb hc
    |some b=>
     obtain⟨b',h1,h2,h3⟩:=hs l b hb;simp only[h1,h3]at h;exact h
   all_goals exact h
  ·cases h
 |_=>exact h
theorem w6{α β:Type}{f f':α→Option (β×List Nat)}:∀{xs:List α}{r:List β×List Nat},(∀d,d∈xs→∀r,f d=some r→f' d=some r)→iP f xs=some r→iP f' xs=some r
 |[],r,_,h=>h
 |x::xs,r,hf,h=>by
  simp only[iP]at h ⊢;split at h
  ·rename_i y a hy;split at h
   ·rename_i ys b hys;rw[hf x (by simp) _ hy];simp only;rw[w6 (λd hd=>hf d (by simp[hd])) hys];exact h
   ·cases h
  ·cases h
theorem GY(hs:Sub g g'):∀(k:Nat)(d:D)(r:D×List Nat),res g k d=some r→res g' k d=some r
 |0,d,r,h=>by simp[res]at h
 |k+1,d,r,h=>by
  have ih:∀(xs:List D)(r:List D×List Nat),iP (res g k) xs=some r→iP (res g' k) xs=some r:=λxs r h=>w6 (λd _ r hr=>GY hs k d r hr) h;cases d<;>simp only[res]at h ⊢ <;>first|exact h|skip
  case sl l off len cm z ex=>
   cases hb:g l with
   |none=>rw[hb]at h;cases h
   |some b=>
    obtain⟨b',h1,h2,h3⟩:=hs l b hb;simp only[hb]at h;simp only[h1,h2,h3];split at h
    ·cases h
    ·rename_i hl;rw[aE hl];split at h
     ·rename_i rr hcut;split at h
      ·rename_i cs ls hm;rw[ih _ _ hm];exact h
      ·cases h
     ·cases h
  case ptr l off=>
   cases hb:g l with
   |none=>rw[hb]at h;cases h
   |some b=>
    obtain⟨b',h1,h2,h3⟩:=hs l b hb;simp only[hb]at h;simp only[h1,h2,h3];split at h
    ·cases h
    ·rename_i hl;rw[aE hl];split at h
     ·rename_i cs ls hm;rw[ih _ _ hm];exact h
     ·cases h
  all_goals
   split at h
   ·rename_i cs ls hm;rw[ih _ _ hm];exact h
   ·cases h
end
section
variable {im:Nat→Option Nat} {g g':Nat→Option Blk} {μ:Nat→Nat×Nat} {w:World} {ok okp:Nat→Nat→Prop} {base:Nat}
theorem Ls{cs:List D}{b o:Nat}(h:VRc im g μ w ok cs b o):∀d,d∈cs→∃v,VR im g μ w ok d v:=by
 intro d hd;obtain⟨j,hj⟩:=List.getElem?_of_mem hd;obtain⟨v,_,hv⟩:=xR h hj;exact⟨v,hv⟩
theorem BP{cs:List D}{vs:List Value}(h:VRl im g μ w ok cs vs):∀d,d∈cs→∃v,VR im g μ w ok d v:=by
 intro d hd;obtain⟨j,hj⟩:=List.getElem?_of_mem hd;obtain⟨v,_,hv⟩:=(jp.1 h).2 j d hj;exact⟨v,hv⟩
theorem Rt{d:D}{v:Value}(h:VR im g μ w ok d v):Cl g d:=by
 cases d<;>simp only[Cl]
 ·simp only[VR]at h;obtain⟨b,_,_,hb,_⟩:=h;rw[hb];simp
 ·simp only[VR]at h;obtain⟨b,_,hb,_⟩:=h;rw[hb];simp
theorem GZ(R:Rel im g μ w ok okp base)(hs:Sub g g'):∀(k:Nat)(d:D)(v:Value)(r:D×List Nat),VR im g μ w ok d v→res g' k d=some r→res g k d=some r
 |0,d,v,r,_,h=>by simp[res]at h
 |k+1,d,v,r,hv,h=>by
  have ih:∀(xs:List D)(r:List D×List Nat),(∀d,d∈xs→∃v,VR im g μ w ok d v)→iP (res g' k) xs=some r→iP (res g k) xs=some r:=λxs r hx h=>
   w6 (λd hd r hr=>by
    obtain⟨v,hv⟩:=hx d hd;exact GZ R hs k d v r hv hr) h
  have hcl:=Rt hv;cases d<;>simp only[res]at h ⊢ <;>first|exact h|skip
  case sl l off len cm z ex=>
   cases hb:g l with
   |none=>exact absurd hb hcl
   |some b=>
    obtain⟨b',h1,h2,h3⟩:=hs l b hb;simp only[h1,h2,h3]at h;simp only;split at h
    ·cases h
    ·rename_i hl;rw[aE hl];split at h
     ·rename_i rr hcut;split at h
      ·rename_i cs ls hm;have hlive:b.st.live=true:=by simpa using hl
       rw[ih _ _ (λd hd=>Ls (R.blk l b hb hlive).2 d (by rw[(vv hcut).1]at hd;exact dx (bw hd))) hm];exact h
      ·cases h
     ·cases h
  case ptr l off=>
   cases hb:g l with
   |none=>exact absurd hb hcl
   |some b=>
    obtain⟨b',h1,h2,h3⟩:=hs l b hb;simp only[h1,h2,h3]at h;simp only;split at h
    ·cases h
    ·rename_i hl;rw[aE hl];split at h
     ·rename_i cs ls hm;have hlive:b.st.live=true:=by simpa using hl
      rw[ih _ _ (λd hd=>Ls (R.blk l b hb hlive).2 d (dx hd)) hm];exact h
     ·cases h
  case agg cs=>
   simp only[VR]at hv;obtain⟨arr,_,hl⟩:=hv;split at h
   ·rename_i cs' ls hm;rw[ih _ _ (BP hl) hm];exact h
   ·cases h
  case tup cs=>
   simp only[VR]at hv;obtain⟨arr,_,hl⟩:=hv;split at h
   ·rename_i cs' ls hm;rw[ih _ _ (BP hl) hm];exact h
   ·cases h
  case fn f cs=>
   simp only[VR]at hv;obtain⟨F,arr,_,_,hl⟩:=hv;split at h
   ·rename_i cs' ls hm;rw[ih _ _ (BP hl) hm];exact h
   ·cases h
theorem Mh(R:Rel im g μ w ok okp base)(hs:Sub g g'){k:Nat}{ds:List D}{vs:List Value}{r:List D×List Nat}(hv:VRl im g μ w ok ds vs)(h:iP (res g' k) ds=some r):iP (res g k) ds=some r:=
 w6 (λd hd r hr=>by
  obtain⟨v,hv⟩:=BP hv d hd;exact GZ R hs k d v r hv hr) h
end
theorem yP:∀(bs:List Blk)(g:Nat→Option Blk)(nx l:Nat),rm g nx bs l=if nx≤l∧l<nx+bs.length then bs[l-nx]?else g l
 |[],g,nx,l=>by
  rw[aE (by simp only[cj];omega)];rfl
 |b::bs,g,nx,l=>by
  simp only[rm,ay];rw[yP bs];by_cases h:nx+1≤l∧l<nx+1+bs.length
  ·rw[aC h,aC (by omega),show l-nx=(l-(nx+1))+1 by omega];simp
  ·rw[aE h];by_cases h2:l=nx
   ·subst h2;rw[fB,aC (by omega)];simp
   ·rw[fJ _ _ h2,aE (by omega)]
theorem vu:∀(ls:List Nat)(g:Nat→Option Blk)(l:Nat),t5 g ls l=if l∈ls then(g l).map (λq=>⟨q.cs,q.st.fz⟩)else g l
 |[],g,l=>by simp[t5]
 |m::ls,g,l=>by
  simp only[t5];cases hm:g m with
  |none=>
   show t5 g ls l=_;rw[vu ls];by_cases h:l=m
   ·subst h;simp[hm]
   ·simp[h]
  |some b=>
   show t5 (upd g m (some ⟨b.cs,b.st.fz⟩)) ls l=_;rw[vu ls];by_cases h:l=m
   ·subst h;rw[fB,hm];simp[VN]
   ·rw[fJ _ _ h];simp[h]
section
open Classical
noncomputable def fz(c:Prop)(x:Option Blk):Option Blk:=if c then x.map (λq=>⟨q.cs,q.st.fz⟩)else x
theorem BD(c:Prop):fz c none=none:=by unfold fz;split<;>rfl
theorem zF{c:Prop}{q b:Blk}(h:fz c (some q)=some b):b.cs=q.cs∧b.st.live=q.st.live:=by
 unfold fz at h;split at h
 ·simp only[dB,aA]at h;subst h;exact⟨rfl,BE _⟩
 ·simp only[aA]at h;subst h;exact⟨rfl,rfl⟩
theorem Qc{c:Prop}{q b:Blk}(h:fz c (some q)=some b):b.st.fz=q.st.fz:=by
 unfold fz at h;split at h
 ·simp only[dB,aA]at h;subst h;exact VN _
 ·simp only[aA]at h;subst h;rfl
theorem Yb{c:Prop}{q:Blk}:∃b,fz c (some q)=some b:=by
 unfold fz;split<;>simp
theorem He{c c':Prop}(h:c↔c')(x:Option Blk):fz c x=fz c' x:=by
 have:c=c':=propext h;rw[this]
noncomputable def Gb(g0:Nat→Option Blk)(np:Nat)(A:Nat→Option (Nat×Blk))(T:Nat→Prop)(l:Nat):Option Blk:=
 if l<np then g0 l else match A l with
  |some (j,b)=>if T j then some b else none
  |none=>none
noncomputable def Gf(g0:Nat→Option Blk)(np:Nat)(A:Nat→Option (Nat×Blk))(ls:Nat→List Nat)(T:Nat→Prop):Nat→Option Blk:=λl=>
 fz (∃j,T j∧l∈ls j) (Gb g0 np A T l)
variable {g0:Nat→Option Blk} {np:Nat} {A:Nat→Option (Nat×Blk)} {ls:Nat→List Nat} {T T':Nat→Prop}
theorem Xd(h:∀j,T j→T' j){l:Nat}{q:Blk}(hq:Gb g0 np A T l=some q):Gb g0 np A T' l=some q:=by
 unfold Gb at hq ⊢;split
 ·rename_i hl;rw[aC hl]at hq;exact hq
 ·rename_i hl;rw[aE hl]at hq;cases hA:A l with
  |none=>rw[hA]at hq;cases hq
  |some jb=>
   obtain⟨j,b⟩:=jb;rw[hA]at hq;simp only at hq ⊢;split at hq
   ·rename_i hj;rw[aC (h j hj)];exact hq
   ·cases hq
theorem Ju(h:∀j,T j→T' j):Sub (Gf g0 np A ls T) (Gf g0 np A ls T'):=by
 intro l b hb;unfold Gf at hb ⊢;cases hq:Gb g0 np A T l with
 |none=>rw[hq,BD]at hb;cases hb
 |some q=>
  rw[hq]at hb;rw[Xd h hq];obtain⟨b',hb'⟩:=Yb (c:=∃j,T' j∧l∈ls j) (q:=q);exact⟨b',hb',by rw[(zF hb').1,(zF hb).1],by rw[(zF hb').2,(zF hb).2]⟩
theorem Rw(h:∀j,T j→T' j){l:Nat}(hl:Gf g0 np A ls T l≠none):Gf g0 np A ls T' l≠none:=by
 cases hb:Gf g0 np A ls T l with
 |none=>exact absurd hb hl
 |some b=>
  obtain⟨b',h1,_⟩:=Ju h l b hb;rw[h1];simp
theorem IJ(h1:∀j l,l∈ls j→(T j↔T' j))(h2:∀j l b,A l=some (j,b)→(T j↔T' j)):Gf g0 np A ls T=Gf g0 np A ls T':=by
 funext l;unfold Gf;have e1:(∃j,T j∧l∈ls j)↔(∃j,T' j∧l∈ls j):=⟨λ⟨j,a,b⟩=>⟨j,(h1 j l b).1 a,b⟩,λ⟨j,a,b⟩=>⟨j,(h1 j l b).2 a,b⟩⟩
 have e2:Gb g0 np A T l=Gb g0 np A T' l:=by
  unfold Gb;split
  ·rfl
  ·cases hA:A l with
   |none=>rfl
   |some jb=>
    obtain⟨j,b⟩:=jb;simp only;by_cases ht:T j
    ·rw[aC ht,aC ((h2 j l b hA).1 ht)]
    ·rw[aE ht,aE (λh=>ht ((h2 j l b hA).2 h))]
 rw[He e1,e2]
theorem DI(h:∀j,¬T j)(hf:∀l,np≤l→g0 l=none):Gf g0 np A ls T=g0:=by
 funext l;unfold Gf fz;rw[aE (λ⟨j,hj,_⟩=>h j hj)];unfold Gb;split
 ·rfl
 ·rename_i hl;rw[hf l (by omega)];cases A l with
  |none=>rfl
  |some jb=>obtain⟨j,b⟩:=jb;simp only;rw[aE (h j)]
theorem Lx{x nx:Nat}{bs:List Blk}(hx:¬T x)(hn:np≤nx)(hA1:∀i b,bs[i]?=some b→A (nx+i)=some (x,b))(hA2:∀l b,A l=some (x,b)→nx≤l∧l<nx+bs.length)
 (hl:∀l,l∈ls x→∃b,Gf g0 np A ls T l=some b∧b.st.live=true) (hT:∀j,T j→∀l,l∈ls j→Gf g0 np A ls T l≠none):
 rm (t5 (Gf g0 np A ls T) (ls x)) nx bs=Gf g0 np A ls (λj=>T j∨j=x):=by
 funext l;rw[yP];by_cases hin:nx≤l∧l<nx+bs.length
 ·rw[aC hin];have hlt:l-nx<bs.length:=by omega
  have hb:=aB hlt;have hA:=hA1 _ _ hb;rw[show nx+(l-nx)=l by omega]at hA;have hnone:Gf g0 np A ls T l=none:=by
   unfold Gf;have:Gb g0 np A T l=none:=by
    unfold Gb;rw[aE (by omega),hA];simp only;rw[aE hx]
   rw[this,BD]
  have hno:¬ ∃j,(T j∨j=x)∧l∈ls j:=by
   rintro ⟨j,hj|rfl,hm⟩
   ·exact hT j hj l hm hnone
   ·obtain⟨b,hb,_⟩:=hl l hm;rw[hnone]at hb;cases hb
  unfold Gf fz;rw[aE hno];unfold Gb;rw[aE (by omega),hA,hb];simp
 ·rw[aE hin,vu];have hbase:Gb g0 np A (λj=>T j∨j=x) l=Gb g0 np A T l:=by
   unfold Gb;split
   ·rfl
   ·cases hA:A l with
    |none=>rfl
    |some jb=>
     obtain⟨j,b⟩:=jb;simp only;have hne:j≠x:=by
      rintro rfl
      exact hin (hA2 l b hA)
     by_cases ht:T j
     ·rw[aC ht,aC (.inl ht)]
     ·rw[aE ht,aE (λh=>h.elim ht hne)]
  by_cases hm:l∈ls x
  ·rw[aC hm];obtain⟨b,hb,hlive⟩:=hl l hm;rw[hb];have hb':=hb;unfold Gf at hb' ⊢;rw[hbase];cases hq:Gb g0 np A T l with
   |none=>rw[hq,BD]at hb';cases hb'
   |some q=>
    rw[hq]at hb';obtain⟨f1,f2⟩:=zF hb';unfold fz;rw[aC ⟨x,.inr rfl,hm⟩];rw[f2]at hlive;simp[f1,Qc hb']
  ·rw[aE hm];unfold Gf;rw[hbase];refine He ⟨λ⟨j,a,b⟩=>⟨j,.inl a,b⟩,?_⟩ _
   rintro ⟨j,hj|rfl,b⟩
   ·exact⟨j,hj,b⟩
   ·exact absurd b hm
end
section
variable {P:Program} {im:Nat→Option Nat} {Δ:Tr Ent}
inductive Eff (P:Program) (im:Nat→Option Nat) (Δ:Tr Ent) (K:Nat) (i:Ins) (e:Env) (σ σ':Sto) (d:D) (ls:List Nat) (bs:List Blk):Prop where
 |skip (h1:gdv e i.gd=some false) (h2:d=.tup []) (h3:ls=[]) (h4:bs=[]) (h5:σ'=σ)
 |quiet (h1:gdv e i.gd=some true) (h0:∀p f as,i.op≠.call p f as) (h2:evA σ.nx (X.ev e) σ.get i.op=some (d,bs)) (h3:ls=[]) (h4:σ'=σ.adds bs)
 |pure (h1:gdv e i.gd=some true) (f:X) (as:List X) (k:Nat) (caps as':List D) (l0:List Nat) (r:D) (h2:i.op=.call true f as) (h3:X.ev e f=.fn k caps)
  (h4:iP (res σ.get fv) (as.map (X.ev e)++caps)=some (as',l0)) (h5:∀F,im F=some k→GC P im F as' r) (h6:d=(mat σ.nx r).1) (h7:ls=Ah r l0) (h8:bs=(mat σ.nx r).2) (h9:σ'=(fin σ l0 r).2) (h10:Δ.get k≠none)
 |write (h1:gdv e i.gd=some true) (h2:ls=[]) (h3:bs=[]) (h4:evW (X.ev e) σ i.op=some (d,σ'))
 |call (h1:gdv e i.gd=some true) (h2:ls=[]) (h3:bs=[]) (f:X) (as:List X) (k:Nat) (caps:List D) (h4:i.op=.call false f as) (h5:X.ev e f=.fn k caps) (j:Nat) (hj:j<K)
  (h6:run Δ j (.call false (.fn k caps) (as.map (X.ev e)) σ)=some (.val d σ')) (h10:Δ.get k≠none)
theorem xb{k:Nat}{p:Bool}{f:Nat}{caps as:List D}{σ:Sto}{r:Out}(h:run Δ k (.call p (.fn f caps) as σ)=some r):Δ.get f≠none:=by
 intro hn;cases k<;>simp[run,hn]at h
theorem Eff.mono{K K':Nat}(hK:K≤K'){i:Ins}{e:Env}{σ σ':Sto}{d:D}{ls:List Nat}{bs:List Blk}(h:Eff P im Δ K i e σ σ' d ls bs):Eff P im Δ K' i e σ σ' d ls bs:=by
 cases h with
 |skip h1 h2 h3 h4 h5=>exact .skip h1 h2 h3 h4 h5
 |quiet h1 h0 h2 h3 h4=>exact .quiet h1 h0 h2 h3 h4
 |pure h1 f as k caps as' l0 r h2 h3 h4 h5 h6 h7 h8 h9 h10=>exact .pure h1 f as k caps as' l0 r h2 h3 h4 h5 h6 h7 h8 h9 h10
 |write h1 h2 h3 h4=>exact .write h1 h2 h3 h4
 |call h1 h2 h3 f as k caps h4 h5 j hj h6 h10=>exact .call h1 h2 h3 f as k caps h4 h5 j (bp hj hK) h6 h10
theorem xF{Δ:Tr Ent}{k:Nat}{dst:Option Nat}{gd:Option (Nat×Bool)}{p:Bool}{f:X}{as:List X}{l:List Ins}{e:Env}{σ:Sto}(hg:gdv e gd=some true):
 run Δ (k+1) (.ops (⟨dst,gd,.call p f as⟩::l) e σ)=match run Δ k (.call p (f.ev e) (as.map (X.ev e)) σ)with
  |some (.val d σ)=>run Δ k (.ops l (put e dst d) σ)
  |_=>none:=by
 simp only[run,hg];rfl
theorem uc{Δ:Tr Ent}{k:Nat}{dst:Option Nat}{gd:Option (Nat×Bool)}{o:O}{l:List Ins}{e:Env}{σ:Sto}(hg:gdv e gd=some true)(hne:∀p f as,o≠.call p f as):
 run Δ (k+1) (.ops (⟨dst,gd,o⟩::l) e σ)=match evA σ.nx (X.ev e) σ.get o with
  |some (d,bs)=>run Δ k (.ops l (put e dst d) (σ.adds bs))
  |none=>match evW (X.ev e) σ o with
   |some (d,σ)=>run Δ k (.ops l (put e dst d) σ)
   |none=>none:=by
 cases o<;>first|exact absurd rfl (hne _ _ _)|(simp only[run,hg];rfl)
theorem xG{Δ:Tr Ent}{k:Nat}{dst:Option Nat}{gd:Option (Nat×Bool)}{o:O}{l:List Ins}{e:Env}{σ:Sto}(hg:gdv e gd=some false):
 run Δ (k+1) (.ops (⟨dst,gd,o⟩::l) e σ)=run Δ k (.ops l (put e dst (.tup [])) σ):=by
 simp only[run,hg]
theorem KK{Δ:Tr Ent}{k:Nat}{dst:Option Nat}{gd:Option (Nat×Bool)}{o:O}{l:List Ins}{e:Env}{σ:Sto}(hg:gdv e gd=none):
 run Δ (k+1) (.ops (⟨dst,gd,o⟩::l) e σ)=none:=by
 simp only[run,hg]
theorem vb{Δ:Tr Ent}{k:Nat}{p:Bool}{f:Nat}{caps as:List D}{σ:Sto}:run Δ (k+1) (.call p (.fn f caps) as σ)=match Δ.get f with
 |none=>none
 |some (.model M)=>match iP (res σ.get fv) (as++caps)with
  |some (as,ls)=>match M as with
   |some r=>some (.val (fin σ ls r).1 (fin σ ls r).2)
   |none=>none
  |none=>none
 |some (.body F)=>match !p&&Nat.beq F.mode 2 with
  |true=>match run Δ k (.code F.body (rM .nil 0 (as++caps)) σ)with
   |some (.code x e σ)=>match x with
    |.exit _=>none
    |_=>match qI e σ F.res with
     |some d=>some (.val d σ)
     |none=>none
   |_=>none
  |false=>match iP (res σ.get fv) (as++caps)with
   |some (as,ls)=>match run Δ k (.code F.body (rM .nil 0 as) Sto.empty)with
    |some (.code x e σ')=>match x with
     |.exit _=>none
     |_=>match qI e σ' F.res with
      |some d=>match nu (!Nat.beq F.mode 0) σ'.get fv d with
       |some r=>some (.val (fin σ ls r).1 (fin σ ls r).2)
       |none=>none
      |none=>none
    |_=>none
   |none=>none:=by
 simp only[run];rfl
theorem C3{ev:X→D}{σ σ':Sto}{sz bs:Nat}{x y:X}{d:D}(h:sJ ev σ sz bs x y=some (d,σ')):σ.nx≤σ'.nx:=by
 unfold sJ at h
 (repeat' split at h)<;>first|(cases h;done)|skip
 all_goals
  simp only[aA,aJ]at h;obtain⟨_,rfl⟩:=h
  first
   |exact aD _
   |(rw[(oR _ _).2];show σ.nx≤σ.nx+_;omega)
   |(rw[(oR _ _).2];split<;>(show σ.nx≤σ.nx+_;omega))
theorem Qn{ev:X→D}{σ σ':Sto}{q:O}{d:D}(h:evW ev σ q=some (d,σ')):σ.nx≤σ'.nx:=by
 cases q<;>simp only[evW]at h<;>first|(cases h;done)|skip
 all_goals
  (repeat' split at h)<;>first|(cases h;done)|(exact C3 h)|skip
 all_goals
  simp only[aA,aJ]at h;obtain⟨_,rfl⟩:=h
  first
   |exact aD _
   |(show σ.nx≤(Sto.put _ _ _).nx;rw[Sto.nx_put];exact C3 ‹_›)
   |exact C3 ‹_›
   |(rw[(oR _ _).2];show σ.nx≤σ.nx+_;omega)
   |(rw[(oR _ _).2];split<;>(show σ.nx≤σ.nx+_;omega))
def Job.nx:Job→Nat
 |.code _ _ σ=>σ.nx
 |.ops _ _ σ=>σ.nx
 |.call _ _ _ σ=>σ.nx
def Out.nx:Out→Nat
 |.code _ _ σ=>σ.nx
 |.val _ σ=>σ.nx
theorem Vi{Δ:Tr Ent}:∀(k:Nat)(j:Job)(r:Out),run Δ k j=some r→j.nx≤r.nx:=by
 intro k
 induction k with
 |zero=>intro j r h;simp[run]at h
 |succ k ih=>
  intro j r h;cases j with
  |code c e σ=>
   cases c with
   |bad=>simp[run]at h
   |skip=>simp only[run,aA]at h;subst h;exact aD _
   |reg l=>simp only[run]at h;have a1:=ih _ _ h;exact a1
   |seq a b=>
    simp only[run]at h;split at h
    ·rename_i e1 σ1 h1;have a1:=ih _ _ h1;have a2:=ih _ _ h;exact bT a1 a2
    ·have a1:=ih _ _ h;exact a1
   |cond x a b=>
    simp only[run]at h;split at h
    ·have a1:=ih _ _ h;exact a1
    ·have a1:=ih _ _ h;exact a1
    ·cases h
   |block id c=>
    simp only[run]at h;split at h
    ·rename_i j e1 σ1 h1;have:=ih _ _ h1;cases hj:Nat.beq j id with
     |true=>rw[hj]at h;simp only[cond_true,aA]at h;subst h;exact this
     |false=>rw[hj]at h;simp only[cond_false,aA]at h;subst h;exact this
    ·have a1:=ih _ _ h;exact a1
   |loop c=>
    simp only[run]at h;split at h
    ·rename_i e1 σ1 h1;have a1:=ih _ _ h1;have a2:=ih _ _ h;exact bT a1 a2
    ·have a1:=ih _ _ h;exact a1
   |exit id=>simp only[run,aA]at h;subst h;exact aD _
   |ret=>simp only[run,aA]at h;subst h;exact aD _
   |cut ls c=>simp only[run]at h;have a1:=ih _ _ h;exact a1
  |ops l e σ=>
   cases l with
   |nil=>simp only[run,aA]at h;subst h;exact aD _
   |cons i l=>
    obtain⟨dst,gd,op⟩:=i;rcases yb h with⟨h1,h2⟩|⟨h1,⟨p,f,caps,as,d,σ1,q1,q2,q3,q4⟩|⟨d,bs,q0,q1,q2⟩|⟨d,σ1,q0,_,q1,q2⟩⟩
    ·have a1:=ih _ _ h2;exact a1
    ·have a1:=ih _ _ q3;have a2:=ih _ _ q4;exact bT a1 a2
    ·have h3:=ih _ _ q2;have h4:=(oR bs σ).2;show σ.nx≤r.nx;have h5:(σ.adds bs).nx≤r.nx:=h3;omega
    ·have a2:=ih _ _ q2;exact bT (Qn q1) a2
  |call p f as σ=>
   cases f
   case fn f caps=>
    rw[vb]at h;have hfin:∀ls q,σ.nx≤(fin σ ls q).2.nx:=λls q=>by rw[J4];omega
    split at h
    ·cases h
    ·split at h
     ·split at h
      ·simp only[aA]at h;subst h;exact hfin _ _
      ·cases h
     ·cases h
    ·split at h
     ·split at h
      ·rename_i x e1 σ1 h1;split at h
       ·cases h
       ·split at h
        ·simp only[aA]at h;subst h;have a1:=ih _ _ h1;exact a1
        ·cases h
      ·cases h
     ·split at h
      ·split at h
       ·split at h
        ·cases h
        ·split at h
         ·split at h
          ·simp only[aA]at h;subst h;exact hfin _ _
          ·cases h
         ·cases h
       ·cases h
      ·cases h
   all_goals simp[run]at h
theorem yd{Δ:Tr Ent}{l2:List Ins}:∀(l1:List Ins)(k:Nat)(e:Env)(σ:Sto)(r:Out),run Δ k (.ops (l1++l2) e σ)=some r→∃e1 σ1 m,run Δ k (.ops l1 e σ)=some (.code .nrm e1 σ1)∧run Δ m (.ops l2 e1 σ1)=some r
 |[],0,e,σ,r,h=>by simp[run]at h
 |[],k+1,e,σ,r,h=>⟨e,σ,k+1,by simp only[run],h⟩
 |i::l,0,e,σ,r,h=>by simp[run]at h
 |i::l,k+1,e,σ,r,h=>by
  obtain⟨dst,gd,op⟩:=i;rcases yb (show run Δ (k+1) (.ops (⟨dst,gd,op⟩::(l++l2)) e σ)=some r from h)with⟨h1,h2⟩|⟨h1,⟨p,f,caps,as,d,σ1,q1,q2,q3,q4⟩|⟨d,bs,q0,q1,q2⟩|⟨d,σ1,q0,q5,q1,q2⟩⟩
  ·obtain⟨e1,σ2,m,a1,a2⟩:=yd l k _ _ _ h2;exact⟨e1,σ2,m,by rw[xG h1];exact a1,a2⟩
  ·obtain⟨e1,σ2,m,a1,a2⟩:=yd l k _ _ _ q4;have q1:op=.call p f as:=q1;subst q1;exact⟨e1,σ2,m,by rw[xF h1,q2,q3];exact a1,a2⟩
  ·obtain⟨e1,σ2,m,a1,a2⟩:=yd l k _ _ _ q2;exact⟨e1,σ2,m,by rw[uc h1 q0,q1];exact a1,a2⟩
  ·obtain⟨e1,σ2,m,a1,a2⟩:=yd l k _ _ _ q2;exact⟨e1,σ2,m,by rw[uc h1 q0,q5];simp only[q1];exact a1,a2⟩
theorem KM:∀(l:List Ins)(k:Nat)(e:Env)(σ:Sto)(x:Ex)(e':Env)(σ':Sto),(∀j,j<k→E2 P im Δ j)→run Δ k (.ops l e σ)=some (.code x e' σ')→
 x=.nrm∧∃(es:Nat→Env)(ss:Nat→Sto)(dv:Nat→D)(ls:Nat→List Nat)(bs:Nat→List Blk),es 0=e∧ss 0=σ∧es l.length=e'∧ss l.length=σ'∧
  ∀i ins,l[i]?=some ins→es (i+1)=put (es i) ins.dst (dv i)∧Eff P im Δ k ins (es i) (ss i) (ss (i+1)) (dv i) (ls i) (bs i)
 |[],0,e,σ,x,e',σ',_,h=>by simp[run]at h
 |[],k+1,e,σ,x,e',σ',_,h=>by
  simp only[run,aA,Out.code.injEq]at h;obtain⟨rfl,rfl,rfl⟩:=h;exact⟨rfl,λ_=>e,λ_=>σ,λ_=>.u,λ_=>[],λ_=>[],rfl,rfl,rfl,rfl,λi ins hi=>by simp at hi⟩
 |i0::l,0,e,σ,x,e',σ',_,h=>by simp[run]at h
 |i0::l,k+1,e,σ,x,e',σ',hP,h=>by
  have key:∀(d:D)(l0:List Nat)(b0:List Blk)(σ1:Sto),Eff P im Δ (k+1) i0 e σ σ1 d l0 b0→run Δ k (.ops l (put e i0.dst d) σ1)=some (.code x e' σ')→
   x=.nrm∧∃(es:Nat→Env)(ss:Nat→Sto)(dv:Nat→D)(ls:Nat→List Nat)(bs:Nat→List Blk),es 0=e∧ss 0=σ∧es (i0::l).length=e'∧ss (i0::l).length=σ'∧
    ∀i ins,(i0::l)[i]?=some ins→es (i+1)=put (es i) ins.dst (dv i)∧Eff P im Δ (k+1) ins (es i) (ss i) (ss (i+1)) (dv i) (ls i) (bs i):=by
   intro d l0 b0 σ1 heff hrun;obtain⟨hx,es,ss,dv,ls,bs,q1,q2,q3,q4,q5⟩:=KM l k _ _ _ _ _ (λj hj=>hP j (by omega)) hrun;refine⟨hx,λi=>Nat.casesOn i e es,λi=>Nat.casesOn i σ ss,λi=>Nat.casesOn i d dv,λi=>Nat.casesOn i l0 ls,λi=>Nat.casesOn i b0 bs,rfl,rfl,q3,q4,?_⟩;intro i ins hi;cases i with
   |zero=>
    simp only[bG,aA]at hi;subst hi;refine⟨q1,?_⟩;show Eff P im Δ (k+1) i0 e σ (ss 0) d l0 b0;rw[q2];exact heff
   |succ i=>
    simp only[bM]at hi;obtain⟨a1,a2⟩:=q5 i ins hi;exact⟨a1,a2.mono (Nat.le_succ k)⟩
  rcases yb h with⟨h1,h2⟩|⟨h1,⟨p,f,caps,as,d,σ1,q1,q2,q3,q4⟩|⟨d,bs,q0,q1,q2⟩|⟨d,σ1,q0,_,q1,q2⟩⟩
  ·exact key (.tup []) [] [] σ (.skip h1 rfl rfl rfl rfl) h2
  ·cases p with
   |true=>
    obtain⟨as',ls,r,p1,p2,p3,p4⟩:=hP k (cK k) caps.1 caps.2 _ σ d σ1 q3;refine key d (Ah r ls) (mat σ.nx r).2 σ1 (.pure h1 f as caps.1 caps.2 as' ls r q1 q2 p1 p4 ?_ rfl rfl p3 (xb q3)) q4;rw[p2,LJ]
   |false=>exact key d [] [] σ1 (.call h1 rfl rfl f as caps.1 caps.2 q1 q2 k (cK k) q3 (xb q3)) q4
  ·exact key d [] bs (σ.adds bs) (.quiet h1 q0 q1 rfl rfl) q2
  ·exact key d [] [] σ1 (.write h1 rfl rfl q1) q2
theorem Eff.still{K:Nat}{i:Ins}{e:Env}{σ σ':Sto}{d:D}{ls:List Nat}{bs:List Blk}(h:Eff P im Δ K i e σ σ' d ls bs)(hw:qG i.op=false):
 σ'.get=rm (t5 σ.get ls) σ.nx bs∧σ'.nx=σ.nx+bs.length∧(ja σ→ja σ')∧(∀l,l∈ls→∃b,σ.get l=some b∧b.st.live=true):=by
 cases h with
 |skip h1 h2 h3 h4 h5=>subst h3 h4 h5;exact⟨rfl,rfl,λh=>h,λl hl=>by cases hl⟩
 |quiet h1 h0 h2 h3 h4=>
  subst h3 h4;exact⟨(oR bs σ).1,(oR bs σ).2,λh=>ja.adds bs h,λl hl=>by cases hl⟩
 |pure h1 f as k caps as' l0 r h2 h3 h4 h5 h6 h7 h8 h9 h10=>
  subst h7 h8 h9;refine⟨zK σ l0 r,J4 σ l0 r,λh=>EO h l0 r,λl hl=>?_⟩;unfold Ah at hl;split at hl
  ·cases hl
  ·exact rH h4 l hl
 |write h1 h2 h3 h4=>rw[yN h4]at hw;cases hw
 |call h1 h2 h3 f as k caps h4 h5 j hj h6 h10=>rw[h4]at hw;cases hw
theorem Eff.blind{K:Nat}{i:Ins}{e:Env}{σ σ':Sto}{d:D}{ls:List Nat}{bs:List Blk}(h:Eff P im Δ K i e σ σ' d ls bs)(hb:blind i.op=true):ls=[]∧bs=[]:=by
 cases h with
 |skip h1 h2 h3 h4 h5=>exact⟨h3,h4⟩
 |quiet h1 h0 h2 h3 h4=>exact⟨h3,(AG hb h2).1⟩
 |pure h1 f as k caps as' l0 r h2 h3 h4 h5 h6 h7 h8 h9 h10=>rw[h2]at hb;cases hb
 |write h1 h2 h3 h4=>exact⟨h2,h3⟩
 |call h1 h2 h3 f as k caps h4 h5 j hj h6 h10=>rw[h4]at hb;cases hb
theorem xl{x:X}{s:Nat}(h:D9 x=some s):x=.t s:=by
 cases x with
 |t n=>simp only[D9,aA]at h;rw[h]
 |c d=>cases h
theorem sV{o:O}{s:Nat}(h:w9 o=some s):o=.load1 (.t s)∨∃n,o=.loadn n (.t s):=by
 cases o<;>simp only[w9]at h<;>first|(cases h;done)|skip
 ·exact .inl (by rw[xl h])
 ·exact .inr ⟨_,by rw[xl h]⟩
theorem Hk{L:List Pl}{o:O}(h:far L o=true):∃s,w9 o=some s∧Gx s L=true:=by
 unfold far at h;split at h
 ·rename_i s hs;exact⟨s,hs,h⟩
 ·cases h
theorem T3{o:O}{a nx:Nat}(h:w9 o=some a){ev ev':X→D}{g g':Nat→Option Blk}(hat:at_ g (ev (.t a))=at_ g' (ev' (.t a))):evA nx ev g o=evA nx ev' g' o:=by
 rcases sV h with rfl|⟨n,rfl⟩<;>simp only[evA,hat]
theorem T5{o:O}{a nx:Nat}(h:w9 o=some a){ev:X→D}{g:Nat→Option Blk}{r:D×List Blk}(hr:evA nx ev g o=some r):at_ g (ev (.t a))≠none:=by
 intro hn;rcases sV h with rfl|⟨n,rfl⟩<;>simp[evA,hn]at hr
theorem T4{o:O}{a nx:Nat}(h:w9 o=some a){ev:X→D}{g:Nat→Option Blk}{d:D}{bs:List Blk}(hr:evA nx ev g o=some (d,bs)):bs=[]:=by
 rcases sV h with rfl|⟨n,rfl⟩<;>simp only[evA]at hr<;>(repeat' split at hr)<;>first|(cases hr;done)|skip
 all_goals
  simp only[aA,aJ]at hr;exact hr.2.symm
theorem Eff.far{K:Nat}{i:Ins}{e:Env}{σ σ':Sto}{d:D}{ls:List Nat}{bs:List Blk}{L:List Pl}(h:Eff P im Δ K i e σ σ' d ls bs)(hb:far L i.op=true):ls=[]∧bs=[]:=by
 obtain⟨s,hs,_⟩:=Hk hb;cases h with
 |skip h1 h2 h3 h4 h5=>exact⟨h3,h4⟩
 |quiet h1 h0 h2 h3 h4=>exact⟨h3,T4 hs h2⟩
 |pure h1 f as k caps as' l0 r h2 h3 h4 h5 h6 h7 h8 h9 h10=>rw[h2]at hs;cases hs
 |write h1 h2 h3 h4=>exact⟨h2,h3⟩
 |call h1 h2 h3 f as k caps h4 h5 j hj h6 h10=>rw[h4]at hs;cases hs
end
def Wr(L:List Pl)(i:Nat):Prop:=∃pl,L[i]?=some pl∧qG pl.i.op=true
def NB(L:List Pl)(i:Nat):Prop:=∃pl,L[i]?=some pl∧blind pl.i.op=false∧far L pl.i.op=false
def Sgm(L:List Pl)(p j:Nat):Prop:=p≤j∧j<L.length∧∀m,p≤m→m≤j→¬Wr L m
structure Tex (L:List Pl) (ss:Nat→Sto) (ls:Nat→List Nat) (bs:Nat→List Blk):Prop where
 still:∀i pl,L[i]?=some pl→qG pl.i.op=false→(ss (i+1)).get=rm (t5 (ss i).get (ls i)) (ss i).nx (bs i)∧(ss (i+1)).nx=(ss i).nx+(bs i).length∧
  (ja (ss i)→ja (ss (i+1)))∧(∀l,l∈ls i→∃b,(ss i).get l=some b∧b.st.live=true)
 blnd:∀i pl,L[i]?=some pl→(blind pl.i.op=true∨far L pl.i.op=true)→ls i=[]∧bs i=[]
theorem DX{L:List Pl}{i:Nat}(h:Wr L i):NB L i:=by
 obtain⟨pl,h1,h2⟩:=h;refine⟨pl,h1,?_⟩;cases ho:pl.i.op<;>rw[ho]at h2<;>first|exact⟨rfl,rfl⟩|(cases h2;done)
theorem Tex.nb_of{L:List Pl}{ss:Nat→Sto}{ls:Nat→List Nat}{bs:Nat→List Blk}(X:Tex L ss ls bs){j:Nat}(hj:ls j≠[]∨bs j≠[])(hlt:j<L.length):NB L j:=by
 have hg:=aB hlt;have no:¬(blind (L[j]).i.op=true∨far L (L[j]).i.op=true):=by
  intro h;obtain⟨e1,e2⟩:=X.blnd j _ hg h;rcases hj with hj|hj
  ·exact hj e1
  ·exact hj e2
 refine⟨_,hg,?_,?_⟩
 ·cases hq:blind (L[j]).i.op with
  |false=>rfl
  |true=>exact absurd (.inl hq) no
 ·cases hq:far L (L[j]).i.op with
  |false=>rfl
  |true=>exact absurd (.inr hq) no
open Classical in
noncomputable def Ap(L:List Pl)(ss:Nat→Sto)(bs:Nat→List Blk)(p l:Nat):Option (Nat×Blk):=
 if h:∃j,Sgm L p j∧(ss j).nx≤l∧l<(ss j).nx+(bs j).length then
  ((bs (Classical.choose h))[l-(ss (Classical.choose h)).nx]?).map (λb=>(Classical.choose h,b))else none
structure Mem (L:List Pl) (ss:Nat→Sto) (ls:Nat→List Nat) (bs:Nat→List Blk) (S:Nat→Prop) (p:Nat) (g:Nat→Option Blk):Prop where
 le:p≤L.length
 fr:ja (ss p)
 pre:∀j,j<p→NB L j→S j
 seg:∀j,S j→NB L j→p≤j→Sgm L p j
 eq:g=Gf (ss p).get (ss p).nx (Ap L ss bs p) ls (λj=>S j∧Sgm L p j)
 dom:∀j,S j→Sgm L p j→∀l,l∈ls j→g l≠none
section
variable {L:List Pl} {ss:Nat→Sto} {ls:Nat→List Nat} {bs:Nat→List Blk} (X:Tex L ss ls bs)
include X
theorem Tex.nx_step{i:Nat}(hi:i<L.length)(hw:¬Wr L i):(ss (i+1)).nx=(ss i).nx+(bs i).length:=by
 have h:=aB hi;have:qG (L[i]).i.op=false:=by
  cases hq:qG (L[i]).i.op with
  |false=>rfl
  |true=>exact absurd ⟨_,h,hq⟩ hw
 exact(X.still i _ h this).2.1
theorem Tex.nx_mono{p j:Nat}(hs:Sgm L p j):∀(d i:Nat),p≤i→i+d≤j+1→(ss i).nx≤(ss (i+d)).nx
 |0,i,_,_=>aD _
 |d+1,i,h1,h2=>by
  have:=Tex.nx_mono hs d i h1 (by omega);have h3:=X.nx_step (i:=i+d) (by have:=hs.2.1;omega) (hs.2.2 (i+d) (by omega) (by omega));rw[show i+(d+1)=i+d+1 by omega];omega
theorem Tex.nx_lt{p i j:Nat}(hs:Sgm L p j)(h1:p≤i)(h2:i<j):(ss i).nx+(bs i).length≤(ss j).nx:=by
 have h3:=X.nx_step (i:=i) (by have:=hs.2.1;omega) (hs.2.2 i h1 (by omega));have h4:=X.nx_mono hs (j-(i+1)) (i+1) (by omega) (by omega);rw[show i+1+(j-(i+1))=j by omega]at h4;omega
theorem Tex.nx_le{p j:Nat}(hs:Sgm L p j):(ss p).nx≤(ss j).nx:=by
 have h4:=X.nx_mono hs (j-p) p (aD _) (by have:=hs.1;omega);rwa[show p+(j-p)=j by have:=hs.1;omega]at h4
theorem Tex.uniq{p i j l:Nat}(hi:Sgm L p i)(hj:Sgm L p j)(h1:(ss i).nx≤l∧l<(ss i).nx+(bs i).length)(h2:(ss j).nx≤l∧l<(ss j).nx+(bs j).length):i=j:=by
 rcases dA i j with h|h|h
 ·have:=X.nx_lt hj hi.1 h;omega
 ·exact h
 ·have:=X.nx_lt hi hj.1 h;omega
theorem Tex.A1{p x:Nat}(hx:Sgm L p x)(i:Nat)(b:Blk)(hb:(bs x)[i]?=some b):Ap L ss bs p ((ss x).nx+i)=some (x,b):=by
 have hlt:i<(bs x).length:=(bC.1 hb).1;have h:∃j,Sgm L p j∧(ss j).nx≤(ss x).nx+i∧(ss x).nx+i<(ss j).nx+(bs j).length:=⟨x,hx,by omega,by omega⟩
 have hu:Classical.choose h=x:=X.uniq (Classical.choose_spec h).1 hx (Classical.choose_spec h).2 ⟨by omega,by omega⟩;unfold Ap;rw[dif_pos h,hu,show(ss x).nx+i-(ss x).nx=i by omega,hb];rfl
theorem Tex.A2{p x l:Nat}{b:Blk}(h:Ap L ss bs p l=some (x,b)):Sgm L p x∧(ss x).nx≤l∧l<(ss x).nx+(bs x).length:=by
 unfold Ap at h;split at h
 ·rename_i hh;have hs:=Classical.choose_spec hh;cases hq:(bs (Classical.choose hh))[l-(ss (Classical.choose hh)).nx]?with
  |none=>rw[hq]at h;cases h
  |some q=>
   rw[hq]at h;simp only[dB,aA,aJ]at h;rw[←h.1];exact⟨hs.1,hs.2⟩
 ·cases h
theorem Tex.text{p:Nat}(hf:ja (ss p)):∀(d:Nat),p+d≤L.length→(∀m,p≤m→m<p+d→¬Wr L m)→
 (ss (p+d)).get=Gf (ss p).get (ss p).nx (Ap L ss bs p) ls (λj=>p≤j∧j<p+d)∧ja (ss (p+d))∧
  ∀j,p≤j∧j<p+d→∀l,l∈ls j→Gf (ss p).get (ss p).nx (Ap L ss bs p) ls (λj=>p≤j∧j<p+d) l≠none
 |0,_,_=>⟨(DI (λj hj=>by omega) (λl hl=>hf l hl)).symm,hf,λj hj=>by omega⟩
 |d+1,h1,h2=>by
  obtain⟨i1,i2,i3⟩:=Tex.text hf d (by omega) (λm a b=>h2 m a (by omega));have hlt:p+d<L.length:=by omega
  have hg:=aB hlt;have hw:qG (L[p+d]).i.op=false:=by
   cases hq:qG (L[p+d]).i.op with
   |false=>rfl
   |true=>exact absurd ⟨_,hg,hq⟩ (h2 (p+d) (by omega) (by omega))
  obtain⟨s1,s2,s3,s4⟩:=X.still _ _ hg hw;have hseg:Sgm L p (p+d):=⟨by omega,hlt,λm a b=>h2 m a (by omega)⟩
  rw[i1]at s1 s4;have hstep:=Lx (g0:=(ss p).get) (np:=(ss p).nx) (A:=Ap L ss bs p) (ls:=ls) (T:=λj=>p≤j∧j<p+d) (x:=p+d) (nx:=(ss (p+d)).nx) (bs:=bs (p+d))
   (by omega) (X.nx_le hseg) (λi b hb=>X.A1 hseg i b hb) (λl b hb=>(X.A2 hb).2) s4 i3
  have hT:(λj=>(p≤j∧j<p+d)∨j=p+d)=(λj=>p≤j∧j<p+(d+1)):=by
   funext j;exact propext ⟨λh=>by omega,λh=>by omega⟩
  rw[hT]at hstep;refine⟨by rw[show p+(d+1)=p+d+1 by omega];rw[s1];rw[hstep];simp only[cx],s3 i2,?_⟩;intro j hj l hl;by_cases hjd:j=p+d
  ·subst hjd;obtain⟨b,hb,_⟩:=s4 l hl;exact Rw (T:=λj=>p≤j∧j<p+d) (λj hj=>⟨hj.1,by omega⟩) (by rw[hb];simp)
  ·exact Rw (T:=λj=>p≤j∧j<p+d) (λj hj=>⟨hj.1,by omega⟩) (i3 j ⟨hj.1,by omega⟩ l hl)
variable {S:Nat→Prop} {p:Nat} {g:Nat→Option Blk} (M:Mem L ss ls bs S p g)
include M
theorem Mem.seg_of{x:Nat}(hx:NB L x)(hxS:¬S x)(hw:¬Wr L x)(hlone:∀m,m<x→Wr L m→S m):Sgm L p x:=by
 have hpx:p≤x:=by
  rcases az x p with h|h
  ·exact absurd (M.pre x h hx) hxS
  ·exact h
 obtain⟨pl,hp,_⟩:=hx;refine⟨hpx,(bC.1 hp).1,λm h1 h2 hm=>?_⟩;rcases az m x with h|h
 ·have hS:=hlone m h hm;exact(M.seg m hS (DX hm) h1).2.2 m h1 (aD _) hm
 ·have:m=x:=by omega
  subst this;exact hw hm
theorem Mem.quiet{x:Nat}{pl:Pl}(hx:L[x]?=some pl)(hxS:¬S x)(hw:¬Wr L x)(hlone:NB L x→∀m,m<x→Wr L m→S m)(hl:∀l,l∈ls x→∃b,g l=some b∧b.st.live=true):
 Mem L ss ls bs (λj=>S j∨j=x) p (rm (t5 g (ls x)) (ss x).nx (bs x)):=by
 have hle:=M.le;have hfr:=M.fr;by_cases hs:Sgm L p x
 ·have hT:∀j,(S j∧Sgm L p j)→∀l,l∈ls j→Gf (ss p).get (ss p).nx (Ap L ss bs p) ls (λj=>S j∧Sgm L p j) l≠none:=by
   intro j hj l hl;rw[←M.eq];exact M.dom j hj.1 hj.2 l hl
  have hstep:=Lx (g0:=(ss p).get) (np:=(ss p).nx) (A:=Ap L ss bs p) (ls:=ls) (T:=λj=>S j∧Sgm L p j) (x:=x) (nx:=(ss x).nx) (bs:=bs x)
   (λh=>hxS h.1) (X.nx_le hs) (λi b hb=>X.A1 hs i b hb) (λl b hb=>(X.A2 hb).2) (by rw[←M.eq];exact hl) hT
  rw[←M.eq]at hstep;have hTT:(λj=>(S j∧Sgm L p j)∨j=x)=(λj=>(S j∨j=x)∧Sgm L p j):=by
   funext j;refine propext ⟨λh=>?_,λh=>?_⟩
   ·rcases h with h|rfl
    ·exact⟨.inl h.1,h.2⟩
    ·exact⟨.inr rfl,hs⟩
   ·rcases h.1 with h1|h1
    ·exact .inl ⟨h1,h.2⟩
    ·exact .inr h1
  rw[hTT]at hstep;refine⟨hle,hfr,λj h1 h2=>.inl (M.pre j h1 h2),λj h1 h2 h3=>?_,hstep,λj h1 h2 l h3=>?_⟩
  ·rcases h1 with h1|rfl
   ·exact M.seg j h1 h2 h3
   ·exact hs
  ·rw[hstep];have hsub:∀j,(S j∧Sgm L p j)→((S j∨j=x)∧Sgm L p j):=λj h=>⟨.inl h.1,h.2⟩
   refine Rw hsub ?_;rw[←M.eq];rcases h1 with h1|rfl
   ·exact M.dom j h1 h2 l h3
   ·obtain⟨b,hb,_⟩:=hl l h3;rw[hb];simp
 ·have hbl:blind pl.i.op=true∨far L pl.i.op=true:=by
   cases hq:blind pl.i.op with
   |true=>exact .inl rfl
   |false=>
    cases hf:far L pl.i.op with
    |true=>exact .inr rfl
    |false=>exact absurd (Mem.seg_of X M ⟨pl,hx,hq,hf⟩ hxS hw (hlone ⟨pl,hx,hq,hf⟩)) hs
  obtain⟨e1,e2⟩:=X.blnd x pl hx hbl;have hg:rm (t5 g (ls x)) (ss x).nx (bs x)=g:=by rw[e1,e2];rfl
  rw[hg];have hTT:(λj=>S j∧Sgm L p j)=(λj=>(S j∨j=x)∧Sgm L p j):=by
   funext j;refine propext ⟨λh=>⟨.inl h.1,h.2⟩,λh=>?_⟩;rcases h.1 with h1|rfl
   ·exact⟨h1,h.2⟩
   ·exact absurd h.2 hs
  refine⟨hle,hfr,λj h1 h2=>.inl (M.pre j h1 h2),λj h1 h2 h3=>?_,by rw[←hTT];exact M.eq,λj h1 h2 l h3=>?_⟩
  ·rcases h1 with h1|rfl
   ·exact M.seg j h1 h2 h3
   ·obtain⟨q,hq,hq2,hq3⟩:=h2;rw[hx]at hq;cases hq;rcases hbl with hbl|hbl
    ·rw[hbl]at hq2;cases hq2
    ·rw[hbl]at hq3;cases hq3
  ·rcases h1 with h1|rfl
   ·exact M.dom j h1 h2 l h3
   ·exact absurd h2 hs
theorem Mem.whole{x:Nat}(hx:x≤L.length)(hpx:p≤x)(h1:∀j,NB L j→j<x→S j)(h2:∀j,NB L j→x≤j→¬S j):g=(ss x).get∧ja (ss x):=by
 have hnw:∀m,p≤m→m<p+(x-p)→¬Wr L m:=λm a b hm=>
  (M.seg m (h1 m (DX hm) (by omega)) (DX hm) a).2.2 m a (aD _) hm
 obtain⟨t1,t2,_⟩:=X.text M.fr (x-p) (by omega) hnw;rw[show p+(x-p)=x by omega]at t1 t2;refine⟨?_,t2⟩;rw[M.eq,t1];have key:∀j,NB L j→((S j∧Sgm L p j)↔(p≤j∧j<x)):=λj hj=>by
  constructor
  ·intro h;refine⟨h.2.1,?_⟩;rcases az j x with hlt|hge
   ·exact hlt
   ·exact absurd h.1 (h2 j hj hge)
  ·intro h;have hS:=h1 j hj h.2;exact⟨hS,M.seg j hS hj h.1⟩
 have nbl:∀j,(ls j≠[]∨bs j≠[])→j<L.length→NB L j:=λj hj hlt=>X.nb_of hj hlt;refine IJ (λj l hl=>?_) (λj l b hb=>?_)
 ·by_cases hlt:j<L.length
  ·exact key j (nbl j (.inl (λe=>by rw[e]at hl;cases hl)) hlt)
  ·constructor
   ·intro h;exact absurd h.2.2.1 hlt
   ·intro h;omega
 ·obtain⟨a1,a2⟩:=X.A2 hb;refine key j (nbl j (.inr (λe=>?_)) a1.2.1);rw[e]at a2;simp only[cj]at a2;omega
omit M in
theorem Mem.next{x:Nat}(hx:x<L.length)(hf:ja (ss (x+1)))(h1:∀j,NB L j→j<x→S j)(h2:∀j,NB L j→x<j→¬S j):
 Mem L ss ls bs (λj=>S j∨j=x) (x+1) (ss (x+1)).get:=by
 have hno:∀j,¬((S j∨j=x)∧Sgm L (x+1) j)∨¬NB L j:=by
  intro j;by_cases hj:NB L j
  ·refine .inl ?_
   rintro ⟨h|rfl,hs⟩
   ·exact h2 j hj (by have:=hs.1;omega) h
   ·have:=hs.1;omega
  ·exact .inr hj
 have nbl:∀j,(ls j≠[]∨bs j≠[])→j<L.length→NB L j:=λj hj hlt=>X.nb_of hj hlt;refine⟨hx,hf,λj a b=>?_,λj a b c=>?_,?_,λj a b l c=>?_⟩
 ·rcases az j x with h|h
  ·exact .inl (h1 j b h)
  ·exact .inr (by omega)
 ·rcases a with a|rfl
  ·exact absurd a (h2 j b (by omega))
  ·omega
 ·refine((IJ (T':=λ_=>False) (λj l hl=>?_) (λj l b hb=>?_)).trans (DI (λ_ h=>h) (λl hl=>hf l hl))).symm
  ·constructor
   ·intro h;rcases hno j with h'|h'
    ·exact h' h
    ·exact h' (nbl j (.inl (λe=>by rw[e]at hl;cases hl)) h.2.2.1)
   ·intro h;exact h.elim
  ·constructor
   ·intro h;obtain⟨a1,a2⟩:=X.A2 hb;rcases hno j with h'|h'
    ·exact h' h
    ·refine h' (nbl j (.inr (λe=>?_)) a1.2.1);rw[e]at a2;simp only[cj]at a2;omega
   ·intro h;exact h.elim
 ·exfalso;rcases hno j with h'|h'
  ·exact h' ⟨a,b⟩
  ·exact h' (nbl j (.inl (λe=>by rw[e]at c;cases c)) b.2.1)
theorem Mem.between{x:Nat}(hs:Sgm L p x):∃G,Sub (ss x).get G∧Sub g G:=by
 obtain⟨t1,_,_⟩:=X.text M.fr (x-p) (by have:=hs.2.1;have:=hs.1;omega) (λm a b=>hs.2.2 m a (by omega));rw[show p+(x-p)=x by have:=hs.1;omega]at t1;refine⟨Gf (ss p).get (ss p).nx (Ap L ss bs p) ls (λj=>(S j∧Sgm L p j)∨(p≤j∧j<x)),?_,?_⟩
 ·rw[t1];exact Ju (λj h=>.inr h)
 ·rw[M.eq];exact Ju (λj h=>.inl h)
theorem Mem.free{x:Nat}(hs:Sgm L p x)(hxS:¬S x):∀i,i<(bs x).length→g ((ss x).nx+i)=none:=by
 intro i hi;rw[M.eq];unfold Gf;have hA:=X.A1 hs i _ (aB hi);have:Gb (ss p).get (ss p).nx (Ap L ss bs p) (λj=>S j∧Sgm L p j) ((ss x).nx+i)=none:=by
  unfold Gb;rw[aE (by have:=X.nx_le hs;omega),hA];simp only;rw[aE (λh=>hxS h.1)]
 rw[this,BD]
end
theorem AL{A:List Nat}{j:Nat}:∀{es:List Edge},(wu A es).testBit j=true→∃e,e∈es∧Region.binds .any e=true∧(j=e.on∨((A[e.on]?).getD 0).testBit j=true)
 |[],h=>by simp[wu]at h
 |e::r,h=>by
  simp only[wu]at h;split at h
  ·rename_i hb;simp only[Nat.testBit_or,ci,Nat.testBit_two_pow,decide_eq_true_eq]at h;rcases h with(h|h)|h
   ·exact⟨e,by simp,hb,.inl h.symm⟩
   ·exact⟨e,by simp,hb,.inr h⟩
   ·obtain⟨e',h1,h2⟩:=AL h;exact⟨e',by simp[h1],h2⟩
  ·obtain⟨e',h1,h2⟩:=AL h;exact⟨e',by simp[h1],h2⟩
theorem Co:∀(l:List Oper)(A:List Nat)(i:Nat)(o:Oper),l[i]?=some o→(Am A l)[i]?=some (wu (A++(Am A l).take i) o.after.toList)
 |[],A,i,o,h=>by simp at h
 |o0::r,A,0,o,h=>by
  simp only[bG,aA]at h;subst h;simp[Am]
 |o0::r,A,i+1,o,h=>by
  simp only[bM]at h;have:=Co r (A++[wu A o0.after.toList]) i o h;simp only[Am,bM,this,eF,bW,List.singleton_append]
theorem Cn:∀(l:List Oper)(A:List Nat),(Am A l).length=l.length
 |[],_=>rfl
 |o::r,A=>by simp only[Am,ay,Cn r]
def Xe(ops:List Oper)(S:Nat→Prop):Prop:=∀x o,S x→ops[x]?=some o→∀e,e∈o.after→Region.binds .any e=true→S e.on
theorem EY{ops:List Oper}{S:Nat→Prop}(hS:Xe ops S):∀(i:Nat)(o:Oper)(b j:Nat),ops[i]?=some o→(uE ops)[i]?=some b→b.testBit j=true→(∀e,e∈o.after→Region.binds .any e=true→S e.on)→S j:=by
 intro i
 induction i using Nat.strongRecOn with
 |_ i ih=>
  intro o b j ho hb hj hp;have hg:=Co ops [] i o ho;have hb':(Am [] ops)[i]?=some b:=hb;rw[hb']at hg;simp only[aA,cQ]at hg;subst hg;obtain⟨e,h1,h2,h3⟩:=AL hj;have hSe:=hp e (by simpa using h1) h2;rcases h3 with rfl|h3
  ·exact hSe
  ·cases hq:((Am [] ops).take i)[e.on]?with
   |none=>rw[hq]at h3;simp at h3
   |some b'=>
    rw[hq]at h3;simp only[Option.getD_some]at h3;have hlt:e.on<i:=by
     have:=(bC.1 hq).1;rw[ah]at this;omega
    have hq':(uE ops)[e.on]?=some b':=by
     have hq2:=hq;rw[z0I hlt]at hq2;exact hq2
    have hlen:e.on<ops.length:=by
     have:=(bC.1 hq').1;unfold uE at this;rw[Cn]at this;exact this
    exact ih e.on hlt _ b' j (aB hlen) hq' h3 (λe' h1 h2=>hS e.on _ hSe (aB hlen) e' h1 h2)
theorem zq{l:List Pl}{k b:Nat}:∀(r:List Pl)(j i:Nat)(q:Pl),lone l k b j r=true→r[i]?=some q→blind q.i.op=true∨j+i=k∨(if j+i<k then b.testBit (j+i)=true else q.bs.testBit k=true)
 |[],j,i,q,h,hi=>by simp at hi
 |q0::r,j,0,q,h,hi=>by
  simp only[bG,aA]at hi;subst hi;simp only[lone,ae,ci]at h;rcases h.1 with(h1|h1)|h1
  ·exact .inl h1
  ·exact .inr (.inl (aT h1))
  ·refine .inr (.inr ?_);simp only[bH];split at h1
   ·rename_i hlt;rw[aC hlt];exact h1
   ·rename_i hlt;rw[aE hlt];exact h1
 |q0::r,j,i+1,q,h,hi=>by
  simp only[bM]at hi;simp only[lone,ae]at h;have:=zq r (j+1) i q h.2 hi;rwa[show j+1+i=j+(i+1) by omega]at this
theorem Bx{l:List Pl}{k b:Nat}:∀(r:List Pl)(j i:Nat)(q:Pl),EC l k b j r=true→r[i]?=some q→blind q.i.op=true∨far l q.i.op=true∨j+i=k∨(if j+i<k then b.testBit (j+i)=true else q.bs.testBit k=true)
 |[],j,i,q,h,hi=>by simp at hi
 |q0::r,j,0,q,h,hi=>by
  simp only[bG,aA]at hi;subst hi;simp only[EC,ae,ci]at h;rcases h.1 with((h1|h1)|h1)|h1
  ·exact .inl h1
  ·exact .inr (.inl h1)
  ·exact .inr (.inr (.inl (aT h1)))
  ·refine .inr (.inr (.inr ?_));simp only[bH];split at h1
   ·rename_i hlt;rw[aC hlt];exact h1
   ·rename_i hlt;rw[aE hlt];exact h1
 |q0::r,j,i+1,q,h,hi=>by
  simp only[bM]at hi;simp only[EC,ae]at h;have:=Bx r (j+1) i q h.2 hi;rwa[show j+1+i=j+(i+1) by omega]at this
theorem xy{l:List Pl}:∀(r:List Pl)(k i:Nat)(x:Pl),HL l k r=true→r[i]?=some x→qG x.i.op=true→lone l (k+i) x.bs 0 l=true∨(Rh l (k+i) x.i.op=true∧EC l (k+i) x.bs 0 l=true)
 |[],k,i,x,h,hi,_=>by simp at hi
 |q0::r,k,0,x,h,hi,hw=>by
  simp only[bG,aA]at hi;subst hi;simp only[HL,ae,ci,dn]at h;rcases h.1 with(h1|h1)|h1
  ·rw[hw]at h1;cases h1
  ·exact .inl h1
  ·exact .inr h1
 |q0::r,k,i+1,x,h,hi,hw=>by
  simp only[bM]at hi;simp only[HL,ae]at h;have:=xy r (k+1) i x h.2 hi hw;rwa[show k+1+i=k+(i+1) by omega]at this
theorem Cs{l:List Pl}{k b s a:Nat}:∀(r:List Pl)(j i:Nat)(q:Pl),r[i]?=some q→w9 q.i.op=some a→far l q.i.op=true→¬(if j+i<k then b.testBit (j+i)=true else q.bs.testBit k=true)→
 (⟨none,none,.apart (.t a) (.t s)⟩:Ins)∈wF l k b s j r
 |[],j,i,q,hi,_,_,_=>by simp at hi
 |q0::r,j,0,q,hi,ha,hf,hn=>by
  simp only[bG,aA]at hi;subst hi;simp only[wF,am,ha,hf];refine .inl ?_;simp only[bH]at hn;by_cases hlt:j<k
  ·rw[aC hlt]at hn;have:b.testBit j=false:=by simpa using hn
   simp[hlt,this]
  ·rw[aE hlt]at hn;have:q0.bs.testBit k=false:=by simpa using hn
   simp[hlt,this]
 |q0::r,j,i+1,q,hi,ha,hf,hn=>by
  simp only[bM]at hi;simp only[wF,am];refine .inr (Cs r (j+1) i q hi ha hf ?_);rwa[show j+1+i=j+(i+1) by omega]
theorem Cr{l:List Pl}{s:Nat}{y:Ins}:∀(r:List Pl)(k i:Nat)(x:Pl),r[i]?=some x→DW x.i.op=some s→y∈wF l (k+i) x.bs s 0 l→y∈t6 l k r
 |[],k,i,x,hi,_,_=>by simp at hi
 |q0::r,k,0,x,hi,hs,hy=>by
  simp only[bG,aA]at hi;subst hi;simp only[t6,am,hs];exact .inl hy
 |q0::r,k,i+1,x,hi,hs,hy=>by
  simp only[bM]at hi;simp only[t6,am];refine .inr (Cr r (k+1) i x hi hs ?_);rwa[show k+1+i=k+(i+1) by omega]
def Xc(y:Ins):Prop:=∃a s,y=⟨none,none,.apart (.t a) (.t s)⟩
theorem Aa{l:List Pl}{k b s:Nat}:∀(r:List Pl)(j:Nat)(y:Ins),y∈wF l k b s j r→Xc y
 |[],j,y,h=>by simp[wF]at h
 |q::r,j,y,h=>by
  simp only[wF,am]at h;rcases h with h|h
  ·cases hq:w9 q.i.op with
   |none=>rw[hq]at h;cases h
   |some a=>
    simp only[hq]at h;generalize (far l q.i.op&& !(if j<k then b.testBit j else q.bs.testBit k))=c at h;cases c with
    |true=>simp only[bf,bi]at h;exact⟨_,_,h⟩
    |false=>simp at h
  ·exact Aa r (j+1) y h
theorem A9{l:List Pl}:∀(r:List Pl)(k:Nat)(y:Ins),y∈t6 l k r→Xc y
 |[],k,y,h=>by simp[t6]at h
 |q::r,k,y,h=>by
  simp only[t6,am]at h;rcases h with h|h
  ·split at h
   ·exact Aa l 0 y h
   ·cases h
  ·exact A9 r (k+1) y h
theorem B3{Δ:Tr Ent}:∀(l:List Ins)(k:Nat)(e:Env)(σ:Sto)(x:Ex)(e':Env)(σ':Sto),(∀y,y∈l→Xc y)→run Δ k (.ops l e σ)=some (.code x e' σ')→
 x=.nrm∧e'=e∧σ'=σ∧∀a s,(⟨none,none,.apart a s⟩:Ins)∈l→∃r,evA σ.nx (X.ev e) σ.get (.apart a s)=some r
 |[],0,e,σ,x,e',σ',_,h=>by simp[run]at h
 |[],k+1,e,σ,x,e',σ',_,h=>by
  simp only[run,aA,Out.code.injEq]at h;obtain⟨rfl,rfl,rfl⟩:=h;exact⟨rfl,rfl,rfl,λa s h=>by cases h⟩
 |i::l,0,e,σ,x,e',σ',_,h=>by simp[run]at h
 |i::l,k+1,e,σ,x,e',σ',hl,h=>by
  obtain⟨a,s,rfl⟩:=hl i (by simp);rw[uc rfl (λp f as h=>by cases h)]at h;split at h
  ·rename_i d bs hA;obtain⟨h1,_⟩:=AG rfl hA;subst h1;have h:run Δ k (.ops l e σ)=some (.code x e' σ'):=h;obtain⟨q1,q2,q3,q4⟩:=B3 l k e σ x e' σ' (λy hy=>hl y (by simp[hy])) h;refine⟨q1,q2,q3,λa' s' hm=>?_⟩;simp only[bI,Ins.mk.injEq,true_and,O.apart.injEq]at hm;rcases hm with⟨rfl,rfl⟩|hm
   ·exact⟨_,hA⟩
   ·exact q4 a' s' hm
  ·split at h
   ·rename_i hW;simp[evW]at hW
   ·cases h
theorem vg:∀(r:List Pl)(k i j:Nat)(x y:Pl),yo k r=true→i<j→r[i]?=some x→r[j]?=some y→It x.i (k+i) y=true∧Qt x.i y.i=true
 |[],k,i,j,x,y,h,_,hi,_=>by simp at hi
 |q0::r,k,0,j,x,y,h,hij,hi,hj=>by
  simp only[bG,aA]at hi;subst hi;cases j with
  |zero=>omega
  |succ j=>
   simp only[bM]at hj;simp only[yo,ae,cZ]at h;exact h.1 y (bU hj)
 |q0::r,k,i+1,j,x,y,h,hij,hi,hj=>by
  cases j with
  |zero=>omega
  |succ j=>
   simp only[bM]at hi hj;simp only[yo,ae]at h;have:=vg r (k+1) i j x y h.2 (by omega) hi hj;rwa[show k+1+i=k+(i+1) by omega]at this
theorem A7:∀(r:List Oper)(k i:Nat)(o:Oper),Cp k r=true→r[i]?=some o→∀e,e∈o.after→Region.binds .any e=true→e.on<k+i
 |[],k,i,o,h,hi,_,_,_=>by simp at hi
 |q0::r,k,0,o,h,hi,e,he,hb=>by
  simp only[bG,aA]at hi;subst hi;simp only[Cp,ae,cZ,ci,dn,decide_eq_true_eq]at h;rcases h.1 e (by simpa using he)with h1|h1
  ·rw[hb]at h1;cases h1
  ·exact h1
 |q0::r,k,i+1,o,h,hi,e,he,hb=>by
  simp only[bM]at hi;simp only[Cp,ae]at h;have:=A7 r (k+1) i o h.2 hi e he hb;omega
theorem EB{l:List Pl}:∀(r:List Pl)(k i:Nat),(AW l k r)[i]?=(r[i]?).map (W3 l (k+i))
 |[],k,i=>by simp[AW]
 |q0::r,k,0=>by simp[AW]
 |q0::r,k,i+1=>by
  simp only[AW,bM];rw[EB r (k+1) i,show k+1+i=k+(i+1) by omega]
section
variable {P:Program} {im:Nat→Option Nat}
theorem Is{nt:Nat}{ops:List Oper}{i:Nat}{o:Oper}(h:ops[i]?=some o):∃pl,(places P im nt ops)[i]?=some pl∧(uE ops)[i]?=some pl.bs∧pl.i.dst=(sG P im nt ops o).dst∧pl.i.gd=(sG P im nt ops o).gd∧
 (pl.i.op=(sG P im nt ops o).op∨∃p q f as,pl.i.op=.call p f as∧(sG P im nt ops o).op=.call q f as):=by
 have hb:=Co ops [] i o h;unfold places;simp only;rw[EB];have hz:(List.zipWith (λo b=>Pl.mk (sG P im nt ops o) b) ops (uE ops))[i]?=some ⟨sG P im nt ops o,wu ([]++(Am [] ops).take i) o.after.toList⟩:=by
  rw[List.getElem?_zipWith,h];have:(uE ops)[i]?=some (wu ([]++(Am [] ops).take i) o.after.toList):=hb;rw[this]
 rw[hz];refine⟨_,rfl,?_⟩;simp only[W3];split
 ·rename_i p f as hop;exact⟨hb,rfl,rfl,.inr ⟨_,p,f,as,rfl,hop⟩⟩
 ·exact⟨hb,rfl,rfl,.inl rfl⟩
theorem EA{l:List Pl}:∀(r:List Pl)(k:Nat),(AW l k r).length=r.length
 |[],k=>rfl
 |q0::r,k=>by simp only[AW,ay,EA r]
theorem Ir{nt:Nat}{ops:List Oper}:(places P im nt ops).length=ops.length:=by
 unfold places;simp only;rw[EA,List.length_zipWith];unfold uE;rw[Cn];simp
end
def wH(L:List Pl)(dv:Nat→D)(e0:Env)(S:Nat→Prop)(e:Env):Prop:=
 ∀t,(∀j pl,S j→L[j]?=some pl→pl.i.dst=some t→X.ev e (.t t)=dv j)∧((∀j pl,S j→L[j]?=some pl→pl.i.dst≠some t)→X.ev e (.t t)=X.ev e0 (.t t))
theorem Ip(e:Env)(dst:Option Nat)(d:D)(t:Nat):X.ev (put e dst d) (.t t)=if dst=some t then d else X.ev e (.t t):=by
 cases dst with
 |none=>rfl
 |some u=>
  simp only[Ev.put,X.ev,Tr.get_set];by_cases h:t=u
  ·subst h;simp
  ·rw[aE h,aE (λe=>h (by cases e;rfl))]
section
variable {L:List Pl} {dv:Nat→D} {e0:Env}
def Xf(L:List Pl):Prop:=∀(i j:Nat)(x y:Pl),i<j→L[i]?=some x→L[j]?=some y→∀t,x.i.dst=some t→y.i.dst≠some t
def VY(L:List Pl):Prop:=∀(i j:Nat)(x y:Pl),i<j→L[i]?=some x→L[j]?=some y→y.bs.testBit i=true∨((∀t,x.i.dst=some t→t∉y.i.reads)∧(∀t,y.i.dst=some t→t∉x.i.reads))
theorem wH.put(hD:Xf L){S:Nat→Prop}{e:Env}(h:wH L dv e0 S e){x:Nat}{pl:Pl}(hx:L[x]?=some pl)(hxS:¬S x):wH L dv e0 (λj=>S j∨j=x) (Ev.put e pl.i.dst (dv x)):=by
 intro t;refine⟨λj q hj hq hd=>?_,λhno=>?_⟩
 ·rw[Ip];rcases hj with hj|rfl
  ·have hne:pl.i.dst≠some t:=by
    rcases dA j x with h1|h1|h1
    ·exact hD j x q pl h1 hq hx t hd
    ·subst h1;exact absurd hj hxS
    ·intro hp;exact hD x j pl q h1 hx hq t hp hd
   rw[aE hne];exact(h t).1 j q hj hq hd
  ·rw[hx]at hq;simp only[aA]at hq;subst hq;rw[aC hd]
 ·rw[Ip,aE (hno x pl (.inr rfl) hx)];exact(h t).2 (λj q hj hq=>hno j q (.inl hj) hq)
theorem wH.text(hD:Xf L){es:Nat→Env}(h:∀i pl,L[i]?=some pl→es (i+1)=Ev.put (es i) pl.i.dst (dv i)):∀i,i≤L.length→wH L dv (es 0) (λj=>j<i) (es i)
 |0,_=>λt=>⟨λj pl hj=>by omega,λ_=>rfl⟩
 |i+1,hi=>by
  have hg:=aB (show i<L.length by omega);have:=wH.put hD (wH.text hD h i (by omega)) hg (bS i);rw[←h i _ hg]at this;have e1:(λj=>j<i∨j=i)=(λj=>j<i+1):=by
   funext j;exact propext ⟨λh=>by omega,λh=>by omega⟩
  rw[e1]at this;exact this
theorem wH.agree(hP:VY L){S:Nat→Prop}{e ex:Env}{x:Nat}{pl:Pl}(h:wH L dv e0 S e)(ht:wH L dv e0 (λj=>j<x) ex)(hx:L[x]?=some pl)(hxS:¬S x)(hb:∀j,pl.bs.testBit j=true→S j)
 (ha:∀j q,S j→L[j]?=some q→q.bs.testBit x=true→False):tj e ex pl.i.reads:=by
 intro t htr;by_cases hh:∃j q,S j∧L[j]?=some q∧q.i.dst=some t
 ·obtain⟨j,q,hj,hq,hd⟩:=hh;rw[(h t).1 j q hj hq hd];rcases dA j x with h1|h1|h1
  ·exact((ht t).1 j q h1 hq hd).symm
  ·subst h1;exact absurd hj hxS
  ·rcases hP x j pl q h1 hx hq with h2|h2
   ·exact(ha j q hj hq h2).elim
   ·exact absurd htr (h2.2 t hd)
 ·rw[(h t).2 (λj q hj hq hd=>hh ⟨j,q,hj,hq,hd⟩),(ht t).2];intro j q hj hq hd;rcases hP j x q pl hj hq hx with h2|h2
  ·exact hh ⟨j,q,hb j h2,hq,hd⟩
  ·exact h2.1 t hd htr
end
section
variable {P:Program} {im:Nat→Option Nat} {Δ:Tr Ent}
structure InvM (im:Nat→Option Nat) (ops:Array Oper) (L:List Pl) (es:Nat→Env) (ss:Nat→Sto) (dv:Nat→D) (ls:Nat→List Nat) (bs:Nat→List Blk)
 (nt:Nat) (okp:Nat→Nat→Prop) (base:Nat) (g0:Nat→Option Blk) (μ0:Nat→Nat×Nat) (w0:World) (ok0:Nat→Nat→Prop) (S:Nat→Prop) (a:Act) (w:World):Prop where
 down:Xe ops.toList S
 lt:∀j,S j→j<L.length
 df:a.defers=[]
 sz:nt%uf≤a.tmps.size
 ex:∃e p g μ ok,wH L dv (es 0) S e∧Mem L ss ls bs S p g∧Rel im g μ w ok okp base∧px im g μ w ok e a.tmps∧Stp g0 μ0 w0 ok0 g μ w ok base
structure Chk (P:Program) (im:Nat→Option Nat) (nt:Nat) (ops:Array Oper) (L:List Pl):Prop where
 get:∀(i:Nat)(o:Oper),ops.toList[i]?=some o→∃pl:Pl,L[i]?=some pl∧(uE ops.toList)[i]?=some pl.bs∧pl.i.dst=(sG P im nt ops.toList o).dst∧pl.i.gd=(sG P im nt ops.toList o).gd∧
  (pl.i.op=(sG P im nt ops.toList o).op∨∃(p q:Bool)(f:X)(as:List X),pl.i.op=O.call p f as∧(sG P im nt ops.toList o).op=O.call q f as)
 len:L.length=ops.size
 back:∀(i:Nat)(o:Oper),ops.toList[i]?=some o→∀e:Edge,e∈o.after→Region.binds .any e=true→e.on<i
 lone:∀(k:Nat)(pl:Pl),L[k]?=some pl→qG pl.i.op=true→∀(j:Nat)(q:Pl),L[j]?=some q→blind q.i.op=true∨far L q.i.op=true∨j=k∨(if j<k then pl.bs.testBit j=true else q.bs.testBit k=true)
 napp:∀(k:Nat)(pl:Pl),L[k]?=some pl→qG pl.i.op=true→∀(j:Nat)(q:Pl),L[j]?=some q→∀a,w9 q.i.op=some a→far L q.i.op=true→(if j<k then pl.bs.testBit j=true else q.bs.testBit k=true)∨
  ∃s,DW pl.i.op=some s∧Gx s (L.drop k)=true∧(⟨none,none,.apart (.t a) (.t s)⟩:Ins)∈t6 L 0 L
 dist:Xf L
 pairs:VY L
 adr:∀(i:Nat)(pl:Pl),L[i]?=some pl→Rj pl.i.op=true
theorem XO{nt:Nat}{ops:Array Oper}(h:AH ops.toList (places P im nt ops.toList)=true):Chk P im nt ops (places P im nt ops.toList):=by
 simp only[AH,ae]at h;obtain⟨⟨⟨h1,h2⟩,h3⟩,h4⟩:=h;refine⟨λi o ho=>Is ho,by rw[Ir];simp,λi o ho e he hb=>?_,λk pl hk hw j q hj=>?_,λk pl hk hw j q hj a hqa hfar=>?_,λi j x y hij hi hj t ht hd=>?_,λi j x y hij hi hj=>?_,λi pl hi=>?_⟩
 ·have:=A7 _ 0 i o h1 ho e he hb;omega
 ·rcases xy _ 0 k pl h2 hk hw with h5|⟨h5,h6⟩
  ·have:=zq _ 0 j q h5 hj;simp only[aV]at this;rcases this with h|h|h
   ·exact .inl h
   ·exact .inr (.inr (.inl h))
   ·exact .inr (.inr (.inr h))
  ·have:=Bx _ 0 j q h6 hj;simpa only[aV]using this
 ·have hne:j≠k:=by
   intro e;subst e;rw[hk]at hj;simp only[aA]at hj;subst hj;rcases sV hqa with h|⟨n,h⟩<;>rw[h]at hw<;>cases hw
  rcases xy _ 0 k pl h2 hk hw with h5|⟨h5,h6⟩
  ·have:=zq _ 0 j q h5 hj;simp only[aV]at this;rcases this with h|h|h
   ·rcases sV hqa with h'|⟨n,h'⟩<;>rw[h']at h<;>cases h
   ·exact absurd h hne
   ·exact .inl h
  ·by_cases ho:(if j<k then pl.bs.testBit j=true else q.bs.testBit k=true)
   ·exact .inl ho
   ·refine .inr ?_;rw[aV]at h5;unfold Rh at h5;cases hs:DW pl.i.op with
    |none=>rw[hs]at h5;cases h5
    |some s=>
     rw[hs]at h5;refine⟨s,rfl,h5,Cr _ 0 k pl hk hs ?_⟩;rw[aV];refine Cs _ 0 j q hj hqa hfar ?_;rw[aV];exact ho
 ·have:=(vg _ 0 i j x y h3 hij hi hj).2;rw[Qt,ht,hd]at this;simp at this
 ·have:=(vg _ 0 i j x y h3 hij hi hj).1;simp only[It,aV,ci,ae]at this;rcases this with h5|⟨h5,h6⟩
  ·exact .inl h5
  ·refine .inr ⟨λt ht hm=>?_,λt ht hm=>?_⟩
   ·rw[ht]at h5;simp[hm]at h5
   ·rw[ht]at h6;simp[hm]at h6
 ·exact cZ.1 h4 pl (bU hi)
def cl(g:Nat→Option Blk)(l:Nat):Option (List D×Bool):=(g l).map λb=>(b.cs,b.st.live)
theorem Yi{g g':Nat→Option Blk}{l:Nat}(h:cl g l=cl g' l)(off:Nat):at_ g (.ptr l off)=at_ g' (.ptr l off):=by
 unfold cl at h;simp only[at_];cases h1:g l<;>cases h2:g' l<;>rw[h1,h2]at h<;>simp only[dB,dM,aA,aJ]at h<;>first|rfl|(cases h;done)|skip
 simp only[h.1,h.2]
theorem RS{g:Nat→Option Blk}{nx l:Nat}(bs:List Blk)(hl:l<nx):cl (rm g nx bs) l=cl g l:=by
 unfold cl;rw[yP,aE (by omega)]
theorem XN{g:Nat→Option Blk}{l:Nat}(ls:List Nat)(h:∀l,l∈ls→∃b,g l=some b∧b.st.live=true):cl (t5 g ls) l=cl g l:=by
 unfold cl;rw[vu];split
 ·rename_i hl;obtain⟨b,h1,h2⟩:=h l hl;rw[h1];show some (b.cs,b.st.fz.live)=some (b.cs,b.st.live);rw[BE]
 ·rfl
theorem Ji{σ:Sto}{l l':Nat}{b:Blk}(h:l'≠l):cl (σ.put l' b).get l=cl σ.get l:=by
 unfold cl;rw[Sto.get_put,aE (Ne.symm h)]
theorem Fo{σ:Sto}{l:Nat}(bs:List Blk)(hl:l<σ.nx):cl (σ.adds bs).get l=cl σ.get l:=by
 rw[(oR bs σ).1];exact RS bs hl
def Ut(l:Nat)(d:D):Prop:=(∀l' o n c z e,d=.sl l' o n c z e→l'≠l)∧∀l' o,d=.ptr l' o→l'≠l
theorem Yh{ev:X→D}{σ σ':Sto}{l s:Nat}{o:O}{d:D}(h:evW ev σ o=some (d,σ'))(hs:DW o=some s)(hne:Ut l (ev (.t s)))(hl:l<σ.nx):cl σ'.get l=cl σ.get l:=by
 cases o<;>simp only[DW]at hs<;>first|(cases hs;done)|skip
 all_goals
  rw[xl hs]at h;simp only[evW,sJ]at h
  (repeat' split at h)<;>first|(cases h;done)|skip
 all_goals
  simp only[aA,aJ]at h;obtain⟨_,rfl⟩:=h
 all_goals first
  |rfl
  |exact Fo _ hl
  |exact Ji (hne.1 _ _ _ _ _ _ (by assumption))
  |exact Ji (hne.2 _ _ (by assumption))
  |(rw[Fo _ (by exact hl)]
    exact Ji (hne.1 _ _ _ _ _ _ (by assumption)))
theorem Yw{g0:Nat→Option Blk}{np l:Nat}{A:Nat→Option (Nat×Blk)}{ls:Nat→List Nat}{T:Nat→Prop}(hl:l<np):cl (Gf g0 np A ls T) l=cl g0 l:=by
 unfold cl Gf Gb fz;rw[aC hl];split
 ·cases h:g0 l with
  |none=>rfl
  |some b=>
   simp only[dB];cases hst:b.st<;>rfl
 ·rfl
theorem Bk{s:Nat}{l:List Pl}(h:Gx s l=true){q:Pl}(hq:q∈l):q.i.dst≠some s:=by
 intro hd;have:=cZ.1 h q hq;rw[hd]at this;simp at this
theorem Eff.nx{K:Nat}{i:Ins}{e:Env}{σ σ':Sto}{d:D}{ls:List Nat}{bs:List Blk}(h:Eff P im Δ K i e σ σ' d ls bs):σ.nx≤σ'.nx:=by
 cases h with
 |skip h1 h2 h3 h4 h5=>subst h5;exact aD _
 |quiet h1 h0 h2 h3 h4=>subst h4;rw[(oR _ _).2];omega
 |pure h1 f as k caps as' l0 r h2 h3 h4 h5 h6 h7 h8 h9 h10=>subst h9;rw[J4];omega
 |write h1 h2 h3 h4=>exact Qn h4
 |call h1 h2 h3 f as k caps h4 h5 j hj h6 h10=>have:=Vi _ _ _ h6;exact this
theorem Eff.cl{K:Nat}{i:Ins}{e:Env}{σ σ':Sto}{d:D}{ls:List Nat}{bs:List Blk}(h:Eff P im Δ K i e σ σ' d ls bs){l:Nat}(hl:l<σ.nx)
 (ha:qG i.op=true→∃s,DW i.op=some s∧Ut l (X.ev e (.t s))):cl σ'.get l=cl σ.get l:=by
 cases h with
 |skip h1 h2 h3 h4 h5=>subst h5;rfl
 |quiet h1 h0 h2 h3 h4=>subst h4;exact Fo _ hl
 |pure h1 f as k caps as' l0 r h2 h3 h4 h5 h6 h7 h8 h9 h10=>
  subst h9;rw[zK,RS _ hl,XN];intro l hl;unfold Ah at hl;split at hl
  ·cases hl
  ·exact rH h4 l hl
 |write h1 h2 h3 h4=>
  obtain⟨s,ho,hne⟩:=ha (yN h4);exact Yh h4 ho hne hl
 |call h1 h2 h3 f as k caps h4 h5 j hj h6 h10=>
  obtain⟨s,ho,hne⟩:=ha (by rw[h4];rfl);rw[h4]at ho;cases ho
section
variable {nt:Nat} {ops:Array Oper} {L:List Pl} {es:Nat→Env} {ss:Nat→Sto} {dv:Nat→D} {ls:Nat→List Nat} {bs:Nat→List Blk} {okp:Nat→Nat→Prop} {base:Nat} {g0:Nat→Option Blk} {μ0:Nat→Nat×Nat} {w0:World} {ok0:Nat→Nat→Prop}
 {K:Nat} (hΔ:DOk P im Δ) (hV:∀j,j<K→Jt P im Δ j) (C:Chk P im nt ops L)
 (hE:∀(i:Nat)(pl:Pl),L[i]?=some pl→es (i+1)=put (es i) pl.i.dst (dv i)∧Eff P im Δ K pl.i (es i) (ss i) (ss (i+1)) (dv i) (ls i) (bs i))
include hΔ hV C hE
theorem Nq:Tex L ss ls bs:=by
 refine⟨λi pl hi hw=>?_,λi pl hi hb=>?_⟩
 ·exact(hE i pl hi).2.still hw
 ·rcases hb with hb|hb
  ·exact(hE i pl hi).2.blind hb
  ·exact(hE i pl hi).2.far hb
omit hΔ hV C in
theorem nx_mono:∀(d i:Nat),i+d≤L.length→(ss i).nx≤(ss (i+d)).nx
 |0,i,_=>aD _
 |d+1,i,h=>by
  have h1:=nx_mono d i (by omega);have h2:=(hE (i+d) _ (aB (show i+d<L.length by omega))).2.nx;exact bT h1 h2
omit hΔ hV C in
theorem zd{t:Nat}:∀(d i:Nat),i+d≤L.length→(∀m pl,i≤m→m<i+d→L[m]?=some pl→pl.i.dst≠some t)→X.ev (es (i+d)) (.t t)=X.ev (es i) (.t t)
 |0,i,_,_=>rfl
 |d+1,i,h,hd=>by
  have h1:=zd d i (by omega) (λm pl a b c=>hd m pl a (by omega) c);have hg:=aB (show i+d<L.length by omega);have h2:=(hE (i+d) _ hg).1;show X.ev (es (i+d+1)) (.t t)=_;rw[h2,Ip,aE (hd (i+d) _ (by omega) (by omega) hg)];exact h1
omit hΔ hV C in
theorem Ce{l:Nat}(hl:l<(ss 0).nx):∀(d i:Nat),i+d≤L.length→(∀m pl,i≤m→m<i+d→L[m]?=some pl→qG pl.i.op=true→∃s,DW pl.i.op=some s∧Ut l (X.ev (es m) (.t s)))→
 cl (ss (i+d)).get l=cl (ss i).get l
 |0,i,_,_=>rfl
 |d+1,i,h,hd=>by
  have h1:=Ce hl d i (by omega) (λm pl a b c=>hd m pl a (by omega) c);have hg:=aB (show i+d<L.length by omega);have h3:=nx_mono hE (i+d) 0 (by omega);rw[aV]at h3;have h2:=(hE (i+d) _ hg).2.cl (l:=l) (by omega) (λhw=>hd (i+d) _ (by omega) (by omega) hg hw);exact h2.trans h1
theorem Ri{S:Nat→Prop}{a:Act}{w:World}{x:Nat}{o:Oper}{Q:Exit→Act→World→Prop}{Kk:Act→World→Prop}(I:InvM im ops L es ss dv ls bs nt okp base g0 μ0 w0 ok0 S a w)(hxS:¬S x)(ho:ops[x]?=some o)
 (hpre:∀e,e∈o.after→Region.binds .any e=true→S e.on)
 (hcl0:∀t,Cl (ss 0).get (X.ev (es 0) (.t t))) (hf0:ja (ss 0)) (hap:∀a s,(⟨none,none,.apart a s⟩:Ins)∈t6 L 0 L→∃r,evA (ss L.length).nx (X.ev (es L.length)) (ss L.length).get (.apart a s)=some r)
 (hK:∀a' w',InvM im ops L es ss dv ls bs nt okp base g0 μ0 w0 ok0 (λj=>S j∨j=x) a' w'→Kk a' w'):wpOp P ops Q x Kk a w:=by
 have TX:=Nq hΔ hV C hE;have ho':ops.toList[x]?=some o:=by simpa using ho
 obtain⟨pl,hpl,hbs,hdst,hgd,hop⟩:=C.get x o ho';obtain⟨I1,I2,I3,I4,e,p,g,μ,ok,hEn,M,R,hEr,hS⟩:=I;have hxlt:x<L.length:=(bC.1 hpl).1;have hb:∀j,pl.bs.testBit j=true→S j:=λj hj=>EY I1 x o pl.bs j ho' hbs hj hpre;have ha:∀j q,S j→L[j]?=some q→q.bs.testBit x=true→False:=by
  intro j q hj hq hbit;have hjl:j<ops.toList.length:=by
   have h1:=I2 j hj;have h2:=C.len;simp only[dT];omega
  have hoj:=aB hjl;obtain⟨q',hq',hbq,_⟩:=C.get j _ hoj;rw[hq]at hq';simp only[aA]at hq';subst hq';exact hxS (EY I1 j _ q.bs x hoj hbq hbit (λe he hbn=>I1 j _ hj hoj e he hbn))
 have hdown:Xe ops.toList (λj=>S j∨j=x):=by
  intro y oy hy hoy e he hbn;rcases hy with hy|rfl
  ·exact .inl (I1 y oy hy hoy e he hbn)
  ·rw[ho']at hoy;simp only[aA]at hoy;subst hoy;exact .inl (hpre e he hbn)
 have hlt':∀j,(S j∨j=x)→j<L.length:=λj hj=>by
  rcases hj with hj|rfl
  ·exact I2 j hj
  ·exact hxlt
 obtain⟨hes,heff⟩:=hE x pl hpl;have hag:tj e (es x) pl.i.reads:=wH.agree C.pairs hEn (wH.text C.dist (λi pl hi=>(hE i pl hi).1) x (by omega)) hpl hxS hb ha;have hag1:tj e (es x) pl.i.op.reads:=λt ht=>hag t (b9 _ ht);have hgdv:gdv e pl.i.gd=gdv (es x) pl.i.gd:=NI (λt ht=>hag t (cF _ ht));have hEn':wH L dv (es 0) (λj=>S j∨j=x) (put e pl.i.dst (dv x)):=hEn.put C.dist hpl hxS;have hnbS:Wr L x→(∀j,NB L j→j<x→S j)∧(∀j,NB L j→x≤j→¬S j):=by
  intro hw;obtain⟨pl',hp',hw'⟩:=hw;rw[hpl]at hp';simp only[aA]at hp';subst hp';constructor
  ·intro j ⟨q,hq,hqb,hqf⟩ hj;rcases C.lone x pl hpl hw' j q hq with h|h|h|h
   ·rw[hqb]at h;cases h
   ·rw[hqf]at h;cases h
   ·omega
   ·rw[aC hj]at h;exact hb j h
  ·intro j ⟨q,hq,hqb,hqf⟩ hj hSj;rcases C.lone x pl hpl hw' j q hq with h|h|h|h
   ·rw[hqb]at h;cases h
   ·rw[hqf]at h;cases h
   ·subst h;exact hxS hSj
   ·rw[aE (by omega)]at h;exact ha j q hSj hq h
 have hlone:NB L x→∀m,m<x→Wr L m→S m:=by
  intro⟨q,hq,hqb,hqf⟩ m hm ⟨pm,hpm,hwm⟩;rw[hpl]at hq;simp only[aA]at hq;subst hq;rcases C.lone m pm hpm hwm x pl hpl with h|h|h|h
  ·rw[hqb]at h;cases h
  ·rw[hqf]at h;cases h
  ·omega
  ·rw[aE (by omega)]at h;exact hb m h
 have hpx:Wr L x→p≤x:=λhw=>by
  rcases az x p with h|h
  ·exact absurd (M.pre x h (DX hw)) hxS
  ·exact h
 have hcg:∀gd,cGd ops.toList o.guard=some gd→pl.i.gd=gd∧(sG P im nt ops.toList o).op=Jc (nt%uf) o.dst (kpO nt (cOp P im o.op))∧pl.i.dst=o.dst:=by
  intro gd h;have:sG P im nt ops.toList o=⟨o.dst,gd,Jc (nt%uf) o.dst (kpO nt (cOp P im o.op))⟩:=by unfold sG;rw[h]
  rw[hgd,hdst,this];exact⟨rfl,rfl,rfl⟩
 have hbad:cGd ops.toList o.guard=none→pl.i.op=.bad∧pl.i.gd=none:=by
  intro h;have:sG P im nt ops.toList o=⟨o.dst,none,.bad⟩:=by unfold sG;rw[h]
  rw[this]at hop hgd;refine⟨?_,hgd⟩;rcases hop with h|⟨p,q,f,as,_,h⟩
  ·exact h
  ·cases h
 unfold wpOp;simp only[ho];cases hcgd:cGd ops.toList o.guard with
 |none=>
  exfalso;obtain⟨b1,b2⟩:=hbad hcgd;cases heff with
  |skip h1 h2 h3 h4 h5=>rw[b2]at h1;cases h1
  |quiet h1 h0 h2 h3 h4=>rw[b1]at h2;cases h2
  |pure h1 f as k caps as' l0 r h2 h3 h4 h5 h6 h7 h8 h9 h10=>rw[b1]at h2;cases h2
  |write h1 h2 h3 h4=>rw[b1]at h4;cases h4
  |call h1 h2 h3 f as k caps h4 h5 j hj h6 h10=>rw[b1]at h4;cases h4
 |some gd=>
  obtain⟨c1,c2,c3⟩:=hcg gd hcgd;rw[c1]at hgdv;have hbound:∀q,(sG P im nt ops.toList o).op=q→q≠.bad→kpO nt (cOp P im o.op)=q∧∀t,o.dst=some t→t<a.tmps.size:=λq h1 h2=>by
   rw[c2]at h1;exact⟨(BL h1 h2).1,λt ht=>bp ((BL h1 h2).2 t ht) I4⟩
  cases heff with
  |skip h1 h2 h3 h4 h5=>
   rw[c1]at h1;rw[s5 hEr hcgd (hgdv.trans h1)];simp only[bj,bz];refine hK _ _ ⟨hdown,hlt',by rw[mb];exact I3,by rw[oq];exact I4,put e pl.i.dst (dv x),?_⟩;rw[h2]at hEn' ⊢;rw[←h2]at hEn';rw[c3];by_cases hw:Wr L x
   ·obtain⟨n1,n2⟩:=hnbS hw;obtain⟨g1,f1⟩:=Mem.whole TX M (by omega) (hpx hw) n1 n2;have hM:=Mem.next TX hxlt (by rw[h5];exact f1) n1 (λj hj hlt=>n2 j hj (by omega))
    rw[h5,←g1]at hM;exact⟨x+1,g,μ,ok,by rw[h2,c3]at hEn';exact hEn',hM,R,hEr.put_undef _,hS⟩
   ·have hM:=Mem.quiet TX M hpl hxS hw hlone (by rw[h3];intro l hl;cases hl);rw[h3,h4]at hM;exact⟨p,g,μ,ok,by rw[h2,c3]at hEn';exact hEn',hM,R,hEr.put_undef _,hS⟩
  |quiet h1 h0 h2 h3 h4=>
   rw[c1]at h1;rw[s5 hEr hcgd (hgdv.trans h1)];simp only[bf];refine .inl ?_;have hw0:=J5 h2;have hw:¬Wr L x:=by
    rintro ⟨q,hq,hqw⟩
    rw[hpl]at hq;simp only[aA]at hq;subst hq;rw[hw0]at hqw;cases hqw
   have hop':pl.i.op=(sG P im nt ops.toList o).op:=by
    rcases hop with h|⟨p,q,f,as,h,_⟩
    ·exact h
    ·exact absurd h (h0 p f as)
   have hne:pl.i.op≠.bad:=by intro hb;rw[hb]at h2;cases h2
   obtain⟨k1,k2⟩:=hbound _ hop'.symm hne;have hA:evA (ss x).nx (X.ev e) g pl.i.op=some (dv x,bs x)∧∀j,j<(bs x).length→g ((ss x).nx+j)=none:=by
    cases hbl:blind pl.i.op with
    |true=>
     obtain⟨e1,e2⟩:=AG hbl h2;rw[ES hag1,e1];exact⟨e2 _ _,λj hj=>by simp at hj⟩
    |false=>
     cases hfr:far L pl.i.op with
     |true=>
      obtain⟨a,hla,hnd⟩:=Hk hfr;have hbs0:=(TX.blnd x pl hpl (.inr hfr)).2;refine⟨?_,λj hj=>by rw[hbs0]at hj;simp at hj⟩;have hva:X.ev e (.t a)=X.ev (es x) (.t a):=by
       rcases sV hla with h|⟨n,h⟩
       ·rw[h]at hag1;simp only[O.reads]at hag1;exact rd hag1
       ·rw[h]at hag1;simp only[O.reads]at hag1;exact rd hag1
      have hext:∀i,i≤L.length→X.ev (es i) (.t a)=X.ev (es 0) (.t a):=λi hi=>by
       have:=zd hE (t:=a) i 0 (by omega) (λm pl _ _ hm=>Bk hnd (bU hm));rwa[aV]at this
      refine(T3 hla ?_).trans h2;have hsome:=T5 hla h2;rw[hva];cases hv:X.ev (es 0) (.t a)with
      |ptr l off=>
       have hll:l<(ss 0).nx:=by
        have:=hcl0 a;rw[hv]at this;rcases az l (ss 0).nx with h|h
        ·exact h
        ·exact absurd (hf0 l h) this
       have hbet:∀m pm,L[m]?=some pm→qG pm.i.op=true→¬(if x<m then pm.bs.testBit x=true else pl.bs.testBit m=true)→∃s,DW pm.i.op=some s∧Ut l (X.ev (es m) (.t s)):=by
        intro m pm hm hwm hno;rcases C.napp m pm hm hwm x pl hpl a hla hfr with h|⟨s,h5,h6,h7⟩
        ·exact absurd h hno
        ·have hml:m<L.length:=(bC.1 hm).1;have hlate:X.ev (es L.length) (.t s)=X.ev (es m) (.t s):=by
          have:=zd hE (t:=s) (L.length-m) m (by omega) (λm' pl' a1 a2 hm'=>Bk h6 (by
           have hg:(L.drop m)[m'-m]?=some pl':=by rw[bx,show m+(m'-m)=m' by omega];exact hm'
           exact bU hg))
          rwa[show m+(L.length-m)=L.length by omega]at this
         obtain⟨r,hr⟩:=hap _ _ h7;refine⟨s,h5,λl' o' n' c' z' ex' hs=>?_,λl' o' hs=>?_⟩
         ·simp only[evA,hext L.length (aD _),hv,hlate,hs]at hr;intro e;rw[aC e.symm]at hr;cases hr
         ·simp only[evA,hext L.length (aD _),hv,hlate,hs]at hr;intro e;rw[aC e.symm]at hr;cases hr
       have hcl:cl g l=cl (ss x).get l:=by
        have hpn:=nx_mono hE p 0 (by have:=M.le;omega);rw[aV]at hpn;have h1:cl g l=cl (ss p).get l:=by rw[M.eq];exact Yw (by omega)
        rw[h1];rcases Nat.le_total p x with hpx|hpx
        ·have:=Ce hE hll (x-p) p (by omega) (λm pm a1 a2 hm hwm=>hbet m pm hm hwm (λhor=>by
          rw[aE (by omega)]at hor;exact(M.seg m (hb m hor) (DX ⟨pm,hm,hwm⟩) a1).2.2 m a1 (aD _) ⟨pm,hm,hwm⟩))
         rw[show p+(x-p)=x by omega]at this;exact this.symm
        ·have:=Ce hE hll (p-x) x (by have:=M.le;omega) (λm pm a1 a2 hm hwm=>hbet m pm hm hwm (λhor=>by
          by_cases hmx:m=x
          ·subst hmx;exact hw ⟨pm,hm,hwm⟩
          ·rw[aC (by omega)]at hor;exact ha m pm (M.pre m (by omega) (DX ⟨pm,hm,hwm⟩)) hm hor))
         rw[show x+(p-x)=p by omega]at this;exact this
       rw[hext x (by omega),hv];exact Yi hcl off
      |fp cs=>
       rw[hext x (by omega),hv];rfl
      |_=>
       exfalso;refine hsome ?_;rw[hext x (by omega),hv];rfl
     |false=>
      have hsg:=Mem.seg_of TX M ⟨pl,hpl,hbl,hfr⟩ hxS hw (hlone ⟨pl,hpl,hbl,hfr⟩);obtain⟨G,s1,s2⟩:=Mem.between TX M hsg;refine⟨?_,Mem.free TX M hsg hxS⟩;refine Qp s2 (λy hy=>?_) (by rw[ES hag1];exact Qo s1 h2);have had:=C.adr x pl hpl;simp only[Rj,hy]at had;cases y with
      |t n=>exact Rt (hEr n)
      |c d=>
       simp only[dn]at had;show Cl g d;cases d<;>first|exact trivial|(simp[YS]at had)
   rw[←k1]at hA;refine(C4 R hEr hA.1 hA.2).wp (λv w' ⟨μ',ok',n2,n3,n4⟩=>?_);have hM:=Mem.quiet TX M hpl hxS hw hlone (by rw[h3];intro l hl;cases hl);rw[h3]at hM;refine hK _ _ ⟨hdown,hlt',by rw[mb];exact I3,by rw[oq];exact I4,put e pl.i.dst (dv x),p,_,μ',ok',hEn',hM,n2,?_,hS.trans n3⟩;rw[c3];exact(hEr.step n3).put k2 n4
  |pure h1 f as k caps as' l0 r h2 h3 h4 h5 h6 h7 h8 h9 h10=>
   rw[c1]at h1;rw[s5 hEr hcgd (hgdv.trans h1)];simp only[bf];refine .inl ?_;have hbl:blind pl.i.op=false:=by rw[h2];rfl
   have hfr:far L pl.i.op=false:=by rw[h2];rfl
   have hw:¬Wr L x:=by
    rintro ⟨q,hq,hqw⟩
    rw[hpl]at hq;simp only[aA]at hq;subst hq;rw[h2]at hqw;cases hqw
   obtain⟨q,hcq⟩:∃q,(sG P im nt ops.toList o).op=.call q f as:=by
    rcases hop with h|⟨p,q,f',as',h,h'⟩
    ·exact⟨true,by rw[←h];exact h2⟩
    ·rw[h2]at h;simp only[O.call.injEq]at h;obtain⟨_,rfl,rfl⟩:=h;exact⟨q,h'⟩
   obtain⟨k1,k2⟩:=hbound _ hcq (by simp);obtain⟨_,c,hc,hcc⟩:=Cj (CD k1);rw[h2]at hag1;simp only[O.reads]at hag1;have hfe:X.ev e f=.fn k caps:=by rw[rdL hag1 f (by simp)];exact h3
   have hase:as.map (X.ev e)=as.map (X.ev (es x)):=cN λy hy=>rdL hag1 y (by simp[hy]);obtain⟨F,vs,hF,hv,hx⟩:=AJ hEr (w:=w) hc hcc hfe;have hsg:=Mem.seg_of TX M ⟨pl,hpl,hbl,hfr⟩ hxS hw (hlone ⟨pl,hpl,hbl,hfr⟩);obtain⟨G,s1,s2⟩:=Mem.between TX M hsg;have hm:iP (res g fv) (as.map (X.ev e)++caps)=some (as',l0):=by
    refine Mh R s2 hv ?_;rw[hase];exact w6 (λd _ r hr=>GY s1 fv d r hr) h4
   cases hent:Δ.get k with
   |none=>exact absurd hent h10
   |some en=>
    obtain⟨fn,cd,f1,f2,f3,_⟩:=hΔ.ent F k en hF hent;refine xk (hx fn cd f1 f2 f3) (FE R (nx:=(ss x).nx) (λhne=>?_) hm hv (h5 F hF)) (λv w' ⟨μ',ok',n2,n3,n4⟩=>?_)
    ·rw[←h8]at hne;have:=Mem.free TX M hsg hxS 0 (cM.2 hne);simpa using this
    ·have hM:=Mem.quiet TX M hpl hxS hw hlone (by
      rw[h7];intro l hl;unfold Ah at hl;split at hl
      ·cases hl
      ·exact rH hm l hl)
     rw[h7,h8]at hM;refine hK _ _ ⟨hdown,hlt',by rw[mb];exact I3,by rw[oq];exact I4,put e pl.i.dst (dv x),p,_,μ',ok',hEn',hM,n2,?_,hS.trans n3⟩;rw[c3,h6];exact(hEr.step n3).put k2 n4
  |write h1 h2 h3 h4=>
   rw[c1]at h1;rw[s5 hEr hcgd (hgdv.trans h1)];simp only[bf];refine .inl ?_;have hw:Wr L x:=⟨pl,hpl,yN h4⟩
   obtain⟨n1,n2⟩:=hnbS hw;obtain⟨g1,f1⟩:=Mem.whole TX M (by omega) (hpx hw) n1 n2;subst g1;have hop':pl.i.op=(sG P im nt ops.toList o).op:=by
    rcases hop with h|⟨p,q,f,as,h,_⟩
    ·exact h
    ·rw[h]at h4;cases h4
   have hne:pl.i.op≠.bad:=by intro hb;rw[hb]at h4;cases h4
   obtain⟨k1,k2⟩:=hbound _ hop'.symm hne;rw[←NP hag1,←k1]at h4;refine(C2 R hEr (f1 _ (aD _)) h4).wp (λv w' ⟨μ',ok',m2,m3,m4⟩=>?_);have hM:=Mem.next TX hxlt (EQ f1 h4) n1 (λj hj hlt=>n2 j hj (by omega))
   refine hK _ _ ⟨hdown,hlt',by rw[mb];exact I3,by rw[oq];exact I4,put e pl.i.dst (dv x),x+1,_,μ',ok',hEn',hM,m2,?_,hS.trans m3⟩;rw[c3];exact(hEr.step m3).put k2 m4
  |call h1 h2 h3 f as k caps h4 h5 j hj h6 h10=>
   rw[c1]at h1;rw[s5 hEr hcgd (hgdv.trans h1)];simp only[bf];refine .inl ?_;have hw:Wr L x:=⟨pl,hpl,by rw[h4];rfl⟩
   obtain⟨n1,n2⟩:=hnbS hw;obtain⟨g1,f1⟩:=Mem.whole TX M (by omega) (hpx hw) n1 n2;subst g1;obtain⟨q,hcq⟩:∃q,(sG P im nt ops.toList o).op=.call q f as:=by
    rcases hop with h|⟨p,q,f',as',h,h'⟩
    ·exact⟨false,by rw[←h];exact h4⟩
    ·rw[h4]at h;simp only[O.call.injEq]at h;obtain⟨_,rfl,rfl⟩:=h;exact⟨q,h'⟩
   obtain⟨k1,k2⟩:=hbound _ hcq (by simp);obtain⟨_,c,hc,hcc⟩:=Cj (CD k1);rw[h4]at hag1;simp only[O.reads]at hag1;have hfe:X.ev e f=.fn k caps:=by rw[rdL hag1 f (by simp)];exact h5
   have hase:as.map (X.ev e)=as.map (X.ev (es x)):=cN λy hy=>rdL hag1 y (by simp[hy]);obtain⟨F,vs,hF,hv,hx⟩:=AJ hEr (w:=w) hc hcc hfe;rw[hase]at hv;cases hent:Δ.get k with
   |none=>exact absurd hent h10
   |some en=>
    obtain⟨fn,cd,q1,q2,q3,_⟩:=hΔ.ent F k en hF hent;refine xk (hx fn cd q1 q2 q3) (hV j hj k caps _ _ _ _ h6 F hF okp base μ w ok vs f1 R hv) (λv w' ⟨m1,μ',ok',m2,m3,m4⟩=>?_);have hM:=Mem.next TX hxlt m1 n1 (λj hj hlt=>n2 j hj (by omega))
    refine hK _ _ ⟨hdown,hlt',by rw[mb];exact I3,by rw[oq];exact I4,put e pl.i.dst (dv x),x+1,_,μ',ok',hEn',hM,m2,?_,hS.trans m3⟩;rw[c3];exact(hEr.step m3).put k2 m4
end
end
section
variable {P:Program} {im:Nat→Option Nat} {Δ:Tr Ent}
theorem Hc{l:Array Bool}{i j:Nat}(hi:i<l.size)(d:Bool):(l.setIfInBounds i true).getD j d=if j=i then true else l.getD j d:=by
 by_cases h:j=i
 ·subst h;simp[hi]
 ·rw[aE h];simp[dK (Ne.symm h)]
theorem BC{l:Array Bool}{j:Nat}(hj:j<l.size):l.getD j true=l.getD j false:=by
 simp[Array.getD,hj]
theorem wH.same{L:List Pl}{dv:Nat→D}{e0 e e':Env}{S S':Nat→Prop}(h:wH L dv e0 S e)(h':wH L dv e0 S' e')(hS:∀j,j<L.length→(S j↔S' j))(t:Nat):X.ev e (.t t)=X.ev e' (.t t):=by
 by_cases hh:∃j q,S j∧L[j]?=some q∧q.i.dst=some t
 ·obtain⟨j,q,h1,h2,h3⟩:=hh;have hlt:=(bC.1 h2).1;rw[(h t).1 j q h1 h2 h3,(h' t).1 j q ((hS j hlt).1 h1) h2 h3]
 ·rw[(h t).2 (λj q h1 h2 h3=>hh ⟨j,q,h1,h2,h3⟩),(h' t).2 (λj q h1 h2 h3=>hh ⟨j,q,(hS j (bC.1 h2).1).2 h1,h2,h3⟩)]
theorem Zg(hΔ:DOk P im Δ){k:Nat}(hVP:∀j,j<k→Jt P im Δ j∧E2 P im Δ j):Xg P im Δ k:=by
 intro nt ops e σ x e' σ' hok hrun okp base g0 μ0 w0 ok0 a w Q hst hQ;have C:=XO hok;obtain⟨e1,σ1,m0,hrun1,hrun2⟩:=yd _ _ _ _ _ hrun;obtain⟨rfl,rfl,rfl,hap⟩:=B3 _ _ _ _ _ _ _ (λy hy=>A9 _ _ y hy) hrun2;obtain⟨_,es,ss,dv,ls,bs,q1,q2,q3,q4,q5⟩:=KM _ k e σ .nrm e' σ' (λj hj=>(hVP j hj).2) hrun1;have hE:∀(i:Nat)(pl:Pl),(places P im nt ops.toList)[i]?=some pl→es (i+1)=put (es i) pl.i.dst (dv i)∧Eff P im Δ k pl.i (es i) (ss i) (ss (i+1)) (dv i) (ls i) (bs i):=λi pl hi=>
  q5 i pl.i (by rw[au,hi];rfl)
 have hn:=C.len;rw[aI]at q3 q4;generalize hL:places P im nt ops.toList=L at*;have hcl0:∀t,Cl (ss 0).get (X.ev (es 0) (.t t)):=by
  intro t;obtain⟨_,_,_,μ,ok,_,hEr,_⟩:=hst;rw[q1,q2];exact Rt (hEr t)
 have hf0:ja (ss 0):=by rw[q2];exact hst.1
 have TX:=Nq hΔ (λj hj=>(hVP j hj).1) C hE;have fin:∀(S:Nat→Prop)(a:Act)(w:World),InvM im ops L es ss dv ls bs nt okp base g0 μ0 w0 ok0 S a w→(∀j,j<L.length→S j)→Q .normal a w:=by
  intro S a w I hall;obtain⟨I1,I2,I3,I4,e1,p,g,μ,ok,hEn,M,R,hEr,hS⟩:=I;obtain⟨g1,f1⟩:=Mem.whole TX M (aD _) M.le (λj _ hj=>hall j hj) (λj _ hj hSj=>by have:=I2 j hSj;omega);rw[q4]at g1 f1;subst g1;refine hQ a w ⟨f1,I3,I4,μ,ok,R,λt=>?_,hS⟩;have ht:=wH.text C.dist (λi pl hi=>(hE i pl hi).1) L.length (aD _);rw[q3]at ht;rw[←wH.same hEn ht (λj hj=>⟨λ_=>hj,λ_=>hall j hj⟩) t];exact hEr t
 have core:∀(fuel:Nat)(listed:Array Bool)(a:Act)(w:World),listed.size=ops.size→InvM im ops L es ss dv ls bs nt okp base g0 μ0 w0 ok0 (λj=>listed.getD j false=true) a w→
  ((List.range ops.size).filter (λj=> !(listed.getD j true))).length≤fuel→wpAny P .any ops Q fuel listed a w:=by
  intro fuel
  induction fuel with
  |zero=>
   intro listed a w hsz I hc;have hnil:(List.range ops.size).filter (λj=> !(listed.getD j true))=[]:=z0N.1 (Nat.le_zero.1 hc);have hall:∀j,j<ops.size→listed.getD j true=true:=by
    intro j hj;cases h:listed.getD j true with
    |true=>rfl
    |false=>
     have:j∈(List.range ops.size).filter (λj=> !(listed.getD j true)):=List.mem_filter.2 ⟨z1f.2 hj,by rw[h];rfl⟩;rw[hnil]at this;cases this
   refine⟨?_,fin _ a w I (λj hj=>?_)⟩
   ·cases hr:Region.ready .any ops listed with
    |nil=>rfl
    |cons i r=>
     have hi:i∈Region.ready .any ops listed:=by rw[hr];simp
     obtain⟨h1,o,ho,_⟩:=mem_ready.1 hi;have hlt:i<ops.size:=(bk.1 ho).1;rw[hall i hlt]at h1;cases h1
   ·rw[hn]at hj;rw[←BC (by omega)];exact hall j hj
  |succ fuel ih=>
   intro listed a w hsz I hc;refine⟨λhr=>?_,λi hi=>?_⟩
   ·have hall:∀j,j<ops.size→listed.getD j true=true:=by
     intro j
     induction j using Nat.strongRecOn with
     |_ j ihj=>
      intro hj;cases h:listed.getD j true with
      |true=>rfl
      |false=>
       have hoj:=eH hj;have:j∈Region.ready .any ops listed:=mem_ready.2 ⟨h,_,hoj,λe he hb=>by
        have hlt:=C.back j _ (by simp[hj]) e he hb;rw[←BC (by omega)];exact ihj e.on hlt (by omega)⟩
       rw[hr]at this;cases this
    exact fin _ a w I (λj hj=>by
     rw[hn]at hj;rw[←BC (by omega)];exact hall j hj)
   ·obtain⟨h1,o,ho,h2⟩:=mem_ready.1 hi;have hlt:i<ops.size:=(bk.1 ho).1;have hnot:¬listed.getD i false=true:=by
     rw[←BC (by omega),h1];simp
    refine Ri hΔ (λj hj=>(hVP j hj).1) C hE I hnot ho h2 hcl0 hf0 (by rw[q3,q4];exact hap) (λa' w' I'=>?_);have hset:(λj=>listed.getD j false=true∨j=i)=(λj=>(listed.setIfInBounds i true).getD j false=true):=by
     funext j;rw[Hc (by omega)];by_cases hj:j=i
     ·rw[aC hj];exact propext ⟨λ_=>rfl,λ_=>.inr hj⟩
     ·rw[aE hj];exact propext ⟨λh=>h.resolve_right hj,λh=>.inl h⟩
    rw[hset]at I';refine ih _ a' w' (by simp[hsz]) I' ?_;have hmem:i∈(List.range ops.size).filter (λj=> !(listed.getD j true)):=List.mem_filter.2 ⟨z1f.2 hlt,by rw[h1];rfl⟩;have hlt2:((List.range ops.size).filter (λj=> !((listed.setIfInBounds i true).getD j true))).length<((List.range ops.size).filter (λj=> !(listed.getD j true))).length:=by
     have heq:(List.range ops.size).filter (λj=> !((listed.setIfInBounds i true).getD j true))=((List.range ops.size).filter (λj=> !(listed.getD j true))).filter (λj=> !(j==i)):=by
      rw[List.filter_filter];refine List.filter_congr (λj hj=>?_);rw[Hc (by omega)];by_cases hji:j=i
      ·subst hji;simp
      ·rw[aE hji];simp[hji]
     rw[heq];exact List.length_filter_lt_length_iff_exists.2 ⟨i,hmem,by simp⟩
    omega
 obtain⟨s1,s2,s3,μ,ok,R,hEr,hS⟩:=hst;have hrep:∀j,(Array.replicate ops.size false).getD j false=false:=λj=>by
  simp only[Array.getD,Array.size_replicate];split<;>simp
 have hem:∀j,¬((Array.replicate ops.size false).getD j false=true):=λj=>by rw[hrep];simp
 refine core ops.size _ a w (by simp) ⟨?_,?_,s2,s3,e,0,σ.get,μ,ok,?_,?_,R,hEr,hS⟩ ?_
 ·intro x o hx;exact absurd hx (hem x)
 ·intro j hj;exact absurd hj (hem j)
 ·rw[←q1];exact λt=>⟨λj pl hj=>absurd hj (hem j),λ_=>rfl⟩
 ·refine⟨a9 _,by rw[q2];exact s1,λj hj=>(by omega),λj hj=>absurd hj (hem j),?_,λj hj=>absurd hj (hem j)⟩;rw[q2];exact(DI (λj hj=>hem j hj.1) (λl hl=>s1 l hl)).symm
 ·exact bT (List.length_filter_le _ _) (by simp)
theorem Dh(hm:P.follows .mixedOrders=true)(hΔ:DOk P im Δ)(k:Nat):zY P im Δ k∧Jt P im Δ k∧E2 P im Δ k:=
 (S3 hm hΔ (λk h=>Zg hΔ h) k).1 k (aD k)
end
end Go.Proofs.Ev
namespace Go.Proofs.Ev
noncomputable section
universe u
abbrev Rs:=Option D
abbrev iF:=Nat→Option D
structure LS where
 m:Tr Blk
 nx:Nat
def LS.get(s:LS)(l:Nat):Option Blk:=if l<s.nx then s.m.get l else none
def LS.fit(s:LS):Prop:=s.nx=s.nx
structure LSR (s:LS) (σ:Sto):Prop where
 nx:σ.nx=s.nx
 get:σ.get=s.get
def xv(ε:iF)(x:X):D:=X.rec (motive:=λ_=>D) (λn=>Option.rec (motive:=λ_=>D) .u (λd=>d) (ε n)) (λd=>d) x
def cnd{R:Sort u}(b:Bool)(t f:R):R:=Bool.rec (motive:=λ_=>R) f t b
@[simp] theorem eL{R:Sort u}(t f:R):cnd true t f=t:=rfl
@[simp] theorem e9{R:Sort u}(t f:R):cnd false t f=f:=rfl
def frc{R:Type}(n:Nat)(k:Nat→R):R:=Nat.rec (k 0) (λm _=>k (Nat.succ m)) n
theorem fA{R:Type}(n:Nat)(k:Nat→R):frc n k=k n:=by cases n<;>rfl
def mw{R:Type}(b:Bool)(k:Bool→R):R:=cnd b (k true) (k false)
theorem jC{R:Type}(b:Bool)(k:Bool→R):mw b k=k b:=by cases b<;>rfl
def Wu{R:Type}(n:Int)(k:Int→R):R:=Int.rec (λn=>frc n λn=>k (.ofNat n)) (λn=>frc n λn=>k (.negSucc n)) n
theorem UD{R:Type}(n:Int)(k:Int→R):Wu n k=k n:=by
 cases n with
 |ofNat n=>exact fA n λn=>k (.ofNat n)
 |negSucc n=>exact fA n λn=>k (.negSucc n)
def zG(d:D):(D→Rs)→Rs:=
 D.rec (motive_1:=λ_=>(D→Rs)→Rs) (motive_2:=λ_=>(List D→Rs)→Rs)
  (λk=>k .u) (λkk n k=>Wu n λn=>k (.i kk n)) (λx k=>mw x λx=>k (.b x)) (λl k=>k (.s l)) (λm k=>frc m λm=>k (.n m)) (λk=>k .np) (λk=>k .nf)
  (λ_ len ex ih k=>ih λcs=>frc len λlen=>mw ex λex=>k (.tree cs len ex))
  (λ_ len sz ih k=>ih λcs=>frc len λlen=>frc sz λsz=>k (.own cs len sz))
  (λl off len cm sz ex k=>frc l λl=>frc off λoff=>frc len λlen=>frc cm λcm=>frc sz λsz=>mw ex λex=>k (.sl l off len cm sz ex))
  (λl off k=>frc l λl=>frc off λoff=>k (.ptr l off))
  (λ_ ih k=>ih λcs=>k (.fp cs)) (λ_ ih k=>ih λcs=>k (.agg cs)) (λ_ ih k=>ih λcs=>k (.tup cs))
  (λf _ ih k=>frc f λf=>ih λcs=>k (.fn f cs))
  (λk=>k []) (λ_ _ ih ihs k=>ih λd=>ihs λds=>k (d::ds)) d
def Ai(l:List D):(List D→Rs)→Rs:=
 D.rec_1 (motive_1:=λ_=>(D→Rs)→Rs) (motive_2:=λ_=>(List D→Rs)→Rs)
  (λk=>k .u) (λkk n k=>Wu n λn=>k (.i kk n)) (λx k=>mw x λx=>k (.b x)) (λl k=>k (.s l)) (λm k=>frc m λm=>k (.n m)) (λk=>k .np) (λk=>k .nf)
  (λ_ len ex ih k=>ih λcs=>frc len λlen=>mw ex λex=>k (.tree cs len ex))
  (λ_ len sz ih k=>ih λcs=>frc len λlen=>frc sz λsz=>k (.own cs len sz))
  (λl off len cm sz ex k=>frc l λl=>frc off λoff=>frc len λlen=>frc cm λcm=>frc sz λsz=>mw ex λex=>k (.sl l off len cm sz ex))
  (λl off k=>frc l λl=>frc off λoff=>k (.ptr l off))
  (λ_ ih k=>ih λcs=>k (.fp cs)) (λ_ ih k=>ih λcs=>k (.agg cs)) (λ_ ih k=>ih λcs=>k (.tup cs))
  (λf _ ih k=>frc f λf=>ih λcs=>k (.fn f cs))
  (λk=>k []) (λ_ _ ih ihs k=>ih λd=>ihs λds=>k (d::ds)) l
theorem rj(d:D):∀k,zG d k=k d:=
 D.rec (motive_1:=λd=>∀k,zG d k=k d) (motive_2:=λl=>∀k,Ai l k=k l)
  (λ_=>rfl) (λkk n k=>UD n λn=>k (.i kk n)) (λx k=>jC x λx=>k (.b x)) (λ_ _=>rfl) (λm k=>fA m λm=>k (.n m)) (λ_=>rfl) (λ_=>rfl)
  (λcs len ex ih k=>by
   show Ai cs (λcs=>frc len λlen=>mw ex λex=>k (.tree cs len ex))=_;rw[ih,fA,jC])
  (λcs len sz ih k=>by
   show Ai cs (λcs=>frc len λlen=>frc sz λsz=>k (.own cs len sz))=_;rw[ih,fA,fA])
  (λl off len cm sz ex k=>by
   show(frc l λl=>frc off λoff=>frc len λlen=>frc cm λcm=>frc sz λsz=>mw ex λex=>k (.sl l off len cm sz ex))=_;simp only[fA,jC])
  (λl off k=>by
   show(frc l λl=>frc off λoff=>k (.ptr l off))=_;simp only[fA])
  (λcs ih k=>by
   show Ai cs (λcs=>k (.fp cs))=_;rw[ih])
  (λcs ih k=>by
   show Ai cs (λcs=>k (.agg cs))=_;rw[ih])
  (λcs ih k=>by
   show Ai cs (λcs=>k (.tup cs))=_;rw[ih])
  (λf cs ih k=>by
   show(frc f λf=>Ai cs λcs=>k (.fn f cs))=_;rw[fA,ih])
  (λ_=>rfl)
  (λd ds ih ihs k=>by
   show(zG d λd=>Ai ds λds=>k (d::ds))=_;rw[ih,ihs]) d
theorem NJ(d:D)(ds:List D)(k:List D→Rs):Ai (d::ds) k=zG d λd=>Ai ds λds=>k (d::ds):=rfl
theorem LG:∀(l:List D)(k:List D→Rs),Ai l k=k l
 |[],_=>rfl
 |d::ds,k=>by rw[NJ,rj,LG]
def ob{α:Type}(o:Option α)(k:α→Rs):Rs:=Option.rec (motive:=λ_=>Rs) none k o
def uw(o:Option D)(k:D→Rs):Rs:=ob o λd=>zG d k
theorem gS(o:Option D)(k:D→Rs):uw o k=ob o k:=by cases o<;>first|rfl|exact rj _ _
section
variable {α:Type}
def Ac(n:Nat):List α→(α→Rs)→Rs:=Nat.rec (λl k=>List.rec (motive:=λ_=>Rs) none (λd _ _=>k d) l) (λ_ ih l k=>List.rec (motive:=λ_=>Rs) none (λ_ r _=>ih r k) l) n
theorem yr:∀(n:Nat)(l:List α)(k:α→Rs),Ac n l k=ob l[n]? k
 |0,[],k=>rfl
 |0,b::l,k=>rfl
 |n+1,[],k=>rfl
 |n+1,b::l,k=>by
  show Ac n l k=_;rw[yr n l k];rfl
def iz(n:Nat):List α→(List α→Rs)→Rs:=
 Nat.rec (motive:=λ_=>List α→(List α→Rs)→Rs) (λl k=>k l) (λ_ ih l k=>List.rec (motive:=λ_=>Rs) (k []) (λ_ r _=>ih r k) l) n
theorem gB:∀(n:Nat)(l:List α)(k:List α→Rs),iz n l k=k (l.drop n)
 |0,l,k=>rfl
 |n+1,[],k=>rfl
 |n+1,b::l,k=>by
  show iz n l k=_;rw[gB n l k];rfl
def iy(n:Nat):List α→(List α→Rs)→Rs:=
 Nat.rec (motive:=λ_=>List α→(List α→Rs)→Rs) (λ_ k=>k []) (λ_ ih l k=>List.rec (motive:=λ_=>Rs) none (λy r _=>ih r (λr'=>k (y::r'))) l) n
theorem i9:∀(n:Nat)(l:List α)(k:List α→Rs),iy n l k=if n≤l.length then k (l.take n)else none
 |0,l,k=>by rw[aC (a9 _)];rfl
 |n+1,[],k=>rfl
 |n+1,b::l,k=>by
  show iy n l (λr'=>k (b::r'))=_;rw[i9 n l];simp only[ay,z0J,eF]
def l7(a b:List α)(k:List α→Rs):Rs:=List.rec (motive:=λ_=>(List α→Rs)→Rs) (λk=>k b) (λx _ ih k=>ih λr=>k (x::r)) a k
theorem gT(b:List α):∀(a:List α)(k:List α→Rs),l7 a b k=k (a++b)
 |[],k=>rfl
 |x::a,k=>by
  show l7 a b (λr=>k (x::r))=_;rw[gT b a];rfl
def K6(new:List α):List α→(List α→Rs)→Rs:=
 List.rec (motive:=λ_=>List α→(List α→Rs)→Rs) (λl k=>k l) (λd _ ih l k=>List.rec (motive:=λ_=>Rs) none (λ_ r _=>ih r (λr'=>k (d::r'))) l) new
theorem Gq:∀(new l:List α)(k:List α→Rs),K6 new l k=if new.length≤l.length then k (new++l.drop new.length)else none
 |[],l,k=>by rw[aC (by simp)];rfl
 |d::new,[],k=>rfl
 |d::new,b::l,k=>by
  show K6 new l (λr'=>k (d::r'))=_;rw[Gq new l];simp only[ay,z0J,eG,bu]
def ur(off:Nat)(new:List α):List α→(List α→Rs)→Rs:=
 Nat.rec (motive:=λ_=>List α→(List α→Rs)→Rs) (λl k=>K6 new l k) (λ_ ih l k=>List.rec (motive:=λ_=>Rs) none (λy r _=>ih r (λr'=>k (y::r'))) l) off
def Ae(off:Nat)(new cs:List α):Option (List α):=
 if off+new.length≤cs.length then some (cs.take off++new++cs.drop (off+new.length))else none
theorem od(new:List α):∀(off:Nat)(l:List α)(k:List α→Rs),ur off new l k=ob (Ae off new l) k
 |0,l,k=>by
  show K6 new l k=_;rw[Gq];unfold Ae;simp only[aV,d9,cQ];split<;>rfl
 |off+1,[],k=>by
  show none=_;unfold Ae;rw[aE (by simp)];rfl
 |off+1,b::l,k=>by
  show ur off new l (λr'=>k (b::r'))=_;rw[od new off l];unfold Ae;have:off+1+new.length=(off+new.length)+1:=by omega
  simp only[this,ay,z0J,eF,eG,bu];split<;>rfl
end
theorem sh(off:Nat)(new cs:List D):Ae off new cs=lay off new cs:=rfl
def trK(t:Tr Blk):Nat→(Blk→Rs)→Rs:=
 Tr.rec (motive:=λ_=>Nat→(Blk→Rs)→Rs) (λ_ _=>none) (λv _ _ ihl ihr n k=>cnd (Nat.beq n 0) (ob v k) (frc (Nat.div n 2) λh=>cnd (Nat.beq (Nat.mod n 2) 1) (ihl h k) (ihr (Nat.pred h) k))) t
theorem IN:∀(t:Tr Blk)(n:Nat)(k:Blk→Rs),trK t n k=ob (t.get n) k
 |.nil,n,k=>rfl
 |.node v l r,n,k=>by
  show cnd (Nat.beq n 0) (ob v k) (frc (Nat.div n 2) λh=>cnd (Nat.beq (Nat.mod n 2) 1) (trK l h k) (trK r (Nat.pred h) k))=ob (cond (Nat.beq n 0) v (cond (Nat.beq (Nat.mod n 2) 1) (l.get (Nat.div n 2)) (r.get (Nat.pred (Nat.div n 2))))) k;rw[fA,IN l,IN r];cases Nat.beq n 0
  ·cases Nat.beq (Nat.mod n 2) 1<;>rfl
  ·rfl
def Tr.ins{α:Type}(x:α):Tr α→Nat→Tr α
 |.nil,n=>Tr.set .nil n x
 |.node v l r,n=>cond (Nat.beq n 0) (.node (some x) l r) (cond (Nat.beq (Nat.mod n 2) 1) (.node v (Tr.ins x l (Nat.div n 2)) r) (.node v l (Tr.ins x r (Nat.pred (Nat.div n 2)))))
theorem Tr.get_ins{α:Type}(x:α):∀(t:Tr α)(n m:Nat),(Tr.ins x t n).get m=if m=n then some x else t.get m
 |.nil,n,m=>Tr.get_set _ _ _ _
 |.node v l r,n,m=>by
  show(cond (Nat.beq n 0) (Tr.node (some x) l r) (cond (Nat.beq (Nat.mod n 2) 1) (.node v (Tr.ins x l (Nat.div n 2)) r) (.node v l (Tr.ins x r (Nat.pred (Nat.div n 2)))))).get m=_;by_cases h0:n=0
  ·subst h0;show(Tr.node (some x) l r).get m=_;rw[Tr.get_node,Tr.get_node];by_cases hm:m=0<;>simp[hm]
  ·have h1:Nat.beq n 0=false:=NZ h0;rw[h1];by_cases h2:n%2=1
   ·have h3:Nat.beq (Nat.mod n 2) 1=true:=by show Nat.beq (n%2) 1=true;rw[h2];rfl
    rw[h3];show(Tr.node v (Tr.ins x l (n/2)) r).get m=_;rw[Tr.get_node,Tr.get_node,Tr.get_ins x l];by_cases hm:m=0
    ·subst hm;rw[aC rfl,aE (by omega),aC rfl]
    ·rw[aE hm,aE hm];by_cases hm2:m%2=1
     ·rw[aC hm2,aC hm2];by_cases he:m=n
      ·rw[aC (by omega),aC he]
      ·rw[aE (by omega),aE he]
     ·rw[aE hm2,aE hm2,aE (by intro e;subst e;exact hm2 h2)]
   ·have h3:Nat.beq (Nat.mod n 2) 1=false:=by
     have:n%2=0:=by omega
     show Nat.beq (n%2) 1=false;rw[this];rfl
    rw[h3];show(Tr.node v l (Tr.ins x r (n/2-1))).get m=_;rw[Tr.get_node,Tr.get_node,Tr.get_ins x r];by_cases hm:m=0
    ·subst hm;rw[aC rfl,aE (by omega),aC rfl]
    ·rw[aE hm,aE hm];by_cases hm2:m%2=1
     ·rw[aC hm2,aC hm2,aE (by intro e;subst e;exact h2 hm2)]
     ·rw[aE hm2,aE hm2];by_cases he:m=n
      ·rw[aC (by omega),aC he]
      ·rw[aE (by omega),aE he]
def QP(x:Blk)(t:Tr Blk):Nat→(Tr Blk→Rs)→Rs:=
 Tr.rec (motive:=λ_=>Nat→(Tr Blk→Rs)→Rs) (λn k=>cnd (Nat.beq n 0) (k (.node (some x) .nil .nil)) (k (Tr.set .nil n x)))
  (λv l r ihl ihr n k=>cnd (Nat.beq n 0) (k (.node (some x) l r)) (frc (Nat.div n 2) λh=>cnd (Nat.beq (Nat.mod n 2) 1) (ihl h λl'=>k (.node v l' r)) (ihr (Nat.pred h) λr'=>k (.node v l r')))) t
theorem BA(x:Blk):∀(t:Tr Blk)(n:Nat)(k:Tr Blk→Rs),QP x t n k=k (Tr.ins x t n)
 |.nil,n,k=>by
  show cnd (Nat.beq n 0) (k (.node (some x) .nil .nil)) (k (Tr.set .nil n x))=k (Tr.set .nil n x);cases n<;>rfl
 |.node v l r,n,k=>by
  show cnd (Nat.beq n 0) (k (.node (some x) l r)) (frc (Nat.div n 2) λh=>cnd (Nat.beq (Nat.mod n 2) 1) (QP x l h λl'=>k (.node v l' r)) (QP x r (Nat.pred h) λr'=>k (.node v l r')))=
   k (cond (Nat.beq n 0) (.node (some x) l r) (cond (Nat.beq (Nat.mod n 2) 1) (.node v (Tr.ins x l (Nat.div n 2)) r) (.node v l (Tr.ins x r (Nat.pred (Nat.div n 2))))))
  rw[fA,BA x l,BA x r];cases Nat.beq n 0
  ·cases Nat.beq (Nat.mod n 2) 1<;>rfl
  ·rfl
def jQ(s:LS)(l:Nat)(k:Blk→Rs):Rs:=cnd (Nat.blt l s.nx) (trK s.m l k) none
theorem fC{a b:Nat}(h:¬a<b):Nat.blt a b=false:=by
 cases hq:Nat.blt a b with
 |false=>rfl
 |true=>exact absurd (by simpa[dy]using hq) h
theorem ep{a b:Nat}(h:a<b):Nat.blt a b=true:=by simpa[dy]using h
theorem kY{a b:Nat}(h:¬a≤b):Nat.ble a b=false:=by
 cases hq:Nat.ble a b with
 |false=>rfl
 |true=>exact absurd (aa hq) h
theorem oe(s:LS)(l:Nat)(k:Blk→Rs):jQ s l k=ob (s.get l) k:=by
 unfold jQ LS.get;by_cases h:l<s.nx
 ·rw[ep h,aC h,eL,IN]
 ·rw[fC h,aE h];rfl
def oN(s:LS)(l:Nat)(b:Blk)(k:LS→Rs):Rs:=QP b s.m l λm=>k ⟨m,s.nx⟩
def LS.put(s:LS)(l:Nat)(b:Blk):LS:=⟨Tr.ins b s.m l,s.nx⟩
theorem CJ(s:LS)(l:Nat)(b:Blk)(k:LS→Rs):oN s l b k=k (s.put l b):=BA _ _ _ _
theorem ui{s:LS}{σ:Sto}(h:LSR s σ){l:Nat}{b0:Blk}(hl:s.get l=some b0)(b:Blk)(k:LS→Rs):oN s l b k=k (s.put l b):=CJ s l b k
theorem LS.get_put{s:LS}{l:Nat}{b0:Blk}(hl:s.get l=some b0)(b:Blk)(m:Nat):(s.put l b).get m=if m=l then some b else s.get m:=by
 have hlt:l<s.nx:=by
  unfold LS.get at hl;split at hl
  ·assumption
  ·cases hl
 unfold LS.get LS.put;simp only;rw[Tr.get_ins];by_cases hml:m=l
 ·subst hml;rw[aC hlt,aC rfl,aC rfl]
 ·rw[aE hml,aE hml]
theorem LSR.put{s:LS}{σ:Sto}(h:LSR s σ){l:Nat}{b0:Blk}(hl:s.get l=some b0)(b:Blk):LSR (s.put l b) (σ.put l b):=by
 refine⟨h.nx,?_⟩;funext m;rw[Sto.get_put,LS.get_put hl,h.get]
def ku(s:LS)(b:Blk)(k:LS→Rs):Rs:=frc (Nat.succ s.nx) λnx=>QP b s.m s.nx λm=>k ⟨m,nx⟩
def LS.push(s:LS)(b:Blk):LS:=⟨Tr.ins b s.m s.nx,Nat.succ s.nx⟩
theorem lY(s:LS)(b:Blk)(k:LS→Rs):ku s b k=k (s.push b):=by
 unfold ku;rw[fA,BA];rfl
theorem LS.get_push(s:LS)(b:Blk)(m:Nat):(s.push b).get m=if m=s.nx then some b else s.get m:=by
 unfold LS.get LS.push;simp only;rw[Tr.get_ins];by_cases hms:m=s.nx
 ·subst hms;simp
 ·rw[aE hms,aE hms];by_cases h1:m<s.nx
  ·rw[aC h1,aC (by omega)]
  ·rw[aE h1,aE (by omega)]
theorem LSR.push{s:LS}{σ:Sto}(h:LSR s σ)(b:Blk):LSR (s.push b) (σ.adds [b]):=by
 have hnx:(σ.adds [b]).nx=Nat.succ s.nx:=by show Nat.succ σ.nx=_;rw[h.nx]
 refine⟨hnx,?_⟩;funext m;rw[Sto.get_add1,h.nx,LS.get_push,h.get]
theorem LSR.empty:LSR ⟨.nil,0⟩ Sto.empty:=⟨rfl,by funext m;unfold LS.get;rw[aE (by simp)];rfl⟩
inductive CI|i (k:IntKind) (n:Nat)|no
inductive CB|t|f|no
inductive CP|ptr (l off:Nat)|fp (cs:List D)|no
inductive CS|sl (l off len cm z:Nat) (ex:Bool)|tree (cs:List D) (len:Nat) (ex:Bool)|no
inductive CL|l (cs:List D)|no
def asI(d:D):CI:=D.rec (motive_1:=λ_=>CI) (motive_2:=λ_=>PUnit.{1}) .no (λk n=>Int.rec (motive:=λ_=>CI) (λn=>.i k n) (λ_=>.no) n) (λ_=>.no) (λ_=>.no) (λ_=>.no) .no .no (λ_ _ _ _=>.no) (λ_ _ _ _=>.no) (λ_ _ _ _ _ _=>.no) (λ_ _=>.no) (λ_ _=>.no) (λ_ _=>.no) (λ_ _=>.no) (λ_ _ _=>.no) ⟨⟩ (λ_ _ _ _=>⟨⟩) d
def asB(d:D):CB:=D.rec (motive_1:=λ_=>CB) (motive_2:=λ_=>PUnit.{1}) .no (λ_ _=>.no) (λx=>Bool.rec (motive:=λ_=>CB) .f .t x) (λ_=>.no) (λ_=>.no) .no .no (λ_ _ _ _=>.no) (λ_ _ _ _=>.no) (λ_ _ _ _ _ _=>.no) (λ_ _=>.no) (λ_ _=>.no) (λ_ _=>.no) (λ_ _=>.no) (λ_ _ _=>.no) ⟨⟩ (λ_ _ _ _=>⟨⟩) d
def asP(d:D):CP:=D.rec (motive_1:=λ_=>CP) (motive_2:=λ_=>PUnit.{1}) .no (λ_ _=>.no) (λ_=>.no) (λ_=>.no) (λ_=>.no) .no .no (λ_ _ _ _=>.no) (λ_ _ _ _=>.no) (λ_ _ _ _ _ _=>.no) (λl off=>.ptr l off) (λcs _=>.fp cs) (λ_ _=>.no) (λ_ _=>.no) (λ_ _ _=>.no) ⟨⟩ (λ_ _ _ _=>⟨⟩) d
def asS(d:D):CS:=D.rec (motive_1:=λ_=>CS) (motive_2:=λ_=>PUnit.{1}) .no (λ_ _=>.no) (λ_=>.no) (λ_=>.no) (λ_=>.no) .no .no (λcs len ex _=>.tree cs len ex) (λ_ _ _ _=>.no) (λl off len cm z ex=>.sl l off len cm z ex) (λ_ _=>.no) (λ_ _=>.no) (λ_ _=>.no) (λ_ _=>.no) (λ_ _ _=>.no) ⟨⟩ (λ_ _ _ _=>⟨⟩) d
def asA(d:D):CL:=D.rec (motive_1:=λ_=>CL) (motive_2:=λ_=>PUnit.{1}) .no (λ_ _=>.no) (λ_=>.no) (λ_=>.no) (λ_=>.no) .no .no (λ_ _ _ _=>.no) (λ_ _ _ _=>.no) (λ_ _ _ _ _ _=>.no) (λ_ _=>.no) (λ_ _=>.no) (λcs _=>.l cs) (λ_ _=>.no) (λ_ _ _=>.no) ⟨⟩ (λ_ _ _ _=>⟨⟩) d
def asT(d:D):CL:=D.rec (motive_1:=λ_=>CL) (motive_2:=λ_=>PUnit.{1}) .no (λ_ _=>.no) (λ_=>.no) (λ_=>.no) (λ_=>.no) .no .no (λ_ _ _ _=>.no) (λ_ _ _ _=>.no) (λ_ _ _ _ _ _=>.no) (λ_ _=>.no) (λ_ _=>.no) (λ_ _=>.no) (λcs _=>.l cs) (λ_ _ _=>.no) ⟨⟩ (λ_ _ _ _=>⟨⟩) d
section
variable {R:Type}
def onN(d:D)(k:IntKind→Nat→R)(no:R):R:=CI.rec (motive:=λ_=>R) k no (asI d)
def onB(d:D)(t f no:R):R:=CB.rec (motive:=λ_=>R) t f no (asB d)
def Gt(d:D)(k:Nat→Nat→R)(kf:List D→R)(no:R):R:=CP.rec (motive:=λ_=>R) k kf no (asP d)
def FL(d:D)(k:Nat→Nat→Nat→Nat→Nat→Bool→R)(kt:List D→Nat→Bool→R)(no:R):R:=CS.rec (motive:=λ_=>R) k kt no (asS d)
def Ka(d:D)(k:List D→R)(no:R):R:=CL.rec (motive:=λ_=>R) k no (asA d)
def VF(d:D)(k:List D→R)(no:R):R:=CL.rec (motive:=λ_=>R) k no (asT d)
def lv(s:Stt):Bool:=Stt.rec (motive:=λ_=>Bool) true true false true s
def wr(s:Stt):Bool:=Stt.rec (motive:=λ_=>Bool) true false false false s
def ow(s:Stt):Bool:=Stt.rec (motive:=λ_=>Bool) true false false true s
end
theorem sI(s:Stt):lv s=s.live:=by cases s<;>rfl
theorem DY(s:Stt):wr s=s.wr:=by cases s<;>rfl
def fzS(s:Stt):Stt:=Stt.rec (motive:=λ_=>Stt) .frz .frz .gone .apd s
theorem Qd(s:Stt):fzS s=s.fz:=by cases s<;>rfl
theorem YK(s:Stt):ow s=s.own:=by cases s<;>rfl
def ug(k:IntKind):Nat:=IntKind.rec (motive:=λ_=>Nat) 0 1 2 3 4 5 6 7 k
theorem vP{a b:IntKind}(h:Nat.beq (ug a) (ug b)=true):a=b:=by
 cases a<;>cases b<;>first|rfl|(exact absurd h (by decide))
def jX(k:IntKind):Nat:=IntKind.rec (motive:=λ_=>Nat) 127 32767 2147483647 9223372036854775807 255 65535 4294967295 18446744073709551615 k
theorem xh{kk:IntKind}{n:Nat}(h:n≤jX kk):kk.wrap (Int.ofNat n)=Int.ofNat n:=by
 cases kk<;>simp only[jX]at h<;>simp[IntKind.wrap,IntKind.bits,IntKind.signed]<;>omega
def uO(k:IntKind):Nat:=IntKind.rec (motive:=λ_=>Nat) 0 0 0 0 256 65536 4294967296 18446744073709551616 k
theorem Nc{kk:IntKind}(h:Nat.beq (uO kk) 0=false)(n:Nat):kk.wrap (Int.ofNat n)=Int.ofNat (n%uO kk):=by
 cases kk<;>simp only[uO]at h ⊢ <;>first|(exact absurd h (by decide))|(simp[IntKind.wrap,IntKind.bits,IntKind.signed])
def on2(x y:D)(k:IntKind→Nat→Nat→Rs)(no:Rs):Rs:=
 onN x (λkk a=>onN y (λkk' b=>cnd (Nat.beq (ug kk) (ug kk')) (k kk a b) no) no) no
def mkI(kk:IntKind)(n:Nat)(k:D→Rs)(no:Rs):Rs:=cnd (Nat.ble n (jX kk)) (frc n λn=>k (.i kk (.ofNat n))) (cnd (Nat.beq (uO kk) 0) no (frc (Nat.mod n (uO kk)) λn=>k (.i kk (.ofNat n))))
def mkB(b:Bool)(k:D→Rs):Rs:=cnd b (k (.b true)) (k (.b false))
theorem tZ(b:Bool)(k:D→Rs):mkB b k=k (.b b):=by cases b<;>rfl
def fV(op:BinOp)(x y:D)(k:D→Rs):Rs:=uw (bin op x y) k
def ee(x y:D)(k:D→Rs):Rs:=on2 x y (λkk a b=>mkI kk (Nat.add a b) k (fV .add x y k)) (fV .add x y k)
def et(x y:D)(k:D→Rs):Rs:=on2 x y (λkk a b=>cnd (Nat.ble b a) (mkI kk (Nat.sub a b) k (fV .sub x y k)) (cnd (Nat.beq (uO kk) 0) (fV .sub x y k) (cnd (Nat.ble b (uO kk)) (mkI kk (Nat.sub (Nat.add a (uO kk)) b) k (fV .sub x y k)) (fV .sub x y k)))) (fV .sub x y k)
def kv(x y:D)(k:D→Rs):Rs:=on2 x y (λkk a b=>mkI kk (Nat.mul a b) k (fV .mul x y k)) (fV .mul x y k)
def JP(x y:D)(k:D→Rs):Rs:=on2 x y (λkk a b=>cnd (Nat.beq b 0) none (frc (Nat.mod a b) λn=>k (.i kk (.ofNat n)))) (fV .rem x y k)
def fN(x y:D)(k:D→Rs):Rs:=on2 x y (λkk a b=>mkB (Nat.blt a b) k) (fV .lss x y k)
def ut(x y:D)(k:D→Rs):Rs:=on2 x y (λkk a b=>mkB (Nat.ble a b) k) (fV .leq x y k)
def kC(x y:D)(k:D→Rs):Rs:=on2 x y (λkk a b=>mkB (Nat.blt b a) k) (fV .gtr x y k)
def jt(x y:D)(k:D→Rs):Rs:=on2 x y (λkk a b=>mkB (Nat.ble b a) k) (fV .geq x y k)
def gx(x y:D)(k:D→Rs):Rs:=on2 x y (λkk a b=>mkB (Nat.beq a b) k) (fV .eql x y k)
def mE(x y:D)(k:D→Rs):Rs:=on2 x y (λkk a b=>mkB (not (Nat.beq a b)) k) (fV .neq x y k)
def u7(x y:D)(k:D→Rs):Rs:=on2 x y (λkk a b=>cnd (Nat.beq b 0) none (mkI kk (Nat.div a b) k (fV .quo x y k))) (fV .quo x y k)
def inK(kk:IntKind)(a b:Nat)(t no:Rs):Rs:=cnd (Nat.ble a (jX kk)) (cnd (Nat.ble b (jX kk)) t no) no
def uu(x y:D)(k:D→Rs):Rs:=on2 x y (λkk a b=>inK kk a b (frc (Nat.land a b) λn=>k (.i kk (.ofNat n))) (fV .and x y k)) (fV .and x y k)
def kOr(x y:D)(k:D→Rs):Rs:=on2 x y (λkk a b=>inK kk a b (frc (Nat.lor a b) λn=>k (.i kk (.ofNat n))) (fV .or x y k)) (fV .or x y k)
def Py(k:IntKind):Nat:=IntKind.rec (motive:=λ_=>Nat) 8 16 32 64 8 16 32 64 k
def HS(b n:Nat):Nat:=cnd (Nat.ble b n) b n
def vm(x y:D)(k:D→Rs):Rs:=onN x (λkk a=>onN y (λ_ b=>mkI kk (Nat.mul a (Nat.pow 2 (HS b (Py kk)))) k (fV .shl x y k)) (fV .shl x y k)) (fV .shl x y k)
def o5(x y:D)(k:D→Rs):Rs:=onN x (λkk a=>onN y (λ_ b=>frc (Nat.div a (Nat.pow 2 (HS b (Py kk)))) λn=>k (.i kk (.ofNat n))) (fV .shr x y k)) (fV .shr x y k)
def Y4(op:BinOp)(x y:D)(k:D→Rs):Rs:=
 match op with
 |.add=>ee x y k
 |.sub=>et x y k
 |.mul=>kv x y k
 |.rem=>JP x y k
 |.lss=>fN x y k
 |.leq=>ut x y k
 |.gtr=>kC x y k
 |.geq=>jt x y k
 |.eql=>gx x y k
 |.neq=>mE x y k
 |.quo=>u7 x y k
 |.and=>uu x y k
 |.or=>kOr x y k
 |.shl=>vm x y k
 |.shr=>o5 x y k
 |op=>fV op x y k
def To(o:Option D)(k:D→Rs)(r:D):Prop:=∃d,o=some d∧k d=some r
theorem nG{α:Type}{o:Option α}{k:α→Rs}{r:D}(h:ob o k=some r):∃x,o=some x∧k x=some r:=by
 cases o with
 |none=>cases h
 |some x=>exact⟨x,rfl,h⟩
theorem tE{d:D}{k:IntKind→Nat→Rs}{no:Rs}{r:D}(h:onN d k no=some r):(∃kk n,d=.i kk (.ofNat n)∧k kk n=some r)∨no=some r:=by
 cases d with
 |i kk n=>
  cases n with
  |ofNat n=>exact .inl ⟨kk,n,rfl,h⟩
  |negSucc n=>exact .inr h
 |_=>exact .inr h
theorem nF{x y:D}{k:IntKind→Nat→Nat→Rs}{no:Rs}{r:D}(h:on2 x y k no=some r):(∃kk a b,x=.i kk (.ofNat a)∧y=.i kk (.ofNat b)∧k kk a b=some r)∨no=some r:=by
 unfold on2 at h;rcases tE h with⟨kk,a,hx,h1⟩|h1
 ·rcases tE (d:=y) h1 with⟨kk',b,hy,h2⟩|h2
  ·cases hk:Nat.beq (ug kk) (ug kk')with
   |false=>rw[hk]at h2;exact .inr h2
   |true=>
    rw[hk]at h2;have:=vP hk;subst this;exact .inl ⟨kk,a,b,hx,hy,h2⟩
  ·exact .inr h2
 ·exact .inr h1
theorem gO{op:BinOp}{x y:D}{k:D→Rs}{r:D}(h:fV op x y k=some r):To (bin op x y) k r:=by
 unfold fV at h;rw[gS]at h;exact nG h
theorem xu{kk:IntKind}{n:Nat}{k:D→Rs}{no:Rs}{r:D}(h:mkI kk n k no=some r):k (.i kk (kk.wrap (Int.ofNat n)))=some r∨no=some r:=by
 unfold mkI at h;cases hb:Nat.ble n (jX kk)with
 |false=>
  rw[hb]at h;cases hm:Nat.beq (uO kk) 0 with
  |true=>rw[hm]at h;exact .inr h
  |false=>
   rw[hm]at h;simp only[e9,fA]at h;rw[Nc hm];exact .inl h
 |true=>
  rw[hb]at h;simp only[eL,fA]at h;rw[xh (aa hb)];exact .inl h
theorem Lf(a b:Nat):Nat.blt a b=decide ((Int.ofNat a)<(Int.ofNat b)):=by
 rw[di];simp[dy]
theorem Lh(a b:Nat):Nat.ble a b=decide ((Int.ofNat a)≤(Int.ofNat b)):=by
 rw[di];simp
theorem Li(a b:Nat):Nat.beq a b=((Int.ofNat a)==(Int.ofNat b)):=by
 rw[di,Nat.beq_eq,beq_iff_eq];exact⟨λh=>by rw[h],λh=>Int.ofNat.inj h⟩
theorem HU(kk:IntKind):kk.bits=Py kk:=by cases kk<;>rfl
theorem Kq(b n:Nat):HS b n=Nat.min b n:=by
 unfold HS;by_cases h:b≤n
 ·rw[aF h];show b=min b n;omega
 ·rw[kY h];show n=min b n;omega
theorem H9{kk:IntKind}{a b:Nat}{t no:Rs}{r:D}(h:inK kk a b t no=some r):(a≤jX kk∧b≤jX kk∧t=some r)∨no=some r:=by
 unfold inK at h;cases h1:Nat.ble a (jX kk)with
 |false=>rw[h1]at h;exact .inr h
 |true=>
  rw[h1]at h;cases h2:Nat.ble b (jX kk)with
  |false=>rw[h2]at h;exact .inr h
  |true=>rw[h2]at h;exact .inl ⟨aa h1,aa h2,h⟩
theorem Kr(kk:IntKind):∃m,jX kk+1=2^m∧m≤kk.bits:=by
 cases kk
 ·exact⟨7,rfl,by decide⟩
 ·exact⟨15,rfl,by decide⟩
 ·exact⟨31,rfl,by decide⟩
 ·exact⟨63,rfl,by decide⟩
 ·exact⟨8,rfl,by decide⟩
 ·exact⟨16,rfl,by decide⟩
 ·exact⟨32,rfl,by decide⟩
 ·exact⟨64,rfl,by decide⟩
theorem xJ{w a:Nat}(h:a<2^w):(BitVec.ofInt w (Int.ofNat a)).toNat=a:=by
 rw[show Int.ofNat a=(a:Int)from rfl,BitVec.ofInt_natCast,BitVec.toNat_ofNat,bJ h]
theorem Pv{kk:IntKind}{a b:Nat}(ha:a≤jX kk):a&&&b≤jX kk:=bT Nat.and_le_left ha
theorem T2{kk:IntKind}{a b:Nat}(ha:a≤jX kk)(hb:b≤jX kk):a|||b≤jX kk:=by
 obtain⟨m,hm,_⟩:=Kr kk;have:=Nat.or_lt_two_pow (x:=a) (y:=b) (n:=m) (by omega) (by omega);omega
theorem Tc{kk:IntKind}{a:Nat}(ha:a≤jX kk):a<2^kk.bits:=by
 obtain⟨m,hm,hle⟩:=Kr kk;have:=ba (show 0<2 by omega) hle;omega
theorem Tt{op:BinOp}{x y:D}{k:D→Rs}{r:D}(h:Y4 op x y k=some r):To (bin op x y) k r:=by
 cases op
 case add=>
  rcases nF h with⟨kk,a,b,rfl,rfl,h1⟩|h1
  ·rcases xu h1 with h2|h2
   ·exact⟨_,by simp[bin,ww],h2⟩
   ·exact gO h2
  ·exact gO h1
 case sub=>
  rcases nF h with⟨kk,a,b,rfl,rfl,h1⟩|h1
  ·cases hb:Nat.ble b a with
   |false=>
    rw[hb]at h1;simp only[e9]at h1;cases hm:Nat.beq (uO kk) 0 with
    |true=>rw[hm]at h1;exact gO h1
    |false=>
     rw[hm]at h1;simp only[e9]at h1;cases hk:Nat.ble b (uO kk)with
     |false=>rw[hk]at h1;exact gO h1
     |true=>
      rw[hk]at h1;have hle:b≤uO kk:=aa hk;rcases xu h1 with h2|h2
      ·refine⟨_,?_,h2⟩;simp only[bin,ww,bf];refine congrArg some (congrArg (D.i kk) ?_);have:kk.wrap (Int.ofNat a-Int.ofNat b)=kk.wrap (Int.ofNat (Nat.sub (Nat.add a (uO kk)) b)):=by
        have e:(Int.ofNat (Nat.sub (Nat.add a (uO kk)) b))=(Int.ofNat a-Int.ofNat b)+(uO kk:Int):=by
         show((a+uO kk-b:Nat):Int)=(a:Int)-(b:Int)+(uO kk:Int)
         omega
        rw[e];cases kk<;>simp only[uO]at hm ⊢ <;>first|(exact absurd hm (by decide))|(simp only[IntKind.wrap,IntKind.bits,IntKind.signed];simp)
       exact this
      ·exact gO h2
   |true=>
    rw[hb]at h1;have hle:b≤a:=aa hb;have he:Int.ofNat a-Int.ofNat b=Int.ofNat (a-b):=by simp only[Int.ofNat_eq_natCast];omega
    rcases xu h1 with h2|h2
    ·exact⟨_,by simp only[bin,ww,bf,he];rfl,h2⟩
    ·exact gO h2
  ·exact gO h1
 case mul=>
  rcases nF h with⟨kk,a,b,rfl,rfl,h1⟩|h1
  ·rcases xu h1 with h2|h2
   ·exact⟨_,by simp[bin,ww],h2⟩
   ·exact gO h2
  ·exact gO h1
 case rem=>
  rcases nF h with⟨kk,a,b,rfl,rfl,h1⟩|h1
  ·cases hb:Nat.beq b 0 with
   |true=>rw[hb]at h1;cases h1
   |false=>
    rw[hb]at h1;simp only[e9,fA]at h1;have hb':b≠0:=by intro e;subst e;simp at hb
    refine⟨_,?_,h1⟩;simp only[bin,ww,bf];rw[aE (by simpa using hb')];rfl
  ·exact gO h1
 case lss=>
  rcases nF h with⟨kk,a,b,rfl,rfl,h1⟩|h1
  ·rw[tZ]at h1;exact⟨_,by simp only[bin,ww,bf,Lf],h1⟩
  ·exact gO h1
 case leq=>
  rcases nF h with⟨kk,a,b,rfl,rfl,h1⟩|h1
  ·rw[tZ]at h1;exact⟨_,by simp only[bin,ww,bf,Lh],h1⟩
  ·exact gO h1
 case gtr=>
  rcases nF h with⟨kk,a,b,rfl,rfl,h1⟩|h1
  ·rw[tZ]at h1;exact⟨_,by simp only[bin,ww,bf,Lf,gt_iff_lt],h1⟩
  ·exact gO h1
 case geq=>
  rcases nF h with⟨kk,a,b,rfl,rfl,h1⟩|h1
  ·rw[tZ]at h1;exact⟨_,by simp only[bin,ww,bf,Lh,ge_iff_le],h1⟩
  ·exact gO h1
 case eql=>
  rcases nF h with⟨kk,a,b,rfl,rfl,h1⟩|h1
  ·rw[tZ]at h1;exact⟨_,by simp only[bin,ww,bf,Li],h1⟩
  ·exact gO h1
 case neq=>
  rcases nF h with⟨kk,a,b,rfl,rfl,h1⟩|h1
  ·rw[tZ]at h1;exact⟨_,by simp only[bin,ww,bf,Li];rfl,h1⟩
  ·exact gO h1
 case quo=>
  rcases nF h with⟨kk,a,b,rfl,rfl,h1⟩|h1
  ·cases hb:Nat.beq b 0 with
   |true=>rw[hb]at h1;cases h1
   |false=>
    rw[hb]at h1;have hb':b≠0:=by intro e;subst e;simp at hb
    rcases xu h1 with h2|h2
    ·refine⟨_,?_,h2⟩;simp only[bin,ww,bf];rw[aE (by simpa using hb')];rfl
    ·exact gO h2
  ·exact gO h1
 case and=>
  rcases nF h with⟨kk,a,b,rfl,rfl,h1⟩|h1
  ·rcases H9 h1 with⟨ha,hb,h2⟩|h2
   ·rw[fA]at h2;refine⟨_,?_,h2⟩;simp only[bin,ww,bf,BitVec.toNat_and,xJ (Tc ha),xJ (Tc hb)];exact congrArg some (congrArg (D.i kk) (xh (Pv ha)))
   ·exact gO h2
  ·exact gO h1
 case or=>
  rcases nF h with⟨kk,a,b,rfl,rfl,h1⟩|h1
  ·rcases H9 h1 with⟨ha,hb,h2⟩|h2
   ·rw[fA]at h2;refine⟨_,?_,h2⟩;simp only[bin,ww,bf,BitVec.toNat_or,xJ (Tc ha),xJ (Tc hb)];exact congrArg some (congrArg (D.i kk) (xh (T2 ha hb)))
   ·exact gO h2
  ·exact gO h1
 case shl=>
  rcases tE (show onN x _ _=some r from h)with⟨kk,a,rfl,h1⟩|h1
  ·rcases tE h1 with⟨k2,b,rfl,h2⟩|h2
   ·rcases xu h2 with h3|h3
    ·refine⟨_,?_,h3⟩;simp only[bin];rw[aE (by simp),Kq,←HU];rfl
    ·exact gO h3
   ·exact gO h2
  ·exact gO h1
 case shr=>
  rcases tE (show onN x _ _=some r from h)with⟨kk,a,rfl,h1⟩|h1
  ·rcases tE h1 with⟨k2,b,rfl,h2⟩|h2
   ·rw[fA]at h2;refine⟨_,?_,h2⟩;simp only[bin];rw[aE (by simp),Kq,←HU];show some (D.i kk (Int.fdiv (a:Int) ((2:Int)^_)))=some (D.i kk ((a/2^_:Nat):Int));rw[Int.fdiv_eq_ediv_of_nonneg _ (by exact_mod_cast a9 _)];simp
   ·exact gO h2
  ·exact gO h1
 all_goals exact gO h
def Yu(ev:X→D)(σ:Sto)(o:O)(d:D)(σ':Sto):Prop:=
 (∃bs,evA σ.nx ev σ.get o=some (d,bs)∧σ'=σ.adds bs)∨(evA σ.nx ev σ.get o=none∧evW ev σ o=some (d,σ'))
def ToO(σ:Sto)(ev:X→D)(o:O)(k:D→LS→Rs)(r:D):Prop:=∃d s' σ',Yu ev σ o d σ'∧LSR s' σ'∧k d s'=some r
section
variable {s:LS} {σ:Sto} {ev:X→D} {o:O} {k:D→LS→Rs} {r d:D}
theorem toA(h:LSR s σ)(ha:evA s.nx ev s.get o=some (d,[]))(hk:k d s=some r):ToO σ ev o k r:=
 ⟨d,s,σ,.inl ⟨[],by rw[h.nx,h.get];exact ha,rfl⟩,h,hk⟩
theorem Nm(h:LSR s σ){b:Blk}(ha:evA s.nx ev s.get o=some (d,[b]))(hk:k d (s.push b)=some r):ToO σ ev o k r:=
 ⟨d,s.push b,σ.adds [b],.inl ⟨[b],by rw[h.nx,h.get];exact ha,rfl⟩,h.push b,hk⟩
theorem toW{s':LS}{σ':Sto}(ha:evA σ.nx ev σ.get o=none)(hw:evW ev σ o=some (d,σ'))(h':LSR s' σ')(hk:k d s'=some r):ToO σ ev o k r:=
 ⟨d,s',σ',.inr ⟨ha,hw⟩,h',hk⟩
end
theorem mz{α:Type}{l:List α}{n:Nat}{d:α}(h:l[n]?=some d):l.drop n=d::l.drop (n+1):=by
 obtain⟨hlt,he⟩:=bC.1 h;rw[bZ hlt,he]
theorem fW{b:Bool}{x:Rs}{r:D}(h:cnd b x none=some r):b=true∧x=some r:=by
 cases b with
 |true=>exact⟨rfl,h⟩
 |false=>cases h
theorem Cc{b:Bool}{t e:Rs}{q:D}(h:cnd b t e=some q):(b=true∧t=some q)∨(b=false∧e=some q):=by
 cases b with
 |true=>exact Or.inl ⟨rfl,h⟩
 |false=>exact Or.inr ⟨rfl,h⟩
theorem tF{d:D}{t f:Rs}{r:D}(h:onB d t f none=some r):(d=.b true∧t=some r)∨(d=.b false∧f=some r):=by
 cases d with
 |b x=>
  cases x with
  |true=>exact .inl ⟨rfl,h⟩
  |false=>exact .inr ⟨rfl,h⟩
 |_=>cases h
theorem sR{d:D}{k:Nat→Nat→Rs}{kf:List D→Rs}{r:D}(h:Gt d k kf none=some r):(∃l off,d=.ptr l off∧k l off=some r)∨(∃cs,d=.fp cs∧kf cs=some r):=by
 cases d with
 |ptr l off=>exact .inl ⟨_,_,rfl,h⟩
 |fp cs=>exact .inr ⟨_,rfl,h⟩
 |_=>cases h
theorem rG{d:D}{k:Nat→Nat→Nat→Nat→Nat→Bool→Rs}{kt:List D→Nat→Bool→Rs}{r:D}(h:FL d k kt none=some r):
 (∃l off len cm z ex,d=.sl l off len cm z ex∧k l off len cm z ex=some r)∨(∃cs len ex,d=.tree cs len ex∧kt cs len ex=some r):=by
 cases d with
 |sl l off len cm z ex=>exact .inl ⟨_,_,_,_,_,_,rfl,h⟩
 |tree cs len ex=>exact .inr ⟨_,_,_,rfl,h⟩
 |_=>cases h
theorem xq{d:D}{k:List D→Rs}{r:D}(h:Ka d k none=some r):∃cs,d=.agg cs∧k cs=some r:=by
 cases d with
 |agg cs=>exact⟨_,rfl,h⟩
 |_=>cases h
theorem Ix{d:D}{k:List D→Rs}{r:D}(h:VF d k none=some r):∃cs,d=.tup cs∧k cs=some r:=by
 cases d with
 |tup cs=>exact⟨_,rfl,h⟩
 |_=>cases h
theorem wK{s:Stt}{x:Rs}{r:D}(h:cnd (lv s) x none=some r):s.live=true∧x=some r:=by
 rw[sI]at h;exact fW h
theorem Kb{s:Stt}{x:Rs}{r:D}(h:cnd (wr s) x none=some r):s.wr=true∧x=some r:=by
 rw[DY]at h;exact fW h
theorem VG{s:Stt}{x:Rs}{r:D}(h:cnd (ow s) x none=some r):s.own=true∧x=some r:=by
 rw[YK]at h;exact fW h
theorem zj{d:D}{k:IntKind→Nat→Rs}{r:D}(h:onN d k none=some r):∃kk n,d=.i kk (.ofNat n)∧k kk n=some r:=by
 rcases tE h with h|h
 ·exact h
 ·cases h
theorem jS{s:LS}{l:Nat}{k:Blk→Rs}{r:D}(h:jQ s l k=some r):∃b,s.get l=some b∧k b=some r:=by
 rw[oe]at h;exact nG h
theorem uI{α:Type}{n:Nat}{l:List α}{k:α→Rs}{r:D}(h:Ac n l k=some r):∃d,l.drop n=d::l.drop (n+1)∧k d=some r:=by
 rw[yr]at h;obtain⟨d,h1,h2⟩:=nG h;exact⟨d,mz h1,h2⟩
theorem pH{n:Nat}{l:List D}{k:List D→Rs}{r:D}(h:iy n l k=some r):cut 0 n l=some (l.take n)∧k (l.take n)=some r:=by
 rw[i9]at h;split at h
 ·rename_i hn;refine⟨?_,h⟩;unfold cut;simp only[aj,ah];rw[aC (by omega)]
 ·cases h
theorem wl(off n:Nat)(l:List D):cut 0 n (l.drop off)=cut off n l:=rfl
def is1(d:D):Bool:=D.rec (motive_1:=λ_=>Bool) (motive_2:=λ_=>PUnit.{1}) false (λ_ _=>true) (λ_=>true) (λ_=>true) (λ_=>true) true true (λ_ _ _ _=>true) (λ_ _ _ _=>false) (λ_ _ _ _ _ _=>true) (λ_ _=>true) (λ_ _=>true) (λ_ _=>false) (λ_ _=>false) (λ_ _ _=>true) ⟨⟩ (λ_ _ _ _=>⟨⟩) d
def on1(d:D)(t:Rs):Rs:=cnd (is1 d) t none
theorem PY{d:D}{t:Rs}{r:D}(h:on1 d t=some r):one d=true∧t=some r:=by
 obtain⟨h1,h2⟩:=fW h;refine⟨?_,h2⟩;cases d<;>first|rfl|(cases h1;done)
def pi(l:List D)(t:Rs):Rs:=List.rec (motive:=λ_=>Rs) t (λd _ ih=>on1 d ih) l
theorem rN{t:Rs}{r:D}:∀{l:List D},pi l t=some r→l.all one=true∧t=some r
 |[],h=>⟨rfl,h⟩
 |d::l,h=>by
  obtain⟨h1,h2⟩:=PY (show on1 d (pi l t)=some r from h);obtain⟨h3,h4⟩:=rN h2;exact⟨by simp[h1,h3],h4⟩
def XP(v:D):List D:=D.rec (motive_1:=λ_=>List D) (motive_2:=λ_=>PUnit.{1}) [.u] (λk n=>[.i k n]) (λx=>[.b x]) (λl=>[.s l]) (λm=>[.n m]) [.np] [.nf] (λcs len ex _=>[.tree cs len ex]) (λcs len z _=>[.own cs len z])
 (λl off len cm z ex=>[.sl l off len cm z ex]) (λl off=>[.ptr l off]) (λcs _=>[.fp cs]) (λcs _=>cs) (λcs _=>[.tup cs]) (λf cs _=>[.fn f cs]) ⟨⟩ (λ_ _ _ _=>⟨⟩) v
def vcK(v:D)(k:List D→Rs):Rs:=List.rec (motive:=λ_=>Rs) (k []) (λd r _=>k (d::r)) (XP v)
theorem v7(v:D)(k:List D→Rs):vcK v k=k (jr v):=by
 cases v with
 |agg cs=>cases cs<;>rfl
 |_=>rfl
def fX(c a b:D)(s:LS)(k:D→LS→Rs):Rs:=onB c (k a s) (k b s) none
def eJ(s:LS)(a:D)(k:D→LS→Rs):Rs:=
 Gt a (λl off=>jQ s l λb=>cnd (lv b.st) (Ac off b.cs λd=>k d s) none) (λcs=>Ac 0 cs λd=>k d s) none
def eS(n:Nat)(s:LS)(a:D)(k:D→LS→Rs):Rs:=
 Gt a (λl off=>jQ s l λb=>cnd (lv b.st) (iz off b.cs λr=>iy n r λr=>k (.agg r) s) none) (λcs=>iy n cs λr=>k (.agg r) s) none
def uR(s:LS)(x:D)(k:D→LS→Rs):Rs:=
 match x with
 |.ptr l o=>jQ s l λb=>cnd (lv b.st) (k (.ptr l o) s) none
 |.fp cs=>k (.fp cs) s
 |.fn f cs=>k (.fn f cs) s
 |_=>none
def wg(neg:Bool)(s:LS)(x:D)(k:D→LS→Rs):Rs:=
 FL x (λl _ _ _ _ _=>jQ s l λb=>cnd (lv b.st) (k (.b neg) s) none) (λcs _ _=>List.rec (motive:=λ_=>Rs) none (λ_ _ _=>k (.b neg) s) cs) none
def wi(op:BinOp)(x y:D)(s:LS)(k:D→LS→Rs):Rs:=
 match op with
 |.eql=>onB x (onB y (k (.b true) s) (k (.b false) s) none) (onB y (k (.b false) s) (k (.b true) s) none) none
 |.neq=>onB x (onB y (k (.b false) s) (k (.b true) s) none) (onB y (k (.b true) s) (k (.b false) s) none) none
 |_=>none
def NR(neg:Bool)(ks:List Nat)(x y:D):Option D:=
 match x,y with
 |.agg a,.agg b=>if a.length=ks.length&&b.length=ks.length then match eqL ks a b with
  |some r=>some (.b (if neg then !r else r))
  |none=>none
  else none
 |_,_=>none
def Af(neg:Bool)(ks:List Nat)(x y:D)(s:LS)(k:D→LS→Rs):Rs:=uw (NR neg ks x y) λd=>k d s
def sX(x:D)(s:LS)(k:D→LS→Rs):Rs:=onB x (k (.b false) s) (k (.b true) s) none
def E9(kk:IntKind)(x:D):Option D:=
 match x with
 |.i _ n=>some (.i kk (kk.wrap n))
 |_=>none
def lP(kk:IntKind)(x:D)(s:LS)(k:D→LS→Rs):Rs:=
 onN x (λ_ n=>mkI kk n (λd=>k d s) (uw (E9 kk x) λd=>k d s)) (uw (E9 kk x) λd=>k d s)
def eW(off:Nat)(s:LS)(x:D)(k:D→LS→Rs):Rs:=
 Gt x (λl o=>jQ s l λb=>cnd (lv b.st) (frc (Nat.add o off) λo=>k (.ptr l o) s) none) (λcs=>iz off cs λcs=>k (.fp cs) s) none
def Ku(off:Nat)(x:D)(s:LS)(k:D→LS→Rs):Rs:=Ka x (λcs=>Ac off cs λd=>k d s) none
def Kt(off n:Nat)(x:D)(s:LS)(k:D→LS→Rs):Rs:=Ka x (λcs=>iz off cs λr=>iy n r λr=>k (.agg r) s) none
def eK(sz:Nat)(s:LS)(x i:D)(k:D→LS→Rs):Rs:=
 onN i (λ_ n=>FL x (λl off len _ z _=>jQ s l λb=>cnd (lv b.st) (cnd (Nat.blt n len) (cnd (Nat.beq z sz) (frc (Nat.add off (Nat.mul n sz)) λo=>k (.ptr l o) s) none) none) none)
  (λcs len _=>cnd (Nat.blt n len) (iz (Nat.mul n sz) cs λr=>List.rec (motive:=λ_=>Rs) none (λ_ _ _=>k (.fp r) s) r) none) none) none
def gD(x:D)(i:Nat)(s:LS)(k:D→LS→Rs):Rs:=VF x (λvs=>Ac i vs λd=>k d s) none
def ek(x:D)(s:LS)(k:D→LS→Rs):Rs:=FL x (λ_ _ len _ _ _=>k (.i .i64 (.ofNat len)) s) (λ_ len _=>k (.i .i64 (.ofNat len)) s) none
def Iw(x:Option D)(dflt:Nat)(k:Nat→Rs):Rs:=
 match x with
 |none=>k dflt
 |some x=>onN x (λ_ n=>k n) none
def PU{α:Type}:Option α→Bool
 |some _=>true
 |none=>false
def kg(sz:Nat)(s:LS)(x:D)(lo hi mx:Option D)(k:D→LS→Rs):Rs:=
 FL x (λl off len cm z ex=>Iw mx cm λm=>Iw hi len λh=>Iw lo 0 λlw=>jQ s l λb=>
  cnd (lv b.st) (cnd (Nat.ble m cm) (cnd (Nat.ble h m) (cnd (Nat.ble lw h) (cnd (Nat.beq z sz)
   (mw (cnd (PU mx) true ex) λex=>cnd (Nat.blt lw m) (frc (Nat.add off (Nat.mul lw sz)) λoff=>frc (Nat.sub h lw) λlen=>frc (Nat.sub m lw) λcm=>k (.sl l off len cm sz ex) s) (k (.tree [] 0 ex) s))
   none) none) none) none) none)
  (λcs len ex=>Iw mx len λm=>Iw hi len λh=>Iw lo 0 λlw=>
   cnd (Nat.ble m len) (cnd (Nat.ble h m) (cnd (Nat.ble lw h) (cnd (Nat.beq cs.length (Nat.mul len sz))
    (iz (Nat.mul lw sz) cs λcs=>frc (Nat.sub h lw) λn=>iy (Nat.mul n sz) cs λcs=>
     mw (cnd (PU mx) (Nat.beq m h) (cnd ex (Nat.beq h len) false)) λex=>k (.tree cs n ex) s)
    none) none) none) none) none
def fq(zero:List D)(s:LS)(k:D→LS→Rs):Rs:=ku s ⟨zero,.rw⟩ λs'=>k (.ptr s.nx 0) s'
def ic(x:D)(s:LS)(k:D→LS→Rs):Rs:=vcK x λcs=>pi cs (ku s ⟨cs,.rw⟩ λs'=>k (.ptr s.nx 0) s')
def Hj:List (Nat×Nat×D)→List D→(List D→Rs)→Rs:=
 List.rec (λcs k=>k cs) (λp _ ih cs k=>vcK p.2.2 λnew=>cnd (Nat.beq new.length p.2.1) (pi new (ur p.1 new cs λcs=>ih cs k)) none)
def kN(zero:List D)(parts:List (Nat×Nat×D))(s:LS)(k:D→LS→Rs):Rs:=Hj parts zero λcs=>k (.agg cs) s
def v6(zero:List D)(n:Nat)(k:List D→Rs):Rs:=Nat.rec (motive:=λ_=>(List D→Rs)→Rs) (λk=>k []) (λ_ ih k=>ih λr=>l7 zero r k) n k
def jY(len:Nat)(zero:List D)(parts:List (Nat×Nat×D))(s:LS)(k:D→LS→Rs):Rs:=
 v6 zero len λcs=>Hj parts cs λcs=>frc zero.length λz=>ku s ⟨cs,.rw⟩ λs'=>k (.sl s.nx 0 len len z true) s'
def mK(sz bytes:Nat)(zero:List D)(s:LS)(l c:D)(k:D→LS→Rs):Rs:=
 on2 l c (λkk l c=>cnd (Nat.beq (ug kk) 3) (cnd (Nat.ble l c) (cnd (Nat.ble c 140737488355328) (cnd (Nat.ble (Nat.mul c bytes) 140737488355328) (cnd (Nat.beq zero.length sz)
  (v6 zero c λcs=>ku s ⟨cs,.rw⟩ λs'=>k (.sl s.nx 0 l c sz true) s') none) none) none) none) none) none
def eU(n:Nat)(s:LS)(a x:D)(k:D→LS→Rs):Rs:=
 Gt a (λl off=>jQ s l λb=>cnd (wr b.st) (vcK x λnew=>cnd (Nat.beq new.length n) (pi new (ur off new b.cs λcs=>oN s l ⟨cs,.rw⟩ λs=>k .u s)) none) none) (λ_=>none) none
def oQ(sz:Nat)(s:LS)(x:D)(k:List D→Nat→Rs):Rs:=
 FL x (λl off len _ z _=>jQ s l λb=>cnd (lv b.st) (cnd (Nat.beq z sz) (iz off b.cs λr=>iy (Nat.mul len sz) r λr=>k r len) none) none)
  (λcs len _=>cnd (Nat.beq cs.length (Nat.mul len sz)) (k cs len) none) none
def mF(sz bytes:Nat)(s:LS)(x y:D)(k:D→LS→Rs):Rs:=
 oQ sz s y λnew n=>FL x
  (λl off len cm z ex=>jQ s l λb=>cnd (wr b.st) (cnd (Nat.beq z sz) (pi new (frc (Nat.add len n) λtot=>cnd (Nat.ble (Nat.mul tot bytes) 1099511627776) (cnd (Nat.ble tot 1099511627776)
   (cnd (Nat.ble tot cm) (ur (Nat.add off (Nat.mul len sz)) new b.cs λcs=>oN s l ⟨cs,.rw⟩ λs=>k (.sl l off tot cm sz ex) s)
    (iz off b.cs λr=>iy (Nat.mul len sz) r λold=>l7 old new λcs=>
     cnd ex (ku s ⟨cs,.rw⟩ λs'=>k (.sl s.nx 0 tot tot sz false) s') (oN s l ⟨[],.gone⟩ λs'=>ku s' ⟨cs,.rw⟩ λs'=>k (.sl s.nx 0 tot tot sz false) s')))
   none) none)) none) none)
  (λcs len ex=>cnd (Nat.beq n 0) (k (.tree cs len ex) s) (cnd ex (cnd (Nat.beq cs.length (Nat.mul len sz)) (frc (Nat.add len n) λtot=>cnd (Nat.ble (Nat.mul tot bytes) 1099511627776) (cnd (Nat.ble tot 1099511627776)
   (l7 cs new λcs=>ku s ⟨cs,.rw⟩ λs'=>k (.sl s.nx 0 tot tot sz false) s') none) none) none) none)) none
def zA(sz bytes:Nat)(s0:LS)(x y:D)(k:D→LS→Rs):Rs:=
 match x with
 |.sl l off len cm z false=>oQ sz s0 y λnew n=>jQ s0 l λb=>cnd (ow b.st) (cnd (Nat.beq z sz) (pi new (frc (Nat.add len n) λtot=>cnd (Nat.ble (Nat.mul tot bytes) 1099511627776) (cnd (Nat.ble tot 1099511627776)
  (cnd (Nat.beq (Nat.add off (Nat.mul len sz)) b.cs.length) (iz off b.cs λr=>iy (Nat.mul len sz) r λold=>l7 old new λcs=>
   oN s0 l ⟨b.cs,.frz⟩ λs'=>ku s' ⟨cs,.apd⟩ λs'=>k (.sl s0.nx 0 tot tot sz false) s') none) none) none)) none) none
 |x=>mF sz bytes s0 x y λd s=>match d with
  |.sl l off len cm z ex=>cnd (Nat.beq l s0.nx) (jQ s l λb=>cnd (ow b.st) (oN s l ⟨b.cs,.apd⟩ λs=>k (.sl l off len cm z ex) s) none) (k (.sl l off len cm z ex) s)
  |d=>k d s
def VM(sz:Nat)(s:LS)(x y:D)(k:D→LS→Rs):Rs:=
 oQ sz s y λsrc n=>match x with
  |.sl l off len _ z _=>jQ s l λb=>cnd (wr b.st) (cnd (Nat.beq z sz) (pi src (frc (cnd (Nat.ble n len) n len) λm=>iy (Nat.mul m sz) src λsrc=>ur off src b.cs λcs=>oN s l ⟨cs,.rw⟩ λs=>k (.i .i64 (.ofNat m)) s)) none) none
  |_=>none
def Wc(sz:Nat)(zero:List D)(s:LS)(x:D)(k:D→LS→Rs):Rs:=
 match x with
 |.sl l off len _ z _=>jQ s l λb=>cnd (wr b.st) (cnd (Nat.beq zero.length sz) (cnd (Nat.beq z sz) (pi zero (v6 zero len λnew=>ur off new b.cs λcs=>oN s l ⟨cs,.rw⟩ λs=>k .u s)) none) none) none
 |.tree _ 0 _=>k .u s
 |_=>none
def Z9(kk:IntKind)(t:Rs):Rs:=cnd (Nat.beq (ug kk) 7) t none
def Ab(x:D)(k:Nat→Rs):Rs:=onN x (λkk n=>Z9 kk (k n)) none
def nr(x y c:D)(s:LS)(k:D→LS→Rs):Rs:=
 Ab x λa=>Ab y λb=>Ab c λz=>cnd (Nat.ble z 1) (frc (Nat.mod (Nat.add (Nat.add a b) z) 18446744073709551616) λlo=>frc (Nat.div (Nat.add (Nat.add a b) z) 18446744073709551616) λhi=>k (.tup [.i .u64 (.ofNat lo),.i .u64 (.ofNat hi)]) s) none
def sW(x y c:D)(s:LS)(k:D→LS→Rs):Rs:=
 Ab x λa=>Ab y λb=>Ab c λz=>cnd (Nat.ble z 1) (frc (Nat.mod (Nat.sub (Nat.sub (Nat.add a 18446744073709551616) b) z) 18446744073709551616) λlo=>cnd (Nat.blt a (Nat.add b z)) (k (.tup [.i .u64 (.ofNat lo),.i .u64 (.ofNat 1)]) s) (k (.tup [.i .u64 (.ofNat lo),.i .u64 (.ofNat 0)]) s)) none
def cv:X→D
 |.c d=>d
 |.t _=>.u
def sA(r:Option (D×List Blk))(s:LS)(k:D→LS→Rs):Rs:=
 match r with
 |some (d,bs)=>match bs with
  |[]=>zG d λd=>k d s
  |[b]=>Ai b.cs λcs=>ku s ⟨cs,b.st⟩ λs=>zG d λd=>k d s
  |_=>none
 |none=>none
def kS(o:O)(s:LS)(k:D→LS→Rs):Rs:=sA (evA s.nx cv s.get o) s k
section
variable {s:LS} {σ:Sto} {ev:X→D} {k:D→LS→Rs} {r:D}
theorem uQ(h:LSR s σ){o o':O}(he:evA s.nx cv s.get o'=evA s.nx ev s.get o)(hr:kS o' s k=some r):ToO σ ev o k r:=by
 unfold kS sA at hr;rw[he]at hr;split at hr
 ·rename_i d bs hd;split at hr
  ·rw[rj]at hr;exact toA h hd hr
  ·rename_i b;rw[LG,lY,rj]at hr;exact Nm h hd hr
  ·cases hr
 ·cases hr
theorem pg{x:D}{k:Nat→Rs}(h:Ab x k=some r):∃n,x=.i .u64 (.ofNat n)∧k n=some r:=by
 obtain⟨kk,n,h1,h2⟩:=zj h;obtain⟨h3,h4⟩:=fW h2;have hk:kk=.u64:=vP (b:=.u64) h3;rw[hk]at h1;exact⟨n,h1,h4⟩
theorem ND(h:LSR s σ){x y c:X}(hr:nr (ev x) (ev y) (ev c) s k=some r):ToO σ ev (.add64 x y c) k r:=by
 obtain⟨a,h1,q1⟩:=pg hr;obtain⟨b,h2,q2⟩:=pg q1;obtain⟨z,h3,q3⟩:=pg q2;obtain⟨h4,q4⟩:=fW q3;simp only[fA]at q4;have h4:=aa h4;refine toA h ?_ q4;simp only[evA,h1,h2,h3];rw[aC (by simpa using h4)];rfl
theorem Mr(h:LSR s σ){x y c:X}(hr:sW (ev x) (ev y) (ev c) s k=some r):ToO σ ev (.sub64 x y c) k r:=by
 obtain⟨a,h1,q1⟩:=pg hr;obtain⟨b,h2,q2⟩:=pg q1;obtain⟨z,h3,q3⟩:=pg q2;obtain⟨h4,q4⟩:=fW q3;simp only[fA]at q4;have h4:=aa h4;by_cases hlt:a<b+z
 ·rw[show Nat.blt a (Nat.add b z)=true from ep hlt]at q4;refine toA h ?_ q4;simp only[evA,h1,h2,h3];rw[aC (by simpa using h4)];rw[aC (by simpa using hlt)];rfl
 ·rw[show Nat.blt a (Nat.add b z)=false from fC hlt]at q4;refine toA h ?_ q4;simp only[evA,h1,h2,h3];rw[aC (by simpa using h4)];rw[aE (by simpa using hlt)];rfl
theorem QB(h:LSR s σ){c a b:X}(hr:fX (ev c) (ev a) (ev b) s k=some r):ToO σ ev (.pick c a b) k r:=by
 rcases tF hr with⟨h1,h2⟩|⟨h1,h2⟩
 ·exact toA h (by simp only[evA,h1]) h2
 ·exact toA h (by simp only[evA,h1]) h2
theorem Mw(h:LSR s σ){a:X}(hr:eJ s (ev a) k=some r):ToO σ ev (.load1 a) k r:=by
 rcases sR hr with⟨l,off,h1,h2⟩|⟨cs,h1,h2⟩
 ·obtain⟨b,hb,h3⟩:=jS h2;obtain⟨h4,h5⟩:=wK h3;obtain⟨d,h6,h7⟩:=uI h5;exact toA h (by simp only[evA,h1,at_,hb,h4,cI,bj,bz,h6]) h7
 ·obtain⟨d,h6,h7⟩:=uI h2;rw[aj]at h6;exact toA h (by simp only[evA,h1,at_];rw[h6]) h7
theorem Mv(h:LSR s σ){n:Nat}{a:X}(hr:eS n s (ev a) k=some r):ToO σ ev (.loadn n a) k r:=by
 rcases sR hr with⟨l,off,h1,h2⟩|⟨cs,h1,h2⟩
 ·obtain⟨b,hb,h3⟩:=jS h2;obtain⟨h4,h5⟩:=wK h3;rw[gB]at h5;obtain⟨h6,h7⟩:=pH h5;exact toA h (by simp only[evA,h1,at_,hb,h4,cI,bj,bz,h6]) h7
 ·obtain⟨h6,h7⟩:=pH h2;exact toA h (by simp only[evA,h1,at_,h6]) h7
theorem QD(h:LSR s σ){x:X}(hr:uR s (ev x) k=some r):ToO σ ev (.nilc x) k r:=by
 unfold uR at hr;split at hr
 ·rename_i l o hx;obtain⟨b,hb,h3⟩:=jS hr;obtain⟨h4,h5⟩:=wK h3;exact toA h (by simp only[evA,hx,hb,h4,bf]) h5
 ·rename_i cs hx;exact toA h (by simp only[evA,hx]) hr
 ·rename_i f cs hx;exact toA h (by simp only[evA,hx]) hr
 ·cases hr
theorem Mx(h:LSR s σ){neg:Bool}{x:X}(hr:wg neg s (ev x) k=some r):ToO σ ev (.isnil neg x) k r:=by
 rcases rG hr with⟨l,off,len,cm,z,ex,h1,h2⟩|⟨cs,len,ex,h1,h2⟩
 ·obtain⟨b,hb,h3⟩:=jS h2;obtain⟨h4,h5⟩:=wK h3;exact toA h (by simp only[evA,h1,hb,h4,bf]) h5
 ·cases cs with
  |nil=>cases h2
  |cons d ds=>exact toA h (by simp only[evA,h1]) h2
theorem QI(h:LSR s σ){op:BinOp}{x y:X}(hr:wi op (ev x) (ev y) s k=some r):ToO σ ev (.binb op x y) k r:=by
 unfold wi at hr;split at hr
 ·rcases tF hr with⟨h1,h2⟩|⟨h1,h2⟩<;>rcases tF h2 with⟨h3,h4⟩|⟨h3,h4⟩<;>exact toA h (by simp only[evA,h1,h3];rfl) h4
 ·rcases tF hr with⟨h1,h2⟩|⟨h1,h2⟩<;>rcases tF h2 with⟨h3,h4⟩|⟨h3,h4⟩<;>exact toA h (by simp only[evA,h1,h3];rfl) h4
 ·cases hr
theorem Tl(h:LSR s σ){neg:Bool}{ks:List Nat}{x y:X}(hr:Af neg ks (ev x) (ev y) s k=some r):ToO σ ev (.eqs neg ks x y) k r:=by
 unfold Af at hr;rw[gS]at hr;obtain⟨d,hd,h2⟩:=nG hr;refine toA h ?_ h2;simp only[NR]at hd;simp only[evA];split at hd
 ·rename_i a b ha hb;simp only[ha,hb];split at hd
  ·rename_i hl;rw[aC hl];split at hd
   ·rename_i q hq;rw[hq];cases hd;rfl
   ·cases hd
  ·cases hd
 ·cases hd
theorem Tf(h:LSR s σ){x:X}(hr:sX (ev x) s k=some r):ToO σ ev (.not x) k r:=by
 rcases tF hr with⟨h1,h2⟩|⟨h1,h2⟩
 ·exact toA h (by simp only[evA,h1];rfl) h2
 ·exact toA h (by simp only[evA,h1];rfl) h2
theorem Mq(h:LSR s σ){kk:IntKind}{x:X}(hr:lP kk (ev x) s k=some r):ToO σ ev (.toInt kk x) k r:=by
 have slow:uw (E9 kk (ev x)) (λd=>k d s)=some r→ToO σ ev (.toInt kk x) k r:=by
  intro h1;rw[gS]at h1;obtain⟨d,hd,h2⟩:=nG h1;unfold E9 at hd;split at hd
  ·rename_i hx;cases hd;exact toA h (by simp only[evA,hx]) h2
  ·cases hd
 rcases tE hr with⟨k1,n,h1,h2⟩|h1
 ·rcases xu h2 with h3|h3
  ·exact toA h (by simp only[evA,h1]) h3
  ·exact slow h3
 ·exact slow h1
theorem Mz(h:LSR s σ){off:Nat}{x:X}(hr:eW off s (ev x) k=some r):ToO σ ev (.faddr off x) k r:=by
 rcases sR hr with⟨l,o,h1,h2⟩|⟨cs,h1,h2⟩
 ·obtain⟨b,hb,h3⟩:=jS h2;obtain⟨h4,h5⟩:=wK h3;rw[fA]at h5;exact toA h (by simp only[evA,h1,hb,h4,bf];rfl) h5
 ·rw[gB]at h2;exact toA h (by simp only[evA,h1]) h2
theorem JR(h:LSR s σ){off:Nat}{x:X}(hr:Ku off (ev x) s k=some r):ToO σ ev (.field1 off x) k r:=by
 obtain⟨cs,h1,h2⟩:=xq hr;obtain⟨d,h6,h7⟩:=uI h2;exact toA h (by simp only[evA,h1,h6]) h7
theorem JQ(h:LSR s σ){off n:Nat}{x:X}(hr:Kt off n (ev x) s k=some r):ToO σ ev (.fieldn off n x) k r:=by
 obtain⟨cs,h1,h2⟩:=xq hr;rw[gB]at h2;obtain⟨h6,h7⟩:=pH h2;rw[wl]at h6;exact toA h (by simp only[evA,h1,h6]) h7
theorem My(h:LSR s σ){sz:Nat}{x i:X}(hr:eK sz s (ev x) (ev i) k=some r):ToO σ ev (.iaddr sz x i) k r:=by
 obtain⟨kk,n,h0,hr⟩:=zj hr;rcases rG hr with⟨l,off,len,cm,z,ex,h1,h2⟩|⟨cs,len,ex,h1,h2⟩
 ·obtain⟨b,hb,h3⟩:=jS h2;obtain⟨h4,h5⟩:=wK h3;obtain⟨h6,h7⟩:=fW h5;obtain⟨h8,h9⟩:=fW h7;rw[fA]at h9;have h6:n<len:=by simpa[dy]using h6
  have h8:z=sz:=aT h8;refine toA h ?_ h9;simp only[evA,h0,h1,hb];rw[aC (by simp[h4,h6,h8])];rfl
 ·obtain⟨h6,h7⟩:=fW h2;have h6:n<len:=by simpa[dy]using h6
  rw[gB]at h7;cases hd:cs.drop (Nat.mul n sz)with
  |nil=>rw[hd]at h7;cases h7
  |cons d ds=>
   rw[hd]at h7;refine toA h ?_ h7;simp only[evA,h0,h1];rw[aC (by simp[h6])];have:(Int.ofNat n).toNat*sz=Nat.mul n sz:=rfl;rw[this,hd]
theorem Tk(h:LSR s σ){x:X}{i:Nat}(hr:gD (ev x) i s k=some r):ToO σ ev (.ext x i) k r:=by
 obtain⟨vs,hx,h2⟩:=Ix hr;obtain⟨d,h6,h7⟩:=uI h2;exact toA h (by simp only[evA,hx,h6]) h7
theorem Ti(h:LSR s σ){x:X}(hr:ek (ev x) s k=some r):ToO σ ev (.len x) k r:=by
 rcases rG hr with⟨l,off,len,cm,z,ex,h1,h2⟩|⟨cs,len,ex,h1,h2⟩
 ·exact toA h (by simp only[evA,h1,lenOf];rfl) h2
 ·exact toA h (by simp only[evA,h1,lenOf];rfl) h2
theorem uH{x:Option X}{dflt:Nat}{k:Nat→Rs}(hr:Iw (x.map ev) dflt k=some r):∃n,rQ ev x dflt=some n∧k n=some r:=by
 cases x with
 |none=>exact⟨dflt,rfl,hr⟩
 |some x=>
  obtain⟨kk,n,h1,h2⟩:=zj (show onN (ev x) (λ_ n=>k n) none=some r from hr);refine⟨n,?_,h2⟩;simp only[rQ,h1];rw[aC (by simp)];rfl
theorem Du(x:Option X):PU (x.map ev)=x.isSome:=by cases x<;>rfl
theorem Mt(h:LSR s σ){sz:Nat}{x:X}{lo hi mx:Option X}(hr:kg sz s (ev x) (lo.map ev) (hi.map ev) (mx.map ev) k=some r):ToO σ ev (.slice sz x lo hi mx) k r:=by
 rcases rG hr with⟨l,off,len,cm,z,ex,h1,h2⟩|⟨cs,len,ex,h1,h2⟩
 ·obtain⟨m,hm,h2⟩:=uH h2;obtain⟨hh,hhi,h2⟩:=uH h2;obtain⟨lw,hlo,h2⟩:=uH h2;obtain⟨b,hb,h2⟩:=jS h2;obtain⟨c1,h2⟩:=wK h2;obtain⟨c2,h2⟩:=fW h2;obtain⟨c3,h2⟩:=fW h2;obtain⟨c4,h2⟩:=fW h2;obtain⟨c5,h2⟩:=fW h2;have c2:=aa c2;have c3:=aa c3;have c4:=aa c4;have c5:=aT c5;rw[jC,Du]at h2;have hex:(cnd mx.isSome true ex)=(mx.isSome||ex):=by cases mx.isSome<;>rfl
  rw[hex]at h2;simp only[fA]at h2;by_cases hlt:lw<m
  ·rw[ep hlt,eL]at h2;refine toA h ?_ h2;simp only[evA,h1,hm,hhi,hlo,hb];rw[aC (by simp[c1,c2,c3,c4,c5]),aC hlt];rfl
  ·rw[fC hlt,e9]at h2;refine toA h ?_ h2;simp only[evA,h1,hm,hhi,hlo,hb];rw[aC (by simp[c1,c2,c3,c4,c5]),aE hlt]
 ·obtain⟨m,hm,h2⟩:=uH h2;obtain⟨hh,hhi,h2⟩:=uH h2;obtain⟨lw,hlo,h2⟩:=uH h2;obtain⟨c2,h2⟩:=fW h2;obtain⟨c3,h2⟩:=fW h2;obtain⟨c4,h2⟩:=fW h2;obtain⟨c5,h2⟩:=fW h2;have c2:=aa c2;have c3:=aa c3;have c4:=aa c4;have c5:=aT c5;rw[gB,fA]at h2;rw[i9]at h2;split at h2
  ·rw[jC,Du]at h2;refine toA h ?_ h2;simp only[evA,h1,hm,hhi,hlo];rw[aC (by simp only[c2,c3,c4,decide_true,dI,z1n,decide_eq_true_eq];exact c5)];simp only[aA,aJ,and_true,D.tree.injEq];refine⟨rfl,rfl,?_⟩;have e1:(m==hh)=Nat.beq m hh:=by rw[di,beq_iff_eq,Nat.beq_eq]
   have e2:(hh==len)=Nat.beq hh len:=by rw[di,beq_iff_eq,Nat.beq_eq]
   rw[e1,e2];cases mx.isSome<;>cases ex<;>cases Nat.beq m hh<;>cases Nat.beq hh len<;>rfl
  ·cases h2
theorem NC(h:LSR s σ){zero:List D}(hr:fq zero s k=some r):ToO σ ev (.alloc zero) k r:=by
 unfold fq at hr;rw[lY]at hr;exact Nm h (by simp only[evA]) hr
theorem Ts(h:LSR s σ){x:X}(hr:ic (ev x) s k=some r):ToO σ ev (.box x) k r:=by
 unfold ic at hr;rw[v7]at hr;obtain⟨h1,h2⟩:=rN hr;rw[lY]at h2;exact Nm h (by simp only[evA,h1,bf]) h2
theorem yM{kk:List D→Rs}:∀{parts:List (Nat×Nat×X)}{cs:List D},Hj (parts.map λp=>(p.1,p.2.1,ev p.2.2)) cs kk=some r→∃cs',fill ev parts cs=some cs'∧kk cs'=some r
 |[],cs,hr=>⟨cs,rfl,hr⟩
 |(off,sz,x)::ps,cs,hr=>by
  have hr:(vcK (ev x) λnew=>cnd (Nat.beq new.length sz) (pi new (ur off new cs λcs=>Hj (ps.map λp=>(p.1,p.2.1,ev p.2.2)) cs kk)) none)=some r:=hr;rw[v7]at hr;obtain⟨h1,h2⟩:=fW hr;obtain⟨h3,h4⟩:=rN h2;rw[od,sh]at h4;obtain⟨cs1,h5,h6⟩:=nG h4;obtain⟨cs',h7,h8⟩:=yM h6;refine⟨cs',?_,h8⟩;have h1:=aT h1;simp only[fill];rw[aC (by simp only[h1,h3,decide_true,dI]),h5];exact h7
theorem NA(h:LSR s σ){zero:List D}{parts:List (Nat×Nat×X)}(hr:kN zero (parts.map λp=>(p.1,p.2.1,ev p.2.2)) s k=some r):ToO σ ev (.build zero parts) k r:=by
 obtain⟨cs,h1,h2⟩:=yM hr;exact toA h (by simp only[evA,h1]) h2
theorem rE(zero:List D):∀(n:Nat)(k:List D→Rs),v6 zero n k=k (oG n zero)
 |0,k=>rfl
 |n+1,k=>by
  show v6 zero n (λr=>l7 zero r k)=_;rw[rE zero n,gT];rfl
theorem Tq(h:LSR s σ){len:Nat}{zero:List D}{parts:List (Nat×Nat×X)}(hr:jY len zero (parts.map λp=>(p.1,p.2.1,ev p.2.2)) s k=some r):ToO σ ev (.bsl len zero parts) k r:=by
 unfold jY at hr;rw[rE]at hr;obtain⟨cs,h1,h2⟩:=yM hr;rw[fA,lY]at h2;exact Nm h (by simp only[evA,h1]) h2
theorem Ma{x y:D}{k:IntKind→Nat→Nat→Rs}(h:on2 x y k none=some r):∃kk a b,x=.i kk (.ofNat a)∧y=.i kk (.ofNat b)∧k kk a b=some r:=by
 rcases nF h with h|h
 ·exact h
 ·cases h
theorem QF(h:LSR s σ){sz bytes:Nat}{zero:List D}{l c:X}(hr:mK sz bytes zero s (ev l) (ev c) k=some r):ToO σ ev (.mksl sz bytes zero l c) k r:=by
 obtain⟨kk,a,b,h1,h2,q0⟩:=Ma hr;obtain⟨c0,q1⟩:=fW q0;obtain⟨c1,q2⟩:=fW q1;obtain⟨c2,q3⟩:=fW q2;obtain⟨c3,q4⟩:=fW q3;obtain⟨c4,q5⟩:=fW q4;have hk:kk=.i64:=vP (b:=.i64) c0;rw[hk]at h1 h2;have c1:=aa c1;have c2:=aa c2;have c3:b*bytes≤140737488355328:=aa c3;have c4:=aT c4;rw[rE,lY]at q5;refine Nm h ?_ q5;simp only[evA,h1,h2];rw[aC]
 ·rfl
 ·have e1:(Int.ofNat a)=(a:Int):=rfl;have e2:(Int.ofNat b)=(b:Int):=rfl;rw[e1,e2];have c3':(b:Int)*(bytes:Int)≤140737488355328:=by
   have:=Int.ofNat_le.2 c3;rw[z15]at this;exact this
  simp only[ae,decide_eq_true_eq];omega
theorem Ms(h:LSR s σ){n:Nat}{a x:X}(hr:eU n s (ev a) (ev x) k=some r):ToO σ ev (.store n a x) k r:=by
 rcases sR hr with⟨l,off,h1,h2⟩|⟨cs,h1,h2⟩
 ·obtain⟨b,hb,h3⟩:=jS h2;obtain⟨h4,h5⟩:=Kb h3;rw[v7]at h5;obtain⟨h6,h7⟩:=fW h5;obtain⟨h8,h9⟩:=rN h7;rw[od,sh]at h9;obtain⟨cs,h10,h11⟩:=nG h9;rw[ui h hb]at h11;have h6:=aT h6;refine toW rfl ?_ (h.put hb _) h11;simp only[evW,h1,h.get,hb];rw[aC (by simp only[h4,h6,h8,decide_true,dI]),h10]
 ·cases h2
theorem wm{sz:Nat}{x:D}{kk:List D→Nat→Rs}(hr:oQ sz s x kk=some r):∃cs n,cellsOf s.get sz x=some cs∧lenOf x=some n∧kk cs n=some r:=by
 rcases rG hr with⟨l,off,len,cm,z,ex,rfl,h2⟩|⟨cs,len,ex,rfl,h2⟩
 ·obtain⟨b,hb,h3⟩:=jS h2;obtain⟨h4,h5⟩:=wK h3;obtain⟨h6,h7⟩:=fW h5;rw[gB]at h7;obtain⟨h8,h9⟩:=pH h7;rw[wl]at h8;have h6:=aT h6;refine⟨_,len,?_,rfl,h9⟩;simp only[cellsOf,hb,h4,cI,bj,bz,h6,bf];exact h8
 ·obtain⟨h6,h7⟩:=fW h2;have h6:cs.length=len*sz:=aT h6;refine⟨cs,len,?_,rfl,h7⟩;simp only[cellsOf];rw[aC h6]
theorem Kv(h:LSR s σ){sz bytes:Nat}{x y:X}(hr:mF sz bytes s (ev x) (ev y) k=some r):ToO σ ev (.app sz bytes x y) k r:=by
 obtain⟨new,n,hc,hl,hr⟩:=wm hr;rcases rG hr with⟨l,off,len,cm,z,ex,h1,h2⟩|⟨cs,len,ex,h1,h2⟩
 ·obtain⟨b,hb,h2⟩:=jS h2;obtain⟨c1,h2⟩:=Kb h2;obtain⟨c2,h2⟩:=fW h2;obtain⟨c3,h2⟩:=rN h2;rw[fA]at h2;obtain⟨c4,h2⟩:=fW h2;obtain⟨c5,h2⟩:=fW h2;have c2:=aT c2;have c4:(len+n)*bytes≤1099511627776:=aa c4;have c5:len+n≤1099511627776:=aa c5;have cc:(b.st.wr&&decide (z=sz)&&new.all one&&decide ((len+n)*bytes≤1099511627776)&&decide (len+n≤1099511627776))=true:=by simp only[c1,c2,c3,c4,c5,decide_true,dI]
  by_cases hcm:len+n≤cm
  ·have:Nat.ble (Nat.add len n) cm=true:=aF hcm;rw[this,eL,od,sh]at h2;obtain⟨cs,h3,h4⟩:=nG h2;rw[ui h hb]at h4;refine toW rfl ?_ (h.put hb _) h4;simp only[evW,sJ,h.get,hc,hl,h1,hb];rw[aC cc,aC hcm];have h3:lay (off+len*sz) new b.cs=some cs:=h3;rw[h3];rfl
  ·have:Nat.ble (Nat.add len n) cm=false:=kY hcm;rw[this,e9,gB]at h2;obtain⟨h3,h4⟩:=pH h2;rw[wl]at h3;have h3:cut off (len*sz) b.cs=some _:=h3;rw[gT]at h4;cases ex with
   |true=>
    simp only[eL,lY]at h4;refine toW rfl ?_ (h.push _) h4;simp only[evW,sJ,h.get,hc,hl,h1,hb];rw[aC cc,aE hcm,h3,h.nx];rfl
   |false=>
    simp only[e9]at h4;rw[ui h hb,lY]at h4;refine toW rfl ?_ ((h.put hb ⟨[],.gone⟩).push _) h4;simp only[evW,sJ,h.get,hc,hl,h1,hb];rw[aC cc,aE hcm,h3,h.nx];rfl
 ·cases hn:Nat.beq n 0 with
  |true=>
   have hn:=aT hn;subst hn;have h2:k (.tree cs len ex) s=some r:=h2;refine toW (s':=s) (σ':=σ) rfl ?_ h h2;simp only[evW,sJ,h.get,hc,hl,h1,bf]
  |false=>
   rw[hn,e9]at h2;obtain⟨c1,h2⟩:=fW h2;obtain⟨c2,h2⟩:=fW h2;rw[fA]at h2;obtain⟨c4,h2⟩:=fW h2;obtain⟨c5,h2⟩:=fW h2;have c2:cs.length=len*sz:=aT c2;have c4:(len+n)*bytes≤1099511627776:=aa c4;have c5:len+n≤1099511627776:=aa c5;have hn0:n≠0:=by intro e;subst e;simp at hn
   rw[gT,lY]at h2;refine toW rfl ?_ (h.push _) h2;simp only[evW,sJ,h.get,hc,hl,h1];rw[aE hn0,aC (by simp only[c1,c2,c4,c5,decide_true,dI]),h.nx];rfl
theorem Fx{sz bytes:Nat}{x y:X}(hne:∀(l off len cm z:Nat),ev x=.sl l off len cm z false→False):evW ev σ (.appk sz bytes x y)=match sJ ev σ sz bytes x y with
 |some (.sl l off len cm z ex,σ')=>if Nat.beq l σ.nx then match σ'.get l with
  |some b=>if b.st.own then some (.sl l off len cm z ex,σ'.put l ⟨b.cs,.apd⟩)else none
  |none=>none
  else some (.sl l off len cm z ex,σ')
 |r=>r:=by
 simp only[evW];cases hx:ev x with
 |sl l off len cm z ex=>cases ex with
  |false=>exact(hne _ _ _ _ _ hx).elim
  |true=>rfl
 |_=>rfl
theorem QK(h:LSR s σ){sz bytes:Nat}{x y:X}(hr:zA sz bytes s (ev x) (ev y) k=some r):ToO σ ev (.appk sz bytes x y) k r:=by
 unfold zA at hr;split at hr
 ·rename_i l off len cm z h1;obtain⟨new,n,hc,hl,h2⟩:=wm hr;obtain⟨b,hb,h2⟩:=jS h2;obtain⟨c1,h2⟩:=VG h2;obtain⟨c2,h2⟩:=fW h2;obtain⟨c3,h2⟩:=rN h2;rw[fA]at h2;obtain⟨c4,h2⟩:=fW h2;obtain⟨c5,h2⟩:=fW h2;obtain⟨c6,h2⟩:=fW h2;have c2:=aT c2;have c4:(len+n)*bytes≤1099511627776:=aa c4;have c5:len+n≤1099511627776:=aa c5;have c6:off+len*sz=b.cs.length:=aT c6;rw[gB]at h2;obtain⟨h3,h4⟩:=pH h2;rw[wl]at h3;have h3:cut off (len*sz) b.cs=some _:=h3;rw[gT,ui h hb,lY]at h4;refine toW rfl ?_ ((h.put hb ⟨b.cs,.frz⟩).push _) h4;simp only[evW,h.get,hc,hl,h1,hb];rw[aC (by simp only[c1,c2,c3,c4,c5,c6,decide_true,dI]),h3,h.nx];rfl
 ·rename_i hne;obtain⟨d,s',σ',h1,h2,h3⟩:=Kv h hr;rcases h1 with⟨bs,h1,_⟩|⟨_,h1⟩
  ·cases h1
  ·simp only[evW]at h1;simp only at h3;split at h3
   ·rename_i l off len cm z ex;rcases Cc h3 with⟨hq,h3⟩|⟨hq,h3⟩
    ·obtain⟨b,hb,h3⟩:=jS h3;obtain⟨c1,h3⟩:=VG h3;rw[ui h2 hb]at h3;refine toW rfl ?_ (h2.put hb ⟨b.cs,.apd⟩) h3;have hb':σ'.get l=some b:=by rw[h2.get];exact hb
     rw[Fx hne,h1];simp only[h.nx,hq,hb',c1,bf]
    ·refine toW rfl ?_ h2 h3;rw[Fx hne,h1];simp only[h.nx,hq,bj,bz]
   ·rename_i hd;refine toW rfl ?_ h2 h3;rw[Fx hne,h1];split
    ·rename_i l off len cm z ex σ2 he;simp only[aA,aJ]at he;exact absurd he.1 (hd l off len cm z ex)
    ·rfl
theorem QH(h:LSR s σ){sz:Nat}{x y:X}(hr:VM sz s (ev x) (ev y) k=some r):ToO σ ev (.copy sz x y) k r:=by
 obtain⟨src,n,hc,hl,hr⟩:=wm hr;split at hr
 ·rename_i l off len cm z ex hx;obtain⟨b,hb,h2⟩:=jS hr;obtain⟨c1,h2⟩:=Kb h2;obtain⟨c2,h2⟩:=fW h2;obtain⟨c3,h2⟩:=rN h2;have c2:=aT c2;have hm:(cnd (Nat.ble n len) n len)=Nat.min n len:=by
   by_cases hle:n≤len
   ·rw[aF hle];show n=min n len;omega
   ·rw[kY hle];show len=min n len;omega
  rw[fA,hm]at h2;obtain⟨h3,h4⟩:=pH h2;rw[od,sh]at h4;obtain⟨cs,h5,h6⟩:=nG h4;rw[ui h hb]at h6;refine toW rfl ?_ (h.put hb _) h6;simp only[evW,hx,hl,h.get,hb,hc];rw[aC (by simp only[c1,c2,c3,decide_true,dI])];have h5:lay off (src.take (Nat.min n len*sz)) b.cs=some cs:=h5;rw[h5];rfl
 ·cases hr
theorem Tp(h:LSR s σ){sz:Nat}{zero:List D}{x:X}(hr:Wc sz zero s (ev x) k=some r):ToO σ ev (.clr sz zero x) k r:=by
 unfold Wc at hr;split at hr
 ·rename_i l off len cm z ex hx;obtain⟨b,hb,h2⟩:=jS hr;obtain⟨c1,h2⟩:=Kb h2;obtain⟨c2,h2⟩:=fW h2;obtain⟨c3,h2⟩:=fW h2;obtain⟨c4,h2⟩:=rN h2;have c2:=aT c2;have c3:=aT c3;rw[rE,od,sh]at h2;obtain⟨cs,h5,h6⟩:=nG h2;rw[ui h hb]at h6;refine toW rfl ?_ (h.put hb _) h6;simp only[evW,hx,h.get,hb];rw[aC (by simp only[c1,c2,c3,c4,decide_true,dI]),h5]
 ·rename_i cs ex hx;refine toW (s':=s) (σ':=σ) rfl ?_ h hr;simp only[evW,hx]
 ·cases hr
end
inductive FT where
 |iso (M:List D→Option D)
 |mem (M2:List D→LS→(D→LS→Rs)→Rs)
abbrev pG:=Nat→Option FT
def nI(f:D→(D→List Nat→Rs)→Rs)(l:List D)(kk:List D→List Nat→Rs):Rs:=
 List.rec (motive:=λ_=>(List D→List Nat→Rs)→Rs) (λkk=>kk [] []) (λx _ ih kk=>f x λy a=>ih λys b=>l7 a b λab=>kk (y::ys) ab) l kk
inductive CR|bad|leaf|sl (l off len cm z:Nat) (ex:Bool)|ptr (l off:Nat)|agg (cs:List D)|tup (cs:List D)|fn (f:Nat) (cs:List D)
def asR(d:D):CR:=D.rec (motive_1:=λ_=>CR) (motive_2:=λ_=>PUnit.{1}) .bad (λ_ _=>.leaf) (λ_=>.leaf) (λ_=>.leaf) (λ_=>.leaf) .leaf .leaf (λ_ _ _ _=>.leaf) (λ_ _ _ _=>.bad) (λl off len cm z ex=>.sl l off len cm z ex) (λl off=>.ptr l off) (λ_ _=>.leaf) (λcs _=>.agg cs) (λcs _=>.tup cs) (λf cs _=>.fn f cs) ⟨⟩ (λ_ _ _ _=>⟨⟩) d
def Xp(s:LS)(ih:D→(D→List Nat→Rs)→Rs)(d:D)(kk:D→List Nat→Rs):Rs:=
 CR.rec (motive:=λ_=>Rs) none (kk d [])
  (λl off len cm z ex=>jQ s l λb=>cnd (lv b.st) (iz off b.cs λr=>iy (Nat.mul len z) r λr=>nI ih r λcs ls=>mw (cnd ex (Nat.beq cm len) false) λex=>kk (.tree cs len ex) (l::ls)) none)
  (λl off=>jQ s l λb=>cnd (lv b.st) (iz off b.cs λr=>nI ih r λcs ls=>kk (.fp cs) (l::ls)) none)
  (λcs=>nI ih cs λcs ls=>kk (.agg cs) ls) (λcs=>nI ih cs λcs ls=>kk (.tup cs) ls) (λf cs=>nI ih cs λcs ls=>kk (.fn f cs) ls) (asR d)
def kJ(s:LS)(n:Nat):D→(D→List Nat→Rs)→Rs:=Nat.rec (λ_ _=>none) (λ_ ih=>Xp s ih) n
def vR(ls:List Nat):LS→(LS→Rs)→Rs:=
 List.rec (motive:=λ_=>LS→(LS→Rs)→Rs) (λs k=>k s) (λl _ ih s k=>jQ s l λb=>oN s l ⟨b.cs,fzS b.st⟩ λs=>ih s k) ls
def isF(d:D):Bool:=D.rec (motive_1:=λ_=>Bool) (motive_2:=λ_=>PUnit.{1}) false (λ_ _=>true) (λ_=>true) (λ_=>true) (λ_=>true) true true (λ_ _ _ _=>false) (λ_ _ _ _=>false) (λ_ _ _ _ _ _=>false) (λ_ _=>false) (λ_ _=>false) (λ_ _=>false) (λ_ _=>false) (λ_ _ _=>false) ⟨⟩ (λ_ _ _ _=>⟨⟩) d
def fl1(d:D)(t f:Rs):Rs:=cnd (isF d) t f
def UH(cs:List D)(t f:Rs):Rs:=List.rec (motive:=λ_=>Rs) t (λd _ ih=>fl1 d ih f) cs
inductive CF|leaf|agg (cs:List D)|tup (cs:List D)|no
def asF(d:D):CF:=D.rec (motive_1:=λ_=>CF) (motive_2:=λ_=>PUnit.{1}) .no (λ_ _=>.leaf) (λ_=>.leaf) (λ_=>.leaf) (λ_=>.leaf) .leaf .leaf (λ_ _ _ _=>.no) (λ_ _ _ _=>.no) (λ_ _ _ _ _ _=>.no) (λ_ _=>.no) (λ_ _=>.no) (λcs _=>.agg cs) (λcs _=>.tup cs) (λ_ _ _=>.no) ⟨⟩ (λ_ _ _ _=>⟨⟩) d
def fl2(d:D)(t f:Rs):Rs:=CF.rec (motive:=λ_=>Rs) t (λcs=>UH cs t f) (λ_=>f) f (asF d)
def Ww(cs:List D)(t f:Rs):Rs:=List.rec (motive:=λ_=>Rs) t (λd _ ih=>fl2 d ih f) cs
def fl(d:D)(t f:Rs):Rs:=CF.rec (motive:=λ_=>Rs) t (λcs=>UH cs t f) (λcs=>Ww cs t f) f (asF d)
def DP(s:LS)(r:D)(k:D→LS→Rs):Rs:=
 match r with
 |.own cs len z=>ku s ⟨cs,.rw⟩ λs'=>k (.sl s.nx 0 len len z false) s'
 |.tup (.own cs len z::ds)=>ku s ⟨cs,.rw⟩ λs'=>k (.tup (.sl s.nx 0 len len z false::ds)) s'
 |d=>k d s
def ju(s:LS)(ls:List Nat)(r:D)(k:D→LS→Rs):Rs:=fl r (k r s) (vR ls s λs=>DP s r k)
def eR(M:List D→Option D)(as:List D)(s:LS)(k:D→LS→Rs):Rs:=nI (kJ s fv) as λas' ls=>ob (M as') λr=>ju s ls r k
def s0:LS:=⟨.nil,0⟩
def eX(own:Bool)(s:LS)(d:D)(k:D→Rs):Rs:=fl d (k d) (uw (nu own s.get fv d) k)
def zU(M2:List D→LS→(D→LS→Rs)→Rs)(as:List D):Option D:=M2 as s0 λd s=>eX true s d some
def Hx(p:Bool)(o:Option FT)(as:List D)(s:LS)(k:D→LS→Rs):Rs:=
 Option.rec (motive:=λ_=>Rs) none (λft=>FT.rec (motive:=λ_=>Rs) (λM=>eR M as s k) (λM2=>cnd p (eR (zU M2) as s k) (M2 as s k)) ft) o
inductive CN|fn (f:Nat) (cs:List D)|no
def asN(d:D):CN:=D.rec (motive_1:=λ_=>CN) (motive_2:=λ_=>PUnit.{1}) .no (λ_ _=>.no) (λ_=>.no) (λ_=>.no) (λ_=>.no) .no .no (λ_ _ _ _=>.no) (λ_ _ _ _=>.no) (λ_ _ _ _ _ _=>.no) (λ_ _=>.no) (λ_ _=>.no) (λ_ _=>.no) (λ_ _=>.no) (λf cs _=>.fn f cs) ⟨⟩ (λ_ _ _ _=>⟨⟩) d
def uD(TD:pG)(p:Bool)(f:D)(as:List D)(s:LS)(k:D→LS→Rs):Rs:=
 CN.rec (motive:=λ_=>Rs) (λn caps=>l7 as caps λas=>Hx p (TD n) as s k) none (asN f)
def sup(ε:iF)(t:Nat)(d:D):iF:=λn=>cnd (Nat.beq n t) (some d) (ε n)
def noS:iF:=λ_=>none
def xw(n:Nat)(l:List Nat):Bool:=List.rec (motive:=λ_=>Bool) false (λm _ ih=>cnd (Nat.beq n m) true ih) l
def wJ(ls:List Nat)(ε:iF):iF:=λn=>cnd (xw n ls) (ε n) none
def Gm(ε:iF)(dst:Option Nat)(d:D):iF:=
 match dst with
 |some t=>sup ε t d
 |none=>ε
def Cur:Nat→Type
 |0=>LS→Rs
 |n+1=>D→Cur n
def Jn:(n:Nat)→Cur n
 |0=>λ_=>none
 |n+1=>λ_=>Jn n
def Mo:(ls:List Nat)→(iF→LS→Rs)→iF→Cur ls.length
 |[],F,ε=>F ε
 |t::ls,F,ε=>λd=>Mo ls F (sup ε t d)
def zS:(ls:List Nat)→Cur ls.length→iF→LS→Rs
 |[],c,_=>c
 |t::ls,c,ε=>match ε t with
  |some d=>zS ls (c d) ε
  |none=>λ_=>none
def lp{α:Type}(bot:α)(f:α→α)(n:Nat):α:=Nat.rec bot (λ_ ih=>f ih) n
def jn{α:Type}(B:α)(A:α→Rs):Rs:=A B
structure KS where
 r:iF→LS→(D→LS→Rs)→Rs
def kOS(o:O):KS:=
 match o with
 |.bad=>⟨λ_ _ _=>none⟩
 |.mv x=>⟨λε s k=>k (xv ε x) s⟩
 |.pick c a b=>⟨λε s k=>fX (xv ε c) (xv ε a) (xv ε b) s k⟩
 |.alloc z=>⟨λ_ s k=>fq z s k⟩
 |.box x=>⟨λε s k=>ic (xv ε x) s k⟩
 |.build z l=>⟨λε s k=>kN z (l.map λp=>(p.1,p.2.1,xv ε p.2.2)) s k⟩
 |.bsl n z l=>⟨λε s k=>jY n z (l.map λp=>(p.1,p.2.1,xv ε p.2.2)) s k⟩
 |.load1 a=>⟨λε s k=>eJ s (xv ε a) k⟩
 |.loadn n a=>⟨λε s k=>eS n s (xv ε a) k⟩
 |.store n a x=>⟨λε s k=>eU n s (xv ε a) (xv ε x) k⟩
 |.nilc x=>⟨λε s k=>uR s (xv ε x) k⟩
 |.isnil neg x=>⟨λε s k=>wg neg s (xv ε x) k⟩
 |.bin op x y=>⟨λε s k=>Y4 op (xv ε x) (xv ε y) λd=>k d s⟩
 |.binb op x y=>⟨λε s k=>wi op (xv ε x) (xv ε y) s k⟩
 |.eqs neg ks x y=>⟨λε s k=>Af neg ks (xv ε x) (xv ε y) s k⟩
 |.neg x=>⟨λε s k=>kS (.neg (.c (xv ε x))) s k⟩
 |.not x=>⟨λε s k=>sX (xv ε x) s k⟩
 |.toInt kk x=>⟨λε s k=>lP kk (xv ε x) s k⟩
 |.sid x=>⟨λε s k=>kS (.sid (.c (xv ε x))) s k⟩
 |.b2s x=>⟨λε s k=>kS (.b2s (.c (xv ε x))) s k⟩
 |.s2b x=>⟨λε s k=>kS (.s2b (.c (xv ε x))) s k⟩
 |.mkfn f caps=>⟨λε s k=>k (.fn f (caps.map (xv ε))) s⟩
 |.mksl sz by' z l c=>⟨λε s k=>mK sz by' z s (xv ε l) (xv ε c) k⟩
 |.slice sz x a b c=>⟨λε s k=>kg sz s (xv ε x) (a.map (xv ε)) (b.map (xv ε)) (c.map (xv ε)) k⟩
 |.slstr x a b=>⟨λε s k=>kS (.slstr (.c (xv ε x)) (a.map λx=>.c (xv ε x)) (b.map λx=>.c (xv ε x))) s k⟩
 |.faddr off x=>⟨λε s k=>eW off s (xv ε x) k⟩
 |.field1 off x=>⟨λε s k=>Ku off (xv ε x) s k⟩
 |.fieldn off n x=>⟨λε s k=>Kt off n (xv ε x) s k⟩
 |.iaddr sz x i=>⟨λε s k=>eK sz s (xv ε x) (xv ε i) k⟩
 |.index x i=>⟨λε s k=>kS (.index (.c (xv ε x)) (.c (xv ε i))) s k⟩
 |.ext x i=>⟨λε s k=>gD (xv ε x) i s k⟩
 |.len x=>⟨λε s k=>ek (xv ε x) s k⟩
 |.lens x=>⟨λε s k=>kS (.lens (.c (xv ε x))) s k⟩
 |.max x y=>⟨λε s k=>kS (.max (.c (xv ε x)) (.c (xv ε y))) s k⟩
 |.min x y=>⟨λε s k=>kS (.min (.c (xv ε x)) (.c (xv ε y))) s k⟩
 |.add64 x y c=>⟨λε s k=>nr (xv ε x) (xv ε y) (xv ε c) s k⟩
 |.sub64 x y c=>⟨λε s k=>sW (xv ε x) (xv ε y) (xv ε c) s k⟩
 |.call _ _ _=>⟨λ_ _ _=>none⟩
 |.app sz by' x y=>⟨λε s k=>mF sz by' s (xv ε x) (xv ε y) k⟩
 |.pld1 x=>⟨λε s k=>kS (.pld1 (.c (xv ε x))) s k⟩
 |.pldn n x=>⟨λε s k=>kS (.pldn n (.c (xv ε x))) s k⟩
 |.psl sz x a b c=>⟨λε s k=>kS (.psl sz (.c (xv ε x)) (a.map λx=>.c (xv ε x)) (b.map λx=>.c (xv ε x)) (c.map λx=>.c (xv ε x))) s k⟩
 |.pia sz x i=>⟨λε s k=>kS (.pia sz (.c (xv ε x)) (.c (xv ε i))) s k⟩
 |.pbs n z l=>⟨λε s k=>kS (.pbs n z (l.map λp=>(p.1,p.2.1,.c (xv ε p.2.2)))) s k⟩
 |.appk sz by' x y=>⟨λε s k=>zA sz by' s (xv ε x) (xv ε y) k⟩
 |.copy sz x y=>⟨λε s k=>VM sz s (xv ε x) (xv ε y) k⟩
 |.clr sz z x=>⟨λε s k=>Wc sz z s (xv ε x) k⟩
 |.apart a x=>⟨λε s k=>kS (.apart (.c (xv ε a)) (.c (xv ε x))) s k⟩
def kO(o:O)(ε:iF)(s:LS)(k:D→LS→Rs):Rs:=(kOS o).r ε s k
structure PS where
 r:pG→pG→iF→LS→(D→LS→Rs)→Rs
def kPS(o:O):PS:=
 match o with
 |.call p f as=>match f with
  |.c d=>match d with
   |.fn n caps=>⟨λT _ ε s k=>Hx p (T n) (as.map (xv ε)++caps) s k⟩
   |_=>⟨λ_ _ _ _ _=>none⟩
  |.t t=>⟨λ_ TD ε s k=>uD TD p (xv ε (.t t)) (as.map (xv ε)) s k⟩
 |o=>⟨λ_ _ ε s k=>kO o ε s k⟩
def kOp(T TD:pG)(o:O)(ε:iF)(s:LS)(k:D→LS→Rs):Rs:=(kPS o).r T TD ε s k
def eI(g:D)(want:Bool)(op:(D→LS→Rs)→Rs)(s:LS)(k:D→LS→Rs):Rs:=
 match g with
 |.b p=>cnd p (cnd want (op k) (k (.tup []) s)) (cnd want (k (.tup []) s) (op k))
 |.tup _=>k (.tup []) s
 |_=>none
def Aj(T TD:pG):List Ins→(iF→LS→Rs)→iF→LS→Rs
 |[],K,ε,s=>K ε s
 |i::l,K,ε,s=>match i.gd with
  |none=>kOp T TD i.op ε s λd s=>Aj T TD l K (Gm ε i.dst d) s
  |some (t,want)=>match ε t with
   |some g=>eI g want (λk=>kOp T TD i.op ε s k) s λd s=>Aj T TD l K (Gm ε i.dst d) s
   |none=>none
structure KN where
 n:iF→LS→Rs
 ex:Nat→iF→LS→Rs
 ret:iF→LS→Rs
def KN.exit(K:KN)(id:Nat)(F:iF→LS→Rs)(j:Nat):iF→LS→Rs:=cnd (Nat.beq j id) F (K.ex j)
def LR:C→Option (List Nat)
 |.cut ls _=>some ls
 |_=>none
def eQ(x:D)(a b:Rs):Rs:=onB x a b none
def den(φ:Nat)(T TD:pG):C→KN→iF→LS→Rs
 |.bad,_,_,_=>none
 |.skip,K,ε,s=>K.n ε s
 |.reg l,K,ε,s=>Aj T TD l K.n ε s
 |.seq a b,K,ε,s=>match LR b with
  |some ls=>jn (Mo ls (λε s=>den φ T TD b K ε s) noS) λj=>den φ T TD a ⟨zS ls j,K.ex,K.ret⟩ ε s
  |none=>den φ T TD a ⟨λε s=>den φ T TD b K ε s,K.ex,K.ret⟩ ε s
 |.cond x a b,K,ε,s=>eQ (xv ε x) (den φ T TD a K ε s) (den φ T TD b K ε s)
 |.block id c,K,ε,s=>den φ T TD c ⟨K.n,K.exit id K.n,K.ret⟩ ε s
 |.loop c,K,ε,s=>match LR c with
  |some ls=>zS ls (lp (Jn ls.length) (λih=>Mo ls (λε s=>den φ T TD c ⟨zS ls ih,K.ex,K.ret⟩ ε s) noS) φ) ε s
  |none=>none
 |.exit id,K,ε,s=>K.ex id ε s
 |.ret,K,ε,s=>K.ret ε s
 |.cut ls c,K,ε,s=>den φ T TD c K (wJ ls ε) s
def ldK(n:Nat)(s:LS)(a:D)(k:D→Rs):Rs:=
 match n with
 |0=>eJ s a λd _=>k d
 |n=>eS n s a λd _=>k d
def rvK(ε:iF)(s:LS):List (Nat×Option Nat)→(List D→Rs)→Rs
 |[],k=>k []
 |(t,o)::rs,k=>match ε t with
  |some d=>match o with
   |none=>rvK ε s rs λds=>k (d::ds)
   |some n=>ldK n s d λd=>rvK ε s rs λds=>k (d::ds)
  |none=>none
def MD:List D→D
 |[d]=>d
 |ds=>.tup ds
def u1(l:List D)(k:D→List D→Rs):Rs:=List.rec (motive:=λ_=>Rs) none (λd r _=>k d r) l
def u0(l:List D)(x:Rs):Rs:=List.rec (motive:=λ_=>Rs) x (λ_ _ _=>none) l
def A8:Nat→Nat→iF→List D→(iF→Rs)→Rs
 |0,_,ε,l,F=>u0 l (F ε)
 |n+1,t,ε,l,F=>u1 l λd r=>A8 n (Nat.succ t) (sup ε t d) r F
def Ca(φ:Nat)(T TD:pG)(n:Nat)(G:Fun)(as:List D)(s:LS)(k:D→LS→Rs):Rs:=
 A8 n 0 noS as λε=>den φ T TD G.body ⟨λε s=>rvK ε s G.res λds=>k (MD ds) s,λ_ _ _=>none,λε s=>rvK ε s G.res λds=>k (MD ds) s⟩ ε s
def C9(φ:Nat)(T TD:pG)(n:Nat)(G:Fun)(as:List D):Option D:=
 Ca φ T TD n G as s0 λd s=>eX (!Nat.beq G.mode 0) s d some
end
end Go.Proofs.Ev
