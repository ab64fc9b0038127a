/- An evaluator of the code in the model, proved sound, and residuals of code as Lean functions. -/
import Derived.Test.YthljpappkomocaaGreatA1
set_option linter.all false
namespace Go.Proofs.Ev
noncomputable section
theorem ej(n:Nat):Nat.beq n n=true:=by simp
theorem MO{Δ:Tr Ent}:∀(k:Nat)(j:Job)(r:Out),run Δ k j=some r→run Δ (k+1) j=some r:=by
 intro k
 induction k with
 |zero=>intro j r h;simp[run]at h
 |succ k ih=>
  intro j r h;cases j with
  |code c e σ=>
   cases c with
   |bad=>simp[run]at h
   |skip=>simpa only[run]using h
   |reg l=>simp only[run]at h;rw[run];exact ih _ _ h
   |seq a b=>
    simp only[run]at h;rw[run];split at h
    ·rename_i e1 σ1 h1;rw[ih _ _ h1];exact ih _ _ h
    ·rename_i x h1;rw[ih _ _ h]
     subst_vars
     cases r with
     |val d σ=>rfl
     |code x e σ=>
      cases x with
      |nrm=>exact absurd h (h1 _ _)
      |exit id=>rfl
      |ret=>rfl
   |cond x a b=>
    simp only[run]at h;rw[run];split at h
    ·exact ih _ _ h
    ·exact ih _ _ h
    ·cases h
   |block id c=>
    simp only[run]at h;rw[run];split at h
    ·rename_i j e1 σ1 h1;rw[ih _ _ h1];exact h
    ·rename_i x h1;rw[ih _ _ h];cases r with
     |val d σ=>rfl
     |code x e σ=>
      cases x with
      |nrm=>rfl
      |exit j=>exact absurd h (h1 _ _ _)
      |ret=>rfl
   |loop c=>
    simp only[run]at h;rw[run];split at h
    ·rename_i e1 σ1 h1;rw[ih _ _ h1];exact ih _ _ h
    ·rename_i x h1;rw[ih _ _ h];cases r with
     |val d σ=>rfl
     |code x e σ=>
      cases x with
      |nrm=>exact absurd h (h1 _ _)
      |exit id=>rfl
      |ret=>rfl
   |exit id=>simpa only[run]using h
   |ret=>simpa only[run]using h
   |cut ls c=>simp only[run]at h;rw[run];exact ih _ _ h
  |ops l e σ=>
   cases l with
   |nil=>simpa only[run]using h
   |cons i l=>
    obtain⟨dst,gd,op⟩:=i;cases hg:gdv e gd with
    |none=>rw[KK hg]at h;cases h
    |some b=>
     cases b with
     |false=>
      rw[xG hg]at h;rw[xG hg];exact ih _ _ h
     |true=>
      by_cases hc:∃p f as,op=.call p f as
      ·obtain⟨p,f,as,rfl⟩:=hc;rw[xF hg]at h;rw[xF hg];split at h
       ·rename_i d σ1 h1;rw[ih _ _ h1];exact ih _ _ h
       ·cases h
      ·have hne:∀p f as,op≠.call p f as:=λp f as h=>hc ⟨p,f,as,h⟩;rw[uc hg hne]at h;rw[uc hg hne];split at h
       ·exact ih _ _ h
       ·split at h
        ·exact ih _ _ h
        ·cases h
  |call p f as σ=>
   cases f
   case fn f caps=>
    rw[vb]at h;rw[vb];cases hΔ:Δ.get f with
    |none=>simp only[hΔ]at h;cases h
    |some en=>
     cases en with
     |model M=>simp only[hΔ]at h ⊢;exact h
     |body F=>
      simp only[hΔ]at h ⊢;split at h
      ·split at h
       ·rename_i x e σ1 h1;simp only[ih _ _ h1];exact h
       ·cases h
      ·split at h
       ·rename_i as' ls hm;split at h
        ·rename_i x e σ1 h1;simp only[ih _ _ h1];exact h
        ·cases h
       ·cases h
   all_goals simp[run]at h
theorem qT{Δ:Tr Ent}{k k':Nat}(hk:k≤k'){j:Job}{r:Out}(h:run Δ k j=some r):run Δ k' j=some r:=by
 induction hk with
 |refl=>exact h
 |step _ ih=>exact MO _ _ _ ih
theorem xev(e:Env):X.ev e=xv e.get:=by
 funext x;cases x with
 |c d=>rfl
 |t n=>
  show(match e.get n with|some d=>d|none=>.u)=Option.rec (motive:=λ_=>D) .u (λd=>d) (e.get n);cases e.get n<;>rfl
theorem FD(e:Env)(dst:Option Nat)(d:D):(put e dst d).get=Gm e.get dst d:=by
 cases dst with
 |none=>rfl
 |some t=>
  funext m;show(e.set t d).get m=sup e.get t d m;rw[Tr.get_set];unfold sup;by_cases h:m=t
  ·subst h;simp
  ·have:Nat.beq m t=false:=by
    cases hq:Nat.beq m t with
    |false=>rfl
    |true=>exact absurd (aT hq) h
   rw[this,aE h];rfl
theorem Br(n:Nat):∀(l:List Nat),xw n l=true↔n∈l
 |[]=>by simp[xw]
 |m::l=>by
  show cnd (Nat.beq n m) true (xw n l)=true↔_;cases h:Nat.beq n m with
  |true=>have:=aT h;subst this;simp
  |false=>
   have:n≠m:=by intro e;subst e;simp at h
   simp only[e9,Br n l,bI,this,false_or]
theorem zx(e:Env):∀(ls:List Nat),(wd ls e).get=wJ ls e.get
 |[]=>by funext n;rfl
 |t::ls=>by
  funext n;have ih:=congrFun (zx e ls) n;have hr:wJ (t::ls) e.get n=cnd (Nat.beq n t) (e.get n) (wJ ls e.get n):=by
   show cnd (cnd (Nat.beq n t) true (xw n ls)) (e.get n) none=cnd (Nat.beq n t) (e.get n) (cnd (xw n ls) (e.get n) none);cases Nat.beq n t<;>rfl
  rw[hr];simp only[wd];cases hd:e.get t with
  |none=>
   show(wd ls e).get n=_;rw[ih];cases h:Nat.beq n t with
   |false=>rfl
   |true=>
    have:=aT h;subst this;rw[eL,hd];show cnd (xw n ls) (e.get n) none=none;rw[hd];cases xw n ls<;>rfl
  |some d=>
   show((wd ls e).set t d).get n=_;rw[Tr.get_set];by_cases h:n=t
   ·subst h;simp[hd]
   ·have:Nat.beq n t=false:=by
     cases hq:Nat.beq n t with
     |false=>rfl
     |true=>exact absurd (aT hq) h
    rw[aE h,this,ih];rfl
theorem E1{F:iF→LS→Rs}{s:LS}{r:D}{ε:iF}:∀(ls:List Nat)(ε0:iF),zS ls (Mo ls F ε0) ε s=some r→
 ∃ε',F ε' s=some r∧∀n,(n∈ls→ε' n=ε n)∧(n∉ls→ε' n=ε0 n)
 |[],ε0,h=>⟨ε0,h,λn=>⟨λh=>(by cases h),λ_=>rfl⟩⟩
 |t::ls,ε0,h=>by
  simp only[zS]at h;cases hd:ε t with
  |some d=>
   rw[hd]at h;obtain⟨ε',h1,h2⟩:=E1 ls (sup ε0 t d) h;refine⟨ε',h1,λn=>⟨λhn=>?_,λhn=>?_⟩⟩
   ·by_cases hls:n∈ls
    ·exact(h2 n).1 hls
    ·rw[(h2 n).2 hls];have:n=t:=by
      rcases bI.1 hn with h|h
      ·exact h
      ·exact absurd h hls
     subst this;simp[sup,hd]
   ·have h3:n∉ls:=λh=>hn (bm _ h);have h4:n≠t:=λh=>hn (h▸cA ..);rw[(h2 n).2 h3];unfold sup;have:Nat.beq n t=false:=by
     cases hq:Nat.beq n t with
     |false=>rfl
     |true=>exact absurd (aT hq) h4
    rw[this];rfl
  |none=>rw[hd]at h;cases h
theorem Cq{F:iF→LS→Rs}{s:LS}{r:D}{ε:iF}{ls:List Nat}(h:zS ls (Mo ls F noS) ε s=some r):F (wJ ls ε) s=some r:=by
 obtain⟨ε',h1,h2⟩:=E1 ls noS h;have:ε'=wJ ls ε:=by
  funext n;unfold wJ;by_cases hn:n∈ls
  ·rw[(h2 n).1 hn,(Br n ls).2 hn];rfl
  ·rw[(h2 n).2 hn];have:xw n ls=false:=by
    cases hq:xw n ls with
    |false=>rfl
    |true=>exact absurd ((Br n ls).1 hq) hn
   rw[this];rfl
 rw[←this];exact h1
theorem IE{s:LS}{ε:iF}:∀(ls:List Nat),zS ls (Jn ls.length) ε s=none
 |[]=>rfl
 |t::ls=>by
  simp only[zS];cases hd:ε t with
  |some d=>exact IE ls
  |none=>rfl
theorem OX(ls:List Nat)(ε:iF):wJ ls (wJ ls ε)=wJ ls ε:=by
 funext n;unfold wJ;cases xw n ls<;>rfl
section
variable {s:LS} {σ:Sto} {r:D}
theorem sT{F:D→Option (D×List Nat)}{f:D→(D→List Nat→Rs)→Rs}(hf:∀d kk,f d kk=some r→∃y a,F d=some (y,a)∧kk y a=some r):
 ∀(l:List D)(kk:List D→List Nat→Rs),nI f l kk=some r→∃ys ls,iP F l=some (ys,ls)∧kk ys ls=some r
 |[],kk,h=>⟨[],[],rfl,h⟩
 |x::l,kk,h=>by
  have h:(f x λy a=>nI f l λys b=>l7 a b λab=>kk (y::ys) ab)=some r:=h;obtain⟨y,a,h1,h2⟩:=hf _ _ h;obtain⟨ys,b,h3,h4⟩:=sT hf l _ h2;rw[gT]at h4;exact⟨y::ys,a++b,by simp only[iP,h1,h3],h4⟩
theorem Dk(s:LS):∀(n:Nat)(d:D)(kk:D→List Nat→Rs),kJ s n d kk=some r→∃y a,res s.get n d=some (y,a)∧kk y a=some r
 |0,d,kk,h=>by cases h
 |n+1,d,kk,h=>by
  have ih:=λd kk=>Dk s n d kk;have h:Xp s (kJ s n) d kk=some r:=h;cases d with
  |u=>cases h
  |own cs len sz=>cases h
  |sl l off len cm z ex=>
   have h:(jQ s l λb=>cnd (lv b.st) (iz off b.cs λr=>iy (Nat.mul len z) r λr=>nI (kJ s n) r λcs ls=>mw (cnd ex (Nat.beq cm len) false) λex=>kk (.tree cs len ex) (l::ls)) none)=some r:=h;obtain⟨b,hb,h1⟩:=jS h;obtain⟨h2,h3⟩:=wK h1;rw[gB]at h3;obtain⟨h4,h5⟩:=pH h3;rw[wl]at h4;obtain⟨ys,ls,h6,h7⟩:=sT ih _ _ h5;rw[jC]at h7;refine⟨_,_,?_,h7⟩;have h4:cut off (len*z) b.cs=some _:=h4;simp only[res,hb,h2,cI,bj,bz,h4,h6];have e1:(cm==len)=Nat.beq cm len:=by rw[di,beq_iff_eq,Nat.beq_eq]
   have:(ex&&cm==len)=cnd ex (Nat.beq cm len) false:=by rw[e1];cases ex<;>rfl
   rw[this]
  |ptr l off=>
   have h:(jQ s l λb=>cnd (lv b.st) (iz off b.cs λr=>nI (kJ s n) r λcs ls=>kk (.fp cs) (l::ls)) none)=some r:=h;obtain⟨b,hb,h1⟩:=jS h;obtain⟨h2,h3⟩:=wK h1;rw[gB]at h3;obtain⟨ys,ls,h6,h7⟩:=sT ih _ _ h3;exact⟨_,_,by simp only[res,hb,h2,cI,bj,bz,h6],h7⟩
  |agg cs=>
   obtain⟨ys,ls,h6,h7⟩:=sT ih _ _ (show nI (kJ s n) cs _=some r from h);exact⟨_,_,by simp only[res,h6],h7⟩
  |tup cs=>
   obtain⟨ys,ls,h6,h7⟩:=sT ih _ _ (show nI (kJ s n) cs _=some r from h);exact⟨_,_,by simp only[res,h6],h7⟩
  |fn f cs=>
   obtain⟨ys,ls,h6,h7⟩:=sT ih _ _ (show nI (kJ s n) cs _=some r from h);exact⟨_,_,by simp only[res,h6],h7⟩
  |_=>exact⟨_,[],rfl,h⟩
theorem EN:∀(ls:List Nat)(s:LS)(σ:Sto)(k:LS→Rs),LSR s σ→vR ls s k=some r→∃s',LSR s' (σ.frz ls)∧k s'=some r∧s'.nx=s.nx
 |[],s,σ,k,h,hr=>⟨s,h,hr,rfl⟩
 |l::ls,s,σ,k,h,hr=>by
  have hr:(jQ s l λb=>oN s l ⟨b.cs,fzS b.st⟩ λs=>vR ls s k)=some r:=hr;obtain⟨b,hb,h1⟩:=jS hr;rw[ui h hb]at h1;obtain⟨s',h2,h3,h4⟩:=EN ls _ _ k (h.put hb ⟨b.cs,fzS b.st⟩) h1;refine⟨s',?_,h3,h4⟩;simp only[Sto.frz,←Qd];have:σ.get l=some b:=by rw[h.get,hb]
  rw[this];exact h2
theorem Wx(d:D)(t f:Rs):fl1 d t f=cnd (ot d) t f:=by cases d<;>rfl
theorem Ff(t f:Rs):∀(cs:List D),UH cs t f=cnd (cs.all ot) t f
 |[]=>rfl
 |d::cs=>by
  show fl1 d (UH cs t f) f=_;rw[Wx,Ff t f cs,cJ];cases ot d<;>rfl
theorem Wv(d:D)(t f:Rs):fl2 d t f=cnd (tL d) t f:=by
 cases d with
 |agg cs=>exact Ff t f cs
 |_=>rfl
theorem LH(t f:Rs):∀(cs:List D),Ww cs t f=cnd (cs.all tL) t f
 |[]=>rfl
 |d::cs=>by
  show fl2 d (Ww cs t f) f=_;rw[Wv,LH t f cs,cJ];cases tL d<;>rfl
theorem mU(d:D)(t f:Rs):fl d t f=cnd (tM d) t f:=by
 cases d with
 |agg cs=>exact Ff t f cs
 |tup cs=>exact LH t f cs
 |_=>rfl
theorem Mg{k:D→LS→Rs}{d:D}(h:LSR s σ)(hr:DP s d k=some r):∃s',LSR s' (σ.adds (mat s.nx d).2)∧k (mat s.nx d).1 s'=some r:=by
 unfold DP at hr;split at hr
 ·rw[lY]at hr;exact⟨_,h.push _,hr⟩
 ·rw[lY]at hr;exact⟨_,h.push _,hr⟩
 ·rename_i h1 h2;have:mat s.nx d=(d,[]):=by
   unfold mat;split
   ·exact absurd rfl (h1 _ _ _)
   ·exact absurd rfl (h2 _ _ _ _)
   ·rfl
  rw[this];exact⟨s,h,hr⟩
theorem NL{k:D→LS→Rs}{d:D}{ls:List Nat}(h:LSR s σ)(hr:ju s ls d k=some r):∃s',LSR s' (fin σ ls d).2∧k (fin σ ls d).1 s'=some r:=by
 unfold ju at hr;rw[mU]at hr;unfold fin;cases hf:tM d with
 |true=>rw[hf]at hr;exact⟨s,h,hr⟩
 |false=>
  rw[hf]at hr;obtain⟨s1,h1,h2,h3⟩:=EN _ _ _ _ h hr;obtain⟨s2,h4,h5⟩:=Mg h1 h2;rw[h3,←h.nx]at h4 h5;exact⟨s2,h4,h5⟩
theorem kL{g:Nat→Option Blk}{k:Nat}:∀(cs:List D),cs.all ot=true→iP (res g (k+1)) cs=some (cs,[])
 |[],_=>rfl
 |d::cs,h=>by
  simp only[cJ,ae]at h;simp only[iP,kL cs h.2];cases d<;>first|rfl|(exact absurd h.1 (by simp[ot]))
theorem Dj{g:Nat→Option Blk}{k:Nat}(d:D)(h:tL d=true):res g (k+2) d=some (d,[]):=by
 cases d with
 |agg cs=>
  have e:res g (k+2) (.agg cs)=match iP (res g (k+1)) cs with
   |some (cs,ls)=>some (.agg cs,ls)
   |none=>none:=rfl
  rw[e,kL cs h]
 |_=>first|rfl|(exact absurd h (by simp[tL,ot]))
theorem Bs{g:Nat→Option Blk}{k:Nat}:∀(cs:List D),cs.all tL=true→iP (res g (k+2)) cs=some (cs,[])
 |[],_=>rfl
 |d::cs,h=>by
  simp only[cJ,ae]at h;simp only[iP,Bs cs h.2,Dj d h.1];rfl
theorem CZ{own:Bool}{g:Nat→Option Blk}{k:Nat}(d:D)(h:tL d=true):tN own g (k+2) d=some (d,[],[]):=by
 have h1:tN own g (k+2) d=yi (res g (k+2) d):=by
  cases own<;>cases d<;>first|rfl|(exact absurd h (by simp[tL,ot]))
 rw[h1,Dj d h];rfl
theorem NO{own:Bool}{g:Nat→Option Blk}(d:D)(h:tM d=true):nu own g fv d=some d:=by
 have key:tL d=true→nu own g fv d=some d:=by
  intro h2;have h1:nu own g fv d=match tN own g fv d with
   |some (d,o,ls)=>if o.all λl=> !ls.contains l then some d else none
   |none=>none:=by
   cases d<;>first|rfl|(exact absurd h2 (by simp[tL,ot]))
  rw[h1,show fv=58+2 from rfl,CZ d h2];rfl
 cases d with
 |tup cs=>
  cases cs with
  |nil=>
   cases own<;>rfl
  |cons d ds=>
   have h:(d::ds).all tL=true:=h;simp only[cJ,ae]at h;simp only[nu];rw[show fv=58+2 from rfl,CZ d h.1,Bs ds h.2];rfl
 |agg cs=>exact key h
 |_=>exact key h
theorem ze{own:Bool}{d:D}{k:D→Rs}(hr:eX own s d k=some r):∃q,nu own s.get fv d=some q∧k q=some r:=by
 unfold eX at hr;rw[mU]at hr;cases hf:tM d with
 |true=>rw[hf]at hr;exact⟨d,NO d hf,hr⟩
 |false=>
  rw[hf]at hr;have hr:uw (nu own s.get fv d) k=some r:=hr;rw[gS]at hr;exact nG hr
end
def xf(Δ:Tr Ent)(G:Fun)(M2:List D→LS→(D→LS→Rs)→Rs):Prop:=
 ∀as s σ k r,LSR s σ→M2 as s k=some r→∃n x e σ' s' d,run Δ n (.code G.body (rM .nil 0 as) σ)=some (.code x e σ')∧(∀id,x≠.exit id)∧qI e σ' G.res=some d∧LSR s' σ'∧k d s'=some r
def Rv(Δ:Tr Ent)(G:Fun)(as:List D)(q:D):Prop:=
 ∃n x e σ d,run Δ n (.code G.body (rM .nil 0 as) Sto.empty)=some (.code x e σ)∧(∀id,x≠.exit id)∧qI e σ G.res=some d∧nu (!Nat.beq G.mode 0) σ.get fv d=some q
def Lw(Δ:Tr Ent)(G:Fun)(M:List D→Option D):Prop:=∀as q,M as=some q→Rv Δ G as q
def N8(Δ:Tr Ent)(n:Nat):FT→Prop
 |.iso M=>Δ.get n=some (.model M)∨∃G,Δ.get n=some (.body G)∧Nat.beq G.mode 2=false∧Lw Δ G M
 |.mem M2=>∃G,Δ.get n=some (.body G)∧G.mode=2∧xf Δ G M2
def TOk(Δ:Tr Ent)(T:pG):Prop:=∀n ft,T n=some ft→N8 Δ n ft
section
variable {Δ:Tr Ent} {T TD:pG} {s:LS} {σ:Sto} {r:D}
def ToC(Δ:Tr Ent)(p:Bool)(f:D)(as:List D)(σ:Sto)(k:D→LS→Rs)(r:D):Prop:=
 ∃n d σ' s',run Δ n (.call p f as σ)=some (.val d σ')∧LSR s' σ'∧k d s'=some r
theorem Ch{p:Bool}{n:Nat}{caps as:List D}{k:D→LS→Rs}(hT:TOk Δ T)(h:LSR s σ)(hr:Hx p (T n) (as++caps) s k=some r):ToC Δ p (.fn n caps) as σ k r:=by
 unfold Hx at hr;have iso:∀(M:List D→Option D),eR M (as++caps) s k=some r→∃as' ls q s',iP (res σ.get fv) (as++caps)=some (as',ls)∧M as'=some q∧LSR s' (fin σ ls q).2∧k (fin σ ls q).1 s'=some r:=by
  intro M hr;unfold eR at hr;obtain⟨as',ls,h1,h2⟩:=sT (λd kk=>Dk s fv d kk) _ _ hr;obtain⟨q,h3,h4⟩:=nG h2;obtain⟨s',h5,h6⟩:=NL h h4;rw[←h.get]at h1;exact⟨as',ls,q,s',h1,h3,h5,h6⟩
 cases hft:T n with
 |none=>rw[hft]at hr;cases hr
 |some ft=>
  rw[hft]at hr;have hok:=hT n _ hft;cases ft with
  |iso M=>
   obtain⟨as',ls,q,s',h1,h2,h3,h4⟩:=iso M hr;rcases hok with hok|⟨G,hG,hmode,hM⟩
   ·exact⟨1,_,_,s',by rw[vb,hok];simp only[h1,h2],h3,h4⟩
   ·obtain⟨m,x,e,σ1,d,g1,g2,g3,g4⟩:=hM _ _ h2;refine⟨m+1,_,_,s',?_,h3,h4⟩;rw[vb,hG];simp only[hmode,dq,h1,g1];cases x with
    |exit id=>exact absurd rfl (g2 id)
    |nrm=>simp only[g3,g4]
    |ret=>simp only[g3,g4]
  |mem M2=>
   obtain⟨G,hG,hmode,hM⟩:=hok;cases p with
   |true=>
    obtain⟨as',ls,q,s',h1,h2,h3,h4⟩:=iso _ hr;unfold zU at h2;obtain⟨m,x,e,σ1,s1,d,g1,g2,g3,g4,g5⟩:=hM _ _ Sto.empty _ _ LSR.empty h2;obtain⟨q',g6,g7⟩:=ze g5;cases g7;refine⟨m+1,_,_,s',?_,h3,h4⟩;rw[vb,hG];rw[←g4.get]at g6;have hm2:(!Nat.beq G.mode 0)=true:=by rw[hmode];rfl
    simp only[cI,z1g,h1,g1,hm2];cases x with
    |exit id=>exact absurd rfl (g2 id)
    |nrm=>simp only[g3,g6]
    |ret=>simp only[g3,g6]
   |false=>
    obtain⟨m,x,e,σ1,s1,d,g1,g2,g3,g4,g5⟩:=hM _ _ _ _ _ h hr;refine⟨m+1,d,σ1,s1,?_,g4,g5⟩;rw[vb,hG];have hm2:(!false&&Nat.beq G.mode 2)=true:=by rw[hmode];rfl
    simp only[hm2,g1];cases x with
    |exit id=>exact absurd rfl (g2 id)
    |nrm=>simp only[g3]
    |ret=>simp only[g3]
theorem NS{p:Bool}{f:D}{as:List D}{k:D→LS→Rs}(hT:TOk Δ TD)(h:LSR s σ)(hr:uD TD p f as s k=some r):ToC Δ p f as σ k r:=by
 cases f with
 |fn n caps=>
  have hr:(l7 as caps λas=>Hx p (TD n) as s k)=some r:=hr;rw[gT]at hr;exact Ch hT h hr
 |_=>cases hr
theorem Hh(ε:iF):∀(l:List (Nat×Nat×X))(cs:List D),fill cv (l.map λp=>(p.1,p.2.1,X.c (xv ε p.2.2))) cs=fill (xv ε) l cs
 |[],cs=>rfl
 |(off,sz,x)::r,cs=>by
  simp only[bB,fill,cv];cases lay off (jr (xv ε x)) cs with
  |none=>rfl
  |some cs'=>
   simp only[Hh ε r cs'];rfl
theorem Te{o:O}{ε:iF}{k:D→LS→Rs}(h:LSR s σ)(hr:kO o ε s k=some r):ToO σ (xv ε) o k r:=by
 cases o with
 |bad=>cases hr
 |mv x=>exact toA h rfl hr
 |pick c a b=>exact QB h hr
 |alloc z=>exact NC h hr
 |box x=>exact Ts h hr
 |build z l=>exact NA h hr
 |bsl n z l=>exact Tq h hr
 |load1 a=>exact Mw h hr
 |loadn n a=>exact Mv h hr
 |store n a x=>exact Ms h hr
 |nilc x=>exact QD h hr
 |isnil neg x=>exact Mx h hr
 |bin op x y=>
  obtain⟨d,h1,h2⟩:=Tt hr;exact toA h (by simp only[evA,h1]) h2
 |binb op x y=>exact QI h hr
 |eqs neg ks x y=>exact Tl h hr
 |neg x=>exact uQ h rfl hr
 |not x=>exact Tf h hr
 |toInt kk x=>exact Mq h hr
 |sid x=>exact uQ h rfl hr
 |b2s x=>exact uQ h rfl hr
 |s2b x=>exact uQ h rfl hr
 |mkfn f caps=>exact toA h rfl hr
 |mksl sz by' z l c=>exact QF h hr
 |slice sz x a b c=>exact Mt h hr
 |slstr x a b=>
  refine uQ h ?_ hr;cases a<;>cases b<;>rfl
 |faddr off x=>exact Mz h hr
 |field1 off x=>exact JR h hr
 |fieldn off n x=>exact JQ h hr
 |iaddr sz x i=>exact My h hr
 |index x i=>exact uQ h rfl hr
 |ext x i=>exact Tk h hr
 |len x=>exact Ti h hr
 |lens x=>exact uQ h rfl hr
 |max x y=>exact uQ h rfl hr
 |min x y=>exact uQ h rfl hr
 |add64 x y c=>exact ND h hr
 |sub64 x y c=>exact Mr h hr
 |call p f as=>cases hr
 |app sz by' x y=>exact Kv h hr
 |pld1 x=>exact uQ h rfl hr
 |pldn n x=>exact uQ h rfl hr
 |psl sz x a b c=>
  refine uQ h ?_ hr;cases a<;>cases b<;>cases c<;>rfl
 |pia sz x i=>exact uQ h rfl hr
 |pbs n z l=>
  refine uQ h ?_ hr;simp only[evA,Hh]
 |appk sz by' x y=>exact QK h hr
 |copy sz x y=>exact QH h hr
 |clr sz z x=>exact Tp h hr
 |apart a x=>exact uQ h rfl hr
def ToI(Δ:Tr Ent)(e:Env)(σ:Sto)(i:Ins)(k:D→LS→Rs)(r:D):Prop:=
 ∃n d σ' s',LSR s' σ'∧k d s'=some r∧∀m l,n≤m→run Δ (m+1) (.ops (i::l) e σ)=run Δ m (.ops l (put e i.dst d) σ')
theorem CK{dst:Option Nat}{gd:Option (Nat×Bool)}{o:O}{e:Env}{k:D→LS→Rs}(hT:TOk Δ T)(hD:TOk Δ TD)(h:LSR s σ)(hg:gdv e gd=some true)(hr:kOp T TD o e.get s k=some r):
 ToI Δ e σ ⟨dst,gd,o⟩ k r:=by
 have other:ToO σ (xv e.get) o k r→(∀p f as,o≠.call p f as)→ToI Δ e σ ⟨dst,gd,o⟩ k r:=by
  intro ho hne;obtain⟨d,s',σ',h1,h2,h3⟩:=ho;rw[←xev]at h1;refine⟨0,d,σ',s',h2,h3,λm l _=>?_⟩;rw[uc hg hne];rcases h1 with⟨bs,h1,rfl⟩|⟨h1,h1'⟩
  ·simp only[h1]
  ·simp only[h1,h1']
 have callc:∀p f as,o=.call p f as→ToC Δ p (f.ev e) (as.map (X.ev e)) σ k r→ToI Δ e σ ⟨dst,gd,o⟩ k r:=by
  intro p f as ho hc;subst ho;obtain⟨n,d,σ',s',h1,h2,h3⟩:=hc;refine⟨n,d,σ',s',h2,h3,λm l hm=>?_⟩;rw[xF hg,qT hm h1]
 cases o
 case call p f as=>
  refine callc p f as rfl ?_;simp only[kOp,kPS]at hr;rw[xev];cases f with
  |t t=>exact NS hD h hr
  |c d=>
   cases d<;>first|(cases hr;done)|skip
   exact Ch hT h hr
 all_goals exact other (Te h hr) (λ_ _ _ h=>by cases h)
theorem xP(hT:TOk Δ T)(hD:TOk Δ TD){K:iF→LS→Rs}:∀(l:List Ins)(s:LS)(e:Env)(σ:Sto),LSR s σ→Aj T TD l K e.get s=some r→
 ∃n e' σ' s',run Δ n (.ops l e σ)=some (.code .nrm e' σ')∧LSR s' σ'∧K e'.get s'=some r
 |[],s,e,σ,h,hr=>⟨1,e,σ,s,rfl,h,hr⟩
 |i::l,s,e,σ,h,hr=>by
  obtain⟨dst,gd,o⟩:=i;have go:ToI Δ e σ ⟨dst,gd,o⟩ (λd s=>Aj T TD l K (Gm e.get dst d) s) r→∃n e' σ' s',run Δ n (.ops (⟨dst,gd,o⟩::l) e σ)=some (.code .nrm e' σ')∧LSR s' σ'∧K e'.get s'=some r:=by
   intro hi;obtain⟨n,d,σ1,s1,h1,h2,h3⟩:=hi;have h2:Aj T TD l K (Gm e.get dst d) s1=some r:=h2;rw[←FD]at h2;obtain⟨m,e',σ',s',h4,h5,h6⟩:=xP hT hD l s1 _ σ1 h1 h2;refine⟨(n+m)+1,e',σ',s',?_,h5,h6⟩;rw[h3 (n+m) l (by omega)];exact qT (by omega) h4
  have skip':gdv e gd=some false→Aj T TD l K (Gm e.get dst (.tup [])) s=some r→∃n e' σ' s',run Δ n (.ops (⟨dst,gd,o⟩::l) e σ)=some (.code .nrm e' σ')∧LSR s' σ'∧K e'.get s'=some r:=by
   intro hg h2;rw[←FD]at h2;obtain⟨m,e',σ',s',h4,h5,h6⟩:=xP hT hD l s _ σ h h2;refine⟨m+1,e',σ',s',?_,h5,h6⟩;rw[xG hg];exact h4
  simp only[Aj]at hr;cases gd with
  |none=>exact go (CK hT hD h rfl hr)
  |some tw=>
   obtain⟨t,want⟩:=tw;simp only at hr;split at hr
   ·rename_i g hg;unfold eI at hr;have key:∀(p:Bool),e.get t=some (.b p)→gdv e (some (t,want))=some (p==want):=by
     intro p hp;simp only[gdv,hp]
    split at hr
    ·rename_i p;cases p<;>cases want
     ·simp only[e9]at hr;exact go (CK hT hD h (key _ hg) hr)
     ·simp only[eL,e9]at hr;exact skip' (key _ hg) hr
     ·simp only[eL,e9]at hr;exact skip' (key _ hg) hr
     ·simp only[eL]at hr;exact go (CK hT hD h (key _ hg) hr)
    ·refine skip' ?_ hr;simp only[gdv,hg]
    ·cases hr
   ·cases hr
def KN.at(K:KN):Ex→iF→LS→Rs
 |.nrm=>K.n
 |.exit j=>K.ex j
 |.ret=>K.ret
theorem Cb{c:C}{ls:List Nat}(h:LR c=some ls):∃c',c=.cut ls c':=by
 cases c<;>simp[LR]at h;subst h;exact⟨_,rfl⟩
theorem RG{φ:Nat}(hT:TOk Δ T)(hD:TOk Δ TD):∀(c:C)(K:KN)(s:LS)(e:Env)(σ:Sto),LSR s σ→den φ T TD c K e.get s=some r→
 ∃n x e' σ' s',run Δ n (.code c e σ)=some (.code x e' σ')∧LSR s' σ'∧K.at x e'.get s'=some r:=by
 intro c
 induction c with
 |bad=>intro K s e σ h hr;cases hr
 |skip=>intro K s e σ h hr;exact⟨1,.nrm,e,σ,s,rfl,h,hr⟩
 |reg l=>
  intro K s e σ h hr;obtain⟨n,e',σ',s',h1,h2,h3⟩:=xP hT hD l s e σ h hr;exact⟨n+1,.nrm,e',σ',s',h1,h2,h3⟩
 |seq a b iha ihb=>
  intro K s e σ h hr;have fin:∀(F:iF→LS→Rs),den φ T TD a ⟨F,K.ex,K.ret⟩ e.get s=some r→(∀(e1:Env) s1,F e1.get s1=some r→den φ T TD b K e1.get s1=some r)→
   ∃n x e' σ' s',run Δ n (.code (.seq a b) e σ)=some (.code x e' σ')∧LSR s' σ'∧K.at x e'.get s'=some r:=by
   intro F hr hF;obtain⟨n,x,e1,σ1,s1,h1,h2,h3⟩:=iha _ s e σ h hr;cases x with
   |nrm=>
    obtain⟨m,x,e',σ',s',h4,h5,h6⟩:=ihb K s1 e1 σ1 h2 (hF e1 s1 h3);refine⟨(n+m)+1,x,e',σ',s',?_,h5,h6⟩;simp only[run,qT (show n≤n+m by omega) h1,qT (show m≤n+m by omega) h4]
   |exit id=>
    refine⟨n+1,.exit id,e1,σ1,s1,?_,h2,h3⟩;simp only[run,h1]
   |ret=>
    refine⟨n+1,.ret,e1,σ1,s1,?_,h2,h3⟩;simp only[run,h1]
  simp only[den]at hr;split at hr
  ·rename_i ls hc;obtain⟨b',rfl⟩:=Cb hc;refine fin _ hr (λe1 s1 h1=>?_);have h2:=Cq h1;simp only[den]at h2;simp only[den];rw[OX]at h2;exact h2
  ·exact fin _ hr (λe1 s1 h1=>h1)
 |cond x a b iha ihb=>
  intro K s e σ h hr;simp only[den,eQ]at hr;rcases tF hr with⟨h1,h2⟩|⟨h1,h2⟩
  ·obtain⟨n,x',e',σ',s',h3,h4,h5⟩:=iha K s e σ h h2;refine⟨n+1,x',e',σ',s',?_,h4,h5⟩;rw[←xev]at h1;simp only[run,h1,h3]
  ·obtain⟨n,x',e',σ',s',h3,h4,h5⟩:=ihb K s e σ h h2;refine⟨n+1,x',e',σ',s',?_,h4,h5⟩;rw[←xev]at h1;simp only[run,h1,h3]
 |block id c ih=>
  intro K s e σ h hr;simp only[den]at hr;obtain⟨n,x,e',σ',s',h3,h4,h5⟩:=ih _ s e σ h hr;cases x with
  |nrm=>
   refine⟨n+1,.nrm,e',σ',s',?_,h4,h5⟩;simp only[run,h3]
  |ret=>
   refine⟨n+1,.ret,e',σ',s',?_,h4,h5⟩;simp only[run,h3]
  |exit j=>
   simp only[KN.at,KN.exit]at h5;cases hj:Nat.beq j id with
   |true=>
    rw[hj]at h5;refine⟨n+1,.nrm,e',σ',s',?_,h4,h5⟩;simp only[run,h3,hj,cond_true]
   |false=>
    rw[hj]at h5;refine⟨n+1,.exit j,e',σ',s',?_,h4,h5⟩;simp only[run,h3,hj,cond_false]
 |loop c ih=>
  intro K s e σ h hr;simp only[den]at hr;split at hr
  ·rename_i ls hc;obtain⟨c',rfl⟩:=Cb hc;generalize hf:(λq=>Mo ls (λε s=>den φ T TD (.cut ls c') ⟨zS ls q,K.ex,K.ret⟩ ε s) noS)=f at hr;have key:∀(m:Nat)(s:LS)(e:Env)(σ:Sto),LSR s σ→zS ls (lp (Jn ls.length) f m) e.get s=some r→
    ∃n x e' σ' s',run Δ n (.code (.loop (.cut ls c')) e σ)=some (.code x e' σ')∧LSR s' σ'∧K.at x e'.get s'=some r:=by
    intro m
    induction m with
    |zero=>
     intro s e σ h hr;have hr:zS ls (Jn ls.length) e.get s=some r:=hr;rw[IE]at hr;cases hr
    |succ m ihm=>
     intro s e σ h hr;have hr:zS ls (f (lp (Jn ls.length) f m)) e.get s=some r:=hr;rw[←hf]at hr;have h2:=Cq hr;simp only[hf]at h2;have h3:den φ T TD (.cut ls c') ⟨zS ls (lp (Jn ls.length) f m),K.ex,K.ret⟩ e.get s=some r:=by
      simp only[den]at h2;simp only[den];rw[OX]at h2;exact h2
     obtain⟨n,x,e1,σ1,s1,h4,h5,h6⟩:=ih _ s e σ h h3;cases x with
     |nrm=>
      obtain⟨n2,x,e',σ',s',h7,h8,h9⟩:=ihm s1 e1 σ1 h5 h6;refine⟨(n+n2)+1,x,e',σ',s',?_,h8,h9⟩;rw[run];simp only[qT (show n≤n+n2 by omega) h4,qT (show n2≤n+n2 by omega) h7]
     |exit id=>
      refine⟨n+1,.exit id,e1,σ1,s1,?_,h5,h6⟩;rw[run];simp only[h4]
     |ret=>
      refine⟨n+1,.ret,e1,σ1,s1,?_,h5,h6⟩;rw[run];simp only[h4]
   exact key φ s e σ h hr
  ·cases hr
 |exit id=>intro K s e σ h hr;exact⟨1,.exit id,e,σ,s,rfl,h,hr⟩
 |ret=>intro K s e σ h hr;exact⟨1,.ret,e,σ,s,rfl,h,hr⟩
 |cut ls c ih=>
  intro K s e σ h hr;simp only[den]at hr;rw[←zx]at hr;obtain⟨n,x,e',σ',s',h3,h4,h5⟩:=ih K s _ σ h hr;exact⟨n+1,x,e',σ',s',by simp only[run];exact h3,h4,h5⟩
def ldV(n:Nat)(cs:List D):Option D:=
 match n with
 |0=>match cs with
  |d::_=>some d
  |[]=>none
 |n=>match cut 0 n cs with
  |some r=>some (.agg r)
  |none=>none
theorem Pr{n:Nat}{a:D}{k:D→Rs}(h:LSR s σ)(hr:ldK n s a k=some r):∃cs d,at_ σ.get a=some cs∧ldV n cs=some d∧k d=some r:=by
 rw[h.get];cases n with
 |zero=>
  rcases sR (show eJ s a (λd _=>k d)=some r from hr)with⟨l,off,rfl,h2⟩|⟨cs,rfl,h2⟩
  ·obtain⟨b,hb,h3⟩:=jS h2;obtain⟨h4,h5⟩:=wK h3;obtain⟨d,h6,h7⟩:=uI h5;refine⟨b.cs.drop off,d,by simp only[at_,hb,h4,cI,bj,bz],?_,h7⟩;rw[h6];rfl
  ·obtain⟨d,h6,h7⟩:=uI h2;rw[aj]at h6;refine⟨cs,d,rfl,?_,h7⟩;rw[h6];rfl
 |succ n=>
  rcases sR (show eS (n+1) s a (λd _=>k d)=some r from hr)with⟨l,off,rfl,h2⟩|⟨cs,rfl,h2⟩
  ·obtain⟨b,hb,h3⟩:=jS h2;obtain⟨h4,h5⟩:=wK h3;rw[gB]at h5;obtain⟨h6,h7⟩:=pH h5;refine⟨b.cs.drop off,_,by simp only[at_,hb,h4,cI,bj,bz],?_,h7⟩;simp only[ldV,h6]
  ·obtain⟨h6,h7⟩:=pH h2;refine⟨cs,_,rfl,?_,h7⟩;simp only[ldV,h6]
theorem MT{e:Env}{t n:Nat}:xm e σ (t,some n)=match e.get t with
 |some a=>match at_ σ.get a with
  |some cs=>ldV n cs
  |none=>none
 |none=>none:=by
 cases n<;>rfl
theorem vG{e:Env}(h:LSR s σ):∀(rs:List (Nat×Option Nat))(k:List D→Rs),rvK e.get s rs k=some r→∃ds,um e σ rs=some ds∧k ds=some r
 |[],k,hr=>⟨[],rfl,hr⟩
 |(t,o)::rs,k,hr=>by
  simp only[rvK]at hr;split at hr
  ·rename_i d hd;cases o with
   |none=>
    obtain⟨ds,h1,h2⟩:=vG h rs _ hr;exact⟨d::ds,by simp only[um,xm,hd,h1],h2⟩
   |some n=>
    obtain⟨cs,d',h1,h2,h3⟩:=Pr h hr;obtain⟨ds,h4,h5⟩:=vG h rs _ h3;refine⟨d'::ds,?_,h5⟩;have:xm e σ (t,some n)=some d':=by
     rw[MT,hd];simp only[h1];exact h2
    simp only[um,this,h4]
  ·cases hr
theorem Ao{e:Env}{rs:List (Nat×Option Nat)}{ds:List D}(h:um e σ rs=some ds):qI e σ rs=some (MD ds):=by
 unfold qI;rw[h];unfold MD;split<;>simp_all
theorem yO{F:iF→Rs}:∀(n t:Nat)(e:Env)(as:List D),A8 n t e.get as F=some r→F (rM e t as).get=some r
 |0,t,e,[],h=>h
 |0,t,e,a::as,h=>by cases h
 |n+1,t,e,[],h=>by cases h
 |n+1,t,e,a::as,h=>by
  have h:A8 n (Nat.succ t) (sup e.get t a) as F=some r:=h;have hu:sup e.get t a=(e.set t a).get:=(FD e (some t) a).symm;rw[hu]at h;exact yO n _ _ as h
theorem AI{φ n:Nat}{G:Fun}(hT:TOk Δ T)(hD:TOk Δ TD):xf Δ G (Ca φ T TD n G):=by
 intro as s σ k r h hr;unfold Ca at hr;have hr:=yO n 0 .nil as (show A8 n 0 (Tr.nil:Env).get as _=some r from hr);obtain⟨m,x,e',σ',s',h1,h2,h3⟩:=RG hT hD _ _ s _ σ h hr;cases x with
 |exit id=>cases h3
 |nrm=>
  obtain⟨ds,h4,h5⟩:=vG h2 _ _ h3;exact⟨m,.nrm,e',σ',s',_,h1,λid h=>(by cases h),Ao h4,h2,h5⟩
 |ret=>
  obtain⟨ds,h4,h5⟩:=vG h2 _ _ h3;exact⟨m,.ret,e',σ',s',_,h1,λid h=>(by cases h),Ao h4,h2,h5⟩
theorem Hr{P:Program}{im:Nat→Option Nat}(hm:P.follows .mixedOrders=true)(hΔ:DOk P im Δ)(hT:TOk Δ T)(hD:TOk Δ TD){F:FuncId}{fn:Func}{c:Code}(hf:P.funcs[F]?=some fn)(hb:fn.body=some c)
 {G:Fun} (hG:G.er=wn P im G.mode fn) (φ n:Nat):Snd P im F (C9 φ T TD n G):=by
 intro as q hq;unfold C9 at hq;obtain⟨m,x,e,σ',s',d,h1,h2,h3,h4,h5⟩:=AI hT hD _ _ Sto.empty _ _ LSR.empty hq;obtain⟨q',h6,h7⟩:=ze h5;cases h7;rw[←h4.get]at h6;exact Wj (Dh hm hΔ m).1 hf hb hG h1 h2 h3 h6
end
def GE(o:Option (List Nat))(c:C):C:=
 match o with
 |some ls=>.cut ls c
 |none=>c
def Fy:C→List (Option (List Nat))→(C→List (Option (List Nat))→C)→C
 |.seq a b,an,k=>match an with
  |[]=>k (.seq a b) []
  |o::an=>Fy a an λa an=>Fy b an λb an=>k (.seq a (GE o b)) an
 |.loop c,an,k=>match an with
  |[]=>k (.loop c) []
  |o::an=>Fy c an λc an=>k (.loop (GE o c)) an
 |.cond x a b,an,k=>Fy a an λa an=>Fy b an λb an=>k (.cond x a b) an
 |.block id c,an,k=>Fy c an λc an=>k (.block id c) an
 |c,an,k=>k c an
theorem Hm(o:Option (List Nat))(c:C):(GE o c).er=c.er:=by cases o<;>rfl
theorem UN(X:C):∀(c:C)(an:List (Option (List Nat)))(k:C→List (Option (List Nat))→C),(∀c' an',c'.er=c.er→(k c' an').er=X)→(Fy c an k).er=X:=by
 intro c
 induction c with
 |seq a b iha ihb=>
  intro an k h;cases an with
  |nil=>exact h _ _ rfl
  |cons o an=>
   refine iha _ _ (λa' an' ha=>ihb _ _ (λb' an'' hb=>h _ _ ?_));show C.seq a'.er (GE o b').er=C.seq a.er b.er;rw[Hm,ha,hb]
 |loop c ih=>
  intro an k h;cases an with
  |nil=>exact h _ _ rfl
  |cons o an=>
   refine ih _ _ (λc' an' hc=>h _ _ ?_);show C.loop (GE o c').er=C.loop c.er;rw[Hm,hc]
 |cond x a b iha ihb=>
  intro an k h;refine iha _ _ (λa' an' ha=>ihb _ _ (λb' an'' hb=>h _ _ ?_));show C.cond x a'.er b'.er=C.cond x a.er b.er;rw[ha,hb]
 |block id c ih=>
  intro an k h;refine ih _ _ (λc' an' hc=>h _ _ ?_);show C.block id c'.er=C.block id c.er;rw[hc]
 |_=>intro an k h;exact h _ _ rfl
theorem Wz(P:Program)(im:Nat→Option Nat)(nt:Nat)(ops:List Oper)(draw:Bool):(Hy P im nt ops draw).er=Hy P im nt ops draw:=by
 unfold Hy;split
 ·split<;>rfl
 ·rfl
theorem C5(P:Program)(im:Nat→Option Nat)(nt:Nat):∀(c:Code),(j6 P im nt c).er=j6 P im nt c:=by
 intro c
 induction c with
 |region k ops draw=>exact Wz P im nt _ _
 |seq a b iha ihb=>simp only[j6,C.er,iha,ihb]
 |cond x a b iha ihb=>simp only[j6,C.er,iha,ihb]
 |block id c ih=>simp only[j6,C.er,ih]
 |loop c ih=>simp only[j6,C.er,ih]
 |scope c ih=>simp only[j6,ih]
 |_=>rfl
def rR(P:Program)(im:Nat→Option Nat)(mode:Nat)(an:List (Option (List Nat)))(fn:Func):Fun:=
 ⟨fn.params.size,fn.results.toList.map (Al P),mode,Fy (wn P im mode fn).body an λc _=>c⟩
theorem BI(P:Program)(im:Nat→Option Nat)(mode:Nat)(an:List (Option (List Nat)))(fn:Func):(rR P im mode an fn).er=wn P im (rR P im mode an fn).mode fn:=by
 have hb:(wn P im mode fn).body.er=(wn P im mode fn).body:=by
  unfold wn;split
  ·split
   ·exact C5 P im _ _
   ·rfl
  ·rfl
 have h:(rR P im mode an fn).body.er=(wn P im mode fn).body:=
  UN _ _ _ _ (λc' an' h=>by rw[h,hb])
 show(⟨_,_,_,(rR P im mode an fn).body.er⟩:Fun)=_;rw[h];rfl
def imA(F:Nat):List Nat→Nat→Option Nat
 |[],_=>none
 |x::r,i=>cnd (Nat.beq F x) (some i) (imA F r (Nat.succ i))
theorem Ha{F n:Nat}:∀{l:List Nat}{i:Nat},imA F l i=some n→i≤n∧l[n-i]?=some F
 |[],i,h=>by cases h
 |x::r,i,h=>by
  simp only[imA]at h;cases hb:Nat.beq F x with
  |true=>
   rw[hb]at h;have:=aT hb;subst this;simp only[eL,aA]at h;subst h;simp
  |false=>
   rw[hb]at h;obtain⟨h1,h2⟩:=Ha (show imA F r (Nat.succ i)=some n from h);refine⟨by omega,?_⟩;have:n-i=(n-Nat.succ i)+1:=by omega
   rw[this];exact h2
def sM(T:pG)(n:Nat)(ft:FT):pG:=λm=>cnd (Nat.beq m n) (some ft) (T m)
structure Lib (P:Program) (im:Nat→Option Nat) (n:Nat) where
 Δ:Tr Ent
 T:pG
 TD:pG
 ok:DOk P im Δ
 tok:TOk Δ T
 dok:TOk Δ TD
 bd:∀m,n≤m→Δ.get m=none
section
variable {P:Program} {im:Nat→Option Nat} {n:Nat}
def Lib.nil:Lib P im 0:=⟨.nil,λ_=>none,λ_=>none,⟨λF f en _ h=>(by cases h)⟩,λn ft h=>(by cases h),λn ft h=>(by cases h),λ_ _=>rfl⟩
def LeT(Δ Δ':Tr Ent):Prop:=∀m en,Δ.get m=some en→Δ'.get m=some en
theorem OI{Δ Δ':Tr Ent}(hl:LeT Δ Δ'):∀(k:Nat)(j:Job)(r:Out),run Δ k j=some r→run Δ' k j=some r:=by
 intro k
 induction k with
 |zero=>intro j r h;simp[run]at h
 |succ k ih=>
  intro j r h;cases j with
  |code c e σ=>
   cases c with
   |bad=>simp[run]at h
   |skip=>simpa only[run]using h
   |reg l=>simp only[run]at h;rw[run];exact ih _ _ h
   |seq a b=>
    simp only[run]at h;rw[run];split at h
    ·rename_i e1 σ1 h1;rw[ih _ _ h1];exact ih _ _ h
    ·rename_i x h1;rw[ih _ _ h];cases r with
     |val d σ=>rfl
     |code x e σ=>
      cases x with
      |nrm=>exact absurd h (h1 _ _)
      |exit id=>rfl
      |ret=>rfl
   |cond x a b=>
    simp only[run]at h;rw[run];split at h
    ·exact ih _ _ h
    ·exact ih _ _ h
    ·cases h
   |block id c=>
    simp only[run]at h;rw[run];split at h
    ·rename_i j e1 σ1 h1;rw[ih _ _ h1];exact h
    ·rename_i x h1;rw[ih _ _ h];cases r with
     |val d σ=>rfl
     |code x e σ=>
      cases x with
      |nrm=>rfl
      |exit j=>exact absurd h (h1 _ _ _)
      |ret=>rfl
   |loop c=>
    simp only[run]at h;rw[run];split at h
    ·rename_i e1 σ1 h1;rw[ih _ _ h1];exact ih _ _ h
    ·rename_i x h1;rw[ih _ _ h];cases r with
     |val d σ=>rfl
     |code x e σ=>
      cases x with
      |nrm=>exact absurd h (h1 _ _)
      |exit id=>rfl
      |ret=>rfl
   |exit id=>simpa only[run]using h
   |ret=>simpa only[run]using h
   |cut ls c=>simp only[run]at h;rw[run];exact ih _ _ h
  |ops l e σ=>
   cases l with
   |nil=>simpa only[run]using h
   |cons i l=>
    obtain⟨dst,gd,op⟩:=i;cases hg:gdv e gd with
    |none=>rw[KK hg]at h;cases h
    |some b=>
     cases b with
     |false=>
      rw[xG hg]at h;rw[xG hg];exact ih _ _ h
     |true=>
      by_cases hc:∃p f as,op=.call p f as
      ·obtain⟨p,f,as,rfl⟩:=hc;rw[xF hg]at h;rw[xF hg];split at h
       ·rename_i d σ1 h1;rw[ih _ _ h1];exact ih _ _ h
       ·cases h
      ·have hne:∀p f as,op≠.call p f as:=λp f as h=>hc ⟨p,f,as,h⟩;rw[uc hg hne]at h;rw[uc hg hne];split at h
       ·exact ih _ _ h
       ·split at h
        ·exact ih _ _ h
        ·cases h
  |call p f as σ=>
   cases f
   case fn f caps=>
    rw[vb]at h;rw[vb];cases hΔ:Δ.get f with
    |none=>simp only[hΔ]at h;cases h
    |some en=>
     simp only[hΔ]at h;simp only[hl _ _ hΔ];cases en with
     |model M=>exact h
     |body F=>
      simp only at h ⊢;split at h
      ·split at h
       ·rename_i x e σ1 h1;simp only[ih _ _ h1];exact h
       ·cases h
      ·split at h
       ·rename_i as' ls hm;split at h
        ·rename_i x e σ1 h1;simp only[ih _ _ h1];exact h
        ·cases h
       ·cases h
   all_goals simp[run]at h
theorem xf.le{Δ Δ':Tr Ent}(hl:LeT Δ Δ'){G:Fun}{M2:List D→LS→(D→LS→Rs)→Rs}(h:xf Δ G M2):xf Δ' G M2:=by
 intro as s σ k r hs hr;obtain⟨n,x,e,σ',s',d,h1,h2⟩:=h as s σ k r hs hr;exact⟨n,x,e,σ',s',d,OI hl _ _ _ h1,h2⟩
theorem N8.le{Δ Δ':Tr Ent}(hl:LeT Δ Δ'){n:Nat}{ft:FT}(h:N8 Δ n ft):N8 Δ' n ft:=by
 cases ft with
 |iso M=>
  rcases h with h|⟨G,h1,h2,h3⟩
  ·exact .inl (hl _ _ h)
  ·refine .inr ⟨G,hl _ _ h1,h2,λas q hq=>?_⟩;obtain⟨n,x,e,σ,d,g1,g2⟩:=h3 as q hq;exact⟨n,x,e,σ,d,OI hl _ _ _ g1,g2⟩
 |mem M2=>
  obtain⟨G,h1,h2,h3⟩:=h;exact⟨G,hl _ _ h1,h2,h3.le hl⟩
theorem TOk.le{Δ Δ':Tr Ent}(hl:LeT Δ Δ'){T:pG}(h:TOk Δ T):TOk Δ' T:=λn ft hf=>(h n ft hf).le hl
theorem TOk.set{Δ:Tr Ent}{T:pG}(h:TOk Δ T){n:Nat}{ft:FT}(hf:N8 Δ n ft):TOk Δ (sM T n ft):=by
 intro m ft' hm;unfold sM at hm;cases hb:Nat.beq m n with
 |true=>
  rw[hb]at hm;have:=aT hb;subst this;cases hm;exact hf
 |false=>rw[hb]at hm;exact h m ft' hm
theorem LeT.set{Δ:Tr Ent}(hb:Δ.get n=none)(en:Ent):LeT Δ (Δ.set n en):=by
 intro m en' hm;rw[Tr.get_set];by_cases h:m=n
 ·subst h;rw[hb]at hm;cases hm
 ·rw[aE h];exact hm
structure FnOk (P:Program) (im:Nat→Option Nat) (n:Nat) (F:FuncId) (fn:Func):Prop where
 fun':P.funcs[F]?=some fn
 nm:(fn.name== "runtime.NumGoroutine")=false
 body:fn.body.isSome=true
 uniq:∀F',im F'=some n→F'=F
theorem Fj{Δ:Tr Ent}(h:DOk P im Δ){F:FuncId}{fn:Func}(hF:FnOk P im n F fn){en:Ent}(he:match en with
 |.body G=>G.er=wn P im G.mode fn
 |.model M=>Snd P im F M):DOk P im (Δ.set n en):=by
 refine⟨λF' f en' hf hen=>?_⟩;rw[Tr.get_set]at hen;by_cases hfn:f=n
 ·rw[aC hfn]at hen;cases hen;rw[hfn]at hf;have:=hF.uniq F' hf;subst this;obtain⟨c,hc⟩:=z0K.1 hF.body;exact⟨fn,c,hF.fun',hF.nm,hc,he⟩
 ·rw[aE hfn]at hen;exact h.ent F' f en' hf hen
theorem R7{Δ:Tr Ent}(h:∀m,n≤m→Δ.get m=none)(en:Ent):∀m,n+1≤m→(Δ.set n en).get m=none:=by
 intro m hm;rw[Tr.get_set,aE (by omega)];exact h m (by omega)
def Lib.iso(L:Lib P im n)(dyn:Bool){F:FuncId}{fn:Func}(hF:FnOk P im n F fn)(M:List D→Option D)(hM:Snd P im F M):Lib P im (n+1) where
 Δ:=L.Δ.set n (.model M)
 T:=sM L.T n (.iso M)
 TD:=cnd dyn (sM L.TD n (.iso M)) L.TD
 ok:=Fj L.ok hF hM
 tok:=(L.tok.le (LeT.set (L.bd n (aD _)) _)).set (Or.inl (by rw[Tr.get_set,aC rfl]))
 dok:=by
  have h:=L.dok.le (LeT.set (L.bd n (aD _)) (.model M));cases dyn
  ·exact h
  ·exact h.set (Or.inl (by rw[Tr.get_set,aC rfl]))
 bd:=R7 L.bd _
def Lib.mem(L:Lib P im n)(dyn:Bool){F:FuncId}{fn:Func}(hF:FnOk P im n F fn)(an:List (Option (List Nat)))(M2:List D→LS→(D→LS→Rs)→Rs)(hM:xf (L.Δ.set n (.body (rR P im 2 an fn))) (rR P im 2 an fn) M2):Lib P im (n+1) where
 Δ:=L.Δ.set n (.body (rR P im 2 an fn))
 T:=sM L.T n (.mem M2)
 TD:=cnd dyn (sM L.TD n (.mem M2)) L.TD
 ok:=Fj L.ok hF (BI P im 2 an fn)
 tok:=(L.tok.le (LeT.set (L.bd n (aD _)) _)).set ⟨_,by rw[Tr.get_set,aC rfl],rfl,hM⟩
 dok:=by
  have h:=L.dok.le (LeT.set (L.bd n (aD _)) (.body (rR P im 2 an fn)));cases dyn
  ·exact h
  ·exact h.set ⟨_,by rw[Tr.get_set,aC rfl],rfl,hM⟩
 bd:=R7 L.bd _
theorem Lib.snd(hm:P.follows .mixedOrders=true)(L:Lib P im n){F:FuncId}{fn:Func}(hf:P.funcs[F]?=some fn)(hb:fn.body.isSome=true)(φ na mode:Nat)(an:List (Option (List Nat))){M:List D→Option D}
 (h:C9 φ L.T L.TD na (rR P im mode an fn)=M):Snd P im F M:=by
 obtain⟨c,hc⟩:=z0K.1 hb;rw[←h];exact Hr hm L.ok L.tok L.dok hf hc (BI P im mode an fn) φ na
theorem Lib.memOk(L:Lib P im n)(en:Ent)(G:Fun)(φ na:Nat){M2:List D→LS→(D→LS→Rs)→Rs}(h:Ca φ L.T L.TD na G=M2):xf (L.Δ.set n en) G M2:=by
 rw[←h];have hl:=LeT.set (L.bd n (aD _)) en;exact AI (L.tok.le hl) (L.dok.le hl)
theorem Lib.memRec(L:Lib P im n)(dyn:Bool)(an:List (Option (List Nat)))(fn:Func)(φ na:Nat){step:(List D→LS→(D→LS→Rs)→Rs)→List D→LS→(D→LS→Rs)→Rs}
 (h:(λih=>Ca φ (sM L.T n (.mem ih)) (cnd dyn (sM L.TD n (.mem ih)) L.TD) na (rR P im 2 an fn))=step):∀i:Nat,xf (L.Δ.set n (.body (rR P im 2 an fn))) (rR P im 2 an fn) (lp (λ_ _ _=>none) step i):=by
 intro i;have hl:=LeT.set (L.bd n (aD _)) (.body (rR P im 2 an fn))
 induction i with
 |zero=>intro as s σ k r hs hr;cases hr
 |succ i ih=>
  have hft:N8 (L.Δ.set n (.body (rR P im 2 an fn))) n (.mem (lp (λ_ _ _=>none) step i)):=⟨_,by rw[Tr.get_set,aC rfl],rfl,ih⟩
  have h3:=congrFun h (lp (λ_ _ _=>none) step i);show xf _ _ (step (lp (λ_ _ _=>none) step i));rw[←h3];refine AI ((L.tok.le hl).set hft) ?_;cases dyn
  ·exact L.dok.le hl
  ·exact(L.dok.le hl).set hft
def yV(P:Program)(im:Nat→Option Nat)(n:Nat)(T TD:pG):Prop:=∃L:Lib P im n,L.T=T∧L.TD=TD
variable {T TD:pG}
theorem yV.nil:yV P im 0 (λ_=>none) (λ_=>none):=⟨Lib.nil,rfl,rfl⟩
theorem yV.iso(h:yV P im n T TD)(dyn:Bool){F:FuncId}{fn:Func}(hF:FnOk P im n F fn){M:List D→Option D}(hM:Snd P im F M):
 yV P im (n+1) (sM T n (.iso M)) (cnd dyn (sM TD n (.iso M)) TD):=by
 obtain⟨L,rfl,rfl⟩:=h;exact⟨L.iso dyn hF M hM,rfl,rfl⟩
theorem yV.snd(h:yV P im n T TD)(hm:P.follows .mixedOrders=true){F:FuncId}{fn:Func}(hF:FnOk P im n F fn){φ na mode:Nat}{an:List (Option (List Nat))}{M:List D→Option D}
 (he:C9 φ T TD na (rR P im mode an fn)=M):Snd P im F M:=by
 obtain⟨L,rfl,rfl⟩:=h;exact Lib.snd hm L hF.fun' hF.body φ na mode an he
theorem yV.mem(h:yV P im n T TD)(dyn:Bool){F:FuncId}{fn:Func}(hF:FnOk P im n F fn){φ na:Nat}{an:List (Option (List Nat))}{M2:List D→LS→(D→LS→Rs)→Rs}
 (he:Ca φ T TD na (rR P im 2 an fn)=M2):yV P im (n+1) (sM T n (.mem M2)) (cnd dyn (sM TD n (.mem M2)) TD):=by
 obtain⟨L,rfl,rfl⟩:=h;exact⟨L.mem dyn hF an M2 (L.memOk _ _ φ na he),rfl,rfl⟩
theorem yV.memRec(h:yV P im n T TD)(dyn:Bool){F:FuncId}{fn:Func}(hF:FnOk P im n F fn){φ na:Nat}{an:List (Option (List Nat))}{step:(List D→LS→(D→LS→Rs)→Rs)→List D→LS→(D→LS→Rs)→Rs}
 (he:(λih=>Ca φ (sM T n (.mem ih)) (cnd dyn (sM TD n (.mem ih)) TD) na (rR P im 2 an fn))=step) (i:Nat):
 yV P im (n+1) (sM T n (.mem (lp (λ_ _ _=>none) step i))) (cnd dyn (sM TD n (.mem (lp (λ_ _ _=>none) step i))) TD):=by
 obtain⟨L,rfl,rfl⟩:=h;exact⟨L.mem dyn hF an _ (L.memRec dyn an fn φ na he i),rfl,rfl⟩
theorem UE{l:List Nat}{F:FuncId}{fn:Func}(h1:P.funcs[F]?=some fn)(h2:(fn.name== "runtime.NumGoroutine")=false)(h3:fn.body.isSome=true)(h4:l[n]?=some F):FnOk P (λF=>imA F l 0) n F fn:=
 ⟨h1,h2,h3,λF' h=>by
  have:=(Ha h).2;rw[Nat.sub_zero,h4]at this;exact(ck this).symm⟩
end
variable {kk:IntKind} {a b n:Nat} {k:D→Rs} {s:LS} {K:D→LS→Rs}
theorem HF{no:Rs}(h:n≤jX kk):mkI kk n k no=k (.i kk (.ofNat n)):=by
 unfold mkI;rw[aF h,eL,fA]
theorem zp{no:Rs}:mkI .u64 n k no=k (.i .u64 (.ofNat (n%18446744073709551616))):=by
 unfold mkI;by_cases h:n≤jX .u64
 ·rw[aF h,eL,fA];have:n<18446744073709551616:=Nat.lt_succ_of_le h;rw[bJ this]
 ·rw[kY h,e9];rw[show Nat.beq (uO .u64) 0=false from rfl,e9,fA];rfl
theorem YQ{no:Rs}:mkI .u8 n k no=k (.i .u8 (.ofNat (n%256))):=by
 unfold mkI;by_cases h:n≤jX .u8
 ·rw[aF h,eL,fA];have:n<256:=Nat.lt_succ_of_le h;rw[bJ this]
 ·rw[kY h,e9];rw[show Nat.beq (uO .u8) 0=false from rfl,e9,fA];rfl
theorem qA{f:IntKind→Nat→Nat→Rs}{no:Rs}:on2 (.i kk (.ofNat a)) (.i kk (.ofNat b)) f no=f kk a b:=by
 show cnd (Nat.beq (ug kk) (ug kk)) (f kk a b) no=_;rw[ej];rfl
theorem nk(h:a+b≤jX kk):ee (.i kk (.ofNat a)) (.i kk (.ofNat b)) k=k (.i kk (.ofNat (a+b))):=by
 unfold ee;rw[qA];exact HF h
theorem yE(h:a*b≤jX kk):kv (.i kk (.ofNat a)) (.i kk (.ofNat b)) k=k (.i kk (.ofNat (a*b))):=by
 unfold kv;rw[qA];exact HF h
theorem oM(hb:b≤a)(h:a≤jX kk):et (.i kk (.ofNat a)) (.i kk (.ofNat b)) k=k (.i kk (.ofNat (a-b))):=by
 unfold et;rw[qA,aF hb,eL];exact HF (bT (Nat.sub_le _ _) h)
theorem gG(h:a≠b):Nat.beq a b=false:=by
 cases hq:Nat.beq a b with
 |false=>rfl
 |true=>exact absurd (aT hq) h
theorem F3(hb:b≠0)(h:a≤jX kk):u7 (.i kk (.ofNat a)) (.i kk (.ofNat b)) k=k (.i kk (.ofNat (a/b))):=by
 unfold u7;rw[qA,gG hb,e9];exact HF (bT (z16 _ _) h)
theorem JO(hb:b≠0):JP (.i kk (.ofNat a)) (.i kk (.ofNat b)) k=k (.i kk (.ofNat (a%b))):=by
 unfold JP;rw[qA,gG hb,e9,fA];rfl
theorem ji:fN (.i kk (.ofNat a)) (.i kk (.ofNat b)) k=k (.b (Nat.blt a b)):=by
 unfold fN;rw[qA,tZ]
theorem nj:kC (.i kk (.ofNat a)) (.i kk (.ofNat b)) k=k (.b (Nat.blt b a)):=by
 unfold kC;rw[qA,tZ]
theorem pb:gx (.i kk (.ofNat a)) (.i kk (.ofNat b)) k=k (.b (Nat.beq a b)):=by
 unfold gx;rw[qA,tZ]
theorem VL(ha:a≤jX kk)(hb:b≤jX kk):kOr (.i kk (.ofNat a)) (.i kk (.ofNat b)) k=k (.i kk (.ofNat (a|||b))):=by
 unfold kOr inK;rw[qA,aF ha,aF hb,eL,eL,fA];rfl
theorem Ko(h:a≤b):HS a b=a:=by unfold HS;rw[aF h];rfl
theorem uh{k2:IntKind}(hb:b≤64):vm (.i .u64 (.ofNat a)) (.i k2 (.ofNat b)) k=k (.i .u64 (.ofNat (a*2^b%18446744073709551616))):=by
 show mkI .u64 (Nat.mul a (Nat.pow 2 (HS b 64))) k _=_;rw[Ko hb];exact zp
theorem uB{k2:IntKind}(hb:b≤64):o5 (.i .u64 (.ofNat a)) (.i k2 (.ofNat b)) k=k (.i .u64 (.ofNat (a/2^b))):=by
 show(frc (Nat.div a (Nat.pow 2 (HS b 64))) λn=>k (.i .u64 (.ofNat n)))=_;rw[Ko hb,fA];rfl
theorem we{k2:IntKind}(h:n≤jX kk):lP kk (.i k2 (.ofNat n)) s K=K (.i kk (.ofNat n)) s:=by
 show mkI kk n (λd=>K d s) _=_;exact HF h
theorem CG{k2:IntKind}:lP .u8 (.i k2 (.ofNat n)) s K=K (.i .u8 (.ofNat (n%256))) s:=by
 show mkI .u8 n (λd=>K d s) _=_;exact YQ
theorem xK{m:Nat}:kS (.lens (.c (.n m))) s K=K (.i .i64 (.ofNat (eo m).length)) s:=by
 have he:evA s.nx cv s.get (.lens (.c (.n m)))=some (.i .i64 (.ofNat (eo m).length),[]):=rfl;unfold kS sA;rw[he];show zG _ _=_;rw[rj]
theorem CM{m i:Nat}{c:UInt8}{k2:IntKind}(h:(eo m)[i]?=some c):kS (.index (.c (.n m)) (.c (.i k2 (.ofNat i)))) s K=K (.i .u8 (.ofNat c.toNat)) s:=by
 have he:evA s.nx cv s.get (.index (.c (.n m)) (.c (.i k2 (.ofNat i))))=some (.i .u8 (.ofNat c.toNat),[]):=by
  simp only[evA,cv,str];rw[aC (by simp)];have:(Int.ofNat i).toNat=i:=rfl;rw[this,mz h];rfl
 unfold kS sA;rw[he];show zG _ _=_;rw[rj]
def st1(cs:List D):LS:=⟨.node (some ⟨cs,.rw⟩) .nil .nil,1⟩
variable {cs:List D} {i len cm:Nat} {ex:Bool} {d:D} {k2:IntKind}
theorem ua:(st1 cs).get 0=some ⟨cs,.rw⟩:=rfl
theorem ng{off:Nat}(h:i<len):eK 1 (st1 cs) (.sl 0 off len cm 1 ex) (.i k2 (.ofNat i)) K=K (.ptr 0 (off+i)) (st1 cs):=by
 show jQ (st1 cs) 0 (λb=>cnd (lv b.st) (cnd (Nat.blt i len) (cnd (Nat.beq 1 1) (frc (Nat.add off (Nat.mul i 1)) λo=>K (.ptr 0 o) (st1 cs)) none) none) none)=_;rw[oe,ua];show cnd (Nat.blt i len) (frc (Nat.add off (Nat.mul i 1)) λo=>K (.ptr 0 o) (st1 cs)) none=_;rw[ep h,eL,fA];have:Nat.add off (Nat.mul i 1)=off+i:=by show off+i*1=off+i;omega
 rw[this]
theorem sY(h:cs[i]?=some d):eJ (st1 cs) (.ptr 0 i) K=K d (st1 cs):=by
 show jQ (st1 cs) 0 (λb=>cnd (lv b.st) (Ac i b.cs λd=>K d (st1 cs)) none)=_;rw[oe,ua];show Ac i cs (λd=>K d (st1 cs))=_;rw[yr,h];rfl
theorem wc{α:Type}{x:α}{l:List α}(h:i<l.length):Ae i [x] l=some (l.set i x):=by
 unfold Ae;rw[aC (by simp;omega),z0S,aC h];simp
theorem uP(h:i<cs.length):eU 1 (st1 cs) (.ptr 0 i) (.i kk (.ofNat n)) K=K .u (st1 (cs.set i (.i kk (.ofNat n)))):=by
 show jQ (st1 cs) 0 (λb=>cnd (wr b.st) (ur i [.i kk (.ofNat n)] b.cs λcs'=>oN (st1 cs) 0 ⟨cs',.rw⟩ λs=>K .u s) none)=_;rw[oe,ua];show(ur i [.i kk (.ofNat n)] cs λcs'=>oN (st1 cs) 0 ⟨cs',.rw⟩ λs=>K .u s)=_;rw[od,wc h];rfl
theorem rC(z:D):∀n,oG n [z]=List.replicate n z
 |0=>rfl
 |n+1=>by
  show z::oG n [z]=_;rw[rC z n];rfl
theorem yz{bytes:Nat}{z:D}(h1:n≤140737488355328)(h2:n*bytes≤140737488355328):mK 1 bytes [z] s0 (.i .i64 (.ofNat n)) (.i .i64 (.ofNat n)) K=K (.sl 0 0 n n 1 true) (st1 (List.replicate n z)):=by
 unfold mK;rw[qA];show cnd (Nat.ble n n) (cnd (Nat.ble n 140737488355328) (cnd (Nat.ble (Nat.mul n bytes) 140737488355328) (v6 [z] n λcs=>ku s0 ⟨cs,.rw⟩ λs'=>K (.sl 0 0 n n 1 true) s') none) none) none=_;rw[aF (aD n),aF h1,aF (show Nat.mul n bytes≤140737488355328 from h2)];simp only[eL];rw[rE,rC,lY];rfl
theorem OW{cs:List D}{len:Nat}(hc:cs.all ot=true)(hl:cs.length=len):eX true (st1 cs) (.sl 0 0 len len 1 true) some=some (.own cs len 1):=by
 unfold eX;rw[mU];show uw (nu true (st1 cs).get fv (.sl 0 0 len len 1 true)) some=_;have:nu true (st1 cs).get fv (.sl 0 0 len len 1 true)=some (.own cs len 1):=by
  have hcut:cut 0 (len*1) cs=some cs:=by
   unfold cut;rw[aj,ai,←hl,c7];simp
  have hm:iP (res (st1 cs).get fv) cs=some (cs,[]):=kL (k:=59) cs hc;simp only[nu,tN,ua,Stt.wr,bf,hcut,hm];rfl
 rw[this,gS];rfl
end
end Go.Proofs.Ev
namespace Go.Proofs.Ev
abbrev B64:Nat:=18446744073709551616
def val:List Nat→Nat
 |[]=>0
 |w::ws=>w+B64*val ws
def dg:Nat→Nat→List Nat
 |0,_=>[]
 |n+1,m=>m%B64::dg n (m/B64)
def kx(ws:List Nat):Prop:=∀w,w∈ws→w<B64
theorem RF:∀{ws:List Nat},kx ws→dg ws.length (val ws)=ws
 |[],_=>rfl
 |w::ws,h=>by
  have h1:w<B64:=h w (by simp);show(w+B64*val ws)%B64::dg ws.length ((w+B64*val ws)/B64)=w::ws;have e1:(w+B64*val ws)%B64=w:=by rw[ch,bJ h1]
  have e2:(w+B64*val ws)/B64=val ws:=by
   rw[z17 _ _ (by decide),cL h1,aV]
  rw[e1,e2,RF (λx hx=>h x (by simp[hx]))]
theorem xj:∀{ws:List Nat},kx ws→val ws<B64^ws.length
 |[],_=>by simp[val]
 |w::ws,h=>by
  have h1:w<B64:=h w (by simp);have h2:=xj (ws:=ws) (λx hx=>h x (by simp[hx]));show w+B64*val ws<B64^(ws.length+1);rw[av,aK (B64^ws.length)];have h3:B64*(val ws+1)≤B64*B64^ws.length:=aZ _ h2;rw[bA,ai]at h3;omega
theorem xC:∀{ws:List Nat}{j w:Nat},kx ws→ws[j]?=some w→w=val ws/B64^j%B64
 |[],j,w,_,h=>by simp at h
 |x::ws,0,w,hs,h=>by
  simp only[bG,aA]at h;subst h;have h1:x<B64:=hs x (by simp);rw[ce,Nat.div_one];show x=(x+B64*val ws)%B64;rw[ch,bJ h1]
 |x::ws,j+1,w,hs,h=>by
  simp only[bM]at h;have h1:x<B64:=hs x (by simp);have ih:=xC (λy hy=>hs y (by simp[hy])) h;have e2:(x+B64*val ws)/B64=val ws:=by
   rw[z17 _ _ (by decide),cL h1,aV]
  show w=(x+B64*val ws)/B64^(j+1)%B64;rw[av,aK (B64^j),←Nat.div_div_eq_div_mul,e2];exact ih
theorem Jx:∀{ws:List Nat}{j w:Nat}(y:Nat),ws[j]?=some w→val (ws.set j (w+y))=val ws+y*B64^j
 |[],j,w,y,h=>by simp at h
 |x::ws,0,w,y,h=>by
  simp only[bG,aA]at h;subst h;show x+y+B64*val ws=x+B64*val ws+y*B64^0;rw[ce];omega
 |x::ws,j+1,w,y,h=>by
  simp only[bM]at h;have ih:=Jx y h;show x+B64*val (ws.set j (w+y))=x+B64*val ws+y*B64^(j+1);rw[ih,av,bA];have:B64*(y*B64^j)=y*(B64^j*B64):=by rw[←aU,aK B64 y,aU,aK B64 (B64^j)]
  omega
theorem BQ(j:Nat):B64^j=2^(64*j):=by rw[dm]
theorem TE(j:Nat):256^j=2^(8*j):=by rw[dm]
theorem TI{ws:List Nat}{A b k w:Nat}(hs:kx ws)(hw:ws[k/8]?=some w)(hb:b<256)(hv:val ws=A*256^(k+1)):
 w|||b*2^(8*(k%8))=w+b*2^(8*(k%8))∧w+b*2^(8*(k%8))<B64∧val (ws.set (k/8) (w+b*2^(8*(k%8))))=(A*256+b)*256^k:=by
 have hwv:=xC hs hw;have hk:8*(k+1)=(8*(k%8)+8)+64*(k/8):=by omega
 have hle:8*(k%8)+8≤64:=by omega
 have e1:val ws/B64^(k/8)=A*2^(8*(k%8)+8):=by
  rw[hv,TE,BQ,hk,bY,←aU,z1j _ (bR (by decide))]
 have e2:B64=2^(8*(k%8)+8)*2^(64-(8*(k%8)+8)):=by
  rw[←bY,show 8*(k%8)+8+(64-(8*(k%8)+8))=64 by omega]
 have e3:w=2^(8*(k%8)+8)*(A%2^(64-(8*(k%8)+8))):=by
  rw[hwv,e1,e2,aK A,Nat.mul_mod_mul_left]
 have hy:b*2^(8*(k%8))<2^(8*(k%8)+8):=by
  rw[bY,aK (2^(8*(k%8)))];exact dD hb (bR (by decide))
 have hq:A%2^(64-(8*(k%8)+8))<2^(64-(8*(k%8)+8)):=bg _ (bR (by decide));refine⟨?_,?_,?_⟩
 ·rw[e3];exact(dZ hy _).symm
 ·have h3:2^(8*(k%8)+8)*(A%2^(64-(8*(k%8)+8))+1)≤2^(8*(k%8)+8)*2^(64-(8*(k%8)+8)):=aZ _ hq;rw[←e2,bA,ai,←e3]at h3;omega
 ·rw[Jx _ hw,hv,BQ,aU b,←bY,show 8*(k%8)+64*(k/8)=8*k by omega,←TE,av,aP,aK (256^k) 256,aU]
theorem lW:∀(l:List UInt8)(acc:Nat),ef l acc=acc*256^l.length+ef l 0
 |[],acc=>by simp[ef]
 |c::l,acc=>by
  show ef l (acc*256+c.toNat)=acc*256^(l.length+1)+ef l (0*256+c.toNat);rw[lW l (acc*256+c.toNat),lW l (0*256+c.toNat),av,aP,bP,aV,aU,aK 256];omega
theorem wL:∀(k m:Nat)(acc:List UInt8),m≤k→ef (ll k m acc) 0=ef acc m
 |0,m,acc,h=>by
  have:m=0:=by omega
  subst this;rfl
 |k+1,m,acc,h=>by
  show ef (cond (Nat.beq m 0) acc (ll k (m/256) (UInt8.ofNat (m%256)::acc))) 0=_;by_cases hm:m=0
  ·subst hm;rfl
  ·rw[gG hm,cond_false,wL k (m/256) _ (by omega)];show ef acc (m/256*256+(UInt8.ofNat (m%256)).toNat)=_;have:(UInt8.ofNat (m%256)).toNat=m%256:=by simp
   rw[this];congr 1;omega
theorem mc(m:Nat):ef (eo m) 0=m:=by
 unfold eo;rw[wL _ _ _ (aD _)];rfl
theorem wZ:∀(k m:Nat)(acc:List UInt8),0<m→m≤k→∃c r,ll k m acc=c::r∧c.toNat≠0
 |0,m,acc,h0,h=>by omega
 |k+1,m,acc,h0,h=>by
  show ∃c r,cond (Nat.beq m 0) acc (ll k (m/256) (UInt8.ofNat (m%256)::acc))=c::r∧c.toNat≠0;rw[gG (show m≠0 by omega),cond_false];by_cases hq:m/256=0
  ·rw[hq];refine⟨UInt8.ofNat (m%256),acc,?_,?_⟩
   ·cases k<;>rfl
   ·have:(UInt8.ofNat (m%256)).toNat=m%256:=by simp
    rw[this];omega
  ·exact wZ k (m/256) _ (by omega) (by omega)
theorem sg{m:Nat}(h:0<m):∃c r,eo m=c::r∧c.toNat≠0:=wZ m m [] h (aD _)
theorem tI{m:Nat}(h:0<m):256^((eo m).length-1)≤m∧0<(eo m).length:=by
 obtain⟨c,r,h1,h2⟩:=sg h;have h3:=mc m;rw[h1]at h3 ⊢;have h4:ef r (0*256+c.toNat)=m:=h3;rw[lW,bP,aV]at h4;refine⟨?_,by simp⟩;simp only[ay,a7];have:1*256^r.length≤c.toNat*256^r.length:=aL _ (by omega);omega
theorem DO:eo 0=[]:=rfl
end Go.Proofs.Ev
