/- What the evaluator and the residuals compute. -/
import Derived.Test.YthljpappkomocaaGreatA2
import Derived.Test.YthljpappkomocaaGreatA3
set_option linter.all false
namespace Go.Proofs.Ev
noncomputable section
variable {s:LS} {K:fK} {k:D->Rs}
def UK{a:Int}{b:Nat}:gD (.i .i64 a) (.i .i64 (.ofNat b)) k=k (.b (decide (a<(b:Int)))):=by
 cases a with
 |ofNat a=>
  rw[jp];by_cases h:a<b
  ·rw[fk h,ac (by simp only[ag];omega)]
  ·rw[fw h,aU (by simp only[ag];omega)]
 |negSucc a=>
  show gN .lss (.i .i64 (.negSucc a)) (.i .i64 (.ofNat b)) k=_;unfold gN;rw[gc];rfl
def LJ{a:Int}{b:Nat}:kH (.i .i64 a) (.i .i64 (.ofNat b)) k=k (.b (decide (a>(b:Int)))):=by
 cases a with
 |ofNat a=>
  rw[qF];by_cases h:b<a
  ·rw[fk h,ac (by simp only[ag];omega)]
  ·rw[fw h,aU (by simp only[ag];omega)]
 |negSucc a=>
  show gN .gtr (.i .i64 (.negSucc a)) (.i .i64 (.ofNat b)) k=_;unfold gN;rw[gc];rfl
def z32{M:fP}{x:Bool}(h:M []=some (.b x)):eY M [] s K=K (.b x) s:=by
 show ob (M []) (λr=>nD s [] r K)=_;rw[h];rfl
def KZ{x:Bool}:fO false s (.b x) some=some (.b x):=rfl
def Vy(n:Nat)(f:Nat->Bool):Bool:=Nat.rec (motive:=λ_=>Bool) true (λj ih=>cnd (f j) ih false) n
def Cj:∀{n:Nat}{f:Nat->Bool}{i:Nat},Vy n f=true->i<n->f i=true
 |0,f,i,h,hi=>eP
 |n+1,f,i,h,hi=>by
  have h:cnd (f n) (Vy n f) false=true:=h;cases hq:f n with
  |false=>rw[hq]at h;cases h
  |true=>
   rw[hq,fH]at h;by_cases e:i=n
   ·rw[e];exact hq
   ·exact Cj h eP
variable {P:Program} {im:Nat->Option Nat} {okp:Nat->Nat->Prop} {w w':World}
def RR.keptBut{r:D}{v:Value}(h:RR im okp w w' r v)(may:MemPlace->Prop):w.keptBut w' may:=by
 obtain⟨hs,hk,hsm,ob,ho⟩:=h;refine⟨hsm.os,hsm.out,λi hi=>?_⟩;have:=(World.keptBut_refl w may).2.2 i hi;rw[hk i hi];exact this
def RR.bool{x:Bool}{v:Value}(h:RR im okp w w' (.b x) v):v=.bool x:=by
 obtain⟨hs,hk,hsm,ob,ho⟩:=h;simpa[WL,TR]using ho
def law_two{F:FuncId}{M:fP}(hS:Snd P im F M){a0 a1:Int}(h:M [.i .i64 a0,.i .i64 a1]=some (.b true))(w:World):
 Calls P F #[.int .i64 a0,.int .i64 a1] w (λe w'=>e=.returned (.bool true)/\w.keptBut w' (λ_=>False)):=by
 refine Calls.mono (hS _ _ h [.int .i64 a0,.int .i64 a1] w (λ_ _=>False) (by simp[TRl,TR]) (λb o hb=>hb.elim)) (λe w' he=>?_);cases e with
 |outgrown=>exact he.elim
 |panicked c=>exact he.elim
 |returned v=>
  exact⟨by rw[RR.bool he],RR.keptBut he _⟩
end
end Go.Proofs.Ev
namespace Go.Proofs.Ev
noncomputable section
def Tn(G:Nat->Nat->Option FT)(n φ:Nat):qP:=λk=>cnd (Nat.blt k n) (G φ k) none
def yA{G:Nat->Nat->Option FT}{n φ:Nat}{x:FT}(h:G φ n=some x):oQ (Tn G n φ) n x=Tn G (n+1) φ:=by
 funext k;unfold oQ Tn;by_cases e:k=n
 ·subst e;rw[show Nat.beq k k=true from dW k,fH,fk (co k),fH,h]
 ·rw[show Nat.beq k n=false from ik e,fq];by_cases hlt:k<n
  ·rw[fk hlt,fk eP]
  ·rw[fw hlt,fw eP]
variable {P:Program} {l:eZ} {G:Nat->Nat->Option FT} {n F:Nat} {TD:Nat->qP} {fn:Func} {na md:Nat} {an:List (Option eZ)}
def Lb(P:Program)(l:eZ)(G:Nat->Nat->Option FT)(n:Nat)(TD:Nat->qP):Prop:=P.follows .mixedOrders=true/\∀φ,AC P (λF=>imA F l 0) n (Tn G n φ) (TD φ)
def Lb.nil(hm:P.follows .mixedOrders=true):Lb P l G 0 λ_ _=>none:=⟨hm,λφ=>by
 have:Tn G 0 φ=λ_=>none:=by funext k;exact(by rw[Tn,fw (cO k),fq])
 rw[this];exact AC.nil⟩
def Fc(P:Program)(l:eZ)(n F:Nat)(fn:Func):Prop:=(P.funcs[F]?,(fn.name== "runtime.NumGoroutine",fn.body.isSome),l[n]?)=(some fn,(false,true),some F)
def Fc.ok(h:Fc P l n F fn):FnOk P (λF=>imA F l 0) n F fn:=by
 simp only[Fc,aI]at h;exact Xy h.1 h.2.1.1 h.2.1.2 h.2.2
def Lb.put(h:Lb P l G n TD)(f:Fc P l n F fn){M:Nat->fP}(hM:∀φ,Snd P (λF=>imA F l 0) F (M φ))(g:(λφ=>G φ n)=λφ=>some (.iso (M φ))):Lb P l G (n+1) TD:=
 ⟨h.1,λφ=>by rw[<-yA (congrFun g φ)];exact(h.2 φ).iso false f.ok (hM φ)⟩
def Lb.putd(h:Lb P l G n TD)(f:Fc P l n F fn){M:Nat->fP}(hM:∀φ,Snd P (λF=>imA F l 0) F (M φ))(g:(λφ=>G φ n)=λφ=>some (.iso (M φ))):
 Lb P l G (n+1) λφ=>oQ (TD φ) n (.iso (M φ)):=
 ⟨h.1,λφ=>by rw[<-yA (congrFun g φ)];exact(h.2 φ).iso true f.ok (hM φ)⟩
def Lb.snd(h:Lb P l G n TD)(f:Fc P l n F fn){R:Nat->fP}(e:(λφ=>BW φ (Tn G n φ) (TD φ) na (qW P (λF=>imA F l 0) md an fn))=R)(φ:Nat):Snd P (λF=>imA F l 0) F (R φ):=
 (h.2 φ).snd h.1 f.ok (congrFun e φ)
def Lb.sndM(h:Lb P l G n TD)(f:Fc P l n F fn){R M:Nat->fP}(hM:∀φ xs r,M φ xs=some r->∃φ',R φ' xs=some r)(e:(λφ=>BW φ (Tn G n φ) (TD φ) na (qW P (λF=>imA F l 0) md an fn))=R)(φ:Nat):Snd P (λF=>imA F l 0) F (M φ):=λxs r hr=>by
 obtain⟨φ',h'⟩:=hM φ xs r hr;exact h.snd f e φ' xs r h'
def Lb.sndR(h:Lb P l G n TD)(f:Fc P l n F fn)(dyn:Bool){Q:Nat->(fP)->fP}{R:Nat->fP}(hR:R=λφ=>lp (λ_=>none) (Q φ) φ)
 (e:(λφ ih=>BW φ (oQ (Tn G n φ) n (.iso ih)) (cnd dyn (oQ (TD φ) n (.iso ih)) (TD φ)) na (qW P (λF=>imA F l 0) md an fn))=Q) (φ:Nat):Snd P (λF=>imA F l 0) F (R φ):=by
 rw[hR];exact(h.2 φ).sndRec h.1 dyn f.ok (congrFun e φ) φ
def Lb.mem(h:Lb P l G n TD)(f:Fc P l n F fn){R:Nat->fN->LS->fK->Rs}(e:(λφ=>BY φ (Tn G n φ) (TD φ) na (qW P (λF=>imA F l 0) 2 an fn))=R)(g:(λφ=>G φ n)=λφ=>some (.mem (R φ))):Lb P l G (n+1) TD:=
 ⟨h.1,λφ=>by rw[<-yA (congrFun g φ)];exact(h.2 φ).mem false f.ok (congrFun e φ)⟩
def Lb.memd(h:Lb P l G n TD)(f:Fc P l n F fn){R:Nat->fN->LS->fK->Rs}(e:(λφ=>BY φ (Tn G n φ) (TD φ) na (qW P (λF=>imA F l 0) 2 an fn))=R)(g:(λφ=>G φ n)=λφ=>some (.mem (R φ))):
 Lb P l G (n+1) λφ=>oQ (TD φ) n (.mem (R φ)):=
 ⟨h.1,λφ=>by rw[<-yA (congrFun g φ)];exact(h.2 φ).mem true f.ok (congrFun e φ)⟩
def Lb.memR(h:Lb P l G n TD)(f:Fc P l n F fn){Q:Nat->(fN->LS->fK->Rs)->fN->LS->fK->Rs}{R:Nat->fN->LS->fK->Rs}(hR:R=λφ=>lp (λ_ _ _=>none) (Q φ) φ)
 (e:(λφ ih=>BY φ (oQ (Tn G n φ) n (.mem ih)) (TD φ) na (qW P (λF=>imA F l 0) 2 an fn))=Q) (g:(λφ=>G φ n)=λφ=>some (.mem (R φ))):Lb P l G (n+1) TD:=
 ⟨h.1,λφ=>by
  have g':=congrFun g φ;subst hR;rw[<-yA g'];exact(h.2 φ).memRec false f.ok (congrFun e φ) φ⟩
def Lb.memRd(h:Lb P l G n TD)(f:Fc P l n F fn){Q:Nat->(fN->LS->fK->Rs)->fN->LS->fK->Rs}{R:Nat->fN->LS->fK->Rs}(hR:R=λφ=>lp (λ_ _ _=>none) (Q φ) φ)
 (e:(λφ ih=>BY φ (oQ (Tn G n φ) n (.mem ih)) (oQ (TD φ) n (.mem ih)) na (qW P (λF=>imA F l 0) 2 an fn))=Q) (g:(λφ=>G φ n)=λφ=>some (.mem (R φ))):
 Lb P l G (n+1) λφ=>oQ (TD φ) n (.mem (R φ)):=
 ⟨h.1,λφ=>by
  have g':=congrFun g φ;subst hR;rw[<-yA g'];exact(h.2 φ).memRec true f.ok (congrFun e φ) φ⟩
def fL(P:Program)(l:eZ)(n F:Nat)(fn:Func):Option Func×(Bool×Bool)×Option Nat:=(P.funcs[F]?,(fn.name== "runtime.NumGoroutine",fn.body.isSome),l[n]?)
def fR(F:Nat)(fn:Func):Option Func×(Bool×Bool)×Option Nat:=(some fn,(false,true),some F)
def Lb.st(h:Lb P l G n TD)(F:Nat)(fn:Func)(na md:Nat)(an:List (Option eZ))(R:Nat->fP)
 (f:(fL P l n F fn,λφ=>BW φ (Tn G n φ) (TD φ) na (qW P (λF=>imA F l 0) md an fn),λφ=>G φ n)=(fR F fn,R,λφ=>some (.iso (R φ)))):Lb P l G (n+1) TD:=by
 simp only[aI]at f;exact h.put f.1 (h.snd f.1 f.2.1) f.2.2
def Lb.sn(h:Lb P l G n TD)(F:Nat)(fn:Func)(na md:Nat)(an:List (Option eZ))(R:Nat->fP)
 (f:(fL P l n F fn,λφ=>BW φ (Tn G n φ) (TD φ) na (qW P (λF=>imA F l 0) md an fn))=(fR F fn,R)) (φ:Nat):Snd P (λF=>imA F l 0) F (R φ):=by
 simp only[aI]at f;exact h.snd f.1 f.2 φ
def Lb.std(h:Lb P l G n TD)(F:Nat)(fn:Func)(na md:Nat)(an:List (Option eZ))(R:Nat->fP)
 (f:(fL P l n F fn,λφ=>BW φ (Tn G n φ) (TD φ) na (qW P (λF=>imA F l 0) md an fn),λφ=>G φ n)=(fR F fn,R,λφ=>some (.iso (R φ)))):Lb P l G (n+1) λφ=>oQ (TD φ) n (.iso (R φ)):=by
 simp only[aI]at f;exact h.putd f.1 (h.snd f.1 f.2.1) f.2.2
def Lb.stM(h:Lb P l G n TD)(F:Nat)(fn:Func)(na md:Nat)(an:List (Option eZ))(R M:Nat->fP)(hM:∀φ xs r,M φ xs=some r->∃φ',R φ' xs=some r)
 (f:(fL P l n F fn,λφ=>BW φ (Tn G n φ) (TD φ) na (qW P (λF=>imA F l 0) md an fn),λφ=>G φ n)=(fR F fn,R,λφ=>some (.iso (M φ)))):Lb P l G (n+1) TD:=by
 simp only[aI]at f;exact h.put f.1 (h.sndM f.1 hM f.2.1) f.2.2
def Lb.stC(h:Lb P l G n TD)(F:Nat)(fn:Func)(na md:Nat)(an:List (Option eZ))(R:Nat->fP)(hC:∀{F:FuncId},P.funcs[F]?=some fn->∀ex,rj P (λF=>imA F l 0) F [.tree [] 0 ex] gj)
 (f:(fL P l n F fn,λφ=>BW φ (Tn G n φ) (TD φ) na (qW P (λF=>imA F l 0) md an fn),λφ=>G φ n)=(fR F fn,R,λφ=>some (.iso (mS (R φ))))):Lb P l G (n+1) TD:=by
 simp only[aI]at f;exact h.put f.1 (λφ=>Rh (h.snd f.1 f.2.1 φ) (hC (Fc.ok f.1).fun')) f.2.2
def Lb.stR(h:Lb P l G n TD)(F:Nat)(fn:Func)(na md:Nat)(an:List (Option eZ))(Q:Nat->(fP)->fP)(R:Nat->fP)(hR:R=λφ=>lp (λ_=>none) (Q φ) φ)
 (f:(fL P l n F fn,λφ ih=>BW φ (oQ (Tn G n φ) n (.iso ih)) (TD φ) na (qW P (λF=>imA F l 0) md an fn),λφ=>G φ n)=(fR F fn,Q,λφ=>some (.iso (R φ)))):Lb P l G (n+1) TD:=by
 simp only[aI]at f;exact h.put f.1 (h.sndR f.1 false hR f.2.1) f.2.2
def Lb.me(h:Lb P l G n TD)(F:Nat)(fn:Func)(na:Nat)(an:List (Option eZ))(R:Nat->fN->LS->fK->Rs)
 (f:(fL P l n F fn,λφ=>BY φ (Tn G n φ) (TD φ) na (qW P (λF=>imA F l 0) 2 an fn),λφ=>G φ n)=(fR F fn,R,λφ=>some (.mem (R φ)))):Lb P l G (n+1) TD:=by
 simp only[aI]at f;exact h.mem f.1 f.2.1 f.2.2
def Lb.med(h:Lb P l G n TD)(F:Nat)(fn:Func)(na:Nat)(an:List (Option eZ))(R:Nat->fN->LS->fK->Rs)
 (f:(fL P l n F fn,λφ=>BY φ (Tn G n φ) (TD φ) na (qW P (λF=>imA F l 0) 2 an fn),λφ=>G φ n)=(fR F fn,R,λφ=>some (.mem (R φ)))):Lb P l G (n+1) λφ=>oQ (TD φ) n (.mem (R φ)):=by
 simp only[aI]at f;exact h.memd f.1 f.2.1 f.2.2
def Lb.mr(h:Lb P l G n TD)(F:Nat)(fn:Func)(na:Nat)(an:List (Option eZ))(Q:Nat->(fN->LS->fK->Rs)->fN->LS->fK->Rs)(R:Nat->fN->LS->fK->Rs)(hR:R=λφ=>lp (λ_ _ _=>none) (Q φ) φ)
 (f:(fL P l n F fn,λφ ih=>BY φ (oQ (Tn G n φ) n (.mem ih)) (TD φ) na (qW P (λF=>imA F l 0) 2 an fn),λφ=>G φ n)=(fR F fn,Q,λφ=>some (.mem (R φ)))):Lb P l G (n+1) TD:=by
 simp only[aI]at f;exact h.memR f.1 hR f.2.1 f.2.2
def Lb.mrd(h:Lb P l G n TD)(F:Nat)(fn:Func)(na:Nat)(an:List (Option eZ))(Q:Nat->(fN->LS->fK->Rs)->fN->LS->fK->Rs)(R:Nat->fN->LS->fK->Rs)(hR:R=λφ=>lp (λ_ _ _=>none) (Q φ) φ)
 (f:(fL P l n F fn,λφ ih=>BY φ (oQ (Tn G n φ) n (.mem ih)) (oQ (TD φ) n (.mem ih)) na (qW P (λF=>imA F l 0) 2 an fn),λφ=>G φ n)=(fR F fn,Q,λφ=>some (.mem (R φ)))):Lb P l G (n+1) λφ=>oQ (TD φ) n (.mem (R φ)):=by
 simp only[aI]at f;exact h.memRd f.1 hR f.2.1 f.2.2
end
end Go.Proofs.Ev
namespace Go.Proofs.Ev
noncomputable section
structure SS where
 r:qP->(iy->LS->Rs)->iy->LS->Rs
def shK(d:D)(k:D->Rs):Rs:=D.rec (motive_1:=λ_=>Rs) (motive_2:=λ_=>PUnit.{1}) (k .u) (λa b=>k (.i a b)) (λa=>k (.b a)) (λa=>k (.s a)) (λa=>k (.n a)) (k .np) (k .nf) (λa b c _=>k (.tree a b c)) (λa b c _=>k (.own a b c)) (λa b c d e f=>k (.sl a b c d e f)) (λa b=>k (.ptr a b)) (λa _=>k (.fp a)) (λa _=>k (.agg a)) (λa _=>k (.tup a)) (λa b _=>k (.fn a b)) ⟨⟩ (λ_ _ _ _=>⟨⟩) d
def M0(d:D)(k:D->Rs):shK d k=k d:=by cases d<;>rfl
def iS(i:Ins)(ih:SS):SS:=match i.gd with
 |none=>match i.dst with
  |none=>⟨λT K ε s=>(kPS i.op).r T T ε s λ_ s=>ih.r T K ε s⟩
  |some t=>⟨λT K ε s=>(kPS i.op).r T T ε s λd s=>shK d λd=>ih.r T K (sup ε t d) s⟩
 |some (t,w)=>match i.dst with
  |none=>⟨λT K ε s=>ob (ε t) λg=>eU g w (λk=>(kPS i.op).r T T ε s k) s λ_ s=>ih.r T K ε s⟩
  |some t'=>⟨λT K ε s=>ob (ε t) λg=>eU g w (λk=>(kPS i.op).r T T ε s k) s λd s=>shK d λd=>ih.r T K (sup ε t' d) s⟩
def lS(l:List Ins):SS:=List.rec (motive:=λ_=>SS) ⟨λ_ K ε s=>K ε s⟩ (λi _ ih=>iS i ih) l
def Yy{T:qP}{K:iy->LS->Rs}:∀(l:List Ins)(ε:iy)(s:LS),(lS l).r T K ε s=ER T T l K ε s
 |[],_,_=>rfl
 |i::l,ε,s=>by
  obtain⟨dst,gd,o⟩:=i;have ih:∀ε s,(lS l).r T K ε s=ER T T l K ε s:=λε s=>Yy l ε s;show(iS ⟨dst,gd,o⟩ (lS l)).r T K ε s=_;rcases gd with _|⟨t,w⟩
  ·cases dst<;>simp only[iS,ER,ih,kOp,Kb,M0]
  ·cases dst<;>(simp only[iS,ER,ih,kOp,ob,Kb,M0];cases ε t<;>rfl)
structure CSt where
 r:qP->KN->iy->LS->Rs
def reb(ls:eZ)(ε:iy)(k:iy->Rs):Rs:=List.rec (motive:=λ_=>iy->Rs) k (λt _ ih a=>ob (ε t) λd=>ih (sup a t d)) ls noS
def cS(φ:Nat)(c:C):CSt:=C.rec (motive:=λ_=>CSt) ⟨λ_ _ _ _=>none⟩ ⟨λ_ K ε s=>K.n ε s⟩ (λl=>⟨λT K ε s=>(lS l).r T K.n ε s⟩)
 (λ_ _ a b=>⟨λT K ε s=>a.r T ⟨λε s=>b.r T K ε s,K.ex,K.ret⟩ ε s⟩) (λx _ _ a b=>⟨λT K ε s=>fE (xv ε x) (a.r T K ε s) (b.r T K ε s)⟩)
 (λid _ c=>⟨λT K ε s=>c.r T ⟨K.n,K.exit id K.n,K.ret⟩ ε s⟩) (λ_ c=>⟨λT K ε s=>lp (λ_ _=>none) (λq ε s=>c.r T ⟨q,K.ex,K.ret⟩ ε s) φ ε s⟩)
 (λid=>⟨λ_ K ε s=>K.ex id ε s⟩) ⟨λ_ K ε s=>K.ret ε s⟩ (λls _ c=>⟨λT K ε s=>reb ls ε λε=>c.r T K ε s⟩) c
def TK{k:iy->Rs}{r:D}{ε:iy}{ls:eZ}(h:reb ls ε k=some r):k (yg ls ε)=some r:=by
 have go:∀(ls:eZ)(a:iy),List.rec (motive:=λ_=>iy->Rs) k (λt _ ih a=>ob (ε t) λd=>ih (sup a t d)) ls a=some r->k (λn=>cnd (BK n ls) (ε n) (a n))=some r:=by
  intro ls
  induction ls with
  |nil=>intro a h;exact h
  |cons t ls ih=>
   intro a h;obtain⟨d,h1,h2⟩:=oV h;have h3:=ih _ h2;refine Eq.trans (congrArg k (funext λn=>?_)) h3;show cnd (cnd (Nat.beq n t) true (BK n ls)) (ε n) (a n)=cnd (BK n ls) (ε n) (cnd (Nat.beq n t) (some d) (a n));cases hb:Nat.beq n t with
   |false=>rfl
   |true=>
    rw[aT hb,h1];cases BK t ls<;>rfl
 exact go ls noS h
section
variable {Δ:Tr Ent} {T:qP} {φ:Nat} {r:D}
def YU(hT:TOk Δ T):∀(c:C)(K:KN)(s:LS)(e:Env)(σ:Sto),LSR s σ->(cS φ c).r T K e.get s=some r->
 ∃n x e' σ' s',run Δ n (.code c e σ)=some (.code x e' σ')/\LSR s' σ'/\K.at x e'.get s'=some r:=by
 intro c
 induction c with
 |bad=>intro K s e σ h hr;cases hr
 |skip=>intro K s e σ h hr;exact⟨1,.nrm,e,σ,s,rfl,h,hr⟩
 |reg l=>
  intro K s e σ h hr;have hr:(lS l).r T K.n e.get s=some r:=hr;rw[Yy]at hr;obtain⟨n,e',σ',s',h1,h2,h3⟩:=AW hT hT l s e σ h hr;exact⟨n+1,.nrm,e',σ',s',h1,h2,h3⟩
 |seq a b iha ihb=>
  intro K s e σ h hr;obtain⟨n,x,e1,σ1,s1,h1,h2,h3⟩:=iha _ s e σ h hr;cases x with
  |nrm=>
   obtain⟨m,x,e',σ',s',h4,h5,h6⟩:=ihb K s1 e1 σ1 h2 h3;refine⟨(n+m)+1,x,e',σ',s',?_,h5,h6⟩;simp only[run,sK (show n<=n+m by omega) h1,sK (show m<=n+m by omega) h4]
  |exit id=>exact⟨n+1,.exit id,e1,σ1,s1,by simp only[run,h1],h2,h3⟩
  |ret=>exact⟨n+1,.ret,e1,σ1,s1,by simp only[run,h1],h2,h3⟩
 |cond x a b iha ihb=>
  intro K s e σ h hr;rcases vF hr with⟨h1,h2⟩|⟨h1,h2⟩
  ·obtain⟨n,x',e',σ',s',h3,h4⟩:=iha K s e σ h h2;rw[<-xev]at h1;exact⟨n+1,x',e',σ',s',by simp only[run,h1,h3],h4⟩
  ·obtain⟨n,x',e',σ',s',h3,h4⟩:=ihb K s e σ h h2;rw[<-xev]at h1;exact⟨n+1,x',e',σ',s',by simp only[run,h1,h3],h4⟩
 |block id c ih=>
  intro K s e σ h hr;obtain⟨n,x,e',σ',s',h3,h4,h5⟩:=ih _ s e σ h hr;cases x with
  |nrm=>exact⟨n+1,.nrm,e',σ',s',by simp only[run,h3],h4,h5⟩
  |ret=>exact⟨n+1,.ret,e',σ',s',by simp only[run,h3],h4,h5⟩
  |exit j=>
   simp only[KN.at,KN.exit]at h5;cases hj:Nat.beq j id with
   |true=>
    rw[hj]at h5;exact⟨n+1,.nrm,e',σ',s',by simp only[run,h3,hj,cond_true],h4,h5⟩
   |false=>
    rw[hj]at h5;exact⟨n+1,.exit j,e',σ',s',by simp only[run,h3,hj,cond_false],h4,h5⟩
 |loop c ih=>
  intro K s e σ h hr;have key:∀(m:Nat)(s:LS)(e:Env)(σ:Sto),LSR s σ->lp (λ_ _=>none) (λq ε s=>(cS φ c).r T ⟨q,K.ex,K.ret⟩ ε s) m e.get s=some r->
   ∃n x e' σ' s',run Δ n (.code (.loop c) e σ)=some (.code x e' σ')/\LSR s' σ'/\K.at x e'.get s'=some r:=by
   intro m
   induction m with
   |zero=>intro s e σ h hr;cases hr
   |succ m ihm=>
    intro s e σ h hr;obtain⟨n,x,e1,σ1,s1,h4,h5,h6⟩:=ih _ s e σ h hr;cases x with
    |nrm=>
     obtain⟨n2,x,e',σ',s',h7,h8,h9⟩:=ihm s1 e1 σ1 h5 h6;refine⟨(n+n2)+1,x,e',σ',s',?_,h8,h9⟩;rw[run];simp only[sK (show n<=n+n2 by omega) h4,sK (show n2<=n+n2 by omega) h7]
    |exit id=>exact⟨n+1,.exit id,e1,σ1,s1,by rw[run];simp only[h4],h5,h6⟩
    |ret=>exact⟨n+1,.ret,e1,σ1,s1,by rw[run];simp only[h4],h5,h6⟩
  exact key φ s e σ h hr
 |exit id=>intro K s e σ h hr;exact⟨1,.exit id,e,σ,s,rfl,h,hr⟩
 |ret=>intro K s e σ h hr;exact⟨1,.ret,e,σ,s,rfl,h,hr⟩
 |cut ls c ih=>
  intro K s e σ h hr;have hr:=TK (k:=λε=>(cS φ c).r T K ε s) hr;rw[<-DS]at hr;obtain⟨n,x,e',σ',s',h3,h4,h5⟩:=ih K s _ σ h hr;exact⟨n+1,x,e',σ',s',by simp only[run];exact h3,h4,h5⟩
def QM:Nat->Nat->iy->fN->(iy->Rs)->Rs
 |0,_,ε,l,F=>u0 l (F ε)
 |n+1,t,ε,l,F=>u1 l λd r=>shK d λd=>QM n (Nat.succ t) (sup ε t d) r F
def Lw{F:iy->Rs}:∀(n t:Nat)(ε:iy)(l:fN),QM n t ε l F=EG n t ε l F
 |0,_,_,_=>rfl
 |n+1,t,ε,l=>by simp only[QM,EG,M0,Lw n]
def fS(φ:Nat)(T:qP)(n:Nat)(G:Fun)(as:fN)(s:LS)(k:fK):Rs:=
 QM n 0 noS as λε=>(cS φ G.body).r T ⟨λε s=>rvK ε s G.res λds=>k (Q4 ds) s,λ_ _ _=>none,λε s=>rvK ε s G.res λds=>k (Q4 ds) s⟩ ε s
def fI(φ:Nat)(T:qP)(n:Nat)(G:Fun)(as:fN):Option D:=fS φ T n G as s0 λd s=>fO (!Nat.beq G.mode 0) s d some
def Pf{n:Nat}{G:Fun}(hT:TOk Δ T):Ao Δ G (fS φ T n G):=by
 intro as s σ k r h hr;unfold fS at hr;rw[Lw]at hr;have hr:=B6 n 0 .nil as (show EG n 0 (Tr.nil:Env).get as _=some r from hr);obtain⟨m,x,e',σ',s',h1,h2,h3⟩:=YU hT _ _ s _ σ h hr;cases x with
 |exit id=>cases h3
 |nrm=>
  obtain⟨ds,h4,h5⟩:=xG h2 _ _ h3;exact⟨m,.nrm,e',σ',s',_,h1,λid h=>(by cases h),EZ h4,h2,h5⟩
 |ret=>
  obtain⟨ds,h4,h5⟩:=xG h2 _ _ h3;exact⟨m,.ret,e',σ',s',_,h1,λid h=>(by cases h),EZ h4,h2,h5⟩
def ZF{n:Nat}{G:Fun}(hT:TOk Δ T):QU Δ G (fI φ T n G):=by
 intro as q hq;obtain⟨m,x,e,σ',s',d,h1,h2,h3,h4,h5⟩:=Pf hT _ _ Sto.empty _ _ LSR.empty hq;obtain⟨q',h6,h7⟩:=DF h5;cases h7;rw[<-h4.get]at h6;exact⟨m,x,e,σ',d,h1,h2,h3,h6⟩
end
structure Spc where
 F:Nat
 na:Nat
 md:Nat
 an:eZ
 fn:Func
def z4M(m:Nat):eZ:=Nat.rec (motive:=λ_=>Nat->Nat->eZ) (λ_ _=>[]) (λ_ ih i m=>cnd (Nat.beq m 0) [] (cnd (Nat.beq (Nat.mod m 2) 1) (i::frc (Nat.succ i) λi=>ih i (Nat.div m 2)) (frc (Nat.succ i) λi=>ih i (Nat.div m 2)))) m 0 m
def anU:eZ->List (Option eZ)
 |k::m::r=>List.replicate k none++some (z4M m)::anU r
 |_=>[]
def ZJ(P:Program)(im:Nat->Option Nat)(nt:Nat)(ops:List Oper)(draw:Bool):C:=
 .reg (cnd draw ((places P im nt ops).map (·.i)++v8 (places P im nt ops) 0 (places P im nt ops)) (ops.map (uR P im nt ops)))
def tA(P:Program)(im:Nat->Option Nat)(nt:Nat):Code->C
 |.skip=>.skip
 |.label _=>.skip
 |.region _ ops draw=>ZJ P im nt ops.toList draw
 |.seq a b=>.seq (tA P im nt a) (tA P im nt b)
 |.cond x a b=>.cond (cX im x) (tA P im nt a) (tA P im nt b)
 |.block id c=>.block id (tA P im nt c)
 |.loop c=>.loop (tA P im nt c)
 |.scope c=>tA P im nt c
 |.exit id=>.exit id
 |.ret=>.ret
 |_=>.bad
def dOk(P:Program)(im:Nat->Option Nat)(nt:Nat):Code->Bool
 |.region _ ops draw=>cnd draw (D6 ops.toList (places P im nt ops.toList)) true
 |.seq a b=>cnd (dOk P im nt a) (dOk P im nt b) false
 |.cond _ a b=>cnd (dOk P im nt a) (dOk P im nt b) false
 |.block _ c=>dOk P im nt c
 |.loop c=>dOk P im nt c
 |.scope c=>dOk P im nt c
 |_=>true
def Rj(P:Program)(im:Nat->Option Nat)(nt:Nat)(c:Code):dOk P im nt c=true->tA P im nt c=jv P im nt c:=by
 induction c with
 |region k ops draw=>
  intro h;simp only[tA,jv,ZJ,Lu];cases draw with
  |false=>rfl
  |true=>
   have h':D6 ops.toList (places P im nt ops.toList)=true:=h;rw[aF rfl,aF h'];rfl
 |seq a b iha ihb=>intro h;obtain⟨h1,h2⟩:=uq h;simp only[tA,jv,iha h1,ihb h2]
 |cond x a b iha ihb=>intro h;obtain⟨h1,h2⟩:=uq h;simp only[tA,jv,iha h1,ihb h2]
 |block id c ih=>intro h;simp only[tA,jv,ih h]
 |loop c ih=>intro h;simp only[tA,jv,ih h]
 |scope c ih=>intro h;simp only[tA,jv,ih h]
 |_=>intro _;rfl
def spC(P:Program)(im:Nat->Option Nat)(q:Spc):C:=Option.rec (motive:=λ_=>C) .bad (λc=>tA P im (ntF q.md q.fn.ntmps) c) q.fn.body
def OO(P:Program)(im:Nat->Option Nat)(q:Spc):Bool:=Option.rec (motive:=λ_=>Bool) false (λc=>cnd (q.fn.results.toList.all (CA P)) (dOk P im (ntF q.md q.fn.ntmps) c) false) q.fn.body
def spG(P:Program)(im:Nat->Option Nat)(q:Spc):Fun:=⟨q.fn.params.size,q.fn.results.toList.map (ES P),q.md,Jv (spC P im q) (anU q.an) λc _=>c⟩
def Zz{P:Program}{im:Nat->Option Nat}{q:Spc}(h:OO P im q=true):spG P im q=qW P im q.md (anU q.an) q.fn:=by
 have:spC P im q=(zj P im q.md q.fn).body:=by
  unfold OO at h;unfold spC zj;cases hb:q.fn.body with
  |none=>rfl
  |some c=>
   rw[hb]at h;obtain⟨h1,h2⟩:=uq h;simp only[h1,bf];exact Rj P im _ c h2
 unfold spG qW;rw[this]
abbrev Tbs:=List (Nat×fN×D)
def HD(k:Nat)(tb:Tbs):List (fN×D):=List.rec (motive:=λ_=>List (fN×D)) [] (λe _ ih=>cnd (Nat.beq e.1 k) (e.2::ih) ih) tb
def Fk{k:Nat}{e:fN×D}:∀{tb:Tbs},e∈HD k tb->(k,e)∈tb
 |[],h=>by cases h
 |x::tb,h=>by
  have h:e∈cnd (Nat.beq x.1 k) (x.2::HD k tb) (HD k tb):=h;cases hb:Nat.beq x.1 k with
  |false=>rw[hb]at h;exact bC _ (Fk h)
  |true=>
   rw[hb]at h;have hk:=aT hb;rcases bh.1 h with rfl|h
   ·rw[<-hk];exact b9 ..
   ·exact bC _ (Fk h)
def OK{Δ:Tr Ent}{G:Fun}{M:fP}(hM:QU Δ G M):∀{L:List (fN×D)},(∀e,e∈L->WM Δ G e.1 e.2)->QU Δ G (zM L M)
 |[],_=>hM
 |e::L,hL=>λas q h=>by
  have h:cnd (eqA as e.1) (some e.2) (zM L M as)=some q:=h;cases hq:eqA as e.1 with
  |true=>
   rw[hq]at h;rw[AT (Jd 40) hq,<-cJ h];exact hL e (b9 ..)
  |false=>
   rw[hq]at h;exact OK hM (λe' he=>hL e' (bC _ he)) as q h
def ftS(P:Program)(im:Nat->Option Nat)(φ:Nat)(T:qP)(L:List (fN×D))(q:Spc):FT:=cnd (Nat.beq q.md 2) (.mem (fS φ T q.na (spG P im q))) (.iso (zM L (fI φ T q.na (spG P im q))))
def Mx{α:Type}(l:List α):Nat->Option α:=List.rec (motive:=λ_=>Nat->Option α) (λ_=>none) (λa _ ih n=>Nat.rec (some a) (λm _=>ih m) n) l
def BG(sp:List (List Spc))(j:Nat):Option Spc:=Option.rec none (λr=>Mx r (Nat.mod j 16)) (Mx sp (Nat.div j 16))
def Tu(P:Program)(im:Nat->Option Nat)(G:Nat->Nat->Option FT)(n0:Nat)(sp:List (List Spc))(tb:Tbs)(φ m:Nat):qP:=
 Nat.rec (motive:=λ_=>qP) (λ_=>none) (λ_ ih k=>cnd (Nat.blt k n0) (G φ k) (Option.rec none (λq=>some (ftS P im φ ih (HD k tb) q)) (BG sp (Nat.sub k n0)))) m
def Wi(P:Program)(im:Nat->Option Nat)(G:Nat->Nat->Option FT)(n0:Nat)(sp:List (List Spc))(tb:Tbs)(φ m k:Nat)(as:fN):Option D:=
 Option.rec none (λq=>fI φ (Tu P im G n0 sp tb φ m) q.na (spG P im q) as) (BG sp (Nat.sub k n0))
def F8{α:Type}{a:α}:∀{l:List α}{n:Nat},Mx l n=some a->a∈l
 |[],_,h=>by cases h
 |b::l,0,h=>by cases(show some b=some a from h);exact b9 ..
 |b::l,n+1,h=>bC _ (F8 (show Mx l n=some a from h))
def Kh{α:Type}:∀(l:List α)(n:Nat),l.length<=n->Mx l n=none
 |[],_,_=>rfl
 |a::l,0,h=>absurd h fU
 |a::l,n+1,h=>Kh l n (by simpa using h)
section
variable {P:Program} {l:eZ} {G:Nat->Nat->Option FT} {n0:Nat} {TD:Nat->qP} {sp:List (List Spc)}
def Ya(P:Program)(l:eZ)(n0:Nat)(sp:List (List Spc)):Prop:=
 (List.range (16*sp.length)).map (λj=>(BG sp j).map λq=>fL P l (n0+j) q.F q.fn)=(List.range (16*sp.length)).map λj=>(BG sp j).map λq=>fR q.F q.fn
def tY(P:Program)(l:eZ)(sp:List (List Spc)):Prop:=sp.all (λr=>r.all (OO P λF=>imA F l 0))=true
def tY.app{sp':List (List Spc)}(h:tY P l sp)(h':tY P l sp'):tY P l (sp++sp'):=by
 unfold tY at*;rw[List.all_append,h,h'];rfl
def WH(P:Program)(l:eZ)(G:Nat->Nat->Option FT)(n0:Nat)(sp:List (List Spc))(φ:Nat):Tbs->Prop
 |[]=>True
 |(k,as,v)::tb=>WH P l G n0 sp φ tb/\n0<=k/\∃m,Wi P (λF=>imA F l 0) G n0 sp tb φ m k as=some v
def T9{j:Nat}(h:16*sp.length<=j):BG sp j=none:=by
 unfold BG;rw[Kh sp (Nat.div j 16) ((di eV).2 eP)]
def Ta(hc:tY P l sp){j:Nat}{q:Spc}(h:BG sp j=some q):OO P (λF=>imA F l 0) q=true:=by
 unfold BG at h;cases hr:Mx sp (Nat.div j 16)with
 |none=>rw[hr]at h;cases h
 |some r=>
  rw[hr]at h;exact cp.1 (cp.1 hc r (F8 hr)) q (F8 (show Mx r (Nat.mod j 16)=some q from h))
def z0G(h:Lb P l G n0 TD)(hs:Ya P l n0 sp)(hc:tY P l sp)(φ:Nat):∃Δ,DOk P (λF=>imA F l 0) Δ/\∀tb,WH P l G n0 sp φ tb->∀m,TOk Δ (Tu P (λF=>imA F l 0) G n0 sp tb φ m):=by
 obtain⟨L,hT,hTD⟩:=h.2 φ;have build:∀N,N<=16*sp.length->∃Δ,DOk P (λF=>imA F l 0) Δ/\LeT L.Δ Δ/\(∀m,n0+N<=m->Δ.get m=none)/\∀j q,j<N->BG sp j=some q->Δ.get (n0+j)=some (.body (spG P (λF=>imA F l 0) q)):=by
  intro N
  induction N with
  |zero=>intro _;exact⟨L.Δ,L.ok,λ_ _ h=>h,L.bd,λj q h=>absurd h (cO j)⟩
  |succ N ih=>
   intro hN;obtain⟨Δ,h1,h2,h3,h4⟩:=ih eP;cases hq:BG sp N with
   |none=>
    refine⟨Δ,h1,h2,λm hm=>h3 m eP,λj q hj hjq=>?_⟩;rcases aY j N with h5|h5
    ·exact h4 j q h5 hjq
    ·rw[show j=N by omega,hq]at hjq;cases hjq
   |some q=>
    have hf:Fc P l (n0+N) q.F q.fn:=by
     have:=List.map_inj_left.1 hs N (dp.2 hN);rw[hq]at this;exact cJ this
    refine⟨Δ.set (n0+N) (.body (spG P (λF=>imA F l 0) q)),Jh h1 hf.ok (by rw[Zz (Ta hc hq)];exact Jc P _ q.md (anU q.an) q.fn),λm en hm=>LeT.set (h3 _ (aC _)) _ m en (h2 m en hm),λm hm=>?_,λj q' hj hjq=>?_⟩
    ·rw[Tr.get_set,aG eP];exact h3 m eP
    ·rcases aY j N with h5|h5
     ·rw[Tr.get_set,aG eP];exact h4 j q' h5 hjq
     ·obtain rfl:j=N:=eP;rw[Tr.get_set,aF rfl];rw[hq]at hjq;cases hjq;rfl
 obtain⟨Δ,h1,h2,h3,h4⟩:=build _ (aC _);have z6T:∀k q,n0<=k->BG sp (Nat.sub k n0)=some q->Δ.get k=some (.body (spG P (λF=>imA F l 0) q)):=by
  intro k q hk hq;have hj:Nat.sub k n0<16*sp.length:=by
   rcases aY (Nat.sub k n0) (16*sp.length)with h5|h5
   ·exact h5
   ·rw[T9 h5]at hq;cases hq
  have hg:=h4 _ q hj hq;rw[show n0+Nat.sub k n0=k from Nat.add_sub_of_le hk]at hg;exact hg
 have tok:∀tb:Tbs,(∀k as v q,(k,as,v)∈tb->n0<=k->BG sp (Nat.sub k n0)=some q->WM Δ (spG P (λF=>imA F l 0) q) as v)->∀m,TOk Δ (Tu P (λF=>imA F l 0) G n0 sp tb φ m):=by
  intro tb htb m
  induction m with
  |zero=>intro n ft h;cases h
  |succ m ih=>
   intro k ft hk;have hk:cnd (Nat.blt k n0) (G φ k) (Option.rec none (λq=>some (ftS P (λF=>imA F l 0) φ (Tu P (λF=>imA F l 0) G n0 sp tb φ m) (HD k tb) q)) (BG sp (Nat.sub k n0)))=some ft:=hk;by_cases hlt:k<n0
   ·rw[fk hlt]at hk;refine(L.tok k ft ?_).le h2;rw[hT,Tn,fk hlt];exact hk
   ·rw[fw hlt]at hk;cases hq:BG sp (Nat.sub k n0)with
    |none=>rw[hq]at hk;cases hk
    |some q=>
     rw[hq]at hk;have hg:=z6T k q eP hq;have hk:ftS P (λF=>imA F l 0) φ (Tu P (λF=>imA F l 0) G n0 sp tb φ m) (HD k tb) q=ft:=cJ hk;rw[<-hk];unfold ftS;cases hmd:Nat.beq q.md 2 with
     |true=>exact⟨_,hg,aT hmd,Pf ih⟩
     |false=>exact Or.inr ⟨_,hg,hmd,OK (ZF ih) λe he=>htb k e.1 e.2 q (Fk he) eP hq⟩
 refine⟨Δ,h1,λtb htb=>tok tb ?_⟩
 induction tb with
 |nil=>intro k as v q hm;cases hm
 |cons e tb ih=>
  obtain⟨k0,as0,v0⟩:=e;obtain⟨g1,g2,m,g3⟩:=htb;intro k as v q hm hk hq;rcases bh.1 hm with he|hm
  ·cases he;unfold Wi at g3;rw[hq]at g3;exact ZF (tok tb (ih g1) m) as0 v0 g3
  ·exact ih g1 k as v q hm hk hq
end
def awC(as:fN):Option D:=match as with
 |[]=>some (.b true)
 |_=>none
section
variable {P:Program} {l:eZ} {G:Nat->Nat->Option FT} {n n0:Nat} {TD:Nat->qP} {sp:List (List Spc)}
def Lb.noI(h:Lb P l G n TD)(F:Nat)(fn:Func)(R:Nat->fP)(hR:R=λ_ _=>none)(f:(fL P l n F fn,λφ=>G φ n)=(fR F fn,λφ=>some (.iso (R φ)))):Lb P l G (n+1) TD:=by
 simp only[aI]at f;exact h.put f.1 (M:=R) (λφ as r hr=>by rw[hR]at hr;cases hr) f.2
def Lb.noM(h:Lb P l G n TD)(F:Nat)(fn:Func)(R:Nat->fN->LS->fK->Rs)(hR:R=λ_ _ _ _=>none)(f:(fL P l n F fn,λφ=>G φ n)=(fR F fn,λφ=>some (.mem (R φ)))):Lb P l G (n+1) TD:=by
 simp only[aI]at f;refine⟨h.1,λφ=>?_⟩;obtain⟨L,hT,hTD⟩:=h.2 φ;rw[<-yA (congrFun f.2 φ)];exact⟨L.mem false (Fc.ok f.1) [] (R φ) (λas s σ k r hs hr=>by rw[hR]at hr;cases hr),by rw[<-hT];rfl,hTD⟩
def Lb.aw(h:Lb P l G n TD)(F:Nat)(fn:Func)(M:Nat->fP)(hM:∀φ,Snd P (λF=>imA F l 0) F (M φ))(f:(fL P l n F fn,λφ=>G φ n)=(fR F fn,λφ=>some (.iso (M φ)))):Lb P l G (n+1) TD:=by
 simp only[aI]at f;exact h.put f.1 hM f.2
mutual
def nfn:D->Bool
 |.fn _ _=>false
 |.own _ _ _=>false
 |.tree cs _ _=>Fa cs
 |.fp cs=>Fa cs
 |.agg cs=>Fa cs
 |.tup cs=>Fa cs
 |_=>true
def Fa:fN->Bool
 |[]=>true
 |d::ds=>cnd (nfn d) (Fa ds) false
end
section
variable {im im':Nat->Option Nat} {w:World} {ok:Nat->Nat->Prop}
mutual
theorem WJ:∀(d:D)(v:Value),nfn d=true->TR im w ok d v->TR im' w ok d v
 |.u,_,_,h=>by simp[TR]at h
 |.i k n,v,_,h=>by simpa[TR]using h
 |.b x,v,_,h=>by simpa[TR]using h
 |.s l,v,_,h=>by simpa[TR]using h
 |.n m,v,_,h=>by simpa[TR]using h
 |.np,v,_,h=>by simpa[TR]using h
 |.nf,v,_,h=>by simpa[TR]using h
 |.tree cs len ex,v,q,h=>by
  simp only[TR]at h ⊢;obtain⟨a,cap,e,hl,hx,hc⟩:=h;exact⟨a,cap,e,hl,hx,λhn=>by
   obtain⟨ad,e1,e2,e3,e4⟩:=hc hn;exact⟨ad,e1,e2,e3,Nt cs _ _ (by simpa[nfn]using q) e4⟩⟩
 |.own _ _ _,_,_,h=>by simp[TR]at h
 |.sl _ _ _ _ _ _,_,_,h=>by simp[TR]at h
 |.ptr _ _,_,_,h=>by simp[TR]at h
 |.fp cs,v,q,h=>by
  simp only[TR]at h ⊢;obtain⟨ad,e1,e2,e3,e4⟩:=h;exact⟨ad,e1,e2,e3,Nt cs _ _ (by simpa[nfn]using q) e4⟩
 |.agg cs,v,q,h=>by
  simp only[TR]at h ⊢;obtain⟨arr,e,hl⟩:=h;exact⟨arr,e,Jx cs _ (by simpa[nfn]using q) hl⟩
 |.tup cs,v,q,h=>by
  simp only[TR]at h ⊢;obtain⟨arr,e,hl⟩:=h;exact⟨arr,e,Jx cs _ (by simpa[nfn]using q) hl⟩
 |.fn f cs,v,q,h=>by simp[nfn]at q
theorem Nt:∀(cs:fN)(b o:Nat),Fa cs=true->TRc im w ok cs b o->TRc im' w ok cs b o
 |[],_,_,_,_=>by simp[TRc]
 |d::ds,b,o,q,h=>by
  simp only[TRc]at h ⊢;simp only[Fa]at q;obtain⟨q1,q2⟩:=uq q;obtain⟨⟨v,hv,hd⟩,hr⟩:=h;exact⟨⟨v,hv,WJ d v q1 hd⟩,Nt ds b (o+1) q2 hr⟩
theorem Jx:∀(cs:fN)(vs:List Value),Fa cs=true->TRl im w ok cs vs->TRl im' w ok cs vs
 |[],_,_,h=>by simpa[TRl]using h
 |d::ds,vs,q,h=>by
  simp only[TRl]at h ⊢;simp only[Fa]at q;obtain⟨q1,q2⟩:=uq q;obtain⟨v,r,e,hd,hr⟩:=h;exact⟨v,r,e,WJ d v q1 hd,Jx ds r q2 hr⟩
end
def Yb{base:Nat}{ob:Option Nat}{r:D}{v:Value}(q:nfn r=true):WL im w ok base ob r v=TR im w ok r v:=by
 cases r with
 |own _ _ _=>simp[nfn]at q
 |tup l=>cases l with
  |nil=>rfl
  |cons d ds=>cases d with
   |own _ _ _=>simp[nfn,Fa,cnd]at q
   |_=>rfl
 |_=>rfl
end
def mi{im im':Nat->Option Nat}{F:Nat}{xs:fN}{r:D}(ha:Fa xs=true)(hr:nfn r=true)(h:rj P im F xs r):rj P im' F xs r:=by
 intro vs w okp ht hk;refine(h vs w okp (Jx xs vs ha ht) hk).mono λe w' he=>?_;cases e with
 |returned v=>
  obtain⟨h1,h2,h3,ob,h4⟩:=he;refine⟨h1,h2,h3,ob,?_⟩;rw[Yb hr]at h4 ⊢;exact WJ r v hr h4
 |outgrown=>exact he
 |panicked _=>exact he
def zO{im:Nat->Option Nat}{F:Nat}:Snd P im F (zM [] λ_=>none):=λxs r h=>by cases h
def nL{im:Nat->Option Nat}{F:Nat}{k:fN}{v:D}{L:List (fN×D)}(h:rj P im F k v)(t:Snd P im F (zM L λ_=>none)):Snd P im F (zM ((k,v)::L) λ_=>none):=λxs r hr=>by
 have hr:cnd (eqA xs k) (some v) (zM L (λ_=>none) xs)=some r:=hr;cases hq:eqA xs k with
 |true=>
  rw[hq]at hr;rw[AT (Jd 40) hq,<-cJ hr];exact h
 |false=>
  rw[hq]at hr;exact t xs r hr
def z00{im im':Nat->Option Nat}{F:Nat}(h:rj P im F [] (.b true)):Snd P im' F awC:=λxs r hr=>by
 cases xs with
 |cons a xs=>cases hr
 |nil=>
  cases hr;exact mi rfl rfl h
def oA(h:Lb P l G n0 TD)(hs:Ya P l n0 sp)(hc:tY P l sp)(φ:Nat){tb:Tbs}(ht:WH P l G n0 sp φ tb)(m:Nat){k F:Nat}{xs:fN}{v:D}(hk:n0<=k)(hx:eqA xs xs=true)
 (hq:(imA F l 0,(BG sp (Nat.sub k n0)).map λq=>Nat.beq q.md 2)=(some k,some false)) (e:Wi P (λF=>imA F l 0) G n0 sp tb φ m k xs=some v):rj P (λF=>imA F l 0) F xs v:=by
 obtain⟨Δ,h1,h2⟩:=z0G h hs hc φ;have ht':WH P l G n0 sp φ ((k,xs,v)::tb):=⟨ht,hk,m,e⟩
 simp only[aI]at hq;obtain⟨q,hq1,hq2⟩:=Option.map_eq_some_iff.1 hq.2;have zew:HD k ((k,xs,v)::tb)=(xs,v)::HD k tb:=by
  show cnd (Nat.beq k k) _ _=_;rw[show Nat.beq k k=true from dW k];rfl
 have hT:=h2 _ ht' 1 k (.iso (zM ((xs,v)::HD k tb) (fI φ (λ_=>none) q.na (spG P (λF=>imA F l 0) q)))) (by
  show cnd (Nat.blt k n0) _ _=_;rw[fw eP,fq,hq1,zew];show some (cnd (Nat.beq q.md 2) _ _)=_;rw[hq2];rfl)
 have hM:zM ((xs,v)::HD k tb) (fI φ (λ_=>none) q.na (spG P (λF=>imA F l 0) q)) xs=some v:=by
  show cnd (eqA xs xs) (some v) _=_;rw[hx];rfl
 rcases hT with hT|⟨Gf,g1,g2,g3⟩
 ·obtain⟨fn,c,_,_,_,he⟩:=h1.ent F k _ hq.1 hT;exact he xs v hM
 ·obtain⟨fn,c,a1,a2,a3,he⟩:=h1.ent F k _ hq.1 g1;obtain⟨m,x,e,σ',d,b1,b2,b3,b4⟩:=g3 xs v hM;exact Xi (DD h.1 h1 m).1 a1 a3 he b1 b2 b3 b4
end
end
end Go.Proofs.Ev
set_option maxRecDepth 1000000
set_option maxHeartbeats 0
namespace Go.Proofs.YthljpappkomocaaGreat
open Ev
noncomputable section
def GL(φ:Nat):List FT:=[.iso (sJ φ),.iso (ng φ),.iso (qM φ),.mem (tG φ),.iso (pH φ),.iso (uH φ),.iso (qr φ),.iso (rC φ),.iso (rA φ),.iso (oa φ),.iso (jD φ),.iso (tE φ),.iso (kD φ),.iso (rq φ),.iso (qo φ),.iso (ir φ),.iso (nV φ),.iso (tF φ),.iso (qL φ),.iso (jH φ),.iso (o9 φ),.iso (nN φ),.iso (p7 φ),.iso (kN φ),.mem (fv φ),.iso sL,.iso (jA φ),.iso (iN φ),.iso (iZ φ),.iso (mX φ),.iso (gY φ),.iso (kr φ),.iso pL,.iso (iU φ),.iso (kC φ),.iso (gU φ),.iso (iC φ),.iso (jk φ),.iso ta,.mem (nP φ),.iso (iI φ),.iso (rh φ),.iso (ll φ),.iso (p6 φ),.iso (oN φ),.iso (nU φ),.iso (sT φ),.iso (kR φ),.iso (ia φ),.iso mj,.iso (fx φ),.iso lI,.iso (kU φ),.iso (od φ),.iso (ji φ),.iso (mS (gM φ)),.iso tg,.iso (tW φ),.iso qC,.iso qB,.iso kA,.iso oC,.iso (nT φ),.iso (rW φ),.iso (gO φ),.iso (ig φ),.iso (jg φ),.iso (mM φ),.iso (iP φ),.iso (pi φ),.iso (uJ φ),.iso (mN φ),.iso (lZ φ),.iso (qY φ),.iso (wX φ),.iso (gK φ),.iso (oP φ),.iso (oq φ),.iso (iL φ),.iso (pw φ),.iso (tH φ),.iso (mU φ),.iso (p8 φ),.iso (oo φ),.iso (ko φ),.iso (rS φ),.iso (xn φ),.iso (qb φ),.iso (nj φ),.iso (lm φ),.iso (tU φ),.iso (ul φ),.mem (vQ φ),.iso (rR φ),.iso (A4 φ),.iso (w6 φ),.iso (n7 φ),.iso (tu φ),.iso (rX φ),.iso (w5 φ),.iso (oM φ),.iso (jN φ),.mem (oL φ),.iso (gn φ),.iso (uE φ),.iso (gh φ),.iso (jM φ),.iso (lR φ),.iso (xk φ),.iso (px φ),.iso (gm φ),.iso (mS (fm φ)),.iso (mH φ),.iso (xj φ),.iso (rk φ),.iso (zy φ),.iso (ny φ),.iso (pX φ),.iso (jR φ),.iso (vR φ),.mem (kK φ),.mem (qZ φ),.iso (mS (gS φ)),.mem (tC φ),.mem (pV φ),.iso (uk φ),.iso (wY φ),.iso (uG φ),.iso (s7 φ),.iso (y9 φ),.iso (wZ φ),.mem (iY φ),.mem (kJ φ),.mem (jU φ),.mem (jf φ),.mem (j6 φ),.mem (ic φ),.mem (jL φ),.mem (jz φ),.mem (jG φ),.mem (iE φ),.iso (uF φ),.iso (ie φ),.iso (mV φ),.iso (kZ φ),.iso (ru φ),.iso (l8 φ),.iso (ye φ),.iso (uK φ),.iso (kQ φ),.iso (jI φ),.iso (nX φ),.iso (pj φ),.iso (re φ),.iso (tV φ),.iso (qc φ),.iso (xo φ),.iso (qj φ),.iso (tX φ),.iso (lb φ),.iso (pd φ),.iso (nr φ),.iso (kq φ),.iso (pe φ),.iso (mz φ),.iso (rV φ),.iso (sU φ),.iso (p9 φ),.iso (um φ),.mem (oJ φ),.mem (iD φ),.mem (jF φ),.mem (jW φ),.mem (gg φ),.mem (kj φ),.mem (p5 φ),.iso (mI φ),.iso (kY φ),.iso (ya φ),.iso (w8 φ),.iso (oZ φ),.iso awC]
def G(φ k:Nat):Option FT:=(GL φ)[k]?
end
end Go.Proofs.YthljpappkomocaaGreat
set_option maxRecDepth 1000000
set_option maxHeartbeats 0
namespace Go.Proofs.YthljpappkomocaaGreat.B
open Ev
noncomputable section
def xL:eZ:=[107,153,189,154,156,257,209,258,210,211,160,158,230,231,232,188,206,325,255,327,326,328,329,256,208,204,207,273,350,355,407,410,414,416,422,456,73,136,144,241,193,137,138,139,74,140,75,76,194,142,141,77,32,79,35,10,33,143,78,34,8,9,11,93,157,90,101,105,104,164,100,161,215,260,214,168,103,46,95,129,88,159,128,162,96,92,94,148,97,181,174,175,224,340,453,406,341,413,345,408,342,343,411,454,409,412,344,455,415,346,270,347,271,272,417,348,349,274,275,418,419,420,421,351,352,276,205,278,423,424,425,354,353,277,225,226,254,203,229,228,356,426,357,321,322,358,457,428,427,359,360,361,362,363,279,227,187,127,64,195,145,80,146,221,83,331,263,262,332,66,403,333,130,334,264,452,451,404,335,336,337,338,265,309,310,243,398,308,266,267,222,307,242,196,319,245,199,198,311,399,312,313,450,401,400,314,315,316,317,318,244,197,147,81,36,91,67,82,37,106,84,85,149,201,200,150,152,246,320,247,248,402,324,323,249,250,251,252,253,202,151,86,87,155,89,38,99,163,98,39,12,40,13,166,165,213,212,167,102,41,42,43,44,14,55,115,169,126,170,171,330,261,216,172,108,109,49,111,217,63,218,173,110,50,51,21,22,25,123,182,184,268,405,339,269,223,183,124,65,185,186,125,60,27,61,28,48,52,118,119,176,120,58,294,296,372,295,235,236,373,297,237,374,298,238,219,177,178,300,299,239,375,466,444,384,390,378,380,437,469,460,467,446,391,435,459,436,441,434,376,438,440,385,473,470,471,472,461,474,462,465,463,439,464,442,377,301,379,443,382,381,302,303,383,445,386,387,392,393,388,389,397,447,394,304,306,395,448,468,449,396,305,240,192,133,69,121,179,135,220,180,122,59,26]
def im(F:Nat):Option Nat:=imA F xL 0
def nd(φ:Nat):fP:=
 λas=>
(λ(s:LS)=>
 u1 as λb c=>
 u0 c (
 xC false s b λd s=>
 fE d
(fO true s gj some)
(iO 0 iw [] s λe s=>
 mc 3 40 s e b λf s=>
 fO true s f some))) s0
def nc(φ:Nat):fP:=
 λas=>
(λ(s:LS)=>
 u1 as λb c=>
 u0 c (
 xC false s b λd s=>
 fE d
(fO true s gj some)
(iO 0 ms [] s λe s=>
 mc 1 24 s e b λf s=>
 fO true s f some))) s0
end
end Go.Proofs.YthljpappkomocaaGreat.B
