/- What the evaluator and the residuals compute. -/
import Derived.Test.YthljpappkomocaaGreatA0
import Derived.Scope
import Derived.Orders
import Derived.Deep.LoopGhost
set_option linter.all false
namespace Go.Proofs.Ev
section
variable {P:Program} {im:Nat->Option Nat} {g g':Nat->Option Blk} {μ μ':Nat->Nat×Nat} {w w':World} {ok ok' okp:Nat->Nat->Prop} {base:Nat} {e:Env} {a:Act}
def ry.step(h:ry im g μ w ok e a.tmps)(s:Stp g μ w ok g' μ' w' ok' base):ry im g' μ' w' ok' e a.tmps:=λt=>pC s _ _ (h t)
def ry.put(h:ry im g μ w ok e a.tmps){dst:Option Nat}{d:D}{v:Value}(hd:∀t,dst=some t->t<a.tmps.size)(hv:VR im g μ w ok d v):ry im g μ w ok (put e dst d) (a.put dst v).tmps:=by
 cases dst with
 |none=>exact h
 |some t=>
  intro n;have hlt:=hd t rfl;have h0:=h n;simp only[X.ev]at h0;simp only[Ev.put,X.ev,Tr.get_set,Act.put];by_cases e1:n=t
  ·subst e1;rw[aF rfl];have:(a.tmps.setIfInBounds n v).getD n undef=v:=by simp[Array.getD,hlt]
   rw[this];exact hv
  ·rw[aG e1];have:(a.tmps.setIfInBounds t v).getD n undef=a.tmps.getD n undef:=by
    simp only[dD];rw[dR (Ne.symm e1)]
   rw[this];exact h0
def qS(a:Act)(dst:Option Nat)(v:Value):(a.put dst v).tmps.size=a.tmps.size:=by
 cases dst<;>simp[Act.put]
def nZ(a:Act)(dst:Option Nat)(v:Value):(a.put dst v).defers=a.defers:=by
 cases dst<;>rfl
def I8:∀(ds:List D)(e:Env)(t n:Nat),(tP e t ds).get n=if t<=n/\n<t+ds.length then ds[n-t]?else e.get n
 |[],e,t,n=>by simp only[tP,dV];rw[aG eP]
 |d::ds,e,t,n=>by
  simp only[tP];rw[I8 ds (e.set t d) (Nat.succ t) n,Tr.get_set];simp only[ah];by_cases h:n=t
  ·subst h;rw[aG eP,aF rfl,aF eP];simp
  ·by_cases h2:t<=n/\n<t+(ds.length+1)
   ·rw[aF eP,aF h2,show n-t=(n-Nat.succ t)+1 by omega];simp
   ·rw[aG eP,aG h,aG h2]
def ry.args{as:List D}{vs:List Value}(h:VRl im g μ w ok as vs)(k:Nat):ry im g μ w ok (tP .nil 0 as) (vs.toArray++Array.replicate k undef):=by
 intro t;simp only[X.ev,I8,aJ,true_and,aN,zne];by_cases ht:t<as.length
 ·rw[aF ht];obtain⟨v,h1,h2⟩:=(ky.1 h).2 t _ (aE ht);rw[aE ht];have hlt:t<vs.length:=by rw[j7 h];exact ht
  have:(vs.toArray++Array.replicate k undef).getD t undef=v:=by
   rw[dD,zmo (by simpa using hlt)];simp[h1]
  rw[this];exact h2
 ·rw[aG ht,Tr.get_nil];simp only[VR]
def Mb(R:Rel im g μ w ok okp base)(hE:ry im g μ w ok e a.tmps){σ:Sto}(hg:σ.get=g){r:ResultVar}{d:D}(hok:CA P r=true)(h:BA e σ (ES P r)=some d):
 ∃v,(match r with
  |.tmp t=>pure (a.tmps.getD t undef)
  |.cell x t=>do loadVar t (<-asAddr (a.tmps.getD x undef)):Sem Value).run P w=.ok v w/\VR im g μ w ok d v:=by
 cases r with
 |tmp t=>
  simp only[ES,BA]at h;have:=hE t;simp only[X.ev,h]at this;exact⟨_,rfl,this⟩
 |cell x t=>
  simp only[ES,BA]at h;simp only[CA]at hok;split at hok
  ·rename_i td hu;obtain⟨ti,hti⟩:=qH hu;split at h
   ·rename_i ad z6T;have hx:=hE x;simp only[X.ev,z6T]at hx;split at h
    ·rename_i cs hcs;rw[hg]at hcs;obtain⟨ad',hv,hs,hc⟩:=Vq R hcs hx;by_cases hag:Gt P t=true
     ·rw[aF hag]at h;have hsz:jS P t≠0:=by simpa[hag]using hok
      split at h
      ·exact absurd ‹_› hsz
      ·split at h
       ·rename_i r z6f;simp only[aA]at h;subst h;have hlen:=(yY z6f).2;have hvr:=yZ z6f hc;simp only[bO]at hvr;obtain⟨vs,h1,h2⟩:=Gv hvr;have hn:vs.length=ti.size:=by rw[j7 h1,hlen,py hti]
        refine⟨.agg vs.toArray,?_,by simp only[VR];exact⟨vs.toArray,rfl,by simpa using h1⟩⟩;have hl:=run_loadCells_list (P:=P) w ad' vs (λj u hj=>by rw[Addr.add_eq hs];exact h2 j u hj);simp[hv,asAddr,loadVar,oe hu,hag,jQ hti,<-hn,hl]
       ·cases h
     ·rw[aG hag]at h;simp only at h;split at h
      ·rename_i d' rest;simp only[aA]at h;subst h;simp only[VRc]at hc;obtain⟨⟨v,z6D,hd⟩,_⟩:=hc;rw[<-Addr.eta hs]at z6D;refine⟨v,?_,hd⟩;simp[hv,asAddr,loadVar,oe hu,hag,run_load,z6D]
      ·cases h
    ·cases h
   ·cases h
  ·cases hok
def FY(R:Rel im g μ w ok okp base)(hE:ry im g μ w ok e a.tmps){σ:Sto}(hg:σ.get=g):∀(rs:List ResultVar)(ds:List D),rs.all (CA P)=true->wy e σ (rs.map (ES P))=some ds->
 ∃vs,(rs.mapM (m:=Sem) (λ
  |.tmp t=>pure (a.tmps.getD t undef)
  |.cell x t=>do loadVar t (<-asAddr (a.tmps.getD x undef)))).run P w=.ok vs w/\VRl im g μ w ok ds vs:=by
 intro rs
 induction rs with
 |nil=>intro ds _ h;simp only[List.map_nil,wy,aA]at h;subst h;exact⟨[],by simp,by simp[VRl]⟩
 |cons r rs ih=>
  intro ds hok h;simp only[cH,aW]at hok;simp only[cC,wy]at h;split at h
  ·rename_i d ds' h1 h2;simp only[aA]at h;subst h;obtain⟨v,r1,r2⟩:=Mb R hE hg hok.1 h1;obtain⟨vs,q1,q2⟩:=ih ds' hok.2 h2;refine⟨v::vs,?_,by simp only[VRl];exact⟨v,vs,rfl,r2,q2⟩⟩;simp only[List.mapM_cons,Sem.run_bind,r1,Result.andThen_ok,q1,Sem.run_pure]
  ·cases h
def zQ(R:Rel im g μ w ok okp base)(hE:ry im g μ w ok e a.tmps){σ:Sto}(hg:σ.get=g){fn:Func}{d:D}(hok:fn.results.toList.all (CA P)=true)(h:sE e σ (fn.results.toList.map (ES P))=some d):
 ∃v,(results fn a.tmps).run P w=.ok v w/\VR im g μ w ok d v:=by
 unfold sE at h;have key:∀ds vs,VRl im g μ w ok ds vs->wy e σ (fn.results.toList.map (ES P))=some ds->(fn.results.toList.mapM (m:=Sem) (λ
  |.tmp t=>pure (a.tmps.getD t undef)
  |.cell x t=>do loadVar t (<-asAddr (a.tmps.getD x undef)))).run P w=.ok vs w->
  (results fn a.tmps).run P w=.ok (if h:vs.toArray.size=1 then vs.toArray[0]else .tuple vs.toArray) w:=by
  intro ds vs hv hr hm;simp only[results,Array.mapM_eq_mapM_toList,Sem.run_bind,Sem.run_map];refine(congrArg (λr=>(Result.andThen (Result.andThen r _) _)) hm).trans ?_;rfl
 split at h
 ·rename_i d' hr;simp only[aA]at h;subst h;obtain⟨vs,h1,h2⟩:=FY R hE hg _ _ hok hr;have:=key _ _ h2 hr h1;simp only[VRl]at h2;obtain⟨v,r,rfl,hv,rfl⟩:=h2;exact⟨v,by rw[this];rfl,hv⟩
 ·rename_i ds hne hr;simp only[aA]at h;subst h;obtain⟨vs,h1,h2⟩:=FY R hE hg _ _ hok hr;have:=key _ _ h2 hr h1;refine⟨.tuple vs.toArray,?_,by simp only[VR];exact⟨vs.toArray,rfl,by simpa using h2⟩⟩;rw[this,dif_neg];intro hs;have hl:=j7 h2;rw[zn8]at hs
  match ds,hl with
  |[x],_=>exact hne x rfl
  |[],hl=>rw[hs]at hl;simp at hl
  |x::y::z,hl=>rw[hs]at hl;simp at hl
 ·cases h
end
section
variable {P:Program} {im:Nat->Option Nat}
def QQ{g:Nat->Option Blk}{μ:Nat->Nat×Nat}{w:World}{ok:Nat->Nat->Prop}:∀{xs ys:List D}{us vs:List Value},VRl im g μ w ok xs us->VRl im g μ w ok ys vs->VRl im g μ w ok (xs++ys) (us++vs)
 |[],ys,us,vs,h1,h2=>by
  simp only[VRl]at h1;subst h1;exact h2
 |d::ds,ys,us,vs,h1,h2=>by
  simp only[VRl]at h1;obtain⟨v,r,rfl,h3,h4⟩:=h1;simp only[d9,VRl];exact⟨v,r++vs,rfl,h3,QQ h4 h2⟩
structure DOk (P:Program) (im:Nat->Option Nat) (Δ:Tr Ent):Prop where
 ent:∀F f en,im F=some f->Δ.get f=some en->∃fn c,P.funcs[F]?=some fn/\(fn.name== "runtime.NumGoroutine")=false/\fn.body=some c/\
  match en with
  |.body G=>G.er=zj P im G.mode fn
  |.model M=>Snd P im F M
def St(im:Nat->Option Nat)(nt:Nat)(okp:Nat->Nat->Prop)(base:Nat)(g0:Nat->Option Blk)(μ0:Nat->Nat×Nat)(w0:World)(ok0:Nat->Nat->Prop)(e:Env)(σ:Sto)(a:Act)(w:World):Prop:=
 jx σ/\a.defers=[]/\nt%yp<=a.tmps.size/\∃μ ok,Rel im σ.get μ w ok okp base/\ry im σ.get μ w ok e a.tmps/\Stp g0 μ0 w0 ok0 σ.get μ w ok base
def Ex.toExit:Ex->Exit
 |.nrm=>.normal
 |.exit id=>.exit id
 |.ret=>.ret
def ShR(im:Nat->Option Nat)(okp:Nat->Nat->Prop)(base:Nat)(μ:Nat->Nat×Nat)(w:World)(ok:Nat->Nat->Prop)(σ σ':Sto)(d:D)(v:Value)(w':World):Prop:=
 jx σ'/\∃μ' ok',Rel im σ'.get μ' w' ok' okp base/\Stp σ.get μ w ok σ'.get μ' w' ok' base/\VR im σ'.get μ' w' ok' d v
def Cp(P:Program)(im:Nat->Option Nat)(Δ:Tr Ent)(k:Nat):Prop:=
 ∀nt c c' e σ x e' σ',C.er c'=jv P im nt c->run Δ k (.code c' e σ)=some (.code x e' σ')->∀okp base g0 μ0 w0 ok0 a w Q,St im nt okp base g0 μ0 w0 ok0 e σ a w->
  (∀a' w',St im nt okp base g0 μ0 w0 ok0 e' σ' a' w'->Q x.toExit a' w')->c.wp P Q a w
def Yd(P:Program)(im:Nat->Option Nat)(Δ:Tr Ent)(k:Nat):Prop:=
 ∀nt(ops:Array Oper) l e σ x e' σ',run Δ k (.ops (l.map (uR P im nt ops.toList)) e σ)=some (.code x e' σ')->∀okp base g0 μ0 w0 ok0 a w Q,St im nt okp base g0 μ0 w0 ok0 e σ a w->
  (∀a' w',St im nt okp base g0 μ0 w0 ok0 e' σ' a' w'->Q x.toExit a' w')->wpList P ops Q l a w
def Ns(P:Program)(im:Nat->Option Nat)(Δ:Tr Ent)(k:Nat):Prop:=
 ∀f z6c as σ d σ',run Δ k (.call false (.fn f z6c) as σ)=some (.val d σ')->∀F,im F=some f->∀okp base μ w ok vs,jx σ->Rel im σ.get μ w ok okp base->VRl im σ.get μ w ok (as++z6c) vs->
  Calls P F vs.toArray w (λe w'=>match e with
   |.returned v=>ShR im okp base μ w ok σ σ' d v w'
   |.outgrown=>False
   |.panicked _=>False)
def Ib(P:Program)(im:Nat->Option Nat)(Δ:Tr Ent)(k:Nat):Prop:=
 ∀f z6c as σ d σ',run Δ k (.call true (.fn f z6c) as σ)=some (.val d σ')->
  ∃as' ls r,i8 (res σ.get gJ) (as++z6c)=some (as',ls)/\d=(fin σ ls r).1/\σ'=(fin σ ls r).2/\∀F,im F=some f->rj P im F as' r
variable {g g':Nat->Option Blk} {μ:Nat->Nat×Nat} {w w':World} {ok okp:Nat->Nat->Prop} {base:Nat} {e:Env} {a:Act} {o:Oper} {K:Act->World->Prop} {Q:Exit->Act->World->Prop}
def zF.wp{d:D}(h:zF im g μ w ok okp base g' d ((execOp a.eval o).run P w))(hK:∀v w',Okv im g μ w ok okp base g' d v w'->K (a.put o.dst v) w'):o.wp P a w K Q:=by
 obtain⟨v,w',hr,hv⟩:=h;unfold Oper.wp;rcases hr with hr|⟨hr,rfl⟩
 ·rw[hr];exact hK v w' hv
 ·rw[hr];exact hK undef w' hv
def Aw{F:FuncId}{vs:Array Value}{R:Value->World->Prop}(hr:(execOp a.eval o).run P w=.ok (.enter F vs) w)
 (hc:Calls P F vs w (λe w'=>match e with
  |.returned v=>R v w'
  |.outgrown=>False
  |.panicked _=>False)) (hK:∀v w',R v w'->K (a.put o.dst v) w'):o.wp P a w K Q:=by
 unfold Oper.wp;rw[hr];refine Calls.mono hc (λe w' he=>?_);cases e with
 |returned v=>exact hK v w' he
 |panicked c=>exact he.elim
 |outgrown=>exact he.elim
def D8(hE:ry im g μ w ok e a.tmps){c:Call}(ho:o.op=.call c){p:Bool}{f:X}{as:List X}(hc:ij P im c=.call p f as){k:Nat}{z6c:List D}(hf:X.ev e f=.fn k z6c):
 ∃F vs,im F=some k/\VRl im g μ w ok (as.map (X.ev e)++z6c) vs/\
  ∀fn cd,P.funcs[F]?=some fn->(fn.name== "runtime.NumGoroutine")=false->fn.body=some cd->(execOp a.eval o).run P w=.ok (.enter F vs.toArray) w:=by
 obtain⟨cal,args,tys⟩:=c;have fin:∀fo,cal=.value fo->as=args.toList.map (cX im)->f=cX im fo->∃F vs,im F=some k/\VRl im g μ w ok (as.map (X.ev e)++z6c) vs/\
  ∀fn cd,P.funcs[F]?=some fn->(fn.name== "runtime.NumGoroutine")=false->fn.body=some cd->(execOp a.eval o).run P w=.ok (.enter F vs.toArray) w:=by
  intro fo h1 h2 h3;subst h1 h2 h3;have hv:=ju hE fo;rw[hf]at hv;simp only[VR]at hv;obtain⟨F,arr,hF,hv,hl⟩:=hv;refine⟨F,args.toList.map a.eval++arr.toList,hF,QQ (QD hE args.toList) hl,?_⟩;intro fn cd h1 h2 h3;have h4:fn.body.isNone=false:=by rw[h3];rfl
  have z79:(#[]++args.map a.eval++arr:Array Value)=(args.toList.map a.eval++arr.toList).toArray:=by
   apply Array.ext';simp
  simp only[execOp,ho,resolve,hv,Deferred.ofValue,Sem.run_bind,Sem.run_pure,Result.andThen_ok,invoke,callFunc,run_program,h1,h2,h4,z79,bm,cP]
 cases cal with
 |invoke r m=>simp[ij]at hc
 |builtin b=>
  exfalso;simp only[ij]at hc
  (repeat' split at hc)<;>cases hc
 |value fo=>
  cases fo with
  |tmp t=>
   simp only[ij,O.call.injEq]at hc;obtain⟨_,rfl,rfl⟩:=hc;exact fin _ rfl rfl rfl
  |func F=>
   simp only[ij]at hc
   (repeat' split at hc)<;>first|(cases hc;done)|skip
   simp only[O.call.injEq]at hc;obtain⟨_,rfl,rfl⟩:=hc;exact fin _ rfl rfl rfl
  |_=>simp[ij]at hc
def ze{ev:X->D}{σ σ':Sto}{sz bs:Nat}{x y:X}{d:D}(hf:jx σ)(h:uU ev σ sz bs x y=some (d,σ')):jx σ':=by
 unfold uU at h
 (repeat' split at h)<;>first|(cases h;done)|skip
 all_goals
  simp only[aA,aI]at h;obtain⟨_,rfl⟩:=h
  first
   |exact hf
   |exact hf.add1 _
   |exact jx.put hf (by assumption)
   |(refine jx.add1 ?_ _
     first
      |exact hf
      |exact jx.put hf (by assumption))
def IS{ev:X->D}{σ σ':Sto}{q:O}{d:D}(hf:jx σ)(h:evW ev σ q=some (d,σ')):jx σ':=by
 cases q<;>simp only[evW]at h<;>first|(cases h;done)|skip
 all_goals
  (repeat' split at h)<;>first|(cases h;done)|(exact ze hf h)|skip
 all_goals
  simp only[aA,aI]at h;obtain⟨_,rfl⟩:=h
  first
   |exact hf
   |exact hf.add1 _
   |exact jx.put hf (by assumption)
   |exact jx.put (ze hf (by assumption)) (by assumption)
   |exact ze hf (by assumption)
   |(refine jx.add1 ?_ _
     first
      |exact hf
      |exact jx.put hf (by assumption))
end
section
variable {P:Program} {im:Nat->Option Nat} {Δ:Tr Ent}
def z1R(P:Program)(im:Nat->Option Nat)(Δ:Tr Ent)(k:Nat):Prop:=
 ∀nt(ops:Array Oper) e σ x e' σ',D6 ops.toList (places P im nt ops.toList)=true->run Δ k (.ops ((places P im nt ops.toList).map (·.i)++v8 (places P im nt ops.toList) 0 (places P im nt ops.toList)) e σ)=some (.code x e' σ')->
  ∀okp base g0 μ0 w0 ok0 a w Q,St im nt okp base g0 μ0 w0 ok0 e σ a w->
  (∀a' w',St im nt okp base g0 μ0 w0 ok0 e' σ' a' w'->Q x.toExit a' w')->wpAny P .any ops Q ops.size (Array.replicate ops.size false) a w
def Rel.empty{okp:Nat->Nat->Prop}{w:World}(h:∀b o,okp b o->b<w.heap.size)(μ:Nat->Nat×Nat):Rel im Sto.empty.get μ w okp okp w.heap.size:=
 ⟨λl b h=>(by cases h),λl b h=>(by cases h),λl b h=>(by cases h),λl b h=>(by cases h),λl b l' b' h=>(by cases h),λb o hb=>⟨h b o hb,.inl hb⟩,λ_ _ h=>h,aC _⟩
def Iw:∀(c:C)(k:Nat)(e:Env)(σ:Sto)(r:Out),c.er=.bad->run Δ k (.code c e σ)≠some r:=by
 intro c
 induction c with
 |bad=>intro k e σ r _ h;cases k<;>simp[run]at h
 |cut ls c ih=>
  intro k e σ r he h;cases k with
  |zero=>simp[run]at h
  |succ k=>simp only[run]at h;exact ih k _ σ r he h
 |_=>intro k e σ r he;simp[C.er]at he
def I0{G:Fun}{fn:Func}{c:Code}(hG:G.er=zj P im G.mode fn)(hb:fn.body=some c){e:Env}{σ:Sto}{k:Nat}{r:Out}(h:run Δ k (.code G.body e σ)=some r):
 fn.results.toList.all (CA P)=true/\G.body.er=jv P im (ntF G.mode fn.ntmps) c/\G.res=fn.results.toList.map (ES P):=by
 have h1:G.body.er=(zj P im G.mode fn).body:=by rw[<-hG];rfl
 have h2:G.res=(zj P im G.mode fn).res:=by rw[<-hG];rfl
 simp only[zj,hb]at h1;split at h1
 ·exact⟨‹_›,h1,h2⟩
 ·exact absurd h (Iw _ _ _ _ _ h1)
def Xi{k:Nat}(hC:Cp P im Δ k){F:FuncId}{fn:Func}{c:Code}(hf:P.funcs[F]?=some fn)(hb:fn.body=some c){G:Fun}(hG:G.er=zj P im G.mode fn){as:List D}{x:Ex}{e:Env}{σ:Sto}{d r:D}{own:Bool}
 (hr:run Δ k (.code G.body (tP .nil 0 as) Sto.empty)=some (.code x e σ)) (hx:∀id,x≠.exit id) (hd:sE e σ G.res=some d) (he:lf own σ.get gJ d=some r):rj P im F as r:=by
 intro vs w okp hT hb';obtain⟨hok,z9q,z9a⟩:=I0 hG hb hr;refine calls_of_wp hf hb ?_;refine hC _ _ _ _ _ _ _ _ z9q hr okp w.heap.size Sto.empty.get (λ_=>(0,0)) w okp _ w _ ⟨?_,rfl,aX (Tb _ _) (by simp;omega),λ_=>(0,0),okp,Rel.empty hb' _,ry.args (tB _ _ hT) _,.refl ..⟩ ?_
 ·intro l _;rfl
 ·intro a' w' ⟨h1,h2,h3,μ,ok,R,hE,hS⟩;rw[z9a]at hd;obtain⟨v,v1,v2⟩:=zQ R hE rfl hok hd;have hq:=Pg R (λb hb=>hS.low b hb) hS.sm he v2;cases x with
  |exit id=>exact absurd rfl (hx id)
  |nrm=>exact⟨h2,v,v1,hq⟩
  |ret=>exact⟨h2,v,v1,hq⟩
def z46{k:Nat}(hC:Cp P im Δ k){F:FuncId}{fn:Func}{c:Code}(hf:P.funcs[F]?=some fn)(hb:fn.body=some c){G:Fun}(hG:G.er=zj P im G.mode fn){as:List D}{x:Ex}{e:Env}{σ σ':Sto}{d:D}
 (hr:run Δ k (.code G.body (tP .nil 0 as) σ)=some (.code x e σ')) (hx:∀id,x≠.exit id) (hd:sE e σ' G.res=some d)
 {okp:Nat->Nat->Prop} {base:Nat} {μ:Nat->Nat×Nat} {w:World} {ok:Nat->Nat->Prop} {vs:List Value} (hfr:jx σ) (R:Rel im σ.get μ w ok okp base) (hv:VRl im σ.get μ w ok as vs):
 Calls P F vs.toArray w (λe w'=>match e with
  |.returned v=>ShR im okp base μ w ok σ σ' d v w'
  |.outgrown=>False
  |.panicked _=>False):=by
 obtain⟨hok,z9q,z9a⟩:=I0 hG hb hr;refine calls_of_wp hf hb ?_;refine hC _ _ _ _ _ _ _ _ z9q hr okp base σ.get μ w ok _ w _ ⟨hfr,rfl,aX (Tb _ _) (by simp;omega),μ,ok,R,ry.args hv _,.refl ..⟩ ?_;intro a' w' ⟨h1,h2,h3,μ',ok',R',hE,hS⟩;rw[z9a]at hd;obtain⟨v,v1,v2⟩:=zQ R' hE rfl hok hd;have hq:ShR im okp base μ w ok σ σ' d v w':=⟨h1,μ',ok',R',hS,v2⟩
 cases x with
 |exit id=>exact absurd rfl (hx id)
 |nrm=>exact⟨h2,v,v1,hq⟩
 |ret=>exact⟨h2,v,v1,hq⟩
def KV{k:Nat}{p:Bool}{f:Nat}{z6c as:List D}{σ σ':Sto}{d:D}(h:run Δ (k+1) (.call p (.fn f z6c) as σ)=some (.val d σ')):
 (∃M as' ls r,Δ.get f=some (.model M)/\i8 (res σ.get gJ) (as++z6c)=some (as',ls)/\M as'=some r/\d=(fin σ ls r).1/\σ'=(fin σ ls r).2)\/
 (∃G x e,Δ.get f=some (.body G)/\p=false/\run Δ k (.code G.body (tP .nil 0 (as++z6c)) σ)=some (.code x e σ')/\(∀id,x≠.exit id)/\sE e σ' G.res=some d)\/
 (∃G x e σ1 d1 own as' ls r,Δ.get f=some (.body G)/\i8 (res σ.get gJ) (as++z6c)=some (as',ls)/\run Δ k (.code G.body (tP .nil 0 as') Sto.empty)=some (.code x e σ1)/\(∀id,x≠.exit id)/\
  sE e σ1 G.res=some d1/\lf own σ1.get gJ d1=some r/\d=(fin σ ls r).1/\σ'=(fin σ ls r).2):=by
 simp only[run]at h;cases hΔ:Δ.get f with
 |none=>simp only[hΔ]at h;cases h
 |some en=>
  cases en with
  |model M=>
   simp only[hΔ]at h;split at h
   ·rename_i as' ls hm;split at h
    ·rename_i r hr;simp only[aA,Out.val.injEq]at h;exact .inl ⟨M,as',ls,r,rfl,hm,hr,h.1.symm,h.2.symm⟩
    ·cases h
   ·cases h
  |body G=>
   simp only[hΔ]at h;split at h
   ·rename_i hp;simp only[aW,eH]at hp;split at h
    ·rename_i x e σ1 hr;split at h
     ·cases h
     ·rename_i hx;split at h
      ·rename_i d1 hd;simp only[aA,Out.val.injEq]at h;obtain⟨rfl,rfl⟩:=h;exact .inr (.inl ⟨G,x,e,rfl,hp.1,hr,λid hid=>hx id hid,hd⟩)
      ·cases h
    ·cases h
   ·split at h
    ·rename_i as' ls hm;split at h
     ·rename_i x e σ1 hr;split at h
      ·cases h
      ·rename_i hx;split at h
       ·rename_i d1 hd;split at h
        ·rename_i r he;simp only[aA,Out.val.injEq]at h;exact .inr (.inr ⟨G,x,e,σ1,d1,_,as',ls,r,rfl,hm,hr,λid hid=>hx id hid,hd,he,h.1.symm,h.2.symm⟩)
        ·cases h
       ·cases h
     ·cases h
    ·cases h
def Hk{okp:Nat->Nat->Prop}{base:Nat}{μ:Nat->Nat×Nat}{w w':World}{ok:Nat->Nat->Prop}{σ:Sto}{ls:List Nat}{r:D}{v:Value}(hf:jx σ)
 (h:QT im σ.get μ w ok okp base σ.nx ls r v w'):ShR im okp base μ w ok σ (fin σ ls r).2 (fin σ ls r).1 v w':=by
 obtain⟨μ',ok',k1,k2,k3⟩:=h;refine⟨IP hf ls r,μ',ok',?_,?_,?_⟩
 ·rw[Cc];exact k1
 ·rw[Cc];exact k2
 ·rw[Cc,Pc];exact k3
def z3N{k:Nat}(hΔ:DOk P im Δ)(hC:Cp P im Δ k):Ns P im Δ (k+1):=by
 intro f z6c as σ d σ' h F hF okp base μ w ok vs hfr R hv;rcases KV h with⟨M,as',ls,r,he,hm,hr,rfl,rfl⟩|⟨G,x,e,he,_,hr,hx,hd⟩|⟨G,x,e,σ1,d1,own,as',ls,r,he,hm,hr,hx,hd,hex,rfl,rfl⟩
 ·obtain⟨fn,c,hfn,_,_,hS⟩:=hΔ.ent F f _ hF he;refine Calls.mono (JI R (λ_=>hfr _ (aC _)) hm hv (hS as' r hr)) (λe w' hq=>?_);cases e with
  |returned v=>exact Hk hfr hq
  |outgrown=>exact hq
  |panicked c=>exact hq
 ·obtain⟨fn,c,hfn,_,hb,hG⟩:=hΔ.ent F f _ hF he;exact z46 hC hfn hb hG hr hx hd hfr R hv
 ·obtain⟨fn,c,hfn,_,hb,hG⟩:=hΔ.ent F f _ hF he;refine Calls.mono (JI R (λ_=>hfr _ (aC _)) hm hv (Xi hC hfn hb hG hr hx hd hex)) (λe w' hq=>?_);cases e with
  |returned v=>exact Hk hfr hq
  |outgrown=>exact hq
  |panicked c=>exact hq
def z2A{k:Nat}(hΔ:DOk P im Δ)(hC:Cp P im Δ k):Ib P im Δ (k+1):=by
 intro f z6c as σ d σ' h;rcases KV h with⟨M,as',ls,r,he,hm,hr,rfl,rfl⟩|⟨G,x,e,he,hp,hr,hx,hd⟩|⟨G,x,e,σ1,d1,own,as',ls,r,he,hm,hr,hx,hd,hex,rfl,rfl⟩
 ·refine⟨as',ls,r,hm,rfl,rfl,λF hF=>?_⟩;obtain⟨fn,c,hfn,_,_,hS⟩:=hΔ.ent F f _ hF he;exact hS as' r hr
 ·cases hp
 ·refine⟨as',ls,r,hm,rfl,rfl,λF hF=>?_⟩;obtain⟨fn,c,hfn,_,hb,hG⟩:=hΔ.ent F f _ hF he;exact Xi hC hfn hb hG hr hx hd hex
end
section
variable {P:Program} {im:Nat->Option Nat} {Δ:Tr Ent}
def ry.put_undef{g:Nat->Option Blk}{μ:Nat->Nat×Nat}{w:World}{ok:Nat->Nat->Prop}{e:Env}{a:Act}(h:ry im g μ w ok e a.tmps)(dst:Option Nat):
 ry im g μ w ok (Ev.put e dst (.tup [])) (a.put dst undef).tmps:=by
 have hu:VR im g μ w ok (.tup []) undef:=by simp only[VR,undef];exact⟨#[],rfl,by simp[VRl]⟩
 cases dst with
 |none=>exact h
 |some t=>
  by_cases hlt:t<a.tmps.size
  ·exact h.put (λt' e'=>by cases e';exact hlt) hu
  ·intro n;have h0:=h n;simp only[X.ev]at h0;have e1:a.tmps.setIfInBounds t undef=a.tmps:=by simp[Array.setIfInBounds,hlt]
   simp only[Ev.put,X.ev,Tr.get_set,Act.put,e1];by_cases e2:n=t
   ·subst e2;rw[aF rfl];have:a.tmps.getD n undef=undef:=by simp[Array.getD,hlt]
    rw[this];exact hu
   ·rw[aG e2];exact h0
def ud{g:Nat->Option Blk}{μ:Nat->Nat×Nat}{w:World}{ok:Nat->Nat->Prop}{e:Env}{a:Act}(hE:ry im g μ w ok e a.tmps){ops:Array Oper}{o:Oper}{gd:Option (Nat×Bool)}(hc:cGd ops.toList o.guard=some gd){b:Bool}
 (hb:gdv e gd=some b):Region.wanted o (yielded ops a.tmps)=b:=by
 unfold Region.wanted;cases hg:o.guard with
 |none=>
  rw[hg]at hc;simp only[cGd,aA]at hc;subst hc;simpa[gdv]using hb
 |some jw=>
  obtain⟨j,want⟩:=jw;rw[hg]at hc;simp only[cGd]at hc;split at hc
  ·rename_i q hq;split at hc
   ·rename_i t ht;simp only[aA]at hc;subst hc;have hq':ops[j]?=some q:=by simpa using hq
    simp only[yielded,hq',Option.bind_some,ht];simp only[gdv]at hb;have hv:=hE t;simp only[X.ev]at hv;split at hb
    ·rename_i p hp;simp only[hp,VR]at hv;have hlt:t<a.tmps.size:=by
      rcases aY t a.tmps.size with h|h
      ·exact h
      ·rw[dD,Array.getElem?_eq_none h]at hv;cases hv
     have:a.tmps[t]?=some (.bool p):=by
      rw[dD,zms hlt]at hv;rw[zms hlt];simpa using hv
     rw[this];simp only[aA]at hb;rw[<-hb];cases p<;>cases want<;>rfl
    ·rename_i l hp;simp only[hp,VR]at hv;obtain⟨arr,hv,_⟩:=hv;simp only[aA]at hb;subst hb;cases ht2:a.tmps[t]?with
     |none=>rfl
     |some u=>
      rw[dD,ht2]at hv;simp only[Option.getD_some]at hv;subst hv;rfl
    ·cases hb
   ·cases hc
  ·cases hc
def Bt{k:Nat}{i:Ins}{l:List Ins}{e:Env}{σ:Sto}{r:Out}(h:run Δ (k+1) (.ops (i::l) e σ)=some r):
 (gdv e i.gd=some false/\run Δ k (.ops l (put e i.dst (.tup [])) σ)=some r)\/
 (gdv e i.gd=some true/\
  ((∃p f z6c as d σ1,i.op=.call p f as/\X.ev e f=.fn (z6c:Nat×List D).1 z6c.2/\run Δ k (.call p (.fn z6c.1 z6c.2) (as.map (X.ev e)) σ)=some (.val d σ1)/\run Δ k (.ops l (put e i.dst d) σ1)=some r)\/
   (∃d bs,(∀p f as,i.op≠.call p f as)/\evA σ.nx (X.ev e) σ.get i.op=some (d,bs)/\run Δ k (.ops l (put e i.dst d) (σ.adds bs))=some r)\/
   (∃d σ1,(∀p f as,i.op≠.call p f as)/\evA σ.nx (X.ev e) σ.get i.op=none/\evW (X.ev e) σ i.op=some (d,σ1)/\run Δ k (.ops l (put e i.dst d) σ1)=some r))):=by
 simp only[run]at h;cases hg:gdv e i.gd with
 |none=>simp only[hg]at h;cases h
 |some b=>
  cases b with
  |false=>simp only[hg]at h;exact .inl ⟨rfl,h⟩
  |true=>
   simp only[hg]at h;refine .inr ⟨rfl,?_⟩;split at h
   ·rename_i p f as hop;split at h
    ·rename_i d σ1 hr;refine .inl ?_;cases hf:X.ev e f with
     |fn f' z6c=>rw[hf]at hr;exact⟨p,f,(f',z6c),as,d,σ1,hop,hf,hr,h⟩
     |_=>rw[hf]at hr;cases k<;>simp[run]at hr
    ·cases h
   ·rename_i o hne;refine .inr ?_;split at h
    ·rename_i d bs hA;exact .inl ⟨d,bs,λp f as hq=>hne p f as hq,hA,h⟩
    ·rename_i hA;split at h
     ·rename_i d σ1 hW;exact .inr ⟨d,σ1,λp f as hq=>hne p f as hq,hA,hW,h⟩
     ·cases h
def Ge{op:Op}{p:Bool}{f:X}{as:List X}(h:cOp P im op=.call p f as):p=false/\∃c,op=.call c/\ij P im c=.call p f as:=by
 cases op with
 |call c=>
  refine⟨?_,c,rfl,h⟩;have h':ij P im c=.call p f as:=h;unfold ij at h'
  (repeat' split at h')<;>first|(cases h';done)|(simp only[O.call.injEq]at h';exact h'.1.symm)
 |makeFunc fn fi ca=>
  exfalso;cases fn<;>first|(cases h;done)|(simp only[cOp]at h;(repeat' split at h)<;>cases h)
 |_=>
  exfalso;simp only[cOp]at h
  (repeat' split at h)<;>cases h
def Fx{nt:Nat}{q:O}{p:Bool}{f:X}{as:List X}(h:kpO nt q=.call p f as):q=.call p f as:=by
 rcases DR nt q with h1|⟨_,_,_,_,_,h1⟩
 ·rwa[h1]at h
 ·rw[h1]at h;cases h
def Db{σ:Sto}(hf:jx σ)(bs:List Blk):∀j,j<bs.length->σ.get (σ.nx+j)=none:=λj _=>hf _ eP
def Ei{nt:Nat}{dst:Option Nat}{q r:O}(h:Nb nt dst q=r)(hne:r≠.bad):q=r/\∀t,dst=some t->t<nt:=by
 cases dst with
 |none=>exact⟨h,λt ht=>by cases ht⟩
 |some t=>
  simp only[Nb]at h;split at h
  ·rename_i hlt;exact⟨h,λt' ht=>by cases ht;exact hlt⟩
  ·exact absurd h.symm hne
def z4d{k:Nat}(hΔ:DOk P im Δ)(ih:Yd P im Δ k)(hV:Ns P im Δ k):Yd P im Δ (k+1):=by
 intro nt ops l e σ x e' σ' h okp base g0 μ0 w0 ok0 a w Q ⟨hfr,hdf,hsz,μ,ok,R,hE,hS⟩ hQ;cases l with
 |nil=>
  simp only[List.map_nil,run,aA,Out.code.injEq]at h;obtain⟨rfl,rfl,rfl⟩:=h;exact hQ a w ⟨hfr,hdf,hsz,μ,ok,R,hE,hS⟩
 |cons o l=>
  simp only[cC]at h;simp only[wpList];cases hgd:cGd ops.toList o.guard with
  |none=>
   exfalso;have hi:uR P im nt ops.toList o=⟨o.dst,none,.bad⟩:=by unfold uR;rw[hgd]
   rw[hi]at h;rcases Bt h with⟨h1,_⟩|⟨_,⟨p,f,z6c,as,d,σ1,h1,_⟩|⟨d,bs,_,h1,_⟩|⟨d,σ1,_,_,h1,_⟩⟩
   ·cases h1
   ·cases h1
   ·cases h1
   ·cases h1
  |some gd=>
   have hi:uR P im nt ops.toList o=⟨o.dst,gd,Nb (nt%yp) o.dst (kpO nt (cOp P im o.op))⟩:=by unfold uR;rw[hgd]
   rw[hi]at h;rcases Bt h with⟨h1,h2⟩|⟨h1,h2⟩
   ·rw[ud hE hgd h1];simp only[bm,cP];refine ih nt ops l _ _ _ _ _ h2 okp base g0 μ0 w0 ok0 _ w Q ⟨hfr,by rw[nZ];exact hdf,by rw[qS];exact hsz,μ,ok,R,hE.put_undef _,hS⟩ hQ
   ·rw[ud hE hgd h1];simp only[bf];refine .inl ?_;have hop:∀q,Nb (nt%yp) o.dst (kpO nt (cOp P im o.op))=q->q≠.bad->kpO nt (cOp P im o.op)=q/\∀t,o.dst=some t->t<a.tmps.size:=λq h1 h2=>
     ⟨(Ei h1 h2).1,λt ht=>bw ((Ei h1 h2).2 t ht) hsz⟩
    rcases h2 with⟨p,f,z6c,as,d,σ1,q1,q2,q3,q4⟩|⟨d,bs,q0,q1,q2⟩|⟨d,σ1,q0,_,q1,q2⟩
    ·obtain⟨c1,hd⟩:=hop _ q1 fU;obtain⟨rfl,c,hc,hcc⟩:=Ge (Fx c1);obtain⟨F,vs,hF,hv,hx⟩:=D8 hE (w:=w) hc hcc q2;cases z7T:Δ.get z6c.1 with
     |none=>cases k<;>simp[run,z7T]at q3
     |some en=>
      obtain⟨fn,cd,f1,f2,f3,_⟩:=hΔ.ent F z6c.1 en hF z7T;refine Aw (hx fn cd f1 f2 f3) (hV z6c.1 z6c.2 _ σ d σ1 q3 F hF okp base μ w ok vs hfr R hv) (λv w' ⟨n1,μ',ok',n2,n3,n4⟩=>?_);exact ih nt ops l _ _ _ _ _ q4 okp base g0 μ0 w0 ok0 _ w' Q ⟨n1,by rw[nZ];exact hdf,by rw[qS];exact hsz,μ',ok',n2,(hE.step n3).put hd n4,hS.trans n3⟩ hQ
    ·obtain⟨c1,hd⟩:=hop _ rfl (by intro hb;rw[hb]at q1;cases q1);simp only at q1;rw[<-c1]at q1;refine(GY R hE q1 (Db hfr bs)).wp (λv w' ⟨μ',ok',n2,n3,n4⟩=>?_);rw[<-(pT bs σ).1]at n2 n3 n4;exact ih nt ops l _ _ _ _ _ q2 okp base g0 μ0 w0 ok0 _ w' Q ⟨jx.adds bs hfr,by rw[nZ];exact hdf,by rw[qS];exact hsz,μ',ok',n2,(hE.step n3).put hd n4,hS.trans n3⟩ hQ
    ·obtain⟨c1,hd⟩:=hop _ rfl (by intro hb;rw[hb]at q1;cases q1);simp only at q1;rw[<-c1]at q1;refine(GW R hE (hfr _ (aC _)) q1).wp (λv w' ⟨μ',ok',n2,n3,n4⟩=>?_);exact ih nt ops l _ _ _ _ _ q2 okp base g0 μ0 w0 ok0 _ w' Q ⟨IS hfr q1,by rw[nZ];exact hdf,by rw[qS];exact hsz,μ',ok',n2,(hE.step n3).put hd n4,hS.trans n3⟩ hQ
end
section
variable {P:Program} {im:Nat->Option Nat} {Δ:Tr Ent}
def St.heap{nt:Nat}{okp:Nat->Nat->Prop}{base:Nat}{g0:Nat->Option Blk}{μ0:Nat->Nat×Nat}{w0:World}{ok0:Nat->Nat->Prop}{e:Env}{σ:Sto}{a:Act}{w w':World}(h:St im nt okp base g0 μ0 w0 ok0 e σ a w)(hw:w'.heap=w.heap)(sm:Same w w'):
 St im nt okp base g0 μ0 w0 ok0 e σ a w':=by
 obtain⟨h1,h2,h3,μ,ok,R,hE,hS⟩:=h;obtain⟨r1,r2⟩:=R.heap hw sm;exact⟨h1,h2,h3,μ,ok,r1,hE.step r2,hS.trans r2⟩
def Fy:∀(ls:List Nat)(e:Env)(t:Nat),X.ev (z5 ls e) (.t t)=.u\/X.ev (z5 ls e) (.t t)=X.ev e (.t t)
 |[],e,t=>.inl rfl
 |u::ls,e,t=>by
  simp only[z5];cases h:e.get u with
  |none=>exact Fy ls e t
  |some d=>
   simp only[X.ev,Tr.get_set];by_cases ht:t=u
   ·subst ht;rw[aF rfl,h];exact .inr rfl
   ·rw[aG ht];exact Fy ls e t
def St.keep{nt:Nat}{okp:Nat->Nat->Prop}{base:Nat}{g0:Nat->Option Blk}{μ0:Nat->Nat×Nat}{w0:World}{ok0:Nat->Nat->Prop}{e:Env}{σ:Sto}{a:Act}{w:World}(h:St im nt okp base g0 μ0 w0 ok0 e σ a w)(ls:List Nat):
 St im nt okp base g0 μ0 w0 ok0 (z5 ls e) σ a w:=by
 obtain⟨h1,h2,h3,μ,ok,R,hE,hS⟩:=h;refine⟨h1,h2,h3,μ,ok,R,λt=>?_,hS⟩;rcases Fy ls e t with h|h
 ·rw[h];simp only[VR]
 ·rw[h];exact hE t
def z3k{k:Nat}(hm:P.follows .mixedOrders=true)(ihC:∀j,j<=k->Cp P im Δ j)(ihO:Yd P im Δ k)(ihA:z1R P im Δ k):Cp P im Δ (k+1):=by
 have z6f:∀nt c ls c1 e σ x e' σ',C.er c1=jv P im nt c->run Δ (k+1) (.code (.cut ls c1) e σ)=some (.code x e' σ')->∀okp base g0 μ0 w0 ok0 a w Q,St im nt okp base g0 μ0 w0 ok0 e σ a w->
  (∀a' w',St im nt okp base g0 μ0 w0 ok0 e' σ' a' w'->Q x.toExit a' w')->c.wp P Q a w:=by
  intro nt c ls c1 e σ x e' σ' her h okp base g0 μ0 w0 ok0 a w Q hst hQ;simp only[run]at h;exact ihC k (aC _) nt c c1 _ _ _ _ _ her h okp base g0 μ0 w0 ok0 a w Q (hst.keep ls) hQ
 intro nt c
 induction c with
 |skip=>
  intro c' e σ x e' σ' her h okp base g0 μ0 w0 ok0 a w Q hst hQ;cases c'<;>first|(simp[C.er,jv]at her;done)|skip
  case cut ls c1=>exact z6f _ _ ls c1 _ _ _ _ _ her h okp base g0 μ0 w0 ok0 a w Q hst hQ
  simp only[run,aA,Out.code.injEq]at h;obtain⟨rfl,rfl,rfl⟩:=h;exact wp_skip (hQ a w hst)
 |label l=>
  intro c' e σ x e' σ' her h okp base g0 μ0 w0 ok0 a w Q hst hQ;cases c'<;>first|(simp[C.er,jv]at her;done)|skip
  case cut ls c1=>exact z6f _ _ ls c1 _ _ _ _ _ her h okp base g0 μ0 w0 ok0 a w Q hst hQ
  simp only[run,aA,Out.code.injEq]at h;obtain⟨rfl,rfl,rfl⟩:=h;exact wp_label (hQ a w hst)
 |region id ops draw=>
  intro c' e σ x e' σ' her h okp base g0 μ0 w0 ok0 a w Q hst hQ;simp only[jv,Lu]at her;cases draw with
  |true=>
   simp only[bf]at her;split at her
   ·rename_i hok;cases c'<;>first|(simp[C.er]at her;done)|skip
    case cut ls c1=>
     refine z6f nt (.region id ops true) ls c1 _ _ _ _ _ ?_ h okp base g0 μ0 w0 ok0 a w Q hst hQ;simp only[jv,Lu,bf];rw[aF hok];exact her
    simp only[C.er,C.reg.injEq]at her;subst her;simp only[run]at h;exact wp_region_any hm (ihA nt ops _ _ _ _ _ hok h okp base g0 μ0 w0 ok0 a _ Q (hst.heap rfl (.drew _)) hQ)
   ·exact absurd h (Iw _ _ _ _ _ her)
  |false=>
   simp only[bm,cP]at her;cases c'<;>first|(simp[C.er]at her;done)|skip
   case cut ls c1=>
    refine z6f nt (.region id ops false) ls c1 _ _ _ _ _ ?_ h okp base g0 μ0 w0 ok0 a w Q hst hQ;simp only[jv,Lu,bm,cP];exact her
   simp only[C.er,C.reg.injEq]at her;subst her;simp only[run]at h;exact wp_region_list (ihO nt ops ops.toList _ _ _ _ _ h okp base g0 μ0 w0 ok0 a w Q hst hQ)
 |seq y z _ _=>
  intro c' e σ x e' σ' her h okp base g0 μ0 w0 ok0 a w Q hst hQ;cases c'<;>first|(simp[C.er,jv]at her;done)|skip
  case cut ls c1=>exact z6f _ _ ls c1 _ _ _ _ _ her h okp base g0 μ0 w0 ok0 a w Q hst hQ
  rename_i y' z';simp only[C.er,jv,C.seq.injEq]at her;simp only[run]at h;refine wp_seq ?_;split at h
  ·rename_i e1 σ1 h1;exact ihC k (aC _) nt y y' _ _ _ _ _ her.1 h1 okp base g0 μ0 w0 ok0 a w _ hst (λa' w' z6N=>ihC k (aC _) nt z z' _ _ _ _ _ her.2 h okp base g0 μ0 w0 ok0 a' w' Q z6N hQ)
  ·rename_i hne;refine ihC k (aC _) nt y y' _ _ _ _ _ her.1 h okp base g0 μ0 w0 ok0 a w _ hst (λa' w' z6N=>?_);cases x with
   |nrm=>exact absurd h (hne _ _)
   |exit id=>exact hQ a' w' z6N
   |ret=>exact hQ a' w' z6N
 |cond c y z _ _=>
  intro c' e σ x e' σ' her h okp base g0 μ0 w0 ok0 a w Q hst hQ;cases c'<;>first|(simp[C.er,jv]at her;done)|skip
  case cut ls c1=>exact z6f _ _ ls c1 _ _ _ _ _ her h okp base g0 μ0 w0 ok0 a w Q hst hQ
  rename_i xc y' z';simp only[C.er,jv,C.cond.injEq]at her;obtain⟨rfl,za1,zfg⟩:=her;simp only[run]at h;obtain⟨h1,h2,h3,μ,ok,R,hE,hS⟩:=hst;have hc:=ju hE c;split at h
  ·rename_i hb;rw[hb]at hc;simp only[VR]at hc;exact wp_cond_true hc (ihC k (aC _) nt y y' _ _ _ _ _ za1 h okp base g0 μ0 w0 ok0 a w Q ⟨h1,h2,h3,μ,ok,R,hE,hS⟩ hQ)
  ·rename_i hb;rw[hb]at hc;simp only[VR]at hc;exact wp_cond_false hc (ihC k (aC _) nt z z' _ _ _ _ _ zfg h okp base g0 μ0 w0 ok0 a w Q ⟨h1,h2,h3,μ,ok,R,hE,hS⟩ hQ)
  ·cases h
 |block id c _=>
  intro c' e σ x e' σ' her h okp base g0 μ0 w0 ok0 a w Q hst hQ;cases c'<;>first|(simp[C.er,jv]at her;done)|skip
  case cut ls c1=>exact z6f _ _ ls c1 _ _ _ _ _ her h okp base g0 μ0 w0 ok0 a w Q hst hQ
  rename_i id' c1;simp only[C.er,jv,C.block.injEq]at her;obtain⟨rfl,za1⟩:=her;simp only[run]at h;refine wp_block ?_;split at h
  ·rename_i j e1 σ1 h1;refine ihC k (aC _) nt c c1 _ _ _ _ _ za1 h1 okp base g0 μ0 w0 ok0 a w _ hst (λa' w' z6N=>?_);show(if j=id' then Q .normal a' w' else Q (.exit j) a' w');by_cases hj:j=id'
   ·subst hj;simp only[dW,cond_true,aA,Out.code.injEq]at h;obtain⟨rfl,rfl,rfl⟩:=h;rw[aF rfl];exact hQ a' w' z6N
   ·have hb:Nat.beq j id'=false:=by
     cases hq:Nat.beq j id' with
     |false=>rfl
     |true=>exact absurd (aT hq) hj
    simp only[hb,cond_false,aA,Out.code.injEq]at h;obtain⟨rfl,rfl,rfl⟩:=h;rw[aG hj];exact hQ a' w' z6N
  ·rename_i hne;refine ihC k (aC _) nt c c1 _ _ _ _ _ za1 h okp base g0 μ0 w0 ok0 a w _ hst (λa' w' z6N=>?_);cases x with
   |nrm=>exact hQ a' w' z6N
   |exit j=>exact absurd h (hne _ _ _)
   |ret=>exact hQ a' w' z6N
 |loop c _=>
  intro c' e σ x e' σ' her h okp base g0 μ0 w0 ok0 a w Q hst hQ;cases c'<;>first|(simp[C.er,jv]at her;done)|skip
  case cut ls c1=>exact z6f _ _ ls c1 _ _ _ _ _ her h okp base g0 μ0 w0 ok0 a w Q hst hQ
  rename_i c1;simp only[C.er,jv,C.loop.injEq]at her;refine wp_loop_ghost (λn a w=>n<=k+1/\∃e σ,run Δ n (.code (.loop c1) e σ)=some (.code x e' σ')/\St im nt okp base g0 μ0 w0 ok0 e σ a w) (k+1) ⟨aC _,e,σ,h,hst⟩ ?_;intro n a w ⟨hn,e,σ,h,hst⟩;cases n with
  |zero=>simp[run]at h
  |succ n=>
   simp only[run]at h;split at h
   ·rename_i e1 σ1 h1;exact ihC n eP nt c c1 _ _ _ _ _ her h1 okp base g0 μ0 w0 ok0 a w _ hst (λa' w' z6N=>⟨n,co n,eP,e1,σ1,h,z6N⟩)
   ·rename_i hne;refine ihC n eP nt c c1 _ _ _ _ _ her h okp base g0 μ0 w0 ok0 a w _ hst (λa' w' z6N=>?_);cases x with
    |nrm=>exact absurd h (hne _ _)
    |exit j=>exact hQ a' w' z6N
    |ret=>exact hQ a' w' z6N
 |scope c ih=>
  intro c' e σ x e' σ' her h okp base g0 μ0 w0 ok0 a w Q hst hQ;refine wp_scope_straight (ih c' _ _ _ _ _ her h okp base g0 μ0 w0 ok0 a w _ hst (λa' w' z6N=>?_));cases x with
  |nrm=>exact hQ a' w' z6N
  |exit j=>exact hQ a' w' z6N
  |ret=>exact hQ a' w' z6N
 |exit id=>
  intro c' e σ x e' σ' her h okp base g0 μ0 w0 ok0 a w Q hst hQ;cases c'<;>first|(simp[C.er,jv]at her;done)|skip
  case cut ls c1=>exact z6f _ _ ls c1 _ _ _ _ _ her h okp base g0 μ0 w0 ok0 a w Q hst hQ
  simp only[C.er,jv,C.exit.injEq]at her;subst her;simp only[run,aA,Out.code.injEq]at h;obtain⟨rfl,rfl,rfl⟩:=h;exact wp_exit (hQ a w hst)
 |ret=>
  intro c' e σ x e' σ' her h okp base g0 μ0 w0 ok0 a w Q hst hQ;cases c'<;>first|(simp[C.er,jv]at her;done)|skip
  case cut ls c1=>exact z6f _ _ ls c1 _ _ _ _ _ her h okp base g0 μ0 w0 ok0 a w Q hst hQ
  simp only[run,aA,Out.code.injEq]at h;obtain⟨rfl,rfl,rfl⟩:=h;exact wp_ret (hQ a w hst)
 |_=>
  intro c' e σ x e' σ' her h;exact absurd h (Iw _ _ _ _ _ her)
def Wh(hm:P.follows .mixedOrders=true)(hΔ:DOk P im Δ)(hA:∀k,(∀j,j<k->Ns P im Δ j/\Ib P im Δ j)->z1R P im Δ k):
 ∀k,(∀j,j<=k->Cp P im Δ j/\Ns P im Δ j/\Ib P im Δ j)/\Yd P im Δ k:=by
 intro k
 induction k with
 |zero=>
  refine⟨λj hj=>?_,?_⟩
  ·cases zno.1 hj;refine⟨?_,?_,?_⟩
   ·intro nt c c' e σ x e' σ' _ h;simp[run]at h
   ·intro f z6c as σ d σ' h;simp[run]at h
   ·intro f z6c as σ d σ' h;simp[run]at h
  ·intro nt ops l e σ x e' σ' h;simp[run]at h
 |succ k ih=>
  obtain⟨i1,i2⟩:=ih;have hk:=i1 k (aC _);refine⟨λj hj=>?_,z4d hΔ i2 hk.2.1⟩;rcases aY j (k+1)with h|h
  ·exact i1 j eP
  ·have:j=k+1:=eP;subst this;exact⟨z3k hm (λj hj=>(i1 j hj).1) i2 (hA k (λj hj=>(i1 j eP).2)),z3N hΔ hk.1,z2A hΔ hk.1⟩
end
def vj(e e':Env)(l:List Nat):Prop:=∀t,t∈l->X.ev e (.t t)=X.ev e' (.t t)
section
variable {e e':Env}
def rd{x:X}(h:vj e e' (xT x)):X.ev e x=X.ev e' x:=by
 cases x with
 |t n=>exact h n (by simp[xT])
 |c d=>rfl
def rdL{l:List X}(h:vj e e' (xsT l)):∀x,x∈l->X.ev e x=X.ev e' x:=λx hx=>
 rd λt ht=>h t (List.mem_flatMap.2 ⟨x,hx,ht⟩)
def rdM{l:List X}(h:vj e e' (xsT l)):l.map (X.ev e)=l.map (X.ev e'):=cz (rdL h)
def vj.left{a b:List Nat}(h:vj e e' (a++b)):vj e e' a:=λt ht=>h t (zml _ ht)
def vj.right{a b:List Nat}(h:vj e e' (a++b)):vj e e' b:=λt ht=>h t (eN _ ht)
def rdF:∀{l:List (Nat×Nat×X)}{cs:List D},(∀x,x∈l.map (·.2.2)->X.ev e x=X.ev e' x)->fill (X.ev e) l cs=fill (X.ev e') l cs
 |[],_,_=>rfl
 |(off,sz,x)::r,cs,h=>by
  simp only[fill];rw[h x fU];split
  ·split
   ·exact rdF (λy hy=>h y (by simp only[cC,bh];exact .inr hy))
   ·rfl
  ·rfl
def rdO{x:Option X}{n:Nat}(h:vj e e' (oT x)):vU (X.ev e) x n=vU (X.ev e') x n:=by
 cases x with
 |none=>rfl
 |some x=>simp only[vU];rw[rd h]
def IU{nx:Nat}{g:Nat->Option Blk}{o:O}(h:vj e e' o.reads):evA nx (X.ev e) g o=evA nx (X.ev e') g o:=by
 cases o with
 |bad=>rfl
 |mv x=>simp only[O.reads]at h;simp only[evA,rd h]
 |pick c a b=>simp only[O.reads]at h;have h:=rdL h;simp only[evA,h c fU,h a fU,h b fU]
 |alloc z=>rfl
 |box x=>simp only[O.reads]at h;simp only[evA,rd h]
 |build z l=>simp only[O.reads]at h;simp only[evA,rdF (rdL h)]
 |bsl n z l=>simp only[O.reads]at h;simp only[evA,rdF (rdL h)]
 |load1 x=>simp only[O.reads]at h;simp only[evA,rd h]
 |loadn n x=>simp only[O.reads]at h;simp only[evA,rd h]
 |store n x y=>rfl
 |nilc x=>simp only[O.reads]at h;simp only[evA,rd h]
 |isnil n x=>simp only[O.reads]at h;simp only[evA,rd h]
 |bin op x y=>simp only[O.reads]at h;have h:=rdL h;simp only[evA,h x fU,h y fU]
 |binb op x y=>simp only[O.reads]at h;have h:=rdL h;simp only[evA,h x fU,h y fU]
 |eqs n ks x y=>simp only[O.reads]at h;have h:=rdL h;simp only[evA,h x fU,h y fU]
 |neg x=>simp only[O.reads]at h;simp only[evA,rd h]
 |not x=>simp only[O.reads]at h;simp only[evA,rd h]
 |toInt k x=>simp only[O.reads]at h;simp only[evA,rd h]
 |b2s x=>simp only[O.reads]at h;simp only[evA,rd h]
 |mkfn f l=>simp only[O.reads]at h;simp only[evA,rdM h]
 |mksl sz by_ z l c=>simp only[O.reads]at h;have h:=rdL h;simp only[evA,h l fU,h c fU]
 |slice sz x a b c=>
  simp only[O.reads]at h;simp only[evA,rd h.left,rdO h.right.left,rdO h.right.right.left,rdO h.right.right.right]
 |faddr n x=>simp only[O.reads]at h;simp only[evA,rd h]
 |field1 n x=>simp only[O.reads]at h;simp only[evA,rd h]
 |fieldn n m x=>simp only[O.reads]at h;simp only[evA,rd h]
 |iaddr sz x i=>simp only[O.reads]at h;have h:=rdL h;simp only[evA,h x fU,h i fU]
 |index x i=>simp only[O.reads]at h;have h:=rdL h;simp only[evA,h x fU,h i fU]
 |ext x i=>simp only[O.reads]at h;simp only[evA,rd h]
 |len x=>simp only[O.reads]at h;simp only[evA,rd h]
 |lens x=>simp only[O.reads]at h;simp only[evA,rd h]
 |max x y=>simp only[O.reads]at h;have h:=rdL h;simp only[evA,h x fU,h y fU]
 |min x y=>simp only[O.reads]at h;have h:=rdL h;simp only[evA,h x fU,h y fU]
 |apart x y=>simp only[O.reads]at h;have h:=rdL h;simp only[evA,h x fU,h y fU]
 |add64 x y c=>simp only[O.reads]at h;have h:=rdL h;simp only[evA,h x fU,h y fU,h c fU]
 |sub64 x y c=>simp only[O.reads]at h;have h:=rdL h;simp only[evA,h x fU,h y fU,h c fU]
 |call p f l=>rfl
 |app sz by_ x y=>rfl
 |appk sz by_ x y=>rfl
 |copy sz x y=>rfl
 |clr sz z x=>rfl
def Re{σ:Sto}{o:O}(h:vj e e' o.reads):evW (X.ev e) σ o=evW (X.ev e') σ o:=by
 cases o with
 |store n x y=>simp only[O.reads]at h;have h:=rdL h;simp only[evW,h x fU,h y fU]
 |app sz by_ x y=>simp only[O.reads]at h;have h:=rdL h;simp only[evW,uU,h x fU,h y fU]
 |appk sz by_ x y=>simp only[O.reads]at h;have h:=rdL h;simp only[evW,uU,h x fU,h y fU]
 |copy sz x y=>simp only[O.reads]at h;have h:=rdL h;simp only[evW,h x fU,h y fU]
 |clr sz z x=>simp only[O.reads]at h;simp only[evW,rd h]
 |_=>rfl
def RW{gd:Option (Nat×Bool)}(h:vj e e' (match gd with
 |some (t,_)=>[t]
 |none=>[])):gdv e gd=gdv e' gd:=by
 cases gd with
 |none=>rfl
 |some tw=>
  obtain⟨t,want⟩:=tw;have h1:=h t fU;have key:∀(e:Env),gdv e (some (t,want))=match X.ev e (.t t)with
   |.b p=>some (p==want)
   |.tup _=>some false
   |_=>none:=by
   intro e;simp only[gdv,X.ev];cases e.get t with
   |none=>rfl
   |some d=>cases d<;>rfl
  rw[key,key,h1]
end
def D4{nx:Nat}{ev:X->D}{g:Nat->Option Blk}{o:O}(hb:blind o=true){d:D}{bs:List Blk}(h:evA nx ev g o=some (d,bs)):
 bs=[]/\∀nx' g',evA nx' ev g' o=some (d,[]):=by
 cases o<;>first|(cases hb;done)|skip
 all_goals
  have h0:=h;simp only[evA]at h
  (repeat' split at h)<;>first|(cases h;done)|skip
 all_goals
  simp only[aA,aI]at h;obtain⟨_,rfl⟩:=h;exact⟨rfl,λnx' g'=>h0⟩
def N7{nx:Nat}{ev:X->D}{g:Nat->Option Blk}{o:O}{r:D×List Blk}(h:evA nx ev g o=some r):sD o=false:=by
 cases o<;>first|rfl|(cases h;done)
def BU{ev:X->D}{σ:Sto}{o:O}{r:D×Sto}(h:evW ev σ o=some r):sD o=true:=by
 cases o<;>first|rfl|(cases h;done)
def Sub(g g':Nat->Option Blk):Prop:=∀l b,g l=some b->∃b',g' l=some b'/\b'.cs=b.cs/\b'.st.live=b.st.live
section
variable {g g':Nat->Option Blk}
def QK(hs:Sub g g'){d:D}{cs:List D}(h:at_ g d=some cs):at_ g' d=some cs:=by
 cases d<;>simp only[at_]at h ⊢ <;>first|(cases h;done)|skip
 case ptr l off=>
  cases hb:g l with
  |none=>rw[hb]at h;cases h
  |some b=>
   obtain⟨b',h1,h2,h3⟩:=hs l b hb;rw[hb]at h;simp only[h1,h2,h3];exact h
 case fp l=>exact h
def Jo(hs:Sub g g'){d:D}{sz:Nat}{cs:List D}(h:kw g sz d=some cs):kw g' sz d=some cs:=by
 cases d<;>simp only[kw]at h ⊢ <;>first|(cases h;done)|skip
 case sl l off len cm z ex=>
  cases hb:g l with
  |none=>rw[hb]at h;cases h
  |some b=>
   obtain⟨b',h1,h2,h3⟩:=hs l b hb;rw[hb]at h;simp only[h1,h2,h3];exact h
 case tree l n ex=>exact h
def Cl(g:Nat->Option Blk):D->Prop
 |.sl l _ _ _ _ _=>g l≠none
 |.ptr l _=>g l≠none
 |_=>True
def QL(hs:Sub g g'){d:D}(hc:Cl g d){cs:List D}(h:at_ g' d=some cs):at_ g d=some cs:=by
 cases d<;>simp only[at_]at h ⊢ <;>first|(cases h;done)|skip
 case ptr l off=>
  cases hb:g l with
  |none=>exact absurd hb hc
  |some b=>
   obtain⟨b',h1,h2,h3⟩:=hs l b hb;simp only[h1,h2,h3]at h;exact h
 case fp l=>exact h
def Jp(hs:Sub g g'){d:D}(hc:Cl g d){sz:Nat}{cs:List D}(h:kw g' sz d=some cs):kw g sz d=some cs:=by
 cases d<;>simp only[kw]at h ⊢ <;>first|(cases h;done)|skip
 case sl l off len cm z ex=>
  cases hb:g l with
  |none=>exact absurd hb hc
  |some b=>
   obtain⟨b',h1,h2,h3⟩:=hs l b hb;simp only[h1,h2,h3]at h;exact h
 case tree l n ex=>exact h
def Uu(hs:Sub g g'){nx:Nat}{ev:X->D}{o:O}{r:D×List Blk}(h:evA nx ev g o=some r):evA nx ev g' o=some r:=by
 cases o with
 |load1 x=>
  simp only[evA]at h ⊢;split at h
  ·rename_i d ds hd;rw[QK hs hd];exact h
  ·cases h
 |loadn n x=>
  simp only[evA]at h ⊢;split at h
  ·rename_i cs hd;rw[QK hs hd];exact h
  ·cases h
 |b2s x=>
  simp only[evA]at h ⊢;split at h
  ·rename_i cs hd;rw[Jo hs hd];exact h
  ·cases h
 |nilc x=>
  simp only[evA]at h ⊢;split at h
  ·rename_i l o hd;cases hb:g l with
   |none=>rw[hb]at h;cases h
   |some b=>
    obtain⟨b',h1,h2,h3⟩:=hs l b hb;simp only[hb]at h;simp only[h1,h3];exact h
  all_goals exact h
 |isnil n x=>
  simp only[evA]at h ⊢;split at h
  ·rename_i l o len cm z ex hd;cases hb:g l with
   |none=>rw[hb]at h;cases h
   |some b=>
    obtain⟨b',h1,h2,h3⟩:=hs l b hb;simp only[hb]at h;simp only[h1,h3];exact h
  all_goals exact h
 |slice sz x a b c=>
  simp only[evA]at h ⊢;split at h
  ·rename_i l off len cm z ex hd;cases hb:g l with
   |none=>
    exfalso;revert h;rw[hb];intro h;split at h
    ·rename_i hq;cases hq
    ·cases h
   |some b1=>
    obtain⟨b',h1,h2,h3⟩:=hs l b1 hb;rw[h1];rw[hb]at h;split at h
    ·rename_i m hh lw b2 q1 q2 q3 q4;simp only[aA]at q4;subst q4;simp only[q1,q2,q3,h3];exact h
    ·cases h
  all_goals exact h
 |faddr n x=>
  simp only[evA]at h ⊢;split at h
  ·rename_i l o hd;cases hb:g l with
   |none=>rw[hb]at h;cases h
   |some b=>
    obtain⟨b',h1,h2,h3⟩:=hs l b hb;simp only[hb]at h;simp only[h1,h3];exact h
  all_goals exact h
 |iaddr sz x i=>
  simp only[evA]at h ⊢;split at h
  ·rename_i k n hi;split at h
   ·rename_i l off len cm z ex hd;cases hb:g l with
    |none=>rw[hb]at h;cases h
    |some b=>
     obtain⟨b',h1,h2,h3⟩:=hs l b hb;simp only[hb]at h;simp only[h1,h3];exact h
   all_goals exact h
  ·cases h
 |_=>exact h
def Uv(hs:Sub g g'){nx:Nat}{ev:X->D}{o:O}(hc:∀x,o.adr=some x->Cl g (ev x)){r:D×List Blk}(h:evA nx ev g' o=some r):evA nx ev g o=some r:=by
 cases o with
 |load1 x=>
  have hc:=hc x rfl;simp only[evA]at h ⊢;split at h
  ·rename_i d ds hd;rw[QL hs hc hd];exact h
  ·cases h
 |loadn n x=>
  have hc:=hc x rfl;simp only[evA]at h ⊢;split at h
  ·rename_i cs hd;rw[QL hs hc hd];exact h
  ·cases h
 |b2s x=>
  have hc:=hc x rfl;simp only[evA]at h ⊢;split at h
  ·rename_i cs hd;rw[Jp hs hc hd];exact h
  ·cases h
 |nilc x=>
  have hc:=hc x rfl;simp only[evA]at h ⊢;split at h
  ·rename_i l o hd;cases hb:g l with
   |none=>rw[hd]at hc;exact absurd hb hc
   |some b=>
    obtain⟨b',h1,h2,h3⟩:=hs l b hb;simp only[h1,h3]at h;exact h
  all_goals exact h
 |isnil n x=>
  have hc:=hc x rfl;simp only[evA]at h ⊢;split at h
  ·rename_i l o len cm z ex hd;cases hb:g l with
   |none=>rw[hd]at hc;exact absurd hb hc
   |some b=>
    obtain⟨b',h1,h2,h3⟩:=hs l b hb;simp only[h1,h3]at h;exact h
  all_goals exact h
 |slice sz x a b c=>
  have hc:=hc x rfl;simp only[evA]at h ⊢;split at h
  ·rename_i l off len cm z ex hd;cases hb:g l with
   |none=>rw[hd]at hc;exact absurd hb hc
   |some b1=>
    obtain⟨b',h1,h2,h3⟩:=hs l b1 hb;rw[h1]at h;split at h
    ·rename_i m hh lw b2 q1 q2 q3 q4;simp only[aA]at q4;subst q4;simp only[q1,q2,q3,<-h3];exact h
    ·cases h
  all_goals exact h
 |faddr n x=>
  have hc:=hc x rfl;simp only[evA]at h ⊢;split at h
  ·rename_i l o hd;cases hb:g l with
   |none=>rw[hd]at hc;exact absurd hb hc
   |some b=>
    obtain⟨b',h1,h2,h3⟩:=hs l b hb;simp only[h1,h3]at h;exact h
  all_goals exact h
 |iaddr sz x i=>
  have hc:=hc x rfl;simp only[evA]at h ⊢;split at h
  ·rename_i k n hi;split at h
   ·rename_i l off len cm z ex hd;cases hb:g l with
    |none=>rw[hd]at hc;exact absurd hb hc
    |some b=>
     obtain⟨b',h1,h2,h3⟩:=hs l b hb;simp only[h1,h3]at h;exact h
   all_goals exact h
  ·cases h
 |_=>exact h
def zW{α β:Type}{f f':α->Option (β×List Nat)}:∀{xs:List α}{r:List β×List Nat},(∀d,d∈xs->∀r,f d=some r->f' d=some r)->i8 f xs=some r->i8 f' xs=some r
 |[],r,_,h=>h
 |x::xs,r,hf,h=>by
  simp only[i8]at h ⊢;split at h
  ·rename_i y a hy;split at h
   ·rename_i ys b hys;rw[hf x fU _ hy];simp only;rw[zW (λd hd=>hf d (by simp[hd])) hys];exact h
   ·cases h
  ·cases h
def K1(hs:Sub g g'):∀(k:Nat)(d:D)(r:D×List Nat),res g k d=some r->res g' k d=some r
 |0,d,r,h=>by simp[res]at h
 |k+1,d,r,h=>by
  have ih:∀(xs:List D)(r:List D×List Nat),i8 (res g k) xs=some r->i8 (res g' k) xs=some r:=λxs r h=>zW (λd _ r hr=>K1 hs k d r hr) h;cases d<;>simp only[res]at h ⊢ <;>first|exact h|skip
  case sl l off len cm z ex=>
   cases hb:g l with
   |none=>rw[hb]at h;cases h
   |some b=>
    obtain⟨b',h1,h2,h3⟩:=hs l b hb;simp only[hb]at h;simp only[h1,h2,h3];split at h
    ·cases h
    ·rename_i hl;rw[aG hl];split at h
     ·rename_i rr z6f;split at h
      ·rename_i cs ls hm;rw[ih _ _ hm];exact h
      ·cases h
     ·cases h
  case ptr l off=>
   cases hb:g l with
   |none=>rw[hb]at h;cases h
   |some b=>
    obtain⟨b',h1,h2,h3⟩:=hs l b hb;simp only[hb]at h;simp only[h1,h2,h3];split at h
    ·cases h
    ·rename_i hl;rw[aG hl];split at h
     ·rename_i cs ls hm;rw[ih _ _ hm];exact h
     ·cases h
  all_goals
   split at h
   ·rename_i cs ls hm;rw[ih _ _ hm];exact h
   ·cases h
end
section
variable {im:Nat->Option Nat} {g g':Nat->Option Blk} {μ:Nat->Nat×Nat} {w:World} {ok okp:Nat->Nat->Prop} {base:Nat}
def QR{cs:List D}{b o:Nat}(h:VRc im g μ w ok cs b o):∀d,d∈cs->∃v,VR im g μ w ok d v:=by
 intro d hd;obtain⟨j,hj⟩:=List.getElem?_of_mem hd;obtain⟨v,_,hv⟩:=AZ h hj;exact⟨v,hv⟩
def En{cs:List D}{vs:List Value}(h:VRl im g μ w ok cs vs):∀d,d∈cs->∃v,VR im g μ w ok d v:=by
 intro d hd;obtain⟨j,hj⟩:=List.getElem?_of_mem hd;obtain⟨v,_,hv⟩:=(ky.1 h).2 j d hj;exact⟨v,hv⟩
def WG{d:D}{v:Value}(h:VR im g μ w ok d v):Cl g d:=by
 cases d<;>simp only[Cl]
 ·simp only[VR]at h;obtain⟨b,_,_,hb,_⟩:=h;rw[hb];simp
 ·simp only[VR]at h;obtain⟨b,_,hb,_⟩:=h;rw[hb];simp
def K5(R:Rel im g μ w ok okp base)(hs:Sub g g'):∀(k:Nat)(d:D)(v:Value)(r:D×List Nat),VR im g μ w ok d v->res g' k d=some r->res g k d=some r
 |0,d,v,r,_,h=>by simp[res]at h
 |k+1,d,v,r,hv,h=>by
  have ih:∀(xs:List D)(r:List D×List Nat),(∀d,d∈xs->∃v,VR im g μ w ok d v)->i8 (res g' k) xs=some r->i8 (res g k) xs=some r:=λxs r hx h=>
   zW (λd hd r hr=>by
    obtain⟨v,hv⟩:=hx d hd;exact K5 R hs k d v r hv hr) h
  have hcl:=WG hv;cases d<;>simp only[res]at h ⊢ <;>first|exact h|skip
  case sl l off len cm z ex=>
   cases hb:g l with
   |none=>exact absurd hb hcl
   |some b=>
    obtain⟨b',h1,h2,h3⟩:=hs l b hb;simp only[h1,h2,h3]at h;simp only;split at h
    ·cases h
    ·rename_i hl;rw[aG hl];split at h
     ·rename_i rr z6f;split at h
      ·rename_i cs ls hm;have z6g:b.st.live=true:=by simpa using hl
       rw[ih _ _ (λd hd=>QR (R.blk l b hb z6g).2 d (by rw[(yY z6f).1]at hd;exact ba (bH hd))) hm];exact h
      ·cases h
     ·cases h
  case ptr l off=>
   cases hb:g l with
   |none=>exact absurd hb hcl
   |some b=>
    obtain⟨b',h1,h2,h3⟩:=hs l b hb;simp only[h1,h2,h3]at h;simp only;split at h
    ·cases h
    ·rename_i hl;rw[aG hl];split at h
     ·rename_i cs ls hm;have z6g:b.st.live=true:=by simpa using hl
      rw[ih _ _ (λd hd=>QR (R.blk l b hb z6g).2 d (ba hd)) hm];exact h
     ·cases h
  case agg cs=>
   simp only[VR]at hv;obtain⟨arr,_,hl⟩:=hv;split at h
   ·rename_i cs' ls hm;rw[ih _ _ (En hl) hm];exact h
   ·cases h
  case tup cs=>
   simp only[VR]at hv;obtain⟨arr,_,hl⟩:=hv;split at h
   ·rename_i cs' ls hm;rw[ih _ _ (En hl) hm];exact h
   ·cases h
  case fn f cs=>
   simp only[VR]at hv;obtain⟨F,arr,_,_,hl⟩:=hv;split at h
   ·rename_i cs' ls hm;rw[ih _ _ (En hl) hm];exact h
   ·cases h
def Qn(R:Rel im g μ w ok okp base)(hs:Sub g g'){k:Nat}{ds:List D}{vs:List Value}{r:List D×List Nat}(hv:VRl im g μ w ok ds vs)(h:i8 (res g' k) ds=some r):i8 (res g k) ds=some r:=
 zW (λd hd r hr=>by
  obtain⟨v,hv⟩:=En hv d hd;exact K5 R hs k d v r hv hr) h
end
def B7:∀(bs:List Blk)(g:Nat->Option Blk)(nx l:Nat),tp g nx bs l=if nx<=l/\l<nx+bs.length then bs[l-nx]?else g l
 |[],g,nx,l=>by
  rw[aG (by simp only[dV];omega)];rfl
 |b::bs,g,nx,l=>by
  simp only[tp,ah];rw[B7 bs];by_cases h:nx+1<=l/\l<nx+1+bs.length
  ·rw[aF h,aF eP,show l-nx=(l-(nx+1))+1 by omega];simp
  ·rw[aG h];by_cases h2:l=nx
   ·subst h2;rw[fh,aF eP];simp
   ·rw[gF _ _ h2,aG eP]
def yV:∀(ls:List Nat)(g:Nat->Option Blk)(l:Nat),vZ g ls l=if l∈ls then(g l).map (λq=>⟨q.cs,q.st.fz⟩)else g l
 |[],g,l=>by simp[vZ]
 |m::ls,g,l=>by
  simp only[vZ];cases hm:g m with
  |none=>
   show vZ g ls l=_;rw[yV ls];by_cases h:l=m
   ·subst h;simp[hm]
   ·simp[h]
  |some b=>
   show vZ (upd g m (some ⟨b.cs,b.st.fz⟩)) ls l=_;rw[yV ls];by_cases h:l=m
   ·subst h;rw[fh,hm];simp[ZB]
   ·rw[gF _ _ h];simp[h]
section
open Classical
noncomputable def fz(c:Prop)(x:Option Blk):Option Blk:=if c then x.map (λq=>⟨q.cs,q.st.fz⟩)else x
def Ed(c:Prop):fz c none=none:=by unfold fz;split<;>rfl
def C8{c:Prop}{q b:Blk}(h:fz c (some q)=some b):b.cs=q.cs/\b.st.live=q.st.live:=by
 unfold fz at h;split at h
 ·simp only[dT,aA]at h;subst h;exact⟨rfl,Ee _⟩
 ·simp only[aA]at h;subst h;exact⟨rfl,rfl⟩
def Ub{c:Prop}{q b:Blk}(h:fz c (some q)=some b):b.st.fz=q.st.fz:=by
 unfold fz at h;split at h
 ·simp only[dT,aA]at h;subst h;exact ZB _
 ·simp only[aA]at h;subst h;rfl
def z36{c:Prop}{q:Blk}:∃b,fz c (some q)=some b:=by
 unfold fz;split<;>simp
def LR{c c':Prop}(h:c↔c')(x:Option Blk):fz c x=fz c' x:=by
 have:c=c':=propext h;rw[this]
noncomputable def Gb(g0:Nat->Option Blk)(np:Nat)(A:Nat->Option (Nat×Blk))(T:Nat->Prop)(l:Nat):Option Blk:=
 if l<np then g0 l else match A l with
  |some (j,b)=>if T j then some b else none
  |none=>none
noncomputable def Gf(g0:Nat->Option Blk)(np:Nat)(A:Nat->Option (Nat×Blk))(ls:Nat->List Nat)(T:Nat->Prop):Nat->Option Blk:=λl=>
 fz (∃j,T j/\l∈ls j) (Gb g0 np A T l)
variable {g0:Nat->Option Blk} {np:Nat} {A:Nat->Option (Nat×Blk)} {ls:Nat->List Nat} {T T':Nat->Prop}
def z1O(h:∀j,T j->T' j){l:Nat}{q:Blk}(hq:Gb g0 np A T l=some q):Gb g0 np A T' l=some q:=by
 unfold Gb at hq ⊢;split
 ·rename_i hl;rw[aF hl]at hq;exact hq
 ·rename_i hl;rw[aG hl]at hq;cases hA:A l with
  |none=>rw[hA]at hq;cases hq
  |some jb=>
   obtain⟨j,b⟩:=jb;rw[hA]at hq;simp only at hq ⊢;split at hq
   ·rename_i hj;rw[aF (h j hj)];exact hq
   ·cases hq
def Nu(h:∀j,T j->T' j):Sub (Gf g0 np A ls T) (Gf g0 np A ls T'):=by
 intro l b hb;unfold Gf at hb ⊢;cases hq:Gb g0 np A T l with
 |none=>rw[hq,Ed]at hb;cases hb
 |some q=>
  rw[hq]at hb;rw[z1O h hq];obtain⟨b',hb'⟩:=z36 (c:=∃j,T' j/\l∈ls j) (q:=q);exact⟨b',hb',by rw[(C8 hb').1,(C8 hb).1],by rw[(C8 hb').2,(C8 hb).2]⟩
def WN(h:∀j,T j->T' j){l:Nat}(hl:Gf g0 np A ls T l≠none):Gf g0 np A ls T' l≠none:=by
 cases hb:Gf g0 np A ls T l with
 |none=>exact absurd hb hl
 |some b=>
  obtain⟨b',h1,_⟩:=Nu h l b hb;rw[h1];simp
def MG(h1:∀j l,l∈ls j->(T j↔T' j))(h2:∀j l b,A l=some (j,b)->(T j↔T' j)):Gf g0 np A ls T=Gf g0 np A ls T':=by
 funext l;unfold Gf;have e1:(∃j,T j/\l∈ls j)↔(∃j,T' j/\l∈ls j):=⟨λ⟨j,a,b⟩=>⟨j,(h1 j l b).1 a,b⟩,λ⟨j,a,b⟩=>⟨j,(h1 j l b).2 a,b⟩⟩
 have e2:Gb g0 np A T l=Gb g0 np A T' l:=by
  unfold Gb;split
  ·rfl
  ·cases hA:A l with
   |none=>rfl
   |some jb=>
    obtain⟨j,b⟩:=jb;simp only;by_cases ht:T j
    ·rw[aF ht,aF ((h2 j l b hA).1 ht)]
    ·rw[aG ht,aG (λh=>ht ((h2 j l b hA).2 h))]
 rw[LR e1,e2]
def HC(h:∀j,¬T j)(hf:∀l,np<=l->g0 l=none):Gf g0 np A ls T=g0:=by
 funext l;unfold Gf fz;rw[aG (λ⟨j,hj,_⟩=>h j hj)];unfold Gb;split
 ·rfl
 ·rename_i hl;rw[hf l eP];cases A l with
  |none=>rfl
  |some jb=>obtain⟨j,b⟩:=jb;simp only;rw[aG (h j)]
def QV{x nx:Nat}{bs:List Blk}(hx:¬T x)(hn:np<=nx)(hA1:∀i b,bs[i]?=some b->A (nx+i)=some (x,b))(hA2:∀l b,A l=some (x,b)->nx<=l/\l<nx+bs.length)
 (hl:∀l,l∈ls x->∃b,Gf g0 np A ls T l=some b/\b.st.live=true) (hT:∀j,T j->∀l,l∈ls j->Gf g0 np A ls T l≠none):
 tp (vZ (Gf g0 np A ls T) (ls x)) nx bs=Gf g0 np A ls (λj=>T j\/j=x):=by
 funext l;rw[B7];by_cases hin:nx<=l/\l<nx+bs.length
 ·rw[aF hin];have hlt:l-nx<bs.length:=eP;have hb:=aE hlt;have hA:=hA1 _ _ hb;rw[show nx+(l-nx)=l by omega]at hA;have zam:Gf g0 np A ls T l=none:=by
   unfold Gf;have:Gb g0 np A T l=none:=by
    unfold Gb;rw[aG eP,hA];simp only;rw[aG hx]
   rw[this,Ed]
  have hno:¬ ∃j,(T j\/j=x)/\l∈ls j:=by
   rintro ⟨j,hj|rfl,hm⟩
   ·exact hT j hj l hm zam
   ·obtain⟨b,hb,_⟩:=hl l hm;rw[zam]at hb;cases hb
  unfold Gf fz;rw[aG hno];unfold Gb;rw[aG eP,hA,hb];simp
 ·rw[aG hin,yV];have zay:Gb g0 np A (λj=>T j\/j=x) l=Gb g0 np A T l:=by
   unfold Gb;split
   ·rfl
   ·cases hA:A l with
    |none=>rfl
    |some jb=>
     obtain⟨j,b⟩:=jb;simp only;have hne:j≠x:=by
      rintro rfl
      exact hin (hA2 l b hA)
     by_cases ht:T j
     ·rw[aF ht,aF (.inl ht)]
     ·rw[aG ht,aG (λh=>h.elim ht hne)]
  by_cases hm:l∈ls x
  ·rw[aF hm];obtain⟨b,hb,z6g⟩:=hl l hm;rw[hb];have hb':=hb;unfold Gf at hb' ⊢;rw[zay];cases hq:Gb g0 np A T l with
   |none=>rw[hq,Ed]at hb';cases hb'
   |some q=>
    rw[hq]at hb';obtain⟨f1,f2⟩:=C8 hb';unfold fz;rw[aF ⟨x,.inr rfl,hm⟩];rw[f2]at z6g;simp[f1,Ub hb']
  ·rw[aG hm];unfold Gf;rw[zay];refine LR ⟨λ⟨j,a,b⟩=>⟨j,.inl a,b⟩,?_⟩ _
   rintro ⟨j,hj|rfl,b⟩
   ·exact⟨j,hj,b⟩
   ·exact absurd b hm
end
section
variable {P:Program} {im:Nat->Option Nat} {Δ:Tr Ent}
inductive Eff (P:Program) (im:Nat->Option Nat) (Δ:Tr Ent) (K:Nat) (i:Ins) (e:Env) (σ σ':Sto) (d:D) (ls:List Nat) (bs:List Blk):Prop where
 |skip (h1:gdv e i.gd=some false) (h2:d=.tup []) (h3:ls=[]) (h4:bs=[]) (h5:σ'=σ)
 |quiet (h1:gdv e i.gd=some true) (h0:∀p f as,i.op≠.call p f as) (h2:evA σ.nx (X.ev e) σ.get i.op=some (d,bs)) (h3:ls=[]) (h4:σ'=σ.adds bs)
 |pure (h1:gdv e i.gd=some true) (f:X) (as:List X) (k:Nat) (z6c as':List D) (l0:List Nat) (r:D) (h2:i.op=.call true f as) (h3:X.ev e f=.fn k z6c)
  (h4:i8 (res σ.get gJ) (as.map (X.ev e)++z6c)=some (as',l0)) (h5:∀F,im F=some k->rj P im F as' r) (h6:d=(mat σ.nx r).1) (h7:ls=EP r l0) (h8:bs=(mat σ.nx r).2) (h9:σ'=(fin σ l0 r).2) (h10:Δ.get k≠none)
 |write (h1:gdv e i.gd=some true) (h2:ls=[]) (h3:bs=[]) (h4:evW (X.ev e) σ i.op=some (d,σ'))
 |call (h1:gdv e i.gd=some true) (h2:ls=[]) (h3:bs=[]) (f:X) (as:List X) (k:Nat) (z6c:List D) (h4:i.op=.call false f as) (h5:X.ev e f=.fn k z6c) (j:Nat) (hj:j<K)
  (h6:run Δ j (.call false (.fn k z6c) (as.map (X.ev e)) σ)=some (.val d σ')) (h10:Δ.get k≠none)
def Aj{k:Nat}{p:Bool}{f:Nat}{z6c as:List D}{σ:Sto}{r:Out}(h:run Δ k (.call p (.fn f z6c) as σ)=some r):Δ.get f≠none:=by
 intro hn;cases k<;>simp[run,hn]at h
def Eff.mono{K K':Nat}(hK:K<=K'){i:Ins}{e:Env}{σ σ':Sto}{d:D}{ls:List Nat}{bs:List Blk}(h:Eff P im Δ K i e σ σ' d ls bs):Eff P im Δ K' i e σ σ' d ls bs:=by
 cases h with
 |skip h1 h2 h3 h4 h5=>exact .skip h1 h2 h3 h4 h5
 |quiet h1 h0 h2 h3 h4=>exact .quiet h1 h0 h2 h3 h4
 |pure h1 f as k z6c as' l0 r h2 h3 h4 h5 h6 h7 h8 h9 h10=>exact .pure h1 f as k z6c as' l0 r h2 h3 h4 h5 h6 h7 h8 h9 h10
 |write h1 h2 h3 h4=>exact .write h1 h2 h3 h4
 |call h1 h2 h3 f as k z6c h4 h5 j hj h6 h10=>exact .call h1 h2 h3 f as k z6c h4 h5 j (bw hj hK) h6 h10
def AI{Δ:Tr Ent}{k:Nat}{dst:Option Nat}{gd:Option (Nat×Bool)}{p:Bool}{f:X}{as:List X}{l:List Ins}{e:Env}{σ:Sto}(hg:gdv e gd=some true):
 run Δ (k+1) (.ops (⟨dst,gd,.call p f as⟩::l) e σ)=match run Δ k (.call p (f.ev e) (as.map (X.ev e)) σ)with
  |some (.val d σ)=>run Δ k (.ops l (put e dst d) σ)
  |_=>none:=by
 simp only[run,hg];rfl
def wd{Δ:Tr Ent}{k:Nat}{dst:Option Nat}{gd:Option (Nat×Bool)}{o:O}{l:List Ins}{e:Env}{σ:Sto}(hg:gdv e gd=some true)(hne:∀p f as,o≠.call p f as):
 run Δ (k+1) (.ops (⟨dst,gd,o⟩::l) e σ)=match evA σ.nx (X.ev e) σ.get o with
  |some (d,bs)=>run Δ k (.ops l (put e dst d) (σ.adds bs))
  |none=>match evW (X.ev e) σ o with
   |some (d,σ)=>run Δ k (.ops l (put e dst d) σ)
   |none=>none:=by
 cases o<;>first|exact absurd rfl (hne _ _ _)|(simp only[run,hg];rfl)
def AJ{Δ:Tr Ent}{k:Nat}{dst:Option Nat}{gd:Option (Nat×Bool)}{o:O}{l:List Ins}{e:Env}{σ:Sto}(hg:gdv e gd=some false):
 run Δ (k+1) (.ops (⟨dst,gd,o⟩::l) e σ)=run Δ k (.ops l (put e dst (.tup [])) σ):=by
 simp only[run,hg]
def OU{Δ:Tr Ent}{k:Nat}{dst:Option Nat}{gd:Option (Nat×Bool)}{o:O}{l:List Ins}{e:Env}{σ:Sto}(hg:gdv e gd=none):
 run Δ (k+1) (.ops (⟨dst,gd,o⟩::l) e σ)=none:=by
 simp only[run,hg]
def yB{Δ:Tr Ent}{k:Nat}{p:Bool}{f:Nat}{z6c as:List D}{σ:Sto}:run Δ (k+1) (.call p (.fn f z6c) as σ)=match Δ.get f with
 |none=>none
 |some (.model M)=>match i8 (res σ.get gJ) (as++z6c)with
  |some (as,ls)=>match M as with
   |some r=>some (.val (fin σ ls r).1 (fin σ ls r).2)
   |none=>none
  |none=>none
 |some (.body F)=>match !p&&Nat.beq F.mode 2 with
  |true=>match run Δ k (.code F.body (tP .nil 0 (as++z6c)) σ)with
   |some (.code x e σ)=>match x with
    |.exit _=>none
    |_=>match sE e σ F.res with
     |some d=>some (.val d σ)
     |none=>none
   |_=>none
  |false=>match i8 (res σ.get gJ) (as++z6c)with
   |some (as,ls)=>match run Δ k (.code F.body (tP .nil 0 as) Sto.empty)with
    |some (.code x e σ')=>match x with
     |.exit _=>none
     |_=>match sE e σ' F.res with
      |some d=>match lf (!Nat.beq F.mode 0) σ'.get gJ d with
       |some r=>some (.val (fin σ ls r).1 (fin σ ls r).2)
       |none=>none
      |none=>none
    |_=>none
   |none=>none:=by
 simp only[run];rfl
def GX{ev:X->D}{σ σ':Sto}{sz bs:Nat}{x y:X}{d:D}(h:uU ev σ sz bs x y=some (d,σ')):σ.nx<=σ'.nx:=by
 unfold uU at h
 (repeat' split at h)<;>first|(cases h;done)|skip
 all_goals
  simp only[aA,aI]at h;obtain⟨_,rfl⟩:=h
  first
   |exact aC _
   |(rw[(pT _ _).2];show σ.nx<=σ.nx+_;omega)
   |(rw[(pT _ _).2];split<;>(show σ.nx<=σ.nx+_;omega))
def Ut{ev:X->D}{σ σ':Sto}{q:O}{d:D}(h:evW ev σ q=some (d,σ')):σ.nx<=σ'.nx:=by
 cases q<;>simp only[evW]at h<;>first|(cases h;done)|skip
 all_goals
  (repeat' split at h)<;>first|(cases h;done)|(exact GX h)|skip
 all_goals
  simp only[aA,aI]at h;obtain⟨_,rfl⟩:=h
  first
   |exact aC _
   |(show σ.nx<=(Sto.put _ _ _).nx;rw[Sto.nx_put];exact GX ‹_›)
   |exact GX ‹_›
   |(rw[(pT _ _).2];show σ.nx<=σ.nx+_;omega)
   |(rw[(pT _ _).2];split<;>(show σ.nx<=σ.nx+_;omega))
def Job.nx:Job->Nat
 |.code _ _ σ=>σ.nx
 |.ops _ _ σ=>σ.nx
 |.call _ _ _ σ=>σ.nx
def Out.nx:Out->Nat
 |.code _ _ σ=>σ.nx
 |.val _ σ=>σ.nx
def z08{Δ:Tr Ent}:∀(k:Nat)(j:Job)(r:Out),run Δ k j=some r->j.nx<=r.nx:=by
 intro k
 induction k with
 |zero=>intro j r h;simp[run]at h
 |succ k ih=>
  intro j r h;cases j with
  |code c e σ=>
   cases c with
   |bad=>simp[run]at h
   |skip=>simp only[run,aA]at h;subst h;exact aC _
   |reg l=>simp only[run]at h;have a1:=ih _ _ h;exact a1
   |seq a b=>
    simp only[run]at h;split at h
    ·rename_i e1 σ1 h1;have a1:=ih _ _ h1;have a2:=ih _ _ h;exact aX a1 a2
    ·have a1:=ih _ _ h;exact a1
   |cond x a b=>
    simp only[run]at h;split at h
    ·have a1:=ih _ _ h;exact a1
    ·have a1:=ih _ _ h;exact a1
    ·cases h
   |block id c=>
    simp only[run]at h;split at h
    ·rename_i j e1 σ1 h1;have:=ih _ _ h1;cases hj:Nat.beq j id with
     |true=>rw[hj]at h;simp only[cond_true,aA]at h;subst h;exact this
     |false=>rw[hj]at h;simp only[cond_false,aA]at h;subst h;exact this
    ·have a1:=ih _ _ h;exact a1
   |loop c=>
    simp only[run]at h;split at h
    ·rename_i e1 σ1 h1;have a1:=ih _ _ h1;have a2:=ih _ _ h;exact aX a1 a2
    ·have a1:=ih _ _ h;exact a1
   |exit id=>simp only[run,aA]at h;subst h;exact aC _
   |ret=>simp only[run,aA]at h;subst h;exact aC _
   |cut ls c=>simp only[run]at h;have a1:=ih _ _ h;exact a1
  |ops l e σ=>
   cases l with
   |nil=>simp only[run,aA]at h;subst h;exact aC _
   |cons i l=>
    obtain⟨dst,gd,op⟩:=i;rcases Bt h with⟨h1,h2⟩|⟨h1,⟨p,f,z6c,as,d,σ1,q1,q2,q3,q4⟩|⟨d,bs,q0,q1,q2⟩|⟨d,σ1,q0,_,q1,q2⟩⟩
    ·have a1:=ih _ _ h2;exact a1
    ·have a1:=ih _ _ q3;have a2:=ih _ _ q4;exact aX a1 a2
    ·have h3:=ih _ _ q2;have h4:=(pT bs σ).2;show σ.nx<=r.nx;have h5:(σ.adds bs).nx<=r.nx:=h3;omega
    ·have a2:=ih _ _ q2;exact aX (Ut q1) a2
  |call p f as σ=>
   cases f
   case fn f z6c=>
    rw[yB]at h;have z75:∀ls q,σ.nx<=(fin σ ls q).2.nx:=λls q=>by rw[N3];omega
    split at h
    ·cases h
    ·split at h
     ·split at h
      ·simp only[aA]at h;subst h;exact z75 _ _
      ·cases h
     ·cases h
    ·split at h
     ·split at h
      ·rename_i x e1 σ1 h1;split at h
       ·cases h
       ·split at h
        ·simp only[aA]at h;subst h;have a1:=ih _ _ h1;exact a1
        ·cases h
      ·cases h
     ·split at h
      ·split at h
       ·split at h
        ·cases h
        ·split at h
         ·split at h
          ·simp only[aA]at h;subst h;exact z75 _ _
          ·cases h
         ·cases h
       ·cases h
      ·cases h
   all_goals simp[run]at h
def Bv{Δ:Tr Ent}{l2:List Ins}:∀(l1:List Ins)(k:Nat)(e:Env)(σ:Sto)(r:Out),run Δ k (.ops (l1++l2) e σ)=some r->∃e1 σ1 m,run Δ k (.ops l1 e σ)=some (.code .nrm e1 σ1)/\run Δ m (.ops l2 e1 σ1)=some r
 |[],0,e,σ,r,h=>by simp[run]at h
 |[],k+1,e,σ,r,h=>⟨e,σ,k+1,by simp only[run],h⟩
 |i::l,0,e,σ,r,h=>by simp[run]at h
 |i::l,k+1,e,σ,r,h=>by
  obtain⟨dst,gd,op⟩:=i;rcases Bt (show run Δ (k+1) (.ops (⟨dst,gd,op⟩::(l++l2)) e σ)=some r from h)with⟨h1,h2⟩|⟨h1,⟨p,f,z6c,as,d,σ1,q1,q2,q3,q4⟩|⟨d,bs,q0,q1,q2⟩|⟨d,σ1,q0,q5,q1,q2⟩⟩
  ·obtain⟨e1,σ2,m,a1,a2⟩:=Bv l k _ _ _ h2;exact⟨e1,σ2,m,by rw[AJ h1];exact a1,a2⟩
  ·obtain⟨e1,σ2,m,a1,a2⟩:=Bv l k _ _ _ q4;have q1:op=.call p f as:=q1;subst q1;exact⟨e1,σ2,m,by rw[AI h1,q2,q3];exact a1,a2⟩
  ·obtain⟨e1,σ2,m,a1,a2⟩:=Bv l k _ _ _ q2;exact⟨e1,σ2,m,by rw[wd h1 q0,q1];exact a1,a2⟩
  ·obtain⟨e1,σ2,m,a1,a2⟩:=Bv l k _ _ _ q2;exact⟨e1,σ2,m,by rw[wd h1 q0,q5];simp only[q1];exact a1,a2⟩
def OV:∀(l:List Ins)(k:Nat)(e:Env)(σ:Sto)(x:Ex)(e':Env)(σ':Sto),(∀j,j<k->Ib P im Δ j)->run Δ k (.ops l e σ)=some (.code x e' σ')->
 x=.nrm/\∃(es:Nat->Env)(ss:Nat->Sto)(dv:Nat->D)(ls:Nat->List Nat)(bs:Nat->List Blk),es 0=e/\ss 0=σ/\es l.length=e'/\ss l.length=σ'/\
  ∀i ins,l[i]?=some ins->es (i+1)=put (es i) ins.dst (dv i)/\Eff P im Δ k ins (es i) (ss i) (ss (i+1)) (dv i) (ls i) (bs i)
 |[],0,e,σ,x,e',σ',_,h=>by simp[run]at h
 |[],k+1,e,σ,x,e',σ',_,h=>by
  simp only[run,aA,Out.code.injEq]at h;obtain⟨rfl,rfl,rfl⟩:=h;exact⟨rfl,λ_=>e,λ_=>σ,λ_=>.u,λ_=>[],λ_=>[],rfl,rfl,rfl,rfl,λi ins hi=>by simp at hi⟩
 |i0::l,0,e,σ,x,e',σ',_,h=>by simp[run]at h
 |i0::l,k+1,e,σ,x,e',σ',hP,h=>by
  have key:∀(d:D)(l0:List Nat)(b0:List Blk)(σ1:Sto),Eff P im Δ (k+1) i0 e σ σ1 d l0 b0->run Δ k (.ops l (put e i0.dst d) σ1)=some (.code x e' σ')->
   x=.nrm/\∃(es:Nat->Env)(ss:Nat->Sto)(dv:Nat->D)(ls:Nat->List Nat)(bs:Nat->List Blk),es 0=e/\ss 0=σ/\es (i0::l).length=e'/\ss (i0::l).length=σ'/\
    ∀i ins,(i0::l)[i]?=some ins->es (i+1)=put (es i) ins.dst (dv i)/\Eff P im Δ (k+1) ins (es i) (ss i) (ss (i+1)) (dv i) (ls i) (bs i):=by
   intro d l0 b0 σ1 za2 z6v;obtain⟨hx,es,ss,dv,ls,bs,q1,q2,q3,q4,q5⟩:=OV l k _ _ _ _ _ (λj hj=>hP j eP) z6v;refine⟨hx,λi=>Nat.casesOn i e es,λi=>Nat.casesOn i σ ss,λi=>Nat.casesOn i d dv,λi=>Nat.casesOn i l0 ls,λi=>Nat.casesOn i b0 bs,rfl,rfl,q3,q4,?_⟩;intro i ins hi;cases i with
   |zero=>
    simp only[ax,aA]at hi;subst hi;refine⟨q1,?_⟩;show Eff P im Δ (k+1) i0 e σ (ss 0) d l0 b0;rw[q2];exact za2
   |succ i=>
    simp only[bP]at hi;obtain⟨a1,a2⟩:=q5 i ins hi;exact⟨a1,a2.mono (Nat.le_succ k)⟩
  rcases Bt h with⟨h1,h2⟩|⟨h1,⟨p,f,z6c,as,d,σ1,q1,q2,q3,q4⟩|⟨d,bs,q0,q1,q2⟩|⟨d,σ1,q0,_,q1,q2⟩⟩
  ·exact key (.tup []) [] [] σ (.skip h1 rfl rfl rfl rfl) h2
  ·cases p with
   |true=>
    obtain⟨as',ls,r,p1,p2,p3,p4⟩:=hP k (co k) z6c.1 z6c.2 _ σ d σ1 q3;refine key d (EP r ls) (mat σ.nx r).2 σ1 (.pure h1 f as z6c.1 z6c.2 as' ls r q1 q2 p1 p4 ?_ rfl rfl p3 (Aj q3)) q4;rw[p2,Pc]
   |false=>exact key d [] [] σ1 (.call h1 rfl rfl f as z6c.1 z6c.2 q1 q2 k (co k) q3 (Aj q3)) q4
  ·exact key d [] bs (σ.adds bs) (.quiet h1 q0 q1 rfl rfl) q2
  ·exact key d [] [] σ1 (.write h1 rfl rfl q1) q2
def Eff.still{K:Nat}{i:Ins}{e:Env}{σ σ':Sto}{d:D}{ls:List Nat}{bs:List Blk}(h:Eff P im Δ K i e σ σ' d ls bs)(hw:sD i.op=false):
 σ'.get=tp (vZ σ.get ls) σ.nx bs/\σ'.nx=σ.nx+bs.length/\(jx σ->jx σ')/\(∀l,l∈ls->∃b,σ.get l=some b/\b.st.live=true):=by
 cases h with
 |skip h1 h2 h3 h4 h5=>subst h3 h4 h5;exact⟨rfl,rfl,λh=>h,λl hl=>by cases hl⟩
 |quiet h1 h0 h2 h3 h4=>
  subst h3 h4;exact⟨(pT bs σ).1,(pT bs σ).2,λh=>jx.adds bs h,λl hl=>by cases hl⟩
 |pure h1 f as k z6c as' l0 r h2 h3 h4 h5 h6 h7 h8 h9 h10=>
  subst h7 h8 h9;refine⟨Cc σ l0 r,N3 σ l0 r,λh=>IP h l0 r,λl hl=>?_⟩;unfold EP at hl;split at hl
  ·cases hl
  ·exact tM h4 l hl
 |write h1 h2 h3 h4=>rw[BU h4]at hw;cases hw
 |call h1 h2 h3 f as k z6c h4 h5 j hj h6 h10=>rw[h4]at hw;cases hw
def Eff.blind{K:Nat}{i:Ins}{e:Env}{σ σ':Sto}{d:D}{ls:List Nat}{bs:List Blk}(h:Eff P im Δ K i e σ σ' d ls bs)(hb:blind i.op=true):ls=[]/\bs=[]:=by
 cases h with
 |skip h1 h2 h3 h4 h5=>exact⟨h3,h4⟩
 |quiet h1 h0 h2 h3 h4=>exact⟨h3,(D4 hb h2).1⟩
 |pure h1 f as k z6c as' l0 r h2 h3 h4 h5 h6 h7 h8 h9 h10=>rw[h2]at hb;cases hb
 |write h1 h2 h3 h4=>exact⟨h2,h3⟩
 |call h1 h2 h3 f as k z6c h4 h5 j hj h6 h10=>rw[h4]at hb;cases hb
def Ay{x:X}{s:Nat}(h:H9 x=some s):x=.t s:=by
 cases x with
 |t n=>simp only[H9,aA]at h;rw[h]
 |c d=>cases h
def u6{o:O}{s:Nat}(h:zY o=some s):o=.load1 (.t s)\/∃n,o=.loadn n (.t s):=by
 cases o<;>simp only[zY]at h<;>first|(cases h;done)|skip
 ·exact .inl (by rw[Ay h])
 ·exact .inr ⟨_,by rw[Ay h]⟩
def Lf{L:List Pl}{o:O}(h:far L o=true):∃s,zY o=some s/\Kj s L=true:=by
 unfold far at h;split at h
 ·rename_i s hs;exact⟨s,hs,h⟩
 ·cases h
def XR{o:O}{a nx:Nat}(h:zY o=some a){ev ev':X->D}{g g':Nat->Option Blk}(hat:at_ g (ev (.t a))=at_ g' (ev' (.t a))):evA nx ev g o=evA nx ev' g' o:=by
 rcases u6 h with rfl|⟨n,rfl⟩<;>simp only[evA,hat]
def XT{o:O}{a nx:Nat}(h:zY o=some a){ev:X->D}{g:Nat->Option Blk}{r:D×List Blk}(hr:evA nx ev g o=some r):at_ g (ev (.t a))≠none:=by
 intro hn;rcases u6 h with rfl|⟨n,rfl⟩<;>simp[evA,hn]at hr
def XS{o:O}{a nx:Nat}(h:zY o=some a){ev:X->D}{g:Nat->Option Blk}{d:D}{bs:List Blk}(hr:evA nx ev g o=some (d,bs)):bs=[]:=by
 rcases u6 h with rfl|⟨n,rfl⟩<;>simp only[evA]at hr<;>(repeat' split at hr)<;>first|(cases hr;done)|skip
 all_goals
  simp only[aA,aI]at hr;exact hr.2.symm
def Eff.far{K:Nat}{i:Ins}{e:Env}{σ σ':Sto}{d:D}{ls:List Nat}{bs:List Blk}{L:List Pl}(h:Eff P im Δ K i e σ σ' d ls bs)(hb:far L i.op=true):ls=[]/\bs=[]:=by
 obtain⟨s,hs,_⟩:=Lf hb;cases h with
 |skip h1 h2 h3 h4 h5=>exact⟨h3,h4⟩
 |quiet h1 h0 h2 h3 h4=>exact⟨h3,XS hs h2⟩
 |pure h1 f as k z6c as' l0 r h2 h3 h4 h5 h6 h7 h8 h9 h10=>rw[h2]at hs;cases hs
 |write h1 h2 h3 h4=>exact⟨h2,h3⟩
 |call h1 h2 h3 f as k z6c h4 h5 j hj h6 h10=>rw[h4]at hs;cases hs
end
def Wr(L:List Pl)(i:Nat):Prop:=∃pl,L[i]?=some pl/\sD pl.i.op=true
def NB(L:List Pl)(i:Nat):Prop:=∃pl,L[i]?=some pl/\blind pl.i.op=false/\far L pl.i.op=false
def Sgm(L:List Pl)(p j:Nat):Prop:=p<=j/\j<L.length/\∀m,p<=m->m<=j->¬Wr L m
structure Tex (L:List Pl) (ss:Nat->Sto) (ls:Nat->List Nat) (bs:Nat->List Blk):Prop where
 still:∀i pl,L[i]?=some pl->sD pl.i.op=false->(ss (i+1)).get=tp (vZ (ss i).get (ls i)) (ss i).nx (bs i)/\(ss (i+1)).nx=(ss i).nx+(bs i).length/\
  (jx (ss i)->jx (ss (i+1)))/\(∀l,l∈ls i->∃b,(ss i).get l=some b/\b.st.live=true)
 blnd:∀i pl,L[i]?=some pl->(blind pl.i.op=true\/far L pl.i.op=true)->ls i=[]/\bs i=[]
def HQ{L:List Pl}{i:Nat}(h:Wr L i):NB L i:=by
 obtain⟨pl,h1,h2⟩:=h;refine⟨pl,h1,?_⟩;cases ho:pl.i.op<;>rw[ho]at h2<;>first|exact⟨rfl,rfl⟩|(cases h2;done)
def Tex.nb_of{L:List Pl}{ss:Nat->Sto}{ls:Nat->List Nat}{bs:Nat->List Blk}(X:Tex L ss ls bs){j:Nat}(hj:ls j≠[]\/bs j≠[])(hlt:j<L.length):NB L j:=by
 have hg:=aE hlt;have no:¬(blind (L[j]).i.op=true\/far L (L[j]).i.op=true):=by
  intro h;obtain⟨e1,e2⟩:=X.blnd j _ hg h;rcases hj with hj|hj
  ·exact hj e1
  ·exact hj e2
 refine⟨_,hg,?_,?_⟩
 ·cases hq:blind (L[j]).i.op with
  |false=>rfl
  |true=>exact absurd (.inl hq) no
 ·cases hq:far L (L[j]).i.op with
  |false=>rfl
  |true=>exact absurd (.inr hq) no
open Classical in
noncomputable def Ap(L:List Pl)(ss:Nat->Sto)(bs:Nat->List Blk)(p l:Nat):Option (Nat×Blk):=
 if h:∃j,Sgm L p j/\(ss j).nx<=l/\l<(ss j).nx+(bs j).length then
  ((bs (Classical.choose h))[l-(ss (Classical.choose h)).nx]?).map (λb=>(Classical.choose h,b))else none
structure Mem (L:List Pl) (ss:Nat->Sto) (ls:Nat->List Nat) (bs:Nat->List Blk) (S:Nat->Prop) (p:Nat) (g:Nat->Option Blk):Prop where
 le:p<=L.length
 fr:jx (ss p)
 pre:∀j,j<p->NB L j->S j
 seg:∀j,S j->NB L j->p<=j->Sgm L p j
 eq:g=Gf (ss p).get (ss p).nx (Ap L ss bs p) ls (λj=>S j/\Sgm L p j)
 dom:∀j,S j->Sgm L p j->∀l,l∈ls j->g l≠none
section
variable {L:List Pl} {ss:Nat->Sto} {ls:Nat->List Nat} {bs:Nat->List Blk} (X:Tex L ss ls bs)
include X
theorem Tex.nx_step{i:Nat}(hi:i<L.length)(hw:¬Wr L i):(ss (i+1)).nx=(ss i).nx+(bs i).length:=by
 have h:=aE hi;have:sD (L[i]).i.op=false:=by
  cases hq:sD (L[i]).i.op with
  |false=>rfl
  |true=>exact absurd ⟨_,h,hq⟩ hw
 exact(X.still i _ h this).2.1
theorem Tex.nx_mono{p j:Nat}(hs:Sgm L p j):∀(d i:Nat),p<=i->i+d<=j+1->(ss i).nx<=(ss (i+d)).nx
 |0,i,_,_=>aC _
 |d+1,i,h1,h2=>by
  have:=Tex.nx_mono hs d i h1 eP;have h3:=X.nx_step (i:=i+d) (by have:=hs.2.1;omega) (hs.2.2 (i+d) eP eP);rw[show i+(d+1)=i+d+1 by omega];omega
theorem Tex.nx_lt{p i j:Nat}(hs:Sgm L p j)(h1:p<=i)(h2:i<j):(ss i).nx+(bs i).length<=(ss j).nx:=by
 have h3:=X.nx_step (i:=i) (by have:=hs.2.1;omega) (hs.2.2 i h1 eP);have h4:=X.nx_mono hs (j-(i+1)) (i+1) eP eP;rw[show i+1+(j-(i+1))=j by omega]at h4;omega
theorem Tex.nx_le{p j:Nat}(hs:Sgm L p j):(ss p).nx<=(ss j).nx:=by
 have h4:=X.nx_mono hs (j-p) p (aC _) (by have:=hs.1;omega);rwa[show p+(j-p)=j by have:=hs.1;omega]at h4
theorem Tex.uniq{p i j l:Nat}(hi:Sgm L p i)(hj:Sgm L p j)(h1:(ss i).nx<=l/\l<(ss i).nx+(bs i).length)(h2:(ss j).nx<=l/\l<(ss j).nx+(bs j).length):i=j:=by
 rcases cy i j with h|h|h
 ·have:=X.nx_lt hj hi.1 h;omega
 ·exact h
 ·have:=X.nx_lt hi hj.1 h;omega
theorem Tex.A1{p x:Nat}(hx:Sgm L p x)(i:Nat)(b:Blk)(hb:(bs x)[i]?=some b):Ap L ss bs p ((ss x).nx+i)=some (x,b):=by
 have hlt:i<(bs x).length:=(ak.1 hb).1;have h:∃j,Sgm L p j/\(ss j).nx<=(ss x).nx+i/\(ss x).nx+i<(ss j).nx+(bs j).length:=⟨x,hx,eP,eP⟩
 have hu:Classical.choose h=x:=X.uniq (Classical.choose_spec h).1 hx (Classical.choose_spec h).2 ⟨eP,eP⟩;unfold Ap;rw[dif_pos h,hu,show(ss x).nx+i-(ss x).nx=i by omega,hb];rfl
theorem Tex.A2{p x l:Nat}{b:Blk}(h:Ap L ss bs p l=some (x,b)):Sgm L p x/\(ss x).nx<=l/\l<(ss x).nx+(bs x).length:=by
 unfold Ap at h;split at h
 ·rename_i hh;have hs:=Classical.choose_spec hh;cases hq:(bs (Classical.choose hh))[l-(ss (Classical.choose hh)).nx]?with
  |none=>rw[hq]at h;cases h
  |some q=>
   rw[hq]at h;simp only[dT,aA,aI]at h;rw[<-h.1];exact⟨hs.1,hs.2⟩
 ·cases h
theorem Tex.text{p:Nat}(hf:jx (ss p)):∀(d:Nat),p+d<=L.length->(∀m,p<=m->m<p+d->¬Wr L m)->
 (ss (p+d)).get=Gf (ss p).get (ss p).nx (Ap L ss bs p) ls (λj=>p<=j/\j<p+d)/\jx (ss (p+d))/\
  ∀j,p<=j/\j<p+d->∀l,l∈ls j->Gf (ss p).get (ss p).nx (Ap L ss bs p) ls (λj=>p<=j/\j<p+d) l≠none
 |0,_,_=>⟨(HC (λj hj=>eP) (λl hl=>hf l hl)).symm,hf,λj hj=>eP⟩
 |d+1,h1,h2=>by
  obtain⟨i1,i2,i3⟩:=Tex.text hf d eP (λm a b=>h2 m a eP);have hlt:p+d<L.length:=eP;have hg:=aE hlt;have hw:sD (L[p+d]).i.op=false:=by
   cases hq:sD (L[p+d]).i.op with
   |false=>rfl
   |true=>exact absurd ⟨_,hg,hq⟩ (h2 (p+d) eP eP)
  obtain⟨s1,s2,s3,s4⟩:=X.still _ _ hg hw;have zc4:Sgm L p (p+d):=⟨eP,hlt,λm a b=>h2 m a eP⟩
  rw[i1]at s1 s4;have z6z:=QV (g0:=(ss p).get) (np:=(ss p).nx) (A:=Ap L ss bs p) (ls:=ls) (T:=λj=>p<=j/\j<p+d) (x:=p+d) (nx:=(ss (p+d)).nx) (bs:=bs (p+d))
   eP (X.nx_le zc4) (λi b hb=>X.A1 zc4 i b hb) (λl b hb=>(X.A2 hb).2) s4 i3
  have hT:(λj=>(p<=j/\j<p+d)\/j=p+d)=(λj=>p<=j/\j<p+(d+1)):=by
   funext j;exact propext ⟨λh=>eP,λh=>eP⟩
  rw[hT]at z6z;refine⟨by rw[show p+(d+1)=p+d+1 by omega];rw[s1];rw[z6z];simp only[dL],s3 i2,?_⟩;intro j hj l hl;by_cases hjd:j=p+d
  ·subst hjd;obtain⟨b,hb,_⟩:=s4 l hl;exact WN (T:=λj=>p<=j/\j<p+d) (λj hj=>⟨hj.1,eP⟩) (by rw[hb];simp)
  ·exact WN (T:=λj=>p<=j/\j<p+d) (λj hj=>⟨hj.1,eP⟩) (i3 j ⟨hj.1,eP⟩ l hl)
variable {S:Nat->Prop} {p:Nat} {g:Nat->Option Blk} (M:Mem L ss ls bs S p g)
include M
theorem Mem.seg_of{x:Nat}(hx:NB L x)(hxS:¬S x)(hw:¬Wr L x)(z7o:∀m,m<x->Wr L m->S m):Sgm L p x:=by
 have hpx:p<=x:=by
  rcases aY x p with h|h
  ·exact absurd (M.pre x h hx) hxS
  ·exact h
 obtain⟨pl,hp,_⟩:=hx;refine⟨hpx,(ak.1 hp).1,λm h1 h2 hm=>?_⟩;rcases aY m x with h|h
 ·have hS:=z7o m h hm;exact(M.seg m hS (HQ hm) h1).2.2 m h1 (aC _) hm
 ·have:m=x:=eP;subst this;exact hw hm
theorem Mem.quiet{x:Nat}{pl:Pl}(hx:L[x]?=some pl)(hxS:¬S x)(hw:¬Wr L x)(z7o:NB L x->∀m,m<x->Wr L m->S m)(hl:∀l,l∈ls x->∃b,g l=some b/\b.st.live=true):
 Mem L ss ls bs (λj=>S j\/j=x) p (tp (vZ g (ls x)) (ss x).nx (bs x)):=by
 have hle:=M.le;have hfr:=M.fr;by_cases hs:Sgm L p x
 ·have hT:∀j,(S j/\Sgm L p j)->∀l,l∈ls j->Gf (ss p).get (ss p).nx (Ap L ss bs p) ls (λj=>S j/\Sgm L p j) l≠none:=by
   intro j hj l hl;rw[<-M.eq];exact M.dom j hj.1 hj.2 l hl
  have z6z:=QV (g0:=(ss p).get) (np:=(ss p).nx) (A:=Ap L ss bs p) (ls:=ls) (T:=λj=>S j/\Sgm L p j) (x:=x) (nx:=(ss x).nx) (bs:=bs x)
   (λh=>hxS h.1) (X.nx_le hs) (λi b hb=>X.A1 hs i b hb) (λl b hb=>(X.A2 hb).2) (by rw[<-M.eq];exact hl) hT
  rw[<-M.eq]at z6z;have hTT:(λj=>(S j/\Sgm L p j)\/j=x)=(λj=>(S j\/j=x)/\Sgm L p j):=by
   funext j;refine propext ⟨λh=>?_,λh=>?_⟩
   ·rcases h with h|rfl
    ·exact⟨.inl h.1,h.2⟩
    ·exact⟨.inr rfl,hs⟩
   ·rcases h.1 with h1|h1
    ·exact .inl ⟨h1,h.2⟩
    ·exact .inr h1
  rw[hTT]at z6z;refine⟨hle,hfr,λj h1 h2=>.inl (M.pre j h1 h2),λj h1 h2 h3=>?_,z6z,λj h1 h2 l h3=>?_⟩
  ·rcases h1 with h1|rfl
   ·exact M.seg j h1 h2 h3
   ·exact hs
  ·rw[z6z];have z7S:∀j,(S j/\Sgm L p j)->((S j\/j=x)/\Sgm L p j):=λj h=>⟨.inl h.1,h.2⟩
   refine WN z7S ?_;rw[<-M.eq];rcases h1 with h1|rfl
   ·exact M.dom j h1 h2 l h3
   ·obtain⟨b,hb,_⟩:=hl l h3;rw[hb];simp
 ·have hbl:blind pl.i.op=true\/far L pl.i.op=true:=by
   cases hq:blind pl.i.op with
   |true=>exact .inl rfl
   |false=>
    cases hf:far L pl.i.op with
    |true=>exact .inr rfl
    |false=>exact absurd (Mem.seg_of X M ⟨pl,hx,hq,hf⟩ hxS hw (z7o ⟨pl,hx,hq,hf⟩)) hs
  obtain⟨e1,e2⟩:=X.blnd x pl hx hbl;have hg:tp (vZ g (ls x)) (ss x).nx (bs x)=g:=by rw[e1,e2];rfl
  rw[hg];have hTT:(λj=>S j/\Sgm L p j)=(λj=>(S j\/j=x)/\Sgm L p j):=by
   funext j;refine propext ⟨λh=>⟨.inl h.1,h.2⟩,λh=>?_⟩;rcases h.1 with h1|rfl
   ·exact⟨h1,h.2⟩
   ·exact absurd h.2 hs
  refine⟨hle,hfr,λj h1 h2=>.inl (M.pre j h1 h2),λj h1 h2 h3=>?_,by rw[<-hTT];exact M.eq,λj h1 h2 l h3=>?_⟩
  ·rcases h1 with h1|rfl
   ·exact M.seg j h1 h2 h3
   ·obtain⟨q,hq,hq2,hq3⟩:=h2;rw[hx]at hq;cases hq;rcases hbl with hbl|hbl
    ·rw[hbl]at hq2;cases hq2
    ·rw[hbl]at hq3;cases hq3
  ·rcases h1 with h1|rfl
   ·exact M.dom j h1 h2 l h3
   ·exact absurd h2 hs
theorem Mem.whole{x:Nat}(hx:x<=L.length)(hpx:p<=x)(h1:∀j,NB L j->j<x->S j)(h2:∀j,NB L j->x<=j->¬S j):g=(ss x).get/\jx (ss x):=by
 have hnw:∀m,p<=m->m<p+(x-p)->¬Wr L m:=λm a b hm=>
  (M.seg m (h1 m (HQ hm) eP) (HQ hm) a).2.2 m a (aC _) hm
 obtain⟨t1,t2,_⟩:=X.text M.fr (x-p) eP hnw;rw[show p+(x-p)=x by omega]at t1 t2;refine⟨?_,t2⟩;rw[M.eq,t1];have key:∀j,NB L j->((S j/\Sgm L p j)↔(p<=j/\j<x)):=λj hj=>by
  constructor
  ·intro h;refine⟨h.2.1,?_⟩;rcases aY j x with hlt|hge
   ·exact hlt
   ·exact absurd h.1 (h2 j hj hge)
  ·intro h;have hS:=h1 j hj h.2;exact⟨hS,M.seg j hS hj h.1⟩
 have nbl:∀j,(ls j≠[]\/bs j≠[])->j<L.length->NB L j:=λj hj hlt=>X.nb_of hj hlt;refine MG (λj l hl=>?_) (λj l b hb=>?_)
 ·by_cases hlt:j<L.length
  ·exact key j (nbl j (.inl (λe=>by rw[e]at hl;cases hl)) hlt)
  ·constructor
   ·intro h;exact absurd h.2.2.1 hlt
   ·intro h;omega
 ·obtain⟨a1,a2⟩:=X.A2 hb;refine key j (nbl j (.inr (λe=>?_)) a1.2.1);rw[e]at a2;simp only[dV]at a2;omega
omit M in
theorem Mem.next{x:Nat}(hx:x<L.length)(hf:jx (ss (x+1)))(h1:∀j,NB L j->j<x->S j)(h2:∀j,NB L j->x<j->¬S j):
 Mem L ss ls bs (λj=>S j\/j=x) (x+1) (ss (x+1)).get:=by
 have hno:∀j,¬((S j\/j=x)/\Sgm L (x+1) j)\/¬NB L j:=by
  intro j;by_cases hj:NB L j
  ·refine .inl ?_
   rintro ⟨h|rfl,hs⟩
   ·exact h2 j hj (by have:=hs.1;omega) h
   ·have:=hs.1;omega
  ·exact .inr hj
 have nbl:∀j,(ls j≠[]\/bs j≠[])->j<L.length->NB L j:=λj hj hlt=>X.nb_of hj hlt;refine⟨hx,hf,λj a b=>?_,λj a b c=>?_,?_,λj a b l c=>?_⟩
 ·rcases aY j x with h|h
  ·exact .inl (h1 j b h)
  ·exact .inr eP
 ·rcases a with a|rfl
  ·exact absurd a (h2 j b eP)
  ·omega
 ·refine((MG (T':=λ_=>False) (λj l hl=>?_) (λj l b hb=>?_)).trans (HC (λ_ h=>h) (λl hl=>hf l hl))).symm
  ·constructor
   ·intro h;rcases hno j with h'|h'
    ·exact h' h
    ·exact h' (nbl j (.inl (λe=>by rw[e]at hl;cases hl)) h.2.2.1)
   ·intro h;exact h.elim
  ·constructor
   ·intro h;obtain⟨a1,a2⟩:=X.A2 hb;rcases hno j with h'|h'
    ·exact h' h
    ·refine h' (nbl j (.inr (λe=>?_)) a1.2.1);rw[e]at a2;simp only[dV]at a2;omega
   ·intro h;exact h.elim
 ·exfalso;rcases hno j with h'|h'
  ·exact h' ⟨a,b⟩
  ·exact h' (nbl j (.inl (λe=>by rw[e]at c;cases c)) b.2.1)
theorem Mem.between{x:Nat}(hs:Sgm L p x):∃G,Sub (ss x).get G/\Sub g G:=by
 obtain⟨t1,_,_⟩:=X.text M.fr (x-p) (by have:=hs.2.1;have:=hs.1;omega) (λm a b=>hs.2.2 m a eP);rw[show p+(x-p)=x by have:=hs.1;omega]at t1;refine⟨Gf (ss p).get (ss p).nx (Ap L ss bs p) ls (λj=>(S j/\Sgm L p j)\/(p<=j/\j<x)),?_,?_⟩
 ·rw[t1];exact Nu (λj h=>.inr h)
 ·rw[M.eq];exact Nu (λj h=>.inl h)
theorem Mem.free{x:Nat}(hs:Sgm L p x)(hxS:¬S x):∀i,i<(bs x).length->g ((ss x).nx+i)=none:=by
 intro i hi;rw[M.eq];unfold Gf;have hA:=X.A1 hs i _ (aE hi);have:Gb (ss p).get (ss p).nx (Ap L ss bs p) (λj=>S j/\Sgm L p j) ((ss x).nx+i)=none:=by
  unfold Gb;rw[aG (by have:=X.nx_le hs;omega),hA];simp only;rw[aG (λh=>hxS h.1)]
 rw[this,Ed]
end
def D9{A:List Nat}{j:Nat}:∀{es:List Edge},(zo A es).testBit j=true->∃e,e∈es/\Region.binds .any e=true/\(j=e.on\/((A[e.on]?).getD 0).testBit j=true)
 |[],h=>by simp[zo]at h
 |e::r,h=>by
  simp only[zo]at h;split at h
  ·rename_i hb;simp only[Nat.testBit_or,dA,Nat.testBit_two_pow,decide_eq_true_eq]at h;rcases h with(h|h)|h
   ·exact⟨e,by simp,hb,.inl h.symm⟩
   ·exact⟨e,by simp,hb,.inr h⟩
   ·obtain⟨e',h1,h2⟩:=D9 h;exact⟨e',by simp[h1],h2⟩
  ·obtain⟨e',h1,h2⟩:=D9 h;exact⟨e',by simp[h1],h2⟩
def Gl:∀(l:List Oper)(A:List Nat)(i:Nat)(o:Oper),l[i]?=some o->(ET A l)[i]?=some (zo (A++(ET A l).take i) o.after.toList)
 |[],A,i,o,h=>by simp at h
 |o0::r,A,0,o,h=>by
  simp only[ax,aA]at h;subst h;simp[ET]
 |o0::r,A,i+1,o,h=>by
  simp only[bP]at h;have:=Gl r (A++[zo A o0.after.toList]) i o h;simp only[ET,bP,this,cb,aQ,List.singleton_append]
def Gk:∀(l:List Oper)(A:List Nat),(ET A l).length=l.length
 |[],_=>rfl
 |o::r,A=>by simp only[ET,ah,Gk r]
def z1P(ops:List Oper)(S:Nat->Prop):Prop:=∀x o,S x->ops[x]?=some o->∀e,e∈o.after->Region.binds .any e=true->S e.on
def I6{ops:List Oper}{S:Nat->Prop}(hS:z1P ops S):∀(i:Nat)(o:Oper)(b j:Nat),ops[i]?=some o->(vv ops)[i]?=some b->b.testBit j=true->(∀e,e∈o.after->Region.binds .any e=true->S e.on)->S j:=by
 intro i
 induction i using Nat.strongRecOn with
 |_ i ih=>
  intro o b j ho hb hj hp;have hg:=Gl ops [] i o ho;have hb':(ET [] ops)[i]?=some b:=hb;rw[hb']at hg;simp only[aA,cW]at hg;subst hg;obtain⟨e,h1,h2,h3⟩:=D9 hj;have hSe:=hp e (by simpa using h1) h2;rcases h3 with rfl|h3
  ·exact hSe
  ·cases hq:((ET [] ops).take i)[e.on]?with
   |none=>rw[hq]at h3;simp at h3
   |some b'=>
    rw[hq]at h3;simp only[Option.getD_some]at h3;have hlt:e.on<i:=by
     have:=(ak.1 hq).1;rw[aR]at this;omega
    have hq':(vv ops)[e.on]?=some b':=by
     have hq2:=hq;rw[zmv hlt]at hq2;exact hq2
    have hlen:e.on<ops.length:=by
     have:=(ak.1 hq').1;unfold vv at this;rw[Gk]at this;exact this
    exact ih e.on hlt _ b' j (aE hlen) hq' h3 (λe' h1 h2=>hS e.on _ hSe (aE hlen) e' h1 h2)
def DP{l:List Pl}{k b:Nat}:∀(r:List Pl)(j i:Nat)(q:Pl),lone l k b j r=true->r[i]?=some q->blind q.i.op=true\/j+i=k\/(if j+i<k then b.testBit (j+i)=true else q.bs.testBit k=true)
 |[],j,i,q,h,hi=>by simp at hi
 |q0::r,j,0,q,h,hi=>by
  simp only[ax,aA]at hi;subst hi;simp only[lone,aW,dA]at h;rcases h.1 with(h1|h1)|h1
  ·exact .inl h1
  ·exact .inr (.inl (aT h1))
  ·refine .inr (.inr ?_);simp only[bO];split at h1
   ·rename_i hlt;rw[aF hlt];exact h1
   ·rename_i hlt;rw[aG hlt];exact h1
 |q0::r,j,i+1,q,h,hi=>by
  simp only[bP]at hi;simp only[lone,aW]at h;have:=DP r (j+1) i q h.2 hi;rwa[show j+1+i=j+(i+1) by omega]at this
def Fr{l:List Pl}{k b:Nat}:∀(r:List Pl)(j i:Nat)(q:Pl),Hy l k b j r=true->r[i]?=some q->blind q.i.op=true\/far l q.i.op=true\/j+i=k\/(if j+i<k then b.testBit (j+i)=true else q.bs.testBit k=true)
 |[],j,i,q,h,hi=>by simp at hi
 |q0::r,j,0,q,h,hi=>by
  simp only[ax,aA]at hi;subst hi;simp only[Hy,aW,dA]at h;rcases h.1 with((h1|h1)|h1)|h1
  ·exact .inl h1
  ·exact .inr (.inl h1)
  ·exact .inr (.inr (.inl (aT h1)))
  ·refine .inr (.inr (.inr ?_));simp only[bO];split at h1
   ·rename_i hlt;rw[aF hlt];exact h1
   ·rename_i hlt;rw[aG hlt];exact h1
 |q0::r,j,i+1,q,h,hi=>by
  simp only[bP]at hi;simp only[Hy,aW]at h;have:=Fr r (j+1) i q h.2 hi;rwa[show j+1+i=j+(i+1) by omega]at this
def BN{l:List Pl}:∀(r:List Pl)(k i:Nat)(x:Pl),Kw l k r=true->r[i]?=some x->sD x.i.op=true->lone l (k+i) x.bs 0 l=true\/(Vv l (k+i) x.i.op=true/\Hy l (k+i) x.bs 0 l=true)
 |[],k,i,x,h,hi,_=>by simp at hi
 |q0::r,k,0,x,h,hi,hw=>by
  simp only[ax,aA]at hi;subst hi;simp only[Kw,aW,dA,eH]at h;rcases h.1 with(h1|h1)|h1
  ·rw[hw]at h1;cases h1
  ·exact .inl h1
  ·exact .inr h1
 |q0::r,k,i+1,x,h,hi,hw=>by
  simp only[bP]at hi;simp only[Kw,aW]at h;have:=BN r (k+1) i x h.2 hi hw;rwa[show k+1+i=k+(i+1) by omega]at this
def Gs{l:List Pl}{k b s a:Nat}:∀(r:List Pl)(j i:Nat)(q:Pl),r[i]?=some q->zY q.i.op=some a->far l q.i.op=true->¬(if j+i<k then b.testBit (j+i)=true else q.bs.testBit k=true)->
 (⟨none,none,.apart (.t a) (.t s)⟩:Ins)∈y7 l k b s j r
 |[],j,i,q,hi,_,_,_=>by simp at hi
 |q0::r,j,0,q,hi,ha,hf,hn=>by
  simp only[ax,aA]at hi;subst hi;simp only[y7,bM,ha,hf];refine .inl ?_;simp only[bO]at hn;by_cases hlt:j<k
  ·rw[aF hlt]at hn;have:b.testBit j=false:=by simpa using hn
   simp[hlt,this]
  ·rw[aG hlt]at hn;have:q0.bs.testBit k=false:=by simpa using hn
   simp[hlt,this]
 |q0::r,j,i+1,q,hi,ha,hf,hn=>by
  simp only[bP]at hi;simp only[y7,bM];refine .inr (Gs r (j+1) i q hi ha hf ?_);rwa[show j+1+i=j+(i+1) by omega]
def Gr{l:List Pl}{s:Nat}{y:Ins}:∀(r:List Pl)(k i:Nat)(x:Pl),r[i]?=some x->HN x.i.op=some s->y∈y7 l (k+i) x.bs s 0 l->y∈v8 l k r
 |[],k,i,x,hi,_,_=>by simp at hi
 |q0::r,k,0,x,hi,hs,hy=>by
  simp only[ax,aA]at hi;subst hi;simp only[v8,bM,hs];exact .inl hy
 |q0::r,k,i+1,x,hi,hs,hy=>by
  simp only[bP]at hi;simp only[v8,bM];refine .inr (Gr r (k+1) i x hi hs ?_);rwa[show k+1+i=k+(i+1) by omega]
def z1N(y:Ins):Prop:=∃a s,y=⟨none,none,.apart (.t a) (.t s)⟩
def EJ{l:List Pl}{k b s:Nat}:∀(r:List Pl)(j:Nat)(y:Ins),y∈y7 l k b s j r->z1N y
 |[],j,y,h=>by simp[y7]at h
 |q::r,j,y,h=>by
  simp only[y7,bM]at h;rcases h with h|h
  ·cases hq:zY q.i.op with
   |none=>rw[hq]at h;cases h
   |some a=>
    simp only[hq]at h;generalize (far l q.i.op&& !(if j<k then b.testBit j else q.bs.testBit k))=c at h;cases c with
    |true=>simp only[bf,cY]at h;exact⟨_,_,h⟩
    |false=>simp at h
  ·exact EJ r (j+1) y h
def EH{l:List Pl}:∀(r:List Pl)(k:Nat)(y:Ins),y∈v8 l k r->z1N y
 |[],k,y,h=>by simp[v8]at h
 |q::r,k,y,h=>by
  simp only[v8,bM]at h;rcases h with h|h
  ·split at h
   ·exact EJ l 0 y h
   ·cases h
  ·exact EH r (k+1) y h
def FK{Δ:Tr Ent}:∀(l:List Ins)(k:Nat)(e:Env)(σ:Sto)(x:Ex)(e':Env)(σ':Sto),(∀y,y∈l->z1N y)->run Δ k (.ops l e σ)=some (.code x e' σ')->
 x=.nrm/\e'=e/\σ'=σ/\∀a s,(⟨none,none,.apart a s⟩:Ins)∈l->∃r,evA σ.nx (X.ev e) σ.get (.apart a s)=some r
 |[],0,e,σ,x,e',σ',_,h=>by simp[run]at h
 |[],k+1,e,σ,x,e',σ',_,h=>by
  simp only[run,aA,Out.code.injEq]at h;obtain⟨rfl,rfl,rfl⟩:=h;exact⟨rfl,rfl,rfl,λa s h=>by cases h⟩
 |i::l,0,e,σ,x,e',σ',_,h=>by simp[run]at h
 |i::l,k+1,e,σ,x,e',σ',hl,h=>by
  obtain⟨a,s,rfl⟩:=hl i fU;rw[wd rfl (λp f as h=>by cases h)]at h;split at h
  ·rename_i d bs hA;obtain⟨h1,_⟩:=D4 rfl hA;subst h1;have h:run Δ k (.ops l e σ)=some (.code x e' σ'):=h;obtain⟨q1,q2,q3,q4⟩:=FK l k e σ x e' σ' (λy hy=>hl y (by simp[hy])) h;refine⟨q1,q2,q3,λa' s' hm=>?_⟩;simp only[bh,Ins.mk.injEq,true_and,O.apart.injEq]at hm;rcases hm with⟨rfl,rfl⟩|hm
   ·exact⟨_,hA⟩
   ·exact q4 a' s' hm
  ·split at h
   ·rename_i hW;simp[evW]at hW
   ·cases h
def yH:∀(r:List Pl)(k i j:Nat)(x y:Pl),CH k r=true->i<j->r[i]?=some x->r[j]?=some y->Mr x.i (k+i) y=true/\VK x.i y.i=true
 |[],k,i,j,x,y,h,_,hi,_=>by simp at hi
 |q0::r,k,0,j,x,y,h,hij,hi,hj=>by
  simp only[ax,aA]at hi;subst hi;cases j with
  |zero=>omega
  |succ j=>
   simp only[bP]at hj;simp only[CH,aW,cp]at h;exact h.1 y (bS hj)
 |q0::r,k,i+1,j,x,y,h,hij,hi,hj=>by
  cases j with
  |zero=>omega
  |succ j=>
   simp only[bP]at hi hj;simp only[CH,aW]at h;have:=yH r (k+1) i j x y h.2 eP hi hj;rwa[show k+1+i=k+(i+1) by omega]at this
def EE:∀(r:List Oper)(k i:Nat)(o:Oper),Gn k r=true->r[i]?=some o->∀e,e∈o.after->Region.binds .any e=true->e.on<k+i
 |[],k,i,o,h,hi,_,_,_=>by simp at hi
 |q0::r,k,0,o,h,hi,e,he,hb=>by
  simp only[ax,aA]at hi;subst hi;simp only[Gn,aW,cp,dA,eH,decide_eq_true_eq]at h;rcases h.1 e (by simpa using he)with h1|h1
  ·rw[hb]at h1;cases h1
  ·exact h1
 |q0::r,k,i+1,o,h,hi,e,he,hb=>by
  simp only[bP]at hi;simp only[Gn,aW]at h;have:=EE r (k+1) i o h.2 hi e he hb;omega
def Hx{l:List Pl}:∀(r:List Pl)(k i:Nat),(Dq l k r)[i]?=(r[i]?).map (z0F l (k+i))
 |[],k,i=>by simp[Dq]
 |q0::r,k,0=>by simp[Dq]
 |q0::r,k,i+1=>by
  simp only[Dq,bP];rw[Hx r (k+1) i,show k+1+i=k+(i+1) by omega]
section
variable {P:Program} {im:Nat->Option Nat}
def Mn{nt:Nat}{ops:List Oper}{i:Nat}{o:Oper}(h:ops[i]?=some o):∃pl,(places P im nt ops)[i]?=some pl/\(vv ops)[i]?=some pl.bs/\pl.i.dst=(uR P im nt ops o).dst/\pl.i.gd=(uR P im nt ops o).gd/\
 (pl.i.op=(uR P im nt ops o).op\/∃p q f as,pl.i.op=.call p f as/\(uR P im nt ops o).op=.call q f as):=by
 have hb:=Gl ops [] i o h;unfold places;simp only;rw[Hx];have hz:(List.zipWith (λo b=>Pl.mk (uR P im nt ops o) b) ops (vv ops))[i]?=some ⟨uR P im nt ops o,zo ([]++(ET [] ops).take i) o.after.toList⟩:=by
  rw[List.getElem?_zipWith,h];have:(vv ops)[i]?=some (zo ([]++(ET [] ops).take i) o.after.toList):=hb;rw[this]
 rw[hz];refine⟨_,rfl,?_⟩;simp only[z0F];split
 ·rename_i p f as hop;exact⟨hb,rfl,rfl,.inr ⟨_,p,f,as,rfl,hop⟩⟩
 ·exact⟨hb,rfl,rfl,.inl rfl⟩
def Hw{l:List Pl}:∀(r:List Pl)(k:Nat),(Dq l k r).length=r.length
 |[],k=>rfl
 |q0::r,k=>by simp only[Dq,ah,Hw r]
def Mm{nt:Nat}{ops:List Oper}:(places P im nt ops).length=ops.length:=by
 unfold places;simp only;rw[Hw,List.length_zipWith];unfold vv;rw[Gk];simp
end
def yf(L:List Pl)(dv:Nat->D)(e0:Env)(S:Nat->Prop)(e:Env):Prop:=
 ∀t,(∀j pl,S j->L[j]?=some pl->pl.i.dst=some t->X.ev e (.t t)=dv j)/\((∀j pl,S j->L[j]?=some pl->pl.i.dst≠some t)->X.ev e (.t t)=X.ev e0 (.t t))
def Mj(e:Env)(dst:Option Nat)(d:D)(t:Nat):X.ev (put e dst d) (.t t)=if dst=some t then d else X.ev e (.t t):=by
 cases dst with
 |none=>rfl
 |some u=>
  simp only[Ev.put,X.ev,Tr.get_set];by_cases h:t=u
  ·subst h;simp
  ·rw[aG h,aG (λe=>h (by cases e;rfl))]
section
variable {L:List Pl} {dv:Nat->D} {e0:Env}
def z1Q(L:List Pl):Prop:=∀(i j:Nat)(x y:Pl),i<j->L[i]?=some x->L[j]?=some y->∀t,x.i.dst=some t->y.i.dst≠some t
def ZM(L:List Pl):Prop:=∀(i j:Nat)(x y:Pl),i<j->L[i]?=some x->L[j]?=some y->y.bs.testBit i=true\/((∀t,x.i.dst=some t->t∉y.i.reads)/\(∀t,y.i.dst=some t->t∉x.i.reads))
def yf.put(hD:z1Q L){S:Nat->Prop}{e:Env}(h:yf L dv e0 S e){x:Nat}{pl:Pl}(hx:L[x]?=some pl)(hxS:¬S x):yf L dv e0 (λj=>S j\/j=x) (Ev.put e pl.i.dst (dv x)):=by
 intro t;refine⟨λj q hj hq hd=>?_,λhno=>?_⟩
 ·rw[Mj];rcases hj with hj|rfl
  ·have hne:pl.i.dst≠some t:=by
    rcases cy j x with h1|h1|h1
    ·exact hD j x q pl h1 hq hx t hd
    ·subst h1;exact absurd hj hxS
    ·intro hp;exact hD x j pl q h1 hx hq t hp hd
   rw[aG hne];exact(h t).1 j q hj hq hd
  ·rw[hx]at hq;simp only[aA]at hq;subst hq;rw[aF hd]
 ·rw[Mj,aG (hno x pl (.inr rfl) hx)];exact(h t).2 (λj q hj hq=>hno j q (.inl hj) hq)
def yf.text(hD:z1Q L){es:Nat->Env}(h:∀i pl,L[i]?=some pl->es (i+1)=Ev.put (es i) pl.i.dst (dv i)):∀i,i<=L.length->yf L dv (es 0) (λj=>j<i) (es i)
 |0,_=>λt=>⟨λj pl hj=>eP,λ_=>rfl⟩
 |i+1,hi=>by
  have hg:=aE (show i<L.length by omega);have:=yf.put hD (yf.text hD h i eP) hg (bE i);rw[<-h i _ hg]at this;have e1:(λj=>j<i\/j=i)=(λj=>j<i+1):=by
   funext j;exact propext ⟨λh=>eP,λh=>eP⟩
  rw[e1]at this;exact this
def yf.agree(hP:ZM L){S:Nat->Prop}{e ex:Env}{x:Nat}{pl:Pl}(h:yf L dv e0 S e)(ht:yf L dv e0 (λj=>j<x) ex)(hx:L[x]?=some pl)(hxS:¬S x)(hb:∀j,pl.bs.testBit j=true->S j)
 (ha:∀j q,S j->L[j]?=some q->q.bs.testBit x=true->False):vj e ex pl.i.reads:=by
 intro t htr;by_cases hh:∃j q,S j/\L[j]?=some q/\q.i.dst=some t
 ·obtain⟨j,q,hj,hq,hd⟩:=hh;rw[(h t).1 j q hj hq hd];rcases cy j x with h1|h1|h1
  ·exact((ht t).1 j q h1 hq hd).symm
  ·subst h1;exact absurd hj hxS
  ·rcases hP x j pl q h1 hx hq with h2|h2
   ·exact(ha j q hj hq h2).elim
   ·exact absurd htr (h2.2 t hd)
 ·rw[(h t).2 (λj q hj hq hd=>hh ⟨j,q,hj,hq,hd⟩),(ht t).2];intro j q hj hq hd;rcases hP j x q pl hj hq hx with h2|h2
  ·exact hh ⟨j,q,hb j h2,hq,hd⟩
  ·exact h2.1 t hd htr
end
section
variable {P:Program} {im:Nat->Option Nat} {Δ:Tr Ent}
structure InvM (im:Nat->Option Nat) (ops:Array Oper) (L:List Pl) (es:Nat->Env) (ss:Nat->Sto) (dv:Nat->D) (ls:Nat->List Nat) (bs:Nat->List Blk)
 (nt:Nat) (okp:Nat->Nat->Prop) (base:Nat) (g0:Nat->Option Blk) (μ0:Nat->Nat×Nat) (w0:World) (ok0:Nat->Nat->Prop) (S:Nat->Prop) (a:Act) (w:World):Prop where
 down:z1P ops.toList S
 lt:∀j,S j->j<L.length
 df:a.defers=[]
 sz:nt%yp<=a.tmps.size
 ex:∃e p g μ ok,yf L dv (es 0) S e/\Mem L ss ls bs S p g/\Rel im g μ w ok okp base/\ry im g μ w ok e a.tmps/\Stp g0 μ0 w0 ok0 g μ w ok base
structure Chk (P:Program) (im:Nat->Option Nat) (nt:Nat) (ops:Array Oper) (L:List Pl):Prop where
 get:∀(i:Nat)(o:Oper),ops.toList[i]?=some o->∃pl:Pl,L[i]?=some pl/\(vv ops.toList)[i]?=some pl.bs/\pl.i.dst=(uR P im nt ops.toList o).dst/\pl.i.gd=(uR P im nt ops.toList o).gd/\
  (pl.i.op=(uR P im nt ops.toList o).op\/∃(p q:Bool)(f:X)(as:List X),pl.i.op=O.call p f as/\(uR P im nt ops.toList o).op=O.call q f as)
 len:L.length=ops.size
 back:∀(i:Nat)(o:Oper),ops.toList[i]?=some o->∀e:Edge,e∈o.after->Region.binds .any e=true->e.on<i
 lone:∀(k:Nat)(pl:Pl),L[k]?=some pl->sD pl.i.op=true->∀(j:Nat)(q:Pl),L[j]?=some q->blind q.i.op=true\/far L q.i.op=true\/j=k\/(if j<k then pl.bs.testBit j=true else q.bs.testBit k=true)
 napp:∀(k:Nat)(pl:Pl),L[k]?=some pl->sD pl.i.op=true->∀(j:Nat)(q:Pl),L[j]?=some q->∀a,zY q.i.op=some a->far L q.i.op=true->(if j<k then pl.bs.testBit j=true else q.bs.testBit k=true)\/
  ∃s,HN pl.i.op=some s/\Kj s (L.drop k)=true/\(⟨none,none,.apart (.t a) (.t s)⟩:Ins)∈v8 L 0 L
 dist:z1Q L
 pairs:ZM L
 adr:∀(i:Nat)(pl:Pl),L[i]?=some pl->Vz pl.i.op=true
def z1v{nt:Nat}{ops:Array Oper}(h:D6 ops.toList (places P im nt ops.toList)=true):Chk P im nt ops (places P im nt ops.toList):=by
 simp only[D6,aW]at h;obtain⟨⟨⟨h1,h2⟩,h3⟩,h4⟩:=h;refine⟨λi o ho=>Mn ho,by rw[Mm];simp,λi o ho e he hb=>?_,λk pl hk hw j q hj=>?_,λk pl hk hw j q hj a hqa zfe=>?_,λi j x y hij hi hj t ht hd=>?_,λi j x y hij hi hj=>?_,λi pl hi=>?_⟩
 ·have:=EE _ 0 i o h1 ho e he hb;omega
 ·rcases BN _ 0 k pl h2 hk hw with h5|⟨h5,h6⟩
  ·have:=DP _ 0 j q h5 hj;simp only[aN]at this;rcases this with h|h|h
   ·exact .inl h
   ·exact .inr (.inr (.inl h))
   ·exact .inr (.inr (.inr h))
  ·have:=Fr _ 0 j q h6 hj;simpa only[aN]using this
 ·have hne:j≠k:=by
   intro e;subst e;rw[hk]at hj;simp only[aA]at hj;subst hj;rcases u6 hqa with h|⟨n,h⟩<;>rw[h]at hw<;>cases hw
  rcases BN _ 0 k pl h2 hk hw with h5|⟨h5,h6⟩
  ·have:=DP _ 0 j q h5 hj;simp only[aN]at this;rcases this with h|h|h
   ·rcases u6 hqa with h'|⟨n,h'⟩<;>rw[h']at h<;>cases h
   ·exact absurd h hne
   ·exact .inl h
  ·by_cases ho:(if j<k then pl.bs.testBit j=true else q.bs.testBit k=true)
   ·exact .inl ho
   ·refine .inr ?_;rw[aN]at h5;unfold Vv at h5;cases hs:HN pl.i.op with
    |none=>rw[hs]at h5;cases h5
    |some s=>
     rw[hs]at h5;refine⟨s,rfl,h5,Gr _ 0 k pl hk hs ?_⟩;rw[aN];refine Gs _ 0 j q hj hqa zfe ?_;rw[aN];exact ho
 ·have:=(yH _ 0 i j x y h3 hij hi hj).2;rw[VK,ht,hd]at this;simp at this
 ·have:=(yH _ 0 i j x y h3 hij hi hj).1;simp only[Mr,aN,dA,aW]at this;rcases this with h5|⟨h5,h6⟩
  ·exact .inl h5
  ·refine .inr ⟨λt ht hm=>?_,λt ht hm=>?_⟩
   ·rw[ht]at h5;simp[hm]at h5
   ·rw[ht]at h6;simp[hm]at h6
 ·exact cp.1 h4 pl (bS hi)
def cl(g:Nat->Option Blk)(l:Nat):Option (List D×Bool):=(g l).map λb=>(b.cs,b.st.live)
def z3n{g g':Nat->Option Blk}{l:Nat}(h:cl g l=cl g' l)(off:Nat):at_ g (.ptr l off)=at_ g' (.ptr l off):=by
 unfold cl at h;simp only[at_];cases h1:g l<;>cases h2:g' l<;>rw[h1,h2]at h<;>simp only[dT,du,aA,aI]at h<;>first|rfl|(cases h;done)|skip
 simp only[h.1,h.2]
def V9{g:Nat->Option Blk}{nx l:Nat}(bs:List Blk)(hl:l<nx):cl (tp g nx bs) l=cl g l:=by
 unfold cl;rw[B7,aG eP]
def z1u{g:Nat->Option Blk}{l:Nat}(ls:List Nat)(h:∀l,l∈ls->∃b,g l=some b/\b.st.live=true):cl (vZ g ls) l=cl g l:=by
 unfold cl;rw[yV];split
 ·rename_i hl;obtain⟨b,h1,h2⟩:=h l hl;rw[h1];show some (b.cs,b.st.fz.live)=some (b.cs,b.st.live);rw[Ee]
 ·rfl
def Nh{σ:Sto}{l l':Nat}{b:Blk}(h:l'≠l):cl (σ.put l' b).get l=cl σ.get l:=by
 unfold cl;rw[Sto.get_put,aG (Ne.symm h)]
def Jl{σ:Sto}{l:Nat}(bs:List Blk)(hl:l<σ.nx):cl (σ.adds bs).get l=cl σ.get l:=by
 rw[(pT bs σ).1];exact V9 bs hl
def Ye(l:Nat)(d:D):Prop:=(∀l' o n c z e,d=.sl l' o n c z e->l'≠l)/\∀l' o,d=.ptr l' o->l'≠l
def z3m{ev:X->D}{σ σ':Sto}{l s:Nat}{o:O}{d:D}(h:evW ev σ o=some (d,σ'))(hs:HN o=some s)(hne:Ye l (ev (.t s)))(hl:l<σ.nx):cl σ'.get l=cl σ.get l:=by
 cases o<;>simp only[HN]at hs<;>first|(cases hs;done)|skip
 all_goals
  rw[Ay hs]at h;simp only[evW,uU]at h
  (repeat' split at h)<;>first|(cases h;done)|skip
 all_goals
  simp only[aA,aI]at h;obtain⟨_,rfl⟩:=h
 all_goals first
  |rfl
  |exact Jl _ hl
  |exact Nh (hne.1 _ _ _ _ _ _ (by assumption))
  |exact Nh (hne.2 _ _ (by assumption))
  |(rw[Jl _ (by exact hl)]
    exact Nh (hne.1 _ _ _ _ _ _ (by assumption)))
def z3H{g0:Nat->Option Blk}{np l:Nat}{A:Nat->Option (Nat×Blk)}{ls:Nat->List Nat}{T:Nat->Prop}(hl:l<np):cl (Gf g0 np A ls T) l=cl g0 l:=by
 unfold cl Gf Gb fz;rw[aF hl];split
 ·cases h:g0 l with
  |none=>rfl
  |some b=>
   simp only[dT];cases hst:b.st<;>rfl
 ·rfl
def F9{s:Nat}{l:List Pl}(h:Kj s l=true){q:Pl}(hq:q∈l):q.i.dst≠some s:=by
 intro hd;have:=cp.1 h q hq;rw[hd]at this;simp at this
def Eff.nx{K:Nat}{i:Ins}{e:Env}{σ σ':Sto}{d:D}{ls:List Nat}{bs:List Blk}(h:Eff P im Δ K i e σ σ' d ls bs):σ.nx<=σ'.nx:=by
 cases h with
 |skip h1 h2 h3 h4 h5=>subst h5;exact aC _
 |quiet h1 h0 h2 h3 h4=>subst h4;rw[(pT _ _).2];omega
 |pure h1 f as k z6c as' l0 r h2 h3 h4 h5 h6 h7 h8 h9 h10=>subst h9;rw[N3];omega
 |write h1 h2 h3 h4=>exact Ut h4
 |call h1 h2 h3 f as k z6c h4 h5 j hj h6 h10=>have:=z08 _ _ _ h6;exact this
def Eff.cl{K:Nat}{i:Ins}{e:Env}{σ σ':Sto}{d:D}{ls:List Nat}{bs:List Blk}(h:Eff P im Δ K i e σ σ' d ls bs){l:Nat}(hl:l<σ.nx)
 (ha:sD i.op=true->∃s,HN i.op=some s/\Ye l (X.ev e (.t s))):cl σ'.get l=cl σ.get l:=by
 cases h with
 |skip h1 h2 h3 h4 h5=>subst h5;rfl
 |quiet h1 h0 h2 h3 h4=>subst h4;exact Jl _ hl
 |pure h1 f as k z6c as' l0 r h2 h3 h4 h5 h6 h7 h8 h9 h10=>
  subst h9;rw[Cc,V9 _ hl,z1u];intro l hl;unfold EP at hl;split at hl
  ·cases hl
  ·exact tM h4 l hl
 |write h1 h2 h3 h4=>
  obtain⟨s,ho,hne⟩:=ha (BU h4);exact z3m h4 ho hne hl
 |call h1 h2 h3 f as k z6c h4 h5 j hj h6 h10=>
  obtain⟨s,ho,hne⟩:=ha (by rw[h4];rfl);rw[h4]at ho;cases ho
section
variable {nt:Nat} {ops:Array Oper} {L:List Pl} {es:Nat->Env} {ss:Nat->Sto} {dv:Nat->D} {ls:Nat->List Nat} {bs:Nat->List Blk} {okp:Nat->Nat->Prop} {base:Nat} {g0:Nat->Option Blk} {μ0:Nat->Nat×Nat} {w0:World} {ok0:Nat->Nat->Prop}
 {K:Nat} (hΔ:DOk P im Δ) (hV:∀j,j<K->Ns P im Δ j) (C:Chk P im nt ops L)
 (hE:∀(i:Nat)(pl:Pl),L[i]?=some pl->es (i+1)=put (es i) pl.i.dst (dv i)/\Eff P im Δ K pl.i (es i) (ss i) (ss (i+1)) (dv i) (ls i) (bs i))
include hΔ hV C hE
theorem S4:Tex L ss ls bs:=by
 refine⟨λi pl hi hw=>?_,λi pl hi hb=>?_⟩
 ·exact(hE i pl hi).2.still hw
 ·rcases hb with hb|hb
  ·exact(hE i pl hi).2.blind hb
  ·exact(hE i pl hi).2.far hb
omit hΔ hV C in
theorem nx_mono:∀(d i:Nat),i+d<=L.length->(ss i).nx<=(ss (i+d)).nx
 |0,i,_=>aC _
 |d+1,i,h=>by
  have h1:=nx_mono d i eP;have h2:=(hE (i+d) _ (aE (show i+d<L.length by omega))).2.nx;exact aX h1 h2
omit hΔ hV C in
theorem DA{t:Nat}:∀(d i:Nat),i+d<=L.length->(∀m pl,i<=m->m<i+d->L[m]?=some pl->pl.i.dst≠some t)->X.ev (es (i+d)) (.t t)=X.ev (es i) (.t t)
 |0,i,_,_=>rfl
 |d+1,i,h,hd=>by
  have h1:=DA d i eP (λm pl a b c=>hd m pl a eP c);have hg:=aE (show i+d<L.length by omega);have h2:=(hE (i+d) _ hg).1;show X.ev (es (i+d+1)) (.t t)=_;rw[h2,Mj,aG (hd (i+d) _ eP eP hg)];exact h1
omit hΔ hV C in
theorem G9{l:Nat}(hl:l<(ss 0).nx):∀(d i:Nat),i+d<=L.length->(∀m pl,i<=m->m<i+d->L[m]?=some pl->sD pl.i.op=true->∃s,HN pl.i.op=some s/\Ye l (X.ev (es m) (.t s)))->
 cl (ss (i+d)).get l=cl (ss i).get l
 |0,i,_,_=>rfl
 |d+1,i,h,hd=>by
  have h1:=G9 hl d i eP (λm pl a b c=>hd m pl a eP c);have hg:=aE (show i+d<L.length by omega);have h3:=nx_mono hE (i+d) 0 eP;rw[aN]at h3;have h2:=(hE (i+d) _ hg).2.cl (l:=l) eP (λhw=>hd (i+d) _ eP eP hg hw);exact h2.trans h1
theorem Vx{S:Nat->Prop}{a:Act}{w:World}{x:Nat}{o:Oper}{Q:Exit->Act->World->Prop}{Kk:Act->World->Prop}(I:InvM im ops L es ss dv ls bs nt okp base g0 μ0 w0 ok0 S a w)(hxS:¬S x)(ho:ops[x]?=some o)
 (zcd:∀e,e∈o.after->Region.binds .any e=true->S e.on)
 (zbb:∀t,Cl (ss 0).get (X.ev (es 0) (.t t))) (hf0:jx (ss 0)) (hap:∀a s,(⟨none,none,.apart a s⟩:Ins)∈v8 L 0 L->∃r,evA (ss L.length).nx (X.ev (es L.length)) (ss L.length).get (.apart a s)=some r)
 (hK:∀a' w',InvM im ops L es ss dv ls bs nt okp base g0 μ0 w0 ok0 (λj=>S j\/j=x) a' w'->Kk a' w'):wpOp P ops Q x Kk a w:=by
 have TX:=S4 hΔ hV C hE;have ho':ops.toList[x]?=some o:=by simpa using ho
 obtain⟨pl,hpl,hbs,zfj,hgd,hop⟩:=C.get x o ho';obtain⟨I1,I2,I3,I4,e,p,g,μ,ok,hEn,M,R,hEr,hS⟩:=I;have z9Q:x<L.length:=(ak.1 hpl).1;have hb:∀j,pl.bs.testBit j=true->S j:=λj hj=>I6 I1 x o pl.bs j ho' hbs hj zcd;have ha:∀j q,S j->L[j]?=some q->q.bs.testBit x=true->False:=by
  intro j q hj hq za6;have hjl:j<ops.toList.length:=by
   have h1:=I2 j hj;have h2:=C.len;simp only[d8];omega
  have hoj:=aE hjl;obtain⟨q',hq',hbq,_⟩:=C.get j _ hoj;rw[hq]at hq';simp only[aA]at hq';subst hq';exact hxS (I6 I1 j _ q.bs x hoj hbq za6 (λe he hbn=>I1 j _ hj hoj e he hbn))
 have z8m:z1P ops.toList (λj=>S j\/j=x):=by
  intro y oy hy hoy e he hbn;rcases hy with hy|rfl
  ·exact .inl (I1 y oy hy hoy e he hbn)
  ·rw[ho']at hoy;simp only[aA]at hoy;subst hoy;exact .inl (zcd e he hbn)
 have z8A:∀j,(S j\/j=x)->j<L.length:=λj hj=>by
  rcases hj with hj|rfl
  ·exact I2 j hj
  ·exact z9Q
 obtain⟨hes,za2⟩:=hE x pl hpl;have hag:vj e (es x) pl.i.reads:=yf.agree C.pairs hEn (yf.text C.dist (λi pl hi=>(hE i pl hi).1) x eP) hpl hxS hb ha;have z7a:vj e (es x) pl.i.op.reads:=λt ht=>hag t (zml _ ht);have z8U:gdv e pl.i.gd=gdv (es x) pl.i.gd:=RW (λt ht=>hag t (eN _ ht));have z7U:yf L dv (es 0) (λj=>S j\/j=x) (put e pl.i.dst (dv x)):=hEn.put C.dist hpl hxS;have zaY:Wr L x->(∀j,NB L j->j<x->S j)/\(∀j,NB L j->x<=j->¬S j):=by
  intro hw;obtain⟨pl',hp',hw'⟩:=hw;rw[hpl]at hp';simp only[aA]at hp';subst hp';constructor
  ·intro j ⟨q,hq,hqb,hqf⟩ hj;rcases C.lone x pl hpl hw' j q hq with h|h|h|h
   ·rw[hqb]at h;cases h
   ·rw[hqf]at h;cases h
   ·omega
   ·rw[aF hj]at h;exact hb j h
  ·intro j ⟨q,hq,hqb,hqf⟩ hj hSj;rcases C.lone x pl hpl hw' j q hq with h|h|h|h
   ·rw[hqb]at h;cases h
   ·rw[hqf]at h;cases h
   ·subst h;exact hxS hSj
   ·rw[aG eP]at h;exact ha j q hSj hq h
 have z7o:NB L x->∀m,m<x->Wr L m->S m:=by
  intro⟨q,hq,hqb,hqf⟩ m hm ⟨pm,hpm,hwm⟩;rw[hpl]at hq;simp only[aA]at hq;subst hq;rcases C.lone m pm hpm hwm x pl hpl with h|h|h|h
  ·rw[hqb]at h;cases h
  ·rw[hqf]at h;cases h
  ·omega
  ·rw[aG eP]at h;exact hb m h
 have hpx:Wr L x->p<=x:=λhw=>by
  rcases aY x p with h|h
  ·exact absurd (M.pre x h (HQ hw)) hxS
  ·exact h
 have hcg:∀gd,cGd ops.toList o.guard=some gd->pl.i.gd=gd/\(uR P im nt ops.toList o).op=Nb (nt%yp) o.dst (kpO nt (cOp P im o.op))/\pl.i.dst=o.dst:=by
  intro gd h;have:uR P im nt ops.toList o=⟨o.dst,gd,Nb (nt%yp) o.dst (kpO nt (cOp P im o.op))⟩:=by unfold uR;rw[h]
  rw[hgd,zfj,this];exact⟨rfl,rfl,rfl⟩
 have zfv:cGd ops.toList o.guard=none->pl.i.op=.bad/\pl.i.gd=none:=by
  intro h;have:uR P im nt ops.toList o=⟨o.dst,none,.bad⟩:=by unfold uR;rw[h]
  rw[this]at hop hgd;refine⟨?_,hgd⟩;rcases hop with h|⟨p,q,f,as,_,h⟩
  ·exact h
  ·cases h
 unfold wpOp;simp only[ho];cases z8E:cGd ops.toList o.guard with
 |none=>
  exfalso;obtain⟨b1,b2⟩:=zfv z8E;cases za2 with
  |skip h1 h2 h3 h4 h5=>rw[b2]at h1;cases h1
  |quiet h1 h0 h2 h3 h4=>rw[b1]at h2;cases h2
  |pure h1 f as k z6c as' l0 r h2 h3 h4 h5 h6 h7 h8 h9 h10=>rw[b1]at h2;cases h2
  |write h1 h2 h3 h4=>rw[b1]at h4;cases h4
  |call h1 h2 h3 f as k z6c h4 h5 j hj h6 h10=>rw[b1]at h4;cases h4
 |some gd=>
  obtain⟨c1,c2,c3⟩:=hcg gd z8E;rw[c1]at z8U;have hbound:∀q,(uR P im nt ops.toList o).op=q->q≠.bad->kpO nt (cOp P im o.op)=q/\∀t,o.dst=some t->t<a.tmps.size:=λq h1 h2=>by
   rw[c2]at h1;exact⟨(Ei h1 h2).1,λt ht=>bw ((Ei h1 h2).2 t ht) I4⟩
  cases za2 with
  |skip h1 h2 h3 h4 h5=>
   rw[c1]at h1;rw[ud hEr z8E (z8U.trans h1)];simp only[bm,cP];refine hK _ _ ⟨z8m,z8A,by rw[nZ];exact I3,by rw[qS];exact I4,put e pl.i.dst (dv x),?_⟩;rw[h2]at z7U ⊢;rw[<-h2]at z7U;rw[c3];by_cases hw:Wr L x
   ·obtain⟨n1,n2⟩:=zaY hw;obtain⟨g1,f1⟩:=Mem.whole TX M eP (hpx hw) n1 n2;have hM:=Mem.next TX z9Q (by rw[h5];exact f1) n1 (λj hj hlt=>n2 j hj eP)
    rw[h5,<-g1]at hM;exact⟨x+1,g,μ,ok,by rw[h2,c3]at z7U;exact z7U,hM,R,hEr.put_undef _,hS⟩
   ·have hM:=Mem.quiet TX M hpl hxS hw z7o (by rw[h3];intro l hl;cases hl);rw[h3,h4]at hM;exact⟨p,g,μ,ok,by rw[h2,c3]at z7U;exact z7U,hM,R,hEr.put_undef _,hS⟩
  |quiet h1 h0 h2 h3 h4=>
   rw[c1]at h1;rw[ud hEr z8E (z8U.trans h1)];simp only[bf];refine .inl ?_;have hw0:=N7 h2;have hw:¬Wr L x:=by
    rintro ⟨q,hq,hqw⟩
    rw[hpl]at hq;simp only[aA]at hq;subst hq;rw[hw0]at hqw;cases hqw
   have zaV:pl.i.op=(uR P im nt ops.toList o).op:=by
    rcases hop with h|⟨p,q,f,as,h,_⟩
    ·exact h
    ·exact absurd h (h0 p f as)
   have hne:pl.i.op≠.bad:=by intro hb;rw[hb]at h2;cases h2
   obtain⟨k1,k2⟩:=hbound _ zaV.symm hne;have hA:evA (ss x).nx (X.ev e) g pl.i.op=some (dv x,bs x)/\∀j,j<(bs x).length->g ((ss x).nx+j)=none:=by
    cases hbl:blind pl.i.op with
    |true=>
     obtain⟨e1,e2⟩:=D4 hbl h2;rw[IU z7a,e1];exact⟨e2 _ _,λj hj=>by simp at hj⟩
    |false=>
     cases hfr:far L pl.i.op with
     |true=>
      obtain⟨a,hla,hnd⟩:=Lf hfr;have zfp:=(TX.blnd x pl hpl (.inr hfr)).2;refine⟨?_,λj hj=>by rw[zfp]at hj;simp at hj⟩;have hva:X.ev e (.t a)=X.ev (es x) (.t a):=by
       rcases u6 hla with h|⟨n,h⟩
       ·rw[h]at z7a;simp only[O.reads]at z7a;exact rd z7a
       ·rw[h]at z7a;simp only[O.reads]at z7a;exact rd z7a
      have z9k:∀i,i<=L.length->X.ev (es i) (.t a)=X.ev (es 0) (.t a):=λi hi=>by
       have:=DA hE (t:=a) i 0 eP (λm pl _ _ hm=>F9 hnd (bS hm));rwa[aN]at this
      refine(XR hla ?_).trans h2;have zc2:=XT hla h2;rw[hva];cases hv:X.ev (es 0) (.t a)with
      |ptr l off=>
       have hll:l<(ss 0).nx:=by
        have:=zbb a;rw[hv]at this;rcases aY l (ss 0).nx with h|h
        ·exact h
        ·exact absurd (hf0 l h) this
       have zcS:∀m pm,L[m]?=some pm->sD pm.i.op=true->¬(if x<m then pm.bs.testBit x=true else pl.bs.testBit m=true)->∃s,HN pm.i.op=some s/\Ye l (X.ev (es m) (.t s)):=by
        intro m pm hm hwm hno;rcases C.napp m pm hm hwm x pl hpl a hla hfr with h|⟨s,h5,h6,h7⟩
        ·exact absurd h hno
        ·have hml:m<L.length:=(ak.1 hm).1;have zap:X.ev (es L.length) (.t s)=X.ev (es m) (.t s):=by
          have:=DA hE (t:=s) (L.length-m) m eP (λm' pl' a1 a2 hm'=>F9 h6 (by
           have hg:(L.drop m)[m'-m]?=some pl':=by rw[cA,show m+(m'-m)=m' by omega];exact hm'
           exact bS hg))
          rwa[show m+(L.length-m)=L.length by omega]at this
         obtain⟨r,hr⟩:=hap _ _ h7;refine⟨s,h5,λl' o' n' c' z' ex' hs=>?_,λl' o' hs=>?_⟩
         ·simp only[evA,z9k L.length (aC _),hv,zap,hs]at hr;intro e;rw[aF e.symm]at hr;cases hr
         ·simp only[evA,z9k L.length (aC _),hv,zap,hs]at hr;intro e;rw[aF e.symm]at hr;cases hr
       have hcl:cl g l=cl (ss x).get l:=by
        have hpn:=nx_mono hE p 0 (by have:=M.le;omega);rw[aN]at hpn;have h1:cl g l=cl (ss p).get l:=by rw[M.eq];exact z3H eP
        rw[h1];rcases Nat.le_total p x with hpx|hpx
        ·have:=G9 hE hll (x-p) p eP (λm pm a1 a2 hm hwm=>zcS m pm hm hwm (λhor=>by
          rw[aG eP]at hor;exact(M.seg m (hb m hor) (HQ ⟨pm,hm,hwm⟩) a1).2.2 m a1 (aC _) ⟨pm,hm,hwm⟩))
         rw[show p+(x-p)=x by omega]at this;exact this.symm
        ·have:=G9 hE hll (p-x) x (by have:=M.le;omega) (λm pm a1 a2 hm hwm=>zcS m pm hm hwm (λhor=>by
          by_cases hmx:m=x
          ·subst hmx;exact hw ⟨pm,hm,hwm⟩
          ·rw[aF eP]at hor;exact ha m pm (M.pre m eP (HQ ⟨pm,hm,hwm⟩)) hm hor))
         rw[show x+(p-x)=p by omega]at this;exact this
       rw[z9k x eP,hv];exact z3n hcl off
      |fp cs=>
       rw[z9k x eP,hv];rfl
      |_=>
       exfalso;refine zc2 ?_;rw[z9k x eP,hv];rfl
     |false=>
      have hsg:=Mem.seg_of TX M ⟨pl,hpl,hbl,hfr⟩ hxS hw (z7o ⟨pl,hpl,hbl,hfr⟩);obtain⟨G,s1,s2⟩:=Mem.between TX M hsg;refine⟨?_,Mem.free TX M hsg hxS⟩;refine Uv s2 (λy hy=>?_) (by rw[IU z7a];exact Uu s1 h2);have had:=C.adr x pl hpl;simp only[Vz,hy]at had;cases y with
      |t n=>exact WG (hEr n)
      |c d=>
       simp only[eH]at had;show Cl g d;cases d<;>first|exact trivial|(simp[z2O]at had)
   rw[<-k1]at hA;refine(GY R hEr hA.1 hA.2).wp (λv w' ⟨μ',ok',n2,n3,n4⟩=>?_);have hM:=Mem.quiet TX M hpl hxS hw z7o (by rw[h3];intro l hl;cases hl);rw[h3]at hM;refine hK _ _ ⟨z8m,z8A,by rw[nZ];exact I3,by rw[qS];exact I4,put e pl.i.dst (dv x),p,_,μ',ok',z7U,hM,n2,?_,hS.trans n3⟩;rw[c3];exact(hEr.step n3).put k2 n4
  |pure h1 f as k z6c as' l0 r h2 h3 h4 h5 h6 h7 h8 h9 h10=>
   rw[c1]at h1;rw[ud hEr z8E (z8U.trans h1)];simp only[bf];refine .inl ?_;have hbl:blind pl.i.op=false:=by rw[h2];rfl
   have hfr:far L pl.i.op=false:=by rw[h2];rfl
   have hw:¬Wr L x:=by
    rintro ⟨q,hq,hqw⟩
    rw[hpl]at hq;simp only[aA]at hq;subst hq;rw[h2]at hqw;cases hqw
   obtain⟨q,hcq⟩:∃q,(uR P im nt ops.toList o).op=.call q f as:=by
    rcases hop with h|⟨p,q,f',as',h,h'⟩
    ·exact⟨true,by rw[<-h];exact h2⟩
    ·rw[h2]at h;simp only[O.call.injEq]at h;obtain⟨_,rfl,rfl⟩:=h;exact⟨q,h'⟩
   obtain⟨k1,k2⟩:=hbound _ hcq fU;obtain⟨_,c,hc,hcc⟩:=Ge (Fx k1);rw[h2]at z7a;simp only[O.reads]at z7a;have hfe:X.ev e f=.fn k z6c:=by rw[rdL z7a f fU];exact h3
   have zbd:as.map (X.ev e)=as.map (X.ev (es x)):=cz λy hy=>rdL z7a y (by simp[hy]);obtain⟨F,vs,hF,hv,hx⟩:=D8 hEr (w:=w) hc hcc hfe;have hsg:=Mem.seg_of TX M ⟨pl,hpl,hbl,hfr⟩ hxS hw (z7o ⟨pl,hpl,hbl,hfr⟩);obtain⟨G,s1,s2⟩:=Mem.between TX M hsg;have hm:i8 (res g gJ) (as.map (X.ev e)++z6c)=some (as',l0):=by
    refine Qn R s2 hv ?_;rw[zbd];exact zW (λd _ r hr=>K1 s1 gJ d r hr) h4
   cases z7T:Δ.get k with
   |none=>exact absurd z7T h10
   |some en=>
    obtain⟨fn,cd,f1,f2,f3,_⟩:=hΔ.ent F k en hF z7T;refine Aw (hx fn cd f1 f2 f3) (JI R (nx:=(ss x).nx) (λhne=>?_) hm hv (h5 F hF)) (λv w' ⟨μ',ok',n2,n3,n4⟩=>?_)
    ·rw[<-h8]at hne;have:=Mem.free TX M hsg hxS 0 (az.2 hne);simpa using this
    ·have hM:=Mem.quiet TX M hpl hxS hw z7o (by
      rw[h7];intro l hl;unfold EP at hl;split at hl
      ·cases hl
      ·exact tM hm l hl)
     rw[h7,h8]at hM;refine hK _ _ ⟨z8m,z8A,by rw[nZ];exact I3,by rw[qS];exact I4,put e pl.i.dst (dv x),p,_,μ',ok',z7U,hM,n2,?_,hS.trans n3⟩;rw[c3,h6];exact(hEr.step n3).put k2 n4
  |write h1 h2 h3 h4=>
   rw[c1]at h1;rw[ud hEr z8E (z8U.trans h1)];simp only[bf];refine .inl ?_;have hw:Wr L x:=⟨pl,hpl,BU h4⟩
   obtain⟨n1,n2⟩:=zaY hw;obtain⟨g1,f1⟩:=Mem.whole TX M eP (hpx hw) n1 n2;subst g1;have zaV:pl.i.op=(uR P im nt ops.toList o).op:=by
    rcases hop with h|⟨p,q,f,as,h,_⟩
    ·exact h
    ·rw[h]at h4;cases h4
   have hne:pl.i.op≠.bad:=by intro hb;rw[hb]at h4;cases h4
   obtain⟨k1,k2⟩:=hbound _ zaV.symm hne;rw[<-Re z7a,<-k1]at h4;refine(GW R hEr (f1 _ (aC _)) h4).wp (λv w' ⟨μ',ok',m2,m3,m4⟩=>?_);have hM:=Mem.next TX z9Q (IS f1 h4) n1 (λj hj hlt=>n2 j hj eP)
   refine hK _ _ ⟨z8m,z8A,by rw[nZ];exact I3,by rw[qS];exact I4,put e pl.i.dst (dv x),x+1,_,μ',ok',z7U,hM,m2,?_,hS.trans m3⟩;rw[c3];exact(hEr.step m3).put k2 m4
  |call h1 h2 h3 f as k z6c h4 h5 j hj h6 h10=>
   rw[c1]at h1;rw[ud hEr z8E (z8U.trans h1)];simp only[bf];refine .inl ?_;have hw:Wr L x:=⟨pl,hpl,by rw[h4];rfl⟩
   obtain⟨n1,n2⟩:=zaY hw;obtain⟨g1,f1⟩:=Mem.whole TX M eP (hpx hw) n1 n2;subst g1;obtain⟨q,hcq⟩:∃q,(uR P im nt ops.toList o).op=.call q f as:=by
    rcases hop with h|⟨p,q,f',as',h,h'⟩
    ·exact⟨false,by rw[<-h];exact h4⟩
    ·rw[h4]at h;simp only[O.call.injEq]at h;obtain⟨_,rfl,rfl⟩:=h;exact⟨q,h'⟩
   obtain⟨k1,k2⟩:=hbound _ hcq fU;obtain⟨_,c,hc,hcc⟩:=Ge (Fx k1);rw[h4]at z7a;simp only[O.reads]at z7a;have hfe:X.ev e f=.fn k z6c:=by rw[rdL z7a f fU];exact h5
   have zbd:as.map (X.ev e)=as.map (X.ev (es x)):=cz λy hy=>rdL z7a y (by simp[hy]);obtain⟨F,vs,hF,hv,hx⟩:=D8 hEr (w:=w) hc hcc hfe;rw[zbd]at hv;cases z7T:Δ.get k with
   |none=>exact absurd z7T h10
   |some en=>
    obtain⟨fn,cd,q1,q2,q3,_⟩:=hΔ.ent F k en hF z7T;refine Aw (hx fn cd q1 q2 q3) (hV j hj k z6c _ _ _ _ h6 F hF okp base μ w ok vs f1 R hv) (λv w' ⟨m1,μ',ok',m2,m3,m4⟩=>?_);have hM:=Mem.next TX z9Q m1 n1 (λj hj hlt=>n2 j hj eP)
    refine hK _ _ ⟨z8m,z8A,by rw[nZ];exact I3,by rw[qS];exact I4,put e pl.i.dst (dv x),x+1,_,μ',ok',z7U,hM,m2,?_,hS.trans m3⟩;rw[c3];exact(hEr.step m3).put k2 m4
end
end
section
variable {P:Program} {im:Nat->Option Nat} {Δ:Tr Ent}
def LQ{l:Array Bool}{i j:Nat}(hi:i<l.size)(d:Bool):(l.setIfInBounds i true).getD j d=if j=i then true else l.getD j d:=by
 by_cases h:j=i
 ·subst h;simp[hi]
 ·rw[aG h];simp[dR (Ne.symm h)]
def Ec{l:Array Bool}{j:Nat}(hj:j<l.size):l.getD j true=l.getD j false:=by
 simp[Array.getD,hj]
def yf.same{L:List Pl}{dv:Nat->D}{e0 e e':Env}{S S':Nat->Prop}(h:yf L dv e0 S e)(h':yf L dv e0 S' e')(hS:∀j,j<L.length->(S j↔S' j))(t:Nat):X.ev e (.t t)=X.ev e' (.t t):=by
 by_cases hh:∃j q,S j/\L[j]?=some q/\q.i.dst=some t
 ·obtain⟨j,q,h1,h2,h3⟩:=hh;have hlt:=(ak.1 h2).1;rw[(h t).1 j q h1 h2 h3,(h' t).1 j q ((hS j hlt).1 h1) h2 h3]
 ·rw[(h t).2 (λj q h1 h2 h3=>hh ⟨j,q,h1,h2,h3⟩),(h' t).2 (λj q h1 h2 h3=>hh ⟨j,q,(hS j (ak.1 h2).1).2 h1,h2,h3⟩)]
def z4O(hΔ:DOk P im Δ){k:Nat}(hVP:∀j,j<k->Ns P im Δ j/\Ib P im Δ j):z1R P im Δ k:=by
 intro nt ops e σ x e' σ' hok z6v okp base g0 μ0 w0 ok0 a w Q hst hQ;have C:=z1v hok;obtain⟨e1,σ1,m0,zc7,zc6⟩:=Bv _ _ _ _ _ z6v;obtain⟨rfl,rfl,rfl,hap⟩:=FK _ _ _ _ _ _ _ (λy hy=>EH _ _ y hy) zc6;obtain⟨_,es,ss,dv,ls,bs,q1,q2,q3,q4,q5⟩:=OV _ k e σ .nrm e' σ' (λj hj=>(hVP j hj).2) zc7;have hE:∀(i:Nat)(pl:Pl),(places P im nt ops.toList)[i]?=some pl->es (i+1)=put (es i) pl.i.dst (dv i)/\Eff P im Δ k pl.i (es i) (ss i) (ss (i+1)) (dv i) (ls i) (bs i):=λi pl hi=>
  q5 i pl.i (by rw[af,hi];rfl)
 have hn:=C.len;rw[aj]at q3 q4;generalize hL:places P im nt ops.toList=L at*;have zbb:∀t,Cl (ss 0).get (X.ev (es 0) (.t t)):=by
  intro t;obtain⟨_,_,_,μ,ok,_,hEr,_⟩:=hst;rw[q1,q2];exact WG (hEr t)
 have hf0:jx (ss 0):=by rw[q2];exact hst.1
 have TX:=S4 hΔ (λj hj=>(hVP j hj).1) C hE;have fin:∀(S:Nat->Prop)(a:Act)(w:World),InvM im ops L es ss dv ls bs nt okp base g0 μ0 w0 ok0 S a w->(∀j,j<L.length->S j)->Q .normal a w:=by
  intro S a w I z7i;obtain⟨I1,I2,I3,I4,e1,p,g,μ,ok,hEn,M,R,hEr,hS⟩:=I;obtain⟨g1,f1⟩:=Mem.whole TX M (aC _) M.le (λj _ hj=>z7i j hj) (λj _ hj hSj=>by have:=I2 j hSj;omega);rw[q4]at g1 f1;subst g1;refine hQ a w ⟨f1,I3,I4,μ,ok,R,λt=>?_,hS⟩;have ht:=yf.text C.dist (λi pl hi=>(hE i pl hi).1) L.length (aC _);rw[q3]at ht;rw[<-yf.same hEn ht (λj hj=>⟨λ_=>hj,λ_=>z7i j hj⟩) t];exact hEr t
 have core:∀(fuel:Nat)(z6h:Array Bool)(a:Act)(w:World),z6h.size=ops.size->InvM im ops L es ss dv ls bs nt okp base g0 μ0 w0 ok0 (λj=>z6h.getD j false=true) a w->
  ((List.range ops.size).filter (λj=> !(z6h.getD j true))).length<=fuel->wpAny P .any ops Q fuel z6h a w:=by
  intro fuel
  induction fuel with
  |zero=>
   intro z6h a w hsz I hc;have zeP:(List.range ops.size).filter (λj=> !(z6h.getD j true))=[]:=zmA.1 (zno.1 hc);have z7i:∀j,j<ops.size->z6h.getD j true=true:=by
    intro j hj;cases h:z6h.getD j true with
    |true=>rfl
    |false=>
     have:j∈(List.range ops.size).filter (λj=> !(z6h.getD j true)):=List.mem_filter.2 ⟨dp.2 hj,by rw[h];rfl⟩;rw[zeP]at this;cases this
   refine⟨?_,fin _ a w I (λj hj=>?_)⟩
   ·cases hr:Region.ready .any ops z6h with
    |nil=>rfl
    |cons i r=>
     have hi:i∈Region.ready .any ops z6h:=by rw[hr];simp
     obtain⟨h1,o,ho,_⟩:=mem_ready.1 hi;have hlt:i<ops.size:=(bu.1 ho).1;rw[z7i i hlt]at h1;cases h1
   ·rw[hn]at hj;rw[<-Ec eP];exact z7i j hj
  |succ fuel ih=>
   intro z6h a w hsz I hc;refine⟨λhr=>?_,λi hi=>?_⟩
   ·have z7i:∀j,j<ops.size->z6h.getD j true=true:=by
     intro j
     induction j using Nat.strongRecOn with
     |_ j ihj=>
      intro hj;cases h:z6h.getD j true with
      |true=>rfl
      |false=>
       have hoj:=zms hj;have:j∈Region.ready .any ops z6h:=mem_ready.2 ⟨h,_,hoj,λe he hb=>by
        have hlt:=C.back j _ (by simp[hj]) e he hb;rw[<-Ec eP];exact ihj e.on hlt eP⟩
       rw[hr]at this;cases this
    exact fin _ a w I (λj hj=>by
     rw[hn]at hj;rw[<-Ec eP];exact z7i j hj)
   ·obtain⟨h1,o,ho,h2⟩:=mem_ready.1 hi;have hlt:i<ops.size:=(bu.1 ho).1;have z9U:¬z6h.getD i false=true:=by
     rw[<-Ec eP,h1];simp
    refine Vx hΔ (λj hj=>(hVP j hj).1) C hE I z9U ho h2 zbb hf0 (by rw[q3,q4];exact hap) (λa' w' I'=>?_);have z78:(λj=>z6h.getD j false=true\/j=i)=(λj=>(z6h.setIfInBounds i true).getD j false=true):=by
     funext j;rw[LQ eP];by_cases hj:j=i
     ·rw[aF hj];exact propext ⟨λ_=>rfl,λ_=>.inr hj⟩
     ·rw[aG hj];exact propext ⟨λh=>h.resolve_right hj,λh=>.inl h⟩
    rw[z78]at I';refine ih _ a' w' (by simp[hsz]) I' ?_;have zeT:i∈(List.range ops.size).filter (λj=> !(z6h.getD j true)):=List.mem_filter.2 ⟨dp.2 hlt,by rw[h1];rfl⟩;have z9e:((List.range ops.size).filter (λj=> !((z6h.setIfInBounds i true).getD j true))).length<((List.range ops.size).filter (λj=> !(z6h.getD j true))).length:=by
     have heq:(List.range ops.size).filter (λj=> !((z6h.setIfInBounds i true).getD j true))=((List.range ops.size).filter (λj=> !(z6h.getD j true))).filter (λj=> !(j==i)):=by
      rw[List.filter_filter];refine List.filter_congr (λj hj=>?_);rw[LQ eP];by_cases hji:j=i
      ·subst hji;simp
      ·rw[aG hji];simp[hji]
     rw[heq];exact List.length_filter_lt_length_iff_exists.2 ⟨i,zeT,by simp⟩
    omega
 obtain⟨s1,s2,s3,μ,ok,R,hEr,hS⟩:=hst;have zeB:∀j,(Array.replicate ops.size false).getD j false=false:=λj=>by
  simp only[Array.getD,Array.size_replicate];split<;>simp
 have hem:∀j,¬((Array.replicate ops.size false).getD j false=true):=λj=>by rw[zeB];simp
 refine core ops.size _ a w fU ⟨?_,?_,s2,s3,e,0,σ.get,μ,ok,?_,?_,R,hEr,hS⟩ ?_
 ·intro x o hx;exact absurd hx (hem x)
 ·intro j hj;exact absurd hj (hem j)
 ·rw[<-q1];exact λt=>⟨λj pl hj=>absurd hj (hem j),λ_=>rfl⟩
 ·refine⟨aJ _,by rw[q2];exact s1,λj hj=>eP,λj hj=>absurd hj (hem j),?_,λj hj=>absurd hj (hem j)⟩;rw[q2];exact(HC (λj hj=>hem j hj.1) (λl hl=>s1 l hl)).symm
 ·exact aX (List.length_filter_le _ _) fU
def DD(hm:P.follows .mixedOrders=true)(hΔ:DOk P im Δ)(k:Nat):Cp P im Δ k/\Ns P im Δ k/\Ib P im Δ k:=
 (Wh hm hΔ (λk h=>z4O hΔ h) k).1 k (aC k)
end
end Go.Proofs.Ev
namespace Go.Proofs.Ev
noncomputable section
universe u
abbrev Rs:=Option D
abbrev iy:=Nat->Option D
structure LS where
 m:Tr Blk
 nx:Nat
def LS.get(s:LS)(l:Nat):Option Blk:=if l<s.nx then s.m.get l else none
def LS.fit(s:LS):Prop:=s.nx=s.nx
structure LSR (s:LS) (σ:Sto):Prop where
 nx:σ.nx=s.nx
 get:σ.get=s.get
def xv(ε:iy)(x:X):D:=X.rec (motive:=λ_=>D) (λn=>Option.rec (motive:=λ_=>D) .u (λd=>d) (ε n)) (λd=>d) x
def cnd{R:Sort u}(b:Bool)(t f:R):R:=Bool.rec (motive:=λ_=>R) f t b
@[simp] theorem fH{R:Sort u}(t f:R):cnd true t f=t:=rfl
@[simp] theorem fq{R:Sort u}(t f:R):cnd false t f=f:=rfl
def frc{R:Type}(n:Nat)(k:Nat->R):R:=Nat.rec (k 0) (λm _=>k (Nat.succ m)) n
def fj{R:Type}(n:Nat)(k:Nat->R):frc n k=k n:=by cases n<;>rfl
def nM{R:Type}(b:Bool)(k:Bool->R):R:=cnd b (k true) (k false)
def iz{R:Type}(b:Bool)(k:Bool->R):nM b k=k b:=by cases b<;>rfl
def z16{R:Type}(n:Int)(k:Int->R):R:=Int.rec (λn=>frc n λn=>k (.ofNat n)) (λn=>frc n λn=>k (.negSucc n)) n
def Xv{R:Type}(n:Int)(k:Int->R):z16 n k=k n:=by
 cases n with
 |ofNat n=>exact fj n λn=>k (.ofNat n)
 |negSucc n=>exact fj n λn=>k (.negSucc n)
def wR(d:D):(D->Rs)->Rs:=
 D.rec (motive_1:=λ_=>(D->Rs)->Rs) (motive_2:=λ_=>(List D->Rs)->Rs)
  (λk=>k .u) (λkk n k=>z16 n λn=>k (.i kk n)) (λx k=>nM x λx=>k (.b x)) (λl k=>k (.s l)) (λm k=>frc m λm=>k (.n m)) (λk=>k .np) (λk=>k .nf)
  (λ_ len ex ih k=>ih λcs=>frc len λlen=>nM ex λex=>k (.tree cs len ex))
  (λ_ len sz ih k=>ih λcs=>frc len λlen=>frc sz λsz=>k (.own cs len sz))
  (λl off len cm sz ex k=>frc l λl=>frc off λoff=>frc len λlen=>frc cm λcm=>frc sz λsz=>nM ex λex=>k (.sl l off len cm sz ex))
  (λl off k=>frc l λl=>frc off λoff=>k (.ptr l off))
  (λ_ ih k=>ih λcs=>k (.fp cs)) (λ_ ih k=>ih λcs=>k (.agg cs)) (λ_ ih k=>ih λcs=>k (.tup cs))
  (λf _ ih k=>frc f λf=>ih λcs=>k (.fn f cs))
  (λk=>k []) (λ_ _ ih ihs k=>ih λd=>ihs λds=>k (d::ds)) d
def EQ(l:List D):(List D->Rs)->Rs:=
 D.rec_1 (motive_1:=λ_=>(D->Rs)->Rs) (motive_2:=λ_=>(List D->Rs)->Rs)
  (λk=>k .u) (λkk n k=>z16 n λn=>k (.i kk n)) (λx k=>nM x λx=>k (.b x)) (λl k=>k (.s l)) (λm k=>frc m λm=>k (.n m)) (λk=>k .np) (λk=>k .nf)
  (λ_ len ex ih k=>ih λcs=>frc len λlen=>nM ex λex=>k (.tree cs len ex))
  (λ_ len sz ih k=>ih λcs=>frc len λlen=>frc sz λsz=>k (.own cs len sz))
  (λl off len cm sz ex k=>frc l λl=>frc off λoff=>frc len λlen=>frc cm λcm=>frc sz λsz=>nM ex λex=>k (.sl l off len cm sz ex))
  (λl off k=>frc l λl=>frc off λoff=>k (.ptr l off))
  (λ_ ih k=>ih λcs=>k (.fp cs)) (λ_ ih k=>ih λcs=>k (.agg cs)) (λ_ ih k=>ih λcs=>k (.tup cs))
  (λf _ ih k=>frc f λf=>ih λcs=>k (.fn f cs))
  (λk=>k []) (λ_ _ ih ihs k=>ih λd=>ihs λds=>k (d::ds)) l
def mq(d:D):∀k,wR d k=k d:=
 D.rec (motive_1:=λd=>∀k,wR d k=k d) (motive_2:=λl=>∀k,EQ l k=k l)
  (λ_=>rfl) (λkk n k=>Xv n λn=>k (.i kk n)) (λx k=>iz x λx=>k (.b x)) (λ_ _=>rfl) (λm k=>fj m λm=>k (.n m)) (λ_=>rfl) (λ_=>rfl)
  (λcs len ex ih k=>by
   show EQ cs (λcs=>frc len λlen=>nM ex λex=>k (.tree cs len ex))=_;rw[ih,fj,iz])
  (λcs len sz ih k=>by
   show EQ cs (λcs=>frc len λlen=>frc sz λsz=>k (.own cs len sz))=_;rw[ih,fj,fj])
  (λl off len cm sz ex k=>by
   show(frc l λl=>frc off λoff=>frc len λlen=>frc cm λcm=>frc sz λsz=>nM ex λex=>k (.sl l off len cm sz ex))=_;simp only[fj,iz])
  (λl off k=>by
   show(frc l λl=>frc off λoff=>k (.ptr l off))=_;simp only[fj])
  (λcs ih k=>by
   show EQ cs (λcs=>k (.fp cs))=_;rw[ih])
  (λcs ih k=>by
   show EQ cs (λcs=>k (.agg cs))=_;rw[ih])
  (λcs ih k=>by
   show EQ cs (λcs=>k (.tup cs))=_;rw[ih])
  (λf cs ih k=>by
   show(frc f λf=>EQ cs λcs=>k (.fn f cs))=_;rw[fj,ih])
  (λ_=>rfl)
  (λd ds ih ihs k=>by
   show(wR d λd=>EQ ds λds=>k (d::ds))=_;rw[ih,ihs]) d
def RX(d:D)(ds:List D)(k:List D->Rs):EQ (d::ds) k=wR d λd=>EQ ds λds=>k (d::ds):=rfl
def P0:∀(l:List D)(k:List D->Rs),EQ l k=k l
 |[],_=>rfl
 |d::ds,k=>by rw[RX,mq,P0]
def ob{α:Type}(o:Option α)(k:α->Rs):Rs:=Option.rec (motive:=λ_=>Rs) none k o
def sk(o:Option D)(k:D->Rs):Rs:=ob o λd=>wR d k
def gc(o:Option D)(k:D->Rs):sk o k=ob o k:=by cases o<;>first|rfl|exact mq _ _
section
variable {α:Type}
def EN(n:Nat):List α->(α->Rs)->Rs:=Nat.rec (λl k=>List.rec (motive:=λ_=>Rs) none (λd _ _=>k d) l) (λ_ ih l k=>List.rec (motive:=λ_=>Rs) none (λ_ r _=>ih r k) l) n
def CK:∀(n:Nat)(l:List α)(k:α->Rs),EN n l k=ob l[n]? k
 |0,[],k=>rfl
 |0,b::l,k=>rfl
 |n+1,[],k=>rfl
 |n+1,b::l,k=>by
  show EN n l k=_;rw[CK n l k];rfl
def jJ(n:Nat):List α->(List α->Rs)->Rs:=
 Nat.rec (motive:=λ_=>List α->(List α->Rs)->Rs) (λl k=>k l) (λ_ ih l k=>List.rec (motive:=λ_=>Rs) (k []) (λ_ r _=>ih r k) l) n
def gZ:∀(n:Nat)(l:List α)(k:List α->Rs),jJ n l k=k (l.drop n)
 |0,l,k=>rfl
 |n+1,[],k=>rfl
 |n+1,b::l,k=>by
  show jJ n l k=_;rw[gZ n l k];rfl
def jP(n:Nat):List α->(List α->Rs)->Rs:=
 Nat.rec (motive:=λ_=>List α->(List α->Rs)->Rs) (λ_ k=>k []) (λ_ ih l k=>List.rec (motive:=λ_=>Rs) none (λy r _=>ih r (λr'=>k (y::r'))) l) n
def i7:∀(n:Nat)(l:List α)(k:List α->Rs),jP n l k=if n<=l.length then k (l.take n)else none
 |0,l,k=>by rw[aF (aJ _)];rfl
 |n+1,[],k=>rfl
 |n+1,b::l,k=>by
  show jP n l (λr'=>k (b::r'))=_;rw[i7 n l];simp only[ah,zmw,cb]
def pk(a b:List α)(k:List α->Rs):Rs:=List.rec (motive:=λ_=>(List α->Rs)->Rs) (λk=>k b) (λx _ ih k=>ih λr=>k (x::r)) a k
def jt(b:List α):∀(a:List α)(k:List α->Rs),pk a b k=k (a++b)
 |[],k=>rfl
 |x::a,k=>by
  show pk a b (λr=>k (x::r))=_;rw[jt b a];rfl
def Oc(new:List α):List α->(List α->Rs)->Rs:=
 List.rec (motive:=λ_=>List α->(List α->Rs)->Rs) (λl k=>k l) (λd _ ih l k=>List.rec (motive:=λ_=>Rs) none (λ_ r _=>ih r (λr'=>k (d::r'))) l) new
def Ke:∀(new l:List α)(k:List α->Rs),Oc new l k=if new.length<=l.length then k (new++l.drop new.length)else none
 |[],l,k=>by rw[aF fU];rfl
 |d::new,[],k=>rfl
 |d::new,b::l,k=>by
  show Oc new l (λr'=>k (d::r'))=_;rw[Ke new l];simp only[ah,zmw,zmY,d9]
def xU(off:Nat)(new:List α):List α->(List α->Rs)->Rs:=
 Nat.rec (motive:=λ_=>List α->(List α->Rs)->Rs) (λl k=>Oc new l k) (λ_ ih l k=>List.rec (motive:=λ_=>Rs) none (λy r _=>ih r (λr'=>k (y::r'))) l) off
def A8(off:Nat)(new cs:List α):Option (List α):=
 if off+new.length<=cs.length then some (cs.take off++new++cs.drop (off+new.length))else none
def qE(new:List α):∀(off:Nat)(l:List α)(k:List α->Rs),xU off new l k=ob (A8 off new l) k
 |0,l,k=>by
  show Oc new l k=_;rw[Ke];unfold A8;simp only[aN,dr,cW];split<;>rfl
 |off+1,[],k=>by
  show none=_;unfold A8;rw[aG fU];rfl
 |off+1,b::l,k=>by
  show xU off new l (λr'=>k (b::r'))=_;rw[qE new off l];unfold A8;have:off+1+new.length=(off+new.length)+1:=eP;simp only[this,ah,zmw,cb,zmY,d9];split<;>rfl
end
def vo(off:Nat)(new cs:List D):A8 off new cs=lay off new cs:=rfl
def trK(t:Tr Blk):Nat->(Blk->Rs)->Rs:=
 Tr.rec (motive:=λ_=>Nat->(Blk->Rs)->Rs) (λ_ _=>none) (λv _ _ ihl ihr n k=>cnd (Nat.beq n 0) (ob v k) (frc (Nat.div n 2) λh=>cnd (Nat.beq (Nat.mod n 2) 1) (ihl h k) (ihr (Nat.pred h) k))) t
def MT:∀(t:Tr Blk)(n:Nat)(k:Blk->Rs),trK t n k=ob (t.get n) k
 |.nil,n,k=>rfl
 |.node v l r,n,k=>by
  show cnd (Nat.beq n 0) (ob v k) (frc (Nat.div n 2) λh=>cnd (Nat.beq (Nat.mod n 2) 1) (trK l h k) (trK r (Nat.pred h) k))=ob (cond (Nat.beq n 0) v (cond (Nat.beq (Nat.mod n 2) 1) (l.get (Nat.div n 2)) (r.get (Nat.pred (Nat.div n 2))))) k;rw[fj,MT l,MT r];cases Nat.beq n 0
  ·cases Nat.beq (Nat.mod n 2) 1<;>rfl
  ·rfl
def Tr.ins{α:Type}(x:α):Tr α->Nat->Tr α
 |.nil,n=>Tr.set .nil n x
 |.node v l r,n=>cond (Nat.beq n 0) (.node (some x) l r) (cond (Nat.beq (Nat.mod n 2) 1) (.node v (Tr.ins x l (Nat.div n 2)) r) (.node v l (Tr.ins x r (Nat.pred (Nat.div n 2)))))
def Tr.get_ins{α:Type}(x:α):∀(t:Tr α)(n m:Nat),(Tr.ins x t n).get m=if m=n then some x else t.get m
 |.nil,n,m=>Tr.get_set _ _ _ _
 |.node v l r,n,m=>by
  show(cond (Nat.beq n 0) (Tr.node (some x) l r) (cond (Nat.beq (Nat.mod n 2) 1) (.node v (Tr.ins x l (Nat.div n 2)) r) (.node v l (Tr.ins x r (Nat.pred (Nat.div n 2)))))).get m=_;by_cases h0:n=0
  ·subst h0;show(Tr.node (some x) l r).get m=_;rw[Tr.get_node,Tr.get_node];by_cases hm:m=0<;>simp[hm]
  ·have h1:Nat.beq n 0=false:=Rn h0;rw[h1];by_cases h2:n%2=1
   ·have h3:Nat.beq (Nat.mod n 2) 1=true:=by show Nat.beq (n%2) 1=true;rw[h2];rfl
    rw[h3];show(Tr.node v (Tr.ins x l (n/2)) r).get m=_;rw[Tr.get_node,Tr.get_node,Tr.get_ins x l];by_cases hm:m=0
    ·subst hm;rw[aF rfl,aG eP,aF rfl]
    ·rw[aG hm,aG hm];by_cases hm2:m%2=1
     ·rw[aF hm2,aF hm2];by_cases he:m=n
      ·rw[aF eP,aF he]
      ·rw[aG eP,aG he]
     ·rw[aG hm2,aG hm2,aG (by intro e;subst e;exact hm2 h2)]
   ·have h3:Nat.beq (Nat.mod n 2) 1=false:=by
     have:n%2=0:=eP;show Nat.beq (n%2) 1=false;rw[this];rfl
    rw[h3];show(Tr.node v l (Tr.ins x r (n/2-1))).get m=_;rw[Tr.get_node,Tr.get_node,Tr.get_ins x r];by_cases hm:m=0
    ·subst hm;rw[aF rfl,aG eP,aF rfl]
    ·rw[aG hm,aG hm];by_cases hm2:m%2=1
     ·rw[aF hm2,aF hm2,aG (by intro e;subst e;exact h2 hm2)]
     ·rw[aG hm2,aG hm2];by_cases he:m=n
      ·rw[aF eP,aF he]
      ·rw[aG eP,aG he]
def U5(x:Blk)(t:Tr Blk):Nat->(Tr Blk->Rs)->Rs:=
 Tr.rec (motive:=λ_=>Nat->(Tr Blk->Rs)->Rs) (λn k=>cnd (Nat.beq n 0) (k (.node (some x) .nil .nil)) (k (Tr.set .nil n x)))
  (λv l r ihl ihr n k=>cnd (Nat.beq n 0) (k (.node (some x) l r)) (frc (Nat.div n 2) λh=>cnd (Nat.beq (Nat.mod n 2) 1) (ihl h λl'=>k (.node v l' r)) (ihr (Nat.pred h) λr'=>k (.node v l r')))) t
def Eb(x:Blk):∀(t:Tr Blk)(n:Nat)(k:Tr Blk->Rs),U5 x t n k=k (Tr.ins x t n)
 |.nil,n,k=>by
  show cnd (Nat.beq n 0) (k (.node (some x) .nil .nil)) (k (Tr.set .nil n x))=k (Tr.set .nil n x);cases n<;>rfl
 |.node v l r,n,k=>by
  show cnd (Nat.beq n 0) (k (.node (some x) l r)) (frc (Nat.div n 2) λh=>cnd (Nat.beq (Nat.mod n 2) 1) (U5 x l h λl'=>k (.node v l' r)) (U5 x r (Nat.pred h) λr'=>k (.node v l r')))=
   k (cond (Nat.beq n 0) (.node (some x) l r) (cond (Nat.beq (Nat.mod n 2) 1) (.node v (Tr.ins x l (Nat.div n 2)) r) (.node v l (Tr.ins x r (Nat.pred (Nat.div n 2))))))
  rw[fj,Eb x l,Eb x r];cases Nat.beq n 0
  ·cases Nat.beq (Nat.mod n 2) 1<;>rfl
  ·rfl
def iq(s:LS)(l:Nat)(k:Blk->Rs):Rs:=cnd (Nat.blt l s.nx) (trK s.m l k) none
def fw{a b:Nat}(h:¬a<b):Nat.blt a b=false:=by
 cases hq:Nat.blt a b with
 |false=>rfl
 |true=>exact absurd (by simpa[zmm]using hq) h
def fk{a b:Nat}(h:a<b):Nat.blt a b=true:=by simpa[zmm]using h
def il{a b:Nat}(h:¬a<=b):Nat.ble a b=false:=by
 cases hq:Nat.ble a b with
 |false=>rfl
 |true=>exact absurd (aV hq) h
def oB(s:LS)(l:Nat)(k:Blk->Rs):iq s l k=ob (s.get l) k:=by
 unfold iq LS.get;by_cases h:l<s.nx
 ·rw[fk h,aF h,fH,MT]
 ·rw[fw h,aG h];rfl
def oh(s:LS)(l:Nat)(b:Blk)(k:LS->Rs):Rs:=U5 b s.m l λm=>k ⟨m,s.nx⟩
def LS.put(s:LS)(l:Nat)(b:Blk):LS:=⟨Tr.ins b s.m l,s.nx⟩
def GD(s:LS)(l:Nat)(b:Blk)(k:LS->Rs):oh s l b k=k (s.put l b):=Eb _ _ _ _
def wj{s:LS}{σ:Sto}(h:LSR s σ){l:Nat}{b0:Blk}(hl:s.get l=some b0)(b:Blk)(k:LS->Rs):oh s l b k=k (s.put l b):=GD s l b k
def LS.get_put{s:LS}{l:Nat}{b0:Blk}(hl:s.get l=some b0)(b:Blk)(m:Nat):(s.put l b).get m=if m=l then some b else s.get m:=by
 have hlt:l<s.nx:=by
  unfold LS.get at hl;split at hl
  ·assumption
  ·cases hl
 unfold LS.get LS.put;simp only;rw[Tr.get_ins];by_cases hml:m=l
 ·subst hml;rw[aF hlt,aF rfl,aF rfl]
 ·rw[aG hml,aG hml]
def LSR.put{s:LS}{σ:Sto}(h:LSR s σ){l:Nat}{b0:Blk}(hl:s.get l=some b0)(b:Blk):LSR (s.put l b) (σ.put l b):=by
 refine⟨h.nx,?_⟩;funext m;rw[Sto.get_put,LS.get_put hl,h.get]
def lh(s:LS)(b:Blk)(k:LS->Rs):Rs:=frc (Nat.succ s.nx) λnx=>U5 b s.m s.nx λm=>k ⟨m,nx⟩
def LS.push(s:LS)(b:Blk):LS:=⟨Tr.ins b s.m s.nx,Nat.succ s.nx⟩
def lH(s:LS)(b:Blk)(k:LS->Rs):lh s b k=k (s.push b):=by
 unfold lh;rw[fj,Eb];rfl
def LS.get_push(s:LS)(b:Blk)(m:Nat):(s.push b).get m=if m=s.nx then some b else s.get m:=by
 unfold LS.get LS.push;simp only;rw[Tr.get_ins];by_cases hms:m=s.nx
 ·subst hms;simp
 ·rw[aG hms,aG hms];by_cases h1:m<s.nx
  ·rw[aF h1,aF eP]
  ·rw[aG h1,aG eP]
def LSR.push{s:LS}{σ:Sto}(h:LSR s σ)(b:Blk):LSR (s.push b) (σ.adds [b]):=by
 have hnx:(σ.adds [b]).nx=Nat.succ s.nx:=by show Nat.succ σ.nx=_;rw[h.nx]
 refine⟨hnx,?_⟩;funext m;rw[Sto.get_add1,h.nx,LS.get_push,h.get]
def LSR.empty:LSR ⟨.nil,0⟩ Sto.empty:=⟨rfl,by funext m;unfold LS.get;rw[aG fU];rfl⟩
inductive CI|i (k:IntKind) (n:Nat)|no
inductive CB|t|f|no
inductive CP|ptr (l off:Nat)|fp (cs:List D)|no
inductive CS|sl (l off len cm z:Nat) (ex:Bool)|tree (cs:List D) (len:Nat) (ex:Bool)|no
inductive CL|l (cs:List D)|no
def asI(d:D):CI:=D.rec (motive_1:=λ_=>CI) (motive_2:=λ_=>PUnit.{1}) .no (λk n=>Int.rec (motive:=λ_=>CI) (λn=>.i k n) (λ_=>.no) n) (λ_=>.no) (λ_=>.no) (λ_=>.no) .no .no (λ_ _ _ _=>.no) (λ_ _ _ _=>.no) (λ_ _ _ _ _ _=>.no) (λ_ _=>.no) (λ_ _=>.no) (λ_ _=>.no) (λ_ _=>.no) (λ_ _ _=>.no) ⟨⟩ (λ_ _ _ _=>⟨⟩) d
def asB(d:D):CB:=D.rec (motive_1:=λ_=>CB) (motive_2:=λ_=>PUnit.{1}) .no (λ_ _=>.no) (λx=>Bool.rec (motive:=λ_=>CB) .f .t x) (λ_=>.no) (λ_=>.no) .no .no (λ_ _ _ _=>.no) (λ_ _ _ _=>.no) (λ_ _ _ _ _ _=>.no) (λ_ _=>.no) (λ_ _=>.no) (λ_ _=>.no) (λ_ _=>.no) (λ_ _ _=>.no) ⟨⟩ (λ_ _ _ _=>⟨⟩) d
def asP(d:D):CP:=D.rec (motive_1:=λ_=>CP) (motive_2:=λ_=>PUnit.{1}) .no (λ_ _=>.no) (λ_=>.no) (λ_=>.no) (λ_=>.no) .no .no (λ_ _ _ _=>.no) (λ_ _ _ _=>.no) (λ_ _ _ _ _ _=>.no) (λl off=>.ptr l off) (λcs _=>.fp cs) (λ_ _=>.no) (λ_ _=>.no) (λ_ _ _=>.no) ⟨⟩ (λ_ _ _ _=>⟨⟩) d
def asS(d:D):CS:=D.rec (motive_1:=λ_=>CS) (motive_2:=λ_=>PUnit.{1}) .no (λ_ _=>.no) (λ_=>.no) (λ_=>.no) (λ_=>.no) .no .no (λcs len ex _=>.tree cs len ex) (λ_ _ _ _=>.no) (λl off len cm z ex=>.sl l off len cm z ex) (λ_ _=>.no) (λ_ _=>.no) (λ_ _=>.no) (λ_ _=>.no) (λ_ _ _=>.no) ⟨⟩ (λ_ _ _ _=>⟨⟩) d
def asA(d:D):CL:=D.rec (motive_1:=λ_=>CL) (motive_2:=λ_=>PUnit.{1}) .no (λ_ _=>.no) (λ_=>.no) (λ_=>.no) (λ_=>.no) .no .no (λ_ _ _ _=>.no) (λ_ _ _ _=>.no) (λ_ _ _ _ _ _=>.no) (λ_ _=>.no) (λ_ _=>.no) (λcs _=>.l cs) (λ_ _=>.no) (λ_ _ _=>.no) ⟨⟩ (λ_ _ _ _=>⟨⟩) d
def asT(d:D):CL:=D.rec (motive_1:=λ_=>CL) (motive_2:=λ_=>PUnit.{1}) .no (λ_ _=>.no) (λ_=>.no) (λ_=>.no) (λ_=>.no) .no .no (λ_ _ _ _=>.no) (λ_ _ _ _=>.no) (λ_ _ _ _ _ _=>.no) (λ_ _=>.no) (λ_ _=>.no) (λ_ _=>.no) (λcs _=>.l cs) (λ_ _ _=>.no) ⟨⟩ (λ_ _ _ _=>⟨⟩) d
section
variable {R:Type}
def onN(d:D)(k:IntKind->Nat->R)(no:R):R:=CI.rec (motive:=λ_=>R) k no (asI d)
def onB(d:D)(t f no:R):R:=CB.rec (motive:=λ_=>R) t f no (asB d)
def Kg(d:D)(k:Nat->Nat->R)(kf:List D->R)(no:R):R:=CP.rec (motive:=λ_=>R) k kf no (asP d)
def JO(d:D)(k:Nat->Nat->Nat->Nat->Nat->Bool->R)(kt:List D->Nat->Bool->R)(no:R):R:=CS.rec (motive:=λ_=>R) k kt no (asS d)
def Od(d:D)(k:List D->R)(no:R):R:=CL.rec (motive:=λ_=>R) k no (asA d)
def Yt(d:D)(k:List D->R)(no:R):R:=CL.rec (motive:=λ_=>R) k no (asT d)
def lv(s:Stt):Bool:=Stt.rec (motive:=λ_=>Bool) true true false true s
def wr(s:Stt):Bool:=Stt.rec (motive:=λ_=>Bool) true false false false s
def ow(s:Stt):Bool:=Stt.rec (motive:=λ_=>Bool) true false false true s
end
def nQ(s:Stt):lv s=s.live:=by cases s<;>rfl
def Bj(s:Stt):wr s=s.wr:=by cases s<;>rfl
def fzS(s:Stt):Stt:=Stt.rec (motive:=λ_=>Stt) .frz .frz .gone .apd s
def Uc(s:Stt):fzS s=s.fz:=by cases s<;>rfl
def z2H(s:Stt):ow s=s.own:=by cases s<;>rfl
def wh(k:IntKind):Nat:=IntKind.rec (motive:=λ_=>Nat) 0 1 2 3 4 5 6 7 k
def xV{a b:IntKind}(h:Nat.beq (wh a) (wh b)=true):a=b:=by
 cases a<;>cases b<;>first|rfl|(exact absurd h eV)
def i9(k:IntKind):Nat:=IntKind.rec (motive:=λ_=>Nat) 127 32767 2147483647 9223372036854775807 255 65535 4294967295 18446744073709551615 k
def At{kk:IntKind}{n:Nat}(h:n<=i9 kk):kk.wrap (Int.ofNat n)=Int.ofNat n:=by
 cases kk<;>simp only[i9]at h<;>simp[IntKind.wrap,IntKind.bits,IntKind.signed]<;>omega
def wM(k:IntKind):Nat:=IntKind.rec (motive:=λ_=>Nat) 0 0 0 0 256 65536 4294967296 18446744073709551616 k
def SP{kk:IntKind}(h:Nat.beq (wM kk) 0=false)(n:Nat):kk.wrap (Int.ofNat n)=Int.ofNat (n%wM kk):=by
 cases kk<;>simp only[wM]at h ⊢ <;>first|(exact absurd h eV)|(simp[IntKind.wrap,IntKind.bits,IntKind.signed])
def on2(x y:D)(k:IntKind->Nat->Nat->Rs)(no:Rs):Rs:=
 onN x (λkk a=>onN y (λkk' b=>cnd (Nat.beq (wh kk) (wh kk')) (k kk a b) no) no) no
def mkI(kk:IntKind)(n:Nat)(k:D->Rs)(no:Rs):Rs:=cnd (Nat.ble n (i9 kk)) (frc n λn=>k (.i kk (.ofNat n))) (cnd (Nat.beq (wM kk) 0) no (frc (Nat.mod n (wM kk)) λn=>k (.i kk (.ofNat n))))
def mkB(b:Bool)(k:D->Rs):Rs:=cnd b (k (.b true)) (k (.b false))
def vW(b:Bool)(k:D->Rs):mkB b k=k (.b b):=by cases b<;>rfl
def gN(op:BinOp)(x y:D)(k:D->Rs):Rs:=sk (bin op x y) k
def f7(x y:D)(k:D->Rs):Rs:=on2 x y (λkk a b=>mkI kk (Nat.add a b) k (gN .add x y k)) (gN .add x y k)
def fe(x y:D)(k:D->Rs):Rs:=on2 x y (λkk a b=>cnd (Nat.ble b a) (mkI kk (Nat.sub a b) k (gN .sub x y k)) (cnd (Nat.beq (wM kk) 0) (gN .sub x y k) (cnd (Nat.ble b (wM kk)) (mkI kk (Nat.sub (Nat.add a (wM kk)) b) k (gN .sub x y k)) (gN .sub x y k)))) (gN .sub x y k)
def jZ(x y:D)(k:D->Rs):Rs:=on2 x y (λkk a b=>mkI kk (Nat.mul a b) k (gN .mul x y k)) (gN .mul x y k)
def vX(x y:D)(k:D->Rs):Rs:=on2 x y (λkk a b=>cnd (Nat.beq b 0) none (frc (Nat.mod a b) λn=>k (.i kk (.ofNat n)))) (gN .rem x y k)
def gD(x y:D)(k:D->Rs):Rs:=on2 x y (λkk a b=>mkB (Nat.blt a b) k) (gN .lss x y k)
def wQ(x y:D)(k:D->Rs):Rs:=on2 x y (λkk a b=>mkB (Nat.ble a b) k) (gN .leq x y k)
def kH(x y:D)(k:D->Rs):Rs:=on2 x y (λkk a b=>mkB (Nat.blt b a) k) (gN .gtr x y k)
def mb(x y:D)(k:D->Rs):Rs:=on2 x y (λkk a b=>mkB (Nat.ble b a) k) (gN .geq x y k)
def iR(x y:D)(k:D->Rs):Rs:=on2 x y (λkk a b=>mkB (Nat.beq a b) k) (gN .eql x y k)
def sG(x y:D)(k:D->Rs):Rs:=on2 x y (λkk a b=>mkB (not (Nat.beq a b)) k) (gN .neq x y k)
def xW(x y:D)(k:D->Rs):Rs:=on2 x y (λkk a b=>cnd (Nat.beq b 0) none (mkI kk (Nat.div a b) k (gN .quo x y k))) (gN .quo x y k)
def inK(kk:IntKind)(a b:Nat)(t no:Rs):Rs:=cnd (Nat.ble a (i9 kk)) (cnd (Nat.ble b (i9 kk)) t no) no
def vY(x y:D)(k:D->Rs):Rs:=on2 x y (λkk a b=>inK kk a b (frc (Nat.land a b) λn=>k (.i kk (.ofNat n))) (gN .and x y k)) (gN .and x y k)
def kOr(x y:D)(k:D->Rs):Rs:=on2 x y (λkk a b=>inK kk a b (frc (Nat.lor a b) λn=>k (.i kk (.ofNat n))) (gN .or x y k)) (gN .or x y k)
def LA(k:IntKind):Nat:=IntKind.rec (motive:=λ_=>Nat) 8 16 32 64 8 16 32 64 k
def A9(b n:Nat):Nat:=cnd (Nat.ble b n) b n
def BQ(x y:D)(k:D->Rs):Rs:=onN x (λkk a=>onN y (λ_ b=>mkI kk (Nat.mul a (Nat.pow 2 (A9 b (LA kk)))) k (gN .shl x y k)) (gN .shl x y k)) (gN .shl x y k)
def pP(x y:D)(k:D->Rs):Rs:=onN x (λkk a=>onN y (λ_ b=>frc (Nat.div a (Nat.pow 2 (A9 b (LA kk)))) λn=>k (.i kk (.ofNat n))) (gN .shr x y k)) (gN .shr x y k)
def z2Z(op:BinOp)(x y:D)(k:D->Rs):Rs:=
 match op with
 |.add=>f7 x y k
 |.sub=>fe x y k
 |.mul=>jZ x y k
 |.rem=>vX x y k
 |.lss=>gD x y k
 |.leq=>wQ x y k
 |.gtr=>kH x y k
 |.geq=>mb x y k
 |.eql=>iR x y k
 |.neq=>sG x y k
 |.quo=>xW x y k
 |.and=>vY x y k
 |.or=>kOr x y k
 |.shl=>BQ x y k
 |.shr=>pP x y k
 |op=>gN op x y k
def To(o:Option D)(k:D->Rs)(r:D):Prop:=∃d,o=some d/\k d=some r
def oV{α:Type}{o:Option α}{k:α->Rs}{r:D}(h:ob o k=some r):∃x,o=some x/\k x=some r:=by
 cases o with
 |none=>cases h
 |some x=>exact⟨x,rfl,h⟩
def vD{d:D}{k:IntKind->Nat->Rs}{no:Rs}{r:D}(h:onN d k no=some r):(∃kk n,d=.i kk (.ofNat n)/\k kk n=some r)\/no=some r:=by
 cases d with
 |i kk n=>
  cases n with
  |ofNat n=>exact .inl ⟨kk,n,rfl,h⟩
  |negSucc n=>exact .inr h
 |_=>exact .inr h
def oU{x y:D}{k:IntKind->Nat->Nat->Rs}{no:Rs}{r:D}(h:on2 x y k no=some r):(∃kk a b,x=.i kk (.ofNat a)/\y=.i kk (.ofNat b)/\k kk a b=some r)\/no=some r:=by
 unfold on2 at h;rcases vD h with⟨kk,a,hx,h1⟩|h1
 ·rcases vD (d:=y) h1 with⟨kk',b,hy,h2⟩|h2
  ·cases hk:Nat.beq (wh kk) (wh kk')with
   |false=>rw[hk]at h2;exact .inr h2
   |true=>
    rw[hk]at h2;have:=xV hk;subst this;exact .inl ⟨kk,a,b,hx,hy,h2⟩
  ·exact .inr h2
 ·exact .inr h1
def iQ{op:BinOp}{x y:D}{k:D->Rs}{r:D}(h:gN op x y k=some r):To (bin op x y) k r:=by
 unfold gN at h;rw[gc]at h;exact oV h
def BJ{kk:IntKind}{n:Nat}{k:D->Rs}{no:Rs}{r:D}(h:mkI kk n k no=some r):k (.i kk (kk.wrap (Int.ofNat n)))=some r\/no=some r:=by
 unfold mkI at h;cases hb:Nat.ble n (i9 kk)with
 |false=>
  rw[hb]at h;cases hm:Nat.beq (wM kk) 0 with
  |true=>rw[hm]at h;exact .inr h
  |false=>
   rw[hm]at h;simp only[fq,fj]at h;rw[SP hm];exact .inl h
 |true=>
  rw[hb]at h;simp only[fH,fj]at h;rw[At (aV hb)];exact .inl h
def QG(a b:Nat):Nat.blt a b=decide ((Int.ofNat a)<(Int.ofNat b)):=by
 rw[dw];simp[zmm]
def QH(a b:Nat):Nat.ble a b=decide ((Int.ofNat a)<=(Int.ofNat b)):=by
 rw[dw];simp
def QI(a b:Nat):Nat.beq a b=((Int.ofNat a)==(Int.ofNat b)):=by
 rw[dw,Nat.beq_eq,beq_iff_eq];exact⟨λh=>by rw[h],λh=>Int.ofNat.inj h⟩
def Kz(kk:IntKind):kk.bits=LA kk:=by cases kk<;>rfl
def PD(b n:Nat):A9 b n=Nat.min b n:=by
 unfold A9;by_cases h:b<=n
 ·rw[aD h];show b=min b n;omega
 ·rw[il h];show n=min b n;omega
def LO{kk:IntKind}{a b:Nat}{t no:Rs}{r:D}(h:inK kk a b t no=some r):(a<=i9 kk/\b<=i9 kk/\t=some r)\/no=some r:=by
 unfold inK at h;cases h1:Nat.ble a (i9 kk)with
 |false=>rw[h1]at h;exact .inr h
 |true=>
  rw[h1]at h;cases h2:Nat.ble b (i9 kk)with
  |false=>rw[h2]at h;exact .inr h
  |true=>rw[h2]at h;exact .inl ⟨aV h1,aV h2,h⟩
def PE(kk:IntKind):∃m,i9 kk+1=2^m/\m<=kk.bits:=by
 cases kk
 ·exact⟨7,rfl,eV⟩
 ·exact⟨15,rfl,eV⟩
 ·exact⟨31,rfl,eV⟩
 ·exact⟨63,rfl,eV⟩
 ·exact⟨8,rfl,eV⟩
 ·exact⟨16,rfl,eV⟩
 ·exact⟨32,rfl,eV⟩
 ·exact⟨64,rfl,eV⟩
def AQ{w a:Nat}(h:a<2^w):(BitVec.ofInt w (Int.ofNat a)).toNat=a:=by
 rw[show Int.ofNat a=(a:Int)from rfl,BitVec.ofInt_natCast,BitVec.toNat_ofNat,am h]
def Tx{kk:IntKind}{a b:Nat}(ha:a<=i9 kk):a&&&b<=i9 kk:=aX Nat.and_le_left ha
def XQ{kk:IntKind}{a b:Nat}(ha:a<=i9 kk)(hb:b<=i9 kk):a|||b<=i9 kk:=by
 obtain⟨m,hm,_⟩:=PE kk;have:=Nat.or_lt_two_pow (x:=a) (y:=b) (n:=m) eP eP;omega
def X0{kk:IntKind}{a:Nat}(ha:a<=i9 kk):a<2^kk.bits:=by
 obtain⟨m,hm,hle⟩:=PE kk;have:=cM (show 0<2 by omega) hle;omega
def Xg{op:BinOp}{x y:D}{k:D->Rs}{r:D}(h:z2Z op x y k=some r):To (bin op x y) k r:=by
 cases op
 case add=>
  rcases oU h with⟨kk,a,b,rfl,rfl,h1⟩|h1
  ·rcases BJ h1 with h2|h2
   ·exact⟨_,by simp[bin,zp],h2⟩
   ·exact iQ h2
  ·exact iQ h1
 case sub=>
  rcases oU h with⟨kk,a,b,rfl,rfl,h1⟩|h1
  ·cases hb:Nat.ble b a with
   |false=>
    rw[hb]at h1;simp only[fq]at h1;cases hm:Nat.beq (wM kk) 0 with
    |true=>rw[hm]at h1;exact iQ h1
    |false=>
     rw[hm]at h1;simp only[fq]at h1;cases hk:Nat.ble b (wM kk)with
     |false=>rw[hk]at h1;exact iQ h1
     |true=>
      rw[hk]at h1;have hle:b<=wM kk:=aV hk;rcases BJ h1 with h2|h2
      ·refine⟨_,?_,h2⟩;simp only[bin,zp,bf];refine congrArg some (congrArg (D.i kk) ?_);have:kk.wrap (Int.ofNat a-Int.ofNat b)=kk.wrap (Int.ofNat (Nat.sub (Nat.add a (wM kk)) b)):=by
        have e:(Int.ofNat (Nat.sub (Nat.add a (wM kk)) b))=(Int.ofNat a-Int.ofNat b)+(wM kk:Int):=by
         show((a+wM kk-b:Nat):Int)=(a:Int)-(b:Int)+(wM kk:Int)
         omega
        rw[e];cases kk<;>simp only[wM]at hm ⊢ <;>first|(exact absurd hm eV)|(simp only[IntKind.wrap,IntKind.bits,IntKind.signed];simp)
       exact this
      ·exact iQ h2
   |true=>
    rw[hb]at h1;have hle:b<=a:=aV hb;have he:Int.ofNat a-Int.ofNat b=Int.ofNat (a-b):=by simp only[ag];omega
    rcases BJ h1 with h2|h2
    ·exact⟨_,by simp only[bin,zp,bf,he];rfl,h2⟩
    ·exact iQ h2
  ·exact iQ h1
 case mul=>
  rcases oU h with⟨kk,a,b,rfl,rfl,h1⟩|h1
  ·rcases BJ h1 with h2|h2
   ·exact⟨_,by simp[bin,zp],h2⟩
   ·exact iQ h2
  ·exact iQ h1
 case rem=>
  rcases oU h with⟨kk,a,b,rfl,rfl,h1⟩|h1
  ·cases hb:Nat.beq b 0 with
   |true=>rw[hb]at h1;cases h1
   |false=>
    rw[hb]at h1;simp only[fq,fj]at h1;have hb':b≠0:=by intro e;subst e;simp at hb
    refine⟨_,?_,h1⟩;simp only[bin,zp,bf];rw[aG (by simpa using hb')];rfl
  ·exact iQ h1
 case lss=>
  rcases oU h with⟨kk,a,b,rfl,rfl,h1⟩|h1
  ·rw[vW]at h1;exact⟨_,by simp only[bin,zp,bf,QG],h1⟩
  ·exact iQ h1
 case leq=>
  rcases oU h with⟨kk,a,b,rfl,rfl,h1⟩|h1
  ·rw[vW]at h1;exact⟨_,by simp only[bin,zp,bf,QH],h1⟩
  ·exact iQ h1
 case gtr=>
  rcases oU h with⟨kk,a,b,rfl,rfl,h1⟩|h1
  ·rw[vW]at h1;exact⟨_,by simp only[bin,zp,bf,QG,gt_iff_lt],h1⟩
  ·exact iQ h1
 case geq=>
  rcases oU h with⟨kk,a,b,rfl,rfl,h1⟩|h1
  ·rw[vW]at h1;exact⟨_,by simp only[bin,zp,bf,QH,ge_iff_le],h1⟩
  ·exact iQ h1
 case eql=>
  rcases oU h with⟨kk,a,b,rfl,rfl,h1⟩|h1
  ·rw[vW]at h1;exact⟨_,by simp only[bin,zp,bf,QI],h1⟩
  ·exact iQ h1
 case neq=>
  rcases oU h with⟨kk,a,b,rfl,rfl,h1⟩|h1
  ·rw[vW]at h1;exact⟨_,by simp only[bin,zp,bf,QI];rfl,h1⟩
  ·exact iQ h1
 case quo=>
  rcases oU h with⟨kk,a,b,rfl,rfl,h1⟩|h1
  ·cases hb:Nat.beq b 0 with
   |true=>rw[hb]at h1;cases h1
   |false=>
    rw[hb]at h1;have hb':b≠0:=by intro e;subst e;simp at hb
    rcases BJ h1 with h2|h2
    ·refine⟨_,?_,h2⟩;simp only[bin,zp,bf];rw[aG (by simpa using hb')];rfl
    ·exact iQ h2
  ·exact iQ h1
 case and=>
  rcases oU h with⟨kk,a,b,rfl,rfl,h1⟩|h1
  ·rcases LO h1 with⟨ha,hb,h2⟩|h2
   ·rw[fj]at h2;refine⟨_,?_,h2⟩;simp only[bin,zp,bf,BitVec.toNat_and,AQ (X0 ha),AQ (X0 hb)];exact congrArg some (congrArg (D.i kk) (At (Tx ha)))
   ·exact iQ h2
  ·exact iQ h1
 case or=>
  rcases oU h with⟨kk,a,b,rfl,rfl,h1⟩|h1
  ·rcases LO h1 with⟨ha,hb,h2⟩|h2
   ·rw[fj]at h2;refine⟨_,?_,h2⟩;simp only[bin,zp,bf,BitVec.toNat_or,AQ (X0 ha),AQ (X0 hb)];exact congrArg some (congrArg (D.i kk) (At (XQ ha hb)))
   ·exact iQ h2
  ·exact iQ h1
 case shl=>
  rcases vD (show onN x _ _=some r from h)with⟨kk,a,rfl,h1⟩|h1
  ·rcases vD h1 with⟨k2,b,rfl,h2⟩|h2
   ·rcases BJ h2 with h3|h3
    ·refine⟨_,?_,h3⟩;simp only[bin];rw[aG fU,PD,<-Kz];rfl
    ·exact iQ h3
   ·exact iQ h2
  ·exact iQ h1
 case shr=>
  rcases vD (show onN x _ _=some r from h)with⟨kk,a,rfl,h1⟩|h1
  ·rcases vD h1 with⟨k2,b,rfl,h2⟩|h2
   ·rw[fj]at h2;refine⟨_,?_,h2⟩;simp only[bin];rw[aG fU,PD,<-Kz];show some (D.i kk (Int.fdiv (a:Int) ((2:Int)^_)))=some (D.i kk ((a/2^_:Nat):Int));rw[Int.fdiv_eq_ediv_of_nonneg _ (by exact_mod_cast aJ _)];simp
   ·exact iQ h2
  ·exact iQ h1
 all_goals exact iQ h
def z3F(ev:X->D)(σ:Sto)(o:O)(d:D)(σ':Sto):Prop:=
 (∃bs,evA σ.nx ev σ.get o=some (d,bs)/\σ'=σ.adds bs)\/(evA σ.nx ev σ.get o=none/\evW ev σ o=some (d,σ'))
def ToO(σ:Sto)(ev:X->D)(o:O)(k:D->LS->Rs)(r:D):Prop:=∃d s' σ',z3F ev σ o d σ'/\LSR s' σ'/\k d s'=some r
section
variable {s:LS} {σ:Sto} {ev:X->D} {o:O} {k:D->LS->Rs} {r d:D}
def toA(h:LSR s σ)(ha:evA s.nx ev s.get o=some (d,[]))(hk:k d s=some r):ToO σ ev o k r:=
 ⟨d,s,σ,.inl ⟨[],by rw[h.nx,h.get];exact ha,rfl⟩,h,hk⟩
def S2(h:LSR s σ){b:Blk}(ha:evA s.nx ev s.get o=some (d,[b]))(hk:k d (s.push b)=some r):ToO σ ev o k r:=
 ⟨d,s.push b,σ.adds [b],.inl ⟨[b],by rw[h.nx,h.get];exact ha,rfl⟩,h.push b,hk⟩
def toW{s':LS}{σ':Sto}(ha:evA σ.nx ev σ.get o=none)(hw:evW ev σ o=some (d,σ'))(h':LSR s' σ')(hk:k d s'=some r):ToO σ ev o k r:=
 ⟨d,s',σ',.inr ⟨ha,hw⟩,h',hk⟩
end
def pS{α:Type}{l:List α}{n:Nat}{d:α}(h:l[n]?=some d):l.drop n=d::l.drop (n+1):=by
 obtain⟨hlt,he⟩:=ak.1 h;rw[cI hlt,he]
def gR{b:Bool}{x:Rs}{r:D}(h:cnd b x none=some r):b=true/\x=some r:=by
 cases b with
 |true=>exact⟨rfl,h⟩
 |false=>cases h
def G8{b:Bool}{t e:Rs}{q:D}(h:cnd b t e=some q):(b=true/\t=some q)\/(b=false/\e=some q):=by
 cases b with
 |true=>exact Or.inl ⟨rfl,h⟩
 |false=>exact Or.inr ⟨rfl,h⟩
def vF{d:D}{t f:Rs}{r:D}(h:onB d t f none=some r):(d=.b true/\t=some r)\/(d=.b false/\f=some r):=by
 cases d with
 |b x=>
  cases x with
  |true=>exact .inl ⟨rfl,h⟩
  |false=>exact .inr ⟨rfl,h⟩
 |_=>cases h
def uZ{d:D}{k:Nat->Nat->Rs}{kf:List D->Rs}{r:D}(h:Kg d k kf none=some r):(∃l off,d=.ptr l off/\k l off=some r)\/(∃cs,d=.fp cs/\kf cs=some r):=by
 cases d with
 |ptr l off=>exact .inl ⟨_,_,rfl,h⟩
 |fp cs=>exact .inr ⟨_,rfl,h⟩
 |_=>cases h
def tL{d:D}{k:Nat->Nat->Nat->Nat->Nat->Bool->Rs}{kt:List D->Nat->Bool->Rs}{r:D}(h:JO d k kt none=some r):
 (∃l off len cm z ex,d=.sl l off len cm z ex/\k l off len cm z ex=some r)\/(∃cs len ex,d=.tree cs len ex/\kt cs len ex=some r):=by
 cases d with
 |sl l off len cm z ex=>exact .inl ⟨_,_,_,_,_,_,rfl,h⟩
 |tree cs len ex=>exact .inr ⟨_,_,_,rfl,h⟩
 |_=>cases h
def BE{d:D}{k:List D->Rs}{r:D}(h:Od d k none=some r):∃cs,d=.agg cs/\k cs=some r:=by
 cases d with
 |agg cs=>exact⟨_,rfl,h⟩
 |_=>cases h
def Mw{d:D}{k:List D->Rs}{r:D}(h:Yt d k none=some r):∃cs,d=.tup cs/\k cs=some r:=by
 cases d with
 |tup cs=>exact⟨_,rfl,h⟩
 |_=>cases h
def yn{s:Stt}{x:Rs}{r:D}(h:cnd (lv s) x none=some r):s.live=true/\x=some r:=by
 rw[nQ]at h;exact gR h
def Oe{s:Stt}{x:Rs}{r:D}(h:cnd (wr s) x none=some r):s.wr=true/\x=some r:=by
 rw[Bj]at h;exact gR h
def Yu{s:Stt}{x:Rs}{r:D}(h:cnd (ow s) x none=some r):s.own=true/\x=some r:=by
 rw[z2H]at h;exact gR h
def DK{d:D}{k:IntKind->Nat->Rs}{r:D}(h:onN d k none=some r):∃kk n,d=.i kk (.ofNat n)/\k kk n=some r:=by
 rcases vD h with h|h
 ·exact h
 ·cases h
def jq{s:LS}{l:Nat}{k:Blk->Rs}{r:D}(h:iq s l k=some r):∃b,s.get l=some b/\k b=some r:=by
 rw[oB]at h;exact oV h
def wC{α:Type}{n:Nat}{l:List α}{k:α->Rs}{r:D}(h:EN n l k=some r):∃d,l.drop n=d::l.drop (n+1)/\k d=some r:=by
 rw[CK]at h;obtain⟨d,h1,h2⟩:=oV h;exact⟨d,pS h1,h2⟩
def qe{n:Nat}{l:List D}{k:List D->Rs}{r:D}(h:jP n l k=some r):cut 0 n l=some (l.take n)/\k (l.take n)=some r:=by
 rw[i7]at h;split at h
 ·rename_i hn;refine⟨?_,h⟩;unfold cut;simp only[a7,aR];rw[aF eP]
 ·cases h
def zg(off n:Nat)(l:List D):cut 0 n (l.drop off)=cut off n l:=rfl
def is1(d:D):Bool:=D.rec (motive_1:=λ_=>Bool) (motive_2:=λ_=>PUnit.{1}) false (λ_ _=>true) (λ_=>true) (λ_=>true) (λ_=>true) true true (λ_ _ _ _=>true) (λ_ _ _ _=>false) (λ_ _ _ _ _ _=>true) (λ_ _=>true) (λ_ _=>true) (λ_ _=>false) (λ_ _=>false) (λ_ _ _=>true) ⟨⟩ (λ_ _ _ _=>⟨⟩) d
def on1(d:D)(t:Rs):Rs:=cnd (is1 d) t none
def T7{d:D}{t:Rs}{r:D}(h:on1 d t=some r):one d=true/\t=some r:=by
 obtain⟨h1,h2⟩:=gR h;refine⟨?_,h2⟩;cases d<;>first|rfl|(cases h1;done)
def sP(l:List D)(t:Rs):Rs:=List.rec (motive:=λ_=>Rs) t (λd _ ih=>on1 d ih) l
def tQ{t:Rs}{r:D}:∀{l:List D},sP l t=some r->l.all one=true/\t=some r
 |[],h=>⟨rfl,h⟩
 |d::l,h=>by
  obtain⟨h1,h2⟩:=T7 (show on1 d (sP l t)=some r from h);obtain⟨h3,h4⟩:=tQ h2;exact⟨by simp[h1,h3],h4⟩
def z1x(v:D):List D:=D.rec (motive_1:=λ_=>List D) (motive_2:=λ_=>PUnit.{1}) [.u] (λk n=>[.i k n]) (λx=>[.b x]) (λl=>[.s l]) (λm=>[.n m]) [.np] [.nf] (λcs len ex _=>[.tree cs len ex]) (λcs len z _=>[.own cs len z])
 (λl off len cm z ex=>[.sl l off len cm z ex]) (λl off=>[.ptr l off]) (λcs _=>[.fp cs]) (λcs _=>cs) (λcs _=>[.tup cs]) (λf cs _=>[.fn f cs]) ⟨⟩ (λ_ _ _ _=>⟨⟩) v
def vcK(v:D)(k:List D->Rs):Rs:=List.rec (motive:=λ_=>Rs) (k []) (λd r _=>k (d::r)) (z1x v)
def zJ(v:D)(k:List D->Rs):vcK v k=k (lA v):=by
 cases v with
 |agg cs=>cases cs<;>rfl
 |_=>rfl
def iB(c a b:D)(s:LS)(k:D->LS->Rs):Rs:=onB c (k a s) (k b s) none
def eR(s:LS)(a:D)(k:D->LS->Rs):Rs:=
 Kg a (λl off=>iq s l λb=>cnd (lv b.st) (EN off b.cs λd=>k d s) none) (λcs=>EN 0 cs λd=>k d s) none
def eW(n:Nat)(s:LS)(a:D)(k:D->LS->Rs):Rs:=
 Kg a (λl off=>iq s l λb=>cnd (lv b.st) (jJ off b.cs λr=>jP n r λr=>k (.agg r) s) none) (λcs=>jP n cs λr=>k (.agg r) s) none
def jm(s:LS)(x:D)(k:D->LS->Rs):Rs:=
 match x with
 |.ptr l o=>iq s l λb=>cnd (lv b.st) (k (.ptr l o) s) none
 |.fp cs=>k (.fp cs) s
 |.fn f cs=>k (.fn f cs) s
 |_=>none
def xC(neg:Bool)(s:LS)(x:D)(k:D->LS->Rs):Rs:=
 JO x (λl _ _ _ _ _=>iq s l λb=>cnd (lv b.st) (k (.b neg) s) none) (λcs _ _=>List.rec (motive:=λ_=>Rs) none (λ_ _ _=>k (.b neg) s) cs) none
def z9(op:BinOp)(x y:D)(s:LS)(k:D->LS->Rs):Rs:=
 match op with
 |.eql=>onB x (onB y (k (.b true) s) (k (.b false) s) none) (onB y (k (.b false) s) (k (.b true) s) none) none
 |.neq=>onB x (onB y (k (.b false) s) (k (.b true) s) none) (onB y (k (.b true) s) (k (.b false) s) none) none
 |_=>none
def YL(neg:Bool)(ks:List Nat)(x y:D):Option D:=
 match x,y with
 |.agg a,.agg b=>if a.length=ks.length&&b.length=ks.length then match eqL ks a b with
  |some r=>some (.b (if neg then !r else r))
  |none=>none
  else none
 |_,_=>none
def RK(neg:Bool)(ks:List Nat)(x y:D)(s:LS)(k:D->LS->Rs):Rs:=sk (YL neg ks x y) λd=>k d s
def GG(x:D)(s:LS)(k:D->LS->Rs):Rs:=onB x (k (.b false) s) (k (.b true) s) none
def FB(kk:IntKind)(x:D):Option D:=
 match x with
 |.i _ n=>some (.i kk (kk.wrap n))
 |_=>none
def kV(kk:IntKind)(x:D)(s:LS)(k:D->LS->Rs):Rs:=
 onN x (λ_ n=>mkI kk n (λd=>k d s) (sk (FB kk x) λd=>k d s)) (sk (FB kk x) λd=>k d s)
def fF(off:Nat)(s:LS)(x:D)(k:D->LS->Rs):Rs:=
 Kg x (λl o=>iq s l λb=>cnd (lv b.st) (frc (Nat.add o off) λo=>k (.ptr l o) s) none) (λcs=>jJ off cs λcs=>k (.fp cs) s) none
def E9(off:Nat)(x:D)(s:LS)(k:D->LS->Rs):Rs:=Od x (λcs=>EN off cs λd=>k d s) none
def PH(off n:Nat)(x:D)(s:LS)(k:D->LS->Rs):Rs:=Od x (λcs=>jJ off cs λr=>jP n r λr=>k (.agg r) s) none
def eT(sz:Nat)(s:LS)(x i:D)(k:D->LS->Rs):Rs:=
 onN i (λ_ n=>JO x (λl off len _ z _=>iq s l λb=>cnd (lv b.st) (cnd (Nat.blt n len) (cnd (Nat.beq z sz) (frc (Nat.add off (Nat.mul n sz)) λo=>k (.ptr l o) s) none) none) none)
  (λcs len _=>cnd (Nat.blt n len) (jJ (Nat.mul n sz) cs λr=>List.rec (motive:=λ_=>Rs) none (λ_ _ _=>k (.fp r) s) r) none) none) none
def gB(x:D)(i:Nat)(s:LS)(k:D->LS->Rs):Rs:=Yt x (λvs=>EN i vs λd=>k d s) none
def fT(x:D)(s:LS)(k:D->LS->Rs):Rs:=JO x (λ_ _ len _ _ _=>k (.i .i64 (.ofNat len)) s) (λ_ len _=>k (.i .i64 (.ofNat len)) s) none
def Mv(x:Option D)(z7V:Nat)(k:Nat->Rs):Rs:=
 match x with
 |none=>k z7V
 |some x=>onN x (λ_ n=>k n) none
def T4{α:Type}:Option α->Bool
 |some _=>true
 |none=>false
def iT(sz:Nat)(s:LS)(x:D)(lo hi mx:Option D)(k:D->LS->Rs):Rs:=
 JO x (λl off len cm z ex=>Mv mx cm λm=>Mv hi len λh=>Mv lo 0 λlw=>iq s l λb=>
  cnd (lv b.st) (cnd (Nat.ble m cm) (cnd (Nat.ble h m) (cnd (Nat.ble lw h) (cnd (Nat.beq z sz)
   (nM (cnd (T4 mx) true ex) λex=>cnd (Nat.blt lw m) (frc (Nat.add off (Nat.mul lw sz)) λoff=>frc (Nat.sub h lw) λlen=>frc (Nat.sub m lw) λcm=>k (.sl l off len cm sz ex) s) (k (.tree [] 0 ex) s))
   none) none) none) none) none)
  (λcs len ex=>Mv mx len λm=>Mv hi len λh=>Mv lo 0 λlw=>
   cnd (Nat.ble m len) (cnd (Nat.ble h m) (cnd (Nat.ble lw h) (cnd (Nat.beq cs.length (Nat.mul len sz))
    (jJ (Nat.mul lw sz) cs λcs=>frc (Nat.sub h lw) λn=>jP (Nat.mul n sz) cs λcs=>
     nM (cnd (T4 mx) (Nat.beq m h) (cnd ex (Nat.beq h len) false)) λex=>k (.tree cs n ex) s)
    none) none) none) none) none
def ff(zero:List D)(s:LS)(k:D->LS->Rs):Rs:=lh s ⟨zero,.rw⟩ λs'=>k (.ptr s.nx 0) s'
def jB(x:D)(s:LS)(k:D->LS->Rs):Rs:=vcK x λcs=>sP cs (lh s ⟨cs,.rw⟩ λs'=>k (.ptr s.nx 0) s')
def Pd:List (Nat×Nat×D)->List D->(List D->Rs)->Rs:=
 List.rec (λcs k=>k cs) (λp _ ih cs k=>vcK p.2.2 λnew=>cnd (Nat.beq new.length p.2.1) (sP new (xU p.1 new cs λcs=>ih cs k)) none)
def gf(zero:List D)(parts:List (Nat×Nat×D))(s:LS)(k:D->LS->Rs):Rs:=Pd parts zero λcs=>k (.agg cs) s
def xt(zero:List D)(n:Nat)(k:List D->Rs):Rs:=Nat.rec (motive:=λ_=>(List D->Rs)->Rs) (λk=>k []) (λ_ ih k=>ih λr=>pk zero r k) n k
def iO(len:Nat)(zero:List D)(parts:List (Nat×Nat×D))(s:LS)(k:D->LS->Rs):Rs:=
 xt zero len λcs=>Pd parts cs λcs=>frc zero.length λz=>lh s ⟨cs,.rw⟩ λs'=>k (.sl s.nx 0 len len z true) s'
def io(sz bytes:Nat)(zero:List D)(s:LS)(l c:D)(k:D->LS->Rs):Rs:=
 on2 l c (λkk l c=>cnd (Nat.beq (wh kk) 3) (cnd (Nat.ble l c) (cnd (Nat.ble c 140737488355328) (cnd (Nat.ble (Nat.mul c bytes) 140737488355328) (cnd (Nat.beq zero.length sz)
  (xt zero c λcs=>lh s ⟨cs,.rw⟩ λs'=>k (.sl s.nx 0 l c sz true) s') none) none) none) none) none) none
def fA(n:Nat)(s:LS)(a x:D)(k:D->LS->Rs):Rs:=
 Kg a (λl off=>iq s l λb=>cnd (wr b.st) (vcK x λnew=>cnd (Nat.beq new.length n) (sP new (xU off new b.cs λcs=>oh s l ⟨cs,.rw⟩ λs=>k .u s)) none) none) (λ_=>none) none
def oI(sz:Nat)(s:LS)(x:D)(k:List D->Nat->Rs):Rs:=
 JO x (λl off len _ z _=>iq s l λb=>cnd (lv b.st) (cnd (Nat.beq z sz) (jJ off b.cs λr=>jP (Nat.mul len sz) r λr=>k r len) none) none)
  (λcs len _=>cnd (Nat.beq cs.length (Nat.mul len sz)) (k cs len) none) none
def mc(sz bytes:Nat)(s:LS)(x y:D)(k:D->LS->Rs):Rs:=
 oI sz s y λnew n=>JO x
  (λl off len cm z ex=>iq s l λb=>cnd (wr b.st) (cnd (Nat.beq z sz) (sP new (frc (Nat.add len n) λtot=>cnd (Nat.ble (Nat.mul tot bytes) 1099511627776) (cnd (Nat.ble tot 1099511627776)
   (cnd (Nat.ble tot cm) (xU (Nat.add off (Nat.mul len sz)) new b.cs λcs=>oh s l ⟨cs,.rw⟩ λs=>k (.sl l off tot cm sz ex) s)
    (jJ off b.cs λr=>jP (Nat.mul len sz) r λold=>pk old new λcs=>
     cnd ex (lh s ⟨cs,.rw⟩ λs'=>k (.sl s.nx 0 tot tot sz false) s') (oh s l ⟨[],.gone⟩ λs'=>lh s' ⟨cs,.rw⟩ λs'=>k (.sl s.nx 0 tot tot sz false) s')))
   none) none)) none) none)
  (λcs len ex=>cnd (Nat.beq n 0) (k (.tree cs len ex) s) (cnd ex (cnd (Nat.beq cs.length (Nat.mul len sz)) (frc (Nat.add len n) λtot=>cnd (Nat.ble (Nat.mul tot bytes) 1099511627776) (cnd (Nat.ble tot 1099511627776)
   (pk cs new λcs=>lh s ⟨cs,.rw⟩ λs'=>k (.sl s.nx 0 tot tot sz false) s') none) none) none) none)) none
def US(sz bytes:Nat)(s0:LS)(x y:D)(k:D->LS->Rs):Rs:=
 match x with
 |.sl l off len cm z false=>oI sz s0 y λnew n=>iq s0 l λb=>cnd (ow b.st) (cnd (Nat.beq z sz) (sP new (frc (Nat.add len n) λtot=>cnd (Nat.ble (Nat.mul tot bytes) 1099511627776) (cnd (Nat.ble tot 1099511627776)
  (cnd (Nat.beq (Nat.add off (Nat.mul len sz)) b.cs.length) (jJ off b.cs λr=>jP (Nat.mul len sz) r λold=>pk old new λcs=>
   oh s0 l ⟨b.cs,.frz⟩ λs'=>lh s' ⟨cs,.apd⟩ λs'=>k (.sl s0.nx 0 tot tot sz false) s') none) none) none)) none) none
 |x=>mc sz bytes s0 x y λd s=>match d with
  |.sl l off len cm z ex=>cnd (Nat.beq l s0.nx) (iq s l λb=>cnd (ow b.st) (oh s l ⟨b.cs,.apd⟩ λs=>k (.sl l off len cm z ex) s) none) (k (.sl l off len cm z ex) s)
  |d=>k d s
def IH(sz:Nat)(s:LS)(x y:D)(k:D->LS->Rs):Rs:=
 oI sz s y λsrc n=>match x with
  |.sl l off len _ z _=>iq s l λb=>cnd (wr b.st) (cnd (Nat.beq z sz) (sP src (frc (cnd (Nat.ble n len) n len) λm=>jP (Nat.mul m sz) src λsrc=>xU off src b.cs λcs=>oh s l ⟨cs,.rw⟩ λs=>k (.i .i64 (.ofNat m)) s)) none) none
  |_=>none
def z0P(sz:Nat)(zero:List D)(s:LS)(x:D)(k:D->LS->Rs):Rs:=
 match x with
 |.sl l off len _ z _=>iq s l λb=>cnd (wr b.st) (cnd (Nat.beq zero.length sz) (cnd (Nat.beq z sz) (sP zero (xt zero len λnew=>xU off new b.cs λcs=>oh s l ⟨cs,.rw⟩ λs=>k .u s)) none) none) none
 |.tree _ 0 _=>k .u s
 |_=>none
def z4G(kk:IntKind)(t:Rs):Rs:=cnd (Nat.beq (wh kk) 7) t none
def EM(x:D)(k:Nat->Rs):Rs:=onN x (λkk n=>z4G kk (k n)) none
def oi(x y c:D)(s:LS)(k:D->LS->Rs):Rs:=
 EM x λa=>EM y λb=>EM c λz=>cnd (Nat.ble z 1) (frc (Nat.mod (Nat.add (Nat.add a b) z) 18446744073709551616) λlo=>frc (Nat.div (Nat.add (Nat.add a b) z) 18446744073709551616) λhi=>k (.tup [.i .u64 (.ofNat lo),.i .u64 (.ofNat hi)]) s) none
def u7(x y c:D)(s:LS)(k:D->LS->Rs):Rs:=
 EM x λa=>EM y λb=>EM c λz=>cnd (Nat.ble z 1) (frc (Nat.mod (Nat.sub (Nat.sub (Nat.add a 18446744073709551616) b) z) 18446744073709551616) λlo=>cnd (Nat.blt a (Nat.add b z)) (k (.tup [.i .u64 (.ofNat lo),.i .u64 (.ofNat 1)]) s) (k (.tup [.i .u64 (.ofNat lo),.i .u64 (.ofNat 0)]) s)) none
def cv:X->D
 |.c d=>d
 |.t _=>.u
def sA(r:Option (D×List Blk))(s:LS)(k:D->LS->Rs):Rs:=
 match r with
 |some (d,bs)=>match bs with
  |[]=>wR d λd=>k d s
  |[b]=>EQ b.cs λcs=>lh s ⟨cs,b.st⟩ λs=>wR d λd=>k d s
  |_=>none
 |none=>none
def kS(o:O)(s:LS)(k:D->LS->Rs):Rs:=sA (evA s.nx cv s.get o) s k
section
variable {s:LS} {σ:Sto} {ev:X->D} {k:D->LS->Rs} {r:D}
def GA(h:LSR s σ){o o':O}(he:evA s.nx cv s.get o'=evA s.nx ev s.get o)(hr:kS o' s k=some r):ToO σ ev o k r:=by
 unfold kS sA at hr;rw[he]at hr;split at hr
 ·rename_i d bs hd;split at hr
  ·rw[mq]at hr;exact toA h hd hr
  ·rename_i b;rw[P0,lH,mq]at hr;exact S2 h hd hr
  ·cases hr
 ·cases hr
def rg{x:D}{k:Nat->Rs}(h:EM x k=some r):∃n,x=.i .u64 (.ofNat n)/\k n=some r:=by
 obtain⟨kk,n,h1,h2⟩:=DK h;obtain⟨h3,h4⟩:=gR h2;have hk:kk=.u64:=xV (b:=.u64) h3;rw[hk]at h1;exact⟨n,h1,h4⟩
def RQ(h:LSR s σ){x y c:X}(hr:oi (ev x) (ev y) (ev c) s k=some r):ToO σ ev (.add64 x y c) k r:=by
 obtain⟨a,h1,q1⟩:=rg hr;obtain⟨b,h2,q2⟩:=rg q1;obtain⟨z,h3,q3⟩:=rg q2;obtain⟨h4,q4⟩:=gR q3;simp only[fj]at q4;have h4:=aV h4;refine toA h ?_ q4;simp only[evA,h1,h2,h3];rw[aF (by simpa using h4)];rfl
def Qx(h:LSR s σ){x y c:X}(hr:u7 (ev x) (ev y) (ev c) s k=some r):ToO σ ev (.sub64 x y c) k r:=by
 obtain⟨a,h1,q1⟩:=rg hr;obtain⟨b,h2,q2⟩:=rg q1;obtain⟨z,h3,q3⟩:=rg q2;obtain⟨h4,q4⟩:=gR q3;simp only[fj]at q4;have h4:=aV h4;by_cases hlt:a<b+z
 ·rw[show Nat.blt a (Nat.add b z)=true from fk hlt]at q4;refine toA h ?_ q4;simp only[evA,h1,h2,h3];rw[aF (by simpa using h4)];rw[aF (by simpa using hlt)];rfl
 ·rw[show Nat.blt a (Nat.add b z)=false from fw hlt]at q4;refine toA h ?_ q4;simp only[evA,h1,h2,h3];rw[aF (by simpa using h4)];rw[aG (by simpa using hlt)];rfl
def UG(h:LSR s σ){c a b:X}(hr:iB (ev c) (ev a) (ev b) s k=some r):ToO σ ev (.pick c a b) k r:=by
 rcases vF hr with⟨h1,h2⟩|⟨h1,h2⟩
 ·exact toA h (by simp only[evA,h1]) h2
 ·exact toA h (by simp only[evA,h1]) h2
def RF(h:LSR s σ){a:X}(hr:eR s (ev a) k=some r):ToO σ ev (.load1 a) k r:=by
 rcases uZ hr with⟨l,off,h1,h2⟩|⟨cs,h1,h2⟩
 ·obtain⟨b,hb,h3⟩:=jq h2;obtain⟨h4,h5⟩:=yn h3;obtain⟨d,h6,h7⟩:=wC h5;exact toA h (by simp only[evA,h1,at_,hb,h4,cw,bm,cP,h6]) h7
 ·obtain⟨d,h6,h7⟩:=wC h2;rw[a7]at h6;exact toA h (by simp only[evA,h1,at_];rw[h6]) h7
def RD(h:LSR s σ){n:Nat}{a:X}(hr:eW n s (ev a) k=some r):ToO σ ev (.loadn n a) k r:=by
 rcases uZ hr with⟨l,off,h1,h2⟩|⟨cs,h1,h2⟩
 ·obtain⟨b,hb,h3⟩:=jq h2;obtain⟨h4,h5⟩:=yn h3;rw[gZ]at h5;obtain⟨h6,h7⟩:=qe h5;exact toA h (by simp only[evA,h1,at_,hb,h4,cw,bm,cP,h6]) h7
 ·obtain⟨h6,h7⟩:=qe h2;exact toA h (by simp only[evA,h1,at_,h6]) h7
def UI(h:LSR s σ){x:X}(hr:jm s (ev x) k=some r):ToO σ ev (.nilc x) k r:=by
 unfold jm at hr;split at hr
 ·rename_i l o hx;obtain⟨b,hb,h3⟩:=jq hr;obtain⟨h4,h5⟩:=yn h3;exact toA h (by simp only[evA,hx,hb,h4,bf]) h5
 ·rename_i cs hx;exact toA h (by simp only[evA,hx]) hr
 ·rename_i f cs hx;exact toA h (by simp only[evA,hx]) hr
 ·cases hr
def RG(h:LSR s σ){neg:Bool}{x:X}(hr:xC neg s (ev x) k=some r):ToO σ ev (.isnil neg x) k r:=by
 rcases tL hr with⟨l,off,len,cm,z,ex,h1,h2⟩|⟨cs,len,ex,h1,h2⟩
 ·obtain⟨b,hb,h3⟩:=jq h2;obtain⟨h4,h5⟩:=yn h3;exact toA h (by simp only[evA,h1,hb,h4,bf]) h5
 ·cases cs with
  |nil=>cases h2
  |cons d ds=>exact toA h (by simp only[evA,h1]) h2
def UP(h:LSR s σ){op:BinOp}{x y:X}(hr:z9 op (ev x) (ev y) s k=some r):ToO σ ev (.binb op x y) k r:=by
 unfold z9 at hr;split at hr
 ·rcases vF hr with⟨h1,h2⟩|⟨h1,h2⟩<;>rcases vF h2 with⟨h3,h4⟩|⟨h3,h4⟩<;>exact toA h (by simp only[evA,h1,h3];rfl) h4
 ·rcases vF hr with⟨h1,h2⟩|⟨h1,h2⟩<;>rcases vF h2 with⟨h3,h4⟩|⟨h3,h4⟩<;>exact toA h (by simp only[evA,h1,h3];rfl) h4
 ·cases hr
def Xc(h:LSR s σ){neg:Bool}{ks:List Nat}{x y:X}(hr:RK neg ks (ev x) (ev y) s k=some r):ToO σ ev (.eqs neg ks x y) k r:=by
 unfold RK at hr;rw[gc]at hr;obtain⟨d,hd,h2⟩:=oV hr;refine toA h ?_ h2;simp only[YL]at hd;simp only[evA];split at hd
 ·rename_i a b ha hb;simp only[ha,hb];split at hd
  ·rename_i hl;rw[aF hl];split at hd
   ·rename_i q hq;rw[hq];cases hd;rfl
   ·cases hd
  ·cases hd
 ·cases hd
def X7(h:LSR s σ){x:X}(hr:GG (ev x) s k=some r):ToO σ ev (.not x) k r:=by
 rcases vF hr with⟨h1,h2⟩|⟨h1,h2⟩
 ·exact toA h (by simp only[evA,h1];rfl) h2
 ·exact toA h (by simp only[evA,h1];rfl) h2
def Qw(h:LSR s σ){kk:IntKind}{x:X}(hr:kV kk (ev x) s k=some r):ToO σ ev (.toInt kk x) k r:=by
 have zbK:sk (FB kk (ev x)) (λd=>k d s)=some r->ToO σ ev (.toInt kk x) k r:=by
  intro h1;rw[gc]at h1;obtain⟨d,hd,h2⟩:=oV h1;unfold FB at hd;split at hd
  ·rename_i hx;cases hd;exact toA h (by simp only[evA,hx]) h2
  ·cases hd
 rcases vD hr with⟨k1,n,h1,h2⟩|h1
 ·rcases BJ h2 with h3|h3
  ·exact toA h (by simp only[evA,h1]) h3
  ·exact zbK h3
 ·exact zbK h1
def RJ(h:LSR s σ){off:Nat}{x:X}(hr:fF off s (ev x) k=some r):ToO σ ev (.faddr off x) k r:=by
 rcases uZ hr with⟨l,o,h1,h2⟩|⟨cs,h1,h2⟩
 ·obtain⟨b,hb,h3⟩:=jq h2;obtain⟨h4,h5⟩:=yn h3;rw[fj]at h5;exact toA h (by simp only[evA,h1,hb,h4,bf];rfl) h5
 ·rw[gZ]at h2;exact toA h (by simp only[evA,h1]) h2
def NR(h:LSR s σ){off:Nat}{x:X}(hr:E9 off (ev x) s k=some r):ToO σ ev (.field1 off x) k r:=by
 obtain⟨cs,h1,h2⟩:=BE hr;obtain⟨d,h6,h7⟩:=wC h2;exact toA h (by simp only[evA,h1,h6]) h7
def NQ(h:LSR s σ){off n:Nat}{x:X}(hr:PH off n (ev x) s k=some r):ToO σ ev (.fieldn off n x) k r:=by
 obtain⟨cs,h1,h2⟩:=BE hr;rw[gZ]at h2;obtain⟨h6,h7⟩:=qe h2;rw[zg]at h6;exact toA h (by simp only[evA,h1,h6]) h7
def RH(h:LSR s σ){sz:Nat}{x i:X}(hr:eT sz s (ev x) (ev i) k=some r):ToO σ ev (.iaddr sz x i) k r:=by
 obtain⟨kk,n,h0,hr⟩:=DK hr;rcases tL hr with⟨l,off,len,cm,z,ex,h1,h2⟩|⟨cs,len,ex,h1,h2⟩
 ·obtain⟨b,hb,h3⟩:=jq h2;obtain⟨h4,h5⟩:=yn h3;obtain⟨h6,h7⟩:=gR h5;obtain⟨h8,h9⟩:=gR h7;rw[fj]at h9;have h6:n<len:=by simpa[zmm]using h6
  have h8:z=sz:=aT h8;refine toA h ?_ h9;simp only[evA,h0,h1,hb];rw[aF (by simp[h4,h6,h8])];rfl
 ·obtain⟨h6,h7⟩:=gR h2;have h6:n<len:=by simpa[zmm]using h6
  rw[gZ]at h7;cases hd:cs.drop (Nat.mul n sz)with
  |nil=>rw[hd]at h7;cases h7
  |cons d ds=>
   rw[hd]at h7;refine toA h ?_ h7;simp only[evA,h0,h1];rw[aF (by simp[h6])];have:(Int.ofNat n).toNat*sz=Nat.mul n sz:=rfl;rw[this,hd]
def Xb(h:LSR s σ){x:X}{i:Nat}(hr:gB (ev x) i s k=some r):ToO σ ev (.ext x i) k r:=by
 obtain⟨vs,hx,h2⟩:=Mw hr;obtain⟨d,h6,h7⟩:=wC h2;exact toA h (by simp only[evA,hx,h6]) h7
def X9(h:LSR s σ){x:X}(hr:fT (ev x) s k=some r):ToO σ ev (.len x) k r:=by
 rcases tL hr with⟨l,off,len,cm,z,ex,h1,h2⟩|⟨cs,len,ex,h1,h2⟩
 ·exact toA h (by simp only[evA,h1,lenOf];rfl) h2
 ·exact toA h (by simp only[evA,h1,lenOf];rfl) h2
def wB{x:Option X}{z7V:Nat}{k:Nat->Rs}(hr:Mv (x.map ev) z7V k=some r):∃n,vU ev x z7V=some n/\k n=some r:=by
 cases x with
 |none=>exact⟨z7V,rfl,hr⟩
 |some x=>
  obtain⟨kk,n,h1,h2⟩:=DK (show onN (ev x) (λ_ n=>k n) none=some r from hr);refine⟨n,?_,h2⟩;simp only[vU,h1];rw[aF fU];rfl
def Hs(x:Option X):T4 (x.map ev)=x.isSome:=by cases x<;>rfl
def RA(h:LSR s σ){sz:Nat}{x:X}{lo hi mx:Option X}(hr:iT sz s (ev x) (lo.map ev) (hi.map ev) (mx.map ev) k=some r):ToO σ ev (.slice sz x lo hi mx) k r:=by
 rcases tL hr with⟨l,off,len,cm,z,ex,h1,h2⟩|⟨cs,len,ex,h1,h2⟩
 ·obtain⟨m,hm,h2⟩:=wB h2;obtain⟨hh,hhi,h2⟩:=wB h2;obtain⟨lw,hlo,h2⟩:=wB h2;obtain⟨b,hb,h2⟩:=jq h2;obtain⟨c1,h2⟩:=yn h2;obtain⟨c2,h2⟩:=gR h2;obtain⟨c3,h2⟩:=gR h2;obtain⟨c4,h2⟩:=gR h2;obtain⟨c5,h2⟩:=gR h2;have c2:=aV c2;have c3:=aV c3;have c4:=aV c4;have c5:=aT c5;rw[iz,Hs]at h2;have hex:(cnd mx.isSome true ex)=(mx.isSome||ex):=by cases mx.isSome<;>rfl
  rw[hex]at h2;simp only[fj]at h2;by_cases hlt:lw<m
  ·rw[fk hlt,fH]at h2;refine toA h ?_ h2;simp only[evA,h1,hm,hhi,hlo,hb];rw[aF (by simp[c1,c2,c3,c4,c5]),aF hlt];rfl
  ·rw[fw hlt,fq]at h2;refine toA h ?_ h2;simp only[evA,h1,hm,hhi,hlo,hb];rw[aF (by simp[c1,c2,c3,c4,c5]),aG hlt]
 ·obtain⟨m,hm,h2⟩:=wB h2;obtain⟨hh,hhi,h2⟩:=wB h2;obtain⟨lw,hlo,h2⟩:=wB h2;obtain⟨c2,h2⟩:=gR h2;obtain⟨c3,h2⟩:=gR h2;obtain⟨c4,h2⟩:=gR h2;obtain⟨c5,h2⟩:=gR h2;have c2:=aV c2;have c3:=aV c3;have c4:=aV c4;have c5:=aT c5;rw[gZ,fj]at h2;rw[i7]at h2;split at h2
  ·rw[iz,Hs]at h2;refine toA h ?_ h2;simp only[evA,h1,hm,hhi,hlo];rw[aF (by simp only[c2,c3,c4,decide_true,dM,Bool.true_and,decide_eq_true_eq];exact c5)];simp only[aA,aI,and_true,D.tree.injEq];refine⟨rfl,rfl,?_⟩;have e1:(m==hh)=Nat.beq m hh:=by rw[dw,beq_iff_eq,Nat.beq_eq]
   have e2:(hh==len)=Nat.beq hh len:=by rw[dw,beq_iff_eq,Nat.beq_eq]
   rw[e1,e2];cases mx.isSome<;>cases ex<;>cases Nat.beq m hh<;>cases Nat.beq hh len<;>rfl
  ·cases h2
def RP(h:LSR s σ){zero:List D}(hr:ff zero s k=some r):ToO σ ev (.alloc zero) k r:=by
 unfold ff at hr;rw[lH]at hr;exact S2 h (by simp only[evA]) hr
def Xf(h:LSR s σ){x:X}(hr:jB (ev x) s k=some r):ToO σ ev (.box x) k r:=by
 unfold jB at hr;rw[zJ]at hr;obtain⟨h1,h2⟩:=tQ hr;rw[lH]at h2;exact S2 h (by simp only[evA,h1,bf]) h2
def BT{kk:List D->Rs}:∀{parts:List (Nat×Nat×X)}{cs:List D},Pd (parts.map λp=>(p.1,p.2.1,ev p.2.2)) cs kk=some r->∃cs',fill ev parts cs=some cs'/\kk cs'=some r
 |[],cs,hr=>⟨cs,rfl,hr⟩
 |(off,sz,x)::ps,cs,hr=>by
  have hr:(vcK (ev x) λnew=>cnd (Nat.beq new.length sz) (sP new (xU off new cs λcs=>Pd (ps.map λp=>(p.1,p.2.1,ev p.2.2)) cs kk)) none)=some r:=hr;rw[zJ]at hr;obtain⟨h1,h2⟩:=gR hr;obtain⟨h3,h4⟩:=tQ h2;rw[qE,vo]at h4;obtain⟨cs1,h5,h6⟩:=oV h4;obtain⟨cs',h7,h8⟩:=BT h6;refine⟨cs',?_,h8⟩;have h1:=aT h1;simp only[fill];rw[aF (by simp only[h1,h3,decide_true,dM]),h5];exact h7
def RN(h:LSR s σ){zero:List D}{parts:List (Nat×Nat×X)}(hr:gf zero (parts.map λp=>(p.1,p.2.1,ev p.2.2)) s k=some r):ToO σ ev (.build zero parts) k r:=by
 obtain⟨cs,h1,h2⟩:=BT hr;exact toA h (by simp only[evA,h1]) h2
def tK(zero:List D):∀(n:Nat)(k:List D->Rs),xt zero n k=k (mf n zero)
 |0,k=>rfl
 |n+1,k=>by
  show xt zero n (λr=>pk zero r k)=_;rw[tK zero n,jt];rfl
def Xe(h:LSR s σ){len:Nat}{zero:List D}{parts:List (Nat×Nat×X)}(hr:iO len zero (parts.map λp=>(p.1,p.2.1,ev p.2.2)) s k=some r):ToO σ ev (.bsl len zero parts) k r:=by
 unfold iO at hr;rw[tK]at hr;obtain⟨cs,h1,h2⟩:=BT hr;rw[fj,lH]at h2;exact S2 h (by simp only[evA,h1]) h2
def Qf{x y:D}{k:IntKind->Nat->Nat->Rs}(h:on2 x y k none=some r):∃kk a b,x=.i kk (.ofNat a)/\y=.i kk (.ofNat b)/\k kk a b=some r:=by
 rcases oU h with h|h
 ·exact h
 ·cases h
def UJ(h:LSR s σ){sz bytes:Nat}{zero:List D}{l c:X}(hr:io sz bytes zero s (ev l) (ev c) k=some r):ToO σ ev (.mksl sz bytes zero l c) k r:=by
 obtain⟨kk,a,b,h1,h2,q0⟩:=Qf hr;obtain⟨c0,q1⟩:=gR q0;obtain⟨c1,q2⟩:=gR q1;obtain⟨c2,q3⟩:=gR q2;obtain⟨c3,q4⟩:=gR q3;obtain⟨c4,q5⟩:=gR q4;have hk:kk=.i64:=xV (b:=.i64) c0;rw[hk]at h1 h2;have c1:=aV c1;have c2:=aV c2;have c3:b*bytes<=140737488355328:=aV c3;have c4:=aT c4;rw[tK,lH]at q5;refine S2 h ?_ q5;simp only[evA,h1,h2];rw[aF]
 ·rfl
 ·have e1:(Int.ofNat a)=(a:Int):=rfl;have e2:(Int.ofNat b)=(b:Int):=rfl;rw[e1,e2];have c3':(b:Int)*(bytes:Int)<=140737488355328:=by
   have:=Int.ofNat_le.2 c3;rw[bZ]at this;exact this
  simp only[aW,decide_eq_true_eq];omega
def Qy(h:LSR s σ){n:Nat}{a x:X}(hr:fA n s (ev a) (ev x) k=some r):ToO σ ev (.store n a x) k r:=by
 rcases uZ hr with⟨l,off,h1,h2⟩|⟨cs,h1,h2⟩
 ·obtain⟨b,hb,h3⟩:=jq h2;obtain⟨h4,h5⟩:=Oe h3;rw[zJ]at h5;obtain⟨h6,h7⟩:=gR h5;obtain⟨h8,h9⟩:=tQ h7;rw[qE,vo]at h9;obtain⟨cs,h10,h11⟩:=oV h9;rw[wj h hb]at h11;have h6:=aT h6;refine toW rfl ?_ (h.put hb _) h11;simp only[evW,h1,h.get,hb];rw[aF (by simp only[h4,h6,h8,decide_true,dM]),h10]
 ·cases h2
def zi{sz:Nat}{x:D}{kk:List D->Nat->Rs}(hr:oI sz s x kk=some r):∃cs n,kw s.get sz x=some cs/\lenOf x=some n/\kk cs n=some r:=by
 rcases tL hr with⟨l,off,len,cm,z,ex,rfl,h2⟩|⟨cs,len,ex,rfl,h2⟩
 ·obtain⟨b,hb,h3⟩:=jq h2;obtain⟨h4,h5⟩:=yn h3;obtain⟨h6,h7⟩:=gR h5;rw[gZ]at h7;obtain⟨h8,h9⟩:=qe h7;rw[zg]at h8;have h6:=aT h6;refine⟨_,len,?_,rfl,h9⟩;simp only[kw,hb,h4,cw,bm,cP,h6,bf];exact h8
 ·obtain⟨h6,h7⟩:=gR h2;have h6:cs.length=len*sz:=aT h6;refine⟨cs,len,?_,rfl,h7⟩;simp only[kw];rw[aF h6]
def PJ(h:LSR s σ){sz bytes:Nat}{x y:X}(hr:mc sz bytes s (ev x) (ev y) k=some r):ToO σ ev (.app sz bytes x y) k r:=by
 obtain⟨new,n,hc,hl,hr⟩:=zi hr;rcases tL hr with⟨l,off,len,cm,z,ex,h1,h2⟩|⟨cs,len,ex,h1,h2⟩
 ·obtain⟨b,hb,h2⟩:=jq h2;obtain⟨c1,h2⟩:=Oe h2;obtain⟨c2,h2⟩:=gR h2;obtain⟨c3,h2⟩:=tQ h2;rw[fj]at h2;obtain⟨c4,h2⟩:=gR h2;obtain⟨c5,h2⟩:=gR h2;have c2:=aT c2;have c4:(len+n)*bytes<=1099511627776:=aV c4;have c5:len+n<=1099511627776:=aV c5;have cc:(b.st.wr&&decide (z=sz)&&new.all one&&decide ((len+n)*bytes<=1099511627776)&&decide (len+n<=1099511627776))=true:=by simp only[c1,c2,c3,c4,c5,decide_true,dM]
  by_cases hcm:len+n<=cm
  ·have:Nat.ble (Nat.add len n) cm=true:=aD hcm;rw[this,fH,qE,vo]at h2;obtain⟨cs,h3,h4⟩:=oV h2;rw[wj h hb]at h4;refine toW rfl ?_ (h.put hb _) h4;simp only[evW,uU,h.get,hc,hl,h1,hb];rw[aF cc,aF hcm];have h3:lay (off+len*sz) new b.cs=some cs:=h3;rw[h3];rfl
  ·have:Nat.ble (Nat.add len n) cm=false:=il hcm;rw[this,fq,gZ]at h2;obtain⟨h3,h4⟩:=qe h2;rw[zg]at h3;have h3:cut off (len*sz) b.cs=some _:=h3;rw[jt]at h4;cases ex with
   |true=>
    simp only[fH,lH]at h4;refine toW rfl ?_ (h.push _) h4;simp only[evW,uU,h.get,hc,hl,h1,hb];rw[aF cc,aG hcm,h3,h.nx];rfl
   |false=>
    simp only[fq]at h4;rw[wj h hb,lH]at h4;refine toW rfl ?_ ((h.put hb ⟨[],.gone⟩).push _) h4;simp only[evW,uU,h.get,hc,hl,h1,hb];rw[aF cc,aG hcm,h3,h.nx];rfl
 ·cases hn:Nat.beq n 0 with
  |true=>
   have hn:=aT hn;subst hn;have h2:k (.tree cs len ex) s=some r:=h2;refine toW (s':=s) (σ':=σ) rfl ?_ h h2;simp only[evW,uU,h.get,hc,hl,h1,bf]
  |false=>
   rw[hn,fq]at h2;obtain⟨c1,h2⟩:=gR h2;obtain⟨c2,h2⟩:=gR h2;rw[fj]at h2;obtain⟨c4,h2⟩:=gR h2;obtain⟨c5,h2⟩:=gR h2;have c2:cs.length=len*sz:=aT c2;have c4:(len+n)*bytes<=1099511627776:=aV c4;have c5:len+n<=1099511627776:=aV c5;have hn0:n≠0:=by intro e;subst e;simp at hn
   rw[jt,lH]at h2;refine toW rfl ?_ (h.push _) h2;simp only[evW,uU,h.get,hc,hl,h1];rw[aG hn0,aF (by simp only[c1,c2,c4,c5,decide_true,dM]),h.nx];rfl
def Js{sz bytes:Nat}{x y:X}(hne:∀(l off len cm z:Nat),ev x=.sl l off len cm z false->False):evW ev σ (.appk sz bytes x y)=match uU ev σ sz bytes x y with
 |some (.sl l off len cm z ex,σ')=>if Nat.beq l σ.nx then match σ'.get l with
  |some b=>if b.st.own then some (.sl l off len cm z ex,σ'.put l ⟨b.cs,.apd⟩)else none
  |none=>none
  else some (.sl l off len cm z ex,σ')
 |r=>r:=by
 simp only[evW];cases hx:ev x with
 |sl l off len cm z ex=>cases ex with
  |false=>exact(hne _ _ _ _ _ hx).elim
  |true=>rfl
 |_=>rfl
def UR(h:LSR s σ){sz bytes:Nat}{x y:X}(hr:US sz bytes s (ev x) (ev y) k=some r):ToO σ ev (.appk sz bytes x y) k r:=by
 unfold US at hr;split at hr
 ·rename_i l off len cm z h1;obtain⟨new,n,hc,hl,h2⟩:=zi hr;obtain⟨b,hb,h2⟩:=jq h2;obtain⟨c1,h2⟩:=Yu h2;obtain⟨c2,h2⟩:=gR h2;obtain⟨c3,h2⟩:=tQ h2;rw[fj]at h2;obtain⟨c4,h2⟩:=gR h2;obtain⟨c5,h2⟩:=gR h2;obtain⟨c6,h2⟩:=gR h2;have c2:=aT c2;have c4:(len+n)*bytes<=1099511627776:=aV c4;have c5:len+n<=1099511627776:=aV c5;have c6:off+len*sz=b.cs.length:=aT c6;rw[gZ]at h2;obtain⟨h3,h4⟩:=qe h2;rw[zg]at h3;have h3:cut off (len*sz) b.cs=some _:=h3;rw[jt,wj h hb,lH]at h4;refine toW rfl ?_ ((h.put hb ⟨b.cs,.frz⟩).push _) h4;simp only[evW,h.get,hc,hl,h1,hb];rw[aF (by simp only[c1,c2,c3,c4,c5,c6,decide_true,dM]),h3,h.nx];rfl
 ·rename_i hne;obtain⟨d,s',σ',h1,h2,h3⟩:=PJ h hr;rcases h1 with⟨bs,h1,_⟩|⟨_,h1⟩
  ·cases h1
  ·simp only[evW]at h1;simp only at h3;split at h3
   ·rename_i l off len cm z ex;rcases G8 h3 with⟨hq,h3⟩|⟨hq,h3⟩
    ·obtain⟨b,hb,h3⟩:=jq h3;obtain⟨c1,h3⟩:=Yu h3;rw[wj h2 hb]at h3;refine toW rfl ?_ (h2.put hb ⟨b.cs,.apd⟩) h3;have hb':σ'.get l=some b:=by rw[h2.get];exact hb
     rw[Js hne,h1];simp only[h.nx,hq,hb',c1,bf]
    ·refine toW rfl ?_ h2 h3;rw[Js hne,h1];simp only[h.nx,hq,bm,cP]
   ·rename_i hd;refine toW rfl ?_ h2 h3;rw[Js hne,h1];split
    ·rename_i l off len cm z ex σ2 he;simp only[aA,aI]at he;exact absurd he.1 (hd l off len cm z ex)
    ·rfl
def UO(h:LSR s σ){sz:Nat}{x y:X}(hr:IH sz s (ev x) (ev y) k=some r):ToO σ ev (.copy sz x y) k r:=by
 obtain⟨src,n,hc,hl,hr⟩:=zi hr;split at hr
 ·rename_i l off len cm z ex hx;obtain⟨b,hb,h2⟩:=jq hr;obtain⟨c1,h2⟩:=Oe h2;obtain⟨c2,h2⟩:=gR h2;obtain⟨c3,h2⟩:=tQ h2;have c2:=aT c2;have hm:(cnd (Nat.ble n len) n len)=Nat.min n len:=by
   by_cases hle:n<=len
   ·rw[aD hle];show n=min n len;omega
   ·rw[il hle];show len=min n len;omega
  rw[fj,hm]at h2;obtain⟨h3,h4⟩:=qe h2;rw[qE,vo]at h4;obtain⟨cs,h5,h6⟩:=oV h4;rw[wj h hb]at h6;refine toW rfl ?_ (h.put hb _) h6;simp only[evW,hx,hl,h.get,hb,hc];rw[aF (by simp only[c1,c2,c3,decide_true,dM])];have h5:lay off (src.take (Nat.min n len*sz)) b.cs=some cs:=h5;rw[h5];rfl
 ·cases hr
def Xd(h:LSR s σ){sz:Nat}{zero:List D}{x:X}(hr:z0P sz zero s (ev x) k=some r):ToO σ ev (.clr sz zero x) k r:=by
 unfold z0P at hr;split at hr
 ·rename_i l off len cm z ex hx;obtain⟨b,hb,h2⟩:=jq hr;obtain⟨c1,h2⟩:=Oe h2;obtain⟨c2,h2⟩:=gR h2;obtain⟨c3,h2⟩:=gR h2;obtain⟨c4,h2⟩:=tQ h2;have c2:=aT c2;have c3:=aT c3;rw[tK,qE,vo]at h2;obtain⟨cs,h5,h6⟩:=oV h2;rw[wj h hb]at h6;refine toW rfl ?_ (h.put hb _) h6;simp only[evW,hx,h.get,hb];rw[aF (by simp only[c1,c2,c3,c4,decide_true,dM]),h5]
 ·rename_i cs ex hx;refine toW (s':=s) (σ':=σ) rfl ?_ h hr;simp only[evW,hx]
 ·cases hr
end
inductive FT where
 |iso (M:List D->Option D)
 |mem (M2:List D->LS->(D->LS->Rs)->Rs)
abbrev qP:=Nat->Option FT
def ma(f:D->(D->List Nat->Rs)->Rs)(l:List D)(kk:List D->List Nat->Rs):Rs:=
 List.rec (motive:=λ_=>(List D->List Nat->Rs)->Rs) (λkk=>kk [] []) (λx _ ih kk=>f x λy a=>ih λys b=>pk a b λab=>kk (y::ys) ab) l kk
inductive CR|bad|leaf|sl (l off len cm z:Nat) (ex:Bool)|ptr (l off:Nat)|agg (cs:List D)|tup (cs:List D)|fn (f:Nat) (cs:List D)
def asR(d:D):CR:=D.rec (motive_1:=λ_=>CR) (motive_2:=λ_=>PUnit.{1}) .bad (λ_ _=>.leaf) (λ_=>.leaf) (λ_=>.leaf) (λ_=>.leaf) .leaf .leaf (λ_ _ _ _=>.leaf) (λ_ _ _ _=>.bad) (λl off len cm z ex=>.sl l off len cm z ex) (λl off=>.ptr l off) (λ_ _=>.leaf) (λcs _=>.agg cs) (λcs _=>.tup cs) (λf cs _=>.fn f cs) ⟨⟩ (λ_ _ _ _=>⟨⟩) d
def z2p(s:LS)(ih:D->(D->List Nat->Rs)->Rs)(d:D)(kk:D->List Nat->Rs):Rs:=
 CR.rec (motive:=λ_=>Rs) none (kk d [])
  (λl off len cm z ex=>iq s l λb=>cnd (lv b.st) (jJ off b.cs λr=>jP (Nat.mul len z) r λr=>ma ih r λcs ls=>nM (cnd ex (Nat.beq cm len) false) λex=>kk (.tree cs len ex) (l::ls)) none)
  (λl off=>iq s l λb=>cnd (lv b.st) (jJ off b.cs λr=>ma ih r λcs ls=>kk (.fp cs) (l::ls)) none)
  (λcs=>ma ih cs λcs ls=>kk (.agg cs) ls) (λcs=>ma ih cs λcs ls=>kk (.tup cs) ls) (λf cs=>ma ih cs λcs ls=>kk (.fn f cs) ls) (asR d)
def jX(s:LS)(n:Nat):D->(D->List Nat->Rs)->Rs:=Nat.rec (λ_ _=>none) (λ_ ih=>z2p s ih) n
def Aa(ls:List Nat):LS->(LS->Rs)->Rs:=
 List.rec (motive:=λ_=>LS->(LS->Rs)->Rs) (λs k=>k s) (λl _ ih s k=>iq s l λb=>oh s l ⟨b.cs,fzS b.st⟩ λs=>ih s k) ls
def isF(d:D):Bool:=D.rec (motive_1:=λ_=>Bool) (motive_2:=λ_=>PUnit.{1}) false (λ_ _=>true) (λ_=>true) (λ_=>true) (λ_=>true) true true (λ_ _ _ _=>false) (λ_ _ _ _=>false) (λ_ _ _ _ _ _=>false) (λ_ _=>false) (λ_ _=>false) (λ_ _=>false) (λ_ _=>false) (λ_ _ _=>false) ⟨⟩ (λ_ _ _ _=>⟨⟩) d
def fl1(d:D)(t f:Rs):Rs:=cnd (isF d) t f
def YB(cs:List D)(t f:Rs):Rs:=List.rec (motive:=λ_=>Rs) t (λd _ ih=>fl1 d ih f) cs
inductive CF|leaf|agg (cs:List D)|tup (cs:List D)|no
def asF(d:D):CF:=D.rec (motive_1:=λ_=>CF) (motive_2:=λ_=>PUnit.{1}) .no (λ_ _=>.leaf) (λ_=>.leaf) (λ_=>.leaf) (λ_=>.leaf) .leaf .leaf (λ_ _ _ _=>.no) (λ_ _ _ _=>.no) (λ_ _ _ _ _ _=>.no) (λ_ _=>.no) (λ_ _=>.no) (λcs _=>.agg cs) (λcs _=>.tup cs) (λ_ _ _=>.no) ⟨⟩ (λ_ _ _ _=>⟨⟩) d
def fl2(d:D)(t f:Rs):Rs:=CF.rec (motive:=λ_=>Rs) t (λcs=>YB cs t f) (λ_=>f) f (asF d)
def z19(cs:List D)(t f:Rs):Rs:=List.rec (motive:=λ_=>Rs) t (λd _ ih=>fl2 d ih f) cs
def fl(d:D)(t f:Rs):Rs:=CF.rec (motive:=λ_=>Rs) t (λcs=>YB cs t f) (λcs=>z19 cs t f) f (asF d)
def Kr(s:LS)(r:D)(k:D->LS->Rs):Rs:=
 match r with
 |.own cs len z=>lh s ⟨cs,.rw⟩ λs'=>k (.sl s.nx 0 len len z false) s'
 |.tup (.own cs len z::ds)=>lh s ⟨cs,.rw⟩ λs'=>k (.tup (.sl s.nx 0 len len z false::ds)) s'
 |d=>k d s
def nD(s:LS)(ls:List Nat)(r:D)(k:D->LS->Rs):Rs:=fl r (k r s) (Aa ls s λs=>Kr s r k)
def eY(M:List D->Option D)(as:List D)(s:LS)(k:D->LS->Rs):Rs:=ma (jX s gJ) as λas' ls=>ob (M as') λr=>nD s ls r k
def s0:LS:=⟨.nil,0⟩
def fO(own:Bool)(s:LS)(d:D)(k:D->Rs):Rs:=fl d (k d) (sk (lf own s.get gJ d) k)
def xf(M2:List D->LS->(D->LS->Rs)->Rs)(as:List D):Option D:=M2 as s0 λd s=>fO true s d some
def Lt(p:Bool)(o:Option FT)(as:List D)(s:LS)(k:D->LS->Rs):Rs:=
 Option.rec (motive:=λ_=>Rs) none (λft=>FT.rec (motive:=λ_=>Rs) (λM=>eY M as s k) (λM2=>cnd p (eY (xf M2) as s k) (M2 as s k)) ft) o
inductive CN|fn (f:Nat) (cs:List D)|no
def asN(d:D):CN:=D.rec (motive_1:=λ_=>CN) (motive_2:=λ_=>PUnit.{1}) .no (λ_ _=>.no) (λ_=>.no) (λ_=>.no) (λ_=>.no) .no .no (λ_ _ _ _=>.no) (λ_ _ _ _=>.no) (λ_ _ _ _ _ _=>.no) (λ_ _=>.no) (λ_ _=>.no) (λ_ _=>.no) (λ_ _=>.no) (λf cs _=>.fn f cs) ⟨⟩ (λ_ _ _ _=>⟨⟩) d
def D5(TD:qP)(p:Bool)(f:D)(as:List D)(s:LS)(k:D->LS->Rs):Rs:=
 CN.rec (motive:=λ_=>Rs) (λn z6c=>pk as z6c λas=>Lt p (TD n) as s k) none (asN f)
def sup(ε:iy)(t:Nat)(d:D):iy:=λn=>cnd (Nat.beq n t) (some d) (ε n)
def noS:iy:=λ_=>none
def BK(n:Nat)(l:List Nat):Bool:=List.rec (motive:=λ_=>Bool) false (λm _ ih=>cnd (Nat.beq n m) true ih) l
def yg(ls:List Nat)(ε:iy):iy:=λn=>cnd (BK n ls) (ε n) none
def Kb(ε:iy)(dst:Option Nat)(d:D):iy:=
 match dst with
 |some t=>sup ε t d
 |none=>ε
def Cur:Nat->Type
 |0=>LS->Rs
 |n+1=>D->Cur n
def Nn:(n:Nat)->Cur n
 |0=>λ_=>none
 |n+1=>λ_=>Nn n
def Qv:(ls:List Nat)->(iy->LS->Rs)->iy->Cur ls.length
 |[],F,ε=>F ε
 |t::ls,F,ε=>λd=>Qv ls F (sup ε t d)
def Ci:(ls:List Nat)->Cur ls.length->iy->LS->Rs
 |[],c,_=>c
 |t::ls,c,ε=>match ε t with
  |some d=>Ci ls (c d) ε
  |none=>λ_=>none
def lp{α:Type}(bot:α)(f:α->α)(n:Nat):α:=Nat.rec bot (λ_ ih=>f ih) n
def jn{α:Type}(B:α)(A:α->Rs):Rs:=A B
structure KS where
 r:iy->LS->(D->LS->Rs)->Rs
def kOS(o:O):KS:=
 match o with
 |.bad=>⟨λ_ _ _=>none⟩
 |.mv x=>⟨λε s k=>k (xv ε x) s⟩
 |.pick c a b=>⟨λε s k=>iB (xv ε c) (xv ε a) (xv ε b) s k⟩
 |.alloc z=>⟨λ_ s k=>ff z s k⟩
 |.box x=>⟨λε s k=>jB (xv ε x) s k⟩
 |.build z l=>⟨λε s k=>gf z (l.map λp=>(p.1,p.2.1,xv ε p.2.2)) s k⟩
 |.bsl n z l=>⟨λε s k=>iO n z (l.map λp=>(p.1,p.2.1,xv ε p.2.2)) s k⟩
 |.load1 a=>⟨λε s k=>eR s (xv ε a) k⟩
 |.loadn n a=>⟨λε s k=>eW n s (xv ε a) k⟩
 |.store n a x=>⟨λε s k=>fA n s (xv ε a) (xv ε x) k⟩
 |.nilc x=>⟨λε s k=>jm s (xv ε x) k⟩
 |.isnil neg x=>⟨λε s k=>xC neg s (xv ε x) k⟩
 |.bin op x y=>⟨λε s k=>z2Z op (xv ε x) (xv ε y) λd=>k d s⟩
 |.binb op x y=>⟨λε s k=>z9 op (xv ε x) (xv ε y) s k⟩
 |.eqs neg ks x y=>⟨λε s k=>RK neg ks (xv ε x) (xv ε y) s k⟩
 |.neg x=>⟨λε s k=>kS (.neg (.c (xv ε x))) s k⟩
 |.not x=>⟨λε s k=>GG (xv ε x) s k⟩
 |.toInt kk x=>⟨λε s k=>kV kk (xv ε x) s k⟩
 |.b2s x=>⟨λε s k=>kS (.b2s (.c (xv ε x))) s k⟩
 |.mkfn f z6c=>⟨λε s k=>k (.fn f (z6c.map (xv ε))) s⟩
 |.mksl sz by' z l c=>⟨λε s k=>io sz by' z s (xv ε l) (xv ε c) k⟩
 |.slice sz x a b c=>⟨λε s k=>iT sz s (xv ε x) (a.map (xv ε)) (b.map (xv ε)) (c.map (xv ε)) k⟩
 |.faddr off x=>⟨λε s k=>fF off s (xv ε x) k⟩
 |.field1 off x=>⟨λε s k=>E9 off (xv ε x) s k⟩
 |.fieldn off n x=>⟨λε s k=>PH off n (xv ε x) s k⟩
 |.iaddr sz x i=>⟨λε s k=>eT sz s (xv ε x) (xv ε i) k⟩
 |.index x i=>⟨λε s k=>kS (.index (.c (xv ε x)) (.c (xv ε i))) s k⟩
 |.ext x i=>⟨λε s k=>gB (xv ε x) i s k⟩
 |.len x=>⟨λε s k=>fT (xv ε x) s k⟩
 |.lens x=>⟨λε s k=>kS (.lens (.c (xv ε x))) s k⟩
 |.max x y=>⟨λε s k=>kS (.max (.c (xv ε x)) (.c (xv ε y))) s k⟩
 |.min x y=>⟨λε s k=>kS (.min (.c (xv ε x)) (.c (xv ε y))) s k⟩
 |.add64 x y c=>⟨λε s k=>oi (xv ε x) (xv ε y) (xv ε c) s k⟩
 |.sub64 x y c=>⟨λε s k=>u7 (xv ε x) (xv ε y) (xv ε c) s k⟩
 |.call _ _ _=>⟨λ_ _ _=>none⟩
 |.app sz by' x y=>⟨λε s k=>mc sz by' s (xv ε x) (xv ε y) k⟩
 |.appk sz by' x y=>⟨λε s k=>US sz by' s (xv ε x) (xv ε y) k⟩
 |.copy sz x y=>⟨λε s k=>IH sz s (xv ε x) (xv ε y) k⟩
 |.clr sz z x=>⟨λε s k=>z0P sz z s (xv ε x) k⟩
 |.apart a x=>⟨λε s k=>kS (.apart (.c (xv ε a)) (.c (xv ε x))) s k⟩
def kO(o:O)(ε:iy)(s:LS)(k:D->LS->Rs):Rs:=(kOS o).r ε s k
structure PS where
 r:qP->qP->iy->LS->(D->LS->Rs)->Rs
def kPS(o:O):PS:=
 match o with
 |.call p f as=>match f with
  |.c d=>match d with
   |.fn n z6c=>⟨λT _ ε s k=>Lt p (T n) (as.map (xv ε)++z6c) s k⟩
   |_=>⟨λ_ _ _ _ _=>none⟩
  |.t t=>⟨λ_ TD ε s k=>D5 TD p (xv ε (.t t)) (as.map (xv ε)) s k⟩
 |o=>⟨λ_ _ ε s k=>kO o ε s k⟩
def kOp(T TD:qP)(o:O)(ε:iy)(s:LS)(k:D->LS->Rs):Rs:=(kPS o).r T TD ε s k
def eU(g:D)(want:Bool)(op:(D->LS->Rs)->Rs)(s:LS)(k:D->LS->Rs):Rs:=
 match g with
 |.b p=>cnd p (cnd want (op k) (k (.tup []) s)) (cnd want (k (.tup []) s) (op k))
 |.tup _=>k (.tup []) s
 |_=>none
def ER(T TD:qP):List Ins->(iy->LS->Rs)->iy->LS->Rs
 |[],K,ε,s=>K ε s
 |i::l,K,ε,s=>match i.gd with
  |none=>kOp T TD i.op ε s λd s=>ER T TD l K (Kb ε i.dst d) s
  |some (t,want)=>match ε t with
   |some g=>eU g want (λk=>kOp T TD i.op ε s k) s λd s=>ER T TD l K (Kb ε i.dst d) s
   |none=>none
structure KN where
 n:iy->LS->Rs
 ex:Nat->iy->LS->Rs
 ret:iy->LS->Rs
def KN.exit(K:KN)(id:Nat)(F:iy->LS->Rs)(j:Nat):iy->LS->Rs:=cnd (Nat.beq j id) F (K.ex j)
def Py:C->Option (List Nat)
 |.cut ls _=>some ls
 |_=>none
def fE(x:D)(a b:Rs):Rs:=onB x a b none
def den(φ:Nat)(T TD:qP):C->KN->iy->LS->Rs
 |.bad,_,_,_=>none
 |.skip,K,ε,s=>K.n ε s
 |.reg l,K,ε,s=>ER T TD l K.n ε s
 |.seq a b,K,ε,s=>match Py b with
  |some ls=>jn (Qv ls (λε s=>den φ T TD b K ε s) noS) λj=>den φ T TD a ⟨Ci ls j,K.ex,K.ret⟩ ε s
  |none=>den φ T TD a ⟨λε s=>den φ T TD b K ε s,K.ex,K.ret⟩ ε s
 |.cond x a b,K,ε,s=>fE (xv ε x) (den φ T TD a K ε s) (den φ T TD b K ε s)
 |.block id c,K,ε,s=>den φ T TD c ⟨K.n,K.exit id K.n,K.ret⟩ ε s
 |.loop c,K,ε,s=>match Py c with
  |some ls=>Ci ls (lp (Nn ls.length) (λih=>Qv ls (λε s=>den φ T TD c ⟨Ci ls ih,K.ex,K.ret⟩ ε s) noS) φ) ε s
  |none=>none
 |.exit id,K,ε,s=>K.ex id ε s
 |.ret,K,ε,s=>K.ret ε s
 |.cut ls c,K,ε,s=>den φ T TD c K (yg ls ε) s
def ldK(n:Nat)(s:LS)(a:D)(k:D->Rs):Rs:=
 match n with
 |0=>eR s a λd _=>k d
 |n=>eW n s a λd _=>k d
def rvK(ε:iy)(s:LS):List (Nat×Option Nat)->(List D->Rs)->Rs
 |[],k=>k []
 |(t,o)::rs,k=>match ε t with
  |some d=>match o with
   |none=>rvK ε s rs λds=>k (d::ds)
   |some n=>ldK n s d λd=>rvK ε s rs λds=>k (d::ds)
  |none=>none
def Q4:List D->D
 |[d]=>d
 |ds=>.tup ds
def u1(l:List D)(k:D->List D->Rs):Rs:=List.rec (motive:=λ_=>Rs) none (λd r _=>k d r) l
def u0(l:List D)(x:Rs):Rs:=List.rec (motive:=λ_=>Rs) x (λ_ _ _=>none) l
def EG:Nat->Nat->iy->List D->(iy->Rs)->Rs
 |0,_,ε,l,F=>u0 l (F ε)
 |n+1,t,ε,l,F=>u1 l λd r=>EG n (Nat.succ t) (sup ε t d) r F
def BY(φ:Nat)(T TD:qP)(n:Nat)(G:Fun)(as:List D)(s:LS)(k:D->LS->Rs):Rs:=
 EG n 0 noS as λε=>den φ T TD G.body ⟨λε s=>rvK ε s G.res λds=>k (Q4 ds) s,λ_ _ _=>none,λε s=>rvK ε s G.res λds=>k (Q4 ds) s⟩ ε s
def BW(φ:Nat)(T TD:qP)(n:Nat)(G:Fun)(as:List D):Option D:=
 BY φ T TD n G as s0 λd s=>fO (!Nat.beq G.mode 0) s d some
def gE(n:Nat):Nat.beq n n=true:=by simp
def Q7{Δ:Tr Ent}:∀(k:Nat)(j:Job)(r:Out),run Δ k j=some r->run Δ (k+1) j=some r:=by
 intro k
 induction k with
 |zero=>intro j r h;simp[run]at h
 |succ k ih=>
  intro j r h;cases j with
  |code c e σ=>
   cases c with
   |bad=>simp[run]at h
   |skip=>simpa only[run]using h
   |reg l=>simp only[run]at h;rw[run];exact ih _ _ h
   |seq a b=>
    simp only[run]at h;rw[run];split at h
    ·rename_i e1 σ1 h1;rw[ih _ _ h1];exact ih _ _ h
    ·rename_i x h1;rw[ih _ _ h]
     subst_vars
     cases r with
     |val d σ=>rfl
     |code x e σ=>
      cases x with
      |nrm=>exact absurd h (h1 _ _)
      |exit id=>rfl
      |ret=>rfl
   |cond x a b=>
    simp only[run]at h;rw[run];split at h
    ·exact ih _ _ h
    ·exact ih _ _ h
    ·cases h
   |block id c=>
    simp only[run]at h;rw[run];split at h
    ·rename_i j e1 σ1 h1;rw[ih _ _ h1];exact h
    ·rename_i x h1;rw[ih _ _ h];cases r with
     |val d σ=>rfl
     |code x e σ=>
      cases x with
      |nrm=>rfl
      |exit j=>exact absurd h (h1 _ _ _)
      |ret=>rfl
   |loop c=>
    simp only[run]at h;rw[run];split at h
    ·rename_i e1 σ1 h1;rw[ih _ _ h1];exact ih _ _ h
    ·rename_i x h1;rw[ih _ _ h];cases r with
     |val d σ=>rfl
     |code x e σ=>
      cases x with
      |nrm=>exact absurd h (h1 _ _)
      |exit id=>rfl
      |ret=>rfl
   |exit id=>simpa only[run]using h
   |ret=>simpa only[run]using h
   |cut ls c=>simp only[run]at h;rw[run];exact ih _ _ h
  |ops l e σ=>
   cases l with
   |nil=>simpa only[run]using h
   |cons i l=>
    obtain⟨dst,gd,op⟩:=i;cases hg:gdv e gd with
    |none=>rw[OU hg]at h;cases h
    |some b=>
     cases b with
     |false=>
      rw[AJ hg]at h;rw[AJ hg];exact ih _ _ h
     |true=>
      by_cases hc:∃p f as,op=.call p f as
      ·obtain⟨p,f,as,rfl⟩:=hc;rw[AI hg]at h;rw[AI hg];split at h
       ·rename_i d σ1 h1;rw[ih _ _ h1];exact ih _ _ h
       ·cases h
      ·have hne:∀p f as,op≠.call p f as:=λp f as h=>hc ⟨p,f,as,h⟩;rw[wd hg hne]at h;rw[wd hg hne];split at h
       ·exact ih _ _ h
       ·split at h
        ·exact ih _ _ h
        ·cases h
  |call p f as σ=>
   cases f
   case fn f z6c=>
    rw[yB]at h;rw[yB];cases hΔ:Δ.get f with
    |none=>simp only[hΔ]at h;cases h
    |some en=>
     cases en with
     |model M=>simp only[hΔ]at h ⊢;exact h
     |body F=>
      simp only[hΔ]at h ⊢;split at h
      ·split at h
       ·rename_i x e σ1 h1;simp only[ih _ _ h1];exact h
       ·cases h
      ·split at h
       ·rename_i as' ls hm;split at h
        ·rename_i x e σ1 h1;simp only[ih _ _ h1];exact h
        ·cases h
       ·cases h
   all_goals simp[run]at h
def sK{Δ:Tr Ent}{k k':Nat}(hk:k<=k'){j:Job}{r:Out}(h:run Δ k j=some r):run Δ k' j=some r:=by
 induction hk with
 |refl=>exact h
 |step _ ih=>exact Q7 _ _ _ ih
def xev(e:Env):X.ev e=xv e.get:=by
 funext x;cases x with
 |c d=>rfl
 |t n=>
  show(match e.get n with|some d=>d|none=>.u)=Option.rec (motive:=λ_=>D) .u (λd=>d) (e.get n);cases e.get n<;>rfl
def JH(e:Env)(dst:Option Nat)(d:D):(put e dst d).get=Kb e.get dst d:=by
 cases dst with
 |none=>rfl
 |some t=>
  funext m;show(e.set t d).get m=sup e.get t d m;rw[Tr.get_set];unfold sup;by_cases h:m=t
  ·subst h;simp
  ·have:Nat.beq m t=false:=by
    cases hq:Nat.beq m t with
    |false=>rfl
    |true=>exact absurd (aT hq) h
   rw[this,aG h];rfl
def Fm(n:Nat):∀(l:List Nat),BK n l=true↔n∈l
 |[]=>by simp[BK]
 |m::l=>by
  show cnd (Nat.beq n m) true (BK n l)=true↔_;cases h:Nat.beq n m with
  |true=>have:=aT h;subst this;simp
  |false=>
   have:n≠m:=by intro e;subst e;simp at h
   simp only[fq,Fm n l,bh,this,false_or]
def DS(e:Env):∀(ls:List Nat),(z5 ls e).get=yg ls e.get
 |[]=>by funext n;rfl
 |t::ls=>by
  funext n;have ih:=congrFun (DS e ls) n;have hr:yg (t::ls) e.get n=cnd (Nat.beq n t) (e.get n) (yg ls e.get n):=by
   show cnd (cnd (Nat.beq n t) true (BK n ls)) (e.get n) none=cnd (Nat.beq n t) (e.get n) (cnd (BK n ls) (e.get n) none);cases Nat.beq n t<;>rfl
  rw[hr];simp only[z5];cases hd:e.get t with
  |none=>
   show(z5 ls e).get n=_;rw[ih];cases h:Nat.beq n t with
   |false=>rfl
   |true=>
    have:=aT h;subst this;rw[fH,hd];show cnd (BK n ls) (e.get n) none=none;rw[hd];cases BK n ls<;>rfl
  |some d=>
   show((z5 ls e).set t d).get n=_;rw[Tr.get_set];by_cases h:n=t
   ·subst h;simp[hd]
   ·have:Nat.beq n t=false:=by
     cases hq:Nat.beq n t with
     |false=>rfl
     |true=>exact absurd (aT hq) h
    rw[aG h,this,ih];rfl
def Ia{F:iy->LS->Rs}{s:LS}{r:D}{ε:iy}:∀(ls:List Nat)(ε0:iy),Ci ls (Qv ls F ε0) ε s=some r->
 ∃ε',F ε' s=some r/\∀n,(n∈ls->ε' n=ε n)/\(n∉ls->ε' n=ε0 n)
 |[],ε0,h=>⟨ε0,h,λn=>⟨λh=>(by cases h),λ_=>rfl⟩⟩
 |t::ls,ε0,h=>by
  simp only[Ci]at h;cases hd:ε t with
  |some d=>
   rw[hd]at h;obtain⟨ε',h1,h2⟩:=Ia ls (sup ε0 t d) h;refine⟨ε',h1,λn=>⟨λhn=>?_,λhn=>?_⟩⟩
   ·by_cases hls:n∈ls
    ·exact(h2 n).1 hls
    ·rw[(h2 n).2 hls];have:n=t:=by
      rcases bh.1 hn with h|h
      ·exact h
      ·exact absurd h hls
     subst this;simp[sup,hd]
   ·have h3:n∉ls:=λh=>hn (bC _ h);have h4:n≠t:=λh=>hn (h▸b9 ..);rw[(h2 n).2 h3];unfold sup;have:Nat.beq n t=false:=by
     cases hq:Nat.beq n t with
     |false=>rfl
     |true=>exact absurd (aT hq) h4
    rw[this];rfl
  |none=>rw[hd]at h;cases h
def Gq{F:iy->LS->Rs}{s:LS}{r:D}{ε:iy}{ls:List Nat}(h:Ci ls (Qv ls F noS) ε s=some r):F (yg ls ε) s=some r:=by
 obtain⟨ε',h1,h2⟩:=Ia ls noS h;have:ε'=yg ls ε:=by
  funext n;unfold yg;by_cases hn:n∈ls
  ·rw[(h2 n).1 hn,(Fm n ls).2 hn];rfl
  ·rw[(h2 n).2 hn];have:BK n ls=false:=by
    cases hq:BK n ls with
    |false=>rfl
    |true=>exact absurd ((Fm n ls).1 hq) hn
   rw[this];rfl
 rw[<-this];exact h1
def Lx{s:LS}{ε:iy}:∀(ls:List Nat),Ci ls (Nn ls.length) ε s=none
 |[]=>rfl
 |t::ls=>by
  simp only[Ci];cases hd:ε t with
  |some d=>exact Lx ls
  |none=>rfl
def TC(ls:List Nat)(ε:iy):yg ls (yg ls ε)=yg ls ε:=by
 funext n;unfold yg;cases BK n ls<;>rfl
section
variable {s:LS} {σ:Sto} {r:D}
def u5{F:D->Option (D×List Nat)}{f:D->(D->List Nat->Rs)->Rs}(hf:∀d kk,f d kk=some r->∃y a,F d=some (y,a)/\kk y a=some r):
 ∀(l:List D)(kk:List D->List Nat->Rs),ma f l kk=some r->∃ys ls,i8 F l=some (ys,ls)/\kk ys ls=some r
 |[],kk,h=>⟨[],[],rfl,h⟩
 |x::l,kk,h=>by
  have h:(f x λy a=>ma f l λys b=>pk a b λab=>kk (y::ys) ab)=some r:=h;obtain⟨y,a,h1,h2⟩:=hf _ _ h;obtain⟨ys,b,h3,h4⟩:=u5 hf l _ h2;rw[jt]at h4;exact⟨y::ys,a++b,by simp only[i8,h1,h3],h4⟩
def Hf(s:LS):∀(n:Nat)(d:D)(kk:D->List Nat->Rs),jX s n d kk=some r->∃y a,res s.get n d=some (y,a)/\kk y a=some r
 |0,d,kk,h=>by cases h
 |n+1,d,kk,h=>by
  have ih:=λd kk=>Hf s n d kk;have h:z2p s (jX s n) d kk=some r:=h;cases d with
  |u=>cases h
  |own cs len sz=>cases h
  |sl l off len cm z ex=>
   have h:(iq s l λb=>cnd (lv b.st) (jJ off b.cs λr=>jP (Nat.mul len z) r λr=>ma (jX s n) r λcs ls=>nM (cnd ex (Nat.beq cm len) false) λex=>kk (.tree cs len ex) (l::ls)) none)=some r:=h;obtain⟨b,hb,h1⟩:=jq h;obtain⟨h2,h3⟩:=yn h1;rw[gZ]at h3;obtain⟨h4,h5⟩:=qe h3;rw[zg]at h4;obtain⟨ys,ls,h6,h7⟩:=u5 ih _ _ h5;rw[iz]at h7;refine⟨_,_,?_,h7⟩;have h4:cut off (len*z) b.cs=some _:=h4;simp only[res,hb,h2,cw,bm,cP,h4,h6];have e1:(cm==len)=Nat.beq cm len:=by rw[dw,beq_iff_eq,Nat.beq_eq]
   have:(ex&&cm==len)=cnd ex (Nat.beq cm len) false:=by rw[e1];cases ex<;>rfl
   rw[this]
  |ptr l off=>
   have h:(iq s l λb=>cnd (lv b.st) (jJ off b.cs λr=>ma (jX s n) r λcs ls=>kk (.fp cs) (l::ls)) none)=some r:=h;obtain⟨b,hb,h1⟩:=jq h;obtain⟨h2,h3⟩:=yn h1;rw[gZ]at h3;obtain⟨ys,ls,h6,h7⟩:=u5 ih _ _ h3;exact⟨_,_,by simp only[res,hb,h2,cw,bm,cP,h6],h7⟩
  |agg cs=>
   obtain⟨ys,ls,h6,h7⟩:=u5 ih _ _ (show ma (jX s n) cs _=some r from h);exact⟨_,_,by simp only[res,h6],h7⟩
  |tup cs=>
   obtain⟨ys,ls,h6,h7⟩:=u5 ih _ _ (show ma (jX s n) cs _=some r from h);exact⟨_,_,by simp only[res,h6],h7⟩
  |fn f cs=>
   obtain⟨ys,ls,h6,h7⟩:=u5 ih _ _ (show ma (jX s n) cs _=some r from h);exact⟨_,_,by simp only[res,h6],h7⟩
  |_=>exact⟨_,[],rfl,h⟩
def IK:∀(ls:List Nat)(s:LS)(σ:Sto)(k:LS->Rs),LSR s σ->Aa ls s k=some r->∃s',LSR s' (σ.frz ls)/\k s'=some r/\s'.nx=s.nx
 |[],s,σ,k,h,hr=>⟨s,h,hr,rfl⟩
 |l::ls,s,σ,k,h,hr=>by
  have hr:(iq s l λb=>oh s l ⟨b.cs,fzS b.st⟩ λs=>Aa ls s k)=some r:=hr;obtain⟨b,hb,h1⟩:=jq hr;rw[wj h hb]at h1;obtain⟨s',h2,h3,h4⟩:=IK ls _ _ k (h.put hb ⟨b.cs,fzS b.st⟩) h1;refine⟨s',?_,h3,h4⟩;simp only[Sto.frz,<-Uc];have:σ.get l=some b:=by rw[h.get,hb]
  rw[this];exact h2
def z1a(d:D)(t f:Rs):fl1 d t f=cnd (oH d) t f:=by cases d<;>rfl
def Ja(t f:Rs):∀(cs:List D),YB cs t f=cnd (cs.all oH) t f
 |[]=>rfl
 |d::cs=>by
  show fl1 d (YB cs t f) f=_;rw[z1a,Ja t f cs,cH];cases oH d<;>rfl
def z18(d:D)(t f:Rs):fl2 d t f=cnd (uT d) t f:=by
 cases d with
 |agg cs=>exact Ja t f cs
 |_=>rfl
def Pa(t f:Rs):∀(cs:List D),z19 cs t f=cnd (cs.all uT) t f
 |[]=>rfl
 |d::cs=>by
  show fl2 d (z19 cs t f) f=_;rw[z18,Pa t f cs,cH];cases uT d<;>rfl
def lJ(d:D)(t f:Rs):fl d t f=cnd (wT d) t f:=by
 cases d with
 |agg cs=>exact Ja t f cs
 |tup cs=>exact Pa t f cs
 |_=>rfl
def Qm{k:D->LS->Rs}{d:D}(h:LSR s σ)(hr:Kr s d k=some r):∃s',LSR s' (σ.adds (mat s.nx d).2)/\k (mat s.nx d).1 s'=some r:=by
 unfold Kr at hr;split at hr
 ·rw[lH]at hr;exact⟨_,h.push _,hr⟩
 ·rw[lH]at hr;exact⟨_,h.push _,hr⟩
 ·rename_i h1 h2;have:mat s.nx d=(d,[]):=by
   unfold mat;split
   ·exact absurd rfl (h1 _ _ _)
   ·exact absurd rfl (h2 _ _ _ _)
   ·rfl
  rw[this];exact⟨s,h,hr⟩
def R5{k:D->LS->Rs}{d:D}{ls:List Nat}(h:LSR s σ)(hr:nD s ls d k=some r):∃s',LSR s' (fin σ ls d).2/\k (fin σ ls d).1 s'=some r:=by
 unfold nD at hr;rw[lJ]at hr;unfold fin;cases hf:wT d with
 |true=>rw[hf]at hr;exact⟨s,h,hr⟩
 |false=>
  rw[hf]at hr;obtain⟨s1,h1,h2,h3⟩:=IK _ _ _ _ h hr;obtain⟨s2,h4,h5⟩:=Qm h1 h2;rw[h3,<-h.nx]at h4 h5;exact⟨s2,h4,h5⟩
def mG{g:Nat->Option Blk}{k:Nat}:∀(cs:List D),cs.all oH=true->i8 (res g (k+1)) cs=some (cs,[])
 |[],_=>rfl
 |d::cs,h=>by
  simp only[cH,aW]at h;simp only[i8,mG cs h.2];cases d<;>first|rfl|(exact absurd h.1 (by simp[oH]))
def He{g:Nat->Option Blk}{k:Nat}(d:D)(h:uT d=true):res g (k+2) d=some (d,[]):=by
 cases d with
 |agg cs=>
  have e:res g (k+2) (.agg cs)=match i8 (res g (k+1)) cs with
   |some (cs,ls)=>some (.agg cs,ls)
   |none=>none:=rfl
  rw[e,mG cs h]
 |_=>first|rfl|(exact absurd h (by simp[uT,oH]))
def Fo{g:Nat->Option Blk}{k:Nat}:∀(cs:List D),cs.all uT=true->i8 (res g (k+2)) cs=some (cs,[])
 |[],_=>rfl
 |d::cs,h=>by
  simp only[cH,aW]at h;simp only[i8,Fo cs h.2,He d h.1];rfl
def GV{own:Bool}{g:Nat->Option Blk}{k:Nat}(d:D)(h:uT d=true):vL own g (k+2) d=some (d,[],[]):=by
 have h1:vL own g (k+2) d=yF (res g (k+2) d):=by
  cases own<;>cases d<;>first|rfl|(exact absurd h (by simp[uT,oH]))
 rw[h1,He d h];rfl
def Rb{own:Bool}{g:Nat->Option Blk}(d:D)(h:wT d=true):lf own g gJ d=some d:=by
 have key:uT d=true->lf own g gJ d=some d:=by
  intro h2;have h1:lf own g gJ d=match vL own g gJ d with
   |some (d,o,ls)=>if o.all λl=> !ls.contains l then some d else none
   |none=>none:=by
   cases d<;>first|rfl|(exact absurd h2 (by simp[uT,oH]))
  rw[h1,show gJ=58+2 from rfl,GV d h2];rfl
 cases d with
 |tup cs=>
  cases cs with
  |nil=>
   cases own<;>rfl
  |cons d ds=>
   have h:(d::ds).all uT=true:=h;simp only[cH,aW]at h;simp only[lf];rw[show gJ=58+2 from rfl,GV d h.1,Fo ds h.2];rfl
 |agg cs=>exact key h
 |_=>exact key h
def DF{own:Bool}{d:D}{k:D->Rs}(hr:fO own s d k=some r):∃q,lf own s.get gJ d=some q/\k q=some r:=by
 unfold fO at hr;rw[lJ]at hr;cases hf:wT d with
 |true=>rw[hf]at hr;exact⟨d,Rb d hf,hr⟩
 |false=>
  rw[hf]at hr;have hr:sk (lf own s.get gJ d) k=some r:=hr;rw[gc]at hr;exact oV hr
end
def Ao(Δ:Tr Ent)(G:Fun)(M2:List D->LS->(D->LS->Rs)->Rs):Prop:=
 ∀as s σ k r,LSR s σ->M2 as s k=some r->∃n x e σ' s' d,run Δ n (.code G.body (tP .nil 0 as) σ)=some (.code x e σ')/\(∀id,x≠.exit id)/\sE e σ' G.res=some d/\LSR s' σ'/\k d s'=some r
def WM(Δ:Tr Ent)(G:Fun)(as:List D)(q:D):Prop:=
 ∃n x e σ d,run Δ n (.code G.body (tP .nil 0 as) Sto.empty)=some (.code x e σ)/\(∀id,x≠.exit id)/\sE e σ G.res=some d/\lf (!Nat.beq G.mode 0) σ.get gJ d=some q
def QU(Δ:Tr Ent)(G:Fun)(M:List D->Option D):Prop:=∀as q,M as=some q->WM Δ G as q
def Rw(Δ:Tr Ent)(n:Nat):FT->Prop
 |.iso M=>Δ.get n=some (.model M)\/∃G,Δ.get n=some (.body G)/\Nat.beq G.mode 2=false/\QU Δ G M
 |.mem M2=>∃G,Δ.get n=some (.body G)/\G.mode=2/\Ao Δ G M2
def TOk(Δ:Tr Ent)(T:qP):Prop:=∀n ft,T n=some ft->Rw Δ n ft
section
variable {Δ:Tr Ent} {T TD:qP} {s:LS} {σ:Sto} {r:D}
def ToC(Δ:Tr Ent)(p:Bool)(f:D)(as:List D)(σ:Sto)(k:D->LS->Rs)(r:D):Prop:=
 ∃n d σ' s',run Δ n (.call p f as σ)=some (.val d σ')/\LSR s' σ'/\k d s'=some r
def Gc{p:Bool}{n:Nat}{z6c as:List D}{k:D->LS->Rs}(hT:TOk Δ T)(h:LSR s σ)(hr:Lt p (T n) (as++z6c) s k=some r):ToC Δ p (.fn n z6c) as σ k r:=by
 unfold Lt at hr;have iso:∀(M:List D->Option D),eY M (as++z6c) s k=some r->∃as' ls q s',i8 (res σ.get gJ) (as++z6c)=some (as',ls)/\M as'=some q/\LSR s' (fin σ ls q).2/\k (fin σ ls q).1 s'=some r:=by
  intro M hr;unfold eY at hr;obtain⟨as',ls,h1,h2⟩:=u5 (λd kk=>Hf s gJ d kk) _ _ hr;obtain⟨q,h3,h4⟩:=oV h2;obtain⟨s',h5,h6⟩:=R5 h h4;rw[<-h.get]at h1;exact⟨as',ls,q,s',h1,h3,h5,h6⟩
 cases hft:T n with
 |none=>rw[hft]at hr;cases hr
 |some ft=>
  rw[hft]at hr;have hok:=hT n _ hft;cases ft with
  |iso M=>
   obtain⟨as',ls,q,s',h1,h2,h3,h4⟩:=iso M hr;rcases hok with hok|⟨G,hG,z8L,hM⟩
   ·exact⟨1,_,_,s',by rw[yB,hok];simp only[h1,h2],h3,h4⟩
   ·obtain⟨m,x,e,σ1,d,g1,g2,g3,g4⟩:=hM _ _ h2;refine⟨m+1,_,_,s',?_,h3,h4⟩;rw[yB,hG];simp only[z8L,Bool.and_false,h1,g1];cases x with
    |exit id=>exact absurd rfl (g2 id)
    |nrm=>simp only[g3,g4]
    |ret=>simp only[g3,g4]
  |mem M2=>
   obtain⟨G,hG,z8L,hM⟩:=hok;cases p with
   |true=>
    obtain⟨as',ls,q,s',h1,h2,h3,h4⟩:=iso _ hr;unfold xf at h2;obtain⟨m,x,e,σ1,s1,d,g1,g2,g3,g4,g5⟩:=hM _ _ Sto.empty _ _ LSR.empty h2;obtain⟨q',g6,g7⟩:=DF g5;cases g7;refine⟨m+1,_,_,s',?_,h3,h4⟩;rw[yB,hG];rw[<-g4.get]at g6;have hm2:(!Nat.beq G.mode 0)=true:=by rw[z8L];rfl
    simp only[cw,Bool.false_and,h1,g1,hm2];cases x with
    |exit id=>exact absurd rfl (g2 id)
    |nrm=>simp only[g3,g6]
    |ret=>simp only[g3,g6]
   |false=>
    obtain⟨m,x,e,σ1,s1,d,g1,g2,g3,g4,g5⟩:=hM _ _ _ _ _ h hr;refine⟨m+1,d,σ1,s1,?_,g4,g5⟩;rw[yB,hG];have hm2:(!false&&Nat.beq G.mode 2)=true:=by rw[z8L];rfl
    simp only[hm2,g1];cases x with
    |exit id=>exact absurd rfl (g2 id)
    |nrm=>simp only[g3]
    |ret=>simp only[g3]
def Rf{p:Bool}{f:D}{as:List D}{k:D->LS->Rs}(hT:TOk Δ TD)(h:LSR s σ)(hr:D5 TD p f as s k=some r):ToC Δ p f as σ k r:=by
 cases f with
 |fn n z6c=>
  have hr:(pk as z6c λas=>Lt p (TD n) as s k)=some r:=hr;rw[jt]at hr;exact Gc hT h hr
 |_=>cases hr
def Uj(ε:iy):∀(l:List (Nat×Nat×X))(cs:List D),fill cv (l.map λp=>(p.1,p.2.1,X.c (xv ε p.2.2))) cs=fill (xv ε) l cs
 |[],cs=>rfl
 |(off,sz,x)::r,cs=>by
  simp only[cC,fill,cv];cases lay off (lA (xv ε x)) cs with
  |none=>rfl
  |some cs'=>
   simp only[Uj ε r cs'];rfl
def X6{o:O}{ε:iy}{k:D->LS->Rs}(h:LSR s σ)(hr:kO o ε s k=some r):ToO σ (xv ε) o k r:=by
 cases o with
 |bad=>cases hr
 |mv x=>exact toA h rfl hr
 |pick c a b=>exact UG h hr
 |alloc z=>exact RP h hr
 |box x=>exact Xf h hr
 |build z l=>exact RN h hr
 |bsl n z l=>exact Xe h hr
 |load1 a=>exact RF h hr
 |loadn n a=>exact RD h hr
 |store n a x=>exact Qy h hr
 |nilc x=>exact UI h hr
 |isnil neg x=>exact RG h hr
 |bin op x y=>
  obtain⟨d,h1,h2⟩:=Xg hr;exact toA h (by simp only[evA,h1]) h2
 |binb op x y=>exact UP h hr
 |eqs neg ks x y=>exact Xc h hr
 |neg x=>exact GA h rfl hr
 |not x=>exact X7 h hr
 |toInt kk x=>exact Qw h hr
 |b2s x=>exact GA h rfl hr
 |mkfn f z6c=>exact toA h rfl hr
 |mksl sz by' z l c=>exact UJ h hr
 |slice sz x a b c=>exact RA h hr
 |faddr off x=>exact RJ h hr
 |field1 off x=>exact NR h hr
 |fieldn off n x=>exact NQ h hr
 |iaddr sz x i=>exact RH h hr
 |index x i=>exact GA h rfl hr
 |ext x i=>exact Xb h hr
 |len x=>exact X9 h hr
 |lens x=>exact GA h rfl hr
 |max x y=>exact GA h rfl hr
 |min x y=>exact GA h rfl hr
 |add64 x y c=>exact RQ h hr
 |sub64 x y c=>exact Qx h hr
 |call p f as=>cases hr
 |app sz by' x y=>exact PJ h hr
 |appk sz by' x y=>exact UR h hr
 |copy sz x y=>exact UO h hr
 |clr sz z x=>exact Xd h hr
 |apart a x=>exact GA h rfl hr
def ToI(Δ:Tr Ent)(e:Env)(σ:Sto)(i:Ins)(k:D->LS->Rs)(r:D):Prop:=
 ∃n d σ' s',LSR s' σ'/\k d s'=some r/\∀m l,n<=m->run Δ (m+1) (.ops (i::l) e σ)=run Δ m (.ops l (put e i.dst d) σ')
def GF{dst:Option Nat}{gd:Option (Nat×Bool)}{o:O}{e:Env}{k:D->LS->Rs}(hT:TOk Δ T)(hD:TOk Δ TD)(h:LSR s σ)(hg:gdv e gd=some true)(hr:kOp T TD o e.get s k=some r):
 ToI Δ e σ ⟨dst,gd,o⟩ k r:=by
 have other:ToO σ (xv e.get) o k r->(∀p f as,o≠.call p f as)->ToI Δ e σ ⟨dst,gd,o⟩ k r:=by
  intro ho hne;obtain⟨d,s',σ',h1,h2,h3⟩:=ho;rw[<-xev]at h1;refine⟨0,d,σ',s',h2,h3,λm l _=>?_⟩;rw[wd hg hne];rcases h1 with⟨bs,h1,rfl⟩|⟨h1,h1'⟩
  ·simp only[h1]
  ·simp only[h1,h1']
 have zd7:∀p f as,o=.call p f as->ToC Δ p (f.ev e) (as.map (X.ev e)) σ k r->ToI Δ e σ ⟨dst,gd,o⟩ k r:=by
  intro p f as ho hc;subst ho;obtain⟨n,d,σ',s',h1,h2,h3⟩:=hc;refine⟨n,d,σ',s',h2,h3,λm l hm=>?_⟩;rw[AI hg,sK hm h1]
 cases o
 case call p f as=>
  refine zd7 p f as rfl ?_;simp only[kOp,kPS]at hr;rw[xev];cases f with
  |t t=>exact Rf hD h hr
  |c d=>
   cases d<;>first|(cases hr;done)|skip
   exact Gc hT h hr
 all_goals exact other (X6 h hr) (λ_ _ _ h=>by cases h)
def AW(hT:TOk Δ T)(hD:TOk Δ TD){K:iy->LS->Rs}:∀(l:List Ins)(s:LS)(e:Env)(σ:Sto),LSR s σ->ER T TD l K e.get s=some r->
 ∃n e' σ' s',run Δ n (.ops l e σ)=some (.code .nrm e' σ')/\LSR s' σ'/\K e'.get s'=some r
 |[],s,e,σ,h,hr=>⟨1,e,σ,s,rfl,h,hr⟩
 |i::l,s,e,σ,h,hr=>by
  obtain⟨dst,gd,o⟩:=i;have go:ToI Δ e σ ⟨dst,gd,o⟩ (λd s=>ER T TD l K (Kb e.get dst d) s) r->∃n e' σ' s',run Δ n (.ops (⟨dst,gd,o⟩::l) e σ)=some (.code .nrm e' σ')/\LSR s' σ'/\K e'.get s'=some r:=by
   intro hi;obtain⟨n,d,σ1,s1,h1,h2,h3⟩:=hi;have h2:ER T TD l K (Kb e.get dst d) s1=some r:=h2;rw[<-JH]at h2;obtain⟨m,e',σ',s',h4,h5,h6⟩:=AW hT hD l s1 _ σ1 h1 h2;refine⟨(n+m)+1,e',σ',s',?_,h5,h6⟩;rw[h3 (n+m) l eP];exact sK eP h4
  have z93:gdv e gd=some false->ER T TD l K (Kb e.get dst (.tup [])) s=some r->∃n e' σ' s',run Δ n (.ops (⟨dst,gd,o⟩::l) e σ)=some (.code .nrm e' σ')/\LSR s' σ'/\K e'.get s'=some r:=by
   intro hg h2;rw[<-JH]at h2;obtain⟨m,e',σ',s',h4,h5,h6⟩:=AW hT hD l s _ σ h h2;refine⟨m+1,e',σ',s',?_,h5,h6⟩;rw[AJ hg];exact h4
  simp only[ER]at hr;cases gd with
  |none=>exact go (GF hT hD h rfl hr)
  |some tw=>
   obtain⟨t,want⟩:=tw;simp only at hr;split at hr
   ·rename_i g hg;unfold eU at hr;have key:∀(p:Bool),e.get t=some (.b p)->gdv e (some (t,want))=some (p==want):=by
     intro p hp;simp only[gdv,hp]
    split at hr
    ·rename_i p;cases p<;>cases want
     ·simp only[fq]at hr;exact go (GF hT hD h (key _ hg) hr)
     ·simp only[fH,fq]at hr;exact z93 (key _ hg) hr
     ·simp only[fH,fq]at hr;exact z93 (key _ hg) hr
     ·simp only[fH]at hr;exact go (GF hT hD h (key _ hg) hr)
    ·refine z93 ?_ hr;simp only[gdv,hg]
    ·cases hr
   ·cases hr
def KN.at(K:KN):Ex->iy->LS->Rs
 |.nrm=>K.n
 |.exit j=>K.ex j
 |.ret=>K.ret
def G7{c:C}{ls:List Nat}(h:Py c=some ls):∃c',c=.cut ls c':=by
 cases c<;>simp[Py]at h;subst h;exact⟨_,rfl⟩
def VX{φ:Nat}(hT:TOk Δ T)(hD:TOk Δ TD):∀(c:C)(K:KN)(s:LS)(e:Env)(σ:Sto),LSR s σ->den φ T TD c K e.get s=some r->
 ∃n x e' σ' s',run Δ n (.code c e σ)=some (.code x e' σ')/\LSR s' σ'/\K.at x e'.get s'=some r:=by
 intro c
 induction c with
 |bad=>intro K s e σ h hr;cases hr
 |skip=>intro K s e σ h hr;exact⟨1,.nrm,e,σ,s,rfl,h,hr⟩
 |reg l=>
  intro K s e σ h hr;obtain⟨n,e',σ',s',h1,h2,h3⟩:=AW hT hD l s e σ h hr;exact⟨n+1,.nrm,e',σ',s',h1,h2,h3⟩
 |seq a b iha ihb=>
  intro K s e σ h hr;have fin:∀(F:iy->LS->Rs),den φ T TD a ⟨F,K.ex,K.ret⟩ e.get s=some r->(∀(e1:Env) s1,F e1.get s1=some r->den φ T TD b K e1.get s1=some r)->
   ∃n x e' σ' s',run Δ n (.code (.seq a b) e σ)=some (.code x e' σ')/\LSR s' σ'/\K.at x e'.get s'=some r:=by
   intro F hr hF;obtain⟨n,x,e1,σ1,s1,h1,h2,h3⟩:=iha _ s e σ h hr;cases x with
   |nrm=>
    obtain⟨m,x,e',σ',s',h4,h5,h6⟩:=ihb K s1 e1 σ1 h2 (hF e1 s1 h3);refine⟨(n+m)+1,x,e',σ',s',?_,h5,h6⟩;simp only[run,sK (show n<=n+m by omega) h1,sK (show m<=n+m by omega) h4]
   |exit id=>
    refine⟨n+1,.exit id,e1,σ1,s1,?_,h2,h3⟩;simp only[run,h1]
   |ret=>
    refine⟨n+1,.ret,e1,σ1,s1,?_,h2,h3⟩;simp only[run,h1]
  simp only[den]at hr;split at hr
  ·rename_i ls hc;obtain⟨b',rfl⟩:=G7 hc;refine fin _ hr (λe1 s1 h1=>?_);have h2:=Gq h1;simp only[den]at h2;simp only[den];rw[TC]at h2;exact h2
  ·exact fin _ hr (λe1 s1 h1=>h1)
 |cond x a b iha ihb=>
  intro K s e σ h hr;simp only[den,fE]at hr;rcases vF hr with⟨h1,h2⟩|⟨h1,h2⟩
  ·obtain⟨n,x',e',σ',s',h3,h4,h5⟩:=iha K s e σ h h2;refine⟨n+1,x',e',σ',s',?_,h4,h5⟩;rw[<-xev]at h1;simp only[run,h1,h3]
  ·obtain⟨n,x',e',σ',s',h3,h4,h5⟩:=ihb K s e σ h h2;refine⟨n+1,x',e',σ',s',?_,h4,h5⟩;rw[<-xev]at h1;simp only[run,h1,h3]
 |block id c ih=>
  intro K s e σ h hr;simp only[den]at hr;obtain⟨n,x,e',σ',s',h3,h4,h5⟩:=ih _ s e σ h hr;cases x with
  |nrm=>
   refine⟨n+1,.nrm,e',σ',s',?_,h4,h5⟩;simp only[run,h3]
  |ret=>
   refine⟨n+1,.ret,e',σ',s',?_,h4,h5⟩;simp only[run,h3]
  |exit j=>
   simp only[KN.at,KN.exit]at h5;cases hj:Nat.beq j id with
   |true=>
    rw[hj]at h5;refine⟨n+1,.nrm,e',σ',s',?_,h4,h5⟩;simp only[run,h3,hj,cond_true]
   |false=>
    rw[hj]at h5;refine⟨n+1,.exit j,e',σ',s',?_,h4,h5⟩;simp only[run,h3,hj,cond_false]
 |loop c ih=>
  intro K s e σ h hr;simp only[den]at hr;split at hr
  ·rename_i ls hc;obtain⟨c',rfl⟩:=G7 hc;generalize hf:(λq=>Qv ls (λε s=>den φ T TD (.cut ls c') ⟨Ci ls q,K.ex,K.ret⟩ ε s) noS)=f at hr;have key:∀(m:Nat)(s:LS)(e:Env)(σ:Sto),LSR s σ->Ci ls (lp (Nn ls.length) f m) e.get s=some r->
    ∃n x e' σ' s',run Δ n (.code (.loop (.cut ls c')) e σ)=some (.code x e' σ')/\LSR s' σ'/\K.at x e'.get s'=some r:=by
    intro m
    induction m with
    |zero=>
     intro s e σ h hr;have hr:Ci ls (Nn ls.length) e.get s=some r:=hr;rw[Lx]at hr;cases hr
    |succ m ihm=>
     intro s e σ h hr;have hr:Ci ls (f (lp (Nn ls.length) f m)) e.get s=some r:=hr;rw[<-hf]at hr;have h2:=Gq hr;simp only[hf]at h2;have h3:den φ T TD (.cut ls c') ⟨Ci ls (lp (Nn ls.length) f m),K.ex,K.ret⟩ e.get s=some r:=by
      simp only[den]at h2;simp only[den];rw[TC]at h2;exact h2
     obtain⟨n,x,e1,σ1,s1,h4,h5,h6⟩:=ih _ s e σ h h3;cases x with
     |nrm=>
      obtain⟨n2,x,e',σ',s',h7,h8,h9⟩:=ihm s1 e1 σ1 h5 h6;refine⟨(n+n2)+1,x,e',σ',s',?_,h8,h9⟩;rw[run];simp only[sK (show n<=n+n2 by omega) h4,sK (show n2<=n+n2 by omega) h7]
     |exit id=>
      refine⟨n+1,.exit id,e1,σ1,s1,?_,h5,h6⟩;rw[run];simp only[h4]
     |ret=>
      refine⟨n+1,.ret,e1,σ1,s1,?_,h5,h6⟩;rw[run];simp only[h4]
   exact key φ s e σ h hr
  ·cases hr
 |exit id=>intro K s e σ h hr;exact⟨1,.exit id,e,σ,s,rfl,h,hr⟩
 |ret=>intro K s e σ h hr;exact⟨1,.ret,e,σ,s,rfl,h,hr⟩
 |cut ls c ih=>
  intro K s e σ h hr;simp only[den]at hr;rw[<-DS]at hr;obtain⟨n,x,e',σ',s',h3,h4,h5⟩:=ih K s _ σ h hr;exact⟨n+1,x,e',σ',s',by simp only[run];exact h3,h4,h5⟩
def ldV(n:Nat)(cs:List D):Option D:=
 match n with
 |0=>match cs with
  |d::_=>some d
  |[]=>none
 |n=>match cut 0 n cs with
  |some r=>some (.agg r)
  |none=>none
def Tw{n:Nat}{a:D}{k:D->Rs}(h:LSR s σ)(hr:ldK n s a k=some r):∃cs d,at_ σ.get a=some cs/\ldV n cs=some d/\k d=some r:=by
 rw[h.get];cases n with
 |zero=>
  rcases uZ (show eR s a (λd _=>k d)=some r from hr)with⟨l,off,rfl,h2⟩|⟨cs,rfl,h2⟩
  ·obtain⟨b,hb,h3⟩:=jq h2;obtain⟨h4,h5⟩:=yn h3;obtain⟨d,h6,h7⟩:=wC h5;refine⟨b.cs.drop off,d,by simp only[at_,hb,h4,cw,bm,cP],?_,h7⟩;rw[h6];rfl
  ·obtain⟨d,h6,h7⟩:=wC h2;rw[a7]at h6;refine⟨cs,d,rfl,?_,h7⟩;rw[h6];rfl
 |succ n=>
  rcases uZ (show eW (n+1) s a (λd _=>k d)=some r from hr)with⟨l,off,rfl,h2⟩|⟨cs,rfl,h2⟩
  ·obtain⟨b,hb,h3⟩:=jq h2;obtain⟨h4,h5⟩:=yn h3;rw[gZ]at h5;obtain⟨h6,h7⟩:=qe h5;refine⟨b.cs.drop off,_,by simp only[at_,hb,h4,cw,bm,cP],?_,h7⟩;simp only[ldV,h6]
  ·obtain⟨h6,h7⟩:=qe h2;refine⟨cs,_,rfl,?_,h7⟩;simp only[ldV,h6]
def Q8{e:Env}{t n:Nat}:BA e σ (t,some n)=match e.get t with
 |some a=>match at_ σ.get a with
  |some cs=>ldV n cs
  |none=>none
 |none=>none:=by
 cases n<;>rfl
def xG{e:Env}(h:LSR s σ):∀(rs:List (Nat×Option Nat))(k:List D->Rs),rvK e.get s rs k=some r->∃ds,wy e σ rs=some ds/\k ds=some r
 |[],k,hr=>⟨[],rfl,hr⟩
 |(t,o)::rs,k,hr=>by
  simp only[rvK]at hr;split at hr
  ·rename_i d hd;cases o with
   |none=>
    obtain⟨ds,h1,h2⟩:=xG h rs _ hr;exact⟨d::ds,by simp only[wy,BA,hd,h1],h2⟩
   |some n=>
    obtain⟨cs,d',h1,h2,h3⟩:=Tw h hr;obtain⟨ds,h4,h5⟩:=xG h rs _ h3;refine⟨d'::ds,?_,h5⟩;have:BA e σ (t,some n)=some d':=by
     rw[Q8,hd];simp only[h1];exact h2
    simp only[wy,this,h4]
  ·cases hr
def EZ{e:Env}{rs:List (Nat×Option Nat)}{ds:List D}(h:wy e σ rs=some ds):sE e σ rs=some (Q4 ds):=by
 unfold sE;rw[h];unfold Q4;split<;>simp_all
def B6{F:iy->Rs}:∀(n t:Nat)(e:Env)(as:List D),EG n t e.get as F=some r->F (tP e t as).get=some r
 |0,t,e,[],h=>h
 |0,t,e,a::as,h=>by cases h
 |n+1,t,e,[],h=>by cases h
 |n+1,t,e,a::as,h=>by
  have h:EG n (Nat.succ t) (sup e.get t a) as F=some r:=h;have hu:sup e.get t a=(e.set t a).get:=(JH e (some t) a).symm;rw[hu]at h;exact B6 n _ _ as h
def D7{φ n:Nat}{G:Fun}(hT:TOk Δ T)(hD:TOk Δ TD):Ao Δ G (BY φ T TD n G):=by
 intro as s σ k r h hr;unfold BY at hr;have hr:=B6 n 0 .nil as (show EG n 0 (Tr.nil:Env).get as _=some r from hr);obtain⟨m,x,e',σ',s',h1,h2,h3⟩:=VX hT hD _ _ s _ σ h hr;cases x with
 |exit id=>cases h3
 |nrm=>
  obtain⟨ds,h4,h5⟩:=xG h2 _ _ h3;exact⟨m,.nrm,e',σ',s',_,h1,λid h=>(by cases h),EZ h4,h2,h5⟩
 |ret=>
  obtain⟨ds,h4,h5⟩:=xG h2 _ _ h3;exact⟨m,.ret,e',σ',s',_,h1,λid h=>(by cases h),EZ h4,h2,h5⟩
def VY{P:Program}{im:Nat->Option Nat}(hm:P.follows .mixedOrders=true)(hΔ:DOk P im Δ)(hT:TOk Δ T)(hD:TOk Δ TD){F:FuncId}{fn:Func}{c:Code}(hf:P.funcs[F]?=some fn)(hb:fn.body=some c)
 {G:Fun} (hG:G.er=zj P im G.mode fn) (φ n:Nat):Snd P im F (BW φ T TD n G):=by
 intro as q hq;unfold BW at hq;obtain⟨m,x,e,σ',s',d,h1,h2,h3,h4,h5⟩:=D7 hT hD _ _ Sto.empty _ _ LSR.empty hq;obtain⟨q',h6,h7⟩:=DF h5;cases h7;rw[<-h4.get]at h6;exact Xi (DD hm hΔ m).1 hf hb hG h1 h2 h3 h6
end
end
end Go.Proofs.Ev
