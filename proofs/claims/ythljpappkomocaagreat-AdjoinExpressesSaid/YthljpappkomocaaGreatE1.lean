/- What the residuals compute, at all arguments. -/
import Derived.Test.YthljpappkomocaaGreatE0
import Derived.Test.YthljpappkomocaaGreatD0
import Derived.Test.YthljpappkomocaaGreatB0
import Derived.ChangeArms
set_option linter.all false
set_option maxRecDepth 10000
namespace Go.Proofs.YthljpappkomocaaGreat
open Ev
noncomputable section
section
variable {bs bs':List Blk} {i j k n m c N h H J w:Nat} {ex ey:Bool} {s:LS} {K:D→LS→Rs} {kk:IntKind} {φ:Nat} {X W:D} {R R':List IR} {P Q:List (Row×Bool)} {rows:List Row} {l r t:Row} {b:Blk}
theorem CJ{d:D}(hb:bs[w]?=some b)(hl:b.st.live=true)(hd:b.cs[i]?=some d)(hn:i<n):(eJ 1 (mem bs) (.sl w 0 n c 1 ex) (.i kk (.ofNat i)) λa s=>eK s a K)=K d (mem bs):=by
 refine th (Ah hb hl hn) ?_;rw[aV,aj];exact GC hb hl hd
theorem VE(hP:∀p,p∈P→p.1.length=n)(hk:P.length=k+1)(hs:n+k+1<100000)(hφ:1000000000≤φ)(hN:N=n+(k+1)):∀(u i fu:Nat)(bs:List Blk)(W:D)(R:List IR),i+u=k+1→u<fu→WO bs W R N→R.map Prod.snd=qH (k+1) ((P.map Prod.fst).take i)→bs[w]?=some ⟨P.map mtD,.rw⟩→jg W w→
 ∃bs' W' R',WO bs' W' R' N∧R'.map Prod.snd=qH (k+1) (P.map Prod.fst)∧
 lp (λ(_ _ _ _ _ _:D)(_:LS)=>none) (mh φ) fu (.i .i64 (.ofNat n)) (.i .i64 (.ofNat k)) W (.sl w 0 (k+1) (k+1) 1 false) (.i .i64 (.ofNat (k+1))) (.i .i64 (.ofNat i)) (mem bs)=
 lp (λ(_ _ _ _ _ _:D)(_:LS)=>none) (mh φ) (fu-u) (.i .i64 (.ofNat n)) (.i .i64 (.ofNat k)) W' (.sl w 0 (k+1) (k+1) 1 false) (.i .i64 (.ofNat (k+1))) (.i .i64 (.ofNat (k+1))) (mem bs'):=by
 intro u
 induction u with
 |zero=>
  intro i fu bs W R hi hf hO hR hb hW;have:i=k+1:=by omega
  subst this;rw[aM (by rw[aI,hk];exact aE _)]at hR;exact⟨bs,W,R,hO,hR,rfl⟩
 |succ u ih=>
  intro i fu bs W R hi hf hO hR hb hW;obtain⟨fu,rfl⟩:∃q,fu=q+1:=⟨fu-1,by omega⟩
  have hiP:i<P.length:=by omega
  have hmem:P[i]∈P:=ak hiP;have hl:=hP _ hmem;have htl:((P.map Prod.fst).take i).length=i:=by rw[aZ,aI];omega
  have hRl:R.length=i:=by
   have:=congrArg List.length hR;rw[aI]at this;rw[this];unfold qH;rw[List.length_mapIdx,htl]
  have hwlt:=ef hb;obtain⟨f1,f2⟩:=O1 hO (aE bs.length);have hB:(bs++[(⟨fl3 [] (n+(k+1)),.rw⟩:Blk)])[bs.length]?=some ⟨fl3 [] (n+(k+1)),.rw⟩:=by simp
  have hset:((bs++[(⟨fl3 [] (n+(k+1)),.rw⟩:Blk)]).set bs.length ⟨fl3 P[i].1 (k+1),.rw⟩)[bs.length]?=some ⟨fl3 P[i].1 (k+1),.rw⟩:=by rw[a7 (ef hB)]
  obtain⟨b1,W1,g1,g2,g3⟩:=VH (φ:=φ) (l:=P[i].1) (n:=n) (m:=k+1) (i:=i) (N:=N) (kr:=bs.length) (W:=W) (R:=R) (q9:=lp (λ(_ _ _ _ _ _:D)(_:LS)=>none) (mh φ) fu) (X13:=.sl w 0 (k+1) (k+1) 1 false) (X14:=.i .i64 (.ofNat (k+1))) (kq:=k) hl (by omega) (by omega) f1 (by omega) hN (by omega) (k+1) 0 φ ((bs++[(⟨fl3 [] (n+(k+1)),.rw⟩:Blk)]).set bs.length ⟨fl3 P[i].1 (k+1),.rw⟩) (by omega) (by omega) (FU (Sq hO) (λk b hk hb=>gF (Ne.symm hk) hb) f1 f2) f2 (by rw[List.replicate_zero,ba];exact hset);obtain⟨gw1,gw2⟩:=g2 w _ (by omega) hW (gF (by omega) (gI hb));obtain⟨bs',W',R',a1,a2,a3⟩:=ih (i+1) fu b1 W1 _ (by omega) (by omega) g1 (by
   rw[bq,ae,aB hiP];show _=qH (k+1) ((P.map Prod.fst).take i++[P[i].1]);rw[yz,←hR,htl,aW];rfl) gw1 gw2
  refine⟨bs',W',R',a1,a2,?_⟩;rw[eM]
  conv=>lhs;unfold mh
  refine th (fe (by omega)) (th eO (th (CJ (d:=mtD P[i]) hb rfl (by show(P.map mtD)[i]?=_;rw[ae,aB hiP];rfl) (by omega)) (th (fH (by omega)) (th (fH (by omega)) (th (Dx rfl (by omega) (by omega)) ?_)))));rw[Et,show n+k+1=n+(k+1) by omega];rw[show mtD P[i]=.tree (rs P[i].1) n P[i].2 by unfold mtD;rw[hl]];refine th (Rw hB hl) (th (fH (by omega)) ?_);rw[bj fu 1 u];rw[hN]at g3;exact g3.trans a3
theorem Hg:∀(R:List IR)(_:∀p,p∈R→∃b,bs[p.1]?=some b∧b.cs=rs p.2∧b.st.live=true∧p.2.length=N),∃(P:List (Row×Bool))(ids:List Nat),P.map Prod.fst=R.map Prod.snd∧(∀l,l∈ids→∃p,p∈R∧l=p.1)∧∀F:List D→List Nat→Rs,mg (iX (mem bs) 59) (R.map (wD N)) F=F (P.map mtD) ids
 |[],_=>⟨[],[],rfl,(λl hl=>by cases hl),λF=>rfl⟩
 |p::R,h=>by
  obtain⟨P,ids,h1,h2,h3⟩:=Hg R (λq hq=>h q (by simp[hq]));obtain⟨b,g1,g2,g3,g4⟩:=h p (by simp);have hr:∃e,∀F:D→List Nat→Rs,iX (mem bs) 59 (wD N p) F=F (.tree (rs p.2) N e) [p.1]:=by
   refine⟨cnd true (Nat.beq N N) false,λF=>?_⟩;show(jL (mem bs) p.1 λb=>cnd (lv b.st) (jN 0 b.cs λr=>iw (Nat.mul N 3) r λr=>mg (iX (mem bs) 58) r λcs ls=>my (cnd true (Nat.beq N N) false) λex=>F (.tree cs N ex) (p.1::ls)) none)=_;rw[gg g1,rN,g3,eL,gE,am,gu,show Nat.mul N 3=N*3 from rfl,g2,aC (by rw[ji];omega),oe g4,Co _ (oY p.2),ij]
  obtain⟨e,he⟩:=hr;refine⟨(p.2,e)::P,p.1::ids,by simp[h1],λl hl=>?_,λF=>?_⟩
  ·rcases bK.1 hl with rfl|hl
   ·exact⟨p,by simp,rfl⟩
   ·obtain⟨q,hq,e⟩:=h2 l hl;exact⟨q,by simp[hq],e⟩
  ·rw[bI];show(iX (mem bs) 59 (wD N p) λy a=>mg (iX (mem bs) 59) (R.map (wD N)) λys b=>ki a b λab=>F (y::ys) ab)=_;rw[he,h3,gL];rw[←g4];rfl
theorem PG(hb:bs[w]?=some b)(hl:b.st.live=true)(hc:b.cs.take k=R.map (wD N))(hk:R.length=k)(hR:∀p,p∈R→∃b,bs[p.1]?=some b∧b.cs=rs p.2∧b.st.live=true∧p.2.length=N):
 ∃(P:List (Row×Bool))(ids:List Nat)(e:Bool),P.map Prod.fst=R.map Prod.snd∧(∀l,l∈ids→l=w∨∃p,p∈R∧l=p.1)∧∀F:D→List Nat→Rs,iX (mem bs) 60 (.sl w 0 k c 1 ex) F=F (.tree (P.map mtD) k e) ids:=by
 obtain⟨P,ids,h1,h2,h3⟩:=Hg R hR;have hle:k≤b.cs.length:=by
  have:=congrArg List.length hc;rw[aZ,aI]at this;omega
 refine⟨P,w::ids,cnd ex (Nat.beq c k) false,h1,λl hl'=>?_,λF=>?_⟩
 ·rcases bK.1 hl' with rfl|hl'
  ·exact Or.inl rfl
  ·exact Or.inr (h2 l hl')
 ·show(jL (mem bs) w λb=>cnd (lv b.st) (jN 0 b.cs λr=>iw (Nat.mul k 1) r λr=>mg (iX (mem bs) 59) r λcs ls=>my (cnd ex (Nat.beq c k) false) λex=>F (.tree cs k ex) (w::ls)) none)=_;rw[gg hb,rN,hl,eL,gE,am,gu,show Nat.mul k 1=k from aj k,aC hle,hc,h3,ij]
theorem RF{M:List D→Option D}{cs:List D}{n' z:Nat}(hb:bs[k]?=some b)(hc:b.cs.take (n*3)=rs l)(hl:b.st.live=true)(hn:l.length=n)(h:∀ex',M [.tree (rs l) n ex']=some (.own cs n' z)):
 eS M [.sl k 0 n c 3 ex] (mem bs) K=K (.sl bs.length 0 n' n' z false) (mem (bs.set k ⟨b.cs,fzS b.st⟩++[⟨cs,.rw⟩])):=by
 obtain⟨e1,h1⟩:=F8 (bs:=bs) (c:=c) (ex:=ex) (j:=58) (F:=λy a=>ki a [] λab=>ob (M [y]) λr=>iz (mem bs) ab r K) hb hc hl hn;refine h1.trans ?_;rw[gL,h,gN];unfold iz;rw[kx];show vI [k] (mem bs) (λs=>lP s ⟨cs,.rw⟩ λs'=>K (.sl s.nx 0 n' n' z false) s')=_;rw[xy hb,kB,jQ,bB]
theorem U7{rows:List Row}(hb:bs[w]?=some b)(hl:b.st.live=true)(hc:b.cs.take k=R.map (wD N))(hk:R.length=k)(hR:∀p,p∈R→∃b,bs[p.1]?=some b∧b.cs=rs p.2∧b.st.live=true∧p.2.length=N)(hrows:R.map Prod.snd=rows)
 (hE:∀(P:List (Row×Bool)) e,P.map Prod.fst=rows→Gk N H rows (mF φ [.tree (P.map mtD) k e])) (hlt:∀p,p∈R→p.1<bs.length):
 ∃(R':List IR)(Q:List (Row×Bool))(bs':List Blk)(X:D),R'.map Prod.snd=ech rows∧Q.map Prod.fst=(Mv R').map Prod.snd∧(∀q,q∈Q→q.1.length=N∧RH H q.1)∧bs.length≤bs'.length∧(∀k b,k≠w→(∀p,p∈R→p.1≠k)→bs[k]?=some b→bs'[k]?=some b)∧
  (X=.sl bs.length 0 Q.length Q.length 1 false∧bs'[bs.length]?=some ⟨Q.map mtD,.rw⟩∨Q=[]∧X=.tree [] 0 true)∧eS (mF φ) [.sl w 0 k c 1 ex] (mem bs) K=K X (mem bs'):=by
 obtain⟨P,ids,e,p1,p2,p3⟩:=PG (c:=c) (ex:=ex) hb hl hc hk hR;obtain⟨R',Q,q1,q2,q3,q4⟩:=hE P e (by rw[p1,hrows]);have hwl:=ef hb;obtain⟨b1,f1,f2,f3⟩:=Ug ids bs (λl hl=>by
  rcases p2 l hl with rfl|⟨p,hp,rfl⟩
  ·exact hwl
  ·exact hlt p hp)
 have hnot:∀k,k≠w→(∀p,p∈R→p.1≠k)→k∉ids:=λk hk hp hm=>by
  rcases p2 k hm with rfl|⟨p,hp',rfl⟩
  ·exact hk rfl
  ·exact hp p hp' rfl
 have e0:eS (mF φ) [.sl w 0 k c 1 ex] (mem bs) K=ob (mF φ [.tree (P.map mtD) k e]) λr=>iz (mem bs) ids r K:=by
  show iX (mem bs) 60 (.sl w 0 k c 1 ex) (λy a=>ki a [] λab=>ob (mF φ [y]) λr=>iz (mem bs) ab r K)=_;rw[p3,gL,ba]
 rcases q4 with q4|⟨q4,q5⟩
 ·refine⟨R',Q,b1++[⟨Q.map mtD,.rw⟩],.sl bs.length 0 Q.length Q.length 1 false,q1,q2,q3,by simp;omega,λk b hk hp hb=>gI (f2 k b (hnot k hk hp) hb),Or.inl ⟨rfl,by rw[←f1];simp⟩,?_⟩;rw[e0,q4,gN];unfold iz;rw[kx];show vI ids (mem bs) (λs=>lP s ⟨Q.map mtD,.rw⟩ λs'=>K (.sl s.nx 0 Q.length Q.length 1 false) s')=_;rw[f3,kB,jQ,f1]
 ·refine⟨R',Q,b1,.tree [] 0 true,q1,q2,q3,by omega,λk b hk hp hb=>f2 k b (hnot k hk hp) hb,Or.inr ⟨q4,rfl⟩,?_⟩;rw[e0,q5,gN];unfold iz;rw[kx];show vI ids (mem bs) (λs=>K (.tree [] 0 true) s)=_;rw[f3]
end
section
variable {bs bs':List Blk} {i j k n m c N h H J w kr ke:Nat} {ex ey:Bool} {s:LS} {K:D→LS→Rs} {kk:IntKind} {φ:Nat} {X W:D} {R R':List IR} {P Q:List (Row×Bool)} {rows:List Row} {l r t:Row} {b:Blk}
theorem Eg{E:List Row}:u9 n (E++[l])=if pvt l<n then u9 n E++[l]else u9 n E:=by
 unfold u9;rw[List.filter_append];by_cases hp:pvt l<n
 ·rw[aC hp];simp[hp]
 ·rw[aF hp];simp[hp]
theorem Qc{E:List Row}:(u9 n E).length≤E.length:=List.length_filter_le _ _
theorem VF(hφ:3000000000≤φ)(hN:N<1000000000)(hn:n≤N)(hX:Q≠[]→X=.sl ke 0 Q.length Q.length 1 false)(hke:ke≠kr)(hQ:∀q,q∈Q→q.1.length=N∧RH H q.1)(hpv:∀q,q∈Q→pvt q.1<N)(hr:r.length=N)(hh:RH h r)(hK:h+(Q.length+1)*(H+2)≤KB)(hl:Q.length<1000000){x54:D}:
 ∀(j i fu:Nat)(bs:List Blk),i+j=Q.length→j<fu→(Q≠[]→bs[ke]?=some ⟨Q.map mtD,.rw⟩)→bs[kr]?=some ⟨rs (sH (u9 n ((Q.map Prod.fst).take i)) r),.rw⟩→
 ∃bs',bs'[kr]?=some ⟨rs (sH (u9 n (Q.map Prod.fst)) r),.rw⟩∧
 lp (λ(_ _ _ _ _ _:D)(_:LS)=>none) (kM φ) fu (.i .i64 (.ofNat n)) x54 (.sl kr 0 N N 3 false) X (.i .i64 (.ofNat Q.length)) (.i .i64 (.ofNat i)) (mem bs)=
 lp (λ(_ _ _ _ _ _:D)(_:LS)=>none) (kM φ) (fu-j) (.i .i64 (.ofNat n)) x54 (.sl kr 0 N N 3 false) X (.i .i64 (.ofNat Q.length)) (.i .i64 (.ofNat Q.length)) (mem bs'):=by
 intro j
 induction j with
 |zero=>
  intro i fu bs hi hf he hb;have:i=Q.length:=by omega
  subst this;rw[aM (by rw[aI];exact aE _)]at hb;exact⟨bs,hb,rfl⟩
 |succ j ih=>
  intro i fu bs hi hf he hb;obtain⟨fu,rfl⟩:∃q,fu=q+1:=⟨fu-1,by omega⟩
  have hiQ:i<Q.length:=by omega
  have hmem:Q[i]∈Q:=ak hiQ;have hne:Q≠[]:=λe=>by subst e;simp at hiQ
  have hX':=hX hne;have he':=he hne;obtain⟨ql,qh⟩:=hQ _ hmem;have qp:=hpv _ hmem;have htake:(Q.map Prod.fst).take (i+1)=(Q.map Prod.fst).take i++[Q[i].1]:=by
   rw[bq,ae,aB hiQ];rfl
  have hEi:∀l,l∈u9 n ((Q.map Prod.fst).take i)→l.length=N∧RH H l:=λl hl=>by
   have h1:=br (cJ.1 hl).1;obtain⟨q,hq,rfl⟩:=av.1 h1;exact hQ q hq
  have hcl:=vj (λl hl=>(hEi l hl).1) hr;have hcr:=B3 hEi hr hh;have hlen:(u9 n ((Q.map Prod.fst).take i)).length≤i:=bP Qc (by rw[aZ];omega);have hcr:=uX hcr (show h+(u9 n ((Q.map Prod.fst).take i)).length*(H+2)≤h+i*(H+2)from Nat.add_le_add_left (aL _ hlen) _);have hbound:h+i*(H+2)+H+1≤KB:=by
   have h5:=aL (H+2) (show i+1≤Q.length+1 by omega);rw[aS i 1,bG]at h5;omega
  have rd:∀F:D→LS→Rs,(eJ 1 (mem bs) X (.i .i64 (.ofNat i)) λa s=>eK s a F)=F (mtD Q[i]) (mem bs):=λF=>by
   rw[hX'];exact CJ he' rfl (by show(Q.map mtD)[i]?=_;rw[ae,aB hiQ];rfl) hiQ
  have hpd:∀F:D→LS→Rs,eS (lC φ) [mtD Q[i]] (mem bs) F=F (.i .i64 (.ofNat (pvt Q[i].1))) (mem bs):=λF=>by
   refine(CO (v:=pvD Q[i].1) (l:=Q[i].1) RVal.tr (λe=>AX (by omega) (by omega) e) zW).trans ?_;unfold pvD;rw[aC (by omega)]
  by_cases hp:pvt Q[i].1<n
  ·obtain⟨b1,g1,g2,g3⟩:=AW (φ:=φ) (c:=N) (ex:=false) (L:=mtD Q[i]) (l:=Q[i].1) (kk':=λ_ s=>eZ (.i .i64 (.ofNat i)) (.i .i64 (.ofNat 1)) λx67=>lp (λ(_ _ _ _ _ _:D)(_:LS)=>none) (kM φ) fu (.i .i64 (.ofNat n)) x54 (.sl kr 0 N N 3 false) X (.i .i64 (.ofNat Q.length)) x67 s) hcl ql hb RVal.tr (λo n m z e he=>by unfold mtD at he;cases he) (HD hcr qh hbound (pvt Q[i].1)) hN hφ;obtain⟨bs',a1,a2⟩:=ih (i+1) fu b1 (by omega) (by omega) (λ_=>g2 _ _ hke he') (by rw[htake,Eg,aC hp,E3];exact g1);refine⟨bs',a1,?_⟩;rw[eM]
   conv=>lhs;unfold kM
   refine th (fe (by omega)) (th eO (th om (th (rd _) (th (hpd _) (th (fe hp) (th eO (th (Ct hb rfl rfl (by omega) (by omega)) (g3.trans (th (fH (by omega)) ?_)))))))));rw[bj fu 1 j];exact a2
  ·obtain⟨bs',a1,a2⟩:=ih (i+1) fu bs (by omega) (by omega) he (by rw[htake,Eg,aF hp];exact hb);refine⟨bs',a1,?_⟩;rw[eM]
   conv=>lhs;unfold kM
   refine th (fe (by omega)) (th eO (th om (th (rd _) (th (hpd _) (th (gA hp) (th eP (th (fH (by omega)) ?_)))))));rw[bj fu 1 j];exact a2
theorem Kv(hb:bs[k]?=some ⟨rs l,.rw⟩)(hn:l.length=n){x:Bool}:eW true (mem bs) (.tup [.sl k 0 n c 3 ex,.b x]) some=some (.tup [.own (rs l) n 3,.b x]):=by
 unfold eW;rw[kx];show uO (mT true (mem bs).get fj (.tup [.sl k 0 n c 3 ex,.b x])) some=_;have hcut:cut 0 (n*3) (rs l)=some (rs l):=by
  unfold cut;rw[am,oe hn,aC (by rw[ji,hn])]
 have:mT true (mem bs).get fj (.tup [.sl k 0 n c 3 ex,.b x])=some (.tup [.own (rs l) n 3,.b x]):=by
  have e1:pu true (mem bs).get 60 (.sl k 0 n c 3 ex)=some (.own (rs l) n 3,[k],[]):=by
   show(match (mem bs).get k with
    |some b=>if b.st.wr then match cut 0 (n*3) b.cs with
     |some r=>match gr (res (mem bs).get 60) r with
      |some (cs,ls)=>some (D.own cs n 3,[k],ls)
      |none=>none
     |none=>none
     else wy (res (mem bs).get 60 (.sl k 0 n c 3 ex))
    |none=>none)=_
   rw[kj,hb];show(match cut 0 (n*3) (rs l)with
    |some r=>match gr (res (mem bs).get 60) r with
     |some (cs,ls)=>some (D.own cs n 3,[k],ls)
     |none=>none
    |none=>none)=_
   rw[hcut];show(match gr (res (mem bs).get 60) (rs l)with
    |some (cs,ls)=>some (D.own cs n 3,[k],ls)
    |none=>none)=_
   rw[jV (k:=59) _ (oY l)]
  show(match pu true (mem bs).get 60 (.sl k 0 n c 3 ex),gr (res (mem bs).get 60) [D.b x]with
   |some (d,o,ls),some (ds,ls')=>if o.all λl=> !(ls++ls').contains l then some (D.tup (d::ds))else none
   |_,_=>none)=_
  rw[e1];rfl
 rw[this,gV];rfl
theorem VG(hN:N<1000000000)(hn:n+k≤N)(hr:r.length=N)(hb:bs[kr]?=some ⟨rs r,.rw⟩){ko:Nat}(hko:ko≠kr):∀(u j fu:Nat)(bs:List Blk),j+u=k→u<fu→bs[kr]?=some ⟨rs r,.rw⟩→bs[ko]?=some ⟨fl3 (lst j (λj=> -(ent r (n+j)))) u,.rw⟩→
 lp (λ(_ _ _ _ _:D)(_:LS)=>none) (nZ φ) fu (.i .i64 (.ofNat n)) (.sl kr 0 N N 3 false) (.sl ko 0 k k 3 true) (.i .i64 (.ofNat k)) (.i .i64 (.ofNat j)) (mem bs)=some (.tup [.own (rs (lst k (λj=> -(ent r (n+j))))) k 3,.b true]):=by
 intro u
 induction u with
 |zero=>
  intro j fu bs hj hf hb ho;obtain⟨fu,rfl⟩:∃q,fu=q+1:=⟨fu-1,by omega⟩
  have:j=k:=by omega
  subst this;rw[Eu]at ho;rw[eM];unfold nZ;exact th (gA (by omega)) (th eP (Kv ho gp))
 |succ u ih=>
  intro j fu bs hj hf hb ho;obtain⟨fu,rfl⟩:∃q,fu=q+1:=⟨fu-1,by omega⟩
  have hw:=OZ (q:= -(ent r (n+j))) (n:=k) (c:=k) (ex:=true) (kk:=.i64) (K:=λ_ s=>eZ (.i .i64 (.ofNat j)) (.i .i64 (.ofNat 1)) λx96=>lp (λ(_ _ _ _ _:D)(_:LS)=>none) (nZ φ) fu (.i .i64 (.ofNat n)) (.sl kr 0 N N 3 false) (.sl ko 0 k k 3 true) (.i .i64 (.ofNat k)) x96 s) ho (by rw[gp];omega);rw[gp]at hw;have h1:=ih (j+1) fu (bs.set ko ⟨fl3 (lst (j+1) (λj=> -(ent r (n+j)))) u,.rw⟩) (by omega) (by omega) (gF hko hb) (by rw[a7 (ef ho)]);rw[eM];unfold nZ;refine th (fe (by omega)) (th eO (th (fH (by omega)) (th (Ct hb rfl rfl (by omega) (by omega)) (th (jk Wm rfl) (hw.trans (th (fH (by omega)) ?_))))));rw[←rO];exact h1
theorem Uv{E E':List Row}(h:EI N rows E)(hp:E'.Perm E):EI N rows E':=by
 refine⟨λl hl=>h.len l (hp.mem_iff.1 hl),λl hl=>h.sub l (hp.mem_iff.1 hl),λr hr=>vL (λl hl=>hp.mem_iff.2 hl) (h.sup r hr),λe he=>?_,?_⟩
 ·exact h.red.1 e ((hp.map pr).mem_iff.1 he)
 ·exact((hp.map pr).pairwise_iff (λ{a b} hab=>⟨hab.2,hab.1⟩)).2 h.red.2
theorem Kt{m:Nat}(hr:RH h r)(hi:i<m):RH (h+1) (r++unt m i):=by
 obtain⟨D,M,a,b,c,d⟩:=hr;refine⟨D,M+D,a,fD b (by omega),xI c b,λj=>?_⟩;rw[qb];split
 ·exact nS (d j) (by omega)
 ·rw[zD hi];split
  ·refine nS (N:=D) ?_ (by omega);unfold Ht;rw[z2g];exact GI D
  ·exact nS ue (a9 _)
theorem Ry(hφ:3000000000≤φ)(hN:N<1000000000)(hn:n+k+1=N)(hr:r.length=N)(hk:k<100000){fu:Nat}{Y:D}{q':Nat}(hq':q'<1000000)(hb:bs[kr]?=some ⟨rs r,.rw⟩):
 lp (λ(_ _ _ _ _ _:D)(_:LS)=>none) (kM φ) (fu+1) (.i .i64 (.ofNat n)) (.i .i64 (.ofNat k)) (.sl kr 0 N N 3 false) Y (.i .i64 (.ofNat q')) (.i .i64 (.ofNat q')) (mem bs)=
 if pvt r<n then some (.tup [.tree [] 0 true,.b false])else some (.tup [.own (rs (lst k (λj=> -(ent r (n+j))))) k 3,.b true]):=by
 have hpd:∀F:D→LS→Rs,eS (lC φ) [.sl kr 0 N N 3 false] (mem bs) F=F (pvD r) (mem bs):=λF=>CO (by rw[←hr];exact F2 hb) (λe=>AX (by omega) (by omega) e) zW;have h1:=VG (φ:=φ) (n:=n) (k:=k) (N:=N) (r:=r) (kr:=kr) hN (by omega) hr hb (ko:=bs.length) (by have:=ef hb;omega) k 0 φ (bs++[⟨fl3 [] k,.rw⟩]) (by omega) (by omega) (gI hb) (by simp;rfl);have fin:∀F:Rs,F=(ku 3 40 [.b false,.n 0,.n 0] (mem bs) (.i .i64 (.ofNat k)) (.i .i64 (.ofNat k)) λx82 s=>ek x82 s λx83 s=>lp (λ(_ _ _ _ _:D)(_:LS)=>none) (nZ φ) φ (.i .i64 (.ofNat n)) (.sl kr 0 N N 3 false) x82 x83 (.i .i64 (.ofNat 0)) s)→F=some (.tup [.own (rs (lst k (λj=> -(ent r (n+j))))) k 3,.b true]):=λF hF=>by
  rw[hF];refine th (Dx rfl (by omega) (by omega)) (th mX ?_);rw[Et];exact h1
 rw[eM];unfold kM;refine th (gA (bC _)) (th eP (th (hpd _) ?_));by_cases hp:pvt r<r.length
 ·rw[show pvD r=.i .i64 (.ofNat (pvt r)) by unfold pvD;rw[aC hp]];refine th (qR (a9 _)) (th eo (th eo (th (hpd _) ?_)));rw[show pvD r=.i .i64 (.ofNat (pvt r)) by unfold pvD;rw[aC hp]];by_cases hc:pvt r<n
  ·rw[aC hc];exact th eo (th eo (th (fe hc) (th fQ (th eO rfl))))
  ·rw[aF hc];exact th eo (th eo (th (gA hc) (th fQ (th eP (fin _ rfl)))))
 ·rw[show pvD r=.i .i64 (.negSucc 0) by unfold pvD;rw[aF hp],aF (by omega)];exact th ol (th fX (th fX (th fX (th fX (th gD (th eP (fin _ rfl)))))))
theorem NS(hφ:3000000000≤φ)(hP:∀p,p∈P→p.1.length=n∧RH h p.1)(hk:P.length=k)(hk12:k≤12)(hn0:0<n)(hs:n<10000)(ht:t.length=n)(hth:RH h t)(hK:hgt (h+1) (k+1)≤KB){ea et:Bool}:
 ∃E:List Row,EI (n+(k+1)) (qH (k+1) (P.map Prod.fst)) E∧jo φ [.tree (P.map mtD) k ea,.tree (rs t) n et]=if pvt (qO n E t k)<n then some (.tup [.tree [] 0 true,.b false])else some (.tup [.own (rs (MU n E t k)) k 3,.b true]):=by
 obtain⟨PT,hPT⟩:∃PT,P++[(t,et)]=PT:=⟨_,rfl⟩
 have hPTm:P.map mtD++[.tree (rs t) n et]=PT.map mtD:=by
  rw[←hPT,aW];show _=P.map mtD++[mtD (t,et)]
  unfold mtD;rw[ht]
 have hPTl:PT.length=k+1:=by rw[←hPT];simp[hk]
 have hPTf:PT.map Prod.fst=P.map Prod.fst++[t]:=by rw[←hPT];simp
 have hPTn:∀p,p∈PT→p.1.length=n:=λp hp=>by
  rw[←hPT]at hp;rcases au.1 hp with hp|hp
  ·exact(hP p hp).1
  ·have:p=(t,et):=by simpa using hp
   subst this;exact ht
 have hwide:qH (k+1) (PT.map Prod.fst)=qH (k+1) (P.map Prod.fst)++[t++unt (k+1) k]:=by
  rw[hPTf,yz,aI,hk]
 have hrl:∀r,r∈P.map Prod.fst→r.length=n:=λr hr=>by
  obtain⟨p,hp,rfl⟩:=av.1 hr;exact(hP p hp).1
 obtain⟨N,hN⟩:∃N,n+(k+1)=N:=⟨_,rfl⟩
 have hwl:∀r,r∈qH (k+1) (P.map Prod.fst)→r.length=N:=by rw[←hN];exact O2 hrl
 have hwh:∀r,r∈qH (k+1) (P.map Prod.fst)→RH (h+1) r:=λr hr=>by
  obtain⟨j,hj,rfl⟩:=wq hr;have hm:=ak hj;rw[aI]at hj;obtain⟨p,hp,e⟩:=av.1 hm;rw[←e];exact Kt (hP p hp).2 (by omega)
 have hei:=Xn hwl;have hclone:∃bs0 X0,AS 1 bs0 X0 (P.map mtD) k∧∀F:D→LS→Rs,eS (pP (fk φ)) [.tree (P.map mtD) k ea] (mem []) F=F X0 (mem bs0):=by
  by_cases hP0:P=[]
  ·subst hP0;have:k=0:=by simpa using hk.symm
   subst this;exact⟨[],.tree [] 0 true,AS.nil,λF=>fF rfl⟩
  ·refine⟨[⟨P.map mtD,.rw⟩],.sl 0 0 k k 1 false,AS.blk rfl (by rw[aI];omega),λF=>?_⟩;refine(xR (Th (φ:=φ) (ex:=ea) hk hP0 (by omega))).trans ?_;rw[lU,jQ];rfl
 obtain⟨bs0,X0,c1,c2⟩:=hclone;obtain⟨bs1,X7,d1,_,d2⟩:=ap1 (bytes:=24) (zero:=[.tree [] 0 true]) (x:=.tree (rs t) n et) (new:=[.tree (rs t) n et]) (K:=λx7 s=>ek x7 s λx8 s=>lp (λ(_ _ _ _ _ _:D)(_:LS)=>none) (mh φ) φ (.i .i64 (.ofNat n)) (.i .i64 (.ofNat k)) (.tree [] 0 true) x7 x8 (.i .i64 (.ofNat 0)) s) c1 rfl rfl rfl rfl (by omega) (by omega);rw[hPTm]at d1;obtain⟨w,hX7,hw⟩:∃w,X7=.sl w 0 (k+1) (k+1) 1 false∧bs1[w]?=some ⟨PT.map mtD,.rw⟩:=by
  generalize hcs:PT.map mtD=cs at d1;generalize hnn:k+1=nn at d1;cases d1 with
  |nil=>omega
  | @blk l _ _ hg hc=>exact⟨l,rfl,hg⟩
 subst hX7;obtain⟨bs2,W,R,g1,g2,g3⟩:=VE (φ:=φ) (P:=PT) (n:=n) (k:=k) (N:=N) (w:=w) hPTn hPTl (by omega) (by omega) hN.symm (k+1) 0 φ bs1 (.tree [] 0 true) [] (by omega) (by omega) WE (by rw[dB];rfl) hw (λo n m z e h=>by cases h);rw[hwide]at g2;have hRl:R.length=k+1:=by
  have:=congrArg List.length g2;rw[aI,ay]at this;rw[this];unfold qH;simp[hk]
 have hkR:k<R.length:=by omega
 have hp2:R[k].2=t++unt (k+1) k:=by
  have:(R.map Prod.snd)[k]?=some (t++unt (k+1) k):=by
   rw[g2,bJ (by unfold qH;simp[hk])];unfold qH;simp[hk]
  rw[ae,aB hkR]at this;simpa using this
 have hRk:(R.take k).map Prod.snd=qH (k+1) (P.map Prod.fst):=by
  rw[dp,g2,List.take_append_of_le_length (by unfold qH;simp[hk]),aM (by unfold qH;simp[hk])]
 have hpm:R[k]∈R:=ak hkR;obtain⟨hpb,hpl⟩:=g1.rows _ hpm;obtain⟨v,hWv,hv⟩:∃v,W=.sl v 0 (k+1) (k+1) 1 false∧bs2[v]?=some ⟨R.map (wD N),.rw⟩:=by
  have:=g1.as;generalize hcs:R.map (wD N)=cs at this;generalize hnn:R.length=nn at this;cases this with
  |nil=>omega
  | @blk l _ _ hg hc=>exact⟨l,by rw[←hRl,hnn],hg⟩
 have hvp:∀p,p∈R→p.1≠v:=λp hp e=>g1.nb p hp 0 (k+1) (k+1) 1 false (by rw[hWv,e]);obtain⟨bs3,hbs3⟩:∃bs3,bs2.set R[k].1 ⟨rs R[k].2,fzS .rw⟩++[(⟨rs R[k].2,.rw⟩:Blk)]=bs3:=⟨_,rfl⟩
 have hl3:bs3.length=bs2.length+1:=by rw[←hbs3];simp
 have hb3v:bs3[v]?=some ⟨R.map (wD N),.rw⟩:=by rw[←hbs3];exact gI (gF (hvp _ hpm) hv)
 have hb3r:bs3[bs2.length]?=some ⟨rs R[k].2,.rw⟩:=by rw[←hbs3];simp
 have hb3p:∀p,p∈R→∃b,bs3[p.1]?=some b∧b.cs=rs p.2∧b.st.live=true∧p.2.length=N:=λp hp=>by
  obtain⟨e1,e2⟩:=g1.rows p hp;by_cases he:p.1=R[k].1
  ·have e3:rs p.2=rs R[k].2:=by
    rw[he,hpb]at e1;exact(Blk.mk.inj (cK e1)).1.symm
   exact⟨⟨rs R[k].2,fzS .rw⟩,by rw[←hbs3,he];exact gI (by rw[a7 (ef hpb)]),e3.symm,rfl,e2⟩
  ·exact⟨⟨rs p.2,.rw⟩,by rw[←hbs3];exact gI (gF (Ne.symm he) e1),rfl,rfl,e2⟩
 have hlt2:∀p,p∈R→p.1<bs2.length:=λp hp=>ef (g1.rows p hp).1;obtain⟨R2,Q,bs4,X50,q1,q2,q3,q4,q5,q6,q7⟩:=U7 (φ:=φ) (bs:=bs3) (w:=v) (k:=k) (N:=N) (H:=hgt (h+1) k) (c:=k+1) (ex:=false) (R:=R.take k) (b:=⟨R.map (wD N),.rw⟩) (rows:=qH (k+1) (P.map Prod.fst)) (K:=λx50 s=>ek x50 s λx51 s=>lp (λ(_ _ _ _ _ _:D)(_:LS)=>none) (kM φ) φ (.i .i64 (.ofNat n)) (.i .i64 (.ofNat k)) (.sl bs2.length 0 N N 3 false) x50 x51 (.i .i64 (.ofNat 0)) s) hb3v rfl (by show(R.map (wD N)).take k=_;rw[dp]) (by rw[aZ];omega) (λp hp=>hb3p p (br hp)) hRk (λP' e' hP'=>by
  rw[←hP'];refine QA (h:=h+1) (J:=k) hφ (by omega) (by omega) (λp hp=>?_) (by
   have:=congrArg List.length hP';rw[aI]at this;rw[this];unfold qH;simp[hk]) (by omega) (λi hi=>?_) hk12 hK
  ·have hm:p.1∈qH (k+1) (P.map Prod.fst):=by rw[←hP'];exact bM hp
   exact⟨hwl _ hm,hwh _ hm⟩
  ·refine bP (KO _ []) ?_;rw[aZ];simp;omega) (λp hp=>by have:=hlt2 p (br hp);omega)
 have hE:EI N (qH (k+1) (P.map Prod.fst)) (Q.map Prod.fst):=by
  rw[q2];exact Uv (hei) (by rw[←q1];exact(AP R2).map Prod.snd)
 have hQl:Q.length≤k:=by
  have h1:=congrArg List.length q2;rw[aI,aI,(AP R2).length_eq]at h1;have h2:=congrArg List.length q1;rw[aI]at h2;have h3:=KO (qH (k+1) (P.map Prod.fst)) [];have h4:(qH (k+1) (P.map Prod.fst)).length=k:=by unfold qH;simp[hk]
  unfold ech at h2;simp only[c9]at h3;omega
 have hb4:bs4[bs2.length]?=some ⟨rs R[k].2,.rw⟩:=q5 _ _ (by have:=ef hv;omega) (λp hp=>by have:=hlt2 p (br hp);omega) hb3r;have hlast:RH (h+1) (t++unt (k+1) k):=Kt hth (by omega);have hll:(t++unt (k+1) k).length=N:=by rw[ay,zC,ht];exact hN
 have hX50:∀F:D→LS→Rs,∀s,ek X50 s F=F (.i .i64 (.ofNat Q.length)) s:=λF s=>by
  rcases q6 with⟨e,_⟩|⟨e,e'⟩
  ·rw[e];rfl
  ·rw[e',e];rfl
 rw[hp2]at hb4;obtain⟨bs5,z1,z2⟩:=VF (φ:=φ) (n:=n) (N:=N) (ke:=bs3.length) (kr:=bs2.length) (H:=hgt (h+1) k) (h:=h+1) (Q:=Q) (X:=X50) (r:=t++unt (k+1) k) (x54:=.i .i64 (.ofNat k)) hφ (by omega) (by omega) (λhne=>by
  rcases q6 with⟨e,_⟩|⟨e,_⟩
  ·exact e
  ·exact absurd e hne) (by omega) q3 (λq hq=>by
  have hm:q.1∈Q.map Prod.fst:=bM hq;have:=B8 (hE.red.lead hm);rw[hE.len _ hm]at this;exact this) hll hlast (by
  have:h+1+(Q.length+1)*(hgt (h+1) k+2)≤hgt (h+1) (k+1):=by
   show _≤h+1+(k+1)*(hgt (h+1) k+2);exact Nat.add_le_add_left (aL _ (by omega)) _
  omega) (by omega) Q.length 0 φ bs4 (by omega) (by omega) (λhne=>by
  rcases q6 with⟨_,e⟩|⟨e,_⟩
  ·exact e
  ·exact absurd e hne) (by rw[dB];exact hb4)
 rw[←hN]at hE;refine⟨Q.map Prod.fst,hE,?_⟩;obtain⟨u1,hu1⟩:∃u,φ-(k+1)=u+1:=⟨φ-(k+1)-1,by omega⟩
 obtain⟨u2,hu2⟩:∃u,φ-Q.length=u+1:=⟨φ-Q.length-1,by omega⟩
 have hend:=Ry (φ:=φ) (bs:=bs5) (kr:=bs2.length) (r:=sH (u9 n (Q.map Prod.fst)) (t++unt (k+1) k)) (n:=n) (k:=k) (N:=N) (fu:=u2) (Y:=X50) (q':=Q.length) hφ (by omega) (by omega) (vj (λl hl=>by rw[hN]at hE;exact hE.len l (cJ.1 hl).1) hll) (by omega) (by omega) z1;unfold jo;dsimp only[eV,eY];rw[←fw];refine th fO (th fO ((c2 _).trans (d2.trans (th mX (g3.trans ?_)))));rw[hu1,eM];unfold mh;refine th (gA (bC _)) (th eP (th (Ma g1.as (d:=wD N R[k]) (by rw[ae,aB hkR];rfl)) ?_));refine th (RF (n:=N) (l:=R[k].2) (b:=⟨rs R[k].2,.rw⟩) hpb (oe hpl) rfl hpl (λex'=>LJ (φ:=φ) (ex:=ex') hpl (λe=>by rw[e]at hpl;simp at hpl;omega) (by omega))) ?_;rw[hbs3,hWv];refine th (CH (z:=1) hb3v rfl (by omega) (by omega)) (q7.trans ((hX50 _ _).trans (z2.trans ?_)));rw[hu2];exact hend
end
section
variable {bs bs':List Blk} {i j k n m c w d D' N' M':Nat} {ex ey:Bool} {s:LS} {K:D→LS→Rs} {kk:IntKind} {φ:Nat} {X W:D} {P Q:List (Row×Bool)} {rows:List Row} {l r t g a b:Row}
theorem XZ(hk:k≤5):hgt (5000+1) (k+1)≤KB:=bP (Jw _ (show k+1≤6 by omega)) (by decide)
theorem C3(hφ:3000000000≤φ)(hP:∀p,p∈P→p.1.length=n∧RH 5000 p.1)(hk:P.length=k)(hk5:k≤5)(hn0:0<n)(hs:n<10000)(ht:t.length=n)(hth:RH 5000 t){ea et:Bool}:
 (Sp (P.map Prod.fst) (ent t)→∃cs:Row,cs.length=k∧(∀i,ent t i=lc cs (P.map Prod.fst) i)∧jo φ [.tree (P.map mtD) k ea,.tree (rs t) n et]=some (.tup [.own (rs cs) k 3,.b true]))∧
 (¬Sp (P.map Prod.fst) (ent t)→jo φ [.tree (P.map mtD) k ea,.tree (rs t) n et]=some (.tup [.tree [] 0 true,.b false])):=by
 obtain⟨E,h1,h2⟩:=NS (φ:=φ) (ea:=ea) (et:=et) hφ hP hk (by omega) hn0 hs ht hth (XZ hk5);have hrl:∀r,r∈P.map Prod.fst→r.length=n:=λr hr=>by
  obtain⟨p,hp,rfl⟩:=av.1 hr;exact(hP p hp).1
 have hiff:=Rx h1 (by rw[aI];exact hk) hrl ht;constructor
 ·intro hsp;have ho:=hiff.2 hsp;refine⟨MU n E t k,by simp[MU],λi=>MT h1 (by rw[aI];exact hk) hrl ht ho i,?_⟩;rw[h2,aF (by omega)]
 ·intro hsp;have ho:¬n≤pvt (qO n E t k):=λh=>hsp (hiff.1 h);rw[h2,aC (by omega)]
theorem EL.mb(h:EL g a d D' N' M')(hj:j≤6):MB (pwL g a j) a (D'^j) (pwc d N' M'^j) D' N':=by
 have hd5:=h.hd5;have hl:=zV (g:=g) (a:=a) (by rw[h.hm];have:=h.hd;omega) j;rw[h.hm]at hl;have b1:(330+1)*j≤(330+1)*6:=aT _ hj;have b2:(600+1)*j≤(600+1)*6:=aT _ hj;have l1:=uv h.lD j;have l2:=uv h.lc j;have l3:Lg 2 ((pwL g a j).length+1):=wh (by show _<8;omega);have l4:=jW l3 (jW l2 h.lN);exact⟨h.hb j,h.ha,bN h.d0,h.d0,fD l1 (by show _≤200000000;omega),fD l2 (by show _≤200000000;omega),fD h.lD (by decide),fD h.lN (by decide),fD (jW l1 h.lD) (by show _≤200000000;omega),fD l4 (by show _≤200000000;omega)⟩
theorem EL.lt(h:EL g a d D' N' M')(hj:j≤6)(e:Nat)(he:e≤20):Lg 100000 ((pwL g a j).length*(pwc d N' M'^j*N')*(1+M')^e):=by
 have hd5:=h.hd5;have hl:=zV (g:=g) (a:=a) (by rw[h.hm];have:=h.hd;omega) j;rw[h.hm]at hl;have b2:(600+1)*j≤(600+1)*6:=aT _ hj;have l2:=uv h.lc j;have l3:Lg 2 (pwL g a j).length:=wh (by show _<8;omega);have h1M:Lg 41 (1+M'):=xI (j:=40) (m:=1) (n:=M') (wh (by decide)) h.lM;have l4:=jW (jW l3 (jW l2 h.lN)) (uv h1M e);have b3:(41+1)*e≤(41+1)*20:=aT _ he;exact fD l4 (by omega)
theorem ZC(h:Lg 40 n):Lg KB n:=fD h (by decide)
theorem Vj(h:EL g a d D' N' M')(hj:j≤6)(hφ:3000000000≤φ){eg e1 e2:Bool}:∃e,s6 φ [.tree (rs g) (d+1) eg,.tree (rs (pwL g a j)) (pwL g a j).length e1,.tree (rs a) a.length e2]=some (.tree (rs (pwL g a (j+1))) (pwL g a (j+1)).length e):=by
 have hl:=zV (g:=g) (a:=a) (by rw[h.hm];have:=h.hd;omega) j;rw[h.hm]at hl;have:=h.hd;have:=h.hd5;have:=h.hal;exact Yl (φ:=φ) (EL.mb h hj) rfl rfl h.hm (by omega) (by omega) (by omega) (by omega) h.hg (by rw[a8];exact h.h1) (ZC h.lM) (fD (EL.lt h hj (d+1) (by omega)) (by decide)) hφ
theorem Yi(hφ:3000000000≤φ)(e:Bool):oN φ [.tree [.i .i64 (.ofNat 1)] 1 e]=some (.tree (rs [1]) 1 true):=by
 obtain⟨ψ,rfl⟩:∃ψ,φ=ψ+5:=⟨φ-5,by omega⟩
 cases e<;>kernel_rfl
theorem Qm{n:Nat}:ie 1 [.i .i64 (.ofNat 0)] [(0,1,.i .i64 (.ofNat n))] (mem bs) K=K (.sl bs.length 0 1 1 1 true) (mem (bs++[⟨[.i .i64 (.ofNat n)],.rw⟩])):=SM rfl rfl rfl rfl
theorem Yk(h:EL g a d D' N' M')(hφ:3000000000≤φ){eg:Bool}:∃e bs',∀K:D→LS→Rs,(ie 1 [.i .i64 (.ofNat 0)] [(0,1,.i .i64 (.ofNat 1))] (mem []) λx4 s=>eS (oN φ) [x4] s λx5 s=>eS (pB φ) [.tree (rs g) (d+1) eg,x5] s K)=K (.tree (rs (pwL g a 0)) (pwL g a 0).length e) (mem bs'):=by
 have hd:=h.hd;have hpt:Pt ([1]:Row):=QB (g:=g) (a:=a) 0;have hpre:n7 g [1]=[1]:=by
  unfold n7;rw[h.hm,show([1]:Row).length+1-(d+1)=0 by show 1+1-(d+1)=0;omega];show fG (lst (d+1-1) (ent [1]))=[1]
  conv=>rhs;rw[←show fG [1]=[1]from hpt]
  refine qZ λi=>?_;rw[mW];split
  ·rfl
  ·rw[gJ (by show 1≤i;omega)]
 obtain⟨e,he⟩:=Yh (φ:=φ) (f:=[1]) (g:=g) (n:=1) (m:=d+1) (ex:=true) (ey:=eg) (by
  rintro _ rfl
  exact xB (n:=1) (f:=[1]) rfl h.hm (by omega) (by omega) hpt)
 rw[hpre]at he;refine⟨e,[⟨[.i .i64 (.ofNat 1)],.frz⟩],λK=>?_⟩;refine th Qm ?_;have hres:eS (oN φ) [.sl ([]:List Blk).length 0 1 1 1 true] (mem ([]++[⟨[.i .i64 (.ofNat 1)],.rw⟩])) (λx5 s=>eS (pB φ) [.tree (rs g) (d+1) eg,x5] s K)=eS (pB φ) [.tree (rs g) (d+1) eg,.tree (rs [1]) 1 true] (mem [⟨[.i .i64 (.ofNat 1)],.frz⟩]) K:=by
  show(jL (mem [⟨[.i .i64 (.ofNat 1)],.rw⟩]) 0 λb=>cnd (lv b.st) (jN 0 b.cs λr=>iw (Nat.mul 1 1) r λr=>mg (iX (mem [⟨[.i .i64 (.ofNat 1)],.rw⟩]) 59) r λcs ls=>my (cnd true (Nat.beq 1 1) false) λex=>ki (0::ls) [] λab=>ob (oN φ [.tree cs 1 ex]) λr=>iz (mem [⟨[.i .i64 (.ofNat 1)],.rw⟩]) ab r λx5 s=>eS (pB φ) [.tree (rs g) (d+1) eg,x5] s K) none)=_;rw[gg (b:=⟨[.i .i64 (.ofNat 1)],.rw⟩) rfl];show(my (cnd true (Nat.beq 1 1) false) λex=>ki [0] [] λab=>ob (oN φ [.tree [.i .i64 (.ofNat 1)] 1 ex]) λr=>iz (mem [⟨[.i .i64 (.ofNat 1)],.rw⟩]) ab r λx5 s=>eS (pB φ) [.tree (rs g) (d+1) eg,x5] s K)=_;rw[ij,gL,Yi hφ,gN];unfold iz;rw[kx];show vI [0] (mem [⟨[.i .i64 (.ofNat 1)],.rw⟩]) (λs=>eS (pB φ) [.tree (rs g) (d+1) eg,.tree (rs [1]) 1 true] s K)=_;rw[xy (b:=⟨[.i .i64 (.ofNat 1)],.rw⟩) rfl];rfl
 exact hres.trans (fF he)
end
section
variable {bs bs':List Blk} {i j k n m c w d D' N' M' J:Nat} {ex ey:Bool} {s:LS} {K:D→LS→Rs} {kk:IntKind} {φ:Nat} {X W T:D} {P Q:List (Row×Bool)} {rows:List Row} {l r t g a b:Row} {q:Rat}
theorem Q7{s:LS}{j:Nat}{F:List D→List Nat→Rs}:∀P:List (Row×Bool),mg (iX s (j+1)) (P.map mtD) F=F (P.map mtD) []:=by
 intro P
 induction P generalizing F with
 |nil=>rfl
 |cons p P ih=>
  rw[bI];show(mg (iX s (j+1)) (P.map mtD) λys b=>ki [] b λab=>F (mtD p::ys) ab)=_;rw[ih];rfl
theorem PF{st:Stt}(hb:bs[w]?=some ⟨P.map mtD,st⟩)(hl:st.live=true)(hn:P.length=n){F:D→List Nat→Rs}:iX (mem bs) 60 (.sl w 0 n c 1 ex) F=F (.tree (P.map mtD) n (cnd ex (Nat.beq c n) false)) [w]:=by
 show(jL (mem bs) w λb=>cnd (lv b.st) (jN 0 b.cs λr=>iw (Nat.mul n 1) r λr=>mg (iX (mem bs) 59) r λcs ls=>my (cnd ex (Nat.beq c n) false) λex=>F (.tree cs n ex) (w::ls)) none)=_;rw[gg hb,rN,hl,eL,gE,am,gu,show Nat.mul n 1=n from aj n,aC (by rw[aI];omega),aM (by rw[aI];omega),Q7,ij]
theorem Zk(h:AS 1 bs X (P.map mtD) P.length):∃e,eW false (mem bs) X some=some (.tree (P.map mtD) P.length e):=by
 generalize hcs:P.map mtD=cs at h;generalize hnn:P.length=nn at h;cases h with
 |nil=>exact⟨true,zQ⟩
 | @blk l _ _ hg hc=>
  subst hcs;refine⟨false&&nn==nn,?_⟩;unfold eW;rw[kx];show uO (mT false (mem bs).get fj (.sl l 0 nn nn 1 false)) some=_;have h1:res (mem bs).get 60 (.sl l 0 nn nn 1 false)=some (.tree (P.map mtD) nn (false&&nn==nn),[l]):=by
   refine tI (n:=59) (r:=P.map mtD) (ls:=[]) (by rw[kj];exact hg) rfl ?_ ?_
   ·unfold cut;rw[am,aM (by rw[aI];omega),aC (by rw[aI];omega)]
   ·have:∀P:List (Row×Bool),gr (res (mem bs).get 59) (P.map mtD)=some (P.map mtD,[]):=by
     intro P
     induction P with
     |nil=>rfl
     |cons p P ih=>
      rw[bI];unfold gr;rw[ih,show res (mem bs).get 59 (mtD p)=some (mtD p,[])from rfl];rfl
    exact this P
  have:mT false (mem bs).get fj (.sl l 0 nn nn 1 false)=some (.tree (P.map mtD) nn (false&&nn==nn)):=by
   show(match wy (res (mem bs).get 60 (.sl l 0 nn nn 1 false))with
    |some (d,o,ls)=>if o.all λl=> !ls.contains l then some d else none
    |none=>none)=_
   rw[h1];rfl
  rw[this,gV];rfl
theorem apT(h:AS 1 bs X (P.map mtD) P.length)(hl:P.length<1000000)(p:Row×Bool):∃bs' X',AS 1 bs' X' ((P++[p]).map mtD) (P++[p]).length∧(ie 1 [.tree [] 0 true] [(0,1,mtD p)] (mem bs) λy s=>kJ 1 24 s X y K)=K X' (mem bs'):=by
 obtain⟨b1,X1,g1,_,g3⟩:=ap1 (bytes:=24) (zero:=[.tree [] 0 true]) (x:=mtD p) (new:=[mtD p]) (K:=K) h rfl rfl rfl rfl (by omega) (by omega);exact⟨b1,X1,by rw[aW,ay];exact g1,g3⟩
theorem Fj(h:EL g a d D' N' M')(j:Nat):iY g a j=lst d (ent (pwL g a j)):=by unfold iY;rw[h.hm];rfl
theorem Po(h:EL g a d D' N' M')(hφ:3000000000≤φ){e1:Bool}:∃e,uH φ [.tree (rs (pwL g a j)) (pwL g a j).length e1,.i .i64 (.ofNat d)]=some (mtD (iY g a j,e)):=by
 have:=h.hd5;obtain⟨e,he⟩:=Yg (φ:=φ) (ex:=e1) (l:=pwL g a j) (n:=d) rfl (by omega) (by omega);refine⟨e,?_⟩;rw[he];unfold mtD;rw[Fj h,gp]
theorem QI(h:EL g a d D' N' M')(hφ:3000000000≤φ)(hk:k≤6){eg ea:Bool}:∀(u i fu:Nat)(bs:List Blk)(X:D)(P:List (Row×Bool))(e1:Bool),i+u=k→u<fu→AS 1 bs X (P.map mtD) P.length→P.map Prod.fst=(List.range i).map (iY g a)→
 ∃(P':List (Row×Bool))(e:Bool),P'.map Prod.fst=(List.range k).map (iY g a)∧lp (λ(_ _ _ _ _ _:D)(_:LS)=>none) (qV φ) fu (.tree (rs g) (d+1) eg) (.tree (rs a) a.length ea) X (.tree (rs (pwL g a i)) (pwL g a i).length e1) (.i .i64 (.ofNat k)) (.i .i64 (.ofNat i)) (mem bs)=some (.tree (P'.map mtD) k e):=by
 have hd5:=h.hd5;intro u
 induction u with
 |zero=>
  intro i fu bs X P e1 hi hf hA hP;obtain⟨fu,rfl⟩:∃q,fu=q+1:=⟨fu-1,by omega⟩
  have:i=k:=by omega
  subst this;obtain⟨e,he⟩:=Zk hA;have hl:=congrArg List.length hP;simp at hl;rw[hl]at he;refine⟨P,e,hP,?_⟩;rw[eM];unfold qV;exact th (gA (bC _)) (th eP he)
 |succ u ih=>
  intro i fu bs X P e1 hi hf hA hP;obtain⟨fu,rfl⟩:∃q,fu=q+1:=⟨fu-1,by omega⟩
  have hl:=congrArg List.length hP;simp at hl;obtain⟨e2,h2⟩:=Po (j:=i) (e1:=e1) h hφ;obtain⟨e3,h3⟩:=Vj (φ:=φ) (j:=i) (eg:=eg) (e1:=e1) (e2:=ea) h (by omega) hφ;obtain⟨b1,X1,g1,g2⟩:=apT (K:=λx19 s=>eS (s6 φ) [.tree (rs g) (d+1) eg,.tree (rs (pwL g a i)) (pwL g a i).length e1,.tree (rs a) a.length ea] s λx20 s=>eZ (.i .i64 (.ofNat i)) (.i .i64 (.ofNat 1)) λx21=>lp (λ(_ _ _ _ _ _:D)(_:LS)=>none) (qV φ) fu (.tree (rs g) (d+1) eg) (.tree (rs a) a.length ea) x19 x20 (.i .i64 (.ofNat k)) x21 s) hA (by omega) (iY g a i,e2);obtain⟨P',e,a1,a2⟩:=ih (i+1) fu b1 X1 (P++[(iY g a i,e2)]) e3 (by omega) (by omega) g1 (by rw[aW,hP,cw,aW];rfl);refine⟨P',e,a1,?_⟩;rw[eM]
  conv=>lhs;unfold qV
  refine th (fe (by omega)) (th eO (th fO (th (gW (by omega) (by omega)) ?_)));rw[a8];exact th (fF h2) (g2.trans (th (fF h3) (th (fH (by omega)) a2)))
theorem Td(h:EL g a d D' N' M')(hφ:3000000000≤φ)(hk:k≤6){eg ea:Bool}:∃(P:List (Row×Bool))(e:Bool),P.map Prod.fst=(List.range k).map (iY g a)∧uI φ [.tree (rs g) (d+1) eg,.tree (rs a) a.length ea,.i .i64 (.ofNat k)]=some (.tree (P.map mtD) k e):=by
 obtain⟨e0,b0,h0⟩:=Yk (φ:=φ) (eg:=eg) h hφ;obtain⟨P,e,h1,h2⟩:=QI (φ:=φ) (eg:=eg) (ea:=ea) h hφ hk k 0 φ b0 (.tree [] 0 true) [] e0 (by omega) (by omega) AS.nil rfl;refine⟨P,e,h1,?_⟩;unfold uI;dsimp only[eV,eY];rw[←fw];exact(h0 _).trans h2
inductive KL (bs:List Blk):D→List D→Nat→Prop
 |nil:KL bs (.tree [] 0 true) [] 0
 |blk {l n:Nat} {cs:List D} (h:bs[l]?=some ⟨cs,.apd⟩) (hc:cs.length=n):KL bs (.sl l 0 n n 1 false) cs n
theorem S5{x:D}(h1:one x=true)(hy:bs[k]?=some ⟨[x],.rw⟩):kJ 1 24 (mem bs) (.tree [] 0 true) (.sl k 0 1 1 1 true) K=K (.sl bs.length 0 1 1 1 false) (mem (bs++[⟨[x],.rw⟩])):=by
 have hc:∀F:List D→Nat→Rs,nL 1 (mem bs) (.sl k 0 1 1 1 true) F=F [x] 1:=λF=>by
  rw[Bp hy rfl (by simp)];rfl
 show nL 1 (mem bs) (.sl k 0 1 1 1 true) _=_;rw[hc];show(cnd (Nat.beq 1 0) (K (.tree [] 0 true) (mem bs)) (cnd true (cnd (Nat.beq 0 (Nat.mul 0 1)) (frc (Nat.add 0 1) λtot=>cnd (Nat.ble (Nat.mul tot 24) 1099511627776) (cnd (Nat.ble tot 1099511627776) (ki [] [x] λcs=>lP (mem bs) ⟨cs,.rw⟩ λs'=>K (.sl (mem bs).nx 0 tot tot 1 false) s') none) none) none) none))=_;rw[gR (by omega),e9,eL,show Nat.mul 0 1=0 from rfl,ei,eL,fB,show Nat.add 0 1=1 from rfl,aH (show Nat.mul 1 24≤_ by decide),aH (show 1≤_ by omega),eL,eL,gL,kB,jQ];rfl
theorem akT(h:KL bs X (P.map mtD) P.length)(hl:P.length<1000000)(p:Row×Bool):∃bs' X',KL bs' X' ((P++[p]).map mtD) (P++[p]).length∧(∀(k:Nat)(b:Blk),b.st=.rw→bs[k]?=some b→bs'[k]?=some b)∧(ie 1 [.tree [] 0 true] [(0,1,mtD p)] (mem bs) λy s=>wi 1 24 s X y K)=K X' (mem bs'):=by
 have hb1:(bs++[(⟨[mtD p],.rw⟩:Blk)])[bs.length]?=some ⟨[mtD p],.rw⟩:=by simp
 have hbs:=λ(F:D→LS→Rs)=>SM (bs:=bs) (zero:=[.tree [] 0 true]) (x:=mtD p) (new:=[mtD p]) (z:=1) (K:=F) rfl rfl rfl rfl;generalize hcs:P.map mtD=cs at h;generalize hnn:P.length=nn at h;cases h with
 |nil=>
  have hP:P=[]:=ao hnn;subst hP;refine⟨(bs++[(⟨[mtD p],.rw⟩:Blk)]++[(⟨[mtD p],.rw⟩:Blk)]).set (bs++[(⟨[mtD p],.rw⟩:Blk)]).length ⟨[mtD p],.apd⟩,.sl (bs++[(⟨[mtD p],.rw⟩:Blk)]).length 0 1 1 1 false,KL.blk (by rw[a7 (by simp)];rfl) rfl,λk b _ hk=>gF (by have:=ef hk;simp;omega) (gI (gI hk)),?_⟩;rw[hbs];show kJ 1 24 (mem (bs++[⟨[mtD p],.rw⟩])) (.tree [] 0 true) (.sl bs.length 0 1 1 1 true) (λd s=>match d with
   |.sl l off len cm z ex=>cnd (Nat.beq l (mem (bs++[⟨[mtD p],.rw⟩])).nx) (jL s l λb=>cnd (ow b.st) (pL s l ⟨b.cs,.apd⟩ λs=>K (.sl l off len cm z ex) s) none) (K (.sl l off len cm z ex) s)
   |d=>K d s)=_
  rw[S5 rfl hb1];show(cnd (Nat.beq (bs++[(⟨[mtD p],.rw⟩:Blk)]).length (mem (bs++[⟨[mtD p],.rw⟩])).nx) (jL (mem (bs++[⟨[mtD p],.rw⟩]++[⟨[mtD p],.rw⟩])) (bs++[(⟨[mtD p],.rw⟩:Blk)]).length λb=>cnd (ow b.st) (pL (mem (bs++[⟨[mtD p],.rw⟩]++[⟨[mtD p],.rw⟩])) (bs++[(⟨[mtD p],.rw⟩:Blk)]).length ⟨b.cs,.apd⟩ λs=>K (.sl (bs++[(⟨[mtD p],.rw⟩:Blk)]).length 0 1 1 1 false) s) none) _)=_;have hg:(bs++[(⟨[mtD p],.rw⟩:Blk)]++[⟨[mtD p],.rw⟩])[(bs++[(⟨[mtD p],.rw⟩:Blk)]).length]?=some ⟨[mtD p],.rw⟩:=by rw[bJ (aE _),bt];rfl
  rw[jQ,ei,eL,gg hg];show cnd true (pL _ _ _ _) none=_;rw[eL,oj (ef hg)]
 | @blk l _ _ hg hc=>
  subst hcs;subst hnn;have hne:l≠bs.length:=by have:=ef hg;omega
  refine⟨(bs++[(⟨[mtD p],.rw⟩:Blk)]).set l ⟨P.map mtD,.frz⟩++[(⟨P.map mtD++[mtD p],.apd⟩:Blk)],.sl (bs++[(⟨[mtD p],.rw⟩:Blk)]).length 0 (P.length+1) (P.length+1) 1 false,?_,λk b hs hk=>gI (gF (λe=>by subst e;rw[hg]at hk;cases hk;cases hs) (gI hk)),?_⟩
  ·rw[aW,show(P++[p]).length=P.length+1 by simp];refine KL.blk (cs:=P.map mtD++[mtD p]) (n:=P.length+1) ?_ (by simp);rw[bJ (by rw[bB];exact aE _),bB,bt];rfl
  ·rw[hbs];have hcell:∀F:List D→Nat→Rs,nL 1 (mem (bs++[⟨[mtD p],.rw⟩])) (.sl bs.length 0 1 1 1 true) F=F [mtD p] 1:=λF=>by
    rw[Bp hb1 rfl (by simp)];rfl
   show nL 1 (mem (bs++[⟨[mtD p],.rw⟩])) (.sl bs.length 0 1 1 1 true) _=_;rw[hcell,gg (gI hg)];show cnd true (cnd (Nat.beq 1 1) (qS [mtD p] (frc (Nat.add P.length 1) λtot=>cnd (Nat.ble (Nat.mul tot 24) 1099511627776) (cnd (Nat.ble tot 1099511627776) (cnd (Nat.beq (Nat.add 0 (Nat.mul P.length 1)) (P.map mtD).length) (jN 0 (P.map mtD) λr=>iw (Nat.mul P.length 1) r λold=>ki old [mtD p] λcs=>pL (mem (bs++[⟨[mtD p],.rw⟩])) l ⟨P.map mtD,.frz⟩ λs'=>lP s' ⟨cs,.apd⟩ λs'=>K (.sl (mem (bs++[⟨[mtD p],.rw⟩])).nx 0 tot tot 1 false) s') none) none) none)) none) none=_;rw[eL,ei,eL,py rfl,fB,show Nat.add P.length 1=P.length+1 from rfl,aH (show Nat.mul (P.length+1) 24≤_ by show(P.length+1)*24≤_;omega),aH (show P.length+1≤_ by omega),eL,eL,
    show Nat.add 0 (Nat.mul P.length 1)=(P.map mtD).length by rw[aI];show 0+P.length*1=_;omega,ei,eL,gE,am,gu,show Nat.mul P.length 1=P.length from aj _,aC (by rw[aI];exact aE _),aM (by rw[aI];exact aE _),gL,oj (ef (gI hg)),kB,jQ]
theorem Ql{M:List D→Option D}(h:KL bs X (P.map mtD) P.length)(hT:∀(F:D→List Nat→Rs)(bs:List Blk),iX (mem bs) 60 T F=F T []):∃e bs1,KL bs1 X (P.map mtD) P.length∧∀r,M [.tree (P.map mtD) P.length e,T]=some r→sW r=false→∀K,eS M [X,T] (mem bs) K=yF (mem bs1) r K:=by
 generalize hcs:P.map mtD=cs at h;generalize hnn:P.length=nn at h;cases h with
 |nil=>
  refine⟨true,bs,KL.nil,λr hr hf K=>?_⟩;show iX (mem bs) 60 T (λy b=>ki b [] λab=>ki [] ab λab=>ob (M [.tree [] 0 true,y]) λr=>iz (mem bs) ab r K)=_;rw[hT,gL,gL,hr,gN];unfold iz;rw[kx,hf];rfl
 | @blk l _ _ hg hc=>
  subst hcs;subst hnn;refine⟨cnd false (Nat.beq P.length P.length) false,bs.set l ⟨P.map mtD,.apd⟩,KL.blk (by rw[a7 (ef hg)]) hc,λr hr hf K=>?_⟩;have h1:=PF (bs:=bs) (w:=l) (c:=P.length) (ex:=false) (F:=λy a=>iX (mem bs) 60 T λy2 b=>ki b [] λab=>ki a ab λab=>ob (M [y,y2]) λr=>iz (mem bs) ab r K) hg rfl rfl;refine Eq.trans h1 ?_;rw[hT,gL,gL,hr,gN];unfold iz;rw[kx,hf];show vI [l] (mem bs) (λs=>yF s r K)=_;rw[xy hg];rfl
end
section
variable {bs bs':List Blk} {i j k n m c w d D' N' M' J ko:Nat} {ex ey:Bool} {s:LS} {K:D→LS→Rs} {kk:IntKind} {φ:Nat} {X W T:D} {P Q:List (Row×Bool)} {rows:List Row} {l r t g a b:Row} {q:Rat}
theorem Cj{cs:List D}{n z:Nat}{x:Bool}:yF (mem bs) (.tup [.own cs n z,.b x]) K=K (.tup [.sl bs.length 0 n n z false,.b x]) (mem (bs++[⟨cs,.rw⟩])):=by
 show(lP (mem bs) ⟨cs,.rw⟩ λs'=>K (.tup [.sl (mem bs).nx 0 n n z false,.b x]) s')=_;rw[kB,jQ]
theorem UI{s:LS}{cs:List D}{n:Nat}{e x:Bool}:yF s (.tup [.tree cs n e,.b x]) K=K (.tup [.tree cs n e,.b x]) s:=rfl
theorem S8(hb:bs[ko]?=some ⟨fl3 l (m+1),.rw⟩)(hn:l.length+1≤c)(hc:c<1000000):(ie 1 [.b false,.n 0,.n 0] [(0,3,rc q)] (mem bs) λy s=>wi 3 40 s (.sl ko 0 l.length c 3 true) y K)=K (.sl ko 0 (l.length+1) c 3 true) (mem ((bs++[(⟨rcs q,.rw⟩:Blk)]).set ko ⟨fl3 (l++[q]) m,.rw⟩)):=by
 have hb1:(bs++[(⟨rcs q,.rw⟩:Blk)])[bs.length]?=some ⟨rcs q,.rw⟩:=by simp
 refine th (SM (x:=rc q) (new:=rcs q) (z:=3) rfl rfl rfl rfl) ?_;have hcell:∀F:List D→Nat→Rs,nL 3 (mem (bs++[⟨rcs q,.rw⟩])) (.sl bs.length 0 1 1 3 true) F=F (rcs q) 1:=λF=>by
  rw[Bp hb1 rfl (aE 3)];rfl
 show kJ 3 40 (mem (bs++[⟨rcs q,.rw⟩])) (.sl ko 0 l.length c 3 true) (.sl bs.length 0 1 1 3 true) (λd s=>match d with
  |.sl l off len cm z ex=>cnd (Nat.beq l (mem (bs++[⟨rcs q,.rw⟩])).nx) (jL s l λb=>cnd (ow b.st) (pL s l ⟨b.cs,.apd⟩ λs=>K (.sl l off len cm z ex) s) none) (K (.sl l off len cm z ex) s)
  |d=>K d s)=_
 show nL 3 (mem (bs++[⟨rcs q,.rw⟩])) (.sl bs.length 0 1 1 3 true) _=_;rw[hcell];show jL (mem (bs++[⟨rcs q,.rw⟩])) ko _=_;rw[gg (gI hb)];show cnd true (cnd (Nat.beq 3 3) (qS (rcs q) (frc (Nat.add l.length 1) λtot=>cnd (Nat.ble (Nat.mul tot 40) 1099511627776) (cnd (Nat.ble tot 1099511627776) (cnd (Nat.ble tot c) (v6 (Nat.add 0 (Nat.mul l.length 3)) (rcs q) (fl3 l (m+1)) λcs=>pL (mem (bs++[⟨rcs q,.rw⟩])) ko ⟨cs,.rw⟩ λs=>cnd (Nat.beq ko (mem (bs++[⟨rcs q,.rw⟩])).nx) (jL s ko λb=>cnd (ow b.st) (pL s ko ⟨b.cs,.apd⟩ λs=>K (.sl ko 0 tot c 3 true) s) none) (K (.sl ko 0 tot c 3 true) s)) _) none) none)) none) none=_;have hlay:yc (Nat.add 0 (Nat.mul l.length 3)) (rcs q) (fl3 l (m+1))=some (fl3 (l++[q]) m):=by
  rw[show Nat.add 0 (Nat.mul l.length 3)=l.length*3 by show 0+l.length*3=_;omega,sS];show lay (l.length*3) (qD (q3 q)) (qs (l.map q3++List.replicate (m+1) z3))=_;rw[JR (by simp)];unfold fl3;congr 2;rw[aW,bV,cO _ _ (by simp),aI,bt,List.replicate_succ,d7];rfl
 rw[eL,ei,eL,py rfl,fB,show Nat.add l.length 1=l.length+1 from rfl,aH (show Nat.mul (l.length+1) 40≤_ by show(l.length+1)*40≤_;omega),aH (show l.length+1≤_ by omega),eL,eL,aH hn,eL,nj,hlay,gN,oj (ef (gI hb)),jQ,gR (by have:=ef hb;simp;omega),e9]
theorem Yw{cap:Nat}(hc:cap<1000000):ku 3 40 [.b false,.n 0,.n 0] (mem bs) (.i .i64 (.ofNat 0)) (.i .i64 (.ofNat cap)) K=K (.sl bs.length 0 0 cap 3 true) (mem (bs++[⟨fl3 [] cap,.rw⟩])):=by
 unfold ku;rw[qL];show cnd (Nat.ble 0 cap) (cnd (Nat.ble cap 140737488355328) (cnd (Nat.ble (Nat.mul cap 40) 140737488355328) (cnd (Nat.beq 3 3) (vX [.b false,.n 0,.n 0] cap λcs=>lP (mem bs) ⟨cs,.rw⟩ λs'=>K (.sl (mem bs).nx 0 0 cap 3 true) s') none) none) none) none=_;rw[aH (a9 _),aH (by omega),aH (show Nat.mul cap 40≤_ by show cap*40≤_;omega),ei];simp only[eL];rw[qX,kB,jQ,Et]
theorem UF(hl:r.length=k)(hk:k≤1000){kc:Nat}(hko:ko≠kc):∀(u i fu:Nat)(bs:List Blk)(l:Row),i+u=k→u<fu→l.length=i→bs[ko]?=some ⟨fl3 l (u+1),.rw⟩→bs[kc]?=some ⟨rs r,.rw⟩→
 ∃fl:Row,fl.length=k+1∧lp (λ(_ _ _ _:D)(_:LS)=>none) (p9 φ) fu (.sl ko 0 i (k+1) 3 true) (.sl kc 0 k k 3 false) (.i .i64 (.ofNat k)) (.i .i64 (.ofNat i)) (mem bs)=some (.own (rs fl) (k+1) 3):=by
 intro u
 induction u with
 |zero=>
  intro i fu bs l hi hf hli hb hc;obtain⟨fu,rfl⟩:∃q,fu=q+1:=⟨fu-1,by omega⟩
  have:i=k:=by omega
  subst this;have h1:=S8 (q:=1) (c:=i+1) (K:=λx37 s=>eW true s x37 some) hb (by omega) (by omega);rw[Eu]at h1;have hlt:=ef hb;have hget:((bs++[(⟨rcs 1,.rw⟩:Blk)]).set ko ⟨rs (l++[1]),.rw⟩)[ko]?=some ⟨rs (l++[1]),.rw⟩:=by rw[a7 (by simp;omega)]
  refine⟨l++[1],by simp[hli],?_⟩;rw[eM];unfold p9;refine th (gA (bC _)) (th eP (th (fF Pw) ?_));rw[←hli]at h1 ⊢;refine h1.trans ?_;rw[xl (n:=l.length+1) (z:=3) hget (oY _) (by rw[ji];simp),oe (by simp)]
 |succ u ih=>
  intro i fu bs l hi hf hli hb hc;obtain⟨fu,rfl⟩:∃q,fu=q+1:=⟨fu-1,by omega⟩
  have hlt:=ef hb;have hb':=gI (x:=⟨rcs (ent r i),.rw⟩) hb;have h1:=S8 (bs:=bs++[⟨rcs (ent r i),.rw⟩]) (q:= -(ent r i)) (c:=k+1) (K:=λx33 s=>eZ (.i .i64 (.ofNat i)) (.i .i64 (.ofNat 1)) λx34=>lp (λ(_ _ _ _:D)(_:LS)=>none) (p9 φ) fu x33 (.sl kc 0 k k 3 false) (.i .i64 (.ofNat k)) x34 s) hb' (by omega) (by omega);obtain⟨fl,f1,f2⟩:=ih (i+1) fu ((bs++[(⟨rcs (ent r i),.rw⟩:Blk)]++[(⟨rcs (-(ent r i)),.rw⟩:Blk)]).set ko ⟨fl3 (l++[-(ent r i)]) (u+1),.rw⟩) (l++[-(ent r i)]) (by omega) (by omega) (by simp[hli]) (by rw[a7 (by simp;omega)]) (gF hko (gI (gI hc)));refine⟨fl,f1,?_⟩;rw[eM]
  conv=>lhs;unfold p9
  refine th (fe (by omega)) (th eO (th (Ct hc rfl rfl (by omega) (by omega)) (th (yE rfl) (th Dy (th (jk Wm rfl) ?_)))));rw[hli]at h1;exact h1.trans (th (fH (by omega)) f2)
def FD(g a:Row)(J:Nat):Prop:=Sp ((List.range J).map (iY g a)) (ent (iY g a J))∧∀i,i<J→¬Sp ((List.range i).map (iY g a)) (ent (iY g a i))
theorem ZM(h:EL g a d D' N' M'):∃J,J≤d∧FD g a J:=by
 obtain⟨j,hj,hs⟩:=QH (n:=d) (iY g a) (λj=>by rw[HX,h.hm];rfl);have key:∀j,Sp ((List.range j).map (iY g a)) (ent (iY g a j))→∃J,J≤j∧FD g a J:=by
  intro j
  induction j using Nat.strongRecOn with
  |ind j ih=>
   intro hs;by_cases hc:∃i,i<j∧Sp ((List.range i).map (iY g a)) (ent (iY g a i))
   ·obtain⟨i,hi,hsi⟩:=hc;obtain⟨J,h1,h2⟩:=ih i hi hsi;exact⟨J,by omega,h2⟩
   ·exact⟨j,aE _,hs,λi hi hsi=>hc ⟨i,hi,hsi⟩⟩
 obtain⟨J,h1,h2⟩:=key j hs;exact⟨J,by omega,h2⟩
theorem sQ(h:EL g a d D' N' M')(j:Nat):(iY g a j).length=d:=by rw[HX,h.hm];rfl
theorem Kx{l:Row}{e:Bool}{n:Nat}:∀(F:D→List Nat→Rs)(bs:List Blk),iX (mem bs) 60 (.tree (rs l) n e) F=F (.tree (rs l) n e) []:=λF bs=>rfl
theorem UE(h:EL g a d D' N' M')(hφ:3000000000≤φ)(hJ:FD g a J)(hJd:J≤d){eg ea:Bool}:∀(u j fu:Nat)(bs:List Blk)(X:D)(P:List (Row×Bool))(e1:Bool),j+u=J→u<fu→KL bs X (P.map mtD) P.length→P.map Prod.fst=(List.range j).map (iY g a)→
 ∃fl:Row,fl.length=J+1∧lp (λ(_ _ _ _:D)(_:LS)=>none) (p8 φ) fu (.tree (rs g) (d+1) eg) (.tree (rs a) a.length ea) X (.tree (rs (pwL g a j)) (pwL g a j).length e1) (mem bs)=some (.own (rs fl) (J+1) 3):=by
 have hd5:=h.hd5;have hd1:=h.hd;have common:∀(j:Nat)(bs:List Blk)(X:D)(P:List (Row×Bool))(e2:Bool),j≤J→KL bs X (P.map mtD) P.length→P.map Prod.fst=(List.range j).map (iY g a)→P.length=j∧(∀p,p∈P→p.1.length=d∧RH 5000 p.1):=by
  intro j bs X P e2 hj hK hP;have hl:=congrArg List.length hP;simp at hl;refine⟨hl,λp hp=>?_⟩;have hm:p.1∈(List.range j).map (iY g a):=by rw[←hP];exact bM hp
  obtain⟨i,hi,e⟩:=av.1 hm;have:=di.1 hi;rw[←e];exact⟨sQ h i,EL.rh h (by omega)⟩
 intro u
 induction u with
 |zero=>
  intro j fu bs X P e1 hj hf hK hP;obtain⟨fu,rfl⟩:∃q,fu=q+1:=⟨fu-1,by omega⟩
  have:j=J:=by omega
  subst this;obtain⟨e2,h2⟩:=Po (φ:=φ) (j:=j) (e1:=e1) h hφ;obtain⟨hl,hPp⟩:=common j bs X P e2 (by omega) hK hP;obtain⟨e3,b1,k1,k2⟩:=Ql (M:=jo φ) (T:=.tree (rs (iY g a j)) (iY g a j).length e2) hK Kx;obtain⟨c1,_⟩:=C3 (φ:=φ) (P:=P) (n:=d) (k:=P.length) (t:=iY g a j) (ea:=e3) (et:=e2) hφ hPp rfl (by omega) (by omega) (by omega) (sQ h j) (EL.rh h (by omega));obtain⟨cs,g1,g2,g3⟩:=c1 (by rw[hP];exact hJ.1);rw[←sQ h j]at g3;have hk2:=k2 _ g3 rfl;rw[hl]at g1;have hcb:((b1++[(⟨rs cs,.rw⟩:Blk)])++[(⟨fl3 [] (j+1),.rw⟩:Blk)])[b1.length]?=some ⟨rs cs,.rw⟩:=gI (by simp);obtain⟨fl,f1,f2⟩:=UF (φ:=φ) (r:=cs) (k:=j) (ko:=(b1++[(⟨rs cs,.rw⟩:Blk)]).length) (kc:=b1.length) g1 (by omega) (by simp) j 0 φ ((b1++[(⟨rs cs,.rw⟩:Blk)])++[(⟨fl3 [] (j+1),.rw⟩:Blk)]) [] (by omega) (by omega) rfl (by rw[bJ (aE _),bt];rfl) hcb;refine⟨fl,f1,?_⟩;rw[eM];unfold p8;refine th fO (th (gW (by omega) (by omega)) ?_);rw[a8];refine th (fF h2) ?_;unfold mtD;refine(hk2 _).trans (th Cj ?_);rw[hl];exact th iO (th iN (th eO (th mX (th (fH (by omega)) (th (Yw (by omega)) (th mX f2))))))
 |succ u ih=>
  intro j fu bs X P e1 hj hf hK hP;obtain⟨fu,rfl⟩:∃q,fu=q+1:=⟨fu-1,by omega⟩
  obtain⟨e2,h2⟩:=Po (φ:=φ) (j:=j) (e1:=e1) h hφ;obtain⟨hl,hPp⟩:=common j bs X P e2 (by omega) hK hP;obtain⟨e3,b1,k1,k2⟩:=Ql (M:=jo φ) (T:=.tree (rs (iY g a j)) (iY g a j).length e2) hK Kx;obtain⟨_,c2⟩:=C3 (φ:=φ) (P:=P) (n:=d) (k:=P.length) (t:=iY g a j) (ea:=e3) (et:=e2) hφ hPp rfl (by omega) (by omega) (by omega) (sQ h j) (EL.rh h (by omega));have g3:=c2 (by rw[hP];exact hJ.2 j (by omega));rw[←sQ h j]at g3;have hk2:=k2 _ g3 rfl;obtain⟨e4,h4⟩:=Vj (φ:=φ) (j:=j) (eg:=eg) (e1:=e1) (e2:=ea) h (by omega) hφ;obtain⟨b2,X2,a1,_,a2⟩:=akT (K:=λx39 s=>eS (s6 φ) [.tree (rs g) (d+1) eg,.tree (rs (pwL g a j)) (pwL g a j).length e1,.tree (rs a) a.length ea] s λx40 s=>lp (λ(_ _ _ _:D)(_:LS)=>none) (p8 φ) fu (.tree (rs g) (d+1) eg) (.tree (rs a) a.length ea) x39 x40 s) k1 (by omega) (iY g a j,e2);obtain⟨fl,f1,f2⟩:=ih (j+1) fu b2 X2 (P++[(iY g a j,e2)]) e4 (by omega) (by omega) a1 (by rw[aW,hP,cw,aW];rfl);refine⟨fl,f1,?_⟩;rw[eM]
  conv=>lhs;unfold p8
  refine th fO (th (gW (by omega) (by omega)) ?_);rw[a8];refine th (fF h2) ?_;refine(hk2 _).trans (th UI ?_);exact th iO (th iN (th eP (a2.trans (th (fF h4) f2))))
theorem Pu(h:EL g a d D' N' M')(hφ:3000000000≤φ)(hJ:FD g a J)(hJd:J≤d){eg ea:Bool}:∃fl:Row,fl.length=J+1∧s7 φ [.tree (rs g) (d+1) eg,.tree (rs a) a.length ea]=some (.own (rs fl) (J+1) 3):=by
 have hd5:=h.hd5;obtain⟨e0,b0,h0⟩:=Yk (φ:=φ) (eg:=eg) h hφ;obtain⟨fl,f1,f2⟩:=UE (φ:=φ) (eg:=eg) (ea:=ea) h hφ hJ hJd J 0 φ b0 (.tree [] 0 true) [] e0 (by omega) (by omega) KL.nil rfl;refine⟨fl,f1,?_⟩;unfold s7;dsimp only[eV,eY];rw[←fw];exact(h0 _).trans f2
theorem Py(h:EL g a d D' N' M')(hb:b.length≤d)(hbr:RH 5000 (lst d (ent b)))(hφ:3000000000≤φ)(hJ:FD g a J)(hJd:J≤d){eg ea eb:Bool}:
 (Sp ((List.range J).map (iY g a)) (ent (lst d (ent b)))→∃(cs:Row)(e:Bool),cs.length=J∧(∀i,ent (lst d (ent b)) i=lc cs ((List.range J).map (iY g a)) i)∧kL φ [.tree (rs g) (d+1) eg,.tree (rs a) a.length ea,.tree (rs b) b.length eb]=some (.tup [.tree (rs (fG cs)) (fG cs).length e,.b true]))∧
 (¬Sp ((List.range J).map (iY g a)) (ent (lst d (ent b)))→kL φ [.tree (rs g) (d+1) eg,.tree (rs a) a.length ea,.tree (rs b) b.length eb]=some (.tup [.tree [] 0 true,.b false])):=by
 have hd5:=h.hd5;have hd1:=h.hd;obtain⟨fl,f1,f2⟩:=Pu (φ:=φ) (eg:=eg) (ea:=ea) h hφ hJ hJd;obtain⟨P,e,p1,p2⟩:=Td (φ:=φ) (k:=J) (eg:=eg) (ea:=ea) h hφ (by omega);obtain⟨e2,r1⟩:=Yg (φ:=φ) (ex:=eb) (l:=b) (n:=d) rfl (by omega) (by omega);have hl:=congrArg List.length p1;simp at hl;have hPp:∀p,p∈P→p.1.length=d∧RH 5000 p.1:=λp hp=>by
  have hm:p.1∈(List.range J).map (iY g a):=by rw[←p1];exact bM hp
  obtain⟨i,hi,e⟩:=av.1 hm;have:=di.1 hi;rw[←e];exact⟨sQ h i,EL.rh h (by omega)⟩
 obtain⟨c1,c2⟩:=C3 (φ:=φ) (P:=P) (n:=d) (k:=J) (t:=lst d (ent b)) (ea:=e) (et:=e2) hφ hPp hl (by omega) (by omega) (by omega) gp hbr;rw[p1]at c1 c2;have pre:∀R,(eS (jo φ) [.tree (P.map mtD) J e,.tree (rs (lst d (ent b))) d e2] (mem [⟨rs fl,.rw⟩]) λx11 s=>fh x11 0 s λx12 s=>fh x11 1 s λx13 s=>qP x13 s λx14 s=>eQ x14 (eW false s (.tup [.tree [] 0 true,.b false]) some) (eS (i9 φ) [x12] s λx15 s=>eW false s (.tup [x15,.b true]) some))=R→kL φ [.tree (rs g) (d+1) eg,.tree (rs a) a.length ea,.tree (rs b) b.length eb]=R:=by
  intro R hR;unfold kL;dsimp only[eV,eY];rw[←fw];refine th (xR f2) ?_;rw[lU,jQ];refine th mX (th (gW (by omega) (by omega)) ?_);rw[a8];refine th (fF p2) (th fO (th (gW (by omega) (by omega)) ?_));rw[a8];exact th (fF r1) hR
 constructor
 ·intro hs;obtain⟨cs,g1,g2,g3⟩:=c1 hs;have hcb:(([⟨rs fl,.rw⟩]:List Blk)++[(⟨rs cs,.rw⟩:Blk)])[([⟨rs fl,.rw⟩]:List Blk).length]?=some ⟨rs cs,.rw⟩:=rfl;obtain⟨e5,t1⟩:=CC (φ:=φ) (K:=λx15 s=>eW false s (.tup [x15,.b true]) some) (bs:=[⟨rs fl,.rw⟩]++[(⟨rs cs,.rw⟩:Blk)]) (k:=1) (c:=J) (ex:=false) (n:=J) (l:=cs) (b:=⟨rs cs,.rw⟩) hcb (oe g1) rfl g1 (by omega) (by omega);refine⟨cs,e5,g1,g2,pre _ ?_⟩;have hiso:∀F:D→LS→Rs,eS (jo φ) [.tree (P.map mtD) J e,.tree (rs (lst d (ent b))) d e2] (mem [⟨rs fl,.rw⟩]) F=F (.tup [.sl 1 0 J J 3 false,.b true]) (mem ([⟨rs fl,.rw⟩]++[(⟨rs cs,.rw⟩:Blk)])):=λF=>by
   show ob (jo φ [.tree (P.map mtD) J e,.tree (rs (lst d (ent b))) d e2]) (λr=>iz (mem [⟨rs fl,.rw⟩]) [] r F)=_;rw[g3,gN];unfold iz;rw[kx];show(lP (mem [⟨rs fl,.rw⟩]) ⟨rs cs,.rw⟩ λs'=>F (.tup [.sl (mem [⟨rs fl,.rw⟩]).nx 0 J J 3 false,.b true]) s')=_;rw[kB,jQ];rfl
  refine(hiso _).trans (th iO (th iN (th tL (th eP (t1.trans ?_)))));unfold eW;rw[kx];show uO (mT false _ fj (.tup [.tree (rs (fG cs)) (fG cs).length e5,.b true])) some=_;rw[show ∀G,mT false G fj (.tup [.tree (rs (fG cs)) (fG cs).length e5,.b true])=some (.tup [.tree (rs (fG cs)) (fG cs).length e5,.b true])from λG=>rfl,gV];rfl
 ·intro hs;refine pre _ ?_;refine th (fF (c2 hs)) (th iO (th iN (th tL (th eO ?_))));rfl
end
section
variable {bs bs':List Blk} {i j k n m c N h H col:Nat} {ex ey e:Bool} {s:LS} {K:D→LS→Rs} {kk:IntKind} {φ:Nat} {X Y Z W X' x0:D} {P Q:List (Row×Bool)} {rows L:List Row} {l r pv:Row} {q:Rat} {cs cs':List D} {V:List Nat}
inductive TL (bs:List Blk):D→List D→Prop
 |tr {cs:List D} {e:Bool}:TL bs (.tree cs cs.length e) cs
 |sl {k c:Nat} {e:Bool} {b:Blk} {cs:List D} (hb:bs[k]?=some b) (hl:b.st.live=true) (hc:b.cs=cs):TL bs (.sl k 0 cs.length c 1 e) cs
theorem Ob{d:D}(h:TL bs X cs)(hd:cs[i]?=some d):(eJ 1 (mem bs) X (.i kk (.ofNat i)) λa s=>eK s a K)=K d (mem bs):=by
 cases h with
 |tr=>exact yL hd rfl
 |sl hb hl hc=>exact CJ hb hl (by rw[hc];exact hd) (ef hd)
theorem Oc(h:TL bs X cs){s:LS}:ek X s K=K (.i .i64 (.ofNat cs.length)) s:=by
 cases h with
 |tr=>rfl
 |sl _ _ _=>rfl
theorem YW(h:AS 1 bs X cs n):TL bs X cs:=by
 cases h with
 |nil=>exact .tr (cs:=[])
 | @blk l _ _ hg hc=>
  have:n=cs.length:=by omega
  subst this;exact .sl hg rfl rfl
def Sep(X Y:D):Prop:=∀k,jg X k∨jg Y k
theorem uW:Sep (.tree cs n e) Y:=λk=>Or.inl λo n m z e h=>by cases h
theorem ve(h:Sep X Y):Sep Y X:=λk=>(h k).symm
theorem xr{z:Nat}(h:jg (.sl k n m c z e) k):False:=h _ _ _ _ _ rfl
def Kp(bs bs':List Blk)(X X':D):Prop:=∀k b,jg X k→bs[k]?=some b→bs'[k]?=some b∧jg X' k
theorem Ln:Kp bs bs X X:=λk b h h'=>⟨h',h⟩
theorem Hp{bs1:List Blk}{X1:D}(h:Kp bs bs1 X X1)(h':Kp bs1 bs' X1 X'):Kp bs bs' X X':=λk b hk hb=>by
 obtain⟨a,b'⟩:=h k b hk hb;exact h' k b b' a
theorem yO(h:AS 1 bs Y cs n)(hs:Sep X Y)(hk:Kp bs bs' X X'):AS 1 bs' Y cs n∧Sep X' Y:=by
 cases h with
 |nil=>exact⟨AS.nil,ve uW⟩
 | @blk l _ _ hg hc=>
  have hn:jg X l:=(hs l).elim id λh=>(xr h).elim;obtain⟨a,b⟩:=hk l _ hn hg;refine⟨AS.blk a hc,λk=>?_⟩;by_cases e:k=l
  ·subst e;exact Or.inl b
  ·exact Or.inr λo n m z e' he=>by injection he with h1;exact e h1.symm
theorem YV(h:TL bs Y cs)(hs:Sep X Y)(hk:Kp bs bs' X X'):TL bs' Y cs∧Sep X' Y:=by
 cases h with
 |tr=>exact⟨.tr,ve uW⟩
 | @sl l c e b _ hb hl hc=>
  have hn:jg X l:=(hs l).elim id λh=>(xr h).elim;obtain⟨a,b'⟩:=hk l _ hn hb;refine⟨.sl a hl hc,λk=>?_⟩;by_cases e:k=l
  ·subst e;exact Or.inl b'
  ·exact Or.inr λo n m z e' he=>by injection he with h1;exact e h1.symm
theorem apC{x:D}(h:AS 1 bs X cs n)(hl:n<1000000)(hx:kP x=[x])(h1:one x=true){bytes:Nat}(hb:bytes≤1000){zero:List D}(hz:zero.length=1):∃bs' X',AS 1 bs' X' (cs++[x]) (n+1)∧Kp bs bs' X X'∧(ie 1 zero [(0,1,x)] (mem bs) λy s=>kJ 1 bytes s X y K)=K X' (mem bs'):=by
 have:(n+1)*bytes≤1000000*1000:=cA (by omega) hb;obtain⟨b1,X1,g1,g2,g3⟩:=ap1 (bytes:=bytes) (zero:=zero) (x:=x) (new:=[x]) (K:=K) h hz hx rfl (by simp[h1]) (by omega) (by omega);exact⟨b1,X1,g1,g2,g3⟩
inductive FA (rows:List Row) (col i:Nat):Option Nat→Prop
 |no (h:∀t,t<i→ent (rows.getD t []) col=0):FA rows col i none
 |yes {a:Nat} (h1:a<i) (h2:ent (rows.getD a []) col≠0) (h3:∀t,t<a→ent (rows.getD t []) col=0):FA rows col i (some a)
theorem Xf{o:Option Nat}(h:FA rows col rows.length o):(o=none→¬fnd rows col<rows.length)∧∀a,o=some a→fnd rows col=a∧a<rows.length:=by
 cases h with
 |no h=>
  refine⟨λ_ hf=>?_,λa ha=>by cases ha⟩;have:=eG (xs:=rows) (p:=λr=>decide (ent r col≠0)) (w:=hf);have h2:=h _ hf;rw[aD,aB hf]at h2;exact cC this h2
 | @yes a h1 h2 h3=>
  refine⟨λh=>(by cases h),λa' ha=>?_⟩;cases ha;refine⟨?_,h1⟩;have hg:∀t(ht:t<rows.length),rows.getD t []=rows[t]:=λt ht=>by rw[aD,aB ht];rfl
  have h4:fnd rows col≤a:=by
   rcases az a (fnd rows col)with h|h
   ·have:=List.not_of_lt_findIdx (xs:=rows) (p:=λr=>decide (ent r col≠0)) h;rw[hg a h1]at h2;simp at this;exact absurd this h2
   ·exact h
  rcases az (fnd rows col) a with h|h
  ·have hf:fnd rows col<rows.length:=by omega
   have:=eG (xs:=rows) (p:=λr=>decide (ent r col≠0)) (w:=hf);have h5:=h3 _ h;rw[hg _ hf]at h5;exact absurd h5 (cC this)
  ·omega
def atD:Option Nat→D
 |none=>.i .i64 (.negSucc 0)
 |some a=>.i .i64 (.ofNat a)
theorem T3(hP:∀p,p∈P→p.1.length=N)(hc:col<N)(hn:P.length=n)(hs:n<1000000)(hX:TL bs X (P.map mtD)){j12:D→D→D→D→D→LS→Rs}:∀(j i fu:Nat)(o:Option Nat),i+j=n→j<fu→FA (P.map Prod.fst) col i o→
 ∃o',FA (P.map Prod.fst) col n o'∧lp (λ(_ _ _ _ _ _ _ _:D)(_:LS)=>none) (fv φ j12) fu x0 X Y Z (.i .i64 (.ofNat col)) (atD o) (.i .i64 (.ofNat n)) (.i .i64 (.ofNat i)) (mem bs)=
  lp (λ(_ _ _ _ _ _ _ _:D)(_:LS)=>none) (fv φ j12) (fu-j) x0 X Y Z (.i .i64 (.ofNat col)) (atD o') (.i .i64 (.ofNat n)) (.i .i64 (.ofNat n)) (mem bs):=by
 intro j
 induction j with
 |zero=>
  intro i fu o hi hf h;have:i=n:=by omega
  subst this;exact⟨o,h,rfl⟩
 |succ j ih=>
  intro i fu o hi hf h;obtain⟨fu,rfl⟩:∃q,fu=q+1:=⟨fu-1,by omega⟩
  have hiP:i<P.length:=by omega
  have hmem:P[i]∈P:=ak hiP;have hget:(P.map Prod.fst).getD i []=P[i].1:=by rw[aD,ae,aB hiP];rfl
  cases h with
  | @yes a h1 h2 h3=>
   obtain⟨o',g1,g2⟩:=ih (i+1) fu (some a) (by omega) (by omega) (.yes (by omega) h2 h3);refine⟨o',g1,?_⟩;rw[eM]
   conv=>lhs;unfold fv
   rw[bj fu 1 j];exact th (fe (by omega)) (th eO (th om (th (gA (cQ a)) (th fX (th fX (th fX (th fX (th fX (th fX (th fX (th fX (th fX (th gD (th eP (th (fH (by omega)) g2)))))))))))))))
  |no h=>
   have pre:∀F:D→LS→Rs,(eI (.b true) true (λk=>eJ 1 (mem bs) X (.i .i64 (.ofNat i)) k) (mem bs) λx43 s=>eI (.b true) true (λk=>eK s x43 k) s λx44 s=>eI (.b true) true (λk=>k (.i .i64 (.ofNat col)) s) s λx45 s=>eI (.b true) true (λk=>eJ 3 s x44 x45 k) s λx46 s=>eI (.b true) true (λk=>eT 3 s x46 k) s λx47 s=>eI (.b true) true (λk=>eS (j6 φ) [x47] s k) s F)=F (.b (decide (ent P[i].1 col=0))) (mem bs):=λF=>by
    refine th DI (th (Ob hX (d:=mtD P[i]) (by rw[ae,aB hiP];rfl)) (th eo (th Ep ?_)));unfold mtD;exact th (qE rfl (by rw[hP _ hmem];exact hc)) (th eo (jk LB rfl))
   by_cases hz:ent P[i].1 col=0
   ·obtain⟨o',g1,g2⟩:=ih (i+1) fu none (by omega) (by omega) (.no λt ht=>by
     by_cases e:t=i
     ·subst e;rw[hget];exact hz
     ·exact h t (by omega))
    refine⟨o',g1,?_⟩;rw[eM]
    conv=>lhs;unfold fv
    rw[bj fu 1 j];refine th (fe (by omega)) (th eO (th om (th sT (th eo (th eo ((pre _).trans ?_))))));rw[aP hz];exact th eo (th tL (th fQ (th eP (th (fH (by omega)) g2))))
   ·obtain⟨o',g1,g2⟩:=ih (i+1) fu (some i) (by omega) (by omega) (.yes (by omega) (by rw[hget];exact hz) h);refine⟨o',g1,?_⟩;rw[eM]
    conv=>lhs;unfold fv
    rw[bj fu 1 j];refine th (fe (by omega)) (th eO (th om (th sT (th eo (th eo ((pre _).trans ?_))))));rw[aN hz];exact th eo (th tL (th fQ (th eO (th (fH (by omega)) g2))))
theorem EA{α:Type}{A:List α}{x:α}{a:Nat}(h:A.length≠a):(A++[x]).eraseIdx a=A.eraseIdx a++[x]:=by
 rcases az a A.length with h1|h1
 ·rw[List.eraseIdx_append_of_lt_length h1]
 ·rw[z1u h1,z20 (l:=A) h1];obtain⟨t,ht⟩:∃t,a-A.length=t+1:=⟨a-A.length-1,by omega⟩
  rw[ht];rfl
theorem EB{α:Type}{A:List α}{x:α}:(A++[x]).eraseIdx A.length=A.eraseIdx A.length:=by
 rw[z1u (aE _),bt,z20 (l:=A) (aE _)];exact ba _
theorem T4(hφ:1000000000≤φ)(hP:∀p,p∈P→p.1.length=N∧SQ p.1 pv (ent p.1 col))(hpv:pv.length=N)(hN:N<1000000000)(hc:col<N)(hn:P.length=n)(hs:n<1000000){a:Nat}{j12:D→D→D→D→D→LS→Rs}:∀(j i fu:Nat)(bs:List Blk)(W:D)(P1:List (Row×Bool)),i+j=n→j<fu→TL bs X (P.map mtD)→Sep W X→AS 1 bs W (P1.map mtD) P1.length→P1.map Prod.fst=(((P.map Prod.fst).take i).eraseIdx a).map (wo pv col)→
 ∃(bs':List Blk)(W':D)(P1':List (Row×Bool)),AS 1 bs' W' (P1'.map mtD) P1'.length∧P1'.map Prod.fst=((P.map Prod.fst).eraseIdx a).map (wo pv col)∧Kp bs bs' W W'∧
  lp (λ(_ _ _ _ _ _ _ _ _ _:D)(_:LS)=>none) (iG φ j12) fu x0 X Y Z (.i .i64 (.ofNat col)) (.i .i64 (.ofNat a)) (.tree (rs pv) N e) W (.i .i64 (.ofNat n)) (.i .i64 (.ofNat i)) (mem bs)=
  lp (λ(_ _ _ _ _ _ _ _ _ _:D)(_:LS)=>none) (iG φ j12) (fu-j) x0 X Y Z (.i .i64 (.ofNat col)) (.i .i64 (.ofNat a)) (.tree (rs pv) N e) W' (.i .i64 (.ofNat n)) (.i .i64 (.ofNat n)) (mem bs'):=by
 intro j
 induction j with
 |zero=>
  intro i fu bs W P1 hi hf hX hW hA h1;have:i=n:=by omega
  subst this;rw[aM (by rw[aI];omega)]at h1;exact⟨bs,W,P1,hA,h1,Ln,rfl⟩
 |succ j ih=>
  intro i fu bs W P1 hi hf hX hW hA h1;obtain⟨fu,rfl⟩:∃q,fu=q+1:=⟨fu-1,by omega⟩
  have hiP:i<P.length:=by omega
  obtain⟨hl,hq⟩:=hP _ (ak hiP);have htk:(P.map Prod.fst).take (i+1)=(P.map Prod.fst).take i++[P[i].1]:=by
   rw[bq,ae,aB hiP];rfl
  have htl:((P.map Prod.fst).take i).length=i:=by rw[aZ,aI];omega
  by_cases he:i=a
  ·obtain⟨b',W',P1',g1,g2,g3,g4⟩:=ih (i+1) fu bs W P1 (by omega) (by omega) hX hW hA (by
    rw[h1,htk];have:=EB (A:=(P.map Prod.fst).take i) (x:=P[i].1);rw[htl]at this;rw[←he,this])
   refine⟨b',W',P1',g1,g2,g3,?_⟩;rw[eM]
   conv=>lhs;unfold iG
   rw[bj fu 1 j];refine th (fe (by omega)) (th eO (th om ?_));refine th (pH he) (th eP (th (fH (by omega)) g4))
  ·obtain⟨e1,w1⟩:=HJ (φ:=φ) (ex:=P[i].2) (ey:=e) hl hpv hc hq hN hφ;obtain⟨b1,W1,a1,a2,a3⟩:=apC (K:=λx90 s=>eZ (.i .i64 (.ofNat i)) (.i .i64 (.ofNat 1)) λx84=>lp (λ(_ _ _ _ _ _ _ _ _ _:D)(_:LS)=>none) (iG φ j12) fu x0 X Y Z (.i .i64 (.ofNat col)) (.i .i64 (.ofNat a)) (.tree (rs pv) N e) x90 (.i .i64 (.ofNat n)) x84 s) (bytes:=24) (zero:=[.tree [] 0 true]) (x:=.tree (rs (wo pv col P[i].1)) N e1) hA (by
    have:=congrArg List.length h1;rw[aI,aI]at this;have h5:=List.length_eraseIdx_le ((P.map Prod.fst).take i) a;omega) rfl rfl (by omega) rfl
   obtain⟨hX1,hW1⟩:=YV hX hW a2;have hwl:(wo pv col P[i].1).length=N:=by unfold wo;rw[tZ (by omega)];exact hl
   obtain⟨b',W',P1',g1,g2,g3,g4⟩:=ih (i+1) fu b1 W1 (P1++[(wo pv col P[i].1,e1)]) (by omega) (by omega) hX1 hW1 (by
    rw[aW,ay];show AS 1 b1 W1 (P1.map mtD++[mtD (wo pv col P[i].1,e1)]) (P1.length+1);unfold mtD at a1 ⊢;rw[hwl];exact a1) (by
    rw[aW,h1,htk,EA (by rw[htl];exact he),aW];rfl)
   refine⟨b',W',P1',g1,g2,Hp a2 g3,?_⟩;rw[eM]
   conv=>lhs;unfold iG
   rw[bj fu 1 j];refine th (fe (by omega)) (th eO (th om (th (rv he) (th eO (th (Ob hX (d:=mtD P[i]) (by rw[ae,aB hiP];rfl)) ?_)))));unfold mtD at*;rw[hl];exact th (fF w1) (a3.trans (th (fH (by omega)) g4))
theorem T5(hφ:1000000000≤φ)(hL:∀l,l∈L→l.length=N∧SQ l pv (ent l col))(hpv:pv.length=N)(hN:N<1000000000)(hc:col<N)(hn:L.length=n)(hs:n<1000000){j12:D→D→D→D→D→LS→Rs}:∀(j i fu:Nat)(bs:List Blk)(Q:List (Row×Bool)),i+j=n→j<fu→AS 1 bs Y (Q.map mtD) n→Q.map Prod.fst=(L.take i).map (wo pv col)++L.drop i→
 ∃(bs':List Blk)(Q':List (Row×Bool)),AS 1 bs' Y (Q'.map mtD) n∧Q'.map Prod.fst=L.map (wo pv col)∧Kp bs bs' Y Y∧
  lp (λ(_ _ _ _ _ _ _ _:D)(_:LS)=>none) (jD φ j12) fu x0 Y Z (.i .i64 (.ofNat col)) (.tree (rs pv) N e) W (.i .i64 (.ofNat n)) (.i .i64 (.ofNat i)) (mem bs)=
  lp (λ(_ _ _ _ _ _ _ _:D)(_:LS)=>none) (jD φ j12) (fu-j) x0 Y Z (.i .i64 (.ofNat col)) (.tree (rs pv) N e) W (.i .i64 (.ofNat n)) (.i .i64 (.ofNat n)) (mem bs'):=by
 intro j
 induction j with
 |zero=>
  intro i fu bs Q hi hf hA hQ;have:i=n:=by omega
  subst this;rw[aM (by omega),bf (by omega),ba]at hQ;exact⟨bs,Q,hA,hQ,Ln,rfl⟩
 |succ j ih=>
  intro i fu bs Q hi hf hA hQ;obtain⟨fu,rfl⟩:∃q,fu=q+1:=⟨fu-1,by omega⟩
  have hiL:i<L.length:=by omega
  have hQl:Q.length=n:=by
   have:=congrArg List.length hQ;simp at this;omega
  have hiQ:i<Q.length:=by omega
  obtain⟨hl,hq⟩:=hL _ (ak hiL);have hdr:L.drop i=L[i]::L.drop (i+1):=bu hiL;have hQi:Q[i].1=L[i]:=by
   have:(Q.map Prod.fst)[i]?=some L[i]:=by
    rw[hQ,bJ (by rw[aI,aZ];omega),aI,aZ,bS (by omega),bt,hdr];rfl
   rw[ae,aB hiQ]at this;exact cK this
  obtain⟨e1,w1⟩:=HJ (φ:=φ) (ex:=Q[i].2) (ey:=e) hl hpv hc hq hN hφ;have hwl:(wo pv col L[i]).length=N:=by unfold wo;rw[tZ (by omega)];exact hl
  obtain⟨b1,a1,a2,a3⟩:=SZ (kk:=.i64) (i:=i) (d:=.tree (rs (wo pv col L[i])) N e1) (K:=λ_ s=>eZ (.i .i64 (.ofNat i)) (.i .i64 (.ofNat 1)) λx106=>lp (λ(_ _ _ _ _ _ _ _:D)(_:LS)=>none) (jD φ j12) fu x0 Y Z (.i .i64 (.ofNat col)) (.tree (rs pv) N e) W (.i .i64 (.ofNat n)) x106 s) hA (by rw[aI];exact hiQ) rfl rfl;obtain⟨b',Q',g1,g2,g3,g4⟩:=ih (i+1) fu b1 (Q.set i (wo pv col L[i],e1)) (by omega) (by omega) (by
   rw[d5];unfold mtD at a1 ⊢;rw[hwl];exact a1) (by
   rw[d5,hQ,cO _ _ (by rw[aI,aZ];omega),aI,aZ,bS (by omega),bt,hdr,d7,bq,aB hiL,aW,bV];rfl)
  refine⟨b',Q',g1,g2,Hp (λk b hk hb=>⟨a2 k b hk hb,hk⟩) g3,?_⟩;rw[eM]
  conv=>lhs;unfold jD
  rw[bj fu 1 j];refine th (fe (by omega)) (th eO (th (Ma hA (d:=mtD Q[i]) (by rw[ae,aB hiQ];rfl)) ?_));unfold mtD at*;rw[hQi,hl];exact th (fF w1) (a3.trans (th (fH (by omega)) g4))
end
def iD(p:Nat):D:=.i .i64 (.ofNat p)
def hg2(h:Nat):Nat→Nat
 |0=>h
 |k+1=>2*hg2 h k+2
section
variable {bs bs':List Blk} {i j k n m c N h H col:Nat} {ex ey e:Bool} {s:LS} {K:D→LS→Rs} {kk:IntKind} {φ:Nat} {X Y Z W X' x0:D} {P Q:List (Row×Bool)} {rows L:List Row} {l r pv:Row} {q:Rat} {cs cs':List D} {V:List Nat} {st:List Row×List (Row×Nat)}
theorem IL(hk:j≤k):hg2 h j≤hg2 h k:=by
 induction k with
 |zero=>have:j=0:=by omega
        subst this;exact aE _
 |succ k ih=>
  by_cases e:j=k+1
  ·subst e;exact aE _
  ·have:=ih (by omega);show _≤2*hg2 h k+2;omega
structure ER (bs:List Blk) (X Y Z:D) (N H:Nat) (st:List Row×List (Row×Nat)) (P Q:List (Row×Bool)):Prop where
 x:TL bs X (P.map mtD)
 y:AS 1 bs Y (Q.map mtD) Q.length
 z:AS 1 bs Z ((st.2.map Prod.snd).map iD) Q.length
 sep:Sep Y Z
 hP:P.map Prod.fst=st.1
 hQ:Q.map Prod.fst=st.2.map Prod.fst
 pr:∀p,p∈P→p.1.length=N∧RH H p.1
 qr:∀q,q∈Q→q.1.length=N∧RH H q.1
theorem NK(h:ER bs X Y Z N H st P Q)(hφ:1000000000≤φ)(hN:N<1000000000)(hc:col<N)(hK:2*H+2≤KB)(pn:P.length≤1000)(qn:Q.length≤1000){j12:D→D→D→D→D→LS→Rs}:
 ∃(bs':List Blk)(X' Y' Z':D)(P' Q':List (Row×Bool)),ER bs' X' Y' Z' N (2*H+2) (wd st col) P' Q'∧P'.length≤P.length∧Q'.length≤Q.length+1∧
 (ek X (mem bs) λx19 s=>lp (λ(_ _ _ _ _ _ _ _:D)(_:LS)=>none) (fv φ j12) φ x0 X Y Z (.i .i64 (.ofNat col)) (.i .i64 (.negSucc 0)) x19 (.i .i64 (.ofNat 0)) s)=j12 x0 X' Y' Z' (.i .i64 (.ofNat col)) (mem bs'):=by
 have hPl:(P.map mtD).length=P.length:=aI _;obtain⟨o,f1,f2⟩:=T3 (φ:=φ) (x0:=x0) (Y:=Y) (Z:=Z) (j12:=j12) (λp hp=>(h.pr p hp).1) hc rfl (by omega) h.x P.length 0 φ none (by omega) (by omega) (.no λt ht=>by omega);obtain⟨u,hu⟩:∃u,φ-P.length=u+1:=⟨φ-P.length-1,by omega⟩
 have pre:(ek X (mem bs) λx19 s=>lp (λ(_ _ _ _ _ _ _ _:D)(_:LS)=>none) (fv φ j12) φ x0 X Y Z (.i .i64 (.ofNat col)) (.i .i64 (.negSucc 0)) x19 (.i .i64 (.ofNat 0)) s)=lp (λ(_ _ _ _ _ _ _ _:D)(_:LS)=>none) (fv φ j12) φ x0 X Y Z (.i .i64 (.ofNat col)) (atD none) (.i .i64 (.ofNat P.length)) (.i .i64 (.ofNat 0)) (mem bs):=(Oc h.x).trans (by rw[hPl];rfl);have hrl:(P.map Prod.fst).length=P.length:=aI _;have hfn:=Xf (rows:=P.map Prod.fst) (by rw[hrl];exact f1);rw[h.hP]at hfn;have hsl:st.1.length=P.length:=by rw[←h.hP];exact hrl
 cases ho:o with
 |none=>
  subst ho;have hno:=hfn.1 rfl;refine⟨bs,X,Y,Z,P,Q,?_,aE _,by omega,pre.trans (f2.trans ?_)⟩
  ·have:wd st col=st:=by unfold wd;rw[aF hno]
   rw[this];exact⟨h.x,h.y,h.z,h.sep,h.hP,h.hQ,λp hp=>⟨(h.pr p hp).1,uX (h.pr p hp).2 (by omega)⟩,λp hp=>⟨(h.qr p hp).1,uX (h.qr p hp).2 (by omega)⟩⟩
  ·rw[hu,eM];unfold fv;exact th (gA (bC _)) (th eP (th sT eO))
 |some a=>
  subst ho;obtain⟨ha,hal⟩:=hfn.2 a rfl;have haP:a<P.length:=by omega
  obtain⟨hl,hh⟩:=h.pr _ (ak haP);have hga:st.1.getD a []=P[a].1:=by rw[←h.hP,aD,ae,aB haP];rfl
  have hne:ent P[a].1 col≠0:=by
   cases f1 with
   |yes h1 h2 h3=>rw[h.hP,hga]at h2;exact h2
  have hpv:pvr st.1 col=scl P[a].1 (ent P[a].1 col)⁻¹ :=by unfold pvr;rw[ha,hga]
  have hpl:(scl P[a].1 (ent P[a].1 col)⁻¹).length=N:=by rw[zL];exact hl
  have hph:=PB hh hne;have hHK:H≤KB:=by omega
  obtain⟨e1,s1⟩:=T8 (φ:=φ) (ex:=P[a].2) hl (λi=>vN (JK hh i) hHK) (JQ (vN (JK hh col) hHK)) hN hφ;obtain⟨b1,W,P1,g1,g2,g3,g4⟩:=T4 (φ:=φ) (x0:=x0) (X:=X) (Y:=Y) (Z:=Z) (e:=e1) (a:=a) (j12:=j12) (P:=P) (n:=P.length) (col:=col) hφ (λp hp=>⟨(h.pr p hp).1,HD (h.pr p hp).2 hph (by omega) col⟩) hpl hN hc rfl (by omega) P.length 0 φ bs (.tree [] 0 true) [] (by omega) (by omega) h.x uW AS.nil rfl;obtain⟨y1,_⟩:=yO h.y uW g3;obtain⟨z1,sWZ⟩:=yO h.z uW g3;obtain⟨_,sWY⟩:=yO h.y uW g3;have hQl:(Q.map Prod.fst).length=Q.length:=aI _;obtain⟨b2,Q2,k1,k2,k3,k4⟩:=T5 (φ:=φ) (x0:=x0) (Y:=Y) (Z:=Z) (W:=W) (e:=e1) (j12:=j12) (L:=Q.map Prod.fst) (n:=Q.length) (col:=col) (pv:=scl P[a].1 (ent P[a].1 col)⁻¹) hφ (λl hl=>by
   obtain⟨p,hp,rfl⟩:=av.1 hl;exact⟨(h.qr p hp).1,HD (h.qr p hp).2 hph (by omega) col⟩) hpl hN hc hQl (by omega) Q.length 0 φ b1 Q (by omega) (by omega) y1 (by rw[dB,am];rfl)
  have hQ2:Q2.length=Q.length:=by
   have:=congrArg List.length k2;rw[aI,aI,aI]at this;exact this
  obtain⟨z2,sYZ⟩:=yO z1 h.sep k3;obtain⟨w2,sYW⟩:=yO g1 (ve sWY) k3;obtain⟨b3,Y3,m1,m2,m3⟩:=apC (bytes:=24) (zero:=[.tree [] 0 true]) (x:=.tree (rs (scl P[a].1 (ent P[a].1 col)⁻¹)) N e1) (K:=λx108 s=>ie 1 [(.i .i64 (.ofNat 0))] [(0,1,.i .i64 (.ofNat col))] s λx109 s=>kJ 1 8 s Z x109 λx110 s=>j12 x0 W x108 x110 (.i .i64 (.ofNat col)) s) k1 (by omega) rfl rfl (by omega) rfl;obtain⟨z3,sY3Z⟩:=yO z2 sYZ m2;obtain⟨w3,sY3W⟩:=yO w2 sYW m2;obtain⟨b4,Z4,n1,n2,n3⟩:=apC (bytes:=8) (zero:=[.i .i64 (.ofNat 0)]) (x:=.i .i64 (.ofNat col)) (K:=λx110 s=>j12 x0 W Y3 x110 (.i .i64 (.ofNat col)) s) z3 (by omega) rfl rfl (by omega) rfl;have sZ3W:Sep Z W:=ve sWZ;obtain⟨y4,sZY⟩:=yO m1 (ve sY3Z) n2;obtain⟨w4,_⟩:=yO w3 sZ3W n2;have hst:wd st col=((st.1.eraseIdx a).map (wo (scl P[a].1 (ent P[a].1 col)⁻¹) col),(st.2.map λe=>(wo (scl P[a].1 (ent P[a].1 col)⁻¹) col e.1,e.2))++[(scl P[a].1 (ent P[a].1 col)⁻¹,col)]):=by
   unfold wd;rw[aC (by rw[ha];exact hal),hpv,ha]
  have hwo:∀l:Row,l.length=N→RH H l→(wo (scl P[a].1 (ent P[a].1 col)⁻¹) col l).length=N∧RH (2*H+2) (wo (scl P[a].1 (ent P[a].1 col)⁻¹) col l):=λl hl hh'=>by
   refine⟨by unfold wo;rw[tZ (by omega)];exact hl,?_⟩;have:=JJ hh' hph (by omega) col;exact uX this (by omega)
  refine⟨b4,W,Y3,Z4,P1,Q2++[(scl P[a].1 (ent P[a].1 col)⁻¹,e1)],?_,?_,?_,pre.trans (f2.trans ?_)⟩
  ·rw[hst];refine⟨YW w4,?_,?_,ve sZY,?_,?_,λp hp=>?_,λp hp=>?_⟩
   ·rw[aW,ay,hQ2];show AS 1 b4 Y3 (Q2.map mtD++[mtD (scl P[a].1 (ent P[a].1 col)⁻¹,e1)]) (Q.length+1);unfold mtD at y4 ⊢;rw[hpl];exact y4
   ·have hsn:((st.2.map λe=>(wo (scl P[a].1 (ent P[a].1 col)⁻¹) col e.1,e.2))++[(scl P[a].1 (ent P[a].1 col)⁻¹,col)]).map Prod.snd=st.2.map Prod.snd++[col]:=by
     rw[aW,cM];rfl
    rw[ay,hQ2];show AS 1 b4 Z4 ((((st.2.map λe=>(wo (scl P[a].1 (ent P[a].1 col)⁻¹) col e.1,e.2))++[(scl P[a].1 (ent P[a].1 col)⁻¹,col)]).map Prod.snd).map iD) (Q.length+1);rw[hsn,aW];exact n1
   ·rw[g2,h.hP]
   ·rw[aW,k2,h.hQ,aW,cM,cM];rfl
   ·have hm:p.1∈((P.map Prod.fst).eraseIdx a).map (wo (scl P[a].1 (ent P[a].1 col)⁻¹) col):=by rw[←g2];exact bM hp
    obtain⟨l,hl',hlp⟩:=av.1 hm;obtain⟨p',hp',rfl⟩:=av.1 (List.mem_of_mem_eraseIdx hl');rw[←hlp];exact hwo _ (h.pr p' hp').1 (h.pr p' hp').2
   ·rcases au.1 hp with hp|hp
    ·have hm:p.1∈(Q.map Prod.fst).map (wo (scl P[a].1 (ent P[a].1 col)⁻¹) col):=by rw[←k2];exact bM hp
     obtain⟨l,hl',hlp⟩:=av.1 hm;obtain⟨p',hp',rfl⟩:=av.1 hl';rw[←hlp];exact hwo _ (h.qr p' hp').1 (h.qr p' hp').2
    ·have:p=(scl P[a].1 (ent P[a].1 col)⁻¹,e1):=by simpa using hp
     subst this;exact⟨hpl,uX hph (by omega)⟩
  ·have h5:=congrArg List.length g2;rw[aI,aI]at h5;have h6:=List.length_eraseIdx_le (P.map Prod.fst) a;omega
  ·rw[ay,hQ2];exact aE _
  ·have hrd:∀F:D→LS→Rs,(eJ 1 (mem bs) X (.i .i64 (.ofNat a)) λx s=>eK s x F)=F (.tree (rs P[a].1) N P[a].2) (mem bs):=λF=>by
    refine th (Ob h.x (d:=mtD P[a]) (by rw[ae,aB haP];rfl)) ?_;unfold mtD;rw[hl]
   rw[hu,eM];unfold fv;refine th (gA (bC _)) (th eP (th (gA (cQ a)) (th eP ((hrd _).trans ((hrd _).trans (th (qE hl hc) (th (jk HO rfl) (th (fF s1) (th (Oc h.x) ?_)))))))));rw[hPl];refine g4.trans ?_;rw[hu,eM];unfold iG;refine th (gA (bC _)) (th eP (th (Mb y1) (k4.trans ?_)));obtain⟨u2,hu2⟩:∃u,φ-Q.length=u+1:=⟨φ-Q.length-1,by omega⟩
   rw[hu2,eM];unfold jD;exact th (gA (bC _)) (th eP (m3.trans n3))
theorem Ph(hP:∀p,p∈P→p.1.length=N)(hn:P.length=n)(h0:0<n):kR φ [.tree (P.map mtD) n e]=some (.i .i64 (.ofNat N)):=by
 have hP0:0<P.length:=by omega
 unfold kR;dsimp only[eV,eY];refine th fO (th (sD (by omega)) (th eP (th (yL (d:=mtD P[0]) (by rw[ae,aB hP0];rfl) (by rw[aI,hn])) ?_)));unfold mtD;rw[hP _ (ak hP0)];exact th fO jU
theorem S0(h:AS 1 bs X cs n)(hm:gr (res (mem bs).get 59) cs=some (cs,[])):∃e ls,res (mem bs).get 60 X=some (.tree cs n e,ls):=by
 cases h with
 |nil=>exact⟨true,[],rfl⟩
 | @blk l _ _ hg hc=>
  exact⟨_,_,tI (n:=59) (r:=cs) (ls:=[]) (by rw[kj];exact hg) rfl (by
   show cut 0 (n*1) cs=some cs;unfold cut;rw[am,aM (by omega),aC hc]) hm⟩
theorem Ed(g:Nat→Option Blk):∀P:List (Row×Bool),gr (res g 59) (P.map mtD)=some (P.map mtD,[])
 |[]=>rfl
 |p::P=>by
  rw[bI];unfold gr;rw[Ed g P,show res g 59 (mtD p)=some (mtD p,[])from rfl];rfl
theorem MD:∀V:List Nat,(V.map iD).all pY=true
 |[]=>rfl
 |v::V=>by rw[bI,cH,MD V];rfl
theorem VT(h:AS 1 bs X cs n):∀ds,sW (.tup (X::ds))=false:=by
 intro ds;cases h with
 |nil=>rfl
 |blk _ _=>rfl
def Z5(N H:Nat)(rows:List Row)(o:Option D):Prop:=∃(Q:List (Row×Bool))(e1 e2:Bool),Q.map Prod.fst=(vZ N rows).map Prod.fst∧(∀q,q∈Q→q.1.length=N∧RH H q.1)∧o=some (.tup [.tree (Q.map mtD) Q.length e1,.tree (((vZ N rows).map Prod.snd).map iD) Q.length e2])
theorem T2(hφ:1000000000≤φ)(hN:N<1000)(hP0:∀p,p∈P→p.1.length=N∧RH h p.1)(hn:P.length=n)(h0:0<n)(hn1:n≤1000)(hK:hg2 h N≤KB):∀(t col fu:Nat)(bs:List Blk)(X Y Z:D)(P1 Q1:List (Row×Bool)),col+t=N→t<fu→ER bs X Y Z N (hg2 h col) ((List.range col).foldl wd (P.map Prod.fst,[])) P1 Q1→P1.length≤1000→Q1.length≤col→
 Z5 N (hg2 h N) (P.map Prod.fst) (lp (λ(_ _ _ _ _:D)(_:LS)=>none) (jC φ) fu (.tree (P.map mtD) n e) X Y Z (.i .i64 (.ofNat col)) (mem bs)):=by
 have hcols:=Ph (φ:=φ) (e:=e) (λp hp=>(hP0 p hp).1) hn h0;have hma:∀(s:LS)(kk:List D→List Nat→Rs),mg (iX s fj) [.tree (P.map mtD) n e] kk=kk [.tree (P.map mtD) n e] []:=λs kk=>rfl;intro t
 induction t with
 |zero=>
  intro col fu bs X Y Z P1 Q1 hi hf hE hp hq;obtain⟨fu,rfl⟩:∃q,fu=q+1:=⟨fu-1,by omega⟩
  have:col=N:=by omega
  subst this;obtain⟨e1,l1,r1⟩:=S0 hE.y (Ed _ Q1);obtain⟨e2,l2,r2⟩:=S0 hE.z (jV (k:=58) _ (MD _));refine⟨Q1,e1,e2,hE.hQ,hE.qr,?_⟩;rw[eM];unfold jC;refine th (fF hcols) (th (gA (bC _)) (th eP ?_));exact EZ r1 r2 (VT hE.y _)
 |succ t ih=>
  intro col fu bs X Y Z P1 Q1 hi hf hE hp hq;obtain⟨fu,rfl⟩:∃q,fu=q+1:=⟨fu-1,by omega⟩
  have hb:hg2 h (col+1)≤KB:=bP (IL (by omega)) hK;obtain⟨b1,X1,Y1,Z1,P2,Q2,a1,a2,a3,a4⟩:=NK (φ:=φ) (x0:=.tree (P.map mtD) n e) (col:=col) (j12:=λx13 x14 x15 x16 x17 s=>eZ x17 (.i .i64 (.ofNat 1)) λx18=>lp (λ(_ _ _ _ _:D)(_:LS)=>none) (jC φ) fu x13 x14 x15 x16 x18 s) hE hφ (by omega) (by omega) hb hp (by omega);obtain⟨Q',e1,e2,c1,c2,c3⟩:=ih (col+1) fu b1 X1 Y1 Z1 P2 Q2 (by omega) (by omega) (by
   rw[cw,dy];exact a1) (by omega) (by omega)
  refine⟨Q',e1,e2,c1,c2,?_⟩;rw[eM]
  conv=>lhs;unfold jC
  refine th (fF hcols) (th (fe (by omega)) (th eO (th om (a4.trans (th (fH (by omega)) c3)))))
theorem HQ(hφ:1000000000≤φ)(hN:N<1000)(hP0:∀p,p∈P→p.1.length=N∧RH h p.1)(hn:P.length=n)(h0:0<n)(hn1:n≤1000)(hK:hg2 h N≤KB):Z5 N (hg2 h N) (P.map Prod.fst) (kC φ [.tree (P.map mtD) n e]):=by
 obtain⟨j,c,e',bs',a1,a2,_⟩:=VU (bs:=[⟨[],.rw⟩]) (k:=0) (z:=1) (bytes:=24) (n:=n) (cs:=P.map mtD) (ex:=e) (K:=λx3 s=>lp (λ(_ _ _ _ _:D)(_:LS)=>none) (jC φ) φ (.tree (P.map mtD) n e) x3 (.tree [] 0 true) (.tree [] 0 true) (.i .i64 (.ofNat 0)) s) rfl (by rw[aI];omega) (Fu P) (by omega) (by omega);have hX:TL bs' (.sl j 0 n c 1 e') (P.map mtD):=by
  have:=TL.sl (k:=j) (c:=c) (e:=e') (cs:=P.map mtD) a2 rfl rfl;rw[aI,hn]at this;exact this
 obtain⟨Q',e1,e2,c1,c2,c3⟩:=T2 (φ:=φ) (e:=e) hφ hN hP0 hn h0 hn1 hK N 0 φ bs' (.sl j 0 n c 1 e') (.tree [] 0 true) (.tree [] 0 true) P [] (by omega) (by omega) ⟨hX,AS.nil,AS.nil,uW,rfl,rfl,hP0,(λq hq=>by cases hq)⟩ (by omega) (by simp);refine⟨Q',e1,e2,c1,c2,?_⟩;unfold kC;dsimp only[eV,eY];rw[←fw];exact th (Ls rfl) (a1.trans c3)
end
section
variable {bs bs':List Blk} {i j k n m c d N h H col kr:Nat} {ex ey e:Bool} {s:LS} {K:D→LS→Rs} {kk:IntKind} {φ:Nat} {X Y Z W W' X' x0 T:D} {P Q:List (Row×Bool)} {rows L:List Row} {l r pv:Row} {q:Rat} {cs cs':List D} {V:List Nat} {R:List IR}
theorem S4{z:Nat}(h:AS z bs X cs n)(hn:0<n):∃k,X=.sl k 0 n n z false∧bs[k]?=some ⟨cs,.rw⟩:=by
 cases h with
 |nil=>omega
 |blk hg hc=>exact⟨_,rfl,hg⟩
theorem QS(h:OS bs X R N)(hs:Sep W X)(hR:∀p,p∈R→jg W p.1)(hk:Kp bs bs' W W'):OS bs' X R N∧Sep W' X∧∀p,p∈R→jg W' p.1:=by
 obtain⟨a,b⟩:=yO h.as hs hk;exact⟨⟨a,λp hp=>⟨(hk _ _ (hR p hp) (h.rows p hp).1).1,(h.rows p hp).2⟩,h.nd,h.nb⟩,b,λp hp=>(hk _ _ (hR p hp) (h.rows p hp).1).2⟩
theorem QV(hO:OS bs X R N)(hN:0<N)(hW:A3 bs W r)(hr:r.length=N)(hs:Sep W X)(hR:∀p,p∈R→jg W p.1)(hl:R.length<1000000):
 ∃bs' X' kr,OS bs' X' (R++[(kr,r)]) N∧(ie 1 [.tree [] 0 true] [(0,1,W)] (mem bs) λy s=>kJ 1 24 s X y K)=K X' (mem bs'):=by
 unfold A3 at hW;obtain⟨k,e1,e2⟩:=S4 hW (by omega);rw[hr]at e1;subst e1;obtain⟨b1,X1,g1,g2⟩:=E9 (K:=K) hO ((hs k).resolve_left λh=>xr h) (λp hp e=>hR p hp 0 N N 3 false (by rw[e])) e2 hr hl;exact⟨b1,X1,k,g1,g2⟩
theorem Wt(h:OS bs X R N)(hi:i<R.length)(hb:bs'[R[i].1]?=some ⟨rs r,.rw⟩)(hk:∀k b,k≠R[i].1→bs[k]?=some b→bs'[k]?=some b)(hl:r.length=N):OS bs' X (R.set i (R[i].1,r)) N:=by
 have hmem:R[i]∈R:=ak hi;have e1:(R.set i (R[i].1,r)).map (rD N)=R.map (rD N):=by
  rw[d5];have:rD N (R[i].1,r)=(R.map (rD N))[i]'(by simpa using hi):=by rw[cj];rfl
  rw[this,List.set_getElem_self]
 have e2:(R.set i (R[i].1,r)).map Prod.fst=R.map Prod.fst:=by
  rw[d5];have:(R[i].1,r).1=(R.map Prod.fst)[i]'(by simpa using hi):=by rw[cj]
  rw[this,List.set_getElem_self]
 have key:∀p,p∈R.set i (R[i].1,r)→p=(R[i].1,r)∨p∈R∧p.1≠R[i].1:=by
  intro p hp;obtain⟨j,hj,e⟩:=cE.1 hp;rw[List.getElem_set]at e;by_cases hij:i=j
  ·rw[aC hij]at e;exact Or.inl e.symm
  ·rw[aF hij]at e;have hj':j<R.length:=by rw[bB]at hj;exact hj
   refine Or.inr ⟨by rw[←e];exact ak _,λh1=>hij ?_⟩;have h2:(R.map Prod.fst)[i]'(by simpa using hi)=(R.map Prod.fst)[j]'(by simpa using hj'):=by rw[cj,cj,e,h1]
   have h3:=List.pairwise_iff_getElem.1 h.nd;rcases cp i j with h4|h4|h4
   ·exact absurd h2 (h3 i j _ _ h4)
   ·exact h4
   ·exact absurd h2.symm (h3 j i _ _ h4)
 refine⟨?_,λp hp=>?_,by rw[e2];exact h.nd,λp hp=>?_⟩
 ·rw[e1,bB];exact Bq h.as hk (h.nb _ hmem)
 ·rcases key p hp with rfl|⟨h1,h2⟩
  ·exact⟨hb,hl⟩
  ·exact⟨hk _ _ h2 (h.rows p h1).1,(h.rows p h1).2⟩
 ·rcases key p hp with rfl|⟨h1,h2⟩
  ·show jg X R[i].1;exact h.nb _ hmem
  ·exact h.nb p h1
theorem LU:∀(R:List IR)(_:∀p,p∈R→bs[p.1]?=some ⟨rs p.2,.rw⟩∧p.2.length=N),∃(P:List (Row×Bool)),P.map Prod.fst=R.map Prod.snd∧(∀F:List D→List Nat→Rs,mg (iX (mem bs) 59) (R.map (rD N)) F=F (P.map mtD) (R.map Prod.fst))∧gr (res (mem bs).get 59) (R.map (rD N))=some (P.map mtD,R.map Prod.fst)
 |[],_=>⟨[],rfl,λF=>rfl,rfl⟩
 |p::R,h=>by
  obtain⟨P,h1,h2,h3⟩:=LU R (λq hq=>h q (by simp[hq]));obtain⟨g1,g2⟩:=h p (by simp);have hr:∀F:D→List Nat→Rs,iX (mem bs) 59 (rD N p) F=F (.tree (rs p.2) N false) [p.1]:=λF=>by
   show(jL (mem bs) p.1 λb=>cnd (lv b.st) (jN 0 b.cs λr=>iw (Nat.mul N 3) r λr=>mg (iX (mem bs) 58) r λcs ls=>my (cnd false (Nat.beq N N) false) λex=>F (.tree cs N ex) (p.1::ls)) none)=_;rw[gg g1,rN,show(⟨rs p.2,.rw⟩:Blk).st.live=true from rfl,eL,gE,am,gu,show Nat.mul N 3=N*3 from rfl,aC (by rw[ji];omega),oe g2,Co _ (oY p.2),ij];rfl
  have hr2:res (mem bs).get 59 (rD N p)=some (mtD (p.2,false),[p.1]):=by
   unfold rD mtD;have:=tI (g:=(mem bs).get) (n:=58) (l:=p.1) (off:=0) (len:=N) (cm:=N) (z:=3) (ex:=false) (r:=rs p.2) (cs:=rs p.2) (ls:=[]) (by rw[kj];exact g1) rfl (by
    unfold cut;rw[am,oe g2,aC (by rw[ji,g2])]) (jV (k:=57) _ (oY p.2))
   rw[this,g2];rfl
  refine⟨(p.2,false)::P,by simp[h1],λF=>?_,?_⟩
  ·rw[bI];show(iX (mem bs) 59 (rD N p) λy a=>mg (iX (mem bs) 59) (R.map (rD N)) λys b=>ki a b λab=>F (y::ys) ab)=_;rw[hr,h2,gL];unfold mtD;rw[bI,g2];rfl
  ·rw[bI];unfold gr;rw[hr2,h3];rfl
theorem Vl(h:OS bs X R N):∃(P:List (Row×Bool))(e:Bool)(ids:List Nat),P.map Prod.fst=R.map Prod.snd∧(∀l,l∈ids→l<bs.length)∧(∀F:D→List Nat→Rs,iX (mem bs) 60 X F=F (.tree (P.map mtD) R.length e) ids)∧res (mem bs).get 60 X=some (.tree (P.map mtD) R.length e,ids):=by
 obtain⟨P,h1,h2,h3⟩:=LU R h.rows;have ha:=h.as;have hlen:(R.map (rD N)).length=R.length:=aI _;have hids:∀l,l∈R.map Prod.fst→l<bs.length:=λl hl=>by
  obtain⟨p,hp,rfl⟩:=av.1 hl;exact ef (h.rows p hp).1
 generalize R.map (rD N)=cs at ha h2 h3 hlen;generalize hn:R.length=nn at ha hlen ⊢;cases ha with
 |nil=>
  have hR:R=[]:=ao hn;subst hR;have hP:P=[]:=by cases P with|nil=>rfl|cons a b=>simp at h1
  subst hP;exact⟨[],true,[],rfl,(λl hl=>by cases hl),λF=>rfl,rfl⟩
 | @blk l _ _ hg hc=>
  refine⟨P,false,l::R.map Prod.fst,h1,λx hx=>?_,λF=>?_,?_⟩
  ·rcases bK.1 hx with rfl|hx
   ·exact ef hg
   ·exact hids x hx
  ·show(jL (mem bs) l λb=>cnd (lv b.st) (jN 0 b.cs λr=>iw (Nat.mul nn 1) r λr=>mg (iX (mem bs) 59) r λcs ls=>my (cnd false (Nat.beq nn nn) false) λex=>F (.tree cs nn ex) (l::ls)) none)=_;rw[gg hg,rN,show(⟨cs,.rw⟩:Blk).st.live=true from rfl,eL,gE,am,gu,show Nat.mul nn 1=nn from aj nn,aC (by show nn≤cs.length;omega),aM (by show cs.length≤nn;omega),h2,ij];rfl
  ·have:=tI (g:=(mem bs).get) (n:=59) (l:=l) (off:=0) (len:=nn) (cm:=nn) (z:=1) (ex:=false) (r:=cs) (by rw[kj];exact hg) rfl (by
    show cut 0 (nn*1) cs=some cs;unfold cut;rw[am,aM (by omega),aC hc]) h3
   rw[this];rfl
theorem Ww{M:List D→Option D}(h:OS bs X R N):∃(P:List (Row×Bool))(e:Bool),P.map Prod.fst=R.map Prod.snd∧∀v,M [.tree (P.map mtD) R.length e]=some v→pt v=true→∃bs',∀K,eS M [X] (mem bs) K=K v (mem bs'):=by
 obtain⟨P,e,ids,h1,h2,h3,_⟩:=Vl h;refine⟨P,e,h1,λv hv hp=>?_⟩;obtain⟨b1,_,_,_,g3⟩:=GO (bs:=bs) hp h2;refine⟨b1,λK=>?_⟩;show(iX (mem bs) 60 X λy a=>ki a [] λab=>ob (M [y]) λr=>iz (mem bs) ab r K)=_;rw[h3,gL,hv,gN,ba,g3]
theorem S2(h:AS 1 bs X cs n):sW X=false:=by
 cases h with
 |nil=>rfl
 |blk _ _=>rfl
theorem Wv(h:OS bs X R N):∃(P:List (Row×Bool))(e:Bool),P.map Prod.fst=R.map Prod.snd∧eW false (mem bs) X some=some (.tree (P.map mtD) R.length e):=by
 obtain⟨P,e,ids,h1,h2,_,h3⟩:=Vl h;refine⟨P,e,h1,?_⟩;unfold eW;rw[kx,S2 h.as];show uO (mT false (mem bs).get fj X) some=_;have:mT false (mem bs).get fj X=some (.tree (P.map mtD) R.length e):=by
  have e1:pu false (mem bs).get 60 X=some (.tree (P.map mtD) R.length e,[],ids):=by
   rw[show pu false (mem bs).get 60 X=wy (res (mem bs).get 60 X) by cases X<;>rfl,h3];rfl
  have hX:∀ds,X≠.tup ds:=λds e=>by
   have:=h.as;rw[e]at this;cases this
  have e2:mT false (mem bs).get fj X=(match pu false (mem bs).get 60 X with
   |some (d,o,ls)=>if o.all λl=> !ls.contains l then some d else none
   |none=>none):=by
   cases X<;>first|rfl|exact absurd rfl (hX _)
  rw[e2,e1];rfl
 rw[this,gV];rfl
theorem Ot(hN:0<N)(hN1:N<1000000){q3:D→D→D→D→LS→Rs}(hO0:R.length<1000000)(hi:i<1000000):∀(u j fu:Nat)(bs:List Blk)(W:D),j+u=N→u<fu→A3 bs W (List.replicate j 0)→OS bs X R N→Sep W X→(∀p,p∈R→jg W p.1)→
 ∃bs' X' kr,OS bs' X' (R++[(kr,List.replicate N 0)]) N∧lp (λ(_ _ _ _ _ _:D)(_:LS)=>none) (lg φ q3) fu x0 (.i .i64 (.ofNat N)) X (.i .i64 (.ofNat i)) W (.i .i64 (.ofNat j)) (mem bs)=q3 x0 (.i .i64 (.ofNat N)) X' (.i .i64 (.ofNat (i+1))) (mem bs'):=by
 intro u
 induction u with
 |zero=>
  intro j fu bs W hj hf hW hO hs hR;obtain⟨fu,rfl⟩:∃q,fu=q+1:=⟨fu-1,by omega⟩
  have:j=N:=by omega
  subst this;obtain⟨b1,X1,kr,g1,g2⟩:=QV (K:=λx22 s=>eZ (.i .i64 (.ofNat i)) (.i .i64 (.ofNat 1)) λx23=>q3 x0 (.i .i64 (.ofNat j)) x22 x23 s) hO hN hW (by simp) hs hR hO0;refine⟨b1,X1,kr,g1,?_⟩;rw[eM];unfold lg;exact th (gA (bC _)) (th eP (g2.trans (fH (by omega))))
 |succ u ih=>
  intro j fu bs W hj hf hW hO hs hR;obtain⟨fu,rfl⟩:∃q,fu=q+1:=⟨fu-1,by omega⟩
  obtain⟨bs1,W1,hA1,hk,h1⟩:=ap3 (q:=0) (K:=λx19 s=>eZ (.i .i64 (.ofNat j)) (.i .i64 (.ofNat 1)) λx20=>lp (λ(_ _ _ _ _ _:D)(_:LS)=>none) (lg φ q3) fu x0 (.i .i64 (.ofNat N)) X (.i .i64 (.ofNat i)) x19 x20 s) hW (by simp;omega);obtain⟨o1,o2,o3⟩:=QS hO hs hR hk;obtain⟨b',X',kr,g1,g2⟩:=ih (j+1) fu bs1 W1 (by omega) (by omega) (by rw[eH];exact hA1) o1 o2 o3;refine⟨b',X',kr,g1,?_⟩;rw[eM]
  conv=>lhs;unfold lg
  exact th (fe (by omega)) (th eO (th (fF wz) (h1.trans (th (fH (by omega)) g2))))
theorem Oq(hN:0<N)(hN1:N<1000000)(hn:n<1000000)(hφ:1000000000≤φ){k':D→LS→Rs}:∀(u i fu:Nat)(bs:List Blk)(X:D)(R:List IR),i+u=n→u<fu→OS bs X R N→R.map Prod.snd=List.replicate i (List.replicate N 0)→
 ∃bs' X' R',OS bs' X' R' N∧R'.map Prod.snd=List.replicate n (List.replicate N 0)∧lp (λ(_ _ _ _:D)(_:LS)=>none) (lf φ k') fu (.i .i64 (.ofNat n)) (.i .i64 (.ofNat N)) X (.i .i64 (.ofNat i)) (mem bs)=k' X' (mem bs'):=by
 intro u
 induction u with
 |zero=>
  intro i fu bs X R hi hf hO hR;obtain⟨fu,rfl⟩:∃q,fu=q+1:=⟨fu-1,by omega⟩
  have:i=n:=by omega
  subst this;refine⟨bs,X,R,hO,hR,?_⟩;rw[eM];unfold lf;exact th (gA (bC _)) eP
 |succ u ih=>
  intro i fu bs X R hi hf hO hR;obtain⟨fu,rfl⟩:∃q,fu=q+1:=⟨fu-1,by omega⟩
  have hRl:R.length=i:=by have:=congrArg List.length hR;simpa using this
  obtain⟨b1,X1,kr,g1,g2⟩:=Ot (φ:=φ) (x0:=.i .i64 (.ofNat n)) (X:=X) (R:=R) (i:=i) hN hN1 (q3:=lp (λ(_ _ _ _:D)(_:LS)=>none) (lf φ k') fu) (by omega) (by omega) N 0 φ bs (.tree [] 0 true) (by omega) (by omega) vD hO uW (λp hp o n m z e h=>by cases h);obtain⟨b',X',R',a1,a2,a3⟩:=ih (i+1) fu b1 X1 _ (by omega) (by omega) g1 (by rw[aW,hR,eH];rfl);refine⟨b',X',R',a1,a2,?_⟩;rw[eM]
  conv=>lhs;unfold lf
  exact th (fe (by omega)) (th eO (g2.trans a3))
theorem W5(hl:l.length=d)(hs:d<1000000)(hNs:N<1000000)(hcN:c<N)(hm:cs[c]?=some (.tree (rs l) d e))(hcs:cs.length=N){q6:D→D→D→D→LS→Rs}{G:Nat→Nat→Rat}:∀(u j fu:Nat)(bs:List Blk)(R:List IR),j+u=d→u<fu→OS bs X R N→R.length=d→(∀t(ht:t<R.length) x,ent R[t].2 x=if x=c∧t<j then ent l t else G t x)→
 ∃bs' R',OS bs' X R' N∧R'.length=d∧(∀t(ht:t<R'.length) x,ent R'[t].2 x=if x=c then ent l t else G t x)∧
  lp (λ(_ _ _ _ _ _ _:D)(_:LS)=>none) (lI φ q6) fu (.tree cs N ex) X (.i .i64 (.ofNat c)) (.i .i64 (.ofNat N)) (.i .i64 (.ofNat c)) (.i .i64 (.ofNat d)) (.i .i64 (.ofNat j)) (mem bs)=q6 (.tree cs N ex) X (.i .i64 (.ofNat N)) (.i .i64 (.ofNat (c+1))) (mem bs'):=by
 intro u
 induction u with
 |zero=>
  intro j fu bs R hj hf hO hRl hV;obtain⟨fu,rfl⟩:∃q,fu=q+1:=⟨fu-1,by omega⟩
  have:j=d:=by omega
  subst this;refine⟨bs,R,hO,hRl,λt ht x=>?_,?_⟩
  ·rw[hV t ht x];by_cases hx:x=c
   ·rw[aC ⟨hx,by omega⟩,aC hx]
   ·rw[aF (λh=>hx h.1),aF hx]
  ·rw[eM];unfold lI;exact th (gA (bC _)) (th eP (fH (by omega)))
 |succ u ih=>
  intro j fu bs R hj hf hO hRl hV;obtain⟨fu,rfl⟩:∃q,fu=q+1:=⟨fu-1,by omega⟩
  have hjR:j<R.length:=by omega
  obtain⟨hb,hbl⟩:=hO.rows _ (ak hjR);have hO':=Wt (bs':=bs.set R[j].1 ⟨rs (R[j].2.set c (ent l j)),.rw⟩) (r:=R[j].2.set c (ent l j)) hO hjR (by rw[a7 (ef hb)]) (λk b hk hb=>gF (Ne.symm hk) hb) (by rw[bB];exact hbl);obtain⟨b',R',g1,g2,g3,g4⟩:=ih (j+1) fu _ _ (by omega) (by omega) hO' (by rw[bB];exact hRl) (λt ht x=>by
   rw[bB]at ht;rw[List.getElem_set];by_cases htj:j=t
   ·subst htj;rw[aC rfl];show ent (R[j].2.set c (ent l j)) x=_;rw[zx (by omega)];by_cases hx:x=c
    ·rw[aC hx,aC ⟨hx,by omega⟩]
    ·rw[aF hx,aF (λh=>hx h.1),hV _ hjR,aF (λh=>hx h.1)]
   ·rw[aF htj,hV t ht];by_cases hx:x=c∧t<j
    ·rw[aC hx,aC ⟨hx.1,by omega⟩]
    ·rw[aF hx,aF (λh=>hx ⟨h.1,by omega⟩)])
  refine⟨b',R',g1,g2,g3,?_⟩;rw[eM]
  conv=>lhs;unfold lI
  refine th (fe (by omega)) (th eO (th (J4 hO hjR) (th (yL hm hcs) (th (qE hl (by omega)) ?_))));exact th (Ir hb hcN (by omega)) (th (fH (by omega)) g4)
theorem W4(hP:∀p,p∈P→p.1.length=d)(hn:P.length=N)(hs:d<1000000)(hNs:N<1000000)(hφ:1000000000≤φ):∀(u i fu:Nat)(bs:List Blk)(R:List IR),i+u=N→u<fu→OS bs X R N→R.length=d→(∀t(ht:t<R.length) x,ent R[t].2 x=if x<i then ent ((P.map Prod.fst).getD x []) t else 0)→
 ∃(P':List (Row×Bool))(e':Bool),P'.map Prod.fst=trn d (P.map Prod.fst)∧lp (λ(_ _ _ _:D)(_:LS)=>none) (iV φ) fu (.tree (P.map mtD) N ex) X (.i .i64 (.ofNat N)) (.i .i64 (.ofNat i)) (mem bs)=some (.tree (P'.map mtD) d e'):=by
 intro u
 induction u with
 |zero=>
  intro i fu bs R hi hf hO hRl hV;obtain⟨fu,rfl⟩:∃q,fu=q+1:=⟨fu-1,by omega⟩
  have:i=N:=by omega
  subst this;obtain⟨P',e',h1,h2⟩:=Wv hO;rw[hRl]at h2;refine⟨P',e',?_,?_⟩
  ·rw[h1];unfold trn;refine z1z (by simp[hRl]) λt ht ht'=>?_;rw[cj,cj,z1k];have htR:t<R.length:=by simpa using ht
   rw[←Cq (l:=R[t].2),(hO.rows _ (ak htR)).2];refine(xt (by rw[aI,aI,hn]) λx hx=>?_).symm;rw[hV t htR x,aC hx];have hxP:x<P.length:=by omega
   unfold ent;simp only[aD,ae,aB hxP,cF,ci]
  ·rw[eM];unfold iV;exact th (gA (bC _)) (th eP h2)
 |succ u ih=>
  intro i fu bs R hi hf hO hRl hV;obtain⟨fu,rfl⟩:∃q,fu=q+1:=⟨fu-1,by omega⟩
  have hiP:i<P.length:=by omega
  have hl:=hP _ (ak hiP);have hgi:(P.map Prod.fst).getD i []=P[i].1:=by rw[aD,ae,aB hiP];rfl
  have hmi:(P.map mtD)[i]?=some (.tree (rs P[i].1) d P[i].2):=by
   rw[ae,aB hiP];show some (mtD P[i])=_;unfold mtD;rw[hl]
  obtain⟨b',R',g1,g2,g3,g4⟩:=W5 (φ:=φ) (X:=X) (ex:=ex) (c:=i) (q6:=lp (λ(_ _ _ _:D)(_:LS)=>none) (iV φ) fu) (G:=λt x=>if x<i then ent ((P.map Prod.fst).getD x []) t else 0) hl hs hNs (by omega) hmi (by rw[aI,hn]) d 0 φ bs R (by omega) (by omega) hO hRl (λt ht x=>by
   rw[aF (by omega)];exact hV t ht x)
  obtain⟨P',e',a1,a2⟩:=ih (i+1) fu b' R' (by omega) (by omega) g1 g2 (λt ht x=>by
   rw[g3 t ht x];by_cases hx:x=i
   ·subst hx;rw[aC rfl,aC (by omega),hgi]
   ·rw[aF hx];by_cases hx2:x<i
    ·rw[aC hx2,aC (by omega)]
    ·rw[aF hx2,aF (by omega)])
  refine⟨P',e',a1,?_⟩;rw[eM]
  conv=>lhs;unfold iV
  exact th (fe (by omega)) (th eO (th (yL hmi (by rw[aI,hn])) (th fO (g4.trans a2))))
theorem yX(hP:∀p,p∈P→p.1.length=d)(hn:P.length=N)(hN:0<N)(hs:d<1000000)(hNs:N<1000000)(hφ:1000000000≤φ):∃(P':List (Row×Bool))(e':Bool),P'.map Prod.fst=trn d (P.map Prod.fst)∧gZ φ [.tree (P.map mtD) N ex]=some (.tree (P'.map mtD) d e'):=by
 obtain⟨b1,X1,R1,a1,a2,a3⟩:=Oq (φ:=φ) (k':=λx4 s=>lp (λ(_ _ _ _:D)(_:LS)=>none) (iV φ) φ (.tree (P.map mtD) N ex) x4 (.i .i64 (.ofNat N)) (.i .i64 (.ofNat 0)) s) hN hNs hs hφ d 0 φ [] (.tree [] 0 true) [] (by omega) (by omega) J2 rfl;have hR1:R1.length=d:=by have:=congrArg List.length a2;simpa using this
 obtain⟨P',e',g1,g2⟩:=W4 (φ:=φ) (X:=X1) (ex:=ex) hP hn hs hNs hφ N 0 φ b1 R1 (by omega) (by omega) a1 hR1 (λt ht x=>by
  rw[aF (by omega)];have h1:(R1.map Prod.snd)[t]?=some (List.replicate N 0):=by rw[a2,dm,aC (by omega)]
  rw[ae,aB ht]at h1;rw[cK h1];unfold ent;rw[aD,dm];split<;>rfl)
 refine⟨P',e',g1,?_⟩;unfold gZ pR;dsimp only[eV,eY];rw[←fw];exact th (fF (Ph hP hn hN)) (th fO (a3.trans g2))
end
section
variable {bs bs':List Blk} {i j k n m c d N h H col kr:Nat} {ex ey e:Bool} {s:LS} {K:D→LS→Rs} {kk:IntKind} {φ:Nat} {X Y Z W W' X' x0 T:D} {P Q:List (Row×Bool)} {rows L:List Row} {l r pv t:Row} {q:Rat} {cs cs':List D} {V:List Nat} {R:List IR}
theorem BB{o:O}{dv:D}(h:evA s.nx cv s.get o=some (dv,[])):kS o s K=K dv s:=by
 unfold kS;rw[h];show zo dv (λd=>K d s)=_;rw[sV]
theorem Qp{z len:Nat}(hi:i<len)(hc:i*z<cs.length):kS (.pia z (.c (.tree cs len ex)) (.c (.i kk (.ofNat i)))) s K=K (.fp (cs.drop (i*z))) s:=by
 refine BB ?_;show(if(0:Int)≤Int.ofNat i&&Int.ofNat i<(len:Int)then match cs.drop ((Int.ofNat i).toNat*z)with
  |[]=>none
  |d::r=>some (D.fp (d::r),[])
  else none)=_
 rw[aC (by simp;omega)];show(match cs.drop (i*z)with
  |[]=>none
  |d::r=>some (D.fp (d::r),[]))=_
 rw[bu hc]
theorem UU{dv:D}{r:List D}:kS (.pld1 (.c (.fp (dv::r)))) s K=K dv s:=BB rfl
theorem Vq{dv:D}{len:Nat}(hd:cs[i]?=some dv)(hn:cs.length=len):(kS (.pia 1 (.c (.tree cs len ex)) (.c (.i kk (.ofNat i)))) s λa s=>kS (.pld1 (.c a)) s K)=K dv s:=by
 have:=ef hd;refine th (Qp (by omega) (by omega)) ?_;rw[aj,nD hd];exact UU
theorem Vr{len:Nat}(hn:l.length=len)(hi:i<len):(kS (.pia 3 (.c (.tree (rs l) len ex)) (.c (.i kk (.ofNat i)))) s λa s=>kS (.pldn 3 (.c a)) s K)=K (rc (ent l i)) s:=by
 refine th (Qp hi (by rw[ji];omega)) (BB ?_);show(match cut 0 3 ((rs l).drop (i*3))with
  |some r=>some (D.agg r,[])
  |none=>none)=_
 have:cut 0 3 ((rs l).drop (i*3))=some (rcs (ent l i)):=by
  unfold cut;rw[am,B2 (by omega)];rfl
 rw[this];rfl
theorem ZE:kS (.pbs 0 [.b false,.n 0,.n 0] []) s K=K (.tree [] 0 true) s:=BB rfl
theorem Qj:kS (.pbs 1 [.b false,.n 0,.n 0] [(0,3,.c (rc q))]) s K=K (.tree (rcs q) 1 true) s:=BB rfl
theorem K8(h:A3 bs X l)(hs:l.length+r.length<1000000000):∃bs' X',A3 bs' X' (l++r)∧Kp bs bs' X X'∧kJ 3 40 (mem bs) X (.tree (rs r) r.length e) K=K X' (mem bs'):=by
 obtain⟨b1,X1,g1,g2,g3⟩:=S6 (z:=3) (bytes:=40) (bs:=bs) (X:=X) (cs:=rs l) (n:=l.length) (new:=rs r) (m:=r.length) (y:=.tree (rs r) r.length e) (K:=K) h (λF=>Bo (by rw[ji])) (by rw[ji]) (ut r) (by omega) (by omega);refine⟨b1,X1,?_,g2,g3⟩;unfold A3;rw[JH,ay];exact g1
inductive FP (V:List Nat) (col i:Nat):Prop
 |mk (h:∀t,t<i→V.getD t 0≠col):FP V col i
theorem NG(hn:V.length=n)(hs:n<1000000):∀(u i fu:Nat),i+u=n→u<fu→(∀t,t<i→V.getD t 0≠col)→
 (∃a,a<n∧V.getD a 0=col∧lp (λ(_ _ _ _:D)(_:LS)=>none) (gQ φ) fu (iD col) (.tree (V.map iD) n e) (.i .i64 (.ofNat n)) (.i .i64 (.ofNat i)) s=some (.tup [iD a,.b true]))∨
 ((∀t,t<n→V.getD t 0≠col)∧lp (λ(_ _ _ _:D)(_:LS)=>none) (gQ φ) fu (iD col) (.tree (V.map iD) n e) (.i .i64 (.ofNat n)) (.i .i64 (.ofNat i)) s=some (.tup [iD 0,.b false])):=by
 intro u
 induction u with
 |zero=>
  intro i fu hi hf h;obtain⟨fu,rfl⟩:∃q,fu=q+1:=⟨fu-1,by omega⟩
  have:i=n:=by omega
  subst this;refine Or.inr ⟨h,?_⟩;rw[eM];unfold gQ;exact th (gA (bC _)) (th eP rfl)
 |succ u ih=>
  intro i fu hi hf h;obtain⟨fu,rfl⟩:∃q,fu=q+1:=⟨fu-1,by omega⟩
  have hiV:i<V.length:=by omega
  have hg:(V.map iD)[i]?=some (iD (V.getD i 0)):=by rw[ae,aD,aB hiV];rfl
  by_cases hc:V.getD i 0=col
  ·refine Or.inl ⟨i,by omega,hc,?_⟩;rw[eM];unfold gQ;exact th (fe (by omega)) (th eO (th (yL hg (by rw[aI,hn])) (th (oo hc) (th eO rfl))))
  ·have e1:∀R,lp (λ(_ _ _ _:D)(_:LS)=>none) (gQ φ) fu (iD col) (.tree (V.map iD) n e) (.i .i64 (.ofNat n)) (.i .i64 (.ofNat (i+1))) s=R→lp (λ(_ _ _ _:D)(_:LS)=>none) (gQ φ) (fu+1) (iD col) (.tree (V.map iD) n e) (.i .i64 (.ofNat n)) (.i .i64 (.ofNat i)) s=R:=by
    intro R hR;rw[eM]
    conv=>lhs;unfold gQ
    exact th (fe (by omega)) (th eO (th (yL hg (by rw[aI,hn])) (th (sD hc) (th eP (th (fH (by omega)) hR)))))
   rcases ih (i+1) fu (by omega) (by omega) (λt ht=>by
    by_cases h1:t=i
    ·subst h1;exact hc
    ·exact h t (by omega))with⟨a,h1,h2,h3⟩|⟨h1,h2⟩
   ·exact Or.inl ⟨a,h1,h2,e1 _ h3⟩
   ·exact Or.inr ⟨h1,e1 _ h2⟩
theorem HN(hn:V.length=n)(hs:n<1000000)(hφ:1000000000≤φ):
 (∃a,a<n∧V.getD a 0=col∧gk φ [.tree (V.map iD) n e,.i .i64 (.ofNat col)]=some (.tup [iD a,.b true]))∨
 ((∀t,t<n→V.getD t 0≠col)∧gk φ [.tree (V.map iD) n e,.i .i64 (.ofNat col)]=some (.tup [iD 0,.b false])):=by
 have e1:gk φ [.tree (V.map iD) n e,.i .i64 (.ofNat col)]=lp (λ(_ _ _ _:D)(_:LS)=>none) (gQ φ) φ (iD col) (.tree (V.map iD) n e) (.i .i64 (.ofNat n)) (.i .i64 (.ofNat 0)) s0:=by
  unfold gk;dsimp only[eV,eY];exact fO
 rw[e1];exact NG hn hs n 0 φ (by omega) (by omega) (λt ht=>by omega)
theorem TP{E:List (Row×Nat)}(hE:RE E)(hQ:Q.map Prod.fst=E.map Prod.fst)(hQl:∀q,q∈Q→q.1.length=k+1)(hs:k<1000)(hEl:E.length<1000)(h0:0<k)(hφ:1000000000≤φ){e1 e2:Bool}:∀(u i fu:Nat)(bs:List Blk)(X:D),i+u=k→u<fu→A3 bs X ((List.range i).map (wJ E k))→
 lp (λ(_ _ _ _ _:D)(_:LS)=>none) (io φ) fu (.i .i64 (.ofNat k)) (.tree (Q.map mtD) Q.length e1) (.tree ((E.map Prod.snd).map iD) Q.length e2) X (.i .i64 (.ofNat i)) (mem bs)=some (.tup [.own (rs ((List.range k).map (wJ E k))) k 3,.b true]):=by
 have hlen:Q.length=E.length:=by have:=congrArg List.length hQ;simpa using this
 intro u
 induction u with
 |zero=>
  intro i fu bs X hi hf hA;obtain⟨fu,rfl⟩:∃q,fu=q+1:=⟨fu-1,by omega⟩
  have:i=k:=by omega
  subst this;unfold A3 at hA;obtain⟨kb,g1,g2⟩:=S4 hA (by simp;omega);rw[g1,eM];unfold io;refine th (gA (bC _)) (th eP ?_);rw[aI,List.length_range];exact Kv g2 (by simp)
 |succ u ih=>
  intro i fu bs X hi hf hA;obtain⟨fu,rfl⟩:∃q,fu=q+1:=⟨fu-1,by omega⟩
  have hAl:((List.range i).map (wJ E k)).length=i:=by simp
  obtain⟨b1,X1,g1,g2,g3⟩:=K8 (r:=[wJ E k i]) (e:=true) (K:=λx52 s=>eZ (.i .i64 (.ofNat i)) (.i .i64 (.ofNat 1)) λx43=>lp (λ(_ _ _ _ _:D)(_:LS)=>none) (io φ) fu (.i .i64 (.ofNat k)) (.tree (Q.map mtD) Q.length e1) (.tree ((E.map Prod.snd).map iD) Q.length e2) x52 x43 s) hA (by rw[hAl];show i+1<_;omega);have hih:=ih (i+1) fu b1 X1 (by omega) (by omega) (by rw[cw,aW];exact g1);have hrs:rs [wJ E k i]=rcs (wJ E k i):=rfl;rw[hrs]at g3;rcases HN (V:=E.map Prod.snd) (col:=i) (e:=e2) (n:=Q.length) (φ:=φ) (by rw[aI,hlen]) (by omega) hφ with⟨a,h1,h2,h3⟩|⟨h1,h2⟩
  ·have haE:a<E.length:=by omega
   have haQ:a<Q.length:=by omega
   have hEa:E[a].2=i:=by
    rw[aD,ae,aB haE]at h2;exact h2
   have hQa:Q[a].1=E[a].1:=by
    have h5:(Q.map Prod.fst)[a]?=(E.map Prod.fst)[a]?:=by rw[hQ]
    rw[ae,ae,aB haE,aB haQ]at h5;exact cK h5
   have hsx:wJ E k i=ent Q[a].1 k:=by
    rw[←hEa,Gy hE (ak haE),hQa]
   rw[hsx]at g3;rw[eM]
   conv=>lhs;unfold io
   refine th (fe (by omega)) (th eO (th om (th (fF h3) (th iO (th iN (th eO (th (Vq (dv:=mtD Q[a]) (by rw[ae,aB haQ];rfl) (aI _)) ?_)))))));unfold mtD;exact th (Vr rfl (by rw[hQl _ (ak haQ)];omega)) (th Qj (g3.trans (th (fH (by omega)) hih)))
  ·have hsx:wJ E k i=0:=Gx λe he hei=>by
    obtain⟨a,ha,hea⟩:=cE.1 he;refine h1 a (by omega) ?_;rw[aD,ae,aB ha];show(E[a]).2=i;rw[hea];exact hei
   rw[hsx]at g3;rw[eM]
   conv=>lhs;unfold io
   exact th (fe (by omega)) (th eO (th om (th (fF h2) (th iO (th iN (th eP (th (fF wz) (th Qj (g3.trans (th (fH (by omega)) hih))))))))))
theorem JD{m:List Row}{v:List Rat}(hm:i<m.length)(hv:i<v.length):mE (m.take (i+1)) (v.take (i+1))=mE (m.take i) (v.take i)++[m[i]++[v[i]]]:=by
 unfold mE;rw[bq,bq,aB hm,aB hv,Option.toList_some,Option.toList_some,List.zipWith_append (by rw[aZ,aZ];omega)];rfl
theorem TO(hP:∀p,p∈P→p.1.length=k)(hn:P.length=d)(h0:0<d)(hk0:0<k)(hk:k<999)(hd:d<1000)(ht:t.length=d)(hW:∀r,r∈mE (P.map Prod.fst) t→RH h r)(hK:hg2 h (k+1)≤KB)(hφ:1000000000≤φ):∀(u i fu:Nat)(bs:List Blk)(X:D)(R:List IR),i+u=d→u<fu→OS bs X R (k+1)→R.map Prod.snd=mE ((P.map Prod.fst).take i) (t.take i)→
 ((∀e,e∈vZ (k+1) (mE (P.map Prod.fst) t)→e.2≠k)→lp (λ(_ _ _ _ _ _:D)(_:LS)=>none) (fx φ) fu (.tree (P.map mtD) d ex) (.tree (rs t) d ey) (.i .i64 (.ofNat k)) X (.i .i64 (.ofNat d)) (.i .i64 (.ofNat i)) (mem bs)=some (.tup [.own (rs ((List.range k).map (wJ (vZ (k+1) (mE (P.map Prod.fst) t)) k))) k 3,.b true]))∧
 ((∃e,e∈vZ (k+1) (mE (P.map Prod.fst) t)∧e.2=k)→lp (λ(_ _ _ _ _ _:D)(_:LS)=>none) (fx φ) fu (.tree (P.map mtD) d ex) (.tree (rs t) d ey) (.i .i64 (.ofNat k)) X (.i .i64 (.ofNat d)) (.i .i64 (.ofNat i)) (mem bs)=some (.tup [.tree [] 0 true,.b false])):=by
 have hrl:∀r,r∈P.map Prod.fst→r.length=k:=λr hr=>by
  obtain⟨p,hp,rfl⟩:=av.1 hr;exact hP p hp
 intro u
 induction u with
 |zero=>
  intro i fu bs X R hi hf hO hR;obtain⟨fu,rfl⟩:∃q,fu=q+1:=⟨fu-1,by omega⟩
  have:i=d:=by omega
  subst this;rw[aM (by rw[aI];omega),aM (by omega)]at hR;obtain⟨P1,e1,p1,p2⟩:=Ww (M:=kC φ) hO;rw[hR]at p1;have hRl:R.length=i:=by
   have:=congrArg List.length hR;unfold mE at this;rw[aI,cW,aI]at this;omega
  have hP1:∀p,p∈P1→p.1.length=k+1∧RH h p.1:=λp hp=>by
   have hm:p.1∈mE (P.map Prod.fst) t:=by rw[←p1];exact bM hp
   exact⟨uk hrl _ hm,hW _ hm⟩
  have hP1l:P1.length=R.length:=by
   have:=congrArg List.length p1;rw[←hR]at this;simpa using this
  obtain⟨Q,e2,e3,q1,q2,q3⟩:=HQ (φ:=φ) (P:=P1) (e:=e1) (h:=h) hφ (show k+1<1000 by omega) hP1 hP1l (by omega) (by omega) hK;rw[p1]at q1 q3;obtain⟨b1,hiso⟩:=p2 _ q3 rfl;obtain⟨rest,hri,_⟩:=B4 (N:=k+1) (rows:=mE (P.map Prod.fst) t) (λr hr=>uk hrl _ hr);have hre:=hri.red;have hEl:=PL hre hri.low;generalize hE:vZ (k+1) (mE (P.map Prod.fst) t)=E at*;have hQE:Q.length=E.length:=by have:=congrArg List.length q1;simpa using this
  have pre:∀R1,(eS (gk φ) [.tree ((E.map Prod.snd).map iD) Q.length e3,.i .i64 (.ofNat k)] (mem b1) λx27 s=>fh x27 0 s λx28 s=>fh x27 1 s λx29 s=>eQ x29 (eW true s (.tup [(.tree [] 0 true),(.b false)]) some) (lp (λ(_ _ _ _ _:D)(_:LS)=>none) (io φ) φ (.i .i64 (.ofNat k)) (.tree (Q.map mtD) Q.length e2) (.tree ((E.map Prod.snd).map iD) Q.length e3) (.tree [] 0 true) (.i .i64 (.ofNat 0)) s))=R1→lp (λ(_ _ _ _ _ _:D)(_:LS)=>none) (fx φ) (fu+1) (.tree (P.map mtD) i ex) (.tree (rs t) i ey) (.i .i64 (.ofNat k)) X (.i .i64 (.ofNat i)) (.i .i64 (.ofNat i)) (mem bs)=R1:=by
   intro R1 h1;rw[eM]
   conv=>lhs;unfold fx
   exact th (gA (bC _)) (th eP ((hiso _).trans (th iO (th iN h1))))
  have hget:∀a,a<Q.length→∃e,e∈E∧(E.map Prod.snd).getD a 0=e.2:=λa ha=>by
   have haE:a<E.length:=by omega
   exact⟨E[a],ak haE,by rw[aD,ae,aB haE];rfl⟩
  rcases HN (V:=E.map Prod.snd) (col:=k) (e:=e3) (n:=Q.length) (φ:=φ) (by rw[aI,hQE]) (by omega) hφ with⟨a,h1,h2,h3⟩|⟨h1,h2⟩
  ·refine⟨λhno=>?_,λ_=>pre _ ?_⟩
   ·obtain⟨e',he',hee⟩:=hget a h1;exact absurd (hee.symm.trans h2) (hno e' he')
   ·exact th (fF h3) (th iO (th iN (th eO rfl)))
  ·refine⟨λ_=>pre _ ?_,λhex=>?_⟩
   ·exact th (fF h2) (th iO (th iN (th eP (TP hre q1 (λq hq=>(q2 q hq).1) (by omega) (by omega) hk0 hφ k 0 φ b1 (.tree [] 0 true) (by omega) (by omega) vD))))
   ·obtain⟨e',he',hek⟩:=hex;obtain⟨a,ha,hea⟩:=cE.1 he';exfalso;refine h1 a (by omega) ?_;rw[aD,ae,aB ha];show(E[a]).2=k;rw[hea];exact hek
 |succ u ih=>
  intro i fu bs X R hi hf hO hR;obtain⟨fu,rfl⟩:∃q,fu=q+1:=⟨fu-1,by omega⟩
  have hiP:i<P.length:=by omega
  have hit:i<t.length:=by omega
  have hl:=hP _ (ak hiP);have hRl:R.length=i:=by
   have:=congrArg List.length hR;unfold mE at this;rw[aI,cW,aZ,aZ,aI]at this;omega
  have hmi:(P.map mtD)[i]?=some (.tree (rs P[i].1) P[i].1.length P[i].2):=by
   rw[ae,aB hiP];rfl
  obtain⟨b1,W1,g1,g2,g3⟩:=K8 (bs:=bs) (X:=.tree [] 0 true) (l:=[]) (r:=P[i].1) (e:=P[i].2) (K:=λx16 s=>kS (.pia 3 (.c (.tree (rs t) d ey)) (.c (.i .i64 (.ofNat i)))) s λx17 s=>kS (.pldn 3 (.c x17)) s λx18 s=>kS (.pbs 1 [(.b false),(.n 0),(.n 0)] [(0,3,(.c x18))]) s λx19 s=>kJ 3 40 s x16 x19 λx20 s=>ie 1 [(.tree [] 0 true)] [(0,1,x20)] s λx21 s=>kJ 1 24 s X x21 λx22 s=>eZ (.i .i64 (.ofNat i)) (.i .i64 (.ofNat 1)) λx23=>lp (λ(_ _ _ _ _ _:D)(_:LS)=>none) (fx φ) fu (.tree (P.map mtD) d ex) (.tree (rs t) d ey) (.i .i64 (.ofNat k)) x22 (.i .i64 (.ofNat d)) x23 s) vD (by rw[hl];show 0+k<_;omega);obtain⟨o1,o2,o3⟩:=QS hO uW (λp hp o n m z e h=>by cases h) g2;obtain⟨b2,W2,f1,f2,f3⟩:=K8 (bs:=b1) (X:=W1) (l:=P[i].1) (r:=[ent t i]) (e:=true) (K:=λx20 s=>ie 1 [(.tree [] 0 true)] [(0,1,x20)] s λx21 s=>kJ 1 24 s X x21 λx22 s=>eZ (.i .i64 (.ofNat i)) (.i .i64 (.ofNat 1)) λx23=>lp (λ(_ _ _ _ _ _:D)(_:LS)=>none) (fx φ) fu (.tree (P.map mtD) d ex) (.tree (rs t) d ey) (.i .i64 (.ofNat k)) x22 (.i .i64 (.ofNat d)) x23 s) g1 (by rw[hl];show k+1<_;omega);obtain⟨o4,o5,o6⟩:=QS o1 o2 o3 f2;obtain⟨b3,X3,kr,m1,m2⟩:=QV (K:=λx22 s=>eZ (.i .i64 (.ofNat i)) (.i .i64 (.ofNat 1)) λx23=>lp (λ(_ _ _ _ _ _:D)(_:LS)=>none) (fx φ) fu (.tree (P.map mtD) d ex) (.tree (rs t) d ey) (.i .i64 (.ofNat k)) x22 (.i .i64 (.ofNat d)) x23 s) o4 (by omega) f1 (by rw[ay,hl];rfl) o5 o6 (by omega);have hih:=ih (i+1) fu b3 X3 _ (by omega) (by omega) m1 (by
   rw[aW,hR,JD (by rw[aI];exact hiP) hit,cj];show _++[P[i].1++[ent t i]]=_;rw[show ent t i=t[i] by unfold ent;rw[aD,aB hit];rfl])
  have pre:∀R1,lp (λ(_ _ _ _ _ _:D)(_:LS)=>none) (fx φ) fu (.tree (P.map mtD) d ex) (.tree (rs t) d ey) (.i .i64 (.ofNat k)) X3 (.i .i64 (.ofNat d)) (.i .i64 (.ofNat (i+1))) (mem b3)=R1→lp (λ(_ _ _ _ _ _:D)(_:LS)=>none) (fx φ) (fu+1) (.tree (P.map mtD) d ex) (.tree (rs t) d ey) (.i .i64 (.ofNat k)) X (.i .i64 (.ofNat d)) (.i .i64 (.ofNat i)) (mem bs)=R1:=by
   intro R1 h1;rw[eM]
   conv=>lhs;unfold fx
   exact th (fe (by omega)) (th eO (th ZE (th (Vq hmi (by rw[aI,hn])) (g3.trans (th (Vr ht (by omega)) (th Qj (f3.trans (m2.trans (th (fH (by omega)) h1)))))))))
  exact⟨λhno=>pre _ (hih.1 hno),λhex=>pre _ (hih.2 hex)⟩
theorem We(hP:∀p,p∈P→p.1.length=k)(hn:P.length=d)(h0:0<d)(hk0:0<k)(hk:k<999)(hd:d<1000)(ht:t.length=d)(hW:∀r,r∈mE (P.map Prod.fst) t→RH h r)(hK:hg2 h (k+1)≤KB)(hφ:1000000000≤φ):
 ((∀e,e∈vZ (k+1) (mE (P.map Prod.fst) t)→e.2≠k)→fV φ [.tree (P.map mtD) d ex,.tree (rs t) d ey]=some (.tup [.own (rs ((List.range k).map (wJ (vZ (k+1) (mE (P.map Prod.fst) t)) k))) k 3,.b true]))∧
 ((∃e,e∈vZ (k+1) (mE (P.map Prod.fst) t)∧e.2=k)→fV φ [.tree (P.map mtD) d ex,.tree (rs t) d ey]=some (.tup [.tree [] 0 true,.b false])):=by
 have e1:fV φ [.tree (P.map mtD) d ex,.tree (rs t) d ey]=lp (λ(_ _ _ _ _ _:D)(_:LS)=>none) (fx φ) φ (.tree (P.map mtD) d ex) (.tree (rs t) d ey) (.i .i64 (.ofNat k)) (.tree [] 0 true) (.i .i64 (.ofNat d)) (.i .i64 (.ofNat 0)) (mem []):=by
  unfold fV;dsimp only[eV,eY];rw[←fw];exact th (fF (Ph hP hn h0)) fO
 rw[e1];exact TO hP hn h0 hk0 hk hd ht hW hK hφ d 0 φ [] (.tree [] 0 true) [] (by omega) (by omega) J2 rfl
end
section
variable {bs bs':List Blk} {i j k n m c d D' N' M' N h H col kr J:Nat} {ex ey e:Bool} {s:LS} {K:D→LS→Rs} {kk:IntKind} {φ:Nat} {X Y Z W W' X' x0 T L:D} {P Q:List (Row×Bool)} {rows:List Row} {l r pv t g a b:Row} {q:Rat} {cs cs':List D} {V:List Nat} {R:List IR}
theorem Lj(h:i≤j){k:D→Rs}:wm (.i kk (.ofNat i)) (.i kk (.ofNat j)) k=k (.b true):=by rw[Ae,aH h]
theorem EL.kf(h:EL g a d D' N' M'):KF g (d+1) M':=by
 have:=h.hd5;exact⟨h.hm,by have:=h.hd;omega,by omega,h.hg,by rw[a8];exact h.h1,ZC h.lM⟩
theorem T1(hN:N<1000)(hr:∀r,r∈rows→r.length=N∧RH h r)(h0:rows≠[])(hn:rows.length≤1000)(hK:hg2 h N≤KB):∀e,e∈vZ N rows→RH (hg2 h N) e.1:=by
 have e1:(rows.map λr=>(r,true)).map Prod.fst=rows:=by rw[cM];exact List.map_id _
 obtain⟨Q,_,_,q1,q2,_⟩:=HQ (φ:=1000000000) (P:=rows.map λr=>(r,true)) (e:=true) (N:=N) (h:=h) (n:=rows.length) (aE _) hN (λp hp=>by
  obtain⟨r,hr',rfl⟩:=av.1 hp;exact hr r hr') (aI _) (by cases rows with|nil=>exact absurd rfl h0|cons a b=>simp) hn hK
 rw[e1]at q1;intro e he;have hm:e.1∈Q.map Prod.fst:=by rw[q1];exact bM he
 obtain⟨q,hq,hqe⟩:=av.1 hm;rw[←hqe];exact(q2 q hq).2
theorem XQ{M:List D→Option D}{v:D}{z:Nat}(hb:bs[k]?=some ⟨cs,.rw⟩)(hf:cs.all pY=true)(hn:cs.length=n*z)(hM:M [.tree cs n true]=some v)(hp:pt v=true)(hfv:sW v=false):eS M [.sl k 0 n n z true] (mem bs) K=K v (mem (bs.set k ⟨cs,.frz⟩)):=by
 show(jL (mem bs) k λb=>cnd (lv b.st) (jN 0 b.cs λr=>iw (Nat.mul n z) r λr=>mg (iX (mem bs) 59) r λcs ls=>my (cnd true (Nat.beq n n) false) λex=>ki (k::ls) [] λab=>ob (M [.tree cs n ex]) λr=>iz (mem bs) ab r K) none)=_;rw[gg hb,rN,show(⟨cs,.rw⟩:Blk).st.live=true from rfl,eL,gE,am,gu,show Nat.mul n z=n*z from rfl,aC (by show n*z≤cs.length;omega),aM (by show cs.length≤n*z;omega),Co _ hf,eL,ei,ij,gL,hM,gN];unfold iz;rw[kx,hfv];show vI [k] (mem bs) (λs=>yF s v K)=_;rw[xy hb];unfold yF;split
 ·cases hp
 ·cases hp
 ·rfl
theorem Lr{M:List D→Option D}(h:KL bs X (P.map mtD) P.length):∃e bs1,KL bs1 X (P.map mtD) P.length∧(∀(k:Nat)(b:Blk),b.st=.rw→bs[k]?=some b→bs1[k]?=some b)∧∀v,M [.tree (P.map mtD) P.length e]=some v→pt v=true→sW v=false→∀K,eS M [X] (mem bs) K=K v (mem bs1):=by
 have hmat:∀{s:LS}{v:D}{K:D→LS→Rs},pt v=true→yF s v K=K v s:=by
  intro s v K hp;unfold yF;split
  ·cases hp
  ·cases hp
  ·rfl
 generalize hcs:P.map mtD=cs at h;generalize hnn:P.length=nn at h;cases h with
 |nil=>
  refine⟨true,bs,KL.nil,λ_ _ _ h=>h,λv hv hp hf K=>?_⟩;show ob (M [.tree [] 0 true]) (λr=>iz (mem bs) [] r K)=_;rw[hv,gN];exact DK hp
 | @blk l _ _ hg hc=>
  subst hcs;subst hnn;refine⟨cnd false (Nat.beq P.length P.length) false,bs.set l ⟨P.map mtD,.apd⟩,KL.blk (by rw[a7 (ef hg)]) hc,λk b hs hk=>gF (λe=>by subst e;rw[hg]at hk;cases hk;cases hs) hk,λv hv hp hf K=>?_⟩;have h1:=PF (bs:=bs) (w:=l) (c:=P.length) (ex:=false) (F:=λy a=>ki a [] λab=>ob (M [y]) λr=>iz (mem bs) ab r K) hg rfl rfl;refine Eq.trans h1 ?_;rw[gL,hv,gN];unfold iz;rw[kx,hf];show vI [l] (mem bs) (λs=>yF s v K)=_;rw[xy hg];exact hmat hp
theorem VS{M:List D→Option D}(h:AS 1 bs X (P.map mtD) P.length):∃e,∀v,M [.tree (P.map mtD) P.length e]=some v→pt v=true→∃bs',(∀k b,jg X k→bs[k]?=some b→bs'[k]?=some b)∧∀K,eS M [X] (mem bs) K=K v (mem bs'):=by
 generalize hcs:P.map mtD=cs at h;generalize hnn:P.length=nn at h;cases h with
 |nil=>
  refine⟨true,λv hv hp=>⟨bs,λ_ _ _ h=>h,λK=>?_⟩⟩;show ob (M [.tree [] 0 true]) (λr=>iz (mem bs) [] r K)=_;rw[hv,gN];exact DK hp
 | @blk l _ _ hg hc=>
  subst hcs;subst hnn;refine⟨cnd false (Nat.beq P.length P.length) false,λv hv hp=>?_⟩;obtain⟨b1,_,g2,_,g3⟩:=GO (bs:=bs) (ls:=[l]) hp (λj hj=>by
   have:j=l:=by simpa using hj
   subst this;exact ef hg)
  refine⟨b1,λk b hk hb=>g2 k b (λhm=>by
   have:k=l:=by simpa using hm
   subst this;exact xr hk) hb,λK=>?_⟩
  have h1:=PF (bs:=bs) (w:=l) (c:=P.length) (ex:=false) (F:=λy a=>ki a [] λab=>ob (M [y]) λr=>iz (mem bs) ab r K) hg rfl rfl;refine Eq.trans h1 ?_;rw[gL,hv,gN,ba,g3]
theorem QE(h:EL g a d D' N' M'):n7 g [1]=[1]:=by
 have hd:=h.hd;have hpt:Pt ([1]:Row):=QB (g:=g) (a:=a) 0;unfold n7;rw[h.hm,show([1]:Row).length+1-(d+1)=0 by show 1+1-(d+1)=0;omega];show fG (lst (d+1-1) (ent [1]))=[1]
 conv=>rhs;rw[←show fG [1]=[1]from hpt]
 refine qZ λi=>?_;rw[mW];split
 ·rfl
 ·rw[gJ (by show 1≤i;omega)]
theorem Zn(hφ:1000000000≤φ):nF φ [.tree [.i .i64 (.ofNat 1)] 1 true]=some (.tree (rs [1]) 1 false):=by
 obtain⟨ψ,rfl⟩:∃ψ,φ=ψ+5:=⟨φ-5,by omega⟩
 kernel_rfl
theorem Ya(h:EL g a d D' N' M')(hφ:1000000000≤φ):∃(e:Bool)(bs':List Blk),(∀(k:Nat)(b:Blk),bs[k]?=some b→bs'[k]?=some b)∧∀K:D→LS→Rs,(ie 1 [.i .i64 (.ofNat 0)] [(0,1,.i .i64 (.ofNat 1))] (mem bs) λx5 s=>eS (nF φ) [x5] s λx6 s=>eS (ig φ) [fld g ey,x6] s K)=K (.tree (rs (pwL g a 0)) (pwL g a 0).length e) (mem bs'):=by
 obtain⟨e,he⟩:=Kz (φ:=φ) (f:=[1]) (n:=1) (ex:=false) (ey:=ey) (Df:=1) (N:=1) (EL.kf h) rfl (by omega) dA (a9 _) RW (by
  have h1M:Lg 41 (1+M'):=xI (j:=40) (m:=1) (n:=M') (wh (by decide)) h.lM;have h2:=jW (wh (by decide):Lg 11 2000) (uv h1M (1+1));rw[bG];exact fD h2 (by decide)) hφ
 rw[QE h]at he;refine⟨e,(bs++[(⟨[.i .i64 (.ofNat 1)],.rw⟩:Blk)]).set bs.length ⟨[.i .i64 (.ofNat 1)],.frz⟩,λk b hk=>gF (by have:=ef hk;omega) (gI hk),λK=>?_⟩;refine th Qm ((XQ (z:=1) (n:=1) (cs:=[.i .i64 (.ofNat 1)]) (by simp) rfl rfl (Zn hφ) rfl rfl).trans ?_);exact fF he
theorem Vg(h:EL g a d D' N' M')(hj:j≤6)(hφ:1000000000≤φ){e1 e2:Bool}:∃e,i8 φ [fld g ey,.tree (rs (pwL g a j)) (pwL g a j).length e1,.tree (rs a) a.length e2]=some (.tree (rs (pwL g a (j+1))) (pwL g a (j+1)).length e):=by
 have hl:=zV (g:=g) (a:=a) (by rw[h.hm];have:=h.hd;omega) j;rw[h.hm]at hl;have:=h.hd;have:=h.hd5;have:=h.hal;exact Yb (φ:=φ) (ey:=ey) (EL.kf h) (EL.mb h hj) rfl rfl (by omega) (by
  have h2:=jW (wh (by decide):Lg 11 2000) (EL.lt h hj ((pwL g a j).length+a.length+1) (by omega));exact fD h2 (by decide)) hφ
theorem PZ(h:EL g a d D' N' M')(hφ:1000000000≤φ){e1:Bool}:∃e,i7 φ [fld g ey,.tree (rs (pwL g a j)) (pwL g a j).length e1]=some (mtD (iY g a j,e)):=by
 obtain⟨e,he⟩:=Y9 (φ:=φ) (ex:=e1) (ey:=ey) (l:=pwL g a j) (EL.kf h) rfl hφ;refine⟨e,?_⟩;rw[he];unfold mtD;rw[Fj h,gp,a8]
theorem HA(hJ:J<1000000):∀(u i fu:Nat)(bs:List Blk)(X:D)(l:Row),i+u=J→u<fu→A3 bs X l→l.length≤i→
 ∃(z:Row)(e:Bool),z.length=l.length+u+1∧lp (λ(_ _ _:D)(_:LS)=>none) (lE φ) fu (.i .i64 (.ofNat J)) X (.i .i64 (.ofNat i)) (mem bs)=some (.tree (rs z) z.length e):=by
 intro u
 induction u with
 |zero=>
  intro i fu bs X l hi hf hA hl;obtain⟨fu,rfl⟩:∃q,fu=q+1:=⟨fu-1,by omega⟩
  have:i=J:=by omega
  subst this;obtain⟨b1,X1,g1,_,g3⟩:=ap3 (q:=1) (K:=λx16 s=>eW false s x16 some) hA (by omega);obtain⟨e,he⟩:=TZ g1;refine⟨l++[1],e,by simp,?_⟩;rw[eM];unfold lE;exact th (gA (bC _)) (th eP (th (fF Pf) (g3.trans he)))
 |succ u ih=>
  intro i fu bs X l hi hf hA hl;obtain⟨fu,rfl⟩:∃q,fu=q+1:=⟨fu-1,by omega⟩
  obtain⟨b1,X1,g1,_,g3⟩:=ap3 (q:=0) (K:=λx12 s=>eZ (.i .i64 (.ofNat i)) (.i .i64 (.ofNat 1)) λx13=>lp (λ(_ _ _:D)(_:LS)=>none) (lE φ) fu (.i .i64 (.ofNat J)) x12 x13 s) hA (by omega);obtain⟨z,e,h1,h2⟩:=ih (i+1) fu b1 X1 (l++[0]) (by omega) (by omega) g1 (by simp;omega);refine⟨z,e,by rw[h1];simp;omega,?_⟩;rw[eM]
  conv=>lhs;unfold lE
  exact th (fe (by omega)) (th eO (th (fF wz) (g3.trans (th (fH (by omega)) h2))))
theorem WX(hl:l.length=J)(hJ:J<1000000)(hφ:1000000000≤φ):∃(z:Row)(e:Bool),z.length=J-(fG l).length+1∧lK φ [.tree (rs l) J ex,.i .i64 (.ofNat J)]=some (.tree (rs z) z.length e):=by
 have ht:=PV (φ:=φ) (ex:=ex) hl (by omega) hφ;have hlen:=nV l;obtain⟨z,e,h1,h2⟩:=HA (φ:=φ) (J:=J) hJ (J-(fG l).length) (fG l).length φ [⟨rs (fG l),.rw⟩] (.tree [] 0 true) [] (by omega) (by omega) vD (a9 _);refine⟨z,e,by rw[h1];show 0+_+1=_;omega,?_⟩;unfold lK;dsimp only[eV,eY];rw[←fw];refine th (xR ht) ?_;rw[lU,jQ];exact th mX h2
theorem YF{x y:Row}(hb:bs[k]?=some ⟨rs x,.rw⟩)(hs:x.length+y.length<1000000):wi 3 40 (mem bs) (.sl k 0 x.length x.length 3 false) (.tree (rs y) y.length e) K=K (.sl bs.length 0 (x.length+y.length) (x.length+y.length) 3 false) (mem (bs.set k ⟨rs x,.frz⟩++[⟨rs (x++y),.apd⟩])):=by
 have hcell:∀F:List D→Nat→Rs,nL 3 (mem bs) (.tree (rs y) y.length e) F=F (rs y) y.length:=λF=>Bo (by rw[ji]);show nL 3 (mem bs) (.tree (rs y) y.length e) _=_;rw[hcell,gg hb];show cnd true (cnd (Nat.beq 3 3) (qS (rs y) (frc (Nat.add x.length y.length) λtot=>cnd (Nat.ble (Nat.mul tot 40) 1099511627776) (cnd (Nat.ble tot 1099511627776) (cnd (Nat.beq (Nat.add 0 (Nat.mul x.length 3)) (rs x).length) (jN 0 (rs x) λr=>iw (Nat.mul x.length 3) r λold=>ki old (rs y) λcs=>pL (mem bs) k ⟨rs x,.frz⟩ λs'=>lP s' ⟨cs,.apd⟩ λs'=>K (.sl (mem bs).nx 0 tot tot 3 false) s') none) none) none)) none) none=_;rw[eL,ei,eL,py (ut y),fB,show Nat.add x.length y.length=x.length+y.length from rfl,aH (show Nat.mul (x.length+y.length) 40≤_ by show(x.length+y.length)*40≤_;omega),aH (show x.length+y.length≤_ by omega),eL,eL,
  show Nat.add 0 (Nat.mul x.length 3)=(rs x).length by rw[ji];show 0+x.length*3=_;omega,ei,eL,gE,am,gu,show Nat.mul x.length 3=x.length*3 from rfl,aC (by rw[ji];exact aE _),oe rfl,gL,oj (ef hb),kB,jQ,←JH]
theorem TY{x:Row}(hb:bs[k]?=some ⟨rs x,.apd⟩)(hn:x.length=n):∃e,eW true (mem bs) (.sl k 0 n n 3 false) some=some (.tree (rs x) n e):=by
 refine⟨false&&n==n,?_⟩;unfold eW;rw[kx];show uO (mT true (mem bs).get fj (.sl k 0 n n 3 false)) some=_;have h1:res (mem bs).get 60 (.sl k 0 n n 3 false)=some (.tree (rs x) n (false&&n==n),[k]):=tI (n:=59) (r:=rs x) (ls:=[]) (by rw[kj];exact hb) rfl (by
  show cut 0 (n*3) (rs x)=_;unfold cut;rw[am,oe hn,aC (by rw[ji,hn])]) (jV (k:=58) _ (oY x))
 have:mT true (mem bs).get fj (.sl k 0 n n 3 false)=some (.tree (rs x) n (false&&n==n)):=by
  have e1:pu true (mem bs).get 60 (.sl k 0 n n 3 false)=wy (res (mem bs).get 60 (.sl k 0 n n 3 false)):=by
   show(match (mem bs).get k with
    |some b=>if b.st.wr then match cut 0 (n*3) b.cs with
     |some r=>match gr (res (mem bs).get 60) r with
      |some (cs,ls)=>some (D.own cs n 3,[k],ls)
      |none=>none
     |none=>none
     else wy (res (mem bs).get 60 (.sl k 0 n n 3 false))
    |none=>none)=_
   rw[kj,hb];rfl
  show(match pu true (mem bs).get 60 (.sl k 0 n n 3 false)with
   |some (d,o,ls)=>if o.all λl=> !ls.contains l then some d else none
   |none=>none)=_
  rw[e1,h1];rfl
 rw[this,gV];rfl
end
section
variable {bs bs':List Blk} {i j k n m c d D' N' M' N h H col kr J:Nat} {ex ey e eg ea eb:Bool} {s:LS} {K:D→LS→Rs} {kk:IntKind} {φ:Nat} {X Y Z W W' X' x0 T L:D} {P Q:List (Row×Bool)} {rows:List Row} {l r pv t g a b:Row} {q:Rat} {cs cs':List D} {V:List Nat} {R:List IR}
theorem Ra(h:EL g a d D' N' M')(hJ:FD g a J):0<J:=by
 rcases bQ J with h0|h0
 ·subst h0;have h1:=WP hJ.1 0;rw[Fj h,mW,aC (by have:=h.hd;omega)]at h1;have h2:(1:Rat)=0:=h1;exact absurd h2 (by decide)
 ·exact h0
theorem ZK(hh:h≤H):hg2 h k≤hg2 H k:=by
 induction k with
 |zero=>exact hh
 |succ k ih=>
  show 2*hg2 h k+2≤2*hg2 H k+2;omega
theorem X5(hi:i≤5):hg2 (2*(5000+2)*(i+1)) (i+1)≤KB:=by
 refine bP (bP (ZK (H:=2*(5000+2)*6) (aT _ (by omega))) (IL (k:=6) (by omega))) ?_;decide
theorem Fe(h:EL g a d D' N' M')(hi:0<i)(hi5:i≤5)(hP:P.map Prod.fst=trn d ((List.range i).map (iY g a)))(ht:t.length=d)(hth:RH 5000 t)(hφ:1000000000≤φ):
 (Sp ((List.range i).map (iY g a)) (ent t)→AQ (wl d ((List.range i).map (iY g a)) t)∧fV φ [.tree (P.map mtD) d ex,.tree (rs t) d ey]=some (.tup [.own (rs (wl d ((List.range i).map (iY g a)) t)) i 3,.b true]))∧
 (¬Sp ((List.range i).map (iY g a)) (ent t)→fV φ [.tree (P.map mtD) d ex,.tree (rs t) d ey]=some (.tup [.tree [] 0 true,.b false])):=by
 have hd:=h.hd;have hd5:=h.hd5;generalize hrw:(List.range i).map (iY g a)=rows at*;have hrl:rows.length=i:=by rw[←hrw];simp
 have hr:∀r,r∈rows→r.length=d∧RH 5000 r:=λr hr=>by
  rw[←hrw]at hr;obtain⟨j,hj,rfl⟩:=av.1 hr;have:=di.1 hj;exact⟨sQ h j,EL.rh h (by omega)⟩
 have hPl:P.length=d:=by have:=congrArg List.length hP;simpa[trn]using this
 have hPr:∀p,p∈P→p.1.length=i:=λp hp=>by
  rw[←hrl];exact BY (n:=d) _ (by rw[←hP];exact bM hp)
 have hW:=Sr (n:=d) (λr h'=>(hr r h').2) hth;rw[hrl]at hW;have hK:=X5 hi5;have hiff:=EP (λr h'=>(hr r h').1) ht;obtain⟨s1,s2⟩:=We (φ:=φ) (P:=P) (k:=i) (d:=d) (t:=t) (ex:=ex) (ey:=ey) hPr hPl (by omega) hi (by omega) (by omega) ht (by rw[hP];exact hW) hK hφ;rw[hP]at s1 s2;have hE:Mw d rows t=vZ (i+1) (mE (trn d rows) t):=by unfold Mw;rw[hrl]
 have hL:wl d rows t=(List.range i).map (wJ (vZ (i+1) (mE (trn d rows) t)) i):=by unfold wl;rw[hE,hrl]
 rw[hE,hrl]at hiff;constructor
 ·intro hs;refine⟨λx=>?_,by rw[hL];exact s1 (hiff.2 hs)⟩;have hne:mE (trn d rows) t≠[]:=by
   intro e;have:=congrArg List.length e;unfold mE at this;rw[cW,show(trn d rows).length=d by simp[trn],ht,Nat.min_self]at this;have h9:d=0:=this;omega
  have hrh:=T1 (N:=i+1) (by omega) (λr hr'=>⟨uk (λr h'=>(BY r h').trans hrl) r hr',hW r hr'⟩) hne (by unfold mE;rw[cW];simp[trn];omega) hK;have hz:∀c,Qz KB (wJ (vZ (i+1) (mE (trn d rows) t)) i c):=λc=>by
   unfold wJ;cases hf:(vZ (i+1) (mE (trn d rows) t)).find? (λe=>e.2==c)with
   |none=>exact zS KB
   |some e=>exact vN (JK (hrh e (z26 hf)) i) hK
  rw[hL];unfold ent;rw[aD,ae];cases(List.range i)[x]?with
  |none=>exact zS KB
  |some c=>exact hz c
 ·intro hs;refine s2 ?_;apply Classical.byContradiction;intro hno;exact hs (hiff.1 λe he hei=>hno ⟨e,he,hei⟩)
theorem CG:(wl d rows t).length=rows.length:=by simp[wl]
theorem UD(h:EL g a d D' N' M')(hφ:1000000000≤φ)(hJ:FD g a J)(hJd:J≤d):∀(u j fu:Nat)(bs:List Blk)(X:D)(P:List (Row×Bool))(e1:Bool),j+u=J→u<fu→KL bs X (P.map mtD) P.length→P.map Prod.fst=(List.range j).map (iY g a)→bs[0]?=some ⟨[.tree (rs g) g.length eg],.rw⟩→
 ∃cs e,lp (λ(_ _ _ _ _:D)(_:LS)=>none) (iF φ) fu (.tree (rs a) a.length ea) (.ptr 0 0) X (.tree (rs (pwL g a j)) (pwL g a j).length e1) (.i .i64 (.ofNat j)) (mem bs)=some (.tree cs (J+1) e):=by
 have hd5:=h.hd5;have hd1:=h.hd;have hJ0:=Ra h hJ;have hdeg:fa φ [fld g eg]=some (.i .i64 (.ofNat d)):=by have:=Wi (φ:=φ) (ey:=eg) (EL.kf h);rwa[a8]at this
 have hPn:∀(j:Nat)(P:List (Row×Bool)),P.map Prod.fst=(List.range j).map (iY g a)→P.length=j∧∀p,p∈P→p.1.length=d:=by
  intro j P hP;have hl:=congrArg List.length hP;simp at hl;refine⟨hl,λp hp=>?_⟩;have hm:p.1∈(List.range j).map (iY g a):=by rw[←hP];exact bM hp
  obtain⟨i,hi,e⟩:=av.1 hm;rw[←e];exact sQ h i
 intro u
 induction u with
 |zero=>
  intro j fu bs X P e1 hj hf hK hP h0;obtain⟨fu,rfl⟩:∃q,fu=q+1:=⟨fu-1,by omega⟩
  have:j=J:=by omega
  subst this;obtain⟨hPl,hPd⟩:=hPn j P hP;obtain⟨e2,b1,k1,k2,k3⟩:=Lr (M:=gZ φ) hK;obtain⟨P',e3,t1,t2⟩:=yX (φ:=φ) (ex:=e2) hPd rfl (by omega) (by omega) (by omega) hφ;rw[hP]at t1;have hk3:=k3 _ t2 rfl rfl;obtain⟨e4,r1⟩:=PZ (φ:=φ) (j:=j) (ey:=eg) (e1:=e1) h hφ;have hb1:=k2 0 _ rfl h0;obtain⟨s1,_⟩:=Fe (φ:=φ) (P:=P') (ex:=e3) (ey:=e4) h hJ0 (by omega) t1 (sQ h j) (EL.rh h (by omega)) hφ;obtain⟨aq,s1⟩:=s1 hJ.1;generalize hsol:wl d ((List.range j).map (iY g a)) (iY g a j)=sol at*;have hsl:sol.length=j:=by rw[←hsol,CG];simp
  have hv0:RVal (b1++[(⟨rs sol,.rw⟩:Blk)]) (.sl b1.length 0 j j 3 false) sol:=by
   have:=ww (bs:=b1++[(⟨rs sol,.rw⟩:Blk)]) (j:=b1.length) (l:=sol) (by simp);rwa[hsl]at this
  obtain⟨b2,k37,_,f2,f3,f4⟩:=Kg (φ:=φ) hv0 (by omega) hφ;have hv1:=f2 _ _ hv0;obtain⟨e5,w1⟩:=ND (M:=jv φ) (T:=rc (-1)) (ww f3) WT;obtain⟨b3,_,g2,g3,g4⟩:=w1 _ _ _ (PY (φ:=φ) (ex:=e5) rfl (Md aq) Vi (by have:=nV sol;omega) hφ);have hv2:=g2 _ _ hv1;obtain⟨e6,w2⟩:=EV (M:=lK φ) (T:=.i .i64 (.ofNat j)) hv2 YZ;obtain⟨z,e7,z1,z2⟩:=WX (φ:=φ) (l:=sol) (J:=j) (ex:=e6) hsl (by omega) hφ;rw[hsl]at w2;obtain⟨b4,m1,_,m3⟩:=w2 _ z2 rfl;have hne:b1.length≠b2.length:=by
   have:b1.length<b2.length:=by
    cases hv1 with
    |sl hb _ _=>exact ef hb
   omega
  have hb4:=m1 _ _ (λo n m z e he=>by injection he with h1;exact hne h1) g3;have hscl:=Oo (l:=sol|>fG) (c:= -1) (qK sol) (by decide);generalize hsc:fG (lst (fG sol).length λi=>ent (fG sol) i*(-1))=sc at*;have hap:=YF (e:=e7) (K:=λx41 s=>eW true s x41 some) (y:=z) hb4 (by have:=nV sol;omega);have hlast:(b4.set b2.length ⟨rs sc,.frz⟩++[(⟨rs (sc++z),.apd⟩:Blk)])[b4.length]?=some ⟨rs (sc++z),.apd⟩:=by
   rw[bJ (by rw[bB];exact aE _),bB,bt];rfl
  obtain⟨e8,hr⟩:=TY (n:=sc.length+z.length) hlast (ay);have hlen:sc.length+z.length=j+1:=by have:=nV sol;omega
  refine⟨rs (sc++z),e8,?_⟩;rw[←hlen,eM];unfold iF;unfold mtD at r1;rw[sQ h]at r1;refine th (qz h0) (th (fF hdeg) (th (Lj hJd) (th eO (th om (th (nU hJ0) (th eO ((hk3 _).trans (th (qz hb1) (th (fF r1) ?_)))))))));have hiso:∀F:D→LS→Rs,eS (fV φ) [.tree (P'.map mtD) d e3,.tree (rs (iY g a j)) d e4] (mem b1) F=F (.tup [.sl b1.length 0 j j 3 false,.b true]) (mem (b1++[⟨rs sol,.rw⟩])):=λF=>by
   have hx:eS (fV φ) [.tree (P'.map mtD) d e3,.tree (rs (iY g a j)) d e4] (mem b1) F=ob (fV φ [.tree (P'.map mtD) d e3,.tree (rs (iY g a j)) d e4]) (λr=>iz (mem b1) [] r F):=rfl;rw[hx,s1,gN];exact Cj
  refine(hiso _).trans (th iO (th iN (th eO ((f4 _).trans (th (fF Pe) ((g4 _).trans ((m3 _).trans (hap.trans hr))))))))
 |succ u ih=>
  intro j fu bs X P e1 hj hf hK hP h0;obtain⟨fu,rfl⟩:∃q,fu=q+1:=⟨fu-1,by omega⟩
  obtain⟨hPl,hPd⟩:=hPn j P hP;obtain⟨e4,r1⟩:=PZ (φ:=φ) (j:=j) (ey:=eg) (e1:=e1) h hφ;obtain⟨e5,n1⟩:=Vg (φ:=φ) (j:=j) (ey:=eg) (e1:=e1) (e2:=ea) h (by omega) hφ;have step:∀b1,KL b1 X (P.map mtD) P.length→b1[0]?=some ⟨[.tree (rs g) g.length eg],.rw⟩→∃cs e,(eT 1 (mem b1) (.ptr 0 0) λx23 s=>eS (i7 φ) [x23,.tree (rs (pwL g a j)) (pwL g a j).length e1] s λx24 s=>ie 1 [(.tree [] 0 true)] [(0,1,x24)] s λx25 s=>wi 1 24 s X x25 λx26 s=>eT 1 s (.ptr 0 0) λx27 s=>eS (i8 φ) [x27,.tree (rs (pwL g a j)) (pwL g a j).length e1,.tree (rs a) a.length ea] s λx28 s=>eZ (.i .i64 (.ofNat j)) (.i .i64 (.ofNat 1)) λx29=>lp (λ(_ _ _ _ _:D)(_:LS)=>none) (iF φ) fu (.tree (rs a) a.length ea) (.ptr 0 0) x26 x28 x29 s)=some (.tree cs (J+1) e):=by
   intro b1 hK1 h1;obtain⟨b2,X2,a1,a2,a3⟩:=akT (K:=λx26 s=>eT 1 s (.ptr 0 0) λx27 s=>eS (i8 φ) [x27,.tree (rs (pwL g a j)) (pwL g a j).length e1,.tree (rs a) a.length ea] s λx28 s=>eZ (.i .i64 (.ofNat j)) (.i .i64 (.ofNat 1)) λx29=>lp (λ(_ _ _ _ _:D)(_:LS)=>none) (iF φ) fu (.tree (rs a) a.length ea) (.ptr 0 0) x26 x28 x29 s) hK1 (by omega) (iY g a j,e4);have h2:=a2 0 _ rfl h1;obtain⟨cs,e,hih⟩:=ih (j+1) fu b2 X2 (P++[(iY g a j,e4)]) e5 (by omega) (by omega) a1 (by rw[aW,hP,cw,aW];rfl) h2;exact⟨cs,e,th (qz h1) (th (fF r1) (a3.trans (th (qz h2) (th (fF n1) (th (fH (by omega)) hih)))))⟩
  by_cases hj0:j=0
  ·obtain⟨cs,e,hs⟩:=step bs hK h0;refine⟨cs,e,?_⟩;rw[eM]
   conv=>lhs;unfold iF
   exact th (qz h0) (th (fF hdeg) (th (Lj (by omega)) (th eO (th om (th (pX (by omega)) (th eP hs))))))
  ·obtain⟨e2,b1,k1,k2,k3⟩:=Lr (M:=gZ φ) hK;obtain⟨P',e3,t1,t2⟩:=yX (φ:=φ) (ex:=e2) hPd rfl (by omega) (by omega) (by omega) hφ;rw[hP]at t1;have hk3:=k3 _ t2 rfl rfl;have hb1:=k2 0 _ rfl h0;obtain⟨_,s2⟩:=Fe (φ:=φ) (P:=P') (ex:=e3) (ey:=e4) h (show 0<j by omega) (by omega) t1 (sQ h j) (EL.rh h (by omega)) hφ;have s2:=s2 (hJ.2 j (by omega));obtain⟨cs,e,hs⟩:=step b1 k1 hb1;refine⟨cs,e,?_⟩;rw[eM]
   conv=>lhs;unfold iF
   have r2:=r1;unfold mtD at r2;rw[sQ h]at r2;exact th (qz h0) (th (fF hdeg) (th (Lj (by omega)) (th eO (th om (th (nU (by omega)) (th eO ((hk3 _).trans (th (qz hb1) (th (fF r2) (th (fF s2) (th iO (th iN (th eP hs)))))))))))))
theorem Pc(h:EL g a d D' N' M')(hφ:1000000000≤φ)(hJ:FD g a J)(hJd:J≤d):∃cs e,l7 φ [fld g eg,.tree (rs a) a.length ea]=some (.tree cs (J+1) e):=by
 have hd5:=h.hd5;obtain⟨e0,b0,hk,h0⟩:=Ya (φ:=φ) (ey:=eg) (bs:=[⟨[.tree (rs g) g.length eg],.rw⟩]) h hφ;obtain⟨cs,e,h1⟩:=UD (φ:=φ) (eg:=eg) (ea:=ea) h hφ hJ hJd J 0 φ b0 (.tree [] 0 true) [] e0 (by omega) (by omega) KL.nil rfl (hk 0 _ rfl);refine⟨cs,e,?_⟩;unfold l7;dsimp only[eV,eY];rw[←fw];exact th (jf rfl) (th (qz rfl) ((h0 _).trans h1))
theorem TU(h:EL g a d D' N' M')(hφ:1000000000≤φ)(hJ0:0<J)(hJd:J≤d)(hbr:RH 5000 (lst d (ent b))):∀(u j fu:Nat)(bs:List Blk)(X:D)(P:List (Row×Bool))(e1:Bool),j+u=J→u<fu→AS 1 bs X (P.map mtD) P.length→P.map Prod.fst=(List.range j).map (iY g a)→bs[0]?=some ⟨[.tree (rs g) g.length eg],.rw⟩→jg X 0→
 (Sp ((List.range J).map (iY g a)) (ent (lst d (ent b)))→∃e,lp (λ(_ _ _ _ _ _ _:D)(_:LS)=>none) (gH φ) fu (.tree (rs a) a.length ea) (.tree (rs b) b.length eb) (.ptr 0 0) (.i .i64 (.ofNat J)) X (.tree (rs (pwL g a j)) (pwL g a j).length e1) (.i .i64 (.ofNat j)) (mem bs)=some (.tup [.tree (rs (fG (wl d ((List.range J).map (iY g a)) (lst d (ent b))))) (fG (wl d ((List.range J).map (iY g a)) (lst d (ent b)))).length e,.b true]))∧
 (¬Sp ((List.range J).map (iY g a)) (ent (lst d (ent b)))→lp (λ(_ _ _ _ _ _ _:D)(_:LS)=>none) (gH φ) fu (.tree (rs a) a.length ea) (.tree (rs b) b.length eb) (.ptr 0 0) (.i .i64 (.ofNat J)) X (.tree (rs (pwL g a j)) (pwL g a j).length e1) (.i .i64 (.ofNat j)) (mem bs)=some (.tup [.tree [] 0 true,.b false])):=by
 have hd5:=h.hd5;have hd1:=h.hd;intro u
 induction u with
 |zero=>
  intro j fu bs X P e1 hj hf hA hP h0 hX;obtain⟨fu,rfl⟩:∃q,fu=q+1:=⟨fu-1,by omega⟩
  have:j=J:=by omega
  subst this;have hPl:P.length=j:=by have:=congrArg List.length hP;simpa using this
  have hPd:∀p,p∈P→p.1.length=d:=λp hp=>by
   have hm:p.1∈(List.range j).map (iY g a):=by rw[←hP];exact bM hp
   obtain⟨i,hi,e⟩:=av.1 hm;rw[←e];exact sQ h i
  obtain⟨e2,w1⟩:=VS (M:=gZ φ) hA;obtain⟨P',e3,t1,t2⟩:=yX (φ:=φ) (ex:=e2) hPd rfl (by omega) (by omega) (by omega) hφ;rw[hP]at t1;obtain⟨b1,k2,k3⟩:=w1 _ t2 rfl;have hb1:=k2 0 _ hX h0;obtain⟨e4,r1⟩:=Y9 (φ:=φ) (ex:=eb) (ey:=eg) (l:=b) (EL.kf h) rfl hφ;rw[a8]at r1;obtain⟨s1,s2⟩:=Fe (φ:=φ) (P:=P') (ex:=e3) (ey:=e4) h hJ0 (by omega) t1 (gp (n:=d) (v:=ent b)) hbr hφ;have pre:∀R,(eS (fV φ) [.tree (P'.map mtD) d e3,.tree (rs (lst d (ent b))) d e4] (mem b1) λx32 s=>fh x32 0 s λx33 s=>fh x32 1 s λx34 s=>qP x34 s λx35 s=>eQ x35 (eW false s (.tup [(.tree [] 0 true),(.b false)]) some) (eS (fU φ) [x33] s λx36 s=>eW false s (.tup [x36,(.b true)]) some))=R→lp (λ(_ _ _ _ _ _ _:D)(_:LS)=>none) (gH φ) (fu+1) (.tree (rs a) a.length ea) (.tree (rs b) b.length eb) (.ptr 0 0) (.i .i64 (.ofNat j)) X (.tree (rs (pwL g a j)) (pwL g a j).length e1) (.i .i64 (.ofNat j)) (mem bs)=R:=by
   intro R hR;rw[eM];unfold gH;exact th (gA (bC _)) (th eP ((k3 _).trans (th (qz hb1) (th (fF r1) hR))))
  constructor
  ·intro hs;obtain⟨aq,s1⟩:=s1 hs;generalize hsol:wl d ((List.range j).map (iY g a)) (lst d (ent b))=sol at*;have hsl:sol.length=j:=by rw[←hsol,CG];simp
   have hv0:RVal (b1++[(⟨rs sol,.rw⟩:Blk)]) (.sl b1.length 0 j j 3 false) sol:=by
    have:=ww (bs:=b1++[(⟨rs sol,.rw⟩:Blk)]) (j:=b1.length) (l:=sol) (by simp);rwa[hsl]at this
   obtain⟨b2,k37,_,f2,f3,f4⟩:=Kg (φ:=φ) hv0 (by omega) hφ;obtain⟨e5,ls,hr5⟩:=Y2 (ww f3);refine⟨e5,pre _ ?_⟩;have hiso:∀F:D→LS→Rs,eS (fV φ) [.tree (P'.map mtD) d e3,.tree (rs (lst d (ent b))) d e4] (mem b1) F=F (.tup [.sl b1.length 0 j j 3 false,.b true]) (mem (b1++[⟨rs sol,.rw⟩])):=λF=>by
    have hx:eS (fV φ) [.tree (P'.map mtD) d e3,.tree (rs (lst d (ent b))) d e4] (mem b1) F=ob (fV φ [.tree (P'.map mtD) d e3,.tree (rs (lst d (ent b))) d e4]) (λr=>iz (mem b1) [] r F):=rfl;rw[hx,s1,gN];exact Cj
   refine(hiso _).trans (th iO (th iN (th tL (th eP ((f4 _).trans ?_)))));exact EZ (l2:=[]) hr5 rfl (Ve (ww f3) [] [_])
  ·intro hs;refine pre _ (th (fF (s2 hs)) (th iO (th iN (th tL (th eO ?_)))));rfl
 |succ u ih=>
  intro j fu bs X P e1 hj hf hA hP h0 hX;obtain⟨fu,rfl⟩:∃q,fu=q+1:=⟨fu-1,by omega⟩
  have hPl:P.length=j:=by have:=congrArg List.length hP;simpa using this
  obtain⟨e4,r1⟩:=PZ (φ:=φ) (j:=j) (ey:=eg) (e1:=e1) h hφ;obtain⟨e5,n1⟩:=Vg (φ:=φ) (j:=j) (ey:=eg) (e1:=e1) (e2:=ea) h (by omega) hφ;obtain⟨b2,X2,a1,a2,a3⟩:=apC (bytes:=24) (zero:=[.tree [] 0 true]) (x:=mtD (iY g a j,e4)) (K:=λx25 s=>eT 1 s (.ptr 0 0) λx26 s=>eS (i8 φ) [x26,.tree (rs (pwL g a j)) (pwL g a j).length e1,.tree (rs a) a.length ea] s λx27 s=>eZ (.i .i64 (.ofNat j)) (.i .i64 (.ofNat 1)) λx28=>lp (λ(_ _ _ _ _ _ _:D)(_:LS)=>none) (gH φ) fu (.tree (rs a) a.length ea) (.tree (rs b) b.length eb) (.ptr 0 0) (.i .i64 (.ofNat J)) x25 x27 x28 s) hA (by omega) rfl rfl (by omega) rfl;obtain⟨h2,hX2⟩:=a2 0 _ hX h0;have hih:=ih (j+1) fu b2 X2 (P++[(iY g a j,e4)]) e5 (by omega) (by omega) (by rw[aW,ay];exact a1) (by rw[aW,hP,cw,aW];rfl) h2 hX2;have pre:∀R,lp (λ(_ _ _ _ _ _ _:D)(_:LS)=>none) (gH φ) fu (.tree (rs a) a.length ea) (.tree (rs b) b.length eb) (.ptr 0 0) (.i .i64 (.ofNat J)) X2 (.tree (rs (pwL g a (j+1))) (pwL g a (j+1)).length e5) (.i .i64 (.ofNat (j+1))) (mem b2)=R→lp (λ(_ _ _ _ _ _ _:D)(_:LS)=>none) (gH φ) (fu+1) (.tree (rs a) a.length ea) (.tree (rs b) b.length eb) (.ptr 0 0) (.i .i64 (.ofNat J)) X (.tree (rs (pwL g a j)) (pwL g a j).length e1) (.i .i64 (.ofNat j)) (mem bs)=R:=by
   intro R hR;rw[eM]
   conv=>lhs;unfold gH
   exact th (fe (by omega)) (th eO (th (qz h0) (th (fF r1) (a3.trans (th (qz h2) (th (fF n1) (th (fH (by omega)) hR)))))))
  refine⟨λhs=>?_,λhs=>pre _ (hih.2 hs)⟩;obtain⟨e,he⟩:=hih.1 hs;exact⟨e,pre _ he⟩
theorem Pg(h:EL g a d D' N' M')(hφ:1000000000≤φ)(hJ:FD g a J)(hJd:J≤d)(hbr:RH 5000 (lst d (ent b))):
 (Sp ((List.range J).map (iY g a)) (ent (lst d (ent b)))→∃e,ga φ [fld g eg,.tree (rs a) a.length ea,.tree (rs b) b.length eb]=some (.tup [.tree (rs (fG (wl d ((List.range J).map (iY g a)) (lst d (ent b))))) (fG (wl d ((List.range J).map (iY g a)) (lst d (ent b)))).length e,.b true]))∧
 (¬Sp ((List.range J).map (iY g a)) (ent (lst d (ent b)))→ga φ [fld g eg,.tree (rs a) a.length ea,.tree (rs b) b.length eb]=some (.tup [.tree [] 0 true,.b false])):=by
 have hd5:=h.hd5;obtain⟨cs,e1,m1⟩:=Pc (φ:=φ) (eg:=eg) (ea:=ea) h hφ hJ hJd;obtain⟨e0,b0,hk,h0⟩:=Ya (φ:=φ) (ey:=eg) (bs:=[⟨[.tree (rs g) g.length eg],.rw⟩]) h hφ;have key:=TU (φ:=φ) (eg:=eg) (ea:=ea) (eb:=eb) h hφ (Ra h hJ) hJd hbr J 0 φ b0 (.tree [] 0 true) [] e0 (by omega) (by omega) AS.nil rfl (hk 0 _ rfl) (λo n m z e h=>by cases h);have pre:∀R,lp (λ(_ _ _ _ _ _ _:D)(_:LS)=>none) (gH φ) φ (.tree (rs a) a.length ea) (.tree (rs b) b.length eb) (.ptr 0 0) (.i .i64 (.ofNat J)) (.tree [] 0 true) (.tree (rs (pwL g a 0)) (pwL g a 0).length e0) (.i .i64 (.ofNat 0)) (mem b0)=R→ga φ [fld g eg,.tree (rs a) a.length ea,.tree (rs b) b.length eb]=R:=by
  intro R hR;unfold ga;dsimp only[eV,eY];rw[←fw];refine th (jf rfl) (th (qz rfl) (th (fF m1) (th fO (th (gW (by omega) (by omega)) ?_))));rw[a8];exact th (qz rfl) ((h0 _).trans hR)
 refine⟨λhs=>?_,λhs=>pre _ (key.2 hs)⟩;obtain⟨e,he⟩:=key.1 hs;exact⟨e,pre _ he⟩
end
inductive St
 |ok (m:Nat)
 |bad (l:List UInt8)
def St.d:St→D
 |.ok m=>.n m
 |.bad l=>.s (0::l)
def tM(m:Nat):Nat:=(ep m).length
def St.len:St→Nat
 |.ok m=>tM m
 |.bad l=>l.length+1
def St.fine:St→Bool
 |.ok _=>true
 |.bad _=>false
def St.isN(n:Nat):St→Bool
 |.ok m=>Nat.beq m n
 |.bad _=>false
section
variable {bs:List Blk} {s:LS} {K:D→LS→Rs} {k:D→Rs} {S T:St} {m n a b:Nat} {x y:Bool} {φ:Nat} {l:List D} {t:Rs} {p q:Rat}
theorem Cb(h:0<m):tM m=Nat.log2 m/8+1:=wN h
theorem uY{c:Nat}(h:tM m≤c):Lg (8*c) m:=by
 rcases bQ m with h0|h0
 ·subst h0;exact a9 _
 ·rw[Cb h0]at h;show Nat.log2 m≤_;omega
theorem Li{c:Nat}(h:Lg (8*c+7) m):tM m≤c+1:=by
 rcases bQ m with h0|h0
 ·subst h0;exact a9 _
 ·rw[Cb h0];have:Nat.log2 m≤8*c+7:=h;omega
theorem SL:jM (.agg [.b x,S.d]) (mem bs) K=K (.ptr bs.length 0) (mem (bs++[⟨[.b x,S.d],.rw⟩])):=jf (by cases S<;>rfl)
theorem vv:jM (.agg [.b x,S.d,T.d]) (mem bs) K=K (.ptr bs.length 0) (mem (bs++[⟨[.b x,S.d,T.d],.rw⟩])):=jf (by cases S<;>cases T<;>rfl)
theorem Jk:kS (.lens (.c S.d)) s K=K (.i .i64 (.ofNat S.len)) s:=by cases S<;>exact BB rfl
theorem px(b:Bool):b=false∨b=true:=by cases b<;>simp
theorem Vp{o:BinOp}{d1 d2 r:D}(h:bin o d1 d2=some r):fc o d1 d2 k=k r:=by
 unfold fc;rw[gV,h];rfl
theorem SX(l:List UInt8)(n:Nat):((0::l:List UInt8)==ep n)=false:=by
 rw[beq_eq_false_iff_ne];intro h;rcases bQ n with h0|h0
 ·subst h0;cases h
 ·obtain⟨c,r,h1,h2⟩:=t7 h0;rw[←h]at h1;injection h1 with h3;subst h3;exact h2 rfl
theorem FC:iB S.d (.n n) k=k (.b (S.isN n)):=by
 cases S with
 |ok m=>exact sj
 |bad l=>
  show fc .eql (.s (0::l)) (.n n) k=_;refine Vp ?_;show some (D.b ((0::l:List UInt8)==ep n))=_;rw[SX];rfl
theorem Yt:nC S.d (.n n) k=k (.b (!S.isN n)):=by
 cases S with
 |ok m=>exact H3
 |bad l=>
  show fc .neq (.s (0::l)) (.n n) k=_;refine Vp ?_;show some (D.b (!((0::l:List UInt8)==ep n)))=_;rw[SX];rfl
theorem RT(h:0<m):∃c,c≠0∧∀(s:LS)(K:D→LS→Rs),kS (.index (.c (.n m)) (.c (.i .i64 (.ofNat 0)))) s K=K (.i .u8 (.ofNat c)) s:=by
 obtain⟨c,r,h1,h2⟩:=t7 h;exact⟨c.toNat,h2,λs K=>DE (by rw[h1];rfl)⟩
theorem MC{l:List UInt8}:kS (.index (.c (.s (0::l))) (.c (.i .i64 (.ofNat 0)))) s K=K (.i .u8 (.ofNat 0)) s:=BB rfl
theorem En{M:List D→Option D}{r:D}(h:M [S.d]=some r)(hp:pt r=true):∀s K,eS M [S.d] s K=K r s:=by
 cases S<;>exact λs K=>fF h (by intro kk;rfl) hp
theorem Js{M:List D→Option D}{r:D}(h:M [.agg [.b x,S.d]]=some r)(hp:pt r=true):∀s K,eS M [.agg [.b x,S.d]] s K=K r s:=by
 cases S<;>exact λs K=>fF h (by intro kk;rfl) hp
theorem RG{M:List D→Option D}{r:D}(h:M [.agg [.b x,S.d,T.d]]=some r)(hp:pt r=true):∀s K,eS M [.agg [.b x,S.d,T.d]] s K=K r s:=by
 cases S<;>cases T<;>exact λs K=>fF h (by intro kk;rfl) hp
def vt(S:St):Nat:=if S.fine then(if 1024<S.len then 4 else 0)else 1
theorem MZ(h:vt S=0):∃m,S=.ok m∧tM m≤1024:=by
 cases S with
 |ok m=>
  refine⟨m,rfl,?_⟩;by_cases h1:1024<tM m
  ·have:vt (.ok m)=4:=by unfold vt;rw[aC (show(St.ok m).fine=true from rfl),aC (show 1024<(St.ok m).len from h1)]
   omega
  ·omega
 |bad l=>cases h
theorem DY(S:St):vt S=0∨vt S=1∨vt S=4:=by
 unfold vt;split
 ·split
  ·exact Or.inr (Or.inr rfl)
  ·exact Or.inl rfl
 ·exact Or.inr (Or.inl rfl)
theorem E4:mi φ [S.d]=some (.i .i64 (.ofNat (vt S))):=by
 unfold mi;dsimp only[eV,eY];refine th Jk ?_;have fin:∀m,(kS (.lens (.c (St.ok m).d)) s0 λx8 s=>kv x8 (.i .i64 (.ofNat 1024)) λx9=>eQ x9 (eW false s (.i .i64 (.ofNat 4)) some) (eW false s (.i .i64 (.ofNat 0)) some))=some (.i .i64 (.ofNat (vt (.ok m)))):=by
  intro m;refine th Jk ?_;unfold vt;rw[aC (show(St.ok m).fine=true from rfl)];by_cases h:1024<(St.ok m).len
  ·rw[aC h];exact th (nU h) (th eO jU)
  ·rw[aF h];exact th (pX h) (th eP jU)
 cases S with
 |ok m=>
  rcases bQ m with h0|h0
  ·subst h0;exact th (pX (bC _)) (th fX (th fX (th fX (th gD (th eP (fin 0))))))
  ·obtain⟨c,hc,hi⟩:=RT h0;refine th (nU (by show 0<tM m;rw[Cb h0];omega)) (th eo (th eo ((hi _ _).trans (th eo (th (sD hc) (th fQ (th eP (fin m))))))))
 |bad l=>
  exact th (nU (by show 0<l.length+1;omega)) (th eo (th eo (th MC (th eo (th (oo rfl) (th fQ (th eO jU)))))))
theorem HK:lL φ [S.d]=some (.b S.fine):=by
 unfold lL;dsimp only[eV,eY];refine th FC ?_;cases S with
 |ok m=>
  rcases bQ m with h0|h0
  ·subst h0;exact th iC (th iC (th iC (th fQ sO)))
  ·obtain⟨c,hc,hi⟩:=RT h0;have hz:(St.ok m).isN 0=false:=gR (by omega);rw[hz];exact th fg (th fg ((hi _ _).trans (th fg (th (rv hc) (th gD sO)))))
 |bad l=>exact th fg (th fg (th MC (th fg (th (pH rfl) (th gD sO)))))
def Ak(S:St):Nat:=if 1024<S.len then 4 else 0
theorem LD:mD φ [S.d]=some (.i .i64 (.ofNat (Ak S))):=by
 unfold mD;dsimp only[eV,eY];refine th Jk ?_;unfold Ak;by_cases h:1024<S.len
 ·rw[aC h];exact th (nU h) (th eO jU)
 ·rw[aF h];exact th (pX h) (th eP jU)
theorem eqI{a b:Nat}{kk:IntKind}:iB (.i kk (.ofNat a)) (.i kk (.ofNat b)) k=k (.b (Nat.beq a b)):=rA
theorem neI{a b:Nat}{kk:IntKind}:nC (.i kk (.ofNat a)) (.i kk (.ofNat b)) k=k (.b (!(Nat.beq a b))):=Ad
theorem Yd:pE φ []=some (.agg [.b false,.n 0]):=by
 unfold pE;simp -implicitDefEqProofs only[eY,fy,rQ,ln,rL,List.length_nil,List.length_cons,List.nil_append,List.getElem?_cons_zero,gN,gf,mz,eL,Nat.zero_add,Nat.reduceAdd,List.set_cons_zero,rK,Cv,rS,rR,rU,ei,lk,li,re2,List.drop_zero,show ∀(s:LS)(K:D→LS→Rs),kw [.b false,.n 0] [] s K=K (.agg [.b false,.n 0]) s from λs K=>rfl]
theorem ZN:BO true [1,2] (.agg [.b x,.n a]) (.agg [.b y,.n b]) s K=K (.b (!((x==y)&&Nat.beq a b))) s:=by
 unfold BO;rw[gV];cases hx:x<;>cases hy:y<;>cases hb:Nat.beq a b<;>(show ob (OE true [1,2] _ _) _=_;simp[OE,eqL,eq1,hb];rfl)
def BT(x:Bool)(S:St):Nat:=if x&&S.isN 0 then 1 else vt S
theorem NR:pc φ [.agg [.b x,S.d]]=some (.i .i64 (.ofNat (BT x S))):=by
 have i1:=λs K=>En (S:=S) (E4 (φ:=φ)) rfl s K;have i2:∀(s:LS)(K:D→LS→Rs),eS (pE φ) [] s K=K (.agg [.b false,.n 0]) s:=λs K=>fF Yd;unfold pc BT;cases S with
 |bad l=>
  have h1:vt (.bad l)=1:=rfl;rw[h1]at i1;rw[h1,show(x&&(St.bad l).isN 0)=false by cases x<;>rfl];simp -implicitDefEqProofs only[eV,eY,fy,kW,lV,ln,List.length_nil,List.nil_append,List.getElem?_cons_zero,List.getElem?_cons_succ,gN,gf,eL,oW,Nat.zero_add,ei,lk,li,jU,List.drop_zero,SL,i1,eqI];rfl
 |ok m=>
  have h1:(Nat.beq (vt (.ok m)) 1)=false:=by
   unfold vt;rw[aC (show(St.ok m).fine=true from rfl)];split<;>rfl
  rw[show(St.ok m).isN 0=Nat.beq m 0 from rfl];have i1':∀(s:LS)(K:D→LS→Rs),eS (mi φ) [.n m] s K=K (.i .i64 (.ofNat (vt (.ok m)))) s:=i1;clear i1;rcases bQ m with h0|h0
  ·subst h0;cases x<;>simp -implicitDefEqProofs only[eV,eY,fy,jf,kW,lV,ln,List.all_cons,List.all_nil,one,Bool.and_self,Bool.and_true,List.length_nil,List.nil_append,List.getElem?_cons_zero,List.getElem?_cons_succ,gN,gf,eL,e9,sj,oW,sU,sR,Bool.not_false,Bool.not_true,Nat.zero_add,ei,lk,li,jU,List.drop_zero,xb,D5,sY,vC,i1',i2,eqI,h1,St.d,ZN]<;>rfl
  ·have hb:Nat.beq m 0=false:=gR (by omega);cases x<;>simp -implicitDefEqProofs only[eV,eY,fy,jf,kW,lV,ln,List.all_cons,List.all_nil,one,Bool.and_self,List.length_nil,List.nil_append,List.getElem?_cons_zero,List.getElem?_cons_succ,gN,gf,eL,e9,sj,oW,sU,sR,Bool.not_false,Nat.zero_add,lk,li,jU,List.drop_zero,xb,sY,vC,i1',i2,eqI,h1,St.d,ZN,hb,Bool.and_false,Bool.not_false]<;>rfl
def R4:St→St→Nat
 |.ok a,.ok b=>Nat.gcd a b
 |_,_=>0
def KY(x:Bool)(S T:St):Nat:=if Nat.beq (BT x S) 1||Nat.beq (vt T) 1||T.isN 0 then 1 else if Nat.beq (BT x S) 0 then(if Nat.beq (vt T) 0 then(if Nat.beq (R4 S T) 1 then 0 else 1)else vt T)else BT x S
theorem KZ(x:Bool)(S:St):BT x S=0∨BT x S=1∨BT x S=4:=by
 unfold BT;split
 ·exact Or.inr (Or.inl rfl)
 ·exact DY S
theorem VJ(h:BT x S=0):vt S=0:=by
 unfold BT at h;split at h
 ·cases h
 ·exact h
theorem NQ(hφ:3000000000≤φ):ov φ [.agg [.b x,S.d,T.d]]=some (.i .i64 (.ofNat (KY x S T))):=by
 have i1:=λs K=>Js (S:=S) (x:=x) (NR (φ:=φ)) rfl s K;have i2:=λs K=>En (S:=T) (E4 (φ:=φ)) rfl s K;have e1:Nat.beq 0 1=false:=rfl;have e2:Nat.beq 1 1=true:=rfl;have e3:Nat.beq 4 1=false:=rfl;have e4:Nat.beq 0 0=true:=rfl;have e5:Nat.beq 4 0=false:=rfl;unfold ov KY;rcases KZ x S with h5|h5|h5<;>rcases DY T with h8|h8|h8<;>rw[h5]at i1<;>rw[h8]at i2<;>rw[h5,h8]
 ·obtain⟨a,rfl,ha⟩:=MZ (VJ h5);obtain⟨b,rfl,hb⟩:=MZ h8;have i3:∀(s:LS)(K:D→LS→Rs),eS (uZ φ) [.n a,.n b] s K=K (.n (Nat.gcd a b)) s:=λs K=>rC (Aw (fD (uY ha) (by decide)) (fD (uY hb) (by decide)) hφ);simp only[St.d]at i1 i2;simp only[St.d,e1,z1Z,St.isN,e4,b9,R4];rcases px (Nat.beq b 0)with hz|hz
  ·rcases px (Nat.beq b 1)with h1|h1
   ·rcases px (Nat.beq (Nat.gcd a b) 1)with hg|hg<;>simp -implicitDefEqProofs only[eV,eY,fy,jf,kW,lV,ln,List.all_cons,List.all_nil,one,Bool.and_self,List.length_nil,List.nil_append,List.getElem?_cons_zero,List.getElem?_cons_succ,gN,gf,eL,e9,H3,sj,oW,sU,sR,Bool.not_false,Bool.not_true,Nat.zero_add,ei,lk,li,jU,List.drop_zero,xb,sY,vC,mS,i1,i2,i3,eqI,neI,e1,hz,h1,hg,Bool.false_eq_true,if_false,if_true]
   ·have hb1:b=1:=aU h1;subst hb1;have hg1:Nat.beq (Nat.gcd a 1) 1=true:=by rw[Nat.gcd_one_right];rfl
    simp -implicitDefEqProofs only[eV,eY,fy,jf,kW,lV,ln,List.all_cons,List.all_nil,one,Bool.and_self,List.length_nil,List.nil_append,List.getElem?_cons_zero,List.getElem?_cons_succ,gN,gf,eL,e9,H3,sj,oW,sU,sR,Bool.not_true,Nat.zero_add,ei,lk,li,jU,List.drop_zero,D5,sY,vC,mS,hg1,i1,i2,eqI,neI,e1,hz,Bool.false_eq_true,if_false,if_true]
  ·simp -implicitDefEqProofs only[eV,eY,fy,jf,kW,lV,ln,List.all_cons,List.all_nil,one,Bool.and_self,List.length_nil,List.nil_append,List.getElem?_cons_zero,List.getElem?_cons_succ,gN,gf,eL,e9,H3,sj,oW,sU,sR,Bool.not_true,Nat.zero_add,ei,lk,li,jU,List.drop_zero,sY,vC,mS,i1,i2,eqI,neI,e1,hz,if_true]
 ·simp -implicitDefEqProofs only[eV,eY,fy,kW,lV,ln,List.length_nil,List.nil_append,List.getElem?_cons_zero,List.getElem?_cons_succ,gN,gf,eL,e9,oW,sU,sR,Bool.not_true,Nat.zero_add,ei,lk,li,jU,List.drop_zero,sY,vC,mS,vv,i1,i2,eqI,neI,e1,Bool.or_true,Bool.true_or,if_true]
 ·rcases px (T.isN 0)with hz|hz<;>simp -implicitDefEqProofs only[eV,eY,fy,kW,lV,ln,List.length_nil,List.nil_append,List.getElem?_cons_zero,List.getElem?_cons_succ,gN,gf,eL,e9,oW,sU,sR,Bool.not_false,Bool.not_true,Nat.zero_add,ei,lk,li,jU,List.drop_zero,sY,vC,mS,vv,i1,i2,eqI,neI,FC,hz,e1,e3,e5,Bool.or_true,Bool.or_false,Bool.false_eq_true,if_false,if_true]
 ·simp -implicitDefEqProofs only[eV,eY,fy,kW,lV,ln,List.length_nil,List.nil_append,List.getElem?_cons_zero,List.getElem?_cons_succ,gN,gf,eL,e9,oW,sU,sR,Nat.zero_add,ei,lk,li,jU,List.drop_zero,sY,vv,i1,i2,eqI,neI,e1,Bool.true_or,if_true]
 ·simp -implicitDefEqProofs only[eV,eY,fy,kW,lV,ln,List.length_nil,List.nil_append,List.getElem?_cons_zero,List.getElem?_cons_succ,gN,gf,eL,e9,oW,sU,sR,Nat.zero_add,ei,lk,li,jU,List.drop_zero,sY,vv,i1,i2,eqI,neI,Bool.or_true,Bool.true_or,if_true]
 ·simp -implicitDefEqProofs only[eV,eY,fy,kW,lV,ln,List.length_nil,List.nil_append,List.getElem?_cons_zero,List.getElem?_cons_succ,gN,gf,eL,e9,oW,sU,sR,Nat.zero_add,ei,lk,li,jU,List.drop_zero,sY,vv,i1,i2,eqI,neI,Bool.true_or,if_true]
 ·rcases px (T.isN 0)with hz|hz<;>simp -implicitDefEqProofs only[eV,eY,fy,kW,lV,ln,List.length_nil,List.nil_append,List.getElem?_cons_zero,List.getElem?_cons_succ,gN,gf,eL,e9,oW,sU,sR,Bool.not_false,Nat.zero_add,ei,lk,li,jU,List.drop_zero,sY,vC,mS,vv,i1,i2,eqI,neI,FC,hz,e1,e3,e5,Bool.or_true,Bool.or_false,Bool.false_eq_true,if_false,if_true]
 ·simp -implicitDefEqProofs only[eV,eY,fy,kW,lV,ln,List.length_nil,List.nil_append,List.getElem?_cons_zero,List.getElem?_cons_succ,gN,gf,eL,e9,oW,sU,sR,Bool.not_false,Nat.zero_add,ei,lk,li,jU,List.drop_zero,sY,vC,mS,vv,i1,i2,eqI,neI,e3,e5,Bool.or_true,Bool.true_or,if_true]
 ·rcases px (T.isN 0)with hz|hz<;>simp -implicitDefEqProofs only[eV,eY,fy,kW,lV,ln,List.length_nil,List.nil_append,List.getElem?_cons_zero,List.getElem?_cons_succ,gN,gf,eL,e9,oW,sU,sR,Bool.not_false,Nat.zero_add,lk,li,jU,List.drop_zero,sY,vC,mS,vv,i1,i2,eqI,neI,FC,hz,e3,e5,Bool.or_true,Bool.or_false,Bool.false_eq_true,if_false,if_true]
end
section
variable {bs:List Blk} {s:LS} {K:D→LS→Rs} {k:D→Rs} {S T:St} {m n a b:Nat} {x y:Bool} {φ:Nat} {l:List D} {t:Rs} {p q:Rat}
def FV(x:Bool)(S:St):Bool:=S.fine&&(!x|| !S.isN 0)
theorem PU:mu φ [.agg [.b x,S.d]]=some (.b (FV x S)):=by
 have i1:=λs K=>En (S:=S) (HK (φ:=φ)) rfl s K;unfold mu FV;rcases px S.fine with h|h<;>rcases px (S.isN 0)with h0|h0<;>rw[h]at i1<;>rw[h]<;>cases x<;>simp -implicitDefEqProofs only[eV,eY,fy,kW,lV,Bool.and_self,Bool.and_true,List.length_nil,List.nil_append,List.getElem?_cons_zero,List.getElem?_cons_succ,gN,gf,eL,e9,sU,sR,tL,Bool.not_false,Bool.not_true,Nat.zero_add,sO,xb,D5,sY,vC,mS,SL,i1,h0,Yt,Bool.true_and,Bool.or_true,Bool.or_false]
def GN(S T:St):Nat:=if Nat.beq (Ak S) 0 then Ak T else 4
theorem yn(S:St):Ak S=0∨Ak S=4:=by unfold Ak;split;exact Or.inr rfl;exact Or.inl rfl
theorem Ta:nP φ [.agg [.b x,S.d]]=some (.i .i64 (.ofNat (Ak S))):=by
 have i1:=λs K=>En (S:=S) (LD (φ:=φ)) rfl s K;unfold nP;simp -implicitDefEqProofs only[eV,eY,fy,kW,lV,List.length_nil,List.nil_append,List.getElem?_cons_zero,List.getElem?_cons_succ,gN,gf,eL,Nat.zero_add,jU,SL,i1]
theorem T9:nN φ [.agg [.b x,S.d,T.d]]=some (.i .i64 (.ofNat (GN S T))):=by
 have i1:=λs K=>Js (S:=S) (x:=x) (Ta (φ:=φ)) rfl s K;have i2:=λs K=>En (S:=T) (LD (φ:=φ)) rfl s K;have e4:Nat.beq 0 0=true:=rfl;have e5:Nat.beq 4 0=false:=rfl;unfold nN GN;rcases yn S with h|h<;>rw[h]at i1<;>rw[h]<;>simp -implicitDefEqProofs only[eV,eY,fy,kW,lV,ln,List.length_nil,List.nil_append,List.getElem?_cons_zero,List.getElem?_cons_succ,gN,gf,eL,e9,oW,Bool.not_false,Bool.not_true,Nat.zero_add,ei,lk,li,jU,List.drop_zero,vv,i1,i2,neI,e5,if_true,Bool.false_eq_true,if_false]
theorem M0:KY x S T=if !(FV x S)|| !T.fine||T.isN 0 then 1 else if Nat.beq (GN S T) 0 then(if Nat.beq (R4 S T) 1 then 0 else 1)else 4:=by
 unfold KY FV GN BT vt Ak;cases S with
 |bad l=>simp[St.fine,St.isN]
 |ok a=>
  cases T with
  |bad l=>simp[St.fine,St.isN]
  |ok b=>
   simp only[St.fine,St.isN,St.len,b9,z1W,cG,Bool.or_false];by_cases h1:1024<tM a<;>by_cases h2:1024<tM b<;>cases x<;>cases h3:Nat.beq a 0<;>cases h4:Nat.beq b 0<;>simp[h1,h2]
theorem DJ(S T:St):GN S T=0∨GN S T=4:=by
 unfold GN;split
 ·exact yn T
 ·exact Or.inr rfl
theorem MK(h:GN S T=0):Ak S=0∧Ak T=0:=by
 unfold GN at h;rcases yn S with h1|h1<;>rw[h1]at h
 ·exact⟨h1,h⟩
 ·cases h
theorem Bi(h:Ak (.ok a)=0):tM a≤1024:=by
 unfold Ak at h;split at h
 ·cases h
 ·rename_i h1;have:¬1024<tM a:=h1;omega
theorem NO:ms φ [.agg [.b x,S.d,T.d]]=some (.i .i64 (.ofNat (KY x S T))):=by
 have i1:=λs K=>Js (S:=S) (x:=x) (PU (φ:=φ)) rfl s K;have i2:=λs K=>En (S:=T) (HK (φ:=φ)) rfl s K;have i3:=λs K=>RG (S:=S) (T:=T) (x:=x) (T9 (φ:=φ)) rfl s K;have e4:Nat.beq 0 0=true:=rfl;have e5:Nat.beq 4 0=false:=rfl;rw[M0];unfold ms;rcases px (FV x S)with h1|h1<;>rw[h1]at i1<;>rw[h1]
 ·simp -implicitDefEqProofs only[eV,eY,fy,kW,ln,List.length_nil,List.nil_append,List.getElem?_cons_zero,gN,gf,eL,e9,oW,sU,sR,tL,Bool.not_false,Nat.zero_add,lk,li,jU,List.drop_zero,sY,vv,i1,Bool.true_or,if_true]
 rcases px T.fine with h2|h2<;>rw[h2]at i2<;>rw[h2]
 ·simp -implicitDefEqProofs only[eV,eY,fy,kW,lV,ln,List.length_nil,List.nil_append,List.getElem?_cons_zero,List.getElem?_cons_succ,gN,gf,eL,e9,oW,sU,sR,tL,Bool.not_false,Bool.not_true,Nat.zero_add,lk,li,jU,List.drop_zero,sY,vC,mS,vv,i1,i2,Bool.true_or,Bool.or_true,if_true]
 rcases px (T.isN 0)with h3|h3<;>rw[h3]
 ·rcases DJ S T with h4|h4<;>rw[h4]at i3<;>rw[h4]
  ·obtain⟨f1,f2⟩:=MK h4;have hS:S.fine=true:=by unfold FV at h1;cases hf:S.fine<;>rw[hf]at h1<;>simp_all
   cases S with
   |bad l=>cases hS
   |ok a=>
    cases T with
    |bad l=>cases h2
    |ok b=>
     have i4:∀(s:LS)(K:D→LS→Rs),eS wW [.n a,.n b] s K=K (.n (Nat.gcd a b)) s:=λs K=>rC (Er (fD (uY (Bi f1)) (by decide)) (fD (uY (Bi f2)) (by decide)));simp only[St.d]at i1 i2 i3;have h3':Nat.beq b 0=false:=h3;rcases px (Nat.beq (Nat.gcd a b) 1)with hg|hg<;>simp -implicitDefEqProofs only[eV,eY,fy,jf,kW,lV,ln,List.all_cons,List.all_nil,one,Bool.and_self,List.length_nil,List.nil_append,List.getElem?_cons_zero,List.getElem?_cons_succ,gN,gf,eL,e9,H3,sj,oW,sU,sR,tL,Bool.not_false,Bool.not_true,Nat.zero_add,ei,lk,li,jU,List.drop_zero,sY,vC,mS,St.d,i1,i2,i3,i4,h3',hg,neI,R4,Bool.or_false,Bool.false_eq_true,if_false,if_true]
  ·simp -implicitDefEqProofs only[eV,eY,fy,kW,lV,ln,List.length_nil,List.nil_append,List.getElem?_cons_zero,List.getElem?_cons_succ,gN,gf,eL,e9,oW,sU,sR,tL,Bool.not_false,Bool.not_true,Nat.zero_add,lk,li,jU,List.drop_zero,sY,vC,mS,vv,i1,i2,i3,FC,h3,neI,e5,Bool.or_false,Bool.false_eq_true,if_false]
 ·simp -implicitDefEqProofs only[eV,eY,fy,kW,lV,ln,List.length_nil,List.nil_append,List.getElem?_cons_zero,List.getElem?_cons_succ,gN,gf,eL,e9,oW,sU,sR,tL,Bool.not_true,Nat.zero_add,lk,li,jU,List.drop_zero,sY,vC,mS,vv,i1,i2,FC,h3,Bool.or_true,if_true]
def Sx(x:Bool):St→St→Rat
 |.ok a,.ok b=>if h:b≠0∧(zt x a).natAbs.Coprime b then⟨zt x a,b,h.1,h.2⟩else 0
 |_,_=>0
theorem Sw(h:KY x S T=0):D.agg [.b x,S.d,T.d]=rc (Sx x S T)∧Qz 8192 (Sx x S T):=by
 rw[M0]at h;rcases px (FV x S)with h1|h1<;>rw[h1]at h
 ·cases h
 rcases px T.fine with h2|h2<;>rw[h2]at h
 ·cases h
 rcases px (T.isN 0)with h3|h3<;>rw[h3]at h
 ·rcases DJ S T with h4|h4<;>rw[h4]at h
  ·obtain⟨f1,f2⟩:=MK h4;have hS:S.fine=true:=by unfold FV at h1;cases hf:S.fine<;>rw[hf]at h1<;>simp_all
   cases S with
   |bad l=>cases hS
   |ok a=>
    cases T with
    |bad l=>cases h2
    |ok b=>
     rcases px (Nat.beq (Nat.gcd a b) 1)with hg|hg
     ·have:Nat.beq (R4 (.ok a) (.ok b)) 1=false:=hg;rw[this]at h;cases h
     ·have hb:b≠0:=λe=>by
       subst e;cases h3
      have hgcd:(zt x a).natAbs.Coprime b:=by
       rw[wF];exact aU hg
      have hx:(x&& !(Nat.beq a 0))=x:=by
       unfold FV at h1;cases x with
       |false=>rfl
       |true=>
        have h5:(!(Nat.beq a 0))=true:=by
         have h6:(true&&(!true|| !(Nat.beq a 0)))=true:=h1;simpa using h6
        rw[h5];rfl
      have hv:Sx x (.ok a) (.ok b)=⟨zt x a,b,hb,hgcd⟩:=dif_pos (⟨hb,hgcd⟩:b≠0∧(zt x a).natAbs.Coprime b);rw[hv];refine⟨?_,?_,?_⟩
      ·show D.agg [.b x,.n a,.n b]=.agg [.b (decide (zt x a<0)),.n (zt x a).natAbs,.n b];rw[FQ,wF,hx]
      ·show Lg 8192 (zt x a).natAbs;rw[wF];exact uY (Bi f1)
      ·exact uY (Bi f2)
  ·cases h
 ·cases h
end
abbrev RQ:=Bool×St×St
def rq(q:RQ):List D:=[.b q.1,q.2.1.d,q.2.2.d]
def raw:List RQ→List D
 |[]=>[]
 |q::l=>.b q.1::q.2.1.d::q.2.2.d::raw l
def ckq(q:RQ):Nat:=KY q.1 q.2.1 q.2.2
def vlq(q:RQ):Rat:=Sx q.1 q.2.1 q.2.2
def uh:List RQ→Nat
 |[]=>0
 |q::l=>if ckq q=0 then uh l else ckq q
def fm(l:List RQ):Row:=l.map vlq
def Ia(l:List RQ):Nat:=if uh l=0 then(if 0<l.length∧ent (fm l) (l.length-1)=0 then 1 else 0)else uh l
def w6(l:List RQ):Nat:=if 65<l.length then 4 else Ia l
section
variable {bs:List Blk} {s:LS} {K:D→LS→Rs} {k:D→Rs} {S T:St} {m n a b i:Nat} {x y ex:Bool} {φ:Nat} {l r:List RQ} {t:Rs} {p q:Rat} {z:RQ} {kk:IntKind}
theorem Fb:∀l:List RQ,(raw l).length=l.length*3
 |[]=>rfl
 |q::l=>by simp only[raw,bD,Fb l];omega
theorem HH:∀(l:List RQ)(i:Nat),(raw l).drop (i*3)=raw (l.drop i)
 |l,0=>by simp
 |[],i+1=>by simp[raw]
 |q::l,i+1=>by rw[show(i+1)*3=i*3+3 by omega];simp only[raw,z1c];exact HH l i
theorem PQ(h:i<l.length):((raw l).drop (i*3)).take 3=rq l[i]:=by
 rw[HH,bu h];rfl
theorem Fz(hn:l.length=n)(h:i<n):(eJ 3 s (.tree (raw l) n ex) (.i kk (.ofNat i)) λa s=>eT 3 s a K)=K (.agg (rq (l[i]'(by omega)))) s:=by
 refine th (v8 h (by rw[Fb];omega)) ?_;refine th (ZA (by rw[Fb];omega)) ?_;rw[PQ (by omega)]
theorem W7:(rq z).all one=true:=by
 obtain⟨x,S,T⟩:=z;cases S<;>cases T<;>rfl
theorem Tz{zero:List D}(hz:zero.length=3):(gG zero (mem bs) λx s=>eU 3 s x (.agg (rq z)) λ_ s=>K x s)=K (.ptr bs.length 0) (mem (bs++[⟨rq z,.rw⟩])):=by
 refine th OO ?_;refine th (Gu (b:=⟨zero,.rw⟩) (cs':=rq z) (by simp) rfl (hx:=rfl) (hn:=rfl) (h1:=W7) (hl:=?_)) ?_
 ·match zero,hz with
  |[a,b,c],_=>rfl
 ·rw[cO _ _ (aE _),bt,d7]
theorem ldR:eT 3 (mem (bs++[⟨rq z,.rw⟩])) (.ptr bs.length 0) K=K (.agg (rq z)) (mem (bs++[⟨rq z,.rw⟩])):=by
 refine th (N5 (b:=⟨rq z,.rw⟩) (by simp) rfl (aE 3)) ?_;rfl
theorem RD{M:List D→Option D}{r:D}(h:M [.agg (rq z)]=some r)(hp:pt r=true):∀s K,eS M [.agg (rq z)] s K=K r s:=RG h hp
theorem FH(h:uh (l.take i)=0)(hi:i<l.length)(h0:ckq l[i]=0):uh (l.take (i+1))=0:=by
 induction l generalizing i with
 |nil=>simp at hi
 |cons q l ih=>
  cases i with
  |zero=>
   show(if ckq q=0 then uh []else ckq q)=0;rw[aC (show ckq q=0 from h0)];rfl
  |succ i=>
   have h1:(if ckq q=0 then uh (l.take i)else ckq q)=0:=h;by_cases hq:ckq q=0
   ·rw[aC hq]at h1;show(if ckq q=0 then uh (l.take (i+1))else ckq q)=0;rw[aC hq];exact ih h1 (by simpa using hi) h0
   ·rw[aF hq]at h1;exact absurd h1 hq
theorem w7(h:uh (l.take i)=0)(hi:i<l.length)(h0:ckq l[i]≠0):uh l=ckq l[i]:=by
 induction l generalizing i with
 |nil=>simp at hi
 |cons q l ih=>
  cases i with
  |zero=>
   show(if ckq q=0 then uh l else ckq q)=ckq q;rw[aF (show ¬ckq q=0 from h0)]
  |succ i=>
   have h1:(if ckq q=0 then uh (l.take i)else ckq q)=0:=h;by_cases hq:ckq q=0
   ·rw[aC hq]at h1;show(if ckq q=0 then uh l else ckq q)=_;rw[aC hq];exact ih h1 (by simpa using hi) h0
   ·rw[aF hq]at h1;exact absurd h1 hq
theorem v5:∀{l:List RQ},uh l=0→raw l=rs (fm l)∧∀i,Qz 8192 (ent (fm l) i)
 |[],_=>⟨rfl,λi=>by rw[show fm []=[]from rfl,uf];exact zS _⟩
 |q::l,h=>by
  have h1:(if ckq q=0 then uh l else ckq q)=0:=h;by_cases hq:ckq q=0
  ·rw[aC hq]at h1;obtain⟨a1,a2⟩:=v5 h1;obtain⟨b1,b2⟩:=Sw hq;refine⟨?_,λi=>?_⟩
   ·show .b q.1::q.2.1.d::q.2.2.d::raw l=_;rw[a1];injection b1 with b1;have:rs (fm (q::l))=rcs (vlq q)++rs (fm l):=rfl;rw[this];show[.b q.1,q.2.1.d,q.2.2.d]++rs (fm l)=_;rw[b1];rfl
   ·cases i with
    |zero=>exact b2
    |succ i=>exact a2 i
  ·rw[aF hq]at h1;exact absurd h1 hq
theorem ll:(fm l).length=l.length:=by unfold fm;rw[aI]
theorem MY(h:uh l≠0):Ia l=uh l:=by unfold Ia;rw[aF h]
theorem SG(h:uh l=0):Ia l=if 0<l.length∧ent (fm l) (l.length-1)=0 then 1 else 0:=by unfold Ia;rw[aC h]
theorem Pm(hn:l.length=n)(hs:n<1000000)(hφ:3000000000≤φ):∀(j i fu:Nat)(bs:List Blk),i+j=n→j<fu→uh (l.take i)=0→
 lp (λ(_ _ _ _:D)(_:LS)=>none) (oz φ) fu (.tree (raw l) n ex) (.tree (raw l) n ex) (.i .i64 (.ofNat n)) (.i .i64 (.ofNat i)) (mem bs)=some (.i .i64 (.ofNat (Ia l))):=by
 intro j
 induction j with
 |zero=>
  intro i fu bs hi hf hc;obtain⟨fu,rfl⟩:∃q,fu=q+1:=⟨fu-1,by omega⟩
  have:i=n:=by omega
  subst this;rw[aM (by omega)]at hc;rw[SG hc,hn,(v5 hc).1,eM];unfold oz;refine th (gA (bC _)) (th eP (th fO ?_));by_cases h0:0<i
  ·refine th (nU h0) (th eo (th eo (th eo (th fO (th eo (th (gW (by omega) (by omega)) (th Ep (th (qE (ll.trans hn) (by omega)) (th eo (th (jk sP rfl) (th fQ ?_)))))))))));by_cases hz:ent (fm l) (i-1)=0
   ·rw[aC ⟨h0,hz⟩,aP hz];exact th eO jU
   ·rw[aF (λh=>hz h.2),aN hz];exact th eP jU
  ·rw[aF (λh=>h0 h.1)];exact th (pX h0) (th fX (th fX (th fX (th fX (th fX (th fX (th fX (th gD (th eP jU)))))))))
 |succ j ih=>
  intro i fu bs hi hf hc;obtain⟨fu,rfl⟩:∃q,fu=q+1:=⟨fu-1,by omega⟩
  have hil:i<l.length:=by omega
  have hck:=λs K=>RD (z:=l[i]) (NQ (x:=l[i].1) (S:=l[i].2.1) (T:=l[i].2.2) hφ) rfl s K;by_cases h0:ckq l[i]=0
  ·have hih:=ih (i+1) fu (bs++[⟨rq l[i],.rw⟩]) (by omega) (by omega) (FH hc hil h0);rw[eM]
   conv=>lhs;unfold oz
   exact th (fe (by omega)) (th eO (th (Fz hn (by omega)) (th (Tz rfl) (th ldR (th (hck _ _) (th (pH h0) (th eP (th (fH (by omega)) hih))))))))
  ·rw[MY (by rw[w7 hc hil h0];exact h0),w7 hc hil h0,eM];unfold oz;exact th (fe (by omega)) (th eO (th (Fz hn (by omega)) (th (Tz rfl) (th ldR (th (hck _ _) (th (rv h0) (th eO jU)))))))
theorem C2(hn:l.length=n)(hφ:3000000000≤φ):pj φ [.tree (raw l) n ex]=some (.i .i64 (.ofNat (w6 l))):=by
 unfold pj w6;dsimp only[eV,eY];refine th fO ?_;rw[hn];by_cases h:65<n
 ·rw[aC h];exact th (nU h) (th eO jU)
 ·rw[aF h];exact th (pX h) (th eP (th fO (Pm hn (by omega) hφ n 0 φ [] (by omega) (by omega) rfl)))
theorem Oz(hn:l.length=n)(hs:n<1000000)(hφ:3000000000≤φ):∀(j i fu:Nat)(bs:List Blk),i+j=n→j<fu→uh (l.take i)=0→
 lp (λ(_ _ _ _:D)(_:LS)=>none) (lH φ) fu (.tree (raw l) n ex) (.tree (raw l) n ex) (.i .i64 (.ofNat n)) (.i .i64 (.ofNat i)) (mem bs)=some (.i .i64 (.ofNat (Ia l))):=by
 intro j
 induction j with
 |zero=>
  intro i fu bs hi hf hc;obtain⟨fu,rfl⟩:∃q,fu=q+1:=⟨fu-1,by omega⟩
  have:i=n:=by omega
  subst this;rw[aM (by omega)]at hc;rw[SG hc,hn,(v5 hc).1,eM];unfold lH;refine th (gA (bC _)) (th eP (th fO ?_));by_cases h0:0<i
  ·refine th (nU h0) (th eo (th eo (th eo (th fO (th eo (th (gW (by omega) (by omega)) (th Ep (th (qE (ll.trans hn) (by omega)) (th eo ?_)))))))));by_cases hz:ent (fm l) (i-1)=0
   ·rw[aC ⟨h0,hz⟩];exact th (JP hz) (th eo (th (oo rfl) (th fQ (th eO jU))))
   ·rw[aF (λh=>hz h.2)];exact th (PX hz) (th fQ (th eP jU))
  ·rw[aF (λh=>h0 h.1)];exact th (pX h0) (th fX (th fX (th fX (th fX (th fX (th fX (th fX (th fX (th gD (th eP jU))))))))))
 |succ j ih=>
  intro i fu bs hi hf hc;obtain⟨fu,rfl⟩:∃q,fu=q+1:=⟨fu-1,by omega⟩
  have hil:i<l.length:=by omega
  have hck:=λs K=>RD (z:=l[i]) (NO (φ:=φ) (x:=l[i].1) (S:=l[i].2.1) (T:=l[i].2.2)) rfl s K;by_cases h0:ckq l[i]=0
  ·have hih:=ih (i+1) fu (bs++[⟨rq l[i],.rw⟩]) (by omega) (by omega) (FH hc hil h0);rw[eM]
   conv=>lhs;unfold lH
   exact th (fe (by omega)) (th eO (th (Fz hn (by omega)) (th (Tz rfl) (th ldR (th (hck _ _) (th (pH h0) (th eP (th (fH (by omega)) hih))))))))
  ·rw[MY (by rw[w7 hc hil h0];exact h0),w7 hc hil h0,eM];unfold lH;exact th (fe (by omega)) (th eO (th (Fz hn (by omega)) (th (Tz rfl) (th ldR (th (hck _ _) (th (rv h0) (th eO jU)))))))
theorem yY(hn:l.length=n)(hφ:3000000000≤φ):jx φ [.tree (raw l) n ex]=some (.i .i64 (.ofNat (w6 l))):=by
 unfold jx w6;dsimp only[eV,eY];refine th fO ?_;rw[hn];by_cases h:65<n
 ·rw[aC h];exact th (nU h) (th eO jU)
 ·rw[aF h];exact th (pX h) (th eP (th fO (Oz hn (by omega) hφ n 0 φ [] (by omega) (by omega) rfl)))
theorem w5(h:w6 l=0):uh l=0∧l.length≤65∧Pt (fm l):=by
 unfold w6 at h;by_cases h1:65<l.length
 ·rw[aC h1]at h;cases h
 rw[aF h1]at h;unfold Ia at h;by_cases h2:uh l=0
 ·rw[aC h2]at h;refine⟨h2,by omega,wL λx hx=>?_⟩;by_cases h3:0<l.length∧ent (fm l) (l.length-1)=0
  ·rw[aC h3]at h;cases h
  ·intro hx0;apply h3;have hpos:0<l.length:=by
    rcases bQ l.length with h4|h4
    ·have:l=[]:=ao h4;subst this;cases hx
    ·exact h4
   refine⟨hpos,?_⟩;rw[z1e,ll]at hx;unfold ent;rw[aD,hx,hx0];rfl
 ·rw[aF h2]at h;exact absurd h h2
end
section
variable {bs:List Blk} {s:LS} {K:D→LS→Rs} {k:D→Rs} {S T:St} {m n a b i kb:Nat} {x y ex e:Bool} {φ:Nat} {l r:List RQ} {t:Rs} {p q:Rat} {z:RQ} {kk:IntKind} {g h:Row} {cs:List D} {f:D}
theorem wj(hb:bs[kb]?=some ⟨[.tree cs n e],.rw⟩):(eX 0 (mem bs) (.ptr kb 0) λx s=>eK s x K)=K (.tree cs n e) (mem bs):=by
 rw[kW,hb,gN];show(eK (mem bs) (.ptr kb 0) K)=_;exact GC hb rfl rfl
theorem RY{w:Bool}{X:D}:(eI (.b w) w (λk=>eX 0 s X k) s λx s=>eI (.b w) w (λk=>eK s x k) s K)=eX 0 s X λa s=>eK s a K:=by cases w<;>rfl
theorem X8{X i:D}{z n:Nat}:(eI (.b false) false (λk=>eJ z s X i k) s λx s=>eI (.b false) false (λk=>eT n s x k) s K)=eJ z s X i λa s=>eT n s a K:=rfl
theorem KJ:BO true [1,2,2] (rc p) (rc q) s K=K (.b (!(decide (p=q)))) s:=by
 have key:(decide (p=q))=((decide (p.num<0)==decide (q.num<0))&&(Nat.beq p.num.natAbs q.num.natAbs&&Nat.beq p.den q.den)):=by
  by_cases hpq:p=q
  ·subst hpq;rw[aP rfl,ei,ei];cases decide (p.num<0)<;>rfl
  ·rw[aN hpq];rw[SU,SU];by_cases h1:p.den=q.den
   ·by_cases h2:p.num.natAbs=q.num.natAbs
    ·rw[aP h1,aP h2];by_cases h3:p.num<0<;>by_cases h4:q.num<0
     ·exact absurd (Rat.ext (by omega) h1) hpq
     ·rw[aP h3,aN h4];rfl
     ·rw[aN h3,aP h4];rfl
     ·exact absurd (Rat.ext (by omega) h1) hpq
    ·rw[aN h2,z1O,eB]
   ·rw[aN h1,eB,eB]
 rw[key];unfold BO rc;rw[gV];generalize decide (p.num<0)=u1;generalize decide (q.num<0)=u2;generalize hA:Nat.beq p.num.natAbs q.num.natAbs=u3;generalize hB:Nat.beq p.den q.den=u4;cases u1<;>cases u2<;>cases u3<;>cases u4<;>(show ob (OE true [1,2,2] _ _) _=_;simp[OE,eqL,eq1,hA,hB];rfl)
theorem xe{P:Rat→Bool}(h0:∀t,t<i→t<g.length→P (ent g t)=false)(hi:i<g.length)(h1:P (ent g i)=true):g.any P=true:=by
 rw[List.any_eq_true];refine⟨g[i],ak hi,?_⟩;have:ent g i=g[i]:=by unfold ent;rw[aD,aB hi];rfl
 rw[←this];exact h1
theorem AF{P:Rat→Bool}(h0:∀t,t<g.length→P (ent g t)=false):g.any P=false:=by
 rw[z1o];intro v hv;obtain⟨j,hj,rfl⟩:=cE.1 hv;have:ent g j=g[j]:=by unfold ent;rw[aD,aB hj];rfl
 rw[←this,h0 j hj];simp
theorem OG{P:Rat→Bool}(hd:∀(v:Rat)(s:LS)(F:D→LS→Rs),ug (jI φ) false f [rc v] s F=F (.b (P v)) s)(hn:g.length=n)(hs:n<1000000){k':D→LS→Rs}:∀(j i fu:Nat),i+j=n→j<fu→(∀t,t<i→P (ent g t)=false)→
 lp (λ(_ _ _ _:D)(_:LS)=>none) (gT φ (λx3 s=>kI x3 (.i .i64 (.ofNat 0)) λx4=>k' x4 s)) fu (.tree (rs g) n ex) f (.i .i64 (.ofNat n)) (.i .i64 (.ofNat i)) s=k' (.b (g.any P)) s:=by
 intro j
 induction j with
 |zero=>
  intro i fu hi hf h0;obtain⟨fu,rfl⟩:∃q,fu=q+1:=⟨fu-1,by omega⟩
  have:i=n:=by omega
  subst this;rw[AF (λt ht=>h0 t (by omega)),eM];unfold gT;exact th (gA (bC _)) (th eP uB)
 |succ j ih=>
  intro i fu hi hf h0;obtain⟨fu,rfl⟩:∃q,fu=q+1:=⟨fu-1,by omega⟩
  rcases px (P (ent g i))with hP|hP
  ·have hih:=ih (i+1) fu (by omega) (by omega) (λt ht=>by
    by_cases e:t=i
    ·subst e;exact hP
    ·exact h0 t (by omega))
   rw[eM]
   conv=>lhs;unfold gT
   refine th (fe (by omega)) (th eO (th (qE hn (by omega)) ((hd _ _ _).trans ?_)));rw[hP];exact th eP (th (fH (by omega)) hih)
  ·rw[xe (i:=i) (λt ht _=>h0 t ht) (by omega) hP,eM];unfold gT;refine th (fe (by omega)) (th eO (th (qE hn (by omega)) ((hd _ _ _).trans ?_)));rw[hP];exact th eO (qR (a9 _))
theorem E5{P:Rat→Bool}(hd:∀(v:Rat)(s:LS)(F:D→LS→Rs),ug (jI φ) false f [rc v] s F=F (.b (P v)) s)(hn:g.length=n)(hs:n<1000000)(hφ:1000000000≤φ){k':D→LS→Rs}:
 fZ φ [.tree (rs g) n ex,f] s k'=k' (.b (g.any P)) s:=by
 unfold fZ iZ;dsimp only[eV,eY];exact th fO (OG hd hn hs n 0 φ (by omega) (by omega) (λt ht=>by omega))
def BN(v:Rat):Bool:= !(Nat.beq v.den 1)
theorem Wo:kX φ [rc p]=some (.b (BN p)):=by
 have h1:=xQ (Pv (φ:=φ) (p:=p)) rfl;unfold rc at h1;unfold kX rc BN;simp -implicitDefEqProofs only[eV,eY,fy,jf,ln,List.all_cons,List.all_nil,one,Bool.and_self,List.length_nil,List.nil_append,List.getElem?_cons_zero,gN,gf,eL,tL,lk,li,sO,List.drop_zero,h1]
def v9(l:List RQ):Nat:=
 if w6 l=0 then(if l.length<2∨ent (fm l) (l.length-1)≠1 then 1 else if(fm l).any BN then 1 else if 24<l.length-1 then 4 else 0)else w6 l
theorem XG:fN (.i .i64 (.negSucc 0)) (.i .i64 (.ofNat 1)) k=k (.b true):=by
 show fc .lss (.i .i64 (.negSucc 0)) (.i .i64 (.ofNat 1)) k=_;unfold fc;rw[gV];rfl
theorem Px(hn:l.length=n)(hφ:3000000000≤φ):mA φ [.agg [.tree (raw l) n e]]=some (.i .i64 (.ofNat (v9 l))):=by
 have hck:=C2 (φ:=φ) (ex:=e) hn hφ;unfold mA v9;dsimp only[eV,eY];rw[←fw];have hb:([]++[(⟨[.tree (raw l) n e],.rw⟩:Blk)])[([]:List Blk).length]?=some ⟨[.tree (raw l) n e],.rw⟩:=rfl;refine th (jf rfl) (th (wj hb) (th (fF hck) ?_));by_cases h0:w6 l=0
 ·rw[aC h0];obtain⟨hz,hl,hpt⟩:=w5 h0;have hrs:=(v5 hz).1;have hrl:(fm l).length=n:=ll.trans hn;rw[hrs]at hb ⊢;rw[hn];generalize fm l=g at*;refine th (pH h0) (th eP (th (wj hb) (th fO ?_)));by_cases h2:n<2
  ·rw[aC (Or.inl h2)];have hfin:∀d,(eI (.b true) false (λk=>eX 0 (mem ([]++[⟨[.tree (rs g) n e],.rw⟩])) (.ptr ([]:List Blk).length 0) k) (mem ([]++[⟨[.tree (rs g) n e],.rw⟩])) λx12 s=>eI (.b true) false (λk=>eK s x12 k) s λx13 s=>eI (.b true) false (λk=>k d s) s λx14 s=>eI (.b true) false (λk=>eJ 3 s x13 x14 k) s λx15 s=>eI (.b true) false (λk=>eT 3 s x15 k) s λx16 s=>eI (.b true) false (λk=>eS (kd φ) [(.i .i64 (.ofNat 1))] s k) s λx17 s=>eI (.b true) false (λk=>BO true [1,2,2] x16 x17 s k) s λx18 s=>fY (.b true) (.b true) x18 s λx19 s=>eI x19 false (λk=>eX 0 s (.ptr ([]:List Blk).length 0) k) s λx20 s=>eI x19 false (λk=>eK s x20 k) s λx21 s=>eI x19 false (λk=>(fZ φ) [x21,(.fn 45 [])] s k) s λx22 s=>fY x19 (.b true) x22 s λx23 s=>eQ x23 (eW false s (.i .i64 (.ofNat 1)) some) (kv d (.i .i64 (.ofNat 24)) λx24=>eQ x24 (eW false s (.i .i64 (.ofNat 4)) some) (eW false s (.i .i64 (.ofNat 0)) some)))=some (.i .i64 (.ofNat 1)):=λd=>
    th iC (th iC (th iC (th iC (th iC (th iC (th iC (th fQ (th iC (th iC (th iC (th fQ (th eO jU))))))))))))
   rcases bQ n with h3|h3
   ·rw[h3]at hfin ⊢;exact th ze (th XG (hfin _))
   ·have:n=1:=by omega
    rw[this]at hfin ⊢;exact th (gW (by omega) (by omega)) (th (fe (by omega)) (hfin _))
  ·refine th (gW (by omega) (by omega)) (th (gA (by omega)) (th RY (th (wj hb) (th fg (th X8 (th (qE hrl (by omega)) (th fg (th (fF Pw) (th fg (th KJ (th gD ?_)))))))))));by_cases h4:ent g (n-1)=1
   ·rw[aF (λh=>h.elim h2 (λh=>h h4)),aP h4];refine th RY (th (wj hb) (th fg (th (E5 (P:=BN) (f:=.fn 45 []) (λv s F=>by
     show eS (kX φ) [rc v] s F=_;exact jk Wo rfl) hrl (by omega) (by omega)) (th gD ?_))))
    rcases px (g.any BN)with h5|h5
    ·rw[h5,aF (by decide)];by_cases h6:24<n-1
     ·rw[aC h6];exact th eP (th (nU h6) (th eO jU))
     ·rw[aF h6];exact th eP (th (pX h6) (th eP jU))
    ·rw[h5,aC rfl];exact th eO jU
   ·rw[aC (Or.inr h4),aN h4];exact th iC (th iC (th iC (th fQ (th eO jU))))
 ·rw[aF h0];exact th (rv h0) (th eO jU)
end
section
variable {bs:List Blk} {s:LS} {K:D→LS→Rs} {k:D→Rs} {S T:St} {m n a b i kb:Nat} {x y ex e:Bool} {φ:Nat} {l r:List RQ} {t:Rs} {p q:Rat} {z:RQ} {kk:IntKind} {g h:Row} {cs:List D} {f:D}
theorem HM:lh φ [rc p]=some (.b (Nat.beq p.den 1)):=by
 unfold lh rc;simp -implicitDefEqProofs only[eV,eY,fy,jf,kW,lV,List.all_cons,List.all_nil,one,Bool.and_self,List.length_nil,List.nil_append,List.getElem?_cons_zero,List.getElem?_cons_succ,gN,gf,eL,sj,Nat.zero_add,sO]
theorem LF(h:1≤n)(h':n<1000000):fa φ [.agg [.tree cs n e]]=some (.i .i64 (.ofNat (n-1))):=by
 have key:fa φ [.agg [.tree cs n e]]=(fA (.i .i64 (.ofNat n)) (.i .i64 (.ofNat 1)) λx=>eW false (mem [⟨[.tree cs n e],.rw⟩]) x some):=by
  unfold fa;dsimp only[eV,eY];rw[←fw];refine th (jf rfl) ?_;simp -implicitDefEqProofs only[kW,lV,List.length_nil,List.nil_append,List.getElem?_cons_zero,gN,gf,eL,Nat.zero_add,fO]
 rw[key];exact th (gW (by omega) (by omega)) jU
theorem oh(h0:bs[kb]?=some ⟨[.tree cs n e],.rw⟩):eT 1 (mem bs) (.ptr kb 0) K=K (.agg [.tree cs n e]) (mem bs):=th (N5 h0 rfl (aE 1)) rfl
theorem Be(h:i<g.length):ent g i=g[i]:=by unfold ent;rw[aD,aB h];rfl
theorem JL(hn:g.length=n)(h1:1≤n)(hs:n<1000000):∀(j i fu:Nat)(bs:List Blk),i+j=n→j<fu→bs[0]?=some ⟨[.tree (rs g) n e],.rw⟩→(∀t,t<i→BN (ent g t)=false)→
 lp (λ(_ _ _ _:D)(_:LS)=>none) (l8 φ) fu (.ptr 0 0) (.tree (rs g) n e) (.i .i64 (.ofNat n)) (.i .i64 (.ofNat i)) (mem bs)=some (.i .i64 (.ofNat (if g.any BN then 1 else if 24<n-1 then 4 else 0))):=by
 intro j
 induction j with
 |zero=>
  intro i fu bs hi hf hb h0;obtain⟨fu,rfl⟩:∃q,fu=q+1:=⟨fu-1,by omega⟩
  have:i=n:=by omega
  subst this;rw[AF (λt ht=>h0 t (by omega)),aF (by decide),eM];unfold l8;refine th (gA (bC _)) (th eP (th (oh hb) (th (fF (LF h1 hs)) ?_)));by_cases h6:24<i-1
  ·rw[aC h6];exact th (nU h6) (th eO jU)
  ·rw[aF h6];exact th (pX h6) (th eP jU)
 |succ j ih=>
  intro i fu bs hi hf hb h0;obtain⟨fu,rfl⟩:∃q,fu=q+1:=⟨fu-1,by omega⟩
  rcases px (BN (ent g i))with hP|hP
  ·have hih:=ih (i+1) fu (bs++[⟨rcs (ent g i),.rw⟩]) (by omega) (by omega) (gI hb) (λt ht=>by
    by_cases e:t=i
    ·subst e;exact hP
    ·exact h0 t (by omega))
   have hw:Nat.beq (ent g i).den 1=true:=by
    unfold BN at hP;cases hx:Nat.beq (ent g i).den 1<;>rw[hx]at hP<;>simp_all
   rw[eM]
   conv=>lhs;unfold l8
   refine th (fe (by omega)) (th eO (th (qE hn (by omega)) (th (yE rfl) (th Dy (th (jk HM rfl) ?_)))));rw[hw];exact th tL (th eP (th (fH (by omega)) hih))
  ·have hw:Nat.beq (ent g i).den 1=false:=by
    unfold BN at hP;cases hx:Nat.beq (ent g i).den 1<;>rw[hx]at hP<;>simp_all
   rw[xe (i:=i) (λt ht _=>h0 t ht) (by omega) hP,aC rfl,eM];unfold l8;refine th (fe (by omega)) (th eO (th (qE hn (by omega)) (th (yE rfl) (th Dy (th (jk HM rfl) ?_)))));rw[hw];exact th tL (th eO jU)
theorem LC(hn:l.length=n)(hφ:3000000000≤φ):j0 φ [.agg [.tree (raw l) n e]]=some (.i .i64 (.ofNat (v9 l))):=by
 have hck:=yY (φ:=φ) (ex:=e) hn hφ;unfold j0 v9;dsimp only[eV,eY];rw[←fw];have hb:([]++[(⟨[.tree (raw l) n e],.rw⟩:Blk)])[([]:List Blk).length]?=some ⟨[.tree (raw l) n e],.rw⟩:=rfl;refine th (jf rfl) (th (wj hb) (th (fF hck) ?_));by_cases h0:w6 l=0
 ·rw[aC h0];obtain⟨hz,hl,hpt⟩:=w5 h0;have hrs:=(v5 hz).1;have hrl:(fm l).length=n:=ll.trans hn;rw[hrs]at hb ⊢;rw[hn];generalize fm l=g at*;refine th (pH h0) (th eP (th (wj hb) (th fO ?_)));by_cases h2:n<2
  ·rw[aC (Or.inl h2)];exact th (fe h2) (th iC (th iC (th iC (th iC (th iC (th fQ (th eO jU)))))))
  ·refine th (gA h2) (th RY (th (wj hb) (th fg (th (fF (Pd hrl (by omega))) (th fg (th (fF Pf) (th fg (th KJ (th gD ?_)))))))));by_cases h4:ent g (n-1)=1
   ·rw[aF (λh=>h.elim h2 (λh=>h h4)),aP h4];exact th eP (th (wj hb) (th fO (JL hrl (by omega) (by omega) n 0 φ _ (by omega) (by omega) hb (λt ht=>by omega))))
   ·rw[aC (Or.inr h4),aN h4];exact th eO jU
 ·rw[aF h0];exact th (rv h0) (th eO jU)
structure FF (l:List RQ):Prop where
 hz:uh l=0
 h2:2≤l.length
 h25:l.length≤25
 h1:ent (fm l) (l.length-1)=1
 hw:∀i,(ent (fm l) i).den=1
theorem GP(h:v9 l=0):FF l:=by
 unfold v9 at h;by_cases h0:w6 l=0
 ·rw[aC h0]at h;by_cases h2:l.length<2∨ent (fm l) (l.length-1)≠1
  ·rw[aC h2]at h;cases h
  rw[aF h2]at h;by_cases h3:(fm l).any BN=true
  ·rw[aC h3]at h;cases h
  rw[aF h3]at h;by_cases h4:24<l.length-1
  ·rw[aC h4]at h;cases h
  refine⟨(w5 h0).1,by omega,by omega,Classical.byContradiction λhc=>h2 (Or.inr hc),λi=>?_⟩;rcases az i (fm l).length with hi|hi
  ·rw[List.any_eq_true]at h3;apply Classical.byContradiction;intro hc;apply h3;refine⟨(fm l)[i],ak hi,?_⟩;rw[←Be hi];unfold BN;rw[gR hc];rfl
  ·rw[gJ hi];rfl
 ·rw[aF h0]at h;exact absurd h h0
def nr(l r:List RQ):Nat:=if v9 l=0 then(if w6 r=0 then(if l.length≤r.length then 3 else 0)else w6 r)else v9 l
theorem zU(hn:l.length=n)(hm:r.length=m)(hφ:3000000000≤φ):lZ φ [.agg [.tree (raw l) n e],.tree (raw r) m ex]=some (.i .i64 (.ofNat (nr l r))):=by
 have hF:=Px (φ:=φ) (e:=e) hn hφ;have hC:=C2 (φ:=φ) (ex:=ex) hm hφ;unfold lZ nr;dsimp only[eV,eY];rw[←fw];have hb:([]++[(⟨[.tree (raw l) n e],.rw⟩:Blk)])[([]:List Blk).length]?=some ⟨[.tree (raw l) n e],.rw⟩:=rfl;refine th (jf rfl) (th (oh hb) (th (fF hF) ?_));by_cases h0:v9 l=0
 ·rw[aC h0];refine th (pH h0) (th eP (th (fF hC) ?_));by_cases h1:w6 r=0
  ·rw[aC h1];refine th (pH h1) (th eP (th fO (th (wj hb) (th fO ?_))));rw[hn,hm];by_cases h2:n≤m
   ·rw[aC h2];exact th (qR h2) (th eO jU)
   ·rw[aF h2];exact th (zj h2) (th eP jU)
  ·rw[aF h1];exact th (rv h1) (th eO jU)
 ·rw[aF h0];exact th (rv h0) (th eO jU)
theorem HP(hn:l.length=n)(hm:r.length=m)(hφ:3000000000≤φ):gb φ [.agg [.tree (raw l) n e],.tree (raw r) m ex]=some (.i .i64 (.ofNat (nr l r))):=by
 have hF:=LC (φ:=φ) (e:=e) hn hφ;have hC:=yY (φ:=φ) (ex:=ex) hm hφ;unfold gb nr;dsimp only[eV,eY];rw[←fw];have hb:([]++[(⟨[.tree (raw l) n e],.rw⟩:Blk)])[([]:List Blk).length]?=some ⟨[.tree (raw l) n e],.rw⟩:=rfl;refine th (jf rfl) (th (oh hb) (th (fF hF) ?_));by_cases h0:v9 l=0
 ·rw[aC h0];have hff:=GP h0;have h2n:=hff.h2;have h25:=hff.h25;refine th (pH h0) (th eP (th (fF hC) ?_));by_cases h1:w6 r=0
  ·rw[aC h1];have hm65:=(w5 h1).2.1;refine th (oo h1) (th eo (th eo (th fO (th eo (th (oh hb) (th eo (th (fF (LF (by omega) (by omega))) (th eo ?_))))))));rw[hn,hm];by_cases h2:n≤m
   ·rw[aC h2];exact th (nU (by omega)) (th fQ (th eO jU))
   ·rw[aF h2,h1];exact th (pX (by omega)) (th fQ (th eP jU))
  ·rw[aF h1];exact th (sD h1) (th fX (th fX (th fX (th fX (th fX (th gD (th eP jU)))))))
 ·rw[aF h0];exact th (rv h0) (th eO jU)
theorem GT(h:nr l r=0):FF l∧uh r=0∧r.length<l.length∧Pt (fm r):=by
 unfold nr at h;by_cases h0:v9 l=0
 ·rw[aC h0]at h;by_cases h1:w6 r=0
  ·rw[aC h1]at h;by_cases h2:l.length≤r.length
   ·rw[aC h2]at h;cases h
   ·obtain⟨a,b,c⟩:=w5 h1;exact⟨GP h0,a,by omega,c⟩
  ·rw[aF h1]at h;exact absurd h h1
 ·rw[aF h0]at h;exact absurd h h0
end
def OM(v:Rat):Bool:=decide (4<tM v.num.natAbs)
def vw(v:Rat):Bool:=decide (8<tM v.num.natAbs)||decide (8<tM v.den)
section
variable {bs:List Blk} {s:LS} {K:D→LS→Rs} {k:D→Rs} {S T:St} {m n a b i kb d:Nat} {x y ex e:Bool} {φ:Nat} {l r:List RQ} {t:Rs} {p q:Rat} {z:RQ} {kk:IntKind} {g h:Row} {cs:List D} {f:D}
theorem MO(hb:bs[kb]?=some ⟨rcs q,.rw⟩):(eX 0 (mem bs) (.ptr kb 0) λx s=>eX 1 s x λy s=>eK s y K)=K (.n q.num.natAbs) (mem bs):=by
 rw[kW,hb,gN];show(eX 1 (mem bs) (.ptr kb 0) λy s=>eK s y K)=_;rw[kW,hb,gN];show(eK (mem bs) (.ptr kb 1) K)=_;exact GC hb rfl rfl
theorem Rb(hb:bs[kb]?=some ⟨rcs q,.rw⟩):(eX 2 (mem bs) (.ptr kb 0) λx s=>eK s x K)=K (.n q.den) (mem bs):=by
 rw[kW,hb,gN];show(eK (mem bs) (.ptr kb 2) K)=_;exact GC hb rfl rfl
theorem yb:kS (.lens (.c (.n m))) s K=K (.i .i64 (.ofNat (tM m))) s:=BB rfl
theorem RZ{w:Bool}{X:D}:(eI (.b w) w (λk=>eX 2 s X k) s λx s=>eI (.b w) w (λk=>eK s x k) s K)=eX 2 s X λa s=>eK s a K:=by cases w<;>rfl
theorem OA(hn:g.length=n)(hs:n<1000000):∀(j i fu:Nat)(bs:List Blk),i+j=n→j<fu→(∀t,t<i→OM (ent g t)=false)→
 lp (λ(_ _ _:D)(_:LS)=>none) (mK φ) fu (.tree (rs g) n e) (.i .i64 (.ofNat n)) (.i .i64 (.ofNat i)) (mem bs)=some (.b (!(g.any OM))):=by
 intro j
 induction j with
 |zero=>
  intro i fu bs hi hf h0;obtain⟨fu,rfl⟩:∃q,fu=q+1:=⟨fu-1,by omega⟩
  have:i=n:=by omega
  subst this;rw[AF (λt ht=>h0 t (by omega)),eM];unfold mK;exact th (gA (bC _)) (th eP sO)
 |succ j ih=>
  intro i fu bs hi hf h0;obtain⟨fu,rfl⟩:∃q,fu=q+1:=⟨fu-1,by omega⟩
  have hb:(bs++[(⟨rcs (ent g i),.rw⟩:Blk)])[bs.length]?=some ⟨rcs (ent g i),.rw⟩:=by simp
  by_cases hP:4<tM (ent g i).num.natAbs
  ·rw[xe (P:=OM) (i:=i) (λt ht _=>h0 t ht) (by omega) (aP hP),eM];unfold mK;exact th (fe (by omega)) (th eO (th (qE hn (by omega)) (th (yE rfl) (th (MO hb) (th yb (th (nU hP) (th eO sO)))))))
  ·have hih:=ih (i+1) fu (bs++[⟨rcs (ent g i),.rw⟩]) (by omega) (by omega) (λt ht=>by
    by_cases e:t=i
    ·subst e;exact aN hP
    ·exact h0 t (by omega))
   rw[eM]
   conv=>lhs;unfold mK
   exact th (fe (by omega)) (th eO (th (qE hn (by omega)) (th (yE rfl) (th (MO hb) (th yb (th (pX hP) (th eP (th (fH (by omega)) hih))))))))
def IW(l:List RQ):Bool:= !(decide (6<l.length))&& !((fm l).any OM)
theorem Zq(hn:l.length=n)(h0:v9 l=0)(hφ:3000000000≤φ):oE φ [.agg [.tree (raw l) n e],.i .i64 (.ofNat 5)]=some (.b (IW l)):=by
 have hF:=LC (φ:=φ) (e:=e) hn hφ;have hff:=GP h0;have hrs:=(v5 hff.hz).1;have h25:=hff.h25;unfold oE IW;dsimp only[eV,eY];rw[←fw];have hb:([]++[(⟨[.tree (raw l) n e],.rw⟩:Blk)])[([]:List Blk).length]?=some ⟨[.tree (raw l) n e],.rw⟩:=rfl;refine th (jf rfl) (th (wj hb) (th fO (th (fH (by omega)) ?_)));rw[hn];by_cases h6:6<n
 ·rw[aP h6];exact th (nU h6) (th iC (th iC (th iC (th fQ (th eO sO)))))
 ·rw[aN h6];refine th (pX h6) (th fg (th (oh hb) (th fg (th (fF hF) (th fg (th (pH h0) (th gD (th eP (th (wj hb) (th fO ?_))))))))));rw[hrs,OA (ll.trans hn) (by omega) n 0 φ _ (by omega) (by omega) (λt ht=>by omega)];rfl
theorem Nz(hn:g.length=n)(hs:n<1000000):∀(j i fu:Nat)(bs:List Blk),i+j=n→j<fu→(∀t,t<i→vw (ent g t)=false)→
 lp (λ(_ _ _:D)(_:LS)=>none) (kY φ) fu (.tree (rs g) n e) (.i .i64 (.ofNat n)) (.i .i64 (.ofNat i)) (mem bs)=some (.b (!(g.any vw))):=by
 intro j
 induction j with
 |zero=>
  intro i fu bs hi hf h0;obtain⟨fu,rfl⟩:∃q,fu=q+1:=⟨fu-1,by omega⟩
  have:i=n:=by omega
  subst this;rw[AF (λt ht=>h0 t (by omega)),eM];unfold kY;exact th (gA (bC _)) (th eP sO)
 |succ j ih=>
  intro i fu bs hi hf h0;obtain⟨fu,rfl⟩:∃q,fu=q+1:=⟨fu-1,by omega⟩
  have hb:(bs++[(⟨rcs (ent g i),.rw⟩:Blk)])[bs.length]?=some ⟨rcs (ent g i),.rw⟩:=by simp
  have pre:∀R,(kv (.i .i64 (.ofNat (tM (ent g i).num.natAbs))) (.i .i64 (.ofNat 8)) λx23=>eI x23 false (λk=>eX 2 (mem (bs++[(⟨rcs (ent g i),.rw⟩:Blk)])) (.ptr bs.length 0) k) (mem (bs++[(⟨rcs (ent g i),.rw⟩:Blk)])) λx24 s=>eI x23 false (λk=>eK s x24 k) s λx25 s=>eI x23 false (λk=>kS (.lens (.c x25)) s k) s λx26 s=>eI x23 false (λk=>kv x26 (.i .i64 (.ofNat 8)) λd=>k d s) s λx27 s=>fY x23 (.b true) x27 s λx28 s=>eQ x28 (eW false s (.b false) some) (eZ (.i .i64 (.ofNat i)) (.i .i64 (.ofNat 1)) λx29=>lp (λ(_ _ _:D)(_:LS)=>none) (kY φ) fu (.tree (rs g) n e) (.i .i64 (.ofNat n)) x29 s))=R→lp (λ(_ _ _:D)(_:LS)=>none) (kY φ) (fu+1) (.tree (rs g) n e) (.i .i64 (.ofNat n)) (.i .i64 (.ofNat i)) (mem bs)=R:=by
   intro R hR;rw[eM]
   conv=>lhs;unfold kY
   exact th (fe (by omega)) (th eO (th (qE hn (by omega)) (th (yE rfl) (th (MO hb) (th yb hR)))))
  by_cases hP:8<tM (ent g i).num.natAbs
  ·rw[xe (P:=vw) (i:=i) (λt ht _=>h0 t ht) (by omega) (by unfold vw;rw[aP hP];rfl)];exact pre _ (th (nU hP) (th iC (th iC (th iC (th iC (th fQ (th eO sO)))))))
  ·by_cases hQ:8<tM (ent g i).den
   ·rw[xe (P:=vw) (i:=i) (λt ht _=>h0 t ht) (by omega) (by unfold vw;rw[aP hQ,Bool.or_true])];exact pre _ (th (pX hP) (th RZ (th (Rb hb) (th fg (th yb (th fg (th (nU hQ) (th gD (th eO sO)))))))))
   ·have hih:=ih (i+1) fu (bs++[⟨rcs (ent g i),.rw⟩]) (by omega) (by omega) (λt ht=>by
     by_cases e:t=i
     ·subst e;unfold vw;rw[aN hP,aN hQ];rfl
     ·exact h0 t (by omega))
    exact pre _ (th (pX hP) (th RZ (th (Rb hb) (th fg (th yb (th fg (th (pX hQ) (th gD (th eP (th (fH (by omega)) hih))))))))))
theorem Wh(hn:r.length=n)(h0:w6 r=0)(hd:n≤d+1)(hd1:d<1000000)(hφ:3000000000≤φ):oH φ [.tree (raw r) n e,.i .i64 (.ofNat d)]=some (.b (!((fm r).any vw))):=by
 have hC:=yY (φ:=φ) (ex:=e) hn hφ;have hrs:=(v5 (w5 h0).1).1;have h65:=(w5 h0).2.1;unfold oH;dsimp only[eV,eY];rw[←fw];refine th fO (th (fH (by omega)) (th (pX (by omega)) (th fg (th fg (th (fF hC) (th fg (th (pH h0) (th gD (th eP (th fO ?_))))))))));rw[hrs];exact Nz (ll.trans hn) (by omega) n 0 φ [] (by omega) (by omega) (λt ht=>by omega)
theorem xA(hn:l.length=n)(hm:r.length=m)(h0:nr l r=0)(hφ:3000000000≤φ):jA φ [.agg [.tree (raw l) n e],.tree (raw r) m ex]=some (.b (!((fm r).any vw))):=by
 have hF:=LC (φ:=φ) (e:=e) hn hφ;obtain⟨hff,hz,hlt,hpt⟩:=GT h0;have h2:=hff.h2;have h25:=hff.h25;have hf0:v9 l=0:=by
  unfold nr at h0;by_cases h:v9 l=0
  ·exact h
  ·rw[aF h]at h0;exact absurd h0 h
 have hp0:w6 r=0:=by
  unfold nr at h0;rw[aC hf0]at h0;by_cases h:w6 r=0
  ·exact h
  ·rw[aF h]at h0;exact absurd h0 h
 have hw:=Wh (φ:=φ) (e:=ex) (d:=n-1) hm hp0 (by omega) (by omega) hφ;unfold jA;dsimp only[eV,eY];rw[←fw];have hb:([]++[(⟨[.tree (raw l) n e],.rw⟩:Blk)])[([]:List Blk).length]?=some ⟨[.tree (raw l) n e],.rw⟩:=rfl;exact th (jf rfl) (th (oh hb) (th (fF hF) (th (oo hf0) (th eo (th eo (th fO (th eo (th (oh hb) (th eo (th (fF (LF (by omega) (by omega))) (th eo (th (Lj (by omega)) (th fQ (th eo (th eo (th (oh hb) (th eo (th (fF (LF (by omega) (by omega))) (th eo (th (fF hw) (th fQ sO)))))))))))))))))))))
theorem ZW{P:Rat→Bool}(h:g.any P=false)(hi:i<g.length):P (ent g i)=false:=by
 rw[z1o]at h;have:=h g[i] (ak hi);rw[Be hi];simpa using this
end
section
variable {l r:List RQ} {g h t:Row} {p q:Rat} {i j m n d D' N' M' J Db Nb:Nat} {a:Row}
theorem KG:∀r:Row,(∀v,v∈r→Lg 64 v.num.natAbs∧Lg 64 v.den)→∃D N,0<D∧Lg (65*r.length) D∧Lg (66*r.length) N∧Hb D N r
 |[],_=>⟨1,0,dA,a9 _,a9 _,λi=>by rw[uf];exact ue⟩
 |v::r,h=>by
  obtain⟨D,N,a,b,c,d⟩:=KG r (λv hv=>h v (by simp[hv]));obtain⟨h1,h2⟩:=h v (by simp);refine⟨D*v.den,N*v.den+v.num.natAbs*D,co a (z1S v.den_nz),?_,?_,λi=>?_⟩
  ·rw[bD,bA];exact fD (jW b h2) (by omega)
  ·rw[bD,bA];have e1:=fD (jW c h2) (show _≤66*r.length+65 by omega);have e2:=fD (jW h1 b) (show _≤66*r.length+65 by omega);exact fD (xI e1 e2) (by omega)
  ·cases i with
   |zero=>
    have:=IK D (MG (x:=v));rw[aK v.den D]at this;exact nS this (by omega)
   |succ i=>exact nS (IK v.den (d i)) (by omega)
theorem SR(h:g.any vw=false):∀v,v∈g→Lg 64 v.num.natAbs∧Lg 64 v.den:=by
 rw[z1o]at h;intro v hv;have h1:=h v hv;unfold vw at h1;by_cases h2:8<tM v.num.natAbs
 ·rw[aP h2]at h1;exact absurd rfl h1
 ·by_cases h3:8<tM v.den
  ·rw[aP h3,Bool.or_true]at h1;exact absurd rfl h1
  ·exact⟨fD (uY (c:=8) (by omega)) (by decide),fD (uY (c:=8) (by omega)) (by decide)⟩
theorem ZO(hf:FF l)(h4:IW l=true)(hlt:r.length<l.length)(h8:(fm r).any vw=false):∃D N,EL (fm l) (fm r) (l.length-1) D N (2^33):=by
 obtain⟨D,N,a,b,c,d⟩:=KG (fm r) (SR h8);have h6:l.length≤6:=by
  unfold IW at h4;by_cases h:6<l.length
  ·rw[aP h]at h4;cases h4
  ·omega
 have hb:(fm l).any OM=false:=by
  unfold IW at h4;rcases px ((fm l).any OM)with h|h
  ·exact h
  ·rw[h,cG,eB]at h4;cases h4
 have h2:=hf.h2;have hrl:(fm r).length≤5:=by rw[ll];omega
 refine⟨D,N,?_,by omega,by omega,λi=>?_,hf.h1,d,by rw[ll];omega,a,fD b (by have:=aT 65 hrl;omega),fD c (by have:=aT 66 hrl;omega),by show Nat.log2 (2^33)≤40;rw[Nat.log2_two_pow];omega⟩
 ·rw[ll];omega
 ·have hd1:=hf.hw i;have hs:(ent (fm l) i).num.natAbs≤2^33:=by
   rcases az i (fm l).length with hi|hi
   ·have:=ZW hb hi;have h5:tM (ent (fm l) i).num.natAbs≤4:=by
     have:¬4<tM (ent (fm l) i).num.natAbs:=of_decide_eq_false this;omega
    have:=Ei (uY (c:=4) h5);omega
   ·rw[gJ hi];exact a9 _
  have:=MG (x:=ent (fm l) i);rw[hd1]at this;exact nS this hs
theorem Y5(hlt:r.length≤5)(h8:(fm r).any vw=false):∃D N,0<D∧Lg 330 D∧Lg 330 N∧Hb D N (fm r):=by
 obtain⟨D,N,a,b,c,d⟩:=KG (fm r) (SR h8);rw[ll]at b c;exact⟨D,N,a,fD b (by have:=aT 65 hlt;omega),fD c (by have:=aT 66 hlt;omega),d⟩
theorem Qg:∀(ca:List Rat)(ra:List Row)(y:Rat)(rp:Row)(cb:List Rat)(rb:List Row),ca.length=ra.length→∀i,lc (ca++y::cb) (ra++rp::rb) i=lc ca ra i+y*ent rp i+lc cb rb i
 |[],[],y,rp,cb,rb,_,i=>by simp only[cI,lc];grind
 |c::ca,s::ra,y,rp,cb,rb,h,i=>by
  show c*ent s i+lc (ca++y::cb) (ra++rp::rb) i=_;rw[Qg ca ra y rp cb rb (by simpa using h)];simp only[lc];grind
def rbP(g a:Row)(d D N M j:Nat):RB:=⟨ent (iY g a j),D^j,pwc d N M^j⟩
theorem QP(h:EL g a d D' N' M'):∀is:List Nat,Lg ((is.map λi=>601*i+1).sum) (pN (is.map (rbP g a d D' N' M')))
 |[]=>a9 _
 |i::is=>by
  have h1:=jW (uv h.lc i) (QP h is);show Lg ((601*i+1)+(is.map λi=>601*i+1).sum) (pwc d N' M'^i*pN (is.map (rbP g a d D' N' M')));exact fD h1 (by omega)
theorem WN(hJ:J≤5):((List.range J).map λi=>601*i+1).sum≤6015:=by
 match J,hJ with
 |0,_=>decide
 |1,_=>decide
 |2,_=>decide
 |3,_=>decide
 |4,_=>decide
 |5,_=>decide
theorem Xe(hJ:J≤5):Lg 6 (KH J):=by
 refine wh ?_
 match J,hJ with
 |0,_=>decide
 |1,_=>decide
 |2,_=>decide
 |3,_=>decide
 |4,_=>decide
 |5,_=>decide
theorem NM(m n:Nat):List.range (m+(n+1))=List.range m++m::(List.range n).map (λi=>m+1+i):=by
 rw[List.range_add,List.range_succ_eq_map,bI,cM];congr 2;exact dS λi _=>by show m+(i+1)=m+1+i;omega
theorem Oj(h:EL g a d D' N' M')(hJ:J≤5){cs:List Rat}(hi:Ind ((List.range J).map (iY g a)))(hl:cs.length=J)(ht:∀i,ent t i=lc cs ((List.range J).map (iY g a)) i)(hT:Hb Db Nb t)(hD0:0<Db)(lD:Lg 330 Db)(lN:Lg 330 Nb):∀c,c∈cs→Lg 8191 c.num.natAbs∧Lg 8191 c.den:=by
 intro c hc;obtain⟨ca,cb,rfl⟩:=z1U hc;rw[ay,bD]at hl;have hJ2:J=ca.length+(cb.length+1):=hl.symm;have hsum:=WN hJ;have hrl:(List.range J)=List.range ca.length++ca.length::(List.range cb.length).map (λi=>ca.length+1+i):=by rw[hJ2,NM]
 rw[hrl]at hi ht hsum;generalize hib:(List.range cb.length).map (λi=>ca.length+1+i)=ib at*;have hibl:ib.length=cb.length:=by rw[←hib];simp
 rw[aW,bI]at hi ht hsum;rw[z2d,List.sum_cons]at hsum;have hok:∀j,(rbP g a d D' N' M' j).ok:=λj i=>Jx (h.hb j) i;have hDne:∀j,(rbP g a d D' N' M' j).D≠0:=λj=>by
  have:=bN (n:=j) h.d0;show D'^j≠0;omega
 have hmem:∀x,x∈(List.range ca.length).map (rbP g a d D' N' M')++rbP g a d D' N' M' ca.length::ib.map (rbP g a d D' N' M')→∃j,x=rbP g a d D' N' M' j:=by
  intro x hx;rcases au.1 hx with hx|hx
  ·obtain⟨j,_,rfl⟩:=av.1 hx;exact⟨j,rfl⟩
  ·rcases bK.1 hx with rfl|hx
   ·exact⟨_,rfl⟩
   ·obtain⟨j,_,rfl⟩:=av.1 hx;exact⟨j,rfl⟩
 have key:=OH (a:=(List.range ca.length).map (rbP g a d D' N' M')) (b:=ib.map (rbP g a d D' N' M')) (p:=rbP g a d D' N' M' ca.length) (T:=⟨ent t,Db,Nb⟩) (ra:=(List.range ca.length).map (iY g a)) (rb:=ib.map (iY g a)) (rp:=iY g a ca.length) (y:=c)
  (by rw[cM,cM];rfl) (by rw[cM,cM];rfl) rfl (λx hx=>by
   obtain⟨j,rfl⟩:=hmem x hx;exact hok j) (λx hx=>by
   obtain⟨j,rfl⟩:=hmem x hx;exact hDne j) (by show Db≠0;omega) hT hi (by
   have h1:=po (vL (B:=(List.range ca.length).map (iY g a)++ib.map (iY g a)) (λr hr=>bi _ hr) (Ek ca ((List.range ca.length).map (iY g a)))) (vL (λr hr=>cN _ hr) (Ek cb (ib.map (iY g a)))) 1;refine h1.of λi=>?_;show _=ent t i-c*ent (iY g a ca.length) i;rw[ht i,Qg ca _ c _ cb _ (by simp)];grind)
 rw[aI,aI,List.length_range,hibl]at key;have hfac:=Xe (J:=ca.length+cb.length+1) (by omega);have hA:=QP h (List.range ca.length++ib);rw[aW,aW,z2d]at hA;have hB:=QP h (List.range ca.length++ca.length::ib);rw[aW,bI,aW,bI,z2d,List.sum_cons]at hB;have hpD:=uv h.lD ca.length;have hj4:(330+1)*ca.length≤(330+1)*4:=aT _ (by omega);refine⟨?_,?_⟩
 ·have h1:=jW (jW hfac (jW hA lN)) hpD;exact fD (qo h1 key.1) (by omega)
 ·have h1:=jW (jW hfac hB) lD;exact fD (qo h1 key.2) (by omega)
end
def Ig(v:Rat):Bool:=decide (1024<tM v.num.natAbs)||decide (1024<tM v.den)
section
variable {bs:List Blk} {s:LS} {K:D→LS→Rs} {k:D→Rs} {m n a b i kb d na nb:Nat} {x y ex ey e ea eb eg:Bool} {φ:Nat} {l r ra rb:List RQ} {t:Rs} {p q:Rat} {kk:IntKind} {g h c:Row} {cs:List D} {f:D}
theorem Wn:pk φ [rc p]=some (.b (Ig p)):=by
 have hb:([]++[(⟨rcs p,.rw⟩:Blk)])[([]:List Blk).length]?=some ⟨rcs p,.rw⟩:=rfl;unfold pk Ig;dsimp only[eV,eY];rw[←fw];refine th (jf rfl) (th (MO hb) (th yb ?_));by_cases hP:1024<tM p.num.natAbs
 ·rw[aP hP];exact th (nU hP) (th iC (th iC (th iC (th iC (th fQ sO)))))
 ·rw[aN hP,z1Z];refine th (pX hP) (th RZ (th (Rb hb) (th fg (th yb (th fg ?_)))));by_cases hQ:1024<tM p.den
  ·rw[aP hQ];exact th (nU hQ) (th gD sO)
  ·rw[aN hQ];exact th (pX hQ) (th gD sO)
theorem Tf(hn:c.length=n)(hs:n<1000000)(hφ:1000000000≤φ):qd φ [.tree (rs c) n e]=some (.b (c.any Ig)):=by
 unfold qd;dsimp only[eV,eY];exact th (E5 (P:=Ig) (f:=.fn 43 []) (λv s F=>by
  show eS (pk φ) [rc v] s F=_;exact jk Wn rfl) hn hs hφ) sO
theorem Pr(hn:c.length=n)(hs:n<1000000)(hc:c.any Ig=false)(hφ:1000000000≤φ):tY φ [.tree [.tree (rs c) n e] 1 ex]=some (.b false):=by
 obtain⟨ψ,hψ⟩:∃ψ,φ=ψ+2:=⟨φ-2,by omega⟩
 have h1:=Tf (φ:=φ) (e:=e) hn hs hφ;have hd:∀F:D→LS→Rs,ug (ee φ) false (.fn 48 []) [.tree (rs c) n e] s0 F=F (.b false) s0:=λF=>by
  show eS (qd φ) [.tree (rs c) n e] s0 F=_;rw[hc]at h1;exact fF h1
 unfold tY gq iQ;dsimp only[eV,eY];refine th fO ?_;have key:∀(F:D→LS→Rs)(f1:Nat),lp (λ(_ _ _ _:D)(_:LS)=>none) (jR φ F) (f1+2) (.tree [.tree (rs c) n e] 1 ex) (.fn 48 []) (.i .i64 (.ofNat 1)) (.i .i64 (.ofNat 0)) s0=F (.i .i64 (.negSucc 0)) s0:=by
  intro F f1;rw[eM];unfold jR;refine th (fe (by omega)) (th eO (th (yL (d:=.tree (rs c) n e) rfl rfl) ((hd _).trans (th eP (th (fH (by omega)) ?_)))));rw[eM];exact th (gA (by omega)) eP
 have hk:=key (λx3 s=>kI x3 (.i .i64 (.ofNat 0)) λx4=>eW false s x4 some) ψ;rw[←hψ]at hk;exact hk.trans (th uB sO)
theorem YB{z d1 d2:D}(h1:kP d1=[d1])(h2:kP d2=[d2])(o1:one d1=true)(o2:one d2=true):ie 2 [z] [(0,1,d1),(1,1,d2)] (mem bs) K=K (.sl bs.length 0 2 2 1 true) (mem (bs++[⟨[d1,d2],.rw⟩])):=by
 show(IV [(0,1,d1),(1,1,d2)] [z,z] λcs=>frc ([z]:List D).length λz=>lP (mem bs) ⟨cs,.rw⟩ λs'=>K (.sl (mem bs).nx 0 2 2 z true) s')=_;show(vcK d1 λnew=>cnd (Nat.beq new.length 1) (qS new (v6 0 new [z,z] λcs=>vcK d2 λnew=>cnd (Nat.beq new.length 1) (qS new (v6 1 new cs λcs=>frc ([z]:List D).length λz=>lP (mem bs) ⟨cs,.rw⟩ λs'=>K (.sl (mem bs).nx 0 2 2 z true) s')) none)) none)=_;rw[wG,h1];show qS [d1] _=_;rw[py (by simp[o1]),nj];show(ob (some [d1,z]) _)=_;rw[gN,wG,h2];show qS [d2] _=_;rw[py (by simp[o2]),nj];show(ob (some [d1,d2]) _)=_;rw[gN,fB,kB,jQ];rfl
theorem Lz{M:List D→Option D}{v:D}{z:Nat}(hb:bs[kb]?=some ⟨cs,.rw⟩)(hf:∀F:List D→List Nat→Rs,mg (iX (mem bs) 59) cs F=F cs [])(hn:cs.length=n*z)(hM:M [.tree cs n true]=some v)(hfv:sW v=true):eS M [.sl kb 0 n n z true] (mem bs) K=K v (mem bs):=by
 show(jL (mem bs) kb λb=>cnd (lv b.st) (jN 0 b.cs λr=>iw (Nat.mul n z) r λr=>mg (iX (mem bs) 59) r λcs ls=>my (cnd true (Nat.beq n n) false) λex=>ki (kb::ls) [] λab=>ob (M [.tree cs n ex]) λr=>iz (mem bs) ab r K) none)=_;rw[gg hb,rN,show(⟨cs,.rw⟩:Blk).st.live=true from rfl,eL,gE,am,gu,show Nat.mul n z=n*z from rfl,aC (by show n*z≤cs.length;omega),aM (by show cs.length≤n*z;omega),hf,eL,ei,ij,gL,hM,gN];unfold iz;rw[kx,hfv];rfl
theorem CU{cs:List D}{v:Int}:eW false s (.tup [.tree cs n e,.i kk v]) some=some (.tup [.tree cs n e,.i kk v]):=by
 unfold eW;rw[kx];show uO (mT false s.get fj (.tup [.tree cs n e,.i kk v])) some=_;rw[show mT false s.get fj (.tup [.tree cs n e,.i kk v])=some (.tup [.tree cs n e,.i kk v])from rfl,gV];rfl
def Dz(x y:Nat):Nat:=if x=0 then y else x
theorem Wg:lO φ [.tree [.i .i64 (.ofNat a),.i .i64 (.ofNat b)] 2 true]=some (.i .i64 (.ofNat (Dz a b)))∨φ<3:=by
 rcases az φ 3 with h|h
 ·exact Or.inr h
 ·left;obtain⟨ψ,rfl⟩:∃ψ,φ=ψ+3:=⟨φ-3,by omega⟩
  unfold lO Dz;dsimp only[eV,eY];refine th fO ?_;rw[eM];unfold se;refine th (fe (by omega)) (th eO (th (yL (d:=.i .i64 (.ofNat a)) rfl rfl) ?_));by_cases ha:a=0
  ·rw[aC ha];refine th (pH ha) (th eP (th (fH (by omega)) ?_));rw[eM];refine th (fe (by omega)) (th eO (th (yL (d:=.i .i64 (.ofNat b)) rfl rfl) ?_));by_cases hb:b=0
   ·rw[hb];refine th (pH rfl) (th eP (th (fH (by omega)) ?_));rw[eM];exact th (gA (by omega)) (th eP jU)
   ·exact th (rv hb) (th eO jU)
  ·rw[aF ha];exact th (rv ha) (th eO jU)
theorem MN(h:nr l r=0):v9 l=0:=by
 unfold nr at h;by_cases h0:v9 l=0
 ·exact h0
 ·rw[aF h0]at h;exact absurd h h0
theorem Pz(hn:l.length=n)(ha:ra.length=na)(hb:rb.length=nb)(he:Dz (nr l ra) (nr l rb)≠0)(hφ:3000000000≤φ):jE φ [.agg [.tree (raw l) n e],.tree (raw ra) na ea,.tree (raw rb) nb eb]=some (.tup [.tree [] 0 true,.i .i64 (.ofNat (Dz (nr l ra) (nr l rb)))]):=by
 obtain⟨ψ,hψ⟩:∃ψ,φ=ψ+3:=⟨φ-3,by omega⟩
 have hF:=Px (φ:=φ) (e:=e) hn hφ;have hA:=zU (φ:=φ) (e:=e) (ex:=ea) hn ha hφ;have hB:=zU (φ:=φ) (e:=e) (ex:=eb) hn hb hφ;have hb0:([]++[(⟨[.tree (raw l) n e],.rw⟩:Blk)])[([]:List Blk).length]?=some ⟨[.tree (raw l) n e],.rw⟩:=rfl;unfold jE;dsimp only[eV,eY];rw[←fw];refine th (jf rfl) (th (oh hb0) (th (fF hF) ?_));by_cases h0:v9 l=0
 ·have hb2:(([]++[(⟨[.tree (raw l) n e],.rw⟩:Blk)])++[(⟨[.tree (raw ra) na ea,.tree (raw rb) nb eb],.rw⟩:Blk)])[([]:List Blk).length]?=some ⟨[.tree (raw l) n e],.rw⟩:=rfl;have hb3:(([]++[(⟨[.tree (raw l) n e],.rw⟩:Blk)])++[(⟨[.tree (raw ra) na ea,.tree (raw rb) nb eb],.rw⟩:Blk)])[1]?=some ⟨[.tree (raw ra) na ea,.tree (raw rb) nb eb],.rw⟩:=rfl;refine th (pH h0) (th eP (th (YB rfl rfl rfl rfl) (th mX ?_)));rw[hψ,eM,←hψ];unfold rJ;refine th (fe (by omega)) (th eO (th (CJ (d:=.tree (raw ra) na ea) hb3 rfl rfl (by omega)) (th (oh hb2) (th (fF hA) ?_))));by_cases h1:nr l ra=0
  ·have e1:Dz (nr l ra) (nr l rb)=nr l rb:=aC h1;rw[e1]at he ⊢;refine th (pH h1) (th eP (th (fH (by omega)) ?_));rw[eM];exact th (fe (by omega)) (th eO (th (CJ (d:=.tree (raw rb) nb eb) hb3 rfl rfl (by omega)) (th (oh hb2) (th (fF hB) (th (rv he) (th eO CU))))))
  ·have e1:Dz (nr l ra) (nr l rb)=nr l ra:=aF h1;rw[e1];exact th (rv h1) (th eO CU)
 ·have e2:nr l ra=v9 l:=by unfold nr;rw[aF h0]
  have e1:Dz (nr l ra) (nr l rb)=v9 l:=by rw[e2];exact aF h0
  rw[e1];exact th (rv h0) (th eO CU)
theorem Tg(hn:l.length=n)(ha:ra.length=na)(hb:rb.length=nb)(h1:nr l ra=0)(h2:nr l rb=0)(hφ:3000000000≤φ):
 (kL φ [.tree (raw l) n e,.tree (raw ra) na ea,.tree (raw rb) nb eb]=some (.tup [.tree [] 0 true,.b false])→jE φ [.agg [.tree (raw l) n e],.tree (raw ra) na ea,.tree (raw rb) nb eb]=some (.tup [.tree [] 0 true,.i .i64 (.ofNat 10)]))∧
 (∀(c:Row)(ec:Bool),c.length<1000000→c.any Ig=false→kL φ [.tree (raw l) n e,.tree (raw ra) na ea,.tree (raw rb) nb eb]=some (.tup [.tree (rs c) c.length ec,.b true])→jE φ [.agg [.tree (raw l) n e],.tree (raw ra) na ea,.tree (raw rb) nb eb]=some (.tup [.tree (rs c) c.length ec,.i .i64 (.ofNat 0)])):=by
 obtain⟨ψ,hψ⟩:∃ψ,φ=ψ+3:=⟨φ-3,by omega⟩
 have hF:=Px (φ:=φ) (e:=e) hn hφ;have hA:=zU (φ:=φ) (e:=e) (ex:=ea) hn ha hφ;have hB:=zU (φ:=φ) (e:=e) (ex:=eb) hn hb hφ;have h0:=MN h1;have hb0:([]++[(⟨[.tree (raw l) n e],.rw⟩:Blk)])[([]:List Blk).length]?=some ⟨[.tree (raw l) n e],.rw⟩:=rfl;have hb2:(([]++[(⟨[.tree (raw l) n e],.rw⟩:Blk)])++[(⟨[.tree (raw ra) na ea,.tree (raw rb) nb eb],.rw⟩:Blk)])[([]:List Blk).length]?=some ⟨[.tree (raw l) n e],.rw⟩:=rfl;have hb3:(([]++[(⟨[.tree (raw l) n e],.rw⟩:Blk)])++[(⟨[.tree (raw ra) na ea,.tree (raw rb) nb eb],.rw⟩:Blk)])[1]?=some ⟨[.tree (raw ra) na ea,.tree (raw rb) nb eb],.rw⟩:=rfl;have pre:∀R,(eS (kL φ) [.tree (raw l) n e,.tree (raw ra) na ea,.tree (raw rb) nb eb] (mem (([]++[(⟨[.tree (raw l) n e],.rw⟩:Blk)])++[(⟨[.tree (raw ra) na ea,.tree (raw rb) nb eb],.rw⟩:Blk)])) λx26 s=>fh x26 0 s λx27 s=>fh x26 1 s λx28 s=>qP x28 s λx29 s=>eQ x29 (eW false s (.tup [(.tree [] 0 true),(.i .i64 (.ofNat 10))]) some) (ie 1 [(.tree [] 0 true)] [(0,1,x27)] s λx30 s=>eS (tY φ) [x30] s λx31 s=>eQ x31 (eW false s (.tup [(.tree [] 0 true),(.i .i64 (.ofNat 4))]) some) (eW false s (.tup [x27,(.i .i64 (.ofNat 0))]) some)))=R→jE φ [.agg [.tree (raw l) n e],.tree (raw ra) na ea,.tree (raw rb) nb eb]=R:=by
  intro R hR;unfold jE;dsimp only[eV,eY];rw[←fw];refine th (jf rfl) (th (oh hb0) (th (fF hF) (th (pH h0) (th eP (th (YB rfl rfl rfl rfl) (th mX ?_))))));rw[hψ,eM,←hψ];unfold rJ;refine th (fe (by omega)) (th eO (th (CJ (d:=.tree (raw ra) na ea) hb3 rfl rfl (by omega)) (th (oh hb2) (th (fF hA) (th (pH h1) (th eP (th (fH (by omega)) ?_)))))));rw[eM];refine th (fe (by omega)) (th eO (th (CJ (d:=.tree (raw rb) nb eb) hb3 rfl rfl (by omega)) (th (oh hb2) (th (fF hB) (th (pH h2) (th eP (th (fH (by omega)) ?_)))))));rw[eM];exact th (gA (by omega)) (th eP (th (wj hb2) hR))
 constructor
 ·intro hx;exact pre _ (th (fF hx) (th iO (th iN (th tL (th eO CU)))))
 ·intro c ec hc hk hx;have hL:=Pr (φ:=φ) (e:=ec) (ex:=true) (c:=c) rfl hc hk (by omega);refine pre _ (th (fF hx) (th iO (th iN (th tL (th eP (th (SM (x:=.tree (rs c) c.length ec) (new:=[.tree (rs c) c.length ec]) (z:=1) rfl rfl rfl rfl) ?_))))));refine th (Lz (z:=1) (n:=1) (cs:=[.tree (rs c) c.length ec]) (by simp) (λF=>rfl) rfl hL rfl) ?_;exact th eP CU
theorem Mz(hn:c.length=n)(hs:n<1000000):∀(j i fu:Nat),i+j=n→j<fu→
 lp (λ(_ _ _ _:D)(_:LS)=>none) (nT φ) fu (.tree (rs c) n ex) (.tree (rs c) n ey) (.i .i64 (.ofNat n)) (.i .i64 (.ofNat i)) s=some (.b true):=by
 intro j
 induction j with
 |zero=>
  intro i fu hi hf;obtain⟨fu,rfl⟩:∃q,fu=q+1:=⟨fu-1,by omega⟩
  rw[eM];unfold nT;exact th (gA (by omega)) (th eP sO)
 |succ j ih=>
  intro i fu hi hf;obtain⟨fu,rfl⟩:∃q,fu=q+1:=⟨fu-1,by omega⟩
  have hih:=ih (i+1) fu (by omega) (by omega);rw[eM]
  conv=>lhs;unfold nT
  refine th (fe (by omega)) (th eO (th (qE hn (by omega)) (th (qE hn (by omega)) (th KJ ?_))));rw[aP rfl];exact th eP (th (fH (by omega)) hih)
theorem Y8(hn:c.length=n)(hs:n<1000000)(hφ:1000000000≤φ):mB φ [.tree (rs c) n ex,.tree (rs c) n ey]=some (.b true):=by
 unfold mB;dsimp only[eV,eY];exact th fO (th fO (th (pH rfl) (th eP (th fO (Mz hn hs n 0 φ (by omega) (by omega))))))
end
section
variable {bs:List Blk} {s:LS} {K:D→LS→Rs} {k:D→Rs} {m n a b i kb d na nb D' N' M' J:Nat} {x y ex ey e ea eb eg:Bool} {φ:Nat} {l r ra rb:List RQ} {t:Rs} {p q:Rat} {kk:IntKind} {g h c:Row} {cs:List D} {f:D} {aw:Nat→List D→Option D}
theorem GQ(hl:FF l)(h4:IW l=true)(ha:ra.length<l.length)(h8:(fm ra).any vw=false)(hb:rb.length<l.length)(hb8:(fm rb).any vw=false)(hφ:3000000000≤φ):
 (∃(c:Row)(e1 e2:Bool),c.length<1000000∧c.any Ig=false∧
  kL φ [.tree (rs (fm l)) l.length e,.tree (rs (fm ra)) ra.length ea,.tree (rs (fm rb)) rb.length eb]=some (.tup [.tree (rs c) c.length e1,.b true])∧
  ga φ [fld (fm l) e,.tree (rs (fm ra)) ra.length ea,.tree (rs (fm rb)) rb.length eb]=some (.tup [.tree (rs c) c.length e2,.b true]))∨
 (kL φ [.tree (rs (fm l)) l.length e,.tree (rs (fm ra)) ra.length ea,.tree (rs (fm rb)) rb.length eb]=some (.tup [.tree [] 0 true,.b false])∧
  ga φ [fld (fm l) e,.tree (rs (fm ra)) ra.length ea,.tree (rs (fm rb)) rb.length eb]=some (.tup [.tree [] 0 true,.b false])):=by
 have h2:=hl.h2;obtain⟨D,N,hE⟩:=ZO hl h4 ha h8;have hd5:=hE.hd5;obtain⟨J,hJd,hJ⟩:=ZM hE;obtain⟨Db,Nb,b0,b1,b2,b3⟩:=Y5 (r:=rb) (by omega) hb8;have hbt:Hb Db Nb (lst (l.length-1) (ent (fm rb))):=Jx b3;have hbr:RH 5000 (lst (l.length-1) (ent (fm rb))):=⟨Db,Nb,b0,fD b1 (by decide),fD b2 (by decide),hbt⟩
 have hll:(fm l).length=l.length:=ll;have hla:(fm ra).length=ra.length:=ll;have hlb:(fm rb).length=rb.length:=ll;obtain⟨q1,q2⟩:=Py (φ:=φ) (b:=fm rb) (eg:=e) (ea:=ea) (eb:=eb) hE (by omega) hbr hφ hJ hJd;obtain⟨r1,r2⟩:=Pg (φ:=φ) (b:=fm rb) (eg:=e) (ea:=ea) (eb:=eb) hE (by omega) hJ hJd hbr;rw[show l.length-1+1=l.length by omega,hla,hlb]at q1 q2;rw[hla,hlb]at r1 r2;by_cases hs:Sp ((List.range J).map (iY (fm l) (fm ra))) (ent (lst (l.length-1) (ent (fm rb))))
 ·left;obtain⟨cs,e1,c1,c2,c3⟩:=q1 hs;obtain⟨e2,c4⟩:=r1 hs;have hrl:∀r,r∈(List.range J).map (iY (fm l) (fm ra))→r.length=l.length-1:=λr hr=>by
   obtain⟨j,_,rfl⟩:=av.1 hr;exact sQ hE j
  have hind:=QG (iY (fm l) (fm ra)) J hJ.2;have hsol:∀i,ent (lst (l.length-1) (ent (fm rb))) i=lc (wl (l.length-1) ((List.range J).map (iY (fm l) (fm ra))) (lst (l.length-1) (ent (fm rb)))) ((List.range J).map (iY (fm l) (fm ra))) i:=λi=>Gw hrl gp ((EP hrl gp).2 hs) i;have heq:cs=wl (l.length-1) ((List.range J).map (iY (fm l) (fm ra))) (lst (l.length-1) (ent (fm rb))):=RL hind (by simp[c1]) (by rw[CG]) λi=>by rw[←c2 i];exact hsol i
  rw[←heq]at c4;have hsz:=Oj hE (by omega) hind c1 c2 hbt b0 b1 b2;refine⟨fG cs,e1,e2,by have:=nV cs;omega,?_,c3,c4⟩;rw[z1o];intro v hv;have hvm:v=0∨v∈cs:=by
   obtain⟨j,hj,rfl⟩:=cE.1 hv;rw[←Be hj,mU];rcases az j cs.length with h5|h5
   ·right;rw[Be h5];exact ak h5
   ·left;exact gJ h5
  have hv2:Lg 8191 v.num.natAbs∧Lg 8191 v.den:=by
   rcases hvm with rfl|hvm
   ·exact⟨a9 _,a9 _⟩
   ·exact hsz v hvm
  have g1:=Li (c:=1023) hv2.1;have g2:=Li (c:=1023) hv2.2;unfold Ig;rw[aN (by omega),aN (by omega)];decide
 ·right;exact⟨q2 hs,r2 hs⟩
theorem GB(hn:l.length=n)(ha:ra.length=na)(hb:rb.length=nb)(hφ:3000000000≤φ)(hA:∀(s:LS)(K:D→LS→Rs),eS (aw φ) [] s K=K (.b true) s):
 mQ aw φ [.agg [.tree (raw l) n e],.tree (raw ra) na ea,.tree (raw rb) nb eb]=some (.b true):=by
 have hF:=LC (φ:=φ) (e:=e) hn hφ;have hEa:=HP (φ:=φ) (e:=e) (ex:=ea) hn ha hφ;have hEb:=HP (φ:=φ) (e:=e) (ex:=eb) hn hb hφ;have hb0:([]++[(⟨[.tree (raw l) n e],.rw⟩:Blk)])[([]:List Blk).length]?=some ⟨[.tree (raw l) n e],.rw⟩:=rfl;have hlast:∀s,(eS (aw φ) [] s λx36 s=>eW false s x36 some)=some (.b true):=λs=>(hA _ _).trans sO;have main:(v9 l=0→IW l=true∧(nr l ra=0→(fm ra).any vw=false)∧(nr l rb=0→(fm rb).any vw=false))→
  (eT 1 (mem ([]++[(⟨[.tree (raw l) n e],.rw⟩:Blk)])) (.ptr ([]:List Blk).length 0) λx37 s=>eS (gb φ) [x37,.tree (raw ra) na ea] s λx38 s=>eT 1 s (.ptr ([]:List Blk).length 0) λx39 s=>eS (gb φ) [x39,.tree (raw rb) nb eb] s λx40 s=>ie 2 [(.i .i64 (.ofNat 0))] [(0,1,x38),(1,1,x40)] s λx41 s=>eS (lO φ) [x41] s λx42 s=>eT 1 s (.ptr ([]:List Blk).length 0) λx43 s=>eS (jE φ) [x43,.tree (raw ra) na ea,.tree (raw rb) nb eb] s λx44 s=>fh x44 0 s λx45 s=>fh x44 1 s λx46 s=>nC x42 (.i .i64 (.ofNat 0)) λx47=>eQ x47
   (iB x46 x42 λx48=>eI x48 true (λk=>k x45 s) s λx49 s=>eI x48 true (λk=>ek x49 s k) s λx50 s=>eI x48 true (λk=>iB x50 (.i .i64 (.ofNat 0)) λd=>k d s) s λx51 s=>fY x48 x51 (.b false) s λx52 s=>eI x52 true (λk=>eS (aw φ) [] s k) s λx53 s=>fY x52 x53 (.b false) s λx54 s=>eW false s x54 some)
   (eT 1 s (.ptr ([]:List Blk).length 0) λx55 s=>eS (ga φ) [x55,.tree (raw ra) na ea,.tree (raw rb) nb eb] s λx56 s=>fh x56 0 s λx57 s=>fh x56 1 s λx58 s=>qP x58 s λx59 s=>eQ x59
    (iB x46 (.i .i64 (.ofNat 10)) λx60=>eI x60 true (λk=>k x45 s) s λx61 s=>eI x60 true (λk=>ek x61 s k) s λx62 s=>eI x60 true (λk=>iB x62 (.i .i64 (.ofNat 0)) λd=>k d s) s λx63 s=>fY x60 x63 (.b false) s λx64 s=>eI x64 true (λk=>eS (aw φ) [] s k) s λx65 s=>fY x64 x65 (.b false) s λx66 s=>eW false s x66 some)
    (iB x46 (.i .i64 (.ofNat 0)) λx67=>eI x67 true (λk=>k x45 s) s λx68 s=>eI x67 true (λk=>k x57 s) s λx69 s=>eI x67 true (λk=>eS (mB φ) [x68,x69] s k) s λx70 s=>fY x67 x70 (.b false) s λx71 s=>eI x71 true (λk=>eS (aw φ) [] s k) s λx72 s=>fY x71 x72 (.b false) s λx73 s=>eW false s x73 some)))=some (.b true):=by
  intro hg;have hb1:(([]++[(⟨[.tree (raw l) n e],.rw⟩:Blk)])++[(⟨[.i .i64 (.ofNat (nr l ra)),.i .i64 (.ofNat (nr l rb))],.rw⟩:Blk)])[([]:List Blk).length]?=some ⟨[.tree (raw l) n e],.rw⟩:=rfl;have hfi:=(Wg (φ:=φ) (a:=nr l ra) (b:=nr l rb)).resolve_right (by omega);refine th (oh hb0) (th (fF hEa) (th (oh hb0) (th (fF hEb) (th (YB rfl rfl rfl rfl) (th (Lz (z:=1) (n:=2) (cs:=[.i .i64 (.ofNat (nr l ra)),.i .i64 (.ofNat (nr l rb))]) rfl (λF=>rfl) rfl hfi rfl) (th (oh hb1) ?_))))));by_cases he:Dz (nr l ra) (nr l rb)=0
  ·have h1:nr l ra=0:=by
    unfold Dz at he;by_cases h:nr l ra=0
    ·exact h
    ·rw[aF h]at he;exact he
   have h2:nr l rb=0:=by
    unfold Dz at he;rw[aC h1]at he;exact he
   obtain⟨g1,g2,g3⟩:=hg (MN h1);obtain⟨hff,za,la,_⟩:=GT h1;obtain⟨_,zb,lb,_⟩:=GT h2;have el:=(v5 hff.hz).1;have ea':=(v5 za).1;have eb':=(v5 zb).1;have hlr:(fm l).length=n:=ll.trans hn;obtain⟨x1,x2⟩:=Tg (φ:=φ) (e:=e) (ea:=ea) (eb:=eb) hn ha hb h1 h2 hφ;have both:=GQ (φ:=φ) (e:=e) (ea:=ea) (eb:=eb) hff g1 la (g2 h1) lb (g3 h2) hφ;rw[←el,←ea',←eb',hn,ha,hb]at both;unfold fld at both;rw[←el,hlr]at both;rcases both with⟨c,e1,e2,c1,c2,c3,c4⟩|⟨c3,c4⟩
   ·have hx:=x2 c e1 c1 c2 c3;have hs:=Y8 (φ:=φ) (ex:=e1) (ey:=e2) (c:=c) rfl c1 (by omega);refine th (fF hx) (th iO (th iN (th (pH he) (th eP (th (oh hb1) (th (fF c4) (th iO (th iN (th tL (th eP (th (oo rfl) (th eo (th eo (th eo (th (fF hs) (th fQ (th eo ((hA _ _).trans (th fQ sO)))))))))))))))))))
   ·have hx:=x1 c3;refine th (fF hx) (th iO (th iN (th (pH he) (th eP (th (oh hb1) (th (fF c4) (th iO (th iN (th tL (th eO (th (oo rfl) (th eo (th eo (th fO (th eo (th (oo rfl) (th fQ (th eo ((hA _ _).trans (th fQ sO))))))))))))))))))))
  ·have hx:=Pz (φ:=φ) (e:=e) (ea:=ea) (eb:=eb) hn ha hb he hφ;refine th (fF hx) (th iO (th iN (th (rv he) (th eO (th (oo rfl) (th eo (th eo (th fO (th eo (th (oo rfl) (th fQ (th eo ((hA _ _).trans (th fQ sO))))))))))))))
 unfold mQ;dsimp only[eV,eY];rw[←fw];refine th (jf rfl) (th (oh hb0) (th (fF hF) ?_));by_cases h0:v9 l=0
 ·have hW:=Zq (φ:=φ) (e:=e) hn h0 hφ;refine th (oo h0) (th eo (th (oh hb0) (th eo (th (fF hW) (th eo (th tL (th eo ?_)))))));rcases px (IW l)with h4|h4
  ·rw[h4];exact th iC (th iC (th iC (th iC (th iC (th mS (th mS (th mS (th mS (th iC (th eo (th fQ (th eo (th iC (th iC (th iC (th iC (th iC (th mS (th mS (th mS (th mS (th iC (th eo (th fQ (th fQ (th eO (hlast _)))))))))))))))))))))))))))
  ·rw[h4];refine th fg (th (oh hb0) (th fg (th fg (th (fF hEa) (th fg ?_)))));by_cases h1:nr l ra=0
   ·have hWa:=xA (φ:=φ) (e:=e) (ex:=ea) hn ha h1 hφ;refine th (oo h1) (th fg (th eo (th (oh hb0) (th eo (th eo (th (fF hWa) (th eo (th tL (th fg (th fQ (th eo (th gD (th eo ?_)))))))))))));rcases px ((fm ra).any vw)with h8|h8
    ·rw[h8];refine th fg (th (oh hb0) (th fg (th fg (th (fF hEb) (th fg ?_)))));by_cases h2:nr l rb=0
     ·have hWb:=xA (φ:=φ) (e:=e) (ex:=eb) hn hb h2 hφ;refine th (oo h2) (th fg (th eo (th (oh hb0) (th eo (th eo (th (fF hWb) (th eo (th tL (th fg (th fQ (th eo (th gD (th fQ ?_)))))))))))));rcases px ((fm rb).any vw)with h9|h9
      ·rw[h9];exact th eP (main λ_=>⟨h4,λ_=>h8,λ_=>h9⟩)
      ·rw[h9];exact th eO (hlast _)
     ·exact th (sD h2) (th fg (th fX (th fX (th fX (th fX (th fg (th gD (th eo (th gD (th fQ (th eP (main λ_=>⟨h4,λ_=>h8,λh=>absurd h h2⟩))))))))))))
    ·rw[h8];exact th iC (th iC (th iC (th iC (th iC (th mS (th mS (th mS (th mS (th iC (th eo (th fQ (th fQ (th eO (hlast _))))))))))))))
   ·refine th (sD h1) (th fg (th fX (th fX (th fX (th fX (th fg (th gD (th eo (th gD (th eo ?_))))))))));refine th fg (th (oh hb0) (th fg (th fg (th (fF hEb) (th fg ?_)))));by_cases h2:nr l rb=0
    ·have hWb:=xA (φ:=φ) (e:=e) (ex:=eb) hn hb h2 hφ;refine th (oo h2) (th fg (th eo (th (oh hb0) (th eo (th eo (th (fF hWb) (th eo (th tL (th fg (th fQ (th eo (th gD (th fQ ?_)))))))))))));rcases px ((fm rb).any vw)with h9|h9
     ·rw[h9];exact th eP (main λ_=>⟨h4,λh=>absurd h h1,λ_=>h9⟩)
     ·rw[h9];exact th eO (hlast _)
    ·exact th (sD h2) (th fg (th fX (th fX (th fX (th fX (th fg (th gD (th eo (th gD (th fQ (th eP (main λ_=>⟨h4,λh=>absurd h h1,λh=>absurd h h2⟩))))))))))))
 ·exact th (sD h0) (th fX (th fX (th fX (th fX (th mS (th mS (th mS (th mS (th mS (th mS (th mS (th mS (th mS (th mS (th fX (th fX (th mS (th mS (th mS (th mS (th mS (th mS (th mS (th mS (th mS (th mS (th fX (th gD (th eP (main λh=>absurd h h0))))))))))))))))))))))))))))))
end
section
variable {im:Nat→Option Nat} {P:Program} {w w':World} {okp:Nat→Nat→Prop} {H:Type} {enc:TypeId×Value→H} {spare:Nat→Bool} {held:Bool}
theorem Oh(s:ByteArray):∃S:St,TR im w okp S.d (.string s):=by
 obtain⟨⟨l⟩⟩:=s;by_cases h0:∃r,l=0::r
 ·obtain⟨r,rfl⟩:=h0;exact⟨.bad r,by show TR im w okp (.s (0::r)) _;simp[TR]⟩
 ·refine⟨.ok (ej l 0),?_⟩;have hb:ep (ej l 0)=l:=by
   have:=(u6 l.length l (ej l 0) [] rfl (λc r h hc=>h0 ⟨r,by
    rw[h];have:c=0:=UInt8.toNat_inj.1 hc;rw[this]⟩) (aE _)).1
   rw[ba]at this;exact this
  show TR im w okp (.n (ej l 0)) _;simp[TR,hb]
def R3(im:Nat→Option Nat)(w:World)(okp:Nat→Nat→Prop)(b o:Nat)(q:RQ):Prop:=
 (∃v,w.cell? ⟨b,o,none⟩=some v∧TR im w okp (.b q.1) v)∧(∃v,w.cell? ⟨b,o+1,none⟩=some v∧TR im w okp q.2.1.d v)∧(∃v,w.cell? ⟨b,o+1+1,none⟩=some v∧TR im w okp q.2.2.d v)
theorem PP{b:Nat}:∀(n o:Nat),(∀i,i<n→∃q,R3 im w okp b (o+i*3) q)→∃l:List RQ,l.length=n∧TRc im w okp (raw l) b o
 |0,o,_=>⟨[],rfl,by simp[raw,TRc]⟩
 |n+1,o,h=>by
  obtain⟨q,h1,h2,h3⟩:=h 0 (by omega);rw[bT,bH]at h1 h2 h3;obtain⟨l,hl,ht⟩:=PP n (o+3) (λi hi=>by
   obtain⟨q,hq⟩:=h (i+1) (by omega);refine⟨q,?_⟩;have e:o+(i+1)*3=o+3+i*3:=by omega
   rw[e]at hq;exact hq)
  refine⟨q::l,by simp[hl],?_⟩;simp only[raw,TRc];exact⟨h1,h2,h3,ht⟩
structure QT (P:Program) (tq tz tn tb:TypeId) (f1 f2 g1 g2:Field):Prop where
 uq:P.underlying tq=some (.struct #[f1,f2])
 t1:f1.type=tz
 o1:f1.offset=0
 t2:f2.type=tn
 o2:f2.offset=2
 uz:P.underlying tz=some (.struct #[g1,g2])
 s1:g1.type=tb
 p1:g1.offset=0
 s2:g2.type=tn
 p2:g2.offset=1
 un:P.underlying tn=some .string
 ub:P.underlying tb=some .bool
 cq:P.cellsOf tq=3
 cz:P.cellsOf tz=2
 cn:P.cellsOf tn=1
 cb:P.cellsOf tb=1
variable {tq tz tn tb ts tf:TypeId} {f1 f2 g1 g2 fp:Field}
theorem WI(h:QT P tq tz tn tb f1 f2 g1 g2){base fuel:Nat}{cs:List Value}{x:DataW H×List MemPlace}(hx:DataW.trod enc P w base spare held fuel tq cs=some x):
 ∃(v1 v2 v3:Value)(q:RQ),cs=[v1,v2,v3]∧TR im w okp (.b q.1) v1∧TR im w okp q.2.1.d v2∧TR im w okp q.2.2.d v3:=by
 obtain⟨xs,n,_,_,hl,hxl,hf⟩:=DataW.trod_struct h.uq hx;rw[h.cq]at hl
 match cs,hl with
 |[v1,v2,v3],_=>
  have hxl2:xs.length=2:=hxl;have e1:=hf 0 f1 rfl;have e2:=hf 1 f2 rfl;rw[h.t1,h.o1,h.cz]at e1;rw[h.t2,h.o2,h.cn]at e2;have g0:xs[0]?=some (xs[0]'(by omega)):=aB (by omega);have g1':xs[1]?=some (xs[1]'(by omega)):=aB (by omega);rw[g0]at e1;rw[g1']at e2;obtain⟨ys,m,_,_,_,hyl,hg⟩:=DataW.trod_struct h.uz e1;have hyl2:ys.length=2:=hyl;have a1:=hg 0 g1 rfl;have a2:=hg 1 g2 rfl;rw[h.s1,h.p1,h.cb]at a1;rw[h.s2,h.p2,h.cn]at a2;rw[aB (show 0<ys.length by omega)]at a1;rw[aB (show 1<ys.length by omega)]at a2;obtain⟨b,hb,_⟩:=DataW.trod_bool h.ub a1;obtain⟨s1,hs1,_⟩:=DataW.trod_string h.un a2;obtain⟨s2,hs2,_⟩:=DataW.trod_string h.un e2;have hb':v1=.bool b:=by
   have:[v1]=[Value.bool b]:=hb;injection this
  have hs1':v2=.string s1:=by
   have:[v2]=[Value.string s1]:=hs1;injection this
  have hs2':v3=.string s2:=by
   have:[v3]=[Value.string s2]:=hs2;injection this
  obtain⟨S,hS⟩:=Oh (im:=im) (w:=w) (okp:=okp) s1;obtain⟨T,hT⟩:=Oh (im:=im) (w:=w) (okp:=okp) s2;exact⟨v1,v2,v3,(b,S,T),rfl,by rw[hb'];simp[TR],by rw[hs1'];exact hS,by rw[hs2'];exact hT⟩
theorem Xx{a:Addr}{cs:List Value}{v1 v2 v3:Value}(h:w.cells? 0 a 3=some cs)(hc:cs=[v1,v2,v3]):w.cell? (a.add 0)=some v1∧w.cell? (a.add 1)=some v2∧w.cell? (a.add 2)=some v3:=by
 subst hc;unfold World.cells? at h;rw[aC (a9 _),show List.range 3=[0,1,2]from rfl]at h;simp only[z1N,List.mapM_nil,Option.bind_eq_bind,Option.pure_def]at h;cases h0:w.cell? (a.add 0)with
 |none=>rw[h0]at h;simp at h
 |some u0=>
  rw[h0]at h;cases h1:w.cell? (a.add 1)with
  |none=>rw[h1]at h;simp at h
  |some u1=>
   rw[h1]at h;cases h2:w.cell? (a.add 2)with
   |none=>rw[h2]at h;simp at h
   |some u2=>
    rw[h2]at h;simp at h;obtain⟨rfl,rfl,rfl⟩:=h;exact⟨rfl,rfl,rfl⟩
theorem VK{a:Addr}{v:Value}(h:w.cell? a=some v):a.spot=none∧a.block<w.heap.size:=by
 unfold World.cell? at h;split at h
 ·rename_i c el fr hh;split at h
  ·cases h
  ·rename_i hs;refine⟨by simpa using hs,?_⟩;exact(bm.1 hh).1
 ·cases h
theorem add_eq{a:Addr}(h:a.spot=none){k:Nat}:a.add k=⟨a.block,a.off+k,none⟩:=by
 unfold Addr.add;split
 ·rename_i h0;subst h0;cases a;simp at h;subst h;rfl
 ·rfl
theorem Fk(h:QT P tq tz tn tb f1 f2 g1 g2)(hs:P.underlying ts=some (.slice tq)){fuel:Nat}{v:Value}{x:DataW H×List MemPlace}(hx:DataW.trod enc P w 0 spare held fuel ts [v]=some x):
 ∃l:List RQ,TR im w (λb _=>b<w.heap.size) (.tree (raw l) l.length false) v:=by
 rcases DataW.trod_slice hs hx with⟨hc,_⟩|⟨a,len,cap,elems,rest,n,_,hc,_,_,hlc,_,hel,hi,_⟩
 ·have hv:v=.slice none 0 0:=by injection hc
  refine⟨[],?_⟩;rw[hv];simp only[TR];exact⟨none,0,rfl,aE _,(λh=>by cases h),λh=>absurd rfl h⟩
 ·have hv:v=.slice (some a) len cap:=by injection hc
  have pre:∀i,i<len→∃v1 v2 v3 q,(w.cell? ((a.add (i*3)).add 0)=some v1∧w.cell? ((a.add (i*3)).add 1)=some v2∧w.cell? ((a.add (i*3)).add 2)=some v3)∧TR im w (λb _=>b<w.heap.size) (.b (q:RQ).1) v1∧TR im w (λb _=>b<w.heap.size) q.2.1.d v2∧TR im w (λb _=>b<w.heap.size) q.2.2.d v3:=by
   intro i hil;have h1:=hi i hil;rw[aB (by omega),h.cq]at h1;obtain⟨cs,h2,h3⟩:=Option.bind_eq_some_iff.1 h1;obtain⟨v1,v2,v3,q,e,t1,t2,t3⟩:=WI (im:=im) (okp:=λb _=>b<w.heap.size) h h3;exact⟨v1,v2,v3,q,Xx h2 e,t1,t2,t3⟩
  have hsb:0<len→a.spot=none∧a.block<w.heap.size:=λh0=>by
   obtain⟨v1,v2,v3,q,⟨c1,_⟩,_⟩:=pre 0 h0;have e:(a.add (0*3)).add 0=a:=rfl;rw[e]at c1;exact VK c1
  have key:∀i,i<len→∃q,R3 im w (λb _=>b<w.heap.size) a.block (a.off+i*3) q∧a.spot=none∧a.block<w.heap.size:=by
   intro i hil;obtain⟨v1,v2,v3,q,⟨c1,c2,c3⟩,t1,t2,t3⟩:=pre i hil;obtain⟨hsp,hbl⟩:=hsb (by omega);rw[add_eq hsp,add_eq rfl]at c1 c2 c3;exact⟨q,⟨⟨v1,c1,t1⟩,⟨v2,c2,t2⟩,⟨v3,c3,t3⟩⟩,hsp,hbl⟩
  obtain⟨l,hl,ht⟩:=PP (im:=im) (w:=w) (okp:=λb _=>b<w.heap.size) (b:=a.block) len a.off (λi hil=>by
   obtain⟨q,hq,_⟩:=key i hil;exact⟨q,hq⟩)
  refine⟨l,?_⟩;rw[hv];simp only[TR];refine⟨some a,cap,by rw[hl],by omega,(λh=>by cases h),λhne=>?_⟩;have hl0:0<len:=by
   rcases bQ len with h0|h0
   ·exfalso;apply hne;have:l=[]:=ao (by omega);rw[this];rfl
   ·exact h0
  obtain⟨q,_,hsp,hbl⟩:=key 0 hl0;exact⟨a,rfl,hsp,λj _=>hbl,ht⟩
theorem R9(h:QT P tq tz tn tb f1 f2 g1 g2)(hs:P.underlying ts=some (.slice tq))(hf:P.underlying tf=some (.struct #[fp]))(ht:fp.type=ts)(ho:fp.offset=0)(hc1:P.cellsOf ts=1){fuel:Nat}{v:Value}{x:DataW H×List MemPlace}(hx:DataW.trod enc P w 0 spare held fuel tf [v]=some x):
 ∃l:List RQ,TR im w (λb _=>b<w.heap.size) (.tree (raw l) l.length false) v:=by
 obtain⟨xs,n,_,_,hl,hxl,hg⟩:=DataW.trod_struct hf hx;have e1:=hg 0 fp rfl;have hxl1:xs.length=1:=hxl;rw[ht,ho,hc1,aB (by omega)]at e1;exact Fk h hs e1
theorem Nc{F:FuncId}{M:List D→Option D}(hS:Snd P im F M){as:List D}{vs:List Value}(h:M as=some (.b true))(ha:TRl im w (λb _=>b<w.heap.size) as vs):
 Calls P F vs.toArray w (λe w'=>e=.returned (.bool true)∧w.keptBut w' (λ_=>False)∧∀b,b<w.heap.size→w'.heap[b]?=w.heap[b]?):=by
 refine Calls.mono (hS _ _ h vs w (λb _=>b<w.heap.size) ha (λb o hb=>hb)) (λe w' he=>?_);cases e with
 |outgrown=>exact he.elim
 |panicked c=>exact he.elim
 |returned v=>
  exact⟨by rw[RR.bool he],RR.keptBut he _,he.2.1⟩
end
end
end Go.Proofs.YthljpappkomocaaGreat
