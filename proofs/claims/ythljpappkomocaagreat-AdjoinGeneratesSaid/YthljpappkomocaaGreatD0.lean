/- Long division; rows of fractions: elimination, solutions, their sizes. -/
import Derived.Test.YthljpappkomocaaGreatB0
import Derived.IntWalk
set_option linter.all false
namespace Go.Proofs.Ev
noncomputable section
section
variable {α:Type}
def Tr.v:Tr α→Option α
 |.nil=>none
 |.node v _ _=>v
def Tr.l:Tr α→Tr α
 |.nil=>.nil
 |.node _ l _=>l
def Tr.r:Tr α→Tr α
 |.nil=>.nil
 |.node _ _ r=>r
theorem Dd(x:α):∀(k k':Nat)(n:Nat),n<k→n<k'→Tr.setF k .nil n x=Tr.setF k' .nil n x:=by
 intro k
 induction k with
 |zero=>intro k' n h;omega
 |succ k ih=>
  intro k' n h h';obtain⟨k',rfl⟩:∃j,k'=j+1:=⟨k'-1,by omega⟩
  simp only[Tr.setF];by_cases h0:n=0
  ·subst h0;rfl
  ·rw[show Nat.beq n 0=false from NZ h0];by_cases h2:n%2=1
   ·rw[show Nat.beq (Nat.mod n 2) 1=true by show Nat.beq (n%2) 1=true;rw[h2];rfl];have:=ih k' (n/2) (by omega) (by omega);show Tr.node none (Tr.setF k .nil (n/2) x) .nil=Tr.node none (Tr.setF k' .nil (n/2) x) .nil;rw[this]
   ·rw[show Nat.beq (Nat.mod n 2) 1=false by(have:n%2=0:=by omega);show Nat.beq (n%2) 1=false;rw[this];rfl];have:=ih k' (n/2-1) (by omega) (by omega);show Tr.node none .nil (Tr.setF k .nil (n/2-1) x)=Tr.node none .nil (Tr.setF k' .nil (n/2-1) x);rw[this]
theorem yK(x:α)(t:Tr α)(n:Nat):Tr.ins x t n=if n=0 then .node (some x) t.l t.r else if n%2=1 then .node t.v (Tr.ins x t.l (n/2)) t.r else .node t.v t.l (Tr.ins x t.r (n/2-1)):=by
 by_cases h0:n=0
 ·subst h0;rw[aC rfl];cases t<;>rfl
 ·rw[aE h0];have hb:Nat.beq n 0=false:=NZ h0;by_cases h2:n%2=1
  ·have h3:Nat.beq (Nat.mod n 2) 1=true:=by show Nat.beq (n%2) 1=true;rw[h2];rfl
   rw[aC h2];cases t with
   |nil=>
    show Tr.setF (Nat.succ n) .nil n x=.node none (Tr.setF (Nat.succ (n/2)) .nil (n/2) x) .nil;show cond (Nat.beq n 0) _ (cond (Nat.beq (Nat.mod n 2) 1) (Tr.node none (Tr.setF n .nil (n/2) x) .nil) _)=_;rw[hb,h3,Dd x n (Nat.succ (n/2)) (n/2) (by omega) (by omega)];rfl
   |node v l r=>show cond (Nat.beq n 0) _ (cond (Nat.beq (Nat.mod n 2) 1) _ _)=_;rw[hb,h3];rfl
  ·have h3:Nat.beq (Nat.mod n 2) 1=false:=by
    have:n%2=0:=by omega
    show Nat.beq (n%2) 1=false;rw[this];rfl
   rw[aE h2];cases t with
   |nil=>
    show Tr.setF (Nat.succ n) .nil n x=.node none .nil (Tr.setF (Nat.succ (n/2-1)) .nil (n/2-1) x);show cond (Nat.beq n 0) _ (cond (Nat.beq (Nat.mod n 2) 1) _ (Tr.node none .nil (Tr.setF n .nil (n/2-1) x)))=_;rw[hb,h3,Dd x n (Nat.succ (n/2-1)) (n/2-1) (by omega) (by omega)];rfl
   |node v l r=>show cond (Nat.beq n 0) _ (cond (Nat.beq (Nat.mod n 2) 1) _ _)=_;rw[hb,h3];rfl
theorem Tw(x y:α):∀(n:Nat)(t:Tr α),Tr.ins x (Tr.ins y t n) n=Tr.ins x t n:=by
 intro n
 induction n using Nat.strongRecOn with
 |ind n ih=>
  intro t;rw[yK x (Tr.ins y t n),yK y t n,yK x t n];by_cases h0:n=0
  ·simp only[h0,bf,Tr.l,Tr.r]
  ·simp only[h0,bz];by_cases h2:n%2=1
   ·simp only[h2,bf,Tr.l,Tr.r,Tr.v];rw[ih _ (by omega)]
   ·simp only[h2,bz,Tr.l,Tr.r,Tr.v];rw[ih _ (by omega)]
theorem QO(x y:α):∀(n m:Nat)(t:Tr α),n≠m→Tr.ins x (Tr.ins y t n) m=Tr.ins y (Tr.ins x t m) n:=by
 intro n
 induction n using Nat.strongRecOn with
 |ind n ih=>
  intro m t hne;rw[yK x (Tr.ins y t n),yK y (Tr.ins x t m),yK y t n,yK x t m];by_cases h0:n=0
  ·have hm:¬m=0:=by omega
   simp only[h0,hm,bf,bz];by_cases h2:m%2=1
   ·simp only[h2,bf,Tr.l,Tr.r,Tr.v]
   ·simp only[h2,bz,Tr.l,Tr.r,Tr.v]
  ·simp only[h0,bz];by_cases hm:m=0
   ·simp only[hm,bf];by_cases h2:n%2=1
    ·simp only[h2,bf,Tr.l,Tr.r,Tr.v]
    ·simp only[h2,bz,Tr.l,Tr.r,Tr.v]
   ·simp only[hm,bz];by_cases h2:n%2=1
    ·by_cases h3:m%2=1
     ·simp only[h2,h3,bf,Tr.l,Tr.r,Tr.v];rw[ih (n/2) (by omega) (m/2) _ (by omega)]
     ·simp only[h2,h3,bf,bz,Tr.l,Tr.r,Tr.v]
    ·by_cases h3:m%2=1
     ·simp only[h2,h3,bf,bz,Tr.l,Tr.r,Tr.v]
     ·simp only[h2,h3,bz,Tr.l,Tr.r,Tr.v];rw[ih (n/2-1) (by omega) (m/2-1) _ (by omega)]
end
theorem By{α:Type}{P:List α→Prop}(h0:P [])(h1:∀l a,P l→P (l++[a]))(l:List α):P l:=by
 have:∀l:List α,P l.reverse:=λl=>by
  induction l with
  |nil=>exact h0
  |cons a l ih=>rw[List.reverse_cons];exact h1 _ _ ih
 rw[←List.reverse_reverse l];exact this _
def mem(bs:List Blk):LS:=bs.foldl LS.push s0
variable {bs:List Blk} {b:Blk} {l off len cm z i n m:Nat} {ex:Bool} {d:D} {kk k2:IntKind} {K:D→LS→Rs} {k:D→Rs}
theorem fm:mem []=s0:=rfl
theorem lX:(mem bs).push b=mem (bs++[b]):=by unfold mem;rw[dR];rfl
theorem js:∀(bs:List Blk),(mem bs).nx=bs.length:=by
 refine By rfl λbs c ih=>?_;rw[←lX,bF];show Nat.succ (mem bs).nx=_;rw[ih];rfl
theorem mQ:∀(bs:List Blk)(l:Nat),(mem bs).get l=bs[l]?:=by
 refine By (λl=>?_) λbs c ih l=>?_
 ·unfold LS.get;rw[aE (by show ¬l<0;omega)];rfl
 ·rw[←lX,LS.get_push,js,ih];by_cases h:l=bs.length
  ·subst h;simp
  ·rw[aE h];by_cases h2:l<bs.length
   ·rw[bQ h2]
   ·rw[bX (by omega),bX (by simp;omega)]
theorem T0:∀(bs:List Blk)(l:Nat)(b:Blk),l<bs.length→(mem bs).put l b=mem (bs.set l b):=by
 refine By (λl b h=>by simp at h) λbs c ih l b h=>?_
 ·rw[←lX];by_cases e:l=bs.length
  ·subst e;rw[co _ _ (aD _),cC,dj,←lX];unfold LS.push LS.put;simp only[js];rw[Tw]
  ·have hl:l<bs.length:=by simp at h;omega
   rw[List.set_append_left _ _ hl,←lX,←ih l b hl];unfold LS.push LS.put;simp only[js];rw[QO _ _ _ _ _ (by omega)]
theorem gu{F:Blk→Rs}(h:bs[l]?=some b):jQ (mem bs) l F=F b:=by rw[oe,mQ,h];rfl
theorem pa{F:LS→Rs}(h:l<bs.length):oN (mem bs) l b F=F (mem (bs.set l b)):=by rw[CJ,T0 _ _ _ h]
theorem ln{F:LS→Rs}:ku (mem bs) b F=F (mem (bs++[b])):=by rw[lY,lX]
theorem fE{α:Type}{l:List α}{i:Nat}{x:α}(h:l[i]?=some x):i<l.length:=(bC.1 h).1
theorem th{a b c:Rs}(h:a=b)(h':b=c):a=c:=h.trans h'
theorem fH{cs:List D}{s:LS}:ek (.tree cs n ex) s K=K (.i .i64 (.ofNat n)) s:=rfl
theorem AY{s:LS}:ek (.sl l off n cm z ex) s K=K (.i .i64 (.ofNat n)) s:=rfl
theorem AB(h:bs[l]?=some b:=by rfl)(hl:b.st.live=true:=by rfl)(hi:i<len:=by omega):eK z (mem bs) (.sl l off len cm z ex) (.i k2 (.ofNat i)) K=K (.ptr l (off+i*z)) (mem bs):=vQ (by rw[mQ];exact h) hl hi
theorem uv{cs:List D}{s:LS}(hi:i<len:=by omega)(h:i*z<cs.length:=by omega):eK z s (.tree cs len ex) (.i k2 (.ofNat i)) K=K (.fp (cs.drop (i*z))) s:=by
 show cnd (Nat.blt i len) (iz (Nat.mul i z) cs λr=>List.rec (motive:=λ_=>Rs) none (λ_ _ _=>K (.fp r) s) r) none=_;rw[ep hi,eL,gB];show List.rec (motive:=λ_=>Rs) none (λ_ _ _=>K (.fp (cs.drop (i*z))) s) (cs.drop (i*z))=_;rw[bZ h]
theorem F1(h:bs[l]?=some b:=by rfl)(hl:b.st.live=true:=by rfl)(hd:b.cs[i]?=some d:=by rfl):eJ (mem bs) (.ptr l i) K=K d (mem bs):=yF (by rw[mQ];exact h) hl hd
theorem vk{cs:List D}{s:LS}(hd:cs[i]?=some d):eJ s (.fp (cs.drop i)) K=K d s:=by
 rw[mz hd];rfl
theorem YT{cs:List D}{s:LS}(h:i+n≤cs.length):eS n s (.fp (cs.drop i)) K=K (.agg ((cs.drop i).take n)) s:=by
 show iy n (cs.drop i) (λr=>K (.agg r) s)=_;rw[i9,aC (by rw[cp];omega)]
theorem Mi(h:bs[l]?=some b:=by rfl)(hl:b.st.live=true:=by rfl)(hn:i+n≤b.cs.length:=by first|exact aa rfl|omega):eS n (mem bs) (.ptr l i) K=K (.agg ((b.cs.drop i).take n)) (mem bs):=by
 show jQ (mem bs) l (λb=>cnd (lv b.st) (iz i b.cs λr=>iy n r λr=>K (.agg r) (mem bs)) none)=_;rw[gu h,sI,hl,eL,gB,i9,aC (by rw[cp];omega)]
theorem qm{t:Rs}:∀{l:List D},l.all one=true→pi l t=t
 |[],_=>rfl
 |d::l,h=>by
  simp only[cJ,ae]at h;show on1 d (pi l t)=t;rw[qm h.2];have:is1 d=true:=by cases d<;>first|rfl|(cases h.1;done)
  unfold on1;rw[this];rfl
theorem GT{x:D}{new cs':List D}(h:bs[l]?=some b:=by rfl)(hw:b.st=.rw:=by rfl)(hx:jr x=new:=by rfl)(hn:new.length=n:=by rfl)(h1:new.all one=true:=by rfl)(hl:lay i new b.cs=some cs':=by rfl):
 eU n (mem bs) (.ptr l i) x K=K .u (mem (bs.set l ⟨cs',.rw⟩)):=by
 show jQ (mem bs) l (λb=>cnd (wr b.st) (vcK x λnew=>cnd (Nat.beq new.length n) (pi new (ur i new b.cs λcs=>oN (mem bs) l ⟨cs,.rw⟩ λs=>K .u s)) none) none)=_;rw[gu h,DY,hw,show Stt.rw.wr=true from rfl,eL,v7,hx,hn,show Nat.beq n n=true from dW n,eL,qm h1,od,sh,hl];show oN _ _ _ _=_;rw[pa (fE h)]
theorem HE{bytes sz:Nat}{zero:List D}(hz:zero.length=sz:=by rfl)(h1:n≤140737488355328:=by omega)(h2:n*bytes≤140737488355328:=by omega):
 mK sz bytes zero (mem bs) (.i .i64 (.ofNat n)) (.i .i64 (.ofNat n)) K=K (.sl bs.length 0 n n sz true) (mem (bs++[⟨oG n zero,.rw⟩])):=by
 unfold mK;rw[qA];show cnd (Nat.ble n n) (cnd (Nat.ble n 140737488355328) (cnd (Nat.ble (Nat.mul n bytes) 140737488355328) (cnd (Nat.beq zero.length sz) (v6 zero n λcs=>ku (mem bs) ⟨cs,.rw⟩ λs'=>K (.sl (mem bs).nx 0 n n sz true) s') none) none) none) none=_;rw[aF (aD n),aF h1,aF (show Nat.mul n bytes≤140737488355328 from h2),hz,show Nat.beq sz sz=true from dW sz];simp only[eL];rw[rE,ln,js]
theorem N1{zero:List D}:fq zero (mem bs) K=K (.ptr bs.length 0) (mem (bs++[⟨zero,.rw⟩])):=by
 show ku (mem bs) ⟨zero,.rw⟩ (λs'=>K (.ptr (mem bs).nx 0) s')=_;rw[ln,js]
def rF:D→Bool
 |.own .. =>false
 |.tup (.own .. ::_)=>false
 |_=>true
theorem Qj{s:LS}{r:D}(h:rF r=true):ju s [] r K=K r s:=by
 unfold ju;rw[mU];cases tM r with
 |true=>rfl
 |false=>
  show DP s r K=_;unfold DP;split
  ·cases h
  ·cases h
  ·rfl
theorem fP{M:List D→Option D}{as:List D}{s:LS}{r:D}(h:M as=some r)(ha:∀kk,nI (kJ s fv) as kk=kk as []:=by intro kk;rfl)(hp:rF r=true:=by rfl):eR M as s K=K r s:=by
 unfold eR;rw[ha,h];exact Qj hp
theorem xe{M:List D→Option D}{as cs:List D}{s:LS}(h:M as=some (.own cs n z))(ha:∀kk,nI (kJ s fv) as kk=kk as []:=by intro kk;rfl):eR M as s K=K (.sl s.nx 0 n n z false) (s.push ⟨cs,.rw⟩):=by
 unfold eR;rw[ha,h];show ku s ⟨cs,.rw⟩ _=_;rw[lY]
end
end Go.Proofs.Ev
namespace Go.Proofs.Ev
noncomputable section
abbrev Q3:=Bool×Nat×Nat
def qD(q:Q3):List D:=[.b q.1,.n q.2.1,.n q.2.2]
def qs:List Q3→List D
 |[]=>[]
 |q::l=>.b q.1::.n q.2.1::.n q.2.2::qs l
theorem Im:∀l:List Q3,(qs l).length=l.length*3
 |[]=>rfl
 |q::l=>by simp only[qs,ay,Im l];omega
theorem zf:∀(a b:List Q3),qs (a++b)=qs a++qs b
 |[],b=>rfl
 |q::a,b=>by simp only[bu,qs,zf a b]
theorem Ew:∀(l:List Q3)(i:Nat),(qs l).drop (i*3)=qs (l.drop i)
 |l,0=>by simp
 |[],i+1=>by simp[qs]
 |q::l,i+1=>by rw[show(i+1)*3=i*3+3 by omega];simp only[qs,eG];exact Ew l i
theorem Eu:∀(l:List Q3)(i:Nat),(qs l).take (i*3)=qs (l.take i)
 |l,0=>by simp[qs]
 |[],i+1=>by simp[qs]
 |q::l,i+1=>by rw[show(i+1)*3=i*3+3 by omega];simp only[qs,eF];rw[Eu l i]
theorem WG{l:List Q3}{i:Nat}{q:Q3}(h:l[i]?=some q):((qs l).drop (i*3)).take 3=qD q:=by
 rw[Ew,mz h];rfl
theorem Ou{l:List Q3}{i:Nat}{q:Q3}(h:i<l.length):lay (i*3) (qD q) (qs l)=some (qs (l.set i q)):=by
 unfold lay;have:(qD q).length=3:=rfl;rw[aC (by rw[Im,this];omega),z0S,aC h,zf,Eu,this,show i*3+3=(i+1)*3 by omega,Ew,bW];rfl
theorem Gi:∀n,oG n [.b false,.n 0,.n 0]=qs (List.replicate n (false,0,0))
 |0=>rfl
 |n+1=>by show[.b false,.n 0,.n 0]++oG n _=_;rw[Gi n];rfl
theorem KZ:∀l:List Q3,(qs l).all ot=true
 |[]=>rfl
 |q::l=>by simp only[qs,cJ,ot,KZ l,dI]
inductive AS (z:Nat) (bs:List Blk):D→List D→Nat→Prop
 |nil:AS z bs (.tree [] 0 true) [] 0
 |blk {l n:Nat} {cs:List D} (h:bs[l]?=some ⟨cs,.rw⟩) (hc:cs.length=n*z):AS z bs (.sl l 0 n n z false) cs n
variable {bs bs':List Blk} {l n m z bytes:Nat} {cs new zero:List D} {x X y:D} {K:D→LS→Rs}
def kI(X:D)(l:Nat):Prop:=∀o n m z e,X≠.sl l o n m z e
theorem BN{k:List D→Nat→Rs}{b:Blk}{off cm:Nat}{ex:Bool}(h:bs[l]?=some b)(hl:b.st.live=true)(hc:off+n*z≤b.cs.length):oQ z (mem bs) (.sl l off n cm z ex) k=k ((b.cs.drop off).take (n*z)) n:=by
 show jQ (mem bs) l (λb=>cnd (lv b.st) (cnd (Nat.beq z z) (iz off b.cs λr=>iy (Nat.mul n z) r λr=>k r n) none) none)=_;rw[gu h,sI,hl,eL,show Nat.beq z z=true from dW z,eL,gB,i9,aC (by rw[cp];show n*z≤_;omega)];rfl
theorem U4{k:List D→Nat→Rs}{s:LS}{ex:Bool}(hc:cs.length=n*z):oQ z s (.tree cs n ex) k=k cs n:=by
 show cnd (Nat.beq cs.length (n*z)) (k cs n) none=_;rw[hc,show Nat.beq (n*z) (n*z)=true from dW _];rfl
theorem XZ(h:AS z bs X cs n)(hy:∀k:List D→Nat→Rs,oQ z (mem bs) y k=k new m)(hm:new.length=m*z)(h1:new.all one=true)
 (hb:(n+m)*bytes≤1099511627776) (ht:n+m≤1099511627776):
 ∃bs' X',AS z bs' X' (cs++new) (n+m)∧(∀l b,kI X l→bs[l]?=some b→bs'[l]?=some b∧kI X' l)∧mF z bytes (mem bs) X y K=K X' (mem bs'):=by
 cases h with
 |nil=>
  by_cases h0:m=0
  ·subst h0;have:new=[]:=by cases new with|nil=>rfl|cons=>simp at hm
   subst this;refine⟨bs,_,AS.nil,λl b ho hg=>⟨hg,ho⟩,?_⟩;show oQ z (mem bs) y _=_;rw[hy];rfl
  ·refine⟨bs++[⟨new,.rw⟩],.sl bs.length 0 m m z false,by rw[aV,cQ];exact AS.blk (by simp) hm,λl b ho hg=>⟨by rw[bQ (fE hg)];exact hg,λo n m' z' e he=>?_⟩,?_⟩
   ·injection he with e1;have:=fE hg;omega
   ·show oQ z (mem bs) y _=_;rw[hy];show cnd (Nat.beq m 0) _ (cnd true (cnd (Nat.beq 0 (Nat.mul 0 z)) (frc (Nat.add 0 m) λtot=>cnd (Nat.ble (Nat.mul tot bytes) 1099511627776) (cnd (Nat.ble tot 1099511627776) (l7 [] new λcs=>ku (mem bs) ⟨cs,.rw⟩ λs'=>K (.sl (mem bs).nx 0 tot tot z false) s') none) none) none) none)=_;rw[gG h0,e9,eL,show Nat.mul 0 z=0 from bP z,show Nat.beq 0 0=true from rfl,eL,fA,show Nat.add 0 m=m from aV m,
     aF (show Nat.mul m bytes≤_ by have:=hb;rw[aV]at this;exact this),aF (show m≤_ by omega),eL,eL,gT,ln,js];rfl
 | @blk l _ _ hg hc=>
  have hlt:=fE hg;by_cases h0:m=0
  ·subst h0;have:new=[]:=by cases new with|nil=>rfl|cons=>simp at hm
   subst this;refine⟨bs.set l ⟨cs,.rw⟩,.sl l 0 n n z false,by rw[bq,bH];exact AS.blk (by rw[ao hlt]) hc,λl' b ho hg'=>⟨?_,ho⟩,?_⟩
   ·by_cases e:l=l'
    ·subst e;rw[ao hlt,←hg,hg'];
    ·rw[bV e];exact hg'
   ·show oQ z (mem bs) y _=_;rw[hy];show jQ (mem bs) l _=_;rw[gu hg];show cnd true (cnd (Nat.beq z z) (pi [] (frc (Nat.add n 0) λtot=>cnd (Nat.ble (Nat.mul tot bytes) 1099511627776) (cnd (Nat.ble tot 1099511627776) (cnd (Nat.ble tot n) (ur (Nat.add 0 (Nat.mul n z)) [] cs λcs=>oN (mem bs) l ⟨cs,.rw⟩ λs=>K (.sl l 0 tot n z false) s) _) none) none)) none) none=_;rw[eL,show Nat.beq z z=true from dW z,eL,qm rfl,fA,show Nat.add n 0=n from rfl,
     aF (show Nat.mul n bytes≤_ from hb),aF (show n≤_ from ht),aF (aD n),eL,eL,eL,od]
    have:Ae (Nat.add 0 (Nat.mul n z)) [] cs=some cs:=by
     unfold Ae;rw[show Nat.add 0 (Nat.mul n z)=cs.length by rw[hc];exact aV _,aC (by simp)];simp
    rw[this];show oN _ _ _ _=_;rw[pa hlt]
  ·refine⟨(bs.set l ⟨[],.gone⟩)++[⟨cs++new,.rw⟩],.sl bs.length 0 (n+m) (n+m) z false,AS.blk (by rw[bN (by simp)];simp) (by rw[bF,hc,hm,aP]),λl' b ho hg'=>⟨?_,λo n m' z' e he=>?_⟩,?_⟩
   ·have hne:l≠l':=λe=>ho 0 n n z false (by rw[e]);have:=fE hg';rw[bQ (by simpa using this),bV hne];exact hg'
   ·injection he with e1;have:=fE hg';omega
   ·show oQ z (mem bs) y _=_;rw[hy];show jQ (mem bs) l _=_;rw[gu hg];show cnd true (cnd (Nat.beq z z) (pi new (frc (Nat.add n m) λtot=>cnd (Nat.ble (Nat.mul tot bytes) 1099511627776) (cnd (Nat.ble tot 1099511627776) (cnd (Nat.ble tot n) _ (iz 0 cs λr=>iy (Nat.mul n z) r λold=>l7 old new λcs=>cnd false _ (oN (mem bs) l ⟨[],.gone⟩ λs'=>ku s' ⟨cs,.rw⟩ λs''=>K (.sl (mem bs).nx 0 tot tot z false) s''))) none) none)) none) none=_;rw[eL,show Nat.beq z z=true from dW z,eL,qm h1,fA,
     aF (show Nat.mul (Nat.add n m) bytes≤_ from hb),aF (show Nat.add n m≤_ from ht),kY (show ¬Nat.add n m≤n by show ¬n+m≤n;omega),eL,eL,e9,gB,aj,i9,
     aC (show Nat.mul n z≤cs.length by rw[hc];exact aD _),gT,e9,pa hlt,ln,js,aM (show cs.length≤Nat.mul n z by rw[hc];exact aD _)];rfl
theorem NX{x:D}{new:List D}(hz:zero.length=z)(hx:jr x=new)(hn:new.length=z)(h1:new.all one=true):jY 1 zero [(0,z,x)] (mem bs) K=K (.sl bs.length 0 1 1 z true) (mem (bs++[⟨new,.rw⟩])):=by
 show v6 zero 1 (λcs=>vcK x λnw=>cnd (Nat.beq nw.length z) (pi nw (ur 0 nw cs λcs=>frc zero.length λz=>ku (mem bs) ⟨cs,.rw⟩ λs'=>K (.sl (mem bs).nx 0 1 1 z true) s')) none)=_;have hz1:oG 1 zero=zero:=by show zero++[]=_;simp
 rw[rE,hz1,v7,hx,hn,show Nat.beq z z=true from dW z,eL,qm h1,od];have:Ae 0 new zero=some new:=by
  unfold Ae;rw[aC (by omega)];simp[hn,hz]
 rw[this];rw[gN];rw[fA,ln,js,hz]
theorem ap1{x:D}{new:List D}(h:AS z bs X cs n)(hz:zero.length=z)(hx:jr x=new)(hn:new.length=z)(h1:new.all one=true)(hb:(n+1)*bytes≤1099511627776)(ht:n+1≤1099511627776):
 ∃bs' X',AS z bs' X' (cs++new) (n+1)∧(∀l b,kI X l→bs[l]?=some b→bs'[l]?=some b∧kI X' l)∧jY 1 zero [(0,z,x)] (mem bs) (λy s=>mF z bytes s X y K)=K X' (mem bs'):=by
 have h':AS z (bs++[⟨new,.rw⟩]) X cs n:=by
  cases h with
  |nil=>exact AS.nil
  |blk hg hc=>exact AS.blk (by rw[bQ (fE hg)];exact hg) hc
 obtain⟨bs',X',hA,hk,he⟩:=XZ (K:=K) (y:=.sl bs.length 0 1 1 z true) (new:=new) (m:=1) (bytes:=bytes) h' (λk=>by
  rw[BN (b:=⟨new,.rw⟩) (by simp) rfl (by show 0+1*z≤new.length;omega)];show k ((new.drop 0).take (1*z)) 1=_;rw[aj,aM (by omega)]) (by omega) h1 hb ht
 refine⟨bs',X',hA,λl b ho hg=>hk l b ho (by rw[bQ (fE hg)];exact hg),?_⟩;rw[NX hz hx hn h1,he]
def Dis(X O:D):Prop:=∀l o n m z e,X=.sl l o n m z e→kI O l
inductive WS (z:Nat) (bs:List Blk):D→List D→Nat→Prop
 |nil {ex:Bool}:WS z bs (.tree [] 0 ex) [] 0
 |blk {l n cm:Nat} {ex:Bool} {cs:List D} (h:bs[l]?=some ⟨cs,.rw⟩) (hc:cs.length=n*z) (hm:n≤cm):WS z bs (.sl l 0 n cm z ex) cs n
theorem AS.ws{z n:Nat}{bs:List Blk}{X:D}{cs:List D}(h:AS z bs X cs n):WS z bs X cs n:=by
 cases h with
 |nil=>exact WS.nil
 |blk h hc=>exact WS.blk h hc (aD _)
theorem qo{z n:Nat}{bs:List Blk}{X:D}{cs:List D}(hA:WS z bs X cs n){K:D→LS→Rs}{s:LS}:ek X s K=K (.i .i64 (.ofNat n)) s:=by
 cases hA with
 |nil=>rfl
 |blk _ _ _=>rfl
theorem iQ{z n:Nat}{bs:List Blk}{X:D}{cs:List D}(hA:WS z bs X cs n):cs.length=n*z:=by
 cases hA with
 |nil=>simp
 |blk _ h _=>exact h
theorem E5{z n:Nat}{bs bs':List Blk}{X O O':D}{cs:List D}(hA:WS z bs X cs n)(hd:Dis X O)(hk:∀l b,kI O l→bs[l]?=some b→bs'[l]?=some b∧kI O' l):WS z bs' X cs n∧Dis X O':=by
 cases hA with
 |nil=>exact⟨WS.nil,λl o n m z e h=>by cases h⟩
 |blk h hc hm=>
  have h1:=hk _ _ (hd _ _ _ _ _ _ rfl) h;exact⟨WS.blk h1.1 hc hm,λl o n m z e h=>by cases h;exact h1.2⟩
theorem xg{z n:Nat}{bs bs':List Blk}{X O:D}{cs:List D}(hA:WS z bs X cs n)(hk:∀l b,bs[l]?=some b→bs'[l]?=some b∧kI O l):WS z bs' X cs n∧Dis X O:=by
 cases hA with
 |nil=>exact⟨WS.nil,λl o n m z e h=>by cases h⟩
 |blk h hc hm=>exact⟨WS.blk (hk _ _ h).1 hc hm,λl o n m z e he=>by cases he;exact(hk _ _ h).2⟩
end
end Go.Proofs.Ev
namespace Go.Proofs.Ev
noncomputable section
def vl(B:Nat):List Nat→Nat
 |[]=>0
 |w::ws=>w+B*vl B ws
def Sm(B:Nat)(ws:List Nat):Prop:=∀w,w∈ws→w<B
def Tm(ws:List Nat):Prop:=∀w,ws.getLast?=some w→w≠0
section
variable {B:Nat}
theorem qq:∀(a b:List Nat),vl B (a++b)=vl B a+B^a.length*vl B b
 |[],b=>by simp[vl]
 |w::a,b=>by
  show w+B*vl B (a++b)=w+B*vl B a+B^(a.length+1)*vl B b;rw[qq a b,bA,av,aK (B^a.length) B,aU];omega
theorem t7:∀{ws:List Nat},Sm B ws→vl B ws<B^ws.length
 |[],_=>by simp[vl]
 |w::ws,h=>by
  have h1:w<B:=h w (by simp);have h2:=t7 (λx hx=>h x (by simp[hx]):Sm B ws);show w+B*vl B ws<B^(ws.length+1);rw[av,aK (B^ws.length)];have h3:B*(vl B ws+1)≤B*B^ws.length:=aZ _ h2;rw[bA]at h3;omega
theorem yW:∀n,vl B (List.replicate n 0)=0
 |0=>rfl
 |n+1=>by show 0+B*vl B (List.replicate n 0)=0;rw[yW n];simp
theorem rS:∀{ws:List Nat}{i w:Nat}(y:Nat),ws[i]?=some w→vl B (ws.set i y)+w*B^i=vl B ws+y*B^i
 |[],i,w,y,h=>by simp at h
 |x::ws,0,w,y,h=>by
  have:x=w:=by simpa using h
  subst this;show y+B*vl B ws+x*B^0=x+B*vl B ws+y*B^0;simp;omega
 |x::ws,i+1,w,y,h=>by
  have ih:=rS (ws:=ws) (i:=i) y (by simpa using h);show x+B*vl B (ws.set i y)+w*B^(i+1)=x+B*vl B ws+y*B^(i+1);rw[av,←aU,←aU,aK _ B,aK _ B];have e1:B*(vl B (ws.set i y)+w*B^i)=B*(vl B ws+y*B^i):=by rw[ih]
  rw[bA,bA]at e1;omega
theorem oI{ws:List Nat}{i w:Nat}(h:Sm B ws)(hw:w<B):Sm B (ws.set i w):=λx hx=>by
 rcases z1u hx with h1|h1
 ·exact h x h1
 ·rw[h1];exact hw
theorem IU{a b:List Nat}(ha:Sm B a)(hb:Sm B b):Sm B (a++b):=λx hx=>by
 rcases am.1 hx with h|h
 ·exact ha x h
 ·exact hb x h
theorem Ec{w:Nat}(h:w<B):Sm B [w]:=λx hx=>by simp at hx;omega
theorem zb{n:Nat}(h:0<B):Sm B (List.replicate n 0):=λx hx=>by
 have:=de hx;omega
theorem rV{ws:List Nat}{n:Nat}(h:Sm B ws):Sm B (ws.take n):=λx hx=>h x (bw hx)
theorem SX{ws:List Nat}{n:Nat}(h:Sm B ws):Sm B (ws.drop n):=λx hx=>h x (dx hx)
def lmF(B:Nat):Nat→Nat→List Nat
 |0,_=>[]
 |k+1,m=>if m=0 then[]else m%B::lmF B k (m/B)
def lm(B m:Nat):List Nat:=lmF B m m
theorem FS(hB:2≤B):∀(k m:Nat),m≤k→vl B (lmF B k m)=m∧Sm B (lmF B k m)∧Tm (lmF B k m)∧(m=0→lmF B k m=[])∧(m≠0→lmF B k m≠[])
 |0,m,h=>by
  have:m=0:=by omega
  subst this;exact⟨rfl,(λx hx=>by simp[lmF]at hx),(λw hw=>by simp[lmF]at hw),λ_=>rfl,λh=>absurd rfl h⟩
 |k+1,m,h=>by
  unfold lmF;by_cases h0:m=0
  ·subst h0;rw[aC rfl];exact⟨rfl,(λx hx=>by simp at hx),(λw hw=>by simp at hw),λ_=>rfl,λh=>absurd rfl h⟩
  ·rw[aE h0];have hlt:m/B<m:=Nat.div_lt_self (by omega) hB;obtain⟨i1,i2,i3,i4,i5⟩:=FS hB k (m/B) (by omega);refine⟨?_,?_,?_,λh=>absurd h h0,λ_=>by simp⟩
   ·show m%B+B*vl B _=m;rw[i1];exact dE m B
   ·intro x hx;rcases bI.1 hx with h|h
    ·rw[h];exact bg _ (by omega)
    ·exact i2 x h
   ·intro w hw;by_cases h1:m/B=0
    ·rw[i4 h1]at hw;have:m%B=w:=by simpa using hw
     have h2:=cR m B;rw[h1]at h2;omega
    ·have hne:=i5 h1;rw[List.getLast?_cons_of_ne_nil hne]at hw;exact i3 w hw
theorem vO(hB:2≤B)(m:Nat):vl B (lm B m)=m:=(FS hB m m (aD _)).1
theorem xd(hB:2≤B)(m:Nat):Sm B (lm B m):=(FS hB m m (aD _)).2.1
theorem HM(hB:2≤B)(m:Nat):Tm (lm B m):=(FS hB m m (aD _)).2.2.1
theorem xa{ws:List Nat}(h:Tm ws)(hne:ws≠[]):B^(ws.length-1)≤vl B ws:=by
 obtain⟨a,w,rfl⟩:∃a w,ws=a++[w]:=⟨ws.dropLast,ws.getLast hne,(dV hne).symm⟩
 have hw:w≠0:=h w (by simp);rw[qq];show _≤vl B a+B^a.length*(w+B*0);rw[bF];show B^(a.length+1-1)≤_;have:B^a.length*1≤B^a.length*w:=aZ _ (by omega);rw[a7,dG,bH];omega
theorem Jz(hB:2≤B):∀{a b:List Nat},Sm B a→Sm B b→Tm a→Tm b→vl B a=vl B b→a=b
 |[],b,_,_,_,tb,h=>by
  cases b with
  |nil=>rfl
  |cons x b=>
   have:=xa (B:=B) tb (by simp);have h1:0<B^((x::b).length-1):=bR (by omega);have h2:vl B ([]:List Nat)=0:=rfl;omega
 |x::a,[],_,_,ta,_,h=>by
  have:=xa (B:=B) ta (by simp);have h1:0<B^((x::a).length-1):=bR (by omega);have h2:vl B ([]:List Nat)=0:=rfl;omega
 |x::a,y::b,sa,sb,ta,tb,h=>by
  have hx:x<B:=sa x (by simp);have hy:y<B:=sb y (by simp);have h':x+B*vl B a=y+B*vl B b:=h;have e1:x=y:=by
   have h1:(x+B*vl B a)%B=x:=by rw[ch,bJ hx]
   have h2:(y+B*vl B b)%B=y:=by rw[ch,bJ hy]
   rw[←h1,←h2,h']
  subst e1;have e2:vl B a=vl B b:=Nat.eq_of_mul_eq_mul_left (show 0<B by omega) (by omega);have ta':Tm a:=λw hw=>ta w (by cases a with|nil=>simp at hw|cons=>rw[z0O];exact hw);have tb':Tm b:=λw hw=>tb w (by cases b with|nil=>simp at hw|cons=>rw[z0O];exact hw);rw[Jz hB (λz hz=>sa z (by simp[hz])) (λz hz=>sb z (by simp[hz])) ta' tb' e2]
theorem YU(hB:2≤B){ws:List Nat}(hs:Sm B ws)(ht:Tm ws):lm B (vl B ws)=ws:=Jz hB (xd hB _) hs (HM hB _) ht (vO hB _)
end
theorem ye{bs:List Blk}{l n cm z:Nat}{ex:Bool}{cs:List D}(h:bs[l]?=some ⟨cs,.rw⟩)(hf:cs.all ot=true)(hn:n*z≤cs.length):
 eX true (mem bs) (.sl l 0 n cm z ex) some=some (.own (cs.take (n*z)) n z):=by
 unfold eX;rw[mU];show uw (nu true (mem bs).get fv (.sl l 0 n cm z ex)) some=_;have hcut:cut 0 (n*z) cs=some (cs.take (n*z)):=by
  unfold cut;rw[aj,aC (by rw[ah];omega)]
 have hm:iP (res (mem bs).get fv) (cs.take (n*z))=some (cs.take (n*z),[]):=kL (k:=59) _ (by
  rw[cZ]at hf ⊢;exact λx hx=>hf x (bw hx))
 have:nu true (mem bs).get fv (.sl l 0 n cm z ex)=some (.own (cs.take (n*z)) n z):=by
  simp only[nu,tN,mQ,h,Stt.wr,bf,hcut,hm];rfl
 rw[this,gS];rfl
theorem yf{s:LS}{own:Bool}:eX own s (.tree [] 0 true) some=some (.tree [] 0 true):=by cases own<;>rfl
theorem Pk{kk:IntKind}{a b:Int}{s:LS}{K:D→LS→Rs}:kS (.max (.c (.i kk a)) (.c (.i kk b))) s K=K (.i kk (if b>a then b else a)) s:=by
 have he:evA s.nx cv s.get (.max (.c (.i kk a)) (.c (.i kk b)))=some (.i kk (if b>a then b else a),[]):=by
  simp only[evA,cv,bf]
 unfold kS sA;rw[he];show zG _ _=_;rw[rj]
theorem HH{kk:IntKind}{a b:Nat}{s:LS}{K:D→LS→Rs}:kS (.max (.c (.i kk (.ofNat a))) (.c (.i kk (.ofNat b)))) s K=K (.i kk (.ofNat (max a b))) s:=by
 rw[Pk];by_cases h:b>a
 ·rw[aC (by show(a:Int)<b;omega),z11 (by omega)]
 ·rw[aE (by show ¬(a:Int)<b;omega),Nat.max_eq_left (by omega)]
theorem nJ{a b:Nat}{k:D→Rs}(h:¬b≤a)(hb:b<4611686018427387904):et (.i .i64 (.ofNat a)) (.i .i64 (.ofNat b)) k=k (.i .i64 (.negSucc (b-a-1))):=by
 obtain⟨c,hc⟩:∃c,b=a+1+c:=⟨b-a-1,by omega⟩
 rw[show b-a-1=c by omega];unfold et;rw[qA,kY h,e9,show Nat.beq (uO .i64) 0=true from rfl,eL];unfold fV;rw[show bin .sub (.i .i64 (.ofNat a)) (.i .i64 (.ofNat b))=some (.i .i64 (.negSucc c))from ?_,gS]
 ·rfl
 ·show some (D.i .i64 (IntKind.wrap .i64 ((Int.ofNat a)-(Int.ofNat b))))=_;have:(Int.ofNat a)-(Int.ofNat b)=.negSucc c:=by
   show(a:Int)-(b:Int)=.negSucc c;rw[dc];omega
  have hw:IntKind.wrap .i64 (.negSucc c)=.negSucc c:=IntWalk.i64_in _ (by rw[dc];omega);rw[this,hw]
theorem QG{c b:Nat}{k:D→Rs}:kC (.i .i64 (.negSucc c)) (.i .i64 (.ofNat b)) k=k (.b false):=by
 show fV .gtr (.i .i64 (.negSucc c)) (.i .i64 (.ofNat b)) k=_;unfold fV;rw[gS];rfl
theorem pJ{c b:Nat}{k:D→Rs}:jt (.i .i64 (.negSucc c)) (.i .i64 (.ofNat b)) k=k (.b false):=by
 show fV .geq (.i .i64 (.negSucc c)) (.i .i64 (.ofNat b)) k=_;unfold fV;rw[gS];show k (.b (decide (Int.ofNat b≤Int.negSucc c)))=_;rw[aN (by show ¬(b:Int)≤_;rw[dc];omega)]
theorem T1{a b:Nat}{s:LS}{K:D→LS→Rs}(ha:a<4611686018427387904)(hb:b<4611686018427387904):(et (.i .i64 (.ofNat a)) (.i .i64 (.ofNat b)) λx=>kS (.max (.c (.i .i64 (.ofNat 0))) (.c x)) s K)=K (.i .i64 (.ofNat (a-b))) s:=by
 by_cases h:b≤a
 ·rw[oM h (by show a≤9223372036854775807;omega),HH,z11 (a9 _)]
 ·rw[nJ h hb,Pk,aE (by show ¬(0:Int)<.negSucc _;rw[dc];omega),show a-b=0 by omega]
section
variable {a b n:Nat} {k:D→Rs} {s:LS} {K:D→LS→Rs} {w:Bool} {op:(D→LS→Rs)→Rs} {l:List D}
theorem ph{α:Type}{B:α}{A:α→Rs}:jn B A=A B:=rfl
theorem fD:eI (.b true) true op s K=op K:=rfl
theorem gA:eI (.b false) false op s K=op K:=rfl
theorem jZ:eI (.b true) false op s K=K (.tup []) s:=rfl
theorem fj:eI (.b false) true op s K=K (.tup []) s:=rfl
theorem uS:eI (.tup l) w op s K=K (.tup []) s:=rfl
theorem fM(h:a+b<9223372036854775808:=by omega):ee (.i .i64 (.ofNat a)) (.i .i64 (.ofNat b)) k=k (.i .i64 (.ofNat (a+b))):=nk (bc h)
theorem gR(hb:b≤a:=by omega)(h:a<9223372036854775808:=by omega):et (.i .i64 (.ofNat a)) (.i .i64 (.ofNat b)) k=k (.i .i64 (.ofNat (a-b))):=oM hb (bc h)
theorem tg(h:a+b<18446744073709551616:=by omega):ee (.i .u64 (.ofNat a)) (.i .u64 (.ofNat b)) k=k (.i .u64 (.ofNat (a+b))):=nk (bc h)
theorem wS(hb:b≤a:=by omega)(h:a<18446744073709551616:=by omega):et (.i .u64 (.ofNat a)) (.i .u64 (.ofNat b)) k=k (.i .u64 (.ofNat (a-b))):=oM hb (bc h)
theorem Bo(h:a*b<18446744073709551616:=by omega):kv (.i .u64 (.ofNat a)) (.i .u64 (.ofNat b)) k=k (.i .u64 (.ofNat (a*b))):=yE (bc h)
theorem KY(hb:b≠0:=by omega)(h:a<18446744073709551616:=by omega):u7 (.i .u64 (.ofNat a)) (.i .u64 (.ofNat b)) k=k (.i .u64 (.ofNat (a/b))):=F3 hb (bc h)
theorem Yp(ha:a<18446744073709551616:=by omega)(hb:b<18446744073709551616:=by omega):uu (.i .u64 (.ofNat a)) (.i .u64 (.ofNat b)) k=k (.i .u64 (.ofNat (a&&&b))):=by
 unfold uu inK;rw[qA,aF (show a≤jX .u64 from bc ha),aF (show b≤jX .u64 from bc hb),eL,eL,fA];rfl
theorem AX(ha:a<18446744073709551616:=by omega):uu (.i .u64 (.ofNat a)) (.i .u64 (.ofNat 4294967295)) k=k (.i .u64 (.ofNat (a%4294967296))):=by
 rw[Yp ha];rw[show a&&&4294967295=a%4294967296 from z18 a 32]
theorem B2:o5 (.i .u64 (.ofNat a)) (.i .u64 (.ofNat 32)) k=k (.i .u64 (.ofNat (a/4294967296))):=uB (by omega)
theorem Xl(ha:a<4294967296:=by omega):vm (.i .u64 (.ofNat a)) (.i .u64 (.ofNat 32)) k=k (.i .u64 (.ofNat (a*4294967296))):=by
 rw[uh (by omega),bJ (by show a*4294967296<_;omega)]
theorem fk(h:a<b:=by omega){kk:IntKind}:fN (.i kk (.ofNat a)) (.i kk (.ofNat b)) k=k (.b true):=by rw[ji,ep h]
theorem fy(h:¬a<b:=by omega){kk:IntKind}:fN (.i kk (.ofNat a)) (.i kk (.ofNat b)) k=k (.b false):=by rw[ji,fC h]
theorem mf(h:b<a:=by omega){kk:IntKind}:kC (.i kk (.ofNat a)) (.i kk (.ofNat b)) k=k (.b true):=by rw[nj,ep h]
theorem oO(h:¬b<a:=by omega){kk:IntKind}:kC (.i kk (.ofNat a)) (.i kk (.ofNat b)) k=k (.b false):=by rw[nj,fC h]
theorem qC(h:b≤a:=by omega){kk:IntKind}:jt (.i kk (.ofNat a)) (.i kk (.ofNat b)) k=k (.b true):=by rw[CO,aF h]
theorem zE(h:¬b≤a:=by omega){kk:IntKind}:jt (.i kk (.ofNat a)) (.i kk (.ofNat b)) k=k (.b false):=by rw[CO,kY h]
theorem qE(h:a=b:=by omega){kk:IntKind}:gx (.i kk (.ofNat a)) (.i kk (.ofNat b)) k=k (.b true):=by rw[pb,h,ej]
theorem tO(h:a≠b:=by omega){kk:IntKind}:gx (.i kk (.ofNat a)) (.i kk (.ofNat b)) k=k (.b false):=by rw[pb,gG h]
theorem qU(h:a≠b:=by omega){kk:IntKind}:mE (.i kk (.ofNat a)) (.i kk (.ofNat b)) k=k (.b true):=by rw[zy,gG h];rfl
theorem o6(h:a=b:=by omega){kk:IntKind}:mE (.i kk (.ofNat a)) (.i kk (.ofNat b)) k=k (.b false):=by rw[zy,h,ej];rfl
end
theorem Bv{s:LS}{j:Nat}{kk:List D→List Nat→Rs}:∀ws:List Nat,nI (kJ s (j+1)) (c64 ws) kk=kk (c64 ws) []
 |[]=>rfl
 |w::ws=>by
  show(nI (kJ s (j+1)) (c64 ws) λys b=>l7 [] b λab=>kk (n64 w::ys) ab)=_;rw[Bv ws];rfl
theorem xL{M:List D→Option D}{X r:D}{bs:List Blk}{ws:List Nat}{n:Nat}{K:D→LS→Rs}(hA:WS 1 bs X (c64 ws) n)(h:∀ex,M [.tree (c64 ws) n ex]=some r)(hf:tM r=true):eR M [X] (mem bs) K=K r (mem bs):=by
 have key:∀(ex:Bool)(ls:List Nat),(ob (M [.tree (c64 ws) n ex]) λr=>ju (mem bs) ls r K)=K r (mem bs):=by
  intro ex ls;rw[h,gN];unfold ju;rw[mU,hf];rfl
 unfold eR;generalize hcs:c64 ws=cs at hA;cases hA with
 | @nil ex=>rw[←key ex []];rw[hcs];rfl
 | @blk l _ cm ex _ hg hc hm=>
  subst hcs;show(jQ (mem bs) l λb=>cnd (lv b.st) (iz 0 b.cs λr=>iy (Nat.mul n 1) r λr=>nI (kJ (mem bs) 59) r λcs ls=>mw (cnd ex (Nat.beq cm n) false) λex=>l7 (l::ls) [] λab=>ob (M [.tree cs n ex]) λr=>ju (mem bs) ab r K) none)=_;rw[gu hg];show(iz 0 (c64 ws) λr=>iy (Nat.mul n 1) r λr=>nI (kJ (mem bs) 59) r λcs ls=>mw (cnd ex (Nat.beq cm n) false) λex=>l7 (l::ls) [] λab=>ob (M [.tree cs n ex]) λr=>ju (mem bs) ab r K)=_;rw[gB,aj,i9,aC (by rw[hc];exact aD _),aM (by rw[hc];exact aD _),Bv,jC,gT];exact key _ _
theorem py{X:D}{bs:List Blk}{ws:List Nat}{n i w:Nat}{K:D→LS→Rs}{kk:IntKind}(hA:WS 1 bs X (c64 ws) n)(hw:ws[i]?=some w):(eK 1 (mem bs) X (.i kk (.ofNat i)) λa s=>eJ s a K)=K (n64 w) (mem bs):=by
 have hc:=iQ hA;rw[fO]at hc;have hi:=fE hw;generalize hcs:c64 ws=cs at hA;cases hA with
 |nil=>simp at hc;subst hc;simp at hw
 |blk hg hc' hm=>
  subst hcs;refine th (AB hg rfl (by omega)) ?_;rw[aV,ai];exact F1 hg rfl (kP hw)
theorem vB{X:D}{bs:List Blk}{ws:List Nat}{n i w:Nat}{K:D→LS→Rs}{kk:IntKind}(hA:WS 1 bs X (c64 ws) n)(hi:i<n):
 ∃bs',WS 1 bs' X (c64 (ws.set i w)) n∧(∀l b,kI X l→bs[l]?=some b→bs'[l]?=some b∧kI X l)∧(∀Y z cs m,WS z bs Y cs m→Dis Y X→WS z bs' Y cs m)∧(eK 1 (mem bs) X (.i kk (.ofNat i)) λa s=>eU 1 s a (n64 w) K)=K .u (mem bs'):=by
 have hc:=iQ hA;rw[fO]at hc;generalize hcs:c64 ws=cs at hA;cases hA with
 |nil=>omega
 | @blk l _ cm ex _ hg hc' hm=>
  subst hcs;have hlt:=fE hg;have hl:lay i (c64 [w]) (c64 ws)=some (c64 (ws.set i w)):=by
   rw[←sh,show c64 [w]=[D.i .u64 (.ofNat w)]from rfl,wc (by rw[fO];omega),wE]
  have hk:∀l' b,kI (.sl l 0 n cm 1 ex) l'→bs[l']?=some b→(bs.set l ⟨c64 (ws.set i w),.rw⟩)[l']?=some b:=λl' b ho hg'=>by
   rw[bV (λe=>ho 0 n cm 1 ex (by rw[e]))];exact hg'
  refine⟨bs.set l ⟨c64 (ws.set i w),.rw⟩,WS.blk (by rw[ao hlt]) (by rw[fO,bD];omega) hm,λl' b ho hg'=>⟨hk l' b ho hg',ho⟩,λY z cs m hY hd=>?_,?_⟩
  ·cases hY with
   |nil=>exact WS.nil
   |blk h hc hm=>exact WS.blk (hk _ _ (hd _ _ _ _ _ _ rfl) h) hc hm
  ·refine th (AB hg rfl hi) ?_;rw[aV,ai];exact GT hg rfl (hx:=rfl) (hn:=rfl) (h1:=rfl) (hl:=hl)
def dgt(ws:List Nat)(i:Nat):Nat:=ws.getD i 0
theorem jF{B:Nat}{ws:List Nat}(h:Sm B ws)(hB:0<B)(i:Nat):dgt ws i<B:=by
 unfold dgt;rw[aH];cases hw:ws[i]?with
 |none=>exact hB
 |some w=>exact h w (bU hw)
theorem pf{B:Nat}(ws:List Nat)(i:Nat):vl B (ws.drop i)=dgt ws i+B*vl B (ws.drop (i+1)):=by
 by_cases h:i<ws.length
 ·rw[bZ h];unfold dgt;rw[aH,aB h];rfl
 ·rw[bh (by omega),bh (by omega)];unfold dgt;rw[aH,bX (by omega)];simp[vl]
theorem Vs{X:D}{bs:List Blk}{ws:List Nat}{n j:Nat}{F:D→List Nat→Rs}{r:Rs}(hA:WS 1 bs X (c64 ws) n)(h:∀ex ls,F (.tree (c64 ws) n ex) ls=r):kJ (mem bs) (j+2) X F=r:=by
 generalize hcs:c64 ws=cs at hA;cases hA with
 | @nil ex=>rw[←h ex []];rw[hcs];rfl
 | @blk l _ cm ex _ hg hc hm=>
  subst hcs;show(jQ (mem bs) l λb=>cnd (lv b.st) (iz 0 b.cs λr=>iy (Nat.mul n 1) r λr=>nI (kJ (mem bs) (j+1)) r λcs ls=>mw (cnd ex (Nat.beq cm n) false) λex=>F (.tree cs n ex) (l::ls)) none)=_;rw[gu hg];show(iz 0 (c64 ws) λr=>iy (Nat.mul n 1) r λr=>nI (kJ (mem bs) (j+1)) r λcs ls=>mw (cnd ex (Nat.beq cm n) false) λex=>F (.tree cs n ex) (l::ls))=_;rw[gB,aj,i9,aC (by rw[hc];exact aD _),aM (by rw[hc];exact aD _),Bv,jC];exact h _ _
theorem Kw{M:List D→Option D}{X Y r:D}{bs:List Blk}{ws ys:List Nat}{n m k:Nat}{kk:IntKind}{K:D→LS→Rs}(hA:WS 1 bs X (c64 ws) n)(hY:WS 1 bs Y (c64 ys) m)(hk:k<n)(h:∀ex ex',M [.tree (c64 (ws.drop k)) (n-k) ex,.tree (c64 ys) m ex']=some r)(hf:tM r=true):
 (kg 1 (mem bs) X (some (.i kk (.ofNat k))) none none λx s=>eR M [x,Y] s K)=K r (mem bs):=by
 generalize hcs:c64 ws=cs at hA;cases hA with
 |nil=>omega
 | @blk l _ cm ex _ hg hc hm=>
  subst hcs;show(jQ (mem bs) l λb=>cnd (lv b.st) (cnd (Nat.ble cm cm) (cnd (Nat.ble n cm) (cnd (Nat.ble k n) (cnd (Nat.beq 1 1) (mw (cnd false true ex) λex=>cnd (Nat.blt k cm) (frc (Nat.add 0 (Nat.mul k 1)) λoff=>frc (Nat.sub n k) λlen=>frc (Nat.sub cm k) λcm=>eR M [.sl l off len cm 1 ex,Y] (mem bs) K) (eR M [.tree [] 0 ex,Y] (mem bs) K)) none) none) none) none) none)=_;rw[gu hg];show(cnd (Nat.ble cm cm) (cnd (Nat.ble n cm) (cnd (Nat.ble k n) (cnd (Nat.beq 1 1) (mw ex λex=>cnd (Nat.blt k cm) (frc (Nat.add 0 (Nat.mul k 1)) λoff=>frc (Nat.sub n k) λlen=>frc (Nat.sub cm k) λcm=>eR M [.sl l off len cm 1 ex,Y] (mem bs) K) (eR M [.tree [] 0 ex,Y] (mem bs) K)) none) none) none) none)=_;rw[aF (aD cm),aF hm,aF (dN hk),show Nat.beq 1 1=true from rfl,eL,eL,eL,eL,jC,ep (by omega),eL,fA,fA,fA];have e1:Nat.add 0 (Nat.mul k 1)=k:=by show 0+k*1=k;omega
  rw[e1];show(jQ (mem bs) l λb=>cnd (lv b.st) (iz k b.cs λr=>iy (Nat.mul (n-k) 1) r λr=>nI (kJ (mem bs) 59) r λcs ls=>mw (cnd ex (Nat.beq (Nat.sub cm k) (n-k)) false) λex=>kJ (mem bs) 60 Y λy ls'=>l7 ls' [] λab=>l7 (l::ls) ab λab=>ob (M [.tree cs (n-k) ex,y]) λr=>ju (mem bs) ab r K) none)=_;rw[gu hg];show(iz k (c64 ws) λr=>iy (Nat.mul (n-k) 1) r λr=>nI (kJ (mem bs) 59) r λcs ls=>mw (cnd ex (Nat.beq (Nat.sub cm k) (n-k)) false) λex=>kJ (mem bs) 60 Y λy ls'=>l7 ls' [] λab=>l7 (l::ls) ab λab=>ob (M [.tree cs (n-k) ex,y]) λr=>ju (mem bs) ab r K)=_;have e2:(c64 ws).drop k=c64 (ws.drop k):=by unfold c64;rw[List.map_drop]
  rw[gB,e2,i9];rw[fO]at hc;rw[aC (by rw[fO,cp];show(n-k)*1≤_;omega),aM (by rw[fO,cp];show _≤(n-k)*1;omega),Bv,jC];refine Vs hY λex' ls=>?_;rw[gT,gT,h,gN];unfold ju;rw[mU,hf];rfl
abbrev B32:Nat:=4294967296
def sz1(x:Nat)(k:Rs):Rs:=cnd (Nat.ble (Nat.log2 x) 1000000000) k none
def zu(m:Nat):Rs:=cnd (Nat.beq m 0) (some (.tree [] 0 true)) (some (.own (c64 (lm B32 m)) (lm B32 m).length 1))
def p6(as:List D):Option D:=u1 as λa r=>u0 r (oL a λm=>sz1 m (zu m))
def DJ(d:D):Option Nat:=match d with
 |.i .u64 (.ofNat w)=>if w<B32 then some w else none
 |_=>none
def qj(as:List D):Option D:=match as with
 |[.tree cs n _]=>match cs.mapM DJ with
  |some ws=>if ws.length=n∧n≤100000000000 then some (.n (vl B32 ws))else none
  |none=>none
 |_=>none
def tQ(as:List D):Option D:=match as with
 |[.tree cs n _,.tree ds m _]=>match cs.mapM DJ,ds.mapM DJ with
  |some xs,some ys=>if xs.length=n∧ys.length=m∧n≤100000000000∧m≤100000000000∧ys.getLast?≠some 0 then some (.b (Nat.blt (vl B32 xs) (vl B32 ys)))else none
  |_,_=>none
 |_=>none
def two(as:List D)(k:Nat→Nat→Rs):Rs:=u1 as λa r=>u1 r λb r=>u0 r (oL a λx=>oL b λy=>sz1 x (sz1 y (k x y)))
def yQ(as:List D):Option D:=two as λx y=>frc (Nat.add x y) λz=>some (.n z)
def v9(as:List D):Option D:=two as λx y=>frc (Nat.sub x y) λz=>some (.n z)
def xt(as:List D):Option D:=two as λx y=>frc (Nat.mul x y) λz=>some (.n z)
def oP(as:List D):Option D:=two as λx y=>cnd (Nat.beq y 0) (some (.tup [.n 0,.n 0])) (frc (Nat.div x y) λq=>frc (Nat.mod x y) λr=>some (.tup [.n q,.n r]))
def vr(as:List D):Option D:=two as λx y=>frc (Nat.gcd x y) λz=>some (.n z)
set_option maxRecDepth 1000000
set_option maxHeartbeats 0
def lr(φ:Nat)(q11:D→D→D→LS→Rs)(x12 x13 x14:D)(s:LS):Rs:=(
 jt x14 (.i .i64 (.ofNat 0)) λx15=>
 eQ x15
(eK 1 s x12 x14 λx16 s=>
 eJ s x16 λx17 s=>
 eK 1 s x13 x14 λx18 s=>
 eJ s x18 λx19 s=>
 mE x17 x19 λx20=>
 eQ x20
(eK 1 s x12 x14 λx21 s=>
 eJ s x21 λx22 s=>
 eK 1 s x13 x14 λx23 s=>
 eJ s x23 λx24 s=>
 fN x22 x24 λx25=>
 eQ x25
(eX false s (.i .i64 (.negSucc 0)) some)
(eX false s (.i .i64 (.ofNat 1)) some))
(et x14 (.i .i64 (.ofNat 1)) λx26=>
 q11 x12 x13 x26 s))
(eX false s (.i .i64 (.ofNat 0)) some))
def tS(φ:Nat):List D→Option D:=
λas=>
(λ(s:LS)=>
 u1 as λa1 r27=>
 u1 r27 λa2 r28=>
 u0 r28 (
 ek a1 s λx3 s=>
 ek a2 s λx4 s=>
 mE x3 x4 λx5=>
 eQ x5
(ek a1 s λx6 s=>
 ek a2 s λx7 s=>
 fN x6 x7 λx8=>
 eQ x8
(eX false s (.i .i64 (.negSucc 0)) some)
(eX false s (.i .i64 (.ofNat 1)) some))
(ek a1 s λx9 s=>
 et x9 (.i .i64 (.ofNat 1)) λx10=>
 lp (λ(_ _ _:D)(_:LS)=>none) (lr φ) φ a1 a2 x10 s))) s0
theorem vY:iT=tS:=rfl
def pe(φ:Nat)(j46:D→D→D→D→D→D→LS→Rs)(q60:D→D→D→D→D→D→D→D→D→LS→Rs)(x61 x62 x63 x64 x65 x66 x67 x68 x69:D)(s:LS):Rs:=(
 jt x69 (.i .u64 (.ofNat 4294967296)) λx70=>
 eI x70 false (λk=>k x69 s) s λx71 s=>
 eI x70 false (λk=>k x64 s) s λx72 s=>
 eI x70 false (λk=>kv x71 x72 λd=>k d s) s λx73 s=>
 eI x70 false (λk=>k x67 s) s λx74 s=>
 eI x70 false (λk=>kv (.i .u64 (.ofNat 4294967296)) x74 λd=>k d s) s λx75 s=>
 eI x70 false (λk=>k x65 s) s λx76 s=>
 eI x70 false (λk=>ee x75 x76 λd=>k d s) s λx77 s=>
 eI x70 false (λk=>kC x73 x77 λd=>k d s) s λx78 s=>
 fX x70 (.b true) x78 s λx79 s=>
 eQ x79
(et x69 (.i .u64 (.ofNat 1)) λx80=>
 ee x67 x63 λx81=>
 jt x81 (.i .u64 (.ofNat 4294967296)) λx82=>
 eQ x82
(j46 x61 x62 x65 x66 x68 x80 s)
(q60 x61 x62 x63 x64 x65 x66 x81 x68 x80 s))
(j46 x61 x62 x65 x66 x68 x69 s))
def pd(φ:Nat)(j30:D→D→D→D→D→D→D→D→LS→Rs)(q83:D→D→D→D→D→D→D→D→D→LS→Rs)(x84 x85 x86 x87 x88 x89 x90 x91 x92:D)(s:LS):Rs:=(
 jt x91 (.i .u64 (.ofNat 4294967296)) λx93=>
 eI x93 false (λk=>k x91 s) s λx94 s=>
 eI x93 false (λk=>k x87 s) s λx95 s=>
 eI x93 false (λk=>kv x94 x95 λd=>k d s) s λx96 s=>
 eI x93 false (λk=>k x92 s) s λx97 s=>
 eI x93 false (λk=>kv (.i .u64 (.ofNat 4294967296)) x97 λd=>k d s) s λx98 s=>
 eI x93 false (λk=>k x89 s) s λx99 s=>
 eI x93 false (λk=>ee x98 x99 λd=>k d s) s λx100 s=>
 eI x93 false (λk=>kC x96 x100 λd=>k d s) s λx101 s=>
 fX x93 (.b true) x101 s λx102 s=>
 eQ x102
(et x91 (.i .u64 (.ofNat 1)) λx103=>
 ee x92 x86 λx104=>
 jt x104 (.i .u64 (.ofNat 4294967296)) λx105=>
 eQ x105
(j30 x84 x85 x86 x87 x88 x89 x90 x103 s)
(q83 x84 x85 x86 x87 x88 x89 x90 x103 x104 s))
(j30 x84 x85 x86 x87 x88 x89 x90 x91 s))
def ul(φ:Nat):List D→Option D:=
λas=>
(λ(s:LS)=>
 u1 as λa1 r110=>
 u1 r110 λa2 r111=>
 u1 r111 λa3 r112=>
 u0 r112 (
 jn (λ(x5 x6 x7:D)(s:LS)=>
 jn (λ(x9 x10 x11:D)(s:LS)=>
 gx x9 (.i .u64 (.ofNat 0)) λx12=>
 eQ x12
(u7 x10 x11 λx13=>
 JP x10 x11 λx14=>
 eX false s (.tup [x13,x14]) some)
(eR (gK φ) [x11] s λx15 s=>
 lP .u64 x15 s λx16 s=>
 vm x11 x16 λx17=>
 o5 x17 (.i .u64 (.ofNat 32)) λx18=>
 uu x17 (.i .u64 (.ofNat 4294967295)) λx19=>
 vm x9 x16 λx20=>
 et (.i .u64 (.ofNat 64)) x16 λx21=>
 o5 x10 x21 λx22=>
 kOr x20 x22 λx23=>
 vm x10 x16 λx24=>
 o5 x24 (.i .u64 (.ofNat 32)) λx25=>
 uu x24 (.i .u64 (.ofNat 4294967295)) λx26=>
 u7 x23 x18 λx27=>
 kv x27 x18 λx28=>
 et x23 x28 λx29=>
 jn (λ(x31 x32 x33 x34 x35 x36 x37 x38:D)(s:LS)=>
 kv x35 (.i .u64 (.ofNat 4294967296)) λx39=>
 ee x39 x36 λx40=>
 kv x38 x31 λx41=>
 et x40 x41 λx42=>
 u7 x42 x33 λx43=>
 kv x43 x33 λx44=>
 et x42 x44 λx45=>
 jn (λ(x47 x48 x49 x50 x51 x52:D)(s:LS)=>
 kv x50 (.i .u64 (.ofNat 4294967296)) λx53=>
 ee x53 x52 λx54=>
 kv x51 (.i .u64 (.ofNat 4294967296)) λx55=>
 ee x55 x49 λx56=>
 kv x52 x47 λx57=>
 et x56 x57 λx58=>
 o5 x58 x48 λx59=>
 eX false s (.tup [x54,x59]) some) λj46=>
 lp (λ(_ _ _ _ _ _ _ _ _:D)(_:LS)=>none) (pe φ j46) φ x31 x32 x33 x34 x37 x38 x45 x42 x43 s) λj30=>
 lp (λ(_ _ _ _ _ _ _ _ _:D)(_:LS)=>none) (pd φ j30) φ x17 x16 x18 x19 x23 x25 x26 x27 x29 s)) λj8=>
 ut x7 x5 λx106=>
 eQ x106
(eJ s .u λx107 s=>
 none)
(j8 x5 x6 x7 s)) λj4=>
 gx a3 (.i .u64 (.ofNat 0)) λx108=>
 eQ x108
(eJ s .u λx109 s=>
 none)
(j4 a1 a2 a3 s))) s0
theorem wz:gU=ul:=rfl
def iV(φ:Nat)(q7:D→D→D→D→D→LS→Rs)(x8 x9 x10 x11 x12:D)(s:LS):Rs:=(
 fN x12 x11 λx13=>
 eQ x13
(jn (λ(x15 x16 x17 x18 x19:D)(s:LS)=>
 ee x19 (.i .i64 (.ofNat 1)) λx20=>
 q7 x15 x16 x17 x18 x20 s) λj14=>
 eK 1 s x10 x12 λx21 s=>
 eJ s x21 λx22 s=>
 eK 1 s x9 x12 λx23 s=>
 eJ s x23 λx24 s=>
 vm x22 x8 λx25=>
 kOr x24 x25 λx26=>
 eK 1 s x9 x12 λx27 s=>
 eU 1 s x27 x26 λ_ s=>
 kC x8 (.i .i64 (.ofNat 0)) λx28=>
 eQ x28
(ee x12 (.i .i64 (.ofNat 1)) λx29=>
 et (.i .i64 (.ofNat 64)) x8 λx30=>
 o5 x22 x30 λx31=>
 eK 1 s x9 x29 λx32 s=>
 eU 1 s x32 x31 λ_ s=>
 j14 x8 x9 x10 x11 x12 s)
(j14 x8 x9 x10 x11 x12 s))
(eX true s x9 some))
def wN(φ:Nat):List D→Option D:=
λas=>
(λ(s:LS)=>
 u1 as λa1 r33=>
 u1 r33 λa2 r34=>
 u0 r34 (
 ek a1 s λx3 s=>
 ee x3 (.i .i64 (.ofNat 1)) λx4=>
 mK 1 8 [(.i .u64 (.ofNat 0))] s x4 x4 λx5 s=>
 ek a1 s λx6 s=>
 lp (λ(_ _ _ _ _:D)(_:LS)=>none) (iV φ) φ a2 x5 a1 x6 (.i .i64 (.ofNat 0)) s)) s0
theorem yU:kd=wN:=rfl
def ou(φ:Nat)(kk:D→LS→Rs)(q49:D→D→D→D→D→D→D→LS→Rs)(x50 x51 x52 x53 x54 x55 x56:D)(s:LS):Rs:=(
 fN x56 x55 λx57=>
 eQ x57
(eK 1 s x50 x56 λx58 s=>
 eJ s x58 λx59 s=>
 eK 1 s x51 x56 λx60 s=>
 eJ s x60 λx61 s=>
 nr x59 x61 x54 s λx62 s=>
 gD x62 0 s λx63 s=>
 gD x62 1 s λx64 s=>
 eK 1 s x50 x56 λx65 s=>
 eU 1 s x65 x63 λ_ s=>
 ee x56 (.i .i64 (.ofNat 1)) λx66=>
 q49 x50 x51 x52 x53 x64 x55 x66 s)
(eK 1 s x50 x52 λx67 s=>
 eJ s x67 λx68 s=>
 ee x68 x54 λx69=>
 eK 1 s x50 x52 λx70 s=>
 eU 1 s x70 x69 λ_ s=>
 et x53 (.i .u64 (.ofNat 1)) λx71=>
 kk x71 s))
def ib(φ:Nat)(kk:D→LS→Rs)(q16:D→D→D→D→D→D→D→D→LS→Rs)(x17 x18 x19 x20 x21 x22 x23 x24:D)(s:LS):Rs:=(
 fN x24 x23 λx25=>
 eQ x25
(eK 1 s x18 x24 λx26 s=>
 eJ s x26 λx27 s=>
 eR tY [x20,x27] s λx28 s=>
 gD x28 0 s λx29 s=>
 gD x28 1 s λx30 s=>
 nr x30 x22 (.i .u64 (.ofNat 0)) s λx31 s=>
 gD x31 0 s λx32 s=>
 gD x31 1 s λx33 s=>
 ee x29 x33 λx34=>
 eK 1 s x17 x24 λx35 s=>
 eJ s x35 λx36 s=>
 sW x36 x32 x21 s λx37 s=>
 gD x37 0 s λx38 s=>
 gD x37 1 s λx39 s=>
 eK 1 s x17 x24 λx40 s=>
 eU 1 s x40 x38 λ_ s=>
 ee x24 (.i .i64 (.ofNat 1)) λx41=>
 q16 x17 x18 x19 x20 x39 x34 x23 x41 s)
(eK 1 s x17 x19 λx42 s=>
 eJ s x42 λx43 s=>
 sW x43 x22 x21 s λx44 s=>
 gD x44 0 s λx45 s=>
 gD x44 1 s λx46 s=>
 eK 1 s x17 x19 λx47 s=>
 eU 1 s x47 x45 λ_ s=>
 gx x46 (.i .u64 (.ofNat 0)) λx48=>
 eQ x48
(kk x20 s)
(lp (λ(_ _ _ _ _ _ _:D)(_:LS)=>none) (ou φ kk) φ x17 x18 x19 x20 (.i .u64 (.ofNat 0)) x19 (.i .i64 (.ofNat 0)) s)))
def jO(φ:Nat)(j11:D→D→D→D→LS→Rs)(q72:D→D→D→D→D→D→LS→Rs)(x73 x74 x75 x76 x77 x78:D)(s:LS):Rs:=(
 gx x78 (.i .u64 (.ofNat 0)) λx79=>
 eQ x79
(et x75 (.i .i64 (.ofNat 2)) λx80=>
 eK 1 s x74 x80 λx81 s=>
 eJ s x81 λx82 s=>
 eR tY [x76,x82] s λx83 s=>
 gD x83 0 s λx84 s=>
 gD x83 1 s λx85 s=>
 fN x84 x77 λx86=>
 eI x86 false (λk=>k x84 s) s λx87 s=>
 eI x86 false (λk=>k x77 s) s λx88 s=>
 eI x86 false (λk=>gx x87 x88 λd=>k d s) s λx89 s=>
 eI x86 false (λk=>k x89 s) s λx90 s=>
 eI x90 true (λk=>k x85 s) s λx91 s=>
 eI x90 true (λk=>k x73 s) s λx92 s=>
 eI x90 true (λk=>k x75 s) s λx93 s=>
 eI x90 true (λk=>et x93 (.i .i64 (.ofNat 2)) λd=>k d s) s λx94 s=>
 eI x90 true (λk=>eK 1 s x92 x94 k) s λx95 s=>
 eI x90 true (λk=>eJ s x95 k) s λx96 s=>
 eI x90 true (λk=>ut x91 x96 λd=>k d s) s λx97 s=>
 eI x86 false (λk=>fX x90 x97 (.b false) s k) s λx98 s=>
 fX x86 (.b true) x98 s λx99 s=>
 eQ x99
(j11 x73 x74 x75 x76 s)
(et x76 (.i .u64 (.ofNat 1)) λx100=>
 et x75 (.i .i64 (.ofNat 1)) λx101=>
 eK 1 s x74 x101 λx102 s=>
 eJ s x102 λx103 s=>
 nr x77 x103 (.i .u64 (.ofNat 0)) s λx104 s=>
 gD x104 0 s λx105 s=>
 gD x104 1 s λx106 s=>
 q72 x73 x74 x75 x100 x105 x106 s))
(j11 x73 x74 x75 x76 s))
def zW(φ:Nat):List D→LS→(D→LS→Rs)→Rs:=
λas s kk=>
 u1 as λa1 r133=>
 u1 r133 λa2 r134=>
 u0 r134 (
 ek a2 s λx3 s=>
 jn (λ(x5 x6 x7 x8 x9 x10:D)(s:LS)=>
 jn (λ(x12 x13 x14 x15:D)(s:LS)=>
 lp (λ(_ _ _ _ _ _ _ _:D)(_:LS)=>none) (ib φ kk) φ x12 x13 x14 x15 (.i .u64 (.ofNat 0)) (.i .u64 (.ofNat 0)) x14 (.i .i64 (.ofNat 0)) s) λj11=>
 lp (λ(_ _ _ _ _ _:D)(_:LS)=>none) (jO φ j11) φ x5 x6 x7 x8 x9 x10 s) λj4=>
 eK 1 s a1 x3 λx107 s=>
 eJ s x107 λx108 s=>
 et x3 (.i .i64 (.ofNat 1)) λx109=>
 eK 1 s a2 x109 λx110 s=>
 eJ s x110 λx111 s=>
 jt x108 x111 λx112=>
 eQ x112
(et x3 (.i .i64 (.ofNat 1)) λx113=>
 eK 1 s a1 x113 λx114 s=>
 eJ s x114 λx115 s=>
 et x3 (.i .i64 (.ofNat 1)) λx116=>
 eK 1 s a2 x116 λx117 s=>
 eJ s x117 λx118 s=>
 nr x115 x118 (.i .u64 (.ofNat 0)) s λx119 s=>
 gD x119 0 s λx120 s=>
 gD x119 1 s λx121 s=>
 j4 a1 a2 x3 (.i .u64 (.ofNat 18446744073709551615)) x120 x121 s)
(eK 1 s a1 x3 λx122 s=>
 eJ s x122 λx123 s=>
 et x3 (.i .i64 (.ofNat 1)) λx124=>
 eK 1 s a1 x124 λx125 s=>
 eJ s x125 λx126 s=>
 et x3 (.i .i64 (.ofNat 1)) λx127=>
 eK 1 s a2 x127 λx128 s=>
 eJ s x128 λx129 s=>
 eR (gU φ) [x123,x126,x129] s λx130 s=>
 gD x130 0 s λx131 s=>
 gD x130 1 s λx132 s=>
 j4 a1 a2 x3 x131 x132 (.i .u64 (.ofNat 0)) s))
theorem An:om=zW:=rfl
def je(φ:Nat)(q11:D→D→D→D→D→LS→Rs)(x12 x13 x14 x15 x16:D)(s:LS):Rs:=(
 jt x16 (.i .i64 (.ofNat 0)) λx17=>
 eQ x17
(eK 1 s x12 x16 λx18 s=>
 eJ s x18 λx19 s=>
 eK 1 s x13 (.i .i64 (.ofNat 0)) λx20 s=>
 eJ s x20 λx21 s=>
 eR (gU φ) [x15,x19,x21] s λx22 s=>
 gD x22 0 s λx23 s=>
 gD x22 1 s λx24 s=>
 eK 1 s x14 x16 λx25 s=>
 eU 1 s x25 x23 λ_ s=>
 et x16 (.i .i64 (.ofNat 1)) λx26=>
 q11 x12 x13 x14 x24 x26 s)
((fG φ) [x14] s λx27 s=>
 jY 1 [(.i .u64 (.ofNat 0))] [(0,1,x15)] s λx28 s=>
(fG φ) [x28] s λx29 s=>
 eX false s (.tup [x27,x29]) some))
def kQ(φ:Nat)(q59:D→D→D→D→D→D→LS→Rs)(x60 x61 x62 x63 x64 x65:D)(s:LS):Rs:=(
 fN x65 x64 λx66=>
 eQ x66
(jn (λ(x68 x69 x70 x71 x72 x73:D)(s:LS)=>
 ee x73 (.i .i64 (.ofNat 1)) λx74=>
 q59 x68 x69 x70 x71 x72 x74 s) λj67=>
 eK 1 s x61 x65 λx75 s=>
 eJ s x75 λx76 s=>
 o5 x76 x60 λx77=>
 eK 1 s x61 x65 λx78 s=>
 eU 1 s x78 x77 λ_ s=>
 kC x60 (.i .i64 (.ofNat 0)) λx79=>
 eI x79 true (λk=>k x65 s) s λx80 s=>
 eI x79 true (λk=>ee x80 (.i .i64 (.ofNat 1)) λd=>k d s) s λx81 s=>
 eI x79 true (λk=>k x61 s) s λx82 s=>
 eI x79 true (λk=>ek x82 s k) s λx83 s=>
 eI x79 true (λk=>fN x81 x83 λd=>k d s) s λx84 s=>
 fX x79 x84 (.b false) s λx85 s=>
 eQ x85
(eK 1 s x61 x65 λx86 s=>
 eJ s x86 λx87 s=>
 ee x65 (.i .i64 (.ofNat 1)) λx88=>
 eK 1 s x61 x88 λx89 s=>
 eJ s x89 λx90 s=>
 et (.i .i64 (.ofNat 64)) x60 λx91=>
 vm x90 x91 λx92=>
 kOr x87 x92 λx93=>
 eK 1 s x61 x65 λx94 s=>
 eU 1 s x94 x93 λ_ s=>
 j67 x60 x61 x62 x63 x64 x65 s)
(j67 x60 x61 x62 x63 x64 x65 s))
(eR (zU (fG φ)) [x63] s λx95 s=>
 kg 1 s x61 none (some x62) none λx96 s=>
(fG φ) [x96] s λx97 s=>
 eX false s (.tup [x95,x97]) some))
def nL(φ:Nat)(q45:D→D→D→D→D→D→LS→Rs)(x46 x47 x48 x49 x50 x51:D)(s:LS):Rs:=(
 jt x51 (.i .i64 (.ofNat 0)) λx52=>
 eQ x52
(ee x51 x49 λx53=>
 ee x53 (.i .i64 (.ofNat 1)) λx54=>
 kg 1 s x48 (some x51) (some x54) none λx55 s=>
(om φ) [x55,x47] s λx56 s=>
 eK 1 s x50 x51 λx57 s=>
 eU 1 s x57 x56 λ_ s=>
 et x51 (.i .i64 (.ofNat 1)) λx58=>
 q45 x46 x47 x48 x49 x50 x58 s)
(lp (λ(_ _ _ _ _ _:D)(_:LS)=>none) (kQ φ) φ x46 x48 x49 x50 x49 (.i .i64 (.ofNat 0)) s))
def xA(φ:Nat):List D→Option D:=
λas=>
(λ(s:LS)=>
 u1 as λa1 r98=>
 u1 r98 λa2 r99=>
 u0 r99 (
 eR (iT φ) [a1,a2] s λx3 s=>
 fN x3 (.i .i64 (.ofNat 0)) λx4=>
 eQ x4
(eX false s (.tup [(.tree [] 0 true),a1]) some)
(ek a2 s λx5 s=>
 gx x5 (.i .i64 (.ofNat 1)) λx6=>
 eQ x6
(ek a1 s λx7 s=>
 mK 1 8 [(.i .u64 (.ofNat 0))] s x7 x7 λx8 s=>
 ek a1 s λx9 s=>
 et x9 (.i .i64 (.ofNat 1)) λx10=>
 lp (λ(_ _ _ _ _:D)(_:LS)=>none) (je φ) φ a1 a2 x8 (.i .u64 (.ofNat 0)) x10 s)
(ek a2 s λx30 s=>
 et x30 (.i .i64 (.ofNat 1)) λx31=>
 eK 1 s a2 x31 λx32 s=>
 eJ s x32 λx33 s=>
 eR (gK φ) [x33] s λx34 s=>
 eR (kd φ) [a2,x34] s λx35 s=>
(fG φ) [x35] s λx36 s=>
 eR (kd φ) [a1,x34] s λx37 s=>
 ek x36 s λx38 s=>
 ek a1 s λx39 s=>
 et x39 x38 λx40=>
 ee x40 (.i .i64 (.ofNat 1)) λx41=>
 mK 1 8 [(.i .u64 (.ofNat 0))] s x41 x41 λx42 s=>
 ek a1 s λx43 s=>
 et x43 x38 λx44=>
 lp (λ(_ _ _ _ _ _:D)(_:LS)=>none) (nL φ) φ x34 x36 x37 x38 x42 x44 s)))) s0
theorem zX:gW=xA:=rfl
theorem Ty{l:List UInt8}{i:Nat}{c:UInt8}{kk:IntKind}{s:LS}{K:D→LS→Rs}(h:l[i]?=some c):kS (.index (.c (.s l)) (.c (.i kk (.ofNat i)))) s K=K (.i .u8 (.ofNat c.toNat)) s:=by
 have he:evA s.nx cv s.get (.index (.c (.s l)) (.c (.i kk (.ofNat i))))=some (.i .u8 (.ofNat c.toNat),[]):=by
  simp only[evA,cv,str];rw[aC (by simp)];have:(Int.ofNat i).toNat=i:=rfl;rw[this,mz h];rfl
 unfold kS sA;rw[he];show zG _ _=_;rw[rj]
def FV:List UInt8:=[0,1,2,2,3,3,3,3,4,4,4,4,4,4,4,4,5,5,5,5,5,5,5,5,5,5,5,5,5,5,5,5,6,6,6,6,6,6,6,6,6,6,6,6,6,6,6,6,6,6,6,6,6,6,6,6,6,6,6,6,6,6,6,6,7,7,7,7,7,7,7,7,7,7,7,7,7,7,7,7,7,7,7,7,7,7,7,7,7,7,7,7,7,7,7,7,7,7,7,7,7,7,7,7,7,7,7,7,7,7,7,7,7,7,7,7,7,7,7,7,7,7,7,7,7,7,7,7,8,8,8,8,8,8,8,8,8,8,8,8,8,8,8,8,8,8,8,8,8,8,8,8,8,8,8,8,8,8,8,8,8,8,8,8,8,8,8,8,8,8,8,8,8,8,8,8,8,8,8,8,8,8,8,8,8,8,8,8,8,8,8,8,8,8,8,8,8,8,8,8,8,8,8,8,8,8,8,8,8,8,8,8,8,8,8,8,8,8,8,8,8,8,8,8,8,8,8,8,8,8,8,8,8,8,8,8,8,8,8,8,8,8,8,8,8,8,8,8,8,8,8,8,8,8,8,8]
theorem Mm:∀v:Nat,v<256→∃c,FV[v]?=some c∧c.toNat≤8∧v<2^c.toNat∧(0<v→2^c.toNat≤2*v):=by
 have h:∀v:Nat,v<256→(match FV[v]?with|some c=>decide (c.toNat≤8∧v<2^c.toNat∧(0<v→2^c.toNat≤2*v))|none=>false)=true:=by decide+kernel
 intro v hv;have:=h v hv;cases hc:FV[v]?with
 |none=>rw[hc]at this;cases this
 |some c=>rw[hc]at this;exact⟨c,rfl,cg this⟩
def DH(x l:Nat):Prop:=l≤64∧x<2^l∧(0<x→2^l≤2*x)
theorem A0{x k l:Nat}(h:DH (x/2^k) l)(hx:2^k≤x)(hk:l+k≤64):DH x (l+k):=by
 obtain⟨h1,h2,h3⟩:=h;have hp:0<2^k:=bR (by decide);have h0:0<x/2^k:=z0T hx hp;have h4:=h3 h0;have h5:=dF x (2^k);refine⟨hk,?_,λ_=>?_⟩
 ·rw[bY];exact(bn hp).1 h2
 ·rw[bY];have:=aL (2^k) h4;rw[aU]at this;omega
theorem Uv{b:Nat}(hb:b≤32){J:D→D→Rs}(hJ:∀x n,x<2^b→n+b≤64→∃l,DH x l∧l≤b∧J (n64 x) (.i .i64 (.ofNat n))=some (.i .i64 (.ofNat (n+l)))):
 ∀x n,x<2^(b+b)→n+(b+b)≤64→∃l,DH x l∧l≤b+b∧(jt (n64 x) (.i .u64 (.ofNat (2^b))) λx15=>eQ x15 (o5 (n64 x) (.i .u64 (.ofNat b)) λx16=>ee (.i .i64 (.ofNat n)) (.i .i64 (.ofNat b)) λx17=>J x16 x17) (J (n64 x) (.i .i64 (.ofNat n))))=some (.i .i64 (.ofNat (n+l))):=by
 intro x n hx hn;by_cases hc:2^b≤x
 ·have hp:0<2^b:=bR (by decide);obtain⟨l,h1,h2,h3⟩:=hJ (x/2^b) (n+b) (by rw[bn hp,←bY];exact hx) (by omega);refine⟨l+b,A0 h1 hc (by omega),by omega,th (qC hc) (th eP (th (uB (by omega)) (th (fM (by omega)) (th h3 ?_))))⟩;rw[cx,ct b]
 ·obtain⟨l,h1,h2,h3⟩:=hJ x n (by omega) (by omega);exact⟨l,h1,by omega,th (zE hc) (th eM h3)⟩
def T9(x10 x9:D):Rs:=lP .u8 x10 s0 λx11 s=>kS (.index (.c (.s FV)) (.c x11)) s λx12 s=>lP .i64 x12 s λx13 s=>ee x9 x13 λx14=>eX false s x14 some
def YV(a n:D):Rs:=jt a (.i .u64 (.ofNat (2^8))) λx15=>eQ x15 (o5 a (.i .u64 (.ofNat 8)) λx16=>ee n (.i .i64 (.ofNat 8)) λx17=>T9 x16 x17) (T9 a n)
theorem EE{φ x:Nat}(hx:x<18446744073709551616):∃l,DH x l∧mA φ [n64 x]=some (.i .i64 (.ofNat l)):=by
 have st0:∀x n,x<2^8→n+8≤64→∃l,DH x l∧l≤8∧T9 (n64 x) (.i .i64 (.ofNat n))=some (.i .i64 (.ofNat (n+l))):=by
  intro x n h hn;obtain⟨c,h1,h2,h3,h4⟩:=Mm x h;refine⟨c.toNat,⟨by omega,h3,h4⟩,h2,?_⟩;refine th CG ?_;rw[bJ h];exact th (Ty h1) (th (we (by show _≤9223372036854775807;omega)) (th (fM (by omega)) rfl))
 have st1:∀x n,x<2^16→n+16≤64→∃l,DH x l∧l≤16∧YV (n64 x) (.i .i64 (.ofNat n))=some (.i .i64 (.ofNat (n+l))):=Uv (b:=8) (J:=T9) (by omega) st0;have st2:=Uv (b:=16) (J:=YV) (by omega) st1;unfold mA;dsimp only[eV,eZ];by_cases hc:4294967296≤x
 ·obtain⟨l,h1,h2,h3⟩:=st2 (x/2^32) 32 (by omega) (by omega);refine⟨l+32,A0 h1 hc (by omega),th ph (th (qC hc) (th eP (th B2 ?_)))⟩;rw[ct l];exact h3
 ·obtain⟨l,h1,h2,h3⟩:=st2 x 0 (by omega) (by omega);refine⟨l,h1,th ph (th (zE hc) (th eM ?_))⟩;rw[aV]at h3;exact h3
theorem HK{φ x:Nat}(hx:x<18446744073709551616)(h0:0<x):∃z,z≤63∧x*2^z<18446744073709551616∧9223372036854775808≤x*2^z∧gK φ [n64 x]=some (.i .i64 (.ofNat z)):=by
 obtain⟨l,⟨h1,h2,h3⟩,h4⟩:=EE (φ:=φ) hx;have h5:=h3 h0;have hl:0<l:=by
  rcases bL l with h|h
  ·subst h;simp at h2;omega
  ·exact h
 have e:2^l*2^(64-l)=18446744073709551616:=by rw[←bY,cP h1]
 refine⟨64-l,by omega,?_,?_,?_⟩
 ·rw[←e];exact dD h2 (bR (by decide))
 ·have:=aL (2^(64-l)) h5;rw[e,aU]at this;omega
 ·unfold gK;dsimp only[eV,eZ];exact th (fP h4) (th (gR (by omega)) rfl)
theorem VT{q y0 r d:Nat}{s:LS}{K:D→LS→Rs}(hy:y0<4294967296)(hr:r<4294967296)(hd:d<4294967296)(hq:q<18446744073709551616):
 (jt (n64 q) (.i .u64 (.ofNat 4294967296)) λx70=>eI x70 false (λk=>k (n64 q) s) s λx71 s=>eI x70 false (λk=>k (n64 y0) s) s λx72 s=>eI x70 false (λk=>kv x71 x72 λd=>k d s) s λx73 s=>
  eI x70 false (λk=>k (n64 r) s) s λx74 s=>eI x70 false (λk=>kv (.i .u64 (.ofNat 4294967296)) x74 λd=>k d s) s λx75 s=>eI x70 false (λk=>k (n64 d) s) s λx76 s=>eI x70 false (λk=>ee x75 x76 λd=>k d s) s λx77 s=>
  eI x70 false (λk=>kC x73 x77 λd=>k d s) s λx78 s=>fX x70 (.b true) x78 s K)=K (.b (decide (4294967296≤q∨4294967296*r+d<q*y0))) s:=by
 by_cases h:4294967296≤q
 ·refine th (qC h) ?_;rw[aS (Or.inl h)];rfl
 ·have hm:q*y0≤4294967295*4294967295:=bv (by omega) (by omega);refine th (zE h) (th gA (th gA (th gA (th (Bo (by omega)) (th gA (th gA (th (Bo (by omega)) (th gA (th gA (th (tg (by omega)) (th gA (th nj (th gE ?_)))))))))))));by_cases h2:4294967296*r+d<q*y0
  ·rw[ep h2,aS (Or.inr h2)]
  ·rw[fC h2,aN (by omega)]
structure DQ (b y1 y0 u d q r:Nat):Prop where
 hq:(u*b+d)/(y1*b+y0)≤q
 hr:r+q*y1=u
 hb:q≤b+1
theorem BM{b y1 y0 u d q r:Nat}(h:DQ b y1 y0 u d q r)(hb:0<b)(hy1:0<y1)(h1:q*y0≤b*r+d):q=(u*b+d)/(y1*b+y0):=by
 have hp:0<y1*b+y0:=by have:=cW hy1 hb;omega
 refine z0E ?_ h.hq;rw[d7 hp,←h.hr,bA,aP,aK r b,aU];omega
theorem Qu{b y1 y0 u d q r:Nat}(h:DQ b y1 y0 u d q r)(hu:(u*b+d)/(y1*b+y0)<b)(hp:0<y1*b+y0)(h1:b≤q∨b*r+d<q*y0):0<q∧DQ b y1 y0 u d (q-1) (r+y1):=by
 have hlt:(u*b+d)/(y1*b+y0)<q:=by
  rcases h1 with h1|h1
  ·omega
  ·rw[bn hp,←h.hr,bA,aP,aK r b,aU];omega
 refine⟨br (a9 _) hlt,⟨Nat.le_sub_one_of_lt hlt,?_,by have:=h.hb;omega⟩⟩;have hq0:=br (a9 _) hlt;obtain⟨q,rfl⟩:∃p,q=p+1:=⟨q-1,by omega⟩
 have:=h.hr;rw[aP,bE]at this;rw[a7];omega
theorem Hp{b y1 y0 u d q r:Nat}(h:DQ b y1 y0 u d q r)(hq:q≤b)(hy0:y0<b)(hr:b≤r):q*y0≤b*r+d:=by
 have h1:q*y0≤b*b:=bv hq (by omega);have h2:b*b≤b*r:=aZ _ hr;omega
theorem LQ{b y1 y0 u d:Nat}(hu:u<y1*b+y0)(hy:b≤2*y1)(h0:y0<b)(hd:d<b)(h1:0<y1):DQ b y1 y0 u d (u/y1) (u%y1)∧(u*b+d)/(y1*b+y0)<b:=by
 have hp:0<y1*b+y0:=by have:=cW h1 (show 0<b by omega);omega
 refine⟨⟨?_,by rw[aK];exact dE u y1,?_⟩,?_⟩
 ·rw[d7 h1];have h3:=dF (u*b+d) (y1*b+y0);rcases az u ((u*b+d)/(y1*b+y0)*y1)with h|h
  ·exfalso;generalize (u*b+d)/(y1*b+y0)=q at*;have h4:(u+1)*b≤q*y1*b:=aL _ h;rw[aP,bE]at h4;rw[bA,←aU]at h3;omega
  ·exact h
 ·have:u<(b+2)*y1:=by rw[aP,aK b];omega
  have:=(bn h1).2 this;omega
 ·rw[bn hp];have:(u+1)*b≤(y1*b+y0)*b:=aL _ hu;rw[aP,bE]at this;rw[aK b];omega
theorem XK{φ y1 y0 u d:Nat}{a b c e:D}{j30:D→D→D→D→D→D→D→D→LS→Rs}{s:LS}(hy1:0<y1)(h1:y1<4294967296)(h0:y0<4294967296)(hd:d<4294967296)(hu:(u*4294967296+d)/(y1*4294967296+y0)<4294967296):
 ∀(k f q r:Nat),DQ 4294967296 y1 y0 u d q r→r<4294967296→4294967296≤r+k*y1→k+1<f→
 lp (λ(_ _ _ _ _ _ _ _ _:D)(_:LS)=>none) (pd φ j30) f a b (n64 y1) (n64 y0) c (n64 d) e (n64 q) (n64 r) s=j30 a b (n64 y1) (n64 y0) c (n64 d) e (n64 ((u*4294967296+d)/(y1*4294967296+y0))) s:=by
 intro k;have hp:0<y1*4294967296+y0:=by omega
 induction k with
 |zero=>intro f q r h hr hk;omega
 |succ k ih=>
  intro f q r h hr hk hf;obtain⟨f,rfl⟩:∃p,f=p+1:=⟨f-1,by omega⟩
  have hqb:=h.hb;rw[eO];unfold pd;refine th (VT h0 hr hd (by omega)) ?_;by_cases hc:4294967296≤q∨4294967296*r+d<q*y0
  ·obtain⟨hq0,h'⟩:=Qu h hu hp hc;rw[aS hc];refine th eP (th (wS (by omega) (by omega)) (th (tg (by omega)) ?_));by_cases hbk:4294967296≤r+y1
   ·have:=BM h' (by omega) hy1 (Hp h' (by omega) h0 hbk);rw[←this];exact th (qC hbk) eP
   ·refine th (zE hbk) (th eM ?_);exact ih f (q-1) (r+y1) h' (by omega) (by rw[aP,bE]at hk;omega) (by omega)
  ·have:=BM h (by omega) hy1 (by omega);rw[aN hc,←this];rfl
theorem XL{φ y1 y0 u d:Nat}{a b c e:D}{j46:D→D→D→D→D→D→LS→Rs}{s:LS}(hy1:0<y1)(h1:y1<4294967296)(h0:y0<4294967296)(hd:d<4294967296)(hu:(u*4294967296+d)/(y1*4294967296+y0)<4294967296):
 ∀(k f q r:Nat),DQ 4294967296 y1 y0 u d q r→r<4294967296→4294967296≤r+k*y1→k+1<f→
 lp (λ(_ _ _ _ _ _ _ _ _:D)(_:LS)=>none) (pe φ j46) f a b (n64 y1) (n64 y0) (n64 d) c (n64 r) e (n64 q) s=j46 a b (n64 d) c e (n64 ((u*4294967296+d)/(y1*4294967296+y0))) s:=by
 intro k;have hp:0<y1*4294967296+y0:=by omega
 induction k with
 |zero=>intro f q r h hr hk;omega
 |succ k ih=>
  intro f q r h hr hk hf;obtain⟨f,rfl⟩:∃p,f=p+1:=⟨f-1,by omega⟩
  have hqb:=h.hb;rw[eO];unfold pe;refine th (VT h0 hr hd (by omega)) ?_;by_cases hc:4294967296≤q∨4294967296*r+d<q*y0
  ·obtain⟨hq0,h'⟩:=Qu h hu hp hc;rw[aS hc];refine th eP (th (wS (by omega) (by omega)) (th (tg (by omega)) ?_));by_cases hbk:4294967296≤r+y1
   ·have:=BM h' (by omega) hy1 (Hp h' (by omega) h0 hbk);rw[←this];exact th (qC hbk) eP
   ·refine th (zE hbk) (th eM ?_);exact ih f (q-1) (r+y1) h' (by omega) (by rw[aP,bE]at hk;omega) (by omega)
  ·have:=BM h (by omega) hy1 (by omega);rw[aN hc,←this];rfl
theorem Kf{a b:Nat}{k:D→Rs}:kv (n64 a) (n64 b) k=k (n64 (a*b%18446744073709551616)):=by
 unfold kv;rw[show n64 a=.i .u64 (.ofNat a)from rfl,show n64 b=.i .u64 (.ofNat b)from rfl,qA];exact zp
theorem Rk{a b:Nat}{k:D→Rs}:ee (n64 a) (n64 b) k=k (n64 ((a+b)%18446744073709551616)):=by
 unfold ee;rw[show n64 a=.i .u64 (.ofNat a)from rfl,show n64 b=.i .u64 (.ofNat b)from rfl,qA];exact zp
theorem Xj{a b:Nat}{k:D→Rs}(ha:a<18446744073709551616)(hb:b<18446744073709551616):et (n64 a) (n64 b) k=k (n64 ((a+18446744073709551616-b)%18446744073709551616)):=by
 unfold et;rw[show n64 a=.i .u64 (.ofNat a)from rfl,show n64 b=.i .u64 (.ofNat b)from rfl,qA];by_cases h:b≤a
 ·rw[aF h,eL,zp,show Nat.sub a b=a-b from rfl,bJ (show a-b<18446744073709551616 by omega),show(a+18446744073709551616-b)%18446744073709551616=a-b by omega];rfl
 ·rw[kY h,e9,show Nat.beq (uO .u64) 0=false from rfl,e9,aF (show b≤uO .u64 from dN hb),eL];exact zp
theorem N9{A C d:Nat}(h1:C≤A+d)(h2:A+d-C<18446744073709551616):((A%18446744073709551616+d)%18446744073709551616+18446744073709551616-C%18446744073709551616)%18446744073709551616=A+d-C:=by omega
theorem Ve{h l z:Nat}(hz:z≤64)(hl:l<18446744073709551616):h*2^z|||l/2^(64-z)=h*2^z+l/2^(64-z):=by
 rw[aK,←dZ];rw[bn (bR (by decide)),←bY,cP hz];exact hl
theorem Z2{N P y q r:Nat}(hy:0<y)(hP:0<P)(e:N*P=q*(y*P)+r)(hr:r<y*P):q=N/y∧r/P=N%y:=by
 have hy0:0<y*P:=cW hy hP;have q1:N*P/(y*P)=q:=by rw[e,aK q,z19 hy0,cL hr,bH]
 have r1:N*P%(y*P)=r:=by rw[e,aK q,Nat.mul_add_mod,bJ hr]
 rw[Nat.mul_div_mul_right _ _ hP]at q1;rw[z13]at r1;exact⟨q1.symm,by rw[←r1,z1j _ hP]⟩
theorem nlt{h l y M P u v:Nat}(hlt:h<y)(hl:l<M)(hP:0<P)(e:(h*M+l)*P=u*M+v):u<y*P:=by
 rcases az u (y*P)with hh|hh
 ·exact hh
 ·exfalso;have k1:y*P*M≤u*M:=aL _ hh;have k0:h*M+l+1≤y*M:=by
   have:=aL M hlt;rw[cr]at this;omega
  have k2:=aL P k0;rw[aP _ 1,bE,e,dJ y]at k2;omega
theorem TH{a b:Nat}{k:D→Rs}(ha:a<18446744073709551616)(hb:b<18446744073709551616):kOr (.i .u64 (.ofNat a)) (.i .u64 (.ofNat b)) k=k (.i .u64 (.ofNat (a|||b))):=VL (bc ha) (bc hb)
theorem EV{φ h l y N:Nat}(hNN:h*18446744073709551616+l=N)(hl:l<18446744073709551616)(hy:y<18446744073709551616)(hlt:h<y)(hφ:4<φ):
 gU φ [n64 h,n64 l,n64 y]=some (.tup [n64 (N/y),n64 (N%y)]):=by
 rw[wz];unfold ul;dsimp only[eV,eZ];refine th ph (th (tO (show y≠0 by omega)) (th eM (th ph (th yG ?_))));rw[kY (by omega)];refine th eM ?_;by_cases h0:h=0
 ·subst h0;refine th (qE rfl) (th eP (th (KY (by omega) hl) (th (JO (by omega)) ?_)));have e0:l=N:=by rw[←hNN,bP,aV]
  subst e0;rfl
 obtain⟨z,z1,z2,z3,z4⟩:=HK (φ:=φ) hy (by omega);have hpz:0<2^z:=bR (by decide);have e64:2^z*2^(64-z)=18446744073709551616:=by rw[←bY,cP (by omega)]
 have hhz:h*2^z<y*2^z:=dD hlt hpz;have hlz:l/2^(64-z)<2^z:=by rw[bn (bR (by decide)),e64];exact hl
 have hl2:l*2^z/18446744073709551616=l/2^(64-z):=by
  rw[←e64,aK l,Nat.mul_div_mul_left _ _ hpz]
 have hsum:=cR (l*2^z) 18446744073709551616;rw[hl2]at hsum;refine th (tO h0) (th eM (th (fP z4) (th (we (bc (show z<18446744073709551616 by omega))) (th (uh (by omega)) ?_))));rw[bJ z2];refine th B2 (th (AX z2) (th (uh (by omega)) ?_));rw[bJ (show h*2^z<18446744073709551616 by omega)];have hstep:(h+1)*2^z≤y*2^z:=aL _ hlt;rw[aP,bE]at hstep;refine th (wS (by omega) (by omega)) (th (uB (by omega)) (th (TH (by omega) (by omega)) (th (uh (by omega)) ?_)));rw[Ve (by omega) hl];have hN:(h*18446744073709551616+l)*2^z=(h*2^z+l/2^(64-z))*18446744073709551616+l*2^z%18446744073709551616:=by
  rw[aP,aP,dJ,cx,aK (l/_),hsum]
 have hu:=nlt hlt hl hpz hN;rw[hNN]at hN;clear hNN hsum hl2 e64 hstep;have hmodlt:l*2^z%18446744073709551616<18446744073709551616:=bg _ (by decide);have hfin:∀q r,(h*2^z+l/2^(64-z))*18446744073709551616+l*2^z%18446744073709551616=q*(y*2^z)+r→r<y*2^z→q=N/y∧r/2^z=N%y:=
  λq r e hr=>Z2 (by omega) hpz (hN.trans e) hr
 generalize h*2^z+l/2^(64-z)=u at*;generalize l*2^z%18446744073709551616=v at*;generalize hY:y*2^z=Y at*;have hYd:Y=Y/4294967296*4294967296+Y%4294967296:=by omega
 have hvd:v=v/4294967296*4294967296+v%4294967296:=by omega
 have b1:0<Y/4294967296:=by omega
 have b2:Y/4294967296<4294967296:=by omega
 have b3:4294967296≤2*(Y/4294967296):=by omega
 have b4:Y%4294967296<4294967296:=by omega
 have b5:v/4294967296<4294967296:=by omega
 have b6:v%4294967296<4294967296:=by omega
 have b7:u<Y/4294967296*4294967296+Y%4294967296:=by omega
 refine th B2 (th (AX hmodlt) (th (KY (by omega) (by omega)) ?_));generalize Y/4294967296=y1 at*;generalize Y%4294967296=y0 at*;generalize v/4294967296=v1 at*;generalize v%4294967296=v0 at*;have main:∀(u d:Nat)(K:D→Rs),u<y1*4294967296+y0→(kv (n64 (u/y1)) (n64 y1) λx28=>et (n64 u) x28 K)=K (n64 (u%y1)):=by
  intro u d K hu;have hm:=dE u y1;have hle:u/y1*y1≤u:=dF u y1;refine th (Bo (by omega)) (th (wS hle (by omega)) ?_);have e:u-u/y1*y1=u%y1:=by rw[aK (u/y1)];omega
  rw[e];rfl
 refine th (main u 0 _ b7) (th ph ?_);obtain⟨i1,i2⟩:=LQ (d:=v1) b7 b3 b4 b5 b1;have i3:u%y1<y1:=bg _ b1;refine th (XK b1 b2 b4 b5 i2 3 φ _ _ i1 (by omega) (by omega) hφ) ?_;rw[←hYd]at i2 ⊢;have hY0:0<Y:=by omega
 have c1:=cR (u*4294967296+v1) Y;have c2:=bg (u*4294967296+v1) hY0;generalize hq1:(u*4294967296+v1)/Y=q1 at*;generalize (u*4294967296+v1)%Y=w at*;rw[aK Y]at c1;have wr:∀(A C d w:Nat)(K:D→Rs),C+w=A+d→w<18446744073709551616→et (n64 ((A%18446744073709551616+d)%18446744073709551616)) (n64 (C%18446744073709551616)) K=K (n64 w):=by
  intro A C d w K h1 h2;refine th (Xj (bg _ (by decide)) (bg _ (by decide))) ?_;rw[N9 (by omega) (by omega),show A+d-C=w by omega]
 refine th Kf (th Rk (th Kf (th (wr _ _ _ w _ c1 (by omega)) (th (KY (by omega) (by omega)) (th (main w 0 _ (by omega)) (th ph ?_))))));have b8:w<y1*4294967296+y0:=by omega
 obtain⟨j1,j2⟩:=LQ (d:=v0) b8 b3 b4 b6 b1;have j3:w%y1<y1:=bg _ b1;refine th (XL b1 b2 b4 b6 j2 3 φ _ _ j1 (by omega) (by omega) hφ) ?_;rw[←hYd]at j2 ⊢;have c3:=cR (w*4294967296+v0) Y;have c4:=bg (w*4294967296+v0) hY0;clear hq1 i1;generalize hq0:(w*4294967296+v0)/Y=q0 at*;generalize (w*4294967296+v0)%Y=r at*;rw[aK Y]at c3;have hf:=hfin (q1*4294967296+q0) r (by
  rw[aP,dJ];revert c1 c3;generalize q1*Y=C1;generalize q0*Y=C0;intro c1 c3;omega) c4
 refine th (Bo (by omega)) (th (tg (by omega)) (th Kf (th Rk (th Kf (th (wr _ _ _ r _ c3 (by omega)) (th (uB (by omega)) ?_))))));refine Eq.trans (b:=some (.tup [n64 (q1*4294967296+q0),n64 (r/2^z)])) rfl ?_;obtain⟨f1,f2⟩:=hf;rw[f1,f2]
section
variable {B:Nat}
theorem Fl{ws:List Nat}{i w:Nat}(h:ws[i]?=some w):dgt ws i=w:=by unfold dgt;rw[aH,h];rfl
theorem jE{ws:List Nat}{i:Nat}(h:i<ws.length):ws[i]?=some (dgt ws i):=by
 have hw:=aB h;rw[hw,Fl hw]
theorem xi(hB:2≤B){a b:List Nat}(sa:Sm B a)(tb:Tm b)(h:a.length<b.length):vl B a<vl B b:=by
 have h1:=t7 sa;have h2:=xa (B:=B) tb (by intro e;rw[e]at h;simp at h);have h3:B^a.length≤B^(b.length-1):=ba (by omega) (by omega);omega
theorem z5{ws:List Nat}{i:Nat}(h:i≤ws.length):vl B ws=vl B (ws.take i)+B^i*(dgt ws i+B*vl B (ws.drop (i+1))):=by
 have:=qq (B:=B) (ws.take i) (ws.drop i);rw[cO,ah,bO (by omega),pf]at this;exact this
theorem DZ{zs ys:List Nat}{i:Nat}(hB:0<B)(sz:Sm B zs)(hz:i<zs.length)(hy:i<ys.length)(hd:zs.drop (i+1)=ys.drop (i+1))(h:dgt zs i<dgt ys i):vl B zs<vl B ys:=by
 rw[z5 (show i≤zs.length by omega),z5 (show i≤ys.length by omega),hd];have lz:vl B (zs.take i)<B^i:=by
  have:=t7 (rV (n:=i) sz);rw[ah,bO (by omega)]at this;exact this
 generalize vl B (ys.drop (i+1))=R;have:B^i*((dgt zs i+B*R)+1)≤B^i*(dgt ys i+B*R):=aZ _ (by omega);rw[bA _ _ 1]at this;omega
end
theorem RL{x y:Nat}(h:x<y):xW x y=.i .i64 (.negSucc 0):=by unfold xW;rw[ep h];rfl
theorem RM{x y:Nat}(h:y<x):xW x y=.i .i64 (.ofNat 1):=by unfold xW;rw[fC (by omega),gG (by omega)];rfl
theorem RN{x:Nat}:xW x x=.i .i64 (.ofNat 0):=by unfold xW;rw[fC (by omega),ej];rfl
theorem Jg{φ n:Nat}{zs ys:List Nat}{e1 e2:Bool}{s:LS}(sz:Sm B64 zs)(sy:Sm B64 ys)(hz:zs.length=n)(hy:ys.length=n)(hn:n<9223372036854775808):∀(i f:Nat),i<n→i+1<f→zs.drop (i+1)=ys.drop (i+1)→
 lp (λ(_ _ _:D)(_:LS)=>none) (lr φ) f (.tree (c64 zs) n e1) (.tree (c64 ys) n e2) (.i .i64 (.ofNat i)) s=some (xW (vl B64 zs) (vl B64 ys)):=by
 have step:∀(i:Nat)(q:D→D→D→LS→Rs),i<n→zs.drop (i+1)=ys.drop (i+1)→lr φ q (.tree (c64 zs) n e1) (.tree (c64 ys) n e2) (.i .i64 (.ofNat i)) s=
  if dgt zs i=dgt ys i then et (.i .i64 (.ofNat i)) (.i .i64 (.ofNat 1)) λx26=>q (.tree (c64 zs) n e1) (.tree (c64 ys) n e2) x26 s else some (xW (vl B64 zs) (vl B64 ys)):=by
  intro i q hi hd;have gz:(c64 zs)[i*1]?=some (n64 (dgt zs i)):=by rw[ai];exact kP (jE (by omega))
  have gy:(c64 ys)[i*1]?=some (n64 (dgt ys i)):=by rw[ai];exact kP (jE (by omega))
  unfold lr;refine th (qC (by omega)) (th eP (th (uv hi (by rw[fO];omega)) (th (vk gz) (th (uv hi (by rw[fO];omega)) (th (vk gy) ?_)))));by_cases he:dgt zs i=dgt ys i
  ·rw[aC he];exact th (o6 he) eM
  ·rw[aE he];refine th (qU he) (th eP (th (uv hi (by rw[fO];omega)) (th (vk gz) (th (uv hi (by rw[fO];omega)) (th (vk gy) ?_)))));by_cases hl:dgt zs i<dgt ys i
   ·rw[RL (DZ (by decide) sz (by omega) (by omega) hd hl)];exact th (fk hl) rfl
   ·rw[RM (DZ (by decide) sy (by omega) (by omega) hd.symm (by omega))];exact th (fy hl) rfl
 intro i
 induction i with
 |zero=>
  intro f hi hf hd;obtain⟨f,rfl⟩:∃q,f=q+2:=⟨f-2,by omega⟩
  rw[eO,step 0 _ hi hd];by_cases he:dgt zs 0=dgt ys 0
  ·rw[aC he];refine th (nJ (by omega) (by omega)) ?_;rw[eO];refine th pJ (th eM ?_);have:zs=ys:=by
    have a1:=mz (jE (show 0<zs.length by omega));have a2:=mz (jE (show 0<ys.length by omega));rw[aj]at a1 a2;rw[a1,a2,he,hd]
   rw[this,RN];rfl
  ·rw[aE he]
 |succ i ih=>
  intro f hi hf hd;obtain⟨f,rfl⟩:∃q,f=q+1:=⟨f-1,by omega⟩
  rw[eO,step (i+1) _ hi hd];by_cases he:dgt zs (i+1)=dgt ys (i+1)
  ·rw[aC he];refine th (gR (by omega) (by omega)) ?_;rw[a7];refine ih f (by omega) (by omega) ?_;rw[mz (jE (show i+1<zs.length by omega)),mz (jE (show i+1<ys.length by omega)),he,hd]
  ·rw[aE he]
theorem RJ{φ n m:Nat}{zs ys:List Nat}{e1 e2:Bool}(hz:zs.length=n)(hy:ys.length=m)(sz:Sm B64 zs)(sy:Sm B64 ys)(tz:Tm zs)(ty:Tm ys)(hn:n<9223372036854775807)(hm:m<9223372036854775807)(hφ:n+1<φ):
 iT φ [.tree (c64 zs) n e1,.tree (c64 ys) m e2]=some (xW (vl B64 zs) (vl B64 ys)):=by
 rw[vY];unfold tS;dsimp only[eV,eZ];refine th fH (th fH ?_);by_cases he:n=m
 ·subst he;refine th (o6 rfl) (th eM (th fH ?_));cases n with
  |zero=>
   obtain⟨φ,rfl⟩:∃q,φ=q+1:=⟨φ-1,by omega⟩
   have h1:zs=[]:=a8 hz;have h2:ys=[]:=a8 hy;subst h1;subst h2;refine th (nJ (by omega) (by omega)) ?_;rw[eO,RN];exact th pJ (th eM rfl)
  |succ n=>
   refine th (gR (by omega) (by omega)) ?_;rw[a7];exact Jg sz sy hz hy (by omega) n φ (by omega) (by omega) (by rw[bh (by omega),bh (by omega)])
 ·refine th (qU he) (th eP (th fH (th fH ?_)));by_cases hl:n<m
  ·rw[RL (xi (by decide) sz ty (by omega))];exact th (fk hl) rfl
  ·rw[RM (xi (by decide) sy tz (by omega))];exact th (fy hl) rfl
theorem qV{ws:List Nat}{i j w:Nat}(h:i≠j):dgt (ws.set i w) j=dgt ws j:=by
 unfold dgt;rw[aH,aH,bV h]
theorem WQ{a c z M:Nat}(hz:z≤64)(hc:c<2^z)(hM:M=2^64):c|||a*2^z%M=c+a*2^z%M∧c+a*2^z%M<M:=by
 subst hM;have e:a*2^z%2^64=2^z*(a%2^(64-z)):=by
  rw[show(2:Nat)^64=2^z*2^(64-z) by rw[←bY,cP hz],aK a,Nat.mul_mod_mul_left]
 have hlt:a%2^(64-z)+1≤2^(64-z):=bg _ (bR (by decide));have h2:=aZ (2^z) hlt;rw[←bY,cP hz,bA,ai]at h2;rw[e];refine⟨?_,by omega⟩;rw[Nat.or_comm,←dZ hc,ct]
theorem MJ{a z:Nat}(hz:z≤64)(M:Nat)(hM:M=2^64):a*2^z%M+M*(a/2^(64-z))=a*2^z:=by
 subst hM;have:=dE (a*2^z) (2^64);have e:a*2^z/2^64=a/2^(64-z):=by
  rw[show(2:Nat)^64=2^z*2^(64-z) by rw[←bY,cP hz],aK a,Nat.mul_div_mul_left _ _ (bR (by decide))]
 rw[e]at this;exact this
theorem IV{os ws:List Nat}{i z M:Nat}(hM:M=2^64)(hz:z≤64)(hi:i+1<os.length)(h0:dgt os (i+1)=0)(hv:vl M os=vl M (ws.take i)*2^z)(hw:vl M (ws.take (i+1))=vl M (ws.take i)+dgt ws i*M^i):
 vl M ((os.set i (dgt os i+dgt ws i*2^z%M)).set (i+1) (dgt ws i/2^(64-z)))=vl M (ws.take (i+1))*2^z:=by
 have h1:=rS (B:=M) (dgt os i+dgt ws i*2^z%M) (jE (show i<os.length by omega));have hg:(os.set i (dgt os i+dgt ws i*2^z%M))[i+1]?=some 0:=by rw[bV (by omega),jE (by omega),h0]
 have h2:=rS (B:=M) (dgt ws i/2^(64-z)) hg;rw[bP,bH,av]at h2;have h3:=MJ (a:=dgt ws i) hz M hM;rw[h2,hw,aP,←hv];rw[aP]at h1;generalize dgt ws i*2^z%M=lo at*;generalize dgt ws i/2^(64-z)=hi' at*;have h4:(lo+M*hi')*M^i=dgt ws i*2^z*M^i:=by rw[h3]
 rw[aP]at h4;have h5:hi'*(M^i*M)=M*hi'*M^i:=by grind
 have h6:dgt ws i*M^i*2^z=dgt ws i*2^z*M^i:=dJ _ _ _;omega
theorem oo{B:Nat}(ws:List Nat)(i:Nat):vl B (ws.take (i+1))=vl B (ws.take i)+dgt ws i*B^i:=by
 by_cases h:i<ws.length
 ·rw[cH,jE h,qq,ah,bO (by omega)];show _+B^i*(dgt ws i+B*0)=_;rw[dG,bH,aK]
 ·have e:dgt ws i=0:=by unfold dgt;rw[aH,bX (by omega)];rfl
  rw[aM (by omega),aM (by omega),e];simp
theorem V1{X:D}{bs:List Blk}{ws:List Nat}{n:Nat}(hA:WS 1 bs X (c64 ws) n)(h0:0<n):eX true (mem bs) X some=some (.own (c64 ws) n 1):=by
 have hc:=iQ hA;generalize hcs:c64 ws=cs at hA;cases hA with
 |nil=>omega
 |blk hg hc' hm=>
  subst hcs;rw[ye hg (vT ws) (by omega),aM (by omega)]
theorem OD{φ n z:Nat}{O:D}{ws:List Nat}{ex:Bool}(hz:z≤63)(hl:ws.length=n)(sw:Sm B64 ws)(hn:n≤100000000000):∀(k i f:Nat)(bs:List Blk)(os:List Nat),WS 1 bs O (c64 os) (n+1)→Sm B64 os→vl B64 os=vl B64 (ws.take i)*2^z→dgt os i<2^z→(∀t,i<t→dgt os t=0)→i+k=n→k+1<f→
 ∃os',os'.length=n+1∧Sm B64 os'∧vl B64 os'=vl B64 ws*2^z∧lp (λ(_ _ _ _ _:D)(_:LS)=>none) (iV φ) f (.i .i64 (.ofNat z)) O (.tree (c64 ws) n ex) (.i .i64 (.ofNat n)) (.i .i64 (.ofNat i)) (mem bs)=some (.own (c64 os') (n+1) 1):=by
 intro k
 induction k with
 |zero=>
  intro i f bs os aO so hv hd h0 hk hf;obtain⟨f,rfl⟩:∃q,f=q+1:=⟨f-1,by omega⟩
  have hol:=iQ aO;rw[fO]at hol;refine⟨os,by omega,so,by rw[hv,aM (by omega)],?_⟩;rw[eO];exact th (fy (by omega)) (th eM (V1 aO (by omega)))
 |succ k ih=>
  intro i f bs os aO so hv hd h0 hk hf;obtain⟨f,rfl⟩:∃q,f=q+1:=⟨f-1,by omega⟩
  have hol:=iQ aO;rw[fO]at hol;have hw:dgt ws i<18446744073709551616:=jF sw (by decide) i;have gw:(c64 ws)[i*1]?=some (n64 (dgt ws i)):=by rw[ai];exact kP (jE (by omega))
  obtain⟨o1,o2⟩:=WQ (a:=dgt ws i) (M:=18446744073709551616) (by omega) hd (by decide);have hst:=IV (os:=os) (ws:=ws) (i:=i) (z:=z) (M:=B64) (by decide) (by omega) (by omega) (h0 _ (by omega)) hv (oo ws i);have hhi:dgt ws i/2^(64-z)<2^z:=by
   rw[bn (bR (by decide)),←bY,cP (by omega)];exact hw
  generalize hv1:dgt os i+dgt ws i*2^z%18446744073709551616=v1 at*;by_cases hz0:0<z
  ·obtain⟨b1,a1,a2,a3,a4⟩:=vB (w:=v1) (i:=i) (kk:=.i64) (K:=λ_ s=>kC (.i .i64 (.ofNat z)) (.i .i64 (.ofNat 0)) λx28=>eQ x28
    (ee (.i .i64 (.ofNat i)) (.i .i64 (.ofNat 1)) λx29=>et (.i .i64 (.ofNat 64)) (.i .i64 (.ofNat z)) λx30=>o5 (n64 (dgt ws i)) x30 λx31=>eK 1 s O x29 λx32 s=>eU 1 s x32 x31 λ_ s=>ee (.i .i64 (.ofNat i)) (.i .i64 (.ofNat 1)) λx20=>lp (λ(_ _ _ _ _:D)(_:LS)=>none) (iV φ) f (.i .i64 (.ofNat z)) O (.tree (c64 ws) n ex) (.i .i64 (.ofNat n)) x20 s)
    (ee (.i .i64 (.ofNat i)) (.i .i64 (.ofNat 1)) λx20=>lp (λ(_ _ _ _ _:D)(_:LS)=>none) (iV φ) f (.i .i64 (.ofNat z)) O (.tree (c64 ws) n ex) (.i .i64 (.ofNat n)) x20 s)) aO (show i<n+1 by omega)
   obtain⟨b2,g1,g2,g3,g4⟩:=vB (w:=dgt ws i/2^(64-z)) (i:=i+1) (kk:=.i64) (K:=λ_ s=>ee (.i .i64 (.ofNat i)) (.i .i64 (.ofNat 1)) λx20=>lp (λ(_ _ _ _ _:D)(_:LS)=>none) (iV φ) f (.i .i64 (.ofNat z)) O (.tree (c64 ws) n ex) (.i .i64 (.ofNat n)) x20 s) a1 (show i+1<n+1 by omega);have hhi2:dgt ws i/2^(64-z)<B64:=br (z16 _ _) hw;obtain⟨os',k1,k2,k3,k4⟩:=ih (i+1) f b2 _ g1 (oI (oI so o2) hhi2) hst (by rw[Fl (by rw[ao (by simp;omega)])];exact hhi) (λt ht=>by rw[qV (by omega),qV (by omega)];exact h0 t (by omega)) (by omega) (by omega);refine⟨os',k1,k2,k3,?_⟩;rw[eO];unfold iV;refine th (fk (by omega)) (th eP (th ph (th (uv (by omega) (by rw[fO];omega)) (th (vk gw) (th (py aO (jE (by omega))) (th (uh (by omega)) (th (TH (by omega) (bg _ (by decide))) ?_)))))));rw[o1];exact th a4 (th (mf hz0) (th eP (th (fM (by omega)) (th (gR (by omega) (by omega)) (th (uB (by omega)) (th g4 (th (fM (by omega)) k4)))))))
  ·have hz1:z=0:=by omega
   have hh0:dgt ws i/2^(64-z)=0:=cL (by rw[hz1];exact hw);rw[hh0]at hst;have hg:(os.set i v1)[i+1]?=some 0:=by rw[bV (by omega),jE (by omega),h0 _ (by omega)]
   have h2:=rS (B:=B64) 0 hg;rw[bP,bH,bH]at h2;rw[h2]at hst;obtain⟨b1,a1,a2,a3,a4⟩:=vB (w:=v1) (i:=i) (kk:=.i64) (K:=λ_ s=>kC (.i .i64 (.ofNat z)) (.i .i64 (.ofNat 0)) λx28=>eQ x28
    (ee (.i .i64 (.ofNat i)) (.i .i64 (.ofNat 1)) λx29=>et (.i .i64 (.ofNat 64)) (.i .i64 (.ofNat z)) λx30=>o5 (n64 (dgt ws i)) x30 λx31=>eK 1 s O x29 λx32 s=>eU 1 s x32 x31 λ_ s=>ee (.i .i64 (.ofNat i)) (.i .i64 (.ofNat 1)) λx20=>lp (λ(_ _ _ _ _:D)(_:LS)=>none) (iV φ) f (.i .i64 (.ofNat z)) O (.tree (c64 ws) n ex) (.i .i64 (.ofNat n)) x20 s)
    (ee (.i .i64 (.ofNat i)) (.i .i64 (.ofNat 1)) λx20=>lp (λ(_ _ _ _ _:D)(_:LS)=>none) (iV φ) f (.i .i64 (.ofNat z)) O (.tree (c64 ws) n ex) (.i .i64 (.ofNat n)) x20 s)) aO (show i<n+1 by omega)
   obtain⟨os',k1,k2,k3,k4⟩:=ih (i+1) f b1 _ a1 (oI so o2) hst (by rw[Fl hg];exact bR (by decide)) (λt ht=>by rw[qV (by omega)];exact h0 t (by omega)) (by omega) (by omega);refine⟨os',k1,k2,k3,?_⟩;rw[eO];unfold iV;refine th (fk (by omega)) (th eP (th ph (th (uv (by omega) (by rw[fO];omega)) (th (vk gw) (th (py aO (jE (by omega))) (th (uh (by omega)) (th (TH (by omega) (bg _ (by decide))) ?_)))))));rw[o1];exact th a4 (th (oO hz0) (th eM (th (fM (by omega)) k4)))
theorem AO{φ n z:Nat}{ws:List Nat}{ex:Bool}(hz:z≤63)(hl:ws.length=n)(sw:Sm B64 ws)(hn:n≤100000000000)(hφ:n+1<φ):
 ∃os,os.length=n+1∧Sm B64 os∧vl B64 os=vl B64 ws*2^z∧kd φ [.tree (c64 ws) n ex,.i .i64 (.ofNat z)]=some (.own (c64 os) (n+1) 1):=by
 obtain⟨os',k1,k2,k3,k4⟩:=OD (φ:=φ) (O:=.sl 0 0 (n+1) (n+1) 1 true) (ex:=ex) hz hl sw hn n 0 φ [⟨c64 (List.replicate (n+1) 0),.rw⟩] (List.replicate (n+1) 0) (WS.blk rfl (by rw[fO];simp) (aD _)) (zb (by decide)) (by rw[yW];simp[vl]) (by
  have:dgt (List.replicate (n+1) 0) 0=0:=rfl;rw[this];exact bR (by decide)) (λt ht=>by
  unfold dgt;rw[aH];cases h:(List.replicate (n+1) 0)[t]?with
  |none=>rfl
  |some w=>exact de (bU h)) (by omega) (by omega)
 refine⟨os',k1,k2,k3,?_⟩;rw[yU];unfold wN;dsimp only[eV,eZ];rw[←fm];refine th fH (th (fM (by omega)) (th (HE rfl (by omega) (by omega)) (th fH ?_)));rw[rC,uk];exact k4
variable {bs:List Blk} {us:List Nat} {l off n cm i w:Nat} {ex:Bool} {kk:IntKind} {K:D→LS→Rs}
theorem te(h:bs[l]?=some ⟨c64 us,.rw⟩)(hi:i<n)(ho:off+i<us.length):(eK 1 (mem bs) (.sl l off n cm 1 ex) (.i kk (.ofNat i)) λa s=>eJ s a K)=K (n64 (dgt us (off+i))) (mem bs):=by
 refine th (AB h rfl hi) ?_;rw[ai];exact F1 h rfl (kP (jE ho))
theorem zQ(h:bs[l]?=some ⟨c64 us,.rw⟩)(hi:i<n)(ho:off+i<us.length):(eK 1 (mem bs) (.sl l off n cm 1 ex) (.i kk (.ofNat i)) λa s=>eU 1 s a (n64 w) K)=K .u (mem (bs.set l ⟨c64 (us.set (off+i) w),.rw⟩)):=by
 have hl:lay (off+i) (c64 [w]) (c64 us)=some (c64 (us.set (off+i) w)):=by
  rw[←sh,show c64 [w]=[D.i .u64 (.ofNat w)]from rfl,wc (by rw[fO];omega),wE]
 refine th (AB h rfl hi) ?_;rw[ai];exact GT h rfl (hx:=rfl) (hn:=rfl) (h1:=rfl) (hl:=hl)
theorem uy{us':List Nat}(h:bs[l]?=some ⟨c64 us,.rw⟩):(bs.set l ⟨c64 us',.rw⟩)[l]?=some ⟨c64 us',.rw⟩:=by rw[ao (fE h)]
theorem gg{l':Nat}{b b':Blk}(hne:l≠l')(h:bs[l']?=some b):(bs.set l b')[l']?=some b:=by rw[bV hne];exact h
theorem GR{a b c:Nat}(ha:a<18446744073709551616)(hb:b<18446744073709551616)(hc:c≤1):∃d c',(∀(s:LS)(K:D→LS→Rs),sW (n64 a) (n64 b) (n64 c) s K=K (.tup [n64 d,n64 c']) s)∧d<18446744073709551616∧c'≤1∧d+b+c=a+c'*18446744073709551616:=by
 refine⟨_,_,λs K=>HV hc,bg _ (by decide),?_,?_⟩
 ·split<;>omega
 ·show(a+18446744073709551616-b-c)%18446744073709551616+b+c=_;split<;>omega
theorem WX{B j i v0 v1 vy z z' lo c c' b b' q y V:Nat}(hv:v0+q*vy*B^j=V+(b+c)*(B^j*B^i))(h1:v1+z*(B^j*B^i)=v0+z'*(B^j*B^i))(h2:z'+lo+b=z+b'*B)(h3:q*y+c=lo+B*c'):
 v1+q*(vy+y*B^i)*B^j=V+(b'+c')*(B^j*(B^i*B)):=by
 generalize B^j=P at*;generalize B^i=Q at*;have h4:(z'+lo+b)*(P*Q)=(z+b'*B)*(P*Q):=by rw[h2]
 have h5:(q*y+c)*(P*Q)=(lo+B*c')*(P*Q):=by rw[h3]
 grind
theorem Pg{q y c lo c' B:Nat}(hq:q<B)(hy:y<B)(hc:c<B)(h3:q*y+c=lo+B*c'):c'<B:=by
 rcases az c' B with h|h
 ·exact h
 ·exfalso;have h1:B*B≤B*c':=aZ _ h;have h2:q*y≤(B-1)*(B-1):=bv (by omega) (by omega);have h4:(B-1)*(B-1)+(B-1)=(B-1)*B:=by rw[←Nat.mul_succ];congr 1;omega
  have h5:(B-1)*B=B*B-B:=by rw[z1F,bE]
  have h6:B≤B*B:=z0V _ (by omega);omega
theorem YO{B q y c lo hi lo' cc:Nat}(m2:hi*B+lo'=q*y)(a4:cc*B+lo=lo'+c+0):q*y+c=lo+B*(hi+cc):=by
 rw[←m2,bA,aK B hi,aK B cc];omega
theorem SM{φ l lv j n cm cmv q V:Nat}{ex exv:Bool}{vf:List Nat}{kk:D→LS→Rs}(hq:q<B64)(sv:Sm B64 vf)(hvf:n≤vf.length)(hne:l≠lv)(hn:n≤100000000000):∀(k i f:Nat)(bs:List Blk)(us:List Nat)(b c:Nat),
 bs[l]?=some ⟨c64 us,.rw⟩→bs[lv]?=some ⟨c64 vf,.rw⟩→j+n<us.length→Sm B64 us→b≤1→c<B64→vl B64 us+q*vl B64 (vf.take i)*B64^j=V+(b+c)*(B64^j*B64^i)→i+k=n→k+1<f→
 ∃bs' us' b' c',bs'[l]?=some ⟨c64 us',.rw⟩∧bs'[lv]?=some ⟨c64 vf,.rw⟩∧us'.length=us.length∧Sm B64 us'∧b'≤1∧c'<B64∧vl B64 us'+q*vl B64 (vf.take n)*B64^j=V+(b'+c')*(B64^j*B64^n)∧(∀t,j+n≤t→dgt us' t=dgt us t)∧(∀l' x,l≠l'→bs[l']?=some x→bs'[l']?=some x)∧
 lp (λ(_ _ _ _ _ _ _ _:D)(_:LS)=>none) (ib φ kk) f (.sl l j (n+1) cm 1 ex) (.sl lv 0 n cmv 1 exv) (.i .i64 (.ofNat n)) (n64 q) (n64 b) (n64 c) (.i .i64 (.ofNat n)) (.i .i64 (.ofNat i)) (mem bs)=
 lp (λ(_ _ _ _ _ _ _ _:D)(_:LS)=>none) (ib φ kk) (f-k) (.sl l j (n+1) cm 1 ex) (.sl lv 0 n cmv 1 exv) (.i .i64 (.ofNat n)) (n64 q) (n64 b') (n64 c') (.i .i64 (.ofNat n)) (.i .i64 (.ofNat n)) (mem bs'):=by
 intro k
 induction k with
 |zero=>
  intro i f bs us b c h1 h2 hl su hb hc hv hi hf;have:i=n:=by omega
  subst this;exact⟨bs,us,b,c,h1,h2,rfl,su,hb,hc,hv,λ_ _=>rfl,λ_ _ _ h=>h,rfl⟩
 |succ k ih=>
  intro i f bs us b c h1 h2 hl su hb hc hv hi hf;obtain⟨f,rfl⟩:∃p,f=p+1:=⟨f-1,by omega⟩
  have d1:dgt us (j+i)<B64:=jF su (by decide) _;have d2:dgt vf i<B64:=jF sv (by decide) _;obtain⟨hi',lo',m1,m2,m3⟩:=zo hq d2;obtain⟨lo,cc,a1,a2,a3,a4⟩:=vV (c:=0) m3 hc (by omega);obtain⟨z',b',s1,s2,s3,s4⟩:=GR d1 a2 hb;have h3:=YO m2 a4;have hcb:=Pg hq d2 hc h3;have hset:=rS (B:=B64) z' (jE (show j+i<us.length by omega));rw[bY]at hset;have hnew:=WX hv hset s4 h3;rw[←oo,←av]at hnew;obtain⟨bs',us',b2,c2,k1,k2,k3,k4,k5,k6,k7,k8,k9,k10⟩:=ih (i+1) f (bs.set l ⟨c64 (us.set (j+i) z'),.rw⟩) (us.set (j+i) z') b' (hi'+cc) (uy h1) (gg hne h2) (by rw[bD];exact hl) (oI su s2) s3 hcb hnew (by omega) (by omega);refine⟨bs',us',b2,c2,k1,k2,by rw[k3,bD],k4,k5,k6,k7,λt ht=>by rw[k8 t ht,qV (by omega)],λl' x hl' hx=>k9 l' x hl' (gg hl' hx),?_⟩;rw[eO];have e0:vf[0+i]?=some (dgt vf (0+i)):=jE (by omega);unfold ib;refine th (fk (by omega)) (th eP (th (te h2 (by omega) (by omega)) ?_));rw[aV];refine th (fP m1) (th mS (th mR (th (a1 _ _) (th mS (th mR (th (tg hcb) (th (te h1 (by omega) (by omega)) (th (s1 _ _) (th mS (th mR (th (zQ h1 (by omega) (by omega)) (th (fM (by omega)) ?_))))))))))));rw[bt f 1 k];exact k10
theorem X2{B j i v0 v1 vy z z' c c' y V:Nat}(hv:v0+c*(B^j*B^i)=V+vy*B^j)(h1:v1+z*(B^j*B^i)=v0+z'*(B^j*B^i))(h2:c'*B+z'=z+y+c):
 v1+c'*(B^j*(B^i*B))=V+(vy+y*B^i)*B^j:=by
 generalize B^j=P at*;generalize B^i=Q at*;have h4:(c'*B+z')*(P*Q)=(z+y+c)*(P*Q):=by rw[h2]
 grind
theorem SN{φ l lv j n cm cmv V:Nat}{ex exv:Bool}{x53:D}{vf:List Nat}{kk:D→LS→Rs}(sv:Sm B64 vf)(hvf:n≤vf.length)(hne:l≠lv)(hn:n≤100000000000):∀(k i f:Nat)(bs:List Blk)(us:List Nat)(c:Nat),
 bs[l]?=some ⟨c64 us,.rw⟩→bs[lv]?=some ⟨c64 vf,.rw⟩→j+n<us.length→Sm B64 us→c≤1→vl B64 us+c*(B64^j*B64^i)=V+vl B64 (vf.take i)*B64^j→i+k=n→k+1<f→
 ∃bs' us' c',bs'[l]?=some ⟨c64 us',.rw⟩∧bs'[lv]?=some ⟨c64 vf,.rw⟩∧us'.length=us.length∧Sm B64 us'∧c'≤1∧vl B64 us'+c'*(B64^j*B64^n)=V+vl B64 (vf.take n)*B64^j∧(∀t,j+n≤t→dgt us' t=dgt us t)∧(∀l' x,l≠l'→bs[l']?=some x→bs'[l']?=some x)∧
 lp (λ(_ _ _ _ _ _ _:D)(_:LS)=>none) (ou φ kk) f (.sl l j (n+1) cm 1 ex) (.sl lv 0 n cmv 1 exv) (.i .i64 (.ofNat n)) x53 (n64 c) (.i .i64 (.ofNat n)) (.i .i64 (.ofNat i)) (mem bs)=
 lp (λ(_ _ _ _ _ _ _:D)(_:LS)=>none) (ou φ kk) (f-k) (.sl l j (n+1) cm 1 ex) (.sl lv 0 n cmv 1 exv) (.i .i64 (.ofNat n)) x53 (n64 c') (.i .i64 (.ofNat n)) (.i .i64 (.ofNat n)) (mem bs'):=by
 intro k
 induction k with
 |zero=>
  intro i f bs us c h1 h2 hl su hc hv hi hf;have:i=n:=by omega
  subst this;exact⟨bs,us,c,h1,h2,rfl,su,hc,hv,λ_ _=>rfl,λ_ _ _ h=>h,rfl⟩
 |succ k ih=>
  intro i f bs us c h1 h2 hl su hc hv hi hf;obtain⟨f,rfl⟩:∃p,f=p+1:=⟨f-1,by omega⟩
  have d1:dgt us (j+i)<B64:=jF su (by decide) _;have d2:dgt vf i<B64:=jF sv (by decide) _;obtain⟨z',c',a1,a2,a3,a4⟩:=vV d1 d2 hc;have hset:=rS (B:=B64) z' (jE (show j+i<us.length by omega));rw[bY]at hset;have hnew:=X2 hv hset a4;rw[←oo,←av]at hnew;obtain⟨bs',us',c2,k1,k2,k3,k4,k5,k6,k7,k8,k9⟩:=ih (i+1) f (bs.set l ⟨c64 (us.set (j+i) z'),.rw⟩) (us.set (j+i) z') c' (uy h1) (gg hne h2) (by rw[bD];exact hl) (oI su a2) a3 hnew (by omega) (by omega);refine⟨bs',us',c2,k1,k2,by rw[k3,bD],k4,k5,k6,λt ht=>by rw[k7 t ht,qV (by omega)],λl' x hl' hx=>k8 l' x hl' (gg hl' hx),?_⟩;rw[eO];unfold ou;refine th (fk (by omega)) (th eP (th (te h1 (by omega) (by omega)) (th (te h2 (by omega) (by omega)) ?_)));rw[aV];refine th (a1 _ _) (th mS (th mR (th (zQ h1 (by omega) (by omega)) (th (fM (by omega)) ?_))));rw[bt f 1 k];exact k9
theorem W7{PN v1 v2 z z' c b b' B qv V:Nat}(h:v1+qv=V+(b+c)*PN)(h1:v2+z*PN=v1+z'*PN)(h2:z'+c+b=z+b'*B):v2+qv=V+b'*(B*PN):=by
 have h4:(z'+c+b)*PN=(z+b'*B)*PN:=by rw[h2]
 grind
theorem YY{P v q Q V v2 R lo:Nat}(hv:0<v)(hP:0<P)(hV:V=lo+P*R)(hlo:lo<P)(hQ:Q=R/v)(hq:Q≤q)(h:v2+q*v*P=V):q=Q:=by
 refine z0E ?_ hq;rw[hQ,d7 hv];rcases az R (q*v)with h1|h1
 ·exfalso;have:=aZ P h1;rw[Nat.succ_eq_add_one,bA,ai,aK P (q*v)]at this;omega
 ·exact h1
theorem Z8{P v q Q V v2 R lo X:Nat}(hv:0<v)(hP:0<P)(hV:V=lo+P*R)(hQ:Q=R/v)(hq:q≤Q+1)(hX:v2<X)(h:v2+q*v*P=V+X):q=Q+1:=by
 refine z0E hq ?_;rcases az Q q with h1|h1
 ·exact h1
 ·exfalso;have h2:q*v≤Q*v:=aL _ h1;have h3:=dF R v;rw[←hQ]at h3;have h4:q*v*P≤R*P:=aL _ (by omega);rw[aK R]at h4;omega
theorem Uf{PN B v3 c z' lo W:Nat}(hc:c≤1)(hlo:lo<PN)(h3:v3=lo+PN*z')(hz:z'<B)(hW:v3+c*PN=W+B*PN):c=1∧z'+1=B∧W=lo:=by
 have hc1:c=1:=by
  rcases(show c=0∨c=1 by omega)with h|h
  ·exfalso;subst h;have:=aZ PN (show z'+1≤B from hz);rw[bA,ai,aK PN B]at this;omega
  ·exact h
 subst hc1;have hz1:z'+1=B:=by
  rcases az (z'+1) B with h|h
  ·exfalso;have:=aZ PN (show z'+1+1≤B from h);rw[bA PN (z'+1) 1,bA PN z' 1,ai,aK PN B]at this;omega
  ·omega
 refine⟨rfl,hz1,?_⟩;subst hz1;rw[aP,bE,aK z']at hW;omega
end
end Go.Proofs.Ev
set_option maxRecDepth 10000
namespace Go.Proofs.Ev
noncomputable section
theorem YW{R U P V Ul vl' v Q:Nat}(hR:R=U*P+Ul)(hU:Ul<P)(hv:v=V*P+vl')(hQ:Q*v≤R):Q*V≤U:=by
 have h1:Q*(V*P)≤Q*v:=aZ _ (by omega);rw[←aU]at h1;have h2:Q*V*P<(U+1)*P:=by rw[aP,bE];omega
 exact bc (z1o h2)
theorem Z7{R U P V Ul vl' v Q q:Nat}(hP:0<P)(hR:R=U*P+Ul)(hv:v=V*P+vl')(hl:vl'<P)(hQ:R<(Q+1)*v)(hV:Q+1≤V)(hq:q*V≤U):q≤Q+1:=by
 rcases az (Q+1) q with h|h
 ·exfalso;have h1:(Q+2)*V*P≤q*V*P:=aL _ (aL _ h);have h2:q*V*P≤U*P:=aL _ hq;have h3:(Q+1)*v≤(Q+1)*(V*P)+(Q+1)*P:=by rw[←bA];exact aZ _ (by omega)
  rw[←aU]at h3;have h4:(Q+2)*V*P=(Q+1)*V*P+V*P:=by rw[←aP];congr 1;rw[aP (Q+1) 1,bE]
  have h5:(Q+1)*P≤V*P:=aL _ hV;omega
 ·exact h
theorem Km{B q r u2 u1 u0 v1 v0:Nat}(h:q*v1+r=u2*B+u1)(h1:q*v0≤r*B+u0):q*(v1*B+v0)≤(u2*B+u1)*B+u0:=by
 rw[←h,bA,aP,←aU];omega
theorem W9{B q r u2 u1 u0 v1 v0 Q:Nat}(h:q*v1+r=u2*B+u1)(h1:r*B+u0<q*v0)(hQ:Q*(v1*B+v0)≤(u2*B+u1)*B+u0):Q+1≤q:=by
 rcases az Q q with h2|h2
 ·exact h2
 ·exfalso;have h3:q*(v1*B+v0)≤Q*(v1*B+v0):=aL _ h2;have h4:q*(v1*B+v0)=q*v1*B+q*v0:=by rw[bA,←aU]
  have h5:(u2*B+u1)*B=q*v1*B+r*B:=by rw[←h,aP]
  omega
theorem Za{hi lo r u0 B:Nat}(hl:lo<B)(hu:u0<B):(hi<r∨hi=r∧lo≤u0)↔hi*B+lo≤r*B+u0:=by
 constructor
 ·rintro (h|⟨h,h1⟩)
  ·have:=aL B h;rw[cr]at this;omega
  ·subst h;omega
 ·intro h;rcases dA hi r with h1|h1|h1
  ·exact Or.inl h1
  ·subst h1;exact Or.inr ⟨rfl,by omega⟩
  ·exfalso;have:=aL B h1;rw[cr]at this;omega
theorem Pw{B m u2 u1 u0 v1 v0 Rl vl' R v:Nat}(hB:2≤B)(hR:R=((u2*B+u1)*B+u0)*B^m+Rl)(hRl:Rl<B^m)(hv:v=(v1*B+v0)*B^m+vl')(hvl:vl'<B^m)
 (hu0:u0<B) (hu1:u1<B) (hv0:v0<B) (htop:B≤2*v1) (hlt:R<v*B):
 0<v∧u2≤v1∧R/v<B∧R/v*v1≤u2*B+u1∧(∀q,q*(v1*B+v0)≤(u2*B+u1)*B+u0→q≤R/v+1)∧R/v*(v1*B+v0)≤(u2*B+u1)*B+u0:=by
 have hP:0<B^m:=bR (by omega);have hv1:1≤v1:=by omega
 have hvB:B≤v1*B+v0:=by have:=aL B hv1;rw[bE]at this;omega
 have hvp:0<v:=by
  have:0<(v1*B+v0)*B^m:=cW (by omega) hP;omega
 have hQ:R/v<B:=by rw[bn hvp,aK];exact hlt
 have hQv:R/v*v≤R:=dF R v;have hQ1:R<(R/v+1)*v:=by rw[aP,bE,aK];exact Nat.lt_mul_div_succ R hvp
 have h1:B^(m+1)=B*B^m:=by rw[av,aK]
 have hl1:u0*B^m+Rl<B^(m+1):=by
  have:=aL (B^m) (show u0+1≤B from hu0);rw[aP,bE]at this;omega
 have hl2:v0*B^m+vl'<B^(m+1):=by
  have:=aL (B^m) (show v0+1≤B from hv0);rw[aP,bE]at this;omega
 have hR1:R=(u2*B+u1)*B^(m+1)+(u0*B^m+Rl):=by rw[hR,h1,aP,aU];omega
 have hv':v=v1*B^(m+1)+(v0*B^m+vl'):=by rw[hv,h1,aP,aU];omega
 refine⟨hvp,?_,hQ,YW hR1 hl1 hv' hQv,λq hq=>Z7 hP hR hv hvl hQ1 (by omega) hq,YW hR hRl hv hQv⟩;rcases az v1 u2 with h|h
 ·exfalso;have h2:(v1+1)*B^(m+1)*B≤u2*B^(m+1)*B:=aL _ (aL _ h);have h3:v<(v1+1)*B^(m+1):=by rw[aP,bE];omega
  have h4:v*B≤(v1+1)*B^(m+1)*B:=aL _ (dN h3);have h5:u2*B*B^(m+1)=u2*B^(m+1)*B:=by rw[dJ]
  have h6:(u2*B+u1)*B^(m+1)=u2*B*B^(m+1)+u1*B^(m+1):=aP _ _ _;omega
 ·exact h
theorem pY{B:Nat}:∀(k:Nat)(ws:List Nat),(∀t,k≤t→dgt ws t=0)→vl B ws=vl B (ws.take k)
 |k,[],_=>by simp
 |0,w::ws,h=>by
  have h0:w=0:=h 0 (aD _);have h1:=pY (B:=B) 0 ws (λt _=>h (t+1) (by omega));show w+B*vl B ws=0;rw[h0,h1];simp[vl]
 |k+1,w::ws,h=>by
  show w+B*vl B ws=w+B*vl B (ws.take k);rw[pY k ws (λt ht=>h (t+1) (by omega))]
theorem s7{ws:List Nat}{i t:Nat}:dgt (ws.drop i) t=dgt ws (i+t):=by
 unfold dgt;rw[aH,aH,bx]
theorem BT{B:Nat}{ws:List Nat}{j:Nat}(h:j≤ws.length):vl B ws=vl B (ws.take j)+B^j*vl B (ws.drop j):=by
 conv=>lhs;rw[←cO j ws]
 rw[qq,ah,bO h]
theorem mZ{B:Nat}{ws:List Nat}{k:Nat}(s:Sm B ws)(hB:0<B):vl B (ws.take k)<B^k:=by
 have h1:=t7 (B:=B) (ws:=ws.take k) (λw hw=>s w (bw hw));exact bp h1 (ba hB (by rw[ah];omega))
theorem Nh{B:Nat}{ws:List Nat}{m:Nat}(hz:∀t,m+3≤t→dgt ws t=0):vl B ws=((dgt ws (m+2)*B+dgt ws (m+1))*B+dgt ws m)*B^m+vl B (ws.take m):=by
 rw[pY (m+3) ws hz,oo,oo,oo,av B (m+1),av B m];generalize B^m=P;grind
theorem V5{B:Nat}{ws:List Nat}{m:Nat}:vl B (ws.take (m+2))=(dgt ws (m+1)*B+dgt ws m)*B^m+vl B (ws.take m):=by
 rw[oo,oo,av];generalize B^m=P;grind
structure StD (bs:List Blk) (us vf:List Nat) (l lv j n Q v:Nat) (bs':List Blk) (us':List Nat):Prop where
 b1:bs'[l]?=some ⟨c64 us',.rw⟩
 b2:bs'[lv]?=some ⟨c64 vf,.rw⟩
 len:us'.length=us.length
 sm:Sm B64 us'
 hi:∀t,j+n<t→dgt us' t=dgt us t
 val:vl B64 us'+Q*v*B64^j=vl B64 us
 keep:∀l' x,l≠l'→bs[l']?=some x→bs'[l']?=some x
theorem Ii{us:List Nat}{bs:List Blk}{l j n cm:Nat}{ex:Bool}{K:D→LS→Rs}(h:bs[l]?=some ⟨c64 us,.rw⟩)(hl:j+n<us.length){i:Nat}(hi:i≤n):(eK 1 (mem bs) (.sl l j (n+1) cm 1 ex) (.i .i64 (.ofNat i)) λa s=>eJ s a K)=K (n64 (dgt us (j+i))) (mem bs):=te h (by omega) (by omega)
theorem Zh{a b c V Q x y:Nat}(h1:a+c=b+y)(h2:b+(Q+y)=V+x)(h3:Q≤V):a+c=V-Q+x:=by omega
theorem MH{φ l lv j n cm cmv q Q:Nat}{ex exv:Bool}{us vf:List Nat}{bs:List Blk}{kk:D→LS→Rs}(hq:q<B64)(su:Sm B64 us)(sv:Sm B64 vf)(hvf:n≤vf.length)(hne:l≠lv)(hn:n≤100000000000)(hφ:n+4<φ)
 (h1:bs[l]?=some ⟨c64 us,.rw⟩) (h2:bs[lv]?=some ⟨c64 vf,.rw⟩) (hl:j+n<us.length) (hz:∀t,j+n<t→dgt us t=0) (hv:0<vl B64 (vf.take n)) (hQ:Q=vl B64 (us.drop j)/vl B64 (vf.take n)) (hq1:Q≤q) (hq2:q≤Q+1):
 ∃bs' us',StD bs us vf l lv j n Q (vl B64 (vf.take n)) bs' us'∧
 lp (λ(_ _ _ _ _ _ _ _:D)(_:LS)=>none) (ib φ kk) φ (.sl l j (n+1) cm 1 ex) (.sl lv 0 n cmv 1 exv) (.i .i64 (.ofNat n)) (n64 q) (n64 0) (n64 0) (.i .i64 (.ofNat n)) (.i .i64 (.ofNat 0)) (mem bs)=kk (n64 Q) (mem bs'):=by
 have hBp:0<B64:=by decide
 obtain⟨bs1,us1,b1,c1,g1,g2,g3,g4,g5,g6,g7,g8,g9,g10⟩:=SM (φ:=φ) (cm:=cm) (cmv:=cmv) (ex:=ex) (exv:=exv) (kk:=kk) (j:=j) (V:=vl B64 us) hq sv hvf hne hn n 0 φ bs us 0 0 h1 h2 hl su (by omega) (by decide) (by simp[vl]) (by omega) (by omega);have e0:n64 0=n64 0:=rfl;obtain⟨f,hf⟩:∃f,φ-n=f+1:=⟨φ-n-1,by omega⟩
 have d1:dgt us1 (j+n)<B64:=jF g4 hBp _;obtain⟨d2,b2,s1,s2,s3,s4⟩:=GR d1 g6 g5;have hset:=rS (B:=B64) d2 (jE (show j+n<us1.length by omega));rw[bY]at hset;have hv2:=W7 g7 hset s4;have hcut:=BT (B:=B64) (show j≤us.length by omega);have hlo:=mZ (k:=j) su hBp;have hP:0<B64^j:=bR hBp;have hPN:B64^j*B64^n=B64^(j+n):=(bY _ _ _).symm;refine Exists.elim (p:=λ_=>True) ⟨0,trivial⟩ λ_ _=>?_;rw[g10,hf,eO];have hb2:b2=0∨b2=1:=by omega
 rcases hb2 with rfl|rfl
 ·rw[bP,bH]at hv2;refine⟨bs1.set l ⟨c64 (us1.set (j+n) d2),.rw⟩,us1.set (j+n) d2,⟨uy g1,gg hne g2,by rw[bD,g3],oI g4 s2,λt ht=>by rw[qV (by omega),g8 t (by omega)],?_,λl' x hl' hx=>gg hl' (g9 l' x hl' hx)⟩,?_⟩
  ·have:=YY hv hP hcut hlo hQ hq1 hv2;rw[←this];exact hv2
  ·have:=YY hv hP hcut hlo hQ hq1 hv2;rw[←this];unfold ib;exact th (fy (by omega)) (th eM (th (Ii g1 (by omega) (aD n)) (th (s1 _ _) (th mS (th mR (th (zQ g1 (by omega) (by omega)) (th (qE rfl) eP)))))))
 ·have hz1:∀t,j+n+1≤t→dgt (us1.set (j+n) d2) t=0:=λt ht=>by rw[qV (by omega),g8 t (by omega),hz t (by omega)]
  have hX:vl B64 (us1.set (j+n) d2)<B64*(B64^j*B64^n):=by
   rw[pY (j+n+1) _ hz1,hPN];have:=mZ (k:=j+n+1) (oI (i:=j+n) g4 s2) hBp;rwa[av,aK]at this
  have hqQ:=Z8 hv hP hcut hQ hq2 hX (by rw[bE]at hv2;exact hv2);have hsm2:=oI (i:=j+n) g4 s2;obtain⟨bs3,us3,c3,k1,k2,k3,k4,k5,k6,k7,k8,k9⟩:=SN (φ:=φ) (cm:=cm) (cmv:=cmv) (ex:=ex) (exv:=exv) (x53:=n64 q) (kk:=kk) (j:=j) (V:=vl B64 (us1.set (j+n) d2)) sv hvf hne hn n 0 φ (bs1.set l ⟨c64 (us1.set (j+n) d2),.rw⟩) (us1.set (j+n) d2) 0 (uy g1) (gg hne g2) (by rw[bD];omega) hsm2 (by omega) (by simp[vl]) (by omega) (by omega);rw[bD]at k3;have hz3:∀t,j+n+1≤t→dgt us3 t=0:=λt ht=>by rw[k7 t (by omega),hz1 t ht]
  have d3:dgt us3 (j+n)<B64:=jF k4 hBp _;have h3v:vl B64 us3=vl B64 (us3.take (j+n))+B64^(j+n)*dgt us3 (j+n):=by
   conv=>lhs;rw[pY (j+n+1) us3 hz3,oo]
   rw[aK]
  have hQv:Q*vl B64 (vf.take n)*B64^j≤vl B64 us:=by
   have h4:Q*vl B64 (vf.take n)≤vl B64 (us.drop j):=by rw[hQ];exact dF _ _
   have h5:=aZ (B64^j) h4;rw[aK]at h5;omega
  rw[hPN]at k6 hv2;have hab:=Uf (PN:=B64^(j+n)) (B:=B64) (v3:=vl B64 us3) (c:=c3) (z':=dgt us3 (j+n)) (lo:=vl B64 (us3.take (j+n))) (W:=vl B64 us-Q*vl B64 (vf.take n)*B64^j) k5 (mZ k4 hBp) h3v d3 (by
   rw[hqQ,aP,aP,bE,bE]at hv2;exact Zh k6 hv2 hQv)
  obtain⟨e1,e2,e3⟩:=hab;have hset3:=rS (B:=B64) 0 (jE (show j+n<us3.length by omega));rw[bP,bH,aK]at hset3;refine⟨bs3.set l ⟨c64 (us3.set (j+n) 0),.rw⟩,us3.set (j+n) 0,⟨uy k1,gg hne k2,by rw[bD,k3,g3],oI k4 hBp,λt ht=>by rw[qV (by omega),k7 t (by omega),qV (by omega),g8 t (by omega)],by omega,λl' x hl' hx=>gg hl' (k8 l' x hl' (gg hl' (g9 l' x hl' hx)))⟩,?_⟩;obtain⟨f3,hf3⟩:∃f,φ-n=f+1:=⟨φ-n-1,by omega⟩
  have e4:(dgt us3 (j+n)+c3)%18446744073709551616=0:=by
   rw[e1,e2];decide
  unfold ib;refine th (fy (by omega)) (th eM (th (Ii g1 (by omega) (aD n)) (th (s1 _ _) (th mS (th mR (th (zQ g1 (by omega) (by omega)) (th (tO (by omega)) (th eM (k9.trans ?_)))))))));rw[hf3,eO];unfold ou;refine th (fy (by omega)) (th eM (th (Ii k1 (by omega) (aD n)) (th Rk ?_)));rw[e4];refine th (zQ k1 (by omega) (by omega)) (th (wS (by omega) (by have:=hq;show q<18446744073709551616;exact hq)) ?_);rw[hqQ,a7];rfl
theorem SL{φ l lv j m cm cmv Q u2 u1 u0 v1 v0:Nat}{ex exv:Bool}{us vf:List Nat}{bs:List Blk}{j11:D→D→D→D→LS→Rs}(sv:Sm B64 vf)(su:Sm B64 us)(hn:m≤100000000000)
 (h1:bs[l]?=some ⟨c64 us,.rw⟩) (h2:bs[lv]?=some ⟨c64 vf,.rw⟩) (hvf:m+2≤vf.length) (hl:j+(m+2)<us.length) (e2:dgt us (j+m)=u0) (f1:dgt vf (m+1)=v1) (f0:dgt vf m=v0) (hv1:9223372036854775808≤v1)
 (hQ:Q*(v1*B64+v0)≤(u2*B64+u1)*B64+u0):∀(k f q r o:Nat),q*v1+(r+o*B64)=u2*B64+u1→o≤1→Q≤q→q<B64→r<B64→(o=0→B64≤r+k*v1)→k+1<f→
 ∃q',Q≤q'∧q'<B64∧q'*(v1*B64+v0)≤(u2*B64+u1)*B64+u0∧
 lp (λ(_ _ _ _ _ _:D)(_:LS)=>none) (jO φ j11) f (.sl l j (m+3) cm 1 ex) (.sl lv 0 (m+2) cmv 1 exv) (.i .i64 (.ofNat (m+2))) (n64 q) (n64 r) (n64 o) (mem bs)=j11 (.sl l j (m+3) cm 1 ex) (.sl lv 0 (m+2) cmv 1 exv) (.i .i64 (.ofNat (m+2))) (n64 q') (mem bs):=by
 have hBp:0<B64:=by decide
 have hu0:u0<B64:=e2▸jF su hBp _;have hv0:v0<B64:=f0▸jF sv hBp _;have hv1':v1<B64:=f1▸jF sv hBp _;have one:∀(f q r:Nat),q*v1+(r+1*B64)=u2*B64+u1→q<B64→0<f→q*(v1*B64+v0)≤(u2*B64+u1)*B64+u0∧
  lp (λ(_ _ _ _ _ _:D)(_:LS)=>none) (jO φ j11) f (.sl l j (m+3) cm 1 ex) (.sl lv 0 (m+2) cmv 1 exv) (.i .i64 (.ofNat (m+2))) (n64 q) (n64 r) (n64 1) (mem bs)=j11 (.sl l j (m+3) cm 1 ex) (.sl lv 0 (m+2) cmv 1 exv) (.i .i64 (.ofNat (m+2))) (n64 q) (mem bs):=by
  intro f q r hq hqb hf;obtain⟨f,rfl⟩:∃p,f=p+1:=⟨f-1,by omega⟩
  refine⟨Km hq ?_,?_⟩
  ·have h3:q*v0≤B64*B64:=bv (dN hqb) (dN hv0);have h4:(r+1*B64)*B64=r*B64+B64*B64:=by rw[aP,bE]
   rw[h4];exact bT h3 (bT (z1C _ _) (z1z _ _))
  ·rw[eO];unfold jO;exact th (tO (by omega)) eM
 intro k
 induction k with
 |zero=>
  intro f q r o h0 ho hQq hq hr hk hf;have:o=1:=by
   rcases(show o=0∨o=1 by omega)with h|h
   ·have:=hk h;rw[bP]at this;omega
   ·exact h
  subst this;obtain⟨a,b⟩:=one f q r h0 hq (by omega);exact⟨q,hQq,hq,a,b⟩
 |succ k ih=>
  intro f q r o h0 ho hQq hq hr hk hf;rcases(show o=0∨o=1 by omega)with rfl|rfl
  ·obtain⟨f,rfl⟩:∃p,f=p+1:=⟨f-1,by omega⟩
   rw[bP,bH]at h0;obtain⟨hi,lo,m1,m2,m3⟩:=zo hq hv0;have hil:=Za (hi:=hi) (r:=r) m3 hu0;rw[m2]at hil;by_cases hc:q*v0≤r*B64+u0
   ·refine⟨q,hQq,hq,Km h0 hc,?_⟩;rw[eO];unfold jO;refine th (qE rfl) (th eP (th (gR (by omega) (by omega)) (th (te h2 (by omega) (by omega)) ?_)));rw[aV,show m+2-2=m by omega,f0];refine th (fP m1) (th mS (th mR ?_));rcases hil.2 hc with h3|⟨h3,h4⟩
    ·exact th (fk h3) (th jZ (th jZ (th jZ (th jZ (th uS (th uS (th uS (th uS (th uS (th uS (th uS (th jZ (th fe eP)))))))))))))
    ·refine th (fy (by omega)) (th gA (th gA (th gA (th (qE h3) (th gA (th fD (th fD (th fD (th fD (th (gR (by omega) (by omega)) (th fD ?_)))))))))));rw[show m+2-2=m by omega];refine Eq.trans (b:=eI (.b true) true (λk=>eK 1 (mem bs) (.sl l j (m+3) cm 1 ex) (.i .i64 (.ofNat m)) λa s=>eJ s a k) (mem bs) λx96 s=>_) rfl ?_;refine th fD (th (te h1 (by omega) (by omega)) ?_);rw[e2];refine th fD (th yG ?_);rw[aF h4];exact th gA (th fe (th gE eP))
   ·have hdec:=W9 h0 (show r*B64+u0<q*v0 by omega) hQ;obtain⟨d,c',a1,a2,a3,a4⟩:=vV (c:=0) hr hv1' (by omega);have hqm:(q-1)*v1+v1=q*v1:=by rw[←cr];congr 1;omega
    obtain⟨q',z1,z2,z3,z4⟩:=ih f (q-1) d c' (by omega) a3 (by omega) (by omega) a2 (λh=>by subst h;have:=hk rfl;rw[aP,bE]at this;omega) (by omega);refine⟨q',z1,z2,z3,?_⟩;rw[eO];unfold jO;refine th (qE rfl) (th eP (th (gR (by omega) (by omega)) (th (te h2 (by omega) (by omega)) ?_)));rw[aV,show m+2-2=m by omega,f0];refine th (fP m1) (th mS (th mR ?_));have fin:∀K:D→LS→Rs,K=(λx99 s=>eQ x99 (j11 (.sl l j (m+3) cm 1 ex) (.sl lv 0 (m+2) cmv 1 exv) (.i .i64 (.ofNat (m+2))) (n64 q) s)
     (et (n64 q) (.i .u64 (.ofNat 1)) λx100=>et (.i .i64 (.ofNat (m+2))) (.i .i64 (.ofNat 1)) λx101=>eK 1 s (.sl lv 0 (m+2) cmv 1 exv) x101 λx102 s=>eJ s x102 λx103 s=>nr (n64 r) x103 (.i .u64 (.ofNat 0)) s λx104 s=>gD x104 0 s λx105 s=>gD x104 1 s λx106 s=>
      lp (λ(_ _ _ _ _ _:D)(_:LS)=>none) (jO φ j11) f (.sl l j (m+3) cm 1 ex) (.sl lv 0 (m+2) cmv 1 exv) (.i .i64 (.ofNat (m+2))) x100 x105 x106 s))→
     K (.b false) (mem bs)=j11 (.sl l j (m+3) cm 1 ex) (.sl lv 0 (m+2) cmv 1 exv) (.i .i64 (.ofNat (m+2))) (n64 q') (mem bs):=by
     intro K hK;subst hK;refine th eM (th (wS (by omega) (by have:=hq;show q<18446744073709551616;exact hq)) (th (gR (by omega) (by omega)) (th (te h2 (by omega) (by omega)) ?_)));rw[aV,show m+2-1=m+1 by omega,f1];exact th (a1 _ _) (th mS (th mR z4))
    by_cases he:hi=r
    ·refine th (fy (by omega)) (th gA (th gA (th gA (th (qE he) (th gA (th fD (th fD (th fD (th fD (th (gR (by omega) (by omega)) (th fD ?_)))))))))));rw[show m+2-2=m by omega];refine Eq.trans (b:=eI (.b true) true (λk=>eK 1 (mem bs) (.sl l j (m+3) cm 1 ex) (.i .i64 (.ofNat m)) λa s=>eJ s a k) (mem bs) λx96 s=>_) rfl ?_;refine th fD (th (te h1 (by omega) (by omega)) ?_);rw[e2];refine th fD (th yG ?_);rw[kY (show ¬lo≤u0 from λh=>hc (hil.1 (Or.inr ⟨he,h⟩)))];exact th gA (th fe (th gE (fin _ rfl)))
    ·have hnlt:¬hi<r:=λh=>hc (hil.1 (Or.inl h));refine th (fy hnlt) (th gA (th gA (th gA (th (tO he) (th gA (th fj (th fj (th fj (th fj (th fj (th fj (th fj (th gA (th gE (th gE (fin _ rfl))))))))))))))))
  ·obtain⟨a,b⟩:=one f q r h0 hq (by omega);exact⟨q,hQq,hq,a,b⟩
theorem Nx{φ l lv j m cm cmv:Nat}{ex exv:Bool}{us vf:List Nat}{bs:List Blk}{kk:D→LS→Rs}(su:Sm B64 us)(sv:Sm B64 vf)(hvf:m+2≤vf.length)(hne:l≠lv)(hn:m≤10000000000)(hφ:m+10<φ)
 (h1:bs[l]?=some ⟨c64 us,.rw⟩) (h2:bs[lv]?=some ⟨c64 vf,.rw⟩) (hl:j+(m+2)<us.length) (hz:∀t,j+(m+2)<t→dgt us t=0) (hv1:9223372036854775808≤dgt vf (m+1)) (hlt:vl B64 (us.drop j)<vl B64 (vf.take (m+2))*B64):
 ∃bs' us',StD bs us vf l lv j (m+2) (vl B64 (us.drop j)/vl B64 (vf.take (m+2))) (vl B64 (vf.take (m+2))) bs' us'∧
 om φ [.sl l j (m+2+1) cm 1 ex,.sl lv 0 (m+2) cmv 1 exv] (mem bs) kk=kk (n64 (vl B64 (us.drop j)/vl B64 (vf.take (m+2)))) (mem bs'):=by
 have hBp:0<B64:=by decide
 have hR:=Nh (B:=B64) (ws:=us.drop j) (m:=m) (λt ht=>by rw[s7];exact hz _ (by omega));rw[s7,s7,s7]at hR;have sud:Sm B64 (us.drop j):=λw hw=>su w (dx hw);have hu2:dgt us (j+(m+2))<B64:=jF su hBp _;have hu1:dgt us (j+(m+1))<B64:=jF su hBp _;have hu0:dgt us (j+m)<B64:=jF su hBp _;have hv1':dgt vf (m+1)<B64:=jF sv hBp _;have hv0:dgt vf m<B64:=jF sv hBp _;obtain⟨k1,k2,k3,k4,k5,k6⟩:=Pw (B:=B64) (by decide) hR (mZ sud hBp) (V5 (B:=B64) (ws:=vf) (m:=m)) (mZ sv hBp) hu0 hu1 hv0 (by show 18446744073709551616≤_;omega) hlt;have fin:∀(q r o:Nat),q*dgt vf (m+1)+(r+o*B64)=dgt us (j+(m+2))*B64+dgt us (j+(m+1))→o≤1→vl B64 (us.drop j)/vl B64 (vf.take (m+2))≤q→q<B64→r<B64→
  ∃bs' us',StD bs us vf l lv j (m+2) (vl B64 (us.drop j)/vl B64 (vf.take (m+2))) (vl B64 (vf.take (m+2))) bs' us'∧
  (lp (λ(_ _ _ _ _ _:D)(_:LS)=>none) (jO φ (λ(x12 x13 x14 x15:D)(s:LS)=>
   lp (λ(_ _ _ _ _ _ _ _:D)(_:LS)=>none) (ib φ kk) φ x12 x13 x14 x15 (.i .u64 (.ofNat 0)) (.i .u64 (.ofNat 0)) x14 (.i .i64 (.ofNat 0)) s)) φ (.sl l j (m+2+1) cm 1 ex) (.sl lv 0 (m+2) cmv 1 exv) (.i .i64 (.ofNat (m+2))) (n64 q) (n64 r) (n64 o) (mem bs))=kk (n64 (vl B64 (us.drop j)/vl B64 (vf.take (m+2)))) (mem bs'):=by
  intro q r o a1 a2 a3 a4 a5;obtain⟨q',z1,z2,z3,z4⟩:=SL (φ:=φ) (cm:=cm) (cmv:=cmv) (ex:=ex) (exv:=exv) (j11:=(λ(x12 x13 x14 x15:D)(s:LS)=>
   lp (λ(_ _ _ _ _ _ _ _:D)(_:LS)=>none) (ib φ kk) φ x12 x13 x14 x15 (.i .u64 (.ofNat 0)) (.i .u64 (.ofNat 0)) x14 (.i .i64 (.ofNat 0)) s)) sv su (by omega) h1 h2 hvf hl rfl rfl rfl hv1 k6 2 φ q r o a1 a2 a3 a4 a5 (λ_=>by show 18446744073709551616≤_;omega) (by omega)
  obtain⟨bs',us',y1,y2⟩:=MH (φ:=φ) (cm:=cm) (cmv:=cmv) (ex:=ex) (exv:=exv) (kk:=kk) (n:=m+2) z2 su sv hvf hne (by omega) (by omega) h1 h2 hl hz k1 rfl z1 (k5 q' z3);exact⟨bs',us',y1,z4.trans y2⟩
 have hS:∀r:Rs,(∀x108 x111:D,x108=n64 (dgt us (j+(m+2)))→x111=n64 (dgt vf (m+1))→(jt x108 x111 λx112=>
 eQ x112
(et (.i .i64 (.ofNat (m+2))) (.i .i64 (.ofNat 1)) λx113=>
 eK 1 (mem bs) (.sl l j (m+2+1) cm 1 ex) x113 λx114 s=>
 eJ s x114 λx115 s=>
 et (.i .i64 (.ofNat (m+2))) (.i .i64 (.ofNat 1)) λx116=>
 eK 1 s (.sl lv 0 (m+2) cmv 1 exv) x116 λx117 s=>
 eJ s x117 λx118 s=>
 nr x115 x118 (.i .u64 (.ofNat 0)) s λx119 s=>
 gD x119 0 s λx120 s=>
 gD x119 1 s λx121 s=>
(lp (λ(_ _ _ _ _ _:D)(_:LS)=>none) (jO φ (λ(x12 x13 x14 x15:D)(s:LS)=>
  lp (λ(_ _ _ _ _ _ _ _:D)(_:LS)=>none) (ib φ kk) φ x12 x13 x14 x15 (.i .u64 (.ofNat 0)) (.i .u64 (.ofNat 0)) x14 (.i .i64 (.ofNat 0)) s)) φ) (.sl l j (m+2+1) cm 1 ex) (.sl lv 0 (m+2) cmv 1 exv) (.i .i64 (.ofNat (m+2))) (.i .u64 (.ofNat 18446744073709551615)) x120 x121 s)
(eK 1 (mem bs) (.sl l j (m+2+1) cm 1 ex) (.i .i64 (.ofNat (m+2))) λx122 s=>
 eJ s x122 λx123 s=>
 et (.i .i64 (.ofNat (m+2))) (.i .i64 (.ofNat 1)) λx124=>
 eK 1 s (.sl l j (m+2+1) cm 1 ex) x124 λx125 s=>
 eJ s x125 λx126 s=>
 et (.i .i64 (.ofNat (m+2))) (.i .i64 (.ofNat 1)) λx127=>
 eK 1 s (.sl lv 0 (m+2) cmv 1 exv) x127 λx128 s=>
 eJ s x128 λx129 s=>
 eR (gU φ) [x123,x126,x129] s λx130 s=>
 gD x130 0 s λx131 s=>
 gD x130 1 s λx132 s=>
(lp (λ(_ _ _ _ _ _:D)(_:LS)=>none) (jO φ (λ(x12 x13 x14 x15:D)(s:LS)=>
  lp (λ(_ _ _ _ _ _ _ _:D)(_:LS)=>none) (ib φ kk) φ x12 x13 x14 x15 (.i .u64 (.ofNat 0)) (.i .u64 (.ofNat 0)) x14 (.i .i64 (.ofNat 0)) s)) φ) (.sl l j (m+2+1) cm 1 ex) (.sl lv 0 (m+2) cmv 1 exv) (.i .i64 (.ofNat (m+2))) x131 x132 (.i .u64 (.ofNat 0)) s))=r)→om φ [.sl l j (m+2+1) cm 1 ex,.sl lv 0 (m+2) cmv 1 exv] (mem bs) kk=r:=by
  intro r hr;rw[An];unfold zW;dsimp only[eV,eZ];refine th qk (th ph (th ph (th (Ii h1 hl (aD _)) (th (gR (by omega) (by omega)) (th (te h2 (by omega) (by omega)) ?_)))));rw[aV,show m+2-1=m+1 by omega];exact hr _ _ rfl rfl
 by_cases hc:dgt vf (m+1)≤dgt us (j+(m+2))
 ·have he:dgt us (j+(m+2))=dgt vf (m+1):=by omega
  obtain⟨d,c',a1,a2,a3,a4⟩:=vV (c:=0) hu1 hv1' (by omega);obtain⟨bs',us',y1,y2⟩:=fin 18446744073709551615 d c' (by
   rw[he];show 18446744073709551615*dgt vf (m+1)+(d+c'*18446744073709551616)=dgt vf (m+1)*18446744073709551616+_;have:c'*18446744073709551616+d=dgt us (j+(m+1))+dgt vf (m+1)+0:=a4;omega) a3 (by
   have:vl B64 (us.drop j)/vl B64 (vf.take (m+2))<18446744073709551616:=k3;omega) (by decide) a2
  refine⟨bs',us',y1,hS _ λx y hx hy=>?_⟩;subst hx hy;refine th (qC hc) (th eP (th (gR (by omega) (by omega)) (th (Ii h1 hl (by omega)) (th (gR (by omega) (by omega)) (th (te h2 (by omega) (by omega)) ?_)))));rw[aV,show m+2-1=m+1 by omega];exact th (a1 _ _) (th mS (th mR y2))
 ·obtain⟨N,hN⟩:∃N,dgt us (j+(m+2))*18446744073709551616+dgt us (j+(m+1))=N:=⟨_,rfl⟩
  have hN':dgt us (j+(m+2))*B64+dgt us (j+(m+1))=N:=hN;have hd:=EV (φ:=φ) (h:=dgt us (j+(m+2))) (l:=dgt us (j+(m+1))) (y:=dgt vf (m+1)) hN hu1 hv1' (by omega) (by omega);have hmod:=cR N (dgt vf (m+1));have hml:=bg N (show 0<dgt vf (m+1) by omega);rw[hN']at k4 fin;have hlt2:N/dgt vf (m+1)<B64:=by
   rw[bn (by omega)];have h8:=aL 18446744073709551616 (show dgt us (j+(m+2))+1≤dgt vf (m+1) by omega);have h9:dgt us (j+(m+1))<18446744073709551616:=hu1;rw[aK];exact bp (by omega) h8
  obtain⟨bs',us',y1,y2⟩:=fin (N/dgt vf (m+1)) (N%dgt vf (m+1)) 0 (by rw[aK,bP,bH];exact hmod) (by omega) (by rw[d7 (by omega)];exact k4) hlt2 (Nat.lt_trans hml hv1');refine⟨bs',us',y1,hS _ λx y hx hy=>?_⟩;subst hx hy;refine th (zE hc) (th eM (th (Ii h1 hl (aD _)) (th (gR (by omega) (by omega)) (th (Ii h1 hl (by omega)) (th (gR (by omega) (by omega)) (th (te h2 (by omega) (by omega)) ?_))))));rw[aV,show m+2-1=m+1 by omega];exact th (fP hd) (th mS (th mR y2))
section
variable {bs:List Blk} {ws:List Nat} {b:Blk} {l off n cm h lo z m:Nat} {ex:Bool} {K:D→LS→Rs} {k1 k2:IntKind}
theorem Ed(hg:bs[l]?=some b)(hl:b.st.live=true)(hh:h≤cm)(h0:0<cm):kg z (mem bs) (.sl l off n cm z ex) none (some (.i k1 (.ofNat h))) none K=K (.sl l off h cm z ex) (mem bs):=by
 show(jQ (mem bs) l λb=>cnd (lv b.st) (cnd (Nat.ble cm cm) (cnd (Nat.ble h cm) (cnd (Nat.ble 0 h) (cnd (Nat.beq z z) (mw ex λex=>cnd (Nat.blt 0 cm) (frc (Nat.add off (Nat.mul 0 z)) λoff=>frc (Nat.sub h 0) λlen=>frc (Nat.sub cm 0) λcm=>K (.sl l off len cm z ex) (mem bs)) (K (.tree [] 0 ex) (mem bs))) none) none) none) none) none)=_;rw[gu hg,sI,hl,aF (aD cm),aF hh,aF (a9 h),ep h0];simp only[eL,jC,fA,ej];rw[show Nat.add off (Nat.mul 0 z)=off by show off+0*z=off;omega];rfl
theorem Vd(hg:bs[l]?=some b)(hl:b.st.live=true)(hlo:lo≤h)(hh:h≤cm)(h0:lo<cm):kg 1 (mem bs) (.sl l off n cm 1 ex) (some (.i k1 (.ofNat lo))) (some (.i k2 (.ofNat h))) none K=K (.sl l (off+lo) (h-lo) (cm-lo) 1 ex) (mem bs):=by
 show(jQ (mem bs) l λb=>cnd (lv b.st) (cnd (Nat.ble cm cm) (cnd (Nat.ble h cm) (cnd (Nat.ble lo h) (cnd (Nat.beq 1 1) (mw ex λex=>cnd (Nat.blt lo cm) (frc (Nat.add off (Nat.mul lo 1)) λoff=>frc (Nat.sub h lo) λlen=>frc (Nat.sub cm lo) λcm=>K (.sl l off len cm 1 ex) (mem bs)) (K (.tree [] 0 ex) (mem bs))) none) none) none) none) none)=_;rw[gu hg,sI,hl,aF (aD cm),aF hh,aF hlo,ep h0];simp only[eL,jC,fA,ej];rw[show Nat.add off (Nat.mul lo 1)=off+lo by show off+lo*1=off+lo;omega];rfl
theorem xZ(hg:bs[l]?=some b)(hb:b.cs=c64 ws)(hl:b.st.live=true)(hn:n≤ws.length)(hc:n≤cm)(hc0:0<cm)(hs:n≤9223372036854775807):∀(i f:Nat),i≤n→i<f→
 lp (λ(_ _:D)(_:LS)=>none) (AN K) f (.sl l 0 n cm 1 ex) (.i .i64 (.ofNat i)) (mem bs)=K (.sl l 0 (tl ws i) cm 1 ex) (mem bs)
 |0,f,hi,hf=>by
  obtain⟨f,rfl⟩:∃q,f=q+1:=⟨f-1,by omega⟩
  rw[eO];unfold AN;simp only[nj,fC (bS 0),wh,gE,eM];exact Ed hg hl (a9 _) hc0
 |i+1,f,hi,hf=>by
  obtain⟨f,rfl⟩:∃q,f=q+1:=⟨f-1,by omega⟩
  have hlt:i<ws.length:=by omega
  have hw:=aB hlt;rw[eO];unfold AN;have hm:i+1≤jX .i64:=by show i+1≤9223372036854775807;omega
  simp only[nj,ep (z1y i),tJ,oM (show 1≤i+1 by omega) hm,a7];have hr:∀K:D→LS→Rs,(eK 1 (mem bs) (.sl l 0 n cm 1 ex) (.i .i64 (.ofNat i)) λa s=>eJ s a K)=K (n64 ws[i]) (mem bs):=λK=>by
   refine th (AB hg hl (by omega)) ?_;rw[ai,aV];exact F1 hg hl (by rw[hb];exact kP hw)
  refine th (hr _) (th pb ?_);by_cases h0:ws[i]=0
  ·rw[h0,show Nat.beq 0 0=true from rfl,fe,eP];have ht:tl ws (i+1)=tl ws i:=by
    show(if ws[i]?=some 0 then tl ws i else i+1)=_;rw[hw,h0,aC rfl]
   rw[ht];exact xZ hg hb hl hn hc hc0 hs i f (by omega) (by omega)
  ·rw[gG h0,fe,eM];have ht:tl ws (i+1)=i+1:=by
    show(if ws[i]?=some 0 then tl ws i else i+1)=_;rw[hw,aE (λe=>h0 (ck e))]
   rw[ht];exact Ed hg hl (by omega) hc0
theorem yZ{φ:Nat}(hg:bs[l]?=some b)(hb:b.cs=c64 ws)(hl:b.st.live=true)(hn:n≤ws.length)(hc:n≤cm)(hc0:0<cm)(hs:n≤9223372036854775807)(hφ:n<φ):fG φ [.sl l 0 n cm 1 ex] (mem bs) K=K (.sl l 0 (tl ws n) cm 1 ex) (mem bs):=by
 rw[y3];exact th qk (xZ hg hb hl hn hc hc0 hs n φ (aD _) hφ)
theorem GN{ws:List Nat}:∀n,n≤ws.length→Tm (ws.take (tl ws n))
 |0,_=>λw hw=>by simp[tl]at hw
 |n+1,h=>by
  have hw:=aB (show n<ws.length by omega);show Tm (ws.take (if ws[n]?=some 0 then tl ws n else n+1));by_cases h0:ws[n]?=some 0
  ·rw[aC h0];exact GN n (by omega)
  ·rw[aE h0];intro w hw';rw[z0F,ah,bO h,cY,aC (by omega),a7]at hw';intro e;rw[e]at hw';exact h0 hw'
theorem wQ:∀ws:List Nat,val ws=vl B64 ws
 |[]=>rfl
 |w::ws=>by show w+B64*val ws=w+B64*vl B64 ws;rw[wQ ws]
theorem KC{ws:List Nat}(n:Nat)(h:n≤ws.length):vl B64 (ws.take (tl ws n))=vl B64 (ws.take n):=by rw[←wQ,←wQ];exact IP ws n h
theorem Sh{g:Nat→Option Blk}{j:Nat}(ws:List Nat):iP (res g (j+1)) (c64 ws)=some (c64 ws,[]):=kL (k:=j) _ (vT ws)
theorem En{g:Nat→Option Blk}{j:Nat}(hg:g l=some b)(hb:b.cs=c64 ws)(hl:b.st.live=true)(hn:n≤ws.length):res g (j+2) (.sl l 0 n cm 1 ex)=some (.tree (c64 (ws.take n)) n (ex&&cm==n),[l]):=by
 refine uN (n:=j+1) (r:=c64 (ws.take n)) hg hl ?_ (Sh _);unfold cut;rw[hb,aj,ai,aC (by rw[ah,fO];omega)];unfold c64;rw[z0Y]
theorem Vt{g:Nat→Option Blk}{j n:Nat}{ex:Bool}{ws:List Nat}:res g (j+2) (.tree (c64 ws) n ex)=some (.tree (c64 ws) n ex,[]):=rfl
theorem GX{bs:List Blk}{r1 r2 A1 A2:D}{l1 l2:List Nat}(h1:res (mem bs).get 60 r1=some (A1,l1))(h2:res (mem bs).get 60 r2=some (A2,l2))(hf:tM (.tup [r1,r2])=false):eX false (mem bs) (.tup [r1,r2]) some=some (.tup [A1,A2]):=by
 have hr:nu false (mem bs).get fv (.tup [r1,r2])=some (.tup [A1,A2]):=by
  have e1:tN false (mem bs).get 60 r1=some (A1,[],l1):=by rw[show tN false (mem bs).get 60 r1=yi (res (mem bs).get 60 r1) by cases r1<;>rfl,h1];rfl
  have e2:iP (res (mem bs).get 60) [r2]=some ([A2],l2++[]):=by unfold iP;rw[h2];rfl
  show(match tN false (mem bs).get 60 r1,iP (res (mem bs).get 60) [r2]with
   |some (d,o,ls),some (ds,ls')=>if o.all λl=> !(ls++ls').contains l then some (D.tup (d::ds))else none
   |_,_=>none)=_
  rw[e1,e2];rfl
 unfold eX;rw[mU,hf,hr,gS];rfl
def ix:Nat→D
 |0=>.i .i64 (.negSucc 0)
 |k+1=>.i .i64 (.ofNat k)
theorem CQ{k:Nat}(hk:k<9223372036854775808){K:D→Rs}:et (.i .i64 (.ofNat k)) (.i .i64 (.ofNat 1)) K=K (ix k):=by
 cases k with
 |zero=>exact yy
 |succ k=>refine th (gR (by omega) (by omega)) ?_;rw[a7];rfl
theorem Vv{ws:List Nat}{i n:Nat}{ex:Bool}{s:LS}{kk:IntKind}{K:D→LS→Rs}(hl:ws.length=n)(hi:i<n):(eK 1 s (.tree (c64 ws) n ex) (.i kk (.ofNat i)) λa s=>eJ s a K)=K (n64 (dgt ws i)) s:=by
 refine th (uv hi (by rw[ai,fO];omega)) ?_;rw[ai];exact vk (kP (jE (by omega)))
theorem TJ{B a X Q r q r' y N:Nat}(h:X=y*Q+r)(hd:r*B+a=N)(hq:q=N/y)(hr:r'=N%y):a+B*X=y*(q+B*Q)+r':=by
 have:=cR N y;rw[←hq,←hr,←hd]at this;rw[h,bA,bA,cf,aK B r];omega
def xY(x y:Nat)(o:Option D):Prop:=∃qs rs e e',Sm B64 qs∧Tm qs∧vl B64 qs=x/y∧Sm B64 rs∧Tm rs∧vl B64 rs=x%y∧o=some (.tup [.tree (c64 qs) qs.length e,.tree (c64 rs) rs.length e'])
theorem y5{ws:List Nat}{k:Nat}(h:k≤ws.length):(ws.take k).length=k:=by rw[ah];omega
theorem Xo{bs:List Blk}{l1 l2 n1 n2 c1 c2:Nat}{x y:Nat}{b1 b2:Blk}{w1 w2:List Nat}{e1 e2:Bool}(g1:bs[l1]?=some b1)(g2:bs[l2]?=some b2)(h1:b1.cs=c64 w1)(h2:b2.cs=c64 w2)(v1:b1.st.live=true)(v2:b2.st.live=true)(hn1:n1≤w1.length)(hn2:n2≤w2.length)
 (s1:Sm B64 w1) (s2:Sm B64 w2) (d1:vl B64 (w1.take n1)=x/y) (d2:vl B64 (w2.take n2)=x%y):xY x y (eX false (mem bs) (.tup [.sl l1 0 (tl w1 n1) c1 1 e1,.sl l2 0 (tl w2 n2) c2 1 e2]) some):=by
 have t1:=D5 w1 n1;have t2:=D5 w2 n2;have l1':=y5 (ws:=w1) (k:=tl w1 n1) (by omega);have l2':=y5 (ws:=w2) (k:=tl w2 n2) (by omega);refine⟨w1.take (tl w1 n1),w2.take (tl w2 n2),(e1&&c1==tl w1 n1),(e2&&c2==tl w2 n2),rV s1,GN _ hn1,by rw[KC _ hn1];exact d1,rV s2,GN _ hn2,by rw[KC _ hn2];exact d2,?_⟩;rw[l1',l2'];exact GX (En (j:=58) (by rw[mQ];exact g1) h1 v1 (by omega)) (En (j:=58) (by rw[mQ];exact g2) h2 v2 (by omega)) rfl
theorem Jd{φ n y:Nat}{xs:List Nat}{ex ey:Bool}(hl:xs.length=n)(sx:Sm B64 xs)(hnp:0<n)(hn:n≤1000000000)(hy0:0<y)(hy:y<B64)(hφ:n+5<φ):∀(i f r:Nat)(qs:List Nat),qs.length=n→Sm B64 qs→i≤n→i<f→r<y→vl B64 (xs.drop i)=y*vl B64 (qs.drop i)+r→
 xY (vl B64 xs) y (lp (λ(_ _ _ _ _:D)(_:LS)=>none) (je φ) f (.tree (c64 xs) n ex) (.tree [n64 y] 1 ey) (.sl 0 0 n n 1 true) (n64 r) (ix i) (mem [⟨c64 qs,.rw⟩])):=by
 intro i
 induction i with
 |zero=>
  intro f r qs hq sq hi hf hr hv;obtain⟨f,rfl⟩:∃p,f=p+1:=⟨f-1,by omega⟩
  rw[aj,aj]at hv;obtain⟨f1,f2⟩:=(Nat.div_mod_unique hy0).2 ⟨(by rw[hv,ct]:r+y*vl B64 qs=vl B64 xs),hr⟩
  ·have key:∀o,(lp (λ(_ _ _ _ _:D)(_:LS)=>none) (je φ) (f+1) (.tree (c64 xs) n ex) (.tree [n64 y] 1 ey) (.sl 0 0 n n 1 true) (n64 r) (ix 0) (mem [⟨c64 qs,.rw⟩]))=o→xY (vl B64 xs) y o→xY (vl B64 xs) y (lp (λ(_ _ _ _ _:D)(_:LS)=>none) (je φ) (f+1) (.tree (c64 xs) n ex) (.tree [n64 y] 1 ey) (.sl 0 0 n n 1 true) (n64 r) (ix 0) (mem [⟨c64 qs,.rw⟩])):=λo h1 h2=>by rw[h1];exact h2
   refine key _ ?_ (Xo (bs:=[⟨c64 qs,.rw⟩,⟨c64 [r],.rw⟩]) (l1:=0) (l2:=1) (n1:=n) (n2:=1) (c1:=n) (c2:=1) (e1:=true) (e2:=true) (w1:=qs) (w2:=[r]) rfl rfl rfl rfl rfl rfl (by omega) (by simp) sq (Ec (Nat.lt_trans hr hy)) (by rw[aM (by omega)];exact f1.symm) (by rw[←show r=vl B64 xs%y from f2.symm];simp[vl]));rw[eO];unfold je;refine th tK (th eM (th (yZ (ws:=qs) rfl rfl rfl (by omega) (aD _) hnp (by omega) (by omega)) (th HY ?_)));rw[lX,js];exact yZ (ws:=[r]) rfl rfl rfl (aD _) (aD _) (by omega) (by omega) (by omega)
 |succ k ih=>
  intro f r qs hq sq hi hf hr hv;obtain⟨f,rfl⟩:∃p,f=p+1:=⟨f-1,by omega⟩
  have hd:=EV (φ:=φ) (h:=r) (l:=dgt xs k) (y:=y) rfl (jF sx (by decide) _) hy hr (by omega);have hN:∃N,r*18446744073709551616+dgt xs k=N:=⟨_,rfl⟩
  obtain⟨N,hN⟩:=hN;rw[hN]at hd;have hqB:N/y<B64:=by
   rw[bn hy0];have h8:=aL 18446744073709551616 (show r+1≤y from hr);have h9:dgt xs k<18446744073709551616:=jF sx (by decide) _;rw[aK];exact bp (by omega) h8
  have hqd:vl B64 ((qs.set k (N/y)).drop k)=N/y+B64*vl B64 (qs.drop (k+1)):=by
   rw[pf,z1d (by omega)];congr 1;unfold dgt;rw[aH,ao (by omega)];rfl
  have h3:=ih f (N%y) (qs.set k (N/y)) (by rw[bD];exact hq) (oI sq hqB) (by omega) (by omega) (bg _ hy0) (by
   rw[pf,hqd];exact TJ hv hN rfl rfl)
  have e:lp (λ(_ _ _ _ _:D)(_:LS)=>none) (je φ) (f+1) (.tree (c64 xs) n ex) (.tree [n64 y] 1 ey) (.sl 0 0 n n 1 true) (n64 r) (ix (k+1)) (mem [⟨c64 qs,.rw⟩])=lp (λ(_ _ _ _ _:D)(_:LS)=>none) (je φ) f (.tree (c64 xs) n ex) (.tree [n64 y] 1 ey) (.sl 0 0 n n 1 true) (n64 (N%y)) (ix k) (mem [⟨c64 (qs.set k (N/y)),.rw⟩]):=by
   rw[eO];unfold je;refine th (qC (by omega)) (th eP (th (Vv hl (by omega)) (th (Vv (ws:=[y]) (i:=0) rfl (by omega)) (th (fP hd) (th mS (th mR (th (zQ (l:=0) rfl (by omega) (by omega)) ?_)))))));rw[aV];exact CQ (by omega)
  rw[e];exact h3
theorem Vf{Bz Cz a b T' T S:Nat}(hz:0<Bz)(hS:S=a+Bz*Cz*T)(hT:T=b+Bz*Cz*T'):S/Bz=(a/Bz+Cz*(b%Bz))+Bz*Cz*(T/Bz):=by
 have e1:S/Bz=a/Bz+Cz*T:=by
  rw[hS,aU,ct,z19 hz,ct]
 have e2:T%Bz=b%Bz:=by rw[hT,aU,ch]
 have e3:=cR T Bz;rw[e2]at e3;rw[e1];have e4:Cz*T=Cz*(Bz*(T/Bz)+b%Bz):=by rw[e3]
 rw[e4,bA,aK Bz Cz,aU];omega
theorem XJ{φ n z lu lq nq cu:Nat}{eu:Bool}{us0 qs:List Nat}(hz:z≤63)(hu0:us0.length=cu)(hn:n<cu)(hcu:cu≤10000000000)(su0:Sm B64 us0){P:Option D→Prop}(hR:∀(bs:List Blk)(us:List Nat),bs[lu]?=some ⟨c64 us,.rw⟩→bs[lq]?=some ⟨c64 qs,.rw⟩→Sm B64 us→us.length=cu→vl B64 (us.take n)+B64^n*(vl B64 (us0.drop n)/2^z)=vl B64 us0/2^z→
 ∃R,P R∧(eR (zU (fG φ)) [.sl lq 0 nq nq 1 true] (mem bs) λx95 s=>kg 1 s (.sl lu 0 cu cu 1 eu) none (some (.i .i64 (.ofNat n))) none λx96 s=>(fG φ) [x96] s λx97 s=>eX false s (.tup [x95,x97]) some)=R) (hne:lu≠lq):∀(k i f:Nat)(bs:List Blk)(us:List Nat),i+k=n→k<f→bs[lu]?=some ⟨c64 us,.rw⟩→bs[lq]?=some ⟨c64 qs,.rw⟩→Sm B64 us→us.length=cu→us.drop i=us0.drop i→vl B64 (us.take i)+B64^i*(vl B64 (us0.drop i)/2^z)=vl B64 us0/2^z→
 ∃R,P R∧lp (λ(_ _ _ _ _ _:D)(_:LS)=>none) (kQ φ) f (.i .i64 (.ofNat z)) (.sl lu 0 cu cu 1 eu) (.i .i64 (.ofNat n)) (.sl lq 0 nq nq 1 true) (.i .i64 (.ofNat n)) (.i .i64 (.ofNat i)) (mem bs)=R:=by
 intro k
 induction k with
 |zero=>
  intro i f bs us hi hf h1 h2 su hl hd hv;obtain⟨f,rfl⟩:∃p,f=p+1:=⟨f-1,by omega⟩
  have:i=n:=by omega
  subst this;obtain⟨R,hP,hR'⟩:=hR bs us h1 h2 su hl hv;refine⟨R,hP,?_⟩;rw[eO];unfold kQ;exact th (fy (by omega)) (th eM hR')
 |succ k ih=>
  intro i f bs us hi hf h1 h2 su hl hd hv;obtain⟨f,rfl⟩:∃p,f=p+1:=⟨f-1,by omega⟩
  have hpz:0<2^z:=bR (by decide);have e64:2^z*2^(64-z)=18446744073709551616:=by rw[←bY,cP (by omega)]
  have da:dgt us i=dgt us0 i:=by
   have:=congrArg (λl=>dgt l 0) hd;simpa[s7]using this
  have db:dgt us (i+1)=dgt us0 (i+1):=by
   have:=congrArg (λl=>dgt l 1) hd;simpa[s7]using this
  have ha:dgt us0 i<18446744073709551616:=jF su0 (by decide) _;have hb:dgt us0 (i+1)<18446744073709551616:=jF su0 (by decide) _;have hnum:=Vf (Bz:=2^z) (Cz:=2^(64-z)) (a:=dgt us0 i) (b:=dgt us0 (i+1)) (T:=vl B64 (us0.drop (i+1))) (S:=vl B64 (us0.drop i)) (T':=vl B64 (us0.drop (i+2))) hpz (by rw[e64];exact pf us0 i) (by rw[e64];exact pf us0 (i+1));rw[e64]at hnum;have hout:dgt us0 i/2^z<2^(64-z):=by rw[bn hpz,aK,e64];exact ha
  have hbz:dgt us0 (i+1)%2^z<2^z:=bg _ hpz;have ho:dgt us0 i/2^z+2^(64-z)*(dgt us0 (i+1)%2^z)<18446744073709551616:=by
   have:=aZ (2^(64-z)) hbz;rw[Nat.mul_succ,aK _ (2^z),e64]at this;omega
  generalize hO:dgt us0 i/2^z+2^(64-z)*(dgt us0 (i+1)%2^z)=O at*;have next:∀(bs':List Blk),bs'[lu]?=some ⟨c64 (us.set i O),.rw⟩→bs'[lq]?=some ⟨c64 qs,.rw⟩→∃R,P R∧lp (λ(_ _ _ _ _ _:D)(_:LS)=>none) (kQ φ) f (.i .i64 (.ofNat z)) (.sl lu 0 cu cu 1 eu) (.i .i64 (.ofNat n)) (.sl lq 0 nq nq 1 true) (.i .i64 (.ofNat n)) (.i .i64 (.ofNat (i+1))) (mem bs')=R:=λbs' g1 g2=>
   ih (i+1) f bs' (us.set i O) (by omega) (by omega) g1 g2 (oI su ho) (by rw[bD];exact hl) (by
    rw[z1d (by omega),←List.drop_drop,←List.drop_drop,hd]) (by
    rw[oo,←hv,hnum];have e1:(us.set i O).take i=us.take i:=by rw[List.take_set_of_le (aD _)]
    have e2:dgt (us.set i O) i=O:=by unfold dgt;rw[aH,ao (by omega)];rfl
    rw[e1,e2,av,bA,aU,aK O];exact cx _ _ _)
  obtain⟨R,hP,hR'⟩:=next (bs.set lu ⟨c64 (us.set i O),.rw⟩) (uy h1) (gg hne h2)
  refine⟨R,hP,?_⟩;rw[eO];unfold kQ;refine th (fk (by omega)) (th eP (th ph (th (te h1 (by omega) (by omega)) (th (uB (by omega)) ?_))));rw[aV,da];refine th (zQ h1 (by omega) (by omega)) ?_;rw[aV];by_cases h0:z=0
  ·subst h0;refine th (oO (by omega)) (th fj (th fj (th fj (th fj (th fj (th gE (th eM (th (fM (by omega)) ?_))))))));have e0:dgt us0 i/2^0=O:=by rw[←hO,ce,Nat.mod_one,dG,bH]
   rw[e0];exact hR'
  ·refine th (mf (by omega)) (th fD (th fD (th (fM (by omega)) (th fD (th fD (th qk (th fD (th (fk (by omega)) (th fe (th eP ?_))))))))));refine th (te (uy h1) (by omega) (by rw[bD];omega)) (th (fM (by omega)) (th (te (uy h1) (by omega) (by rw[bD];omega)) (th (gR (by omega) (by omega)) (th (uh (by omega)) ?_))));have e2:dgt (us.set i (dgt us0 i/2^z)) (0+i)=dgt us0 i/2^z:=by unfold dgt;rw[aV,aH,ao (by omega)];rfl
   have e3:dgt (us.set i (dgt us0 i/2^z)) (0+(i+1))=dgt us0 (i+1):=by rw[qV (by omega),aV];exact db
   rw[e2,e3];have e4:dgt us0 (i+1)*2^(64-z)%18446744073709551616=2^(64-z)*(dgt us0 (i+1)%2^z):=by
    rw[←e64,z13,aK]
   rw[e4];have e5:dgt us0 i/2^z|||2^(64-z)*(dgt us0 (i+1)%2^z)=O:=by
    rw[Nat.or_comm,←dZ hout,ct];exact hO
   refine th (TH (by omega) (by omega)) ?_;rw[e5];refine th (zQ (uy h1) (by omega) (by rw[bD];omega)) (th (fM (by omega)) ?_);rw[aV,z1A,z1A];exact hR'
theorem xO{B:Nat}(hB:2≤B){ws:List Nat}{m t:Nat}(h:vl B ws<B^m)(ht:m≤t):dgt ws t=0:=by
 by_cases hl:t<ws.length
 ·have h1:=z5 (B:=B) (show t≤ws.length by omega);rcases bL (dgt ws t)with h0|h0
  ·exact h0
  ·exfalso;have h2:B^m≤B^t:=ba (by omega) ht;have h3:B^t*1≤B^t*(dgt ws t+B*vl B (ws.drop (t+1))):=aZ _ (by omega);omega
 ·unfold dgt;rw[aH,bX (by omega)];rfl
theorem Ta{u u' Q v P R lo lo' R':Nat}(hv:u'+Q*v*P=u)(hu:u=lo+P*R)(hlo:lo<P)(hu':u'=lo'+P*R')(hlo':lo'<P)(hQ:Q=R/v):R'=R%v:=by
 have h1:=cR R v;rw[←hQ]at h1;have hP:0<P:=by omega
 have e1:u'/P=R':=by rw[hu',ct,z19 hP,cL hlo',bH]
 have e2:u=(lo+P*(R%v))+Q*v*P:=by
  rw[hu]
  conv=>lhs;rw[←h1]
  rw[bA,aK v Q,aK P (Q*v)];omega
 have e3:u'=lo+P*(R%v):=by omega
 rw[←e1,e3,ct,z19 hP,cL hlo,bH]
theorem XI{φ m z lu lv lq nq cu cv:Nat}{eu ev':Bool}{vf:List Nat}{X:Nat}(hlv:lu≠lv)(hlq:lu≠lq)(hvq:lv≠lq)(sv:Sm B64 vf)(hvf:m+2≤vf.length)(hm:m≤1000000000)(hcu:cu≤10000000000)(hv1:9223372036854775808≤dgt vf (m+1))(hφ:m+10<φ){P:Option D→Prop}
 (hR:∀(bs:List Blk)(us qs:List Nat),bs[lu]?=some ⟨c64 us,.rw⟩→bs[lq]?=some ⟨c64 qs,.rw⟩→Sm B64 us→Sm B64 qs→us.length=cu→qs.length=nq→vl B64 us+vl B64 (vf.take (m+2))*vl B64 qs=X→vl B64 us<vl B64 (vf.take (m+2))→
  ∃R,P R∧lp (λ(_ _ _ _ _ _:D)(_:LS)=>none) (kQ φ) φ (.i .i64 (.ofNat z)) (.sl lu 0 cu cu 1 eu) (.i .i64 (.ofNat (m+2))) (.sl lq 0 nq nq 1 true) (.i .i64 (.ofNat (m+2))) (.i .i64 (.ofNat 0)) (mem bs)=R):∀(i f:Nat)(bs:List Blk)(us qs:List Nat),i+(m+2)≤cu→i≤nq→i<f→bs[lu]?=some ⟨c64 us,.rw⟩→bs[lv]?=some ⟨c64 vf,.rw⟩→bs[lq]?=some ⟨c64 qs,.rw⟩→Sm B64 us→Sm B64 qs→us.length=cu→qs.length=nq→
  vl B64 us+vl B64 (vf.take (m+2))*(B64^i*vl B64 (qs.drop i))=X→vl B64 (us.drop i)<vl B64 (vf.take (m+2))→(∀t,i+(m+2)≤t→dgt us t=0)→
  ∃R,P R∧lp (λ(_ _ _ _ _ _:D)(_:LS)=>none) (nL φ) f (.i .i64 (.ofNat z)) (.sl lv 0 (m+2) cv 1 ev') (.sl lu 0 cu cu 1 eu) (.i .i64 (.ofNat (m+2))) (.sl lq 0 nq nq 1 true) (ix i) (mem bs)=R:=by
 have hBp:0<B64:=by decide
 intro i
 induction i with
 |zero=>
  intro f bs us qs hi hq hf h1 h2 h3 su sq lu' lq' hX hlt hz;obtain⟨f,rfl⟩:∃p,f=p+1:=⟨f-1,by omega⟩
  rw[ce,bE]at hX;obtain⟨R,hP,hR'⟩:=hR bs us qs h1 h3 su sq lu' lq' hX hlt;refine⟨R,hP,?_⟩;rw[eO];unfold nL;exact th tK (th eM hR')
 |succ j ih=>
  intro f bs us qs hi hq hf h1 h2 h3 su sq lu' lq' hX hlt hz;obtain⟨f,rfl⟩:∃p,f=p+1:=⟨f-1,by omega⟩
  have hdj:=pf (B:=B64) us j;have hdg:dgt us j<B64:=jF su hBp _;have hlt2:vl B64 (us.drop j)<vl B64 (vf.take (m+2))*B64:=by
   rw[hdj];have:=aZ B64 (show vl B64 (us.drop (j+1))+1≤vl B64 (vf.take (m+2))from hlt);rw[bA,ai,aK B64 (vl B64 (vf.take (m+2)))]at this;exact bp (by rw[ct];exact Nat.add_lt_add_left hdg _) this
  have hvp:0<vl B64 (vf.take (m+2)):=br (a9 _) hlt;obtain⟨bs',us',S,e⟩:=Nx (φ:=φ) (cm:=cu-j) (cmv:=cv) (ex:=eu) (exv:=ev') (j:=j) (kk:=λx56 s=>
   eK 1 s (.sl lq 0 nq nq 1 true) (.i .i64 (.ofNat j)) λx57 s=>
   eU 1 s x57 x56 λ_ s=>
   et (.i .i64 (.ofNat j)) (.i .i64 (.ofNat 1)) λx58=>
   lp (λ(_ _ _ _ _ _:D)(_:LS)=>none) (nL φ) f (.i .i64 (.ofNat z)) (.sl lv 0 (m+2) cv 1 ev') (.sl lu 0 cu cu 1 eu) (.i .i64 (.ofNat (m+2))) (.sl lq 0 nq nq 1 true) x58 s) su sv hvf hlv (by omega) (by omega) h1 h2 (by omega) (λt ht=>hz t (by omega)) hv1 hlt2
  have g3:=S.keep _ _ hlq h3;have hcut:=BT (B:=B64) (show j≤us.length by omega);have hcut':=BT (B:=B64) (show j≤us'.length by rw[S.len];omega);have hmod:=Ta S.val hcut (mZ su hBp) hcut' (mZ S.sm hBp) rfl;have hml:=bg (vl B64 (us.drop j)) hvp;have hQ:vl B64 (us.drop j)/vl B64 (vf.take (m+2))<B64:=by rw[bn hvp,aK];exact hlt2
  generalize vl B64 (us.drop j)/vl B64 (vf.take (m+2))=Q at*;have hqd:vl B64 ((qs.set j Q).drop j)=Q+B64*vl B64 (qs.drop (j+1)):=by
   rw[pf,z1d (by omega)];congr 1;unfold dgt;rw[aH,ao (by omega)];rfl
  have hX':vl B64 us'+vl B64 (vf.take (m+2))*(B64^j*vl B64 ((qs.set j Q).drop j))=X:=by
   rw[hqd,←hX,←S.val,av,bA,bA,←cx,aK Q,aU (vl B64 (vf.take (m+2))) Q,aK Q (B64^j),aU (B64^j) B64]
  have hvl:vl B64 (us'.drop j)<B64^(m+2):=Nat.lt_trans (by rw[hmod];exact hml) (mZ sv hBp);obtain⟨R,hP,hih⟩:=ih f (bs'.set lq ⟨c64 (qs.set j Q),.rw⟩) us' (qs.set j Q) (by omega) (by omega) (by omega) (gg (Ne.symm hlq) S.b1) (gg (Ne.symm hvq) S.b2) (uy g3) S.sm (oI sq hQ) (by rw[S.len];exact lu') (by rw[bD];exact lq') hX' (by rw[hmod];exact hml) (λt ht=>by
   have:=xO (by decide) hvl (show m+2≤t-j by omega);rwa[s7,show j+(t-j)=t by omega]at this)
  refine⟨R,hP,?_⟩;rw[eO];unfold nL;refine th (qC (by omega)) (th eP (th (fM (by omega)) (th (fM (by omega)) (th (Vd h1 rfl (by omega) (by omega) (by omega)) ?_))));rw[aV,show j+(m+2)+1-j=m+2+1 by omega];refine e.trans (th (zQ g3 (by omega) (by omega)) (th (CQ (by omega)) ?_));rw[aV];exact hih
theorem Sf{s:LS}{n:Nat}{e:Bool}{ws:List Nat}:eX true s (.tree (c64 ws) n e) some=some (.tree (c64 ws) n e):=by
 unfold eX;rw[mU];show uw (nu true s.get fv (.tree (c64 ws) n e)) some=_;rw[show nu true s.get fv (.tree (c64 ws) n e)=some (.tree (c64 ws) n e)from rfl,gS];rfl
theorem Wh{bs:List Blk}{l n φ:Nat}{qs:List Nat}{K:D→LS→Rs}(hg:bs[l]?=some ⟨c64 qs,.rw⟩)(hn:qs.length=n)(hs:n≤9223372036854775807)(hφ:n<φ):
 eR (zU (fG φ)) [.sl l 0 n n 1 true] (mem bs) K=K (.tree (c64 (qs.take (tl qs n))) (tl qs n) (cnd true (Nat.beq (tl qs n) n) false)) (mem (bs.set l ⟨c64 qs,.frz⟩)):=by
 have e1:(cnd true (Nat.beq n n) false)=true:=by rw[ej];rfl
 show(jQ (mem bs) l λb=>cnd (lv b.st) (iz 0 b.cs λr=>iy (Nat.mul n 1) r λr=>nI (kJ (mem bs) 59) r λcs ls=>mw (cnd true (Nat.beq n n) false) λex=>l7 (l::ls) [] λab=>ob (zU (fG φ) [.tree cs n ex]) λr=>ju (mem bs) ab r K) none)=_;rw[gu hg];show(iz 0 (c64 qs) λr=>iy (Nat.mul n 1) r λr=>nI (kJ (mem bs) 59) r λcs ls=>mw (cnd true (Nat.beq n n) false) λex=>l7 (l::ls) [] λab=>ob (zU (fG φ) [.tree cs n ex]) λr=>ju (mem bs) ab r K)=_;rw[gB,aj,i9,aC (by rw[fO];show n*1≤_;omega),aM (by rw[fO];show _≤n*1;omega),Bv,jC,gT,e1];have e2:zU (fG φ) [.tree (c64 qs) n true]=some (.tree (c64 (qs.take (tl qs n))) (tl qs n) (cnd true (Nat.beq (tl qs n) n) false)):=by
  show fG φ [.tree (c64 qs) n true] s0 (λd s=>eX true s d some)=_;rw[D3 hn hs hφ,Sf]
 rw[e2,gN];unfold ju;rw[mU];show(jQ (mem bs) l λb=>oN (mem bs) l ⟨b.cs,fzS b.st⟩ λs=>K _ s)=_;rw[gu hg,pa (fE hg)];rfl
theorem SE{os:List Nat}{n c:Nat}(hl:os.length=n+2)(so:Sm B64 os)(hlt:vl B64 os<B64^(n+1))(hge:c*B64^n≤vl B64 os):c≤dgt os n∧dgt os (n+1)=0:=by
 have hz:dgt os (n+1)=0:=xO (by decide) hlt (aD _);refine⟨?_,hz⟩;have h1:vl B64 os=vl B64 (os.take n)+dgt os n*B64^n:=by
  rw[pY (n+1) os (λt ht=>xO (by decide) hlt ht),oo]
 have h2:=mZ (k:=n) so (show 0<B64 by decide);rcases az (dgt os n) c with h|h
 ·exfalso;have:=aL (B64^n) h;rw[cr]at this;omega
 ·exact h
theorem V9{os:List Nat}{n:Nat}(hl:os.length=n+2)(h0:dgt os (n+1)=0)(h1:dgt os n≠0):tl os (n+2)=n+1:=by
 have g0:=jE (show n+1<os.length by omega);have g1:=jE (show n<os.length by omega);show(if os[n+1]?=some 0 then tl os (n+1)else n+2)=_;rw[g0,h0,aC rfl];show(if os[n]?=some 0 then tl os n else n+1)=_;rw[g1,aE (λe=>h1 (ck e))]
theorem xY.of{x y:Nat}{o o':Option D}(h:o=o')(h':xY x y o'):xY x y o:=by rw[h];exact h'
theorem UY{φ n z lu lq nq cu x y v:Nat}{eu:Bool}{us0 qs:List Nat}(hz:z≤63)(hu0:us0.length=cu)(hn:n<cu)(hn0:0<n)(hcu:cu≤10000000000)(su0:Sm B64 us0)(sq:Sm B64 qs)(hq:qs.length=nq)(hnq:nq≤cu)(hne:lu≠lq)(hφ:cu+5<φ)
 (hv:v=y*2^z) (hX:vl B64 us0+v*vl B64 qs=x*2^z) (hlt:vl B64 us0<v) (hvn:v<B64^n) {bs:List Blk} (h1:bs[lu]?=some ⟨c64 us0,.rw⟩) (h2:bs[lq]?=some ⟨c64 qs,.rw⟩):
 xY x y (lp (λ(_ _ _ _ _ _:D)(_:LS)=>none) (kQ φ) φ (.i .i64 (.ofNat z)) (.sl lu 0 cu cu 1 eu) (.i .i64 (.ofNat n)) (.sl lq 0 nq nq 1 true) (.i .i64 (.ofNat n)) (.i .i64 (.ofNat 0)) (mem bs)):=by
 have hpz:0<2^z:=bR (by decide);have hvp:0<v:=br (a9 _) hlt;obtain⟨f1,f2⟩:=(Nat.div_mod_unique hvp).2 ⟨hX,hlt⟩;rw[hv,Nat.mul_div_mul_right _ _ hpz]at f1;rw[hv,z13]at f2;have hdz:vl B64 (us0.drop n)=0:=by
  have hc:=BT (B:=B64) (show n≤us0.length by omega);rcases bL (vl B64 (us0.drop n))with h|h
  ·exact h
  ·exfalso;have:B64^n*1≤B64^n*vl B64 (us0.drop n):=aZ _ h;omega
 obtain⟨R,hP,hR⟩:=XJ (φ:=φ) (z:=z) (lu:=lu) (lq:=lq) (nq:=nq) (eu:=eu) (qs:=qs) (n:=n) (P:=xY x y) hz hu0 hn hcu su0 (by
  intro bs us g1 g2 su hul hval;refine⟨_,?_,rfl⟩;rw[hdz,Nat.zero_div,dG,bH,←f2,z1j _ hpz]at hval;have g1':(bs.set lq ⟨c64 qs,.frz⟩)[lu]?=some ⟨c64 us,.rw⟩:=gg (Ne.symm hne) g1;have t1:=D5 qs nq;have t2:=D5 us n;refine xY.of (th (Wh g2 hq (by omega) (by omega)) (th (Ed g1' rfl (by omega) (by omega)) (yZ g1' rfl rfl (by omega) (by omega) (by omega) (by omega) (by omega)))) ?_;refine⟨qs.take (tl qs nq),us.take (tl us n),(cnd true (Nat.beq (tl qs nq) nq) false),(eu&&cu==tl us n),rV sq,GN _ (by omega),by rw[KC _ (by omega),aM (by omega)];exact f1.symm,rV su,GN _ (by omega),by rw[KC _ (by omega)];exact hval,?_⟩;rw[y5 (by omega),y5 (by omega)];exact GX (Vt (j:=58)) (En (j:=58) (by rw[mQ];exact g1') rfl rfl (by omega)) rfl) hne n 0 φ bs us0 (by omega) (by omega) h1 h2 su0 hu0 rfl (by simp[vl])
 exact xY.of hR hP
theorem C7{φ:Nat}{xs ys:List Nat}{ex ey:Bool}(sx:Sm B64 xs)(sy:Sm B64 ys)(tx:Tm xs)(ty:Tm ys)(hx:xs.length≤1000000000)(hy:ys.length≤1000000000)(h0:0<vl B64 ys)(hφ:xs.length+20<φ):
 xY (vl B64 xs) (vl B64 ys) (gW φ [.tree (c64 xs) xs.length ex,.tree (c64 ys) ys.length ey]):=by
 have hBp:0<B64:=by decide
 have hcmp:=RJ (φ:=φ) (e1:=ex) (e2:=ey) rfl rfl sx sy tx ty (by omega) (by omega) (by omega);rw[zX];unfold xA;dsimp only[eV,eZ];by_cases hlt:vl B64 xs<vl B64 ys
 ·rw[LU hlt]at hcmp;refine xY.of (th (zz hcmp) (th rg (th eP B6))) ?_;exact⟨[],xs,true,ex,(λw hw=>by cases hw),(λw hw=>by simp at hw),by rw[cL hlt];rfl,sx,tx,by rw[bJ hlt],rfl⟩
 ·obtain⟨c,hc⟩:=LV (x:=vl B64 xs) (y:=vl B64 ys) (by omega);rw[hc]at hcmp;have hyne:ys≠[]:=λe=>by subst e;simp[vl]at h0
  have hxne:xs≠[]:=λe=>by subst e;simp[vl]at hlt;omega
  have hxl:0<xs.length:=cM.2 hxne;have hyl:0<ys.length:=cM.2 hyne;by_cases h1:ys.length=1
  ·obtain⟨y,rfl⟩:∃y,ys=[y]:=by
    match ys,h1 with
    |[y],_=>exact⟨y,rfl⟩
   have hyv:vl B64 [y]=y:=by simp[vl]
   rw[hyv]at h0 ⊢;have:=Jd (φ:=φ) (ex:=ex) (ey:=ey) rfl sx hxl hx h0 (sy y (by simp)) (by omega) xs.length φ 0 (List.replicate xs.length 0) (by simp) (zb hBp) (aD _) (by omega) h0 (by
    rw[bh (aD _),bh (by simp)];simp[vl])
   refine xY.of ?_ this;refine th (zz hcmp) (th (fy (cU c)) (th eM (th fH (th (qE rfl) (th eP (th fH ?_))))));rw[←fm];refine th (HE rfl (by omega) (by omega)) (th fH (th (CQ (by omega)) ?_));rw[rC,uk];rfl
  ·obtain⟨m,hm⟩:∃m,ys.length=m+2:=⟨ys.length-2,by omega⟩
   obtain⟨k,hk⟩:∃k,xs.length=m+2+k:=by
    refine⟨xs.length-(m+2),?_⟩;rcases az xs.length ys.length with h|h
    ·exact absurd (xi (by decide) sx ty h) hlt
    ·omega
   have dtop:dgt ys (m+1)<18446744073709551616:=jF sy hBp _;have dne:dgt ys (m+1)≠0:=by
    refine ty _ ?_;rw[z0F,hm];exact jE (by omega)
   obtain⟨z,z1,z2,z3,z4⟩:=HK (φ:=φ) dtop (z1k dne);have hpz:0<2^z:=bR (by decide);obtain⟨vf,v1,v2,v3,v4⟩:=AO (φ:=φ) (n:=m+2) (ex:=ey) z1 hm sy (by omega) (by omega);obtain⟨us,u1,u2,u3,u4⟩:=AO (φ:=φ) (n:=m+2+k) (ex:=ex) z1 hk sx (by omega) (by omega);have hyval:vl B64 ys=vl B64 (ys.take (m+1))+dgt ys (m+1)*B64^(m+1):=by
    conv=>lhs;rw[←aM (show ys.length≤m+1+1 by omega),oo]
   have hylt:vl B64 (ys.take (m+1))<B64^(m+1):=mZ sy hBp;have hlow:(dgt ys (m+1)*2^z)*B64^(m+1)≤vl B64 vf:=by
    rw[v3,dJ];exact aL _ (by omega)
   have hhigh:vl B64 vf<B64^(m+1+1):=by
    have h5:vl B64 ys*2^z<(dgt ys (m+1)+1)*B64^(m+1)*2^z:=dD (by rw[aP,bE];omega) hpz;rw[←v3,dJ]at h5;have h6:(dgt ys (m+1)+1)*2^z≤18446744073709551616:=by
     have hd:2^z∣18446744073709551616:=⟨2^(64-z),by rw[←bY,cP (by omega)]⟩
     obtain⟨w,hw⟩:=hd;rw[hw,aK]at z2;have:=z1v z2;rw[hw,aK];exact aZ _ this
    have h7:=aL (B64^(m+1)) h6;rw[av B64 (m+1),aK (B64^(m+1))];exact bp h5 h7
   obtain⟨t1,t2⟩:=SE (n:=m+1) (c:=dgt ys (m+1)*2^z) v1 v2 hhigh hlow;have htl:=V9 (n:=m+1) v1 t2 (by omega);have hvt:vl B64 (vf.take (m+2))=vl B64 ys*2^z:=by
    rw[←v3,←pY (m+2) vf (λt ht=>xO (by decide) hhigh ht)]
   have hX:vl B64 us=vl B64 xs*2^z:=u3;have hu0:vl B64 (us.drop (k+1))<vl B64 (vf.take (m+2)):=by
    have hc:=BT (B:=B64) (show k+1≤us.length by omega);have h5:vl B64 xs<B64^(m+2+k):=by have:=t7 sx;rwa[hk]at this
    have h6:vl B64 us<B64^(m+2+k)*2^z:=by rw[u3];exact dD h5 hpz
    have h7:B64^(k+1)*vl B64 (us.drop (k+1))<B64^(k+1)*(B64^(m+1)*2^z):=by
     have e:B64^(k+1)*(B64^(m+1)*2^z)=B64^(m+2+k)*2^z:=by
      rw[←aU,←bY];congr 2;omega
     rw[e];omega
    have h8:=z1v h7;rw[hvt,hyval];refine bp h8 ?_;have h9:B64^(m+1)*1≤B64^(m+1)*dgt ys (m+1):=aZ _ (z1k dne);refine aL _ ?_;rw[ai,aK]at h9;omega
   have hz0:∀t,vl B64 ((List.replicate (k+1) 0).drop t)=0:=λt=>by rw[List.drop_replicate];exact yW _
   obtain⟨R,hP,hR⟩:=XI (φ:=φ) (m:=m) (z:=z) (lu:=1) (lv:=0) (lq:=2) (nq:=k+1) (cu:=m+2+k+1) (cv:=m+2+1) (eu:=false) (ev':=false) (vf:=vf) (X:=vl B64 xs*2^z) (P:=xY (vl B64 xs) (vl B64 ys)) (by omega) (by omega) (by omega) v2 (by omega) (by omega) (by omega) (by omega) (by omega) (by
    intro bs us' qs' g1 g2 s1 s2 l1' l2' hX' hlt';refine⟨_,?_,rfl⟩;exact UY z1 l1' (by omega) (by omega) (by omega) s1 s2 l2' (by omega) (by omega) (by omega) hvt hX' hlt' (mZ v2 hBp) g1 g2) (k+1) φ [⟨c64 vf,.rw⟩,⟨c64 us,.rw⟩,⟨c64 (List.replicate (k+1) 0),.rw⟩] us (List.replicate (k+1) 0) (by omega) (aD _) (by omega) rfl rfl rfl u2 (zb hBp) u1 (by simp) (by rw[hz0,dG,dG,bH,hX]) hu0 (λt ht=>by unfold dgt;rw[aH,bX (by omega)];rfl)
   refine xY.of ?_ hP;have hml:(mem [⟨c64 vf,Stt.rw⟩]).nx=1:=js _;refine th (zz hcmp) (th (fy (cU c)) (th eM (th fH (th (tO h1) (th eM (th fH (th (gR (by omega) (by omega)) (th (Vv rfl (by omega)) ?_))))))));rw[show ys.length-1=m+1 by omega];refine th (fP z4) ?_;rw[hm,hk,←fm];refine th (xe v4) ?_;rw[lX,js];refine th (yZ (ws:=vf) rfl rfl rfl (by omega) (aD _) (by omega) (by omega) (by omega)) ?_;rw[htl];refine th (xe u4) ?_;rw[lX,js];refine th AY (th fH (th (gR (by omega) (by omega)) (th (fM (by omega)) ?_)));rw[show m+2+k-(m+1+1)=k by omega];refine th (HE rfl (by omega) (by omega)) (th fH (th (gR (by omega) (by omega)) ?_));rw[rC,uk,show m+2+k-(m+1+1)=k by omega];exact hR
end
variable {s:LS} {K:D→LS→Rs}
theorem vo{m:Nat}(hs:s.fit)(hm:Nat.log2 m≤1000000000):∃x s' ws,(∀K,eR qH [.n m] s K=K x s')∧HT s' x ws∧Sm B64 ws∧Tm ws∧vl B64 ws=m∧ws.length≤15625001∧More s s':=by
 by_cases h0:m=0
 ·subst h0;exact⟨.tree [] 0 true,s,[],λK=>rfl,.tr (ws:=[]),(λw hw=>by cases hw),(λw hw=>by simp at hw),rfl,by simp,More.refl s⟩
 ·obtain⟨x,s',ws,h1,h2,h3,h4,h5,h6,_⟩:=rJ (m:=m) hs hm;refine⟨x,s',ws,h1,h2.ht,h3,?_,by rw[←wQ];exact h4,by omega,h6⟩;intro w hw e;subst e;obtain⟨a,rfl⟩:∃a,ws=a++[0]:=by
   have hne:ws≠[]:=λe=>by subst e;simp at hw
   refine⟨ws.dropLast,?_⟩;rw[List.getLast?_eq_some_getLast hne]at hw;have:=dV hne;rw[ck hw]at this;exact this.symm
  rw[wQ,qq]at h4;have e1:vl B64 a=m:=by simpa[vl]using h4
  have e2:vl B64 a<B64^a.length:=t7 (λw hw=>h3 w (by simp[hw]));have e3:B64^a.length≤2^Nat.log2 m:=by
   have:(B64:Nat)=2^64:=by decide
   rw[this,←dm];refine ba (by decide) ?_;simp only[bF,ay,cj]at h5;omega
  have e4:=z10 h0;omega
theorem BX{ws:List Nat}{x:Nat}(ht:Tm ws)(hv:vl B64 ws≤x)(hx:Nat.log2 x≤1000000000):ws.length≤15625001:=by
 by_cases hne:ws=[]
 ·subst hne;simp
 ·have h1:=xa (B:=B64) ht hne;have hx0:x≠0:=by
   have:0<B64^(ws.length-1):=bR (by decide);omega
  have h2:2^(64*(ws.length-1))≤x:=by
   rw[dm,show(2:Nat)^64=B64 from by decide];omega
  have:=(z0U hx0).2 h2;omega
theorem DN{x y φ:Nat}(hx:Nat.log2 x≤1000000000)(hy:Nat.log2 y≤1000000000)(h0:0<y)(hφ:100000000≤φ):iO φ [.n x,.n y]=some (.tup [.n (x/y),.n (x%y)]):=by
 obtain⟨X,s1,xs,k1,hX,sx,tx,vx,lx,m1⟩:=vo (s:=s0) (m:=x) rfl hx;obtain⟨Y,s2,ys,k2,hY,sy,ty,vy,ly,m2⟩:=vo (s:=s1) (m:=y) (m1.len rfl) hy;unfold iO;refine(k1 _).trans ?_;refine(k2 _).trans ?_;have hX2:HT s2 X xs:=by
  cases hX with
  |tr=>exact .tr
  |sl hg hc hl=>exact .sl (m2.old _ _ hg) hc hl
 obtain⟨ex,ey,ls,h1,h2⟩:=zC (M:=gW φ) hX2 hY;obtain⟨s3,f1,f2,f3⟩:=xN ls s2 h2;obtain⟨qs,rs,e,e',q1,q2,q3,r1,r2,r3,g3⟩:=C7 (φ:=φ) (ex:=ex) (ey:=ey) sx sy tx ty (by omega) (by omega) (by omega) (by omega);have hxy:x/y≤x:=z16 x y;have hxm:x%y≤x:=z1t x y;rw[vx,vy]at q3 r3;refine(h1 _).trans ?_;rw[g3,gN,BG,f1];refine(mS).trans ?_;refine(mR).trans ?_;refine(pc HT.tr q1 (by have:=BX q2 (by rw[q3];exact hxy) hx;omega)).trans ?_;refine(pc HT.tr r1 (by have:=BX r2 (by rw[r3];exact hxm) hx;omega)).trans ?_;rw[wQ,wQ,q3,r3];rfl
theorem w8{x y:Nat}(hx:Nat.log2 x≤1000000000):Nat.log2 (x%y)≤1000000000:=by
 by_cases h:x%y=0
 ·rw[h];decide
 ·have h1:=z10 h;have h2:x≠0:=λe=>by subst e;simp at h
  have:=(z0U h2).2 (bT h1 (z1t x y));omega
theorem HT.len{x:D}{ws:List Nat}(h:HT s x ws){K:D→LS→Rs}:ek x s K=K (.i .i64 (.ofNat ws.length)) s:=by
 cases h<;>rfl
theorem Wt{φ:Nat}(hφ:100000000≤φ):∀(k f x y:Nat)(xs ys:List Nat)(X Y:D)(s:LS),y≤2^k→k≤1000000001→2*k+2<f→HT s X xs→HT s Y ys→Sm B64 xs→Sm B64 ys→Tm xs→Tm ys→vl B64 xs=x→vl B64 ys=y→Nat.log2 x≤1000000000→Nat.log2 y≤1000000000→
 lp (λ(_ _:D)(_:LS)=>none) (gcF φ) f X Y s=some (.n (Nat.gcd x y)):=by
 have one:∀(f x y:Nat)(xs ys:List Nat)(X Y:D)(s:LS),HT s X xs→HT s Y ys→Sm B64 xs→Sm B64 ys→Tm xs→Tm ys→vl B64 xs=x→vl B64 ys=y→Nat.log2 x≤1000000000→Nat.log2 y≤1000000000→
  (y=0→lp (λ(_ _:D)(_:LS)=>none) (gcF φ) (f+1) X Y s=some (.n x))∧(0<y→∃(rs:List Nat)(R:D)(s':LS),HT s' Y ys∧HT s' R rs∧Sm B64 rs∧Tm rs∧vl B64 rs=x%y∧lp (λ(_ _:D)(_:LS)=>none) (gcF φ) (f+1) X Y s=lp (λ(_ _:D)(_:LS)=>none) (gcF φ) f Y R s'):=by
  intro f x y xs ys X Y s hX hY sx sy tx ty vx vy lx ly;refine⟨λh0=>?_,λh0=>?_⟩
  ·have hys:ys=[]:=by
    cases ys with
    |nil=>rfl
    |cons a b=>
     have h1:=xa (B:=B64) ty (by simp);have:0<B64^((a::b).length-1):=bR (by decide);omega
   subst hys;rw[eO];unfold gcF;refine th hY.len (th (oO (by simp)) (th eM (th (pc hX sx (by have:=BX tx (z0L vx) lx;omega)) ?_)));rw[wQ,vx];rfl
  ·have hyl:0<ys.length:=by
    cases ys with
    |nil=>simp[vl]at vy;omega
    |cons a b=>simp
   obtain⟨ex,ey,ls,h1,h2⟩:=zC (M:=gW φ) hX hY;obtain⟨s3,f1,f2,f3⟩:=xN ls s h2;have l1:=BX tx (z0L vx) lx;have l2:=BX ty (z0L vy) ly;obtain⟨qs,rs,e,e',q1,q2,q3,r1,r2,r3,g3⟩:=C7 (φ:=φ) (ex:=ex) (ey:=ey) sx sy tx ty (by omega) (by omega) (by omega) (by omega);rw[vx,vy]at r3;refine⟨rs,.tree (c64 rs) rs.length e',s3,f2 _ _ hY,.tr,r1,r2,r3,?_⟩;rw[eO]
   conv=>lhs;unfold gcF
   refine th hY.len (th (mf hyl) (th eP (th (h1 _) ?_)));rw[g3,gN,BG,f1];exact th mS mR
 intro k
 induction k with
 |zero=>
  intro f x y xs ys X Y s hk hk2 hf hX hY sx sy tx ty vx vy lx ly;obtain⟨f,rfl⟩:∃q,f=q+2:=⟨f-2,by omega⟩
  rcases(show y=0∨y=1 by rw[ce]at hk;omega)with h0|h0
  ·rw[(one (f+1) x y xs ys X Y s hX hY sx sy tx ty vx vy lx ly).1 h0,h0,d5]
  ·obtain⟨rs,R,s',a1,a2,a3,a4,a5,a6⟩:=(one (f+1) x y xs ys X Y s hX hY sx sy tx ty vx vy lx ly).2 (by omega);rw[a6];have hm:x%y=0:=by rw[h0,Nat.mod_one]
   rw[(one f y (x%y) ys rs Y R s' a1 a2 sy a3 ty a4 vy a5 ly (w8 lx)).1 hm,h0,Nat.gcd_one_right]
 |succ k ih=>
  intro f x y xs ys X Y s hk hk2 hf hX hY sx sy tx ty vx vy lx ly;obtain⟨f,rfl⟩:∃q,f=q+2:=⟨f-2,by omega⟩
  rcases bL y with h0|h0
  ·rw[(one (f+1) x y xs ys X Y s hX hY sx sy tx ty vx vy lx ly).1 h0,h0,d5]
  ·obtain⟨rs,R,s',a1,a2,a3,a4,a5,a6⟩:=(one (f+1) x y xs ys X Y s hX hY sx sy tx ty vx vy lx ly).2 h0;have e1:Nat.gcd x y=Nat.gcd y (x%y):=by rw[dO x y,z1G y x,dO]
   have hml:=bg x h0;rw[a6,e1];rcases bL (x%y)with g0|g0
   ·rw[(one f y (x%y) ys rs Y R s' a1 a2 sy a3 ty a4 vy a5 ly (w8 lx)).1 g0,g0,d5]
   ·obtain⟨rs2,R2,s2,b1,b2,b3,b4,b5,b6⟩:=(one f y (x%y) ys rs Y R s' a1 a2 sy a3 ty a4 vy a5 ly (w8 lx)).2 g0;have e2:Nat.gcd y (x%y)=Nat.gcd (x%y) (y%(x%y)):=by rw[dO y,z1G (x%y) y,dO]
    rw[b6,e2];refine ih f (x%y) (y%(x%y)) rs rs2 R R2 s2 ?_ (by omega) (by omega) b1 b2 a3 b3 a4 b4 a5 b5 (w8 lx) (w8 ly);have hml2:=bg y g0;have h5:=cR y (x%y);have h6:1≤y/(x%y):=z0T (by omega) g0;have h7:(x%y)*1≤(x%y)*(y/(x%y)):=aZ _ h6;rw[av]at hk;omega
theorem JC{x y φ:Nat}(hx:Nat.log2 x≤1000000000)(hy:Nat.log2 y≤1000000000)(hφ:3000000000≤φ):jl φ [.n x,.n y]=some (.n (Nat.gcd x y)):=by
 obtain⟨X,s1,xs,k1,hX,sx,tx,vx,lx,m1⟩:=vo (s:=s0) (m:=x) rfl hx;obtain⟨Y,s2,ys,k2,hY,sy,ty,vy,ly,m2⟩:=vo (s:=s1) (m:=y) (m1.len rfl) hy;have hX2:HT s2 X xs:=by
  cases hX with
  |tr=>exact .tr
  |sl hg hc hl=>exact .sl (m2.old _ _ hg) hc hl
 unfold jl;refine(k1 _).trans ?_;refine(k2 _).trans ?_;obtain⟨k,hk⟩:∃k,k=1000000001:=⟨_,rfl⟩
 refine Wt (φ:=φ) (by omega) k φ x y xs ys X Y s2 ?_ (by omega) (by omega) hX2 hY sx sy tx ty vx vy hx hy;by_cases h0:y=0
 ·subst h0;exact a9 _
 ·exact dN ((z1i h0).1 (by omega))
end
end Go.Proofs.Ev
namespace Go.Proofs.Ev
noncomputable section
abbrev Row:=List Rat
abbrev Vec:=Nat→Rat
def ent(r:Row):Vec:=λi=>r.getD i 0
inductive Sp (A:List Row):Vec→Prop
 |zero:Sp A (λ_=>0)
 |add {f:Vec} {r:Row} (h:Sp A f) (c:Rat) (hr:r∈A):Sp A (λi=>f i+c*ent r i)
section
variable {A B:List Row} {f g:Vec} {r:Row}
theorem Sp.of(h:Sp A f)(e:∀i,f i=g i):Sp A g:=by rw[←show f=g from funext e];exact h
theorem pO(hf:Sp A f)(hg:Sp A g)(c:Rat):Sp A (λi=>f i+c*g i):=by
 induction hg with
 |zero=>exact hf.of λi=>by grind
 |add h c' hr ih=>exact(Sp.add ih (c*c') hr).of λi=>by grind
theorem n7(hr:r∈A):Sp A (ent r):=(Sp.add Sp.zero 1 hr).of λi=>by grind
theorem kA(h:∀r,r∈A→Sp B (ent r))(hf:Sp A f):Sp B f:=by
 induction hf with
 |zero=>exact Sp.zero
 |add _ c hr ih=>exact pO ih (h _ hr) c
theorem sd(h:∀r,r∈A→r∈B)(hf:Sp A f):Sp B f:=kA (λr hr=>n7 (h r hr)) hf
theorem Vb(hf:Sp [] f):∀i,f i=0:=by
 induction hf with
 |zero=>intro i;rfl
 |add _ _ hr _=>cases hr
def DF(r:Row)(p:Nat):Prop:=ent r p=1∧∀c,c<p→ent r c=0
def RE(E:List (Row×Nat)):Prop:=(∀e,e∈E→DF e.1 e.2)∧E.Pairwise (λa b=>ent a.1 b.2=0∧ent b.1 a.2=0)
def cmb(E:List (Row×Nat))(f:Vec):Vec:=λi=>E.foldr (λe s=>f e.2*ent e.1 i+s) 0
theorem LW(E:List (Row×Nat))(f g:Vec)(c:Rat)(i:Nat):cmb E (λi=>f i+c*g i) i=cmb E f i+c*cmb E g i:=by
 unfold cmb
 induction E with
 |nil=>simp only[List.foldr_nil];grind
 |cons e E ih=>simp only[z1a];rw[ih];grind
theorem zO(E:List (Row×Nat))(f:Vec)(h:∀e,e∈E→f e.2=0)(i:Nat):cmb E f i=0:=by
 unfold cmb
 induction E with
 |nil=>rfl
 |cons e E ih=>simp only[z1a];rw[ih (λe he=>h e (by simp[he])),h e (by simp)];grind
theorem U2{E:List (Row×Nat)}(h:RE E):∀e,e∈E→∀i,cmb E (ent e.1) i=ent e.1 i:=by
 obtain⟨h1,h2⟩:=h
 induction E with
 |nil=>intro e he;cases he
 |cons d E ih=>
  rw[dk]at h2;intro e he i;rcases bI.1 he with rfl|he
  ·show ent e.1 e.2*ent e.1 i+cmb E (ent e.1) i=_;rw[zO E _ (λd hd=>(h2.1 d hd).1),(h1 e (by simp)).1];grind
  ·show ent e.1 d.2*ent d.1 i+cmb E (ent e.1) i=_;rw[ih (λe he=>h1 e (by simp[he])) h2.2 e he i,(h2.1 e he).2];grind
theorem G7{E:List (Row×Nat)}(h:RE E){f:Vec}(hf:Sp (E.map Prod.fst) f)(i:Nat):f i=cmb E f i:=by
 induction hf generalizing i with
 |zero=>rw[zO];intro e _;rfl
 |add _ c hr ih=>
  obtain⟨e,he,rfl⟩:=aW.1 hr;rw[LW,←ih,U2 h e he]
theorem Ep{E:List (Row×Nat)}(h:RE E){f:Vec}(hf:Sp (E.map Prod.fst) f)(h0:∀e,e∈E→f e.2=0)(i:Nat):f i=0:=by
 rw[G7 h hf,zO E f h0]
end
def vE(f:Nat→Rat):Nat→Rat
 |0=>0
 |n+1=>vE f n+f n
theorem BZ{f g:Nat→Rat}:∀{n:Nat},(∀i,i<n→f i=g i)→vE f n=vE g n
 |0,_=>rfl
 |n+1,h=>by unfold vE;rw[BZ (n:=n) (λi hi=>h i (by omega)),h n (by omega)]
theorem vD{f:Nat→Rat}:∀{n:Nat},(∀i,i<n→f i=0)→vE f n=0
 |0,_=>rfl
 |n+1,h=>by unfold vE;rw[vD (n:=n) (λi hi=>h i (by omega)),h n (by omega)];grind
theorem GO{f:Nat→Rat}{p:Nat}:∀{n:Nat},p<n→(∀i,i<n→i≠p→f i=0)→vE f n=f p
 |0,h,_=>by omega
 |n+1,h,h0=>by
  unfold vE;by_cases e:p=n
  ·subst e;rw[vD (λi hi=>h0 i (by omega) (by omega))];grind
  ·rw[GO (n:=n) (by omega) (λi hi hp=>h0 i (by omega) hp),h0 n (by omega) (by omega)];grind
theorem GP{f g:Nat→Rat}{c:Rat}:∀{n:Nat},vE (λi=>f i+c*g i) n=vE f n+c*vE g n
 |0=>by unfold vE;grind
 |n+1=>by unfold vE;rw[GP];grind
def lc:List Rat→List Row→Vec
 |c::cs,r::rows=>λi=>c*ent r i+lc cs rows i
 |_,_=>λ_=>0
theorem HQ:∀(cs:List Rat)(rows:List Row),Sp rows (lc cs rows)
 |[],_=>Sp.zero
 |_::_,[]=>Sp.zero
 |c::cs,r::rows=>(Sp.add (sd (λr hr=>bm _ hr) (HQ cs rows)) c (cA)).of λi=>by simp only[lc];grind
theorem CA(rows:List Row)(i:Nat):lc (List.replicate rows.length 0) rows i=0:=by
 induction rows with
 |nil=>rfl
 |cons r rows ih=>show 0*ent r i+lc (List.replicate rows.length 0) rows i=0;rw[ih];grind
theorem Ps:∀(as bs:List Rat)(rows:List Row)(c:Rat),as.length=bs.length→∀i,lc (List.zipWith (λa b=>a+c*b) as bs) rows i=lc as rows i+c*lc bs rows i
 |[],[],rows,c,_,i=>by simp only[List.zipWith_nil_left,lc];grind
 |a::as,b::bs,[],c,_,i=>by simp only[List.zipWith_cons_cons,lc];grind
 |a::as,b::bs,r::rows,c,h,i=>by
  show(a+c*b)*ent r i+lc (List.zipWith _ as bs) rows i=(a*ent r i+lc as rows i)+c*(b*ent r i+lc bs rows i);rw[Ps as bs rows c (by simpa using h)];grind
theorem Kl:∀(rows:List Row)(r:Row),r∈rows→∃cs,cs.length=rows.length∧∀i,ent r i=lc cs rows i
 |s::rows,r,h=>by
  rcases bI.1 h with rfl|h
  ·exact⟨1::List.replicate rows.length 0,by simp,λi=>by show _=1*ent r i+lc (List.replicate rows.length 0) rows i;rw[CA];grind⟩
  ·obtain⟨cs,h1,h2⟩:=Kl rows r h;exact⟨0::cs,by simp[h1],λi=>by show _=0*ent s i+lc cs rows i;rw[h2];grind⟩
theorem OA{rows:List Row}{f:Vec}(h:Sp rows f):∃cs,cs.length=rows.length∧∀i,f i=lc cs rows i:=by
 induction h with
 |zero=>exact⟨List.replicate rows.length 0,by simp,λi=>(CA rows i).symm⟩
 |add _ c hr ih=>
  obtain⟨cs,h1,h2⟩:=ih;obtain⟨ds,h3,h4⟩:=Kl rows _ hr;exact⟨List.zipWith (λa b=>a+c*b) cs ds,by simp[h1,h3],λi=>by rw[Ps cs ds rows c (by omega),←h2,←h4]⟩
def Ind(rows:List Row):Prop:=∀cs:List Rat,cs.length=rows.length→(∀i,lc cs rows i=0)→∀c,c∈cs→c=0
theorem Tz:Ind []:=λcs h _ c hc=>by have:cs=[]:=a8 h;subst this;cases hc
theorem FY:∀(cs:List Rat)(rows:List Row)(c:Rat)(r:Row),cs.length=rows.length→∀i,lc (cs++[c]) (rows++[r]) i=lc cs rows i+c*ent r i
 |[],[],c,r,_,i=>by simp only[cQ,lc];grind
 |d::cs,s::rows,c,r,h,i=>by
  show d*ent s i+lc (cs++[c]) (rows++[r]) i=_;rw[FY cs rows c r (by simpa using h)];simp only[lc];grind
theorem H8{rows:List Row}{r:Row}(h:Ind rows)(hn:¬Sp rows (ent r)):Ind (rows++[r]):=by
 intro cs hl h0;obtain⟨ds,c,rfl⟩:∃ds c,cs=ds++[c]:=by
  have hne:cs≠[]:=λe=>by subst e;simp at hl
  exact⟨cs.dropLast,cs.getLast hne,(dV hne).symm⟩
 have hl':ds.length=rows.length:=by simpa using hl
 have hc:c=0:=by
  by_cases hc:c=0
  ·exact hc
  ·exfalso;apply hn;refine(pO Sp.zero (HQ ds rows) (-c⁻¹)).of λi=>?_;have:=h0 i;rw[FY ds rows c r hl']at this;have h2:c⁻¹*c=1:=cw c hc;grind
 subst hc;intro d hd;rcases am.1 hd with hd|hd
 ·exact h ds hl' (λi=>by have:=h0 i;rw[FY ds rows 0 r hl']at this;grind) d hd
 ·simpa using hd
def sbr(r l:Row)(c:Rat):Row:=List.zipWith (λa b=>a-c*b) r l
def pvt(r:Row):Nat:=r.findIdx (λx=>decide (x≠0))
def tD(E:List Row)(r:Row):Row:=E.foldl (λr l=>sbr r l (ent r (pvt l))) r
def scl(r:Row)(c:Rat):Row:=r.map (λx=>x*c)
def nrm(r:Row):Row:=scl r (ent r (pvt r))⁻¹
def uT(out:List Row)(r:Row):List Row:=
 if pvt (tD out r)<(tD out r).length then(out.map λl=>sbr l (nrm (tD out r)) (ent l (pvt (tD out r))))++[nrm (tD out r)]else out
def ech(rows:List Row):List Row:=rows.foldl uT []
section
variable {r l:Row} {c:Rat} {i p N:Nat} {E out rows done:List Row}
theorem se(h:r.length=l.length):(sbr r l c).length=r.length:=by unfold sbr;rw[List.length_zipWith];omega
theorem ya(h:r.length=l.length):ent (sbr r l c) i=ent r i-c*ent l i:=by
 unfold ent sbr;simp only[aH,List.getElem?_zipWith];by_cases hi:i<r.length
 ·rw[aB hi,aB (by omega)];rfl
 ·rw[bX (by omega),bX (by omega)];simp only[Option.getD_none];grind
theorem As:ent (scl r c) i=ent r i*c:=by
 unfold ent scl;simp only[aH,au];cases r[i]?with
 |none=>simp only[dM,Option.getD_none];grind
 |some x=>rfl
theorem y9:(scl r c).length=r.length:=by unfold scl;rw[aI]
theorem TM:(nrm r).length=r.length:=y9
theorem Bd(h:pvt r<r.length):ent r (pvt r)≠0:=by
 have:=dz (xs:=r) (p:=λx=>decide (x≠0)) (w:=h);unfold ent;rw[aH,aB h];exact cg this
theorem FC(h:i<pvt r):ent r i=0:=by
 have:=List.not_of_lt_findIdx (xs:=r) (p:=λx=>decide (x≠0)) (i:=i) h;have hl:i<r.length:=bp h (z0W);unfold ent;rw[aH,aB hl];simpa using this
theorem gL(h:r.length≤i):ent r i=0:=by unfold ent;rw[aH,bX h];rfl
theorem WK:pvt r≤r.length:=z0W
theorem Gk(h:¬pvt r<r.length):ent r i=0:=by
 rcases az i (pvt r)with h1|h1
 ·exact FC h1
 ·exact gL (by have:=WK (r:=r);omega)
theorem yk(h:DF r p):pvt r=p:=by
 have hne:(1:Rat)≠0:=by decide
 have hp:p<r.length:=by
  rcases az p r.length with h1|h1
  ·exact h1
  ·have:=gL h1;rw[h.1]at this;exact absurd this hne
 rcases dA (pvt r) p with h1|h1|h1
 ·exact absurd (h.2 _ h1) (Bd (by omega))
 ·exact h1
 ·have:=FC h1;rw[h.1]at this;exact absurd this hne
def pr(r:Row):Row×Nat:=(r,pvt r)
def RE'(E:List Row):Prop:=RE (E.map pr)
theorem xp(E:List Row):(E.map pr).map Prod.fst=E:=by rw[cE];exact List.map_id E
theorem Ba(hE:∀l,l∈E→l.length=N)(hr:r.length=N):(tD E r).length=N:=by
 unfold tD
 induction E generalizing r with
 |nil=>exact hr
 |cons l E ih=>
  rw[dh];exact ih (λm hm=>hE m (by simp[hm])) (by rw[se (by rw[hr,hE l (by simp)])];exact hr)
theorem G6(h:(E.map pr).Pairwise (λa b=>ent a.1 b.2=0∧ent b.1 a.2=0))(hE:∀l,l∈E→l.length=N)(hr:r.length=N)(i:Nat):ent (tD E r) i=ent r i-cmb (E.map pr) (ent r) i:=by
 induction E generalizing r with
 |nil=>show ent r i=ent r i-0;grind
 |cons l E ih=>
  rw[bB,dk]at h;have hl:=hE l (by simp);show ent (tD E (sbr r l (ent r (pvt l)))) i=ent r i-(ent r (pvt l)*ent l i+cmb (E.map pr) (ent r) i);rw[ih h.2 (λm hm=>hE m (by simp[hm])) (by rw[se (by omega)];exact hr)];have e:ent (sbr r l (ent r (pvt l)))=λi=>ent r i+(-(ent r (pvt l)))*ent l i:=by
   funext i;rw[ya (by omega)];grind
  rw[e,LW,zO (E.map pr) (ent l) (λe he=>(h.1 e he).1)];grind
theorem RP{E:List (Row×Nat)}(h:RE E){f:Vec}:∀e,e∈E→cmb E f e.2=f e.2:=by
 obtain⟨h1,h2⟩:=h
 induction E with
 |nil=>intro e he;cases he
 |cons d E ih=>
  rw[dk]at h2;intro e he;have key:∀(E:List (Row×Nat)) p,(∀d,d∈E→ent d.1 p=0)→cmb E f p=0:=by
   intro E p h;unfold cmb
   induction E with
   |nil=>rfl
   |cons d E ih=>simp only[z1a];rw[ih (λd hd=>h d (by simp[hd])),h d (by simp)];grind
  rcases bI.1 he with rfl|he
  ·show f e.2*ent e.1 e.2+cmb E f e.2=_;rw[key E e.2 (λd hd=>(h2.1 d hd).2),(h1 e (by simp)).1];grind
  ·show f d.2*ent d.1 e.2+cmb E f e.2=_;rw[ih (λe he=>h1 e (by simp[he])) h2.2 e he,(h2.1 e he).1];grind
theorem Jh{E:List (Row×Nat)}{f:Vec}:Sp (E.map Prod.fst) (cmb E f):=by
 induction E with
 |nil=>exact Sp.zero
 |cons e E ih=>exact(Sp.add (sd (λr hr=>by rw[bB];exact bm _ hr) ih) (f e.2) (by rw[bB];exact cA)).of λi=>by show cmb E f i+f e.2*ent e.1 i=f e.2*ent e.1 i+cmb E f i;grind
structure EI (N:Nat) (rows out:List Row):Prop where
 len:∀l,l∈out→l.length=N
 sub:∀l,l∈out→Sp rows (ent l)
 sup:∀r,r∈rows→Sp out (ent r)
 red:RE' out
theorem RE'.lead(h:RE' out)(hl:l∈out):DF l (pvt l):=h.1 (pr l) (ax hl)
theorem LO(h:EI N rows out)(hr:r.length=N):EI N (rows++[r]) (uT out r):=by
 have hpw:=h.red.2;have hlen:=Ba h.len hr;have hent:=λi=>G6 hpw h.len hr i;have hz:∀l,l∈out→ent (tD out r) (pvt l)=0:=λl hl=>by
  have:=RP h.red (f:=ent r) (pr l) (ax hl);rw[hent,show cmb (out.map pr) (ent r) (pvt l)=ent r (pvt l)from this];grind
 have hcs:Sp out (cmb (out.map pr) (ent r)):=by have:=Jh (E:=out.map pr) (f:=ent r);rwa[xp]at this
 have hmono:∀f,Sp rows f→Sp (rows++[r]) f:=λf hf=>sd (λx hx=>b9 _ hx) hf;have hgs:Sp (rows++[r]) (ent (tD out r)):=(pO (n7 (A:=rows++[r]) (r:=r) (by simp)) (hmono _ (kA h.sub hcs)) (-1)).of λi=>by rw[hent];grind
 unfold uT;generalize hg:tD out r=g at*;by_cases hp:pvt g<g.length
 ·rw[aC hp];have hne:=Bd hp;have hn:∀i,ent (nrm g) i=ent g i*(ent g (pvt g))⁻¹ :=λi=>As;have hinv:ent g (pvt g)*(ent g (pvt g))⁻¹ =1:=z1l _ hne;have hnl:(nrm g).length=N:=by rw[TM];exact hlen
  have hgl:DF (nrm g) (pvt g):=⟨by rw[hn];exact hinv,λc hc=>by rw[hn,FC hc];grind⟩
  have hnz:∀l,l∈out→ent (nrm g) (pvt l)=0:=λl hl=>by rw[hn,hz l hl];grind
  have hnew:∀l,l∈out→∀i,ent (sbr l (nrm g) (ent l (pvt g))) i=ent l i-ent l (pvt g)*ent (nrm g) i:=λl hl i=>ya (by rw[hnl];exact h.len l hl);have hle:∀l,l∈out→DF (sbr l (nrm g) (ent l (pvt g))) (pvt l):=λl hl=>by
   have hld:=h.red.lead hl;refine⟨by rw[hnew l hl,hnz l hl,hld.1];grind,λc hc=>?_⟩;rw[hnew l hl,hld.2 c hc];rcases dA (pvt g) (pvt l)with h1|h1|h1
   ·rw[hld.2 _ h1];grind
   ·have:=hnz l hl;rw[←h1,hgl.1]at this;exact absurd this (by decide)
   ·rw[hgl.2 c (by omega)];grind
  have hpv:∀l,l∈out→pvt (sbr l (nrm g) (ent l (pvt g)))=pvt l:=λl hl=>yk (hle l hl);have hgn:Sp (rows++[r]) (ent (nrm g)):=(pO Sp.zero hgs (ent g (pvt g))⁻¹).of λi=>by rw[hn];grind
  have hpn:pvt (nrm g)=pvt g:=yk hgl;refine⟨λl hl=>?_,λl hl=>?_,λx hx=>?_,?_,?_⟩
  ·rcases am.1 hl with hl|hl
   ·obtain⟨m,hm,rfl⟩:=aW.1 hl;rw[se (by rw[hnl];exact h.len m hm)];exact h.len m hm
   ·have:l=nrm g:=by simpa using hl
    subst this;exact hnl
  ·rcases am.1 hl with hl|hl
   ·obtain⟨m,hm,rfl⟩:=aW.1 hl;exact(pO (hmono _ (h.sub m hm)) hgn (-(ent m (pvt g)))).of λi=>by rw[hnew m hm];grind
   ·have:l=nrm g:=by simpa using hl
    subst this;exact hgn
  ·have hold:∀m,m∈out→Sp ((out.map λl=>sbr l (nrm g) (ent l (pvt g)))++[nrm g]) (ent m):=λm hm=>
    (pO (n7 (A:=(out.map λl=>sbr l (nrm g) (ent l (pvt g)))++[nrm g]) (r:=sbr m (nrm g) (ent m (pvt g))) (b9 _ (aW.2 ⟨m,hm,rfl⟩))) (n7 (r:=nrm g) (by simp)) (ent m (pvt g))).of λi=>by rw[hnew m hm];grind
   rcases am.1 hx with hx|hx
   ·exact kA hold (h.sup x hx)
   ·have:x=r:=by simpa using hx
    subst this;refine(pO (kA hold hcs) (n7 (r:=nrm g) (by simp)) (ent g (pvt g))).of λi=>?_;have:=hent i;have h3:=hn i;grind
  ·intro e he;rw[ak]at he;rcases am.1 he with he|he
   ·rw[cE]at he;obtain⟨m,hm,rfl⟩:=aW.1 he;show DF (sbr m (nrm g) (ent m (pvt g))) (pvt (sbr m (nrm g) (ent m (pvt g))));rw[hpv m hm];exact hle m hm
   ·have:e=pr (nrm g):=by simpa using he
    subst this;show DF (nrm g) (pvt (nrm g));rw[hpn];exact hgl
  ·rw[ak,z1b];refine⟨?_,by simp,?_⟩
   ·rw[cE];have h2:=hpw;rw[dS]at h2 ⊢;refine dP ?_ h2;intro a b ha hb hab;show ent (sbr a (nrm g) (ent a (pvt g))) (pvt (sbr b (nrm g) (ent b (pvt g))))=0∧ent (sbr b (nrm g) (ent b (pvt g))) (pvt (sbr a (nrm g) (ent a (pvt g))))=0;rw[hpv a ha,hpv b hb,hnew a ha,hnew b hb,hnz a ha,hnz b hb];have h3:ent a (pvt b)=0:=hab.1;have h4:ent b (pvt a)=0:=hab.2;rw[h3,h4];constructor<;>grind
   ·intro a ha b hb;rw[cE]at ha;obtain⟨m,hm,rfl⟩:=aW.1 ha;have:b=pr (nrm g):=by simpa using hb
    subst this;show ent (sbr m (nrm g) (ent m (pvt g))) (pvt (nrm g))=0∧ent (nrm g) (pvt (sbr m (nrm g) (ent m (pvt g))))=0;rw[hpn,hpv m hm,hnew m hm,hnz m hm,hgl.1];constructor<;>grind
 ·rw[aE hp];refine⟨h.len,λl hl=>hmono _ (h.sub l hl),λx hx=>?_,h.red⟩;rcases am.1 hx with hx|hx
  ·exact h.sup x hx
  ·have:x=r:=by simpa using hx
   subst this;exact hcs.of λi=>by have:=hent i;rw[Gk hp]at this;grind
theorem Ja(hr:∀r,r∈rows→r.length=N):EI N rows (ech rows):=by
 have key:∀(rest done out:List Row),EI N done out→(∀r,r∈rest→r.length=N)→EI N (done++rest) (rest.foldl uT out):=by
  intro rest
  induction rest with
  |nil=>intro done out h _;rw[bq];exact h
  |cons r rest ih=>
   intro done out h hr;rw[dh,show done++r::rest=(done++[r])++rest by simp];exact ih _ _ (LO h (hr r (by simp))) (λx hx=>hr x (by simp[hx]))
 have h0:EI N [] []:=⟨(λl hl=>by cases hl),(λl hl=>by cases hl),(λl hl=>by cases hl),(by intro e he;cases he),dp⟩
 have:=key rows [] [] h0 hr;rwa[cQ]at this
end
section
variable {r l t:Row} {c:Rat} {i n k N:Nat} {E rows:List Row}
theorem Qr:ent (l.take n) i=if i<n then ent l i else 0:=by
 unfold ent;simp only[aH,cY];by_cases h:i<n
 ·rw[aC h,aC h]
 ·rw[aE h,aE h];rfl
theorem UQ:ent (r++l) i=if i<r.length then ent r i else ent l (i-r.length):=by
 unfold ent;simp only[aH,List.getElem?_append];by_cases h:i<r.length
 ·rw[aC h,aC h]
 ·rw[aE h,aE h]
end
section
variable {r l:Row} {c:Rat} {i p n N col:Nat} {rows rows0:List Row} {done:List (Row×Nat)}
def fnd(rows:List Row)(col:Nat):Nat:=rows.findIdx (λr=>decide (ent r col≠0))
def wo(pv:Row)(col:Nat)(r:Row):Row:=sbr r pv (ent r col)
def pvr(rows:List Row)(col:Nat):Row:=scl (rows.getD (fnd rows col) []) (ent (rows.getD (fnd rows col) []) col)⁻¹
def tB(st:List Row×List (Row×Nat))(col:Nat):List Row×List (Row×Nat):=
 if fnd st.1 col<st.1.length then
  ((st.1.eraseIdx (fnd st.1 col)).map (wo (pvr st.1 col) col),(st.2.map λe=>(wo (pvr st.1 col) col e.1,e.2))++[(pvr st.1 col,col)])
 else st
def DL(N:Nat)(rows:List Row):List (Row×Nat):=((List.range N).foldl tB (rows,[])).2
structure RI (N col:Nat) (rows0 rows:List Row) (done:List (Row×Nat)):Prop where
 len:∀l,l∈rows→l.length=N
 dlen:∀e,e∈done→e.1.length=N
 zer:∀l,l∈rows→∀c,c<col→ent l c=0
 low:∀e,e∈done→e.2<col
 red:RE done
 sub:∀l,l∈rows→Sp rows0 (ent l)
 dsub:∀e,e∈done→Sp rows0 (ent e.1)
 sup:∀r,r∈rows0→Sp (rows++done.map Prod.fst) (ent r)
theorem yv{α:Type}:∀{l:List α}{i:Nat}{x d:α},x∈l→x∈l.eraseIdx i∨x=l.getD i d
 |y::l,0,x,d,h=>by
  rcases bI.1 h with h|h
  ·right;exact h
  ·left;exact h
 |y::l,i+1,x,d,h=>by
  rcases bI.1 h with h|h
  ·left;rw[h];exact cA
  ·rcases yv (i:=i) (d:=d) h with h|h
   ·left;exact bm _ h
   ·right;exact h
theorem S9(h:RI N col rows0 rows done):RI N (col+1) rows0 (tB (rows,done) col).1 (tB (rows,done) col).2:=by
 unfold tB;by_cases hf:fnd rows col<rows.length
 ·rw[aC hf];have hg:rows.getD (fnd rows col) []=rows[fnd rows col]:=by rw[aH,aB hf];rfl
  have hmem:rows.getD (fnd rows col) []∈rows:=by rw[hg];exact bK hf
  have hne:ent (rows.getD (fnd rows col) []) col≠0:=by
   rw[hg];have:=dz (xs:=rows) (p:=λr=>decide (ent r col≠0)) (w:=hf);exact cg this
  show RI N (col+1) rows0 ((rows.eraseIdx (fnd rows col)).map (wo (pvr rows col) col)) ((done.map λe=>(wo (pvr rows col) col e.1,e.2))++[(pvr rows col,col)]);have hpe:∀i,ent (pvr rows col) i=ent (rows.getD (fnd rows col) []) i*(ent (rows.getD (fnd rows col) []) col)⁻¹ :=λi=>As;have hpl:(pvr rows col).length=N:=by unfold pvr;rw[y9];exact h.len _ hmem
  generalize hr:rows.getD (fnd rows col) []=r at*;generalize pvr rows col=pv at*;have hinv:ent r col*(ent r col)⁻¹ =1:=z1l _ hne;have hld:DF pv col:=⟨by rw[hpe];exact hinv,λc hc=>by rw[hpe,h.zer r hmem c hc];grind⟩
  have hw:∀l,l.length=N→∀i,ent (wo pv col l) i=ent l i-ent l col*ent pv i:=λl hl i=>ya (by rw[hpl];exact hl);have hwl:∀l,l.length=N→(wo pv col l).length=N:=λl hl=>by unfold wo;rw[se (by rw[hpl];exact hl)];exact hl
  have hps:Sp rows0 (ent pv):=(pO Sp.zero (h.sub r hmem) (ent r col)⁻¹).of λi=>by rw[hpe];grind
  have herase:∀x,x∈rows.eraseIdx (fnd rows col)→x∈rows:=λx hx=>List.mem_of_mem_eraseIdx hx;refine⟨?_,?_,?_,?_,⟨?_,?_⟩,?_,?_,?_⟩
  ·intro l hl;obtain⟨m,hm,rfl⟩:=aW.1 hl;exact hwl m (h.len m (herase m hm))
  ·intro e he;rcases am.1 he with he|he
   ·obtain⟨m,hm,rfl⟩:=aW.1 he;exact hwl m.1 (h.dlen m hm)
   ·have:e=(pv,col):=by simpa using he
    subst this;exact hpl
  ·intro l hl c hc;obtain⟨m,hm,rfl⟩:=aW.1 hl;rw[hw m (h.len m (herase m hm))];rcases az c col with h1|h1
   ·rw[h.zer m (herase m hm) c h1,hld.2 c h1];grind
   ·have:c=col:=by omega
    subst this;rw[hld.1];grind
  ·intro e he;rcases am.1 he with he|he
   ·obtain⟨m,hm,rfl⟩:=aW.1 he;exact z0Q (h.low m hm)
   ·have:e=(pv,col):=by simpa using he
    subst this;exact cK _
  ·intro e he;rcases am.1 he with he|he
   ·obtain⟨m,hm,rfl⟩:=aW.1 he;have hm1:=h.red.1 m hm;have hlow:=h.low m hm;exact⟨by show ent (wo pv col m.1) m.2=1;rw[hw m.1 (h.dlen m hm),hm1.1,hld.2 _ hlow];grind,λc hc=>by
     show ent (wo pv col m.1) c=0;have hc:c<m.2:=hc;rw[hw m.1 (h.dlen m hm),hm1.2 c hc,hld.2 c (by omega)];grind⟩
   ·have:e=(pv,col):=by simpa using he
    subst this;exact hld
  ·rw[z1b];refine⟨?_,by simp,?_⟩
   ·rw[dS];refine dP ?_ h.red.2;intro a b ha hb hab;show ent (wo pv col a.1) b.2=0∧ent (wo pv col b.1) a.2=0;rw[hw a.1 (h.dlen a ha),hw b.1 (h.dlen b hb),hab.1,hab.2,hld.2 _ (h.low a ha),hld.2 _ (h.low b hb)];constructor<;>grind
   ·intro a ha b hb;obtain⟨m,hm,rfl⟩:=aW.1 ha;have:b=(pv,col):=by simpa using hb
    subst this;show ent (wo pv col m.1) col=0∧ent pv m.2=0;rw[hw m.1 (h.dlen m hm),hld.1,hld.2 _ (h.low m hm)];constructor<;>grind
  ·intro l hl;obtain⟨m,hm,rfl⟩:=aW.1 hl;exact(pO (h.sub m (herase m hm)) hps (-(ent m col))).of λi=>by rw[hw m (h.len m (herase m hm))];grind
  ·intro e he;rcases am.1 he with he|he
   ·obtain⟨m,hm,rfl⟩:=aW.1 he;exact(pO (h.dsub m hm) hps (-(ent m.1 col))).of λi=>by show _=ent (wo pv col m.1) i;rw[hw m.1 (h.dlen m hm)];grind
   ·have:e=(pv,col):=by simpa using he
    subst this;exact hps
  ·intro x hx;refine kA (λm hm=>?_) (h.sup x hx);have hpv:Sp ((rows.eraseIdx (fnd rows col)).map (wo pv col)++((done.map λe=>(wo pv col e.1,e.2))++[(pv,col)]).map Prod.fst) (ent pv):=n7 (by simp);have back:∀m:Row,m.length=N→wo pv col m∈(rows.eraseIdx (fnd rows col)).map (wo pv col)++((done.map λe=>(wo pv col e.1,e.2))++[(pv,col)]).map Prod.fst→Sp ((rows.eraseIdx (fnd rows col)).map (wo pv col)++((done.map λe=>(wo pv col e.1,e.2))++[(pv,col)]).map Prod.fst) (ent m):=
    λm hm hin=>(pO (n7 hin) hpv (ent m col)).of λi=>by rw[hw m hm];grind
   rcases am.1 hm with hm|hm
   ·rcases yv (i:=fnd rows col) (d:=[]) hm with h1|h1
    ·exact back m (h.len m hm) (b9 _ (ax h1))
    ·rw[hr]at h1;subst h1;exact(pO Sp.zero hpv (ent m col)).of λi=>by rw[hpe];grind
   ·obtain⟨e,he,rfl⟩:=aW.1 hm;exact back e.1 (h.dlen e he) (cF _ (aW.2 ⟨(wo pv col e.1,e.2),b9 _ (aW.2 ⟨e,he,rfl⟩),rfl⟩))
 ·rw[aE hf];refine⟨h.len,h.dlen,λl hl c hc=>?_,λe he=>z0Q (h.low e he),h.red,h.sub,h.dsub,h.sup⟩;rcases az c col with h1|h1
  ·exact h.zer l hl c h1
  ·have:c=col:=by omega
   subst this;have h2:rows.findIdx (λr=>decide (ent r c≠0))=rows.length:=z0E z0W (Nat.le_of_not_lt hf);rw[List.findIdx_eq_length]at h2;simpa using h2 l hl
theorem KR(hr:∀r,r∈rows→r.length=N):∃rest,RI N N rows rest (DL N rows)∧(∀l,l∈rest→∀i,ent l i=0):=by
 have key:∀k,RI N k rows (((List.range k).foldl tB (rows,[])).1) (((List.range k).foldl tB (rows,[])).2):=by
  intro k
  induction k with
  |zero=>exact⟨hr,(λe he=>by cases he),(λl hl c hc=>by omega),(λe he=>by cases he),⟨(λe he=>by cases he),dp⟩,λl hl=>n7 hl,(λe he=>by cases he),λr hr=>n7 (by simpa using hr)⟩
  |succ k ih=>
   rw[z1c,dR,dh,List.foldl_nil];exact S9 ih
 refine⟨_,key N,λl hl i=>?_⟩;rcases az i N with h|h
 ·exact(key N).zer l hl i h
 ·exact gL (by rw[(key N).len l hl];exact h)
theorem O0(hr:∀r,r∈rows→r.length=N):∀r,r∈rows→Sp ((DL N rows).map Prod.fst) (ent r):=by
 obtain⟨rest,h,hz⟩:=KR hr;intro r hr;refine kA (λm hm=>?_) (h.sup r hr);rcases am.1 hm with hm|hm
 ·exact Sp.zero.of λi=>(hz m hm i).symm
 ·exact n7 hm
theorem O4{E:List (Row×Nat)}(h:RE E):∀e,e∈E→∀d,d∈E→e.2≠d.2→ent e.1 d.2=0:=by
 obtain⟨h1,h2⟩:=h
 induction E with
 |nil=>intro e he;cases he
 |cons a E ih=>
  rw[dk]at h2;intro e he d hd hed;rcases bI.1 he with rfl|he'
  ·rcases bI.1 hd with rfl|hd
   ·exact absurd rfl hed
   ·exact(h2.1 d hd).1
  ·rcases bI.1 hd with rfl|hd
   ·exact(h2.1 e he').2
   ·exact ih (λe he=>h1 e (by simp[he])) h2.2 e he' d hd hed
variable {m:List Row} {v:List Rat}
end
section
variable {r l t:Row} {i p n k N col:Nat} {rows E:List Row}
theorem Gw:∀(N:Nat)(l:List Nat),l.Nodup→(∀x,x∈l→x<N)→l.length≤N
 |0,l,_,h=>by
  cases l with
  |nil=>simp
  |cons x l=>have:=h x (by simp);omega
 |N+1,l,hn,h=>by
  have h1:=Gw N (l.erase N) (hn.erase N) (λx hx=>by
   have:=(hn.mem_erase_iff).1 hx;have:=h x this.2;omega)
  by_cases hm:N∈l
  ·rw[List.length_erase_of_mem hm]at h1;omega
  ·rw[List.erase_of_not_mem hm]at h1;omega
theorem O5{E:List (Row×Nat)}(h:RE E)(hp:∀e,e∈E→e.2<N):E.length≤N:=by
 have h1:(E.map Prod.snd).Nodup:=by
  unfold List.Nodup;rw[dS];refine dP ?_ h.2;intro a b ha hb hab he;have:=hab.1;rw[←he,(h.1 a ha).1]at this;exact absurd this (by decide)
 have:=Gw N _ h1 (λx hx=>by obtain⟨e,he,rfl⟩:=aW.1 hx;exact hp e he);rwa[aI]at this
theorem Av(h:DF r p):p<r.length:=by
 rcases az p r.length with h1|h1
 ·exact h1
 ·have:=gL h1;rw[h.1]at this;exact absurd this (by decide)
theorem NQ(h:EI N rows E)(hr:r.length=N)(hn:¬Sp rows (ent r)):(uT E r).length=E.length+1:=by
 unfold uT;by_cases hp:pvt (tD E r)<(tD E r).length
 ·rw[aC hp];simp
 ·exfalso;apply hn;have hcs:Sp E (cmb (E.map pr) (ent r)):=by have:=Jh (E:=E.map pr) (f:=ent r);rwa[xp]at this
  refine(kA h.sub hcs).of λi=>?_;have:=G6 h.red.2 h.len hr i;rw[Gk hp]at this;grind
end
def lap(D:List Vec→Rat)(c:Nat):List Vec→List Vec→Rat
 |_,[]=>0
 |pre,r::rest=>r c*D (pre++rest)-lap D c (pre++[r]) rest
def dt:List Nat→List Vec→Rat
 |[],_=>1
 |c::cs,rows=>lap (dt cs) c [] rows
def vad(u:Vec)(s:Rat)(v:Vec):Vec:=λi=>u i+s*v i
section
variable {D:List Vec→Rat} {c:Nat}
theorem zL:∀cs:List Nat,(∀a b u v s,a.length+b.length+1=cs.length→dt cs (a++vad u s v::b)=dt cs (a++u::b)+s*dt cs (a++v::b))∧(∀a b v,a.length+b.length+2=cs.length→dt cs (a++v::v::b)=0)
 |[]=>⟨λa b u v s h=>by simp at h,λa b v h=>by simp at h⟩
 |c::cs=>by
  obtain⟨i1,i2⟩:=zL cs;have pre:∀(rest a b:List Vec)(u v:Vec)(s:Rat),a.length+b.length+rest.length=cs.length→lap (dt cs) c (a++vad u s v::b) rest=lap (dt cs) c (a++u::b) rest+s*lap (dt cs) c (a++v::b) rest:=by
   intro rest
   induction rest with
   |nil=>intro a b u v s _;simp only[lap];grind
   |cons r rest ih=>
    intro a b u v s hl;simp only[ay]at hl;simp only[lap,bW,bu];rw[i1 _ _ _ _ _ (by simp;omega),ih _ _ _ _ _ (by simp;omega)];grind
  have rst:∀(a p b:List Vec)(u v:Vec)(s:Rat),p.length+a.length+b.length=cs.length→lap (dt cs) c p (a++vad u s v::b)=lap (dt cs) c p (a++u::b)+s*lap (dt cs) c p (a++v::b):=by
   intro a
   induction a with
   |nil=>
    intro p b u v s hl;simp only[cj]at hl;simp only[lap,cQ];rw[pre _ _ _ _ _ _ (by simp;omega)];unfold vad;grind
   |cons r a ih=>
    intro p b u v s hl;simp only[ay]at hl;simp only[lap,bu];have:=i1 (p++a) b u v s (by simp;omega);simp only[bW]at this;rw[this,ih _ _ _ _ _ (by simp;omega)];grind
  have prea:∀(rest a b:List Vec)(v:Vec),a.length+b.length+rest.length+1=cs.length→lap (dt cs) c (a++v::v::b) rest=0:=by
   intro rest
   induction rest with
   |nil=>intro a b v _;rfl
   |cons r rest ih=>
    intro a b v hl;simp only[ay]at hl;simp only[lap,bW,bu];rw[i2 _ _ _ (by simp;omega),ih _ _ _ (by simp;omega)];grind
  have rsta:∀(a p b:List Vec)(v:Vec),p.length+a.length+b.length+1=cs.length→lap (dt cs) c p (a++v::v::b)=0:=by
   intro a
   induction a with
   |nil=>
    intro p b v hl;simp only[cj]at hl;simp only[lap,cQ,bW,bu];have:=prea b p [] v (by simp;omega);rw[show p++[v,v]=p++v::v::[]from rfl,this];grind
   |cons r a ih=>
    intro p b v hl;simp only[ay]at hl;simp only[lap,bu];have:=i2 (p++a) b v (by simp;omega);simp only[bW]at this;rw[this,ih _ _ _ (by simp;omega)];grind
  refine⟨λa b u v s hl=>?_,λa b v hl=>?_⟩
  ·exact rst a [] b u v s (by simp at hl ⊢;omega)
  ·exact rsta a [] b v (by simp at hl ⊢;omega)
variable {cs:List Nat}
theorem UU{a b:List Vec}{u v:Vec}(h:a.length+b.length+2=cs.length):dt cs (a++u::v::b)= -(dt cs (a++v::u::b)):=by
 obtain⟨i1,i2⟩:=zL cs;have h1:=i2 a b (vad u 1 v) h;have e1:=i1 a (vad u 1 v::b) u v 1 (by simp;omega);have e2:=i1 (a++[u]) b u v 1 (by simp;omega);have e3:=i1 (a++[v]) b u v 1 (by simp;omega);simp only[bW,bu,cQ]at e2 e3;rw[e1,e2,e3,i2 a b u h,i2 a b v h]at h1;grind
theorem Jb:∀(m a b:List Vec)(v:Vec),a.length+m.length+b.length+2=cs.length→dt cs (a++v::(m++v::b))=0
 |[],a,b,v,h=>(zL cs).2 a b v (by simp at h;omega)
 |x::m,a,b,v,h=>by
  simp only[ay]at h;rw[bu,UU (by simp;omega)];have:=Jb m (a++[x]) b v (by simp;omega);simp only[bW,bu,cQ]at this;rw[this];grind
theorem Nj(f:Vec)(s:Rat):vad f s (λ_=>0)=f:=by funext i;unfold vad;grind
theorem XM{a b:List Row}{p:Row}{T:Vec}{y:Rat}(h:a.length+b.length+1=cs.length)(hs:Sp (a++b) (λi=>T i-y*ent p i)):dt cs (a.map ent++T::b.map ent)=y*dt cs (a.map ent++ent p::b.map ent):=by
 obtain⟨i1,i2⟩:=zL cs;have z0:dt cs (a.map ent++(λ_=>0)::b.map ent)=0:=by
  have:=i1 (a.map ent) (b.map ent) (λ_=>0) (λ_=>0) 1 (by simp;omega);rw[Nj]at this;grind
 have key:∀f,Sp (a++b) f→dt cs (a.map ent++f::b.map ent)=0:=by
  intro f hf
  induction hf with
  |zero=>exact z0
  | @add f r hf c hr ih=>
   have:=i1 (a.map ent) (b.map ent) f (ent r) c (by simp;omega);rw[show(λi=>f i+c*ent r i)=vad f c (ent r)from rfl,this,ih];have hz:dt cs (a.map ent++ent r::b.map ent)=0:=by
    rcases am.1 hr with hr|hr
    ·obtain⟨a1,a2,rfl⟩:=List.append_of_mem hr;rw[ak,bB,bW,bu];exact Jb _ _ _ _ (by simp at h ⊢;omega)
    ·obtain⟨a1,a2,rfl⟩:=List.append_of_mem hr;rw[ak,bB];exact Jb _ _ _ _ (by simp at h ⊢;omega)
   rw[hz];grind
 have h1:=i1 (a.map ent) (b.map ent) (λi=>T i-y*ent p i) (ent p) y (by simp;omega);rw[key _ hs,show vad (λi=>T i-y*ent p i) y (ent p)=T from funext λi=>by unfold vad;grind]at h1;rw[h1];grind
theorem Pu:∀(rest:List Row)(pre:List Vec),Sp rest (λc=>lap D c pre (rest.map ent))
 |[],pre=>Sp.zero
 |r::rest,pre=>by
  have h1:=sd (B:=r::rest) (λx hx=>bm _ hx) (Pu rest (pre++[ent r]));refine(pO (pO Sp.zero (n7 (A:=r::rest) (r:=r) cA) (D (pre++rest.map ent))) h1 (-1)).of λc=>?_;show _=ent r c*D (pre++rest.map ent)-lap D c (pre++[ent r]) (rest.map ent);grind
theorem QR{r:Row}{rest:List Row}(h:Ind (r::rest)):Ind rest:=λcs hl h0 c hc=>
 h (0::cs) (by simp[hl]) (λi=>by show 0*ent r i+lc cs rest i=0;rw[h0];grind) c (bm _ hc)
theorem QS{r:Row}{rest:List Row}(h:Ind (r::rest)):¬Sp rest (ent r):=λhs=>by
 obtain⟨cs,hl,hc⟩:=OA hs;have:=h ((-1)::cs) (by simp[hl]) (λi=>by show(-1)*ent r i+lc cs rest i=0;rw[hc];grind) (-1) cA;exact absurd this (by decide)
theorem QU:∀rows:List Row,Ind rows→∃cs:List Nat,cs.length=rows.length∧dt cs (rows.map ent)≠0
 |[],_=>⟨[],rfl,by show(1:Rat)≠0;decide⟩
 |r::rest,h=>by
  obtain⟨cs,hl,hne⟩:=QU rest (QR h);by_cases hc:∃c,dt (c::cs) ((r::rest).map ent)≠0
  ·obtain⟨c,hc⟩:=hc;exact⟨c::cs,by simp[hl],hc⟩
  ·exfalso;apply QS h;have hs:=Pu (D:=dt cs) rest [ent r];refine(pO Sp.zero hs (dt cs (rest.map ent))⁻¹).of λc=>?_;have hz:dt (c::cs) ((r::rest).map ent)=0:=Classical.byContradiction λhx=>hc ⟨c,hx⟩;have hz:ent r c*dt cs (rest.map ent)-lap (dt cs) c [ent r] (rest.map ent)=0:=hz;have h2:(dt cs (rest.map ent))⁻¹ *dt cs (rest.map ent)=1:=cw _ hne;grind
end
def IB(N:Nat)(x:Rat):Prop:=∃z:Int,x=(z:Rat)∧z.natAbs≤N
section
variable {N M D E:Nat} {x y:Rat}
theorem QW(hx:IB N x)(hy:IB M y):IB (N+M) (x+y):=by
 obtain⟨a,rfl,ha⟩:=hx;obtain⟨b,rfl,hb⟩:=hy;exact⟨a+b,by rw[Rat.intCast_add],by omega⟩
theorem Wo(hx:IB N x)(hy:IB M y):IB (N*M) (x*y):=by
 obtain⟨a,rfl,ha⟩:=hx;obtain⟨b,rfl,hb⟩:=hy;exact⟨a*b,by rw[z1D],by rw[dw];exact bv ha hb⟩
theorem Wn(hx:IB N x):IB N (-x):=by
 obtain⟨a,rfl,ha⟩:=hx;exact⟨-a,by rw[z0G],by omega⟩
theorem F8(n:Nat):IB n (n:Rat):=⟨(n:Int),rfl,by simp⟩
theorem UB:IB 0 (0:Rat):=⟨0,rfl,by simp⟩
theorem UC(h:IB N x)(hn:N≤M):IB M x:=by
 obtain⟨a,rfl,ha⟩:=h;exact⟨a,rfl,by omega⟩
theorem Kg(x:Rat):x*(x.den:Rat)=(x.num:Rat):=by
 have hd:(x.den:Rat)≠0:=λh0=>x.den_nz (Rat.natCast_eq_zero_iff.1 h0);have h1:=Rat.mkRat_self x;rw[Rat.mkRat_eq_div,Rat.div_def]at h1;have h2:=cw _ hd;have h3:(x.num:Rat)*(x.den:Rat)⁻¹ *(x.den:Rat)=x*(x.den:Rat):=by rw[h1]
 rw[←h3,Rat.mul_assoc,h2,dL]
theorem Oa{A B:Int}(hA:A≠0)(h:x*(A:Rat)=(B:Rat)):x.num.natAbs≤B.natAbs∧x.den≤A.natAbs:=by
 have hx:x*(x.den:Rat)=(x.num:Rat):=Kg x;have e1:(x.num:Rat)*(A:Rat)=(B:Rat)*((x.den:Int):Rat):=by
  rw[←hx,←h];show x*(x.den:Rat)*(A:Rat)=x*(A:Rat)*(x.den:Rat);grind
 rw[←z1D,←z1D]at e1;have e2:x.num*A=B*(x.den:Int):=Rat.intCast_inj.1 e1;have e3:x.num.natAbs*A.natAbs=B.natAbs*x.den:=by
  have:=congrArg Int.natAbs e2;rw[dw,dw]at this;exact this
 have hc:Nat.Coprime x.num.natAbs x.den:=x.reduced;have h1:x.den∣A.natAbs:=hc.symm.dvd_of_dvd_mul_left ⟨B.natAbs,by rw[e3,aK]⟩;have h2:x.num.natAbs∣B.natAbs:=hc.dvd_of_dvd_mul_right ⟨A.natAbs,by rw[e3]⟩;have hA':0<A.natAbs:=by omega
 refine⟨?_,Nat.le_of_dvd hA' h1⟩;by_cases hB:B.natAbs=0
 ·rw[hB,bP]at e3;rcases Nat.mul_eq_zero.1 e3 with h3|h3<;>omega
 ·exact Nat.le_of_dvd (by omega) h2
def Ht(D N:Nat)(x:Rat):Prop:=IB N (x*(D:Rat))
theorem F9(hD:0<D)(h:Ht D N x):x.num.natAbs≤N∧x.den≤D:=by
 obtain⟨z,h1,h2⟩:=h;have:=Oa (x:=x) (A:=(D:Int)) (B:=z) (by omega) h1;omega
theorem QY(hx:Ht D N x)(hy:Ht D M y):Ht D (N+M) (x+y):=by
 unfold Ht;rw[Rat.add_mul];exact QW hx hy
theorem JX(hx:Ht D N x)(hy:Ht D M y):Ht D (N+M) (x-y):=by
 unfold Ht;rw[z1m,Rat.add_mul,Rat.neg_mul];exact QW hx (Wn hy)
theorem RU(a b:Nat):((a*b:Nat):Rat)=(a:Rat)*(b:Rat):=Rat.natCast_mul a b
theorem vq(hx:Ht D N x)(hy:Ht E M y):Ht (D*E) (N*M) (x*y):=by
 unfold Ht;rw[RU,show x*y*((D:Rat)*(E:Rat))=(x*D)*(y*E) by grind];exact Wo hx hy
theorem nK(h:Ht D N x)(hn:N≤M):Ht D M x:=UC h hn
theorem rh:Ht D 0 (0:Rat):=by unfold Ht;rw[Rat.zero_mul];exact UB
theorem QX(E:Nat)(h:Ht D N x):Ht (D*E) (N*E) x:=by
 have:=vq (E:=E) (M:=E) h (y:=1) (by unfold Ht;rw[z1H];exact F8 E);rwa[dL]at this
theorem LD:Ht x.den x.num.natAbs x:=⟨x.num,Kg x,aD _⟩
end
structure RB where
 v:Vec
 D:Nat
 N:Nat
def RB.ok(r:RB):Prop:=∀i,Ht r.D r.N (r.v i)
def pD(l:List RB):Nat:=l.foldr (λr s=>r.D*s) 1
def pN(l:List RB):Nat:=l.foldr (λr s=>r.N*s) 1
theorem FI(a b:List RB):pD (a++b)=pD a*pD b:=by
 induction a with
 |nil=>show pD b=1*pD b;omega
 |cons r a ih=>show r.D*pD (a++b)=r.D*pD a*pD b;rw[ih,aU]
theorem FH(a b:List RB):pN (a++b)=pN a*pN b:=by
 induction a with
 |nil=>show pN b=1*pN b;omega
 |cons r a ih=>show r.N*pN (a++b)=r.N*pN a*pN b;rw[ih,aU]
def AF:Nat→Nat
 |0=>1
 |n+1=>(n+1)*AF n
theorem Qs:∀(cs:List Nat)(l:List RB),l.length=cs.length→(∀r,r∈l→r.ok)→Ht (pD l) (AF cs.length*pN l) (dt cs (l.map RB.v))
 |[],l,h,_=>by
  have:l=[]:=a8 h;subst this;show IB 1 ((1:Rat)*((1:Nat):Rat));rw[z1H];exact F8 1
 |c::cs,l,h,hl=>by
  have key:∀(rest pre:List RB),pre.length+rest.length=cs.length+1→(∀r,r∈pre→r.ok)→(∀r,r∈rest→r.ok)→
   Ht (pD (pre++rest)) (rest.length*AF cs.length*pN (pre++rest)) (lap (dt cs) c (pre.map RB.v) (rest.map RB.v)):=by
   intro rest
   induction rest with
   |nil=>intro pre _ _ _;refine nK rh (a9 _)
   |cons r rest ih=>
    intro pre hlen hp hr;simp only[ay]at hlen;have h1:=Qs cs (pre++rest) (by simp;omega) (λx hx=>by
     rcases am.1 hx with hx|hx
     ·exact hp x hx
     ·exact hr x (by simp[hx]))
    have h2:=vq (hr r (by simp) c) h1;have h3:=ih (pre++[r]) (by simp;omega) (λx hx=>by
     rcases am.1 hx with hx|hx
     ·exact hp x hx
     ·have:x=r:=by simpa using hx
      subst this;exact hr x (by simp)) (λx hx=>hr x (by simp[hx]))
    have eD:pD (pre++r::rest)=r.D*pD (pre++rest):=by
     rw[FI,FI];show pD pre*(r.D*pD rest)=_;rw[cf]
    have eN:pN (pre++r::rest)=r.N*pN (pre++rest):=by
     rw[FH,FH];show pN pre*(r.N*pN rest)=_;rw[cf]
    have e3:(pre++[r])++rest=pre++r::rest:=by simp
    rw[e3,ak]at h3;rw[ak,←eD]at h2;have:=JX h2 h3;refine nK this ?_;rw[eN,ay];generalize pN (pre++rest)=P;generalize AF cs.length=F;rw[cf r.N F P];generalize r.N*P=Q;rw[aP,aP,bE];omega
  have:=key l [] (by simpa using h) (λr hr=>by cases hr) hl;rw[cQ,h]at this;exact this
def e8:Row→Row
 |[]=>[]
 |x::l=>if e8 l=[]∧x=0 then[]else x::e8 l
section
variable {a b f g l:Row} {x:Rat} {i k n:Nat}
theorem sj:ent [] i=0:=by unfold ent;simp
theorem XB:ent (x::l) 0=x:=rfl
theorem J8:ent (x::l) (i+1)=ent l i:=rfl
theorem kB:∀(l:Row)(i:Nat),ent (e8 l) i=ent l i
 |[],i=>rfl
 |x::l,i=>by
  unfold e8;by_cases h:e8 l=[]∧x=0
  ·rw[aC h,sj];cases i with
   |zero=>rw[XB,h.2]
   |succ i=>rw[J8,←kB l i,h.1,sj]
  ·rw[aE h];cases i with
   |zero=>rfl
   |succ i=>rw[J8,J8,kB l i]
theorem vJ:∀{l:Row},(∀i,ent l i=0)→e8 l=[]
 |[],_=>rfl
 |x::l,h=>by
  unfold e8;rw[aC ⟨vJ λi=>h (i+1),h 0⟩]
theorem oK:∀{a b:Row},(∀i,ent a i=ent b i)→e8 a=e8 b
 |[],b,h=>(vJ λi=>by rw[←h i,sj]).symm
 |x::a,[],h=>vJ λi=>by rw[h i,sj]
 |x::a,y::b,h=>by
  have h1:e8 a=e8 b:=oK λi=>h (i+1);have h2:x=y:=h 0;unfold e8;rw[h1,h2]
def Pt(l:Row):Prop:=e8 l=l
theorem qw(l:Row):Pt (e8 l):=oK (kB l)
theorem oJ:∀l:Row,(e8 l).length≤l.length
 |[]=>aD _
 |x::l=>by
  unfold e8;split
  ·simp
  ·have:=oJ l;simp;exact this
theorem FG:∀{l:Row},Pt l→l≠[]→ent l (l.length-1)≠0
 |[x],h,_=>by
  intro h0;have h1:x=0:=h0;have:e8 [x]=[]:=by unfold e8;rw[aC ⟨rfl,h1⟩]
  rw[h]at this;cases this
 |x::y::l,h,_=>by
  have h1:Pt (y::l):=by
   have h:=h;unfold Pt at h;unfold e8 at h;split at h
   ·cases h
   ·exact(z0Z h).2
  show ent (y::l) ((y::l).length-1)≠0;exact FG h1 (by simp)
theorem PH(h:Pt l)(hz:∀i,k≤i→ent l i=0):l.length≤k:=by
 rcases az k l.length with h1|h1
 ·exact absurd (hz (l.length-1) (by omega)) (FG h (by intro e;subst e;simp at h1))
 ·exact h1
theorem ve:∀{l:Row},(∀x,l.getLast?=some x→x≠0)→Pt l
 |[],_=>rfl
 |[x],h=>by
  have:x≠0:=h x rfl;unfold Pt e8;rw[aE (λh=>this h.2)];rfl
 |x::y::l,h=>by
  have h1:Pt (y::l):=ve λz hz=>h z (by rw[z0O];exact hz);unfold Pt e8;rw[show e8 (y::l)=y::l from h1,aE (λh=>by cases h.1)]
def lst(n:Nat)(v:Vec):Row:=(List.range n).map v
theorem iU{v:Vec}:(lst n v).length=n:=by simp[lst]
theorem kM{v:Vec}:ent (lst n v) i=if i<n then v i else 0:=by
 unfold ent lst;simp only[aH,au];by_cases h:i<n
 ·rw[List.getElem?_range h,aC h];rfl
 ·rw[bX (by simp;omega),aE h];rfl
theorem w7:lst l.length (ent l)=l:=by
 refine List.ext_getElem (by simp[lst]) λi hi hj=>?_;simp only[lst,cG,List.getElem_range];unfold ent;rw[aH,aB hj];rfl
def xV(f g:Row):Vec:=λk=>vE (λi=>if i≤k then ent f i*ent g (k-i)else 0) f.length
def gP(f g:Row):Row:=e8 (lst (f.length+g.length-1) (xV f g))
theorem Pe(h:f.length+g.length-1≤k):xV f g k=0:=vD λi hi=>by
 by_cases h1:i≤k
 ·rw[aC h1,gL (r:=g) (by omega)];grind
 ·rw[aE h1]
theorem vK:ent (gP f g) k=xV f g k:=by
 unfold gP;rw[kB,kM];split
 ·rfl
 ·rw[Pe (by omega)]
def stV(g:Row)(k:Nat)(f:Vec):Vec:=λi=>if k≤i then f i-f (k+g.length-1)*(ent g (g.length-1))⁻¹ *ent g (i-k)else f i
def uo(g:Row):Nat→Vec→Vec
 |0,f=>f
 |k+1,f=>uo g k (stV g k f)
def iL(g f:Row):Row:=e8 (lst (g.length-1) (uo g (f.length+1-g.length) (ent f)))
theorem y8{f:Vec}(h:f (k+g.length-1)=0):stV g k f=f:=by
 funext i;unfold stV;rw[h];split
 ·grind
 ·rfl
theorem Eb{f:Vec}(hg:g≠[])(hl:ent g (g.length-1)≠0)(hz:∀i,k+g.length≤i→f i=0)(i:Nat)(hi:k+g.length-1≤i):stV g k f i=0:=by
 have hgl:0<g.length:=cM.2 hg;unfold stV;rw[aC (by omega)];by_cases h:i=k+g.length-1
 ·subst h;rw[show k+g.length-1-k=g.length-1 by omega];have:=cw _ hl;grind
 ·rw[hz i (by omega),gL (r:=g) (i:=i-k) (by omega)];grind
theorem G4{f:Vec}(hg:g≠[])(hl:ent g (g.length-1)≠0):∀(k:Nat)(f:Vec),(∀i,k+g.length-1≤i→f i=0)→∀i,g.length-1≤i→uo g k f i=0
 |0,f,h,i,hi=>h i (by omega)
 |k+1,f,h,i,hi=>by
  have hgl:0<g.length:=cM.2 hg;exact G4 (f:=f) hg hl k _ (λi hi=>Eb hg hl (λi hi=>h i (by omega)) i hi) i hi
theorem Dt(hg:g≠[])(hl:ent g (g.length-1)≠0):ent (iL g f) i=uo g (f.length+1-g.length) (ent f) i:=by
 unfold iL;rw[kB,kM];have hgl:0<g.length:=cM.2 hg;by_cases hi:i<g.length-1
 ·rw[aC hi]
 ·rw[aE hi];exact(G4 (f:=ent f) hg hl _ _ (λi hi=>gL (by omega)) i (by omega)).symm
theorem M5:(iL g f).length≤g.length-1:=bT (oJ _) (by rw[iU];exact aD _)
def tC(g rest:Row):Row:=e8 (lst rest.length (λi=>ent rest i+(-1)*(ent (gP (List.replicate (rest.length-g.length) 0++[ent rest (rest.length-1)*(ent g (g.length-1))⁻¹]) g) i)))
def qJ(g:Row):Nat→Row→Row
 |0,rest=>rest
 |k+1,rest=>if g.length≤rest.length then qJ g k (tC g rest)else rest
theorem Bp{c:Rat}{D:Nat}:ent (List.replicate D 0++[c]) i=if i=D then c else 0:=by
 rw[UQ,du];by_cases h:i<D
 ·rw[aC h,aE (by omega)];unfold ent;simp only[aH,List.getElem?_replicate];rw[aC h];rfl
 ·rw[aE h];by_cases h1:i=D
  ·subst h1;rw[aC rfl,cC];rfl
  ·rw[aE h1,gL (by simp;omega)]
theorem HD{c:Rat}{D:Nat}:xV (List.replicate D 0++[c]) g k=if D≤k then c*ent g (k-D)else 0:=by
 unfold xV;rw[GO (p:=D) (by simp) (λi hi hne=>by rw[Bp,aE hne];split<;>grind),Bp,aC rfl]
theorem Dn(hl:g.length≤f.length):ent (tC g f) i=stV g (f.length-g.length) (ent f) i:=by
 unfold tC stV;rw[kB,kM,vK,HD,show f.length-g.length+g.length-1=f.length-1 by omega];by_cases hi:i<f.length
 ·rw[aC hi];split<;>grind
 ·rw[aE hi,gL (r:=f) (i:=i) (by omega)];by_cases h:f.length-g.length≤i
  ·rw[aC h,gL (r:=g) (i:=i-(f.length-g.length)) (by omega)];grind
  ·rw[aE h]
theorem vI(hg:g≠[])(hl:ent g (g.length-1)≠0):∀(K k:Nat)(f:Row),Pt f→f.length≤K+g.length-1→K≤k→qJ g k f=e8 (lst (g.length-1) (uo g K (ent f)))
 |0,k,f,hp,hlen,_=>by
  have hgl:0<g.length:=cM.2 hg;have:qJ g k f=f:=by
   cases k with
   |zero=>rfl
   |succ k=>unfold qJ;rw[aE (by omega)]
  rw[this,←show e8 f=f from hp];refine oK λi=>?_;rw[kM];split
  ·show ent f i=ent (e8 f) i;rw[kB]
  ·rw[gL (by omega)]
 |K+1,0,f,hp,hlen,hk=>by omega
 |K+1,k+1,f,hp,hlen,hk=>by
  have hgl:0<g.length:=cM.2 hg;show _=e8 (lst (g.length-1) (uo g K (stV g K (ent f))));by_cases h:f.length=K+g.length
  ·unfold qJ;rw[aC (by omega)];have e:∀i,ent (tC g f) i=stV g K (ent f) i:=λi=>by rw[Dn (by omega),show f.length-g.length=K by omega]
   rw[vI hg hl K k (tC g f) (qw _) (PH (qw _) λi hi=>by
    show ent (tC g f) i=0;rw[e];exact Eb hg hl (λi hi=>gL (by omega)) i (by omega)) (by omega),show ent (tC g f)=stV g K (ent f)from funext e]
  ·rw[y8 (gL (by omega))];by_cases hk1:K=k
   ·subst hk1;cases K with
    |zero=>
     have:qJ g (0+1) f=qJ g 0 f:=by
      show(if g.length≤f.length then _ else f)=f;rw[aE (by omega)]
     rw[this];exact vI hg hl 0 0 f hp (by omega) (by omega)
    |succ K=>exact vI hg hl (K+1) (K+1+1) f hp (by omega) (by omega)
   ·exact vI hg hl K (k+1) f hp (by omega) (by omega)
end
section
variable {bs:List Blk} {l o n z:Nat} {cs zero:List D} {d x y:D} {K:D→LS→Rs} {b c e:Bool} {s:LS} {a m:Nat} {parts:List (Nat×Nat×D)}
theorem Tb{F:Blk→Rs}:jQ (mem bs) l F=ob bs[l]? F:=by rw[oe,mQ]
theorem jB(h:cs.all one=true):ic (.agg cs) (mem bs) K=K (.ptr bs.length 0) (mem (bs++[⟨cs,.rw⟩])):=by
 show vcK (.agg cs) (λcs=>pi cs (ku (mem bs) ⟨cs,.rw⟩ λs'=>K (.ptr (mem bs).nx 0) s'))=_;rw[v7];show pi cs _=_;rw[qm h,ln,js];rfl
theorem qW:fq zero (mem bs) K=K (.ptr bs.length 0) (mem (bs++[⟨zero,.rw⟩])):=N1
theorem kD:eW z (mem bs) (.ptr l o) K=ob bs[l]? λb=>cnd b.st.live (K (.ptr l (o+z)) (mem bs)) none:=by
 show(jQ (mem bs) l λb=>cnd (lv b.st) (frc (Nat.add o z) λo=>K (.ptr l o) (mem bs)) none)=_;rw[Tb];cases bs[l]?with
 |none=>rfl
 |some b=>rw[gN,gN,sI,fA];rfl
theorem kq:eJ (mem bs) (.ptr l o) K=ob bs[l]? λb=>cnd b.st.live (ob b.cs[o]? λd=>K d (mem bs)) none:=by
 show(jQ (mem bs) l λb=>cnd (lv b.st) (Ac o b.cs λd=>K d (mem bs)) none)=_;rw[Tb];cases bs[l]?with
 |none=>rfl
 |some b=>rw[gN,gN,sI,yr]
theorem lO:eS n (mem bs) (.ptr l o) K=ob bs[l]? λb=>cnd b.st.live (iy n (b.cs.drop o) λr=>K (.agg r) (mem bs)) none:=by
 show jQ (mem bs) l (λb=>cnd (lv b.st) (iz o b.cs λr=>iy n r λr=>K (.agg r) (mem bs)) none)=_;rw[Tb];cases bs[l]?with
 |none=>rfl
 |some b=>rw[gN,gN,sI,gB]
theorem lL{α:Type}{l:List α}{k:List α→Rs}:iy 0 l k=k []:=rfl
theorem lK{α:Type}{n:Nat}{x:α}{l:List α}{k:List α→Rs}:iy (n+1) (x::l) k=iy n l λr=>k (x::r):=rfl
theorem qS:eU n (mem bs) (.ptr l o) x K=ob bs[l]? λb=>cnd b.st.wr (cnd (Nat.beq (jr x).length n) (pi (jr x) (ob (lay o (jr x) b.cs) λcs=>K .u (mem (bs.set l ⟨cs,.rw⟩)))) none) none:=by
 show jQ (mem bs) l (λb=>cnd (wr b.st) (vcK x λnew=>cnd (Nat.beq new.length n) (pi new (ur o new b.cs λcs=>oN (mem bs) l ⟨cs,.rw⟩ λs=>K .u s)) none) none)=_;rw[Tb];cases h:bs[l]?with
 |none=>rfl
 |some b=>
  rw[gN,gN,DY,v7,od,sh];simp only[pa (fE h)]
theorem qY{b:Bool}{l:List D}{t:Rs}:pi (.b b::l) t=pi l t:=rfl
theorem qX{l:List D}{t:Rs}:pi (.n a::l) t=pi l t:=rfl
theorem qZ{t:Rs}:pi [] t=t:=rfl
theorem qR:jr (.agg cs)=cs:=rfl
theorem Yx:jr (.n a)=[.n a]:=rfl
theorem gQ:Stt.rw.live=true:=rfl
theorem mT:Stt.rw.wr=true:=rfl
theorem CC{x y u' v:D}{r:List D}:lay 0 [x,y] (u'::v::r)=some (x::y::r):=rfl
theorem uA{x y z u' v w:D}:lay 0 [x,y,z] [u',v,w]=some [x,y,z]:=rfl
theorem Z6{x y u':D}:lay 1 [x] [u',y]=some [u',x]:=rfl
theorem re2{own:Bool}:eX own s (.agg [.b b,.n a]) some=some (.agg [.b b,.n a]):=by cases own<;>rfl
theorem re3{own:Bool}:eX own s (.agg [.b b,.n a,.n m]) some=some (.agg [.b b,.n a,.n m]):=by cases own<;>rfl
theorem rP{own:Bool}:eX own s (.b b) some=some (.b b):=by cases own<;>rfl
theorem ia{own:Bool}{k:IntKind}{i:Int}:eX own s (.i k i) some=some (.i k i):=by cases own<;>rfl
theorem kb3:kN [.b false,.n 0,.n 0] [(0,2,.agg [.b b,.n a]),(2,1,.n m)] s K=K (.agg [.b b,.n a,.n m]) s:=rfl
theorem Mp:kN [.b false,.n 0] [(1,1,.n m)] s K=K (.agg [.b false,.n m]) s:=rfl
theorem kb2:kN [.b false,.n 0] [(0,1,.b b),(1,1,.n m)] s K=K (.agg [.b b,.n m]) s:=rfl
theorem Lk:wi .neq (.b b) (.b c) s K=K (.b (b != c)) s:=by cases b<;>cases c<;>rfl
theorem R8:wi .eql (.b b) (.b c) s K=K (.b (b==c)) s:=by cases b<;>cases c<;>rfl
theorem wO:sX (.b b) s K=K (.b (!b)) s:=by cases b<;>rfl
theorem Gv{a m:Nat}{k:D→Rs}:mE (.n a) (.n m) k=k (.b (!(Nat.beq a m))):=by
 show fV .neq (.n a) (.n m) k=_;unfold fV;rw[gS];rfl
theorem sF{a m:Nat}{k:D→Rs}:gx (.n a) (.n m) k=k (.b (Nat.beq a m)):=by
 show fV .eql (.n a) (.n m) k=_;unfold fV;rw[gS];rfl
theorem wv:(true==true)=true:=by decide
theorem Cm:(false==true)=false:=by decide
theorem rl:(true==false)=false:=by decide
theorem uV:(false==false)=true:=by decide
theorem ff:s0=mem []:=rfl
theorem ri{w b:Bool}{op:(D→LS→Rs)→Rs}:eI (.b b) w op s K=cnd (b==w) (op K) (K (.tup []) s):=by cases b<;>cases w<;>rfl
theorem re{b:Bool}{x y:D}:fX (.b b) x y s K=cnd b (K x s) (K y s):=by cases b<;>rfl
theorem nz{b:Bool}{x y:Rs}:eQ (.b b) x y=cnd b x y:=by cases b<;>rfl
end
def zt(x:Bool)(a:Nat):Int:=if x then -(a:Int)else a
def itz(z:Int):D:=.agg [.b (decide (z<0)),.n z.natAbs]
def rc(q:Rat):D:=.agg [.b (decide (q.num<0)),.n q.num.natAbs,.n q.den]
section
variable {x y:Bool} {a b m n k:Nat} {z w:Int} {p q:Rat} {φ:Nat}
theorem R6(a b:Nat):Nat.beq a b=decide (a=b):=by
 by_cases h:a=b
 ·subst h;rw[ej,aS rfl]
 ·rw[gG h,aN h]
theorem vZ:(zt x a).natAbs=a:=by unfold zt;cases x<;>simp
theorem E4:decide (zt x a<0)=(x&& !(Nat.beq a 0)):=by
 unfold zt;rw[R6];cases x with
 |false=>simp
 |true=>
  by_cases h:a=0
  ·subst h;simp
  ·simp only[bf,z1n,aN h,Bool.not_false];exact aS (by omega)
theorem We:itz (zt x a)=.agg [.b (x&& !(Nat.beq a 0)),.n a]:=by unfold itz;rw[vZ,E4]
theorem Jv(z:Int):zt (decide (z<0)) z.natAbs=z:=by
 unfold zt;by_cases h:z<0
 ·rw[aS h,aC rfl];omega
 ·rw[aN h,aE (by simp)];omega
theorem VZ{g:Nat}(hg:g∣a):zt x a/(g:Int)=zt x (a/g):=by
 obtain⟨c,rfl⟩:=hg;unfold zt;by_cases h0:g=0
 ·subst h0;cases x<;>simp
 ·cases x with
  |false=>
   rw[aE (by simp),aE (by simp),Int.natCast_ediv]
  |true=>
   rw[aC rfl,aC rfl,Nat.mul_div_cancel_left _ (by omega)];rw[z15,←Int.mul_neg,Int.mul_ediv_cancel_left _ (by omega)]
theorem VA(hb:b≠0):rc (mkRat (zt x a) b)=.agg [.b (x&& !(Nat.beq (a/Nat.gcd a b) 0)),.n (a/Nat.gcd a b),.n (b/Nat.gcd a b)]:=by
 have e1:(mkRat (zt x a) b).num=zt x (a/Nat.gcd a b):=by
  rw[Rat.num_mkRat,aE hb,vZ,dO,VZ (Nat.gcd_dvd_left a b)]
 have e2:(mkRat (zt x a) b).den=b/Nat.gcd a b:=by rw[Rat.den_mkRat,aE hb,vZ,dO]
 unfold rc;rw[e1,e2,vZ,E4]
def Lg(k n:Nat):Prop:=Nat.log2 n≤k
theorem ED(h:Lg k n):n<2^(k+1):=by
 by_cases h0:n=0
 ·subst h0;exact bR (by decide)
 ·exact(z1i h0).1 (by unfold Lg at h;omega)
theorem p7(h:n<2^(k+1)):Lg k n:=by
 by_cases h0:n=0
 ·subst h0;unfold Lg;rw[show Nat.log2 0=0 from by decide];exact a9 _
 ·have:=(z1i h0).2 h;unfold Lg;omega
theorem p8(h:Lg k n)(hm:m≤n):Lg k m:=p7 (br hm (ED h))
theorem ew{j:Nat}(h:Lg j n)(hk:j≤k):Lg k n:=bT h hk
theorem iB{j:Nat}(h:Lg j m)(h':Lg k n):Lg (j+k+1) (m*n):=by
 refine p7 ?_;have h1:=ED h;have h2:=ED h';by_cases h0:n=0
 ·subst h0;rw[dG];exact bR (by decide)
 ·have:=z1p h1 (dN h2) (bR (by decide));rw[←bY]at this;rw[show j+k+1+1=j+1+(k+1) by omega];exact this
theorem wa{j:Nat}(h:Lg j m)(h':Lg j n):Lg (j+1) (m+n):=by
 refine p7 ?_;have h1:=ED h;have h2:=ED h';rw[av];omega
def Qz(k:Nat)(q:Rat):Prop:=Lg k q.num.natAbs∧Lg k q.den
abbrev KA:Nat:=1000000000
abbrev KB:Nat:=200000000
theorem AT(ha:Lg KA a)(hb:Lg KA b)(hφ:3000000000≤φ):tt φ [.n a,.n b]=some (.n (Nat.gcd a b)):=by
 unfold tt;show cnd (Nat.blt a B64) (cnd (Nat.blt b B64) (frc (Nat.gcd a b) λz=>some (D.n z)) (jl φ [.n a,.n b])) (jl φ [.n a,.n b])=_;rw[JC ha hb hφ,fA];cases Nat.blt a B64<;>cases Nat.blt b B64<;>rfl
theorem wY(ha:Lg KA a)(hb:Lg KA b)(h0:0<b)(hφ:3000000000≤φ):oc φ [.n a,.n b]=some (.tup [.n (a/b),.n (a%b)]):=by
 unfold oc;show cnd (Nat.blt a B64) (cnd (Nat.blt b B64) (cnd (Nat.blt 0 b) (frc (Nat.div a b) λq=>frc (Nat.mod a b) λr=>some (D.tup [.n q,.n r])) none) (iO φ [.n a,.n b])) (iO φ [.n a,.n b])=_;rw[DN ha hb h0 (by omega),fA,fA,ep h0];cases Nat.blt a B64<;>cases Nat.blt b B64<;>rfl
theorem tH(ha:Lg KA a)(hb:Lg KA b):ms [.n a,.n b]=some (.n (a*b)):=by
 unfold ms;show cnd (Nat.ble (Nat.log2 a) 1000000000) (cnd (Nat.ble (Nat.log2 b) 1000000000) (frc (Nat.mul a b) λz=>some (D.n z)) none) none=_;rw[aF ha,aF hb,fA];rfl
theorem AV(ha:Lg KA a)(hb:Lg KA b):tv [.n a,.n b]=some (.n (a+b)):=by
 unfold tv;show cnd (Nat.ble (Nat.log2 a) 1000000000) (cnd (Nat.ble (Nat.log2 b) 1000000000) (frc (Nat.add a b) λz=>some (D.n z)) none) none=_;rw[aF ha,aF hb,fA];rfl
theorem ue(ha:Lg KA a)(hb:b≤a):mP [.n a,.n b]=some (.n (a-b)):=by
 unfold mP;show cnd (Nat.ble (Nat.log2 a) 1000000000) (cnd (Nat.ble b a) (frc (Nat.sub a b) λz=>some (D.n z)) none) none=_;rw[aF ha,aF hb,fA];rfl
theorem Wf(z:Int):itz z=it (decide (z<0)) z.natAbs:=rfl
theorem zB{v:Bool}{c:Nat}(h:zt v c=z):it (v&& !(Nat.beq c 0)) c=itz z:=by rw[←h,We];rfl
theorem TK{x:Bool}{a:Nat}{k:Bool→Nat→Rs}:zk (it x a) k=k x a:=by cases x<;>rfl
theorem Bh{k:Bool→Nat→Rs}:zk (itz z) k=k (decide (z<0)) z.natAbs:=by rw[Wf,TK]
theorem A4(hz:Lg KA z.natAbs)(hw:Lg KA w.natAbs):uC [itz z,itz w]=some (itz (z+w)):=by
 show zk (itz z) (λx a=>zk (itz w) λy b=>Ro x a y b some)=_;rw[Bh,Bh];unfold Ro;by_cases h1:z<0
 ·by_cases h2:w<0
  ·rw[aS h1,aS h2,AV hz hw];show kIt true (z.natAbs+w.natAbs) some=_;rw[sZ,zB (z:=z+w) (by unfold zt;rw[aC rfl];omega)]
  ·rw[aS h1,aN h2];show cnd (Nat.blt z.natAbs w.natAbs) (ob (mP [.n w.natAbs,.n z.natAbs]) λc=>oL c λc=>kIt false c some) (ob (mP [.n z.natAbs,.n w.natAbs]) λc=>oL c λc=>kIt true c some)=_;by_cases h3:z.natAbs<w.natAbs
   ·rw[ep h3,eL,ue hw (by omega)];show kIt false (w.natAbs-z.natAbs) some=_;rw[sZ,zB (z:=z+w) (by unfold zt;rw[aE (by simp)];omega)]
   ·rw[fC h3,e9,ue hz (by omega)];show kIt true (z.natAbs-w.natAbs) some=_;rw[sZ,zB (z:=z+w) (by unfold zt;rw[aC rfl];omega)]
 ·by_cases h2:w<0
  ·rw[aN h1,aS h2];show cnd (Nat.blt z.natAbs w.natAbs) (ob (mP [.n w.natAbs,.n z.natAbs]) λc=>oL c λc=>kIt true c some) (ob (mP [.n z.natAbs,.n w.natAbs]) λc=>oL c λc=>kIt false c some)=_;by_cases h3:z.natAbs<w.natAbs
   ·rw[ep h3,eL,ue hw (by omega)];show kIt true (w.natAbs-z.natAbs) some=_;rw[sZ,zB (z:=z+w) (by unfold zt;rw[aC rfl];omega)]
   ·rw[fC h3,e9,ue hz (by omega)];show kIt false (z.natAbs-w.natAbs) some=_;rw[sZ,zB (z:=z+w) (by unfold zt;rw[aE (by simp)];omega)]
  ·rw[aN h1,aN h2,AV hz hw];show kIt false (z.natAbs+w.natAbs) some=_;rw[sZ,zB (z:=z+w) (by unfold zt;rw[aE (by simp)];omega)]
theorem JF(z w:Int):zt (decide (z<0) != decide (w<0)) (z.natAbs*w.natAbs)=z*w:=by
 have h1:((z.natAbs*w.natAbs:Nat):Int)=(z.natAbs:Int)*(w.natAbs:Int):=z15 _ _;unfold zt;by_cases hz:z<0<;>by_cases hw:w<0
 ·rw[aS hz,aS hw,aE (by simp),h1,show(z.natAbs:Int)= -z by omega,show(w.natAbs:Int)= -w by omega,Int.neg_mul_neg]
 ·rw[aS hz,aN hw,aC (by simp),h1,show(z.natAbs:Int)= -z by omega,show(w.natAbs:Int)=w by omega,Int.neg_mul,Int.neg_neg]
 ·rw[aN hz,aS hw,aC (by simp),h1,show(z.natAbs:Int)=z by omega,show(w.natAbs:Int)= -w by omega,Int.mul_neg,Int.neg_neg]
 ·rw[aN hz,aN hw,aE (by simp),h1,show(z.natAbs:Int)=z by omega,show(w.natAbs:Int)=w by omega]
theorem H4(hz:Lg KA z.natAbs)(hw:Lg KA w.natAbs):vp [itz z,itz w]=some (itz (z*w)):=by
 show zk (itz z) (λx a=>zk (itz w) λy b=>ob (ms [.n a,.n b]) λc=>oL c λc=>kIt (cnd x (cnd y false true) y) c some)=_;rw[Bh,Bh,tH hz hw];show kIt (cnd (decide (z<0)) (cnd (decide (w<0)) false true) (decide (w<0))) (z.natAbs*w.natAbs) some=_;rw[sZ,show cnd (decide (z<0)) (cnd (decide (w<0)) false true) (decide (w<0))=(decide (z<0) != decide (w<0)) by cases decide (z<0)<;>cases decide (w<0)<;>rfl,zB (JF z w)]
theorem H2:xM [itz z]=some (itz (-z)):=by
 show zk (itz z) (λx a=>kIt (cnd x false true) a some)=_;rw[Bh];show kIt (cnd (decide (z<0)) false true) z.natAbs some=_;rw[sZ,show cnd (decide (z<0)) false true= !(decide (z<0)) by cases decide (z<0)<;>rfl,zB (z:= -z)];unfold zt;by_cases h:z<0
 ·rw[aS h,aE (by simp)];omega
 ·rw[aN h,aC (by simp)];omega
theorem yJ{M:List D→Option D}{x:Bool}{a:Nat}{r:D}(h:M [.agg [.b x,.n a]]=some r)(hp:rF r=true):∀s K,eR M [.agg [.b x,.n a]] s K=K r s:=λs K=>fP h (by intro kk;rfl) hp
theorem qx{M:List D→Option D}{x y:Bool}{a b:Nat}{r:D}(h:M [.agg [.b x,.n a],.agg [.b y,.n b]]=some r)(hp:rF r=true):∀s K,eR M [.agg [.b x,.n a],.agg [.b y,.n b]] s K=K r s:=λs K=>fP h (by intro kk;rfl) hp
theorem wj{M:List D→Option D}{x:Bool}{a m:Nat}{r:D}(h:M [.agg [.b x,.n a,.n m]]=some r)(hp:rF r=true):∀s K,eR M [.agg [.b x,.n a,.n m]] s K=K r s:=λs K=>fP h (by intro kk;rfl) hp
theorem F6{M:List D→Option D}{x y:Bool}{a m b n:Nat}{r:D}(h:M [.agg [.b x,.n a,.n m],.agg [.b y,.n b,.n n]]=some r)(hp:rF r=true):∀s K,eR M [.agg [.b x,.n a,.n m],.agg [.b y,.n b,.n n]] s K=K r s:=λs K=>fP h (by intro kk;rfl) hp
theorem yj(x:Bool)(a:Nat):∀s K,eR (fU φ) [.b x,.n a] s K=K (.agg [.b (x&& !(Nat.beq a 0)),.n a]) s:=λs K=>yI rL
theorem YF(ha:Lg KA a)(hb:Lg KA b)(h0:b≠0)(hφ:3000000000≤φ):n6 φ [.agg [.b x,.n a],.agg [.b false,.n b]]=some (rc (mkRat (zt x a) b)):=by
 have hg:0<Nat.gcd a b:=Nat.gcd_pos_of_pos_right a (by omega);have hgk:Lg KA (Nat.gcd a b):=p8 hb (Nat.gcd_le_right a (by omega));have i1:∀s K,eR (tt φ) [.n a,.n b] s K=K (.n (Nat.gcd a b)) s:=λs K=>qK (AT ha hb hφ);have i2:∀s K,eR (oc φ) [.n a,.n (Nat.gcd a b)] s K=K (.tup [.n (a/Nat.gcd a b),.n (a%Nat.gcd a b)]) s:=λs K=>F7 (wY ha hgk hg hφ);have i3:∀s K,eR (oc φ) [.n b,.n (Nat.gcd a b)] s K=K (.tup [.n (b/Nat.gcd a b),.n (b%Nat.gcd a b)]) s:=λs K=>F7 (wY hb hgk hg hφ);rw[VA h0];unfold n6;by_cases h1:Nat.gcd a b=1
 ·simp -implicitDefEqProofs only[eV,eZ,ff,jB,qW,kD,kq,lO,qS,List.all_cons,List.all_nil,one,Bool.and_self,List.length_nil,List.length_cons,List.nil_append,List.cons_append,List.getElem?_cons_zero,List.getElem?_cons_succ,gN,gQ,mT,eL,e9,jn,Gv,nz,Bool.not_true,Nat.zero_add,Nat.reduceAdd,List.set_cons_zero,List.set_cons_succ,qR,uA,qY,qX,qZ,ej,Lk,kb3,lL,lK,re3,List.drop_zero,i1,h1,yj,Bool.bne_false,Nat.div_one]
 ·simp -implicitDefEqProofs only[eV,eZ,ff,jB,qW,kD,kq,lO,qS,List.all_cons,List.all_nil,one,Bool.and_self,List.length_nil,List.length_cons,List.nil_append,List.cons_append,List.getElem?_cons_zero,List.getElem?_cons_succ,gN,gQ,mT,eL,jn,Gv,nz,Bool.not_false,mS,mR,Nat.zero_add,Nat.reduceAdd,List.set_cons_zero,List.set_cons_succ,qR,Yx,uA,Z6,qY,qX,qZ,ej,Lk,kb3,lL,lK,re3,List.drop_zero,i1,i2,i3,gG h1,yj,Bool.bne_false]
end
def Hb(D N:Nat)(l:Row):Prop:=∀i,Ht D N (ent l i)
section
variable {f g l:Row} {D N E M n i k:Nat}
theorem LC{v:Nat→Rat}(h:∀i,Ht D N (v i)):∀n,Ht D (n*N) (vE v n)
 |0=>nK rh (a9 _)
 |n+1=>by
  have:=QY (LC h n) (h n);rw[aP,bE];exact this
def pmV(f g:Row)(n:Nat):Vec:=λk=>vE (λi=>if i≤k then ent f i*ent g (k-i)else 0) n
theorem K4:pmV f g f.length=xV f g:=rfl
theorem PM(hf:Hb D N f)(hg:Hb E M g):Ht (D*E) (n*(N*M)) (pmV f g n k):=
 LC (λi=>by
  by_cases h:i≤k
  ·rw[aC h];exact vq (hf i) (hg _)
  ·rw[aE h];exact nK rh (a9 _)) n
theorem wW(hf:Hb D N f)(hg:Hb E M g):Hb (D*E) (f.length*(N*M)) (gP f g):=λi=>by
 rw[vK];exact PM hf hg
theorem uG:(gP f g).length≤f.length+g.length-1:=by
 unfold gP;exact bT (oJ _) (by rw[iU];exact aD _)
theorem PL(h:ent f i=0):pmV f g (i+1) k=pmV f g i k:=by
 show pmV f g i k+(if i≤k then ent f i*ent g (k-i)else 0)=_;rw[h];split<;>grind
theorem yn:pmV f g (i+1) k=pmV f g i k+(if i≤k then ent f i*ent g (k-i)else 0):=rfl
theorem IS{v:Vec}(hg:Hb 1 M g)(h1:ent g (g.length-1)=1)(hv:∀i,Ht D N (v i))(i:Nat):Ht D (N+N*M) (stV g k v i):=by
 unfold stV;by_cases h:k≤i
 ·rw[aC h,h1];have h2:=vq (hv (k+g.length-1)) (hg (i-k));rw[ai]at h2;have h3:=JX (hv i) h2;have e:v (k+g.length-1)*(1:Rat)⁻¹ =v (k+g.length-1):=by
   rw[show(1:Rat)⁻¹ =1 by(have:=cw 1 (by decide);rwa[dL]at this),dL]
  rw[e];exact h3
 ·rw[aE h];exact nK (hv i) (z1z _ _)
theorem KQ(hg:Hb 1 M g)(h1:ent g (g.length-1)=1):∀(k N:Nat)(v:Vec),(∀i,Ht D N (v i))→∀i,Ht D (N*(1+M)^k) (uo g k v i)
 |0,N,v,hv,i=>by rw[ce,ai];exact hv i
 |k+1,N,v,hv,i=>by
  have:=KQ hg h1 k (N+N*M) (stV g k v) (λi=>IS hg h1 hv i) i;rw[av,aK ((1+M)^k),←aU,bA,ai];exact this
theorem Gn(hgn:g≠[])(hg:Hb 1 M g)(h1:ent g (g.length-1)=1)(hf:Hb D N f):Hb D (N*(1+M)^(f.length+1-g.length)) (iL g f):=λi=>by
 rw[Dt hgn (by rw[h1];decide)];exact KQ hg h1 _ _ _ hf i
end
def RH(h:Nat)(r:Row):Prop:=∃D N,0<D∧Lg h D∧Lg h N∧Hb D N r
section
variable {r l:Row} {h h1 h2 p i:Nat} {c:Rat}
theorem VC{D N k:Nat}{q:Rat}(hD:0<D)(h:Ht D N q)(h1:Lg k D)(h2:Lg k N):Qz k q:=by
 obtain⟨a,b⟩:=F9 hD h;exact⟨p8 h2 a,p8 h1 b⟩
theorem vd{j k:Nat}{q:Rat}(h:Qz j q)(hk:j≤k):Qz k q:=⟨ew h.1 hk,ew h.2 hk⟩
theorem rX(h:RH h1 r)(hh:h1≤h2):RH h2 r:=by
 obtain⟨D,N,a,b,c,d⟩:=h;exact⟨D,N,a,ew b hh,ew c hh,d⟩
theorem MR(hr:RH h r)(i:Nat):Qz h (ent r i):=by
 obtain⟨D,N,a,b,c,d⟩:=hr;exact VC a (d i) b c
theorem Xn(hr:RH h1 r)(hl:RH h2 l)(p i:Nat):Qz (h1+h2+1) (ent r p*ent l i):=by
 obtain⟨D,N,a,b,c,d⟩:=hr;obtain⟨E,M,a',b',c',d'⟩:=hl;exact VC (cW a a') (vq (d p) (d' i)) (iB b b') (iB c c')
theorem Ib(hr:RH h1 r)(hl:RH h2 l)(he:r.length=l.length)(p:Nat):RH (h1+h2+2) (sbr r l (ent r p)):=by
 obtain⟨D,N,a,b,c,d⟩:=hr;obtain⟨E,M,a',b',c',d'⟩:=hl;refine⟨D*E,N*E+N*M,cW a a',ew (iB b b') (by omega),?_,λi=>?_⟩
 ·have:=wa (iB c b') (iB c c');exact ew this (by omega)
 ·rw[ya he];exact JX (QX E (d i)) (vq (d p) (d' i))
theorem OU(hr:RH h r)(hp:ent r p≠0):RH h (scl r (ent r p)⁻¹):=by
 obtain⟨D,N,a,b,c,d⟩:=hr;obtain⟨z,hz,hzN⟩:=d p;have hD:(D:Rat)≠0:=λe=>by have:=Rat.natCast_eq_zero_iff.1 e;omega
 have hz0:z≠0:=by
  intro e;subst e;rcases Rat.mul_eq_zero.1 hz with e|e
  ·exact hp e
  ·exact hD e
 have hzr:(z:Rat)≠0:=λe=>hz0 (Rat.intCast_eq_zero_iff.1 e);refine⟨z.natAbs,N,by omega,p8 c hzN,c,λi=>?_⟩;obtain⟨w,hw,hwN⟩:=d i;have hinv:ent r p*(ent r p)⁻¹ =1:=z1l _ hp;have e1:ent r i*(ent r p)⁻¹ *(z:Rat)=(w:Rat):=by
  rw[←hz,←hw];have:ent r i*(ent r p)⁻¹ *(ent r p*(D:Rat))=ent r i*(D:Rat)*(ent r p*(ent r p)⁻¹):=by grind
  rw[this,hinv,dL]
 rw[As];by_cases hs:0≤z
 ·refine⟨w,?_,hwN⟩;rw[←e1,show((z.natAbs:Nat):Rat)=(z:Rat)from ?_];have:((z.natAbs:Nat):Int)=z:=by omega
  rw[←Rat.intCast_natCast,this]
 ·refine⟨-w,?_,by omega⟩;rw[z0G,←e1];have:((z.natAbs:Nat):Rat)= -(z:Rat):=by
   have:((z.natAbs:Nat):Int)= -z:=by omega
   rw[←Rat.intCast_natCast,this,z0G]
  rw[this];grind
theorem El{N H:Nat}:∀{E:List Row}{r:Row}{h:Nat},(∀l,l∈E→l.length=N∧RH H l)→r.length=N→RH h r→RH (h+E.length*(H+2)) (tD E r)
 |[],r,h,_,_,hr=>by simpa[tD]using hr
 |l::E,r,h,hE,hn,hr=>by
  obtain⟨a,b⟩:=hE l (by simp);have h1:=Ib hr b (by omega) (pvt l);have h3:RH (h+H+2+E.length*(H+2)) (tD E (sbr r l (ent r (pvt l)))):=El (N:=N) (H:=H) (E:=E) (r:=sbr r l (ent r (pvt l))) (λm hm=>hE m (bm _ hm)) (by rw[se (by omega)];exact hn) h1;show RH _ (tD E (sbr r l (ent r (pvt l))));refine rX h3 ?_;simp only[ay];rw[aP,bE];omega
def hgt(h:Nat):Nat→Nat
 |0=>h
 |j+1=>h+(j+1)*(hgt h j+2)
theorem QZ(h:Nat):∀j,hgt h j≤hgt h (j+1)
 |j=>by
  show hgt h j≤h+(j+1)*(hgt h j+2);rw[aP,bE];omega
theorem Q0(h:Nat){i j:Nat}(hij:i≤j):hgt h i≤hgt h j:=by
 induction hij with
 |refl=>exact aD _
 |step _ ih=>exact bT ih (QZ h _)
end
def pwL(g a:Row):Nat→Row
 |0=>[1]
 |j+1=>iL g (gP (pwL g a j) a)
def PI(g a:Row)(j:Nat):Row:=lst (g.length-1) (ent (pwL g a j))
section
variable {g a l:Row} {m M D N d j k x y n:Nat}
theorem yA(h:Lg k x):∀j,Lg ((k+1)*j) (x^j)
 |0=>by rw[ce];show Nat.log2 1≤_;rw[show Nat.log2 1=0 from by decide];exact a9 _
 |j+1=>by
  rw[av];refine ew (iB (yA h j) h) ?_;rw[bA,ai];omega
theorem K1(hm:2≤g.length):∀j,(pwL g a j).length≤g.length-1
 |0=>by show 1≤_;omega
 |j+1=>M5
theorem FB:∀j,Pt (pwL g a j)
 |0=>by
  show Pt [1];refine ve (λx hx=>?_);have:1=x:=by simpa using hx
  rw[←this];decide
 |j+1=>qw _
def pwc(d N M:Nat):Nat:=d*N*(1+M)^d
theorem JY:Hb 1 1 [1]:=λi=>by
 cases i with
 |zero=>show IB 1 ((1:Rat)*((1:Nat):Rat));rw[z1H];exact F8 1
 |succ i=>
  show Ht 1 1 (ent [] i);rw[sj];exact nK rh (by omega)
theorem PG(hm:g.length=d+1)(hd:1≤d)(hg:Hb 1 M g)(h1:ent g d=1)(ha:Hb D N a)(hal:a.length≤d):∀j,Hb (D^j) (pwc d N M^j) (pwL g a j)
 |0=>JY
 |j+1=>by
  have hp:=PG hm hd hg h1 ha hal j;have hl:=K1 (g:=g) (a:=a) (by omega) j;have h2:=wW hp ha;have hpl:=uG (f:=pwL g a j) (g:=a);have h3:=Gn (g:=g) (f:=gP (pwL g a j) a) (by intro e;rw[e]at hm;simp at hm) hg (by rw[hm];exact h1) h2;intro i;have h4:=h3 i;rw[av,av];refine nK h4 ?_;have e1:(pwL g a j).length*(pwc d N M^j*N)≤d*(pwc d N M^j*N):=aL _ (by omega);have e2:(1+M)^((gP (pwL g a j) a).length+1-g.length)≤(1+M)^d:=ba (by omega) (by omega);refine bT (bv e1 e2) (z0L ?_);show d*(pwc d N M^j*N)*(1+M)^d=pwc d N M^j*(d*N*(1+M)^d);rw[←aU (pwc d N M^j),cf d]
theorem JZ(h:Hb D N l):Hb D N (lst n (ent l)):=λi=>by
 rw[kM];split
 ·exact h i
 ·exact nK rh (a9 _)
structure EL (g a:Row) (d D N M:Nat):Prop where
 hm:g.length=d+1
 hd:1≤d
 hd5:d≤5
 hg:Hb 1 M g
 h1:ent g d=1
 ha:Hb D N a
 hal:a.length≤d
 d0:0<D
 lD:Lg 330 D
 lN:Lg 330 N
 lM:Lg 40 M
theorem EL.lc(h:EL g a d D N M):Lg 600 (pwc d N M):=by
 have h5:Lg 2 d:=p7 (br h.hd5 (by decide));have h1M:Lg 41 (1+M):=by
  have:=wa (j:=40) (m:=1) (n:=M) (p7 (by decide)) h.lM;exact this
 have h2:=iB (iB h5 h.lN) (yA h1M d);refine ew h2 ?_;have:=h.hd5;have:(41+1)*d≤(41+1)*5:=aZ _ h.hd5;omega
theorem EL.hb(h:EL g a d D N M)(j:Nat):Hb (D^j) (pwc d N M^j) (pwL g a j):=PG h.hm h.hd h.hg h.h1 h.ha h.hal j
end
section
variable {rows:List Row} {r t l:Row} {h n k i:Nat} {c:Rat}
end
section
variable {E F rows:List Row} {r l:Row} {c:Rat} {i p N col:Nat} {f:Vec}
def Srt(E:List Row):Prop:=E.Pairwise (λa b=>pvt a<pvt b)
theorem S6{a b:Row}(hl:a.length=b.length)(h:∀i,ent a i=ent b i):a=b:=by
 rw[←w7 (l:=a),←w7 (l:=b),hl,show ent a=ent b from funext h]
theorem RO{E:List (Row×Nat)}(f:Vec){i:Nat}(h:∀e,e∈E→f e.2*ent e.1 i=0):cmb E f i=0:=by
 unfold cmb
 induction E with
 |nil=>rfl
 |cons e E ih=>simp only[z1a];rw[ih (λe he=>h e (by simp[he])),h e (by simp)];grind
theorem At(hF:RE' F)(hf:Sp F f)(h1:f p≠0)(h0:∀c,c<p→f c=0):∃l,l∈F∧pvt l=p:=by
 refine Classical.byContradiction λhn=>h1 ?_;rw[G7 (f:=f) hF (by rw[xp];exact hf) p];refine RO f λe he=>?_;obtain⟨l,hl,rfl⟩:=aW.1 he;have hne:pvt l≠p:=λe=>hn ⟨l,hl,e⟩;show f (pvt l)*ent l p=0;rcases az (pvt l) p with h2|h2
 ·rw[h0 _ h2];grind
 ·rw[(hF.lead hl).2 p (by omega)];grind
theorem O6(hE:RE' E){a b:Row}(ha:a∈E)(hb:b∈E):ent a (pvt b)=if pvt a=pvt b then 1 else 0:=by
 split
 ·rename_i h;rw[←h];exact(hE.lead ha).1
 ·rename_i h;exact O4 hE (pr a) (ax ha) (pr b) (ax hb) h
theorem O3(hE:RE' E)(hF:RE' F)(lE:∀l,l∈E→l.length=N)(lF:∀l,l∈F→l.length=N)(h1:∀l,l∈E→Sp F (ent l))(h2:∀l,l∈F→Sp E (ent l)):∀e,e∈E→e∈F:=by
 intro e he;have hle:=hE.lead he;obtain⟨l,hl,hp⟩:=At hF (h1 e he) (by rw[hle.1];decide) hle.2;have key:∀i,ent e i=ent l i:=by
  intro i;have hz:=Ep hF (f:=λi=>ent e i+(-1)*ent l i) (by rw[xp];exact pO (h1 e he) (n7 hl) (-1)) (λd hd=>by
   obtain⟨m,hm,rfl⟩:=aW.1 hd;have hlm:=hF.lead hm;obtain⟨e',he',hp'⟩:=At hE (h2 m hm) (by rw[hlm.1];decide) hlm.2;show ent e (pvt m)+(-1)*ent l (pvt m)=0;rw[O6 hF hl hm,←hp',O6 hE he he',hp];split<;>grind) i
  have hz:ent e i+(-1)*ent l i=0:=hz;grind
 rw[S6 (by rw[lE e he,lF l hl]) key];exact hl
theorem Nz:∀{E F:List Row},Srt E→Srt F→(∀x,x∈E↔x∈F)→E=F
 |[],[],_,_,_=>rfl
 |[],b::F,_,_,h=>absurd ((h b).2 (by simp)) (by simp)
 |a::E,[],_,_,h=>absurd ((h a).1 (by simp)) (by simp)
 |a::E,b::F,hE,hF,h=>by
  unfold Srt at hE hF;rw[dk]at hE hF;have hab:a=b:=by
   rcases bI.1 ((h a).1 (by simp))with h1|h1
   ·exact h1
   ·rcases bI.1 ((h b).2 (by simp))with h2|h2
    ·exact h2.symm
    ·have:=hF.1 a h1;have:=hE.1 b h2;omega
  subst hab;rw[Nz hE.2 hF.2 λx=>⟨λhx=>by
   rcases bI.1 ((h x).1 (by simp[hx]))with h1|h1
   ·subst h1;have:=hE.1 x hx;omega
   ·exact h1,λhx=>by
   rcases bI.1 ((h x).2 (by simp[hx]))with h1|h1
   ·subst h1;have:=hF.1 x hx;omega
   ·exact h1⟩]
structure RR' (N:Nat) (rows E:List Row):Prop where
 ei:EI N rows E
 srt:Srt E
theorem Ej{rows':List Row}(hE:RR' N rows E)(hF:RR' N rows' F)(h1:∀r,r∈rows→Sp rows' (ent r))(h2:∀r,r∈rows'→Sp rows (ent r)):E=F:=by
 have e1:∀l,l∈E→Sp F (ent l):=λl hl=>kA hF.ei.sup (kA h1 (hE.ei.sub l hl));have e2:∀l,l∈F→Sp E (ent l):=λl hl=>kA hE.ei.sup (kA h2 (hF.ei.sub l hl));exact Nz hE.srt hF.srt λx=>⟨O3 hE.ei.red hF.ei.red hE.ei.len hF.ei.len e1 e2 x,O3 hF.ei.red hE.ei.red hF.ei.len hE.ei.len e2 e1 x⟩
theorem RR'.len_le(h:RR' N rows E):E.length≤N:=by
 have:=O5 (N:=N) h.ei.red (λe he=>by
  obtain⟨l,hl,rfl⟩:=aW.1 he;have:=Av (h.ei.red.lead hl);rw[h.ei.len l hl]at this;exact this)
 rwa[aI]at this
def rr(N:Nat)(rows:List Row):List Row:=(DL N rows).map Prod.fst
theorem MP{st:List Row×List (Row×Nat)}(h1:∀e,e∈st.2→e.2<col)(h2:st.2.Pairwise (λa b=>a.2<b.2)):(∀e,e∈(tB st col).2→e.2<col+1)∧(tB st col).2.Pairwise (λa b=>a.2<b.2):=by
 unfold tB;split
 ·refine⟨λe he=>?_,?_⟩
  ·rcases am.1 he with he|he
   ·obtain⟨d,hd,rfl⟩:=aW.1 he;have:=h1 d hd;show d.2<col+1;omega
   ·rw[bi]at he;subst he;exact cK _
  ·rw[z1b];refine⟨?_,z0P _ _,λa ha b hb=>?_⟩
   ·rw[dS];exact h2
   ·rw[bi]at hb;subst hb;obtain⟨d,hd,rfl⟩:=aW.1 ha;exact h1 d hd
 ·exact⟨λe he=>z0Q (h1 e he),h2⟩
theorem O1:(DL N rows).Pairwise (λa b=>a.2<b.2):=by
 have key:∀k,(∀e,e∈((List.range k).foldl tB (rows,[])).2→e.2<k)∧(((List.range k).foldl tB (rows,[])).2).Pairwise (λa b=>a.2<b.2):=by
  intro k
  induction k with
  |zero=>exact⟨λe he=>(by cases he),dp⟩
  |succ k ih=>
   rw[z1c,dR,dh,List.foldl_nil];exact MP ih.1 ih.2
 exact(key N).2
theorem B5(hr:∀r,r∈rows→r.length=N):RR' N rows (rr N rows):=by
 obtain⟨rest,h,hz⟩:=KR hr;have hp:∀e,e∈DL N rows→pr e.1=e:=λe he=>Prod.ext rfl (yk (h.red.1 e he));have hpm:((DL N rows).map Prod.fst).map pr=DL N rows:=by
  rw[cE];exact(cN (λe he=>hp e he)).trans (List.map_id _)
 refine⟨⟨λl hl=>?_,λl hl=>?_,O0 hr,?_⟩,?_⟩
 ·obtain⟨e,he,rfl⟩:=aW.1 hl;exact h.dlen e he
 ·obtain⟨e,he,rfl⟩:=aW.1 hl;exact h.dsub e he
 ·show RE (((DL N rows).map Prod.fst).map pr);rw[hpm];exact h.red
 ·unfold Srt rr;rw[dS];refine dP (λ{a b} ha hb hab=>?_) (O1 (N:=N) (rows:=rows));have h1:=congrArg Prod.snd (hp a ha);have h2:=congrArg Prod.snd (hp b hb);have h1:pvt a.1=a.2:=h1;have h2:pvt b.1=b.2:=h2;omega
theorem Ek(h:RR' N rows E):rr N E=E:=
 (Ej h (B5 h.ei.len) (h.ei.sup) (h.ei.sub)).symm
end
section
variable {E F rows B:List Row} {g a b r l f:Row} {c:Rat} {i p N d k n K:Nat} {v w:Vec} {as:List Row}
theorem SP:stV g k (λi=>v i+c*w i)=λi=>stV g k v i+c*stV g k w i:=by
 funext i;unfold stV;split<;>grind
theorem G5:∀(k:Nat)(v w:Vec),uo g k (λi=>v i+c*w i)=λi=>uo g k v i+c*uo g k w i
 |0,_,_=>rfl
 |k+1,v,w=>by
  show uo g k (stV g k _)=_;rw[SP,G5 k];rfl
theorem Dl:∀k:Nat,uo g k (λ_=>0)=λ_=>0
 |0=>rfl
 |k+1=>by
  show uo g k (stV g k _)=_;rw[y8 rfl,Dl k]
theorem Dm(h:∀i,K+g.length-1≤i→v i=0):∀j,uo g (K+j) v=uo g K v
 |0=>rfl
 |j+1=>by
  show uo g (K+j) (stV g (K+j) v)=_;rw[y8 (h _ (by omega)),Dm h j]
def mlV(a:Row)(n:Nat)(v:Vec):Vec:=λk=>vE (λi=>if i≤k then v i*ent a (k-i)else 0) n
theorem TZ:mlV a n (λi=>v i+c*w i)=λi=>mlV a n v i+c*mlV a n w i:=by
 funext k;unfold mlV;rw[←GP];refine BZ λi hi=>?_;split<;>grind
theorem GQ{h:Nat→Rat}:∀(m n:Nat),(∀i,m≤i→h i=0)→vE h (m+n)=vE h m
 |m,0,_=>rfl
 |m,n+1,hz=>by
  show vE h (m+n)+h (m+n)=_;rw[hz _ (by omega),GQ m n hz];grind
theorem TY(h:f.length≤n):mlV a n (ent f)=xV f a:=by
 funext k;obtain⟨m,rfl⟩:∃m,n=f.length+m:=⟨n-f.length,by omega⟩
 unfold mlV xV;refine GQ _ _ λi hi=>?_;rw[gL hi];split<;>grind
def mr(g a r:Row):Row:=lst (g.length-1) (ent (iL g (gP (e8 r) a)))
def mrV(g a:Row)(v:Vec):Vec:=λi=>if i<g.length-1 then uo g g.length (mlV a (g.length-1) v) i else 0
theorem WY:(mr g a r).length=g.length-1:=iU
theorem WZ(hg:g≠[])(hl:ent g (g.length-1)≠0)(hr:r.length≤g.length-1)(ha:a.length≤g.length-1):ent (mr g a r)=mrV g a (ent r):=by
 have hgl:0<g.length:=cM.2 hg;have hp:=oJ r;have e1:ent (e8 r)=ent r:=funext (kB r);have e2:xV (e8 r) a=mlV a (g.length-1) (ent r):=by rw[←e1];exact(TY (by omega)).symm
 funext i;unfold mr mrV;rw[kM];split
 ·rw[Dt hg hl,show ent (gP (e8 r) a)=xV (e8 r) a from funext λk=>vK];have hlen:=uG (f:=e8 r) (g:=a);have hout:∀i,(gP (e8 r) a).length≤i→xV (e8 r) a i=0:=λi hi=>by rw[←vK];exact gL hi
  obtain⟨j,hj⟩:∃j,g.length=((gP (e8 r) a).length+1-g.length)+j:=⟨g.length-((gP (e8 r) a).length+1-g.length),by omega⟩
  rw[←e2]
  conv=>rhs;rw[hj]
  rw[Dm λi hi=>hout i (by omega)]
 ·rfl
theorem TV:mrV g a (λi=>v i+c*w i)=λi=>mrV g a v i+c*mrV g a w i:=by
 funext i;unfold mrV;rw[TZ,G5];split<;>grind
theorem Ph:mrV g a (λ_=>0)=λ_=>0:=by
 have:mlV a (g.length-1) (λ_=>0)=λ_=>0:=by
  funext k;unfold mlV;exact vD λi _=>by split<;>grind
 funext i;unfold mrV;rw[this,Dl];split<;>rfl
structure GL' (g:Row) (as:List Row) (d:Nat):Prop where
 hm:g.length=d+1
 h1:ent g d=1
 hd:1≤d
 ha:∀a,a∈as→a.length≤d
theorem GL'.ent(h:GL' g as d)(ha:a∈as)(hr:r.length=d):Ev.ent (mr g a r)=mrV g a (Ev.ent r):=by
 have hm:=h.hm;refine WZ (by intro e;rw[e]at hm;simp at hm) ?_ (by omega) (by have:=h.ha a ha;omega);rw[show g.length-1=d by omega,h.h1];decide
theorem GL'.len(h:GL' g as d):(mr g a r).length=d:=by rw[WY,h.hm];rfl
theorem Uw(h:GL' g as d)(ha:a∈as)(hE:∀l,l∈E→l.length=d)(hf:Sp E v):Sp (E.map (mr g a)) (mrV g a v):=by
 induction hf with
 |zero=>rw[Ph];exact Sp.zero
 |add hf c hr ih=>
  rw[TV,←h.ent ha (hE _ hr)];exact Sp.add ih c (ax hr)
def nx(g:Row)(as E:List Row):List Row:=E++E.flatMap λr=>as.map λa=>mr g a r
theorem P0(h:GL' g as d)(hE:∀l,l∈E→l.length=d):∀l,l∈nx g as E→l.length=d:=by
 intro l hl;rcases am.1 hl with hl|hl
 ·exact hE l hl
 ·obtain⟨r,hr,hl⟩:=dU.1 hl;obtain⟨a,ha,rfl⟩:=aW.1 hl;exact h.len
def sQ(g:Row):Row:=lst (g.length-1) (Ev.ent (iL g [1]))
def stp(g:Row)(as:List Row):Nat→List Row
 |0=>rr (g.length-1) [sQ g]
 |t+1=>rr (g.length-1) (nx g as (stp g as t))
theorem yq:(sQ g).length=g.length-1:=iU
theorem Aq(h:GL' g as d):∀t,∀l,l∈stp g as t→l.length=d
 |0=>by
  have:=(B5 (N:=d) (rows:=[sQ g]) (λr hr=>by rw[bi]at hr;subst hr;rw[yq,h.hm];rfl)).ei.len;unfold stp;rw[show g.length-1=d by rw[h.hm];rfl];exact this
 |t+1=>by
  have:=(B5 (P0 h (Aq h t))).ei.len;unfold stp;rw[show g.length-1=d by rw[h.hm];rfl];exact this
theorem Ea(h:GL' g as d)(t:Nat):RR' d (nx g as (stp g as t)) (stp g as (t+1)):=by
 have:=B5 (P0 h (Aq h t));show RR' d (nx g as (stp g as t)) (rr (g.length-1) (nx g as (stp g as t)));rw[show g.length-1=d by rw[h.hm];rfl];exact this
theorem zn:∀(l m:List Nat),l.Nodup→(∀x,x∈l→x∈m)→l.length≤m.length
 |[],_,_,_=>a9 _
 |x::l,m,hn,hs=>by
  rw[z1E]at hn;have h1:=zn l (m.erase x) hn.2 λy hy=>(List.mem_erase_of_ne (λe=>hn.1 (by rw[←e];exact hy))).2 (hs y (by simp[hy]));have h2:=List.length_erase_of_mem (hs x (by simp));have h3:=List.length_pos_of_mem (hs x (by simp));simp only[ay];omega
theorem zi(hE:RE' E):(E.map pvt).Nodup:=by
 unfold List.Nodup;rw[dS];have h2:=hE.2;rw[dS]at h2;refine dP (λ{a b} ha hb hab he=>?_) h2;have h3:Ev.ent a (pvt b)=0:=hab.1;rw[←he,(hE.lead ha).1]at h3;exact absurd h3 (by decide)
theorem OF(hE:RE' E)(hF:RE' F)(h:∀l,l∈E→Sp F (Ev.ent l))(hl:F.length≤E.length):∀l,l∈F→Sp E (Ev.ent l):=by
 have hsub:∀x,x∈E.map pvt→x∈F.map pvt:=λx hx=>by
  obtain⟨e,he,rfl⟩:=aW.1 hx;have:=hE.lead he;obtain⟨l,hl,hp⟩:=At hF (h e he) (by rw[this.1];decide) this.2;rw[←hp];exact ax hl
 have hall:∀x,x∈F.map pvt→x∈E.map pvt:=λx hx=>by
  refine Classical.byContradiction λhn=>?_;have:=zn (x::E.map pvt) (F.map pvt) (z1E.2 ⟨hn,zi hE⟩) (λy hy=>by
   rcases bI.1 hy with rfl|hy
   ·exact hx
   ·exact hsub y hy)
  simp only[ay,aI]at this;omega
 intro m hm;have hc:Sp E (cmb (E.map pr) (Ev.ent m)):=by have:=Jh (E:=E.map pr) (f:=Ev.ent m);rwa[xp]at this
 refine hc.of λi=>?_;have hz:=Ep hF (f:=λi=>Ev.ent m i+(-1)*cmb (E.map pr) (Ev.ent m) i) (by rw[xp];exact pO (n7 hm) (kA h hc) (-1)) (λe he=>by
  obtain⟨q,hq,rfl⟩:=aW.1 he;obtain⟨e',he',hp⟩:=aW.1 (hall (pvt q) (ax hq));show Ev.ent m (pvt q)+(-1)*cmb (E.map pr) (Ev.ent m) (pvt q)=0;have:=RP hE (f:=Ev.ent m) (pr e') (ax he');have:cmb (E.map pr) (Ev.ent m) (pvt e')=Ev.ent m (pvt e'):=this;rw[←hp,this];grind) i
 have hz:Ev.ent m i+(-1)*cmb (E.map pr) (Ev.ent m) i=0:=hz;grind
theorem z8(h:GL' g as d):∀t,∃rows,RR' d rows (stp g as t)
 |0=>⟨_,by
  have:=B5 (N:=d) (rows:=[sQ g]) (λr hr=>by rw[bi]at hr;subst hr;rw[yq,h.hm];rfl);unfold stp;rw[show g.length-1=d by rw[h.hm];rfl];exact this⟩
 |t+1=>⟨_,Ea h t⟩
theorem Nv(h:GL' g as d){t:Nat}(hs:(stp g as (t+1)).length=(stp g as t).length):stp g as (t+1)=stp g as t:=by
 obtain⟨rows,hr⟩:=z8 h t;have h1:=Ea h t;have hup:∀l,l∈stp g as t→Sp (stp g as (t+1)) (Ev.ent l):=λl hl=>h1.ei.sup l (b9 _ hl);have hdn:=OF hr.ei.red h1.ei.red hup (by omega);exact Ej h1 hr (λr hr'=>kA hr.ei.sub (kA hdn (h1.ei.sup r hr'))) (λr hr'=>kA (λl hl=>sd (λx hx=>b9 _ hx) (n7 hl)) (hr.ei.sup r hr'))
theorem D7(h:GL' g as d){t:Nat}(hs:stp g as (t+1)=stp g as t):∀j,stp g as (t+j)=stp g as t
 |0=>rfl
 |j+1=>by
  have ih:=D7 h hs j;show rr (g.length-1) (nx g as (stp g as (t+j)))=_;rw[ih];exact hs
theorem GS(h:GL' g as d)(t:Nat):(stp g as t).length≤(stp g as (t+1)).length:=by
 obtain⟨rows,hr⟩:=z8 h t;have h1:=Ea h t;have:=zn ((stp g as t).map pvt) ((stp g as (t+1)).map pvt) (zi hr.ei.red) (λx hx=>by
  obtain⟨e,he,rfl⟩:=aW.1 hx;have hl:=hr.ei.red.lead he;obtain⟨l,hl',hp⟩:=At h1.ei.red (h1.ei.sup e (b9 _ he)) (by rw[hl.1];decide) hl.2;rw[←hp];exact ax hl')
 simpa using this
theorem B0(h:GL' g as d)(t:Nat):(stp g as t).length≤d:=by
 obtain⟨rows,hr⟩:=z8 h t;exact hr.len_le
theorem SK(h:GL' g as d):∃t,t≤d∧stp g as (t+1)=stp g as t∧∀s,s<t→(stp g as s).length<(stp g as (s+1)).length:=by
 have key:∀n,(∀s,s<n→(stp g as s).length<(stp g as (s+1)).length)→n≤(stp g as n).length:=by
  intro n
  induction n with
  |zero=>intro _;exact a9 _
  |succ n ih=>intro hn;have:=ih λs hs=>hn s (by omega);have:=hn n (by omega);omega
 have find:∀n,(∀s,s<n→(stp g as s).length<(stp g as (s+1)).length)∨∃t,t<n∧(stp g as (t+1)).length=(stp g as t).length∧∀s,s<t→(stp g as s).length<(stp g as (s+1)).length:=by
  intro n
  induction n with
  |zero=>exact .inl λs hs=>by omega
  |succ n ih=>
   rcases ih with ih|⟨t,h1,h2⟩
   ·rcases az (stp g as n).length (stp g as (n+1)).length with h3|h3
    ·left;intro s hs;rcases az s n with h4|h4
     ·exact ih s h4
     ·rw[show s=n by omega];exact h3
    ·right;exact⟨n,by omega,z0E h3 (GS h n),ih⟩
   ·right;exact⟨t,by omega,h2⟩
 rcases find (d+1)with h1|⟨t,h1,h2,h3⟩
 ·have:=key (d+1) h1;have:=B0 h (d+1);omega
 ·exact⟨t,by omega,Nv h h2,h3⟩
end
section
variable {E F rows:List Row} {g a b r l f:Row} {c:Rat} {i p N d k n K e M:Nat} {v w:Vec} {as:List Row}
def Mon(e:Nat)(r:Row):Prop:=∃D N,0<D∧Lg (331*e) D∧Lg (601*e) N∧Hb D N r
theorem BB{D N:Nat}(h:Hb D N r):Hb D N (e8 r):=λi=>by rw[kB];exact h i
structure GM (g:Row) (as:List Row) (d M:Nat):Prop where
 gl:GL' g as d
 hd5:d≤5
 hg:Hb 1 M g
 el:∀a,a∈as→∃D N,EL g a d D N M
theorem VH{Da Na D N:Nat}(h:EL g a d Da Na M)(hr:Hb D N r)(hrl:r.length=d):Hb (D*Da) (N*pwc d Na M) (mr g a r):=by
 have hm:=h.hm;have hp:=oJ r;have h2:=wW (BB hr) h.ha;have hpl:=uG (f:=e8 r) (g:=a);have hal:=h.hal;have h3:=Gn (g:=g) (f:=gP (e8 r) a) (by intro e;rw[e]at hm;simp at hm) h.hg (by rw[hm];exact h.h1) h2;refine JZ λi=>nK (h3 i) ?_;have e1:(e8 r).length*(N*Na)≤d*(N*Na):=aL _ (by omega);have e2:(1+M)^((gP (e8 r) a).length+1-g.length)≤(1+M)^d:=ba (by omega) (by omega);refine bT (bv e1 e2) (z0L ?_);show d*(N*Na)*(1+M)^d=N*(d*Na*(1+M)^d);rw[←aU N,cf d]
theorem W0{Da Na:Nat}(h:EL g a d Da Na M)(hr:Mon e r)(hrl:r.length=d):Mon (e+1) (mr g a r):=by
 obtain⟨D,N,h0,h1,h2,h3⟩:=hr;refine⟨D*Da,N*pwc d Na M,cW h0 h.d0,?_,?_,VH h h3 hrl⟩
 ·exact ew (iB h1 h.lD) (by omega)
 ·exact ew (iB h2 h.lc) (by omega)
theorem TW(hm:g.length=d+1)(hd:1≤d):Mon 0 (sQ g):=by
 refine⟨1,1,by decide,p7 (by decide),p7 (by decide),JZ ?_⟩;have:iL g [1]=e8 (lst d (ent [1])):=by
  unfold iL;rw[show g.length-1=d by omega,show([1]:Row).length+1-g.length=0 by rw[hm];simp;omega];rfl
 rw[this];exact BB (JZ JY)
def DG(B:List (Row×Nat)):Prop:=∀j(h:j<B.length),B[j].2≤j
structure BS (d:Nat) (E:List Row) (B:List (Row×Nat)):Prop where
 ind:Ind (B.map Prod.fst)
 dg:DG B
 mon:∀x,x∈B→Mon x.2 x.1∧x.1.length=d
 sub:∀x,x∈B→Sp E (ent x.1)
 sup:∀l,l∈E→Sp (B.map Prod.fst) (ent l)
theorem U1{B:List (Row×Nat)}{y:Row×Nat}(h:DG B)(hy:y.2≤B.length):DG (B++[y]):=by
 intro j hj;rw[bF,List.length_singleton]at hj;rcases az j B.length with h1|h1
 ·rw[List.getElem_append_left h1];exact h j h1
 ·obtain rfl:j=B.length:=by omega
  simpa using hy
theorem Fu{G:List Row}:∀(C:List (Row×Nat))(B:List (Row×Nat))(k:Nat),k≤B.length→Ind (B.map Prod.fst)→DG B→(∀x,x∈B→Mon x.2 x.1∧x.1.length=d)→(∀x,x∈B→Sp G (ent x.1))→
 (∀x,x∈C→Mon x.2 x.1∧x.1.length=d∧x.2≤k∧Sp G (ent x.1))→
 ∃B',Ind (B'.map Prod.fst)∧DG B'∧(∀x,x∈B'→Mon x.2 x.1∧x.1.length=d)∧(∀x,x∈B'→Sp G (ent x.1))∧(∀x,x∈B→x∈B')∧∀x,x∈C→Sp (B'.map Prod.fst) (ent x.1)
 |[],B,k,hk,h1,h2,h3,h4,h5=>⟨B,h1,h2,h3,h4,λx hx=>hx,λx hx=>by cases hx⟩
 |y::C,B,k,hk,h1,h2,h3,h4,h5=>by
  have hy:=h5 y (by simp);have hC:∀x,x∈C→Mon x.2 x.1∧x.1.length=d∧x.2≤k∧Sp G (ent x.1):=λx hx=>h5 x (by simp[hx]);by_cases hs:Sp (B.map Prod.fst) (ent y.1)
  ·obtain⟨B',g1,g2,g3,g4,g5,g6⟩:=Fu C B k hk h1 h2 h3 h4 hC;refine⟨B',g1,g2,g3,g4,g5,λx hx=>?_⟩;rcases bI.1 hx with rfl|hx
   ·exact sd (λr hr=>by
     obtain⟨q,hq,rfl⟩:=aW.1 hr;exact ax (g5 q hq)) hs
   ·exact g6 x hx
  ·obtain⟨B',g1,g2,g3,g4,g5,g6⟩:=Fu C (B++[y]) k (by simp;omega) (by rw[ak];exact H8 h1 hs) (U1 h2 (by omega)) (λx hx=>by
    rcases am.1 hx with hx|hx
    ·exact h3 x hx
    ·rw[bi]at hx;subst hx;exact⟨hy.1,hy.2.1⟩) (λx hx=>by
    rcases am.1 hx with hx|hx
    ·exact h4 x hx
    ·rw[bi]at hx;subst hx;exact hy.2.2.2) hC
   refine⟨B',g1,g2,g3,g4,λx hx=>g5 x (by simp[hx]),λx hx=>?_⟩;rcases bI.1 hx with rfl|hx
   ·exact n7 (ax (g5 _ (by simp)))
   ·exact g6 x hx
theorem Ye{B:List (Row×Nat)}(h:DG B){x:Row×Nat}(hx:x∈B):x.2+1≤B.length:=by
 obtain⟨j,hj,rfl⟩:=eA.1 hx;have:=h j hj;omega
theorem U9(h:GM g as d M){B:List (Row×Nat)}(hE:∀l,l∈E→l.length=d)(hF:RR' d (nx g as E) F)(hB:BS d E B):∃B',BS d F B':=by
 have hsub:∀x,x∈B→Sp F (ent x.1):=λx hx=>kA (λl hl=>hF.ei.sup l (b9 _ hl)) (hB.sub x hx);obtain⟨B',g1,g2,g3,g4,g5,g6⟩:=Fu (d:=d) (G:=F) (B.flatMap λx=>as.map λa=>(mr g a x.1,x.2+1)) B B.length (aD _) hB.ind hB.dg hB.mon hsub (λy hy=>by
  obtain⟨x,hx,hy⟩:=dU.1 hy;obtain⟨a,ha,rfl⟩:=aW.1 hy;obtain⟨hm,hl⟩:=hB.mon x hx;obtain⟨Da,Na,hel⟩:=h.el a ha;refine⟨W0 hel hm hl,h.gl.len,Ye hB.dg hx,?_⟩;show Sp F (ent (mr g a x.1));rw[h.gl.ent ha hl];refine kA (λq hq=>?_) (Uw h.gl ha hE (hB.sub x hx));obtain⟨l,hl,rfl⟩:=aW.1 hq;exact hF.ei.sup _ (cF _ (dU.2 ⟨l,hl,ax ha⟩)))
 refine⟨B',g1,g2,g3,g4,λl hl=>kA (λq hq=>?_) (hF.ei.sub l hl)⟩;have hBB:∀q,q∈B.map Prod.fst→q∈B'.map Prod.fst:=λq hq=>by
  obtain⟨x,hx,rfl⟩:=aW.1 hq;exact ax (g5 x hx)
 rcases am.1 hq with hq|hq
 ·exact sd hBB (hB.sup q hq)
 ·obtain⟨e,he,hq⟩:=dU.1 hq;obtain⟨a,ha,rfl⟩:=aW.1 hq;rw[h.gl.ent ha (hE e he)];refine kA (λq hq=>?_) (Uw h.gl ha (λl hl=>by
   obtain⟨x,hx,rfl⟩:=aW.1 hl;exact(hB.mon x hx).2) (hB.sup e he))
  obtain⟨y,hy,rfl⟩:=aW.1 hq;obtain⟨x,hx,rfl⟩:=aW.1 hy;exact g6 (mr g a x.1,x.2+1) (dU.2 ⟨x,hx,ax ha⟩)
theorem Gs(hm:g.length=d+1)(hd:1≤d):DF (sQ g) 0:=by
 have:iL g [1]=e8 (lst d (ent [1])):=by
  unfold iL;rw[show g.length-1=d by omega,show([1]:Row).length+1-g.length=0 by rw[hm];simp;omega];rfl
 refine⟨?_,λc hc=>by omega⟩;unfold sQ;rw[this,kM,aC (by omega),kB,kM,aC (by omega)];rfl
theorem Vm(h:GL' g as d):RR' d [sQ g] [sQ g]:=by
 have hl:=Gs h.hm h.hd;refine⟨⟨λl hl=>?_,λl hl=>n7 hl,λl hl=>n7 hl,⟨λe he=>?_,?_⟩⟩,z0P _ _⟩
 ·rw[bi]at hl;subst hl;rw[yq,h.hm];rfl
 ·obtain⟨q,hq,rfl⟩:=aW.1 he;rw[bi]at hq;subst hq;show DF (sQ g) (pvt (sQ g));rw[yk hl];exact hl
 ·exact z0P _ _
theorem y7(h:GL' g as d):stp g as 0=[sQ g]:=by
 show rr (g.length-1) [sQ g]=_;rw[show g.length-1=d by rw[h.hm];rfl];exact Ek (Vm h)
theorem Nw(h:GM g as d M):∀t,∃B,BS d (stp g as t) B
 |0=>by
  rw[y7 h.gl];have hl:=Gs h.gl.hm h.gl.hd;refine⟨[(sQ g,0)],?_,λj hj=>?_,λx hx=>?_,λx hx=>?_,λl hl=>n7 hl⟩
  ·show Ind ([]++[sQ g]);refine H8 Tz λhs=>?_;have:=Vb hs 0;rw[hl.1]at this;exact absurd this (by decide)
  ·have:j=0:=by simpa using hj
   subst this;exact aD _
  ·rw[bi]at hx;subst hx;exact⟨TW h.gl.hm h.gl.hd,by show(sQ g).length=d;rw[yq,h.gl.hm];rfl⟩
  ·rw[bi]at hx;subst hx;exact n7 (by simp)
 |t+1=>by
  obtain⟨B,hB⟩:=Nw h t;exact U9 h (Aq h.gl t) (Ea h.gl t) hB
end
section
variable {E F rows:List Row} {g a b r l f:Row} {c:Rat} {i p N d k n K e M:Nat} {v w:Vec} {as:List Row} {B:List (Row×Nat)} {P:List Nat}
theorem Pi:∀B:List (Row×Nat),(∀x,x∈B→Mon x.2 x.1)→∃L:List RB,L.map RB.v=(B.map Prod.fst).map ent∧(∀r,r∈L→r.ok∧r.D≠0)∧Lg ((B.map λx=>601*x.2+1).sum) (pN L)
 |[],_=>⟨[],rfl,(λr hr=>by cases hr),p7 (by decide)⟩
 |x::B,h=>by
  obtain⟨L,h1,h2,h3⟩:=Pi B λy hy=>h y (by simp[hy]);obtain⟨D,N,g0,g1,g2,g3⟩:=h x (by simp);refine⟨⟨ent x.1,D,N⟩::L,by simp only[bB,h1],λr hr=>?_,?_⟩
  ·rcases bI.1 hr with rfl|hr
   ·exact⟨g3,by show D≠0;omega⟩
   ·exact h2 r hr
  ·show Lg _ (N*pN L);rw[bB,eE];exact ew (iB g2 h3) (by omega)
def atP(P:List Nat)(r:Row):Row:=P.map (ent r)
def rq(P:List Nat)(r:RB):RB:=⟨λi=>match P[i]?with|some p=>r.v p|none=>0,r.D,r.N⟩
theorem BO:ent (atP P r) i=match P[i]?with|some p=>ent r p|none=>0:=by
 unfold atP ent;rw[aH,au];cases P[i]?<;>rfl
theorem OO{r:RB}(h:r.ok):(rq P r).ok:=λi=>by
 show Ht r.D r.N (match P[i]?with|some p=>r.v p|none=>0);cases P[i]?with
 |none=>exact nK rh (a9 _)
 |some p=>exact h p
theorem ON(L:List RB):pD (L.map (rq P))=pD L:=by
 induction L with
 |nil=>rfl
 |cons r L ih=>show r.D*pD (L.map (rq P))=r.D*pD L;rw[ih]
theorem OM(L:List RB):pN (L.map (rq P))=pN L:=by
 induction L with
 |nil=>rfl
 |cons r L ih=>show r.N*pN (L.map (rq P))=r.N*pN L;rw[ih]
theorem S5:∀{L:List RB}{rows:List Row},L.map RB.v=rows.map ent→(L.map (rq P)).map RB.v=(rows.map (atP P)).map ent
 |[],[],_=>rfl
 |[],r::rows,h=>by cases h
 |x::L,[],h=>by cases h
 |x::L,r::rows,h=>by
  simp only[bB,z14]at h;simp only[bB];rw[S5 h.2];congr 1;funext i;rw[BO,←h.1];rfl
theorem JN:∀(cs:List Rat)(rows:List Row)(i:Nat),lc cs (rows.map (atP P)) i=match P[i]?with|some p=>lc cs rows p|none=>0
 |[],rows,i=>by
  have h:∀(rs:List Row) j,lc [] rs j=0:=λrs j=>by cases rs<;>rfl
  rw[h];cases P[i]?with
  |none=>rfl
  |some p=>exact(h _ _).symm
 |c::cs,[],i=>by
  have h:∀j,lc (c::cs) [] j=0:=λj=>rfl;show(0:Rat)=_;cases P[i]?<;>rfl
 |c::cs,r::rows,i=>by
  show c*ent (atP P r) i+lc cs (rows.map (atP P)) i=_;rw[JN cs rows i,BO];cases P[i]?with
  |none=>show c*(0:Rat)+0=0;grind
  |some p=>rfl
theorem U0(h:DG B)(h5:B.length≤5):(B.map λx=>601*x.2+1).sum≤6015:=by
 have key:∀(B:List (Row×Nat))(k:Nat),(∀j(h:j<B.length),B[j].2≤k+j)→(B.map λx=>601*x.2+1).sum≤((List.range B.length).map λi=>601*(k+i)+1).sum:=by
  intro B
  induction B with
  |nil=>intro k _;exact aD _
  |cons x B ih=>
   intro k h;have h0:=h 0 (by simp);have h1:=ih (k+1) λj hj=>by
    have:=h (j+1) (by simpa using hj);have:B[j].2≤k+(j+1):=by simpa using this
    omega
   have h0:x.2≤k:=by simpa using h0
   rw[bB,eE,ay,List.range_succ_eq_map,bB,eE,cE];have e:(List.range B.length).map ((λi=>601*(k+i)+1)∘Nat.succ)=(List.range B.length).map λi=>601*(k+1+i)+1:=cN λi _=>by
    show 601*(k+(i+1))+1=_;omega
   rw[e];omega
 have h1:=key B 0 λj hj=>by have:=h j hj;omega
 have h2:∀n,n≤5→((List.range n).map λi=>601*(0+i)+1).sum≤6015:=by
  intro n hn
  match n,hn with
  |0,_=>decide
  |1,_=>decide
  |2,_=>decide
  |3,_=>decide
  |4,_=>decide
  |5,_=>decide
 exact bT h1 (h2 _ h5)
theorem UA(hB:BS d E B)(hE:RE' E):Ind ((B.map Prod.fst).map (atP (E.map pvt))):=by
 intro cs hl h0;refine hB.ind cs (by simpa using hl) λi=>?_;refine Ep hE (f:=lc cs (B.map Prod.fst)) (by
  rw[xp];refine kA (λr hr=>?_) (HQ cs (B.map Prod.fst));obtain⟨x,hx,rfl⟩:=aW.1 hr;exact hB.sub x hx) (λe he=>?_) i
 obtain⟨q,hq,rfl⟩:=aW.1 he;obtain⟨j,hj,rfl⟩:=eA.1 hq;have h1:=h0 j;rw[JN,au,aB hj]at h1;exact h1
theorem FZ:∀(ca:List Rat)(ra:List Row)(y:Rat)(rp:Row)(cb:List Rat)(rb:List Row),ca.length=ra.length→∀i,lc (ca++y::cb) (ra++rp::rb) i=lc ca ra i+y*ent rp i+lc cb rb i
 |[],[],y,rp,cb,rb,_,i=>by show y*ent rp i+lc cb rb i=0+y*ent rp i+lc cb rb i;grind
 |c::ca,s::ra,y,rp,cb,rb,h,i=>by
  show c*ent s i+lc (ca++y::cb) (ra++rp::rb) i=c*ent s i+lc ca ra i+y*ent rp i+lc cb rb i;rw[FZ ca ra y rp cb rb (by simpa using h) i];grind
theorem S4(hB:BS d E B)(hE:RE' E)(h5:B.length≤5){R:Row}(hR:R∈E):RH 6030 R:=by
 obtain⟨L,hL,hok,hpN⟩:=Pi B λx hx=>(hB.mon x hx).1;have hLl:L.length=B.length:=by have:=congrArg List.length hL;simpa using this
 have hsum:=U0 hB.dg h5;obtain⟨cs',hl',hne⟩:=QU _ (UA hB hE);rw[aI,aI]at hl';obtain⟨cs,hcl,hcs⟩:=OA (hB.sup R hR);rw[aI]at hcl;have hT:∀j,ent (atP (E.map pvt) R) j=0∨ent (atP (E.map pvt) R) j=1:=by
  intro j;rw[BO,au];cases hj:E[j]?with
  |none=>left;rfl
  |some q=>
   show ent R (pvt q)=0∨ent R (pvt q)=1;rw[O6 hE hR (bU hj)];split
   ·right;rfl
   ·left;rfl
 have hTc:∀j,ent (atP (E.map pvt) R) j=lc cs ((B.map Prod.fst).map (atP (E.map pvt))) j:=by
  intro j;rw[JN,BO];cases(E.map pvt)[j]?with
  |none=>rfl
  |some q=>exact hcs q
 generalize hΔ:dt cs' (((B.map Prod.fst).map (atP (E.map pvt))).map ent)=Δ at hne;have key:∀(Lb:List RB)(rb:List Row)(cb:List Rat)(La:List RB)(ra:List Row)(ca:List Rat),L=La++Lb→B.map Prod.fst=ra++rb→cs=ca++cb→La.length=ra.length→ca.length=ra.length→Lb.length=rb.length→cb.length=rb.length→La.map RB.v=ra.map ent→Lb.map RB.v=rb.map ent→
  ∀i,Ht (pD L) (Lb.length*(AF B.length*pN L)) (lc cb rb i*Δ):=by
  intro Lb
  induction Lb with
  |nil=>
   intro rb cb La ra ca _ _ _ _ _ h6 h7 _ _ i;have:rb=[]:=a8 h6.symm;subst this;have:cb=[]:=a8 h7;subst this;show Ht _ _ ((0:Rat)*Δ);rw[Rat.zero_mul];exact nK rh (a9 _)
  |cons q Lb ih=>
   intro rb cb La ra ca h1 h2 h3 h4 h5' h6 h7 h8 h9 i;cases rb with
   |nil=>cases h6
   |cons rp rb=>
    cases cb with
    |nil=>cases h7
    |cons c cb=>
     simp only[bB,z14]at h9;have hrest:=ih rb cb (La++[q]) (ra++[rp]) (ca++[c]) (by rw[h1];simp) (by rw[h2];simp) (by rw[h3];simp) (by simp[h4]) (by simp[h5']) (by simpa using h6) (by simpa using h7) (by simp[h8,h9.1]) h9.2 i;have hlen:La.length+Lb.length+1=B.length:=by rw[←hLl,h1];simp;omega
     have hr6:Lb.length=rb.length:=by simpa using h6
     have hcr:=XM (cs:=cs') (a:=ra.map (atP (E.map pvt))) (b:=rb.map (atP (E.map pvt))) (p:=atP (E.map pvt) rp) (T:=ent (atP (E.map pvt) R)) (y:=c) (by rw[aI,aI,hl'];omega) (by
      have g1:=pO (sd (B:=ra.map (atP (E.map pvt))++rb.map (atP (E.map pvt))) (λr hr=>b9 _ hr) (HQ ca (ra.map (atP (E.map pvt))))) (sd (λr hr=>cF _ hr) (HQ cb (rb.map (atP (E.map pvt))))) 1;refine g1.of λj=>?_;show _=ent (atP (E.map pvt) R) j-c*ent (atP (E.map pvt) rp) j;rw[hTc j,h3,h2,ak,bB,FZ ca _ c _ cb _ (by simp[h5'])];grind)
     have hdet:dt cs' ((ra.map (atP (E.map pvt))).map ent++ent (atP (E.map pvt) rp)::(rb.map (atP (E.map pvt))).map ent)=Δ:=by
      rw[←hΔ,h2,ak,bB,ak,bB]
     rw[hdet]at hcr;have hht:=Qs cs' (La.map (rq (E.map pvt))++⟨ent (atP (E.map pvt) R),1,1⟩::Lb.map (rq (E.map pvt))) (by simp;omega) (λr hr=>by
      rcases am.1 hr with hr|hr
      ·obtain⟨x,hx,rfl⟩:=aW.1 hr;exact OO (hok x (by rw[h1];simp[hx])).1
      ·rcases bI.1 hr with rfl|hr
       ·intro j;show Ht 1 1 (ent (atP (E.map pvt) R) j);rcases hT j with h0|h0
        ·rw[h0];exact nK rh (by decide)
        ·rw[h0];show IB 1 ((1:Rat)*((1:Nat):Rat));rw[z1H];exact F8 1
       ·obtain⟨x,hx,rfl⟩:=aW.1 hr;exact OO (hok x (by rw[h1];simp[hx])).1)
     rw[ak,bB,S5 h8,S5 h9.2,hcr,FI,FH]at hht;have eD:pD (La.map (rq (E.map pvt)))*pD ((⟨ent (atP (E.map pvt) R),1,1⟩:RB)::Lb.map (rq (E.map pvt)))=pD La*pD Lb:=by
      rw[ON];show pD La*(1*pD (Lb.map (rq (E.map pvt))))=_;rw[bE,ON]
     have eN:pN (La.map (rq (E.map pvt)))*pN ((⟨ent (atP (E.map pvt) R),1,1⟩:RB)::Lb.map (rq (E.map pvt)))=pN La*pN Lb:=by
      rw[OM];show pN La*(1*pN (Lb.map (rq (E.map pvt))))=_;rw[bE,OM]
     rw[eD,eN,hl']at hht;have hq:=(hok q (by rw[h1];simp)).1 i;rw[h9.1]at hq;have hm:=vq hht hq;have e1:pD La*pD Lb*q.D=pD L:=by
      rw[h1,FI];show _=pD La*(q.D*pD Lb);rw[aU,aK (pD Lb)]
     have e2:AF B.length*(pN La*pN Lb)*q.N=AF B.length*pN L:=by
      rw[h1,FH];show _=AF B.length*(pN La*(q.N*pN Lb));rw[aU,aU (pN La),aK (pN Lb)]
     rw[e1,e2]at hm;have hs:=QY hm hrest;have e3:AF B.length*pN L+Lb.length*(AF B.length*pN L)=(q::Lb).length*(AF B.length*pN L):=by
      rw[ay,aP,bE,ct]
     rw[e3]at hs;have e4:lc (c::cb) (rp::rb) i*Δ=c*Δ*ent rp i+lc cb rb i*Δ:=by
      show(c*ent rp i+lc cb rb i)*Δ=_;grind
     rw[e4];exact hs
 have hall:=key L (B.map Prod.fst) cs [] [] [] rfl rfl rfl rfl rfl (by simpa using hLl) (by simpa using hcl) rfl hL;have hdt:=Qs cs' (L.map (rq (E.map pvt))) (by simp;omega) (λr hr=>by
  obtain⟨x,hx,rfl⟩:=aW.1 hr;exact OO (hok x hx).1)
 rw[S5 hL,hΔ,ON,OM,hl']at hdt;have hpD:pD L≠0:=by
  have:∀l:List RB,(∀r,r∈l→r.D≠0)→pD l≠0:=by
   intro l
   induction l with
   |nil=>intro _;decide
   |cons r l ih=>
    intro h;exact z0H (h r (by simp)) (ih λx hx=>h x (by simp[hx]))
  exact this L λr hr=>(hok r hr).2
 obtain⟨A,hA,hA2⟩:=hdt;have hA0:A≠0:=by
  intro h0;rw[h0]at hA;rcases Rat.mul_eq_zero.1 hA with h|h
  ·exact hne h
  ·exact hpD (by exact_mod_cast h)
 have hfac:Lg 6 (AF B.length):=by
  refine p7 ?_;generalize B.length=m at h5 ⊢
  match m,h5 with
  |0,_=>decide
  |1,_=>decide
  |2,_=>decide
  |3,_=>decide
  |4,_=>decide
  |5,_=>decide
 have hFN:=iB hfac hpN;have hB5:Lg 2 B.length:=p7 (br h5 (by decide));refine⟨A.natAbs,B.length*(AF B.length*pN L),by omega,ew (p8 hFN hA2) (by omega),ew (iB hB5 hFN) (by omega),λi=>?_⟩;obtain⟨z,hz,hz2⟩:=hall i;rw[hLl]at hz2;rw[←hcs i]at hz;rcases Int.natAbs_eq A with h|h
 ·refine⟨z,?_,hz2⟩;rw[←hz];have:((A.natAbs:Nat):Rat)=(A:Rat):=by
   have:=congrArg (λx:Int=>(x:Rat)) h;exact this.symm
  rw[this,←hA];grind
 ·refine⟨-z,?_,by omega⟩;have:(A:Rat)= -((A.natAbs:Nat):Rat):=by
   have:=congrArg (λx:Int=>(x:Rat)) h;rw[z0G]at this;exact this
  rw[z0G,←hz,show((A.natAbs:Nat):Rat)= -(A:Rat) by rw[this];grind,←hA];grind
end
end
end Go.Proofs.Ev
