/- Long division; rows of fractions: elimination, solutions, their sizes. -/
import Derived.Test.YthljpappkomocaaGreatB0
import Derived.IntWalk
set_option linter.all false
namespace Go.Proofs.Ev
noncomputable section
section
variable {α:Type}
def Tr.v:Tr α→Option α
 |.nil=>none
 |.node v _ _=>v
def Tr.l:Tr α→Tr α
 |.nil=>.nil
 |.node _ l _=>l
def Tr.r:Tr α→Tr α
 |.nil=>.nil
 |.node _ _ r=>r
theorem EU(x:α):∀(k k':Nat)(n:Nat),n<k→n<k'→Tr.setF k .nil n x=Tr.setF k' .nil n x:=by
 intro k
 induction k with
 |zero=>intro k' n h;omega
 |succ k ih=>
  intro k' n h h';obtain⟨k',rfl⟩:∃j,k'=j+1:=⟨k'-1,by omega⟩
  simp only[Tr.setF];by_cases h0:n=0
  ·subst h0;rfl
  ·rw[show Nat.beq n 0=false from ON h0];by_cases h2:n%2=1
   ·rw[show Nat.beq (Nat.mod n 2) 1=true by show Nat.beq (n%2) 1=true;rw[h2];rfl];have:=ih k' (n/2) (by omega) (by omega);show Tr.node none (Tr.setF k .nil (n/2) x) .nil=Tr.node none (Tr.setF k' .nil (n/2) x) .nil;rw[this]
   ·rw[show Nat.beq (Nat.mod n 2) 1=false by(have:n%2=0:=by omega);show Nat.beq (n%2) 1=false;rw[this];rfl];have:=ih k' (n/2-1) (by omega) (by omega);show Tr.node none .nil (Tr.setF k .nil (n/2-1) x)=Tr.node none .nil (Tr.setF k' .nil (n/2-1) x);rw[this]
theorem yk(x:α)(t:Tr α)(n:Nat):Tr.ins x t n=if n=0 then .node (some x) t.l t.r else if n%2=1 then .node t.v (Tr.ins x t.l (n/2)) t.r else .node t.v t.l (Tr.ins x t.r (n/2-1)):=by
 by_cases h0:n=0
 ·subst h0;rw[aC rfl];cases t<;>rfl
 ·rw[aF h0];have hb:Nat.beq n 0=false:=ON h0;by_cases h2:n%2=1
  ·have h3:Nat.beq (Nat.mod n 2) 1=true:=by show Nat.beq (n%2) 1=true;rw[h2];rfl
   rw[aC h2];cases t with
   |nil=>
    show Tr.setF (Nat.succ n) .nil n x=.node none (Tr.setF (Nat.succ (n/2)) .nil (n/2) x) .nil;show cond (Nat.beq n 0) _ (cond (Nat.beq (Nat.mod n 2) 1) (Tr.node none (Tr.setF n .nil (n/2) x) .nil) _)=_;rw[hb,h3,EU x n (Nat.succ (n/2)) (n/2) (by omega) (by omega)];rfl
   |node v l r=>show cond (Nat.beq n 0) _ (cond (Nat.beq (Nat.mod n 2) 1) _ _)=_;rw[hb,h3];rfl
  ·have h3:Nat.beq (Nat.mod n 2) 1=false:=by
    have:n%2=0:=by omega
    show Nat.beq (n%2) 1=false;rw[this];rfl
   rw[aF h2];cases t with
   |nil=>
    show Tr.setF (Nat.succ n) .nil n x=.node none .nil (Tr.setF (Nat.succ (n/2-1)) .nil (n/2-1) x);show cond (Nat.beq n 0) _ (cond (Nat.beq (Nat.mod n 2) 1) _ (Tr.node none .nil (Tr.setF n .nil (n/2-1) x)))=_;rw[hb,h3,EU x n (Nat.succ (n/2-1)) (n/2-1) (by omega) (by omega)];rfl
   |node v l r=>show cond (Nat.beq n 0) _ (cond (Nat.beq (Nat.mod n 2) 1) _ _)=_;rw[hb,h3];rfl
theorem Ua(x y:α):∀(n:Nat)(t:Tr α),Tr.ins x (Tr.ins y t n) n=Tr.ins x t n:=by
 intro n
 induction n using Nat.strongRecOn with
 |ind n ih=>
  intro t;rw[yk x (Tr.ins y t n),yk y t n,yk x t n];by_cases h0:n=0
  ·simp only[h0,b9,Tr.l,Tr.r]
  ·simp only[h0,bx];by_cases h2:n%2=1
   ·simp only[h2,b9,Tr.l,Tr.r,Tr.v];rw[ih _ (by omega)]
   ·simp only[h2,bx,Tr.l,Tr.r,Tr.v];rw[ih _ (by omega)]
theorem RJ(x y:α):∀(n m:Nat)(t:Tr α),n≠m→Tr.ins x (Tr.ins y t n) m=Tr.ins y (Tr.ins x t m) n:=by
 intro n
 induction n using Nat.strongRecOn with
 |ind n ih=>
  intro m t hne;rw[yk x (Tr.ins y t n),yk y (Tr.ins x t m),yk y t n,yk x t m];by_cases h0:n=0
  ·have hm:¬m=0:=by omega
   simp only[h0,hm,b9,bx];by_cases h2:m%2=1
   ·simp only[h2,b9,Tr.l,Tr.r,Tr.v]
   ·simp only[h2,bx,Tr.l,Tr.r,Tr.v]
  ·simp only[h0,bx];by_cases hm:m=0
   ·simp only[hm,b9];by_cases h2:n%2=1
    ·simp only[h2,b9,Tr.l,Tr.r,Tr.v]
    ·simp only[h2,bx,Tr.l,Tr.r,Tr.v]
   ·simp only[hm,bx];by_cases h2:n%2=1
    ·by_cases h3:m%2=1
     ·simp only[h2,h3,b9,Tr.l,Tr.r,Tr.v];rw[ih (n/2) (by omega) (m/2) _ (by omega)]
     ·simp only[h2,h3,b9,bx,Tr.l,Tr.r,Tr.v]
    ·by_cases h3:m%2=1
     ·simp only[h2,h3,b9,bx,Tr.l,Tr.r,Tr.v]
     ·simp only[h2,h3,bx,Tr.l,Tr.r,Tr.v];rw[ih (n/2-1) (by omega) (m/2-1) _ (by omega)]
end
theorem Cs{α:Type}{P:List α→Prop}(h0:P [])(h1:∀l a,P l→P (l++[a]))(l:List α):P l:=by
 have:∀l:List α,P l.reverse:=λl=>by
  induction l with
  |nil=>exact h0
  |cons a l ih=>rw[List.reverse_cons];exact h1 _ _ ih
 rw[←List.reverse_reverse l];exact this _
def mem(bs:List Blk):LS:=bs.foldl LS.push s0
variable {bs:List Blk} {b:Blk} {l off len cm z i n m:Nat} {ex:Bool} {d:D} {kk k2:IntKind} {K:D→LS→Rs} {k:D→Rs}
theorem fw:mem []=s0:=rfl
theorem lU:(mem bs).push b=mem (bs++[b]):=by unfold mem;rw[dy];rfl
theorem jQ:∀(bs:List Blk),(mem bs).nx=bs.length:=by
 refine Cs rfl λbs c ih=>?_;rw[←lU,ay];show Nat.succ (mem bs).nx=_;rw[ih];rfl
theorem kj:∀(bs:List Blk)(l:Nat),(mem bs).get l=bs[l]?:=by
 refine Cs (λl=>?_) λbs c ih l=>?_
 ·unfold LS.get;rw[aF (by show ¬l<0;omega)];rfl
 ·rw[←lU,LS.get_push,jQ,ih];by_cases h:l=bs.length
  ·subst h;simp
  ·rw[aF h];by_cases h2:l<bs.length
   ·rw[bO h2]
   ·rw[bW (by omega),bW (by simp;omega)]
theorem UG:∀(bs:List Blk)(l:Nat)(b:Blk),l<bs.length→(mem bs).put l b=mem (bs.set l b):=by
 refine Cs (λl b h=>by simp at h) λbs c ih l b h=>?_
 ·rw[←lU];by_cases e:l=bs.length
  ·subst e;rw[cO _ _ (aE _),bt,d7,←lU];unfold LS.push LS.put;simp only[jQ];rw[Ua]
  ·have hl:l<bs.length:=by simp at h;omega
   rw[List.set_append_left _ _ hl,←lU,←ih l b hl];unfold LS.push LS.put;simp only[jQ];rw[RJ _ _ _ _ _ (by omega)]
theorem gg{F:Blk→Rs}(h:bs[l]?=some b):jL (mem bs) l F=F b:=by rw[pM,kj,h];rfl
theorem oj{F:LS→Rs}(h:l<bs.length):pL (mem bs) l b F=F (mem (bs.set l b)):=by rw[DC,UG _ _ _ h]
theorem kB{F:LS→Rs}:lP (mem bs) b F=F (mem (bs++[b])):=by rw[mH,lU]
theorem ef{α:Type}{l:List α}{i:Nat}{x:α}(h:l[i]?=some x):i<l.length:=(bE.1 h).1
theorem th{a b c:Rs}(h:a=b)(h':b=c):a=c:=h.trans h'
theorem fO{cs:List D}{s:LS}:ek (.tree cs n ex) s K=K (.i .i64 (.ofNat n)) s:=rfl
theorem Lk{s:LS}:ek (.sl l off n cm z ex) s K=K (.i .i64 (.ofNat n)) s:=rfl
theorem Ah(h:bs[l]?=some b:=by rfl)(hl:b.st.live=true:=by rfl)(hi:i<len:=by omega):eJ z (mem bs) (.sl l off len cm z ex) (.i k2 (.ofNat i)) K=K (.ptr l (off+i*z)) (mem bs):=vq (by rw[kj];exact h) hl hi
theorem v8{cs:List D}{s:LS}(hi:i<len:=by omega)(h:i*z<cs.length:=by omega):eJ z s (.tree cs len ex) (.i k2 (.ofNat i)) K=K (.fp (cs.drop (i*z))) s:=by
 show cnd (Nat.blt i len) (jN (Nat.mul i z) cs λr=>List.rec (motive:=λ_=>Rs) none (λ_ _ _=>K (.fp r) s) r) none=_;rw[ew hi,eL,gE];show List.rec (motive:=λ_=>Rs) none (λ_ _ _=>K (.fp (cs.drop (i*z))) s) (cs.drop (i*z))=_;rw[bu h]
theorem GC(h:bs[l]?=some b:=by rfl)(hl:b.st.live=true:=by rfl)(hd:b.cs[i]?=some d:=by rfl):eK (mem bs) (.ptr l i) K=K d (mem bs):=yf (by rw[kj];exact h) hl hd
theorem wQ{cs:List D}{s:LS}(hd:cs[i]?=some d):eK s (.fp (cs.drop i)) K=K d s:=by
 rw[nD hd];rfl
theorem ZA{cs:List D}{s:LS}(h:i+n≤cs.length):eT n s (.fp (cs.drop i)) K=K (.agg ((cs.drop i).take n)) s:=by
 show iw n (cs.drop i) (λr=>K (.agg r) s)=_;rw[gu,aC (by rw[dJ];omega)]
theorem N5(h:bs[l]?=some b:=by rfl)(hl:b.st.live=true:=by rfl)(hn:i+n≤b.cs.length:=by first|exact ah rfl|omega):eT n (mem bs) (.ptr l i) K=K (.agg ((b.cs.drop i).take n)) (mem bs):=by
 show jL (mem bs) l (λb=>cnd (lv b.st) (jN i b.cs λr=>iw n r λr=>K (.agg r) (mem bs)) none)=_;rw[gg h,rN,hl,eL,gE,gu,aC (by rw[dJ];omega)]
theorem py{t:Rs}:∀{l:List D},l.all one=true→qS l t=t
 |[],_=>rfl
 |d::l,h=>by
  simp only[cH,ai]at h;show on1 d (qS l t)=t;rw[py h.2];have:is1 d=true:=by cases d<;>first|rfl|(cases h.1;done)
  unfold on1;rw[this];rfl
theorem Gu{x:D}{new cs':List D}(h:bs[l]?=some b:=by rfl)(hw:b.st=.rw:=by rfl)(hx:kP x=new:=by rfl)(hn:new.length=n:=by rfl)(h1:new.all one=true:=by rfl)(hl:lay i new b.cs=some cs':=by rfl):
 eU n (mem bs) (.ptr l i) x K=K .u (mem (bs.set l ⟨cs',.rw⟩)):=by
 show jL (mem bs) l (λb=>cnd (wr b.st) (vcK x λnew=>cnd (Nat.beq new.length n) (qS new (v6 i new b.cs λcs=>pL (mem bs) l ⟨cs,.rw⟩ λs=>K .u s)) none) none)=_;rw[gg h,Bu,hw,show Stt.rw.wr=true from rfl,eL,wG,hx,hn,show Nat.beq n n=true from dV n,eL,py h1,nj,sS,hl];show pL _ _ _ _=_;rw[oj (ef h)]
theorem Dx{bytes sz:Nat}{zero:List D}(hz:zero.length=sz:=by rfl)(h1:n≤140737488355328:=by omega)(h2:n*bytes≤140737488355328:=by omega):
 ku sz bytes zero (mem bs) (.i .i64 (.ofNat n)) (.i .i64 (.ofNat n)) K=K (.sl bs.length 0 n n sz true) (mem (bs++[⟨oa n zero,.rw⟩])):=by
 unfold ku;rw[qL];show cnd (Nat.ble n n) (cnd (Nat.ble n 140737488355328) (cnd (Nat.ble (Nat.mul n bytes) 140737488355328) (cnd (Nat.beq zero.length sz) (vX zero n λcs=>lP (mem bs) ⟨cs,.rw⟩ λs'=>K (.sl (mem bs).nx 0 n n sz true) s') none) none) none) none=_;rw[aH (aE n),aH h1,aH (show Nat.mul n bytes≤140737488355328 from h2),hz,show Nat.beq sz sz=true from dV sz];simp only[eL];rw[qX,kB,jQ]
theorem OO{zero:List D}:gG zero (mem bs) K=K (.ptr bs.length 0) (mem (bs++[⟨zero,.rw⟩])):=by
 show lP (mem bs) ⟨zero,.rw⟩ (λs'=>K (.ptr (mem bs).nx 0) s')=_;rw[kB,jQ]
def pt:D→Bool
 |.own .. =>false
 |.tup (.own .. ::_)=>false
 |_=>true
theorem DK{s:LS}{r:D}(h:pt r=true):iz s [] r K=K r s:=by
 unfold iz;rw[kx];cases sW r with
 |true=>rfl
 |false=>
  show yF s r K=_;unfold yF;split
  ·cases h
  ·cases h
  ·rfl
theorem fF{M:List D→Option D}{as:List D}{s:LS}{r:D}(h:M as=some r)(ha:∀kk,mg (iX s fj) as kk=kk as []:=by intro kk;rfl)(hp:pt r=true:=by rfl):eS M as s K=K r s:=by
 unfold eS;rw[ha,h];exact DK hp
theorem xR{M:List D→Option D}{as cs:List D}{s:LS}(h:M as=some (.own cs n z))(ha:∀kk,mg (iX s fj) as kk=kk as []:=by intro kk;rfl):eS M as s K=K (.sl s.nx 0 n n z false) (s.push ⟨cs,.rw⟩):=by
 unfold eS;rw[ha,h];show lP s ⟨cs,.rw⟩ _=_;rw[mH]
end
end Go.Proofs.Ev
namespace Go.Proofs.Ev
noncomputable section
abbrev Q3:=Bool×Nat×Nat
def qD(q:Q3):List D:=[.b q.1,.n q.2.1,.n q.2.2]
def qs:List Q3→List D
 |[]=>[]
 |q::l=>.b q.1::.n q.2.1::.n q.2.2::qs l
theorem Fg:∀l:List Q3,(qs l).length=l.length*3
 |[]=>rfl
 |q::l=>by simp only[qs,bD,Fg l];omega
theorem xn:∀(a b:List Q3),qs (a++b)=qs a++qs b
 |[],b=>rfl
 |q::a,b=>by simp only[bv,qs,xn a b]
theorem B5:∀(l:List Q3)(i:Nat),(qs l).drop (i*3)=qs (l.drop i)
 |l,0=>by simp
 |[],i+1=>by simp[qs]
 |q::l,i+1=>by rw[show(i+1)*3=i*3+3 by omega];simp only[qs,z1c];exact B5 l i
theorem Ff:∀(l:List Q3)(i:Nat),(qs l).take (i*3)=qs (l.take i)
 |l,0=>by simp[qs]
 |[],i+1=>by simp[qs]
 |q::l,i+1=>by rw[show(i+1)*3=i*3+3 by omega];simp only[qs,z1b];rw[Ff l i]
theorem Wk{l:List Q3}{i:Nat}{q:Q3}(h:l[i]?=some q):((qs l).drop (i*3)).take 3=qD q:=by
 rw[B5,nD h];rfl
theorem JR{l:List Q3}{i:Nat}{q:Q3}(h:i<l.length):lay (i*3) (qD q) (qs l)=some (qs (l.set i q)):=by
 unfold lay;have:(qD q).length=3:=rfl;rw[aC (by rw[Fg,this];omega),z1p,aC h,xn,Ff,this,show i*3+3=(i+1)*3 by omega,B5,bV];rfl
theorem HR:∀n,oa n [.b false,.n 0,.n 0]=qs (List.replicate n (false,0,0))
 |0=>rfl
 |n+1=>by show[.b false,.n 0,.n 0]++oa n _=_;rw[HR n];rfl
theorem LH:∀l:List Q3,(qs l).all pY=true
 |[]=>rfl
 |q::l=>by simp only[qs,cH,pY,LH l,dI]
inductive AS (z:Nat) (bs:List Blk):D→List D→Nat→Prop
 |nil:AS z bs (.tree [] 0 true) [] 0
 |blk {l n:Nat} {cs:List D} (h:bs[l]?=some ⟨cs,.rw⟩) (hc:cs.length=n*z):AS z bs (.sl l 0 n n z false) cs n
variable {bs bs':List Blk} {l n m z bytes:Nat} {cs new zero:List D} {x X y:D} {K:D→LS→Rs}
def jg(X:D)(l:Nat):Prop:=∀o n m z e,X≠.sl l o n m z e
theorem Bp{k:List D→Nat→Rs}{b:Blk}{off cm:Nat}{ex:Bool}(h:bs[l]?=some b)(hl:b.st.live=true)(hc:off+n*z≤b.cs.length):nL z (mem bs) (.sl l off n cm z ex) k=k ((b.cs.drop off).take (n*z)) n:=by
 show jL (mem bs) l (λb=>cnd (lv b.st) (cnd (Nat.beq z z) (jN off b.cs λr=>iw (Nat.mul n z) r λr=>k r n) none) none)=_;rw[gg h,rN,hl,eL,show Nat.beq z z=true from dV z,eL,gE,gu,aC (by rw[dJ];show n*z≤_;omega)];rfl
theorem Bo{k:List D→Nat→Rs}{s:LS}{ex:Bool}(hc:cs.length=n*z):nL z s (.tree cs n ex) k=k cs n:=by
 show cnd (Nat.beq cs.length (n*z)) (k cs n) none=_;rw[hc,show Nat.beq (n*z) (n*z)=true from dV _];rfl
theorem S6(h:AS z bs X cs n)(hy:∀k:List D→Nat→Rs,nL z (mem bs) y k=k new m)(hm:new.length=m*z)(h1:new.all one=true)
 (hb:(n+m)*bytes≤1099511627776) (ht:n+m≤1099511627776):
 ∃bs' X',AS z bs' X' (cs++new) (n+m)∧(∀l b,jg X l→bs[l]?=some b→bs'[l]?=some b∧jg X' l)∧kJ z bytes (mem bs) X y K=K X' (mem bs'):=by
 cases h with
 |nil=>
  by_cases h0:m=0
  ·subst h0;have:new=[]:=by cases new with|nil=>rfl|cons=>simp at hm
   subst this;refine⟨bs,_,AS.nil,λl b ho hg=>⟨hg,ho⟩,?_⟩;show nL z (mem bs) y _=_;rw[hy];rfl
  ·refine⟨bs++[⟨new,.rw⟩],.sl bs.length 0 m m z false,by rw[aV,cI];exact AS.blk (by simp) hm,λl b ho hg=>⟨by rw[bO (ef hg)];exact hg,λo n m' z' e he=>?_⟩,?_⟩
   ·injection he with e1;have:=ef hg;omega
   ·show nL z (mem bs) y _=_;rw[hy];show cnd (Nat.beq m 0) _ (cnd true (cnd (Nat.beq 0 (Nat.mul 0 z)) (frc (Nat.add 0 m) λtot=>cnd (Nat.ble (Nat.mul tot bytes) 1099511627776) (cnd (Nat.ble tot 1099511627776) (ki [] new λcs=>lP (mem bs) ⟨cs,.rw⟩ λs'=>K (.sl (mem bs).nx 0 tot tot z false) s') none) none) none) none)=_;rw[gR h0,e9,eL,show Nat.mul 0 z=0 from bT z,show Nat.beq 0 0=true from rfl,eL,fB,show Nat.add 0 m=m from aV m,
     aH (show Nat.mul m bytes≤_ by have:=hb;rw[aV]at this;exact this),aH (show m≤_ by omega),eL,eL,gL,kB,jQ];rfl
 | @blk l _ _ hg hc=>
  have hlt:=ef hg;by_cases h0:m=0
  ·subst h0;have:new=[]:=by cases new with|nil=>rfl|cons=>simp at hm
   subst this;refine⟨bs.set l ⟨cs,.rw⟩,.sl l 0 n n z false,by rw[ba,bH];exact AS.blk (by rw[a7 hlt]) hc,λl' b ho hg'=>⟨?_,ho⟩,?_⟩
   ·by_cases e:l=l'
    ·subst e;rw[a7 hlt,←hg,hg'];
    ·rw[bU e];exact hg'
   ·show nL z (mem bs) y _=_;rw[hy];show jL (mem bs) l _=_;rw[gg hg];show cnd true (cnd (Nat.beq z z) (qS [] (frc (Nat.add n 0) λtot=>cnd (Nat.ble (Nat.mul tot bytes) 1099511627776) (cnd (Nat.ble tot 1099511627776) (cnd (Nat.ble tot n) (v6 (Nat.add 0 (Nat.mul n z)) [] cs λcs=>pL (mem bs) l ⟨cs,.rw⟩ λs=>K (.sl l 0 tot n z false) s) _) none) none)) none) none=_;rw[eL,show Nat.beq z z=true from dV z,eL,py rfl,fB,show Nat.add n 0=n from rfl,
     aH (show Nat.mul n bytes≤_ from hb),aH (show n≤_ from ht),aH (aE n),eL,eL,eL,nj]
    have:yc (Nat.add 0 (Nat.mul n z)) [] cs=some cs:=by
     unfold yc;rw[show Nat.add 0 (Nat.mul n z)=cs.length by rw[hc];exact aV _,aC (by simp)];simp
    rw[this];show pL _ _ _ _=_;rw[oj hlt]
  ·refine⟨(bs.set l ⟨[],.gone⟩)++[⟨cs++new,.rw⟩],.sl bs.length 0 (n+m) (n+m) z false,AS.blk (by rw[bJ (by simp)];simp) (by rw[ay,hc,hm,aS]),λl' b ho hg'=>⟨?_,λo n m' z' e he=>?_⟩,?_⟩
   ·have hne:l≠l':=λe=>ho 0 n n z false (by rw[e]);have:=ef hg';rw[bO (by simpa using this),bU hne];exact hg'
   ·injection he with e1;have:=ef hg';omega
   ·show nL z (mem bs) y _=_;rw[hy];show jL (mem bs) l _=_;rw[gg hg];show cnd true (cnd (Nat.beq z z) (qS new (frc (Nat.add n m) λtot=>cnd (Nat.ble (Nat.mul tot bytes) 1099511627776) (cnd (Nat.ble tot 1099511627776) (cnd (Nat.ble tot n) _ (jN 0 cs λr=>iw (Nat.mul n z) r λold=>ki old new λcs=>cnd false _ (pL (mem bs) l ⟨[],.gone⟩ λs'=>lP s' ⟨cs,.rw⟩ λs''=>K (.sl (mem bs).nx 0 tot tot z false) s''))) none) none)) none) none=_;rw[eL,show Nat.beq z z=true from dV z,eL,py h1,fB,
     aH (show Nat.mul (Nat.add n m) bytes≤_ from hb),aH (show Nat.add n m≤_ from ht),mY (show ¬Nat.add n m≤n by show ¬n+m≤n;omega),eL,eL,e9,gE,am,gu,
     aC (show Nat.mul n z≤cs.length by rw[hc];exact aE _),gL,e9,oj hlt,kB,jQ,aM (show cs.length≤Nat.mul n z by rw[hc];exact aE _)];rfl
theorem SM{x:D}{new:List D}(hz:zero.length=z)(hx:kP x=new)(hn:new.length=z)(h1:new.all one=true):ie 1 zero [(0,z,x)] (mem bs) K=K (.sl bs.length 0 1 1 z true) (mem (bs++[⟨new,.rw⟩])):=by
 show vX zero 1 (λcs=>vcK x λnw=>cnd (Nat.beq nw.length z) (qS nw (v6 0 nw cs λcs=>frc zero.length λz=>lP (mem bs) ⟨cs,.rw⟩ λs'=>K (.sl (mem bs).nx 0 1 1 z true) s')) none)=_;have hz1:oa 1 zero=zero:=by show zero++[]=_;simp
 rw[qX,hz1,wG,hx,hn,show Nat.beq z z=true from dV z,eL,py h1,nj];have:yc 0 new zero=some new:=by
  unfold yc;rw[aC (by omega)];simp[hn,hz]
 rw[this];rw[gN];rw[fB,kB,jQ,hz]
theorem ap1{x:D}{new:List D}(h:AS z bs X cs n)(hz:zero.length=z)(hx:kP x=new)(hn:new.length=z)(h1:new.all one=true)(hb:(n+1)*bytes≤1099511627776)(ht:n+1≤1099511627776):
 ∃bs' X',AS z bs' X' (cs++new) (n+1)∧(∀l b,jg X l→bs[l]?=some b→bs'[l]?=some b∧jg X' l)∧ie 1 zero [(0,z,x)] (mem bs) (λy s=>kJ z bytes s X y K)=K X' (mem bs'):=by
 have h':AS z (bs++[⟨new,.rw⟩]) X cs n:=by
  cases h with
  |nil=>exact AS.nil
  |blk hg hc=>exact AS.blk (by rw[bO (ef hg)];exact hg) hc
 obtain⟨bs',X',hA,hk,he⟩:=S6 (K:=K) (y:=.sl bs.length 0 1 1 z true) (new:=new) (m:=1) (bytes:=bytes) h' (λk=>by
  rw[Bp (b:=⟨new,.rw⟩) (by simp) rfl (by show 0+1*z≤new.length;omega)];show k ((new.drop 0).take (1*z)) 1=_;rw[am,aM (by omega)]) (by omega) h1 hb ht
 refine⟨bs',X',hA,λl b ho hg=>hk l b ho (by rw[bO (ef hg)];exact hg),?_⟩;rw[SM hz hx hn h1,he]
def Dis(X O:D):Prop:=∀l o n m z e,X=.sl l o n m z e→jg O l
inductive WS (z:Nat) (bs:List Blk):D→List D→Nat→Prop
 |nil {ex:Bool}:WS z bs (.tree [] 0 ex) [] 0
 |blk {l n cm:Nat} {ex:Bool} {cs:List D} (h:bs[l]?=some ⟨cs,.rw⟩) (hc:cs.length=n*z) (hm:n≤cm):WS z bs (.sl l 0 n cm z ex) cs n
theorem AS.ws{z n:Nat}{bs:List Blk}{X:D}{cs:List D}(h:AS z bs X cs n):WS z bs X cs n:=by
 cases h with
 |nil=>exact WS.nil
 |blk h hc=>exact WS.blk h hc (aE _)
theorem rg{z n:Nat}{bs:List Blk}{X:D}{cs:List D}(hA:WS z bs X cs n){K:D→LS→Rs}{s:LS}:ek X s K=K (.i .i64 (.ofNat n)) s:=by
 cases hA with
 |nil=>rfl
 |blk _ _ _=>rfl
theorem ic{z n:Nat}{bs:List Blk}{X:D}{cs:List D}(hA:WS z bs X cs n):cs.length=n*z:=by
 cases hA with
 |nil=>simp
 |blk _ h _=>exact h
theorem FR{z n:Nat}{bs bs':List Blk}{X O O':D}{cs:List D}(hA:WS z bs X cs n)(hd:Dis X O)(hk:∀l b,jg O l→bs[l]?=some b→bs'[l]?=some b∧jg O' l):WS z bs' X cs n∧Dis X O':=by
 cases hA with
 |nil=>exact⟨WS.nil,λl o n m z e h=>by cases h⟩
 |blk h hc hm=>
  have h1:=hk _ _ (hd _ _ _ _ _ _ rfl) h;exact⟨WS.blk h1.1 hc hm,λl o n m z e h=>by cases h;exact h1.2⟩
theorem yQ{z n:Nat}{bs bs':List Blk}{X O:D}{cs:List D}(hA:WS z bs X cs n)(hk:∀l b,bs[l]?=some b→bs'[l]?=some b∧jg O l):WS z bs' X cs n∧Dis X O:=by
 cases hA with
 |nil=>exact⟨WS.nil,λl o n m z e h=>by cases h⟩
 |blk h hc hm=>exact⟨WS.blk (hk _ _ h).1 hc hm,λl o n m z e he=>by cases he;exact(hk _ _ h).2⟩
end
end Go.Proofs.Ev
namespace Go.Proofs.Ev
noncomputable section
def vl(B:Nat):List Nat→Nat
 |[]=>0
 |w::ws=>w+B*vl B ws
def Sm(B:Nat)(ws:List Nat):Prop:=∀w,w∈ws→w<B
def Tm(ws:List Nat):Prop:=∀w,ws.getLast?=some w→w≠0
section
variable {B:Nat}
theorem ri:∀(a b:List Nat),vl B (a++b)=vl B a+B^a.length*vl B b
 |[],b=>by simp[vl]
 |w::a,b=>by
  show w+B*vl B (a++b)=w+B*vl B a+B^(a.length+1)*vl B b;rw[ri a b,bA,ax,aK (B^a.length) B,aa];omega
theorem uQ:∀{ws:List Nat},Sm B ws→vl B ws<B^ws.length
 |[],_=>by simp[vl]
 |w::ws,h=>by
  have h1:w<B:=h w (by simp);have h2:=uQ (λx hx=>h x (by simp[hx]):Sm B ws);show w+B*vl B ws<B^(ws.length+1);rw[ax,aK (B^ws.length)];have h3:B*(vl B ws+1)≤B*B^ws.length:=aT _ h2;rw[bA]at h3;omega
theorem zA:∀n,vl B (List.replicate n 0)=0
 |0=>rfl
 |n+1=>by show 0+B*vl B (List.replicate n 0)=0;rw[zA n];simp
theorem sK:∀{ws:List Nat}{i w:Nat}(y:Nat),ws[i]?=some w→vl B (ws.set i y)+w*B^i=vl B ws+y*B^i
 |[],i,w,y,h=>by simp at h
 |x::ws,0,w,y,h=>by
  have:x=w:=by simpa using h
  subst this;show y+B*vl B ws+x*B^0=x+B*vl B ws+y*B^0;simp;omega
 |x::ws,i+1,w,y,h=>by
  have ih:=sK (ws:=ws) (i:=i) y (by simpa using h);show x+B*vl B (ws.set i y)+w*B^(i+1)=x+B*vl B ws+y*B^(i+1);rw[ax,←aa,←aa,aK _ B,aK _ B];have e1:B*(vl B (ws.set i y)+w*B^i)=B*(vl B ws+y*B^i):=by rw[ih]
  rw[bA,bA]at e1;omega
theorem od{ws:List Nat}{i w:Nat}(h:Sm B ws)(hw:w<B):Sm B (ws.set i w):=λx hx=>by
 rcases z24 hx with h1|h1
 ·exact h x h1
 ·rw[h1];exact hw
theorem Iz{a b:List Nat}(ha:Sm B a)(hb:Sm B b):Sm B (a++b):=λx hx=>by
 rcases au.1 hx with h|h
 ·exact ha x h
 ·exact hb x h
theorem F0{w:Nat}(h:w<B):Sm B [w]:=λx hx=>by simp at hx;omega
theorem AT{n:Nat}(h:0<B):Sm B (List.replicate n 0):=λx hx=>by
 have:=dk hx;omega
theorem sN{ws:List Nat}{n:Nat}(h:Sm B ws):Sm B (ws.take n):=λx hx=>h x (br hx)
theorem TJ{ws:List Nat}{n:Nat}(h:Sm B ws):Sm B (ws.drop n):=λx hx=>h x (eE hx)
def lmF(B:Nat):Nat→Nat→List Nat
 |0,_=>[]
 |k+1,m=>if m=0 then[]else m%B::lmF B k (m/B)
def lm(B m:Nat):List Nat:=lmF B m m
theorem Fw(hB:2≤B):∀(k m:Nat),m≤k→vl B (lmF B k m)=m∧Sm B (lmF B k m)∧Tm (lmF B k m)∧(m=0→lmF B k m=[])∧(m≠0→lmF B k m≠[])
 |0,m,h=>by
  have:m=0:=by omega
  subst this;exact⟨rfl,(λx hx=>by simp[lmF]at hx),(λw hw=>by simp[lmF]at hw),λ_=>rfl,λh=>absurd rfl h⟩
 |k+1,m,h=>by
  unfold lmF;by_cases h0:m=0
  ·subst h0;rw[aC rfl];exact⟨rfl,(λx hx=>by simp at hx),(λw hw=>by simp at hw),λ_=>rfl,λh=>absurd rfl h⟩
  ·rw[aF h0];have hlt:m/B<m:=Nat.div_lt_self (by omega) hB;obtain⟨i1,i2,i3,i4,i5⟩:=Fw hB k (m/B) (by omega);refine⟨?_,?_,?_,λh=>absurd h h0,λ_=>by simp⟩
   ·show m%B+B*vl B _=m;rw[i1];exact dE m B
   ·intro x hx;rcases bK.1 hx with h|h
    ·rw[h];exact bc _ (by omega)
    ·exact i2 x h
   ·intro w hw;by_cases h1:m/B=0
    ·rw[i4 h1]at hw;have:m%B=w:=by simpa using hw
     have h2:=ce m B;rw[h1]at h2;omega
    ·have hne:=i5 h1;rw[List.getLast?_cons_of_ne_nil hne]at hw;exact i3 w hw
theorem vo(hB:2≤B)(m:Nat):vl B (lm B m)=m:=(Fw hB m m (aE _)).1
theorem yN(hB:2≤B)(m:Nat):Sm B (lm B m):=(Fw hB m m (aE _)).2.1
theorem Hl(hB:2≤B)(m:Nat):Tm (lm B m):=(Fw hB m m (aE _)).2.2.1
theorem yK{ws:List Nat}(h:Tm ws)(hne:ws≠[]):B^(ws.length-1)≤vl B ws:=by
 obtain⟨a,w,rfl⟩:∃a w,ws=a++[w]:=⟨ws.dropLast,ws.getLast hne,(dT hne).symm⟩
 have hw:w≠0:=h w (by simp);rw[ri];show _≤vl B a+B^a.length*(w+B*0);rw[ay];show B^(a.length+1-1)≤_;have:B^a.length*1≤B^a.length*w:=aT _ (by omega);rw[a8,dG,bH];omega
theorem Kh(hB:2≤B):∀{a b:List Nat},Sm B a→Sm B b→Tm a→Tm b→vl B a=vl B b→a=b
 |[],b,_,_,_,tb,h=>by
  cases b with
  |nil=>rfl
  |cons x b=>
   have:=yK (B:=B) tb (by simp);have h1:0<B^((x::b).length-1):=bN (by omega);have h2:vl B ([]:List Nat)=0:=rfl;omega
 |x::a,[],_,_,ta,_,h=>by
  have:=yK (B:=B) ta (by simp);have h1:0<B^((x::a).length-1):=bN (by omega);have h2:vl B ([]:List Nat)=0:=rfl;omega
 |x::a,y::b,sa,sb,ta,tb,h=>by
  have hx:x<B:=sa x (by simp);have hy:y<B:=sb y (by simp);have h':x+B*vl B a=y+B*vl B b:=h;have e1:x=y:=by
   have h1:(x+B*vl B a)%B=x:=by rw[cr,bL hx]
   have h2:(y+B*vl B b)%B=y:=by rw[cr,bL hy]
   rw[←h1,←h2,h']
  subst e1;have e2:vl B a=vl B b:=Nat.eq_of_mul_eq_mul_left (show 0<B by omega) (by omega);have ta':Tm a:=λw hw=>ta w (by cases a with|nil=>simp at hw|cons=>rw[z1m];exact hw);have tb':Tm b:=λw hw=>tb w (by cases b with|nil=>simp at hw|cons=>rw[z1m];exact hw);rw[Kh hB (λz hz=>sa z (by simp[hz])) (λz hz=>sb z (by simp[hz])) ta' tb' e2]
theorem ZB(hB:2≤B){ws:List Nat}(hs:Sm B ws)(ht:Tm ws):lm B (vl B ws)=ws:=Kh hB (yN hB _) hs (Hl hB _) ht (vo hB _)
end
theorem xl{bs:List Blk}{l n cm z:Nat}{ex:Bool}{cs:List D}(h:bs[l]?=some ⟨cs,.rw⟩)(hf:cs.all pY=true)(hn:n*z≤cs.length):
 eW true (mem bs) (.sl l 0 n cm z ex) some=some (.own (cs.take (n*z)) n z):=by
 unfold eW;rw[kx];show uO (mT true (mem bs).get fj (.sl l 0 n cm z ex)) some=_;have hcut:cut 0 (n*z) cs=some (cs.take (n*z)):=by
  unfold cut;rw[am,aC (by rw[aZ];omega)]
 have hm:gr (res (mem bs).get fj) (cs.take (n*z))=some (cs.take (n*z),[]):=jV (k:=59) _ (by
  rw[cg]at hf ⊢;exact λx hx=>hf x (br hx))
 have:mT true (mem bs).get fj (.sl l 0 n cm z ex)=some (.own (cs.take (n*z)) n z):=by
  simp only[mT,pu,kj,h,Stt.wr,b9,hcut,hm];rfl
 rw[this,gV];rfl
theorem zQ{s:LS}{own:Bool}:eW own s (.tree [] 0 true) some=some (.tree [] 0 true):=by cases own<;>rfl
theorem Qa{kk:IntKind}{a b:Int}{s:LS}{K:D→LS→Rs}:kS (.max (.c (.i kk a)) (.c (.i kk b))) s K=K (.i kk (if b>a then b else a)) s:=by
 have he:evA s.nx cv s.get (.max (.c (.i kk a)) (.c (.i kk b)))=some (.i kk (if b>a then b else a),[]):=by
  simp only[evA,cv,b9]
 unfold kS sA;rw[he];show zo _ _=_;rw[sV]
theorem Hf{kk:IntKind}{a b:Nat}{s:LS}{K:D→LS→Rs}:kS (.max (.c (.i kk (.ofNat a))) (.c (.i kk (.ofNat b)))) s K=K (.i kk (.ofNat (max a b))) s:=by
 rw[Qa];by_cases h:b>a
 ·rw[aC (by show(a:Int)<b;omega),z1y (by omega)]
 ·rw[aF (by show ¬(a:Int)<b;omega),Nat.max_eq_left (by omega)]
theorem nk{a b:Nat}{k:D→Rs}(h:¬b≤a)(hb:b<4611686018427387904):fA (.i .i64 (.ofNat a)) (.i .i64 (.ofNat b)) k=k (.i .i64 (.negSucc (b-a-1))):=by
 obtain⟨c,hc⟩:∃c,b=a+1+c:=⟨b-a-1,by omega⟩
 rw[show b-a-1=c by omega];unfold fA;rw[qL,mY h,e9,show Nat.beq (uw .i64) 0=true from rfl,eL];unfold fc;rw[show bin .sub (.i .i64 (.ofNat a)) (.i .i64 (.ofNat b))=some (.i .i64 (.negSucc c))from ?_,gV]
 ·rfl
 ·show some (D.i .i64 (IntKind.wrap .i64 ((Int.ofNat a)-(Int.ofNat b))))=_;have:(Int.ofNat a)-(Int.ofNat b)=.negSucc c:=by
   show(a:Int)-(b:Int)=.negSucc c;rw[dj];omega
  have hw:IntKind.wrap .i64 (.negSucc c)=.negSucc c:=IntWalk.i64_in _ (by rw[dj];omega);rw[this,hw]
theorem Qv{c b:Nat}{k:D→Rs}:kv (.i .i64 (.negSucc c)) (.i .i64 (.ofNat b)) k=k (.b false):=by
 show fc .gtr (.i .i64 (.negSucc c)) (.i .i64 (.ofNat b)) k=_;unfold fc;rw[gV];rfl
theorem ol{c b:Nat}{k:D→Rs}:kI (.i .i64 (.negSucc c)) (.i .i64 (.ofNat b)) k=k (.b false):=by
 show fc .geq (.i .i64 (.negSucc c)) (.i .i64 (.ofNat b)) k=_;unfold fc;rw[gV];show k (.b (decide (Int.ofNat b≤Int.negSucc c)))=_;rw[aN (by show ¬(b:Int)≤_;rw[dj];omega)]
theorem UH{a b:Nat}{s:LS}{K:D→LS→Rs}(ha:a<4611686018427387904)(hb:b<4611686018427387904):(fA (.i .i64 (.ofNat a)) (.i .i64 (.ofNat b)) λx=>kS (.max (.c (.i .i64 (.ofNat 0))) (.c x)) s K)=K (.i .i64 (.ofNat (a-b))) s:=by
 by_cases h:b≤a
 ·rw[oi h (by show a≤9223372036854775807;omega),Hf,z1y (a9 _)]
 ·rw[nk h hb,Qa,aF (by show ¬(0:Int)<.negSucc _;rw[dj];omega),show a-b=0 by omega]
section
variable {a b n:Nat} {k:D→Rs} {s:LS} {K:D→LS→Rs} {w:Bool} {op:(D→LS→Rs)→Rs} {l:List D}
theorem om{α:Type}{B:α}{A:α→Rs}:jn B A=A B:=rfl
theorem eo:eI (.b true) true op s K=op K:=rfl
theorem fg:eI (.b false) false op s K=op K:=rfl
theorem iC:eI (.b true) false op s K=K (.tup []) s:=rfl
theorem fX:eI (.b false) true op s K=K (.tup []) s:=rfl
theorem mS:eI (.tup l) w op s K=K (.tup []) s:=rfl
theorem fH(h:a+b<9223372036854775808:=by omega):eZ (.i .i64 (.ofNat a)) (.i .i64 (.ofNat b)) k=k (.i .i64 (.ofNat (a+b))):=oU (bZ h)
theorem gW(hb:b≤a:=by omega)(h:a<9223372036854775808:=by omega):fA (.i .i64 (.ofNat a)) (.i .i64 (.ofNat b)) k=k (.i .i64 (.ofNat (a-b))):=oi hb (bZ h)
theorem uT(h:a+b<18446744073709551616:=by omega):eZ (.i .u64 (.ofNat a)) (.i .u64 (.ofNat b)) k=k (.i .u64 (.ofNat (a+b))):=oU (bZ h)
theorem wv(hb:b≤a:=by omega)(h:a<18446744073709551616:=by omega):fA (.i .u64 (.ofNat a)) (.i .u64 (.ofNat b)) k=k (.i .u64 (.ofNat (a-b))):=oi hb (bZ h)
theorem Ce(h:a*b<18446744073709551616:=by omega):lW (.i .u64 (.ofNat a)) (.i .u64 (.ofNat b)) k=k (.i .u64 (.ofNat (a*b))):=ye (bZ h)
theorem LG(hb:b≠0:=by omega)(h:a<18446744073709551616:=by omega):vH (.i .u64 (.ofNat a)) (.i .u64 (.ofNat b)) k=k (.i .u64 (.ofNat (a/b))):=GD hb (bZ h)
theorem ZX(ha:a<18446744073709551616:=by omega)(hb:b<18446744073709551616:=by omega):v7 (.i .u64 (.ofNat a)) (.i .u64 (.ofNat b)) k=k (.i .u64 (.ofNat (a&&&b))):=by
 unfold v7 inK;rw[qL,aH (show a≤jp .u64 from bZ ha),aH (show b≤jp .u64 from bZ hb),eL,eL,fB];rfl
theorem BA(ha:a<18446744073709551616:=by omega):v7 (.i .u64 (.ofNat a)) (.i .u64 (.ofNat 4294967295)) k=k (.i .u64 (.ofNat (a%4294967296))):=by
 rw[ZX ha];rw[show a&&&4294967295=a%4294967296 from z1F a 32]
theorem CM:pG (.i .u64 (.ofNat a)) (.i .u64 (.ofNat 32)) k=k (.i .u64 (.ofNat (a/4294967296))):=uc (by omega)
theorem Y0(ha:a<4294967296:=by omega):wR (.i .u64 (.ofNat a)) (.i .u64 (.ofNat 32)) k=k (.i .u64 (.ofNat (a*4294967296))):=by
 rw[vS (by omega),bL (by show a*4294967296<_;omega)]
theorem fe(h:a<b:=by omega){kk:IntKind}:fN (.i kk (.ofNat a)) (.i kk (.ofNat b)) k=k (.b true):=by rw[kE,ew h]
theorem gA(h:¬a<b:=by omega){kk:IntKind}:fN (.i kk (.ofNat a)) (.i kk (.ofNat b)) k=k (.b false):=by rw[kE,fE h]
theorem nU(h:b<a:=by omega){kk:IntKind}:kv (.i kk (.ofNat a)) (.i kk (.ofNat b)) k=k (.b true):=by rw[oS,ew h]
theorem pX(h:¬b<a:=by omega){kk:IntKind}:kv (.i kk (.ofNat a)) (.i kk (.ofNat b)) k=k (.b false):=by rw[oS,fE h]
theorem qR(h:b≤a:=by omega){kk:IntKind}:kI (.i kk (.ofNat a)) (.i kk (.ofNat b)) k=k (.b true):=by rw[DF,aH h]
theorem zj(h:¬b≤a:=by omega){kk:IntKind}:kI (.i kk (.ofNat a)) (.i kk (.ofNat b)) k=k (.b false):=by rw[DF,mY h]
theorem oo(h:a=b:=by omega){kk:IntKind}:iB (.i kk (.ofNat a)) (.i kk (.ofNat b)) k=k (.b true):=by rw[rA,h,ei]
theorem sD(h:a≠b:=by omega){kk:IntKind}:iB (.i kk (.ofNat a)) (.i kk (.ofNat b)) k=k (.b false):=by rw[rA,gR h]
theorem rv(h:a≠b:=by omega){kk:IntKind}:nC (.i kk (.ofNat a)) (.i kk (.ofNat b)) k=k (.b true):=by rw[Ad,gR h];rfl
theorem pH(h:a=b:=by omega){kk:IntKind}:nC (.i kk (.ofNat a)) (.i kk (.ofNat b)) k=k (.b false):=by rw[Ad,h,ei];rfl
end
theorem Cn{s:LS}{j:Nat}{kk:List D→List Nat→Rs}:∀ws:List Nat,mg (iX s (j+1)) (c64 ws) kk=kk (c64 ws) []
 |[]=>rfl
 |w::ws=>by
  show(mg (iX s (j+1)) (c64 ws) λys b=>ki [] b λab=>kk (n64 w::ys) ab)=_;rw[Cn ws];rfl
theorem xw{M:List D→Option D}{X r:D}{bs:List Blk}{ws:List Nat}{n:Nat}{K:D→LS→Rs}(hA:WS 1 bs X (c64 ws) n)(h:∀ex,M [.tree (c64 ws) n ex]=some r)(hf:sW r=true):eS M [X] (mem bs) K=K r (mem bs):=by
 have key:∀(ex:Bool)(ls:List Nat),(ob (M [.tree (c64 ws) n ex]) λr=>iz (mem bs) ls r K)=K r (mem bs):=by
  intro ex ls;rw[h,gN];unfold iz;rw[kx,hf];rfl
 unfold eS;generalize hcs:c64 ws=cs at hA;cases hA with
 | @nil ex=>rw[←key ex []];rw[hcs];rfl
 | @blk l _ cm ex _ hg hc hm=>
  subst hcs;show(jL (mem bs) l λb=>cnd (lv b.st) (jN 0 b.cs λr=>iw (Nat.mul n 1) r λr=>mg (iX (mem bs) 59) r λcs ls=>my (cnd ex (Nat.beq cm n) false) λex=>ki (l::ls) [] λab=>ob (M [.tree cs n ex]) λr=>iz (mem bs) ab r K) none)=_;rw[gg hg];show(jN 0 (c64 ws) λr=>iw (Nat.mul n 1) r λr=>mg (iX (mem bs) 59) r λcs ls=>my (cnd ex (Nat.beq cm n) false) λex=>ki (l::ls) [] λab=>ob (M [.tree cs n ex]) λr=>iz (mem bs) ab r K)=_;rw[gE,am,gu,aC (by rw[hc];exact aE _),aM (by rw[hc];exact aE _),Cn,ij,gL];exact key _ _
theorem qk{X:D}{bs:List Blk}{ws:List Nat}{n i w:Nat}{K:D→LS→Rs}{kk:IntKind}(hA:WS 1 bs X (c64 ws) n)(hw:ws[i]?=some w):(eJ 1 (mem bs) X (.i kk (.ofNat i)) λa s=>eK s a K)=K (n64 w) (mem bs):=by
 have hc:=ic hA;rw[fT]at hc;have hi:=ef hw;generalize hcs:c64 ws=cs at hA;cases hA with
 |nil=>simp at hc;subst hc;simp at hw
 |blk hg hc' hm=>
  subst hcs;refine th (Ah hg rfl (by omega)) ?_;rw[aV,aj];exact GC hg rfl (ky hw)
theorem vc{X:D}{bs:List Blk}{ws:List Nat}{n i w:Nat}{K:D→LS→Rs}{kk:IntKind}(hA:WS 1 bs X (c64 ws) n)(hi:i<n):
 ∃bs',WS 1 bs' X (c64 (ws.set i w)) n∧(∀l b,jg X l→bs[l]?=some b→bs'[l]?=some b∧jg X l)∧(∀Y z cs m,WS z bs Y cs m→Dis Y X→WS z bs' Y cs m)∧(eJ 1 (mem bs) X (.i kk (.ofNat i)) λa s=>eU 1 s a (n64 w) K)=K .u (mem bs'):=by
 have hc:=ic hA;rw[fT]at hc;generalize hcs:c64 ws=cs at hA;cases hA with
 |nil=>omega
 | @blk l _ cm ex _ hg hc' hm=>
  subst hcs;have hlt:=ef hg;have hl:lay i (c64 [w]) (c64 ws)=some (c64 (ws.set i w)):=by
   rw[←sS,show c64 [w]=[D.i .u64 (.ofNat w)]from rfl,xK (by rw[fT];omega),w8]
  have hk:∀l' b,jg (.sl l 0 n cm 1 ex) l'→bs[l']?=some b→(bs.set l ⟨c64 (ws.set i w),.rw⟩)[l']?=some b:=λl' b ho hg'=>by
   rw[bU (λe=>ho 0 n cm 1 ex (by rw[e]))];exact hg'
  refine⟨bs.set l ⟨c64 (ws.set i w),.rw⟩,WS.blk (by rw[a7 hlt]) (by rw[fT,bB];omega) hm,λl' b ho hg'=>⟨hk l' b ho hg',ho⟩,λY z cs m hY hd=>?_,?_⟩
  ·cases hY with
   |nil=>exact WS.nil
   |blk h hc hm=>exact WS.blk (hk _ _ (hd _ _ _ _ _ _ rfl) h) hc hm
  ·refine th (Ah hg rfl hi) ?_;rw[aV,aj];exact Gu hg rfl (hx:=rfl) (hn:=rfl) (h1:=rfl) (hl:=hl)
def dgt(ws:List Nat)(i:Nat):Nat:=ws.getD i 0
theorem jY{B:Nat}{ws:List Nat}(h:Sm B ws)(hB:0<B)(i:Nat):dgt ws i<B:=by
 unfold dgt;rw[aD];cases hw:ws[i]?with
 |none=>exact hB
 |some w=>exact h w (bY hw)
theorem qY{B:Nat}(ws:List Nat)(i:Nat):vl B (ws.drop i)=dgt ws i+B*vl B (ws.drop (i+1)):=by
 by_cases h:i<ws.length
 ·rw[bu h];unfold dgt;rw[aD,aB h];rfl
 ·rw[bf (by omega),bf (by omega)];unfold dgt;rw[aD,bW (by omega)];simp[vl]
theorem W9{X:D}{bs:List Blk}{ws:List Nat}{n j:Nat}{F:D→List Nat→Rs}{r:Rs}(hA:WS 1 bs X (c64 ws) n)(h:∀ex ls,F (.tree (c64 ws) n ex) ls=r):iX (mem bs) (j+2) X F=r:=by
 generalize hcs:c64 ws=cs at hA;cases hA with
 | @nil ex=>rw[←h ex []];rw[hcs];rfl
 | @blk l _ cm ex _ hg hc hm=>
  subst hcs;show(jL (mem bs) l λb=>cnd (lv b.st) (jN 0 b.cs λr=>iw (Nat.mul n 1) r λr=>mg (iX (mem bs) (j+1)) r λcs ls=>my (cnd ex (Nat.beq cm n) false) λex=>F (.tree cs n ex) (l::ls)) none)=_;rw[gg hg];show(jN 0 (c64 ws) λr=>iw (Nat.mul n 1) r λr=>mg (iX (mem bs) (j+1)) r λcs ls=>my (cnd ex (Nat.beq cm n) false) λex=>F (.tree cs n ex) (l::ls))=_;rw[gE,am,gu,aC (by rw[hc];exact aE _),aM (by rw[hc];exact aE _),Cn,ij];exact h _ _
theorem Ly{M:List D→Option D}{X Y r:D}{bs:List Blk}{ws ys:List Nat}{n m k:Nat}{kk:IntKind}{K:D→LS→Rs}(hA:WS 1 bs X (c64 ws) n)(hY:WS 1 bs Y (c64 ys) m)(hk:k<n)(h:∀ex ex',M [.tree (c64 (ws.drop k)) (n-k) ex,.tree (c64 ys) m ex']=some r)(hf:sW r=true):
 (kn 1 (mem bs) X (some (.i kk (.ofNat k))) none none λx s=>eS M [x,Y] s K)=K r (mem bs):=by
 generalize hcs:c64 ws=cs at hA;cases hA with
 |nil=>omega
 | @blk l _ cm ex _ hg hc hm=>
  subst hcs;show(jL (mem bs) l λb=>cnd (lv b.st) (cnd (Nat.ble cm cm) (cnd (Nat.ble n cm) (cnd (Nat.ble k n) (cnd (Nat.beq 1 1) (my (cnd false true ex) λex=>cnd (Nat.blt k cm) (frc (Nat.add 0 (Nat.mul k 1)) λoff=>frc (Nat.sub n k) λlen=>frc (Nat.sub cm k) λcm=>eS M [.sl l off len cm 1 ex,Y] (mem bs) K) (eS M [.tree [] 0 ex,Y] (mem bs) K)) none) none) none) none) none)=_;rw[gg hg];show(cnd (Nat.ble cm cm) (cnd (Nat.ble n cm) (cnd (Nat.ble k n) (cnd (Nat.beq 1 1) (my ex λex=>cnd (Nat.blt k cm) (frc (Nat.add 0 (Nat.mul k 1)) λoff=>frc (Nat.sub n k) λlen=>frc (Nat.sub cm k) λcm=>eS M [.sl l off len cm 1 ex,Y] (mem bs) K) (eS M [.tree [] 0 ex,Y] (mem bs) K)) none) none) none) none)=_;rw[aH (aE cm),aH hm,aH (dO hk),show Nat.beq 1 1=true from rfl,eL,eL,eL,eL,ij,ew (by omega),eL,fB,fB,fB];have e1:Nat.add 0 (Nat.mul k 1)=k:=by show 0+k*1=k;omega
  rw[e1];show(jL (mem bs) l λb=>cnd (lv b.st) (jN k b.cs λr=>iw (Nat.mul (n-k) 1) r λr=>mg (iX (mem bs) 59) r λcs ls=>my (cnd ex (Nat.beq (Nat.sub cm k) (n-k)) false) λex=>iX (mem bs) 60 Y λy ls'=>ki ls' [] λab=>ki (l::ls) ab λab=>ob (M [.tree cs (n-k) ex,y]) λr=>iz (mem bs) ab r K) none)=_;rw[gg hg];show(jN k (c64 ws) λr=>iw (Nat.mul (n-k) 1) r λr=>mg (iX (mem bs) 59) r λcs ls=>my (cnd ex (Nat.beq (Nat.sub cm k) (n-k)) false) λex=>iX (mem bs) 60 Y λy ls'=>ki ls' [] λab=>ki (l::ls) ab λab=>ob (M [.tree cs (n-k) ex,y]) λr=>iz (mem bs) ab r K)=_;have e2:(c64 ws).drop k=c64 (ws.drop k):=by unfold c64;rw[List.map_drop]
  rw[gE,e2,gu];rw[fT]at hc;rw[aC (by rw[fT,dJ];show(n-k)*1≤_;omega),aM (by rw[fT,dJ];show _≤(n-k)*1;omega),Cn,ij];refine W9 hY λex' ls=>?_;rw[gL,gL,h,gN];unfold iz;rw[kx,hf];rfl
abbrev B32:Nat:=4294967296
def sz1(x:Nat)(k:Rs):Rs:=cnd (Nat.ble (Nat.log2 x) 1000000000) k none
def Aa(m:Nat):Rs:=cnd (Nat.beq m 0) (some (.tree [] 0 true)) (some (.own (c64 (lm B32 m)) (lm B32 m).length 1))
def qN(as:List D):Option D:=u1 as λa r=>u0 r (og a λm=>sz1 m (Aa m))
def Ds(d:D):Option Nat:=match d with
 |.i .u64 (.ofNat w)=>if w<B32 then some w else none
 |_=>none
def rf(as:List D):Option D:=match as with
 |[.tree cs n _]=>match cs.mapM Ds with
  |some ws=>if ws.length=n∧n≤100000000000 then some (.n (vl B32 ws))else none
  |none=>none
 |_=>none
def uD(as:List D):Option D:=match as with
 |[.tree cs n _,.tree ds m _]=>match cs.mapM Ds,ds.mapM Ds with
  |some xs,some ys=>if xs.length=n∧ys.length=m∧n≤100000000000∧m≤100000000000∧ys.getLast?≠some 0 then some (.b (Nat.blt (vl B32 xs) (vl B32 ys)))else none
  |_,_=>none
 |_=>none
def two(as:List D)(k:Nat→Nat→Rs):Rs:=u1 as λa r=>u1 r λb r=>u0 r (og a λx=>og b λy=>sz1 x (sz1 y (k x y)))
def yu(as:List D):Option D:=two as λx y=>frc (Nat.add x y) λz=>some (.n z)
def wI(as:List D):Option D:=two as λx y=>frc (Nat.sub x y) λz=>some (.n z)
def y5(as:List D):Option D:=two as λx y=>frc (Nat.mul x y) λz=>some (.n z)
def oq(as:List D):Option D:=two as λx y=>cnd (Nat.beq y 0) (some (.tup [.n 0,.n 0])) (frc (Nat.div x y) λq=>frc (Nat.mod x y) λr=>some (.tup [.n q,.n r]))
def wW(as:List D):Option D:=two as λx y=>frc (Nat.gcd x y) λz=>some (.n z)
set_option maxRecDepth 1000000
set_option maxHeartbeats 0
def mZ(φ:Nat)(q11:D→D→D→LS→Rs)(x12 x13 x14:D)(s:LS):Rs:=(
 kI x14 (.i .i64 (.ofNat 0)) λx15=>
 eQ x15
(eJ 1 s x12 x14 λx16 s=>
 eK s x16 λx17 s=>
 eJ 1 s x13 x14 λx18 s=>
 eK s x18 λx19 s=>
 nC x17 x19 λx20=>
 eQ x20
(eJ 1 s x12 x14 λx21 s=>
 eK s x21 λx22 s=>
 eJ 1 s x13 x14 λx23 s=>
 eK s x23 λx24 s=>
 fN x22 x24 λx25=>
 eQ x25
(eW false s (.i .i64 (.negSucc 0)) some)
(eW false s (.i .i64 (.ofNat 1)) some))
(fA x14 (.i .i64 (.ofNat 1)) λx26=>
 q11 x12 x13 x26 s))
(eW false s (.i .i64 (.ofNat 0)) some))
def uF(φ:Nat):List D→Option D:=
λas=>
(λ(s:LS)=>
 u1 as λa1 r27=>
 u1 r27 λa2 r28=>
 u0 r28 (
 ek a1 s λx3 s=>
 ek a2 s λx4 s=>
 nC x3 x4 λx5=>
 eQ x5
(ek a1 s λx6 s=>
 ek a2 s λx7 s=>
 fN x6 x7 λx8=>
 eQ x8
(eW false s (.i .i64 (.negSucc 0)) some)
(eW false s (.i .i64 (.ofNat 1)) some))
(ek a1 s λx9 s=>
 fA x9 (.i .i64 (.ofNat 1)) λx10=>
 lp (λ(_ _ _:D)(_:LS)=>none) (mZ φ) φ a1 a2 x10 s))) s0
theorem wE:ii=uF:=rfl
def qU(φ:Nat)(j46:D→D→D→D→D→D→LS→Rs)(q60:D→D→D→D→D→D→D→D→D→LS→Rs)(x61 x62 x63 x64 x65 x66 x67 x68 x69:D)(s:LS):Rs:=(
 kI x69 (.i .u64 (.ofNat 4294967296)) λx70=>
 eI x70 false (λk=>k x69 s) s λx71 s=>
 eI x70 false (λk=>k x64 s) s λx72 s=>
 eI x70 false (λk=>lW x71 x72 λd=>k d s) s λx73 s=>
 eI x70 false (λk=>k x67 s) s λx74 s=>
 eI x70 false (λk=>lW (.i .u64 (.ofNat 4294967296)) x74 λd=>k d s) s λx75 s=>
 eI x70 false (λk=>k x65 s) s λx76 s=>
 eI x70 false (λk=>eZ x75 x76 λd=>k d s) s λx77 s=>
 eI x70 false (λk=>kv x73 x77 λd=>k d s) s λx78 s=>
 fY x70 (.b true) x78 s λx79 s=>
 eQ x79
(fA x69 (.i .u64 (.ofNat 1)) λx80=>
 eZ x67 x63 λx81=>
 kI x81 (.i .u64 (.ofNat 4294967296)) λx82=>
 eQ x82
(j46 x61 x62 x65 x66 x68 x80 s)
(q60 x61 x62 x63 x64 x65 x66 x81 x68 x80 s))
(j46 x61 x62 x65 x66 x68 x69 s))
def qT(φ:Nat)(j30:D→D→D→D→D→D→D→D→LS→Rs)(q83:D→D→D→D→D→D→D→D→D→LS→Rs)(x84 x85 x86 x87 x88 x89 x90 x91 x92:D)(s:LS):Rs:=(
 kI x91 (.i .u64 (.ofNat 4294967296)) λx93=>
 eI x93 false (λk=>k x91 s) s λx94 s=>
 eI x93 false (λk=>k x87 s) s λx95 s=>
 eI x93 false (λk=>lW x94 x95 λd=>k d s) s λx96 s=>
 eI x93 false (λk=>k x92 s) s λx97 s=>
 eI x93 false (λk=>lW (.i .u64 (.ofNat 4294967296)) x97 λd=>k d s) s λx98 s=>
 eI x93 false (λk=>k x89 s) s λx99 s=>
 eI x93 false (λk=>eZ x98 x99 λd=>k d s) s λx100 s=>
 eI x93 false (λk=>kv x96 x100 λd=>k d s) s λx101 s=>
 fY x93 (.b true) x101 s λx102 s=>
 eQ x102
(fA x91 (.i .u64 (.ofNat 1)) λx103=>
 eZ x92 x86 λx104=>
 kI x104 (.i .u64 (.ofNat 4294967296)) λx105=>
 eQ x105
(j30 x84 x85 x86 x87 x88 x89 x90 x103 s)
(q83 x84 x85 x86 x87 x88 x89 x90 x103 x104 s))
(j30 x84 x85 x86 x87 x88 x89 x90 x91 s))
def vW(φ:Nat):List D→Option D:=
λas=>
(λ(s:LS)=>
 u1 as λa1 r110=>
 u1 r110 λa2 r111=>
 u1 r111 λa3 r112=>
 u0 r112 (
 jn (λ(x5 x6 x7:D)(s:LS)=>
 jn (λ(x9 x10 x11:D)(s:LS)=>
 iB x9 (.i .u64 (.ofNat 0)) λx12=>
 eQ x12
(vH x10 x11 λx13=>
 Jo x10 x11 λx14=>
 eW false s (.tup [x13,x14]) some)
(eS (gU φ) [x11] s λx15 s=>
 lr .u64 x15 s λx16 s=>
 wR x11 x16 λx17=>
 pG x17 (.i .u64 (.ofNat 32)) λx18=>
 v7 x17 (.i .u64 (.ofNat 4294967295)) λx19=>
 wR x9 x16 λx20=>
 fA (.i .u64 (.ofNat 64)) x16 λx21=>
 pG x10 x21 λx22=>
 kOr x20 x22 λx23=>
 wR x10 x16 λx24=>
 pG x24 (.i .u64 (.ofNat 32)) λx25=>
 v7 x24 (.i .u64 (.ofNat 4294967295)) λx26=>
 vH x23 x18 λx27=>
 lW x27 x18 λx28=>
 fA x23 x28 λx29=>
 jn (λ(x31 x32 x33 x34 x35 x36 x37 x38:D)(s:LS)=>
 lW x35 (.i .u64 (.ofNat 4294967296)) λx39=>
 eZ x39 x36 λx40=>
 lW x38 x31 λx41=>
 fA x40 x41 λx42=>
 vH x42 x33 λx43=>
 lW x43 x33 λx44=>
 fA x42 x44 λx45=>
 jn (λ(x47 x48 x49 x50 x51 x52:D)(s:LS)=>
 lW x50 (.i .u64 (.ofNat 4294967296)) λx53=>
 eZ x53 x52 λx54=>
 lW x51 (.i .u64 (.ofNat 4294967296)) λx55=>
 eZ x55 x49 λx56=>
 lW x52 x47 λx57=>
 fA x56 x57 λx58=>
 pG x58 x48 λx59=>
 eW false s (.tup [x54,x59]) some) λj46=>
 lp (λ(_ _ _ _ _ _ _ _ _:D)(_:LS)=>none) (qU φ j46) φ x31 x32 x33 x34 x37 x38 x45 x42 x43 s) λj30=>
 lp (λ(_ _ _ _ _ _ _ _ _:D)(_:LS)=>none) (qT φ j30) φ x17 x16 x18 x19 x23 x25 x26 x27 x29 s)) λj8=>
 wm x7 x5 λx106=>
 eQ x106
(eK s .u λx107 s=>
 none)
(j8 x5 x6 x7 s)) λj4=>
 iB a3 (.i .u64 (.ofNat 0)) λx108=>
 eQ x108
(eK s .u λx109 s=>
 none)
(j4 a1 a2 a3 s))) s0
theorem xf:gh=vW:=rfl
def ik(φ:Nat)(q7:D→D→D→D→D→LS→Rs)(x8 x9 x10 x11 x12:D)(s:LS):Rs:=(
 fN x12 x11 λx13=>
 eQ x13
(jn (λ(x15 x16 x17 x18 x19:D)(s:LS)=>
 eZ x19 (.i .i64 (.ofNat 1)) λx20=>
 q7 x15 x16 x17 x18 x20 s) λj14=>
 eJ 1 s x10 x12 λx21 s=>
 eK s x21 λx22 s=>
 eJ 1 s x9 x12 λx23 s=>
 eK s x23 λx24 s=>
 wR x22 x8 λx25=>
 kOr x24 x25 λx26=>
 eJ 1 s x9 x12 λx27 s=>
 eU 1 s x27 x26 λ_ s=>
 kv x8 (.i .i64 (.ofNat 0)) λx28=>
 eQ x28
(eZ x12 (.i .i64 (.ofNat 1)) λx29=>
 fA (.i .i64 (.ofNat 64)) x8 λx30=>
 pG x22 x30 λx31=>
 eJ 1 s x9 x29 λx32 s=>
 eU 1 s x32 x31 λ_ s=>
 j14 x8 x9 x10 x11 x12 s)
(j14 x8 x9 x10 x11 x12 s))
(eW true s x9 some))
def wk(φ:Nat):List D→Option D:=
λas=>
(λ(s:LS)=>
 u1 as λa1 r33=>
 u1 r33 λa2 r34=>
 u0 r34 (
 ek a1 s λx3 s=>
 eZ x3 (.i .i64 (.ofNat 1)) λx4=>
 ku 1 8 [(.i .u64 (.ofNat 0))] s x4 x4 λx5 s=>
 ek a1 s λx6 s=>
 lp (λ(_ _ _ _ _:D)(_:LS)=>none) (ik φ) φ a2 x5 a1 x6 (.i .i64 (.ofNat 0)) s)) s0
theorem yx:lQ=wk:=rfl
def pZ(φ:Nat)(kk:D→LS→Rs)(q49:D→D→D→D→D→D→D→LS→Rs)(x50 x51 x52 x53 x54 x55 x56:D)(s:LS):Rs:=(
 fN x56 x55 λx57=>
 eQ x57
(eJ 1 s x50 x56 λx58 s=>
 eK s x58 λx59 s=>
 eJ 1 s x51 x56 λx60 s=>
 eK s x60 λx61 s=>
 oV x59 x61 x54 s λx62 s=>
 fh x62 0 s λx63 s=>
 fh x62 1 s λx64 s=>
 eJ 1 s x50 x56 λx65 s=>
 eU 1 s x65 x63 λ_ s=>
 eZ x56 (.i .i64 (.ofNat 1)) λx66=>
 q49 x50 x51 x52 x53 x64 x55 x66 s)
(eJ 1 s x50 x52 λx67 s=>
 eK s x67 λx68 s=>
 eZ x68 x54 λx69=>
 eJ 1 s x50 x52 λx70 s=>
 eU 1 s x70 x69 λ_ s=>
 fA x53 (.i .u64 (.ofNat 1)) λx71=>
 kk x71 s))
def iy(φ:Nat)(kk:D→LS→Rs)(q16:D→D→D→D→D→D→D→D→LS→Rs)(x17 x18 x19 x20 x21 x22 x23 x24:D)(s:LS):Rs:=(
 fN x24 x23 λx25=>
 eQ x25
(eJ 1 s x18 x24 λx26 s=>
 eK s x26 λx27 s=>
 eS uL [x20,x27] s λx28 s=>
 fh x28 0 s λx29 s=>
 fh x28 1 s λx30 s=>
 oV x30 x22 (.i .u64 (.ofNat 0)) s λx31 s=>
 fh x31 0 s λx32 s=>
 fh x31 1 s λx33 s=>
 eZ x29 x33 λx34=>
 eJ 1 s x17 x24 λx35 s=>
 eK s x35 λx36 s=>
 tQ x36 x32 x21 s λx37 s=>
 fh x37 0 s λx38 s=>
 fh x37 1 s λx39 s=>
 eJ 1 s x17 x24 λx40 s=>
 eU 1 s x40 x38 λ_ s=>
 eZ x24 (.i .i64 (.ofNat 1)) λx41=>
 q16 x17 x18 x19 x20 x39 x34 x23 x41 s)
(eJ 1 s x17 x19 λx42 s=>
 eK s x42 λx43 s=>
 tQ x43 x22 x21 s λx44 s=>
 fh x44 0 s λx45 s=>
 fh x44 1 s λx46 s=>
 eJ 1 s x17 x19 λx47 s=>
 eU 1 s x47 x45 λ_ s=>
 iB x46 (.i .u64 (.ofNat 0)) λx48=>
 eQ x48
(kk x20 s)
(lp (λ(_ _ _ _ _ _ _:D)(_:LS)=>none) (pZ φ kk) φ x17 x18 x19 x20 (.i .u64 (.ofNat 0)) x19 (.i .i64 (.ofNat 0)) s)))
def jd(φ:Nat)(j11:D→D→D→D→LS→Rs)(q72:D→D→D→D→D→D→LS→Rs)(x73 x74 x75 x76 x77 x78:D)(s:LS):Rs:=(
 iB x78 (.i .u64 (.ofNat 0)) λx79=>
 eQ x79
(fA x75 (.i .i64 (.ofNat 2)) λx80=>
 eJ 1 s x74 x80 λx81 s=>
 eK s x81 λx82 s=>
 eS uL [x76,x82] s λx83 s=>
 fh x83 0 s λx84 s=>
 fh x83 1 s λx85 s=>
 fN x84 x77 λx86=>
 eI x86 false (λk=>k x84 s) s λx87 s=>
 eI x86 false (λk=>k x77 s) s λx88 s=>
 eI x86 false (λk=>iB x87 x88 λd=>k d s) s λx89 s=>
 eI x86 false (λk=>k x89 s) s λx90 s=>
 eI x90 true (λk=>k x85 s) s λx91 s=>
 eI x90 true (λk=>k x73 s) s λx92 s=>
 eI x90 true (λk=>k x75 s) s λx93 s=>
 eI x90 true (λk=>fA x93 (.i .i64 (.ofNat 2)) λd=>k d s) s λx94 s=>
 eI x90 true (λk=>eJ 1 s x92 x94 k) s λx95 s=>
 eI x90 true (λk=>eK s x95 k) s λx96 s=>
 eI x90 true (λk=>wm x91 x96 λd=>k d s) s λx97 s=>
 eI x86 false (λk=>fY x90 x97 (.b false) s k) s λx98 s=>
 fY x86 (.b true) x98 s λx99 s=>
 eQ x99
(j11 x73 x74 x75 x76 s)
(fA x76 (.i .u64 (.ofNat 1)) λx100=>
 fA x75 (.i .i64 (.ofNat 1)) λx101=>
 eJ 1 s x74 x101 λx102 s=>
 eK s x102 λx103 s=>
 oV x77 x103 (.i .u64 (.ofNat 0)) s λx104 s=>
 fh x104 0 s λx105 s=>
 fh x104 1 s λx106 s=>
 q72 x73 x74 x75 x100 x105 x106 s))
(j11 x73 x74 x75 x76 s))
def AI(φ:Nat):List D→LS→(D→LS→Rs)→Rs:=
λas s kk=>
 u1 as λa1 r133=>
 u1 r133 λa2 r134=>
 u0 r134 (
 ek a2 s λx3 s=>
 jn (λ(x5 x6 x7 x8 x9 x10:D)(s:LS)=>
 jn (λ(x12 x13 x14 x15:D)(s:LS)=>
 lp (λ(_ _ _ _ _ _ _ _:D)(_:LS)=>none) (iy φ kk) φ x12 x13 x14 x15 (.i .u64 (.ofNat 0)) (.i .u64 (.ofNat 0)) x14 (.i .i64 (.ofNat 0)) s) λj11=>
 lp (λ(_ _ _ _ _ _:D)(_:LS)=>none) (jd φ j11) φ x5 x6 x7 x8 x9 x10 s) λj4=>
 eJ 1 s a1 x3 λx107 s=>
 eK s x107 λx108 s=>
 fA x3 (.i .i64 (.ofNat 1)) λx109=>
 eJ 1 s a2 x109 λx110 s=>
 eK s x110 λx111 s=>
 kI x108 x111 λx112=>
 eQ x112
(fA x3 (.i .i64 (.ofNat 1)) λx113=>
 eJ 1 s a1 x113 λx114 s=>
 eK s x114 λx115 s=>
 fA x3 (.i .i64 (.ofNat 1)) λx116=>
 eJ 1 s a2 x116 λx117 s=>
 eK s x117 λx118 s=>
 oV x115 x118 (.i .u64 (.ofNat 0)) s λx119 s=>
 fh x119 0 s λx120 s=>
 fh x119 1 s λx121 s=>
 j4 a1 a2 x3 (.i .u64 (.ofNat 18446744073709551615)) x120 x121 s)
(eJ 1 s a1 x3 λx122 s=>
 eK s x122 λx123 s=>
 fA x3 (.i .i64 (.ofNat 1)) λx124=>
 eJ 1 s a1 x124 λx125 s=>
 eK s x125 λx126 s=>
 fA x3 (.i .i64 (.ofNat 1)) λx127=>
 eJ 1 s a2 x127 λx128 s=>
 eK s x128 λx129 s=>
 eS (gh φ) [x123,x126,x129] s λx130 s=>
 fh x130 0 s λx131 s=>
 fh x130 1 s λx132 s=>
 j4 a1 a2 x3 x131 x132 (.i .u64 (.ofNat 0)) s))
theorem BW:pU=AI:=rfl
def jz(φ:Nat)(q11:D→D→D→D→D→LS→Rs)(x12 x13 x14 x15 x16:D)(s:LS):Rs:=(
 kI x16 (.i .i64 (.ofNat 0)) λx17=>
 eQ x17
(eJ 1 s x12 x16 λx18 s=>
 eK s x18 λx19 s=>
 eJ 1 s x13 (.i .i64 (.ofNat 0)) λx20 s=>
 eK s x20 λx21 s=>
 eS (gh φ) [x15,x19,x21] s λx22 s=>
 fh x22 0 s λx23 s=>
 fh x22 1 s λx24 s=>
 eJ 1 s x14 x16 λx25 s=>
 eU 1 s x25 x23 λ_ s=>
 fA x16 (.i .i64 (.ofNat 1)) λx26=>
 q11 x12 x13 x14 x24 x26 s)
((fM φ) [x14] s λx27 s=>
 ie 1 [(.i .u64 (.ofNat 0))] [(0,1,x15)] s λx28 s=>
(fM φ) [x28] s λx29 s=>
 eW false s (.tup [x27,x29]) some))
def kz(φ:Nat)(q59:D→D→D→D→D→D→LS→Rs)(x60 x61 x62 x63 x64 x65:D)(s:LS):Rs:=(
 fN x65 x64 λx66=>
 eQ x66
(jn (λ(x68 x69 x70 x71 x72 x73:D)(s:LS)=>
 eZ x73 (.i .i64 (.ofNat 1)) λx74=>
 q59 x68 x69 x70 x71 x72 x74 s) λj67=>
 eJ 1 s x61 x65 λx75 s=>
 eK s x75 λx76 s=>
 pG x76 x60 λx77=>
 eJ 1 s x61 x65 λx78 s=>
 eU 1 s x78 x77 λ_ s=>
 kv x60 (.i .i64 (.ofNat 0)) λx79=>
 eI x79 true (λk=>k x65 s) s λx80 s=>
 eI x79 true (λk=>eZ x80 (.i .i64 (.ofNat 1)) λd=>k d s) s λx81 s=>
 eI x79 true (λk=>k x61 s) s λx82 s=>
 eI x79 true (λk=>ek x82 s k) s λx83 s=>
 eI x79 true (λk=>fN x81 x83 λd=>k d s) s λx84 s=>
 fY x79 x84 (.b false) s λx85 s=>
 eQ x85
(eJ 1 s x61 x65 λx86 s=>
 eK s x86 λx87 s=>
 eZ x65 (.i .i64 (.ofNat 1)) λx88=>
 eJ 1 s x61 x88 λx89 s=>
 eK s x89 λx90 s=>
 fA (.i .i64 (.ofNat 64)) x60 λx91=>
 wR x90 x91 λx92=>
 kOr x87 x92 λx93=>
 eJ 1 s x61 x65 λx94 s=>
 eU 1 s x94 x93 λ_ s=>
 j67 x60 x61 x62 x63 x64 x65 s)
(j67 x60 x61 x62 x63 x64 x65 s))
(eS (AG (fM φ)) [x63] s λx95 s=>
 kn 1 s x61 none (some x62) none λx96 s=>
(fM φ) [x96] s λx97 s=>
 eW false s (.tup [x95,x97]) some))
def nu(φ:Nat)(q45:D→D→D→D→D→D→LS→Rs)(x46 x47 x48 x49 x50 x51:D)(s:LS):Rs:=(
 kI x51 (.i .i64 (.ofNat 0)) λx52=>
 eQ x52
(eZ x51 x49 λx53=>
 eZ x53 (.i .i64 (.ofNat 1)) λx54=>
 kn 1 s x48 (some x51) (some x54) none λx55 s=>
(pU φ) [x55,x47] s λx56 s=>
 eJ 1 s x50 x51 λx57 s=>
 eU 1 s x57 x56 λ_ s=>
 fA x51 (.i .i64 (.ofNat 1)) λx58=>
 q45 x46 x47 x48 x49 x50 x58 s)
(lp (λ(_ _ _ _ _ _:D)(_:LS)=>none) (kz φ) φ x46 x48 x49 x50 x49 (.i .i64 (.ofNat 0)) s))
def xg(φ:Nat):List D→Option D:=
λas=>
(λ(s:LS)=>
 u1 as λa1 r98=>
 u1 r98 λa2 r99=>
 u0 r99 (
 eS (ii φ) [a1,a2] s λx3 s=>
 fN x3 (.i .i64 (.ofNat 0)) λx4=>
 eQ x4
(eW false s (.tup [(.tree [] 0 true),a1]) some)
(ek a2 s λx5 s=>
 iB x5 (.i .i64 (.ofNat 1)) λx6=>
 eQ x6
(ek a1 s λx7 s=>
 ku 1 8 [(.i .u64 (.ofNat 0))] s x7 x7 λx8 s=>
 ek a1 s λx9 s=>
 fA x9 (.i .i64 (.ofNat 1)) λx10=>
 lp (λ(_ _ _ _ _:D)(_:LS)=>none) (jz φ) φ a1 a2 x8 (.i .u64 (.ofNat 0)) x10 s)
(ek a2 s λx30 s=>
 fA x30 (.i .i64 (.ofNat 1)) λx31=>
 eJ 1 s a2 x31 λx32 s=>
 eK s x32 λx33 s=>
 eS (gU φ) [x33] s λx34 s=>
 eS (lQ φ) [a2,x34] s λx35 s=>
(fM φ) [x35] s λx36 s=>
 eS (lQ φ) [a1,x34] s λx37 s=>
 ek x36 s λx38 s=>
 ek a1 s λx39 s=>
 fA x39 x38 λx40=>
 eZ x40 (.i .i64 (.ofNat 1)) λx41=>
 ku 1 8 [(.i .u64 (.ofNat 0))] s x41 x41 λx42 s=>
 ek a1 s λx43 s=>
 fA x43 x38 λx44=>
 lp (λ(_ _ _ _ _ _:D)(_:LS)=>none) (nu φ) φ x34 x36 x37 x38 x42 x44 s)))) s0
theorem AJ:gj=xg:=rfl
theorem Uc{l:List UInt8}{i:Nat}{c:UInt8}{kk:IntKind}{s:LS}{K:D→LS→Rs}(h:l[i]?=some c):kS (.index (.c (.s l)) (.c (.i kk (.ofNat i)))) s K=K (.i .u8 (.ofNat c.toNat)) s:=by
 have he:evA s.nx cv s.get (.index (.c (.s l)) (.c (.i kk (.ofNat i))))=some (.i .u8 (.ofNat c.toNat),[]):=by
  simp only[evA,cv,str];rw[aC (by simp)];have:(Int.ofNat i).toNat=i:=rfl;rw[this,nD h];rfl
 unfold kS sA;rw[he];show zo _ _=_;rw[sV]
def Fy:List UInt8:=[0,1,2,2,3,3,3,3,4,4,4,4,4,4,4,4,5,5,5,5,5,5,5,5,5,5,5,5,5,5,5,5,6,6,6,6,6,6,6,6,6,6,6,6,6,6,6,6,6,6,6,6,6,6,6,6,6,6,6,6,6,6,6,6,7,7,7,7,7,7,7,7,7,7,7,7,7,7,7,7,7,7,7,7,7,7,7,7,7,7,7,7,7,7,7,7,7,7,7,7,7,7,7,7,7,7,7,7,7,7,7,7,7,7,7,7,7,7,7,7,7,7,7,7,7,7,7,7,8,8,8,8,8,8,8,8,8,8,8,8,8,8,8,8,8,8,8,8,8,8,8,8,8,8,8,8,8,8,8,8,8,8,8,8,8,8,8,8,8,8,8,8,8,8,8,8,8,8,8,8,8,8,8,8,8,8,8,8,8,8,8,8,8,8,8,8,8,8,8,8,8,8,8,8,8,8,8,8,8,8,8,8,8,8,8,8,8,8,8,8,8,8,8,8,8,8,8,8,8,8,8,8,8,8,8,8,8,8,8,8,8,8,8,8,8,8,8,8,8,8,8,8,8,8,8,8]
theorem N9:∀v:Nat,v<256→∃c,Fy[v]?=some c∧c.toNat≤8∧v<2^c.toNat∧(0<v→2^c.toNat≤2*v):=by
 have h:∀v:Nat,v<256→(match Fy[v]?with|some c=>decide (c.toNat≤8∧v<2^c.toNat∧(0<v→2^c.toNat≤2*v))|none=>false)=true:=by decide+kernel
 intro v hv;have:=h v hv;cases hc:Fy[v]?with
 |none=>rw[hc]at this;cases this
 |some c=>rw[hc]at this;exact⟨c,rfl,cC this⟩
def Dq(x l:Nat):Prop:=l≤64∧x<2^l∧(0<x→2^l≤2*x)
theorem BD{x k l:Nat}(h:Dq (x/2^k) l)(hx:2^k≤x)(hk:l+k≤64):Dq x (l+k):=by
 obtain⟨h1,h2,h3⟩:=h;have hp:0<2^k:=bN (by decide);have h0:0<x/2^k:=z1q hx hp;have h4:=h3 h0;have h5:=dF x (2^k);refine⟨hk,?_,λ_=>?_⟩
 ·rw[bX];exact(bp hp).1 h2
 ·rw[bX];have:=aL (2^k) h4;rw[aa]at this;omega
theorem Va{b:Nat}(hb:b≤32){J:D→D→Rs}(hJ:∀x n,x<2^b→n+b≤64→∃l,Dq x l∧l≤b∧J (n64 x) (.i .i64 (.ofNat n))=some (.i .i64 (.ofNat (n+l)))):
 ∀x n,x<2^(b+b)→n+(b+b)≤64→∃l,Dq x l∧l≤b+b∧(kI (n64 x) (.i .u64 (.ofNat (2^b))) λx15=>eQ x15 (pG (n64 x) (.i .u64 (.ofNat b)) λx16=>eZ (.i .i64 (.ofNat n)) (.i .i64 (.ofNat b)) λx17=>J x16 x17) (J (n64 x) (.i .i64 (.ofNat n))))=some (.i .i64 (.ofNat (n+l))):=by
 intro x n hx hn;by_cases hc:2^b≤x
 ·have hp:0<2^b:=bN (by decide);obtain⟨l,h1,h2,h3⟩:=hJ (x/2^b) (n+b) (by rw[bp hp,←bX];exact hx) (by omega);refine⟨l+b,BD h1 hc (by omega),by omega,th (qR hc) (th eO (th (uc (by omega)) (th (fH (by omega)) (th h3 ?_))))⟩;rw[cy,dH b]
 ·obtain⟨l,h1,h2,h3⟩:=hJ x n (by omega) (by omega);exact⟨l,h1,by omega,th (zj hc) (th eP h3)⟩
def UP(x10 x9:D):Rs:=lr .u8 x10 s0 λx11 s=>kS (.index (.c (.s Fy)) (.c x11)) s λx12 s=>lr .i64 x12 s λx13 s=>eZ x9 x13 λx14=>eW false s x14 some
def ZD(a n:D):Rs:=kI a (.i .u64 (.ofNat (2^8))) λx15=>eQ x15 (pG a (.i .u64 (.ofNat 8)) λx16=>eZ n (.i .i64 (.ofNat 8)) λx17=>UP x16 x17) (UP a n)
theorem Ej{φ x:Nat}(hx:x<18446744073709551616):∃l,Dq x l∧ma φ [n64 x]=some (.i .i64 (.ofNat l)):=by
 have st0:∀x n,x<2^8→n+8≤64→∃l,Dq x l∧l≤8∧UP (n64 x) (.i .i64 (.ofNat n))=some (.i .i64 (.ofNat (n+l))):=by
  intro x n h hn;obtain⟨c,h1,h2,h3,h4⟩:=N9 x h;refine⟨c.toNat,⟨by omega,h3,h4⟩,h2,?_⟩;refine th Cy ?_;rw[bL h];exact th (Uc h1) (th (xM (by show _≤9223372036854775807;omega)) (th (fH (by omega)) rfl))
 have st1:∀x n,x<2^16→n+16≤64→∃l,Dq x l∧l≤16∧ZD (n64 x) (.i .i64 (.ofNat n))=some (.i .i64 (.ofNat (n+l))):=Va (b:=8) (J:=UP) (by omega) st0;have st2:=Va (b:=16) (J:=ZD) (by omega) st1;unfold ma;dsimp only[eV,eY];by_cases hc:4294967296≤x
 ·obtain⟨l,h1,h2,h3⟩:=st2 (x/2^32) 32 (by omega) (by omega);refine⟨l+32,BD h1 hc (by omega),th om (th (qR hc) (th eO (th CM ?_)))⟩;rw[dH l];exact h3
 ·obtain⟨l,h1,h2,h3⟩:=st2 x 0 (by omega) (by omega);refine⟨l,h1,th om (th (zj hc) (th eP ?_))⟩;rw[aV]at h3;exact h3
theorem Hj{φ x:Nat}(hx:x<18446744073709551616)(h0:0<x):∃z,z≤63∧x*2^z<18446744073709551616∧9223372036854775808≤x*2^z∧gU φ [n64 x]=some (.i .i64 (.ofNat z)):=by
 obtain⟨l,⟨h1,h2,h3⟩,h4⟩:=Ej (φ:=φ) hx;have h5:=h3 h0;have hl:0<l:=by
  rcases bQ l with h|h
  ·subst h;simp at h2;omega
  ·exact h
 have e:2^l*2^(64-l)=18446744073709551616:=by rw[←bX,cY h1]
 refine⟨64-l,by omega,?_,?_,?_⟩
 ·rw[←e];exact dD h2 (bN (by decide))
 ·have:=aL (2^(64-l)) h5;rw[e,aa]at this;omega
 ·unfold gU;dsimp only[eV,eY];exact th (fF h4) (th (gW (by omega)) rfl)
theorem Vw{q y0 r d:Nat}{s:LS}{K:D→LS→Rs}(hy:y0<4294967296)(hr:r<4294967296)(hd:d<4294967296)(hq:q<18446744073709551616):
 (kI (n64 q) (.i .u64 (.ofNat 4294967296)) λx70=>eI x70 false (λk=>k (n64 q) s) s λx71 s=>eI x70 false (λk=>k (n64 y0) s) s λx72 s=>eI x70 false (λk=>lW x71 x72 λd=>k d s) s λx73 s=>
  eI x70 false (λk=>k (n64 r) s) s λx74 s=>eI x70 false (λk=>lW (.i .u64 (.ofNat 4294967296)) x74 λd=>k d s) s λx75 s=>eI x70 false (λk=>k (n64 d) s) s λx76 s=>eI x70 false (λk=>eZ x75 x76 λd=>k d s) s λx77 s=>
  eI x70 false (λk=>kv x73 x77 λd=>k d s) s λx78 s=>fY x70 (.b true) x78 s K)=K (.b (decide (4294967296≤q∨4294967296*r+d<q*y0))) s:=by
 by_cases h:4294967296≤q
 ·refine th (qR h) ?_;rw[aP (Or.inl h)];rfl
 ·have hm:q*y0≤4294967295*4294967295:=cA (by omega) (by omega);refine th (zj h) (th fg (th fg (th fg (th (Ce (by omega)) (th fg (th fg (th (Ce (by omega)) (th fg (th fg (th (uT (by omega)) (th fg (th oS (th gD ?_)))))))))))));by_cases h2:4294967296*r+d<q*y0
  ·rw[ew h2,aP (Or.inr h2)]
  ·rw[fE h2,aN (by omega)]
structure DQ (b y1 y0 u d q r:Nat):Prop where
 hq:(u*b+d)/(y1*b+y0)≤q
 hr:r+q*y1=u
 hb:q≤b+1
theorem Bn{b y1 y0 u d q r:Nat}(h:DQ b y1 y0 u d q r)(hb:0<b)(hy1:0<y1)(h1:q*y0≤b*r+d):q=(u*b+d)/(y1*b+y0):=by
 have hp:0<y1*b+y0:=by have:=co hy1 hb;omega
 refine z1H ?_ h.hq;rw[dc hp,←h.hr,bA,aS,aK r b,aa];omega
theorem Rk{b y1 y0 u d q r:Nat}(h:DQ b y1 y0 u d q r)(hu:(u*b+d)/(y1*b+y0)<b)(hp:0<y1*b+y0)(h1:b≤q∨b*r+d<q*y0):0<q∧DQ b y1 y0 u d (q-1) (r+y1):=by
 have hlt:(u*b+d)/(y1*b+y0)<q:=by
  rcases h1 with h1|h1
  ·omega
  ·rw[bp hp,←h.hr,bA,aS,aK r b,aa];omega
 refine⟨cP (a9 _) hlt,⟨Nat.le_sub_one_of_lt hlt,?_,by have:=h.hb;omega⟩⟩;have hq0:=cP (a9 _) hlt;obtain⟨q,rfl⟩:∃p,q=p+1:=⟨q-1,by omega⟩
 have:=h.hr;rw[aS,bG]at this;rw[a8];omega
theorem I0{b y1 y0 u d q r:Nat}(h:DQ b y1 y0 u d q r)(hq:q≤b)(hy0:y0<b)(hr:b≤r):q*y0≤b*r+d:=by
 have h1:q*y0≤b*b:=cA hq (by omega);have h2:b*b≤b*r:=aT _ hr;omega
theorem MR{b y1 y0 u d:Nat}(hu:u<y1*b+y0)(hy:b≤2*y1)(h0:y0<b)(hd:d<b)(h1:0<y1):DQ b y1 y0 u d (u/y1) (u%y1)∧(u*b+d)/(y1*b+y0)<b:=by
 have hp:0<y1*b+y0:=by have:=co h1 (show 0<b by omega);omega
 refine⟨⟨?_,by rw[aK];exact dE u y1,?_⟩,?_⟩
 ·rw[dc h1];have h3:=dF (u*b+d) (y1*b+y0);rcases az u ((u*b+d)/(y1*b+y0)*y1)with h|h
  ·exfalso;generalize (u*b+d)/(y1*b+y0)=q at*;have h4:(u+1)*b≤q*y1*b:=aL _ h;rw[aS,bG]at h4;rw[bA,←aa]at h3;omega
  ·exact h
 ·have:u<(b+2)*y1:=by rw[aS,aK b];omega
  have:=(bp h1).2 this;omega
 ·rw[bp hp];have:(u+1)*b≤(y1*b+y0)*b:=aL _ hu;rw[aS,bG]at this;rw[aK b];omega
theorem Xr{φ y1 y0 u d:Nat}{a b c e:D}{j30:D→D→D→D→D→D→D→D→LS→Rs}{s:LS}(hy1:0<y1)(h1:y1<4294967296)(h0:y0<4294967296)(hd:d<4294967296)(hu:(u*4294967296+d)/(y1*4294967296+y0)<4294967296):
 ∀(k f q r:Nat),DQ 4294967296 y1 y0 u d q r→r<4294967296→4294967296≤r+k*y1→k+1<f→
 lp (λ(_ _ _ _ _ _ _ _ _:D)(_:LS)=>none) (qT φ j30) f a b (n64 y1) (n64 y0) c (n64 d) e (n64 q) (n64 r) s=j30 a b (n64 y1) (n64 y0) c (n64 d) e (n64 ((u*4294967296+d)/(y1*4294967296+y0))) s:=by
 intro k;have hp:0<y1*4294967296+y0:=by omega
 induction k with
 |zero=>intro f q r h hr hk;omega
 |succ k ih=>
  intro f q r h hr hk hf;obtain⟨f,rfl⟩:∃p,f=p+1:=⟨f-1,by omega⟩
  have hqb:=h.hb;rw[eM];unfold qT;refine th (Vw h0 hr hd (by omega)) ?_;by_cases hc:4294967296≤q∨4294967296*r+d<q*y0
  ·obtain⟨hq0,h'⟩:=Rk h hu hp hc;rw[aP hc];refine th eO (th (wv (by omega) (by omega)) (th (uT (by omega)) ?_));by_cases hbk:4294967296≤r+y1
   ·have:=Bn h' (by omega) hy1 (I0 h' (by omega) h0 hbk);rw[←this];exact th (qR hbk) eO
   ·refine th (zj hbk) (th eP ?_);exact ih f (q-1) (r+y1) h' (by omega) (by rw[aS,bG]at hk;omega) (by omega)
  ·have:=Bn h (by omega) hy1 (by omega);rw[aN hc,←this];rfl
theorem Xs{φ y1 y0 u d:Nat}{a b c e:D}{j46:D→D→D→D→D→D→LS→Rs}{s:LS}(hy1:0<y1)(h1:y1<4294967296)(h0:y0<4294967296)(hd:d<4294967296)(hu:(u*4294967296+d)/(y1*4294967296+y0)<4294967296):
 ∀(k f q r:Nat),DQ 4294967296 y1 y0 u d q r→r<4294967296→4294967296≤r+k*y1→k+1<f→
 lp (λ(_ _ _ _ _ _ _ _ _:D)(_:LS)=>none) (qU φ j46) f a b (n64 y1) (n64 y0) (n64 d) c (n64 r) e (n64 q) s=j46 a b (n64 d) c e (n64 ((u*4294967296+d)/(y1*4294967296+y0))) s:=by
 intro k;have hp:0<y1*4294967296+y0:=by omega
 induction k with
 |zero=>intro f q r h hr hk;omega
 |succ k ih=>
  intro f q r h hr hk hf;obtain⟨f,rfl⟩:∃p,f=p+1:=⟨f-1,by omega⟩
  have hqb:=h.hb;rw[eM];unfold qU;refine th (Vw h0 hr hd (by omega)) ?_;by_cases hc:4294967296≤q∨4294967296*r+d<q*y0
  ·obtain⟨hq0,h'⟩:=Rk h hu hp hc;rw[aP hc];refine th eO (th (wv (by omega) (by omega)) (th (uT (by omega)) ?_));by_cases hbk:4294967296≤r+y1
   ·have:=Bn h' (by omega) hy1 (I0 h' (by omega) h0 hbk);rw[←this];exact th (qR hbk) eO
   ·refine th (zj hbk) (th eP ?_);exact ih f (q-1) (r+y1) h' (by omega) (by rw[aS,bG]at hk;omega) (by omega)
  ·have:=Bn h (by omega) hy1 (by omega);rw[aN hc,←this];rfl
theorem La{a b:Nat}{k:D→Rs}:lW (n64 a) (n64 b) k=k (n64 (a*b%18446744073709551616)):=by
 unfold lW;rw[show n64 a=.i .u64 (.ofNat a)from rfl,show n64 b=.i .u64 (.ofNat b)from rfl,qL];exact A8
theorem Sb{a b:Nat}{k:D→Rs}:eZ (n64 a) (n64 b) k=k (n64 ((a+b)%18446744073709551616)):=by
 unfold eZ;rw[show n64 a=.i .u64 (.ofNat a)from rfl,show n64 b=.i .u64 (.ofNat b)from rfl,qL];exact A8
theorem YX{a b:Nat}{k:D→Rs}(ha:a<18446744073709551616)(hb:b<18446744073709551616):fA (n64 a) (n64 b) k=k (n64 ((a+18446744073709551616-b)%18446744073709551616)):=by
 unfold fA;rw[show n64 a=.i .u64 (.ofNat a)from rfl,show n64 b=.i .u64 (.ofNat b)from rfl,qL];by_cases h:b≤a
 ·rw[aH h,eL,A8,show Nat.sub a b=a-b from rfl,bL (show a-b<18446744073709551616 by omega),show(a+18446744073709551616-b)%18446744073709551616=a-b by omega];rfl
 ·rw[mY h,e9,show Nat.beq (uw .u64) 0=false from rfl,e9,aH (show b≤uw .u64 from dO hb),eL];exact A8
theorem OX{A C d:Nat}(h1:C≤A+d)(h2:A+d-C<18446744073709551616):((A%18446744073709551616+d)%18446744073709551616+18446744073709551616-C%18446744073709551616)%18446744073709551616=A+d-C:=by omega
theorem WV{h l z:Nat}(hz:z≤64)(hl:l<18446744073709551616):h*2^z|||l/2^(64-z)=h*2^z+l/2^(64-z):=by
 rw[aK,←dZ];rw[bp (bN (by decide)),←bX,cY hz];exact hl
theorem Zw{N P y q r:Nat}(hy:0<y)(hP:0<P)(e:N*P=q*(y*P)+r)(hr:r<y*P):q=N/y∧r/P=N%y:=by
 have hy0:0<y*P:=co hy hP;have q1:N*P/(y*P)=q:=by rw[e,aK q,z1I hy0,cL hr,bH]
 have r1:N*P%(y*P)=r:=by rw[e,aK q,Nat.mul_add_mod,bL hr]
 rw[Nat.mul_div_mul_right _ _ hP]at q1;rw[z1B]at r1;exact⟨q1.symm,by rw[←r1,z1R _ hP]⟩
theorem nlt{h l y M P u v:Nat}(hlt:h<y)(hl:l<M)(hP:0<P)(e:(h*M+l)*P=u*M+v):u<y*P:=by
 rcases az u (y*P)with hh|hh
 ·exact hh
 ·exfalso;have k1:y*P*M≤u*M:=aL _ hh;have k0:h*M+l+1≤y*M:=by
   have:=aL M hlt;rw[eA]at this;omega
  have k2:=aL P k0;rw[aS _ 1,bG,e,dK y]at k2;omega
theorem Tt{a b:Nat}{k:D→Rs}(ha:a<18446744073709551616)(hb:b<18446744073709551616):kOr (.i .u64 (.ofNat a)) (.i .u64 (.ofNat b)) k=k (.i .u64 (.ofNat (a|||b))):=Vs (bZ ha) (bZ hb)
theorem FG{φ h l y N:Nat}(hNN:h*18446744073709551616+l=N)(hl:l<18446744073709551616)(hy:y<18446744073709551616)(hlt:h<y)(hφ:4<φ):
 gh φ [n64 h,n64 l,n64 y]=some (.tup [n64 (N/y),n64 (N%y)]):=by
 rw[xf];unfold vW;dsimp only[eV,eY];refine th om (th (sD (show y≠0 by omega)) (th eP (th om (th Ae ?_))));rw[mY (by omega)];refine th eP ?_;by_cases h0:h=0
 ·subst h0;refine th (oo rfl) (th eO (th (LG (by omega) hl) (th (Jn (by omega)) ?_)));have e0:l=N:=by rw[←hNN,bT,aV]
  subst e0;rfl
 obtain⟨z,z1,z2,z3,z4⟩:=Hj (φ:=φ) hy (by omega);have hpz:0<2^z:=bN (by decide);have e64:2^z*2^(64-z)=18446744073709551616:=by rw[←bX,cY (by omega)]
 have hhz:h*2^z<y*2^z:=dD hlt hpz;have hlz:l/2^(64-z)<2^z:=by rw[bp (bN (by decide)),e64];exact hl
 have hl2:l*2^z/18446744073709551616=l/2^(64-z):=by
  rw[←e64,aK l,Nat.mul_div_mul_left _ _ hpz]
 have hsum:=ce (l*2^z) 18446744073709551616;rw[hl2]at hsum;refine th (sD h0) (th eP (th (fF z4) (th (xM (bZ (show z<18446744073709551616 by omega))) (th (vS (by omega)) ?_))));rw[bL z2];refine th CM (th (BA z2) (th (vS (by omega)) ?_));rw[bL (show h*2^z<18446744073709551616 by omega)];have hstep:(h+1)*2^z≤y*2^z:=aL _ hlt;rw[aS,bG]at hstep;refine th (wv (by omega) (by omega)) (th (uc (by omega)) (th (Tt (by omega) (by omega)) (th (vS (by omega)) ?_)));rw[WV (by omega) hl];have hN:(h*18446744073709551616+l)*2^z=(h*2^z+l/2^(64-z))*18446744073709551616+l*2^z%18446744073709551616:=by
  rw[aS,aS,dK,cy,aK (l/_),hsum]
 have hu:=nlt hlt hl hpz hN;rw[hNN]at hN;clear hNN hsum hl2 e64 hstep;have hmodlt:l*2^z%18446744073709551616<18446744073709551616:=bc _ (by decide);have hfin:∀q r,(h*2^z+l/2^(64-z))*18446744073709551616+l*2^z%18446744073709551616=q*(y*2^z)+r→r<y*2^z→q=N/y∧r/2^z=N%y:=
  λq r e hr=>Zw (by omega) hpz (hN.trans e) hr
 generalize h*2^z+l/2^(64-z)=u at*;generalize l*2^z%18446744073709551616=v at*;generalize hY:y*2^z=Y at*;have hYd:Y=Y/4294967296*4294967296+Y%4294967296:=by omega
 have hvd:v=v/4294967296*4294967296+v%4294967296:=by omega
 have b1:0<Y/4294967296:=by omega
 have b2:Y/4294967296<4294967296:=by omega
 have b3:4294967296≤2*(Y/4294967296):=by omega
 have b4:Y%4294967296<4294967296:=by omega
 have b5:v/4294967296<4294967296:=by omega
 have b6:v%4294967296<4294967296:=by omega
 have b7:u<Y/4294967296*4294967296+Y%4294967296:=by omega
 refine th CM (th (BA hmodlt) (th (LG (by omega) (by omega)) ?_));generalize Y/4294967296=y1 at*;generalize Y%4294967296=y0 at*;generalize v/4294967296=v1 at*;generalize v%4294967296=v0 at*;have main:∀(u d:Nat)(K:D→Rs),u<y1*4294967296+y0→(lW (n64 (u/y1)) (n64 y1) λx28=>fA (n64 u) x28 K)=K (n64 (u%y1)):=by
  intro u d K hu;have hm:=dE u y1;have hle:u/y1*y1≤u:=dF u y1;refine th (Ce (by omega)) (th (wv hle (by omega)) ?_);have e:u-u/y1*y1=u%y1:=by rw[aK (u/y1)];omega
  rw[e];rfl
 refine th (main u 0 _ b7) (th om ?_);obtain⟨i1,i2⟩:=MR (d:=v1) b7 b3 b4 b5 b1;have i3:u%y1<y1:=bc _ b1;refine th (Xr b1 b2 b4 b5 i2 3 φ _ _ i1 (by omega) (by omega) hφ) ?_;rw[←hYd]at i2 ⊢;have hY0:0<Y:=by omega
 have c1:=ce (u*4294967296+v1) Y;have c2:=bc (u*4294967296+v1) hY0;generalize hq1:(u*4294967296+v1)/Y=q1 at*;generalize (u*4294967296+v1)%Y=w at*;rw[aK Y]at c1;have wr:∀(A C d w:Nat)(K:D→Rs),C+w=A+d→w<18446744073709551616→fA (n64 ((A%18446744073709551616+d)%18446744073709551616)) (n64 (C%18446744073709551616)) K=K (n64 w):=by
  intro A C d w K h1 h2;refine th (YX (bc _ (by decide)) (bc _ (by decide))) ?_;rw[OX (by omega) (by omega),show A+d-C=w by omega]
 refine th La (th Sb (th La (th (wr _ _ _ w _ c1 (by omega)) (th (LG (by omega) (by omega)) (th (main w 0 _ (by omega)) (th om ?_))))));have b8:w<y1*4294967296+y0:=by omega
 obtain⟨j1,j2⟩:=MR (d:=v0) b8 b3 b4 b6 b1;have j3:w%y1<y1:=bc _ b1;refine th (Xs b1 b2 b4 b6 j2 3 φ _ _ j1 (by omega) (by omega) hφ) ?_;rw[←hYd]at j2 ⊢;have c3:=ce (w*4294967296+v0) Y;have c4:=bc (w*4294967296+v0) hY0;clear hq1 i1;generalize hq0:(w*4294967296+v0)/Y=q0 at*;generalize (w*4294967296+v0)%Y=r at*;rw[aK Y]at c3;have hf:=hfin (q1*4294967296+q0) r (by
  rw[aS,dK];revert c1 c3;generalize q1*Y=C1;generalize q0*Y=C0;intro c1 c3;omega) c4
 refine th (Ce (by omega)) (th (uT (by omega)) (th La (th Sb (th La (th (wr _ _ _ r _ c3 (by omega)) (th (uc (by omega)) ?_))))));refine Eq.trans (b:=some (.tup [n64 (q1*4294967296+q0),n64 (r/2^z)])) rfl ?_;obtain⟨f1,f2⟩:=hf;rw[f1,f2]
section
variable {B:Nat}
theorem GW{ws:List Nat}{i w:Nat}(h:ws[i]?=some w):dgt ws i=w:=by unfold dgt;rw[aD,h];rfl
theorem jX{ws:List Nat}{i:Nat}(h:i<ws.length):ws[i]?=some (dgt ws i):=by
 have hw:=aB h;rw[hw,GW hw]
theorem yS(hB:2≤B){a b:List Nat}(sa:Sm B a)(tb:Tm b)(h:a.length<b.length):vl B a<vl B b:=by
 have h1:=uQ sa;have h2:=yK (B:=B) tb (by intro e;rw[e]at h;simp at h);have h3:B^a.length≤B^(b.length-1):=bg (by omega) (by omega);omega
theorem AM{ws:List Nat}{i:Nat}(h:i≤ws.length):vl B ws=vl B (ws.take i)+B^i*(dgt ws i+B*vl B (ws.drop (i+1))):=by
 have:=ri (B:=B) (ws.take i) (ws.drop i);rw[c7,aZ,bS (by omega),qY]at this;exact this
theorem EF{zs ys:List Nat}{i:Nat}(hB:0<B)(sz:Sm B zs)(hz:i<zs.length)(hy:i<ys.length)(hd:zs.drop (i+1)=ys.drop (i+1))(h:dgt zs i<dgt ys i):vl B zs<vl B ys:=by
 rw[AM (show i≤zs.length by omega),AM (show i≤ys.length by omega),hd];have lz:vl B (zs.take i)<B^i:=by
  have:=uQ (sN (n:=i) sz);rw[aZ,bS (by omega)]at this;exact this
 generalize vl B (ys.drop (i+1))=R;have:B^i*((dgt zs i+B*R)+1)≤B^i*(dgt ys i+B*R):=aT _ (by omega);rw[bA _ _ 1]at this;omega
end
theorem SB{x y:Nat}(h:x<y):yG x y=.i .i64 (.negSucc 0):=by unfold yG;rw[ew h];rfl
theorem SC{x y:Nat}(h:y<x):yG x y=.i .i64 (.ofNat 1):=by unfold yG;rw[fE (by omega),gR (by omega)];rfl
theorem SD{x:Nat}:yG x x=.i .i64 (.ofNat 0):=by unfold yG;rw[fE (by omega),ei];rfl
theorem KV{φ n:Nat}{zs ys:List Nat}{e1 e2:Bool}{s:LS}(sz:Sm B64 zs)(sy:Sm B64 ys)(hz:zs.length=n)(hy:ys.length=n)(hn:n<9223372036854775808):∀(i f:Nat),i<n→i+1<f→zs.drop (i+1)=ys.drop (i+1)→
 lp (λ(_ _ _:D)(_:LS)=>none) (mZ φ) f (.tree (c64 zs) n e1) (.tree (c64 ys) n e2) (.i .i64 (.ofNat i)) s=some (yG (vl B64 zs) (vl B64 ys)):=by
 have step:∀(i:Nat)(q:D→D→D→LS→Rs),i<n→zs.drop (i+1)=ys.drop (i+1)→mZ φ q (.tree (c64 zs) n e1) (.tree (c64 ys) n e2) (.i .i64 (.ofNat i)) s=
  if dgt zs i=dgt ys i then fA (.i .i64 (.ofNat i)) (.i .i64 (.ofNat 1)) λx26=>q (.tree (c64 zs) n e1) (.tree (c64 ys) n e2) x26 s else some (yG (vl B64 zs) (vl B64 ys)):=by
  intro i q hi hd;have gz:(c64 zs)[i*1]?=some (n64 (dgt zs i)):=by rw[aj];exact ky (jX (by omega))
  have gy:(c64 ys)[i*1]?=some (n64 (dgt ys i)):=by rw[aj];exact ky (jX (by omega))
  unfold mZ;refine th (qR (by omega)) (th eO (th (v8 hi (by rw[fT];omega)) (th (wQ gz) (th (v8 hi (by rw[fT];omega)) (th (wQ gy) ?_)))));by_cases he:dgt zs i=dgt ys i
  ·rw[aC he];exact th (pH he) eP
  ·rw[aF he];refine th (rv he) (th eO (th (v8 hi (by rw[fT];omega)) (th (wQ gz) (th (v8 hi (by rw[fT];omega)) (th (wQ gy) ?_)))));by_cases hl:dgt zs i<dgt ys i
   ·rw[SB (EF (by decide) sz (by omega) (by omega) hd hl)];exact th (fe hl) rfl
   ·rw[SC (EF (by decide) sy (by omega) (by omega) hd.symm (by omega))];exact th (gA hl) rfl
 intro i
 induction i with
 |zero=>
  intro f hi hf hd;obtain⟨f,rfl⟩:∃q,f=q+2:=⟨f-2,by omega⟩
  rw[eM,step 0 _ hi hd];by_cases he:dgt zs 0=dgt ys 0
  ·rw[aC he];refine th (nk (by omega) (by omega)) ?_;rw[eM];refine th ol (th eP ?_);have:zs=ys:=by
    have a1:=nD (jX (show 0<zs.length by omega));have a2:=nD (jX (show 0<ys.length by omega));rw[am]at a1 a2;rw[a1,a2,he,hd]
   rw[this,SD];rfl
  ·rw[aF he]
 |succ i ih=>
  intro f hi hf hd;obtain⟨f,rfl⟩:∃q,f=q+1:=⟨f-1,by omega⟩
  rw[eM,step (i+1) _ hi hd];by_cases he:dgt zs (i+1)=dgt ys (i+1)
  ·rw[aC he];refine th (gW (by omega) (by omega)) ?_;rw[a8];refine ih f (by omega) (by omega) ?_;rw[nD (jX (show i+1<zs.length by omega)),nD (jX (show i+1<ys.length by omega)),he,hd]
  ·rw[aF he]
theorem Rz{φ n m:Nat}{zs ys:List Nat}{e1 e2:Bool}(hz:zs.length=n)(hy:ys.length=m)(sz:Sm B64 zs)(sy:Sm B64 ys)(tz:Tm zs)(ty:Tm ys)(hn:n<9223372036854775807)(hm:m<9223372036854775807)(hφ:n+1<φ):
 ii φ [.tree (c64 zs) n e1,.tree (c64 ys) m e2]=some (yG (vl B64 zs) (vl B64 ys)):=by
 rw[wE];unfold uF;dsimp only[eV,eY];refine th fO (th fO ?_);by_cases he:n=m
 ·subst he;refine th (pH rfl) (th eP (th fO ?_));cases n with
  |zero=>
   obtain⟨φ,rfl⟩:∃q,φ=q+1:=⟨φ-1,by omega⟩
   have h1:zs=[]:=ao hz;have h2:ys=[]:=ao hy;subst h1;subst h2;refine th (nk (by omega) (by omega)) ?_;rw[eM,SD];exact th ol (th eP rfl)
  |succ n=>
   refine th (gW (by omega) (by omega)) ?_;rw[a8];exact KV sz sy hz hy (by omega) n φ (by omega) (by omega) (by rw[bf (by omega),bf (by omega)])
 ·refine th (rv he) (th eO (th fO (th fO ?_)));by_cases hl:n<m
  ·rw[SB (yS (by decide) sz ty (by omega))];exact th (fe hl) rfl
  ·rw[SC (yS (by decide) sy tz (by omega))];exact th (gA hl) rfl
theorem rP{ws:List Nat}{i j w:Nat}(h:i≠j):dgt (ws.set i w) j=dgt ws j:=by
 unfold dgt;rw[aD,aD,bU h]
theorem Wx{a c z M:Nat}(hz:z≤64)(hc:c<2^z)(hM:M=2^64):c|||a*2^z%M=c+a*2^z%M∧c+a*2^z%M<M:=by
 subst hM;have e:a*2^z%2^64=2^z*(a%2^(64-z)):=by
  rw[show(2:Nat)^64=2^z*2^(64-z) by rw[←bX,cY hz],aK a,Nat.mul_mod_mul_left]
 have hlt:a%2^(64-z)+1≤2^(64-z):=bc _ (bN (by decide));have h2:=aT (2^z) hlt;rw[←bX,cY hz,bA,aj]at h2;rw[e];refine⟨?_,by omega⟩;rw[Nat.or_comm,←dZ hc,dH]
theorem Mx{a z:Nat}(hz:z≤64)(M:Nat)(hM:M=2^64):a*2^z%M+M*(a/2^(64-z))=a*2^z:=by
 subst hM;have:=dE (a*2^z) (2^64);have e:a*2^z/2^64=a/2^(64-z):=by
  rw[show(2:Nat)^64=2^z*2^(64-z) by rw[←bX,cY hz],aK a,Nat.mul_div_mul_left _ _ (bN (by decide))]
 rw[e]at this;exact this
theorem JA{os ws:List Nat}{i z M:Nat}(hM:M=2^64)(hz:z≤64)(hi:i+1<os.length)(h0:dgt os (i+1)=0)(hv:vl M os=vl M (ws.take i)*2^z)(hw:vl M (ws.take (i+1))=vl M (ws.take i)+dgt ws i*M^i):
 vl M ((os.set i (dgt os i+dgt ws i*2^z%M)).set (i+1) (dgt ws i/2^(64-z)))=vl M (ws.take (i+1))*2^z:=by
 have h1:=sK (B:=M) (dgt os i+dgt ws i*2^z%M) (jX (show i<os.length by omega));have hg:(os.set i (dgt os i+dgt ws i*2^z%M))[i+1]?=some 0:=by rw[bU (by omega),jX (by omega),h0]
 have h2:=sK (B:=M) (dgt ws i/2^(64-z)) hg;rw[bT,bH,ax]at h2;have h3:=Mx (a:=dgt ws i) hz M hM;rw[h2,hw,aS,←hv];rw[aS]at h1;generalize dgt ws i*2^z%M=lo at*;generalize dgt ws i/2^(64-z)=hi' at*;have h4:(lo+M*hi')*M^i=dgt ws i*2^z*M^i:=by rw[h3]
 rw[aS]at h4;have h5:hi'*(M^i*M)=M*hi'*M^i:=by grind
 have h6:dgt ws i*M^i*2^z=dgt ws i*2^z*M^i:=dK _ _ _;omega
theorem pV{B:Nat}(ws:List Nat)(i:Nat):vl B (ws.take (i+1))=vl B (ws.take i)+dgt ws i*B^i:=by
 by_cases h:i<ws.length
 ·rw[bq,jX h,ri,aZ,bS (by omega)];show _+B^i*(dgt ws i+B*0)=_;rw[dG,bH,aK]
 ·have e:dgt ws i=0:=by unfold dgt;rw[aD,bW (by omega)];rfl
  rw[aM (by omega),aM (by omega),e];simp
theorem WD{X:D}{bs:List Blk}{ws:List Nat}{n:Nat}(hA:WS 1 bs X (c64 ws) n)(h0:0<n):eW true (mem bs) X some=some (.own (c64 ws) n 1):=by
 have hc:=ic hA;generalize hcs:c64 ws=cs at hA;cases hA with
 |nil=>omega
 |blk hg hc' hm=>
  subst hcs;rw[xl hg (vu ws) (by omega),aM (by omega)]
theorem Om{φ n z:Nat}{O:D}{ws:List Nat}{ex:Bool}(hz:z≤63)(hl:ws.length=n)(sw:Sm B64 ws)(hn:n≤100000000000):∀(k i f:Nat)(bs:List Blk)(os:List Nat),WS 1 bs O (c64 os) (n+1)→Sm B64 os→vl B64 os=vl B64 (ws.take i)*2^z→dgt os i<2^z→(∀t,i<t→dgt os t=0)→i+k=n→k+1<f→
 ∃os',os'.length=n+1∧Sm B64 os'∧vl B64 os'=vl B64 ws*2^z∧lp (λ(_ _ _ _ _:D)(_:LS)=>none) (ik φ) f (.i .i64 (.ofNat z)) O (.tree (c64 ws) n ex) (.i .i64 (.ofNat n)) (.i .i64 (.ofNat i)) (mem bs)=some (.own (c64 os') (n+1) 1):=by
 intro k
 induction k with
 |zero=>
  intro i f bs os aO so hv hd h0 hk hf;obtain⟨f,rfl⟩:∃q,f=q+1:=⟨f-1,by omega⟩
  have hol:=ic aO;rw[fT]at hol;refine⟨os,by omega,so,by rw[hv,aM (by omega)],?_⟩;rw[eM];exact th (gA (by omega)) (th eP (WD aO (by omega)))
 |succ k ih=>
  intro i f bs os aO so hv hd h0 hk hf;obtain⟨f,rfl⟩:∃q,f=q+1:=⟨f-1,by omega⟩
  have hol:=ic aO;rw[fT]at hol;have hw:dgt ws i<18446744073709551616:=jY sw (by decide) i;have gw:(c64 ws)[i*1]?=some (n64 (dgt ws i)):=by rw[aj];exact ky (jX (by omega))
  obtain⟨o1,o2⟩:=Wx (a:=dgt ws i) (M:=18446744073709551616) (by omega) hd (by decide);have hst:=JA (os:=os) (ws:=ws) (i:=i) (z:=z) (M:=B64) (by decide) (by omega) (by omega) (h0 _ (by omega)) hv (pV ws i);have hhi:dgt ws i/2^(64-z)<2^z:=by
   rw[bp (bN (by decide)),←bX,cY (by omega)];exact hw
  generalize hv1:dgt os i+dgt ws i*2^z%18446744073709551616=v1 at*;by_cases hz0:0<z
  ·obtain⟨b1,a1,a2,a3,a4⟩:=vc (w:=v1) (i:=i) (kk:=.i64) (K:=λ_ s=>kv (.i .i64 (.ofNat z)) (.i .i64 (.ofNat 0)) λx28=>eQ x28
    (eZ (.i .i64 (.ofNat i)) (.i .i64 (.ofNat 1)) λx29=>fA (.i .i64 (.ofNat 64)) (.i .i64 (.ofNat z)) λx30=>pG (n64 (dgt ws i)) x30 λx31=>eJ 1 s O x29 λx32 s=>eU 1 s x32 x31 λ_ s=>eZ (.i .i64 (.ofNat i)) (.i .i64 (.ofNat 1)) λx20=>lp (λ(_ _ _ _ _:D)(_:LS)=>none) (ik φ) f (.i .i64 (.ofNat z)) O (.tree (c64 ws) n ex) (.i .i64 (.ofNat n)) x20 s)
    (eZ (.i .i64 (.ofNat i)) (.i .i64 (.ofNat 1)) λx20=>lp (λ(_ _ _ _ _:D)(_:LS)=>none) (ik φ) f (.i .i64 (.ofNat z)) O (.tree (c64 ws) n ex) (.i .i64 (.ofNat n)) x20 s)) aO (show i<n+1 by omega)
   obtain⟨b2,g1,g2,g3,g4⟩:=vc (w:=dgt ws i/2^(64-z)) (i:=i+1) (kk:=.i64) (K:=λ_ s=>eZ (.i .i64 (.ofNat i)) (.i .i64 (.ofNat 1)) λx20=>lp (λ(_ _ _ _ _:D)(_:LS)=>none) (ik φ) f (.i .i64 (.ofNat z)) O (.tree (c64 ws) n ex) (.i .i64 (.ofNat n)) x20 s) a1 (show i+1<n+1 by omega);have hhi2:dgt ws i/2^(64-z)<B64:=cP (z1D _ _) hw;obtain⟨os',k1,k2,k3,k4⟩:=ih (i+1) f b2 _ g1 (od (od so o2) hhi2) hst (by rw[GW (by rw[a7 (by simp;omega)])];exact hhi) (λt ht=>by rw[rP (by omega),rP (by omega)];exact h0 t (by omega)) (by omega) (by omega);refine⟨os',k1,k2,k3,?_⟩;rw[eM];unfold ik;refine th (fe (by omega)) (th eO (th om (th (v8 (by omega) (by rw[fT];omega)) (th (wQ gw) (th (qk aO (jX (by omega))) (th (vS (by omega)) (th (Tt (by omega) (bc _ (by decide))) ?_)))))));rw[o1];exact th a4 (th (nU hz0) (th eO (th (fH (by omega)) (th (gW (by omega) (by omega)) (th (uc (by omega)) (th g4 (th (fH (by omega)) k4)))))))
  ·have hz1:z=0:=by omega
   have hh0:dgt ws i/2^(64-z)=0:=cL (by rw[hz1];exact hw);rw[hh0]at hst;have hg:(os.set i v1)[i+1]?=some 0:=by rw[bU (by omega),jX (by omega),h0 _ (by omega)]
   have h2:=sK (B:=B64) 0 hg;rw[bT,bH,bH]at h2;rw[h2]at hst;obtain⟨b1,a1,a2,a3,a4⟩:=vc (w:=v1) (i:=i) (kk:=.i64) (K:=λ_ s=>kv (.i .i64 (.ofNat z)) (.i .i64 (.ofNat 0)) λx28=>eQ x28
    (eZ (.i .i64 (.ofNat i)) (.i .i64 (.ofNat 1)) λx29=>fA (.i .i64 (.ofNat 64)) (.i .i64 (.ofNat z)) λx30=>pG (n64 (dgt ws i)) x30 λx31=>eJ 1 s O x29 λx32 s=>eU 1 s x32 x31 λ_ s=>eZ (.i .i64 (.ofNat i)) (.i .i64 (.ofNat 1)) λx20=>lp (λ(_ _ _ _ _:D)(_:LS)=>none) (ik φ) f (.i .i64 (.ofNat z)) O (.tree (c64 ws) n ex) (.i .i64 (.ofNat n)) x20 s)
    (eZ (.i .i64 (.ofNat i)) (.i .i64 (.ofNat 1)) λx20=>lp (λ(_ _ _ _ _:D)(_:LS)=>none) (ik φ) f (.i .i64 (.ofNat z)) O (.tree (c64 ws) n ex) (.i .i64 (.ofNat n)) x20 s)) aO (show i<n+1 by omega)
   obtain⟨os',k1,k2,k3,k4⟩:=ih (i+1) f b1 _ a1 (od so o2) hst (by rw[GW hg];exact bN (by decide)) (λt ht=>by rw[rP (by omega)];exact h0 t (by omega)) (by omega) (by omega);refine⟨os',k1,k2,k3,?_⟩;rw[eM];unfold ik;refine th (fe (by omega)) (th eO (th om (th (v8 (by omega) (by rw[fT];omega)) (th (wQ gw) (th (qk aO (jX (by omega))) (th (vS (by omega)) (th (Tt (by omega) (bc _ (by decide))) ?_)))))));rw[o1];exact th a4 (th (pX hz0) (th eP (th (fH (by omega)) k4)))
theorem Au{φ n z:Nat}{ws:List Nat}{ex:Bool}(hz:z≤63)(hl:ws.length=n)(sw:Sm B64 ws)(hn:n≤100000000000)(hφ:n+1<φ):
 ∃os,os.length=n+1∧Sm B64 os∧vl B64 os=vl B64 ws*2^z∧lQ φ [.tree (c64 ws) n ex,.i .i64 (.ofNat z)]=some (.own (c64 os) (n+1) 1):=by
 obtain⟨os',k1,k2,k3,k4⟩:=Om (φ:=φ) (O:=.sl 0 0 (n+1) (n+1) 1 true) (ex:=ex) hz hl sw hn n 0 φ [⟨c64 (List.replicate (n+1) 0),.rw⟩] (List.replicate (n+1) 0) (WS.blk rfl (by rw[fT];simp) (aE _)) (AT (by decide)) (by rw[zA];simp[vl]) (by
  have:dgt (List.replicate (n+1) 0) 0=0:=rfl;rw[this];exact bN (by decide)) (λt ht=>by
  unfold dgt;rw[aD];cases h:(List.replicate (n+1) 0)[t]?with
  |none=>rfl
  |some w=>exact dk (bY h)) (by omega) (by omega)
 refine⟨os',k1,k2,k3,?_⟩;rw[yx];unfold wk;dsimp only[eV,eY];rw[←fw];refine th fO (th (fH (by omega)) (th (Dx rfl (by omega) (by omega)) (th fO ?_)));rw[rt,vV];exact k4
variable {bs:List Blk} {us:List Nat} {l off n cm i w:Nat} {ex:Bool} {kk:IntKind} {K:D→LS→Rs}
theorem uS(h:bs[l]?=some ⟨c64 us,.rw⟩)(hi:i<n)(ho:off+i<us.length):(eJ 1 (mem bs) (.sl l off n cm 1 ex) (.i kk (.ofNat i)) λa s=>eK s a K)=K (n64 (dgt us (off+i))) (mem bs):=by
 refine th (Ah h rfl hi) ?_;rw[aj];exact GC h rfl (ky (jX ho))
theorem AD(h:bs[l]?=some ⟨c64 us,.rw⟩)(hi:i<n)(ho:off+i<us.length):(eJ 1 (mem bs) (.sl l off n cm 1 ex) (.i kk (.ofNat i)) λa s=>eU 1 s a (n64 w) K)=K .u (mem (bs.set l ⟨c64 (us.set (off+i) w),.rw⟩)):=by
 have hl:lay (off+i) (c64 [w]) (c64 us)=some (c64 (us.set (off+i) w)):=by
  rw[←sS,show c64 [w]=[D.i .u64 (.ofNat w)]from rfl,xK (by rw[fT];omega),w8]
 refine th (Ah h rfl hi) ?_;rw[aj];exact Gu h rfl (hx:=rfl) (hn:=rfl) (h1:=rfl) (hl:=hl)
theorem va{us':List Nat}(h:bs[l]?=some ⟨c64 us,.rw⟩):(bs.set l ⟨c64 us',.rw⟩)[l]?=some ⟨c64 us',.rw⟩:=by rw[a7 (ef h)]
theorem gF{l':Nat}{b b':Blk}(hne:l≠l')(h:bs[l']?=some b):(bs.set l b')[l']?=some b:=by rw[bU hne];exact h
theorem Gt{a b c:Nat}(ha:a<18446744073709551616)(hb:b<18446744073709551616)(hc:c≤1):∃d c',(∀(s:LS)(K:D→LS→Rs),tQ (n64 a) (n64 b) (n64 c) s K=K (.tup [n64 d,n64 c']) s)∧d<18446744073709551616∧c'≤1∧d+b+c=a+c'*18446744073709551616:=by
 refine⟨_,_,λs K=>Hs hc,bc _ (by decide),?_,?_⟩
 ·split<;>omega
 ·show(a+18446744073709551616-b-c)%18446744073709551616+b+c=_;split<;>omega
theorem XD{B j i v0 v1 vy z z' lo c c' b b' q y V:Nat}(hv:v0+q*vy*B^j=V+(b+c)*(B^j*B^i))(h1:v1+z*(B^j*B^i)=v0+z'*(B^j*B^i))(h2:z'+lo+b=z+b'*B)(h3:q*y+c=lo+B*c'):
 v1+q*(vy+y*B^i)*B^j=V+(b'+c')*(B^j*(B^i*B)):=by
 generalize B^j=P at*;generalize B^i=Q at*;have h4:(z'+lo+b)*(P*Q)=(z+b'*B)*(P*Q):=by rw[h2]
 have h5:(q*y+c)*(P*Q)=(lo+B*c')*(P*Q):=by rw[h3]
 grind
theorem Q8{q y c lo c' B:Nat}(hq:q<B)(hy:y<B)(hc:c<B)(h3:q*y+c=lo+B*c'):c'<B:=by
 rcases az c' B with h|h
 ·exact h
 ·exfalso;have h1:B*B≤B*c':=aT _ h;have h2:q*y≤(B-1)*(B-1):=cA (by omega) (by omega);have h4:(B-1)*(B-1)+(B-1)=(B-1)*B:=by rw[←Nat.mul_succ];congr 1;omega
  have h5:(B-1)*B=B*B-B:=by rw[z2e,bG]
  have h6:B≤B*B:=z1s _ (by omega);omega
theorem Yu{B q y c lo hi lo' cc:Nat}(m2:hi*B+lo'=q*y)(a4:cc*B+lo=lo'+c+0):q*y+c=lo+B*(hi+cc):=by
 rw[←m2,bA,aK B hi,aK B cc];omega
theorem TH{φ l lv j n cm cmv q V:Nat}{ex exv:Bool}{vf:List Nat}{kk:D→LS→Rs}(hq:q<B64)(sv:Sm B64 vf)(hvf:n≤vf.length)(hne:l≠lv)(hn:n≤100000000000):∀(k i f:Nat)(bs:List Blk)(us:List Nat)(b c:Nat),
 bs[l]?=some ⟨c64 us,.rw⟩→bs[lv]?=some ⟨c64 vf,.rw⟩→j+n<us.length→Sm B64 us→b≤1→c<B64→vl B64 us+q*vl B64 (vf.take i)*B64^j=V+(b+c)*(B64^j*B64^i)→i+k=n→k+1<f→
 ∃bs' us' b' c',bs'[l]?=some ⟨c64 us',.rw⟩∧bs'[lv]?=some ⟨c64 vf,.rw⟩∧us'.length=us.length∧Sm B64 us'∧b'≤1∧c'<B64∧vl B64 us'+q*vl B64 (vf.take n)*B64^j=V+(b'+c')*(B64^j*B64^n)∧(∀t,j+n≤t→dgt us' t=dgt us t)∧(∀l' x,l≠l'→bs[l']?=some x→bs'[l']?=some x)∧
 lp (λ(_ _ _ _ _ _ _ _:D)(_:LS)=>none) (iy φ kk) f (.sl l j (n+1) cm 1 ex) (.sl lv 0 n cmv 1 exv) (.i .i64 (.ofNat n)) (n64 q) (n64 b) (n64 c) (.i .i64 (.ofNat n)) (.i .i64 (.ofNat i)) (mem bs)=
 lp (λ(_ _ _ _ _ _ _ _:D)(_:LS)=>none) (iy φ kk) (f-k) (.sl l j (n+1) cm 1 ex) (.sl lv 0 n cmv 1 exv) (.i .i64 (.ofNat n)) (n64 q) (n64 b') (n64 c') (.i .i64 (.ofNat n)) (.i .i64 (.ofNat n)) (mem bs'):=by
 intro k
 induction k with
 |zero=>
  intro i f bs us b c h1 h2 hl su hb hc hv hi hf;have:i=n:=by omega
  subst this;exact⟨bs,us,b,c,h1,h2,rfl,su,hb,hc,hv,λ_ _=>rfl,λ_ _ _ h=>h,rfl⟩
 |succ k ih=>
  intro i f bs us b c h1 h2 hl su hb hc hv hi hf;obtain⟨f,rfl⟩:∃p,f=p+1:=⟨f-1,by omega⟩
  have d1:dgt us (j+i)<B64:=jY su (by decide) _;have d2:dgt vf i<B64:=jY sv (by decide) _;obtain⟨hi',lo',m1,m2,m3⟩:=A7 hq d2;obtain⟨lo,cc,a1,a2,a3,a4⟩:=wA (c:=0) m3 hc (by omega);obtain⟨z',b',s1,s2,s3,s4⟩:=Gt d1 a2 hb;have h3:=Yu m2 a4;have hcb:=Q8 hq d2 hc h3;have hset:=sK (B:=B64) z' (jX (show j+i<us.length by omega));rw[bX]at hset;have hnew:=XD hv hset s4 h3;rw[←pV,←ax]at hnew;obtain⟨bs',us',b2,c2,k1,k2,k3,k4,k5,k6,k7,k8,k9,k10⟩:=ih (i+1) f (bs.set l ⟨c64 (us.set (j+i) z'),.rw⟩) (us.set (j+i) z') b' (hi'+cc) (va h1) (gF hne h2) (by rw[bB];exact hl) (od su s2) s3 hcb hnew (by omega) (by omega);refine⟨bs',us',b2,c2,k1,k2,by rw[k3,bB],k4,k5,k6,k7,λt ht=>by rw[k8 t ht,rP (by omega)],λl' x hl' hx=>k9 l' x hl' (gF hl' hx),?_⟩;rw[eM];have e0:vf[0+i]?=some (dgt vf (0+i)):=jX (by omega);unfold iy;refine th (fe (by omega)) (th eO (th (uS h2 (by omega) (by omega)) ?_));rw[aV];refine th (fF m1) (th iO (th iN (th (a1 _ _) (th iO (th iN (th (uT hcb) (th (uS h1 (by omega) (by omega)) (th (s1 _ _) (th iO (th iN (th (AD h1 (by omega) (by omega)) (th (fH (by omega)) ?_))))))))))));rw[bj f 1 k];exact k10
theorem YH{B j i v0 v1 vy z z' c c' y V:Nat}(hv:v0+c*(B^j*B^i)=V+vy*B^j)(h1:v1+z*(B^j*B^i)=v0+z'*(B^j*B^i))(h2:c'*B+z'=z+y+c):
 v1+c'*(B^j*(B^i*B))=V+(vy+y*B^i)*B^j:=by
 generalize B^j=P at*;generalize B^i=Q at*;have h4:(c'*B+z')*(P*Q)=(z+y+c)*(P*Q):=by rw[h2]
 grind
theorem TI{φ l lv j n cm cmv V:Nat}{ex exv:Bool}{x53:D}{vf:List Nat}{kk:D→LS→Rs}(sv:Sm B64 vf)(hvf:n≤vf.length)(hne:l≠lv)(hn:n≤100000000000):∀(k i f:Nat)(bs:List Blk)(us:List Nat)(c:Nat),
 bs[l]?=some ⟨c64 us,.rw⟩→bs[lv]?=some ⟨c64 vf,.rw⟩→j+n<us.length→Sm B64 us→c≤1→vl B64 us+c*(B64^j*B64^i)=V+vl B64 (vf.take i)*B64^j→i+k=n→k+1<f→
 ∃bs' us' c',bs'[l]?=some ⟨c64 us',.rw⟩∧bs'[lv]?=some ⟨c64 vf,.rw⟩∧us'.length=us.length∧Sm B64 us'∧c'≤1∧vl B64 us'+c'*(B64^j*B64^n)=V+vl B64 (vf.take n)*B64^j∧(∀t,j+n≤t→dgt us' t=dgt us t)∧(∀l' x,l≠l'→bs[l']?=some x→bs'[l']?=some x)∧
 lp (λ(_ _ _ _ _ _ _:D)(_:LS)=>none) (pZ φ kk) f (.sl l j (n+1) cm 1 ex) (.sl lv 0 n cmv 1 exv) (.i .i64 (.ofNat n)) x53 (n64 c) (.i .i64 (.ofNat n)) (.i .i64 (.ofNat i)) (mem bs)=
 lp (λ(_ _ _ _ _ _ _:D)(_:LS)=>none) (pZ φ kk) (f-k) (.sl l j (n+1) cm 1 ex) (.sl lv 0 n cmv 1 exv) (.i .i64 (.ofNat n)) x53 (n64 c') (.i .i64 (.ofNat n)) (.i .i64 (.ofNat n)) (mem bs'):=by
 intro k
 induction k with
 |zero=>
  intro i f bs us c h1 h2 hl su hc hv hi hf;have:i=n:=by omega
  subst this;exact⟨bs,us,c,h1,h2,rfl,su,hc,hv,λ_ _=>rfl,λ_ _ _ h=>h,rfl⟩
 |succ k ih=>
  intro i f bs us c h1 h2 hl su hc hv hi hf;obtain⟨f,rfl⟩:∃p,f=p+1:=⟨f-1,by omega⟩
  have d1:dgt us (j+i)<B64:=jY su (by decide) _;have d2:dgt vf i<B64:=jY sv (by decide) _;obtain⟨z',c',a1,a2,a3,a4⟩:=wA d1 d2 hc;have hset:=sK (B:=B64) z' (jX (show j+i<us.length by omega));rw[bX]at hset;have hnew:=YH hv hset a4;rw[←pV,←ax]at hnew;obtain⟨bs',us',c2,k1,k2,k3,k4,k5,k6,k7,k8,k9⟩:=ih (i+1) f (bs.set l ⟨c64 (us.set (j+i) z'),.rw⟩) (us.set (j+i) z') c' (va h1) (gF hne h2) (by rw[bB];exact hl) (od su a2) a3 hnew (by omega) (by omega);refine⟨bs',us',c2,k1,k2,by rw[k3,bB],k4,k5,k6,λt ht=>by rw[k7 t ht,rP (by omega)],λl' x hl' hx=>k8 l' x hl' (gF hl' hx),?_⟩;rw[eM];unfold pZ;refine th (fe (by omega)) (th eO (th (uS h1 (by omega) (by omega)) (th (uS h2 (by omega) (by omega)) ?_)));rw[aV];refine th (a1 _ _) (th iO (th iN (th (AD h1 (by omega) (by omega)) (th (fH (by omega)) ?_))));rw[bj f 1 k];exact k9
theorem XI{PN v1 v2 z z' c b b' B qv V:Nat}(h:v1+qv=V+(b+c)*PN)(h1:v2+z*PN=v1+z'*PN)(h2:z'+c+b=z+b'*B):v2+qv=V+b'*(B*PN):=by
 have h4:(z'+c+b)*PN=(z+b'*B)*PN:=by rw[h2]
 grind
theorem ZG{P v q Q V v2 R lo:Nat}(hv:0<v)(hP:0<P)(hV:V=lo+P*R)(hlo:lo<P)(hQ:Q=R/v)(hq:Q≤q)(h:v2+q*v*P=V):q=Q:=by
 refine z1H ?_ hq;rw[hQ,dc hv];rcases az R (q*v)with h1|h1
 ·exfalso;have:=aT P h1;rw[Nat.succ_eq_add_one,bA,aj,aK P (q*v)]at this;omega
 ·exact h1
theorem z00{P v q Q V v2 R lo X:Nat}(hv:0<v)(hP:0<P)(hV:V=lo+P*R)(hQ:Q=R/v)(hq:q≤Q+1)(hX:v2<X)(h:v2+q*v*P=V+X):q=Q+1:=by
 refine z1H hq ?_;rcases az Q q with h1|h1
 ·exact h1
 ·exfalso;have h2:q*v≤Q*v:=aL _ h1;have h3:=dF R v;rw[←hQ]at h3;have h4:q*v*P≤R*P:=aL _ (by omega);rw[aK R]at h4;omega
theorem VV{PN B v3 c z' lo W:Nat}(hc:c≤1)(hlo:lo<PN)(h3:v3=lo+PN*z')(hz:z'<B)(hW:v3+c*PN=W+B*PN):c=1∧z'+1=B∧W=lo:=by
 have hc1:c=1:=by
  rcases(show c=0∨c=1 by omega)with h|h
  ·exfalso;subst h;have:=aT PN (show z'+1≤B from hz);rw[bA,aj,aK PN B]at this;omega
  ·exact h
 subst hc1;have hz1:z'+1=B:=by
  rcases az (z'+1) B with h|h
  ·exfalso;have:=aT PN (show z'+1+1≤B from h);rw[bA PN (z'+1) 1,bA PN z' 1,aj,aK PN B]at this;omega
  ·omega
 refine⟨rfl,hz1,?_⟩;subst hz1;rw[aS,bG,aK z']at hW;omega
end
end Go.Proofs.Ev
set_option maxRecDepth 10000
namespace Go.Proofs.Ev
noncomputable section
theorem ZF{R U P V Ul vl' v Q:Nat}(hR:R=U*P+Ul)(hU:Ul<P)(hv:v=V*P+vl')(hQ:Q*v≤R):Q*V≤U:=by
 have h1:Q*(V*P)≤Q*v:=aT _ (by omega);rw[←aa]at h1;have h2:Q*V*P<(U+1)*P:=by rw[aS,bG];omega
 exact bZ (z1X h2)
theorem Zz{R U P V Ul vl' v Q q:Nat}(hP:0<P)(hR:R=U*P+Ul)(hv:v=V*P+vl')(hl:vl'<P)(hQ:R<(Q+1)*v)(hV:Q+1≤V)(hq:q*V≤U):q≤Q+1:=by
 rcases az (Q+1) q with h|h
 ·exfalso;have h1:(Q+2)*V*P≤q*V*P:=aL _ (aL _ h);have h2:q*V*P≤U*P:=aL _ hq;have h3:(Q+1)*v≤(Q+1)*(V*P)+(Q+1)*P:=by rw[←bA];exact aT _ (by omega)
  rw[←aa]at h3;have h4:(Q+2)*V*P=(Q+1)*V*P+V*P:=by rw[←aS];congr 1;rw[aS (Q+1) 1,bG]
  have h5:(Q+1)*P≤V*P:=aL _ hV;omega
 ·exact h
theorem Lm{B q r u2 u1 u0 v1 v0:Nat}(h:q*v1+r=u2*B+u1)(h1:q*v0≤r*B+u0):q*(v1*B+v0)≤(u2*B+u1)*B+u0:=by
 rw[←h,bA,aS,←aa];omega
theorem XK{B q r u2 u1 u0 v1 v0 Q:Nat}(h:q*v1+r=u2*B+u1)(h1:r*B+u0<q*v0)(hQ:Q*(v1*B+v0)≤(u2*B+u1)*B+u0):Q+1≤q:=by
 rcases az Q q with h2|h2
 ·exact h2
 ·exfalso;have h3:q*(v1*B+v0)≤Q*(v1*B+v0):=aL _ h2;have h4:q*(v1*B+v0)=q*v1*B+q*v0:=by rw[bA,←aa]
  have h5:(u2*B+u1)*B=q*v1*B+r*B:=by rw[←h,aS]
  omega
theorem z02{hi lo r u0 B:Nat}(hl:lo<B)(hu:u0<B):(hi<r∨hi=r∧lo≤u0)↔hi*B+lo≤r*B+u0:=by
 constructor
 ·rintro (h|⟨h,h1⟩)
  ·have:=aL B h;rw[eA]at this;omega
  ·subst h;omega
 ·intro h;rcases cp hi r with h1|h1|h1
  ·exact Or.inl h1
  ·subst h1;exact Or.inr ⟨rfl,by omega⟩
  ·exfalso;have:=aL B h1;rw[eA]at this;omega
theorem Qk{B m u2 u1 u0 v1 v0 Rl vl' R v:Nat}(hB:2≤B)(hR:R=((u2*B+u1)*B+u0)*B^m+Rl)(hRl:Rl<B^m)(hv:v=(v1*B+v0)*B^m+vl')(hvl:vl'<B^m)
 (hu0:u0<B) (hu1:u1<B) (hv0:v0<B) (htop:B≤2*v1) (hlt:R<v*B):
 0<v∧u2≤v1∧R/v<B∧R/v*v1≤u2*B+u1∧(∀q,q*(v1*B+v0)≤(u2*B+u1)*B+u0→q≤R/v+1)∧R/v*(v1*B+v0)≤(u2*B+u1)*B+u0:=by
 have hP:0<B^m:=bN (by omega);have hv1:1≤v1:=by omega
 have hvB:B≤v1*B+v0:=by have:=aL B hv1;rw[bG]at this;omega
 have hvp:0<v:=by
  have:0<(v1*B+v0)*B^m:=co (by omega) hP;omega
 have hQ:R/v<B:=by rw[bp hvp,aK];exact hlt
 have hQv:R/v*v≤R:=dF R v;have hQ1:R<(R/v+1)*v:=by rw[aS,bG,aK];exact Nat.lt_mul_div_succ R hvp
 have h1:B^(m+1)=B*B^m:=by rw[ax,aK]
 have hl1:u0*B^m+Rl<B^(m+1):=by
  have:=aL (B^m) (show u0+1≤B from hu0);rw[aS,bG]at this;omega
 have hl2:v0*B^m+vl'<B^(m+1):=by
  have:=aL (B^m) (show v0+1≤B from hv0);rw[aS,bG]at this;omega
 have hR1:R=(u2*B+u1)*B^(m+1)+(u0*B^m+Rl):=by rw[hR,h1,aS,aa];omega
 have hv':v=v1*B^(m+1)+(v0*B^m+vl'):=by rw[hv,h1,aS,aa];omega
 refine⟨hvp,?_,hQ,ZF hR1 hl1 hv' hQv,λq hq=>Zz hP hR hv hvl hQ1 (by omega) hq,ZF hR hRl hv hQv⟩;rcases az v1 u2 with h|h
 ·exfalso;have h2:(v1+1)*B^(m+1)*B≤u2*B^(m+1)*B:=aL _ (aL _ h);have h3:v<(v1+1)*B^(m+1):=by rw[aS,bG];omega
  have h4:v*B≤(v1+1)*B^(m+1)*B:=aL _ (dO h3);have h5:u2*B*B^(m+1)=u2*B^(m+1)*B:=by rw[dK]
  have h6:(u2*B+u1)*B^(m+1)=u2*B*B^(m+1)+u1*B^(m+1):=aS _ _ _;omega
 ·exact h
theorem qI{B:Nat}:∀(k:Nat)(ws:List Nat),(∀t,k≤t→dgt ws t=0)→vl B ws=vl B (ws.take k)
 |k,[],_=>by simp
 |0,w::ws,h=>by
  have h0:w=0:=h 0 (aE _);have h1:=qI (B:=B) 0 ws (λt _=>h (t+1) (by omega));show w+B*vl B ws=0;rw[h0,h1];simp[vl]
 |k+1,w::ws,h=>by
  show w+B*vl B ws=w+B*vl B (ws.take k);rw[qI k ws (λt ht=>h (t+1) (by omega))]
theorem tV{ws:List Nat}{i t:Nat}:dgt (ws.drop i) t=dgt ws (i+t):=by
 unfold dgt;rw[aD,aD,bw]
theorem Bw{B:Nat}{ws:List Nat}{j:Nat}(h:j≤ws.length):vl B ws=vl B (ws.take j)+B^j*vl B (ws.drop j):=by
 conv=>lhs;rw[←c7 j ws]
 rw[ri,aZ,bS h]
theorem nH{B:Nat}{ws:List Nat}{k:Nat}(s:Sm B ws)(hB:0<B):vl B (ws.take k)<B^k:=by
 have h1:=uQ (B:=B) (ws:=ws.take k) (λw hw=>s w (br hw));exact bk h1 (bg hB (by rw[aZ];omega))
theorem O5{B:Nat}{ws:List Nat}{m:Nat}(hz:∀t,m+3≤t→dgt ws t=0):vl B ws=((dgt ws (m+2)*B+dgt ws (m+1))*B+dgt ws m)*B^m+vl B (ws.take m):=by
 rw[qI (m+3) ws hz,pV,pV,pV,ax B (m+1),ax B m];generalize B^m=P;grind
theorem WH{B:Nat}{ws:List Nat}{m:Nat}:vl B (ws.take (m+2))=(dgt ws (m+1)*B+dgt ws m)*B^m+vl B (ws.take m):=by
 rw[pV,pV,ax];generalize B^m=P;grind
structure StD (bs:List Blk) (us vf:List Nat) (l lv j n Q v:Nat) (bs':List Blk) (us':List Nat):Prop where
 b1:bs'[l]?=some ⟨c64 us',.rw⟩
 b2:bs'[lv]?=some ⟨c64 vf,.rw⟩
 len:us'.length=us.length
 sm:Sm B64 us'
 hi:∀t,j+n<t→dgt us' t=dgt us t
 val:vl B64 us'+Q*v*B64^j=vl B64 us
 keep:∀l' x,l≠l'→bs[l']?=some x→bs'[l']?=some x
theorem JO{us:List Nat}{bs:List Blk}{l j n cm:Nat}{ex:Bool}{K:D→LS→Rs}(h:bs[l]?=some ⟨c64 us,.rw⟩)(hl:j+n<us.length){i:Nat}(hi:i≤n):(eJ 1 (mem bs) (.sl l j (n+1) cm 1 ex) (.i .i64 (.ofNat i)) λa s=>eK s a K)=K (n64 (dgt us (j+i))) (mem bs):=uS h (by omega) (by omega)
theorem z08{a b c V Q x y:Nat}(h1:a+c=b+y)(h2:b+(Q+y)=V+x)(h3:Q≤V):a+c=V-Q+x:=by omega
theorem Mu{φ l lv j n cm cmv q Q:Nat}{ex exv:Bool}{us vf:List Nat}{bs:List Blk}{kk:D→LS→Rs}(hq:q<B64)(su:Sm B64 us)(sv:Sm B64 vf)(hvf:n≤vf.length)(hne:l≠lv)(hn:n≤100000000000)(hφ:n+4<φ)
 (h1:bs[l]?=some ⟨c64 us,.rw⟩) (h2:bs[lv]?=some ⟨c64 vf,.rw⟩) (hl:j+n<us.length) (hz:∀t,j+n<t→dgt us t=0) (hv:0<vl B64 (vf.take n)) (hQ:Q=vl B64 (us.drop j)/vl B64 (vf.take n)) (hq1:Q≤q) (hq2:q≤Q+1):
 ∃bs' us',StD bs us vf l lv j n Q (vl B64 (vf.take n)) bs' us'∧
 lp (λ(_ _ _ _ _ _ _ _:D)(_:LS)=>none) (iy φ kk) φ (.sl l j (n+1) cm 1 ex) (.sl lv 0 n cmv 1 exv) (.i .i64 (.ofNat n)) (n64 q) (n64 0) (n64 0) (.i .i64 (.ofNat n)) (.i .i64 (.ofNat 0)) (mem bs)=kk (n64 Q) (mem bs'):=by
 have hBp:0<B64:=by decide
 obtain⟨bs1,us1,b1,c1,g1,g2,g3,g4,g5,g6,g7,g8,g9,g10⟩:=TH (φ:=φ) (cm:=cm) (cmv:=cmv) (ex:=ex) (exv:=exv) (kk:=kk) (j:=j) (V:=vl B64 us) hq sv hvf hne hn n 0 φ bs us 0 0 h1 h2 hl su (by omega) (by decide) (by simp[vl]) (by omega) (by omega);have e0:n64 0=n64 0:=rfl;obtain⟨f,hf⟩:∃f,φ-n=f+1:=⟨φ-n-1,by omega⟩
 have d1:dgt us1 (j+n)<B64:=jY g4 hBp _;obtain⟨d2,b2,s1,s2,s3,s4⟩:=Gt d1 g6 g5;have hset:=sK (B:=B64) d2 (jX (show j+n<us1.length by omega));rw[bX]at hset;have hv2:=XI g7 hset s4;have hcut:=Bw (B:=B64) (show j≤us.length by omega);have hlo:=nH (k:=j) su hBp;have hP:0<B64^j:=bN hBp;have hPN:B64^j*B64^n=B64^(j+n):=(bX _ _ _).symm;refine Exists.elim (p:=λ_=>True) ⟨0,trivial⟩ λ_ _=>?_;rw[g10,hf,eM];have hb2:b2=0∨b2=1:=by omega
 rcases hb2 with rfl|rfl
 ·rw[bT,bH]at hv2;refine⟨bs1.set l ⟨c64 (us1.set (j+n) d2),.rw⟩,us1.set (j+n) d2,⟨va g1,gF hne g2,by rw[bB,g3],od g4 s2,λt ht=>by rw[rP (by omega),g8 t (by omega)],?_,λl' x hl' hx=>gF hl' (g9 l' x hl' hx)⟩,?_⟩
  ·have:=ZG hv hP hcut hlo hQ hq1 hv2;rw[←this];exact hv2
  ·have:=ZG hv hP hcut hlo hQ hq1 hv2;rw[←this];unfold iy;exact th (gA (by omega)) (th eP (th (JO g1 (by omega) (aE n)) (th (s1 _ _) (th iO (th iN (th (AD g1 (by omega) (by omega)) (th (oo rfl) eO)))))))
 ·have hz1:∀t,j+n+1≤t→dgt (us1.set (j+n) d2) t=0:=λt ht=>by rw[rP (by omega),g8 t (by omega),hz t (by omega)]
  have hX:vl B64 (us1.set (j+n) d2)<B64*(B64^j*B64^n):=by
   rw[qI (j+n+1) _ hz1,hPN];have:=nH (k:=j+n+1) (od (i:=j+n) g4 s2) hBp;rwa[ax,aK]at this
  have hqQ:=z00 hv hP hcut hQ hq2 hX (by rw[bG]at hv2;exact hv2);have hsm2:=od (i:=j+n) g4 s2;obtain⟨bs3,us3,c3,k1,k2,k3,k4,k5,k6,k7,k8,k9⟩:=TI (φ:=φ) (cm:=cm) (cmv:=cmv) (ex:=ex) (exv:=exv) (x53:=n64 q) (kk:=kk) (j:=j) (V:=vl B64 (us1.set (j+n) d2)) sv hvf hne hn n 0 φ (bs1.set l ⟨c64 (us1.set (j+n) d2),.rw⟩) (us1.set (j+n) d2) 0 (va g1) (gF hne g2) (by rw[bB];omega) hsm2 (by omega) (by simp[vl]) (by omega) (by omega);rw[bB]at k3;have hz3:∀t,j+n+1≤t→dgt us3 t=0:=λt ht=>by rw[k7 t (by omega),hz1 t ht]
  have d3:dgt us3 (j+n)<B64:=jY k4 hBp _;have h3v:vl B64 us3=vl B64 (us3.take (j+n))+B64^(j+n)*dgt us3 (j+n):=by
   conv=>lhs;rw[qI (j+n+1) us3 hz3,pV]
   rw[aK]
  have hQv:Q*vl B64 (vf.take n)*B64^j≤vl B64 us:=by
   have h4:Q*vl B64 (vf.take n)≤vl B64 (us.drop j):=by rw[hQ];exact dF _ _
   have h5:=aT (B64^j) h4;rw[aK]at h5;omega
  rw[hPN]at k6 hv2;have hab:=VV (PN:=B64^(j+n)) (B:=B64) (v3:=vl B64 us3) (c:=c3) (z':=dgt us3 (j+n)) (lo:=vl B64 (us3.take (j+n))) (W:=vl B64 us-Q*vl B64 (vf.take n)*B64^j) k5 (nH k4 hBp) h3v d3 (by
   rw[hqQ,aS,aS,bG,bG]at hv2;exact z08 k6 hv2 hQv)
  obtain⟨e1,e2,e3⟩:=hab;have hset3:=sK (B:=B64) 0 (jX (show j+n<us3.length by omega));rw[bT,bH,aK]at hset3;refine⟨bs3.set l ⟨c64 (us3.set (j+n) 0),.rw⟩,us3.set (j+n) 0,⟨va k1,gF hne k2,by rw[bB,k3,g3],od k4 hBp,λt ht=>by rw[rP (by omega),k7 t (by omega),rP (by omega),g8 t (by omega)],by omega,λl' x hl' hx=>gF hl' (k8 l' x hl' (gF hl' (g9 l' x hl' hx)))⟩,?_⟩;obtain⟨f3,hf3⟩:∃f,φ-n=f+1:=⟨φ-n-1,by omega⟩
  have e4:(dgt us3 (j+n)+c3)%18446744073709551616=0:=by
   rw[e1,e2];decide
  unfold iy;refine th (gA (by omega)) (th eP (th (JO g1 (by omega) (aE n)) (th (s1 _ _) (th iO (th iN (th (AD g1 (by omega) (by omega)) (th (sD (by omega)) (th eP (k9.trans ?_)))))))));rw[hf3,eM];unfold pZ;refine th (gA (by omega)) (th eP (th (JO k1 (by omega) (aE n)) (th Sb ?_)));rw[e4];refine th (AD k1 (by omega) (by omega)) (th (wv (by omega) (by have:=hq;show q<18446744073709551616;exact hq)) ?_);rw[hqQ,a8];rfl
theorem TG{φ l lv j m cm cmv Q u2 u1 u0 v1 v0:Nat}{ex exv:Bool}{us vf:List Nat}{bs:List Blk}{j11:D→D→D→D→LS→Rs}(sv:Sm B64 vf)(su:Sm B64 us)(hn:m≤100000000000)
 (h1:bs[l]?=some ⟨c64 us,.rw⟩) (h2:bs[lv]?=some ⟨c64 vf,.rw⟩) (hvf:m+2≤vf.length) (hl:j+(m+2)<us.length) (e2:dgt us (j+m)=u0) (f1:dgt vf (m+1)=v1) (f0:dgt vf m=v0) (hv1:9223372036854775808≤v1)
 (hQ:Q*(v1*B64+v0)≤(u2*B64+u1)*B64+u0):∀(k f q r o:Nat),q*v1+(r+o*B64)=u2*B64+u1→o≤1→Q≤q→q<B64→r<B64→(o=0→B64≤r+k*v1)→k+1<f→
 ∃q',Q≤q'∧q'<B64∧q'*(v1*B64+v0)≤(u2*B64+u1)*B64+u0∧
 lp (λ(_ _ _ _ _ _:D)(_:LS)=>none) (jd φ j11) f (.sl l j (m+3) cm 1 ex) (.sl lv 0 (m+2) cmv 1 exv) (.i .i64 (.ofNat (m+2))) (n64 q) (n64 r) (n64 o) (mem bs)=j11 (.sl l j (m+3) cm 1 ex) (.sl lv 0 (m+2) cmv 1 exv) (.i .i64 (.ofNat (m+2))) (n64 q') (mem bs):=by
 have hBp:0<B64:=by decide
 have hu0:u0<B64:=e2▸jY su hBp _;have hv0:v0<B64:=f0▸jY sv hBp _;have hv1':v1<B64:=f1▸jY sv hBp _;have one:∀(f q r:Nat),q*v1+(r+1*B64)=u2*B64+u1→q<B64→0<f→q*(v1*B64+v0)≤(u2*B64+u1)*B64+u0∧
  lp (λ(_ _ _ _ _ _:D)(_:LS)=>none) (jd φ j11) f (.sl l j (m+3) cm 1 ex) (.sl lv 0 (m+2) cmv 1 exv) (.i .i64 (.ofNat (m+2))) (n64 q) (n64 r) (n64 1) (mem bs)=j11 (.sl l j (m+3) cm 1 ex) (.sl lv 0 (m+2) cmv 1 exv) (.i .i64 (.ofNat (m+2))) (n64 q) (mem bs):=by
  intro f q r hq hqb hf;obtain⟨f,rfl⟩:∃p,f=p+1:=⟨f-1,by omega⟩
  refine⟨Lm hq ?_,?_⟩
  ·have h3:q*v0≤B64*B64:=cA (dO hqb) (dO hv0);have h4:(r+1*B64)*B64=r*B64+B64*B64:=by rw[aS,bG]
   rw[h4];exact bP h3 (bP (z2a _ _) (z1x _ _))
  ·rw[eM];unfold jd;exact th (sD (by omega)) eP
 intro k
 induction k with
 |zero=>
  intro f q r o h0 ho hQq hq hr hk hf;have:o=1:=by
   rcases(show o=0∨o=1 by omega)with h|h
   ·have:=hk h;rw[bT]at this;omega
   ·exact h
  subst this;obtain⟨a,b⟩:=one f q r h0 hq (by omega);exact⟨q,hQq,hq,a,b⟩
 |succ k ih=>
  intro f q r o h0 ho hQq hq hr hk hf;rcases(show o=0∨o=1 by omega)with rfl|rfl
  ·obtain⟨f,rfl⟩:∃p,f=p+1:=⟨f-1,by omega⟩
   rw[bT,bH]at h0;obtain⟨hi,lo,m1,m2,m3⟩:=A7 hq hv0;have hil:=z02 (hi:=hi) (r:=r) m3 hu0;rw[m2]at hil;by_cases hc:q*v0≤r*B64+u0
   ·refine⟨q,hQq,hq,Lm h0 hc,?_⟩;rw[eM];unfold jd;refine th (oo rfl) (th eO (th (gW (by omega) (by omega)) (th (uS h2 (by omega) (by omega)) ?_)));rw[aV,show m+2-2=m by omega,f0];refine th (fF m1) (th iO (th iN ?_));rcases hil.2 hc with h3|⟨h3,h4⟩
    ·exact th (fe h3) (th iC (th iC (th iC (th iC (th mS (th mS (th mS (th mS (th mS (th mS (th mS (th iC (th fQ eO)))))))))))))
    ·refine th (gA (by omega)) (th fg (th fg (th fg (th (oo h3) (th fg (th eo (th eo (th eo (th eo (th (gW (by omega) (by omega)) (th eo ?_)))))))))));rw[show m+2-2=m by omega];refine Eq.trans (b:=eI (.b true) true (λk=>eJ 1 (mem bs) (.sl l j (m+3) cm 1 ex) (.i .i64 (.ofNat m)) λa s=>eK s a k) (mem bs) λx96 s=>_) rfl ?_;refine th eo (th (uS h1 (by omega) (by omega)) ?_);rw[e2];refine th eo (th Ae ?_);rw[aH h4];exact th fg (th fQ (th gD eO))
   ·have hdec:=XK h0 (show r*B64+u0<q*v0 by omega) hQ;obtain⟨d,c',a1,a2,a3,a4⟩:=wA (c:=0) hr hv1' (by omega);have hqm:(q-1)*v1+v1=q*v1:=by rw[←eA];congr 1;omega
    obtain⟨q',z1,z2,z3,z4⟩:=ih f (q-1) d c' (by omega) a3 (by omega) (by omega) a2 (λh=>by subst h;have:=hk rfl;rw[aS,bG]at this;omega) (by omega);refine⟨q',z1,z2,z3,?_⟩;rw[eM];unfold jd;refine th (oo rfl) (th eO (th (gW (by omega) (by omega)) (th (uS h2 (by omega) (by omega)) ?_)));rw[aV,show m+2-2=m by omega,f0];refine th (fF m1) (th iO (th iN ?_));have fin:∀K:D→LS→Rs,K=(λx99 s=>eQ x99 (j11 (.sl l j (m+3) cm 1 ex) (.sl lv 0 (m+2) cmv 1 exv) (.i .i64 (.ofNat (m+2))) (n64 q) s)
     (fA (n64 q) (.i .u64 (.ofNat 1)) λx100=>fA (.i .i64 (.ofNat (m+2))) (.i .i64 (.ofNat 1)) λx101=>eJ 1 s (.sl lv 0 (m+2) cmv 1 exv) x101 λx102 s=>eK s x102 λx103 s=>oV (n64 r) x103 (.i .u64 (.ofNat 0)) s λx104 s=>fh x104 0 s λx105 s=>fh x104 1 s λx106 s=>
      lp (λ(_ _ _ _ _ _:D)(_:LS)=>none) (jd φ j11) f (.sl l j (m+3) cm 1 ex) (.sl lv 0 (m+2) cmv 1 exv) (.i .i64 (.ofNat (m+2))) x100 x105 x106 s))→
     K (.b false) (mem bs)=j11 (.sl l j (m+3) cm 1 ex) (.sl lv 0 (m+2) cmv 1 exv) (.i .i64 (.ofNat (m+2))) (n64 q') (mem bs):=by
     intro K hK;subst hK;refine th eP (th (wv (by omega) (by have:=hq;show q<18446744073709551616;exact hq)) (th (gW (by omega) (by omega)) (th (uS h2 (by omega) (by omega)) ?_)));rw[aV,show m+2-1=m+1 by omega,f1];exact th (a1 _ _) (th iO (th iN z4))
    by_cases he:hi=r
    ·refine th (gA (by omega)) (th fg (th fg (th fg (th (oo he) (th fg (th eo (th eo (th eo (th eo (th (gW (by omega) (by omega)) (th eo ?_)))))))))));rw[show m+2-2=m by omega];refine Eq.trans (b:=eI (.b true) true (λk=>eJ 1 (mem bs) (.sl l j (m+3) cm 1 ex) (.i .i64 (.ofNat m)) λa s=>eK s a k) (mem bs) λx96 s=>_) rfl ?_;refine th eo (th (uS h1 (by omega) (by omega)) ?_);rw[e2];refine th eo (th Ae ?_);rw[mY (show ¬lo≤u0 from λh=>hc (hil.1 (Or.inr ⟨he,h⟩)))];exact th fg (th fQ (th gD (fin _ rfl)))
    ·have hnlt:¬hi<r:=λh=>hc (hil.1 (Or.inl h));refine th (gA hnlt) (th fg (th fg (th fg (th (sD he) (th fg (th fX (th fX (th fX (th fX (th fX (th fX (th fX (th fg (th gD (th gD (fin _ rfl))))))))))))))))
  ·obtain⟨a,b⟩:=one f q r h0 hq (by omega);exact⟨q,hQq,hq,a,b⟩
theorem Oi{φ l lv j m cm cmv:Nat}{ex exv:Bool}{us vf:List Nat}{bs:List Blk}{kk:D→LS→Rs}(su:Sm B64 us)(sv:Sm B64 vf)(hvf:m+2≤vf.length)(hne:l≠lv)(hn:m≤10000000000)(hφ:m+10<φ)
 (h1:bs[l]?=some ⟨c64 us,.rw⟩) (h2:bs[lv]?=some ⟨c64 vf,.rw⟩) (hl:j+(m+2)<us.length) (hz:∀t,j+(m+2)<t→dgt us t=0) (hv1:9223372036854775808≤dgt vf (m+1)) (hlt:vl B64 (us.drop j)<vl B64 (vf.take (m+2))*B64):
 ∃bs' us',StD bs us vf l lv j (m+2) (vl B64 (us.drop j)/vl B64 (vf.take (m+2))) (vl B64 (vf.take (m+2))) bs' us'∧
 pU φ [.sl l j (m+2+1) cm 1 ex,.sl lv 0 (m+2) cmv 1 exv] (mem bs) kk=kk (n64 (vl B64 (us.drop j)/vl B64 (vf.take (m+2)))) (mem bs'):=by
 have hBp:0<B64:=by decide
 have hR:=O5 (B:=B64) (ws:=us.drop j) (m:=m) (λt ht=>by rw[tV];exact hz _ (by omega));rw[tV,tV,tV]at hR;have sud:Sm B64 (us.drop j):=λw hw=>su w (eE hw);have hu2:dgt us (j+(m+2))<B64:=jY su hBp _;have hu1:dgt us (j+(m+1))<B64:=jY su hBp _;have hu0:dgt us (j+m)<B64:=jY su hBp _;have hv1':dgt vf (m+1)<B64:=jY sv hBp _;have hv0:dgt vf m<B64:=jY sv hBp _;obtain⟨k1,k2,k3,k4,k5,k6⟩:=Qk (B:=B64) (by decide) hR (nH sud hBp) (WH (B:=B64) (ws:=vf) (m:=m)) (nH sv hBp) hu0 hu1 hv0 (by show 18446744073709551616≤_;omega) hlt;have fin:∀(q r o:Nat),q*dgt vf (m+1)+(r+o*B64)=dgt us (j+(m+2))*B64+dgt us (j+(m+1))→o≤1→vl B64 (us.drop j)/vl B64 (vf.take (m+2))≤q→q<B64→r<B64→
  ∃bs' us',StD bs us vf l lv j (m+2) (vl B64 (us.drop j)/vl B64 (vf.take (m+2))) (vl B64 (vf.take (m+2))) bs' us'∧
  (lp (λ(_ _ _ _ _ _:D)(_:LS)=>none) (jd φ (λ(x12 x13 x14 x15:D)(s:LS)=>
   lp (λ(_ _ _ _ _ _ _ _:D)(_:LS)=>none) (iy φ kk) φ x12 x13 x14 x15 (.i .u64 (.ofNat 0)) (.i .u64 (.ofNat 0)) x14 (.i .i64 (.ofNat 0)) s)) φ (.sl l j (m+2+1) cm 1 ex) (.sl lv 0 (m+2) cmv 1 exv) (.i .i64 (.ofNat (m+2))) (n64 q) (n64 r) (n64 o) (mem bs))=kk (n64 (vl B64 (us.drop j)/vl B64 (vf.take (m+2)))) (mem bs'):=by
  intro q r o a1 a2 a3 a4 a5;obtain⟨q',z1,z2,z3,z4⟩:=TG (φ:=φ) (cm:=cm) (cmv:=cmv) (ex:=ex) (exv:=exv) (j11:=(λ(x12 x13 x14 x15:D)(s:LS)=>
   lp (λ(_ _ _ _ _ _ _ _:D)(_:LS)=>none) (iy φ kk) φ x12 x13 x14 x15 (.i .u64 (.ofNat 0)) (.i .u64 (.ofNat 0)) x14 (.i .i64 (.ofNat 0)) s)) sv su (by omega) h1 h2 hvf hl rfl rfl rfl hv1 k6 2 φ q r o a1 a2 a3 a4 a5 (λ_=>by show 18446744073709551616≤_;omega) (by omega)
  obtain⟨bs',us',y1,y2⟩:=Mu (φ:=φ) (cm:=cm) (cmv:=cmv) (ex:=ex) (exv:=exv) (kk:=kk) (n:=m+2) z2 su sv hvf hne (by omega) (by omega) h1 h2 hl hz k1 rfl z1 (k5 q' z3);exact⟨bs',us',y1,z4.trans y2⟩
 have hS:∀r:Rs,(∀x108 x111:D,x108=n64 (dgt us (j+(m+2)))→x111=n64 (dgt vf (m+1))→(kI x108 x111 λx112=>
 eQ x112
(fA (.i .i64 (.ofNat (m+2))) (.i .i64 (.ofNat 1)) λx113=>
 eJ 1 (mem bs) (.sl l j (m+2+1) cm 1 ex) x113 λx114 s=>
 eK s x114 λx115 s=>
 fA (.i .i64 (.ofNat (m+2))) (.i .i64 (.ofNat 1)) λx116=>
 eJ 1 s (.sl lv 0 (m+2) cmv 1 exv) x116 λx117 s=>
 eK s x117 λx118 s=>
 oV x115 x118 (.i .u64 (.ofNat 0)) s λx119 s=>
 fh x119 0 s λx120 s=>
 fh x119 1 s λx121 s=>
(lp (λ(_ _ _ _ _ _:D)(_:LS)=>none) (jd φ (λ(x12 x13 x14 x15:D)(s:LS)=>
  lp (λ(_ _ _ _ _ _ _ _:D)(_:LS)=>none) (iy φ kk) φ x12 x13 x14 x15 (.i .u64 (.ofNat 0)) (.i .u64 (.ofNat 0)) x14 (.i .i64 (.ofNat 0)) s)) φ) (.sl l j (m+2+1) cm 1 ex) (.sl lv 0 (m+2) cmv 1 exv) (.i .i64 (.ofNat (m+2))) (.i .u64 (.ofNat 18446744073709551615)) x120 x121 s)
(eJ 1 (mem bs) (.sl l j (m+2+1) cm 1 ex) (.i .i64 (.ofNat (m+2))) λx122 s=>
 eK s x122 λx123 s=>
 fA (.i .i64 (.ofNat (m+2))) (.i .i64 (.ofNat 1)) λx124=>
 eJ 1 s (.sl l j (m+2+1) cm 1 ex) x124 λx125 s=>
 eK s x125 λx126 s=>
 fA (.i .i64 (.ofNat (m+2))) (.i .i64 (.ofNat 1)) λx127=>
 eJ 1 s (.sl lv 0 (m+2) cmv 1 exv) x127 λx128 s=>
 eK s x128 λx129 s=>
 eS (gh φ) [x123,x126,x129] s λx130 s=>
 fh x130 0 s λx131 s=>
 fh x130 1 s λx132 s=>
(lp (λ(_ _ _ _ _ _:D)(_:LS)=>none) (jd φ (λ(x12 x13 x14 x15:D)(s:LS)=>
  lp (λ(_ _ _ _ _ _ _ _:D)(_:LS)=>none) (iy φ kk) φ x12 x13 x14 x15 (.i .u64 (.ofNat 0)) (.i .u64 (.ofNat 0)) x14 (.i .i64 (.ofNat 0)) s)) φ) (.sl l j (m+2+1) cm 1 ex) (.sl lv 0 (m+2) cmv 1 exv) (.i .i64 (.ofNat (m+2))) x131 x132 (.i .u64 (.ofNat 0)) s))=r)→pU φ [.sl l j (m+2+1) cm 1 ex,.sl lv 0 (m+2) cmv 1 exv] (mem bs) kk=r:=by
  intro r hr;rw[BW];unfold AI;dsimp only[eV,eY];refine th mX (th om (th om (th (JO h1 hl (aE _)) (th (gW (by omega) (by omega)) (th (uS h2 (by omega) (by omega)) ?_)))));rw[aV,show m+2-1=m+1 by omega];exact hr _ _ rfl rfl
 by_cases hc:dgt vf (m+1)≤dgt us (j+(m+2))
 ·have he:dgt us (j+(m+2))=dgt vf (m+1):=by omega
  obtain⟨d,c',a1,a2,a3,a4⟩:=wA (c:=0) hu1 hv1' (by omega);obtain⟨bs',us',y1,y2⟩:=fin 18446744073709551615 d c' (by
   rw[he];show 18446744073709551615*dgt vf (m+1)+(d+c'*18446744073709551616)=dgt vf (m+1)*18446744073709551616+_;have:c'*18446744073709551616+d=dgt us (j+(m+1))+dgt vf (m+1)+0:=a4;omega) a3 (by
   have:vl B64 (us.drop j)/vl B64 (vf.take (m+2))<18446744073709551616:=k3;omega) (by decide) a2
  refine⟨bs',us',y1,hS _ λx y hx hy=>?_⟩;subst hx hy;refine th (qR hc) (th eO (th (gW (by omega) (by omega)) (th (JO h1 hl (by omega)) (th (gW (by omega) (by omega)) (th (uS h2 (by omega) (by omega)) ?_)))));rw[aV,show m+2-1=m+1 by omega];exact th (a1 _ _) (th iO (th iN y2))
 ·obtain⟨N,hN⟩:∃N,dgt us (j+(m+2))*18446744073709551616+dgt us (j+(m+1))=N:=⟨_,rfl⟩
  have hN':dgt us (j+(m+2))*B64+dgt us (j+(m+1))=N:=hN;have hd:=FG (φ:=φ) (h:=dgt us (j+(m+2))) (l:=dgt us (j+(m+1))) (y:=dgt vf (m+1)) hN hu1 hv1' (by omega) (by omega);have hmod:=ce N (dgt vf (m+1));have hml:=bc N (show 0<dgt vf (m+1) by omega);rw[hN']at k4 fin;have hlt2:N/dgt vf (m+1)<B64:=by
   rw[bp (by omega)];have h8:=aL 18446744073709551616 (show dgt us (j+(m+2))+1≤dgt vf (m+1) by omega);have h9:dgt us (j+(m+1))<18446744073709551616:=hu1;rw[aK];exact bk (by omega) h8
  obtain⟨bs',us',y1,y2⟩:=fin (N/dgt vf (m+1)) (N%dgt vf (m+1)) 0 (by rw[aK,bT,bH];exact hmod) (by omega) (by rw[dc (by omega)];exact k4) hlt2 (z1J hml hv1');refine⟨bs',us',y1,hS _ λx y hx hy=>?_⟩;subst hx hy;refine th (zj hc) (th eP (th (JO h1 hl (aE _)) (th (gW (by omega) (by omega)) (th (JO h1 hl (by omega)) (th (gW (by omega) (by omega)) (th (uS h2 (by omega) (by omega)) ?_))))));rw[aV,show m+2-1=m+1 by omega];exact th (fF hd) (th iO (th iN y2))
section
variable {bs:List Blk} {ws:List Nat} {b:Blk} {l off n cm h lo z m:Nat} {ex:Bool} {K:D→LS→Rs} {k1 k2:IntKind}
theorem CH(hg:bs[l]?=some b)(hl:b.st.live=true)(hh:h≤cm)(h0:0<cm):kn z (mem bs) (.sl l off n cm z ex) none (some (.i k1 (.ofNat h))) none K=K (.sl l off h cm z ex) (mem bs):=by
 show(jL (mem bs) l λb=>cnd (lv b.st) (cnd (Nat.ble cm cm) (cnd (Nat.ble h cm) (cnd (Nat.ble 0 h) (cnd (Nat.beq z z) (my ex λex=>cnd (Nat.blt 0 cm) (frc (Nat.add off (Nat.mul 0 z)) λoff=>frc (Nat.sub h 0) λlen=>frc (Nat.sub cm 0) λcm=>K (.sl l off len cm z ex) (mem bs)) (K (.tree [] 0 ex) (mem bs))) none) none) none) none) none)=_;rw[gg hg,rN,hl,aH (aE cm),aH hh,aH (a9 h),ew h0];simp only[eL,ij,fB,ei];rw[show Nat.add off (Nat.mul 0 z)=off by show off+0*z=off;omega];rfl
theorem WU(hg:bs[l]?=some b)(hl:b.st.live=true)(hlo:lo≤h)(hh:h≤cm)(h0:lo<cm):kn 1 (mem bs) (.sl l off n cm 1 ex) (some (.i k1 (.ofNat lo))) (some (.i k2 (.ofNat h))) none K=K (.sl l (off+lo) (h-lo) (cm-lo) 1 ex) (mem bs):=by
 show(jL (mem bs) l λb=>cnd (lv b.st) (cnd (Nat.ble cm cm) (cnd (Nat.ble h cm) (cnd (Nat.ble lo h) (cnd (Nat.beq 1 1) (my ex λex=>cnd (Nat.blt lo cm) (frc (Nat.add off (Nat.mul lo 1)) λoff=>frc (Nat.sub h lo) λlen=>frc (Nat.sub cm lo) λcm=>K (.sl l off len cm 1 ex) (mem bs)) (K (.tree [] 0 ex) (mem bs))) none) none) none) none) none)=_;rw[gg hg,rN,hl,aH (aE cm),aH hh,aH hlo,ew h0];simp only[eL,ij,fB,ei];rw[show Nat.add off (Nat.mul lo 1)=off+lo by show off+lo*1=off+lo;omega];rfl
theorem yJ(hg:bs[l]?=some b)(hb:b.cs=c64 ws)(hl:b.st.live=true)(hn:n≤ws.length)(hc:n≤cm)(hc0:0<cm)(hs:n≤9223372036854775807):∀(i f:Nat),i≤n→i<f→
 lp (λ(_ _:D)(_:LS)=>none) (At K) f (.sl l 0 n cm 1 ex) (.i .i64 (.ofNat i)) (mem bs)=K (.sl l 0 (tl ws i) cm 1 ex) (mem bs)
 |0,f,hi,hf=>by
  obtain⟨f,rfl⟩:∃q,f=q+1:=⟨f-1,by omega⟩
  rw[eM];unfold At;simp only[oS,fE (bC 0),xO,gD,eP];exact CH hg hl (a9 _) hc0
 |i+1,f,hi,hf=>by
  obtain⟨f,rfl⟩:∃q,f=q+1:=⟨f-1,by omega⟩
  have hlt:i<ws.length:=by omega
  have hw:=aB hlt;rw[eM];unfold At;have hm:i+1≤jp .i64:=by show i+1≤9223372036854775807;omega
  simp only[oS,ew (z27 i),uA,oi (show 1≤i+1 by omega) hm,a8];have hr:∀K:D→LS→Rs,(eJ 1 (mem bs) (.sl l 0 n cm 1 ex) (.i .i64 (.ofNat i)) λa s=>eK s a K)=K (n64 ws[i]) (mem bs):=λK=>by
   refine th (Ah hg hl (by omega)) ?_;rw[aj,aV];exact GC hg hl (by rw[hb];exact ky hw)
  refine th (hr _) (th rA ?_);by_cases h0:ws[i]=0
  ·rw[h0,show Nat.beq 0 0=true from rfl,fQ,eO];have ht:tl ws (i+1)=tl ws i:=by
    show(if ws[i]?=some 0 then tl ws i else i+1)=_;rw[hw,h0,aC rfl]
   rw[ht];exact yJ hg hb hl hn hc hc0 hs i f (by omega) (by omega)
  ·rw[gR h0,fQ,eP];have ht:tl ws (i+1)=i+1:=by
    show(if ws[i]?=some 0 then tl ws i else i+1)=_;rw[hw,aF (λe=>h0 (cK e))]
   rw[ht];exact CH hg hl (by omega) hc0
theorem zF{φ:Nat}(hg:bs[l]?=some b)(hb:b.cs=c64 ws)(hl:b.st.live=true)(hn:n≤ws.length)(hc:n≤cm)(hc0:0<cm)(hs:n≤9223372036854775807)(hφ:n<φ):fM φ [.sl l 0 n cm 1 ex] (mem bs) K=K (.sl l 0 (tl ws n) cm 1 ex) (mem bs):=by
 rw[zG];exact th mX (yJ hg hb hl hn hc hc0 hs n φ (aE _) hφ)
theorem Gs{ws:List Nat}:∀n,n≤ws.length→Tm (ws.take (tl ws n))
 |0,_=>λw hw=>by simp[tl]at hw
 |n+1,h=>by
  have hw:=aB (show n<ws.length by omega);show Tm (ws.take (if ws[n]?=some 0 then tl ws n else n+1));by_cases h0:ws[n]?=some 0
  ·rw[aC h0];exact Gs n (by omega)
  ·rw[aF h0];intro w hw';rw[z1e,aZ,bS h,cf,aC (by omega),a8]at hw';intro e;rw[e]at hw';exact h0 hw'
theorem wt:∀ws:List Nat,val ws=vl B64 ws
 |[]=>rfl
 |w::ws=>by show w+B64*val ws=w+B64*vl B64 ws;rw[wt ws]
theorem Ki{ws:List Nat}(n:Nat)(h:n≤ws.length):vl B64 (ws.take (tl ws n))=vl B64 (ws.take n):=by rw[←wt,←wt];exact Iv ws n h
theorem T0{g:Nat→Option Blk}{j:Nat}(ws:List Nat):gr (res g (j+1)) (c64 ws)=some (c64 ws,[]):=jV (k:=j) _ (vu ws)
theorem F7{g:Nat→Option Blk}{j:Nat}(hg:g l=some b)(hb:b.cs=c64 ws)(hl:b.st.live=true)(hn:n≤ws.length):res g (j+2) (.sl l 0 n cm 1 ex)=some (.tree (c64 (ws.take n)) n (ex&&cm==n),[l]):=by
 refine tI (n:=j+1) (r:=c64 (ws.take n)) hg hl ?_ (T0 _);unfold cut;rw[hb,am,aj,aC (by rw[aZ,fT];omega)];unfold c64;rw[dp]
theorem Wa{g:Nat→Option Blk}{j n:Nat}{ex:Bool}{ws:List Nat}:res g (j+2) (.tree (c64 ws) n ex)=some (.tree (c64 ws) n ex,[]):=rfl
theorem EZ{bs:List Blk}{r1 r2 A1 A2:D}{l1 l2:List Nat}(h1:res (mem bs).get 60 r1=some (A1,l1))(h2:res (mem bs).get 60 r2=some (A2,l2))(hf:sW (.tup [r1,r2])=false):eW false (mem bs) (.tup [r1,r2]) some=some (.tup [A1,A2]):=by
 have hr:mT false (mem bs).get fj (.tup [r1,r2])=some (.tup [A1,A2]):=by
  have e1:pu false (mem bs).get 60 r1=some (A1,[],l1):=by rw[show pu false (mem bs).get 60 r1=wy (res (mem bs).get 60 r1) by cases r1<;>rfl,h1];rfl
  have e2:gr (res (mem bs).get 60) [r2]=some ([A2],l2++[]):=by unfold gr;rw[h2];rfl
  show(match pu false (mem bs).get 60 r1,gr (res (mem bs).get 60) [r2]with
   |some (d,o,ls),some (ds,ls')=>if o.all λl=> !(ls++ls').contains l then some (D.tup (d::ds))else none
   |_,_=>none)=_
  rw[e1,e2];rfl
 unfold eW;rw[kx,hf,hr,gV];rfl
def ix:Nat→D
 |0=>.i .i64 (.negSucc 0)
 |k+1=>.i .i64 (.ofNat k)
theorem DG{k:Nat}(hk:k<9223372036854775808){K:D→Rs}:fA (.i .i64 (.ofNat k)) (.i .i64 (.ofNat 1)) K=K (ix k):=by
 cases k with
 |zero=>exact ze
 |succ k=>refine th (gW (by omega) (by omega)) ?_;rw[a8];rfl
theorem Wc{ws:List Nat}{i n:Nat}{ex:Bool}{s:LS}{kk:IntKind}{K:D→LS→Rs}(hl:ws.length=n)(hi:i<n):(eJ 1 s (.tree (c64 ws) n ex) (.i kk (.ofNat i)) λa s=>eK s a K)=K (n64 (dgt ws i)) s:=by
 refine th (v8 hi (by rw[aj,fT];omega)) ?_;rw[aj];exact wQ (ky (jX (by omega)))
theorem Tv{B a X Q r q r' y N:Nat}(h:X=y*Q+r)(hd:r*B+a=N)(hq:q=N/y)(hr:r'=N%y):a+B*X=y*(q+B*Q)+r':=by
 have:=ce N y;rw[←hq,←hr,←hd]at this;rw[h,bA,bA,cZ,aK B r];omega
def yI(x y:Nat)(o:Option D):Prop:=∃qs rs e e',Sm B64 qs∧Tm qs∧vl B64 qs=x/y∧Sm B64 rs∧Tm rs∧vl B64 rs=x%y∧o=some (.tup [.tree (c64 qs) qs.length e,.tree (c64 rs) rs.length e'])
theorem zH{ws:List Nat}{k:Nat}(h:k≤ws.length):(ws.take k).length=k:=by rw[aZ];omega
theorem Y6{bs:List Blk}{l1 l2 n1 n2 c1 c2:Nat}{x y:Nat}{b1 b2:Blk}{w1 w2:List Nat}{e1 e2:Bool}(g1:bs[l1]?=some b1)(g2:bs[l2]?=some b2)(h1:b1.cs=c64 w1)(h2:b2.cs=c64 w2)(v1:b1.st.live=true)(v2:b2.st.live=true)(hn1:n1≤w1.length)(hn2:n2≤w2.length)
 (s1:Sm B64 w1) (s2:Sm B64 w2) (d1:vl B64 (w1.take n1)=x/y) (d2:vl B64 (w2.take n2)=x%y):yI x y (eW false (mem bs) (.tup [.sl l1 0 (tl w1 n1) c1 1 e1,.sl l2 0 (tl w2 n2) c2 1 e2]) some):=by
 have t1:=EM w1 n1;have t2:=EM w2 n2;have l1':=zH (ws:=w1) (k:=tl w1 n1) (by omega);have l2':=zH (ws:=w2) (k:=tl w2 n2) (by omega);refine⟨w1.take (tl w1 n1),w2.take (tl w2 n2),(e1&&c1==tl w1 n1),(e2&&c2==tl w2 n2),sN s1,Gs _ hn1,by rw[Ki _ hn1];exact d1,sN s2,Gs _ hn2,by rw[Ki _ hn2];exact d2,?_⟩;rw[l1',l2'];exact EZ (F7 (j:=58) (by rw[kj];exact g1) h1 v1 (by omega)) (F7 (j:=58) (by rw[kj];exact g2) h2 v2 (by omega)) rfl
theorem KR{φ n y:Nat}{xs:List Nat}{ex ey:Bool}(hl:xs.length=n)(sx:Sm B64 xs)(hnp:0<n)(hn:n≤1000000000)(hy0:0<y)(hy:y<B64)(hφ:n+5<φ):∀(i f r:Nat)(qs:List Nat),qs.length=n→Sm B64 qs→i≤n→i<f→r<y→vl B64 (xs.drop i)=y*vl B64 (qs.drop i)+r→
 yI (vl B64 xs) y (lp (λ(_ _ _ _ _:D)(_:LS)=>none) (jz φ) f (.tree (c64 xs) n ex) (.tree [n64 y] 1 ey) (.sl 0 0 n n 1 true) (n64 r) (ix i) (mem [⟨c64 qs,.rw⟩])):=by
 intro i
 induction i with
 |zero=>
  intro f r qs hq sq hi hf hr hv;obtain⟨f,rfl⟩:∃p,f=p+1:=⟨f-1,by omega⟩
  rw[am,am]at hv;obtain⟨f1,f2⟩:=(Nat.div_mod_unique hy0).2 ⟨(by rw[hv,dH]:r+y*vl B64 qs=vl B64 xs),hr⟩
  ·have key:∀o,(lp (λ(_ _ _ _ _:D)(_:LS)=>none) (jz φ) (f+1) (.tree (c64 xs) n ex) (.tree [n64 y] 1 ey) (.sl 0 0 n n 1 true) (n64 r) (ix 0) (mem [⟨c64 qs,.rw⟩]))=o→yI (vl B64 xs) y o→yI (vl B64 xs) y (lp (λ(_ _ _ _ _:D)(_:LS)=>none) (jz φ) (f+1) (.tree (c64 xs) n ex) (.tree [n64 y] 1 ey) (.sl 0 0 n n 1 true) (n64 r) (ix 0) (mem [⟨c64 qs,.rw⟩])):=λo h1 h2=>by rw[h1];exact h2
   refine key _ ?_ (Y6 (bs:=[⟨c64 qs,.rw⟩,⟨c64 [r],.rw⟩]) (l1:=0) (l2:=1) (n1:=n) (n2:=1) (c1:=n) (c2:=1) (e1:=true) (e2:=true) (w1:=qs) (w2:=[r]) rfl rfl rfl rfl rfl rfl (by omega) (by simp) sq (F0 (z1J hr hy)) (by rw[aM (by omega)];exact f1.symm) (by rw[←show r=vl B64 xs%y from f2.symm];simp[vl]));rw[eM];unfold jz;refine th uB (th eP (th (zF (ws:=qs) rfl rfl rfl (by omega) (aE _) hnp (by omega) (by omega)) (th Hw ?_)));rw[lU,jQ];exact zF (ws:=[r]) rfl rfl rfl (aE _) (aE _) (by omega) (by omega) (by omega)
 |succ k ih=>
  intro f r qs hq sq hi hf hr hv;obtain⟨f,rfl⟩:∃p,f=p+1:=⟨f-1,by omega⟩
  have hd:=FG (φ:=φ) (h:=r) (l:=dgt xs k) (y:=y) rfl (jY sx (by decide) _) hy hr (by omega);have hN:∃N,r*18446744073709551616+dgt xs k=N:=⟨_,rfl⟩
  obtain⟨N,hN⟩:=hN;rw[hN]at hd;have hqB:N/y<B64:=by
   rw[bp hy0];have h8:=aL 18446744073709551616 (show r+1≤y from hr);have h9:dgt xs k<18446744073709551616:=jY sx (by decide) _;rw[aK];exact bk (by omega) h8
  have hqd:vl B64 ((qs.set k (N/y)).drop k)=N/y+B64*vl B64 (qs.drop (k+1)):=by
   rw[qY,z1L (by omega)];congr 1;unfold dgt;rw[aD,a7 (by omega)];rfl
  have h3:=ih f (N%y) (qs.set k (N/y)) (by rw[bB];exact hq) (od sq hqB) (by omega) (by omega) (bc _ hy0) (by
   rw[qY,hqd];exact Tv hv hN rfl rfl)
  have e:lp (λ(_ _ _ _ _:D)(_:LS)=>none) (jz φ) (f+1) (.tree (c64 xs) n ex) (.tree [n64 y] 1 ey) (.sl 0 0 n n 1 true) (n64 r) (ix (k+1)) (mem [⟨c64 qs,.rw⟩])=lp (λ(_ _ _ _ _:D)(_:LS)=>none) (jz φ) f (.tree (c64 xs) n ex) (.tree [n64 y] 1 ey) (.sl 0 0 n n 1 true) (n64 (N%y)) (ix k) (mem [⟨c64 (qs.set k (N/y)),.rw⟩]):=by
   rw[eM];unfold jz;refine th (qR (by omega)) (th eO (th (Wc hl (by omega)) (th (Wc (ws:=[y]) (i:=0) rfl (by omega)) (th (fF hd) (th iO (th iN (th (AD (l:=0) rfl (by omega) (by omega)) ?_)))))));rw[aV];exact DG (by omega)
  rw[e];exact h3
theorem WW{Bz Cz a b T' T S:Nat}(hz:0<Bz)(hS:S=a+Bz*Cz*T)(hT:T=b+Bz*Cz*T'):S/Bz=(a/Bz+Cz*(b%Bz))+Bz*Cz*(T/Bz):=by
 have e1:S/Bz=a/Bz+Cz*T:=by
  rw[hS,aa,dH,z1I hz,dH]
 have e2:T%Bz=b%Bz:=by rw[hT,aa,cr]
 have e3:=ce T Bz;rw[e2]at e3;rw[e1];have e4:Cz*T=Cz*(Bz*(T/Bz)+b%Bz):=by rw[e3]
 rw[e4,bA,aK Bz Cz,aa];omega
theorem Xq{φ n z lu lq nq cu:Nat}{eu:Bool}{us0 qs:List Nat}(hz:z≤63)(hu0:us0.length=cu)(hn:n<cu)(hcu:cu≤10000000000)(su0:Sm B64 us0){P:Option D→Prop}(hR:∀(bs:List Blk)(us:List Nat),bs[lu]?=some ⟨c64 us,.rw⟩→bs[lq]?=some ⟨c64 qs,.rw⟩→Sm B64 us→us.length=cu→vl B64 (us.take n)+B64^n*(vl B64 (us0.drop n)/2^z)=vl B64 us0/2^z→
 ∃R,P R∧(eS (AG (fM φ)) [.sl lq 0 nq nq 1 true] (mem bs) λx95 s=>kn 1 s (.sl lu 0 cu cu 1 eu) none (some (.i .i64 (.ofNat n))) none λx96 s=>(fM φ) [x96] s λx97 s=>eW false s (.tup [x95,x97]) some)=R) (hne:lu≠lq):∀(k i f:Nat)(bs:List Blk)(us:List Nat),i+k=n→k<f→bs[lu]?=some ⟨c64 us,.rw⟩→bs[lq]?=some ⟨c64 qs,.rw⟩→Sm B64 us→us.length=cu→us.drop i=us0.drop i→vl B64 (us.take i)+B64^i*(vl B64 (us0.drop i)/2^z)=vl B64 us0/2^z→
 ∃R,P R∧lp (λ(_ _ _ _ _ _:D)(_:LS)=>none) (kz φ) f (.i .i64 (.ofNat z)) (.sl lu 0 cu cu 1 eu) (.i .i64 (.ofNat n)) (.sl lq 0 nq nq 1 true) (.i .i64 (.ofNat n)) (.i .i64 (.ofNat i)) (mem bs)=R:=by
 intro k
 induction k with
 |zero=>
  intro i f bs us hi hf h1 h2 su hl hd hv;obtain⟨f,rfl⟩:∃p,f=p+1:=⟨f-1,by omega⟩
  have:i=n:=by omega
  subst this;obtain⟨R,hP,hR'⟩:=hR bs us h1 h2 su hl hv;refine⟨R,hP,?_⟩;rw[eM];unfold kz;exact th (gA (by omega)) (th eP hR')
 |succ k ih=>
  intro i f bs us hi hf h1 h2 su hl hd hv;obtain⟨f,rfl⟩:∃p,f=p+1:=⟨f-1,by omega⟩
  have hpz:0<2^z:=bN (by decide);have e64:2^z*2^(64-z)=18446744073709551616:=by rw[←bX,cY (by omega)]
  have da:dgt us i=dgt us0 i:=by
   have:=congrArg (λl=>dgt l 0) hd;simpa[tV]using this
  have db:dgt us (i+1)=dgt us0 (i+1):=by
   have:=congrArg (λl=>dgt l 1) hd;simpa[tV]using this
  have ha:dgt us0 i<18446744073709551616:=jY su0 (by decide) _;have hb:dgt us0 (i+1)<18446744073709551616:=jY su0 (by decide) _;have hnum:=WW (Bz:=2^z) (Cz:=2^(64-z)) (a:=dgt us0 i) (b:=dgt us0 (i+1)) (T:=vl B64 (us0.drop (i+1))) (S:=vl B64 (us0.drop i)) (T':=vl B64 (us0.drop (i+2))) hpz (by rw[e64];exact qY us0 i) (by rw[e64];exact qY us0 (i+1));rw[e64]at hnum;have hout:dgt us0 i/2^z<2^(64-z):=by rw[bp hpz,aK,e64];exact ha
  have hbz:dgt us0 (i+1)%2^z<2^z:=bc _ hpz;have ho:dgt us0 i/2^z+2^(64-z)*(dgt us0 (i+1)%2^z)<18446744073709551616:=by
   have:=aT (2^(64-z)) hbz;rw[Nat.mul_succ,aK _ (2^z),e64]at this;omega
  generalize hO:dgt us0 i/2^z+2^(64-z)*(dgt us0 (i+1)%2^z)=O at*;have next:∀(bs':List Blk),bs'[lu]?=some ⟨c64 (us.set i O),.rw⟩→bs'[lq]?=some ⟨c64 qs,.rw⟩→∃R,P R∧lp (λ(_ _ _ _ _ _:D)(_:LS)=>none) (kz φ) f (.i .i64 (.ofNat z)) (.sl lu 0 cu cu 1 eu) (.i .i64 (.ofNat n)) (.sl lq 0 nq nq 1 true) (.i .i64 (.ofNat n)) (.i .i64 (.ofNat (i+1))) (mem bs')=R:=λbs' g1 g2=>
   ih (i+1) f bs' (us.set i O) (by omega) (by omega) g1 g2 (od su ho) (by rw[bB];exact hl) (by
    rw[z1L (by omega),←List.drop_drop,←List.drop_drop,hd]) (by
    rw[pV,←hv,hnum];have e1:(us.set i O).take i=us.take i:=by rw[List.take_set_of_le (aE _)]
    have e2:dgt (us.set i O) i=O:=by unfold dgt;rw[aD,a7 (by omega)];rfl
    rw[e1,e2,ax,bA,aa,aK O];exact cy _ _ _)
  obtain⟨R,hP,hR'⟩:=next (bs.set lu ⟨c64 (us.set i O),.rw⟩) (va h1) (gF hne h2)
  refine⟨R,hP,?_⟩;rw[eM];unfold kz;refine th (fe (by omega)) (th eO (th om (th (uS h1 (by omega) (by omega)) (th (uc (by omega)) ?_))));rw[aV,da];refine th (AD h1 (by omega) (by omega)) ?_;rw[aV];by_cases h0:z=0
  ·subst h0;refine th (pX (by omega)) (th fX (th fX (th fX (th fX (th fX (th gD (th eP (th (fH (by omega)) ?_))))))));have e0:dgt us0 i/2^0=O:=by rw[←hO,ck,Nat.mod_one,dG,bH]
   rw[e0];exact hR'
  ·refine th (nU (by omega)) (th eo (th eo (th (fH (by omega)) (th eo (th eo (th mX (th eo (th (fe (by omega)) (th fQ (th eO ?_))))))))));refine th (uS (va h1) (by omega) (by rw[bB];omega)) (th (fH (by omega)) (th (uS (va h1) (by omega) (by rw[bB];omega)) (th (gW (by omega) (by omega)) (th (vS (by omega)) ?_))));have e2:dgt (us.set i (dgt us0 i/2^z)) (0+i)=dgt us0 i/2^z:=by unfold dgt;rw[aV,aD,a7 (by omega)];rfl
   have e3:dgt (us.set i (dgt us0 i/2^z)) (0+(i+1))=dgt us0 (i+1):=by rw[rP (by omega),aV];exact db
   rw[e2,e3];have e4:dgt us0 (i+1)*2^(64-z)%18446744073709551616=2^(64-z)*(dgt us0 (i+1)%2^z):=by
    rw[←e64,z1B,aK]
   rw[e4];have e5:dgt us0 i/2^z|||2^(64-z)*(dgt us0 (i+1)%2^z)=O:=by
    rw[Nat.or_comm,←dZ hout,dH];exact hO
   refine th (Tt (by omega) (by omega)) ?_;rw[e5];refine th (AD (va h1) (by omega) (by rw[bB];omega)) (th (fH (by omega)) ?_);rw[aV,z28,z28];exact hR'
theorem yA{B:Nat}(hB:2≤B){ws:List Nat}{m t:Nat}(h:vl B ws<B^m)(ht:m≤t):dgt ws t=0:=by
 by_cases hl:t<ws.length
 ·have h1:=AM (B:=B) (show t≤ws.length by omega);rcases bQ (dgt ws t)with h0|h0
  ·exact h0
  ·exfalso;have h2:B^m≤B^t:=bg (by omega) ht;have h3:B^t*1≤B^t*(dgt ws t+B*vl B (ws.drop (t+1))):=aT _ (by omega);omega
 ·unfold dgt;rw[aD,bW (by omega)];rfl
theorem UQ{u u' Q v P R lo lo' R':Nat}(hv:u'+Q*v*P=u)(hu:u=lo+P*R)(hlo:lo<P)(hu':u'=lo'+P*R')(hlo':lo'<P)(hQ:Q=R/v):R'=R%v:=by
 have h1:=ce R v;rw[←hQ]at h1;have hP:0<P:=by omega
 have e1:u'/P=R':=by rw[hu',dH,z1I hP,cL hlo',bH]
 have e2:u=(lo+P*(R%v))+Q*v*P:=by
  rw[hu]
  conv=>lhs;rw[←h1]
  rw[bA,aK v Q,aK P (Q*v)];omega
 have e3:u'=lo+P*(R%v):=by omega
 rw[←e1,e3,dH,z1I hP,cL hlo,bH]
theorem Xp{φ m z lu lv lq nq cu cv:Nat}{eu ev':Bool}{vf:List Nat}{X:Nat}(hlv:lu≠lv)(hlq:lu≠lq)(hvq:lv≠lq)(sv:Sm B64 vf)(hvf:m+2≤vf.length)(hm:m≤1000000000)(hcu:cu≤10000000000)(hv1:9223372036854775808≤dgt vf (m+1))(hφ:m+10<φ){P:Option D→Prop}
 (hR:∀(bs:List Blk)(us qs:List Nat),bs[lu]?=some ⟨c64 us,.rw⟩→bs[lq]?=some ⟨c64 qs,.rw⟩→Sm B64 us→Sm B64 qs→us.length=cu→qs.length=nq→vl B64 us+vl B64 (vf.take (m+2))*vl B64 qs=X→vl B64 us<vl B64 (vf.take (m+2))→
  ∃R,P R∧lp (λ(_ _ _ _ _ _:D)(_:LS)=>none) (kz φ) φ (.i .i64 (.ofNat z)) (.sl lu 0 cu cu 1 eu) (.i .i64 (.ofNat (m+2))) (.sl lq 0 nq nq 1 true) (.i .i64 (.ofNat (m+2))) (.i .i64 (.ofNat 0)) (mem bs)=R):∀(i f:Nat)(bs:List Blk)(us qs:List Nat),i+(m+2)≤cu→i≤nq→i<f→bs[lu]?=some ⟨c64 us,.rw⟩→bs[lv]?=some ⟨c64 vf,.rw⟩→bs[lq]?=some ⟨c64 qs,.rw⟩→Sm B64 us→Sm B64 qs→us.length=cu→qs.length=nq→
  vl B64 us+vl B64 (vf.take (m+2))*(B64^i*vl B64 (qs.drop i))=X→vl B64 (us.drop i)<vl B64 (vf.take (m+2))→(∀t,i+(m+2)≤t→dgt us t=0)→
  ∃R,P R∧lp (λ(_ _ _ _ _ _:D)(_:LS)=>none) (nu φ) f (.i .i64 (.ofNat z)) (.sl lv 0 (m+2) cv 1 ev') (.sl lu 0 cu cu 1 eu) (.i .i64 (.ofNat (m+2))) (.sl lq 0 nq nq 1 true) (ix i) (mem bs)=R:=by
 have hBp:0<B64:=by decide
 intro i
 induction i with
 |zero=>
  intro f bs us qs hi hq hf h1 h2 h3 su sq lu' lq' hX hlt hz;obtain⟨f,rfl⟩:∃p,f=p+1:=⟨f-1,by omega⟩
  rw[ck,bG]at hX;obtain⟨R,hP,hR'⟩:=hR bs us qs h1 h3 su sq lu' lq' hX hlt;refine⟨R,hP,?_⟩;rw[eM];unfold nu;exact th uB (th eP hR')
 |succ j ih=>
  intro f bs us qs hi hq hf h1 h2 h3 su sq lu' lq' hX hlt hz;obtain⟨f,rfl⟩:∃p,f=p+1:=⟨f-1,by omega⟩
  have hdj:=qY (B:=B64) us j;have hdg:dgt us j<B64:=jY su hBp _;have hlt2:vl B64 (us.drop j)<vl B64 (vf.take (m+2))*B64:=by
   rw[hdj];have:=aT B64 (show vl B64 (us.drop (j+1))+1≤vl B64 (vf.take (m+2))from hlt);rw[bA,aj,aK B64 (vl B64 (vf.take (m+2)))]at this;exact bk (by rw[dH];exact Nat.add_lt_add_left hdg _) this
  have hvp:0<vl B64 (vf.take (m+2)):=cP (a9 _) hlt;obtain⟨bs',us',S,e⟩:=Oi (φ:=φ) (cm:=cu-j) (cmv:=cv) (ex:=eu) (exv:=ev') (j:=j) (kk:=λx56 s=>
   eJ 1 s (.sl lq 0 nq nq 1 true) (.i .i64 (.ofNat j)) λx57 s=>
   eU 1 s x57 x56 λ_ s=>
   fA (.i .i64 (.ofNat j)) (.i .i64 (.ofNat 1)) λx58=>
   lp (λ(_ _ _ _ _ _:D)(_:LS)=>none) (nu φ) f (.i .i64 (.ofNat z)) (.sl lv 0 (m+2) cv 1 ev') (.sl lu 0 cu cu 1 eu) (.i .i64 (.ofNat (m+2))) (.sl lq 0 nq nq 1 true) x58 s) su sv hvf hlv (by omega) (by omega) h1 h2 (by omega) (λt ht=>hz t (by omega)) hv1 hlt2
  have g3:=S.keep _ _ hlq h3;have hcut:=Bw (B:=B64) (show j≤us.length by omega);have hcut':=Bw (B:=B64) (show j≤us'.length by rw[S.len];omega);have hmod:=UQ S.val hcut (nH su hBp) hcut' (nH S.sm hBp) rfl;have hml:=bc (vl B64 (us.drop j)) hvp;have hQ:vl B64 (us.drop j)/vl B64 (vf.take (m+2))<B64:=by rw[bp hvp,aK];exact hlt2
  generalize vl B64 (us.drop j)/vl B64 (vf.take (m+2))=Q at*;have hqd:vl B64 ((qs.set j Q).drop j)=Q+B64*vl B64 (qs.drop (j+1)):=by
   rw[qY,z1L (by omega)];congr 1;unfold dgt;rw[aD,a7 (by omega)];rfl
  have hX':vl B64 us'+vl B64 (vf.take (m+2))*(B64^j*vl B64 ((qs.set j Q).drop j))=X:=by
   rw[hqd,←hX,←S.val,ax,bA,bA,←cy,aK Q,aa (vl B64 (vf.take (m+2))) Q,aK Q (B64^j),aa (B64^j) B64]
  have hvl:vl B64 (us'.drop j)<B64^(m+2):=z1J (by rw[hmod];exact hml) (nH sv hBp);obtain⟨R,hP,hih⟩:=ih f (bs'.set lq ⟨c64 (qs.set j Q),.rw⟩) us' (qs.set j Q) (by omega) (by omega) (by omega) (gF (Ne.symm hlq) S.b1) (gF (Ne.symm hvq) S.b2) (va g3) S.sm (od sq hQ) (by rw[S.len];exact lu') (by rw[bB];exact lq') hX' (by rw[hmod];exact hml) (λt ht=>by
   have:=yA (by decide) hvl (show m+2≤t-j by omega);rwa[tV,show j+(t-j)=t by omega]at this)
  refine⟨R,hP,?_⟩;rw[eM];unfold nu;refine th (qR (by omega)) (th eO (th (fH (by omega)) (th (fH (by omega)) (th (WU h1 rfl (by omega) (by omega) (by omega)) ?_))));rw[aV,show j+(m+2)+1-j=m+2+1 by omega];refine e.trans (th (AD g3 (by omega) (by omega)) (th (DG (by omega)) ?_));rw[aV];exact hih
theorem TV{s:LS}{n:Nat}{e:Bool}{ws:List Nat}:eW true s (.tree (c64 ws) n e) some=some (.tree (c64 ws) n e):=by
 unfold eW;rw[kx];show uO (mT true s.get fj (.tree (c64 ws) n e)) some=_;rw[show mT true s.get fj (.tree (c64 ws) n e)=some (.tree (c64 ws) n e)from rfl,gV];rfl
theorem XR{bs:List Blk}{l n φ:Nat}{qs:List Nat}{K:D→LS→Rs}(hg:bs[l]?=some ⟨c64 qs,.rw⟩)(hn:qs.length=n)(hs:n≤9223372036854775807)(hφ:n<φ):
 eS (AG (fM φ)) [.sl l 0 n n 1 true] (mem bs) K=K (.tree (c64 (qs.take (tl qs n))) (tl qs n) (cnd true (Nat.beq (tl qs n) n) false)) (mem (bs.set l ⟨c64 qs,.frz⟩)):=by
 have e1:(cnd true (Nat.beq n n) false)=true:=by rw[ei];rfl
 show(jL (mem bs) l λb=>cnd (lv b.st) (jN 0 b.cs λr=>iw (Nat.mul n 1) r λr=>mg (iX (mem bs) 59) r λcs ls=>my (cnd true (Nat.beq n n) false) λex=>ki (l::ls) [] λab=>ob (AG (fM φ) [.tree cs n ex]) λr=>iz (mem bs) ab r K) none)=_;rw[gg hg];show(jN 0 (c64 qs) λr=>iw (Nat.mul n 1) r λr=>mg (iX (mem bs) 59) r λcs ls=>my (cnd true (Nat.beq n n) false) λex=>ki (l::ls) [] λab=>ob (AG (fM φ) [.tree cs n ex]) λr=>iz (mem bs) ab r K)=_;rw[gE,am,gu,aC (by rw[fT];show n*1≤_;omega),aM (by rw[fT];show _≤n*1;omega),Cn,ij,gL,e1];have e2:AG (fM φ) [.tree (c64 qs) n true]=some (.tree (c64 (qs.take (tl qs n))) (tl qs n) (cnd true (Nat.beq (tl qs n) n) false)):=by
  show fM φ [.tree (c64 qs) n true] s0 (λd s=>eW true s d some)=_;rw[EJ hn hs hφ,TV]
 rw[e2,gN];unfold iz;rw[kx];show(jL (mem bs) l λb=>pL (mem bs) l ⟨b.cs,fzS b.st⟩ λs=>K _ s)=_;rw[gg hg,oj (ef hg)];rfl
theorem TA{os:List Nat}{n c:Nat}(hl:os.length=n+2)(so:Sm B64 os)(hlt:vl B64 os<B64^(n+1))(hge:c*B64^n≤vl B64 os):c≤dgt os n∧dgt os (n+1)=0:=by
 have hz:dgt os (n+1)=0:=yA (by decide) hlt (aE _);refine⟨?_,hz⟩;have h1:vl B64 os=vl B64 (os.take n)+dgt os n*B64^n:=by
  rw[qI (n+1) os (λt ht=>yA (by decide) hlt ht),pV]
 have h2:=nH (k:=n) so (show 0<B64 by decide);rcases az (dgt os n) c with h|h
 ·exfalso;have:=aL (B64^n) h;rw[eA]at this;omega
 ·exact h
theorem WL{os:List Nat}{n:Nat}(hl:os.length=n+2)(h0:dgt os (n+1)=0)(h1:dgt os n≠0):tl os (n+2)=n+1:=by
 have g0:=jX (show n+1<os.length by omega);have g1:=jX (show n<os.length by omega);show(if os[n+1]?=some 0 then tl os (n+1)else n+2)=_;rw[g0,h0,aC rfl];show(if os[n]?=some 0 then tl os n else n+1)=_;rw[g1,aF (λe=>h1 (cK e))]
theorem yI.of{x y:Nat}{o o':Option D}(h:o=o')(h':yI x y o'):yI x y o:=by rw[h];exact h'
theorem VC{φ n z lu lq nq cu x y v:Nat}{eu:Bool}{us0 qs:List Nat}(hz:z≤63)(hu0:us0.length=cu)(hn:n<cu)(hn0:0<n)(hcu:cu≤10000000000)(su0:Sm B64 us0)(sq:Sm B64 qs)(hq:qs.length=nq)(hnq:nq≤cu)(hne:lu≠lq)(hφ:cu+5<φ)
 (hv:v=y*2^z) (hX:vl B64 us0+v*vl B64 qs=x*2^z) (hlt:vl B64 us0<v) (hvn:v<B64^n) {bs:List Blk} (h1:bs[lu]?=some ⟨c64 us0,.rw⟩) (h2:bs[lq]?=some ⟨c64 qs,.rw⟩):
 yI x y (lp (λ(_ _ _ _ _ _:D)(_:LS)=>none) (kz φ) φ (.i .i64 (.ofNat z)) (.sl lu 0 cu cu 1 eu) (.i .i64 (.ofNat n)) (.sl lq 0 nq nq 1 true) (.i .i64 (.ofNat n)) (.i .i64 (.ofNat 0)) (mem bs)):=by
 have hpz:0<2^z:=bN (by decide);have hvp:0<v:=cP (a9 _) hlt;obtain⟨f1,f2⟩:=(Nat.div_mod_unique hvp).2 ⟨hX,hlt⟩;rw[hv,Nat.mul_div_mul_right _ _ hpz]at f1;rw[hv,z1B]at f2;have hdz:vl B64 (us0.drop n)=0:=by
  have hc:=Bw (B:=B64) (show n≤us0.length by omega);rcases bQ (vl B64 (us0.drop n))with h|h
  ·exact h
  ·exfalso;have:B64^n*1≤B64^n*vl B64 (us0.drop n):=aT _ h;omega
 obtain⟨R,hP,hR⟩:=Xq (φ:=φ) (z:=z) (lu:=lu) (lq:=lq) (nq:=nq) (eu:=eu) (qs:=qs) (n:=n) (P:=yI x y) hz hu0 hn hcu su0 (by
  intro bs us g1 g2 su hul hval;refine⟨_,?_,rfl⟩;rw[hdz,Nat.zero_div,dG,bH,←f2,z1R _ hpz]at hval;have g1':(bs.set lq ⟨c64 qs,.frz⟩)[lu]?=some ⟨c64 us,.rw⟩:=gF (Ne.symm hne) g1;have t1:=EM qs nq;have t2:=EM us n;refine yI.of (th (XR g2 hq (by omega) (by omega)) (th (CH g1' rfl (by omega) (by omega)) (zF g1' rfl rfl (by omega) (by omega) (by omega) (by omega) (by omega)))) ?_;refine⟨qs.take (tl qs nq),us.take (tl us n),(cnd true (Nat.beq (tl qs nq) nq) false),(eu&&cu==tl us n),sN sq,Gs _ (by omega),by rw[Ki _ (by omega),aM (by omega)];exact f1.symm,sN su,Gs _ (by omega),by rw[Ki _ (by omega)];exact hval,?_⟩;rw[zH (by omega),zH (by omega)];exact EZ (Wa (j:=58)) (F7 (j:=58) (by rw[kj];exact g1') rfl rfl (by omega)) rfl) hne n 0 φ bs us0 (by omega) (by omega) h1 h2 su0 hu0 rfl (by simp[vl])
 exact yI.of hR hP
theorem DR{φ:Nat}{xs ys:List Nat}{ex ey:Bool}(sx:Sm B64 xs)(sy:Sm B64 ys)(tx:Tm xs)(ty:Tm ys)(hx:xs.length≤1000000000)(hy:ys.length≤1000000000)(h0:0<vl B64 ys)(hφ:xs.length+20<φ):
 yI (vl B64 xs) (vl B64 ys) (gj φ [.tree (c64 xs) xs.length ex,.tree (c64 ys) ys.length ey]):=by
 have hBp:0<B64:=by decide
 have hcmp:=Rz (φ:=φ) (e1:=ex) (e2:=ey) rfl rfl sx sy tx ty (by omega) (by omega) (by omega);rw[AJ];unfold xg;dsimp only[eV,eY];by_cases hlt:vl B64 xs<vl B64 ys
 ·rw[MV hlt]at hcmp;refine yI.of (th (Af hcmp) (th sT (th eO CT))) ?_;exact⟨[],xs,true,ex,(λw hw=>by cases hw),(λw hw=>by simp at hw),by rw[cL hlt];rfl,sx,tx,by rw[bL hlt],rfl⟩
 ·obtain⟨c,hc⟩:=MW (x:=vl B64 xs) (y:=vl B64 ys) (by omega);rw[hc]at hcmp;have hyne:ys≠[]:=λe=>by subst e;simp[vl]at h0
  have hxne:xs≠[]:=λe=>by subst e;simp[vl]at hlt;omega
  have hxl:0<xs.length:=cU.2 hxne;have hyl:0<ys.length:=cU.2 hyne;by_cases h1:ys.length=1
  ·obtain⟨y,rfl⟩:∃y,ys=[y]:=by
    match ys,h1 with
    |[y],_=>exact⟨y,rfl⟩
   have hyv:vl B64 [y]=y:=by simp[vl]
   rw[hyv]at h0 ⊢;have:=KR (φ:=φ) (ex:=ex) (ey:=ey) rfl sx hxl hx h0 (sy y (by simp)) (by omega) xs.length φ 0 (List.replicate xs.length 0) (by simp) (AT hBp) (aE _) (by omega) h0 (by
    rw[bf (aE _),bf (by simp)];simp[vl])
   refine yI.of ?_ this;refine th (Af hcmp) (th (gA (cQ c)) (th eP (th fO (th (oo rfl) (th eO (th fO ?_))))));rw[←fw];refine th (Dx rfl (by omega) (by omega)) (th fO (th (DG (by omega)) ?_));rw[rt,vV];rfl
  ·obtain⟨m,hm⟩:∃m,ys.length=m+2:=⟨ys.length-2,by omega⟩
   obtain⟨k,hk⟩:∃k,xs.length=m+2+k:=by
    refine⟨xs.length-(m+2),?_⟩;rcases az xs.length ys.length with h|h
    ·exact absurd (yS (by decide) sx ty h) hlt
    ·omega
   have dtop:dgt ys (m+1)<18446744073709551616:=jY sy hBp _;have dne:dgt ys (m+1)≠0:=by
    refine ty _ ?_;rw[z1e,hm];exact jX (by omega)
   obtain⟨z,z1,z2,z3,z4⟩:=Hj (φ:=φ) dtop (z1S dne);have hpz:0<2^z:=bN (by decide);obtain⟨vf,v1,v2,v3,v4⟩:=Au (φ:=φ) (n:=m+2) (ex:=ey) z1 hm sy (by omega) (by omega);obtain⟨us,u1,u2,u3,u4⟩:=Au (φ:=φ) (n:=m+2+k) (ex:=ex) z1 hk sx (by omega) (by omega);have hyval:vl B64 ys=vl B64 (ys.take (m+1))+dgt ys (m+1)*B64^(m+1):=by
    conv=>lhs;rw[←aM (show ys.length≤m+1+1 by omega),pV]
   have hylt:vl B64 (ys.take (m+1))<B64^(m+1):=nH sy hBp;have hlow:(dgt ys (m+1)*2^z)*B64^(m+1)≤vl B64 vf:=by
    rw[v3,dK];exact aL _ (by omega)
   have hhigh:vl B64 vf<B64^(m+1+1):=by
    have h5:vl B64 ys*2^z<(dgt ys (m+1)+1)*B64^(m+1)*2^z:=dD (by rw[aS,bG];omega) hpz;rw[←v3,dK]at h5;have h6:(dgt ys (m+1)+1)*2^z≤18446744073709551616:=by
     have hd:2^z∣18446744073709551616:=⟨2^(64-z),by rw[←bX,cY (by omega)]⟩
     obtain⟨w,hw⟩:=hd;rw[hw,aK]at z2;have:=z25 z2;rw[hw,aK];exact aT _ this
    have h7:=aL (B64^(m+1)) h6;rw[ax B64 (m+1),aK (B64^(m+1))];exact bk h5 h7
   obtain⟨t1,t2⟩:=TA (n:=m+1) (c:=dgt ys (m+1)*2^z) v1 v2 hhigh hlow;have htl:=WL (n:=m+1) v1 t2 (by omega);have hvt:vl B64 (vf.take (m+2))=vl B64 ys*2^z:=by
    rw[←v3,←qI (m+2) vf (λt ht=>yA (by decide) hhigh ht)]
   have hX:vl B64 us=vl B64 xs*2^z:=u3;have hu0:vl B64 (us.drop (k+1))<vl B64 (vf.take (m+2)):=by
    have hc:=Bw (B:=B64) (show k+1≤us.length by omega);have h5:vl B64 xs<B64^(m+2+k):=by have:=uQ sx;rwa[hk]at this
    have h6:vl B64 us<B64^(m+2+k)*2^z:=by rw[u3];exact dD h5 hpz
    have h7:B64^(k+1)*vl B64 (us.drop (k+1))<B64^(k+1)*(B64^(m+1)*2^z):=by
     have e:B64^(k+1)*(B64^(m+1)*2^z)=B64^(m+2+k)*2^z:=by
      rw[←aa,←bX];congr 2;omega
     rw[e];omega
    have h8:=z25 h7;rw[hvt,hyval];refine bk h8 ?_;have h9:B64^(m+1)*1≤B64^(m+1)*dgt ys (m+1):=aT _ (z1S dne);refine aL _ ?_;rw[aj,aK]at h9;omega
   have hz0:∀t,vl B64 ((List.replicate (k+1) 0).drop t)=0:=λt=>by rw[List.drop_replicate];exact zA _
   obtain⟨R,hP,hR⟩:=Xp (φ:=φ) (m:=m) (z:=z) (lu:=1) (lv:=0) (lq:=2) (nq:=k+1) (cu:=m+2+k+1) (cv:=m+2+1) (eu:=false) (ev':=false) (vf:=vf) (X:=vl B64 xs*2^z) (P:=yI (vl B64 xs) (vl B64 ys)) (by omega) (by omega) (by omega) v2 (by omega) (by omega) (by omega) (by omega) (by omega) (by
    intro bs us' qs' g1 g2 s1 s2 l1' l2' hX' hlt';refine⟨_,?_,rfl⟩;exact VC z1 l1' (by omega) (by omega) (by omega) s1 s2 l2' (by omega) (by omega) (by omega) hvt hX' hlt' (nH v2 hBp) g1 g2) (k+1) φ [⟨c64 vf,.rw⟩,⟨c64 us,.rw⟩,⟨c64 (List.replicate (k+1) 0),.rw⟩] us (List.replicate (k+1) 0) (by omega) (aE _) (by omega) rfl rfl rfl u2 (AT hBp) u1 (by simp) (by rw[hz0,dG,dG,bH,hX]) hu0 (λt ht=>by unfold dgt;rw[aD,bW (by omega)];rfl)
   refine yI.of ?_ hP;have hml:(mem [⟨c64 vf,Stt.rw⟩]).nx=1:=jQ _;refine th (Af hcmp) (th (gA (cQ c)) (th eP (th fO (th (sD h1) (th eP (th fO (th (gW (by omega) (by omega)) (th (Wc rfl (by omega)) ?_))))))));rw[show ys.length-1=m+1 by omega];refine th (fF z4) ?_;rw[hm,hk,←fw];refine th (xR v4) ?_;rw[lU,jQ];refine th (zF (ws:=vf) rfl rfl rfl (by omega) (aE _) (by omega) (by omega) (by omega)) ?_;rw[htl];refine th (xR u4) ?_;rw[lU,jQ];refine th Lk (th fO (th (gW (by omega) (by omega)) (th (fH (by omega)) ?_)));rw[show m+2+k-(m+1+1)=k by omega];refine th (Dx rfl (by omega) (by omega)) (th fO (th (gW (by omega) (by omega)) ?_));rw[rt,vV,show m+2+k-(m+1+1)=k by omega];exact hR
end
variable {s:LS} {K:D→LS→Rs}
theorem wU{m:Nat}(hs:s.fit)(hm:Nat.log2 m≤1000000000):∃x s' ws,(∀K,eS qu [.n m] s K=K x s')∧HT s' x ws∧Sm B64 ws∧Tm ws∧vl B64 ws=m∧ws.length≤15625001∧More s s':=by
 by_cases h0:m=0
 ·subst h0;exact⟨.tree [] 0 true,s,[],λK=>rfl,.tr (ws:=[]),(λw hw=>by cases hw),(λw hw=>by simp at hw),rfl,by simp,More.refl s⟩
 ·obtain⟨x,s',ws,h1,h2,h3,h4,h5,h6,_⟩:=rz (m:=m) hs hm;refine⟨x,s',ws,h1,h2.ht,h3,?_,by rw[←wt];exact h4,by omega,h6⟩;intro w hw e;subst e;obtain⟨a,rfl⟩:∃a,ws=a++[0]:=by
   have hne:ws≠[]:=λe=>by subst e;simp at hw
   refine⟨ws.dropLast,?_⟩;rw[List.getLast?_eq_some_getLast hne]at hw;have:=dT hne;rw[cK hw]at this;exact this.symm
  rw[wt,ri]at h4;have e1:vl B64 a=m:=by simpa[vl]using h4
  have e2:vl B64 a<B64^a.length:=uQ (λw hw=>h3 w (by simp[hw]));have e3:B64^a.length≤2^Nat.log2 m:=by
   have:(B64:Nat)=2^64:=by decide
   rw[this,←dw];refine bg (by decide) ?_;simp only[ay,bD,c9]at h5;omega
  have e4:=z1w h0;omega
theorem CD{ws:List Nat}{x:Nat}(ht:Tm ws)(hv:vl B64 ws≤x)(hx:Nat.log2 x≤1000000000):ws.length≤15625001:=by
 by_cases hne:ws=[]
 ·subst hne;simp
 ·have h1:=yK (B:=B64) ht hne;have hx0:x≠0:=by
   have:0<B64^(ws.length-1):=bN (by decide);omega
  have h2:2^(64*(ws.length-1))≤x:=by
   rw[dw,show(2:Nat)^64=B64 from by decide];omega
  have:=(z1r hx0).2 h2;omega
theorem Dv{x y φ:Nat}(hx:Nat.log2 x≤1000000000)(hy:Nat.log2 y≤1000000000)(h0:0<y)(hφ:100000000≤φ):ia φ [.n x,.n y]=some (.tup [.n (x/y),.n (x%y)]):=by
 obtain⟨X,s1,xs,k1,hX,sx,tx,vx,lx,m1⟩:=wU (s:=s0) (m:=x) rfl hx;obtain⟨Y,s2,ys,k2,hY,sy,ty,vy,ly,m2⟩:=wU (s:=s1) (m:=y) (m1.len rfl) hy;unfold ia;refine(k1 _).trans ?_;refine(k2 _).trans ?_;have hX2:HT s2 X xs:=by
  cases hX with
  |tr=>exact .tr
  |sl hg hc hl=>exact .sl (m2.old _ _ hg) hc hl
 obtain⟨ex,ey,ls,h1,h2⟩:=zi (M:=gj φ) hX2 hY;obtain⟨s3,f1,f2,f3⟩:=xz ls s2 h2;obtain⟨qs,rs,e,e',q1,q2,q3,r1,r2,r3,g3⟩:=DR (φ:=φ) (ex:=ex) (ey:=ey) sx sy tx ty (by omega) (by omega) (by omega) (by omega);have hxy:x/y≤x:=z1D x y;have hxm:x%y≤x:=z23 x y;rw[vx,vy]at q3 r3;refine(h1 _).trans ?_;rw[g3,gN,Bj,f1];refine(iO).trans ?_;refine(iN).trans ?_;refine(qQ HT.tr q1 (by have:=CD q2 (by rw[q3];exact hxy) hx;omega)).trans ?_;refine(qQ HT.tr r1 (by have:=CD r2 (by rw[r3];exact hxm) hx;omega)).trans ?_;rw[wt,wt,q3,r3];rfl
theorem xG{x y:Nat}(hx:Nat.log2 x≤1000000000):Nat.log2 (x%y)≤1000000000:=by
 by_cases h:x%y=0
 ·rw[h];decide
 ·have h1:=z1w h;have h2:x≠0:=λe=>by subst e;simp at h
  have:=(z1r h2).2 (bP h1 (z23 x y));omega
theorem HT.len{x:D}{ws:List Nat}(h:HT s x ws){K:D→LS→Rs}:ek x s K=K (.i .i64 (.ofNat ws.length)) s:=by
 cases h<;>rfl
theorem X9{φ:Nat}(hφ:100000000≤φ):∀(k f x y:Nat)(xs ys:List Nat)(X Y:D)(s:LS),y≤2^k→k≤1000000001→2*k+2<f→HT s X xs→HT s Y ys→Sm B64 xs→Sm B64 ys→Tm xs→Tm ys→vl B64 xs=x→vl B64 ys=y→Nat.log2 x≤1000000000→Nat.log2 y≤1000000000→
 lp (λ(_ _:D)(_:LS)=>none) (gcF φ) f X Y s=some (.n (Nat.gcd x y)):=by
 have one:∀(f x y:Nat)(xs ys:List Nat)(X Y:D)(s:LS),HT s X xs→HT s Y ys→Sm B64 xs→Sm B64 ys→Tm xs→Tm ys→vl B64 xs=x→vl B64 ys=y→Nat.log2 x≤1000000000→Nat.log2 y≤1000000000→
  (y=0→lp (λ(_ _:D)(_:LS)=>none) (gcF φ) (f+1) X Y s=some (.n x))∧(0<y→∃(rs:List Nat)(R:D)(s':LS),HT s' Y ys∧HT s' R rs∧Sm B64 rs∧Tm rs∧vl B64 rs=x%y∧lp (λ(_ _:D)(_:LS)=>none) (gcF φ) (f+1) X Y s=lp (λ(_ _:D)(_:LS)=>none) (gcF φ) f Y R s'):=by
  intro f x y xs ys X Y s hX hY sx sy tx ty vx vy lx ly;refine⟨λh0=>?_,λh0=>?_⟩
  ·have hys:ys=[]:=by
    cases ys with
    |nil=>rfl
    |cons a b=>
     have h1:=yK (B:=B64) ty (by simp);have:0<B64^((a::b).length-1):=bN (by decide);omega
   subst hys;rw[eM];unfold gcF;refine th hY.len (th (pX (by simp)) (th eP (th (qQ hX sx (by have:=CD tx (z1G vx) lx;omega)) ?_)));rw[wt,vx];rfl
  ·have hyl:0<ys.length:=by
    cases ys with
    |nil=>simp[vl]at vy;omega
    |cons a b=>simp
   obtain⟨ex,ey,ls,h1,h2⟩:=zi (M:=gj φ) hX hY;obtain⟨s3,f1,f2,f3⟩:=xz ls s h2;have l1:=CD tx (z1G vx) lx;have l2:=CD ty (z1G vy) ly;obtain⟨qs,rs,e,e',q1,q2,q3,r1,r2,r3,g3⟩:=DR (φ:=φ) (ex:=ex) (ey:=ey) sx sy tx ty (by omega) (by omega) (by omega) (by omega);rw[vx,vy]at r3;refine⟨rs,.tree (c64 rs) rs.length e',s3,f2 _ _ hY,.tr,r1,r2,r3,?_⟩;rw[eM]
   conv=>lhs;unfold gcF
   refine th hY.len (th (nU hyl) (th eO (th (h1 _) ?_)));rw[g3,gN,Bj,f1];exact th iO iN
 intro k
 induction k with
 |zero=>
  intro f x y xs ys X Y s hk hk2 hf hX hY sx sy tx ty vx vy lx ly;obtain⟨f,rfl⟩:∃q,f=q+2:=⟨f-2,by omega⟩
  rcases(show y=0∨y=1 by rw[ck]at hk;omega)with h0|h0
  ·rw[(one (f+1) x y xs ys X Y s hX hY sx sy tx ty vx vy lx ly).1 h0,h0,d6]
  ·obtain⟨rs,R,s',a1,a2,a3,a4,a5,a6⟩:=(one (f+1) x y xs ys X Y s hX hY sx sy tx ty vx vy lx ly).2 (by omega);rw[a6];have hm:x%y=0:=by rw[h0,Nat.mod_one]
   rw[(one f y (x%y) ys rs Y R s' a1 a2 sy a3 ty a4 vy a5 ly (xG lx)).1 hm,h0,Nat.gcd_one_right]
 |succ k ih=>
  intro f x y xs ys X Y s hk hk2 hf hX hY sx sy tx ty vx vy lx ly;obtain⟨f,rfl⟩:∃q,f=q+2:=⟨f-2,by omega⟩
  rcases bQ y with h0|h0
  ·rw[(one (f+1) x y xs ys X Y s hX hY sx sy tx ty vx vy lx ly).1 h0,h0,d6]
  ·obtain⟨rs,R,s',a1,a2,a3,a4,a5,a6⟩:=(one (f+1) x y xs ys X Y s hX hY sx sy tx ty vx vy lx ly).2 h0;have e1:Nat.gcd x y=Nat.gcd y (x%y):=by rw[dP x y,z2f y x,dP]
   have hml:=bc x h0;rw[a6,e1];rcases bQ (x%y)with g0|g0
   ·rw[(one f y (x%y) ys rs Y R s' a1 a2 sy a3 ty a4 vy a5 ly (xG lx)).1 g0,g0,d6]
   ·obtain⟨rs2,R2,s2,b1,b2,b3,b4,b5,b6⟩:=(one f y (x%y) ys rs Y R s' a1 a2 sy a3 ty a4 vy a5 ly (xG lx)).2 g0;have e2:Nat.gcd y (x%y)=Nat.gcd (x%y) (y%(x%y)):=by rw[dP y,z2f (x%y) y,dP]
    rw[b6,e2];refine ih f (x%y) (y%(x%y)) rs rs2 R R2 s2 ?_ (by omega) (by omega) b1 b2 a3 b3 a4 b4 a5 b5 (xG lx) (xG ly);have hml2:=bc y g0;have h5:=ce y (x%y);have h6:1≤y/(x%y):=z1q (by omega) g0;have h7:(x%y)*1≤(x%y)*(y/(x%y)):=aT _ h6;rw[ax]at hk;omega
theorem Jb{x y φ:Nat}(hx:Nat.log2 x≤1000000000)(hy:Nat.log2 y≤1000000000)(hφ:3000000000≤φ):kG φ [.n x,.n y]=some (.n (Nat.gcd x y)):=by
 obtain⟨X,s1,xs,k1,hX,sx,tx,vx,lx,m1⟩:=wU (s:=s0) (m:=x) rfl hx;obtain⟨Y,s2,ys,k2,hY,sy,ty,vy,ly,m2⟩:=wU (s:=s1) (m:=y) (m1.len rfl) hy;have hX2:HT s2 X xs:=by
  cases hX with
  |tr=>exact .tr
  |sl hg hc hl=>exact .sl (m2.old _ _ hg) hc hl
 unfold kG;refine(k1 _).trans ?_;refine(k2 _).trans ?_;obtain⟨k,hk⟩:∃k,k=1000000001:=⟨_,rfl⟩
 refine X9 (φ:=φ) (by omega) k φ x y xs ys X Y s2 ?_ (by omega) (by omega) hX2 hY sx sy tx ty vx vy hx hy;by_cases h0:y=0
 ·subst h0;exact a9 _
 ·exact dO ((z1Q h0).1 (by omega))
end
end Go.Proofs.Ev
namespace Go.Proofs.Ev
noncomputable section
abbrev Row:=List Rat
abbrev Vec:=Nat→Rat
def ent(r:Row):Vec:=λi=>r.getD i 0
inductive Sp (A:List Row):Vec→Prop
 |zero:Sp A (λ_=>0)
 |add {f:Vec} {r:Row} (h:Sp A f) (c:Rat) (hr:r∈A):Sp A (λi=>f i+c*ent r i)
section
variable {A B:List Row} {f g:Vec} {r:Row}
theorem Sp.of(h:Sp A f)(e:∀i,f i=g i):Sp A g:=by rw[←show f=g from funext e];exact h
theorem po(hf:Sp A f)(hg:Sp A g)(c:Rat):Sp A (λi=>f i+c*g i):=by
 induction hg with
 |zero=>exact hf.of λi=>by grind
 |add h c' hr ih=>exact(Sp.add ih (c*c') hr).of λi=>by grind
theorem tE(hr:r∈A):Sp A (ent r):=(Sp.add Sp.zero 1 hr).of λi=>by grind
theorem sM(h:∀r,r∈A→Sp B (ent r))(hf:Sp A f):Sp B f:=by
 induction hf with
 |zero=>exact Sp.zero
 |add _ c hr ih=>exact po ih (h _ hr) c
theorem vL(h:∀r,r∈A→r∈B)(hf:Sp A f):Sp B f:=sM (λr hr=>tE (h r hr)) hf
theorem WP(hf:Sp [] f):∀i,f i=0:=by
 induction hf with
 |zero=>intro i;rfl
 |add _ _ hr _=>cases hr
def Gj(r:Row)(p:Nat):Prop:=ent r p=1∧∀c,c<p→ent r c=0
def RE(E:List (Row×Nat)):Prop:=(∀e,e∈E→Gj e.1 e.2)∧E.Pairwise (λa b=>ent a.1 b.2=0∧ent b.1 a.2=0)
def cmb(E:List (Row×Nat))(f:Vec):Vec:=λi=>E.foldr (λe s=>f e.2*ent e.1 i+s) 0
theorem MX(E:List (Row×Nat))(f g:Vec)(c:Rat)(i:Nat):cmb E (λi=>f i+c*g i) i=cmb E f i+c*cmb E g i:=by
 unfold cmb
 induction E with
 |nil=>simp only[List.foldr_nil];grind
 |cons e E ih=>simp only[z2b];rw[ih];grind
theorem AB(E:List (Row×Nat))(f:Vec)(h:∀e,e∈E→f e.2=0)(i:Nat):cmb E f i=0:=by
 unfold cmb
 induction E with
 |nil=>rfl
 |cons e E ih=>simp only[z2b];rw[ih (λe he=>h e (by simp[he])),h e (by simp)];grind
theorem VI{E:List (Row×Nat)}(h:RE E):∀e,e∈E→∀i,cmb E (ent e.1) i=ent e.1 i:=by
 obtain⟨h1,h2⟩:=h
 induction E with
 |nil=>intro e he;cases he
 |cons d E ih=>
  rw[du]at h2;intro e he i;rcases bK.1 he with rfl|he
  ·show ent e.1 e.2*ent e.1 i+cmb E (ent e.1) i=_;rw[AB E _ (λd hd=>(h2.1 d hd).1),(h1 e (by simp)).1];grind
  ·show ent e.1 d.2*ent d.1 i+cmb E (ent e.1) i=_;rw[ih (λe he=>h1 e (by simp[he])) h2.2 e he i,(h2.1 e he).2];grind
theorem PM{E:List (Row×Nat)}(h:RE E){f:Vec}(hf:Sp (E.map Prod.fst) f)(i:Nat):f i=cmb E f i:=by
 induction hf generalizing i with
 |zero=>rw[AB];intro e _;rfl
 |add _ c hr ih=>
  obtain⟨e,he,rfl⟩:=av.1 hr;rw[MX,←ih,VI h e he]
theorem T6{E:List (Row×Nat)}(h:RE E){f:Vec}(hf:Sp (E.map Prod.fst) f)(h0:∀e,e∈E→f e.2=0)(i:Nat):f i=0:=by
 rw[PM h hf,AB E f h0]
end
def qw(f:Nat→Rat):Nat→Rat
 |0=>0
 |n+1=>qw f n+f n
theorem rj{f g:Nat→Rat}:∀{n:Nat},(∀i,i<n→f i=g i)→qw f n=qw g n
 |0,_=>rfl
 |n+1,h=>by unfold qw;rw[rj (n:=n) (λi hi=>h i (by omega)),h n (by omega)]
theorem pg{f:Nat→Rat}:∀{n:Nat},(∀i,i<n→f i=0)→qw f n=0
 |0,_=>rfl
 |n+1,h=>by unfold qw;rw[pg (n:=n) (λi hi=>h i (by omega)),h n (by omega)];grind
theorem zJ{f:Nat→Rat}{p:Nat}:∀{n:Nat},p<n→(∀i,i<n→i≠p→f i=0)→qw f n=f p
 |0,h,_=>by omega
 |n+1,h,h0=>by
  unfold qw;by_cases e:p=n
  ·subst e;rw[pg (λi hi=>h0 i (by omega) (by omega))];grind
  ·rw[zJ (n:=n) (by omega) (λi hi hp=>h0 i (by omega) hp),h0 n (by omega) (by omega)];grind
theorem zK{f g:Nat→Rat}{c:Rat}:∀{n:Nat},qw (λi=>f i+c*g i) n=qw f n+c*qw g n
 |0=>by unfold qw;grind
 |n+1=>by unfold qw;rw[zK];grind
def lc:List Rat→List Row→Vec
 |c::cs,r::rows=>λi=>c*ent r i+lc cs rows i
 |_,_=>λ_=>0
theorem Ek:∀(cs:List Rat)(rows:List Row),Sp rows (lc cs rows)
 |[],_=>Sp.zero
 |_::_,[]=>Sp.zero
 |c::cs,r::rows=>(Sp.add (vL (λr hr=>bn _ hr) (Ek cs rows)) c (bz)).of λi=>by simp only[lc];grind
theorem Ho(rows:List Row)(i:Nat):lc (List.replicate rows.length 0) rows i=0:=by
 induction rows with
 |nil=>rfl
 |cons r rows ih=>show 0*ent r i+lc (List.replicate rows.length 0) rows i=0;rw[ih];grind
theorem Jm:∀(as bs:List Rat)(rows:List Row)(c:Rat),as.length=bs.length→∀i,lc (List.zipWith (λa b=>a+c*b) as bs) rows i=lc as rows i+c*lc bs rows i
 |[],[],rows,c,_,i=>by simp only[List.zipWith_nil_left,lc];grind
 |a::as,b::bs,[],c,_,i=>by simp only[List.zipWith_cons_cons,lc];grind
 |a::as,b::bs,r::rows,c,h,i=>by
  show(a+c*b)*ent r i+lc (List.zipWith _ as bs) rows i=(a*ent r i+lc as rows i)+c*(b*ent r i+lc bs rows i);rw[Jm as bs rows c (by simpa using h)];grind
theorem Ll:∀(rows:List Row)(r:Row),r∈rows→∃cs,cs.length=rows.length∧∀i,ent r i=lc cs rows i
 |s::rows,r,h=>by
  rcases bK.1 h with rfl|h
  ·exact⟨1::List.replicate rows.length 0,by simp,λi=>by show _=1*ent r i+lc (List.replicate rows.length 0) rows i;rw[Ho];grind⟩
  ·obtain⟨cs,h1,h2⟩:=Ll rows r h;exact⟨0::cs,by simp[h1],λi=>by show _=0*ent s i+lc cs rows i;rw[h2];grind⟩
theorem Vb{rows:List Row}{f:Vec}(h:Sp rows f):∃cs,cs.length=rows.length∧∀i,f i=lc cs rows i:=by
 induction h with
 |zero=>exact⟨List.replicate rows.length 0,by simp,λi=>(Ho rows i).symm⟩
 |add _ c hr ih=>
  obtain⟨cs,h1,h2⟩:=ih;obtain⟨ds,h3,h4⟩:=Ll rows _ hr;exact⟨List.zipWith (λa b=>a+c*b) cs ds,by simp[h1,h3],λi=>by rw[Jm cs ds rows c (by omega),←h2,←h4]⟩
def Ind(rows:List Row):Prop:=∀cs:List Rat,cs.length=rows.length→(∀i,lc cs rows i=0)→∀c,c∈cs→c=0
theorem Ud:Ind []:=λcs h _ c hc=>by have:cs=[]:=ao h;subst this;cases hc
theorem GA:∀(cs:List Rat)(rows:List Row)(c:Rat)(r:Row),cs.length=rows.length→∀i,lc (cs++[c]) (rows++[r]) i=lc cs rows i+c*ent r i
 |[],[],c,r,_,i=>by simp only[cI,lc];grind
 |d::cs,s::rows,c,r,h,i=>by
  show d*ent s i+lc (cs++[c]) (rows++[r]) i=_;rw[GA cs rows c r (by simpa using h)];simp only[lc];grind
theorem RN{rows:List Row}{r:Row}(h:Ind rows)(hn:¬Sp rows (ent r)):Ind (rows++[r]):=by
 intro cs hl h0;obtain⟨ds,c,rfl⟩:∃ds c,cs=ds++[c]:=by
  have hne:cs≠[]:=λe=>by subst e;simp at hl
  exact⟨cs.dropLast,cs.getLast hne,(dT hne).symm⟩
 have hl':ds.length=rows.length:=by simpa using hl
 have hc:c=0:=by
  by_cases hc:c=0
  ·exact hc
  ·exfalso;apply hn;refine(po Sp.zero (Ek ds rows) (-c⁻¹)).of λi=>?_;have:=h0 i;rw[GA ds rows c r hl']at this;have h2:c⁻¹*c=1:=cx c hc;grind
 subst hc;intro d hd;rcases au.1 hd with hd|hd
 ·exact h ds hl' (λi=>by have:=h0 i;rw[GA ds rows 0 r hl']at this;grind) d hd
 ·simpa using hd
theorem RL{rows:List Row}(h:Ind rows){as bs:List Rat}(ha:as.length=rows.length)(hb:bs.length=rows.length)(he:∀i,lc as rows i=lc bs rows i):as=bs:=by
 have h1:=h (List.zipWith (λa b=>a+(-1)*b) as bs) (by simp[ha,hb]) (λi=>by rw[Jm as bs rows (-1) (by omega),he];grind);refine z1z (by omega) λi hi hj=>?_;have:=h1 (as[i]+(-1)*bs[i]) (by
  have hlt:i<(List.zipWith (λa b=>a+(-1)*b) as bs).length:=by simp;omega
  have:=ak hlt;rwa[dh]at this)
 grind
def sbr(r l:Row)(c:Rat):Row:=List.zipWith (λa b=>a-c*b) r l
def pvt(r:Row):Nat:=r.findIdx (λx=>decide (x≠0))
def sH(E:List Row)(r:Row):Row:=E.foldl (λr l=>sbr r l (ent r (pvt l))) r
def scl(r:Row)(c:Rat):Row:=r.map (λx=>x*c)
def nrm(r:Row):Row:=scl r (ent r (pvt r))⁻¹
def tB(out:List Row)(r:Row):List Row:=
 if pvt (sH out r)<(sH out r).length then(out.map λl=>sbr l (nrm (sH out r)) (ent l (pvt (sH out r))))++[nrm (sH out r)]else out
def ech(rows:List Row):List Row:=rows.foldl tB []
section
variable {r l:Row} {c:Rat} {i p N:Nat} {E out rows done:List Row}
theorem tZ(h:r.length=l.length):(sbr r l c).length=r.length:=by unfold sbr;rw[cW];omega
theorem zM(h:r.length=l.length):ent (sbr r l c) i=ent r i-c*ent l i:=by
 unfold ent sbr;simp only[aD,List.getElem?_zipWith];by_cases hi:i<r.length
 ·rw[aB hi,aB (by omega)];rfl
 ·rw[bW (by omega),bW (by omega)];simp only[Option.getD_none];grind
theorem B1:ent (scl r c) i=ent r i*c:=by
 unfold ent scl;simp only[aD,ae];cases r[i]?with
 |none=>simp only[dN,Option.getD_none];grind
 |some x=>rfl
theorem zL:(scl r c).length=r.length:=by unfold scl;rw[aI]
theorem Tx:(nrm r).length=r.length:=zL
theorem AY(h:pvt r<r.length):ent r (pvt r)≠0:=by
 have:=eG (xs:=r) (p:=λx=>decide (x≠0)) (w:=h);unfold ent;rw[aD,aB h];exact cC this
theorem AZ(h:i<pvt r):ent r i=0:=by
 have:=List.not_of_lt_findIdx (xs:=r) (p:=λx=>decide (x≠0)) (i:=i) h;have hl:i<r.length:=bk h (z1t);unfold ent;rw[aD,aB hl];simpa using this
theorem gJ(h:r.length≤i):ent r i=0:=by unfold ent;rw[aD,bW h];rfl
theorem Wp:pvt r≤r.length:=z1t
theorem HU(h:¬pvt r<r.length):ent r i=0:=by
 rcases az i (pvt r)with h1|h1
 ·exact AZ h1
 ·exact gJ (by have:=Wp (r:=r);omega)
theorem HV(h:Gj r p):pvt r=p:=by
 have hne:(1:Rat)≠0:=by decide
 have hp:p<r.length:=by
  rcases az p r.length with h1|h1
  ·exact h1
  ·have:=gJ h1;rw[h.1]at this;exact absurd this hne
 rcases cp (pvt r) p with h1|h1|h1
 ·exact absurd (h.2 _ h1) (AY (by omega))
 ·exact h1
 ·have:=AZ h1;rw[h.1]at this;exact absurd this hne
def pr(r:Row):Row×Nat:=(r,pvt r)
def RE'(E:List Row):Prop:=RE (E.map pr)
theorem JX(E:List Row):(E.map pr).map Prod.fst=E:=by rw[cM];exact List.map_id E
theorem vj(hE:∀l,l∈E→l.length=N)(hr:r.length=N):(sH E r).length=N:=by
 unfold sH
 induction E generalizing r with
 |nil=>exact hr
 |cons l E ih=>
  rw[dq];exact ih (λm hm=>hE m (by simp[hm])) (by rw[tZ (by rw[hr,hE l (by simp)])];exact hr)
theorem CZ(h:(E.map pr).Pairwise (λa b=>ent a.1 b.2=0∧ent b.1 a.2=0))(hE:∀l,l∈E→l.length=N)(hr:r.length=N)(i:Nat):ent (sH E r) i=ent r i-cmb (E.map pr) (ent r) i:=by
 induction E generalizing r with
 |nil=>show ent r i=ent r i-0;grind
 |cons l E ih=>
  rw[bI,du]at h;have hl:=hE l (by simp);show ent (sH E (sbr r l (ent r (pvt l)))) i=ent r i-(ent r (pvt l)*ent l i+cmb (E.map pr) (ent r) i);rw[ih h.2 (λm hm=>hE m (by simp[hm])) (by rw[tZ (by omega)];exact hr)];have e:ent (sbr r l (ent r (pvt l)))=λi=>ent r i+(-(ent r (pvt l)))*ent l i:=by
   funext i;rw[zM (by omega)];grind
  rw[e,MX,AB (E.map pr) (ent l) (λe he=>(h.1 e he).1)];grind
theorem SE{E:List (Row×Nat)}(h:RE E){f:Vec}:∀e,e∈E→cmb E f e.2=f e.2:=by
 obtain⟨h1,h2⟩:=h
 induction E with
 |nil=>intro e he;cases he
 |cons d E ih=>
  rw[du]at h2;intro e he;have key:∀(E:List (Row×Nat)) p,(∀d,d∈E→ent d.1 p=0)→cmb E f p=0:=by
   intro E p h;unfold cmb
   induction E with
   |nil=>rfl
   |cons d E ih=>simp only[z2b];rw[ih (λd hd=>h d (by simp[hd])),h d (by simp)];grind
  rcases bK.1 he with rfl|he
  ·show f e.2*ent e.1 e.2+cmb E f e.2=_;rw[key E e.2 (λd hd=>(h2.1 d hd).2),(h1 e (by simp)).1];grind
  ·show f d.2*ent d.1 e.2+cmb E f e.2=_;rw[ih (λe he=>h1 e (by simp[he])) h2.2 e he,(h2.1 e he).1];grind
theorem KW{E:List (Row×Nat)}{f:Vec}:Sp (E.map Prod.fst) (cmb E f):=by
 induction E with
 |nil=>exact Sp.zero
 |cons e E ih=>exact(Sp.add (vL (λr hr=>by rw[bI];exact bn _ hr) ih) (f e.2) (by rw[bI];exact bz)).of λi=>by show cmb E f i+f e.2*ent e.1 i=f e.2*ent e.1 i+cmb E f i;grind
structure EI (N:Nat) (rows out:List Row):Prop where
 len:∀l,l∈out→l.length=N
 sub:∀l,l∈out→Sp rows (ent l)
 sup:∀r,r∈rows→Sp out (ent r)
 red:RE' out
theorem RE'.lead(h:RE' out)(hl:l∈out):Gj l (pvt l):=h.1 (pr l) (bM hl)
theorem GS(h:EI N rows out)(hr:r.length=N):EI N (rows++[r]) (tB out r):=by
 have hpw:=h.red.2;have hlen:=vj h.len hr;have hent:=λi=>CZ hpw h.len hr i;have hz:∀l,l∈out→ent (sH out r) (pvt l)=0:=λl hl=>by
  have:=SE h.red (f:=ent r) (pr l) (bM hl);rw[hent,show cmb (out.map pr) (ent r) (pvt l)=ent r (pvt l)from this];grind
 have hcs:Sp out (cmb (out.map pr) (ent r)):=by have:=KW (E:=out.map pr) (f:=ent r);rwa[JX]at this
 have hmono:∀f,Sp rows f→Sp (rows++[r]) f:=λf hf=>vL (λx hx=>bi _ hx) hf;have hgs:Sp (rows++[r]) (ent (sH out r)):=(po (tE (A:=rows++[r]) (r:=r) (by simp)) (hmono _ (sM h.sub hcs)) (-1)).of λi=>by rw[hent];grind
 unfold tB;generalize hg:sH out r=g at*;by_cases hp:pvt g<g.length
 ·rw[aC hp];have hne:=AY hp;have hn:∀i,ent (nrm g) i=ent g i*(ent g (pvt g))⁻¹ :=λi=>B1;have hinv:ent g (pvt g)*(ent g (pvt g))⁻¹ =1:=z1T _ hne;have hnl:(nrm g).length=N:=by rw[Tx];exact hlen
  have hgl:Gj (nrm g) (pvt g):=⟨by rw[hn];exact hinv,λc hc=>by rw[hn,AZ hc];grind⟩
  have hnz:∀l,l∈out→ent (nrm g) (pvt l)=0:=λl hl=>by rw[hn,hz l hl];grind
  have hnew:∀l,l∈out→∀i,ent (sbr l (nrm g) (ent l (pvt g))) i=ent l i-ent l (pvt g)*ent (nrm g) i:=λl hl i=>zM (by rw[hnl];exact h.len l hl);have hle:∀l,l∈out→Gj (sbr l (nrm g) (ent l (pvt g))) (pvt l):=λl hl=>by
   have hld:=h.red.lead hl;refine⟨by rw[hnew l hl,hnz l hl,hld.1];grind,λc hc=>?_⟩;rw[hnew l hl,hld.2 c hc];rcases cp (pvt g) (pvt l)with h1|h1|h1
   ·rw[hld.2 _ h1];grind
   ·have:=hnz l hl;rw[←h1,hgl.1]at this;exact absurd this (by decide)
   ·rw[hgl.2 c (by omega)];grind
  have hpv:∀l,l∈out→pvt (sbr l (nrm g) (ent l (pvt g)))=pvt l:=λl hl=>HV (hle l hl);have hgn:Sp (rows++[r]) (ent (nrm g)):=(po Sp.zero hgs (ent g (pvt g))⁻¹).of λi=>by rw[hn];grind
  have hpn:pvt (nrm g)=pvt g:=HV hgl;refine⟨λl hl=>?_,λl hl=>?_,λx hx=>?_,?_,?_⟩
  ·rcases au.1 hl with hl|hl
   ·obtain⟨m,hm,rfl⟩:=av.1 hl;rw[tZ (by rw[hnl];exact h.len m hm)];exact h.len m hm
   ·have:l=nrm g:=by simpa using hl
    subst this;exact hnl
  ·rcases au.1 hl with hl|hl
   ·obtain⟨m,hm,rfl⟩:=av.1 hl;exact(po (hmono _ (h.sub m hm)) hgn (-(ent m (pvt g)))).of λi=>by rw[hnew m hm];grind
   ·have:l=nrm g:=by simpa using hl
    subst this;exact hgn
  ·have hold:∀m,m∈out→Sp ((out.map λl=>sbr l (nrm g) (ent l (pvt g)))++[nrm g]) (ent m):=λm hm=>
    (po (tE (A:=(out.map λl=>sbr l (nrm g) (ent l (pvt g)))++[nrm g]) (r:=sbr m (nrm g) (ent m (pvt g))) (bi _ (av.2 ⟨m,hm,rfl⟩))) (tE (r:=nrm g) (by simp)) (ent m (pvt g))).of λi=>by rw[hnew m hm];grind
   rcases au.1 hx with hx|hx
   ·exact sM hold (h.sup x hx)
   ·have:x=r:=by simpa using hx
    subst this;refine(po (sM hold hcs) (tE (r:=nrm g) (by simp)) (ent g (pvt g))).of λi=>?_;have:=hent i;have h3:=hn i;grind
  ·intro e he;rw[aW]at he;rcases au.1 he with he|he
   ·rw[cM]at he;obtain⟨m,hm,rfl⟩:=av.1 he;show Gj (sbr m (nrm g) (ent m (pvt g))) (pvt (sbr m (nrm g) (ent m (pvt g))));rw[hpv m hm];exact hle m hm
   ·have:e=pr (nrm g):=by simpa using he
    subst this;show Gj (nrm g) (pvt (nrm g));rw[hpn];exact hgl
  ·rw[aW,List.pairwise_append];refine⟨?_,by simp,?_⟩
   ·rw[cM];have h2:=hpw;rw[z1n]at h2 ⊢;refine dl ?_ h2;intro a b ha hb hab;show ent (sbr a (nrm g) (ent a (pvt g))) (pvt (sbr b (nrm g) (ent b (pvt g))))=0∧ent (sbr b (nrm g) (ent b (pvt g))) (pvt (sbr a (nrm g) (ent a (pvt g))))=0;rw[hpv a ha,hpv b hb,hnew a ha,hnew b hb,hnz a ha,hnz b hb];have h3:ent a (pvt b)=0:=hab.1;have h4:ent b (pvt a)=0:=hab.2;rw[h3,h4];constructor<;>grind
   ·intro a ha b hb;rw[cM]at ha;obtain⟨m,hm,rfl⟩:=av.1 ha;have:b=pr (nrm g):=by simpa using hb
    subst this;show ent (sbr m (nrm g) (ent m (pvt g))) (pvt (nrm g))=0∧ent (nrm g) (pvt (sbr m (nrm g) (ent m (pvt g))))=0;rw[hpn,hpv m hm,hnew m hm,hnz m hm,hgl.1];constructor<;>grind
 ·rw[aF hp];refine⟨h.len,λl hl=>hmono _ (h.sub l hl),λx hx=>?_,h.red⟩;rcases au.1 hx with hx|hx
  ·exact h.sup x hx
  ·have:x=r:=by simpa using hx
   subst this;exact hcs.of λi=>by have:=hent i;rw[HU hp]at this;grind
theorem Xn(hr:∀r,r∈rows→r.length=N):EI N rows (ech rows):=by
 have key:∀(rest done out:List Row),EI N done out→(∀r,r∈rest→r.length=N)→EI N (done++rest) (rest.foldl tB out):=by
  intro rest
  induction rest with
  |nil=>intro done out h _;rw[ba];exact h
  |cons r rest ih=>
   intro done out h hr;rw[dq,show done++r::rest=(done++[r])++rest by simp];exact ih _ _ (GS h (hr r (by simp))) (λx hx=>hr x (by simp[hx]))
 have h0:EI N [] []:=⟨(λl hl=>by cases hl),(λl hl=>by cases hl),(λl hl=>by cases hl),(by intro e he;cases he),dz⟩
 have:=key rows [] [] h0 hr;rwa[cI]at this
end
section
variable {r l t:Row} {c:Rat} {i n k N:Nat} {E rows:List Row}
theorem EN{f:Nat→Rat}:∀{n:Nat},qw f (n+1)=f 0+qw (λi=>f (i+1)) n
 |0=>by simp only[qw];grind
 |n+1=>by
  rw[show qw f (n+1+1)=qw f (n+1)+f (n+1)from rfl,EN (n:=n)];show _=f 0+(qw (λi=>f (i+1)) n+f (n+1));grind
theorem Cu:∀(cs:List Rat)(rows:List Row)(i:Nat),cs.length=rows.length→lc cs rows i=qw (λj=>cs.getD j 0*ent (rows.getD j []) i) rows.length
 |[],[],i,_=>rfl
 |c::cs,r::rows,i,h=>by
  show c*ent r i+lc cs rows i=qw _ (rows.length+1);rw[EN,Cu cs rows i (by simpa using h)];rfl
theorem vr:ent (l.take n) i=if i<n then ent l i else 0:=by
 unfold ent;simp only[aD,cf];by_cases h:i<n
 ·rw[aC h,aC h]
 ·rw[aF h,aF h];rfl
theorem qb:ent (r++l) i=if i<r.length then ent r i else ent l (i-r.length):=by
 unfold ent;simp only[aD,List.getElem?_append];by_cases h:i<r.length
 ·rw[aC h,aC h]
 ·rw[aF h,aF h]
def unt(k i:Nat):Row:=(List.replicate k (0:Rat)).set i 1
theorem zD{j:Nat}(hi:i<k):ent (unt k i) j=if j=i then 1 else 0:=by
 unfold ent unt;simp only[aD,List.getElem?_set,eC,dm];by_cases h:j=i
 ·subst h;rw[aC rfl,aC hi,aC rfl];rfl
 ·rw[aF (Ne.symm h),aF h];split<;>rfl
theorem zC:(unt k i).length=k:=by unfold unt;simp
def qH(k:Nat)(rows:List Row):List Row:=rows.mapIdx (λi r=>r++unt k i)
theorem wq(h:l∈qH k rows):∃i,∃hi:i<rows.length,l=rows[i]++unt k i:=by
 unfold qH at h;obtain⟨i,hi,rfl⟩:=List.mem_mapIdx.1 h;exact⟨i,hi,rfl⟩
theorem O3(hi:i<rows.length):rows[i]++unt k i∈qH k rows:=by
 unfold qH;exact List.mem_mapIdx.2 ⟨i,hi,rfl⟩
def PW(n:Nat)(rows:List Row)(f:Vec):Prop:=∀i,i<n→f i=qw (λj=>f (n+j)*ent (rows.getD j []) i) rows.length
theorem JU{f g:Vec}(hf:PW n rows f)(hg:PW n rows g)(c:Rat):PW n rows (λi=>f i+c*g i):=λi hi=>by
 show f i+c*g i=_;rw[hf i hi,hg i hi,←zK];exact rj λj hj=>by grind
theorem LK:PW n rows (λ_=>0):=λi hi=>by rw[pg];intro j hj;grind
theorem LL{k:Nat}(hk:rows.length≤k)(hr:∀r,r∈rows→r.length=n):∀l,l∈qH k rows→PW n rows (ent l):=by
 intro l hl i hi;obtain⟨j,hj,rfl⟩:=wq hl;have hjl:rows[j].length=n:=hr _ (ak hj);rw[zJ hj (λm hm hne=>by
  rw[qb,aF (by omega),zD (by omega),aF (by omega)];grind),qb,aC (by omega),qb,aF (by omega),zD (by omega),aC (by omega),aD,aB hj]
 simp only[ci];grind
theorem vK{A:List Row}{f:Vec}{P:Vec→Prop}(h0:P (λ_=>0))(h1:∀f g c,P f→P g→P (λi=>f i+c*g i))(h2:∀r,r∈A→P (ent r))(h:Sp A f):P f:=by
 induction h with
 |zero=>exact h0
 |add _ c hr ih=>exact h1 _ _ c ih (h2 _ hr)
theorem yz:qH k (rows++[t])=qH k rows++[t++unt k rows.length]:=by
 unfold qH;rw[List.mapIdx_append];simp
def u9(n:Nat)(E:List Row):List Row:=E.filter (λl=>decide (pvt l<n))
def qO(n:Nat)(E:List Row)(t:Row)(k:Nat):Row:=sH (u9 n E) (t++unt (k+1) k)
theorem Fv(h:RE' E):RE' (u9 n E):=by
 unfold RE' RE u9 at*;refine⟨λe he=>?_,?_⟩
 ·obtain⟨m,hm,rfl⟩:=av.1 he;exact h.1 _ (bM (cJ.1 hm).1)
 ·exact h.2.sublist (List.Sublist.map pr (List.filter_sublist))
theorem zd(h:EI (n+(k+1)) (qH (k+1) rows) E)(ht:t.length=n)(i:Nat):ent (qO n E t k) i=ent (t++unt (k+1) k) i-cmb ((u9 n E).map pr) (ent (t++unt (k+1) k)) i:=
 CZ (Fv h.red).2 (λl hl=>h.len l (cJ.1 hl).1) (by rw[ay,zC,ht]) i
theorem GY{f:Vec}:Sp E (cmb ((u9 n E).map pr) f):=by
 have:=KW (E:=(u9 n E).map pr) (f:=f);rw[JX]at this;exact vL (λr hr=>(cJ.1 hr).1) this
theorem O2(hr:∀r,r∈rows→r.length=n):∀l,l∈qH k rows→l.length=n+k:=λl hl=>by
 obtain⟨j,hj,rfl⟩:=wq hl;rw[ay,zC,hr _ (ak hj)]
theorem MT(h:EI (n+(k+1)) (qH (k+1) rows) E)(hk:rows.length=k)(hr:∀r,r∈rows→r.length=n)(ht:t.length=n)(ho:n≤pvt (qO n E t k))(i:Nat):
 ent t i=lc ((List.range k).map λj=> -(ent (qO n E t k) (n+j))) rows i:=by
 rcases az i n with hi|hi
 ·have hl:PW n (rows++[t]) (ent (qO n E t k)):=by
   have hE:∀l,l∈E→PW n (rows++[t]) (ent l):=λl hl=>by
    refine vK LK (λf g c hf hg=>JU hf hg c) (λr hr'=>LL (k:=k+1) (by simp;omega) (λr hr'=>?_) r (by rw[yz];exact bi _ hr')) (h.sub l hl);rcases au.1 hr' with hr'|hr'
    ·exact hr r hr'
    ·have:r=t:=by simpa using hr'
     subst this;exact ht
   have hc:PW n (rows++[t]) (cmb ((u9 n E).map pr) (ent (t++unt (k+1) k))):=vK LK (λf g c hf hg=>JU hf hg c) hE GY;have h0:PW n (rows++[t]) (ent (t++unt (k+1) k)):=by
    refine LL (k:=k+1) (by simp;omega) (λr hr'=>?_) _ (by rw[yz,hk];simp);rcases au.1 hr' with hr'|hr'
    ·exact hr r hr'
    ·have:r=t:=by simpa using hr'
     subst this;exact ht
   have:=JU h0 hc (-1);rwa[show(λi=>ent (t++unt (k+1) k) i+(-1)*cmb ((u9 n E).map pr) (ent (t++unt (k+1) k)) i)=ent (qO n E t k)from(funext λi=>by rw[zd h ht];grind)]at this
  have hk0:∀f,Sp E f→f (n+k)=0:=λf hf=>by
   refine vK (P:=λf=>f (n+k)=0) rfl (λf g c hf hg=>by show f (n+k)+c*g (n+k)=0;rw[hf,hg];grind) (λl hl=>?_) hf;refine vK (P:=λf=>f (n+k)=0) rfl (λf g c hf hg=>by show f (n+k)+c*g (n+k)=0;rw[hf,hg];grind) (λl hl=>?_) (h.sub l hl);obtain⟨j,hj,rfl⟩:=wq hl;have hjl:rows[j].length=n:=hr _ (ak hj);rw[qb,aF (by omega),zD (by omega),aF (by omega)]
  have h1:ent (qO n E t k) (n+k)=1:=by
   rw[zd h ht,hk0 _ GY,qb,aF (by omega),zD (by omega),aC (by omega)];grind
  have h2:=hl i hi;rw[AZ (bk hi ho),show(rows++[t]).length=k+1 by simp[hk]]at h2;have h3:qw (λj=>ent (qO n E t k) (n+j)*ent ((rows++[t]).getD j []) i) (k+1)=qw (λj=>ent (qO n E t k) (n+j)*ent (rows.getD j []) i) k+ent t i:=by
   show qw _ k+ent (qO n E t k) (n+k)*ent ((rows++[t]).getD k []) i=_;rw[h1,rj (n:=k) (f:=λj=>ent (qO n E t k) (n+j)*ent ((rows++[t]).getD j []) i) (g:=λj=>ent (qO n E t k) (n+j)*ent (rows.getD j []) i) (λj hj=>by
    simp only[aD];rw[bO (by omega)])]
   simp only[aD];rw[bJ (by omega),hk,bt];simp only[bF,ci];grind
  rw[h3]at h2;rw[Cu _ _ _ (by simp[hk]),hk,rj (g:=λj=>0+(-1)*(ent (qO n E t k) (n+j)*ent (rows.getD j []) i)) (λj hj=>by
   simp only[aD,ae,z1M hj,cF,ci];grind),zK,pg (λ_ _=>rfl)]
  grind
 ·rw[gJ (by omega),Cu _ _ _ (by simp[hk]),pg];intro j hj;rw[aD (l:=rows),aB hj,ci,gJ (r:=rows[j]) (by rw[hr _ (ak hj)];exact hi)];grind
def lft(n:Nat)(f:Vec):Vec:=λi=>if i<n then f i else 0
theorem OI(h:EI (n+(k+1)) (qH (k+1) rows) E)(hk:rows.length=k)(hr:∀r,r∈rows→r.length=n)(ht:t.length=n)(ho:pvt (qO n E t k)<n):¬Sp rows (ent t):=by
 intro hs;have lin:∀(A:List Row),∀f g c,Sp A (lft n f)→Sp A (lft n g)→Sp A (lft n (λi=>f i+c*g i)):=λA f g c hf hg=>(po hf hg c).of λi=>by
  unfold lft;split
  ·rfl
  ·grind
 have l0:∀A:List Row,Sp A (lft n λ_=>0):=λA=>Sp.zero.of λi=>by unfold lft;split<;>rfl
 have hE:∀f,Sp E f→Sp rows (lft n f):=λf hf=>by
  refine vK (P:=λf=>Sp rows (lft n f)) (l0 _) (lin _) (λl hl=>?_) (sM h.sub hf);obtain⟨j,hj,rfl⟩:=wq hl;have hjl:rows[j].length=n:=hr _ (ak hj);refine(tE (ak hj)).of λi=>?_;unfold lft;by_cases hi:i<n
  ·rw[aC hi,qb,aC (by omega)]
  ·rw[aF hi,gJ (by omega)]
 have hlt:(qO n E t k).length=n+(k+1):=vj (λl hl=>h.len l (cJ.1 hl).1) (by rw[ay,zC,ht]);have hls:Sp rows (lft n (ent (qO n E t k))):=by
  refine(po hs (hE _ (GY (E:=E) (n:=n) (f:=ent (t++unt (k+1) k)))) (-1)).of λi=>?_;unfold lft;by_cases hi:i<n
  ·rw[aC hi,aC hi,zd h ht,qb,aC (by omega)];grind
  ·rw[aF hi,aF hi,gJ (by omega)];grind
 have hred:RE ((u9 n E).map λl=>(l.take n,pvt l)):=by
  have h1:=Fv (n:=n) h.red;refine⟨λe he=>?_,?_⟩
  ·obtain⟨m,hm,rfl⟩:=av.1 he;have hmn:pvt m<n:=cC (cJ.1 hm).2;have:=h1.1 _ (bM (f:=pr) hm);exact⟨by show ent (m.take n) (pvt m)=1;rw[vr,aC hmn];exact this.1,λc hc=>by show ent (m.take n) c=0;have hc:c<pvt m:=hc;rw[vr,aC (by omega)];exact this.2 c hc⟩
  ·have h2:=h1.2;rw[z1n]at h2 ⊢;refine dl ?_ h2;intro a b ha hb hab;have ha':pvt a<n:=cC (cJ.1 ha).2;have hb':pvt b<n:=cC (cJ.1 hb).2;show ent (a.take n) (pvt b)=0∧ent (b.take n) (pvt a)=0;rw[vr,vr,aC hb',aC ha'];exact hab
 have hsp:Sp (((u9 n E).map λl=>(l.take n,pvt l)).map Prod.fst) (lft n (ent (qO n E t k))):=by
  rw[cM];refine sM (λr hr'=>?_) hls;obtain⟨j,hj,rfl⟩:=cE.1 hr';have hjl:rows[j].length=n:=hr _ (ak hj);have hw:=h.sup _ (O3 (k:=k+1) hj);have:Sp ((u9 n E).map (Prod.fst∘λl=>(l.take n,pvt l))) (lft n (ent (rows[j]++unt (k+1) j))):=by
   refine vK (P:=λf=>Sp ((u9 n E).map (Prod.fst∘λl=>(l.take n,pvt l))) (lft n f)) (l0 _) (lin _) (λl hl=>?_) hw;by_cases hp:pvt l<n
   ·refine(tE (r:=l.take n) (av.2 ⟨l,cJ.2 ⟨hl,aP hp⟩,rfl⟩)).of λi=>?_;rw[vr];rfl
   ·refine Sp.zero.of λi=>?_;unfold lft;by_cases hi:i<n
    ·rw[aC hi,AZ (by omega)]
    ·rw[aF hi]
  refine this.of λi=>?_;unfold lft;by_cases hi:i<n
  ·rw[aC hi,qb,aC (by omega)]
  ·rw[aF hi,gJ (by omega)]
 have hz:=T6 hred hsp (λe he=>by
  obtain⟨m,hm,rfl⟩:=av.1 he;have hmn:pvt m<n:=cC (cJ.1 hm).2;show lft n (ent (qO n E t k)) (pvt m)=0;unfold lft;have:=SE (Fv (n:=n) h.red) (f:=ent (t++unt (k+1) k)) (pr m) (bM hm);rw[aC hmn,zd h ht,show cmb ((u9 n E).map pr) (ent (t++unt (k+1) k)) (pvt m)=ent (t++unt (k+1) k) (pvt m)from this];grind)
 have:=hz (pvt (qO n E t k));unfold lft at this;rw[aC ho]at this;exact AY (by omega) this
end
section
variable {r l:Row} {c:Rat} {i p n N col:Nat} {rows rows0:List Row} {done:List (Row×Nat)}
def fnd(rows:List Row)(col:Nat):Nat:=rows.findIdx (λr=>decide (ent r col≠0))
def wo(pv:Row)(col:Nat)(r:Row):Row:=sbr r pv (ent r col)
def pvr(rows:List Row)(col:Nat):Row:=scl (rows.getD (fnd rows col) []) (ent (rows.getD (fnd rows col) []) col)⁻¹
def wd(st:List Row×List (Row×Nat))(col:Nat):List Row×List (Row×Nat):=
 if fnd st.1 col<st.1.length then
  ((st.1.eraseIdx (fnd st.1 col)).map (wo (pvr st.1 col) col),(st.2.map λe=>(wo (pvr st.1 col) col e.1,e.2))++[(pvr st.1 col,col)])
 else st
def vZ(N:Nat)(rows:List Row):List (Row×Nat):=((List.range N).foldl wd (rows,[])).2
structure RI (N col:Nat) (rows0 rows:List Row) (done:List (Row×Nat)):Prop where
 len:∀l,l∈rows→l.length=N
 dlen:∀e,e∈done→e.1.length=N
 zer:∀l,l∈rows→∀c,c<col→ent l c=0
 low:∀e,e∈done→e.2<col
 red:RE done
 sub:∀l,l∈rows→Sp rows0 (ent l)
 dsub:∀e,e∈done→Sp rows0 (ent e.1)
 sup:∀r,r∈rows0→Sp (rows++done.map Prod.fst) (ent r)
theorem z8{α:Type}:∀{l:List α}{i:Nat}{x d:α},x∈l→x∈l.eraseIdx i∨x=l.getD i d
 |y::l,0,x,d,h=>by
  rcases bK.1 h with h|h
  ·right;exact h
  ·left;exact h
 |y::l,i+1,x,d,h=>by
  rcases bK.1 h with h|h
  ·left;rw[h];exact bz
  ·rcases z8 (i:=i) (d:=d) h with h|h
   ·left;exact bn _ h
   ·right;exact h
theorem TT(h:RI N col rows0 rows done):RI N (col+1) rows0 (wd (rows,done) col).1 (wd (rows,done) col).2:=by
 unfold wd;by_cases hf:fnd rows col<rows.length
 ·rw[aC hf];have hg:rows.getD (fnd rows col) []=rows[fnd rows col]:=by rw[aD,aB hf];rfl
  have hmem:rows.getD (fnd rows col) []∈rows:=by rw[hg];exact ak hf
  have hne:ent (rows.getD (fnd rows col) []) col≠0:=by
   rw[hg];have:=eG (xs:=rows) (p:=λr=>decide (ent r col≠0)) (w:=hf);exact cC this
  show RI N (col+1) rows0 ((rows.eraseIdx (fnd rows col)).map (wo (pvr rows col) col)) ((done.map λe=>(wo (pvr rows col) col e.1,e.2))++[(pvr rows col,col)]);have hpe:∀i,ent (pvr rows col) i=ent (rows.getD (fnd rows col) []) i*(ent (rows.getD (fnd rows col) []) col)⁻¹ :=λi=>B1;have hpl:(pvr rows col).length=N:=by unfold pvr;rw[zL];exact h.len _ hmem
  generalize hr:rows.getD (fnd rows col) []=r at*;generalize pvr rows col=pv at*;have hinv:ent r col*(ent r col)⁻¹ =1:=z1T _ hne;have hld:Gj pv col:=⟨by rw[hpe];exact hinv,λc hc=>by rw[hpe,h.zer r hmem c hc];grind⟩
  have hw:∀l,l.length=N→∀i,ent (wo pv col l) i=ent l i-ent l col*ent pv i:=λl hl i=>zM (by rw[hpl];exact hl);have hwl:∀l,l.length=N→(wo pv col l).length=N:=λl hl=>by unfold wo;rw[tZ (by rw[hpl];exact hl)];exact hl
  have hps:Sp rows0 (ent pv):=(po Sp.zero (h.sub r hmem) (ent r col)⁻¹).of λi=>by rw[hpe];grind
  have herase:∀x,x∈rows.eraseIdx (fnd rows col)→x∈rows:=λx hx=>List.mem_of_mem_eraseIdx hx;refine⟨?_,?_,?_,?_,⟨?_,?_⟩,?_,?_,?_⟩
  ·intro l hl;obtain⟨m,hm,rfl⟩:=av.1 hl;exact hwl m (h.len m (herase m hm))
  ·intro e he;rcases au.1 he with he|he
   ·obtain⟨m,hm,rfl⟩:=av.1 he;exact hwl m.1 (h.dlen m hm)
   ·have:e=(pv,col):=by simpa using he
    subst this;exact hpl
  ·intro l hl c hc;obtain⟨m,hm,rfl⟩:=av.1 hl;rw[hw m (h.len m (herase m hm))];rcases az c col with h1|h1
   ·rw[h.zer m (herase m hm) c h1,hld.2 c h1];grind
   ·have:c=col:=by omega
    subst this;rw[hld.1];grind
  ·intro e he;rcases au.1 he with he|he
   ·obtain⟨m,hm,rfl⟩:=av.1 he;exact z22 (h.low m hm)
   ·have:e=(pv,col):=by simpa using he
    subst this;exact cR _
  ·intro e he;rcases au.1 he with he|he
   ·obtain⟨m,hm,rfl⟩:=av.1 he;have hm1:=h.red.1 m hm;have hlow:=h.low m hm;exact⟨by show ent (wo pv col m.1) m.2=1;rw[hw m.1 (h.dlen m hm),hm1.1,hld.2 _ hlow];grind,λc hc=>by
     show ent (wo pv col m.1) c=0;have hc:c<m.2:=hc;rw[hw m.1 (h.dlen m hm),hm1.2 c hc,hld.2 c (by omega)];grind⟩
   ·have:e=(pv,col):=by simpa using he
    subst this;exact hld
  ·rw[List.pairwise_append];refine⟨?_,by simp,?_⟩
   ·rw[z1n];refine dl ?_ h.red.2;intro a b ha hb hab;show ent (wo pv col a.1) b.2=0∧ent (wo pv col b.1) a.2=0;rw[hw a.1 (h.dlen a ha),hw b.1 (h.dlen b hb),hab.1,hab.2,hld.2 _ (h.low a ha),hld.2 _ (h.low b hb)];constructor<;>grind
   ·intro a ha b hb;obtain⟨m,hm,rfl⟩:=av.1 ha;have:b=(pv,col):=by simpa using hb
    subst this;show ent (wo pv col m.1) col=0∧ent pv m.2=0;rw[hw m.1 (h.dlen m hm),hld.1,hld.2 _ (h.low m hm)];constructor<;>grind
  ·intro l hl;obtain⟨m,hm,rfl⟩:=av.1 hl;exact(po (h.sub m (herase m hm)) hps (-(ent m col))).of λi=>by rw[hw m (h.len m (herase m hm))];grind
  ·intro e he;rcases au.1 he with he|he
   ·obtain⟨m,hm,rfl⟩:=av.1 he;exact(po (h.dsub m hm) hps (-(ent m.1 col))).of λi=>by show _=ent (wo pv col m.1) i;rw[hw m.1 (h.dlen m hm)];grind
   ·have:e=(pv,col):=by simpa using he
    subst this;exact hps
  ·intro x hx;refine sM (λm hm=>?_) (h.sup x hx);have hpv:Sp ((rows.eraseIdx (fnd rows col)).map (wo pv col)++((done.map λe=>(wo pv col e.1,e.2))++[(pv,col)]).map Prod.fst) (ent pv):=tE (by simp);have back:∀m:Row,m.length=N→wo pv col m∈(rows.eraseIdx (fnd rows col)).map (wo pv col)++((done.map λe=>(wo pv col e.1,e.2))++[(pv,col)]).map Prod.fst→Sp ((rows.eraseIdx (fnd rows col)).map (wo pv col)++((done.map λe=>(wo pv col e.1,e.2))++[(pv,col)]).map Prod.fst) (ent m):=
    λm hm hin=>(po (tE hin) hpv (ent m col)).of λi=>by rw[hw m hm];grind
   rcases au.1 hm with hm|hm
   ·rcases z8 (i:=fnd rows col) (d:=[]) hm with h1|h1
    ·exact back m (h.len m hm) (bi _ (bM h1))
    ·rw[hr]at h1;subst h1;exact(po Sp.zero hpv (ent m col)).of λi=>by rw[hpe];grind
   ·obtain⟨e,he,rfl⟩:=av.1 hm;exact back e.1 (h.dlen e he) (cN _ (av.2 ⟨(wo pv col e.1,e.2),bi _ (av.2 ⟨e,he,rfl⟩),rfl⟩))
 ·rw[aF hf];refine⟨h.len,h.dlen,λl hl c hc=>?_,λe he=>z22 (h.low e he),h.red,h.sub,h.dsub,h.sup⟩;rcases az c col with h1|h1
  ·exact h.zer l hl c h1
  ·have:c=col:=by omega
   subst this;have h2:rows.findIdx (λr=>decide (ent r c≠0))=rows.length:=z1H z1t (Nat.le_of_not_lt hf);rw[List.findIdx_eq_length]at h2;simpa using h2 l hl
theorem B4(hr:∀r,r∈rows→r.length=N):∃rest,RI N N rows rest (vZ N rows)∧(∀l,l∈rest→∀i,ent l i=0):=by
 have key:∀k,RI N k rows (((List.range k).foldl wd (rows,[])).1) (((List.range k).foldl wd (rows,[])).2):=by
  intro k
  induction k with
  |zero=>exact⟨hr,(λe he=>by cases he),(λl hl c hc=>by omega),(λe he=>by cases he),⟨(λe he=>by cases he),dz⟩,λl hl=>tE hl,(λe he=>by cases he),λr hr=>tE (by simpa using hr)⟩
  |succ k ih=>
   rw[cw,dy,dq,List.foldl_nil];exact TT ih
 refine⟨_,key N,λl hl i=>?_⟩;rcases az i N with h|h
 ·exact(key N).zer l hl i h
 ·exact gJ (by rw[(key N).len l hl];exact h)
theorem PI(hr:∀r,r∈rows→r.length=N):∀r,r∈rows→Sp ((vZ N rows).map Prod.fst) (ent r):=by
 obtain⟨rest,h,hz⟩:=B4 hr;intro r hr;refine sM (λm hm=>?_) (h.sup r hr);rcases au.1 hm with hm|hm
 ·exact Sp.zero.of λi=>(hz m hm i).symm
 ·exact tE hm
def wJ(E:List (Row×Nat))(n c:Nat):Rat:=(E.find? (λe=>e.2==c)).elim 0 (λe=>ent e.1 n)
def mE(m:List Row)(v:List Rat):List Row:=List.zipWith (λr x=>r++[x]) m v
def RS(n:Nat)(x:Nat→Rat)(f:Vec):Prop:=qw (λc=>f c*x c) n=f n
theorem Oy{x:Nat→Rat}{f g:Vec}(c:Rat)(hf:RS n x f)(hg:RS n x g):RS n x (λi=>f i+c*g i):=by
 unfold RS at*;show _=f n+c*g n;rw[←hf,←hg,←zK];exact rj λi hi=>by grind
theorem Ks{x:Nat→Rat}:RS n x (λ_=>0):=by unfold RS;exact pg λi hi=>by grind
theorem T7{E:List (Row×Nat)}(h:RE E):∀e,e∈E→∀d,d∈E→e.2=d.2→e=d:=by
 obtain⟨h1,h2⟩:=h
 induction E with
 |nil=>intro e he;cases he
 |cons a E ih=>
  rw[du]at h2;intro e he d hd hed;rcases bK.1 he with rfl|he'
  ·rcases bK.1 hd with rfl|hd
   ·rfl
   ·have:=(h2.1 d hd).1;rw[←hed,(h1 e (by simp)).1]at this;exact absurd this (by decide)
  ·rcases bK.1 hd with rfl|hd
   ·have:=(h2.1 e he').1;rw[hed,(h1 d (by simp)).1]at this;exact absurd this (by decide)
   ·exact ih (λe he=>h1 e (by simp[he])) h2.2 e he' d hd hed
theorem PK{E:List (Row×Nat)}(h:RE E):∀e,e∈E→∀d,d∈E→e.2≠d.2→ent e.1 d.2=0:=by
 obtain⟨h1,h2⟩:=h
 induction E with
 |nil=>intro e he;cases he
 |cons a E ih=>
  rw[du]at h2;intro e he d hd hed;rcases bK.1 he with rfl|he'
  ·rcases bK.1 hd with rfl|hd
   ·exact absurd rfl hed
   ·exact(h2.1 d hd).1
  ·rcases bK.1 hd with rfl|hd
   ·exact(h2.1 e he').2
   ·exact ih (λe he=>h1 e (by simp[he])) h2.2 e he' d hd hed
theorem Gy{E:List (Row×Nat)}(h:RE E){e:Row×Nat}(he:e∈E):wJ E n e.2=ent e.1 n:=by
 unfold wJ;cases hf:E.find? (λd=>d.2==e.2)with
 |none=>rw[List.find?_eq_none]at hf;have:=hf e he;simp at this
 |some d=>
  have h1:=z26 hf;have h2:=List.find?_some hf;have:d=e:=T7 h d h1 e he (by simpa using h2);subst this;rfl
theorem Gx{E:List (Row×Nat)}{c:Nat}(h:∀e,e∈E→e.2≠c):wJ E n c=0:=by
 unfold wJ;rw[List.find?_eq_none.2 (λe he=>by simpa using h e he)];rfl
variable {m:List Row} {v:List Rat}
theorem uk(hm:∀r,r∈m→r.length=n):∀r,r∈mE m v→r.length=n+1:=by
 intro r hr;unfold mE at hr;obtain⟨i,hi,rfl⟩:=cE.1 hr;rw[dh,ay,hm _ (ak _)];rfl
theorem NA{i:Nat}(hi:i<m.length)(hv:i<v.length):m[i]++[v[i]]∈mE m v:=by
 unfold mE;refine cE.2 ⟨i,by rw[cW];omega,?_⟩;rw[dh]
theorem Ox{x:Nat→Rat}{y:Rat}(hr:r.length=n):RS n x (ent (r++[y]))↔qw (λc=>ent r c*x c) n=y:=by
 unfold RS;rw[qb,aF (by omega),hr,bt,rj (g:=λc=>ent r c*x c) (λc hc=>by rw[qb,aC (by omega)])];rfl
theorem WR(hm:∀r,r∈m→r.length=n)(ho:∀e,e∈vZ (n+1) (mE m v)→e.2≠n){i:Nat}(hi:i<m.length)(hv:i<v.length):
 qw (λc=>ent m[i] c*wJ (vZ (n+1) (mE m v)) n c) n=v[i]:=by
 obtain⟨rest,h,_⟩:=B4 (uk (v:=v) hm);have hs:=PI (uk (v:=v) hm) _ (NA hi hv);generalize vZ (n+1) (mE m v)=E at*;rw[←Ox (hm _ (ak hi))];refine vK Ks (λf g c hf hg=>Oy c hf hg) (λr hr=>?_) hs;obtain⟨e,he,rfl⟩:=av.1 hr;have hlt:e.2<n:=by have:=h.low e he;have:=ho e he;omega
 unfold RS;rw[zJ hlt (λc hc hne=>?_)]
 ·rw[(h.red.1 e he).1,Gy h.red he];grind
 ·by_cases hx:∃d,d∈E∧d.2=c
  ·obtain⟨d,hd,rfl⟩:=hx;rw[PK h.red e he d hd (Ne.symm hne)];grind
  ·rw[Gx (λd hd hdc=>hx ⟨d,hd,hdc⟩)];grind
theorem Ok(hm:∀r,r∈m→r.length=n){e:Row×Nat}(he:e∈vZ (n+1) (mE m v))(hn:e.2=n)(x:Nat→Rat)
 (hx:∀i(hi:i<m.length)(hv:i<v.length),qw (λc=>ent m[i] c*x c) n=v[i]):False:=by
 obtain⟨rest,h,_⟩:=B4 (uk (v:=v) hm);have hs:=h.dsub e he;have hrs:RS n x (ent e.1):=by
  refine vK Ks (λf g c hf hg=>Oy c hf hg) (λr hr=>?_) hs;unfold mE at hr;obtain⟨i,hi,rfl⟩:=cE.1 hr;rw[cW]at hi;rw[dh,Ox (hm _ (ak _))];exact hx i (by omega) (by omega)
 have hl:=h.red.1 e he;unfold RS at hrs;rw[pg (λc hc=>by rw[hl.2 c (by omega)];grind)]at hrs;have:=hl.1;rw[hn,←hrs]at this;exact absurd this (by decide)
end
section
variable {r l t:Row} {i p n k N col:Nat} {rows E:List Row}
theorem H4:∀(N:Nat)(l:List Nat),l.Nodup→(∀x,x∈l→x<N)→l.length≤N
 |0,l,_,h=>by
  cases l with
  |nil=>simp
  |cons x l=>have:=h x (by simp);omega
 |N+1,l,hn,h=>by
  have h1:=H4 N (l.erase N) (hn.erase N) (λx hx=>by
   have:=(hn.mem_erase_iff).1 hx;have:=h x this.2;omega)
  by_cases hm:N∈l
  ·rw[List.length_erase_of_mem hm]at h1;omega
  ·rw[List.erase_of_not_mem hm]at h1;omega
theorem PL{E:List (Row×Nat)}(h:RE E)(hp:∀e,e∈E→e.2<N):E.length≤N:=by
 have h1:(E.map Prod.snd).Nodup:=by
  unfold List.Nodup;rw[z1n];refine dl ?_ h.2;intro a b ha hb hab he;have:=hab.1;rw[←he,(h.1 a ha).1]at this;exact absurd this (by decide)
 have:=H4 N _ h1 (λx hx=>by obtain⟨e,he,rfl⟩:=av.1 hx;exact hp e he);rwa[aI]at this
theorem B8(h:Gj r p):p<r.length:=by
 rcases az p r.length with h1|h1
 ·exact h1
 ·have:=gJ h1;rw[h.1]at this;exact absurd this (by decide)
theorem OD(h:EI N rows E)(hr:r.length=N)(hn:¬Sp rows (ent r)):(tB E r).length=E.length+1:=by
 unfold tB;by_cases hp:pvt (sH E r)<(sH E r).length
 ·rw[aC hp];simp
 ·exfalso;apply hn;have hcs:Sp E (cmb (E.map pr) (ent r)):=by have:=KW (E:=E.map pr) (f:=ent r);rwa[JX]at this
  refine(sM h.sub hcs).of λi=>?_;have:=CZ h.red.2 h.len hr i;rw[HU hp]at this;grind
theorem QH(pw:Nat→Row)(hl:∀j,(pw j).length=n):∃j,j≤n∧Sp ((List.range j).map pw) (ent (pw j)):=by
 apply Classical.byContradiction;intro hc;have key:∀k,k≤n+1→∃E,EI n ((List.range k).map pw) E∧E.length=k:=by
  intro k
  induction k with
  |zero=>exact λ_=>⟨[],⟨(λl hl=>by cases hl),(λl hl=>by cases hl),(λl hl=>by cases hl),(by intro e he;cases he),dz⟩,rfl⟩
  |succ k ih=>
   intro hk;obtain⟨E,h,hE⟩:=ih (by omega);refine⟨tB E (pw k),?_,?_⟩
   ·rw[cw,aW];exact GS h (hl k)
   ·rw[OD h (hl k) (λhs=>hc ⟨k,by omega,hs⟩),hE]
 obtain⟨E,h,hE⟩:=key (n+1) (aE _);have:=PL (N:=n) h.red (λe he=>by
  obtain⟨m,hm,rfl⟩:=av.1 he;have:=B8 (h.red.lead hm);rw[h.len m hm]at this;exact this)
 rw[aI]at this;omega
theorem QG(pw:Nat→Row):∀k,(∀j,j<k→¬Sp ((List.range j).map pw) (ent (pw j)))→Ind ((List.range k).map pw):=by
 intro k
 induction k with
 |zero=>intro _;exact Ud
 |succ k ih=>
  intro h;rw[cw,aW];exact RN (ih λj hj=>h j (by omega)) (h k (by omega))
def trn(n:Nat)(rows:List Row):List Row:=(List.range n).map (λi=>rows.map (λr=>ent r i))
theorem FX(hi:i<(trn n rows).length):(trn n rows)[i]=rows.map (λr=>ent r i):=by
 simp only[trn,cj,z1k]
theorem BY:∀r,r∈trn n rows→r.length=rows.length:=λr hr=>by
 obtain⟨i,hi,rfl⟩:=av.1 hr;rw[aI]
theorem Kf(x:Nat→Rat)(i:Nat):qw (λc=>ent (rows.map (λr=>ent r i)) c*x c) rows.length=lc ((List.range rows.length).map x) rows i:=by
 rw[Cu _ _ _ (by simp)];refine rj λj hj=>?_;unfold ent;simp only[aD,ae,z1M hj,cF,ci,aB hj];grind
def Mw(n:Nat)(rows:List Row)(t:Row):List (Row×Nat):=vZ (rows.length+1) (mE (trn n rows) t)
def wl(n:Nat)(rows:List Row)(t:Row):List Rat:=(List.range rows.length).map (wJ (Mw n rows t) rows.length)
theorem Gw(hr:∀r,r∈rows→r.length=n)(ht:t.length=n)(ho:∀e,e∈Mw n rows t→e.2≠rows.length)(i:Nat):ent t i=lc (wl n rows t) rows i:=by
 rcases az i n with hi|hi
 ·have:=WR (m:=trn n rows) (v:=t) BY ho (i:=i) (by simp[trn];exact hi) (by omega);rw[FX,Kf]at this;rw[show lc (wl n rows t) rows i=t[i]from this];unfold ent;rw[aD,aB (by omega)];rfl
 ·rw[gJ (by omega),Cu _ _ _ (by simp[wl]),pg];intro j hj;rw[aD (l:=rows),aB hj,ci,gJ (r:=rows[j]) (by rw[hr _ (ak hj)];exact hi)];grind
theorem Iy(hr:∀r,r∈rows→r.length=n)(ht:t.length=n){e:Row×Nat}(he:e∈Mw n rows t)(hn:e.2=rows.length):¬Sp rows (ent t):=by
 intro hs;obtain⟨cs,h1,h2⟩:=Vb hs;refine Ok (m:=trn n rows) (v:=t) BY he hn (λc=>cs.getD c 0) λi hi hv=>?_;rw[FX,Kf];have e1:(List.range rows.length).map (λc=>cs.getD c 0)=cs:=by
  refine z1z (by simp[h1]) λj hj hj'=>?_;rw[cj,z1k,aD,aB hj'];rfl
 rw[e1,←h2];unfold ent;rw[aD,aB hv];rfl
theorem EP(hr:∀r,r∈rows→r.length=n)(ht:t.length=n):(∀e,e∈Mw n rows t→e.2≠rows.length)↔Sp rows (ent t):=by
 constructor
 ·intro h;exact(Ek (wl n rows t) rows).of λi=>(Gw hr ht h i).symm
 ·intro h e he hn;exact Iy hr ht he hn h
def MU(n:Nat)(E:List Row)(t:Row)(k:Nat):List Rat:=(List.range k).map λj=> -(ent (qO n E t k) (n+j))
theorem Rx(h:EI (n+(k+1)) (qH (k+1) rows) E)(hk:rows.length=k)(hr:∀r,r∈rows→r.length=n)(ht:t.length=n):n≤pvt (qO n E t k)↔Sp rows (ent t):=by
 constructor
 ·intro ho;exact(Ek (MU n E t k) rows).of λi=>(MT h hk hr ht ho i).symm
 ·intro hs;rcases az (pvt (qO n E t k)) n with ho|ho
  ·exact absurd hs (OI h hk hr ht ho)
  ·exact ho
end
def lap(D:List Vec→Rat)(c:Nat):List Vec→List Vec→Rat
 |_,[]=>0
 |pre,r::rest=>r c*D (pre++rest)-lap D c (pre++[r]) rest
def dt:List Nat→List Vec→Rat
 |[],_=>1
 |c::cs,rows=>lap (dt cs) c [] rows
def vad(u:Vec)(s:Rat)(v:Vec):Vec:=λi=>u i+s*v i
section
variable {D:List Vec→Rat} {c:Nat}
theorem zy:∀cs:List Nat,(∀a b u v s,a.length+b.length+1=cs.length→dt cs (a++vad u s v::b)=dt cs (a++u::b)+s*dt cs (a++v::b))∧(∀a b v,a.length+b.length+2=cs.length→dt cs (a++v::v::b)=0)
 |[]=>⟨λa b u v s h=>by simp at h,λa b v h=>by simp at h⟩
 |c::cs=>by
  obtain⟨i1,i2⟩:=zy cs;have pre:∀(rest a b:List Vec)(u v:Vec)(s:Rat),a.length+b.length+rest.length=cs.length→lap (dt cs) c (a++vad u s v::b) rest=lap (dt cs) c (a++u::b) rest+s*lap (dt cs) c (a++v::b) rest:=by
   intro rest
   induction rest with
   |nil=>intro a b u v s _;simp only[lap];grind
   |cons r rest ih=>
    intro a b u v s hl;simp only[bD]at hl;simp only[lap,bV,bv];rw[i1 _ _ _ _ _ (by simp;omega),ih _ _ _ _ _ (by simp;omega)];grind
  have rst:∀(a p b:List Vec)(u v:Vec)(s:Rat),p.length+a.length+b.length=cs.length→lap (dt cs) c p (a++vad u s v::b)=lap (dt cs) c p (a++u::b)+s*lap (dt cs) c p (a++v::b):=by
   intro a
   induction a with
   |nil=>
    intro p b u v s hl;simp only[c9]at hl;simp only[lap,cI];rw[pre _ _ _ _ _ _ (by simp;omega)];unfold vad;grind
   |cons r a ih=>
    intro p b u v s hl;simp only[bD]at hl;simp only[lap,bv];have:=i1 (p++a) b u v s (by simp;omega);simp only[bV]at this;rw[this,ih _ _ _ _ _ (by simp;omega)];grind
  have prea:∀(rest a b:List Vec)(v:Vec),a.length+b.length+rest.length+1=cs.length→lap (dt cs) c (a++v::v::b) rest=0:=by
   intro rest
   induction rest with
   |nil=>intro a b v _;rfl
   |cons r rest ih=>
    intro a b v hl;simp only[bD]at hl;simp only[lap,bV,bv];rw[i2 _ _ _ (by simp;omega),ih _ _ _ (by simp;omega)];grind
  have rsta:∀(a p b:List Vec)(v:Vec),p.length+a.length+b.length+1=cs.length→lap (dt cs) c p (a++v::v::b)=0:=by
   intro a
   induction a with
   |nil=>
    intro p b v hl;simp only[c9]at hl;simp only[lap,cI,bV,bv];have:=prea b p [] v (by simp;omega);rw[show p++[v,v]=p++v::v::[]from rfl,this];grind
   |cons r a ih=>
    intro p b v hl;simp only[bD]at hl;simp only[lap,bv];have:=i2 (p++a) b v (by simp;omega);simp only[bV]at this;rw[this,ih _ _ _ (by simp;omega)];grind
  refine⟨λa b u v s hl=>?_,λa b v hl=>?_⟩
  ·exact rst a [] b u v s (by simp at hl ⊢;omega)
  ·exact rsta a [] b v (by simp at hl ⊢;omega)
variable {cs:List Nat}
theorem Uy{a b:List Vec}{u v:Vec}(h:a.length+b.length+2=cs.length):dt cs (a++u::v::b)= -(dt cs (a++v::u::b)):=by
 obtain⟨i1,i2⟩:=zy cs;have h1:=i2 a b (vad u 1 v) h;have e1:=i1 a (vad u 1 v::b) u v 1 (by simp;omega);have e2:=i1 (a++[u]) b u v 1 (by simp;omega);have e3:=i1 (a++[v]) b u v 1 (by simp;omega);simp only[bV,bv,cI]at e2 e3;rw[e1,e2,e3,i2 a b u h,i2 a b v h]at h1;grind
theorem KP:∀(m a b:List Vec)(v:Vec),a.length+m.length+b.length+2=cs.length→dt cs (a++v::(m++v::b))=0
 |[],a,b,v,h=>(zy cs).2 a b v (by simp at h;omega)
 |x::m,a,b,v,h=>by
  simp only[bD]at h;rw[bv,Uy (by simp;omega)];have:=KP m (a++[x]) b v (by simp;omega);simp only[bV,bv,cI]at this;rw[this];grind
theorem O7(f:Vec)(s:Rat):vad f s (λ_=>0)=f:=by funext i;unfold vad;grind
theorem Xt{a b:List Row}{p:Row}{T:Vec}{y:Rat}(h:a.length+b.length+1=cs.length)(hs:Sp (a++b) (λi=>T i-y*ent p i)):dt cs (a.map ent++T::b.map ent)=y*dt cs (a.map ent++ent p::b.map ent):=by
 obtain⟨i1,i2⟩:=zy cs;have z0:dt cs (a.map ent++(λ_=>0)::b.map ent)=0:=by
  have:=i1 (a.map ent) (b.map ent) (λ_=>0) (λ_=>0) 1 (by simp;omega);rw[O7]at this;grind
 have key:∀f,Sp (a++b) f→dt cs (a.map ent++f::b.map ent)=0:=by
  intro f hf
  induction hf with
  |zero=>exact z0
  | @add f r hf c hr ih=>
   have:=i1 (a.map ent) (b.map ent) f (ent r) c (by simp;omega);rw[show(λi=>f i+c*ent r i)=vad f c (ent r)from rfl,this,ih];have hz:dt cs (a.map ent++ent r::b.map ent)=0:=by
    rcases au.1 hr with hr|hr
    ·obtain⟨a1,a2,rfl⟩:=z1U hr;rw[aW,bI,bV,bv];exact KP _ _ _ _ (by simp at h ⊢;omega)
    ·obtain⟨a1,a2,rfl⟩:=z1U hr;rw[aW,bI];exact KP _ _ _ _ (by simp at h ⊢;omega)
   rw[hz];grind
 have h1:=i1 (a.map ent) (b.map ent) (λi=>T i-y*ent p i) (ent p) y (by simp;omega);rw[key _ hs,show vad (λi=>T i-y*ent p i) y (ent p)=T from funext λi=>by unfold vad;grind]at h1;rw[h1];grind
theorem Qh:∀(rest:List Row)(pre:List Vec),Sp rest (λc=>lap D c pre (rest.map ent))
 |[],pre=>Sp.zero
 |r::rest,pre=>by
  have h1:=vL (B:=r::rest) (λx hx=>bn _ hx) (Qh rest (pre++[ent r]));refine(po (po Sp.zero (tE (A:=r::rest) (r:=r) bz) (D (pre++rest.map ent))) h1 (-1)).of λc=>?_;show _=ent r c*D (pre++rest.map ent)-lap D c (pre++[ent r]) (rest.map ent);grind
theorem RM{r:Row}{rest:List Row}(h:Ind (r::rest)):Ind rest:=λcs hl h0 c hc=>
 h (0::cs) (by simp[hl]) (λi=>by show 0*ent r i+lc cs rest i=0;rw[h0];grind) c (bn _ hc)
theorem RO{r:Row}{rest:List Row}(h:Ind (r::rest)):¬Sp rest (ent r):=λhs=>by
 obtain⟨cs,hl,hc⟩:=Vb hs;have:=h ((-1)::cs) (by simp[hl]) (λi=>by show(-1)*ent r i+lc cs rest i=0;rw[hc];grind) (-1) bz;exact absurd this (by decide)
theorem RP:∀rows:List Row,Ind rows→∃cs:List Nat,cs.length=rows.length∧dt cs (rows.map ent)≠0
 |[],_=>⟨[],rfl,by show(1:Rat)≠0;decide⟩
 |r::rest,h=>by
  obtain⟨cs,hl,hne⟩:=RP rest (RM h);by_cases hc:∃c,dt (c::cs) ((r::rest).map ent)≠0
  ·obtain⟨c,hc⟩:=hc;exact⟨c::cs,by simp[hl],hc⟩
  ·exfalso;apply RO h;have hs:=Qh (D:=dt cs) rest [ent r];refine(po Sp.zero hs (dt cs (rest.map ent))⁻¹).of λc=>?_;have hz:dt (c::cs) ((r::rest).map ent)=0:=Classical.byContradiction λhx=>hc ⟨c,hx⟩;have hz:ent r c*dt cs (rest.map ent)-lap (dt cs) c [ent r] (rest.map ent)=0:=hz;have h2:(dt cs (rest.map ent))⁻¹ *dt cs (rest.map ent)=1:=cx _ hne;grind
end
def IB(N:Nat)(x:Rat):Prop:=∃z:Int,x=(z:Rat)∧z.natAbs≤N
section
variable {N M D E:Nat} {x y:Rat}
theorem RU(hx:IB N x)(hy:IB M y):IB (N+M) (x+y):=by
 obtain⟨a,rfl,ha⟩:=hx;obtain⟨b,rfl,hb⟩:=hy;exact⟨a+b,by rw[Rat.intCast_add],by omega⟩
theorem XX(hx:IB N x)(hy:IB M y):IB (N*M) (x*y):=by
 obtain⟨a,rfl,ha⟩:=hx;obtain⟨b,rfl,hb⟩:=hy;exact⟨a*b,by rw[z1f],by rw[dU];exact cA ha hb⟩
theorem XW(hx:IB N x):IB N (-x):=by
 obtain⟨a,rfl,ha⟩:=hx;exact⟨-a,by rw[z2c],by omega⟩
theorem GI(n:Nat):IB n (n:Rat):=⟨(n:Int),rfl,by simp⟩
theorem Ue:IB 0 (0:Rat):=⟨0,rfl,by simp⟩
theorem Uf(h:IB N x)(hn:N≤M):IB M x:=by
 obtain⟨a,rfl,ha⟩:=h;exact⟨a,rfl,by omega⟩
theorem Ld(x:Rat):x*(x.den:Rat)=(x.num:Rat):=by
 have hd:(x.den:Rat)≠0:=λh0=>x.den_nz (dn.1 h0);have h1:=Rat.mkRat_self x;rw[Rat.mkRat_eq_div,Rat.div_def]at h1;have h2:=cx _ hd;have h3:(x.num:Rat)*(x.den:Rat)⁻¹ *(x.den:Rat)=x*(x.den:Rat):=by rw[h1]
 rw[←h3,Rat.mul_assoc,h2,dM]
theorem HI{A B:Int}(hA:A≠0)(h:x*(A:Rat)=(B:Rat)):x.num.natAbs≤B.natAbs∧x.den≤A.natAbs:=by
 have hx:x*(x.den:Rat)=(x.num:Rat):=Ld x;have e1:(x.num:Rat)*(A:Rat)=(B:Rat)*((x.den:Int):Rat):=by
  rw[←hx,←h];show x*(x.den:Rat)*(A:Rat)=x*(A:Rat)*(x.den:Rat);grind
 rw[←z1f,←z1f]at e1;have e2:x.num*A=B*(x.den:Int):=Rat.intCast_inj.1 e1;have e3:x.num.natAbs*A.natAbs=B.natAbs*x.den:=by
  have:=congrArg Int.natAbs e2;rw[dU,dU]at this;exact this
 have hc:Nat.Coprime x.num.natAbs x.den:=x.reduced;have h1:x.den∣A.natAbs:=hc.symm.dvd_of_dvd_mul_left ⟨B.natAbs,by rw[e3,aK]⟩;have h2:x.num.natAbs∣B.natAbs:=hc.dvd_of_dvd_mul_right ⟨A.natAbs,by rw[e3]⟩;have hA':0<A.natAbs:=by omega
 refine⟨?_,Nat.le_of_dvd hA' h1⟩;by_cases hB:B.natAbs=0
 ·rw[hB,bT]at e3;rcases Nat.mul_eq_zero.1 e3 with h3|h3<;>omega
 ·exact Nat.le_of_dvd (by omega) h2
def Ht(D N:Nat)(x:Rat):Prop:=IB N (x*(D:Rat))
theorem MF(hD:0<D)(h:Ht D N x):x.num.natAbs≤N∧x.den≤D:=by
 obtain⟨z,h1,h2⟩:=h;have:=HI (x:=x) (A:=(D:Int)) (B:=z) (by omega) h1;omega
theorem XY(hx:Ht D N x)(hy:Ht D M y):Ht D (N+M) (x+y):=by
 unfold Ht;rw[Rat.add_mul];exact RU hx hy
theorem Jv(hx:Ht D N x)(hy:Ht D M y):Ht D (N+M) (x-y):=by
 unfold Ht;rw[z1V,Rat.add_mul,Rat.neg_mul];exact RU hx (XW hy)
theorem Ib(a b:Nat):((a*b:Nat):Rat)=(a:Rat)*(b:Rat):=Rat.natCast_mul a b
theorem xS(hx:Ht D N x)(hy:Ht E M y):Ht (D*E) (N*M) (x*y):=by
 unfold Ht;rw[Ib,show x*y*((D:Rat)*(E:Rat))=(x*D)*(y*E) by grind];exact XX hx hy
theorem nS(h:Ht D N x)(hn:N≤M):Ht D M x:=Uf h hn
theorem ue:Ht D 0 (0:Rat):=by unfold Ht;rw[Rat.zero_mul];exact Ue
theorem IK(E:Nat)(h:Ht D N x):Ht (D*E) (N*E) x:=by
 have:=xS (E:=E) (M:=E) h (y:=1) (by unfold Ht;rw[z2g];exact GI E);rwa[dM]at this
theorem MG:Ht x.den x.num.natAbs x:=⟨x.num,Ld x,aE _⟩
end
structure RB where
 v:Vec
 D:Nat
 N:Nat
def RB.ok(r:RB):Prop:=∀i,Ht r.D r.N (r.v i)
def pD(l:List RB):Nat:=l.foldr (λr s=>r.D*s) 1
def pN(l:List RB):Nat:=l.foldr (λr s=>r.N*s) 1
theorem Fm(a b:List RB):pD (a++b)=pD a*pD b:=by
 induction a with
 |nil=>show pD b=1*pD b;omega
 |cons r a ih=>show r.D*pD (a++b)=r.D*pD a*pD b;rw[ih,aa]
theorem Fl(a b:List RB):pN (a++b)=pN a*pN b:=by
 induction a with
 |nil=>show pN b=1*pN b;omega
 |cons r a ih=>show r.N*pN (a++b)=r.N*pN a*pN b;rw[ih,aa]
def KH:Nat→Nat
 |0=>1
 |n+1=>(n+1)*KH n
theorem Ri:∀(cs:List Nat)(l:List RB),l.length=cs.length→(∀r,r∈l→r.ok)→Ht (pD l) (KH cs.length*pN l) (dt cs (l.map RB.v))
 |[],l,h,_=>by
  have:l=[]:=ao h;subst this;show IB 1 ((1:Rat)*((1:Nat):Rat));rw[z2g];exact GI 1
 |c::cs,l,h,hl=>by
  have key:∀(rest pre:List RB),pre.length+rest.length=cs.length+1→(∀r,r∈pre→r.ok)→(∀r,r∈rest→r.ok)→
   Ht (pD (pre++rest)) (rest.length*KH cs.length*pN (pre++rest)) (lap (dt cs) c (pre.map RB.v) (rest.map RB.v)):=by
   intro rest
   induction rest with
   |nil=>intro pre _ _ _;refine nS ue (a9 _)
   |cons r rest ih=>
    intro pre hlen hp hr;simp only[bD]at hlen;have h1:=Ri cs (pre++rest) (by simp;omega) (λx hx=>by
     rcases au.1 hx with hx|hx
     ·exact hp x hx
     ·exact hr x (by simp[hx]))
    have h2:=xS (hr r (by simp) c) h1;have h3:=ih (pre++[r]) (by simp;omega) (λx hx=>by
     rcases au.1 hx with hx|hx
     ·exact hp x hx
     ·have:x=r:=by simpa using hx
      subst this;exact hr x (by simp)) (λx hx=>hr x (by simp[hx]))
    have eD:pD (pre++r::rest)=r.D*pD (pre++rest):=by
     rw[Fm,Fm];show pD pre*(r.D*pD rest)=_;rw[cZ]
    have eN:pN (pre++r::rest)=r.N*pN (pre++rest):=by
     rw[Fl,Fl];show pN pre*(r.N*pN rest)=_;rw[cZ]
    have e3:(pre++[r])++rest=pre++r::rest:=by simp
    rw[e3,aW]at h3;rw[aW,←eD]at h2;have:=Jv h2 h3;refine nS this ?_;rw[eN,bD];generalize pN (pre++rest)=P;generalize KH cs.length=F;rw[cZ r.N F P];generalize r.N*P=Q;rw[aS,aS,bG];omega
  have:=key l [] (by simpa using h) (λr hr=>by cases hr) hl;rw[cI,h]at this;exact this
theorem OH{a b:List RB}{p T:RB}{ra rb:List Row}{rp:Row}{y:Rat}(ha:a.map RB.v=ra.map ent)(hb:b.map RB.v=rb.map ent)(hp:p.v=ent rp)
 (hk:∀r,r∈a++p::b→r.ok) (hD:∀r,r∈a++p::b→r.D≠0) (hTD:T.D≠0) (hT:T.ok) (hi:Ind (ra++rp::rb)) (hs:Sp (ra++rb) (λi=>T.v i-y*ent rp i)):
 y.num.natAbs≤KH (a.length+b.length+1)*(pN (a++b)*T.N)*p.D∧y.den≤KH (a.length+b.length+1)*pN (a++p::b)*T.D:=by
 obtain⟨cs,hl,hne⟩:=RP _ hi;have la:ra.length=a.length:=by have:=congrArg List.length ha;simpa using this.symm
 have lb:rb.length=b.length:=by have:=congrArg List.length hb;simpa using this.symm
 simp only[ay,bD]at hl;have hc:=Xt (cs:=cs) (by omega) hs;have h1:=Ri cs (a++p::b) (by simp;omega) hk;have h2:=Ri cs (a++T::b) (by simp;omega) (λr hr=>by
  rcases au.1 hr with hr|hr
  ·exact hk r (by simp[hr])
  ·rcases bK.1 hr with rfl|hr
   ·exact hT
   ·exact hk r (by simp[hr]))
 rw[aW,bI,ha,hb]at h1 h2;rw[hp]at h1;rw[aW,bI]at hne;have hcl:cs.length=a.length+b.length+1:=by omega
 rw[hcl]at h1 h2;have eN:∀r:RB,pN (a++r::b)=r.N*pN (a++b):=λr=>by
  rw[Fl,Fl];show pN a*(r.N*pN b)=_;rw[cZ]
 have eD:∀r:RB,pD (a++r::b)=r.D*pD (a++b):=λr=>by
  rw[Fm,Fm];show pD a*(r.D*pD b)=_;rw[cZ]
 obtain⟨A,hA,hA2⟩:=h1;obtain⟨B,hB,hB2⟩:=h2;rw[eD]at hA hB;rw[Ib]at hA hB;have hDD:pD (a++b)≠0:=by
  have:∀l:List RB,(∀r,r∈l→r.D≠0)→pD l≠0:=by
   intro l
   induction l with
   |nil=>intro _;show 1≠0;omega
   |cons r l ih=>intro h;exact z1g (h r (by simp)) (ih λx hx=>h x (by simp[hx]))
  exact this _ (λr hr=>hD r (by simp at hr ⊢;rcases hr with h|h<;>simp[h]))
 have hA0:A≠0:=by
  intro h0;subst h0;rcases z1K.1 hA with h|h
  ·exact hne h
  ·rcases z1K.1 h with h|h
   ·exact hD p (by simp) (dn.1 h)
   ·exact hDD (dn.1 h)
 have hq:y*((A*(T.D:Int):Int):Rat)=((B*(p.D:Int):Int):Rat):=by
  rw[z1f,z1f,←hA,←hB,hc];show y*(dt cs (ra.map ent++ent rp::rb.map ent)*((p.D:Rat)*((pD (a++b):Nat):Rat))*(T.D:Rat))=y*dt cs (ra.map ent++ent rp::rb.map ent)*((T.D:Rat)*((pD (a++b):Nat):Rat))*(p.D:Rat);grind
 have:=HI (by
  intro h0;rcases Int.mul_eq_zero.1 h0 with h|h
  ·exact hA0 h
  ·omega) hq
 rw[dU,dU]at this;simp only[d8]at this;refine⟨bP this.1 (aL _ (by rw[eN,aK T.N]at hB2;exact hB2)),bP this.2 (aL _ hA2)⟩
def fG:Row→Row
 |[]=>[]
 |x::l=>if fG l=[]∧x=0 then[]else x::fG l
section
variable {a b f g l:Row} {x:Rat} {i k n:Nat}
theorem uf:ent [] i=0:=by unfold ent;simp
theorem Xi:ent (x::l) 0=x:=rfl
theorem KM:ent (x::l) (i+1)=ent l i:=rfl
theorem mU:∀(l:Row)(i:Nat),ent (fG l) i=ent l i
 |[],i=>rfl
 |x::l,i=>by
  unfold fG;by_cases h:fG l=[]∧x=0
  ·rw[aC h,uf];cases i with
   |zero=>rw[Xi,h.2]
   |succ i=>rw[KM,←mU l i,h.1,uf]
  ·rw[aF h];cases i with
   |zero=>rfl
   |succ i=>rw[KM,KM,mU l i]
theorem vk:∀{l:Row},(∀i,ent l i=0)→fG l=[]
 |[],_=>rfl
 |x::l,h=>by
  unfold fG;rw[aC ⟨vk λi=>h (i+1),h 0⟩]
theorem qZ:∀{a b:Row},(∀i,ent a i=ent b i)→fG a=fG b
 |[],b,h=>(vk λi=>by rw[←h i,uf]).symm
 |x::a,[],h=>vk λi=>by rw[h i,uf]
 |x::a,y::b,h=>by
  have h1:fG a=fG b:=qZ λi=>h (i+1);have h2:x=y:=h 0;unfold fG;rw[h1,h2]
def Pt(l:Row):Prop:=fG l=l
theorem qK(l:Row):Pt (fG l):=qZ (mU l)
theorem nV:∀l:Row,(fG l).length≤l.length
 |[]=>aE _
 |x::l=>by
  unfold fG;split
  ·simp
  ·have:=nV l;simp;exact this
theorem B6:∀{l:Row},Pt l→l≠[]→ent l (l.length-1)≠0
 |[x],h,_=>by
  intro h0;have h1:x=0:=h0;have:fG [x]=[]:=by unfold fG;rw[aC ⟨rfl,h1⟩]
  rw[h]at this;cases this
 |x::y::l,h,_=>by
  have h1:Pt (y::l):=by
   have h:=h;unfold Pt at h;unfold fG at h;split at h
   ·cases h
   ·exact(z1v h).2
  show ent (y::l) ((y::l).length-1)≠0;exact B6 h1 (by simp)
theorem QD(h:Pt l)(hz:∀i,k≤i→ent l i=0):l.length≤k:=by
 rcases az k l.length with h1|h1
 ·exact absurd (hz (l.length-1) (by omega)) (B6 h (by intro e;subst e;simp at h1))
 ·exact h1
theorem wL:∀{l:Row},(∀x,l.getLast?=some x→x≠0)→Pt l
 |[],_=>rfl
 |[x],h=>by
  have:x≠0:=h x rfl;unfold Pt fG;rw[aF (λh=>this h.2)];rfl
 |x::y::l,h=>by
  have h1:Pt (y::l):=wL λz hz=>h z (by rw[z1m];exact hz);unfold Pt fG;rw[show fG (y::l)=y::l from h1,aF (λh=>by cases h.1)]
def lst(n:Nat)(v:Vec):Row:=(List.range n).map v
theorem gp{v:Vec}:(lst n v).length=n:=by simp[lst]
theorem mW{v:Vec}:ent (lst n v) i=if i<n then v i else 0:=by
 unfold ent lst;simp only[aD,ae];by_cases h:i<n
 ·rw[z1M h,aC h];rfl
 ·rw[bW (by simp;omega),aF h];rfl
theorem Cq:lst l.length (ent l)=l:=by
 refine z1z (by simp[lst]) λi hi hj=>?_;simp only[lst,cj,z1k];unfold ent;rw[aD,aB hj];rfl
def Cf(f g:Row):Vec:=λk=>qw (λi=>if i≤k then ent f i*ent g (k-i)else 0) f.length
def jy(f g:Row):Row:=fG (lst (f.length+g.length-1) (Cf f g))
theorem Q6(h:f.length+g.length-1≤k):Cf f g k=0:=pg λi hi=>by
 by_cases h1:i≤k
 ·rw[aC h1,gJ (r:=g) (by omega)];grind
 ·rw[aF h1]
theorem A4:ent (jy f g) k=Cf f g k:=by
 unfold jy;rw[mU,mW];split
 ·rfl
 ·rw[Q6 (by omega)]
def stV(g:Row)(k:Nat)(f:Vec):Vec:=λi=>if k≤i then f i-f (k+g.length-1)*(ent g (g.length-1))⁻¹ *ent g (i-k)else f i
def CY(g:Row):Nat→Vec→Vec
 |0,f=>f
 |k+1,f=>CY g k (stV g k f)
def n7(g f:Row):Row:=fG (lst (g.length-1) (CY g (f.length+1-g.length) (ent f)))
theorem Gv{f:Vec}(h:f (k+g.length-1)=0):stV g k f=f:=by
 funext i;unfold stV;rw[h];split
 ·grind
 ·rfl
theorem FZ{f:Vec}(hg:g≠[])(hl:ent g (g.length-1)≠0)(hz:∀i,k+g.length≤i→f i=0)(i:Nat)(hi:k+g.length-1≤i):stV g k f i=0:=by
 have hgl:0<g.length:=cU.2 hg;unfold stV;rw[aC (by omega)];by_cases h:i=k+g.length-1
 ·subst h;rw[show k+g.length-1-k=g.length-1 by omega];have:=cx _ hl;grind
 ·rw[hz i (by omega),gJ (r:=g) (i:=i-k) (by omega)];grind
theorem HG{f:Vec}(hg:g≠[])(hl:ent g (g.length-1)≠0):∀(k:Nat)(f:Vec),(∀i,k+g.length-1≤i→f i=0)→∀i,g.length-1≤i→CY g k f i=0
 |0,f,h,i,hi=>h i (by omega)
 |k+1,f,h,i,hi=>by
  have hgl:0<g.length:=cU.2 hg;exact HG (f:=f) hg hl k _ (λi hi=>FZ hg hl (λi hi=>h i (by omega)) i hi) i hi
theorem NU(hg:g≠[])(hl:ent g (g.length-1)≠0):ent (n7 g f) i=CY g (f.length+1-g.length) (ent f) i:=by
 unfold n7;rw[mU,mW];have hgl:0<g.length:=cU.2 hg;by_cases hi:i<g.length-1
 ·rw[aC hi]
 ·rw[aF hi];exact(HG (f:=ent f) hg hl _ _ (λi hi=>gJ (by omega)) i (by omega)).symm
theorem NT:(n7 g f).length≤g.length-1:=bP (nV _) (by rw[gp];exact aE _)
def tj(g rest:Row):Row:=fG (lst rest.length (λi=>ent rest i+(-1)*(ent (jy (List.replicate (rest.length-g.length) 0++[ent rest (rest.length-1)*(ent g (g.length-1))⁻¹]) g) i)))
def qy(g:Row):Nat→Row→Row
 |0,rest=>rest
 |k+1,rest=>if g.length≤rest.length then qy g k (tj g rest)else rest
theorem Cg{c:Rat}{D:Nat}:ent (List.replicate D 0++[c]) i=if i=D then c else 0:=by
 rw[qb,eC];by_cases h:i<D
 ·rw[aC h,aF (by omega)];unfold ent;simp only[aD,dm];rw[aC h];rfl
 ·rw[aF h];by_cases h1:i=D
  ·subst h1;rw[aC rfl,bt];rfl
  ·rw[aF h1,gJ (by simp;omega)]
theorem Hc{c:Rat}{D:Nat}:Cf (List.replicate D 0++[c]) g k=if D≤k then c*ent g (k-D)else 0:=by
 unfold Cf;rw[zJ (p:=D) (by simp) (λi hi hne=>by rw[Cg,aF hne];split<;>grind),Cg,aC rfl]
theorem E2(hl:g.length≤f.length):ent (tj g f) i=stV g (f.length-g.length) (ent f) i:=by
 unfold tj stV;rw[mU,mW,A4,Hc,show f.length-g.length+g.length-1=f.length-1 by omega];by_cases hi:i<f.length
 ·rw[aC hi];split<;>grind
 ·rw[aF hi,gJ (r:=f) (i:=i) (by omega)];by_cases h:f.length-g.length≤i
  ·rw[aC h,gJ (r:=g) (i:=i-(f.length-g.length)) (by omega)];grind
  ·rw[aF h]
theorem vi(hg:g≠[])(hl:ent g (g.length-1)≠0):∀(K k:Nat)(f:Row),Pt f→f.length≤K+g.length-1→K≤k→qy g k f=fG (lst (g.length-1) (CY g K (ent f)))
 |0,k,f,hp,hlen,_=>by
  have hgl:0<g.length:=cU.2 hg;have:qy g k f=f:=by
   cases k with
   |zero=>rfl
   |succ k=>unfold qy;rw[aF (by omega)]
  rw[this,←show fG f=f from hp];refine qZ λi=>?_;rw[mW];split
  ·show ent f i=ent (fG f) i;rw[mU]
  ·rw[gJ (by omega)]
 |K+1,0,f,hp,hlen,hk=>by omega
 |K+1,k+1,f,hp,hlen,hk=>by
  have hgl:0<g.length:=cU.2 hg;show _=fG (lst (g.length-1) (CY g K (stV g K (ent f))));by_cases h:f.length=K+g.length
  ·unfold qy;rw[aC (by omega)];have e:∀i,ent (tj g f) i=stV g K (ent f) i:=λi=>by rw[E2 (by omega),show f.length-g.length=K by omega]
   rw[vi hg hl K k (tj g f) (qK _) (QD (qK _) λi hi=>by
    show ent (tj g f) i=0;rw[e];exact FZ hg hl (λi hi=>gJ (by omega)) i (by omega)) (by omega),show ent (tj g f)=stV g K (ent f)from funext e]
  ·rw[Gv (gJ (by omega))];by_cases hk1:K=k
   ·subst hk1;cases K with
    |zero=>
     have:qy g (0+1) f=qy g 0 f:=by
      show(if g.length≤f.length then _ else f)=f;rw[aF (by omega)]
     rw[this];exact vi hg hl 0 0 f hp (by omega) (by omega)
    |succ K=>exact vi hg hl (K+1) (K+1+1) f hp (by omega) (by omega)
   ·exact vi hg hl K (k+1) f hp (by omega) (by omega)
end
section
variable {bs:List Blk} {l o n z:Nat} {cs zero:List D} {d x y:D} {K:D→LS→Rs} {b c e:Bool} {s:LS} {a m:Nat} {parts:List (Nat×Nat×D)}
theorem UR{F:Blk→Rs}:jL (mem bs) l F=ob bs[l]? F:=by rw[pM,kj]
theorem jf(h:cs.all one=true):jM (.agg cs) (mem bs) K=K (.ptr bs.length 0) (mem (bs++[⟨cs,.rw⟩])):=by
 show vcK (.agg cs) (λcs=>qS cs (lP (mem bs) ⟨cs,.rw⟩ λs'=>K (.ptr (mem bs).nx 0) s'))=_;rw[wG];show qS cs _=_;rw[py h,kB,jQ];rfl
theorem rQ:gG zero (mem bs) K=K (.ptr bs.length 0) (mem (bs++[⟨zero,.rw⟩])):=OO
theorem kW:eX z (mem bs) (.ptr l o) K=ob bs[l]? λb=>cnd b.st.live (K (.ptr l (o+z)) (mem bs)) none:=by
 show(jL (mem bs) l λb=>cnd (lv b.st) (frc (Nat.add o z) λo=>K (.ptr l o) (mem bs)) none)=_;rw[UR];cases bs[l]?with
 |none=>rfl
 |some b=>rw[gN,gN,rN,fB];rfl
theorem lV:eK (mem bs) (.ptr l o) K=ob bs[l]? λb=>cnd b.st.live (ob b.cs[o]? λd=>K d (mem bs)) none:=by
 show(jL (mem bs) l λb=>cnd (lv b.st) (BM o b.cs λd=>K d (mem bs)) none)=_;rw[UR];cases bs[l]?with
 |none=>rfl
 |some b=>rw[gN,gN,rN,z6]
theorem ln:eT n (mem bs) (.ptr l o) K=ob bs[l]? λb=>cnd b.st.live (iw n (b.cs.drop o) λr=>K (.agg r) (mem bs)) none:=by
 show jL (mem bs) l (λb=>cnd (lv b.st) (jN o b.cs λr=>iw n r λr=>K (.agg r) (mem bs)) none)=_;rw[UR];cases bs[l]?with
 |none=>rfl
 |some b=>rw[gN,gN,rN,gE]
theorem lk{α:Type}{l:List α}{k:List α→Rs}:iw 0 l k=k []:=rfl
theorem li{α:Type}{n:Nat}{x:α}{l:List α}{k:List α→Rs}:iw (n+1) (x::l) k=iw n l λr=>k (x::r):=rfl
theorem rL:eU n (mem bs) (.ptr l o) x K=ob bs[l]? λb=>cnd b.st.wr (cnd (Nat.beq (kP x).length n) (qS (kP x) (ob (lay o (kP x) b.cs) λcs=>K .u (mem (bs.set l ⟨cs,.rw⟩)))) none) none:=by
 show jL (mem bs) l (λb=>cnd (wr b.st) (vcK x λnew=>cnd (Nat.beq new.length n) (qS new (v6 o new b.cs λcs=>pL (mem bs) l ⟨cs,.rw⟩ λs=>K .u s)) none) none)=_;rw[UR];cases h:bs[l]?with
 |none=>rfl
 |some b=>
  rw[gN,gN,Bu,wG,nj,sS];simp only[oj (ef h)]
theorem rS{b:Bool}{l:List D}{t:Rs}:qS (.b b::l) t=qS l t:=rfl
theorem rR{l:List D}{t:Rs}:qS (.n a::l) t=qS l t:=rfl
theorem rU{t:Rs}:qS [] t=t:=rfl
theorem rK:kP (.agg cs)=cs:=rfl
theorem Z7:kP (.n a)=[.n a]:=rfl
theorem gf:Stt.rw.live=true:=rfl
theorem mz:Stt.rw.wr=true:=rfl
theorem Cv{x y u' v:D}{r:List D}:lay 0 [x,y] (u'::v::r)=some (x::y::r):=rfl
theorem ua{x y z u' v w:D}:lay 0 [x,y,z] [u',v,w]=some [x,y,z]:=rfl
theorem Zy{x y u':D}:lay 1 [x] [u',y]=some [u',x]:=rfl
theorem re2{own:Bool}:eW own s (.agg [.b b,.n a]) some=some (.agg [.b b,.n a]):=by cases own<;>rfl
theorem re3{own:Bool}:eW own s (.agg [.b b,.n a,.n m]) some=some (.agg [.b b,.n a,.n m]):=by cases own<;>rfl
theorem sO{own:Bool}:eW own s (.b b) some=some (.b b):=by cases own<;>rfl
theorem jU{own:Bool}{k:IntKind}{i:Int}:eW own s (.i k i) some=some (.i k i):=by cases own<;>rfl
theorem kb3:kw [.b false,.n 0,.n 0] [(0,2,.agg [.b b,.n a]),(2,1,.n m)] s K=K (.agg [.b b,.n a,.n m]) s:=rfl
theorem Nf:kw [.b false,.n 0] [(1,1,.n m)] s K=K (.agg [.b false,.n m]) s:=rfl
theorem kb2:kw [.b false,.n 0] [(0,1,.b b),(1,1,.n m)] s K=K (.agg [.b b,.n m]) s:=rfl
theorem M7:xP .neq (.b b) (.b c) s K=K (.b (b != c)) s:=by cases b<;>cases c<;>rfl
theorem SW:xP .eql (.b b) (.b c) s K=K (.b (b==c)) s:=by cases b<;>cases c<;>rfl
theorem tL:qP (.b b) s K=K (.b (!b)) s:=by cases b<;>rfl
theorem H3{a m:Nat}{k:D→Rs}:nC (.n a) (.n m) k=k (.b (!(Nat.beq a m))):=by
 show fc .neq (.n a) (.n m) k=_;unfold fc;rw[gV];rfl
theorem sj{a m:Nat}{k:D→Rs}:iB (.n a) (.n m) k=k (.b (Nat.beq a m)):=by
 show fc .eql (.n a) (.n m) k=_;unfold fc;rw[gV];rfl
theorem xb:(true==true)=true:=by decide
theorem D5:(false==true)=false:=by decide
theorem sY:(true==false)=false:=by decide
theorem vC:(false==false)=true:=by decide
theorem fy:s0=mem []:=rfl
theorem sU{w b:Bool}{op:(D→LS→Rs)→Rs}:eI (.b b) w op s K=cnd (b==w) (op K) (K (.tup []) s):=by cases b<;>cases w<;>rfl
theorem sR{b:Bool}{x y:D}:fY (.b b) x y s K=cnd b (K x s) (K y s):=by cases b<;>rfl
theorem oW{b:Bool}{x y:Rs}:eQ (.b b) x y=cnd b x y:=by cases b<;>rfl
end
def zt(x:Bool)(a:Nat):Int:=if x then -(a:Int)else a
def itz(z:Int):D:=.agg [.b (decide (z<0)),.n z.natAbs]
def rc(q:Rat):D:=.agg [.b (decide (q.num<0)),.n q.num.natAbs,.n q.den]
section
variable {x y:Bool} {a b m n k:Nat} {z w:Int} {p q:Rat} {φ:Nat}
theorem SU(a b:Nat):Nat.beq a b=decide (a=b):=by
 by_cases h:a=b
 ·subst h;rw[ei,aP rfl]
 ·rw[gR h,aN h]
theorem wF:(zt x a).natAbs=a:=by unfold zt;cases x<;>simp
theorem FQ:decide (zt x a<0)=(x&& !(Nat.beq a 0)):=by
 unfold zt;rw[SU];cases x with
 |false=>simp
 |true=>
  by_cases h:a=0
  ·subst h;simp
  ·simp only[b9,z1W,aN h,Bool.not_false];exact aP (by omega)
theorem XO:itz (zt x a)=.agg [.b (x&& !(Nat.beq a 0)),.n a]:=by unfold itz;rw[wF,FQ]
theorem Kb(z:Int):zt (decide (z<0)) z.natAbs=z:=by
 unfold zt;by_cases h:z<0
 ·rw[aP h,aC rfl];omega
 ·rw[aN h,aF (by simp)];omega
theorem WC{g:Nat}(hg:g∣a):zt x a/(g:Int)=zt x (a/g):=by
 obtain⟨c,rfl⟩:=hg;unfold zt;by_cases h0:g=0
 ·subst h0;cases x<;>simp
 ·cases x with
  |false=>
   rw[aF (by simp),aF (by simp),Int.natCast_ediv]
  |true=>
   rw[aC rfl,aC rfl,Nat.mul_div_cancel_left _ (by omega)];rw[z1C,←Int.mul_neg,Int.mul_ediv_cancel_left _ (by omega)]
theorem Vf(hb:b≠0):rc (mkRat (zt x a) b)=.agg [.b (x&& !(Nat.beq (a/Nat.gcd a b) 0)),.n (a/Nat.gcd a b),.n (b/Nat.gcd a b)]:=by
 have e1:(mkRat (zt x a) b).num=zt x (a/Nat.gcd a b):=by
  rw[Rat.num_mkRat,aF hb,wF,dP,WC (Nat.gcd_dvd_left a b)]
 have e2:(mkRat (zt x a) b).den=b/Nat.gcd a b:=by rw[Rat.den_mkRat,aF hb,wF,dP]
 unfold rc;rw[e1,e2,wF,FQ]
def Lg(k n:Nat):Prop:=Nat.log2 n≤k
theorem Ei(h:Lg k n):n<2^(k+1):=by
 by_cases h0:n=0
 ·subst h0;exact bN (by decide)
 ·exact(z1Q h0).1 (by unfold Lg at h;omega)
theorem wh(h:n<2^(k+1)):Lg k n:=by
 by_cases h0:n=0
 ·subst h0;unfold Lg;rw[show Nat.log2 0=0 from by decide];exact a9 _
 ·have:=(z1Q h0).2 h;unfold Lg;omega
theorem qo(h:Lg k n)(hm:m≤n):Lg k m:=wh (cP hm (Ei h))
theorem fD{j:Nat}(h:Lg j n)(hk:j≤k):Lg k n:=bP h hk
theorem jW{j:Nat}(h:Lg j m)(h':Lg k n):Lg (j+k+1) (m*n):=by
 refine wh ?_;have h1:=Ei h;have h2:=Ei h';by_cases h0:n=0
 ·subst h0;rw[dG];exact bN (by decide)
 ·have:=z1Y h1 (dO h2) (bN (by decide));rw[←bX]at this;rw[show j+k+1+1=j+1+(k+1) by omega];exact this
theorem xI{j:Nat}(h:Lg j m)(h':Lg j n):Lg (j+1) (m+n):=by
 refine wh ?_;have h1:=Ei h;have h2:=Ei h';rw[ax];omega
def Qz(k:Nat)(q:Rat):Prop:=Lg k q.num.natAbs∧Lg k q.den
abbrev KA:Nat:=1000000000
abbrev KB:Nat:=200000000
theorem Aw(ha:Lg KA a)(hb:Lg KA b)(hφ:3000000000≤φ):uZ φ [.n a,.n b]=some (.n (Nat.gcd a b)):=by
 unfold uZ;show cnd (Nat.blt a B64) (cnd (Nat.blt b B64) (frc (Nat.gcd a b) λz=>some (D.n z)) (kG φ [.n a,.n b])) (kG φ [.n a,.n b])=_;rw[Jb ha hb hφ,fB];cases Nat.blt a B64<;>cases Nat.blt b B64<;>rfl
theorem xD(ha:Lg KA a)(hb:Lg KA b)(h0:0<b)(hφ:3000000000≤φ):pK φ [.n a,.n b]=some (.tup [.n (a/b),.n (a%b)]):=by
 unfold pK;show cnd (Nat.blt a B64) (cnd (Nat.blt b B64) (cnd (Nat.blt 0 b) (frc (Nat.div a b) λq=>frc (Nat.mod a b) λr=>some (D.tup [.n q,.n r])) none) (ia φ [.n a,.n b])) (ia φ [.n a,.n b])=_;rw[Dv ha hb h0 (by omega),fB,fB,ew h0];cases Nat.blt a B64<;>cases Nat.blt b B64<;>rfl
theorem tu(ha:Lg KA a)(hb:Lg KA b):nR [.n a,.n b]=some (.n (a*b)):=by
 unfold nR;show cnd (Nat.ble (Nat.log2 a) 1000000000) (cnd (Nat.ble (Nat.log2 b) 1000000000) (frc (Nat.mul a b) λz=>some (D.n z)) none) none=_;rw[aH ha,aH hb,fB];rfl
theorem Ay(ha:Lg KA a)(hb:Lg KA b):u7 [.n a,.n b]=some (.n (a+b)):=by
 unfold u7;show cnd (Nat.ble (Nat.log2 a) 1000000000) (cnd (Nat.ble (Nat.log2 b) 1000000000) (frc (Nat.add a b) λz=>some (D.n z)) none) none=_;rw[aH ha,aH hb,fB];rfl
theorem vP(ha:Lg KA a)(hb:b≤a):mw [.n a,.n b]=some (.n (a-b)):=by
 unfold mw;show cnd (Nat.ble (Nat.log2 a) 1000000000) (cnd (Nat.ble b a) (frc (Nat.sub a b) λz=>some (D.n z)) none) none=_;rw[aH ha,aH hb,fB];rfl
theorem XP(z:Int):itz z=it (decide (z<0)) z.natAbs:=rfl
theorem zg{v:Bool}{c:Nat}(h:zt v c=z):it (v&& !(Nat.beq c 0)) c=itz z:=by rw[←h,XO];rfl
theorem Tw{x:Bool}{a:Nat}{k:Bool→Nat→Rs}:A6 (it x a) k=k x a:=by cases x<;>rfl
theorem C7{k:Bool→Nat→Rs}:A6 (itz z) k=k (decide (z<0)) z.natAbs:=by rw[XP,Tw]
theorem BE(hz:Lg KA z.natAbs)(hw:Lg KA w.natAbs):ud [itz z,itz w]=some (itz (z+w)):=by
 show A6 (itz z) (λx a=>A6 (itz w) λy b=>Sf x a y b some)=_;rw[C7,C7];unfold Sf;by_cases h1:z<0
 ·by_cases h2:w<0
  ·rw[aP h1,aP h2,Ay hz hw];show kIt true (z.natAbs+w.natAbs) some=_;rw[tS,zg (z:=z+w) (by unfold zt;rw[aC rfl];omega)]
  ·rw[aP h1,aN h2];show cnd (Nat.blt z.natAbs w.natAbs) (ob (mw [.n w.natAbs,.n z.natAbs]) λc=>og c λc=>kIt false c some) (ob (mw [.n z.natAbs,.n w.natAbs]) λc=>og c λc=>kIt true c some)=_;by_cases h3:z.natAbs<w.natAbs
   ·rw[ew h3,eL,vP hw (by omega)];show kIt false (w.natAbs-z.natAbs) some=_;rw[tS,zg (z:=z+w) (by unfold zt;rw[aF (by simp)];omega)]
   ·rw[fE h3,e9,vP hz (by omega)];show kIt true (z.natAbs-w.natAbs) some=_;rw[tS,zg (z:=z+w) (by unfold zt;rw[aC rfl];omega)]
 ·by_cases h2:w<0
  ·rw[aN h1,aP h2];show cnd (Nat.blt z.natAbs w.natAbs) (ob (mw [.n w.natAbs,.n z.natAbs]) λc=>og c λc=>kIt true c some) (ob (mw [.n z.natAbs,.n w.natAbs]) λc=>og c λc=>kIt false c some)=_;by_cases h3:z.natAbs<w.natAbs
   ·rw[ew h3,eL,vP hw (by omega)];show kIt true (w.natAbs-z.natAbs) some=_;rw[tS,zg (z:=z+w) (by unfold zt;rw[aC rfl];omega)]
   ·rw[fE h3,e9,vP hz (by omega)];show kIt false (z.natAbs-w.natAbs) some=_;rw[tS,zg (z:=z+w) (by unfold zt;rw[aF (by simp)];omega)]
  ·rw[aN h1,aN h2,Ay hz hw];show kIt false (z.natAbs+w.natAbs) some=_;rw[tS,zg (z:=z+w) (by unfold zt;rw[aF (by simp)];omega)]
theorem Je(z w:Int):zt (decide (z<0) != decide (w<0)) (z.natAbs*w.natAbs)=z*w:=by
 have h1:((z.natAbs*w.natAbs:Nat):Int)=(z.natAbs:Int)*(w.natAbs:Int):=z1C _ _;unfold zt;by_cases hz:z<0<;>by_cases hw:w<0
 ·rw[aP hz,aP hw,aF (by simp),h1,show(z.natAbs:Int)= -z by omega,show(w.natAbs:Int)= -w by omega,Int.neg_mul_neg]
 ·rw[aP hz,aN hw,aC (by simp),h1,show(z.natAbs:Int)= -z by omega,show(w.natAbs:Int)=w by omega,Int.neg_mul,Int.neg_neg]
 ·rw[aN hz,aP hw,aC (by simp),h1,show(z.natAbs:Int)=z by omega,show(w.natAbs:Int)= -w by omega,Int.mul_neg,Int.neg_neg]
 ·rw[aN hz,aN hw,aF (by simp),h1,show(z.natAbs:Int)=z by omega,show(w.natAbs:Int)=w by omega]
theorem ID(hz:Lg KA z.natAbs)(hw:Lg KA w.natAbs):wV [itz z,itz w]=some (itz (z*w)):=by
 show A6 (itz z) (λx a=>A6 (itz w) λy b=>ob (nR [.n a,.n b]) λc=>og c λc=>kIt (cnd x (cnd y false true) y) c some)=_;rw[C7,C7,tu hz hw];show kIt (cnd (decide (z<0)) (cnd (decide (w<0)) false true) (decide (w<0))) (z.natAbs*w.natAbs) some=_;rw[tS,show cnd (decide (z<0)) (cnd (decide (w<0)) false true) (decide (w<0))=(decide (z<0) != decide (w<0)) by cases decide (z<0)<;>cases decide (w<0)<;>rfl,zg (Je z w)]
theorem IA:xx [itz z]=some (itz (-z)):=by
 show A6 (itz z) (λx a=>kIt (cnd x false true) a some)=_;rw[C7];show kIt (cnd (decide (z<0)) false true) z.natAbs some=_;rw[tS,show cnd (decide (z<0)) false true= !(decide (z<0)) by cases decide (z<0)<;>rfl,zg (z:= -z)];unfold zt;by_cases h:z<0
 ·rw[aP h,aF (by simp)];omega
 ·rw[aN h,aC (by simp)];omega
theorem yj{M:List D→Option D}{x:Bool}{a:Nat}{r:D}(h:M [.agg [.b x,.n a]]=some r)(hp:pt r=true):∀s K,eS M [.agg [.b x,.n a]] s K=K r s:=λs K=>fF h (by intro kk;rfl) hp
theorem rl{M:List D→Option D}{x y:Bool}{a b:Nat}{r:D}(h:M [.agg [.b x,.n a],.agg [.b y,.n b]]=some r)(hp:pt r=true):∀s K,eS M [.agg [.b x,.n a],.agg [.b y,.n b]] s K=K r s:=λs K=>fF h (by intro kk;rfl) hp
theorem xQ{M:List D→Option D}{x:Bool}{a m:Nat}{r:D}(h:M [.agg [.b x,.n a,.n m]]=some r)(hp:pt r=true):∀s K,eS M [.agg [.b x,.n a,.n m]] s K=K r s:=λs K=>fF h (by intro kk;rfl) hp
theorem GG{M:List D→Option D}{x y:Bool}{a m b n:Nat}{r:D}(h:M [.agg [.b x,.n a,.n m],.agg [.b y,.n b,.n n]]=some r)(hp:pt r=true):∀s K,eS M [.agg [.b x,.n a,.n m],.agg [.b y,.n b,.n n]] s K=K r s:=λs K=>fF h (by intro kk;rfl) hp
theorem zT(x:Bool)(a:Nat):∀s K,eS (fb φ) [.b x,.n a] s K=K (.agg [.b (x&& !(Nat.beq a 0)),.n a]) s:=λs K=>yi sC
theorem Ym(ha:Lg KA a)(hb:Lg KA b)(h0:b≠0)(hφ:3000000000≤φ):oO φ [.agg [.b x,.n a],.agg [.b false,.n b]]=some (rc (mkRat (zt x a) b)):=by
 have hg:0<Nat.gcd a b:=Nat.gcd_pos_of_pos_right a (by omega);have hgk:Lg KA (Nat.gcd a b):=qo hb (Nat.gcd_le_right a (by omega));have i1:∀s K,eS (uZ φ) [.n a,.n b] s K=K (.n (Nat.gcd a b)) s:=λs K=>rC (Aw ha hb hφ);have i2:∀s K,eS (pK φ) [.n a,.n (Nat.gcd a b)] s K=K (.tup [.n (a/Nat.gcd a b),.n (a%Nat.gcd a b)]) s:=λs K=>GH (xD ha hgk hg hφ);have i3:∀s K,eS (pK φ) [.n b,.n (Nat.gcd a b)] s K=K (.tup [.n (b/Nat.gcd a b),.n (b%Nat.gcd a b)]) s:=λs K=>GH (xD hb hgk hg hφ);rw[Vf h0];unfold oO;by_cases h1:Nat.gcd a b=1
 ·simp -implicitDefEqProofs only[eV,eY,fy,jf,rQ,kW,lV,ln,rL,List.all_cons,List.all_nil,one,Bool.and_self,List.length_nil,List.length_cons,List.nil_append,List.cons_append,List.getElem?_cons_zero,List.getElem?_cons_succ,gN,gf,mz,eL,e9,jn,H3,oW,Bool.not_true,Nat.zero_add,Nat.reduceAdd,List.set_cons_zero,List.set_cons_succ,rK,ua,rS,rR,rU,ei,M7,kb3,lk,li,re3,List.drop_zero,i1,h1,zT,Bool.bne_false,Nat.div_one]
 ·simp -implicitDefEqProofs only[eV,eY,fy,jf,rQ,kW,lV,ln,rL,List.all_cons,List.all_nil,one,Bool.and_self,List.length_nil,List.length_cons,List.nil_append,List.cons_append,List.getElem?_cons_zero,List.getElem?_cons_succ,gN,gf,mz,eL,jn,H3,oW,Bool.not_false,iO,iN,Nat.zero_add,Nat.reduceAdd,List.set_cons_zero,List.set_cons_succ,rK,Z7,ua,Zy,rS,rR,rU,ei,M7,kb3,lk,li,re3,List.drop_zero,i1,i2,i3,gR h1,zT,Bool.bne_false]
end
def Hb(D N:Nat)(l:Row):Prop:=∀i,Ht D N (ent l i)
section
variable {f g l:Row} {D N E M n i k:Nat}
theorem ME{v:Nat→Rat}(h:∀i,Ht D N (v i)):∀n,Ht D (n*N) (qw v n)
 |0=>nS ue (a9 _)
 |n+1=>by
  have:=XY (ME h n) (h n);rw[aS,bG];exact this
def pmV(f g:Row)(n:Nat):Vec:=λk=>qw (λi=>if i≤k then ent f i*ent g (k-i)else 0) n
theorem LN:pmV f g f.length=Cf f g:=rfl
theorem QK(hf:Hb D N f)(hg:Hb E M g):Ht (D*E) (n*(N*M)) (pmV f g n k):=
 ME (λi=>by
  by_cases h:i≤k
  ·rw[aC h];exact xS (hf i) (hg _)
  ·rw[aF h];exact nS ue (a9 _)) n
theorem zX(hf:Hb D N f)(hg:Hb E M g):Hb (D*E) (f.length*(N*M)) (jy f g):=λi=>by
 rw[A4];exact QK hf hg
theorem xo:(jy f g).length≤f.length+g.length-1:=by
 unfold jy;exact bP (nV _) (by rw[gp];exact aE _)
theorem QJ(h:ent f i=0):pmV f g (i+1) k=pmV f g i k:=by
 show pmV f g i k+(if i≤k then ent f i*ent g (k-i)else 0)=_;rw[h];split<;>grind
theorem zY:pmV f g (i+1) k=pmV f g i k+(if i≤k then ent f i*ent g (k-i)else 0):=rfl
theorem Ix{v:Vec}(hg:Hb 1 M g)(h1:ent g (g.length-1)=1)(hv:∀i,Ht D N (v i))(i:Nat):Ht D (N+N*M) (stV g k v i):=by
 unfold stV;by_cases h:k≤i
 ·rw[aC h,h1];have h2:=xS (hv (k+g.length-1)) (hg (i-k));rw[aj]at h2;have h3:=Jv (hv i) h2;have e:v (k+g.length-1)*(1:Rat)⁻¹ =v (k+g.length-1):=by
   rw[show(1:Rat)⁻¹ =1 by(have:=cx 1 (by decide);rwa[dM]at this),dM]
  rw[e];exact h3
 ·rw[aF h];exact nS (hv i) (z1x _ _)
theorem Ky(hg:Hb 1 M g)(h1:ent g (g.length-1)=1):∀(k N:Nat)(v:Vec),(∀i,Ht D N (v i))→∀i,Ht D (N*(1+M)^k) (CY g k v i)
 |0,N,v,hv,i=>by rw[ck,aj];exact hv i
 |k+1,N,v,hv,i=>by
  have:=Ky hg h1 k (N+N*M) (stV g k v) (λi=>Ix hg h1 hv i) i;rw[ax,aK ((1+M)^k),←aa,bA,aj];exact this
theorem QF(hgn:g≠[])(hg:Hb 1 M g)(h1:ent g (g.length-1)=1)(hf:Hb D N f):Hb D (N*(1+M)^(f.length+1-g.length)) (n7 g f):=λi=>by
 rw[NU hgn (by rw[h1];decide)];exact Ky hg h1 _ _ _ hf i
end
def RH(h:Nat)(r:Row):Prop:=∃D N,0<D∧Lg h D∧Lg h N∧Hb D N r
section
variable {r l:Row} {h h1 h2 p i:Nat} {c:Rat}
theorem Vh{D N k:Nat}{q:Rat}(hD:0<D)(h:Ht D N q)(h1:Lg k D)(h2:Lg k N):Qz k q:=by
 obtain⟨a,b⟩:=MF hD h;exact⟨qo h2 a,qo h1 b⟩
theorem vN{j k:Nat}{q:Rat}(h:Qz j q)(hk:j≤k):Qz k q:=⟨fD h.1 hk,fD h.2 hk⟩
theorem uX(h:RH h1 r)(hh:h1≤h2):RH h2 r:=by
 obtain⟨D,N,a,b,c,d⟩:=h;exact⟨D,N,a,fD b hh,fD c hh,d⟩
theorem JK(hr:RH h r)(i:Nat):Qz h (ent r i):=by
 obtain⟨D,N,a,b,c,d⟩:=hr;exact Vh a (d i) b c
theorem Y4(hr:RH h1 r)(hl:RH h2 l)(p i:Nat):Qz (h1+h2+1) (ent r p*ent l i):=by
 obtain⟨D,N,a,b,c,d⟩:=hr;obtain⟨E,M,a',b',c',d'⟩:=hl;exact Vh (co a a') (xS (d p) (d' i)) (jW b b') (jW c c')
theorem JJ(hr:RH h1 r)(hl:RH h2 l)(he:r.length=l.length)(p:Nat):RH (h1+h2+2) (sbr r l (ent r p)):=by
 obtain⟨D,N,a,b,c,d⟩:=hr;obtain⟨E,M,a',b',c',d'⟩:=hl;refine⟨D*E,N*E+N*M,co a a',fD (jW b b') (by omega),?_,λi=>?_⟩
 ·have:=xI (jW c b') (jW c c');exact fD this (by omega)
 ·rw[zM he];exact Jv (IK E (d i)) (xS (d p) (d' i))
theorem PB(hr:RH h r)(hp:ent r p≠0):RH h (scl r (ent r p)⁻¹):=by
 obtain⟨D,N,a,b,c,d⟩:=hr;obtain⟨z,hz,hzN⟩:=d p;have hD:(D:Rat)≠0:=λe=>by have:=dn.1 e;omega
 have hz0:z≠0:=by
  intro e;subst e;rcases z1K.1 hz with e|e
  ·exact hp e
  ·exact hD e
 have hzr:(z:Rat)≠0:=λe=>hz0 (Rat.intCast_eq_zero_iff.1 e);refine⟨z.natAbs,N,by omega,qo c hzN,c,λi=>?_⟩;obtain⟨w,hw,hwN⟩:=d i;have hinv:ent r p*(ent r p)⁻¹ =1:=z1T _ hp;have e1:ent r i*(ent r p)⁻¹ *(z:Rat)=(w:Rat):=by
  rw[←hz,←hw];have:ent r i*(ent r p)⁻¹ *(ent r p*(D:Rat))=ent r i*(D:Rat)*(ent r p*(ent r p)⁻¹):=by grind
  rw[this,hinv,dM]
 rw[B1];by_cases hs:0≤z
 ·refine⟨w,?_,hwN⟩;rw[←e1,show((z.natAbs:Nat):Rat)=(z:Rat)from ?_];have:((z.natAbs:Nat):Int)=z:=by omega
  rw[←Rat.intCast_natCast,this]
 ·refine⟨-w,?_,by omega⟩;rw[z2c,←e1];have:((z.natAbs:Nat):Rat)= -(z:Rat):=by
   have:((z.natAbs:Nat):Int)= -z:=by omega
   rw[←Rat.intCast_natCast,this,z2c]
  rw[this];grind
theorem B3{N H:Nat}:∀{E:List Row}{r:Row}{h:Nat},(∀l,l∈E→l.length=N∧RH H l)→r.length=N→RH h r→RH (h+E.length*(H+2)) (sH E r)
 |[],r,h,_,_,hr=>by simpa[sH]using hr
 |l::E,r,h,hE,hn,hr=>by
  obtain⟨a,b⟩:=hE l (by simp);have h1:=JJ hr b (by omega) (pvt l);have h3:RH (h+H+2+E.length*(H+2)) (sH E (sbr r l (ent r (pvt l)))):=B3 (N:=N) (H:=H) (E:=E) (r:=sbr r l (ent r (pvt l))) (λm hm=>hE m (bn _ hm)) (by rw[tZ (by omega)];exact hn) h1;show RH _ (sH E (sbr r l (ent r (pvt l))));refine uX h3 ?_;simp only[bD];rw[aS,bG];omega
def hgt(h:Nat):Nat→Nat
 |0=>h
 |j+1=>h+(j+1)*(hgt h j+2)
theorem RV(h:Nat):∀j,hgt h j≤hgt h (j+1)
 |j=>by
  show hgt h j≤h+(j+1)*(hgt h j+2);rw[aS,bG];omega
theorem Jw(h:Nat){i j:Nat}(hij:i≤j):hgt h i≤hgt h j:=by
 induction hij with
 |refl=>exact aE _
 |step _ ih=>exact bP ih (RV h _)
end
def pwL(g a:Row):Nat→Row
 |0=>[1]
 |j+1=>n7 g (jy (pwL g a j) a)
def iY(g a:Row)(j:Nat):Row:=lst (g.length-1) (ent (pwL g a j))
section
variable {g a l:Row} {m M D N d j k x y n:Nat}
theorem uv(h:Lg k x):∀j,Lg ((k+1)*j) (x^j)
 |0=>by rw[ck];show Nat.log2 1≤_;rw[show Nat.log2 1=0 from by decide];exact a9 _
 |j+1=>by
  rw[ax];refine fD (jW (uv h j) h) ?_;rw[bA,aj];omega
theorem zV(hm:2≤g.length):∀j,(pwL g a j).length≤g.length-1
 |0=>by show 1≤_;omega
 |j+1=>NT
theorem QB:∀j,Pt (pwL g a j)
 |0=>by
  show Pt [1];refine wL (λx hx=>?_);have:1=x:=by simpa using hx
  rw[←this];decide
 |j+1=>qK _
def pwc(d N M:Nat):Nat:=d*N*(1+M)^d
theorem RW:Hb 1 1 [1]:=λi=>by
 cases i with
 |zero=>show IB 1 ((1:Rat)*((1:Nat):Rat));rw[z2g];exact GI 1
 |succ i=>
  show Ht 1 1 (ent [] i);rw[uf];exact nS ue (by omega)
theorem QC(hm:g.length=d+1)(hd:1≤d)(hg:Hb 1 M g)(h1:ent g d=1)(ha:Hb D N a)(hal:a.length≤d):∀j,Hb (D^j) (pwc d N M^j) (pwL g a j)
 |0=>RW
 |j+1=>by
  have hp:=QC hm hd hg h1 ha hal j;have hl:=zV (g:=g) (a:=a) (by omega) j;have h2:=zX hp ha;have hpl:=xo (f:=pwL g a j) (g:=a);have h3:=QF (g:=g) (f:=jy (pwL g a j) a) (by intro e;rw[e]at hm;simp at hm) hg (by rw[hm];exact h1) h2;intro i;have h4:=h3 i;rw[ax,ax];refine nS h4 ?_;have e1:(pwL g a j).length*(pwc d N M^j*N)≤d*(pwc d N M^j*N):=aL _ (by omega);have e2:(1+M)^((jy (pwL g a j) a).length+1-g.length)≤(1+M)^d:=bg (by omega) (by omega);refine bP (cA e1 e2) (z1G ?_);show d*(pwc d N M^j*N)*(1+M)^d=pwc d N M^j*(d*N*(1+M)^d);rw[←aa (pwc d N M^j),cZ d]
theorem Jx(h:Hb D N l):Hb D N (lst n (ent l)):=λi=>by
 rw[mW];split
 ·exact h i
 ·exact nS ue (a9 _)
structure EL (g a:Row) (d D N M:Nat):Prop where
 hm:g.length=d+1
 hd:1≤d
 hd5:d≤5
 hg:Hb 1 M g
 h1:ent g d=1
 ha:Hb D N a
 hal:a.length≤d
 d0:0<D
 lD:Lg 330 D
 lN:Lg 330 N
 lM:Lg 40 M
theorem EL.lc(h:EL g a d D N M):Lg 600 (pwc d N M):=by
 have h5:Lg 2 d:=wh (cP h.hd5 (by decide));have h1M:Lg 41 (1+M):=by
  have:=xI (j:=40) (m:=1) (n:=M) (wh (by decide)) h.lM;exact this
 have h2:=jW (jW h5 h.lN) (uv h1M d);refine fD h2 ?_;have:=h.hd5;have:(41+1)*d≤(41+1)*5:=aT _ h.hd5;omega
theorem EL.hb(h:EL g a d D N M)(j:Nat):Hb (D^j) (pwc d N M^j) (pwL g a j):=QC h.hm h.hd h.hg h.h1 h.ha h.hal j
theorem EL.rh(h:EL g a d D N M)(hj:j≤6):RH 5000 (iY g a j):=by
 refine⟨D^j,pwc d N M^j,bN h.d0,?_,?_,Jx (h.hb j)⟩
 ·refine fD (uv h.lD j) ?_;have:(330+1)*j≤(330+1)*6:=aT _ hj;omega
 ·refine fD (uv h.lc j) ?_;have:(600+1)*j≤(600+1)*6:=aT _ hj;omega
theorem HX:(iY g a j).length=g.length-1:=gp
end
section
variable {rows:List Row} {r t l:Row} {h n k i:Nat} {c:Rat}
theorem PC:∀(rows:List Row),(∀r,r∈rows→RH h r)→∃D N,0<D∧Lg (2*(h+2)*rows.length) D∧Lg (2*(h+2)*rows.length) N∧∀r,r∈rows→Hb D N r
 |[],_=>⟨1,0,dA,a9 _,a9 _,λr hr=>by cases hr⟩
 |r::rows,hr=>by
  obtain⟨D,N,a,b,c,d⟩:=PC rows (λr h'=>hr r (by simp[h']));obtain⟨E,M,a',b',c',d'⟩:=hr r (by simp);have e1:2*(h+2)*(r::rows).length=2*(h+2)*rows.length+2*(h+2):=by rw[bD,bA,aj]
  refine⟨D*E,N*E+M*D,co a a',?_,?_,λx hx=>?_⟩
  ·rw[e1];exact fD (jW b b') (by omega)
  ·rw[e1];have h1:=fD (jW c b') (show _≤2*(h+2)*rows.length+h+1 by omega);have h2:=fD (jW c' b) (show _≤2*(h+2)*rows.length+h+1 by omega);exact fD (xI h1 h2) (by omega)
  ·rcases bK.1 hx with rfl|hx
   ·intro i;have:=IK D (d' i);rw[aK E D]at this;exact nS this (by omega)
   ·intro i;exact nS (IK E (d x hx i)) (by omega)
theorem Sr(hr:∀r,r∈rows→RH h r)(ht:RH h t):∀r,r∈mE (trn n rows) t→RH (2*(h+2)*(rows.length+1)) r:=by
 intro r hm;obtain⟨D,N,a,b,c,d⟩:=PC (h:=h) (rows++[t]) (λr h'=>by
  rcases au.1 h' with h'|h'
  ·exact hr r h'
  ·have:r=t:=by simpa using h'
   rw[this];exact ht)
 rw[ay]at b c;refine⟨D,N,a,b,c,λi=>?_⟩;unfold mE at hm;obtain⟨j,hj,rfl⟩:=cE.1 hm;have hj':=hj;rw[cW]at hj';rw[dh,FX,qb,aI];by_cases hi:i<rows.length
 ·rw[aC hi];have e1:ent (rows.map (λr=>ent r j)) i=ent rows[i] j:=by
   unfold ent;simp only[aD,ae,aB hi,cF,ci]
  rw[e1];exact d _ (bi _ (ak hi)) j
 ·rw[aF hi];by_cases h0:i-rows.length=0
  ·rw[h0];have e1:ent [t[j]] 0=ent t j:=by
    have h5:j<t.length:=by omega
    show t[j]=ent t j;unfold ent;rw[aD,aB h5];rfl
   rw[e1];exact d t (by simp) j
  ·rw[gJ (by show 1≤_;omega)];exact nS ue (a9 _)
theorem Oo(hl:Pt l)(hc:c≠0):(fG (lst l.length (λi=>ent l i*c))).length=l.length:=by
 have hlen:=nV (lst l.length (λi=>ent l i*c));rw[gp]at hlen;rcases az (fG (lst l.length (λi=>ent l i*c))).length l.length with h|h
 ·exfalso;have hne:l≠[]:=λe=>by rw[e]at h;exact absurd h (cQ _)
  have h1:=B6 hl hne;have h2:ent (fG (lst l.length (λi=>ent l i*c))) (l.length-1)=0:=gJ (by omega);rw[mU,mW,aC (by omega)]at h2;rcases z1K.1 h2 with h3|h3
  ·exact h1 h3
  ·exact hc h3
 ·omega
end
end
end Go.Proofs.Ev
