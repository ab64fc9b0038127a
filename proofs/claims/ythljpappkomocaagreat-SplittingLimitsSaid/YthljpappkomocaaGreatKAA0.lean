/- By the kernel. -/
import Derived.Test.YthljpappkomocaaGreatA5
import Derived.Test.YthljpappkomocaaGreatA6
import Derived.KernelRfl
set_option linter.all false
set_option maxRecDepth 100000
set_option maxHeartbeats 0
namespace Go.Proofs.YthljpappkomocaaGreat
open Ev
noncomputable section
def isE(o:Option D)(y:D):Bool:=Option.rec (motive:=λ_=>Bool) false (λd=>eqA [d] [y]) o
def NU{o:Option D}{y:D}(h:isE o y=true):o=some y:=by
 cases o with
 |none=>cases h
 |some d=>
  have h1:=AT (Jd 40) (show Uw (eqN 40) [d] [y]=true from h);injection h1 with h1;rw[h1]
def Zq:ir 4000000000 [fB]=some (rc 0):=eX
def Zp:ir 4000000000 [ej]=some (.agg [.b false,.n 1,.n 1]):=eX
def Zs:kD 4000000000 [rc 0,rc 0]=some (rc 0):=eX
def Zr:kD 4000000000 [rc 1,rc 0]=some (rc 1):=eX
def Zo:qL 4000000000 [rc 1]=some (ni 1):=eX
def z21:Vy 1001 (λc=>isE (kD 4000000000 [.agg [.b false,.n 0,.n 1],.agg [.b false,.n (Nat.add 2 (Nat.mul 4 c)),.n 1]]) (.agg [.b false,.n (Nat.add 2 (Nat.mul 4 c)),.n 1]))=true:=eX
def uOf:Vy 1001 (λc=>isE (p7 4000000000 [.tree [ni (Nat.add 2 (Nat.mul 4 c))] 1 true]) (.tree [.b false,.n (Nat.add 2 (Nat.mul 4 c)),.n 1] 1 false))=true:=eX
def moL(n:Nat):fN:=Nat.rec (motive:=λ_=>fN) [.b false,.n 1,.n 1] (λ_ r=>.b false::.n 0::.n 1::r) n
def z20:Vy 65 (λn=>isE (nN 4000000000 [.agg [.b false,.n 1,.n 1],ni n]) (.tree (moL n) (Nat.succ n) false))=true:=eX
end
end Go.Proofs.YthljpappkomocaaGreat
