/- By the kernel. -/
import Derived.Test.YthljpappkomocaaGreatLA0
import Derived.KernelRfl
set_option linter.all false
set_option maxRecDepth 1000000
set_option maxHeartbeats 0
namespace Go.Proofs.YthljpappkomocaaGreat.B
open Ev
noncomputable section
def ku0:t7 xy 62 uk0=some uv0:=eX
def ku2:t7 xy 62 uk2=some uv2:=eX
def ku4:t7 xy 55 uk4=some uv4:=eX
def ku5:t7 xy 61 uk5=some uv5:=eX
def ku6:t7 xy 62 uk6=some uv6:=eX
def ku7:t7 xy 60 uk7=some uv7:=eX
def ku9:t7 xy 62 uk9=some uv9:=eX
def z4t:t7 xy 62 Zn=some Zd:=eX
def z4s:t7 xy 62 Zm=some Zc:=eX
def z4q:t7 xy 62 Zk=some Za:=eX
def z4p:t7 xy 62 Zj=some Z9:=eX
def z4n:t7 xy 62 Zh=some Z7:=eX
end
end Go.Proofs.YthljpappkomocaaGreat.B
