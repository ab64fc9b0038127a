/- For all numbers n and c the law returns true. Conditions: none. -/
import Derived.Test.YthljpappkomocaaGreatB0
import Derived.Test.YthljpappkomocaaGreatMRl20
import Derived.Test.YthljpappkomocaaGreatQ0
import Derived.Test.YthljpappkomocaaGreatA6
import Derived.Test.YthljpappkomocaaGreatRows
import Derived.WalkKit
import Derived.ProofKit
import Derived.OpenShut
set_option linter.all false
namespace Go.Proofs.YthljpappkomocaaGreat.splittingLimits
open Go.ChangeShapes Go.WideShapes Go.ChangeAt Go.RowKit
open Ev
def own:ownKnob Tryz.prog.godebug=none:=by kernel_rfl
def walk(a0:Int)(a1:Int)(w:World):
 Calls Tryz.prog 6 #[.int .i64 a0,.int .i64 a1] w λe w'=>e=.returned (.bool true)/\w.keptBut w' (λ_=>False):=
 Ev.law_two (uj 4000000000) (Qu a0 a1) w
set_option maxRecDepth 100000 in
theorem lifted(os:Os)(started:os.Started)(H:Type)(enc:TypeId×Value->H):
 ReturnsInHanded {} Tryz.checked os 6 .any (Rows.splittingLimitsSpec.pre6 enc Tryz.prog Tryz.f6 Rows.splittingLimitsRow.domain false) (Rows.splittingLimitsSpec.post enc Tryz.prog Tryz.f6 false true false false):=by
 refine returnsInHanded_of_change (C:=Tryz.checked) own started (by kernel_rfl) Tryz.func6
  (ChangeSpec.witness6 (enc:=enc) (C:=Tryz.checked) false ⟨#[],#[.int .i64 0,.int .i64 0],[]⟩ 8 (by kernel_rfl) (by kernel_rfl) (by kernel_rfl) (by kernel_rfl)) ?_
 intro W base args ds gs before zaf hW zjQ _;have z6F:∀(j:Nat) t v,Tryz.f6.params[j]?=some t->args[j]?=some v->Value.okWide Tryz.prog W .any base t v:=zaf;have hW':=hW;obtain⟨p,q,hA0,hV,rfl,hfz,hnd⟩:=hW;have hA:DataW.TrodAll enc Tryz.prog W 0 (λ_=>true) true Tryz.f6.params.toList args.toList ds p:=hA0;rw[Tryz.params6]at hA z6F;obtain⟨v0,vs0,d0,ds0,p0,q0,zgY,rfl,rfl,h0,r0⟩:=trodAll_cons hA;obtain⟨v1,vs1,d1,ds1,p1,q1,rfl,rfl,rfl,h1,r1⟩:=trodAll_cons r0;obtain⟨rfl,rfl,rfl⟩:=trodAll_nil r1;obtain rfl:args= #[v0,v1]:=by cases args;simp_all
 obtain⟨rfl,rfl⟩:=trodVars_none hV;obtain⟨a0,rfl,rfl,rfl,w0⟩:=open_int Tryz.underlying3 (z6F 0 3 v0 rfl rfl) h0;obtain⟨a1,rfl,rfl,rfl,w1⟩:=open_int Tryz.underlying3 (z6F 1 3 v1 rfl rfl) h1;clear hA0 zaf;simp only[bQ]at hW';refine(walk a0 a1 W).mono λe W' ⟨he,hg⟩=>?_;subst he;exact⟨_,rfl,_,_,_,[],[],[],hW',trodAll_cons_mk (shut_bool Tryz.underlying4 _) trodAll_mk0,trodAll_cons_mk (shut_int Tryz.underlying3 w0) (trodAll_cons_mk (shut_int Tryz.underlying3 w1) trodAll_mk0),rfl,
  World.keptBut_mono (λ_ f=>f.elim) hg,λh=>by cases h⟩
def over:Rows.splittingLimitsRow.holds Tryz.pinned (OpenSpec.ofChange Rows.splittingLimitsSpec):=
 OpenClaim.holds_of_wide 6 Tryz.f6 rfl rfl rfl rfl rfl rfl rfl ⟨rfl,rfl,rfl,rfl,rfl⟩ rfl rfl rfl rfl rfl (by kernel_rfl) Tryz.func6 closed_facts
  (zmD (by kernel_rfl)) (by unfold Func.isWrapper;first|(rw[aF (by decide+kernel)];kernel_rfl)|(rw[aG (by decide+kernel)];exact⟨rfl,rfl⟩))
  (λos started H enc _=>lifted os started H enc)
def proved:Rows.SplittingLimitsSaid:=
 over
#print axioms proved
end Go.Proofs.YthljpappkomocaaGreat.splittingLimits
