/- For every field and every list of elements, of any form, the law returns true. Conditions: none. -/
import Derived.Test.YthljpappkomocaaGreatE1
import Derived.Test.YthljpappkomocaaGreatM0
import Derived.Test.YthljpappkomocaaGreatQ0
import Derived.Test.YthljpappkomocaaGreatRows
import Derived.WalkKit
import Derived.ProofKit
import Derived.OpenShut
import Derived.WideKeyArgs
import Derived.Carry
set_option linter.all false
namespace Go.Proofs.YthljpappkomocaaGreat.adjoinGenerates
open Go.ChangeShapes Go.WideShapes Go.ChangeAt Go.RowKit
open Ev
theorem own:ownKnob Tryz.prog.godebug=none:=by kernel_rfl
theorem laid:laidOutB Tryz.prog=true:=by kernel_rfl
theorem rd35:Tryz.prog.readableRec 35=true:=by kernel_rfl
theorem rd41:Tryz.prog.readableRec 41=true:=by kernel_rfl
theorem s41:41<Tryz.prog.types.size:=cg (by kernel_rfl)
theorem sz:35<Tryz.prog.types.size:=cg (by kernel_rfl)
theorem c35:Tryz.prog.cellsOf 35=1:=by kernel_rfl
theorem c24:Tryz.prog.cellsOf 24=1:=by kernel_rfl
theorem qt:∃f1 f2 g1 g2,QT Tryz.prog 31 29 27 4 f1 f2 g1 g2:=⟨_,_,_,_,Tryz.underlying31,rfl,rfl,rfl,rfl,Tryz.underlying29,rfl,rfl,rfl,rfl,Tryz.underlying27,Tryz.underlying4,by kernel_rfl,by kernel_rfl,by kernel_rfl,by kernel_rfl⟩
theorem trl2{im:Nat→Option Nat}{w:World}{ok:Nat→Nat→Prop}{d0 d1:D}{u v1:Value}(h0:TR im w ok d0 u)(h1:TR im w ok d1 v1):TRl im w ok [.agg [d0],d1] [.agg #[u],v1]:=by
 have ha:TR im w ok (.agg [d0]) (.agg #[u]):=by
  rw[TR];refine⟨#[u],rfl,?_⟩;rw[TRl];refine⟨u,[],rfl,h0,?_⟩;rw[TRl]
 rw[TRl];refine⟨_,_,rfl,ha,?_⟩;rw[TRl];refine⟨_,_,rfl,h1,?_⟩;rw[TRl]
theorem walk(u v1:Value)(w:World){l:List RQ}{LL:List (List RQ×Bool)}(h0:TR (λF=>imA F vL 0) w (λb _=>b<w.heap.size) (.tree (raw l) l.length false) u)(h1:TR (λF=>imA F vL 0) w (λb _=>b<w.heap.size) (.tree (LL.map rwT) LL.length false) v1):
 Calls Tryz.prog 4 #[.agg #[u],v1] w λe w'=>e=.returned (.bool true)∧w.keptBut w' (λ_=>False)∧∀b,b<w.heap.size→w'.heap[b]?=w.heap[b]?:=
 Mn (vs:=[.agg #[u],v1]) s9 (F0 (by decide) (λs K=>Y8 (XW _))) (trl2 h0 h1)
theorem same_of{W W':World}(hb:∀b,b<W.heap.size→W'.heap[b]?=W.heap[b]?){p:MemPlace}(hp:p.block<W.heap.size):W.sameAt W' p:=by
 cases p with
 |cell b o=>exact World.cell?_of_block (w:=W) (hb b hp)
 |map b=>exact hb b hp
set_option maxRecDepth 100000 in
theorem lifted(os:Os)(started:os.Started)(H:Type)(enc:TypeId×Value→H):
 ReturnsInHanded {} Tryz.checked os 4 .any (Rows.adjoinGeneratesSpec.pre6 enc Tryz.prog Tryz.f4 Rows.adjoinGeneratesRow.domain false) (Rows.adjoinGeneratesSpec.post enc Tryz.prog Tryz.f4 false true false false):=by
 refine returnsInHanded_of_change (C:=Tryz.checked) own started (by kernel_rfl) Tryz.func4
  (ChangeSpec.witness6 (enc:=enc) (C:=Tryz.checked) false ⟨#[],#[.agg #[.slice none 0 0],.slice none 0 0],[]⟩ 8 (by kernel_rfl) (by kernel_rfl) (by kernel_rfl) (by kernel_rfl)) ?_
 obtain⟨_,_,_,_,hq⟩:=qt;intro W base args ds gs before hval0 hW hcnd _;have hval:∀(j:Nat) t v,Tryz.f4.params[j]?=some t→args[j]?=some v→Value.okWide Tryz.prog W .any base t v:=hval0;have hW':=hW;obtain⟨p,q,hA0,hV,rfl,hfz,hnd⟩:=hW;have hA:DataW.TrodAll enc Tryz.prog W 0 (λ_=>true) true Tryz.f4.params.toList args.toList ds p:=hA0;have hlt:=hA.lt;rw[Tryz.params4]at hA hval;obtain⟨v0,vs0,d0,ds0,p0,q0,hargs,rfl,rfl,h0,r0⟩:=trodAll_cons hA;obtain⟨v1,vs1,d1,ds1,p1,q1,rfl,rfl,rfl,h1,r1⟩:=trodAll_cons r0;obtain⟨rfl,rfl,rfl⟩:=trodAll_nil r1;obtain rfl:args= #[v0,v1]:=by cases args;simp_all
 obtain⟨rfl,rfl⟩:=trodVars_none hV;obtain⟨cs,rfl,hcs⟩:=okWide_struct Tryz.underlying35 (hval 0 35 v0 rfl rfl);obtain⟨a1,n1,m1,rfl⟩:=okWide_slice Tryz.underlying41 (hval 1 41 v1 rfl rfl);rw[c35]at hcs;obtain⟨u,rfl⟩:∃u,cs= #[u]:=Array.size_eq_one_iff.1 hcs;obtain⟨k0,f0⟩:=h0;obtain⟨k1,f1⟩:=h1;obtain⟨l,t0⟩:=Qk (im:=λF=>imA F vL 0) hq Tryz.underlying24 Tryz.underlying35 rfl rfl c24 f0;obtain⟨LL,t1⟩:=PK (im:=λF=>imA F vL 0) hq Tryz.underlying24 Tryz.underlying41 c24 f1;clear hA0 hval0;simp only[bq]at hW' hlt;refine(walk u (.slice a1 n1 m1) W t0 t1).mono λe W' ⟨he,hg,hb⟩=>?_;subst he;have s0:DataW.Trod enc Tryz.prog W' 0 (λb=>decide (b<W.heap.size)) true 35 (.agg #[u]) d0 p0:=WideElems.Trod_stays laid rd35 sz ⟨k0,f0⟩ (λx hx=>same_of hb (hlt x (by simp[hx]))) (λx hx=>by simpa using hlt x (by simp[hx]));have s1:DataW.Trod enc Tryz.prog W' 0 (λb=>decide (b<W.heap.size)) true 41 (.slice a1 n1 m1) d1 p1:=WideElems.Trod_stays laid rd41 s41 ⟨k1,f1⟩ (λx hx=>same_of hb (hlt x (by simp[hx]))) (λx hx=>by simpa using hlt x (by simp[hx]));exact⟨_,rfl,_,_,_,[],_,[],hW',trodAll_cons_mk (shut_bool Tryz.underlying4 _) trodAll_mk0,trodAll_cons_mk s0 (trodAll_cons_mk s1 trodAll_mk0),rfl,
  World.keptBut_mono (λ_ f=>f.elim) hg,λh=>by cases h⟩
theorem over:Rows.adjoinGeneratesRow.holds Tryz.pinned (OpenSpec.ofChange Rows.adjoinGeneratesSpec):=
 OpenClaim.holds_of_wide 4 Tryz.f4 rfl rfl rfl rfl rfl rfl rfl ⟨rfl,rfl,rfl,rfl,rfl⟩ rfl rfl rfl rfl rfl (by kernel_rfl) Tryz.func4 closed_facts
  (cg (by kernel_rfl)) (by unfold Func.isWrapper;first|(rw[aC (by decide+kernel)];kernel_rfl)|(rw[aE (by decide+kernel)];exact⟨rfl,rfl⟩))
  (λos started H enc _=>lifted os started H enc)
theorem proved:Rows.AdjoinGeneratesSaid:=
 over
#print axioms proved
end Go.Proofs.YthljpappkomocaaGreat.adjoinGenerates
