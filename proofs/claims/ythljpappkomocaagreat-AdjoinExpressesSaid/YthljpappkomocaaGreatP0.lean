/- For every field and every two elements, of any form, the law returns true. Conditions: none. -/
import Derived.Test.YthljpappkomocaaGreatE1
import Derived.Test.YthljpappkomocaaGreatM0
import Derived.Test.YthljpappkomocaaGreatQ0
import Derived.Test.YthljpappkomocaaGreatRows
import Derived.WalkKit
import Derived.ProofKit
import Derived.OpenShut
import Derived.WideKeyArgs
import Derived.Carry
set_option linter.all false
namespace Go.Proofs.YthljpappkomocaaGreat.adjoinExpresses
open Go.ChangeShapes Go.WideShapes Go.ChangeAt Go.RowKit
open Ev
theorem own:ownKnob Tryz.prog.godebug=none:=by kernel_rfl
theorem laid:laidOutB Tryz.prog=true:=by kernel_rfl
theorem rd35:Tryz.prog.readableRec 35=true:=by kernel_rfl
theorem rd24:Tryz.prog.readableRec 24=true:=by kernel_rfl
theorem sz:35<Tryz.prog.types.size:=cC (by kernel_rfl)
theorem c35:Tryz.prog.cellsOf 35=1:=by kernel_rfl
theorem c24:Tryz.prog.cellsOf 24=1:=by kernel_rfl
theorem qt:∃f1 f2 g1 g2,QT Tryz.prog 31 29 27 4 f1 f2 g1 g2:=⟨_,_,_,_,Tryz.underlying31,rfl,rfl,rfl,rfl,Tryz.underlying29,rfl,rfl,rfl,rfl,Tryz.underlying27,Tryz.underlying4,by kernel_rfl,by kernel_rfl,by kernel_rfl,by kernel_rfl⟩
theorem trl3{im:Nat→Option Nat}{w:World}{ok:Nat→Nat→Prop}{d0 d1 d2:D}{u v1 v2:Value}(h0:TR im w ok d0 u)(h1:TR im w ok d1 v1)(h2:TR im w ok d2 v2):TRl im w ok [.agg [d0],d1,d2] [.agg #[u],v1,v2]:=by
 have ha:TR im w ok (.agg [d0]) (.agg #[u]):=by
  rw[TR];refine⟨#[u],rfl,?_⟩;rw[TRl];refine⟨u,[],rfl,h0,?_⟩;rw[TRl]
 rw[TRl];refine⟨_,_,rfl,ha,?_⟩;rw[TRl];refine⟨_,_,rfl,h1,?_⟩;rw[TRl];refine⟨_,_,rfl,h2,?_⟩;rw[TRl]
theorem walk(u v1 v2:Value)(w:World){l ra rb:List RQ}(h0:TR (λF=>imA F uu 0) w (λb _=>b<w.heap.size) (.tree (raw l) l.length false) u)(h1:TR (λF=>imA F uu 0) w (λb _=>b<w.heap.size) (.tree (raw ra) ra.length false) v1)(h2:TR (λF=>imA F uu 0) w (λb _=>b<w.heap.size) (.tree (raw rb) rb.length false) v2):
 Calls Tryz.prog 5 #[.agg #[u],v1,v2] w λe w'=>e=.returned (.bool true)∧w.keptBut w' (λ_=>False)∧∀b,b<w.heap.size→w'.heap[b]?=w.heap[b]?:=
 Nc (vs:=[.agg #[u],v1,v2]) tX (GB rfl rfl rfl (by decide) (λs K=>ZJ (YC _))) (trl3 h0 h1 h2)
theorem same_of{W W':World}(hb:∀b,b<W.heap.size→W'.heap[b]?=W.heap[b]?){p:MemPlace}(hp:p.block<W.heap.size):W.sameAt W' p:=by
 cases p with
 |cell b o=>exact World.cell?_of_block (w:=W) (hb b hp)
 |map b=>exact hb b hp
set_option maxRecDepth 100000 in
theorem lifted(os:Os)(started:os.Started)(H:Type)(enc:TypeId×Value→H):
 ReturnsInHanded {} Tryz.checked os 5 .any (Rows.adjoinExpressesSpec.pre6 enc Tryz.prog Tryz.f5 Rows.adjoinExpressesRow.domain false) (Rows.adjoinExpressesSpec.post enc Tryz.prog Tryz.f5 false true false false):=by
 refine returnsInHanded_of_change (C:=Tryz.checked) own started (by kernel_rfl) Tryz.func5
  (ChangeSpec.witness6 (enc:=enc) (C:=Tryz.checked) false ⟨#[],#[.agg #[.slice none 0 0],.slice none 0 0,.slice none 0 0],[]⟩ 8 (by kernel_rfl) (by kernel_rfl) (by kernel_rfl) (by kernel_rfl)) ?_
 obtain⟨_,_,_,_,hq⟩:=qt;intro W base args ds gs before hval0 hW hcnd _;have hval:∀(j:Nat) t v,Tryz.f5.params[j]?=some t→args[j]?=some v→Value.okWide Tryz.prog W .any base t v:=hval0;have hW':=hW;obtain⟨p,q,hA0,hV,rfl,hfz,hnd⟩:=hW;have hA:DataW.TrodAll enc Tryz.prog W 0 (λ_=>true) true Tryz.f5.params.toList args.toList ds p:=hA0;have hlt:=hA.lt;rw[Tryz.params5]at hA hval;obtain⟨v0,vs0,d0,ds0,p0,q0,hargs,rfl,rfl,h0,r0⟩:=trodAll_cons hA;obtain⟨v1,vs1,d1,ds1,p1,q1,rfl,rfl,rfl,h1,r1⟩:=trodAll_cons r0;obtain⟨v2,vs2,d2,ds2,p2,q2,rfl,rfl,rfl,h2,r2⟩:=trodAll_cons r1;obtain⟨rfl,rfl,rfl⟩:=trodAll_nil r2;obtain rfl:args= #[v0,v1,v2]:=by cases args;simp_all
 obtain⟨rfl,rfl⟩:=trodVars_none hV;obtain⟨cs,rfl,hcs⟩:=okWide_struct Tryz.underlying35 (hval 0 35 v0 rfl rfl);obtain⟨a1,n1,m1,rfl⟩:=okWide_slice Tryz.underlying24 (hval 1 24 v1 rfl rfl);obtain⟨a2,n2,m2,rfl⟩:=okWide_slice Tryz.underlying24 (hval 2 24 v2 rfl rfl);rw[c35]at hcs;obtain⟨u,rfl⟩:∃u,cs= #[u]:=Array.size_eq_one_iff.1 hcs;obtain⟨k0,f0⟩:=h0;obtain⟨k1,f1⟩:=h1;obtain⟨k2,f2⟩:=h2;obtain⟨l,t0⟩:=R9 (im:=λF=>imA F uu 0) hq Tryz.underlying24 Tryz.underlying35 rfl rfl c24 f0;obtain⟨ra,t1⟩:=Fk (im:=λF=>imA F uu 0) hq Tryz.underlying24 f1;obtain⟨rb,t2⟩:=Fk (im:=λF=>imA F uu 0) hq Tryz.underlying24 f2;clear hA0 hval0;simp only[ba]at hW' hlt;refine(walk u (.slice a1 n1 m1) (.slice a2 n2 m2) W t0 t1 t2).mono λe W' ⟨he,hg,hb⟩=>?_;subst he;have s0:DataW.Trod enc Tryz.prog W' 0 (λb=>decide (b<W.heap.size)) true 35 (.agg #[u]) d0 p0:=WideElems.Trod_stays laid rd35 sz ⟨k0,f0⟩ (λx hx=>same_of hb (hlt x (by simp[hx]))) (λx hx=>by simpa using hlt x (by simp[hx]));have s1:DataW.Trod enc Tryz.prog W' 0 (λb=>decide (b<W.heap.size)) true 24 (.slice a1 n1 m1) d1 p1:=WideElems.Trod_stays laid rd24 (z1J (by decide) sz) ⟨k1,f1⟩ (λx hx=>same_of hb (hlt x (by simp[hx]))) (λx hx=>by simpa using hlt x (by simp[hx]));have s2:DataW.Trod enc Tryz.prog W' 0 (λb=>decide (b<W.heap.size)) true 24 (.slice a2 n2 m2) d2 p2:=WideElems.Trod_stays laid rd24 (z1J (by decide) sz) ⟨k2,f2⟩ (λx hx=>same_of hb (hlt x (by simp[hx]))) (λx hx=>by simpa using hlt x (by simp[hx]));exact⟨_,rfl,_,_,_,[],_,[],hW',trodAll_cons_mk (shut_bool Tryz.underlying4 _) trodAll_mk0,trodAll_cons_mk s0 (trodAll_cons_mk s1 (trodAll_cons_mk s2 trodAll_mk0)),rfl,
  World.keptBut_mono (λ_ f=>f.elim) hg,λh=>by cases h⟩
theorem over:Rows.adjoinExpressesRow.holds Tryz.pinned (OpenSpec.ofChange Rows.adjoinExpressesSpec):=
 OpenClaim.holds_of_wide 5 Tryz.f5 rfl rfl rfl rfl rfl rfl rfl ⟨rfl,rfl,rfl,rfl,rfl⟩ rfl rfl rfl rfl rfl (by kernel_rfl) Tryz.func5 closed_facts
  (cC (by kernel_rfl)) (by unfold Func.isWrapper;first|(rw[aC (by decide+kernel)];kernel_rfl)|(rw[aF (by decide+kernel)];exact⟨rfl,rfl⟩))
  (λos started H enc _=>lifted os started H enc)
theorem proved:Rows.AdjoinExpressesSaid:=
 over
#print axioms proved
end Go.Proofs.YthljpappkomocaaGreat.adjoinExpresses
