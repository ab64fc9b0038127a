/- The law returns true for all arguments. Conditions: none. -/
import Derived.Test.YthljpappkomocaaGreatCC0
import Derived.Test.YthljpappkomocaaGreatB0
import Derived.Test.YthljpappkomocaaGreatLC0
import Derived.Test.YthljpappkomocaaGreatGAA0
import Derived.Test.YthljpappkomocaaGreatGAB0
import Derived.Test.YthljpappkomocaaGreatGAC0
import Derived.Test.YthljpappkomocaaGreatGAD0
import Derived.Test.YthljpappkomocaaGreatGAE0
import Derived.Test.YthljpappkomocaaGreatGAF0
import Derived.Test.YthljpappkomocaaGreatGAG0
import Derived.Test.YthljpappkomocaaGreatGAH0
import Derived.Test.YthljpappkomocaaGreatGAI0
import Derived.Test.YthljpappkomocaaGreatGAJ0
import Derived.Test.YthljpappkomocaaGreatGBA0
import Derived.Test.YthljpappkomocaaGreatGBB0
import Derived.Test.YthljpappkomocaaGreatQ0
import Derived.Test.YthljpappkomocaaGreatRows
import Derived.WalkKit
import Derived.ProofKit
import Derived.OpenShut
set_option linter.all false
set_option maxRecDepth 1000000
set_option maxHeartbeats 0
namespace Go.Proofs.YthljpappkomocaaGreat
open Ev
noncomputable section
theorem aw (s : LS) (K : D → LS → Rs) : isoK (tabM z2K (z1F 1000000)) [] s K = K (.b true) s := zqP rfl
theorem outside {a0 a1 : Int} (h : a0 < 1 ∨ a0 > 24 ∨ a1 < 1 ∨ a1 > 64) : z8 1000000 [.i .i64 a0, .i .i64 a1] = some (.b true) := by
  unfold z8
  dsimp only [z6u, zad, ni]
  rw [zkx]
  by_cases h1 : a0 < 1
  · rw [decide_eq_true (show a0 < ((1 : Nat) : Int) by omega)]
    simp only [zeq, z6z, z1s]
    rw [aw]; exact znH
  · rw [decide_eq_false (show ¬ a0 < ((1 : Nat) : Int) by omega)]
    simp only [zai, z9Y, zky]
    by_cases h2 : a0 > 24
    · rw [decide_eq_true (show a0 > ((24 : Nat) : Int) by omega)]
      simp only [zeq, z6z, z1s]
      rw [aw]; exact znH
    · rw [decide_eq_false (show ¬ a0 > ((24 : Nat) : Int) by omega)]
      simp only [zai, z9Y, zkx]
      by_cases h3 : a1 < 1
      · rw [decide_eq_true (show a1 < ((1 : Nat) : Int) by omega)]
        simp only [zeq, z6z, z1s]
        rw [aw]; exact znH
      · rw [decide_eq_false (show ¬ a1 < ((1 : Nat) : Int) by omega)]
        simp only [zai, z9Y, zky]
        rw [decide_eq_true (show a1 > ((64 : Nat) : Int) by omega)]
        simp only [zeq, z6z, z1s]
        rw [aw]; exact znH
end
end Go.Proofs.YthljpappkomocaaGreat
namespace Go.Proofs.YthljpappkomocaaGreat
open Ev
theorem inside {n d : Nat} (h1 : 1 ≤ n) (h2 : n ≤ 24) (hd : d < 65) : z8 1000000 [ni n, ni d] = some (.b true) := by
  have h : n = 1 ∨ n = 2 ∨ n = 3 ∨ n = 4 ∨ n = 5 ∨ n = 6 ∨ n = 7 ∨ n = 8 ∨ n = 9 ∨ n = 10 ∨ n = 11 ∨ n = 12 ∨ n = 13 ∨ n = 14 ∨ n = 15 ∨ n = 16 ∨ n = 17 ∨ n = 18 ∨ n = 19 ∨ n = 20 ∨ n = 21 ∨ n = 22 ∨ n = 23 ∨ n = 24 := by omega
  rcases h with rfl | rfl | rfl | rfl | rfl | rfl | rfl | rfl | rfl | rfl | rfl | rfl | rfl | rfl | rfl | rfl | rfl | rfl | rfl | rfl | rfl | rfl | rfl | rfl
  · exact z2g (z22 G1 hd)
  · exact z2g (z22 G2 hd)
  · exact z2g (z22 G3 hd)
  · exact z2g (z22 G4 hd)
  · exact z2g (z22 G5 hd)
  · exact z2g (z22 G6 hd)
  · exact z2g (z22 G7 hd)
  · exact z2g (z22 G8 hd)
  · exact z2g (z22 G9 hd)
  · exact z2g (z22 G10 hd)
  · exact z2g (z22 G11 hd)
  · exact z2g (z22 G12 hd)
  · exact z2g (z22 G13 hd)
  · exact z2g (z22 G14 hd)
  · exact z2g (z22 G15 hd)
  · exact z2g (z22 G16 hd)
  · exact z2g (z22 G17 hd)
  · exact z2g (z22 G18 hd)
  · exact z2g (z22 G19 hd)
  · exact z2g (z22 G20 hd)
  · exact z2g (z22 G21 hd)
  · exact z2g (z22 G22 hd)
  · exact z2g (z22 G23 hd)
  · exact z2g (z22 G24 hd)
theorem law_all (a0 a1 : Int) : z8 1000000 [.i .i64 a0, .i .i64 a1] = some (.b true) := by
  by_cases h : a0 < 1 ∨ a0 > 24 ∨ a1 < 1 ∨ a1 > 64
  · exact outside h
  · obtain ⟨n, rfl⟩ : ∃ n : Nat, a0 = (n : Int) := ⟨a0.toNat, by omega⟩
    obtain ⟨d, rfl⟩ : ∃ d : Nat, a1 = (d : Int) := ⟨a1.toNat, by omega⟩
    exact inside (n := n) (d := d) (by omega) (by omega) (by omega)
end Go.Proofs.YthljpappkomocaaGreat
namespace Go.Proofs.YthljpappkomocaaGreat.adjoinBounds
open Go.ChangeShapes Go.WideShapes Go.ChangeAt Go.RowKit
theorem own : ownKnob Tryz.prog.godebug = none := by kernel_rfl
theorem walk (a0 : Int) (a1 : Int) (w : World) :
    Calls Tryz.prog 3 #[.int .i64 a0, .int .i64 a1] w fun e w' => e = .returned (.bool true) ∧ w.keptBut w' (fun _ => False) :=
  Ev.law_two (z9f 1000000) (law_all a0 a1) w
set_option maxRecDepth 100000 in
theorem lifted (os : Os) (started : os.Started) (H : Type) (enc : TypeId × Value → H) :
    ReturnsInHanded {} Tryz.checked os 3 .any (Rows.adjoinBoundsSpec.pre6 enc Tryz.prog Tryz.f3 Rows.adjoinBoundsRow.domain false) (Rows.adjoinBoundsSpec.post enc Tryz.prog Tryz.f3 false true false false) := by
  refine returnsInHanded_of_change (C := Tryz.checked) own started (by kernel_rfl) Tryz.func3
    (ChangeSpec.witness6 (enc := enc) (C := Tryz.checked) false ⟨#[], #[.int .i64 0, .int .i64 0], []⟩ 8 (by kernel_rfl) (by kernel_rfl) (by kernel_rfl) (by kernel_rfl)) ?_
  intro W base args ds gs before hval0 hW hcnd _
  have hval : ∀ (j : Nat) t v, Tryz.f3.params[j]? = some t → args[j]? = some v → Value.okWide Tryz.prog W .any base t v := hval0
  have hW' := hW
  obtain ⟨p, q, hA0, hV, rfl, hfz, hnd⟩ := hW
  have hA : DataW.TrodAll enc Tryz.prog W 0 (fun _ => true) true Tryz.f3.params.toList args.toList ds p := hA0
  rw [Tryz.params3] at hA hval
  obtain ⟨v0, vs0, d0, ds0, p0, q0, hargs, rfl, rfl, h0, r0⟩ := trodAll_cons hA
  obtain ⟨v1, vs1, d1, ds1, p1, q1, rfl, rfl, rfl, h1, r1⟩ := trodAll_cons r0
  obtain ⟨rfl, rfl, rfl⟩ := trodAll_nil r1
  obtain rfl : args = #[v0, v1] := by cases args; simp_all
  obtain ⟨rfl, rfl⟩ := trodVars_none hV
  obtain ⟨a0, rfl, rfl, rfl, w0⟩ := open_int Tryz.underlying3 (hval 0 3 v0 rfl rfl) h0
  obtain ⟨a1, rfl, rfl, rfl, w1⟩ := open_int Tryz.underlying3 (hval 1 3 v1 rfl rfl) h1
  clear hA0 hval0
  simp only [List.append_nil] at hW'
  refine (walk a0 a1 W).mono fun e W' ⟨he, hg⟩ => ?_
  subst he
  exact ⟨_, rfl, _, _, _, [], [], [], hW', trodAll_cons_mk (shut_bool Tryz.underlying4 _) trodAll_mk0, trodAll_cons_mk (shut_int Tryz.underlying3 w0) (trodAll_cons_mk (shut_int Tryz.underlying3 w1) trodAll_mk0), rfl,
    World.keptBut_mono (fun _ f => f.elim) hg, fun h => by cases h⟩
theorem over : Rows.adjoinBoundsRow.holds Tryz.pinned (OpenSpec.ofChange Rows.adjoinBoundsSpec) :=
  OpenClaim.holds_of_wide 3 Tryz.f3 rfl rfl rfl rfl rfl rfl rfl ⟨rfl, rfl, rfl, rfl, rfl⟩ rfl rfl rfl rfl rfl (by kernel_rfl) Tryz.func3 closed_facts
    (of_decide_eq_true (by kernel_rfl)) (by unfold Func.isWrapper; first | (rw [if_pos (by decide +kernel)]; kernel_rfl) | (rw [if_neg (by decide +kernel)]; exact ⟨rfl, rfl⟩))
    (fun os started H enc _ => lifted os started H enc)
theorem proved : Rows.AdjoinBoundsSaid :=
  over
#print axioms proved
end Go.Proofs.YthljpappkomocaaGreat.adjoinBounds
