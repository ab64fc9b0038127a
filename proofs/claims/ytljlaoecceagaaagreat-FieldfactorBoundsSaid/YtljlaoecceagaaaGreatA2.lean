/- An evaluator of the code in the model, proved sound, and residuals of code as Lean functions. -/
import Derived.Test.YtljlaoecceagaaaGreatA1
set_option linter.all false
set_option linter.unusedVariables false
set_option linter.unusedSimpArgs false
namespace Go.Proofs.Ev
noncomputable section

/-! ### Cuts laid into code -/
def wrapC (o : Option (List Nat)) (c : C) : C :=
  match o with
  | some ls => .cut ls c
  | none => c
/-- The places of cuts: one entry for each sequence and loop, in the order of the text. -/
def addC : C → List (Option (List Nat)) → (C → List (Option (List Nat)) → C) → C
  | .seq a b, an, k => match an with
    | [] => k (.seq a b) []
    | o :: an => addC a an fun a an => addC b an fun b an => k (.seq a (wrapC o b)) an
  | .loop c, an, k => match an with
    | [] => k (.loop c) []
    | o :: an => addC c an fun c an => k (.loop (wrapC o c)) an
  | .cond x a b, an, k => addC a an fun a an => addC b an fun b an => k (.cond x a b) an
  | .block id c, an, k => addC c an fun c an => k (.block id c) an
  | c, an, k => k c an
theorem er_wrapC (o : Option (List Nat)) (c : C) : (wrapC o c).er = c.er := by cases o <;> rfl
theorem er_addC (X : C) : ∀ (c : C) (an : List (Option (List Nat))) (k : C → List (Option (List Nat)) → C), (∀ c' an', c'.er = c.er → (k c' an').er = X) → (addC c an k).er = X := by
  intro c
  induction c with
  | seq a b iha ihb =>
    intro an k h
    cases an with
    | nil => exact h _ _ rfl
    | cons o an =>
      refine iha _ _ (fun a' an' ha => ihb _ _ (fun b' an'' hb => h _ _ ?_))
      show C.seq a'.er (wrapC o b').er = C.seq a.er b.er
      rw [er_wrapC, ha, hb]
  | loop c ih =>
    intro an k h
    cases an with
    | nil => exact h _ _ rfl
    | cons o an =>
      refine ih _ _ (fun c' an' hc => h _ _ ?_)
      show C.loop (wrapC o c').er = C.loop c.er
      rw [er_wrapC, hc]
  | cond x a b iha ihb =>
    intro an k h
    refine iha _ _ (fun a' an' ha => ihb _ _ (fun b' an'' hb => h _ _ ?_))
    show C.cond x a'.er b'.er = C.cond x a.er b.er
    rw [ha, hb]
  | block id c ih =>
    intro an k h
    refine ih _ _ (fun c' an' hc => h _ _ ?_)
    show C.block id c'.er = C.block id c.er
    rw [hc]
  | _ => intro an k h; exact h _ _ rfl
theorem er_reg (P : Program) (im : Nat → Option Nat) (nt : Nat) (ops : List Oper) (draw : Bool) : (cReg P im nt ops draw).er = cReg P im nt ops draw := by
  unfold cReg
  split
  · split <;> rfl
  · rfl
theorem er_cCode (P : Program) (im : Nat → Option Nat) (nt : Nat) : ∀ (c : Code), (cCode P im nt c).er = cCode P im nt c := by
  intro c
  induction c with
  | region k ops draw => exact er_reg P im nt _ _
  | seq a b iha ihb => simp only [cCode, C.er, iha, ihb]
  | cond x a b iha ihb => simp only [cCode, C.er, iha, ihb]
  | block id c ih => simp only [cCode, C.er, ih]
  | loop c ih => simp only [cCode, C.er, ih]
  | scope c ih => simp only [cCode, ih]
  | _ => rfl
/-- A function's code with cuts. -/
def cutF (P : Program) (im : Nat → Option Nat) (mode : Nat) (an : List (Option (List Nat))) (fn : Func) : Fun :=
  ⟨fn.params.size, fn.results.toList.map (cRes P), mode, addC (cFun P im mode fn).body an fun c _ => c⟩
theorem er_cutF (P : Program) (im : Nat → Option Nat) (mode : Nat) (an : List (Option (List Nat))) (fn : Func) : (cutF P im mode an fn).er = cFun P im (cutF P im mode an fn).mode fn := by
  have hb : (cFun P im mode fn).body.er = (cFun P im mode fn).body := by
    unfold cFun
    split
    · split
      · exact er_cCode P im _ _
      · rfl
    · rfl
  have h : (cutF P im mode an fn).body.er = (cFun P im mode fn).body :=
    er_addC _ _ _ _ (fun c' an' h => by rw [h, hb])
  show (⟨_, _, _, (cutF P im mode an fn).body.er⟩ : Fun) = _
  rw [h]
  rfl

/-! ### Numbers of functions -/
def imA (F : Nat) : List Nat → Nat → Option Nat
  | [], _ => none
  | x :: r, i => cnd (Nat.beq F x) (some i) (imA F r (Nat.succ i))
theorem imA_some {F n : Nat} : ∀ {l : List Nat} {i : Nat}, imA F l i = some n → i ≤ n ∧ l[n - i]? = some F
  | [], i, h => by cases h
  | x :: r, i, h => by
    simp only [imA] at h
    cases hb : Nat.beq F x with
    | true =>
      rw [hb] at h
      have := Nat.eq_of_beq_eq_true hb
      subst this
      simp only [cnd_true, cond_true, Option.some.injEq] at h
      subst h
      simp
    | false =>
      rw [hb] at h
      obtain ⟨h1, h2⟩ := imA_some (show imA F r (Nat.succ i) = some n from h)
      refine ⟨by omega, ?_⟩
      have : n - i = (n - Nat.succ i) + 1 := by omega
      rw [this]
      exact h2

/-! ### The library -/
def setT (T : FTab) (n : Nat) (ft : FT) : FTab := fun m => cnd (Nat.beq m n) (some ft) (T m)
/-- The first n functions. -/
structure Lib (P : Program) (im : Nat → Option Nat) (n : Nat) where
  Δ : Tr Ent
  T : FTab
  TD : FTab
  ok : DOk P im Δ
  tok : TOk Δ T
  dok : TOk Δ TD
  bd : ∀ m, n ≤ m → Δ.get m = none
section
variable {P : Program} {im : Nat → Option Nat} {n : Nat}
def Lib.nil : Lib P im 0 := ⟨.nil, fun _ => none, fun _ => none, ⟨fun F f en _ h => (by cases h)⟩, fun n ft h => (by cases h), fun n ft h => (by cases h), fun _ _ => rfl⟩

/-- One table holds what another one holds. -/
def LeT (Δ Δ' : Tr Ent) : Prop := ∀ m en, Δ.get m = some en → Δ'.get m = some en
theorem run_le {Δ Δ' : Tr Ent} (hl : LeT Δ Δ') : ∀ (k : Nat) (j : Job) (r : Out), run Δ k j = some r → run Δ' k j = some r := by
  intro k
  induction k with
  | zero => intro j r h; simp [run] at h
  | succ k ih =>
    intro j r h
    cases j with
    | code c e σ =>
      cases c with
      | bad => simp [run] at h
      | skip => simpa only [run] using h
      | reg l => simp only [run] at h; rw [run]; exact ih _ _ h
      | seq a b =>
        simp only [run] at h
        rw [run]
        split at h
        · rename_i e1 σ1 h1
          rw [ih _ _ h1]
          exact ih _ _ h
        · rename_i x h1
          rw [ih _ _ h]
          cases r with
          | val d σ => rfl
          | code x e σ =>
            cases x with
            | nrm => exact absurd h (h1 _ _)
            | exit id => rfl
            | ret => rfl
      | cond x a b =>
        simp only [run] at h
        rw [run]
        split at h
        · exact ih _ _ h
        · exact ih _ _ h
        · cases h
      | block id c =>
        simp only [run] at h
        rw [run]
        split at h
        · rename_i j e1 σ1 h1
          rw [ih _ _ h1]
          exact h
        · rename_i x h1
          rw [ih _ _ h]
          cases r with
          | val d σ => rfl
          | code x e σ =>
            cases x with
            | nrm => rfl
            | exit j => exact absurd h (h1 _ _ _)
            | ret => rfl
      | loop c =>
        simp only [run] at h
        rw [run]
        split at h
        · rename_i e1 σ1 h1
          rw [ih _ _ h1]
          exact ih _ _ h
        · rename_i x h1
          rw [ih _ _ h]
          cases r with
          | val d σ => rfl
          | code x e σ =>
            cases x with
            | nrm => exact absurd h (h1 _ _)
            | exit id => rfl
            | ret => rfl
      | exit id => simpa only [run] using h
      | ret => simpa only [run] using h
      | cut ls c => simp only [run] at h; rw [run]; exact ih _ _ h
    | ops l e σ =>
      cases l with
      | nil => simpa only [run] using h
      | cons i l =>
        obtain ⟨dst, gd, op⟩ := i
        cases hg : gdv e gd with
        | none => rw [run_opn hg] at h; cases h
        | some b =>
          cases b with
          | false =>
            rw [run_op0 hg] at h
            rw [run_op0 hg]
            exact ih _ _ h
          | true =>
            by_cases hc : ∃ p f as, op = .call p f as
            · obtain ⟨p, f, as, rfl⟩ := hc
              rw [run_opc hg] at h
              rw [run_opc hg]
              split at h
              · rename_i d σ1 h1
                rw [ih _ _ h1]
                exact ih _ _ h
              · cases h
            · have hne : ∀ p f as, op ≠ .call p f as := fun p f as h => hc ⟨p, f, as, h⟩
              rw [run_opo hg hne] at h
              rw [run_opo hg hne]
              split at h
              · exact ih _ _ h
              · split at h
                · exact ih _ _ h
                · cases h
    | call p f as σ =>
      cases f
      case fn f caps =>
        rw [run_cf] at h
        rw [run_cf]
        cases hΔ : Δ.get f with
        | none => simp only [hΔ] at h; cases h
        | some en =>
          simp only [hΔ] at h
          simp only [hl _ _ hΔ]
          cases en with
          | model M => exact h
          | body F =>
            simp only at h ⊢
            split at h
            · split at h
              · rename_i x e σ1 h1
                simp only [ih _ _ h1]
                exact h
              · cases h
            · split at h
              · rename_i as' ls hm
                split at h
                · rename_i x e σ1 h1
                  simp only [ih _ _ h1]
                  exact h
                · cases h
              · cases h
      all_goals simp [run] at h
theorem MemOk.le {Δ Δ' : Tr Ent} (hl : LeT Δ Δ') {G : Fun} {M2 : List D → LS → (D → LS → Rs) → Rs} (h : MemOk Δ G M2) : MemOk Δ' G M2 := by
  intro as s σ k r hs hr
  obtain ⟨n, x, e, σ', s', d, h1, h2⟩ := h as s σ k r hs hr
  exact ⟨n, x, e, σ', s', d, run_le hl _ _ _ h1, h2⟩
theorem FTOk.le {Δ Δ' : Tr Ent} (hl : LeT Δ Δ') {n : Nat} {ft : FT} (h : FTOk Δ n ft) : FTOk Δ' n ft := by
  cases ft with
  | iso M => exact hl _ _ h
  | mem M2 =>
    obtain ⟨G, h1, h2, h3⟩ := h
    exact ⟨G, hl _ _ h1, h2, h3.le hl⟩
theorem TOk.le {Δ Δ' : Tr Ent} (hl : LeT Δ Δ') {T : FTab} (h : TOk Δ T) : TOk Δ' T := fun n ft hf => (h n ft hf).le hl
theorem TOk.set {Δ : Tr Ent} {T : FTab} (h : TOk Δ T) {n : Nat} {ft : FT} (hf : FTOk Δ n ft) : TOk Δ (setT T n ft) := by
  intro m ft' hm
  unfold setT at hm
  cases hb : Nat.beq m n with
  | true =>
    rw [hb] at hm
    have := Nat.eq_of_beq_eq_true hb
    subst this
    cases hm
    exact hf
  | false => rw [hb] at hm; exact h m ft' hm
theorem LeT.set {Δ : Tr Ent} (hb : Δ.get n = none) (en : Ent) : LeT Δ (Δ.set n en) := by
  intro m en' hm
  rw [Tr.get_set]
  by_cases h : m = n
  · subst h; rw [hb] at hm; cases hm
  · rw [if_neg h]; exact hm
/-- What the program says of a function. -/
structure FnOk (P : Program) (im : Nat → Option Nat) (n : Nat) (F : FuncId) (fn : Func) : Prop where
  fun' : P.funcs[F]? = some fn
  nm : (fn.name == "runtime.NumGoroutine") = false
  body : fn.body.isSome = true
  uniq : ∀ F', im F' = some n → F' = F
theorem dok_set {Δ : Tr Ent} (h : DOk P im Δ) {F : FuncId} {fn : Func} (hF : FnOk P im n F fn) {en : Ent} (he : match en with
    | .body G => G.er = cFun P im G.mode fn
    | .model M => Snd P im F M) : DOk P im (Δ.set n en) := by
  refine ⟨fun F' f en' hf hen => ?_⟩
  rw [Tr.get_set] at hen
  by_cases hfn : f = n
  · rw [if_pos hfn] at hen
    cases hen
    rw [hfn] at hf
    have := hF.uniq F' hf
    subst this
    obtain ⟨c, hc⟩ := Option.isSome_iff_exists.1 hF.body
    exact ⟨fn, c, hF.fun', hF.nm, hc, he⟩
  · rw [if_neg hfn] at hen
    exact h.ent F' f en' hf hen
theorem bd_set {Δ : Tr Ent} (h : ∀ m, n ≤ m → Δ.get m = none) (en : Ent) : ∀ m, n + 1 ≤ m → (Δ.set n en).get m = none := by
  intro m hm
  rw [Tr.get_set, if_neg (by omega)]
  exact h m (by omega)
/-- A function that is run alone. -/
def Lib.iso (L : Lib P im n) (dyn : Bool) {F : FuncId} {fn : Func} (hF : FnOk P im n F fn) (M : List D → Option D) (hM : Snd P im F M) : Lib P im (n + 1) where
  Δ := L.Δ.set n (.model M)
  T := setT L.T n (.iso M)
  TD := cnd dyn (setT L.TD n (.iso M)) L.TD
  ok := dok_set L.ok hF hM
  tok := (L.tok.le (LeT.set (L.bd n (Nat.le_refl _)) _)).set (by show (L.Δ.set n _).get n = _; rw [Tr.get_set, if_pos rfl])
  dok := by
    have h := L.dok.le (LeT.set (L.bd n (Nat.le_refl _)) (.model M))
    cases dyn
    · exact h
    · exact h.set (by show (L.Δ.set n _).get n = _; rw [Tr.get_set, if_pos rfl])
  bd := bd_set L.bd _
/-- A function that is run over the caller's blocks. -/
def Lib.mem (L : Lib P im n) (dyn : Bool) {F : FuncId} {fn : Func} (hF : FnOk P im n F fn) (an : List (Option (List Nat))) (M2 : List D → LS → (D → LS → Rs) → Rs) (hM : MemOk (L.Δ.set n (.body (cutF P im 2 an fn))) (cutF P im 2 an fn) M2) : Lib P im (n + 1) where
  Δ := L.Δ.set n (.body (cutF P im 2 an fn))
  T := setT L.T n (.mem M2)
  TD := cnd dyn (setT L.TD n (.mem M2)) L.TD
  ok := dok_set L.ok hF (er_cutF P im 2 an fn)
  tok := (L.tok.le (LeT.set (L.bd n (Nat.le_refl _)) _)).set ⟨_, by rw [Tr.get_set, if_pos rfl], rfl, hM⟩
  dok := by
    have h := L.dok.le (LeT.set (L.bd n (Nat.le_refl _)) (.body (cutF P im 2 an fn)))
    cases dyn
    · exact h
    · exact h.set ⟨_, by rw [Tr.get_set, if_pos rfl], rfl, hM⟩
  bd := bd_set L.bd _

/-- The residual of a function run alone. -/
theorem Lib.snd (hm : P.follows .mixedOrders = true) (L : Lib P im n) {F : FuncId} {fn : Func} (hf : P.funcs[F]? = some fn) (hb : fn.body.isSome = true) (φ na mode : Nat) (an : List (Option (List Nat))) {M : List D → Option D}
    (h : denI φ L.T L.TD na (cutF P im mode an fn) = M) : Snd P im F M := by
  obtain ⟨c, hc⟩ := Option.isSome_iff_exists.1 hb
  rw [← h]
  exact denI_snd hm L.ok L.tok L.dok hf hc (er_cutF P im mode an fn) φ na
/-- The same for a function that calls itself. -/
theorem Lib.sndRec (hm : P.follows .mixedOrders = true) (L : Lib P im n) (dyn : Bool) {F : FuncId} {fn : Func} (hF : FnOk P im n F fn) (φ na mode : Nat) (an : List (Option (List Nat))) {step : (List D → Option D) → List D → Option D}
    (h : (fun ih => denI φ (setT L.T n (.iso ih)) (cnd dyn (setT L.TD n (.iso ih)) L.TD) na (cutF P im mode an fn)) = step) : ∀ i : Nat, Snd P im F (lp (fun _ => none) step i) := by
  intro i
  induction i with
  | zero => intro as r hr; cases hr
  | succ i ih =>
    have h2 := Lib.snd hm (L.iso dyn hF _ ih) hF.fun' hF.body φ na mode an rfl
    have h3 := congrFun h (lp (fun _ => none) step i)
    show Snd P im F (step (lp (fun _ => none) step i))
    rw [← h3]
    exact h2
theorem Lib.memOk (L : Lib P im n) (en : Ent) (G : Fun) (φ na : Nat) {M2 : List D → LS → (D → LS → Rs) → Rs} (h : denF φ L.T L.TD na G = M2) : MemOk (L.Δ.set n en) G M2 := by
  rw [← h]
  have hl := LeT.set (L.bd n (Nat.le_refl _)) en
  exact denF_some (L.tok.le hl) (L.dok.le hl)
theorem Lib.memRec (L : Lib P im n) (dyn : Bool) (an : List (Option (List Nat))) (fn : Func) (φ na : Nat) {step : (List D → LS → (D → LS → Rs) → Rs) → List D → LS → (D → LS → Rs) → Rs}
    (h : (fun ih => denF φ (setT L.T n (.mem ih)) (cnd dyn (setT L.TD n (.mem ih)) L.TD) na (cutF P im 2 an fn)) = step) : ∀ i : Nat, MemOk (L.Δ.set n (.body (cutF P im 2 an fn))) (cutF P im 2 an fn) (lp (fun _ _ _ => none) step i) := by
  intro i
  have hl := LeT.set (L.bd n (Nat.le_refl _)) (.body (cutF P im 2 an fn))
  induction i with
  | zero => intro as s σ k r hs hr; cases hr
  | succ i ih =>
    have hft : FTOk (L.Δ.set n (.body (cutF P im 2 an fn))) n (.mem (lp (fun _ _ _ => none) step i)) := ⟨_, by rw [Tr.get_set, if_pos rfl], rfl, ih⟩
    have h3 := congrFun h (lp (fun _ _ _ => none) step i)
    show MemOk _ _ (step (lp (fun _ _ _ => none) step i))
    rw [← h3]
    refine denF_some ((L.tok.le hl).set hft) ?_
    cases dyn
    · exact L.dok.le hl
    · exact (L.dok.le hl).set hft

/-! ### The same as statements -/
def LibP (P : Program) (im : Nat → Option Nat) (n : Nat) (T TD : FTab) : Prop := ∃ L : Lib P im n, L.T = T ∧ L.TD = TD
variable {T TD : FTab}
theorem LibP.nil : LibP P im 0 (fun _ => none) (fun _ => none) := ⟨Lib.nil, rfl, rfl⟩
theorem LibP.iso (h : LibP P im n T TD) (dyn : Bool) {F : FuncId} {fn : Func} (hF : FnOk P im n F fn) {M : List D → Option D} (hM : Snd P im F M) :
    LibP P im (n + 1) (setT T n (.iso M)) (cnd dyn (setT TD n (.iso M)) TD) := by
  obtain ⟨L, rfl, rfl⟩ := h
  exact ⟨L.iso dyn hF M hM, rfl, rfl⟩
theorem LibP.snd (h : LibP P im n T TD) (hm : P.follows .mixedOrders = true) {F : FuncId} {fn : Func} (hF : FnOk P im n F fn) {φ na mode : Nat} {an : List (Option (List Nat))} {M : List D → Option D}
    (he : denI φ T TD na (cutF P im mode an fn) = M) : Snd P im F M := by
  obtain ⟨L, rfl, rfl⟩ := h
  exact Lib.snd hm L hF.fun' hF.body φ na mode an he
theorem LibP.sndRec (h : LibP P im n T TD) (hm : P.follows .mixedOrders = true) (dyn : Bool) {F : FuncId} {fn : Func} (hF : FnOk P im n F fn) {φ na mode : Nat} {an : List (Option (List Nat))} {step : (List D → Option D) → List D → Option D}
    (he : (fun ih => denI φ (setT T n (.iso ih)) (cnd dyn (setT TD n (.iso ih)) TD) na (cutF P im mode an fn)) = step) (i : Nat) : Snd P im F (lp (fun _ => none) step i) := by
  obtain ⟨L, rfl, rfl⟩ := h
  exact Lib.sndRec hm L dyn hF φ na mode an he i
theorem LibP.mem (h : LibP P im n T TD) (dyn : Bool) {F : FuncId} {fn : Func} (hF : FnOk P im n F fn) {φ na : Nat} {an : List (Option (List Nat))} {M2 : List D → LS → (D → LS → Rs) → Rs}
    (he : denF φ T TD na (cutF P im 2 an fn) = M2) : LibP P im (n + 1) (setT T n (.mem M2)) (cnd dyn (setT TD n (.mem M2)) TD) := by
  obtain ⟨L, rfl, rfl⟩ := h
  exact ⟨L.mem dyn hF an M2 (L.memOk _ _ φ na he), rfl, rfl⟩
theorem LibP.memRec (h : LibP P im n T TD) (dyn : Bool) {F : FuncId} {fn : Func} (hF : FnOk P im n F fn) {φ na : Nat} {an : List (Option (List Nat))} {step : (List D → LS → (D → LS → Rs) → Rs) → List D → LS → (D → LS → Rs) → Rs}
    (he : (fun ih => denF φ (setT T n (.mem ih)) (cnd dyn (setT TD n (.mem ih)) TD) na (cutF P im 2 an fn)) = step) (i : Nat) :
    LibP P im (n + 1) (setT T n (.mem (lp (fun _ _ _ => none) step i))) (cnd dyn (setT TD n (.mem (lp (fun _ _ _ => none) step i))) TD) := by
  obtain ⟨L, rfl, rfl⟩ := h
  exact ⟨L.mem dyn hF an _ (L.memRec dyn an fn φ na he i), rfl, rfl⟩
theorem fnOk_of {l : List Nat} {F : FuncId} {fn : Func} (h1 : P.funcs[F]? = some fn) (h2 : (fn.name == "runtime.NumGoroutine") = false) (h3 : fn.body.isSome = true) (h4 : l[n]? = some F) : FnOk P (fun F => imA F l 0) n F fn :=
  ⟨h1, h2, h3, fun F' h => by
    have := (imA_some h).2
    rw [Nat.sub_zero, h4] at this
    exact (Option.some.inj this).symm⟩
end
end
end Go.Proofs.Ev
set_option linter.unusedVariables false
namespace Go.Proofs.Ev
noncomputable section
/-- slices.Clone: the cells in an array of their own. -/
def cloneM (z : Nat) (as : List D) : Option D :=
  match as with
  | [.tree cs len ex] => cnd (Nat.beq len 0) (some (.tree [] 0 true)) (some (.own cs len z))
  | _ => none
end
end Go.Proofs.Ev
set_option linter.unusedVariables false
set_option linter.unusedSimpArgs false
namespace Go.Proofs.Ev
noncomputable section
variable {kk : IntKind} {a b n : Nat} {k : D → Rs} {s : LS} {K : D → LS → Rs}
theorem mkI_n {no : Rs} (h : n ≤ kmax kk) : mkI kk n k no = k (.i kk (.ofNat n)) := by
  unfold mkI
  rw [Nat.ble_eq_true_of_le h, cnd_true, frc_eq]
theorem mkI_64 {no : Rs} : mkI .u64 n k no = k (.i .u64 (.ofNat (n % 18446744073709551616))) := by
  unfold mkI
  by_cases h : n ≤ kmax .u64
  · rw [Nat.ble_eq_true_of_le h, cnd_true, frc_eq]
    have : n < 18446744073709551616 := Nat.lt_succ_of_le h
    rw [Nat.mod_eq_of_lt this]
  · rw [ble_false h, cnd_false]
    rw [show Nat.beq (kmod .u64) 0 = false from rfl, cnd_false, frc_eq]; rfl
theorem mkI_8 {no : Rs} : mkI .u8 n k no = k (.i .u8 (.ofNat (n % 256))) := by
  unfold mkI
  by_cases h : n ≤ kmax .u8
  · rw [Nat.ble_eq_true_of_le h, cnd_true, frc_eq]
    have : n < 256 := Nat.lt_succ_of_le h
    rw [Nat.mod_eq_of_lt this]
  · rw [ble_false h, cnd_false]
    rw [show Nat.beq (kmod .u8) 0 = false from rfl, cnd_false, frc_eq]; rfl
theorem on2_n {f : IntKind → Nat → Nat → Rs} {no : Rs} : on2 (.i kk (.ofNat a)) (.i kk (.ofNat b)) f no = f kk a b := by
  show cnd (Nat.beq (kcode kk) (kcode kk)) (f kk a b) no = _
  rw [beq_self]; rfl
theorem kAdd_n (h : a + b ≤ kmax kk) : kAdd (.i kk (.ofNat a)) (.i kk (.ofNat b)) k = k (.i kk (.ofNat (a + b))) := by
  unfold kAdd; rw [on2_n]; exact mkI_n h
theorem kMul_n (h : a * b ≤ kmax kk) : kMul (.i kk (.ofNat a)) (.i kk (.ofNat b)) k = k (.i kk (.ofNat (a * b))) := by
  unfold kMul; rw [on2_n]; exact mkI_n h
theorem kSub_n (hb : b ≤ a) (h : a ≤ kmax kk) : kSub (.i kk (.ofNat a)) (.i kk (.ofNat b)) k = k (.i kk (.ofNat (a - b))) := by
  unfold kSub; rw [on2_n, Nat.ble_eq_true_of_le hb, cnd_true]
  exact mkI_n (Nat.le_trans (Nat.sub_le _ _) h)
theorem beq_ne (h : a ≠ b) : Nat.beq a b = false := by
  cases hq : Nat.beq a b with
  | false => rfl
  | true => exact absurd (Nat.eq_of_beq_eq_true hq) h
theorem kQuo_n (hb : b ≠ 0) (h : a ≤ kmax kk) : kQuo (.i kk (.ofNat a)) (.i kk (.ofNat b)) k = k (.i kk (.ofNat (a / b))) := by
  unfold kQuo; rw [on2_n, beq_ne hb, cnd_false]
  exact mkI_n (Nat.le_trans (Nat.div_le_self _ _) h)
theorem kRem_n (hb : b ≠ 0) : kRem (.i kk (.ofNat a)) (.i kk (.ofNat b)) k = k (.i kk (.ofNat (a % b))) := by
  unfold kRem; rw [on2_n, beq_ne hb, cnd_false, frc_eq]; rfl
theorem kLss_n : kLss (.i kk (.ofNat a)) (.i kk (.ofNat b)) k = k (.b (Nat.blt a b)) := by
  unfold kLss; rw [on2_n, mkB_eq]
theorem kGtr_n : kGtr (.i kk (.ofNat a)) (.i kk (.ofNat b)) k = k (.b (Nat.blt b a)) := by
  unfold kGtr; rw [on2_n, mkB_eq]
theorem kEql_n : kEql (.i kk (.ofNat a)) (.i kk (.ofNat b)) k = k (.b (Nat.beq a b)) := by
  unfold kEql; rw [on2_n, mkB_eq]
theorem kOr_n (ha : a ≤ kmax kk) (hb : b ≤ kmax kk) : kOr (.i kk (.ofNat a)) (.i kk (.ofNat b)) k = k (.i kk (.ofNat (a ||| b))) := by
  unfold kOr inK; rw [on2_n, Nat.ble_eq_true_of_le ha, Nat.ble_eq_true_of_le hb, cnd_true, cnd_true, frc_eq]; rfl
theorem kmin_le (h : a ≤ b) : kmin a b = a := by unfold kmin; rw [Nat.ble_eq_true_of_le h]; rfl
theorem kShl_64 {k2 : IntKind} (hb : b ≤ 64) : kShl (.i .u64 (.ofNat a)) (.i k2 (.ofNat b)) k = k (.i .u64 (.ofNat (a * 2 ^ b % 18446744073709551616))) := by
  show mkI .u64 (Nat.mul a (Nat.pow 2 (kmin b 64))) k _ = _
  rw [kmin_le hb]
  exact mkI_64
theorem kShr_64 {k2 : IntKind} (hb : b ≤ 64) : kShr (.i .u64 (.ofNat a)) (.i k2 (.ofNat b)) k = k (.i .u64 (.ofNat (a / 2 ^ b))) := by
  show (frc (Nat.div a (Nat.pow 2 (kmin b 64))) fun n => k (.i .u64 (.ofNat n))) = _
  rw [kmin_le hb, frc_eq]; rfl
theorem kToInt_n {k2 : IntKind} (h : n ≤ kmax kk) : kToInt kk (.i k2 (.ofNat n)) s K = K (.i kk (.ofNat n)) s := by
  show mkI kk n (fun d => K d s) _ = _
  exact mkI_n h
theorem kToInt_8 {k2 : IntKind} : kToInt .u8 (.i k2 (.ofNat n)) s K = K (.i .u8 (.ofNat (n % 256))) s := by
  show mkI .u8 n (fun d => K d s) _ = _
  exact mkI_8
theorem kLens_n {m : Nat} : kS (.lens (.c (.n m))) s K = K (.i .i64 (.ofNat (natBytes m).length)) s := by
  have he : evA s.nx cv s.get (.lens (.c (.n m))) = some (.i .i64 (.ofNat (natBytes m).length), []) := rfl
  unfold kS sA
  rw [he]
  show frcD _ _ = _
  rw [frcD_eq]
theorem kIndex_n {m i : Nat} {c : UInt8} {k2 : IntKind} (h : (natBytes m)[i]? = some c) : kS (.index (.c (.n m)) (.c (.i k2 (.ofNat i)))) s K = K (.i .u8 (.ofNat c.toNat)) s := by
  have he : evA s.nx cv s.get (.index (.c (.n m)) (.c (.i k2 (.ofNat i)))) = some (.i .u8 (.ofNat c.toNat), []) := by
    simp only [evA, cv, str]
    rw [if_pos (by simp)]
    have : (Int.ofNat i).toNat = i := rfl
    rw [this, drop_cons h]
    rfl
  unfold kS sA
  rw [he]
  show frcD _ _ = _
  rw [frcD_eq]

/-! ### One block -/
def st1 (cs : List D) : LS := ⟨.node (some ⟨cs, .rw⟩) .nil .nil, 1⟩
variable {cs : List D} {i len cm : Nat} {ex : Bool} {d : D} {k2 : IntKind}
theorem st1_get : (st1 cs).get 0 = some ⟨cs, .rw⟩ := rfl
theorem kIaddr_st1 {off : Nat} (h : i < len) : kIaddr 1 (st1 cs) (.sl 0 off len cm 1 ex) (.i k2 (.ofNat i)) K = K (.ptr 0 (off + i)) (st1 cs) := by
  show kGet (st1 cs) 0 (fun b => cnd (lv b.st) (cnd (Nat.blt i len) (cnd (Nat.beq 1 1) (frc (Nat.add off (Nat.mul i 1)) fun o => K (.ptr 0 o) (st1 cs)) none) none) none) = _
  rw [kGet_eq, st1_get]
  show cnd (Nat.blt i len) (frc (Nat.add off (Nat.mul i 1)) fun o => K (.ptr 0 o) (st1 cs)) none = _
  rw [blt_true h, cnd_true, frc_eq]
  have : Nat.add off (Nat.mul i 1) = off + i := by show off + i * 1 = off + i; omega
  rw [this]
theorem kLoad1_st1 (h : cs[i]? = some d) : kLoad1 (st1 cs) (.ptr 0 i) K = K d (st1 cs) := by
  show kGet (st1 cs) 0 (fun b => cnd (lv b.st) (nthK i b.cs fun d => K d (st1 cs)) none) = _
  rw [kGet_eq, st1_get]
  show nthK i cs (fun d => K d (st1 cs)) = _
  rw [nthK_eq, h]; rfl
theorem layG_set {α : Type} {x : α} {l : List α} (h : i < l.length) : layG i [x] l = some (l.set i x) := by
  unfold layG
  rw [if_pos (by simp; omega), List.set_eq_take_append_cons_drop, if_pos h]
  simp
theorem kStore_st1 (h : i < cs.length) : kStore 1 (st1 cs) (.ptr 0 i) (.i kk (.ofNat n)) K = K .u (st1 (cs.set i (.i kk (.ofNat n)))) := by
  show kGet (st1 cs) 0 (fun b => cnd (wr b.st) (layK i [.i kk (.ofNat n)] b.cs fun cs' => kPut (st1 cs) 0 ⟨cs', .rw⟩ fun s => K .u s) none) = _
  rw [kGet_eq, st1_get]
  show (layK i [.i kk (.ofNat n)] cs fun cs' => kPut (st1 cs) 0 ⟨cs', .rw⟩ fun s => K .u s) = _
  rw [layK_eq, layG_set h]
  rfl
theorem zeros_one (z : D) : ∀ n, zeros n [z] = List.replicate n z
  | 0 => rfl
  | n + 1 => by
    show z :: zeros n [z] = _
    rw [zeros_one z n]; rfl
theorem kMksl_s0 {bytes : Nat} {z : D} (h1 : n ≤ 140737488355328) (h2 : n * bytes ≤ 140737488355328) : kMksl 1 bytes [z] s0 (.i .i64 (.ofNat n)) (.i .i64 (.ofNat n)) K = K (.sl 0 0 n n 1 true) (st1 (List.replicate n z)) := by
  unfold kMksl
  rw [on2_n]
  show cnd (Nat.ble n n) (cnd (Nat.ble n 140737488355328) (cnd (Nat.ble (Nat.mul n bytes) 140737488355328) (zerosK [z] n fun cs => kPush s0 ⟨cs, .rw⟩ fun s' => K (.sl 0 0 n n 1 true) s') none) none) none = _
  rw [Nat.ble_eq_true_of_le (Nat.le_refl n), Nat.ble_eq_true_of_le h1, Nat.ble_eq_true_of_le (show Nat.mul n bytes ≤ 140737488355328 from h2)]
  simp only [cnd_true]
  rw [zerosK_eq, zeros_one, kPush_eq]
  rfl
theorem retK_own {cs : List D} {len : Nat} (hc : cs.all flat1 = true) (hl : cs.length = len) : retK true (st1 cs) (.sl 0 0 len len 1 true) some = some (.own cs len 1) := by
  unfold retK
  rw [fl_eq]
  show frcO (extr true (st1 cs).get depth0 (.sl 0 0 len len 1 true)) some = _
  have : extr true (st1 cs).get depth0 (.sl 0 0 len len 1 true) = some (.own cs len 1) := by
    have hcut : cut 0 (len * 1) cs = some cs := by
      unfold cut
      rw [List.drop_zero, Nat.mul_one, ← hl, List.take_length]
      simp
    have hm : mapO (res (st1 cs).get depth0) cs = some (cs, []) := mapO_flat1 (k := 59) cs hc
    simp only [extr, extr1, st1_get, Stt.wr, if_true, hcut, hm]
    rfl
  rw [this, frcO_eq]; rfl
end
end Go.Proofs.Ev
set_option linter.unusedVariables false
namespace Go.Proofs.Ev
abbrev B64 : Nat := 18446744073709551616
def val : List Nat → Nat
  | [] => 0
  | w :: ws => w + B64 * val ws
def dg : Nat → Nat → List Nat
  | 0, _ => []
  | n + 1, m => m % B64 :: dg n (m / B64)
def Small (ws : List Nat) : Prop := ∀ w, w ∈ ws → w < B64
theorem dg_val : ∀ {ws : List Nat}, Small ws → dg ws.length (val ws) = ws
  | [], _ => rfl
  | w :: ws, h => by
    have h1 : w < B64 := h w (by simp)
    show (w + B64 * val ws) % B64 :: dg ws.length ((w + B64 * val ws) / B64) = w :: ws
    have e1 : (w + B64 * val ws) % B64 = w := by rw [Nat.add_mul_mod_self_left, Nat.mod_eq_of_lt h1]
    have e2 : (w + B64 * val ws) / B64 = val ws := by
      rw [Nat.add_mul_div_left _ _ (by decide), Nat.div_eq_of_lt h1, Nat.zero_add]
    rw [e1, e2, dg_val (fun x hx => h x (by simp [hx]))]
theorem val_lt : ∀ {ws : List Nat}, Small ws → val ws < B64 ^ ws.length
  | [], _ => by simp [val]
  | w :: ws, h => by
    have h1 : w < B64 := h w (by simp)
    have h2 := val_lt (ws := ws) (fun x hx => h x (by simp [hx]))
    show w + B64 * val ws < B64 ^ (ws.length + 1)
    rw [Nat.pow_succ, Nat.mul_comm (B64 ^ ws.length)]
    have h3 : B64 * (val ws + 1) ≤ B64 * B64 ^ ws.length := Nat.mul_le_mul_left _ h2
    rw [Nat.mul_add, Nat.mul_one] at h3
    omega
theorem val_get : ∀ {ws : List Nat} {j w : Nat}, Small ws → ws[j]? = some w → w = val ws / B64 ^ j % B64
  | [], j, w, _, h => by simp at h
  | x :: ws, 0, w, hs, h => by
    simp only [List.getElem?_cons_zero, Option.some.injEq] at h
    subst h
    have h1 : x < B64 := hs x (by simp)
    rw [Nat.pow_zero, Nat.div_one]
    show x = (x + B64 * val ws) % B64
    rw [Nat.add_mul_mod_self_left, Nat.mod_eq_of_lt h1]
  | x :: ws, j + 1, w, hs, h => by
    simp only [List.getElem?_cons_succ] at h
    have h1 : x < B64 := hs x (by simp)
    have ih := val_get (fun y hy => hs y (by simp [hy])) h
    have e2 : (x + B64 * val ws) / B64 = val ws := by
      rw [Nat.add_mul_div_left _ _ (by decide), Nat.div_eq_of_lt h1, Nat.zero_add]
    show w = (x + B64 * val ws) / B64 ^ (j + 1) % B64
    rw [Nat.pow_succ, Nat.mul_comm (B64 ^ j), ← Nat.div_div_eq_div_mul, e2]
    exact ih
theorem val_set : ∀ {ws : List Nat} {j w : Nat} (y : Nat), ws[j]? = some w → val (ws.set j (w + y)) = val ws + y * B64 ^ j
  | [], j, w, y, h => by simp at h
  | x :: ws, 0, w, y, h => by
    simp only [List.getElem?_cons_zero, Option.some.injEq] at h
    subst h
    show x + y + B64 * val ws = x + B64 * val ws + y * B64 ^ 0
    rw [Nat.pow_zero]; omega
  | x :: ws, j + 1, w, y, h => by
    simp only [List.getElem?_cons_succ] at h
    have ih := val_set y h
    show x + B64 * val (ws.set j (w + y)) = x + B64 * val ws + y * B64 ^ (j + 1)
    rw [ih, Nat.pow_succ, Nat.mul_add]
    have : B64 * (y * B64 ^ j) = y * (B64 ^ j * B64) := by rw [← Nat.mul_assoc, Nat.mul_comm B64 y, Nat.mul_assoc, Nat.mul_comm B64 (B64 ^ j)]
    omega
theorem B64_pow (j : Nat) : B64 ^ j = 2 ^ (64 * j) := by rw [Nat.pow_mul]
theorem p256 (j : Nat) : 256 ^ j = 2 ^ (8 * j) := by rw [Nat.pow_mul]
/-- One byte more. -/
theorem or_step {ws : List Nat} {A b k w : Nat} (hs : Small ws) (hw : ws[k / 8]? = some w) (hb : b < 256) (hv : val ws = A * 256 ^ (k + 1)) :
    w ||| b * 2 ^ (8 * (k % 8)) = w + b * 2 ^ (8 * (k % 8)) ∧ w + b * 2 ^ (8 * (k % 8)) < B64 ∧ val (ws.set (k / 8) (w + b * 2 ^ (8 * (k % 8)))) = (A * 256 + b) * 256 ^ k := by
  have hwv := val_get hs hw
  have hk : 8 * (k + 1) = (8 * (k % 8) + 8) + 64 * (k / 8) := by omega
  have hle : 8 * (k % 8) + 8 ≤ 64 := by omega
  have e1 : val ws / B64 ^ (k / 8) = A * 2 ^ (8 * (k % 8) + 8) := by
    rw [hv, p256, B64_pow, hk, Nat.pow_add, ← Nat.mul_assoc, Nat.mul_div_cancel _ (Nat.pow_pos (by decide))]
  have e2 : B64 = 2 ^ (8 * (k % 8) + 8) * 2 ^ (64 - (8 * (k % 8) + 8)) := by
    rw [← Nat.pow_add, show 8 * (k % 8) + 8 + (64 - (8 * (k % 8) + 8)) = 64 by omega]
  have e3 : w = 2 ^ (8 * (k % 8) + 8) * (A % 2 ^ (64 - (8 * (k % 8) + 8))) := by
    rw [hwv, e1, e2, Nat.mul_comm A, Nat.mul_mod_mul_left]
  have hy : b * 2 ^ (8 * (k % 8)) < 2 ^ (8 * (k % 8) + 8) := by
    rw [Nat.pow_add, Nat.mul_comm (2 ^ (8 * (k % 8)))]
    exact Nat.mul_lt_mul_of_pos_right hb (Nat.pow_pos (by decide))
  have hq : A % 2 ^ (64 - (8 * (k % 8) + 8)) < 2 ^ (64 - (8 * (k % 8) + 8)) := Nat.mod_lt _ (Nat.pow_pos (by decide))
  refine ⟨?_, ?_, ?_⟩
  · rw [e3]
    exact (Nat.two_pow_add_eq_or_of_lt hy _).symm
  · have h3 : 2 ^ (8 * (k % 8) + 8) * (A % 2 ^ (64 - (8 * (k % 8) + 8)) + 1) ≤ 2 ^ (8 * (k % 8) + 8) * 2 ^ (64 - (8 * (k % 8) + 8)) := Nat.mul_le_mul_left _ hq
    rw [← e2, Nat.mul_add, Nat.mul_one, ← e3] at h3
    omega
  · rw [val_set _ hw, hv, B64_pow, Nat.mul_assoc b, ← Nat.pow_add, show 8 * (k % 8) + 64 * (k / 8) = 8 * k by omega, ← p256, Nat.pow_succ, Nat.add_mul, Nat.mul_comm (256 ^ k) 256, Nat.mul_assoc]

/-! ### Bytes -/
theorem natOfBytes_acc : ∀ (l : List UInt8) (acc : Nat), natOfBytes l acc = acc * 256 ^ l.length + natOfBytes l 0
  | [], acc => by simp [natOfBytes]
  | c :: l, acc => by
    show natOfBytes l (acc * 256 + c.toNat) = acc * 256 ^ (l.length + 1) + natOfBytes l (0 * 256 + c.toNat)
    rw [natOfBytes_acc l (acc * 256 + c.toNat), natOfBytes_acc l (0 * 256 + c.toNat), Nat.pow_succ, Nat.add_mul, Nat.zero_mul, Nat.zero_add, Nat.mul_assoc, Nat.mul_comm 256]
    omega
theorem natOf_natBytesF : ∀ (k m : Nat) (acc : List UInt8), m ≤ k → natOfBytes (natBytesF k m acc) 0 = natOfBytes acc m
  | 0, m, acc, h => by
    have : m = 0 := by omega
    subst this; rfl
  | k + 1, m, acc, h => by
    show natOfBytes (cond (Nat.beq m 0) acc (natBytesF k (m / 256) (UInt8.ofNat (m % 256) :: acc))) 0 = _
    by_cases hm : m = 0
    · subst hm; rfl
    · rw [beq_ne hm, cond_false, natOf_natBytesF k (m / 256) _ (by omega)]
      show natOfBytes acc (m / 256 * 256 + (UInt8.ofNat (m % 256)).toNat) = _
      have : (UInt8.ofNat (m % 256)).toNat = m % 256 := by simp
      rw [this]
      congr 1
      omega
theorem natOf_natBytes (m : Nat) : natOfBytes (natBytes m) 0 = m := by
  unfold natBytes
  rw [natOf_natBytesF _ _ _ (Nat.le_refl _)]; rfl
theorem natBytesF_head : ∀ (k m : Nat) (acc : List UInt8), 0 < m → m ≤ k → ∃ c r, natBytesF k m acc = c :: r ∧ c.toNat ≠ 0
  | 0, m, acc, h0, h => by omega
  | k + 1, m, acc, h0, h => by
    show ∃ c r, cond (Nat.beq m 0) acc (natBytesF k (m / 256) (UInt8.ofNat (m % 256) :: acc)) = c :: r ∧ c.toNat ≠ 0
    rw [beq_ne (show m ≠ 0 by omega), cond_false]
    by_cases hq : m / 256 = 0
    · rw [hq]
      refine ⟨UInt8.ofNat (m % 256), acc, ?_, ?_⟩
      · cases k <;> rfl
      · have : (UInt8.ofNat (m % 256)).toNat = m % 256 := by simp
        rw [this]; omega
    · exact natBytesF_head k (m / 256) _ (by omega) (by omega)
theorem natBytes_head {m : Nat} (h : 0 < m) : ∃ c r, natBytes m = c :: r ∧ c.toNat ≠ 0 := natBytesF_head m m [] h (Nat.le_refl _)
theorem natBytes_le {m : Nat} (h : 0 < m) : 256 ^ ((natBytes m).length - 1) ≤ m ∧ 0 < (natBytes m).length := by
  obtain ⟨c, r, h1, h2⟩ := natBytes_head h
  have h3 := natOf_natBytes m
  rw [h1] at h3 ⊢
  have h4 : natOfBytes r (0 * 256 + c.toNat) = m := h3
  rw [natOfBytes_acc, Nat.zero_mul, Nat.zero_add] at h4
  refine ⟨?_, by simp⟩
  simp only [List.length_cons, Nat.add_sub_cancel]
  have : 1 * 256 ^ r.length ≤ c.toNat * 256 ^ r.length := Nat.mul_le_mul_right _ (by omega)
  omega
theorem natBytes_zero : natBytes 0 = [] := rfl
end Go.Proofs.Ev
