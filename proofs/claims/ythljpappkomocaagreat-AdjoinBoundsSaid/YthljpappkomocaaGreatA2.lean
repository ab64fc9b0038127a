/- An evaluator of the code in the model, proved sound, and residuals of code as Lean functions. -/
import Derived.Test.YthljpappkomocaaGreatA1
set_option linter.all false
namespace Go.Proofs.Ev
noncomputable section
inductive FT where
  | iso (M : List D → Option D)
  | mem (M2 : List D → LS → (D → LS → Rs) → Rs)
abbrev FTab := Nat → Option FT
def mapK (f : D → (D → List Nat → Rs) → Rs) (l : List D) (kk : List D → List Nat → Rs) : Rs :=
  List.rec (motive := fun _ => (List D → List Nat → Rs) → Rs) (fun kk => kk [] []) (fun x _ ih kk => f x fun y a => ih fun ys b => appK a b fun ab => kk (y :: ys) ab) l kk
inductive CR | bad | leaf | sl (l off len cm z : Nat) (ex : Bool) | ptr (l off : Nat) | agg (cs : List D) | tup (cs : List D) | fn (f : Nat) (cs : List D)
def asR (d : D) : CR := D.rec (motive_1 := fun _ => CR) (motive_2 := fun _ => PUnit.{1}) .bad (fun _ _ => .leaf) (fun _ => .leaf) (fun _ => .leaf) (fun _ => .leaf) .leaf .leaf (fun _ _ _ _ => .leaf) (fun _ _ _ _ => .bad) (fun l off len cm z ex => .sl l off len cm z ex) (fun l off => .ptr l off) (fun _ _ => .leaf) (fun cs _ => .agg cs) (fun cs _ => .tup cs) (fun f cs _ => .fn f cs) ⟨⟩ (fun _ _ _ _ => ⟨⟩) d
def resS (s : LS) (ih : D → (D → List Nat → Rs) → Rs) (d : D) (kk : D → List Nat → Rs) : Rs :=
  CR.rec (motive := fun _ => Rs) none (kk d [])
    (fun l off len cm z ex => kGet s l fun b => cnd (lv b.st) (z8V off b.cs fun r => z9W (Nat.mul len z) r fun r => mapK ih r fun cs ls => frcB (cnd ex (Nat.beq cm len) false) fun ex => kk (.tree cs len ex) (l :: ls)) none)
    (fun l off => kGet s l fun b => cnd (lv b.st) (z8V off b.cs fun r => mapK ih r fun cs ls => kk (.fp cs) (l :: ls)) none)
    (fun cs => mapK ih cs fun cs ls => kk (.agg cs) ls) (fun cs => mapK ih cs fun cs ls => kk (.tup cs) ls) (fun f cs => mapK ih cs fun cs ls => kk (.fn f cs) ls) (asR d)
def resK (s : LS) (n : Nat) : D → (D → List Nat → Rs) → Rs := Nat.rec (fun _ _ => none) (fun _ ih => resS s ih) n
def frzK (ls : List Nat) : LS → (LS → Rs) → Rs :=
  List.rec (motive := fun _ => LS → (LS → Rs) → Rs) (fun s k => k s) (fun l _ ih s k => kGet s l fun b => kPut s l ⟨b.cs, fzS b.st⟩ fun s => ih s k) ls
def isF (d : D) : Bool := D.rec (motive_1 := fun _ => Bool) (motive_2 := fun _ => PUnit.{1}) false (fun _ _ => true) (fun _ => true) (fun _ => true) (fun _ => true) true true (fun _ _ _ _ => false) (fun _ _ _ _ => false) (fun _ _ _ _ _ _ => false) (fun _ _ => false) (fun _ _ => false) (fun _ _ => false) (fun _ _ => false) (fun _ _ _ => false) ⟨⟩ (fun _ _ _ _ => ⟨⟩) d
def fl1 (d : D) (t f : Rs) : Rs := cnd (isF d) t f
def fl1L (cs : List D) (t f : Rs) : Rs := List.rec (motive := fun _ => Rs) t (fun d _ ih => fl1 d ih f) cs
inductive CF | leaf | agg (cs : List D) | tup (cs : List D) | no
def asF (d : D) : CF := D.rec (motive_1 := fun _ => CF) (motive_2 := fun _ => PUnit.{1}) .no (fun _ _ => .leaf) (fun _ => .leaf) (fun _ => .leaf) (fun _ => .leaf) .leaf .leaf (fun _ _ _ _ => .no) (fun _ _ _ _ => .no) (fun _ _ _ _ _ _ => .no) (fun _ _ => .no) (fun _ _ => .no) (fun cs _ => .agg cs) (fun cs _ => .tup cs) (fun _ _ _ => .no) ⟨⟩ (fun _ _ _ _ => ⟨⟩) d
def fl2 (d : D) (t f : Rs) : Rs := CF.rec (motive := fun _ => Rs) t (fun cs => fl1L cs t f) (fun _ => f) f (asF d)
def fl2L (cs : List D) (t f : Rs) : Rs := List.rec (motive := fun _ => Rs) t (fun d _ ih => fl2 d ih f) cs
def fl (d : D) (t f : Rs) : Rs := CF.rec (motive := fun _ => Rs) t (fun cs => fl1L cs t f) (fun cs => fl2L cs t f) f (asF d)
def matK (s : LS) (r : D) (k : D → LS → Rs) : Rs :=
  match r with
  | .own cs len z => zat s ⟨cs, .rw⟩ fun s' => k (.sl s.nx 0 len len z false) s'
  | .tup (.own cs len z :: ds) => zat s ⟨cs, .rw⟩ fun s' => k (.tup (.sl s.nx 0 len len z false :: ds)) s'
  | d => k d s
def finK (s : LS) (ls : List Nat) (r : D) (k : D → LS → Rs) : Rs := fl r (k r s) (frzK ls s fun s => matK s r k)
def isoK (M : List D → Option D) (as : List D) (s : LS) (k : D → LS → Rs) : Rs := mapK (resK s z2N) as fun as' ls => ob (M as') fun r => finK s ls r k
def s0 : LS := ⟨.nil, 0⟩
def retK (own : Bool) (s : LS) (d : D) (k : D → Rs) : Rs := fl d (k d) (frcO (extr own s.get z2N d) k)
def zoq (M2 : List D → LS → (D → LS → Rs) → Rs) (as : List D) : Option D := M2 as s0 fun d s => retK true s d some
def zng (p : Bool) (o : Option FT) (as : List D) (s : LS) (k : D → LS → Rs) : Rs :=
  Option.rec (motive := fun _ => Rs) none (fun ft => FT.rec (motive := fun _ => Rs) (fun M => isoK M as s k) (fun M2 => cnd p (isoK (zoq M2) as s k) (M2 as s k)) ft) o
inductive CN | fn (f : Nat) (cs : List D) | no
def asN (d : D) : CN := D.rec (motive_1 := fun _ => CN) (motive_2 := fun _ => PUnit.{1}) .no (fun _ _ => .no) (fun _ => .no) (fun _ => .no) (fun _ => .no) .no .no (fun _ _ _ _ => .no) (fun _ _ _ _ => .no) (fun _ _ _ _ _ _ => .no) (fun _ _ => .no) (fun _ _ => .no) (fun _ _ => .no) (fun _ _ => .no) (fun f cs _ => .fn f cs) ⟨⟩ (fun _ _ _ _ => ⟨⟩) d
def dynK (TD : FTab) (p : Bool) (f : D) (as : List D) (s : LS) (k : D → LS → Rs) : Rs :=
  CN.rec (motive := fun _ => Rs) (fun n caps => appK as caps fun as => zng p (TD n) as s k) none (asN f)
def sup (ε : z4P) (t : Nat) (d : D) : z4P := fun n => cnd (Nat.beq n t) (some d) (ε n)
def noS : z4P := fun _ => none
def memN (n : Nat) (l : List Nat) : Bool := List.rec (motive := fun _ => Bool) false (fun m _ ih => cnd (Nat.beq n m) true ih) l
def zfO (ls : List Nat) (ε : z4P) : z4P := fun n => cnd (memN n ls) (ε n) none
def putS (ε : z4P) (dst : Option Nat) (d : D) : z4P :=
  match dst with
  | some t => sup ε t d
  | none => ε
def Cur : Nat → Type
  | 0 => LS → Rs
  | n + 1 => D → Cur n
def botC : (n : Nat) → Cur n
  | 0 => fun _ => none
  | n + 1 => fun _ => botC n
def lamC : (ls : List Nat) → (z4P → LS → Rs) → z4P → Cur ls.length
  | [], F, ε => F ε
  | t :: ls, F, ε => fun d => lamC ls F (sup ε t d)
def appC : (ls : List Nat) → Cur ls.length → z4P → LS → Rs
  | [], c, _ => c
  | t :: ls, c, ε => match ε t with
    | some d => appC ls (c d) ε
    | none => fun _ => none
def lp {α : Type} (bot : α) (f : α → α) (n : Nat) : α := Nat.rec bot (fun _ ih => f ih) n
def jn {α : Type} (B : α) (A : α → Rs) : Rs := A B
def kO (o : O) (ε : z4P) (s : LS) (k : D → LS → Rs) : Rs :=
  match o with
  | .bad => none
  | .mv x => k (xv ε x) s
  | .pick c a b => zp (xv ε c) (xv ε a) (xv ε b) s k
  | .alloc z => z9 z s k
  | .box x => kBox (xv ε x) s k
  | .build z l => zI z (l.map fun p => (p.1, p.2.1, xv ε p.2.2)) s k
  | .bsl n z l => kBsl n z (l.map fun p => (p.1, p.2.1, xv ε p.2.2)) s k
  | .load1 a => z4 s (xv ε a) k
  | .loadn n a => z3 n s (xv ε a) k
  | .store n a x => z6 n s (xv ε a) (xv ε x) k
  | .nilc x => z4o s (xv ε x) k
  | .isnil neg x => zg6 neg s (xv ε x) k
  | .bin op x y => kBin op (xv ε x) (xv ε y) fun d => k d s
  | .binb op x y => zeT op (xv ε x) (xv ε y) s k
  | .eqs neg ks x y => kEqs neg ks (xv ε x) (xv ε y) s k
  | .neg x => kS (.neg (.c (xv ε x))) s k
  | .not x => kNot (xv ε x) s k
  | .toInt kk x => z2s kk (xv ε x) s k
  | .sid x => kS (.sid (.c (xv ε x))) s k
  | .b2s x => kS (.b2s (.c (xv ε x))) s k
  | .s2b x => kS (.s2b (.c (xv ε x))) s k
  | .mkfn f caps => k (.fn f (caps.map (xv ε))) s
  | .mksl sz by' z l c => z24 sz by' z s (xv ε l) (xv ε c) k
  | .slice sz x a b c => z23 sz s (xv ε x) (a.map (xv ε)) (b.map (xv ε)) (c.map (xv ε)) k
  | .slstr x a b => kS (.slstr (.c (xv ε x)) (a.map fun x => .c (xv ε x)) (b.map fun x => .c (xv ε x))) s k
  | .faddr off x => z7 off s (xv ε x) k
  | .field1 off x => zdJ off (xv ε x) s k
  | .fieldn off n x => zjK off n (xv ε x) s k
  | .iaddr sz x i => z1 sz s (xv ε x) (xv ε i) k
  | .index x i => kS (.index (.c (xv ε x)) (.c (xv ε i))) s k
  | .ext x i => kExt (xv ε x) i s k
  | .len x => kLen (xv ε x) s k
  | .lens x => kS (.lens (.c (xv ε x))) s k
  | .max x y => kS (.max (.c (xv ε x)) (.c (xv ε y))) s k
  | .min x y => kS (.min (.c (xv ε x)) (.c (xv ε y))) s k
  | .add64 x y c => z9b (xv ε x) (xv ε y) (xv ε c) s k
  | .sub64 x y c => zdD (xv ε x) (xv ε y) (xv ε c) s k
  | .call _ _ _ => none
  | .app sz by' x y => kApp sz by' s (xv ε x) (xv ε y) k
  | .pld1 x => kS (.pld1 (.c (xv ε x))) s k
  | .pldn n x => kS (.pldn n (.c (xv ε x))) s k
  | .psl sz x a b c => kS (.psl sz (.c (xv ε x)) (a.map fun x => .c (xv ε x)) (b.map fun x => .c (xv ε x)) (c.map fun x => .c (xv ε x))) s k
  | .pia sz x i => kS (.pia sz (.c (xv ε x)) (.c (xv ε i))) s k
  | .pbs n z l => kS (.pbs n z (l.map fun p => (p.1, p.2.1, .c (xv ε p.2.2)))) s k
  | .appk sz by' x y => zj8 sz by' s (xv ε x) (xv ε y) k
  | .copy sz x y => zmD sz s (xv ε x) (xv ε y) k
  | .clr sz z x => kClr sz z s (xv ε x) k
  | .apart a x => kS (.apart (.c (xv ε a)) (.c (xv ε x))) s k
def kOp (T TD : FTab) (o : O) (ε : z4P) (s : LS) (k : D → LS → Rs) : Rs :=
  match o with
  | .call p f as => match f with
    | .c d => match d with
      | .fn n caps => zng p (T n) (as.map (xv ε) ++ caps) s k
      | _ => none
    | .t t => dynK TD p (xv ε (.t t)) (as.map (xv ε)) s k
  | o => kO o ε s k
def z0 (g : D) (want : Bool) (op : (D → LS → Rs) → Rs) (s : LS) (k : D → LS → Rs) : Rs :=
  match g with
  | .b p => cnd p (cnd want (op k) (k (.tup []) s)) (cnd want (k (.tup []) s) (op k))
  | .tup _ => k (.tup []) s
  | _ => none
def denO (T TD : FTab) : List Ins → (z4P → LS → Rs) → z4P → LS → Rs
  | [], K, ε, s => K ε s
  | i :: l, K, ε, s => match i.gd with
    | none => kOp T TD i.op ε s fun d s => denO T TD l K (putS ε i.dst d) s
    | some (t, want) => match ε t with
      | some g => z0 g want (fun k => kOp T TD i.op ε s k) s fun d s => denO T TD l K (putS ε i.dst d) s
      | none => none
structure KN where
  n : z4P → LS → Rs
  ex : Nat → z4P → LS → Rs
  ret : z4P → LS → Rs
def KN.exit (K : KN) (id : Nat) (F : z4P → LS → Rs) (j : Nat) : z4P → LS → Rs := cnd (Nat.beq j id) F (K.ex j)
def zok : C → Option (List Nat)
  | .cut ls _ => some ls
  | _ => none
def z5 (x : D) (a b : Rs) : Rs := onB x a b none
def den (φ : Nat) (T TD : FTab) : C → KN → z4P → LS → Rs
  | .bad, _, _, _ => none
  | .skip, K, ε, s => K.n ε s
  | .reg l, K, ε, s => denO T TD l K.n ε s
  | .seq a b, K, ε, s => match zok b with
    | some ls => jn (lamC ls (fun ε s => den φ T TD b K ε s) noS) fun j => den φ T TD a ⟨appC ls j, K.ex, K.ret⟩ ε s
    | none => den φ T TD a ⟨fun ε s => den φ T TD b K ε s, K.ex, K.ret⟩ ε s
  | .cond x a b, K, ε, s => z5 (xv ε x) (den φ T TD a K ε s) (den φ T TD b K ε s)
  | .block id c, K, ε, s => den φ T TD c ⟨K.n, K.exit id K.n, K.ret⟩ ε s
  | .loop c, K, ε, s => match zok c with
    | some ls => appC ls (lp (botC ls.length) (fun ih => lamC ls (fun ε s => den φ T TD c ⟨appC ls ih, K.ex, K.ret⟩ ε s) noS) φ) ε s
    | none => none
  | .exit id, K, ε, s => K.ex id ε s
  | .ret, K, ε, s => K.ret ε s
  | .cut ls c, K, ε, s => den φ T TD c K (zfO ls ε) s
def ldK (n : Nat) (s : LS) (a : D) (k : D → Rs) : Rs :=
  match n with
  | 0 => z4 s a fun d _ => k d
  | n => z3 n s a fun d _ => k d
def rvK (ε : z4P) (s : LS) : List (Nat × Option Nat) → (List D → Rs) → Rs
  | [], k => k []
  | (t, o) :: rs, k => match ε t with
    | some d => match o with
      | none => rvK ε s rs fun ds => k (d :: ds)
      | some n => ldK n s d fun d => rvK ε s rs fun ds => k (d :: ds)
    | none => none
def tupD : List D → D
  | [d] => d
  | ds => .tup ds
def u1 (l : List D) (k : D → List D → Rs) : Rs := List.rec (motive := fun _ => Rs) none (fun d r _ => k d r) l
def u0 (l : List D) (x : Rs) : Rs := List.rec (motive := fun _ => Rs) x (fun _ _ _ => none) l
def znp : Nat → Nat → z4P → List D → (z4P → Rs) → Rs
  | 0, _, ε, l, F => u0 l (F ε)
  | n + 1, t, ε, l, F => u1 l fun d r => znp n (Nat.succ t) (sup ε t d) r F
def denF (φ : Nat) (T TD : FTab) (n : Nat) (G : Fun) (as : List D) (s : LS) (k : D → LS → Rs) : Rs :=
  znp n 0 noS as fun ε => den φ T TD G.body ⟨fun ε s => rvK ε s G.res fun ds => k (tupD ds) s, fun _ _ _ => none, fun ε s => rvK ε s G.res fun ds => k (tupD ds) s⟩ ε s
def denI (φ : Nat) (T TD : FTab) (n : Nat) (G : Fun) (as : List D) : Option D :=
  denF φ T TD n G as s0 fun d s => retK (!Nat.beq G.mode 0) s d some
end
end Go.Proofs.Ev
namespace Go.Proofs.Ev
noncomputable section
theorem z2R (n : Nat) : Nat.beq n n = true := by simp
theorem zlL {Δ : Tr Ent} : ∀ (k : Nat) (j : Job) (r : Out), run Δ k j = some r → run Δ (k + 1) j = some r := by
  intro k
  induction k with
  | zero => intro j r h; simp [run] at h
  | succ k ih =>
    intro j r h
    cases j with
    | code c e σ =>
      cases c with
      | bad => simp [run] at h
      | skip => simpa only [run] using h
      | reg l => simp only [run] at h; rw [run]; exact ih _ _ h
      | seq a b =>
        simp only [run] at h
        rw [run]
        split at h
        · rename_i e1 σ1 h1
          rw [ih _ _ h1]
          exact ih _ _ h
        · rename_i x h1
          rw [ih _ _ h]
          subst_vars
          cases r with
          | val d σ => rfl
          | code x e σ =>
            cases x with
            | nrm => exact absurd h (h1 _ _)
            | exit id => rfl
            | ret => rfl
      | cond x a b =>
        simp only [run] at h
        rw [run]
        split at h
        · exact ih _ _ h
        · exact ih _ _ h
        · cases h
      | block id c =>
        simp only [run] at h
        rw [run]
        split at h
        · rename_i j e1 σ1 h1
          rw [ih _ _ h1]
          exact h
        · rename_i x h1
          rw [ih _ _ h]
          cases r with
          | val d σ => rfl
          | code x e σ =>
            cases x with
            | nrm => rfl
            | exit j => exact absurd h (h1 _ _ _)
            | ret => rfl
      | loop c =>
        simp only [run] at h
        rw [run]
        split at h
        · rename_i e1 σ1 h1
          rw [ih _ _ h1]
          exact ih _ _ h
        · rename_i x h1
          rw [ih _ _ h]
          cases r with
          | val d σ => rfl
          | code x e σ =>
            cases x with
            | nrm => exact absurd h (h1 _ _)
            | exit id => rfl
            | ret => rfl
      | exit id => simpa only [run] using h
      | ret => simpa only [run] using h
      | cut ls c => simp only [run] at h; rw [run]; exact ih _ _ h
    | ops l e σ =>
      cases l with
      | nil => simpa only [run] using h
      | cons i l =>
        obtain ⟨dst, gd, op⟩ := i
        cases hg : gdv e gd with
        | none => rw [zlK hg] at h; cases h
        | some b =>
          cases b with
          | false =>
            rw [zeK hg] at h
            rw [zeK hg]
            exact ih _ _ h
          | true =>
            by_cases hc : ∃ p f as, op = .call p f as
            · obtain ⟨p, f, as, rfl⟩ := hc
              rw [zeJ hg] at h
              rw [zeJ hg]
              split at h
              · rename_i d σ1 h1
                rw [ih _ _ h1]
                exact ih _ _ h
              · cases h
            · have hne : ∀ p f as, op ≠ .call p f as := fun p f as h => hc ⟨p, f, as, h⟩
              rw [zbO hg hne] at h
              rw [zbO hg hne]
              split at h
              · exact ih _ _ h
              · split at h
                · exact ih _ _ h
                · cases h
    | call p f as σ =>
      cases f
      case fn f caps =>
        rw [zf5] at h
        rw [zf5]
        cases hΔ : Δ.get f with
        | none => simp only [hΔ] at h; cases h
        | some en =>
          cases en with
          | model M => simp only [hΔ] at h ⊢; exact h
          | body F =>
            simp only [hΔ] at h ⊢
            split at h
            · split at h
              · rename_i x e σ1 h1
                simp only [ih _ _ h1]
                exact h
              · cases h
            · split at h
              · rename_i as' ls hm
                split at h
                · rename_i x e σ1 h1
                  simp only [ih _ _ h1]
                  exact h
                · cases h
              · cases h
      all_goals simp [run] at h
theorem zcA {Δ : Tr Ent} {k k' : Nat} (hk : k ≤ k') {j : Job} {r : Out} (h : run Δ k j = some r) : run Δ k' j = some r := by
  induction hk with
  | refl => exact h
  | step _ ih => exact zlL _ _ _ ih
theorem xev (e : Env) : X.ev e = xv e.get := by
  funext x
  cases x <;> rfl
theorem zjA (e : Env) (dst : Option Nat) (d : D) : (put e dst d).get = putS e.get dst d := by
  cases dst with
  | none => rfl
  | some t =>
    funext m
    show (e.set t d).get m = sup e.get t d m
    rw [Tr.get_set]
    unfold sup
    by_cases h : m = t
    · subst h; simp
    · have : Nat.beq m t = false := by
        cases hq : Nat.beq m t with
        | false => rfl
        | true => exact absurd (Nat.eq_of_beq_eq_true hq) h
      rw [this, if_neg h]; rfl
theorem zhJ (n : Nat) : ∀ (l : List Nat), memN n l = true ↔ n ∈ l
  | [] => by simp [memN]
  | m :: l => by
    show cnd (Nat.beq n m) true (memN n l) = true ↔ _
    cases h : Nat.beq n m with
    | true => have := Nat.eq_of_beq_eq_true h; subst this; simp
    | false =>
      have : n ≠ m := by intro e; subst e; simp at h
      simp only [zM, cond_false, zhJ n l, List.mem_cons, this, false_or]
theorem zj3 (e : Env) : ∀ (ls : List Nat), (zg0 ls e).get = zfO ls e.get
  | [] => by funext n; rfl
  | t :: ls => by
    funext n
    have ih := congrFun (zj3 e ls) n
    have hr : zfO (t :: ls) e.get n = cnd (Nat.beq n t) (e.get n) (zfO ls e.get n) := by
      show cnd (cnd (Nat.beq n t) true (memN n ls)) (e.get n) none = cnd (Nat.beq n t) (e.get n) (cnd (memN n ls) (e.get n) none)
      cases Nat.beq n t <;> rfl
    rw [hr]
    simp only [zg0]
    cases hd : e.get t with
    | none =>
      show (zg0 ls e).get n = _
      rw [ih]
      cases h : Nat.beq n t with
      | false => rfl
      | true =>
        have := Nat.eq_of_beq_eq_true h
        subst this
        rw [zx, hd]
        show cnd (memN n ls) (e.get n) none = none
        rw [hd]; cases memN n ls <;> rfl
    | some d =>
      show ((zg0 ls e).set t d).get n = _
      rw [Tr.get_set]
      by_cases h : n = t
      · subst h; simp [hd]
      · have : Nat.beq n t = false := by
          cases hq : Nat.beq n t with
          | false => rfl
          | true => exact absurd (Nat.eq_of_beq_eq_true hq) h
        rw [if_neg h, this, ih]; rfl
theorem zjq {F : z4P → LS → Rs} {s : LS} {r : D} {ε : z4P} : ∀ (ls : List Nat) (ε0 : z4P), appC ls (lamC ls F ε0) ε s = some r →
    ∃ ε', F ε' s = some r ∧ ∀ n, (n ∈ ls → ε' n = ε n) ∧ (n ∉ ls → ε' n = ε0 n)
  | [], ε0, h => ⟨ε0, h, fun n => ⟨fun h => (by cases h), fun _ => rfl⟩⟩
  | t :: ls, ε0, h => by
    simp only [appC] at h
    cases hd : ε t with
    | some d =>
      rw [hd] at h
      obtain ⟨ε', h1, h2⟩ := zjq ls (sup ε0 t d) h
      refine ⟨ε', h1, fun n => ⟨fun hn => ?_, fun hn => ?_⟩⟩
      · by_cases hls : n ∈ ls
        · exact (h2 n).1 hls
        · rw [(h2 n).2 hls]
          have : n = t := by
            rcases List.mem_cons.1 hn with h | h
            · exact h
            · exact absurd h hls
          subst this
          simp [sup, hd]
      · have h3 : n ∉ ls := fun h => hn (List.mem_cons_of_mem _ h)
        have h4 : n ≠ t := fun h => hn (h ▸ List.mem_cons_self ..)
        rw [(h2 n).2 h3]
        unfold sup
        have : Nat.beq n t = false := by
          cases hq : Nat.beq n t with
          | false => rfl
          | true => exact absurd (Nat.eq_of_beq_eq_true hq) h4
        rw [this]; rfl
    | none => rw [hd] at h; cases h
theorem zhv {F : z4P → LS → Rs} {s : LS} {r : D} {ε : z4P} {ls : List Nat} (h : appC ls (lamC ls F noS) ε s = some r) : F (zfO ls ε) s = some r := by
  obtain ⟨ε', h1, h2⟩ := zjq ls noS h
  have : ε' = zfO ls ε := by
    funext n
    unfold zfO
    by_cases hn : n ∈ ls
    · rw [(h2 n).1 hn, (zhJ n ls).2 hn]; rfl
    · rw [(h2 n).2 hn]
      have : memN n ls = false := by
        cases hq : memN n ls with
        | false => rfl
        | true => exact absurd ((zhJ n ls).1 hq) hn
      rw [this]; rfl
  rw [← this]
  exact h1
theorem zkV {s : LS} {ε : z4P} : ∀ (ls : List Nat), appC ls (botC ls.length) ε s = none
  | [] => rfl
  | t :: ls => by
    simp only [appC]
    cases hd : ε t with
    | some d => exact zkV ls
    | none => rfl
theorem zoA (ls : List Nat) (ε : z4P) : zfO ls (zfO ls ε) = zfO ls ε := by
  funext n
  unfold zfO
  cases memN n ls <;> rfl
section
variable {s : LS} {σ : Sto} {r : D}
theorem z98 {F : D → Option (D × List Nat)} {f : D → (D → List Nat → Rs) → Rs} (hf : ∀ d kk, f d kk = some r → ∃ y a, F d = some (y, a) ∧ kk y a = some r) :
    ∀ (l : List D) (kk : List D → List Nat → Rs), mapK f l kk = some r → ∃ ys ls, mapO F l = some (ys, ls) ∧ kk ys ls = some r
  | [], kk, h => ⟨[], [], rfl, h⟩
  | x :: l, kk, h => by
    have h : (f x fun y a => mapK f l fun ys b => appK a b fun ab => kk (y :: ys) ab) = some r := h
    obtain ⟨y, a, h1, h2⟩ := hf _ _ h
    obtain ⟨ys, b, h3, h4⟩ := z98 hf l _ h2
    rw [z7G] at h4
    exact ⟨y :: ys, a ++ b, by simp only [mapO, h1, h3], h4⟩
theorem ziQ (s : LS) : ∀ (n : Nat) (d : D) (kk : D → List Nat → Rs), resK s n d kk = some r → ∃ y a, res s.get n d = some (y, a) ∧ kk y a = some r
  | 0, d, kk, h => by cases h
  | n + 1, d, kk, h => by
    have ih := fun d kk => ziQ s n d kk
    have h : resS s (resK s n) d kk = some r := h
    cases d with
    | u => cases h
    | own cs len sz => cases h
    | sl l off len cm z ex =>
      have h : (kGet s l fun b => cnd (lv b.st) (z8V off b.cs fun r => z9W (Nat.mul len z) r fun r => mapK (resK s n) r fun cs ls => frcB (cnd ex (Nat.beq cm len) false) fun ex => kk (.tree cs len ex) (l :: ls)) none) = some r := h
      obtain ⟨b, hb, h1⟩ := z2l h
      obtain ⟨h2, h3⟩ := zf8 h1
      rw [z34] at h3
      obtain ⟨h4, h5⟩ := z5U h3
      rw [zes] at h4
      obtain ⟨ys, ls, h6, h7⟩ := z98 ih _ _ h5
      rw [z66] at h7
      refine ⟨_, _, ?_, h7⟩
      have h4 : cut off (len * z) b.cs = some _ := h4
      simp only [res, hb, h2, Bool.not_true, Bool.false_eq_true, if_false, h4, h6]
      have e1 : (cm == len) = Nat.beq cm len := by rw [Bool.eq_iff_iff, beq_iff_eq, Nat.beq_eq]
      have : (ex && cm == len) = cnd ex (Nat.beq cm len) false := by rw [e1]; cases ex <;> rfl
      rw [this]
    | ptr l off =>
      have h : (kGet s l fun b => cnd (lv b.st) (z8V off b.cs fun r => mapK (resK s n) r fun cs ls => kk (.fp cs) (l :: ls)) none) = some r := h
      obtain ⟨b, hb, h1⟩ := z2l h
      obtain ⟨h2, h3⟩ := zf8 h1
      rw [z34] at h3
      obtain ⟨ys, ls, h6, h7⟩ := z98 ih _ _ h3
      exact ⟨_, _, by simp only [res, hb, h2, Bool.not_true, Bool.false_eq_true, if_false, h6], h7⟩
    | agg cs =>
      obtain ⟨ys, ls, h6, h7⟩ := z98 ih _ _ (show mapK (resK s n) cs _ = some r from h)
      exact ⟨_, _, by simp only [res, h6], h7⟩
    | tup cs =>
      obtain ⟨ys, ls, h6, h7⟩ := z98 ih _ _ (show mapK (resK s n) cs _ = some r from h)
      exact ⟨_, _, by simp only [res, h6], h7⟩
    | fn f cs =>
      obtain ⟨ys, ls, h6, h7⟩ := z98 ih _ _ (show mapK (resK s n) cs _ = some r from h)
      exact ⟨_, _, by simp only [res, h6], h7⟩
    | _ => exact ⟨_, [], rfl, h⟩
theorem zj9 : ∀ (ls : List Nat) (s : LS) (σ : Sto) (k : LS → Rs), LSR s σ → frzK ls s k = some r → ∃ s', LSR s' (σ.frz ls) ∧ k s' = some r ∧ s'.nx = s.nx
  | [], s, σ, k, h, hr => ⟨s, h, hr, rfl⟩
  | l :: ls, s, σ, k, h, hr => by
    have hr : (kGet s l fun b => kPut s l ⟨b.cs, fzS b.st⟩ fun s => frzK ls s k) = some r := hr
    obtain ⟨b, hb, h1⟩ := z2l hr
    rw [zc7 h hb] at h1
    obtain ⟨s', h2, h3, h4⟩ := zj9 ls _ _ k (h.put hb ⟨b.cs, fzS b.st⟩) h1
    refine ⟨s', ?_, h3, h4⟩
    simp only [Sto.frz, ← zoL]
    have : σ.get l = some b := by rw [h.get, hb]
    rw [this]
    exact h2
theorem zqo (d : D) (t f : Rs) : fl1 d t f = cnd (z8U d) t f := by cases d <;> rfl
theorem zjU (t f : Rs) : ∀ (cs : List D), fl1L cs t f = cnd (cs.all z8U) t f
  | [] => rfl
  | d :: cs => by
    show fl1 d (fl1L cs t f) f = _
    rw [zqo, zjU t f cs, List.all_cons]
    cases z8U d <;> rfl
theorem zqn (d : D) (t f : Rs) : fl2 d t f = cnd (zdM d) t f := by
  cases d with
  | agg cs => exact zjU t f cs
  | _ => rfl
theorem zmX (t f : Rs) : ∀ (cs : List D), fl2L cs t f = cnd (cs.all zdM) t f
  | [] => rfl
  | d :: cs => by
    show fl2 d (fl2L cs t f) f = _
    rw [zqn, zmX t f cs, List.all_cons]
    cases zdM d <;> rfl
theorem zjT (d : D) (t f : Rs) : fl d t f = cnd (flat d) t f := by
  cases d with
  | agg cs => exact zjU t f cs
  | tup cs => exact zmX t f cs
  | _ => rfl
theorem zme {k : D → LS → Rs} {d : D} (h : LSR s σ) (hr : matK s d k = some r) : ∃ s', LSR s' (σ.adds (mat s.nx d).2) ∧ k (mat s.nx d).1 s' = some r := by
  unfold matK at hr
  split at hr
  · rw [z3B] at hr; exact ⟨_, h.push _, hr⟩
  · rw [z3B] at hr; exact ⟨_, h.push _, hr⟩
  · rename_i h1 h2
    have : mat s.nx d = (d, []) := by
      unfold mat
      split
      · exact absurd rfl (h1 _ _ _)
      · exact absurd rfl (h2 _ _ _ _)
      · rfl
    rw [this]
    exact ⟨s, h, hr⟩
theorem zn1 {k : D → LS → Rs} {d : D} {ls : List Nat} (h : LSR s σ) (hr : finK s ls d k = some r) : ∃ s', LSR s' (fin σ ls d).2 ∧ k (fin σ ls d).1 s' = some r := by
  unfold finK at hr
  rw [zjT] at hr
  unfold fin
  cases hf : flat d with
  | true => rw [hf] at hr; exact ⟨s, h, hr⟩
  | false =>
    rw [hf] at hr
    obtain ⟨s1, h1, h2, h3⟩ := zj9 _ _ _ _ h hr
    obtain ⟨s2, h4, h5⟩ := zme h1 h2
    rw [h3, ← h.nx] at h4 h5
    exact ⟨s2, h4, h5⟩
theorem z90 {g : Nat → Option Blk} {k : Nat} : ∀ (cs : List D), cs.all z8U = true → mapO (res g (k + 1)) cs = some (cs, [])
  | [], _ => rfl
  | d :: cs, h => by
    simp only [List.all_cons, Bool.and_eq_true] at h
    simp only [mapO, z90 cs h.2]
    cases d <;> first | rfl | (exact absurd h.1 (by simp [z8U]))
theorem ziO {g : Nat → Option Blk} {k : Nat} (d : D) (h : zdM d = true) : res g (k + 2) d = some (d, []) := by
  cases d with
  | agg cs =>
    have e : res g (k + 2) (.agg cs) = match mapO (res g (k + 1)) cs with
      | some (cs, ls) => some (.agg cs, ls)
      | none => none := rfl
    rw [e, z90 cs h]
  | _ => first | rfl | (exact absurd h (by simp [zdM, z8U]))
theorem zhi {g : Nat → Option Blk} {k : Nat} : ∀ (cs : List D), cs.all zdM = true → mapO (res g (k + 2)) cs = some (cs, [])
  | [], _ => rfl
  | d :: cs, h => by
    simp only [List.all_cons, Bool.and_eq_true] at h
    simp only [mapO, zhi cs h.2, ziO d h.1]
    rfl
theorem zhn {own : Bool} {g : Nat → Option Blk} {k : Nat} (d : D) (h : zdM d = true) : zi4 own g (k + 2) d = some (d, [], []) := by
  have h1 : zi4 own g (k + 2) d = resE (res g (k + 2) d) := by
    cases own <;> cases d <;> first | rfl | (exact absurd h (by simp [zdM, z8U]))
  rw [h1, ziO d h]; rfl
theorem zn2 {own : Bool} {g : Nat → Option Blk} (d : D) (h : flat d = true) : extr own g z2N d = some d := by
  have key : zdM d = true → extr own g z2N d = some d := by
    intro h2
    have h1 : extr own g z2N d = match zi4 own g z2N d with
        | some (d, o, ls) => if o.all fun l => !ls.contains l then some d else none
        | none => none := by
      cases d <;> first | rfl | (exact absurd h2 (by simp [zdM, z8U]))
    rw [h1, show z2N = 58 + 2 from rfl, zhn d h2]; rfl
  cases d with
  | tup cs =>
    cases cs with
    | nil =>
      cases own <;> rfl
    | cons d ds =>
      have h : (d :: ds).all zdM = true := h
      simp only [List.all_cons, Bool.and_eq_true] at h
      simp only [extr]
      rw [show z2N = 58 + 2 from rfl, zhn d h.1, zhi ds h.2]
      rfl
  | agg cs => exact key h
  | _ => exact key h
theorem ziN {own : Bool} {d : D} {k : D → Rs} (hr : retK own s d k = some r) : ∃ q, extr own s.get z2N d = some q ∧ k q = some r := by
  unfold retK at hr
  rw [zjT] at hr
  cases hf : flat d with
  | true => rw [hf] at hr; exact ⟨d, zn2 d hf, hr⟩
  | false =>
    rw [hf] at hr
    have hr : frcO (extr own s.get z2N d) k = some r := hr
    rw [z45] at hr
    exact z43 hr
end
def zir (Δ : Tr Ent) (G : Fun) (M2 : List D → LS → (D → LS → Rs) → Rs) : Prop :=
  ∀ as s σ k r, LSR s σ → M2 as s k = some r → ∃ n x e σ' s' d, run Δ n (.code G.body (zay .nil 0 as) σ) = some (.code x e σ') ∧ (∀ id, x ≠ .exit id) ∧ z95 e σ' G.res = some d ∧ LSR s' σ' ∧ k d s' = some r
def FTOk (Δ : Tr Ent) (n : Nat) : FT → Prop
  | .iso M => Δ.get n = some (.model M)
  | .mem M2 => ∃ G, Δ.get n = some (.body G) ∧ G.mode = 2 ∧ zir Δ G M2
def TOk (Δ : Tr Ent) (T : FTab) : Prop := ∀ n ft, T n = some ft → FTOk Δ n ft
section
variable {Δ : Tr Ent} {T TD : FTab} {s : LS} {σ : Sto} {r : D}
def ToC (Δ : Tr Ent) (p : Bool) (f : D) (as : List D) (σ : Sto) (k : D → LS → Rs) (r : D) : Prop :=
  ∃ n d σ' s', run Δ n (.call p f as σ) = some (.val d σ') ∧ LSR s' σ' ∧ k d s' = some r
theorem zht {p : Bool} {n : Nat} {caps as : List D} {k : D → LS → Rs} (hT : TOk Δ T) (h : LSR s σ) (hr : zng p (T n) (as ++ caps) s k = some r) : ToC Δ p (.fn n caps) as σ k r := by
  unfold zng at hr
  have iso : ∀ (M : List D → Option D), isoK M (as ++ caps) s k = some r → ∃ as' ls q s', mapO (res σ.get z2N) (as ++ caps) = some (as', ls) ∧ M as' = some q ∧ LSR s' (fin σ ls q).2 ∧ k (fin σ ls q).1 s' = some r := by
    intro M hr
    unfold isoK at hr
    obtain ⟨as', ls, h1, h2⟩ := z98 (fun d kk => ziQ s z2N d kk) _ _ hr
    obtain ⟨q, h3, h4⟩ := z43 h2
    obtain ⟨s', h5, h6⟩ := zn1 h h4
    rw [← h.get] at h1
    exact ⟨as', ls, q, s', h1, h3, h5, h6⟩
  cases hft : T n with
  | none => rw [hft] at hr; cases hr
  | some ft =>
    rw [hft] at hr
    have hok := hT n _ hft
    cases ft with
    | iso M =>
      obtain ⟨as', ls, q, s', h1, h2, h3, h4⟩ := iso M hr
      have hok : Δ.get n = some (.model M) := hok
      exact ⟨1, _, _, s', by rw [zf5, hok]; simp only [h1, h2], h3, h4⟩
    | mem M2 =>
      obtain ⟨G, hG, hmode, hM⟩ := hok
      cases p with
      | true =>
        obtain ⟨as', ls, q, s', h1, h2, h3, h4⟩ := iso _ hr
        unfold zoq at h2
        obtain ⟨m, x, e, σ1, s1, d, g1, g2, g3, g4, g5⟩ := hM _ _ Sto.empty _ _ LSR.empty h2
        obtain ⟨q', g6, g7⟩ := ziN g5
        cases g7
        refine ⟨m + 1, _, _, s', ?_, h3, h4⟩
        rw [zf5, hG]
        rw [← g4.get] at g6
        have hm2 : (!Nat.beq G.mode 0) = true := by rw [hmode]; rfl
        simp only [Bool.not_true, Bool.false_and, h1, g1, hm2]
        cases x with
        | exit id => exact absurd rfl (g2 id)
        | nrm => simp only [g3, g6]
        | ret => simp only [g3, g6]
      | false =>
        obtain ⟨m, x, e, σ1, s1, d, g1, g2, g3, g4, g5⟩ := hM _ _ _ _ _ h hr
        refine ⟨m + 1, d, σ1, s1, ?_, g4, g5⟩
        rw [zf5, hG]
        have hm2 : (!false && Nat.beq G.mode 2) = true := by rw [hmode]; rfl
        simp only [hm2, g1]
        cases x with
        | exit id => exact absurd rfl (g2 id)
        | nrm => simp only [g3]
        | ret => simp only [g3]
theorem zn6 {p : Bool} {f : D} {as : List D} {k : D → LS → Rs} (hT : TOk Δ TD) (h : LSR s σ) (hr : dynK TD p f as s k = some r) : ToC Δ p f as σ k r := by
  cases f with
  | fn n caps =>
    have hr : (appK as caps fun as => zng p (TD n) as s k) = some r := hr
    rw [z7G] at hr
    exact zht hT h hr
  | _ => cases hr
theorem zkJ (ε : z4P) : ∀ (l : List (Nat × Nat × X)) (cs : List D), fill cv (l.map fun p => (p.1, p.2.1, X.c (xv ε p.2.2))) cs = fill (xv ε) l cs
  | [], cs => rfl
  | (off, sz, x) :: r, cs => by
    simp only [List.map_cons, fill, cv]
    cases lay off (z6t (xv ε x)) cs with
    | none => rfl
    | some cs' =>
      simp only [zkJ ε r cs']
      rfl
theorem zpk {o : O} {ε : z4P} {k : D → LS → Rs} (h : LSR s σ) (hr : kO o ε s k = some r) : ToO σ (xv ε) o k r := by
  cases o with
  | bad => cases hr
  | mv x => exact toA h rfl hr
  | pick c a b => exact zo0 h hr
  | alloc z => exact zmH h hr
  | box x => exact zpt h hr
  | build z l => exact zmE h hr
  | bsl n z l => exact zps h hr
  | load1 a => exact zmw h hr
  | loadn n a => exact zmv h hr
  | store n a x => exact zmn h hr
  | nilc x => exact zo1 h hr
  | isnil neg x => exact zmx h hr
  | bin op x y =>
    obtain ⟨d, h1, h2⟩ := zpu hr
    exact toA h (by simp only [evA, h1]) h2
  | binb op x y => exact zo6 h hr
  | eqs neg ks x y => exact zpq h hr
  | neg x => exact zdH h rfl hr
  | not x => exact zpl h hr
  | toInt kk x => exact zml h hr
  | sid x => exact zdH h rfl hr
  | b2s x => exact zdH h rfl hr
  | s2b x => exact zdH h rfl hr
  | mkfn f caps => exact toA h rfl hr
  | mksl sz by' z l c => exact zo2 h hr
  | slice sz x a b c => exact zmo h hr
  | slstr x a b =>
    refine zdH h ?_ hr
    cases a <;> cases b <;> rfl
  | faddr off x => exact zmA h hr
  | field1 off x => exact zlh h hr
  | fieldn off n x => exact zlg h hr
  | iaddr sz x i => exact zmy h hr
  | index x i => exact zdH h rfl hr
  | ext x i => exact zpp h hr
  | len x => exact zpn h hr
  | lens x => exact zdH h rfl hr
  | max x y => exact zdH h rfl hr
  | min x y => exact zdH h rfl hr
  | add64 x y c => exact zmI h hr
  | sub64 x y c => exact zmm h hr
  | call p f as => cases hr
  | app sz by' x y => exact zmG h hr
  | pld1 x => exact zdH h rfl hr
  | pldn n x => exact zdH h rfl hr
  | psl sz x a b c =>
    refine zdH h ?_ hr
    cases a <;> cases b <;> cases c <;> rfl
  | pia sz x i => exact zdH h rfl hr
  | pbs n z l =>
    refine zdH h ?_ hr
    simp only [evA, zkJ]
  | appk sz by' x y => exact zo8 h hr
  | copy sz x y => exact zo4 h hr
  | clr sz z x => exact zpr h hr
  | apart a x => exact zdH h rfl hr
def ToI (Δ : Tr Ent) (e : Env) (σ : Sto) (i : Ins) (k : D → LS → Rs) (r : D) : Prop :=
  ∃ n d σ' s', LSR s' σ' ∧ k d s' = some r ∧ ∀ m l, n ≤ m → run Δ (m + 1) (.ops (i :: l) e σ) = run Δ m (.ops l (put e i.dst d) σ')
theorem zhQ {dst : Option Nat} {gd : Option (Nat × Bool)} {o : O} {e : Env} {k : D → LS → Rs} (hT : TOk Δ T) (hD : TOk Δ TD) (h : LSR s σ) (hg : gdv e gd = some true) (hr : kOp T TD o e.get s k = some r) :
    ToI Δ e σ ⟨dst, gd, o⟩ k r := by
  have other : ToO σ (xv e.get) o k r → (∀ p f as, o ≠ .call p f as) → ToI Δ e σ ⟨dst, gd, o⟩ k r := by
    intro ho hne
    obtain ⟨d, s', σ', h1, h2, h3⟩ := ho
    rw [← xev] at h1
    refine ⟨0, d, σ', s', h2, h3, fun m l _ => ?_⟩
    rw [zbO hg hne]
    rcases h1 with ⟨bs, h1, rfl⟩ | ⟨h1, h1'⟩
    · simp only [h1]
    · simp only [h1, h1']
  have callc : ∀ p f as, o = .call p f as → ToC Δ p (f.ev e) (as.map (X.ev e)) σ k r → ToI Δ e σ ⟨dst, gd, o⟩ k r := by
    intro p f as ho hc
    subst ho
    obtain ⟨n, d, σ', s', h1, h2, h3⟩ := hc
    refine ⟨n, d, σ', s', h2, h3, fun m l hm => ?_⟩
    rw [zeJ hg, zcA hm h1]
  cases o
  case call p f as =>
    refine callc p f as rfl ?_
    simp only [kOp] at hr
    rw [xev]
    cases f with
    | t t => exact zn6 hD h hr
    | c d =>
      cases d <;> first | (cases hr; done) | skip
      exact zht hT h hr
  all_goals exact other (zpk h hr) (fun _ _ _ h => by cases h)
theorem zgi (hT : TOk Δ T) (hD : TOk Δ TD) {K : z4P → LS → Rs} : ∀ (l : List Ins) (s : LS) (e : Env) (σ : Sto), LSR s σ → denO T TD l K e.get s = some r →
    ∃ n e' σ' s', run Δ n (.ops l e σ) = some (.code .nrm e' σ') ∧ LSR s' σ' ∧ K e'.get s' = some r
  | [], s, e, σ, h, hr => ⟨1, e, σ, s, rfl, h, hr⟩
  | i :: l, s, e, σ, h, hr => by
    obtain ⟨dst, gd, o⟩ := i
    have go : ToI Δ e σ ⟨dst, gd, o⟩ (fun d s => denO T TD l K (putS e.get dst d) s) r → ∃ n e' σ' s', run Δ n (.ops (⟨dst, gd, o⟩ :: l) e σ) = some (.code .nrm e' σ') ∧ LSR s' σ' ∧ K e'.get s' = some r := by
      intro hi
      obtain ⟨n, d, σ1, s1, h1, h2, h3⟩ := hi
      have h2 : denO T TD l K (putS e.get dst d) s1 = some r := h2
      rw [← zjA] at h2
      obtain ⟨m, e', σ', s', h4, h5, h6⟩ := zgi hT hD l s1 _ σ1 h1 h2
      refine ⟨(n + m) + 1, e', σ', s', ?_, h5, h6⟩
      rw [h3 (n + m) l (by omega)]
      exact zcA (by omega) h4
    have skip' : gdv e gd = some false → denO T TD l K (putS e.get dst (.tup [])) s = some r → ∃ n e' σ' s', run Δ n (.ops (⟨dst, gd, o⟩ :: l) e σ) = some (.code .nrm e' σ') ∧ LSR s' σ' ∧ K e'.get s' = some r := by
      intro hg h2
      rw [← zjA] at h2
      obtain ⟨m, e', σ', s', h4, h5, h6⟩ := zgi hT hD l s _ σ h h2
      refine ⟨m + 1, e', σ', s', ?_, h5, h6⟩
      rw [zeK hg]
      exact h4
    simp only [denO] at hr
    cases gd with
    | none => exact go (zhQ hT hD h rfl hr)
    | some tw =>
      obtain ⟨t, want⟩ := tw
      simp only at hr
      split at hr
      · rename_i g hg
        unfold z0 at hr
        have key : ∀ (p : Bool), e.get t = some (.b p) → gdv e (some (t, want)) = some (p == want) := by
          intro p hp; simp only [gdv, hp]
        split at hr
        · rename_i p
          cases p <;> cases want
          · simp only [zM, cond_false] at hr; exact go (zhQ hT hD h (key _ hg) hr)
          · simp only [zx, cond_true, zM, cond_false] at hr; exact skip' (key _ hg) hr
          · simp only [zx, cond_true, zM, cond_false] at hr; exact skip' (key _ hg) hr
          · simp only [zx, cond_true] at hr; exact go (zhQ hT hD h (key _ hg) hr)
        · refine skip' ?_ hr
          simp only [gdv, hg]
        · cases hr
      · cases hr
def KN.at (K : KN) : Ex → z4P → LS → Rs
  | .nrm => K.n
  | .exit j => K.ex j
  | .ret => K.ret
theorem zhr {c : C} {ls : List Nat} (h : zok c = some ls) : ∃ c', c = .cut ls c' := by
  cases c <;> simp [zok] at h
  subst h
  exact ⟨_, rfl⟩
theorem zoi {φ : Nat} (hT : TOk Δ T) (hD : TOk Δ TD) : ∀ (c : C) (K : KN) (s : LS) (e : Env) (σ : Sto), LSR s σ → den φ T TD c K e.get s = some r →
    ∃ n x e' σ' s', run Δ n (.code c e σ) = some (.code x e' σ') ∧ LSR s' σ' ∧ K.at x e'.get s' = some r := by
  intro c
  induction c with
  | bad => intro K s e σ h hr; cases hr
  | skip => intro K s e σ h hr; exact ⟨1, .nrm, e, σ, s, rfl, h, hr⟩
  | reg l =>
    intro K s e σ h hr
    obtain ⟨n, e', σ', s', h1, h2, h3⟩ := zgi hT hD l s e σ h hr
    exact ⟨n + 1, .nrm, e', σ', s', h1, h2, h3⟩
  | seq a b iha ihb =>
    intro K s e σ h hr
    have fin : ∀ (F : z4P → LS → Rs), den φ T TD a ⟨F, K.ex, K.ret⟩ e.get s = some r → (∀ (e1 : Env) s1, F e1.get s1 = some r → den φ T TD b K e1.get s1 = some r) →
        ∃ n x e' σ' s', run Δ n (.code (.seq a b) e σ) = some (.code x e' σ') ∧ LSR s' σ' ∧ K.at x e'.get s' = some r := by
      intro F hr hF
      obtain ⟨n, x, e1, σ1, s1, h1, h2, h3⟩ := iha _ s e σ h hr
      cases x with
      | nrm =>
        obtain ⟨m, x, e', σ', s', h4, h5, h6⟩ := ihb K s1 e1 σ1 h2 (hF e1 s1 h3)
        refine ⟨(n + m) + 1, x, e', σ', s', ?_, h5, h6⟩
        simp only [run, zcA (show n ≤ n + m by omega) h1, zcA (show m ≤ n + m by omega) h4]
      | exit id =>
        refine ⟨n + 1, .exit id, e1, σ1, s1, ?_, h2, h3⟩
        simp only [run, h1]
      | ret =>
        refine ⟨n + 1, .ret, e1, σ1, s1, ?_, h2, h3⟩
        simp only [run, h1]
    simp only [den] at hr
    split at hr
    · rename_i ls hc
      obtain ⟨b', rfl⟩ := zhr hc
      refine fin _ hr (fun e1 s1 h1 => ?_)
      have h2 := zhv h1
      simp only [den] at h2
      simp only [den]
      rw [zoA] at h2
      exact h2
    · exact fin _ hr (fun e1 s1 h1 => h1)
  | cond x a b iha ihb =>
    intro K s e σ h hr
    simp only [den, z5] at hr
    rcases zar hr with ⟨h1, h2⟩ | ⟨h1, h2⟩
    · obtain ⟨n, x', e', σ', s', h3, h4, h5⟩ := iha K s e σ h h2
      refine ⟨n + 1, x', e', σ', s', ?_, h4, h5⟩
      rw [← xev] at h1
      simp only [run, h1, h3]
    · obtain ⟨n, x', e', σ', s', h3, h4, h5⟩ := ihb K s e σ h h2
      refine ⟨n + 1, x', e', σ', s', ?_, h4, h5⟩
      rw [← xev] at h1
      simp only [run, h1, h3]
  | block id c ih =>
    intro K s e σ h hr
    simp only [den] at hr
    obtain ⟨n, x, e', σ', s', h3, h4, h5⟩ := ih _ s e σ h hr
    cases x with
    | nrm =>
      refine ⟨n + 1, .nrm, e', σ', s', ?_, h4, h5⟩
      simp only [run, h3]
    | ret =>
      refine ⟨n + 1, .ret, e', σ', s', ?_, h4, h5⟩
      simp only [run, h3]
    | exit j =>
      simp only [KN.at, KN.exit] at h5
      cases hj : Nat.beq j id with
      | true =>
        rw [hj] at h5
        refine ⟨n + 1, .nrm, e', σ', s', ?_, h4, h5⟩
        simp only [run, h3, hj, zx, cond_true]
      | false =>
        rw [hj] at h5
        refine ⟨n + 1, .exit j, e', σ', s', ?_, h4, h5⟩
        simp only [run, h3, hj, zM, cond_false]
  | loop c ih =>
    intro K s e σ h hr
    simp only [den] at hr
    split at hr
    · rename_i ls hc
      obtain ⟨c', rfl⟩ := zhr hc
      generalize hf : (fun q => lamC ls (fun ε s => den φ T TD (.cut ls c') ⟨appC ls q, K.ex, K.ret⟩ ε s) noS) = f at hr
      have key : ∀ (m : Nat) (s : LS) (e : Env) (σ : Sto), LSR s σ → appC ls (lp (botC ls.length) f m) e.get s = some r →
          ∃ n x e' σ' s', run Δ n (.code (.loop (.cut ls c')) e σ) = some (.code x e' σ') ∧ LSR s' σ' ∧ K.at x e'.get s' = some r := by
        intro m
        induction m with
        | zero =>
          intro s e σ h hr
          have hr : appC ls (botC ls.length) e.get s = some r := hr
          rw [zkV] at hr
          cases hr
        | succ m ihm =>
          intro s e σ h hr
          have hr : appC ls (f (lp (botC ls.length) f m)) e.get s = some r := hr
          rw [← hf] at hr
          have h2 := zhv hr
          simp only [hf] at h2
          have h3 : den φ T TD (.cut ls c') ⟨appC ls (lp (botC ls.length) f m), K.ex, K.ret⟩ e.get s = some r := by
            simp only [den] at h2
            simp only [den]
            rw [zoA] at h2
            exact h2
          obtain ⟨n, x, e1, σ1, s1, h4, h5, h6⟩ := ih _ s e σ h h3
          cases x with
          | nrm =>
            obtain ⟨n2, x, e', σ', s', h7, h8, h9⟩ := ihm s1 e1 σ1 h5 h6
            refine ⟨(n + n2) + 1, x, e', σ', s', ?_, h8, h9⟩
            rw [run]
            simp only [zcA (show n ≤ n + n2 by omega) h4, zcA (show n2 ≤ n + n2 by omega) h7]
          | exit id =>
            refine ⟨n + 1, .exit id, e1, σ1, s1, ?_, h5, h6⟩
            rw [run]
            simp only [h4]
          | ret =>
            refine ⟨n + 1, .ret, e1, σ1, s1, ?_, h5, h6⟩
            rw [run]
            simp only [h4]
      exact key φ s e σ h hr
    · cases hr
  | exit id => intro K s e σ h hr; exact ⟨1, .exit id, e, σ, s, rfl, h, hr⟩
  | ret => intro K s e σ h hr; exact ⟨1, .ret, e, σ, s, rfl, h, hr⟩
  | cut ls c ih =>
    intro K s e σ h hr
    simp only [den] at hr
    rw [← zj3] at hr
    obtain ⟨n, x, e', σ', s', h3, h4, h5⟩ := ih K s _ σ h hr
    exact ⟨n + 1, x, e', σ', s', by simp only [run]; exact h3, h4, h5⟩
def ldV (n : Nat) (cs : List D) : Option D :=
  match n with
  | 0 => match cs with
    | d :: _ => some d
    | [] => none
  | n => match cut 0 n cs with
    | some r => some (.agg r)
    | none => none
theorem znS {n : Nat} {a : D} {k : D → Rs} (h : LSR s σ) (hr : ldK n s a k = some r) : ∃ cs d, at_ σ.get a = some cs ∧ ldV n cs = some d ∧ k d = some r := by
  rw [h.get]
  cases n with
  | zero =>
    rcases z8Z (show z4 s a (fun d _ => k d) = some r from hr) with ⟨l, off, rfl, h2⟩ | ⟨cs, rfl, h2⟩
    · obtain ⟨b, hb, h3⟩ := z2l h2
      obtain ⟨h4, h5⟩ := zf8 h3
      obtain ⟨d, h6, h7⟩ := zag h5
      refine ⟨b.cs.drop off, d, by simp only [at_, hb, h4, Bool.not_true, Bool.false_eq_true, if_false], ?_, h7⟩
      rw [h6]; rfl
    · obtain ⟨d, h6, h7⟩ := zag h2
      rw [List.drop_zero] at h6
      refine ⟨cs, d, rfl, ?_, h7⟩
      rw [h6]; rfl
  | succ n =>
    rcases z8Z (show z3 (n + 1) s a (fun d _ => k d) = some r from hr) with ⟨l, off, rfl, h2⟩ | ⟨cs, rfl, h2⟩
    · obtain ⟨b, hb, h3⟩ := z2l h2
      obtain ⟨h4, h5⟩ := zf8 h3
      rw [z34] at h5
      obtain ⟨h6, h7⟩ := z5U h5
      refine ⟨b.cs.drop off, _, by simp only [at_, hb, h4, Bool.not_true, Bool.false_eq_true, if_false], ?_, h7⟩
      simp only [ldV, h6]
    · obtain ⟨h6, h7⟩ := z5U h2
      refine ⟨cs, _, rfl, ?_, h7⟩
      simp only [ldV, h6]
theorem zlQ {e : Env} {t n : Nat} : zfP e σ (t, some n) = match e.get t with
    | some a => match at_ σ.get a with
      | some cs => ldV n cs
      | none => none
    | none => none := by
  cases n <;> rfl
theorem zft {e : Env} (h : LSR s σ) : ∀ (rs : List (Nat × Option Nat)) (k : List D → Rs), rvK e.get s rs k = some r → ∃ ds, zda e σ rs = some ds ∧ k ds = some r
  | [], k, hr => ⟨[], rfl, hr⟩
  | (t, o) :: rs, k, hr => by
    simp only [rvK] at hr
    split at hr
    · rename_i d hd
      cases o with
      | none =>
        obtain ⟨ds, h1, h2⟩ := zft h rs _ hr
        exact ⟨d :: ds, by simp only [zda, zfP, hd, h1], h2⟩
      | some n =>
        obtain ⟨cs, d', h1, h2, h3⟩ := znS h hr
        obtain ⟨ds, h4, h5⟩ := zft h rs _ h3
        refine ⟨d' :: ds, ?_, h5⟩
        have : zfP e σ (t, some n) = some d' := by
          rw [zlQ, hd]
          simp only [h1]
          exact h2
        simp only [zda, this, h4]
    · cases hr
theorem zlE {e : Env} {rs : List (Nat × Option Nat)} {ds : List D} (h : zda e σ rs = some ds) : z95 e σ rs = some (tupD ds) := by
  unfold z95
  rw [h]
  unfold tupD
  split <;> simp_all
theorem zhu {F : z4P → Rs} : ∀ (n t : Nat) (e : Env) (as : List D), znp n t e.get as F = some r → F (zay e t as).get = some r
  | 0, t, e, [], h => h
  | 0, t, e, a :: as, h => by cases h
  | n + 1, t, e, [], h => by cases h
  | n + 1, t, e, a :: as, h => by
    have h : znp n (Nat.succ t) (sup e.get t a) as F = some r := h
    have hu : sup e.get t a = (e.set t a).get := (zjA e (some t) a).symm
    rw [hu] at h
    exact zhu n _ _ as h
theorem zgj {φ n : Nat} {G : Fun} (hT : TOk Δ T) (hD : TOk Δ TD) : zir Δ G (denF φ T TD n G) := by
  intro as s σ k r h hr
  unfold denF at hr
  have hr := zhu n 0 .nil as (show znp n 0 (Tr.nil : Env).get as _ = some r from hr)
  obtain ⟨m, x, e', σ', s', h1, h2, h3⟩ := zoi hT hD _ _ s _ σ h hr
  cases x with
  | exit id => cases h3
  | nrm =>
    obtain ⟨ds, h4, h5⟩ := zft h2 _ _ h3
    exact ⟨m, .nrm, e', σ', s', _, h1, fun id h => (by cases h), zlE h4, h2, h5⟩
  | ret =>
    obtain ⟨ds, h4, h5⟩ := zft h2 _ _ h3
    exact ⟨m, .ret, e', σ', s', _, h1, fun id h => (by cases h), zlE h4, h2, h5⟩
theorem zoj {P : Program} {im : Nat → Option Nat} (hm : P.follows .mixedOrders = true) (hΔ : DOk P im Δ) (hT : TOk Δ T) (hD : TOk Δ TD) {F : FuncId} {fn : Func} {c : Code} (hf : P.funcs[F]? = some fn) (hb : fn.body = some c)
    {G : Fun} (hG : G.er = cFun P im G.mode fn) (φ n : Nat) : Snd P im F (denI φ T TD n G) := by
  intro as q hq
  unfold denI at hq
  obtain ⟨m, x, e, σ', s', d, h1, h2, h3, h4, h5⟩ := zgj hT hD _ _ Sto.empty _ _ LSR.empty hq
  obtain ⟨q', h6, h7⟩ := ziN h5
  cases h7
  rw [← h4.get] at h6
  exact isoS (ziL hm hΔ m).1 hf hb hG h1 h2 h3 h6
end
end
end Go.Proofs.Ev
namespace Go.Proofs.Ev
noncomputable section
def zly (o : Option (List Nat)) (c : C) : C :=
  match o with
  | some ls => .cut ls c
  | none => c
def addC : C → List (Option (List Nat)) → (C → List (Option (List Nat)) → C) → C
  | .seq a b, an, k => match an with
    | [] => k (.seq a b) []
    | o :: an => addC a an fun a an => addC b an fun b an => k (.seq a (zly o b)) an
  | .loop c, an, k => match an with
    | [] => k (.loop c) []
    | o :: an => addC c an fun c an => k (.loop (zly o c)) an
  | .cond x a b, an, k => addC a an fun a an => addC b an fun b an => k (.cond x a b) an
  | .block id c, an, k => addC c an fun c an => k (.block id c) an
  | c, an, k => k c an
theorem zkM (o : Option (List Nat)) (c : C) : (zly o c).er = c.er := by cases o <;> rfl
theorem zpC (X : C) : ∀ (c : C) (an : List (Option (List Nat))) (k : C → List (Option (List Nat)) → C), (∀ c' an', c'.er = c.er → (k c' an').er = X) → (addC c an k).er = X := by
  intro c
  induction c with
  | seq a b iha ihb =>
    intro an k h
    cases an with
    | nil => exact h _ _ rfl
    | cons o an =>
      refine iha _ _ (fun a' an' ha => ihb _ _ (fun b' an'' hb => h _ _ ?_))
      show C.seq a'.er (zly o b').er = C.seq a.er b.er
      rw [zkM, ha, hb]
  | loop c ih =>
    intro an k h
    cases an with
    | nil => exact h _ _ rfl
    | cons o an =>
      refine ih _ _ (fun c' an' hc => h _ _ ?_)
      show C.loop (zly o c').er = C.loop c.er
      rw [zkM, hc]
  | cond x a b iha ihb =>
    intro an k h
    refine iha _ _ (fun a' an' ha => ihb _ _ (fun b' an'' hb => h _ _ ?_))
    show C.cond x a'.er b'.er = C.cond x a.er b.er
    rw [ha, hb]
  | block id c ih =>
    intro an k h
    refine ih _ _ (fun c' an' hc => h _ _ ?_)
    show C.block id c'.er = C.block id c.er
    rw [hc]
  | _ => intro an k h; exact h _ _ rfl
theorem zqq (P : Program) (im : Nat → Option Nat) (nt : Nat) (ops : List Oper) (draw : Bool) : (cReg P im nt ops draw).er = cReg P im nt ops draw := by
  unfold cReg
  split
  · split <;> rfl
  · rfl
theorem zi6 (P : Program) (im : Nat → Option Nat) (nt : Nat) : ∀ (c : Code), (z4G P im nt c).er = z4G P im nt c := by
  intro c
  induction c with
  | region k ops draw => exact zqq P im nt _ _
  | seq a b iha ihb => simp only [z4G, C.er, iha, ihb]
  | cond x a b iha ihb => simp only [z4G, C.er, iha, ihb]
  | block id c ih => simp only [z4G, C.er, ih]
  | loop c ih => simp only [z4G, C.er, ih]
  | scope c ih => simp only [z4G, ih]
  | _ => rfl
def cutF (P : Program) (im : Nat → Option Nat) (mode : Nat) (an : List (Option (List Nat))) (fn : Func) : Fun :=
  ⟨fn.params.size, fn.results.toList.map (cRes P), mode, addC (cFun P im mode fn).body an fun c _ => c⟩
theorem zn5 (P : Program) (im : Nat → Option Nat) (mode : Nat) (an : List (Option (List Nat))) (fn : Func) : (cutF P im mode an fn).er = cFun P im (cutF P im mode an fn).mode fn := by
  have hb : (cFun P im mode fn).body.er = (cFun P im mode fn).body := by
    unfold cFun
    split
    · split
      · exact zi6 P im _ _
      · rfl
    · rfl
  have h : (cutF P im mode an fn).body.er = (cFun P im mode fn).body :=
    zpC _ _ _ _ (fun c' an' h => by rw [h, hb])
  show (⟨_, _, _, (cutF P im mode an fn).body.er⟩ : Fun) = _
  rw [h]
  rfl
def imA (F : Nat) : List Nat → Nat → Option Nat
  | [], _ => none
  | x :: r, i => cnd (Nat.beq F x) (some i) (imA F r (Nat.succ i))
theorem zkD {F n : Nat} : ∀ {l : List Nat} {i : Nat}, imA F l i = some n → i ≤ n ∧ l[n - i]? = some F
  | [], i, h => by cases h
  | x :: r, i, h => by
    simp only [imA] at h
    cases hb : Nat.beq F x with
    | true =>
      rw [hb] at h
      have := Nat.eq_of_beq_eq_true hb
      subst this
      simp only [zx, cond_true, Option.some.injEq] at h
      subst h
      simp
    | false =>
      rw [hb] at h
      obtain ⟨h1, h2⟩ := zkD (show imA F r (Nat.succ i) = some n from h)
      refine ⟨by omega, ?_⟩
      have : n - i = (n - Nat.succ i) + 1 := by omega
      rw [this]
      exact h2
def setT (T : FTab) (n : Nat) (ft : FT) : FTab := fun m => cnd (Nat.beq m n) (some ft) (T m)
structure Lib (P : Program) (im : Nat → Option Nat) (n : Nat) where
  Δ : Tr Ent
  T : FTab
  TD : FTab
  ok : DOk P im Δ
  tok : TOk Δ T
  dok : TOk Δ TD
  bd : ∀ m, n ≤ m → Δ.get m = none
section
variable {P : Program} {im : Nat → Option Nat} {n : Nat}
def Lib.nil : Lib P im 0 := ⟨.nil, fun _ => none, fun _ => none, ⟨fun F f en _ h => (by cases h)⟩, fun n ft h => (by cases h), fun n ft h => (by cases h), fun _ _ => rfl⟩
def LeT (Δ Δ' : Tr Ent) : Prop := ∀ m en, Δ.get m = some en → Δ'.get m = some en
theorem zq5 {Δ Δ' : Tr Ent} (hl : LeT Δ Δ') : ∀ (k : Nat) (j : Job) (r : Out), run Δ k j = some r → run Δ' k j = some r := by
  intro k
  induction k with
  | zero => intro j r h; simp [run] at h
  | succ k ih =>
    intro j r h
    cases j with
    | code c e σ =>
      cases c with
      | bad => simp [run] at h
      | skip => simpa only [run] using h
      | reg l => simp only [run] at h; rw [run]; exact ih _ _ h
      | seq a b =>
        simp only [run] at h
        rw [run]
        split at h
        · rename_i e1 σ1 h1
          rw [ih _ _ h1]
          exact ih _ _ h
        · rename_i x h1
          rw [ih _ _ h]
          cases r with
          | val d σ => rfl
          | code x e σ =>
            cases x with
            | nrm => exact absurd h (h1 _ _)
            | exit id => rfl
            | ret => rfl
      | cond x a b =>
        simp only [run] at h
        rw [run]
        split at h
        · exact ih _ _ h
        · exact ih _ _ h
        · cases h
      | block id c =>
        simp only [run] at h
        rw [run]
        split at h
        · rename_i j e1 σ1 h1
          rw [ih _ _ h1]
          exact h
        · rename_i x h1
          rw [ih _ _ h]
          cases r with
          | val d σ => rfl
          | code x e σ =>
            cases x with
            | nrm => rfl
            | exit j => exact absurd h (h1 _ _ _)
            | ret => rfl
      | loop c =>
        simp only [run] at h
        rw [run]
        split at h
        · rename_i e1 σ1 h1
          rw [ih _ _ h1]
          exact ih _ _ h
        · rename_i x h1
          rw [ih _ _ h]
          cases r with
          | val d σ => rfl
          | code x e σ =>
            cases x with
            | nrm => exact absurd h (h1 _ _)
            | exit id => rfl
            | ret => rfl
      | exit id => simpa only [run] using h
      | ret => simpa only [run] using h
      | cut ls c => simp only [run] at h; rw [run]; exact ih _ _ h
    | ops l e σ =>
      cases l with
      | nil => simpa only [run] using h
      | cons i l =>
        obtain ⟨dst, gd, op⟩ := i
        cases hg : gdv e gd with
        | none => rw [zlK hg] at h; cases h
        | some b =>
          cases b with
          | false =>
            rw [zeK hg] at h
            rw [zeK hg]
            exact ih _ _ h
          | true =>
            by_cases hc : ∃ p f as, op = .call p f as
            · obtain ⟨p, f, as, rfl⟩ := hc
              rw [zeJ hg] at h
              rw [zeJ hg]
              split at h
              · rename_i d σ1 h1
                rw [ih _ _ h1]
                exact ih _ _ h
              · cases h
            · have hne : ∀ p f as, op ≠ .call p f as := fun p f as h => hc ⟨p, f, as, h⟩
              rw [zbO hg hne] at h
              rw [zbO hg hne]
              split at h
              · exact ih _ _ h
              · split at h
                · exact ih _ _ h
                · cases h
    | call p f as σ =>
      cases f
      case fn f caps =>
        rw [zf5] at h
        rw [zf5]
        cases hΔ : Δ.get f with
        | none => simp only [hΔ] at h; cases h
        | some en =>
          simp only [hΔ] at h
          simp only [hl _ _ hΔ]
          cases en with
          | model M => exact h
          | body F =>
            simp only at h ⊢
            split at h
            · split at h
              · rename_i x e σ1 h1
                simp only [ih _ _ h1]
                exact h
              · cases h
            · split at h
              · rename_i as' ls hm
                split at h
                · rename_i x e σ1 h1
                  simp only [ih _ _ h1]
                  exact h
                · cases h
              · cases h
      all_goals simp [run] at h
theorem zir.le {Δ Δ' : Tr Ent} (hl : LeT Δ Δ') {G : Fun} {M2 : List D → LS → (D → LS → Rs) → Rs} (h : zir Δ G M2) : zir Δ' G M2 := by
  intro as s σ k r hs hr
  obtain ⟨n, x, e, σ', s', d, h1, h2⟩ := h as s σ k r hs hr
  exact ⟨n, x, e, σ', s', d, zq5 hl _ _ _ h1, h2⟩
theorem FTOk.le {Δ Δ' : Tr Ent} (hl : LeT Δ Δ') {n : Nat} {ft : FT} (h : FTOk Δ n ft) : FTOk Δ' n ft := by
  cases ft with
  | iso M => exact hl _ _ h
  | mem M2 =>
    obtain ⟨G, h1, h2, h3⟩ := h
    exact ⟨G, hl _ _ h1, h2, h3.le hl⟩
theorem TOk.le {Δ Δ' : Tr Ent} (hl : LeT Δ Δ') {T : FTab} (h : TOk Δ T) : TOk Δ' T := fun n ft hf => (h n ft hf).le hl
theorem TOk.set {Δ : Tr Ent} {T : FTab} (h : TOk Δ T) {n : Nat} {ft : FT} (hf : FTOk Δ n ft) : TOk Δ (setT T n ft) := by
  intro m ft' hm
  unfold setT at hm
  cases hb : Nat.beq m n with
  | true =>
    rw [hb] at hm
    have := Nat.eq_of_beq_eq_true hb
    subst this
    cases hm
    exact hf
  | false => rw [hb] at hm; exact h m ft' hm
theorem LeT.set {Δ : Tr Ent} (hb : Δ.get n = none) (en : Ent) : LeT Δ (Δ.set n en) := by
  intro m en' hm
  rw [Tr.get_set]
  by_cases h : m = n
  · subst h; rw [hb] at hm; cases hm
  · rw [if_neg h]; exact hm
structure FnOk (P : Program) (im : Nat → Option Nat) (n : Nat) (F : FuncId) (fn : Func) : Prop where
  fun' : P.funcs[F]? = some fn
  nm : (fn.name == "runtime.NumGoroutine") = false
  body : fn.body.isSome = true
  uniq : ∀ F', im F' = some n → F' = F
theorem zn8 {Δ : Tr Ent} (h : DOk P im Δ) {F : FuncId} {fn : Func} (hF : FnOk P im n F fn) {en : Ent} (he : match en with
    | .body G => G.er = cFun P im G.mode fn
    | .model M => Snd P im F M) : DOk P im (Δ.set n en) := by
  refine ⟨fun F' f en' hf hen => ?_⟩
  rw [Tr.get_set] at hen
  by_cases hfn : f = n
  · rw [if_pos hfn] at hen
    cases hen
    rw [hfn] at hf
    have := hF.uniq F' hf
    subst this
    obtain ⟨c, hc⟩ := Option.isSome_iff_exists.1 hF.body
    exact ⟨fn, c, hF.fun', hF.nm, hc, he⟩
  · rw [if_neg hfn] at hen
    exact h.ent F' f en' hf hen
theorem zoU {Δ : Tr Ent} (h : ∀ m, n ≤ m → Δ.get m = none) (en : Ent) : ∀ m, n + 1 ≤ m → (Δ.set n en).get m = none := by
  intro m hm
  rw [Tr.get_set, if_neg (by omega)]
  exact h m (by omega)
def Lib.iso (L : Lib P im n) (dyn : Bool) {F : FuncId} {fn : Func} (hF : FnOk P im n F fn) (M : List D → Option D) (hM : Snd P im F M) : Lib P im (n + 1) where
  Δ := L.Δ.set n (.model M)
  T := setT L.T n (.iso M)
  TD := cnd dyn (setT L.TD n (.iso M)) L.TD
  ok := zn8 L.ok hF hM
  tok := (L.tok.le (LeT.set (L.bd n (Nat.le_refl _)) _)).set (by show (L.Δ.set n _).get n = _; rw [Tr.get_set, if_pos rfl])
  dok := by
    have h := L.dok.le (LeT.set (L.bd n (Nat.le_refl _)) (.model M))
    cases dyn
    · exact h
    · exact h.set (by show (L.Δ.set n _).get n = _; rw [Tr.get_set, if_pos rfl])
  bd := zoU L.bd _
def Lib.mem (L : Lib P im n) (dyn : Bool) {F : FuncId} {fn : Func} (hF : FnOk P im n F fn) (an : List (Option (List Nat))) (M2 : List D → LS → (D → LS → Rs) → Rs) (hM : zir (L.Δ.set n (.body (cutF P im 2 an fn))) (cutF P im 2 an fn) M2) : Lib P im (n + 1) where
  Δ := L.Δ.set n (.body (cutF P im 2 an fn))
  T := setT L.T n (.mem M2)
  TD := cnd dyn (setT L.TD n (.mem M2)) L.TD
  ok := zn8 L.ok hF (zn5 P im 2 an fn)
  tok := (L.tok.le (LeT.set (L.bd n (Nat.le_refl _)) _)).set ⟨_, by rw [Tr.get_set, if_pos rfl], rfl, hM⟩
  dok := by
    have h := L.dok.le (LeT.set (L.bd n (Nat.le_refl _)) (.body (cutF P im 2 an fn)))
    cases dyn
    · exact h
    · exact h.set ⟨_, by rw [Tr.get_set, if_pos rfl], rfl, hM⟩
  bd := zoU L.bd _
theorem Lib.snd (hm : P.follows .mixedOrders = true) (L : Lib P im n) {F : FuncId} {fn : Func} (hf : P.funcs[F]? = some fn) (hb : fn.body.isSome = true) (φ na mode : Nat) (an : List (Option (List Nat))) {M : List D → Option D}
    (h : denI φ L.T L.TD na (cutF P im mode an fn) = M) : Snd P im F M := by
  obtain ⟨c, hc⟩ := Option.isSome_iff_exists.1 hb
  rw [← h]
  exact zoj hm L.ok L.tok L.dok hf hc (zn5 P im mode an fn) φ na
theorem Lib.sndRec (hm : P.follows .mixedOrders = true) (L : Lib P im n) (dyn : Bool) {F : FuncId} {fn : Func} (hF : FnOk P im n F fn) (φ na mode : Nat) (an : List (Option (List Nat))) {step : (List D → Option D) → List D → Option D}
    (h : (fun ih => denI φ (setT L.T n (.iso ih)) (cnd dyn (setT L.TD n (.iso ih)) L.TD) na (cutF P im mode an fn)) = step) : ∀ i : Nat, Snd P im F (lp (fun _ => none) step i) := by
  intro i
  induction i with
  | zero => intro as r hr; cases hr
  | succ i ih =>
    have h2 := Lib.snd hm (L.iso dyn hF _ ih) hF.fun' hF.body φ na mode an rfl
    have h3 := congrFun h (lp (fun _ => none) step i)
    show Snd P im F (step (lp (fun _ => none) step i))
    rw [← h3]
    exact h2
theorem Lib.memOk (L : Lib P im n) (en : Ent) (G : Fun) (φ na : Nat) {M2 : List D → LS → (D → LS → Rs) → Rs} (h : denF φ L.T L.TD na G = M2) : zir (L.Δ.set n en) G M2 := by
  rw [← h]
  have hl := LeT.set (L.bd n (Nat.le_refl _)) en
  exact zgj (L.tok.le hl) (L.dok.le hl)
theorem Lib.memRec (L : Lib P im n) (dyn : Bool) (an : List (Option (List Nat))) (fn : Func) (φ na : Nat) {step : (List D → LS → (D → LS → Rs) → Rs) → List D → LS → (D → LS → Rs) → Rs}
    (h : (fun ih => denF φ (setT L.T n (.mem ih)) (cnd dyn (setT L.TD n (.mem ih)) L.TD) na (cutF P im 2 an fn)) = step) : ∀ i : Nat, zir (L.Δ.set n (.body (cutF P im 2 an fn))) (cutF P im 2 an fn) (lp (fun _ _ _ => none) step i) := by
  intro i
  have hl := LeT.set (L.bd n (Nat.le_refl _)) (.body (cutF P im 2 an fn))
  induction i with
  | zero => intro as s σ k r hs hr; cases hr
  | succ i ih =>
    have hft : FTOk (L.Δ.set n (.body (cutF P im 2 an fn))) n (.mem (lp (fun _ _ _ => none) step i)) := ⟨_, by rw [Tr.get_set, if_pos rfl], rfl, ih⟩
    have h3 := congrFun h (lp (fun _ _ _ => none) step i)
    show zir _ _ (step (lp (fun _ _ _ => none) step i))
    rw [← h3]
    refine zgj ((L.tok.le hl).set hft) ?_
    cases dyn
    · exact L.dok.le hl
    · exact (L.dok.le hl).set hft
def LibP (P : Program) (im : Nat → Option Nat) (n : Nat) (T TD : FTab) : Prop := ∃ L : Lib P im n, L.T = T ∧ L.TD = TD
variable {T TD : FTab}
theorem LibP.nil : LibP P im 0 (fun _ => none) (fun _ => none) := ⟨Lib.nil, rfl, rfl⟩
theorem LibP.iso (h : LibP P im n T TD) (dyn : Bool) {F : FuncId} {fn : Func} (hF : FnOk P im n F fn) {M : List D → Option D} (hM : Snd P im F M) :
    LibP P im (n + 1) (setT T n (.iso M)) (cnd dyn (setT TD n (.iso M)) TD) := by
  obtain ⟨L, rfl, rfl⟩ := h
  exact ⟨L.iso dyn hF M hM, rfl, rfl⟩
theorem LibP.snd (h : LibP P im n T TD) (hm : P.follows .mixedOrders = true) {F : FuncId} {fn : Func} (hF : FnOk P im n F fn) {φ na mode : Nat} {an : List (Option (List Nat))} {M : List D → Option D}
    (he : denI φ T TD na (cutF P im mode an fn) = M) : Snd P im F M := by
  obtain ⟨L, rfl, rfl⟩ := h
  exact Lib.snd hm L hF.fun' hF.body φ na mode an he
theorem LibP.sndRec (h : LibP P im n T TD) (hm : P.follows .mixedOrders = true) (dyn : Bool) {F : FuncId} {fn : Func} (hF : FnOk P im n F fn) {φ na mode : Nat} {an : List (Option (List Nat))} {step : (List D → Option D) → List D → Option D}
    (he : (fun ih => denI φ (setT T n (.iso ih)) (cnd dyn (setT TD n (.iso ih)) TD) na (cutF P im mode an fn)) = step) (i : Nat) : Snd P im F (lp (fun _ => none) step i) := by
  obtain ⟨L, rfl, rfl⟩ := h
  exact Lib.sndRec hm L dyn hF φ na mode an he i
theorem LibP.mem (h : LibP P im n T TD) (dyn : Bool) {F : FuncId} {fn : Func} (hF : FnOk P im n F fn) {φ na : Nat} {an : List (Option (List Nat))} {M2 : List D → LS → (D → LS → Rs) → Rs}
    (he : denF φ T TD na (cutF P im 2 an fn) = M2) : LibP P im (n + 1) (setT T n (.mem M2)) (cnd dyn (setT TD n (.mem M2)) TD) := by
  obtain ⟨L, rfl, rfl⟩ := h
  exact ⟨L.mem dyn hF an M2 (L.memOk _ _ φ na he), rfl, rfl⟩
theorem LibP.memRec (h : LibP P im n T TD) (dyn : Bool) {F : FuncId} {fn : Func} (hF : FnOk P im n F fn) {φ na : Nat} {an : List (Option (List Nat))} {step : (List D → LS → (D → LS → Rs) → Rs) → List D → LS → (D → LS → Rs) → Rs}
    (he : (fun ih => denF φ (setT T n (.mem ih)) (cnd dyn (setT TD n (.mem ih)) TD) na (cutF P im 2 an fn)) = step) (i : Nat) :
    LibP P im (n + 1) (setT T n (.mem (lp (fun _ _ _ => none) step i))) (cnd dyn (setT TD n (.mem (lp (fun _ _ _ => none) step i))) TD) := by
  obtain ⟨L, rfl, rfl⟩ := h
  exact ⟨L.mem dyn hF an _ (L.memRec dyn an fn φ na he i), rfl, rfl⟩
theorem zpw {l : List Nat} {F : FuncId} {fn : Func} (h1 : P.funcs[F]? = some fn) (h2 : (fn.name == "runtime.NumGoroutine") = false) (h3 : fn.body.isSome = true) (h4 : l[n]? = some F) : FnOk P (fun F => imA F l 0) n F fn :=
  ⟨h1, h2, h3, fun F' h => by
    have := (zkD h).2
    rw [Nat.sub_zero, h4] at this
    exact (Option.some.inj this).symm⟩
end
end
end Go.Proofs.Ev
namespace Go.Proofs.Ev
noncomputable section
end
end Go.Proofs.Ev
namespace Go.Proofs.Ev
noncomputable section
variable {kk : IntKind} {a b n : Nat} {k : D → Rs} {s : LS} {K : D → LS → Rs}
theorem zmd {no : Rs} (h : n ≤ kmax kk) : mkI kk n k no = k (.i kk (.ofNat n)) := by
  unfold mkI
  rw [Nat.ble_eq_true_of_le h, zx, zC]
theorem zoE {no : Rs} : mkI .u64 n k no = k (.i .u64 (.ofNat (n % 18446744073709551616))) := by
  unfold mkI
  by_cases h : n ≤ kmax .u64
  · rw [Nat.ble_eq_true_of_le h, zx, zC]
    have : n < 18446744073709551616 := Nat.lt_succ_of_le h
    rw [Nat.mod_eq_of_lt this]
  · rw [z8y h, zM]
    rw [show Nat.beq (kmod .u64) 0 = false from rfl, zM, zC]; rfl
theorem zqM {no : Rs} : mkI .u8 n k no = k (.i .u8 (.ofNat (n % 256))) := by
  unfold mkI
  by_cases h : n ≤ kmax .u8
  · rw [Nat.ble_eq_true_of_le h, zx, zC]
    have : n < 256 := Nat.lt_succ_of_le h
    rw [Nat.mod_eq_of_lt this]
  · rw [z8y h, zM]
    rw [show Nat.beq (kmod .u8) 0 = false from rfl, zM, zC]; rfl
theorem zbR {f : IntKind → Nat → Nat → Rs} {no : Rs} : on2 (.i kk (.ofNat a)) (.i kk (.ofNat b)) f no = f kk a b := by
  show cnd (Nat.beq (zbW kk) (zbW kk)) (f kk a b) no = _
  rw [z2R]; rfl
theorem z3T (h : a + b ≤ kmax kk) : kAdd (.i kk (.ofNat a)) (.i kk (.ofNat b)) k = k (.i kk (.ofNat (a + b))) := by
  unfold kAdd; rw [zbR]; exact zmd h
theorem zf6 (h : a * b ≤ kmax kk) : kMul (.i kk (.ofNat a)) (.i kk (.ofNat b)) k = k (.i kk (.ofNat (a * b))) := by
  unfold kMul; rw [zbR]; exact zmd h
theorem z5E (hb : b ≤ a) (h : a ≤ kmax kk) : kSub (.i kk (.ofNat a)) (.i kk (.ofNat b)) k = k (.i kk (.ofNat (a - b))) := by
  unfold kSub; rw [zbR, Nat.ble_eq_true_of_le hb, zx]
  exact zmd (Nat.le_trans (Nat.sub_le _ _) h)
theorem z4Z (h : a ≠ b) : Nat.beq a b = false := by
  cases hq : Nat.beq a b with
  | false => rfl
  | true => exact absurd (Nat.eq_of_beq_eq_true hq) h
theorem zmr (hb : b ≠ 0) (h : a ≤ kmax kk) : kQuo (.i kk (.ofNat a)) (.i kk (.ofNat b)) k = k (.i kk (.ofNat (a / b))) := by
  unfold kQuo; rw [zbR, z4Z hb, zM]
  exact zmd (Nat.le_trans (Nat.div_le_self _ _) h)
theorem zj6 (hb : b ≠ 0) : kRem (.i kk (.ofNat a)) (.i kk (.ofNat b)) k = k (.i kk (.ofNat (a % b))) := by
  unfold kRem; rw [zbR, z4Z hb, zM, zC]; rfl
theorem z3i : kLss (.i kk (.ofNat a)) (.i kk (.ofNat b)) k = k (.b (Nat.blt a b)) := by
  unfold kLss; rw [zbR, zb0]
theorem zbk : kGtr (.i kk (.ofNat a)) (.i kk (.ofNat b)) k = k (.b (Nat.blt b a)) := by
  unfold kGtr; rw [zbR, zb0]
theorem z9P : kEql (.i kk (.ofNat a)) (.i kk (.ofNat b)) k = k (.b (Nat.beq a b)) := by
  unfold kEql; rw [zbR, zb0]
theorem zqN (ha : a ≤ kmax kk) (hb : b ≤ kmax kk) : kOr (.i kk (.ofNat a)) (.i kk (.ofNat b)) k = k (.i kk (.ofNat (a ||| b))) := by
  unfold kOr inK; rw [zbR, Nat.ble_eq_true_of_le ha, Nat.ble_eq_true_of_le hb, zx, zx, zC]; rfl
theorem zmi (h : a ≤ b) : kmin a b = a := by unfold kmin; rw [Nat.ble_eq_true_of_le h]; rfl
theorem zpj {k2 : IntKind} (hb : b ≤ 64) : kShl (.i .u64 (.ofNat a)) (.i k2 (.ofNat b)) k = k (.i .u64 (.ofNat (a * 2 ^ b % 18446744073709551616))) := by
  show mkI .u64 (Nat.mul a (Nat.pow 2 (kmin b 64))) k _ = _
  rw [zmi hb]
  exact zoE
theorem zmq {k2 : IntKind} (hb : b ≤ 64) : kShr (.i .u64 (.ofNat a)) (.i k2 (.ofNat b)) k = k (.i .u64 (.ofNat (a / 2 ^ b))) := by
  show (frc (Nat.div a (Nat.pow 2 (kmin b 64))) fun n => k (.i .u64 (.ofNat n))) = _
  rw [zmi hb, zC]; rfl
theorem znU {k2 : IntKind} (h : n ≤ kmax kk) : z2s kk (.i k2 (.ofNat n)) s K = K (.i kk (.ofNat n)) s := by
  show mkI kk n (fun d => K d s) _ = _
  exact zmd h
theorem znV {k2 : IntKind} : z2s .u8 (.i k2 (.ofNat n)) s K = K (.i .u8 (.ofNat (n % 256))) s := by
  show mkI .u8 n (fun d => K d s) _ = _
  exact zqM
theorem zg5 {m : Nat} : kS (.lens (.c (.n m))) s K = K (.i .i64 (.ofNat (zw m).length)) s := by
  have he : evA s.nx cv s.get (.lens (.c (.n m))) = some (.i .i64 (.ofNat (zw m).length), []) := rfl
  unfold kS sA
  rw [he]
  show frcD _ _ = _
  rw [zdL]
theorem zo3 {m i : Nat} {c : UInt8} {k2 : IntKind} (h : (zw m)[i]? = some c) : kS (.index (.c (.n m)) (.c (.i k2 (.ofNat i)))) s K = K (.i .u8 (.ofNat c.toNat)) s := by
  have he : evA s.nx cv s.get (.index (.c (.n m)) (.c (.i k2 (.ofNat i)))) = some (.i .u8 (.ofNat c.toNat), []) := by
    simp only [evA, cv, str]
    rw [if_pos (by simp)]
    have : (Int.ofNat i).toNat = i := rfl
    rw [this, zgh h]
    rfl
  unfold kS sA
  rw [he]
  show frcD _ _ = _
  rw [zdL]
def st1 (cs : List D) : LS := ⟨.node (some ⟨cs, .rw⟩) .nil .nil, 1⟩
variable {cs : List D} {i len cm : Nat} {ex : Bool} {d : D} {k2 : IntKind}
theorem zap : (st1 cs).get 0 = some ⟨cs, .rw⟩ := rfl
theorem z3w {off : Nat} (h : i < len) : z1 1 (st1 cs) (.sl 0 off len cm 1 ex) (.i k2 (.ofNat i)) K = K (.ptr 0 (off + i)) (st1 cs) := by
  show kGet (st1 cs) 0 (fun b => cnd (lv b.st) (cnd (Nat.blt i len) (cnd (Nat.beq 1 1) (frc (Nat.add off (Nat.mul i 1)) fun o => K (.ptr 0 o) (st1 cs)) none) none) none) = _
  rw [z5F, zap]
  show cnd (Nat.blt i len) (frc (Nat.add off (Nat.mul i 1)) fun o => K (.ptr 0 o) (st1 cs)) none = _
  rw [zy h, zx, zC]
  have : Nat.add off (Nat.mul i 1) = off + i := by show off + i * 1 = off + i; omega
  rw [this]
theorem z7D (h : cs[i]? = some d) : z4 (st1 cs) (.ptr 0 i) K = K d (st1 cs) := by
  show kGet (st1 cs) 0 (fun b => cnd (lv b.st) (nthK i b.cs fun d => K d (st1 cs)) none) = _
  rw [z5F, zap]
  show nthK i cs (fun d => K d (st1 cs)) = _
  rw [zhE, h]; rfl
theorem zks {α : Type} {x : α} {l : List α} (h : i < l.length) : layG i [x] l = some (l.set i x) := by
  unfold layG
  rw [if_pos (by simp; omega), List.set_eq_take_append_cons_drop, if_pos h]
  simp
theorem z92 (h : i < cs.length) : z6 1 (st1 cs) (.ptr 0 i) (.i kk (.ofNat n)) K = K .u (st1 (cs.set i (.i kk (.ofNat n)))) := by
  show kGet (st1 cs) 0 (fun b => cnd (wr b.st) (layK i [.i kk (.ofNat n)] b.cs fun cs' => kPut (st1 cs) 0 ⟨cs', .rw⟩ fun s => K .u s) none) = _
  rw [z5F, zap]
  show (layK i [.i kk (.ofNat n)] cs fun cs' => kPut (st1 cs) 0 ⟨cs', .rw⟩ fun s => K .u s) = _
  rw [zbV, zks h]
  rfl
theorem zfz (z : D) : ∀ n, z9t n [z] = List.replicate n z
  | 0 => rfl
  | n + 1 => by
    show z :: z9t n [z] = _
    rw [zfz z n]; rfl
theorem zep {bytes : Nat} {z : D} (h1 : n ≤ 140737488355328) (h2 : n * bytes ≤ 140737488355328) : z24 1 bytes [z] s0 (.i .i64 (.ofNat n)) (.i .i64 (.ofNat n)) K = K (.sl 0 0 n n 1 true) (st1 (List.replicate n z)) := by
  unfold z24
  rw [zbR]
  show cnd (Nat.ble n n) (cnd (Nat.ble n 140737488355328) (cnd (Nat.ble (Nat.mul n bytes) 140737488355328) (zfB [z] n fun cs => zat s0 ⟨cs, .rw⟩ fun s' => K (.sl 0 0 n n 1 true) s') none) none) none = _
  rw [Nat.ble_eq_true_of_le (Nat.le_refl n), Nat.ble_eq_true_of_le h1, Nat.ble_eq_true_of_le (show Nat.mul n bytes ≤ 140737488355328 from h2)]
  simp only [zx]
  rw [zab, zfz, z3B]
  rfl
theorem znI {cs : List D} {len : Nat} (hc : cs.all z8U = true) (hl : cs.length = len) : retK true (st1 cs) (.sl 0 0 len len 1 true) some = some (.own cs len 1) := by
  unfold retK
  rw [zjT]
  show frcO (extr true (st1 cs).get z2N (.sl 0 0 len len 1 true)) some = _
  have : extr true (st1 cs).get z2N (.sl 0 0 len len 1 true) = some (.own cs len 1) := by
    have hcut : cut 0 (len * 1) cs = some cs := by
      unfold cut
      rw [List.drop_zero, Nat.mul_one, ← hl, List.take_length]
      simp
    have hm : mapO (res (st1 cs).get z2N) cs = some (cs, []) := z90 (k := 59) cs hc
    simp only [extr, zi4, zap, Stt.wr, if_true, hcut, hm]
    rfl
  rw [this, z45]; rfl
end
end Go.Proofs.Ev
namespace Go.Proofs.Ev
abbrev B64 : Nat := 18446744073709551616
def val : List Nat → Nat
  | [] => 0
  | w :: ws => w + B64 * val ws
def dg : Nat → Nat → List Nat
  | 0, _ => []
  | n + 1, m => m % B64 :: dg n (m / B64)
def z4O (ws : List Nat) : Prop := ∀ w, w ∈ ws → w < B64
theorem zoQ : ∀ {ws : List Nat}, z4O ws → dg ws.length (val ws) = ws
  | [], _ => rfl
  | w :: ws, h => by
    have h1 : w < B64 := h w (by simp)
    show (w + B64 * val ws) % B64 :: dg ws.length ((w + B64 * val ws) / B64) = w :: ws
    have e1 : (w + B64 * val ws) % B64 = w := by rw [Nat.add_mul_mod_self_left, Nat.mod_eq_of_lt h1]
    have e2 : (w + B64 * val ws) / B64 = val ws := by
      rw [Nat.add_mul_div_left _ _ (by decide), Nat.div_eq_of_lt h1, Nat.zero_add]
    rw [e1, e2, zoQ (fun x hx => h x (by simp [hx]))]
theorem zfD : ∀ {ws : List Nat}, z4O ws → val ws < B64 ^ ws.length
  | [], _ => by simp [val]
  | w :: ws, h => by
    have h1 : w < B64 := h w (by simp)
    have h2 := zfD (ws := ws) (fun x hx => h x (by simp [hx]))
    show w + B64 * val ws < B64 ^ (ws.length + 1)
    rw [Nat.pow_succ, Nat.mul_comm (B64 ^ ws.length)]
    have h3 : B64 * (val ws + 1) ≤ B64 * B64 ^ ws.length := Nat.mul_le_mul_left _ h2
    rw [Nat.mul_add, Nat.mul_one] at h3
    omega
theorem zeG : ∀ {ws : List Nat} {j w : Nat}, z4O ws → ws[j]? = some w → w = val ws / B64 ^ j % B64
  | [], j, w, _, h => by simp at h
  | x :: ws, 0, w, hs, h => by
    simp only [List.getElem?_cons_zero, Option.some.injEq] at h
    subst h
    have h1 : x < B64 := hs x (by simp)
    rw [Nat.pow_zero, Nat.div_one]
    show x = (x + B64 * val ws) % B64
    rw [Nat.add_mul_mod_self_left, Nat.mod_eq_of_lt h1]
  | x :: ws, j + 1, w, hs, h => by
    simp only [List.getElem?_cons_succ] at h
    have h1 : x < B64 := hs x (by simp)
    have ih := zeG (fun y hy => hs y (by simp [hy])) h
    have e2 : (x + B64 * val ws) / B64 = val ws := by
      rw [Nat.add_mul_div_left _ _ (by decide), Nat.div_eq_of_lt h1, Nat.zero_add]
    show w = (x + B64 * val ws) / B64 ^ (j + 1) % B64
    rw [Nat.pow_succ, Nat.mul_comm (B64 ^ j), ← Nat.div_div_eq_div_mul, e2]
    exact ih
theorem zlB : ∀ {ws : List Nat} {j w : Nat} (y : Nat), ws[j]? = some w → val (ws.set j (w + y)) = val ws + y * B64 ^ j
  | [], j, w, y, h => by simp at h
  | x :: ws, 0, w, y, h => by
    simp only [List.getElem?_cons_zero, Option.some.injEq] at h
    subst h
    show x + y + B64 * val ws = x + B64 * val ws + y * B64 ^ 0
    rw [Nat.pow_zero]; omega
  | x :: ws, j + 1, w, y, h => by
    simp only [List.getElem?_cons_succ] at h
    have ih := zlB y h
    show x + B64 * val (ws.set j (w + y)) = x + B64 * val ws + y * B64 ^ (j + 1)
    rw [ih, Nat.pow_succ, Nat.mul_add]
    have : B64 * (y * B64 ^ j) = y * (B64 ^ j * B64) := by rw [← Nat.mul_assoc, Nat.mul_comm B64 y, Nat.mul_assoc, Nat.mul_comm B64 (B64 ^ j)]
    omega
theorem ziE (j : Nat) : B64 ^ j = 2 ^ (64 * j) := by rw [Nat.pow_mul]
theorem p256 (j : Nat) : 256 ^ j = 2 ^ (8 * j) := by rw [Nat.pow_mul]
theorem zp8 {ws : List Nat} {A b k w : Nat} (hs : z4O ws) (hw : ws[k / 8]? = some w) (hb : b < 256) (hv : val ws = A * 256 ^ (k + 1)) :
    w ||| b * 2 ^ (8 * (k % 8)) = w + b * 2 ^ (8 * (k % 8)) ∧ w + b * 2 ^ (8 * (k % 8)) < B64 ∧ val (ws.set (k / 8) (w + b * 2 ^ (8 * (k % 8)))) = (A * 256 + b) * 256 ^ k := by
  have hwv := zeG hs hw
  have hk : 8 * (k + 1) = (8 * (k % 8) + 8) + 64 * (k / 8) := by omega
  have hle : 8 * (k % 8) + 8 ≤ 64 := by omega
  have e1 : val ws / B64 ^ (k / 8) = A * 2 ^ (8 * (k % 8) + 8) := by
    rw [hv, p256, ziE, hk, Nat.pow_add, ← Nat.mul_assoc, Nat.mul_div_cancel _ (Nat.pow_pos (by decide))]
  have e2 : B64 = 2 ^ (8 * (k % 8) + 8) * 2 ^ (64 - (8 * (k % 8) + 8)) := by
    rw [← Nat.pow_add, show 8 * (k % 8) + 8 + (64 - (8 * (k % 8) + 8)) = 64 by omega]
  have e3 : w = 2 ^ (8 * (k % 8) + 8) * (A % 2 ^ (64 - (8 * (k % 8) + 8))) := by
    rw [hwv, e1, e2, Nat.mul_comm A, Nat.mul_mod_mul_left]
  have hy : b * 2 ^ (8 * (k % 8)) < 2 ^ (8 * (k % 8) + 8) := by
    rw [Nat.pow_add, Nat.mul_comm (2 ^ (8 * (k % 8)))]
    exact Nat.mul_lt_mul_of_pos_right hb (Nat.pow_pos (by decide))
  have hq : A % 2 ^ (64 - (8 * (k % 8) + 8)) < 2 ^ (64 - (8 * (k % 8) + 8)) := Nat.mod_lt _ (Nat.pow_pos (by decide))
  refine ⟨?_, ?_, ?_⟩
  · rw [e3]
    exact (Nat.two_pow_add_eq_or_of_lt hy _).symm
  · have h3 : 2 ^ (8 * (k % 8) + 8) * (A % 2 ^ (64 - (8 * (k % 8) + 8)) + 1) ≤ 2 ^ (8 * (k % 8) + 8) * 2 ^ (64 - (8 * (k % 8) + 8)) := Nat.mul_le_mul_left _ hq
    rw [← e2, Nat.mul_add, Nat.mul_one, ← e3] at h3
    omega
  · rw [zlB _ hw, hv, ziE, Nat.mul_assoc b, ← Nat.pow_add, show 8 * (k % 8) + 64 * (k / 8) = 8 * k by omega, ← p256, Nat.pow_succ, Nat.add_mul, Nat.mul_comm (256 ^ k) 256, Nat.mul_assoc]
theorem z37 : ∀ (l : List UInt8) (acc : Nat), ze l acc = acc * 256 ^ l.length + ze l 0
  | [], acc => by simp [ze]
  | c :: l, acc => by
    show ze l (acc * 256 + c.toNat) = acc * 256 ^ (l.length + 1) + ze l (0 * 256 + c.toNat)
    rw [z37 l (acc * 256 + c.toNat), z37 l (0 * 256 + c.toNat), Nat.pow_succ, Nat.add_mul, Nat.zero_mul, Nat.zero_add, Nat.mul_assoc, Nat.mul_comm 256]
    omega
theorem zbS : ∀ (k m : Nat) (acc : List UInt8), m ≤ k → ze (z3z k m acc) 0 = ze acc m
  | 0, m, acc, h => by
    have : m = 0 := by omega
    subst this; rfl
  | k + 1, m, acc, h => by
    show ze (cond (Nat.beq m 0) acc (z3z k (m / 256) (UInt8.ofNat (m % 256) :: acc))) 0 = _
    by_cases hm : m = 0
    · subst hm; rfl
    · rw [z4Z hm, cond_false, zbS k (m / 256) _ (by omega)]
      show ze acc (m / 256 * 256 + (UInt8.ofNat (m % 256)).toNat) = _
      have : (UInt8.ofNat (m % 256)).toNat = m % 256 := by simp
      rw [this]
      congr 1
      omega
theorem z4J (m : Nat) : ze (zw m) 0 = m := by
  unfold zw
  rw [zbS _ _ _ (Nat.le_refl _)]; rfl
theorem zdb : ∀ (k m : Nat) (acc : List UInt8), 0 < m → m ≤ k → ∃ c r, z3z k m acc = c :: r ∧ c.toNat ≠ 0
  | 0, m, acc, h0, h => by omega
  | k + 1, m, acc, h0, h => by
    show ∃ c r, cond (Nat.beq m 0) acc (z3z k (m / 256) (UInt8.ofNat (m % 256) :: acc)) = c :: r ∧ c.toNat ≠ 0
    rw [z4Z (show m ≠ 0 by omega), cond_false]
    by_cases hq : m / 256 = 0
    · rw [hq]
      refine ⟨UInt8.ofNat (m % 256), acc, ?_, ?_⟩
      · cases k <;> rfl
      · have : (UInt8.ofNat (m % 256)).toNat = m % 256 := by simp
        rw [this]; omega
    · exact zdb k (m / 256) _ (by omega) (by omega)
theorem zhI {m : Nat} (h : 0 < m) : ∃ c r, zw m = c :: r ∧ c.toNat ≠ 0 := zdb m m [] h (Nat.le_refl _)
theorem zas {m : Nat} (h : 0 < m) : 256 ^ ((zw m).length - 1) ≤ m ∧ 0 < (zw m).length := by
  obtain ⟨c, r, h1, h2⟩ := zhI h
  have h3 := z4J m
  rw [h1] at h3 ⊢
  have h4 : ze r (0 * 256 + c.toNat) = m := h3
  rw [z37, Nat.zero_mul, Nat.zero_add] at h4
  refine ⟨?_, by simp⟩
  simp only [List.length_cons, Nat.add_sub_cancel]
  have : 1 * 256 ^ r.length ≤ c.toNat * 256 ^ r.length := Nat.mul_le_mul_right _ (by omega)
  omega
theorem zhH : zw 0 = [] := rfl
end Go.Proofs.Ev
