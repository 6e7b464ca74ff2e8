/- Loops, so many rounds; tables of what calls do; a call told of less memory than there is. -/
import Derived.Test.YtmlmdbicbpicbaaAbs18
set_option autoImplicit false
set_option linter.unusedVariables false
set_option linter.unusedSimpArgs false
namespace Go.Abs
variable {P : Program} {W0 : World} {σ : Sig} {h : AHeap} {w : World}

/-! ### Loops -/

theorem keep_vr : ∀ {keep : List Bool} {env : Env} {m : List Value}, VRs σ env m → VRs σ (keepSlots keep env) m
  | [], env, m, h => by cases env <;> simpa [keepSlots] using h
  | b :: bs, [], m, h => by cases h; exact .nil
  | b :: bs, v :: env, _, .cons _ v' _ m h t => by
    simp only [keepSlots]
    refine .cons _ _ _ _ ?_ (keep_vr t)
    cases b
    · exact .any _
    · exact h

theorem At.keep {B : Nat} {env : Env} {a : Act} (A : At W0 B σ h env a w) (keep : List Bool) : At W0 B σ h (keepSlots keep env) a w := ⟨A.rel, keep_vr A.env, A.marks⟩

/-- What a loop's body does, as a function. -/
def aloop (P : Program) (CALL : CallT) (LS : LoopT) (c : Code) (env : Env) (h : AHeap) : Option (AEx × Env × AHeap) := acode P CALL LS c env h fun e env h => some (e, env, h)

theorem least {p : Nat → Prop} (h : ∃ n, p n) : ∃ n, p n ∧ ∀ k, p k → n ≤ k := by
  obtain ⟨n, hn⟩ := h
  induction n using Nat.strongRecOn with
  | _ n ih =>
    by_cases hex : ∃ k, k < n ∧ p k
    · obtain ⟨k, hk, hp⟩ := hex; exact ih k hk hp
    · exact ⟨n, hn, fun k hk => Nat.le_of_not_lt fun hlt => hex ⟨k, hlt, hk⟩⟩

theorem loopN_sound {CALL : CallT} (SC : SoundC P CALL) {LS : LoopT} {c : Code} (hL : LoopsOk P LS c) {s : LoopF}
    (hs : ∀ env h x, s.get env h = some x → ∃ keep j, loopN (aloop P CALL LS c) keep j env h = some x) : SoundS P s c := by
  intro W0 B σ h env a w e env' h' hx A n Q hQ
  obtain ⟨keep, j, hj⟩ := hs env h _ hx
  let J : Nat → Act → World → Prop := fun j a1 w1 => ∃ σ1 h1 env1, loopN (aloop P CALL LS c) keep j env1 h1 = some (e, env', h') ∧ At W0 B σ1 h1 env1 a1 w1 ∧ Stp σ h w σ1 h1 w1
  let I : Act → World → Prop := fun a1 w1 => ∃ j, J j a1 w1
  classical
  let μ : Act → World → Nat := fun a1 w1 => if hI : I a1 w1 then Classical.choose (least hI) else 0
  refine wpIn_loop I μ ⟨j, σ, h, env, hj, A, Stp.refl _ _ _⟩ fun a1 w1 hI => ?_
  have hmin := (Classical.choose_spec (least hI)).1
  have hμ : μ a1 w1 = Classical.choose (least hI) := by simp only [μ, dif_pos hI]
  generalize Classical.choose (least hI) = j1 at hmin hμ
  obtain ⟨σ1, h1, env1, hl, A1, s1⟩ := hmin
  cases j1 with
  | zero => simp [loopN] at hl
  | succ j1 =>
    simp only [loopN, Option.bind_eq_some_iff] at hl
    obtain ⟨⟨e2, env2, h2⟩, hb, hk⟩ := hl
    refine sim_code (ro := none) SC c (.inl rfl) hL hb (A1.keep keep) fun e3 env3 h3 σ3 a3 w3 hk3 s3 A3 => ?_
    simp only [Option.some.injEq, Prod.mk.injEq] at hk3
    obtain ⟨rfl, rfl, rfl⟩ := hk3
    cases e3 with
    | norm =>
      simp only at hk
      have hJ : J j1 a3 w3 := ⟨σ3, h3, env3, hk, A3, s1.trans s3⟩
      have hI3 : I a3 w3 := ⟨j1, hJ⟩
      refine ⟨hI3, ?_⟩
      rw [hμ]
      have : μ a3 w3 = Classical.choose (least hI3) := by simp only [μ, dif_pos hI3]
      rw [this]
      exact Nat.lt_succ_of_le ((Classical.choose_spec (least hI3)).2 _ hJ)
    | exit i =>
      simp only [Option.some.injEq, Prod.mk.injEq] at hk
      obtain ⟨rfl, rfl, rfl⟩ := hk
      exact hQ _ _ _ (s1.trans s3) (A3.keep keep)
    | ret =>
      simp only [Option.some.injEq, Prod.mk.injEq] at hk
      obtain ⟨rfl, rfl, rfl⟩ := hk
      exact hQ _ _ _ (s1.trans s3) (A3.keep keep)

/-! ### Tables -/

/-- What an entry says of a function holds of the machine. -/
def SoundE (P : Program) (f : FuncId) (E : Ent) : Prop :=
  ∀ {W0 : World} {σ : Sig} {h : AHeap} {w : World} {args : List AV} {args' : Array Value} {v : AV} {h' : AHeap}, E.get args h = some (v, h') → Rel W0 σ h w → VRs σ args args'.toList →
    (∃ fd, P.funcs[f]? = some fd ∧ fd.name ≠ "runtime.NumGoroutine" ∧ fd.body.isSome = true) ∧ ∀ n, CallsIn Fence.wide n P f args' w (RetR W0 σ h w v h')

theorem SoundE.mono {f : FuncId} {E E' : Ent} (hE : SoundE P f E) (h : ∀ args h x, E'.get args h = some x → E.get args h = some x) : SoundE P f E' :=
  fun hx R hv => hE (h _ _ _ hx) R hv

theorem body_sound {CALL : CallT} (SC : SoundC P CALL) {LS : LoopT} {f : FuncId} (hL : ∀ fd c, P.funcs[f]? = some fd → fd.body = some c → LoopsOk P LS c) : SoundE P f (bodyE P CALL LS f) :=
  fun hx R hv => sim_body SC hL hx R hv

theorem noLoops {LS : LoopT} {c : Code} (h : loopsOf c = []) : LoopsOk P LS c := fun b hb => by rw [h] at hb; cases hb

abbrev Tbl := List (Nat × Ent)

def Tbl.find : Tbl → Nat → Option Ent
  | [], _ => none
  | (g, E) :: t, f => if g = f then some E else Tbl.find t f

/-- Calls by a table; the rounds' calls by another one. -/
def callRun (P : Program) (yl : CallT) (t : Tbl) {R : Type} (fn : Fn) (args : List AV) (h : AHeap) (K : AV → AHeap → Option R) : Option R :=
  match fn with
  | .func f => match t.find f with
    | some E => E.run args h K
    | none => none
  | .yield l => around P yl l args h K
  | _ => none

def callOf (P : Program) (yl : CallT) (t : Tbl) : CallT where
  run := callRun P yl t
  nat := fun fn args h K => by
    cases fn with
    | func f =>
      simp only [callRun]
      split
      · rename_i E _; exact E.nat args h K
      · rfl
    | yield l => exact around_nat P yl l args h K
    | _ => rfl

def noCalls : CallT where
  run := fun _ _ _ _ => none
  nat := fun _ _ _ _ => rfl

theorem noCalls_sound : SoundC P noCalls := fun hx => by simp [noCalls, CallT.get] at hx

theorem callOf_sound {yl : CallT} (hy : SoundC P yl) {t : Tbl} (ht : ∀ f E, t.find f = some E → SoundE P f E) : SoundC P (callOf P yl t) := by
  intro W0 σ h w fn args args' v h' hx R hv
  cases fn with
  | func f =>
    simp only [callOf, CallT.get, callRun] at hx
    split at hx
    · rename_i E hE; exact ht f E hE hx R hv
    · simp at hx
  | yield l => exact fun p hp => sim_round hy hx R hv hp
  | _ => simp [callOf, CallT.get, callRun] at hx

theorem find_nil (P : Program) : ∀ f E, Tbl.find [] f = some E → SoundE P f E := fun f E h => by simp [Tbl.find] at h

theorem find_cons {g : Nat} {E0 : Ent} {t : Tbl} (h0 : SoundE P g E0) (ht : ∀ f E, Tbl.find t f = some E → SoundE P f E) : ∀ f E, Tbl.find ((g, E0) :: t) f = some E → SoundE P f E := fun f E h => by
  simp only [Tbl.find] at h
  split at h
  · rename_i hg; subst hg; simp at h; subst h; exact h0
  · exact ht f E h

end Go.Abs
