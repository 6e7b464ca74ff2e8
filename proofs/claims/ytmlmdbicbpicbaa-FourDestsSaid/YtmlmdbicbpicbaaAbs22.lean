/- Summaries: of loops, of functions; with what must hold for them. -/
import Derived.Test.YtmlmdbicbpicbaaAbs21
set_option autoImplicit false
set_option linter.unusedVariables false
set_option linter.unusedSimpArgs false
namespace Go.Abs
variable {P : Program}

/-! ### Loops -/

def spread : List Bool → List AV → Env
  | [], _ => []
  | true :: m, v :: vs => v :: spread m vs
  | true :: m, [] => .any :: spread m []
  | false :: m, vs => .any :: spread m vs

def pickS : List Bool → Env → List AV
  | true :: m, v :: e => v :: pickS m e
  | false :: m, _ :: e => pickS m e
  | _, _ => []

theorem keep_spread : ∀ {m : List Bool} {env : Env}, env.length = m.length → keepSlots m env = spread m (pickS m env)
  | [], [], _ => rfl
  | [], _ :: _, h => by simp at h
  | _ :: _, [], h => by simp at h
  | true :: m, v :: e, h => by simp only [keepSlots, pickS, spread, if_true]; rw [keep_spread (by simpa using h)]
  | false :: m, v :: e, h => by simp only [keepSlots, pickS, spread, if_false, Bool.false_eq_true]; rw [keep_spread (by simpa using h)]

abbrev GLoop := List AV → AHeap → Option (Bool × AEx × List AV × AHeap)

def gRun (m : List Bool) (g : GLoop) {R : Type} (env : Env) (h : AHeap) (K : AEx → Env → AHeap → Option R) : Option R :=
  if env.length = m.length then
    match g (pickS m env) h with
    | some (b, e, vs, h') => if b = true then K e (spread m vs) h' else none
    | none => none
  else none

/-- A loop told by what it does to some slots. -/
def loopF (m : List Bool) (g : GLoop) : LoopF where
  run := gRun m g
  nat := fun env h K => by
    unfold gRun
    split
    · split
      · split <;> simp
      · rfl
    · rfl

/-- One round. -/
def roundG (P : Program) (CALL : CallT) (LS : LoopT) (c : Code) (m : List Bool) (vs : List AV) (h : AHeap) : Option (AEx × List AV × AHeap) :=
  acode P CALL LS c (spread m vs) h fun e env' h' => if env'.length = m.length then some (e, pickS m env', h') else none

def loopG (body : List AV → AHeap → Option (AEx × List AV × AHeap)) : Nat → List AV → AHeap → Option (AEx × List AV × AHeap)
  | 0, _, _ => none
  | j + 1, vs, h => (body vs h).bind fun x =>
    match x.1 with
    | .norm => loopG body j x.2.1 x.2.2
    | _ => some x

theorem loopG_loopN {CALL : CallT} {LS : LoopT} {c : Code} {m : List Bool} : ∀ (j : Nat) {vs : List AV} {h : AHeap} {e : AEx} {vs' : List AV} {h' : AHeap} {env : Env}, loopG (roundG P CALL LS c m) j vs h = some (e, vs', h') → env.length = m.length → pickS m env = vs →
    loopN (aloop P CALL LS c) m j env h = some (e, spread m vs', h')
  | 0, vs, h, e, vs', h', env, hg, hl, hp => by simp [loopG] at hg
  | j + 1, vs, h, e, vs', h', env, hg, hl, hp => by
    simp only [loopG, Option.bind_eq_some_iff] at hg
    obtain ⟨⟨e1, vs1, h1⟩, hb, hk⟩ := hg
    unfold roundG at hb
    obtain ⟨e2, env2, h2, hk2, hall⟩ := acode_cps hb
    split at hk2
    · rename_i hl2
      simp only [Option.some.injEq, Prod.mk.injEq] at hk2
      obtain ⟨rfl, rfl, rfl⟩ := hk2
      have e1 : aloop P CALL LS c (keepSlots m env) h = some (e2, env2, h2) := by
        unfold aloop
        rw [keep_spread hl, hp, hall]
      unfold loopN
      rw [e1]
      simp only [Option.bind_some]
      cases e2 with
      | norm => exact loopG_loopN j hk hl2 rfl
      | exit i =>
        simp only [Option.some.injEq, Prod.mk.injEq] at hk
        obtain ⟨rfl, rfl, rfl⟩ := hk
        simp [keep_spread hl2]
      | ret =>
        simp only [Option.some.injEq, Prod.mk.injEq] at hk
        obtain ⟨rfl, rfl, rfl⟩ := hk
        simp [keep_spread hl2]
    · simp at hk2

theorem loopF_sound {CALL : CallT} (SC : SoundC P CALL) {LS : LoopT} {c : Code} (hL : LoopsOk P LS c) {m : List Bool} {g : GLoop}
    (hg : ∀ vs h e vs' h', g vs h = some (true, e, vs', h') → ∃ j, loopG (roundG P CALL LS c m) j vs h = some (e, vs', h')) : SoundS P (loopF m g) c := by
  refine loopN_sound SC hL fun env h x hx => ?_
  change gRun m g env h (fun e env h => some (e, env, h)) = some x at hx
  unfold gRun at hx
  split at hx
  · rename_i hl
    split at hx
    · rename_i b e vs' h' hgx
      split at hx
      · rename_i hb
        subst hb
        simp only [Option.some.injEq] at hx
        subst hx
        obtain ⟨j, hj⟩ := hg _ _ _ _ _ hgx
        exact ⟨m, j, loopG_loopN j hj hl rfl⟩
      · simp at hx
    · simp at hx
  · simp at hx

/-- A loop run so many rounds at the most, whatever it does. -/
def fuelRun (P : Program) (CALL : CallT) (LS : LoopT) (c : Code) : Nat → {R : Type} → Env → AHeap → (AEx → Env → AHeap → Option R) → Option R
  | 0, _, _, _, _ => none
  | j + 1, _, env, h, K => acode P CALL LS c env h fun e env' h' =>
    match e with
    | .norm => fuelRun P CALL LS c j env' h' K
    | .exit i => K (.exit i) env' h'
    | .ret => K .ret env' h'

theorem fuelRun_cps {CALL : CallT} {LS : LoopT} {c : Code} : ∀ (j : Nat) {R : Type} {env : Env} {h : AHeap} {K : AEx → Env → AHeap → Option R} {r : R}, fuelRun P CALL LS c j env h K = some r →
    ∃ e env' h', K e env' h' = some r ∧ loopN (aloop P CALL LS c) [] j env h = some (e, env', h') ∧ ∀ {R' : Type} (K' : AEx → Env → AHeap → Option R'), fuelRun P CALL LS c j env h K' = K' e env' h'
  | 0, R, env, h, K, r, hr => by simp [fuelRun] at hr
  | j + 1, R, env, h, K, r, hr => by
    unfold fuelRun at hr
    obtain ⟨e, env', h', hk, hall⟩ := acode_cps hr
    have hkeep : ∀ env : Env, keepSlots [] env = env := fun env => by cases env <;> rfl
    have e1 : aloop P CALL LS c (keepSlots [] env) h = some (e, env', h') := by rw [hkeep]; unfold aloop; rw [hall]
    cases e with
    | norm =>
      obtain ⟨e2, env2, h2, h3, h4, h5⟩ := fuelRun_cps j hk
      refine ⟨e2, env2, h2, h3, ?_, fun K' => by unfold fuelRun; rw [hall]; exact h5 K'⟩
      unfold loopN; rw [e1]; exact h4
    | exit i =>
      refine ⟨_, _, _, hk, ?_, fun K' => by unfold fuelRun; rw [hall]⟩
      unfold loopN; rw [e1]; simp [hkeep]
    | ret =>
      refine ⟨_, _, _, hk, ?_, fun K' => by unfold fuelRun; rw [hall]⟩
      unfold loopN; rw [e1]; simp [hkeep]

def fuelL (P : Program) (CALL : CallT) (LS : LoopT) (c : Code) (j : Nat) : LoopF where
  run := fuelRun P CALL LS c j
  nat := fun env h K => by
    have := nat_of_cps (α := AEx × Env × AHeap) (fun {R} K => fuelRun P CALL LS c j env h fun e env h => K (e, env, h)) (fun K r hr => by
      obtain ⟨e, env', h', h1, _, h2⟩ := fuelRun_cps j hr
      exact ⟨(e, env', h'), h1, fun K' => h2 _⟩) (fun x => K x.1 x.2.1 x.2.2)
    exact this

theorem fuelL_sound {CALL : CallT} (SC : SoundC P CALL) {LS : LoopT} {c : Code} (hL : LoopsOk P LS c) (j : Nat) : SoundS P (fuelL P CALL LS c j) c :=
  loopN_sound SC hL fun env h x hx => by
    obtain ⟨e, env', h', hk, hl, _⟩ := fuelRun_cps j (show fuelRun P CALL LS c j env h (fun e env h => some (e, env, h)) = some x from hx)
    simp only [Option.some.injEq] at hk
    subst hk
    exact ⟨[], j, hl⟩

/-! ### Functions -/

abbrev GEnt := List AV → AHeap → Option (Bool × AV × AHeap)

def eRun (g : GEnt) {R : Type} (args : List AV) (h : AHeap) (K : AV → AHeap → Option R) : Option R :=
  match g args h with
  | some (b, v, h') => if b = true then K v h' else none
  | none => none

def entF (g : GEnt) : Ent where
  run := eRun g
  nat := fun args h K => by
    unfold eRun
    split
    · split <;> simp
    · rfl

theorem entF_get {g : GEnt} {args : List AV} {h : AHeap} {v : AV} {h' : AHeap} (hx : (entF g).get args h = some (v, h')) : g args h = some (true, v, h') := by
  change eRun g args h (fun v h => some (v, h)) = some (v, h') at hx
  unfold eRun at hx
  split at hx
  · rename_i b v1 h1 hg
    split at hx
    · rename_i hb; subst hb
      simp only [Option.some.injEq, Prod.mk.injEq] at hx
      obtain ⟨rfl, rfl⟩ := hx
      exact hg
    · simp at hx
  · simp at hx

theorem entF_sound {f : FuncId} {E : Ent} (hE : SoundE P f E) {g : GEnt} (hg : ∀ args h v h', g args h = some (true, v, h') → E.get args h = some (v, h')) : SoundE P f (entF g) :=
  hE.mono fun args h x hx => by obtain ⟨v, h'⟩ := x; exact hg _ _ _ _ (entF_get hx)

theorem canonF_sound {f : FuncId} {g : GEnt}
    (hg : ∀ args h v h', g args h = some (true, v, h') → ∃ E, SoundE P f E ∧ ∃ args1 h1, Canons h 0 args args1 h1 ∧ ∃ v1 h1', E.get args1 h1 = some (v1, h1') ∧ ∃ ks new, h' = h ++ new ∧ Den h1' h1.length h.length ks v1 v new ∧ KsOk ks) : SoundE P f (entF g) :=
  canon_sound fun args h v h' hx => hg _ _ _ _ (entF_get hx)

end Go.Abs
