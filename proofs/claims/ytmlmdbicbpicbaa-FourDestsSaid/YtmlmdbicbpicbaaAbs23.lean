/- By the program's numbers: bodies, loops. -/
import Derived.Test.YtmlmdbicbpicbaaAbs22
set_option autoImplicit false
set_option linter.unusedVariables false
set_option linter.unusedSimpArgs false
namespace Go.Abs
variable {P : Program}

def bodyOf (P : Program) (f : FuncId) : Code := match P.funcs[f]? with | some fn => (match fn.body with | some c => c | none => .skip) | none => .skip

/-- The loops of a piece of code, by number. -/
def loopIn (c : Code) (i : Nat) : Code := (loopsOf c).getD i .skip

def lsOf : List (Nat × LoopF) → LoopT
  | [], _ => none
  | (k, s) :: l, n => if k = n then some s else lsOf l n

theorem loopsOk0 {LS : LoopT} {f : FuncId} (h : loopsOf (bodyOf P f) = []) : ∀ fd c, P.funcs[f]? = some fd → fd.body = some c → LoopsOk P LS c := by
  intro fd c hf hb
  have e : bodyOf P f = c := by simp [bodyOf, hf, hb]
  rw [e] at h
  exact noLoops h

theorem loopsOk1 {LS : LoopT} {f : FuncId} {s : LoopF} (h : loopsOf (bodyOf P f) = [loopIn (bodyOf P f) 0]) (hs : LS (firstReg (loopIn (bodyOf P f) 0)) = some s) (hok : SoundS P s (loopIn (bodyOf P f) 0)) :
    ∀ fd c, P.funcs[f]? = some fd → fd.body = some c → LoopsOk P LS c := by
  intro fd c hf hb
  have e : bodyOf P f = c := by simp [bodyOf, hf, hb]
  rw [e] at h hs hok
  intro b hbm s' hs'
  rw [h] at hbm
  simp only [List.mem_singleton] at hbm
  subst hbm
  rw [hs] at hs'
  cases hs'; exact hok

theorem loopsOk2 {LS : LoopT} {f : FuncId} {s s2 : LoopF} (h : loopsOf (bodyOf P f) = [loopIn (bodyOf P f) 0, loopIn (bodyOf P f) 1]) (hs : LS (firstReg (loopIn (bodyOf P f) 0)) = some s) (hok : SoundS P s (loopIn (bodyOf P f) 0))
    (hs2 : LS (firstReg (loopIn (bodyOf P f) 1)) = some s2) (hok2 : SoundS P s2 (loopIn (bodyOf P f) 1)) : ∀ fd c, P.funcs[f]? = some fd → fd.body = some c → LoopsOk P LS c := by
  intro fd c hf hb
  have e : bodyOf P f = c := by simp [bodyOf, hf, hb]
  rw [e] at h hs hok hs2 hok2
  intro b hbm s' hs'
  rw [h] at hbm
  simp only [List.mem_cons, List.not_mem_nil, or_false] at hbm
  rcases hbm with rfl | rfl
  · rw [hs] at hs'; cases hs'; exact hok
  · rw [hs2] at hs'; cases hs'; exact hok2

theorem bodyE_get {CALL : CallT} {LS : LoopT} {f : FuncId} {args : List AV} {h : AHeap} : (bodyE P CALL LS f).get args h = abody P CALL LS f args h (fun v h => some (v, h)) := rfl

theorem get_of_val {CALL : CallT} {LS : LoopT} {f : FuncId} {args : List AV} {h : AHeap} {v : AV} (hx : abody P CALL LS f args h (fun v _ => some v) = some v) : ∃ h1, (bodyE P CALL LS f).get args h = some (v, h1) := by
  obtain ⟨v1, h1, h2, h3⟩ := abody_cps hx
  simp only [Option.some.injEq] at h2
  subst h2
  exact ⟨h1, by rw [bodyE_get, h3]⟩

def noLS : LoopT := fun _ => none

/-! ### Whatever is not told of is run -/

/-- The loops of a piece of code, each so many rounds at most; those within likewise. -/
def autoLS (P : Program) (C : CallT) (F : Nat) : Nat → Code → LoopT
  | 0, _ => noLS
  | d + 1, c => fun k => if ((loopsOf c).map firstReg).Nodup then ((loopsOf c).find? fun b => firstReg b == k).map fun b => fuelL P C (autoLS P C F d b) b F else none

/-- Those told of; the others run. -/
def mixLS (l : List (Nat × LoopF)) (r : LoopT) : LoopT := fun k => match lsOf l k with
  | some s => some s
  | none => r k

theorem nodup_same : ∀ {l : List Code} {a b : Code}, (l.map firstReg).Nodup → a ∈ l → b ∈ l → firstReg a = firstReg b → a = b
  | [], _, _, _, h, _, _ => by cases h
  | c :: l, a, b, hn, ha, hb, he => by
    simp only [List.map_cons, List.nodup_cons] at hn
    rcases List.mem_cons.1 ha with ha | ha
    · rcases List.mem_cons.1 hb with hb | hb
      · rw [ha, hb]
      · exact absurd (List.mem_map.2 ⟨b, hb, by rw [← he, ha]⟩) hn.1
    · rcases List.mem_cons.1 hb with hb | hb
      · exact absurd (List.mem_map.2 ⟨a, ha, by rw [he, hb]⟩) hn.1
      · exact nodup_same hn.2 ha hb he

theorem autoLS_ok {C : CallT} (SC : SoundC P C) (F : Nat) : ∀ (d : Nat) (c : Code), LoopsOk P (autoLS P C F d c) c
  | 0, c => fun b hb s hs => by simp [autoLS, noLS] at hs
  | d + 1, c => fun b hb s hs => by
    simp only [autoLS] at hs
    split at hs
    · rename_i hn
      simp only [Option.map_eq_some_iff] at hs
      obtain ⟨b', hf, rfl⟩ := hs
      have h1 := List.find?_some hf
      simp only [beq_iff_eq] at h1
      have := nodup_same hn hb (List.mem_of_find?_eq_some hf) h1.symm
      subst this
      exact @fuelL_sound P C SC (autoLS P C F d b) b (autoLS_ok SC F d b) F
    · simp at hs

/-- Calls: by a table; else the body is run. -/
def deepRun (P : Program) (t : Tbl) (C : CallT) (F : Nat) {R : Type} (fn : Fn) (args : List AV) (h : AHeap) (K : AV → AHeap → Option R) : Option R :=
  match fn with
  | .func f => match t.find f with
    | some E => E.run args h K
    | none => abody P C (autoLS P C F 4 (bodyOf P f)) f args h K
  | .yield l => around P C l args h K
  | _ => none

def deepC (P : Program) (t : Tbl) (F : Nat) : Nat → CallT
  | 0 => callOf P noCalls t
  | n + 1 => {
    run := deepRun P t (deepC P t F n) F
    nat := fun fn args h K => by
      cases fn with
      | func f =>
        simp only [deepRun]
        split
        · rename_i E _; exact E.nat args h K
        · exact (bodyE P (deepC P t F n) (autoLS P (deepC P t F n) F 4 (bodyOf P f)) f).nat args h K
      | yield l => exact around_nat P (deepC P t F n) l args h K
      | _ => rfl }

theorem auto_body {C : CallT} (SC : SoundC P C) (F d : Nat) (f : FuncId) : ∀ fd c, P.funcs[f]? = some fd → fd.body = some c → LoopsOk P (autoLS P C F d (bodyOf P f)) c := by
  intro fd c hf hb
  have e : bodyOf P f = c := by simp [bodyOf, hf, hb]
  rw [e]; exact autoLS_ok SC F d c

theorem deepC_sound {t : Tbl} (ht : ∀ f E, t.find f = some E → SoundE P f E) (F : Nat) (n : Nat) : SoundC P (deepC P t F n) := by
  induction n with
  | zero => exact callOf_sound noCalls_sound ht
  | succ n SC =>
    intro W0 σ h w fn args args' v h' hx R hv
    cases fn with
    | func f =>
      simp only [deepC, CallT.get, deepRun] at hx
      split at hx
      · rename_i E hE; exact ht f E hE hx R hv
      · exact body_sound SC (auto_body SC F 4 f) hx R hv
    | yield l => exact fun p hp => sim_round SC hx R hv hp
    | _ => simp [deepC, CallT.get, deepRun] at hx

/-- A function's body: some loops and calls told of, the others run. -/
def runE (P : Program) (t : Tbl) (F n : Nat) (ls : List (Nat × LoopF)) (f : FuncId) : Ent := bodyE P (deepC P t F n) (mixLS ls (autoLS P (deepC P t F n) F 4 (bodyOf P f))) f

theorem runE_get {t : Tbl} {F n : Nat} {ls : List (Nat × LoopF)} {f : FuncId} {args : List AV} {h : AHeap} :
    (runE P t F n ls f).get args h = abody P (deepC P t F n) (mixLS ls (autoLS P (deepC P t F n) F 4 (bodyOf P f))) f args h (fun v h => some (v, h)) := rfl

theorem runE_sound {t : Tbl} (ht : ∀ f E, t.find f = some E → SoundE P f E) (F n : Nat) {ls : List (Nat × LoopF)} {f : FuncId} (hls : ∀ b ∈ loopsOf (bodyOf P f), ∀ s, lsOf ls (firstReg b) = some s → SoundS P s b) : SoundE P f (runE P t F n ls f) := by
  refine body_sound (deepC_sound ht F n) fun fd c hf hb => ?_
  have e : bodyOf P f = c := by simp [bodyOf, hf, hb]
  intro b hbm s hs
  unfold mixLS at hs
  split at hs
  · rename_i s' hs'
    cases hs
    exact hls b (by rw [e]; exact hbm) _ hs'
  · exact auto_body (deepC_sound ht F n) F 4 f fd c hf hb b hbm s hs

/-- No loop is told of. -/
theorem runE_sound0 {t : Tbl} (ht : ∀ f E, t.find f = some E → SoundE P f E) (F n : Nat) {f : FuncId} : SoundE P f (runE P t F n [] f) :=
  runE_sound ht F n fun b _ s hs => by simp [lsOf] at hs

/-- One loop is told of: the i-th. -/
theorem runE_sound1 {t : Tbl} (ht : ∀ f E, t.find f = some E → SoundE P f E) (F n : Nat) {f : FuncId} {k : Nat} {s : LoopF} {c : Code} (hk : ∀ b ∈ loopsOf (bodyOf P f), firstReg b = k → b = c) (hs : SoundS P s c) : SoundE P f (runE P t F n [(k, s)] f) :=
  runE_sound ht F n fun b hb s' hs' => by
    simp only [lsOf] at hs'
    split at hs'
    · rename_i e
      cases hs'
      rw [hk b hb e.symm]; exact hs
    · simp at hs'

end Go.Abs
