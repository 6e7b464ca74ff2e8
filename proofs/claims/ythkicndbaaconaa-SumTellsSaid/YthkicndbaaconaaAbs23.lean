/- By the program's numbers: bodies, loops. -/
import Derived.Test.YthkicndbaaconaaAbs22
set_option autoImplicit false
set_option linter.unusedVariables false
set_option linter.unusedSimpArgs false
namespace Go.Abs
variable {P : Program}

def bodyOf (P : Program) (f : FuncId) : Code := match P.funcs[f]? with | some fn => (match fn.body with | some c => c | none => .skip) | none => .skip

/-- The loops of a piece of code, by number. -/
def loopIn (c : Code) (i : Nat) : Code := (loopsOf c).getD i .skip

def lsOf : List (Nat × LoopF) → LoopT
  | [], _ => none
  | (k, s) :: l, n => if k = n then some s else lsOf l n

theorem loopsOk0 {LS : LoopT} {f : FuncId} (h : loopsOf (bodyOf P f) = []) : ∀ fd c, P.funcs[f]? = some fd → fd.body = some c → LoopsOk P LS c := by
  intro fd c hf hb
  have e : bodyOf P f = c := by simp [bodyOf, hf, hb]
  rw [e] at h
  exact noLoops h

theorem loopsOk1 {LS : LoopT} {f : FuncId} {s : LoopF} (h : loopsOf (bodyOf P f) = [loopIn (bodyOf P f) 0]) (hs : LS (firstReg (loopIn (bodyOf P f) 0)) = some s) (hok : SoundS P s (loopIn (bodyOf P f) 0)) :
    ∀ fd c, P.funcs[f]? = some fd → fd.body = some c → LoopsOk P LS c := by
  intro fd c hf hb
  have e : bodyOf P f = c := by simp [bodyOf, hf, hb]
  rw [e] at h hs hok
  intro b hbm s' hs'
  rw [h] at hbm
  simp only [List.mem_singleton] at hbm
  subst hbm
  rw [hs] at hs'
  cases hs'; exact hok

theorem loopsOk2 {LS : LoopT} {f : FuncId} {s s2 : LoopF} (h : loopsOf (bodyOf P f) = [loopIn (bodyOf P f) 0, loopIn (bodyOf P f) 1]) (hs : LS (firstReg (loopIn (bodyOf P f) 0)) = some s) (hok : SoundS P s (loopIn (bodyOf P f) 0))
    (hs2 : LS (firstReg (loopIn (bodyOf P f) 1)) = some s2) (hok2 : SoundS P s2 (loopIn (bodyOf P f) 1)) : ∀ fd c, P.funcs[f]? = some fd → fd.body = some c → LoopsOk P LS c := by
  intro fd c hf hb
  have e : bodyOf P f = c := by simp [bodyOf, hf, hb]
  rw [e] at h hs hok hs2 hok2
  intro b hbm s' hs'
  rw [h] at hbm
  simp only [List.mem_cons, List.not_mem_nil, or_false] at hbm
  rcases hbm with rfl | rfl
  · rw [hs] at hs'; cases hs'; exact hok
  · rw [hs2] at hs'; cases hs'; exact hok2

theorem bodyE_get {CALL : CallT} {LS : LoopT} {f : FuncId} {args : List AV} {h : AHeap} : (bodyE P CALL LS f).get args h = abody P CALL LS f args h (fun v h => some (v, h)) := rfl

theorem get_of_val {CALL : CallT} {LS : LoopT} {f : FuncId} {args : List AV} {h : AHeap} {v : AV} (hx : abody P CALL LS f args h (fun v _ => some v) = some v) : ∃ h1, (bodyE P CALL LS f).get args h = some (v, h1) := by
  obtain ⟨v1, h1, h2, h3⟩ := abody_cps hx
  simp only [Option.some.injEq] at h2
  subst h2
  exact ⟨h1, by rw [bodyE_get, h3]⟩

def noLS : LoopT := fun _ => none

end Go.Abs
