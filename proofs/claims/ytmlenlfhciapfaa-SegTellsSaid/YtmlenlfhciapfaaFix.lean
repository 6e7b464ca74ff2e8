/- A loop, a call, at one state alone; what a function does at given arguments. -/
import Derived.Test.YtmlenlfhciapfaaLoop
import Derived.Test.YtmlenlfhciapfaaAbsC
set_option autoImplicit false
set_option linter.unusedVariables false
namespace Go.Abs
variable {P : Program}

/-- A loop, told at one state alone. -/
noncomputable def fixL (m : List Bool) (vs0 : List AV) (h0 : AHeap) (e : AEx) (vs1 : List AV) (h1 : AHeap) : LoopF := loopF m fun vs h => some (cdec (vs = vs0 ∧ h = h0), e, vs1, h1)

theorem fixL_sound {CALL : CallT} (SC : SoundC P CALL) {LS : LoopT} {c : Code} (hL : LoopsOk P LS c) {m : List Bool} {vs0 vs1 : List AV} {h0 h1 : AHeap} {e : AEx} (H : ∃ j, loopG (roundG P CALL LS c m) j vs0 h0 = some (e, vs1, h1)) : SoundS P (fixL m vs0 h0 e vs1 h1) c := by
  refine @loopF_sound P CALL SC LS c hL m _ fun vs h e' vs' h' hg => ?_
  simp only [Option.some.injEq, Prod.mk.injEq] at hg
  obtain ⟨hc, rfl, rfl, rfl⟩ := hg
  rw [cdec_true] at hc
  obtain ⟨rfl, rfl⟩ := hc
  exact H

/-- The same, memory told anew behind each round. -/
theorem fixL_gc {CALL : CallT} (SC : SoundC P CALL) {LS : LoopT} {c : Code} (hL : LoopsOk P LS c) {m : List Bool} {vs0 vs1 : List AV} {h0 h1 : AHeap} {e : AEx} (H : ∃ k, GReach (roundG P CALL LS c m) h0.length k vs0 h0 e vs1 h1) : SoundS P (fixL m vs0 h0 e vs1 h1) c := by
  refine @loopGc_sound P CALL SC LS c hL m _ fun vs h e' vs' h' hg => ?_
  simp only [Option.some.injEq, Prod.mk.injEq] at hg
  obtain ⟨hc, rfl, rfl, rfl⟩ := hg
  rw [cdec_true] at hc
  obtain ⟨rfl, rfl⟩ := hc
  exact H

/-- What a function does at given arguments. -/
def Runs (P : Program) (f : FuncId) (args : List AV) (h : AHeap) (v : AV) (h' : AHeap) : Prop := ∃ E, SoundE P f E ∧ E.get args h = some (v, h')

/-- A call, told at one state alone. -/
noncomputable def fixE (args0 : List AV) (h0 : AHeap) (v : AV) (h1 : AHeap) : Ent := entF fun args h => some (cdec (args = args0 ∧ h = h0), v, h1)

theorem fixE_sound {f : FuncId} {args0 : List AV} {h0 h1 : AHeap} {v : AV} (H : Runs P f args0 h0 v h1) : SoundE P f (fixE args0 h0 v h1) := by
  obtain ⟨E, hE, hx⟩ := H
  refine entF_sound hE fun args h v' h' hg => ?_
  simp only [Option.some.injEq, Prod.mk.injEq] at hg
  obtain ⟨hc, rfl, rfl⟩ := hg
  rw [cdec_true] at hc
  obtain ⟨rfl, rfl⟩ := hc
  exact hx

theorem canonR_sound {f : FuncId} {g : GEnt}
    (hg : ∀ args h v h', g args h = some (true, v, h') → ∃ args1 h1, Canons h 0 args args1 h1 ∧ ∃ v1 h1', Runs P f args1 h1 v1 h1' ∧ ∃ ks new, h' = h ++ new ∧ Den h1' h1.length h.length ks v1 v new ∧ KsOk ks) : SoundE P f (entF g) :=
  canonF_sound fun args h v h' hx => by
    obtain ⟨args1, h1, hc, v1, h1', ⟨E, hE, hr⟩, k⟩ := hg _ _ _ _ hx
    exact ⟨E, hE, args1, h1, hc, v1, h1', hr, k⟩

/-- What the run yields, whatever it is told it goes on with. -/
theorem Runs.of {t : Tbl} (ht : ∀ f E, t.find f = some E → SoundE P f E) {F n : Nat} {ls : List (Nat × LoopF)} {f : FuncId} (hls : ∀ b ∈ loopsOf (bodyOf P f), ∀ s, lsOf ls (firstReg b) = some s → SoundS P s b) {args : List AV} {h : AHeap} {v : AV} {h' : AHeap}
    (hx : abody P (deepC P t F n) (mixLS ls (autoLS P (deepC P t F n) F 4 (bodyOf P f))) f args h (fun v h => some (v, h)) = some (v, h')) : Runs P f args h v h' :=
  ⟨runE P t F n ls f, runE_sound ht F n hls, hx⟩

theorem Runs.of0 {t : Tbl} (ht : ∀ f E, t.find f = some E → SoundE P f E) {F n : Nat} {f : FuncId} {args : List AV} {h : AHeap} {v : AV} {h' : AHeap}
    (hx : abody P (deepC P t F n) (mixLS [] (autoLS P (deepC P t F n) F 4 (bodyOf P f))) f args h (fun v h => some (v, h)) = some (v, h')) : Runs P f args h v h' :=
  Runs.of ht (fun b _ s hs => by simp [lsOf] at hs) hx

theorem Runs.val {t : Tbl} (ht : ∀ f E, t.find f = some E → SoundE P f E) {F n : Nat} {ls : List (Nat × LoopF)} {f : FuncId} (hls : ∀ b ∈ loopsOf (bodyOf P f), ∀ s, lsOf ls (firstReg b) = some s → SoundS P s b) {args : List AV} {h : AHeap} {v : AV}
    (hx : abody P (deepC P t F n) (mixLS ls (autoLS P (deepC P t F n) F 4 (bodyOf P f))) f args h (fun v _ => some v) = some v) : ∃ h', Runs P f args h v h' := by
  obtain ⟨h1, h2⟩ := get_of_val hx
  exact ⟨h1, _, runE_sound ht F n hls, h2⟩

theorem Runs.val0 {t : Tbl} (ht : ∀ f E, t.find f = some E → SoundE P f E) {F n : Nat} {f : FuncId} {args : List AV} {h : AHeap} {v : AV}
    (hx : abody P (deepC P t F n) (mixLS [] (autoLS P (deepC P t F n) F 4 (bodyOf P f))) f args h (fun v _ => some v) = some v) : ∃ h', Runs P f args h v h' :=
  Runs.val ht (fun b _ s hs => by simp [lsOf] at hs) hx

/-- A function that hands back no row. -/
theorem canonV_sound {f : FuncId} {g : GEnt}
    (hg : ∀ args h v h', g args h = some (true, v, h') → h' = h ∧ v.free = true ∧ ∃ args1 h1, Canons h 0 args args1 h1 ∧ ∃ h1', Runs P f args1 h1 v h1') : SoundE P f (entF g) :=
  canonR_sound fun args h v h' hx => by
    obtain ⟨rfl, hf, args1, h1, hc, h1', hr⟩ := hg _ _ _ _ hx
    exact ⟨args1, h1, hc, v, h1', hr, [], [], by simp, .flat _ _ hf, ksOk0⟩

/-! ### Quick runs -/

theorem Runs.ofT {t : Tbl} (ht : ∀ f E, t.find f = some E → SoundE P f E) {F n : Nat} {pr : List (Nat × AV)} {ls : List (Nat × LoopF)} {f : FuncId} (hls : ∀ b ∈ loopsOf (bodyOf P f), ∀ s, lsOf ls (firstReg b) = some s → SoundS P s b) {args : List AV} {h : AHeap} {v : AV} {h' : AHeap}
    (hx : qrun P t F n pr ls f args h (fun v h => some (v, h)) = some (v, h')) : Runs P f args h v h' := by
  obtain ⟨v1, h1, e, hE⟩ := qrun_sound ht hls hx
  simp only [Option.some.injEq, Prod.mk.injEq] at e
  obtain ⟨rfl, rfl⟩ := e
  exact hE
theorem Runs.ofT0 {t : Tbl} (ht : ∀ f E, t.find f = some E → SoundE P f E) {F n : Nat} {pr : List (Nat × AV)} {f : FuncId} {args : List AV} {h : AHeap} {v : AV} {h' : AHeap}
    (hx : qrun P t F n pr [] f args h (fun v h => some (v, h)) = some (v, h')) : Runs P f args h v h' := Runs.ofT ht (fun b _ s hs => by simp [lsOf] at hs) hx
theorem Runs.valT {t : Tbl} (ht : ∀ f E, t.find f = some E → SoundE P f E) {F n : Nat} {pr : List (Nat × AV)} {ls : List (Nat × LoopF)} {f : FuncId} (hls : ∀ b ∈ loopsOf (bodyOf P f), ∀ s, lsOf ls (firstReg b) = some s → SoundS P s b) {args : List AV} {h : AHeap} {v : AV}
    (hx : qrun P t F n pr ls f args h (fun v _ => some v) = some v) : ∃ h', Runs P f args h v h' := by
  obtain ⟨v1, h1, e, hE⟩ := qrun_sound ht hls hx
  simp only [Option.some.injEq] at e
  subst e
  exact ⟨_, hE⟩
theorem Runs.valT0 {t : Tbl} (ht : ∀ f E, t.find f = some E → SoundE P f E) {F n : Nat} {pr : List (Nat × AV)} {f : FuncId} {args : List AV} {h : AHeap} {v : AV}
    (hx : qrun P t F n pr [] f args h (fun v _ => some v) = some v) : ∃ h', Runs P f args h v h' := Runs.valT ht (fun b _ s hs => by simp [lsOf] at hs) hx

/-- So many quick rounds, one state after the other, memory told anew behind each; then it is left. -/
theorem loop_T {t : Tbl} {F n : Nat} {LS : LoopTT} {c : Code} {m : List Bool} {n0 : Nat} (st : Nat → List AV × AHeap) {N : Nat} {e : AEx} {vs : List AV} {h : AHeap} (he : e ≠ .norm)
    (step : ∀ i, i < N → ∃ pr vs1 h1, qround P t F n pr LS c m (st i).1 (st i).2 = some (.norm, vs1, h1) ∧ Gc n0 vs1 h1 (st (i + 1)).1 (st (i + 1)).2)
    (stop : ∃ pr vs1 h1, qround P t F n pr LS c m (st N).1 (st N).2 = some (e, vs1, h1) ∧ Gc n0 vs1 h1 vs h) : ∃ k, GReach (roundG P (deepT P t F n) (lsT LS) c m) n0 k (st 0).1 (st 0).2 e vs h :=
  greach_up st he (fun i hi => by obtain ⟨pr, vs1, h1, h2, h3⟩ := step i hi; exact ⟨vs1, h1, qround_le h2, h3⟩) (by obtain ⟨pr, vs1, h1, h2, h3⟩ := stop; exact ⟨vs1, h1, qround_le h2, h3⟩)

theorem fixL_T {t : Tbl} (ht : ∀ f E, t.find f = some E → SoundE P f E) {F n : Nat} {LS : LoopTT} {c : Code} (hL : LoopsOk P (lsT LS) c) {m : List Bool} {vs0 vs1 : List AV} {h0 h1 : AHeap} {e : AEx}
    {n0 : Nat} (H : ∃ k, GReach (roundG P (deepT P t F n) (lsT LS) c m) n0 k vs0 h0 e vs1 h1) (hn : h0.length = n0 := by rfl) : SoundS P (fixL m vs0 h0 e vs1 h1) c := by
  subst hn
  exact fixL_gc (deepT_sound ht F n) hL H

/-- A loop told at one state alone, under a condition. -/
noncomputable def fixC (q : Prop) (m : List Bool) (vs0 : List AV) (h0 : AHeap) (e : AEx) (vs1 : List AV) (h1 : AHeap) : LoopF := loopF m fun vs h => some (cdec (q ∧ vs = vs0 ∧ h = h0), e, vs1, h1)

theorem fixC_T {t : Tbl} (ht : ∀ f E, t.find f = some E → SoundE P f E) {F n : Nat} {LS : LoopTT} {c : Code} (hL : LoopsOk P (lsT LS) c) {q : Prop} {m : List Bool} {vs0 vs1 : List AV} {h0 h1 : AHeap} {e : AEx}
    {n0 : Nat} (H : q → ∃ k, GReach (roundG P (deepT P t F n) (lsT LS) c m) n0 k vs0 h0 e vs1 h1) (hn : h0.length = n0 := by rfl) : SoundS P (fixC q m vs0 h0 e vs1 h1) c := by
  subst hn
  refine @loopGc_sound P _ (deepT_sound ht F n) _ c hL m _ fun vs h e' vs' h' hg => ?_
  simp only [Option.some.injEq, Prod.mk.injEq] at hg
  obtain ⟨hc, rfl, rfl, rfl⟩ := hg
  rw [cdec_true] at hc
  obtain ⟨hq, rfl, rfl⟩ := hc
  exact H hq

/-- Its only loop. -/
theorem only {c : Code} {k : Nat} {s : LoopF} (h : loopsOf c = [loopIn c 0]) (hs : SoundS P s (loopIn c 0)) : ∀ b ∈ loopsOf c, ∀ s', lsOf [(k, s)] (firstReg b) = some s' → SoundS P s' b := by
  intro b hb s' hs'
  rw [h] at hb
  simp only [List.mem_singleton] at hb
  subst hb
  simp only [lsOf] at hs'
  split at hs'
  · cases hs'; exact hs
  · simp at hs'

/-- Two loops. -/
theorem both {c : Code} {k k2 : Nat} {s s2 : LoopF} (h : loopsOf c = [loopIn c 0, loopIn c 1]) (h1 : firstReg (loopIn c 0) = k) (h2 : firstReg (loopIn c 1) = k2) (hk : k ≠ k2) (hs : SoundS P s (loopIn c 0)) (hs2 : SoundS P s2 (loopIn c 1)) :
    ∀ b ∈ loopsOf c, ∀ s', lsOf [(k, s), (k2, s2)] (firstReg b) = some s' → SoundS P s' b := by
  intro b hb s' hs'
  rw [h] at hb
  simp only [List.mem_cons, List.not_mem_nil, or_false] at hb
  rcases hb with rfl | rfl
  · simp only [lsOf, h1, if_true] at hs'
    cases hs'; exact hs
  · simp only [lsOf, h2, if_neg hk, if_true] at hs'
    cases hs'; exact hs2

def rangesOf : Code → List (Code × Code)
  | .seq a b => rangesOf a ++ rangesOf b
  | .cond _ a b => rangesOf a ++ rangesOf b
  | .block _ a => rangesOf a
  | .rangeFunc _ _ a b => [(a, b)]
  | _ => []
def rangeIn (c : Code) (i : Nat) : Code × Code := (rangesOf c).getD i (.skip, .skip)

/-- A call told by the number of blocks ahead of it: what it yields, what is new. -/
def toldAt : List (Nat × AV × AHeap) → Nat → Option (AV × AHeap)
  | [], _ => none
  | (k, x) :: l, n => bif k.beq n then some x else toldAt l n
noncomputable def eTold (e : GEnt) (l : List (Nat × AV × AHeap)) : GEnt := fun args h => match toldAt l h.length with
  | some (v, new) => match e args h with
    | some (b, v', h') => some (b && cdec (v' = v ∧ h' = h ++ new), v, h ++ new)
    | none => none
  | none => none
theorem sTold {f : FuncId} {e : GEnt} (h : SoundE P f (entF e)) (l : List (Nat × AV × AHeap)) : SoundE P f (entF (eTold e l)) := by
  refine entF_sound h fun args hp v h' hg => ?_
  unfold eTold at hg
  split at hg
  · rename_i v0 new _
    split at hg
    · rename_i b v' h1 he
      simp only [Option.some.injEq, Prod.mk.injEq, Bool.and_eq_true] at hg
      obtain ⟨⟨rfl, hc⟩, rfl, rfl⟩ := hg
      rw [cdec_true] at hc
      obtain ⟨rfl, rfl⟩ := hc
      change eRun e args hp (fun v h => some (v, h)) = _
      unfold eRun; rw [he]; simp
    · simp at hg
  · simp at hg

end Go.Abs
