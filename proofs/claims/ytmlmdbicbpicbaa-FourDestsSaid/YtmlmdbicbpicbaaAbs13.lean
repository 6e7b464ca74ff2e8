/- One operation, a region whose order is the text's: what the machine does. -/
import Derived.Test.YtmlmdbicbpicbaaAbs12
set_option autoImplicit false
set_option linter.unusedVariables false
set_option linter.unusedSimpArgs false
namespace Go.Abs
variable {P : Program} {W0 : World} {σ : Sig} {h : AHeap} {w : World}

abbrev FW (ro : Option Nat) : Fence := { Fence.wide with round := ro }

/-- How a call comes back. -/
def RetR (W0 : World) (σ : Sig) (h : AHeap) (w : World) (v : AV) (h' : AHeap) : Ending → World → Prop :=
  fun e w' => ∃ v' σ', e = .returned v' ∧ Stp σ h w σ' h' w' ∧ Rel W0 σ' h' w' ∧ VR σ' v v'

/-- What the calls' table says holds of the machine. -/
def SoundC (P : Program) (CALL : CallT) : Prop :=
  ∀ {W0 : World} {σ : Sig} {h : AHeap} {w : World} {fn : Fn} {args : List AV} {args' : Array Value} {v : AV} {h' : AHeap},
    CALL.get fn args h = some (v, h') → Rel W0 σ h w → VRs σ args args'.toList →
    match fn with
    | .func f => (∃ fd, P.funcs[f]? = some fd ∧ fd.name ≠ "runtime.NumGoroutine" ∧ fd.body.isSome = true) ∧ ∀ n, CallsIn Fence.wide n P f args' w (RetR W0 σ h w v h')
    | .yield l => ∀ p, σ[l]? = some p → ∃ L, w.heap[p.blk]? = some (.loop L) ∧ args'.size = L.params.size ∧
        ∀ n, RoundIn Fence.wide n P p.blk L.fn ((L.params.zip args').foldl (fun tmps (t, a) => tmps.setIfInBounds t a) L.tmps) L.assign L.body w (RetR W0 σ h w v h')
    | _ => False

theorem aput_vr {env : Env} {a : Act} (hE : VRs σ env a.tmps.toList) (d : Option Tmp) {v : AV} {v' : Value} (hv : VR σ v v') : VRs σ (aput env d v) (a.put d v').tmps.toList := by
  cases d with
  | none => exact hE
  | some d => simp only [aput, Act.put, Array.toList_setIfInBounds]; exact hE.set d hv

theorem put_defers (a : Act) (d : Option Tmp) (v : Value) : (a.put d v).defers = a.defers := by cases d <;> rfl

/-- One operation that is wanted. -/
theorem sim_exec {CALL : CallT} (SC : SoundC P CALL) (R : Rel W0 σ h w) {o : Oper} {env : Env} {a : Act} (hE : VRs σ env a.tmps.toList) {v : AV} {h' : AHeap} (hg : GoesX P CALL h env o v h')
    {ro : Option Nat} {n : Nat} {next : Act → World → Prop} {Q : Exit → Act → World → Prop}
    (hn : ∀ σ' w' v', Stp σ h w σ' h' w' → Rel W0 σ' h' w' → VR σ' v v' → next (a.put o.dst v') w') : o.wpIn (FW ro) n P a w next Q := by
  have ha := hg (R := AV × AHeap) (fun v h => some (v, h))
  unfold aexec at ha
  obtain ⟨hnd, hcase⟩ := sim_op R hE ha
  refine ⟨fun _ _ => trivial, ?_⟩
  rw [Oper.semAt_eq _ _ _ hnd]
  rcases hcase with ⟨v1, h1, hk, σ', w', v', hrun, hs, hR, hv⟩ | ⟨fn, args, hc, args', hargs, hrun⟩
  · simp only [Option.some.injEq, Prod.mk.injEq] at hk
    obtain ⟨rfl, rfl⟩ := hk
    rcases hrun with hrun | ⟨hrun, rfl⟩
    · rw [hrun]; exact hn _ _ _ hs hR hv
    · rw [hrun]; exact hn _ _ _ hs hR hv
  · have hsc := SC hc R hargs
    cases fn with
    | func f =>
      obtain ⟨⟨fd, hfd, hname, hbody⟩, hcalls⟩ := hsc
      have he : (callFunc f args').run P w = .ok (.enter f args') w := by
        have : fd.body.isNone = false := by cases hb : fd.body with
          | none => rw [hb] at hbody; simp at hbody
          | some c => rfl
        simp only [callFunc, Sem.run_bind]
        simp [program, Sem.run, hfd, hname, this]
        intro hb; rw [hb] at hbody; simp at hbody
      rw [hrun, he]
      refine ⟨fun hd => ?_, CallsIn.mono (hcalls (n - 1)) fun e w' hr => ?_⟩
      · simp [Fence.wide] at hd
      · obtain ⟨v', σ', rfl, hs, hR, hv⟩ := hr
        exact hn _ _ _ hs hR hv
    | yield l =>
      obtain ⟨p, hp, hrun⟩ := hrun
      obtain ⟨L, hL, hsz, hround⟩ := hsc p hp
      have he : (Instr.yield p.blk args').run P w = .ok (.round p.blk L.fn ((L.params.zip args').foldl (fun tmps (t, a) => tmps.setIfInBounds t a) L.tmps) L.assign L.body) w := by
        have : (getObj p.blk).run P w = .ok (.loop L) w := by simp [getObj, Sem.run, hL]
        simp [Instr.yield, Instr.getLoop, this, hsz]
      rw [hrun, he]
      refine ⟨fun hd => ?_, RoundIn.mono (hround (n - 1)) fun e w' hr => ?_⟩
      · simp [Fence.wide] at hd
      · obtain ⟨v', σ', rfl, hs, hR, hv⟩ := hr
        exact hn _ _ _ hs hR hv
    | _ => exact hsc.elim

/-- The marks of the loops over functions that the activation has entered: each a block of its own. -/
structure MarksR (B : Nat) (w : World) (ds : List Deferred) : Prop where
  size : B ≤ w.heap.size
  all : ∀ d ∈ ds, ∃ r, d.target = .collected r ∧ B ≤ r ∧ w.heap[r]? = some (.deferred (some []))
  nodup : ds.Pairwise fun d e => d.target ≠ e.target

theorem Rel.notOwn (R : Rel W0 σ h w) {r : Nat} {x : Option (List Deferred)} (hr : w.heap[r]? = some (.deferred x)) : ¬ Own h σ r := by
  rintro ⟨i, blk, p, h1, h2, h3, rfl⟩
  have := R.obj h1 h2
  cases blk with
  | cells vs esz md par =>
    rcases this with ⟨rfl, _⟩ | ⟨_, _, _, _, h4, _⟩
    · simp [ABlk.mine] at h3
    · rw [hr] at h4; cases h4
  | mp es c => obtain ⟨_, h4, _⟩ := this; rw [hr] at h4; cases h4
  | lp L => obtain ⟨_, h4, _⟩ := this; rw [hr] at h4; cases h4
  | dead => simp [ABlk.mine] at h3

theorem MarksR.step {B : Nat} {ds : List Deferred} (M : MarksR B w ds) (R : Rel W0 σ h w) {σ' : Sig} {h' : AHeap} {w' : World} (s : Stp σ h w σ' h' w') : MarksR B w' ds := by
  refine ⟨Nat.le_trans M.size s.size, fun d hd => ?_, M.nodup⟩
  obtain ⟨r, h1, h2, h3⟩ := M.all d hd
  refine ⟨r, h1, h2, ?_⟩
  rw [s.same r (Array.getElem?_eq_some_iff.1 h3).1 (R.notOwn h3)]
  exact h3

/-- Where the walk stands. -/
structure At (W0 : World) (B : Nat) (σ : Sig) (h : AHeap) (env : Env) (a : Act) (w : World) : Prop where
  rel : Rel W0 σ h w
  env : VRs σ env a.tmps.toList
  marks : MarksR B w a.defers

theorem At.put {B : Nat} {env : Env} {a : Act} (A : At W0 B σ h env a w) {σ' : Sig} {h' : AHeap} {w' : World} (s : Stp σ h w σ' h' w') (R : Rel W0 σ' h' w') (d : Option Tmp) {v : AV} {v' : Value} (hv : VR σ' v v') :
    At W0 B σ' h' (aput env d v) (a.put d v') w' :=
  ⟨R, aput_vr (s.vrs A.env) d hv, by rw [put_defers]; exact A.marks.step A.rel s⟩

theorem At.skip {B : Nat} {env : Env} {a : Act} (A : At W0 B σ h env a w) (d : Option Tmp) : At W0 B σ h (aput env d (.tup [])) (a.put d undef) w :=
  A.put (Stp.refl _ _ _) A.rel d (.tup [] [] .nil)

/-- A region in the text's order. -/
theorem sim_ops {CALL : CallT} (SC : SoundC P CALL) {ops : Array Oper} {RT : Type} {K : Env → AHeap → Option RT} {r : RT} {ro : Option Nat} {n B : Nat} {Q : Exit → Act → World → Prop} :
    ∀ {l : List Nat} {env : Env} {h : AHeap} {σ : Sig} {a : Act} {w : World}, aops P CALL ops.toList l env h K = some r → At W0 B σ h env a w →
      (∀ env' h' σ' a' w', K env' h' = some r → Stp σ h w σ' h' w' → At W0 B σ' h' env' a' w' → Q .normal a' w') → wpOpsIn (FW ro) n P ops Q l a w
  | [], env, h, σ, a, w, ha, A, hQ => hQ env h σ a w (by simpa [aops] using ha) (Stp.refl _ _ _) A
  | i :: rest, env, h, σ, a, w, ha, A, hQ => by
    unfold aops at ha
    unfold wpOpsIn
    split at ha
    · simp at ha
    · rename_i o ho
      rw [Array.getElem?_toList] at ho
      simp only [ho]
      obtain ⟨b, hg, hb⟩ := aguard_cps ha
      rw [hg.wanted A.env]
      cases b with
      | true =>
        simp only [if_true] at hb ⊢
        obtain ⟨v, h', hk, hgo⟩ := aexec_cps hb
        refine sim_exec SC A.rel A.env hgo fun σ' w' v' s R hv => ?_
        exact sim_ops SC hk (A.put s R _ hv) fun env' h'' σ'' a' w'' hk' s' A' => hQ _ _ _ _ _ hk' (s.trans s') A'
      | false =>
        simp only [Bool.false_eq_true, if_false] at hb ⊢
        refine ⟨fun _ _ => trivial, ?_⟩
        exact sim_ops SC hb (A.skip _) hQ

end Go.Abs
