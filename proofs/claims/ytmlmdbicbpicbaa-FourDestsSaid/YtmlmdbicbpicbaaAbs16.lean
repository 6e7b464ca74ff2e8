/- A region whose order is drawn, second part: in whatever order, what the text's order says. -/
import Derived.Test.YtmlmdbicbpicbaaAbs15
set_option autoImplicit false
set_option linter.unusedVariables false
set_option linter.unusedSimpArgs false
namespace Go.Abs
variable {P : Program} {W0 : World} {σ : Sig} {h : AHeap} {w : World}

theorem light_call {o : Oper} {env : Env} (hl : heavy P o.op = false) {RT : Type} (K : AV → AHeap → Option RT) (C C' : Fn → List AV → Option RT) : aop P h env o K C = aop P h env o K C' := by
  rw [aop_eq, aop_eq]
  unfold aop0
  cases ho : o.op <;> first | rfl | (simp [ho, heavy] at hl; done) | skip
  case call c =>
    simp only
    cases hc : c.callee with
    | value f => obtain ⟨cal, args, ts⟩ := c; simp at hc; subst hc; simp [ho, heavy] at hl
    | invoke r n => rfl
    | builtin b => rfl

theorem adds_call {o : Oper} {env : Env} (hl : adds o.op = true) {RT : Type} (K : AV → AHeap → Option RT) (C C' : Fn → List AV → Option RT) : aop P h env o K C = aop P h env o K C' := by
  rw [aop_eq, aop_eq]
  unfold aop0
  cases ho : o.op <;> first | rfl | (simp [ho, adds] at hl; done)

theorem goesX_light {CALL : CallT} {o : Oper} {env : Env} {v : AV} {h' : AHeap} (hl : heavy P o.op = false) (hg : GoesX P CALL h env o v h') : alook P o env h = some v ∧ h' = h := by
  have h1 : aexec P CALL o env h (fun v _ => some v) = some v := hg _
  have h2 : aexec P CALL o env h (fun _ h => some h) = some h' := hg _
  unfold aexec at h1 h2
  rw [light_call hl _ _ fun _ _ => none] at h1 h2
  refine ⟨h1, ?_⟩
  rw [light_heap hl] at h2
  rcases aop_cps h2 with ⟨_, _, hk, _⟩ | ⟨_, _, hc, _⟩
  · simpa using hk.symm
  · simp at hc

theorem light_goesX {CALL : CallT} {o : Oper} {env : Env} {v : AV} (hl : heavy P o.op = false) (ha : alook P o env h = some v) : GoesX P CALL h env o v h :=
  fun K => look_goes hl ha _ _

theorem goesX_congr {CALL : CallT} {o : Oper} {env env' : Env} {v : AV} {h' : AHeap} (hx : ∀ x ∈ o.op.operands, aev env x = aev env' x) (hg : GoesX P CALL h env o v h') : GoesX P CALL h env' o v h' :=
  fun K => by have := hg K; unfold aexec at this ⊢; rw [← aop_congr hx]; exact this

theorem look_congr {o : Oper} {env env' : Env} (hx : ∀ x ∈ o.op.operands, aev env x = aev env' x) : alook P o env h = alook P o env' h := aop_congr hx _ _

section
variable {CALL : CallT} {ops : Array Oper} {env0 : Env} {h0 : AHeap} {T : List Rec} {envE : Env} {hE : AHeap}

/-- It was run, and it may change memory. -/
def Hv (P : Program) (ops : Array Oper) (T : List Rec) (c : Nat) : Prop := ∃ o x, ops.toList[c]? = some o ∧ T[c]? = some x ∧ x.ran = true ∧ heavy P o.op = true

theorem HP_step (t : TOk P CALL ops.toList env0 h0 T envE hE) {c : Nat} (hc : c < T.length) (hn : ¬ Hv P ops T c) : HP T hE (c + 1) = HP T hE c := by
  obtain ⟨o, ho, hg, hr, hs, h5, h6⟩ := t.all c _ (List.getElem?_eq_getElem hc)
  have e : HP T hE c = T[c].h := by simp [HP, hc]
  rw [h6, e]
  cases hran : T[c].ran with
  | false => exact (hs hran).2
  | true =>
    have hl : heavy P o.op = false := by
      cases hh : heavy P o.op with
      | false => rfl
      | true => exact absurd ⟨o, _, ho, List.getElem?_eq_getElem hc, hran, hh⟩ hn
    exact (goesX_light hl (hr hran)).2

theorem HP_const (t : TOk P CALL ops.toList env0 h0 T envE hE) {q : Nat} : ∀ (d : Nat), q + d ≤ T.length → (∀ c, q ≤ c → c < q + d → ¬ Hv P ops T c) → HP T hE (q + d) = HP T hE q
  | 0, _, _ => rfl
  | d + 1, hl, hn => by
    rw [← Nat.add_assoc, HP_step t (by omega) (hn _ (by omega) (by omega))]
    exact HP_const t d (by omega) fun c h1 h2 => hn c h1 (by omega)

/-- Who is in no order with whom. -/
theorem mem_unordered {i c : Nat} {o o' : Oper} (ho : ops.toList[i]? = some o) (ho' : ops.toList[c]? = some o') (h1 : heavy P o.op = false) (h2 : still P o.op = false) (h3 : heavy P o'.op = true)
    (h4 : ordered (aheadOf ops.toList) i c = false) (h5 : c < i ∨ adds o'.op = false) : (i, c) ∈ unordered P ops.toList := by
  unfold unordered
  simp only [List.mem_flatMap]
  refine ⟨(o, i), mem_zip ho, ?_⟩
  simp only [h1, h2, Bool.or_self, Bool.false_eq_true, if_false, List.mem_filterMap]
  refine ⟨(o', c), mem_zip ho', ?_⟩
  have : (heavy P o'.op && !ordered (aheadOf ops.toList) i c && (decide (c < i) || !adds o'.op)) = true := by
    simp only [h3, h4, Bool.not_false, Bool.and_true, Bool.true_and, Bool.or_eq_true, decide_eq_true_eq, Bool.not_eq_true']
    exact h5
  simp [this]

/-- A look at memory sees the same in whatever memory there may be then. -/
theorem look_any (t : TOk P CALL ops.toList env0 h0 T envE hE) (hT : T.length = ops.toList.length)
    (hlk : ∀ i c, (i, c) ∈ unordered P ops.toList → ∀ x y o, T[i]? = some x → T[c]? = some y → ops.toList[i]? = some o → x.ran = true → y.ran = true → alook P o x.env (if c < i then y.h else y.h') = some x.v)
    {i q : Nat} {o : Oper} {x : Rec} (ho : ops.toList[i]? = some o) (hx : T[i]? = some x) (hr : x.ran = true) (hl : heavy P o.op = false) (hq : q ≤ T.length)
    (hun : ∀ c, Hv P ops T c → (q ≤ c ∧ c < i) ∨ (i < c ∧ c < q) → ordered (aheadOf ops.toList) i c = false) : alook P o x.env (HP T hE q) = some x.v := by
  have hi : i < T.length := (List.getElem?_eq_some_iff.1 hx).1
  obtain ⟨o1, ho1, _, hrun, _, _, _⟩ := t.all i x hx
  rw [ho] at ho1; cases ho1
  have hown : alook P o x.env (HP T hE i) = some x.v := by
    have e : HP T hE i = x.h := by simp [HP, hx]
    rw [e]; exact (goesX_light hl (hrun hr)).1
  cases hst : still P o.op with
  | true => rw [still_look (h := HP T hE q) hst (HP T hE i)]; exact hown
  | false =>
    rcases Nat.le_total q i with hqi | hqi
    · have down : ∀ d, q + d ≤ i → (∀ q', q' = q + d → q' = i → alook P o x.env (HP T hE q') = some x.v) ∧ True := fun _ _ => ⟨fun q' _ e => by rw [e]; exact hown, trivial⟩
      have key : ∀ d q', q' + d = i → q ≤ q' → alook P o x.env (HP T hE q') = some x.v := by
        intro d
        induction d with
        | zero => intro q' e _; have : q' = i := by omega
                  rw [this]; exact hown
        | succ d ih =>
          intro q' e hle
          by_cases hv : Hv P ops T q'
          · obtain ⟨o', y, ho', hy, hry, hh⟩ := id hv
            have h1 := hlk i q' (mem_unordered ho ho' hl hst hh (hun q' hv (.inl ⟨hle, by omega⟩)) (.inl (by omega))) x y o hx hy ho hr hry
            rw [if_pos (by omega)] at h1
            have e2 : HP T hE q' = y.h := by simp [HP, hy]
            rw [e2]; exact h1
          · rw [← HP_step t (by omega) hv]
            exact ih (q' + 1) (by omega) (by omega)
      exact key (i - q) q (by omega) (Nat.le_refl _)
    · have key : ∀ d, i + d ≤ q → alook P o x.env (HP T hE (i + d)) = some x.v := by
        intro d
        induction d with
        | zero => intro _; exact hown
        | succ d ih =>
          intro hle
          have ih' := ih (by omega)
          rw [← Nat.add_assoc]
          by_cases hv : Hv P ops T (i + d)
          · obtain ⟨o', y, ho', hy, hry, hh⟩ := id hv
            have hne : i ≠ i + d := fun e => by
              rw [← e] at ho'; rw [ho] at ho'; cases ho'; rw [hl] at hh; simp at hh
            obtain ⟨o2, ho2, _, hrun2, _, _, h6⟩ := t.all (i + d) y hy
            rw [ho'] at ho2; cases ho2
            cases had : adds o'.op with
            | true =>
              have hgo : Goes P y.h y.env o' y.v y.h' := by
                have h1 := hrun2 hry (R := AV × AHeap) (fun v h => some (v, h))
                unfold aexec at h1
                rcases aop_cps h1 with ⟨v1, h1', hk, hg⟩ | ⟨fn, args, hc, hg⟩
                · simp only [Option.some.injEq, Prod.mk.injEq] at hk; obtain ⟨rfl, rfl⟩ := hk; exact @hg
                · exfalso
                  have e1 := hg (R := Unit) (fun _ _ => none) (fun _ _ => some ())
                  have e2 := hg (R := Unit) (fun _ _ => none) (fun _ _ => none)
                  rw [adds_call had _ _ fun _ _ => none, e2] at e1
                  simp at e1
              obtain ⟨b, hb⟩ := adds_goes had hgo
              have e2 : HP T hE (i + d) = y.h := by simp [HP, hy]
              rw [h6, hb, ← e2]
              exact alook_mono (looks_of hl hst) ih' b
            | false =>
              have h1 := hlk i (i + d) (mem_unordered ho ho' hl hst hh (hun _ hv (.inr ⟨by omega, by omega⟩)) (.inr had)) x y o hx hy ho hr hry
              rw [if_neg (by omega)] at h1
              rw [h6]; exact h1
          · rw [HP_step t (by omega) hv]; exact ih'
      have := key (q - i) (by omega)
      rwa [show i + (q - i) = q by omega] at this

end

/-! ### Whatever is ready -/

theorem count_set : ∀ (l : List Bool) (i : Nat), l[i]? = some false → (l.set i true).count false + 1 = l.count false
  | [], i, h => by simp at h
  | b :: l, 0, h => by simp at h; subst h; simp
  | b :: l, i + 1, h => by
    have := count_set l i (by simpa using h)
    cases b <;> simp <;> omega

def Lst (listed : Array Bool) (j : Nat) : Prop := listed.getD j false = true

theorem operand_agree {ops : List Oper} {o : Oper} {env env' : Env} (hn : ∀ t ∈ namesRead ops o, env[t]? = env'[t]?) : ∀ x ∈ o.op.operands, aev env x = aev env' x := by
  intro x hx
  cases x with
  | tmp t =>
    have : t ∈ namesRead ops o := by
      unfold namesRead
      refine List.mem_append_left _ (List.mem_filterMap.2 ⟨.tmp t, by simpa using hx, rfl⟩)
    simp only [aev, List.getD_eq_getElem?_getD, hn t this]
  | const v => rfl
  | global g => rfl
  | func f => rfl

theorem guard_agree {ops : List Oper} {o : Oper} {env env' : Env} (hn : ∀ t ∈ namesRead ops o, env[t]? = env'[t]?) {b : Bool} (hg : Gd ops o env b) : Gd ops o env' b :=
  hg.congr fun d ⟨j, want, h1, h2⟩ => (hn d (by
    unfold namesRead
    refine List.mem_append_right _ ?_
    rw [h1]; simp only [h2]; simp)).symm

end Go.Abs
