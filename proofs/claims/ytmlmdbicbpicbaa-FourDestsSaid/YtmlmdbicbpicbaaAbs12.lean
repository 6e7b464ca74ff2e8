/- The interpreter's own laws: what an operation, a guard goes on with; which slots it looks at. -/
import Derived.Test.YtmlmdbicbpicbaaAbs11
set_option autoImplicit false
set_option linter.unusedVariables false
set_option linter.unusedSimpArgs false
namespace Go.Abs
variable {P : Program} {W0 : World} {σ : Sig} {h : AHeap} {w : World}

/-- It goes on with this, whatever is behind it. -/
def Goes (P : Program) (h : AHeap) (env : Env) (o : Oper) (v : AV) (h' : AHeap) : Prop :=
  ∀ {R : Type} (K : AV → AHeap → Option R) (C : Fn → List AV → Option R), aop P h env o K C = K v h'

def GoesCall (P : Program) (h : AHeap) (env : Env) (o : Oper) (fn : Fn) (args : List AV) : Prop :=
  ∀ {R : Type} (K : AV → AHeap → Option R) (C : Fn → List AV → Option R), aop P h env o K C = C fn args

theorem aop_cps {o : Oper} {env : Env} {RT : Type} {K : AV → AHeap → Option RT} {C : Fn → List AV → Option RT} {r : RT} (ha : aop P h env o K C = some r) :
    (∃ v h', K v h' = some r ∧ Goes P h env o v h') ∨ (∃ fn args, C fn args = some r ∧ GoesCall P h env o fn args) := by
  rw [aop_eq] at ha
  unfold aop0 at ha
  split at ha
  case h_1 x ho => exact .inl ⟨_, _, ha, fun K C => by simp only [aop_eq, aop0, ho]⟩
  case h_2 x ho => exact .inl ⟨_, _, ha, fun K C => by simp only [aop_eq, aop0, ho]⟩
  case h_3 c x y ho =>
    split at ha
    · rename_i t hc
      split at ha
      · rename_i ht; exact .inl ⟨_, _, ha, fun K C => by simp only [aop_eq, aop0, ho, hc, ht, if_true]⟩
      · rename_i ht; exact .inl ⟨_, _, ha, fun K C => by simp [aop_eq, aop0, ho, hc, ht]⟩
    · simp at ha
  case h_4 t ho => obtain ⟨v, h', hv, hk⟩ := bind_pair ha; exact .inl ⟨_, _, hk, fun K C => by simp only [aop_eq, aop0, ho, hv, Option.bind_some]⟩
  case h_5 t x ho => obtain ⟨v, h', hv, hk⟩ := bind_pair ha; exact .inl ⟨_, _, hk, fun K C => by simp only [aop_eq, aop0, ho, hv, Option.bind_some]⟩
  case h_6 t ps ho => obtain ⟨v, hv, hk⟩ := bind_one ha; exact .inl ⟨_, _, hk, fun K C => by simp only [aop_eq, aop0, ho, hv, Option.bind_some]⟩
  case h_7 t n ps ho => obtain ⟨v, h', hv, hk⟩ := bind_pair ha; exact .inl ⟨_, _, hk, fun K C => by simp only [aop_eq, aop0, ho, hv, Option.bind_some]⟩
  case h_8 t x ho => obtain ⟨v, hv, hk⟩ := bind_one ha; exact .inl ⟨_, _, hk, fun K C => by simp only [aop_eq, aop0, ho, hv, Option.bind_some]⟩
  case h_9 t x y ho => obtain ⟨v, hv, hk⟩ := bind_one ha; exact .inl ⟨_, _, hk, fun K C => by simp only [aop_eq, aop0, ho, hv, Option.bind_some]⟩
  case h_10 x ho =>
    split at ha
    · rename_i b hb; exact .inl ⟨_, _, ha, fun K C => by simp only [aop_eq, aop0, ho, hb]⟩
    · rename_i f c hb; exact .inl ⟨_, _, ha, fun K C => by simp only [aop_eq, aop0, ho, hb]⟩
    · rename_i f c hb; exact .inl ⟨_, _, ha, fun K C => by simp only [aop_eq, aop0, ho, hb]⟩
    · simp at ha
  case h_11 op xt x y yt ho => obtain ⟨v, hv, hk⟩ := bind_one ha; exact .inl ⟨_, _, hk, fun K C => by simp only [aop_eq, aop0, ho, hv, Option.bind_some]⟩
  case h_12 op xt x ho => obtain ⟨v, hv, hk⟩ := bind_one ha; exact .inl ⟨_, _, hk, fun K C => by simp only [aop_eq, aop0, ho, hv, Option.bind_some]⟩
  case h_13 s d x ho => obtain ⟨v, h', hv, hk⟩ := bind_pair ha; exact .inl ⟨_, _, hk, fun K C => by simp only [aop_eq, aop0, ho, hv, Option.bind_some]⟩
  case h_14 arr x ho =>
    split at ha
    · rename_i n e i o len cap ex hu hb
      split at ha
      · rename_i hn; exact .inl ⟨_, _, ha, fun K C => by simp only [aop_eq, aop0, ho, hu, hb, hn, and_self, if_true]⟩
      · simp at ha
    · simp at ha
  case h_15 fn first cap ho =>
    split at ha
    · rename_i hf
      split at ha
      · exact .inl ⟨_, _, ha, fun K C => by simp only [aop_eq, aop0, ho, hf, if_true]⟩
      · simp at ha
    · simp at ha
  case h_16 t r0 ho =>
    split at ha
    · exact .inl ⟨_, _, ha, fun K C => by simp only [aop_eq, aop0, ho]⟩
    · simp at ha
  case h_17 t l c ho => obtain ⟨v, h', hv, hk⟩ := bind_pair ha; exact .inl ⟨_, _, hk, fun K C => by simp only [aop_eq, aop0, ho, hv, Option.bind_some]⟩
  case h_18 t x lo hi mx ho => obtain ⟨v, hv, hk⟩ := bind_one ha; exact .inl ⟨_, _, hk, fun K C => by simp only [aop_eq, aop0, ho, hv, Option.bind_some]⟩
  case h_19 s x f ho => obtain ⟨v, hv, hk⟩ := bind_one ha; exact .inl ⟨_, _, hk, fun K C => by simp only [aop_eq, aop0, ho, hv, Option.bind_some]⟩
  case h_20 s x f ho => obtain ⟨v, hv, hk⟩ := bind_one ha; exact .inl ⟨_, _, hk, fun K C => by simp only [aop_eq, aop0, ho, hv, Option.bind_some]⟩
  case h_21 t x ix ho => obtain ⟨v, hv, hk⟩ := bind_one ha; exact .inl ⟨_, _, hk, fun K C => by simp only [aop_eq, aop0, ho, hv, Option.bind_some]⟩
  case h_22 t x ix ho => obtain ⟨v, hv, hk⟩ := bind_one ha; exact .inl ⟨_, _, hk, fun K C => by simp only [aop_eq, aop0, ho, hv, Option.bind_some]⟩
  case h_23 t x ix ok ho => obtain ⟨v, hv, hk⟩ := bind_one ha; exact .inl ⟨_, _, hk, fun K C => by simp only [aop_eq, aop0, ho, hv, Option.bind_some]⟩
  case h_24 t m k x ho => obtain ⟨v, hv, hk⟩ := bind_one ha; exact .inl ⟨_, _, hk, fun K C => by simp only [aop_eq, aop0, ho, hv, Option.bind_some]⟩
  case h_25 t m k x ho => obtain ⟨v, hv, hk⟩ := bind_one ha; exact .inl ⟨_, _, hk, fun K C => by simp only [aop_eq, aop0, ho, hv, Option.bind_some]⟩
  case h_26 t m k ho => obtain ⟨v, h', hv, hk⟩ := bind_pair ha; exact .inl ⟨_, _, hk, fun K C => by simp only [aop_eq, aop0, ho, hv, Option.bind_some]⟩
  case h_27 t m s x ho => obtain ⟨v, hv, hk⟩ := bind_one ha; exact .inl ⟨_, _, hk, fun K C => by simp only [aop_eq, aop0, ho, hv, Option.bind_some]⟩
  case h_28 t ix ho =>
    split at ha
    · rename_i l hl
      obtain ⟨v, hv, hk⟩ := bind_one ha
      exact .inl ⟨_, _, hk, fun K C => by simp only [aop_eq, aop0, ho, hl, hv, Option.bind_some]⟩
    · simp at ha
  case h_29 c ho =>
    split at ha
    · rename_i f hcal
      split at ha
      · rename_i fn cap hf
        exact .inr ⟨_, _, ha, fun K C => by simp only [aop_eq, aop0, ho, hcal, hf]⟩
      · simp at ha
    · rename_i b hcal
      split at ha
      · rename_i h1 ; obtain ⟨v, h', hv, hk⟩ := bind_pair ha; exact .inl ⟨_, _, hk, fun K C => by simp only [aop_eq, aop0, ho, hcal, h1, hv, Option.bind_some]⟩
      · rename_i h1 ; obtain ⟨v, h', hv, hk⟩ := bind_pair ha; exact .inl ⟨_, _, hk, fun K C => by simp only [aop_eq, aop0, ho, hcal, h1, hv, Option.bind_some]⟩
      · rename_i h1 h2 ; obtain ⟨v, hv, hk⟩ := bind_one ha; exact .inl ⟨_, _, hk, fun K C => by simp only [aop_eq, aop0, ho, hcal, h1, h2, hv, Option.bind_some]⟩
      · rename_i h1 h2 ; obtain ⟨v, hv, hk⟩ := bind_one ha; exact .inl ⟨_, _, hk, fun K C => by simp only [aop_eq, aop0, ho, hcal, h1, h2, hv, Option.bind_some]⟩
      · rename_i h1 h2 ; obtain ⟨v, hv, hk⟩ := bind_one ha; exact .inl ⟨_, _, hk, fun K C => by simp only [aop_eq, aop0, ho, hcal, h1, h2, hv, Option.bind_some]⟩
      · rename_i h1 h2 ; obtain ⟨v, hv, hk⟩ := bind_one ha; exact .inl ⟨_, _, hk, fun K C => by simp only [aop_eq, aop0, ho, hcal, h1, h2, hv, Option.bind_some]⟩
      · rename_i h1 ; obtain ⟨v, hv, hk⟩ := bind_one ha; exact .inl ⟨_, _, hk, fun K C => by simp only [aop_eq, aop0, ho, hcal, h1, hv, Option.bind_some]⟩
      · rename_i h1 ; obtain ⟨v, hv, hk⟩ := bind_one ha; exact .inl ⟨_, _, hk, fun K C => by simp only [aop_eq, aop0, ho, hcal, h1, hv, Option.bind_some]⟩
      · simp at ha
    · simp at ha
  case h_30 => simp at ha

/-- An operation in its place goes on with this. -/
def GoesX (P : Program) (CALL : CallT) (h : AHeap) (env : Env) (o : Oper) (v : AV) (h' : AHeap) : Prop :=
  ∀ {R : Type} (K : AV → AHeap → Option R), aexec P CALL o env h K = K v h'

theorem aexec_cps {CALL : CallT} {o : Oper} {env : Env} {RT : Type} {K : AV → AHeap → Option RT} {r : RT} (ha : aexec P CALL o env h K = some r) :
    ∃ v h', K v h' = some r ∧ GoesX P CALL h env o v h' := by
  rcases aop_cps ha with ⟨v, h', hk, hg⟩ | ⟨fn, args, hc, hg⟩
  · exact ⟨v, h', hk, fun K => hg _ _⟩
  · rw [CALL.nat] at hc
    obtain ⟨v, h', hv, hk⟩ := bind_pair hc
    exact ⟨v, h', hk, fun K => by unfold aexec; rw [hg, CALL.nat, hv]; simp only [Option.bind_some]⟩

theorem set_same {env : Env} {d : Nat} {v : AV} (he : env[d]? = some v) : env.set d v = env := by
  apply List.ext_getElem?
  intro i
  rw [List.getElem?_set]
  by_cases hi : d = i
  · subst hi
    have := (List.getElem?_eq_some_iff.1 he).1
    simpa [this] using he.symm
  · simp [hi]

/-- A guard's answer: is the operation wanted? -/
inductive Gd (ops : List Oper) (o : Oper) (env : Env) : Bool → Prop
  | free (h : o.guard = none) : Gd ops o env true
  | asks (j : Nat) (want : Bool) (d : Tmp) (b : Bool) (h : o.guard = some (j, want)) (hd : (ops[j]?).bind (·.dst) = some d) (he : env[d]? = some (.bool b)) : Gd ops o env (b == want)
  | out (j : Nat) (want : Bool) (h : o.guard = some (j, want)) (hd : (ops[j]?).bind (·.dst) = none) : Gd ops o env false
  | undef (j : Nat) (want : Bool) (d : Tmp) (h : o.guard = some (j, want)) (hd : (ops[j]?).bind (·.dst) = some d) (he : env[d]? = some (.tup [])) : Gd ops o env false

theorem aguard_cps {ops : List Oper} {o : Oper} {env : Env} {RT : Type} {T F : Env → Option RT} {r : RT} (ha : aguard ops o env T F = some r) :
    ∃ b, Gd ops o env b ∧ (if b = true then T env else F env) = some r := by
  unfold aguard at ha
  split at ha
  · exact ⟨true, .free (by assumption), by simpa using ha⟩
  · rename_i j want hg
    split at ha
    · exact ⟨false, .out j want hg (by assumption), by simpa using ha⟩
    · rename_i d hd
      split at ha
      · rename_i b he
        refine ⟨_, .asks j want d b hg hd he, ?_⟩
        cases b <;> cases want <;> simpa [set_same he] using ha
      · rename_i he
        exact ⟨false, .undef j want d hg hd he, by simpa using ha⟩
      · simp at ha

theorem aguard_all {ops : List Oper} {o : Oper} {env : Env} {b : Bool} (hg : Gd ops o env b) {RT : Type} (T F : Env → Option RT) : aguard ops o env T F = if b = true then T env else F env := by
  cases hg with
  | free h => simp [aguard, h]
  | asks j want d b h hd he => cases b <;> cases want <;> simp [aguard, h, hd, he, set_same he]
  | out j want h hd => simp only [aguard, h, hd]; simp
  | undef j want d h hd he => simp [aguard, h, hd, he]

theorem aops_cps {CALL : CallT} {ops : List Oper} : ∀ {l : List Nat} {env : Env} {h : AHeap} {RT : Type} {K : Env → AHeap → Option RT} {r : RT}, aops P CALL ops l env h K = some r →
    ∃ env' h', K env' h' = some r ∧ ∀ {R : Type} (K' : Env → AHeap → Option R), aops P CALL ops l env h K' = K' env' h'
  | [], env, h, _, K, r, ha => ⟨env, h, by simpa [aops] using ha, fun K' => by simp [aops]⟩
  | i :: rest, env, h, _, K, r, ha => by
    unfold aops at ha
    split at ha
    · simp at ha
    · rename_i o ho
      obtain ⟨b, hg, hb⟩ := aguard_cps ha
      cases b with
      | true =>
        simp only [if_true] at hb
        obtain ⟨v, h', hk, hgo⟩ := aexec_cps hb
        obtain ⟨env', h'', h1, h2⟩ := aops_cps hk
        exact ⟨env', h'', h1, fun K' => by unfold aops; simp only [ho]; rw [aguard_all hg]; simp only [if_true]; rw [hgo, h2]⟩
      | false =>
        simp only [Bool.false_eq_true, if_false] at hb
        obtain ⟨env', h'', h1, h2⟩ := aops_cps hb
        exact ⟨env', h'', h1, fun K' => by unfold aops; simp only [ho]; rw [aguard_all hg]; simp only [Bool.false_eq_true, if_false]; rw [h2]⟩

theorem adraw_cps {CALL : CallT} {ops : List Oper} : ∀ {l : List Nat} {env : Env} {h : AHeap} {T : List Rec} {RT : Type} {K : List Rec → Env → AHeap → Option RT} {r : RT}, adraw P CALL ops l env h T K = some r →
    ∃ T' env' h', K T' env' h' = some r ∧ ∀ {R : Type} (K' : List Rec → Env → AHeap → Option R), adraw P CALL ops l env h T K' = K' T' env' h'
  | [], env, h, T, _, K, r, ha => ⟨T, env, h, by simpa [adraw] using ha, fun K' => by simp [adraw]⟩
  | i :: rest, env, h, T, _, K, r, ha => by
    unfold adraw at ha
    split at ha
    · simp at ha
    · rename_i o ho
      obtain ⟨b, hg, hb⟩ := aguard_cps ha
      cases b with
      | true =>
        simp only [if_true] at hb
        obtain ⟨v, h', hk, hgo⟩ := aexec_cps hb
        obtain ⟨T', env', h'', h1, h2⟩ := adraw_cps hk
        exact ⟨T', env', h'', h1, fun K' => by unfold adraw; simp only [ho]; rw [aguard_all hg]; simp only [if_true]; rw [hgo, h2]⟩
      | false =>
        simp only [Bool.false_eq_true, if_false] at hb
        obtain ⟨T', env', h'', h1, h2⟩ := adraw_cps hb
        exact ⟨T', env', h'', h1, fun K' => by unfold adraw; simp only [ho]; rw [aguard_all hg]; simp only [Bool.false_eq_true, if_false]; rw [h2]⟩

theorem asame_cps {R R' : Type} {x : Option AV} {v : AV} {K : Option R} {r : R} (h : asame x v K = some r) : K = some r ∧ ∀ {R' : Type} (K' : Option R'), asame x v K' = K' := by
  unfold asame at h ⊢
  cases x with
  | none => simp at h
  | some u =>
    simp only [Option.bind_some] at h ⊢
    split at h
    · rename_i he; exact ⟨h, fun K' => by rw [if_pos he]⟩
    · simp at h

theorem nat_of_cps {α : Type} (f : {R : Type} → (α → Option R) → Option R) (hf : ∀ {R : Type} (K : α → Option R) (r : R), f K = some r → ∃ x, K x = some r ∧ ∀ {R' : Type} (K' : α → Option R'), f K' = K' x) {R : Type} (K : α → Option R) :
    f K = (f fun x => some x).bind K := by
  cases h1 : f K with
  | some r =>
    obtain ⟨x, hx, hall⟩ := hf K r h1
    rw [hall]; simp [hx]
  | none =>
    cases h2 : f fun x => some x with
    | none => rfl
    | some y =>
      obtain ⟨x, hx, hall⟩ := hf _ y h2
      have := hall K
      rw [h1] at this
      simp at hx; subst hx
      simp [this]

theorem alookK_eq {o : Oper} {env : Env} {h : AHeap} {v : AV} {R : Type} (K : Option R) : alookK P o env h v K = asame (alook P o env h) v K := by
  have := nat_of_cps (α := AV) (fun {R} (K : AV → Option R) => aop P h env o (fun v _ => K v) fun _ _ => none) (fun {R} K r hr => by
    rcases aop_cps hr with ⟨v1, h1, hk, hg⟩ | ⟨_, _, hc, _⟩
    · exact ⟨v1, hk, fun K' => hg _ _⟩
    · simp at hc) (fun u => if AV.beq u v = true then K else none)
  exact this

theorem alooks_cps {ops : List Oper} {T : List Rec} {RT : Type} {K : Option RT} {r : RT} : ∀ {l : List (Nat × Nat)}, alooks P ops T l K = some r → K = some r ∧ ∀ {R : Type} (K' : Option R), alooks P ops T l K' = K'
  | [], h => ⟨h, fun K' => rfl⟩
  | (i, c) :: l, h => by
    unfold alooks at h
    split at h
    · rename_i x y o hx hy ho
      split at h
      · rename_i hr
        rw [alookK_eq] at h
        obtain ⟨h1, h2⟩ := asame_cps (R' := RT) h
        obtain ⟨h3, h4⟩ := alooks_cps h1
        exact ⟨h3, fun K' => by unfold alooks; simp only [hx, hy, ho, hr, if_true]; rw [alookK_eq, h2, h4]⟩
      · rename_i hr
        obtain ⟨h3, h4⟩ := alooks_cps h
        exact ⟨h3, fun K' => by unfold alooks; simp only [hx, hy, ho, hr, if_false]; rw [h4]; simp⟩
    · simp at h

/-- Code goes on with one thing, whatever is behind it. -/
theorem acode_cps {CALL : CallT} {LS : LoopT} : ∀ {c : Code} {env : Env} {h : AHeap} {RT : Type} {K : AEx → Env → AHeap → Option RT} {r : RT}, acode P CALL LS c env h K = some r →
    ∃ e env' h', K e env' h' = some r ∧ ∀ {R : Type} (K' : AEx → Env → AHeap → Option R), acode P CALL LS c env h K' = K' e env' h' := by
  intro c
  induction c with
  | skip => intro env h RT K r ha; exact ⟨_, _, _, ha, fun K' => rfl⟩
  | label l => intro env h RT K r ha; exact ⟨_, _, _, ha, fun K' => rfl⟩
  | exit i => intro env h RT K r ha; exact ⟨_, _, _, ha, fun K' => rfl⟩
  | ret => intro env h RT K r ha; exact ⟨_, _, _, ha, fun K' => rfl⟩
  | scope c ih => intro env h RT K r ha; simp [acode] at ha
  | goto l => intro env h RT K r ha; simp [acode] at ha
  | refuse s => intro env h RT K r ha; simp [acode] at ha
  | region id ops draw =>
    intro env h RT K r ha
    unfold acode at ha
    cases draw with
    | true =>
      simp only [if_true] at ha
      split at ha
      · rename_i hok
        obtain ⟨T, env', h', h1, h2⟩ := adraw_cps ha
        obtain ⟨h3, h4⟩ := alooks_cps h1
        exact ⟨.norm, env', h', h3, fun K' => by unfold acode; simp only [hok, if_true]; rw [h2, h4]⟩
      · simp at ha
    | false =>
      simp only [Bool.false_eq_true, if_false] at ha
      obtain ⟨env', h', h1, h2⟩ := aops_cps ha
      exact ⟨.norm, env', h', h1, fun K' => by unfold acode; simp only [Bool.false_eq_true, if_false]; rw [h2]⟩
  | seq x y ihx ihy =>
    intro env h RT K r ha
    unfold acode at ha
    obtain ⟨e, env', h', h1, h2⟩ := ihx ha
    cases e with
    | norm =>
      obtain ⟨e2, env2, h3, h4, h5⟩ := ihy h1
      exact ⟨e2, env2, h3, h4, fun K' => by unfold acode; rw [h2]; simp only; rw [h5]⟩
    | exit i => exact ⟨_, _, _, h1, fun K' => by unfold acode; rw [h2]⟩
    | ret => exact ⟨_, _, _, h1, fun K' => by unfold acode; rw [h2]⟩
  | cond c x y ihx ihy =>
    intro env h RT K r ha
    unfold acode at ha
    split at ha
    · rename_i t hc
      split at ha
      · rename_i ht
        obtain ⟨e, env', h', h1, h2⟩ := ihx ha
        exact ⟨e, env', h', h1, fun K' => by unfold acode; simp only [hc, ht, if_true]; rw [h2]⟩
      · rename_i ht
        obtain ⟨e, env', h', h1, h2⟩ := ihy ha
        exact ⟨e, env', h', h1, fun K' => by unfold acode; simp only [hc, ht, if_false, Bool.false_eq_true]; rw [h2]⟩
    · simp at ha
  | block i c ih =>
    intro env h RT K r ha
    unfold acode at ha
    obtain ⟨e, env', h', h1, h2⟩ := ih ha
    cases e with
    | norm => exact ⟨_, _, _, h1, fun K' => by unfold acode; rw [h2]⟩
    | ret => exact ⟨_, _, _, h1, fun K' => by unfold acode; rw [h2]⟩
    | exit j =>
      simp only at h1
      split at h1
      · rename_i hj; exact ⟨_, _, _, h1, fun K' => by unfold acode; rw [h2]; simp only [hj, if_true]⟩
      · rename_i hj; exact ⟨_, _, _, h1, fun K' => by unfold acode; rw [h2]; simp only [hj, if_false]⟩
  | loop c ih =>
    intro env h RT K r ha
    unfold acode at ha
    split at ha
    · rename_i s hs
      rw [s.nat] at ha
      simp only [Option.bind_eq_some_iff] at ha
      obtain ⟨x, hx, hk⟩ := ha
      exact ⟨x.1, x.2.1, x.2.2, hk, fun K' => by unfold acode; simp only [hs]; rw [s.nat, hx]; rfl⟩
    · simp at ha
  | rangeFunc g ps asg body iha ihb =>
    intro env h RT K r ha
    unfold acode at ha
    split at ha
    · rename_i id cap hg
      rw [CALL.nat] at ha
      simp only [Option.bind_eq_some_iff] at ha
      obtain ⟨⟨v, h1⟩, hcall, hk⟩ := ha
      simp only at hk
      split at hk
      · rename_i L hL
        split at hk
        · simp at hk
        · rename_i hb
          split at hk
          · rename_i hp
            exact ⟨_, _, _, hk, fun K' => by unfold acode; simp only [hg]; rw [CALL.nat, hcall]; simp only [Option.bind_some, hL, hb, if_false, hp]⟩
          · rename_i e hp
            exact ⟨_, _, _, hk, fun K' => by unfold acode; simp only [hg]; rw [CALL.nat, hcall]; simp only [Option.bind_some, hL, hb, if_false, hp]⟩
      · simp at hk
    · simp at ha

/-- From 'it goes on with one thing' to the form that tables ask. -/
theorem abody_cps {CALL : CallT} {LS : LoopT} {f : FuncId} {args : List AV} {h : AHeap} {R : Type} {K : AV → AHeap → Option R} {r : R} (ha : abody P CALL LS f args h K = some r) :
    ∃ v h', K v h' = some r ∧ ∀ {R' : Type} (K' : AV → AHeap → Option R'), abody P CALL LS f args h K' = K' v h' := by
  unfold abody at ha
  split at ha
  · rename_i fn hfn
    split at ha
    · rename_i c hc
      split at ha
      · simp at ha
      · rename_i hname
        obtain ⟨e, env', h', h1, h2⟩ := acode_cps ha
        cases e with
        | exit i => simp at h1
        | norm =>
          simp only [Option.bind_eq_some_iff] at h1
          obtain ⟨l, hl, hk⟩ := h1
          exact ⟨_, _, hk, fun K' => by unfold abody; simp only [hfn, hc, hname, if_false]; rw [h2]; simp only [hl, Option.bind_some]⟩
        | ret =>
          simp only [Option.bind_eq_some_iff] at h1
          obtain ⟨l, hl, hk⟩ := h1
          exact ⟨_, _, hk, fun K' => by unfold abody; simp only [hfn, hc, hname, if_false]; rw [h2]; simp only [hl, Option.bind_some]⟩
    · simp at ha
  · simp at ha

theorem around_cps {CALL : CallT} {l : Nat} {args : List AV} {h : AHeap} {R : Type} {K : AV → AHeap → Option R} {r : R} (ha : around P CALL l args h K = some r) :
    ∃ v h', K v h' = some r ∧ ∀ {R' : Type} (K' : AV → AHeap → Option R'), around P CALL l args h K' = K' v h' := by
  unfold around at ha
  split at ha
  · rename_i L hl
    split at ha
    · rename_i hc
      obtain ⟨e, env1, h1, hk, hall⟩ := acode_cps ha
      cases e with
      | exit i => simp at hk
      | ret => simp at hk
      | norm =>
        simp only at hk
        split at hk
        · rename_i L1 hl1
          split at hk
          · rename_i hst
            obtain ⟨e2, env2, h2, hk2, hall2⟩ := acode_cps hk
            split at hk2
            · rename_i L2 hl2
              cases e2 with
              | norm => exact ⟨_, _, hk2, fun K' => by unfold around; simp only [hl]; rw [if_pos hc, hall]; simp only [hl1, hst, if_true]; rw [hall2]; simp only [hl2]⟩
              | exit i => exact ⟨_, _, hk2, fun K' => by unfold around; simp only [hl]; rw [if_pos hc, hall]; simp only [hl1, hst, if_true]; rw [hall2]; simp only [hl2]⟩
              | ret => exact ⟨_, _, hk2, fun K' => by unfold around; simp only [hl]; rw [if_pos hc, hall]; simp only [hl1, hst, if_true]; rw [hall2]; simp only [hl2]⟩
            · simp at hk2
          · simp at hk
        · simp at hk
    · simp at ha
  · simp at ha

/-- A function's body, as an entry. -/
def bodyE (P : Program) (CALL : CallT) (LS : LoopT) (f : FuncId) : Ent where
  run := abody P CALL LS f
  nat := fun args h K => by
    have := nat_of_cps (α := AV × AHeap) (fun {R} K => abody P CALL LS f args h fun v h => K (v, h)) (fun K r hr => by
      obtain ⟨v, h', h1, h2⟩ := abody_cps hr
      exact ⟨(v, h'), h1, fun K' => h2 _⟩) (fun x => K x.1 x.2)
    exact this

theorem around_nat (P : Program) (CALL : CallT) (l : Nat) (args : List AV) (h : AHeap) {R : Type} (K : AV → AHeap → Option R) :
    around P CALL l args h K = (around P CALL l args h fun v h => some (v, h)).bind fun x => K x.1 x.2 := by
  have := nat_of_cps (α := AV × AHeap) (fun {R} K => around P CALL l args h fun v h => K (v, h)) (fun K r hr => by
    obtain ⟨v, h', h1, h2⟩ := around_cps hr
    exact ⟨(v, h'), h1, fun K' => h2 _⟩) (fun x => K x.1 x.2)
  exact this

theorem Gd.wanted {ops : Array Oper} {o : Oper} {env : Env} {b : Bool} {tmps : Array Value} (hg : Gd ops.toList o env b) (hE : VRs σ env tmps.toList) : Region.wanted o (yielded ops tmps) = b := by
  unfold Region.wanted yielded
  cases hg with
  | free h => rw [h]
  | asks j want d b h hd he =>
    rw [h]
    rw [Array.getElem?_toList] at hd
    obtain ⟨v, h1, h2⟩ := hE.get he
    rw [Array.getElem?_toList] at h1
    simp only [hd, Option.bind_some, h1, h2.bool_inv]
    rfl
  | out j want h hd =>
    rw [h]
    rw [Array.getElem?_toList] at hd
    simp [hd]
  | undef j want d h hd he =>
    rw [h]
    rw [Array.getElem?_toList] at hd
    obtain ⟨v, h1, h2⟩ := hE.get he
    rw [Array.getElem?_toList] at h1
    cases h2
    simp [hd, h1]

theorem Gd.congr {ops : List Oper} {o : Oper} {env env' : Env} {b : Bool} (hg : Gd ops o env b) (hc : ∀ d, (∃ j want, o.guard = some (j, want) ∧ (ops[j]?).bind (·.dst) = some d) → env'[d]? = env[d]?) : Gd ops o env' b := by
  cases hg with
  | free h => exact .free h
  | asks j want d b h hd he => exact .asks j want d b h hd (by rw [hc d ⟨j, want, h, hd⟩]; exact he)
  | out j want h hd => exact .out j want h hd
  | undef j want d h hd he => exact .undef j want d h hd (by rw [hc d ⟨j, want, h, hd⟩]; exact he)

end Go.Abs
