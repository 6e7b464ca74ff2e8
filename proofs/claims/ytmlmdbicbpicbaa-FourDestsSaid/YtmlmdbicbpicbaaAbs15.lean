/- A region whose order is drawn, first part: what stands ahead of what; the run in the text's order; what stands in the slots behind whichever of its operations. -/
import Derived.Test.YtmlmdbicbpicbaaAbs14
set_option autoImplicit false
set_option linter.unusedVariables false
set_option linter.unusedSimpArgs false
namespace Go.Abs
variable {P : Program} {W0 : World} {σ : Sig} {h : AHeap} {w : World}

/-! ### What stands ahead -/

def bitsOf (acc : List Nat) (o : Oper) : Nat := (edgesOf o).foldl (fun s e => s ||| 2 ^ e.on ||| acc.getD e.on 0) 0

theorem bits_fold (acc : List Nat) (j : Nat) : ∀ (l : List Edge) (s : Nat), (l.foldl (fun s e => s ||| 2 ^ e.on ||| acc.getD e.on 0) s).testBit j = true →
    s.testBit j = true ∨ ∃ e ∈ l, e.on = j ∨ (acc.getD e.on 0).testBit j = true
  | [], s, h => .inl h
  | e :: l, s, h => by
    rcases bits_fold acc j l _ h with h1 | ⟨e', he, h1⟩
    · simp only [Nat.testBit_or, Bool.or_eq_true] at h1
      rcases h1 with (h1 | h1) | h1
      · exact .inl h1
      · exact .inr ⟨e, by simp, .inl (by simpa [Nat.testBit_two_pow] using h1)⟩
      · exact .inr ⟨e, by simp, .inr h1⟩
    · exact .inr ⟨e', by simp [he], h1⟩

theorem ahead_fold : ∀ (ops : List Oper) (acc : List Nat), ∃ new, ops.foldl (fun acc o => acc ++ [bitsOf acc o]) acc = acc ++ new ∧ new.length = ops.length ∧
    ∀ (k : Nat) (o : Oper), ops[k]? = some o → new[k]? = some (bitsOf (acc ++ new.take k) o)
  | [], acc => ⟨[], by simp, rfl, by simp⟩
  | o :: ops, acc => by
    obtain ⟨new, h1, h2, h3⟩ := ahead_fold ops (acc ++ [bitsOf acc o])
    refine ⟨bitsOf acc o :: new, by simp [h1], by simp [h2], fun k o' hk => ?_⟩
    cases k with
    | zero => simp at hk; subst hk; simp
    | succ k => simp at hk; rw [List.getElem?_cons_succ, h3 k o' hk]; simp

theorem ahead_spec {ops : List Oper} (hb : ∀ (j : Nat) o, ops[j]? = some o → ∀ e ∈ edgesOf o, e.on < j) {i j : Nat} (ht : ((aheadOf ops).getD i 0).testBit j = true) :
    ∃ o, ops[i]? = some o ∧ ∃ e ∈ edgesOf o, e.on = j ∨ ((aheadOf ops).getD e.on 0).testBit j = true := by
  obtain ⟨new, h1, h2, h3⟩ := ahead_fold ops []
  have ha : aheadOf ops = new := by
    have : aheadOf ops = ops.foldl (fun acc o => acc ++ [bitsOf acc o]) [] := rfl
    rw [this, h1]; rfl
  rw [ha] at ht ⊢
  cases ho : ops[i]? with
  | none =>
    have : new[i]? = none := by simp at ho ⊢; omega
    rw [List.getD_eq_getElem?_getD, this] at ht
    simp at ht
  | some o =>
    have h4 := h3 i o ho
    rw [List.getD_eq_getElem?_getD, h4] at ht
    simp only [Option.getD_some, bitsOf, List.nil_append] at ht
    rcases bits_fold _ j _ _ ht with h5 | ⟨e, he, h5⟩
    · simp at h5
    · refine ⟨o, rfl, e, he, ?_⟩
      rcases h5 with h5 | h5
      · exact .inl h5
      · right
        have := hb i o ho e he
        rw [List.getD_eq_getElem?_getD, List.getElem?_take_of_lt this] at h5
        rw [List.getD_eq_getElem?_getD]; exact h5

/-- What stands ahead is in whatever holds all that its own stand behind. -/
theorem ahead_in {ops : List Oper} (hb : ∀ (j : Nat) o, ops[j]? = some o → ∀ e ∈ edgesOf o, e.on < j) {S : Nat → Prop} (hS : ∀ (j : Nat) o, S j → ops[j]? = some o → ∀ e ∈ edgesOf o, S e.on) :
    ∀ (i : Nat), (∀ o, ops[i]? = some o → ∀ e ∈ edgesOf o, S e.on) → ∀ j, ((aheadOf ops).getD i 0).testBit j = true → j < i ∧ S j := by
  intro i
  induction i using Nat.strongRecOn with
  | _ i ih =>
    intro hi j ht
    obtain ⟨o, ho, e, he, h⟩ := ahead_spec hb ht
    have hlt := hb i o ho e he
    rcases h with rfl | h
    · exact ⟨hlt, hi o ho e he⟩
    · obtain ⟨h1, h2⟩ := ih e.on hlt (fun o' ho' => hS _ _ (hi o ho e he) ho') j h
      exact ⟨Nat.lt_trans h1 hlt, h2⟩

/-! ### The run in the text's order -/

def ENV (T : List Rec) (envE : Env) (i : Nat) : Env := match T[i]? with | some x => x.env | none => envE
def HP (T : List Rec) (hE : AHeap) (i : Nat) : AHeap := match T[i]? with | some x => x.h | none => hE

structure TOk (P : Program) (CALL : CallT) (ops : List Oper) (env0 : Env) (h0 : AHeap) (T : List Rec) (envE : Env) (hE : AHeap) : Prop where
  env0 : ENV T envE 0 = env0
  h0 : HP T hE 0 = h0
  all : ∀ (i : Nat) x, T[i]? = some x → ∃ o, ops[i]? = some o ∧ Gd ops o x.env x.ran ∧ (x.ran = true → GoesX P CALL x.h x.env o x.v x.h') ∧ (x.ran = false → x.v = .tup [] ∧ x.h' = x.h) ∧
    ENV T envE (i + 1) = aput x.env o.dst x.v ∧ HP T hE (i + 1) = x.h'

theorem TOk.snoc {CALL : CallT} {ops : List Oper} {env0 : Env} {h0 : AHeap} {T : List Rec} {envE : Env} {hE : AHeap} (t : TOk P CALL ops env0 h0 T envE hE) {o : Oper} (ho : ops[T.length]? = some o)
    {b : Bool} (hg : Gd ops o envE b) {v : AV} {h' : AHeap} (hgo : b = true → GoesX P CALL hE envE o v h') (hsk : b = false → v = .tup [] ∧ h' = hE) :
    TOk P CALL ops env0 h0 (T ++ [⟨b, v, envE, hE, h'⟩]) (aput envE o.dst v) h' := by
  have e1 : ∀ i, i ≤ T.length → ENV (T ++ [⟨b, v, envE, hE, h'⟩]) (aput envE o.dst v) i = ENV T envE i := fun i hi => by
    unfold ENV
    rcases Nat.lt_or_ge i T.length with h | h
    · rw [List.getElem?_append_left h]
      cases hx : T[i]? with
      | none => simp at hx; omega
      | some x => rfl
    · have : i = T.length := by omega
      subst this
      simp
  have e2 : ∀ i, i ≤ T.length → HP (T ++ [⟨b, v, envE, hE, h'⟩]) h' i = HP T hE i := fun i hi => by
    unfold HP
    rcases Nat.lt_or_ge i T.length with h | h
    · rw [List.getElem?_append_left h]
      cases hx : T[i]? with
      | none => simp at hx; omega
      | some x => rfl
    · have : i = T.length := by omega
      subst this
      simp
  refine ⟨by rw [e1 0 (by omega)]; exact t.env0, by rw [e2 0 (by omega)]; exact t.h0, fun i x hx => ?_⟩
  rcases Nat.lt_or_ge i T.length with hi | hi
  · rw [List.getElem?_append_left hi] at hx
    obtain ⟨o', h1, h2, h3, h4, h5, h6⟩ := t.all i x hx
    exact ⟨o', h1, h2, h3, h4, by rw [e1 (i + 1) hi]; exact h5, by rw [e2 (i + 1) hi]; exact h6⟩
  · have hlt := (List.getElem?_eq_some_iff.1 hx).1
    simp at hlt
    have : i = T.length := by omega
    subst this
    simp at hx; subst hx
    exact ⟨o, ho, hg, hgo, hsk, by simp [ENV], by simp [HP]⟩

theorem adraw_trace {CALL : CallT} {ops : List Oper} {env0 : Env} {h0 : AHeap} {RT : Type} {K : List Rec → Env → AHeap → Option RT} {r : RT} :
    ∀ (m k : Nat) {env : Env} {h : AHeap} {T : List Rec}, adraw P CALL ops (List.range' k m) env h T K = some r → T.length = k → TOk P CALL ops env0 h0 T env h →
      ∃ T' env' h', K T' env' h' = some r ∧ T'.length = k + m ∧ TOk P CALL ops env0 h0 T' env' h'
  | 0, k, env, h, T, ha, hl, t => ⟨T, env, h, by simpa [adraw] using ha, hl, t⟩
  | m + 1, k, env, h, T, ha, hl, t => by
    rw [List.range'_succ] at ha
    unfold adraw at ha
    split at ha
    · simp at ha
    · rename_i o ho
      obtain ⟨b, hg, hb⟩ := aguard_cps ha
      subst hl
      cases b with
      | true =>
        simp only [if_true] at hb
        obtain ⟨v, h', hk, hgo⟩ := aexec_cps hb
        obtain ⟨T', env', h'', h1, h2, h3⟩ := adraw_trace m (T.length + 1) hk (by simp) (t.snoc ho hg (fun _ => hgo) (by simp))
        exact ⟨T', env', h'', h1, by omega, h3⟩
      | false =>
        simp only [Bool.false_eq_true, if_false] at hb
        obtain ⟨T', env', h'', h1, h2, h3⟩ := adraw_trace m (T.length + 1) hb (by simp) (t.snoc ho hg (by simp) (fun _ => ⟨rfl, rfl⟩))
        exact ⟨T', env', h'', h1, by omega, h3⟩

theorem alooks_some {ops : List Oper} {T : List Rec} {RT : Type} {K : Option RT} {r : RT} : ∀ {l : List (Nat × Nat)}, alooks P ops T l K = some r →
    K = some r ∧ ∀ i c, (i, c) ∈ l → ∀ x y o, T[i]? = some x → T[c]? = some y → ops[i]? = some o → x.ran = true → y.ran = true → alook P o x.env (if c < i then y.h else y.h') = some x.v
  | [], h => ⟨h, by simp⟩
  | (i, c) :: l, h => by
    unfold alooks at h
    split at h
    · rename_i x y o hx hy ho
      split at h
      · rename_i hr
        rw [alookK_eq] at h
        obtain ⟨h1, h2⟩ := asame_some h
        obtain ⟨h3, h4⟩ := alooks_some h2
        refine ⟨h3, fun i' c' hm x' y' o' hx' hy' ho' r1 r2 => ?_⟩
        rcases List.mem_cons.1 hm with hm | hm
        · cases hm
          rw [hx] at hx'; rw [hy] at hy'; rw [ho] at ho'
          cases hx'; cases hy'; cases ho'
          exact h1
        · exact h4 i' c' hm x' y' o' hx' hy' ho' r1 r2
      · rename_i hr
        obtain ⟨h3, h4⟩ := alooks_some h
        refine ⟨h3, fun i' c' hm x' y' o' hx' hy' ho' r1 r2 => ?_⟩
        rcases List.mem_cons.1 hm with hm | hm
        · cases hm
          rw [hx] at hx'; rw [hy] at hy'
          cases hx'; cases hy'
          simp [r1, r2] at hr
        · exact h4 i' c' hm x' y' o' hx' hy' ho' r1 r2
    · simp at h

/-! ### What is asked of the region -/

theorem ahead_length (ops : List Oper) : (aheadOf ops).length = ops.length := by
  obtain ⟨new, h1, h2, _⟩ := ahead_fold ops []
  show (ops.foldl (fun acc o => acc ++ [bitsOf acc o]) []).length = _
  rw [h1]; simpa using h2

structure DOk (P : Program) (ops : List Oper) (n : Nat) : Prop where
  back0 : ∀ md : Region.Mode, ∃ rk : Nat → Nat, ∀ (j : Nat) o, ops[j]? = some o → ∀ e ∈ o.after.toList, Region.binds md e = true → e.on < ops.length ∧ rk e.on < rk j
  back : ∀ (j : Nat) o, ops[j]? = some o → ∀ e ∈ edgesOf o, e.on < j ∧ ∀ m, Region.binds m e = true
  once : ∀ (i j : Nat) o o' d, ops[j]? = some o → ops[i]? = some o' → i ≠ j → o.dst = some d → o'.dst ≠ some d
  names : ∀ (i j : Nat) o o' d, ops[j]? = some o → ops[i]? = some o' → i ≠ j → o.dst = some d → ordered (aheadOf ops) i j = true ∨ d ∉ namesRead ops o'
  row : ∀ (i j : Nat) o o', ops[j]? = some o → ops[i]? = some o' → i < j → heavy P o.op = true → heavy P o'.op = true → ordered (aheadOf ops) i j = true ∨
    (late o.op = true ∧ ∀ k, ((aheadOf ops).getD k 0).testBit j = true → ((aheadOf ops).getD k 0).testBit i = true)
  lt : ∀ (j : Nat) o d, ops[j]? = some o → o.dst = some d → d < n

theorem mem_zip {ops : List Oper} {j : Nat} {o : Oper} (h : ops[j]? = some o) : (o, j) ∈ ops.zipIdx := by
  rw [List.mem_zipIdx_iff_getElem?]; exact h

theorem drawOk_spec {ops : List Oper} {n : Nat} (h : drawOk P ops n = true) : DOk P ops n := by
  unfold drawOk drawOkA at h
  simp only [Bool.and_eq_true, Bool.or_eq_true] at h
  obtain ⟨⟨h1, h2⟩, h3⟩ := h
  have key : ∀ (i j : Nat) o o', ops[j]? = some o → ops[i]? = some o' → i ≠ j →
      (match o.dst with | some d => decide (o'.dst ≠ some d) && (ordered (aheadOf ops) i j || !(namesRead ops o').contains d) | none => true) = true ∧ (ordered (aheadOf ops) i j || !(heavy P o.op && heavy P o'.op) || passes (aheadOf ops) ops i j) = true := by
    intro i j o o' ho ho' hij
    have h4 := List.all_eq_true.1 (List.all_eq_true.1 h2 (o, j) (mem_zip ho)) (o', i) (mem_zip ho')
    simp only [Bool.or_eq_true, Bool.and_eq_true, beq_iff_eq] at h4
    rcases h4 with h4 | h4
    · exact absurd h4 hij
    · exact ⟨h4.1, by simpa using h4.2⟩
  have hlt : ∀ {j : Nat} {o : Oper}, ops[j]? = some o → j < ops.length := fun h => (List.getElem?_eq_some_iff.1 h).1
  have hb1 : ∀ (j : Nat) o, ops[j]? = some o → ∀ e ∈ o.after.toList, (∀ r, e.ground ≠ .gcOnly r) → e.on < j := fun j o ho e he hg => by
    rcases h1 with h1 | ⟨h1, _⟩
    · have h4 := List.all_eq_true.1 (List.all_eq_true.1 h1 (o, j) (mem_zip ho)) e he
      simp only [Bool.and_eq_true, decide_eq_true_eq] at h4
      exact h4.1
    · have h4 := List.all_eq_true.1 (List.all_eq_true.1 h1 (o, j) (mem_zip ho)) e he
      simp only [Bool.and_eq_true, decide_eq_true_eq] at h4
      have h5 := h4.2
      first
        | (split at h5
           · rename_i r hr; exact absurd hr (hg r)
           · simpa using h5)
        | simpa using h5
  have hb0 : ∀ md : Region.Mode, ∃ rk : Nat → Nat, ∀ (j : Nat) o, ops[j]? = some o → ∀ e ∈ o.after.toList, Region.binds md e = true → e.on < ops.length ∧ rk e.on < rk j := by
    intro md
    by_cases hmd : md = .gc
    · subst hmd
      rcases h1 with h1 | ⟨h1, h1'⟩
      · refine ⟨id, fun j o ho e he _ => ?_⟩
        have h4 := List.all_eq_true.1 (List.all_eq_true.1 h1 (o, j) (mem_zip ho)) e he
        simp only [Bool.and_eq_true, decide_eq_true_eq] at h4
        have := hlt ho
        exact ⟨by omega, h4.1⟩
      · refine ⟨fun k => (Region.linearise .gc ops.toArray 0).idxOf k, fun j o ho e he hb => ?_⟩
        have h4 := List.all_eq_true.1 (List.all_eq_true.1 h1 (o, j) (mem_zip ho)) e he
        have h5 := List.all_eq_true.1 (List.all_eq_true.1 h1' (o, j) (mem_zip ho)) e he
        simp only [Bool.and_eq_true, decide_eq_true_eq] at h4
        refine ⟨h4.1, ?_⟩
        split at h5
        · rename_i r hr
          unfold Region.binds at hb
          rw [hr] at hb
          simp at hb
        · simpa using h5
    · refine ⟨id, fun j o ho e he hb => ?_⟩
      have h5 := hb1 j o ho e he fun r hr => by
        unfold Region.binds at hb
        rw [hr] at hb
        cases md <;> simp at hb hmd
      have := hlt ho
      exact ⟨by omega, h5⟩
  refine ⟨hb0, fun j o ho e he => ?_, fun i j o o' d ho ho' hij hd => ?_, fun i j o o' d ho ho' hij hd => ?_, fun i j o o' ho ho' hij hh hh' => ?_, fun j o d ho hd => ?_⟩
  · unfold edgesOf at he
    rw [List.mem_filter] at he
    have h5 := he.2
    refine ⟨hb1 j o ho e he.1 fun r hr => by rw [hr] at h5; simp at h5, fun m => ?_⟩
    unfold Region.binds
    split at h5
    · simp at h5
    · simp at h5
    · rename_i hn1 hn2
      split
      · rename_i r hr; exact absurd hr (hn1 r)
      · rename_i r hr; exact absurd hr (hn2 r)
      · rfl
  · have h4 := (key i j o o' ho ho' hij).1
    rw [hd] at h4
    simp only [Bool.and_eq_true, decide_eq_true_eq] at h4
    exact h4.1
  · have h4 := (key i j o o' ho ho' hij).1
    rw [hd] at h4
    simp only [Bool.and_eq_true, Bool.or_eq_true] at h4
    rcases h4.2 with h5 | h5
    · exact .inl h5
    · right; simpa using h5
  · have h4 := (key i j o o' ho ho' (by omega)).2
    simp only [hh, hh', Bool.and_self, Bool.not_true, Bool.or_false, Bool.or_eq_true] at h4
    rcases h4 with h4 | h4
    · exact .inl h4
    · right
      unfold passes at h4
      have e1 : max i j = j := by omega
      have e2 : min i j = i := by omega
      rw [e1, e2, ho] at h4
      simp only [Bool.and_eq_true, List.all_eq_true, Bool.or_eq_true, Bool.not_eq_true', List.mem_range] at h4
      refine ⟨h4.1, fun k hk => ?_⟩
      by_cases hkl : k < ops.length
      · rcases h4.2 k hkl with h5 | h5
        · rw [hk] at h5; cases h5
        · exact h5
      · exfalso
        rw [List.getD_eq_getElem?_getD, List.getElem?_eq_none (by rw [ahead_length]; omega)] at hk
        simp at hk
  · have h4 := List.all_eq_true.1 h3 o (List.mem_of_getElem? ho)
    rw [hd] at h4
    simpa using h4

/-! ### What stands in the slots -/

structure EnvIs (ops : List Oper) (T : List Rec) (env0 : Env) (S : Nat → Prop) (env : Env) : Prop where
  len : env.length = env0.length
  wrote : ∀ (j : Nat) o x t, S j → ops[j]? = some o → T[j]? = some x → o.dst = some t → env[t]? = some x.v
  else_ : ∀ t, (∀ (j : Nat) o, S j → ops[j]? = some o → o.dst ≠ some t) → env[t]? = env0[t]?

theorem EnvIs.put {ops : List Oper} {n : Nat} (D : DOk P ops n) {T : List Rec} {env0 : Env} (hn : env0.length = n) {S S' : Nat → Prop} {env : Env} (E : EnvIs ops T env0 S env) {i : Nat} {o : Oper} {x : Rec}
    (ho : ops[i]? = some o) (hx : T[i]? = some x) (hS : ∀ j, S' j ↔ S j ∨ j = i) : EnvIs ops T env0 S' (aput env o.dst x.v) := by
  have hlen : (aput env o.dst x.v).length = env.length := by cases o.dst <;> simp [aput]
  refine ⟨by rw [hlen]; exact E.len, fun j o' y t hj ho' hy hd => ?_, fun t ht => ?_⟩
  · rcases (hS j).1 hj with h | rfl
    · by_cases hji : j = i
      · subst hji
        rw [ho] at ho'; cases ho'; rw [hx] at hy; cases hy
        rw [hd]; simp only [aput]
        have := D.lt _ _ _ ho hd
        simp [E.len, hn, this]
      · have h1 := E.wrote j o' y t h ho' hy hd
        cases hod : o.dst with
        | none => simpa [aput] using h1
        | some d =>
          have : d ≠ t := fun e => D.once i j o' o t ho' ho (Ne.symm hji) hd (by rw [hod, e])
          simp [aput, this, h1]
    · rw [ho] at ho'; cases ho'; rw [hx] at hy; cases hy
      rw [hd]; simp only [aput]
      have := D.lt _ _ _ ho hd
      simp [E.len, hn, this]
  · have h1 := E.else_ t fun j o' hj ho' => ht j o' ((hS j).2 (.inl hj)) ho'
    have h2 := ht i o ((hS i).2 (.inr rfl)) ho
    cases hod : o.dst with
    | none => simpa [aput] using h1
    | some d =>
      have : d ≠ t := fun e => h2 (by rw [hod, e])
      simp [aput, this, h1]

theorem EnvIs.agree {ops : List Oper} {T : List Rec} {env0 : Env} {S S' : Nat → Prop} {env env' : Env} (E : EnvIs ops T env0 S env) (E' : EnvIs ops T env0 S' env') (hT : T.length = ops.length) {t : Nat}
    (hS : ∀ (j : Nat) o, ops[j]? = some o → o.dst = some t → (S j ↔ S' j)) : env[t]? = env'[t]? := by
  by_cases hex : ∃ (j : Nat) (o : Oper), S j ∧ ops[j]? = some o ∧ o.dst = some t
  · obtain ⟨j, o, hj, ho, hd⟩ := hex
    have hlt : j < T.length := by rw [hT]; exact (List.getElem?_eq_some_iff.1 ho).1
    rw [E.wrote j o _ t hj ho (List.getElem?_eq_getElem hlt) hd, E'.wrote j o _ t ((hS j o ho hd).1 hj) ho (List.getElem?_eq_getElem hlt) hd]
  · rw [E.else_ t fun j o hj ho hd => hex ⟨j, o, hj, ho, hd⟩, E'.else_ t fun j o hj ho hd => hex ⟨j, o, (hS j o ho hd).2 hj, ho, hd⟩]

theorem EnvIs.text {CALL : CallT} {ops : List Oper} {n : Nat} (D : DOk P ops n) {env0 : Env} {h0 : AHeap} {T : List Rec} {envE : Env} {hE : AHeap} (hn : env0.length = n) (t : TOk P CALL ops env0 h0 T envE hE) (hT : T.length = ops.length) :
    ∀ i, i ≤ ops.length → EnvIs ops T env0 (· < i) (ENV T envE i)
  | 0, _ => by rw [t.env0]; exact ⟨rfl, fun j o x t hj => by omega, fun _ _ => rfl⟩
  | i + 1, hi => by
    have ih := EnvIs.text D hn t hT i (by omega)
    have hlt : i < T.length := by omega
    obtain ⟨o, ho, _, _, _, h5, _⟩ := t.all i _ (List.getElem?_eq_getElem hlt)
    rw [h5]
    have : ENV T envE i = T[i].env := by simp [ENV, hlt]
    rw [← this]
    exact ih.put D hn ho (List.getElem?_eq_getElem hlt) fun j => by omega

end Go.Abs
