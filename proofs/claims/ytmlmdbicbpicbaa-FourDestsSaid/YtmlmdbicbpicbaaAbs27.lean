/- The quick interpreter: code, loops, calls. -/
import Derived.Test.YtmlmdbicbpicbaaAbs26
set_option autoImplicit false
set_option linter.unusedVariables false
set_option linter.unusedSimpArgs false
namespace Go.Abs
variable {P : Program}

def aexecT {R : Type} (P : Program) (CALL : CallT) (o : Oper) (t : Tr) (h : AHeap) (K : AV → AHeap → Option R) : Option R :=
  aopV P h (aevT t) o K fun f args => CALL.run f args h K

theorem aexecT_eq {R : Type} {CALL : CallT} {o : Oper} {n : Nat} {t : Tr} {env : Env} (H : TR n t env) {h : AHeap} {K : AV → AHeap → Option R} : aexecT P CALL o t h K = aexec P CALL o env h K := by
  unfold aexecT aexec
  rw [H.ev, aopV_eq]

def aopsT {R : Type} (P : Program) (CALL : CallT) (pr : List (Nat × AV)) (ops : List Oper) : List Nat → Tr → AHeap → (Tr → AHeap → Option R) → Option R
  | [], t, h, K => K t h
  | i :: rest, t, h, K =>
    match ops[i]? with
    | none => none
    | some o =>
      aguardT ops o t
        (fun t => aexecT P CALL o t h fun v h' => putT pr t o.dst v fun t => aopsT P CALL pr ops rest t h' K)
        (fun t => aopsT P CALL pr ops rest (tput t o.dst (.tup [])) h K)

theorem aopsT_le {CALL : CallT} {pr : List (Nat × AV)} {ops : List Oper} {n : Nat} : ∀ {l : List Nat} {t : Tr} {env : Env} {h : AHeap} {RT : Type} {K : Tr → AHeap → Option RT} {r : RT}, TR n t env → aopsT P CALL pr ops l t h K = some r →
    ∃ t' env' h', TR n t' env' ∧ K t' h' = some r ∧ (∀ {R : Type} (K' : Tr → AHeap → Option R), aopsT P CALL pr ops l t h K' = K' t' h') ∧ (∀ {R : Type} (K' : Env → AHeap → Option R), aops P CALL ops l env h K' = K' env' h')
  | [], t, env, h, _, K, r, H, ha => ⟨t, env, h, H, by simpa [aopsT] using ha, fun K' => by simp [aopsT], fun K' => by simp [aops]⟩
  | i :: rest, t, env, h, _, K, r, H, ha => by
    unfold aopsT at ha
    split at ha
    · simp at ha
    · rename_i o ho
      obtain ⟨t1, env1, b, H1, hb, hT, hE⟩ := aguardT_le H ha
      cases b with
      | true =>
        simp only [if_true] at hb
        rw [aexecT_eq H1] at hb
        obtain ⟨v, h', hk, hgo⟩ := aexec_cps hb
        obtain ⟨t1', H1', hk, hpt⟩ := putT_le H1 hk
        obtain ⟨t2, env2, h2, H2, k1, k2, k3⟩ := aopsT_le H1' hk
        exact ⟨t2, env2, h2, H2, k1, fun K' => by unfold aopsT; simp only [ho]; rw [hT]; simp only [if_true]; rw [aexecT_eq H1, hgo, hpt, k2], fun K' => by unfold aops; simp only [ho]; rw [hE]; simp only [if_true]; rw [hgo, k3]⟩
      | false =>
        simp only [Bool.false_eq_true, if_false] at hb
        obtain ⟨t2, env2, h2, H2, k1, k2, k3⟩ := aopsT_le (H1.put o.dst (.tup [])) hb
        exact ⟨t2, env2, h2, H2, k1, fun K' => by unfold aopsT; simp only [ho]; rw [hT]; simp only [Bool.false_eq_true, if_false]; rw [k2], fun K' => by unfold aops; simp only [ho]; rw [hE]; simp only [Bool.false_eq_true, if_false]; rw [k3]⟩

/-! ### Drawn regions -/

structure RecT where
  ran : Bool
  v : AV
  t : Tr
  h : AHeap
  h' : AHeap

def adrawT {R : Type} (P : Program) (CALL : CallT) (pr : List (Nat × AV)) (ops : List Oper) : List Nat → Tr → AHeap → List RecT → (List RecT → Tr → AHeap → Option R) → Option R
  | [], t, h, T, K => K T.reverse t h
  | i :: rest, t, h, T, K =>
    match ops[i]? with
    | none => none
    | some o =>
      aguardT ops o t
        (fun t => aexecT P CALL o t h fun v h' => putT pr t o.dst v fun t' => adrawT P CALL pr ops rest t' h' (⟨true, v, t, h, h'⟩ :: T) K)
        (fun t => adrawT P CALL pr ops rest (tput t o.dst (.tup [])) h (⟨false, .tup [], t, h, h⟩ :: T) K)

structure RecR (n : Nat) (a : RecT) (b : Rec) : Prop where
  ran : a.ran = b.ran
  v : a.v = b.v
  t : TR n a.t b.env
  h : a.h = b.h
  h' : a.h' = b.h'

theorem adrawT_le {CALL : CallT} {pr : List (Nat × AV)} {ops : List Oper} {n : Nat} : ∀ {l : List Nat} {t : Tr} {env : Env} {h : AHeap} {T : List RecT} {T' : List Rec} {RT : Type} {K : List RecT → Tr → AHeap → Option RT} {r : RT}, TR n t env → All2 (RecR n) T.reverse T' →
    adrawT P CALL pr ops l t h T K = some r →
    ∃ T2 T2' t' env' h', All2 (RecR n) T2 T2' ∧ TR n t' env' ∧ K T2 t' h' = some r ∧ (∀ {R : Type} (K' : List RecT → Tr → AHeap → Option R), adrawT P CALL pr ops l t h T K' = K' T2 t' h') ∧
      (∀ {R : Type} (K' : List Rec → Env → AHeap → Option R), adraw P CALL ops l env h T' K' = K' T2' env' h')
  | [], t, env, h, T, T', _, K, r, H, HT, ha => ⟨_, _, t, env, h, HT, H, by simpa [adrawT] using ha, fun K' => by simp [adrawT], fun K' => by simp [adraw]⟩
  | i :: rest, t, env, h, T, T', _, K, r, H, HT, ha => by
    unfold adrawT at ha
    split at ha
    · simp at ha
    · rename_i o ho
      obtain ⟨t1, env1, b, H1, hb, hT, hE⟩ := aguardT_le H ha
      cases b with
      | true =>
        simp only [if_true] at hb
        rw [aexecT_eq H1] at hb
        obtain ⟨v, h', hk, hgo⟩ := aexec_cps hb
        obtain ⟨t1', H1', hk, hpt⟩ := putT_le H1 hk
        obtain ⟨T2, T2', t2, env2, h2, HT2, H2, k1, k2, k3⟩ := adrawT_le (T' := T' ++ [⟨true, v, env1, h, h'⟩]) H1' (by rw [List.reverse_cons]; exact HT.append (.cons _ _ _ _ ⟨rfl, rfl, H1, rfl, rfl⟩ .nil)) hk
        exact ⟨T2, T2', t2, env2, h2, HT2, H2, k1, fun K' => by unfold adrawT; simp only [ho]; rw [hT]; simp only [if_true]; rw [aexecT_eq H1, hgo, hpt, k2], fun K' => by unfold adraw; simp only [ho]; rw [hE]; simp only [if_true]; rw [hgo, k3]⟩
      | false =>
        simp only [Bool.false_eq_true, if_false] at hb
        obtain ⟨T2, T2', t2, env2, h2, HT2, H2, k1, k2, k3⟩ := adrawT_le (T' := T' ++ [⟨false, .tup [], env1, h, h⟩]) (H1.put o.dst (.tup [])) (by rw [List.reverse_cons]; exact HT.append (.cons _ _ _ _ ⟨rfl, rfl, H1, rfl, rfl⟩ .nil)) hb
        exact ⟨T2, T2', t2, env2, h2, HT2, H2, k1, fun K' => by unfold adrawT; simp only [ho]; rw [hT]; simp only [Bool.false_eq_true, if_false]; rw [k2], fun K' => by unfold adraw; simp only [ho]; rw [hE]; simp only [Bool.false_eq_true, if_false]; rw [k3]⟩

def alookT {R : Type} (P : Program) (o : Oper) (t : Tr) (h : AHeap) (v : AV) (K : Option R) : Option R := aopV P h (aevT t) o (fun u _ => if AV.beq u v = true then K else none) fun _ _ => none

def alooksT {R : Type} (P : Program) (ops : List Oper) (T : List RecT) : List (Nat × Nat) → Option R → Option R
  | [], K => K
  | (i, c) :: l, K =>
    match T[i]?, T[c]?, ops[i]? with
    | some x, some y, some o =>
      if (x.ran && y.ran) = true then alookT P o x.t (if c < i then y.h else y.h') x.v (alooksT P ops T l K) else alooksT P ops T l K
    | _, _, _ => none

theorem All2.none {α β : Type} {r : α → β → Prop} : ∀ {l : List α} {m : List β}, All2 r l m → ∀ {i : Nat}, (l[i]? = none ↔ m[i]? = none)
  | _, _, .nil, i => by simp
  | _, _, .cons _ _ _ _ _ _, 0 => by simp
  | _, _, .cons _ _ _ _ _ t, i + 1 => by simpa using t.none (i := i)

theorem alooksT_eq {R : Type} {ops : List Oper} {n : Nat} {T : List RecT} {T' : List Rec} (H : All2 (RecR n) T T') (K : Option R) : ∀ l : List (Nat × Nat), alooksT P ops T l K = alooks P ops T' l K
  | [] => rfl
  | (i, c) :: l => by
    have ih := alooksT_eq (ops := ops) H K l
    unfold alooksT alooks
    rw [ih]
    cases h1 : T[i]? with
    | none => rw [H.none.1 h1]
    | some x =>
      cases h1' : T'[i]? with
      | none => rw [H.none.2 h1'] at h1; cases h1
      | some x' =>
        have hx := H.get h1 h1'
        cases h2 : T[c]? with
        | none => rw [H.none.1 h2]
        | some y =>
          cases h2' : T'[c]? with
          | none => rw [H.none.2 h2'] at h2; cases h2
          | some y' =>
            have hy := H.get h2 h2'
            cases ops[i]? with
            | none => rfl
            | some o =>
              simp only
              rw [hx.ran, hy.ran, hx.v, hy.h, hy.h']
              split
              · unfold alookT alookK
                rw [hx.t.ev, aopV_eq]
              · rfl

theorem adraw_aops {CALL : CallT} {ops : List Oper} {R : Type} {K : Env → AHeap → Option R} : ∀ (l : List Nat) (env : Env) (h : AHeap) (T : List Rec), adraw P CALL ops l env h T (fun _ env h => K env h) = aops P CALL ops l env h K
  | [], env, h, T => rfl
  | i :: rest, env, h, T => by
    unfold adraw aops
    cases ops[i]? with
    | none => rfl
    | some o =>
      simp only [adraw_aops rest]

/-! ### Code -/

structure LoopP where
  run : {R : Type} → Nat → Tr → AHeap → (AEx → Tr → AHeap → Option R) → Option R
  s : LoopF
  ok : ∀ {R : Type} {n : Nat} {t : Tr} {env : Env} {h : AHeap} {K : AEx → Tr → AHeap → Option R} {r : R}, TR n t env → run n t h K = some r →
    ∃ e t' env' h', TR n t' env' ∧ K e t' h' = some r ∧ (∀ {R' : Type} (K' : AEx → Tr → AHeap → Option R'), run n t h K' = K' e t' h') ∧ (∀ {R' : Type} (K' : AEx → Env → AHeap → Option R'), s.run env h K' = K' e env' h')

abbrev LoopTT := Nat → Option LoopP

def lsT (L : LoopTT) : LoopT := fun k => (L k).map (·.s)

def acodeT {R : Type} (P : Program) (CALL : CallT) (pr : List (Nat × AV)) (LS : LoopTT) (n : Nat) : Code → Tr → AHeap → (AEx → Tr → AHeap → Option R) → Option R
  | .skip, t, h, K => K .norm t h
  | .label _, t, h, K => K .norm t h
  | .region _ ops draw, t, h, K =>
    if draw then (if drawOk P ops.toList n = true then (match unordered P ops.toList with
        | [] => aopsT P CALL pr ops.toList (List.range ops.toList.length) t h fun t h => K .norm t h
        | u :: us => adrawT P CALL pr ops.toList (List.range ops.toList.length) t h [] fun T t h => alooksT P ops.toList T (u :: us) (K .norm t h)) else none)
    else aopsT P CALL pr ops.toList (List.range ops.toList.length) t h fun t h => K .norm t h
  | .seq a b, t, h, K => acodeT P CALL pr LS n a t h fun e t h => match e with
    | .norm => acodeT P CALL pr LS n b t h K
    | e => K e t h
  | .cond c a b, t, h, K =>
    match aevT t c with
    | .bool x => if x = true then acodeT P CALL pr LS n a t h K else acodeT P CALL pr LS n b t h K
    | _ => none
  | .block i c, t, h, K => acodeT P CALL pr LS n c t h fun e t h => match e with
    | .exit j => if j = i then K .norm t h else K (.exit j) t h
    | e => K e t h
  | .loop c, t, h, K =>
    match LS (firstReg c) with
    | some s => s.run n t h K
    | none => none
  | .rangeFunc g ps a c, t, h, K =>
    match aevT t g with
    | .fn (.func id) cap =>
      CALL.run (.func id) (.fn (.yield h.length) [] :: cap) (h ++ [.lp { st := .ready, pend := none, env := toL n t, ps := ps.toList, asg := a, body := c }]) fun _ h2 =>
        match h2[h.length]? with
        | some (.lp L) =>
          if L.st = .busy then none else
          match L.pend with
          | none => K .norm t (h2.set h.length (.lp { L with st := .exhausted }))
          | some e => K e t (h2.set h.length (.lp { L with st := .exhausted }))
        | _ => none
    | _ => none
  | .exit i, t, h, K => K (.exit i) t h
  | .ret, t, h, K => K .ret t h
  | _, _, _, _ => none

theorem acodeT_le {CALL : CallT} {pr : List (Nat × AV)} {LS : LoopTT} {n : Nat} : ∀ {c : Code} {t : Tr} {env : Env} {h : AHeap} {RT : Type} {K : AEx → Tr → AHeap → Option RT} {r : RT}, TR n t env → acodeT P CALL pr LS n c t h K = some r →
    ∃ e t' env' h', TR n t' env' ∧ K e t' h' = some r ∧ (∀ {R : Type} (K' : AEx → Tr → AHeap → Option R), acodeT P CALL pr LS n c t h K' = K' e t' h') ∧
      (∀ {R : Type} (K' : AEx → Env → AHeap → Option R), acode P CALL (lsT LS) c env h K' = K' e env' h') := by
  intro c
  induction c with
  | skip => intro t env h RT K r H ha; exact ⟨_, _, _, _, H, ha, fun K' => rfl, fun K' => rfl⟩
  | label l => intro t env h RT K r H ha; exact ⟨_, _, _, _, H, ha, fun K' => rfl, fun K' => rfl⟩
  | exit i => intro t env h RT K r H ha; exact ⟨_, _, _, _, H, ha, fun K' => rfl, fun K' => rfl⟩
  | ret => intro t env h RT K r H ha; exact ⟨_, _, _, _, H, ha, fun K' => rfl, fun K' => rfl⟩
  | scope c ih => intro t env h RT K r H ha; simp [acodeT] at ha
  | goto l => intro t env h RT K r H ha; simp [acodeT] at ha
  | refuse s => intro t env h RT K r H ha; simp [acodeT] at ha
  | region id ops draw =>
    intro t env h RT K r H ha
    unfold acodeT at ha
    cases draw with
    | true =>
      simp only [if_true] at ha
      split at ha
      · rename_i hok
        have hok' : drawOk P ops.toList env.length = true := by rw [H.len]; exact hok
        split at ha
        · rename_i hu
          obtain ⟨t', env', h', H', h1, h2, h3⟩ := aopsT_le H ha
          refine ⟨.norm, t', env', h', H', h1, fun K' => by unfold acodeT; simp only [hok, if_true, hu]; rw [h2], fun K' => ?_⟩
          unfold acode
          simp only [hok', if_true, hu]
          show adraw P CALL ops.toList (List.range ops.toList.length) env h [] (fun _ env h => K' .norm env h) = _
          rw [adraw_aops, h3]
        · rename_i u us hu
          obtain ⟨T2, T2', t', env', h', HT, H', h1, h2, h3⟩ := adrawT_le (T' := []) H .nil ha
          rw [alooksT_eq HT] at h1
          obtain ⟨h4, h5⟩ := alooks_cps h1
          refine ⟨.norm, t', env', h', H', h4, fun K' => by unfold acodeT; simp only [hok, if_true, hu]; rw [h2, alooksT_eq HT, h5], fun K' => ?_⟩
          unfold acode
          simp only [hok', if_true, hu]
          rw [h3, h5]
      · simp at ha
    | false =>
      simp only [Bool.false_eq_true, if_false] at ha
      obtain ⟨t', env', h', H', h1, h2, h3⟩ := aopsT_le H ha
      exact ⟨.norm, t', env', h', H', h1, fun K' => by unfold acodeT; simp only [Bool.false_eq_true, if_false]; rw [h2], fun K' => by unfold acode; simp only [Bool.false_eq_true, if_false]; rw [h3]⟩
  | seq x y ihx ihy =>
    intro t env h RT K r H ha
    unfold acodeT at ha
    obtain ⟨e, t', env', h', H', h1, h2, h3⟩ := ihx H ha
    cases e with
    | norm =>
      obtain ⟨e2, t2, env2, h4, H2, k1, k2, k3⟩ := ihy H' h1
      exact ⟨e2, t2, env2, h4, H2, k1, fun K' => by unfold acodeT; rw [h2]; simp only; rw [k2], fun K' => by unfold acode; rw [h3]; simp only; rw [k3]⟩
    | exit i => exact ⟨_, _, _, _, H', h1, fun K' => by unfold acodeT; rw [h2], fun K' => by unfold acode; rw [h3]⟩
    | ret => exact ⟨_, _, _, _, H', h1, fun K' => by unfold acodeT; rw [h2], fun K' => by unfold acode; rw [h3]⟩
  | cond c x y ihx ihy =>
    intro t env h RT K r H ha
    unfold acodeT at ha
    split at ha
    · rename_i b hc
      have hc' : aev env c = .bool b := by rw [← H.ev]; exact hc
      have h1 := ha
      cases b with
      | true =>
        simp only [if_true] at h1
        obtain ⟨e, t', env', h', H', k1, k2, k3⟩ := ihx H h1
        exact ⟨e, t', env', h', H', k1, fun K' => by unfold acodeT; simp only [hc, if_true]; rw [k2], fun K' => by unfold acode; simp only [hc', if_true]; rw [k3]⟩
      | false =>
        simp only [Bool.false_eq_true, if_false] at h1
        obtain ⟨e, t', env', h', H', k1, k2, k3⟩ := ihy H h1
        exact ⟨e, t', env', h', H', k1, fun K' => by unfold acodeT; simp only [hc, Bool.false_eq_true, if_false]; rw [k2], fun K' => by unfold acode; simp only [hc', Bool.false_eq_true, if_false]; rw [k3]⟩
    · simp at ha
  | block i c ih =>
    intro t env h RT K r H ha
    unfold acodeT at ha
    obtain ⟨e, t', env', h', H', h1, h2, h3⟩ := ih H ha
    cases e with
    | norm => exact ⟨_, _, _, _, H', h1, fun K' => by unfold acodeT; rw [h2], fun K' => by unfold acode; rw [h3]⟩
    | ret => exact ⟨_, _, _, _, H', h1, fun K' => by unfold acodeT; rw [h2], fun K' => by unfold acode; rw [h3]⟩
    | exit j =>
      simp only at h1
      split at h1
      · rename_i hj; exact ⟨_, _, _, _, H', h1, fun K' => by unfold acodeT; rw [h2]; simp only [hj, if_true], fun K' => by unfold acode; rw [h3]; simp only [hj, if_true]⟩
      · rename_i hj; exact ⟨_, _, _, _, H', h1, fun K' => by unfold acodeT; rw [h2]; simp only [hj, if_false], fun K' => by unfold acode; rw [h3]; simp only [hj, if_false]⟩
  | loop c ih =>
    intro t env h RT K r H ha
    unfold acodeT at ha
    split at ha
    · rename_i s hs
      obtain ⟨e, t', env', h', H', h1, h2, h3⟩ := s.ok H ha
      refine ⟨e, t', env', h', H', h1, fun K' => by unfold acodeT; simp only [hs]; exact h2 K', fun K' => ?_⟩
      unfold acode
      have : lsT LS (firstReg c) = some s.s := by simp [lsT, hs]
      simp only [this]
      exact h3 K'
    · simp at ha
  | rangeFunc g ps asg body iha ihb =>
    intro t env h RT K r H ha
    unfold acodeT at ha
    split at ha
    · rename_i id cap hg
      have hg' : aev env g = .fn (.func id) cap := by rw [← H.ev]; exact hg
      rw [CALL.nat] at ha
      simp only [Option.bind_eq_some_iff] at ha
      obtain ⟨⟨v, h1⟩, hcall, hk⟩ := ha
      simp only at hk
      have hcall' := hcall
      rw [H.toL] at hcall'
      split at hk
      · rename_i L hL
        split at hk
        · simp at hk
        · rename_i hb
          split at hk
          · rename_i hp
            exact ⟨_, _, _, _, H, hk, fun K' => by unfold acodeT; simp only [hg]; rw [CALL.nat, hcall]; simp only [Option.bind_some, hL, hb, if_false, hp],
              fun K' => by unfold acode; simp only [hg']; rw [CALL.nat, hcall']; simp only [Option.bind_some, hL, hb, if_false, hp]⟩
          · rename_i e hp
            exact ⟨_, _, _, _, H, hk, fun K' => by unfold acodeT; simp only [hg]; rw [CALL.nat, hcall]; simp only [Option.bind_some, hL, hb, if_false, hp],
              fun K' => by unfold acode; simp only [hg']; rw [CALL.nat, hcall']; simp only [Option.bind_some, hL, hb, if_false, hp]⟩
      · simp at hk
    · simp at ha

/-! ### Loops -/

def LoopP.ofF (s : LoopF) : LoopP where
  run := fun n t h K => s.run (toL n t) h fun e env h => if env.length = n then K e (ofL env) h else none
  s := s
  ok := fun {R n t env h K r} H ha => by
    rw [s.nat, H.toL] at ha
    simp only [Option.bind_eq_some_iff] at ha
    obtain ⟨⟨e, env', h'⟩, hx, hk⟩ := ha
    simp only at hk
    split at hk
    · rename_i hl
      have H' : TR n (ofL env') env' := by have := TR.ofL env'; rw [hl] at this; exact this
      exact ⟨e, _, env', h', H', hk, fun K' => by rw [s.nat, H.toL, hx]; simp [hl], fun K' => by rw [s.nat, hx]; rfl⟩
    · simp at hk

def fuelRunT (P : Program) (CALL : CallT) (LS : LoopTT) (c : Code) : Nat → {R : Type} → Nat → Tr → AHeap → (AEx → Tr → AHeap → Option R) → Option R
  | 0, _, _, _, _, _ => none
  | j + 1, _, n, t, h, K => acodeT P CALL [] LS n c t h fun e t' h' =>
    match e with
    | .norm => fuelRunT P CALL LS c j n t' h' K
    | .exit i => K (.exit i) t' h'
    | .ret => K .ret t' h'

theorem fuelRunT_le {CALL : CallT} {LS : LoopTT} {c : Code} : ∀ (j : Nat) {R : Type} {n : Nat} {t : Tr} {env : Env} {h : AHeap} {K : AEx → Tr → AHeap → Option R} {r : R}, TR n t env → fuelRunT P CALL LS c j n t h K = some r →
    ∃ e t' env' h', TR n t' env' ∧ K e t' h' = some r ∧ (∀ {R' : Type} (K' : AEx → Tr → AHeap → Option R'), fuelRunT P CALL LS c j n t h K' = K' e t' h') ∧
      (∀ {R' : Type} (K' : AEx → Env → AHeap → Option R'), fuelRun P CALL (lsT LS) c j env h K' = K' e env' h')
  | 0, R, n, t, env, h, K, r, H, hr => by simp [fuelRunT] at hr
  | j + 1, R, n, t, env, h, K, r, H, hr => by
    unfold fuelRunT at hr
    obtain ⟨e, t', env', h', H', h1, h2, h3⟩ := acodeT_le H hr
    cases e with
    | norm =>
      obtain ⟨e2, t2, env2, h4, H2, k1, k2, k3⟩ := fuelRunT_le j H' h1
      exact ⟨e2, t2, env2, h4, H2, k1, fun K' => by unfold fuelRunT; rw [h2]; exact k2 K', fun K' => by unfold fuelRun; rw [h3]; exact k3 K'⟩
    | exit i => exact ⟨_, _, _, _, H', h1, fun K' => by unfold fuelRunT; rw [h2], fun K' => by unfold fuelRun; rw [h3]⟩
    | ret => exact ⟨_, _, _, _, H', h1, fun K' => by unfold fuelRunT; rw [h2], fun K' => by unfold fuelRun; rw [h3]⟩

def fuelP (P : Program) (CALL : CallT) (LS : LoopTT) (c : Code) (j : Nat) : LoopP where
  run := fuelRunT P CALL LS c j
  s := fuelL P CALL (lsT LS) c j
  ok := fun H ha => fuelRunT_le j H ha

def noT : LoopTT := fun _ => none

def autoT (P : Program) (C : CallT) (F : Nat) : Nat → Code → LoopTT
  | 0, _ => noT
  | d + 1, c => fun k => if ((loopsOf c).map firstReg).Nodup then ((loopsOf c).find? fun b => firstReg b == k).map fun b => fuelP P C (autoT P C F d b) b F else none

theorem autoT_ls (P : Program) (C : CallT) (F : Nat) : ∀ (d : Nat) (c : Code), lsT (autoT P C F d c) = autoLS P C F d c
  | 0, c => rfl
  | d + 1, c => by
    funext k
    unfold lsT autoT autoLS
    split
    · cases (loopsOf c).find? fun b => firstReg b == k with
      | none => rfl
      | some b =>
        simp only [Option.map_some]
        show some (fuelL P C (lsT (autoT P C F d b)) b F) = _
        rw [autoT_ls]
    · rfl

def mixT (l : List (Nat × LoopF)) (r : LoopTT) : LoopTT := fun k => match lsOf l k with
  | some s => some (LoopP.ofF s)
  | none => r k

theorem mixT_ls (l : List (Nat × LoopF)) (r : LoopTT) : lsT (mixT l r) = mixLS l (lsT r) := by
  funext k
  unfold lsT mixT mixLS
  cases lsOf l k <;> rfl

/-! ### Functions -/

def aresultsT (P : Program) (t : Tr) (h : AHeap) : List ResultVar → Option (List AV)
  | [] => some []
  | .tmp i :: r => (aresultsT P t h r).map fun l => (t.get i).getD (.tup []) :: l
  | .cell a ty :: r => (aload P h ty ((t.get a).getD (.tup []))).bind fun v => (aresultsT P t h r).map fun l => v :: l

theorem aresultsT_eq {n : Nat} {t : Tr} {env : Env} (H : TR n t env) {h : AHeap} : ∀ rs : List ResultVar, aresultsT P t h rs = aresults P env h rs
  | [] => rfl
  | .tmp i :: r => by simp only [aresultsT, aresults, aresultsT_eq H r, H.get, List.getD]
  | .cell a ty :: r => by simp only [aresultsT, aresults, aresultsT_eq H r, H.get, List.getD]

def abodyT {R : Type} (P : Program) (CALL : CallT) (pr : List (Nat × AV)) (LS : LoopTT) (f : FuncId) (args : List AV) (h : AHeap) (K : AV → AHeap → Option R) : Option R :=
  match P.funcs[f]? with
  | some fn =>
    match fn.body with
    | some c =>
      if fn.name = "runtime.NumGoroutine" then none else
      if args.length ≤ fn.ntmps then
        acodeT P CALL pr LS fn.ntmps c (setL (Tr.mk (.tup []) fn.ntmps fn.ntmps) 0 args) h fun e t h =>
          match e with
          | .exit _ => none
          | _ => (aresultsT P t h fn.results.toList).bind fun l => K (aone l) h
      else none
    | none => none
  | none => none

theorem abodyT_le {CALL : CallT} {pr : List (Nat × AV)} {LS : LoopTT} {f : FuncId} {args : List AV} {h : AHeap} {R : Type} {K : AV → AHeap → Option R} {r : R} (ha : abodyT P CALL pr LS f args h K = some r) :
    ∃ v h', K v h' = some r ∧ (∀ {R' : Type} (K' : AV → AHeap → Option R'), abodyT P CALL pr LS f args h K' = K' v h') ∧ (∀ {R' : Type} (K' : AV → AHeap → Option R'), abody P CALL (lsT LS) f args h K' = K' v h') := by
  unfold abodyT at ha
  split at ha
  · rename_i fn hfn
    split at ha
    · rename_i c hc
      split at ha
      · simp at ha
      · rename_i hname
        split at ha
        · rename_i hn
          obtain ⟨e, t', env', h', H', h1, h2, h3⟩ := acodeT_le (TR.args hn) ha
          cases e with
          | exit i => simp at h1
          | norm =>
            simp only [Option.bind_eq_some_iff] at h1
            obtain ⟨l, hl, hk⟩ := h1
            have hl' := hl
            rw [aresultsT_eq H'] at hl'
            exact ⟨_, _, hk, fun K' => by unfold abodyT; simp only [hfn, hc, hname, if_false, hn, if_true]; rw [h2]; simp only [hl, Option.bind_some],
              fun K' => by unfold abody; simp only [hfn, hc, hname, if_false]; rw [h3]; simp only [hl', Option.bind_some]⟩
          | ret =>
            simp only [Option.bind_eq_some_iff] at h1
            obtain ⟨l, hl, hk⟩ := h1
            have hl' := hl
            rw [aresultsT_eq H'] at hl'
            exact ⟨_, _, hk, fun K' => by unfold abodyT; simp only [hfn, hc, hname, if_false, hn, if_true]; rw [h2]; simp only [hl, Option.bind_some],
              fun K' => by unfold abody; simp only [hfn, hc, hname, if_false]; rw [h3]; simp only [hl', Option.bind_some]⟩
        · simp at ha
    · simp at ha
  · simp at ha

theorem abodyT_nat {CALL : CallT} {pr : List (Nat × AV)} {LS : LoopTT} {f : FuncId} {args : List AV} {h : AHeap} {R : Type} (K : AV → AHeap → Option R) :
    abodyT P CALL pr LS f args h K = (abodyT P CALL pr LS f args h fun v h => some (v, h)).bind fun x => K x.1 x.2 := by
  have := nat_of_cps (α := AV × AHeap) (fun {R} K => abodyT P CALL pr LS f args h fun v h => K (v, h)) (fun K r hr => by
    obtain ⟨v, h', h1, h2, _⟩ := abodyT_le hr
    exact ⟨(v, h'), h1, fun K' => h2 _⟩) (fun x => K x.1 x.2)
  exact this

/-- A round of a loop over a function. -/
def aroundT {R : Type} (P : Program) (CALL : CallT) (l : Nat) (args : List AV) (h : AHeap) (K : AV → AHeap → Option R) : Option R :=
  match h[l]? with
  | some (.lp L) =>
    if L.st = .ready ∧ args.length = L.ps.length ∧ quiet L.asg = true ∧ quiet L.body = true then
      acodeT P CALL [] noT L.env.length L.asg (ofL (putSlots L.env (L.ps.zip args))) h fun e t h =>
        match e with
        | .norm =>
          match h[l]? with
          | some (.lp L1) =>
            if L1.st = .ready then
            acodeT P CALL [] noT L.env.length L.body t (h.set l (.lp { L1 with st := .busy })) fun e _ h =>
              match h[l]? with
              | some (.lp L2) =>
                match e with
                | .norm => K (.bool true) (h.set l (.lp { L2 with st := .ready, pend := none }))
                | e => K (.bool false) (h.set l (.lp { L2 with st := .done, pend := some e }))
              | _ => none
            else none
          | _ => none
        | _ => none
    else none
  | _ => none

theorem putSlots_length : ∀ (l : List (Tmp × AV)) (env : Env), (putSlots env l).length = env.length
  | [], _ => rfl
  | (t, v) :: r, env => by rw [putSlots, putSlots_length r]; simp

theorem lsT_no : lsT noT = fun _ => none := rfl

theorem aroundT_le {CALL : CallT} {l : Nat} {args : List AV} {h : AHeap} {R : Type} {K : AV → AHeap → Option R} {r : R} (ha : aroundT P CALL l args h K = some r) :
    ∃ v h', K v h' = some r ∧ (∀ {R' : Type} (K' : AV → AHeap → Option R'), aroundT P CALL l args h K' = K' v h') ∧ (∀ {R' : Type} (K' : AV → AHeap → Option R'), around P CALL l args h K' = K' v h') := by
  unfold aroundT at ha
  split at ha
  · rename_i L hl
    split at ha
    · rename_i hc
      have H0 : TR L.env.length (ofL (putSlots L.env (L.ps.zip args))) (putSlots L.env (L.ps.zip args)) := by
        have := TR.ofL (putSlots L.env (L.ps.zip args)); rw [putSlots_length] at this; exact this
      obtain ⟨e, t1, env1, h1, H1, hk, hall, hall'⟩ := acodeT_le H0 ha
      rw [lsT_no] at hall'
      cases e with
      | exit i => simp at hk
      | ret => simp at hk
      | norm =>
        simp only at hk
        split at hk
        · rename_i L1 hl1
          split at hk
          · rename_i hst
            obtain ⟨e2, t2, env2, h2, H2, hk2, hall2, hall2'⟩ := acodeT_le H1 hk
            rw [lsT_no] at hall2'
            split at hk2
            · rename_i L2 hl2
              cases e2 with
              | norm => exact ⟨_, _, hk2, fun K' => by unfold aroundT; simp only [hl]; rw [if_pos hc, hall]; simp only [hl1, hst, if_true]; rw [hall2]; simp only [hl2], fun K' => by unfold around; simp only [hl]; rw [if_pos hc, hall']; simp only [hl1, hst, if_true]; rw [hall2']; simp only [hl2]⟩
              | exit i => exact ⟨_, _, hk2, fun K' => by unfold aroundT; simp only [hl]; rw [if_pos hc, hall]; simp only [hl1, hst, if_true]; rw [hall2]; simp only [hl2], fun K' => by unfold around; simp only [hl]; rw [if_pos hc, hall']; simp only [hl1, hst, if_true]; rw [hall2']; simp only [hl2]⟩
              | ret => exact ⟨_, _, hk2, fun K' => by unfold aroundT; simp only [hl]; rw [if_pos hc, hall]; simp only [hl1, hst, if_true]; rw [hall2]; simp only [hl2], fun K' => by unfold around; simp only [hl]; rw [if_pos hc, hall']; simp only [hl1, hst, if_true]; rw [hall2']; simp only [hl2]⟩
            · simp at hk2
          · simp at hk
        · simp at hk
    · simp at ha
  · simp at ha

theorem aroundT_nat (P : Program) (CALL : CallT) (l : Nat) (args : List AV) (h : AHeap) {R : Type} (K : AV → AHeap → Option R) :
    aroundT P CALL l args h K = (aroundT P CALL l args h fun v h => some (v, h)).bind fun x => K x.1 x.2 := by
  have := nat_of_cps (α := AV × AHeap) (fun {R} K => aroundT P CALL l args h fun v h => K (v, h)) (fun K r hr => by
    obtain ⟨v, h', h1, h2, _⟩ := aroundT_le hr
    exact ⟨(v, h'), h1, fun K' => h2 _⟩) (fun x => K x.1 x.2)
  exact this

/-- Calls: by a table; else the body is run. -/
def deepRunT (P : Program) (t : Tbl) (C : CallT) (F : Nat) {R : Type} (fn : Fn) (args : List AV) (h : AHeap) (K : AV → AHeap → Option R) : Option R :=
  match fn with
  | .func f => match t.find f with
    | some E => E.run args h K
    | none => abodyT P C [] (autoT P C F 4 (bodyOf P f)) f args h K
  | .yield l => aroundT P C l args h K
  | _ => none

def deepT (P : Program) (t : Tbl) (F : Nat) : Nat → CallT
  | 0 => callOf P noCalls t
  | n + 1 => {
    run := deepRunT P t (deepT P t F n) F
    nat := fun fn args h K => by
      cases fn with
      | func f =>
        simp only [deepRunT]
        split
        · rename_i E _; exact E.nat args h K
        · exact abodyT_nat K
      | yield l => exact aroundT_nat P (deepT P t F n) l args h K
      | _ => rfl }

theorem deepT_sound {t : Tbl} (ht : ∀ f E, t.find f = some E → SoundE P f E) (F : Nat) (n : Nat) : SoundC P (deepT P t F n) := by
  induction n with
  | zero => exact callOf_sound noCalls_sound ht
  | succ n SC =>
    intro W0 σ h w fn args args' v h' hx R hv
    cases fn with
    | func f =>
      simp only [deepT, CallT.get, deepRunT] at hx
      split at hx
      · rename_i E hE; exact ht f E hE hx R hv
      · obtain ⟨v1, h1, h2, _, h3⟩ := abodyT_le hx
        simp only [Option.some.injEq, Prod.mk.injEq] at h2
        obtain ⟨rfl, rfl⟩ := h2
        rw [autoT_ls] at h3
        exact body_sound SC (auto_body SC F 4 f) (show (bodyE P (deepT P t F n) (autoLS P (deepT P t F n) F 4 (bodyOf P f)) f).get args h = some (v1, h1) by rw [bodyE_get]; exact h3 _) R hv
    | yield l =>
      intro p hp
      obtain ⟨v1, h1, h2, _, h3⟩ := aroundT_le (show aroundT P (deepT P t F n) l args h (fun v h => some (v, h)) = some (v, h') from hx)
      simp only [Option.some.injEq, Prod.mk.injEq] at h2
      obtain ⟨rfl, rfl⟩ := h2
      exact sim_round SC (h3 _) R hv hp
    | _ => simp [deepT, CallT.get, deepRunT] at hx

/-- A function's body: some loops told of, the others run. -/
def qrun {R : Type} (P : Program) (t : Tbl) (F n : Nat) (pr : List (Nat × AV)) (ls : List (Nat × LoopF)) (f : FuncId) (args : List AV) (h : AHeap) (K : AV → AHeap → Option R) : Option R :=
  abodyT P (deepT P t F n) pr (mixT ls (autoT P (deepT P t F n) F 4 (bodyOf P f))) f args h K

theorem qrun_sound {t : Tbl} (ht : ∀ f E, t.find f = some E → SoundE P f E) {F n : Nat} {pr : List (Nat × AV)} {ls : List (Nat × LoopF)} {f : FuncId} (hls : ∀ b ∈ loopsOf (bodyOf P f), ∀ s, lsOf ls (firstReg b) = some s → SoundS P s b)
    {args : List AV} {h : AHeap} {R : Type} {K : AV → AHeap → Option R} {r : R} (ha : qrun P t F n pr ls f args h K = some r) : ∃ v h', K v h' = some r ∧ ∃ E, SoundE P f E ∧ E.get args h = some (v, h') := by
  obtain ⟨v, h', h1, _, h3⟩ := abodyT_le ha
  rw [mixT_ls, autoT_ls] at h3
  refine ⟨v, h', h1, bodyE P (deepT P t F n) (mixLS ls (autoLS P (deepT P t F n) F 4 (bodyOf P f))) f, ?_, by rw [bodyE_get]; exact h3 _⟩
  refine body_sound (deepT_sound ht F n) fun fd c hf hb => ?_
  have e : bodyOf P f = c := by simp [bodyOf, hf, hb]
  intro b hbm s hs
  unfold mixLS at hs
  split at hs
  · rename_i s' hs'
    cases hs
    exact hls b (by rw [e]; exact hbm) _ hs'
  · exact auto_body (deepT_sound ht F n) F 4 f fd c hf hb b hbm s hs

def pickT' : List Bool → Nat → Tr → List AV
  | [], _, _ => []
  | true :: m, i, t => (t.get i).getD .any :: pickT' m (i + 1) t
  | false :: m, i, t => pickT' m (i + 1) t

theorem pickT'_eq {t : Tr} : ∀ (m : List Bool) (i : Nat) (env : Env), env.length = m.length → (∀ k, t.get (i + k) = env[k]?) → pickT' m i t = pickS m env
  | [], i, env, hl, h => by cases env <;> rfl
  | b :: m, i, [], hl, h => by simp at hl
  | true :: m, i, v :: e, hl, h => by
    have h0 := h 0
    simp only [Nat.add_zero, List.getElem?_cons_zero] at h0
    rw [pickT', pickS, h0, pickT'_eq m (i + 1) e (by simpa using hl) fun k => by rw [show i + 1 + k = i + (k + 1) by omega, h, List.getElem?_cons_succ]]
    rfl
  | false :: m, i, v :: e, hl, h => by
    rw [pickT', pickS, pickT'_eq m (i + 1) e (by simpa using hl) fun k => by rw [show i + 1 + k = i + (k + 1) by omega, h, List.getElem?_cons_succ]]

theorem spread_length : ∀ (m : List Bool) (vs : List AV), (spread m vs).length = m.length
  | [], _ => rfl
  | true :: m, v :: vs => by simp [spread, spread_length m vs]
  | true :: m, [] => by simp [spread, spread_length m []]
  | false :: m, vs => by simp [spread, spread_length m vs]

/-- One round. -/
def qround (P : Program) (t : Tbl) (F n : Nat) (pr : List (Nat × AV)) (LS : LoopTT) (c : Code) (m : List Bool) (vs : List AV) (h : AHeap) : Option (AEx × List AV × AHeap) :=
  acodeT P (deepT P t F n) pr LS m.length c (ofL (spread m vs)) h fun e t' h' => some (e, pickT' m 0 t', h')

theorem qround_le {t : Tbl} {F n : Nat} {pr : List (Nat × AV)} {LS : LoopTT} {c : Code} {m : List Bool} {vs : List AV} {h : AHeap} {x : AEx × List AV × AHeap} (ha : qround P t F n pr LS c m vs h = some x) : roundG P (deepT P t F n) (lsT LS) c m vs h = some x := by
  unfold qround at ha
  have H0 : TR m.length (ofL (spread m vs)) (spread m vs) := by
    have := TR.ofL (spread m vs); rw [spread_length] at this; exact this
  obtain ⟨e, t', env', h', H', h1, _, h3⟩ := acodeT_le H0 ha
  unfold roundG
  rw [h3, if_pos H'.len]
  simp only [Option.some.injEq] at h1
  subst h1
  rw [pickT'_eq m 0 env' H'.len fun k => by rw [Nat.zero_add]; exact H'.get k]

/-- A loop told at one state alone, in quick rounds. -/
theorem fixT {t : Tbl} (ht : ∀ f E, t.find f = some E → SoundE P f E) {F n : Nat} {LS : LoopTT} {c : Code} (hL : LoopsOk P (lsT LS) c) {m : List Bool} {g : GLoop}
    (hg : ∀ vs h e vs' h', g vs h = some (true, e, vs', h') → ∃ k, GReach (roundG P (deepT P t F n) (lsT LS) c m) h.length k vs h e vs' h') : SoundS P (loopF m g) c :=
  loopGc_sound (deepT_sound ht F n) hL hg

end Go.Abs
