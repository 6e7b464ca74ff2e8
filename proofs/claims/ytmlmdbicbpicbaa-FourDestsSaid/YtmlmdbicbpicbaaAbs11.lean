/- One operation, whichever it is. -/
import Derived.Test.YtmlmdbicbpicbaaAbs10b
set_option autoImplicit false
set_option linter.unusedVariables false
set_option linter.unusedSimpArgs false
namespace Go.Abs
variable {P : Program} {W0 : World} {σ : Sig} {h : AHeap} {w : World}

theorem aev_vr {env : Env} {a : Act} (hE : VRs σ env a.tmps.toList) (x : Operand) : VR σ (aev env x) (a.eval x) := by
  cases x with
  | tmp t =>
    simp only [aev, Act.eval, Array.getD_eq_getD_getElem?, List.getD_eq_getElem?_getD]
    cases he : env[t]? with
    | some v =>
      obtain ⟨v', h1, h2⟩ := hE.get he
      rw [Array.getElem?_toList] at h1
      rw [h1]; exact h2
    | none =>
      have : a.tmps[t]? = none := by
        have := hE.length
        simp at he this ⊢
        omega
      rw [this]; exact .tup [] [] .nil
  | const v => exact ofV_vr σ v
  | global g => exact .any _
  | func f => exact .fn f [] [] .nil

theorem aev_vrs {env : Env} {a : Act} (hE : VRs σ env a.tmps.toList) : ∀ l : List Operand, VRs σ (l.map (aev env)) (l.map a.eval) :=
  fun l => VRs.map_of _ _ l fun x _ => aev_vr hE x

theorem aev_opt {env : Env} {a : Act} (hE : VRs σ env a.tmps.toList) (x : Option Operand) : OptR σ (x.map (aev env)) (x.map a.eval) := by
  cases x with
  | none => trivial
  | some x => exact aev_vr hE x

theorem aev_parts {env : Env} {a : Act} (hE : VRs σ env a.tmps.toList) (ps : Array (Nat × Operand)) :
    PartsR σ (ps.toList.map fun p => (p.1, aev env p.2)) (ps.map fun (i, x) => (i, a.eval x)).toList := by
  refine ⟨by simp, fun j x y hx hy => ?_⟩
  simp only [Array.toList_map, List.getElem?_map, Option.map_eq_some_iff] at hx hy
  obtain ⟨p, hp, rfl⟩ := hx
  obtain ⟨q, hq, rfl⟩ := hy
  rw [hp] at hq; simp at hq; subst hq
  exact ⟨rfl, aev_vr hE _⟩

/-- What an operation yields, and the world behind it. -/
def DoneR (W0 : World) (σ : Sig) (h : AHeap) (w : World) (run : Result Next) (v : AV) (h' : AHeap) : Prop :=
  ∃ σ' w' v', (run = .ok (.value v') w' ∨ (run = .ok .skip w' ∧ v' = undef)) ∧ Stp σ h w σ' h' w' ∧ Rel W0 σ' h' w' ∧ VR σ' v v'

/-- A call is made. -/
def CallR (P : Program) (σ : Sig) (w : World) (run : Result Next) (fn : Fn) (args : List AV) : Prop :=
  ∃ args' : Array Value, VRs σ args args'.toList ∧
    match fn with
    | .func f => run = (callFunc f args').run P w
    | .yield l => ∃ p, σ[l]? = some p ∧ run = (Instr.yield p.blk args').run P w
    | _ => False

theorem DoneR.ofV {run : Result Value} {s : Sem Next} {v : AV} {h' : AHeap} (hs : SimV W0 σ h w run v h') (e : ∀ v' w', run = .ok v' w' → s.run P w = .ok (.value v') w') :
    DoneR W0 σ h w (s.run P w) v h' := by
  obtain ⟨σ', w', v', h1, h2, h3, h4⟩ := hs
  exact ⟨σ', w', v', .inl (e _ _ h1), h2, h3, h4⟩

theorem done_v {s : Sem Value} {v : AV} {h' : AHeap} (hs : SimV W0 σ h w (s.run P w) v h') : DoneR W0 σ h w ((do pure (Next.value (← s)) : Sem Next).run P w) v h' :=
  .ofV hs fun v' w' e => by simp [e]

theorem done_u {s : Sem Unit} {h' : AHeap} (hs : SimU W0 σ h w (s.run P w) h') : DoneR W0 σ h w ((do s; pure Next.skip : Sem Next).run P w) (.tup []) h' := by
  obtain ⟨σ', w', h1, h2, h3⟩ := hs
  exact ⟨σ', w', undef, .inr ⟨by simp [h1], rfl⟩, h2, h3, .tup [] [] .nil⟩

theorem done_still (R : Rel W0 σ h w) {s : Sem Value} {v : AV} (hs : ∃ v', s.run P w = .ok v' w ∧ VR σ v v') : DoneR W0 σ h w ((do pure (Next.value (← s)) : Sem Next).run P w) v h := by
  obtain ⟨v', h1, h2⟩ := hs
  exact done_v (.still R h1 h2)

theorem done_pure (R : Rel W0 σ h w) {v : AV} {v' : Value} (hv : VR σ v v') : DoneR W0 σ h w ((pure (Next.value v') : Sem Next).run P w) v h :=
  ⟨σ, w, v', .inl (by simp), Stp.refl _ _ _, R, hv⟩

theorem sim_min : ∀ {rest : List AV} {rest' : List Value} {x v : AV} {x' : Value}, VR σ x x' → VRs σ rest rest' → afold2 (amin2 false) x rest = some v → ∀ w, ∃ v', (rest'.foldlM Builtin.min2 x').run P w = .ok v' w ∧ VR σ v v'
  | [], _, x, v, x', hx, .nil, ha, w => by simp [afold2] at ha; subst ha; exact ⟨x', by simp, hx⟩
  | y :: rest, _, x, v, x', hx, .cons _ y' _ rest' hy t, ha, w => by
    simp only [afold2, Option.bind_eq_some_iff] at ha
    obtain ⟨z, hz, ha⟩ := ha
    unfold amin2 at hz
    split at hz
    · split at hz
      · simp at hz; subst hz
        cases hx; cases hy
        obtain ⟨v', h1, h2⟩ := sim_min (.int _ _) t ha w
        exact ⟨v', by simp [List.foldlM_cons, Builtin.min2, h1], h2⟩
      · simp at hz
    · simp at hz

theorem sim_max : ∀ {rest : List AV} {rest' : List Value} {x v : AV} {x' : Value}, VR σ x x' → VRs σ rest rest' → afold2 (amin2 true) x rest = some v → ∀ w, ∃ v', (rest'.foldlM Builtin.max2 x').run P w = .ok v' w ∧ VR σ v v'
  | [], _, x, v, x', hx, .nil, ha, w => by simp [afold2] at ha; subst ha; exact ⟨x', by simp, hx⟩
  | y :: rest, _, x, v, x', hx, .cons _ y' _ rest' hy t, ha, w => by
    simp only [afold2, Option.bind_eq_some_iff] at ha
    obtain ⟨z, hz, ha⟩ := ha
    unfold amin2 at hz
    split at hz
    · split at hz
      · simp at hz; subst hz
        cases hx; cases hy
        obtain ⟨v', h1, h2⟩ := sim_max (.int _ _) t ha w
        exact ⟨v', by simp [List.foldlM_cons, Builtin.max2, h1], h2⟩
      · simp at hz
    · simp at hz

theorem opSame_eq {a b : Operand} (h : opSame a b = true) : a = b := by
  unfold opSame at h
  split at h
  · simpa using h
  · simp only [Bool.and_eq_true, decide_eq_true_eq] at h
    rw [h.1, h.2]
  · simp at h

theorem sim_makeMap (R : Rel W0 σ h w) (t : TypeId) : SimV W0 σ h w ((Instr.makeMap t none).run P w) (.map (some h.length)) (h ++ [.mp [] 0]) := by
  have key := R.push (.map #[] 0) (.mp [] 0) 0 rfl ⟨#[], World.alloc_heap_new w _, .nil⟩
  exact ⟨_, _, _, by simp [Instr.makeMap], key.2, key.1, .map _ _ (R.newAt _)⟩

theorem bind_pair {α β γ : Type} {x : Option (α × β)} {K : α → β → Option γ} {r : γ} (h : (x.bind fun (y : α × β) => K y.1 y.2) = some r) : ∃ a b, x = some (a, b) ∧ K a b = some r := by
  cases x with
  | none => simp at h
  | some y => exact ⟨y.1, y.2, rfl, by simpa using h⟩

theorem bind_one {α γ : Type} {x : Option α} {K : α → Option γ} {r : γ} (h : (x.bind fun y => K y) = some r) : ∃ a, x = some a ∧ K a = some r := by
  cases x with
  | none => simp at h
  | some y => exact ⟨y, rfl, by simpa using h⟩

theorem list2 {α : Type} {l : Array α} {f : α → AV} {x y : AV} (h : l.toList.map f = [x, y]) : ∃ p q, l = #[p, q] ∧ x = f p ∧ y = f q := by
  obtain ⟨l⟩ := l
  match l, h with
  | [p, q], h => simp at h; exact ⟨p, q, rfl, h.1.symm, h.2.symm⟩

theorem list1 {α : Type} {l : Array α} {f : α → AV} {x : AV} (h : l.toList.map f = [x]) : ∃ p, l = #[p] ∧ x = f p := by
  obtain ⟨l⟩ := l
  match l, h with
  | [p], h => simp at h; exact ⟨p, rfl, h.symm⟩

theorem run_call (ρ : Operand → Value) (o : Oper) {c : Call} (ho : o.op = .call c) (w : World) : (execOp ρ o).run P w = (do let d ← resolve ρ c o.type; invoke d.target d.args : Sem Next).run P w := by
  simp only [execOp, ho]

theorem run_built (ρ : Operand → Value) (o : Oper) {c : Call} {b : Builtin} (ho : o.op = .call c) (hb : c.callee = .builtin b) (w : World) :
    ∃ cs, (execOp ρ o).run P w = (builtin b c.argTypes o.type cs (c.args.map ρ)).run P w := by
  refine ⟨c.args.map fun | .const _ => true | _ => false, ?_⟩
  rw [run_call ρ o ho]
  simp [resolve, hb, invoke]
  rfl

theorem run_fn (ρ : Operand → Value) (o : Oper) {c : Call} {f : Operand} {fn : Fn} {cap : Array Value} (ho : o.op = .call c) (hb : c.callee = .value f) (hf : ρ f = .func fn #[] cap) (w : World) :
    (execOp ρ o).run P w = (invoke (.fn fn cap) (c.args.map ρ)).run P w := by
  rw [run_call ρ o ho]
  simp [resolve, hb, hf, Deferred.ofValue]

theorem sim_builtin (R : Rel W0 σ h w) {env : Env} {a : Act} (hE : VRs σ env a.tmps.toList) {RT : Type} {K : AV → AHeap → Option RT} {r : RT} {c : Call} {b : Builtin} {ty : TypeId} {cs : Array Bool}
    (ha : (match b, c.args.toList.map (aev env), c.argTypes.toList with
      | .append, [s, x], ts => (aappend P h ts s x).bind fun (x : AV × AHeap) => K x.1 x.2
      | .copy, [d, s], ts => (acopy P h ts d s).bind fun (x : AV × AHeap) => K x.1 x.2
      | .len, [x], [t] => (alen P h t x).bind fun v => K v h
      | .cap, [x], [t] => (acap P t x).bind fun v => K v h
      | .clear, [x], [t] => (aclear P h t x).bind fun h' => K (.tup []) h'
      | .delete, [m, k], t :: _ => (adelete P h t m k).bind fun h' => K (.tup []) h'
      | .min, x :: r, _ => (afold2 (amin2 false) x r).bind fun v => K v h
      | .max, x :: r, _ => (afold2 (amin2 true) x r).bind fun v => K v h
      | _, _, _ => none) = some r) :
    ∃ v h', K v h' = some r ∧ DoneR W0 σ h w ((builtin b c.argTypes ty cs (c.args.map a.eval)).run P w) v h' := by
  have ev := aev_vr hE
  split at ha
  · rename_i hargs
    obtain ⟨p, q, hl, rfl, rfl⟩ := list2 hargs
    obtain ⟨v, h', hv, hk⟩ := bind_pair ha
    refine ⟨v, h', hk, ?_⟩
    simp only [builtin, hl, List.map_toArray, List.map_cons, List.map_nil]
    exact done_v (sim_append R (ev p) (ev q) hv)
  · rename_i hargs
    obtain ⟨p, q, hl, rfl, rfl⟩ := list2 hargs
    obtain ⟨v, h', hv, hk⟩ := bind_pair ha
    refine ⟨v, h', hk, ?_⟩
    simp only [builtin, hl, List.map_toArray, List.map_cons, List.map_nil]
    exact done_v (sim_copy R (ev p) (ev q) hv)
  · rename_i t hargs hts
    obtain ⟨p, hl, rfl⟩ := list1 hargs
    obtain ⟨v, hv, hk⟩ := bind_one ha
    refine ⟨v, h, hk, ?_⟩
    have : c.argTypes = #[t] := Array.ext' hts
    simp only [builtin, hl, this, List.map_toArray, List.map_cons, List.map_nil]
    exact done_still R (sim_len R (ev p) hv)
  · rename_i t hargs hts
    obtain ⟨p, hl, rfl⟩ := list1 hargs
    obtain ⟨v, hv, hk⟩ := bind_one ha
    refine ⟨v, h, hk, ?_⟩
    have : c.argTypes = #[t] := Array.ext' hts
    simp only [builtin, hl, this, List.map_toArray, List.map_cons, List.map_nil]
    exact done_still R (sim_cap (ev p) hv w)
  · rename_i t hargs hts
    obtain ⟨p, hl, rfl⟩ := list1 hargs
    obtain ⟨h', hv, hk⟩ := bind_one ha
    refine ⟨_, h', hk, ?_⟩
    have : c.argTypes = #[t] := Array.ext' hts
    simp only [builtin, hl, this, List.map_toArray, List.map_cons, List.map_nil]
    exact done_v (sim_clear R (ev p) hv)
  · rename_i t ts hargs hts
    obtain ⟨p, q, hl, rfl, rfl⟩ := list2 hargs
    obtain ⟨h', hv, hk⟩ := bind_one ha
    refine ⟨_, h', hk, ?_⟩
    have ht : c.argTypes[0]? = some t := by rw [← Array.getElem?_toList, hts]; rfl
    simp only [builtin, hl, List.map_toArray, List.map_cons, List.map_nil]
    obtain ⟨w', h1, h2, h3⟩ := sim_delete (ty := ty) R ht (ev p) (ev q) hv
    exact done_v ⟨_, _, _, h1, h3, h2, .tup [] [] .nil⟩
  · rename_i x rest hargs
    obtain ⟨v, hv, hk⟩ := bind_one ha
    refine ⟨v, h, hk, ?_⟩
    simp only [builtin]
    have hv' := aev_vrs hE c.args.toList
    rw [hargs] at hv'
    have e : (c.args.map a.eval).toList = c.args.toList.map a.eval := by simp
    cases hm : c.args.toList.map a.eval with
    | nil => rw [hm] at hv'; cases hv'
    | cons y rest' =>
      rw [hm] at hv'
      cases hv' with
      | cons _ _ _ _ h1 h2 =>
      obtain ⟨v', h3, h4⟩ := sim_min (P := P) h1 h2 hv w
      exact done_still R ⟨v', by simp only [Builtin.min_, e, hm, h3], h4⟩
  · rename_i x rest hargs
    obtain ⟨v, hv, hk⟩ := bind_one ha
    refine ⟨v, h, hk, ?_⟩
    simp only [builtin]
    have hv' := aev_vrs hE c.args.toList
    rw [hargs] at hv'
    have e : (c.args.map a.eval).toList = c.args.toList.map a.eval := by simp
    cases hm : c.args.toList.map a.eval with
    | nil => rw [hm] at hv'; cases hv'
    | cons y rest' =>
      rw [hm] at hv'
      cases hv' with
      | cons _ _ _ _ h1 h2 =>
      obtain ⟨v', h3, h4⟩ := sim_max (P := P) h1 h2 hv w
      exact done_still R ⟨v', by simp only [Builtin.max_, e, hm, h3], h4⟩
  · simp at ha

theorem VR.bool_inv {t : Bool} {v : Value} (hv : VR σ (.bool t) v) : v = .bool t := by cases hv; rfl
theorem VR.ptr_inv {b : Nat × Nat} {v : Value} (hv : VR σ (.ptr (some b)) v) : ∃ p, σ[b.1]? = some p ∧ v = .pointer (some ⟨p.blk, p.off + b.2, none⟩) := by cases hv; exact ⟨_, by assumption, rfl⟩
theorem VR.fn_inv {f : FuncId} {c : List AV} {v : Value} (hv : VR σ (.fn (.func f) c) v) : ∃ c', v = .func (.func f) #[] c' := by cases hv; exact ⟨_, rfl⟩
theorem VR.yield_inv {f : Nat} {c : List AV} {v : Value} (hv : VR σ (.fn (.yield f) c) v) : ∃ l, v = .func (.yield l) #[] #[] := by cases hv; exact ⟨_, rfl⟩

theorem sim_op (R : Rel W0 σ h w) {o : Oper} {env : Env} {a : Act} (hE : VRs σ env a.tmps.toList) {RT : Type} {K : AV → AHeap → Option RT} {C : Fn → List AV → Option RT} {r : RT} (ha : aop P h env o K C = some r) :
    (∀ c, o.op ≠ .defer c) ∧
    ((∃ v h', K v h' = some r ∧ DoneR W0 σ h w ((execOp a.eval o).run P w) v h') ∨
     (∃ fn args, C fn args = some r ∧ CallR P σ w ((execOp a.eval o).run P w) fn args)) := by
  have ev := aev_vr hE
  rw [aop_eq] at ha
  unfold aop0 at ha
  split at ha
  case h_1 x ho => refine ⟨by simp [ho], .inl ⟨_, _, ha, ?_⟩⟩; simp only [execOp, ho]; exact done_pure R (ev x)
  case h_2 x ho => refine ⟨by simp [ho], .inl ⟨_, _, ha, ?_⟩⟩; simp only [execOp, ho]; exact done_pure R (ev x)
  case h_3 c x y ho =>
    refine ⟨by simp [ho], .inl ?_⟩
    split at ha
    · rename_i t hc
      have hcv := ev c
      rw [hc] at hcv
      have e : a.eval c = .bool t := hcv.bool_inv
      split at ha
      · rename_i ht; subst ht; refine ⟨_, _, ha, ?_⟩
        obtain ⟨σ', w', v', h1⟩ := done_pure (P := P) R (ev x)
        exact ⟨σ', w', v', by simpa [execOp, ho, e, asBool] using h1⟩
      · rename_i ht; simp at ht; subst ht; refine ⟨_, _, ha, ?_⟩
        obtain ⟨σ', w', v', h1⟩ := done_pure (P := P) R (ev y)
        exact ⟨σ', w', v', by simpa [execOp, ho, e, asBool] using h1⟩
    · simp at ha
  case h_4 t ho => obtain ⟨v, h', hv, hk⟩ := bind_pair ha; refine ⟨by simp [ho], .inl ⟨_, _, hk, ?_⟩⟩; simp only [execOp, ho]; exact done_v (sim_alloc R hv)
  case h_5 t x ho => obtain ⟨v, h', hv, hk⟩ := bind_pair ha; refine ⟨by simp [ho], .inl ⟨_, _, hk, ?_⟩⟩; simp only [execOp, ho]; exact done_v (sim_box R (ev x) hv)
  case h_6 t ps ho => obtain ⟨v, hv, hk⟩ := bind_one ha; refine ⟨by simp [ho], .inl ⟨_, _, hk, ?_⟩⟩; simp only [execOp, ho]; exact done_still R (sim_build (aev_parts hE ps) hv w)
  case h_7 t n ps ho => obtain ⟨v, h', hv, hk⟩ := bind_pair ha; refine ⟨by simp [ho], .inl ⟨_, _, hk, ?_⟩⟩; simp only [execOp, ho]; exact done_v (sim_buildSlice R (aev_parts hE ps) hv)
  case h_8 t x ho => obtain ⟨v, hv, hk⟩ := bind_one ha; refine ⟨by simp [ho], .inl ⟨_, _, hk, ?_⟩⟩; simp only [execOp, ho]; exact done_still R (sim_load R (ev x) hv)
  case h_9 t x y ho => obtain ⟨h', hv, hk⟩ := bind_one ha; refine ⟨by simp [ho], .inl ⟨_, _, hk, ?_⟩⟩; simp only [execOp, ho]; exact done_u (by obtain ⟨w', h1, h2, h3⟩ := sim_store R (ev x) (ev y) hv; exact ⟨_, _, h1, h3, h2⟩)
  case h_10 x ho =>
    refine ⟨by simp [ho], .inl ?_⟩
    have hx := ev x
    split at ha
    · rename_i b hb; rw [hb] at hx; refine ⟨_, _, ha, ?_⟩
      obtain ⟨p, _, e⟩ := hx.ptr_inv
      simp only [execOp, ho, e]; exact done_pure R (by rw [e] at hx; exact hx)
    · rename_i f c hb; rw [hb] at hx; refine ⟨_, _, ha, ?_⟩
      obtain ⟨b', e⟩ := hx.fn_inv
      simp only [execOp, ho, e]; exact done_pure R (by rw [e] at hx; exact hx)
    · rename_i f c hb; rw [hb] at hx; refine ⟨_, _, ha, ?_⟩
      obtain ⟨b', e⟩ := hx.yield_inv
      simp only [execOp, ho, e]; exact done_pure R (by rw [e] at hx; exact hx)
    · simp at ha
  case h_11 op xt x y yt ho => obtain ⟨v, hv, hk⟩ := bind_one ha; refine ⟨by simp [ho], .inl ⟨_, _, hk, ?_⟩⟩; simp only [execOp, ho]; exact done_still R (sim_bin (ev x) (ev y) hv w)
  case h_12 op xt x ho => obtain ⟨v, hv, hk⟩ := bind_one ha; refine ⟨by simp [ho], .inl ⟨_, _, hk, ?_⟩⟩; simp only [execOp, ho]; exact done_still R (sim_un (ev x) hv w)
  case h_13 s d x ho => obtain ⟨v, h', hv, hk⟩ := bind_pair ha; refine ⟨by simp [ho], .inl ⟨_, _, hk, ?_⟩⟩; simp only [execOp, ho]; exact done_v (sim_conv R (ev x) hv)
  case h_14 arr x ho =>
    refine ⟨by simp [ho], .inl ?_⟩
    have hx := ev x
    split at ha
    · rename_i n e i o len cap ex hu hb
      rw [hb] at hx
      split at ha
      · rename_i hn
        refine ⟨_, _, ha, ?_⟩
        simp only [execOp, ho]
        refine done_still R ?_
        generalize a.eval x = xv at *
        cases hx with
        | sln => omega
        | sl _ _ _ _ _ p a0 c' hp hl hc ha0 => 
        refine ⟨.pointer (some a0), ?_, ?_⟩
        · have : ¬ len < n := by omega
          simp [Instr.arrayAt, run_underlying hu, this]
        · rcases ha0 with rfl | h0
          · exact .ptr _ _ _ hp
          · exfalso; omega
      · simp at ha
    · simp at ha
  case h_15 fn first cap ho =>
    split at ha
    · rename_i hf
      split at ha
      · rename_i f
        refine ⟨by simp [ho], .inl ⟨_, _, ha, ?_⟩⟩
        simp only [execOp, ho]
        have hf' : first = #[] := by simpa using hf
        subst hf'
        refine done_still R ⟨_, by simp [Instr.makeFunc]; rfl, ?_⟩
        have := VR.fn (σ := σ) f _ _ (aev_vrs hE cap.toList)
        rwa [List.map_toArray.symm, Array.toArray_toList] at this
      · simp at ha
    · simp at ha
  case h_16 t r0 ho =>
    split at ha
    · refine ⟨by simp [ho], .inl ⟨_, _, ha, ?_⟩⟩
      simp only [execOp, ho]
      exact done_v (sim_makeMap R t)
    · simp at ha
  case h_17 t l c ho => obtain ⟨v, h', hv, hk⟩ := bind_pair ha; refine ⟨by simp [ho], .inl ⟨_, _, hk, ?_⟩⟩; simp only [execOp, ho]; exact done_v (sim_makeSlice R (ev l) (ev c) (fun hs => by rw [opSame_eq hs]) hv)
  case h_18 t x lo hi mx ho => obtain ⟨v, hv, hk⟩ := bind_one ha; refine ⟨by simp [ho], .inl ⟨_, _, hk, ?_⟩⟩; simp only [execOp, ho]; exact done_still R (sim_slice (ev x) (aev_opt hE lo) (aev_opt hE hi) (aev_opt hE mx) hv w)
  case h_19 s x f ho => obtain ⟨v, hv, hk⟩ := bind_one ha; refine ⟨by simp [ho], .inl ⟨_, _, hk, ?_⟩⟩; simp only [execOp, ho]; exact done_still R (sim_fieldAddr (ev x) hv w)
  case h_20 s x f ho => obtain ⟨v, hv, hk⟩ := bind_one ha; refine ⟨by simp [ho], .inl ⟨_, _, hk, ?_⟩⟩; simp only [execOp, ho]; exact done_still R (sim_field (ev x) hv w)
  case h_21 t x ix ho => obtain ⟨v, hv, hk⟩ := bind_one ha; refine ⟨by simp [ho], .inl ⟨_, _, hk, ?_⟩⟩; simp only [execOp, ho]; exact done_still R (sim_indexAddr (ev x) (ev ix) hv w)
  case h_22 t x ix ho => obtain ⟨v, hv, hk⟩ := bind_one ha; refine ⟨by simp [ho], .inl ⟨_, _, hk, ?_⟩⟩; simp only [execOp, ho]; exact done_still R (sim_index (ev x) (ev ix) hv w)
  case h_23 t x ix ok ho => obtain ⟨v, hv, hk⟩ := bind_one ha; refine ⟨by simp [ho], .inl ⟨_, _, hk, ?_⟩⟩; simp only [execOp, ho]; exact done_still R (sim_lookup R (ev x) (ev ix) hv)
  case h_24 t m k x ho => obtain ⟨h', hv, hk⟩ := bind_one ha; refine ⟨by simp [ho], .inl ⟨_, _, hk, ?_⟩⟩; simp only [execOp, ho]; exact done_u (by obtain ⟨w', h1, h2, h3⟩ := sim_mapUpdate R (ev m) (ev k) (ev x) hv; exact ⟨_, _, h1, h3, h2⟩)
  case h_25 t m k x ho => obtain ⟨h', hv, hk⟩ := bind_one ha; refine ⟨by simp [ho], .inl ⟨_, _, hk, ?_⟩⟩; simp only [execOp, ho]; exact done_u (by obtain ⟨w', h1, h2, h3⟩ := sim_mapUpdate R (ev m) (ev k) (ev x) hv; exact ⟨_, _, h1, h3, h2⟩)
  case h_26 t m k ho => obtain ⟨v, h', hv, hk⟩ := bind_pair ha; refine ⟨by simp [ho], .inl ⟨_, _, hk, ?_⟩⟩; simp only [execOp, ho]; exact done_v (by obtain ⟨v', w', h1, h2, h3, h4⟩ := sim_mapEntry R (ev m) (ev k) hv; exact ⟨_, _, _, h1, h3, h2, h4⟩)
  case h_27 t m s x ho => obtain ⟨h', hv, hk⟩ := bind_one ha; refine ⟨by simp [ho], .inl ⟨_, _, hk, ?_⟩⟩; simp only [execOp, ho]; exact done_u (by obtain ⟨w', h1, h2, h3⟩ := sim_entryStore R (ev m) (ev s) (ev x) hv; exact ⟨_, _, h1, h3, h2⟩)
  case h_28 t ix ho =>
    refine ⟨by simp [ho], .inl ?_⟩
    have hx := ev t
    split at ha
    · rename_i l hl
      rw [hl] at hx
      obtain ⟨v, hv, hk⟩ := bind_one ha
      refine ⟨_, _, hk, ?_⟩
      simp only [execOp, ho]
      generalize a.eval t = tv at *
      cases hx with
      | tup _ cs hcs =>
      obtain ⟨v', h1, h2⟩ := hcs.get hv
      exact done_still R ⟨v', by simp [Instr.extract, h1], h2⟩
    · simp at ha
  case h_29 c ho =>
    refine ⟨by simp [ho], ?_⟩
    split at ha
    · rename_i f hcal
      have hx := ev f
      split at ha
      · rename_i fn cap hf
        rw [hf] at hx
        have hargs := aev_vrs hE c.args.toList
        generalize hfe : a.eval f = fv at *
        cases hx with
        | fn f' _ cap' hcap =>
          refine .inr ⟨_, _, ha, (c.args.map a.eval) ++ cap'.toArray, by simpa using hargs.append hcap, ?_⟩
          rw [run_fn a.eval o ho hcal hfe]; rfl
        | yld i p hp =>
          refine .inr ⟨_, _, ha, (c.args.map a.eval), by simpa using hargs, p, hp, ?_⟩
          rw [run_fn a.eval o ho hcal hfe]; rfl
      · simp at ha
    · rename_i b hcal
      obtain ⟨cs, hrun⟩ := run_built (P := P) a.eval o ho hcal w
      rw [hrun]
      obtain ⟨v, h', h1, h2⟩ := sim_builtin (ty := o.type) (cs := cs) R hE ha
      exact .inl ⟨v, h', h1, h2⟩
    · simp at ha
  case h_30 => simp at ha

end Go.Abs
