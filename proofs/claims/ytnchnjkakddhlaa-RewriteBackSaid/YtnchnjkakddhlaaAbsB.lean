/- The abstract interpreter: regions, code, loops, tables of callees. -/
import Derived.Test.YtnchnjkakddhlaaAbsA
import Derived.OrdersIn
import Derived.RangeFuncLeaves
section
/- One operation, whichever it is. -/
set_option autoImplicit false
set_option linter.unusedVariables false
set_option linter.unusedSimpArgs false
namespace Go.Abs
variable {P : Program} {W0 : World} {σ : Sig} {h : zaa} {w : World}

theorem zg8 {env : Env} {a : Act} (hE : VRs σ env a.tmps.toList) (x : Operand) : VR σ (aev env x) (a.eval x) := by
 cases x with
 | tmp t =>
  simp only [aev, Act.eval, Array.getD_eq_getD_getElem?, List.getD_eq_getElem?_getD]
  cases he : env[t]? with
  | some v =>
   obtain ⟨v', h1, h2⟩ := hE.get he
   rw [Array.getElem?_toList] at h1
   rw [h1]; exact h2
  | none =>
   have : a.tmps[t]? = none := by
    have := hE.length
    simp at he this ⊢
    omega
   rw [this]; exact .tup [] [] .nil
 | const v => exact zq6 σ v
 | global g => exact .any _
 | func f => exact .fn f [] [] .nil

theorem zlI {env : Env} {a : Act} (hE : VRs σ env a.tmps.toList) : ∀ l : List Operand, VRs σ (l.map (aev env)) (l.map a.eval) :=
 fun l => VRs.map_of _ _ l fun x _ => zg8 hE x

theorem znF {env : Env} {a : Act} (hE : VRs σ env a.tmps.toList) (x : Option Operand) : zwS σ (x.map (aev env)) (x.map a.eval) := by
 cases x with
 | none => trivial
 | some x => exact zg8 hE x

theorem ziY {env : Env} {a : Act} (hE : VRs σ env a.tmps.toList) (ps : Array (Nat × Operand)) :
 PartsR σ (ps.toList.map fun p => (p.1, aev env p.2)) (ps.map fun (i, x) => (i, a.eval x)).toList := by
 refine ⟨by simp, fun j x y hx hy => ?_⟩
 simp only [Array.toList_map, List.getElem?_map, Option.map_eq_some_iff] at hx hy
 obtain ⟨p, hp, rfl⟩ := hx
 obtain ⟨q, hq, rfl⟩ := hy
 rw [hp] at hq; simp at hq; subst hq
 exact ⟨rfl, zg8 hE _⟩

def DoneR (W0 : World) (σ : Sig) (h : zaa) (w : World) (run : Result Next) (v : AV) (h' : zaa) : Prop :=
 ∃ σ' w' v', (run = .ok (.value v') w' ∨ (run = .ok .skip w' ∧ v' = undef)) ∧ Stp σ h w σ' h' w' ∧ Rel W0 σ' h' w' ∧ VR σ' v v'

def zBg (P : Program) (σ : Sig) (w : World) (run : Result Next) (fn : Fn) (args : List AV) : Prop :=
 ∃ args' : Array Value, VRs σ args args'.toList ∧
  match fn with
  | .func f => run = (callFunc f args').run P w
  | .yield l => ∃ p, σ[l]? = some p ∧ run = (Instr.yield p.blk args').run P w
  | _ => False

theorem DoneR.ofV {run : Result Value} {s : Sem Next} {v : AV} {h' : zaa} (hs : SimV W0 σ h w run v h') (e : ∀ v' w', run = .ok v' w' → s.run P w = .ok (.value v') w') :
 DoneR W0 σ h w (s.run P w) v h' := by
 obtain ⟨σ', w', v', h1, h2, h3, h4⟩ := hs
 exact ⟨σ', w', v', .inl (e _ _ h1), h2, h3, h4⟩

theorem zfl {s : Sem Value} {v : AV} {h' : zaa} (hs : SimV W0 σ h w (s.run P w) v h') : DoneR W0 σ h w ((do pure (Next.value (← s)) : Sem Next).run P w) v h' :=
 .ofV hs fun v' w' e => by simp [e]

theorem zop {s : Sem Unit} {h' : zaa} (hs : zBX W0 σ h w (s.run P w) h') : DoneR W0 σ h w ((do s; pure Next.skip : Sem Next).run P w) (.tup []) h' := by
 obtain ⟨σ', w', h1, h2, h3⟩ := hs
 exact ⟨σ', w', undef, .inr ⟨by simp [h1], rfl⟩, h2, h3, .tup [] [] .nil⟩

theorem zbc (R : Rel W0 σ h w) {s : Sem Value} {v : AV} (hs : ∃ v', s.run P w = .ok v' w ∧ VR σ v v') : DoneR W0 σ h w ((do pure (Next.value (← s)) : Sem Next).run P w) v h := by
 obtain ⟨v', h1, h2⟩ := hs
 exact zfl (.still R h1 h2)

theorem zd3 (R : Rel W0 σ h w) {v : AV} {v' : Value} (hv : VR σ v v') : DoneR W0 σ h w ((pure (Next.value v') : Sem Next).run P w) v h :=
 ⟨σ, w, v', .inl (by simp), Stp.refl _ _ _, R, hv⟩

theorem zqZ : ∀ {rest : List AV} {rest' : List Value} {x v : AV} {x' : Value}, VR σ x x' → VRs σ rest rest' → zdV (zik false) x rest = some v → ∀ w, ∃ v', (rest'.foldlM Builtin.min2 x').run P w = .ok v' w ∧ VR σ v v'
 | [], _, x, v, x', hx, .nil, ha, w => by simp [zdV] at ha; subst ha; exact ⟨x', by simp, hx⟩
 | y :: rest, _, x, v, x', hx, .cons _ y' _ rest' hy t, ha, w => by
  simp only [zdV, Option.bind_eq_some_iff] at ha
  obtain ⟨z, hz, ha⟩ := ha
  unfold zik at hz
  split at hz
  · split at hz
    · simp at hz; subst hz
      cases hx; cases hy
      obtain ⟨v', h1, h2⟩ := zqZ (.int _ _) t ha w
      exact ⟨v', by simp [List.foldlM_cons, Builtin.min2, h1], h2⟩
    · simp at hz
  · simp at hz

theorem zsg : ∀ {rest : List AV} {rest' : List Value} {x v : AV} {x' : Value}, VR σ x x' → VRs σ rest rest' → zdV (zik true) x rest = some v → ∀ w, ∃ v', (rest'.foldlM Builtin.max2 x').run P w = .ok v' w ∧ VR σ v v'
 | [], _, x, v, x', hx, .nil, ha, w => by simp [zdV] at ha; subst ha; exact ⟨x', by simp, hx⟩
 | y :: rest, _, x, v, x', hx, .cons _ y' _ rest' hy t, ha, w => by
  simp only [zdV, Option.bind_eq_some_iff] at ha
  obtain ⟨z, hz, ha⟩ := ha
  unfold zik at hz
  split at hz
  · split at hz
    · simp at hz; subst hz
      cases hx; cases hy
      obtain ⟨v', h1, h2⟩ := zsg (.int _ _) t ha w
      exact ⟨v', by simp [List.foldlM_cons, Builtin.max2, h1], h2⟩
    · simp at hz
  · simp at hz

theorem ztj {a b : Operand} (h : zmq a b = true) : a = b := by
 unfold zmq at h
 split at h
 · simpa using h
 · simp only [Bool.and_eq_true, decide_eq_true_eq] at h
   rw [h.1, h.2]
 · simp at h

theorem znM (R : Rel W0 σ h w) (t : TypeId) : SimV W0 σ h w ((Instr.makeMap t none).run P w) (.map (some h.length)) (h ++ [.mp [] 0 false]) := by
 have key := R.push (.map #[] 0) (.mp [] 0 false) 0 rfl ⟨#[], World.alloc_heap_new w _, .nil⟩
 exact ⟨_, _, _, by simp [Instr.makeMap], key.2, key.1, .map _ _ (R.newAt _)⟩

theorem za6 {α β γ : Type} {x : Option (α × β)} {K : α → β → Option γ} {r : γ} (h : (x.bind fun (y : α × β) => K y.1 y.2) = some r) : ∃ a b, x = some (a, b) ∧ K a b = some r := by
 cases x with
 | none => simp at h
 | some y => exact ⟨y.1, y.2, rfl, by simpa using h⟩

theorem zaD {α γ : Type} {x : Option α} {K : α → Option γ} {r : γ} (h : (x.bind fun y => K y) = some r) : ∃ a, x = some a ∧ K a = some r := by
 cases x with
 | none => simp at h
 | some y => exact ⟨y, rfl, by simpa using h⟩

theorem zxy {α : Type} {l : Array α} {f : α → AV} {x y : AV} (h : l.toList.map f = [x, y]) : ∃ p q, l = #[p, q] ∧ x = f p ∧ y = f q := by
 obtain ⟨l⟩ := l
 match l, h with
 | [p, q], h => simp at h; exact ⟨p, q, rfl, h.1.symm, h.2.symm⟩

theorem zxz {α : Type} {l : Array α} {f : α → AV} {x : AV} (h : l.toList.map f = [x]) : ∃ p, l = #[p] ∧ x = f p := by
 obtain ⟨l⟩ := l
 match l, h with
 | [p], h => simp at h; exact ⟨p, rfl, h.symm⟩

theorem zoD (ρ : Operand → Value) (o : Oper) {c : Call} (ho : o.op = .call c) (w : World) : (execOp ρ o).run P w = (do let d ← resolve ρ c o.type; invoke d.target d.args : Sem Next).run P w := by
 simp only [execOp, ho]

theorem ztZ (ρ : Operand → Value) (o : Oper) {c : Call} {b : Builtin} (ho : o.op = .call c) (hb : c.callee = .builtin b) (w : World) :
 ∃ cs, (execOp ρ o).run P w = (builtin b c.argTypes o.type cs (c.args.map ρ)).run P w := by
 refine ⟨c.args.map fun | .const _ => true | _ => false, ?_⟩
 rw [zoD ρ o ho]
 simp [resolve, hb, invoke]
 rfl

theorem zwE (ρ : Operand → Value) (o : Oper) {c : Call} {f : Operand} {fn : Fn} {cap : Array Value} (ho : o.op = .call c) (hb : c.callee = .value f) (hf : ρ f = .func fn #[] cap) (w : World) :
 (execOp ρ o).run P w = (invoke (.fn fn cap) (c.args.map ρ)).run P w := by
 rw [zoD ρ o ho]
 simp [resolve, hb, hf, Deferred.ofValue]

theorem zn0 (R : Rel W0 σ h w) {env : Env} {a : Act} (hE : VRs σ env a.tmps.toList) {RT : Type} {K : AV → zaa → Option RT} {r : RT} {c : Call} {b : Builtin} {ty : TypeId} {cs : Array Bool}
 (ha : (match b, c.args.toList.map (aev env), c.argTypes.toList with
  | .append, [s, x], ts => (zhK P h ts s x).bind fun (x : AV × zaa) => K x.1 x.2
  | .copy, [d, s], ts => (zqy P h ts d s).bind fun (x : AV × zaa) => K x.1 x.2
  | .len, [x], [t] => (zuj P h t x).bind fun v => K v h
  | .cap, [x], [t] => (zyO P t x).bind fun v => K v h
  | .clear, [x], [t] => (zkw P h t x).bind fun h' => K (.tup []) h'
  | .delete, [m, k], t :: _ => (zhx P h t m k).bind fun h' => K (.tup []) h'
  | .min, x :: r, _ => (zdV (zik false) x r).bind fun v => K v h
  | .max, x :: r, _ => (zdV (zik true) x r).bind fun v => K v h
  | _, _, _ => none) = some r) :
 ∃ v h', K v h' = some r ∧ DoneR W0 σ h w ((builtin b c.argTypes ty cs (c.args.map a.eval)).run P w) v h' := by
 have ev := zg8 hE
 split at ha
 · rename_i hargs
   obtain ⟨p, q, hl, rfl, rfl⟩ := zxy hargs
   obtain ⟨v, h', hv, hk⟩ := za6 ha
   refine ⟨v, h', hk, ?_⟩
   simp only [builtin, hl, List.map_toArray, List.map_cons, List.map_nil]
   exact zfl (zqh R (ev p) (ev q) hv)
 · rename_i hargs
   obtain ⟨p, q, hl, rfl, rfl⟩ := zxy hargs
   obtain ⟨v, h', hv, hk⟩ := za6 ha
   refine ⟨v, h', hk, ?_⟩
   simp only [builtin, hl, List.map_toArray, List.map_cons, List.map_nil]
   exact zfl (zvL R (ev p) (ev q) hv)
 · rename_i t hargs hts
   obtain ⟨p, hl, rfl⟩ := zxz hargs
   obtain ⟨v, hv, hk⟩ := zaD ha
   refine ⟨v, h, hk, ?_⟩
   have : c.argTypes = #[t] := Array.ext' hts
   simp only [builtin, hl, this, List.map_toArray, List.map_cons, List.map_nil]
   exact zbc R (zxu R (ev p) hv)
 · rename_i t hargs hts
   obtain ⟨p, hl, rfl⟩ := zxz hargs
   obtain ⟨v, hv, hk⟩ := zaD ha
   refine ⟨v, h, hk, ?_⟩
   have : c.argTypes = #[t] := Array.ext' hts
   simp only [builtin, hl, this, List.map_toArray, List.map_cons, List.map_nil]
   exact zbc R (zys (ev p) hv w)
 · rename_i t hargs hts
   obtain ⟨p, hl, rfl⟩ := zxz hargs
   obtain ⟨h', hv, hk⟩ := zaD ha
   refine ⟨_, h', hk, ?_⟩
   have : c.argTypes = #[t] := Array.ext' hts
   simp only [builtin, hl, this, List.map_toArray, List.map_cons, List.map_nil]
   exact zfl (zt8 R (ev p) hv)
 · rename_i t ts hargs hts
   obtain ⟨p, q, hl, rfl, rfl⟩ := zxy hargs
   obtain ⟨h', hv, hk⟩ := zaD ha
   refine ⟨_, h', hk, ?_⟩
   have ht : c.argTypes[0]? = some t := by rw [← Array.getElem?_toList, hts]; rfl
   simp only [builtin, hl, List.map_toArray, List.map_cons, List.map_nil]
   obtain ⟨w', h1, h2, h3⟩ := zp1 (ty := ty) R ht (ev p) (ev q) hv
   exact zfl ⟨_, _, _, h1, h3, h2, .tup [] [] .nil⟩
 · rename_i x rest hargs
   obtain ⟨v, hv, hk⟩ := zaD ha
   refine ⟨v, h, hk, ?_⟩
   simp only [builtin]
   have hv' := zlI hE c.args.toList
   rw [hargs] at hv'
   have e : (c.args.map a.eval).toList = c.args.toList.map a.eval := by simp
   cases hm : c.args.toList.map a.eval with
   | nil => rw [hm] at hv'; cases hv'
   | cons y rest' =>
    rw [hm] at hv'
    cases hv' with
    | cons _ _ _ _ h1 h2 =>
    obtain ⟨v', h3, h4⟩ := zqZ (P := P) h1 h2 hv w
    exact zbc R ⟨v', by simp only [Builtin.min_, e, hm, h3], h4⟩
 · rename_i x rest hargs
   obtain ⟨v, hv, hk⟩ := zaD ha
   refine ⟨v, h, hk, ?_⟩
   simp only [builtin]
   have hv' := zlI hE c.args.toList
   rw [hargs] at hv'
   have e : (c.args.map a.eval).toList = c.args.toList.map a.eval := by simp
   cases hm : c.args.toList.map a.eval with
   | nil => rw [hm] at hv'; cases hv'
   | cons y rest' =>
    rw [hm] at hv'
    cases hv' with
    | cons _ _ _ _ h1 h2 =>
    obtain ⟨v', h3, h4⟩ := zsg (P := P) h1 h2 hv w
    exact zbc R ⟨v', by simp only [Builtin.max_, e, hm, h3], h4⟩
 · simp at ha

theorem VR.bool_inv {t : Bool} {v : Value} (hv : VR σ (.bool t) v) : v = .bool t := by cases hv; rfl
theorem VR.ptr_inv {b : Nat × Nat} {v : Value} (hv : VR σ (.ptr (some b)) v) : ∃ p, σ[b.1]? = some p ∧ v = .pointer (some ⟨p.blk, p.off + b.2, none⟩) := by cases hv; exact ⟨_, by assumption, rfl⟩
theorem VR.fn_inv {f : FuncId} {c : List AV} {v : Value} (hv : VR σ (.fn (.func f) c) v) : ∃ c', v = .func (.func f) #[] c' := by cases hv; exact ⟨_, rfl⟩
theorem VR.yield_inv {f : Nat} {c : List AV} {v : Value} (hv : VR σ (.fn (.yield f) c) v) : ∃ l, v = .func (.yield l) #[] #[] := by cases hv; exact ⟨_, rfl⟩

theorem zz1 (R : Rel W0 σ h w) {o : Oper} {env : Env} {a : Act} (hE : VRs σ env a.tmps.toList) {RT : Type} {K : AV → zaa → Option RT} {C : Fn → List AV → Option RT} {r : RT} (ha : aop P h env o K C = some r) :
 (∀ c, o.op ≠ .defer c) ∧
 ((∃ v h', K v h' = some r ∧ DoneR W0 σ h w ((execOp a.eval o).run P w) v h') ∨
  (∃ fn args, C fn args = some r ∧ zBg P σ w ((execOp a.eval o).run P w) fn args)) := by
 have ev := zg8 hE
 rw [zaN] at ha
 unfold zdC at ha
 split at ha
 case h_1 x ho => refine ⟨by simp [ho], .inl ⟨_, _, ha, ?_⟩⟩; simp only [execOp, ho]; exact zd3 R (ev x)
 case h_2 x ho => refine ⟨by simp [ho], .inl ⟨_, _, ha, ?_⟩⟩; simp only [execOp, ho]; exact zd3 R (ev x)
 case h_3 c x y ho =>
  refine ⟨by simp [ho], .inl ?_⟩
  split at ha
  · rename_i t hc
    have hcv := ev c
    rw [hc] at hcv
    have e : a.eval c = .bool t := hcv.bool_inv
    split at ha
    · rename_i ht; subst ht; refine ⟨_, _, ha, ?_⟩
      obtain ⟨σ', w', v', h1⟩ := zd3 (P := P) R (ev x)
      exact ⟨σ', w', v', by simpa [execOp, ho, e, asBool] using h1⟩
    · rename_i ht; simp at ht; subst ht; refine ⟨_, _, ha, ?_⟩
      obtain ⟨σ', w', v', h1⟩ := zd3 (P := P) R (ev y)
      exact ⟨σ', w', v', by simpa [execOp, ho, e, asBool] using h1⟩
  · simp at ha
 case h_4 t ho => obtain ⟨v, h', hv, hk⟩ := za6 ha; refine ⟨by simp [ho], .inl ⟨_, _, hk, ?_⟩⟩; simp only [execOp, ho]; exact zfl (zti R hv)
 case h_5 t x ho => obtain ⟨v, h', hv, hk⟩ := za6 ha; refine ⟨by simp [ho], .inl ⟨_, _, hk, ?_⟩⟩; simp only [execOp, ho]; exact zfl (ztD R (ev x) hv)
 case h_6 t ps ho => obtain ⟨v, hv, hk⟩ := zaD ha; refine ⟨by simp [ho], .inl ⟨_, _, hk, ?_⟩⟩; simp only [execOp, ho]; exact zbc R (ztz (ziY hE ps) hv w)
 case h_7 t n ps ho => obtain ⟨v, h', hv, hk⟩ := za6 ha; refine ⟨by simp [ho], .inl ⟨_, _, hk, ?_⟩⟩; simp only [execOp, ho]; exact zfl (zjS R (ziY hE ps) hv)
 case h_8 t x ho => obtain ⟨v, hv, hk⟩ := zaD ha; refine ⟨by simp [ho], .inl ⟨_, _, hk, ?_⟩⟩; simp only [execOp, ho]; exact zbc R (zoy R (ev x) hv)
 case h_9 t x y ho => obtain ⟨h', hv, hk⟩ := zaD ha; refine ⟨by simp [ho], .inl ⟨_, _, hk, ?_⟩⟩; simp only [execOp, ho]; exact zop (by obtain ⟨w', h1, h2, h3⟩ := zq8 R (ev x) (ev y) hv; exact ⟨_, _, h1, h3, h2⟩)
 case h_10 x ho =>
  refine ⟨by simp [ho], .inl ?_⟩
  have hx := ev x
  split at ha
  · rename_i b hb; rw [hb] at hx; refine ⟨_, _, ha, ?_⟩
    obtain ⟨p, _, e⟩ := hx.ptr_inv
    simp only [execOp, ho, e]; exact zd3 R (by rw [e] at hx; exact hx)
  · rename_i f c hb; rw [hb] at hx; refine ⟨_, _, ha, ?_⟩
    obtain ⟨b', e⟩ := hx.fn_inv
    simp only [execOp, ho, e]; exact zd3 R (by rw [e] at hx; exact hx)
  · rename_i f c hb; rw [hb] at hx; refine ⟨_, _, ha, ?_⟩
    obtain ⟨b', e⟩ := hx.yield_inv
    simp only [execOp, ho, e]; exact zd3 R (by rw [e] at hx; exact hx)
  · simp at ha
 case h_11 op xt x y yt ho => obtain ⟨v, hv, hk⟩ := zaD ha; refine ⟨by simp [ho], .inl ⟨_, _, hk, ?_⟩⟩; simp only [execOp, ho]; exact zbc R (zxZ (ev x) (ev y) hv w)
 case h_12 op xt x ho => obtain ⟨v, hv, hk⟩ := zaD ha; refine ⟨by simp [ho], .inl ⟨_, _, hk, ?_⟩⟩; simp only [execOp, ho]; exact zbc R (zzW (ev x) hv w)
 case h_13 s d x ho => obtain ⟨v, h', hv, hk⟩ := za6 ha; refine ⟨by simp [ho], .inl ⟨_, _, hk, ?_⟩⟩; simp only [execOp, ho]; exact zfl (zvo R (ev x) hv)
 case h_14 arr x ho =>
  refine ⟨by simp [ho], .inl ?_⟩
  have hx := ev x
  split at ha
  · rename_i n e i o len cap ex hu hb
    rw [hb] at hx
    split at ha
    · rename_i hn
      refine ⟨_, _, ha, ?_⟩
      simp only [execOp, ho]
      refine zbc R ?_
      generalize a.eval x = xv at *
      cases hx with
      | sln => omega
      | sl _ _ _ _ _ p a0 c' hp hl hc ha0 => 
      refine ⟨.pointer (some a0), ?_, ?_⟩
      · have : ¬ len < n := by omega
        simp [Instr.arrayAt, run_underlying hu, this]
      · rcases ha0 with rfl | h0
        · exact .ptr _ _ _ hp
        · exfalso; omega
    · simp at ha
  · simp at ha
 case h_15 fn first cap ho =>
  split at ha
  · rename_i hf
    split at ha
    · rename_i f
      refine ⟨by simp [ho], .inl ⟨_, _, ha, ?_⟩⟩
      simp only [execOp, ho]
      have hf' : first = #[] := by simpa using hf
      subst hf'
      refine zbc R ⟨_, by simp [Instr.makeFunc]; rfl, ?_⟩
      have := VR.fn (σ := σ) f _ _ (zlI hE cap.toList)
      rwa [List.map_toArray.symm, Array.toArray_toList] at this
    · simp at ha
  · simp at ha
 case h_16 t r0 ho =>
  split at ha
  · refine ⟨by simp [ho], .inl ⟨_, _, ha, ?_⟩⟩
    simp only [execOp, ho]
    exact zfl (znM R t)
  · simp at ha
 case h_17 t l c ho => obtain ⟨v, h', hv, hk⟩ := za6 ha; refine ⟨by simp [ho], .inl ⟨_, _, hk, ?_⟩⟩; simp only [execOp, ho]; exact zfl (zlf R (ev l) (ev c) (fun hs => by rw [ztj hs]) hv)
 case h_18 t x lo hi mx ho => obtain ⟨v, hv, hk⟩ := zaD ha; refine ⟨by simp [ho], .inl ⟨_, _, hk, ?_⟩⟩; simp only [execOp, ho]; exact zbc R (ztv (ev x) (znF hE lo) (znF hE hi) (znF hE mx) hv w)
 case h_19 s x f ho => obtain ⟨v, hv, hk⟩ := zaD ha; refine ⟨by simp [ho], .inl ⟨_, _, hk, ?_⟩⟩; simp only [execOp, ho]; exact zbc R (zk2 (ev x) hv w)
 case h_20 s x f ho => obtain ⟨v, hv, hk⟩ := zaD ha; refine ⟨by simp [ho], .inl ⟨_, _, hk, ?_⟩⟩; simp only [execOp, ho]; exact zbc R (ztB (ev x) hv w)
 case h_21 t x ix ho => obtain ⟨v, hv, hk⟩ := zaD ha; refine ⟨by simp [ho], .inl ⟨_, _, hk, ?_⟩⟩; simp only [execOp, ho]; exact zbc R (zlC (ev x) (ev ix) hv w)
 case h_22 t x ix ho => obtain ⟨v, hv, hk⟩ := zaD ha; refine ⟨by simp [ho], .inl ⟨_, _, hk, ?_⟩⟩; simp only [execOp, ho]; exact zbc R (zsQ (ev x) (ev ix) hv w)
 case h_23 t x ix ok ho => obtain ⟨v, hv, hk⟩ := zaD ha; refine ⟨by simp [ho], .inl ⟨_, _, hk, ?_⟩⟩; simp only [execOp, ho]; exact zbc R (zpt R (ev x) (ev ix) hv)
 case h_24 t m k x ho => obtain ⟨h', hv, hk⟩ := zaD ha; refine ⟨by simp [ho], .inl ⟨_, _, hk, ?_⟩⟩; simp only [execOp, ho]; exact zop (by obtain ⟨w', h1, h2, h3⟩ := zhe R (ev m) (ev k) (ev x) hv; exact ⟨_, _, h1, h3, h2⟩)
 case h_25 t m k x ho => obtain ⟨h', hv, hk⟩ := zaD ha; refine ⟨by simp [ho], .inl ⟨_, _, hk, ?_⟩⟩; simp only [execOp, ho]; exact zop (by obtain ⟨w', h1, h2, h3⟩ := zhe R (ev m) (ev k) (ev x) hv; exact ⟨_, _, h1, h3, h2⟩)
 case h_26 t m k ho => obtain ⟨v, h', hv, hk⟩ := za6 ha; refine ⟨by simp [ho], .inl ⟨_, _, hk, ?_⟩⟩; simp only [execOp, ho]; exact zfl (by obtain ⟨v', w', h1, h2, h3, h4⟩ := zmQ R (ev m) (ev k) hv; exact ⟨_, _, _, h1, h3, h2, h4⟩)
 case h_27 t m s x ho => obtain ⟨h', hv, hk⟩ := zaD ha; refine ⟨by simp [ho], .inl ⟨_, _, hk, ?_⟩⟩; simp only [execOp, ho]; exact zop (by obtain ⟨w', h1, h2, h3⟩ := zjT R (ev m) (ev s) (ev x) hv; exact ⟨_, _, h1, h3, h2⟩)
 case h_28 t ix ho =>
  refine ⟨by simp [ho], .inl ?_⟩
  have hx := ev t
  split at ha
  · rename_i l hl
    rw [hl] at hx
    obtain ⟨v, hv, hk⟩ := zaD ha
    refine ⟨_, _, hk, ?_⟩
    simp only [execOp, ho]
    generalize a.eval t = tv at *
    cases hx with
    | tup _ cs hcs =>
    obtain ⟨v', h1, h2⟩ := hcs.get hv
    exact zbc R ⟨v', by simp [Instr.extract, h1], h2⟩
  · simp at ha
 case h_29 c ho =>
  refine ⟨by simp [ho], ?_⟩
  split at ha
  · rename_i f hcal
    have hx := ev f
    split at ha
    · rename_i fn cap hf
      rw [hf] at hx
      have hargs := zlI hE c.args.toList
      generalize hfe : a.eval f = fv at *
      cases hx with
      | fn f' _ cap' hcap =>
       refine .inr ⟨_, _, ha, (c.args.map a.eval) ++ cap'.toArray, by simpa using hargs.append hcap, ?_⟩
       rw [zwE a.eval o ho hcal hfe]; rfl
      | yld i p hp =>
       refine .inr ⟨_, _, ha, (c.args.map a.eval), by simpa using hargs, p, hp, ?_⟩
       rw [zwE a.eval o ho hcal hfe]; rfl
    · simp at ha
  · rename_i b hcal
    obtain ⟨cs, hrun⟩ := ztZ (P := P) a.eval o ho hcal w
    rw [hrun]
    obtain ⟨v, h', h1, h2⟩ := zn0 (ty := o.type) (cs := cs) R hE ha
    exact .inl ⟨v, h', h1, h2⟩
  · simp at ha
 case h_30 => simp at ha

end Go.Abs

end

section
/- The interpreter's own laws: what an operation, a guard goes on with; which slots it looks at. -/
set_option autoImplicit false
set_option linter.unusedVariables false
set_option linter.unusedSimpArgs false
namespace Go.Abs
variable {P : Program} {W0 : World} {σ : Sig} {h : zaa} {w : World}

def zzF (P : Program) (h : zaa) (env : Env) (o : Oper) (v : AV) (h' : zaa) : Prop :=
 ∀ {R : Type} (K : AV → zaa → Option R) (C : Fn → List AV → Option R), aop P h env o K C = K v h'

def zup (P : Program) (h : zaa) (env : Env) (o : Oper) (fn : Fn) (args : List AV) : Prop :=
 ∀ {R : Type} (K : AV → zaa → Option R) (C : Fn → List AV → Option R), aop P h env o K C = C fn args

theorem zjw {o : Oper} {env : Env} {RT : Type} {K : AV → zaa → Option RT} {C : Fn → List AV → Option RT} {r : RT} (ha : aop P h env o K C = some r) :
 (∃ v h', K v h' = some r ∧ zzF P h env o v h') ∨ (∃ fn args, C fn args = some r ∧ zup P h env o fn args) := by
 rw [zaN] at ha
 unfold zdC at ha
 split at ha
 case h_1 x ho => exact .inl ⟨_, _, ha, fun K C => by simp only [zaN, zdC, ho]⟩
 case h_2 x ho => exact .inl ⟨_, _, ha, fun K C => by simp only [zaN, zdC, ho]⟩
 case h_3 c x y ho =>
  split at ha
  · rename_i t hc
    split at ha
    · rename_i ht; exact .inl ⟨_, _, ha, fun K C => by simp only [zaN, zdC, ho, hc, ht, if_true]⟩
    · rename_i ht; exact .inl ⟨_, _, ha, fun K C => by simp [zaN, zdC, ho, hc, ht]⟩
  · simp at ha
 case h_4 t ho => obtain ⟨v, h', hv, hk⟩ := za6 ha; exact .inl ⟨_, _, hk, fun K C => by simp only [zaN, zdC, ho, hv, Option.bind_some]⟩
 case h_5 t x ho => obtain ⟨v, h', hv, hk⟩ := za6 ha; exact .inl ⟨_, _, hk, fun K C => by simp only [zaN, zdC, ho, hv, Option.bind_some]⟩
 case h_6 t ps ho => obtain ⟨v, hv, hk⟩ := zaD ha; exact .inl ⟨_, _, hk, fun K C => by simp only [zaN, zdC, ho, hv, Option.bind_some]⟩
 case h_7 t n ps ho => obtain ⟨v, h', hv, hk⟩ := za6 ha; exact .inl ⟨_, _, hk, fun K C => by simp only [zaN, zdC, ho, hv, Option.bind_some]⟩
 case h_8 t x ho => obtain ⟨v, hv, hk⟩ := zaD ha; exact .inl ⟨_, _, hk, fun K C => by simp only [zaN, zdC, ho, hv, Option.bind_some]⟩
 case h_9 t x y ho => obtain ⟨v, hv, hk⟩ := zaD ha; exact .inl ⟨_, _, hk, fun K C => by simp only [zaN, zdC, ho, hv, Option.bind_some]⟩
 case h_10 x ho =>
  split at ha
  · rename_i b hb; exact .inl ⟨_, _, ha, fun K C => by simp only [zaN, zdC, ho, hb]⟩
  · rename_i f c hb; exact .inl ⟨_, _, ha, fun K C => by simp only [zaN, zdC, ho, hb]⟩
  · rename_i f c hb; exact .inl ⟨_, _, ha, fun K C => by simp only [zaN, zdC, ho, hb]⟩
  · simp at ha
 case h_11 op xt x y yt ho => obtain ⟨v, hv, hk⟩ := zaD ha; exact .inl ⟨_, _, hk, fun K C => by simp only [zaN, zdC, ho, hv, Option.bind_some]⟩
 case h_12 op xt x ho => obtain ⟨v, hv, hk⟩ := zaD ha; exact .inl ⟨_, _, hk, fun K C => by simp only [zaN, zdC, ho, hv, Option.bind_some]⟩
 case h_13 s d x ho => obtain ⟨v, h', hv, hk⟩ := za6 ha; exact .inl ⟨_, _, hk, fun K C => by simp only [zaN, zdC, ho, hv, Option.bind_some]⟩
 case h_14 arr x ho =>
  split at ha
  · rename_i n e i o len cap ex hu hb
    split at ha
    · rename_i hn; exact .inl ⟨_, _, ha, fun K C => by simp only [zaN, zdC, ho, hu, hb, hn, and_self, if_true]⟩
    · simp at ha
  · simp at ha
 case h_15 fn first cap ho =>
  split at ha
  · rename_i hf
    split at ha
    · exact .inl ⟨_, _, ha, fun K C => by simp only [zaN, zdC, ho, hf, if_true]⟩
    · simp at ha
  · simp at ha
 case h_16 t r0 ho =>
  split at ha
  · exact .inl ⟨_, _, ha, fun K C => by simp only [zaN, zdC, ho]⟩
  · simp at ha
 case h_17 t l c ho => obtain ⟨v, h', hv, hk⟩ := za6 ha; exact .inl ⟨_, _, hk, fun K C => by simp only [zaN, zdC, ho, hv, Option.bind_some]⟩
 case h_18 t x lo hi mx ho => obtain ⟨v, hv, hk⟩ := zaD ha; exact .inl ⟨_, _, hk, fun K C => by simp only [zaN, zdC, ho, hv, Option.bind_some]⟩
 case h_19 s x f ho => obtain ⟨v, hv, hk⟩ := zaD ha; exact .inl ⟨_, _, hk, fun K C => by simp only [zaN, zdC, ho, hv, Option.bind_some]⟩
 case h_20 s x f ho => obtain ⟨v, hv, hk⟩ := zaD ha; exact .inl ⟨_, _, hk, fun K C => by simp only [zaN, zdC, ho, hv, Option.bind_some]⟩
 case h_21 t x ix ho => obtain ⟨v, hv, hk⟩ := zaD ha; exact .inl ⟨_, _, hk, fun K C => by simp only [zaN, zdC, ho, hv, Option.bind_some]⟩
 case h_22 t x ix ho => obtain ⟨v, hv, hk⟩ := zaD ha; exact .inl ⟨_, _, hk, fun K C => by simp only [zaN, zdC, ho, hv, Option.bind_some]⟩
 case h_23 t x ix ok ho => obtain ⟨v, hv, hk⟩ := zaD ha; exact .inl ⟨_, _, hk, fun K C => by simp only [zaN, zdC, ho, hv, Option.bind_some]⟩
 case h_24 t m k x ho => obtain ⟨v, hv, hk⟩ := zaD ha; exact .inl ⟨_, _, hk, fun K C => by simp only [zaN, zdC, ho, hv, Option.bind_some]⟩
 case h_25 t m k x ho => obtain ⟨v, hv, hk⟩ := zaD ha; exact .inl ⟨_, _, hk, fun K C => by simp only [zaN, zdC, ho, hv, Option.bind_some]⟩
 case h_26 t m k ho => obtain ⟨v, h', hv, hk⟩ := za6 ha; exact .inl ⟨_, _, hk, fun K C => by simp only [zaN, zdC, ho, hv, Option.bind_some]⟩
 case h_27 t m s x ho => obtain ⟨v, hv, hk⟩ := zaD ha; exact .inl ⟨_, _, hk, fun K C => by simp only [zaN, zdC, ho, hv, Option.bind_some]⟩
 case h_28 t ix ho =>
  split at ha
  · rename_i l hl
    obtain ⟨v, hv, hk⟩ := zaD ha
    exact .inl ⟨_, _, hk, fun K C => by simp only [zaN, zdC, ho, hl, hv, Option.bind_some]⟩
  · simp at ha
 case h_29 c ho =>
  split at ha
  · rename_i f hcal
    split at ha
    · rename_i fn cap hf
      exact .inr ⟨_, _, ha, fun K C => by simp only [zaN, zdC, ho, hcal, hf]⟩
    · simp at ha
  · rename_i b hcal
    split at ha
    · rename_i h1 ; obtain ⟨v, h', hv, hk⟩ := za6 ha; exact .inl ⟨_, _, hk, fun K C => by simp only [zaN, zdC, ho, hcal, h1, hv, Option.bind_some]⟩
    · rename_i h1 ; obtain ⟨v, h', hv, hk⟩ := za6 ha; exact .inl ⟨_, _, hk, fun K C => by simp only [zaN, zdC, ho, hcal, h1, hv, Option.bind_some]⟩
    · rename_i h1 h2 ; obtain ⟨v, hv, hk⟩ := zaD ha; exact .inl ⟨_, _, hk, fun K C => by simp only [zaN, zdC, ho, hcal, h1, h2, hv, Option.bind_some]⟩
    · rename_i h1 h2 ; obtain ⟨v, hv, hk⟩ := zaD ha; exact .inl ⟨_, _, hk, fun K C => by simp only [zaN, zdC, ho, hcal, h1, h2, hv, Option.bind_some]⟩
    · rename_i h1 h2 ; obtain ⟨v, hv, hk⟩ := zaD ha; exact .inl ⟨_, _, hk, fun K C => by simp only [zaN, zdC, ho, hcal, h1, h2, hv, Option.bind_some]⟩
    · rename_i h1 h2 ; obtain ⟨v, hv, hk⟩ := zaD ha; exact .inl ⟨_, _, hk, fun K C => by simp only [zaN, zdC, ho, hcal, h1, h2, hv, Option.bind_some]⟩
    · rename_i h1 ; obtain ⟨v, hv, hk⟩ := zaD ha; exact .inl ⟨_, _, hk, fun K C => by simp only [zaN, zdC, ho, hcal, h1, hv, Option.bind_some]⟩
    · rename_i h1 ; obtain ⟨v, hv, hk⟩ := zaD ha; exact .inl ⟨_, _, hk, fun K C => by simp only [zaN, zdC, ho, hcal, h1, hv, Option.bind_some]⟩
    · simp at ha
  · simp at ha
 case h_30 => simp at ha

def zjP (P : Program) (CALL : CallT) (h : zaa) (env : Env) (o : Oper) (v : AV) (h' : zaa) : Prop :=
 ∀ {R : Type} (K : AV → zaa → Option R), zgR P CALL o env h K = K v h'

theorem zeI {CALL : CallT} {o : Oper} {env : Env} {RT : Type} {K : AV → zaa → Option RT} {r : RT} (ha : zgR P CALL o env h K = some r) :
 ∃ v h', K v h' = some r ∧ zjP P CALL h env o v h' := by
 rcases zjw ha with ⟨v, h', hk, hg⟩ | ⟨fn, args, hc, hg⟩
 · exact ⟨v, h', hk, fun K => hg _ _⟩
 · rw [CALL.nat] at hc
   obtain ⟨v, h', hv, hk⟩ := za6 hc
   exact ⟨v, h', hk, fun K => by unfold zgR; rw [hg, CALL.nat, hv]; simp only [Option.bind_some]⟩

theorem zom {env : Env} {d : Nat} {v : AV} (he : env[d]? = some v) : env.set d v = env := by
 apply List.ext_getElem?
 intro i
 rw [List.getElem?_set]
 by_cases hi : d = i
 · subst hi
   have := (List.getElem?_eq_some_iff.1 he).1
   simpa [this] using he.symm
 · simp [hi]

inductive Gd (ops : List Oper) (o : Oper) (env : Env) : Bool → Prop
 | free (h : o.guard = none) : Gd ops o env true
 | asks (j : Nat) (want : Bool) (d : Tmp) (b : Bool) (h : o.guard = some (j, want)) (hd : (ops[j]?).bind (·.dst) = some d) (he : env[d]? = some (.bool b)) : Gd ops o env (b == want)
 | out (j : Nat) (want : Bool) (h : o.guard = some (j, want)) (hd : (ops[j]?).bind (·.dst) = none) : Gd ops o env false
 | undef (j : Nat) (want : Bool) (d : Tmp) (h : o.guard = some (j, want)) (hd : (ops[j]?).bind (·.dst) = some d) (he : env[d]? = some (.tup [])) : Gd ops o env false

theorem zgb {ops : List Oper} {o : Oper} {env : Env} {RT : Type} {T F : Env → Option RT} {r : RT} (ha : zfv ops o env T F = some r) :
 ∃ b, Gd ops o env b ∧ (if b = true then T env else F env) = some r := by
 unfold zfv at ha
 split at ha
 · exact ⟨true, .free (by assumption), by simpa using ha⟩
 · rename_i j want hg
   split at ha
   · exact ⟨false, .out j want hg (by assumption), by simpa using ha⟩
   · rename_i d hd
     split at ha
     · rename_i b he
       refine ⟨_, .asks j want d b hg hd he, ?_⟩
       cases b <;> cases want <;> simpa [zom he] using ha
     · rename_i he
       exact ⟨false, .undef j want d hg hd he, by simpa using ha⟩
     · simp at ha

theorem zgc {ops : List Oper} {o : Oper} {env : Env} {b : Bool} (hg : Gd ops o env b) {RT : Type} (T F : Env → Option RT) : zfv ops o env T F = if b = true then T env else F env := by
 cases hg with
 | free h => simp [zfv, h]
 | asks j want d b h hd he => cases b <;> cases want <;> simp [zfv, h, hd, he, zom he]
 | out j want h hd => simp only [zfv, h, hd]; simp
 | undef j want d h hd he => simp [zfv, h, hd, he]

theorem zlH {CALL : CallT} {ops : List Oper} : ∀ {l : List Nat} {env : Env} {h : zaa} {RT : Type} {K : Env → zaa → Option RT} {r : RT}, zlE P CALL ops l env h K = some r →
 ∃ env' h', K env' h' = some r ∧ ∀ {R : Type} (K' : Env → zaa → Option R), zlE P CALL ops l env h K' = K' env' h'
 | [], env, h, _, K, r, ha => ⟨env, h, by simpa [zlE] using ha, fun K' => by simp [zlE]⟩
 | i :: rest, env, h, _, K, r, ha => by
  unfold zlE at ha
  split at ha
  · simp at ha
  · rename_i o ho
    obtain ⟨b, hg, hb⟩ := zgb ha
    cases b with
    | true =>
     simp only [if_true] at hb
     obtain ⟨v, h', hk, hgo⟩ := zeI hb
     obtain ⟨env', h'', h1, h2⟩ := zlH hk
     exact ⟨env', h'', h1, fun K' => by unfold zlE; simp only [ho]; rw [zgc hg]; simp only [if_true]; rw [hgo, h2]⟩
    | false =>
     simp only [Bool.false_eq_true, if_false] at hb
     obtain ⟨env', h'', h1, h2⟩ := zlH hb
     exact ⟨env', h'', h1, fun K' => by unfold zlE; simp only [ho]; rw [zgc hg]; simp only [Bool.false_eq_true, if_false]; rw [h2]⟩

theorem zjj {CALL : CallT} {ops : List Oper} : ∀ {l : List Nat} {env : Env} {h : zaa} {T : List Rec} {RT : Type} {K : List Rec → Env → zaa → Option RT} {r : RT}, zep P CALL ops l env h T K = some r →
 ∃ T' env' h', K T' env' h' = some r ∧ ∀ {R : Type} (K' : List Rec → Env → zaa → Option R), zep P CALL ops l env h T K' = K' T' env' h'
 | [], env, h, T, _, K, r, ha => ⟨T, env, h, by simpa [zep] using ha, fun K' => by simp [zep]⟩
 | i :: rest, env, h, T, _, K, r, ha => by
  unfold zep at ha
  split at ha
  · simp at ha
  · rename_i o ho
    obtain ⟨b, hg, hb⟩ := zgb ha
    cases b with
    | true =>
     simp only [if_true] at hb
     obtain ⟨v, h', hk, hgo⟩ := zeI hb
     obtain ⟨T', env', h'', h1, h2⟩ := zjj hk
     exact ⟨T', env', h'', h1, fun K' => by unfold zep; simp only [ho]; rw [zgc hg]; simp only [if_true]; rw [hgo, h2]⟩
    | false =>
     simp only [Bool.false_eq_true, if_false] at hb
     obtain ⟨T', env', h'', h1, h2⟩ := zjj hb
     exact ⟨T', env', h'', h1, fun K' => by unfold zep; simp only [ho]; rw [zgc hg]; simp only [Bool.false_eq_true, if_false]; rw [h2]⟩

theorem zt5 {R R' : Type} {x : Option AV} {v : AV} {K : Option R} {r : R} (h : zqo x v K = some r) : K = some r ∧ ∀ {R' : Type} (K' : Option R'), zqo x v K' = K' := by
 unfold zqo at h ⊢
 cases x with
 | none => simp at h
 | some u =>
  simp only [Option.bind_some] at h ⊢
  split at h
  · rename_i he; exact ⟨h, fun K' => by rw [if_pos he]⟩
  · simp at h

theorem zdS {α : Type} (f : {R : Type} → (α → Option R) → Option R) (hf : ∀ {R : Type} (K : α → Option R) (r : R), f K = some r → ∃ x, K x = some r ∧ ∀ {R' : Type} (K' : α → Option R'), f K' = K' x) {R : Type} (K : α → Option R) :
 f K = (f fun x => some x).bind K := by
 cases h1 : f K with
 | some r =>
  obtain ⟨x, hx, hall⟩ := hf K r h1
  rw [hall]; simp [hx]
 | none =>
  cases h2 : f fun x => some x with
  | none => rfl
  | some y =>
   obtain ⟨x, hx, hall⟩ := hf _ y h2
   have := hall K
   rw [h1] at this
   simp at hx; subst hx
   simp [this]

theorem zjK {o : Oper} {env : Env} {h : zaa} {v : AV} {R : Type} (K : Option R) : zri P o env h v K = zqo (zeT P o env h) v K := by
 have := zdS (α := AV) (fun {R} (K : AV → Option R) => aop P h env o (fun v _ => K v) fun _ _ => none) (fun {R} K r hr => by
  rcases zjw hr with ⟨v1, h1, hk, hg⟩ | ⟨_, _, hc, _⟩
  · exact ⟨v1, hk, fun K' => hg _ _⟩
  · simp at hc) (fun u => if AV.beq u v = true then K else none)
 exact this

theorem zfZ {ops : List Oper} {T : List Rec} {RT : Type} {K : Option RT} {r : RT} : ∀ {l : List (Nat × Nat)}, zeM P ops T l K = some r → K = some r ∧ ∀ {R : Type} (K' : Option R), zeM P ops T l K' = K'
 | [], h => ⟨h, fun K' => rfl⟩
 | (i, c) :: l, h => by
  unfold zeM at h
  split at h
  · rename_i x y o hx hy ho
    split at h
    · rename_i hr
      rw [zjK] at h
      obtain ⟨h1, h2⟩ := zt5 (R' := RT) h
      obtain ⟨h3, h4⟩ := zfZ h1
      exact ⟨h3, fun K' => by unfold zeM; simp only [hx, hy, ho, hr, if_true]; rw [zjK, h2, h4]⟩
    · rename_i hr
      obtain ⟨h3, h4⟩ := zfZ h
      exact ⟨h3, fun K' => by unfold zeM; simp only [hx, hy, ho, hr, if_false]; rw [h4]; simp⟩
  · simp at h

theorem zfu {CALL : CallT} {LS : zcQ} : ∀ {c : Code} {env : Env} {h : zaa} {RT : Type} {K : AEx → Env → zaa → Option RT} {r : RT}, zbb P CALL LS c env h K = some r →
 ∃ e env' h', K e env' h' = some r ∧ ∀ {R : Type} (K' : AEx → Env → zaa → Option R), zbb P CALL LS c env h K' = K' e env' h' := by
 intro c
 induction c with
 | skip => intro env h RT K r ha; exact ⟨_, _, _, ha, fun K' => rfl⟩
 | label l => intro env h RT K r ha; exact ⟨_, _, _, ha, fun K' => rfl⟩
 | exit i => intro env h RT K r ha; exact ⟨_, _, _, ha, fun K' => rfl⟩
 | ret => intro env h RT K r ha; exact ⟨_, _, _, ha, fun K' => rfl⟩
 | scope c ih => intro env h RT K r ha; simp [zbb] at ha
 | goto l => intro env h RT K r ha; simp [zbb] at ha
 | refuse s => intro env h RT K r ha; simp [zbb] at ha
 | region id ops draw =>
  intro env h RT K r ha
  unfold zbb at ha
  cases draw with
  | true =>
   simp only [if_true] at ha
   split at ha
   · rename_i hok
     obtain ⟨T, env', h', h1, h2⟩ := zjj ha
     obtain ⟨h3, h4⟩ := zfZ h1
     exact ⟨.norm, env', h', h3, fun K' => by unfold zbb; simp only [hok, if_true]; rw [h2, h4]⟩
   · simp at ha
  | false =>
   simp only [Bool.false_eq_true, if_false] at ha
   obtain ⟨env', h', h1, h2⟩ := zlH ha
   exact ⟨.norm, env', h', h1, fun K' => by unfold zbb; simp only [Bool.false_eq_true, if_false]; rw [h2]⟩
 | seq x y ihx ihy =>
  intro env h RT K r ha
  unfold zbb at ha
  obtain ⟨e, env', h', h1, h2⟩ := ihx ha
  cases e with
  | norm =>
   obtain ⟨e2, env2, h3, h4, h5⟩ := ihy h1
   exact ⟨e2, env2, h3, h4, fun K' => by unfold zbb; rw [h2]; simp only; rw [h5]⟩
  | exit i => exact ⟨_, _, _, h1, fun K' => by unfold zbb; rw [h2]⟩
  | ret => exact ⟨_, _, _, h1, fun K' => by unfold zbb; rw [h2]⟩
 | cond c x y ihx ihy =>
  intro env h RT K r ha
  unfold zbb at ha
  split at ha
  · rename_i t hc
    split at ha
    · rename_i ht
      obtain ⟨e, env', h', h1, h2⟩ := ihx ha
      exact ⟨e, env', h', h1, fun K' => by unfold zbb; simp only [hc, ht, if_true]; rw [h2]⟩
    · rename_i ht
      obtain ⟨e, env', h', h1, h2⟩ := ihy ha
      exact ⟨e, env', h', h1, fun K' => by unfold zbb; simp only [hc, ht, if_false, Bool.false_eq_true]; rw [h2]⟩
  · simp at ha
 | block i c ih =>
  intro env h RT K r ha
  unfold zbb at ha
  obtain ⟨e, env', h', h1, h2⟩ := ih ha
  cases e with
  | norm => exact ⟨_, _, _, h1, fun K' => by unfold zbb; rw [h2]⟩
  | ret => exact ⟨_, _, _, h1, fun K' => by unfold zbb; rw [h2]⟩
  | exit j =>
   simp only at h1
   split at h1
   · rename_i hj; exact ⟨_, _, _, h1, fun K' => by unfold zbb; rw [h2]; simp only [hj, if_true]⟩
   · rename_i hj; exact ⟨_, _, _, h1, fun K' => by unfold zbb; rw [h2]; simp only [hj, if_false]⟩
 | loop c ih =>
  intro env h RT K r ha
  unfold zbb at ha
  split at ha
  · rename_i s hs
    rw [s.nat] at ha
    simp only [Option.bind_eq_some_iff] at ha
    obtain ⟨x, hx, hk⟩ := ha
    exact ⟨x.1, x.2.1, x.2.2, hk, fun K' => by unfold zbb; simp only [hs]; rw [s.nat, hx]; rfl⟩
  · simp at ha
 | rangeFunc g ps asg body iha ihb =>
  intro env h RT K r ha
  unfold zbb at ha
  split at ha
  · rename_i id cap hg
    rw [CALL.nat] at ha
    simp only [Option.bind_eq_some_iff] at ha
    obtain ⟨⟨v, h1⟩, hcall, hk⟩ := ha
    simp only at hk
    split at hk
    · rename_i L hL
      split at hk
      · simp at hk
      · rename_i hb
        split at hk
        · rename_i hp
          exact ⟨_, _, _, hk, fun K' => by unfold zbb; simp only [hg]; rw [CALL.nat, hcall]; simp only [Option.bind_some, hL, hb, if_false, hp]⟩
        · rename_i e hp
          exact ⟨_, _, _, hk, fun K' => by unfold zbb; simp only [hg]; rw [CALL.nat, hcall]; simp only [Option.bind_some, hL, hb, if_false, hp]⟩
    · simp at hk
  · simp at ha

theorem zmk {CALL : CallT} {LS : zcQ} {f : FuncId} {args : List AV} {h : zaa} {R : Type} {K : AV → zaa → Option R} {r : R} (ha : zch P CALL LS f args h K = some r) :
 ∃ v h', K v h' = some r ∧ ∀ {R' : Type} (K' : AV → zaa → Option R'), zch P CALL LS f args h K' = K' v h' := by
 unfold zch at ha
 split at ha
 · rename_i fn hfn
   split at ha
   · rename_i c hc
     split at ha
     · simp at ha
     · rename_i hname
       obtain ⟨e, env', h', h1, h2⟩ := zfu ha
       cases e with
       | exit i => simp at h1
       | norm =>
        simp only [Option.bind_eq_some_iff] at h1
        obtain ⟨l, hl, hk⟩ := h1
        exact ⟨_, _, hk, fun K' => by unfold zch; simp only [hfn, hc, hname, if_false]; rw [h2]; simp only [hl, Option.bind_some]⟩
       | ret =>
        simp only [Option.bind_eq_some_iff] at h1
        obtain ⟨l, hl, hk⟩ := h1
        exact ⟨_, _, hk, fun K' => by unfold zch; simp only [hfn, hc, hname, if_false]; rw [h2]; simp only [hl, Option.bind_some]⟩
   · simp at ha
 · simp at ha

theorem zp5 {CALL : CallT} {l : Nat} {args : List AV} {h : zaa} {R : Type} {K : AV → zaa → Option R} {r : R} (ha : zdy P CALL l args h K = some r) :
 ∃ v h', K v h' = some r ∧ ∀ {R' : Type} (K' : AV → zaa → Option R'), zdy P CALL l args h K' = K' v h' := by
 unfold zdy at ha
 split at ha
 · rename_i L hl
   split at ha
   · rename_i hc
     obtain ⟨e, env1, h1, hk, hall⟩ := zfu ha
     cases e with
     | exit i => simp at hk
     | ret => simp at hk
     | norm =>
      simp only at hk
      split at hk
      · rename_i L1 hl1
        split at hk
        · rename_i hst
          obtain ⟨e2, env2, h2, hk2, hall2⟩ := zfu hk
          split at hk2
          · rename_i L2 hl2
            cases e2 with
            | norm => exact ⟨_, _, hk2, fun K' => by unfold zdy; simp only [hl]; rw [if_pos hc, hall]; simp only [hl1, hst, if_true]; rw [hall2]; simp only [hl2]⟩
            | exit i => exact ⟨_, _, hk2, fun K' => by unfold zdy; simp only [hl]; rw [if_pos hc, hall]; simp only [hl1, hst, if_true]; rw [hall2]; simp only [hl2]⟩
            | ret => exact ⟨_, _, hk2, fun K' => by unfold zdy; simp only [hl]; rw [if_pos hc, hall]; simp only [hl1, hst, if_true]; rw [hall2]; simp only [hl2]⟩
          · simp at hk2
        · simp at hk
      · simp at hk
   · simp at ha
 · simp at ha

noncomputable def zk0 (P : Program) (CALL : CallT) (LS : zcQ) (f : FuncId) : Ent where
 run := zch P CALL LS f
 nat := fun args h K => by
  have := zdS (α := AV × zaa) (fun {R} K => zch P CALL LS f args h fun v h => K (v, h)) (fun K r hr => by
   obtain ⟨v, h', h1, h2⟩ := zmk hr
   exact ⟨(v, h'), h1, fun K' => h2 _⟩) (fun x => K x.1 x.2)
  exact this

theorem zkM (P : Program) (CALL : CallT) (l : Nat) (args : List AV) (h : zaa) {R : Type} (K : AV → zaa → Option R) :
 zdy P CALL l args h K = (zdy P CALL l args h fun v h => some (v, h)).bind fun x => K x.1 x.2 := by
 have := zdS (α := AV × zaa) (fun {R} K => zdy P CALL l args h fun v h => K (v, h)) (fun K r hr => by
  obtain ⟨v, h', h1, h2⟩ := zp5 hr
  exact ⟨(v, h'), h1, fun K' => h2 _⟩) (fun x => K x.1 x.2)
 exact this

theorem Gd.wanted {ops : Array Oper} {o : Oper} {env : Env} {b : Bool} {tmps : Array Value} (hg : Gd ops.toList o env b) (hE : VRs σ env tmps.toList) : Region.wanted o (yielded ops tmps) = b := by
 unfold Region.wanted yielded
 cases hg with
 | free h => rw [h]
 | asks j want d b h hd he =>
  rw [h]
  rw [Array.getElem?_toList] at hd
  obtain ⟨v, h1, h2⟩ := hE.get he
  rw [Array.getElem?_toList] at h1
  simp only [hd, Option.bind_some, h1, h2.bool_inv]
  rfl
 | out j want h hd =>
  rw [h]
  rw [Array.getElem?_toList] at hd
  simp [hd]
 | undef j want d h hd he =>
  rw [h]
  rw [Array.getElem?_toList] at hd
  obtain ⟨v, h1, h2⟩ := hE.get he
  rw [Array.getElem?_toList] at h1
  cases h2
  simp [hd, h1]

theorem Gd.congr {ops : List Oper} {o : Oper} {env env' : Env} {b : Bool} (hg : Gd ops o env b) (hc : ∀ d, (∃ j want, o.guard = some (j, want) ∧ (ops[j]?).bind (·.dst) = some d) → env'[d]? = env[d]?) : Gd ops o env' b := by
 cases hg with
 | free h => exact .free h
 | asks j want d b h hd he => exact .asks j want d b h hd (by rw [hc d ⟨j, want, h, hd⟩]; exact he)
 | out j want h hd => exact .out j want h hd
 | undef j want d h hd he => exact .undef j want d h hd (by rw [hc d ⟨j, want, h, hd⟩]; exact he)

end Go.Abs

end

section
/- One operation, a region whose order is the text's: what the machine does. -/
set_option autoImplicit false
set_option linter.unusedVariables false
set_option linter.unusedSimpArgs false
namespace Go.Abs
variable {P : Program} {W0 : World} {σ : Sig} {h : zaa} {w : World}

abbrev FW (ro : Option Nat) : Fence := { Fence.wide with round := ro }

def zvb (W0 : World) (σ : Sig) (h : zaa) (w : World) (v : AV) (h' : zaa) : Ending → World → Prop :=
 fun e w' => ∃ v' σ', e = .returned v' ∧ Stp σ h w σ' h' w' ∧ Rel W0 σ' h' w' ∧ VR σ' v v'

def zcg (P : Program) (CALL : CallT) : Prop :=
 ∀ {W0 : World} {σ : Sig} {h : zaa} {w : World} {fn : Fn} {args : List AV} {args' : Array Value} {v : AV} {h' : zaa},
  CALL.get fn args h = some (v, h') → Rel W0 σ h w → VRs σ args args'.toList →
  match fn with
  | .func f => (∃ fd, P.funcs[f]? = some fd ∧ fd.name ≠ "runtime.NumGoroutine" ∧ fd.body.isSome = true) ∧ ∀ n, CallsIn Fence.wide n P f args' w (zvb W0 σ h w v h')
  | .yield l => ∀ p, σ[l]? = some p → ∃ L, w.heap[p.blk]? = some (.loop L) ∧ args'.size = L.params.size ∧
   ∀ n, RoundIn Fence.wide n P p.blk L.fn ((L.params.zip args').foldl (fun tmps (t, a) => tmps.setIfInBounds t a) L.tmps) L.assign L.body w (zvb W0 σ h w v h')
  | _ => False

theorem zxw {env : Env} {a : Act} (hE : VRs σ env a.tmps.toList) (d : Option Tmp) {v : AV} {v' : Value} (hv : VR σ v v') : VRs σ (zfW env d v) (a.put d v').tmps.toList := by
 cases d with
 | none => exact hE
 | some d => simp only [zfW, Act.put, Array.toList_setIfInBounds]; exact hE.set d hv

theorem zpn (a : Act) (d : Option Tmp) (v : Value) : (a.put d v).defers = a.defers := by cases d <;> rfl

theorem zlp {CALL : CallT} (SC : zcg P CALL) (R : Rel W0 σ h w) {o : Oper} {env : Env} {a : Act} (hE : VRs σ env a.tmps.toList) {v : AV} {h' : zaa} (hg : zjP P CALL h env o v h')
 {ro : Option Nat} {n : Nat} {next : Act → World → Prop} {Q : Exit → Act → World → Prop}
 (hn : ∀ σ' w' v', Stp σ h w σ' h' w' → Rel W0 σ' h' w' → VR σ' v v' → next (a.put o.dst v') w') : o.wpIn (FW ro) n P a w next Q := by
 have ha := hg (R := AV × zaa) (fun v h => some (v, h))
 unfold zgR at ha
 obtain ⟨hnd, hcase⟩ := zz1 R hE ha
 refine ⟨fun _ _ => trivial, ?_⟩
 rw [Oper.semAt_eq _ _ _ hnd]
 rcases hcase with ⟨v1, h1, hk, σ', w', v', hrun, hs, hR, hv⟩ | ⟨fn, args, hc, args', hargs, hrun⟩
 · simp only [Option.some.injEq, Prod.mk.injEq] at hk
   obtain ⟨rfl, rfl⟩ := hk
   rcases hrun with hrun | ⟨hrun, rfl⟩
   · rw [hrun]; exact hn _ _ _ hs hR hv
   · rw [hrun]; exact hn _ _ _ hs hR hv
 · have hsc := SC hc R hargs
   cases fn with
   | func f =>
    obtain ⟨⟨fd, hfd, hname, hbody⟩, hcalls⟩ := hsc
    have he : (callFunc f args').run P w = .ok (.enter f args') w := by
     have : fd.body.isNone = false := by cases hb : fd.body with
      | none => rw [hb] at hbody; simp at hbody
      | some c => rfl
     simp only [callFunc, Sem.run_bind]
     simp [program, Sem.run, hfd, hname, this]
     intro hb; rw [hb] at hbody; simp at hbody
    rw [hrun, he]
    refine ⟨fun hd => ?_, CallsIn.mono (hcalls (n - 1)) fun e w' hr => ?_⟩
    · simp [Fence.wide] at hd
    · obtain ⟨v', σ', rfl, hs, hR, hv⟩ := hr
      exact hn _ _ _ hs hR hv
   | yield l =>
    obtain ⟨p, hp, hrun⟩ := hrun
    obtain ⟨L, hL, hsz, hround⟩ := hsc p hp
    have he : (Instr.yield p.blk args').run P w = .ok (.round p.blk L.fn ((L.params.zip args').foldl (fun tmps (t, a) => tmps.setIfInBounds t a) L.tmps) L.assign L.body) w := by
     have : (getObj p.blk).run P w = .ok (.loop L) w := by simp [getObj, Sem.run, hL]
     simp [Instr.yield, Instr.getLoop, this, hsz]
    rw [hrun, he]
    refine ⟨fun hd => ?_, RoundIn.mono (hround (n - 1)) fun e w' hr => ?_⟩
    · simp [Fence.wide] at hd
    · obtain ⟨v', σ', rfl, hs, hR, hv⟩ := hr
      exact hn _ _ _ hs hR hv
   | _ => exact hsc.elim

structure MarksR (B : Nat) (w : World) (ds : List Deferred) : Prop where
 size : B ≤ w.heap.size
 all : ∀ d ∈ ds, ∃ r, d.target = .collected r ∧ B ≤ r ∧ w.heap[r]? = some (.deferred (some []))
 nodup : ds.Pairwise fun d e => d.target ≠ e.target

theorem Rel.notOwn (R : Rel W0 σ h w) {r : Nat} {x : Option (List Deferred)} (hr : w.heap[r]? = some (.deferred x)) : ¬ Own h σ r := by
 rintro ⟨i, blk, p, h1, h2, h3, rfl⟩
 have := R.obj h1 h2
 cases blk with
 | cells vs esz md par =>
  rcases this with ⟨rfl, _⟩ | ⟨_, _, _, _, h4, _⟩
  · simp [ABlk.mine] at h3
  · rw [hr] at h4; cases h4
 | mp es c sy => obtain ⟨_, h4, _⟩ := this; rw [hr] at h4; cases h4
 | lp L => obtain ⟨_, h4, _⟩ := this; rw [hr] at h4; cases h4
 | dead => simp [ABlk.mine] at h3

theorem MarksR.step {B : Nat} {ds : List Deferred} (M : MarksR B w ds) (R : Rel W0 σ h w) {σ' : Sig} {h' : zaa} {w' : World} (s : Stp σ h w σ' h' w') : MarksR B w' ds := by
 refine ⟨Nat.le_trans M.size s.size, fun d hd => ?_, M.nodup⟩
 obtain ⟨r, h1, h2, h3⟩ := M.all d hd
 refine ⟨r, h1, h2, ?_⟩
 rw [s.same r (Array.getElem?_eq_some_iff.1 h3).1 (R.notOwn h3)]
 exact h3

structure At (W0 : World) (B : Nat) (σ : Sig) (h : zaa) (env : Env) (a : Act) (w : World) : Prop where
 rel : Rel W0 σ h w
 env : VRs σ env a.tmps.toList
 marks : MarksR B w a.defers

theorem At.put {B : Nat} {env : Env} {a : Act} (A : At W0 B σ h env a w) {σ' : Sig} {h' : zaa} {w' : World} (s : Stp σ h w σ' h' w') (R : Rel W0 σ' h' w') (d : Option Tmp) {v : AV} {v' : Value} (hv : VR σ' v v') :
 At W0 B σ' h' (zfW env d v) (a.put d v') w' :=
 ⟨R, zxw (s.vrs A.env) d hv, by rw [zpn]; exact A.marks.step A.rel s⟩

theorem At.skip {B : Nat} {env : Env} {a : Act} (A : At W0 B σ h env a w) (d : Option Tmp) : At W0 B σ h (zfW env d (.tup [])) (a.put d undef) w :=
 A.put (Stp.refl _ _ _) A.rel d (.tup [] [] .nil)

theorem zn4 {CALL : CallT} (SC : zcg P CALL) {ops : Array Oper} {RT : Type} {K : Env → zaa → Option RT} {r : RT} {ro : Option Nat} {n B : Nat} {Q : Exit → Act → World → Prop} :
 ∀ {l : List Nat} {env : Env} {h : zaa} {σ : Sig} {a : Act} {w : World}, zlE P CALL ops.toList l env h K = some r → At W0 B σ h env a w →
  (∀ env' h' σ' a' w', K env' h' = some r → Stp σ h w σ' h' w' → At W0 B σ' h' env' a' w' → Q .normal a' w') → wpOpsIn (FW ro) n P ops Q l a w
 | [], env, h, σ, a, w, ha, A, hQ => hQ env h σ a w (by simpa [zlE] using ha) (Stp.refl _ _ _) A
 | i :: rest, env, h, σ, a, w, ha, A, hQ => by
  unfold zlE at ha
  unfold wpOpsIn
  split at ha
  · simp at ha
  · rename_i o ho
    rw [Array.getElem?_toList] at ho
    simp only [ho]
    obtain ⟨b, hg, hb⟩ := zgb ha
    rw [hg.wanted A.env]
    cases b with
    | true =>
     simp only [if_true] at hb ⊢
     obtain ⟨v, h', hk, hgo⟩ := zeI hb
     refine zlp SC A.rel A.env hgo fun σ' w' v' s R hv => ?_
     exact zn4 SC hk (A.put s R _ hv) fun env' h'' σ'' a' w'' hk' s' A' => hQ _ _ _ _ _ hk' (s.trans s') A'
    | false =>
     simp only [Bool.false_eq_true, if_false] at hb ⊢
     refine ⟨fun _ _ => trivial, ?_⟩
     exact zn4 SC hb (A.skip _) hQ

end Go.Abs

end

section
/- What an operation looks at: slots, memory. -/
set_option autoImplicit false
set_option linter.unusedVariables false
set_option linter.unusedSimpArgs false
namespace Go.Abs
variable {P : Program} {W0 : World} {σ : Sig} {h : zaa} {w : World}

mutual
theorem AV.beq_eq : ∀ (a b : AV), AV.beq a b = true → a = b
 | .any, b, h => by cases b <;> simp [AV.beq] at h; rfl
 | .bool x, b, h => by cases b <;> simp [AV.beq] at h; rw [h]
 | .int k n, b, h => by cases b <;> simp [AV.beq] at h; rw [h.1, h.2]
 | .str s, b, h => by cases b <;> simp [AV.beq] at h; rw [h]
 | .ptr a, b, h => by cases b <;> simp [AV.beq] at h; rw [h]
 | .sl a l c e, b, h => by cases b <;> simp [AV.beq] at h; obtain ⟨⟨⟨rfl, rfl⟩, rfl⟩, rfl⟩ := h; rfl
 | .map a, b, h => by cases b <;> simp [AV.beq] at h; rw [h]
 | .fn f l, b, h => by cases b <;> simp [AV.beq] at h; rw [h.1, AV.beqs_eq _ _ h.2]
 | .nilFn, b, h => by cases b <;> simp [AV.beq] at h; rfl
 | .agg l, b, h => by cases b <;> simp [AV.beq] at h; rw [AV.beqs_eq _ _ h]
 | .tup l, b, h => by cases b <;> simp [AV.beq] at h; rw [AV.beqs_eq _ _ h]
theorem AV.beqs_eq : ∀ (l m : List AV), AV.beqs l m = true → l = m
 | [], m, h => by cases m <;> simp [AV.beqs] at h; rfl
 | a :: l, m, h => by
  cases m with
  | nil => simp [AV.beqs] at h
  | cons b m => simp [AV.beqs] at h; rw [AV.beq_eq _ _ h.1, AV.beqs_eq _ _ h.2]
end

theorem zpw {R : Type} {x : Option AV} {v : AV} {K : Option R} {r : R} (h : zqo x v K = some r) : x = some v ∧ K = some r := by
 unfold zqo at h
 cases x with
 | none => simp at h
 | some u =>
  simp only [Option.bind_some] at h
  split at h
  · rename_i he; rw [AV.beq_eq _ _ he]; exact ⟨rfl, h⟩
  · simp at h

theorem zm2 {o : Oper} {env env' : Env} (hx : ∀ x ∈ o.op.operands, aev env x = aev env' x) {RT : Type} (K : AV → zaa → Option RT) (C : Fn → List AV → Option RT) : aop P h env o K C = aop P h env' o K C := by
 have hmap : ∀ l : List Operand, (∀ x ∈ l, x ∈ o.op.operands) → l.map (aev env) = l.map (aev env') := fun l hl => List.map_congr_left fun x h => hx x (hl x h)
 have hopt : ∀ l : Option Operand, (∀ x, l = some x → x ∈ o.op.operands) → l.map (aev env) = l.map (aev env') := fun l hl => by
  cases l with
  | none => rfl
  | some x => simp [hx x (hl x rfl)]
 rw [zaN, zaN]
 unfold zdC
 cases ho : o.op
 case build t ps =>
  have : (ps.toList.map fun p => (p.1, aev env p.2)) = (ps.toList.map fun p => (p.1, aev env' p.2)) :=
   List.map_congr_left fun p hp => by rw [hx p.2 (by rw [ho]; simp only [Op.operands, List.mem_toArray, List.mem_map]; exact ⟨p, hp, rfl⟩)]
  simp only [this]
 case buildSlice t n ps =>
  have : (ps.toList.map fun p => (p.1, aev env p.2)) = (ps.toList.map fun p => (p.1, aev env' p.2)) :=
   List.map_congr_left fun p hp => by rw [hx p.2 (by rw [ho]; simp only [Op.operands, List.mem_toArray, List.mem_map]; exact ⟨p, hp, rfl⟩)]
  simp only [this]
 case makeFunc fn first cap =>
  simp only [hmap cap.toList (by rw [ho]; simp [Op.operands]; intro x h; exact .inr h)]
 case slice t x lo hi mx =>
  simp only [hx x (by rw [ho]; simp [Op.operands]), hopt lo (by rw [ho]; intro x h; simp [Op.operands, h]), hopt hi (by rw [ho]; intro x h; simp [Op.operands, h]), hopt mx (by rw [ho]; intro x h; simp [Op.operands, h])]
 case call c =>
  have e1 : c.args.toList.map (aev env) = c.args.toList.map (aev env') := hmap _ (by rw [ho]; intro x hx; simp [Op.operands, Call.operands]; right; simpa using hx)
  simp only [e1]
  cases hc : c.callee with
  | value f =>
   simp only
   rw [hx f (by rw [ho]; simp [Op.operands, Call.operands, hc])]
  | builtin b => rfl
  | invoke r n => rfl
 all_goals first | (simp only [ho, Op.operands] at hx; simp at hx; simp only [hx]; done) | rfl

theorem zof {s d : TypeId} {a k : IntKind} (hs : P.underlying s = some (.int a)) (hd : P.underlying d = some (.int k)) (h : zaa) (v : AV) : zld P h s d v = (match v with | .int _ n => some (.int k (k.wrap n), h) | _ => none) := by
 unfold zld
 rw [hs, hd]
 cases v <;> rfl

theorem zkc {s d : TypeId} {x : Operand} (h : zct P (.convert s d x) = false) : (∃ a k, P.underlying s = some (.int a) ∧ P.underlying d = some (.int k)) ∨ ∃ e, P.underlying s = some (.slice e) ∧ P.underlying d = some .string := by
 simp only [zct] at h
 split at h
 · rename_i a k h1 h2; exact .inl ⟨a, k, h1, h2⟩
 · rename_i e h1 h2; exact .inr ⟨e, h1, h2⟩
 · simp at h

def zvD (P : Program) (h : zaa) (e : TypeId) (v : AV) : Option AV := match v with
 | .sl base n _ _ =>
  match P.underlying e, base with
  | some (.int .u8), none => if n = 0 then some (.str []) else none
  | some (.int .u8), some (i, o) => (cellsAt h i o n).bind fun cs => if cs.all ziR = true then some (.str (cs.map zaA)) else none
  | _, _ => none
 | _ => none

theorem zox {s d e : TypeId} (hs : P.underlying s = some (.slice e)) (hd : P.underlying d = some .string) (h : zaa) (v : AV) : zld P h s d v = (zvD P h e v).map fun x => (x, h) := by
 unfold zld zvD
 rw [hs, hd]
 cases v <;> try rfl
 rename_i base n c ex
 simp only
 generalize P.underlying e = E
 cases E with
 | none => rfl
 | some td =>
  cases td <;> try rfl
  rename_i k
  cases k <;> try rfl
  cases base with
  | none => simp only; split <;> rfl
  | some q =>
   obtain ⟨i, o⟩ := q
   simp only
   cases cellsAt h i o n with
   | none => rfl
   | some cs => simp only [Option.bind_some]; split <;> rfl

theorem zpi {s d : TypeId} {x : Operand} (h : still P (.convert s d x) = true) : ∃ a k, P.underlying s = some (.int a) ∧ P.underlying d = some (.int k) := by
 simp only [still] at h
 split at h
 · rename_i a k h1 h2; exact ⟨a, k, h1, h2⟩
 · simp at h

theorem zkN {o : Oper} {env : Env} (hl : zct P o.op = false) {RT : Type} (K : AV → zaa → Option RT) (C : Fn → List AV → Option RT) : aop P h env o K C = aop P h env o (fun v _ => K v h) C := by
 rw [zaN, zaN]
 unfold zdC
 cases ho : o.op <;> first | rfl | (simp [ho, zct] at hl; done) | skip
 case convert s d x =>
  rw [ho] at hl
  rcases zkc hl with ⟨a, k, h1, h2⟩ | ⟨e, h1, h2⟩
  · simp only [zof h1 h2]
    cases aev env x <;> rfl
  · simp only [zox h1 h2]
    cases zvD P h e (aev env x) <;> rfl
 case call c =>
  simp only
  cases hc : c.callee with
  | value f => obtain ⟨cal, args, ts⟩ := c; simp at hc; subst hc; simp [ho, zct] at hl
  | invoke r n => rfl
  | builtin b =>
   obtain ⟨cal, args, ts⟩ := c; simp at hc; subst hc
   simp only
   generalize List.map (aev env) args.toList = l
   generalize ts.toList = tl
   cases b <;> simp [ho, zct] at hl <;> (rcases l with _ | ⟨x, _ | ⟨y, _ | ⟨z, l⟩⟩⟩ <;> rcases tl with _ | ⟨t, _ | ⟨t2, tl⟩⟩ <;> rfl)

theorem zqr {o : Oper} {env : Env} (hs : still P o.op = true) (h2 : zaa) {RT : Type} (K : AV → zaa → Option RT) (C : Fn → List AV → Option RT) : aop P h env o (fun v _ => K v h) C = aop P h2 env o (fun v _ => K v h) C := by
 rw [zaN, zaN]
 unfold zdC
 cases ho : o.op <;> first | rfl | (simp [ho, still] at hs; done) | skip
 case convert s d x =>
  rw [ho] at hs
  obtain ⟨a, k, h1, h2⟩ := zpi hs
  simp only [zof h1 h2]
  cases aev env x <;> rfl
 case call c =>
  simp only
  cases hc : c.callee with
  | value f => rfl
  | invoke r n => rfl
  | builtin b =>
   obtain ⟨cal, args, ts⟩ := c; simp at hc; subst hc
   simp only
   generalize List.map (aev env) args.toList = l
   generalize ts.toList = tl
   cases b <;> simp [ho, still] at hs <;> (rcases l with _ | ⟨x, _ | ⟨y, _ | ⟨z, l⟩⟩⟩ <;> rcases tl with _ | ⟨t, _ | ⟨t2, tl⟩⟩ <;> rfl)


theorem znx {i o : Nat} {v : AV} (hc : cellAt h i o = some v) (b : ABlk) : cellAt (h ++ [b]) i o = some v := by
 unfold cellAt at hc ⊢
 cases hi : h[i]? with
 | none => simp [hi] at hc
 | some x => rw [List.getElem?_append_left (List.getElem?_eq_some_iff.1 hi).1, hi]; rw [hi] at hc; exact hc

theorem zia {i o n : Nat} {v : List AV} (hc : cellsAt h i o n = some v) (b : ABlk) : cellsAt (h ++ [b]) i o n = some v := by
 unfold cellsAt at hc ⊢
 cases hi : h[i]? with
 | none => simp [hi] at hc
 | some x => rw [List.getElem?_append_left (List.getElem?_eq_some_iff.1 hi).1, hi]; rw [hi] at hc; exact hc

theorem zjX {i : Nat} {v : List (AV × AV × Nat) × Nat} (hc : zbX h i = some v) (b : ABlk) : zbX (h ++ [b]) i = some v := by
 unfold zbX at hc ⊢
 cases hi : h[i]? with
 | none => simp [hi] at hc
 | some x => rw [List.getElem?_append_left (List.getElem?_eq_some_iff.1 hi).1, hi]; rw [hi] at hc; exact hc

theorem zpL {t : TypeId} {a v : AV} (ha : ziV P h t a = some v) (b : ABlk) : ziV P (h ++ [b]) t a = some v := by
 unfold ziV at ha ⊢
 split at ha
 · split at ha
   · simp only [Option.map_eq_some_iff] at ha ⊢
     obtain ⟨cs, h1, h2⟩ := ha
     exact ⟨cs, zia h1 b, h2⟩
   · have e := znx (zf9 ha) b
     rw [e]; rw [zf9 ha] at ha; exact ha
   · simp at ha
 · simp at ha

theorem zm4 {m : AV} {v : List (AV × AV × Nat)} (ha : zgB h m = some v) (b : ABlk) : zgB (h ++ [b]) m = some v := by
 unfold zgB at ha ⊢
 split at ha
 · exact ha
 · simp only [Option.map_eq_some_iff] at ha ⊢
   obtain ⟨cs, h1, h2⟩ := ha
   exact ⟨cs, zjX h1 b, h2⟩
 · simp at ha

theorem zk8 {t : TypeId} {m k v : AV} {ok : Bool} (ha : zb4 P h t m k ok = some v) (b : ABlk) : zb4 P (h ++ [b]) t m k ok = some v := by
 unfold zb4 at ha ⊢
 split at ha
 · simp at ha
 · simp only [Option.bind_eq_some_iff] at ha ⊢
   obtain ⟨es, h1, h2⟩ := ha
   exact ⟨es, zm4 h1 b, h2⟩

theorem zoX {m : AV} (b : ABlk) (hm : (∃ r, m = .map (some r) ∧ r < h.length) ∨ m = .map none) : zgn (h ++ [b]) m = zgn h m := by
 rcases hm with ⟨r, rfl, hr⟩ | rfl
 · simp only [zgn, List.getElem?_append_left hr]
 · rfl
theorem zm6 {t : TypeId} {m k v : AV} {ok : Bool} (ha : zb4 P h t m k ok = some v) : (∃ r, m = .map (some r) ∧ r < h.length) ∨ m = .map none := by
 unfold zb4 at ha
 split at ha
 · cases ha
 · simp only [Option.bind_eq_some_iff] at ha
   obtain ⟨es, h1, _⟩ := ha
   unfold zgB at h1
   split at h1
   · exact .inr rfl
   · rename_i r
     simp only [Option.map_eq_some_iff] at h1
     obtain ⟨x, hx, _⟩ := h1
     obtain ⟨s, hb⟩ := zel (es := x.1) (c := x.2) hx
     exact .inl ⟨r, rfl, (List.getElem?_eq_some_iff.1 hb).1⟩
   · cases h1
theorem zmP {t : TypeId} {m k v : AV} {ok : Bool} (ha : zeW P h t m k ok = some v) (b : ABlk) : zeW P (h ++ [b]) t m k ok = some v := by
 have h0 := zh6 ha
 have h1 := zk8 h0 b
 have hs := zoX b (zm6 h0)
 unfold zeW zyk at ha ⊢
 rw [hs]
 split at ha
 · rename_i hy
   rw [if_pos hy]
   cases ok with
   | true => simp only [h0, h1] at ha ⊢; exact ha
   | false => simp only [h0, h1] at ha ⊢; exact ha
 · rename_i hy
   rw [if_neg hy]; exact h1

theorem zsN {t : TypeId} {x v : AV} (ha : zuj P h t x = some v) (b : ABlk) : zuj P (h ++ [b]) t x = some v := by
 unfold zuj at ha ⊢
 split at ha
 · exact ha
 · exact ha
 · exact ha
 · exact ha
 · split at ha
   · rename_i hu r es c hi
     rw [List.getElem?_append_left (List.getElem?_eq_some_iff.1 hi).1, hi]; exact ha
   · simp at ha
 · simp at ha

def zlU (P : Program) : Op → Bool
 | .load .. | .lookup .. => true
 | .convert s d _ => (match P.underlying s, P.underlying d with | some (.slice _), some .string => true | _, _ => false)
 | .call { callee := .builtin .len, .. } => true
 | _ => false

theorem zus {o : Op} (h1 : zct P o = false) (h2 : still P o = false) : zlU P o = true := by
 cases o
 case convert s d x =>
  rcases zkc h1 with ⟨a, k, g1, g2⟩ | ⟨e, g1, g2⟩
  · simp [still, g1, g2] at h2
  · simp [zlU, g1, g2]
 all_goals (simp [zct, still] at h1 h2; try rfl)
 case call c =>
  obtain ⟨cal, args, ts⟩ := c
  cases cal with
  | value f => simp [zct] at h1
  | invoke r n => simp [zct] at h1
  | builtin b => cases b <;> simp [zct] at h1 <;> simp [still] at h2; rfl

theorem zpv {o : Oper} {env : Env} {v : AV} (hl : zlU P o.op = true) (ha : zeT P o env h = some v) (b : ABlk) : zeT P o env (h ++ [b]) = some v := by
 unfold zeT at ha ⊢
 rw [zaN] at ha ⊢
 unfold zdC at ha ⊢
 cases ho : o.op <;> simp only [ho, zlU] at hl ha ⊢ <;> first | (simp at hl; done) | skip
 case load t x =>
  simp only [Option.bind_eq_some_iff] at ha ⊢
  obtain ⟨y, h1, h2⟩ := ha
  exact ⟨y, zpL h1 b, h2⟩
 case convert s d x =>
  split at hl
  · rename_i e h1 h2
    rw [zox h1 h2] at ha ⊢
    simp only [Option.bind_eq_some_iff, Option.map_eq_some_iff] at ha ⊢
    obtain ⟨y, ⟨z, h3, h4⟩, h5⟩ := ha
    subst h4
    refine ⟨(z, h ++ [b]), ⟨z, ?_, rfl⟩, h5⟩
    unfold zvD at h3 ⊢
    split at h3
    · split at h3
      · exact h3
      · simp only [Option.bind_eq_some_iff] at h3 ⊢
        obtain ⟨cs, g1, g2⟩ := h3
        exact ⟨cs, zia g1 b, g2⟩
      · simp at h3
    · simp at h3
  · simp at hl
 case lookup t m k ok =>
  simp only [Option.bind_eq_some_iff] at ha ⊢
  obtain ⟨y, h1, h2⟩ := ha
  exact ⟨y, zmP h1 b, h2⟩
 case call c =>
  obtain ⟨cal, args, ts⟩ := c
  cases cal with
  | value f => simp at hl
  | invoke r n => simp at hl
  | builtin b' =>
   cases b' <;> simp at hl
   simp only at ha ⊢
   generalize List.map (aev env) args.toList = l at *
   generalize ts.toList = tl at *
   rcases l with _ | ⟨x, _ | ⟨y, l⟩⟩ <;> rcases tl with _ | ⟨t, _ | ⟨t2, tl⟩⟩ <;> simp only [Option.bind_eq_some_iff] at ha ⊢ <;> first | (simp at ha; done) | skip
   obtain ⟨y, h1, h2⟩ := ha
   exact ⟨y, zsN h1 b, h2⟩

theorem zt4 {o : Oper} {env : Env} {v : AV} {h' : zaa} (hl : zct P o.op = false) (hg : zzF P h env o v h') : h' = h := by
 have h1 := hg (R := zaa) (fun _ h => some h) (fun _ _ => none)
 rw [zkN hl] at h1
 have h2 := hg (R := zaa) (fun _ _ => some h) (fun _ _ => none)
 rw [h1] at h2
 simpa using h2

theorem zs3 {o : Oper} {env : Env} {v : AV} (hl : zct P o.op = false) (ha : zeT P o env h = some v) : zzF P h env o v h := by
 rcases zjw ha with ⟨v1, h1, hk, hg⟩ | ⟨_, _, hc, _⟩
 · simp only [Option.some.injEq] at hk; subst hk
   rw [zt4 hl hg] at hg; exact hg
 · simp at hc

theorem zqu {o : Oper} {env : Env} (hs : still P o.op = true) (h2 : zaa) : zeT P o env h = zeT P o env h2 := zqr hs h2 (fun v _ => some v) _

theorem zrG {o : Oper} {env : Env} {v : AV} {h' : zaa} (hs : zwj o.op = true) (hg : zzF P h env o v h') : ∃ b, h' = h ++ [b] := by
 have h1 := hg (R := AV × zaa) (fun v h => some (v, h)) (fun _ _ => none)
 have hbox : ∀ {t : TypeId} {x v : AV} {h' : zaa}, zul P h t x = some (v, h') → ∃ b, h' = h ++ [b] := fun {t x v h'} hb => by
  unfold zul at hb
  split at hb
  · simp at hb; exact ⟨_, hb.2.symm⟩
  · simp at hb
 rw [zaN] at h1
 unfold zdC at h1
 cases ho : o.op <;> simp only [ho, zwj] at hs h1 <;> first | (simp at hs; done) | skip
 case alloc t =>
  obtain ⟨v1, h2, hk, hh⟩ := za6 (K := fun v h => some (v, h)) h1
  simp at hh; obtain ⟨rfl, rfl⟩ := hh
  unfold ziS at hk
  split at hk
  · exact hbox hk
  · simp at hk
 case box t x =>
  obtain ⟨v1, h2, hk, hh⟩ := za6 (K := fun v h => some (v, h)) h1
  simp at hh; obtain ⟨rfl, rfl⟩ := hh
  exact hbox hk
 case buildSlice t n ps =>
  obtain ⟨v1, h2, hk, hh⟩ := za6 (K := fun v h => some (v, h)) h1
  simp at hh; obtain ⟨rfl, rfl⟩ := hh
  unfold zcp at hk
  split at hk
  · simp at hk
  · split at hk
    · split at hk
      · split at hk
        · simp only [Option.map_eq_some_iff, Prod.mk.injEq] at hk
          obtain ⟨cs, _, _, rfl⟩ := hk
          exact ⟨_, rfl⟩
        · simp at hk
      · simp at hk
    · simp at hk
 case makeMap t r0 =>
  cases r0 with
  | none => simp at h1; exact ⟨_, h1.2.symm⟩
  | some x => simp at h1
 case makeSlice t l c =>
  obtain ⟨v1, h2, hk, hh⟩ := za6 (K := fun v h => some (v, h)) h1
  simp at hh; obtain ⟨rfl, rfl⟩ := hh
  unfold zdP at hk
  split at hk
  · split at hk
    · split at hk
      · split at hk
        · simp at hk; exact ⟨_, hk.2.symm⟩
        · simp at hk
      · simp at hk
    · simp at hk
  · simp at hk

end Go.Abs

end

section
/- A region whose order is drawn, first part: what stands ahead of what; the run in the text's order; what stands in the slots behind whichever of its operations. -/
set_option autoImplicit false
set_option linter.unusedVariables false
set_option linter.unusedSimpArgs false
namespace Go.Abs
variable {P : Program} {W0 : World} {σ : Sig} {h : zaa} {w : World}


def ziO (acc : List Nat) (o : Oper) : Nat := (zds o).foldl (fun s e => s ||| 2 ^ e.on ||| acc.getD e.on 0) 0

theorem zme (acc : List Nat) (j : Nat) : ∀ (l : List Edge) (s : Nat), (l.foldl (fun s e => s ||| 2 ^ e.on ||| acc.getD e.on 0) s).testBit j = true →
 s.testBit j = true ∨ ∃ e ∈ l, e.on = j ∨ (acc.getD e.on 0).testBit j = true
 | [], s, h => .inl h
 | e :: l, s, h => by
  rcases zme acc j l _ h with h1 | ⟨e', he, h1⟩
  · simp only [Nat.testBit_or, Bool.or_eq_true] at h1
    rcases h1 with (h1 | h1) | h1
    · exact .inl h1
    · exact .inr ⟨e, by simp, .inl (by simpa [Nat.testBit_two_pow] using h1)⟩
    · exact .inr ⟨e, by simp, .inr h1⟩
  · exact .inr ⟨e', by simp [he], h1⟩

theorem zhF : ∀ (ops : List Oper) (acc : List Nat), ∃ new, ops.foldl (fun acc o => acc ++ [ziO acc o]) acc = acc ++ new ∧ new.length = ops.length ∧
 ∀ (k : Nat) (o : Oper), ops[k]? = some o → new[k]? = some (ziO (acc ++ new.take k) o)
 | [], acc => ⟨[], by simp, rfl, by simp⟩
 | o :: ops, acc => by
  obtain ⟨new, h1, h2, h3⟩ := zhF ops (acc ++ [ziO acc o])
  refine ⟨ziO acc o :: new, by simp [h1], by simp [h2], fun k o' hk => ?_⟩
  cases k with
  | zero => simp at hk; subst hk; simp
  | succ k => simp at hk; rw [List.getElem?_cons_succ, h3 k o' hk]; simp

theorem zqe {ops : List Oper} (hb : ∀ (j : Nat) o, ops[j]? = some o → ∀ e ∈ zds o, e.on < j) {i j : Nat} (ht : ((zbJ ops).getD i 0).testBit j = true) :
 ∃ o, ops[i]? = some o ∧ ∃ e ∈ zds o, e.on = j ∨ ((zbJ ops).getD e.on 0).testBit j = true := by
 obtain ⟨new, h1, h2, h3⟩ := zhF ops []
 have ha : zbJ ops = new := by
  have : zbJ ops = ops.foldl (fun acc o => acc ++ [ziO acc o]) [] := rfl
  rw [this, h1]; rfl
 rw [ha] at ht ⊢
 cases ho : ops[i]? with
 | none =>
  have : new[i]? = none := by simp at ho ⊢; omega
  rw [List.getD_eq_getElem?_getD, this] at ht
  simp at ht
 | some o =>
  have h4 := h3 i o ho
  rw [List.getD_eq_getElem?_getD, h4] at ht
  simp only [Option.getD_some, ziO, List.nil_append] at ht
  rcases zme _ j _ _ ht with h5 | ⟨e, he, h5⟩
  · simp at h5
  · refine ⟨o, rfl, e, he, ?_⟩
    rcases h5 with h5 | h5
    · exact .inl h5
    · right
      have := hb i o ho e he
      rw [List.getD_eq_getElem?_getD, List.getElem?_take_of_lt this] at h5
      rw [List.getD_eq_getElem?_getD]; exact h5

theorem zhl {ops : List Oper} (hb : ∀ (j : Nat) o, ops[j]? = some o → ∀ e ∈ zds o, e.on < j) {S : Nat → Prop} (hS : ∀ (j : Nat) o, S j → ops[j]? = some o → ∀ e ∈ zds o, S e.on) :
 ∀ (i : Nat), (∀ o, ops[i]? = some o → ∀ e ∈ zds o, S e.on) → ∀ j, ((zbJ ops).getD i 0).testBit j = true → j < i ∧ S j := by
 intro i
 induction i using Nat.strongRecOn with
 | _ i ih =>
  intro hi j ht
  obtain ⟨o, ho, e, he, h⟩ := zqe hb ht
  have hlt := hb i o ho e he
  rcases h with rfl | h
  · exact ⟨hlt, hi o ho e he⟩
  · obtain ⟨h1, h2⟩ := ih e.on hlt (fun o' ho' => hS _ _ (hi o ho e he) ho') j h
    exact ⟨Nat.lt_trans h1 hlt, h2⟩


def ENV (T : List Rec) (envE : Env) (i : Nat) : Env := match T[i]? with | some x => x.env | none => envE
def HP (T : List Rec) (hE : zaa) (i : Nat) : zaa := match T[i]? with | some x => x.h | none => hE

structure TOk (P : Program) (CALL : CallT) (ops : List Oper) (env0 : Env) (h0 : zaa) (T : List Rec) (envE : Env) (hE : zaa) : Prop where
 env0 : ENV T envE 0 = env0
 h0 : HP T hE 0 = h0
 all : ∀ (i : Nat) x, T[i]? = some x → ∃ o, ops[i]? = some o ∧ Gd ops o x.env x.ran ∧ (x.ran = true → zjP P CALL x.h x.env o x.v x.h') ∧ (x.ran = false → x.v = .tup [] ∧ x.h' = x.h) ∧
  ENV T envE (i + 1) = zfW x.env o.dst x.v ∧ HP T hE (i + 1) = x.h'

theorem TOk.snoc {CALL : CallT} {ops : List Oper} {env0 : Env} {h0 : zaa} {T : List Rec} {envE : Env} {hE : zaa} (t : TOk P CALL ops env0 h0 T envE hE) {o : Oper} (ho : ops[T.length]? = some o)
 {b : Bool} (hg : Gd ops o envE b) {v : AV} {h' : zaa} (hgo : b = true → zjP P CALL hE envE o v h') (hsk : b = false → v = .tup [] ∧ h' = hE) :
 TOk P CALL ops env0 h0 (T ++ [⟨b, v, envE, hE, h'⟩]) (zfW envE o.dst v) h' := by
 have e1 : ∀ i, i ≤ T.length → ENV (T ++ [⟨b, v, envE, hE, h'⟩]) (zfW envE o.dst v) i = ENV T envE i := fun i hi => by
  unfold ENV
  rcases Nat.lt_or_ge i T.length with h | h
  · rw [List.getElem?_append_left h]
    cases hx : T[i]? with
    | none => simp at hx; omega
    | some x => rfl
  · have : i = T.length := by omega
    subst this
    simp
 have e2 : ∀ i, i ≤ T.length → HP (T ++ [⟨b, v, envE, hE, h'⟩]) h' i = HP T hE i := fun i hi => by
  unfold HP
  rcases Nat.lt_or_ge i T.length with h | h
  · rw [List.getElem?_append_left h]
    cases hx : T[i]? with
    | none => simp at hx; omega
    | some x => rfl
  · have : i = T.length := by omega
    subst this
    simp
 refine ⟨by rw [e1 0 (by omega)]; exact t.env0, by rw [e2 0 (by omega)]; exact t.h0, fun i x hx => ?_⟩
 rcases Nat.lt_or_ge i T.length with hi | hi
 · rw [List.getElem?_append_left hi] at hx
   obtain ⟨o', h1, h2, h3, h4, h5, h6⟩ := t.all i x hx
   exact ⟨o', h1, h2, h3, h4, by rw [e1 (i + 1) hi]; exact h5, by rw [e2 (i + 1) hi]; exact h6⟩
 · have hlt := (List.getElem?_eq_some_iff.1 hx).1
   simp at hlt
   have : i = T.length := by omega
   subst this
   simp at hx; subst hx
   exact ⟨o, ho, hg, hgo, hsk, by simp [ENV], by simp [HP]⟩

theorem zgP {CALL : CallT} {ops : List Oper} {env0 : Env} {h0 : zaa} {RT : Type} {K : List Rec → Env → zaa → Option RT} {r : RT} :
 ∀ (m k : Nat) {env : Env} {h : zaa} {T : List Rec}, zep P CALL ops (List.range' k m) env h T K = some r → T.length = k → TOk P CALL ops env0 h0 T env h →
  ∃ T' env' h', K T' env' h' = some r ∧ T'.length = k + m ∧ TOk P CALL ops env0 h0 T' env' h'
 | 0, k, env, h, T, ha, hl, t => ⟨T, env, h, by simpa [zep] using ha, hl, t⟩
 | m + 1, k, env, h, T, ha, hl, t => by
  rw [List.range'_succ] at ha
  unfold zep at ha
  split at ha
  · simp at ha
  · rename_i o ho
    obtain ⟨b, hg, hb⟩ := zgb ha
    subst hl
    cases b with
    | true =>
     simp only [if_true] at hb
     obtain ⟨v, h', hk, hgo⟩ := zeI hb
     obtain ⟨T', env', h'', h1, h2, h3⟩ := zgP m (T.length + 1) hk (by simp) (t.snoc ho hg (fun _ => hgo) (by simp))
     exact ⟨T', env', h'', h1, by omega, h3⟩
    | false =>
     simp only [Bool.false_eq_true, if_false] at hb
     obtain ⟨T', env', h'', h1, h2, h3⟩ := zgP m (T.length + 1) hb (by simp) (t.snoc ho hg (by simp) (fun _ => ⟨rfl, rfl⟩))
     exact ⟨T', env', h'', h1, by omega, h3⟩

theorem zgD {ops : List Oper} {T : List Rec} {RT : Type} {K : Option RT} {r : RT} : ∀ {l : List (Nat × Nat)}, zeM P ops T l K = some r →
 K = some r ∧ ∀ i c, (i, c) ∈ l → ∀ x y o, T[i]? = some x → T[c]? = some y → ops[i]? = some o → x.ran = true → y.ran = true → zeT P o x.env (if c < i then y.h else y.h') = some x.v
 | [], h => ⟨h, by simp⟩
 | (i, c) :: l, h => by
  unfold zeM at h
  split at h
  · rename_i x y o hx hy ho
    split at h
    · rename_i hr
      rw [zjK] at h
      obtain ⟨h1, h2⟩ := zpw h
      obtain ⟨h3, h4⟩ := zgD h2
      refine ⟨h3, fun i' c' hm x' y' o' hx' hy' ho' r1 r2 => ?_⟩
      rcases List.mem_cons.1 hm with hm | hm
      · cases hm
        rw [hx] at hx'; rw [hy] at hy'; rw [ho] at ho'
        cases hx'; cases hy'; cases ho'
        exact h1
      · exact h4 i' c' hm x' y' o' hx' hy' ho' r1 r2
    · rename_i hr
      obtain ⟨h3, h4⟩ := zgD h
      refine ⟨h3, fun i' c' hm x' y' o' hx' hy' ho' r1 r2 => ?_⟩
      rcases List.mem_cons.1 hm with hm | hm
      · cases hm
        rw [hx] at hx'; rw [hy] at hy'
        cases hx'; cases hy'
        simp [r1, r2] at hr
      · exact h4 i' c' hm x' y' o' hx' hy' ho' r1 r2
  · simp at h


theorem zmY (ops : List Oper) : (zbJ ops).length = ops.length := by
 obtain ⟨new, h1, h2, _⟩ := zhF ops []
 show (ops.foldl (fun acc o => acc ++ [ziO acc o]) []).length = _
 rw [h1]; simpa using h2

structure DOk (P : Program) (ops : List Oper) (n : Nat) : Prop where
 back0 : ∀ md : Region.Mode, ∃ rk : Nat → Nat, ∀ (j : Nat) o, ops[j]? = some o → ∀ e ∈ o.after.toList, Region.binds md e = true → e.on < ops.length ∧ rk e.on < rk j
 back : ∀ (j : Nat) o, ops[j]? = some o → ∀ e ∈ zds o, e.on < j ∧ ∀ m, Region.binds m e = true
 once : ∀ (i j : Nat) o o' d, ops[j]? = some o → ops[i]? = some o' → i ≠ j → o.dst = some d → o'.dst ≠ some d
 names : ∀ (i j : Nat) o o' d, ops[j]? = some o → ops[i]? = some o' → i ≠ j → o.dst = some d → zcs (zbJ ops) i j = true ∨ d ∉ zc7 ops o'
 row : ∀ (i j : Nat) o o', ops[j]? = some o → ops[i]? = some o' → i < j → zct P o.op = true → zct P o'.op = true → zcs (zbJ ops) i j = true ∨
  (zyK o.op = true ∧ ∀ k, ((zbJ ops).getD k 0).testBit j = true → ((zbJ ops).getD k 0).testBit i = true)
 lt : ∀ (j : Nat) o d, ops[j]? = some o → o.dst = some d → d < n

theorem zeO {ops : List Oper} {j : Nat} {o : Oper} (h : ops[j]? = some o) : (o, j) ∈ ops.zipIdx := by
 rw [List.mem_zipIdx_iff_getElem?]; exact h

theorem znu {ops : List Oper} {n : Nat} (h : zj7 P ops n = true) : DOk P ops n := by
 unfold zj7 zr8 at h
 simp only [Bool.and_eq_true, Bool.or_eq_true] at h
 obtain ⟨⟨h1, h2⟩, h3⟩ := h
 have key : ∀ (i j : Nat) o o', ops[j]? = some o → ops[i]? = some o' → i ≠ j →
  (match o.dst with | some d => decide (o'.dst ≠ some d) && (zcs (zbJ ops) i j || !(zc7 ops o').contains d) | none => true) = true ∧ (zcs (zbJ ops) i j || !(zct P o.op && zct P o'.op) || zsT (zbJ ops) ops i j) = true := by
  intro i j o o' ho ho' hij
  have h4 := List.all_eq_true.1 (List.all_eq_true.1 h2 (o, j) (zeO ho)) (o', i) (zeO ho')
  simp only [Bool.or_eq_true, Bool.and_eq_true, beq_iff_eq] at h4
  rcases h4 with h4 | h4
  · exact absurd h4 hij
  · exact ⟨h4.1, by simpa using h4.2⟩
 have hlt : ∀ {j : Nat} {o : Oper}, ops[j]? = some o → j < ops.length := fun h => (List.getElem?_eq_some_iff.1 h).1
 have hb1 : ∀ (j : Nat) o, ops[j]? = some o → ∀ e ∈ o.after.toList, (∀ r, e.ground ≠ .gcOnly r) → e.on < j := fun j o ho e he hg => by
  rcases h1 with h1 | ⟨h1, _⟩
  · have h4 := List.all_eq_true.1 (List.all_eq_true.1 h1 (o, j) (zeO ho)) e he
    simp only [Bool.and_eq_true, decide_eq_true_eq] at h4
    exact h4.1
  · have h4 := List.all_eq_true.1 (List.all_eq_true.1 h1 (o, j) (zeO ho)) e he
    simp only [Bool.and_eq_true, decide_eq_true_eq] at h4
    have h5 := h4.2
    first
     | (split at h5
        · rename_i r hr; exact absurd hr (hg r)
        · simpa using h5)
     | simpa using h5
 have hb0 : ∀ md : Region.Mode, ∃ rk : Nat → Nat, ∀ (j : Nat) o, ops[j]? = some o → ∀ e ∈ o.after.toList, Region.binds md e = true → e.on < ops.length ∧ rk e.on < rk j := by
  intro md
  by_cases hmd : md = .gc
  · subst hmd
    rcases h1 with h1 | ⟨h1, h1'⟩
    · refine ⟨id, fun j o ho e he _ => ?_⟩
      have h4 := List.all_eq_true.1 (List.all_eq_true.1 h1 (o, j) (zeO ho)) e he
      simp only [Bool.and_eq_true, decide_eq_true_eq] at h4
      have := hlt ho
      exact ⟨by omega, h4.1⟩
    · refine ⟨fun k => (Region.linearise .gc ops.toArray 0).idxOf k, fun j o ho e he hb => ?_⟩
      have h4 := List.all_eq_true.1 (List.all_eq_true.1 h1 (o, j) (zeO ho)) e he
      have h5 := List.all_eq_true.1 (List.all_eq_true.1 h1' (o, j) (zeO ho)) e he
      simp only [Bool.and_eq_true, decide_eq_true_eq] at h4
      refine ⟨h4.1, ?_⟩
      split at h5
      · rename_i r hr
        unfold Region.binds at hb
        rw [hr] at hb
        simp at hb
      · simpa using h5
  · refine ⟨id, fun j o ho e he hb => ?_⟩
    have h5 := hb1 j o ho e he fun r hr => by
     unfold Region.binds at hb
     rw [hr] at hb
     cases md <;> simp at hb hmd
    have := hlt ho
    exact ⟨by omega, h5⟩
 refine ⟨hb0, fun j o ho e he => ?_, fun i j o o' d ho ho' hij hd => ?_, fun i j o o' d ho ho' hij hd => ?_, fun i j o o' ho ho' hij hh hh' => ?_, fun j o d ho hd => ?_⟩
 · unfold zds at he
   rw [List.mem_filter] at he
   have h5 := he.2
   refine ⟨hb1 j o ho e he.1 fun r hr => by rw [hr] at h5; simp at h5, fun m => ?_⟩
   unfold Region.binds
   split at h5
   · simp at h5
   · simp at h5
   · rename_i hn1 hn2
     split
     · rename_i r hr; exact absurd hr (hn1 r)
     · rename_i r hr; exact absurd hr (hn2 r)
     · rfl
 · have h4 := (key i j o o' ho ho' hij).1
   rw [hd] at h4
   simp only [Bool.and_eq_true, decide_eq_true_eq] at h4
   exact h4.1
 · have h4 := (key i j o o' ho ho' hij).1
   rw [hd] at h4
   simp only [Bool.and_eq_true, Bool.or_eq_true] at h4
   rcases h4.2 with h5 | h5
   · exact .inl h5
   · right; simpa using h5
 · have h4 := (key i j o o' ho ho' (by omega)).2
   simp only [hh, hh', Bool.and_self, Bool.not_true, Bool.or_false, Bool.or_eq_true] at h4
   rcases h4 with h4 | h4
   · exact .inl h4
   · right
     unfold zsT at h4
     have e1 : max i j = j := by omega
     have e2 : min i j = i := by omega
     rw [e1, e2, ho] at h4
     simp only [Bool.and_eq_true, List.all_eq_true, Bool.or_eq_true, Bool.not_eq_true', List.mem_range] at h4
     refine ⟨h4.1, fun k hk => ?_⟩
     by_cases hkl : k < ops.length
     · rcases h4.2 k hkl with h5 | h5
       · rw [hk] at h5; cases h5
       · exact h5
     · exfalso
       rw [List.getD_eq_getElem?_getD, List.getElem?_eq_none (by rw [zmY]; omega)] at hk
       simp at hk
 · have h4 := List.all_eq_true.1 h3 o (List.mem_of_getElem? ho)
   rw [hd] at h4
   simpa using h4


structure EnvIs (ops : List Oper) (T : List Rec) (env0 : Env) (S : Nat → Prop) (env : Env) : Prop where
 len : env.length = env0.length
 wrote : ∀ (j : Nat) o x t, S j → ops[j]? = some o → T[j]? = some x → o.dst = some t → env[t]? = some x.v
 else_ : ∀ t, (∀ (j : Nat) o, S j → ops[j]? = some o → o.dst ≠ some t) → env[t]? = env0[t]?

theorem EnvIs.put {ops : List Oper} {n : Nat} (D : DOk P ops n) {T : List Rec} {env0 : Env} (hn : env0.length = n) {S S' : Nat → Prop} {env : Env} (E : EnvIs ops T env0 S env) {i : Nat} {o : Oper} {x : Rec}
 (ho : ops[i]? = some o) (hx : T[i]? = some x) (hS : ∀ j, S' j ↔ S j ∨ j = i) : EnvIs ops T env0 S' (zfW env o.dst x.v) := by
 have hlen : (zfW env o.dst x.v).length = env.length := by cases o.dst <;> simp [zfW]
 refine ⟨by rw [hlen]; exact E.len, fun j o' y t hj ho' hy hd => ?_, fun t ht => ?_⟩
 · rcases (hS j).1 hj with h | rfl
   · by_cases hji : j = i
     · subst hji
       rw [ho] at ho'; cases ho'; rw [hx] at hy; cases hy
       rw [hd]; simp only [zfW]
       have := D.lt _ _ _ ho hd
       simp [E.len, hn, this]
     · have h1 := E.wrote j o' y t h ho' hy hd
       cases hod : o.dst with
       | none => simpa [zfW] using h1
       | some d =>
        have : d ≠ t := fun e => D.once i j o' o t ho' ho (Ne.symm hji) hd (by rw [hod, e])
        simp [zfW, this, h1]
   · rw [ho] at ho'; cases ho'; rw [hx] at hy; cases hy
     rw [hd]; simp only [zfW]
     have := D.lt _ _ _ ho hd
     simp [E.len, hn, this]
 · have h1 := E.else_ t fun j o' hj ho' => ht j o' ((hS j).2 (.inl hj)) ho'
   have h2 := ht i o ((hS i).2 (.inr rfl)) ho
   cases hod : o.dst with
   | none => simpa [zfW] using h1
   | some d =>
    have : d ≠ t := fun e => h2 (by rw [hod, e])
    simp [zfW, this, h1]

theorem EnvIs.agree {ops : List Oper} {T : List Rec} {env0 : Env} {S S' : Nat → Prop} {env env' : Env} (E : EnvIs ops T env0 S env) (E' : EnvIs ops T env0 S' env') (hT : T.length = ops.length) {t : Nat}
 (hS : ∀ (j : Nat) o, ops[j]? = some o → o.dst = some t → (S j ↔ S' j)) : env[t]? = env'[t]? := by
 by_cases hex : ∃ (j : Nat) (o : Oper), S j ∧ ops[j]? = some o ∧ o.dst = some t
 · obtain ⟨j, o, hj, ho, hd⟩ := hex
   have hlt : j < T.length := by rw [hT]; exact (List.getElem?_eq_some_iff.1 ho).1
   rw [E.wrote j o _ t hj ho (List.getElem?_eq_getElem hlt) hd, E'.wrote j o _ t ((hS j o ho hd).1 hj) ho (List.getElem?_eq_getElem hlt) hd]
 · rw [E.else_ t fun j o hj ho hd => hex ⟨j, o, hj, ho, hd⟩, E'.else_ t fun j o hj ho hd => hex ⟨j, o, (hS j o ho hd).2 hj, ho, hd⟩]

theorem EnvIs.text {CALL : CallT} {ops : List Oper} {n : Nat} (D : DOk P ops n) {env0 : Env} {h0 : zaa} {T : List Rec} {envE : Env} {hE : zaa} (hn : env0.length = n) (t : TOk P CALL ops env0 h0 T envE hE) (hT : T.length = ops.length) :
 ∀ i, i ≤ ops.length → EnvIs ops T env0 (· < i) (ENV T envE i)
 | 0, _ => by rw [t.env0]; exact ⟨rfl, fun j o x t hj => by omega, fun _ _ => rfl⟩
 | i + 1, hi => by
  have ih := EnvIs.text D hn t hT i (by omega)
  have hlt : i < T.length := by omega
  obtain ⟨o, ho, _, _, _, h5, _⟩ := t.all i _ (List.getElem?_eq_getElem hlt)
  rw [h5]
  have : ENV T envE i = T[i].env := by simp [ENV, hlt]
  rw [← this]
  exact ih.put D hn ho (List.getElem?_eq_getElem hlt) fun j => by omega

end Go.Abs

end

section
/- A region whose order is drawn, second part: in whatever order, what the text's order says. -/
set_option autoImplicit false
set_option linter.unusedVariables false
set_option linter.unusedSimpArgs false
namespace Go.Abs
variable {P : Program} {W0 : World} {σ : Sig} {h : zaa} {w : World}

theorem zpb {o : Oper} {env : Env} (hl : zct P o.op = false) {RT : Type} (K : AV → zaa → Option RT) (C C' : Fn → List AV → Option RT) : aop P h env o K C = aop P h env o K C' := by
 rw [zaN, zaN]
 unfold zdC
 cases ho : o.op <;> first | rfl | (simp [ho, zct] at hl; done) | skip
 case call c =>
  simp only
  cases hc : c.callee with
  | value f => obtain ⟨cal, args, ts⟩ := c; simp at hc; subst hc; simp [ho, zct] at hl
  | invoke r n => rfl
  | builtin b => rfl

theorem zsk {o : Oper} {env : Env} (hl : zwj o.op = true) {RT : Type} (K : AV → zaa → Option RT) (C C' : Fn → List AV → Option RT) : aop P h env o K C = aop P h env o K C' := by
 rw [zaN, zaN]
 unfold zdC
 cases ho : o.op <;> first | rfl | (simp [ho, zwj] at hl; done)

theorem zjm {CALL : CallT} {o : Oper} {env : Env} {v : AV} {h' : zaa} (hl : zct P o.op = false) (hg : zjP P CALL h env o v h') : zeT P o env h = some v ∧ h' = h := by
 have h1 : zgR P CALL o env h (fun v _ => some v) = some v := hg _
 have h2 : zgR P CALL o env h (fun _ h => some h) = some h' := hg _
 unfold zgR at h1 h2
 rw [zpb hl _ _ fun _ _ => none] at h1 h2
 refine ⟨h1, ?_⟩
 rw [zkN hl] at h2
 rcases zjw h2 with ⟨_, _, hk, _⟩ | ⟨_, _, hc, _⟩
 · simpa using hk.symm
 · simp at hc

theorem zn8 {CALL : CallT} {o : Oper} {env : Env} {v : AV} (hl : zct P o.op = false) (ha : zeT P o env h = some v) : zjP P CALL h env o v h :=
 fun K => zs3 hl ha _ _

theorem zji {CALL : CallT} {o : Oper} {env env' : Env} {v : AV} {h' : zaa} (hx : ∀ x ∈ o.op.operands, aev env x = aev env' x) (hg : zjP P CALL h env o v h') : zjP P CALL h env' o v h' :=
 fun K => by have := hg K; unfold zgR at this ⊢; rw [← zm2 hx]; exact this

theorem zpN {o : Oper} {env env' : Env} (hx : ∀ x ∈ o.op.operands, aev env x = aev env' x) : zeT P o env h = zeT P o env' h := zm2 hx _ _

section
variable {CALL : CallT} {ops : Array Oper} {env0 : Env} {h0 : zaa} {T : List Rec} {envE : Env} {hE : zaa}

def Hv (P : Program) (ops : Array Oper) (T : List Rec) (c : Nat) : Prop := ∃ o x, ops.toList[c]? = some o ∧ T[c]? = some x ∧ x.ran = true ∧ zct P o.op = true

theorem znj (t : TOk P CALL ops.toList env0 h0 T envE hE) {c : Nat} (hc : c < T.length) (hn : ¬ Hv P ops T c) : HP T hE (c + 1) = HP T hE c := by
 obtain ⟨o, ho, hg, hr, hs, h5, h6⟩ := t.all c _ (List.getElem?_eq_getElem hc)
 have e : HP T hE c = T[c].h := by simp [HP, hc]
 rw [h6, e]
 cases hran : T[c].ran with
 | false => exact (hs hran).2
 | true =>
  have hl : zct P o.op = false := by
   cases hh : zct P o.op with
   | false => rfl
   | true => exact absurd ⟨o, _, ho, List.getElem?_eq_getElem hc, hran, hh⟩ hn
  exact (zjm hl (hr hran)).2

theorem zhm {i c : Nat} {o o' : Oper} (ho : ops.toList[i]? = some o) (ho' : ops.toList[c]? = some o') (h1 : zct P o.op = false) (h2 : still P o.op = false) (h3 : zct P o'.op = true)
 (h4 : zcs (zbJ ops.toList) i c = false) (h5 : c < i ∨ zwj o'.op = false) : (i, c) ∈ zdW P ops.toList := by
 unfold zdW
 simp only [List.mem_flatMap]
 refine ⟨(o, i), zeO ho, ?_⟩
 simp only [h1, h2, Bool.or_self, Bool.false_eq_true, if_false, List.mem_filterMap]
 refine ⟨(o', c), zeO ho', ?_⟩
 have : (zct P o'.op && !zcs (zbJ ops.toList) i c && (decide (c < i) || !zwj o'.op)) = true := by
  simp only [h3, h4, Bool.not_false, Bool.and_true, Bool.true_and, Bool.or_eq_true, decide_eq_true_eq, Bool.not_eq_true']
  exact h5
 simp [this]

theorem zvw (t : TOk P CALL ops.toList env0 h0 T envE hE) (hT : T.length = ops.toList.length)
 (hlk : ∀ i c, (i, c) ∈ zdW P ops.toList → ∀ x y o, T[i]? = some x → T[c]? = some y → ops.toList[i]? = some o → x.ran = true → y.ran = true → zeT P o x.env (if c < i then y.h else y.h') = some x.v)
 {i q : Nat} {o : Oper} {x : Rec} (ho : ops.toList[i]? = some o) (hx : T[i]? = some x) (hr : x.ran = true) (hl : zct P o.op = false) (hq : q ≤ T.length)
 (hun : ∀ c, Hv P ops T c → (q ≤ c ∧ c < i) ∨ (i < c ∧ c < q) → zcs (zbJ ops.toList) i c = false) : zeT P o x.env (HP T hE q) = some x.v := by
 have hi : i < T.length := (List.getElem?_eq_some_iff.1 hx).1
 obtain ⟨o1, ho1, _, hrun, _, _, _⟩ := t.all i x hx
 rw [ho] at ho1; cases ho1
 have hown : zeT P o x.env (HP T hE i) = some x.v := by
  have e : HP T hE i = x.h := by simp [HP, hx]
  rw [e]; exact (zjm hl (hrun hr)).1
 cases hst : still P o.op with
 | true => rw [zqu (h := HP T hE q) hst (HP T hE i)]; exact hown
 | false =>
  rcases Nat.le_total q i with hqi | hqi
  · have down : ∀ d, q + d ≤ i → (∀ q', q' = q + d → q' = i → zeT P o x.env (HP T hE q') = some x.v) ∧ True := fun _ _ => ⟨fun q' _ e => by rw [e]; exact hown, trivial⟩
    have key : ∀ d q', q' + d = i → q ≤ q' → zeT P o x.env (HP T hE q') = some x.v := by
     intro d
     induction d with
     | zero => intro q' e _; have : q' = i := by omega
               rw [this]; exact hown
     | succ d ih =>
      intro q' e hle
      by_cases hv : Hv P ops T q'
      · obtain ⟨o', y, ho', hy, hry, hh⟩ := id hv
        have h1 := hlk i q' (zhm ho ho' hl hst hh (hun q' hv (.inl ⟨hle, by omega⟩)) (.inl (by omega))) x y o hx hy ho hr hry
        rw [if_pos (by omega)] at h1
        have e2 : HP T hE q' = y.h := by simp [HP, hy]
        rw [e2]; exact h1
      · rw [← znj t (by omega) hv]
        exact ih (q' + 1) (by omega) (by omega)
    exact key (i - q) q (by omega) (Nat.le_refl _)
  · have key : ∀ d, i + d ≤ q → zeT P o x.env (HP T hE (i + d)) = some x.v := by
      intro d
      induction d with
      | zero => intro _; exact hown
      | succ d ih =>
       intro hle
       have ih' := ih (by omega)
       rw [← Nat.add_assoc]
       by_cases hv : Hv P ops T (i + d)
       · obtain ⟨o', y, ho', hy, hry, hh⟩ := id hv
         have hne : i ≠ i + d := fun e => by
          rw [← e] at ho'; rw [ho] at ho'; cases ho'; rw [hl] at hh; simp at hh
         obtain ⟨o2, ho2, _, hrun2, _, _, h6⟩ := t.all (i + d) y hy
         rw [ho'] at ho2; cases ho2
         cases had : zwj o'.op with
         | true =>
          have hgo : zzF P y.h y.env o' y.v y.h' := by
           have h1 := hrun2 hry (R := AV × zaa) (fun v h => some (v, h))
           unfold zgR at h1
           rcases zjw h1 with ⟨v1, h1', hk, hg⟩ | ⟨fn, args, hc, hg⟩
           · simp only [Option.some.injEq, Prod.mk.injEq] at hk; obtain ⟨rfl, rfl⟩ := hk; exact @hg
           · exfalso
             have e1 := hg (R := Unit) (fun _ _ => none) (fun _ _ => some ())
             have e2 := hg (R := Unit) (fun _ _ => none) (fun _ _ => none)
             rw [zsk had _ _ fun _ _ => none, e2] at e1
             simp at e1
          obtain ⟨b, hb⟩ := zrG had hgo
          have e2 : HP T hE (i + d) = y.h := by simp [HP, hy]
          rw [h6, hb, ← e2]
          exact zpv (zus hl hst) ih' b
         | false =>
          have h1 := hlk i (i + d) (zhm ho ho' hl hst hh (hun _ hv (.inr ⟨by omega, by omega⟩)) (.inr had)) x y o hx hy ho hr hry
          rw [if_neg (by omega)] at h1
          rw [h6]; exact h1
       · rw [znj t (by omega) hv]; exact ih'
    have := key (q - i) (by omega)
    rwa [show i + (q - i) = q by omega] at this

end


theorem zl5 : ∀ (l : List Bool) (i : Nat), l[i]? = some false → (l.set i true).count false + 1 = l.count false
 | [], i, h => by simp at h
 | b :: l, 0, h => by simp at h; subst h; simp
 | b :: l, i + 1, h => by
  have := zl5 l i (by simpa using h)
  cases b <;> simp <;> omega

def Lst (listed : Array Bool) (j : Nat) : Prop := listed.getD j false = true

theorem zlF {ops : List Oper} {o : Oper} {env env' : Env} (hn : ∀ t ∈ zc7 ops o, env[t]? = env'[t]?) : ∀ x ∈ o.op.operands, aev env x = aev env' x := by
 intro x hx
 cases x with
 | tmp t =>
  have : t ∈ zc7 ops o := by
   unfold zc7
   refine List.mem_append_left _ (List.mem_filterMap.2 ⟨.tmp t, by simpa using hx, rfl⟩)
  simp only [aev, List.getD_eq_getElem?_getD, hn t this]
 | const v => rfl
 | global g => rfl
 | func f => rfl

theorem zm9 {ops : List Oper} {o : Oper} {env env' : Env} (hn : ∀ t ∈ zc7 ops o, env[t]? = env'[t]?) {b : Bool} (hg : Gd ops o env b) : Gd ops o env' b :=
 hg.congr fun d ⟨j, want, h1, h2⟩ => (hn d (by
  unfold zc7
  refine List.mem_append_right _ ?_
  rw [h1]; simp only [h2]; simp)).symm

end Go.Abs

end

section
/- A region whose order is drawn, third part: the machine's walk. -/
set_option autoImplicit false
set_option linter.unusedVariables false
set_option linter.unusedSimpArgs false
namespace Go.Abs
variable {P : Program} {W0 : World}

theorem zeo {listed : Array Bool} {i j : Nat} (hi : i < listed.size) : Lst (listed.setIfInBounds i true) j ↔ Lst listed j ∨ j = i := by
 unfold Lst
 simp only [Array.getD_eq_getD_getElem?]
 by_cases e : i = j
 · subst e; simp [hi]
 · simp [e, Ne.symm e]

theorem zlv {listed : Array Bool} {j : Nat} (hj : j < listed.size) (b : Bool) : listed.getD j b = listed.getD j false := by
 simp [Array.getD_eq_getD_getElem?, hj]

theorem zqA {md : Region.Mode} {ops : Array Oper} {listed : Array Bool} (D : ∃ rk : Nat → Nat, ∀ (j : Nat) o, ops.toList[j]? = some o → ∀ e ∈ o.after.toList, Region.binds md e = true → e.on < ops.toList.length ∧ rk e.on < rk j) (hs : listed.size = ops.size) (hr : Region.ready md ops listed = []) :
 ∀ j, j < ops.size → Lst listed j := by
 obtain ⟨rk, D⟩ := D
 have key : ∀ (r j : Nat), rk j = r → j < ops.size → Lst listed j := by
  intro r
  induction r using Nat.strongRecOn with
  | _ r ih =>
   intro j hrj hj
   by_cases hl : Lst listed j
   · exact hl
   · exfalso
     have : j ∈ Region.ready md ops listed := by
      rw [mem_ready]
      refine ⟨?_, ops[j], by simp [hj], fun e he hb => ?_⟩
      · rw [zlv (by omega)]
        unfold Lst at hl; simpa using hl
      · obtain ⟨h1, h2⟩ := D j ops[j] (by simp [hj]) e (by simpa using he) hb
        exact ih (rk e.on) (by omega) e.on rfl (by simpa using h1)
     rw [hr] at this
     cases this
 exact fun j => key _ j rfl


theorem zj1 {h : zaa} {σ : Sig} {t : TypeId} {n : Nat} {ps : List (Nat × AV)} {qs : Array (Nat × Value)} {v : AV} {h' : zaa} (hp : PartsR σ ps qs.toList) (hb : zcp P h t n ps = some (v, h')) (w : World) :
 ∃ (cs : List AV) (sz : Nat) (arr : Array Value) (e : TypeId), v = .sl (some (h.length, 0)) n 0 false ∧ h' = h ++ [.cells cs sz .own none] ∧ VRs σ cs arr.toList ∧
  (Instr.buildSlice t n qs).run P w = .ok (.slice (some ⟨w.heap.size, 0, none⟩) n n) (w.alloc (.cells arr e)) := by
 unfold zcp at hb
 split at hb
 · simp at hb
 · rename_i e he
   split at hb
   · rename_i sz z hsz hz
     split at hb
     · rename_i zc hzc
       split at hb
       · rename_i hc
         simp only [Option.map_eq_some_iff] at hb
         obtain ⟨cs, hcs, hb⟩ := hb
         simp at hb
         obtain ⟨rfl, rfl⟩ := hb
         obtain ⟨zv, hz1, hz2⟩ := zcI hz σ w
         have hzv := zcN hz2 hzc
         have hzs : zv.cells.size = sz := by rw [← Array.length_toList, ← hzv.length, hc.1]
         obtain ⟨rs, h1, h2⟩ := zhc hp.1 hp.2 (zhG hzv n) hcs
         refine ⟨cs, sz, rs.toArray, e, rfl, rfl, by simpa using h2, ?_⟩
         have hrep := zff zv.cells (by omega) n
         rw [hzs] at hrep
         have harr : ((Array.range (n * sz)).map fun i => zv.cells[i % sz]!) = (List.replicate n zv.cells.toList).flatten.toArray := by
          apply Array.ext'; rw [hrep]
         have hno : ¬ (n * sz > 2 ^ 24) := by omega
         simp only [Instr.buildSlice, Sem.run_bind, run_underlying (zcD he), Result.andThen_ok, zaL hsz, Sem.run_ite, hno, if_false]
         by_cases h0 : n * sz = 0
         · have hn : n = 0 := by
             rcases Nat.mul_eq_zero.1 h0 with h | h
             · exact h
             · omega
           subst hn
           have e0 : ∀ f : Nat → Value, Array.map f (Array.range 0) = #[] := fun f => by apply Array.ext'; simp
           simp only [Nat.zero_mul, List.replicate_zero, List.flatten_nil, if_true, Sem.run_pure, Result.andThen_ok, e0] at h1 ⊢
           simp [h1, newRow]
         · simp only [h0, if_false, Sem.run_bind, hz1, Result.andThen_ok, Sem.run_pure, hzs, harr, h1]
           simp [newRow]
       · simp at hb
     · simp at hb
   · simp at hb

theorem ztE {CALL : CallT} {o : Oper} {env : Env} {hx : zaa} {v : AV} {h' : zaa} (hl : zyK o.op = true) (hg : zjP P CALL hx env o v h') {σ : Sig} {a : Act} (hE : VRs σ env a.tmps.toList) (w : World) :
 ∃ (cs : List AV) (sz : Nat) (arr : Array Value) (t : TypeId) (mk : Addr → Value), h' = hx ++ [.cells cs sz .own none] ∧ VRs σ cs arr.toList ∧
  (∀ (σ' : Sig) (r : Nat), σ'[hx.length]? = some ⟨r, 0, 0⟩ → VR σ' v (mk ⟨r, 0, none⟩)) ∧
  (execOp a.eval o).run P w = .ok (.value (mk ⟨w.heap.size, 0, none⟩)) (w.alloc (.cells arr t)) := by
 have hx1 := hg (R := AV × zaa) (fun v h => some (v, h))
 unfold zgR at hx1
 rw [zaN] at hx1
 unfold zdC at hx1
 cases ho : o.op <;> simp [ho, zyK] at hl
 case alloc t =>
  simp only [ho] at hx1
  obtain ⟨⟨v1, h1⟩, hv, hk⟩ := Option.bind_eq_some_iff.1 hx1
  simp only [Option.some.injEq, Prod.mk.injEq] at hk
  obtain ⟨rfl, rfl⟩ := hk
  unfold ziS at hv
  split at hv
  · rename_i z hz
    obtain ⟨zv, h1, h2⟩ := zcI hz σ w
    unfold zul at hv
    split at hv
    · rename_i xs n hxs hsz
      simp at hv
      obtain ⟨rfl, rfl⟩ := hv
      refine ⟨xs, n, zv.cells, t, fun ad => .pointer (some ad), rfl, zcN h2 hxs, fun σ' r hr => ?_, ?_⟩
      · have := VR.ptr hx.length 0 ⟨r, 0, 0⟩ hr
        simpa using this
      · simp only [execOp, ho]
        simp [Instr.alloc, Instr.box, h1, newVar, newRow]
    · simp at hv
  · simp at hv
 case buildSlice t n ps =>
  simp only [ho] at hx1
  obtain ⟨⟨v1, h1⟩, hb, hk⟩ := Option.bind_eq_some_iff.1 hx1
  simp only [Option.some.injEq, Prod.mk.injEq] at hk
  obtain ⟨rfl, rfl⟩ := hk
  obtain ⟨cs, sz, arr, e, rfl, rfl, h2, h3⟩ := zj1 (ziY hE ps) hb w
  refine ⟨cs, sz, arr, e, fun ad => .slice (some ad) n n, rfl, h2, fun σ' r hr => ?_, ?_⟩
  · exact .sl _ _ _ _ _ _ ⟨r, 0, none⟩ n hr (Nat.le_refl _) (by simp [zai]) (.inl (by simp))
  · simp only [execOp, ho]
    simp only [Sem.run_bind, h3, Result.andThen_ok, Sem.run_pure]

theorem Rel.tell {h : zaa} {σ : Sig} {w : World} (R : Rel W0 σ h w) {r : Nat} {cs : List AV} {sz : Nat} {arr : Array Value} {t : TypeId} (hv : VRs σ cs arr.toList) (hr : w.heap[r]? = some (.cells arr t (0, 0)))
 (h0 : W0.heap.size ≤ r) (hn : ¬ Own h σ r) : Rel W0 (σ ++ [⟨r, 0, 0⟩]) (h ++ [.cells cs sz .own none]) w := by
 have key : ∀ {i : Nat} {b' : ABlk} {p : Plc}, (h ++ [ABlk.cells cs sz .own none])[i]? = some b' → (σ ++ [⟨r, 0, 0⟩])[i]? = some p →
  (h[i]? = some b' ∧ σ[i]? = some p) ∨ (i = h.length ∧ b' = .cells cs sz .own none ∧ p = ⟨r, 0, 0⟩) := by
  intro i b' p h1 h2
  rcases Nat.lt_or_ge i h.length with hi | hi
  · rw [List.getElem?_append_left hi] at h1
    rw [List.getElem?_append_left (by rw [R.len]; exact hi)] at h2
    exact .inl ⟨h1, h2⟩
  · have hi' := (List.getElem?_eq_some_iff.1 h1).1
    simp at hi'
    have e : i = h.length := by omega
    subst e
    rw [List.getElem?_append_right (by simp)] at h1
    rw [List.getElem?_append_right (by rw [R.len]; simp)] at h2
    simp [R.len] at h1 h2
    exact .inr ⟨rfl, h1.symm, h2.symm⟩
 refine ⟨by simp [R.len], ?_, ?_, ?_, ?_, R.below⟩
 · intro i b' p h1 h2
   rcases key h1 h2 with ⟨h1, h2⟩ | ⟨rfl, rfl, rfl⟩
   · exact (R.obj h1 h2).grow _
   · by_cases h0 : cs = []
     · exact .inl ⟨h0, fun _ => rfl⟩
     · have hl := hv.length
       exact .inr ⟨h0, arr, t, (0, 0), hr, by simpa [List.take_of_length_le, hl] using hv.grow _, fun _ => ⟨fun j _ _ => by simp, by simp [hl]⟩⟩
 · intro i vs e par p h1 h2
   rcases key h1 h2 with ⟨h1, h2⟩ | ⟨rfl, e2, rfl⟩
   · exact R.far h1 h2
   · simp at e2
 · intro i b' p h1 h2 hb
   rcases key h1 h2 with ⟨h1, h2⟩ | ⟨rfl, rfl, rfl⟩
   · exact R.own h1 h2 hb
   · exact h0
 · intro i j b1 b2 p q hij h1 h2 h3 h4 hb1 hb2 hpq
   rcases key h1 h3 with ⟨k1, k3⟩ | ⟨e1, e2, e3⟩
   · rcases key h2 h4 with ⟨k2, k4⟩ | ⟨f1, f2, f3⟩
     · exact R.sep hij k1 k2 k3 k4 hb1 hb2 hpq
     · exact absurd ⟨i, b1, p, k1, k3, hb1, by rw [hpq, f3]⟩ hn
   · rcases key h2 h4 with ⟨k2, k4⟩ | ⟨f1, f2, f3⟩
     · exact absurd ⟨j, b2, q, k2, k4, hb2, by rw [← hpq, e3]⟩ hn
     · omega

theorem Rel.hide {h : zaa} {σ : Sig} {w : World} (R : Rel W0 σ h w) (o : Obj) : Rel W0 σ h (w.alloc o) ∧ Stp σ h w σ h (w.alloc o) := by
 have hold : ∀ k, k < w.heap.size → (w.alloc o).heap[k]? = w.heap[k]? := fun k hk => RowKit.Below.heap_alloc w o k hk
 refine ⟨⟨R.len, fun h1 h2 => (R.obj h1 h2).keep fun hd => hold _ ((R.obj h1 h2).lt hd), R.far, R.own, R.sep, R.below.alloc R.below.size o⟩, ⟨⟨[], by simp⟩, fun _ h => .inl h, fun k hk _ => hold k hk, by simp⟩⟩

structure EnvP (ops : List Oper) (T : List Rec) (env0 : Env) (S D : Nat → Prop) (env : Env) : Prop where
 len : env.length = env0.length
 wrote : ∀ (j : Nat) o x t, S j → ¬ D j → ops[j]? = some o → T[j]? = some x → o.dst = some t → env[t]? = some x.v
 else_ : ∀ t, (∀ (j : Nat) o, S j → ops[j]? = some o → o.dst ≠ some t) → env[t]? = env0[t]?

theorem EnvP.put {ops : List Oper} {n : Nat} (D : DOk P ops n) {T : List Rec} {env0 : Env} (hn : env0.length = n) {S S' Dp Dp' : Nat → Prop} {env : Env} (E : EnvP ops T env0 S Dp env) {i : Nat} {o : Oper} {x : Rec}
 (ho : ops[i]? = some o) (hx : T[i]? = some x) (hS : ∀ j, S' j ↔ S j ∨ j = i) {u : AV} (hu : ¬ Dp' i → u = x.v) (hD : ∀ j, j ≠ i → S j → ¬ Dp' j → ¬ Dp j) : EnvP ops T env0 S' Dp' (zfW env o.dst u) := by
 have hlen : (zfW env o.dst u).length = env.length := by cases o.dst <;> simp [zfW]
 refine ⟨by rw [hlen]; exact E.len, fun j o' y t hj hdj ho' hy hd => ?_, fun t ht => ?_⟩
 · by_cases hji : j = i
   · subst hji
     rw [ho] at ho'; cases ho'; rw [hx] at hy; cases hy
     rw [hd, hu hdj]; simp only [zfW]
     have := D.lt _ _ _ ho hd
     simp [E.len, hn, this]
   · have hj' : S j := by rcases (hS j).1 hj with h | h; exact h; exact absurd h hji
     have h1 := E.wrote j o' y t hj' (hD j hji hj' hdj) ho' hy hd
     cases hod : o.dst with
     | none => simpa [zfW] using h1
     | some d =>
      have : d ≠ t := fun e => D.once i j o' o t ho' ho (Ne.symm hji) hd (by rw [hod, e])
      simp [zfW, this, h1]
 · have h1 := E.else_ t fun j o' hj ho' => ht j o' ((hS j).2 (.inl hj)) ho'
   have h2 := ht i o ((hS i).2 (.inr rfl)) ho
   cases hod : o.dst with
   | none => simpa [zfW] using h1
   | some d =>
    have : d ≠ t := fun e => h2 (by rw [hod, e])
    simp [zfW, this, h1]

theorem EnvP.agree {ops : List Oper} {T : List Rec} {env0 : Env} {S S' Dp : Nat → Prop} {env env' : Env} (E : EnvIs ops T env0 S env) (E' : EnvP ops T env0 S' Dp env') (hT : T.length = ops.length) {t : Nat}
 (hS : ∀ (j : Nat) o, ops[j]? = some o → o.dst = some t → (S j ↔ S' j) ∧ ¬ Dp j) : env[t]? = env'[t]? := by
 by_cases hex : ∃ (j : Nat) (o : Oper), S j ∧ ops[j]? = some o ∧ o.dst = some t
 · obtain ⟨j, o, hj, ho, hd⟩ := hex
   have hlt : j < T.length := by rw [hT]; exact (List.getElem?_eq_some_iff.1 ho).1
   rw [E.wrote j o _ t hj ho (List.getElem?_eq_getElem hlt) hd, E'.wrote j o _ t ((hS j o ho hd).1.1 hj) (hS j o ho hd).2 ho (List.getElem?_eq_getElem hlt) hd]
 · rw [E.else_ t fun j o hj ho hd => hex ⟨j, o, hj, ho, hd⟩, E'.else_ t fun j o hj ho hd => hex ⟨j, o, (hS j o ho hd).1.2 hj, ho, hd⟩]

def PendOk (ops : Array Oper) (T : List Rec) (w0 : World) (h : zaa) (σ : Sig) (a : Act) (w : World) (c r : Nat) : Prop :=
 ∃ (x : Rec) (o : Oper) (cs : List AV) (sz : Nat) (arr : Array Value) (t : TypeId) (mk : Addr → Value), T[c]? = some x ∧ ops.toList[c]? = some o ∧ x.h' = x.h ++ [.cells cs sz .own none] ∧ VRs σ cs arr.toList ∧
  (∀ (σ' : Sig) (r : Nat), σ'[x.h.length]? = some ⟨r, 0, 0⟩ → VR σ' x.v (mk ⟨r, 0, none⟩)) ∧ w.heap[r]? = some (.cells arr t (0, 0)) ∧ w0.heap.size ≤ r ∧ ¬ Own h σ r ∧
  ∀ d, o.dst = some d → a.tmps[d]? = some (mk ⟨r, 0, none⟩)

theorem zt1 {a : Act} {e : Option Tmp} {d : Nat} {v : Value} (h : e ≠ some d) : (a.put e v).tmps[d]? = a.tmps[d]? := by
 cases e with
 | none => rfl
 | some e =>
  have : e ≠ d := fun x => h (by rw [x])
  simp [Act.put, Array.getElem?_setIfInBounds, this]

theorem PendOk.step {ops : Array Oper} {n : Nat} (D : DOk P ops.toList n) {T : List Rec} {w0 : World} {h h' : zaa} {σ σ' : Sig} {a : Act} {w w' : World} {c r : Nat} (p : PendOk ops T w0 h σ a w c r) (s : Stp σ h w σ' h' w')
 {i : Nat} {o : Oper} (ho : ops.toList[i]? = some o) (hi : i ≠ c) (v : Value) : PendOk ops T w0 h' σ' (a.put o.dst v) w' c r := by
 obtain ⟨x, oc, cs, sz, arr, t, mk, h1, h2, h3, h4, h5, h6, h7, h8, h9⟩ := p
 have hr : r < w.heap.size := (Array.getElem?_eq_some_iff.1 h6).1
 refine ⟨x, oc, cs, sz, arr, t, mk, h1, h2, h3, s.vrs h4, h5, by rw [s.same r hr h8]; exact h6, h7, fun ho => ?_, fun d hd => ?_⟩
 · rcases s.own r ho with k | k
   · exact h8 k
   · omega
 · rw [zt1 fun e => D.once i c oc o d h2 ho hi hd e]
   exact h9 d hd

structure St (P : Program) (ops : Array Oper) (env0 : Env) (T : List Rec) (hE : zaa) (w0 : World) (listed : Array Bool) (env : Env) (h : zaa) (σ : Sig) (a : Act) (w : World) (q : Nat) : Prop where
 size : listed.size = ops.size
 closed : ∀ (j : Nat) o, Lst listed j → ops.toList[j]? = some o → ∀ e ∈ zds o, Lst listed e.on
 env : EnvP ops.toList T env0 (Lst listed) (fun c => Hv P ops T c ∧ Lst listed c ∧ q ≤ c) env
 heap : h = HP T hE q
 le : q ≤ ops.size
 row : ∀ c, Hv P ops T c → c < q → Lst listed c
 pend : ∃ rr : Nat → Nat, (∀ c, Hv P ops T c → Lst listed c → q ≤ c → PendOk ops T w0 h σ a w c (rr c)) ∧
  ∀ c c', Hv P ops T c → Lst listed c → q ≤ c → Hv P ops T c' → Lst listed c' → q ≤ c' → c ≠ c' → rr c ≠ rr c'

theorem zw0 {σ : Sig} {env : Env} {l : List Value} (h : VRs σ env l) {d : Option Tmp} {v : AV} {v' : Value} (hv : VR σ v v') (hl : ∀ k, d = some k → l[k]? = some v') : VRs σ (zfW env d v) l := by
 cases d with
 | none => exact h
 | some k =>
  have h1 := h.set k hv
  have h2 := hl k rfl
  have e : l.set k v' = l := by
   apply List.ext_getElem?
   intro j
   rw [List.getElem?_set]
   split
   · rename_i hj
     subst hj
     rw [h2]
     have := (List.getElem?_eq_some_iff.1 h2).1
     simp [this]
   · rfl
  rw [e] at h1
  exact h1

theorem zlw {CALL : CallT} {ops : Array Oper} {env0 : Env} {h0 : zaa} {T : List Rec} {envE : Env} {hE : zaa} (D : DOk P ops.toList env0.length) (t : TOk P CALL ops.toList env0 h0 T envE hE) (hT : T.length = ops.size)
 {B : Nat} {σ0 : Sig} {hh0 : zaa} {w0 : World} {listed : Array Bool} {a : Act} {w : World} (hw0 : W0.heap.size ≤ w0.heap.size) :
 ∀ (m : Nat) {env : Env} {h : zaa} {σ : Sig} {q : Nat}, ops.size - q ≤ m → At W0 B σ h env a w → Stp σ0 hh0 w0 σ h w → St P ops env0 T hE w0 listed env h σ a w q →
  ∃ env' h' σ' q', At W0 B σ' h' env' a w ∧ Stp σ0 hh0 w0 σ' h' w ∧ St P ops env0 T hE w0 listed env' h' σ' a w q' ∧ (q' < ops.size → Hv P ops T q' ∧ ¬ Lst listed q')
 | m, env, h, σ, q, hm, A, s, S => by
  by_cases hq : q < ops.size
  case neg => exact ⟨env, h, σ, q, A, s, S, fun h => absurd h hq⟩
  obtain ⟨m, rfl⟩ : ∃ k, m = k + 1 := ⟨m - 1, by omega⟩
  by_cases hv : Hv P ops T q
  · by_cases hl : Lst listed q
    · obtain ⟨rr, h1, h2⟩ := S.pend
      obtain ⟨x, o, cs, sz, arr, ty, mk, k1, k2, k3, k4, k5, k6, k7, k8, k9⟩ := h1 q hv hl (Nat.le_refl _)
      have exh : h = x.h := by rw [S.heap]; simp [HP, k1]
      obtain ⟨_, _, _, _, _, _, h6⟩ := t.all q x k1
      have R' := A.rel.tell (sz := sz) k4 k6 (Nat.le_trans hw0 k7) k8
      have hnew : (σ ++ [(⟨rr q, 0, 0⟩ : Plc)])[x.h.length]? = some ⟨rr q, 0, 0⟩ := by rw [← exh, ← A.rel.len]; simp
      have hown : ∀ b, Own (h ++ [ABlk.cells cs sz .own none]) (σ ++ [(⟨rr q, 0, 0⟩ : Plc)]) b → Own h σ b ∨ b = rr q := by
       rintro b ⟨i, blk, p, e1, e2, e3, e4⟩
       rcases Nat.lt_or_ge i h.length with hi | hi
       · rw [List.getElem?_append_left hi] at e1
         rw [List.getElem?_append_left (by rw [A.rel.len]; exact hi)] at e2
         exact .inl ⟨i, blk, p, e1, e2, e3, e4⟩
       · have hi' := (List.getElem?_eq_some_iff.1 e1).1
         simp at hi'
         have e : i = h.length := by omega
         subst e
         rw [List.getElem?_append_right (by rw [A.rel.len]; simp)] at e2
         simp [A.rel.len] at e2
         subst e2
         exact .inr e4.symm
      refine zlw D t hT hw0 m (env := zfW env o.dst x.v) (h := h ++ [.cells cs sz .own none]) (σ := σ ++ [⟨rr q, 0, 0⟩]) (q := q + 1) (by omega) ⟨R', ?_, A.marks⟩ ?_ ?_
      · exact zw0 (A.env.grow _) (k5 _ _ hnew) fun k hk => by rw [Array.getElem?_toList]; exact k9 k hk
      · obtain ⟨τ, hτ⟩ := s.ext
        refine ⟨⟨τ ++ [⟨rr q, 0, 0⟩], by rw [hτ]; simp⟩, fun b hb => ?_, s.same, s.size⟩
        rcases hown b hb with k | rfl
        · exact s.own b k
        · exact .inr k7
      · refine ⟨S.size, S.closed, ?_, ?_, hq, fun c hc hlt => ?_, rr, fun c hc hlc hle => ?_, fun c c' a1 a2 a3 a4 a5 a6 => h2 c c' a1 a2 (by omega) a4 a5 (by omega)⟩
        · refine S.env.put D rfl k2 k1 (fun j => ⟨.inl, fun k => ?_⟩) (fun _ => rfl) fun j hj hS hn hd => ?_
          · rcases k with k | rfl
            · exact k
            · exact hl
          · exact hn ⟨hd.1, hd.2.1, by have := hd.2.2; omega⟩
        · rw [h6, k3, exh]
        · by_cases hcq : c = q
          · subst hcq; exact hl
          · exact S.row c hc (by omega)
        · obtain ⟨x', o', cs', sz', arr', ty', mk', p1, p2, p3, p4, p5, p6, p7, p8, p9⟩ := h1 c hc hlc (by omega)
          refine ⟨x', o', cs', sz', arr', ty', mk', p1, p2, p3, p4.grow _, p5, p6, p7, fun ho => ?_, p9⟩
          rcases hown _ ho with k | k
          · exact p8 k
          · exact h2 c q hc hlc (by omega) hv hl (Nat.le_refl _) (by omega) k
    · exact ⟨env, h, σ, q, A, s, S, fun _ => ⟨hv, hl⟩⟩
  · have e := znj t (c := q) (by omega) hv
    obtain ⟨rr, h1, h2⟩ := S.pend
    refine zlw D t hT hw0 m (q := q + 1) (by omega) A s ⟨S.size, S.closed, ?_, by rw [e]; exact S.heap, hq, fun c hc hlt => ?_, rr, fun c hc hlc hle => h1 c hc hlc (by omega), fun c c' a1 a2 a3 a4 a5 a6 => h2 c c' a1 a2 (by omega) a4 a5 (by omega)⟩
    · refine ⟨S.env.len, fun j o x t hj hd => S.env.wrote j o x t hj fun hd' => hd ⟨hd'.1, hd'.2.1, ?_⟩, S.env.else_⟩
      have : j ≠ q := fun e => hv (e ▸ hd'.1)
      have := hd'.2.2
      omega
    · have : c ≠ q := fun e => hv (e ▸ hc)
      exact S.row c hc (by omega)


theorem zym {CALL : CallT} (SC : zcg P CALL) {ops : Array Oper} {env0 : Env} {h0 : zaa} {T : List Rec} {envE : Env} {hE : zaa} (D : DOk P ops.toList env0.length) (t : TOk P CALL ops.toList env0 h0 T envE hE)
 (hT : T.length = ops.size)
 (hlk : ∀ i c, (i, c) ∈ zdW P ops.toList → ∀ x y o, T[i]? = some x → T[c]? = some y → ops.toList[i]? = some o → x.ran = true → y.ran = true → zeT P o x.env (if c < i then y.h else y.h') = some x.v)
 {ro : Option Nat} {n B : Nat} {Q : Exit → Act → World → Prop} (md : Region.Mode) {σ0 : Sig} {hh0 : zaa} {w0 : World} (hw0 : W0.heap.size ≤ w0.heap.size)
 (hQ : ∀ σ' a' w', Stp σ0 hh0 w0 σ' hE w' → At W0 B σ' hE envE a' w' → Q .normal a' w') :
 ∀ (fuel : Nat) {listed : Array Bool} {a : Act} {w : World} {env : Env} {h : zaa} {σ : Sig} {q : Nat}, listed.toList.count false ≤ fuel → At W0 B σ h env a w → Stp σ0 hh0 w0 σ h w → St P ops env0 T hE w0 listed env h σ a w q →
  (q < ops.size → Hv P ops T q ∧ ¬ Lst listed q) → wpAnyIn (FW ro) n P md ops Q fuel listed a w := by
 have hTl : T.length = ops.toList.length := by rw [hT]; simp
 have hback := fun (j : Nat) o (ho : ops.toList[j]? = some o) e he => (D.back j o ho e he).1
 -- all are done
 have fin : ∀ {listed : Array Bool} {a : Act} {w : World} {env : Env} {h : zaa} {σ : Sig} {q : Nat}, At W0 B σ h env a w → Stp σ0 hh0 w0 σ h w → St P ops env0 T hE w0 listed env h σ a w q →
  (q < ops.size → Hv P ops T q ∧ ¬ Lst listed q) → (∀ j, j < ops.size → Lst listed j) → Q .normal a w := by
  intro listed a w env h σ q A s S top hall
  have hq : q = ops.size := by
   have := S.le
   by_cases hlt : q < ops.size
   · exact absurd (hall q hlt) (top hlt).2
   · omega
  subst hq
  have hh : h = hE := by rw [S.heap]; simp [HP, hT]
  have he : env = envE := by
   have E2 := EnvIs.text D rfl t hTl ops.size (by simp)
   have e3 : ENV T envE ops.size = envE := by simp [ENV, hT]
   rw [e3] at E2
   apply List.ext_getElem?
   intro s
   exact (EnvP.agree E2 S.env hTl fun j o ho hd => by
    have : j < ops.size := by simpa using (List.getElem?_eq_some_iff.1 ho).1
    exact ⟨⟨fun _ => hall j this, fun _ => this⟩, fun hd => by have := hd.2.2; omega⟩).symm
  subst hh; subst he
  exact hQ σ a w s A
 intro fuel
 induction fuel with
 | zero =>
  intro listed a w env h σ q hc A s S top
  have hall : ∀ j, j < ops.size → Lst listed j := by
   intro j hj
   have h0 : listed.toList.count false = 0 := by omega
   rw [List.count_eq_zero] at h0
   unfold Lst
   have hjl : j < listed.size := by rw [S.size]; exact hj
   cases hb : listed[j] with
   | true => simp [Array.getD_eq_getD_getElem?, hjl, hb]
   | false => exact absurd (by rw [← hb]; simp) h0
  refine ⟨?_, fin A s S top hall⟩
  cases hr : Region.ready md ops listed with
  | nil => rfl
  | cons i l =>
   exfalso
   have hi : i ∈ Region.ready md ops listed := by rw [hr]; simp
   obtain ⟨h1, o, ho, _⟩ := mem_ready.1 hi
   have hlt := (Array.getElem?_eq_some_iff.1 ho).1
   have := hall i hlt
   rw [zlv (by rw [S.size]; exact hlt)] at h1
   unfold Lst at this
   rw [h1] at this; cases this
 | succ fuel ih =>
  intro listed a w env h σ q hc A s S top
  refine ⟨fun hr => fin A s S top (zqA (D.back0 md) S.size hr), fun i hi => ?_⟩
  obtain ⟨h1, o, ho, hdep⟩ := mem_ready.1 hi
  have hlt := (Array.getElem?_eq_some_iff.1 ho).1
  have hltl : i < listed.size := by rw [S.size]; exact hlt
  have hni : ¬ Lst listed i := by
   rw [zlv hltl] at h1
   unfold Lst; rw [h1]; simp
  have ho' : ops.toList[i]? = some o := by rw [Array.getElem?_toList]; exact ho
  have hx : T[i]? = some (T[i]'(by omega)) := List.getElem?_eq_getElem _
  generalize T[i]'(by omega) = x at hx
  have hdeps : ∀ e ∈ zds o, Lst listed e.on := fun e he => hdep e (by unfold zds at he; rw [List.mem_filter] at he; simpa using he.1) ((D.back i o ho' e he).2 md)
  have hclosed' : ∀ (j : Nat) o, Lst (listed.setIfInBounds i true) j → ops.toList[j]? = some o → ∀ e ∈ zds o, Lst (listed.setIfInBounds i true) e.on := by
   intro j oj hj hoj e he
   rw [zeo hltl] at hj ⊢
   rcases hj with hj | rfl
   · exact .inl (S.closed j oj hj hoj e he)
   · rw [ho'] at hoj; cases hoj; exact .inl (hdeps e he)
  -- who stands ahead of it is done
  have hah : ∀ c, ((zbJ ops.toList).getD i 0).testBit c = true → c < i ∧ Lst listed c := fun c hor =>
   zhl hback (S := Lst listed) S.closed i (fun o2 ho2 e he => by rw [ho'] at ho2; cases ho2; exact hdeps e he) c hor
  have hah2 : ∀ k c, Lst listed k → ((zbJ ops.toList).getD k 0).testBit c = true → Lst listed c := fun k c hk hor =>
   (zhl hback (S := Lst listed) S.closed k (fun o2 ho2 e he => S.closed k o2 hk ho2 e he) c hor).2
  -- who stands in order with it
  have hord : ∀ c, c < ops.size → c ≠ i → zcs (zbJ ops.toList) i c = true → (Lst listed c ↔ c < i) := by
   intro c hc hci hor
   unfold zcs at hor
   rw [Bool.or_eq_true] at hor
   rcases hor with hor | hor
   · obtain ⟨h2, h3⟩ := hah c hor
     exact ⟨fun _ => h2, fun _ => h3⟩
   · constructor
     · intro hl
       exact absurd (hah2 c i hl hor) hni
     · intro hlt2
       exfalso
       have := (zhl hback (S := fun _ => True) (fun _ _ _ _ _ _ => trivial) c (fun _ _ _ _ => trivial) i hor).1
       omega
  -- what was made ahead of its turn does not stand ahead of it
  have hpend : ∀ c, Hv P ops T c → Lst listed c → q ≤ c → zcs (zbJ ops.toList) i c = true → False := by
   intro c hv hl hqc hor
   have hcl : c < ops.size := by obtain ⟨oc, _, hoc, _⟩ := hv; simpa using (List.getElem?_eq_some_iff.1 hoc).1
   obtain ⟨hvq, hnq⟩ := top (by omega)
   have hne : q ≠ c := fun e => hnq (e ▸ hl)
   have hci : c ≠ i := fun e => hni (e ▸ hl)
   have hac : ((zbJ ops.toList).getD i 0).testBit c = true := by
    unfold zcs at hor
    rw [Bool.or_eq_true] at hor
    rcases hor with hor | hor
    · exact hor
    · exact absurd (hah2 c i hl hor) hni
   obtain ⟨oq, xq, hoq, hxq, hrq, hhq⟩ := hvq
   obtain ⟨oc, xc, hoc, hxc, hrc, hhc⟩ := hv
   rcases D.row q c oc oq hoc hoq (by omega) hhc hhq with h2 | ⟨_, h2⟩
   · unfold zcs at h2
     rw [Bool.or_eq_true] at h2
     rcases h2 with h2 | h2
     · have := (zhl hback (S := fun _ => True) (fun _ _ _ _ _ _ => trivial) q (fun _ _ _ _ => trivial) c h2).1
       omega
     · exact hnq (hah2 c q hl h2)
   · exact hnq (hah q (h2 i hac)).2
  obtain ⟨o2, ho2, hgd, hrun, hskip, _, h6⟩ := t.all i x hx
  rw [ho'] at ho2; cases ho2
  have exe : ENV T envE i = x.env := by simp [ENV, hx]
  have exh : HP T hE i = x.h := by simp [HP, hx]
  have Et := EnvIs.text D rfl t hTl i (by simp; omega)
  rw [exe] at Et
  have hagree : ∀ s ∈ zc7 ops.toList o, x.env[s]? = env[s]? := by
   intro s hs
   refine EnvP.agree Et S.env hTl fun j oj hoj hd => ?_
   have hjl : j < ops.size := by simpa using (List.getElem?_eq_some_iff.1 hoj).1
   by_cases hji : j = i
   · subst hji
     exact ⟨⟨fun h => by omega, fun h => absurd h hni⟩, fun hd2 => hni hd2.2.1⟩
   · rcases D.names i j oj o s hoj ho' (Ne.symm hji) hd with h2 | h2
     · exact ⟨(hord j hjl hji h2).symm, fun hd2 => hpend j hd2.1 hd2.2.1 hd2.2.2 h2⟩
     · exact absurd hs h2
  have hgd' : Gd ops.toList o env x.ran := zm9 hagree hgd
  have hopr := zlF hagree
  -- going on
  have hcnt : (listed.setIfInBounds i true).toList.count false ≤ fuel := by
   rw [Array.toList_setIfInBounds]
   have := zl5 listed.toList i (by
    rw [Array.getElem?_toList, Array.getElem?_eq_getElem hltl]
    have : listed[i] = false := by simpa [Array.getD_eq_getD_getElem?, hltl] using h1
    rw [this])
   omega
  obtain ⟨rr, hp1, hp2⟩ := S.pend
  -- a step that changes nothing that is told of
  have light : ¬ Hv P ops T i → ∀ (σ' : Sig) (w' : World) (v' : Value), Stp σ h w σ' h w' → St P ops env0 T hE w0 (listed.setIfInBounds i true) (zfW env o.dst x.v) h σ' (a.put o.dst v') w' q ∧
   (q < ops.size → Hv P ops T q ∧ ¬ Lst (listed.setIfInBounds i true) q) := by
   intro hnv σ' w' v' s'
   have hci : ∀ c, Hv P ops T c → c ≠ i := fun c hv e => hnv (e ▸ hv)
   have hl : ∀ c, Hv P ops T c → (Lst (listed.setIfInBounds i true) c ↔ Lst listed c) := fun c hv => by rw [zeo hltl]; simp [hci c hv]
   refine ⟨⟨by simpa using S.size, hclosed', ?_, S.heap, S.le, fun c hv hlt => (hl c hv).2 (S.row c hv hlt), rr, fun c hv hlc hqc => ?_, fun c c' a1 a2 a3 a4 a5 a6 => hp2 c c' a1 ((hl c a1).1 a2) a3 a4 ((hl c' a4).1 a5) a6⟩, fun hq => ⟨(top hq).1, fun hk => (top hq).2 ((hl q (top hq).1).1 hk)⟩⟩
   · exact S.env.put D rfl ho' hx (fun j => zeo hltl) (fun _ => rfl) fun j hj hS hn hd => hn ⟨hd.1, (hl j hd.1).2 hd.2.1, hd.2.2⟩
   · exact (hp1 c hv ((hl c hv).1 hlc) hqc).step D s' ho' (Ne.symm (hci c hv)) v'
  unfold wpOpIn
  simp only [ho]
  rw [hgd'.wanted A.env]
  cases hran : x.ran with
  | false =>
   simp only [Bool.false_eq_true, if_false]
   refine ⟨fun _ _ => trivial, ?_⟩
   obtain ⟨hv, _⟩ := hskip hran
   have hnv : ¬ Hv P ops T i := fun hv => by
    obtain ⟨_, y, _, hy, hr, _⟩ := hv
    rw [hx] at hy; cases hy; rw [hran] at hr; cases hr
   obtain ⟨S', top'⟩ := light hnv σ w undef (Stp.refl _ _ _)
   rw [hv] at S'
   exact ih hcnt (A.skip o.dst) s S' top'
  | true =>
   simp only [if_true]
   have hgo : zjP P CALL x.h x.env o x.v x.h' := fun K => hrun hran K
   cases hh : zct P o.op with
   | true =>
    have hHv : Hv P ops T i := ⟨o, x, ho', hx, hran, hh⟩
    by_cases hall : ∀ c, Hv P ops T c → c < i → Lst listed c
    · -- its turn
      have hqi : q = i := by
       rcases Nat.lt_trichotomy q i with h2 | h2 | h2
       · obtain ⟨h3, h4⟩ := top (by omega)
         exact absurd (hall q h3 h2) h4
       · exact h2
       · exact absurd (S.row i hHv h2) hni
      subst hqi
      have hheap : h = x.h := by rw [S.heap, ← exh]
      have hgo' : zjP P CALL h env o x.v x.h' := by rw [hheap]; exact zji hopr hgo
      refine zlp SC A.rel A.env hgo' fun σ' w' v' s' R hv => ?_
      have Sw : St P ops env0 T hE w0 (listed.setIfInBounds q true) (zfW env o.dst x.v) x.h' σ' (a.put o.dst v') w' (q + 1) := by
       have hl : ∀ c, c ≠ q → (Lst (listed.setIfInBounds q true) c ↔ Lst listed c) := fun c hc => by rw [zeo hltl]; simp [hc]
       refine ⟨by simpa using S.size, hclosed', ?_, h6.symm, hlt, fun c hv hlt2 => ?_, rr, fun c hv hlc hqc => ?_, fun c c' a1 a2 a3 a4 a5 a6 => hp2 c c' a1 ((hl c (by omega)).1 a2) (by omega) a4 ((hl c' (by omega)).1 a5) (by omega)⟩
       · exact S.env.put D rfl ho' hx (fun j => zeo hltl) (fun _ => rfl) fun j hj hS hn hd => hn ⟨hd.1, (hl j hj).2 hd.2.1, by have := hd.2.2; omega⟩
       · rw [zeo hltl]
         by_cases hcq : c = q
         · exact .inr hcq
         · exact .inl (hall c hv (by omega))
       · exact (hp1 c hv ((hl c (by omega)).1 hlc) (by omega)).step D s' ho' (by omega) v'
      obtain ⟨env2, h2, σ2, q2, A2, s2, S2, top2⟩ := zlw D t hT hw0 ops.size (by omega) (A.put s' R o.dst hv) (s.trans s') Sw
      exact ih hcnt A2 s2 S2 top2
    · -- ahead of its turn
      obtain ⟨c0, hc0⟩ := Classical.not_forall.1 hall
      obtain ⟨hv0, hc1⟩ := Classical.not_imp.1 hc0
      obtain ⟨hc2, hc3⟩ := Classical.not_imp.1 hc1
      obtain ⟨oc, xc, hoc, hxc, hrc, hhc⟩ := id hv0
      have hlate : zyK o.op = true := by
       rcases D.row c0 i o oc ho' hoc hc2 hh hhc with h2 | h2
       · exfalso
         unfold zcs at h2
         rw [Bool.or_eq_true] at h2
         rcases h2 with h2 | h2
         · have := (zhl hback (S := fun _ => True) (fun _ _ _ _ _ _ => trivial) c0 (fun _ _ _ _ => trivial) i h2).1
           omega
         · exact hc3 (hah c0 h2).2
       · exact h2.1
      have hqc : q ≤ c0 := by
       rcases Nat.lt_or_ge c0 q with h2 | h2
       · exact absurd (S.row c0 hv0 h2) hc3
       · exact h2
      obtain ⟨cs, sz, arr, ty, mk, e1, e2, e3, e4⟩ := ztE hlate (zji hopr hgo) A.env w
      obtain ⟨R', s'⟩ := A.rel.hide (.cells arr ty)
      have hnd : ∀ c, o.op ≠ .defer c := fun c e => by rw [e] at hlate; simp [zyK] at hlate
      refine ⟨fun _ _ => trivial, ?_⟩
      rw [Oper.semAt_eq _ _ _ hnd, e4]
      have hl : ∀ c, c ≠ i → (Lst (listed.setIfInBounds i true) c ↔ Lst listed c) := fun c hc => by rw [zeo hltl]; simp [hc]
      have hlti : ∀ c, Hv P ops T c → Lst listed c → q ≤ c → rr c < w.heap.size := fun c hv hlc hqc => by
       obtain ⟨_, _, _, _, _, _, _, _, _, _, _, _, k6, _⟩ := hp1 c hv hlc hqc
       exact (Array.getElem?_eq_some_iff.1 k6).1
      refine ih hcnt (A.put s' R' o.dst (.any _)) (s.trans s') (q := q) ⟨by simpa using S.size, hclosed', ?_, S.heap, S.le, fun c hv hlt2 => ?_, fun c => if c = i then w.heap.size else rr c, fun c hv hlc hqc => ?_, fun c c' a1 a2 a3 a4 a5 a6 a7 => ?_⟩ fun hq => ?_
      · refine S.env.put D rfl ho' hx (fun j => zeo hltl) (fun hn => absurd ⟨hHv, (zeo hltl).2 (.inr rfl), by omega⟩ hn) fun j hj hS hn hd => hn ⟨hd.1, (hl j hj).2 hd.2.1, hd.2.2⟩
      · rw [zeo hltl]; exact .inl (S.row c hv hlt2)
      · by_cases hci : c = i
        · subst hci
          simp only [if_true]
          refine ⟨x, o, cs, sz, arr, ty, mk, hx, ho', e1, e2, e3, World.alloc_heap_new w _, s.size, fun ⟨j, b, p, k1, k2, k3, k4⟩ => ?_, fun d hd => ?_⟩
          · have := (A.rel.obj k1 k2).lt (ABlk.mine_ne k3)
            omega
          · rw [hd]
            have h3 := D.lt c o d ho' hd
            have h4 := A.env.length
            rw [S.env.len] at h4
            simp only [Act.put, Array.getElem?_setIfInBounds]
            have h5 : d < a.tmps.size := by rw [← Array.length_toList, ← h4]; exact h3
            simp [h5]
        · show PendOk ops T w0 h σ _ _ c (if c = i then w.heap.size else rr c)
          rw [if_neg hci]
          exact (hp1 c hv ((hl c hci).1 hlc) hqc).step D s' ho' (Ne.symm hci) _
      · show (if c = i then w.heap.size else rr c) ≠ (if c' = i then w.heap.size else rr c')
        by_cases h8 : c = i
        · by_cases h9 : c' = i
          · exact absurd (h8.trans h9.symm) a7
          · have := hlti c' a4 ((hl c' h9).1 a5) a6
            rw [if_pos h8, if_neg h9]; omega
        · have h10 := hlti c a1 ((hl c h8).1 a2) a3
          by_cases h9 : c' = i
          · rw [if_neg h8, if_pos h9]; omega
          · rw [if_neg h8, if_neg h9]
            exact hp2 c c' a1 ((hl c h8).1 a2) a3 a4 ((hl c' h9).1 a5) a6 a7
      · obtain ⟨h3, h4⟩ := top hq
        refine ⟨h3, fun hk => h4 ?_⟩
        have : q ≠ i := by omega
        exact (hl q this).1 hk
   | false =>
    have hnv : ¬ Hv P ops T i := fun hv => by
     obtain ⟨oc, y, hoc, hy, hr, hhc⟩ := hv
     rw [ho'] at hoc; cases hoc; rw [hh] at hhc; cases hhc
    have hlook := zvw t hTl hlk ho' hx hran hh (q := q) (by have := S.le; omega) fun c hv hc => by
     obtain ⟨oc, _, hoc, _, _, hhc⟩ := id hv
     have hcl : c < ops.size := by simpa using (List.getElem?_eq_some_iff.1 hoc).1
     have hci : c ≠ i := fun e => hnv (e ▸ hv)
     cases hor : zcs (zbJ ops.toList) i c with
     | false => rfl
     | true =>
      exfalso
      have h2 := hord c hcl hci hor
      rcases hc with hc | hc
      · exact hpend c hv (h2.2 hc.2) hc.1 hor
      · have := h2.1 (S.row c hv hc.2); omega
    rw [← S.heap, zpN hopr] at hlook
    refine zlp SC A.rel A.env (zn8 hh hlook) fun σ' w' v' s' R hv => ?_
    obtain ⟨S', top'⟩ := light hnv σ' w' v' s'
    exact ih hcnt (A.put s' R o.dst hv) (s.trans s') S' top'

theorem zvN {CALL : CallT} (SC : zcg P CALL) {ops : Array Oper} {RT : Type} {K : Env → zaa → Option RT} {r : RT} {ro : Option Nat} {n B id : Nat} {Q : Exit → Act → World → Prop}
 {env : Env} {h : zaa} {σ : Sig} {a : Act} {w : World} (hok : zj7 P ops.toList env.length = true)
 (ha : zep P CALL ops.toList (List.range ops.toList.length) env h [] (fun T env h => zeM P ops.toList T (zdW P ops.toList) (K env h)) = some r) (A : At W0 B σ h env a w)
 (hQ : ∀ env' h' σ' a' w', K env' h' = some r → Stp σ h w σ' h' w' → At W0 B σ' h' env' a' w' → Q .normal a' w') : (Code.region id ops true).wpIn (FW ro) n P Q a w := by
 have D := znu hok
 rw [List.range_eq_range'] at ha
 obtain ⟨T, envE, hE, hk, hlen, t⟩ := zgP (env0 := env) (h0 := h) _ 0 ha rfl ⟨rfl, rfl, fun i x hx => by simp at hx⟩
 obtain ⟨hK, hlk⟩ := zgD hk
 have A' : At W0 B σ h env a w.drew := ⟨A.rel.drew, A.env, ⟨A.marks.size, A.marks.all, A.marks.nodup⟩⟩
 refine wpIn_region_draw fun sched => ?_
 have hs : ∃ md t, Region.schedule (P.follows .mixedOrders) ops sched = Region.linearise.go md ops ops.size t (Array.replicate ops.size false) [] := by
  unfold Region.schedule Region.linearise
  split
  · exact ⟨_, _, rfl⟩
  · split
    · exact ⟨_, _, rfl⟩
    · exact ⟨_, _, rfl⟩
 obtain ⟨md, sched, hs⟩ := hs
 rw [hs]
 refine wpAnyIn_sound _ _ _ _ _ ?_
 have S0 : St P ops env T hE w.drew (Array.replicate ops.size false) env h σ a w.drew 0 := by
  have hno : ∀ j, ¬ Lst (Array.replicate ops.size false) j := fun j hj => by
   simp [Lst, Array.getD_eq_getD_getElem?, Array.getElem?_replicate] at hj; split at hj <;> simp at hj
  exact ⟨by simp, fun j o hj => absurd hj (hno j), ⟨rfl, fun j o x s hj => absurd hj (hno j), fun _ _ => rfl⟩, t.h0.symm, Nat.zero_le _, fun c _ hc => by omega, fun _ => 0, fun c _ hc => absurd hc (hno c), fun c c' _ hc => absurd hc (hno c)⟩
 have hw0 : W0.heap.size ≤ w.drew.heap.size := A'.rel.below.size
 obtain ⟨env2, h2, σ2, q2, A2, s2, S2, top2⟩ := zlw D t (by simpa using hlen) hw0 ops.size (by omega) A' (Stp.refl _ _ _) S0
 exact zym SC D t (by simpa using hlen) hlk md hw0 (fun σ' a' w' s A3 => hQ _ _ _ _ _ hK ((Stp.drew σ h w).trans s) A3) ops.size (by simp) A2 s2 S2 top2

end Go.Abs

end

section
/- Code: what the interpreter says of it holds of the machine. Loops zdu functions; a function's body; a round. -/
set_option autoImplicit false
set_option linter.unusedVariables false
set_option linter.unusedSimpArgs false
namespace Go.Abs
variable {P : Program} {W0 : World} {σ : Sig} {h : zaa} {w : World}

def zBs : AEx → Exit
 | .norm => .normal
 | .exit i => .exit i
 | .ret => .ret

def zcy (P : Program) (s : LoopF) (c : Code) : Prop :=
 ∀ {W0 : World} {B : Nat} {σ : Sig} {h : zaa} {env : Env} {a : Act} {w : World} {e : AEx} {env' : Env} {h' : zaa}, s.get env h = some (e, env', h') → At W0 B σ h env a w →
  ∀ (n : Nat) (Q : Exit → Act → World → Prop), (∀ σ' a' w', Stp σ h w σ' h' w' → At W0 B σ' h' env' a' w' → Q (zBs e) a' w') → (Code.loop c).wpIn Fence.wide n P Q a w

def za0 : Code → List Code
 | .seq a b => za0 a ++ za0 b
 | .cond _ a b => za0 a ++ za0 b
 | .block _ a => za0 a
 | .loop c => [c]
 | _ => []

def zcU (P : Program) (LS : zcQ) (c : Code) : Prop := ∀ b ∈ za0 c, ∀ s, LS (zaX b) = some s → zcy P s b

theorem Rel.allocOther (R : Rel W0 σ h w) (o : Obj) : Rel W0 σ h (w.alloc o) ∧ Stp σ h w σ h (w.alloc o) := by
 have hold : ∀ k, k < w.heap.size → (w.alloc o).heap[k]? = w.heap[k]? := fun k hk => RowKit.Below.heap_alloc w o k hk
 refine ⟨⟨R.len, fun {i b p} h1 h2 => ?_, R.far, R.own, R.sep, R.below.alloc R.below.size o⟩, ⟨⟨[], by simp⟩, fun _ h => .inl h, fun k hk _ => hold k hk, by simp⟩⟩
 exact (R.obj h1 h2).keep fun hd => hold _ ((R.obj h1 h2).lt hd)

theorem Rel.turnOther (R : Rel W0 σ h w) {r : Nat} {x : Option (List Deferred)} (hr : w.heap[r]? = some (.deferred x)) (hW : W0.heap.size ≤ r) (o : Obj) : Rel W0 σ h (w.putObj r o) := by
 refine ⟨R.len, fun {i b p} h1 h2 => ?_, R.far, R.own, R.sep, Below.putObj R.below hW o⟩
 · have h3 := R.obj h1 h2
   refine h3.keep fun hd => World.putObj_heap_other ?_
   rintro rfl
   cases b with
   | cells vs esz md par =>
    rcases h3 with ⟨rfl, _⟩ | ⟨_, _, _, _, h4, _⟩
    · simp [ABlk.void] at hd
    · rw [hr] at h4; cases h4
   | mp es c sy => obtain ⟨_, h4, _⟩ := h3; rw [hr] at h4; cases h4
   | lp L => obtain ⟨_, h4, _⟩ := h3; rw [hr] at h4; cases h4
   | dead => simp [ABlk.void] at hd

theorem zut (R : Rel W0 σ h w) {l : Nat} {L : ALoop} (hl : h[l]? = some (.lp L)) {p : Plc} (hp : σ[l]? = some p) : ∃ L', w.heap[p.blk]? = some (.loop L') ∧ LoopR σ L L' := R.obj hl hp

theorem zgC {l : Nat} {L' : Loop} (hL : w.heap[l]? = some (.loop L')) : (Instr.getLoop l).run P w = .ok L' w := by
 have : (getObj l).run P w = .ok (.loop L') w := by simp [getObj, Sem.run, hL]
 simp [Instr.getLoop, this]

theorem zgA {l : Nat} {L' : Loop} (hL : w.heap[l]? = some (.loop L')) (o' : Obj) : (Go.setObj l o').run P w = .ok () (w.putObj l o') := by
 simp [Go.setObj, Sem.run, hL, World.putObj]

theorem Rel.setLoop (R : Rel W0 σ h w) {l : Nat} {L L2 : ALoop} {L2' : Loop} {p : Plc} (hl : h[l]? = some (.lp L)) (hp : σ[l]? = some p) (h2 : LoopR σ L2 L2') :
 Rel W0 σ (h.set l (.lp L2)) (w.putObj p.blk (.loop L2')) ∧ Stp σ h w σ (h.set l (.lp L2)) (w.putObj p.blk (.loop L2')) := by
 obtain ⟨L', h1, _⟩ := zut R hl hp
 have hlt : p.blk < w.heap.size := (Array.getElem?_eq_some_iff.1 h1).1
 exact R.setObj (b' := .lp L2) hl hp rfl rfl rfl rfl (.loop L2') ⟨L2', World.putObj_heap_same hlt, h2⟩

theorem zf4 {CALL : CallT} (SC : zcg P CALL) {LS : zcQ} {RT : Type} {r : RT} {ro : Option Nat} {n B : Nat} :
 ∀ (c : Code) (hq : ro = none ∨ zei c = true) (hL : zcU P LS c) {K : AEx → Env → zaa → Option RT} {env : Env} {h : zaa} {σ : Sig} {a : Act} {w : World} {Q : Exit → Act → World → Prop},
  zbb P CALL LS c env h K = some r → At W0 B σ h env a w →
  (∀ e env' h' σ' a' w', K e env' h' = some r → Stp σ h w σ' h' w' → At W0 B σ' h' env' a' w' → Q (zBs e) a' w') → c.wpIn (FW ro) n P Q a w := by
 intro c
 induction c with
 | skip => intro hq hL K env h σ a w Q ha A hQ; exact wpIn_skip (hQ .norm env h σ a w ha (Stp.refl _ _ _) A)
 | label l => intro hq hL K env h σ a w Q ha A hQ; exact wpIn_label (hQ .norm env h σ a w ha (Stp.refl _ _ _) A)
 | exit i => intro hq hL K env h σ a w Q ha A hQ; exact wpIn_exit (hQ (.exit i) env h σ a w ha (Stp.refl _ _ _) A)
 | ret => intro hq hL K env h σ a w Q ha A hQ; exact wpIn_ret (hQ .ret env h σ a w ha (Stp.refl _ _ _) A)
 | scope c ih => intro hq hL K env h σ a w Q ha A hQ; simp [zbb] at ha
 | goto l => intro hq hL K env h σ a w Q ha A hQ; simp [zbb] at ha
 | refuse s => intro hq hL K env h σ a w Q ha A hQ; simp [zbb] at ha
 | region id ops draw =>
  intro hq hL K env h σ a w Q ha A hQ
  unfold zbb at ha
  cases draw with
  | true =>
   simp only [if_true] at ha
   split at ha
   · rename_i hok
     exact zvN (K := fun env h => K .norm env h) SC hok ha A fun env' h' σ' a' w' hk s A' => hQ .norm _ _ _ _ _ hk s A'
   · simp at ha
  | false =>
   simp only [Bool.false_eq_true, if_false] at ha
   refine wpIn_region ?_
   have e : List.range ops.toList.length = List.range ops.size := by simp
   rw [e] at ha
   exact zn4 SC ha A fun env' h' σ' a' w' hk s A' => hQ .norm _ _ _ _ _ hk s A'
 | seq x y ihx ihy =>
  intro hq hL K env h σ a w Q ha A hQ
  unfold zbb at ha
  have hq1 : ro = none ∨ zei x = true := by rcases hq with h | h; exact .inl h; simp [zei] at h; exact .inr h.1
  have hq2 : ro = none ∨ zei y = true := by rcases hq with h | h; exact .inl h; simp [zei] at h; exact .inr h.2
  refine wpIn_seq (ihx hq1 (fun b hb => hL b (by simp [za0, hb])) ha A fun e env' h' σ' a' w' hk s A' => ?_)
  cases e with
  | norm =>
   exact ihy hq2 (fun b hb => hL b (by simp [za0, hb])) hk A' fun e2 env2 h2 σ2 a2 w2 hk2 s2 A2 => hQ _ _ _ _ _ _ hk2 (s.trans s2) A2
  | exit i => exact hQ _ _ _ _ _ _ hk s A'
  | ret => exact hQ _ _ _ _ _ _ hk s A'
 | cond c x y ihx ihy =>
  intro hq hL K env h σ a w Q ha A hQ
  unfold zbb at ha
  have hq1 : ro = none ∨ zei x = true := by rcases hq with h | h; exact .inl h; simp [zei] at h; exact .inr h.1
  have hq2 : ro = none ∨ zei y = true := by rcases hq with h | h; exact .inl h; simp [zei] at h; exact .inr h.2
  split at ha
  · rename_i t hc
    have hcv := zg8 A.env c
    rw [hc] at hcv
    split at ha
    · rename_i ht; subst ht
      exact wpIn_cond_true hcv.bool_inv (ihx hq1 (fun b hb => hL b (by simp [za0, hb])) ha A hQ)
    · rename_i ht; simp at ht; subst ht
      exact wpIn_cond_false hcv.bool_inv (ihy hq2 (fun b hb => hL b (by simp [za0, hb])) ha A hQ)
  · simp at ha
 | block i c ih =>
  intro hq hL K env h σ a w Q ha A hQ
  unfold zbb at ha
  refine wpIn_block (ih (by rcases hq with h | h; exact .inl h; simp [zei] at h; exact .inr h) (fun b hb => hL b (by simpa [za0] using hb)) ha A fun e env' h' σ' a' w' hk s A' => ?_)
  cases e with
  | norm => exact hQ _ _ _ _ _ _ hk s A'
  | ret => exact hQ _ _ _ _ _ _ hk s A'
  | exit j =>
   simp only [zBs, Exit.inBlock]
   simp only at hk
   split at hk
   · rename_i hj; rw [if_pos hj]; exact hQ .norm _ _ _ _ _ hk s A'
   · rename_i hj; rw [if_neg hj]; exact hQ (.exit j) _ _ _ _ _ hk s A'
 | loop c ih =>
  intro hq hL K env h σ a w Q ha A hQ
  rcases hq with rfl | hq
  · unfold zbb at ha
    split at ha
    · rename_i s hs
      rw [s.nat] at ha
      simp only [Option.bind_eq_some_iff] at ha
      obtain ⟨x, hx, hk⟩ := ha
      exact hL c (by simp [za0]) s hs hx A n Q fun σ' a' w' st A' => hQ _ _ _ _ _ _ hk st A'
    · simp at ha
  · simp [zei] at hq
 | rangeFunc g ps asg body iha ihb =>
  intro hq hL K env h σ a w Q ha A hQ
  rcases hq with rfl | hq
  · unfold zbb at ha
    split at ha
    · rename_i id cap hg
      rw [CALL.nat] at ha
      simp only [Option.bind_eq_some_iff] at ha
      obtain ⟨⟨v, h1⟩, hcall, hk⟩ := ha
      simp only at hk
      split at hk
      · rename_i L hL1
        split at hk
        · simp at hk
        · rename_i hbusy
          -- the world: the block of the mark, the record
          obtain ⟨RA, sA⟩ := A.rel.allocOther (.deferred (some []))
          refine wpIn_rangeFunc fun fn _ => ?_
          let wa := w.alloc (.deferred (some []))
          let Lp : Loop := { state := .ready, pending := none, fn := fn, tmps := a.tmps, params := ps, assign := asg, body := body, defers := w.heap.size }
          have hpush := RA.push (.loop Lp) (.lp { st := .ready, pend := none, env := env, ps := ps.toList, asg := asg, body := body }) 0 rfl
           ⟨Lp, World.alloc_heap_new _ _, ⟨rfl, rfl, A.env.grow _, rfl, rfl, rfl⟩⟩
          obtain ⟨RB, sB⟩ := hpush
          have s01 := sA.trans sB
          have hgv := zg8 A.env g
          rw [hg] at hgv
          obtain ⟨cap', hcap', hge⟩ : ∃ cap' : List Value, VRs σ cap cap' ∧ a.eval g = .func (.func id) #[] cap'.toArray := by
           generalize a.eval g = gv at *
           cases hgv with
           | fn _ _ cap' hc => exact ⟨cap', hc, rfl⟩
          have hsz : σ.length = h.length := A.rel.len
          have hpl : (σ ++ [⟨wa.heap.size, 0, 0⟩])[h.length]? = some ⟨wa.heap.size, 0, 0⟩ := by rw [← hsz]; simp
          have hargs : VRs (σ ++ [⟨wa.heap.size, 0, 0⟩]) (.fn (.yield h.length) [] :: cap) (#[Value.func (.yield wa.heap.size) #[] #[]] ++ cap'.toArray).toList := by
           simp only [Array.toList_append, List.singleton_append]
           exact .cons _ _ _ _ (.yld _ _ hpl) (hcap'.grow _)
          obtain ⟨⟨fd, hfd, hname, hbody⟩, hcalls⟩ := SC hcall RB hargs
          have he : ∀ args w, (callFunc id args).run P w = .ok (.enter id args) w := fun args w => by
           have : fd.body.isNone = false := by cases hb : fd.body with
            | none => rw [hb] at hbody; simp at hbody
            | some c => rfl
           simp only [callFunc, Sem.run_bind]
           simp [program, Sem.run, hfd, hname, this]
           intro hb; rw [hb] at hbody; simp at hbody
          refine ⟨wa.heap.size, [{ target := .collected w.heap.size, args := #[] }], wa.alloc (.loop Lp), { target := .fn (.func id) cap'.toArray, args := #[Value.func (.yield wa.heap.size) #[] #[]] }, wa.alloc (.loop Lp), id,
           #[Value.func (.yield wa.heap.size) #[] #[]] ++ cap'.toArray, wa.alloc (.loop Lp), ?_, ?_, fun _ _ => trivial, ?_, fun hd => ?_, CallsIn.mono (hcalls (n - 1)) fun e w' hr => ?_⟩
          · simp [Instr.enterLoop, wa, Lp]
          · simp [resolve, rangeCall, hge, Deferred.ofValue]; rfl
          · simp only [invoke]; exact he _ _
          · simp [Fence.wide] at hd
          · obtain ⟨v', σ', rfl, s2, R2, hv⟩ := hr
            obtain ⟨p, hp, hobj⟩ := R2.get hL1
            have hpb : p = ⟨wa.heap.size, 0, 0⟩ := by
             obtain ⟨τ, rfl⟩ := s2.ext
             rw [List.getElem?_append_left (by simp [hsz]), hpl] at hp
             cases hp; rfl
            obtain ⟨L', hL', hLR⟩ := hobj
            have hstate : L'.state = L.st := hLR.st
            have hset := R2.setLoop (L2 := { L with st := .exhausted }) (L2' := { L' with state := .exhausted }) hL1 hp ⟨rfl, hLR.pend, hLR.env, hLR.ps, hLR.asg, hLR.body⟩
            obtain ⟨R3, s3⟩ := hset
            have s03 := (s01.trans s2).trans s3
            have hmarks : MarksR B (w'.putObj p.blk (.loop { L' with state := .exhausted })) ([{ target := .collected w.heap.size, args := #[] }] ++ a.defers) := by
             have h0 : MarksR B wa ([{ target := .collected w.heap.size, args := #[] }] ++ a.defers) := by
              have h1 := A.marks.step A.rel sA
              refine ⟨h1.size, fun d hd => ?_, ?_⟩
              · rcases List.mem_append.1 hd with hd | hd
                · simp at hd; subst hd
                  exact ⟨w.heap.size, rfl, A.marks.size, World.alloc_heap_new _ _⟩
                · exact h1.all d hd
              · simp only [List.singleton_append, List.pairwise_cons]
                refine ⟨fun d hd => ?_, h1.nodup⟩
                obtain ⟨r', e1, _, e3⟩ := A.marks.all d hd
                rw [e1]
                have := (Array.getElem?_eq_some_iff.1 e3).1
                intro e; injection e with e; omega
             exact ((h0.step RA sB).step RB s2).step R2 s3
            have A4 : At W0 B σ' (h1.set h.length (.lp { L with st := .exhausted })) env { a with defers := [{ target := .collected w.heap.size, args := #[] }] ++ a.defers } (w'.putObj p.blk (.loop { L' with state := .exhausted })) :=
             ⟨R3, s03.vrs A.env, hmarks⟩
            refine ⟨L'.pending, w'.putObj p.blk (.loop { L' with state := .exhausted }), ?_, ?_⟩
            · have hpb' : p.blk = wa.heap.size := by rw [hpb]
              rw [← hpb']
              have hnb : (L'.state == .busy) = false := by rw [hstate]; cases hst : L.st <;> first | rfl | exact absurd hst hbusy
              have hnb' : ¬ L'.state = .busy := by rw [hstate]; exact hbusy
              simp [Instr.endLoop, zgC hL', hnb, hnb', zgA hL']
            · have hpend : L'.pending = L.pend.map zue := hLR.pend
              generalize w'.putObj p.blk (.loop { L' with state := .exhausted }) = w4 at *
              rw [hpend]
              split at hk
              · rename_i hpn; rw [hpn]; exact hQ .norm _ _ _ _ _ hk s03 A4
              · rename_i e hpe; rw [hpe]
                cases e with
                | norm => exact wpIn_skip (hQ .norm _ _ _ _ _ hk s03 A4)
                | exit i => exact wpIn_exit (hQ (.exit i) _ _ _ _ _ hk s03 A4)
                | ret => exact wpIn_ret (hQ .ret _ _ _ _ _ hk s03 A4)
      · simp at hk
    · simp at ha
  · simp [zei] at hq


def rdR (tmps : Array Value) (x : ResultVar) : Sem Value :=
 match x with
 | .tmp t => pure (tmps.getD t undef)
 | .cell a t => do loadVar t (← asAddr (tmps.getD a undef))

theorem zo0 (fn : Func) (tmps : Array Value) : results fn tmps = (do let vs ← fn.results.mapM (rdR tmps); pure (if h : vs.size = 1 then vs[0] else .tuple vs)) := by
 have e : (fun | .tmp t => (pure (tmps.getD t undef) : Sem Value) | .cell a t => do loadVar t (← asAddr (tmps.getD a undef)) : ResultVar → Sem Value) = rdR tmps := by
  funext x; cases x <;> rfl
 rw [← e]
 rfl

theorem zgE (R : Rel W0 σ h w) {env : Env} {tmps : Array Value} (hE : VRs σ env tmps.toList) : ∀ {l : List ResultVar} {vs : List AV}, zcw P env h l = some vs →
 ∃ vs' : List Value, (l.mapM (rdR tmps)).run P w = .ok vs' w ∧ VRs σ vs vs'
 | [], vs, ha => by simp [zcw] at ha; subst ha; exact ⟨[], by simp, .nil⟩
 | .tmp t :: l, vs, ha => by
  simp only [zcw, Option.map_eq_some_iff] at ha
  obtain ⟨vs1, h1, rfl⟩ := ha
  obtain ⟨vs', h2, h3⟩ := zgE R hE h1
  have := zg8 (a := { tmps := tmps, defers := [] }) hE (.tmp t)
  exact ⟨tmps.getD t undef :: vs', by simp [List.mapM_cons, rdR, h2], .cons _ _ _ _ this h3⟩
 | .cell a t :: l, vs, ha => by
  simp only [zcw, Option.bind_eq_some_iff, Option.map_eq_some_iff] at ha
  obtain ⟨v, hv, vs1, h1, rfl⟩ := ha
  obtain ⟨vs', h2, h3⟩ := zgE R hE h1
  have hav := zg8 (a := { tmps := tmps, defers := [] }) hE (.tmp a)
  have hav' : VR σ (env.getD a (.tup [])) (tmps.getD a undef) := hav
  obtain ⟨v', h4, h5⟩ := zoy R hav' hv
  have hp : ∃ ad, tmps.getD a undef = .pointer (some ad) := by
   generalize env.getD a (.tup []) = y at *
   generalize tmps.getD a undef = y' at *
   unfold ziV at hv
   split at hv
   · obtain ⟨p, _, e⟩ := hav'.ptr_inv; exact ⟨_, e⟩
   · simp at hv
  obtain ⟨ad, hp⟩ := hp
  have h6 : (loadVar t ad).run P w = .ok v' w := by
   rw [hp] at h4
   simpa [Instr.loadAt, Instr.sureAddr] using h4
  exact ⟨v' :: vs', by simp [List.mapM_cons, rdR, h2, hp, asAddr, h6], .cons _ _ _ _ h5 h3⟩

theorem zyi (R : Rel W0 σ h w) {fn : Func} {env : Env} {tmps : Array Value} (hE : VRs σ env tmps.toList) {vs : List AV} (ha : zcw P env h fn.results.toList = some vs) :
 ∃ v', (results fn tmps).run P w = .ok v' w ∧ VR σ (zz0 vs) v' := by
 obtain ⟨vs', h1, h2⟩ := zgE R hE ha
 have hm : (fn.results.mapM (rdR tmps)).run P w = .ok vs'.toArray w := by
  rw [Array.mapM_eq_mapM_toList]
  simp [h1]
 rw [zo0]
 simp only [Sem.run_bind, hm, Result.andThen_ok]
 cases h2 with
 | nil => exact ⟨_, by simp, .tup [] [] .nil⟩
 | cons a v l m hv ht =>
  cases ht with
  | nil => exact ⟨v, by simp, hv⟩
  | cons a2 v2 l2 m2 hv2 ht2 =>
   refine ⟨.tuple (v :: v2 :: m2).toArray, by simp, ?_⟩
   exact .tup _ _ (.cons _ _ _ _ hv (.cons _ _ _ _ hv2 ht2))

theorem zl8 {fn : Func} {n B : Nat} {env : Env} {vs : List AV} {tmps : Array Value} {R : Ending → World → Prop} (hW : W0.heap.size ≤ B) :
 ∀ (ds : List Deferred) {w : World}, Rel W0 σ h w → VRs σ env tmps.toList → zcw P env h fn.results.toList = some vs → MarksR B w ds →
  (∀ v' w', Rel W0 σ h w' → VR σ (zz0 vs) v' → (∀ k, k < B → w'.heap[k]? = w.heap[k]?) → w'.heap.size = w.heap.size → (∀ k, Own h σ k → w'.heap[k]? = w.heap[k]?) → R (.returned v') w') →
  LeavesInM Fence.wide n P fn tmps R ds .returning w
 | [], w, Rl, hE, ha, M, hR => by
  obtain ⟨v', h1, h2⟩ := zyi Rl hE ha
  exact ⟨v', h1, hR v' w Rl h2 (fun _ _ => rfl) rfl fun _ _ => rfl⟩
 | d :: ds, w, Rl, hE, ha, M, hR => by
  obtain ⟨r, h1, h2, h3⟩ := M.all d (by simp)
  have hlt := (Array.getElem?_eq_some_iff.1 h3).1
  have R' := Rl.turnOther h3 (Nat.le_trans hW h2) (.deferred none)
  have hno := Rl.notOwn h3
  refine ⟨by simp, .inl ⟨r, w.putObj r (.deferred none), h1, ?_, ?_⟩⟩
  · have hg : (getObj r).run P w = .ok (.deferred (some [])) w := by simp [getObj, Sem.run, h3]
    have hs : (Go.setObj r (.deferred none)).run P w = .ok () (w.putObj r (.deferred none)) := by simp [Go.setObj, Sem.run, h3, World.putObj]
    simp [Instr.takeDeferred, hg, hs]
  · refine zl8 hW ds R' hE ha ⟨by simpa using M.size, fun d' hd' => ?_, (List.pairwise_cons.1 M.nodup).2⟩ fun v' w' Rw hv hk hs ho => ?_
    · obtain ⟨r', g1, g2, g3⟩ := M.all d' (by simp [hd'])
      refine ⟨r', g1, g2, ?_⟩
      have hne : r' ≠ r := fun e => (List.pairwise_cons.1 M.nodup).1 d' hd' (by rw [h1, g1, e])
      rw [World.putObj_heap_other hne]; exact g3
    · refine hR v' w' Rw hv (fun k hkB => ?_) (by simpa using hs) fun k hk' => ?_
      · rw [hk k hkB, World.putObj_heap_other (by omega)]
      · rw [ho k hk', World.putObj_heap_other]
        rintro rfl; exact hno hk'

theorem zuL {CALL : CallT} (SC : zcg P CALL) {LS : zcQ} {f : FuncId} {args : List AV} {args' : Array Value} {v : AV} {h' : zaa} (hL : ∀ fd c, P.funcs[f]? = some fd → fd.body = some c → zcU P LS c)
 (ha : (zk0 P CALL LS f).get args h = some (v, h')) (R : Rel W0 σ h w) (hargs : VRs σ args args'.toList) :
 (∃ fd, P.funcs[f]? = some fd ∧ fd.name ≠ "runtime.NumGoroutine" ∧ fd.body.isSome = true) ∧ ∀ n, CallsIn Fence.wide n P f args' w (zvb W0 σ h w v h') := by
 change zch P CALL LS f args h (fun v h => some (v, h)) = some (v, h') at ha
 unfold zch at ha
 split at ha
 · rename_i fn hfn
   split at ha
   · rename_i c hc
     split at ha
     · simp at ha
     · rename_i hname
       refine ⟨⟨fn, hfn, hname, by rw [hc]; rfl⟩, fun n => ?_⟩
       have hlen : args.length = args'.size := by rw [hargs.length]; simp
       have A : At W0 w.heap.size σ h (args ++ List.replicate (fn.ntmps - args.length) (.tup [])) { tmps := args' ++ Array.replicate (fn.ntmps - args'.size) undef, defers := [] } w := by
        refine ⟨R, ?_, ⟨Nat.le_refl _, by simp, .nil⟩⟩
        simp only [Array.toList_append, Array.toList_replicate, hlen]
        exact hargs.append (VRs.replicate (.tup [] [] .nil) _)
       refine callsIn_of_wp_marks hfn hc trivial ?_
       refine zf4 SC c (.inl rfl) (hL fn c hfn hc) ha A fun e env' h'' σ' a' w' hk s A' => ?_
       have main : ∀ vs, zcw P env' h'' fn.results.toList = some vs → v = zz0 vs → h' = h'' → LeavesInM Fence.wide n P fn a'.tmps (zvb W0 σ h w v h') a'.defers .returning w' := by
        rintro vs hvs rfl rfl
        refine zl8 R.below.size a'.defers A'.rel A'.env hvs A'.marks fun v' w'' Rw hv hk hs ho => ?_
        refine ⟨v', σ', rfl, ⟨s.ext, s.own, fun b hb hn => ?_, by rw [hs]; exact s.size⟩, Rw, hv⟩
        rw [hk b hb]; exact s.same b hb hn
       cases e with
       | norm =>
        simp only [Option.bind_eq_some_iff, Option.some.injEq, Prod.mk.injEq] at hk
        obtain ⟨vs, hvs, h1, h2⟩ := hk
        exact main vs hvs h1.symm h2.symm
       | ret =>
        simp only [Option.bind_eq_some_iff, Option.some.injEq, Prod.mk.injEq] at hk
        obtain ⟨vs, hvs, h1, h2⟩ := hk
        exact main vs hvs h1.symm h2.symm
       | exit i => simp at hk
   · simp at ha
 · simp at ha


theorem zjB : ∀ {l : List (Tmp × AV)} {m : List (Tmp × Value)} {env : Env} {tmps : Array Value}, l.map (·.1) = m.map (·.1) → VRs σ (l.map (·.2)) (m.map (·.2)) → VRs σ env tmps.toList →
 VRs σ (zcL env l) (m.foldl (fun tmps (p : Tmp × Value) => tmps.setIfInBounds p.1 p.2) tmps).toList
 | [], [], _, _, _, _, hE => hE
 | [], _ :: _, _, _, h1, _, _ => by simp at h1
 | _ :: _, [], _, _, h1, _, _ => by simp at h1
 | (t, a) :: l, (t', v) :: m, env, tmps, h1, h2, hE => by
  simp only [List.map_cons, List.cons.injEq] at h1 h2
  obtain ⟨rfl, h1⟩ := h1
  cases h2 with
  | cons _ _ _ _ hv ht =>
  simp only [zcL, List.foldl_cons]
  refine zjB h1 ht ?_
  rw [Array.toList_setIfInBounds]
  exact hE.set t hv

theorem zjG {CALL : CallT} (SC : zcg P CALL) {l : Nat} {args : List AV} {args' : Array Value} {v : AV} {h' : zaa} (ha : zdy P CALL l args h (fun v h => some (v, h)) = some (v, h')) (R : Rel W0 σ h w) (hargs : VRs σ args args'.toList)
 {p : Plc} (hp : σ[l]? = some p) : ∃ L, w.heap[p.blk]? = some (.loop L) ∧ args'.size = L.params.size ∧
  ∀ n, RoundIn Fence.wide n P p.blk L.fn ((L.params.zip args').foldl (fun tmps (t, a) => tmps.setIfInBounds t a) L.tmps) L.assign L.body w (zvb W0 σ h w v h') := by
 unfold zdy at ha
 split at ha
 · rename_i L hl
   split at ha
   · rename_i hc
     obtain ⟨hst, hlen, hqa, hqb⟩ := hc
     obtain ⟨L', hL', hLR⟩ := zut R hl hp
     have hsz : args'.size = L'.params.size := by
      have h1 := hargs.length
      have h2 : L'.params.toList.length = L.ps.length := by rw [hLR.ps]
      simp at h1 h2; omega
     refine ⟨L', hL', hsz, fun n => ?_⟩
     refine roundIn_of_wpIn trivial ?_
     have hE0 : VRs σ (zcL L.env (L.ps.zip args)) ((L'.params.zip args').foldl (fun tmps (t, a) => tmps.setIfInBounds t a) L'.tmps).toList := by
      rw [← Array.foldl_toList]
      refine zjB (m := (L'.params.zip args').toList) ?_ ?_ hLR.env
      · rw [Array.toList_zip, hLR.ps]
        have h1 := hargs.length
        rw [List.map_fst_zip (by omega), List.map_fst_zip (by simp at h1 ⊢; omega)]
      · rw [Array.toList_zip, hLR.ps]
        rw [List.map_snd_zip, List.map_snd_zip]
        · exact hargs
        · have h1 := hargs.length; simp at h1 ⊢; omega
        · omega
     have A : At W0 w.heap.size σ h (zcL L.env (L.ps.zip args)) { tmps := (L'.params.zip args').foldl (fun tmps (t, a) => tmps.setIfInBounds t a) L'.tmps, defers := [] } w :=
      ⟨R, hE0, ⟨Nat.le_refl _, by simp, .nil⟩⟩
     rw [hLR.asg]
     refine zf4 (ro := some p.blk) SC L.asg (.inr hqa) (fun b _ s hs => by simp at hs) ha A fun e env1 h1 σ1 a1 w1 hk s1 A1 => ?_
     cases e with
     | exit i => simp at hk
     | ret => simp at hk
     | norm =>
      simp only at hk
      split at hk
      · rename_i L1 hl1
        split at hk
        · rename_i hst1
          have hp1 : σ1[l]? = some p := by
           obtain ⟨τ, rfl⟩ := s1.ext
           rw [List.getElem?_append_left (List.getElem?_eq_some_iff.1 hp).1]; exact hp
          obtain ⟨L1', hL1', hLR1⟩ := zut A1.rel hl1 hp1
          obtain ⟨R2, s2⟩ := A1.rel.setLoop (L2 := { L1 with st := .busy }) (L2' := { L1' with state := .busy }) hl1 hp1 ⟨rfl, hLR1.pend, hLR1.env, hLR1.ps, hLR1.asg, hLR1.body⟩
          refine ⟨w1.putObj p.blk (.loop { L1' with state := .busy }), ?_, ?_⟩
          · have : L1'.state = .ready := by rw [hLR1.st, hst1]
            simp [Instr.beginRound, zgC hL1', zgA hL1', this]
          · rw [hLR.body]
            have A2 : At W0 w.heap.size σ1 (h1.set l (.lp { L1 with st := .busy })) env1 a1 (w1.putObj p.blk (.loop { L1' with state := .busy })) := ⟨R2, s2.vrs A1.env, A1.marks.step A1.rel s2⟩
            refine zf4 (ro := some p.blk) SC L.body (.inr hqb) (fun b _ s hs => by simp at hs) hk A2 fun e env3 h3 σ3 a3 w3 hk3 s3 A3 => ?_
            split at hk3
            · rename_i L3 hl3
              have hp3 : σ3[l]? = some p := by
               obtain ⟨τ, rfl⟩ := s3.ext
               rw [List.getElem?_append_left (List.getElem?_eq_some_iff.1 hp1).1]; exact hp1
              obtain ⟨L3', hL3', hLR3⟩ := zut A3.rel hl3 hp3
              have s13 := (s1.trans s2).trans s3
              have done : ∀ (x : AEx) (j : Option Code) (st : LoopState) (pend : Option AEx), j = pend.map zue → st = (if j.isNone then .ready else .done) → v = .bool j.isNone → h' = h3.set l (.lp { L3 with st := st, pend := pend }) →
               ∃ v' w', (Instr.endRound p.blk j).run P w3 = .ok v' w' ∧ zvb W0 σ h w v h' (.returned v') w' := by
               rintro x j st pend hj rfl rfl rfl
               obtain ⟨R4, s4⟩ := A3.rel.setLoop (L2 := { L3 with st := (if j.isNone then .ready else .done), pend := pend }) (L2' := { L3' with state := (if j.isNone then .ready else .done), pending := j }) hl3 hp3
                ⟨rfl, hj, hLR3.env, hLR3.ps, hLR3.asg, hLR3.body⟩
               refine ⟨.bool j.isNone, w3.putObj p.blk (.loop { L3' with state := (if j.isNone then .ready else .done), pending := j }), ?_, _, σ3, rfl, s13.trans s4, R4, .bool _⟩
               simp [Instr.endRound, zgC hL3', zgA hL3']
              cases e with
              | norm =>
               simp only [Option.some.injEq, Prod.mk.injEq] at hk3
               exact done .norm none _ none rfl rfl hk3.1.symm hk3.2.symm
              | exit i =>
               simp only [Option.some.injEq, Prod.mk.injEq] at hk3
               exact done .norm (some (.exit i)) _ (some (.exit i)) rfl rfl hk3.1.symm hk3.2.symm
              | ret =>
               simp only [Option.some.injEq, Prod.mk.injEq] at hk3
               exact done .norm (some .ret) _ (some .ret) rfl rfl hk3.1.symm hk3.2.symm
            · simp at hk3
        · simp at hk
      · simp at hk
   · simp at ha
 · simp at ha

end Go.Abs

end

section
/- Loops, so many rounds; tables of what calls do; a call told of less memory than there is. -/
set_option autoImplicit false
set_option linter.unusedVariables false
set_option linter.unusedSimpArgs false
namespace Go.Abs
variable {P : Program} {W0 : World} {σ : Sig} {h : zaa} {w : World}


theorem zrq : ∀ {keep : List Bool} {env : Env} {m : List Value}, VRs σ env m → VRs σ (zb5 keep env) m
 | [], env, m, h => by cases env <;> simpa [zb5] using h
 | b :: bs, [], m, h => by cases h; exact .nil
 | b :: bs, v :: env, _, .cons _ v' _ m h t => by
  simp only [zb5]
  refine .cons _ _ _ _ ?_ (zrq t)
  cases b
  · exact .any _
  · exact h

theorem At.keep {B : Nat} {env : Env} {a : Act} (A : At W0 B σ h env a w) (keep : List Bool) : At W0 B σ h (zb5 keep env) a w := ⟨A.rel, zrq A.env, A.marks⟩

noncomputable def zmm (P : Program) (CALL : CallT) (LS : zcQ) (c : Code) (env : Env) (h : zaa) : Option (AEx × Env × zaa) := zbb P CALL LS c env h fun e env h => some (e, env, h)

theorem zii {p : Nat → Prop} (h : ∃ n, p n) : ∃ n, p n ∧ ∀ k, p k → n ≤ k := by
 obtain ⟨n, hn⟩ := h
 induction n using Nat.strongRecOn with
 | _ n ih =>
  by_cases hex : ∃ k, k < n ∧ p k
  · obtain ⟨k, hk, hp⟩ := hex; exact ih k hk hp
  · exact ⟨n, hn, fun k hk => Nat.le_of_not_lt fun hlt => hex ⟨k, hlt, hk⟩⟩

theorem ziP {CALL : CallT} (SC : zcg P CALL) {LS : zcQ} {c : Code} (hL : zcU P LS c) {s : LoopF}
 (hs : ∀ env h x, s.get env h = some x → ∃ keep j, zjE (zmm P CALL LS c) keep j env h = some x) : zcy P s c := by
 intro W0 B σ h env a w e env' h' hx A n Q hQ
 obtain ⟨keep, j, hj⟩ := hs env h _ hx
 let J : Nat → Act → World → Prop := fun j a1 w1 => ∃ σ1 h1 env1, zjE (zmm P CALL LS c) keep j env1 h1 = some (e, env', h') ∧ At W0 B σ1 h1 env1 a1 w1 ∧ Stp σ h w σ1 h1 w1
 let I : Act → World → Prop := fun a1 w1 => ∃ j, J j a1 w1
 classical
 let μ : Act → World → Nat := fun a1 w1 => if hI : I a1 w1 then Classical.choose (zii hI) else 0
 refine wpIn_loop I μ ⟨j, σ, h, env, hj, A, Stp.refl _ _ _⟩ fun a1 w1 hI => ?_
 have hmin := (Classical.choose_spec (zii hI)).1
 have hμ : μ a1 w1 = Classical.choose (zii hI) := by simp only [μ, dif_pos hI]
 generalize Classical.choose (zii hI) = j1 at hmin hμ
 obtain ⟨σ1, h1, env1, hl, A1, s1⟩ := hmin
 cases j1 with
 | zero => simp [zjE] at hl
 | succ j1 =>
  simp only [zjE, Option.bind_eq_some_iff] at hl
  obtain ⟨⟨e2, env2, h2⟩, hb, hk⟩ := hl
  refine zf4 (ro := none) SC c (.inl rfl) hL hb (A1.keep keep) fun e3 env3 h3 σ3 a3 w3 hk3 s3 A3 => ?_
  simp only [Option.some.injEq, Prod.mk.injEq] at hk3
  obtain ⟨rfl, rfl, rfl⟩ := hk3
  cases e3 with
  | norm =>
   simp only at hk
   have hJ : J j1 a3 w3 := ⟨σ3, h3, env3, hk, A3, s1.trans s3⟩
   have hI3 : I a3 w3 := ⟨j1, hJ⟩
   refine ⟨hI3, ?_⟩
   rw [hμ]
   have : μ a3 w3 = Classical.choose (zii hI3) := by simp only [μ, dif_pos hI3]
   rw [this]
   exact Nat.lt_succ_of_le ((Classical.choose_spec (zii hI3)).2 _ hJ)
  | exit i =>
   simp only [Option.some.injEq, Prod.mk.injEq] at hk
   obtain ⟨rfl, rfl, rfl⟩ := hk
   exact hQ _ _ _ (s1.trans s3) (A3.keep keep)
  | ret =>
   simp only [Option.some.injEq, Prod.mk.injEq] at hk
   obtain ⟨rfl, rfl, rfl⟩ := hk
   exact hQ _ _ _ (s1.trans s3) (A3.keep keep)


def SoundE (P : Program) (f : FuncId) (E : Ent) : Prop :=
 ∀ {W0 : World} {σ : Sig} {h : zaa} {w : World} {args : List AV} {args' : Array Value} {v : AV} {h' : zaa}, E.get args h = some (v, h') → Rel W0 σ h w → VRs σ args args'.toList →
  (∃ fd, P.funcs[f]? = some fd ∧ fd.name ≠ "runtime.NumGoroutine" ∧ fd.body.isSome = true) ∧ ∀ n, CallsIn Fence.wide n P f args' w (zvb W0 σ h w v h')

theorem SoundE.mono {f : FuncId} {E E' : Ent} (hE : SoundE P f E) (h : ∀ args h x, E'.get args h = some x → E.get args h = some x) : SoundE P f E' :=
 fun hx R hv => hE (h _ _ _ hx) R hv

theorem zeA {CALL : CallT} (SC : zcg P CALL) {LS : zcQ} {f : FuncId} (hL : ∀ fd c, P.funcs[f]? = some fd → fd.body = some c → zcU P LS c) : SoundE P f (zk0 P CALL LS f) :=
 fun hx R hv => zuL SC hL hx R hv

theorem zeq {LS : zcQ} {c : Code} (h : za0 c = []) : zcU P LS c := fun b hb => by rw [h] at hb; cases hb

abbrev Tbl := List (Nat × Ent)

def Tbl.find : Tbl → Nat → Option Ent
 | [], _ => none
 | (g, E) :: t, f => if g = f then some E else Tbl.find t f

noncomputable def zlc (P : Program) (yl : CallT) (t : Tbl) {R : Type} (fn : Fn) (args : List AV) (h : zaa) (K : AV → zaa → Option R) : Option R :=
 match fn with
 | .func f => match t.find f with
  | some E => E.run args h K
  | none => none
 | .yield l => zdy P yl l args h K
 | _ => none

noncomputable def zm1 (P : Program) (yl : CallT) (t : Tbl) : CallT where
 run := zlc P yl t
 nat := fun fn args h K => by
  cases fn with
  | func f =>
   simp only [zlc]
   split
   · rename_i E _; exact E.nat args h K
   · rfl
  | yield l => exact zkM P yl l args h K
  | _ => rfl

def zlk : CallT where
 run := fun _ _ _ _ => none
 nat := fun _ _ _ _ => rfl

theorem zhq : zcg P zlk := fun hx => by simp [zlk, CallT.get] at hx

theorem zh1 {yl : CallT} (hy : zcg P yl) {t : Tbl} (ht : ∀ f E, t.find f = some E → SoundE P f E) : zcg P (zm1 P yl t) := by
 intro W0 σ h w fn args args' v h' hx R hv
 cases fn with
 | func f =>
  simp only [zm1, CallT.get, zlc] at hx
  split at hx
  · rename_i E hE; exact ht f E hE hx R hv
  · simp at hx
 | yield l => exact fun p hp => zjG hy hx R hv hp
 | _ => simp [zm1, CallT.get, zlc] at hx

theorem zar (P : Program) : ∀ f E, Tbl.find [] f = some E → SoundE P f E := fun f E h => by simp [Tbl.find] at h

theorem zal {g : Nat} {E0 : Ent} {t : Tbl} (h0 : SoundE P g E0) (ht : ∀ f E, Tbl.find t f = some E → SoundE P f E) : ∀ f E, Tbl.find ((g, E0) :: t) f = some E → SoundE P f E := fun f E h => by
 simp only [Tbl.find] at h
 split at h
 · rename_i hg; subst hg; simp at h; subst h; exact h0
 · exact ht f E h

end Go.Abs

end
