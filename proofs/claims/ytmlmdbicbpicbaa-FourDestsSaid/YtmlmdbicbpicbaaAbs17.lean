/- A region whose order is drawn, third part: the machine's walk. -/
import Derived.Test.YtmlmdbicbpicbaaAbs16
import Derived.OrdersIn
set_option autoImplicit false
set_option linter.unusedVariables false
set_option linter.unusedSimpArgs false
namespace Go.Abs
variable {P : Program} {W0 : World}

theorem lst_set {listed : Array Bool} {i j : Nat} (hi : i < listed.size) : Lst (listed.setIfInBounds i true) j ↔ Lst listed j ∨ j = i := by
  unfold Lst
  simp only [Array.getD_eq_getD_getElem?]
  by_cases e : i = j
  · subst e; simp [hi]
  · simp [e, Ne.symm e]

theorem lst_getD {listed : Array Bool} {j : Nat} (hj : j < listed.size) (b : Bool) : listed.getD j b = listed.getD j false := by
  simp [Array.getD_eq_getD_getElem?, hj]

theorem ready_none {md : Region.Mode} {ops : Array Oper} {listed : Array Bool} (D : ∃ rk : Nat → Nat, ∀ (j : Nat) o, ops.toList[j]? = some o → ∀ e ∈ o.after.toList, Region.binds md e = true → e.on < ops.toList.length ∧ rk e.on < rk j) (hs : listed.size = ops.size) (hr : Region.ready md ops listed = []) :
    ∀ j, j < ops.size → Lst listed j := by
  obtain ⟨rk, D⟩ := D
  have key : ∀ (r j : Nat), rk j = r → j < ops.size → Lst listed j := by
    intro r
    induction r using Nat.strongRecOn with
    | _ r ih =>
      intro j hrj hj
      by_cases hl : Lst listed j
      · exact hl
      · exfalso
        have : j ∈ Region.ready md ops listed := by
          rw [mem_ready]
          refine ⟨?_, ops[j], by simp [hj], fun e he hb => ?_⟩
          · rw [lst_getD (by omega)]
            unfold Lst at hl; simpa using hl
          · obtain ⟨h1, h2⟩ := D j ops[j] (by simp [hj]) e (by simpa using he) hb
            exact ih (rk e.on) (by omega) e.on rfl (by simpa using h1)
        rw [hr] at this
        cases this
  exact fun j => key _ j rfl

/-! ### Blocks that are made ahead of their turn -/

theorem run_buildSlice {h : AHeap} {σ : Sig} {t : TypeId} {n : Nat} {ps : List (Nat × AV)} {qs : Array (Nat × Value)} {v : AV} {h' : AHeap} (hp : PartsR σ ps qs.toList) (hb : abuildSlice P h t n ps = some (v, h')) (w : World) :
    ∃ (cs : List AV) (sz : Nat) (arr : Array Value) (e : TypeId), v = .sl (some (h.length, 0)) n 0 false ∧ h' = h ++ [.cells cs sz .own none] ∧ VRs σ cs arr.toList ∧
      (Instr.buildSlice t n qs).run P w = .ok (.slice (some ⟨w.heap.size, 0, none⟩) n n) (w.alloc (.cells arr e)) := by
  unfold abuildSlice at hb
  split at hb
  · simp at hb
  · rename_i e he
    split at hb
    · rename_i sz z hsz hz
      split at hb
      · rename_i zc hzc
        split at hb
        · rename_i hc
          simp only [Option.map_eq_some_iff] at hb
          obtain ⟨cs, hcs, hb⟩ := hb
          simp at hb
          obtain ⟨rfl, rfl⟩ := hb
          obtain ⟨zv, hz1, hz2⟩ := run_zeroA hz σ w
          have hzv := cells_vr hz2 hzc
          have hzs : zv.cells.size = sz := by rw [← Array.length_toList, ← hzv.length, hc.1]
          obtain ⟨rs, h1, h2⟩ := sim_fill hp.1 hp.2 (zrep_vr hzv n) hcs
          refine ⟨cs, sz, rs.toArray, e, rfl, rfl, by simpa using h2, ?_⟩
          have hrep := rep_list zv.cells (by omega) n
          rw [hzs] at hrep
          have harr : ((Array.range (n * sz)).map fun i => zv.cells[i % sz]!) = (List.replicate n zv.cells.toList).flatten.toArray := by
            apply Array.ext'; rw [hrep]
          have hno : ¬ (n * sz > 2 ^ 24) := by omega
          simp only [Instr.buildSlice, Sem.run_bind, run_underlying (sliceElem_some he), Result.andThen_ok, run_sizeA hsz, Sem.run_ite, hno, if_false]
          by_cases h0 : n * sz = 0
          · have hn : n = 0 := by
              rcases Nat.mul_eq_zero.1 h0 with h | h
              · exact h
              · omega
            subst hn
            have e0 : ∀ f : Nat → Value, Array.map f (Array.range 0) = #[] := fun f => by apply Array.ext'; simp
            simp only [Nat.zero_mul, List.replicate_zero, List.flatten_nil, if_true, Sem.run_pure, Result.andThen_ok, e0] at h1 ⊢
            simp [h1, newRow]
          · simp only [h0, if_false, Sem.run_bind, hz1, Result.andThen_ok, Sem.run_pure, hzs, harr, h1]
            simp [newRow]
        · simp at hb
      · simp at hb
    · simp at hb

/-- What a late operation adds, whatever memory it is told of. -/
theorem late_goes {CALL : CallT} {o : Oper} {env : Env} {hx : AHeap} {v : AV} {h' : AHeap} (hl : late o.op = true) (hg : GoesX P CALL hx env o v h') {σ : Sig} {a : Act} (hE : VRs σ env a.tmps.toList) (w : World) :
    ∃ (cs : List AV) (sz : Nat) (arr : Array Value) (t : TypeId) (mk : Addr → Value), h' = hx ++ [.cells cs sz .own none] ∧ VRs σ cs arr.toList ∧
      (∀ (σ' : Sig) (r : Nat), σ'[hx.length]? = some ⟨r, 0, 0⟩ → VR σ' v (mk ⟨r, 0, none⟩)) ∧
      (execOp a.eval o).run P w = .ok (.value (mk ⟨w.heap.size, 0, none⟩)) (w.alloc (.cells arr t)) := by
  have hx1 := hg (R := AV × AHeap) (fun v h => some (v, h))
  unfold aexec at hx1
  rw [aop_eq] at hx1
  unfold aop0 at hx1
  cases ho : o.op <;> simp [ho, late] at hl
  case alloc t =>
    simp only [ho] at hx1
    obtain ⟨⟨v1, h1⟩, hv, hk⟩ := Option.bind_eq_some_iff.1 hx1
    simp only [Option.some.injEq, Prod.mk.injEq] at hk
    obtain ⟨rfl, rfl⟩ := hk
    unfold aalloc at hv
    split at hv
    · rename_i z hz
      obtain ⟨zv, h1, h2⟩ := run_zeroA hz σ w
      unfold abox at hv
      split at hv
      · rename_i xs n hxs hsz
        simp at hv
        obtain ⟨rfl, rfl⟩ := hv
        refine ⟨xs, n, zv.cells, t, fun ad => .pointer (some ad), rfl, cells_vr h2 hxs, fun σ' r hr => ?_, ?_⟩
        · have := VR.ptr hx.length 0 ⟨r, 0, 0⟩ hr
          simpa using this
        · simp only [execOp, ho]
          simp [Instr.alloc, Instr.box, h1, newVar, newRow]
      · simp at hv
    · simp at hv
  case buildSlice t n ps =>
    simp only [ho] at hx1
    obtain ⟨⟨v1, h1⟩, hb, hk⟩ := Option.bind_eq_some_iff.1 hx1
    simp only [Option.some.injEq, Prod.mk.injEq] at hk
    obtain ⟨rfl, rfl⟩ := hk
    obtain ⟨cs, sz, arr, e, rfl, rfl, h2, h3⟩ := run_buildSlice (aev_parts hE ps) hb w
    refine ⟨cs, sz, arr, e, fun ad => .slice (some ad) n n, rfl, h2, fun σ' r hr => ?_, ?_⟩
    · exact .sl _ _ _ _ _ _ ⟨r, 0, none⟩ n hr (Nat.le_refl _) (by simp [capOf]) (.inl (by simp))
    · simp only [execOp, ho]
      simp only [Sem.run_bind, h3, Result.andThen_ok, Sem.run_pure]

/-- A block that was made ahead of its turn is told of. -/
theorem Rel.tell {h : AHeap} {σ : Sig} {w : World} (R : Rel W0 σ h w) {r : Nat} {cs : List AV} {sz : Nat} {arr : Array Value} {t : TypeId} (hv : VRs σ cs arr.toList) (hr : w.heap[r]? = some (.cells arr t (0, 0)))
    (h0 : W0.heap.size ≤ r) (hn : ¬ Own h σ r) : Rel W0 (σ ++ [⟨r, 0, 0⟩]) (h ++ [.cells cs sz .own none]) w := by
  have key : ∀ {i : Nat} {b' : ABlk} {p : Plc}, (h ++ [ABlk.cells cs sz .own none])[i]? = some b' → (σ ++ [⟨r, 0, 0⟩])[i]? = some p →
      (h[i]? = some b' ∧ σ[i]? = some p) ∨ (i = h.length ∧ b' = .cells cs sz .own none ∧ p = ⟨r, 0, 0⟩) := by
    intro i b' p h1 h2
    rcases Nat.lt_or_ge i h.length with hi | hi
    · rw [List.getElem?_append_left hi] at h1
      rw [List.getElem?_append_left (by rw [R.len]; exact hi)] at h2
      exact .inl ⟨h1, h2⟩
    · have hi' := (List.getElem?_eq_some_iff.1 h1).1
      simp at hi'
      have e : i = h.length := by omega
      subst e
      rw [List.getElem?_append_right (by simp)] at h1
      rw [List.getElem?_append_right (by rw [R.len]; simp)] at h2
      simp [R.len] at h1 h2
      exact .inr ⟨rfl, h1.symm, h2.symm⟩
  refine ⟨by simp [R.len], ?_, ?_, ?_, ?_, R.below⟩
  · intro i b' p h1 h2
    rcases key h1 h2 with ⟨h1, h2⟩ | ⟨rfl, rfl, rfl⟩
    · exact (R.obj h1 h2).grow _
    · by_cases h0 : cs = []
      · exact .inl ⟨h0, fun _ => rfl⟩
      · have hl := hv.length
        exact .inr ⟨h0, arr, t, (0, 0), hr, by simpa [List.take_of_length_le, hl] using hv.grow _, fun _ => ⟨fun j _ _ => by simp, by simp [hl]⟩⟩
  · intro i vs e par p h1 h2
    rcases key h1 h2 with ⟨h1, h2⟩ | ⟨rfl, e2, rfl⟩
    · exact R.far h1 h2
    · simp at e2
  · intro i b' p h1 h2 hb
    rcases key h1 h2 with ⟨h1, h2⟩ | ⟨rfl, rfl, rfl⟩
    · exact R.own h1 h2 hb
    · exact h0
  · intro i j b1 b2 p q hij h1 h2 h3 h4 hb1 hb2 hpq
    rcases key h1 h3 with ⟨k1, k3⟩ | ⟨e1, e2, e3⟩
    · rcases key h2 h4 with ⟨k2, k4⟩ | ⟨f1, f2, f3⟩
      · exact R.sep hij k1 k2 k3 k4 hb1 hb2 hpq
      · exact absurd ⟨i, b1, p, k1, k3, hb1, by rw [hpq, f3]⟩ hn
    · rcases key h2 h4 with ⟨k2, k4⟩ | ⟨f1, f2, f3⟩
      · exact absurd ⟨j, b2, q, k2, k4, hb2, by rw [← hpq, e3]⟩ hn
      · omega

/-- A block is made that is not told of. -/
theorem Rel.hide {h : AHeap} {σ : Sig} {w : World} (R : Rel W0 σ h w) (o : Obj) : Rel W0 σ h (w.alloc o) ∧ Stp σ h w σ h (w.alloc o) := by
  have hold : ∀ k, k < w.heap.size → (w.alloc o).heap[k]? = w.heap[k]? := fun k hk => RowKit.Below.heap_alloc w o k hk
  refine ⟨⟨R.len, fun h1 h2 => (R.obj h1 h2).keep fun hd => hold _ ((R.obj h1 h2).lt hd), R.far, R.own, R.sep, R.below.alloc R.below.size o⟩, ⟨⟨[], by simp⟩, fun _ h => .inl h, fun k hk _ => hold k hk, by simp⟩⟩

/-- What stands in the slots; those of what was made ahead of its turn, whatever. -/
structure EnvP (ops : List Oper) (T : List Rec) (env0 : Env) (S D : Nat → Prop) (env : Env) : Prop where
  len : env.length = env0.length
  wrote : ∀ (j : Nat) o x t, S j → ¬ D j → ops[j]? = some o → T[j]? = some x → o.dst = some t → env[t]? = some x.v
  else_ : ∀ t, (∀ (j : Nat) o, S j → ops[j]? = some o → o.dst ≠ some t) → env[t]? = env0[t]?

theorem EnvP.put {ops : List Oper} {n : Nat} (D : DOk P ops n) {T : List Rec} {env0 : Env} (hn : env0.length = n) {S S' Dp Dp' : Nat → Prop} {env : Env} (E : EnvP ops T env0 S Dp env) {i : Nat} {o : Oper} {x : Rec}
    (ho : ops[i]? = some o) (hx : T[i]? = some x) (hS : ∀ j, S' j ↔ S j ∨ j = i) {u : AV} (hu : ¬ Dp' i → u = x.v) (hD : ∀ j, j ≠ i → S j → ¬ Dp' j → ¬ Dp j) : EnvP ops T env0 S' Dp' (aput env o.dst u) := by
  have hlen : (aput env o.dst u).length = env.length := by cases o.dst <;> simp [aput]
  refine ⟨by rw [hlen]; exact E.len, fun j o' y t hj hdj ho' hy hd => ?_, fun t ht => ?_⟩
  · by_cases hji : j = i
    · subst hji
      rw [ho] at ho'; cases ho'; rw [hx] at hy; cases hy
      rw [hd, hu hdj]; simp only [aput]
      have := D.lt _ _ _ ho hd
      simp [E.len, hn, this]
    · have hj' : S j := by rcases (hS j).1 hj with h | h; exact h; exact absurd h hji
      have h1 := E.wrote j o' y t hj' (hD j hji hj' hdj) ho' hy hd
      cases hod : o.dst with
      | none => simpa [aput] using h1
      | some d =>
        have : d ≠ t := fun e => D.once i j o' o t ho' ho (Ne.symm hji) hd (by rw [hod, e])
        simp [aput, this, h1]
  · have h1 := E.else_ t fun j o' hj ho' => ht j o' ((hS j).2 (.inl hj)) ho'
    have h2 := ht i o ((hS i).2 (.inr rfl)) ho
    cases hod : o.dst with
    | none => simpa [aput] using h1
    | some d =>
      have : d ≠ t := fun e => h2 (by rw [hod, e])
      simp [aput, this, h1]

theorem EnvP.agree {ops : List Oper} {T : List Rec} {env0 : Env} {S S' Dp : Nat → Prop} {env env' : Env} (E : EnvIs ops T env0 S env) (E' : EnvP ops T env0 S' Dp env') (hT : T.length = ops.length) {t : Nat}
    (hS : ∀ (j : Nat) o, ops[j]? = some o → o.dst = some t → (S j ↔ S' j) ∧ ¬ Dp j) : env[t]? = env'[t]? := by
  by_cases hex : ∃ (j : Nat) (o : Oper), S j ∧ ops[j]? = some o ∧ o.dst = some t
  · obtain ⟨j, o, hj, ho, hd⟩ := hex
    have hlt : j < T.length := by rw [hT]; exact (List.getElem?_eq_some_iff.1 ho).1
    rw [E.wrote j o _ t hj ho (List.getElem?_eq_getElem hlt) hd, E'.wrote j o _ t ((hS j o ho hd).1.1 hj) (hS j o ho hd).2 ho (List.getElem?_eq_getElem hlt) hd]
  · rw [E.else_ t fun j o hj ho hd => hex ⟨j, o, hj, ho, hd⟩, E'.else_ t fun j o hj ho hd => hex ⟨j, o, (hS j o ho hd).1.2 hj, ho, hd⟩]

/-- It was made ahead of its turn: its block lies in memory, its slot holds it. -/
def PendOk (ops : Array Oper) (T : List Rec) (w0 : World) (h : AHeap) (σ : Sig) (a : Act) (w : World) (c r : Nat) : Prop :=
  ∃ (x : Rec) (o : Oper) (cs : List AV) (sz : Nat) (arr : Array Value) (t : TypeId) (mk : Addr → Value), T[c]? = some x ∧ ops.toList[c]? = some o ∧ x.h' = x.h ++ [.cells cs sz .own none] ∧ VRs σ cs arr.toList ∧
    (∀ (σ' : Sig) (r : Nat), σ'[x.h.length]? = some ⟨r, 0, 0⟩ → VR σ' x.v (mk ⟨r, 0, none⟩)) ∧ w.heap[r]? = some (.cells arr t (0, 0)) ∧ w0.heap.size ≤ r ∧ ¬ Own h σ r ∧
    ∀ d, o.dst = some d → a.tmps[d]? = some (mk ⟨r, 0, none⟩)

theorem put_other {a : Act} {e : Option Tmp} {d : Nat} {v : Value} (h : e ≠ some d) : (a.put e v).tmps[d]? = a.tmps[d]? := by
  cases e with
  | none => rfl
  | some e =>
    have : e ≠ d := fun x => h (by rw [x])
    simp [Act.put, Array.getElem?_setIfInBounds, this]

theorem PendOk.step {ops : Array Oper} {n : Nat} (D : DOk P ops.toList n) {T : List Rec} {w0 : World} {h h' : AHeap} {σ σ' : Sig} {a : Act} {w w' : World} {c r : Nat} (p : PendOk ops T w0 h σ a w c r) (s : Stp σ h w σ' h' w')
    {i : Nat} {o : Oper} (ho : ops.toList[i]? = some o) (hi : i ≠ c) (v : Value) : PendOk ops T w0 h' σ' (a.put o.dst v) w' c r := by
  obtain ⟨x, oc, cs, sz, arr, t, mk, h1, h2, h3, h4, h5, h6, h7, h8, h9⟩ := p
  have hr : r < w.heap.size := (Array.getElem?_eq_some_iff.1 h6).1
  refine ⟨x, oc, cs, sz, arr, t, mk, h1, h2, h3, s.vrs h4, h5, by rw [s.same r hr h8]; exact h6, h7, fun ho => ?_, fun d hd => ?_⟩
  · rcases s.own r ho with k | k
    · exact h8 k
    · omega
  · rw [put_other fun e => D.once i c oc o d h2 ho hi hd e]
    exact h9 d hd

/-- Where the walk stands: so many are done; the slots and memory are what the text's order says. -/
structure St (P : Program) (ops : Array Oper) (env0 : Env) (T : List Rec) (hE : AHeap) (w0 : World) (listed : Array Bool) (env : Env) (h : AHeap) (σ : Sig) (a : Act) (w : World) (q : Nat) : Prop where
  size : listed.size = ops.size
  closed : ∀ (j : Nat) o, Lst listed j → ops.toList[j]? = some o → ∀ e ∈ edgesOf o, Lst listed e.on
  env : EnvP ops.toList T env0 (Lst listed) (fun c => Hv P ops T c ∧ Lst listed c ∧ q ≤ c) env
  heap : h = HP T hE q
  le : q ≤ ops.size
  row : ∀ c, Hv P ops T c → c < q → Lst listed c
  pend : ∃ rr : Nat → Nat, (∀ c, Hv P ops T c → Lst listed c → q ≤ c → PendOk ops T w0 h σ a w c (rr c)) ∧
    ∀ c c', Hv P ops T c → Lst listed c → q ≤ c → Hv P ops T c' → Lst listed c' → q ≤ c' → c ≠ c' → rr c ≠ rr c'

theorem vrs_put {σ : Sig} {env : Env} {l : List Value} (h : VRs σ env l) {d : Option Tmp} {v : AV} {v' : Value} (hv : VR σ v v') (hl : ∀ k, d = some k → l[k]? = some v') : VRs σ (aput env d v) l := by
  cases d with
  | none => exact h
  | some k =>
    have h1 := h.set k hv
    have h2 := hl k rfl
    have e : l.set k v' = l := by
      apply List.ext_getElem?
      intro j
      rw [List.getElem?_set]
      split
      · rename_i hj
        subst hj
        rw [h2]
        have := (List.getElem?_eq_some_iff.1 h2).1
        simp [this]
      · rfl
    rw [e] at h1
    exact h1

/-- What was made ahead of its turn is told of when its turn is there. -/
theorem advance {CALL : CallT} {ops : Array Oper} {env0 : Env} {h0 : AHeap} {T : List Rec} {envE : Env} {hE : AHeap} (D : DOk P ops.toList env0.length) (t : TOk P CALL ops.toList env0 h0 T envE hE) (hT : T.length = ops.size)
    {B : Nat} {σ0 : Sig} {hh0 : AHeap} {w0 : World} {listed : Array Bool} {a : Act} {w : World} (hw0 : W0.heap.size ≤ w0.heap.size) :
    ∀ (m : Nat) {env : Env} {h : AHeap} {σ : Sig} {q : Nat}, ops.size - q ≤ m → At W0 B σ h env a w → Stp σ0 hh0 w0 σ h w → St P ops env0 T hE w0 listed env h σ a w q →
      ∃ env' h' σ' q', At W0 B σ' h' env' a w ∧ Stp σ0 hh0 w0 σ' h' w ∧ St P ops env0 T hE w0 listed env' h' σ' a w q' ∧ (q' < ops.size → Hv P ops T q' ∧ ¬ Lst listed q')
  | m, env, h, σ, q, hm, A, s, S => by
    by_cases hq : q < ops.size
    case neg => exact ⟨env, h, σ, q, A, s, S, fun h => absurd h hq⟩
    obtain ⟨m, rfl⟩ : ∃ k, m = k + 1 := ⟨m - 1, by omega⟩
    by_cases hv : Hv P ops T q
    · by_cases hl : Lst listed q
      · obtain ⟨rr, h1, h2⟩ := S.pend
        obtain ⟨x, o, cs, sz, arr, ty, mk, k1, k2, k3, k4, k5, k6, k7, k8, k9⟩ := h1 q hv hl (Nat.le_refl _)
        have exh : h = x.h := by rw [S.heap]; simp [HP, k1]
        obtain ⟨_, _, _, _, _, _, h6⟩ := t.all q x k1
        have R' := A.rel.tell (sz := sz) k4 k6 (Nat.le_trans hw0 k7) k8
        have hnew : (σ ++ [(⟨rr q, 0, 0⟩ : Plc)])[x.h.length]? = some ⟨rr q, 0, 0⟩ := by rw [← exh, ← A.rel.len]; simp
        have hown : ∀ b, Own (h ++ [ABlk.cells cs sz .own none]) (σ ++ [(⟨rr q, 0, 0⟩ : Plc)]) b → Own h σ b ∨ b = rr q := by
          rintro b ⟨i, blk, p, e1, e2, e3, e4⟩
          rcases Nat.lt_or_ge i h.length with hi | hi
          · rw [List.getElem?_append_left hi] at e1
            rw [List.getElem?_append_left (by rw [A.rel.len]; exact hi)] at e2
            exact .inl ⟨i, blk, p, e1, e2, e3, e4⟩
          · have hi' := (List.getElem?_eq_some_iff.1 e1).1
            simp at hi'
            have e : i = h.length := by omega
            subst e
            rw [List.getElem?_append_right (by rw [A.rel.len]; simp)] at e2
            simp [A.rel.len] at e2
            subst e2
            exact .inr e4.symm
        refine advance D t hT hw0 m (env := aput env o.dst x.v) (h := h ++ [.cells cs sz .own none]) (σ := σ ++ [⟨rr q, 0, 0⟩]) (q := q + 1) (by omega) ⟨R', ?_, A.marks⟩ ?_ ?_
        · exact vrs_put (A.env.grow _) (k5 _ _ hnew) fun k hk => by rw [Array.getElem?_toList]; exact k9 k hk
        · obtain ⟨τ, hτ⟩ := s.ext
          refine ⟨⟨τ ++ [⟨rr q, 0, 0⟩], by rw [hτ]; simp⟩, fun b hb => ?_, s.same, s.size⟩
          rcases hown b hb with k | rfl
          · exact s.own b k
          · exact .inr k7
        · refine ⟨S.size, S.closed, ?_, ?_, hq, fun c hc hlt => ?_, rr, fun c hc hlc hle => ?_, fun c c' a1 a2 a3 a4 a5 a6 => h2 c c' a1 a2 (by omega) a4 a5 (by omega)⟩
          · refine S.env.put D rfl k2 k1 (fun j => ⟨.inl, fun k => ?_⟩) (fun _ => rfl) fun j hj hS hn hd => ?_
            · rcases k with k | rfl
              · exact k
              · exact hl
            · exact hn ⟨hd.1, hd.2.1, by have := hd.2.2; omega⟩
          · rw [h6, k3, exh]
          · by_cases hcq : c = q
            · subst hcq; exact hl
            · exact S.row c hc (by omega)
          · obtain ⟨x', o', cs', sz', arr', ty', mk', p1, p2, p3, p4, p5, p6, p7, p8, p9⟩ := h1 c hc hlc (by omega)
            refine ⟨x', o', cs', sz', arr', ty', mk', p1, p2, p3, p4.grow _, p5, p6, p7, fun ho => ?_, p9⟩
            rcases hown _ ho with k | k
            · exact p8 k
            · exact h2 c q hc hlc (by omega) hv hl (Nat.le_refl _) (by omega) k
      · exact ⟨env, h, σ, q, A, s, S, fun _ => ⟨hv, hl⟩⟩
    · have e := HP_step t (c := q) (by omega) hv
      obtain ⟨rr, h1, h2⟩ := S.pend
      refine advance D t hT hw0 m (q := q + 1) (by omega) A s ⟨S.size, S.closed, ?_, by rw [e]; exact S.heap, hq, fun c hc hlt => ?_, rr, fun c hc hlc hle => h1 c hc hlc (by omega), fun c c' a1 a2 a3 a4 a5 a6 => h2 c c' a1 a2 (by omega) a4 a5 (by omega)⟩
      · refine ⟨S.env.len, fun j o x t hj hd => S.env.wrote j o x t hj fun hd' => hd ⟨hd'.1, hd'.2.1, ?_⟩, S.env.else_⟩
        have : j ≠ q := fun e => hv (e ▸ hd'.1)
        have := hd'.2.2
        omega
      · have : c ≠ q := fun e => hv (e ▸ hc)
        exact S.row c hc (by omega)

/-! ### The walk -/

theorem sim_any {CALL : CallT} (SC : SoundC P CALL) {ops : Array Oper} {env0 : Env} {h0 : AHeap} {T : List Rec} {envE : Env} {hE : AHeap} (D : DOk P ops.toList env0.length) (t : TOk P CALL ops.toList env0 h0 T envE hE)
    (hT : T.length = ops.size)
    (hlk : ∀ i c, (i, c) ∈ unordered P ops.toList → ∀ x y o, T[i]? = some x → T[c]? = some y → ops.toList[i]? = some o → x.ran = true → y.ran = true → alook P o x.env (if c < i then y.h else y.h') = some x.v)
    {ro : Option Nat} {n B : Nat} {Q : Exit → Act → World → Prop} (md : Region.Mode) {σ0 : Sig} {hh0 : AHeap} {w0 : World} (hw0 : W0.heap.size ≤ w0.heap.size)
    (hQ : ∀ σ' a' w', Stp σ0 hh0 w0 σ' hE w' → At W0 B σ' hE envE a' w' → Q .normal a' w') :
    ∀ (fuel : Nat) {listed : Array Bool} {a : Act} {w : World} {env : Env} {h : AHeap} {σ : Sig} {q : Nat}, listed.toList.count false ≤ fuel → At W0 B σ h env a w → Stp σ0 hh0 w0 σ h w → St P ops env0 T hE w0 listed env h σ a w q →
      (q < ops.size → Hv P ops T q ∧ ¬ Lst listed q) → wpAnyIn (FW ro) n P md ops Q fuel listed a w := by
  have hTl : T.length = ops.toList.length := by rw [hT]; simp
  have hback := fun (j : Nat) o (ho : ops.toList[j]? = some o) e he => (D.back j o ho e he).1
  -- all are done
  have fin : ∀ {listed : Array Bool} {a : Act} {w : World} {env : Env} {h : AHeap} {σ : Sig} {q : Nat}, At W0 B σ h env a w → Stp σ0 hh0 w0 σ h w → St P ops env0 T hE w0 listed env h σ a w q →
      (q < ops.size → Hv P ops T q ∧ ¬ Lst listed q) → (∀ j, j < ops.size → Lst listed j) → Q .normal a w := by
    intro listed a w env h σ q A s S top hall
    have hq : q = ops.size := by
      have := S.le
      by_cases hlt : q < ops.size
      · exact absurd (hall q hlt) (top hlt).2
      · omega
    subst hq
    have hh : h = hE := by rw [S.heap]; simp [HP, hT]
    have he : env = envE := by
      have E2 := EnvIs.text D rfl t hTl ops.size (by simp)
      have e3 : ENV T envE ops.size = envE := by simp [ENV, hT]
      rw [e3] at E2
      apply List.ext_getElem?
      intro s
      exact (EnvP.agree E2 S.env hTl fun j o ho hd => by
        have : j < ops.size := by simpa using (List.getElem?_eq_some_iff.1 ho).1
        exact ⟨⟨fun _ => hall j this, fun _ => this⟩, fun hd => by have := hd.2.2; omega⟩).symm
    subst hh; subst he
    exact hQ σ a w s A
  intro fuel
  induction fuel with
  | zero =>
    intro listed a w env h σ q hc A s S top
    have hall : ∀ j, j < ops.size → Lst listed j := by
      intro j hj
      have h0 : listed.toList.count false = 0 := by omega
      rw [List.count_eq_zero] at h0
      unfold Lst
      have hjl : j < listed.size := by rw [S.size]; exact hj
      cases hb : listed[j] with
      | true => simp [Array.getD_eq_getD_getElem?, hjl, hb]
      | false => exact absurd (by rw [← hb]; simp) h0
    refine ⟨?_, fin A s S top hall⟩
    cases hr : Region.ready md ops listed with
    | nil => rfl
    | cons i l =>
      exfalso
      have hi : i ∈ Region.ready md ops listed := by rw [hr]; simp
      obtain ⟨h1, o, ho, _⟩ := mem_ready.1 hi
      have hlt := (Array.getElem?_eq_some_iff.1 ho).1
      have := hall i hlt
      rw [lst_getD (by rw [S.size]; exact hlt)] at h1
      unfold Lst at this
      rw [h1] at this; cases this
  | succ fuel ih =>
    intro listed a w env h σ q hc A s S top
    refine ⟨fun hr => fin A s S top (ready_none (D.back0 md) S.size hr), fun i hi => ?_⟩
    obtain ⟨h1, o, ho, hdep⟩ := mem_ready.1 hi
    have hlt := (Array.getElem?_eq_some_iff.1 ho).1
    have hltl : i < listed.size := by rw [S.size]; exact hlt
    have hni : ¬ Lst listed i := by
      rw [lst_getD hltl] at h1
      unfold Lst; rw [h1]; simp
    have ho' : ops.toList[i]? = some o := by rw [Array.getElem?_toList]; exact ho
    have hx : T[i]? = some (T[i]'(by omega)) := List.getElem?_eq_getElem _
    generalize T[i]'(by omega) = x at hx
    have hdeps : ∀ e ∈ edgesOf o, Lst listed e.on := fun e he => hdep e (by unfold edgesOf at he; rw [List.mem_filter] at he; simpa using he.1) ((D.back i o ho' e he).2 md)
    have hclosed' : ∀ (j : Nat) o, Lst (listed.setIfInBounds i true) j → ops.toList[j]? = some o → ∀ e ∈ edgesOf o, Lst (listed.setIfInBounds i true) e.on := by
      intro j oj hj hoj e he
      rw [lst_set hltl] at hj ⊢
      rcases hj with hj | rfl
      · exact .inl (S.closed j oj hj hoj e he)
      · rw [ho'] at hoj; cases hoj; exact .inl (hdeps e he)
    -- who stands ahead of it is done
    have hah : ∀ c, ((aheadOf ops.toList).getD i 0).testBit c = true → c < i ∧ Lst listed c := fun c hor =>
      ahead_in hback (S := Lst listed) S.closed i (fun o2 ho2 e he => by rw [ho'] at ho2; cases ho2; exact hdeps e he) c hor
    have hah2 : ∀ k c, Lst listed k → ((aheadOf ops.toList).getD k 0).testBit c = true → Lst listed c := fun k c hk hor =>
      (ahead_in hback (S := Lst listed) S.closed k (fun o2 ho2 e he => S.closed k o2 hk ho2 e he) c hor).2
    -- who stands in order with it
    have hord : ∀ c, c < ops.size → c ≠ i → ordered (aheadOf ops.toList) i c = true → (Lst listed c ↔ c < i) := by
      intro c hc hci hor
      unfold ordered at hor
      rw [Bool.or_eq_true] at hor
      rcases hor with hor | hor
      · obtain ⟨h2, h3⟩ := hah c hor
        exact ⟨fun _ => h2, fun _ => h3⟩
      · constructor
        · intro hl
          exact absurd (hah2 c i hl hor) hni
        · intro hlt2
          exfalso
          have := (ahead_in hback (S := fun _ => True) (fun _ _ _ _ _ _ => trivial) c (fun _ _ _ _ => trivial) i hor).1
          omega
    -- what was made ahead of its turn does not stand ahead of it
    have hpend : ∀ c, Hv P ops T c → Lst listed c → q ≤ c → ordered (aheadOf ops.toList) i c = true → False := by
      intro c hv hl hqc hor
      have hcl : c < ops.size := by obtain ⟨oc, _, hoc, _⟩ := hv; simpa using (List.getElem?_eq_some_iff.1 hoc).1
      obtain ⟨hvq, hnq⟩ := top (by omega)
      have hne : q ≠ c := fun e => hnq (e ▸ hl)
      have hci : c ≠ i := fun e => hni (e ▸ hl)
      have hac : ((aheadOf ops.toList).getD i 0).testBit c = true := by
        unfold ordered at hor
        rw [Bool.or_eq_true] at hor
        rcases hor with hor | hor
        · exact hor
        · exact absurd (hah2 c i hl hor) hni
      obtain ⟨oq, xq, hoq, hxq, hrq, hhq⟩ := hvq
      obtain ⟨oc, xc, hoc, hxc, hrc, hhc⟩ := hv
      rcases D.row q c oc oq hoc hoq (by omega) hhc hhq with h2 | ⟨_, h2⟩
      · unfold ordered at h2
        rw [Bool.or_eq_true] at h2
        rcases h2 with h2 | h2
        · have := (ahead_in hback (S := fun _ => True) (fun _ _ _ _ _ _ => trivial) q (fun _ _ _ _ => trivial) c h2).1
          omega
        · exact hnq (hah2 c q hl h2)
      · exact hnq (hah q (h2 i hac)).2
    obtain ⟨o2, ho2, hgd, hrun, hskip, _, h6⟩ := t.all i x hx
    rw [ho'] at ho2; cases ho2
    have exe : ENV T envE i = x.env := by simp [ENV, hx]
    have exh : HP T hE i = x.h := by simp [HP, hx]
    have Et := EnvIs.text D rfl t hTl i (by simp; omega)
    rw [exe] at Et
    have hagree : ∀ s ∈ namesRead ops.toList o, x.env[s]? = env[s]? := by
      intro s hs
      refine EnvP.agree Et S.env hTl fun j oj hoj hd => ?_
      have hjl : j < ops.size := by simpa using (List.getElem?_eq_some_iff.1 hoj).1
      by_cases hji : j = i
      · subst hji
        exact ⟨⟨fun h => by omega, fun h => absurd h hni⟩, fun hd2 => hni hd2.2.1⟩
      · rcases D.names i j oj o s hoj ho' (Ne.symm hji) hd with h2 | h2
        · exact ⟨(hord j hjl hji h2).symm, fun hd2 => hpend j hd2.1 hd2.2.1 hd2.2.2 h2⟩
        · exact absurd hs h2
    have hgd' : Gd ops.toList o env x.ran := guard_agree hagree hgd
    have hopr := operand_agree hagree
    -- going on
    have hcnt : (listed.setIfInBounds i true).toList.count false ≤ fuel := by
      rw [Array.toList_setIfInBounds]
      have := count_set listed.toList i (by
        rw [Array.getElem?_toList, Array.getElem?_eq_getElem hltl]
        have : listed[i] = false := by simpa [Array.getD_eq_getD_getElem?, hltl] using h1
        rw [this])
      omega
    obtain ⟨rr, hp1, hp2⟩ := S.pend
    -- a step that changes nothing that is told of
    have light : ¬ Hv P ops T i → ∀ (σ' : Sig) (w' : World) (v' : Value), Stp σ h w σ' h w' → St P ops env0 T hE w0 (listed.setIfInBounds i true) (aput env o.dst x.v) h σ' (a.put o.dst v') w' q ∧
        (q < ops.size → Hv P ops T q ∧ ¬ Lst (listed.setIfInBounds i true) q) := by
      intro hnv σ' w' v' s'
      have hci : ∀ c, Hv P ops T c → c ≠ i := fun c hv e => hnv (e ▸ hv)
      have hl : ∀ c, Hv P ops T c → (Lst (listed.setIfInBounds i true) c ↔ Lst listed c) := fun c hv => by rw [lst_set hltl]; simp [hci c hv]
      refine ⟨⟨by simpa using S.size, hclosed', ?_, S.heap, S.le, fun c hv hlt => (hl c hv).2 (S.row c hv hlt), rr, fun c hv hlc hqc => ?_, fun c c' a1 a2 a3 a4 a5 a6 => hp2 c c' a1 ((hl c a1).1 a2) a3 a4 ((hl c' a4).1 a5) a6⟩, fun hq => ⟨(top hq).1, fun hk => (top hq).2 ((hl q (top hq).1).1 hk)⟩⟩
      · exact S.env.put D rfl ho' hx (fun j => lst_set hltl) (fun _ => rfl) fun j hj hS hn hd => hn ⟨hd.1, (hl j hd.1).2 hd.2.1, hd.2.2⟩
      · exact (hp1 c hv ((hl c hv).1 hlc) hqc).step D s' ho' (Ne.symm (hci c hv)) v'
    unfold wpOpIn
    simp only [ho]
    rw [hgd'.wanted A.env]
    cases hran : x.ran with
    | false =>
      simp only [Bool.false_eq_true, if_false]
      refine ⟨fun _ _ => trivial, ?_⟩
      obtain ⟨hv, _⟩ := hskip hran
      have hnv : ¬ Hv P ops T i := fun hv => by
        obtain ⟨_, y, _, hy, hr, _⟩ := hv
        rw [hx] at hy; cases hy; rw [hran] at hr; cases hr
      obtain ⟨S', top'⟩ := light hnv σ w undef (Stp.refl _ _ _)
      rw [hv] at S'
      exact ih hcnt (A.skip o.dst) s S' top'
    | true =>
      simp only [if_true]
      have hgo : GoesX P CALL x.h x.env o x.v x.h' := fun K => hrun hran K
      cases hh : heavy P o.op with
      | true =>
        have hHv : Hv P ops T i := ⟨o, x, ho', hx, hran, hh⟩
        by_cases hall : ∀ c, Hv P ops T c → c < i → Lst listed c
        · -- its turn
          have hqi : q = i := by
            rcases Nat.lt_trichotomy q i with h2 | h2 | h2
            · obtain ⟨h3, h4⟩ := top (by omega)
              exact absurd (hall q h3 h2) h4
            · exact h2
            · exact absurd (S.row i hHv h2) hni
          subst hqi
          have hheap : h = x.h := by rw [S.heap, ← exh]
          have hgo' : GoesX P CALL h env o x.v x.h' := by rw [hheap]; exact goesX_congr hopr hgo
          refine sim_exec SC A.rel A.env hgo' fun σ' w' v' s' R hv => ?_
          have Sw : St P ops env0 T hE w0 (listed.setIfInBounds q true) (aput env o.dst x.v) x.h' σ' (a.put o.dst v') w' (q + 1) := by
            have hl : ∀ c, c ≠ q → (Lst (listed.setIfInBounds q true) c ↔ Lst listed c) := fun c hc => by rw [lst_set hltl]; simp [hc]
            refine ⟨by simpa using S.size, hclosed', ?_, h6.symm, hlt, fun c hv hlt2 => ?_, rr, fun c hv hlc hqc => ?_, fun c c' a1 a2 a3 a4 a5 a6 => hp2 c c' a1 ((hl c (by omega)).1 a2) (by omega) a4 ((hl c' (by omega)).1 a5) (by omega)⟩
            · exact S.env.put D rfl ho' hx (fun j => lst_set hltl) (fun _ => rfl) fun j hj hS hn hd => hn ⟨hd.1, (hl j hj).2 hd.2.1, by have := hd.2.2; omega⟩
            · rw [lst_set hltl]
              by_cases hcq : c = q
              · exact .inr hcq
              · exact .inl (hall c hv (by omega))
            · exact (hp1 c hv ((hl c (by omega)).1 hlc) (by omega)).step D s' ho' (by omega) v'
          obtain ⟨env2, h2, σ2, q2, A2, s2, S2, top2⟩ := advance D t hT hw0 ops.size (by omega) (A.put s' R o.dst hv) (s.trans s') Sw
          exact ih hcnt A2 s2 S2 top2
        · -- ahead of its turn
          obtain ⟨c0, hc0⟩ := Classical.not_forall.1 hall
          obtain ⟨hv0, hc1⟩ := Classical.not_imp.1 hc0
          obtain ⟨hc2, hc3⟩ := Classical.not_imp.1 hc1
          obtain ⟨oc, xc, hoc, hxc, hrc, hhc⟩ := id hv0
          have hlate : late o.op = true := by
            rcases D.row c0 i o oc ho' hoc hc2 hh hhc with h2 | h2
            · exfalso
              unfold ordered at h2
              rw [Bool.or_eq_true] at h2
              rcases h2 with h2 | h2
              · have := (ahead_in hback (S := fun _ => True) (fun _ _ _ _ _ _ => trivial) c0 (fun _ _ _ _ => trivial) i h2).1
                omega
              · exact hc3 (hah c0 h2).2
            · exact h2.1
          have hqc : q ≤ c0 := by
            rcases Nat.lt_or_ge c0 q with h2 | h2
            · exact absurd (S.row c0 hv0 h2) hc3
            · exact h2
          obtain ⟨cs, sz, arr, ty, mk, e1, e2, e3, e4⟩ := late_goes hlate (goesX_congr hopr hgo) A.env w
          obtain ⟨R', s'⟩ := A.rel.hide (.cells arr ty)
          have hnd : ∀ c, o.op ≠ .defer c := fun c e => by rw [e] at hlate; simp [late] at hlate
          refine ⟨fun _ _ => trivial, ?_⟩
          rw [Oper.semAt_eq _ _ _ hnd, e4]
          have hl : ∀ c, c ≠ i → (Lst (listed.setIfInBounds i true) c ↔ Lst listed c) := fun c hc => by rw [lst_set hltl]; simp [hc]
          have hlti : ∀ c, Hv P ops T c → Lst listed c → q ≤ c → rr c < w.heap.size := fun c hv hlc hqc => by
            obtain ⟨_, _, _, _, _, _, _, _, _, _, _, _, k6, _⟩ := hp1 c hv hlc hqc
            exact (Array.getElem?_eq_some_iff.1 k6).1
          refine ih hcnt (A.put s' R' o.dst (.any _)) (s.trans s') (q := q) ⟨by simpa using S.size, hclosed', ?_, S.heap, S.le, fun c hv hlt2 => ?_, fun c => if c = i then w.heap.size else rr c, fun c hv hlc hqc => ?_, fun c c' a1 a2 a3 a4 a5 a6 a7 => ?_⟩ fun hq => ?_
          · refine S.env.put D rfl ho' hx (fun j => lst_set hltl) (fun hn => absurd ⟨hHv, (lst_set hltl).2 (.inr rfl), by omega⟩ hn) fun j hj hS hn hd => hn ⟨hd.1, (hl j hj).2 hd.2.1, hd.2.2⟩
          · rw [lst_set hltl]; exact .inl (S.row c hv hlt2)
          · by_cases hci : c = i
            · subst hci
              simp only [if_true]
              refine ⟨x, o, cs, sz, arr, ty, mk, hx, ho', e1, e2, e3, World.alloc_heap_new w _, s.size, fun ⟨j, b, p, k1, k2, k3, k4⟩ => ?_, fun d hd => ?_⟩
              · have := (A.rel.obj k1 k2).lt (ABlk.mine_ne k3)
                omega
              · rw [hd]
                have h3 := D.lt c o d ho' hd
                have h4 := A.env.length
                rw [S.env.len] at h4
                simp only [Act.put, Array.getElem?_setIfInBounds]
                have h5 : d < a.tmps.size := by rw [← Array.length_toList, ← h4]; exact h3
                simp [h5]
            · show PendOk ops T w0 h σ _ _ c (if c = i then w.heap.size else rr c)
              rw [if_neg hci]
              exact (hp1 c hv ((hl c hci).1 hlc) hqc).step D s' ho' (Ne.symm hci) _
          · show (if c = i then w.heap.size else rr c) ≠ (if c' = i then w.heap.size else rr c')
            by_cases h8 : c = i
            · by_cases h9 : c' = i
              · exact absurd (h8.trans h9.symm) a7
              · have := hlti c' a4 ((hl c' h9).1 a5) a6
                rw [if_pos h8, if_neg h9]; omega
            · have h10 := hlti c a1 ((hl c h8).1 a2) a3
              by_cases h9 : c' = i
              · rw [if_neg h8, if_pos h9]; omega
              · rw [if_neg h8, if_neg h9]
                exact hp2 c c' a1 ((hl c h8).1 a2) a3 a4 ((hl c' h9).1 a5) a6 a7
          · obtain ⟨h3, h4⟩ := top hq
            refine ⟨h3, fun hk => h4 ?_⟩
            have : q ≠ i := by omega
            exact (hl q this).1 hk
      | false =>
        have hnv : ¬ Hv P ops T i := fun hv => by
          obtain ⟨oc, y, hoc, hy, hr, hhc⟩ := hv
          rw [ho'] at hoc; cases hoc; rw [hh] at hhc; cases hhc
        have hlook := look_any t hTl hlk ho' hx hran hh (q := q) (by have := S.le; omega) fun c hv hc => by
          obtain ⟨oc, _, hoc, _, _, hhc⟩ := id hv
          have hcl : c < ops.size := by simpa using (List.getElem?_eq_some_iff.1 hoc).1
          have hci : c ≠ i := fun e => hnv (e ▸ hv)
          cases hor : ordered (aheadOf ops.toList) i c with
          | false => rfl
          | true =>
            exfalso
            have h2 := hord c hcl hci hor
            rcases hc with hc | hc
            · exact hpend c hv (h2.2 hc.2) hc.1 hor
            · have := h2.1 (S.row c hv hc.2); omega
        rw [← S.heap, look_congr hopr] at hlook
        refine sim_exec SC A.rel A.env (light_goesX hh hlook) fun σ' w' v' s' R hv => ?_
        obtain ⟨S', top'⟩ := light hnv σ' w' v' s'
        exact ih hcnt (A.put s' R o.dst hv) (s.trans s') S' top'

/-- A region whose order is drawn. -/
theorem sim_draw {CALL : CallT} (SC : SoundC P CALL) {ops : Array Oper} {RT : Type} {K : Env → AHeap → Option RT} {r : RT} {ro : Option Nat} {n B id : Nat} {Q : Exit → Act → World → Prop}
    {env : Env} {h : AHeap} {σ : Sig} {a : Act} {w : World} (hok : drawOk P ops.toList env.length = true)
    (ha : adraw P CALL ops.toList (List.range ops.toList.length) env h [] (fun T env h => alooks P ops.toList T (unordered P ops.toList) (K env h)) = some r) (A : At W0 B σ h env a w)
    (hQ : ∀ env' h' σ' a' w', K env' h' = some r → Stp σ h w σ' h' w' → At W0 B σ' h' env' a' w' → Q .normal a' w') : (Code.region id ops true).wpIn (FW ro) n P Q a w := by
  have D := drawOk_spec hok
  rw [List.range_eq_range'] at ha
  obtain ⟨T, envE, hE, hk, hlen, t⟩ := adraw_trace (env0 := env) (h0 := h) _ 0 ha rfl ⟨rfl, rfl, fun i x hx => by simp at hx⟩
  obtain ⟨hK, hlk⟩ := alooks_some hk
  have A' : At W0 B σ h env a w.drew := ⟨A.rel.drew, A.env, ⟨A.marks.size, A.marks.all, A.marks.nodup⟩⟩
  refine wpIn_region_draw fun sched => ?_
  have hs : ∃ md t, Region.schedule (P.follows .mixedOrders) ops sched = Region.linearise.go md ops ops.size t (Array.replicate ops.size false) [] := by
    unfold Region.schedule Region.linearise
    split
    · exact ⟨_, _, rfl⟩
    · split
      · exact ⟨_, _, rfl⟩
      · exact ⟨_, _, rfl⟩
  obtain ⟨md, sched, hs⟩ := hs
  rw [hs]
  refine wpAnyIn_sound _ _ _ _ _ ?_
  have S0 : St P ops env T hE w.drew (Array.replicate ops.size false) env h σ a w.drew 0 := by
    have hno : ∀ j, ¬ Lst (Array.replicate ops.size false) j := fun j hj => by
      simp [Lst, Array.getD_eq_getD_getElem?, Array.getElem?_replicate] at hj; split at hj <;> simp at hj
    exact ⟨by simp, fun j o hj => absurd hj (hno j), ⟨rfl, fun j o x s hj => absurd hj (hno j), fun _ _ => rfl⟩, t.h0.symm, Nat.zero_le _, fun c _ hc => by omega, fun _ => 0, fun c _ hc => absurd hc (hno c), fun c c' _ hc => absurd hc (hno c)⟩
  have hw0 : W0.heap.size ≤ w.drew.heap.size := A'.rel.below.size
  obtain ⟨env2, h2, σ2, q2, A2, s2, S2, top2⟩ := advance D t (by simpa using hlen) hw0 ops.size (by omega) A' (Stp.refl _ _ _) S0
  exact sim_any SC D t (by simpa using hlen) hlk md hw0 (fun σ' a' w' s A3 => hQ _ _ _ _ _ hK ((Stp.drew σ h w).trans s) A3) ops.size (by simp) A2 s2 S2 top2

end Go.Abs
