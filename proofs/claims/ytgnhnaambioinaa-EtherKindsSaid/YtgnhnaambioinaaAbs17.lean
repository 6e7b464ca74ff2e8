/- A region whose order is drawn, third part: the machine's walk. -/
import Derived.Test.YtgnhnaambioinaaAbs16
import Derived.OrdersIn
set_option autoImplicit false
set_option linter.unusedVariables false
set_option linter.unusedSimpArgs false
namespace Go.Abs
variable {P : Program} {W0 : World}

theorem lst_set {listed : Array Bool} {i j : Nat} (hi : i < listed.size) : Lst (listed.setIfInBounds i true) j ↔ Lst listed j ∨ j = i := by
  unfold Lst
  simp only [Array.getD_eq_getD_getElem?]
  by_cases e : i = j
  · subst e; simp [hi]
  · simp [e, Ne.symm e]

theorem lst_getD {listed : Array Bool} {j : Nat} (hj : j < listed.size) (b : Bool) : listed.getD j b = listed.getD j false := by
  simp [Array.getD_eq_getD_getElem?, hj]

theorem ready_none {md : Region.Mode} {ops : Array Oper} {listed : Array Bool} (D : ∃ rk : Nat → Nat, ∀ (j : Nat) o, ops.toList[j]? = some o → ∀ e ∈ o.after.toList, Region.binds md e = true → e.on < ops.toList.length ∧ rk e.on < rk j) (hs : listed.size = ops.size) (hr : Region.ready md ops listed = []) :
    ∀ j, j < ops.size → Lst listed j := by
  obtain ⟨rk, D⟩ := D
  have key : ∀ (r j : Nat), rk j = r → j < ops.size → Lst listed j := by
    intro r
    induction r using Nat.strongRecOn with
    | _ r ih =>
      intro j hrj hj
      by_cases hl : Lst listed j
      · exact hl
      · exfalso
        have : j ∈ Region.ready md ops listed := by
          rw [mem_ready]
          refine ⟨?_, ops[j], by simp [hj], fun e he hb => ?_⟩
          · rw [lst_getD (by omega)]
            unfold Lst at hl; simpa using hl
          · obtain ⟨h1, h2⟩ := D j ops[j] (by simp [hj]) e (by simpa using he) hb
            exact ih (rk e.on) (by omega) e.on rfl (by simpa using h1)
        rw [hr] at this
        cases this
  exact fun j => key _ j rfl

/-- Where the walk stands: so many are done; the slots and memory are what the text's order says. -/
structure St (P : Program) (ops : Array Oper) (env0 : Env) (T : List Rec) (hE : AHeap) (listed : Array Bool) (env : Env) (h : AHeap) (q : Nat) : Prop where
  size : listed.size = ops.size
  closed : ∀ (j : Nat) o, Lst listed j → ops.toList[j]? = some o → ∀ e ∈ edgesOf o, Lst listed e.on
  env : EnvIs ops.toList T env0 (Lst listed) env
  heap : h = HP T hE q
  le : q ≤ ops.size
  row : ∀ c, Hv P ops T c → (Lst listed c ↔ c < q)

theorem sim_any {CALL : CallT} (SC : SoundC P CALL) {ops : Array Oper} {env0 : Env} {h0 : AHeap} {T : List Rec} {envE : Env} {hE : AHeap} (D : DOk P ops.toList env0.length) (t : TOk P CALL ops.toList env0 h0 T envE hE)
    (hT : T.length = ops.size)
    (hlk : ∀ i c, (i, c) ∈ unordered P ops.toList → ∀ x y o, T[i]? = some x → T[c]? = some y → ops.toList[i]? = some o → x.ran = true → y.ran = true → alook P o x.env (if c < i then y.h else y.h') = some x.v)
    {ro : Option Nat} {n B : Nat} {Q : Exit → Act → World → Prop} (md : Region.Mode) :
    ∀ (fuel : Nat) {listed : Array Bool} {a : Act} {w : World} {env : Env} {h : AHeap} {σ : Sig} {q : Nat}, listed.toList.count false ≤ fuel → At W0 B σ h env a w → St P ops env0 T hE listed env h q →
      (∀ σ' a' w', Stp σ h w σ' hE w' → At W0 B σ' hE envE a' w' → Q .normal a' w') → wpAnyIn (FW ro) n P md ops Q fuel listed a w := by
  have hTl : T.length = ops.toList.length := by rw [hT]; simp
  have hback := fun (j : Nat) o (ho : ops.toList[j]? = some o) e he => (D.back j o ho e he).1
  -- all are done
  have fin : ∀ {listed : Array Bool} {a : Act} {w : World} {env : Env} {h : AHeap} {σ : Sig} {q : Nat}, At W0 B σ h env a w → St P ops env0 T hE listed env h q →
      (∀ σ' a' w', Stp σ h w σ' hE w' → At W0 B σ' hE envE a' w' → Q .normal a' w') → (∀ j, j < ops.size → Lst listed j) → Q .normal a w := by
    intro listed a w env h σ q A S hQ hall
    have hh : h = hE := by
      rw [S.heap]
      have := HP_const t (ops.size - q) (q := q) (by have := S.le; omega) fun c h1 h2 hv => by
        have hc : c < ops.size := by have := S.le; omega
        have := (S.row c hv).1 (hall c hc)
        omega
      rw [show q + (ops.size - q) = ops.size by have := S.le; omega] at this
      rw [← this]; simp [HP, hT]
    have he : env = envE := by
      have E2 := EnvIs.text D rfl t hTl ops.size (by simp)
      have e3 : ENV T envE ops.size = envE := by simp [ENV, hT]
      rw [e3] at E2
      apply List.ext_getElem?
      intro s
      exact S.env.agree E2 hTl fun j o ho hd => by
        have : j < ops.size := by simpa using (List.getElem?_eq_some_iff.1 ho).1
        exact ⟨fun _ => this, fun _ => hall j this⟩
    subst hh; subst he
    exact hQ σ a w (Stp.refl _ _ _) A
  intro fuel
  induction fuel with
  | zero =>
    intro listed a w env h σ q hc A S hQ
    have hall : ∀ j, j < ops.size → Lst listed j := by
      intro j hj
      have h0 : listed.toList.count false = 0 := by omega
      rw [List.count_eq_zero] at h0
      unfold Lst
      have hjl : j < listed.size := by rw [S.size]; exact hj
      cases hb : listed[j] with
      | true => simp [Array.getD_eq_getD_getElem?, hjl, hb]
      | false => exact absurd (by rw [← hb]; simp) h0
    refine ⟨?_, fin A S hQ hall⟩
    cases hr : Region.ready md ops listed with
    | nil => rfl
    | cons i l =>
      exfalso
      have hi : i ∈ Region.ready md ops listed := by rw [hr]; simp
      obtain ⟨h1, o, ho, _⟩ := mem_ready.1 hi
      have hlt := (Array.getElem?_eq_some_iff.1 ho).1
      have := hall i hlt
      rw [lst_getD (by rw [S.size]; exact hlt)] at h1
      unfold Lst at this
      rw [h1] at this; cases this
  | succ fuel ih =>
    intro listed a w env h σ q hc A S hQ
    refine ⟨fun hr => fin A S hQ (ready_none (D.back0 md) S.size hr), fun i hi => ?_⟩
    obtain ⟨h1, o, ho, hdep⟩ := mem_ready.1 hi
    have hlt := (Array.getElem?_eq_some_iff.1 ho).1
    have hltl : i < listed.size := by rw [S.size]; exact hlt
    have hni : ¬ Lst listed i := by
      rw [lst_getD hltl] at h1
      unfold Lst; rw [h1]; simp
    have ho' : ops.toList[i]? = some o := by rw [Array.getElem?_toList]; exact ho
    have hx : T[i]? = some (T[i]'(by omega)) := List.getElem?_eq_getElem _
    generalize T[i]'(by omega) = x at hx
    have hdeps : ∀ e ∈ edgesOf o, Lst listed e.on := fun e he => hdep e (by unfold edgesOf at he; rw [List.mem_filter] at he; simpa using he.1) ((D.back i o ho' e he).2 md)
    have hclosed' : ∀ (j : Nat) o, Lst (listed.setIfInBounds i true) j → ops.toList[j]? = some o → ∀ e ∈ edgesOf o, Lst (listed.setIfInBounds i true) e.on := by
      intro j oj hj hoj e he
      rw [lst_set hltl] at hj ⊢
      rcases hj with hj | rfl
      · exact .inl (S.closed j oj hj hoj e he)
      · rw [ho'] at hoj; cases hoj; exact .inl (hdeps e he)
    -- who stands in order with it
    have hord : ∀ c, c < ops.size → c ≠ i → ordered (aheadOf ops.toList) i c = true → (Lst listed c ↔ c < i) := by
      intro c hc hci hor
      unfold ordered at hor
      rw [Bool.or_eq_true] at hor
      rcases hor with hor | hor
      · obtain ⟨h2, h3⟩ := ahead_in hback (S := Lst listed) S.closed i (fun o2 ho2 e he => by rw [ho'] at ho2; cases ho2; exact hdeps e he) c hor
        exact ⟨fun _ => h2, fun _ => h3⟩
      · constructor
        · intro hl
          exfalso
          obtain ⟨_, h3⟩ := ahead_in hback (S := Lst listed) S.closed c (fun o2 ho2 e he => S.closed c o2 hl ho2 e he) i hor
          exact hni h3
        · intro hlt2
          exfalso
          have := (ahead_in hback (S := fun _ => True) (fun _ _ _ _ _ _ => trivial) c (fun _ _ _ _ => trivial) i hor).1
          omega
    obtain ⟨o2, ho2, hgd, hrun, hskip, _, h6⟩ := t.all i x hx
    rw [ho'] at ho2; cases ho2
    have exe : ENV T envE i = x.env := by simp [ENV, hx]
    have exh : HP T hE i = x.h := by simp [HP, hx]
    have Et := EnvIs.text D rfl t hTl i (by simp; omega)
    rw [exe] at Et
    have hagree : ∀ s ∈ namesRead ops.toList o, x.env[s]? = env[s]? := by
      intro s hs
      refine Et.agree S.env hTl fun j oj hoj hd => ?_
      have hjl : j < ops.size := by simpa using (List.getElem?_eq_some_iff.1 hoj).1
      by_cases hji : j = i
      · subst hji; exact ⟨fun h => by omega, fun h => absurd h hni⟩
      · rcases D.names i j oj o s hoj ho' (Ne.symm hji) hd with h2 | h2
        · exact (hord j hjl hji h2).symm
        · exact absurd hs h2
    have hgd' : Gd ops.toList o env x.ran := guard_agree hagree hgd
    have hopr := operand_agree hagree
    -- going on
    have hcnt : (listed.setIfInBounds i true).toList.count false ≤ fuel := by
      rw [Array.toList_setIfInBounds]
      have := count_set listed.toList i (by
        rw [Array.getElem?_toList, Array.getElem?_eq_getElem hltl]
        have : listed[i] = false := by simpa [Array.getD_eq_getD_getElem?, hltl] using h1
        rw [this])
      omega
    have hEnv' : EnvIs ops.toList T env0 (Lst (listed.setIfInBounds i true)) (aput env o.dst x.v) := S.env.put D rfl ho' hx fun j => lst_set hltl
    unfold wpOpIn
    simp only [ho]
    rw [hgd'.wanted A.env]
    cases hran : x.ran with
    | false =>
      simp only [Bool.false_eq_true, if_false]
      refine ⟨fun _ _ => trivial, ?_⟩
      obtain ⟨hv, _⟩ := hskip hran
      rw [hv] at hEnv'
      refine ih hcnt (A.skip o.dst) ⟨by simpa using S.size, hclosed', hEnv', S.heap, S.le, fun c hv => ?_⟩ hQ
      rw [lst_set hltl]
      have : c ≠ i := fun e => by
        obtain ⟨_, y, _, hy, hr, _⟩ := hv
        subst e; rw [hx] at hy; cases hy; rw [hran] at hr; cases hr
      simp [this, S.row c hv]
    | true =>
      simp only [if_true]
      have hgo : GoesX P CALL x.h x.env o x.v x.h' := fun K => hrun hran K
      cases hh : heavy P o.op with
      | true =>
        have hHv : Hv P ops T i := ⟨o, x, ho', hx, hran, hh⟩
        -- who may change memory is in a row with it
        have hrow : ∀ c, Hv P ops T c → (Lst listed c ↔ c < i) := by
          intro c hv
          by_cases hci : c = i
          · subst hci; exact ⟨fun h => absurd h hni, fun h => by omega⟩
          · obtain ⟨oc, _, hoc, _, _, hhc⟩ := id hv
            exact hord c (by simpa using (List.getElem?_eq_some_iff.1 hoc).1) hci (D.row i c oc o hoc ho' (Ne.symm hci) hhc hh)
        have hheap : h = x.h := by
          rw [S.heap, ← exh]
          rcases Nat.le_total q i with hqi | hqi
          · have := HP_const t (i - q) (q := q) (by omega) fun c h2 h3 hv => by
              have := (S.row c hv).1 ((hrow c hv).2 (by omega)); omega
            rw [show q + (i - q) = i by omega] at this
            exact this.symm
          · have := HP_const t (q - i) (q := i) (by have := S.le; omega) fun c h2 h3 hv => by
              have := (hrow c hv).1 ((S.row c hv).2 (by omega)); omega
            rw [show i + (q - i) = q by omega] at this
            exact this
        have hgo' : GoesX P CALL h env o x.v x.h' := by rw [hheap]; exact goesX_congr hopr hgo
        refine sim_exec SC A.rel A.env hgo' fun σ' w' v' s R hv => ?_
        refine ih hcnt (A.put s R o.dst hv) (q := i + 1) ⟨by simpa using S.size, hclosed', hEnv', h6.symm, hlt, fun c hv => ?_⟩ fun σ'' a' w'' s' A' => hQ _ _ _ (s.trans s') A'
        rw [lst_set hltl]
        by_cases hci : c = i
        · simp [hci]
        · simp only [hci, or_false, hrow c hv]
          omega
      | false =>
        have hlook := look_any t hTl hlk ho' hx hran hh (q := q) (by have := S.le; omega) fun c hv hc => by
          obtain ⟨oc, _, hoc, _, _, hhc⟩ := id hv
          have hcl : c < ops.size := by simpa using (List.getElem?_eq_some_iff.1 hoc).1
          have hci : c ≠ i := fun e => by subst e; rw [ho'] at hoc; cases hoc; rw [hh] at hhc; cases hhc
          cases hor : ordered (aheadOf ops.toList) i c with
          | false => rfl
          | true =>
            exfalso
            have h2 := hord c hcl hci hor
            have h3 := S.row c hv
            rcases hc with hc | hc
            · have := h3.1 (h2.2 hc.2); omega
            · have := h2.1 (h3.2 hc.2); omega
        rw [← S.heap, look_congr hopr] at hlook
        refine sim_exec SC A.rel A.env (light_goesX hh hlook) fun σ' w' v' s R hv => ?_
        refine ih hcnt (A.put s R o.dst hv) (q := q) ⟨by simpa using S.size, hclosed', hEnv', S.heap, S.le, fun c hv => ?_⟩ fun σ'' a' w'' s' A' => hQ _ _ _ (s.trans s') A'
        rw [lst_set hltl]
        have : c ≠ i := fun e => by
          obtain ⟨oc, y, hoc, hy, hr, hhc⟩ := hv
          subst e; rw [ho'] at hoc; cases hoc; rw [hh] at hhc; cases hhc
        simp [this, S.row c hv]

/-- A region whose order is drawn. -/
theorem sim_draw {CALL : CallT} (SC : SoundC P CALL) {ops : Array Oper} {RT : Type} {K : Env → AHeap → Option RT} {r : RT} {ro : Option Nat} {n B id : Nat} {Q : Exit → Act → World → Prop}
    {env : Env} {h : AHeap} {σ : Sig} {a : Act} {w : World} (hok : drawOk P ops.toList env.length = true)
    (ha : adraw P CALL ops.toList (List.range ops.toList.length) env h [] (fun T env h => alooks P ops.toList T (unordered P ops.toList) (K env h)) = some r) (A : At W0 B σ h env a w)
    (hQ : ∀ env' h' σ' a' w', K env' h' = some r → Stp σ h w σ' h' w' → At W0 B σ' h' env' a' w' → Q .normal a' w') : (Code.region id ops true).wpIn (FW ro) n P Q a w := by
  have D := drawOk_spec hok
  rw [List.range_eq_range'] at ha
  obtain ⟨T, envE, hE, hk, hlen, t⟩ := adraw_trace (env0 := env) (h0 := h) _ 0 ha rfl ⟨rfl, rfl, fun i x hx => by simp at hx⟩
  obtain ⟨hK, hlk⟩ := alooks_some hk
  have A' : At W0 B σ h env a w.drew := ⟨A.rel.drew, A.env, ⟨A.marks.size, A.marks.all, A.marks.nodup⟩⟩
  refine wpIn_region_draw fun sched => ?_
  have hs : ∃ md t, Region.schedule (P.follows .mixedOrders) ops sched = Region.linearise.go md ops ops.size t (Array.replicate ops.size false) [] := by
    unfold Region.schedule Region.linearise
    split
    · exact ⟨_, _, rfl⟩
    · split
      · exact ⟨_, _, rfl⟩
      · exact ⟨_, _, rfl⟩
  obtain ⟨md, sched, hs⟩ := hs
  rw [hs]
  refine wpAnyIn_sound _ _ _ _ _ ?_
  refine sim_any SC D t (by simpa using hlen) hlk md ops.size (by simp) A' (q := 0) ⟨by simp, fun j o hj => ?_, ⟨rfl, fun j o x s hj => ?_, fun _ _ => rfl⟩, t.h0.symm, Nat.zero_le _, fun c _ => ?_⟩ fun σ' a' w' s A2 => ?_
  · simp [Lst, Array.getD_eq_getD_getElem?, Array.getElem?_replicate] at hj; split at hj <;> simp at hj
  · simp [Lst, Array.getD_eq_getD_getElem?, Array.getElem?_replicate] at hj; split at hj <;> simp at hj
  · simp [Lst, Array.getD_eq_getD_getElem?, Array.getElem?_replicate]; split <;> simp
  · exact hQ _ _ _ _ _ hK ((Stp.drew σ h w).trans s) A2

end Go.Abs
