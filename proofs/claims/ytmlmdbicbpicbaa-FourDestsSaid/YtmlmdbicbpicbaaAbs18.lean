/- Code: what the interpreter says of it holds of the machine. Loops over functions; a function's body; a round. -/
import Derived.Test.YtmlmdbicbpicbaaAbs17
import Derived.RangeFuncLeaves
set_option autoImplicit false
set_option linter.unusedVariables false
set_option linter.unusedSimpArgs false
namespace Go.Abs
variable {P : Program} {W0 : World} {σ : Sig} {h : AHeap} {w : World}

def exOf : AEx → Exit
  | .norm => .normal
  | .exit i => .exit i
  | .ret => .ret

/-- What a loop's summary says holds of the machine. -/
def SoundS (P : Program) (s : LoopF) (c : Code) : Prop :=
  ∀ {W0 : World} {B : Nat} {σ : Sig} {h : AHeap} {env : Env} {a : Act} {w : World} {e : AEx} {env' : Env} {h' : AHeap}, s.get env h = some (e, env', h') → At W0 B σ h env a w →
    ∀ (n : Nat) (Q : Exit → Act → World → Prop), (∀ σ' a' w', Stp σ h w σ' h' w' → At W0 B σ' h' env' a' w' → Q (exOf e) a' w') → (Code.loop c).wpIn Fence.wide n P Q a w

def loopsOf : Code → List Code
  | .seq a b => loopsOf a ++ loopsOf b
  | .cond _ a b => loopsOf a ++ loopsOf b
  | .block _ a => loopsOf a
  | .loop c => [c]
  | _ => []

def LoopsOk (P : Program) (LS : LoopT) (c : Code) : Prop := ∀ b ∈ loopsOf c, ∀ s, LS (firstReg b) = some s → SoundS P s b

/-- An object of the world of which nothing is told. -/
theorem Rel.allocOther (R : Rel W0 σ h w) (o : Obj) : Rel W0 σ h (w.alloc o) ∧ Stp σ h w σ h (w.alloc o) := by
  have hold : ∀ k, k < w.heap.size → (w.alloc o).heap[k]? = w.heap[k]? := fun k hk => RowKit.Below.heap_alloc w o k hk
  refine ⟨⟨R.len, fun {i b p} h1 h2 => ?_, R.far, R.own, R.sep, R.below.alloc R.below.size o⟩, ⟨⟨[], by simp⟩, fun _ h => .inl h, fun k hk _ => hold k hk, by simp⟩⟩
  exact (R.obj h1 h2).keep fun hd => hold _ ((R.obj h1 h2).lt hd)

theorem Rel.turnOther (R : Rel W0 σ h w) {r : Nat} {x : Option (List Deferred)} (hr : w.heap[r]? = some (.deferred x)) (hW : W0.heap.size ≤ r) (o : Obj) : Rel W0 σ h (w.putObj r o) := by
  refine ⟨R.len, fun {i b p} h1 h2 => ?_, R.far, R.own, R.sep, Below.putObj R.below hW o⟩
  · have h3 := R.obj h1 h2
    refine h3.keep fun hd => World.putObj_heap_other ?_
    rintro rfl
    cases b with
    | cells vs esz md par =>
      rcases h3 with ⟨rfl, _⟩ | ⟨_, _, _, _, h4, _⟩
      · simp [ABlk.void] at hd
      · rw [hr] at h4; cases h4
    | mp es c => obtain ⟨_, h4, _⟩ := h3; rw [hr] at h4; cases h4
    | lp L => obtain ⟨_, h4, _⟩ := h3; rw [hr] at h4; cases h4
    | dead => simp [ABlk.void] at hd

theorem lp_at (R : Rel W0 σ h w) {l : Nat} {L : ALoop} (hl : h[l]? = some (.lp L)) {p : Plc} (hp : σ[l]? = some p) : ∃ L', w.heap[p.blk]? = some (.loop L') ∧ LoopR σ L L' := R.obj hl hp

theorem run_getLoop {l : Nat} {L' : Loop} (hL : w.heap[l]? = some (.loop L')) : (Instr.getLoop l).run P w = .ok L' w := by
  have : (getObj l).run P w = .ok (.loop L') w := by simp [getObj, Sem.run, hL]
  simp [Instr.getLoop, this]

theorem run_setLoop {l : Nat} {L' : Loop} (hL : w.heap[l]? = some (.loop L')) (o' : Obj) : (Go.setObj l o').run P w = .ok () (w.putObj l o') := by
  simp [Go.setObj, Sem.run, hL, World.putObj]

theorem Rel.setLoop (R : Rel W0 σ h w) {l : Nat} {L L2 : ALoop} {L2' : Loop} {p : Plc} (hl : h[l]? = some (.lp L)) (hp : σ[l]? = some p) (h2 : LoopR σ L2 L2') :
    Rel W0 σ (h.set l (.lp L2)) (w.putObj p.blk (.loop L2')) ∧ Stp σ h w σ (h.set l (.lp L2)) (w.putObj p.blk (.loop L2')) := by
  obtain ⟨L', h1, _⟩ := lp_at R hl hp
  have hlt : p.blk < w.heap.size := (Array.getElem?_eq_some_iff.1 h1).1
  exact R.setObj (b' := .lp L2) hl hp rfl rfl rfl rfl (.loop L2') ⟨L2', World.putObj_heap_same hlt, h2⟩

theorem sim_code {CALL : CallT} (SC : SoundC P CALL) {LS : LoopT} {RT : Type} {r : RT} {ro : Option Nat} {n B : Nat} :
    ∀ (c : Code) (hq : ro = none ∨ quiet c = true) (hL : LoopsOk P LS c) {K : AEx → Env → AHeap → Option RT} {env : Env} {h : AHeap} {σ : Sig} {a : Act} {w : World} {Q : Exit → Act → World → Prop},
      acode P CALL LS c env h K = some r → At W0 B σ h env a w →
      (∀ e env' h' σ' a' w', K e env' h' = some r → Stp σ h w σ' h' w' → At W0 B σ' h' env' a' w' → Q (exOf e) a' w') → c.wpIn (FW ro) n P Q a w := by
  intro c
  induction c with
  | skip => intro hq hL K env h σ a w Q ha A hQ; exact wpIn_skip (hQ .norm env h σ a w ha (Stp.refl _ _ _) A)
  | label l => intro hq hL K env h σ a w Q ha A hQ; exact wpIn_label (hQ .norm env h σ a w ha (Stp.refl _ _ _) A)
  | exit i => intro hq hL K env h σ a w Q ha A hQ; exact wpIn_exit (hQ (.exit i) env h σ a w ha (Stp.refl _ _ _) A)
  | ret => intro hq hL K env h σ a w Q ha A hQ; exact wpIn_ret (hQ .ret env h σ a w ha (Stp.refl _ _ _) A)
  | scope c ih => intro hq hL K env h σ a w Q ha A hQ; simp [acode] at ha
  | goto l => intro hq hL K env h σ a w Q ha A hQ; simp [acode] at ha
  | refuse s => intro hq hL K env h σ a w Q ha A hQ; simp [acode] at ha
  | region id ops draw =>
    intro hq hL K env h σ a w Q ha A hQ
    unfold acode at ha
    cases draw with
    | true =>
      simp only [if_true] at ha
      split at ha
      · rename_i hok
        exact sim_draw (K := fun env h => K .norm env h) SC hok ha A fun env' h' σ' a' w' hk s A' => hQ .norm _ _ _ _ _ hk s A'
      · simp at ha
    | false =>
      simp only [Bool.false_eq_true, if_false] at ha
      refine wpIn_region ?_
      have e : List.range ops.toList.length = List.range ops.size := by simp
      rw [e] at ha
      exact sim_ops SC ha A fun env' h' σ' a' w' hk s A' => hQ .norm _ _ _ _ _ hk s A'
  | seq x y ihx ihy =>
    intro hq hL K env h σ a w Q ha A hQ
    unfold acode at ha
    have hq1 : ro = none ∨ quiet x = true := by rcases hq with h | h; exact .inl h; simp [quiet] at h; exact .inr h.1
    have hq2 : ro = none ∨ quiet y = true := by rcases hq with h | h; exact .inl h; simp [quiet] at h; exact .inr h.2
    refine wpIn_seq (ihx hq1 (fun b hb => hL b (by simp [loopsOf, hb])) ha A fun e env' h' σ' a' w' hk s A' => ?_)
    cases e with
    | norm =>
      exact ihy hq2 (fun b hb => hL b (by simp [loopsOf, hb])) hk A' fun e2 env2 h2 σ2 a2 w2 hk2 s2 A2 => hQ _ _ _ _ _ _ hk2 (s.trans s2) A2
    | exit i => exact hQ _ _ _ _ _ _ hk s A'
    | ret => exact hQ _ _ _ _ _ _ hk s A'
  | cond c x y ihx ihy =>
    intro hq hL K env h σ a w Q ha A hQ
    unfold acode at ha
    have hq1 : ro = none ∨ quiet x = true := by rcases hq with h | h; exact .inl h; simp [quiet] at h; exact .inr h.1
    have hq2 : ro = none ∨ quiet y = true := by rcases hq with h | h; exact .inl h; simp [quiet] at h; exact .inr h.2
    split at ha
    · rename_i t hc
      have hcv := aev_vr A.env c
      rw [hc] at hcv
      split at ha
      · rename_i ht; subst ht
        exact wpIn_cond_true hcv.bool_inv (ihx hq1 (fun b hb => hL b (by simp [loopsOf, hb])) ha A hQ)
      · rename_i ht; simp at ht; subst ht
        exact wpIn_cond_false hcv.bool_inv (ihy hq2 (fun b hb => hL b (by simp [loopsOf, hb])) ha A hQ)
    · simp at ha
  | block i c ih =>
    intro hq hL K env h σ a w Q ha A hQ
    unfold acode at ha
    refine wpIn_block (ih (by rcases hq with h | h; exact .inl h; simp [quiet] at h; exact .inr h) (fun b hb => hL b (by simpa [loopsOf] using hb)) ha A fun e env' h' σ' a' w' hk s A' => ?_)
    cases e with
    | norm => exact hQ _ _ _ _ _ _ hk s A'
    | ret => exact hQ _ _ _ _ _ _ hk s A'
    | exit j =>
      simp only [exOf, Exit.inBlock]
      simp only at hk
      split at hk
      · rename_i hj; rw [if_pos hj]; exact hQ .norm _ _ _ _ _ hk s A'
      · rename_i hj; rw [if_neg hj]; exact hQ (.exit j) _ _ _ _ _ hk s A'
  | loop c ih =>
    intro hq hL K env h σ a w Q ha A hQ
    rcases hq with rfl | hq
    · unfold acode at ha
      split at ha
      · rename_i s hs
        rw [s.nat] at ha
        simp only [Option.bind_eq_some_iff] at ha
        obtain ⟨x, hx, hk⟩ := ha
        exact hL c (by simp [loopsOf]) s hs hx A n Q fun σ' a' w' st A' => hQ _ _ _ _ _ _ hk st A'
      · simp at ha
    · simp [quiet] at hq
  | rangeFunc g ps asg body iha ihb =>
    intro hq hL K env h σ a w Q ha A hQ
    rcases hq with rfl | hq
    · unfold acode at ha
      split at ha
      · rename_i id cap hg
        rw [CALL.nat] at ha
        simp only [Option.bind_eq_some_iff] at ha
        obtain ⟨⟨v, h1⟩, hcall, hk⟩ := ha
        simp only at hk
        split at hk
        · rename_i L hL1
          split at hk
          · simp at hk
          · rename_i hbusy
            -- the world: the block of the mark, the record
            obtain ⟨RA, sA⟩ := A.rel.allocOther (.deferred (some []))
            refine wpIn_rangeFunc fun fn _ => ?_
            let wa := w.alloc (.deferred (some []))
            let Lp : Loop := { state := .ready, pending := none, fn := fn, tmps := a.tmps, params := ps, assign := asg, body := body, defers := w.heap.size }
            have hpush := RA.push (.loop Lp) (.lp { st := .ready, pend := none, env := env, ps := ps.toList, asg := asg, body := body }) 0 rfl
              ⟨Lp, World.alloc_heap_new _ _, ⟨rfl, rfl, A.env.grow _, rfl, rfl, rfl⟩⟩
            obtain ⟨RB, sB⟩ := hpush
            have s01 := sA.trans sB
            have hgv := aev_vr A.env g
            rw [hg] at hgv
            obtain ⟨cap', hcap', hge⟩ : ∃ cap' : List Value, VRs σ cap cap' ∧ a.eval g = .func (.func id) #[] cap'.toArray := by
              generalize a.eval g = gv at *
              cases hgv with
              | fn _ _ cap' hc => exact ⟨cap', hc, rfl⟩
            have hsz : σ.length = h.length := A.rel.len
            have hpl : (σ ++ [⟨wa.heap.size, 0, 0⟩])[h.length]? = some ⟨wa.heap.size, 0, 0⟩ := by rw [← hsz]; simp
            have hargs : VRs (σ ++ [⟨wa.heap.size, 0, 0⟩]) (.fn (.yield h.length) [] :: cap) (#[Value.func (.yield wa.heap.size) #[] #[]] ++ cap'.toArray).toList := by
              simp only [Array.toList_append, List.singleton_append]
              exact .cons _ _ _ _ (.yld _ _ hpl) (hcap'.grow _)
            obtain ⟨⟨fd, hfd, hname, hbody⟩, hcalls⟩ := SC hcall RB hargs
            have he : ∀ args w, (callFunc id args).run P w = .ok (.enter id args) w := fun args w => by
              have : fd.body.isNone = false := by cases hb : fd.body with
                | none => rw [hb] at hbody; simp at hbody
                | some c => rfl
              simp only [callFunc, Sem.run_bind]
              simp [program, Sem.run, hfd, hname, this]
              intro hb; rw [hb] at hbody; simp at hbody
            refine ⟨wa.heap.size, [{ target := .collected w.heap.size, args := #[] }], wa.alloc (.loop Lp), { target := .fn (.func id) cap'.toArray, args := #[Value.func (.yield wa.heap.size) #[] #[]] }, wa.alloc (.loop Lp), id,
              #[Value.func (.yield wa.heap.size) #[] #[]] ++ cap'.toArray, wa.alloc (.loop Lp), ?_, ?_, fun _ _ => trivial, ?_, fun hd => ?_, CallsIn.mono (hcalls (n - 1)) fun e w' hr => ?_⟩
            · simp [Instr.enterLoop, wa, Lp]
            · simp [resolve, rangeCall, hge, Deferred.ofValue]; rfl
            · simp only [invoke]; exact he _ _
            · simp [Fence.wide] at hd
            · obtain ⟨v', σ', rfl, s2, R2, hv⟩ := hr
              obtain ⟨p, hp, hobj⟩ := R2.get hL1
              have hpb : p = ⟨wa.heap.size, 0, 0⟩ := by
                obtain ⟨τ, rfl⟩ := s2.ext
                rw [List.getElem?_append_left (by simp [hsz]), hpl] at hp
                cases hp; rfl
              obtain ⟨L', hL', hLR⟩ := hobj
              have hstate : L'.state = L.st := hLR.st
              have hset := R2.setLoop (L2 := { L with st := .exhausted }) (L2' := { L' with state := .exhausted }) hL1 hp ⟨rfl, hLR.pend, hLR.env, hLR.ps, hLR.asg, hLR.body⟩
              obtain ⟨R3, s3⟩ := hset
              have s03 := (s01.trans s2).trans s3
              have hmarks : MarksR B (w'.putObj p.blk (.loop { L' with state := .exhausted })) ([{ target := .collected w.heap.size, args := #[] }] ++ a.defers) := by
                have h0 : MarksR B wa ([{ target := .collected w.heap.size, args := #[] }] ++ a.defers) := by
                  have h1 := A.marks.step A.rel sA
                  refine ⟨h1.size, fun d hd => ?_, ?_⟩
                  · rcases List.mem_append.1 hd with hd | hd
                    · simp at hd; subst hd
                      exact ⟨w.heap.size, rfl, A.marks.size, World.alloc_heap_new _ _⟩
                    · exact h1.all d hd
                  · simp only [List.singleton_append, List.pairwise_cons]
                    refine ⟨fun d hd => ?_, h1.nodup⟩
                    obtain ⟨r', e1, _, e3⟩ := A.marks.all d hd
                    rw [e1]
                    have := (Array.getElem?_eq_some_iff.1 e3).1
                    intro e; injection e with e; omega
                exact ((h0.step RA sB).step RB s2).step R2 s3
              have A4 : At W0 B σ' (h1.set h.length (.lp { L with st := .exhausted })) env { a with defers := [{ target := .collected w.heap.size, args := #[] }] ++ a.defers } (w'.putObj p.blk (.loop { L' with state := .exhausted })) :=
                ⟨R3, s03.vrs A.env, hmarks⟩
              refine ⟨L'.pending, w'.putObj p.blk (.loop { L' with state := .exhausted }), ?_, ?_⟩
              · have hpb' : p.blk = wa.heap.size := by rw [hpb]
                rw [← hpb']
                have hnb : (L'.state == .busy) = false := by rw [hstate]; cases hst : L.st <;> first | rfl | exact absurd hst hbusy
                have hnb' : ¬ L'.state = .busy := by rw [hstate]; exact hbusy
                simp [Instr.endLoop, run_getLoop hL', hnb, hnb', run_setLoop hL']
              · have hpend : L'.pending = L.pend.map exCode := hLR.pend
                generalize w'.putObj p.blk (.loop { L' with state := .exhausted }) = w4 at *
                rw [hpend]
                split at hk
                · rename_i hpn; rw [hpn]; exact hQ .norm _ _ _ _ _ hk s03 A4
                · rename_i e hpe; rw [hpe]
                  cases e with
                  | norm => exact wpIn_skip (hQ .norm _ _ _ _ _ hk s03 A4)
                  | exit i => exact wpIn_exit (hQ (.exit i) _ _ _ _ _ hk s03 A4)
                  | ret => exact wpIn_ret (hQ .ret _ _ _ _ _ hk s03 A4)
        · simp at hk
      · simp at ha
    · simp [quiet] at hq

/-! ### A function's body -/

def rdR (tmps : Array Value) (x : ResultVar) : Sem Value :=
  match x with
  | .tmp t => pure (tmps.getD t undef)
  | .cell a t => do loadVar t (← asAddr (tmps.getD a undef))

theorem results_eq (fn : Func) (tmps : Array Value) : results fn tmps = (do let vs ← fn.results.mapM (rdR tmps); pure (if h : vs.size = 1 then vs[0] else .tuple vs)) := by
  have e : (fun | .tmp t => (pure (tmps.getD t undef) : Sem Value) | .cell a t => do loadVar t (← asAddr (tmps.getD a undef)) : ResultVar → Sem Value) = rdR tmps := by
    funext x; cases x <;> rfl
  rw [← e]
  rfl

theorem sim_results (R : Rel W0 σ h w) {env : Env} {tmps : Array Value} (hE : VRs σ env tmps.toList) : ∀ {l : List ResultVar} {vs : List AV}, aresults P env h l = some vs →
    ∃ vs' : List Value, (l.mapM (rdR tmps)).run P w = .ok vs' w ∧ VRs σ vs vs'
  | [], vs, ha => by simp [aresults] at ha; subst ha; exact ⟨[], by simp, .nil⟩
  | .tmp t :: l, vs, ha => by
    simp only [aresults, Option.map_eq_some_iff] at ha
    obtain ⟨vs1, h1, rfl⟩ := ha
    obtain ⟨vs', h2, h3⟩ := sim_results R hE h1
    have := aev_vr (a := { tmps := tmps, defers := [] }) hE (.tmp t)
    exact ⟨tmps.getD t undef :: vs', by simp [List.mapM_cons, rdR, h2], .cons _ _ _ _ this h3⟩
  | .cell a t :: l, vs, ha => by
    simp only [aresults, Option.bind_eq_some_iff, Option.map_eq_some_iff] at ha
    obtain ⟨v, hv, vs1, h1, rfl⟩ := ha
    obtain ⟨vs', h2, h3⟩ := sim_results R hE h1
    have hav := aev_vr (a := { tmps := tmps, defers := [] }) hE (.tmp a)
    have hav' : VR σ (env.getD a (.tup [])) (tmps.getD a undef) := hav
    obtain ⟨v', h4, h5⟩ := sim_load R hav' hv
    have hp : ∃ ad, tmps.getD a undef = .pointer (some ad) := by
      generalize env.getD a (.tup []) = y at *
      generalize tmps.getD a undef = y' at *
      unfold aload at hv
      split at hv
      · obtain ⟨p, _, e⟩ := hav'.ptr_inv; exact ⟨_, e⟩
      · simp at hv
    obtain ⟨ad, hp⟩ := hp
    have h6 : (loadVar t ad).run P w = .ok v' w := by
      rw [hp] at h4
      simpa [Instr.loadAt, Instr.sureAddr] using h4
    exact ⟨v' :: vs', by simp [List.mapM_cons, rdR, h2, hp, asAddr, h6], .cons _ _ _ _ h5 h3⟩

theorem sim_out (R : Rel W0 σ h w) {fn : Func} {env : Env} {tmps : Array Value} (hE : VRs σ env tmps.toList) {vs : List AV} (ha : aresults P env h fn.results.toList = some vs) :
    ∃ v', (results fn tmps).run P w = .ok v' w ∧ VR σ (aone vs) v' := by
  obtain ⟨vs', h1, h2⟩ := sim_results R hE ha
  have hm : (fn.results.mapM (rdR tmps)).run P w = .ok vs'.toArray w := by
    rw [Array.mapM_eq_mapM_toList]
    simp [h1]
  rw [results_eq]
  simp only [Sem.run_bind, hm, Result.andThen_ok]
  cases h2 with
  | nil => exact ⟨_, by simp, .tup [] [] .nil⟩
  | cons a v l m hv ht =>
    cases ht with
    | nil => exact ⟨v, by simp, hv⟩
    | cons a2 v2 l2 m2 hv2 ht2 =>
      refine ⟨.tuple (v :: v2 :: m2).toArray, by simp, ?_⟩
      exact .tup _ _ (.cons _ _ _ _ hv (.cons _ _ _ _ hv2 ht2))

/-- The marks taken in, one after another. -/
theorem sim_leave {fn : Func} {n B : Nat} {env : Env} {vs : List AV} {tmps : Array Value} {R : Ending → World → Prop} (hW : W0.heap.size ≤ B) :
    ∀ (ds : List Deferred) {w : World}, Rel W0 σ h w → VRs σ env tmps.toList → aresults P env h fn.results.toList = some vs → MarksR B w ds →
      (∀ v' w', Rel W0 σ h w' → VR σ (aone vs) v' → (∀ k, k < B → w'.heap[k]? = w.heap[k]?) → w'.heap.size = w.heap.size → (∀ k, Own h σ k → w'.heap[k]? = w.heap[k]?) → R (.returned v') w') →
      LeavesInM Fence.wide n P fn tmps R ds .returning w
  | [], w, Rl, hE, ha, M, hR => by
    obtain ⟨v', h1, h2⟩ := sim_out Rl hE ha
    exact ⟨v', h1, hR v' w Rl h2 (fun _ _ => rfl) rfl fun _ _ => rfl⟩
  | d :: ds, w, Rl, hE, ha, M, hR => by
    obtain ⟨r, h1, h2, h3⟩ := M.all d (by simp)
    have hlt := (Array.getElem?_eq_some_iff.1 h3).1
    have R' := Rl.turnOther h3 (Nat.le_trans hW h2) (.deferred none)
    have hno := Rl.notOwn h3
    refine ⟨by simp, .inl ⟨r, w.putObj r (.deferred none), h1, ?_, ?_⟩⟩
    · have hg : (getObj r).run P w = .ok (.deferred (some [])) w := by simp [getObj, Sem.run, h3]
      have hs : (Go.setObj r (.deferred none)).run P w = .ok () (w.putObj r (.deferred none)) := by simp [Go.setObj, Sem.run, h3, World.putObj]
      simp [Instr.takeDeferred, hg, hs]
    · refine sim_leave hW ds R' hE ha ⟨by simpa using M.size, fun d' hd' => ?_, (List.pairwise_cons.1 M.nodup).2⟩ fun v' w' Rw hv hk hs ho => ?_
      · obtain ⟨r', g1, g2, g3⟩ := M.all d' (by simp [hd'])
        refine ⟨r', g1, g2, ?_⟩
        have hne : r' ≠ r := fun e => (List.pairwise_cons.1 M.nodup).1 d' hd' (by rw [h1, g1, e])
        rw [World.putObj_heap_other hne]; exact g3
      · refine hR v' w' Rw hv (fun k hkB => ?_) (by simpa using hs) fun k hk' => ?_
        · rw [hk k hkB, World.putObj_heap_other (by omega)]
        · rw [ho k hk', World.putObj_heap_other]
          rintro rfl; exact hno hk'

/-- A function, on arguments. -/
theorem sim_body {CALL : CallT} (SC : SoundC P CALL) {LS : LoopT} {f : FuncId} {args : List AV} {args' : Array Value} {v : AV} {h' : AHeap} (hL : ∀ fd c, P.funcs[f]? = some fd → fd.body = some c → LoopsOk P LS c)
    (ha : (bodyE P CALL LS f).get args h = some (v, h')) (R : Rel W0 σ h w) (hargs : VRs σ args args'.toList) :
    (∃ fd, P.funcs[f]? = some fd ∧ fd.name ≠ "runtime.NumGoroutine" ∧ fd.body.isSome = true) ∧ ∀ n, CallsIn Fence.wide n P f args' w (RetR W0 σ h w v h') := by
  change abody P CALL LS f args h (fun v h => some (v, h)) = some (v, h') at ha
  unfold abody at ha
  split at ha
  · rename_i fn hfn
    split at ha
    · rename_i c hc
      split at ha
      · simp at ha
      · rename_i hname
        refine ⟨⟨fn, hfn, hname, by rw [hc]; rfl⟩, fun n => ?_⟩
        have hlen : args.length = args'.size := by rw [hargs.length]; simp
        have A : At W0 w.heap.size σ h (args ++ List.replicate (fn.ntmps - args.length) (.tup [])) { tmps := args' ++ Array.replicate (fn.ntmps - args'.size) undef, defers := [] } w := by
          refine ⟨R, ?_, ⟨Nat.le_refl _, by simp, .nil⟩⟩
          simp only [Array.toList_append, Array.toList_replicate, hlen]
          exact hargs.append (VRs.replicate (.tup [] [] .nil) _)
        refine callsIn_of_wp_marks hfn hc trivial ?_
        refine sim_code SC c (.inl rfl) (hL fn c hfn hc) ha A fun e env' h'' σ' a' w' hk s A' => ?_
        have main : ∀ vs, aresults P env' h'' fn.results.toList = some vs → v = aone vs → h' = h'' → LeavesInM Fence.wide n P fn a'.tmps (RetR W0 σ h w v h') a'.defers .returning w' := by
          rintro vs hvs rfl rfl
          refine sim_leave R.below.size a'.defers A'.rel A'.env hvs A'.marks fun v' w'' Rw hv hk hs ho => ?_
          refine ⟨v', σ', rfl, ⟨s.ext, s.own, fun b hb hn => ?_, by rw [hs]; exact s.size⟩, Rw, hv⟩
          rw [hk b hb]; exact s.same b hb hn
        cases e with
        | norm =>
          simp only [Option.bind_eq_some_iff, Option.some.injEq, Prod.mk.injEq] at hk
          obtain ⟨vs, hvs, h1, h2⟩ := hk
          exact main vs hvs h1.symm h2.symm
        | ret =>
          simp only [Option.bind_eq_some_iff, Option.some.injEq, Prod.mk.injEq] at hk
          obtain ⟨vs, hvs, h1, h2⟩ := hk
          exact main vs hvs h1.symm h2.symm
        | exit i => simp at hk
    · simp at ha
  · simp at ha

/-! ### A round -/

theorem putSlots_vr : ∀ {l : List (Tmp × AV)} {m : List (Tmp × Value)} {env : Env} {tmps : Array Value}, l.map (·.1) = m.map (·.1) → VRs σ (l.map (·.2)) (m.map (·.2)) → VRs σ env tmps.toList →
    VRs σ (putSlots env l) (m.foldl (fun tmps (p : Tmp × Value) => tmps.setIfInBounds p.1 p.2) tmps).toList
  | [], [], _, _, _, _, hE => hE
  | [], _ :: _, _, _, h1, _, _ => by simp at h1
  | _ :: _, [], _, _, h1, _, _ => by simp at h1
  | (t, a) :: l, (t', v) :: m, env, tmps, h1, h2, hE => by
    simp only [List.map_cons, List.cons.injEq] at h1 h2
    obtain ⟨rfl, h1⟩ := h1
    cases h2 with
    | cons _ _ _ _ hv ht =>
    simp only [putSlots, List.foldl_cons]
    refine putSlots_vr h1 ht ?_
    rw [Array.toList_setIfInBounds]
    exact hE.set t hv

theorem sim_round {CALL : CallT} (SC : SoundC P CALL) {l : Nat} {args : List AV} {args' : Array Value} {v : AV} {h' : AHeap} (ha : around P CALL l args h (fun v h => some (v, h)) = some (v, h')) (R : Rel W0 σ h w) (hargs : VRs σ args args'.toList)
    {p : Plc} (hp : σ[l]? = some p) : ∃ L, w.heap[p.blk]? = some (.loop L) ∧ args'.size = L.params.size ∧
        ∀ n, RoundIn Fence.wide n P p.blk L.fn ((L.params.zip args').foldl (fun tmps (t, a) => tmps.setIfInBounds t a) L.tmps) L.assign L.body w (RetR W0 σ h w v h') := by
  unfold around at ha
  split at ha
  · rename_i L hl
    split at ha
    · rename_i hc
      obtain ⟨hst, hlen, hqa, hqb⟩ := hc
      obtain ⟨L', hL', hLR⟩ := lp_at R hl hp
      have hsz : args'.size = L'.params.size := by
        have h1 := hargs.length
        have h2 : L'.params.toList.length = L.ps.length := by rw [hLR.ps]
        simp at h1 h2; omega
      refine ⟨L', hL', hsz, fun n => ?_⟩
      refine roundIn_of_wpIn trivial ?_
      have hE0 : VRs σ (putSlots L.env (L.ps.zip args)) ((L'.params.zip args').foldl (fun tmps (t, a) => tmps.setIfInBounds t a) L'.tmps).toList := by
        rw [← Array.foldl_toList]
        refine putSlots_vr (m := (L'.params.zip args').toList) ?_ ?_ hLR.env
        · rw [Array.toList_zip, hLR.ps]
          have h1 := hargs.length
          rw [List.map_fst_zip (by omega), List.map_fst_zip (by simp at h1 ⊢; omega)]
        · rw [Array.toList_zip, hLR.ps]
          rw [List.map_snd_zip, List.map_snd_zip]
          · exact hargs
          · have h1 := hargs.length; simp at h1 ⊢; omega
          · omega
      have A : At W0 w.heap.size σ h (putSlots L.env (L.ps.zip args)) { tmps := (L'.params.zip args').foldl (fun tmps (t, a) => tmps.setIfInBounds t a) L'.tmps, defers := [] } w :=
        ⟨R, hE0, ⟨Nat.le_refl _, by simp, .nil⟩⟩
      rw [hLR.asg]
      refine sim_code (ro := some p.blk) SC L.asg (.inr hqa) (fun b _ s hs => by simp at hs) ha A fun e env1 h1 σ1 a1 w1 hk s1 A1 => ?_
      cases e with
      | exit i => simp at hk
      | ret => simp at hk
      | norm =>
        simp only at hk
        split at hk
        · rename_i L1 hl1
          split at hk
          · rename_i hst1
            have hp1 : σ1[l]? = some p := by
              obtain ⟨τ, rfl⟩ := s1.ext
              rw [List.getElem?_append_left (List.getElem?_eq_some_iff.1 hp).1]; exact hp
            obtain ⟨L1', hL1', hLR1⟩ := lp_at A1.rel hl1 hp1
            obtain ⟨R2, s2⟩ := A1.rel.setLoop (L2 := { L1 with st := .busy }) (L2' := { L1' with state := .busy }) hl1 hp1 ⟨rfl, hLR1.pend, hLR1.env, hLR1.ps, hLR1.asg, hLR1.body⟩
            refine ⟨w1.putObj p.blk (.loop { L1' with state := .busy }), ?_, ?_⟩
            · have : L1'.state = .ready := by rw [hLR1.st, hst1]
              simp [Instr.beginRound, run_getLoop hL1', run_setLoop hL1', this]
            · rw [hLR.body]
              have A2 : At W0 w.heap.size σ1 (h1.set l (.lp { L1 with st := .busy })) env1 a1 (w1.putObj p.blk (.loop { L1' with state := .busy })) := ⟨R2, s2.vrs A1.env, A1.marks.step A1.rel s2⟩
              refine sim_code (ro := some p.blk) SC L.body (.inr hqb) (fun b _ s hs => by simp at hs) hk A2 fun e env3 h3 σ3 a3 w3 hk3 s3 A3 => ?_
              split at hk3
              · rename_i L3 hl3
                have hp3 : σ3[l]? = some p := by
                  obtain ⟨τ, rfl⟩ := s3.ext
                  rw [List.getElem?_append_left (List.getElem?_eq_some_iff.1 hp1).1]; exact hp1
                obtain ⟨L3', hL3', hLR3⟩ := lp_at A3.rel hl3 hp3
                have s13 := (s1.trans s2).trans s3
                have done : ∀ (x : AEx) (j : Option Code) (st : LoopState) (pend : Option AEx), j = pend.map exCode → st = (if j.isNone then .ready else .done) → v = .bool j.isNone → h' = h3.set l (.lp { L3 with st := st, pend := pend }) →
                    ∃ v' w', (Instr.endRound p.blk j).run P w3 = .ok v' w' ∧ RetR W0 σ h w v h' (.returned v') w' := by
                  rintro x j st pend hj rfl rfl rfl
                  obtain ⟨R4, s4⟩ := A3.rel.setLoop (L2 := { L3 with st := (if j.isNone then .ready else .done), pend := pend }) (L2' := { L3' with state := (if j.isNone then .ready else .done), pending := j }) hl3 hp3
                    ⟨rfl, hj, hLR3.env, hLR3.ps, hLR3.asg, hLR3.body⟩
                  refine ⟨.bool j.isNone, w3.putObj p.blk (.loop { L3' with state := (if j.isNone then .ready else .done), pending := j }), ?_, _, σ3, rfl, s13.trans s4, R4, .bool _⟩
                  simp [Instr.endRound, run_getLoop hL3', run_setLoop hL3']
                cases e with
                | norm =>
                  simp only [Option.some.injEq, Prod.mk.injEq] at hk3
                  exact done .norm none _ none rfl rfl hk3.1.symm hk3.2.symm
                | exit i =>
                  simp only [Option.some.injEq, Prod.mk.injEq] at hk3
                  exact done .norm (some (.exit i)) _ (some (.exit i)) rfl rfl hk3.1.symm hk3.2.symm
                | ret =>
                  simp only [Option.some.injEq, Prod.mk.injEq] at hk3
                  exact done .norm (some .ret) _ (some .ret) rfl rfl hk3.1.symm hk3.2.symm
              · simp at hk3
          · simp at hk
        · simp at hk
    · simp at ha
  · simp at ha

end Go.Abs
