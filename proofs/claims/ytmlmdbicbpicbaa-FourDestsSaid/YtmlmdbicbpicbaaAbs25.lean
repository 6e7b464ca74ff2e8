/- A call told of a part of memory, that writes there: the part is put back, what is new stands behind. -/
import Derived.Test.YtmlmdbicbpicbaaAbs24
set_option autoImplicit false
set_option linter.unusedVariables false
set_option linter.unusedSimpArgs false
namespace Go.Abs
variable {P : Program} {W0 : World} {σ σ' : Sig} {h h' : AHeap} {w : World}

def setAll : AHeap → List Nat → AHeap → AHeap
  | h, [], _ => h
  | h, _ :: _, [] => h
  | h, i :: s, b :: bs => setAll (h.set i b) s bs

theorem setAll_length : ∀ (s : List Nat) (bs h : AHeap), (setAll h s bs).length = h.length
  | [], _, _ => by rw [setAll]
  | _ :: _, [], _ => by rw [setAll]
  | i :: s, b :: bs, h => by rw [setAll, setAll_length s bs]; simp
theorem setAll_other : ∀ (s : List Nat) (bs h : AHeap) (k : Nat), k ∉ s → (setAll h s bs)[k]? = h[k]?
  | [], _, _, _, _ => by rw [setAll]
  | _ :: _, [], _, _, _ => by rw [setAll]
  | i :: s, b :: bs, h, k, hk => by
    rw [setAll, setAll_other s bs _ k (fun h => hk (by simp [h])), List.getElem?_set_ne (by rintro rfl; exact hk (by simp))]
theorem setAll_get : ∀ (s : List Nat) (bs h : AHeap) (j i : Nat), s.Nodup → s[j]? = some i → i < h.length → j < bs.length → (setAll h s bs)[i]? = bs[j]?
  | [], _, _, _, _, _, h, _, _ => by simp at h
  | _ :: _, [], _, _, _, _, _, _, h => by simp at h
  | a :: s, b :: bs, h, 0, i, hn, hs, hi, hj => by
    simp at hs; subst hs
    simp only [List.nodup_cons] at hn
    rw [setAll, setAll_other s bs _ _ hn.1]; simp [hi]
  | a :: s, b :: bs, h, j + 1, i, hn, hs, hi, hj => by
    simp only [List.nodup_cons] at hn
    rw [setAll, setAll_get s bs _ j i hn.2 (by simpa using hs) (by simpa using hi) (by simpa using hj)]; simp

/-- Where the part's blocks lie in the whole, and the new ones. -/
def backOf (s t : List Nat) (n : Nat) (j : Nat) : Option Nat := match s[j]? with
  | some i => some i
  | none => (posOf t j).map (n + ·)

theorem backOf_old {s t : List Nat} {n j i : Nat} (h : s[j]? = some i) : backOf s t n j = some i := by simp [backOf, h]
theorem backOf_inj {s t : List Nat} {n : Nat} (hs : s.Nodup) (hlt : ∀ i ∈ s, i < n) {j j' i : Nat} (h1 : backOf s t n j = some i) (h2 : backOf s t n j' = some i) : j = j' := by
  unfold backOf at h1 h2
  split at h1
  · rename_i i1 e1
    simp at h1; subst h1
    split at h2
    · rename_i i2 e2
      simp at h2; subst h2
      have g1 := posOf_mem hs e1
      have g2 := posOf_mem hs e2
      rw [g1] at g2; cases g2; rfl
    · simp only [Option.map_eq_some_iff] at h2
      obtain ⟨k, _, hk⟩ := h2
      have := hlt _ (List.mem_iff_getElem?.2 ⟨_, e1⟩)
      omega
  · simp only [Option.map_eq_some_iff] at h1
    obtain ⟨k, hk, rfl⟩ := h1
    split at h2
    · rename_i i2 e2
      simp at h2
      have := hlt _ (List.mem_iff_getElem?.2 ⟨_, e2⟩)
      omega
    · simp only [Option.map_eq_some_iff] at h2
      obtain ⟨k', hk', e⟩ := h2
      have : k' = k := by omega
      subst this
      have g1 := posOf_get hk
      have g2 := posOf_get hk'
      rw [g1] at g2; cases g2; rfl

theorem frame_call {f : FuncId} {E : Ent} (hE : SoundE P f E) (R : Rel W0 σ h w) {args args1 : List AV} {args' : Array Value} (hv : VRs σ args args'.toList) {v1 v : AV} {s t : List Nat} {h1 h1' bs new : AHeap}
    (hn : s.Nodup) (ha : ARs (posOf s) args args1) (hb : BRs (posOf s) h s h1) (hfree : ∀ i ∈ s, ∀ b, h[i]? = some b → b.isRo = false ∧ ∀ q c, b.par = some q → h[q]? = some c → c.mine = false)
    (hrun : E.get args1 h1 = some (v1, h1')) (htn : ∀ k ∈ t, s.length ≤ k) (hbs : BRs (backOf s t h.length) h1' (List.range s.length) bs) (hnew : BRs (backOf s t h.length) h1' t new) (hvr : AR (backOf s t h.length) v1 v) (htd : t.Nodup) :
    (∃ fd, P.funcs[f]? = some fd ∧ fd.name ≠ "runtime.NumGoroutine" ∧ fd.body.isSome = true) ∧ ∀ n, CallsIn Fence.wide n P f args' w (RetR W0 σ h w v (setAll h s bs ++ new)) := by
  obtain ⟨R1, hown⟩ := R.gc hb hn
  obtain ⟨hfd, hcalls⟩ := hE hrun R1 (ha.vr subSig_to hv)
  refine ⟨hfd, fun n => CallsIn.mono (hcalls n) fun e w' hr => ?_⟩
  obtain ⟨v', σ1', rfl, s1, R1', hv'⟩ := hr
  have hslt : ∀ i ∈ s, i < h.length := by
    intro i hi
    obtain ⟨j, hj⟩ := List.mem_iff_getElem?.1 hi
    have hjl := (List.getElem?_eq_some_iff.1 hj).1
    obtain ⟨i', b, e1, e2, _⟩ := hb.get (List.getElem?_eq_getElem (show j < h1.length by rw [hb.length]; exact hjl))
    rw [hj] at e1; cases e1
    exact (List.getElem?_eq_some_iff.1 e2).1
  have hbl : bs.length = s.length := by simpa using hbs.length
  have hnl : new.length = t.length := hnew.length
  -- every block of the new whole
  have cases3 : ∀ {i : Nat} {b : ABlk} {p : Plc}, (setAll h s bs ++ new)[i]? = some b → (σ ++ subSig σ1' t)[i]? = some p →
      (i < h.length ∧ i ∉ s ∧ h[i]? = some b ∧ σ[i]? = some p) ∨ (∃ j b0, backOf s t h.length j = some i ∧ h1'[j]? = some b0 ∧ BR (backOf s t h.length) b0 b ∧ σ1'[j]? = some p) := by
    intro i b p h1e h2e
    rcases Nat.lt_or_ge i h.length with hi | hi
    · rw [List.getElem?_append_left (by rw [setAll_length]; exact hi)] at h1e
      rw [List.getElem?_append_left (by rw [R.len]; exact hi)] at h2e
      by_cases his : i ∈ s
      · right
        obtain ⟨j, hj⟩ := List.mem_iff_getElem?.1 his
        have hjl := (List.getElem?_eq_some_iff.1 hj).1
        rw [setAll_get s bs h j i hn hj hi (by omega)] at h1e
        obtain ⟨j', b0, e1, e2, e3⟩ := hbs.get h1e
        rw [List.getElem?_range hjl] at e1; cases e1
        refine ⟨j, b0, backOf_old hj, e2, e3, ?_⟩
        obtain ⟨τ, hτ⟩ := s1.ext
        have : (subSig σ s)[j]? = some p := subSig_get hj h2e
        rw [hτ, List.getElem?_append_left (List.getElem?_eq_some_iff.1 this).1]; exact this
      · rw [setAll_other s bs h i his] at h1e
        exact .inl ⟨hi, his, h1e, h2e⟩
    · right
      rw [List.getElem?_append_right (by rw [setAll_length]; exact hi), setAll_length] at h1e
      rw [List.getElem?_append_right (by rw [R.len]; exact hi), R.len] at h2e
      obtain ⟨k, b0, e1, e2, e3⟩ := hnew.get h1e
      have hk := htn k (List.mem_iff_getElem?.2 ⟨_, e1⟩)
      refine ⟨k, b0, ?_, e2, e3, ?_⟩
      · unfold backOf
        rw [List.getElem?_eq_none hk, posOf_mem htd e1]
        simp; omega
      · obtain ⟨p', hp', _⟩ := R1'.get e2
        have := subSig_get e1 hp'
        rw [h2e] at this; cases this; exact hp'
  have sigTo : SigTo (backOf s t h.length) σ1' (σ ++ subSig σ1' t) := by
    intro j i p hj hp
    unfold backOf at hj
    split at hj
    · rename_i i1 e1
      simp at hj; subst hj
      have hi := hslt i1 (List.mem_iff_getElem?.2 ⟨_, e1⟩)
      rw [List.getElem?_append_left (by rw [R.len]; exact hi)]
      obtain ⟨τ, hτ⟩ := s1.ext
      have hi' : σ[i1]? = some (σ[i1]'(by rw [R.len]; exact hi)) := List.getElem?_eq_getElem _
      have h3 := subSig_get e1 hi'
      rw [hτ, List.getElem?_append_left (List.getElem?_eq_some_iff.1 h3).1, h3] at hp
      rw [hi']; exact hp
    · simp only [Option.map_eq_some_iff] at hj
      obtain ⟨k, hk, rfl⟩ := hj
      rw [List.getElem?_append_right (by rw [R.len]; omega), R.len, Nat.add_sub_cancel_left]
      exact subSig_get (posOf_get hk) hp
  -- an old block that is no part: nothing of the part lies there
  have apart : ∀ {i : Nat} {b : ABlk} {p : Plc}, i ∉ s → h[i]? = some b → σ[i]? = some p → b.void = false → ¬ Own h1 (subSig σ s) p.blk := by
    intro i b p his hb0 hp hvoid ⟨j, bj, q, g1, g2, g3, g4⟩
    obtain ⟨k, c, e1, e2, e3⟩ := hb.get g1
    obtain ⟨q', hq', _⟩ := R.get e2
    have hqq := subSig_get e1 hq'
    rw [g2] at hqq; cases hqq
    have hks : k ∈ s := List.mem_iff_getElem?.2 ⟨_, e1⟩
    have hne : i ≠ k := by rintro rfl; exact his hks
    have hcm := (e3.mine g3).1
    obtain ⟨hro, hpar⟩ := hfree k hks c e2
    have hbig := R.own e2 hq' hcm
    cases hm : b.mine with
    | true =>
      rcases R.sep hne hb0 e2 hp hq' hm hcm g4.symm with ⟨_, g⟩ | ⟨g, _⟩
      · rw [hro] at g; simp at g
      · have := hpar _ _ g hb0; rw [hm] at this; simp at this
    | false =>
      cases b with
      | cells vs e md par =>
        cases md with
        | far =>
          have hvs : vs ≠ [] := by rintro rfl; simp [ABlk.void] at hvoid
          have := R.far hb0 hp hvs
          omega
        | own => cases vs with
          | nil => simp [ABlk.void] at hvoid
          | cons => simp [ABlk.mine] at hm
        | ro => cases vs with
          | nil => simp [ABlk.void] at hvoid
          | cons => simp [ABlk.mine] at hm
      | dead => simp [ABlk.void] at hvoid
      | mp => simp [ABlk.mine] at hm
      | lp => simp [ABlk.mine] at hm
  have ownBack : ∀ {j : Nat} {b0 b : ABlk} {p : Plc}, h1'[j]? = some b0 → BR (backOf s t h.length) b0 b → σ1'[j]? = some p → b.mine = true → Own h1 (subSig σ s) p.blk ∨ w.heap.size ≤ p.blk :=
    fun e2 e3 e4 hm => s1.own _ ⟨_, _, _, e2, e4, (e3.mine hm).1, rfl⟩
  refine ⟨v', σ ++ subSig σ1' t, rfl, ⟨⟨_, rfl⟩, ?_, fun b hb' hno => s1.same b hb' fun ho => hno (hown b ho), s1.size⟩, ?_, hvr.vr sigTo hv'⟩
  · rintro x ⟨i, b, p, g1, g2, g3, rfl⟩
    rcases cases3 g1 g2 with ⟨_, _, k1, k2⟩ | ⟨j, b0, k0, k1, k2, k3⟩
    · exact .inl ⟨i, b, p, k1, k2, g3, rfl⟩
    · rcases ownBack k1 k2 k3 g3 with h4 | h4
      · exact .inl (hown _ h4)
      · exact .inr h4
  · refine ⟨by simp [setAll_length, R.len, hnl, subSig], fun {i b p} g1 g2 => ?_, fun {i vs e par p} g1 g2 hvs => ?_, fun {i b p} g1 g2 hm => ?_, fun {i j b b' p q} hij g1 g2 g3 g4 m1 m2 hpq => ?_, R1'.below⟩
    · rcases cases3 g1 g2 with ⟨_, k0, k1, k2⟩ | ⟨j, b0, k0, k1, k2, k3⟩
      · exact ((R.obj k1 k2).grow _).keep fun hd => s1.same _ ((R.obj k1 k2).lt hd) (apart k0 k1 k2 hd)
      · exact k2.obj sigTo (R1'.obj k1 k3)
    · rcases cases3 g1 g2 with ⟨_, k0, k1, k2⟩ | ⟨j, b0, k0, k1, k2, k3⟩
      · exact R.far k1 k2 hvs
      · cases k2 with
        | cells vs0 _ _ _ par0 _ ha hp =>
          refine R1'.far k1 k3 fun e => ?_
          subst e
          exact hvs (List.eq_nil_of_length_eq_zero (by simpa using ha.length))
    · rcases cases3 g1 g2 with ⟨_, k0, k1, k2⟩ | ⟨j, b0, k0, k1, k2, k3⟩
      · exact R.own k1 k2 hm
      · exact R1'.own k1 k3 (k2.mine hm).1
    · have mixed : ∀ {i j : Nat} {b b' : ABlk} {p q : Plc} {j0 : Nat} {b0 : ABlk}, i ∉ s → h[i]? = some b → σ[i]? = some p → h1'[j0]? = some b0 → BR (backOf s t h.length) b0 b' → σ1'[j0]? = some q → b.mine = true → b'.mine = true → p.blk = q.blk → False := by
        intro i j b b' p q j0 b0 a1 a2 a3 a4 a5 a6 n1 n2 e
        have hv0 := ABlk.mine_ne n1
        rcases ownBack a4 a5 a6 n2 with h5 | h5
        · rw [← e] at h5; exact apart a1 a2 a3 hv0 h5
        · have := (R.obj a2 a3).lt hv0; omega
      rcases cases3 g1 g3 with ⟨_, k0, k1, k2⟩ | ⟨j0, b0, k0, k1, k2, k3⟩
      · rcases cases3 g2 g4 with ⟨_, l0, l1, l2⟩ | ⟨j1, b1, l0, l1, l2, l3⟩
        · exact R.sep hij k1 l1 k2 l2 m1 m2 hpq
        · exact (mixed (j := j) k0 k1 k2 l1 l2 l3 m1 m2 hpq).elim
      · rcases cases3 g2 g4 with ⟨_, l0, l1, l2⟩ | ⟨j1, b1, l0, l1, l2, l3⟩
        · exact (mixed (j := i) l0 l1 l2 k1 k2 k3 m2 m1 hpq.symm).elim
        · have hne : j0 ≠ j1 := by rintro rfl; rw [k0] at l0; cases l0; exact hij rfl
          rcases R1'.sep hne k1 l1 k3 l3 (k2.mine m1).1 (l2.mine m2).1 hpq with ⟨a1, a2⟩ | ⟨a1, a2⟩
          · left
            refine ⟨?_, by rw [(l2.mine m2).2]; exact a2⟩
            cases k2 with
            | dead => simp [ABlk.mine] at m1
            | cells _ _ _ _ par par' _ hp => exact hp _ _ a1 l0
            | mp => simp [ABlk.par] at a1
            | lp => simp [ABlk.par] at a1
          · right
            refine ⟨?_, by rw [(k2.mine m1).2]; exact a2⟩
            cases l2 with
            | dead => simp [ABlk.mine] at m2
            | cells _ _ _ _ par par' _ hp => exact hp _ _ a1 k0
            | mp => simp [ABlk.par] at a1
            | lp => simp [ABlk.par] at a1

/-- A block is given up. -/
theorem Rel.kill (R : Rel W0 σ h w) (q : Option Nat) : Rel W0 σ (killp h q) w ∧ ∀ b, Own (killp h q) σ b → Own h σ b := by
  have key : ∀ {i : Nat} {b : ABlk}, (killp h q)[i]? = some b → b = .dead ∨ h[i]? = some b := fun hb => (killp_get hb).imp id And.left
  refine ⟨⟨by rw [killp_length]; exact R.len, fun h1 h2 => ?_, fun h1 h2 => ?_, fun h1 h2 hm => ?_, fun hij h1 h2 h3 h4 m1 m2 e => ?_, R.below⟩, ?_⟩
  · rcases key h1 with rfl | h1
    · trivial
    · exact R.obj h1 h2
  · rcases key h1 with h0 | h1
    · cases h0
    · exact R.far h1 h2
  · rcases key h1 with rfl | h1
    · simp [ABlk.mine] at hm
    · exact R.own h1 h2 hm
  · rcases key h1 with rfl | h1
    · simp [ABlk.mine] at m1
    · rcases key h2 with rfl | h2
      · simp [ABlk.mine] at m2
      · exact R.sep hij h1 h2 h3 h4 m1 m2 e
  · rintro x ⟨i, b, p, h1, h2, h3, rfl⟩
    rcases key h1 with rfl | h1
    · simp [ABlk.mine] at h3
    · exact ⟨i, b, p, h1, h2, h3, rfl⟩

/-- What a call does that is told of a part of memory. -/
def Frames (P : Program) (f : FuncId) (args : List AV) (h : AHeap) (v : AV) (h' : AHeap) : Prop :=
  ∃ (s t : List Nat) (args1 : List AV) (h1 : AHeap) (v1 : AV) (h1' bs new : AHeap), s.Nodup ∧ t.Nodup ∧ (∀ k ∈ t, s.length ≤ k) ∧ ARs (posOf s) args args1 ∧ BRs (posOf s) h s h1 ∧ (∀ i ∈ s, ∀ b, h[i]? = some b → b.isRo = false ∧ ∀ q c, b.par = some q → h[q]? = some c → c.mine = false) ∧
    (∃ E, SoundE P f E ∧ E.get args1 h1 = some (v1, h1')) ∧ BRs (backOf s t h.length) h1' (List.range s.length) bs ∧ BRs (backOf s t h.length) h1' t new ∧ AR (backOf s t h.length) v1 v ∧ h' = setAll h s bs ++ new

theorem frame_sound {f : FuncId} {g : GEnt} (hg : ∀ args h v h', g args h = some (true, v, h') → ∃ q, Frames P f args (killp h q) v h') : SoundE P f (entF g) := by
  intro W0 σ h w args args' v h' hx R hv
  obtain ⟨q, s, t, args1, h1, v1, h1', bs, new, hn, htd, htn, ha, hb, hfree, ⟨E, hE, hrun⟩, hbs, hnew, hvr, rfl⟩ := hg _ _ _ _ (entF_get hx)
  obtain ⟨R2, ho⟩ := R.kill q
  obtain ⟨g1, g2⟩ := frame_call hE R2 hv hn ha hb hfree hrun htn hbs hnew hvr htd
  refine ⟨g1, fun n => CallsIn.mono (g2 n) fun e w' hr => ?_⟩
  obtain ⟨v', σ', e1, s1, R', hv'⟩ := hr
  refine ⟨v', σ', e1, ⟨s1.ext, fun b hb => (s1.own b hb).imp (ho b) id, fun b hb hn => s1.same b hb fun h => hn (ho b h), s1.size⟩, R', hv'⟩

end Go.Abs
