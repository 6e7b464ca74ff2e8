/- Memory told anew: blocks that nobody names are left out, those that stay get new numbers; loops whose memory is told anew behind each round. -/
import Derived.Test.YtmlmdbicbpicbaaAbs23
set_option autoImplicit false
set_option linter.unusedVariables false
set_option linter.unusedSimpArgs false
namespace Go.Abs
variable {P : Program} {W0 : World} {σ σ' : Sig} {h h' : AHeap} {w : World}

mutual
/-- The same value, its blocks by their new numbers. -/
inductive AR (ρ : Nat → Option Nat) : AV → AV → Prop
  | any (a : AV) : AR ρ a .any
  | free (a : AV) (hf : a.free = true) : AR ρ a a
  | ptr (i j o : Nat) (h : ρ i = some j) : AR ρ (.ptr (some (i, o))) (.ptr (some (j, o)))
  | sl (i j o l c : Nat) (e : Bool) (h : ρ i = some j) : AR ρ (.sl (some (i, o)) l c e) (.sl (some (j, o)) l c e)
  | map (i j : Nat) (h : ρ i = some j) : AR ρ (.map (some i)) (.map (some j))
  | yld (i j : Nat) (h : ρ i = some j) : AR ρ (.fn (.yield i) []) (.fn (.yield j) [])
  | fn (f : FuncId) (c c' : List AV) (h : ARs ρ c c') : AR ρ (.fn (.func f) c) (.fn (.func f) c')
  | agg (l l' : List AV) (h : ARs ρ l l') : AR ρ (.agg l) (.agg l')
  | tup (l l' : List AV) (h : ARs ρ l l') : AR ρ (.tup l) (.tup l')
inductive ARs (ρ : Nat → Option Nat) : List AV → List AV → Prop
  | nil : ARs ρ [] []
  | free (l : List AV) (hf : AV.frees l = true) : ARs ρ l l
  | cons (a a' : AV) (l l' : List AV) (h : AR ρ a a') (t : ARs ρ l l') : ARs ρ (a :: l) (a' :: l')
end

def SigTo (ρ : Nat → Option Nat) (σ σ' : Sig) : Prop := ∀ i j p, ρ i = some j → σ[i]? = some p → σ'[j]? = some p

mutual
theorem AR.vr {ρ : Nat → Option Nat} (H : SigTo ρ σ σ') : ∀ {a a' : AV} {v : Value}, AR ρ a a' → VR σ a v → VR σ' a' v
  | _, _, v, .any _, _ => .any v
  | _, _, _, .free _ hf, hv => hv.free hf
  | _, _, _, .ptr i j o h, hv => by
    cases hv with
    | ptr _ _ p hp => exact .ptr _ _ p (H _ _ _ h hp)
  | _, _, _, .sl i j o l c e h, hv => by
    cases hv with
    | sl _ _ _ _ _ p a c' hp hl hc ha => exact .sl _ _ _ _ _ p a c' (H _ _ _ h hp) hl hc ha
    | sln _ _ p hp hc => exact .sln _ _ p (H _ _ _ h hp) hc
  | _, _, _, .map i j h, hv => by
    cases hv with
    | map _ p hp => exact .map _ p (H _ _ _ h hp)
  | _, _, _, .yld i j h, hv => by
    cases hv with
    | yld _ p hp => exact .yld _ p (H _ _ _ h hp)
  | _, _, _, .fn f c c' h, hv => by
    cases hv with
    | fn _ _ cap' hc => exact .fn _ _ _ (ARs.vr H h hc)
  | _, _, _, .agg l l' h, hv => by
    cases hv with
    | agg _ cs hc => exact .agg _ _ (ARs.vr H h hc)
  | _, _, _, .tup l l' h, hv => by
    cases hv with
    | tup _ cs hc => exact .tup _ _ (ARs.vr H h hc)
theorem ARs.vr {ρ : Nat → Option Nat} (H : SigTo ρ σ σ') : ∀ {a a' : List AV} {v : List Value}, ARs ρ a a' → VRs σ a v → VRs σ' a' v
  | _, _, _, .nil, .nil => .nil
  | _, _, _, .free _ hf, hv => hv.free hf
  | _, _, _, .cons _ _ _ _ h t, .cons _ _ _ _ hv hm => .cons _ _ _ _ (AR.vr H h hv) (ARs.vr H t hm)
end

theorem ARs.length {ρ : Nat → Option Nat} : ∀ {l l' : List AV}, ARs ρ l l' → l'.length = l.length
  | _, _, .nil => rfl
  | _, _, .free _ _ => rfl
  | _, _, .cons _ _ _ _ _ t => by simp [t.length]

inductive AREs (ρ : Nat → Option Nat) : List (AV × AV × Nat) → List (AV × AV × Nat) → Prop
  | nil : AREs ρ [] []
  | free (l : List (AV × AV × Nat)) (hf : ∀ e ∈ l, e.1.free = true ∧ e.2.1.free = true) : AREs ρ l l
  | cons (k k' v v' : AV) (b : Nat) (l l' : List (AV × AV × Nat)) (hk : AR ρ k k') (hv : AR ρ v v') (t : AREs ρ l l') : AREs ρ ((k, v, b) :: l) ((k', v', b) :: l')

theorem ERs.free : ∀ {l : List (AV × AV × Nat)} {m : List MapEntry}, ERs σ l m → (∀ e ∈ l, e.1.free = true ∧ e.2.1.free = true) → ERs σ' l m
  | _, _, .nil, _ => .nil
  | _, _, .cons k v b e l m hk hv hb t, hf => .cons k v b e l m (hk.free (hf (k, v, b) (by simp)).1) (hv.free (hf (k, v, b) (by simp)).2) hb (t.free fun x hx => hf x (by simp [hx]))

theorem AREs.ers {ρ : Nat → Option Nat} (H : SigTo ρ σ σ') : ∀ {l l' : List (AV × AV × Nat)} {m : List MapEntry}, AREs ρ l l' → ERs σ l m → ERs σ' l' m
  | _, _, _, .nil, .nil => .nil
  | _, _, _, .free _ hf, he => he.free hf
  | _, _, _, .cons k k' v v' b l l' hk hv t, .cons _ _ _ e _ m gk gv gb gt => .cons _ _ _ e _ m (hk.vr H gk) (hv.vr H gv) gb (t.ers H gt)

/-- A block, told anew. -/
inductive BR (ρ : Nat → Option Nat) : ABlk → ABlk → Prop
  | dead (b : ABlk) : BR ρ b .dead
  | cells (vs vs' : List AV) (e : Nat) (md : Md) (par par' : Option Nat) (h : ARs ρ vs vs') (hp : ∀ p j, par = some p → ρ p = some j → par' = some j) : BR ρ (.cells vs e md par) (.cells vs' e md par')
  | mp (es es' : List (AV × AV × Nat)) (clk : Nat) (h : AREs ρ es es') : BR ρ (.mp es clk) (.mp es' clk)
  | lp (st : LoopState) (pend : Option AEx) (env env' : List AV) (ps : List Tmp) (asg body : Code) (h : ARs ρ env env') : BR ρ (.lp ⟨st, pend, env, ps, asg, body⟩) (.lp ⟨st, pend, env', ps, asg, body⟩)

/-- A row of one's own, or far, whose cells are no addresses. -/
theorem BR.row {ρ : Nat → Option Nat} {vs : List AV} {e : Nat} {md : Md} {par : Option Nat} (hf : AV.frees vs = true) (hp : ∀ p j, par = some p → ρ p ≠ some j) : BR ρ (.cells vs e md par) (.cells vs e md none) :=
  .cells _ _ _ _ _ _ (.free _ hf) fun p j h1 h2 => absurd h2 (hp p j h1)

theorem BR.obj {ρ : Nat → Option Nat} (H : SigTo ρ σ σ') {p : Plc} {b b' : ABlk} (hb : BR ρ b b') (ho : ObjR σ p w b) : ObjR σ' p w b' := by
  cases hb with
  | dead => trivial
  | cells vs vs' e md par par' h hp =>
    rcases ho with ⟨rfl, h0⟩ | ⟨h0, c, t, fr, h1, h2, h3⟩
    · left
      have := h.length
      exact ⟨List.eq_nil_of_length_eq_zero (by simpa using this), h0⟩
    · right
      have hl := h.length
      refine ⟨fun e => ?_, c, t, fr, h1, ?_, ?_⟩
      · subst e; exact h0 (List.eq_nil_of_length_eq_zero (by simpa using hl.symm))
      · rw [hl]; exact h.vr H h2
      · rw [hl]; exact h3
  | mp es es' clk h =>
    obtain ⟨es2, h1, h2⟩ := ho
    exact ⟨es2, h1, h.ers H h2⟩
  | lp st pend env env' ps asg body h =>
    obtain ⟨L', h1, h2⟩ := ho
    exact ⟨L', h1, ⟨h2.st, h2.pend, h.vr H h2.env, h2.ps, h2.asg, h2.body⟩⟩

theorem BR.mine {ρ : Nat → Option Nat} {b b' : ABlk} (hb : BR ρ b b') (hm : b'.mine = true) : b.mine = true ∧ b'.isRo = b.isRo := by
  cases hb with
  | dead => simp [ABlk.mine] at hm
  | cells vs vs' e md par par' h hp =>
    obtain ⟨h1, h2⟩ := mine_ne_nil hm
    refine ⟨mine_of (fun e => ?_) h2, ?_⟩
    · subst e; have := h.length; exact h1 (List.eq_nil_of_length_eq_zero (by simpa using this))
    · cases md <;> rfl
  | mp => exact ⟨rfl, rfl⟩
  | lp => exact ⟨rfl, rfl⟩

/-- Where a number stands. -/
def posOf : List Nat → Nat → Option Nat
  | [], _ => none
  | a :: t, i => if a = i then some 0 else (posOf t i).map (· + 1)

theorem posOf_get : ∀ {s : List Nat} {i j : Nat}, posOf s i = some j → s[j]? = some i
  | [], i, j, h => by simp [posOf] at h
  | a :: t, i, j, h => by
    simp only [posOf] at h
    split at h
    · rename_i e; simp at h; subst h; simp [e]
    · simp only [Option.map_eq_some_iff] at h
      obtain ⟨k, hk, rfl⟩ := h
      simpa using posOf_get hk
theorem posOf_mem : ∀ {s : List Nat} {i j : Nat}, s.Nodup → s[j]? = some i → posOf s i = some j
  | [], i, j, _, h => by simp at h
  | a :: t, i, j, hn, h => by
    simp only [List.nodup_cons] at hn
    cases j with
    | zero => simp at h; simp [posOf, h]
    | succ j =>
      simp at h
      have : a ≠ i := by rintro rfl; exact hn.1 (List.mem_iff_getElem?.2 ⟨j, h⟩)
      simp [posOf, this, posOf_mem hn.2 h]

/-- The blocks of new memory, each one told anew of an old one. -/
inductive BRs (ρ : Nat → Option Nat) (h : AHeap) : List Nat → AHeap → Prop
  | nil : BRs ρ h [] []
  | cons (i : Nat) (s : List Nat) (b b' : ABlk) (h' : AHeap) (hb : h[i]? = some b) (hr : BR ρ b b') (t : BRs ρ h s h') : BRs ρ h (i :: s) (b' :: h')

theorem BRs.length {ρ : Nat → Option Nat} : ∀ {s : List Nat} {h' : AHeap}, BRs ρ h s h' → h'.length = s.length
  | _, _, .nil => rfl
  | _, _, .cons _ _ _ _ _ _ _ t => by simp [t.length]
theorem BRs.get {ρ : Nat → Option Nat} : ∀ {s : List Nat} {h' : AHeap}, BRs ρ h s h' → ∀ {j : Nat} {b' : ABlk}, h'[j]? = some b' → ∃ i b, s[j]? = some i ∧ h[i]? = some b ∧ BR ρ b b'
  | _, _, .nil, j, b', e => by simp at e
  | _, _, .cons i s b b2 h' hb hr t, 0, b', e => by simp at e; subst e; exact ⟨i, b, rfl, hb, hr⟩
  | _, _, .cons i s b b2 h' hb hr t, j + 1, b', e => by simp at e; obtain ⟨i', b3, h1, h2⟩ := t.get e; exact ⟨i', b3, by simpa using h1, h2⟩
theorem BRs.append {ρ : Nat → Option Nat} : ∀ {s s' : List Nat} {h1 h2 : AHeap}, BRs ρ h s h1 → BRs ρ h s' h2 → BRs ρ h (s ++ s') (h1 ++ h2)
  | _, _, _, _, .nil, H => H
  | _, _, _, _, .cons _ _ _ _ _ hb hr t, H => .cons _ _ _ _ _ hb hr (t.append H)

def subSig (σ : Sig) (s : List Nat) : Sig := s.map fun i => σ.getD i default

theorem subSig_get {s : List Nat} {i j : Nat} {p : Plc} (hs : s[j]? = some i) (hp : σ[i]? = some p) : (subSig σ s)[j]? = some p := by
  simp [subSig, hs, List.getD, hp]
theorem subSig_to {s : List Nat} : SigTo (posOf s) σ (subSig σ s) := fun i j p h hp => subSig_get (posOf_get h) hp

theorem Rel.gc (R : Rel W0 σ h w) {s : List Nat} (B : BRs (posOf s) h s h') (hn : s.Nodup) : Rel W0 (subSig σ s) h' w ∧ ∀ b, Own h' (subSig σ s) b → Own h σ b := by
  have key : ∀ {j : Nat} {b' : ABlk} {p : Plc}, h'[j]? = some b' → (subSig σ s)[j]? = some p → ∃ i b, s[j]? = some i ∧ h[i]? = some b ∧ BR (posOf s) b b' ∧ σ[i]? = some p := by
    intro j b' p h1 h2
    obtain ⟨i, b, e1, e2, e3⟩ := B.get h1
    obtain ⟨p', hp, _⟩ := R.get e2
    have := subSig_get e1 hp
    rw [this] at h2; cases h2
    exact ⟨i, b, e1, e2, e3, hp⟩
  refine ⟨⟨by simp [subSig, B.length], fun h1 h2 => ?_, fun {j vs e par p} h1 h2 hvs => ?_, fun h1 h2 hm => ?_, fun {i j b b' p q} hij h1 h2 h3 h4 m1 m2 hpq => ?_, R.below⟩, ?_⟩
  · obtain ⟨i, b, e1, e2, e3, e4⟩ := key h1 h2
    exact e3.obj subSig_to (R.obj e2 e4)
  · obtain ⟨i, b, e1, e2, e3, e4⟩ := key h1 h2
    cases e3 with
    | cells vs0 _ _ _ par0 _ ha hp =>
      refine R.far e2 e4 fun e => ?_
      subst e
      exact hvs (List.eq_nil_of_length_eq_zero (by simpa using ha.length))
  · obtain ⟨i, b, e1, e2, e3, e4⟩ := key h1 h2
    exact R.own e2 e4 (e3.mine hm).1
  · obtain ⟨i0, b0, e1, e2, e3, e4⟩ := key h1 h3
    obtain ⟨j0, c0, f1, f2, f3, f4⟩ := key h2 h4
    have hne : i0 ≠ j0 := by
      rintro rfl
      have g1 := posOf_mem hn e1
      have g2 := posOf_mem hn f1
      rw [g1] at g2; cases g2; exact hij rfl
    rcases R.sep hne e2 f2 e4 f4 (e3.mine m1).1 (f3.mine m2).1 hpq with ⟨g1, g2⟩ | ⟨g1, g2⟩
    · left
      refine ⟨?_, by rw [(f3.mine m2).2]; exact g2⟩
      cases e3 with
      | dead => simp [ABlk.mine] at m1
      | cells _ _ _ _ par par' _ hp => exact hp _ _ g1 (posOf_mem hn f1)
      | mp => simp [ABlk.par] at g1
      | lp => simp [ABlk.par] at g1
    · right
      refine ⟨?_, by rw [(e3.mine m1).2]; exact g2⟩
      cases f3 with
      | dead => simp [ABlk.mine] at m2
      | cells _ _ _ _ par par' _ hp => exact hp _ _ g1 (posOf_mem hn e1)
      | mp => simp [ABlk.par] at g1
      | lp => simp [ABlk.par] at g1
  · rintro x ⟨j, b', p, h1, h2, h3, rfl⟩
    obtain ⟨i, b, e1, e2, e3, e4⟩ := key h1 h2
    exact ⟨i, b, p, e2, e4, (e3.mine h3).1, rfl⟩

/-- Memory and slots, told anew; the first n0 blocks keep their numbers. -/
def Gc (n0 : Nat) (vs : List AV) (h : AHeap) (vs' : List AV) (h' : AHeap) : Prop :=
  (vs = vs' ∧ h = h') ∨ ∃ s : List Nat, (∀ j, j < n0 → s[j]? = some j) ∧ s.Nodup ∧ ARs (posOf s) vs vs' ∧ BRs (posOf s) h s h'

theorem Gc.refl {n0 : Nat} {vs : List AV} {h : AHeap} : Gc n0 vs h vs h := .inl ⟨rfl, rfl⟩
/-- By the numbers that stay. -/
theorem Gc.by (s : List Nat) {n0 : Nat} {vs vs' : List AV} {h h' : AHeap} (hn : s.take n0 = List.range n0) (hd : s.Nodup) (hv : ARs (posOf s) vs vs') (hb : BRs (posOf s) h s h') : Gc n0 vs h vs' h' :=
  .inr ⟨s, fun j hj => by
    have h1 : (s.take n0)[j]? = some j := by rw [hn]; simp [hj]
    rwa [List.getElem?_take, if_pos hj] at h1, hd, hv, hb⟩

theorem ARs.any {ρ : Nat → Option Nat} {l l' : List AV} (h : ARs ρ l l') : ARs ρ (.any :: l) (.any :: l') := .cons _ _ _ _ (.any _) h

theorem spread_ar {ρ : Nat → Option Nat} : ∀ {m : List Bool} {vs vs' : List AV}, ARs ρ vs vs' → ARs ρ (spread m vs) (spread m vs')
  | [], _, _, _ => .nil
  | true :: m, _, _, .cons _ _ _ _ h t => .cons _ _ _ _ h (spread_ar t)
  | true :: m, _, _, .nil => (spread_ar (m := m) (vs := []) (vs' := []) .nil).any
  | true :: m, [], _, .free _ hf => (spread_ar (m := m) (vs := []) (vs' := []) .nil).any
  | true :: m, v :: vs, _, .free _ hf => by
    simp only [AV.frees, Bool.and_eq_true] at hf
    exact .cons _ _ _ _ (.free _ hf.1) (spread_ar (.free _ hf.2))
  | false :: m, _, _, h => (spread_ar (m := m) h).any

/-- Rounds, memory told anew behind each. -/
inductive GReach (body : List AV → AHeap → Option (AEx × List AV × AHeap)) (n0 : Nat) : Nat → List AV → AHeap → AEx → List AV → AHeap → Prop
  | stop (vs : List AV) (h : AHeap) (e : AEx) (vs1 : List AV) (h1 : AHeap) (vs' : List AV) (h' : AHeap) (hb : body vs h = some (e, vs1, h1)) (he : e ≠ .norm) (hg : Gc n0 vs1 h1 vs' h') : GReach body n0 1 vs h e vs' h'
  | step (k : Nat) (vs : List AV) (h : AHeap) (vs1 : List AV) (h1 : AHeap) (vs2 : List AV) (h2 : AHeap) (e : AEx) (vs' : List AV) (h' : AHeap) (hb : body vs h = some (.norm, vs1, h1)) (hg : Gc n0 vs1 h1 vs2 h2)
      (t : GReach body n0 k vs2 h2 e vs' h') : GReach body n0 (k + 1) vs h e vs' h'

theorem At.gc {B : Nat} {m : List Bool} {vs vs' : List AV} {a : Act} {σ0 : Sig} {h0 : AHeap} {w0 : World} (A : At W0 B σ h (spread m vs) a w) (s0 : Stp σ0 h0 w0 σ h w) (R0 : σ0.length = h0.length) (g : Gc h0.length vs h vs' h') :
    ∃ σ', At W0 B σ' h' (spread m vs') a w ∧ Stp σ0 h0 w0 σ' h' w := by
  rcases g with ⟨rfl, rfl⟩ | ⟨s, hs, hn, ha, hb⟩
  · exact ⟨σ, A, s0⟩
  obtain ⟨R', ho⟩ := A.rel.gc hb hn
  refine ⟨subSig σ s, ⟨R', (spread_ar ha).vr subSig_to A.env, A.marks⟩, ⟨?_, fun b hb => s0.own b (ho b hb), s0.same, s0.size⟩⟩
  obtain ⟨τ, hτ⟩ := s0.ext
  refine ⟨(subSig σ s).drop σ0.length, ?_⟩
  have hl : σ0.length ≤ (subSig σ s).length := by
    rcases Nat.eq_zero_or_pos h0.length with h1 | h1
    · omega
    · have h2 := hs (h0.length - 1) (by omega)
      have h3 := (List.getElem?_eq_some_iff.1 h2).1
      simp [subSig]; omega
  have e : (subSig σ s).take σ0.length = σ0 := by
    apply List.ext_getElem?
    intro j
    rw [List.getElem?_take]
    split
    · rename_i hj
      have h1 : σ[j]? = σ0[j]? := by rw [hτ, List.getElem?_append_left hj]
      have h2 : σ0[j]? = some σ0[j] := List.getElem?_eq_getElem hj
      rw [h2]
      exact subSig_get (hs j (by omega)) (h1.trans h2)
    · rw [List.getElem?_eq_none (by omega)]
  conv => lhs; rw [← List.take_append_drop σ0.length (subSig σ s), e]

theorem loopGc_sound {CALL : CallT} (SC : SoundC P CALL) {LS : LoopT} {c : Code} (hL : LoopsOk P LS c) {m : List Bool} {g : GLoop}
    (hg : ∀ vs h e vs' h', g vs h = some (true, e, vs', h') → ∃ k, GReach (roundG P CALL LS c m) h.length k vs h e vs' h') : SoundS P (loopF m g) c := by
  intro W0 B σ h env a w e env' h' hx A n Q hQ
  change gRun m g env h (fun e env h => some (e, env, h)) = some (e, env', h') at hx
  unfold gRun at hx
  split at hx
  case isFalse => simp at hx
  rename_i hlen
  split at hx
  case h_2 => simp at hx
  rename_i b e0 vs' h0' hgx
  split at hx
  case isFalse => simp at hx
  rename_i hb
  subst hb
  simp only [Option.some.injEq, Prod.mk.injEq] at hx
  obtain ⟨rfl, rfl, rfl⟩ := hx
  obtain ⟨k0, hr0⟩ := hg _ _ _ _ _ hgx
  have A0 : At W0 B σ h (spread m (pickS m env)) a w := by rw [← keep_spread hlen]; exact A.keep m
  let J : Nat → Act → World → Prop := fun k a1 w1 => ∃ σ1 h1 vs1, GReach (roundG P CALL LS c m) h.length k vs1 h1 e0 vs' h0' ∧ At W0 B σ1 h1 (spread m vs1) a1 w1 ∧ Stp σ h w σ1 h1 w1
  let I : Act → World → Prop := fun a1 w1 => ∃ j, J j a1 w1
  classical
  let μ : Act → World → Nat := fun a1 w1 => if hI : I a1 w1 then Classical.choose (least hI) else 0
  refine wpIn_loop I μ ⟨k0, σ, h, _, hr0, A0, Stp.refl _ _ _⟩ fun a1 w1 hI => ?_
  have hmin := (Classical.choose_spec (least hI)).1
  have hμ : μ a1 w1 = Classical.choose (least hI) := by simp only [μ, dif_pos hI]
  generalize Classical.choose (least hI) = j1 at hmin hμ
  obtain ⟨σ1, h1, vs1, hl, A1, s1⟩ := hmin
  cases hl with
  | stop _ _ _ vs2 h2 _ _ hb he hgc =>
    unfold roundG at hb
    refine sim_code (ro := none) SC c (.inl rfl) hL hb A1 fun e3 env3 h3 σ3 a3 w3 hk3 s3 A3 => ?_
    split at hk3
    case isFalse => simp at hk3
    rename_i hl3
    simp only [Option.some.injEq, Prod.mk.injEq] at hk3
    obtain ⟨rfl, rfl, rfl⟩ := hk3
    have A3' : At W0 B σ3 h3 (spread m (pickS m env3)) a3 w3 := by rw [← keep_spread hl3]; exact A3.keep m
    obtain ⟨σ4, A4, s4⟩ := A3'.gc (s1.trans s3) A.rel.len hgc
    cases e3 with
    | norm => exact absurd rfl he
    | exit i => exact hQ _ _ _ s4 A4
    | ret => exact hQ _ _ _ s4 A4
  | step j2 _ _ vs2 h2 vs3 h3 _ _ _ hb hgc ht =>
    unfold roundG at hb
    refine sim_code (ro := none) SC c (.inl rfl) hL hb A1 fun e3 env3 h3' σ3 a3 w3 hk3 s3 A3 => ?_
    split at hk3
    case isFalse => simp at hk3
    rename_i hl3
    simp only [Option.some.injEq, Prod.mk.injEq] at hk3
    obtain ⟨rfl, rfl, rfl⟩ := hk3
    have A3' : At W0 B σ3 h3' (spread m (pickS m env3)) a3 w3 := by rw [← keep_spread hl3]; exact A3.keep m
    obtain ⟨σ4, A4, s4⟩ := A3'.gc (s1.trans s3) A.rel.len hgc
    have hJ : J j2 a3 w3 := ⟨σ4, _, _, ht, A4, s4⟩
    have hI3 : I a3 w3 := ⟨j2, hJ⟩
    refine ⟨hI3, ?_⟩
    rw [hμ]
    have : μ a3 w3 = Classical.choose (least hI3) := by simp only [μ, dif_pos hI3]
    rw [this]
    exact Nat.lt_succ_of_le ((Classical.choose_spec (least hI3)).2 _ hJ)

/-- So many rounds, one state after the other; then it is left. -/
theorem greach_up {body : List AV → AHeap → Option (AEx × List AV × AHeap)} {n0 : Nat} (st : Nat → List AV × AHeap) {n : Nat} {e : AEx} {vs : List AV} {h : AHeap} (he : e ≠ .norm)
    (step : ∀ i, i < n → ∃ vs1 h1, body (st i).1 (st i).2 = some (.norm, vs1, h1) ∧ Gc n0 vs1 h1 (st (i + 1)).1 (st (i + 1)).2) (stop : ∃ vs1 h1, body (st n).1 (st n).2 = some (e, vs1, h1) ∧ Gc n0 vs1 h1 vs h) :
    ∃ k, GReach body n0 k (st 0).1 (st 0).2 e vs h := by
  have key : ∀ k i, i + k = n → ∃ j, GReach body n0 j (st i).1 (st i).2 e vs h := by
    intro k
    induction k with
    | zero =>
      intro i hi
      have : i = n := by omega
      subst this
      obtain ⟨vs1, h1, hb, hg⟩ := stop
      exact ⟨1, .stop _ _ _ _ _ _ _ hb he hg⟩
    | succ k ih =>
      intro i hi
      obtain ⟨j, hj⟩ := ih (i + 1) (by omega)
      obtain ⟨vs1, h1, hb, hg⟩ := step i (by omega)
      exact ⟨j + 1, .step _ _ _ _ _ _ _ _ _ _ hb hg hj⟩
  exact key n 0 (by omega)

end Go.Abs
