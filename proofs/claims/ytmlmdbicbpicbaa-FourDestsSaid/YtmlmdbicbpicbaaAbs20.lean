/- A call told of less memory than there is: its arguments, each row in a block of its own; what it yields, each row in a new block. -/
import Derived.Test.YtmlmdbicbpicbaaAbs19
set_option autoImplicit false
set_option linter.unusedVariables false
set_option linter.unusedSimpArgs false
namespace Go.Abs
variable {P : Program} {W0 : World} {σ : Sig} {h : AHeap} {w : World}

theorem get_snoc {α : Type} (l : List α) (p : α) : (l ++ [p])[l.length]? = some p := by simp

mutual
/-- A value without addresses. -/
def AV.free : AV → Bool
  | .ptr (some _) => false
  | .sl (some _) _ _ _ => false
  | .map (some _) => false
  | .fn (.yield _) _ => false
  | .fn _ c => AV.frees c
  | .agg l => AV.frees l
  | .tup l => AV.frees l
  | .any => true
  | .bool _ => true
  | .int _ _ => true
  | .str _ => true
  | .ptr none => true
  | .sl none _ _ _ => true
  | .map none => true
  | .nilFn => true
def AV.frees : List AV → Bool
  | [] => true
  | a :: l => AV.free a && AV.frees l
end

mutual
theorem VR.free {σ σ' : Sig} : ∀ {a : AV} {v : Value}, VR σ a v → a.free = true → VR σ' a v
  | _, _, .any v, _ => .any v
  | _, _, .bool b, _ => .bool b
  | _, _, .int k n, _ => .int k n
  | _, _, .str s, _ => .str s
  | _, _, .ptr0, _ => .ptr0
  | _, _, .ptr i o p h, hf => by simp [AV.free] at hf
  | _, _, .sl0 e, _ => .sl0 e
  | _, _, .sl .., hf => by simp [AV.free] at hf
  | _, _, .sln .., hf => by simp [AV.free] at hf
  | _, _, .map0, _ => .map0
  | _, _, .map .., hf => by simp [AV.free] at hf
  | _, _, .fn f cap cap' h, hf => .fn f cap cap' (VRs.free h (by simpa [AV.free] using hf))
  | _, _, .yld .., hf => by simp [AV.free] at hf
  | _, _, .nilFn, _ => .nilFn
  | _, _, .agg l cs h, hf => .agg l cs (VRs.free h (by simpa [AV.free] using hf))
  | _, _, .tup l cs h, hf => .tup l cs (VRs.free h (by simpa [AV.free] using hf))
theorem VRs.free {σ σ' : Sig} : ∀ {l : List AV} {m : List Value}, VRs σ l m → AV.frees l = true → VRs σ' l m
  | _, _, .nil, _ => .nil
  | _, _, .cons a v l m h t, hf => by
    simp only [AV.frees, Bool.and_eq_true] at hf
    exact .cons a v l m (VR.free h hf.1) (VRs.free t hf.2)
end

mutual
/-- An argument, its rows each in a block of its own: the n-th and those behind. -/
inductive Canon (h : AHeap) : Nat → AV → AV → List ABlk → Prop
  | flat (n : Nat) (a : AV) (hf : a.free = true) : Canon h n a a []
  | row (n i o l r : Nat) (e : Bool) (vs : List AV) (esz : Nat) (md : Md) (par : Option Nat) (hb : h[i]? = some (.cells vs esz md par)) (hl : o + l * esz ≤ vs.length) (hf : AV.frees ((vs.drop o).take (l * esz)) = true) :
      Canon h n (.sl (some (i, o)) l r e) (.sl (some (n, 0)) l 0 false) [.cells ((vs.drop o).take (l * esz)) esz .far none]
  | nil (n : Nat) (e : Bool) (esz : Nat) : Canon h n (.sl none 0 0 e) (.sl (some (n, 0)) 0 0 false) [.cells [] esz .far none]
  | agg (n : Nat) (l l1 : List AV) (bs : List ABlk) (hc : Canons h n l l1 bs) : Canon h n (.agg l) (.agg l1) bs
inductive Canons (h : AHeap) : Nat → List AV → List AV → List ABlk → Prop
  | nil (n : Nat) : Canons h n [] [] []
  | cons (n : Nat) (a : AV) (l : List AV) (a1 : AV) (l1 : List AV) (b1 b2 : List ABlk) (h1 : Canon h n a a1 b1) (h2 : Canons h (n + b1.length) l l1 b2) : Canons h n (a :: l) (a1 :: l1) (b1 ++ b2)
end

def FarOk (w : World) (p : Plc) (b : ABlk) : Prop := ∃ vs e, b = .cells vs e .far none ∧ (vs ≠ [] → p.blk < w.heap.size) ∧ ∀ σ', ObjR σ' p w b

/-- The blocks and their places, one for one. -/
inductive All2 {α β : Type} (r : α → β → Prop) : List α → List β → Prop
  | nil : All2 r [] []
  | cons (a : α) (b : β) (l : List α) (m : List β) (h : r a b) (t : All2 r l m) : All2 r (a :: l) (b :: m)

theorem All2.append {α β : Type} {r : α → β → Prop} : ∀ {l : List α} {m : List β} {l' : List α} {m' : List β}, All2 r l m → All2 r l' m' → All2 r (l ++ l') (m ++ m')
  | _, _, _, _, .nil, h => h
  | _, _, _, _, .cons _ _ _ _ h t, h' => .cons _ _ _ _ h (t.append h')
theorem All2.length {α β : Type} {r : α → β → Prop} : ∀ {l : List α} {m : List β}, All2 r l m → l.length = m.length
  | _, _, .nil => rfl
  | _, _, .cons _ _ _ _ _ t => by simp [t.length]
theorem All2.get {α β : Type} {r : α → β → Prop} : ∀ {l : List α} {m : List β}, All2 r l m → ∀ {i : Nat} {a : α} {b : β}, l[i]? = some a → m[i]? = some b → r a b
  | _, _, .nil, _, _, _, h, _ => by simp at h
  | _, _, .cons _ _ _ _ h _, 0, _, _, h1, h2 => by simp at h1 h2; subst h1; subst h2; exact h
  | _, _, .cons _ _ _ _ _ t, i + 1, _, _, h1, h2 => t.get (by simpa using h1) (by simpa using h2)

theorem row_cells (R : Rel W0 σ h w) {i o k : Nat} {vs : List AV} {esz : Nat} {md : Md} {par : Option Nat} {p : Plc} (hb : h[i]? = some (.cells vs esz md par)) (hp : σ[i]? = some p) (hl : o + k ≤ vs.length) (hne : vs ≠ []) :
    ∃ c t fr, w.heap[p.blk]? = some (.cells c t fr) ∧ VRs σ ((vs.drop o).take k) ((c.toList.drop (p.off + o)).take ((vs.drop o).take k).length) ∧
      (md = .own → (∀ j, p.off ≤ j → j < c.size → ¬ (fr.1 ≤ j ∧ j < fr.2)) ∧ p.off + vs.length + p.spare * esz ≤ c.size) := by
  rcases R.obj hb hp with ⟨h0, _⟩ | ⟨_, c, t, fr, h1, h2, h3⟩
  · exact absurd h0 hne
  refine ⟨c, t, fr, h1, ?_, h3⟩
  have h4 := (h2.drop o).take k
  have e1 : ((vs.drop o).take k).length = k := by simp; omega
  have h5 : ((((c.toList.drop p.off).take vs.length).drop o).take k) = (c.toList.drop (p.off + o)).take k := by
    rw [List.drop_take, List.drop_drop, List.take_take]
    congr 1; omega
  rw [e1, ← h5]; exact h4

mutual
theorem Canon.sim (R : Rel W0 σ h w) : ∀ {n : Nat} {a a1 : AV} {bs : List ABlk} {v : Value}, Canon h n a a1 bs → VR σ a v → ∀ σ0 : Sig, σ0.length = n → ∃ τ : Sig, All2 (FarOk w) τ bs ∧ VR (σ0 ++ τ) a1 v
  | _, _, _, _, _, .flat n a hf, hv, σ0, h0 => ⟨[], .nil, hv.free hf⟩
  | _, _, _, _, _, .row n i o l r e vs esz md par hb hl hf, hv, σ0, h0 => by
    subst h0
    cases hv with
    | sln _ _ p hp hc =>
      refine ⟨[⟨0, 0, 0⟩], .cons _ _ _ _ ⟨_, _, rfl, by simp, fun σ' => .inl ⟨by simp, fun h => by cases h⟩⟩ .nil, .sln _ _ _ (get_snoc _ _) rfl⟩
    | sl _ _ _ _ _ p ad c' hp hlc hc ha =>
      by_cases hs : (vs.drop o).take (l * esz) = []
      · rw [hs]
        refine ⟨[⟨ad.block, ad.off, c' - l⟩], .cons _ _ _ _ ⟨_, _, rfl, by simp, fun σ' => .inl ⟨rfl, fun h => by cases h⟩⟩ .nil, .sl _ _ _ _ _ _ _ _ (get_snoc _ _) hlc (by simp [capOf]; omega) ?_⟩
        rcases ha with rfl | ha
        · exact .inl rfl
        · exact .inr ha
      · have hne : vs ≠ [] := by rintro rfl; simp at hs
        obtain ⟨c, t, fr, h1, h2, _⟩ := row_cells R hb hp hl hne
        have hl0 : l ≠ 0 := by rintro rfl; simp at hs
        obtain rfl := ha.resolve_right (by omega)
        refine ⟨[⟨p.blk, p.off + o, c' - l⟩], .cons _ _ _ _ ⟨_, _, rfl, fun _ => (Array.getElem?_eq_some_iff.1 h1).1, fun σ' => .inr ⟨hs, c, t, fr, h1, h2.free hf, fun h => by cases h⟩⟩ .nil, .sl _ _ _ _ _ _ _ _ (get_snoc _ _) hlc (by simp [capOf]; omega) (.inl rfl)⟩
  | _, _, _, _, _, .nil n e esz, hv, σ0, h0 => by
    subst h0
    cases hv
    exact ⟨[⟨0, 0, 0⟩], .cons _ _ _ _ ⟨_, _, rfl, by simp, fun σ' => .inl ⟨rfl, fun h => by cases h⟩⟩ .nil, .sln _ _ _ (get_snoc _ _) rfl⟩
  | _, _, _, _, _, .agg n l l1 bs hc, hv, σ0, h0 => by
    cases hv with
    | agg _ cs hcs =>
    obtain ⟨τ, h1, h2⟩ := Canons.sim R hc hcs σ0 h0
    exact ⟨τ, h1, .agg _ _ h2⟩
theorem Canons.sim (R : Rel W0 σ h w) : ∀ {n : Nat} {a a1 : List AV} {bs : List ABlk} {v : List Value}, Canons h n a a1 bs → VRs σ a v → ∀ σ0 : Sig, σ0.length = n → ∃ τ : Sig, All2 (FarOk w) τ bs ∧ VRs (σ0 ++ τ) a1 v
  | _, _, _, _, _, .nil n, hv, σ0, h0 => by cases hv; exact ⟨[], .nil, .nil⟩
  | _, _, _, _, _, .cons n a l a1 l1 b1 b2 h1 h2, hv, σ0, h0 => by
    cases hv with
    | cons _ v _ m hv1 hv2 =>
    obtain ⟨τ1, g1, g2⟩ := Canon.sim R h1 hv1 σ0 h0
    obtain ⟨τ2, g3, g4⟩ := Canons.sim R h2 hv2 (σ0 ++ τ1) (by simp [h0, g1.length])
    exact ⟨τ1 ++ τ2, g1.append g3, .cons _ _ _ _ (by rw [← List.append_assoc]; exact g2.grow _) (by rw [← List.append_assoc]; exact g4)⟩
end

theorem far_rel {τ : Sig} {bs : List ABlk} (A : All2 (FarOk w) τ bs) : Rel w τ bs w := by
  refine ⟨A.length, fun hb hp => ?_, fun hb hp hvs => ?_, fun hb hp hm => ?_, fun _ hb _ hp _ hm _ _ => ?_, RowKit.Below.refl _ _⟩
  · obtain ⟨vs, e, rfl, h1, h2⟩ := A.get hp hb; exact h2 _
  · obtain ⟨vs, e, h0, h1, h2⟩ := A.get hp hb; cases h0; exact h1 hvs
  · obtain ⟨vs, e, rfl, h1, h2⟩ := A.get hp hb; have := (mine_ne_nil hm).2; simp at this
  · obtain ⟨vs, e, rfl, h1, h2⟩ := A.get hp hb; have := (mine_ne_nil hm).2; simp at this

mutual
/-- What is yielded, its rows each in a new block: the m-th and those behind. -/
inductive Den (h1 : AHeap) (n0 : Nat) : Nat → List (Option Nat) → AV → AV → List ABlk → Prop
  | flat (m : Nat) (a : AV) (hf : a.free = true) : Den h1 n0 m [] a a []
  | row (m k o l r : Nat) (e : Bool) (vs : List AV) (esz : Nat) (par : Option Nat) (hk : n0 ≤ k) (hz : 0 < esz) (hb : h1[k]? = some (.cells vs esz .own par)) (he : l ≤ capOf l r e ∧ o + capOf l r e * esz ≤ vs.length) (h0 : l = 0 → vs = [] ∧ r = 0)
      (hf : AV.frees ((vs.drop o).take (l * esz)) = true) : Den h1 n0 m [some k] (.sl (some (k, o)) l r e) (.sl (some (m, 0)) l 0 false) [.cells ((vs.drop o).take (l * esz)) esz .own none]
  | nil (m : Nat) (e : Bool) (esz : Nat) : Den h1 n0 m [none] (.sl none 0 0 e) (.sl (some (m, 0)) 0 0 false) [.cells [] esz .own none]
  | agg (m : Nat) (ks : List (Option Nat)) (l l1 : List AV) (bs : List ABlk) (hc : Dens h1 n0 m ks l l1 bs) : Den h1 n0 m ks (.agg l) (.agg l1) bs
  | tup (m : Nat) (ks : List (Option Nat)) (l l1 : List AV) (bs : List ABlk) (hc : Dens h1 n0 m ks l l1 bs) : Den h1 n0 m ks (.tup l) (.tup l1) bs
inductive Dens (h1 : AHeap) (n0 : Nat) : Nat → List (Option Nat) → List AV → List AV → List ABlk → Prop
  | nil (m : Nat) : Dens h1 n0 m [] [] [] []
  | cons (m : Nat) (ks1 ks2 : List (Option Nat)) (a : AV) (l : List AV) (a1 : AV) (l1 : List AV) (b1 b2 : List ABlk) (h1' : Den h1 n0 m ks1 a a1 b1) (h2 : Dens h1 n0 (m + b1.length) ks2 l l1 b2) : Dens h1 n0 m (ks1 ++ ks2) (a :: l) (a1 :: l1) (b1 ++ b2)
end

/-- A new block's place. -/
def NewOk (w : World) (σ1 : Sig) (h1 : AHeap) (w' : World) (kp : Option Nat × Plc) (b : ABlk) : Prop :=
  ∃ vs e, b = .cells vs e .own none ∧ (∀ σ', ObjR σ' kp.2 w' b) ∧ (vs ≠ [] → ∃ k p vs' e' par, kp.1 = some k ∧ σ1[k]? = some p ∧ h1[k]? = some (.cells vs' e' .own par) ∧ vs' ≠ [] ∧ p.blk = kp.2.blk ∧ w.heap.size ≤ p.blk)

mutual
theorem Den.sim {σ1 : Sig} {h1 : AHeap} {w' : World} (R : Rel w σ1 h1 w') {n0 : Nat} : ∀ {m : Nat} {ks : List (Option Nat)} {a a1 : AV} {bs : List ABlk} {v : Value}, Den h1 n0 m ks a a1 bs → VR σ1 a v → ∀ σ0 : Sig, σ0.length = m →
    ∃ τ : List (Option Nat × Plc), τ.map Prod.fst = ks ∧ All2 (NewOk w σ1 h1 w') τ bs ∧ VR (σ0 ++ τ.map Prod.snd) a1 v
  | _, _, _, _, _, _, .flat m a hf, hv, σ0, h0 => ⟨[], rfl, .nil, hv.free hf⟩
  | _, _, _, _, _, _, .row m k o l r e vs esz par hk hz hb he hl0 hf, hv, σ0, h0 => by
    subst h0
    have hlen : o + l * esz ≤ vs.length := by
      have := Nat.mul_le_mul_right esz he.1
      omega
    obtain ⟨p, hp, ho⟩ := R.get hb
    by_cases hl : l = 0
    · obtain ⟨rfl, rfl⟩ := hl0 hl
      subst hl
      refine ⟨[(some k, ⟨0, 0, 0⟩)], rfl, .cons _ _ _ _ ⟨_, _, rfl, fun σ' => .inl ⟨by simp, fun _ => rfl⟩, fun h => absurd (by simp) h⟩ .nil, ?_⟩
      cases hv with
      | sln => exact .sln _ _ _ (get_snoc _ _) rfl
      | sl _ _ _ _ _ p' ad c' hp' hlc hc ha =>
        rw [hp] at hp'; cases hp'
        rcases ho with ⟨_, h1⟩ | ⟨h1, _⟩
        · have := h1 rfl
          have hc0 : c' = 0 := by cases e <;> simp [capOf] at hc <;> omega
          subst hc0
          exact .sl _ _ _ _ _ ⟨0, 0, 0⟩ _ _ (get_snoc _ _) (Nat.le_refl _) rfl (.inr rfl)
        · exact absurd rfl h1
    · have hlz : 0 < l * esz := Nat.mul_pos (by omega) hz
      have hne : vs ≠ [] := by rintro rfl; simp at hlen; omega
      have hs : (vs.drop o).take (l * esz) ≠ [] := by
        intro h
        have := congrArg List.length h
        simp at this; omega
      cases hv with
      | sln => omega
      | sl _ _ _ _ _ p' ad c' hp' hlc hc ha =>
      rw [hp] at hp'; cases hp'
      obtain rfl := ha.resolve_right (by omega)
      obtain ⟨c, t, fr, g1, g2, g3⟩ := row_cells R hb hp hlen hne
      obtain ⟨g4, g5⟩ := g3 rfl
      refine ⟨[(some k, ⟨p.blk, p.off + o, c' - l⟩)], rfl, .cons _ _ _ _ ⟨_, _, rfl, fun σ' => .inr ⟨hs, c, t, fr, g1, g2.free hf, fun _ => ⟨fun j k1 k2 => g4 j (by simp at k1; omega) k2, ?_⟩⟩, fun _ => ⟨k, p, vs, esz, par, rfl, hp, hb, hne, rfl, R.own hb hp (mine_of hne (by simp))⟩⟩ .nil,
        .sl _ _ _ _ _ ⟨p.blk, p.off + o, c' - l⟩ _ _ (get_snoc _ _) hlc (by simp [capOf]; omega) (.inl rfl)⟩
      have e1 : ((vs.drop o).take (l * esz)).length = l * esz := by simp; omega
      rw [e1]
      have e2 : (c' - l) * esz + l * esz = c' * esz := by rw [← Nat.add_mul]; congr 1; omega
      have e3 : c' * esz ≤ capOf l r e * esz + p.spare * esz := by
        rw [← Nat.add_mul]
        refine Nat.mul_le_mul_right _ ?_
        cases e <;> simp at hc <;> omega
      simp only
      omega
  | _, _, _, _, _, _, .nil m e esz, hv, σ0, h0 => by
    subst h0
    cases hv
    exact ⟨[(none, ⟨0, 0, 0⟩)], rfl, .cons _ _ _ _ ⟨_, _, rfl, fun σ' => .inl ⟨rfl, fun _ => rfl⟩, fun h => absurd rfl h⟩ .nil, .sln _ _ _ (get_snoc _ _) rfl⟩
  | _, _, _, _, _, _, .agg m ks l l1 bs hc, hv, σ0, h0 => by
    cases hv with
    | agg _ cs hcs =>
    obtain ⟨τ, g1, g2, g3⟩ := Dens.sim R hc hcs σ0 h0
    exact ⟨τ, g1, g2, .agg _ _ g3⟩
  | _, _, _, _, _, _, .tup m ks l l1 bs hc, hv, σ0, h0 => by
    cases hv with
    | tup _ cs hcs =>
    obtain ⟨τ, g1, g2, g3⟩ := Dens.sim R hc hcs σ0 h0
    exact ⟨τ, g1, g2, .tup _ _ g3⟩
theorem Dens.sim {σ1 : Sig} {h1 : AHeap} {w' : World} (R : Rel w σ1 h1 w') {n0 : Nat} : ∀ {m : Nat} {ks : List (Option Nat)} {a a1 : List AV} {bs : List ABlk} {v : List Value}, Dens h1 n0 m ks a a1 bs → VRs σ1 a v → ∀ σ0 : Sig, σ0.length = m →
    ∃ τ : List (Option Nat × Plc), τ.map Prod.fst = ks ∧ All2 (NewOk w σ1 h1 w') τ bs ∧ VRs (σ0 ++ τ.map Prod.snd) a1 v
  | _, _, _, _, _, _, .nil m, hv, σ0, h0 => by cases hv; exact ⟨[], rfl, .nil, .nil⟩
  | _, _, _, _, _, _, .cons m ks1 ks2 a l a1 l1 b1 b2 d1 d2, hv, σ0, h0 => by
    cases hv with
    | cons _ v _ vs hv1 hv2 =>
    obtain ⟨τ1, g1, g2, g3⟩ := Den.sim R d1 hv1 σ0 h0
    obtain ⟨τ2, g4, g5, g6⟩ := Dens.sim R d2 hv2 (σ0 ++ τ1.map Prod.snd) (by simp [h0, g2.length])
    refine ⟨τ1 ++ τ2, by rw [List.map_append, g1, g4], g2.append g5, ?_⟩
    rw [List.map_append, ← List.append_assoc]
    exact .cons _ _ _ _ (g3.grow _) g6
end

/-- No two new rows are of one block. -/
def KsOk (ks : List (Option Nat)) : Prop := ∀ (i j k : Nat), ks[i]? = some (some k) → ks[j]? = some (some k) → i = j

theorem ksOk0 : KsOk [] := by intro i j k h; simp at h
theorem ksOk1 (k : Option Nat) : KsOk [k] := by
  intro i j k' h1 h2
  cases i with
  | zero => cases j with
    | zero => rfl
    | succ j => simp at h2
  | succ i => simp at h1

theorem canon_call {f : FuncId} {E : Ent} (hE : SoundE P f E) (R : Rel W0 σ h w) {τ0 : Sig} {h1 : AHeap} (R1 : Rel w τ0 h1 w) {args1 : List AV} {args' : Array Value} (hv0 : VRs τ0 args1 args'.toList) {v1 v : AV} {h1' : AHeap} (hrun : E.get args1 h1 = some (v1, h1'))
    {ks : List (Option Nat)} {new : List ABlk} {n0 : Nat} (hden : Den h1' n0 h.length ks v1 v new) (hks : KsOk ks) :
    (∃ fd, P.funcs[f]? = some fd ∧ fd.name ≠ "runtime.NumGoroutine" ∧ fd.body.isSome = true) ∧ ∀ n, CallsIn Fence.wide n P f args' w (RetR W0 σ h w v (h ++ new)) := by
  obtain ⟨hfd, hcalls⟩ := hE hrun R1 hv0
  refine ⟨hfd, fun n => CallsIn.mono (hcalls n) fun e w' hr => ?_⟩
  obtain ⟨v', σ1', rfl, s1, R1', hv'⟩ := hr
  obtain ⟨τ, hτ, A, hv2⟩ := hden.sim R1' hv' σ R.len
  have hbelow := R1'.below
  have hold : ∀ k, k < w.heap.size → w'.heap[k]? = w.heap[k]? := fun k hk => hbelow.block k hk
  have hlenp : (τ.map Prod.snd).length = new.length := by simpa using A.length
  have split : ∀ {i : Nat} {b : ABlk} {p : Plc}, (h ++ new)[i]? = some b → (σ ++ τ.map Prod.snd)[i]? = some p → (h[i]? = some b ∧ σ[i]? = some p) ∨ (h.length ≤ i ∧ ∃ k, ks[i - h.length]? = some k ∧ NewOk w σ1' h1' w' (k, p) b) := by
    intro i b p hb hp
    rcases Nat.lt_or_ge i h.length with hi | hi
    · rw [List.getElem?_append_left hi] at hb
      rw [List.getElem?_append_left (by rw [R.len]; exact hi)] at hp
      exact .inl ⟨hb, hp⟩
    · rw [List.getElem?_append_right hi] at hb
      rw [List.getElem?_append_right (by rw [R.len]; exact hi), R.len] at hp
      simp only [List.getElem?_map, Option.map_eq_some_iff] at hp
      obtain ⟨⟨k, p'⟩, hp, rfl⟩ := hp
      exact .inr ⟨hi, k, by rw [← hτ, List.getElem?_map, hp]; rfl, A.get hp hb⟩
  have hW : W0.heap.size ≤ w.heap.size := R.below.size
  refine ⟨v', σ ++ τ.map Prod.snd, rfl, ?_, ?_, hv2⟩
  · refine ⟨⟨_, rfl⟩, ?_, fun b hb _ => hold b hb, s1.size⟩
    rintro b ⟨i, blk, p, g1, g2, g3, rfl⟩
    rcases split g1 g2 with ⟨k1, k2⟩ | ⟨_, k, _, vs, e, rfl, _, hk⟩
    · exact .inl ⟨i, blk, p, k1, k2, g3, rfl⟩
    · obtain ⟨_, p', _, _, _, _, _, _, _, e1, e2⟩ := hk (mine_ne_nil g3).1
      right; rw [← e1]; exact e2
  · refine ⟨by rw [List.length_append, List.length_append, R.len, hlenp], fun {i b p} g1 g2 => ?_, fun {i vs e par p} g1 g2 hvs => ?_, fun {i b p} g1 g2 hm => ?_, fun {i j b b' p q} hij g1 g2 g3 g4 m1 m2 hpq => ?_, R.below.trans (hbelow.mono hW)⟩
    · rcases split g1 g2 with ⟨k1, k2⟩ | ⟨_, k, _, vs, e, rfl, ho, _⟩
      · exact ((R.obj k1 k2).grow _).keep fun hd => hold _ ((R.obj k1 k2).lt hd)
      · exact ho _
    · rcases split g1 g2 with ⟨k1, k2⟩ | ⟨_, k, _, vs, e, h0, _, _⟩
      · exact R.far k1 k2 hvs
      · cases h0
    · rcases split g1 g2 with ⟨k1, k2⟩ | ⟨_, k, _, vs, e, rfl, _, hk⟩
      · exact R.own k1 k2 hm
      · obtain ⟨_, p', _, _, _, _, _, _, _, e1, e2⟩ := hk (mine_ne_nil hm).1
        simp only at e1; omega
    · rcases split g1 g3 with ⟨k1, k3⟩ | ⟨hi, k, hki, vs, e, rfl, _, hk⟩
      · rcases split g2 g4 with ⟨k2, k4⟩ | ⟨hj, k, hkj, vs, e, rfl, _, hk⟩
        · exact R.sep hij k1 k2 k3 k4 m1 m2 hpq
        · have h5 := (R.obj k1 k3).lt (ABlk.mine_ne m1)
          obtain ⟨_, p', _, _, _, _, _, _, _, e1, e2⟩ := hk (mine_ne_nil m2).1
          simp only at e1; omega
      · rcases split g2 g4 with ⟨k2, k4⟩ | ⟨hj, k', hkj, vs', e', rfl, _, hk'⟩
        · have h5 := (R.obj k2 k4).lt (ABlk.mine_ne m2)
          obtain ⟨_, p', _, _, _, _, _, _, _, e1, e2⟩ := hk (mine_ne_nil m1).1
          simp only at e1; omega
        · obtain ⟨a, pa, vsa, ea, para, ha0, ha1, ha2, ha3, ha4, _⟩ := hk (mine_ne_nil m1).1
          obtain ⟨b, pb, vsb, eb, parb, hb0, hb1, hb2, hb3, hb4, _⟩ := hk' (mine_ne_nil m2).1
          simp only at ha0 hb0 ha4 hb4
          subst ha0 hb0
          have hab : a ≠ b := by
            rintro rfl
            have := hks _ _ _ hki hkj
            omega
          rcases R1'.sep hab ha2 hb2 ha1 hb1 (mine_of ha3 (by simp)) (mine_of hb3 (by simp)) (by rw [ha4, hb4, hpq]) with ⟨_, g⟩ | ⟨_, g⟩ <;> simp [ABlk.isRo] at g

theorem canon_sound {f : FuncId} {E' : Ent}
    (hf : ∀ args h v h', E'.get args h = some (v, h') → ∃ E, SoundE P f E ∧ ∃ args1 h1, Canons h 0 args args1 h1 ∧ ∃ v1 h1', E.get args1 h1 = some (v1, h1') ∧ ∃ ks new, h' = h ++ new ∧ Den h1' h1.length h.length ks v1 v new ∧ KsOk ks) : SoundE P f E' := by
  intro W0 σ h w args args' v h' hx R hv
  obtain ⟨E, hE, args1, h1, hcan, v1, h1', hrun, ks, new, rfl, hden, hks⟩ := hf _ _ _ _ hx
  obtain ⟨τ0, A0, hv0⟩ := hcan.sim R hv [] rfl
  rw [List.nil_append] at hv0
  exact canon_call hE R (far_rel A0) hv0 hrun hden hks

end Go.Abs
