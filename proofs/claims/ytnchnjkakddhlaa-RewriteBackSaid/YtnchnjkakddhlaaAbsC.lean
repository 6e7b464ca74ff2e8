/- The abstract interpreter: callees on canonical arguments, calls of a law, loops, memory told anew, the quick form. -/
import Derived.Test.YtnchnjkakddhlaaAbsB
import Derived.ChangeSame
import Derived.ChangeSlices
import Derived.Carry
import Derived.RowKit
import Derived.OpenShut
section
/- A call told of less memory than there is: its arguments, each row in a block of its own; what it yields, each row in a new block. -/
set_option autoImplicit false
set_option linter.unusedVariables false
set_option linter.unusedSimpArgs false
namespace Go.Abs
variable {P : Program} {W0 : World} {σ : Sig} {h : zaa} {w : World}

theorem zda {α : Type} (l : List α) (p : α) : (l ++ [p])[l.length]? = some p := by simp

mutual
def AV.free : AV → Bool
 | .ptr (some _) => false
 | .sl (some _) _ _ _ => false
 | .map (some _) => false
 | .fn (.yield _) _ => false
 | .fn _ c => AV.frees c
 | .agg l => AV.frees l
 | .tup l => AV.frees l
 | .any => true
 | .bool _ => true
 | .int _ _ => true
 | .str _ => true
 | .ptr none => true
 | .sl none _ _ _ => true
 | .map none => true
 | .nilFn => true
def AV.frees : List AV → Bool
 | [] => true
 | a :: l => AV.free a && AV.frees l
end

mutual
theorem VR.free {σ σ' : Sig} : ∀ {a : AV} {v : Value}, VR σ a v → a.free = true → VR σ' a v
 | _, _, .any v, _ => .any v
 | _, _, .bool b, _ => .bool b
 | _, _, .int k n, _ => .int k n
 | _, _, .str s, _ => .str s
 | _, _, .ptr0, _ => .ptr0
 | _, _, .ptr i o p h, hf => by simp [AV.free] at hf
 | _, _, .sl0 e, _ => .sl0 e
 | _, _, .sl .., hf => by simp [AV.free] at hf
 | _, _, .sln .., hf => by simp [AV.free] at hf
 | _, _, .map0, _ => .map0
 | _, _, .map .., hf => by simp [AV.free] at hf
 | _, _, .fn f cap cap' h, hf => .fn f cap cap' (VRs.free h (by simpa [AV.free] using hf))
 | _, _, .yld .., hf => by simp [AV.free] at hf
 | _, _, .nilFn, _ => .nilFn
 | _, _, .agg l cs h, hf => .agg l cs (VRs.free h (by simpa [AV.free] using hf))
 | _, _, .tup l cs h, hf => .tup l cs (VRs.free h (by simpa [AV.free] using hf))
theorem VRs.free {σ σ' : Sig} : ∀ {l : List AV} {m : List Value}, VRs σ l m → AV.frees l = true → VRs σ' l m
 | _, _, .nil, _ => .nil
 | _, _, .cons a v l m h t, hf => by
  simp only [AV.frees, Bool.and_eq_true] at hf
  exact .cons a v l m (VR.free h hf.1) (VRs.free t hf.2)
end

mutual
inductive Canon (h : zaa) : Nat → AV → AV → List ABlk → Prop
 | flat (n : Nat) (a : AV) (hf : a.free = true) : Canon h n a a []
 | row (n i o l r : Nat) (e : Bool) (vs : List AV) (esz : Nat) (md : Md) (par : Option Nat) (hb : h[i]? = some (.cells vs esz md par)) (hl : o + l * esz ≤ vs.length) (hf : AV.frees ((vs.drop o).take (l * esz)) = true) :
  Canon h n (.sl (some (i, o)) l r e) (.sl (some (n, 0)) l 0 false) [.cells ((vs.drop o).take (l * esz)) esz .far none]
 | nil (n : Nat) (e : Bool) (esz : Nat) : Canon h n (.sl none 0 0 e) (.sl (some (n, 0)) 0 0 false) [.cells [] esz .far none]
 | agg (n : Nat) (l l1 : List AV) (bs : List ABlk) (hc : Canons h n l l1 bs) : Canon h n (.agg l) (.agg l1) bs
 | ptr (n i o : Nat) (vs vs1 : List AV) (esz : Nat) (md : Md) (par : Option Nat) (bs : List ABlk) (hb : h[i]? = some (.cells vs esz md par)) (hne : vs ≠ []) (hc : Canons h (n + 1) vs vs1 bs) :
  Canon h n (.ptr (some (i, o))) (.ptr (some (n, o))) (.cells vs1 esz .far none :: bs)
 | fn (n : Nat) (f : FuncId) (l l1 : List AV) (bs : List ABlk) (hc : Canons h n l l1 bs) : Canon h n (.fn (.func f) l) (.fn (.func f) l1) bs
inductive Canons (h : zaa) : Nat → List AV → List AV → List ABlk → Prop
 | nil (n : Nat) : Canons h n [] [] []
 | cons (n : Nat) (a : AV) (l : List AV) (a1 : AV) (l1 : List AV) (b1 b2 : List ABlk) (h1 : Canon h n a a1 b1) (h2 : Canons h (n + b1.length) l l1 b2) : Canons h n (a :: l) (a1 :: l1) (b1 ++ b2)
end

theorem Canons.frees {h : zaa} {n : Nat} : ∀ {l : List AV}, AV.frees l = true → Canons h n l l []
 | [], _ => .nil n
 | a :: l, hf => by
  simp only [AV.frees, Bool.and_eq_true] at hf
  exact .cons n a l a l [] [] (.flat _ _ hf.1) (Canons.frees hf.2)
theorem Canons.length {h : zaa} : ∀ {n : Nat} {l l1 : List AV} {bs : List ABlk}, Canons h n l l1 bs → l1.length = l.length
 | _, _, _, _, .nil _ => rfl
 | _, _, _, _, .cons _ _ _ _ _ _ _ _ t => by simp [t.length]
def FarOk (w : World) (σ : Sig) (p : Plc) (b : ABlk) : Prop := ∃ vs e, b = .cells vs e .far none ∧ (vs ≠ [] → p.blk < w.heap.size) ∧ ∀ ρ, ObjR (σ ++ ρ) p w b
theorem FarOk.grow {w : World} {σ : Sig} (τ : Sig) {p : Plc} {b : ABlk} (h : FarOk w σ p b) : FarOk w (σ ++ τ) p b := by
 obtain ⟨vs, e, h1, h2, h3⟩ := h
 exact ⟨vs, e, h1, h2, fun ρ => by rw [List.append_assoc]; exact h3 _⟩

inductive All2 {α β : Type} (r : α → β → Prop) : List α → List β → Prop
 | nil : All2 r [] []
 | cons (a : α) (b : β) (l : List α) (m : List β) (h : r a b) (t : All2 r l m) : All2 r (a :: l) (b :: m)

theorem All2.append {α β : Type} {r : α → β → Prop} : ∀ {l : List α} {m : List β} {l' : List α} {m' : List β}, All2 r l m → All2 r l' m' → All2 r (l ++ l') (m ++ m')
 | _, _, _, _, .nil, h => h
 | _, _, _, _, .cons _ _ _ _ h t, h' => .cons _ _ _ _ h (t.append h')
theorem All2.length {α β : Type} {r : α → β → Prop} : ∀ {l : List α} {m : List β}, All2 r l m → l.length = m.length
 | _, _, .nil => rfl
 | _, _, .cons _ _ _ _ _ t => by simp [t.length]
theorem All2.get {α β : Type} {r : α → β → Prop} : ∀ {l : List α} {m : List β}, All2 r l m → ∀ {i : Nat} {a : α} {b : β}, l[i]? = some a → m[i]? = some b → r a b
 | _, _, .nil, _, _, _, h, _ => by simp at h
 | _, _, .cons _ _ _ _ h _, 0, _, _, h1, h2 => by simp at h1 h2; subst h1; subst h2; exact h
 | _, _, .cons _ _ _ _ _ t, i + 1, _, _, h1, h2 => t.get (by simpa using h1) (by simpa using h2)

theorem All2.imp {α β : Type} {r s : α → β → Prop} (H : ∀ a b, r a b → s a b) : ∀ {l : List α} {m : List β}, All2 r l m → All2 s l m
 | _, _, .nil => .nil
 | _, _, .cons _ _ _ _ h t => .cons _ _ _ _ (H _ _ h) (t.imp H)

theorem zjd (R : Rel W0 σ h w) {i o k : Nat} {vs : List AV} {esz : Nat} {md : Md} {par : Option Nat} {p : Plc} (hb : h[i]? = some (.cells vs esz md par)) (hp : σ[i]? = some p) (hl : o + k ≤ vs.length) (hne : vs ≠ []) :
 ∃ c t fr, w.heap[p.blk]? = some (.cells c t fr) ∧ VRs σ ((vs.drop o).take k) ((c.toList.drop (p.off + o)).take ((vs.drop o).take k).length) ∧
  (md = .own → (∀ j, p.off ≤ j → j < c.size → ¬ (fr.1 ≤ j ∧ j < fr.2)) ∧ p.off + vs.length + p.spare * esz ≤ c.size) := by
 rcases R.obj hb hp with ⟨h0, _⟩ | ⟨_, c, t, fr, h1, h2, h3⟩
 · exact absurd h0 hne
 refine ⟨c, t, fr, h1, ?_, h3⟩
 have h4 := (h2.drop o).take k
 have e1 : ((vs.drop o).take k).length = k := by simp; omega
 have h5 : ((((c.toList.drop p.off).take vs.length).drop o).take k) = (c.toList.drop (p.off + o)).take k := by
  rw [List.drop_take, List.drop_drop, List.take_take]
  congr 1; omega
 rw [e1, ← h5]; exact h4

mutual
theorem Canon.sim (R : Rel W0 σ h w) : ∀ {n : Nat} {a a1 : AV} {bs : List ABlk} {v : Value}, Canon h n a a1 bs → VR σ a v → ∀ σ0 : Sig, σ0.length = n → ∃ τ : Sig, All2 (FarOk w (σ0 ++ τ)) τ bs ∧ VR (σ0 ++ τ) a1 v
 | _, _, _, _, _, .flat n a hf, hv, σ0, h0 => ⟨[], .nil, hv.free hf⟩
 | _, _, _, _, _, .row n i o l r e vs esz md par hb hl hf, hv, σ0, h0 => by
  subst h0
  cases hv with
  | sln _ _ p hp hc =>
   refine ⟨[⟨0, 0, 0⟩], .cons _ _ _ _ ⟨_, _, rfl, by simp, fun σ' => .inl ⟨by simp, fun h => by cases h⟩⟩ .nil, .sln _ _ _ (zda _ _) rfl⟩
  | sl _ _ _ _ _ p ad c' hp hlc hc ha =>
   by_cases hs : (vs.drop o).take (l * esz) = []
   · rw [hs]
     refine ⟨[⟨ad.block, ad.off, c' - l⟩], .cons _ _ _ _ ⟨_, _, rfl, by simp, fun σ' => .inl ⟨rfl, fun h => by cases h⟩⟩ .nil, .sl _ _ _ _ _ _ _ _ (zda _ _) hlc (by simp [zai]; omega) ?_⟩
     rcases ha with rfl | ha
     · exact .inl rfl
     · exact .inr ha
   · have hne : vs ≠ [] := by rintro rfl; simp at hs
     obtain ⟨c, t, fr, h1, h2, _⟩ := zjd R hb hp hl hne
     have hl0 : l ≠ 0 := by rintro rfl; simp at hs
     obtain rfl := ha.resolve_right (by omega)
     refine ⟨[⟨p.blk, p.off + o, c' - l⟩], .cons _ _ _ _ ⟨_, _, rfl, fun _ => (Array.getElem?_eq_some_iff.1 h1).1, fun σ' => .inr ⟨hs, c, t, fr, h1, h2.free hf, fun h => by cases h⟩⟩ .nil, .sl _ _ _ _ _ _ _ _ (zda _ _) hlc (by simp [zai]; omega) (.inl rfl)⟩
 | _, _, _, _, _, .nil n e esz, hv, σ0, h0 => by
  subst h0
  cases hv
  exact ⟨[⟨0, 0, 0⟩], .cons _ _ _ _ ⟨_, _, rfl, by simp, fun σ' => .inl ⟨rfl, fun h => by cases h⟩⟩ .nil, .sln _ _ _ (zda _ _) rfl⟩
 | _, _, _, _, _, .agg n l l1 bs hc, hv, σ0, h0 => by
  cases hv with
  | agg _ cs hcs =>
  obtain ⟨τ, h1, h2⟩ := Canons.sim R hc hcs σ0 h0
  exact ⟨τ, h1, .agg _ _ h2⟩
 | _, _, _, _, _, .fn n f l l1 bs hc, hv, σ0, h0 => by
  cases hv with
  | fn _ _ cs hcs =>
  obtain ⟨τ, h1, h2⟩ := Canons.sim R hc hcs σ0 h0
  exact ⟨τ, h1, .fn _ _ _ h2⟩
 | _, _, _, _, _, .ptr n i o vs vs1 esz md par bs hb hne hc, hv, σ0, h0 => by
  cases hv with
  | ptr _ _ p hp =>
  obtain ⟨c, t, fr, h1, h2, _⟩ := zjd (o := 0) (k := vs.length) R hb hp (by simp) hne
  simp only [List.drop_zero, List.take_length, Nat.add_zero] at h2
  obtain ⟨τ, g1, g2⟩ := Canons.sim R hc h2 (σ0 ++ [⟨p.blk, p.off, 0⟩]) (by simp [h0])
  have hl := hc.length
  rw [List.append_assoc] at g1 g2
  refine ⟨[⟨p.blk, p.off, 0⟩] ++ τ, .cons ⟨p.blk, p.off, 0⟩ _ _ _ ⟨_, _, rfl, fun _ => (Array.getElem?_eq_some_iff.1 h1).1, fun ρ => .inr ⟨fun e => ?_, c, t, fr, h1, ?_, fun h => by cases h⟩⟩ g1, .ptr _ _ ⟨p.blk, p.off, 0⟩ (by rw [← h0]; simp)⟩
  · subst e; exact hne (List.eq_nil_of_length_eq_zero (by simpa using hl.symm))
  · rw [hl]; exact g2.grow _
theorem Canons.sim (R : Rel W0 σ h w) : ∀ {n : Nat} {a a1 : List AV} {bs : List ABlk} {v : List Value}, Canons h n a a1 bs → VRs σ a v → ∀ σ0 : Sig, σ0.length = n → ∃ τ : Sig, All2 (FarOk w (σ0 ++ τ)) τ bs ∧ VRs (σ0 ++ τ) a1 v
 | _, _, _, _, _, .nil n, hv, σ0, h0 => by cases hv; exact ⟨[], .nil, .nil⟩
 | _, _, _, _, _, .cons n a l a1 l1 b1 b2 h1 h2, hv, σ0, h0 => by
  cases hv with
  | cons _ v _ m hv1 hv2 =>
  obtain ⟨τ1, g1, g2⟩ := Canon.sim R h1 hv1 σ0 h0
  obtain ⟨τ2, g3, g4⟩ := Canons.sim R h2 hv2 (σ0 ++ τ1) (by simp [h0, g1.length])
  exact ⟨τ1 ++ τ2, (g1.imp fun _ _ k => by rw [← List.append_assoc]; exact k.grow _).append (by rw [← List.append_assoc]; exact g3), .cons _ _ _ _ (by rw [← List.append_assoc]; exact g2.grow _) (by rw [← List.append_assoc]; exact g4)⟩
end

theorem ztI {τ : Sig} {bs : List ABlk} (A : All2 (FarOk w τ) τ bs) : Rel w τ bs w := by
 refine ⟨A.length, fun hb hp => ?_, fun hb hp hvs => ?_, fun hb hp hm => ?_, fun _ hb _ hp _ hm _ _ => ?_, RowKit.Below.refl _ _⟩
 · obtain ⟨vs, e, rfl, h1, h2⟩ := A.get hp hb; simpa using h2 []
 · obtain ⟨vs, e, h0, h1, h2⟩ := A.get hp hb; cases h0; exact h1 hvs
 · obtain ⟨vs, e, rfl, h1, h2⟩ := A.get hp hb; have := (zbp hm).2; simp at this
 · obtain ⟨vs, e, rfl, h1, h2⟩ := A.get hp hb; have := (zbp hm).2; simp at this

mutual
inductive Den (h1 : zaa) (n0 : Nat) : Nat → List (Option Nat) → AV → AV → List ABlk → Prop
 | flat (m : Nat) (a : AV) (hf : a.free = true) : Den h1 n0 m [] a a []
 | row (m k o l r : Nat) (e : Bool) (vs : List AV) (esz : Nat) (par : Option Nat) (hk : n0 ≤ k) (hz : 0 < esz) (hb : h1[k]? = some (.cells vs esz .own par)) (he : l ≤ zai l r e ∧ o + zai l r e * esz ≤ vs.length) (h0 : l = 0 → vs = [] ∧ r = 0)
  (hf : AV.frees ((vs.drop o).take (l * esz)) = true) : Den h1 n0 m [some k] (.sl (some (k, o)) l r e) (.sl (some (m, 0)) l 0 false) [.cells ((vs.drop o).take (l * esz)) esz .own none]
 | nil (m : Nat) (e : Bool) (esz : Nat) : Den h1 n0 m [none] (.sl none 0 0 e) (.sl (some (m, 0)) 0 0 false) [.cells [] esz .own none]
 | agg (m : Nat) (ks : List (Option Nat)) (l l1 : List AV) (bs : List ABlk) (hc : Dens h1 n0 m ks l l1 bs) : Den h1 n0 m ks (.agg l) (.agg l1) bs
 | tup (m : Nat) (ks : List (Option Nat)) (l l1 : List AV) (bs : List ABlk) (hc : Dens h1 n0 m ks l l1 bs) : Den h1 n0 m ks (.tup l) (.tup l1) bs
inductive Dens (h1 : zaa) (n0 : Nat) : Nat → List (Option Nat) → List AV → List AV → List ABlk → Prop
 | nil (m : Nat) : Dens h1 n0 m [] [] [] []
 | cons (m : Nat) (ks1 ks2 : List (Option Nat)) (a : AV) (l : List AV) (a1 : AV) (l1 : List AV) (b1 b2 : List ABlk) (h1' : Den h1 n0 m ks1 a a1 b1) (h2 : Dens h1 n0 (m + b1.length) ks2 l l1 b2) : Dens h1 n0 m (ks1 ++ ks2) (a :: l) (a1 :: l1) (b1 ++ b2)
end

def zw6 (w : World) (σ1 : Sig) (h1 : zaa) (w' : World) (kp : Option Nat × Plc) (b : ABlk) : Prop :=
 ∃ vs e, b = .cells vs e .own none ∧ (∀ σ', ObjR σ' kp.2 w' b) ∧ (vs ≠ [] → ∃ k p vs' e' par, kp.1 = some k ∧ σ1[k]? = some p ∧ h1[k]? = some (.cells vs' e' .own par) ∧ vs' ≠ [] ∧ p.blk = kp.2.blk ∧ w.heap.size ≤ p.blk)

mutual
theorem Den.sim {σ1 : Sig} {h1 : zaa} {w' : World} (R : Rel w σ1 h1 w') {n0 : Nat} : ∀ {m : Nat} {ks : List (Option Nat)} {a a1 : AV} {bs : List ABlk} {v : Value}, Den h1 n0 m ks a a1 bs → VR σ1 a v → ∀ σ0 : Sig, σ0.length = m →
 ∃ τ : List (Option Nat × Plc), τ.map Prod.fst = ks ∧ All2 (zw6 w σ1 h1 w') τ bs ∧ VR (σ0 ++ τ.map Prod.snd) a1 v
 | _, _, _, _, _, _, .flat m a hf, hv, σ0, h0 => ⟨[], rfl, .nil, hv.free hf⟩
 | _, _, _, _, _, _, .row m k o l r e vs esz par hk hz hb he hl0 hf, hv, σ0, h0 => by
  subst h0
  have hlen : o + l * esz ≤ vs.length := by
   have := Nat.mul_le_mul_right esz he.1
   omega
  obtain ⟨p, hp, ho⟩ := R.get hb
  by_cases hl : l = 0
  · obtain ⟨rfl, rfl⟩ := hl0 hl
    subst hl
    refine ⟨[(some k, ⟨0, 0, 0⟩)], rfl, .cons _ _ _ _ ⟨_, _, rfl, fun σ' => .inl ⟨by simp, fun _ => rfl⟩, fun h => absurd (by simp) h⟩ .nil, ?_⟩
    cases hv with
    | sln => exact .sln _ _ _ (zda _ _) rfl
    | sl _ _ _ _ _ p' ad c' hp' hlc hc ha =>
     rw [hp] at hp'; cases hp'
     rcases ho with ⟨_, h1⟩ | ⟨h1, _⟩
     · have := h1 rfl
       have hc0 : c' = 0 := by cases e <;> simp [zai] at hc <;> omega
       subst hc0
       exact .sl _ _ _ _ _ ⟨0, 0, 0⟩ _ _ (zda _ _) (Nat.le_refl _) rfl (.inr rfl)
     · exact absurd rfl h1
  · have hlz : 0 < l * esz := Nat.mul_pos (by omega) hz
    have hne : vs ≠ [] := by rintro rfl; simp at hlen; omega
    have hs : (vs.drop o).take (l * esz) ≠ [] := by
     intro h
     have := congrArg List.length h
     simp at this; omega
    cases hv with
    | sln => omega
    | sl _ _ _ _ _ p' ad c' hp' hlc hc ha =>
    rw [hp] at hp'; cases hp'
    obtain rfl := ha.resolve_right (by omega)
    obtain ⟨c, t, fr, g1, g2, g3⟩ := zjd R hb hp hlen hne
    obtain ⟨g4, g5⟩ := g3 rfl
    refine ⟨[(some k, ⟨p.blk, p.off + o, c' - l⟩)], rfl, .cons _ _ _ _ ⟨_, _, rfl, fun σ' => .inr ⟨hs, c, t, fr, g1, g2.free hf, fun _ => ⟨fun j k1 k2 => g4 j (by simp at k1; omega) k2, ?_⟩⟩, fun _ => ⟨k, p, vs, esz, par, rfl, hp, hb, hne, rfl, R.own hb hp (zen hne (by simp))⟩⟩ .nil,
     .sl _ _ _ _ _ ⟨p.blk, p.off + o, c' - l⟩ _ _ (zda _ _) hlc (by simp [zai]; omega) (.inl rfl)⟩
    have e1 : ((vs.drop o).take (l * esz)).length = l * esz := by simp; omega
    rw [e1]
    have e2 : (c' - l) * esz + l * esz = c' * esz := by rw [← Nat.add_mul]; congr 1; omega
    have e3 : c' * esz ≤ zai l r e * esz + p.spare * esz := by
     rw [← Nat.add_mul]
     refine Nat.mul_le_mul_right _ ?_
     cases e <;> simp at hc <;> omega
    simp only
    omega
 | _, _, _, _, _, _, .nil m e esz, hv, σ0, h0 => by
  subst h0
  cases hv
  exact ⟨[(none, ⟨0, 0, 0⟩)], rfl, .cons _ _ _ _ ⟨_, _, rfl, fun σ' => .inl ⟨rfl, fun _ => rfl⟩, fun h => absurd rfl h⟩ .nil, .sln _ _ _ (zda _ _) rfl⟩
 | _, _, _, _, _, _, .agg m ks l l1 bs hc, hv, σ0, h0 => by
  cases hv with
  | agg _ cs hcs =>
  obtain ⟨τ, g1, g2, g3⟩ := Dens.sim R hc hcs σ0 h0
  exact ⟨τ, g1, g2, .agg _ _ g3⟩
 | _, _, _, _, _, _, .tup m ks l l1 bs hc, hv, σ0, h0 => by
  cases hv with
  | tup _ cs hcs =>
  obtain ⟨τ, g1, g2, g3⟩ := Dens.sim R hc hcs σ0 h0
  exact ⟨τ, g1, g2, .tup _ _ g3⟩
theorem Dens.sim {σ1 : Sig} {h1 : zaa} {w' : World} (R : Rel w σ1 h1 w') {n0 : Nat} : ∀ {m : Nat} {ks : List (Option Nat)} {a a1 : List AV} {bs : List ABlk} {v : List Value}, Dens h1 n0 m ks a a1 bs → VRs σ1 a v → ∀ σ0 : Sig, σ0.length = m →
 ∃ τ : List (Option Nat × Plc), τ.map Prod.fst = ks ∧ All2 (zw6 w σ1 h1 w') τ bs ∧ VRs (σ0 ++ τ.map Prod.snd) a1 v
 | _, _, _, _, _, _, .nil m, hv, σ0, h0 => by cases hv; exact ⟨[], rfl, .nil, .nil⟩
 | _, _, _, _, _, _, .cons m ks1 ks2 a l a1 l1 b1 b2 d1 d2, hv, σ0, h0 => by
  cases hv with
  | cons _ v _ vs hv1 hv2 =>
  obtain ⟨τ1, g1, g2, g3⟩ := Den.sim R d1 hv1 σ0 h0
  obtain ⟨τ2, g4, g5, g6⟩ := Dens.sim R d2 hv2 (σ0 ++ τ1.map Prod.snd) (by simp [h0, g2.length])
  refine ⟨τ1 ++ τ2, by rw [List.map_append, g1, g4], g2.append g5, ?_⟩
  rw [List.map_append, ← List.append_assoc]
  exact .cons _ _ _ _ (g3.grow _) g6
end

def zkX (ks : List (Option Nat)) : Prop := ∀ (i j k : Nat), ks[i]? = some (some k) → ks[j]? = some (some k) → i = j

theorem zAg : zkX [] := by intro i j k h; simp at h
theorem zdJ (k : Option Nat) : zkX [k] := by
 intro i j k' h1 h2
 cases i with
 | zero => cases j with
  | zero => rfl
  | succ j => simp at h2
 | succ i => simp at h1

theorem zhR {f : FuncId} {E : Ent} (hE : SoundE P f E) (R : Rel W0 σ h w) {τ0 : Sig} {h1 : zaa} (R1 : Rel w τ0 h1 w) {args1 : List AV} {args' : Array Value} (hv0 : VRs τ0 args1 args'.toList) {v1 v : AV} {h1' : zaa} (hrun : E.get args1 h1 = some (v1, h1'))
 {ks : List (Option Nat)} {new : List ABlk} {n0 : Nat} (hden : Den h1' n0 h.length ks v1 v new) (hks : zkX ks) :
 (∃ fd, P.funcs[f]? = some fd ∧ fd.name ≠ "runtime.NumGoroutine" ∧ fd.body.isSome = true) ∧ ∀ n, CallsIn Fence.wide n P f args' w (zvb W0 σ h w v (h ++ new)) := by
 obtain ⟨hfd, hcalls⟩ := hE hrun R1 hv0
 refine ⟨hfd, fun n => CallsIn.mono (hcalls n) fun e w' hr => ?_⟩
 obtain ⟨v', σ1', rfl, s1, R1', hv'⟩ := hr
 obtain ⟨τ, hτ, A, hv2⟩ := hden.sim R1' hv' σ R.len
 have hbelow := R1'.below
 have hold : ∀ k, k < w.heap.size → w'.heap[k]? = w.heap[k]? := fun k hk => hbelow.block k hk
 have hlenp : (τ.map Prod.snd).length = new.length := by simpa using A.length
 have split : ∀ {i : Nat} {b : ABlk} {p : Plc}, (h ++ new)[i]? = some b → (σ ++ τ.map Prod.snd)[i]? = some p → (h[i]? = some b ∧ σ[i]? = some p) ∨ (h.length ≤ i ∧ ∃ k, ks[i - h.length]? = some k ∧ zw6 w σ1' h1' w' (k, p) b) := by
  intro i b p hb hp
  rcases Nat.lt_or_ge i h.length with hi | hi
  · rw [List.getElem?_append_left hi] at hb
    rw [List.getElem?_append_left (by rw [R.len]; exact hi)] at hp
    exact .inl ⟨hb, hp⟩
  · rw [List.getElem?_append_right hi] at hb
    rw [List.getElem?_append_right (by rw [R.len]; exact hi), R.len] at hp
    simp only [List.getElem?_map, Option.map_eq_some_iff] at hp
    obtain ⟨⟨k, p'⟩, hp, rfl⟩ := hp
    exact .inr ⟨hi, k, by rw [← hτ, List.getElem?_map, hp]; rfl, A.get hp hb⟩
 have hW : W0.heap.size ≤ w.heap.size := R.below.size
 refine ⟨v', σ ++ τ.map Prod.snd, rfl, ?_, ?_, hv2⟩
 · refine ⟨⟨_, rfl⟩, ?_, fun b hb _ => hold b hb, s1.size⟩
   rintro b ⟨i, blk, p, g1, g2, g3, rfl⟩
   rcases split g1 g2 with ⟨k1, k2⟩ | ⟨_, k, _, vs, e, rfl, _, hk⟩
   · exact .inl ⟨i, blk, p, k1, k2, g3, rfl⟩
   · obtain ⟨_, p', _, _, _, _, _, _, _, e1, e2⟩ := hk (zbp g3).1
     right; rw [← e1]; exact e2
 · refine ⟨by rw [List.length_append, List.length_append, R.len, hlenp], fun {i b p} g1 g2 => ?_, fun {i vs e par p} g1 g2 hvs => ?_, fun {i b p} g1 g2 hm => ?_, fun {i j b b' p q} hij g1 g2 g3 g4 m1 m2 hpq => ?_, R.below.trans (hbelow.mono hW)⟩
   · rcases split g1 g2 with ⟨k1, k2⟩ | ⟨_, k, _, vs, e, rfl, ho, _⟩
     · exact ((R.obj k1 k2).grow _).keep fun hd => hold _ ((R.obj k1 k2).lt hd)
     · exact ho _
   · rcases split g1 g2 with ⟨k1, k2⟩ | ⟨_, k, _, vs, e, h0, _, _⟩
     · exact R.far k1 k2 hvs
     · cases h0
   · rcases split g1 g2 with ⟨k1, k2⟩ | ⟨_, k, _, vs, e, rfl, _, hk⟩
     · exact R.own k1 k2 hm
     · obtain ⟨_, p', _, _, _, _, _, _, _, e1, e2⟩ := hk (zbp hm).1
       simp only at e1; omega
   · rcases split g1 g3 with ⟨k1, k3⟩ | ⟨hi, k, hki, vs, e, rfl, _, hk⟩
     · rcases split g2 g4 with ⟨k2, k4⟩ | ⟨hj, k, hkj, vs, e, rfl, _, hk⟩
       · exact R.sep hij k1 k2 k3 k4 m1 m2 hpq
       · have h5 := (R.obj k1 k3).lt (ABlk.mine_ne m1)
         obtain ⟨_, p', _, _, _, _, _, _, _, e1, e2⟩ := hk (zbp m2).1
         simp only at e1; omega
     · rcases split g2 g4 with ⟨k2, k4⟩ | ⟨hj, k', hkj, vs', e', rfl, _, hk'⟩
       · have h5 := (R.obj k2 k4).lt (ABlk.mine_ne m2)
         obtain ⟨_, p', _, _, _, _, _, _, _, e1, e2⟩ := hk (zbp m1).1
         simp only at e1; omega
       · obtain ⟨a, pa, vsa, ea, para, ha0, ha1, ha2, ha3, ha4, _⟩ := hk (zbp m1).1
         obtain ⟨b, pb, vsb, eb, parb, hb0, hb1, hb2, hb3, hb4, _⟩ := hk' (zbp m2).1
         simp only at ha0 hb0 ha4 hb4
         subst ha0 hb0
         have hab : a ≠ b := by
          rintro rfl
          have := hks _ _ _ hki hkj
          omega
         rcases R1'.sep hab ha2 hb2 ha1 hb1 (zen ha3 (by simp)) (zen hb3 (by simp)) (by rw [ha4, hb4, hpq]) with ⟨_, g⟩ | ⟨_, g⟩ <;> simp [ABlk.isRo] at g

theorem znQ {f : FuncId} {E' : Ent}
 (hf : ∀ args h v h', E'.get args h = some (v, h') → ∃ E, SoundE P f E ∧ ∃ args1 h1, Canons h 0 args args1 h1 ∧ ∃ v1 h1', E.get args1 h1 = some (v1, h1') ∧ ∃ ks new, h' = h ++ new ∧ Den h1' h1.length h.length ks v1 v new ∧ zkX ks) : SoundE P f E' := by
 intro W0 σ h w args args' v h' hx R hv
 obtain ⟨E, hE, args1, h1, hcan, v1, h1', hrun, ks, new, rfl, hden, hks⟩ := hf _ _ _ _ hx
 obtain ⟨τ0, A0, hv0⟩ := hcan.sim R hv [] rfl
 rw [List.nil_append] at hv0 A0
 exact zhR hE R (ztI A0) hv0 hrun hden hks

end Go.Abs

end

section
/- A law's call: its arguments, told; its end. -/
set_option autoImplicit false
set_option linter.unusedVariables false
set_option linter.unusedSimpArgs false
namespace Go.Abs
open Go.ChangeShapes Go.RowKit Go.WideShapes
variable {H : Type} {enc : TypeId × Value → H} {P : Program}

theorem zha {W W' : World} (hl : laidOutB P = true) (hb : Below W.heap.size W W') : ∀ {ts : List TypeId} {vs : List Value} {ds : List (DataW H)} {ps : List MemPlace},
 (∀ t ∈ ts, P.readableRec t = true ∧ t < P.types.size) → DataW.TrodAll enc P W 0 (fun _ => true) true ts vs ds ps → (∀ x ∈ ps, x.block < W.heap.size) →
 DataW.TrodAll enc P W' 0 (fun b => decide (b < W.heap.size)) true ts vs ds ps
 | [], [], [], _, _, h, _ => h
 | _ :: _, _ :: _, _ :: _, _, hT, ⟨p, q, h1, h2, e⟩, hs =>
  ⟨p, q, Below.trod hl (hT _ (by simp)).1 (hT _ (by simp)).2 h1 hb (fun x hx => hs x (by rw [e]; exact List.mem_append_left _ hx)),
   zha hl hb (fun t ht => hT t (List.mem_cons_of_mem _ ht)) h2 (fun x hx => hs x (by rw [e]; exact List.mem_append_right _ hx)), e⟩

theorem zuV {f : Func} {s : ChangeSpec} {W W' : World} {args : Array Value} {ds gs : List (DataW H)} {before : List MemPlace} {tb : TypeId}
 (hW : DataW.Whole enc P f.params.toList s.vars false W args.toList ds gs before) (hv : s.vars = []) (hs : ∀ gs' : List (DataW H), gs' = [] → s.fn H (ds ++ gs') = { results := [.lit (.bool true)], args := ds })
 (hrt : f.resultTypes = #[tb]) (htb : P.underlying tb = some .bool) (hl : laidOutB P = true) (hp : ∀ t ∈ f.params.toList, P.readableRec t = true ∧ t < P.types.size) (hb : Below W.heap.size W W') :
 s.post enc P f false true false false W args (.bool true) W' := by
 have hlt := hW.lt
 have hW' := hW
 obtain ⟨p, q, hA, hV, rfl, hfz, _⟩ := hW
 rw [hv] at hV
 obtain ⟨rfl, rfl⟩ := trodVars_none hV
 have hs' := hs [] rfl
 refine ⟨ds, [], p ++ [], [], p, [], hW', ?_, ?_, ?_, hb.frame _, fun h => by cases h⟩
 · rw [hs', hrt]
   exact trodAll_mk1 (shut_bool htb true)
 · rw [hs']
   exact zha hl hb hp hA fun x hx => hlt x (by simp [hx])
 · rw [hs', hv]; exact hV

theorem zo5 {f : FuncId} {E : Ent} (hE : SoundE P f E) {W : World} {σ : Sig} {h h' : zaa} {avs : List AV} {args : Array Value} (hx : E.get avs h = some (.bool true, h')) (R : Rel W σ h W) (hv : VRs σ avs args.toList) :
 Calls P f args W fun e W' => e = .returned (.bool true) ∧ Below W.heap.size W W' := by
 obtain ⟨_, hc⟩ := hE hx R hv
 refine (callsIn_wide (n := 0)).1 (CallsIn.mono (hc 0) fun e w' hr => ?_)
 obtain ⟨v', σ', rfl, _, R', hv'⟩ := hr
 exact ⟨by rw [hv'.bool_inv], R'.below⟩


theorem Rel.nothing (W : World) : Rel W [] [] W :=
 ⟨rfl, fun h _ => by simp at h, fun h _ => by simp at h, fun h _ => by simp at h, fun _ h => by simp at h, RowKit.Below.refl _ _⟩

theorem Rel.far1 {W : World} {σ : Sig} {h : zaa} {w : World} (R : Rel W σ h w) {vs : List AV} {e : Nat} {p : Plc} (ho : ∀ σ, ObjR σ p w (.cells vs e .far none)) (hlt : vs ≠ [] → p.blk < W.heap.size) :
 Rel W (σ ++ [p]) (h ++ [.cells vs e .far none]) w := by
 have key : ∀ {j : Nat} {b : ABlk} {q : Plc}, (h ++ [ABlk.cells vs e .far none])[j]? = some b → (σ ++ [p])[j]? = some q → (h[j]? = some b ∧ σ[j]? = some q) ∨ (j = h.length ∧ b = .cells vs e .far none ∧ q = p) := by
  intro j b q h1 h2
  rcases Nat.lt_or_ge j h.length with hi | hi
  · rw [List.getElem?_append_left hi] at h1
    rw [List.getElem?_append_left (by rw [R.len]; exact hi)] at h2
    exact .inl ⟨h1, h2⟩
  · have hi' := (List.getElem?_eq_some_iff.1 h1).1
    simp at hi'
    have e' : j = h.length := by omega
    subst e'
    rw [List.getElem?_append_right (by simp)] at h1
    rw [List.getElem?_append_right (by rw [R.len]; simp)] at h2
    simp [R.len] at h1 h2
    exact .inr ⟨rfl, h1.symm, h2.symm⟩
 refine ⟨by simp [R.len], fun h1 h2 => ?_, fun h1 h2 hvs => ?_, fun h1 h2 hm => ?_, fun hij h1 h2 h3 h4 m1 m2 => ?_, R.below⟩
 · rcases key h1 h2 with ⟨h1, h2⟩ | ⟨_, rfl, rfl⟩
   · exact (R.obj h1 h2).grow _
   · exact ho _
 · rcases key h1 h2 with ⟨h1, h2⟩ | ⟨_, e1, rfl⟩
   · exact R.far h1 h2 hvs
   · cases e1; exact hlt hvs
 · rcases key h1 h2 with ⟨h1, h2⟩ | ⟨_, rfl, rfl⟩
   · exact R.own h1 h2 hm
   · have := (zbp hm).2; simp at this
 · rcases key h1 h3 with ⟨k1, k3⟩ | ⟨_, rfl, _⟩
   · rcases key h2 h4 with ⟨k2, k4⟩ | ⟨_, rfl, _⟩
     · exact R.sep hij k1 k2 k3 k4 m1 m2
     · have := (zbp m2).2; simp at this
   · have := (zbp m1).2; simp at this

structure Args (W : World) (σ : Sig) (h : zaa) (avs : List AV) (vs : List Value) : Prop where
 rel : Rel W σ h W
 vrs : VRs σ avs vs

theorem Args.nothing (W : World) : Args W [] [] [] [] := ⟨Rel.nothing W, .nil⟩

theorem VRs.snoc {σ : Sig} {l : List AV} {m : List Value} {a : AV} {v : Value} (h : VRs σ l m) (hv : VR σ a v) : VRs σ (l ++ [a]) (m ++ [v]) := h.append (.cons _ _ _ _ hv .nil)

theorem Args.flat {W : World} {σ : Sig} {h : zaa} {avs : List AV} {vs : List Value} (A : Args W σ h avs vs) {a : AV} {v : Value} (hv : ∀ σ, VR σ a v) : Args W σ h (avs ++ [a]) (vs ++ [v]) :=
 ⟨A.rel, A.vrs.snoc (hv σ)⟩

theorem zmf {W : World} {a : Addr} {vs : List Value} (hv : vs ≠ []) (hc : ∀ (i : Nat) v, vs[i]? = some v → W.cell? (a.add i) = some v) :
 a.spot = none ∧ ∃ c t fr, W.heap[a.block]? = some (.cells c t fr) ∧ vs = (c.toList.drop a.off).take vs.length := by
 obtain ⟨b, o, sp⟩ := a
 have h0 : ∃ v, vs[0]? = some v := by
  cases vs with
  | nil => exact absurd rfl hv
  | cons v l => exact ⟨v, rfl⟩
 obtain ⟨v0, h0⟩ := h0
 have c0 := hc 0 v0 h0
 have e0 : (⟨b, o, sp⟩ : Addr).add 0 = ⟨b, o, sp⟩ := by simp [Addr.add]
 rw [e0] at c0
 unfold World.cell? at c0
 split at c0
 · rename_i c t fr hb
   simp only at hb
   cases sp with
   | some s => simp at c0
   | none =>
    refine ⟨rfl, c, t, fr, hb, ?_⟩
    apply List.ext_getElem?
    intro i
    rw [List.getElem?_take]
    split
    · rename_i hi
      rw [List.getElem?_drop]
      have h1 := hc i _ (List.getElem?_eq_getElem hi)
      rw [zde] at h1
      simp [World.cell?, hb] at h1
      rw [List.getElem?_eq_getElem hi]
      simpa using h1.symm
    · rename_i hi
      simp; omega
 · simp at c0


inductive CK where
 | int (k : IntKind)
 | bool
 | str
 deriving DecidableEq

def zey (P : Program) (rec : TypeId → Option (List CK)) : List Field → Nat → Nat → Option (List CK)
 | [], o, n => if o = n then some [] else none
 | f :: fs, o, n =>
  match rec f.type with
  | some l => if f.offset = o ∧ P.cellsOf f.type = l.length then (zey P rec fs (o + l.length) n).map fun m => l ++ m else none
  | none => none

def ziK (P : Program) : Nat → TypeId → Option (List CK)
 | 0, _ => none
 | d + 1, t =>
  match P.underlying t with
  | some .bool => if P.cellsOf t = 1 then some [.bool] else none
  | some (.int k) => if P.cellsOf t = 1 then some [.int k] else none
  | some .string => if P.cellsOf t = 1 then some [.str] else none
  | some (.array n e) =>
   match ziK P d e with
   | some l => if P.cellsOf e = l.length ∧ P.cellsOf t = n * l.length then some (List.replicate n l).flatten else none
   | none => none
  | some (.struct fs) => zey P (ziK P d) fs.toList 0 (P.cellsOf t)
  | _ => none

inductive FitsK : List CK → List AV → Prop
 | nil : FitsK [] []
 | int (k : IntKind) (n : Int) (h : (Lit.int k n).wf = true) (l : List CK) (m : List AV) (t : FitsK l m) : FitsK (.int k :: l) (.int k n :: m)
 | bool (b : Bool) (l : List CK) (m : List AV) (t : FitsK l m) : FitsK (.bool :: l) (.bool b :: m)
 | str (s : List UInt8) (l : List CK) (m : List AV) (t : FitsK l m) : FitsK (.str :: l) (.str s :: m)

theorem FitsK.append : ∀ {l m l' m'}, FitsK l m → FitsK l' m' → FitsK (l ++ l') (m ++ m')
 | _, _, _, _, .nil, h => h
 | _, _, _, _, .int k n w l m t, h => .int k n w _ _ (t.append h)
 | _, _, _, _, .bool b l m t, h => .bool b _ _ (t.append h)
 | _, _, _, _, .str s l m t, h => .str s _ _ (t.append h)
theorem FitsK.length : ∀ {l m}, FitsK l m → m.length = l.length
 | _, _, .nil => rfl
 | _, _, .int k n w l m t => by simp [t.length]
 | _, _, .bool b l m t => by simp [t.length]
 | _, _, .str s l m t => by simp [t.length]
theorem FitsK.frees : ∀ {l m}, FitsK l m → AV.frees m = true
 | _, _, .nil => rfl
 | _, _, .int k n w l m t => by simp [AV.frees, AV.free, t.frees]
 | _, _, .bool b l m t => by simp [AV.frees, AV.free, t.frees]
 | _, _, .str s l m t => by simp [AV.frees, AV.free, t.frees]

def zmS (P : Program) (w : World) (enc : TypeId × Value → H) (t : TypeId) (ks : List CK) : Prop :=
 P.cellsOf t = ks.length ∧ ∀ {base : Nat} {spare : Nat → Bool} {held : Bool} {fuel : Nat} {cs : List Value} {x : DataW H × List MemPlace}, DataW.trod enc P w base spare held fuel t cs = some x → ∃ avs, FitsK ks avs ∧ ∀ σ, VRs σ avs cs

theorem zkt {w : World} {l : List CK} {e : TypeId} (he : zmS P w enc e l) {base : Nat} {spare : Nat → Bool} {held : Bool} {m : Nat} : ∀ (n : Nat) (cs : List Value), cs.length = n * l.length →
 (∀ i, i < n → ∃ x, DataW.trod enc P w base spare held m e ((cs.drop (i * l.length)).take l.length) = some x) → ∃ avs, FitsK (List.replicate n l).flatten avs ∧ ∀ σ, VRs σ avs cs
 | 0, cs, hl, _ => by
  have : cs = [] := List.eq_nil_of_length_eq_zero (by simpa using hl)
  subst this
  exact ⟨[], .nil, fun _ => .nil⟩
 | n + 1, cs, hl, h => by
  obtain ⟨x, hx⟩ := h 0 (by omega)
  simp only [Nat.zero_mul, List.drop_zero] at hx
  obtain ⟨a1, f1, v1⟩ := he.2 hx
  obtain ⟨a2, f2, v2⟩ := zkt he n (cs.drop l.length) (by rw [List.length_drop, hl, Nat.succ_mul]; omega) fun i hi => by
   obtain ⟨x, hx⟩ := h (i + 1) (by omega)
   refine ⟨x, ?_⟩
   rw [List.drop_drop, ← hx]
   congr 3
   rw [Nat.succ_mul]; omega
  refine ⟨a1 ++ a2, by simpa [List.replicate_succ] using f1.append f2, fun σ => ?_⟩
  have := (v1 σ).append (v2 σ)
  rwa [List.take_append_drop] at this

theorem zi6 {w : World} {rec : TypeId → Option (List CK)} (hrec : ∀ {t : TypeId} {ks : List CK}, rec t = some ks → zmS P w enc t ks) : ∀ (fs : List Field) (o n : Nat) {ks : List CK}, zey P rec fs o n = some ks → n = o + ks.length ∧
 ∀ (base : Nat) (spare : Nat → Bool) (held : Bool) (m : Nat) (cs : List Value), cs.length = n → (∀ f ∈ fs, ∃ x, DataW.trod enc P w base spare held m f.type ((cs.drop f.offset).take (P.cellsOf f.type)) = some x) → ∃ avs, FitsK ks avs ∧ ∀ σ, VRs σ avs (cs.drop o)
 | [], o, n, ks, h => by
  unfold zey at h
  split at h
  · rename_i hc
    simp at h; subst h
    refine ⟨by simp [hc], fun base spare held m cs hl _ => ⟨[], .nil, fun σ => ?_⟩⟩
    rw [List.drop_of_length_le (by omega)]; exact .nil
  · simp at h
 | f :: fs, o, n, ks, h => by
  unfold zey at h
  split at h
  · rename_i l hl
    split at h
    · rename_i hc
      simp only [Option.map_eq_some_iff] at h
      obtain ⟨ms, hm, rfl⟩ := h
      have he := hrec hl
      obtain ⟨h1, h2⟩ := zi6 (w := w) hrec fs (o + l.length) n hm
      refine ⟨by rw [h1]; simp; omega, fun base spare held m cs hcl hf => ?_⟩
      obtain ⟨x, hx⟩ := hf f (by simp)
      rw [hc.1, hc.2] at hx
      obtain ⟨a1, f1, v1⟩ := he.2 hx
      obtain ⟨a2, f2, v2⟩ := h2 base spare held m cs hcl fun g hg => hf g (by simp [hg])
      refine ⟨a1 ++ a2, f1.append f2, fun σ => ?_⟩
      have := (v1 σ).append (v2 σ)
      rwa [← List.drop_drop, List.take_append_drop] at this
    · simp at h
  · simp at h

theorem zgY {w : World} : ∀ (d : Nat) {t : TypeId} {ks : List CK}, ziK P d t = some ks → zmS P w enc t ks
 | 0, _, _, h => by simp [ziK] at h
 | d + 1, t, ks, h => by
  unfold ziK at h
  split at h
  · rename_i hu
    split at h
    · rename_i hc
      simp at h; subst h
      exact ⟨hc, fun hx => by obtain ⟨b, rfl, _⟩ := DataW.trod_bool hu hx; exact ⟨_, .bool b _ _ .nil, fun σ => .cons _ _ _ _ (.bool b) .nil⟩⟩
    · simp at h
  · rename_i k hu
    split at h
    · rename_i hc
      simp at h; subst h
      exact ⟨hc, fun hx => by obtain ⟨n, rfl, _, hw⟩ := DataW.trod_int hu hx; exact ⟨_, .int k n hw _ _ .nil, fun σ => .cons _ _ _ _ (.int k n) .nil⟩⟩
    · simp at h
  · rename_i hu
    split at h
    · rename_i hc
      simp at h; subst h
      exact ⟨hc, fun hx => by obtain ⟨s, rfl, _⟩ := DataW.trod_string hu hx; exact ⟨_, .str _ _ _ .nil, fun σ => .cons _ _ _ _ (.str s) .nil⟩⟩
    · simp at h
  · rename_i n e hu
    split at h
    · rename_i l hl
      split at h
      · rename_i hc
        simp at h; subst h
        have he : zmS P w enc e l := zgY d hl
        refine ⟨by rw [hc.2]; simp, fun hx => ?_⟩
        obtain ⟨xs, m, rfl, _, hlen, hxl, hel⟩ := DataW.trod_array hu hx
        have each : ∀ i, i < n → ∃ x, DataW.trod enc P w _ _ _ m e ((List.drop (i * l.length) _).take l.length) = some x := fun i hi => by
         have := hel i hi
         rw [hc.1, List.getElem?_eq_getElem (by omega)] at this
         exact ⟨_, this⟩
        exact zkt he n _ (by rw [hlen, hc.2]) each
      · simp at h
    · simp at h
  · rename_i fs hu
    obtain ⟨hc, key⟩ := zi6 (fun h => zgY d h) fs.toList 0 (P.cellsOf t) h
    refine ⟨by omega, fun hx => ?_⟩
    obtain ⟨xs, m, rfl, _, hlen, hxl, hel⟩ := DataW.trod_struct hu hx
    obtain ⟨avs, f1, v1⟩ := key _ _ _ m _ (by rw [hlen]) fun f hf => by
     obtain ⟨i, hi, rfl⟩ := List.getElem_of_mem hf
     have hi' : i < fs.size := by simpa using hi
     have := hel i _ (Array.getElem?_eq_getElem hi')
     rw [List.getElem?_eq_getElem (by omega)] at this
     exact ⟨_, by simpa using this⟩
    exact ⟨avs, f1, by simpa using v1⟩
  · simp at h

def zqU (t : Option TypeDesc) (l : List AV) : AV := match t with
 | some (.struct _) => .agg l
 | some (.array _ _) => .agg l
 | _ => l.headD (.tup [])

theorem Args.plain {W : World} {σ : Sig} {h : zaa} {avs : List AV} {vs : List Value} (A : Args W σ h avs vs) {t : TypeId} {ks : List CK} {v : Value} {d : DataW H} {ps : List MemPlace} (hk : ziK P 10 t = some ks)
 (hval : Value.okWide P W .any 0 t v) (hd : DataW.Trod enc P W 0 (fun _ => true) true t v d ps) : ∃ l, FitsK ks l ∧ Args W σ h (avs ++ [zqU (P.underlying t) l]) (vs ++ [v]) := by
 obtain ⟨fuel, hd⟩ := hd
 obtain ⟨l, hl, hv⟩ := (zgY (w := W) 10 hk).2 hd
 refine ⟨l, hl, A.flat fun σ => ?_⟩
 unfold Value.okWide at hval
 unfold zqU
 split at hval
 · rename_i fs hu
   obtain ⟨cs, rfl, _⟩ := hval
   rw [hu]
   have := hv σ
   simp only [Value.cells] at this
   simpa using VR.agg _ _ this
 · rename_i n e hu
   obtain ⟨cs, rfl, _⟩ := hval
   rw [hu]
   have := hv σ
   simp only [Value.cells] at this
   simpa using VR.agg _ _ this
 · rename_i h1 h2
   have one : ∀ (a : AV) (u : Value), l = [a] → v.cells.toList = [u] → v = u → VR σ (l.headD (.tup [])) v := by
    intro a u e1 e2 e3
    have := hv σ
    rw [e1, e2] at this
    cases this with
    | cons _ _ _ _ h _ => rw [e1, e3]; exact h
   have hsh := hk
   unfold ziK at hsh
   split at hsh
   · rename_i hu
     obtain ⟨b, e1, _⟩ := DataW.trod_bool hu hd
     have : v = .bool b := by
      unfold Cell.okWide at hval
      cases v <;> simp [Value.cells] at e1 <;> first | (rw [e1]) | (exfalso; simp_all [Cell.ok])
     rw [hu]
     cases hl <;> first
      | (have := hv σ; rw [e1] at this; cases this with
       | cons _ _ _ _ h t => rw [this]; exact h)
      | (have := hv σ; rw [e1] at this; cases this)
   · rename_i k hu
     obtain ⟨b, e1, _, _⟩ := DataW.trod_int hu hd
     have : v = .int k b := by
      unfold Cell.okWide at hval
      cases v <;> simp [Value.cells] at e1 <;> first | (obtain ⟨rfl, rfl⟩ := e1; rfl) | (exfalso; simp_all [Cell.ok])
     rw [hu]
     cases hl <;> first
      | (have := hv σ; rw [e1] at this; cases this with
       | cons _ _ _ _ h t => rw [this]; exact h)
      | (have := hv σ; rw [e1] at this; cases this)
   · rename_i hu
     obtain ⟨b, e1, _⟩ := DataW.trod_string hu hd
     have : v = .string b := by
      unfold Cell.okWide at hval
      cases v <;> simp [Value.cells] at e1 <;> first | (rw [e1]) | (exfalso; simp_all [Cell.ok])
     rw [hu]
     cases hl <;> first
      | (have := hv σ; rw [e1] at this; cases this with
       | cons _ _ _ _ h t => rw [this]; exact h)
      | (have := hv σ; rw [e1] at this; cases this)
   · rename_i n e hu; exact absurd hu (h2 n e)
   · rename_i fs hu; exact absurd hu (h1 fs)
   · simp at hsh

theorem zkf {w : World} {base : Nat} {a : Addr} {n : Nat} {cs : List Value} (h : w.cells? base a n = some cs) : cs.length = n ∧ ∀ j, j < n → ∃ v, cs[j]? = some v ∧ w.cell? (a.add j) = some v := by
 unfold World.cells? at h
 split at h
 · refine ⟨by simpa using mapM_some_length h, fun j hj => ?_⟩
   have := mapM_some_get h j j (by simp [hj])
   have hl : cs.length = n := by simpa using mapM_some_length h
   rw [List.getElem?_eq_getElem (by omega)] at this ⊢
   exact ⟨_, rfl, this⟩
 · simp at h

theorem zl4 (a : Addr) (i j : Nat) : (a.add i).add j = a.add (i + j) := by
 unfold Addr.add
 by_cases hi : i = 0
 · subst hi; simp
 · by_cases hj : j = 0
   · subst hj; simp [hi]
   · have : i + j ≠ 0 := by omega
     simp [hi, hj, this, Nat.add_assoc]

theorem zub {w : World} {l : List CK} {e : TypeId} (he : zmS P w enc e l) (hc : P.cellsOf e = l.length) {base : Nat} {spare : Nat → Bool} {held : Bool} {m : Nat} {a : Addr} : ∀ (n : Nat),
 (∀ i, i < n → ∃ x, (w.cells? base (a.add (i * l.length)) l.length).bind (DataW.trod enc P w base spare held m e) = some x) →
 ∃ (rows : List (List AV)) (cs : List Value), rows.length = n ∧ (∀ r ∈ rows, FitsK l r) ∧ (∀ σ, VRs σ rows.flatten cs) ∧ cs.length = n * l.length ∧ ∀ (j : Nat) u, cs[j]? = some u → w.cell? (a.add j) = some u
 | 0, _ => ⟨[], [], rfl, by simp, fun _ => .nil, by simp, by simp⟩
 | n + 1, h => by
  obtain ⟨rows, cs, h1, h2, h3, h4, h5⟩ := zub he hc n fun i hi => h i (by omega)
  obtain ⟨x, hx⟩ := h n (by omega)
  simp only [Option.bind_eq_some_iff] at hx
  obtain ⟨us, hu, hx⟩ := hx
  obtain ⟨r, hr, hv⟩ := he.2 hx
  obtain ⟨g1, g2⟩ := zkf hu
  refine ⟨rows ++ [r], cs ++ us, by simp [h1], ?_, ?_, by rw [List.length_append, h4, g1, Nat.succ_mul], ?_⟩
  · intro q hq
    rcases List.mem_append.1 hq with hq | hq
    · exact h2 q hq
    · simp at hq; subst hq; exact hr
  · intro σ
    simpa using (h3 σ).append (hv σ)
  · intro j u hj
    rcases Nat.lt_or_ge j cs.length with hlt | hge
    · rw [List.getElem?_append_left hlt] at hj; exact h5 j u hj
    · rw [List.getElem?_append_right hge] at hj
      have hlt : j - cs.length < l.length := by
       have := (List.getElem?_eq_some_iff.1 hj).1
       omega
      obtain ⟨v, hv1, hv2⟩ := g2 _ hlt
      rw [hj] at hv1; cases hv1
      rw [← hv2, zl4]
      congr 2
      omega

theorem Args.row {W : World} {σ : Sig} {h : zaa} {avs : List AV} {vs : List Value} (A : Args W σ h avs vs) {t e : TypeId} {ks : List CK} {v : Value} {d : DataW H} {ps : List MemPlace} (ht : P.underlying t = some (.slice e)) (hk : ziK P 10 e = some ks) (hz : 0 < ks.length)
 (hval : Value.okWide P W .any 0 t v) (hd : DataW.Trod enc P W 0 (fun _ => true) true t v d ps) :
 ∃ σ', ∃ rows : List (List AV), (∀ r ∈ rows, FitsK ks r) ∧ rows.length ≤ maxLen ∧ Args W σ' (h ++ [.cells rows.flatten ks.length .far none]) (avs ++ [.sl (some (h.length, 0)) rows.length 0 false]) (vs ++ [v]) := by
 obtain ⟨a0, l0, c0, rfl⟩ := okWide_slice ht hval
 obtain ⟨fuel, hd⟩ := hd
 have he := zgY (H := H) (enc := enc) (P := P) (w := W) 10 hk
 simp only [Value.cells] at hd
 rcases DataW.trod_slice ht hd with ⟨h0, _⟩ | ⟨a, len, cap, elems, rest, n, _, h0, _, hb, hl, hm, hlen, hel, hsp0, _⟩
 · simp at h0
   obtain ⟨rfl, rfl, rfl⟩ := h0
   have R := A.rel.far1 (p := ⟨0, 0, 0⟩) (vs := []) (e := ks.length) (fun σ => .inl ⟨rfl, fun h => by cases h⟩) (fun h => absurd rfl h)
   exact ⟨_, [], by simp, Nat.zero_le _, R, (A.vrs.grow _).snoc (.sln _ _ _ (by rw [← A.rel.len]; exact zda _ _) rfl)⟩
 · simp at h0
   obtain ⟨rfl, rfl, rfl⟩ := h0
   obtain ⟨rows, cs, h1, h2, h3, h4, h5⟩ := zub he he.1 (a := a) l0 fun i hi => by
    have := hel i hi
    rw [he.1, List.getElem?_eq_getElem (by omega)] at this
    exact ⟨_, this⟩
   have hfl : rows.flatten.length = l0 * ks.length := by rw [(h3 σ).length, h4]
   by_cases h00 : l0 = 0
   · have hrows : rows = [] := List.eq_nil_of_length_eq_zero (by omega)
     subst hrows
     have R := A.rel.far1 (p := ⟨a.block, a.off, c0⟩) (vs := []) (e := ks.length) (fun σ => .inl ⟨rfl, fun h => by cases h⟩) (fun h => absurd rfl h)
     subst h00
     refine ⟨_, [], by simp, Nat.zero_le _, R, (A.vrs.grow _).snoc (.sl _ _ _ _ _ ⟨a.block, a.off, c0⟩ _ c0 (by rw [← A.rel.len]; exact zda _ _) (Nat.zero_le _) (by simp [zai]) ?_)⟩
     by_cases hc0 : c0 = 0
     · exact .inr hc0
     · left
       obtain ⟨hr1, hr2⟩ := hsp0 rfl
       have hr := hr2 0 (by omega)
       rw [List.getElem?_eq_getElem (by omega)] at hr
       simp only [Option.bind_eq_some_iff] at hr
       obtain ⟨us, hu, _⟩ := hr
       rw [he.1] at hu
       obtain ⟨g1, g2⟩ := zkf hu
       obtain ⟨u0, hu0, hu1⟩ := g2 0 hz
       have hsp := (zmf (W := W) (a := a) (vs := [u0]) (by simp) fun i v hi => by
        have hi0 : i = 0 := by
         have := (List.getElem?_eq_some_iff.1 hi).1
         simpa using this
        subst hi0
        simp at hi; subst hi
        rw [zl4] at hu1
        simpa using hu1).1
       obtain ⟨b0, o0, s0⟩ := a
       simp at hsp; subst hsp; rfl
   · have hne : rows.flatten ≠ [] := by
       intro h
       rw [h] at hfl
       have : 0 < l0 * ks.length := Nat.mul_pos (by omega) hz
       simp at hfl; omega
     have hcs : cs ≠ [] := by
      rintro rfl
      have := (h3 σ).length
      exact hne (List.eq_nil_of_length_eq_zero (by simpa using this))
     obtain ⟨hsp, c, t, fr, hb2, hw⟩ := zmf hcs h5
     have R := A.rel.far1 (p := ⟨a.block, a.off, c0 - l0⟩) (vs := rows.flatten) (e := ks.length) (fun σ => .inr ⟨hne, c, t, fr, hb2, by rw [(h3 σ).length, ← hw]; exact h3 σ, fun h => by cases h⟩) (fun _ => (Array.getElem?_eq_some_iff.1 hb2).1)
     refine ⟨_, rows, h2, by omega, R, (A.vrs.grow _).snoc ?_⟩
     rw [h1]
     refine .sl _ _ _ _ _ ⟨a.block, a.off, c0 - l0⟩ _ c0 (by rw [← A.rel.len]; exact zda _ _) hl (by simp [zai]; omega) (.inl ?_)
     obtain ⟨b0, o0, s0⟩ := a
     simp at hsp; subst hsp; rfl

end Go.Abs

end

section
/- Summaries: of loops, of functions; with what must hold for them. -/
set_option autoImplicit false
set_option linter.unusedVariables false
set_option linter.unusedSimpArgs false
namespace Go.Abs
variable {P : Program}


def spread : List Bool → List AV → Env
 | [], _ => []
 | true :: m, v :: vs => v :: spread m vs
 | true :: m, [] => .any :: spread m []
 | false :: m, vs => .any :: spread m vs

def zhd : List Bool → Env → List AV
 | true :: m, v :: e => v :: zhd m e
 | false :: m, _ :: e => zhd m e
 | _, _ => []

theorem zcq : ∀ {m : List Bool} {env : Env}, env.length = m.length → zb5 m env = spread m (zhd m env)
 | [], [], _ => rfl
 | [], _ :: _, h => by simp at h
 | _ :: _, [], h => by simp at h
 | true :: m, v :: e, h => by simp only [zb5, zhd, spread, if_true]; rw [zcq (by simpa using h)]
 | false :: m, v :: e, h => by simp only [zb5, zhd, spread, if_false, Bool.false_eq_true]; rw [zcq (by simpa using h)]

abbrev zpr := List AV → zaa → Option (Bool × AEx × List AV × zaa)

def zyI (m : List Bool) (g : zpr) {R : Type} (env : Env) (h : zaa) (K : AEx → Env → zaa → Option R) : Option R :=
 if env.length = m.length then
  match g (zhd m env) h with
  | some (b, e, vs, h') => if b = true then K e (spread m vs) h' else none
  | none => none
 else none

def zng (m : List Bool) (g : zpr) : LoopF where
 run := zyI m g
 nat := fun env h K => by
  unfold zyI
  split
  · split
    · split <;> simp
    · rfl
  · rfl

noncomputable def zbR (P : Program) (CALL : CallT) (LS : zcQ) (c : Code) (m : List Bool) (vs : List AV) (h : zaa) : Option (AEx × List AV × zaa) :=
 zbb P CALL LS c (spread m vs) h fun e env' h' => if env'.length = m.length then some (e, zhd m env', h') else none

def zd7 (body : List AV → zaa → Option (AEx × List AV × zaa)) : Nat → List AV → zaa → Option (AEx × List AV × zaa)
 | 0, _, _ => none
 | j + 1, vs, h => (body vs h).bind fun x =>
  match x.1 with
  | .norm => zd7 body j x.2.1 x.2.2
  | _ => some x

theorem zjF {CALL : CallT} {LS : zcQ} {c : Code} {m : List Bool} : ∀ (j : Nat) {vs : List AV} {h : zaa} {e : AEx} {vs' : List AV} {h' : zaa} {env : Env}, zd7 (zbR P CALL LS c m) j vs h = some (e, vs', h') → env.length = m.length → zhd m env = vs →
 zjE (zmm P CALL LS c) m j env h = some (e, spread m vs', h')
 | 0, vs, h, e, vs', h', env, hg, hl, hp => by simp [zd7] at hg
 | j + 1, vs, h, e, vs', h', env, hg, hl, hp => by
  simp only [zd7, Option.bind_eq_some_iff] at hg
  obtain ⟨⟨e1, vs1, h1⟩, hb, hk⟩ := hg
  unfold zbR at hb
  obtain ⟨e2, env2, h2, hk2, hall⟩ := zfu hb
  split at hk2
  · rename_i hl2
    simp only [Option.some.injEq, Prod.mk.injEq] at hk2
    obtain ⟨rfl, rfl, rfl⟩ := hk2
    have e1 : zmm P CALL LS c (zb5 m env) h = some (e2, env2, h2) := by
     unfold zmm
     rw [zcq hl, hp, hall]
    unfold zjE
    rw [e1]
    simp only [Option.bind_some]
    cases e2 with
    | norm => exact zjF j hk hl2 rfl
    | exit i =>
     simp only [Option.some.injEq, Prod.mk.injEq] at hk
     obtain ⟨rfl, rfl, rfl⟩ := hk
     simp [zcq hl2]
    | ret =>
     simp only [Option.some.injEq, Prod.mk.injEq] at hk
     obtain ⟨rfl, rfl, rfl⟩ := hk
     simp [zcq hl2]
  · simp at hk2

theorem ziU {CALL : CallT} (SC : zcg P CALL) {LS : zcQ} {c : Code} (hL : zcU P LS c) {m : List Bool} {g : zpr}
 (hg : ∀ vs h e vs' h', g vs h = some (true, e, vs', h') → ∃ j, zd7 (zbR P CALL LS c m) j vs h = some (e, vs', h')) : zcy P (zng m g) c := by
 refine ziP SC hL fun env h x hx => ?_
 change zyI m g env h (fun e env h => some (e, env, h)) = some x at hx
 unfold zyI at hx
 split at hx
 · rename_i hl
   split at hx
   · rename_i b e vs' h' hgx
     split at hx
     · rename_i hb
       subst hb
       simp only [Option.some.injEq] at hx
       subst hx
       obtain ⟨j, hj⟩ := hg _ _ _ _ _ hgx
       exact ⟨m, j, zjF j hj hl rfl⟩
     · simp at hx
   · simp at hx
 · simp at hx

noncomputable def zcV (P : Program) (CALL : CallT) (LS : zcQ) (c : Code) : Nat → {R : Type} → Env → zaa → (AEx → Env → zaa → Option R) → Option R
 | 0, _, _, _, _ => none
 | j + 1, _, env, h, K => zbb P CALL LS c env h fun e env' h' =>
  match e with
  | .norm => zcV P CALL LS c j env' h' K
  | .exit i => K (.exit i) env' h'
  | .ret => K .ret env' h'

theorem zgx {CALL : CallT} {LS : zcQ} {c : Code} : ∀ (j : Nat) {R : Type} {env : Env} {h : zaa} {K : AEx → Env → zaa → Option R} {r : R}, zcV P CALL LS c j env h K = some r →
 ∃ e env' h', K e env' h' = some r ∧ zjE (zmm P CALL LS c) [] j env h = some (e, env', h') ∧ ∀ {R' : Type} (K' : AEx → Env → zaa → Option R'), zcV P CALL LS c j env h K' = K' e env' h'
 | 0, R, env, h, K, r, hr => by simp [zcV] at hr
 | j + 1, R, env, h, K, r, hr => by
  unfold zcV at hr
  obtain ⟨e, env', h', hk, hall⟩ := zfu hr
  have hkeep : ∀ env : Env, zb5 [] env = env := fun env => by cases env <;> rfl
  have e1 : zmm P CALL LS c (zb5 [] env) h = some (e, env', h') := by rw [hkeep]; unfold zmm; rw [hall]
  cases e with
  | norm =>
   obtain ⟨e2, env2, h2, h3, h4, h5⟩ := zgx j hk
   refine ⟨e2, env2, h2, h3, ?_, fun K' => by unfold zcV; rw [hall]; exact h5 K'⟩
   unfold zjE; rw [e1]; exact h4
  | exit i =>
   refine ⟨_, _, _, hk, ?_, fun K' => by unfold zcV; rw [hall]⟩
   unfold zjE; rw [e1]; simp [hkeep]
  | ret =>
   refine ⟨_, _, _, hk, ?_, fun K' => by unfold zcV; rw [hall]⟩
   unfold zjE; rw [e1]; simp [hkeep]

noncomputable def zvU (P : Program) (CALL : CallT) (LS : zcQ) (c : Code) (j : Nat) : LoopF where
 run := zcV P CALL LS c j
 nat := fun env h K => by
  have := zdS (α := AEx × Env × zaa) (fun {R} K => zcV P CALL LS c j env h fun e env h => K (e, env, h)) (fun K r hr => by
   obtain ⟨e, env', h', h1, _, h2⟩ := zgx j hr
   exact ⟨(e, env', h'), h1, fun K' => h2 _⟩) (fun x => K x.1 x.2.1 x.2.2)
  exact this

theorem znw {CALL : CallT} (SC : zcg P CALL) {LS : zcQ} {c : Code} (hL : zcU P LS c) (j : Nat) : zcy P (zvU P CALL LS c j) c :=
 ziP SC hL fun env h x hx => by
  obtain ⟨e, env', h', hk, hl, _⟩ := zgx j (show zcV P CALL LS c j env h (fun e env h => some (e, env, h)) = some x from hx)
  simp only [Option.some.injEq] at hk
  subst hk
  exact ⟨[], j, hl⟩


abbrev zdD := List AV → zaa → Option (Bool × AV × zaa)

def zvn (g : zdD) {R : Type} (args : List AV) (h : zaa) (K : AV → zaa → Option R) : Option R :=
 match g args h with
 | some (b, v, h') => if b = true then K v h' else none
 | none => none

def zbj (g : zdD) : Ent where
 run := zvn g
 nat := fun args h K => by
  unfold zvn
  split
  · split <;> simp
  · rfl

theorem zix {g : zdD} {args : List AV} {h : zaa} {v : AV} {h' : zaa} (hx : (zbj g).get args h = some (v, h')) : g args h = some (true, v, h') := by
 change zvn g args h (fun v h => some (v, h)) = some (v, h') at hx
 unfold zvn at hx
 split at hx
 · rename_i b v1 h1 hg
   split at hx
   · rename_i hb; subst hb
     simp only [Option.some.injEq, Prod.mk.injEq] at hx
     obtain ⟨rfl, rfl⟩ := hx
     exact hg
   · simp at hx
 · simp at hx

theorem zga {f : FuncId} {E : Ent} (hE : SoundE P f E) {g : zdD} (hg : ∀ args h v h', g args h = some (true, v, h') → E.get args h = some (v, h')) : SoundE P f (zbj g) :=
 hE.mono fun args h x hx => by obtain ⟨v, h'⟩ := x; exact hg _ _ _ _ (zix hx)

theorem zig {f : FuncId} {g : zdD}
 (hg : ∀ args h v h', g args h = some (true, v, h') → ∃ E, SoundE P f E ∧ ∃ args1 h1, Canons h 0 args args1 h1 ∧ ∃ v1 h1', E.get args1 h1 = some (v1, h1') ∧ ∃ ks new, h' = h ++ new ∧ Den h1' h1.length h.length ks v1 v new ∧ zkX ks) : SoundE P f (zbj g) :=
 znQ fun args h v h' hx => hg _ _ _ _ (zix hx)

end Go.Abs

end

section
/- By the program's numbers: bodies, loops. -/
set_option autoImplicit false
set_option linter.unusedVariables false
set_option linter.unusedSimpArgs false
namespace Go.Abs
variable {P : Program}

def zaB (P : Program) (f : FuncId) : Code := match P.funcs[f]? with | some fn => (match fn.body with | some c => c | none => .skip) | none => .skip

def zb2 (c : Code) (i : Nat) : Code := (za0 c).getD i .skip

def zli : List (Nat × LoopF) → zcQ
 | [], _ => none
 | (k, s) :: l, n => if k = n then some s else zli l n

theorem zuu {LS : zcQ} {f : FuncId} (h : za0 (zaB P f) = []) : ∀ fd c, P.funcs[f]? = some fd → fd.body = some c → zcU P LS c := by
 intro fd c hf hb
 have e : zaB P f = c := by simp [zaB, hf, hb]
 rw [e] at h
 exact zeq h

theorem zfD {CALL : CallT} {LS : zcQ} {f : FuncId} {args : List AV} {h : zaa} : (zk0 P CALL LS f).get args h = zch P CALL LS f args h (fun v h => some (v, h)) := rfl

theorem zpZ {CALL : CallT} {LS : zcQ} {f : FuncId} {args : List AV} {h : zaa} {v : AV} (hx : zch P CALL LS f args h (fun v _ => some v) = some v) : ∃ h1, (zk0 P CALL LS f).get args h = some (v, h1) := by
 obtain ⟨v1, h1, h2, h3⟩ := zmk hx
 simp only [Option.some.injEq] at h2
 subst h2
 exact ⟨h1, by rw [zfD, h3]⟩

def zid : zcQ := fun _ => none


noncomputable def zbL (P : Program) (C : CallT) (F : Nat) : Nat → Code → zcQ
 | 0, _ => zid
 | d + 1, c => fun k => if ((za0 c).map zaX).Nodup then ((za0 c).find? fun b => zaX b == k).map fun b => zvU P C (zbL P C F d b) b F else none

def zdF (l : List (Nat × LoopF)) (r : zcQ) : zcQ := fun k => match zli l k with
 | some s => some s
 | none => r k

theorem zku : ∀ {l : List Code} {a b : Code}, (l.map zaX).Nodup → a ∈ l → b ∈ l → zaX a = zaX b → a = b
 | [], _, _, _, h, _, _ => by cases h
 | c :: l, a, b, hn, ha, hb, he => by
  simp only [List.map_cons, List.nodup_cons] at hn
  rcases List.mem_cons.1 ha with ha | ha
  · rcases List.mem_cons.1 hb with hb | hb
    · rw [ha, hb]
    · exact absurd (List.mem_map.2 ⟨b, hb, by rw [← he, ha]⟩) hn.1
  · rcases List.mem_cons.1 hb with hb | hb
    · exact absurd (List.mem_map.2 ⟨a, ha, by rw [he, hb]⟩) hn.1
    · exact zku hn.2 ha hb he

theorem zmi {C : CallT} (SC : zcg P C) (F : Nat) : ∀ (d : Nat) (c : Code), zcU P (zbL P C F d c) c
 | 0, c => fun b hb s hs => by simp [zbL, zid] at hs
 | d + 1, c => fun b hb s hs => by
  simp only [zbL] at hs
  split at hs
  · rename_i hn
    simp only [Option.map_eq_some_iff] at hs
    obtain ⟨b', hf, rfl⟩ := hs
    have h1 := List.find?_some hf
    simp only [beq_iff_eq] at h1
    have := zku hn hb (List.mem_of_find?_eq_some hf) h1.symm
    subst this
    exact @znw P C SC (zbL P C F d b) b (zmi SC F d b) F
  · simp at hs

noncomputable def zlg (P : Program) (t : Tbl) (C : CallT) (F : Nat) {R : Type} (fn : Fn) (args : List AV) (h : zaa) (K : AV → zaa → Option R) : Option R :=
 match fn with
 | .func f => match t.find f with
  | some E => E.run args h K
  | none => zch P C (zbL P C F 4 (zaB P f)) f args h K
 | .yield l => zdy P C l args h K
 | _ => none

noncomputable def za5 (P : Program) (t : Tbl) (F : Nat) : Nat → CallT
 | 0 => zm1 P zlk t
 | n + 1 => {
  run := zlg P t (za5 P t F n) F
  nat := fun fn args h K => by
   cases fn with
   | func f =>
    simp only [zlg]
    split
    · rename_i E _; exact E.nat args h K
    · exact (zk0 P (za5 P t F n) (zbL P (za5 P t F n) F 4 (zaB P f)) f).nat args h K
   | yield l => exact zkM P (za5 P t F n) l args h K
   | _ => rfl }

theorem zhb {C : CallT} (SC : zcg P C) (F d : Nat) (f : FuncId) : ∀ fd c, P.funcs[f]? = some fd → fd.body = some c → zcU P (zbL P C F d (zaB P f)) c := by
 intro fd c hf hb
 have e : zaB P f = c := by simp [zaB, hf, hb]
 rw [e]; exact zmi SC F d c

theorem zdq {t : Tbl} (ht : ∀ f E, t.find f = some E → SoundE P f E) (F : Nat) (n : Nat) : zcg P (za5 P t F n) := by
 induction n with
 | zero => exact zh1 zhq ht
 | succ n SC =>
  intro W0 σ h w fn args args' v h' hx R hv
  cases fn with
  | func f =>
   simp only [za5, CallT.get, zlg] at hx
   split at hx
   · rename_i E hE; exact ht f E hE hx R hv
   · exact zeA SC (zhb SC F 4 f) hx R hv
  | yield l => exact fun p hp => zjG SC hx R hv hp
  | _ => simp [za5, CallT.get, zlg] at hx

noncomputable def zAb (P : Program) (t : Tbl) (F n : Nat) (ls : List (Nat × LoopF)) (f : FuncId) : Ent := zk0 P (za5 P t F n) (zdF ls (zbL P (za5 P t F n) F 4 (zaB P f))) f

theorem zuB {t : Tbl} {F n : Nat} {ls : List (Nat × LoopF)} {f : FuncId} {args : List AV} {h : zaa} :
 (zAb P t F n ls f).get args h = zch P (za5 P t F n) (zdF ls (zbL P (za5 P t F n) F 4 (zaB P f))) f args h (fun v h => some (v, h)) := rfl

theorem zhJ {t : Tbl} (ht : ∀ f E, t.find f = some E → SoundE P f E) (F n : Nat) {ls : List (Nat × LoopF)} {f : FuncId} (hls : ∀ b ∈ za0 (zaB P f), ∀ s, zli ls (zaX b) = some s → zcy P s b) : SoundE P f (zAb P t F n ls f) := by
 refine zeA (zdq ht F n) fun fd c hf hb => ?_
 have e : zaB P f = c := by simp [zaB, hf, hb]
 intro b hbm s hs
 unfold zdF at hs
 split at hs
 · rename_i s' hs'
   cases hs
   exact hls b (by rw [e]; exact hbm) _ hs'
 · exact zhb (zdq ht F n) F 4 f fd c hf hb b hbm s hs

theorem znv {t : Tbl} (ht : ∀ f E, t.find f = some E → SoundE P f E) (F n : Nat) {f : FuncId} {k : Nat} {s : LoopF} {c : Code} (hk : ∀ b ∈ za0 (zaB P f), zaX b = k → b = c) (hs : zcy P s c) : SoundE P f (zAb P t F n [(k, s)] f) :=
 zhJ ht F n fun b hb s' hs' => by
  simp only [zli] at hs'
  split at hs'
  · rename_i e
    cases hs'
    rw [hk b hb e.symm]; exact hs
  · simp at hs'

end Go.Abs

end

section
/- Memory told anew: blocks that nobody names are left out, those that stay get new numbers; loops whose memory is told anew behind each round. -/
set_option autoImplicit false
set_option linter.unusedVariables false
set_option linter.unusedSimpArgs false
namespace Go.Abs
variable {P : Program} {W0 : World} {σ σ' : Sig} {h h' : zaa} {w : World}

mutual
inductive AR (ρ : Nat → Option Nat) : AV → AV → Prop
 | any (a : AV) : AR ρ a .any
 | free (a : AV) (hf : a.free = true) : AR ρ a a
 | ptr (i j o : Nat) (h : ρ i = some j) : AR ρ (.ptr (some (i, o))) (.ptr (some (j, o)))
 | sl (i j o l c : Nat) (e : Bool) (h : ρ i = some j) : AR ρ (.sl (some (i, o)) l c e) (.sl (some (j, o)) l c e)
 | map (i j : Nat) (h : ρ i = some j) : AR ρ (.map (some i)) (.map (some j))
 | yld (i j : Nat) (h : ρ i = some j) : AR ρ (.fn (.yield i) []) (.fn (.yield j) [])
 | fn (f : FuncId) (c c' : List AV) (h : ARs ρ c c') : AR ρ (.fn (.func f) c) (.fn (.func f) c')
 | agg (l l' : List AV) (h : ARs ρ l l') : AR ρ (.agg l) (.agg l')
 | tup (l l' : List AV) (h : ARs ρ l l') : AR ρ (.tup l) (.tup l')
inductive ARs (ρ : Nat → Option Nat) : List AV → List AV → Prop
 | nil : ARs ρ [] []
 | free (l : List AV) (hf : AV.frees l = true) : ARs ρ l l
 | cons (a a' : AV) (l l' : List AV) (h : AR ρ a a') (t : ARs ρ l l') : ARs ρ (a :: l) (a' :: l')
end

def zoV (ρ : Nat → Option Nat) (σ σ' : Sig) : Prop := ∀ i j p, ρ i = some j → σ[i]? = some p → σ'[j]? = some p

mutual
theorem AR.vr {ρ : Nat → Option Nat} (H : zoV ρ σ σ') : ∀ {a a' : AV} {v : Value}, AR ρ a a' → VR σ a v → VR σ' a' v
 | _, _, v, .any _, _ => .any v
 | _, _, _, .free _ hf, hv => hv.free hf
 | _, _, _, .ptr i j o h, hv => by
  cases hv with
  | ptr _ _ p hp => exact .ptr _ _ p (H _ _ _ h hp)
 | _, _, _, .sl i j o l c e h, hv => by
  cases hv with
  | sl _ _ _ _ _ p a c' hp hl hc ha => exact .sl _ _ _ _ _ p a c' (H _ _ _ h hp) hl hc ha
  | sln _ _ p hp hc => exact .sln _ _ p (H _ _ _ h hp) hc
 | _, _, _, .map i j h, hv => by
  cases hv with
  | map _ p hp => exact .map _ p (H _ _ _ h hp)
 | _, _, _, .yld i j h, hv => by
  cases hv with
  | yld _ p hp => exact .yld _ p (H _ _ _ h hp)
 | _, _, _, .fn f c c' h, hv => by
  cases hv with
  | fn _ _ cap' hc => exact .fn _ _ _ (ARs.vr H h hc)
 | _, _, _, .agg l l' h, hv => by
  cases hv with
  | agg _ cs hc => exact .agg _ _ (ARs.vr H h hc)
 | _, _, _, .tup l l' h, hv => by
  cases hv with
  | tup _ cs hc => exact .tup _ _ (ARs.vr H h hc)
theorem ARs.vr {ρ : Nat → Option Nat} (H : zoV ρ σ σ') : ∀ {a a' : List AV} {v : List Value}, ARs ρ a a' → VRs σ a v → VRs σ' a' v
 | _, _, _, .nil, .nil => .nil
 | _, _, _, .free _ hf, hv => hv.free hf
 | _, _, _, .cons _ _ _ _ h t, .cons _ _ _ _ hv hm => .cons _ _ _ _ (AR.vr H h hv) (ARs.vr H t hm)
end

theorem ARs.length {ρ : Nat → Option Nat} : ∀ {l l' : List AV}, ARs ρ l l' → l'.length = l.length
 | _, _, .nil => rfl
 | _, _, .free _ _ => rfl
 | _, _, .cons _ _ _ _ _ t => by simp [t.length]

inductive AREs (ρ : Nat → Option Nat) : List (AV × AV × Nat) → List (AV × AV × Nat) → Prop
 | nil : AREs ρ [] []
 | free (l : List (AV × AV × Nat)) (hf : ∀ e ∈ l, e.1.free = true ∧ e.2.1.free = true) : AREs ρ l l
 | cons (k k' v v' : AV) (b : Nat) (l l' : List (AV × AV × Nat)) (hk : AR ρ k k') (hv : AR ρ v v') (t : AREs ρ l l') : AREs ρ ((k, v, b) :: l) ((k', v', b) :: l')

theorem ERs.free : ∀ {l : List (AV × AV × Nat)} {m : List MapEntry}, ERs σ l m → (∀ e ∈ l, e.1.free = true ∧ e.2.1.free = true) → ERs σ' l m
 | _, _, .nil, _ => .nil
 | _, _, .cons k v b e l m hk hv hb t, hf => .cons k v b e l m (hk.free (hf (k, v, b) (by simp)).1) (hv.free (hf (k, v, b) (by simp)).2) hb (t.free fun x hx => hf x (by simp [hx]))

theorem AREs.ers {ρ : Nat → Option Nat} (H : zoV ρ σ σ') : ∀ {l l' : List (AV × AV × Nat)} {m : List MapEntry}, AREs ρ l l' → ERs σ l m → ERs σ' l' m
 | _, _, _, .nil, .nil => .nil
 | _, _, _, .free _ hf, he => he.free hf
 | _, _, _, .cons k k' v v' b l l' hk hv t, .cons _ _ _ e _ m gk gv gb gt => .cons _ _ _ e _ m (hk.vr H gk) (hv.vr H gv) gb (t.ers H gt)

inductive BR (ρ : Nat → Option Nat) : ABlk → ABlk → Prop
 | dead (b : ABlk) : BR ρ b .dead
 | cells (vs vs' : List AV) (e : Nat) (md : Md) (par par' : Option Nat) (h : ARs ρ vs vs') (hp : ∀ p j, par = some p → ρ p = some j → par' = some j) : BR ρ (.cells vs e md par) (.cells vs' e md par')
 | mp (es es' : List (AV × AV × Nat)) (clk : Nat) (s s' : Bool) (h : AREs ρ es es') : BR ρ (.mp es clk s) (.mp es' clk s')
 | lp (st : LoopState) (pend : Option AEx) (env env' : List AV) (ps : List Tmp) (asg body : Code) (h : ARs ρ env env') : BR ρ (.lp ⟨st, pend, env, ps, asg, body⟩) (.lp ⟨st, pend, env', ps, asg, body⟩)

theorem BR.row {ρ : Nat → Option Nat} {vs : List AV} {e : Nat} {md : Md} {par : Option Nat} (hf : AV.frees vs = true) (hp : ∀ p j, par = some p → ρ p ≠ some j) : BR ρ (.cells vs e md par) (.cells vs e md none) :=
 .cells _ _ _ _ _ _ (.free _ hf) fun p j h1 h2 => absurd h2 (hp p j h1)

theorem BR.obj {ρ : Nat → Option Nat} (H : zoV ρ σ σ') {p : Plc} {b b' : ABlk} (hb : BR ρ b b') (ho : ObjR σ p w b) : ObjR σ' p w b' := by
 cases hb with
 | dead => trivial
 | cells vs vs' e md par par' h hp =>
  rcases ho with ⟨rfl, h0⟩ | ⟨h0, c, t, fr, h1, h2, h3⟩
  · left
    have := h.length
    exact ⟨List.eq_nil_of_length_eq_zero (by simpa using this), h0⟩
  · right
    have hl := h.length
    refine ⟨fun e => ?_, c, t, fr, h1, ?_, ?_⟩
    · subst e; exact h0 (List.eq_nil_of_length_eq_zero (by simpa using hl.symm))
    · rw [hl]; exact h.vr H h2
    · rw [hl]; exact h3
 | mp es es' clk s s' h =>
  obtain ⟨es2, h1, h2⟩ := ho
  exact ⟨es2, h1, h.ers H h2⟩
 | lp st pend env env' ps asg body h =>
  obtain ⟨L', h1, h2⟩ := ho
  exact ⟨L', h1, ⟨h2.st, h2.pend, h.vr H h2.env, h2.ps, h2.asg, h2.body⟩⟩

theorem BR.mine {ρ : Nat → Option Nat} {b b' : ABlk} (hb : BR ρ b b') (hm : b'.mine = true) : b.mine = true ∧ b'.isRo = b.isRo := by
 cases hb with
 | dead => simp [ABlk.mine] at hm
 | cells vs vs' e md par par' h hp =>
  obtain ⟨h1, h2⟩ := zbp hm
  refine ⟨zen (fun e => ?_) h2, ?_⟩
  · subst e; have := h.length; exact h1 (List.eq_nil_of_length_eq_zero (by simpa using this))
  · cases md <;> rfl
 | mp => exact ⟨rfl, rfl⟩
 | lp => exact ⟨rfl, rfl⟩

def zdh : List Nat → Nat → Option Nat
 | [], _ => none
 | a :: t, i => if a = i then some 0 else (zdh t i).map (· + 1)

theorem zja : ∀ {s : List Nat} {i j : Nat}, zdh s i = some j → s[j]? = some i
 | [], i, j, h => by simp [zdh] at h
 | a :: t, i, j, h => by
  simp only [zdh] at h
  split at h
  · rename_i e; simp at h; subst h; simp [e]
  · simp only [Option.map_eq_some_iff] at h
    obtain ⟨k, hk, rfl⟩ := h
    simpa using zja hk
theorem zez : ∀ {s : List Nat} {i j : Nat}, s.Nodup → s[j]? = some i → zdh s i = some j
 | [], i, j, _, h => by simp at h
 | a :: t, i, j, hn, h => by
  simp only [List.nodup_cons] at hn
  cases j with
  | zero => simp at h; simp [zdh, h]
  | succ j =>
   simp at h
   have : a ≠ i := by rintro rfl; exact hn.1 (List.mem_iff_getElem?.2 ⟨j, h⟩)
   simp [zdh, this, zez hn.2 h]

inductive BRs (ρ : Nat → Option Nat) (h : zaa) : List Nat → zaa → Prop
 | nil : BRs ρ h [] []
 | cons (i : Nat) (s : List Nat) (b b' : ABlk) (h' : zaa) (hb : h[i]? = some b) (hr : BR ρ b b') (t : BRs ρ h s h') : BRs ρ h (i :: s) (b' :: h')

theorem BRs.length {ρ : Nat → Option Nat} : ∀ {s : List Nat} {h' : zaa}, BRs ρ h s h' → h'.length = s.length
 | _, _, .nil => rfl
 | _, _, .cons _ _ _ _ _ _ _ t => by simp [t.length]
theorem BRs.get {ρ : Nat → Option Nat} : ∀ {s : List Nat} {h' : zaa}, BRs ρ h s h' → ∀ {j : Nat} {b' : ABlk}, h'[j]? = some b' → ∃ i b, s[j]? = some i ∧ h[i]? = some b ∧ BR ρ b b'
 | _, _, .nil, j, b', e => by simp at e
 | _, _, .cons i s b b2 h' hb hr t, 0, b', e => by simp at e; subst e; exact ⟨i, b, rfl, hb, hr⟩
 | _, _, .cons i s b b2 h' hb hr t, j + 1, b', e => by simp at e; obtain ⟨i', b3, h1, h2⟩ := t.get e; exact ⟨i', b3, by simpa using h1, h2⟩
theorem BRs.append {ρ : Nat → Option Nat} : ∀ {s s' : List Nat} {h1 h2 : zaa}, BRs ρ h s h1 → BRs ρ h s' h2 → BRs ρ h (s ++ s') (h1 ++ h2)
 | _, _, _, _, .nil, H => H
 | _, _, _, _, .cons _ _ _ _ _ hb hr t, H => .cons _ _ _ _ _ hb hr (t.append H)

def zc2 (σ : Sig) (s : List Nat) : Sig := s.map fun i => σ.getD i default

theorem zc1 {s : List Nat} {i j : Nat} {p : Plc} (hs : s[j]? = some i) (hp : σ[i]? = some p) : (zc2 σ s)[j]? = some p := by
 simp [zc2, hs, List.getD, hp]
theorem zjO {s : List Nat} : zoV (zdh s) σ (zc2 σ s) := fun i j p h hp => zc1 (zja h) hp

theorem Rel.gc (R : Rel W0 σ h w) {s : List Nat} (B : BRs (zdh s) h s h') (hn : s.Nodup) : Rel W0 (zc2 σ s) h' w ∧ ∀ b, Own h' (zc2 σ s) b → Own h σ b := by
 have key : ∀ {j : Nat} {b' : ABlk} {p : Plc}, h'[j]? = some b' → (zc2 σ s)[j]? = some p → ∃ i b, s[j]? = some i ∧ h[i]? = some b ∧ BR (zdh s) b b' ∧ σ[i]? = some p := by
  intro j b' p h1 h2
  obtain ⟨i, b, e1, e2, e3⟩ := B.get h1
  obtain ⟨p', hp, _⟩ := R.get e2
  have := zc1 e1 hp
  rw [this] at h2; cases h2
  exact ⟨i, b, e1, e2, e3, hp⟩
 refine ⟨⟨by simp [zc2, B.length], fun h1 h2 => ?_, fun {j vs e par p} h1 h2 hvs => ?_, fun h1 h2 hm => ?_, fun {i j b b' p q} hij h1 h2 h3 h4 m1 m2 hpq => ?_, R.below⟩, ?_⟩
 · obtain ⟨i, b, e1, e2, e3, e4⟩ := key h1 h2
   exact e3.obj zjO (R.obj e2 e4)
 · obtain ⟨i, b, e1, e2, e3, e4⟩ := key h1 h2
   cases e3 with
   | cells vs0 _ _ _ par0 _ ha hp =>
    refine R.far e2 e4 fun e => ?_
    subst e
    exact hvs (List.eq_nil_of_length_eq_zero (by simpa using ha.length))
 · obtain ⟨i, b, e1, e2, e3, e4⟩ := key h1 h2
   exact R.own e2 e4 (e3.mine hm).1
 · obtain ⟨i0, b0, e1, e2, e3, e4⟩ := key h1 h3
   obtain ⟨j0, c0, f1, f2, f3, f4⟩ := key h2 h4
   have hne : i0 ≠ j0 := by
    rintro rfl
    have g1 := zez hn e1
    have g2 := zez hn f1
    rw [g1] at g2; cases g2; exact hij rfl
   rcases R.sep hne e2 f2 e4 f4 (e3.mine m1).1 (f3.mine m2).1 hpq with ⟨g1, g2⟩ | ⟨g1, g2⟩
   · left
     refine ⟨?_, by rw [(f3.mine m2).2]; exact g2⟩
     cases e3 with
     | dead => simp [ABlk.mine] at m1
     | cells _ _ _ _ par par' _ hp => exact hp _ _ g1 (zez hn f1)
     | mp => simp [ABlk.par] at g1
     | lp => simp [ABlk.par] at g1
   · right
     refine ⟨?_, by rw [(e3.mine m1).2]; exact g2⟩
     cases f3 with
     | dead => simp [ABlk.mine] at m2
     | cells _ _ _ _ par par' _ hp => exact hp _ _ g1 (zez hn e1)
     | mp => simp [ABlk.par] at g1
     | lp => simp [ABlk.par] at g1
 · rintro x ⟨j, b', p, h1, h2, h3, rfl⟩
   obtain ⟨i, b, e1, e2, e3, e4⟩ := key h1 h2
   exact ⟨i, b, p, e2, e4, (e3.mine h3).1, rfl⟩

def Gc (n0 : Nat) (vs : List AV) (h : zaa) (vs' : List AV) (h' : zaa) : Prop :=
 (vs = vs' ∧ h = h') ∨ ∃ s : List Nat, (∀ j, j < n0 → s[j]? = some j) ∧ s.Nodup ∧ ARs (zdh s) vs vs' ∧ BRs (zdh s) h s h'

theorem Gc.refl {n0 : Nat} {vs : List AV} {h : zaa} : Gc n0 vs h vs h := .inl ⟨rfl, rfl⟩
theorem Gc.by (s : List Nat) {n0 : Nat} {vs vs' : List AV} {h h' : zaa} (hn : s.take n0 = List.range n0) (hd : s.Nodup) (hv : ARs (zdh s) vs vs') (hb : BRs (zdh s) h s h') : Gc n0 vs h vs' h' :=
 .inr ⟨s, fun j hj => by
  have h1 : (s.take n0)[j]? = some j := by rw [hn]; simp [hj]
  rwa [List.getElem?_take, if_pos hj] at h1, hd, hv, hb⟩

theorem ARs.any {ρ : Nat → Option Nat} {l l' : List AV} (h : ARs ρ l l') : ARs ρ (.any :: l) (.any :: l') := .cons _ _ _ _ (.any _) h

theorem zev {ρ : Nat → Option Nat} : ∀ {m : List Bool} {vs vs' : List AV}, ARs ρ vs vs' → ARs ρ (spread m vs) (spread m vs')
 | [], _, _, _ => .nil
 | true :: m, _, _, .cons _ _ _ _ h t => .cons _ _ _ _ h (zev t)
 | true :: m, _, _, .nil => (zev (m := m) (vs := []) (vs' := []) .nil).any
 | true :: m, [], _, .free _ hf => (zev (m := m) (vs := []) (vs' := []) .nil).any
 | true :: m, v :: vs, _, .free _ hf => by
  simp only [AV.frees, Bool.and_eq_true] at hf
  exact .cons _ _ _ _ (.free _ hf.1) (zev (.free _ hf.2))
 | false :: m, _, _, h => (zev (m := m) h).any

inductive GReach (body : List AV → zaa → Option (AEx × List AV × zaa)) (n0 : Nat) : Nat → List AV → zaa → AEx → List AV → zaa → Prop
 | stop (vs : List AV) (h : zaa) (e : AEx) (vs1 : List AV) (h1 : zaa) (vs' : List AV) (h' : zaa) (hb : body vs h = some (e, vs1, h1)) (he : e ≠ .norm) (hg : Gc n0 vs1 h1 vs' h') : GReach body n0 1 vs h e vs' h'
 | step (k : Nat) (vs : List AV) (h : zaa) (vs1 : List AV) (h1 : zaa) (vs2 : List AV) (h2 : zaa) (e : AEx) (vs' : List AV) (h' : zaa) (hb : body vs h = some (.norm, vs1, h1)) (hg : Gc n0 vs1 h1 vs2 h2)
  (t : GReach body n0 k vs2 h2 e vs' h') : GReach body n0 (k + 1) vs h e vs' h'

theorem At.gc {B : Nat} {m : List Bool} {vs vs' : List AV} {a : Act} {σ0 : Sig} {h0 : zaa} {w0 : World} (A : At W0 B σ h (spread m vs) a w) (s0 : Stp σ0 h0 w0 σ h w) (R0 : σ0.length = h0.length) (g : Gc h0.length vs h vs' h') :
 ∃ σ', At W0 B σ' h' (spread m vs') a w ∧ Stp σ0 h0 w0 σ' h' w := by
 rcases g with ⟨rfl, rfl⟩ | ⟨s, hs, hn, ha, hb⟩
 · exact ⟨σ, A, s0⟩
 obtain ⟨R', ho⟩ := A.rel.gc hb hn
 refine ⟨zc2 σ s, ⟨R', (zev ha).vr zjO A.env, A.marks⟩, ⟨?_, fun b hb => s0.own b (ho b hb), s0.same, s0.size⟩⟩
 obtain ⟨τ, hτ⟩ := s0.ext
 refine ⟨(zc2 σ s).drop σ0.length, ?_⟩
 have hl : σ0.length ≤ (zc2 σ s).length := by
  rcases Nat.eq_zero_or_pos h0.length with h1 | h1
  · omega
  · have h2 := hs (h0.length - 1) (by omega)
    have h3 := (List.getElem?_eq_some_iff.1 h2).1
    simp [zc2]; omega
 have e : (zc2 σ s).take σ0.length = σ0 := by
  apply List.ext_getElem?
  intro j
  rw [List.getElem?_take]
  split
  · rename_i hj
    have h1 : σ[j]? = σ0[j]? := by rw [hτ, List.getElem?_append_left hj]
    have h2 : σ0[j]? = some σ0[j] := List.getElem?_eq_getElem hj
    rw [h2]
    exact zc1 (hs j (by omega)) (h1.trans h2)
  · rw [List.getElem?_eq_none (by omega)]
 conv => lhs; rw [← List.take_append_drop σ0.length (zc2 σ s), e]


inductive NRs (k : Nat) : List AV → List AV → Prop
 | nil : NRs k [] []
 | same (a : AV) (l l' : List AV) (t : NRs k l l') : NRs k (a :: l) (a :: l')
 | void (e : Bool) (l l' : List AV) (t : NRs k l l') : NRs k (.sl none 0 0 e :: l) (.sl (some (k, 0)) 0 0 false :: l')

theorem NRs.refl {k : Nat} : ∀ l : List AV, NRs k l l
 | [] => .nil
 | a :: l => .same a l l (NRs.refl l)
theorem NRs.length {k : Nat} : ∀ {l l' : List AV}, NRs k l l' → l'.length = l.length
 | _, _, .nil => rfl
 | _, _, .same _ _ _ t => by simp [t.length]
 | _, _, .void _ _ _ t => by simp [t.length]
theorem NRs.vrs {k : Nat} {p : Plc} (hp : σ[k]? = some p) (hs : p.spare = 0) : ∀ {l l' : List AV} {m : List Value}, NRs k l l' → VRs σ l m → VRs σ l' m
 | _, _, _, .nil, .nil => .nil
 | _, _, _, .same _ _ _ t, .cons _ _ _ _ hv hm => .cons _ _ _ _ hv (t.vrs hp hs hm)
 | _, _, _, .void _ _ _ t, .cons _ _ _ _ hv hm => by
  cases hv with
  | sl0 => exact .cons _ _ _ _ (.sln _ _ _ hp hs) (t.vrs hp hs hm)
theorem NRs.spread {k : Nat} : ∀ {m : List Bool} {l l' : List AV}, NRs k l l' → NRs k (spread m l) (spread m l')
 | [], _, _, _ => .nil
 | true :: m, _, _, .nil => NRs.refl _
 | true :: m, _, _, .same a _ _ t => .same a _ _ (NRs.spread t)
 | true :: m, _, _, .void e _ _ t => .void e _ _ (NRs.spread t)
 | false :: m, _, _, h => .same .any _ _ (NRs.spread h)

inductive NB (k : Nat) : ABlk → ABlk → Prop
 | same (b : ABlk) : NB k b b
 | cells (vs vs' : List AV) (e : Nat) (md : Md) (par : Option Nat) (h : NRs k vs vs') : NB k (.cells vs e md par) (.cells vs' e md par)
inductive NBs (k : Nat) : zaa → zaa → Prop
 | nil : NBs k [] []
 | cons (b b' : ABlk) (h h' : zaa) (hb : NB k b b') (t : NBs k h h') : NBs k (b :: h) (b' :: h')
theorem NBs.refl {k : Nat} : ∀ h : zaa, NBs k h h
 | [] => .nil
 | b :: h => .cons _ _ _ _ (.same b) (NBs.refl h)
theorem NBs.length {k : Nat} : ∀ {h h' : zaa}, NBs k h h' → h'.length = h.length
 | _, _, .nil => rfl
 | _, _, .cons _ _ _ _ _ t => by simp [t.length]
theorem NBs.get {k : Nat} : ∀ {h h' : zaa}, NBs k h h' → ∀ {i : Nat} {b' : ABlk}, h'[i]? = some b' → ∃ b, h[i]? = some b ∧ NB k b b'
 | _, _, .nil, i, b', hi => by simp at hi
 | _, _, .cons b b1 _ _ hb t, 0, b', hi => by simp at hi; subst hi; exact ⟨b, rfl, hb⟩
 | _, _, .cons _ _ _ _ _ t, i + 1, b', hi => t.get (by simpa using hi)
theorem NB.facts {k : Nat} {b b' : ABlk} (h : NB k b b') : b'.mine = b.mine ∧ b'.isRo = b.isRo ∧ b'.par = b.par := by
 cases h with
 | same => exact ⟨rfl, rfl, rfl⟩
 | cells vs vs' e md par h =>
  refine ⟨?_, ?_, ?_⟩
  · have := h.length
    cases vs <;> cases vs' <;> cases md <;> simp_all [ABlk.mine]
  · cases md <;> rfl
  · rfl
theorem Rel.void (R : Rel W0 σ h w) {k : Nat} {p : Plc} (hp : σ[k]? = some p) (hs : p.spare = 0) (B : NBs k h h') : Rel W0 σ h' w ∧ ∀ b, Own h' σ b → Own h σ b := by
 refine ⟨⟨by rw [B.length]; exact R.len, fun h1 h2 => ?_, fun {j vs e par p} h1 h2 hvs => ?_, fun h1 h2 hm => ?_, fun {i j b b' p q} hij h1 h2 h3 h4 m1 m2 hpq => ?_, R.below⟩, ?_⟩
 · obtain ⟨b, e1, e2⟩ := B.get h1
   have ho := R.obj e1 h2
   cases e2 with
   | same => exact ho
   | cells vs vs' e md par g =>
    have hl := g.length
    rcases ho with ⟨rfl, h0⟩ | ⟨h0, c, t, fr, g1, g2, g3⟩
    · exact .inl ⟨List.eq_nil_of_length_eq_zero (by simpa using hl), h0⟩
    · refine .inr ⟨fun e => ?_, c, t, fr, g1, ?_, ?_⟩
      · subst e; exact h0 (List.eq_nil_of_length_eq_zero (by simpa using hl.symm))
      · rw [hl]; exact g.vrs hp hs g2
      · rw [hl]; exact g3
 · obtain ⟨b, e1, e2⟩ := B.get h1
   cases e2 with
   | same => exact R.far e1 h2 hvs
   | cells vs0 _ _ _ _ g =>
    refine R.far e1 h2 fun e => ?_
    subst e
    exact hvs (List.eq_nil_of_length_eq_zero (by simpa using g.length))
 · obtain ⟨b, e1, e2⟩ := B.get h1
   exact R.own e1 h2 (e2.facts.1 ▸ hm)
 · obtain ⟨b0, e1, e2⟩ := B.get h1
   obtain ⟨c0, f1, f2⟩ := B.get h2
   have := R.sep hij e1 f1 h3 h4 (e2.facts.1 ▸ m1) (f2.facts.1 ▸ m2) hpq
   rw [e2.facts.2.1, e2.facts.2.2, f2.facts.2.1, f2.facts.2.2]
   exact this
 · rintro x ⟨j, b', p, h1, h2, h3, rfl⟩
   obtain ⟨b, e1, e2⟩ := B.get h1
   exact ⟨j, b, p, e1, h2, e2.facts.1 ▸ h3, rfl⟩

theorem Rel.orphan (R : Rel W0 σ h w) {i q : Nat} {vs : List AV} {e : Nat} {md : Md} (hi : h[i]? = some (.cells vs e md (some q))) (hq : ∀ b, h[q]? = some b → b.mine = false) :
 Rel W0 σ (h.set i (.cells vs e md none)) w ∧ ∀ b, Own (h.set i (.cells vs e md none)) σ b → Own h σ b := by
 have key : ∀ {j : Nat} {b' : ABlk}, (h.set i (.cells vs e md none))[j]? = some b' → ∃ b, h[j]? = some b ∧ b'.mine = b.mine ∧ b'.isRo = b.isRo ∧ (b.mine = true → ∀ k c, h[k]? = some c → c.mine = true → b.par = some k → b'.par = some k) ∧ ((b' = b) ∨ (b = .cells vs e md (some q) ∧ b' = .cells vs e md none)) := by
  intro j b' hj
  by_cases hij : i = j
  · subst hij
    have hlt := (List.getElem?_eq_some_iff.1 hi).1
    rw [List.getElem?_set_self hlt] at hj
    cases hj
    refine ⟨_, hi, ?_, ?_, fun _ k c hk hc hp => ?_, .inr ⟨rfl, rfl⟩⟩
    · cases vs <;> cases md <;> rfl
    · cases md <;> rfl
    · cases hp
      rw [hq _ hk] at hc; cases hc
  · rw [List.getElem?_set_ne hij] at hj
    exact ⟨b', hj, rfl, rfl, fun _ _ _ _ _ h => h, .inl rfl⟩
 refine ⟨⟨by simp [R.len], fun h1 h2 => ?_, fun {j vs e par p} h1 h2 hvs => ?_, fun h1 h2 hm => ?_, fun {i j b b' p q} hij h1 h2 h3 h4 m1 m2 hpq => ?_, R.below⟩, ?_⟩
 · obtain ⟨b, e1, _, _, _, e2⟩ := key h1
   have ho := R.obj e1 h2
   rcases e2 with rfl | ⟨rfl, rfl⟩
   · exact ho
   · exact ho
 · obtain ⟨b, e1, _, _, _, e2⟩ := key h1
   rcases e2 with rfl | ⟨rfl, e3⟩
   · exact R.far e1 h2 hvs
   · cases e3
     exact R.far e1 h2 hvs
 · obtain ⟨b, e1, e2, _⟩ := key h1
   exact R.own e1 h2 (e2 ▸ hm)
 · obtain ⟨b0, e1, e2, e3, e4, _⟩ := key h1
   obtain ⟨c0, f1, f2, f3, f4, _⟩ := key h2
   rcases R.sep hij e1 f1 h3 h4 (e2 ▸ m1) (f2 ▸ m2) hpq with ⟨g1, g2⟩ | ⟨g1, g2⟩
   · exact .inl ⟨e4 (e2 ▸ m1) _ _ f1 (f2 ▸ m2) g1, f3 ▸ g2⟩
   · exact .inr ⟨f4 (f2 ▸ m2) _ _ e1 (e2 ▸ m1) g1, e3 ▸ g2⟩
 · rintro x ⟨j, b', p, h1, h2, h3, rfl⟩
   obtain ⟨b, e1, e2, _⟩ := key h1
   exact ⟨j, b, p, e1, h2, e2 ▸ h3, rfl⟩

inductive Pre (n0 : Nat) : List AV → zaa → List AV → zaa → Prop
 | done (vs : List AV) (h : zaa) : Pre n0 vs h vs h
 | gc (vs : List AV) (h : zaa) (vs1 : List AV) (h1 : zaa) (vs2 : List AV) (h2 : zaa) (g : Gc n0 vs h vs1 h1) (t : Pre n0 vs1 h1 vs2 h2) : Pre n0 vs h vs2 h2
 | void (e : Nat) (vs : List AV) (h : zaa) (vs1 : List AV) (h1 : zaa) (vs2 : List AV) (h2 : zaa) (hv : NRs h.length vs vs1) (hb : NBs h.length (h ++ [.cells [] e .own none]) h1) (t : Pre n0 vs1 h1 vs2 h2) : Pre n0 vs h vs2 h2
 | orphan (i q e : Nat) (md : Md) (cs : List AV) (vs : List AV) (h h1 : zaa) (vs2 : List AV) (h2 : zaa) (hi : h[i]? = some (.cells cs e md (some q))) (hq : ∀ b, h[q]? = some b → b.mine = false) (he : h1 = h.set i (.cells cs e md none)) (t : Pre n0 vs h1 vs2 h2) : Pre n0 vs h vs2 h2

theorem At.pre {B : Nat} {m : List Bool} {a : Act} {σ0 : Sig} {h0 : zaa} {w0 : World} (R0 : σ0.length = h0.length) {vs vs' : List AV} {h h' : zaa} (g : Pre h0.length vs h vs' h') : ∀ {σ : Sig}, At W0 B σ h (spread m vs) a w → Stp σ0 h0 w0 σ h w →
 ∃ σ', At W0 B σ' h' (spread m vs') a w ∧ Stp σ0 h0 w0 σ' h' w := by
 induction g with
 | done => exact fun A s => ⟨_, A, s⟩
 | gc _ _ _ _ _ _ g _ ih =>
  intro σ A s
  obtain ⟨σ1, A1, s1⟩ := A.gc s R0 g
  exact ih A1 s1
 | void e vs h vs1 h1 _ _ hv hb _ ih =>
  intro σ A s
  obtain ⟨R1, s1⟩ := A.rel.pushVoid e none ⟨0, 0, 0⟩ rfl
  have hk : (σ ++ [(⟨0, 0, 0⟩ : Plc)])[h.length]? = some ⟨0, 0, 0⟩ := by rw [← A.rel.len]; simp
  obtain ⟨R2, ho⟩ := R1.void hk rfl hb
  have A2 : At W0 B (σ ++ [(⟨0, 0, 0⟩ : Plc)]) h1 (spread m vs1) a w := ⟨R2, hv.spread.vrs hk rfl (A.env.grow _), A.marks⟩
  exact ih A2 (s.trans ⟨s1.ext, fun b hb => s1.own b (ho b hb), s1.same, s1.size⟩)
 | orphan i q e md cs vs _ h1 _ _ hi hq he _ ih =>
  intro σ A s
  obtain ⟨R1, ho⟩ := A.rel.orphan hi hq
  subst he
  exact ih ⟨R1, A.env, A.marks⟩ (s.trans ⟨⟨[], by simp⟩, fun b hb => .inl (ho b hb), fun _ _ _ => rfl, Nat.le_refl _⟩)

theorem zh0 {CALL : CallT} (SC : zcg P CALL) {LS : zcQ} {c : Code} (hL : zcU P LS c) {m : List Bool} {g : zpr}
 (hg : ∀ vs h e vs' h', g vs h = some (true, e, vs', h') → ∃ vs2 h2, Pre h.length vs h vs2 h2 ∧ ∃ k, GReach (zbR P CALL LS c m) h.length k vs2 h2 e vs' h') : zcy P (zng m g) c := by
 intro W0 B σ h env a w e env' h' hx A n Q hQ
 change zyI m g env h (fun e env h => some (e, env, h)) = some (e, env', h') at hx
 unfold zyI at hx
 split at hx
 case isFalse => simp at hx
 rename_i hlen
 split at hx
 case h_2 => simp at hx
 rename_i b e0 vs' h0' hgx
 split at hx
 case isFalse => simp at hx
 rename_i hb
 subst hb
 simp only [Option.some.injEq, Prod.mk.injEq] at hx
 obtain ⟨rfl, rfl, rfl⟩ := hx
 obtain ⟨vs2, h2, hpre, k0, hr0⟩ := hg _ _ _ _ _ hgx
 have A00 : At W0 B σ h (spread m (zhd m env)) a w := by rw [← zcq hlen]; exact A.keep m
 obtain ⟨σ2, A0, s0⟩ := At.pre A.rel.len hpre A00 (Stp.refl _ _ _)
 let J : Nat → Act → World → Prop := fun k a1 w1 => ∃ σ1 h1 vs1, GReach (zbR P CALL LS c m) h.length k vs1 h1 e0 vs' h0' ∧ At W0 B σ1 h1 (spread m vs1) a1 w1 ∧ Stp σ h w σ1 h1 w1
 let I : Act → World → Prop := fun a1 w1 => ∃ j, J j a1 w1
 classical
 let μ : Act → World → Nat := fun a1 w1 => if hI : I a1 w1 then Classical.choose (zii hI) else 0
 refine wpIn_loop I μ ⟨k0, σ2, h2, _, hr0, A0, s0⟩ fun a1 w1 hI => ?_
 have hmin := (Classical.choose_spec (zii hI)).1
 have hμ : μ a1 w1 = Classical.choose (zii hI) := by simp only [μ, dif_pos hI]
 generalize Classical.choose (zii hI) = j1 at hmin hμ
 obtain ⟨σ1, h1, vs1, hl, A1, s1⟩ := hmin
 cases hl with
 | stop _ _ _ vs3 h3 _ _ hb he hgc =>
  unfold zbR at hb
  refine zf4 (ro := none) SC c (.inl rfl) hL hb A1 fun e3 env3 h3' σ3 a3 w3 hk3 s3 A3 => ?_
  split at hk3
  case isFalse => simp at hk3
  rename_i hl3
  simp only [Option.some.injEq, Prod.mk.injEq] at hk3
  obtain ⟨rfl, rfl, rfl⟩ := hk3
  have A3' : At W0 B σ3 h3' (spread m (zhd m env3)) a3 w3 := by rw [← zcq hl3]; exact A3.keep m
  obtain ⟨σ4, A4, s4⟩ := A3'.gc (s1.trans s3) A.rel.len hgc
  cases e3 with
  | norm => exact absurd rfl he
  | exit i => exact hQ _ _ _ s4 A4
  | ret => exact hQ _ _ _ s4 A4
 | step j2 _ _ vs4 h4 vs3 h3 _ _ _ hb hgc ht =>
  unfold zbR at hb
  refine zf4 (ro := none) SC c (.inl rfl) hL hb A1 fun e3 env3 h3' σ3 a3 w3 hk3 s3 A3 => ?_
  split at hk3
  case isFalse => simp at hk3
  rename_i hl3
  simp only [Option.some.injEq, Prod.mk.injEq] at hk3
  obtain ⟨rfl, rfl, rfl⟩ := hk3
  have A3' : At W0 B σ3 h3' (spread m (zhd m env3)) a3 w3 := by rw [← zcq hl3]; exact A3.keep m
  obtain ⟨σ4, A4, s4⟩ := A3'.gc (s1.trans s3) A.rel.len hgc
  have hJ : J j2 a3 w3 := ⟨σ4, _, _, ht, A4, s4⟩
  have hI3 : I a3 w3 := ⟨j2, hJ⟩
  refine ⟨hI3, ?_⟩
  rw [hμ]
  have : μ a3 w3 = Classical.choose (zii hI3) := by simp only [μ, dif_pos hI3]
  rw [this]
  exact Nat.lt_succ_of_le ((Classical.choose_spec (zii hI3)).2 _ hJ)

theorem zmj {CALL : CallT} (SC : zcg P CALL) {LS : zcQ} {c : Code} (hL : zcU P LS c) {m : List Bool} {g : zpr}
 (hg : ∀ vs h e vs' h', g vs h = some (true, e, vs', h') → ∃ k, GReach (zbR P CALL LS c m) h.length k vs h e vs' h') : zcy P (zng m g) c :=
 zh0 SC hL fun vs h e vs' h' hx => ⟨vs, h, .done _ _, hg _ _ _ _ _ hx⟩

theorem zss {body : List AV → zaa → Option (AEx × List AV × zaa)} {n0 : Nat} (st : Nat → List AV × zaa) {n : Nat} {e : AEx} {vs : List AV} {h : zaa} (he : e ≠ .norm)
 (step : ∀ i, i < n → ∃ vs1 h1, body (st i).1 (st i).2 = some (.norm, vs1, h1) ∧ Gc n0 vs1 h1 (st (i + 1)).1 (st (i + 1)).2) (stop : ∃ vs1 h1, body (st n).1 (st n).2 = some (e, vs1, h1) ∧ Gc n0 vs1 h1 vs h) :
 ∃ k, GReach body n0 k (st 0).1 (st 0).2 e vs h := by
 have key : ∀ k i, i + k = n → ∃ j, GReach body n0 j (st i).1 (st i).2 e vs h := by
  intro k
  induction k with
  | zero =>
   intro i hi
   have : i = n := by omega
   subst this
   obtain ⟨vs1, h1, hb, hg⟩ := stop
   exact ⟨1, .stop _ _ _ _ _ _ _ hb he hg⟩
  | succ k ih =>
   intro i hi
   obtain ⟨j, hj⟩ := ih (i + 1) (by omega)
   obtain ⟨vs1, h1, hb, hg⟩ := step i (by omega)
   exact ⟨j + 1, .step _ _ _ _ _ _ _ _ _ _ hb hg hj⟩
 exact key n 0 (by omega)

end Go.Abs

end

section
/- A call told of a part of memory, that writes there: the part is put back, what is new stands behind. -/
set_option autoImplicit false
set_option linter.unusedVariables false
set_option linter.unusedSimpArgs false
namespace Go.Abs
variable {P : Program} {W0 : World} {σ σ' : Sig} {h h' : zaa} {w : World}

def zdG : zaa → List Nat → zaa → zaa
 | h, [], _ => h
 | h, _ :: _, [] => h
 | h, i :: s, b :: bs => zdG (h.set i b) s bs

theorem zdc : ∀ (s : List Nat) (bs h : zaa), (zdG h s bs).length = h.length
 | [], _, _ => by rw [zdG]
 | _ :: _, [], _ => by rw [zdG]
 | i :: s, b :: bs, h => by rw [zdG, zdc s bs]; simp
theorem zfN : ∀ (s : List Nat) (bs h : zaa) (k : Nat), k ∉ s → (zdG h s bs)[k]? = h[k]?
 | [], _, _, _, _ => by rw [zdG]
 | _ :: _, [], _, _, _ => by rw [zdG]
 | i :: s, b :: bs, h, k, hk => by
  rw [zdG, zfN s bs _ k (fun h => hk (by simp [h])), List.getElem?_set_ne (by rintro rfl; exact hk (by simp))]
theorem zkL : ∀ (s : List Nat) (bs h : zaa) (j i : Nat), s.Nodup → s[j]? = some i → i < h.length → j < bs.length → (zdG h s bs)[i]? = bs[j]?
 | [], _, _, _, _, _, h, _, _ => by simp at h
 | _ :: _, [], _, _, _, _, _, _, h => by simp at h
 | a :: s, b :: bs, h, 0, i, hn, hs, hi, hj => by
  simp at hs; subst hs
  simp only [List.nodup_cons] at hn
  rw [zdG, zfN s bs _ _ hn.1]; simp [hi]
 | a :: s, b :: bs, h, j + 1, i, hn, hs, hi, hj => by
  simp only [List.nodup_cons] at hn
  rw [zdG, zkL s bs _ j i hn.2 (by simpa using hs) (by simpa using hi) (by simpa using hj)]; simp

def zdZ (s t : List Nat) (n : Nat) (j : Nat) : Option Nat := match s[j]? with
 | some i => some i
 | none => (zdh t j).map (n + ·)

theorem zqv {s t : List Nat} {n j i : Nat} (h : s[j]? = some i) : zdZ s t n j = some i := by simp [zdZ, h]
theorem zpS {f : FuncId} {E : Ent} (hE : SoundE P f E) (R : Rel W0 σ h w) {args args1 : List AV} {args' : Array Value} (hv : VRs σ args args'.toList) {v1 v : AV} {s t : List Nat} {h1 h1' bs new : zaa}
 (hn : s.Nodup) (ha : ARs (zdh s) args args1) (hb : BRs (zdh s) h s h1) (hfree : ∀ i ∈ s, ∀ b, h[i]? = some b → b.isRo = false ∧ ∀ q c, b.par = some q → h[q]? = some c → c.mine = false)
 (hrun : E.get args1 h1 = some (v1, h1')) (htn : ∀ k ∈ t, s.length ≤ k) (hbs : BRs (zdZ s t h.length) h1' (List.range s.length) bs) (hnew : BRs (zdZ s t h.length) h1' t new) (hvr : AR (zdZ s t h.length) v1 v) (htd : t.Nodup) :
 (∃ fd, P.funcs[f]? = some fd ∧ fd.name ≠ "runtime.NumGoroutine" ∧ fd.body.isSome = true) ∧ ∀ n, CallsIn Fence.wide n P f args' w (zvb W0 σ h w v (zdG h s bs ++ new)) := by
 obtain ⟨R1, hown⟩ := R.gc hb hn
 obtain ⟨hfd, hcalls⟩ := hE hrun R1 (ha.vr zjO hv)
 refine ⟨hfd, fun n => CallsIn.mono (hcalls n) fun e w' hr => ?_⟩
 obtain ⟨v', σ1', rfl, s1, R1', hv'⟩ := hr
 have hslt : ∀ i ∈ s, i < h.length := by
  intro i hi
  obtain ⟨j, hj⟩ := List.mem_iff_getElem?.1 hi
  have hjl := (List.getElem?_eq_some_iff.1 hj).1
  obtain ⟨i', b, e1, e2, _⟩ := hb.get (List.getElem?_eq_getElem (show j < h1.length by rw [hb.length]; exact hjl))
  rw [hj] at e1; cases e1
  exact (List.getElem?_eq_some_iff.1 e2).1
 have hbl : bs.length = s.length := by simpa using hbs.length
 have hnl : new.length = t.length := hnew.length
 -- every block of the new whole
 have cases3 : ∀ {i : Nat} {b : ABlk} {p : Plc}, (zdG h s bs ++ new)[i]? = some b → (σ ++ zc2 σ1' t)[i]? = some p →
  (i < h.length ∧ i ∉ s ∧ h[i]? = some b ∧ σ[i]? = some p) ∨ (∃ j b0, zdZ s t h.length j = some i ∧ h1'[j]? = some b0 ∧ BR (zdZ s t h.length) b0 b ∧ σ1'[j]? = some p) := by
  intro i b p h1e h2e
  rcases Nat.lt_or_ge i h.length with hi | hi
  · rw [List.getElem?_append_left (by rw [zdc]; exact hi)] at h1e
    rw [List.getElem?_append_left (by rw [R.len]; exact hi)] at h2e
    by_cases his : i ∈ s
    · right
      obtain ⟨j, hj⟩ := List.mem_iff_getElem?.1 his
      have hjl := (List.getElem?_eq_some_iff.1 hj).1
      rw [zkL s bs h j i hn hj hi (by omega)] at h1e
      obtain ⟨j', b0, e1, e2, e3⟩ := hbs.get h1e
      rw [List.getElem?_range hjl] at e1; cases e1
      refine ⟨j, b0, zqv hj, e2, e3, ?_⟩
      obtain ⟨τ, hτ⟩ := s1.ext
      have : (zc2 σ s)[j]? = some p := zc1 hj h2e
      rw [hτ, List.getElem?_append_left (List.getElem?_eq_some_iff.1 this).1]; exact this
    · rw [zfN s bs h i his] at h1e
      exact .inl ⟨hi, his, h1e, h2e⟩
  · right
    rw [List.getElem?_append_right (by rw [zdc]; exact hi), zdc] at h1e
    rw [List.getElem?_append_right (by rw [R.len]; exact hi), R.len] at h2e
    obtain ⟨k, b0, e1, e2, e3⟩ := hnew.get h1e
    have hk := htn k (List.mem_iff_getElem?.2 ⟨_, e1⟩)
    refine ⟨k, b0, ?_, e2, e3, ?_⟩
    · unfold zdZ
      rw [List.getElem?_eq_none hk, zez htd e1]
      simp; omega
    · obtain ⟨p', hp', _⟩ := R1'.get e2
      have := zc1 e1 hp'
      rw [h2e] at this; cases this; exact hp'
 have sigTo : zoV (zdZ s t h.length) σ1' (σ ++ zc2 σ1' t) := by
  intro j i p hj hp
  unfold zdZ at hj
  split at hj
  · rename_i i1 e1
    simp at hj; subst hj
    have hi := hslt i1 (List.mem_iff_getElem?.2 ⟨_, e1⟩)
    rw [List.getElem?_append_left (by rw [R.len]; exact hi)]
    obtain ⟨τ, hτ⟩ := s1.ext
    have hi' : σ[i1]? = some (σ[i1]'(by rw [R.len]; exact hi)) := List.getElem?_eq_getElem _
    have h3 := zc1 e1 hi'
    rw [hτ, List.getElem?_append_left (List.getElem?_eq_some_iff.1 h3).1, h3] at hp
    rw [hi']; exact hp
  · simp only [Option.map_eq_some_iff] at hj
    obtain ⟨k, hk, rfl⟩ := hj
    rw [List.getElem?_append_right (by rw [R.len]; omega), R.len, Nat.add_sub_cancel_left]
    exact zc1 (zja hk) hp
 -- an old block that is no part: nothing of the part lies there
 have zer : ∀ {i : Nat} {b : ABlk} {p : Plc}, i ∉ s → h[i]? = some b → σ[i]? = some p → b.void = false → ¬ Own h1 (zc2 σ s) p.blk := by
  intro i b p his hb0 hp hvoid ⟨j, bj, q, g1, g2, g3, g4⟩
  obtain ⟨k, c, e1, e2, e3⟩ := hb.get g1
  obtain ⟨q', hq', _⟩ := R.get e2
  have hqq := zc1 e1 hq'
  rw [g2] at hqq; cases hqq
  have hks : k ∈ s := List.mem_iff_getElem?.2 ⟨_, e1⟩
  have hne : i ≠ k := by rintro rfl; exact his hks
  have hcm := (e3.mine g3).1
  obtain ⟨hro, hpar⟩ := hfree k hks c e2
  have hbig := R.own e2 hq' hcm
  cases hm : b.mine with
  | true =>
   rcases R.sep hne hb0 e2 hp hq' hm hcm g4.symm with ⟨_, g⟩ | ⟨g, _⟩
   · rw [hro] at g; simp at g
   · have := hpar _ _ g hb0; rw [hm] at this; simp at this
  | false =>
   cases b with
   | cells vs e md par =>
    cases md with
    | far =>
     have hvs : vs ≠ [] := by rintro rfl; simp [ABlk.void] at hvoid
     have := R.far hb0 hp hvs
     omega
    | own => cases vs with
     | nil => simp [ABlk.void] at hvoid
     | cons => simp [ABlk.mine] at hm
    | ro => cases vs with
     | nil => simp [ABlk.void] at hvoid
     | cons => simp [ABlk.mine] at hm
   | dead => simp [ABlk.void] at hvoid
   | mp => simp [ABlk.mine] at hm
   | lp => simp [ABlk.mine] at hm
 have ownBack : ∀ {j : Nat} {b0 b : ABlk} {p : Plc}, h1'[j]? = some b0 → BR (zdZ s t h.length) b0 b → σ1'[j]? = some p → b.mine = true → Own h1 (zc2 σ s) p.blk ∨ w.heap.size ≤ p.blk :=
  fun e2 e3 e4 hm => s1.own _ ⟨_, _, _, e2, e4, (e3.mine hm).1, rfl⟩
 refine ⟨v', σ ++ zc2 σ1' t, rfl, ⟨⟨_, rfl⟩, ?_, fun b hb' hno => s1.same b hb' fun ho => hno (hown b ho), s1.size⟩, ?_, hvr.vr sigTo hv'⟩
 · rintro x ⟨i, b, p, g1, g2, g3, rfl⟩
   rcases cases3 g1 g2 with ⟨_, _, k1, k2⟩ | ⟨j, b0, k0, k1, k2, k3⟩
   · exact .inl ⟨i, b, p, k1, k2, g3, rfl⟩
   · rcases ownBack k1 k2 k3 g3 with h4 | h4
     · exact .inl (hown _ h4)
     · exact .inr h4
 · refine ⟨by simp [zdc, R.len, hnl, zc2], fun {i b p} g1 g2 => ?_, fun {i vs e par p} g1 g2 hvs => ?_, fun {i b p} g1 g2 hm => ?_, fun {i j b b' p q} hij g1 g2 g3 g4 m1 m2 hpq => ?_, R1'.below⟩
   · rcases cases3 g1 g2 with ⟨_, k0, k1, k2⟩ | ⟨j, b0, k0, k1, k2, k3⟩
     · exact ((R.obj k1 k2).grow _).keep fun hd => s1.same _ ((R.obj k1 k2).lt hd) (zer k0 k1 k2 hd)
     · exact k2.obj sigTo (R1'.obj k1 k3)
   · rcases cases3 g1 g2 with ⟨_, k0, k1, k2⟩ | ⟨j, b0, k0, k1, k2, k3⟩
     · exact R.far k1 k2 hvs
     · cases k2 with
       | cells vs0 _ _ _ par0 _ ha hp =>
        refine R1'.far k1 k3 fun e => ?_
        subst e
        exact hvs (List.eq_nil_of_length_eq_zero (by simpa using ha.length))
   · rcases cases3 g1 g2 with ⟨_, k0, k1, k2⟩ | ⟨j, b0, k0, k1, k2, k3⟩
     · exact R.own k1 k2 hm
     · exact R1'.own k1 k3 (k2.mine hm).1
   · have mixed : ∀ {i j : Nat} {b b' : ABlk} {p q : Plc} {j0 : Nat} {b0 : ABlk}, i ∉ s → h[i]? = some b → σ[i]? = some p → h1'[j0]? = some b0 → BR (zdZ s t h.length) b0 b' → σ1'[j0]? = some q → b.mine = true → b'.mine = true → p.blk = q.blk → False := by
       intro i j b b' p q j0 b0 a1 a2 a3 a4 a5 a6 n1 n2 e
       have hv0 := ABlk.mine_ne n1
       rcases ownBack a4 a5 a6 n2 with h5 | h5
       · rw [← e] at h5; exact zer a1 a2 a3 hv0 h5
       · have := (R.obj a2 a3).lt hv0; omega
     rcases cases3 g1 g3 with ⟨_, k0, k1, k2⟩ | ⟨j0, b0, k0, k1, k2, k3⟩
     · rcases cases3 g2 g4 with ⟨_, l0, l1, l2⟩ | ⟨j1, b1, l0, l1, l2, l3⟩
       · exact R.sep hij k1 l1 k2 l2 m1 m2 hpq
       · exact (mixed (j := j) k0 k1 k2 l1 l2 l3 m1 m2 hpq).elim
     · rcases cases3 g2 g4 with ⟨_, l0, l1, l2⟩ | ⟨j1, b1, l0, l1, l2, l3⟩
       · exact (mixed (j := i) l0 l1 l2 k1 k2 k3 m2 m1 hpq.symm).elim
       · have hne : j0 ≠ j1 := by rintro rfl; rw [k0] at l0; cases l0; exact hij rfl
         rcases R1'.sep hne k1 l1 k3 l3 (k2.mine m1).1 (l2.mine m2).1 hpq with ⟨a1, a2⟩ | ⟨a1, a2⟩
         · left
           refine ⟨?_, by rw [(l2.mine m2).2]; exact a2⟩
           cases k2 with
           | dead => simp [ABlk.mine] at m1
           | cells _ _ _ _ par par' _ hp => exact hp _ _ a1 l0
           | mp => simp [ABlk.par] at a1
           | lp => simp [ABlk.par] at a1
         · right
           refine ⟨?_, by rw [(k2.mine m1).2]; exact a2⟩
           cases l2 with
           | dead => simp [ABlk.mine] at m2
           | cells _ _ _ _ par par' _ hp => exact hp _ _ a1 k0
           | mp => simp [ABlk.par] at a1
           | lp => simp [ABlk.par] at a1

theorem Rel.kill (R : Rel W0 σ h w) (q : Option Nat) : Rel W0 σ (zc4 h q) w ∧ ∀ b, Own (zc4 h q) σ b → Own h σ b := by
 have key : ∀ {i : Nat} {b : ABlk}, (zc4 h q)[i]? = some b → b = .dead ∨ h[i]? = some b := fun hb => (zg7 hb).imp id And.left
 refine ⟨⟨by rw [zbw]; exact R.len, fun h1 h2 => ?_, fun h1 h2 => ?_, fun h1 h2 hm => ?_, fun hij h1 h2 h3 h4 m1 m2 e => ?_, R.below⟩, ?_⟩
 · rcases key h1 with rfl | h1
   · trivial
   · exact R.obj h1 h2
 · rcases key h1 with h0 | h1
   · cases h0
   · exact R.far h1 h2
 · rcases key h1 with rfl | h1
   · simp [ABlk.mine] at hm
   · exact R.own h1 h2 hm
 · rcases key h1 with rfl | h1
   · simp [ABlk.mine] at m1
   · rcases key h2 with rfl | h2
     · simp [ABlk.mine] at m2
     · exact R.sep hij h1 h2 h3 h4 m1 m2 e
 · rintro x ⟨i, b, p, h1, h2, h3, rfl⟩
   rcases key h1 with rfl | h1
   · simp [ABlk.mine] at h3
   · exact ⟨i, b, p, h1, h2, h3, rfl⟩

def zkp (P : Program) (f : FuncId) (args : List AV) (h : zaa) (v : AV) (h' : zaa) : Prop :=
 ∃ (s t : List Nat) (args1 : List AV) (h1 : zaa) (v1 : AV) (h1' bs new : zaa), s.Nodup ∧ t.Nodup ∧ (∀ k ∈ t, s.length ≤ k) ∧ ARs (zdh s) args args1 ∧ BRs (zdh s) h s h1 ∧ (∀ i ∈ s, ∀ b, h[i]? = some b → b.isRo = false ∧ ∀ q c, b.par = some q → h[q]? = some c → c.mine = false) ∧
  (∃ E, SoundE P f E ∧ E.get args1 h1 = some (v1, h1')) ∧ BRs (zdZ s t h.length) h1' (List.range s.length) bs ∧ BRs (zdZ s t h.length) h1' t new ∧ AR (zdZ s t h.length) v1 v ∧ h' = zdG h s bs ++ new

theorem znS {f : FuncId} {g : zdD} (hg : ∀ args h v h', g args h = some (true, v, h') → ∃ q, zkp P f args (zc4 h q) v h') : SoundE P f (zbj g) := by
 intro W0 σ h w args args' v h' hx R hv
 obtain ⟨q, s, t, args1, h1, v1, h1', bs, new, hn, htd, htn, ha, hb, hfree, ⟨E, hE, hrun⟩, hbs, hnew, hvr, rfl⟩ := hg _ _ _ _ (zix hx)
 obtain ⟨R2, ho⟩ := R.kill q
 obtain ⟨g1, g2⟩ := zpS hE R2 hv hn ha hb hfree hrun htn hbs hnew hvr htd
 refine ⟨g1, fun n => CallsIn.mono (g2 n) fun e w' hr => ?_⟩
 obtain ⟨v', σ', e1, s1, R', hv'⟩ := hr
 refine ⟨v', σ', e1, ⟨s1.ext, fun b hb => (s1.own b hb).imp (ho b) id, fun b hb hn => s1.same b hb fun h => hn (ho b h), s1.size⟩, R', hv'⟩

end Go.Abs

end

section
/- The interpreter anew, quick in the kernel: slots in a tree; some answers are told ahead. Whatever it yields, the plain one yields. -/
set_option autoImplicit false
set_option linter.unusedVariables false
set_option linter.unusedSimpArgs false
namespace Go.Abs
variable {P : Program}


inductive Tr where
 | leaf
 | node (v : AV) (l r : Tr)

def Tr.get : Tr → Nat → Option AV
 | .leaf, _ => none
 | .node v l r, n => bif n.beq 0 then some v else bif (n % 2).beq 1 then l.get (n / 2) else r.get (n / 2 - 1)

def Tr.set : Tr → Nat → AV → Tr
 | .leaf, _, _ => .leaf
 | .node v l r, n, x => bif n.beq 0 then .node x l r else bif (n % 2).beq 1 then .node v (l.set (n / 2) x) r else .node v l (r.set (n / 2 - 1) x)

def Tr.mk (x : AV) : Nat → Nat → Tr
 | 0, _ => .leaf
 | f + 1, n => bif n.beq 0 then .leaf else .node x (mk x f (n / 2)) (mk x f ((n - 1) / 2))

def zw1 : Tr → Nat → List AV → Tr
 | t, _, [] => t
 | t, i, a :: l => zw1 (t.set i a) (i + 1) l

def ofL (l : List AV) : Tr := zw1 (Tr.mk .any l.length l.length) 0 l
def toL (n : Nat) (t : Tr) : List AV := (List.range n).map fun i => (t.get i).getD (.tup [])

theorem zAY {n m : Nat} : n.beq m = decide (n = m) := by
 cases h : n.beq m with
 | true => exact (decide_eq_true (Nat.eq_of_beq_eq_true h)).symm
 | false => exact (decide_eq_false (Nat.ne_of_beq_eq_false h)).symm

theorem zux (n : Nat) : Tr.leaf.get n = none := rfl
theorem zfi (v : AV) (l r : Tr) (n : Nat) : (Tr.node v l r).get n = if n = 0 then some v else if n % 2 = 1 then l.get (n / 2) else r.get (n / 2 - 1) := by
 rw [Tr.get]; simp only [zAY, cond_eq_ite, decide_eq_true_eq]

theorem zjh : ∀ (t : Tr) (n m : Nat) (x : AV), (t.set n x).get m = if m = n then (t.get m).map (fun _ => x) else t.get m
 | .leaf, n, m, x => by simp [Tr.set, Tr.get]
 | .node v l r, n, m, x => by
  rw [Tr.set]
  simp only [zAY, cond_eq_ite, decide_eq_true_eq]
  have il := zjh l (n / 2) (m / 2) x
  have ir := zjh r (n / 2 - 1) (m / 2 - 1) x
  by_cases hn : n = 0
  · rw [if_pos hn, zfi, zfi]
    by_cases hm : m = 0
    · simp [hm, hn]
    · rw [if_neg hm, if_neg hm, if_neg (by omega : ¬ m = n)]
  · rw [if_neg hn]
    by_cases h2 : n % 2 = 1
    · rw [if_pos h2, zfi, zfi, il]
      by_cases hm : m = 0
      · rw [if_pos hm, if_pos hm, if_neg (by omega)]
      · rw [if_neg hm, if_neg hm]
        by_cases h3 : m % 2 = 1
        · rw [if_pos h3, if_pos h3]
          by_cases h4 : m = n
          · rw [if_pos h4, if_pos (by omega)]
          · rw [if_neg h4, if_neg (by omega)]
        · rw [if_neg h3, if_neg h3, if_neg (by omega)]
    · rw [if_neg h2, zfi, zfi, ir]
      by_cases hm : m = 0
      · rw [if_pos hm, if_pos hm, if_neg (by omega)]
      · rw [if_neg hm, if_neg hm]
        by_cases h3 : m % 2 = 1
        · rw [if_pos h3, if_pos h3, if_neg (by omega)]
        · rw [if_neg h3, if_neg h3]
          by_cases h4 : m = n
          · rw [if_pos h4, if_pos (by omega)]
          · rw [if_neg h4, if_neg (by omega)]

theorem zkS (x : AV) : ∀ (f n m : Nat), n ≤ f → (Tr.mk x f n).get m = if m < n then some x else none
 | 0, n, m, h => by
  have : n = 0 := by omega
  subst this
  simp [Tr.mk, Tr.get]
 | f + 1, n, m, h => by
  rw [Tr.mk]
  simp only [zAY, cond_eq_ite, decide_eq_true_eq]
  by_cases hn : n = 0
  · rw [if_pos hn, zux, if_neg (by omega)]
  · rw [if_neg hn, zfi, zkS x f (n / 2) (m / 2) (by omega), zkS x f ((n - 1) / 2) (m / 2 - 1) (by omega)]
    by_cases hm : m = 0
    · rw [if_pos hm, if_pos (by omega)]
    · rw [if_neg hm]
      by_cases h2 : m % 2 = 1
      · rw [if_pos h2]
        by_cases h3 : m < n
        · rw [if_pos h3, if_pos (by omega)]
        · rw [if_neg h3, if_neg (by omega)]
      · rw [if_neg h2]
        by_cases h3 : m < n
        · rw [if_pos h3, if_pos (by omega)]
        · rw [if_neg h3, if_neg (by omega)]

theorem zlL : ∀ (l : List AV) (t : Tr) (i m : Nat), (∀ k, i ≤ k → k < i + l.length → (t.get k).isSome = true) → (zw1 t i l).get m = if i ≤ m ∧ m < i + l.length then l[m - i]? else t.get m
 | [], t, i, m, h => by rw [zw1, if_neg (by rintro ⟨h1, h2⟩; simp only [List.length_nil] at h2; omega)]
 | a :: l, t, i, m, h => by
  rw [zw1, zlL l _ (i + 1) m (fun k h1 h2 => by rw [zjh]; have := h k (by omega) (by simp; omega); split <;> simp [this]), zjh]
  by_cases h1 : i + 1 ≤ m ∧ m < i + 1 + l.length
  · rw [if_pos h1, if_pos (by simp; omega)]
    obtain ⟨d, hd⟩ : ∃ d, m - i = d + 1 := ⟨m - i - 1, by omega⟩
    rw [hd, List.getElem?_cons_succ]; congr 1; omega
  · rw [if_neg h1]
    by_cases h2 : m = i
    · have hs := h i (Nat.le_refl _) (by simp)
      rw [if_pos h2, if_pos (by simp; omega)]
      subst h2
      rw [Option.isSome_iff_exists] at hs
      obtain ⟨y, hy⟩ := hs
      simp [hy]
    · rw [if_neg h2, if_neg (by simp; omega)]

structure TR (n : Nat) (t : Tr) (env : Env) : Prop where
 len : env.length = n
 get : ∀ m, t.get m = env[m]?

theorem TR.ofL (l : List AV) : TR l.length (ofL l) l := by
 refine ⟨rfl, fun m => ?_⟩
 unfold Abs.ofL
 rw [zlL l _ 0 m (fun k _ h => by rw [zkS _ _ _ _ (Nat.le_refl _), if_pos (by omega)]; rfl)]
 by_cases h : m < l.length
 · rw [if_pos (by omega)]; simp
 · rw [if_neg (by omega), zkS _ _ _ _ (Nat.le_refl _), if_neg h, List.getElem?_eq_none (by omega)]

theorem TR.toL {n : Nat} {t : Tr} {env : Env} (h : TR n t env) : toL n t = env := by
 apply List.ext_getElem?
 intro i
 unfold Abs.toL
 rw [List.getElem?_map]
 by_cases hi : i < n
 · rw [List.getElem?_range hi, Option.map_some, h.get, List.getElem?_eq_getElem (by rw [h.len]; exact hi)]; rfl
 · rw [List.getElem?_eq_none (by simp; omega), List.getElem?_eq_none (by rw [h.len]; omega)]; rfl

theorem TR.set {n : Nat} {t : Tr} {env : Env} (h : TR n t env) (d : Nat) (x : AV) : TR n (t.set d x) (env.set d x) := by
 refine ⟨by simp [h.len], fun m => ?_⟩
 rw [zjh, h.get, List.getElem?_set]
 by_cases e : m = d
 · subst e
   rw [if_pos rfl, if_pos rfl]
   split
   · rename_i hl; rw [List.getElem?_eq_getElem hl]; rfl
   · rename_i hl; rw [List.getElem?_eq_none (by omega)]; rfl
 · rw [if_neg e, if_neg (fun e' => e e'.symm)]

theorem TR.args {n : Nat} {args : List AV} (h : args.length ≤ n) : TR n (zw1 (Tr.mk (.tup []) n n) 0 args) (args ++ List.replicate (n - args.length) (.tup [])) := by
 refine ⟨by simp; omega, fun m => ?_⟩
 rw [zlL args _ 0 m (fun k _ hk => by rw [zkS _ _ _ _ (Nat.le_refl _), if_pos (by omega)]; rfl), zkS _ _ _ _ (Nat.le_refl _)]
 by_cases h1 : m < args.length
 · rw [if_pos (by omega), List.getElem?_append_left h1]; simp
 · rw [if_neg (by omega), List.getElem?_append_right (by omega)]
   by_cases h2 : m < n
   · rw [if_pos h2, List.getElem?_replicate, if_pos (by omega)]
   · rw [if_neg h2, List.getElem?_replicate, if_neg (by omega)]

def zyJ (t : Tr) : Operand → AV
 | .tmp i => (t.get i).getD (.tup [])
 | .const v => ofV v
 | .global _ => .any
 | .func f => .fn (.func f) []

theorem TR.ev {n : Nat} {t : Tr} {env : Env} (h : TR n t env) : zyJ t = aev env := by
 funext o
 cases o with
 | tmp i => simp only [zyJ, aev, h.get, List.getD]
 | const v => rfl
 | global g => rfl
 | func f => rfl

def zBl (t : Tr) : Option Tmp → AV → Tr
 | none, _ => t
 | some d, v => t.set d v
theorem TR.put {n : Nat} {t : Tr} {env : Env} (h : TR n t env) (d : Option Tmp) (v : AV) : TR n (zBl t d v) (zfW env d v) := by
 cases d with
 | none => exact h
 | some d => exact h.set d v


noncomputable def zAN {R : Type} (P : Program) (h : zaa) (ev : Operand → AV) (o : Oper) (K : AV → zaa → Option R) (C : Fn → List AV → Option R) : Option R :=
 match o.op with
 | .move x => K (ev x) h
 | .assign x => K (ev x) h
 | .pick c a b =>
  match ev c with
  | .bool t => if t = true then K (ev a) h else K (ev b) h
  | _ => none
 | .alloc t => (ziS P h t).bind fun (x : AV × zaa) => K x.1 x.2
 | .box t v => (zul P h t (ev v)).bind fun (x : AV × zaa) => K x.1 x.2
 | .build t ps => zlY P t (ps.toList.map fun p => (p.1, ev p.2)) fun v => K v h
 | .buildSlice t n ps => zec P h t n (ps.toList.map fun p => (p.1, ev p.2)) K
 | .load t a => zod P h t (ev a) fun v => K v h
 | .store t a x => zlS P h t (ev a) (ev x) fun h' => K (.tup []) h'
 | .nilCheck x =>
  match ev x with
  | .ptr (some a) => K (.ptr (some a)) h
  | .fn (.func f) c => K (.fn (.func f) c) h
  | .fn (.yield f) c => K (.fn (.yield f) c) h
  | _ => none
 | .binOp op xt x y _ => zvA P op xt (ev x) (ev y) fun v => K v h
 | .unOp op _ x => (aun op (ev x)).bind fun v => K v h
 | .convert s d x => zov P h s d (ev x) K
 | .sliceToArrayPointer arr x =>
  match P.underlying arr, ev x with
  | some (.array n _), .sl (some (i, o)) len _ _ => if n ≤ len ∧ 0 < n then K (.ptr (some (i, o))) h else none
  | _, _ => none
 | .makeFunc fn first cap => if first.isEmpty then (match fn with | .func f => K (.fn (.func f) (cap.toList.map ev)) h | _ => none) else none
 | .makeMap _ r => match r with
  | none => K (.map (some h.length)) (h ++ [.mp [] 0 false])
  | some _ => none
 | .makeSlice t l c => ze5 P h t (ev l) (ev c) (zmq l c) K
 | .slice t x lo hi mx => zlz P t (ev x) (lo.map ev) (hi.map ev) (mx.map ev) fun v => K v h
 | .fieldAddr s x f => (zeF P s (ev x) f).bind fun v => K v h
 | .field xt x f => zly P xt (ev x) f fun v => K v h
 | .indexAddr t x ix => zeV P t (ev x) (ev ix) fun v => K v h
 | .index t x ix => zk5 P t (ev x) (ev ix) fun v => K v h
 | .lookup t x ix ok => zio P h t (ev x) (ev ix) ok fun v => K v h
 | .mapUpdate t m k x => zdr P h t (ev m) (ev k) (ev x) fun h' => K (.tup []) h'
 | .insert t m k x => zdr P h t (ev m) (ev k) (ev x) fun h' => K (.tup []) h'
 | .mapEntry t m k => zf0 P h t (ev m) (ev k) K
 | .entryStore _ m s x => zef h (ev m) (ev s) (ev x) fun h' => K (.tup []) h'
 | .extract t ix =>
  match ev t with
  | .tup l => (l[ix]?).bind fun v => K v h
  | _ => none
 | .call c =>
  match c.callee with
  | .value f =>
   match ev f with
   | .fn fn cap => C fn (c.args.toList.map ev ++ cap)
   | _ => none
  | .builtin b =>
   match b, c.args.toList.map ev, c.argTypes.toList with
   | .append, [s, x], ts => ziy P h ts s x K
   | .copy, [d, s], ts => zoG P h ts d s K
   | .len, [x], [t] => (zuj P h t x).bind fun v => K v h
   | .cap, [x], [t] => (zyO P t x).bind fun v => K v h
   | .clear, [x], [t] => zlW P h t x fun h' => K (.tup []) h'
   | .delete, [m, k], t :: _ => zit P h t m k fun h' => K (.tup []) h'
   | .min, x :: r, _ => (zdV (zik false) x r).bind fun v => K v h
   | .max, x :: r, _ => (zdV (zik true) x r).bind fun v => K v h
   | _, _, _ => none
  | .invoke _ _ => none
 | _ => none


theorem zsa {R : Type} {h : zaa} {env : Env} {o : Oper} {K : AV → zaa → Option R} {C : Fn → List AV → Option R} : zAN P h (aev env) o K C = aop P h env o K C := by
 unfold aop zAN
 cases o.op <;> rfl

def zwG : List (Nat × AV) → Nat → Option AV
 | [], _ => none
 | (k, b) :: l, d => bif k.beq d then some b else zwG l d

def zu3 {R : Type} (pr : List (Nat × AV)) (t : Tr) (d : Option Tmp) (v : AV) (K : Tr → Option R) : Option R :=
 match d with
 | none => K t
 | some d =>
  match zwG pr d with
  | none => K (t.set d v)
  | some u =>
   match u, v with
   | .bool b, .bool x => if x = b then K (t.set d (.bool b)) else none
   | .int k n, .int k' x => if k' = k ∧ x = n then K (t.set d (.int k n)) else none
   | _, v => K (t.set d v)

theorem zqW {R : Type} {pr : List (Nat × AV)} {n : Nat} {t : Tr} {env : Env} (H : TR n t env) {d : Option Tmp} {v : AV} {K : Tr → Option R} {r : R} (h : zu3 pr t d v K = some r) :
 ∃ t', TR n t' (zfW env d v) ∧ K t' = some r ∧ ∀ {R' : Type} (K' : Tr → Option R'), zu3 pr t d v K' = K' t' := by
 unfold zu3 at h
 cases d with
 | none => exact ⟨t, H, h, fun K' => rfl⟩
 | some d =>
  simp only at h
  split at h
  · rename_i he; exact ⟨_, H.set d v, h, fun K' => by simp only [zu3, he]⟩
  · rename_i u he
    split at h
    · rename_i b x
      split at h
      · rename_i e; subst e; exact ⟨_, H.set d _, h, fun K' => by simp only [zu3, he, if_true]⟩
      · simp at h
    · rename_i k m k' x
      split at h
      · rename_i e; obtain ⟨rfl, rfl⟩ := e; exact ⟨_, H.set d _, h, fun K' => by simp only [zu3, he, true_and, if_true]⟩
      · simp at h
    · rename_i h1 h2
      refine ⟨_, H.set d v, h, fun K' => ?_⟩
      simp only [zu3, he]

def zhU {R : Type} (ops : List Oper) (o : Oper) (t : Tr) (T F : Tr → Option R) : Option R :=
 match o.guard with
 | none => T t
 | some (j, want) =>
  match (ops[j]?).bind (·.dst) with
  | none => F t
  | some d =>
   match t.get d with
   | some (.bool b) => if b = true then (if want then T (t.set d (.bool true)) else F (t.set d (.bool true))) else (if want then F (t.set d (.bool false)) else T (t.set d (.bool false)))
   | some (.tup []) => F t
   | _ => none

theorem zkq {R : Type} {ops : List Oper} {o : Oper} {n : Nat} {t : Tr} {env : Env} (H : TR n t env) {T F : Tr → Option R} {r : R} (h : zhU ops o t T F = some r) :
 ∃ t' env' b, TR n t' env' ∧ (if b = true then T t' else F t') = some r ∧ (∀ {R' : Type} (T' F' : Tr → Option R'), zhU ops o t T' F' = if b = true then T' t' else F' t') ∧
  (∀ {R' : Type} (T' F' : Env → Option R'), zfv ops o env T' F' = if b = true then T' env' else F' env') := by
 unfold zhU at h
 unfold zhU zfv
 split at h
 · rename_i hg
   exact ⟨t, env, true, H, by simpa using h, fun T' F' => by simp [hg], fun T' F' => by simp [hg]⟩
 · rename_i j want hg
   simp only [hg]
   split at h
   · rename_i hd
     exact ⟨t, env, false, H, by simpa using h, fun T' F' => by simp [hd], fun T' F' => by simp [hd]⟩
   · rename_i d hd
     simp only [hd]
     split at h
     · rename_i b hb
       have hb' := H.get d
       rw [hb] at hb'
       have h1 := h
       simp only [hb, ← hb']
       cases b <;> cases want <;> simp at h1
       · exact ⟨_, _, true, H.set d (.bool false), by simpa using h1, fun T' F' => by simp, fun T' F' => by simp⟩
       · exact ⟨_, _, false, H.set d (.bool false), by simpa using h1, fun T' F' => by simp, fun T' F' => by simp⟩
       · exact ⟨_, _, false, H.set d (.bool true), by simpa using h1, fun T' F' => by simp, fun T' F' => by simp⟩
       · exact ⟨_, _, true, H.set d (.bool true), by simpa using h1, fun T' F' => by simp, fun T' F' => by simp⟩
     · rename_i hb
       have hb' := H.get d
       rw [hb] at hb'
       exact ⟨t, env, false, H, by simpa using h, fun T' F' => by simp [hb], fun T' F' => by simp [← hb']⟩
     · simp at h
end Go.Abs

end

section
/- The quick interpreter: code, loops, calls. -/
set_option autoImplicit false
set_option linter.unusedVariables false
set_option linter.unusedSimpArgs false
namespace Go.Abs
variable {P : Program}

noncomputable def zoK {R : Type} (P : Program) (CALL : CallT) (o : Oper) (t : Tr) (h : zaa) (K : AV → zaa → Option R) : Option R :=
 zAN P h (zyJ t) o K fun f args => CALL.run f args h K

theorem zg3 {R : Type} {CALL : CallT} {o : Oper} {n : Nat} {t : Tr} {env : Env} (H : TR n t env) {h : zaa} {K : AV → zaa → Option R} : zoK P CALL o t h K = zgR P CALL o env h K := by
 unfold zoK zgR
 rw [H.ev, zsa]

noncomputable def zjy {R : Type} (P : Program) (CALL : CallT) (pr : List (Nat × AV)) (ops : List Oper) : List Nat → Tr → zaa → (Tr → zaa → Option R) → Option R
 | [], t, h, K => K t h
 | i :: rest, t, h, K =>
  match ops[i]? with
  | none => none
  | some o =>
   zhU ops o t
    (fun t => zoK P CALL o t h fun v h' => zu3 pr t o.dst v fun t => zjy P CALL pr ops rest t h' K)
    (fun t => zjy P CALL pr ops rest (zBl t o.dst (.tup [])) h K)

theorem ziF {CALL : CallT} {pr : List (Nat × AV)} {ops : List Oper} {n : Nat} : ∀ {l : List Nat} {t : Tr} {env : Env} {h : zaa} {RT : Type} {K : Tr → zaa → Option RT} {r : RT}, TR n t env → zjy P CALL pr ops l t h K = some r →
 ∃ t' env' h', TR n t' env' ∧ K t' h' = some r ∧ (∀ {R : Type} (K' : Tr → zaa → Option R), zjy P CALL pr ops l t h K' = K' t' h') ∧ (∀ {R : Type} (K' : Env → zaa → Option R), zlE P CALL ops l env h K' = K' env' h')
 | [], t, env, h, _, K, r, H, ha => ⟨t, env, h, H, by simpa [zjy] using ha, fun K' => by simp [zjy], fun K' => by simp [zlE]⟩
 | i :: rest, t, env, h, _, K, r, H, ha => by
  unfold zjy at ha
  split at ha
  · simp at ha
  · rename_i o ho
    obtain ⟨t1, env1, b, H1, hb, hT, hE⟩ := zkq H ha
    cases b with
    | true =>
     simp only [if_true] at hb
     rw [zg3 H1] at hb
     obtain ⟨v, h', hk, hgo⟩ := zeI hb
     obtain ⟨t1', H1', hk, hpt⟩ := zqW H1 hk
     obtain ⟨t2, env2, h2, H2, k1, k2, k3⟩ := ziF H1' hk
     exact ⟨t2, env2, h2, H2, k1, fun K' => by unfold zjy; simp only [ho]; rw [hT]; simp only [if_true]; rw [zg3 H1, hgo, hpt, k2], fun K' => by unfold zlE; simp only [ho]; rw [hE]; simp only [if_true]; rw [hgo, k3]⟩
    | false =>
     simp only [Bool.false_eq_true, if_false] at hb
     obtain ⟨t2, env2, h2, H2, k1, k2, k3⟩ := ziF (H1.put o.dst (.tup [])) hb
     exact ⟨t2, env2, h2, H2, k1, fun K' => by unfold zjy; simp only [ho]; rw [hT]; simp only [Bool.false_eq_true, if_false]; rw [k2], fun K' => by unfold zlE; simp only [ho]; rw [hE]; simp only [Bool.false_eq_true, if_false]; rw [k3]⟩


structure RecT where
 ran : Bool
 v : AV
 t : Tr
 h : zaa
 h' : zaa

noncomputable def zgv {R : Type} (P : Program) (CALL : CallT) (pr : List (Nat × AV)) (ops : List Oper) : List Nat → Tr → zaa → List RecT → (List RecT → Tr → zaa → Option R) → Option R
 | [], t, h, T, K => K T.reverse t h
 | i :: rest, t, h, T, K =>
  match ops[i]? with
  | none => none
  | some o =>
   zhU ops o t
    (fun t => zoK P CALL o t h fun v h' => zu3 pr t o.dst v fun t' => zgv P CALL pr ops rest t' h' (⟨true, v, t, h, h'⟩ :: T) K)
    (fun t => zgv P CALL pr ops rest (zBl t o.dst (.tup [])) h (⟨false, .tup [], t, h, h⟩ :: T) K)

structure RecR (n : Nat) (a : RecT) (b : Rec) : Prop where
 ran : a.ran = b.ran
 v : a.v = b.v
 t : TR n a.t b.env
 h : a.h = b.h
 h' : a.h' = b.h'

theorem ziT {CALL : CallT} {pr : List (Nat × AV)} {ops : List Oper} {n : Nat} : ∀ {l : List Nat} {t : Tr} {env : Env} {h : zaa} {T : List RecT} {T' : List Rec} {RT : Type} {K : List RecT → Tr → zaa → Option RT} {r : RT}, TR n t env → All2 (RecR n) T.reverse T' →
 zgv P CALL pr ops l t h T K = some r →
 ∃ T2 T2' t' env' h', All2 (RecR n) T2 T2' ∧ TR n t' env' ∧ K T2 t' h' = some r ∧ (∀ {R : Type} (K' : List RecT → Tr → zaa → Option R), zgv P CALL pr ops l t h T K' = K' T2 t' h') ∧
  (∀ {R : Type} (K' : List Rec → Env → zaa → Option R), zep P CALL ops l env h T' K' = K' T2' env' h')
 | [], t, env, h, T, T', _, K, r, H, HT, ha => ⟨_, _, t, env, h, HT, H, by simpa [zgv] using ha, fun K' => by simp [zgv], fun K' => by simp [zep]⟩
 | i :: rest, t, env, h, T, T', _, K, r, H, HT, ha => by
  unfold zgv at ha
  split at ha
  · simp at ha
  · rename_i o ho
    obtain ⟨t1, env1, b, H1, hb, hT, hE⟩ := zkq H ha
    cases b with
    | true =>
     simp only [if_true] at hb
     rw [zg3 H1] at hb
     obtain ⟨v, h', hk, hgo⟩ := zeI hb
     obtain ⟨t1', H1', hk, hpt⟩ := zqW H1 hk
     obtain ⟨T2, T2', t2, env2, h2, HT2, H2, k1, k2, k3⟩ := ziT (T' := T' ++ [⟨true, v, env1, h, h'⟩]) H1' (by rw [List.reverse_cons]; exact HT.append (.cons _ _ _ _ ⟨rfl, rfl, H1, rfl, rfl⟩ .nil)) hk
     exact ⟨T2, T2', t2, env2, h2, HT2, H2, k1, fun K' => by unfold zgv; simp only [ho]; rw [hT]; simp only [if_true]; rw [zg3 H1, hgo, hpt, k2], fun K' => by unfold zep; simp only [ho]; rw [hE]; simp only [if_true]; rw [hgo, k3]⟩
    | false =>
     simp only [Bool.false_eq_true, if_false] at hb
     obtain ⟨T2, T2', t2, env2, h2, HT2, H2, k1, k2, k3⟩ := ziT (T' := T' ++ [⟨false, .tup [], env1, h, h⟩]) (H1.put o.dst (.tup [])) (by rw [List.reverse_cons]; exact HT.append (.cons _ _ _ _ ⟨rfl, rfl, H1, rfl, rfl⟩ .nil)) hb
     exact ⟨T2, T2', t2, env2, h2, HT2, H2, k1, fun K' => by unfold zgv; simp only [ho]; rw [hT]; simp only [Bool.false_eq_true, if_false]; rw [k2], fun K' => by unfold zep; simp only [ho]; rw [hE]; simp only [Bool.false_eq_true, if_false]; rw [k3]⟩

noncomputable def zwc {R : Type} (P : Program) (o : Oper) (t : Tr) (h : zaa) (v : AV) (K : Option R) : Option R := zAN P h (zyJ t) o (fun u _ => if AV.beq u v = true then K else none) fun _ _ => none

noncomputable def zjl {R : Type} (P : Program) (ops : List Oper) (T : List RecT) : List (Nat × Nat) → Option R → Option R
 | [], K => K
 | (i, c) :: l, K =>
  match T[i]?, T[c]?, ops[i]? with
  | some x, some y, some o =>
   if (x.ran && y.ran) = true then zwc P o x.t (if c < i then y.h else y.h') x.v (zjl P ops T l K) else zjl P ops T l K
  | _, _, _ => none

theorem All2.none {α β : Type} {r : α → β → Prop} : ∀ {l : List α} {m : List β}, All2 r l m → ∀ {i : Nat}, (l[i]? = none ↔ m[i]? = none)
 | _, _, .nil, i => by simp
 | _, _, .cons _ _ _ _ _ _, 0 => by simp
 | _, _, .cons _ _ _ _ _ t, i + 1 => by simpa using t.none (i := i)

theorem zht {R : Type} {ops : List Oper} {n : Nat} {T : List RecT} {T' : List Rec} (H : All2 (RecR n) T T') (K : Option R) : ∀ l : List (Nat × Nat), zjl P ops T l K = zeM P ops T' l K
 | [] => rfl
 | (i, c) :: l => by
  have ih := zht (ops := ops) H K l
  unfold zjl zeM
  rw [ih]
  cases h1 : T[i]? with
  | none => rw [H.none.1 h1]
  | some x =>
   cases h1' : T'[i]? with
   | none => rw [H.none.2 h1'] at h1; cases h1
   | some x' =>
    have hx := H.get h1 h1'
    cases h2 : T[c]? with
    | none => rw [H.none.1 h2]
    | some y =>
     cases h2' : T'[c]? with
     | none => rw [H.none.2 h2'] at h2; cases h2
     | some y' =>
      have hy := H.get h2 h2'
      cases ops[i]? with
      | none => rfl
      | some o =>
       simp only
       rw [hx.ran, hy.ran, hx.v, hy.h, hy.h']
       split
       · unfold zwc zri
         rw [hx.t.ev, zsa]
       · rfl

theorem zkO {CALL : CallT} {ops : List Oper} {R : Type} {K : Env → zaa → Option R} : ∀ (l : List Nat) (env : Env) (h : zaa) (T : List Rec), zep P CALL ops l env h T (fun _ env h => K env h) = zlE P CALL ops l env h K
 | [], env, h, T => rfl
 | i :: rest, env, h, T => by
  unfold zep zlE
  cases ops[i]? with
  | none => rfl
  | some o =>
   simp only [zkO rest]


structure LoopP where
 run : {R : Type} → Nat → Tr → zaa → (AEx → Tr → zaa → Option R) → Option R
 s : LoopF
 ok : ∀ {R : Type} {n : Nat} {t : Tr} {env : Env} {h : zaa} {K : AEx → Tr → zaa → Option R} {r : R}, TR n t env → run n t h K = some r →
  ∃ e t' env' h', TR n t' env' ∧ K e t' h' = some r ∧ (∀ {R' : Type} (K' : AEx → Tr → zaa → Option R'), run n t h K' = K' e t' h') ∧ (∀ {R' : Type} (K' : AEx → Env → zaa → Option R'), s.run env h K' = K' e env' h')

abbrev zdd := Nat → Option LoopP

def lsT (L : zdd) : zcQ := fun k => (L k).map (·.s)

noncomputable def zbr {R : Type} (P : Program) (CALL : CallT) (pr : List (Nat × AV)) (LS : zdd) (n : Nat) : Code → Tr → zaa → (AEx → Tr → zaa → Option R) → Option R
 | .skip, t, h, K => K .norm t h
 | .label _, t, h, K => K .norm t h
 | .region _ ops draw, t, h, K =>
  if draw then (if zj7 P ops.toList n = true then (match zdW P ops.toList with
   | [] => zjy P CALL pr ops.toList (List.range ops.toList.length) t h fun t h => K .norm t h
   | u :: us => zgv P CALL pr ops.toList (List.range ops.toList.length) t h [] fun T t h => zjl P ops.toList T (u :: us) (K .norm t h)) else none)
  else zjy P CALL pr ops.toList (List.range ops.toList.length) t h fun t h => K .norm t h
 | .seq a b, t, h, K => zbr P CALL pr LS n a t h fun e t h => match e with
  | .norm => zbr P CALL pr LS n b t h K
  | e => K e t h
 | .cond c a b, t, h, K =>
  match zyJ t c with
  | .bool x => if x = true then zbr P CALL pr LS n a t h K else zbr P CALL pr LS n b t h K
  | _ => none
 | .block i c, t, h, K => zbr P CALL pr LS n c t h fun e t h => match e with
  | .exit j => if j = i then K .norm t h else K (.exit j) t h
  | e => K e t h
 | .loop c, t, h, K =>
  match LS (zaX c) with
  | some s => s.run n t h K
  | none => none
 | .rangeFunc g ps a c, t, h, K =>
  match zyJ t g with
  | .fn (.func id) cap =>
   CALL.run (.func id) (.fn (.yield h.length) [] :: cap) (h ++ [.lp { st := .ready, pend := none, env := toL n t, ps := ps.toList, asg := a, body := c }]) fun _ h2 =>
    match h2[h.length]? with
    | some (.lp L) =>
     if L.st = .busy then none else
     match L.pend with
     | none => K .norm t (h2.set h.length (.lp { L with st := .exhausted }))
     | some e => K e t (h2.set h.length (.lp { L with st := .exhausted }))
    | _ => none
  | _ => none
 | .exit i, t, h, K => K (.exit i) t h
 | .ret, t, h, K => K .ret t h
 | _, _, _, _ => none

theorem zfz {CALL : CallT} {pr : List (Nat × AV)} {LS : zdd} {n : Nat} : ∀ {c : Code} {t : Tr} {env : Env} {h : zaa} {RT : Type} {K : AEx → Tr → zaa → Option RT} {r : RT}, TR n t env → zbr P CALL pr LS n c t h K = some r →
 ∃ e t' env' h', TR n t' env' ∧ K e t' h' = some r ∧ (∀ {R : Type} (K' : AEx → Tr → zaa → Option R), zbr P CALL pr LS n c t h K' = K' e t' h') ∧
  (∀ {R : Type} (K' : AEx → Env → zaa → Option R), zbb P CALL (lsT LS) c env h K' = K' e env' h') := by
 intro c
 induction c with
 | skip => intro t env h RT K r H ha; exact ⟨_, _, _, _, H, ha, fun K' => rfl, fun K' => rfl⟩
 | label l => intro t env h RT K r H ha; exact ⟨_, _, _, _, H, ha, fun K' => rfl, fun K' => rfl⟩
 | exit i => intro t env h RT K r H ha; exact ⟨_, _, _, _, H, ha, fun K' => rfl, fun K' => rfl⟩
 | ret => intro t env h RT K r H ha; exact ⟨_, _, _, _, H, ha, fun K' => rfl, fun K' => rfl⟩
 | scope c ih => intro t env h RT K r H ha; simp [zbr] at ha
 | goto l => intro t env h RT K r H ha; simp [zbr] at ha
 | refuse s => intro t env h RT K r H ha; simp [zbr] at ha
 | region id ops draw =>
  intro t env h RT K r H ha
  unfold zbr at ha
  cases draw with
  | true =>
   simp only [if_true] at ha
   split at ha
   · rename_i hok
     have hok' : zj7 P ops.toList env.length = true := by rw [H.len]; exact hok
     split at ha
     · rename_i hu
       obtain ⟨t', env', h', H', h1, h2, h3⟩ := ziF H ha
       refine ⟨.norm, t', env', h', H', h1, fun K' => by unfold zbr; simp only [hok, if_true, hu]; rw [h2], fun K' => ?_⟩
       unfold zbb
       simp only [hok', if_true, hu]
       show zep P CALL ops.toList (List.range ops.toList.length) env h [] (fun _ env h => K' .norm env h) = _
       rw [zkO, h3]
     · rename_i u us hu
       obtain ⟨T2, T2', t', env', h', HT, H', h1, h2, h3⟩ := ziT (T' := []) H .nil ha
       rw [zht HT] at h1
       obtain ⟨h4, h5⟩ := zfZ h1
       refine ⟨.norm, t', env', h', H', h4, fun K' => by unfold zbr; simp only [hok, if_true, hu]; rw [h2, zht HT, h5], fun K' => ?_⟩
       unfold zbb
       simp only [hok', if_true, hu]
       rw [h3, h5]
   · simp at ha
  | false =>
   simp only [Bool.false_eq_true, if_false] at ha
   obtain ⟨t', env', h', H', h1, h2, h3⟩ := ziF H ha
   exact ⟨.norm, t', env', h', H', h1, fun K' => by unfold zbr; simp only [Bool.false_eq_true, if_false]; rw [h2], fun K' => by unfold zbb; simp only [Bool.false_eq_true, if_false]; rw [h3]⟩
 | seq x y ihx ihy =>
  intro t env h RT K r H ha
  unfold zbr at ha
  obtain ⟨e, t', env', h', H', h1, h2, h3⟩ := ihx H ha
  cases e with
  | norm =>
   obtain ⟨e2, t2, env2, h4, H2, k1, k2, k3⟩ := ihy H' h1
   exact ⟨e2, t2, env2, h4, H2, k1, fun K' => by unfold zbr; rw [h2]; simp only; rw [k2], fun K' => by unfold zbb; rw [h3]; simp only; rw [k3]⟩
  | exit i => exact ⟨_, _, _, _, H', h1, fun K' => by unfold zbr; rw [h2], fun K' => by unfold zbb; rw [h3]⟩
  | ret => exact ⟨_, _, _, _, H', h1, fun K' => by unfold zbr; rw [h2], fun K' => by unfold zbb; rw [h3]⟩
 | cond c x y ihx ihy =>
  intro t env h RT K r H ha
  unfold zbr at ha
  split at ha
  · rename_i b hc
    have hc' : aev env c = .bool b := by rw [← H.ev]; exact hc
    have h1 := ha
    cases b with
    | true =>
     simp only [if_true] at h1
     obtain ⟨e, t', env', h', H', k1, k2, k3⟩ := ihx H h1
     exact ⟨e, t', env', h', H', k1, fun K' => by unfold zbr; simp only [hc, if_true]; rw [k2], fun K' => by unfold zbb; simp only [hc', if_true]; rw [k3]⟩
    | false =>
     simp only [Bool.false_eq_true, if_false] at h1
     obtain ⟨e, t', env', h', H', k1, k2, k3⟩ := ihy H h1
     exact ⟨e, t', env', h', H', k1, fun K' => by unfold zbr; simp only [hc, Bool.false_eq_true, if_false]; rw [k2], fun K' => by unfold zbb; simp only [hc', Bool.false_eq_true, if_false]; rw [k3]⟩
  · simp at ha
 | block i c ih =>
  intro t env h RT K r H ha
  unfold zbr at ha
  obtain ⟨e, t', env', h', H', h1, h2, h3⟩ := ih H ha
  cases e with
  | norm => exact ⟨_, _, _, _, H', h1, fun K' => by unfold zbr; rw [h2], fun K' => by unfold zbb; rw [h3]⟩
  | ret => exact ⟨_, _, _, _, H', h1, fun K' => by unfold zbr; rw [h2], fun K' => by unfold zbb; rw [h3]⟩
  | exit j =>
   simp only at h1
   split at h1
   · rename_i hj; exact ⟨_, _, _, _, H', h1, fun K' => by unfold zbr; rw [h2]; simp only [hj, if_true], fun K' => by unfold zbb; rw [h3]; simp only [hj, if_true]⟩
   · rename_i hj; exact ⟨_, _, _, _, H', h1, fun K' => by unfold zbr; rw [h2]; simp only [hj, if_false], fun K' => by unfold zbb; rw [h3]; simp only [hj, if_false]⟩
 | loop c ih =>
  intro t env h RT K r H ha
  unfold zbr at ha
  split at ha
  · rename_i s hs
    obtain ⟨e, t', env', h', H', h1, h2, h3⟩ := s.ok H ha
    refine ⟨e, t', env', h', H', h1, fun K' => by unfold zbr; simp only [hs]; exact h2 K', fun K' => ?_⟩
    unfold zbb
    have : lsT LS (zaX c) = some s.s := by simp [lsT, hs]
    simp only [this]
    exact h3 K'
  · simp at ha
 | rangeFunc g ps asg body iha ihb =>
  intro t env h RT K r H ha
  unfold zbr at ha
  split at ha
  · rename_i id cap hg
    have hg' : aev env g = .fn (.func id) cap := by rw [← H.ev]; exact hg
    rw [CALL.nat] at ha
    simp only [Option.bind_eq_some_iff] at ha
    obtain ⟨⟨v, h1⟩, hcall, hk⟩ := ha
    simp only at hk
    have hcall' := hcall
    rw [H.toL] at hcall'
    split at hk
    · rename_i L hL
      split at hk
      · simp at hk
      · rename_i hb
        split at hk
        · rename_i hp
          exact ⟨_, _, _, _, H, hk, fun K' => by unfold zbr; simp only [hg]; rw [CALL.nat, hcall]; simp only [Option.bind_some, hL, hb, if_false, hp],
           fun K' => by unfold zbb; simp only [hg']; rw [CALL.nat, hcall']; simp only [Option.bind_some, hL, hb, if_false, hp]⟩
        · rename_i e hp
          exact ⟨_, _, _, _, H, hk, fun K' => by unfold zbr; simp only [hg]; rw [CALL.nat, hcall]; simp only [Option.bind_some, hL, hb, if_false, hp],
           fun K' => by unfold zbb; simp only [hg']; rw [CALL.nat, hcall']; simp only [Option.bind_some, hL, hb, if_false, hp]⟩
    · simp at hk
  · simp at ha


def LoopP.ofF (s : LoopF) : LoopP where
 run := fun n t h K => s.run (toL n t) h fun e env h => if env.length = n then K e (ofL env) h else none
 s := s
 ok := fun {R n t env h K r} H ha => by
  rw [s.nat, H.toL] at ha
  simp only [Option.bind_eq_some_iff] at ha
  obtain ⟨⟨e, env', h'⟩, hx, hk⟩ := ha
  simp only at hk
  split at hk
  · rename_i hl
    have H' : TR n (ofL env') env' := by have := TR.ofL env'; rw [hl] at this; exact this
    exact ⟨e, _, env', h', H', hk, fun K' => by rw [s.nat, H.toL, hx]; simp [hl], fun K' => by rw [s.nat, hx]; rfl⟩
  · simp at hk

noncomputable def zdN (P : Program) (CALL : CallT) (LS : zdd) (c : Code) : Nat → {R : Type} → Nat → Tr → zaa → (AEx → Tr → zaa → Option R) → Option R
 | 0, _, _, _, _, _ => none
 | j + 1, _, n, t, h, K => zbr P CALL [] LS n c t h fun e t' h' =>
  match e with
  | .norm => zdN P CALL LS c j n t' h' K
  | .exit i => K (.exit i) t' h'
  | .ret => K .ret t' h'

theorem ziW {CALL : CallT} {LS : zdd} {c : Code} : ∀ (j : Nat) {R : Type} {n : Nat} {t : Tr} {env : Env} {h : zaa} {K : AEx → Tr → zaa → Option R} {r : R}, TR n t env → zdN P CALL LS c j n t h K = some r →
 ∃ e t' env' h', TR n t' env' ∧ K e t' h' = some r ∧ (∀ {R' : Type} (K' : AEx → Tr → zaa → Option R'), zdN P CALL LS c j n t h K' = K' e t' h') ∧
  (∀ {R' : Type} (K' : AEx → Env → zaa → Option R'), zcV P CALL (lsT LS) c j env h K' = K' e env' h')
 | 0, R, n, t, env, h, K, r, H, hr => by simp [zdN] at hr
 | j + 1, R, n, t, env, h, K, r, H, hr => by
  unfold zdN at hr
  obtain ⟨e, t', env', h', H', h1, h2, h3⟩ := zfz H hr
  cases e with
  | norm =>
   obtain ⟨e2, t2, env2, h4, H2, k1, k2, k3⟩ := ziW j H' h1
   exact ⟨e2, t2, env2, h4, H2, k1, fun K' => by unfold zdN; rw [h2]; exact k2 K', fun K' => by unfold zcV; rw [h3]; exact k3 K'⟩
  | exit i => exact ⟨_, _, _, _, H', h1, fun K' => by unfold zdN; rw [h2], fun K' => by unfold zcV; rw [h3]⟩
  | ret => exact ⟨_, _, _, _, H', h1, fun K' => by unfold zdN; rw [h2], fun K' => by unfold zcV; rw [h3]⟩

noncomputable def zAW (P : Program) (CALL : CallT) (LS : zdd) (c : Code) (j : Nat) : LoopP where
 run := zdN P CALL LS c j
 s := zvU P CALL (lsT LS) c j
 ok := fun H ha => ziW j H ha

def noT : zdd := fun _ => none

noncomputable def zqn (P : Program) (C : CallT) (F : Nat) : Nat → Code → zdd
 | 0, _ => noT
 | d + 1, c => fun k => if ((za0 c).map zaX).Nodup then ((za0 c).find? fun b => zaX b == k).map fun b => zAW P C (zqn P C F d b) b F else none

theorem zlQ (P : Program) (C : CallT) (F : Nat) : ∀ (d : Nat) (c : Code), lsT (zqn P C F d c) = zbL P C F d c
 | 0, c => rfl
 | d + 1, c => by
  funext k
  unfold lsT zqn zbL
  split
  · cases (za0 c).find? fun b => zaX b == k with
    | none => rfl
    | some b =>
     simp only [Option.map_some]
     show some (zvU P C (lsT (zqn P C F d b)) b F) = _
     rw [zlQ]
  · rfl

def zA7 (l : List (Nat × LoopF)) (r : zdd) : zdd := fun k => match zli l k with
 | some s => some (LoopP.ofF s)
 | none => r k

theorem zxd (l : List (Nat × LoopF)) (r : zdd) : lsT (zA7 l r) = zdF l (lsT r) := by
 funext k
 unfold lsT zA7 zdF
 cases zli l k <;> rfl


def zew (P : Program) (t : Tr) (h : zaa) : List ResultVar → Option (List AV)
 | [] => some []
 | .tmp i :: r => (zew P t h r).map fun l => (t.get i).getD (.tup []) :: l
 | .cell a ty :: r => (ziV P h ty ((t.get a).getD (.tup []))).bind fun v => (zew P t h r).map fun l => v :: l

theorem zd8 {n : Nat} {t : Tr} {env : Env} (H : TR n t env) {h : zaa} : ∀ rs : List ResultVar, zew P t h rs = zcw P env h rs
 | [] => rfl
 | .tmp i :: r => by simp only [zew, zcw, zd8 H r, H.get, List.getD]
 | .cell a ty :: r => by simp only [zew, zcw, zd8 H r, H.get, List.getD]

noncomputable def zgr {R : Type} (P : Program) (CALL : CallT) (pr : List (Nat × AV)) (LS : zdd) (f : FuncId) (args : List AV) (h : zaa) (K : AV → zaa → Option R) : Option R :=
 match P.funcs[f]? with
 | some fn =>
  match fn.body with
  | some c =>
   if fn.name = "runtime.NumGoroutine" then none else
   if args.length ≤ fn.ntmps then
    zbr P CALL pr LS fn.ntmps c (zw1 (Tr.mk (.tup []) fn.ntmps fn.ntmps) 0 args) h fun e t h =>
     match e with
     | .exit _ => none
     | _ => (zew P t h fn.results.toList).bind fun l => K (zz0 l) h
   else none
  | none => none
 | none => none

theorem zjn {CALL : CallT} {pr : List (Nat × AV)} {LS : zdd} {f : FuncId} {args : List AV} {h : zaa} {R : Type} {K : AV → zaa → Option R} {r : R} (ha : zgr P CALL pr LS f args h K = some r) :
 ∃ v h', K v h' = some r ∧ (∀ {R' : Type} (K' : AV → zaa → Option R'), zgr P CALL pr LS f args h K' = K' v h') ∧ (∀ {R' : Type} (K' : AV → zaa → Option R'), zch P CALL (lsT LS) f args h K' = K' v h') := by
 unfold zgr at ha
 split at ha
 · rename_i fn hfn
   split at ha
   · rename_i c hc
     split at ha
     · simp at ha
     · rename_i hname
       split at ha
       · rename_i hn
         obtain ⟨e, t', env', h', H', h1, h2, h3⟩ := zfz (TR.args hn) ha
         cases e with
         | exit i => simp at h1
         | norm =>
          simp only [Option.bind_eq_some_iff] at h1
          obtain ⟨l, hl, hk⟩ := h1
          have hl' := hl
          rw [zd8 H'] at hl'
          exact ⟨_, _, hk, fun K' => by unfold zgr; simp only [hfn, hc, hname, if_false, hn, if_true]; rw [h2]; simp only [hl, Option.bind_some],
           fun K' => by unfold zch; simp only [hfn, hc, hname, if_false]; rw [h3]; simp only [hl', Option.bind_some]⟩
         | ret =>
          simp only [Option.bind_eq_some_iff] at h1
          obtain ⟨l, hl, hk⟩ := h1
          have hl' := hl
          rw [zd8 H'] at hl'
          exact ⟨_, _, hk, fun K' => by unfold zgr; simp only [hfn, hc, hname, if_false, hn, if_true]; rw [h2]; simp only [hl, Option.bind_some],
           fun K' => by unfold zch; simp only [hfn, hc, hname, if_false]; rw [h3]; simp only [hl', Option.bind_some]⟩
       · simp at ha
   · simp at ha
 · simp at ha

theorem zo1 {CALL : CallT} {pr : List (Nat × AV)} {LS : zdd} {f : FuncId} {args : List AV} {h : zaa} {R : Type} (K : AV → zaa → Option R) :
 zgr P CALL pr LS f args h K = (zgr P CALL pr LS f args h fun v h => some (v, h)).bind fun x => K x.1 x.2 := by
 have := zdS (α := AV × zaa) (fun {R} K => zgr P CALL pr LS f args h fun v h => K (v, h)) (fun K r hr => by
  obtain ⟨v, h', h1, h2, _⟩ := zjn hr
  exact ⟨(v, h'), h1, fun K' => h2 _⟩) (fun x => K x.1 x.2)
 exact this

noncomputable def zd0 {R : Type} (P : Program) (CALL : CallT) (l : Nat) (args : List AV) (h : zaa) (K : AV → zaa → Option R) : Option R :=
 match h[l]? with
 | some (.lp L) =>
  if L.st = .ready ∧ args.length = L.ps.length ∧ zei L.asg = true ∧ zei L.body = true then
   zbr P CALL [] noT L.env.length L.asg (ofL (zcL L.env (L.ps.zip args))) h fun e t h =>
    match e with
    | .norm =>
     match h[l]? with
     | some (.lp L1) =>
      if L1.st = .ready then
      zbr P CALL [] noT L.env.length L.body t (h.set l (.lp { L1 with st := .busy })) fun e _ h =>
       match h[l]? with
       | some (.lp L2) =>
        match e with
        | .norm => K (.bool true) (h.set l (.lp { L2 with st := .ready, pend := none }))
        | e => K (.bool false) (h.set l (.lp { L2 with st := .done, pend := some e }))
       | _ => none
      else none
     | _ => none
    | _ => none
  else none
 | _ => none

theorem zfG : ∀ (l : List (Tmp × AV)) (env : Env), (zcL env l).length = env.length
 | [], _ => rfl
 | (t, v) :: r, env => by rw [zcL, zfG r]; simp

theorem zwx : lsT noT = fun _ => none := rfl

theorem zkm {CALL : CallT} {l : Nat} {args : List AV} {h : zaa} {R : Type} {K : AV → zaa → Option R} {r : R} (ha : zd0 P CALL l args h K = some r) :
 ∃ v h', K v h' = some r ∧ (∀ {R' : Type} (K' : AV → zaa → Option R'), zd0 P CALL l args h K' = K' v h') ∧ (∀ {R' : Type} (K' : AV → zaa → Option R'), zdy P CALL l args h K' = K' v h') := by
 unfold zd0 at ha
 split at ha
 · rename_i L hl
   split at ha
   · rename_i hc
     have H0 : TR L.env.length (ofL (zcL L.env (L.ps.zip args))) (zcL L.env (L.ps.zip args)) := by
      have := TR.ofL (zcL L.env (L.ps.zip args)); rw [zfG] at this; exact this
     obtain ⟨e, t1, env1, h1, H1, hk, hall, hall'⟩ := zfz H0 ha
     rw [zwx] at hall'
     cases e with
     | exit i => simp at hk
     | ret => simp at hk
     | norm =>
      simp only at hk
      split at hk
      · rename_i L1 hl1
        split at hk
        · rename_i hst
          obtain ⟨e2, t2, env2, h2, H2, hk2, hall2, hall2'⟩ := zfz H1 hk
          rw [zwx] at hall2'
          split at hk2
          · rename_i L2 hl2
            cases e2 with
            | norm => exact ⟨_, _, hk2, fun K' => by unfold zd0; simp only [hl]; rw [if_pos hc, hall]; simp only [hl1, hst, if_true]; rw [hall2]; simp only [hl2], fun K' => by unfold zdy; simp only [hl]; rw [if_pos hc, hall']; simp only [hl1, hst, if_true]; rw [hall2']; simp only [hl2]⟩
            | exit i => exact ⟨_, _, hk2, fun K' => by unfold zd0; simp only [hl]; rw [if_pos hc, hall]; simp only [hl1, hst, if_true]; rw [hall2]; simp only [hl2], fun K' => by unfold zdy; simp only [hl]; rw [if_pos hc, hall']; simp only [hl1, hst, if_true]; rw [hall2']; simp only [hl2]⟩
            | ret => exact ⟨_, _, hk2, fun K' => by unfold zd0; simp only [hl]; rw [if_pos hc, hall]; simp only [hl1, hst, if_true]; rw [hall2]; simp only [hl2], fun K' => by unfold zdy; simp only [hl]; rw [if_pos hc, hall']; simp only [hl1, hst, if_true]; rw [hall2']; simp only [hl2]⟩
          · simp at hk2
        · simp at hk
      · simp at hk
   · simp at ha
 · simp at ha

theorem znm (P : Program) (CALL : CallT) (l : Nat) (args : List AV) (h : zaa) {R : Type} (K : AV → zaa → Option R) :
 zd0 P CALL l args h K = (zd0 P CALL l args h fun v h => some (v, h)).bind fun x => K x.1 x.2 := by
 have := zdS (α := AV × zaa) (fun {R} K => zd0 P CALL l args h fun v h => K (v, h)) (fun K r hr => by
  obtain ⟨v, h', h1, h2, _⟩ := zkm hr
  exact ⟨(v, h'), h1, fun K' => h2 _⟩) (fun x => K x.1 x.2)
 exact this

noncomputable def zin (P : Program) (t : Tbl) (C : CallT) (F : Nat) {R : Type} (fn : Fn) (args : List AV) (h : zaa) (K : AV → zaa → Option R) : Option R :=
 match fn with
 | .func f => match t.find f with
  | some E => E.run args h K
  | none => zgr P C [] (zqn P C F 4 (zaB P f)) f args h K
 | .yield l => zd0 P C l args h K
 | _ => none

noncomputable def ze4 (P : Program) (t : Tbl) (F : Nat) : Nat → CallT
 | 0 => zm1 P zlk t
 | n + 1 => {
  run := zin P t (ze4 P t F n) F
  nat := fun fn args h K => by
   cases fn with
   | func f =>
    simp only [zin]
    split
    · rename_i E _; exact E.nat args h K
    · exact zo1 K
   | yield l => exact znm P (ze4 P t F n) l args h K
   | _ => rfl }

theorem zeQ {t : Tbl} (ht : ∀ f E, t.find f = some E → SoundE P f E) (F : Nat) (n : Nat) : zcg P (ze4 P t F n) := by
 induction n with
 | zero => exact zh1 zhq ht
 | succ n SC =>
  intro W0 σ h w fn args args' v h' hx R hv
  cases fn with
  | func f =>
   simp only [ze4, CallT.get, zin] at hx
   split at hx
   · rename_i E hE; exact ht f E hE hx R hv
   · obtain ⟨v1, h1, h2, _, h3⟩ := zjn hx
     simp only [Option.some.injEq, Prod.mk.injEq] at h2
     obtain ⟨rfl, rfl⟩ := h2
     rw [zlQ] at h3
     exact zeA SC (zhb SC F 4 f) (show (zk0 P (ze4 P t F n) (zbL P (ze4 P t F n) F 4 (zaB P f)) f).get args h = some (v1, h1) by rw [zfD]; exact h3 _) R hv
  | yield l =>
   intro p hp
   obtain ⟨v1, h1, h2, _, h3⟩ := zkm (show zd0 P (ze4 P t F n) l args h (fun v h => some (v, h)) = some (v, h') from hx)
   simp only [Option.some.injEq, Prod.mk.injEq] at h2
   obtain ⟨rfl, rfl⟩ := h2
   exact zjG SC (h3 _) R hv hp
  | _ => simp [ze4, CallT.get, zin] at hx

noncomputable def zbs {R : Type} (P : Program) (t : Tbl) (F n : Nat) (pr : List (Nat × AV)) (ls : List (Nat × LoopF)) (f : FuncId) (args : List AV) (h : zaa) (K : AV → zaa → Option R) : Option R :=
 zgr P (ze4 P t F n) pr (zA7 ls (zqn P (ze4 P t F n) F 4 (zaB P f))) f args h K

theorem zkl {t : Tbl} (ht : ∀ f E, t.find f = some E → SoundE P f E) {F n : Nat} {pr : List (Nat × AV)} {ls : List (Nat × LoopF)} {f : FuncId} (hls : ∀ b ∈ za0 (zaB P f), ∀ s, zli ls (zaX b) = some s → zcy P s b)
 {args : List AV} {h : zaa} {R : Type} {K : AV → zaa → Option R} {r : R} (ha : zbs P t F n pr ls f args h K = some r) : ∃ v h', K v h' = some r ∧ ∃ E, SoundE P f E ∧ E.get args h = some (v, h') := by
 obtain ⟨v, h', h1, _, h3⟩ := zjn ha
 rw [zxd, zlQ] at h3
 refine ⟨v, h', h1, zk0 P (ze4 P t F n) (zdF ls (zbL P (ze4 P t F n) F 4 (zaB P f))) f, ?_, by rw [zfD]; exact h3 _⟩
 refine zeA (zeQ ht F n) fun fd c hf hb => ?_
 have e : zaB P f = c := by simp [zaB, hf, hb]
 intro b hbm s hs
 unfold zdF at hs
 split at hs
 · rename_i s' hs'
   cases hs
   exact hls b (by rw [e]; exact hbm) _ hs'
 · exact zhb (zeQ ht F n) F 4 f fd c hf hb b hbm s hs

def zko : List Bool → Nat → Tr → List AV
 | [], _, _ => []
 | true :: m, i, t => (t.get i).getD .any :: zko m (i + 1) t
 | false :: m, i, t => zko m (i + 1) t

theorem ziM {t : Tr} : ∀ (m : List Bool) (i : Nat) (env : Env), env.length = m.length → (∀ k, t.get (i + k) = env[k]?) → zko m i t = zhd m env
 | [], i, env, hl, h => by cases env <;> rfl
 | b :: m, i, [], hl, h => by simp at hl
 | true :: m, i, v :: e, hl, h => by
  have h0 := h 0
  simp only [Nat.add_zero, List.getElem?_cons_zero] at h0
  rw [zko, zhd, h0, ziM m (i + 1) e (by simpa using hl) fun k => by rw [show i + 1 + k = i + (k + 1) by omega, h, List.getElem?_cons_succ]]
  rfl
 | false :: m, i, v :: e, hl, h => by
  rw [zko, zhd, ziM m (i + 1) e (by simpa using hl) fun k => by rw [show i + 1 + k = i + (k + 1) by omega, h, List.getElem?_cons_succ]]

theorem zdM : ∀ (m : List Bool) (vs : List AV), (spread m vs).length = m.length
 | [], _ => rfl
 | true :: m, v :: vs => by simp [spread, zdM m vs]
 | true :: m, [] => by simp [spread, zdM m []]
 | false :: m, vs => by simp [spread, zdM m vs]

noncomputable def zcX (P : Program) (t : Tbl) (F n : Nat) (pr : List (Nat × AV)) (LS : zdd) (c : Code) (m : List Bool) (vs : List AV) (h : zaa) : Option (AEx × List AV × zaa) :=
 zbr P (ze4 P t F n) pr LS m.length c (ofL (spread m vs)) h fun e t' h' => some (e, zko m 0 t', h')

theorem zmc {t : Tbl} {F n : Nat} {pr : List (Nat × AV)} {LS : zdd} {c : Code} {m : List Bool} {vs : List AV} {h : zaa} {x : AEx × List AV × zaa} (ha : zcX P t F n pr LS c m vs h = some x) : zbR P (ze4 P t F n) (lsT LS) c m vs h = some x := by
 unfold zcX at ha
 have H0 : TR m.length (ofL (spread m vs)) (spread m vs) := by
  have := TR.ofL (spread m vs); rw [zdM] at this; exact this
 obtain ⟨e, t', env', h', H', h1, _, h3⟩ := zfz H0 ha
 unfold zbR
 rw [h3, if_pos H'.len]
 simp only [Option.some.injEq] at h1
 subst h1
 rw [ziM m 0 env' H'.len fun k => by rw [Nat.zero_add]; exact H'.get k]

end Go.Abs

end
