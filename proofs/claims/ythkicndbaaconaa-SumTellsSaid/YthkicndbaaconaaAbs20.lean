/- A call told of less memory than there is: what it says of the less holds of the more. -/
import Derived.Test.YthkicndbaaconaaAbs19
set_option autoImplicit false
set_option linter.unusedVariables false
set_option linter.unusedSimpArgs false
namespace Go.Abs
variable {P : Program} {W0 : World} {σ : Sig} {h : AHeap} {w : World}

def SeenB (ρ : Nat → Option (Nat × Nat)) (σ1 σ2 : Sig) : Prop :=
  ∀ (i : Nat) (q : Nat × Nat) (p2 : Plc), ρ i = some q → σ2[q.1]? = some p2 → ∃ p, σ1[i]? = some p ∧ p.blk = p2.blk ∧ p.off = p2.off + q.2 ∧ p.spare = p2.spare

mutual
theorem VR.unren {ρ : Nat → Option (Nat × Nat)} {σ1 σ2 : Sig} (hs : SeenB ρ σ1 σ2) : ∀ {a b : AV} {v : Value}, AV.ren ρ a = some b → VR σ2 b v → VR σ1 a v
  | .any, b, v, h, hv => .any v
  | .bool x, b, v, h, hv => by simp [AV.ren] at h; subst h; cases hv; exact .bool _
  | .int k n, b, v, h, hv => by simp [AV.ren] at h; subst h; cases hv; exact .int _ _
  | .str s, b, v, h, hv => by simp [AV.ren] at h; subst h; cases hv; exact .str _
  | .ptr none, b, v, h, hv => by simp [AV.ren] at h; subst h; cases hv; exact .ptr0
  | .ptr (some (i, o)), b, v, h, hv => by
    simp only [AV.ren, Option.map_eq_some_iff] at h
    obtain ⟨q, hq, rfl⟩ := h
    cases hv with
    | ptr _ _ p2 hp2 =>
    obtain ⟨p, h1, h2, h3, h4⟩ := hs i q p2 hq hp2
    have := VR.ptr (σ := σ1) i o p h1
    rw [h2, h3, Nat.add_assoc] at this; exact this
  | .sl none l c e, b, v, h, hv => by simp [AV.ren] at h; subst h; cases hv; exact .sl0 _ _ _
  | .sl (some (i, o)) l c e, b, v, h, hv => by
    simp only [AV.ren, Option.map_eq_some_iff] at h
    obtain ⟨q, hq, rfl⟩ := h
    cases hv with
    | sl _ _ _ _ _ p2 a c' hp2 hl hc ha =>
    obtain ⟨p, h1, h2, h3, h4⟩ := hs i q p2 hq hp2
    exact .sl i o l c e p a c' h1 hl (by rw [hc, h4]) (by
      rcases ha with ha | ha
      · left; rw [ha, h2, h3, Nat.add_assoc]
      · exact .inr ha)
  | .map none, b, v, h, hv => by simp [AV.ren] at h; subst h; cases hv; exact .map0
  | .map (some i), b, v, h, hv => by
    simp only [AV.ren, Option.map_eq_some_iff] at h
    obtain ⟨q, hq, rfl⟩ := h
    cases hv with
    | map _ p2 hp2 =>
    obtain ⟨p, h1, h2, h3, h4⟩ := hs i q p2 hq hp2
    rw [← h2]; exact .map i p h1
  | .fn (.func f) c, b, v, h, hv => by
    simp only [AV.ren, Option.map_eq_some_iff] at h
    obtain ⟨c', hc, rfl⟩ := h
    cases hv with
    | fn _ _ cap' hcap => exact .fn f c cap' (VRs.unren hs hc hcap)
  | .fn (.yield l) c, b, v, h, hv => by simp [AV.ren] at h
  | .fn (.method n) c, b, v, h, hv => by
    simp only [AV.ren, Option.map_eq_some_iff] at h
    obtain ⟨c', hc, rfl⟩ := h
    cases hv
  | .fn (.methodOf t n) c, b, v, h, hv => by
    simp only [AV.ren, Option.map_eq_some_iff] at h
    obtain ⟨c', hc, rfl⟩ := h
    cases hv
  | .fn (.via t n f p) c, b, v, h, hv => by
    simp only [AV.ren, Option.map_eq_some_iff] at h
    obtain ⟨c', hc, rfl⟩ := h
    cases hv
  | .nilFn, b, v, h, hv => by simp [AV.ren] at h; subst h; cases hv; exact .nilFn
  | .agg l, b, v, h, hv => by
    simp only [AV.ren, Option.map_eq_some_iff] at h
    obtain ⟨c', hc, rfl⟩ := h
    cases hv with
    | agg _ cs hcs => exact .agg l cs (VRs.unren hs hc hcs)
  | .tup l, b, v, h, hv => by
    simp only [AV.ren, Option.map_eq_some_iff] at h
    obtain ⟨c', hc, rfl⟩ := h
    cases hv with
    | tup _ cs hcs => exact .tup l cs (VRs.unren hs hc hcs)
theorem VRs.unren {ρ : Nat → Option (Nat × Nat)} {σ1 σ2 : Sig} (hs : SeenB ρ σ1 σ2) : ∀ {a b : List AV} {v : List Value}, AV.rens ρ a = some b → VRs σ2 b v → VRs σ1 a v
  | [], b, v, h, hv => by simp [AV.rens] at h; subst h; cases hv; exact .nil
  | a :: l, b, v, h, hv => by
    simp only [AV.rens, Option.bind_eq_some_iff, Option.map_eq_some_iff] at h
    obtain ⟨a', ha', l', hl', rfl⟩ := h
    cases hv with
    | cons _ v' _ m h1 h2 => exact .cons _ _ _ _ (VR.unren hs ha' h1) (VRs.unren hs hl' h2)
end

def posOf : List Nat → Nat → Option Nat
  | [], _ => none
  | s :: l, k => if s = k then some 0 else (posOf l k).map (· + 1)

theorem posOf_some : ∀ {l : List Nat} {k j : Nat}, posOf l k = some j → l[j]? = some k
  | [], _, _, h => by simp [posOf] at h
  | s :: l, k, j, h => by
    simp only [posOf] at h
    split at h
    · rename_i e; simp at h; subst h; simp [e]
    · simp only [Option.map_eq_some_iff] at h
      obtain ⟨i, hi, rfl⟩ := h
      simpa using posOf_some hi

theorem posOf_nodup : ∀ {l : List Nat} {k j : Nat}, l.Nodup → l[j]? = some k → posOf l k = some j
  | [], _, _, _, h => by simp at h
  | s :: l, k, 0, hn, h => by simp at h; simp [posOf, h]
  | s :: l, k, j + 1, hn, h => by
    simp at h hn
    have : s ≠ k := fun e => hn.1 (e ▸ List.mem_of_getElem? h)
    simp [posOf, this, posOf_nodup hn.2 h]

/-- Where the blocks of the less lie in the more: those that were given; those that are new, and kept. -/
def plan (base : List (Option (Nat × Nat))) (n : Nat) (sel : List Nat) (k : Nat) : Option (Nat × Nat) :=
  match base[k]? with
  | some q => q
  | none => (posOf sel k).map fun j => (n + j, 0)

/-- A new block, in the more. -/
def ABlk.ren (ρ : Nat → Option (Nat × Nat)) : ABlk → Option ABlk
  | .cells vs e .far _ => none
  | .cells vs e md par => (AV.rens ρ vs).map fun vs' => .cells vs' e md (par.bind fun k => (ρ k).map (·.1))
  | _ => none

def given (base : List (Option (Nat × Nat))) (k : Nat) : Option (Nat × Nat) :=
  match base[k]? with
  | some q => q
  | none => none

structure Less (base : List (Option (Nat × Nat))) (h h1 : AHeap) : Prop where
  len : h1.length = base.length
  all : ∀ (k : Nat) b, h1[k]? = some b → (∃ e par, b = .cells [] e .far par ∧ base[k]? = some none) ∨ ∃ vs e par i o vs' e' md' par', b = .cells vs e .far par ∧ base[k]? = some (some (i, o)) ∧ h[i]? = some (.cells vs' e' md' par') ∧ o + vs.length ≤ vs'.length ∧
    AV.rens (given base) vs = some ((vs'.drop o).take vs.length)

theorem ObjR.cells_eq {p : Plc} {vs : List AV} {e : Nat} {md : Md} {par : Option Nat} (ho : ObjR σ p w (.cells vs e md par)) (hvs : vs ≠ []) : ∃ c t fr, w.heap[p.blk]? = some (.cells c t fr) ∧ VRs σ vs ((c.toList.drop p.off).take vs.length) := by
  rcases ho with ⟨h0, _⟩ | ⟨c, t, fr, h1, h2, _⟩
  · exact absurd h0 hvs
  · exact ⟨c, t, fr, h1, h2⟩

/-- The places of the less. -/
def lessSig (σ : Sig) (base : List (Option (Nat × Nat))) : Sig := base.map fun
  | some q => (match σ[q.1]? with | some p => ⟨p.blk, p.off + q.2, p.spare⟩ | none => ⟨0, 0, 0⟩)
  | none => ⟨0, 0, 0⟩

theorem given_some {base : List (Option (Nat × Nat))} {k : Nat} {q : Nat × Nat} (h : given base k = some q) : base[k]? = some (some q) := by
  unfold given at h
  split at h
  · rename_i q' hq; rw [hq, h]
  · simp at h

theorem less_seenB (R : Rel W0 σ h w) (base : List (Option (Nat × Nat))) : SeenB (given base) (lessSig σ base) σ := by
  intro i q p2 hq hp
  refine ⟨⟨p2.blk, p2.off + q.2, p2.spare⟩, ?_, rfl, rfl, rfl⟩
  have hq := given_some hq
  simp [lessSig, hq, hp]

theorem less_rel (R : Rel W0 σ h w) {base : List (Option (Nat × Nat))} {h1 : AHeap} (L : Less base h h1) : Rel w (lessSig σ base) h1 w := by
  have key : ∀ {k : Nat} {b : ABlk} {p : Plc}, h1[k]? = some b → (lessSig σ base)[k]? = some p → ∃ vs e par, b = .cells vs e .far par ∧ (vs ≠ [] → p.blk < w.heap.size) ∧ ObjR (lessSig σ base) p w b := by
    intro k b p hb hp
    rcases L.all k b hb with ⟨e, par, rfl, hk⟩ | ⟨vs, e, par, i, o, vs', e', md', par', rfl, hk, hi, hle, hr⟩
    · exact ⟨[], e, par, rfl, fun h => absurd rfl h, .inl ⟨rfl, rfl⟩⟩
    obtain ⟨p0, hp0, ho⟩ := R.get hi
    simp [lessSig, hk, hp0] at hp
    subst hp
    by_cases hvs : vs = []
    · subst hvs; exact ⟨[], e, par, rfl, fun h => absurd rfl h, .inl ⟨rfl, rfl⟩⟩
    have hvs' : vs' ≠ [] := by
      rintro rfl
      cases vs with
      | nil => exact hvs rfl
      | cons v vs => simp at hle
    obtain ⟨c, t, fr, h2, h3⟩ := ho.cells_eq hvs'
    refine ⟨vs, e, par, rfl, fun _ => (Array.getElem?_eq_some_iff.1 h2).1, .inr ⟨c, t, fr, h2, ?_, by simp⟩⟩
    refine VRs.unren (less_seenB R base) hr ?_
    have h4 := (h3.drop o).take vs.length
    have h5 : ((((c.toList.drop p0.off).take vs'.length).drop o).take vs.length) = (c.toList.drop (p0.off + o)).take vs.length := by
      rw [List.drop_take, List.drop_drop, List.take_take]
      congr 1; omega
    rw [h5] at h4
    exact h4
  refine ⟨by simp [lessSig, L.len], fun hb hp => (key hb hp).choose_spec.choose_spec.choose_spec.2.2, fun hb hp hvs => ?_, fun hb hp hm => ?_, fun _ hb _ hp _ hm _ _ => ?_, RowKit.Below.refl _ _⟩
  · obtain ⟨_, _, _, e, h2, _⟩ := key hb hp; cases e; exact h2 hvs
  · obtain ⟨_, _, _, rfl, _, _⟩ := key hb hp; simp [ABlk.mine] at hm
  · obtain ⟨_, _, _, rfl, _, _⟩ := key hb hp; simp [ABlk.mine] at hm

/-- What a call says of the less, said of the more. -/
structure Frame1 (E : Ent) (args : List AV) (h : AHeap) (v : AV) (h' : AHeap) (base : List (Option (Nat × Nat))) (args1 : List AV) (h1 : AHeap) (v1 : AV) (h1' : AHeap) (sel : List Nat) (new : List ABlk) : Prop where
  run : E.get args1 h1 = some (v1, h1')
  less : Less base h h1
  args : AV.rens (given base) args1 = some args
  val : AV.ren (plan base h.length sel) v1 = some v
  heap : h' = h ++ new
  nodup : sel.Nodup
  made : ∀ (j : Nat) b, new[j]? = some b → ∃ s b1, sel[j]? = some s ∧ base.length ≤ s ∧ h1'[s]? = some b1 ∧ b1.ren (plan base h.length sel) = some b
  len : sel.length = new.length

theorem ABlk.ren_some {ρ : Nat → Option (Nat × Nat)} {b b' : ABlk} (hb : b.ren ρ = some b') : ∃ vs vs' e md par, b = .cells vs e md par ∧ md ≠ .far ∧ AV.rens ρ vs = some vs' ∧ b' = .cells vs' e md (par.bind fun k => (ρ k).map (·.1)) := by
  cases b with
  | cells vs e md par =>
    cases md with
    | far => simp [ABlk.ren] at hb
    | own => simp only [ABlk.ren, Option.map_eq_some_iff] at hb; obtain ⟨vs', h1, h2⟩ := hb; exact ⟨vs, vs', e, .own, par, rfl, by simp, h1, h2.symm⟩
    | ro => simp only [ABlk.ren, Option.map_eq_some_iff] at hb; obtain ⟨vs', h1, h2⟩ := hb; exact ⟨vs, vs', e, .ro, par, rfl, by simp, h1, h2.symm⟩
  | mp es c => simp [ABlk.ren] at hb
  | lp L => simp [ABlk.ren] at hb
  | dead => simp [ABlk.ren] at hb

theorem rens_length {ρ : Nat → Option (Nat × Nat)} : ∀ {l m : List AV}, AV.rens ρ l = some m → l.length = m.length
  | [], m, h => by simp [AV.rens] at h; subst h; rfl
  | a :: l, m, h => by
    simp only [AV.rens, Option.bind_eq_some_iff, Option.map_eq_some_iff] at h
    obtain ⟨a', _, l', hl', rfl⟩ := h
    simp [rens_length hl']

theorem frame_sound {f : FuncId} {E' : Ent}
    (hf : ∀ args h v h', E'.get args h = some (v, h') → ∃ E, SoundE P f E ∧ ∃ base args1 h1 v1 h1' sel new, Frame1 E args h v h' base args1 h1 v1 h1' sel new) : SoundE P f E' := by
  intro W0 σ h w args args' v h' hx R hv
  obtain ⟨E, hE, base, args1, h1, v1, h1', sel, new, F⟩ := hf _ _ _ _ hx
  have R1 := less_rel R F.less
  have hargs1 := VRs.unren (less_seenB R base) F.args hv
  obtain ⟨hfd, hcalls⟩ := hE F.run R1 hargs1
  refine ⟨hfd, fun n => CallsIn.mono (hcalls n) fun e w' hr => ?_⟩
  obtain ⟨v', σ1', rfl, s1, R1', hv'⟩ := hr
  obtain ⟨τ, hτ⟩ := s1.ext
  have hblen : (lessSig σ base).length = base.length := by simp [lessSig]
  -- the places of the new ones
  let pl : List Plc := sel.map fun s => match σ1'[s]? with | some p => p | none => ⟨0, 0, 0⟩
  have hsel : ∀ (j s : Nat), sel[j]? = some s → ∃ b1 b, new[j]? = some b ∧ base.length ≤ s ∧ h1'[s]? = some b1 ∧ b1.ren (plan base h.length sel) = some b := by
    intro j s hj
    have hlt : j < new.length := by rw [← F.len]; exact (List.getElem?_eq_some_iff.1 hj).1
    obtain ⟨s', b1, e1, e2, e3, e4⟩ := F.made j _ (List.getElem?_eq_getElem hlt)
    rw [hj] at e1; cases e1
    exact ⟨b1, _, List.getElem?_eq_getElem hlt, e2, e3, e4⟩
  have hpl : ∀ (j s : Nat), sel[j]? = some s → ∃ p, σ1'[s]? = some p ∧ pl[j]? = some p := by
    intro j s hj
    obtain ⟨b1, b, _, _, hb1, _⟩ := hsel j s hj
    obtain ⟨p, hp, _⟩ := R1'.get hb1
    exact ⟨p, hp, by simp [pl, hj, hp]⟩
  have hpll : pl.length = new.length := by simp [pl, F.len]
  have hseen : Seen (plan base h.length sel) σ1' (σ ++ pl) := by
    intro i q p hq hp
    unfold plan at hq
    split at hq
    · rename_i q' hb
      subst hq
      have hib : i < base.length := (List.getElem?_eq_some_iff.1 hb).1
      rw [hτ, List.getElem?_append_left (by rw [hblen]; exact hib)] at hp
      have : ∃ b, h1[i]? = some b := by
        have : i < h1.length := by rw [F.less.len]; exact hib
        exact ⟨_, List.getElem?_eq_getElem this⟩
      obtain ⟨b, hb1⟩ := this
      rcases F.less.all i b hb1 with ⟨_, _, _, hk⟩ | ⟨vs, e, par, i', o, vs', e', md', par', rfl, hk, hi, hle, hr⟩
      · rw [hb] at hk; cases hk
      rw [hb] at hk; cases hk
      obtain ⟨p0, hp0, _⟩ := R.get hi
      simp [lessSig, hb, hp0] at hp
      subst hp
      exact ⟨p0, by rw [List.getElem?_append_left (List.getElem?_eq_some_iff.1 hp0).1]; exact hp0, rfl, rfl, rfl⟩
    · simp only [Option.map_eq_some_iff] at hq
      obtain ⟨j, hj, rfl⟩ := hq
      obtain ⟨p', hp', hpj⟩ := hpl j i (posOf_some hj)
      rw [hp] at hp'; cases hp'
      refine ⟨p, ?_, rfl, rfl, rfl⟩
      rw [← R.len, List.getElem?_append_right (by simp)]
      simpa using hpj
  have hbelow := R1'.below
  have hold : ∀ k, k < w.heap.size → w'.heap[k]? = w.heap[k]? := fun k hk => hbelow.block k hk
  have hnew : ∀ {j : Nat} {b : ABlk} {p : Plc}, new[j]? = some b → pl[j]? = some p → ∃ s b1, sel[j]? = some s ∧ base.length ≤ s ∧ h1'[s]? = some b1 ∧ σ1'[s]? = some p ∧ b1.ren (plan base h.length sel) = some b ∧ w.heap.size ≤ p.blk ∧ ObjR (σ ++ pl) p w' b ∧ b.mine = true := by
    intro j b p hb hp
    obtain ⟨s, b1, e1, e2, e3, e4⟩ := F.made j b hb
    obtain ⟨p', hp', hpj⟩ := hpl j s e1
    rw [hp] at hpj; cases hpj
    obtain ⟨vs, vs', esz, md, par, rfl, hmd, hvs, rfl⟩ := ABlk.ren_some e4
    have ho := R1'.obj e3 hp'
    have hmine : (ABlk.cells vs esz md par).mine = true := by cases md <;> simp [ABlk.mine] at hmd ⊢
    have hown := R1'.own e3 hp' hmine
    refine ⟨s, _, e1, e2, e3, hp', e4, hown, ?_, by cases md <;> simp [ABlk.mine] at hmd ⊢⟩
    rcases ho with ⟨_, h0⟩ | ⟨c, t, fr, o1, o2, o3⟩
    · exact absurd h0 hmd
    have hl := rens_length hvs
    exact .inr ⟨c, t, fr, o1, by rw [← hl]; exact VRs.ren hseen o2 hvs, fun hm => by rw [← hl]; exact o3 hm⟩
  have split : ∀ {i : Nat} {b : ABlk} {p : Plc}, (h ++ new)[i]? = some b → (σ ++ pl)[i]? = some p → (h[i]? = some b ∧ σ[i]? = some p) ∨ (h.length ≤ i ∧ new[i - h.length]? = some b ∧ pl[i - h.length]? = some p) := by
    intro i b p hb hp
    rcases Nat.lt_or_ge i h.length with hi | hi
    · rw [List.getElem?_append_left hi] at hb
      rw [List.getElem?_append_left (by rw [R.len]; exact hi)] at hp
      exact .inl ⟨hb, hp⟩
    · rw [List.getElem?_append_right hi] at hb
      rw [List.getElem?_append_right (by rw [R.len]; exact hi), R.len] at hp
      exact .inr ⟨hi, hb, hp⟩
  have hW : W0.heap.size ≤ w.heap.size := R.below.size
  refine ⟨v', σ ++ pl, rfl, ?_, ?_, VR.ren hseen hv' F.val⟩
  · rw [F.heap]
    refine ⟨⟨pl, rfl⟩, ?_, fun b hb _ => hold b hb, s1.size⟩
    rintro b ⟨i, blk, p, g1, g2, g3, rfl⟩
    rcases split g1 g2 with ⟨k1, k2⟩ | ⟨_, k1, k2⟩
    · exact .inl ⟨i, blk, p, k1, k2, g3, rfl⟩
    · obtain ⟨_, _, _, _, _, _, _, k3, _⟩ := hnew k1 k2; exact .inr k3
  · rw [F.heap]
    refine ⟨by simp [R.len, hpll], fun {i b p} g1 g2 => ?_, fun {i vs e par p} g1 g2 hvs => ?_, fun {i b p} g1 g2 hm => ?_, fun {i j b b' p q} hij g1 g2 g3 g4 m1 m2 hpq => ?_, R.below.trans (hbelow.mono hW)⟩
    · rcases split g1 g2 with ⟨k1, k2⟩ | ⟨_, k1, k2⟩
      · exact ((R.obj k1 k2).grow pl).keep fun hd => hold _ ((R.obj k1 k2).lt hd)
      · obtain ⟨_, _, _, _, _, _, _, _, k3, _⟩ := hnew k1 k2; exact k3
    · rcases split g1 g2 with ⟨k1, k2⟩ | ⟨_, k1, k2⟩
      · exact R.far k1 k2 hvs
      · obtain ⟨_, _, _, _, _, _, _, _, _, k3⟩ := hnew k1 k2; simp [ABlk.mine] at k3
    · rcases split g1 g2 with ⟨k1, k2⟩ | ⟨_, k1, k2⟩
      · exact R.own k1 k2 hm
      · obtain ⟨_, _, _, _, _, _, _, k3, _⟩ := hnew k1 k2; omega
    · rcases split g1 g3 with ⟨k1, k3⟩ | ⟨hi, k1, k3⟩
      · rcases split g2 g4 with ⟨k2, k4⟩ | ⟨hj, k2, k4⟩
        · exact R.sep hij k1 k2 k3 k4 m1 m2 hpq
        · have h5 := (R.obj k1 k3).lt (ABlk.mine_ne m1)
          obtain ⟨_, _, _, _, _, _, _, k5, _⟩ := hnew k2 k4
          omega
      · rcases split g2 g4 with ⟨k2, k4⟩ | ⟨hj, k2, k4⟩
        · have h5 := (R.obj k2 k4).lt (ABlk.mine_ne m2)
          obtain ⟨_, _, _, _, _, _, _, k5, _⟩ := hnew k1 k3
          omega
        · obtain ⟨s, c1, e1, e2, e3, e4, e5, _⟩ := hnew k1 k3
          obtain ⟨s', c2, f1, f2, f3, f4, f5, _⟩ := hnew k2 k4
          have hss : s ≠ s' := fun e => by
            subst e
            have := posOf_nodup F.nodup e1
            rw [posOf_nodup F.nodup f1] at this
            simp at this; omega
          obtain ⟨vs, vs', esz, md, par, rfl, hmd, hvs, rfl⟩ := ABlk.ren_some e5
          obtain ⟨us, us', fsz, md2, par2, rfl, hmd2, hus, rfl⟩ := ABlk.ren_some f5
          have hm1 : (ABlk.cells vs esz md par).mine = true := by cases md <;> simp [ABlk.mine] at hmd ⊢
          have hm2 : (ABlk.cells us fsz md2 par2).mine = true := by cases md2 <;> simp [ABlk.mine] at hmd2 ⊢
          have hplan : ∀ (j s : Nat), sel[j]? = some s → base.length ≤ s → plan base h.length sel s = some (h.length + j, 0) := fun j s hj hs => by
            unfold plan
            have : base[s]? = none := by simp; omega
            rw [this, posOf_nodup F.nodup hj]; rfl
          rcases R1'.sep hss e3 f3 e4 f4 hm1 hm2 hpq with ⟨g5, g6⟩ | ⟨g5, g6⟩
          · left
            simp only [ABlk.par] at g5 ⊢
            refine ⟨?_, by cases md2 <;> simp [ABlk.isRo] at g6 ⊢⟩
            rw [g5]; simp only [Option.bind_some, hplan _ _ f1 f2, Option.map_some]
            congr 1; omega
          · right
            simp only [ABlk.par] at g5 ⊢
            refine ⟨?_, by cases md <;> simp [ABlk.isRo] at g6 ⊢⟩
            rw [g5]; simp only [Option.bind_some, hplan _ _ e1 e2, Option.map_some]
            congr 1; omega

end Go.Abs
