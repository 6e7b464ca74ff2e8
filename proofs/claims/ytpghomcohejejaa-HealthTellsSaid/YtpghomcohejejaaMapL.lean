/- Maps whose entries are letters: what is looked up behind a change. -/
import Derived.Test.YtpghomcohejejaaMapKit
set_option autoImplicit false
set_option linter.unusedVariables false
set_option linter.unusedSimpArgs false
namespace Go.Abs

instance : DecidableEq AV := fun a b => decidable_of_iff (AV.beq a b = true) ⟨AV.beq_eq _ _, fun h => h ▸ AV.beq_self _⟩
theorem fndG_shift {k : AV} : ∀ (G : GM) (i j : Nat), (fndG k G i).map (fun x => x.2.1) = (fndG k G j).map (fun x => x.2.1)
  | [], _, _ => rfl
  | g :: G, i, j => by
    simp only [fndG]
    split
    · rfl
    · exact fndG_shift G _ _
theorem valG_eq (G : GM) (k : AV) (i : Nat) : valG G k = ((fndG k G i).map (fun x => x.2.1)).getD 0 := by
  rw [fndG_shift G i 0]
  unfold valG
  cases fndG k G 0 <;> rfl
theorem valG_nil (k : AV) : valG [] k = 0 := rfl
theorem valG_cons (g : AV × Int × Nat) (G : GM) (k : AV) : valG (g :: G) k = if AV.beq g.1 k = true then g.2.1 else valG G k := by
  rw [valG_eq _ _ 0]
  simp only [fndG]
  split
  · rfl
  · exact (valG_eq _ _ 1).symm
theorem valG_append : ∀ (G : GM) (k k' : AV) (v : Int) (c : Nat), fndG k G 0 = none → valG (G ++ [(k, v, c)]) k' = if k' = k then v else valG G k'
  | [], k, k', v, c, _ => by
    show valG [(k, v, c)] k' = _
    rw [valG_cons]
    by_cases h : k' = k
    · subst h; rw [if_pos (AV.beq_self _), if_pos rfl]
    · rw [if_neg h, if_neg (fun hb => h (AV.beq_eq _ _ hb).symm)]
  | g :: G, k, k', v, c, hf => by
    have hn := fndG_none hf
    have h1 : g.1 ≠ k := hn g (by simp)
    have h2 : fndG k G 0 = none := by
      simp only [fndG] at hf
      split at hf
      · cases hf
      · have := fndG_shift (k := k) G 1 0
        rw [hf] at this
        cases hx : fndG k G 0 with
        | none => rfl
        | some x => rw [hx] at this; simp at this
    show valG (g :: (G ++ [(k, v, c)])) k' = _
    rw [valG_cons, valG_append G k k' v c h2, valG_cons]
    by_cases h : k' = k
    · subst h; rw [if_pos rfl, if_neg (fun hb => h1 (AV.beq_eq _ _ hb))]
      simp
    · rw [if_neg h, if_neg h]
theorem valG_set0 : ∀ (G : GM) (i j : Nat) (k k' : AV) (u v : Int) (b b' : Nat), fndG k G i = some (j, u, b) → valG (G.set (j - i) (k, v, b')) k' = if k' = k then v else valG G k'
  | [], _, _, _, _, _, _, _, _, h => by simp [fndG] at h
  | g :: G, i, j, k, k', u, v, b, b', h => by
    simp only [fndG] at h
    split at h
    · rename_i hb
      have hk := AV.beq_eq _ _ hb
      simp only [Option.some.injEq, Prod.mk.injEq] at h
      obtain ⟨rfl, _⟩ := h
      rw [Nat.sub_self, List.set_cons_zero, valG_cons, valG_cons, hk]
      by_cases h : k' = k
      · subst h; rw [if_pos (AV.beq_self _), if_pos rfl]
      · rw [if_neg h, if_neg (fun hb => h (AV.beq_eq _ _ hb).symm), if_neg (fun hb => h (AV.beq_eq _ _ hb).symm)]
    · rename_i hb
      obtain ⟨h1, _⟩ := fndG_at h
      rw [show j - i = (j - (i + 1)) + 1 by omega, List.set_cons_succ, valG_cons, valG_cons, valG_set0 G (i + 1) j k k' u v b b' h]
      by_cases hh : k' = k
      · subst hh; rw [if_neg hb, if_pos rfl, if_pos rfl]
      · rw [if_neg hh, if_neg hh]
theorem valG_set {G : GM} {k k' : AV} {v : Int} {c : Nat} : valG (setG G k v c) k' = if k' = k then v else valG G k' := by
  unfold setG
  cases hf : fndG k G 0 with
  | none => exact valG_append G k k' v c hf
  | some x =>
    obtain ⟨j, u, b⟩ := x
    exact valG_set0 G 0 j k k' u v b b hf
theorem valG_absent : ∀ {G : GM} {k : AV}, (∀ g ∈ G, g.1 ≠ k) → valG G k = 0
  | [], _, _ => rfl
  | g :: G, k, h => by
    rw [valG_cons, if_neg (fun hb => h g (by simp) (AV.beq_eq _ _ hb)), valG_absent fun g' hg => h g' (by simp [hg])]
theorem valG_erase : ∀ (G : GM) (i j : Nat) (k k' : AV) (u : Int) (b : Nat), G.Pairwise (fun a b => a.1 ≠ b.1) → fndG k G i = some (j, u, b) → valG (G.eraseIdx (j - i)) k' = if k' = k then 0 else valG G k'
  | [], _, _, _, _, _, _, _, h => by simp [fndG] at h
  | g :: G, i, j, k, k', u, b, hp, h => by
    rw [List.pairwise_cons] at hp
    simp only [fndG] at h
    split at h
    · rename_i hb
      have hk := AV.beq_eq _ _ hb
      simp only [Option.some.injEq, Prod.mk.injEq] at h
      obtain ⟨rfl, _⟩ := h
      rw [Nat.sub_self, List.eraseIdx_cons_zero, valG_cons, hk]
      by_cases h : k' = k
      · subst h; rw [if_pos rfl, valG_absent fun g' hg => by have := hp.1 g' hg; rw [hk] at this; exact Ne.symm this]
      · rw [if_neg h, if_neg (fun hb => h (AV.beq_eq _ _ hb).symm)]
    · rename_i hb
      obtain ⟨h1, _⟩ := fndG_at h
      rw [show j - i = (j - (i + 1)) + 1 by omega, List.eraseIdx_cons_succ, valG_cons, valG_cons, valG_erase G (i + 1) j k k' u b hp.2 h]
      by_cases hh : k' = k
      · subst hh; rw [if_neg hb, if_pos rfl, if_pos rfl]
      · rw [if_neg hh, if_neg hh]
theorem valG_del {G : GM} {k k' : AV} (hp : G.Pairwise fun a b => a.1 ≠ b.1) : valG (delG G k) k' = if k' = k then 0 else valG G k' := by
  unfold delG
  cases hf : fndG k G 0 with
  | none =>
    by_cases h : k' = k
    · subst h; rw [if_pos rfl]; exact valG_absent (fndG_none hf)
    · rw [if_neg h]
  | some x =>
    obtain ⟨j, u, b⟩ := x
    exact valG_erase G 0 j k k' u b hp hf

theorem setG_all {Q : AV → Prop} {G : GM} {k : AV} {v : Int} {c : Nat} (h : ∀ g ∈ G, Q g.1) (hk : Q k) : ∀ g ∈ setG G k v c, Q g.1 := by
  intro g hg
  unfold setG at hg
  split at hg
  · rcases List.mem_or_eq_of_mem_set hg with hg | rfl
    · exact h g hg
    · exact hk
  · rcases List.mem_append.1 hg with hg | hg
    · exact h g hg
    · simp at hg; subst hg; exact hk
theorem delG_sub {G : GM} {k : AV} : (delG G k).Sublist G := by
  unfold delG
  split
  · exact List.eraseIdx_sublist ..
  · exact List.Sublist.refl _
structure GApart (G : GM) (c : Nat) : Prop where
  ids : G.Pairwise fun a b => a.2.2 ≠ b.2.2
  keys : G.Pairwise fun a b => a.1 ≠ b.1
  lt : ∀ g ∈ G, g.2.2 < c
theorem GApart.nil (c : Nat) : GApart [] c := ⟨.nil, .nil, by simp⟩
theorem GApart.del {G : GM} {c : Nat} {k : AV} (h : GApart G c) : GApart (delG G k) c :=
  ⟨h.ids.sublist delG_sub, h.keys.sublist delG_sub, fun g hg => h.lt g (delG_sub.subset hg)⟩
theorem pair_set {α : Type} {R : α → α → Prop} {l : List α} {j : Nat} {a b : α} (h : l.Pairwise R) (hj : l[j]? = some a) (h1 : ∀ x, R x a → R x b) (h2 : ∀ x, R a x → R b x) : (l.set j b).Pairwise R := by
  rw [List.pairwise_iff_getElem] at h ⊢
  obtain ⟨hlt, he⟩ := List.getElem?_eq_some_iff.1 hj
  intro i1 i2 g1 g2 g12
  rw [List.getElem_set, List.getElem_set]
  have key := h i1 i2 (by simpa using g1) (by simpa using g2) g12
  split
  · rename_i e; subst e
    rw [if_neg (by omega)]
    rw [he] at key; exact h2 _ key
  · split
    · rename_i e; subst e
      rw [he] at key; exact h1 _ key
    · exact key
theorem GApart.set {G : GM} {c : Nat} {k : AV} {v : Int} (h : GApart G c) : GApart (setG G k v c) (clkG G k c) := by
  unfold setG clkG
  cases hf : fndG k G 0 with
  | none =>
    have hn := fndG_none hf
    refine ⟨?_, ?_, ?_⟩
    · rw [List.pairwise_append]
      exact ⟨h.ids, by simp, fun a ha b hb => by simp at hb; subst hb; have := h.lt a ha; show a.2.2 ≠ c; omega⟩
    · rw [List.pairwise_append]
      exact ⟨h.keys, by simp, fun a ha b hb => by simp at hb; subst hb; exact hn a ha⟩
    · intro g hg
      rcases List.mem_append.1 hg with hg | hg
      · have := h.lt g hg; show g.2.2 < c + 1; omega
      · simp at hg; subst hg; show c < c + 1; omega
  | some x =>
    obtain ⟨j, u, b⟩ := x
    obtain ⟨_, hj⟩ := fndG_at hf
    rw [Nat.sub_zero] at hj
    refine ⟨pair_set h.ids hj (fun _ h => h) (fun _ h => h), pair_set h.keys hj (fun _ h => h) (fun _ h => h), fun g hg => ?_⟩
    rcases List.mem_or_eq_of_mem_set hg with hg | rfl
    · exact h.lt g hg
    · exact h.lt (k, u, b) (List.mem_iff_getElem?.2 ⟨j, hj⟩)

end Go.Abs
