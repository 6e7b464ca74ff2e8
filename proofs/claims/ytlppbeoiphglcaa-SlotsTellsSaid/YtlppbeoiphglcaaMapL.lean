/- Maps whose entries are letters: what is looked up behind a change. -/
import Derived.Test.YtlppbeoiphglcaaMapKit
set_option autoImplicit false
set_option linter.unusedVariables false
set_option linter.unusedSimpArgs false
namespace Go.Abs

instance : DecidableEq AV := fun a b => decidable_of_iff (AV.beq a b = true) ⟨AV.beq_eq _ _, fun h => h ▸ AV.beq_self _⟩
structure GApart (G : GM) (c : Nat) : Prop where
  ids : G.Pairwise fun a b => a.2.2 ≠ b.2.2
  keys : G.Pairwise fun a b => a.1 ≠ b.1
  lt : ∀ g ∈ G, g.2.2 < c
theorem GApart.nil (c : Nat) : GApart [] c := ⟨.nil, .nil, by simp⟩
theorem pair_set {α : Type} {R : α → α → Prop} {l : List α} {j : Nat} {a b : α} (h : l.Pairwise R) (hj : l[j]? = some a) (h1 : ∀ x, R x a → R x b) (h2 : ∀ x, R a x → R b x) : (l.set j b).Pairwise R := by
  rw [List.pairwise_iff_getElem] at h ⊢
  obtain ⟨hlt, he⟩ := List.getElem?_eq_some_iff.1 hj
  intro i1 i2 g1 g2 g12
  rw [List.getElem_set, List.getElem_set]
  have key := h i1 i2 (by simpa using g1) (by simpa using g2) g12
  split
  · rename_i e; subst e
    rw [if_neg (by omega)]
    rw [he] at key; exact h2 _ key
  · split
    · rename_i e; subst e
      rw [he] at key; exact h1 _ key
    · exact key
theorem GApart.set {G : GM} {c : Nat} {k : AV} {v : Int} (h : GApart G c) : GApart (setG G k v c) (clkG G k c) := by
  unfold setG clkG
  cases hf : fndG k G 0 with
  | none =>
    have hn := fndG_none hf
    refine ⟨?_, ?_, ?_⟩
    · rw [List.pairwise_append]
      exact ⟨h.ids, by simp, fun a ha b hb => by simp at hb; subst hb; have := h.lt a ha; show a.2.2 ≠ c; omega⟩
    · rw [List.pairwise_append]
      exact ⟨h.keys, by simp, fun a ha b hb => by simp at hb; subst hb; exact hn a ha⟩
    · intro g hg
      rcases List.mem_append.1 hg with hg | hg
      · have := h.lt g hg; show g.2.2 < c + 1; omega
      · simp at hg; subst hg; show c < c + 1; omega
  | some x =>
    obtain ⟨j, u, b⟩ := x
    obtain ⟨_, hj⟩ := fndG_at hf
    rw [Nat.sub_zero] at hj
    refine ⟨pair_set h.ids hj (fun _ h => h) (fun _ h => h), pair_set h.keys hj (fun _ h => h) (fun _ h => h), fun g hg => ?_⟩
    rcases List.mem_or_eq_of_mem_set hg with hg | rfl
    · exact h.lt g hg
    · exact h.lt (k, u, b) (List.mem_iff_getElem?.2 ⟨j, hj⟩)

end Go.Abs
