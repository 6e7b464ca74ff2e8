/- Maps whose entries are letters: a list of keys, whole numbers, entry numbers. -/
import Derived.Test.YtlppbeoiphglcaaGcKit
import Derived.Test.YtlppbeoiphglcaaAddrB
set_option autoImplicit false
set_option linter.unusedVariables false
set_option linter.unusedSimpArgs false
namespace Go.Abs
variable {P : Program}

abbrev GM := List (AV × Int × Nat)
def fndG (k : AV) : GM → Nat → Option (Nat × Int × Nat)
  | [], _ => none
  | g :: G, i => if AV.beq g.1 k = true then some (i, g.2) else fndG k G (i + 1)
theorem fndG_at {k : AV} : ∀ {G : GM} {i j : Nat} {v : Int} {b : Nat}, fndG k G i = some (j, v, b) → i ≤ j ∧ G[j - i]? = some (k, v, b)
  | [], _, _, _, _, h => by simp [fndG] at h
  | g :: G, i, j, v, b, h => by
    unfold fndG at h
    split at h
    · rename_i hb
      have := AV.beq_eq _ _ hb
      obtain ⟨k', v', b'⟩ := g
      simp only [Option.some.injEq, Prod.mk.injEq] at h this
      obtain ⟨rfl, rfl, rfl⟩ := h
      subst this
      simp
    · obtain ⟨h1, h2⟩ := fndG_at h
      refine ⟨by omega, ?_⟩
      rw [show j - i = (j - (i + 1)) + 1 by omega]
      simpa using h2
def setG (G : GM) (k : AV) (v : Int) (c : Nat) : GM := match fndG k G 0 with
  | some x => G.set x.1 (k, v, x.2.2)
  | none => G ++ [(k, v, c)]
def clkG (G : GM) (k : AV) (c : Nat) : Nat := match fndG k G 0 with
  | some _ => c
  | none => c + 1
theorem fndG_none {k : AV} : ∀ {G : GM} {i : Nat}, fndG k G i = none → ∀ g ∈ G, g.1 ≠ k
  | [], _, _, g, hg => by simp at hg
  | a :: G, i, h, g, hg => by
    unfold fndG at h
    split at h
    · cases h
    · rename_i hb
      rcases List.mem_cons.1 hg with rfl | hg
      · rintro rfl; exact hb (AV.beq_self _)
      · exact fndG_none h g hg
end Go.Abs
