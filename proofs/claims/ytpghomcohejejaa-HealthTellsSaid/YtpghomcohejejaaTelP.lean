/- Health's state, plainly: a list of DIPs, a count for each. -/
import Derived.Test.YtpghomcohejejaaTelN
set_option autoImplicit false
set_option maxRecDepth 100000
set_option linter.unusedVariables false
set_option linter.unusedSimpArgs false
namespace Go.Proofs.Ytpghomcohejejaa.L
open Go Go.Abs

theorem beq_dip (d e : DipC) : AV.beq (.agg d.cells) (.agg e.cells) = decide (d = e) := by
  by_cases h : d = e
  · subst h; rw [AV.beq_self, decide_eq_true rfl]
  · rw [decide_eq_false h, Bool.eq_false_iff]
    intro hb
    have := AV.beq_eq _ _ hb
    injection this with this
    exact h (cells_inj this)
theorem eq_dipL (v : Bool) (a0 a1 a2 a3 a4 a5 a6 a7 a8 a9 a10 a11 a12 a13 a14 a15 p : Int) (w : Bool) (c0 c1 c2 c3 c4 c5 c6 c7 c8 c9 c10 c11 c12 c13 c14 c15 q : Int) :
    aeqIn Try.prog 10000 37 (.agg (dipV v a0 a1 a2 a3 a4 a5 a6 a7 a8 a9 a10 a11 a12 a13 a14 a15 p)) (.agg (dipV w c0 c1 c2 c3 c4 c5 c6 c7 c8 c9 c10 c11 c12 c13 c14 c15 q)) =
    some (((v == w) && (((a0 == c0) && ((a1 == c1) && ((a2 == c2) && ((a3 == c3) && ((a4 == c4) && ((a5 == c5) && ((a6 == c6) && ((a7 == c7) && ((a8 == c8) && ((a9 == c9) && ((a10 == c10) && ((a11 == c11) && ((a12 == c12) && ((a13 == c13) && ((a14 == c14) && ((a15 == c15) && true)))))))))))))))) && true)) && ((p == q) && true)) := by
  kernel_rfl
theorem eq_dip (d e : DipC) : aeqIn Try.prog 10000 37 (.agg d.cells) (.agg e.cells) = some (decide (d = e)) := by
  obtain ⟨v, a, p, ha⟩ := d
  obtain ⟨w, c, q, hc⟩ := e
  obtain ⟨a0, a1, a2, a3, a4, a5, a6, a7, a8, a9, a10, a11, a12, a13, a14, a15, rfl⟩ := sixteen ha
  obtain ⟨c0, c1, c2, c3, c4, c5, c6, c7, c8, c9, c10, c11, c12, c13, c14, c15, rfl⟩ := sixteen hc
  refine (eq_dipL _ _ _ _ _ _ _ _ _ _ _ _ _ _ _ _ _ _ _ _ _ _ _ _ _ _ _ _ _ _ _ _ _ _ _ _).trans ?_
  congr 1
  rw [Bool.eq_iff_iff]
  simp only [Bool.and_eq_true, beq_iff_eq, decide_eq_true_eq, DipC.mk.injEq, List.cons.injEq, and_true]
  constructor <;> intro h <;> simp [h]
theorem ok_dipL (v : Bool) (a0 a1 a2 a3 a4 a5 a6 a7 a8 a9 a10 a11 a12 a13 a14 a15 p : Int) : akeyOk Try.prog 10000 37 (.agg (dipV v a0 a1 a2 a3 a4 a5 a6 a7 a8 a9 a10 a11 a12 a13 a14 a15 p)) = true := by
  kernel_rfl
theorem ok_dip (d : DipC) : akeyOk Try.prog 10000 37 (.agg d.cells) = true := by
  obtain ⟨v, a, p, ha⟩ := d
  obtain ⟨a0, a1, a2, a3, a4, a5, a6, a7, a8, a9, a10, a11, a12, a13, a14, a15, rfl⟩ := sixteen ha
  exact ok_dipL _ _ _ _ _ _ _ _ _ _ _ _ _ _ _ _ _ _

def GDip (G : GM) : Prop := ∀ g ∈ G, ∃ d : DipC, g.1 = .agg d.cells
theorem dipKey {G : GM} (h : GDip G) (d : DipC) : KeyOk Try.prog 37 (.agg d.cells) G where
  eq := fun g hg => by
    obtain ⟨e, he⟩ := h g hg
    rw [he, eq_dip]
    rw [beq_dip]
    congr 1
    by_cases hh : d = e
    · simp [hh]
    · rw [decide_eq_false hh, decide_eq_false (Ne.symm hh)]
  ok := ok_dip d
  fl := by
    obtain ⟨v, a, p, ha⟩ := d
    obtain ⟨a0, a1, a2, a3, a4, a5, a6, a7, a8, a9, a10, a11, a12, a13, a14, a15, rfl⟩ := sixteen ha
    rfl

end Go.Proofs.Ytpghomcohejejaa.L
