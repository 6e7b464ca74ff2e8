/- The sum, the checksum, how it is changed, are as the reference says: for every input the law hands back true; each argument reads behind the call as before. Conditions: none. -/
import Derived.Test.YthkicndbaaconaaRows
import Derived.Test.YthkicndbaaconaaA14
import Derived.WalkKit
import Derived.ProofKit
import Derived.OpenShut
namespace Go.Proofs.Ythkicndbaaconaa.sumTells
open Go.ChangeShapes Go.WideShapes Go.ChangeAt Go.RowKit Go.Abs Go.Proofs.Ythkicndbaaconaa.L3
set_option linter.unusedVariables false

theorem own : ownKnob Try.prog.godebug = none := by kernel_rfl
theorem laid : laidOutB Try.prog = true := by kernel_rfl

theorem w16_of {n : Int} (h : (Lit.int .u16 n).wf = true) : w16 n := by
  simp [Lit.wf, IntKind.min, IntKind.max, IntKind.signed, IntKind.bits] at h
  unfold w16; omega
theorem w32_of {n : Int} (h : (Lit.int .u32 n).wf = true) : 0 ≤ n ∧ n < 4294967296 := by
  simp [Lit.wf, IntKind.min, IntKind.max, IntKind.signed, IntKind.bits] at h
  omega

set_option maxRecDepth 100000 in
theorem lifted (os : Os) (started : os.Started) (H : Type) (enc : TypeId × Value → H) :
    ReturnsInHanded {} Try.checked os 3 .any (Rows.sumTellsSpec.pre6 enc Try.prog Try.f3 Rows.sumTellsRow.domain false) (Rows.sumTellsSpec.post enc Try.prog Try.f3 false true false false) := by
  refine returnsInHanded_of_change (C := Try.checked) own started (by kernel_rfl) Try.func3
    (ChangeSpec.witness6 (enc := enc) (C := Try.checked) false ⟨#[], #[.slice none 0 0, .int .u32 0, .int .u16 0, .slice none 0 0, .slice none 0 0], []⟩ 8 (by kernel_rfl) (by kernel_rfl) (by kernel_rfl) (by kernel_rfl)) ?_
  intro W base args ds gs before hval0 hW hcnd _
  have hval : ∀ (j : Nat) t v, Try.f3.params[j]? = some t → args[j]? = some v → Value.okWide Try.prog W .any base t v := hval0
  have hW' := hW
  obtain ⟨p, q, hA0, hV, rfl, hfz, hnd⟩ := hW
  have hA : DataW.TrodAll enc Try.prog W 0 (fun _ => true) true Try.f3.params.toList args.toList ds p := hA0
  rw [Try.params3] at hA hval
  obtain ⟨v0, vs0, d0, ds0, p0, q0, hargs, rfl, rfl, h0, r0⟩ := trodAll_cons hA
  obtain ⟨v1, vs1, d1, ds1, p1, q1, rfl, rfl, rfl, h1, r1⟩ := trodAll_cons r0
  obtain ⟨v2, vs2, d2, ds2, p2, q2, rfl, rfl, rfl, h2, r2⟩ := trodAll_cons r1
  obtain ⟨v3, vs3, d3, ds3, p3, q3, rfl, rfl, rfl, h3, r3⟩ := trodAll_cons r2
  obtain ⟨v4, vs4, d4, ds4, p4, q4, rfl, rfl, rfl, h4, r4⟩ := trodAll_cons r3
  obtain ⟨rfl, rfl, rfl⟩ := trodAll_nil r4
  obtain rfl : args = #[v0, v1, v2, v3, v4] := by cases args; simp_all
  obtain ⟨a0, l0, c0, rfl⟩ := okWide_slice Try.underlying22 (hval 0 22 v0 rfl rfl)
  obtain ⟨a1, rfl, rfl, rfl, w1⟩ := open_int Try.underlying23 (hval 1 23 v1 rfl rfl) h1
  obtain ⟨a2, rfl, rfl, rfl, w2⟩ := open_int Try.underlying24 (hval 2 24 v2 rfl rfl) h2
  obtain ⟨a3, l3, c3, rfl⟩ := okWide_slice Try.underlying22 (hval 3 22 v3 rfl rfl)
  obtain ⟨a4, l4, c4, rfl⟩ := okWide_slice Try.underlying22 (hval 4 22 v4 rfl rfl)
  obtain ⟨s0, z0, b0, A0, wf0, sh0⟩ := (Args.nothing W).ints Try.underlying22 Try.underlying5 (by kernel_rfl) h0 rfl
  have A2 := (A0.flat (a := .int .u32 a1) fun σ => .int _ _).flat (a := .int .u16 a2) fun σ => .int _ _
  obtain ⟨s3, z3, b3, A3, wf3, sh3⟩ := A2.ints Try.underlying22 Try.underlying5 (by kernel_rfl) h3 rfl
  obtain ⟨s4, z4, b4, A4, wf4, sh4⟩ := A3.ints Try.underlying22 Try.underlying5 (by kernel_rfl) h4 rfl
  obtain ⟨b0', n0, k0, rfl, le0, g0⟩ := came wf0 sh0
  obtain ⟨b3', n3, k3, rfl, le3, g3⟩ := came wf3 sh3
  obtain ⟨b4', n4, k4, rfl, le4, g4⟩ := came wf4 sh4
  obtain ⟨hh, hget⟩ := get_of_val (Go.Proofs.Ythkicndbaaconaa.L3.law3 (ex := true) (e1 := true) (e2 := true) (c := k0) (c1 := k3) (c2 := k4) (hp := [.cells (intsA .u8 z0) 1 .far none, .cells (intsA .u8 z3) 1 .far none, .cells (intsA .u8 z4) 1 .far none])
    (g0 _ rfl) (g3 _ rfl) (g4 _ rfl) (w32_of w1) (w16_of w2) le4)
  refine (calls_true Go.Proofs.Ythkicndbaaconaa.L3.r3 hget A4.rel A4.vrs).mono fun e W' ⟨he, hb⟩ => ?_
  subst he
  exact ⟨_, rfl, law_post hW' rfl (fun gs' hg => by subst hg; rfl) (by kernel_rfl) Try.underlying4 laid (by rw [Try.params3]; intro t ht; simp at ht; rcases ht with rfl | rfl | rfl | rfl <;> exact ⟨by kernel_rfl, of_decide_eq_true (by kernel_rfl)⟩) hb⟩

theorem proved : Rows.SumTellsSaid :=
  OpenClaim.holds_of_wide 3 Try.f3 rfl rfl rfl rfl rfl rfl rfl ⟨rfl, rfl, rfl, rfl, rfl⟩ rfl rfl rfl rfl rfl (by kernel_rfl) Try.func3 (by kernel_rfl)
    (of_decide_eq_true (by kernel_rfl)) (by unfold Func.isWrapper; first | (rw [if_pos (by decide +kernel)]; kernel_rfl) | (rw [if_neg (by decide +kernel)]; exact ⟨rfl, rfl⟩))
    (fun os started H enc _ => lifted os started H enc)
end Go.Proofs.Ythkicndbaaconaa.sumTells
