/- RewriteBack: for every input the law hands back true; each argument reads behind the call as before. Conditions: none. -/
import Derived.Test.YtnchnjkakddhlaaRows
import Derived.Test.YtnchnjkakddhlaaRewriteBack0
import Derived.Test.YtnchnjkakddhlaaBase
import Derived.WalkKit
import Derived.ProofKit
import Derived.OpenShut
namespace Go.Proofs.Ytnchnjkakddhlaa.rewriteBack
open Go.ChangeShapes Go.WideShapes Go.ChangeAt Go.RowKit Go.Abs Go.Proofs.Ytnchnjkakddhlaa.L
set_option linter.unusedVariables false

theorem own : ownKnob Try.prog.godebug = none := by kernel_rfl
theorem zBP : laidOutB Try.prog = true := by kernel_rfl

set_option maxRecDepth 100000 in
theorem zAA (os : Os) (started : os.Started) (H : Type) (enc : TypeId × Value → H) :
    ReturnsInHanded {} Try.checked os 5 .any (Rows.rewriteBackSpec.pre6 enc Try.prog Try.f5 Rows.rewriteBackRow.domain false) (Rows.rewriteBackSpec.post enc Try.prog Try.f5 false true false false) := by
  refine returnsInHanded_of_change (C := Try.checked) own started (by kernel_rfl) Try.func5
    (ChangeSpec.witness6 (enc := enc) (C := Try.checked) false ⟨#[], #[.int .i64 0, .bool false, .bool false, .slice none 0 0, .int .i64 0, .int .i64 0], []⟩ 8 (by kernel_rfl) (by kernel_rfl) (by kernel_rfl) (by kernel_rfl)) ?_
  intro W base args ds gs before hval0 hW hcnd _
  have hval : ∀ (j : Nat) t v, Try.f5.params[j]? = some t → args[j]? = some v → Value.okWide Try.prog W .any base t v := hval0
  have hW' := hW
  obtain ⟨p, q, hA0, hV, rfl, hfz, hnd⟩ := hW
  have hA : DataW.TrodAll enc Try.prog W 0 (fun _ => true) true Try.f5.params.toList args.toList ds p := hA0
  rw [Try.params5] at hA hval
  obtain ⟨v0, vs0, d0, ds0, p0, q0, hargs, rfl, rfl, h0, r0⟩ := trodAll_cons hA
  obtain ⟨v1, vs1, d1, ds1, p1, q1, rfl, rfl, rfl, h1, r1⟩ := trodAll_cons r0
  obtain ⟨v2, vs2, d2, ds2, p2, q2, rfl, rfl, rfl, h2, r2⟩ := trodAll_cons r1
  obtain ⟨v3, vs3, d3, ds3, p3, q3, rfl, rfl, rfl, h3, r3⟩ := trodAll_cons r2
  obtain ⟨v4, vs4, d4, ds4, p4, q4, rfl, rfl, rfl, h4, r4⟩ := trodAll_cons r3
  obtain ⟨v5, vs5, d5, ds5, p5, q5, rfl, rfl, rfl, h5, r5⟩ := trodAll_cons r4
  obtain ⟨rfl, rfl, rfl⟩ := trodAll_nil r5
  obtain rfl : args = #[v0, v1, v2, v3, v4, v5] := by cases args; simp_all
  obtain ⟨x0, w0, A0⟩ := (Args.nothing W).aInt (by kernel_rfl) Try.underlying3 (hval 0 3 v0 rfl rfl) h0
  replace w0 := zqO w0
  obtain ⟨x1, A1⟩ := A0.aBool (by kernel_rfl) Try.underlying4 (hval 1 4 v1 rfl rfl) h1
  obtain ⟨x2, A2⟩ := A1.aBool (by kernel_rfl) Try.underlying4 (hval 2 4 v2 rfl rfl) h2
  obtain ⟨s3, x3, w3, A3⟩ := A2.aBytes Try.underlying22 (by kernel_rfl) (hval 3 22 v3 rfl rfl) h3
  obtain ⟨x4, w4, A4⟩ := A3.aInt (by kernel_rfl) Try.underlying3 (hval 4 3 v4 rfl rfl) h4
  replace w4 := zqO w4
  obtain ⟨x5, w5, A5⟩ := A4.aInt (by kernel_rfl) Try.underlying3 (hval 5 3 v5 rfl rfl) h5
  replace w5 := zqO w5
  obtain ⟨hh, hrun⟩ := zjW x0 x1 x2 x3 x4 x5 w0 w3 w4 w5
  refine (zrO (args := #[v0, v1, v2, v3, v4, v5]) A5 hrun).mono fun e W' ⟨he, hb⟩ => ?_
  subst he
  exact ⟨_, rfl, zuV hW' rfl (fun gs' hg => by subst hg; rfl) (by kernel_rfl) Try.underlying4 zBP (by rw [Try.params5]; intro t ht; simp at ht; repeat (first | (rcases ht with rfl | ht; exact ⟨by kernel_rfl, of_decide_eq_true (by kernel_rfl)⟩) | (subst ht; exact ⟨by kernel_rfl, of_decide_eq_true (by kernel_rfl)⟩))) hb⟩

theorem proved : Rows.RewriteBackSaid :=
  OpenClaim.holds_of_wide 5 Try.f5 rfl rfl rfl rfl rfl rfl rfl ⟨rfl, rfl, rfl, rfl, rfl⟩ rfl rfl rfl rfl rfl (by kernel_rfl) Try.func5 (by kernel_rfl)
    (of_decide_eq_true (by kernel_rfl)) (by unfold Func.isWrapper; first | (rw [if_pos (by decide +kernel)]; kernel_rfl) | (rw [if_neg (by decide +kernel)]; exact ⟨rfl, rfl⟩))
    (fun os started H enc _ => zAA os started H enc)
end Go.Proofs.Ytnchnjkakddhlaa.rewriteBack
