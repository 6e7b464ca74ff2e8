/- bazaaralike.Ints: its contract, of rows that are the same. -/
import Derived.Test.YtnchnjkakddhlaaIntsN
import Derived.Test.YtnchnjkakddhlaaGcKit
set_option autoImplicit false
set_option maxRecDepth 100000
set_option linter.unusedVariables false
set_option linter.unusedSimpArgs false
namespace Go.Proofs.Ytnchnjkakddhlaa.L
open Go Go.Abs

theorem runInts {l : List Int} (hl : l.length ≤ 10000000) : Runs Try.prog 10 [.sl (some (0, 0)) l.length 0 false, .sl (some (1, 0)) l.length 0 false] (hInts l) (.bool true) (hInts l) := by
  have key : True → ∃ k, GReach (roundG Try.prog (deepT Try.prog [] 100 4) (lsT noT) IL mInts) 2 k (vInts l.length 0) (hInts l) (.exit 0) (vInts l.length l.length) (hInts l) := by
    intro _
    refine loop_T (fun i => (vInts l.length i, hInts l)) (N := l.length) (by simp) (fun i hi => ⟨_, _, _, (nfInts1 l l.length i).trans ?_, Gc.refl⟩) ⟨_, _, _, (nfIntss l _ _).trans (if_pos (by simp)), Gc.refl⟩
    have e0 : 0 + (i : Int).toNat * 1 = i := by omega
    have e5 : IntKind.i64.wrap ((i : Int) + 1) = ((i + 1 : Nat) : Int) := by rw [wrapI64 (by omega)]; omega
    rw [e0, get_ints hi, e5]
    repeat (first | (refine (if_pos ?_).trans ?_; · first | omega | (simp [isIntV]; done) | (simp; omega)))
    rfl
  have lp : loopsOf (bodyOf Try.prog 10) = [IL] := by kernel_rfl
  refine Runs.ofT (find_nil _) (F := 100) (n := 4) (pr := []) (only (k := 4) lp (fixC_T (find_nil _) (F := 100) (n := 4) (LS := noT) (noLoops (by kernel_rfl)) key)) ?_
  rw [nfInts]
  repeat (first | (refine (if_pos ?_).trans ?_; · first | exact cdec_true.2 ⟨trivial, rfl, rfl⟩ | (simp; done)) | (refine (if_neg ?_).trans ?_; · (simp; done)))
  rfl

inductive IntsR : List AV → AHeap → AV → AHeap → Prop
  | mk (x : List Int) (h : AHeap) (a b : AV) (ga : rowI h a x) (gb : rowI h b x) (hx : x.length ≤ 10000000) : IntsR [a, b] h (.bool true) []
theorem sInts (L : List (Nat × AV × AHeap)) : SoundE Try.prog 10 (entF (eRel IntsR L)) := by
  refine relR_sound (fun args h v new hR => ?_) L
  cases hR with
  | mk x _ a b ga gb hx =>
  exact ⟨_, _, .cons _ _ _ _ _ _ _ (rowI_canon ga 0) (.cons _ _ _ _ _ _ _ (rowI_canon gb 1) (.nil _)), _, _, runInts hx, [], .flat _ _ rfl, ksOk0⟩

end Go.Proofs.Ytnchnjkakddhlaa.L
