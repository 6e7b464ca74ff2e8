/- Segments that were built: how they are read, their sums, another port and address. -/
import Derived.Test.YtjkkhbeidhpghaaFrmKit
set_option autoImplicit false
set_option linter.unusedVariables false
set_option linter.unusedSimpArgs false
namespace Go.Proofs.Ytjkkhbeidhpghaa.L
open Go Go.Abs

/-! ### What was built -/

theorem okS (v : Bool) (n : Int) : okY v (kSrcB n) := ⟨rfl, fun _ => rfl⟩
theorem okD (v : Bool) : okY v kDstB := ⟨rfl, fun _ => rfl⟩
theorem bldH_ip (v u : Bool) (n : Int) {L : Nat} (hL : L ≤ 65515) : ∃ C0, (0 ≤ C0 ∧ C0 < 65536) ∧ bldH v u n L = ipH v (prt u) L C0 (kSrcB n) kDstB ∧ (v = false → chkI (ipH false (prt u) L C0 (kSrcB n) kDstB) = 0) := by
  cases v
  · have mk := (pkO_make (n := L) (pr := prt u) (X := kSrcB n) (Y := kDstB) (S := (kSrcB n).take 4) (D := kDstB.take 4) (by omega) rfl rfl).2 rfl rfl
    refine ⟨_, chkI_range _, ?_, fun _ => hdO_make (w := 0) (L := 20 + L) (p := u8i (prt u)) (O := []) (by omega) rfl rfl⟩
    show make4 (kSrc false n) (kDst false) (prt u) L = _
    rw [kSrc_B, kDst_B, mk]; rfl
  · refine ⟨0, by omega, ?_, fun h => by simp at h⟩
    show make6 (kSrc true n) (kDst true) (prt u) L = _
    rw [kSrc_B, kDst_B]
    unfold make6
    rw [if_pos ⟨rfl, rfl, by omega, by omega⟩, adrB_T, adrB_T]
    rfl
end Go.Proofs.Ytjkkhbeidhpghaa.L
