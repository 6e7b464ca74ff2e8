/- The reference's Valid of a DIP's address. -/
import Derived.Test.YtjlepcfeeicdfaaPVal
import Derived.Test.YtjlepcfeeicdfaaAddrB
set_option autoImplicit false
set_option maxRecDepth 100000
set_option linter.unusedVariables false
set_option linter.unusedSimpArgs false
namespace Go.Proofs.Ytjlepcfeeicdfaa.L
open Go Go.Abs

noncomputable def eValR : GEnt := fun args h => match args with
  | [.agg cs] => some (cdec (IsAdr cs), .bool (opq (adrValid cs)), h)
  | _ => none
theorem sRVald : SoundE Try.prog 15 (entF eValR) := by
  refine canonV_sound fun args h v h' hg => ?_
  unfold eValR at hg
  split at hg
  · rename_i cs
    simp only [Option.some.injEq, Prod.mk.injEq] at hg
    obtain ⟨hw, rfl, rfl⟩ := hg
    rw [cdec_true] at hw
    cases hw with
    | mk d _ hd =>
    obtain ⟨v, b, pp, hb⟩ := d
    subst hd
    obtain ⟨x0, x1, x2, x3, x4, x5, x6, x7, x8, x9, x10, x11, x12, x13, x14, x15, rfl⟩ := sixteen hb
    rw [opq_eq]
    show _ ∧ _ ∧ _
    refine ⟨rfl, rfl, [.agg (adrV v x0 x1 x2 x3 x4 x5 x6 x7 x8 x9 x10 x11 x12 x13 x14 x15)], [], .cons _ _ _ _ _ _ _ (.flat _ _ rfl) (.nil _), ?_⟩
    show ∃ h', Runs Try.prog 15 _ _ (.bool (adrValid (adrV v x0 x1 x2 x3 x4 x5 x6 x7 x8 x9 x10 x11 x12 x13 x14 x15))) h'
    clear hb
    cases v
    · refine Runs.valT0 (find_nil _) (F := 100) (n := 6) (pr := []) ?_
      rw [nfRValidF]
      have e : adrValid (adrV false x0 x1 x2 x3 x4 x5 x6 x7 x8 x9 x10 x11 x12 x13 x14 x15) = [AV.int .u8 x4, AV.int .u8 x5, AV.int .u8 x6, AV.int .u8 x7, AV.int .u8 x8, AV.int .u8 x9, AV.int .u8 x10, AV.int .u8 x11, AV.int .u8 x12, AV.int .u8 x13, AV.int .u8 x14, AV.int .u8 x15].all isZeroV := rfl
      rw [e]
      by_cases h4 : x4 = 0
      case neg => exact (if_pos (by simpa using h4)).trans (by simp [h4])
      refine (if_neg (by simpa using h4)).trans ?_
      by_cases h5 : x5 = 0
      case neg => exact (if_pos (by simpa using h5)).trans (by simp [h5])
      refine (if_neg (by simpa using h5)).trans ?_
      by_cases h6 : x6 = 0
      case neg => exact (if_pos (by simpa using h6)).trans (by simp [h6])
      refine (if_neg (by simpa using h6)).trans ?_
      by_cases h7 : x7 = 0
      case neg => exact (if_pos (by simpa using h7)).trans (by simp [h7])
      refine (if_neg (by simpa using h7)).trans ?_
      by_cases h8 : x8 = 0
      case neg => exact (if_pos (by simpa using h8)).trans (by simp [h8])
      refine (if_neg (by simpa using h8)).trans ?_
      by_cases h9 : x9 = 0
      case neg => exact (if_pos (by simpa using h9)).trans (by simp [h9])
      refine (if_neg (by simpa using h9)).trans ?_
      by_cases h10 : x10 = 0
      case neg => exact (if_pos (by simpa using h10)).trans (by simp [h10])
      refine (if_neg (by simpa using h10)).trans ?_
      by_cases h11 : x11 = 0
      case neg => exact (if_pos (by simpa using h11)).trans (by simp [h11])
      refine (if_neg (by simpa using h11)).trans ?_
      by_cases h12 : x12 = 0
      case neg => exact (if_pos (by simpa using h12)).trans (by simp [h12])
      refine (if_neg (by simpa using h12)).trans ?_
      by_cases h13 : x13 = 0
      case neg => exact (if_pos (by simpa using h13)).trans (by simp [h13])
      refine (if_neg (by simpa using h13)).trans ?_
      by_cases h14 : x14 = 0
      case neg => exact (if_pos (by simpa using h14)).trans (by simp [h14])
      refine (if_neg (by simpa using h14)).trans ?_
      by_cases h15 : x15 = 0
      case neg => exact (if_pos (by simpa using h15)).trans (by simp [h15])
      refine (if_neg (by simpa using h15)).trans ?_
      simp [h4, h5, h6, h7, h8, h9, h10, h11, h12, h13, h14, h15]
    · refine Runs.valT0 (find_nil _) (F := 100) (n := 6) (pr := []) ?_
      rw [nfRValidT]
      rfl
  · simp at hg

end Go.Proofs.Ytjlepcfeeicdfaa.L
