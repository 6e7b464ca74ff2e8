/- Frames in frames. -/
import Derived.Test.YtjkkhbeidhpghaaEncIn
import Derived.Test.YtjkkhbeidhpghaaCutKit
set_option autoImplicit false
set_option linter.unusedVariables false
namespace Go.Proofs.Ytjkkhbeidhpghaa.L
open Go Go.Abs
def prE (v : Bool) : Int := if v = true then 41 else 4
theorem withR_E (v d6 tag : Bool) (R : List UInt8) : withR (bldE v tag ++ R) (kdOf d6) = bldE d6 tag := by
  unfold withR
  rw [net_E, if_pos rfl]
  cases v <;> cases d6 <;> cases tag <;> rfl
theorem mkO_ip (d6 v : Bool) (m : Int) {L : Nat} (hL : L ≤ 65000) : ∃ C0, (0 ≤ C0 ∧ C0 < 65536) ∧ mkO d6 m (prE v) L = ipH d6 (prE v) L C0 (dAdrB 150) (dAdrB m) ∧ (d6 = false → chkI (ipH false (prE v) L C0 (dAdrB 150) (dAdrB m)) = 0) := by
  cases d6
  · have mk := (pkO_make (n := L) (pr := prE v) (X := dAdrB 150) (Y := dAdrB m) (S := (dAdrB 150).take 4) (D := (dAdrB m).take 4) (by omega) rfl rfl).2 rfl rfl
    refine ⟨_, chkI_range _, ?_, fun _ => hdO_make (w := 0) (L := 20 + L) (p := u8i (prE v)) (O := []) (by omega) rfl rfl⟩
    show make4 (dAdr false 150) (dAdr false m) (prE v) L = _
    rw [dAdr_B, dAdr_B, mk]; rfl
  · refine ⟨0, by omega, ?_, fun h => by simp at h⟩
    show make6 (dAdr true 150) (dAdr true m) (prE v) L = _
    rw [dAdr_B, dAdr_B]
    unfold make6
    rw [if_pos ⟨rfl, rfl, by omega, by omega⟩, adrB_T, adrB_T]
    rfl
theorem prE_b (v : Bool) : ((u8i (prE v)).toNat : Int) = prE v ∧ prE v ≠ 6 ∧ prE v ≠ 17 ∧ prE v ≠ 44 := by cases v <;> decide
def outF (d6 tag v : Bool) (m C : Int) (I : List UInt8) : List UInt8 := bldE d6 tag ++ (ipH d6 (prE v) I.length C (dAdrB 150) (dAdrB m) ++ I)
end Go.Proofs.Ytjkkhbeidhpghaa.L
