/- Frames that are built: all that is told of them. -/
import Derived.Test.YtjkkhbeidhpghaaGoodF
import Derived.Test.YtjkkhbeidhpghaaSgbKit
set_option autoImplicit false
set_option linter.unusedVariables false
namespace Go.Proofs.Ytjkkhbeidhpghaa.L
open Go Go.Abs
theorem adrWf_17 {cs : List AV} (h : adrWf cs = true) : cs.length = 17 := by
  obtain ⟨v, X, rfl, hX⟩ := adrWf_B h
  simp [hX]
theorem rdSrc_wf (l : List UInt8) : adrWf (rdSrc l) = true := by unfold rdSrc; split; exact adr16_wf _ _; exact adr4_wf _ _
theorem rdDst_wf (l : List UInt8) : adrWf (rdDst l) = true := by unfold rdDst; split; exact adr16_wf _ _; exact adr4_wf _ _
theorem vw_facts {l : List UInt8} {v : Bool} {A S E p sp dp fl : Int} {X Y : List AV} (hr : readR l = 0) (hv : vRead l = .tup [.agg (viewOf v A S E p X Y sp dp fl), .int .i64 0]) (hX : adrWf X = true) (hY : adrWf Y = true) :
    isV6 l = v ∧ (netR l).1 = A ∧ (netR l).1 + rdS l = S ∧ (netR l).1 + rdE l = E ∧ rdP l = p ∧ rdSrc l = X ∧ rdDst l = Y ∧ word (rdG l) 0 = sp ∧ word (rdG l) 2 = dp ∧ segF (rdP l) (rdG l) = fl := by
  rw [vRead_Y hr] at hv
  simp only [AV.tup.injEq, List.cons.injEq, AV.agg.injEq, and_true] at hv
  unfold viewOf at hv
  have h1 := List.append_inj hv (by simp [adrWf_17 hX, adrWf_17 hY, adrWf_17 (rdSrc_wf l), adrWf_17 (rdDst_wf l)])
  have h2 := List.append_inj h1.1 (by simp [adrWf_17 hX, adrWf_17 (rdSrc_wf l)])
  have h3 := List.append_inj h2.1 (by simp)
  have a := h3.1
  have b := h1.2
  simp only [List.cons.injEq, AV.bool.injEq, AV.int.injEq, true_and, and_true] at a b
  exact ⟨a.1, a.2.1, a.2.2.1, a.2.2.2.1, a.2.2.2.2, h3.2, h2.2, b.1, b.2.1, b.2.2⟩
theorem bldF_len (v u tag bare : Bool) (n : Int) (fl : UInt8) (d : List UInt8) (pad : Nat) (hd : d.length ≤ 2000) : (bldF v u tag bare n fl d pad).length = frA tag + frH v + (hdn u + d.length) + pad := by
  have hl : (bldG v u bare n fl d).length = hdn u + d.length := segB_length _ _ _ _ _ _
  obtain ⟨C0, h0, h1, _⟩ := bldF_frm v u tag bare n fl d pad hd
  rw [h1, frm_length rfl rfl, hl, List.length_replicate]
end Go.Proofs.Ytjkkhbeidhpghaa.L
