/- frame's Read. -/
import Derived.Test.YthbneddbigclfaaPReadN
set_option autoImplicit false
set_option maxRecDepth 100000
set_option linter.unusedVariables false
set_option linter.unusedSimpArgs false
namespace Go.Proofs.Ythbneddbigclfaa.L
open Go Go.Abs

theorem sayNet {h : AHeap} {a v : AV} {l : List UInt8} (g : bOk h a = true ∧ bOf h a = l) (hn : nOf a ≤ 70368744177664) (hr : netV .u16 (netR l) = v) : Says eNet [a] h v [] := ⟨by
  show some (bOk h a && decide (nOf a ≤ 70368744177664), netV .u16 (netR (bOf h a)), h) = _
  rw [g.1, g.2, hr, decide_eq_true hn, List.append_nil]; rfl⟩
theorem say4 {h : AHeap} {a v : AV} {l : List UInt8} (g : bOk h a = true ∧ bOf h a = l) (hn : nOf a ≤ 1000000000000) (hr : v4Read l = v) : Says eFour [a] h v [] := ⟨by
  show some (bOk h a && decide (nOf a ≤ 1000000000000), v4Read (bOf h a), h) = _
  rw [g.1, g.2, hr, decide_eq_true hn, List.append_nil]; rfl⟩
theorem say6 {h : AHeap} {a v : AV} {l : List UInt8} (g : bOk h a = true ∧ bOf h a = l) (hn : nOf a ≤ 1000000000000) (hr : v6Read l = v) : Says eSix [a] h v [] := ⟨by
  show some (bOk h a && decide (nOf a ≤ 1000000000000), v6Read (bOf h a), h) = _
  rw [g.1, g.2, hr, decide_eq_true hn, List.append_nil]; rfl⟩

end Go.Proofs.Ythbneddbigclfaa.L
