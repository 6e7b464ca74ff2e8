/- frame's tagged. -/
import Derived.Test.YthbneddbigclfaaGoodF
set_option autoImplicit false
set_option maxRecDepth 100000
set_option linter.unusedVariables false
set_option linter.unusedSimpArgs false
namespace Go.Proofs.Ythbneddbigclfaa.L
open Go Go.Abs
open Go.IntKind
open Go.Abs.AV (int)
open Go.Abs.ABlk (cells)
theorem nfTaggedF {R : Type} (l : List UInt8) (K : AV → Option R) :
 qrun Try.prog [] 100 4 [(6, .bool false)] [] 60 [slB 0 l] [farB l] (fun v _ => K v) =
 (if Int.ofNat 0 ≤ Int.ofNat 12 ∧ 12 < (l.length : Int) then
 (if isIntV u8 (bys l)[12]? = true then
 (if (intV (bys l)[12]? == 129) = false then
 K (AV.bool false)
 else none) else none) else none) := by
  kernel_rfl

theorem nfTaggedT {R : Type} (l : List UInt8) (b : Bool) (K : AV → Option R) :
 qrun Try.prog [] 100 4 [(6, .bool true), (10, .bool b)] [] 60 [slB 0 l] [farB l] (fun v _ => K v) =
 (if Int.ofNat 0 ≤ Int.ofNat 12 ∧ 12 < (l.length : Int) then
 (if isIntV u8 (bys l)[12]? = true then
 (if (intV (bys l)[12]? == 129) = true then
 (if Int.ofNat 0 ≤ Int.ofNat 13 ∧ 13 < (l.length : Int) then
 (if isIntV u8 (bys l)[13]? = true then
 K (AV.bool (intV (bys l)[13]? == 0))
 else none) else none) else none) else none) else none) := by
  kernel_rfl


def eTagged : GEnt := fun args h => match args with
  | [b] => some (bOk h b && decide (14 ≤ nOf b), .bool (decide (word (bOf h b) 12 = 33024)), h)
  | _ => none
end Go.Proofs.Ythbneddbigclfaa.L
