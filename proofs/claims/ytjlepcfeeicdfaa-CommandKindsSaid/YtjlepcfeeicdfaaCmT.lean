/- Orders' bytes: plain theory. -/
import Derived.Test.YtjlepcfeeicdfaaEnK
import Derived.Test.YtjlepcfeeicdfaaAddrB
set_option autoImplicit false
set_option maxRecDepth 100000
set_option linter.unusedVariables false
set_option linter.unusedSimpArgs false
namespace Go.Proofs.Ytjlepcfeeicdfaa.L
open Go Go.Abs

def fxD (b : List UInt8) (i : Nat) : Int := if byt b 0 = 6 then byt b (1 + i) else if i < 4 then byt b (1 + i) else 0
def dOf (b : List UInt8) : DipC := dF (decide (byt b 0 = 6)) (fxD b) (word b (frN b - 2))
def atM (l : List UInt8) (a : Nat) : Nat → Nat
  | 0 => a
  | i + 1 => atM l a i + frN (l.drop (atM l a i)) + 1
def pM (l : List UInt8) (a : Nat) : Nat → PL
  | 0 => []
  | i + 1 => pM l a i ++ [(dOf (l.drop (atM l a i)), byt l (atM l a i + frN (l.drop (atM l a i))))]
def gdM (l : List UInt8) (a i : Nat) : Prop := frOk (l.drop (atM l a i)) ∧ atM l a i + frN (l.drop (atM l a i)) < l.length
instance (l : List UInt8) (a i : Nat) : Decidable (gdM l a i) := by unfold gdM; infer_instance
@[simp] theorem pM_len (l : List UInt8) (a n : Nat) : (pM l a n).length = n := by
  induction n with
  | zero => rfl
  | succ n ih => simp [pM, ih]
theorem memB_app (P Q : PL) : memB (P ++ Q) = memB P ++ memB Q := by simp [memB]
end Go.Proofs.Ytjlepcfeeicdfaa.L
