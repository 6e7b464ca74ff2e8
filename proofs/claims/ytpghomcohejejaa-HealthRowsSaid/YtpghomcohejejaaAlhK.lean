/- bazaarlaw23's all: its contract. -/
import Derived.Test.YtpghomcohejejaaAlhN
set_option autoImplicit false
set_option maxRecDepth 100000
set_option linter.unusedVariables false
set_option linter.unusedSimpArgs false
namespace Go.Proofs.Ytpghomcohejejaa.L
open Go Go.Abs

def illC (x : DipC) (v : Int) : List AV := x.cells ++ [.int .i64 v]
@[simp] theorem illC_length (x : DipC) (v : Int) : (illC x v).length = 19 := by simp [illC]
def itI (S : HS) (P : List DipC) : List AV := P.flatMap fun d => illC d (cntS S d)
@[simp] theorem itI_length (S : HS) : ∀ P : List DipC, (itI S P).length = P.length * 19
  | [] => rfl
  | d :: P => by
    show (illC d (cntS S d) ++ itI S P).length = _
    rw [List.length_append, illC_length, itI_length S P, List.length_cons]; omega
theorem set_self {h : AHeap} {i : Nat} {b : ABlk} (hb : h[i]? = some b) : h.set i b = h := by
  obtain ⟨hlt, he⟩ := List.getElem?_eq_some_iff.1 hb
  rw [← he, List.set_getElem_self]
end Go.Proofs.Ytpghomcohejejaa.L
