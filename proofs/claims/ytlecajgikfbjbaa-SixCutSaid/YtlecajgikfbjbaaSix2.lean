/- ipsix's Dest and Make, and the reference's. -/
import Derived.Test.YtlecajgikfbjbaaSix
import Derived.Test.YtlecajgikfbjbaaRBytes
import Derived.Test.YtlecajgikfbjbaaClone
import Derived.Test.YtlecajgikfbjbaaPut16
set_option autoImplicit false
set_option maxRecDepth 100000
set_option linter.unusedVariables false
set_option linter.unusedSimpArgs false
namespace Go.Proofs.Ytlecajgikfbjbaa.L
open Go Go.Abs

noncomputable def tDst6 : Tbl := [(9, entF eSix), (24, entF eClone)]
theorem tDst6Ok : ∀ f E, tDst6.find f = some E → SoundE Try.prog f E := find_cons sSix (find_cons sClone (find_nil _))
noncomputable def tRDst6 : Tbl := [(10, entF eRSix), (23, entF eBytes)]
theorem tRDst6Ok : ∀ f E, tRDst6.find f = some E → SoundE Try.prog f E := find_cons sRSix (find_cons sRBytes (find_nil _))
noncomputable def tMk6 : Tbl := [(22, entF ePut16)]
theorem tMk6Ok : ∀ f E, tMk6.find f = some E → SoundE Try.prog f E := find_cons sPut16 (find_nil _)
noncomputable def tRMk6 : Tbl := [(23, entF eBytes)]
theorem tRMk6Ok : ∀ f E, tRMk6.find f = some E → SoundE Try.prog f E := find_cons sRBytes (find_nil _)

noncomputable def hDst6T0 (l X : List UInt8) : AHeap := [ABlk.cells (bys l) 1 Md.far none, ABlk.cells (AV.bool true :: bys X) 17 Md.own none]
noncomputable def hDst6T1 (l X : List UInt8) : AHeap := [ABlk.cells (bys l) 1 Md.far none, ABlk.cells (AV.bool true :: bys X) 17 Md.own none, ABlk.cells [AV.int IntKind.i64 (z6 (bOf (hDst6T0 l X) (AV.sl (some (0, 0)) l.length 0 false)) (40 + word (bOf (hDst6T0 l X) (AV.sl (some (0, 0)) l.length 0 false)) 4)), AV.int IntKind.u8 (z6 (bOf (hDst6T0 l X) (AV.sl (some (0, 0)) l.length 0 false)) (byt (bOf (hDst6T0 l X) (AV.sl (some (0, 0)) l.length 0 false)) 6)), AV.bool (decide (r6 (bOf (hDst6T0 l X) (AV.sl (some (0, 0)) l.length 0 false)) = 0)), AV.int IntKind.u8 (z6 (bOf (hDst6T0 l X) (AV.sl (some (0, 0)) l.length 0 false)) (byt (bOf (hDst6T0 l X) (AV.sl (some (0, 0)) l.length 0 false)) 8)), AV.int IntKind.u8 (z6 (bOf (hDst6T0 l X) (AV.sl (some (0, 0)) l.length 0 false)) (byt (bOf (hDst6T0 l X) (AV.sl (some (0, 0)) l.length 0 false)) 9)), AV.int IntKind.u8 (z6 (bOf (hDst6T0 l X) (AV.sl (some (0, 0)) l.length 0 false)) (byt (bOf (hDst6T0 l X) (AV.sl (some (0, 0)) l.length 0 false)) 10)), AV.int IntKind.u8 (z6 (bOf (hDst6T0 l X) (AV.sl (some (0, 0)) l.length 0 false)) (byt (bOf (hDst6T0 l X) (AV.sl (some (0, 0)) l.length 0 false)) 11)), AV.int IntKind.u8 (z6 (bOf (hDst6T0 l X) (AV.sl (some (0, 0)) l.length 0 false)) (byt (bOf (hDst6T0 l X) (AV.sl (some (0, 0)) l.length 0 false)) 12)), AV.int IntKind.u8 (z6 (bOf (hDst6T0 l X) (AV.sl (some (0, 0)) l.length 0 false)) (byt (bOf (hDst6T0 l X) (AV.sl (some (0, 0)) l.length 0 false)) 13)), AV.int IntKind.u8 (z6 (bOf (hDst6T0 l X) (AV.sl (some (0, 0)) l.length 0 false)) (byt (bOf (hDst6T0 l X) (AV.sl (some (0, 0)) l.length 0 false)) 14)), AV.int IntKind.u8 (z6 (bOf (hDst6T0 l X) (AV.sl (some (0, 0)) l.length 0 false)) (byt (bOf (hDst6T0 l X) (AV.sl (some (0, 0)) l.length 0 false)) 15)), AV.int IntKind.u8 (z6 (bOf (hDst6T0 l X) (AV.sl (some (0, 0)) l.length 0 false)) (byt (bOf (hDst6T0 l X) (AV.sl (some (0, 0)) l.length 0 false)) 16)), AV.int IntKind.u8 (z6 (bOf (hDst6T0 l X) (AV.sl (some (0, 0)) l.length 0 false)) (byt (bOf (hDst6T0 l X) (AV.sl (some (0, 0)) l.length 0 false)) 17)), AV.int IntKind.u8 (z6 (bOf (hDst6T0 l X) (AV.sl (some (0, 0)) l.length 0 false)) (byt (bOf (hDst6T0 l X) (AV.sl (some (0, 0)) l.length 0 false)) 18)), AV.int IntKind.u8 (z6 (bOf (hDst6T0 l X) (AV.sl (some (0, 0)) l.length 0 false)) (byt (bOf (hDst6T0 l X) (AV.sl (some (0, 0)) l.length 0 false)) 19)), AV.int IntKind.u8 (z6 (bOf (hDst6T0 l X) (AV.sl (some (0, 0)) l.length 0 false)) (byt (bOf (hDst6T0 l X) (AV.sl (some (0, 0)) l.length 0 false)) 20)), AV.int IntKind.u8 (z6 (bOf (hDst6T0 l X) (AV.sl (some (0, 0)) l.length 0 false)) (byt (bOf (hDst6T0 l X) (AV.sl (some (0, 0)) l.length 0 false)) 21)), AV.int IntKind.u8 (z6 (bOf (hDst6T0 l X) (AV.sl (some (0, 0)) l.length 0 false)) (byt (bOf (hDst6T0 l X) (AV.sl (some (0, 0)) l.length 0 false)) 22)), AV.int IntKind.u8 (z6 (bOf (hDst6T0 l X) (AV.sl (some (0, 0)) l.length 0 false)) (byt (bOf (hDst6T0 l X) (AV.sl (some (0, 0)) l.length 0 false)) 23)), AV.bool (decide (r6 (bOf (hDst6T0 l X) (AV.sl (some (0, 0)) l.length 0 false)) = 0)), AV.int IntKind.u8 (z6 (bOf (hDst6T0 l X) (AV.sl (some (0, 0)) l.length 0 false)) (byt (bOf (hDst6T0 l X) (AV.sl (some (0, 0)) l.length 0 false)) 24)), AV.int IntKind.u8 (z6 (bOf (hDst6T0 l X) (AV.sl (some (0, 0)) l.length 0 false)) (byt (bOf (hDst6T0 l X) (AV.sl (some (0, 0)) l.length 0 false)) 25)), AV.int IntKind.u8 (z6 (bOf (hDst6T0 l X) (AV.sl (some (0, 0)) l.length 0 false)) (byt (bOf (hDst6T0 l X) (AV.sl (some (0, 0)) l.length 0 false)) 26)), AV.int IntKind.u8 (z6 (bOf (hDst6T0 l X) (AV.sl (some (0, 0)) l.length 0 false)) (byt (bOf (hDst6T0 l X) (AV.sl (some (0, 0)) l.length 0 false)) 27)), AV.int IntKind.u8 (z6 (bOf (hDst6T0 l X) (AV.sl (some (0, 0)) l.length 0 false)) (byt (bOf (hDst6T0 l X) (AV.sl (some (0, 0)) l.length 0 false)) 28)), AV.int IntKind.u8 (z6 (bOf (hDst6T0 l X) (AV.sl (some (0, 0)) l.length 0 false)) (byt (bOf (hDst6T0 l X) (AV.sl (some (0, 0)) l.length 0 false)) 29)), AV.int IntKind.u8 (z6 (bOf (hDst6T0 l X) (AV.sl (some (0, 0)) l.length 0 false)) (byt (bOf (hDst6T0 l X) (AV.sl (some (0, 0)) l.length 0 false)) 30)), AV.int IntKind.u8 (z6 (bOf (hDst6T0 l X) (AV.sl (some (0, 0)) l.length 0 false)) (byt (bOf (hDst6T0 l X) (AV.sl (some (0, 0)) l.length 0 false)) 31)), AV.int IntKind.u8 (z6 (bOf (hDst6T0 l X) (AV.sl (some (0, 0)) l.length 0 false)) (byt (bOf (hDst6T0 l X) (AV.sl (some (0, 0)) l.length 0 false)) 32)), AV.int IntKind.u8 (z6 (bOf (hDst6T0 l X) (AV.sl (some (0, 0)) l.length 0 false)) (byt (bOf (hDst6T0 l X) (AV.sl (some (0, 0)) l.length 0 false)) 33)), AV.int IntKind.u8 (z6 (bOf (hDst6T0 l X) (AV.sl (some (0, 0)) l.length 0 false)) (byt (bOf (hDst6T0 l X) (AV.sl (some (0, 0)) l.length 0 false)) 34)), AV.int IntKind.u8 (z6 (bOf (hDst6T0 l X) (AV.sl (some (0, 0)) l.length 0 false)) (byt (bOf (hDst6T0 l X) (AV.sl (some (0, 0)) l.length 0 false)) 35)), AV.int IntKind.u8 (z6 (bOf (hDst6T0 l X) (AV.sl (some (0, 0)) l.length 0 false)) (byt (bOf (hDst6T0 l X) (AV.sl (some (0, 0)) l.length 0 false)) 36)), AV.int IntKind.u8 (z6 (bOf (hDst6T0 l X) (AV.sl (some (0, 0)) l.length 0 false)) (byt (bOf (hDst6T0 l X) (AV.sl (some (0, 0)) l.length 0 false)) 37)), AV.int IntKind.u8 (z6 (bOf (hDst6T0 l X) (AV.sl (some (0, 0)) l.length 0 false)) (byt (bOf (hDst6T0 l X) (AV.sl (some (0, 0)) l.length 0 false)) 38)), AV.int IntKind.u8 (z6 (bOf (hDst6T0 l X) (AV.sl (some (0, 0)) l.length 0 false)) (byt (bOf (hDst6T0 l X) (AV.sl (some (0, 0)) l.length 0 false)) 39))] 36 Md.own none]
noncomputable def hDst6T2 (l X : List UInt8) : AHeap := [ABlk.cells (bys l) 1 Md.far none, ABlk.cells (AV.bool true :: bys X) 17 Md.own none, ABlk.cells [AV.int IntKind.i64 (z6 (bOf (hDst6T0 l X) (AV.sl (some (0, 0)) l.length 0 false)) (40 + word (bOf (hDst6T0 l X) (AV.sl (some (0, 0)) l.length 0 false)) 4)), AV.int IntKind.u8 (z6 (bOf (hDst6T0 l X) (AV.sl (some (0, 0)) l.length 0 false)) (byt (bOf (hDst6T0 l X) (AV.sl (some (0, 0)) l.length 0 false)) 6)), AV.bool (decide (r6 (bOf (hDst6T0 l X) (AV.sl (some (0, 0)) l.length 0 false)) = 0)), AV.int IntKind.u8 (z6 (bOf (hDst6T0 l X) (AV.sl (some (0, 0)) l.length 0 false)) (byt (bOf (hDst6T0 l X) (AV.sl (some (0, 0)) l.length 0 false)) 8)), AV.int IntKind.u8 (z6 (bOf (hDst6T0 l X) (AV.sl (some (0, 0)) l.length 0 false)) (byt (bOf (hDst6T0 l X) (AV.sl (some (0, 0)) l.length 0 false)) 9)), AV.int IntKind.u8 (z6 (bOf (hDst6T0 l X) (AV.sl (some (0, 0)) l.length 0 false)) (byt (bOf (hDst6T0 l X) (AV.sl (some (0, 0)) l.length 0 false)) 10)), AV.int IntKind.u8 (z6 (bOf (hDst6T0 l X) (AV.sl (some (0, 0)) l.length 0 false)) (byt (bOf (hDst6T0 l X) (AV.sl (some (0, 0)) l.length 0 false)) 11)), AV.int IntKind.u8 (z6 (bOf (hDst6T0 l X) (AV.sl (some (0, 0)) l.length 0 false)) (byt (bOf (hDst6T0 l X) (AV.sl (some (0, 0)) l.length 0 false)) 12)), AV.int IntKind.u8 (z6 (bOf (hDst6T0 l X) (AV.sl (some (0, 0)) l.length 0 false)) (byt (bOf (hDst6T0 l X) (AV.sl (some (0, 0)) l.length 0 false)) 13)), AV.int IntKind.u8 (z6 (bOf (hDst6T0 l X) (AV.sl (some (0, 0)) l.length 0 false)) (byt (bOf (hDst6T0 l X) (AV.sl (some (0, 0)) l.length 0 false)) 14)), AV.int IntKind.u8 (z6 (bOf (hDst6T0 l X) (AV.sl (some (0, 0)) l.length 0 false)) (byt (bOf (hDst6T0 l X) (AV.sl (some (0, 0)) l.length 0 false)) 15)), AV.int IntKind.u8 (z6 (bOf (hDst6T0 l X) (AV.sl (some (0, 0)) l.length 0 false)) (byt (bOf (hDst6T0 l X) (AV.sl (some (0, 0)) l.length 0 false)) 16)), AV.int IntKind.u8 (z6 (bOf (hDst6T0 l X) (AV.sl (some (0, 0)) l.length 0 false)) (byt (bOf (hDst6T0 l X) (AV.sl (some (0, 0)) l.length 0 false)) 17)), AV.int IntKind.u8 (z6 (bOf (hDst6T0 l X) (AV.sl (some (0, 0)) l.length 0 false)) (byt (bOf (hDst6T0 l X) (AV.sl (some (0, 0)) l.length 0 false)) 18)), AV.int IntKind.u8 (z6 (bOf (hDst6T0 l X) (AV.sl (some (0, 0)) l.length 0 false)) (byt (bOf (hDst6T0 l X) (AV.sl (some (0, 0)) l.length 0 false)) 19)), AV.int IntKind.u8 (z6 (bOf (hDst6T0 l X) (AV.sl (some (0, 0)) l.length 0 false)) (byt (bOf (hDst6T0 l X) (AV.sl (some (0, 0)) l.length 0 false)) 20)), AV.int IntKind.u8 (z6 (bOf (hDst6T0 l X) (AV.sl (some (0, 0)) l.length 0 false)) (byt (bOf (hDst6T0 l X) (AV.sl (some (0, 0)) l.length 0 false)) 21)), AV.int IntKind.u8 (z6 (bOf (hDst6T0 l X) (AV.sl (some (0, 0)) l.length 0 false)) (byt (bOf (hDst6T0 l X) (AV.sl (some (0, 0)) l.length 0 false)) 22)), AV.int IntKind.u8 (z6 (bOf (hDst6T0 l X) (AV.sl (some (0, 0)) l.length 0 false)) (byt (bOf (hDst6T0 l X) (AV.sl (some (0, 0)) l.length 0 false)) 23)), AV.bool (decide (r6 (bOf (hDst6T0 l X) (AV.sl (some (0, 0)) l.length 0 false)) = 0)), AV.int IntKind.u8 (z6 (bOf (hDst6T0 l X) (AV.sl (some (0, 0)) l.length 0 false)) (byt (bOf (hDst6T0 l X) (AV.sl (some (0, 0)) l.length 0 false)) 24)), AV.int IntKind.u8 (z6 (bOf (hDst6T0 l X) (AV.sl (some (0, 0)) l.length 0 false)) (byt (bOf (hDst6T0 l X) (AV.sl (some (0, 0)) l.length 0 false)) 25)), AV.int IntKind.u8 (z6 (bOf (hDst6T0 l X) (AV.sl (some (0, 0)) l.length 0 false)) (byt (bOf (hDst6T0 l X) (AV.sl (some (0, 0)) l.length 0 false)) 26)), AV.int IntKind.u8 (z6 (bOf (hDst6T0 l X) (AV.sl (some (0, 0)) l.length 0 false)) (byt (bOf (hDst6T0 l X) (AV.sl (some (0, 0)) l.length 0 false)) 27)), AV.int IntKind.u8 (z6 (bOf (hDst6T0 l X) (AV.sl (some (0, 0)) l.length 0 false)) (byt (bOf (hDst6T0 l X) (AV.sl (some (0, 0)) l.length 0 false)) 28)), AV.int IntKind.u8 (z6 (bOf (hDst6T0 l X) (AV.sl (some (0, 0)) l.length 0 false)) (byt (bOf (hDst6T0 l X) (AV.sl (some (0, 0)) l.length 0 false)) 29)), AV.int IntKind.u8 (z6 (bOf (hDst6T0 l X) (AV.sl (some (0, 0)) l.length 0 false)) (byt (bOf (hDst6T0 l X) (AV.sl (some (0, 0)) l.length 0 false)) 30)), AV.int IntKind.u8 (z6 (bOf (hDst6T0 l X) (AV.sl (some (0, 0)) l.length 0 false)) (byt (bOf (hDst6T0 l X) (AV.sl (some (0, 0)) l.length 0 false)) 31)), AV.int IntKind.u8 (z6 (bOf (hDst6T0 l X) (AV.sl (some (0, 0)) l.length 0 false)) (byt (bOf (hDst6T0 l X) (AV.sl (some (0, 0)) l.length 0 false)) 32)), AV.int IntKind.u8 (z6 (bOf (hDst6T0 l X) (AV.sl (some (0, 0)) l.length 0 false)) (byt (bOf (hDst6T0 l X) (AV.sl (some (0, 0)) l.length 0 false)) 33)), AV.int IntKind.u8 (z6 (bOf (hDst6T0 l X) (AV.sl (some (0, 0)) l.length 0 false)) (byt (bOf (hDst6T0 l X) (AV.sl (some (0, 0)) l.length 0 false)) 34)), AV.int IntKind.u8 (z6 (bOf (hDst6T0 l X) (AV.sl (some (0, 0)) l.length 0 false)) (byt (bOf (hDst6T0 l X) (AV.sl (some (0, 0)) l.length 0 false)) 35)), AV.int IntKind.u8 (z6 (bOf (hDst6T0 l X) (AV.sl (some (0, 0)) l.length 0 false)) (byt (bOf (hDst6T0 l X) (AV.sl (some (0, 0)) l.length 0 false)) 36)), AV.int IntKind.u8 (z6 (bOf (hDst6T0 l X) (AV.sl (some (0, 0)) l.length 0 false)) (byt (bOf (hDst6T0 l X) (AV.sl (some (0, 0)) l.length 0 false)) 37)), AV.int IntKind.u8 (z6 (bOf (hDst6T0 l X) (AV.sl (some (0, 0)) l.length 0 false)) (byt (bOf (hDst6T0 l X) (AV.sl (some (0, 0)) l.length 0 false)) 38)), AV.int IntKind.u8 (z6 (bOf (hDst6T0 l X) (AV.sl (some (0, 0)) l.length 0 false)) (byt (bOf (hDst6T0 l X) (AV.sl (some (0, 0)) l.length 0 false)) 39))] 36 Md.own none, ABlk.cells (bys (bOf (hDst6T1 l X) (AV.sl (some (0, 0)) l.length 0 false))) 1 Md.own none]
noncomputable def hDst6T3 (l X : List UInt8) : AHeap := [ABlk.cells (bys l) 1 Md.far none, ABlk.cells (AV.bool true :: bys X) 17 Md.own none, ABlk.cells [AV.int IntKind.i64 (z6 (bOf (hDst6T0 l X) (AV.sl (some (0, 0)) l.length 0 false)) (40 + word (bOf (hDst6T0 l X) (AV.sl (some (0, 0)) l.length 0 false)) 4)), AV.int IntKind.u8 (z6 (bOf (hDst6T0 l X) (AV.sl (some (0, 0)) l.length 0 false)) (byt (bOf (hDst6T0 l X) (AV.sl (some (0, 0)) l.length 0 false)) 6)), AV.bool (decide (r6 (bOf (hDst6T0 l X) (AV.sl (some (0, 0)) l.length 0 false)) = 0)), AV.int IntKind.u8 (z6 (bOf (hDst6T0 l X) (AV.sl (some (0, 0)) l.length 0 false)) (byt (bOf (hDst6T0 l X) (AV.sl (some (0, 0)) l.length 0 false)) 8)), AV.int IntKind.u8 (z6 (bOf (hDst6T0 l X) (AV.sl (some (0, 0)) l.length 0 false)) (byt (bOf (hDst6T0 l X) (AV.sl (some (0, 0)) l.length 0 false)) 9)), AV.int IntKind.u8 (z6 (bOf (hDst6T0 l X) (AV.sl (some (0, 0)) l.length 0 false)) (byt (bOf (hDst6T0 l X) (AV.sl (some (0, 0)) l.length 0 false)) 10)), AV.int IntKind.u8 (z6 (bOf (hDst6T0 l X) (AV.sl (some (0, 0)) l.length 0 false)) (byt (bOf (hDst6T0 l X) (AV.sl (some (0, 0)) l.length 0 false)) 11)), AV.int IntKind.u8 (z6 (bOf (hDst6T0 l X) (AV.sl (some (0, 0)) l.length 0 false)) (byt (bOf (hDst6T0 l X) (AV.sl (some (0, 0)) l.length 0 false)) 12)), AV.int IntKind.u8 (z6 (bOf (hDst6T0 l X) (AV.sl (some (0, 0)) l.length 0 false)) (byt (bOf (hDst6T0 l X) (AV.sl (some (0, 0)) l.length 0 false)) 13)), AV.int IntKind.u8 (z6 (bOf (hDst6T0 l X) (AV.sl (some (0, 0)) l.length 0 false)) (byt (bOf (hDst6T0 l X) (AV.sl (some (0, 0)) l.length 0 false)) 14)), AV.int IntKind.u8 (z6 (bOf (hDst6T0 l X) (AV.sl (some (0, 0)) l.length 0 false)) (byt (bOf (hDst6T0 l X) (AV.sl (some (0, 0)) l.length 0 false)) 15)), AV.int IntKind.u8 (z6 (bOf (hDst6T0 l X) (AV.sl (some (0, 0)) l.length 0 false)) (byt (bOf (hDst6T0 l X) (AV.sl (some (0, 0)) l.length 0 false)) 16)), AV.int IntKind.u8 (z6 (bOf (hDst6T0 l X) (AV.sl (some (0, 0)) l.length 0 false)) (byt (bOf (hDst6T0 l X) (AV.sl (some (0, 0)) l.length 0 false)) 17)), AV.int IntKind.u8 (z6 (bOf (hDst6T0 l X) (AV.sl (some (0, 0)) l.length 0 false)) (byt (bOf (hDst6T0 l X) (AV.sl (some (0, 0)) l.length 0 false)) 18)), AV.int IntKind.u8 (z6 (bOf (hDst6T0 l X) (AV.sl (some (0, 0)) l.length 0 false)) (byt (bOf (hDst6T0 l X) (AV.sl (some (0, 0)) l.length 0 false)) 19)), AV.int IntKind.u8 (z6 (bOf (hDst6T0 l X) (AV.sl (some (0, 0)) l.length 0 false)) (byt (bOf (hDst6T0 l X) (AV.sl (some (0, 0)) l.length 0 false)) 20)), AV.int IntKind.u8 (z6 (bOf (hDst6T0 l X) (AV.sl (some (0, 0)) l.length 0 false)) (byt (bOf (hDst6T0 l X) (AV.sl (some (0, 0)) l.length 0 false)) 21)), AV.int IntKind.u8 (z6 (bOf (hDst6T0 l X) (AV.sl (some (0, 0)) l.length 0 false)) (byt (bOf (hDst6T0 l X) (AV.sl (some (0, 0)) l.length 0 false)) 22)), AV.int IntKind.u8 (z6 (bOf (hDst6T0 l X) (AV.sl (some (0, 0)) l.length 0 false)) (byt (bOf (hDst6T0 l X) (AV.sl (some (0, 0)) l.length 0 false)) 23)), AV.bool (decide (r6 (bOf (hDst6T0 l X) (AV.sl (some (0, 0)) l.length 0 false)) = 0)), AV.int IntKind.u8 (z6 (bOf (hDst6T0 l X) (AV.sl (some (0, 0)) l.length 0 false)) (byt (bOf (hDst6T0 l X) (AV.sl (some (0, 0)) l.length 0 false)) 24)), AV.int IntKind.u8 (z6 (bOf (hDst6T0 l X) (AV.sl (some (0, 0)) l.length 0 false)) (byt (bOf (hDst6T0 l X) (AV.sl (some (0, 0)) l.length 0 false)) 25)), AV.int IntKind.u8 (z6 (bOf (hDst6T0 l X) (AV.sl (some (0, 0)) l.length 0 false)) (byt (bOf (hDst6T0 l X) (AV.sl (some (0, 0)) l.length 0 false)) 26)), AV.int IntKind.u8 (z6 (bOf (hDst6T0 l X) (AV.sl (some (0, 0)) l.length 0 false)) (byt (bOf (hDst6T0 l X) (AV.sl (some (0, 0)) l.length 0 false)) 27)), AV.int IntKind.u8 (z6 (bOf (hDst6T0 l X) (AV.sl (some (0, 0)) l.length 0 false)) (byt (bOf (hDst6T0 l X) (AV.sl (some (0, 0)) l.length 0 false)) 28)), AV.int IntKind.u8 (z6 (bOf (hDst6T0 l X) (AV.sl (some (0, 0)) l.length 0 false)) (byt (bOf (hDst6T0 l X) (AV.sl (some (0, 0)) l.length 0 false)) 29)), AV.int IntKind.u8 (z6 (bOf (hDst6T0 l X) (AV.sl (some (0, 0)) l.length 0 false)) (byt (bOf (hDst6T0 l X) (AV.sl (some (0, 0)) l.length 0 false)) 30)), AV.int IntKind.u8 (z6 (bOf (hDst6T0 l X) (AV.sl (some (0, 0)) l.length 0 false)) (byt (bOf (hDst6T0 l X) (AV.sl (some (0, 0)) l.length 0 false)) 31)), AV.int IntKind.u8 (z6 (bOf (hDst6T0 l X) (AV.sl (some (0, 0)) l.length 0 false)) (byt (bOf (hDst6T0 l X) (AV.sl (some (0, 0)) l.length 0 false)) 32)), AV.int IntKind.u8 (z6 (bOf (hDst6T0 l X) (AV.sl (some (0, 0)) l.length 0 false)) (byt (bOf (hDst6T0 l X) (AV.sl (some (0, 0)) l.length 0 false)) 33)), AV.int IntKind.u8 (z6 (bOf (hDst6T0 l X) (AV.sl (some (0, 0)) l.length 0 false)) (byt (bOf (hDst6T0 l X) (AV.sl (some (0, 0)) l.length 0 false)) 34)), AV.int IntKind.u8 (z6 (bOf (hDst6T0 l X) (AV.sl (some (0, 0)) l.length 0 false)) (byt (bOf (hDst6T0 l X) (AV.sl (some (0, 0)) l.length 0 false)) 35)), AV.int IntKind.u8 (z6 (bOf (hDst6T0 l X) (AV.sl (some (0, 0)) l.length 0 false)) (byt (bOf (hDst6T0 l X) (AV.sl (some (0, 0)) l.length 0 false)) 36)), AV.int IntKind.u8 (z6 (bOf (hDst6T0 l X) (AV.sl (some (0, 0)) l.length 0 false)) (byt (bOf (hDst6T0 l X) (AV.sl (some (0, 0)) l.length 0 false)) 37)), AV.int IntKind.u8 (z6 (bOf (hDst6T0 l X) (AV.sl (some (0, 0)) l.length 0 false)) (byt (bOf (hDst6T0 l X) (AV.sl (some (0, 0)) l.length 0 false)) 38)), AV.int IntKind.u8 (z6 (bOf (hDst6T0 l X) (AV.sl (some (0, 0)) l.length 0 false)) (byt (bOf (hDst6T0 l X) (AV.sl (some (0, 0)) l.length 0 false)) 39))] 36 Md.own none, ABlk.cells (putCells (bys (bOf (hDst6T1 l X) (AV.sl (some (0, 0)) l.length 0 false))) 24 (List.take (Nat.min 16 ((bOf (hDst6T1 l X) (AV.sl (some (0, 0)) l.length 0 false)).length - 24) * 1) (List.drop 1 (AV.bool true :: bys X)))) 1 Md.own none]
theorem nfDst6T {R : Type} (l X : List UInt8) (K : AV → AHeap → Option R) :
    qrun Try.prog tDst6 100 4 [] [] 13 [slB 0 l, .agg (.bool true :: bys X)] [farB l] K =
    (if (bOk (hDst6T0 l X) (AV.sl (some (0, 0)) l.length 0 false) && decide (nOf (AV.sl (some (0, 0)) l.length 0 false) ≤ 1000000000000)) = true then
      (if (r6 (bOf (hDst6T0 l X) (AV.sl (some (0, 0)) l.length 0 false)) != 0) = true then
        K (AV.sl none 0 0 true) ((hDst6T1 l X))
      else (if (bOk (hDst6T1 l X) (AV.sl (some (0, 0)) l.length 0 false) && decide (nOf (AV.sl (some (0, 0)) l.length 0 false) ≤ 1000000000000)) = true then
          (if Int.ofNat 0 ≤ Int.ofNat 24 ∧ 24 ≤ (((bOf (hDst6T1 l X) (AV.sl (some (0, 0)) l.length 0 false)).length : Nat) : Int) then
            (if 1 + Nat.min 16 ((bOf (hDst6T1 l X) (AV.sl (some (0, 0)) l.length 0 false)).length - 24) * 1 ≤ (AV.bool true :: bys X).length then
              (if (List.take (Nat.min 16 ((bOf (hDst6T1 l X) (AV.sl (some (0, 0)) l.length 0 false)).length - 24) * 1) (List.drop 1 (AV.bool true :: bys X))).length = 0 then
                K (AV.sl (some (3, 0)) (bOf (hDst6T1 l X) (AV.sl (some (0, 0)) l.length 0 false)).length 0 false) ((hDst6T2 l X))
              else (if 0 < (bOf (hDst6T1 l X) (AV.sl (some (0, 0)) l.length 0 false)).length - 24 then
                  (if 24 + (List.take (Nat.min 16 ((bOf (hDst6T1 l X) (AV.sl (some (0, 0)) l.length 0 false)).length - 24) * 1) (List.drop 1 (AV.bool true :: bys X))).length ≤ (bys (bOf (hDst6T1 l X) (AV.sl (some (0, 0)) l.length 0 false))).length ∧ (List.take (Nat.min 16 ((bOf (hDst6T1 l X) (AV.sl (some (0, 0)) l.length 0 false)).length - 24) * 1) (List.drop 1 (AV.bool true :: bys X))).all AV.isCell = true then
                    K (AV.sl (some (3, 0)) (bOf (hDst6T1 l X) (AV.sl (some (0, 0)) l.length 0 false)).length 0 false) ((hDst6T3 l X))
                  else none)
                else none))
            else none)
          else none)
        else none))
    else none) := by
  kernel_rfl

noncomputable def hDst6F0 (l X : List UInt8) : AHeap := [ABlk.cells (bys l) 1 Md.far none, ABlk.cells (AV.bool false :: bys X) 17 Md.own none]
noncomputable def hDst6F1 (l X : List UInt8) : AHeap := [ABlk.cells (bys l) 1 Md.far none, ABlk.cells (AV.bool false :: bys X) 17 Md.own none, ABlk.cells [AV.int IntKind.i64 (z6 (bOf (hDst6F0 l X) (AV.sl (some (0, 0)) l.length 0 false)) (40 + word (bOf (hDst6F0 l X) (AV.sl (some (0, 0)) l.length 0 false)) 4)), AV.int IntKind.u8 (z6 (bOf (hDst6F0 l X) (AV.sl (some (0, 0)) l.length 0 false)) (byt (bOf (hDst6F0 l X) (AV.sl (some (0, 0)) l.length 0 false)) 6)), AV.bool (decide (r6 (bOf (hDst6F0 l X) (AV.sl (some (0, 0)) l.length 0 false)) = 0)), AV.int IntKind.u8 (z6 (bOf (hDst6F0 l X) (AV.sl (some (0, 0)) l.length 0 false)) (byt (bOf (hDst6F0 l X) (AV.sl (some (0, 0)) l.length 0 false)) 8)), AV.int IntKind.u8 (z6 (bOf (hDst6F0 l X) (AV.sl (some (0, 0)) l.length 0 false)) (byt (bOf (hDst6F0 l X) (AV.sl (some (0, 0)) l.length 0 false)) 9)), AV.int IntKind.u8 (z6 (bOf (hDst6F0 l X) (AV.sl (some (0, 0)) l.length 0 false)) (byt (bOf (hDst6F0 l X) (AV.sl (some (0, 0)) l.length 0 false)) 10)), AV.int IntKind.u8 (z6 (bOf (hDst6F0 l X) (AV.sl (some (0, 0)) l.length 0 false)) (byt (bOf (hDst6F0 l X) (AV.sl (some (0, 0)) l.length 0 false)) 11)), AV.int IntKind.u8 (z6 (bOf (hDst6F0 l X) (AV.sl (some (0, 0)) l.length 0 false)) (byt (bOf (hDst6F0 l X) (AV.sl (some (0, 0)) l.length 0 false)) 12)), AV.int IntKind.u8 (z6 (bOf (hDst6F0 l X) (AV.sl (some (0, 0)) l.length 0 false)) (byt (bOf (hDst6F0 l X) (AV.sl (some (0, 0)) l.length 0 false)) 13)), AV.int IntKind.u8 (z6 (bOf (hDst6F0 l X) (AV.sl (some (0, 0)) l.length 0 false)) (byt (bOf (hDst6F0 l X) (AV.sl (some (0, 0)) l.length 0 false)) 14)), AV.int IntKind.u8 (z6 (bOf (hDst6F0 l X) (AV.sl (some (0, 0)) l.length 0 false)) (byt (bOf (hDst6F0 l X) (AV.sl (some (0, 0)) l.length 0 false)) 15)), AV.int IntKind.u8 (z6 (bOf (hDst6F0 l X) (AV.sl (some (0, 0)) l.length 0 false)) (byt (bOf (hDst6F0 l X) (AV.sl (some (0, 0)) l.length 0 false)) 16)), AV.int IntKind.u8 (z6 (bOf (hDst6F0 l X) (AV.sl (some (0, 0)) l.length 0 false)) (byt (bOf (hDst6F0 l X) (AV.sl (some (0, 0)) l.length 0 false)) 17)), AV.int IntKind.u8 (z6 (bOf (hDst6F0 l X) (AV.sl (some (0, 0)) l.length 0 false)) (byt (bOf (hDst6F0 l X) (AV.sl (some (0, 0)) l.length 0 false)) 18)), AV.int IntKind.u8 (z6 (bOf (hDst6F0 l X) (AV.sl (some (0, 0)) l.length 0 false)) (byt (bOf (hDst6F0 l X) (AV.sl (some (0, 0)) l.length 0 false)) 19)), AV.int IntKind.u8 (z6 (bOf (hDst6F0 l X) (AV.sl (some (0, 0)) l.length 0 false)) (byt (bOf (hDst6F0 l X) (AV.sl (some (0, 0)) l.length 0 false)) 20)), AV.int IntKind.u8 (z6 (bOf (hDst6F0 l X) (AV.sl (some (0, 0)) l.length 0 false)) (byt (bOf (hDst6F0 l X) (AV.sl (some (0, 0)) l.length 0 false)) 21)), AV.int IntKind.u8 (z6 (bOf (hDst6F0 l X) (AV.sl (some (0, 0)) l.length 0 false)) (byt (bOf (hDst6F0 l X) (AV.sl (some (0, 0)) l.length 0 false)) 22)), AV.int IntKind.u8 (z6 (bOf (hDst6F0 l X) (AV.sl (some (0, 0)) l.length 0 false)) (byt (bOf (hDst6F0 l X) (AV.sl (some (0, 0)) l.length 0 false)) 23)), AV.bool (decide (r6 (bOf (hDst6F0 l X) (AV.sl (some (0, 0)) l.length 0 false)) = 0)), AV.int IntKind.u8 (z6 (bOf (hDst6F0 l X) (AV.sl (some (0, 0)) l.length 0 false)) (byt (bOf (hDst6F0 l X) (AV.sl (some (0, 0)) l.length 0 false)) 24)), AV.int IntKind.u8 (z6 (bOf (hDst6F0 l X) (AV.sl (some (0, 0)) l.length 0 false)) (byt (bOf (hDst6F0 l X) (AV.sl (some (0, 0)) l.length 0 false)) 25)), AV.int IntKind.u8 (z6 (bOf (hDst6F0 l X) (AV.sl (some (0, 0)) l.length 0 false)) (byt (bOf (hDst6F0 l X) (AV.sl (some (0, 0)) l.length 0 false)) 26)), AV.int IntKind.u8 (z6 (bOf (hDst6F0 l X) (AV.sl (some (0, 0)) l.length 0 false)) (byt (bOf (hDst6F0 l X) (AV.sl (some (0, 0)) l.length 0 false)) 27)), AV.int IntKind.u8 (z6 (bOf (hDst6F0 l X) (AV.sl (some (0, 0)) l.length 0 false)) (byt (bOf (hDst6F0 l X) (AV.sl (some (0, 0)) l.length 0 false)) 28)), AV.int IntKind.u8 (z6 (bOf (hDst6F0 l X) (AV.sl (some (0, 0)) l.length 0 false)) (byt (bOf (hDst6F0 l X) (AV.sl (some (0, 0)) l.length 0 false)) 29)), AV.int IntKind.u8 (z6 (bOf (hDst6F0 l X) (AV.sl (some (0, 0)) l.length 0 false)) (byt (bOf (hDst6F0 l X) (AV.sl (some (0, 0)) l.length 0 false)) 30)), AV.int IntKind.u8 (z6 (bOf (hDst6F0 l X) (AV.sl (some (0, 0)) l.length 0 false)) (byt (bOf (hDst6F0 l X) (AV.sl (some (0, 0)) l.length 0 false)) 31)), AV.int IntKind.u8 (z6 (bOf (hDst6F0 l X) (AV.sl (some (0, 0)) l.length 0 false)) (byt (bOf (hDst6F0 l X) (AV.sl (some (0, 0)) l.length 0 false)) 32)), AV.int IntKind.u8 (z6 (bOf (hDst6F0 l X) (AV.sl (some (0, 0)) l.length 0 false)) (byt (bOf (hDst6F0 l X) (AV.sl (some (0, 0)) l.length 0 false)) 33)), AV.int IntKind.u8 (z6 (bOf (hDst6F0 l X) (AV.sl (some (0, 0)) l.length 0 false)) (byt (bOf (hDst6F0 l X) (AV.sl (some (0, 0)) l.length 0 false)) 34)), AV.int IntKind.u8 (z6 (bOf (hDst6F0 l X) (AV.sl (some (0, 0)) l.length 0 false)) (byt (bOf (hDst6F0 l X) (AV.sl (some (0, 0)) l.length 0 false)) 35)), AV.int IntKind.u8 (z6 (bOf (hDst6F0 l X) (AV.sl (some (0, 0)) l.length 0 false)) (byt (bOf (hDst6F0 l X) (AV.sl (some (0, 0)) l.length 0 false)) 36)), AV.int IntKind.u8 (z6 (bOf (hDst6F0 l X) (AV.sl (some (0, 0)) l.length 0 false)) (byt (bOf (hDst6F0 l X) (AV.sl (some (0, 0)) l.length 0 false)) 37)), AV.int IntKind.u8 (z6 (bOf (hDst6F0 l X) (AV.sl (some (0, 0)) l.length 0 false)) (byt (bOf (hDst6F0 l X) (AV.sl (some (0, 0)) l.length 0 false)) 38)), AV.int IntKind.u8 (z6 (bOf (hDst6F0 l X) (AV.sl (some (0, 0)) l.length 0 false)) (byt (bOf (hDst6F0 l X) (AV.sl (some (0, 0)) l.length 0 false)) 39))] 36 Md.own none]
theorem nfDst6F {R : Type} (l X : List UInt8) (K : AV → AHeap → Option R) :
    qrun Try.prog tDst6 100 4 [] [] 13 [slB 0 l, .agg (.bool false :: bys X)] [farB l] K =
    (if (bOk (hDst6F0 l X) (AV.sl (some (0, 0)) l.length 0 false) && decide (nOf (AV.sl (some (0, 0)) l.length 0 false) ≤ 1000000000000)) = true then
      (if (r6 (bOf (hDst6F0 l X) (AV.sl (some (0, 0)) l.length 0 false)) != 0) = true then
        K (AV.sl none 0 0 true) ((hDst6F1 l X))
      else K (AV.sl none 0 0 true) ((hDst6F1 l X)))
    else none) := by
  kernel_rfl

noncomputable def hRDst6T0 (l X : List UInt8) : AHeap := [ABlk.cells (bys l) 1 Md.far none, ABlk.cells (AV.bool true :: bys X) 17 Md.own none]
noncomputable def hRDst6T1 (l X : List UInt8) : AHeap := [ABlk.cells (bys l) 1 Md.far none, ABlk.cells (AV.bool true :: bys X) 17 Md.own none, ABlk.cells [AV.int IntKind.i64 (z6 (bOf (hRDst6T0 l X) (AV.sl (some (0, 0)) l.length 0 false)) 40), AV.int IntKind.i64 (z6 (bOf (hRDst6T0 l X) (AV.sl (some (0, 0)) l.length 0 false)) (40 + word (bOf (hRDst6T0 l X) (AV.sl (some (0, 0)) l.length 0 false)) 4)), AV.int IntKind.u8 (z6 (bOf (hRDst6T0 l X) (AV.sl (some (0, 0)) l.length 0 false)) (byt (bOf (hRDst6T0 l X) (AV.sl (some (0, 0)) l.length 0 false)) 6)), AV.bool (decide (r6 (bOf (hRDst6T0 l X) (AV.sl (some (0, 0)) l.length 0 false)) = 0)), AV.int IntKind.u8 (z6 (bOf (hRDst6T0 l X) (AV.sl (some (0, 0)) l.length 0 false)) (byt (bOf (hRDst6T0 l X) (AV.sl (some (0, 0)) l.length 0 false)) 8)), AV.int IntKind.u8 (z6 (bOf (hRDst6T0 l X) (AV.sl (some (0, 0)) l.length 0 false)) (byt (bOf (hRDst6T0 l X) (AV.sl (some (0, 0)) l.length 0 false)) 9)), AV.int IntKind.u8 (z6 (bOf (hRDst6T0 l X) (AV.sl (some (0, 0)) l.length 0 false)) (byt (bOf (hRDst6T0 l X) (AV.sl (some (0, 0)) l.length 0 false)) 10)), AV.int IntKind.u8 (z6 (bOf (hRDst6T0 l X) (AV.sl (some (0, 0)) l.length 0 false)) (byt (bOf (hRDst6T0 l X) (AV.sl (some (0, 0)) l.length 0 false)) 11)), AV.int IntKind.u8 (z6 (bOf (hRDst6T0 l X) (AV.sl (some (0, 0)) l.length 0 false)) (byt (bOf (hRDst6T0 l X) (AV.sl (some (0, 0)) l.length 0 false)) 12)), AV.int IntKind.u8 (z6 (bOf (hRDst6T0 l X) (AV.sl (some (0, 0)) l.length 0 false)) (byt (bOf (hRDst6T0 l X) (AV.sl (some (0, 0)) l.length 0 false)) 13)), AV.int IntKind.u8 (z6 (bOf (hRDst6T0 l X) (AV.sl (some (0, 0)) l.length 0 false)) (byt (bOf (hRDst6T0 l X) (AV.sl (some (0, 0)) l.length 0 false)) 14)), AV.int IntKind.u8 (z6 (bOf (hRDst6T0 l X) (AV.sl (some (0, 0)) l.length 0 false)) (byt (bOf (hRDst6T0 l X) (AV.sl (some (0, 0)) l.length 0 false)) 15)), AV.int IntKind.u8 (z6 (bOf (hRDst6T0 l X) (AV.sl (some (0, 0)) l.length 0 false)) (byt (bOf (hRDst6T0 l X) (AV.sl (some (0, 0)) l.length 0 false)) 16)), AV.int IntKind.u8 (z6 (bOf (hRDst6T0 l X) (AV.sl (some (0, 0)) l.length 0 false)) (byt (bOf (hRDst6T0 l X) (AV.sl (some (0, 0)) l.length 0 false)) 17)), AV.int IntKind.u8 (z6 (bOf (hRDst6T0 l X) (AV.sl (some (0, 0)) l.length 0 false)) (byt (bOf (hRDst6T0 l X) (AV.sl (some (0, 0)) l.length 0 false)) 18)), AV.int IntKind.u8 (z6 (bOf (hRDst6T0 l X) (AV.sl (some (0, 0)) l.length 0 false)) (byt (bOf (hRDst6T0 l X) (AV.sl (some (0, 0)) l.length 0 false)) 19)), AV.int IntKind.u8 (z6 (bOf (hRDst6T0 l X) (AV.sl (some (0, 0)) l.length 0 false)) (byt (bOf (hRDst6T0 l X) (AV.sl (some (0, 0)) l.length 0 false)) 20)), AV.int IntKind.u8 (z6 (bOf (hRDst6T0 l X) (AV.sl (some (0, 0)) l.length 0 false)) (byt (bOf (hRDst6T0 l X) (AV.sl (some (0, 0)) l.length 0 false)) 21)), AV.int IntKind.u8 (z6 (bOf (hRDst6T0 l X) (AV.sl (some (0, 0)) l.length 0 false)) (byt (bOf (hRDst6T0 l X) (AV.sl (some (0, 0)) l.length 0 false)) 22)), AV.int IntKind.u8 (z6 (bOf (hRDst6T0 l X) (AV.sl (some (0, 0)) l.length 0 false)) (byt (bOf (hRDst6T0 l X) (AV.sl (some (0, 0)) l.length 0 false)) 23)), AV.bool (decide (r6 (bOf (hRDst6T0 l X) (AV.sl (some (0, 0)) l.length 0 false)) = 0)), AV.int IntKind.u8 (z6 (bOf (hRDst6T0 l X) (AV.sl (some (0, 0)) l.length 0 false)) (byt (bOf (hRDst6T0 l X) (AV.sl (some (0, 0)) l.length 0 false)) 24)), AV.int IntKind.u8 (z6 (bOf (hRDst6T0 l X) (AV.sl (some (0, 0)) l.length 0 false)) (byt (bOf (hRDst6T0 l X) (AV.sl (some (0, 0)) l.length 0 false)) 25)), AV.int IntKind.u8 (z6 (bOf (hRDst6T0 l X) (AV.sl (some (0, 0)) l.length 0 false)) (byt (bOf (hRDst6T0 l X) (AV.sl (some (0, 0)) l.length 0 false)) 26)), AV.int IntKind.u8 (z6 (bOf (hRDst6T0 l X) (AV.sl (some (0, 0)) l.length 0 false)) (byt (bOf (hRDst6T0 l X) (AV.sl (some (0, 0)) l.length 0 false)) 27)), AV.int IntKind.u8 (z6 (bOf (hRDst6T0 l X) (AV.sl (some (0, 0)) l.length 0 false)) (byt (bOf (hRDst6T0 l X) (AV.sl (some (0, 0)) l.length 0 false)) 28)), AV.int IntKind.u8 (z6 (bOf (hRDst6T0 l X) (AV.sl (some (0, 0)) l.length 0 false)) (byt (bOf (hRDst6T0 l X) (AV.sl (some (0, 0)) l.length 0 false)) 29)), AV.int IntKind.u8 (z6 (bOf (hRDst6T0 l X) (AV.sl (some (0, 0)) l.length 0 false)) (byt (bOf (hRDst6T0 l X) (AV.sl (some (0, 0)) l.length 0 false)) 30)), AV.int IntKind.u8 (z6 (bOf (hRDst6T0 l X) (AV.sl (some (0, 0)) l.length 0 false)) (byt (bOf (hRDst6T0 l X) (AV.sl (some (0, 0)) l.length 0 false)) 31)), AV.int IntKind.u8 (z6 (bOf (hRDst6T0 l X) (AV.sl (some (0, 0)) l.length 0 false)) (byt (bOf (hRDst6T0 l X) (AV.sl (some (0, 0)) l.length 0 false)) 32)), AV.int IntKind.u8 (z6 (bOf (hRDst6T0 l X) (AV.sl (some (0, 0)) l.length 0 false)) (byt (bOf (hRDst6T0 l X) (AV.sl (some (0, 0)) l.length 0 false)) 33)), AV.int IntKind.u8 (z6 (bOf (hRDst6T0 l X) (AV.sl (some (0, 0)) l.length 0 false)) (byt (bOf (hRDst6T0 l X) (AV.sl (some (0, 0)) l.length 0 false)) 34)), AV.int IntKind.u8 (z6 (bOf (hRDst6T0 l X) (AV.sl (some (0, 0)) l.length 0 false)) (byt (bOf (hRDst6T0 l X) (AV.sl (some (0, 0)) l.length 0 false)) 35)), AV.int IntKind.u8 (z6 (bOf (hRDst6T0 l X) (AV.sl (some (0, 0)) l.length 0 false)) (byt (bOf (hRDst6T0 l X) (AV.sl (some (0, 0)) l.length 0 false)) 36)), AV.int IntKind.u8 (z6 (bOf (hRDst6T0 l X) (AV.sl (some (0, 0)) l.length 0 false)) (byt (bOf (hRDst6T0 l X) (AV.sl (some (0, 0)) l.length 0 false)) 37)), AV.int IntKind.u8 (z6 (bOf (hRDst6T0 l X) (AV.sl (some (0, 0)) l.length 0 false)) (byt (bOf (hRDst6T0 l X) (AV.sl (some (0, 0)) l.length 0 false)) 38)), AV.int IntKind.u8 (z6 (bOf (hRDst6T0 l X) (AV.sl (some (0, 0)) l.length 0 false)) (byt (bOf (hRDst6T0 l X) (AV.sl (some (0, 0)) l.length 0 false)) 39))] 37 Md.own none]
noncomputable def hRDst6T2 (l X : List UInt8) : AHeap := [ABlk.cells (bys l) 1 Md.far none, ABlk.cells (AV.bool true :: bys X) 17 Md.own none, ABlk.cells [AV.int IntKind.i64 (z6 (bOf (hRDst6T0 l X) (AV.sl (some (0, 0)) l.length 0 false)) 40), AV.int IntKind.i64 (z6 (bOf (hRDst6T0 l X) (AV.sl (some (0, 0)) l.length 0 false)) (40 + word (bOf (hRDst6T0 l X) (AV.sl (some (0, 0)) l.length 0 false)) 4)), AV.int IntKind.u8 (z6 (bOf (hRDst6T0 l X) (AV.sl (some (0, 0)) l.length 0 false)) (byt (bOf (hRDst6T0 l X) (AV.sl (some (0, 0)) l.length 0 false)) 6)), AV.bool (decide (r6 (bOf (hRDst6T0 l X) (AV.sl (some (0, 0)) l.length 0 false)) = 0)), AV.int IntKind.u8 (z6 (bOf (hRDst6T0 l X) (AV.sl (some (0, 0)) l.length 0 false)) (byt (bOf (hRDst6T0 l X) (AV.sl (some (0, 0)) l.length 0 false)) 8)), AV.int IntKind.u8 (z6 (bOf (hRDst6T0 l X) (AV.sl (some (0, 0)) l.length 0 false)) (byt (bOf (hRDst6T0 l X) (AV.sl (some (0, 0)) l.length 0 false)) 9)), AV.int IntKind.u8 (z6 (bOf (hRDst6T0 l X) (AV.sl (some (0, 0)) l.length 0 false)) (byt (bOf (hRDst6T0 l X) (AV.sl (some (0, 0)) l.length 0 false)) 10)), AV.int IntKind.u8 (z6 (bOf (hRDst6T0 l X) (AV.sl (some (0, 0)) l.length 0 false)) (byt (bOf (hRDst6T0 l X) (AV.sl (some (0, 0)) l.length 0 false)) 11)), AV.int IntKind.u8 (z6 (bOf (hRDst6T0 l X) (AV.sl (some (0, 0)) l.length 0 false)) (byt (bOf (hRDst6T0 l X) (AV.sl (some (0, 0)) l.length 0 false)) 12)), AV.int IntKind.u8 (z6 (bOf (hRDst6T0 l X) (AV.sl (some (0, 0)) l.length 0 false)) (byt (bOf (hRDst6T0 l X) (AV.sl (some (0, 0)) l.length 0 false)) 13)), AV.int IntKind.u8 (z6 (bOf (hRDst6T0 l X) (AV.sl (some (0, 0)) l.length 0 false)) (byt (bOf (hRDst6T0 l X) (AV.sl (some (0, 0)) l.length 0 false)) 14)), AV.int IntKind.u8 (z6 (bOf (hRDst6T0 l X) (AV.sl (some (0, 0)) l.length 0 false)) (byt (bOf (hRDst6T0 l X) (AV.sl (some (0, 0)) l.length 0 false)) 15)), AV.int IntKind.u8 (z6 (bOf (hRDst6T0 l X) (AV.sl (some (0, 0)) l.length 0 false)) (byt (bOf (hRDst6T0 l X) (AV.sl (some (0, 0)) l.length 0 false)) 16)), AV.int IntKind.u8 (z6 (bOf (hRDst6T0 l X) (AV.sl (some (0, 0)) l.length 0 false)) (byt (bOf (hRDst6T0 l X) (AV.sl (some (0, 0)) l.length 0 false)) 17)), AV.int IntKind.u8 (z6 (bOf (hRDst6T0 l X) (AV.sl (some (0, 0)) l.length 0 false)) (byt (bOf (hRDst6T0 l X) (AV.sl (some (0, 0)) l.length 0 false)) 18)), AV.int IntKind.u8 (z6 (bOf (hRDst6T0 l X) (AV.sl (some (0, 0)) l.length 0 false)) (byt (bOf (hRDst6T0 l X) (AV.sl (some (0, 0)) l.length 0 false)) 19)), AV.int IntKind.u8 (z6 (bOf (hRDst6T0 l X) (AV.sl (some (0, 0)) l.length 0 false)) (byt (bOf (hRDst6T0 l X) (AV.sl (some (0, 0)) l.length 0 false)) 20)), AV.int IntKind.u8 (z6 (bOf (hRDst6T0 l X) (AV.sl (some (0, 0)) l.length 0 false)) (byt (bOf (hRDst6T0 l X) (AV.sl (some (0, 0)) l.length 0 false)) 21)), AV.int IntKind.u8 (z6 (bOf (hRDst6T0 l X) (AV.sl (some (0, 0)) l.length 0 false)) (byt (bOf (hRDst6T0 l X) (AV.sl (some (0, 0)) l.length 0 false)) 22)), AV.int IntKind.u8 (z6 (bOf (hRDst6T0 l X) (AV.sl (some (0, 0)) l.length 0 false)) (byt (bOf (hRDst6T0 l X) (AV.sl (some (0, 0)) l.length 0 false)) 23)), AV.bool (decide (r6 (bOf (hRDst6T0 l X) (AV.sl (some (0, 0)) l.length 0 false)) = 0)), AV.int IntKind.u8 (z6 (bOf (hRDst6T0 l X) (AV.sl (some (0, 0)) l.length 0 false)) (byt (bOf (hRDst6T0 l X) (AV.sl (some (0, 0)) l.length 0 false)) 24)), AV.int IntKind.u8 (z6 (bOf (hRDst6T0 l X) (AV.sl (some (0, 0)) l.length 0 false)) (byt (bOf (hRDst6T0 l X) (AV.sl (some (0, 0)) l.length 0 false)) 25)), AV.int IntKind.u8 (z6 (bOf (hRDst6T0 l X) (AV.sl (some (0, 0)) l.length 0 false)) (byt (bOf (hRDst6T0 l X) (AV.sl (some (0, 0)) l.length 0 false)) 26)), AV.int IntKind.u8 (z6 (bOf (hRDst6T0 l X) (AV.sl (some (0, 0)) l.length 0 false)) (byt (bOf (hRDst6T0 l X) (AV.sl (some (0, 0)) l.length 0 false)) 27)), AV.int IntKind.u8 (z6 (bOf (hRDst6T0 l X) (AV.sl (some (0, 0)) l.length 0 false)) (byt (bOf (hRDst6T0 l X) (AV.sl (some (0, 0)) l.length 0 false)) 28)), AV.int IntKind.u8 (z6 (bOf (hRDst6T0 l X) (AV.sl (some (0, 0)) l.length 0 false)) (byt (bOf (hRDst6T0 l X) (AV.sl (some (0, 0)) l.length 0 false)) 29)), AV.int IntKind.u8 (z6 (bOf (hRDst6T0 l X) (AV.sl (some (0, 0)) l.length 0 false)) (byt (bOf (hRDst6T0 l X) (AV.sl (some (0, 0)) l.length 0 false)) 30)), AV.int IntKind.u8 (z6 (bOf (hRDst6T0 l X) (AV.sl (some (0, 0)) l.length 0 false)) (byt (bOf (hRDst6T0 l X) (AV.sl (some (0, 0)) l.length 0 false)) 31)), AV.int IntKind.u8 (z6 (bOf (hRDst6T0 l X) (AV.sl (some (0, 0)) l.length 0 false)) (byt (bOf (hRDst6T0 l X) (AV.sl (some (0, 0)) l.length 0 false)) 32)), AV.int IntKind.u8 (z6 (bOf (hRDst6T0 l X) (AV.sl (some (0, 0)) l.length 0 false)) (byt (bOf (hRDst6T0 l X) (AV.sl (some (0, 0)) l.length 0 false)) 33)), AV.int IntKind.u8 (z6 (bOf (hRDst6T0 l X) (AV.sl (some (0, 0)) l.length 0 false)) (byt (bOf (hRDst6T0 l X) (AV.sl (some (0, 0)) l.length 0 false)) 34)), AV.int IntKind.u8 (z6 (bOf (hRDst6T0 l X) (AV.sl (some (0, 0)) l.length 0 false)) (byt (bOf (hRDst6T0 l X) (AV.sl (some (0, 0)) l.length 0 false)) 35)), AV.int IntKind.u8 (z6 (bOf (hRDst6T0 l X) (AV.sl (some (0, 0)) l.length 0 false)) (byt (bOf (hRDst6T0 l X) (AV.sl (some (0, 0)) l.length 0 false)) 36)), AV.int IntKind.u8 (z6 (bOf (hRDst6T0 l X) (AV.sl (some (0, 0)) l.length 0 false)) (byt (bOf (hRDst6T0 l X) (AV.sl (some (0, 0)) l.length 0 false)) 37)), AV.int IntKind.u8 (z6 (bOf (hRDst6T0 l X) (AV.sl (some (0, 0)) l.length 0 false)) (byt (bOf (hRDst6T0 l X) (AV.sl (some (0, 0)) l.length 0 false)) 38)), AV.int IntKind.u8 (z6 (bOf (hRDst6T0 l X) (AV.sl (some (0, 0)) l.length 0 false)) (byt (bOf (hRDst6T0 l X) (AV.sl (some (0, 0)) l.length 0 false)) 39))] 37 Md.own none, ABlk.dead, ABlk.dead, ABlk.cells (bys (adrBytes (List.take 17 (AV.bool true :: bys X)))) 1 Md.own none, ABlk.cells (List.take 24 (List.take 24 (bys l)) ++ List.take ((adrBytes (List.take 17 (AV.bool true :: bys X))).length * 1) (bys (adrBytes (List.take 17 (AV.bool true :: bys X))))) 1 Md.ro none, ABlk.cells (List.take ((24 + (adrBytes (List.take 17 (AV.bool true :: bys X))).length) * 1) (List.take 24 (List.take 24 (bys l)) ++ List.take ((adrBytes (List.take 17 (AV.bool true :: bys X))).length * 1) (bys (adrBytes (List.take 17 (AV.bool true :: bys X))))) ++ List.take ((l.length - 40) * 1) (List.drop 40 (bys l))) 1 Md.own (some 6)]
theorem nfRDst6T {R : Type} (l X : List UInt8) (K : AV → AHeap → Option R) :
    qrun Try.prog tRDst6 100 4 [] [] 14 [slB 0 l, .agg (.bool true :: bys X)] [farB l] K =
    (if (bOk (hRDst6T0 l X) (AV.sl (some (0, 0)) l.length 0 false) && decide (nOf (AV.sl (some (0, 0)) l.length 0 false) ≤ 1000000000000)) = true then
      (if (r6 (bOf (hRDst6T0 l X) (AV.sl (some (0, 0)) l.length 0 false)) != 0) = true then
        K (AV.sl none 0 0 true) ((hRDst6T1 l X))
      else (if Int.ofNat 0 ≤ Int.ofNat 24 ∧ 24 ≤ (((capOf l.length 0 false) : Nat) : Int) then
          (if 24 ≤ (bys l).length then
            (if 0 = 0 ∧ 0 = 0 ∧ (0 < 24 ∨ 0 = 0) ∧ 1 = 1 ∧ (List.take 24 (bys l)).all AV.isCell = true then
              (if 17 ≤ (AV.bool true :: bys X).length then
                (if adrWf (List.take 17 (AV.bool true :: bys X)) = true then
                  (if 0 + (adrBytes (List.take 17 (AV.bool true :: bys X))).length * 1 ≤ (bys (adrBytes (List.take 17 (AV.bool true :: bys X)))).length then
                    (if (2 * (24 + (adrBytes (List.take 17 (AV.bool true :: bys X))).length) + 200) * 1 ≤ 281474976710656 ∧ some 1 = some 1 ∧ 24 + (adrBytes (List.take 17 (AV.bool true :: bys X))).length ≤ 70368744177664 then
                      (if 24 ≤ (List.take 24 (bys l)).length then
                        (if 0 = 0 ∧ 24 = (List.take 24 (bys l)).length ∧ (0 < (adrBytes (List.take 17 (AV.bool true :: bys X))).length ∨ 0 = 0) ∧ 1 = 1 ∧ (List.take ((adrBytes (List.take 17 (AV.bool true :: bys X))).length * 1) (bys (adrBytes (List.take 17 (AV.bool true :: bys X))))).all AV.isCell = true then
                          (if Int.ofNat 0 ≤ Int.ofNat 40 ∧ 40 ≤ (l.length : Int) then
                            (if 40 + (l.length - 40) * 1 ≤ (bys l).length then
                              (if (2 * (24 + (adrBytes (List.take 17 (AV.bool true :: bys X))).length + (l.length - 40)) + 200) * 1 ≤ 281474976710656 ∧ some 1 = some 1 ∧ 24 + (adrBytes (List.take 17 (AV.bool true :: bys X))).length + (l.length - 40) ≤ 70368744177664 then
                                (if 0 + (24 + (adrBytes (List.take 17 (AV.bool true :: bys X))).length) * 1 ≤ (List.take 24 (List.take 24 (bys l)) ++ List.take ((adrBytes (List.take 17 (AV.bool true :: bys X))).length * 1) (bys (adrBytes (List.take 17 (AV.bool true :: bys X))))).length then
                                  (if 0 = 0 ∧ 0 + (24 + (adrBytes (List.take 17 (AV.bool true :: bys X))).length) * 1 = (List.take 24 (List.take 24 (bys l)) ++ List.take ((adrBytes (List.take 17 (AV.bool true :: bys X))).length * 1) (bys (adrBytes (List.take 17 (AV.bool true :: bys X))))).length ∧ (0 < l.length - 40 ∨ 0 = 0) ∧ 1 = 1 ∧ (List.take ((l.length - 40) * 1) (List.drop 40 (bys l))).all AV.isCell = true then
                                    (if 17 ≤ (AV.bool true :: bys X).length then
                                      (if (AV.agg (List.take 17 (AV.bool true :: bys X))).beq (AV.agg (List.take 17 (AV.bool true :: bys X))) = true then
                                        (if 17 ≤ (AV.bool true :: bys X).length then
                                          (if (AV.agg (List.take 17 (AV.bool true :: bys X))).beq (AV.agg (List.take 17 (AV.bool true :: bys X))) = true then
                                            K (AV.sl (some (7, 0)) (24 + (adrBytes (List.take 17 (AV.bool true :: bys X))).length + (l.length - 40)) 0 false) ((hRDst6T2 l X))
                                          else none)
                                        else none)
                                      else none)
                                    else none)
                                  else none)
                                else none)
                              else none)
                            else none)
                          else none)
                        else none)
                      else none)
                    else none)
                  else none)
                else none)
              else none)
            else none)
          else none)
        else none))
    else none) := by
  kernel_rfl

noncomputable def hRDst6F0 (l X : List UInt8) : AHeap := [ABlk.cells (bys l) 1 Md.far none, ABlk.cells (AV.bool false :: bys X) 17 Md.own none]
noncomputable def hRDst6F1 (l X : List UInt8) : AHeap := [ABlk.cells (bys l) 1 Md.far none, ABlk.cells (AV.bool false :: bys X) 17 Md.own none, ABlk.cells [AV.int IntKind.i64 (z6 (bOf (hRDst6F0 l X) (AV.sl (some (0, 0)) l.length 0 false)) 40), AV.int IntKind.i64 (z6 (bOf (hRDst6F0 l X) (AV.sl (some (0, 0)) l.length 0 false)) (40 + word (bOf (hRDst6F0 l X) (AV.sl (some (0, 0)) l.length 0 false)) 4)), AV.int IntKind.u8 (z6 (bOf (hRDst6F0 l X) (AV.sl (some (0, 0)) l.length 0 false)) (byt (bOf (hRDst6F0 l X) (AV.sl (some (0, 0)) l.length 0 false)) 6)), AV.bool (decide (r6 (bOf (hRDst6F0 l X) (AV.sl (some (0, 0)) l.length 0 false)) = 0)), AV.int IntKind.u8 (z6 (bOf (hRDst6F0 l X) (AV.sl (some (0, 0)) l.length 0 false)) (byt (bOf (hRDst6F0 l X) (AV.sl (some (0, 0)) l.length 0 false)) 8)), AV.int IntKind.u8 (z6 (bOf (hRDst6F0 l X) (AV.sl (some (0, 0)) l.length 0 false)) (byt (bOf (hRDst6F0 l X) (AV.sl (some (0, 0)) l.length 0 false)) 9)), AV.int IntKind.u8 (z6 (bOf (hRDst6F0 l X) (AV.sl (some (0, 0)) l.length 0 false)) (byt (bOf (hRDst6F0 l X) (AV.sl (some (0, 0)) l.length 0 false)) 10)), AV.int IntKind.u8 (z6 (bOf (hRDst6F0 l X) (AV.sl (some (0, 0)) l.length 0 false)) (byt (bOf (hRDst6F0 l X) (AV.sl (some (0, 0)) l.length 0 false)) 11)), AV.int IntKind.u8 (z6 (bOf (hRDst6F0 l X) (AV.sl (some (0, 0)) l.length 0 false)) (byt (bOf (hRDst6F0 l X) (AV.sl (some (0, 0)) l.length 0 false)) 12)), AV.int IntKind.u8 (z6 (bOf (hRDst6F0 l X) (AV.sl (some (0, 0)) l.length 0 false)) (byt (bOf (hRDst6F0 l X) (AV.sl (some (0, 0)) l.length 0 false)) 13)), AV.int IntKind.u8 (z6 (bOf (hRDst6F0 l X) (AV.sl (some (0, 0)) l.length 0 false)) (byt (bOf (hRDst6F0 l X) (AV.sl (some (0, 0)) l.length 0 false)) 14)), AV.int IntKind.u8 (z6 (bOf (hRDst6F0 l X) (AV.sl (some (0, 0)) l.length 0 false)) (byt (bOf (hRDst6F0 l X) (AV.sl (some (0, 0)) l.length 0 false)) 15)), AV.int IntKind.u8 (z6 (bOf (hRDst6F0 l X) (AV.sl (some (0, 0)) l.length 0 false)) (byt (bOf (hRDst6F0 l X) (AV.sl (some (0, 0)) l.length 0 false)) 16)), AV.int IntKind.u8 (z6 (bOf (hRDst6F0 l X) (AV.sl (some (0, 0)) l.length 0 false)) (byt (bOf (hRDst6F0 l X) (AV.sl (some (0, 0)) l.length 0 false)) 17)), AV.int IntKind.u8 (z6 (bOf (hRDst6F0 l X) (AV.sl (some (0, 0)) l.length 0 false)) (byt (bOf (hRDst6F0 l X) (AV.sl (some (0, 0)) l.length 0 false)) 18)), AV.int IntKind.u8 (z6 (bOf (hRDst6F0 l X) (AV.sl (some (0, 0)) l.length 0 false)) (byt (bOf (hRDst6F0 l X) (AV.sl (some (0, 0)) l.length 0 false)) 19)), AV.int IntKind.u8 (z6 (bOf (hRDst6F0 l X) (AV.sl (some (0, 0)) l.length 0 false)) (byt (bOf (hRDst6F0 l X) (AV.sl (some (0, 0)) l.length 0 false)) 20)), AV.int IntKind.u8 (z6 (bOf (hRDst6F0 l X) (AV.sl (some (0, 0)) l.length 0 false)) (byt (bOf (hRDst6F0 l X) (AV.sl (some (0, 0)) l.length 0 false)) 21)), AV.int IntKind.u8 (z6 (bOf (hRDst6F0 l X) (AV.sl (some (0, 0)) l.length 0 false)) (byt (bOf (hRDst6F0 l X) (AV.sl (some (0, 0)) l.length 0 false)) 22)), AV.int IntKind.u8 (z6 (bOf (hRDst6F0 l X) (AV.sl (some (0, 0)) l.length 0 false)) (byt (bOf (hRDst6F0 l X) (AV.sl (some (0, 0)) l.length 0 false)) 23)), AV.bool (decide (r6 (bOf (hRDst6F0 l X) (AV.sl (some (0, 0)) l.length 0 false)) = 0)), AV.int IntKind.u8 (z6 (bOf (hRDst6F0 l X) (AV.sl (some (0, 0)) l.length 0 false)) (byt (bOf (hRDst6F0 l X) (AV.sl (some (0, 0)) l.length 0 false)) 24)), AV.int IntKind.u8 (z6 (bOf (hRDst6F0 l X) (AV.sl (some (0, 0)) l.length 0 false)) (byt (bOf (hRDst6F0 l X) (AV.sl (some (0, 0)) l.length 0 false)) 25)), AV.int IntKind.u8 (z6 (bOf (hRDst6F0 l X) (AV.sl (some (0, 0)) l.length 0 false)) (byt (bOf (hRDst6F0 l X) (AV.sl (some (0, 0)) l.length 0 false)) 26)), AV.int IntKind.u8 (z6 (bOf (hRDst6F0 l X) (AV.sl (some (0, 0)) l.length 0 false)) (byt (bOf (hRDst6F0 l X) (AV.sl (some (0, 0)) l.length 0 false)) 27)), AV.int IntKind.u8 (z6 (bOf (hRDst6F0 l X) (AV.sl (some (0, 0)) l.length 0 false)) (byt (bOf (hRDst6F0 l X) (AV.sl (some (0, 0)) l.length 0 false)) 28)), AV.int IntKind.u8 (z6 (bOf (hRDst6F0 l X) (AV.sl (some (0, 0)) l.length 0 false)) (byt (bOf (hRDst6F0 l X) (AV.sl (some (0, 0)) l.length 0 false)) 29)), AV.int IntKind.u8 (z6 (bOf (hRDst6F0 l X) (AV.sl (some (0, 0)) l.length 0 false)) (byt (bOf (hRDst6F0 l X) (AV.sl (some (0, 0)) l.length 0 false)) 30)), AV.int IntKind.u8 (z6 (bOf (hRDst6F0 l X) (AV.sl (some (0, 0)) l.length 0 false)) (byt (bOf (hRDst6F0 l X) (AV.sl (some (0, 0)) l.length 0 false)) 31)), AV.int IntKind.u8 (z6 (bOf (hRDst6F0 l X) (AV.sl (some (0, 0)) l.length 0 false)) (byt (bOf (hRDst6F0 l X) (AV.sl (some (0, 0)) l.length 0 false)) 32)), AV.int IntKind.u8 (z6 (bOf (hRDst6F0 l X) (AV.sl (some (0, 0)) l.length 0 false)) (byt (bOf (hRDst6F0 l X) (AV.sl (some (0, 0)) l.length 0 false)) 33)), AV.int IntKind.u8 (z6 (bOf (hRDst6F0 l X) (AV.sl (some (0, 0)) l.length 0 false)) (byt (bOf (hRDst6F0 l X) (AV.sl (some (0, 0)) l.length 0 false)) 34)), AV.int IntKind.u8 (z6 (bOf (hRDst6F0 l X) (AV.sl (some (0, 0)) l.length 0 false)) (byt (bOf (hRDst6F0 l X) (AV.sl (some (0, 0)) l.length 0 false)) 35)), AV.int IntKind.u8 (z6 (bOf (hRDst6F0 l X) (AV.sl (some (0, 0)) l.length 0 false)) (byt (bOf (hRDst6F0 l X) (AV.sl (some (0, 0)) l.length 0 false)) 36)), AV.int IntKind.u8 (z6 (bOf (hRDst6F0 l X) (AV.sl (some (0, 0)) l.length 0 false)) (byt (bOf (hRDst6F0 l X) (AV.sl (some (0, 0)) l.length 0 false)) 37)), AV.int IntKind.u8 (z6 (bOf (hRDst6F0 l X) (AV.sl (some (0, 0)) l.length 0 false)) (byt (bOf (hRDst6F0 l X) (AV.sl (some (0, 0)) l.length 0 false)) 38)), AV.int IntKind.u8 (z6 (bOf (hRDst6F0 l X) (AV.sl (some (0, 0)) l.length 0 false)) (byt (bOf (hRDst6F0 l X) (AV.sl (some (0, 0)) l.length 0 false)) 39))] 37 Md.own none]
theorem nfRDst6F {R : Type} (l X : List UInt8) (K : AV → AHeap → Option R) :
    qrun Try.prog tRDst6 100 4 [] [] 14 [slB 0 l, .agg (.bool false :: bys X)] [farB l] K =
    (if (bOk (hRDst6F0 l X) (AV.sl (some (0, 0)) l.length 0 false) && decide (nOf (AV.sl (some (0, 0)) l.length 0 false) ≤ 1000000000000)) = true then
      (if (r6 (bOf (hRDst6F0 l X) (AV.sl (some (0, 0)) l.length 0 false)) != 0) = true then
        K (AV.sl none 0 0 true) ((hRDst6F1 l X))
      else K (AV.sl none 0 0 true) ((hRDst6F1 l X)))
    else none) := by
  kernel_rfl

noncomputable def hMk6TT0 (pr n : Int) (X Y : List UInt8) : AHeap := [ABlk.cells (AV.bool true :: bys X) 17 Md.own none, ABlk.cells (AV.bool true :: bys Y) 17 Md.own none]
noncomputable def hMk6TT1 (pr n : Int) (X Y : List UInt8) : AHeap := [ABlk.cells (AV.bool true :: bys X) 17 Md.own none, ABlk.cells (AV.bool true :: bys Y) 17 Md.own none, ABlk.cells [AV.int IntKind.u8 (((byteD (AV.int IntKind.u8 96)).toNat : Nat) : Int), AV.int IntKind.u8 0, AV.int IntKind.u8 0, AV.int IntKind.u8 0, AV.int IntKind.u8 (((u8i ((IntKind.u16.wrap n).fdiv 256)).toNat : Nat) : Int), AV.int IntKind.u8 (((u8i ((IntKind.u16.wrap n).fdiv 1)).toNat : Nat) : Int), AV.int IntKind.u8 (((byteD (AV.int IntKind.u8 pr)).toNat : Nat) : Int), AV.int IntKind.u8 (((byteD (AV.int IntKind.u8 64)).toNat : Nat) : Int), AV.int IntKind.u8 0, AV.int IntKind.u8 0, AV.int IntKind.u8 0, AV.int IntKind.u8 0, AV.int IntKind.u8 0, AV.int IntKind.u8 0, AV.int IntKind.u8 0, AV.int IntKind.u8 0, AV.int IntKind.u8 0, AV.int IntKind.u8 0, AV.int IntKind.u8 0, AV.int IntKind.u8 0, AV.int IntKind.u8 0, AV.int IntKind.u8 0, AV.int IntKind.u8 0, AV.int IntKind.u8 0, AV.int IntKind.u8 0, AV.int IntKind.u8 0, AV.int IntKind.u8 0, AV.int IntKind.u8 0, AV.int IntKind.u8 0, AV.int IntKind.u8 0, AV.int IntKind.u8 0, AV.int IntKind.u8 0, AV.int IntKind.u8 0, AV.int IntKind.u8 0, AV.int IntKind.u8 0, AV.int IntKind.u8 0, AV.int IntKind.u8 0, AV.int IntKind.u8 0, AV.int IntKind.u8 0, AV.int IntKind.u8 0] 1 Md.own none]
noncomputable def hMk6TT2 (pr n : Int) (X Y : List UInt8) : AHeap := [ABlk.cells (AV.bool true :: bys X) 17 Md.own none, ABlk.cells (AV.bool true :: bys Y) 17 Md.own none, ABlk.cells (putCells [AV.int IntKind.u8 (((byteD (AV.int IntKind.u8 96)).toNat : Nat) : Int), AV.int IntKind.u8 0, AV.int IntKind.u8 0, AV.int IntKind.u8 0, AV.int IntKind.u8 (((u8i ((IntKind.u16.wrap n).fdiv 256)).toNat : Nat) : Int), AV.int IntKind.u8 (((u8i ((IntKind.u16.wrap n).fdiv 1)).toNat : Nat) : Int), AV.int IntKind.u8 (((byteD (AV.int IntKind.u8 pr)).toNat : Nat) : Int), AV.int IntKind.u8 (((byteD (AV.int IntKind.u8 64)).toNat : Nat) : Int), AV.int IntKind.u8 0, AV.int IntKind.u8 0, AV.int IntKind.u8 0, AV.int IntKind.u8 0, AV.int IntKind.u8 0, AV.int IntKind.u8 0, AV.int IntKind.u8 0, AV.int IntKind.u8 0, AV.int IntKind.u8 0, AV.int IntKind.u8 0, AV.int IntKind.u8 0, AV.int IntKind.u8 0, AV.int IntKind.u8 0, AV.int IntKind.u8 0, AV.int IntKind.u8 0, AV.int IntKind.u8 0, AV.int IntKind.u8 0, AV.int IntKind.u8 0, AV.int IntKind.u8 0, AV.int IntKind.u8 0, AV.int IntKind.u8 0, AV.int IntKind.u8 0, AV.int IntKind.u8 0, AV.int IntKind.u8 0, AV.int IntKind.u8 0, AV.int IntKind.u8 0, AV.int IntKind.u8 0, AV.int IntKind.u8 0, AV.int IntKind.u8 0, AV.int IntKind.u8 0, AV.int IntKind.u8 0, AV.int IntKind.u8 0] 24 (List.take 16 (List.drop 1 (AV.bool true :: bys Y)))) 1 Md.own none]
noncomputable def hMk6TT3 (pr n : Int) (X Y : List UInt8) : AHeap := [ABlk.cells (AV.bool true :: bys X) 17 Md.own none, ABlk.cells (AV.bool true :: bys Y) 17 Md.own none, ABlk.cells (putCells [AV.int IntKind.u8 (((byteD (AV.int IntKind.u8 96)).toNat : Nat) : Int), AV.int IntKind.u8 0, AV.int IntKind.u8 0, AV.int IntKind.u8 0, AV.int IntKind.u8 (((u8i ((IntKind.u16.wrap n).fdiv 256)).toNat : Nat) : Int), AV.int IntKind.u8 (((u8i ((IntKind.u16.wrap n).fdiv 1)).toNat : Nat) : Int), AV.int IntKind.u8 (((byteD (AV.int IntKind.u8 pr)).toNat : Nat) : Int), AV.int IntKind.u8 (((byteD (AV.int IntKind.u8 64)).toNat : Nat) : Int), AV.int IntKind.u8 0, AV.int IntKind.u8 0, AV.int IntKind.u8 0, AV.int IntKind.u8 0, AV.int IntKind.u8 0, AV.int IntKind.u8 0, AV.int IntKind.u8 0, AV.int IntKind.u8 0, AV.int IntKind.u8 0, AV.int IntKind.u8 0, AV.int IntKind.u8 0, AV.int IntKind.u8 0, AV.int IntKind.u8 0, AV.int IntKind.u8 0, AV.int IntKind.u8 0, AV.int IntKind.u8 0, AV.int IntKind.u8 0, AV.int IntKind.u8 0, AV.int IntKind.u8 0, AV.int IntKind.u8 0, AV.int IntKind.u8 0, AV.int IntKind.u8 0, AV.int IntKind.u8 0, AV.int IntKind.u8 0, AV.int IntKind.u8 0, AV.int IntKind.u8 0, AV.int IntKind.u8 0, AV.int IntKind.u8 0, AV.int IntKind.u8 0, AV.int IntKind.u8 0, AV.int IntKind.u8 0, AV.int IntKind.u8 0] 8 (List.take 16 (List.drop 1 (AV.bool true :: bys X)))) 1 Md.own none]
noncomputable def hMk6TT4 (pr n : Int) (X Y : List UInt8) : AHeap := [ABlk.cells (AV.bool true :: bys X) 17 Md.own none, ABlk.cells (AV.bool true :: bys Y) 17 Md.own none, ABlk.cells (putCells (putCells [AV.int IntKind.u8 (((byteD (AV.int IntKind.u8 96)).toNat : Nat) : Int), AV.int IntKind.u8 0, AV.int IntKind.u8 0, AV.int IntKind.u8 0, AV.int IntKind.u8 (((u8i ((IntKind.u16.wrap n).fdiv 256)).toNat : Nat) : Int), AV.int IntKind.u8 (((u8i ((IntKind.u16.wrap n).fdiv 1)).toNat : Nat) : Int), AV.int IntKind.u8 (((byteD (AV.int IntKind.u8 pr)).toNat : Nat) : Int), AV.int IntKind.u8 (((byteD (AV.int IntKind.u8 64)).toNat : Nat) : Int), AV.int IntKind.u8 0, AV.int IntKind.u8 0, AV.int IntKind.u8 0, AV.int IntKind.u8 0, AV.int IntKind.u8 0, AV.int IntKind.u8 0, AV.int IntKind.u8 0, AV.int IntKind.u8 0, AV.int IntKind.u8 0, AV.int IntKind.u8 0, AV.int IntKind.u8 0, AV.int IntKind.u8 0, AV.int IntKind.u8 0, AV.int IntKind.u8 0, AV.int IntKind.u8 0, AV.int IntKind.u8 0, AV.int IntKind.u8 0, AV.int IntKind.u8 0, AV.int IntKind.u8 0, AV.int IntKind.u8 0, AV.int IntKind.u8 0, AV.int IntKind.u8 0, AV.int IntKind.u8 0, AV.int IntKind.u8 0, AV.int IntKind.u8 0, AV.int IntKind.u8 0, AV.int IntKind.u8 0, AV.int IntKind.u8 0, AV.int IntKind.u8 0, AV.int IntKind.u8 0, AV.int IntKind.u8 0, AV.int IntKind.u8 0] 8 (List.take 16 (List.drop 1 (AV.bool true :: bys X)))) 24 (List.take 16 (List.drop 1 (AV.bool true :: bys Y)))) 1 Md.own none]
theorem nfMk6TT {R : Type} (pr n : Int) (X Y : List UInt8) (K : AV → AHeap → Option R) :
    qrun Try.prog tMk6 100 4 [] [] 11 [.agg (.bool true :: bys X), .agg (.bool true :: bys Y), .int .u8 pr, .int .i64 n] [] K =
    (if decide (n < 0) = true then
      K (AV.tup [AV.sl none 0 0 true, AV.bool false]) ((hMk6TT0 pr n X Y))
    else (if decide (n > 65535) = true then
        K (AV.tup [AV.sl none 0 0 true, AV.bool false]) ((hMk6TT0 pr n X Y))
      else (if cdec (0 = 0 ∧ 0 = 0 ∧ false = false ∧ 1 = 1 ∧ 40 = [AV.int IntKind.u8 96, AV.int IntKind.u8 0, AV.int IntKind.u8 0, AV.int IntKind.u8 0, AV.int IntKind.u8 0, AV.int IntKind.u8 0, AV.int IntKind.u8 pr, AV.int IntKind.u8 64, AV.int IntKind.u8 0, AV.int IntKind.u8 0, AV.int IntKind.u8 0, AV.int IntKind.u8 0, AV.int IntKind.u8 0, AV.int IntKind.u8 0, AV.int IntKind.u8 0, AV.int IntKind.u8 0, AV.int IntKind.u8 0, AV.int IntKind.u8 0, AV.int IntKind.u8 0, AV.int IntKind.u8 0, AV.int IntKind.u8 0, AV.int IntKind.u8 0, AV.int IntKind.u8 0, AV.int IntKind.u8 0, AV.int IntKind.u8 0, AV.int IntKind.u8 0, AV.int IntKind.u8 0, AV.int IntKind.u8 0, AV.int IntKind.u8 0, AV.int IntKind.u8 0, AV.int IntKind.u8 0, AV.int IntKind.u8 0, AV.int IntKind.u8 0, AV.int IntKind.u8 0, AV.int IntKind.u8 0, AV.int IntKind.u8 0, AV.int IntKind.u8 0, AV.int IntKind.u8 0, AV.int IntKind.u8 0, AV.int IntKind.u8 0].length ∧ 40 ≤ 1000000000000 ∧ [AV.int IntKind.u8 96, AV.int IntKind.u8 0, AV.int IntKind.u8 0, AV.int IntKind.u8 0, AV.int IntKind.u8 0, AV.int IntKind.u8 0, AV.int IntKind.u8 pr, AV.int IntKind.u8 64, AV.int IntKind.u8 0, AV.int IntKind.u8 0, AV.int IntKind.u8 0, AV.int IntKind.u8 0, AV.int IntKind.u8 0, AV.int IntKind.u8 0, AV.int IntKind.u8 0, AV.int IntKind.u8 0, AV.int IntKind.u8 0, AV.int IntKind.u8 0, AV.int IntKind.u8 0, AV.int IntKind.u8 0, AV.int IntKind.u8 0, AV.int IntKind.u8 0, AV.int IntKind.u8 0, AV.int IntKind.u8 0, AV.int IntKind.u8 0, AV.int IntKind.u8 0, AV.int IntKind.u8 0, AV.int IntKind.u8 0, AV.int IntKind.u8 0, AV.int IntKind.u8 0, AV.int IntKind.u8 0, AV.int IntKind.u8 0, AV.int IntKind.u8 0, AV.int IntKind.u8 0, AV.int IntKind.u8 0, AV.int IntKind.u8 0, AV.int IntKind.u8 0, AV.int IntKind.u8 0, AV.int IntKind.u8 0, AV.int IntKind.u8 0].all isByteR = true ∧ 0 ≤ IntKind.u16.wrap n ∧ IntKind.u16.wrap n < 65536 ∧ none ≠ some 2) = true then
          (if 17 ≤ (AV.bool true :: bys X).length then
            (if (List.take 16 (List.drop 1 (AV.bool true :: bys X))).length = 0 then
              (if 17 ≤ (AV.bool true :: bys Y).length then
                (if (List.take 16 (List.drop 1 (AV.bool true :: bys Y))).length = 0 then
                  K (AV.tup [AV.sl (some (2, 0)) 40 0 false, AV.bool true]) ((hMk6TT1 pr n X Y))
                else (if 24 + (List.take 16 (List.drop 1 (AV.bool true :: bys Y))).length ≤ [AV.int IntKind.u8 (((byteD (AV.int IntKind.u8 96)).toNat : Nat) : Int), AV.int IntKind.u8 0, AV.int IntKind.u8 0, AV.int IntKind.u8 0, AV.int IntKind.u8 (((u8i ((IntKind.u16.wrap n).fdiv 256)).toNat : Nat) : Int), AV.int IntKind.u8 (((u8i ((IntKind.u16.wrap n).fdiv 1)).toNat : Nat) : Int), AV.int IntKind.u8 (((byteD (AV.int IntKind.u8 pr)).toNat : Nat) : Int), AV.int IntKind.u8 (((byteD (AV.int IntKind.u8 64)).toNat : Nat) : Int), AV.int IntKind.u8 0, AV.int IntKind.u8 0, AV.int IntKind.u8 0, AV.int IntKind.u8 0, AV.int IntKind.u8 0, AV.int IntKind.u8 0, AV.int IntKind.u8 0, AV.int IntKind.u8 0, AV.int IntKind.u8 0, AV.int IntKind.u8 0, AV.int IntKind.u8 0, AV.int IntKind.u8 0, AV.int IntKind.u8 0, AV.int IntKind.u8 0, AV.int IntKind.u8 0, AV.int IntKind.u8 0, AV.int IntKind.u8 0, AV.int IntKind.u8 0, AV.int IntKind.u8 0, AV.int IntKind.u8 0, AV.int IntKind.u8 0, AV.int IntKind.u8 0, AV.int IntKind.u8 0, AV.int IntKind.u8 0, AV.int IntKind.u8 0, AV.int IntKind.u8 0, AV.int IntKind.u8 0, AV.int IntKind.u8 0, AV.int IntKind.u8 0, AV.int IntKind.u8 0, AV.int IntKind.u8 0, AV.int IntKind.u8 0].length ∧ (List.take 16 (List.drop 1 (AV.bool true :: bys Y))).all AV.isCell = true then
                    K (AV.tup [AV.sl (some (2, 0)) 40 0 false, AV.bool true]) ((hMk6TT2 pr n X Y))
                  else none))
              else none)
            else (if 8 + (List.take 16 (List.drop 1 (AV.bool true :: bys X))).length ≤ [AV.int IntKind.u8 (((byteD (AV.int IntKind.u8 96)).toNat : Nat) : Int), AV.int IntKind.u8 0, AV.int IntKind.u8 0, AV.int IntKind.u8 0, AV.int IntKind.u8 (((u8i ((IntKind.u16.wrap n).fdiv 256)).toNat : Nat) : Int), AV.int IntKind.u8 (((u8i ((IntKind.u16.wrap n).fdiv 1)).toNat : Nat) : Int), AV.int IntKind.u8 (((byteD (AV.int IntKind.u8 pr)).toNat : Nat) : Int), AV.int IntKind.u8 (((byteD (AV.int IntKind.u8 64)).toNat : Nat) : Int), AV.int IntKind.u8 0, AV.int IntKind.u8 0, AV.int IntKind.u8 0, AV.int IntKind.u8 0, AV.int IntKind.u8 0, AV.int IntKind.u8 0, AV.int IntKind.u8 0, AV.int IntKind.u8 0, AV.int IntKind.u8 0, AV.int IntKind.u8 0, AV.int IntKind.u8 0, AV.int IntKind.u8 0, AV.int IntKind.u8 0, AV.int IntKind.u8 0, AV.int IntKind.u8 0, AV.int IntKind.u8 0, AV.int IntKind.u8 0, AV.int IntKind.u8 0, AV.int IntKind.u8 0, AV.int IntKind.u8 0, AV.int IntKind.u8 0, AV.int IntKind.u8 0, AV.int IntKind.u8 0, AV.int IntKind.u8 0, AV.int IntKind.u8 0, AV.int IntKind.u8 0, AV.int IntKind.u8 0, AV.int IntKind.u8 0, AV.int IntKind.u8 0, AV.int IntKind.u8 0, AV.int IntKind.u8 0, AV.int IntKind.u8 0].length ∧ (List.take 16 (List.drop 1 (AV.bool true :: bys X))).all AV.isCell = true then
                (if 17 ≤ (AV.bool true :: bys Y).length then
                  (if (List.take 16 (List.drop 1 (AV.bool true :: bys Y))).length = 0 then
                    K (AV.tup [AV.sl (some (2, 0)) 40 0 false, AV.bool true]) ((hMk6TT3 pr n X Y))
                  else (if 24 + (List.take 16 (List.drop 1 (AV.bool true :: bys Y))).length ≤ (putCells [AV.int IntKind.u8 (((byteD (AV.int IntKind.u8 96)).toNat : Nat) : Int), AV.int IntKind.u8 0, AV.int IntKind.u8 0, AV.int IntKind.u8 0, AV.int IntKind.u8 (((u8i ((IntKind.u16.wrap n).fdiv 256)).toNat : Nat) : Int), AV.int IntKind.u8 (((u8i ((IntKind.u16.wrap n).fdiv 1)).toNat : Nat) : Int), AV.int IntKind.u8 (((byteD (AV.int IntKind.u8 pr)).toNat : Nat) : Int), AV.int IntKind.u8 (((byteD (AV.int IntKind.u8 64)).toNat : Nat) : Int), AV.int IntKind.u8 0, AV.int IntKind.u8 0, AV.int IntKind.u8 0, AV.int IntKind.u8 0, AV.int IntKind.u8 0, AV.int IntKind.u8 0, AV.int IntKind.u8 0, AV.int IntKind.u8 0, AV.int IntKind.u8 0, AV.int IntKind.u8 0, AV.int IntKind.u8 0, AV.int IntKind.u8 0, AV.int IntKind.u8 0, AV.int IntKind.u8 0, AV.int IntKind.u8 0, AV.int IntKind.u8 0, AV.int IntKind.u8 0, AV.int IntKind.u8 0, AV.int IntKind.u8 0, AV.int IntKind.u8 0, AV.int IntKind.u8 0, AV.int IntKind.u8 0, AV.int IntKind.u8 0, AV.int IntKind.u8 0, AV.int IntKind.u8 0, AV.int IntKind.u8 0, AV.int IntKind.u8 0, AV.int IntKind.u8 0, AV.int IntKind.u8 0, AV.int IntKind.u8 0, AV.int IntKind.u8 0, AV.int IntKind.u8 0] 8 (List.take 16 (List.drop 1 (AV.bool true :: bys X)))).length ∧ (List.take 16 (List.drop 1 (AV.bool true :: bys Y))).all AV.isCell = true then
                      K (AV.tup [AV.sl (some (2, 0)) 40 0 false, AV.bool true]) ((hMk6TT4 pr n X Y))
                    else none))
                else none)
              else none))
          else none)
        else none))) := by
  kernel_rfl

noncomputable def hMk6TF0 (pr n : Int) (X Y : List UInt8) : AHeap := [ABlk.cells (AV.bool true :: bys X) 17 Md.own none, ABlk.cells (AV.bool false :: bys Y) 17 Md.own none]
theorem nfMk6TF {R : Type} (pr n : Int) (X Y : List UInt8) (K : AV → AHeap → Option R) :
    qrun Try.prog tMk6 100 4 [] [] 11 [.agg (.bool true :: bys X), .agg (.bool false :: bys Y), .int .u8 pr, .int .i64 n] [] K =
    K (AV.tup [AV.sl none 0 0 true, AV.bool false]) ((hMk6TF0 pr n X Y)) := by
  kernel_rfl

noncomputable def hMk6FT0 (pr n : Int) (X Y : List UInt8) : AHeap := [ABlk.cells (AV.bool false :: bys X) 17 Md.own none, ABlk.cells (AV.bool true :: bys Y) 17 Md.own none]
theorem nfMk6FT {R : Type} (pr n : Int) (X Y : List UInt8) (K : AV → AHeap → Option R) :
    qrun Try.prog tMk6 100 4 [] [] 11 [.agg (.bool false :: bys X), .agg (.bool true :: bys Y), .int .u8 pr, .int .i64 n] [] K =
    K (AV.tup [AV.sl none 0 0 true, AV.bool false]) ((hMk6FT0 pr n X Y)) := by
  kernel_rfl

noncomputable def hMk6FF0 (pr n : Int) (X Y : List UInt8) : AHeap := [ABlk.cells (AV.bool false :: bys X) 17 Md.own none, ABlk.cells (AV.bool false :: bys Y) 17 Md.own none]
theorem nfMk6FF {R : Type} (pr n : Int) (X Y : List UInt8) (K : AV → AHeap → Option R) :
    qrun Try.prog tMk6 100 4 [] [] 11 [.agg (.bool false :: bys X), .agg (.bool false :: bys Y), .int .u8 pr, .int .i64 n] [] K =
    K (AV.tup [AV.sl none 0 0 true, AV.bool false]) ((hMk6FF0 pr n X Y)) := by
  kernel_rfl

noncomputable def hRMk6TT0 (pr n : Int) (X Y : List UInt8) : AHeap := [ABlk.cells (AV.bool true :: bys X) 17 Md.own none, ABlk.cells (AV.bool true :: bys Y) 17 Md.own none]
noncomputable def hRMk6TT1 (pr n : Int) (X Y : List UInt8) : AHeap := [ABlk.cells (AV.bool true :: bys X) 17 Md.own none, ABlk.cells (AV.bool true :: bys Y) 17 Md.own none, ABlk.dead, ABlk.cells (bys (adrBytes (List.take 17 (AV.bool true :: bys X)))) 1 Md.own none, ABlk.cells ([AV.int IntKind.u8 96, AV.int IntKind.u8 0, AV.int IntKind.u8 0, AV.int IntKind.u8 0, AV.int IntKind.u8 (IntKind.u8.wrap (n.fdiv 256)), AV.int IntKind.u8 (IntKind.u8.wrap n), AV.int IntKind.u8 pr, AV.int IntKind.u8 64] ++ List.take ((adrBytes (List.take 17 (AV.bool true :: bys X))).length * 1) (bys (adrBytes (List.take 17 (AV.bool true :: bys X))))) 1 Md.ro none, ABlk.cells (bys (adrBytes (List.take 17 (AV.bool true :: bys Y)))) 1 Md.own none, ABlk.cells (List.take ((8 + (adrBytes (List.take 17 (AV.bool true :: bys X))).length) * 1) ([AV.int IntKind.u8 96, AV.int IntKind.u8 0, AV.int IntKind.u8 0, AV.int IntKind.u8 0, AV.int IntKind.u8 (IntKind.u8.wrap (n.fdiv 256)), AV.int IntKind.u8 (IntKind.u8.wrap n), AV.int IntKind.u8 pr, AV.int IntKind.u8 64] ++ List.take ((adrBytes (List.take 17 (AV.bool true :: bys X))).length * 1) (bys (adrBytes (List.take 17 (AV.bool true :: bys X))))) ++ List.take ((adrBytes (List.take 17 (AV.bool true :: bys Y))).length * 1) (bys (adrBytes (List.take 17 (AV.bool true :: bys Y))))) 1 Md.own (some 4)]
theorem nfRMk6TT {R : Type} (pr n : Int) (X Y : List UInt8) (K : AV → AHeap → Option R) :
    qrun Try.prog tRMk6 100 4 [] [] 12 [.agg (.bool true :: bys X), .agg (.bool true :: bys Y), .int .u8 pr, .int .i64 n] [] K =
    (if decide (n < 0) = true then
      K (AV.tup [AV.sl none 0 0 true, AV.bool false]) ((hRMk6TT0 pr n X Y))
    else (if decide (n > 65535) = true then
        K (AV.tup [AV.sl none 0 0 true, AV.bool false]) ((hRMk6TT0 pr n X Y))
      else (if 17 ≤ (AV.bool true :: bys X).length then
          (if adrWf (List.take 17 (AV.bool true :: bys X)) = true then
            (if 0 + (adrBytes (List.take 17 (AV.bool true :: bys X))).length * 1 ≤ (bys (adrBytes (List.take 17 (AV.bool true :: bys X)))).length then
              (if (2 * (8 + (adrBytes (List.take 17 (AV.bool true :: bys X))).length) + 200) * 1 ≤ 281474976710656 ∧ some 1 = some 1 ∧ 8 + (adrBytes (List.take 17 (AV.bool true :: bys X))).length ≤ 70368744177664 then
                (if 0 = 0 ∧ 8 = [AV.int IntKind.u8 96, AV.int IntKind.u8 0, AV.int IntKind.u8 0, AV.int IntKind.u8 0, AV.int IntKind.u8 (IntKind.u8.wrap (n.fdiv 256)), AV.int IntKind.u8 (IntKind.u8.wrap n), AV.int IntKind.u8 pr, AV.int IntKind.u8 64].length ∧ (0 < (adrBytes (List.take 17 (AV.bool true :: bys X))).length ∨ 0 = 0) ∧ 1 = 1 ∧ (List.take ((adrBytes (List.take 17 (AV.bool true :: bys X))).length * 1) (bys (adrBytes (List.take 17 (AV.bool true :: bys X))))).all AV.isCell = true then
                  (if 17 ≤ (AV.bool true :: bys Y).length then
                    (if adrWf (List.take 17 (AV.bool true :: bys Y)) = true then
                      (if 0 + (adrBytes (List.take 17 (AV.bool true :: bys Y))).length * 1 ≤ (bys (adrBytes (List.take 17 (AV.bool true :: bys Y)))).length then
                        (if (2 * (8 + (adrBytes (List.take 17 (AV.bool true :: bys X))).length + (adrBytes (List.take 17 (AV.bool true :: bys Y))).length) + 200) * 1 ≤ 281474976710656 ∧ some 1 = some 1 ∧ 8 + (adrBytes (List.take 17 (AV.bool true :: bys X))).length + (adrBytes (List.take 17 (AV.bool true :: bys Y))).length ≤ 70368744177664 then
                          (if 0 + (8 + (adrBytes (List.take 17 (AV.bool true :: bys X))).length) * 1 ≤ ([AV.int IntKind.u8 96, AV.int IntKind.u8 0, AV.int IntKind.u8 0, AV.int IntKind.u8 0, AV.int IntKind.u8 (IntKind.u8.wrap (n.fdiv 256)), AV.int IntKind.u8 (IntKind.u8.wrap n), AV.int IntKind.u8 pr, AV.int IntKind.u8 64] ++ List.take ((adrBytes (List.take 17 (AV.bool true :: bys X))).length * 1) (bys (adrBytes (List.take 17 (AV.bool true :: bys X))))).length then
                            (if 0 = 0 ∧ 0 + (8 + (adrBytes (List.take 17 (AV.bool true :: bys X))).length) * 1 = ([AV.int IntKind.u8 96, AV.int IntKind.u8 0, AV.int IntKind.u8 0, AV.int IntKind.u8 0, AV.int IntKind.u8 (IntKind.u8.wrap (n.fdiv 256)), AV.int IntKind.u8 (IntKind.u8.wrap n), AV.int IntKind.u8 pr, AV.int IntKind.u8 64] ++ List.take ((adrBytes (List.take 17 (AV.bool true :: bys X))).length * 1) (bys (adrBytes (List.take 17 (AV.bool true :: bys X))))).length ∧ (0 < (adrBytes (List.take 17 (AV.bool true :: bys Y))).length ∨ 0 = 0) ∧ 1 = 1 ∧ (List.take ((adrBytes (List.take 17 (AV.bool true :: bys Y))).length * 1) (bys (adrBytes (List.take 17 (AV.bool true :: bys Y))))).all AV.isCell = true then
                              (if 17 ≤ (AV.bool true :: bys Y).length then
                                (if (AV.agg (List.take 17 (AV.bool true :: bys Y))).beq (AV.agg (List.take 17 (AV.bool true :: bys Y))) = true then
                                  (if 17 ≤ (AV.bool true :: bys Y).length then
                                    (if (AV.agg (List.take 17 (AV.bool true :: bys Y))).beq (AV.agg (List.take 17 (AV.bool true :: bys Y))) = true then
                                      K (AV.tup [AV.sl (some (6, 0)) (8 + (adrBytes (List.take 17 (AV.bool true :: bys X))).length + (adrBytes (List.take 17 (AV.bool true :: bys Y))).length) 0 false, AV.bool true]) ((hRMk6TT1 pr n X Y))
                                    else none)
                                  else none)
                                else none)
                              else none)
                            else none)
                          else none)
                        else none)
                      else none)
                    else none)
                  else none)
                else none)
              else none)
            else none)
          else none)
        else none))) := by
  kernel_rfl

noncomputable def hRMk6TF0 (pr n : Int) (X Y : List UInt8) : AHeap := [ABlk.cells (AV.bool true :: bys X) 17 Md.own none, ABlk.cells (AV.bool false :: bys Y) 17 Md.own none]
theorem nfRMk6TF {R : Type} (pr n : Int) (X Y : List UInt8) (K : AV → AHeap → Option R) :
    qrun Try.prog tRMk6 100 4 [] [] 12 [.agg (.bool true :: bys X), .agg (.bool false :: bys Y), .int .u8 pr, .int .i64 n] [] K =
    K (AV.tup [AV.sl none 0 0 true, AV.bool false]) ((hRMk6TF0 pr n X Y)) := by
  kernel_rfl

noncomputable def hRMk6FT0 (pr n : Int) (X Y : List UInt8) : AHeap := [ABlk.cells (AV.bool false :: bys X) 17 Md.own none, ABlk.cells (AV.bool true :: bys Y) 17 Md.own none]
theorem nfRMk6FT {R : Type} (pr n : Int) (X Y : List UInt8) (K : AV → AHeap → Option R) :
    qrun Try.prog tRMk6 100 4 [] [] 12 [.agg (.bool false :: bys X), .agg (.bool true :: bys Y), .int .u8 pr, .int .i64 n] [] K =
    K (AV.tup [AV.sl none 0 0 true, AV.bool false]) ((hRMk6FT0 pr n X Y)) := by
  kernel_rfl

noncomputable def hRMk6FF0 (pr n : Int) (X Y : List UInt8) : AHeap := [ABlk.cells (AV.bool false :: bys X) 17 Md.own none, ABlk.cells (AV.bool false :: bys Y) 17 Md.own none]
theorem nfRMk6FF {R : Type} (pr n : Int) (X Y : List UInt8) (K : AV → AHeap → Option R) :
    qrun Try.prog tRMk6 100 4 [] [] 12 [.agg (.bool false :: bys X), .agg (.bool false :: bys Y), .int .u8 pr, .int .i64 n] [] K =
    K (AV.tup [AV.sl none 0 0 true, AV.bool false]) ((hRMk6FF0 pr n X Y)) := by
  kernel_rfl


theorem runDst6T (l X : List UInt8) (hl : l.length ≤ 1000000000000) (hX : X.length = 16) (hr : r6 l = 0) : qrun Try.prog tDst6 100 4 [] [] 13 [slB 0 l, .agg (.bool true :: bys X)] [farB l] (fun v h => some (v, h)) = some (.sl (some (3, 0)) l.length 0 false, hDst6T3 l X) := by
  have h40 := r6_len hr
  have e17 := adrB_17 (v := true) hX
  have eW := adrB_wf (v := true) hX
  have eB := adrB_T X
  have e16 := adrB_16 (v := true) hX
  have em : Nat.min 16 (l.length - 24) = 16 := Nat.min_eq_left (by omega)
  have e24 : 24 + 16 + (l.length - 40) = l.length := by omega
  rw [nfDst6T]
  simp only [hDst6T0, hDst6T1, ↓Bool.and_eq_true, ↓decide_eq_true_eq, bOk, bOf, rowOk, rowOf, nOf_sl, List.getElem?_cons_zero, List.getElem?_cons_succ, Nat.zero_add, Nat.mul_one, Nat.add_zero, List.drop_zero, bys_drop, bys_take, bys_byteD, bys_isByteR, List.take_length, bys_length, intV_some, isIntV_byte, intV_byte, bys_get, beq_int, Bool.and_true, Bool.true_and, AV.beq_self, e17, eW, eB, em, e16, hX, e24]
  repeat (first | (refine (if_pos ?_).trans ?_; · first | trivial | omega | (simp [capOf, hX, hr]; done) | (simp [capOf, hX, hr]; omega)) | (refine (if_neg ?_).trans ?_; · first | omega | (simp [hX, hr]; done) | (simp [hX, hr]; omega)))
  rfl


theorem runRDst6T (l X : List UInt8) (hl : l.length ≤ 1000000000000) (hX : X.length = 16) (hr : r6 l = 0) : qrun Try.prog tRDst6 100 4 [] [] 14 [slB 0 l, .agg (.bool true :: bys X)] [farB l] (fun v h => some (v, h)) = some (.sl (some (7, 0)) l.length 0 false, hRDst6T2 l X) := by
  have h40 := r6_len hr
  have e17 := adrB_17 (v := true) hX
  have eW := adrB_wf (v := true) hX
  have eB := adrB_T X
  have e16 := adrB_16 (v := true) hX
  have em : Nat.min 16 (l.length - 24) = 16 := Nat.min_eq_left (by omega)
  have e24 : 24 + 16 + (l.length - 40) = l.length := by omega
  rw [nfRDst6T]
  simp only [hRDst6T0, hRDst6T1, ↓Bool.and_eq_true, ↓decide_eq_true_eq, bOk, bOf, rowOk, rowOf, nOf_sl, List.getElem?_cons_zero, List.getElem?_cons_succ, Nat.zero_add, Nat.mul_one, Nat.add_zero, List.drop_zero, bys_drop, bys_take, bys_byteD, bys_isByteR, List.take_length, bys_length, intV_some, isIntV_byte, intV_byte, bys_get, beq_int, Bool.and_true, Bool.true_and, AV.beq_self, e17, eW, eB, em, e16, hX, e24]
  repeat (first | (refine (if_pos ?_).trans ?_; · first | trivial | omega | (simp [capOf, hX, hr]; done) | (simp [capOf, hX, hr]; omega)) | (refine (if_neg ?_).trans ?_; · first | omega | (simp [hX, hr]; done) | (simp [hX, hr]; omega)))
  rfl


theorem dest6_T {l X : List UInt8} (hX : X.length = 16) (hr : r6 l = 0) : dest6 l (.bool true :: bys X) = l.take 24 ++ X ++ l.drop 40 := by
  unfold dest6; rw [if_pos ⟨hr, rfl⟩, adrB_T]
theorem dest6_N {l : List UInt8} {cs : List AV} (h : r6 l ≠ 0 ∨ adrV6 cs = false) : dest6 l cs = [] := by
  unfold dest6; rw [if_neg]; rintro ⟨h1, h2⟩
  rcases h with h | h
  · exact h h1
  · rw [h] at h2; simp at h2
theorem cellsDst6 {l X : List UInt8} (hl : 40 ≤ l.length) (hX : X.length = 16) : putCells (bys l) 24 (bys X) = bys (l.take 24 ++ X ++ l.drop 40) := by
  rw [putCells_bytes _ _ _ (by omega), hX]


theorem sDst6 : SoundE Try.prog 13 (entF eDst6) := by
  refine canonR_sound fun args h v h' hg => ?_
  unfold eDst6 at hg
  split at hg
  · rename_i b cs
    simp only [Option.some.injEq, Prod.mk.injEq, Bool.and_eq_true, decide_eq_true_eq] at hg
    obtain ⟨⟨hb, hw, hn⟩, rfl, rfl⟩ := hg
    rw [← bOk_len hb] at hn
    obtain ⟨v, X, rfl, hX⟩ := adrWf_B hw
    refine ⟨[slB 0 (bOf h b), .agg (.bool v :: bys X)], [farB (bOf h b)], .cons _ _ _ _ _ _ _ (bOk_canon hb 0) (.cons _ _ _ _ _ _ _ (.flat _ _ adrB_free) (.nil _)), ?_⟩
    generalize bOf h b = l at hn
    have none_of : ∀ {v : Bool} {h1 : AHeap}, qrun Try.prog tDst6 100 4 [] [] 13 [slB 0 l, .agg (.bool v :: bys X)] [farB l] (fun v h => some (v, h)) = some (.sl none 0 0 true, h1) → (r6 l ≠ 0 ∨ v = false) →
        ∃ v1 h1', Runs Try.prog 13 [slB 0 l, .agg (.bool v :: bys X)] [farB l] v1 h1' ∧ ∃ ks new, h ++ [ownB (dest6 l (.bool v :: bys X))] = h ++ new ∧ Den h1' [farB l].length h.length ks v1 (slB h.length (dest6 l (.bool v :: bys X))) new ∧ KsOk ks := by
      intro v h1 hq hv
      rw [dest6_N (hv.imp id fun e => e)]
      exact ⟨_, _, Runs.ofT0 tDst6Ok hq, [none], _, rfl, denB0, ksOk1 _⟩
    cases v
    · refine none_of (h1 := hDst6F1 l X) ?_ (.inr rfl)
      rw [nfDst6F]
      simp only [hDst6F0, ↓Bool.and_eq_true, ↓decide_eq_true_eq, bOk, bOf, rowOk, rowOf, nOf_sl, List.getElem?_cons_zero, List.getElem?_cons_succ, Nat.zero_add, Nat.mul_one, Nat.add_zero, List.drop_zero, bys_drop, bys_take, bys_byteD, bys_isByteR, List.take_length, bys_length, intV_some, isIntV_byte, intV_byte, bys_get, beq_int, Bool.and_true, Bool.true_and, AV.beq_self]
      by_cases hr : r6 l = 0
      · repeat (first | (refine (if_pos ?_).trans ?_; · first | trivial | omega | (simp [capOf, hr]; done) | (simp [capOf, hr]; omega)) | (refine (if_neg ?_).trans ?_; · first | omega | (simp [hr]; done) | (simp [hr]; omega)))
        first | rfl | done
      · repeat (first | (refine (if_pos ?_).trans ?_; · first | trivial | omega | (simp [capOf, hr]; done) | (simp [capOf, hr]; omega)) | (refine (if_neg ?_).trans ?_; · first | omega | (simp [hr]; done) | (simp [hr]; omega)))
        first | rfl | done
    · by_cases hr : r6 l = 0
      · have h40 := r6_len hr
        refine ⟨_, _, Runs.ofT0 tDst6Ok (runDst6T l X hn hX hr), [some 3], [ownB (dest6 l (.bool true :: bys X))], rfl, denB (by simp) rfl ?_ ?_, ksOk1 _⟩
        · rw [dest6_T hX hr]
          exact (show putCells _ _ _ = _ by
          have em : Nat.min 16 (l.length - 24) = 16 := Nat.min_eq_left (by omega)
          simp only [bOf, rowOf, hDst6T1, List.getElem?_cons_zero, List.drop_zero, bys_take, Nat.mul_one, List.take_length, bys_byteD, em, adrB_16 (v := true) hX, Nat.zero_add]
          exact cellsDst6 (by omega) hX)
        · rw [dest6_T hX hr]; simp [hX]; omega
      · refine none_of (h1 := hDst6T1 l X) ?_ (.inl hr)
        rw [nfDst6T]
        simp only [hDst6T0, ↓Bool.and_eq_true, ↓decide_eq_true_eq, bOk, bOf, rowOk, rowOf, nOf_sl, List.getElem?_cons_zero, List.getElem?_cons_succ, Nat.zero_add, Nat.mul_one, Nat.add_zero, List.drop_zero, bys_drop, bys_take, bys_byteD, bys_isByteR, List.take_length, bys_length, intV_some, isIntV_byte, intV_byte, bys_get, beq_int, Bool.and_true, Bool.true_and, AV.beq_self]
        repeat (first | (refine (if_pos ?_).trans ?_; · first | trivial | omega | (simp [capOf, hr]; done) | (simp [capOf, hr]; omega)) | (refine (if_neg ?_).trans ?_; · first | omega | (simp [hr]; done) | (simp [hr]; omega)))
        first | rfl | done
  · simp at hg


theorem sRDst6 : SoundE Try.prog 14 (entF eDst6) := by
  refine canonR_sound fun args h v h' hg => ?_
  unfold eDst6 at hg
  split at hg
  · rename_i b cs
    simp only [Option.some.injEq, Prod.mk.injEq, Bool.and_eq_true, decide_eq_true_eq] at hg
    obtain ⟨⟨hb, hw, hn⟩, rfl, rfl⟩ := hg
    rw [← bOk_len hb] at hn
    obtain ⟨v, X, rfl, hX⟩ := adrWf_B hw
    refine ⟨[slB 0 (bOf h b), .agg (.bool v :: bys X)], [farB (bOf h b)], .cons _ _ _ _ _ _ _ (bOk_canon hb 0) (.cons _ _ _ _ _ _ _ (.flat _ _ adrB_free) (.nil _)), ?_⟩
    generalize bOf h b = l at hn
    have none_of : ∀ {v : Bool} {h1 : AHeap}, qrun Try.prog tRDst6 100 4 [] [] 14 [slB 0 l, .agg (.bool v :: bys X)] [farB l] (fun v h => some (v, h)) = some (.sl none 0 0 true, h1) → (r6 l ≠ 0 ∨ v = false) →
        ∃ v1 h1', Runs Try.prog 14 [slB 0 l, .agg (.bool v :: bys X)] [farB l] v1 h1' ∧ ∃ ks new, h ++ [ownB (dest6 l (.bool v :: bys X))] = h ++ new ∧ Den h1' [farB l].length h.length ks v1 (slB h.length (dest6 l (.bool v :: bys X))) new ∧ KsOk ks := by
      intro v h1 hq hv
      rw [dest6_N (hv.imp id fun e => e)]
      exact ⟨_, _, Runs.ofT0 tRDst6Ok hq, [none], _, rfl, denB0, ksOk1 _⟩
    cases v
    · refine none_of (h1 := hRDst6F1 l X) ?_ (.inr rfl)
      rw [nfRDst6F]
      simp only [hRDst6F0, ↓Bool.and_eq_true, ↓decide_eq_true_eq, bOk, bOf, rowOk, rowOf, nOf_sl, List.getElem?_cons_zero, List.getElem?_cons_succ, Nat.zero_add, Nat.mul_one, Nat.add_zero, List.drop_zero, bys_drop, bys_take, bys_byteD, bys_isByteR, List.take_length, bys_length, intV_some, isIntV_byte, intV_byte, bys_get, beq_int, Bool.and_true, Bool.true_and, AV.beq_self]
      by_cases hr : r6 l = 0
      · repeat (first | (refine (if_pos ?_).trans ?_; · first | trivial | omega | (simp [capOf, hr]; done) | (simp [capOf, hr]; omega)) | (refine (if_neg ?_).trans ?_; · first | omega | (simp [hr]; done) | (simp [hr]; omega)))
        first | rfl | done
      · repeat (first | (refine (if_pos ?_).trans ?_; · first | trivial | omega | (simp [capOf, hr]; done) | (simp [capOf, hr]; omega)) | (refine (if_neg ?_).trans ?_; · first | omega | (simp [hr]; done) | (simp [hr]; omega)))
        first | rfl | done
    · by_cases hr : r6 l = 0
      · have h40 := r6_len hr
        refine ⟨_, _, Runs.ofT0 tRDst6Ok (runRDst6T l X hn hX hr), [some 7], [ownB (dest6 l (.bool true :: bys X))], rfl, denB (by simp) rfl ?_ ?_, ksOk1 _⟩
        · rw [dest6_T hX hr]
          exact (by
          simp only [adrB_17 (v := true) hX, adrB_T, bys_take, bys_append, Nat.mul_one, List.take_length, hX, bys_drop, Nat.zero_add]
          have e : List.take (24 + 16) (List.take 24 (List.take 24 l) ++ X) = List.take 24 l ++ X := by
            rw [List.take_take, Nat.min_self]; exact List.take_of_length_le (by simp [hX]; omega)
          have e2 : List.take 16 X = X := List.take_of_length_le (by omega)
          have e3 : List.take (l.length - 40) (List.drop 40 l) = List.drop 40 l := List.take_of_length_le (by simp)
          simp only [e2, e, e3, bys_append, bys_take])
        · rw [dest6_T hX hr]; simp [hX]; omega
      · refine none_of (h1 := hRDst6T1 l X) ?_ (.inl hr)
        rw [nfRDst6T]
        simp only [hRDst6T0, ↓Bool.and_eq_true, ↓decide_eq_true_eq, bOk, bOf, rowOk, rowOf, nOf_sl, List.getElem?_cons_zero, List.getElem?_cons_succ, Nat.zero_add, Nat.mul_one, Nat.add_zero, List.drop_zero, bys_drop, bys_take, bys_byteD, bys_isByteR, List.take_length, bys_length, intV_some, isIntV_byte, intV_byte, bys_get, beq_int, Bool.and_true, Bool.true_and, AV.beq_self]
        repeat (first | (refine (if_pos ?_).trans ?_; · first | trivial | omega | (simp [capOf, hr]; done) | (simp [capOf, hr]; omega)) | (refine (if_neg ?_).trans ?_; · first | omega | (simp [hr]; done) | (simp [hr]; omega)))
        first | rfl | done
  · simp at hg

theorem make6_N {cs ds : List AV} {pr n : Int} (h : ¬ makes6 cs ds n) : make6 cs ds pr n = [] := by unfold make6; rw [if_neg h]
theorem make6_T {X Y : List UInt8} {pr n : Int} (h : 0 ≤ n ∧ n ≤ 65535) : makes6 (.bool true :: bys X) (.bool true :: bys Y) n ∧ make6 (.bool true :: bys X) (.bool true :: bys Y) pr n = [96, 0, 0, 0, u8i (n / 256), u8i n, u8i pr, 64] ++ X ++ Y := by
  have hm : makes6 (.bool true :: bys X) (.bool true :: bys Y) n := ⟨rfl, rfl, h.1, h.2⟩
  refine ⟨hm, ?_⟩
  unfold make6; rw [if_pos hm, adrB_T, adrB_T]
theorem base6 {pr n : Int} (hn : 0 ≤ n ∧ n ≤ 65535) (hp : 0 ≤ pr ∧ pr < 256) : [AV.int .u8 (((byteD (AV.int .u8 96)).toNat : Nat) : Int), AV.int .u8 0, AV.int .u8 0, AV.int .u8 0, AV.int .u8 (((u8i ((IntKind.u16.wrap n).fdiv 256)).toNat : Nat) : Int), AV.int .u8 (((u8i ((IntKind.u16.wrap n).fdiv 1)).toNat : Nat) : Int), AV.int .u8 (((byteD (AV.int .u8 pr)).toNat : Nat) : Int), AV.int .u8 (((byteD (AV.int .u8 64)).toNat : Nat) : Int), AV.int .u8 0, AV.int .u8 0, AV.int .u8 0, AV.int .u8 0, AV.int .u8 0, AV.int .u8 0, AV.int .u8 0, AV.int .u8 0, AV.int .u8 0, AV.int .u8 0, AV.int .u8 0, AV.int .u8 0, AV.int .u8 0, AV.int .u8 0, AV.int .u8 0, AV.int .u8 0, AV.int .u8 0, AV.int .u8 0, AV.int .u8 0, AV.int .u8 0, AV.int .u8 0, AV.int .u8 0, AV.int .u8 0, AV.int .u8 0, AV.int .u8 0, AV.int .u8 0, AV.int .u8 0, AV.int .u8 0, AV.int .u8 0, AV.int .u8 0, AV.int .u8 0, AV.int .u8 0] =
    bys ([96, 0, 0, 0, u8i (n / 256), u8i n, u8i pr, 64] ++ List.replicate 32 0) := by
  have q1 : n.fdiv 256 = n / 256 := Int.fdiv_eq_ediv_of_nonneg _ (by omega)
  have q2 : n.fdiv 1 = n := by rw [Int.fdiv_eq_ediv_of_nonneg _ (by omega), Int.ediv_one]
  rw [wrapU16 (by omega), q1, q2]
  have e : byteD (AV.int .u8 pr) = u8i pr := by
    show UInt8.ofNat pr.toNat = UInt8.ofNat (pr % 256).toNat
    rw [Int.emod_eq_of_lt hp.1 hp.2]
  rw [e]
  rfl
theorem cells6 {B X Y : List UInt8} (hB : B.length = 8) (hX : X.length = 16) (hY : Y.length = 16) : putCells (putCells (bys (B ++ List.replicate 32 0)) 8 (bys X)) 24 (bys Y) = bys (B ++ X ++ Y) := by
  rw [putCells_bytes _ _ _ (by simp; omega), putCells_bytes _ _ _ (by simp; omega)]
  congr 1
  rw [hX, hY]
  have e1 : List.take 8 (B ++ List.replicate 32 (0 : UInt8)) = B := by rw [List.take_append, hB]; simp [← hB]
  have e2 : List.drop (8 + 16) (B ++ List.replicate 32 (0 : UInt8)) = List.replicate 16 0 := by rw [List.drop_append, hB, List.drop_of_length_le (by omega)]; rfl
  rw [e1, e2]
  have e3 : List.take 24 (B ++ X ++ List.replicate 16 (0 : UInt8)) = B ++ X := by rw [List.take_append, List.take_of_length_le (by simp; omega)]; simp [hB, hX]
  have e4 : List.drop (24 + 16) (B ++ X ++ List.replicate 16 (0 : UInt8)) = [] := List.drop_of_length_le (by simp; omega)
  rw [e3, e4]; simp


theorem runMk6T (X Y : List UInt8) (pr n : Int) (hX : X.length = 16) (hY : Y.length = 16) (hn : 0 ≤ n ∧ n ≤ 65535) (hp : 0 ≤ pr ∧ pr < 256) :
    qrun Try.prog tMk6 100 4 [] [] 11 [.agg (.bool true :: bys X), .agg (.bool true :: bys Y), .int .u8 pr, .int .i64 n] [] (fun v h => some (v, h)) = some (.tup [.sl (some (2, 0)) 40 0 false, .bool true], hMk6TT4 pr n X Y) := by
  have e17 := adrB_17 (v := true) hX
  have f17 := adrB_17 (v := true) hY
  have eW := adrB_wf (v := true) hX
  have fW := adrB_wf (v := true) hY
  have eB := adrB_T X
  have fB := adrB_T Y
  have e16 := adrB_16 (v := true) hX
  have f16 := adrB_16 (v := true) hY
  have wn : IntKind.u16.wrap n = n := wrapU16 (by omega)
  rw [nfMk6TT]
  simp only [↓Bool.and_eq_true, ↓decide_eq_true_eq, bOk, bOf, rowOk, rowOf, nOf_sl, List.getElem?_cons_zero, List.getElem?_cons_succ, Nat.zero_add, Nat.mul_one, Nat.add_zero, List.drop_zero, bys_drop, bys_take, bys_byteD, bys_isByteR, List.take_length, bys_length, intV_some, isIntV_byte, intV_byte, bys_get, beq_int, Bool.and_true, Bool.true_and, AV.beq_self, e17, f17, eW, fW, eB, fB, e16, f16, hX, hY, wn]
  repeat (first | (refine (if_pos ?_).trans ?_; · first | trivial | omega | (simp [capOf, hX, hY, cdec_true, isByteR, hn, hp]; done) | (simp [capOf, hX, hY, cdec_true, isByteR, hn, hp]; omega)) | (refine (if_neg ?_).trans ?_; · first | omega | (simp [hX, hY, cdec_true, isByteR, hn, hp]; done) | (simp [hX, hY, cdec_true, isByteR, hn, hp]; omega)))
  rfl

theorem sMk6 : SoundE Try.prog 11 (entF eMk6) := by
  refine canonR_sound fun args h v h' hg => ?_
  unfold eMk6 at hg
  split at hg
  · rename_i cs ds pr n
    simp only [Option.some.injEq, Prod.mk.injEq, Bool.and_eq_true, decide_eq_true_eq] at hg
    obtain ⟨⟨hw, hw2, hp⟩, rfl, rfl⟩ := hg
    obtain ⟨v, X, rfl, hX⟩ := adrWf_B hw
    obtain ⟨u, Y, rfl, hY⟩ := adrWf_B hw2
    refine ⟨[.agg (.bool v :: bys X), .agg (.bool u :: bys Y), .int .u8 pr, .int .i64 n], [], .cons _ _ _ _ _ _ _ (.flat _ _ adrB_free) (.cons _ _ _ _ _ _ _ (.flat _ _ adrB_free) (.cons _ _ _ _ _ _ _ (.flat _ _ rfl) (.cons _ _ _ _ _ _ _ (.flat _ _ rfl) (.nil _)))), ?_⟩
    have none_of : ∀ {v u : Bool} {h1 : AHeap}, qrun Try.prog tMk6 100 4 [] [] 11 [.agg (.bool v :: bys X), .agg (.bool u :: bys Y), .int .u8 pr, .int .i64 n] [] (fun v h => some (v, h)) = some (.tup [.sl none 0 0 true, .bool false], h1) → ¬ makes6 (.bool v :: bys X) (.bool u :: bys Y) n →
        ∃ v1 h1', Runs Try.prog 11 [.agg (.bool v :: bys X), .agg (.bool u :: bys Y), .int .u8 pr, .int .i64 n] [] v1 h1' ∧ ∃ ks new, h ++ [ownB (make6 (.bool v :: bys X) (.bool u :: bys Y) pr n)] = h ++ new ∧
          Den h1' ([] : AHeap).length h.length ks v1 (.tup [slB h.length (make6 (.bool v :: bys X) (.bool u :: bys Y) pr n), .bool (decide (makes6 (.bool v :: bys X) (.bool u :: bys Y) n))]) new ∧ KsOk ks := by
      intro v u h1 hq hv
      rw [make6_N hv, decide_eq_false hv]
      exact ⟨_, _, Runs.ofT0 tMk6Ok hq, [none], _, rfl, denRB0, ksOk1 _⟩
    cases v
    · cases u
      · exact none_of (nfMk6FF pr n X Y _) (fun h => by have := h.1; simp [adrV6] at this)
      · exact none_of (nfMk6FT pr n X Y _) (fun h => by have := h.1; simp [adrV6] at this)
    cases u
    · exact none_of (nfMk6TF pr n X Y _) (fun h => by have := h.2.1; simp [adrV6] at this)
    by_cases h0 : n < 0
    · exact none_of ((nfMk6TT pr n X Y _).trans (if_pos (by simpa using h0))) (fun h => by have := h.2.2; omega)
    by_cases h1 : n > 65535
    · exact none_of ((nfMk6TT pr n X Y _).trans ((if_neg (by simpa using h0)).trans (if_pos (by simpa using h1)))) (fun h => by have := h.2.2; omega)
    have hn : 0 ≤ n ∧ n ≤ 65535 := by omega
    obtain ⟨m1, m2⟩ := make6_T (X := X) (Y := Y) (pr := pr) hn
    rw [m2, decide_eq_true m1]
    exact ⟨_, _, Runs.ofT0 tMk6Ok (runMk6T X Y pr n hX hY hn hp), [some 2], _, rfl, denRB (by simp) rfl (show putCells (putCells _ _ _) _ _ = _ by
          rw [adrB_16 (v := true) hX, adrB_16 (v := true) hY, base6 hn hp, cells6 rfl hX hY]) (by simp [hX, hY]), ksOk1 _⟩
  · simp at hg


theorem runRMk6T (X Y : List UInt8) (pr n : Int) (hX : X.length = 16) (hY : Y.length = 16) (hn : 0 ≤ n ∧ n ≤ 65535) (hp : 0 ≤ pr ∧ pr < 256) :
    qrun Try.prog tRMk6 100 4 [] [] 12 [.agg (.bool true :: bys X), .agg (.bool true :: bys Y), .int .u8 pr, .int .i64 n] [] (fun v h => some (v, h)) = some (.tup [.sl (some (6, 0)) (8 + 16 + 16) 0 false, .bool true], hRMk6TT1 pr n X Y) := by
  have e17 := adrB_17 (v := true) hX
  have f17 := adrB_17 (v := true) hY
  have eW := adrB_wf (v := true) hX
  have fW := adrB_wf (v := true) hY
  have eB := adrB_T X
  have fB := adrB_T Y
  have e16 := adrB_16 (v := true) hX
  have f16 := adrB_16 (v := true) hY
  have wn : IntKind.u16.wrap n = n := wrapU16 (by omega)
  rw [nfRMk6TT]
  simp only [↓Bool.and_eq_true, ↓decide_eq_true_eq, bOk, bOf, rowOk, rowOf, nOf_sl, List.getElem?_cons_zero, List.getElem?_cons_succ, Nat.zero_add, Nat.mul_one, Nat.add_zero, List.drop_zero, bys_drop, bys_take, bys_byteD, bys_isByteR, List.take_length, bys_length, intV_some, isIntV_byte, intV_byte, bys_get, beq_int, Bool.and_true, Bool.true_and, AV.beq_self, e17, f17, eW, fW, eB, fB, e16, f16, hX, hY, wn]
  repeat (first | (refine (if_pos ?_).trans ?_; · first | trivial | omega | (simp [capOf, hX, hY, cdec_true, isByteR, hn, hp]; done) | (simp [capOf, hX, hY, cdec_true, isByteR, hn, hp]; omega)) | (refine (if_neg ?_).trans ?_; · first | omega | (simp [hX, hY, cdec_true, isByteR, hn, hp]; done) | (simp [hX, hY, cdec_true, isByteR, hn, hp]; omega)))
  rfl

theorem sRMk6 : SoundE Try.prog 12 (entF eMk6) := by
  refine canonR_sound fun args h v h' hg => ?_
  unfold eMk6 at hg
  split at hg
  · rename_i cs ds pr n
    simp only [Option.some.injEq, Prod.mk.injEq, Bool.and_eq_true, decide_eq_true_eq] at hg
    obtain ⟨⟨hw, hw2, hp⟩, rfl, rfl⟩ := hg
    obtain ⟨v, X, rfl, hX⟩ := adrWf_B hw
    obtain ⟨u, Y, rfl, hY⟩ := adrWf_B hw2
    refine ⟨[.agg (.bool v :: bys X), .agg (.bool u :: bys Y), .int .u8 pr, .int .i64 n], [], .cons _ _ _ _ _ _ _ (.flat _ _ adrB_free) (.cons _ _ _ _ _ _ _ (.flat _ _ adrB_free) (.cons _ _ _ _ _ _ _ (.flat _ _ rfl) (.cons _ _ _ _ _ _ _ (.flat _ _ rfl) (.nil _)))), ?_⟩
    have none_of : ∀ {v u : Bool} {h1 : AHeap}, qrun Try.prog tRMk6 100 4 [] [] 12 [.agg (.bool v :: bys X), .agg (.bool u :: bys Y), .int .u8 pr, .int .i64 n] [] (fun v h => some (v, h)) = some (.tup [.sl none 0 0 true, .bool false], h1) → ¬ makes6 (.bool v :: bys X) (.bool u :: bys Y) n →
        ∃ v1 h1', Runs Try.prog 12 [.agg (.bool v :: bys X), .agg (.bool u :: bys Y), .int .u8 pr, .int .i64 n] [] v1 h1' ∧ ∃ ks new, h ++ [ownB (make6 (.bool v :: bys X) (.bool u :: bys Y) pr n)] = h ++ new ∧
          Den h1' ([] : AHeap).length h.length ks v1 (.tup [slB h.length (make6 (.bool v :: bys X) (.bool u :: bys Y) pr n), .bool (decide (makes6 (.bool v :: bys X) (.bool u :: bys Y) n))]) new ∧ KsOk ks := by
      intro v u h1 hq hv
      rw [make6_N hv, decide_eq_false hv]
      exact ⟨_, _, Runs.ofT0 tRMk6Ok hq, [none], _, rfl, denRB0, ksOk1 _⟩
    cases v
    · cases u
      · exact none_of (nfRMk6FF pr n X Y _) (fun h => by have := h.1; simp [adrV6] at this)
      · exact none_of (nfRMk6FT pr n X Y _) (fun h => by have := h.1; simp [adrV6] at this)
    cases u
    · exact none_of (nfRMk6TF pr n X Y _) (fun h => by have := h.2.1; simp [adrV6] at this)
    by_cases h0 : n < 0
    · exact none_of ((nfRMk6TT pr n X Y _).trans (if_pos (by simpa using h0))) (fun h => by have := h.2.2; omega)
    by_cases h1 : n > 65535
    · exact none_of ((nfRMk6TT pr n X Y _).trans ((if_neg (by simpa using h0)).trans (if_pos (by simpa using h1)))) (fun h => by have := h.2.2; omega)
    have hn : 0 ≤ n ∧ n ≤ 65535 := by omega
    obtain ⟨m1, m2⟩ := make6_T (X := X) (Y := Y) (pr := pr) hn
    rw [m2, decide_eq_true m1]
    exact ⟨_, _, Runs.ofT0 tRMk6Ok (runRMk6T X Y pr n hX hY hn hp), [some 6], _, rfl, denRB (by simp) rfl (by
          have w1 : IntKind.u8.wrap (n.fdiv 256) = ((u8i (n / 256)).toNat : Int) := by rw [wrapU8_byte, Int.fdiv_eq_ediv_of_nonneg _ (by omega)]
          have w3 : AV.int .u8 pr = AV.int .u8 (((u8i pr).toNat : Nat) : Int) := by rw [u8i_toNat]; congr 1; omega
          have eb : ([AV.int .u8 96, AV.int .u8 0, AV.int .u8 0, AV.int .u8 0, AV.int .u8 (((u8i (n / 256)).toNat : Nat) : Int), AV.int .u8 (((u8i n).toNat : Nat) : Int), AV.int .u8 (((u8i pr).toNat : Nat) : Int), AV.int .u8 64] : List AV) = bys [96, 0, 0, 0, u8i (n / 256), u8i n, u8i pr, 64] := rfl
          rw [adrB_17 (v := true) hX, adrB_17 (v := true) hY, adrB_T, adrB_T, w1, wrapU8_byte, w3, eb, hX, hY]
          have e2 : List.take 16 X = X := List.take_of_length_le (by omega)
          have e3 : List.take 16 Y = Y := List.take_of_length_le (by omega)
          simp only [Nat.mul_one, bys_take, e2, e3, bys_append]
          rw [List.take_of_length_le (by simp [hX])]) (by simp [hX, hY]), ksOk1 _⟩
  · simp at hg

end Go.Proofs.Ytlecajgikfbjbaa.L