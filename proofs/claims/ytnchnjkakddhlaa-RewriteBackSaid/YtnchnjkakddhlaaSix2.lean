/- ipsix's Dest and Make, and the reference's. -/
import Derived.Test.YtnchnjkakddhlaaSix
import Derived.Test.YtnchnjkakddhlaaAddrB
import Derived.Test.YtnchnjkakddhlaaOctB
set_option autoImplicit false
set_option maxRecDepth 100000
set_option linter.unusedVariables false
set_option linter.unusedSimpArgs false
namespace Go.Proofs.Ytnchnjkakddhlaa.L
open Go Go.Abs
open Go.IntKind (u8 u16 u32 u64 i64)
open Go.Abs.AV (int)
open Go.Abs.ABlk (cells)

noncomputable def ztV : Tbl := [(47, zbj zv9), (22, zbj zdB)]
theorem zsL : ∀ f E, ztV.find f = some E → SoundE Try.prog f E := zal zBN (zal zoJ (zar _))
noncomputable def znX : Tbl := [(29, zbj zbh)]
theorem zsR : ∀ f E, znX.find f = some E → SoundE Try.prog f E := zal znB (zar _)

noncomputable def zaf (l X : List UInt8) : zaa := [cells (bys l) 1 Md.far none, cells (AV.bool true :: bys X) 17 Md.own none]
noncomputable def zcj (l X : List UInt8) : zaa := [cells (bys l) 1 Md.far none, cells (AV.bool true :: bys X) 17 Md.own none, cells [int i64 (z6 (bOf (zaf l X) (AV.sl (some (0, 0)) l.length 0 false)) (40 + zan (bOf (zaf l X) (AV.sl (some (0, 0)) l.length 0 false)) 4)), int u8 (z6 (bOf (zaf l X) (AV.sl (some (0, 0)) l.length 0 false)) (byt (bOf (zaf l X) (AV.sl (some (0, 0)) l.length 0 false)) 6)), AV.bool (decide (r6 (bOf (zaf l X) (AV.sl (some (0, 0)) l.length 0 false)) = 0)), int u8 (z6 (bOf (zaf l X) (AV.sl (some (0, 0)) l.length 0 false)) (byt (bOf (zaf l X) (AV.sl (some (0, 0)) l.length 0 false)) 8)), int u8 (z6 (bOf (zaf l X) (AV.sl (some (0, 0)) l.length 0 false)) (byt (bOf (zaf l X) (AV.sl (some (0, 0)) l.length 0 false)) 9)), int u8 (z6 (bOf (zaf l X) (AV.sl (some (0, 0)) l.length 0 false)) (byt (bOf (zaf l X) (AV.sl (some (0, 0)) l.length 0 false)) 10)), int u8 (z6 (bOf (zaf l X) (AV.sl (some (0, 0)) l.length 0 false)) (byt (bOf (zaf l X) (AV.sl (some (0, 0)) l.length 0 false)) 11)), int u8 (z6 (bOf (zaf l X) (AV.sl (some (0, 0)) l.length 0 false)) (byt (bOf (zaf l X) (AV.sl (some (0, 0)) l.length 0 false)) 12)), int u8 (z6 (bOf (zaf l X) (AV.sl (some (0, 0)) l.length 0 false)) (byt (bOf (zaf l X) (AV.sl (some (0, 0)) l.length 0 false)) 13)), int u8 (z6 (bOf (zaf l X) (AV.sl (some (0, 0)) l.length 0 false)) (byt (bOf (zaf l X) (AV.sl (some (0, 0)) l.length 0 false)) 14)), int u8 (z6 (bOf (zaf l X) (AV.sl (some (0, 0)) l.length 0 false)) (byt (bOf (zaf l X) (AV.sl (some (0, 0)) l.length 0 false)) 15)), int u8 (z6 (bOf (zaf l X) (AV.sl (some (0, 0)) l.length 0 false)) (byt (bOf (zaf l X) (AV.sl (some (0, 0)) l.length 0 false)) 16)), int u8 (z6 (bOf (zaf l X) (AV.sl (some (0, 0)) l.length 0 false)) (byt (bOf (zaf l X) (AV.sl (some (0, 0)) l.length 0 false)) 17)), int u8 (z6 (bOf (zaf l X) (AV.sl (some (0, 0)) l.length 0 false)) (byt (bOf (zaf l X) (AV.sl (some (0, 0)) l.length 0 false)) 18)), int u8 (z6 (bOf (zaf l X) (AV.sl (some (0, 0)) l.length 0 false)) (byt (bOf (zaf l X) (AV.sl (some (0, 0)) l.length 0 false)) 19)), int u8 (z6 (bOf (zaf l X) (AV.sl (some (0, 0)) l.length 0 false)) (byt (bOf (zaf l X) (AV.sl (some (0, 0)) l.length 0 false)) 20)), int u8 (z6 (bOf (zaf l X) (AV.sl (some (0, 0)) l.length 0 false)) (byt (bOf (zaf l X) (AV.sl (some (0, 0)) l.length 0 false)) 21)), int u8 (z6 (bOf (zaf l X) (AV.sl (some (0, 0)) l.length 0 false)) (byt (bOf (zaf l X) (AV.sl (some (0, 0)) l.length 0 false)) 22)), int u8 (z6 (bOf (zaf l X) (AV.sl (some (0, 0)) l.length 0 false)) (byt (bOf (zaf l X) (AV.sl (some (0, 0)) l.length 0 false)) 23)), AV.bool (decide (r6 (bOf (zaf l X) (AV.sl (some (0, 0)) l.length 0 false)) = 0)), int u8 (z6 (bOf (zaf l X) (AV.sl (some (0, 0)) l.length 0 false)) (byt (bOf (zaf l X) (AV.sl (some (0, 0)) l.length 0 false)) 24)), int u8 (z6 (bOf (zaf l X) (AV.sl (some (0, 0)) l.length 0 false)) (byt (bOf (zaf l X) (AV.sl (some (0, 0)) l.length 0 false)) 25)), int u8 (z6 (bOf (zaf l X) (AV.sl (some (0, 0)) l.length 0 false)) (byt (bOf (zaf l X) (AV.sl (some (0, 0)) l.length 0 false)) 26)), int u8 (z6 (bOf (zaf l X) (AV.sl (some (0, 0)) l.length 0 false)) (byt (bOf (zaf l X) (AV.sl (some (0, 0)) l.length 0 false)) 27)), int u8 (z6 (bOf (zaf l X) (AV.sl (some (0, 0)) l.length 0 false)) (byt (bOf (zaf l X) (AV.sl (some (0, 0)) l.length 0 false)) 28)), int u8 (z6 (bOf (zaf l X) (AV.sl (some (0, 0)) l.length 0 false)) (byt (bOf (zaf l X) (AV.sl (some (0, 0)) l.length 0 false)) 29)), int u8 (z6 (bOf (zaf l X) (AV.sl (some (0, 0)) l.length 0 false)) (byt (bOf (zaf l X) (AV.sl (some (0, 0)) l.length 0 false)) 30)), int u8 (z6 (bOf (zaf l X) (AV.sl (some (0, 0)) l.length 0 false)) (byt (bOf (zaf l X) (AV.sl (some (0, 0)) l.length 0 false)) 31)), int u8 (z6 (bOf (zaf l X) (AV.sl (some (0, 0)) l.length 0 false)) (byt (bOf (zaf l X) (AV.sl (some (0, 0)) l.length 0 false)) 32)), int u8 (z6 (bOf (zaf l X) (AV.sl (some (0, 0)) l.length 0 false)) (byt (bOf (zaf l X) (AV.sl (some (0, 0)) l.length 0 false)) 33)), int u8 (z6 (bOf (zaf l X) (AV.sl (some (0, 0)) l.length 0 false)) (byt (bOf (zaf l X) (AV.sl (some (0, 0)) l.length 0 false)) 34)), int u8 (z6 (bOf (zaf l X) (AV.sl (some (0, 0)) l.length 0 false)) (byt (bOf (zaf l X) (AV.sl (some (0, 0)) l.length 0 false)) 35)), int u8 (z6 (bOf (zaf l X) (AV.sl (some (0, 0)) l.length 0 false)) (byt (bOf (zaf l X) (AV.sl (some (0, 0)) l.length 0 false)) 36)), int u8 (z6 (bOf (zaf l X) (AV.sl (some (0, 0)) l.length 0 false)) (byt (bOf (zaf l X) (AV.sl (some (0, 0)) l.length 0 false)) 37)), int u8 (z6 (bOf (zaf l X) (AV.sl (some (0, 0)) l.length 0 false)) (byt (bOf (zaf l X) (AV.sl (some (0, 0)) l.length 0 false)) 38)), int u8 (z6 (bOf (zaf l X) (AV.sl (some (0, 0)) l.length 0 false)) (byt (bOf (zaf l X) (AV.sl (some (0, 0)) l.length 0 false)) 39))] 36 Md.own none]
noncomputable def zxm (l X : List UInt8) : zaa := [cells (bys l) 1 Md.far none, cells (AV.bool true :: bys X) 17 Md.own none, cells [int i64 (z6 (bOf (zaf l X) (AV.sl (some (0, 0)) l.length 0 false)) (40 + zan (bOf (zaf l X) (AV.sl (some (0, 0)) l.length 0 false)) 4)), int u8 (z6 (bOf (zaf l X) (AV.sl (some (0, 0)) l.length 0 false)) (byt (bOf (zaf l X) (AV.sl (some (0, 0)) l.length 0 false)) 6)), AV.bool (decide (r6 (bOf (zaf l X) (AV.sl (some (0, 0)) l.length 0 false)) = 0)), int u8 (z6 (bOf (zaf l X) (AV.sl (some (0, 0)) l.length 0 false)) (byt (bOf (zaf l X) (AV.sl (some (0, 0)) l.length 0 false)) 8)), int u8 (z6 (bOf (zaf l X) (AV.sl (some (0, 0)) l.length 0 false)) (byt (bOf (zaf l X) (AV.sl (some (0, 0)) l.length 0 false)) 9)), int u8 (z6 (bOf (zaf l X) (AV.sl (some (0, 0)) l.length 0 false)) (byt (bOf (zaf l X) (AV.sl (some (0, 0)) l.length 0 false)) 10)), int u8 (z6 (bOf (zaf l X) (AV.sl (some (0, 0)) l.length 0 false)) (byt (bOf (zaf l X) (AV.sl (some (0, 0)) l.length 0 false)) 11)), int u8 (z6 (bOf (zaf l X) (AV.sl (some (0, 0)) l.length 0 false)) (byt (bOf (zaf l X) (AV.sl (some (0, 0)) l.length 0 false)) 12)), int u8 (z6 (bOf (zaf l X) (AV.sl (some (0, 0)) l.length 0 false)) (byt (bOf (zaf l X) (AV.sl (some (0, 0)) l.length 0 false)) 13)), int u8 (z6 (bOf (zaf l X) (AV.sl (some (0, 0)) l.length 0 false)) (byt (bOf (zaf l X) (AV.sl (some (0, 0)) l.length 0 false)) 14)), int u8 (z6 (bOf (zaf l X) (AV.sl (some (0, 0)) l.length 0 false)) (byt (bOf (zaf l X) (AV.sl (some (0, 0)) l.length 0 false)) 15)), int u8 (z6 (bOf (zaf l X) (AV.sl (some (0, 0)) l.length 0 false)) (byt (bOf (zaf l X) (AV.sl (some (0, 0)) l.length 0 false)) 16)), int u8 (z6 (bOf (zaf l X) (AV.sl (some (0, 0)) l.length 0 false)) (byt (bOf (zaf l X) (AV.sl (some (0, 0)) l.length 0 false)) 17)), int u8 (z6 (bOf (zaf l X) (AV.sl (some (0, 0)) l.length 0 false)) (byt (bOf (zaf l X) (AV.sl (some (0, 0)) l.length 0 false)) 18)), int u8 (z6 (bOf (zaf l X) (AV.sl (some (0, 0)) l.length 0 false)) (byt (bOf (zaf l X) (AV.sl (some (0, 0)) l.length 0 false)) 19)), int u8 (z6 (bOf (zaf l X) (AV.sl (some (0, 0)) l.length 0 false)) (byt (bOf (zaf l X) (AV.sl (some (0, 0)) l.length 0 false)) 20)), int u8 (z6 (bOf (zaf l X) (AV.sl (some (0, 0)) l.length 0 false)) (byt (bOf (zaf l X) (AV.sl (some (0, 0)) l.length 0 false)) 21)), int u8 (z6 (bOf (zaf l X) (AV.sl (some (0, 0)) l.length 0 false)) (byt (bOf (zaf l X) (AV.sl (some (0, 0)) l.length 0 false)) 22)), int u8 (z6 (bOf (zaf l X) (AV.sl (some (0, 0)) l.length 0 false)) (byt (bOf (zaf l X) (AV.sl (some (0, 0)) l.length 0 false)) 23)), AV.bool (decide (r6 (bOf (zaf l X) (AV.sl (some (0, 0)) l.length 0 false)) = 0)), int u8 (z6 (bOf (zaf l X) (AV.sl (some (0, 0)) l.length 0 false)) (byt (bOf (zaf l X) (AV.sl (some (0, 0)) l.length 0 false)) 24)), int u8 (z6 (bOf (zaf l X) (AV.sl (some (0, 0)) l.length 0 false)) (byt (bOf (zaf l X) (AV.sl (some (0, 0)) l.length 0 false)) 25)), int u8 (z6 (bOf (zaf l X) (AV.sl (some (0, 0)) l.length 0 false)) (byt (bOf (zaf l X) (AV.sl (some (0, 0)) l.length 0 false)) 26)), int u8 (z6 (bOf (zaf l X) (AV.sl (some (0, 0)) l.length 0 false)) (byt (bOf (zaf l X) (AV.sl (some (0, 0)) l.length 0 false)) 27)), int u8 (z6 (bOf (zaf l X) (AV.sl (some (0, 0)) l.length 0 false)) (byt (bOf (zaf l X) (AV.sl (some (0, 0)) l.length 0 false)) 28)), int u8 (z6 (bOf (zaf l X) (AV.sl (some (0, 0)) l.length 0 false)) (byt (bOf (zaf l X) (AV.sl (some (0, 0)) l.length 0 false)) 29)), int u8 (z6 (bOf (zaf l X) (AV.sl (some (0, 0)) l.length 0 false)) (byt (bOf (zaf l X) (AV.sl (some (0, 0)) l.length 0 false)) 30)), int u8 (z6 (bOf (zaf l X) (AV.sl (some (0, 0)) l.length 0 false)) (byt (bOf (zaf l X) (AV.sl (some (0, 0)) l.length 0 false)) 31)), int u8 (z6 (bOf (zaf l X) (AV.sl (some (0, 0)) l.length 0 false)) (byt (bOf (zaf l X) (AV.sl (some (0, 0)) l.length 0 false)) 32)), int u8 (z6 (bOf (zaf l X) (AV.sl (some (0, 0)) l.length 0 false)) (byt (bOf (zaf l X) (AV.sl (some (0, 0)) l.length 0 false)) 33)), int u8 (z6 (bOf (zaf l X) (AV.sl (some (0, 0)) l.length 0 false)) (byt (bOf (zaf l X) (AV.sl (some (0, 0)) l.length 0 false)) 34)), int u8 (z6 (bOf (zaf l X) (AV.sl (some (0, 0)) l.length 0 false)) (byt (bOf (zaf l X) (AV.sl (some (0, 0)) l.length 0 false)) 35)), int u8 (z6 (bOf (zaf l X) (AV.sl (some (0, 0)) l.length 0 false)) (byt (bOf (zaf l X) (AV.sl (some (0, 0)) l.length 0 false)) 36)), int u8 (z6 (bOf (zaf l X) (AV.sl (some (0, 0)) l.length 0 false)) (byt (bOf (zaf l X) (AV.sl (some (0, 0)) l.length 0 false)) 37)), int u8 (z6 (bOf (zaf l X) (AV.sl (some (0, 0)) l.length 0 false)) (byt (bOf (zaf l X) (AV.sl (some (0, 0)) l.length 0 false)) 38)), int u8 (z6 (bOf (zaf l X) (AV.sl (some (0, 0)) l.length 0 false)) (byt (bOf (zaf l X) (AV.sl (some (0, 0)) l.length 0 false)) 39))] 36 Md.own none, cells (bys (bOf (zcj l X) (AV.sl (some (0, 0)) l.length 0 false))) 1 Md.own none]
noncomputable def zuc (l X : List UInt8) : zaa := [cells (bys l) 1 Md.far none, cells (AV.bool true :: bys X) 17 Md.own none, cells [int i64 (z6 (bOf (zaf l X) (AV.sl (some (0, 0)) l.length 0 false)) (40 + zan (bOf (zaf l X) (AV.sl (some (0, 0)) l.length 0 false)) 4)), int u8 (z6 (bOf (zaf l X) (AV.sl (some (0, 0)) l.length 0 false)) (byt (bOf (zaf l X) (AV.sl (some (0, 0)) l.length 0 false)) 6)), AV.bool (decide (r6 (bOf (zaf l X) (AV.sl (some (0, 0)) l.length 0 false)) = 0)), int u8 (z6 (bOf (zaf l X) (AV.sl (some (0, 0)) l.length 0 false)) (byt (bOf (zaf l X) (AV.sl (some (0, 0)) l.length 0 false)) 8)), int u8 (z6 (bOf (zaf l X) (AV.sl (some (0, 0)) l.length 0 false)) (byt (bOf (zaf l X) (AV.sl (some (0, 0)) l.length 0 false)) 9)), int u8 (z6 (bOf (zaf l X) (AV.sl (some (0, 0)) l.length 0 false)) (byt (bOf (zaf l X) (AV.sl (some (0, 0)) l.length 0 false)) 10)), int u8 (z6 (bOf (zaf l X) (AV.sl (some (0, 0)) l.length 0 false)) (byt (bOf (zaf l X) (AV.sl (some (0, 0)) l.length 0 false)) 11)), int u8 (z6 (bOf (zaf l X) (AV.sl (some (0, 0)) l.length 0 false)) (byt (bOf (zaf l X) (AV.sl (some (0, 0)) l.length 0 false)) 12)), int u8 (z6 (bOf (zaf l X) (AV.sl (some (0, 0)) l.length 0 false)) (byt (bOf (zaf l X) (AV.sl (some (0, 0)) l.length 0 false)) 13)), int u8 (z6 (bOf (zaf l X) (AV.sl (some (0, 0)) l.length 0 false)) (byt (bOf (zaf l X) (AV.sl (some (0, 0)) l.length 0 false)) 14)), int u8 (z6 (bOf (zaf l X) (AV.sl (some (0, 0)) l.length 0 false)) (byt (bOf (zaf l X) (AV.sl (some (0, 0)) l.length 0 false)) 15)), int u8 (z6 (bOf (zaf l X) (AV.sl (some (0, 0)) l.length 0 false)) (byt (bOf (zaf l X) (AV.sl (some (0, 0)) l.length 0 false)) 16)), int u8 (z6 (bOf (zaf l X) (AV.sl (some (0, 0)) l.length 0 false)) (byt (bOf (zaf l X) (AV.sl (some (0, 0)) l.length 0 false)) 17)), int u8 (z6 (bOf (zaf l X) (AV.sl (some (0, 0)) l.length 0 false)) (byt (bOf (zaf l X) (AV.sl (some (0, 0)) l.length 0 false)) 18)), int u8 (z6 (bOf (zaf l X) (AV.sl (some (0, 0)) l.length 0 false)) (byt (bOf (zaf l X) (AV.sl (some (0, 0)) l.length 0 false)) 19)), int u8 (z6 (bOf (zaf l X) (AV.sl (some (0, 0)) l.length 0 false)) (byt (bOf (zaf l X) (AV.sl (some (0, 0)) l.length 0 false)) 20)), int u8 (z6 (bOf (zaf l X) (AV.sl (some (0, 0)) l.length 0 false)) (byt (bOf (zaf l X) (AV.sl (some (0, 0)) l.length 0 false)) 21)), int u8 (z6 (bOf (zaf l X) (AV.sl (some (0, 0)) l.length 0 false)) (byt (bOf (zaf l X) (AV.sl (some (0, 0)) l.length 0 false)) 22)), int u8 (z6 (bOf (zaf l X) (AV.sl (some (0, 0)) l.length 0 false)) (byt (bOf (zaf l X) (AV.sl (some (0, 0)) l.length 0 false)) 23)), AV.bool (decide (r6 (bOf (zaf l X) (AV.sl (some (0, 0)) l.length 0 false)) = 0)), int u8 (z6 (bOf (zaf l X) (AV.sl (some (0, 0)) l.length 0 false)) (byt (bOf (zaf l X) (AV.sl (some (0, 0)) l.length 0 false)) 24)), int u8 (z6 (bOf (zaf l X) (AV.sl (some (0, 0)) l.length 0 false)) (byt (bOf (zaf l X) (AV.sl (some (0, 0)) l.length 0 false)) 25)), int u8 (z6 (bOf (zaf l X) (AV.sl (some (0, 0)) l.length 0 false)) (byt (bOf (zaf l X) (AV.sl (some (0, 0)) l.length 0 false)) 26)), int u8 (z6 (bOf (zaf l X) (AV.sl (some (0, 0)) l.length 0 false)) (byt (bOf (zaf l X) (AV.sl (some (0, 0)) l.length 0 false)) 27)), int u8 (z6 (bOf (zaf l X) (AV.sl (some (0, 0)) l.length 0 false)) (byt (bOf (zaf l X) (AV.sl (some (0, 0)) l.length 0 false)) 28)), int u8 (z6 (bOf (zaf l X) (AV.sl (some (0, 0)) l.length 0 false)) (byt (bOf (zaf l X) (AV.sl (some (0, 0)) l.length 0 false)) 29)), int u8 (z6 (bOf (zaf l X) (AV.sl (some (0, 0)) l.length 0 false)) (byt (bOf (zaf l X) (AV.sl (some (0, 0)) l.length 0 false)) 30)), int u8 (z6 (bOf (zaf l X) (AV.sl (some (0, 0)) l.length 0 false)) (byt (bOf (zaf l X) (AV.sl (some (0, 0)) l.length 0 false)) 31)), int u8 (z6 (bOf (zaf l X) (AV.sl (some (0, 0)) l.length 0 false)) (byt (bOf (zaf l X) (AV.sl (some (0, 0)) l.length 0 false)) 32)), int u8 (z6 (bOf (zaf l X) (AV.sl (some (0, 0)) l.length 0 false)) (byt (bOf (zaf l X) (AV.sl (some (0, 0)) l.length 0 false)) 33)), int u8 (z6 (bOf (zaf l X) (AV.sl (some (0, 0)) l.length 0 false)) (byt (bOf (zaf l X) (AV.sl (some (0, 0)) l.length 0 false)) 34)), int u8 (z6 (bOf (zaf l X) (AV.sl (some (0, 0)) l.length 0 false)) (byt (bOf (zaf l X) (AV.sl (some (0, 0)) l.length 0 false)) 35)), int u8 (z6 (bOf (zaf l X) (AV.sl (some (0, 0)) l.length 0 false)) (byt (bOf (zaf l X) (AV.sl (some (0, 0)) l.length 0 false)) 36)), int u8 (z6 (bOf (zaf l X) (AV.sl (some (0, 0)) l.length 0 false)) (byt (bOf (zaf l X) (AV.sl (some (0, 0)) l.length 0 false)) 37)), int u8 (z6 (bOf (zaf l X) (AV.sl (some (0, 0)) l.length 0 false)) (byt (bOf (zaf l X) (AV.sl (some (0, 0)) l.length 0 false)) 38)), int u8 (z6 (bOf (zaf l X) (AV.sl (some (0, 0)) l.length 0 false)) (byt (bOf (zaf l X) (AV.sl (some (0, 0)) l.length 0 false)) 39))] 36 Md.own none, cells (zae (bys (bOf (zcj l X) (AV.sl (some (0, 0)) l.length 0 false))) 24 (List.take (Nat.min 16 ((bOf (zcj l X) (AV.sl (some (0, 0)) l.length 0 false)).length - 24) * 1) (List.drop 1 (AV.bool true :: bys X)))) 1 Md.own none]
theorem zq0 {R : Type} (l X : List UInt8) (K : AV → zaa → Option R) :
 zbs Try.prog ztV 100 4 [] [] 21 [slB 0 l, .agg (.bool true :: bys X)] [zaC l] K =
 (if (bOk (zaf l X) (AV.sl (some (0, 0)) l.length 0 false) && decide (nOf (AV.sl (some (0, 0)) l.length 0 false) ≤ 1000000000000)) = true then
 (if (r6 (bOf (zaf l X) (AV.sl (some (0, 0)) l.length 0 false)) != 0) = true then
 K (AV.sl none 0 0 true) ((zcj l X))
 else (if (bOk (zcj l X) (AV.sl (some (0, 0)) l.length 0 false) && decide (nOf (AV.sl (some (0, 0)) l.length 0 false) ≤ 1000000000000)) = true then
 (if Int.ofNat 0 ≤ Int.ofNat 24 ∧ 24 ≤ (((bOf (zcj l X) (AV.sl (some (0, 0)) l.length 0 false)).length : Nat) : Int) then
 (if 1 + Nat.min 16 ((bOf (zcj l X) (AV.sl (some (0, 0)) l.length 0 false)).length - 24) * 1 ≤ (AV.bool true :: bys X).length then
 (if (List.take (Nat.min 16 ((bOf (zcj l X) (AV.sl (some (0, 0)) l.length 0 false)).length - 24) * 1) (List.drop 1 (AV.bool true :: bys X))).length = 0 then
 K (AV.sl (some (3, 0)) (bOf (zcj l X) (AV.sl (some (0, 0)) l.length 0 false)).length 0 false) ((zxm l X))
 else (if 0 < (bOf (zcj l X) (AV.sl (some (0, 0)) l.length 0 false)).length - 24 then
 (if 24 + (List.take (Nat.min 16 ((bOf (zcj l X) (AV.sl (some (0, 0)) l.length 0 false)).length - 24) * 1) (List.drop 1 (AV.bool true :: bys X))).length ≤ (bys (bOf (zcj l X) (AV.sl (some (0, 0)) l.length 0 false))).length ∧ (List.take (Nat.min 16 ((bOf (zcj l X) (AV.sl (some (0, 0)) l.length 0 false)).length - 24) * 1) (List.drop 1 (AV.bool true :: bys X))).all AV.isCell = true then
 K (AV.sl (some (3, 0)) (bOf (zcj l X) (AV.sl (some (0, 0)) l.length 0 false)).length 0 false) ((zuc l X))
 else none) else none))
 else none) else none) else none))
 else none) := by
  kernel_rfl

noncomputable def zaq (l X : List UInt8) : zaa := [cells (bys l) 1 Md.far none, cells (AV.bool false :: bys X) 17 Md.own none]
noncomputable def znY (l X : List UInt8) : zaa := [cells (bys l) 1 Md.far none, cells (AV.bool false :: bys X) 17 Md.own none, cells [int i64 (z6 (bOf (zaq l X) (AV.sl (some (0, 0)) l.length 0 false)) (40 + zan (bOf (zaq l X) (AV.sl (some (0, 0)) l.length 0 false)) 4)), int u8 (z6 (bOf (zaq l X) (AV.sl (some (0, 0)) l.length 0 false)) (byt (bOf (zaq l X) (AV.sl (some (0, 0)) l.length 0 false)) 6)), AV.bool (decide (r6 (bOf (zaq l X) (AV.sl (some (0, 0)) l.length 0 false)) = 0)), int u8 (z6 (bOf (zaq l X) (AV.sl (some (0, 0)) l.length 0 false)) (byt (bOf (zaq l X) (AV.sl (some (0, 0)) l.length 0 false)) 8)), int u8 (z6 (bOf (zaq l X) (AV.sl (some (0, 0)) l.length 0 false)) (byt (bOf (zaq l X) (AV.sl (some (0, 0)) l.length 0 false)) 9)), int u8 (z6 (bOf (zaq l X) (AV.sl (some (0, 0)) l.length 0 false)) (byt (bOf (zaq l X) (AV.sl (some (0, 0)) l.length 0 false)) 10)), int u8 (z6 (bOf (zaq l X) (AV.sl (some (0, 0)) l.length 0 false)) (byt (bOf (zaq l X) (AV.sl (some (0, 0)) l.length 0 false)) 11)), int u8 (z6 (bOf (zaq l X) (AV.sl (some (0, 0)) l.length 0 false)) (byt (bOf (zaq l X) (AV.sl (some (0, 0)) l.length 0 false)) 12)), int u8 (z6 (bOf (zaq l X) (AV.sl (some (0, 0)) l.length 0 false)) (byt (bOf (zaq l X) (AV.sl (some (0, 0)) l.length 0 false)) 13)), int u8 (z6 (bOf (zaq l X) (AV.sl (some (0, 0)) l.length 0 false)) (byt (bOf (zaq l X) (AV.sl (some (0, 0)) l.length 0 false)) 14)), int u8 (z6 (bOf (zaq l X) (AV.sl (some (0, 0)) l.length 0 false)) (byt (bOf (zaq l X) (AV.sl (some (0, 0)) l.length 0 false)) 15)), int u8 (z6 (bOf (zaq l X) (AV.sl (some (0, 0)) l.length 0 false)) (byt (bOf (zaq l X) (AV.sl (some (0, 0)) l.length 0 false)) 16)), int u8 (z6 (bOf (zaq l X) (AV.sl (some (0, 0)) l.length 0 false)) (byt (bOf (zaq l X) (AV.sl (some (0, 0)) l.length 0 false)) 17)), int u8 (z6 (bOf (zaq l X) (AV.sl (some (0, 0)) l.length 0 false)) (byt (bOf (zaq l X) (AV.sl (some (0, 0)) l.length 0 false)) 18)), int u8 (z6 (bOf (zaq l X) (AV.sl (some (0, 0)) l.length 0 false)) (byt (bOf (zaq l X) (AV.sl (some (0, 0)) l.length 0 false)) 19)), int u8 (z6 (bOf (zaq l X) (AV.sl (some (0, 0)) l.length 0 false)) (byt (bOf (zaq l X) (AV.sl (some (0, 0)) l.length 0 false)) 20)), int u8 (z6 (bOf (zaq l X) (AV.sl (some (0, 0)) l.length 0 false)) (byt (bOf (zaq l X) (AV.sl (some (0, 0)) l.length 0 false)) 21)), int u8 (z6 (bOf (zaq l X) (AV.sl (some (0, 0)) l.length 0 false)) (byt (bOf (zaq l X) (AV.sl (some (0, 0)) l.length 0 false)) 22)), int u8 (z6 (bOf (zaq l X) (AV.sl (some (0, 0)) l.length 0 false)) (byt (bOf (zaq l X) (AV.sl (some (0, 0)) l.length 0 false)) 23)), AV.bool (decide (r6 (bOf (zaq l X) (AV.sl (some (0, 0)) l.length 0 false)) = 0)), int u8 (z6 (bOf (zaq l X) (AV.sl (some (0, 0)) l.length 0 false)) (byt (bOf (zaq l X) (AV.sl (some (0, 0)) l.length 0 false)) 24)), int u8 (z6 (bOf (zaq l X) (AV.sl (some (0, 0)) l.length 0 false)) (byt (bOf (zaq l X) (AV.sl (some (0, 0)) l.length 0 false)) 25)), int u8 (z6 (bOf (zaq l X) (AV.sl (some (0, 0)) l.length 0 false)) (byt (bOf (zaq l X) (AV.sl (some (0, 0)) l.length 0 false)) 26)), int u8 (z6 (bOf (zaq l X) (AV.sl (some (0, 0)) l.length 0 false)) (byt (bOf (zaq l X) (AV.sl (some (0, 0)) l.length 0 false)) 27)), int u8 (z6 (bOf (zaq l X) (AV.sl (some (0, 0)) l.length 0 false)) (byt (bOf (zaq l X) (AV.sl (some (0, 0)) l.length 0 false)) 28)), int u8 (z6 (bOf (zaq l X) (AV.sl (some (0, 0)) l.length 0 false)) (byt (bOf (zaq l X) (AV.sl (some (0, 0)) l.length 0 false)) 29)), int u8 (z6 (bOf (zaq l X) (AV.sl (some (0, 0)) l.length 0 false)) (byt (bOf (zaq l X) (AV.sl (some (0, 0)) l.length 0 false)) 30)), int u8 (z6 (bOf (zaq l X) (AV.sl (some (0, 0)) l.length 0 false)) (byt (bOf (zaq l X) (AV.sl (some (0, 0)) l.length 0 false)) 31)), int u8 (z6 (bOf (zaq l X) (AV.sl (some (0, 0)) l.length 0 false)) (byt (bOf (zaq l X) (AV.sl (some (0, 0)) l.length 0 false)) 32)), int u8 (z6 (bOf (zaq l X) (AV.sl (some (0, 0)) l.length 0 false)) (byt (bOf (zaq l X) (AV.sl (some (0, 0)) l.length 0 false)) 33)), int u8 (z6 (bOf (zaq l X) (AV.sl (some (0, 0)) l.length 0 false)) (byt (bOf (zaq l X) (AV.sl (some (0, 0)) l.length 0 false)) 34)), int u8 (z6 (bOf (zaq l X) (AV.sl (some (0, 0)) l.length 0 false)) (byt (bOf (zaq l X) (AV.sl (some (0, 0)) l.length 0 false)) 35)), int u8 (z6 (bOf (zaq l X) (AV.sl (some (0, 0)) l.length 0 false)) (byt (bOf (zaq l X) (AV.sl (some (0, 0)) l.length 0 false)) 36)), int u8 (z6 (bOf (zaq l X) (AV.sl (some (0, 0)) l.length 0 false)) (byt (bOf (zaq l X) (AV.sl (some (0, 0)) l.length 0 false)) 37)), int u8 (z6 (bOf (zaq l X) (AV.sl (some (0, 0)) l.length 0 false)) (byt (bOf (zaq l X) (AV.sl (some (0, 0)) l.length 0 false)) 38)), int u8 (z6 (bOf (zaq l X) (AV.sl (some (0, 0)) l.length 0 false)) (byt (bOf (zaq l X) (AV.sl (some (0, 0)) l.length 0 false)) 39))] 36 Md.own none]
theorem zxL {R : Type} (l X : List UInt8) (K : AV → zaa → Option R) :
 zbs Try.prog ztV 100 4 [] [] 21 [slB 0 l, .agg (.bool false :: bys X)] [zaC l] K =
 (if (bOk (zaq l X) (AV.sl (some (0, 0)) l.length 0 false) && decide (nOf (AV.sl (some (0, 0)) l.length 0 false) ≤ 1000000000000)) = true then
 (if (r6 (bOf (zaq l X) (AV.sl (some (0, 0)) l.length 0 false)) != 0) = true then
 K (AV.sl none 0 0 true) ((znY l X))
 else K (AV.sl none 0 0 true) ((znY l X)))
 else none) := by
  kernel_rfl

noncomputable def zok (X Y : List UInt8) : zaa := [cells (AV.bool true :: bys X) 17 Md.own none, cells (AV.bool true :: bys Y) 17 Md.own none]
noncomputable def zoQ (pr n : Int) (X Y : List UInt8) : zaa := [cells (AV.bool true :: bys X) 17 Md.own none, cells (AV.bool true :: bys Y) 17 Md.own none, ABlk.dead, cells (bys (zag (List.take 17 (AV.bool true :: bys X)))) 1 Md.own none, cells ([int u8 96, int u8 0, int u8 0, int u8 0, int u8 (u8.wrap (n.fdiv 256)), int u8 (u8.wrap n), int u8 pr, int u8 64] ++ List.take ((zag (List.take 17 (AV.bool true :: bys X))).length * 1) (bys (zag (List.take 17 (AV.bool true :: bys X))))) 1 Md.ro none, cells (bys (zag (List.take 17 (AV.bool true :: bys Y)))) 1 Md.own none, cells (List.take ((8 + (zag (List.take 17 (AV.bool true :: bys X))).length) * 1) ([int u8 96, int u8 0, int u8 0, int u8 0, int u8 (u8.wrap (n.fdiv 256)), int u8 (u8.wrap n), int u8 pr, int u8 64] ++ List.take ((zag (List.take 17 (AV.bool true :: bys X))).length * 1) (bys (zag (List.take 17 (AV.bool true :: bys X))))) ++ List.take ((zag (List.take 17 (AV.bool true :: bys Y))).length * 1) (bys (zag (List.take 17 (AV.bool true :: bys Y))))) 1 Md.own (some 4)]
theorem zlZ {R : Type} (pr n : Int) (X Y : List UInt8) (K : AV → zaa → Option R) :
 zbs Try.prog znX 100 4 [] [] 32 [.agg (.bool true :: bys X), .agg (.bool true :: bys Y), .int .u8 pr, .int .i64 n] [] K =
 (if decide (n < 0) = true then
 K (AV.tup [AV.sl none 0 0 true, AV.bool false]) ((zok X Y))
 else (if decide (n > 65535) = true then
 K (AV.tup [AV.sl none 0 0 true, AV.bool false]) ((zok X Y))
 else (if 17 ≤ (AV.bool true :: bys X).length then
 (if zas (List.take 17 (AV.bool true :: bys X)) = true then
 (if 0 + (zag (List.take 17 (AV.bool true :: bys X))).length * 1 ≤ (bys (zag (List.take 17 (AV.bool true :: bys X)))).length then
 (if (2 * (8 + (zag (List.take 17 (AV.bool true :: bys X))).length) + 200) * 1 ≤ 281474976710656 ∧ some 1 = some 1 ∧ 8 + (zag (List.take 17 (AV.bool true :: bys X))).length ≤ 70368744177664 then
 (if 0 = 0 ∧ 8 = [int u8 96, int u8 0, int u8 0, int u8 0, int u8 (u8.wrap (n.fdiv 256)), int u8 (u8.wrap n), int u8 pr, int u8 64].length ∧ (0 < (zag (List.take 17 (AV.bool true :: bys X))).length ∨ 0 = 0) ∧ 1 = 1 ∧ (List.take ((zag (List.take 17 (AV.bool true :: bys X))).length * 1) (bys (zag (List.take 17 (AV.bool true :: bys X))))).all AV.isCell = true then
 (if 17 ≤ (AV.bool true :: bys Y).length then
 (if zas (List.take 17 (AV.bool true :: bys Y)) = true then
 (if 0 + (zag (List.take 17 (AV.bool true :: bys Y))).length * 1 ≤ (bys (zag (List.take 17 (AV.bool true :: bys Y)))).length then
 (if (2 * (8 + (zag (List.take 17 (AV.bool true :: bys X))).length + (zag (List.take 17 (AV.bool true :: bys Y))).length) + 200) * 1 ≤ 281474976710656 ∧ some 1 = some 1 ∧ 8 + (zag (List.take 17 (AV.bool true :: bys X))).length + (zag (List.take 17 (AV.bool true :: bys Y))).length ≤ 70368744177664 then
 (if 0 + (8 + (zag (List.take 17 (AV.bool true :: bys X))).length) * 1 ≤ ([int u8 96, int u8 0, int u8 0, int u8 0, int u8 (u8.wrap (n.fdiv 256)), int u8 (u8.wrap n), int u8 pr, int u8 64] ++ List.take ((zag (List.take 17 (AV.bool true :: bys X))).length * 1) (bys (zag (List.take 17 (AV.bool true :: bys X))))).length then
 (if 0 = 0 ∧ 0 + (8 + (zag (List.take 17 (AV.bool true :: bys X))).length) * 1 = ([int u8 96, int u8 0, int u8 0, int u8 0, int u8 (u8.wrap (n.fdiv 256)), int u8 (u8.wrap n), int u8 pr, int u8 64] ++ List.take ((zag (List.take 17 (AV.bool true :: bys X))).length * 1) (bys (zag (List.take 17 (AV.bool true :: bys X))))).length ∧ (0 < (zag (List.take 17 (AV.bool true :: bys Y))).length ∨ 0 = 0) ∧ 1 = 1 ∧ (List.take ((zag (List.take 17 (AV.bool true :: bys Y))).length * 1) (bys (zag (List.take 17 (AV.bool true :: bys Y))))).all AV.isCell = true then
 (if 17 ≤ (AV.bool true :: bys Y).length then
 (if (AV.agg (List.take 17 (AV.bool true :: bys Y))).beq (AV.agg (List.take 17 (AV.bool true :: bys Y))) = true then
 (if 17 ≤ (AV.bool true :: bys Y).length then
 (if (AV.agg (List.take 17 (AV.bool true :: bys Y))).beq (AV.agg (List.take 17 (AV.bool true :: bys Y))) = true then
 K (AV.tup [AV.sl (some (6, 0)) (8 + (zag (List.take 17 (AV.bool true :: bys X))).length + (zag (List.take 17 (AV.bool true :: bys Y))).length) 0 false, AV.bool true]) ((zoQ pr n X Y))
 else none) else none) else none) else none) else none) else none) else none) else none) else none) else none) else none) else none) else none) else none) else none))) := by
  kernel_rfl

noncomputable def zu4 (X Y : List UInt8) : zaa := [cells (AV.bool true :: bys X) 17 Md.own none, cells (AV.bool false :: bys Y) 17 Md.own none]
theorem zv4 {R : Type} (pr n : Int) (X Y : List UInt8) (K : AV → zaa → Option R) :
 zbs Try.prog znX 100 4 [] [] 32 [.agg (.bool true :: bys X), .agg (.bool false :: bys Y), .int .u8 pr, .int .i64 n] [] K =
 K (AV.tup [AV.sl none 0 0 true, AV.bool false]) ((zu4 X Y)) := by
  kernel_rfl

noncomputable def zvC (X Y : List UInt8) : zaa := [cells (AV.bool false :: bys X) 17 Md.own none, cells (AV.bool true :: bys Y) 17 Md.own none]
theorem zvH {R : Type} (pr n : Int) (X Y : List UInt8) (K : AV → zaa → Option R) :
 zbs Try.prog znX 100 4 [] [] 32 [.agg (.bool false :: bys X), .agg (.bool true :: bys Y), .int .u8 pr, .int .i64 n] [] K =
 K (AV.tup [AV.sl none 0 0 true, AV.bool false]) ((zvC X Y)) := by
  kernel_rfl

noncomputable def zuH (X Y : List UInt8) : zaa := [cells (AV.bool false :: bys X) 17 Md.own none, cells (AV.bool false :: bys Y) 17 Md.own none]
theorem zu6 {R : Type} (pr n : Int) (X Y : List UInt8) (K : AV → zaa → Option R) :
 zbs Try.prog znX 100 4 [] [] 32 [.agg (.bool false :: bys X), .agg (.bool false :: bys Y), .int .u8 pr, .int .i64 n] [] K =
 K (AV.tup [AV.sl none 0 0 true, AV.bool false]) ((zuH X Y)) := by
  kernel_rfl


theorem zvg (l X : List UInt8) (hl : l.length ≤ 1000000000000) (hX : X.length = 16) (hr : r6 l = 0) : zbs Try.prog ztV 100 4 [] [] 21 [slB 0 l, .agg (.bool true :: bys X)] [zaC l] (fun v h => some (v, h)) = some (.sl (some (3, 0)) l.length 0 false, zuc l X) := by
 have h40 := ztq hr
 have e17 := zaW (v := true) hX
 have eW := zaK (v := true) hX
 have eB := zbY X
 have e16 := zll (v := true) hX
 have em : Nat.min 16 (l.length - 24) = 16 := Nat.min_eq_left (by omega)
 have e24 : 24 + 16 + (l.length - 40) = l.length := by omega
 rw [zq0]
 simp only [zaf, zcj, ↓Bool.and_eq_true, ↓decide_eq_true_eq, bOk, bOf, zd6, zdA, zby, List.getElem?_cons_zero, List.getElem?_cons_succ, Nat.zero_add, Nat.mul_one, Nat.add_zero, List.drop_zero, zb1, zbF, zba, za2, List.take_length, zah, zbl, zay, zaM, zbk, zcC, Bool.and_true, Bool.true_and, AV.beq_self, e17, eW, eB, em, e16, hX, e24]
 repeat (first | (refine (if_pos ?_).trans ?_; · first | trivial | omega | (simp [zai, hX, hr]; done) | (simp [zai, hX, hr]; omega)) | (refine (if_neg ?_).trans ?_; · first | omega | (simp [hX, hr]; done) | (simp [hX, hr]; omega)))
 rfl


theorem zr3 {l X : List UInt8} (hX : X.length = 16) (hr : r6 l = 0) : zdw l (.bool true :: bys X) = l.take 24 ++ X ++ l.drop 40 := by
 unfold zdw; rw [if_pos ⟨hr, rfl⟩, zbY]
theorem zxv {l : List UInt8} {cs : List AV} (h : r6 l ≠ 0 ∨ za8 cs = false) : zdw l cs = [] := by
 unfold zdw; rw [if_neg]; rintro ⟨h1, h2⟩
 rcases h with h | h
 · exact h h1
 · rw [h] at h2; simp at h2
theorem zt0 {l X : List UInt8} (hl : 40 ≤ l.length) (hX : X.length = 16) : zae (bys l) 24 (bys X) = bys (l.take 24 ++ X ++ l.drop 40) := by
 rw [zdt _ _ _ (by omega), hX]


theorem zAV : SoundE Try.prog 21 (zbj zoW) := by
 refine zb0 fun args h v h' hg => ?_
 unfold zoW at hg
 split at hg
 · rename_i b cs
   simp only [Option.some.injEq, Prod.mk.injEq, Bool.and_eq_true, decide_eq_true_eq] at hg
   obtain ⟨⟨hb, hw, hn⟩, rfl, rfl⟩ := hg
   rw [← zbt hb] at hn
   obtain ⟨v, X, rfl, hX⟩ := zdn hw
   refine ⟨[slB 0 (bOf h b), .agg (.bool v :: bys X)], [zaC (bOf h b)], .cons _ _ _ _ _ _ _ (zaJ hb 0) (.cons _ _ _ _ _ _ _ (.flat _ _ zcH) (.nil _)), ?_⟩
   generalize bOf h b = l at hn
   have none_of : ∀ {v : Bool} {h1 : zaa}, zbs Try.prog ztV 100 4 [] [] 21 [slB 0 l, .agg (.bool v :: bys X)] [zaC l] (fun v h => some (v, h)) = some (.sl none 0 0 true, h1) → (r6 l ≠ 0 ∨ v = false) →
    ∃ v1 h1', Runs Try.prog 21 [slB 0 l, .agg (.bool v :: bys X)] [zaC l] v1 h1' ∧ ∃ ks new, h ++ [zbo (zdw l (.bool v :: bys X))] = h ++ new ∧ Den h1' [zaC l].length h.length ks v1 (slB h.length (zdw l (.bool v :: bys X))) new ∧ zkX ks := by
    intro v h1 hq hv
    rw [zxv (hv.imp id fun e => e)]
    exact ⟨_, _, Runs.ofT0 zsL hq, [none], _, rfl, zqf, zdJ _⟩
   cases v
   · refine none_of (h1 := znY l X) ?_ (.inr rfl)
     rw [zxL]
     simp only [zaq, ↓Bool.and_eq_true, ↓decide_eq_true_eq, bOk, bOf, zd6, zdA, zby, List.getElem?_cons_zero, List.getElem?_cons_succ, Nat.zero_add, Nat.mul_one, Nat.add_zero, List.drop_zero, zb1, zbF, zba, za2, List.take_length, zah, zbl, zay, zaM, zbk, zcC, Bool.and_true, Bool.true_and, AV.beq_self]
     by_cases hr : r6 l = 0
     · repeat (first | (refine (if_pos ?_).trans ?_; · first | trivial | omega | (simp [zai, hr]; done) | (simp [zai, hr]; omega)) | (refine (if_neg ?_).trans ?_; · first | omega | (simp [hr]; done) | (simp [hr]; omega)))
       first | rfl | done
     · repeat (first | (refine (if_pos ?_).trans ?_; · first | trivial | omega | (simp [zai, hr]; done) | (simp [zai, hr]; omega)) | (refine (if_neg ?_).trans ?_; · first | omega | (simp [hr]; done) | (simp [hr]; omega)))
       first | rfl | done
   · by_cases hr : r6 l = 0
     · have h40 := ztq hr
       refine ⟨_, _, Runs.ofT0 zsL (zvg l X hn hX hr), [some 3], [zbo (zdw l (.bool true :: bys X))], rfl, zug (by simp) rfl ?_ ?_, zdJ _⟩
       · rw [zr3 hX hr]
         exact (show zae _ _ _ = _ by
         have em : Nat.min 16 (l.length - 24) = 16 := Nat.min_eq_left (by omega)
         simp only [bOf, zdA, zcj, List.getElem?_cons_zero, List.drop_zero, zbF, Nat.mul_one, List.take_length, zba, em, zll (v := true) hX, Nat.zero_add]
         exact zt0 (by omega) hX)
       · rw [zr3 hX hr]; simp [hX]; omega
     · refine none_of (h1 := zcj l X) ?_ (.inl hr)
       rw [zq0]
       simp only [zaf, ↓Bool.and_eq_true, ↓decide_eq_true_eq, bOk, bOf, zd6, zdA, zby, List.getElem?_cons_zero, List.getElem?_cons_succ, Nat.zero_add, Nat.mul_one, Nat.add_zero, List.drop_zero, zb1, zbF, zba, za2, List.take_length, zah, zbl, zay, zaM, zbk, zcC, Bool.and_true, Bool.true_and, AV.beq_self]
       repeat (first | (refine (if_pos ?_).trans ?_; · first | trivial | omega | (simp [zai, hr]; done) | (simp [zai, hr]; omega)) | (refine (if_neg ?_).trans ?_; · first | omega | (simp [hr]; done) | (simp [hr]; omega)))
       first | rfl | done
 · simp at hg


theorem zxq {cs ds : List AV} {pr n : Int} (h : ¬ zfM cs ds n) : zgF cs ds pr n = [] := by unfold zgF; rw [if_neg h]
theorem zwM {X Y : List UInt8} {pr n : Int} (h : 0 ≤ n ∧ n ≤ 65535) : zfM (.bool true :: bys X) (.bool true :: bys Y) n ∧ zgF (.bool true :: bys X) (.bool true :: bys Y) pr n = [96, 0, 0, 0, u8i (n / 256), u8i n, u8i pr, 64] ++ X ++ Y := by
 have hm : zfM (.bool true :: bys X) (.bool true :: bys Y) n := ⟨rfl, rfl, h.1, h.2⟩
 refine ⟨hm, ?_⟩
 unfold zgF; rw [if_pos hm, zbY, zbY]
theorem zvZ (X Y : List UInt8) (pr n : Int) (hX : X.length = 16) (hY : Y.length = 16) (hn : 0 ≤ n ∧ n ≤ 65535) (hp : 0 ≤ pr ∧ pr < 256) :
 zbs Try.prog znX 100 4 [] [] 32 [.agg (.bool true :: bys X), .agg (.bool true :: bys Y), .int .u8 pr, .int .i64 n] [] (fun v h => some (v, h)) = some (.tup [.sl (some (6, 0)) (8 + 16 + 16) 0 false, .bool true], zoQ pr n X Y) := by
 have e17 := zaW (v := true) hX
 have f17 := zaW (v := true) hY
 have eW := zaK (v := true) hX
 have fW := zaK (v := true) hY
 have eB := zbY X
 have fB := zbY Y
 have e16 := zll (v := true) hX
 have f16 := zll (v := true) hY
 have wn : u16.wrap n = n := zb7 (by omega)
 rw [zlZ]
 simp only [↓Bool.and_eq_true, ↓decide_eq_true_eq, bOk, bOf, zd6, zdA, zby, List.getElem?_cons_zero, List.getElem?_cons_succ, Nat.zero_add, Nat.mul_one, Nat.add_zero, List.drop_zero, zb1, zbF, zba, za2, List.take_length, zah, zbl, zay, zaM, zbk, zcC, Bool.and_true, Bool.true_and, AV.beq_self, e17, f17, eW, fW, eB, fB, e16, f16, hX, hY, wn]
 repeat (first | (refine (if_pos ?_).trans ?_; · first | trivial | omega | (simp [zai, hX, hY, zab, zbC, hn, hp]; done) | (simp [zai, hX, hY, zab, zbC, hn, hp]; omega)) | (refine (if_neg ?_).trans ?_; · first | omega | (simp [hX, hY, zab, zbC, hn, hp]; done) | (simp [hX, hY, zab, zbC, hn, hp]; omega)))
 rfl

theorem zA0 : SoundE Try.prog 32 (zbj zwF) := by
 refine zb0 fun args h v h' hg => ?_
 unfold zwF at hg
 split at hg
 · rename_i cs ds pr n
   simp only [Option.some.injEq, Prod.mk.injEq, Bool.and_eq_true, decide_eq_true_eq] at hg
   obtain ⟨⟨hw, hw2, hp⟩, rfl, rfl⟩ := hg
   obtain ⟨v, X, rfl, hX⟩ := zdn hw
   obtain ⟨u, Y, rfl, hY⟩ := zdn hw2
   refine ⟨[.agg (.bool v :: bys X), .agg (.bool u :: bys Y), .int .u8 pr, .int .i64 n], [], .cons _ _ _ _ _ _ _ (.flat _ _ zcH) (.cons _ _ _ _ _ _ _ (.flat _ _ zcH) (.cons _ _ _ _ _ _ _ (.flat _ _ rfl) (.cons _ _ _ _ _ _ _ (.flat _ _ rfl) (.nil _)))), ?_⟩
   have none_of : ∀ {v u : Bool} {h1 : zaa}, zbs Try.prog znX 100 4 [] [] 32 [.agg (.bool v :: bys X), .agg (.bool u :: bys Y), .int .u8 pr, .int .i64 n] [] (fun v h => some (v, h)) = some (.tup [.sl none 0 0 true, .bool false], h1) → ¬ zfM (.bool v :: bys X) (.bool u :: bys Y) n →
    ∃ v1 h1', Runs Try.prog 32 [.agg (.bool v :: bys X), .agg (.bool u :: bys Y), .int .u8 pr, .int .i64 n] [] v1 h1' ∧ ∃ ks new, h ++ [zbo (zgF (.bool v :: bys X) (.bool u :: bys Y) pr n)] = h ++ new ∧
     Den h1' ([] : zaa).length h.length ks v1 (.tup [slB h.length (zgF (.bool v :: bys X) (.bool u :: bys Y) pr n), .bool (decide (zfM (.bool v :: bys X) (.bool u :: bys Y) n))]) new ∧ zkX ks := by
    intro v u h1 hq hv
    rw [zxq hv, decide_eq_false hv]
    exact ⟨_, _, Runs.ofT0 zsR hq, [none], _, rfl, zwB, zdJ _⟩
   cases v
   · cases u
     · exact none_of (zu6 pr n X Y _) (fun h => by have := h.1; simp [za8] at this)
     · exact none_of (zvH pr n X Y _) (fun h => by have := h.1; simp [za8] at this)
   cases u
   · exact none_of (zv4 pr n X Y _) (fun h => by have := h.2.1; simp [za8] at this)
   by_cases h0 : n < 0
   · exact none_of ((zlZ pr n X Y _).trans (if_pos (by simpa using h0))) (fun h => by have := h.2.2; omega)
   by_cases h1 : n > 65535
   · exact none_of ((zlZ pr n X Y _).trans ((if_neg (by simpa using h0)).trans (if_pos (by simpa using h1)))) (fun h => by have := h.2.2; omega)
   have hn : 0 ≤ n ∧ n ≤ 65535 := by omega
   obtain ⟨m1, m2⟩ := zwM (X := X) (Y := Y) (pr := pr) hn
   rw [m2, decide_eq_true m1]
   exact ⟨_, _, Runs.ofT0 zsR (zvZ X Y pr n hX hY hn hp), [some 6], _, rfl, zzP (by simp) rfl (by
         have w1 : u8.wrap (n.fdiv 256) = ((u8i (n / 256)).toNat : Int) := by rw [zaH, Int.fdiv_eq_ediv_of_nonneg _ (by omega)]
         have w3 : AV.int .u8 pr = AV.int .u8 (((u8i pr).toNat : Nat) : Int) := by rw [zaG]; congr 1; omega
         have eb : ([AV.int .u8 96, AV.int .u8 0, AV.int .u8 0, AV.int .u8 0, AV.int .u8 (((u8i (n / 256)).toNat : Nat) : Int), AV.int .u8 (((u8i n).toNat : Nat) : Int), AV.int .u8 (((u8i pr).toNat : Nat) : Int), AV.int .u8 64] : List AV) = bys [96, 0, 0, 0, u8i (n / 256), u8i n, u8i pr, 64] := rfl
         rw [zaW (v := true) hX, zaW (v := true) hY, zbY, zbY, w1, zaH, w3, eb, hX, hY]
         have e2 : List.take 16 X = X := List.take_of_length_le (by omega)
         have e3 : List.take 16 Y = Y := List.take_of_length_le (by omega)
         simp only [Nat.mul_one, zbF, e2, e3, zqc]
         rw [List.take_of_length_le (by simp [hX])]) (by simp [hX, hY]), zdJ _⟩
 · simp at hg

end Go.Proofs.Ytnchnjkakddhlaa.L