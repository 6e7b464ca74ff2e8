/- IPv4's functions, their answers told. -/
import Derived.Test.YtmlmdbicbpicbaaFour2
import Derived.Test.YtmlmdbicbpicbaaKeyDip
import Derived.Test.YtmlmdbicbpicbaaPk4Kit
import Derived.Test.YtmlmdbicbpicbaaRSums
import Derived.Test.YtmlmdbicbpicbaaLawKit
set_option autoImplicit false
set_option maxRecDepth 100000
set_option linter.unusedVariables false
namespace Go.Proofs.Ytmlmdbicbpicbaa.L
open Go Go.Abs

theorem say4R {h : AHeap} {a v : AV} {l : List UInt8} (g : bOk h a = true ∧ bOf h a = l) (hn : nOf a ≤ 1000000000000) (hr : v4Read l = v) : Says eFour [a] h v [] := ⟨by
  show some (bOk h a && decide (nOf a ≤ 1000000000000), v4Read (bOf h a), h) = some (true, v, h ++ [])
  rw [g.1, g.2, hr, decide_eq_true hn, List.append_nil]; rfl⟩
theorem say4D {h : AHeap} {a : AV} {l D : List UInt8} {cs : List AV} {k : Nat} (g : bOk h a = true ∧ bOf h a = l) (hn : nOf a ≤ 1000000000000) (hw : adrWf cs = true) (hd : dest4 l cs = D) (hk : h.length = k) : Says eDst4 [a, .agg cs] h (slB k D) [ownB D] := ⟨by
  show some (bOk h a && (adrWf cs && decide (nOf a ≤ 1000000000000)), slB h.length (dest4 (bOf h a) cs), h ++ [ownB (dest4 (bOf h a) cs)]) = _
  rw [g.1, g.2, hw, hd, hk, decide_eq_true hn]; rfl⟩
theorem say4M {h : AHeap} {cs ds : List AV} {pr n : Int} {M : List UInt8} {k : Nat} {b : Bool} (hc : adrWf cs = true) (hd : adrWf ds = true) (hp : 0 ≤ pr ∧ pr < 256) (hm : decide (makes4 cs ds n) = b) (hM : make4 cs ds pr n = M) (hk : h.length = k) :
    Says eMk4 [.agg cs, .agg ds, .int .u8 pr, .int .i64 n] h (.tup [slB k M, .bool b]) [ownB M] := ⟨by
  show some (adrWf cs && (adrWf ds && decide (0 ≤ pr ∧ pr < 256)), AV.tup [slB h.length (make4 cs ds pr n), .bool (decide (makes4 cs ds n))], h ++ [ownB (make4 cs ds pr n)]) = _
  rw [hc, hd, hm, hM, hk, decide_eq_true hp]; rfl⟩
theorem sayRS {h : AHeap} {a : AV} {l : List UInt8} {s r : Int} (g : bOk h a = true ∧ bOf h a = l) (hn : nOf a ≤ 70368744177664 ∧ 0 ≤ s ∧ s < 4294967296) (hr : sumI l s = r) : Says eRSum [a, .int .u32 s] h (.int .i64 r) [] := ⟨by
  show some (bOk h a && decide (nOf a ≤ 70368744177664 ∧ 0 ≤ s ∧ s < 4294967296), AV.int .i64 (sumI (bOf h a) s), h) = _
  rw [g.1, g.2, hr, decide_eq_true hn, List.append_nil]; rfl⟩

end Go.Proofs.Ytmlmdbicbpicbaa.L
