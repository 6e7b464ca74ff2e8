/- The reference's Build: what it yields. -/
import Derived.Test.YtjkkhbeidhpghaaBuildM
set_option autoImplicit false
set_option maxRecDepth 100000
set_option linter.unusedVariables false
set_option linter.unusedSimpArgs false
namespace Go.Proofs.Ytjkkhbeidhpghaa.L
open Go Go.Abs

theorem say4Mk {h : AHeap} {cs ds : List AV} {pr n : Int} {M : List UInt8} {k : Nat} (hc : adrWf cs = true) (hd : adrWf ds = true) (hp : 0 ≤ pr ∧ pr < 256) (hm : makes4 cs ds n) (hM : make4 cs ds pr n = M) (hk : h.length = k) :
    Says eMk4 [.agg cs, .agg ds, .int .u8 pr, .int .i64 n] h (.tup [slB k M, .bool true]) [ownB M] := ⟨by
  show some (adrWf cs && (adrWf ds && decide (0 ≤ pr ∧ pr < 256)), AV.tup [slB h.length (make4 cs ds pr n), .bool (decide (makes4 cs ds n))], h ++ [ownB (make4 cs ds pr n)]) = _
  rw [hc, hd, decide_eq_true hm, hM, hk, decide_eq_true hp]; rfl⟩
theorem say6Mk {h : AHeap} {cs ds : List AV} {pr n : Int} {M : List UInt8} {k : Nat} (hc : adrWf cs = true) (hd : adrWf ds = true) (hp : 0 ≤ pr ∧ pr < 256) (hm : makes6 cs ds n) (hM : make6 cs ds pr n = M) (hk : h.length = k) :
    Says eMk6 [.agg cs, .agg ds, .int .u8 pr, .int .i64 n] h (.tup [slB k M, .bool true]) [ownB M] := ⟨by
  show some (adrWf cs && (adrWf ds && decide (0 ≤ pr ∧ pr < 256)), AV.tup [slB h.length (make6 cs ds pr n), .bool (decide (makes6 cs ds n))], h ++ [ownB (make6 cs ds pr n)]) = _
  rw [hc, hd, decide_eq_true hm, hM, hk, decide_eq_true hp]; rfl⟩

end Go.Proofs.Ytjkkhbeidhpghaa.L
