/- seg's Good, and the reference's: what they yield. -/
import Derived.Test.YtnchnjkakddhlaaSeg3
set_option autoImplicit false
set_option maxRecDepth 100000
set_option linter.unusedVariables false
set_option linter.unusedSimpArgs false
namespace Go.Proofs.Ytnchnjkakddhlaa.L
open Go Go.Abs

theorem sayPort {h : AHeap} {a : AV} {l L : List UInt8} {p to : Int} {cs ds : List AV} {k : Nat} (g : bOk h a = true ∧ bOf h a = l) (hc : adrWf cs = true) (hd : adrWf ds = true) (hn : nOf a ≤ 1000000000000) (hto : 0 ≤ to ∧ to < 65536) (hL : portL p l to cs ds = L) (hk : h.length = k) : Says ePort [.int .u8 p, a, .int .u16 to, .agg cs, .agg ds] h (slB k L) [ownB L] := ⟨by
  show some (bOk h a && (adrWf cs && (adrWf ds && decide (nOf a ≤ 1000000000000 ∧ 0 ≤ to ∧ to < 65536))), slB h.length (portL p (bOf h a) to cs ds), h ++ [ownB (portL p (bOf h a) to cs ds)]) = _
  rw [g.1, g.2, hc, hd, hL, hk, decide_eq_true ⟨hn, hto⟩]; rfl⟩
theorem sayRPort {h : AHeap} {a : AV} {l L : List UInt8} {p to : Int} {cs ds : List AV} {k : Nat} (g : bOk h a = true ∧ bOf h a = l) (hc : adrWf cs = true) (hd : adrWf ds = true) (hn : nOf a ≤ 1000000000000) (hto : 0 ≤ to ∧ to < 65536) (hL : portL p l to cs ds = L) (hk : h.length = k) : Says eRPort [.int .u8 p, a, .int .i64 to, .agg cs, .agg ds] h (slB k L) [ownB L] := ⟨by
  show some (bOk h a && (adrWf cs && (adrWf ds && decide (nOf a ≤ 1000000000000 ∧ 0 ≤ to ∧ to < 65536))), slB h.length (portL p (bOf h a) to cs ds), h ++ [ownB (portL p (bOf h a) to cs ds)]) = _
  rw [g.1, g.2, hc, hd, hL, hk, decide_eq_true ⟨hn, hto⟩]; rfl⟩
end Go.Proofs.Ytnchnjkakddhlaa.L
