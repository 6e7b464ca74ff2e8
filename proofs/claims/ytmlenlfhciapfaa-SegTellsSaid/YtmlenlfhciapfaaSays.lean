/- Functions of octet, chksum, addr and the reference, their answers told. -/
import Derived.Test.YtmlenlfhciapfaaSeg
import Derived.Test.YtmlenlfhciapfaaClone
import Derived.Test.YtmlenlfhciapfaaPut16
import Derived.Test.YtmlenlfhciapfaaChange
import Derived.Test.YtmlenlfhciapfaaRSums
import Derived.Test.YtmlenlfhciapfaaABytes
import Derived.Test.YtmlenlfhciapfaaRBytes
set_option autoImplicit false
set_option maxRecDepth 100000
set_option linter.unusedVariables false
namespace Go.Proofs.Ytmlenlfhciapfaa.L
open Go Go.Abs

theorem sayW {h : AHeap} {a : AV} {l : List UInt8} {p w : Int} {q : Nat} (g : bOk h a = true ∧ bOf h a = l) (hn : (nOf a : Int) < 9223372036854775000 ∧ 0 ≤ p ∧ p + 2 ≤ (nOf a : Int)) (hq : p.toNat = q) (hw : word l q = w) : Says eW16 [a, .int .i64 p] h (.tup [.int .u16 w, .bool true]) [] := ⟨by
  show some (bOk h a && decide ((nOf a : Int) < 9223372036854775000 ∧ 0 ≤ p ∧ p + 2 ≤ (nOf a : Int)), AV.tup [.int .u16 (word (bOf h a) p.toNat), .bool true], h) = _
  rw [g.1, g.2, hq, hw, decide_eq_true hn, List.append_nil]; rfl⟩
theorem sayBe {h : AHeap} {a : AV} {l : List UInt8} {p w : Int} {q : Nat} (g : bOk h a = true ∧ bOf h a = l) (hn : nOf a ≤ 70368744177664 ∧ 0 ≤ p ∧ p + 2 ≤ (nOf a : Int)) (hq : p.toNat = q) (hw : word l q = w) : Says eBe16 [a, .int .i64 p] h (.int .i64 w) [] := ⟨by
  show some (bOk h a && decide (nOf a ≤ 70368744177664 ∧ 0 ≤ p ∧ p + 2 ≤ (nOf a : Int)), AV.int .i64 (word (bOf h a) p.toNat), h) = _
  rw [g.1, g.2, hq, hw, decide_eq_true hn, List.append_nil]; rfl⟩
theorem sayClone {h : AHeap} {a : AV} {l : List UInt8} {k : Nat} (g : bOk h a = true ∧ bOf h a = l) (hn : nOf a ≤ 1000000000000) (hk : h.length = k) : Says eClone [a] h (slB k l) [ownB l] := ⟨by
  show some (bOk h a && decide (nOf a ≤ 1000000000000), slB h.length (bOf h a), h ++ [ownB (bOf h a)]) = _
  rw [g.1, g.2, hk, decide_eq_true hn]; rfl⟩
theorem sayPut {h h' : AHeap} {i n : Nat} {vs : List AV} {l : List UInt8} {p v : Int} (hb : h[i]? = some (.cells vs 1 .own none)) (hv : vs = bys l) (hn : n = l.length) (hl : l.length ≤ 1000000000000) (hp : 0 ≤ p ∧ p + 2 ≤ (l.length : Int)) (hx : 0 ≤ v ∧ v < 65536)
    (he : h.set i (ownB (putR l p 2 v)) = h') : SaysH ePut16 [.sl (some (i, 0)) n 0 false, .int .i64 p, .int .u16 v] h (.bool true) h' := ⟨by
  subst hv hn he
  unfold ePut16
  simp only [hb, Option.some.injEq, Prod.mk.injEq, AV.bool.injEq, decide_eq_true_eq, bys_byteD]
  refine ⟨cdec_true.2 ⟨trivial, trivial, trivial, trivial, by simp, hl, by simp, hx.1, hx.2, by simp⟩, hp, rfl⟩⟩
theorem sayUpd {h : AHeap} {o f t u : Int} (ho : 0 ≤ o ∧ o < 65536) (hf : 0 ≤ f ∧ f < 65536) (ht : 0 ≤ t ∧ t < 65536) (hu : updI o f t = u) : Says eUpdate [.int .u16 o, .int .u16 f, .int .u16 t] h (.int .u16 u) [] := ⟨by
  show some (decide ((0 ≤ o ∧ o < 65536) ∧ (0 ≤ f ∧ f < 65536) ∧ (0 ≤ t ∧ t < 65536)), AV.int .u16 (updI o f t), h) = _
  rw [hu, decide_eq_true ⟨ho, hf, ht⟩, List.append_nil]⟩
theorem sayBytes {h : AHeap} {cs : List AV} {A : List UInt8} {k : Nat} (hw : adrWf cs = true) (hA : adrBytes cs = A) (hk : h.length = k) : Says eBytes [.agg cs] h (slB k A) [ownB A] := ⟨by
  show some (adrWf cs, slB h.length (adrBytes cs), h ++ [ownB (adrBytes cs)]) = _
  rw [hw, hA, hk]⟩
theorem sayChange {h : AHeap} {a b : AV} {A B : List UInt8} {o c : Int} (ga : bOk h a = true ∧ bOf h a = A) (gb : bOk h b = true ∧ bOf h b = B) (hn : nOf a ≤ 70368744177664 ∧ 0 ≤ o ∧ o < 65536) (hc : changeI o A B = c) : Says eChange [.int .u16 o, a, b] h (.int .u16 c) [] := ⟨by
  show some (bOk h a && bOk h b && decide (nOf a ≤ 70368744177664 ∧ 0 ≤ o ∧ o < 65536), AV.int .u16 (changeI o (bOf h a) (bOf h b)), h) = _
  rw [ga.1, ga.2, gb.1, gb.2, hc, decide_eq_true hn, List.append_nil]; rfl⟩
theorem sayRChange {h : AHeap} {a b : AV} {A B : List UInt8} {o c : Int} (ga : bOk h a = true ∧ bOf h a = A) (gb : bOk h b = true ∧ bOf h b = B) (hn : nOf a ≤ 70368744177664 ∧ 0 ≤ o ∧ o < 65536) (hc : changeI o A B = c) : Says eRChange [.int .i64 o, a, b] h (.int .i64 c) [] := ⟨by
  show some (bOk h a && bOk h b && decide (nOf a ≤ 70368744177664 ∧ 0 ≤ o ∧ o < 65536), AV.int .i64 (changeI o (bOf h a) (bOf h b)), h) = _
  rw [ga.1, ga.2, gb.1, gb.2, hc, decide_eq_true hn, List.append_nil]; rfl⟩
theorem sayRSum {h : AHeap} {a : AV} {l : List UInt8} {s r : Int} (g : bOk h a = true ∧ bOf h a = l) (hn : nOf a ≤ 70368744177664 ∧ 0 ≤ s ∧ s < 4294967296) (hr : sumI l s = r) : Says eRSum [a, .int .u32 s] h (.int .i64 r) [] := ⟨by
  show some (bOk h a && decide (nOf a ≤ 70368744177664 ∧ 0 ≤ s ∧ s < 4294967296), AV.int .i64 (sumI (bOf h a) s), h) = _
  rw [g.1, g.2, hr, decide_eq_true hn, List.append_nil]; rfl⟩
theorem saySum {h : AHeap} {a : AV} {l : List UInt8} {s r : Int} (g : bOk h a = true ∧ bOf h a = l) (hn : nOf a ≤ 70368744177664 ∧ 0 ≤ s ∧ s < 4294967296) (hr : sumI l s = r) : Says eSum [a, .int .u32 s] h (.int .u16 r) [] := ⟨by
  show some (bOk h a && decide (nOf a ≤ 70368744177664 ∧ 0 ≤ s ∧ s < 4294967296), AV.int .u16 (sumI (bOf h a) s), h) = _
  rw [g.1, g.2, hr, decide_eq_true hn, List.append_nil]; rfl⟩
theorem saySegR {h : AHeap} {a v : AV} {l : List UInt8} {p : Int} (g : bOk h a = true ∧ bOf h a = l) (hn : nOf a ≤ 1000000000000) (hr : segRead p l = v) : Says eSegR [.int .u8 p, a] h v [] := ⟨by
  show some (bOk h a && decide (nOf a ≤ 1000000000000), segRead p (bOf h a), h) = _
  rw [g.1, g.2, hr, decide_eq_true hn, List.append_nil]; rfl⟩
theorem sayRSegR {h : AHeap} {a v : AV} {l : List UInt8} {p : Int} (g : bOk h a = true ∧ bOf h a = l) (hn : nOf a ≤ 1000000000000) (hr : segRRead p l = v) : Says eRSegR [.int .u8 p, a] h v [] := ⟨by
  show some (bOk h a && decide (nOf a ≤ 1000000000000), segRRead p (bOf h a), h) = _
  rw [g.1, g.2, hr, decide_eq_true hn, List.append_nil]; rfl⟩

end Go.Proofs.Ytmlenlfhciapfaa.L
