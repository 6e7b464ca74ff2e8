/- Orders: what is told of addresses and bytes. -/
import Derived.Test.YtjlepcfeeicdfaaAddrB
import Derived.Test.YtjlepcfeeicdfaaApp
import Derived.Test.YtjlepcfeeicdfaaOctB
import Derived.Test.YtjlepcfeeicdfaaBase
import Derived.Test.YtjlepcfeeicdfaaGcKit
import Derived.Test.YtjlepcfeeicdfaaRVald
import Derived.Test.YtjlepcfeeicdfaaPVal
import Derived.Test.YtjlepcfeeicdfaaPlKit
set_option autoImplicit false
set_option maxRecDepth 100000
set_option linter.unusedVariables false
set_option linter.unusedSimpArgs false
namespace Go.Proofs.Ytjlepcfeeicdfaa.L
open Go Go.Abs

def adF (w : Bool) (x : Nat → Int) : List AV := adrV w (x 0) (x 1) (x 2) (x 3) (x 4) (x 5) (x 6) (x 7) (x 8) (x 9) (x 10) (x 11) (x 12) (x 13) (x 14) (x 15)
def adZ : List AV := [.bool false, .int .u8 0, .int .u8 0, .int .u8 0, .int .u8 0, .int .u8 0, .int .u8 0, .int .u8 0, .int .u8 0, .int .u8 0, .int .u8 0, .int .u8 0, .int .u8 0, .int .u8 0, .int .u8 0, .int .u8 0, .int .u8 0]
theorem adrWf_fn {cs : List AV} (h : adrWf cs = true) : ∃ w x, cs = adF w x := by
  obtain ⟨w, x0, x1, x2, x3, x4, x5, x6, x7, x8, x9, x10, x11, x12, x13, x14, x15, rfl, _⟩ := adrWf_lit h
  exact ⟨w, fun i => [x0, x1, x2, x3, x4, x5, x6, x7, x8, x9, x10, x11, x12, x13, x14, x15].getD i 0, rfl⟩
theorem bOk_cut1 {h : AHeap} {k o n r : Nat} {e : Bool} {vs : List AV} {md : Md} {par : Option Nat} {l L : List UInt8} (hk : h[k]? = some (.cells vs 1 md par)) (hv : vs = bys l) (hn : o + n ≤ l.length) (hL : (l.drop o).take n = L) :
    bOk h (.sl (some (k, o)) n r e) = true ∧ bOf h (.sl (some (k, o)) n r e) = L := by
  have g := bOk_part (r := r) (e := e) hk hv hn
  exact ⟨g.1, g.2.trans hL⟩
theorem denTupRow {h1 : AHeap} {n0 m k n z : Nat} {vs : List AV} {par : Option Nat} {a : AV} (hk : n0 ≤ k) (hb : h1[k]? = some (.cells vs z .own par)) (hz : 0 < z) (hn : vs.length = n * z) (hf : AV.frees vs = true) (ha : a.free = true) :
    Den h1 n0 m [some k] (.tup [.sl (some (k, 0)) n 0 false, a]) (.tup [.sl (some (m, 0)) n 0 false, a]) [.cells vs z .own none] :=
  .tup _ _ _ _ _ (.cons _ [some k] [] _ _ _ _ [.cells vs z .own none] [] (denRowN hk hb hz hn hf) (.cons _ [] [] _ _ _ _ [] [] (.flat _ _ ha) (.nil _)))
theorem denTupNil {h1 : AHeap} {n0 m z : Nat} {e : Bool} {a : AV} (ha : a.free = true) : Den h1 n0 m [none] (.tup [.sl none 0 0 e, a]) (.tup [.sl (some (m, 0)) 0 0 false, a]) [.cells [] z .own none] :=
  .tup _ _ _ _ _ (.cons _ [none] [] _ _ _ _ [.cells [] z .own none] [] (.nil _ _ _) (.cons _ [] [] _ _ _ _ [] [] (.flat _ _ ha) (.nil _)))
theorem sayBytes {h : AHeap} {cs : List AV} {A : List UInt8} {k : Nat} (hw : adrWf cs = true) (hA : adrBytes cs = A) (hk : h.length = k) : Says eBytes [.agg cs] h (slB k A) [ownB A] := ⟨by
  show some (adrWf cs, slB h.length (adrBytes cs), h ++ [ownB (adrBytes cs)]) = _
  rw [hw, hA, hk]⟩
theorem sayApp16 {h : AHeap} {b : AV} {v : Int} {A Z : List UInt8} {k : Nat} (g : bOk h b = true ∧ bOf h b = A) (hn : nOf b ≤ 100000000000) (hv : 0 ≤ v ∧ v < 65536) (hZ : A ++ bigR v 2 = Z) (hk : h.length = k) : Says eApp16 [b, .int .u16 v] h (slB k Z) [ownB Z] := ⟨by
  show some (bOk h b && decide (nOf b ≤ 100000000000 ∧ 0 ≤ v ∧ v < 256 ^ 2), slB h.length (bOf h b ++ bigR v 2), h ++ [ownB (bOf h b ++ bigR v 2)]) = _
  rw [g.1, g.2, hZ, hk, decide_eq_true ⟨hn, hv.1, by omega⟩]; rfl⟩

def rowP (h : AHeap) (a : AV) (P : PL) : Prop := rowOk h a 19 = true ∧ rowOf h a = itP P
theorem rowP_len {h : AHeap} {a : AV} {P : PL} (g : rowP h a P) : nOf a = P.length := by
  have := rowLen g.1
  rw [g.2, itP_length] at this
  omega
theorem rowP_canon {h : AHeap} {a : AV} {P : PL} (g : rowP h a P) (n : Nat) : Canon h n a (.sl (some (n, 0)) P.length 0 false) [.cells (itP P) 19 .far none] := by
  have := rowCanon g.1 g.2 (itP_frees _) n
  rwa [rowP_len g] at this
theorem rowP_blk {h : AHeap} {k n r : Nat} {e : Bool} {md : Md} {par : Option Nat} {P : PL} (hk : h[k]? = some (.cells (itP P) 19 md par)) (hn : n = P.length) : rowP h (.sl (some (k, 0)) n r e) P := by
  subst hn
  constructor
  · simp [rowOk, hk]
  · simp only [rowOf, hk, List.drop_zero]; exact List.take_of_length_le (by simp)

end Go.Proofs.Ytjlepcfeeicdfaa.L
