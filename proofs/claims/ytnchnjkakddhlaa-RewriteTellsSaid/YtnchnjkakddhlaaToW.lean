/- rewrite.To of a built frame. -/
import Derived.Test.YtnchnjkakddhlaaToN
set_option autoImplicit false
set_option maxRecDepth 100000
set_option linter.unusedVariables false
set_option linter.unusedSimpArgs false
namespace Go.Proofs.Ytnchnjkakddhlaa.L
open Go Go.Abs

theorem denP9 {h1 : AHeap} {n0 m k o n r : Nat} {vs : List AV} {l L : List UInt8} {par : Option Nat} (hk : n0 ≤ k) (hb : h1[k]? = some (.cells vs 1 .own par)) (hv : vs = bys l) (hn : o + (n + r) ≤ l.length) (h0 : n ≠ 0) (hL : (l.drop o).take n = L) : Den h1 n0 m [some k] (.sl (some (k, o)) n r false) (slB m L) [ownB L] := by
  subst hv hL
  have := Den.row (h1 := h1) (n0 := n0) m k o n r false (bys l) 1 par hk (by omega) hb ⟨by simp [capOf], by simp [capOf]; omega⟩ (fun h => absurd h h0) (by simp)
  have e : ((bys l).drop o).take (n * 1) = bys ((l.drop o).take n) := by simp
  rw [e] at this
  have e2 : ((l.drop o).take n).length = n := by simp; omega
  unfold slB ownB
  rw [e2]; exact this
def over (l : List UInt8) (o : Nat) (xs : List UInt8) : List UInt8 := l.take o ++ xs ++ l.drop (o + xs.length)
theorem over_length {l xs : List UInt8} {o : Nat} (h : o + xs.length ≤ l.length) : (over l o xs).length = l.length := by simp [over]; omega
theorem over_cells {l xs : List UInt8} {o : Nat} (h : o + xs.length ≤ l.length) : putCells (bys l) o (bys xs) = bys (over l o xs) := putCells_bytes _ _ _ h
theorem say6D9 {h : AHeap} {a : AV} {l D : List UInt8} {cs : List AV} {k : Nat} (g : bOk h a = true ∧ bOf h a = l) (hn : nOf a ≤ 1000000000000) (hw : adrWf cs = true) (hd : dest6 l cs = D) (hk : h.length = k) : Says eDst6 [a, .agg cs] h (slB k D) [ownB D] := ⟨by
  show some (bOk h a && (adrWf cs && decide (nOf a ≤ 1000000000000)), slB h.length (dest6 (bOf h a) cs), h ++ [ownB (dest6 (bOf h a) cs)]) = _
  rw [g.1, g.2, hw, hd, hk, decide_eq_true hn]; rfl⟩
theorem say4D9 {h : AHeap} {a : AV} {l D : List UInt8} {cs : List AV} {k : Nat} (g : bOk h a = true ∧ bOf h a = l) (hn : nOf a ≤ 1000000000000) (hw : adrWf cs = true) (hd : dest4 l cs = D) (hk : h.length = k) : Says eDst4 [a, .agg cs] h (slB k D) [ownB D] := ⟨by
  show some (bOk h a && (adrWf cs && decide (nOf a ≤ 1000000000000)), slB h.length (dest4 (bOf h a) cs), h ++ [ownB (dest4 (bOf h a) cs)]) = _
  rw [g.1, g.2, hw, hd, hk, decide_eq_true hn]; rfl⟩

end Go.Proofs.Ytnchnjkakddhlaa.L
