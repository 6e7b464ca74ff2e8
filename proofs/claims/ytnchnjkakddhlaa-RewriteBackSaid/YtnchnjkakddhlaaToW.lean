/- rewrite.To of a built frame. -/
import Derived.Test.YtnchnjkakddhlaaToN
set_option autoImplicit false
set_option maxRecDepth 100000
set_option linter.unusedVariables false
set_option linter.unusedSimpArgs false
namespace Go.Proofs.Ytnchnjkakddhlaa.L
open Go Go.Abs

theorem zu8 {h1 : zaa} {n0 m k o n r : Nat} {vs : List AV} {l L : List UInt8} {par : Option Nat} (hk : n0 ≤ k) (hb : h1[k]? = some (.cells vs 1 .own par)) (hv : vs = bys l) (hn : o + (n + r) ≤ l.length) (h0 : n ≠ 0) (hL : (l.drop o).take n = L) : Den h1 n0 m [some k] (.sl (some (k, o)) n r false) (slB m L) [zbo L] := by
 subst hv hL
 have := Den.row (h1 := h1) (n0 := n0) m k o n r false (bys l) 1 par hk (by omega) hb ⟨by simp [zai], by simp [zai]; omega⟩ (fun h => absurd h h0) (by simp)
 have e : ((bys l).drop o).take (n * 1) = bys ((l.drop o).take n) := by simp
 rw [e] at this
 have e2 : ((l.drop o).take n).length = n := by simp; omega
 unfold slB zbo
 rw [e2]; exact this
def zdu (l : List UInt8) (o : Nat) (xs : List UInt8) : List UInt8 := l.take o ++ xs ++ l.drop (o + xs.length)
theorem zcl {l xs : List UInt8} {o : Nat} (h : o + xs.length ≤ l.length) : (zdu l o xs).length = l.length := by simp [zdu]; omega
theorem zc0 {l xs : List UInt8} {o : Nat} (h : o + xs.length ≤ l.length) : zae (bys l) o (bys xs) = bys (zdu l o xs) := zdt _ _ _ h
theorem zwd {h : zaa} {a : AV} {l D : List UInt8} {cs : List AV} {k : Nat} (g : bOk h a = true ∧ bOf h a = l) (hn : nOf a ≤ 1000000000000) (hw : zas cs = true) (hd : zdw l cs = D) (hk : h.length = k) : Says zoW [a, .agg cs] h (slB k D) [zbo D] := ⟨by
 show some (bOk h a && (zas cs && decide (nOf a ≤ 1000000000000)), slB h.length (zdw (bOf h a) cs), h ++ [zbo (zdw (bOf h a) cs)]) = _
 rw [g.1, g.2, hw, hd, hk, decide_eq_true hn]; rfl⟩
theorem zwk {h : zaa} {a : AV} {l D : List UInt8} {cs : List AV} {k : Nat} (g : bOk h a = true ∧ bOf h a = l) (hn : nOf a ≤ 1000000000000) (hw : zas cs = true) (hd : zc6 l cs = D) (hk : h.length = k) : Says zmA [a, .agg cs] h (slB k D) [zbo D] := ⟨by
 show some (bOk h a && (zas cs && decide (nOf a ≤ 1000000000000)), slB h.length (zc6 (bOf h a) cs), h ++ [zbo (zc6 (bOf h a) cs)]) = _
 rw [g.1, g.2, hw, hd, hk, decide_eq_true hn]; rfl⟩

end Go.Proofs.Ytnchnjkakddhlaa.L
