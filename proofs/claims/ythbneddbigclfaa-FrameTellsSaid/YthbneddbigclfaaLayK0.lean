/- The layers of a frame. -/
import Derived.Test.YthbneddbigclfaaGoodF
set_option autoImplicit false
set_option linter.unusedVariables false
namespace Go.Proofs.Ythbneddbigclfaa.L
open Go Go.Abs
def sETH : List UInt8 := [101, 116, 104, 101, 114]
def sVLAN : List UInt8 := [118, 108, 97, 110]
def sIP (v : Bool) : List UInt8 := if v = true then [105, 112, 118, 54] else [105, 112, 118, 52]
def sL4 (u : Bool) : List UInt8 := if u = true then [117, 100, 112] else [116, 99, 112]
def lyP (l : List UInt8) : List (List UInt8 × Int) :=
  if (netR l).2.2 = 1 then [] else (sETH, 0) :: ((if word l 12 = 33024 then [(sVLAN, 14)] else []) ++
    (if (netR l).2.2 ≠ 0 then [] else if rdI l ≠ 0 then [] else (sIP (isV6 l), (netR l).1) :: (if segR (rdP l) (rdG l) ≠ 0 then [] else [(sL4 (decide (rdP l = 17)), (netR l).1 + rdS l)])))
def lyC : List (List UInt8 × Int) → List AV
  | [] => []
  | p :: ps => .str p.1 :: .int .i64 p.2 :: lyC ps
theorem lyC_len : ∀ ps, (lyC ps).length = ps.length * 2
  | [] => rfl
  | p :: ps => by simp [lyC, lyC_len ps]; omega
theorem lyC_free : ∀ ps, AV.frees (lyC ps) = true
  | [] => rfl
  | p :: ps => by simp [lyC, AV.frees, AV.free, lyC_free ps]
theorem lyP_le (l : List UInt8) : (lyP l).length ≤ 4 := by
  unfold lyP
  split
  · simp
  · split <;> split <;> (try split) <;> (try split) <;> simp
inductive LayR : List AV → AHeap → AV → AHeap → Prop
  | mk (l : List UInt8) (h : AHeap) (a : AV) (k : Nat) (n : Nat) (C : List AV) (g : bOk h a = true ∧ bOf h a = l) (hl : l.length ≤ 3000) (hk : h.length = k) (hn : (lyP l).length = n) (hC : lyC (lyP l) = C) : LayR [a] h (.sl (some (k, 0)) n 0 false) [.cells C 2 .own none]
theorem denL {h1 : AHeap} {n0 m k n r : Nat} {ps : List (List UInt8 × Int)} {R : List AV} {par : Option Nat} (hk : n0 ≤ k) (hb : h1[k]? = some (.cells (lyC ps ++ R) 2 .own par)) (hn : n = ps.length) (hr : r * 2 ≤ R.length) (h0 : n ≠ 0) : Den h1 n0 m [some k] (.sl (some (k, 0)) n r false) (.sl (some (m, 0)) n 0 false) [.cells (lyC ps) 2 .own none] := by
  have e : ((lyC ps ++ R).drop 0).take (n * 2) = lyC ps := by rw [List.drop_zero, hn, ← lyC_len, List.take_left]
  have := Den.row (h1 := h1) (n0 := n0) m k 0 n r false (lyC ps ++ R) 2 par hk (by decide) hb ⟨by simp [capOf], by simp [capOf, lyC_len]; omega⟩ (fun h => absurd h h0) (by rw [e]; exact lyC_free ps)
  rw [e] at this; exact this
end Go.Proofs.Ythbneddbigclfaa.L
