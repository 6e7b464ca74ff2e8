/- Health.Count, Health.Down: rows. -/
import Derived.Test.YtpghomcohejejaaAlhK
import Derived.Test.YtpghomcohejejaaAddrB
set_option autoImplicit false
set_option maxRecDepth 100000
set_option linter.unusedVariables false
set_option linter.unusedSimpArgs false
namespace Go.Proofs.Ytpghomcohejejaa.L
open Go Go.Abs
open Go.IntKind
open Go.Abs.AV (int)
open Go.Abs.ABlk (cells)

noncomputable def hHCnt0 (f : Int) (es : List (AV × AV × Nat)) (clk n z : Nat) (C D : List AV) : AHeap := [cells [int i64 f, AV.map (some 1), AV.sl (some (2, 0)) n z false] 3 Md.own none, ABlk.mp es clk true, ABlk.cells C 18 Md.own none, ABlk.cells D 18 Md.own none]
theorem nfHCnt {R : Type} (f : Int) (es : List (AV × AV × Nat)) (clk n z : Nat) (C D : List AV) (K : AV → AHeap → Option R) :
 qrun Try.prog [] 100 4 [] [] 13 [.ptr (some (0, 0)), .agg D] (hTel f es clk n z C) K =
 (if 18 ≤ D.length then
 (if cdec (alookup0 Try.prog (hHCnt0 f es clk n z C D) 57 (AV.map (some 1)) (AV.agg (List.take 18 D)) false = some (int i64 (opq (intV (alookup0 Try.prog (hHCnt0 f es clk n z C D) 57 (AV.map (some 1)) (AV.agg (List.take 18 D)) false))))) = true then
 K (int i64 (opq (intV (alookup0 Try.prog (hHCnt0 f es clk n z C D) 57 (AV.map (some 1)) (AV.agg (List.take 18 D)) false)))) ((hHCnt0 f es clk n z C D))
 else none) else none) := by
  kernel_rfl

noncomputable def hHDwn0 (f : Int) (es : List (AV × AV × Nat)) (clk n z : Nat) (C D : List AV) : AHeap := [cells [int i64 f, AV.map (some 1), AV.sl (some (2, 0)) n z false] 3 Md.own none, ABlk.mp es clk true, ABlk.cells C 18 Md.own none, ABlk.cells D 18 Md.own none]
theorem nfHDwn {R : Type} (f : Int) (es : List (AV × AV × Nat)) (clk n z : Nat) (C D : List AV) (K : AV → AHeap → Option R) :
 qrun Try.prog [] 100 4 [] [] 15 [.ptr (some (0, 0)), .agg D] (hTel f es clk n z C) K =
 (if 18 ≤ D.length then
 (if cdec (alookup0 Try.prog (hHDwn0 f es clk n z C D) 57 (AV.map (some 1)) (AV.agg (List.take 18 D)) false = some (int i64 (opq (intV (alookup0 Try.prog (hHDwn0 f es clk n z C D) 57 (AV.map (some 1)) (AV.agg (List.take 18 D)) false))))) = true then
 K (AV.bool (decide (opq (intV (alookup0 Try.prog (hHDwn0 f es clk n z C D) 57 (AV.map (some 1)) (AV.agg (List.take 18 D)) false)) ≥ intV (some (int i64 f))))) ((hHDwn0 f es clk n z C D))
 else none) else none) := by
  kernel_rfl


end Go.Proofs.Ytpghomcohejejaa.L
