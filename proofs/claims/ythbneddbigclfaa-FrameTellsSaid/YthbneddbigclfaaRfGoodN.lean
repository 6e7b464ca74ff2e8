/- Good of a frame: what the kernel makes of it. -/
import Derived.Test.YthbneddbigclfaaRRead
import Derived.Test.YthbneddbigclfaaGood
set_option autoImplicit false
set_option maxRecDepth 100000
set_option linter.unusedVariables false
set_option linter.unusedSimpArgs false
namespace Go.Proofs.Ythbneddbigclfaa.L
open Go Go.Abs
open Go.IntKind
open Go.Abs.AV (int)
open Go.Abs.ABlk (cells)

noncomputable def tRfGood (v : AV) (g : Bool) : Tbl := [(10, entF (eSay eFrR [(1, v, [])])), (28, entF (eSay eGoodS [(2, .bool g, [])]))]
theorem tRfGoodOk (v : AV) (g : Bool) : ∀ f E, (tRfGood v g).find f = some E → SoundE Try.prog f E := find_cons (sSay sRRead _) (find_cons (sSay sRGoodS _) (find_nil _))
noncomputable def hRfGoodA0 (l : List UInt8) (v w g : Bool) (A S E P sp dp fl : Int) (x0 x1 x2 x3 x4 x5 x6 x7 x8 x9 x10 x11 x12 x13 x14 x15 y0 y1 y2 y3 y4 y5 y6 y7 y8 y9 y10 y11 y12 y13 y14 y15 : Int) : AHeap := [cells (bys l) 1 Md.far none]
noncomputable def hRfGoodA1 (l : List UInt8) (v w g : Bool) (A S E P sp dp fl : Int) (x0 x1 x2 x3 x4 x5 x6 x7 x8 x9 x10 x11 x12 x13 x14 x15 y0 y1 y2 y3 y4 y5 y6 y7 y8 y9 y10 y11 y12 y13 y14 y15 : Int) : AHeap := []
noncomputable def hRfGoodA2 (l : List UInt8) (v w g : Bool) (A S E P sp dp fl : Int) (x0 x1 x2 x3 x4 x5 x6 x7 x8 x9 x10 x11 x12 x13 x14 x15 y0 y1 y2 y3 y4 y5 y6 y7 y8 y9 y10 y11 y12 y13 y14 y15 : Int) : AHeap := [cells (bys l) 1 Md.far none, cells [AV.bool v, int i64 A, int i64 S, int i64 E, int u8 P, AV.bool w, int u8 x0, int u8 x1, int u8 x2, int u8 x3, int u8 x4, int u8 x5, int u8 x6, int u8 x7, int u8 x8, int u8 x9, int u8 x10, int u8 x11, int u8 x12, int u8 x13, int u8 x14, int u8 x15, AV.bool w, int u8 y0, int u8 y1, int u8 y2, int u8 y3, int u8 y4, int u8 y5, int u8 y6, int u8 y7, int u8 y8, int u8 y9, int u8 y10, int u8 y11, int u8 y12, int u8 y13, int u8 y14, int u8 y15, int u16 sp, int u16 dp, int u8 fl] 42 Md.own none]
theorem nfRfGoodA {R : Type} (l : List UInt8) (v w g : Bool) (A S E P sp dp fl : Int) (x0 x1 x2 x3 x4 x5 x6 x7 x8 x9 x10 x11 x12 x13 x14 x15 y0 y1 y2 y3 y4 y5 y6 y7 y8 y9 y10 y11 y12 y13 y14 y15 : Int) (K : AV → Option R) :
 qrun Try.prog (tRfGood (.tup [.agg (viewOf v A S E P (adrV w x0 x1 x2 x3 x4 x5 x6 x7 x8 x9 x10 x11 x12 x13 x14 x15) (adrV w y0 y1 y2 y3 y4 y5 y6 y7 y8 y9 y10 y11 y12 y13 y14 y15) sp dp fl), .int .i64 0]) g) 100 4 [(12, .bool true)] [] 14 [slB 0 l] [farB l] (fun v _ => K v) =
 (if cdec (Says eFrR [AV.sl (some (0, 0)) l.length 0 false] (hRfGoodA0 l v w g A S E P sp dp fl x0 x1 x2 x3 x4 x5 x6 x7 x8 x9 x10 x11 x12 x13 x14 x15 y0 y1 y2 y3 y4 y5 y6 y7 y8 y9 y10 y11 y12 y13 y14 y15) (AV.tup [AV.agg [AV.bool v, int i64 A, int i64 S, int i64 E, int u8 P, AV.bool w, int u8 x0, int u8 x1, int u8 x2, int u8 x3, int u8 x4, int u8 x5, int u8 x6, int u8 x7, int u8 x8, int u8 x9, int u8 x10, int u8 x11, int u8 x12, int u8 x13, int u8 x14, int u8 x15, AV.bool w, int u8 y0, int u8 y1, int u8 y2, int u8 y3, int u8 y4, int u8 y5, int u8 y6, int u8 y7, int u8 y8, int u8 y9, int u8 y10, int u8 y11, int u8 y12, int u8 y13, int u8 y14, int u8 y15, int u16 sp, int u16 dp, int u8 fl], int i64 0]) (hRfGoodA1 l v w g A S E P sp dp fl x0 x1 x2 x3 x4 x5 x6 x7 x8 x9 x10 x11 x12 x13 x14 x15 y0 y1 y2 y3 y4 y5 y6 y7 y8 y9 y10 y11 y12 y13 y14 y15)) = true then
 (if 0 ≤ intV (some (int i64 E)) ∧ intV (some (int i64 E)) ≤ (((capOf l.length 0 false) : Nat) : Int) then
 (if 0 ≤ intV (some (int i64 S)) ∧ intV (some (int i64 S)) ≤ intV (some (int i64 E)) then
 (if cdec (Says eGoodS [int u8 (intV (some (int u8 P))), AV.sl (some (0, 0 + (intV (some (int i64 S))).toNat * 1)) ((intV (some (int i64 E))).toNat - (intV (some (int i64 S))).toNat) (roomOf l.length 0 (intV (some (int i64 S))).toNat (some (intV (some (int i64 E)))).isNone (intV (some (int i64 E))).toNat false) false, AV.agg [AV.bool w, int u8 x0, int u8 x1, int u8 x2, int u8 x3, int u8 x4, int u8 x5, int u8 x6, int u8 x7, int u8 x8, int u8 x9, int u8 x10, int u8 x11, int u8 x12, int u8 x13, int u8 x14, int u8 x15], AV.agg [AV.bool w, int u8 y0, int u8 y1, int u8 y2, int u8 y3, int u8 y4, int u8 y5, int u8 y6, int u8 y7, int u8 y8, int u8 y9, int u8 y10, int u8 y11, int u8 y12, int u8 y13, int u8 y14, int u8 y15]] (hRfGoodA2 l v w g A S E P sp dp fl x0 x1 x2 x3 x4 x5 x6 x7 x8 x9 x10 x11 x12 x13 x14 x15 y0 y1 y2 y3 y4 y5 y6 y7 y8 y9 y10 y11 y12 y13 y14 y15) (AV.bool g) (hRfGoodA1 l v w g A S E P sp dp fl x0 x1 x2 x3 x4 x5 x6 x7 x8 x9 x10 x11 x12 x13 x14 x15 y0 y1 y2 y3 y4 y5 y6 y7 y8 y9 y10 y11 y12 y13 y14 y15)) = true then
 K (AV.bool g)
 else none) else none) else none) else none) := by
  kernel_rfl

noncomputable def hRfGoodE0 (l : List UInt8) (r : Int) : AHeap := [cells (bys l) 1 Md.far none]
noncomputable def hRfGoodE1 (l : List UInt8) (r : Int) : AHeap := []
theorem nfRfGoodE {R : Type} (l : List UInt8) (r : Int) (K : AV → Option R) :
 qrun Try.prog (tRfGood (.tup [.agg view0, .int .i64 r]) false) 100 4 [(12, .bool false)] [] 14 [slB 0 l] [farB l] (fun v _ => K v) =
 (if cdec (Says eFrR [AV.sl (some (0, 0)) l.length 0 false] (hRfGoodE0 l r) (AV.tup [AV.agg view0, int i64 r]) (hRfGoodE1 l r)) = true then
 (if (r == 0) = false then
 K (AV.bool false)
 else none) else none) := by
  kernel_rfl


end Go.Proofs.Ythbneddbigclfaa.L
