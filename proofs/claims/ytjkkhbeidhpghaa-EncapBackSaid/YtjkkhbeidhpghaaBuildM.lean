/- The reference's Build: what the kernel makes of it, IPv6. -/
import Derived.Test.YtjkkhbeidhpghaaBuildN
set_option autoImplicit false
set_option maxRecDepth 100000
set_option linter.unusedVariables false
set_option linter.unusedSimpArgs false
namespace Go.Proofs.Ytjkkhbeidhpghaa.L
open Go Go.Abs
open Go.IntKind
open Go.Abs.AV (int)
open Go.Abs.ABlk (cells)
noncomputable def hBuild6AF0 (n s pad : Int) (p q r fl : UInt8) (d H : List UInt8) (bare : Bool) : AHeap := [cells (bys d) 1 Md.far none, cells (keyV true false n) 37 Md.own none, cells [b8 (u8.wrap ((wk n).fdiv 256)), b8 (u8.wrap (wk n)), b8 (u8.wrap (w80.fdiv 256)), b8 (u8.wrap w80), b8 0, b8 0, b8 0, b8 0, b8 0, b8 0, b8 0, b8 0, b8 80, b8 (fl.toNat : Int), b8 0, b8 0, b8 0, b8 0, b8 0, b8 0] 1 Md.ro none, cells (cT n fl d) 1 Md.own (some 2)]
noncomputable def hBuild6AF1 (n s pad : Int) (p q r fl : UInt8) (d H : List UInt8) (bare : Bool) : AHeap := [cells [b8 10, b8 (p.toNat : Int), b8 (q.toNat : Int), b8 (r.toNat : Int), b8 0, b8 0, b8 0, b8 0, b8 0, b8 0, b8 0, b8 0, b8 0, b8 0, b8 0, b8 0] 1 Md.own none]
noncomputable def hBuild6AF2 (n s pad : Int) (p q r fl : UInt8) (d H : List UInt8) (bare : Bool) : AHeap := (hBuild6AF0 n s pad p q r fl d H bare) ++ [cells [b8 10, b8 (p.toNat : Int), b8 (q.toNat : Int), b8 (r.toNat : Int), b8 0, b8 0, b8 0, b8 0, b8 0, b8 0, b8 0, b8 0, b8 0, b8 0, b8 0, b8 0] 1 Md.own none]
noncomputable def hBuild6AF3 (n s pad : Int) (p q r fl : UInt8) (d H : List UInt8) (bare : Bool) : AHeap := [cells [b8 192, b8 168, b8 0, b8 1, b8 0, b8 0, b8 0, b8 0, b8 0, b8 0, b8 0, b8 0, b8 0, b8 0, b8 0, b8 0] 1 Md.own none]
noncomputable def hBuild6AF4 (n s pad : Int) (p q r fl : UInt8) (d H : List UInt8) (bare : Bool) : AHeap := (hBuild6AF0 n s pad p q r fl d H bare) ++ [ABlk.dead, cells [b8 192, b8 168, b8 0, b8 1, b8 0, b8 0, b8 0, b8 0, b8 0, b8 0, b8 0, b8 0, b8 0, b8 0, b8 0, b8 0] 1 Md.own none, ABlk.dead, cells [b8 0, b8 0, b8 (u8.wrap (((((20 + d.length) : Nat) : Int)).fdiv 256)), b8 (u8.wrap (((20 + d.length) : Nat) : Int)), b8 0, b8 0, b8 0, b8 (intV (some (b8 6)))] 1 Md.own none, cells [b8 10, b8 (p.toNat : Int), b8 (q.toNat : Int), b8 (r.toNat : Int), b8 0, b8 0, b8 0, b8 0, b8 0, b8 0, b8 0, b8 0, b8 0, b8 0, b8 0, b8 0, b8 192, b8 168, b8 0, b8 1, b8 0, b8 0, b8 0, b8 0, b8 0, b8 0, b8 0, b8 0, b8 0, b8 0, b8 0, b8 0, b8 0, b8 0, b8 (u8.wrap (((((20 + d.length) : Nat) : Int)).fdiv 256)), b8 (u8.wrap (((20 + d.length) : Nat) : Int)), b8 0, b8 0, b8 0, b8 (intV (some (b8 6)))] 1 Md.ro none, cells ([b8 10, b8 (p.toNat : Int), b8 (q.toNat : Int), b8 (r.toNat : Int), b8 0, b8 0, b8 0, b8 0, b8 0, b8 0, b8 0, b8 0, b8 0, b8 0, b8 0, b8 0, b8 192, b8 168, b8 0, b8 1, b8 0, b8 0, b8 0, b8 0, b8 0, b8 0, b8 0, b8 0, b8 0, b8 0, b8 0, b8 0, b8 0, b8 0, b8 (u8.wrap (((((20 + d.length) : Nat) : Int)).fdiv 256)), b8 (u8.wrap (((20 + d.length) : Nat) : Int)), b8 0, b8 0, b8 0, b8 (intV (some (b8 6)))] ++ List.take ((20 + d.length) * 1) (cT n fl d)) 1 Md.own (some 8)]
noncomputable def hBuild6AF5 (n s pad : Int) (p q r fl : UInt8) (d H : List UInt8) (bare : Bool) : AHeap := []
noncomputable def hBuild6AF6 (n s pad : Int) (p q r fl : UInt8) (d H : List UInt8) (bare : Bool) : AHeap := ((((hBuild6AF4 n s pad p q r fl d H bare).set 2 (ABlk.dead)).set 3 (cells (putCells (putCells (cT n fl d) 16 [b8 (u8.wrap ((i64.wrap (65535 - s)).fdiv 256))]) 17 [b8 (u8.wrap (i64.wrap (65535 - s)))]) 1 Md.own none))) ++ [cells [b8 1, b8 2, b8 3, b8 4, b8 5, b8 6, b8 7, b8 8, b8 9, b8 10, b8 11, b8 12] 1 Md.ro none, cells [b8 134, b8 221] 1 Md.own none, cells (cE true false) 1 Md.own (some 10)]
noncomputable def hBuild6AF7 (n s pad : Int) (p q r fl : UInt8) (d H : List UInt8) (bare : Bool) : AHeap := [cells (bys H) 1 Md.own none]
noncomputable def hBuild6AF8 (n s pad : Int) (p q r fl : UInt8) (d H : List UInt8) (bare : Bool) : AHeap := ((((hBuild6AF6 n s pad p q r fl d H bare).set 10 (ABlk.dead)).set 12 (ABlk.dead))) ++ [cells (bys H) 1 Md.own none, ABlk.dead, cells (List.take ((14 + H.length) * 1) ((cE true false) ++ List.take (H.length * 1) (bys H)) ++ List.take ((20 + d.length) * 1) (putCells (putCells (cT n fl d) 16 [b8 (u8.wrap ((i64.wrap (65535 - s)).fdiv 256))]) 17 [b8 (u8.wrap (i64.wrap (65535 - s)))])) 1 Md.ro none, cells (List.take ((14 + H.length + (20 + d.length)) * 1) (List.take ((14 + H.length) * 1) ((cE true false) ++ List.take (H.length * 1) (bys H)) ++ List.take ((20 + d.length) * 1) (putCells (putCells (cT n fl d) 16 [b8 (u8.wrap ((i64.wrap (65535 - s)).fdiv 256))]) 17 [b8 (u8.wrap (i64.wrap (65535 - s)))])) ++ zrep pad.toNat [b8 0]) 1 Md.own (some 15)]
theorem nfBuild6AF {R : Type} (n s pad : Int) (p q r fl : UInt8) (d H : List UInt8) (bare : Bool) (K : AV → AHeap → Option R) :
 qrun Try.prog (tBuild [10, p, q, r, 0, 0, 0, 0, 0, 0, 0, 0, 0, 0, 0, 0] [192, 168, 0, 1, 0, 0, 0, 0, 0, 0, 0, 0, 0, 0, 0, 0] H s) 100 4 [(52, .bool false), (56, .bool false), (60, .bool false), (135, .bool false)] [] 8 [.agg ([.int .u8 6] ++ kSrc true n ++ kDst true ++ [.int .u16 (kport n), .int .u16 80]), .int .u8 (fl.toNat : Int), slB 0 d, .bool false, .bool bare, .int .i64 pad] [farB d] K =
 (if adrWf (kSrc true n) = true then
 (if decide ((d.length : Int) > 2000) = false then
 (if decide (pad < 0) = false then
 (if decide (pad > 100) = false then
 (if 0 + d.length * 1 ≤ (bys d).length then
 (if (2 * (20 + d.length) + 200) * 1 ≤ 281474976710656 ∧ some 1 = some 1 ∧ 20 + d.length ≤ 70368744177664 then
 (if 0 = 0 ∧ 20 = [b8 (u8.wrap ((wk n).fdiv 256)), b8 (u8.wrap (wk n)), b8 (u8.wrap (w80.fdiv 256)), b8 (u8.wrap w80), b8 0, b8 0, b8 0, b8 0, b8 0, b8 0, b8 0, b8 0, b8 80, b8 (fl.toNat : Int), b8 0, b8 0, b8 0, b8 0, b8 0, b8 0].length ∧ (0 < d.length ∨ 0 = 0) ∧ 1 = 1 ∧ (List.take (d.length * 1) (bys d)).all AV.isCell = true then
 (if cdec (Says eBytes [AV.agg (kSrc true n)] (hBuild6AF0 n s pad p q r fl d H bare) (AV.sl (some (4, 0)) [10, p, q, r, 0, 0, 0, 0, 0, 0, 0, 0, 0, 0, 0, 0].length 0 false) (hBuild6AF1 n s pad p q r fl d H bare)) = true then
 (if cdec (Says eBytes [AV.agg (kDst true)] (hBuild6AF2 n s pad p q r fl d H bare) (AV.sl (some (5, 0)) 16 0 false) (hBuild6AF3 n s pad p q r fl d H bare)) = true then
 (if 0 + (20 + d.length) * 1 ≤ (cT n fl d).length then
 (if (2 * ([10, p, q, r, 0, 0, 0, 0, 0, 0, 0, 0, 0, 0, 0, 0].length + 16 + 8 + (20 + d.length)) + 200) * 1 ≤ 281474976710656 ∧ some 1 = some 1 ∧ [10, p, q, r, 0, 0, 0, 0, 0, 0, 0, 0, 0, 0, 0, 0].length + 16 + 8 + (20 + d.length) ≤ 70368744177664 then
 (if 0 = 0 ∧ 0 + ([10, p, q, r, 0, 0, 0, 0, 0, 0, 0, 0, 0, 0, 0, 0].length + 16 + 8) * 1 = [b8 10, b8 (p.toNat : Int), b8 (q.toNat : Int), b8 (r.toNat : Int), b8 0, b8 0, b8 0, b8 0, b8 0, b8 0, b8 0, b8 0, b8 0, b8 0, b8 0, b8 0, b8 192, b8 168, b8 0, b8 1, b8 0, b8 0, b8 0, b8 0, b8 0, b8 0, b8 0, b8 0, b8 0, b8 0, b8 0, b8 0, b8 0, b8 0, b8 (u8.wrap (((((20 + d.length) : Nat) : Int)).fdiv 256)), b8 (u8.wrap (((20 + d.length) : Nat) : Int)), b8 0, b8 0, b8 0, b8 (intV (some (b8 6)))].length ∧ (0 < 20 + d.length ∨ 0 = 0) ∧ 1 = 1 ∧ (List.take ((20 + d.length) * 1) (cT n fl d)).all AV.isCell = true then
 (if cdec (Says eRSum [AV.sl (some (9, 0)) ([10, p, q, r, 0, 0, 0, 0, 0, 0, 0, 0, 0, 0, 0, 0].length + 16 + 8 + (20 + d.length)) 0 false, int u32 0] (hBuild6AF4 n s pad p q r fl d H bare) (int i64 s) (hBuild6AF5 n s pad p q r fl d H bare)) = true then
 (if (i64.wrap (65535 - s) == 0) = false then
 (if Int.ofNat 0 ≤ Int.ofNat 16 ∧ 16 < (((20 + d.length) : Nat) : Int) then
 (if Int.ofNat 0 ≤ Int.ofNat 17 ∧ 17 < (((20 + d.length) : Nat) : Int) then
 (if cdec (Says eMk6 [AV.agg (kSrc true n), AV.agg (kDst true), b8 (intV (some (b8 6))), int i64 (((20 + d.length) : Nat) : Int)] (hBuild6AF6 n s pad p q r fl d H bare) (AV.tup [AV.sl (some (13, 0)) H.length 0 false, AV.bool true]) (hBuild6AF7 n s pad p q r fl d H bare)) = true then
 (if 0 + H.length * 1 ≤ (bys H).length then
 (if (2 * (14 + H.length) + 200) * 1 ≤ 281474976710656 ∧ some 1 = some 1 ∧ 14 + H.length ≤ 70368744177664 then
 (if 0 = 0 ∧ 14 = (cE true false).length ∧ (0 < H.length ∨ 0 = 0) ∧ 1 = 1 ∧ (List.take (H.length * 1) (bys H)).all AV.isCell = true then
 (if 0 + (20 + d.length) * 1 ≤ (putCells (putCells (cT n fl d) 16 [b8 (u8.wrap ((i64.wrap (65535 - s)).fdiv 256))]) 17 [b8 (u8.wrap (i64.wrap (65535 - s)))]).length then
 (if (2 * (14 + H.length + (20 + d.length)) + 200) * 1 ≤ 281474976710656 ∧ some 1 = some 1 ∧ 14 + H.length + (20 + d.length) ≤ 70368744177664 then
 (if 0 + (14 + H.length) * 1 ≤ ((cE true false) ++ List.take (H.length * 1) (bys H)).length then
 (if 0 = 0 ∧ 0 + (14 + H.length) * 1 = ((cE true false) ++ List.take (H.length * 1) (bys H)).length ∧ (0 < 20 + d.length ∨ 0 = 0) ∧ 1 = 1 ∧ (List.take ((20 + d.length) * 1) (putCells (putCells (cT n fl d) 16 [b8 (u8.wrap ((i64.wrap (65535 - s)).fdiv 256))]) 17 [b8 (u8.wrap (i64.wrap (65535 - s)))])).all AV.isCell = true then
 (if 1 = 1 ∧ 0 ≤ pad ∧ pad ≤ 70368744177664 ∧ pad * 1 ≤ 281474976710656 then
 (if (2 * (14 + H.length + (20 + d.length) + pad.toNat) + 200) * 1 ≤ 281474976710656 ∧ some 1 = some 1 ∧ 14 + H.length + (20 + d.length) + pad.toNat ≤ 70368744177664 then
 (if 0 + (14 + H.length + (20 + d.length)) * 1 ≤ (List.take ((14 + H.length) * 1) ((cE true false) ++ List.take (H.length * 1) (bys H)) ++ List.take ((20 + d.length) * 1) (putCells (putCells (cT n fl d) 16 [b8 (u8.wrap ((i64.wrap (65535 - s)).fdiv 256))]) 17 [b8 (u8.wrap (i64.wrap (65535 - s)))])).length then
 (if 0 = 0 ∧ 0 + (14 + H.length + (20 + d.length)) * 1 = (List.take ((14 + H.length) * 1) ((cE true false) ++ List.take (H.length * 1) (bys H)) ++ List.take ((20 + d.length) * 1) (putCells (putCells (cT n fl d) 16 [b8 (u8.wrap ((i64.wrap (65535 - s)).fdiv 256))]) 17 [b8 (u8.wrap (i64.wrap (65535 - s)))])).length ∧ (0 < pad.toNat ∨ 0 = 0) ∧ 1 = 1 ∧ (zrep pad.toNat [b8 0]).all AV.isCell = true then
 K (AV.sl (some (16, 0)) (14 + H.length + (20 + d.length) + pad.toNat) 0 false) ((hBuild6AF8 n s pad p q r fl d H bare))
 else none) else none) else none) else none) else none) else none) else none) else none) else none) else none) else none) else none) else none) else none) else none) else none) else none) else none) else none) else none) else none) else none) else none) else none) else none) else none) else none) else none) := by
  kernel_rfl

noncomputable def hBuild6AT0 (n s pad : Int) (p q r fl : UInt8) (d H : List UInt8) (bare : Bool) : AHeap := (hBuild6AF0 n s pad p q r fl d H bare)
noncomputable def hBuild6AT1 (n s pad : Int) (p q r fl : UInt8) (d H : List UInt8) (bare : Bool) : AHeap := (hBuild6AF1 n s pad p q r fl d H bare)
noncomputable def hBuild6AT2 (n s pad : Int) (p q r fl : UInt8) (d H : List UInt8) (bare : Bool) : AHeap := (hBuild6AF2 n s pad p q r fl d H bare)
noncomputable def hBuild6AT3 (n s pad : Int) (p q r fl : UInt8) (d H : List UInt8) (bare : Bool) : AHeap := (hBuild6AF3 n s pad p q r fl d H bare)
noncomputable def hBuild6AT4 (n s pad : Int) (p q r fl : UInt8) (d H : List UInt8) (bare : Bool) : AHeap := (hBuild6AF4 n s pad p q r fl d H bare)
noncomputable def hBuild6AT5 (n s pad : Int) (p q r fl : UInt8) (d H : List UInt8) (bare : Bool) : AHeap := []
noncomputable def hBuild6AT6 (n s pad : Int) (p q r fl : UInt8) (d H : List UInt8) (bare : Bool) : AHeap := (hBuild6AF8 n s pad p q r fl d H bare).take 11 ++ [cells [b8 129, b8 0, b8 0, b8 7] 1 Md.own none, cells [b8 1, b8 2, b8 3, b8 4, b8 5, b8 6, b8 7, b8 8, b8 9, b8 10, b8 11, b8 12, b8 129, b8 0, b8 0, b8 7] 1 Md.ro none, cells [b8 134, b8 221] 1 Md.own none, cells (cE true true) 1 Md.own (some 12)]
noncomputable def hBuild6AT7 (n s pad : Int) (p q r fl : UInt8) (d H : List UInt8) (bare : Bool) : AHeap := [cells (bys H) 1 Md.own none]
noncomputable def hBuild6AT8 (n s pad : Int) (p q r fl : UInt8) (d H : List UInt8) (bare : Bool) : AHeap := ((((hBuild6AT6 n s pad p q r fl d H bare).set 12 (ABlk.dead)).set 14 (ABlk.dead))) ++ [cells (bys H) 1 Md.own none, ABlk.dead, cells (List.take ((18 + H.length) * 1) ((cE true true) ++ List.take (H.length * 1) (bys H)) ++ List.take ((20 + d.length) * 1) (putCells (putCells (cT n fl d) 16 [b8 (u8.wrap ((i64.wrap (65535 - s)).fdiv 256))]) 17 [b8 (u8.wrap (i64.wrap (65535 - s)))])) 1 Md.ro none, cells (List.take ((18 + H.length + (20 + d.length)) * 1) (List.take ((18 + H.length) * 1) ((cE true true) ++ List.take (H.length * 1) (bys H)) ++ List.take ((20 + d.length) * 1) (putCells (putCells (cT n fl d) 16 [b8 (u8.wrap ((i64.wrap (65535 - s)).fdiv 256))]) 17 [b8 (u8.wrap (i64.wrap (65535 - s)))])) ++ zrep pad.toNat [b8 0]) 1 Md.own (some 17)]
theorem nfBuild6AT {R : Type} (n s pad : Int) (p q r fl : UInt8) (d H : List UInt8) (bare : Bool) (K : AV → AHeap → Option R) :
 qrun Try.prog (tBuild [10, p, q, r, 0, 0, 0, 0, 0, 0, 0, 0, 0, 0, 0, 0] [192, 168, 0, 1, 0, 0, 0, 0, 0, 0, 0, 0, 0, 0, 0, 0] H s) 100 4 [(52, .bool false), (56, .bool false), (60, .bool false), (135, .bool false)] [] 8 [.agg ([.int .u8 6] ++ kSrc true n ++ kDst true ++ [.int .u16 (kport n), .int .u16 80]), .int .u8 (fl.toNat : Int), slB 0 d, .bool true, .bool bare, .int .i64 pad] [farB d] K =
 (if adrWf (kSrc true n) = true then
 (if decide ((d.length : Int) > 2000) = false then
 (if decide (pad < 0) = false then
 (if decide (pad > 100) = false then
 (if 0 + d.length * 1 ≤ (bys d).length then
 (if (2 * (20 + d.length) + 200) * 1 ≤ 281474976710656 ∧ some 1 = some 1 ∧ 20 + d.length ≤ 70368744177664 then
 (if 0 = 0 ∧ 20 = [b8 (u8.wrap ((wk n).fdiv 256)), b8 (u8.wrap (wk n)), b8 (u8.wrap (w80.fdiv 256)), b8 (u8.wrap w80), b8 0, b8 0, b8 0, b8 0, b8 0, b8 0, b8 0, b8 0, b8 80, b8 (fl.toNat : Int), b8 0, b8 0, b8 0, b8 0, b8 0, b8 0].length ∧ (0 < d.length ∨ 0 = 0) ∧ 1 = 1 ∧ (List.take (d.length * 1) (bys d)).all AV.isCell = true then
 (if cdec (Says eBytes [AV.agg (kSrc true n)] (hBuild6AT0 n s pad p q r fl d H bare) (AV.sl (some (4, 0)) [10, p, q, r, 0, 0, 0, 0, 0, 0, 0, 0, 0, 0, 0, 0].length 0 false) (hBuild6AT1 n s pad p q r fl d H bare)) = true then
 (if cdec (Says eBytes [AV.agg (kDst true)] (hBuild6AT2 n s pad p q r fl d H bare) (AV.sl (some (5, 0)) 16 0 false) (hBuild6AT3 n s pad p q r fl d H bare)) = true then
 (if 0 + (20 + d.length) * 1 ≤ (cT n fl d).length then
 (if (2 * ([10, p, q, r, 0, 0, 0, 0, 0, 0, 0, 0, 0, 0, 0, 0].length + 16 + 8 + (20 + d.length)) + 200) * 1 ≤ 281474976710656 ∧ some 1 = some 1 ∧ [10, p, q, r, 0, 0, 0, 0, 0, 0, 0, 0, 0, 0, 0, 0].length + 16 + 8 + (20 + d.length) ≤ 70368744177664 then
 (if 0 = 0 ∧ 0 + ([10, p, q, r, 0, 0, 0, 0, 0, 0, 0, 0, 0, 0, 0, 0].length + 16 + 8) * 1 = [b8 10, b8 (p.toNat : Int), b8 (q.toNat : Int), b8 (r.toNat : Int), b8 0, b8 0, b8 0, b8 0, b8 0, b8 0, b8 0, b8 0, b8 0, b8 0, b8 0, b8 0, b8 192, b8 168, b8 0, b8 1, b8 0, b8 0, b8 0, b8 0, b8 0, b8 0, b8 0, b8 0, b8 0, b8 0, b8 0, b8 0, b8 0, b8 0, b8 (u8.wrap (((((20 + d.length) : Nat) : Int)).fdiv 256)), b8 (u8.wrap (((20 + d.length) : Nat) : Int)), b8 0, b8 0, b8 0, b8 (intV (some (b8 6)))].length ∧ (0 < 20 + d.length ∨ 0 = 0) ∧ 1 = 1 ∧ (List.take ((20 + d.length) * 1) (cT n fl d)).all AV.isCell = true then
 (if cdec (Says eRSum [AV.sl (some (9, 0)) ([10, p, q, r, 0, 0, 0, 0, 0, 0, 0, 0, 0, 0, 0, 0].length + 16 + 8 + (20 + d.length)) 0 false, int u32 0] (hBuild6AT4 n s pad p q r fl d H bare) (int i64 s) (hBuild6AT5 n s pad p q r fl d H bare)) = true then
 (if (i64.wrap (65535 - s) == 0) = false then
 (if Int.ofNat 0 ≤ Int.ofNat 16 ∧ 16 < (((20 + d.length) : Nat) : Int) then
 (if Int.ofNat 0 ≤ Int.ofNat 17 ∧ 17 < (((20 + d.length) : Nat) : Int) then
 (if cdec (Says eMk6 [AV.agg (kSrc true n), AV.agg (kDst true), b8 (intV (some (b8 6))), int i64 (((20 + d.length) : Nat) : Int)] (hBuild6AT6 n s pad p q r fl d H bare) (AV.tup [AV.sl (some (15, 0)) H.length 0 false, AV.bool true]) (hBuild6AT7 n s pad p q r fl d H bare)) = true then
 (if 0 + H.length * 1 ≤ (bys H).length then
 (if (2 * (18 + H.length) + 200) * 1 ≤ 281474976710656 ∧ some 1 = some 1 ∧ 18 + H.length ≤ 70368744177664 then
 (if 0 = 0 ∧ 18 = (cE true true).length ∧ (0 < H.length ∨ 0 = 0) ∧ 1 = 1 ∧ (List.take (H.length * 1) (bys H)).all AV.isCell = true then
 (if 0 + (20 + d.length) * 1 ≤ (putCells (putCells (cT n fl d) 16 [b8 (u8.wrap ((i64.wrap (65535 - s)).fdiv 256))]) 17 [b8 (u8.wrap (i64.wrap (65535 - s)))]).length then
 (if (2 * (18 + H.length + (20 + d.length)) + 200) * 1 ≤ 281474976710656 ∧ some 1 = some 1 ∧ 18 + H.length + (20 + d.length) ≤ 70368744177664 then
 (if 0 + (18 + H.length) * 1 ≤ ((cE true true) ++ List.take (H.length * 1) (bys H)).length then
 (if 0 = 0 ∧ 0 + (18 + H.length) * 1 = ((cE true true) ++ List.take (H.length * 1) (bys H)).length ∧ (0 < 20 + d.length ∨ 0 = 0) ∧ 1 = 1 ∧ (List.take ((20 + d.length) * 1) (putCells (putCells (cT n fl d) 16 [b8 (u8.wrap ((i64.wrap (65535 - s)).fdiv 256))]) 17 [b8 (u8.wrap (i64.wrap (65535 - s)))])).all AV.isCell = true then
 (if 1 = 1 ∧ 0 ≤ pad ∧ pad ≤ 70368744177664 ∧ pad * 1 ≤ 281474976710656 then
 (if (2 * (18 + H.length + (20 + d.length) + pad.toNat) + 200) * 1 ≤ 281474976710656 ∧ some 1 = some 1 ∧ 18 + H.length + (20 + d.length) + pad.toNat ≤ 70368744177664 then
 (if 0 + (18 + H.length + (20 + d.length)) * 1 ≤ (List.take ((18 + H.length) * 1) ((cE true true) ++ List.take (H.length * 1) (bys H)) ++ List.take ((20 + d.length) * 1) (putCells (putCells (cT n fl d) 16 [b8 (u8.wrap ((i64.wrap (65535 - s)).fdiv 256))]) 17 [b8 (u8.wrap (i64.wrap (65535 - s)))])).length then
 (if 0 = 0 ∧ 0 + (18 + H.length + (20 + d.length)) * 1 = (List.take ((18 + H.length) * 1) ((cE true true) ++ List.take (H.length * 1) (bys H)) ++ List.take ((20 + d.length) * 1) (putCells (putCells (cT n fl d) 16 [b8 (u8.wrap ((i64.wrap (65535 - s)).fdiv 256))]) 17 [b8 (u8.wrap (i64.wrap (65535 - s)))])).length ∧ (0 < pad.toNat ∨ 0 = 0) ∧ 1 = 1 ∧ (zrep pad.toNat [b8 0]).all AV.isCell = true then
 K (AV.sl (some (18, 0)) (18 + H.length + (20 + d.length) + pad.toNat) 0 false) ((hBuild6AT8 n s pad p q r fl d H bare))
 else none) else none) else none) else none) else none) else none) else none) else none) else none) else none) else none) else none) else none) else none) else none) else none) else none) else none) else none) else none) else none) else none) else none) else none) else none) else none) else none) else none) := by
  kernel_rfl

noncomputable def hBuild6DF0 (n s pad : Int) (p q r fl : UInt8) (d H : List UInt8) (bare : Bool) : AHeap := (hBuild6AF0 n s pad p q r fl d H bare)
noncomputable def hBuild6DF1 (n s pad : Int) (p q r fl : UInt8) (d H : List UInt8) (bare : Bool) : AHeap := (hBuild6AF1 n s pad p q r fl d H bare)
noncomputable def hBuild6DF2 (n s pad : Int) (p q r fl : UInt8) (d H : List UInt8) (bare : Bool) : AHeap := (hBuild6AF2 n s pad p q r fl d H bare)
noncomputable def hBuild6DF3 (n s pad : Int) (p q r fl : UInt8) (d H : List UInt8) (bare : Bool) : AHeap := (hBuild6AF3 n s pad p q r fl d H bare)
noncomputable def hBuild6DF4 (n s pad : Int) (p q r fl : UInt8) (d H : List UInt8) (bare : Bool) : AHeap := (hBuild6AF4 n s pad p q r fl d H bare)
noncomputable def hBuild6DF5 (n s pad : Int) (p q r fl : UInt8) (d H : List UInt8) (bare : Bool) : AHeap := []
noncomputable def hBuild6DF6 (n s pad : Int) (p q r fl : UInt8) (d H : List UInt8) (bare : Bool) : AHeap := (hBuild6AF6 n s pad p q r fl d H bare)
noncomputable def hBuild6DF7 (n s pad : Int) (p q r fl : UInt8) (d H : List UInt8) (bare : Bool) : AHeap := [cells (bys H) 1 Md.own none]
noncomputable def hBuild6DF8 (n s pad : Int) (p q r fl : UInt8) (d H : List UInt8) (bare : Bool) : AHeap := (hBuild6AF8 n s pad p q r fl d H bare)
theorem nfBuild6DF {R : Type} (n s pad : Int) (p q r fl : UInt8) (d H : List UInt8) (bare : Bool) (K : AV → AHeap → Option R) :
 qrun Try.prog (tBuild [10, p, q, r, 0, 0, 0, 0, 0, 0, 0, 0, 0, 0, 0, 0] [192, 168, 0, 1, 0, 0, 0, 0, 0, 0, 0, 0, 0, 0, 0, 0] H s) 100 4 [(52, .bool false), (56, .bool false), (60, .bool false), (135, .bool true)] [] 8 [.agg ([.int .u8 6] ++ kSrc true n ++ kDst true ++ [.int .u16 (kport n), .int .u16 80]), .int .u8 (fl.toNat : Int), slB 0 d, .bool false, .bool bare, .int .i64 pad] [farB d] K =
 (if adrWf (kSrc true n) = true then
 (if decide ((d.length : Int) > 2000) = false then
 (if decide (pad < 0) = false then
 (if decide (pad > 100) = false then
 (if 0 + d.length * 1 ≤ (bys d).length then
 (if (2 * (20 + d.length) + 200) * 1 ≤ 281474976710656 ∧ some 1 = some 1 ∧ 20 + d.length ≤ 70368744177664 then
 (if 0 = 0 ∧ 20 = [b8 (u8.wrap ((wk n).fdiv 256)), b8 (u8.wrap (wk n)), b8 (u8.wrap (w80.fdiv 256)), b8 (u8.wrap w80), b8 0, b8 0, b8 0, b8 0, b8 0, b8 0, b8 0, b8 0, b8 80, b8 (fl.toNat : Int), b8 0, b8 0, b8 0, b8 0, b8 0, b8 0].length ∧ (0 < d.length ∨ 0 = 0) ∧ 1 = 1 ∧ (List.take (d.length * 1) (bys d)).all AV.isCell = true then
 (if cdec (Says eBytes [AV.agg (kSrc true n)] (hBuild6DF0 n s pad p q r fl d H bare) (AV.sl (some (4, 0)) [10, p, q, r, 0, 0, 0, 0, 0, 0, 0, 0, 0, 0, 0, 0].length 0 false) (hBuild6DF1 n s pad p q r fl d H bare)) = true then
 (if cdec (Says eBytes [AV.agg (kDst true)] (hBuild6DF2 n s pad p q r fl d H bare) (AV.sl (some (5, 0)) 16 0 false) (hBuild6DF3 n s pad p q r fl d H bare)) = true then
 (if 0 + (20 + d.length) * 1 ≤ (cT n fl d).length then
 (if (2 * ([10, p, q, r, 0, 0, 0, 0, 0, 0, 0, 0, 0, 0, 0, 0].length + 16 + 8 + (20 + d.length)) + 200) * 1 ≤ 281474976710656 ∧ some 1 = some 1 ∧ [10, p, q, r, 0, 0, 0, 0, 0, 0, 0, 0, 0, 0, 0, 0].length + 16 + 8 + (20 + d.length) ≤ 70368744177664 then
 (if 0 = 0 ∧ 0 + ([10, p, q, r, 0, 0, 0, 0, 0, 0, 0, 0, 0, 0, 0, 0].length + 16 + 8) * 1 = [b8 10, b8 (p.toNat : Int), b8 (q.toNat : Int), b8 (r.toNat : Int), b8 0, b8 0, b8 0, b8 0, b8 0, b8 0, b8 0, b8 0, b8 0, b8 0, b8 0, b8 0, b8 192, b8 168, b8 0, b8 1, b8 0, b8 0, b8 0, b8 0, b8 0, b8 0, b8 0, b8 0, b8 0, b8 0, b8 0, b8 0, b8 0, b8 0, b8 (u8.wrap (((((20 + d.length) : Nat) : Int)).fdiv 256)), b8 (u8.wrap (((20 + d.length) : Nat) : Int)), b8 0, b8 0, b8 0, b8 (intV (some (b8 6)))].length ∧ (0 < 20 + d.length ∨ 0 = 0) ∧ 1 = 1 ∧ (List.take ((20 + d.length) * 1) (cT n fl d)).all AV.isCell = true then
 (if cdec (Says eRSum [AV.sl (some (9, 0)) ([10, p, q, r, 0, 0, 0, 0, 0, 0, 0, 0, 0, 0, 0, 0].length + 16 + 8 + (20 + d.length)) 0 false, int u32 0] (hBuild6DF4 n s pad p q r fl d H bare) (int i64 s) (hBuild6DF5 n s pad p q r fl d H bare)) = true then
 (if (i64.wrap (65535 - s) == 0) = true then
 (if Int.ofNat 0 ≤ Int.ofNat 16 ∧ 16 < (((20 + d.length) : Nat) : Int) then
 (if Int.ofNat 0 ≤ Int.ofNat 17 ∧ 17 < (((20 + d.length) : Nat) : Int) then
 (if cdec (Says eMk6 [AV.agg (kSrc true n), AV.agg (kDst true), b8 (intV (some (b8 6))), int i64 (((20 + d.length) : Nat) : Int)] (hBuild6DF6 n s pad p q r fl d H bare) (AV.tup [AV.sl (some (13, 0)) H.length 0 false, AV.bool true]) (hBuild6DF7 n s pad p q r fl d H bare)) = true then
 (if 0 + H.length * 1 ≤ (bys H).length then
 (if (2 * (14 + H.length) + 200) * 1 ≤ 281474976710656 ∧ some 1 = some 1 ∧ 14 + H.length ≤ 70368744177664 then
 (if 0 = 0 ∧ 14 = (cE true false).length ∧ (0 < H.length ∨ 0 = 0) ∧ 1 = 1 ∧ (List.take (H.length * 1) (bys H)).all AV.isCell = true then
 (if 0 + (20 + d.length) * 1 ≤ (putCells (putCells (cT n fl d) 16 [b8 (u8.wrap ((i64.wrap (65535 - s)).fdiv 256))]) 17 [b8 (u8.wrap (i64.wrap (65535 - s)))]).length then
 (if (2 * (14 + H.length + (20 + d.length)) + 200) * 1 ≤ 281474976710656 ∧ some 1 = some 1 ∧ 14 + H.length + (20 + d.length) ≤ 70368744177664 then
 (if 0 + (14 + H.length) * 1 ≤ ((cE true false) ++ List.take (H.length * 1) (bys H)).length then
 (if 0 = 0 ∧ 0 + (14 + H.length) * 1 = ((cE true false) ++ List.take (H.length * 1) (bys H)).length ∧ (0 < 20 + d.length ∨ 0 = 0) ∧ 1 = 1 ∧ (List.take ((20 + d.length) * 1) (putCells (putCells (cT n fl d) 16 [b8 (u8.wrap ((i64.wrap (65535 - s)).fdiv 256))]) 17 [b8 (u8.wrap (i64.wrap (65535 - s)))])).all AV.isCell = true then
 (if 1 = 1 ∧ 0 ≤ pad ∧ pad ≤ 70368744177664 ∧ pad * 1 ≤ 281474976710656 then
 (if (2 * (14 + H.length + (20 + d.length) + pad.toNat) + 200) * 1 ≤ 281474976710656 ∧ some 1 = some 1 ∧ 14 + H.length + (20 + d.length) + pad.toNat ≤ 70368744177664 then
 (if 0 + (14 + H.length + (20 + d.length)) * 1 ≤ (List.take ((14 + H.length) * 1) ((cE true false) ++ List.take (H.length * 1) (bys H)) ++ List.take ((20 + d.length) * 1) (putCells (putCells (cT n fl d) 16 [b8 (u8.wrap ((i64.wrap (65535 - s)).fdiv 256))]) 17 [b8 (u8.wrap (i64.wrap (65535 - s)))])).length then
 (if 0 = 0 ∧ 0 + (14 + H.length + (20 + d.length)) * 1 = (List.take ((14 + H.length) * 1) ((cE true false) ++ List.take (H.length * 1) (bys H)) ++ List.take ((20 + d.length) * 1) (putCells (putCells (cT n fl d) 16 [b8 (u8.wrap ((i64.wrap (65535 - s)).fdiv 256))]) 17 [b8 (u8.wrap (i64.wrap (65535 - s)))])).length ∧ (0 < pad.toNat ∨ 0 = 0) ∧ 1 = 1 ∧ (zrep pad.toNat [b8 0]).all AV.isCell = true then
 K (AV.sl (some (16, 0)) (14 + H.length + (20 + d.length) + pad.toNat) 0 false) ((hBuild6DF8 n s pad p q r fl d H bare))
 else none) else none) else none) else none) else none) else none) else none) else none) else none) else none) else none) else none) else none) else none) else none) else none) else none) else none) else none) else none) else none) else none) else none) else none) else none) else none) else none) else none) := by
  kernel_rfl

noncomputable def hBuild6DT0 (n s pad : Int) (p q r fl : UInt8) (d H : List UInt8) (bare : Bool) : AHeap := (hBuild6AF0 n s pad p q r fl d H bare)
noncomputable def hBuild6DT1 (n s pad : Int) (p q r fl : UInt8) (d H : List UInt8) (bare : Bool) : AHeap := (hBuild6AF1 n s pad p q r fl d H bare)
noncomputable def hBuild6DT2 (n s pad : Int) (p q r fl : UInt8) (d H : List UInt8) (bare : Bool) : AHeap := (hBuild6AF2 n s pad p q r fl d H bare)
noncomputable def hBuild6DT3 (n s pad : Int) (p q r fl : UInt8) (d H : List UInt8) (bare : Bool) : AHeap := (hBuild6AF3 n s pad p q r fl d H bare)
noncomputable def hBuild6DT4 (n s pad : Int) (p q r fl : UInt8) (d H : List UInt8) (bare : Bool) : AHeap := (hBuild6AF4 n s pad p q r fl d H bare)
noncomputable def hBuild6DT5 (n s pad : Int) (p q r fl : UInt8) (d H : List UInt8) (bare : Bool) : AHeap := []
noncomputable def hBuild6DT6 (n s pad : Int) (p q r fl : UInt8) (d H : List UInt8) (bare : Bool) : AHeap := (hBuild6AT6 n s pad p q r fl d H bare)
noncomputable def hBuild6DT7 (n s pad : Int) (p q r fl : UInt8) (d H : List UInt8) (bare : Bool) : AHeap := [cells (bys H) 1 Md.own none]
noncomputable def hBuild6DT8 (n s pad : Int) (p q r fl : UInt8) (d H : List UInt8) (bare : Bool) : AHeap := (hBuild6AT8 n s pad p q r fl d H bare)
theorem nfBuild6DT {R : Type} (n s pad : Int) (p q r fl : UInt8) (d H : List UInt8) (bare : Bool) (K : AV → AHeap → Option R) :
 qrun Try.prog (tBuild [10, p, q, r, 0, 0, 0, 0, 0, 0, 0, 0, 0, 0, 0, 0] [192, 168, 0, 1, 0, 0, 0, 0, 0, 0, 0, 0, 0, 0, 0, 0] H s) 100 4 [(52, .bool false), (56, .bool false), (60, .bool false), (135, .bool true)] [] 8 [.agg ([.int .u8 6] ++ kSrc true n ++ kDst true ++ [.int .u16 (kport n), .int .u16 80]), .int .u8 (fl.toNat : Int), slB 0 d, .bool true, .bool bare, .int .i64 pad] [farB d] K =
 (if adrWf (kSrc true n) = true then
 (if decide ((d.length : Int) > 2000) = false then
 (if decide (pad < 0) = false then
 (if decide (pad > 100) = false then
 (if 0 + d.length * 1 ≤ (bys d).length then
 (if (2 * (20 + d.length) + 200) * 1 ≤ 281474976710656 ∧ some 1 = some 1 ∧ 20 + d.length ≤ 70368744177664 then
 (if 0 = 0 ∧ 20 = [b8 (u8.wrap ((wk n).fdiv 256)), b8 (u8.wrap (wk n)), b8 (u8.wrap (w80.fdiv 256)), b8 (u8.wrap w80), b8 0, b8 0, b8 0, b8 0, b8 0, b8 0, b8 0, b8 0, b8 80, b8 (fl.toNat : Int), b8 0, b8 0, b8 0, b8 0, b8 0, b8 0].length ∧ (0 < d.length ∨ 0 = 0) ∧ 1 = 1 ∧ (List.take (d.length * 1) (bys d)).all AV.isCell = true then
 (if cdec (Says eBytes [AV.agg (kSrc true n)] (hBuild6DT0 n s pad p q r fl d H bare) (AV.sl (some (4, 0)) [10, p, q, r, 0, 0, 0, 0, 0, 0, 0, 0, 0, 0, 0, 0].length 0 false) (hBuild6DT1 n s pad p q r fl d H bare)) = true then
 (if cdec (Says eBytes [AV.agg (kDst true)] (hBuild6DT2 n s pad p q r fl d H bare) (AV.sl (some (5, 0)) 16 0 false) (hBuild6DT3 n s pad p q r fl d H bare)) = true then
 (if 0 + (20 + d.length) * 1 ≤ (cT n fl d).length then
 (if (2 * ([10, p, q, r, 0, 0, 0, 0, 0, 0, 0, 0, 0, 0, 0, 0].length + 16 + 8 + (20 + d.length)) + 200) * 1 ≤ 281474976710656 ∧ some 1 = some 1 ∧ [10, p, q, r, 0, 0, 0, 0, 0, 0, 0, 0, 0, 0, 0, 0].length + 16 + 8 + (20 + d.length) ≤ 70368744177664 then
 (if 0 = 0 ∧ 0 + ([10, p, q, r, 0, 0, 0, 0, 0, 0, 0, 0, 0, 0, 0, 0].length + 16 + 8) * 1 = [b8 10, b8 (p.toNat : Int), b8 (q.toNat : Int), b8 (r.toNat : Int), b8 0, b8 0, b8 0, b8 0, b8 0, b8 0, b8 0, b8 0, b8 0, b8 0, b8 0, b8 0, b8 192, b8 168, b8 0, b8 1, b8 0, b8 0, b8 0, b8 0, b8 0, b8 0, b8 0, b8 0, b8 0, b8 0, b8 0, b8 0, b8 0, b8 0, b8 (u8.wrap (((((20 + d.length) : Nat) : Int)).fdiv 256)), b8 (u8.wrap (((20 + d.length) : Nat) : Int)), b8 0, b8 0, b8 0, b8 (intV (some (b8 6)))].length ∧ (0 < 20 + d.length ∨ 0 = 0) ∧ 1 = 1 ∧ (List.take ((20 + d.length) * 1) (cT n fl d)).all AV.isCell = true then
 (if cdec (Says eRSum [AV.sl (some (9, 0)) ([10, p, q, r, 0, 0, 0, 0, 0, 0, 0, 0, 0, 0, 0, 0].length + 16 + 8 + (20 + d.length)) 0 false, int u32 0] (hBuild6DT4 n s pad p q r fl d H bare) (int i64 s) (hBuild6DT5 n s pad p q r fl d H bare)) = true then
 (if (i64.wrap (65535 - s) == 0) = true then
 (if Int.ofNat 0 ≤ Int.ofNat 16 ∧ 16 < (((20 + d.length) : Nat) : Int) then
 (if Int.ofNat 0 ≤ Int.ofNat 17 ∧ 17 < (((20 + d.length) : Nat) : Int) then
 (if cdec (Says eMk6 [AV.agg (kSrc true n), AV.agg (kDst true), b8 (intV (some (b8 6))), int i64 (((20 + d.length) : Nat) : Int)] (hBuild6DT6 n s pad p q r fl d H bare) (AV.tup [AV.sl (some (15, 0)) H.length 0 false, AV.bool true]) (hBuild6DT7 n s pad p q r fl d H bare)) = true then
 (if 0 + H.length * 1 ≤ (bys H).length then
 (if (2 * (18 + H.length) + 200) * 1 ≤ 281474976710656 ∧ some 1 = some 1 ∧ 18 + H.length ≤ 70368744177664 then
 (if 0 = 0 ∧ 18 = (cE true true).length ∧ (0 < H.length ∨ 0 = 0) ∧ 1 = 1 ∧ (List.take (H.length * 1) (bys H)).all AV.isCell = true then
 (if 0 + (20 + d.length) * 1 ≤ (putCells (putCells (cT n fl d) 16 [b8 (u8.wrap ((i64.wrap (65535 - s)).fdiv 256))]) 17 [b8 (u8.wrap (i64.wrap (65535 - s)))]).length then
 (if (2 * (18 + H.length + (20 + d.length)) + 200) * 1 ≤ 281474976710656 ∧ some 1 = some 1 ∧ 18 + H.length + (20 + d.length) ≤ 70368744177664 then
 (if 0 + (18 + H.length) * 1 ≤ ((cE true true) ++ List.take (H.length * 1) (bys H)).length then
 (if 0 = 0 ∧ 0 + (18 + H.length) * 1 = ((cE true true) ++ List.take (H.length * 1) (bys H)).length ∧ (0 < 20 + d.length ∨ 0 = 0) ∧ 1 = 1 ∧ (List.take ((20 + d.length) * 1) (putCells (putCells (cT n fl d) 16 [b8 (u8.wrap ((i64.wrap (65535 - s)).fdiv 256))]) 17 [b8 (u8.wrap (i64.wrap (65535 - s)))])).all AV.isCell = true then
 (if 1 = 1 ∧ 0 ≤ pad ∧ pad ≤ 70368744177664 ∧ pad * 1 ≤ 281474976710656 then
 (if (2 * (18 + H.length + (20 + d.length) + pad.toNat) + 200) * 1 ≤ 281474976710656 ∧ some 1 = some 1 ∧ 18 + H.length + (20 + d.length) + pad.toNat ≤ 70368744177664 then
 (if 0 + (18 + H.length + (20 + d.length)) * 1 ≤ (List.take ((18 + H.length) * 1) ((cE true true) ++ List.take (H.length * 1) (bys H)) ++ List.take ((20 + d.length) * 1) (putCells (putCells (cT n fl d) 16 [b8 (u8.wrap ((i64.wrap (65535 - s)).fdiv 256))]) 17 [b8 (u8.wrap (i64.wrap (65535 - s)))])).length then
 (if 0 = 0 ∧ 0 + (18 + H.length + (20 + d.length)) * 1 = (List.take ((18 + H.length) * 1) ((cE true true) ++ List.take (H.length * 1) (bys H)) ++ List.take ((20 + d.length) * 1) (putCells (putCells (cT n fl d) 16 [b8 (u8.wrap ((i64.wrap (65535 - s)).fdiv 256))]) 17 [b8 (u8.wrap (i64.wrap (65535 - s)))])).length ∧ (0 < pad.toNat ∨ 0 = 0) ∧ 1 = 1 ∧ (zrep pad.toNat [b8 0]).all AV.isCell = true then
 K (AV.sl (some (18, 0)) (18 + H.length + (20 + d.length) + pad.toNat) 0 false) ((hBuild6DT8 n s pad p q r fl d H bare))
 else none) else none) else none) else none) else none) else none) else none) else none) else none) else none) else none) else none) else none) else none) else none) else none) else none) else none) else none) else none) else none) else none) else none) else none) else none) else none) else none) else none) := by
  kernel_rfl

noncomputable def hBuild6UF0 (n s pad : Int) (p q r fl : UInt8) (d H : List UInt8) : AHeap := [cells (bys d) 1 Md.far none, cells (keyV true true n) 37 Md.own none, cells [b8 (u8.wrap ((wk n).fdiv 256)), b8 (u8.wrap (wk n)), b8 (u8.wrap (w80.fdiv 256)), b8 (u8.wrap w80), b8 (u8.wrap ((i64.wrap (8 + (d.length : Int))).fdiv 256)), b8 (u8.wrap (i64.wrap (8 + (d.length : Int)))), b8 0, b8 0] 1 Md.ro none, cells (cU n d) 1 Md.own (some 2)]
noncomputable def hBuild6UF1 (n s pad : Int) (p q r fl : UInt8) (d H : List UInt8) : AHeap := [cells [b8 10, b8 (p.toNat : Int), b8 (q.toNat : Int), b8 (r.toNat : Int), b8 0, b8 0, b8 0, b8 0, b8 0, b8 0, b8 0, b8 0, b8 0, b8 0, b8 0, b8 0] 1 Md.own none]
noncomputable def hBuild6UF2 (n s pad : Int) (p q r fl : UInt8) (d H : List UInt8) : AHeap := (hBuild6UF0 n s pad p q r fl d H) ++ [cells [b8 10, b8 (p.toNat : Int), b8 (q.toNat : Int), b8 (r.toNat : Int), b8 0, b8 0, b8 0, b8 0, b8 0, b8 0, b8 0, b8 0, b8 0, b8 0, b8 0, b8 0] 1 Md.own none]
noncomputable def hBuild6UF3 (n s pad : Int) (p q r fl : UInt8) (d H : List UInt8) : AHeap := [cells [b8 192, b8 168, b8 0, b8 1, b8 0, b8 0, b8 0, b8 0, b8 0, b8 0, b8 0, b8 0, b8 0, b8 0, b8 0, b8 0] 1 Md.own none]
noncomputable def hBuild6UF4 (n s pad : Int) (p q r fl : UInt8) (d H : List UInt8) : AHeap := (hBuild6UF0 n s pad p q r fl d H) ++ [ABlk.dead, cells [b8 192, b8 168, b8 0, b8 1, b8 0, b8 0, b8 0, b8 0, b8 0, b8 0, b8 0, b8 0, b8 0, b8 0, b8 0, b8 0] 1 Md.own none, ABlk.dead, cells [b8 0, b8 0, b8 (u8.wrap (((((8 + d.length) : Nat) : Int)).fdiv 256)), b8 (u8.wrap (((8 + d.length) : Nat) : Int)), b8 0, b8 0, b8 0, b8 (intV (some (b8 17)))] 1 Md.own none, cells [b8 10, b8 (p.toNat : Int), b8 (q.toNat : Int), b8 (r.toNat : Int), b8 0, b8 0, b8 0, b8 0, b8 0, b8 0, b8 0, b8 0, b8 0, b8 0, b8 0, b8 0, b8 192, b8 168, b8 0, b8 1, b8 0, b8 0, b8 0, b8 0, b8 0, b8 0, b8 0, b8 0, b8 0, b8 0, b8 0, b8 0, b8 0, b8 0, b8 (u8.wrap (((((8 + d.length) : Nat) : Int)).fdiv 256)), b8 (u8.wrap (((8 + d.length) : Nat) : Int)), b8 0, b8 0, b8 0, b8 (intV (some (b8 17)))] 1 Md.ro none, cells ([b8 10, b8 (p.toNat : Int), b8 (q.toNat : Int), b8 (r.toNat : Int), b8 0, b8 0, b8 0, b8 0, b8 0, b8 0, b8 0, b8 0, b8 0, b8 0, b8 0, b8 0, b8 192, b8 168, b8 0, b8 1, b8 0, b8 0, b8 0, b8 0, b8 0, b8 0, b8 0, b8 0, b8 0, b8 0, b8 0, b8 0, b8 0, b8 0, b8 (u8.wrap (((((8 + d.length) : Nat) : Int)).fdiv 256)), b8 (u8.wrap (((8 + d.length) : Nat) : Int)), b8 0, b8 0, b8 0, b8 (intV (some (b8 17)))] ++ List.take ((8 + d.length) * 1) (cU n d)) 1 Md.own (some 8)]
noncomputable def hBuild6UF5 (n s pad : Int) (p q r fl : UInt8) (d H : List UInt8) : AHeap := []
noncomputable def hBuild6UF6 (n s pad : Int) (p q r fl : UInt8) (d H : List UInt8) : AHeap := ((((hBuild6UF4 n s pad p q r fl d H).set 2 (ABlk.dead)).set 3 (cells (putCells (putCells (cU n d) 6 [b8 (u8.wrap ((i64.wrap (65535 - s)).fdiv 256))]) 7 [b8 (u8.wrap (i64.wrap (65535 - s)))]) 1 Md.own none))) ++ [cells [b8 1, b8 2, b8 3, b8 4, b8 5, b8 6, b8 7, b8 8, b8 9, b8 10, b8 11, b8 12] 1 Md.ro none, cells [b8 134, b8 221] 1 Md.own none, cells (cE true false) 1 Md.own (some 10)]
noncomputable def hBuild6UF7 (n s pad : Int) (p q r fl : UInt8) (d H : List UInt8) : AHeap := [cells (bys H) 1 Md.own none]
noncomputable def hBuild6UF8 (n s pad : Int) (p q r fl : UInt8) (d H : List UInt8) : AHeap := ((((hBuild6UF6 n s pad p q r fl d H).set 10 (ABlk.dead)).set 12 (ABlk.dead))) ++ [cells (bys H) 1 Md.own none, ABlk.dead, cells (List.take ((14 + H.length) * 1) ((cE true false) ++ List.take (H.length * 1) (bys H)) ++ List.take ((8 + d.length) * 1) (putCells (putCells (cU n d) 6 [b8 (u8.wrap ((i64.wrap (65535 - s)).fdiv 256))]) 7 [b8 (u8.wrap (i64.wrap (65535 - s)))])) 1 Md.ro none, cells (List.take ((14 + H.length + (8 + d.length)) * 1) (List.take ((14 + H.length) * 1) ((cE true false) ++ List.take (H.length * 1) (bys H)) ++ List.take ((8 + d.length) * 1) (putCells (putCells (cU n d) 6 [b8 (u8.wrap ((i64.wrap (65535 - s)).fdiv 256))]) 7 [b8 (u8.wrap (i64.wrap (65535 - s)))])) ++ zrep pad.toNat [b8 0]) 1 Md.own (some 15)]
theorem nfBuild6UF {R : Type} (n s pad : Int) (p q r fl : UInt8) (d H : List UInt8) (K : AV → AHeap → Option R) :
 qrun Try.prog (tBuild [10, p, q, r, 0, 0, 0, 0, 0, 0, 0, 0, 0, 0, 0, 0] [192, 168, 0, 1, 0, 0, 0, 0, 0, 0, 0, 0, 0, 0, 0, 0] H s) 100 4 [(52, .bool false), (56, .bool false), (60, .bool false), (135, .bool false)] [] 8 [.agg ([.int .u8 17] ++ kSrc true n ++ kDst true ++ [.int .u16 (kport n), .int .u16 80]), .int .u8 (fl.toNat : Int), slB 0 d, .bool false, .bool false, .int .i64 pad] [farB d] K =
 (if adrWf (kSrc true n) = true then
 (if decide ((d.length : Int) > 2000) = false then
 (if decide (pad < 0) = false then
 (if decide (pad > 100) = false then
 (if 0 + d.length * 1 ≤ (bys d).length then
 (if (2 * (8 + d.length) + 200) * 1 ≤ 281474976710656 ∧ some 1 = some 1 ∧ 8 + d.length ≤ 70368744177664 then
 (if 0 = 0 ∧ 8 = [b8 (u8.wrap ((wk n).fdiv 256)), b8 (u8.wrap (wk n)), b8 (u8.wrap (w80.fdiv 256)), b8 (u8.wrap w80), b8 (u8.wrap ((i64.wrap (8 + (d.length : Int))).fdiv 256)), b8 (u8.wrap (i64.wrap (8 + (d.length : Int)))), b8 0, b8 0].length ∧ (0 < d.length ∨ 0 = 0) ∧ 1 = 1 ∧ (List.take (d.length * 1) (bys d)).all AV.isCell = true then
 (if cdec (Says eBytes [AV.agg (kSrc true n)] (hBuild6UF0 n s pad p q r fl d H) (AV.sl (some (4, 0)) [10, p, q, r, 0, 0, 0, 0, 0, 0, 0, 0, 0, 0, 0, 0].length 0 false) (hBuild6UF1 n s pad p q r fl d H)) = true then
 (if cdec (Says eBytes [AV.agg (kDst true)] (hBuild6UF2 n s pad p q r fl d H) (AV.sl (some (5, 0)) 16 0 false) (hBuild6UF3 n s pad p q r fl d H)) = true then
 (if 0 + (8 + d.length) * 1 ≤ (cU n d).length then
 (if (2 * ([10, p, q, r, 0, 0, 0, 0, 0, 0, 0, 0, 0, 0, 0, 0].length + 16 + 8 + (8 + d.length)) + 200) * 1 ≤ 281474976710656 ∧ some 1 = some 1 ∧ [10, p, q, r, 0, 0, 0, 0, 0, 0, 0, 0, 0, 0, 0, 0].length + 16 + 8 + (8 + d.length) ≤ 70368744177664 then
 (if 0 = 0 ∧ 0 + ([10, p, q, r, 0, 0, 0, 0, 0, 0, 0, 0, 0, 0, 0, 0].length + 16 + 8) * 1 = [b8 10, b8 (p.toNat : Int), b8 (q.toNat : Int), b8 (r.toNat : Int), b8 0, b8 0, b8 0, b8 0, b8 0, b8 0, b8 0, b8 0, b8 0, b8 0, b8 0, b8 0, b8 192, b8 168, b8 0, b8 1, b8 0, b8 0, b8 0, b8 0, b8 0, b8 0, b8 0, b8 0, b8 0, b8 0, b8 0, b8 0, b8 0, b8 0, b8 (u8.wrap (((((8 + d.length) : Nat) : Int)).fdiv 256)), b8 (u8.wrap (((8 + d.length) : Nat) : Int)), b8 0, b8 0, b8 0, b8 (intV (some (b8 17)))].length ∧ (0 < 8 + d.length ∨ 0 = 0) ∧ 1 = 1 ∧ (List.take ((8 + d.length) * 1) (cU n d)).all AV.isCell = true then
 (if cdec (Says eRSum [AV.sl (some (9, 0)) ([10, p, q, r, 0, 0, 0, 0, 0, 0, 0, 0, 0, 0, 0, 0].length + 16 + 8 + (8 + d.length)) 0 false, int u32 0] (hBuild6UF4 n s pad p q r fl d H) (int i64 s) (hBuild6UF5 n s pad p q r fl d H)) = true then
 (if (i64.wrap (65535 - s) == 0) = false then
 (if Int.ofNat 0 ≤ Int.ofNat 6 ∧ 6 < (((8 + d.length) : Nat) : Int) then
 (if Int.ofNat 0 ≤ Int.ofNat 7 ∧ 7 < (((8 + d.length) : Nat) : Int) then
 (if cdec (Says eMk6 [AV.agg (kSrc true n), AV.agg (kDst true), b8 (intV (some (b8 17))), int i64 (((8 + d.length) : Nat) : Int)] (hBuild6UF6 n s pad p q r fl d H) (AV.tup [AV.sl (some (13, 0)) H.length 0 false, AV.bool true]) (hBuild6UF7 n s pad p q r fl d H)) = true then
 (if 0 + H.length * 1 ≤ (bys H).length then
 (if (2 * (14 + H.length) + 200) * 1 ≤ 281474976710656 ∧ some 1 = some 1 ∧ 14 + H.length ≤ 70368744177664 then
 (if 0 = 0 ∧ 14 = (cE true false).length ∧ (0 < H.length ∨ 0 = 0) ∧ 1 = 1 ∧ (List.take (H.length * 1) (bys H)).all AV.isCell = true then
 (if 0 + (8 + d.length) * 1 ≤ (putCells (putCells (cU n d) 6 [b8 (u8.wrap ((i64.wrap (65535 - s)).fdiv 256))]) 7 [b8 (u8.wrap (i64.wrap (65535 - s)))]).length then
 (if (2 * (14 + H.length + (8 + d.length)) + 200) * 1 ≤ 281474976710656 ∧ some 1 = some 1 ∧ 14 + H.length + (8 + d.length) ≤ 70368744177664 then
 (if 0 + (14 + H.length) * 1 ≤ ((cE true false) ++ List.take (H.length * 1) (bys H)).length then
 (if 0 = 0 ∧ 0 + (14 + H.length) * 1 = ((cE true false) ++ List.take (H.length * 1) (bys H)).length ∧ (0 < 8 + d.length ∨ 0 = 0) ∧ 1 = 1 ∧ (List.take ((8 + d.length) * 1) (putCells (putCells (cU n d) 6 [b8 (u8.wrap ((i64.wrap (65535 - s)).fdiv 256))]) 7 [b8 (u8.wrap (i64.wrap (65535 - s)))])).all AV.isCell = true then
 (if 1 = 1 ∧ 0 ≤ pad ∧ pad ≤ 70368744177664 ∧ pad * 1 ≤ 281474976710656 then
 (if (2 * (14 + H.length + (8 + d.length) + pad.toNat) + 200) * 1 ≤ 281474976710656 ∧ some 1 = some 1 ∧ 14 + H.length + (8 + d.length) + pad.toNat ≤ 70368744177664 then
 (if 0 + (14 + H.length + (8 + d.length)) * 1 ≤ (List.take ((14 + H.length) * 1) ((cE true false) ++ List.take (H.length * 1) (bys H)) ++ List.take ((8 + d.length) * 1) (putCells (putCells (cU n d) 6 [b8 (u8.wrap ((i64.wrap (65535 - s)).fdiv 256))]) 7 [b8 (u8.wrap (i64.wrap (65535 - s)))])).length then
 (if 0 = 0 ∧ 0 + (14 + H.length + (8 + d.length)) * 1 = (List.take ((14 + H.length) * 1) ((cE true false) ++ List.take (H.length * 1) (bys H)) ++ List.take ((8 + d.length) * 1) (putCells (putCells (cU n d) 6 [b8 (u8.wrap ((i64.wrap (65535 - s)).fdiv 256))]) 7 [b8 (u8.wrap (i64.wrap (65535 - s)))])).length ∧ (0 < pad.toNat ∨ 0 = 0) ∧ 1 = 1 ∧ (zrep pad.toNat [b8 0]).all AV.isCell = true then
 K (AV.sl (some (16, 0)) (14 + H.length + (8 + d.length) + pad.toNat) 0 false) ((hBuild6UF8 n s pad p q r fl d H))
 else none) else none) else none) else none) else none) else none) else none) else none) else none) else none) else none) else none) else none) else none) else none) else none) else none) else none) else none) else none) else none) else none) else none) else none) else none) else none) else none) else none) := by
  kernel_rfl

noncomputable def hBuild6UT0 (n s pad : Int) (p q r fl : UInt8) (d H : List UInt8) : AHeap := (hBuild6UF0 n s pad p q r fl d H)
noncomputable def hBuild6UT1 (n s pad : Int) (p q r fl : UInt8) (d H : List UInt8) : AHeap := (hBuild6UF1 n s pad p q r fl d H)
noncomputable def hBuild6UT2 (n s pad : Int) (p q r fl : UInt8) (d H : List UInt8) : AHeap := (hBuild6UF2 n s pad p q r fl d H)
noncomputable def hBuild6UT3 (n s pad : Int) (p q r fl : UInt8) (d H : List UInt8) : AHeap := (hBuild6UF3 n s pad p q r fl d H)
noncomputable def hBuild6UT4 (n s pad : Int) (p q r fl : UInt8) (d H : List UInt8) : AHeap := (hBuild6UF4 n s pad p q r fl d H)
noncomputable def hBuild6UT5 (n s pad : Int) (p q r fl : UInt8) (d H : List UInt8) : AHeap := []
noncomputable def hBuild6UT6 (n s pad : Int) (p q r fl : UInt8) (d H : List UInt8) : AHeap := (hBuild6UF8 n s pad p q r fl d H).take 11 ++ [cells [b8 129, b8 0, b8 0, b8 7] 1 Md.own none, cells [b8 1, b8 2, b8 3, b8 4, b8 5, b8 6, b8 7, b8 8, b8 9, b8 10, b8 11, b8 12, b8 129, b8 0, b8 0, b8 7] 1 Md.ro none, cells [b8 134, b8 221] 1 Md.own none, cells (cE true true) 1 Md.own (some 12)]
noncomputable def hBuild6UT7 (n s pad : Int) (p q r fl : UInt8) (d H : List UInt8) : AHeap := [cells (bys H) 1 Md.own none]
noncomputable def hBuild6UT8 (n s pad : Int) (p q r fl : UInt8) (d H : List UInt8) : AHeap := ((((hBuild6UT6 n s pad p q r fl d H).set 12 (ABlk.dead)).set 14 (ABlk.dead))) ++ [cells (bys H) 1 Md.own none, ABlk.dead, cells (List.take ((18 + H.length) * 1) ((cE true true) ++ List.take (H.length * 1) (bys H)) ++ List.take ((8 + d.length) * 1) (putCells (putCells (cU n d) 6 [b8 (u8.wrap ((i64.wrap (65535 - s)).fdiv 256))]) 7 [b8 (u8.wrap (i64.wrap (65535 - s)))])) 1 Md.ro none, cells (List.take ((18 + H.length + (8 + d.length)) * 1) (List.take ((18 + H.length) * 1) ((cE true true) ++ List.take (H.length * 1) (bys H)) ++ List.take ((8 + d.length) * 1) (putCells (putCells (cU n d) 6 [b8 (u8.wrap ((i64.wrap (65535 - s)).fdiv 256))]) 7 [b8 (u8.wrap (i64.wrap (65535 - s)))])) ++ zrep pad.toNat [b8 0]) 1 Md.own (some 17)]
theorem nfBuild6UT {R : Type} (n s pad : Int) (p q r fl : UInt8) (d H : List UInt8) (K : AV → AHeap → Option R) :
 qrun Try.prog (tBuild [10, p, q, r, 0, 0, 0, 0, 0, 0, 0, 0, 0, 0, 0, 0] [192, 168, 0, 1, 0, 0, 0, 0, 0, 0, 0, 0, 0, 0, 0, 0] H s) 100 4 [(52, .bool false), (56, .bool false), (60, .bool false), (135, .bool false)] [] 8 [.agg ([.int .u8 17] ++ kSrc true n ++ kDst true ++ [.int .u16 (kport n), .int .u16 80]), .int .u8 (fl.toNat : Int), slB 0 d, .bool true, .bool false, .int .i64 pad] [farB d] K =
 (if adrWf (kSrc true n) = true then
 (if decide ((d.length : Int) > 2000) = false then
 (if decide (pad < 0) = false then
 (if decide (pad > 100) = false then
 (if 0 + d.length * 1 ≤ (bys d).length then
 (if (2 * (8 + d.length) + 200) * 1 ≤ 281474976710656 ∧ some 1 = some 1 ∧ 8 + d.length ≤ 70368744177664 then
 (if 0 = 0 ∧ 8 = [b8 (u8.wrap ((wk n).fdiv 256)), b8 (u8.wrap (wk n)), b8 (u8.wrap (w80.fdiv 256)), b8 (u8.wrap w80), b8 (u8.wrap ((i64.wrap (8 + (d.length : Int))).fdiv 256)), b8 (u8.wrap (i64.wrap (8 + (d.length : Int)))), b8 0, b8 0].length ∧ (0 < d.length ∨ 0 = 0) ∧ 1 = 1 ∧ (List.take (d.length * 1) (bys d)).all AV.isCell = true then
 (if cdec (Says eBytes [AV.agg (kSrc true n)] (hBuild6UT0 n s pad p q r fl d H) (AV.sl (some (4, 0)) [10, p, q, r, 0, 0, 0, 0, 0, 0, 0, 0, 0, 0, 0, 0].length 0 false) (hBuild6UT1 n s pad p q r fl d H)) = true then
 (if cdec (Says eBytes [AV.agg (kDst true)] (hBuild6UT2 n s pad p q r fl d H) (AV.sl (some (5, 0)) 16 0 false) (hBuild6UT3 n s pad p q r fl d H)) = true then
 (if 0 + (8 + d.length) * 1 ≤ (cU n d).length then
 (if (2 * ([10, p, q, r, 0, 0, 0, 0, 0, 0, 0, 0, 0, 0, 0, 0].length + 16 + 8 + (8 + d.length)) + 200) * 1 ≤ 281474976710656 ∧ some 1 = some 1 ∧ [10, p, q, r, 0, 0, 0, 0, 0, 0, 0, 0, 0, 0, 0, 0].length + 16 + 8 + (8 + d.length) ≤ 70368744177664 then
 (if 0 = 0 ∧ 0 + ([10, p, q, r, 0, 0, 0, 0, 0, 0, 0, 0, 0, 0, 0, 0].length + 16 + 8) * 1 = [b8 10, b8 (p.toNat : Int), b8 (q.toNat : Int), b8 (r.toNat : Int), b8 0, b8 0, b8 0, b8 0, b8 0, b8 0, b8 0, b8 0, b8 0, b8 0, b8 0, b8 0, b8 192, b8 168, b8 0, b8 1, b8 0, b8 0, b8 0, b8 0, b8 0, b8 0, b8 0, b8 0, b8 0, b8 0, b8 0, b8 0, b8 0, b8 0, b8 (u8.wrap (((((8 + d.length) : Nat) : Int)).fdiv 256)), b8 (u8.wrap (((8 + d.length) : Nat) : Int)), b8 0, b8 0, b8 0, b8 (intV (some (b8 17)))].length ∧ (0 < 8 + d.length ∨ 0 = 0) ∧ 1 = 1 ∧ (List.take ((8 + d.length) * 1) (cU n d)).all AV.isCell = true then
 (if cdec (Says eRSum [AV.sl (some (9, 0)) ([10, p, q, r, 0, 0, 0, 0, 0, 0, 0, 0, 0, 0, 0, 0].length + 16 + 8 + (8 + d.length)) 0 false, int u32 0] (hBuild6UT4 n s pad p q r fl d H) (int i64 s) (hBuild6UT5 n s pad p q r fl d H)) = true then
 (if (i64.wrap (65535 - s) == 0) = false then
 (if Int.ofNat 0 ≤ Int.ofNat 6 ∧ 6 < (((8 + d.length) : Nat) : Int) then
 (if Int.ofNat 0 ≤ Int.ofNat 7 ∧ 7 < (((8 + d.length) : Nat) : Int) then
 (if cdec (Says eMk6 [AV.agg (kSrc true n), AV.agg (kDst true), b8 (intV (some (b8 17))), int i64 (((8 + d.length) : Nat) : Int)] (hBuild6UT6 n s pad p q r fl d H) (AV.tup [AV.sl (some (15, 0)) H.length 0 false, AV.bool true]) (hBuild6UT7 n s pad p q r fl d H)) = true then
 (if 0 + H.length * 1 ≤ (bys H).length then
 (if (2 * (18 + H.length) + 200) * 1 ≤ 281474976710656 ∧ some 1 = some 1 ∧ 18 + H.length ≤ 70368744177664 then
 (if 0 = 0 ∧ 18 = (cE true true).length ∧ (0 < H.length ∨ 0 = 0) ∧ 1 = 1 ∧ (List.take (H.length * 1) (bys H)).all AV.isCell = true then
 (if 0 + (8 + d.length) * 1 ≤ (putCells (putCells (cU n d) 6 [b8 (u8.wrap ((i64.wrap (65535 - s)).fdiv 256))]) 7 [b8 (u8.wrap (i64.wrap (65535 - s)))]).length then
 (if (2 * (18 + H.length + (8 + d.length)) + 200) * 1 ≤ 281474976710656 ∧ some 1 = some 1 ∧ 18 + H.length + (8 + d.length) ≤ 70368744177664 then
 (if 0 + (18 + H.length) * 1 ≤ ((cE true true) ++ List.take (H.length * 1) (bys H)).length then
 (if 0 = 0 ∧ 0 + (18 + H.length) * 1 = ((cE true true) ++ List.take (H.length * 1) (bys H)).length ∧ (0 < 8 + d.length ∨ 0 = 0) ∧ 1 = 1 ∧ (List.take ((8 + d.length) * 1) (putCells (putCells (cU n d) 6 [b8 (u8.wrap ((i64.wrap (65535 - s)).fdiv 256))]) 7 [b8 (u8.wrap (i64.wrap (65535 - s)))])).all AV.isCell = true then
 (if 1 = 1 ∧ 0 ≤ pad ∧ pad ≤ 70368744177664 ∧ pad * 1 ≤ 281474976710656 then
 (if (2 * (18 + H.length + (8 + d.length) + pad.toNat) + 200) * 1 ≤ 281474976710656 ∧ some 1 = some 1 ∧ 18 + H.length + (8 + d.length) + pad.toNat ≤ 70368744177664 then
 (if 0 + (18 + H.length + (8 + d.length)) * 1 ≤ (List.take ((18 + H.length) * 1) ((cE true true) ++ List.take (H.length * 1) (bys H)) ++ List.take ((8 + d.length) * 1) (putCells (putCells (cU n d) 6 [b8 (u8.wrap ((i64.wrap (65535 - s)).fdiv 256))]) 7 [b8 (u8.wrap (i64.wrap (65535 - s)))])).length then
 (if 0 = 0 ∧ 0 + (18 + H.length + (8 + d.length)) * 1 = (List.take ((18 + H.length) * 1) ((cE true true) ++ List.take (H.length * 1) (bys H)) ++ List.take ((8 + d.length) * 1) (putCells (putCells (cU n d) 6 [b8 (u8.wrap ((i64.wrap (65535 - s)).fdiv 256))]) 7 [b8 (u8.wrap (i64.wrap (65535 - s)))])).length ∧ (0 < pad.toNat ∨ 0 = 0) ∧ 1 = 1 ∧ (zrep pad.toNat [b8 0]).all AV.isCell = true then
 K (AV.sl (some (18, 0)) (18 + H.length + (8 + d.length) + pad.toNat) 0 false) ((hBuild6UT8 n s pad p q r fl d H))
 else none) else none) else none) else none) else none) else none) else none) else none) else none) else none) else none) else none) else none) else none) else none) else none) else none) else none) else none) else none) else none) else none) else none) else none) else none) else none) else none) else none) := by
  kernel_rfl

noncomputable def hBuild6ZF0 (n s pad : Int) (p q r fl : UInt8) (d H : List UInt8) : AHeap := (hBuild6UF0 n s pad p q r fl d H)
noncomputable def hBuild6ZF1 (n s pad : Int) (p q r fl : UInt8) (d H : List UInt8) : AHeap := (hBuild6UF1 n s pad p q r fl d H)
noncomputable def hBuild6ZF2 (n s pad : Int) (p q r fl : UInt8) (d H : List UInt8) : AHeap := (hBuild6UF2 n s pad p q r fl d H)
noncomputable def hBuild6ZF3 (n s pad : Int) (p q r fl : UInt8) (d H : List UInt8) : AHeap := (hBuild6UF3 n s pad p q r fl d H)
noncomputable def hBuild6ZF4 (n s pad : Int) (p q r fl : UInt8) (d H : List UInt8) : AHeap := (hBuild6UF4 n s pad p q r fl d H)
noncomputable def hBuild6ZF5 (n s pad : Int) (p q r fl : UInt8) (d H : List UInt8) : AHeap := []
noncomputable def hBuild6ZF6 (n s pad : Int) (p q r fl : UInt8) (d H : List UInt8) : AHeap := ((hBuild6UF6 n s pad p q r fl d H).set 3 (cells (putCells (putCells (cU n d) 6 [b8 255]) 7 [b8 255]) 1 Md.own none))
noncomputable def hBuild6ZF7 (n s pad : Int) (p q r fl : UInt8) (d H : List UInt8) : AHeap := [cells (bys H) 1 Md.own none]
noncomputable def hBuild6ZF8 (n s pad : Int) (p q r fl : UInt8) (d H : List UInt8) : AHeap := ((((hBuild6ZF6 n s pad p q r fl d H).set 10 (ABlk.dead)).set 12 (ABlk.dead))) ++ [cells (bys H) 1 Md.own none, ABlk.dead, cells (List.take ((14 + H.length) * 1) ((cE true false) ++ List.take (H.length * 1) (bys H)) ++ List.take ((8 + d.length) * 1) (putCells (putCells (cU n d) 6 [b8 255]) 7 [b8 255])) 1 Md.ro none, cells (List.take ((14 + H.length + (8 + d.length)) * 1) (List.take ((14 + H.length) * 1) ((cE true false) ++ List.take (H.length * 1) (bys H)) ++ List.take ((8 + d.length) * 1) (putCells (putCells (cU n d) 6 [b8 255]) 7 [b8 255])) ++ zrep pad.toNat [b8 0]) 1 Md.own (some 15)]
theorem nfBuild6ZF {R : Type} (n s pad : Int) (p q r fl : UInt8) (d H : List UInt8) (K : AV → AHeap → Option R) :
 qrun Try.prog (tBuild [10, p, q, r, 0, 0, 0, 0, 0, 0, 0, 0, 0, 0, 0, 0] [192, 168, 0, 1, 0, 0, 0, 0, 0, 0, 0, 0, 0, 0, 0, 0] H s) 100 4 [(52, .bool false), (56, .bool false), (60, .bool false), (135, .bool true)] [] 8 [.agg ([.int .u8 17] ++ kSrc true n ++ kDst true ++ [.int .u16 (kport n), .int .u16 80]), .int .u8 (fl.toNat : Int), slB 0 d, .bool false, .bool false, .int .i64 pad] [farB d] K =
 (if adrWf (kSrc true n) = true then
 (if decide ((d.length : Int) > 2000) = false then
 (if decide (pad < 0) = false then
 (if decide (pad > 100) = false then
 (if 0 + d.length * 1 ≤ (bys d).length then
 (if (2 * (8 + d.length) + 200) * 1 ≤ 281474976710656 ∧ some 1 = some 1 ∧ 8 + d.length ≤ 70368744177664 then
 (if 0 = 0 ∧ 8 = [b8 (u8.wrap ((wk n).fdiv 256)), b8 (u8.wrap (wk n)), b8 (u8.wrap (w80.fdiv 256)), b8 (u8.wrap w80), b8 (u8.wrap ((i64.wrap (8 + (d.length : Int))).fdiv 256)), b8 (u8.wrap (i64.wrap (8 + (d.length : Int)))), b8 0, b8 0].length ∧ (0 < d.length ∨ 0 = 0) ∧ 1 = 1 ∧ (List.take (d.length * 1) (bys d)).all AV.isCell = true then
 (if cdec (Says eBytes [AV.agg (kSrc true n)] (hBuild6ZF0 n s pad p q r fl d H) (AV.sl (some (4, 0)) [10, p, q, r, 0, 0, 0, 0, 0, 0, 0, 0, 0, 0, 0, 0].length 0 false) (hBuild6ZF1 n s pad p q r fl d H)) = true then
 (if cdec (Says eBytes [AV.agg (kDst true)] (hBuild6ZF2 n s pad p q r fl d H) (AV.sl (some (5, 0)) 16 0 false) (hBuild6ZF3 n s pad p q r fl d H)) = true then
 (if 0 + (8 + d.length) * 1 ≤ (cU n d).length then
 (if (2 * ([10, p, q, r, 0, 0, 0, 0, 0, 0, 0, 0, 0, 0, 0, 0].length + 16 + 8 + (8 + d.length)) + 200) * 1 ≤ 281474976710656 ∧ some 1 = some 1 ∧ [10, p, q, r, 0, 0, 0, 0, 0, 0, 0, 0, 0, 0, 0, 0].length + 16 + 8 + (8 + d.length) ≤ 70368744177664 then
 (if 0 = 0 ∧ 0 + ([10, p, q, r, 0, 0, 0, 0, 0, 0, 0, 0, 0, 0, 0, 0].length + 16 + 8) * 1 = [b8 10, b8 (p.toNat : Int), b8 (q.toNat : Int), b8 (r.toNat : Int), b8 0, b8 0, b8 0, b8 0, b8 0, b8 0, b8 0, b8 0, b8 0, b8 0, b8 0, b8 0, b8 192, b8 168, b8 0, b8 1, b8 0, b8 0, b8 0, b8 0, b8 0, b8 0, b8 0, b8 0, b8 0, b8 0, b8 0, b8 0, b8 0, b8 0, b8 (u8.wrap (((((8 + d.length) : Nat) : Int)).fdiv 256)), b8 (u8.wrap (((8 + d.length) : Nat) : Int)), b8 0, b8 0, b8 0, b8 (intV (some (b8 17)))].length ∧ (0 < 8 + d.length ∨ 0 = 0) ∧ 1 = 1 ∧ (List.take ((8 + d.length) * 1) (cU n d)).all AV.isCell = true then
 (if cdec (Says eRSum [AV.sl (some (9, 0)) ([10, p, q, r, 0, 0, 0, 0, 0, 0, 0, 0, 0, 0, 0, 0].length + 16 + 8 + (8 + d.length)) 0 false, int u32 0] (hBuild6ZF4 n s pad p q r fl d H) (int i64 s) (hBuild6ZF5 n s pad p q r fl d H)) = true then
 (if (i64.wrap (65535 - s) == 0) = true then
 (if Int.ofNat 0 ≤ Int.ofNat 6 ∧ 6 < (((8 + d.length) : Nat) : Int) then
 (if Int.ofNat 0 ≤ Int.ofNat 7 ∧ 7 < (((8 + d.length) : Nat) : Int) then
 (if cdec (Says eMk6 [AV.agg (kSrc true n), AV.agg (kDst true), b8 (intV (some (b8 17))), int i64 (((8 + d.length) : Nat) : Int)] (hBuild6ZF6 n s pad p q r fl d H) (AV.tup [AV.sl (some (13, 0)) H.length 0 false, AV.bool true]) (hBuild6ZF7 n s pad p q r fl d H)) = true then
 (if 0 + H.length * 1 ≤ (bys H).length then
 (if (2 * (14 + H.length) + 200) * 1 ≤ 281474976710656 ∧ some 1 = some 1 ∧ 14 + H.length ≤ 70368744177664 then
 (if 0 = 0 ∧ 14 = (cE true false).length ∧ (0 < H.length ∨ 0 = 0) ∧ 1 = 1 ∧ (List.take (H.length * 1) (bys H)).all AV.isCell = true then
 (if 0 + (8 + d.length) * 1 ≤ (putCells (putCells (cU n d) 6 [b8 255]) 7 [b8 255]).length then
 (if (2 * (14 + H.length + (8 + d.length)) + 200) * 1 ≤ 281474976710656 ∧ some 1 = some 1 ∧ 14 + H.length + (8 + d.length) ≤ 70368744177664 then
 (if 0 + (14 + H.length) * 1 ≤ ((cE true false) ++ List.take (H.length * 1) (bys H)).length then
 (if 0 = 0 ∧ 0 + (14 + H.length) * 1 = ((cE true false) ++ List.take (H.length * 1) (bys H)).length ∧ (0 < 8 + d.length ∨ 0 = 0) ∧ 1 = 1 ∧ (List.take ((8 + d.length) * 1) (putCells (putCells (cU n d) 6 [b8 255]) 7 [b8 255])).all AV.isCell = true then
 (if 1 = 1 ∧ 0 ≤ pad ∧ pad ≤ 70368744177664 ∧ pad * 1 ≤ 281474976710656 then
 (if (2 * (14 + H.length + (8 + d.length) + pad.toNat) + 200) * 1 ≤ 281474976710656 ∧ some 1 = some 1 ∧ 14 + H.length + (8 + d.length) + pad.toNat ≤ 70368744177664 then
 (if 0 + (14 + H.length + (8 + d.length)) * 1 ≤ (List.take ((14 + H.length) * 1) ((cE true false) ++ List.take (H.length * 1) (bys H)) ++ List.take ((8 + d.length) * 1) (putCells (putCells (cU n d) 6 [b8 255]) 7 [b8 255])).length then
 (if 0 = 0 ∧ 0 + (14 + H.length + (8 + d.length)) * 1 = (List.take ((14 + H.length) * 1) ((cE true false) ++ List.take (H.length * 1) (bys H)) ++ List.take ((8 + d.length) * 1) (putCells (putCells (cU n d) 6 [b8 255]) 7 [b8 255])).length ∧ (0 < pad.toNat ∨ 0 = 0) ∧ 1 = 1 ∧ (zrep pad.toNat [b8 0]).all AV.isCell = true then
 K (AV.sl (some (16, 0)) (14 + H.length + (8 + d.length) + pad.toNat) 0 false) ((hBuild6ZF8 n s pad p q r fl d H))
 else none) else none) else none) else none) else none) else none) else none) else none) else none) else none) else none) else none) else none) else none) else none) else none) else none) else none) else none) else none) else none) else none) else none) else none) else none) else none) else none) else none) := by
  kernel_rfl

noncomputable def hBuild6ZT0 (n s pad : Int) (p q r fl : UInt8) (d H : List UInt8) : AHeap := (hBuild6UF0 n s pad p q r fl d H)
noncomputable def hBuild6ZT1 (n s pad : Int) (p q r fl : UInt8) (d H : List UInt8) : AHeap := (hBuild6UF1 n s pad p q r fl d H)
noncomputable def hBuild6ZT2 (n s pad : Int) (p q r fl : UInt8) (d H : List UInt8) : AHeap := (hBuild6UF2 n s pad p q r fl d H)
noncomputable def hBuild6ZT3 (n s pad : Int) (p q r fl : UInt8) (d H : List UInt8) : AHeap := (hBuild6UF3 n s pad p q r fl d H)
noncomputable def hBuild6ZT4 (n s pad : Int) (p q r fl : UInt8) (d H : List UInt8) : AHeap := (hBuild6UF4 n s pad p q r fl d H)
noncomputable def hBuild6ZT5 (n s pad : Int) (p q r fl : UInt8) (d H : List UInt8) : AHeap := []
noncomputable def hBuild6ZT6 (n s pad : Int) (p q r fl : UInt8) (d H : List UInt8) : AHeap := ((hBuild6UT6 n s pad p q r fl d H).set 3 (cells (putCells (putCells (cU n d) 6 [b8 255]) 7 [b8 255]) 1 Md.own none))
noncomputable def hBuild6ZT7 (n s pad : Int) (p q r fl : UInt8) (d H : List UInt8) : AHeap := [cells (bys H) 1 Md.own none]
noncomputable def hBuild6ZT8 (n s pad : Int) (p q r fl : UInt8) (d H : List UInt8) : AHeap := ((((hBuild6ZT6 n s pad p q r fl d H).set 12 (ABlk.dead)).set 14 (ABlk.dead))) ++ [cells (bys H) 1 Md.own none, ABlk.dead, cells (List.take ((18 + H.length) * 1) ((cE true true) ++ List.take (H.length * 1) (bys H)) ++ List.take ((8 + d.length) * 1) (putCells (putCells (cU n d) 6 [b8 255]) 7 [b8 255])) 1 Md.ro none, cells (List.take ((18 + H.length + (8 + d.length)) * 1) (List.take ((18 + H.length) * 1) ((cE true true) ++ List.take (H.length * 1) (bys H)) ++ List.take ((8 + d.length) * 1) (putCells (putCells (cU n d) 6 [b8 255]) 7 [b8 255])) ++ zrep pad.toNat [b8 0]) 1 Md.own (some 17)]
theorem nfBuild6ZT {R : Type} (n s pad : Int) (p q r fl : UInt8) (d H : List UInt8) (K : AV → AHeap → Option R) :
 qrun Try.prog (tBuild [10, p, q, r, 0, 0, 0, 0, 0, 0, 0, 0, 0, 0, 0, 0] [192, 168, 0, 1, 0, 0, 0, 0, 0, 0, 0, 0, 0, 0, 0, 0] H s) 100 4 [(52, .bool false), (56, .bool false), (60, .bool false), (135, .bool true)] [] 8 [.agg ([.int .u8 17] ++ kSrc true n ++ kDst true ++ [.int .u16 (kport n), .int .u16 80]), .int .u8 (fl.toNat : Int), slB 0 d, .bool true, .bool false, .int .i64 pad] [farB d] K =
 (if adrWf (kSrc true n) = true then
 (if decide ((d.length : Int) > 2000) = false then
 (if decide (pad < 0) = false then
 (if decide (pad > 100) = false then
 (if 0 + d.length * 1 ≤ (bys d).length then
 (if (2 * (8 + d.length) + 200) * 1 ≤ 281474976710656 ∧ some 1 = some 1 ∧ 8 + d.length ≤ 70368744177664 then
 (if 0 = 0 ∧ 8 = [b8 (u8.wrap ((wk n).fdiv 256)), b8 (u8.wrap (wk n)), b8 (u8.wrap (w80.fdiv 256)), b8 (u8.wrap w80), b8 (u8.wrap ((i64.wrap (8 + (d.length : Int))).fdiv 256)), b8 (u8.wrap (i64.wrap (8 + (d.length : Int)))), b8 0, b8 0].length ∧ (0 < d.length ∨ 0 = 0) ∧ 1 = 1 ∧ (List.take (d.length * 1) (bys d)).all AV.isCell = true then
 (if cdec (Says eBytes [AV.agg (kSrc true n)] (hBuild6ZT0 n s pad p q r fl d H) (AV.sl (some (4, 0)) [10, p, q, r, 0, 0, 0, 0, 0, 0, 0, 0, 0, 0, 0, 0].length 0 false) (hBuild6ZT1 n s pad p q r fl d H)) = true then
 (if cdec (Says eBytes [AV.agg (kDst true)] (hBuild6ZT2 n s pad p q r fl d H) (AV.sl (some (5, 0)) 16 0 false) (hBuild6ZT3 n s pad p q r fl d H)) = true then
 (if 0 + (8 + d.length) * 1 ≤ (cU n d).length then
 (if (2 * ([10, p, q, r, 0, 0, 0, 0, 0, 0, 0, 0, 0, 0, 0, 0].length + 16 + 8 + (8 + d.length)) + 200) * 1 ≤ 281474976710656 ∧ some 1 = some 1 ∧ [10, p, q, r, 0, 0, 0, 0, 0, 0, 0, 0, 0, 0, 0, 0].length + 16 + 8 + (8 + d.length) ≤ 70368744177664 then
 (if 0 = 0 ∧ 0 + ([10, p, q, r, 0, 0, 0, 0, 0, 0, 0, 0, 0, 0, 0, 0].length + 16 + 8) * 1 = [b8 10, b8 (p.toNat : Int), b8 (q.toNat : Int), b8 (r.toNat : Int), b8 0, b8 0, b8 0, b8 0, b8 0, b8 0, b8 0, b8 0, b8 0, b8 0, b8 0, b8 0, b8 192, b8 168, b8 0, b8 1, b8 0, b8 0, b8 0, b8 0, b8 0, b8 0, b8 0, b8 0, b8 0, b8 0, b8 0, b8 0, b8 0, b8 0, b8 (u8.wrap (((((8 + d.length) : Nat) : Int)).fdiv 256)), b8 (u8.wrap (((8 + d.length) : Nat) : Int)), b8 0, b8 0, b8 0, b8 (intV (some (b8 17)))].length ∧ (0 < 8 + d.length ∨ 0 = 0) ∧ 1 = 1 ∧ (List.take ((8 + d.length) * 1) (cU n d)).all AV.isCell = true then
 (if cdec (Says eRSum [AV.sl (some (9, 0)) ([10, p, q, r, 0, 0, 0, 0, 0, 0, 0, 0, 0, 0, 0, 0].length + 16 + 8 + (8 + d.length)) 0 false, int u32 0] (hBuild6ZT4 n s pad p q r fl d H) (int i64 s) (hBuild6ZT5 n s pad p q r fl d H)) = true then
 (if (i64.wrap (65535 - s) == 0) = true then
 (if Int.ofNat 0 ≤ Int.ofNat 6 ∧ 6 < (((8 + d.length) : Nat) : Int) then
 (if Int.ofNat 0 ≤ Int.ofNat 7 ∧ 7 < (((8 + d.length) : Nat) : Int) then
 (if cdec (Says eMk6 [AV.agg (kSrc true n), AV.agg (kDst true), b8 (intV (some (b8 17))), int i64 (((8 + d.length) : Nat) : Int)] (hBuild6ZT6 n s pad p q r fl d H) (AV.tup [AV.sl (some (15, 0)) H.length 0 false, AV.bool true]) (hBuild6ZT7 n s pad p q r fl d H)) = true then
 (if 0 + H.length * 1 ≤ (bys H).length then
 (if (2 * (18 + H.length) + 200) * 1 ≤ 281474976710656 ∧ some 1 = some 1 ∧ 18 + H.length ≤ 70368744177664 then
 (if 0 = 0 ∧ 18 = (cE true true).length ∧ (0 < H.length ∨ 0 = 0) ∧ 1 = 1 ∧ (List.take (H.length * 1) (bys H)).all AV.isCell = true then
 (if 0 + (8 + d.length) * 1 ≤ (putCells (putCells (cU n d) 6 [b8 255]) 7 [b8 255]).length then
 (if (2 * (18 + H.length + (8 + d.length)) + 200) * 1 ≤ 281474976710656 ∧ some 1 = some 1 ∧ 18 + H.length + (8 + d.length) ≤ 70368744177664 then
 (if 0 + (18 + H.length) * 1 ≤ ((cE true true) ++ List.take (H.length * 1) (bys H)).length then
 (if 0 = 0 ∧ 0 + (18 + H.length) * 1 = ((cE true true) ++ List.take (H.length * 1) (bys H)).length ∧ (0 < 8 + d.length ∨ 0 = 0) ∧ 1 = 1 ∧ (List.take ((8 + d.length) * 1) (putCells (putCells (cU n d) 6 [b8 255]) 7 [b8 255])).all AV.isCell = true then
 (if 1 = 1 ∧ 0 ≤ pad ∧ pad ≤ 70368744177664 ∧ pad * 1 ≤ 281474976710656 then
 (if (2 * (18 + H.length + (8 + d.length) + pad.toNat) + 200) * 1 ≤ 281474976710656 ∧ some 1 = some 1 ∧ 18 + H.length + (8 + d.length) + pad.toNat ≤ 70368744177664 then
 (if 0 + (18 + H.length + (8 + d.length)) * 1 ≤ (List.take ((18 + H.length) * 1) ((cE true true) ++ List.take (H.length * 1) (bys H)) ++ List.take ((8 + d.length) * 1) (putCells (putCells (cU n d) 6 [b8 255]) 7 [b8 255])).length then
 (if 0 = 0 ∧ 0 + (18 + H.length + (8 + d.length)) * 1 = (List.take ((18 + H.length) * 1) ((cE true true) ++ List.take (H.length * 1) (bys H)) ++ List.take ((8 + d.length) * 1) (putCells (putCells (cU n d) 6 [b8 255]) 7 [b8 255])).length ∧ (0 < pad.toNat ∨ 0 = 0) ∧ 1 = 1 ∧ (zrep pad.toNat [b8 0]).all AV.isCell = true then
 K (AV.sl (some (18, 0)) (18 + H.length + (8 + d.length) + pad.toNat) 0 false) ((hBuild6ZT8 n s pad p q r fl d H))
 else none) else none) else none) else none) else none) else none) else none) else none) else none) else none) else none) else none) else none) else none) else none) else none) else none) else none) else none) else none) else none) else none) else none) else none) else none) else none) else none) else none) := by
  kernel_rfl

noncomputable def hBuild6BF0 (n s pad : Int) (p q r fl : UInt8) (d H : List UInt8) : AHeap := (hBuild6UF0 n s pad p q r fl d H)
noncomputable def hBuild6BF1 (n s pad : Int) (p q r fl : UInt8) (d H : List UInt8) : AHeap := (hBuild6UF1 n s pad p q r fl d H)
noncomputable def hBuild6BF2 (n s pad : Int) (p q r fl : UInt8) (d H : List UInt8) : AHeap := (hBuild6UF2 n s pad p q r fl d H)
noncomputable def hBuild6BF3 (n s pad : Int) (p q r fl : UInt8) (d H : List UInt8) : AHeap := (hBuild6UF3 n s pad p q r fl d H)
noncomputable def hBuild6BF4 (n s pad : Int) (p q r fl : UInt8) (d H : List UInt8) : AHeap := (((((hBuild6UF4 n s pad p q r fl d H).set 6 (cells [b8 10, b8 (p.toNat : Int), b8 (q.toNat : Int), b8 (r.toNat : Int), b8 0, b8 0, b8 0, b8 0, b8 0, b8 0, b8 0, b8 0, b8 0, b8 0, b8 0, b8 0, b8 192, b8 168, b8 0, b8 1, b8 0, b8 0, b8 0, b8 0, b8 0, b8 0, b8 0, b8 0, b8 0, b8 0, b8 0, b8 0] 1 Md.ro none)).set 8 (cells [b8 10, b8 (p.toNat : Int), b8 (q.toNat : Int), b8 (r.toNat : Int), b8 0, b8 0, b8 0, b8 0, b8 0, b8 0, b8 0, b8 0, b8 0, b8 0, b8 0, b8 0, b8 192, b8 168, b8 0, b8 1, b8 0, b8 0, b8 0, b8 0, b8 0, b8 0, b8 0, b8 0, b8 0, b8 0, b8 0, b8 0, b8 0, b8 0, b8 (u8.wrap (((((8 + d.length) : Nat) : Int)).fdiv 256)), b8 (u8.wrap (((8 + d.length) : Nat) : Int)), b8 0, b8 0, b8 0, b8 (intV (some (b8 17)))] 1 Md.own (some 6))).set 9 (cells [b8 1, b8 2, b8 3, b8 4, b8 5, b8 6, b8 7, b8 8, b8 9, b8 10, b8 11, b8 12] 1 Md.ro none))) ++ [cells [b8 134, b8 221] 1 Md.own none, cells (cE true false) 1 Md.own (some 9)]
noncomputable def hBuild6BF5 (n s pad : Int) (p q r fl : UInt8) (d H : List UInt8) : AHeap := [cells (bys H) 1 Md.own none]
noncomputable def hBuild6BF6 (n s pad : Int) (p q r fl : UInt8) (d H : List UInt8) : AHeap := ((((hBuild6BF4 n s pad p q r fl d H).set 9 (ABlk.dead)).set 11 (ABlk.dead))) ++ [cells (bys H) 1 Md.own none, ABlk.dead, cells (List.take ((14 + H.length) * 1) ((cE true false) ++ List.take (H.length * 1) (bys H)) ++ List.take ((8 + d.length) * 1) (cU n d)) 1 Md.ro none, cells (List.take ((14 + H.length + (8 + d.length)) * 1) (List.take ((14 + H.length) * 1) ((cE true false) ++ List.take (H.length * 1) (bys H)) ++ List.take ((8 + d.length) * 1) (cU n d)) ++ zrep pad.toNat [b8 0]) 1 Md.own (some 14)]
theorem nfBuild6BF {R : Type} (n s pad : Int) (p q r fl : UInt8) (d H : List UInt8) (K : AV → AHeap → Option R) :
 qrun Try.prog (tBuild [10, p, q, r, 0, 0, 0, 0, 0, 0, 0, 0, 0, 0, 0, 0] [192, 168, 0, 1, 0, 0, 0, 0, 0, 0, 0, 0, 0, 0, 0, 0] H s) 100 4 [(52, .bool false), (56, .bool false), (60, .bool false)] [] 8 [.agg ([.int .u8 17] ++ kSrc true n ++ kDst true ++ [.int .u16 (kport n), .int .u16 80]), .int .u8 (fl.toNat : Int), slB 0 d, .bool false, .bool true, .int .i64 pad] [farB d] K =
 (if adrWf (kSrc true n) = true then
 (if decide ((d.length : Int) > 2000) = false then
 (if decide (pad < 0) = false then
 (if decide (pad > 100) = false then
 (if 0 + d.length * 1 ≤ (bys d).length then
 (if (2 * (8 + d.length) + 200) * 1 ≤ 281474976710656 ∧ some 1 = some 1 ∧ 8 + d.length ≤ 70368744177664 then
 (if 0 = 0 ∧ 8 = [b8 (u8.wrap ((wk n).fdiv 256)), b8 (u8.wrap (wk n)), b8 (u8.wrap (w80.fdiv 256)), b8 (u8.wrap w80), b8 (u8.wrap ((i64.wrap (8 + (d.length : Int))).fdiv 256)), b8 (u8.wrap (i64.wrap (8 + (d.length : Int)))), b8 0, b8 0].length ∧ (0 < d.length ∨ 0 = 0) ∧ 1 = 1 ∧ (List.take (d.length * 1) (bys d)).all AV.isCell = true then
 (if cdec (Says eBytes [AV.agg (kSrc true n)] (hBuild6BF0 n s pad p q r fl d H) (AV.sl (some (4, 0)) [10, p, q, r, 0, 0, 0, 0, 0, 0, 0, 0, 0, 0, 0, 0].length 0 false) (hBuild6BF1 n s pad p q r fl d H)) = true then
 (if cdec (Says eBytes [AV.agg (kDst true)] (hBuild6BF2 n s pad p q r fl d H) (AV.sl (some (5, 0)) 16 0 false) (hBuild6BF3 n s pad p q r fl d H)) = true then
 (if cdec (Says eMk6 [AV.agg (kSrc true n), AV.agg (kDst true), b8 (intV (some (b8 17))), int i64 (((8 + d.length) : Nat) : Int)] (hBuild6BF4 n s pad p q r fl d H) (AV.tup [AV.sl (some (12, 0)) H.length 0 false, AV.bool true]) (hBuild6BF5 n s pad p q r fl d H)) = true then
 (if 0 + H.length * 1 ≤ (bys H).length then
 (if (2 * (14 + H.length) + 200) * 1 ≤ 281474976710656 ∧ some 1 = some 1 ∧ 14 + H.length ≤ 70368744177664 then
 (if 0 = 0 ∧ 14 = (cE true false).length ∧ (0 < H.length ∨ 0 = 0) ∧ 1 = 1 ∧ (List.take (H.length * 1) (bys H)).all AV.isCell = true then
 (if 0 + (8 + d.length) * 1 ≤ (cU n d).length then
 (if (2 * (14 + H.length + (8 + d.length)) + 200) * 1 ≤ 281474976710656 ∧ some 1 = some 1 ∧ 14 + H.length + (8 + d.length) ≤ 70368744177664 then
 (if 0 + (14 + H.length) * 1 ≤ ((cE true false) ++ List.take (H.length * 1) (bys H)).length then
 (if 0 = 0 ∧ 0 + (14 + H.length) * 1 = ((cE true false) ++ List.take (H.length * 1) (bys H)).length ∧ (0 < 8 + d.length ∨ 0 = 0) ∧ 1 = 1 ∧ (List.take ((8 + d.length) * 1) (cU n d)).all AV.isCell = true then
 (if 1 = 1 ∧ 0 ≤ pad ∧ pad ≤ 70368744177664 ∧ pad * 1 ≤ 281474976710656 then
 (if (2 * (14 + H.length + (8 + d.length) + pad.toNat) + 200) * 1 ≤ 281474976710656 ∧ some 1 = some 1 ∧ 14 + H.length + (8 + d.length) + pad.toNat ≤ 70368744177664 then
 (if 0 + (14 + H.length + (8 + d.length)) * 1 ≤ (List.take ((14 + H.length) * 1) ((cE true false) ++ List.take (H.length * 1) (bys H)) ++ List.take ((8 + d.length) * 1) (cU n d)).length then
 (if 0 = 0 ∧ 0 + (14 + H.length + (8 + d.length)) * 1 = (List.take ((14 + H.length) * 1) ((cE true false) ++ List.take (H.length * 1) (bys H)) ++ List.take ((8 + d.length) * 1) (cU n d)).length ∧ (0 < pad.toNat ∨ 0 = 0) ∧ 1 = 1 ∧ (zrep pad.toNat [b8 0]).all AV.isCell = true then
 K (AV.sl (some (15, 0)) (14 + H.length + (8 + d.length) + pad.toNat) 0 false) ((hBuild6BF6 n s pad p q r fl d H))
 else none) else none) else none) else none) else none) else none) else none) else none) else none) else none) else none) else none) else none) else none) else none) else none) else none) else none) else none) else none) else none) := by
  kernel_rfl

noncomputable def hBuild6BT0 (n s pad : Int) (p q r fl : UInt8) (d H : List UInt8) : AHeap := (hBuild6UT0 n s pad p q r fl d H)
noncomputable def hBuild6BT1 (n s pad : Int) (p q r fl : UInt8) (d H : List UInt8) : AHeap := (hBuild6UT1 n s pad p q r fl d H)
noncomputable def hBuild6BT2 (n s pad : Int) (p q r fl : UInt8) (d H : List UInt8) : AHeap := (hBuild6UT2 n s pad p q r fl d H)
noncomputable def hBuild6BT3 (n s pad : Int) (p q r fl : UInt8) (d H : List UInt8) : AHeap := (hBuild6UT3 n s pad p q r fl d H)
noncomputable def hBuild6BT4 (n s pad : Int) (p q r fl : UInt8) (d H : List UInt8) : AHeap := (hBuild6BF6 n s pad p q r fl d H).take 10 ++ [cells [b8 129, b8 0, b8 0, b8 7] 1 Md.own none, cells [b8 1, b8 2, b8 3, b8 4, b8 5, b8 6, b8 7, b8 8, b8 9, b8 10, b8 11, b8 12, b8 129, b8 0, b8 0, b8 7] 1 Md.ro none, cells [b8 134, b8 221] 1 Md.own none, cells (cE true true) 1 Md.own (some 11)]
noncomputable def hBuild6BT5 (n s pad : Int) (p q r fl : UInt8) (d H : List UInt8) : AHeap := [cells (bys H) 1 Md.own none]
noncomputable def hBuild6BT6 (n s pad : Int) (p q r fl : UInt8) (d H : List UInt8) : AHeap := ((((hBuild6BT4 n s pad p q r fl d H).set 11 (ABlk.dead)).set 13 (ABlk.dead))) ++ [cells (bys H) 1 Md.own none, ABlk.dead, cells (List.take ((18 + H.length) * 1) ((cE true true) ++ List.take (H.length * 1) (bys H)) ++ List.take ((8 + d.length) * 1) (cU n d)) 1 Md.ro none, cells (List.take ((18 + H.length + (8 + d.length)) * 1) (List.take ((18 + H.length) * 1) ((cE true true) ++ List.take (H.length * 1) (bys H)) ++ List.take ((8 + d.length) * 1) (cU n d)) ++ zrep pad.toNat [b8 0]) 1 Md.own (some 16)]
theorem nfBuild6BT {R : Type} (n s pad : Int) (p q r fl : UInt8) (d H : List UInt8) (K : AV → AHeap → Option R) :
 qrun Try.prog (tBuild [10, p, q, r, 0, 0, 0, 0, 0, 0, 0, 0, 0, 0, 0, 0] [192, 168, 0, 1, 0, 0, 0, 0, 0, 0, 0, 0, 0, 0, 0, 0] H s) 100 4 [(52, .bool false), (56, .bool false), (60, .bool false)] [] 8 [.agg ([.int .u8 17] ++ kSrc true n ++ kDst true ++ [.int .u16 (kport n), .int .u16 80]), .int .u8 (fl.toNat : Int), slB 0 d, .bool true, .bool true, .int .i64 pad] [farB d] K =
 (if adrWf (kSrc true n) = true then
 (if decide ((d.length : Int) > 2000) = false then
 (if decide (pad < 0) = false then
 (if decide (pad > 100) = false then
 (if 0 + d.length * 1 ≤ (bys d).length then
 (if (2 * (8 + d.length) + 200) * 1 ≤ 281474976710656 ∧ some 1 = some 1 ∧ 8 + d.length ≤ 70368744177664 then
 (if 0 = 0 ∧ 8 = [b8 (u8.wrap ((wk n).fdiv 256)), b8 (u8.wrap (wk n)), b8 (u8.wrap (w80.fdiv 256)), b8 (u8.wrap w80), b8 (u8.wrap ((i64.wrap (8 + (d.length : Int))).fdiv 256)), b8 (u8.wrap (i64.wrap (8 + (d.length : Int)))), b8 0, b8 0].length ∧ (0 < d.length ∨ 0 = 0) ∧ 1 = 1 ∧ (List.take (d.length * 1) (bys d)).all AV.isCell = true then
 (if cdec (Says eBytes [AV.agg (kSrc true n)] (hBuild6BT0 n s pad p q r fl d H) (AV.sl (some (4, 0)) [10, p, q, r, 0, 0, 0, 0, 0, 0, 0, 0, 0, 0, 0, 0].length 0 false) (hBuild6BT1 n s pad p q r fl d H)) = true then
 (if cdec (Says eBytes [AV.agg (kDst true)] (hBuild6BT2 n s pad p q r fl d H) (AV.sl (some (5, 0)) 16 0 false) (hBuild6BT3 n s pad p q r fl d H)) = true then
 (if cdec (Says eMk6 [AV.agg (kSrc true n), AV.agg (kDst true), b8 (intV (some (b8 17))), int i64 (((8 + d.length) : Nat) : Int)] (hBuild6BT4 n s pad p q r fl d H) (AV.tup [AV.sl (some (14, 0)) H.length 0 false, AV.bool true]) (hBuild6BT5 n s pad p q r fl d H)) = true then
 (if 0 + H.length * 1 ≤ (bys H).length then
 (if (2 * (18 + H.length) + 200) * 1 ≤ 281474976710656 ∧ some 1 = some 1 ∧ 18 + H.length ≤ 70368744177664 then
 (if 0 = 0 ∧ 18 = (cE true true).length ∧ (0 < H.length ∨ 0 = 0) ∧ 1 = 1 ∧ (List.take (H.length * 1) (bys H)).all AV.isCell = true then
 (if 0 + (8 + d.length) * 1 ≤ (cU n d).length then
 (if (2 * (18 + H.length + (8 + d.length)) + 200) * 1 ≤ 281474976710656 ∧ some 1 = some 1 ∧ 18 + H.length + (8 + d.length) ≤ 70368744177664 then
 (if 0 + (18 + H.length) * 1 ≤ ((cE true true) ++ List.take (H.length * 1) (bys H)).length then
 (if 0 = 0 ∧ 0 + (18 + H.length) * 1 = ((cE true true) ++ List.take (H.length * 1) (bys H)).length ∧ (0 < 8 + d.length ∨ 0 = 0) ∧ 1 = 1 ∧ (List.take ((8 + d.length) * 1) (cU n d)).all AV.isCell = true then
 (if 1 = 1 ∧ 0 ≤ pad ∧ pad ≤ 70368744177664 ∧ pad * 1 ≤ 281474976710656 then
 (if (2 * (18 + H.length + (8 + d.length) + pad.toNat) + 200) * 1 ≤ 281474976710656 ∧ some 1 = some 1 ∧ 18 + H.length + (8 + d.length) + pad.toNat ≤ 70368744177664 then
 (if 0 + (18 + H.length + (8 + d.length)) * 1 ≤ (List.take ((18 + H.length) * 1) ((cE true true) ++ List.take (H.length * 1) (bys H)) ++ List.take ((8 + d.length) * 1) (cU n d)).length then
 (if 0 = 0 ∧ 0 + (18 + H.length + (8 + d.length)) * 1 = (List.take ((18 + H.length) * 1) ((cE true true) ++ List.take (H.length * 1) (bys H)) ++ List.take ((8 + d.length) * 1) (cU n d)).length ∧ (0 < pad.toNat ∨ 0 = 0) ∧ 1 = 1 ∧ (zrep pad.toNat [b8 0]).all AV.isCell = true then
 K (AV.sl (some (17, 0)) (18 + H.length + (8 + d.length) + pad.toNat) 0 false) ((hBuild6BT6 n s pad p q r fl d H))
 else none) else none) else none) else none) else none) else none) else none) else none) else none) else none) else none) else none) else none) else none) else none) else none) else none) else none) else none) else none) else none) := by
  kernel_rfl

end Go.Proofs.Ytjkkhbeidhpghaa.L
