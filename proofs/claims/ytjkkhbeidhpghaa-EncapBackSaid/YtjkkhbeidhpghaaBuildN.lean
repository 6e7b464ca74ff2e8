/- The reference's Build: what the kernel makes of it. -/
import Derived.Test.YtjkkhbeidhpghaaBuildKit
set_option autoImplicit false
set_option maxRecDepth 100000
set_option linter.unusedVariables false
set_option linter.unusedSimpArgs false
namespace Go.Proofs.Ytjkkhbeidhpghaa.L
open Go Go.Abs
open Go.IntKind
open Go.Abs.AV (int)
open Go.Abs.ABlk (cells)

noncomputable def tBuild (A B H : List UInt8) (s : Int) : Tbl := [(20, entF eValid), (22, entF (eSay eBytes [(4, slB 4 A, [ownB A]), (5, slB 5 B, [ownB B])])), (23, entF (eSay eRSum [(10, .int .i64 s, [])])),
  (17, entF (eSay eMk6 [(12, .tup [slB 12 H, .bool true], [ownB H]), (13, .tup [slB 13 H, .bool true], [ownB H]), (14, .tup [slB 14 H, .bool true], [ownB H]), (15, .tup [slB 15 H, .bool true], [ownB H])])), (18, entF (eSay eMk4 [(12, .tup [slB 12 H, .bool true], [ownB H]), (13, .tup [slB 13 H, .bool true], [ownB H]), (14, .tup [slB 14 H, .bool true], [ownB H]), (15, .tup [slB 15 H, .bool true], [ownB H])]))]
theorem tBuildOk (A B H : List UInt8) (s : Int) : ∀ f E, (tBuild A B H s).find f = some E → SoundE Try.prog f E := find_cons sRValid (find_cons (sSay sRBytes _) (find_cons (sSay sRSum _) (find_cons (sSay sRMk6 _) (find_cons (sSay sRMk4 _) (find_nil _)))))
noncomputable def hBuild4AF0 (n s pad : Int) (p q r fl : UInt8) (d H : List UInt8) (bare : Bool) : AHeap := [cells (bys d) 1 Md.far none, cells (keyV false false n) 37 Md.own none, cells [b8 (u8.wrap ((wk n).fdiv 256)), b8 (u8.wrap (wk n)), b8 (u8.wrap (w80.fdiv 256)), b8 (u8.wrap w80), b8 0, b8 0, b8 0, b8 0, b8 0, b8 0, b8 0, b8 0, b8 80, b8 (fl.toNat : Int), b8 0, b8 0, b8 0, b8 0, b8 0, b8 0] 1 Md.ro none, cells (cT n fl d) 1 Md.own (some 2)]
noncomputable def hBuild4AF1 (n s pad : Int) (p q r fl : UInt8) (d H : List UInt8) (bare : Bool) : AHeap := [cells [b8 10, b8 (p.toNat : Int), b8 (q.toNat : Int), b8 (r.toNat : Int)] 1 Md.own none]
noncomputable def hBuild4AF2 (n s pad : Int) (p q r fl : UInt8) (d H : List UInt8) (bare : Bool) : AHeap := (hBuild4AF0 n s pad p q r fl d H bare) ++ [cells [b8 10, b8 (p.toNat : Int), b8 (q.toNat : Int), b8 (r.toNat : Int)] 1 Md.own none]
noncomputable def hBuild4AF3 (n s pad : Int) (p q r fl : UInt8) (d H : List UInt8) (bare : Bool) : AHeap := [cells [b8 192, b8 168, b8 0, b8 1] 1 Md.own none]
noncomputable def hBuild4AF4 (n s pad : Int) (p q r fl : UInt8) (d H : List UInt8) (bare : Bool) : AHeap := (hBuild4AF0 n s pad p q r fl d H bare) ++ [ABlk.dead, cells [b8 192, b8 168, b8 0, b8 1] 1 Md.own none, ABlk.dead, cells [b8 0, b8 (intV (some (b8 6))), b8 (u8.wrap (((((20 + d.length) : Nat) : Int)).fdiv 256)), b8 (u8.wrap (((20 + d.length) : Nat) : Int))] 1 Md.own none, cells [b8 10, b8 (p.toNat : Int), b8 (q.toNat : Int), b8 (r.toNat : Int), b8 192, b8 168, b8 0, b8 1, b8 0, b8 (intV (some (b8 6))), b8 (u8.wrap (((((20 + d.length) : Nat) : Int)).fdiv 256)), b8 (u8.wrap (((20 + d.length) : Nat) : Int))] 1 Md.ro none, cells ([b8 10, b8 (p.toNat : Int), b8 (q.toNat : Int), b8 (r.toNat : Int), b8 192, b8 168, b8 0, b8 1, b8 0, b8 (intV (some (b8 6))), b8 (u8.wrap (((((20 + d.length) : Nat) : Int)).fdiv 256)), b8 (u8.wrap (((20 + d.length) : Nat) : Int))] ++ List.take ((20 + d.length) * 1) (cT n fl d)) 1 Md.own (some 8)]
noncomputable def hBuild4AF5 (n s pad : Int) (p q r fl : UInt8) (d H : List UInt8) (bare : Bool) : AHeap := []
noncomputable def hBuild4AF6 (n s pad : Int) (p q r fl : UInt8) (d H : List UInt8) (bare : Bool) : AHeap := ((((hBuild4AF4 n s pad p q r fl d H bare).set 2 (ABlk.dead)).set 3 (cells (putCells (putCells (cT n fl d) 16 [b8 (u8.wrap ((i64.wrap (65535 - s)).fdiv 256))]) 17 [b8 (u8.wrap (i64.wrap (65535 - s)))]) 1 Md.own none))) ++ [cells [b8 1, b8 2, b8 3, b8 4, b8 5, b8 6, b8 7, b8 8, b8 9, b8 10, b8 11, b8 12] 1 Md.ro none, cells [b8 8, b8 0] 1 Md.own none, cells (cE false false) 1 Md.own (some 10)]
noncomputable def hBuild4AF7 (n s pad : Int) (p q r fl : UInt8) (d H : List UInt8) (bare : Bool) : AHeap := [cells (bys H) 1 Md.own none]
noncomputable def hBuild4AF8 (n s pad : Int) (p q r fl : UInt8) (d H : List UInt8) (bare : Bool) : AHeap := ((((hBuild4AF6 n s pad p q r fl d H bare).set 10 (ABlk.dead)).set 12 (ABlk.dead))) ++ [cells (bys H) 1 Md.own none, ABlk.dead, cells (List.take ((14 + H.length) * 1) ((cE false false) ++ List.take (H.length * 1) (bys H)) ++ List.take ((20 + d.length) * 1) (putCells (putCells (cT n fl d) 16 [b8 (u8.wrap ((i64.wrap (65535 - s)).fdiv 256))]) 17 [b8 (u8.wrap (i64.wrap (65535 - s)))])) 1 Md.ro none, cells (List.take ((14 + H.length + (20 + d.length)) * 1) (List.take ((14 + H.length) * 1) ((cE false false) ++ List.take (H.length * 1) (bys H)) ++ List.take ((20 + d.length) * 1) (putCells (putCells (cT n fl d) 16 [b8 (u8.wrap ((i64.wrap (65535 - s)).fdiv 256))]) 17 [b8 (u8.wrap (i64.wrap (65535 - s)))])) ++ zrep pad.toNat [b8 0]) 1 Md.own (some 15)]
theorem nfBuild4AF {R : Type} (n s pad : Int) (p q r fl : UInt8) (d H : List UInt8) (bare : Bool) (K : AV → AHeap → Option R) :
 qrun Try.prog (tBuild [10, p, q, r] [192, 168, 0, 1] H s) 100 4 [(52, .bool false), (56, .bool false), (60, .bool false), (135, .bool false)] [] 8 [.agg ([.int .u8 6] ++ kSrc false n ++ kDst false ++ [.int .u16 (kport n), .int .u16 80]), .int .u8 (fl.toNat : Int), slB 0 d, .bool false, .bool bare, .int .i64 pad] [farB d] K =
 (if adrWf (kSrc false n) = true then
 (if decide ((d.length : Int) > 2000) = false then
 (if decide (pad < 0) = false then
 (if decide (pad > 100) = false then
 (if 0 + d.length * 1 ≤ (bys d).length then
 (if (2 * (20 + d.length) + 200) * 1 ≤ 281474976710656 ∧ some 1 = some 1 ∧ 20 + d.length ≤ 70368744177664 then
 (if 0 = 0 ∧ 20 = [b8 (u8.wrap ((wk n).fdiv 256)), b8 (u8.wrap (wk n)), b8 (u8.wrap (w80.fdiv 256)), b8 (u8.wrap w80), b8 0, b8 0, b8 0, b8 0, b8 0, b8 0, b8 0, b8 0, b8 80, b8 (fl.toNat : Int), b8 0, b8 0, b8 0, b8 0, b8 0, b8 0].length ∧ (0 < d.length ∨ 0 = 0) ∧ 1 = 1 ∧ (List.take (d.length * 1) (bys d)).all AV.isCell = true then
 (if cdec (Says eBytes [AV.agg (kSrc false n)] (hBuild4AF0 n s pad p q r fl d H bare) (AV.sl (some (4, 0)) [10, p, q, r].length 0 false) (hBuild4AF1 n s pad p q r fl d H bare)) = true then
 (if cdec (Says eBytes [AV.agg (kDst false)] (hBuild4AF2 n s pad p q r fl d H bare) (AV.sl (some (5, 0)) 4 0 false) (hBuild4AF3 n s pad p q r fl d H bare)) = true then
 (if 0 + (20 + d.length) * 1 ≤ (cT n fl d).length then
 (if (2 * ([10, p, q, r].length + 4 + 4 + (20 + d.length)) + 200) * 1 ≤ 281474976710656 ∧ some 1 = some 1 ∧ [10, p, q, r].length + 4 + 4 + (20 + d.length) ≤ 70368744177664 then
 (if 0 = 0 ∧ 0 + ([10, p, q, r].length + 4 + 4) * 1 = [b8 10, b8 (p.toNat : Int), b8 (q.toNat : Int), b8 (r.toNat : Int), b8 192, b8 168, b8 0, b8 1, b8 0, b8 (intV (some (b8 6))), b8 (u8.wrap (((((20 + d.length) : Nat) : Int)).fdiv 256)), b8 (u8.wrap (((20 + d.length) : Nat) : Int))].length ∧ (0 < 20 + d.length ∨ 0 = 0) ∧ 1 = 1 ∧ (List.take ((20 + d.length) * 1) (cT n fl d)).all AV.isCell = true then
 (if cdec (Says eRSum [AV.sl (some (9, 0)) ([10, p, q, r].length + 4 + 4 + (20 + d.length)) 0 false, int u32 0] (hBuild4AF4 n s pad p q r fl d H bare) (int i64 s) (hBuild4AF5 n s pad p q r fl d H bare)) = true then
 (if (i64.wrap (65535 - s) == 0) = false then
 (if Int.ofNat 0 ≤ Int.ofNat 16 ∧ 16 < (((20 + d.length) : Nat) : Int) then
 (if Int.ofNat 0 ≤ Int.ofNat 17 ∧ 17 < (((20 + d.length) : Nat) : Int) then
 (if cdec (Says eMk4 [AV.agg (kSrc false n), AV.agg (kDst false), b8 (intV (some (b8 6))), int i64 (((20 + d.length) : Nat) : Int)] (hBuild4AF6 n s pad p q r fl d H bare) (AV.tup [AV.sl (some (13, 0)) H.length 0 false, AV.bool true]) (hBuild4AF7 n s pad p q r fl d H bare)) = true then
 (if 0 + H.length * 1 ≤ (bys H).length then
 (if (2 * (14 + H.length) + 200) * 1 ≤ 281474976710656 ∧ some 1 = some 1 ∧ 14 + H.length ≤ 70368744177664 then
 (if 0 = 0 ∧ 14 = (cE false false).length ∧ (0 < H.length ∨ 0 = 0) ∧ 1 = 1 ∧ (List.take (H.length * 1) (bys H)).all AV.isCell = true then
 (if 0 + (20 + d.length) * 1 ≤ (putCells (putCells (cT n fl d) 16 [b8 (u8.wrap ((i64.wrap (65535 - s)).fdiv 256))]) 17 [b8 (u8.wrap (i64.wrap (65535 - s)))]).length then
 (if (2 * (14 + H.length + (20 + d.length)) + 200) * 1 ≤ 281474976710656 ∧ some 1 = some 1 ∧ 14 + H.length + (20 + d.length) ≤ 70368744177664 then
 (if 0 + (14 + H.length) * 1 ≤ ((cE false false) ++ List.take (H.length * 1) (bys H)).length then
 (if 0 = 0 ∧ 0 + (14 + H.length) * 1 = ((cE false false) ++ List.take (H.length * 1) (bys H)).length ∧ (0 < 20 + d.length ∨ 0 = 0) ∧ 1 = 1 ∧ (List.take ((20 + d.length) * 1) (putCells (putCells (cT n fl d) 16 [b8 (u8.wrap ((i64.wrap (65535 - s)).fdiv 256))]) 17 [b8 (u8.wrap (i64.wrap (65535 - s)))])).all AV.isCell = true then
 (if 1 = 1 ∧ 0 ≤ pad ∧ pad ≤ 70368744177664 ∧ pad * 1 ≤ 281474976710656 then
 (if (2 * (14 + H.length + (20 + d.length) + pad.toNat) + 200) * 1 ≤ 281474976710656 ∧ some 1 = some 1 ∧ 14 + H.length + (20 + d.length) + pad.toNat ≤ 70368744177664 then
 (if 0 + (14 + H.length + (20 + d.length)) * 1 ≤ (List.take ((14 + H.length) * 1) ((cE false false) ++ List.take (H.length * 1) (bys H)) ++ List.take ((20 + d.length) * 1) (putCells (putCells (cT n fl d) 16 [b8 (u8.wrap ((i64.wrap (65535 - s)).fdiv 256))]) 17 [b8 (u8.wrap (i64.wrap (65535 - s)))])).length then
 (if 0 = 0 ∧ 0 + (14 + H.length + (20 + d.length)) * 1 = (List.take ((14 + H.length) * 1) ((cE false false) ++ List.take (H.length * 1) (bys H)) ++ List.take ((20 + d.length) * 1) (putCells (putCells (cT n fl d) 16 [b8 (u8.wrap ((i64.wrap (65535 - s)).fdiv 256))]) 17 [b8 (u8.wrap (i64.wrap (65535 - s)))])).length ∧ (0 < pad.toNat ∨ 0 = 0) ∧ 1 = 1 ∧ (zrep pad.toNat [b8 0]).all AV.isCell = true then
 K (AV.sl (some (16, 0)) (14 + H.length + (20 + d.length) + pad.toNat) 0 false) ((hBuild4AF8 n s pad p q r fl d H bare))
 else none) else none) else none) else none) else none) else none) else none) else none) else none) else none) else none) else none) else none) else none) else none) else none) else none) else none) else none) else none) else none) else none) else none) else none) else none) else none) else none) else none) := by
  kernel_rfl

noncomputable def hBuild4AT0 (n s pad : Int) (p q r fl : UInt8) (d H : List UInt8) (bare : Bool) : AHeap := (hBuild4AF0 n s pad p q r fl d H bare)
noncomputable def hBuild4AT1 (n s pad : Int) (p q r fl : UInt8) (d H : List UInt8) (bare : Bool) : AHeap := (hBuild4AF1 n s pad p q r fl d H bare)
noncomputable def hBuild4AT2 (n s pad : Int) (p q r fl : UInt8) (d H : List UInt8) (bare : Bool) : AHeap := (hBuild4AF2 n s pad p q r fl d H bare)
noncomputable def hBuild4AT3 (n s pad : Int) (p q r fl : UInt8) (d H : List UInt8) (bare : Bool) : AHeap := [cells [b8 192, b8 168, b8 0, b8 1] 1 Md.own none]
noncomputable def hBuild4AT4 (n s pad : Int) (p q r fl : UInt8) (d H : List UInt8) (bare : Bool) : AHeap := (hBuild4AF4 n s pad p q r fl d H bare)
noncomputable def hBuild4AT5 (n s pad : Int) (p q r fl : UInt8) (d H : List UInt8) (bare : Bool) : AHeap := []
noncomputable def hBuild4AT6 (n s pad : Int) (p q r fl : UInt8) (d H : List UInt8) (bare : Bool) : AHeap := (hBuild4AF8 n s pad p q r fl d H bare).take 11 ++ [cells [b8 129, b8 0, b8 0, b8 7] 1 Md.own none, cells [b8 1, b8 2, b8 3, b8 4, b8 5, b8 6, b8 7, b8 8, b8 9, b8 10, b8 11, b8 12, b8 129, b8 0, b8 0, b8 7] 1 Md.ro none, cells [b8 8, b8 0] 1 Md.own none, cells (cE false true) 1 Md.own (some 12)]
noncomputable def hBuild4AT7 (n s pad : Int) (p q r fl : UInt8) (d H : List UInt8) (bare : Bool) : AHeap := [cells (bys H) 1 Md.own none]
noncomputable def hBuild4AT8 (n s pad : Int) (p q r fl : UInt8) (d H : List UInt8) (bare : Bool) : AHeap := ((((hBuild4AT6 n s pad p q r fl d H bare).set 12 (ABlk.dead)).set 14 (ABlk.dead))) ++ [cells (bys H) 1 Md.own none, ABlk.dead, cells (List.take ((18 + H.length) * 1) ((cE false true) ++ List.take (H.length * 1) (bys H)) ++ List.take ((20 + d.length) * 1) (putCells (putCells (cT n fl d) 16 [b8 (u8.wrap ((i64.wrap (65535 - s)).fdiv 256))]) 17 [b8 (u8.wrap (i64.wrap (65535 - s)))])) 1 Md.ro none, cells (List.take ((18 + H.length + (20 + d.length)) * 1) (List.take ((18 + H.length) * 1) ((cE false true) ++ List.take (H.length * 1) (bys H)) ++ List.take ((20 + d.length) * 1) (putCells (putCells (cT n fl d) 16 [b8 (u8.wrap ((i64.wrap (65535 - s)).fdiv 256))]) 17 [b8 (u8.wrap (i64.wrap (65535 - s)))])) ++ zrep pad.toNat [b8 0]) 1 Md.own (some 17)]
theorem nfBuild4AT {R : Type} (n s pad : Int) (p q r fl : UInt8) (d H : List UInt8) (bare : Bool) (K : AV → AHeap → Option R) :
 qrun Try.prog (tBuild [10, p, q, r] [192, 168, 0, 1] H s) 100 4 [(52, .bool false), (56, .bool false), (60, .bool false), (135, .bool false)] [] 8 [.agg ([.int .u8 6] ++ kSrc false n ++ kDst false ++ [.int .u16 (kport n), .int .u16 80]), .int .u8 (fl.toNat : Int), slB 0 d, .bool true, .bool bare, .int .i64 pad] [farB d] K =
 (if adrWf (kSrc false n) = true then
 (if decide ((d.length : Int) > 2000) = false then
 (if decide (pad < 0) = false then
 (if decide (pad > 100) = false then
 (if 0 + d.length * 1 ≤ (bys d).length then
 (if (2 * (20 + d.length) + 200) * 1 ≤ 281474976710656 ∧ some 1 = some 1 ∧ 20 + d.length ≤ 70368744177664 then
 (if 0 = 0 ∧ 20 = [b8 (u8.wrap ((wk n).fdiv 256)), b8 (u8.wrap (wk n)), b8 (u8.wrap (w80.fdiv 256)), b8 (u8.wrap w80), b8 0, b8 0, b8 0, b8 0, b8 0, b8 0, b8 0, b8 0, b8 80, b8 (fl.toNat : Int), b8 0, b8 0, b8 0, b8 0, b8 0, b8 0].length ∧ (0 < d.length ∨ 0 = 0) ∧ 1 = 1 ∧ (List.take (d.length * 1) (bys d)).all AV.isCell = true then
 (if cdec (Says eBytes [AV.agg (kSrc false n)] (hBuild4AT0 n s pad p q r fl d H bare) (AV.sl (some (4, 0)) [10, p, q, r].length 0 false) (hBuild4AT1 n s pad p q r fl d H bare)) = true then
 (if cdec (Says eBytes [AV.agg (kDst false)] (hBuild4AT2 n s pad p q r fl d H bare) (AV.sl (some (5, 0)) 4 0 false) (hBuild4AT3 n s pad p q r fl d H bare)) = true then
 (if 0 + (20 + d.length) * 1 ≤ (cT n fl d).length then
 (if (2 * ([10, p, q, r].length + 4 + 4 + (20 + d.length)) + 200) * 1 ≤ 281474976710656 ∧ some 1 = some 1 ∧ [10, p, q, r].length + 4 + 4 + (20 + d.length) ≤ 70368744177664 then
 (if 0 = 0 ∧ 0 + ([10, p, q, r].length + 4 + 4) * 1 = [b8 10, b8 (p.toNat : Int), b8 (q.toNat : Int), b8 (r.toNat : Int), b8 192, b8 168, b8 0, b8 1, b8 0, b8 (intV (some (b8 6))), b8 (u8.wrap (((((20 + d.length) : Nat) : Int)).fdiv 256)), b8 (u8.wrap (((20 + d.length) : Nat) : Int))].length ∧ (0 < 20 + d.length ∨ 0 = 0) ∧ 1 = 1 ∧ (List.take ((20 + d.length) * 1) (cT n fl d)).all AV.isCell = true then
 (if cdec (Says eRSum [AV.sl (some (9, 0)) ([10, p, q, r].length + 4 + 4 + (20 + d.length)) 0 false, int u32 0] (hBuild4AT4 n s pad p q r fl d H bare) (int i64 s) (hBuild4AT5 n s pad p q r fl d H bare)) = true then
 (if (i64.wrap (65535 - s) == 0) = false then
 (if Int.ofNat 0 ≤ Int.ofNat 16 ∧ 16 < (((20 + d.length) : Nat) : Int) then
 (if Int.ofNat 0 ≤ Int.ofNat 17 ∧ 17 < (((20 + d.length) : Nat) : Int) then
 (if cdec (Says eMk4 [AV.agg (kSrc false n), AV.agg (kDst false), b8 (intV (some (b8 6))), int i64 (((20 + d.length) : Nat) : Int)] (hBuild4AT6 n s pad p q r fl d H bare) (AV.tup [AV.sl (some (15, 0)) H.length 0 false, AV.bool true]) (hBuild4AT7 n s pad p q r fl d H bare)) = true then
 (if 0 + H.length * 1 ≤ (bys H).length then
 (if (2 * (18 + H.length) + 200) * 1 ≤ 281474976710656 ∧ some 1 = some 1 ∧ 18 + H.length ≤ 70368744177664 then
 (if 0 = 0 ∧ 18 = (cE false true).length ∧ (0 < H.length ∨ 0 = 0) ∧ 1 = 1 ∧ (List.take (H.length * 1) (bys H)).all AV.isCell = true then
 (if 0 + (20 + d.length) * 1 ≤ (putCells (putCells (cT n fl d) 16 [b8 (u8.wrap ((i64.wrap (65535 - s)).fdiv 256))]) 17 [b8 (u8.wrap (i64.wrap (65535 - s)))]).length then
 (if (2 * (18 + H.length + (20 + d.length)) + 200) * 1 ≤ 281474976710656 ∧ some 1 = some 1 ∧ 18 + H.length + (20 + d.length) ≤ 70368744177664 then
 (if 0 + (18 + H.length) * 1 ≤ ((cE false true) ++ List.take (H.length * 1) (bys H)).length then
 (if 0 = 0 ∧ 0 + (18 + H.length) * 1 = ((cE false true) ++ List.take (H.length * 1) (bys H)).length ∧ (0 < 20 + d.length ∨ 0 = 0) ∧ 1 = 1 ∧ (List.take ((20 + d.length) * 1) (putCells (putCells (cT n fl d) 16 [b8 (u8.wrap ((i64.wrap (65535 - s)).fdiv 256))]) 17 [b8 (u8.wrap (i64.wrap (65535 - s)))])).all AV.isCell = true then
 (if 1 = 1 ∧ 0 ≤ pad ∧ pad ≤ 70368744177664 ∧ pad * 1 ≤ 281474976710656 then
 (if (2 * (18 + H.length + (20 + d.length) + pad.toNat) + 200) * 1 ≤ 281474976710656 ∧ some 1 = some 1 ∧ 18 + H.length + (20 + d.length) + pad.toNat ≤ 70368744177664 then
 (if 0 + (18 + H.length + (20 + d.length)) * 1 ≤ (List.take ((18 + H.length) * 1) ((cE false true) ++ List.take (H.length * 1) (bys H)) ++ List.take ((20 + d.length) * 1) (putCells (putCells (cT n fl d) 16 [b8 (u8.wrap ((i64.wrap (65535 - s)).fdiv 256))]) 17 [b8 (u8.wrap (i64.wrap (65535 - s)))])).length then
 (if 0 = 0 ∧ 0 + (18 + H.length + (20 + d.length)) * 1 = (List.take ((18 + H.length) * 1) ((cE false true) ++ List.take (H.length * 1) (bys H)) ++ List.take ((20 + d.length) * 1) (putCells (putCells (cT n fl d) 16 [b8 (u8.wrap ((i64.wrap (65535 - s)).fdiv 256))]) 17 [b8 (u8.wrap (i64.wrap (65535 - s)))])).length ∧ (0 < pad.toNat ∨ 0 = 0) ∧ 1 = 1 ∧ (zrep pad.toNat [b8 0]).all AV.isCell = true then
 K (AV.sl (some (18, 0)) (18 + H.length + (20 + d.length) + pad.toNat) 0 false) ((hBuild4AT8 n s pad p q r fl d H bare))
 else none) else none) else none) else none) else none) else none) else none) else none) else none) else none) else none) else none) else none) else none) else none) else none) else none) else none) else none) else none) else none) else none) else none) else none) else none) else none) else none) else none) := by
  kernel_rfl

noncomputable def hBuild4DF0 (n s pad : Int) (p q r fl : UInt8) (d H : List UInt8) (bare : Bool) : AHeap := (hBuild4AF0 n s pad p q r fl d H bare)
noncomputable def hBuild4DF1 (n s pad : Int) (p q r fl : UInt8) (d H : List UInt8) (bare : Bool) : AHeap := (hBuild4AF1 n s pad p q r fl d H bare)
noncomputable def hBuild4DF2 (n s pad : Int) (p q r fl : UInt8) (d H : List UInt8) (bare : Bool) : AHeap := (hBuild4AF2 n s pad p q r fl d H bare)
noncomputable def hBuild4DF3 (n s pad : Int) (p q r fl : UInt8) (d H : List UInt8) (bare : Bool) : AHeap := [cells [b8 192, b8 168, b8 0, b8 1] 1 Md.own none]
noncomputable def hBuild4DF4 (n s pad : Int) (p q r fl : UInt8) (d H : List UInt8) (bare : Bool) : AHeap := (hBuild4AF4 n s pad p q r fl d H bare)
noncomputable def hBuild4DF5 (n s pad : Int) (p q r fl : UInt8) (d H : List UInt8) (bare : Bool) : AHeap := []
noncomputable def hBuild4DF6 (n s pad : Int) (p q r fl : UInt8) (d H : List UInt8) (bare : Bool) : AHeap := (hBuild4AF6 n s pad p q r fl d H bare)
noncomputable def hBuild4DF7 (n s pad : Int) (p q r fl : UInt8) (d H : List UInt8) (bare : Bool) : AHeap := [cells (bys H) 1 Md.own none]
noncomputable def hBuild4DF8 (n s pad : Int) (p q r fl : UInt8) (d H : List UInt8) (bare : Bool) : AHeap := (hBuild4AF8 n s pad p q r fl d H bare)
theorem nfBuild4DF {R : Type} (n s pad : Int) (p q r fl : UInt8) (d H : List UInt8) (bare : Bool) (K : AV → AHeap → Option R) :
 qrun Try.prog (tBuild [10, p, q, r] [192, 168, 0, 1] H s) 100 4 [(52, .bool false), (56, .bool false), (60, .bool false), (135, .bool true)] [] 8 [.agg ([.int .u8 6] ++ kSrc false n ++ kDst false ++ [.int .u16 (kport n), .int .u16 80]), .int .u8 (fl.toNat : Int), slB 0 d, .bool false, .bool bare, .int .i64 pad] [farB d] K =
 (if adrWf (kSrc false n) = true then
 (if decide ((d.length : Int) > 2000) = false then
 (if decide (pad < 0) = false then
 (if decide (pad > 100) = false then
 (if 0 + d.length * 1 ≤ (bys d).length then
 (if (2 * (20 + d.length) + 200) * 1 ≤ 281474976710656 ∧ some 1 = some 1 ∧ 20 + d.length ≤ 70368744177664 then
 (if 0 = 0 ∧ 20 = [b8 (u8.wrap ((wk n).fdiv 256)), b8 (u8.wrap (wk n)), b8 (u8.wrap (w80.fdiv 256)), b8 (u8.wrap w80), b8 0, b8 0, b8 0, b8 0, b8 0, b8 0, b8 0, b8 0, b8 80, b8 (fl.toNat : Int), b8 0, b8 0, b8 0, b8 0, b8 0, b8 0].length ∧ (0 < d.length ∨ 0 = 0) ∧ 1 = 1 ∧ (List.take (d.length * 1) (bys d)).all AV.isCell = true then
 (if cdec (Says eBytes [AV.agg (kSrc false n)] (hBuild4DF0 n s pad p q r fl d H bare) (AV.sl (some (4, 0)) [10, p, q, r].length 0 false) (hBuild4DF1 n s pad p q r fl d H bare)) = true then
 (if cdec (Says eBytes [AV.agg (kDst false)] (hBuild4DF2 n s pad p q r fl d H bare) (AV.sl (some (5, 0)) 4 0 false) (hBuild4DF3 n s pad p q r fl d H bare)) = true then
 (if 0 + (20 + d.length) * 1 ≤ (cT n fl d).length then
 (if (2 * ([10, p, q, r].length + 4 + 4 + (20 + d.length)) + 200) * 1 ≤ 281474976710656 ∧ some 1 = some 1 ∧ [10, p, q, r].length + 4 + 4 + (20 + d.length) ≤ 70368744177664 then
 (if 0 = 0 ∧ 0 + ([10, p, q, r].length + 4 + 4) * 1 = [b8 10, b8 (p.toNat : Int), b8 (q.toNat : Int), b8 (r.toNat : Int), b8 192, b8 168, b8 0, b8 1, b8 0, b8 (intV (some (b8 6))), b8 (u8.wrap (((((20 + d.length) : Nat) : Int)).fdiv 256)), b8 (u8.wrap (((20 + d.length) : Nat) : Int))].length ∧ (0 < 20 + d.length ∨ 0 = 0) ∧ 1 = 1 ∧ (List.take ((20 + d.length) * 1) (cT n fl d)).all AV.isCell = true then
 (if cdec (Says eRSum [AV.sl (some (9, 0)) ([10, p, q, r].length + 4 + 4 + (20 + d.length)) 0 false, int u32 0] (hBuild4DF4 n s pad p q r fl d H bare) (int i64 s) (hBuild4DF5 n s pad p q r fl d H bare)) = true then
 (if (i64.wrap (65535 - s) == 0) = true then
 (if Int.ofNat 0 ≤ Int.ofNat 16 ∧ 16 < (((20 + d.length) : Nat) : Int) then
 (if Int.ofNat 0 ≤ Int.ofNat 17 ∧ 17 < (((20 + d.length) : Nat) : Int) then
 (if cdec (Says eMk4 [AV.agg (kSrc false n), AV.agg (kDst false), b8 (intV (some (b8 6))), int i64 (((20 + d.length) : Nat) : Int)] (hBuild4DF6 n s pad p q r fl d H bare) (AV.tup [AV.sl (some (13, 0)) H.length 0 false, AV.bool true]) (hBuild4DF7 n s pad p q r fl d H bare)) = true then
 (if 0 + H.length * 1 ≤ (bys H).length then
 (if (2 * (14 + H.length) + 200) * 1 ≤ 281474976710656 ∧ some 1 = some 1 ∧ 14 + H.length ≤ 70368744177664 then
 (if 0 = 0 ∧ 14 = (cE false false).length ∧ (0 < H.length ∨ 0 = 0) ∧ 1 = 1 ∧ (List.take (H.length * 1) (bys H)).all AV.isCell = true then
 (if 0 + (20 + d.length) * 1 ≤ (putCells (putCells (cT n fl d) 16 [b8 (u8.wrap ((i64.wrap (65535 - s)).fdiv 256))]) 17 [b8 (u8.wrap (i64.wrap (65535 - s)))]).length then
 (if (2 * (14 + H.length + (20 + d.length)) + 200) * 1 ≤ 281474976710656 ∧ some 1 = some 1 ∧ 14 + H.length + (20 + d.length) ≤ 70368744177664 then
 (if 0 + (14 + H.length) * 1 ≤ ((cE false false) ++ List.take (H.length * 1) (bys H)).length then
 (if 0 = 0 ∧ 0 + (14 + H.length) * 1 = ((cE false false) ++ List.take (H.length * 1) (bys H)).length ∧ (0 < 20 + d.length ∨ 0 = 0) ∧ 1 = 1 ∧ (List.take ((20 + d.length) * 1) (putCells (putCells (cT n fl d) 16 [b8 (u8.wrap ((i64.wrap (65535 - s)).fdiv 256))]) 17 [b8 (u8.wrap (i64.wrap (65535 - s)))])).all AV.isCell = true then
 (if 1 = 1 ∧ 0 ≤ pad ∧ pad ≤ 70368744177664 ∧ pad * 1 ≤ 281474976710656 then
 (if (2 * (14 + H.length + (20 + d.length) + pad.toNat) + 200) * 1 ≤ 281474976710656 ∧ some 1 = some 1 ∧ 14 + H.length + (20 + d.length) + pad.toNat ≤ 70368744177664 then
 (if 0 + (14 + H.length + (20 + d.length)) * 1 ≤ (List.take ((14 + H.length) * 1) ((cE false false) ++ List.take (H.length * 1) (bys H)) ++ List.take ((20 + d.length) * 1) (putCells (putCells (cT n fl d) 16 [b8 (u8.wrap ((i64.wrap (65535 - s)).fdiv 256))]) 17 [b8 (u8.wrap (i64.wrap (65535 - s)))])).length then
 (if 0 = 0 ∧ 0 + (14 + H.length + (20 + d.length)) * 1 = (List.take ((14 + H.length) * 1) ((cE false false) ++ List.take (H.length * 1) (bys H)) ++ List.take ((20 + d.length) * 1) (putCells (putCells (cT n fl d) 16 [b8 (u8.wrap ((i64.wrap (65535 - s)).fdiv 256))]) 17 [b8 (u8.wrap (i64.wrap (65535 - s)))])).length ∧ (0 < pad.toNat ∨ 0 = 0) ∧ 1 = 1 ∧ (zrep pad.toNat [b8 0]).all AV.isCell = true then
 K (AV.sl (some (16, 0)) (14 + H.length + (20 + d.length) + pad.toNat) 0 false) ((hBuild4DF8 n s pad p q r fl d H bare))
 else none) else none) else none) else none) else none) else none) else none) else none) else none) else none) else none) else none) else none) else none) else none) else none) else none) else none) else none) else none) else none) else none) else none) else none) else none) else none) else none) else none) := by
  kernel_rfl

noncomputable def hBuild4DT0 (n s pad : Int) (p q r fl : UInt8) (d H : List UInt8) (bare : Bool) : AHeap := (hBuild4AF0 n s pad p q r fl d H bare)
noncomputable def hBuild4DT1 (n s pad : Int) (p q r fl : UInt8) (d H : List UInt8) (bare : Bool) : AHeap := (hBuild4AF1 n s pad p q r fl d H bare)
noncomputable def hBuild4DT2 (n s pad : Int) (p q r fl : UInt8) (d H : List UInt8) (bare : Bool) : AHeap := (hBuild4AF2 n s pad p q r fl d H bare)
noncomputable def hBuild4DT3 (n s pad : Int) (p q r fl : UInt8) (d H : List UInt8) (bare : Bool) : AHeap := [cells [b8 192, b8 168, b8 0, b8 1] 1 Md.own none]
noncomputable def hBuild4DT4 (n s pad : Int) (p q r fl : UInt8) (d H : List UInt8) (bare : Bool) : AHeap := (hBuild4AF4 n s pad p q r fl d H bare)
noncomputable def hBuild4DT5 (n s pad : Int) (p q r fl : UInt8) (d H : List UInt8) (bare : Bool) : AHeap := []
noncomputable def hBuild4DT6 (n s pad : Int) (p q r fl : UInt8) (d H : List UInt8) (bare : Bool) : AHeap := (hBuild4AT6 n s pad p q r fl d H bare)
noncomputable def hBuild4DT7 (n s pad : Int) (p q r fl : UInt8) (d H : List UInt8) (bare : Bool) : AHeap := [cells (bys H) 1 Md.own none]
noncomputable def hBuild4DT8 (n s pad : Int) (p q r fl : UInt8) (d H : List UInt8) (bare : Bool) : AHeap := (hBuild4AT8 n s pad p q r fl d H bare)
theorem nfBuild4DT {R : Type} (n s pad : Int) (p q r fl : UInt8) (d H : List UInt8) (bare : Bool) (K : AV → AHeap → Option R) :
 qrun Try.prog (tBuild [10, p, q, r] [192, 168, 0, 1] H s) 100 4 [(52, .bool false), (56, .bool false), (60, .bool false), (135, .bool true)] [] 8 [.agg ([.int .u8 6] ++ kSrc false n ++ kDst false ++ [.int .u16 (kport n), .int .u16 80]), .int .u8 (fl.toNat : Int), slB 0 d, .bool true, .bool bare, .int .i64 pad] [farB d] K =
 (if adrWf (kSrc false n) = true then
 (if decide ((d.length : Int) > 2000) = false then
 (if decide (pad < 0) = false then
 (if decide (pad > 100) = false then
 (if 0 + d.length * 1 ≤ (bys d).length then
 (if (2 * (20 + d.length) + 200) * 1 ≤ 281474976710656 ∧ some 1 = some 1 ∧ 20 + d.length ≤ 70368744177664 then
 (if 0 = 0 ∧ 20 = [b8 (u8.wrap ((wk n).fdiv 256)), b8 (u8.wrap (wk n)), b8 (u8.wrap (w80.fdiv 256)), b8 (u8.wrap w80), b8 0, b8 0, b8 0, b8 0, b8 0, b8 0, b8 0, b8 0, b8 80, b8 (fl.toNat : Int), b8 0, b8 0, b8 0, b8 0, b8 0, b8 0].length ∧ (0 < d.length ∨ 0 = 0) ∧ 1 = 1 ∧ (List.take (d.length * 1) (bys d)).all AV.isCell = true then
 (if cdec (Says eBytes [AV.agg (kSrc false n)] (hBuild4DT0 n s pad p q r fl d H bare) (AV.sl (some (4, 0)) [10, p, q, r].length 0 false) (hBuild4DT1 n s pad p q r fl d H bare)) = true then
 (if cdec (Says eBytes [AV.agg (kDst false)] (hBuild4DT2 n s pad p q r fl d H bare) (AV.sl (some (5, 0)) 4 0 false) (hBuild4DT3 n s pad p q r fl d H bare)) = true then
 (if 0 + (20 + d.length) * 1 ≤ (cT n fl d).length then
 (if (2 * ([10, p, q, r].length + 4 + 4 + (20 + d.length)) + 200) * 1 ≤ 281474976710656 ∧ some 1 = some 1 ∧ [10, p, q, r].length + 4 + 4 + (20 + d.length) ≤ 70368744177664 then
 (if 0 = 0 ∧ 0 + ([10, p, q, r].length + 4 + 4) * 1 = [b8 10, b8 (p.toNat : Int), b8 (q.toNat : Int), b8 (r.toNat : Int), b8 192, b8 168, b8 0, b8 1, b8 0, b8 (intV (some (b8 6))), b8 (u8.wrap (((((20 + d.length) : Nat) : Int)).fdiv 256)), b8 (u8.wrap (((20 + d.length) : Nat) : Int))].length ∧ (0 < 20 + d.length ∨ 0 = 0) ∧ 1 = 1 ∧ (List.take ((20 + d.length) * 1) (cT n fl d)).all AV.isCell = true then
 (if cdec (Says eRSum [AV.sl (some (9, 0)) ([10, p, q, r].length + 4 + 4 + (20 + d.length)) 0 false, int u32 0] (hBuild4DT4 n s pad p q r fl d H bare) (int i64 s) (hBuild4DT5 n s pad p q r fl d H bare)) = true then
 (if (i64.wrap (65535 - s) == 0) = true then
 (if Int.ofNat 0 ≤ Int.ofNat 16 ∧ 16 < (((20 + d.length) : Nat) : Int) then
 (if Int.ofNat 0 ≤ Int.ofNat 17 ∧ 17 < (((20 + d.length) : Nat) : Int) then
 (if cdec (Says eMk4 [AV.agg (kSrc false n), AV.agg (kDst false), b8 (intV (some (b8 6))), int i64 (((20 + d.length) : Nat) : Int)] (hBuild4DT6 n s pad p q r fl d H bare) (AV.tup [AV.sl (some (15, 0)) H.length 0 false, AV.bool true]) (hBuild4DT7 n s pad p q r fl d H bare)) = true then
 (if 0 + H.length * 1 ≤ (bys H).length then
 (if (2 * (18 + H.length) + 200) * 1 ≤ 281474976710656 ∧ some 1 = some 1 ∧ 18 + H.length ≤ 70368744177664 then
 (if 0 = 0 ∧ 18 = (cE false true).length ∧ (0 < H.length ∨ 0 = 0) ∧ 1 = 1 ∧ (List.take (H.length * 1) (bys H)).all AV.isCell = true then
 (if 0 + (20 + d.length) * 1 ≤ (putCells (putCells (cT n fl d) 16 [b8 (u8.wrap ((i64.wrap (65535 - s)).fdiv 256))]) 17 [b8 (u8.wrap (i64.wrap (65535 - s)))]).length then
 (if (2 * (18 + H.length + (20 + d.length)) + 200) * 1 ≤ 281474976710656 ∧ some 1 = some 1 ∧ 18 + H.length + (20 + d.length) ≤ 70368744177664 then
 (if 0 + (18 + H.length) * 1 ≤ ((cE false true) ++ List.take (H.length * 1) (bys H)).length then
 (if 0 = 0 ∧ 0 + (18 + H.length) * 1 = ((cE false true) ++ List.take (H.length * 1) (bys H)).length ∧ (0 < 20 + d.length ∨ 0 = 0) ∧ 1 = 1 ∧ (List.take ((20 + d.length) * 1) (putCells (putCells (cT n fl d) 16 [b8 (u8.wrap ((i64.wrap (65535 - s)).fdiv 256))]) 17 [b8 (u8.wrap (i64.wrap (65535 - s)))])).all AV.isCell = true then
 (if 1 = 1 ∧ 0 ≤ pad ∧ pad ≤ 70368744177664 ∧ pad * 1 ≤ 281474976710656 then
 (if (2 * (18 + H.length + (20 + d.length) + pad.toNat) + 200) * 1 ≤ 281474976710656 ∧ some 1 = some 1 ∧ 18 + H.length + (20 + d.length) + pad.toNat ≤ 70368744177664 then
 (if 0 + (18 + H.length + (20 + d.length)) * 1 ≤ (List.take ((18 + H.length) * 1) ((cE false true) ++ List.take (H.length * 1) (bys H)) ++ List.take ((20 + d.length) * 1) (putCells (putCells (cT n fl d) 16 [b8 (u8.wrap ((i64.wrap (65535 - s)).fdiv 256))]) 17 [b8 (u8.wrap (i64.wrap (65535 - s)))])).length then
 (if 0 = 0 ∧ 0 + (18 + H.length + (20 + d.length)) * 1 = (List.take ((18 + H.length) * 1) ((cE false true) ++ List.take (H.length * 1) (bys H)) ++ List.take ((20 + d.length) * 1) (putCells (putCells (cT n fl d) 16 [b8 (u8.wrap ((i64.wrap (65535 - s)).fdiv 256))]) 17 [b8 (u8.wrap (i64.wrap (65535 - s)))])).length ∧ (0 < pad.toNat ∨ 0 = 0) ∧ 1 = 1 ∧ (zrep pad.toNat [b8 0]).all AV.isCell = true then
 K (AV.sl (some (18, 0)) (18 + H.length + (20 + d.length) + pad.toNat) 0 false) ((hBuild4DT8 n s pad p q r fl d H bare))
 else none) else none) else none) else none) else none) else none) else none) else none) else none) else none) else none) else none) else none) else none) else none) else none) else none) else none) else none) else none) else none) else none) else none) else none) else none) else none) else none) else none) := by
  kernel_rfl

noncomputable def hBuild4UF0 (n s pad : Int) (p q r fl : UInt8) (d H : List UInt8) : AHeap := [cells (bys d) 1 Md.far none, cells (keyV false true n) 37 Md.own none, cells [b8 (u8.wrap ((wk n).fdiv 256)), b8 (u8.wrap (wk n)), b8 (u8.wrap (w80.fdiv 256)), b8 (u8.wrap w80), b8 (u8.wrap ((i64.wrap (8 + (d.length : Int))).fdiv 256)), b8 (u8.wrap (i64.wrap (8 + (d.length : Int)))), b8 0, b8 0] 1 Md.ro none, cells (cU n d) 1 Md.own (some 2)]
noncomputable def hBuild4UF1 (n s pad : Int) (p q r fl : UInt8) (d H : List UInt8) : AHeap := [cells [b8 10, b8 (p.toNat : Int), b8 (q.toNat : Int), b8 (r.toNat : Int)] 1 Md.own none]
noncomputable def hBuild4UF2 (n s pad : Int) (p q r fl : UInt8) (d H : List UInt8) : AHeap := (hBuild4UF0 n s pad p q r fl d H) ++ [cells [b8 10, b8 (p.toNat : Int), b8 (q.toNat : Int), b8 (r.toNat : Int)] 1 Md.own none]
noncomputable def hBuild4UF3 (n s pad : Int) (p q r fl : UInt8) (d H : List UInt8) : AHeap := [cells [b8 192, b8 168, b8 0, b8 1] 1 Md.own none]
noncomputable def hBuild4UF4 (n s pad : Int) (p q r fl : UInt8) (d H : List UInt8) : AHeap := (hBuild4UF0 n s pad p q r fl d H) ++ [ABlk.dead, cells [b8 192, b8 168, b8 0, b8 1] 1 Md.own none, ABlk.dead, cells [b8 0, b8 (intV (some (b8 17))), b8 (u8.wrap (((((8 + d.length) : Nat) : Int)).fdiv 256)), b8 (u8.wrap (((8 + d.length) : Nat) : Int))] 1 Md.own none, cells [b8 10, b8 (p.toNat : Int), b8 (q.toNat : Int), b8 (r.toNat : Int), b8 192, b8 168, b8 0, b8 1, b8 0, b8 (intV (some (b8 17))), b8 (u8.wrap (((((8 + d.length) : Nat) : Int)).fdiv 256)), b8 (u8.wrap (((8 + d.length) : Nat) : Int))] 1 Md.ro none, cells ([b8 10, b8 (p.toNat : Int), b8 (q.toNat : Int), b8 (r.toNat : Int), b8 192, b8 168, b8 0, b8 1, b8 0, b8 (intV (some (b8 17))), b8 (u8.wrap (((((8 + d.length) : Nat) : Int)).fdiv 256)), b8 (u8.wrap (((8 + d.length) : Nat) : Int))] ++ List.take ((8 + d.length) * 1) (cU n d)) 1 Md.own (some 8)]
noncomputable def hBuild4UF5 (n s pad : Int) (p q r fl : UInt8) (d H : List UInt8) : AHeap := []
noncomputable def hBuild4UF6 (n s pad : Int) (p q r fl : UInt8) (d H : List UInt8) : AHeap := ((((hBuild4UF4 n s pad p q r fl d H).set 2 (ABlk.dead)).set 3 (cells (putCells (putCells (cU n d) 6 [b8 (u8.wrap ((i64.wrap (65535 - s)).fdiv 256))]) 7 [b8 (u8.wrap (i64.wrap (65535 - s)))]) 1 Md.own none))) ++ [cells [b8 1, b8 2, b8 3, b8 4, b8 5, b8 6, b8 7, b8 8, b8 9, b8 10, b8 11, b8 12] 1 Md.ro none, cells [b8 8, b8 0] 1 Md.own none, cells (cE false false) 1 Md.own (some 10)]
noncomputable def hBuild4UF7 (n s pad : Int) (p q r fl : UInt8) (d H : List UInt8) : AHeap := [cells (bys H) 1 Md.own none]
noncomputable def hBuild4UF8 (n s pad : Int) (p q r fl : UInt8) (d H : List UInt8) : AHeap := ((((hBuild4UF6 n s pad p q r fl d H).set 10 (ABlk.dead)).set 12 (ABlk.dead))) ++ [cells (bys H) 1 Md.own none, ABlk.dead, cells (List.take ((14 + H.length) * 1) ((cE false false) ++ List.take (H.length * 1) (bys H)) ++ List.take ((8 + d.length) * 1) (putCells (putCells (cU n d) 6 [b8 (u8.wrap ((i64.wrap (65535 - s)).fdiv 256))]) 7 [b8 (u8.wrap (i64.wrap (65535 - s)))])) 1 Md.ro none, cells (List.take ((14 + H.length + (8 + d.length)) * 1) (List.take ((14 + H.length) * 1) ((cE false false) ++ List.take (H.length * 1) (bys H)) ++ List.take ((8 + d.length) * 1) (putCells (putCells (cU n d) 6 [b8 (u8.wrap ((i64.wrap (65535 - s)).fdiv 256))]) 7 [b8 (u8.wrap (i64.wrap (65535 - s)))])) ++ zrep pad.toNat [b8 0]) 1 Md.own (some 15)]
theorem nfBuild4UF {R : Type} (n s pad : Int) (p q r fl : UInt8) (d H : List UInt8) (K : AV → AHeap → Option R) :
 qrun Try.prog (tBuild [10, p, q, r] [192, 168, 0, 1] H s) 100 4 [(52, .bool false), (56, .bool false), (60, .bool false), (135, .bool false)] [] 8 [.agg ([.int .u8 17] ++ kSrc false n ++ kDst false ++ [.int .u16 (kport n), .int .u16 80]), .int .u8 (fl.toNat : Int), slB 0 d, .bool false, .bool false, .int .i64 pad] [farB d] K =
 (if adrWf (kSrc false n) = true then
 (if decide ((d.length : Int) > 2000) = false then
 (if decide (pad < 0) = false then
 (if decide (pad > 100) = false then
 (if 0 + d.length * 1 ≤ (bys d).length then
 (if (2 * (8 + d.length) + 200) * 1 ≤ 281474976710656 ∧ some 1 = some 1 ∧ 8 + d.length ≤ 70368744177664 then
 (if 0 = 0 ∧ 8 = [b8 (u8.wrap ((wk n).fdiv 256)), b8 (u8.wrap (wk n)), b8 (u8.wrap (w80.fdiv 256)), b8 (u8.wrap w80), b8 (u8.wrap ((i64.wrap (8 + (d.length : Int))).fdiv 256)), b8 (u8.wrap (i64.wrap (8 + (d.length : Int)))), b8 0, b8 0].length ∧ (0 < d.length ∨ 0 = 0) ∧ 1 = 1 ∧ (List.take (d.length * 1) (bys d)).all AV.isCell = true then
 (if cdec (Says eBytes [AV.agg (kSrc false n)] (hBuild4UF0 n s pad p q r fl d H) (AV.sl (some (4, 0)) [10, p, q, r].length 0 false) (hBuild4UF1 n s pad p q r fl d H)) = true then
 (if cdec (Says eBytes [AV.agg (kDst false)] (hBuild4UF2 n s pad p q r fl d H) (AV.sl (some (5, 0)) 4 0 false) (hBuild4UF3 n s pad p q r fl d H)) = true then
 (if 0 + (8 + d.length) * 1 ≤ (cU n d).length then
 (if (2 * ([10, p, q, r].length + 4 + 4 + (8 + d.length)) + 200) * 1 ≤ 281474976710656 ∧ some 1 = some 1 ∧ [10, p, q, r].length + 4 + 4 + (8 + d.length) ≤ 70368744177664 then
 (if 0 = 0 ∧ 0 + ([10, p, q, r].length + 4 + 4) * 1 = [b8 10, b8 (p.toNat : Int), b8 (q.toNat : Int), b8 (r.toNat : Int), b8 192, b8 168, b8 0, b8 1, b8 0, b8 (intV (some (b8 17))), b8 (u8.wrap (((((8 + d.length) : Nat) : Int)).fdiv 256)), b8 (u8.wrap (((8 + d.length) : Nat) : Int))].length ∧ (0 < 8 + d.length ∨ 0 = 0) ∧ 1 = 1 ∧ (List.take ((8 + d.length) * 1) (cU n d)).all AV.isCell = true then
 (if cdec (Says eRSum [AV.sl (some (9, 0)) ([10, p, q, r].length + 4 + 4 + (8 + d.length)) 0 false, int u32 0] (hBuild4UF4 n s pad p q r fl d H) (int i64 s) (hBuild4UF5 n s pad p q r fl d H)) = true then
 (if (i64.wrap (65535 - s) == 0) = false then
 (if Int.ofNat 0 ≤ Int.ofNat 6 ∧ 6 < (((8 + d.length) : Nat) : Int) then
 (if Int.ofNat 0 ≤ Int.ofNat 7 ∧ 7 < (((8 + d.length) : Nat) : Int) then
 (if cdec (Says eMk4 [AV.agg (kSrc false n), AV.agg (kDst false), b8 (intV (some (b8 17))), int i64 (((8 + d.length) : Nat) : Int)] (hBuild4UF6 n s pad p q r fl d H) (AV.tup [AV.sl (some (13, 0)) H.length 0 false, AV.bool true]) (hBuild4UF7 n s pad p q r fl d H)) = true then
 (if 0 + H.length * 1 ≤ (bys H).length then
 (if (2 * (14 + H.length) + 200) * 1 ≤ 281474976710656 ∧ some 1 = some 1 ∧ 14 + H.length ≤ 70368744177664 then
 (if 0 = 0 ∧ 14 = (cE false false).length ∧ (0 < H.length ∨ 0 = 0) ∧ 1 = 1 ∧ (List.take (H.length * 1) (bys H)).all AV.isCell = true then
 (if 0 + (8 + d.length) * 1 ≤ (putCells (putCells (cU n d) 6 [b8 (u8.wrap ((i64.wrap (65535 - s)).fdiv 256))]) 7 [b8 (u8.wrap (i64.wrap (65535 - s)))]).length then
 (if (2 * (14 + H.length + (8 + d.length)) + 200) * 1 ≤ 281474976710656 ∧ some 1 = some 1 ∧ 14 + H.length + (8 + d.length) ≤ 70368744177664 then
 (if 0 + (14 + H.length) * 1 ≤ ((cE false false) ++ List.take (H.length * 1) (bys H)).length then
 (if 0 = 0 ∧ 0 + (14 + H.length) * 1 = ((cE false false) ++ List.take (H.length * 1) (bys H)).length ∧ (0 < 8 + d.length ∨ 0 = 0) ∧ 1 = 1 ∧ (List.take ((8 + d.length) * 1) (putCells (putCells (cU n d) 6 [b8 (u8.wrap ((i64.wrap (65535 - s)).fdiv 256))]) 7 [b8 (u8.wrap (i64.wrap (65535 - s)))])).all AV.isCell = true then
 (if 1 = 1 ∧ 0 ≤ pad ∧ pad ≤ 70368744177664 ∧ pad * 1 ≤ 281474976710656 then
 (if (2 * (14 + H.length + (8 + d.length) + pad.toNat) + 200) * 1 ≤ 281474976710656 ∧ some 1 = some 1 ∧ 14 + H.length + (8 + d.length) + pad.toNat ≤ 70368744177664 then
 (if 0 + (14 + H.length + (8 + d.length)) * 1 ≤ (List.take ((14 + H.length) * 1) ((cE false false) ++ List.take (H.length * 1) (bys H)) ++ List.take ((8 + d.length) * 1) (putCells (putCells (cU n d) 6 [b8 (u8.wrap ((i64.wrap (65535 - s)).fdiv 256))]) 7 [b8 (u8.wrap (i64.wrap (65535 - s)))])).length then
 (if 0 = 0 ∧ 0 + (14 + H.length + (8 + d.length)) * 1 = (List.take ((14 + H.length) * 1) ((cE false false) ++ List.take (H.length * 1) (bys H)) ++ List.take ((8 + d.length) * 1) (putCells (putCells (cU n d) 6 [b8 (u8.wrap ((i64.wrap (65535 - s)).fdiv 256))]) 7 [b8 (u8.wrap (i64.wrap (65535 - s)))])).length ∧ (0 < pad.toNat ∨ 0 = 0) ∧ 1 = 1 ∧ (zrep pad.toNat [b8 0]).all AV.isCell = true then
 K (AV.sl (some (16, 0)) (14 + H.length + (8 + d.length) + pad.toNat) 0 false) ((hBuild4UF8 n s pad p q r fl d H))
 else none) else none) else none) else none) else none) else none) else none) else none) else none) else none) else none) else none) else none) else none) else none) else none) else none) else none) else none) else none) else none) else none) else none) else none) else none) else none) else none) else none) := by
  kernel_rfl

noncomputable def hBuild4UT0 (n s pad : Int) (p q r fl : UInt8) (d H : List UInt8) : AHeap := (hBuild4UF0 n s pad p q r fl d H)
noncomputable def hBuild4UT1 (n s pad : Int) (p q r fl : UInt8) (d H : List UInt8) : AHeap := (hBuild4UF1 n s pad p q r fl d H)
noncomputable def hBuild4UT2 (n s pad : Int) (p q r fl : UInt8) (d H : List UInt8) : AHeap := (hBuild4UF2 n s pad p q r fl d H)
noncomputable def hBuild4UT3 (n s pad : Int) (p q r fl : UInt8) (d H : List UInt8) : AHeap := [cells [b8 192, b8 168, b8 0, b8 1] 1 Md.own none]
noncomputable def hBuild4UT4 (n s pad : Int) (p q r fl : UInt8) (d H : List UInt8) : AHeap := (hBuild4UF4 n s pad p q r fl d H)
noncomputable def hBuild4UT5 (n s pad : Int) (p q r fl : UInt8) (d H : List UInt8) : AHeap := []
noncomputable def hBuild4UT6 (n s pad : Int) (p q r fl : UInt8) (d H : List UInt8) : AHeap := (hBuild4UF8 n s pad p q r fl d H).take 11 ++ [cells [b8 129, b8 0, b8 0, b8 7] 1 Md.own none, cells [b8 1, b8 2, b8 3, b8 4, b8 5, b8 6, b8 7, b8 8, b8 9, b8 10, b8 11, b8 12, b8 129, b8 0, b8 0, b8 7] 1 Md.ro none, cells [b8 8, b8 0] 1 Md.own none, cells (cE false true) 1 Md.own (some 12)]
noncomputable def hBuild4UT7 (n s pad : Int) (p q r fl : UInt8) (d H : List UInt8) : AHeap := [cells (bys H) 1 Md.own none]
noncomputable def hBuild4UT8 (n s pad : Int) (p q r fl : UInt8) (d H : List UInt8) : AHeap := ((((hBuild4UT6 n s pad p q r fl d H).set 12 (ABlk.dead)).set 14 (ABlk.dead))) ++ [cells (bys H) 1 Md.own none, ABlk.dead, cells (List.take ((18 + H.length) * 1) ((cE false true) ++ List.take (H.length * 1) (bys H)) ++ List.take ((8 + d.length) * 1) (putCells (putCells (cU n d) 6 [b8 (u8.wrap ((i64.wrap (65535 - s)).fdiv 256))]) 7 [b8 (u8.wrap (i64.wrap (65535 - s)))])) 1 Md.ro none, cells (List.take ((18 + H.length + (8 + d.length)) * 1) (List.take ((18 + H.length) * 1) ((cE false true) ++ List.take (H.length * 1) (bys H)) ++ List.take ((8 + d.length) * 1) (putCells (putCells (cU n d) 6 [b8 (u8.wrap ((i64.wrap (65535 - s)).fdiv 256))]) 7 [b8 (u8.wrap (i64.wrap (65535 - s)))])) ++ zrep pad.toNat [b8 0]) 1 Md.own (some 17)]
theorem nfBuild4UT {R : Type} (n s pad : Int) (p q r fl : UInt8) (d H : List UInt8) (K : AV → AHeap → Option R) :
 qrun Try.prog (tBuild [10, p, q, r] [192, 168, 0, 1] H s) 100 4 [(52, .bool false), (56, .bool false), (60, .bool false), (135, .bool false)] [] 8 [.agg ([.int .u8 17] ++ kSrc false n ++ kDst false ++ [.int .u16 (kport n), .int .u16 80]), .int .u8 (fl.toNat : Int), slB 0 d, .bool true, .bool false, .int .i64 pad] [farB d] K =
 (if adrWf (kSrc false n) = true then
 (if decide ((d.length : Int) > 2000) = false then
 (if decide (pad < 0) = false then
 (if decide (pad > 100) = false then
 (if 0 + d.length * 1 ≤ (bys d).length then
 (if (2 * (8 + d.length) + 200) * 1 ≤ 281474976710656 ∧ some 1 = some 1 ∧ 8 + d.length ≤ 70368744177664 then
 (if 0 = 0 ∧ 8 = [b8 (u8.wrap ((wk n).fdiv 256)), b8 (u8.wrap (wk n)), b8 (u8.wrap (w80.fdiv 256)), b8 (u8.wrap w80), b8 (u8.wrap ((i64.wrap (8 + (d.length : Int))).fdiv 256)), b8 (u8.wrap (i64.wrap (8 + (d.length : Int)))), b8 0, b8 0].length ∧ (0 < d.length ∨ 0 = 0) ∧ 1 = 1 ∧ (List.take (d.length * 1) (bys d)).all AV.isCell = true then
 (if cdec (Says eBytes [AV.agg (kSrc false n)] (hBuild4UT0 n s pad p q r fl d H) (AV.sl (some (4, 0)) [10, p, q, r].length 0 false) (hBuild4UT1 n s pad p q r fl d H)) = true then
 (if cdec (Says eBytes [AV.agg (kDst false)] (hBuild4UT2 n s pad p q r fl d H) (AV.sl (some (5, 0)) 4 0 false) (hBuild4UT3 n s pad p q r fl d H)) = true then
 (if 0 + (8 + d.length) * 1 ≤ (cU n d).length then
 (if (2 * ([10, p, q, r].length + 4 + 4 + (8 + d.length)) + 200) * 1 ≤ 281474976710656 ∧ some 1 = some 1 ∧ [10, p, q, r].length + 4 + 4 + (8 + d.length) ≤ 70368744177664 then
 (if 0 = 0 ∧ 0 + ([10, p, q, r].length + 4 + 4) * 1 = [b8 10, b8 (p.toNat : Int), b8 (q.toNat : Int), b8 (r.toNat : Int), b8 192, b8 168, b8 0, b8 1, b8 0, b8 (intV (some (b8 17))), b8 (u8.wrap (((((8 + d.length) : Nat) : Int)).fdiv 256)), b8 (u8.wrap (((8 + d.length) : Nat) : Int))].length ∧ (0 < 8 + d.length ∨ 0 = 0) ∧ 1 = 1 ∧ (List.take ((8 + d.length) * 1) (cU n d)).all AV.isCell = true then
 (if cdec (Says eRSum [AV.sl (some (9, 0)) ([10, p, q, r].length + 4 + 4 + (8 + d.length)) 0 false, int u32 0] (hBuild4UT4 n s pad p q r fl d H) (int i64 s) (hBuild4UT5 n s pad p q r fl d H)) = true then
 (if (i64.wrap (65535 - s) == 0) = false then
 (if Int.ofNat 0 ≤ Int.ofNat 6 ∧ 6 < (((8 + d.length) : Nat) : Int) then
 (if Int.ofNat 0 ≤ Int.ofNat 7 ∧ 7 < (((8 + d.length) : Nat) : Int) then
 (if cdec (Says eMk4 [AV.agg (kSrc false n), AV.agg (kDst false), b8 (intV (some (b8 17))), int i64 (((8 + d.length) : Nat) : Int)] (hBuild4UT6 n s pad p q r fl d H) (AV.tup [AV.sl (some (15, 0)) H.length 0 false, AV.bool true]) (hBuild4UT7 n s pad p q r fl d H)) = true then
 (if 0 + H.length * 1 ≤ (bys H).length then
 (if (2 * (18 + H.length) + 200) * 1 ≤ 281474976710656 ∧ some 1 = some 1 ∧ 18 + H.length ≤ 70368744177664 then
 (if 0 = 0 ∧ 18 = (cE false true).length ∧ (0 < H.length ∨ 0 = 0) ∧ 1 = 1 ∧ (List.take (H.length * 1) (bys H)).all AV.isCell = true then
 (if 0 + (8 + d.length) * 1 ≤ (putCells (putCells (cU n d) 6 [b8 (u8.wrap ((i64.wrap (65535 - s)).fdiv 256))]) 7 [b8 (u8.wrap (i64.wrap (65535 - s)))]).length then
 (if (2 * (18 + H.length + (8 + d.length)) + 200) * 1 ≤ 281474976710656 ∧ some 1 = some 1 ∧ 18 + H.length + (8 + d.length) ≤ 70368744177664 then
 (if 0 + (18 + H.length) * 1 ≤ ((cE false true) ++ List.take (H.length * 1) (bys H)).length then
 (if 0 = 0 ∧ 0 + (18 + H.length) * 1 = ((cE false true) ++ List.take (H.length * 1) (bys H)).length ∧ (0 < 8 + d.length ∨ 0 = 0) ∧ 1 = 1 ∧ (List.take ((8 + d.length) * 1) (putCells (putCells (cU n d) 6 [b8 (u8.wrap ((i64.wrap (65535 - s)).fdiv 256))]) 7 [b8 (u8.wrap (i64.wrap (65535 - s)))])).all AV.isCell = true then
 (if 1 = 1 ∧ 0 ≤ pad ∧ pad ≤ 70368744177664 ∧ pad * 1 ≤ 281474976710656 then
 (if (2 * (18 + H.length + (8 + d.length) + pad.toNat) + 200) * 1 ≤ 281474976710656 ∧ some 1 = some 1 ∧ 18 + H.length + (8 + d.length) + pad.toNat ≤ 70368744177664 then
 (if 0 + (18 + H.length + (8 + d.length)) * 1 ≤ (List.take ((18 + H.length) * 1) ((cE false true) ++ List.take (H.length * 1) (bys H)) ++ List.take ((8 + d.length) * 1) (putCells (putCells (cU n d) 6 [b8 (u8.wrap ((i64.wrap (65535 - s)).fdiv 256))]) 7 [b8 (u8.wrap (i64.wrap (65535 - s)))])).length then
 (if 0 = 0 ∧ 0 + (18 + H.length + (8 + d.length)) * 1 = (List.take ((18 + H.length) * 1) ((cE false true) ++ List.take (H.length * 1) (bys H)) ++ List.take ((8 + d.length) * 1) (putCells (putCells (cU n d) 6 [b8 (u8.wrap ((i64.wrap (65535 - s)).fdiv 256))]) 7 [b8 (u8.wrap (i64.wrap (65535 - s)))])).length ∧ (0 < pad.toNat ∨ 0 = 0) ∧ 1 = 1 ∧ (zrep pad.toNat [b8 0]).all AV.isCell = true then
 K (AV.sl (some (18, 0)) (18 + H.length + (8 + d.length) + pad.toNat) 0 false) ((hBuild4UT8 n s pad p q r fl d H))
 else none) else none) else none) else none) else none) else none) else none) else none) else none) else none) else none) else none) else none) else none) else none) else none) else none) else none) else none) else none) else none) else none) else none) else none) else none) else none) else none) else none) := by
  kernel_rfl

noncomputable def hBuild4ZF0 (n s pad : Int) (p q r fl : UInt8) (d H : List UInt8) : AHeap := (hBuild4UF0 n s pad p q r fl d H)
noncomputable def hBuild4ZF1 (n s pad : Int) (p q r fl : UInt8) (d H : List UInt8) : AHeap := (hBuild4UF1 n s pad p q r fl d H)
noncomputable def hBuild4ZF2 (n s pad : Int) (p q r fl : UInt8) (d H : List UInt8) : AHeap := (hBuild4UF2 n s pad p q r fl d H)
noncomputable def hBuild4ZF3 (n s pad : Int) (p q r fl : UInt8) (d H : List UInt8) : AHeap := [cells [b8 192, b8 168, b8 0, b8 1] 1 Md.own none]
noncomputable def hBuild4ZF4 (n s pad : Int) (p q r fl : UInt8) (d H : List UInt8) : AHeap := (hBuild4UF4 n s pad p q r fl d H)
noncomputable def hBuild4ZF5 (n s pad : Int) (p q r fl : UInt8) (d H : List UInt8) : AHeap := []
noncomputable def hBuild4ZF6 (n s pad : Int) (p q r fl : UInt8) (d H : List UInt8) : AHeap := ((hBuild4UF6 n s pad p q r fl d H).set 3 (cells (putCells (putCells (cU n d) 6 [b8 255]) 7 [b8 255]) 1 Md.own none))
noncomputable def hBuild4ZF7 (n s pad : Int) (p q r fl : UInt8) (d H : List UInt8) : AHeap := [cells (bys H) 1 Md.own none]
noncomputable def hBuild4ZF8 (n s pad : Int) (p q r fl : UInt8) (d H : List UInt8) : AHeap := ((((hBuild4ZF6 n s pad p q r fl d H).set 10 (ABlk.dead)).set 12 (ABlk.dead))) ++ [cells (bys H) 1 Md.own none, ABlk.dead, cells (List.take ((14 + H.length) * 1) ((cE false false) ++ List.take (H.length * 1) (bys H)) ++ List.take ((8 + d.length) * 1) (putCells (putCells (cU n d) 6 [b8 255]) 7 [b8 255])) 1 Md.ro none, cells (List.take ((14 + H.length + (8 + d.length)) * 1) (List.take ((14 + H.length) * 1) ((cE false false) ++ List.take (H.length * 1) (bys H)) ++ List.take ((8 + d.length) * 1) (putCells (putCells (cU n d) 6 [b8 255]) 7 [b8 255])) ++ zrep pad.toNat [b8 0]) 1 Md.own (some 15)]
theorem nfBuild4ZF {R : Type} (n s pad : Int) (p q r fl : UInt8) (d H : List UInt8) (K : AV → AHeap → Option R) :
 qrun Try.prog (tBuild [10, p, q, r] [192, 168, 0, 1] H s) 100 4 [(52, .bool false), (56, .bool false), (60, .bool false), (135, .bool true)] [] 8 [.agg ([.int .u8 17] ++ kSrc false n ++ kDst false ++ [.int .u16 (kport n), .int .u16 80]), .int .u8 (fl.toNat : Int), slB 0 d, .bool false, .bool false, .int .i64 pad] [farB d] K =
 (if adrWf (kSrc false n) = true then
 (if decide ((d.length : Int) > 2000) = false then
 (if decide (pad < 0) = false then
 (if decide (pad > 100) = false then
 (if 0 + d.length * 1 ≤ (bys d).length then
 (if (2 * (8 + d.length) + 200) * 1 ≤ 281474976710656 ∧ some 1 = some 1 ∧ 8 + d.length ≤ 70368744177664 then
 (if 0 = 0 ∧ 8 = [b8 (u8.wrap ((wk n).fdiv 256)), b8 (u8.wrap (wk n)), b8 (u8.wrap (w80.fdiv 256)), b8 (u8.wrap w80), b8 (u8.wrap ((i64.wrap (8 + (d.length : Int))).fdiv 256)), b8 (u8.wrap (i64.wrap (8 + (d.length : Int)))), b8 0, b8 0].length ∧ (0 < d.length ∨ 0 = 0) ∧ 1 = 1 ∧ (List.take (d.length * 1) (bys d)).all AV.isCell = true then
 (if cdec (Says eBytes [AV.agg (kSrc false n)] (hBuild4ZF0 n s pad p q r fl d H) (AV.sl (some (4, 0)) [10, p, q, r].length 0 false) (hBuild4ZF1 n s pad p q r fl d H)) = true then
 (if cdec (Says eBytes [AV.agg (kDst false)] (hBuild4ZF2 n s pad p q r fl d H) (AV.sl (some (5, 0)) 4 0 false) (hBuild4ZF3 n s pad p q r fl d H)) = true then
 (if 0 + (8 + d.length) * 1 ≤ (cU n d).length then
 (if (2 * ([10, p, q, r].length + 4 + 4 + (8 + d.length)) + 200) * 1 ≤ 281474976710656 ∧ some 1 = some 1 ∧ [10, p, q, r].length + 4 + 4 + (8 + d.length) ≤ 70368744177664 then
 (if 0 = 0 ∧ 0 + ([10, p, q, r].length + 4 + 4) * 1 = [b8 10, b8 (p.toNat : Int), b8 (q.toNat : Int), b8 (r.toNat : Int), b8 192, b8 168, b8 0, b8 1, b8 0, b8 (intV (some (b8 17))), b8 (u8.wrap (((((8 + d.length) : Nat) : Int)).fdiv 256)), b8 (u8.wrap (((8 + d.length) : Nat) : Int))].length ∧ (0 < 8 + d.length ∨ 0 = 0) ∧ 1 = 1 ∧ (List.take ((8 + d.length) * 1) (cU n d)).all AV.isCell = true then
 (if cdec (Says eRSum [AV.sl (some (9, 0)) ([10, p, q, r].length + 4 + 4 + (8 + d.length)) 0 false, int u32 0] (hBuild4ZF4 n s pad p q r fl d H) (int i64 s) (hBuild4ZF5 n s pad p q r fl d H)) = true then
 (if (i64.wrap (65535 - s) == 0) = true then
 (if Int.ofNat 0 ≤ Int.ofNat 6 ∧ 6 < (((8 + d.length) : Nat) : Int) then
 (if Int.ofNat 0 ≤ Int.ofNat 7 ∧ 7 < (((8 + d.length) : Nat) : Int) then
 (if cdec (Says eMk4 [AV.agg (kSrc false n), AV.agg (kDst false), b8 (intV (some (b8 17))), int i64 (((8 + d.length) : Nat) : Int)] (hBuild4ZF6 n s pad p q r fl d H) (AV.tup [AV.sl (some (13, 0)) H.length 0 false, AV.bool true]) (hBuild4ZF7 n s pad p q r fl d H)) = true then
 (if 0 + H.length * 1 ≤ (bys H).length then
 (if (2 * (14 + H.length) + 200) * 1 ≤ 281474976710656 ∧ some 1 = some 1 ∧ 14 + H.length ≤ 70368744177664 then
 (if 0 = 0 ∧ 14 = (cE false false).length ∧ (0 < H.length ∨ 0 = 0) ∧ 1 = 1 ∧ (List.take (H.length * 1) (bys H)).all AV.isCell = true then
 (if 0 + (8 + d.length) * 1 ≤ (putCells (putCells (cU n d) 6 [b8 255]) 7 [b8 255]).length then
 (if (2 * (14 + H.length + (8 + d.length)) + 200) * 1 ≤ 281474976710656 ∧ some 1 = some 1 ∧ 14 + H.length + (8 + d.length) ≤ 70368744177664 then
 (if 0 + (14 + H.length) * 1 ≤ ((cE false false) ++ List.take (H.length * 1) (bys H)).length then
 (if 0 = 0 ∧ 0 + (14 + H.length) * 1 = ((cE false false) ++ List.take (H.length * 1) (bys H)).length ∧ (0 < 8 + d.length ∨ 0 = 0) ∧ 1 = 1 ∧ (List.take ((8 + d.length) * 1) (putCells (putCells (cU n d) 6 [b8 255]) 7 [b8 255])).all AV.isCell = true then
 (if 1 = 1 ∧ 0 ≤ pad ∧ pad ≤ 70368744177664 ∧ pad * 1 ≤ 281474976710656 then
 (if (2 * (14 + H.length + (8 + d.length) + pad.toNat) + 200) * 1 ≤ 281474976710656 ∧ some 1 = some 1 ∧ 14 + H.length + (8 + d.length) + pad.toNat ≤ 70368744177664 then
 (if 0 + (14 + H.length + (8 + d.length)) * 1 ≤ (List.take ((14 + H.length) * 1) ((cE false false) ++ List.take (H.length * 1) (bys H)) ++ List.take ((8 + d.length) * 1) (putCells (putCells (cU n d) 6 [b8 255]) 7 [b8 255])).length then
 (if 0 = 0 ∧ 0 + (14 + H.length + (8 + d.length)) * 1 = (List.take ((14 + H.length) * 1) ((cE false false) ++ List.take (H.length * 1) (bys H)) ++ List.take ((8 + d.length) * 1) (putCells (putCells (cU n d) 6 [b8 255]) 7 [b8 255])).length ∧ (0 < pad.toNat ∨ 0 = 0) ∧ 1 = 1 ∧ (zrep pad.toNat [b8 0]).all AV.isCell = true then
 K (AV.sl (some (16, 0)) (14 + H.length + (8 + d.length) + pad.toNat) 0 false) ((hBuild4ZF8 n s pad p q r fl d H))
 else none) else none) else none) else none) else none) else none) else none) else none) else none) else none) else none) else none) else none) else none) else none) else none) else none) else none) else none) else none) else none) else none) else none) else none) else none) else none) else none) else none) := by
  kernel_rfl

noncomputable def hBuild4ZT0 (n s pad : Int) (p q r fl : UInt8) (d H : List UInt8) : AHeap := (hBuild4UF0 n s pad p q r fl d H)
noncomputable def hBuild4ZT1 (n s pad : Int) (p q r fl : UInt8) (d H : List UInt8) : AHeap := (hBuild4UF1 n s pad p q r fl d H)
noncomputable def hBuild4ZT2 (n s pad : Int) (p q r fl : UInt8) (d H : List UInt8) : AHeap := (hBuild4UF2 n s pad p q r fl d H)
noncomputable def hBuild4ZT3 (n s pad : Int) (p q r fl : UInt8) (d H : List UInt8) : AHeap := [cells [b8 192, b8 168, b8 0, b8 1] 1 Md.own none]
noncomputable def hBuild4ZT4 (n s pad : Int) (p q r fl : UInt8) (d H : List UInt8) : AHeap := (hBuild4UF4 n s pad p q r fl d H)
noncomputable def hBuild4ZT5 (n s pad : Int) (p q r fl : UInt8) (d H : List UInt8) : AHeap := []
noncomputable def hBuild4ZT6 (n s pad : Int) (p q r fl : UInt8) (d H : List UInt8) : AHeap := ((hBuild4UT6 n s pad p q r fl d H).set 3 (cells (putCells (putCells (cU n d) 6 [b8 255]) 7 [b8 255]) 1 Md.own none))
noncomputable def hBuild4ZT7 (n s pad : Int) (p q r fl : UInt8) (d H : List UInt8) : AHeap := [cells (bys H) 1 Md.own none]
noncomputable def hBuild4ZT8 (n s pad : Int) (p q r fl : UInt8) (d H : List UInt8) : AHeap := ((((hBuild4ZT6 n s pad p q r fl d H).set 12 (ABlk.dead)).set 14 (ABlk.dead))) ++ [cells (bys H) 1 Md.own none, ABlk.dead, cells (List.take ((18 + H.length) * 1) ((cE false true) ++ List.take (H.length * 1) (bys H)) ++ List.take ((8 + d.length) * 1) (putCells (putCells (cU n d) 6 [b8 255]) 7 [b8 255])) 1 Md.ro none, cells (List.take ((18 + H.length + (8 + d.length)) * 1) (List.take ((18 + H.length) * 1) ((cE false true) ++ List.take (H.length * 1) (bys H)) ++ List.take ((8 + d.length) * 1) (putCells (putCells (cU n d) 6 [b8 255]) 7 [b8 255])) ++ zrep pad.toNat [b8 0]) 1 Md.own (some 17)]
theorem nfBuild4ZT {R : Type} (n s pad : Int) (p q r fl : UInt8) (d H : List UInt8) (K : AV → AHeap → Option R) :
 qrun Try.prog (tBuild [10, p, q, r] [192, 168, 0, 1] H s) 100 4 [(52, .bool false), (56, .bool false), (60, .bool false), (135, .bool true)] [] 8 [.agg ([.int .u8 17] ++ kSrc false n ++ kDst false ++ [.int .u16 (kport n), .int .u16 80]), .int .u8 (fl.toNat : Int), slB 0 d, .bool true, .bool false, .int .i64 pad] [farB d] K =
 (if adrWf (kSrc false n) = true then
 (if decide ((d.length : Int) > 2000) = false then
 (if decide (pad < 0) = false then
 (if decide (pad > 100) = false then
 (if 0 + d.length * 1 ≤ (bys d).length then
 (if (2 * (8 + d.length) + 200) * 1 ≤ 281474976710656 ∧ some 1 = some 1 ∧ 8 + d.length ≤ 70368744177664 then
 (if 0 = 0 ∧ 8 = [b8 (u8.wrap ((wk n).fdiv 256)), b8 (u8.wrap (wk n)), b8 (u8.wrap (w80.fdiv 256)), b8 (u8.wrap w80), b8 (u8.wrap ((i64.wrap (8 + (d.length : Int))).fdiv 256)), b8 (u8.wrap (i64.wrap (8 + (d.length : Int)))), b8 0, b8 0].length ∧ (0 < d.length ∨ 0 = 0) ∧ 1 = 1 ∧ (List.take (d.length * 1) (bys d)).all AV.isCell = true then
 (if cdec (Says eBytes [AV.agg (kSrc false n)] (hBuild4ZT0 n s pad p q r fl d H) (AV.sl (some (4, 0)) [10, p, q, r].length 0 false) (hBuild4ZT1 n s pad p q r fl d H)) = true then
 (if cdec (Says eBytes [AV.agg (kDst false)] (hBuild4ZT2 n s pad p q r fl d H) (AV.sl (some (5, 0)) 4 0 false) (hBuild4ZT3 n s pad p q r fl d H)) = true then
 (if 0 + (8 + d.length) * 1 ≤ (cU n d).length then
 (if (2 * ([10, p, q, r].length + 4 + 4 + (8 + d.length)) + 200) * 1 ≤ 281474976710656 ∧ some 1 = some 1 ∧ [10, p, q, r].length + 4 + 4 + (8 + d.length) ≤ 70368744177664 then
 (if 0 = 0 ∧ 0 + ([10, p, q, r].length + 4 + 4) * 1 = [b8 10, b8 (p.toNat : Int), b8 (q.toNat : Int), b8 (r.toNat : Int), b8 192, b8 168, b8 0, b8 1, b8 0, b8 (intV (some (b8 17))), b8 (u8.wrap (((((8 + d.length) : Nat) : Int)).fdiv 256)), b8 (u8.wrap (((8 + d.length) : Nat) : Int))].length ∧ (0 < 8 + d.length ∨ 0 = 0) ∧ 1 = 1 ∧ (List.take ((8 + d.length) * 1) (cU n d)).all AV.isCell = true then
 (if cdec (Says eRSum [AV.sl (some (9, 0)) ([10, p, q, r].length + 4 + 4 + (8 + d.length)) 0 false, int u32 0] (hBuild4ZT4 n s pad p q r fl d H) (int i64 s) (hBuild4ZT5 n s pad p q r fl d H)) = true then
 (if (i64.wrap (65535 - s) == 0) = true then
 (if Int.ofNat 0 ≤ Int.ofNat 6 ∧ 6 < (((8 + d.length) : Nat) : Int) then
 (if Int.ofNat 0 ≤ Int.ofNat 7 ∧ 7 < (((8 + d.length) : Nat) : Int) then
 (if cdec (Says eMk4 [AV.agg (kSrc false n), AV.agg (kDst false), b8 (intV (some (b8 17))), int i64 (((8 + d.length) : Nat) : Int)] (hBuild4ZT6 n s pad p q r fl d H) (AV.tup [AV.sl (some (15, 0)) H.length 0 false, AV.bool true]) (hBuild4ZT7 n s pad p q r fl d H)) = true then
 (if 0 + H.length * 1 ≤ (bys H).length then
 (if (2 * (18 + H.length) + 200) * 1 ≤ 281474976710656 ∧ some 1 = some 1 ∧ 18 + H.length ≤ 70368744177664 then
 (if 0 = 0 ∧ 18 = (cE false true).length ∧ (0 < H.length ∨ 0 = 0) ∧ 1 = 1 ∧ (List.take (H.length * 1) (bys H)).all AV.isCell = true then
 (if 0 + (8 + d.length) * 1 ≤ (putCells (putCells (cU n d) 6 [b8 255]) 7 [b8 255]).length then
 (if (2 * (18 + H.length + (8 + d.length)) + 200) * 1 ≤ 281474976710656 ∧ some 1 = some 1 ∧ 18 + H.length + (8 + d.length) ≤ 70368744177664 then
 (if 0 + (18 + H.length) * 1 ≤ ((cE false true) ++ List.take (H.length * 1) (bys H)).length then
 (if 0 = 0 ∧ 0 + (18 + H.length) * 1 = ((cE false true) ++ List.take (H.length * 1) (bys H)).length ∧ (0 < 8 + d.length ∨ 0 = 0) ∧ 1 = 1 ∧ (List.take ((8 + d.length) * 1) (putCells (putCells (cU n d) 6 [b8 255]) 7 [b8 255])).all AV.isCell = true then
 (if 1 = 1 ∧ 0 ≤ pad ∧ pad ≤ 70368744177664 ∧ pad * 1 ≤ 281474976710656 then
 (if (2 * (18 + H.length + (8 + d.length) + pad.toNat) + 200) * 1 ≤ 281474976710656 ∧ some 1 = some 1 ∧ 18 + H.length + (8 + d.length) + pad.toNat ≤ 70368744177664 then
 (if 0 + (18 + H.length + (8 + d.length)) * 1 ≤ (List.take ((18 + H.length) * 1) ((cE false true) ++ List.take (H.length * 1) (bys H)) ++ List.take ((8 + d.length) * 1) (putCells (putCells (cU n d) 6 [b8 255]) 7 [b8 255])).length then
 (if 0 = 0 ∧ 0 + (18 + H.length + (8 + d.length)) * 1 = (List.take ((18 + H.length) * 1) ((cE false true) ++ List.take (H.length * 1) (bys H)) ++ List.take ((8 + d.length) * 1) (putCells (putCells (cU n d) 6 [b8 255]) 7 [b8 255])).length ∧ (0 < pad.toNat ∨ 0 = 0) ∧ 1 = 1 ∧ (zrep pad.toNat [b8 0]).all AV.isCell = true then
 K (AV.sl (some (18, 0)) (18 + H.length + (8 + d.length) + pad.toNat) 0 false) ((hBuild4ZT8 n s pad p q r fl d H))
 else none) else none) else none) else none) else none) else none) else none) else none) else none) else none) else none) else none) else none) else none) else none) else none) else none) else none) else none) else none) else none) else none) else none) else none) else none) else none) else none) else none) := by
  kernel_rfl

noncomputable def hBuild4BF0 (n s pad : Int) (p q r fl : UInt8) (d H : List UInt8) : AHeap := (hBuild4UF0 n s pad p q r fl d H)
noncomputable def hBuild4BF1 (n s pad : Int) (p q r fl : UInt8) (d H : List UInt8) : AHeap := (hBuild4UF1 n s pad p q r fl d H)
noncomputable def hBuild4BF2 (n s pad : Int) (p q r fl : UInt8) (d H : List UInt8) : AHeap := (hBuild4UF2 n s pad p q r fl d H)
noncomputable def hBuild4BF3 (n s pad : Int) (p q r fl : UInt8) (d H : List UInt8) : AHeap := [cells [b8 192, b8 168, b8 0, b8 1] 1 Md.own none]
noncomputable def hBuild4BF4 (n s pad : Int) (p q r fl : UInt8) (d H : List UInt8) : AHeap := (((((hBuild4UF4 n s pad p q r fl d H).set 6 (cells [b8 10, b8 (p.toNat : Int), b8 (q.toNat : Int), b8 (r.toNat : Int), b8 192, b8 168, b8 0, b8 1] 1 Md.ro none)).set 8 (cells [b8 10, b8 (p.toNat : Int), b8 (q.toNat : Int), b8 (r.toNat : Int), b8 192, b8 168, b8 0, b8 1, b8 0, b8 (intV (some (b8 17))), b8 (u8.wrap (((((8 + d.length) : Nat) : Int)).fdiv 256)), b8 (u8.wrap (((8 + d.length) : Nat) : Int))] 1 Md.own (some 6))).set 9 (cells [b8 1, b8 2, b8 3, b8 4, b8 5, b8 6, b8 7, b8 8, b8 9, b8 10, b8 11, b8 12] 1 Md.ro none))) ++ [cells [b8 8, b8 0] 1 Md.own none, cells (cE false false) 1 Md.own (some 9)]
noncomputable def hBuild4BF5 (n s pad : Int) (p q r fl : UInt8) (d H : List UInt8) : AHeap := [cells (bys H) 1 Md.own none]
noncomputable def hBuild4BF6 (n s pad : Int) (p q r fl : UInt8) (d H : List UInt8) : AHeap := ((((hBuild4BF4 n s pad p q r fl d H).set 9 (ABlk.dead)).set 11 (ABlk.dead))) ++ [cells (bys H) 1 Md.own none, ABlk.dead, cells (List.take ((14 + H.length) * 1) ((cE false false) ++ List.take (H.length * 1) (bys H)) ++ List.take ((8 + d.length) * 1) (cU n d)) 1 Md.ro none, cells (List.take ((14 + H.length + (8 + d.length)) * 1) (List.take ((14 + H.length) * 1) ((cE false false) ++ List.take (H.length * 1) (bys H)) ++ List.take ((8 + d.length) * 1) (cU n d)) ++ zrep pad.toNat [b8 0]) 1 Md.own (some 14)]
theorem nfBuild4BF {R : Type} (n s pad : Int) (p q r fl : UInt8) (d H : List UInt8) (K : AV → AHeap → Option R) :
 qrun Try.prog (tBuild [10, p, q, r] [192, 168, 0, 1] H s) 100 4 [(52, .bool false), (56, .bool false), (60, .bool false)] [] 8 [.agg ([.int .u8 17] ++ kSrc false n ++ kDst false ++ [.int .u16 (kport n), .int .u16 80]), .int .u8 (fl.toNat : Int), slB 0 d, .bool false, .bool true, .int .i64 pad] [farB d] K =
 (if adrWf (kSrc false n) = true then
 (if decide ((d.length : Int) > 2000) = false then
 (if decide (pad < 0) = false then
 (if decide (pad > 100) = false then
 (if 0 + d.length * 1 ≤ (bys d).length then
 (if (2 * (8 + d.length) + 200) * 1 ≤ 281474976710656 ∧ some 1 = some 1 ∧ 8 + d.length ≤ 70368744177664 then
 (if 0 = 0 ∧ 8 = [b8 (u8.wrap ((wk n).fdiv 256)), b8 (u8.wrap (wk n)), b8 (u8.wrap (w80.fdiv 256)), b8 (u8.wrap w80), b8 (u8.wrap ((i64.wrap (8 + (d.length : Int))).fdiv 256)), b8 (u8.wrap (i64.wrap (8 + (d.length : Int)))), b8 0, b8 0].length ∧ (0 < d.length ∨ 0 = 0) ∧ 1 = 1 ∧ (List.take (d.length * 1) (bys d)).all AV.isCell = true then
 (if cdec (Says eBytes [AV.agg (kSrc false n)] (hBuild4BF0 n s pad p q r fl d H) (AV.sl (some (4, 0)) [10, p, q, r].length 0 false) (hBuild4BF1 n s pad p q r fl d H)) = true then
 (if cdec (Says eBytes [AV.agg (kDst false)] (hBuild4BF2 n s pad p q r fl d H) (AV.sl (some (5, 0)) 4 0 false) (hBuild4BF3 n s pad p q r fl d H)) = true then
 (if cdec (Says eMk4 [AV.agg (kSrc false n), AV.agg (kDst false), b8 (intV (some (b8 17))), int i64 (((8 + d.length) : Nat) : Int)] (hBuild4BF4 n s pad p q r fl d H) (AV.tup [AV.sl (some (12, 0)) H.length 0 false, AV.bool true]) (hBuild4BF5 n s pad p q r fl d H)) = true then
 (if 0 + H.length * 1 ≤ (bys H).length then
 (if (2 * (14 + H.length) + 200) * 1 ≤ 281474976710656 ∧ some 1 = some 1 ∧ 14 + H.length ≤ 70368744177664 then
 (if 0 = 0 ∧ 14 = (cE false false).length ∧ (0 < H.length ∨ 0 = 0) ∧ 1 = 1 ∧ (List.take (H.length * 1) (bys H)).all AV.isCell = true then
 (if 0 + (8 + d.length) * 1 ≤ (cU n d).length then
 (if (2 * (14 + H.length + (8 + d.length)) + 200) * 1 ≤ 281474976710656 ∧ some 1 = some 1 ∧ 14 + H.length + (8 + d.length) ≤ 70368744177664 then
 (if 0 + (14 + H.length) * 1 ≤ ((cE false false) ++ List.take (H.length * 1) (bys H)).length then
 (if 0 = 0 ∧ 0 + (14 + H.length) * 1 = ((cE false false) ++ List.take (H.length * 1) (bys H)).length ∧ (0 < 8 + d.length ∨ 0 = 0) ∧ 1 = 1 ∧ (List.take ((8 + d.length) * 1) (cU n d)).all AV.isCell = true then
 (if 1 = 1 ∧ 0 ≤ pad ∧ pad ≤ 70368744177664 ∧ pad * 1 ≤ 281474976710656 then
 (if (2 * (14 + H.length + (8 + d.length) + pad.toNat) + 200) * 1 ≤ 281474976710656 ∧ some 1 = some 1 ∧ 14 + H.length + (8 + d.length) + pad.toNat ≤ 70368744177664 then
 (if 0 + (14 + H.length + (8 + d.length)) * 1 ≤ (List.take ((14 + H.length) * 1) ((cE false false) ++ List.take (H.length * 1) (bys H)) ++ List.take ((8 + d.length) * 1) (cU n d)).length then
 (if 0 = 0 ∧ 0 + (14 + H.length + (8 + d.length)) * 1 = (List.take ((14 + H.length) * 1) ((cE false false) ++ List.take (H.length * 1) (bys H)) ++ List.take ((8 + d.length) * 1) (cU n d)).length ∧ (0 < pad.toNat ∨ 0 = 0) ∧ 1 = 1 ∧ (zrep pad.toNat [b8 0]).all AV.isCell = true then
 K (AV.sl (some (15, 0)) (14 + H.length + (8 + d.length) + pad.toNat) 0 false) ((hBuild4BF6 n s pad p q r fl d H))
 else none) else none) else none) else none) else none) else none) else none) else none) else none) else none) else none) else none) else none) else none) else none) else none) else none) else none) else none) else none) else none) := by
  kernel_rfl

noncomputable def hBuild4BT0 (n s pad : Int) (p q r fl : UInt8) (d H : List UInt8) : AHeap := (hBuild4UT0 n s pad p q r fl d H)
noncomputable def hBuild4BT1 (n s pad : Int) (p q r fl : UInt8) (d H : List UInt8) : AHeap := (hBuild4UT1 n s pad p q r fl d H)
noncomputable def hBuild4BT2 (n s pad : Int) (p q r fl : UInt8) (d H : List UInt8) : AHeap := (hBuild4UT2 n s pad p q r fl d H)
noncomputable def hBuild4BT3 (n s pad : Int) (p q r fl : UInt8) (d H : List UInt8) : AHeap := [cells [b8 192, b8 168, b8 0, b8 1] 1 Md.own none]
noncomputable def hBuild4BT4 (n s pad : Int) (p q r fl : UInt8) (d H : List UInt8) : AHeap := (hBuild4BF6 n s pad p q r fl d H).take 10 ++ [cells [b8 129, b8 0, b8 0, b8 7] 1 Md.own none, cells [b8 1, b8 2, b8 3, b8 4, b8 5, b8 6, b8 7, b8 8, b8 9, b8 10, b8 11, b8 12, b8 129, b8 0, b8 0, b8 7] 1 Md.ro none, cells [b8 8, b8 0] 1 Md.own none, cells (cE false true) 1 Md.own (some 11)]
noncomputable def hBuild4BT5 (n s pad : Int) (p q r fl : UInt8) (d H : List UInt8) : AHeap := [cells (bys H) 1 Md.own none]
noncomputable def hBuild4BT6 (n s pad : Int) (p q r fl : UInt8) (d H : List UInt8) : AHeap := ((((hBuild4BT4 n s pad p q r fl d H).set 11 (ABlk.dead)).set 13 (ABlk.dead))) ++ [cells (bys H) 1 Md.own none, ABlk.dead, cells (List.take ((18 + H.length) * 1) ((cE false true) ++ List.take (H.length * 1) (bys H)) ++ List.take ((8 + d.length) * 1) (cU n d)) 1 Md.ro none, cells (List.take ((18 + H.length + (8 + d.length)) * 1) (List.take ((18 + H.length) * 1) ((cE false true) ++ List.take (H.length * 1) (bys H)) ++ List.take ((8 + d.length) * 1) (cU n d)) ++ zrep pad.toNat [b8 0]) 1 Md.own (some 16)]
theorem nfBuild4BT {R : Type} (n s pad : Int) (p q r fl : UInt8) (d H : List UInt8) (K : AV → AHeap → Option R) :
 qrun Try.prog (tBuild [10, p, q, r] [192, 168, 0, 1] H s) 100 4 [(52, .bool false), (56, .bool false), (60, .bool false)] [] 8 [.agg ([.int .u8 17] ++ kSrc false n ++ kDst false ++ [.int .u16 (kport n), .int .u16 80]), .int .u8 (fl.toNat : Int), slB 0 d, .bool true, .bool true, .int .i64 pad] [farB d] K =
 (if adrWf (kSrc false n) = true then
 (if decide ((d.length : Int) > 2000) = false then
 (if decide (pad < 0) = false then
 (if decide (pad > 100) = false then
 (if 0 + d.length * 1 ≤ (bys d).length then
 (if (2 * (8 + d.length) + 200) * 1 ≤ 281474976710656 ∧ some 1 = some 1 ∧ 8 + d.length ≤ 70368744177664 then
 (if 0 = 0 ∧ 8 = [b8 (u8.wrap ((wk n).fdiv 256)), b8 (u8.wrap (wk n)), b8 (u8.wrap (w80.fdiv 256)), b8 (u8.wrap w80), b8 (u8.wrap ((i64.wrap (8 + (d.length : Int))).fdiv 256)), b8 (u8.wrap (i64.wrap (8 + (d.length : Int)))), b8 0, b8 0].length ∧ (0 < d.length ∨ 0 = 0) ∧ 1 = 1 ∧ (List.take (d.length * 1) (bys d)).all AV.isCell = true then
 (if cdec (Says eBytes [AV.agg (kSrc false n)] (hBuild4BT0 n s pad p q r fl d H) (AV.sl (some (4, 0)) [10, p, q, r].length 0 false) (hBuild4BT1 n s pad p q r fl d H)) = true then
 (if cdec (Says eBytes [AV.agg (kDst false)] (hBuild4BT2 n s pad p q r fl d H) (AV.sl (some (5, 0)) 4 0 false) (hBuild4BT3 n s pad p q r fl d H)) = true then
 (if cdec (Says eMk4 [AV.agg (kSrc false n), AV.agg (kDst false), b8 (intV (some (b8 17))), int i64 (((8 + d.length) : Nat) : Int)] (hBuild4BT4 n s pad p q r fl d H) (AV.tup [AV.sl (some (14, 0)) H.length 0 false, AV.bool true]) (hBuild4BT5 n s pad p q r fl d H)) = true then
 (if 0 + H.length * 1 ≤ (bys H).length then
 (if (2 * (18 + H.length) + 200) * 1 ≤ 281474976710656 ∧ some 1 = some 1 ∧ 18 + H.length ≤ 70368744177664 then
 (if 0 = 0 ∧ 18 = (cE false true).length ∧ (0 < H.length ∨ 0 = 0) ∧ 1 = 1 ∧ (List.take (H.length * 1) (bys H)).all AV.isCell = true then
 (if 0 + (8 + d.length) * 1 ≤ (cU n d).length then
 (if (2 * (18 + H.length + (8 + d.length)) + 200) * 1 ≤ 281474976710656 ∧ some 1 = some 1 ∧ 18 + H.length + (8 + d.length) ≤ 70368744177664 then
 (if 0 + (18 + H.length) * 1 ≤ ((cE false true) ++ List.take (H.length * 1) (bys H)).length then
 (if 0 = 0 ∧ 0 + (18 + H.length) * 1 = ((cE false true) ++ List.take (H.length * 1) (bys H)).length ∧ (0 < 8 + d.length ∨ 0 = 0) ∧ 1 = 1 ∧ (List.take ((8 + d.length) * 1) (cU n d)).all AV.isCell = true then
 (if 1 = 1 ∧ 0 ≤ pad ∧ pad ≤ 70368744177664 ∧ pad * 1 ≤ 281474976710656 then
 (if (2 * (18 + H.length + (8 + d.length) + pad.toNat) + 200) * 1 ≤ 281474976710656 ∧ some 1 = some 1 ∧ 18 + H.length + (8 + d.length) + pad.toNat ≤ 70368744177664 then
 (if 0 + (18 + H.length + (8 + d.length)) * 1 ≤ (List.take ((18 + H.length) * 1) ((cE false true) ++ List.take (H.length * 1) (bys H)) ++ List.take ((8 + d.length) * 1) (cU n d)).length then
 (if 0 = 0 ∧ 0 + (18 + H.length + (8 + d.length)) * 1 = (List.take ((18 + H.length) * 1) ((cE false true) ++ List.take (H.length * 1) (bys H)) ++ List.take ((8 + d.length) * 1) (cU n d)).length ∧ (0 < pad.toNat ∨ 0 = 0) ∧ 1 = 1 ∧ (zrep pad.toNat [b8 0]).all AV.isCell = true then
 K (AV.sl (some (17, 0)) (18 + H.length + (8 + d.length) + pad.toNat) 0 false) ((hBuild4BT6 n s pad p q r fl d H))
 else none) else none) else none) else none) else none) else none) else none) else none) else none) else none) else none) else none) else none) else none) else none) else none) else none) else none) else none) else none) else none) := by
  kernel_rfl

end Go.Proofs.Ytjkkhbeidhpghaa.L
