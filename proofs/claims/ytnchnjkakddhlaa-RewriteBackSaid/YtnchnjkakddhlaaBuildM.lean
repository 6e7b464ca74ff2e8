/- The reference's Build: what the kernel makes of it, IPv6. -/
import Derived.Test.YtnchnjkakddhlaaBuildN
set_option autoImplicit false
set_option maxRecDepth 100000
set_option linter.unusedVariables false
set_option linter.unusedSimpArgs false
namespace Go.Proofs.Ytnchnjkakddhlaa.L
open Go Go.Abs
open Go.IntKind (u8 u16 u32 u64 i64)
open Go.Abs.AV (int)
open Go.Abs.ABlk (cells)
noncomputable def zgk (n : Int) (fl : UInt8) (d : List UInt8) : zaa := [cells (bys d) 1 Md.far none, cells (zkT true false n) 37 Md.own none, cells [b8 (u8.wrap ((wk n).fdiv 256)), b8 (u8.wrap (wk n)), b8 (u8.wrap (w80.fdiv 256)), b8 (u8.wrap w80), b8 0, b8 0, b8 0, b8 0, b8 0, b8 0, b8 0, b8 0, b8 80, b8 (fl.toNat : Int), b8 0, b8 0, b8 0, b8 0, b8 0, b8 0] 1 Md.ro none, cells (cT n fl d) 1 Md.own (some 2)]
noncomputable def zkh (p q r : UInt8) : zaa := [cells [b8 10, b8 (p.toNat : Int), b8 (q.toNat : Int), b8 (r.toNat : Int), b8 0, b8 0, b8 0, b8 0, b8 0, b8 0, b8 0, b8 0, b8 0, b8 0, b8 0, b8 0] 1 Md.own none]
noncomputable def zky (n s pad : Int) (p q r fl : UInt8) (d H : List UInt8) (bare : Bool) : zaa := (zgk n fl d) ++ [cells [b8 10, b8 (p.toNat : Int), b8 (q.toNat : Int), b8 (r.toNat : Int), b8 0, b8 0, b8 0, b8 0, b8 0, b8 0, b8 0, b8 0, b8 0, b8 0, b8 0, b8 0] 1 Md.own none]
noncomputable def zkZ : zaa := [cells [b8 192, b8 168, b8 0, b8 1, b8 0, b8 0, b8 0, b8 0, b8 0, b8 0, b8 0, b8 0, b8 0, b8 0, b8 0, b8 0] 1 Md.own none]
noncomputable def zhz (n s pad : Int) (p q r fl : UInt8) (d H : List UInt8) (bare : Bool) : zaa := (zgk n fl d) ++ [ABlk.dead, cells [b8 192, b8 168, b8 0, b8 1, b8 0, b8 0, b8 0, b8 0, b8 0, b8 0, b8 0, b8 0, b8 0, b8 0, b8 0, b8 0] 1 Md.own none, ABlk.dead, cells [b8 0, b8 0, b8 (u8.wrap (((((20 + d.length) : Nat) : Int)).fdiv 256)), b8 (u8.wrap (((20 + d.length) : Nat) : Int)), b8 0, b8 0, b8 0, b8 (zad (some (b8 6)))] 1 Md.own none, cells [b8 10, b8 (p.toNat : Int), b8 (q.toNat : Int), b8 (r.toNat : Int), b8 0, b8 0, b8 0, b8 0, b8 0, b8 0, b8 0, b8 0, b8 0, b8 0, b8 0, b8 0, b8 192, b8 168, b8 0, b8 1, b8 0, b8 0, b8 0, b8 0, b8 0, b8 0, b8 0, b8 0, b8 0, b8 0, b8 0, b8 0, b8 0, b8 0, b8 (u8.wrap (((((20 + d.length) : Nat) : Int)).fdiv 256)), b8 (u8.wrap (((20 + d.length) : Nat) : Int)), b8 0, b8 0, b8 0, b8 (zad (some (b8 6)))] 1 Md.ro none, cells ([b8 10, b8 (p.toNat : Int), b8 (q.toNat : Int), b8 (r.toNat : Int), b8 0, b8 0, b8 0, b8 0, b8 0, b8 0, b8 0, b8 0, b8 0, b8 0, b8 0, b8 0, b8 192, b8 168, b8 0, b8 1, b8 0, b8 0, b8 0, b8 0, b8 0, b8 0, b8 0, b8 0, b8 0, b8 0, b8 0, b8 0, b8 0, b8 0, b8 (u8.wrap (((((20 + d.length) : Nat) : Int)).fdiv 256)), b8 (u8.wrap (((20 + d.length) : Nat) : Int)), b8 0, b8 0, b8 0, b8 (zad (some (b8 6)))] ++ List.take ((20 + d.length) * 1) (cT n fl d)) 1 Md.own (some 8)]
noncomputable def zpa : zaa := []
noncomputable def zhV (n s pad : Int) (p q r fl : UInt8) (d H : List UInt8) (bare : Bool) : zaa := ((((zhz n s pad p q r fl d H bare).set 2 (ABlk.dead)).set 3 (cells (zae (zae (cT n fl d) 16 [b8 (u8.wrap ((i64.wrap (65535 - s)).fdiv 256))]) 17 [b8 (u8.wrap (i64.wrap (65535 - s)))]) 1 Md.own none))) ++ [cells [b8 1, b8 2, b8 3, b8 4, b8 5, b8 6, b8 7, b8 8, b8 9, b8 10, b8 11, b8 12] 1 Md.ro none, cells [b8 134, b8 221] 1 Md.own none, cells (cE true false) 1 Md.own (some 10)]
noncomputable def zpm (H : List UInt8) : zaa := [cells (bys H) 1 Md.own none]
noncomputable def zhX (n s pad : Int) (p q r fl : UInt8) (d H : List UInt8) (bare : Bool) : zaa := ((((zhV n s pad p q r fl d H bare).set 10 (ABlk.dead)).set 12 (ABlk.dead))) ++ [cells (bys H) 1 Md.own none, ABlk.dead, cells (List.take ((14 + H.length) * 1) ((cE true false) ++ List.take (H.length * 1) (bys H)) ++ List.take ((20 + d.length) * 1) (zae (zae (cT n fl d) 16 [b8 (u8.wrap ((i64.wrap (65535 - s)).fdiv 256))]) 17 [b8 (u8.wrap (i64.wrap (65535 - s)))])) 1 Md.ro none, cells (List.take ((14 + H.length + (20 + d.length)) * 1) (List.take ((14 + H.length) * 1) ((cE true false) ++ List.take (H.length * 1) (bys H)) ++ List.take ((20 + d.length) * 1) (zae (zae (cT n fl d) 16 [b8 (u8.wrap ((i64.wrap (65535 - s)).fdiv 256))]) 17 [b8 (u8.wrap (i64.wrap (65535 - s)))])) ++ zex pad.toNat [b8 0]) 1 Md.own (some 15)]
theorem zpK {R : Type} (n s pad : Int) (p q r fl : UInt8) (d H : List UInt8) (bare : Bool) (K : AV → zaa → Option R) :
 zbs Try.prog (zhg [10, p, q, r, 0, 0, 0, 0, 0, 0, 0, 0, 0, 0, 0, 0] [192, 168, 0, 1, 0, 0, 0, 0, 0, 0, 0, 0, 0, 0, 0, 0] H s) 100 4 [(52, .bool false), (56, .bool false), (60, .bool false), (135, .bool false)] [] 14 [.agg ([.int .u8 6] ++ zbD true n ++ zce true ++ [.int .u16 (zat n), .int .u16 80]), .int .u8 (fl.toNat : Int), slB 0 d, .bool false, .bool bare, .int .i64 pad] [zaC d] K =
 (if zas (zbD true n) = true then
 (if decide ((d.length : Int) > 2000) = false then
 (if decide (pad < 0) = false then
 (if decide (pad > 100) = false then
 (if 0 + d.length * 1 ≤ (bys d).length then
 (if (2 * (20 + d.length) + 200) * 1 ≤ 281474976710656 ∧ some 1 = some 1 ∧ 20 + d.length ≤ 70368744177664 then
 (if 0 = 0 ∧ 20 = [b8 (u8.wrap ((wk n).fdiv 256)), b8 (u8.wrap (wk n)), b8 (u8.wrap (w80.fdiv 256)), b8 (u8.wrap w80), b8 0, b8 0, b8 0, b8 0, b8 0, b8 0, b8 0, b8 0, b8 80, b8 (fl.toNat : Int), b8 0, b8 0, b8 0, b8 0, b8 0, b8 0].length ∧ (0 < d.length ∨ 0 = 0) ∧ 1 = 1 ∧ (List.take (d.length * 1) (bys d)).all AV.isCell = true then
 (if zaE (Says zbh [AV.agg (zbD true n)] (zgk n fl d) (AV.sl (some (4, 0)) [10, p, q, r, 0, 0, 0, 0, 0, 0, 0, 0, 0, 0, 0, 0].length 0 false) (zkh p q r)) = true then
 (if zaE (Says zbh [AV.agg (zce true)] (zky n s pad p q r fl d H bare) (AV.sl (some (5, 0)) 16 0 false) (zkZ)) = true then
 (if 0 + (20 + d.length) * 1 ≤ (cT n fl d).length then
 (if (2 * ([10, p, q, r, 0, 0, 0, 0, 0, 0, 0, 0, 0, 0, 0, 0].length + 16 + 8 + (20 + d.length)) + 200) * 1 ≤ 281474976710656 ∧ some 1 = some 1 ∧ [10, p, q, r, 0, 0, 0, 0, 0, 0, 0, 0, 0, 0, 0, 0].length + 16 + 8 + (20 + d.length) ≤ 70368744177664 then
 (if 0 = 0 ∧ 0 + ([10, p, q, r, 0, 0, 0, 0, 0, 0, 0, 0, 0, 0, 0, 0].length + 16 + 8) * 1 = [b8 10, b8 (p.toNat : Int), b8 (q.toNat : Int), b8 (r.toNat : Int), b8 0, b8 0, b8 0, b8 0, b8 0, b8 0, b8 0, b8 0, b8 0, b8 0, b8 0, b8 0, b8 192, b8 168, b8 0, b8 1, b8 0, b8 0, b8 0, b8 0, b8 0, b8 0, b8 0, b8 0, b8 0, b8 0, b8 0, b8 0, b8 0, b8 0, b8 (u8.wrap (((((20 + d.length) : Nat) : Int)).fdiv 256)), b8 (u8.wrap (((20 + d.length) : Nat) : Int)), b8 0, b8 0, b8 0, b8 (zad (some (b8 6)))].length ∧ (0 < 20 + d.length ∨ 0 = 0) ∧ 1 = 1 ∧ (List.take ((20 + d.length) * 1) (cT n fl d)).all AV.isCell = true then
 (if zaE (Says zfd [AV.sl (some (9, 0)) ([10, p, q, r, 0, 0, 0, 0, 0, 0, 0, 0, 0, 0, 0, 0].length + 16 + 8 + (20 + d.length)) 0 false, int u32 0] (zhz n s pad p q r fl d H bare) (int i64 s) (zpa)) = true then
 (if (i64.wrap (65535 - s) == 0) = false then
 (if Int.ofNat 0 ≤ Int.ofNat 16 ∧ 16 < (((20 + d.length) : Nat) : Int) then
 (if Int.ofNat 0 ≤ Int.ofNat 17 ∧ 17 < (((20 + d.length) : Nat) : Int) then
 (if zaE (Says zwF [AV.agg (zbD true n), AV.agg (zce true), b8 (zad (some (b8 6))), int i64 (((20 + d.length) : Nat) : Int)] (zhV n s pad p q r fl d H bare) (AV.tup [AV.sl (some (13, 0)) H.length 0 false, AV.bool true]) (zpm H)) = true then
 (if 0 + H.length * 1 ≤ (bys H).length then
 (if (2 * (14 + H.length) + 200) * 1 ≤ 281474976710656 ∧ some 1 = some 1 ∧ 14 + H.length ≤ 70368744177664 then
 (if 0 = 0 ∧ 14 = (cE true false).length ∧ (0 < H.length ∨ 0 = 0) ∧ 1 = 1 ∧ (List.take (H.length * 1) (bys H)).all AV.isCell = true then
 (if 0 + (20 + d.length) * 1 ≤ (zae (zae (cT n fl d) 16 [b8 (u8.wrap ((i64.wrap (65535 - s)).fdiv 256))]) 17 [b8 (u8.wrap (i64.wrap (65535 - s)))]).length then
 (if (2 * (14 + H.length + (20 + d.length)) + 200) * 1 ≤ 281474976710656 ∧ some 1 = some 1 ∧ 14 + H.length + (20 + d.length) ≤ 70368744177664 then
 (if 0 + (14 + H.length) * 1 ≤ ((cE true false) ++ List.take (H.length * 1) (bys H)).length then
 (if 0 = 0 ∧ 0 + (14 + H.length) * 1 = ((cE true false) ++ List.take (H.length * 1) (bys H)).length ∧ (0 < 20 + d.length ∨ 0 = 0) ∧ 1 = 1 ∧ (List.take ((20 + d.length) * 1) (zae (zae (cT n fl d) 16 [b8 (u8.wrap ((i64.wrap (65535 - s)).fdiv 256))]) 17 [b8 (u8.wrap (i64.wrap (65535 - s)))])).all AV.isCell = true then
 (if 1 = 1 ∧ 0 ≤ pad ∧ pad ≤ 70368744177664 ∧ pad * 1 ≤ 281474976710656 then
 (if (2 * (14 + H.length + (20 + d.length) + pad.toNat) + 200) * 1 ≤ 281474976710656 ∧ some 1 = some 1 ∧ 14 + H.length + (20 + d.length) + pad.toNat ≤ 70368744177664 then
 (if 0 + (14 + H.length + (20 + d.length)) * 1 ≤ (List.take ((14 + H.length) * 1) ((cE true false) ++ List.take (H.length * 1) (bys H)) ++ List.take ((20 + d.length) * 1) (zae (zae (cT n fl d) 16 [b8 (u8.wrap ((i64.wrap (65535 - s)).fdiv 256))]) 17 [b8 (u8.wrap (i64.wrap (65535 - s)))])).length then
 (if 0 = 0 ∧ 0 + (14 + H.length + (20 + d.length)) * 1 = (List.take ((14 + H.length) * 1) ((cE true false) ++ List.take (H.length * 1) (bys H)) ++ List.take ((20 + d.length) * 1) (zae (zae (cT n fl d) 16 [b8 (u8.wrap ((i64.wrap (65535 - s)).fdiv 256))]) 17 [b8 (u8.wrap (i64.wrap (65535 - s)))])).length ∧ (0 < pad.toNat ∨ 0 = 0) ∧ 1 = 1 ∧ (zex pad.toNat [b8 0]).all AV.isCell = true then
 K (AV.sl (some (16, 0)) (14 + H.length + (20 + d.length) + pad.toNat) 0 false) ((zhX n s pad p q r fl d H bare))
 else none) else none) else none) else none) else none) else none) else none) else none) else none) else none) else none) else none) else none) else none) else none) else none) else none) else none) else none) else none) else none) else none) else none) else none) else none) else none) else none) else none) := by
  kernel_rfl

noncomputable def zp6 (n s pad : Int) (p q r fl : UInt8) (d H : List UInt8) (bare : Bool) : zaa := (zgk n fl d)
noncomputable def zqB (n s pad : Int) (p q r fl : UInt8) (d H : List UInt8) (bare : Bool) : zaa := (zkh p q r)
noncomputable def zpV (n s pad : Int) (p q r fl : UInt8) (d H : List UInt8) (bare : Bool) : zaa := (zky n s pad p q r fl d H bare)
noncomputable def zqi (n s pad : Int) (p q r fl : UInt8) (d H : List UInt8) (bare : Bool) : zaa := (zkZ)
noncomputable def zqw (n s pad : Int) (p q r fl : UInt8) (d H : List UInt8) (bare : Bool) : zaa := (zhz n s pad p q r fl d H bare)
noncomputable def zpc : zaa := []
noncomputable def zqa (n s pad : Int) (p q r fl : UInt8) (d H : List UInt8) (bare : Bool) : zaa := (zhV n s pad p q r fl d H bare)
noncomputable def zp8 (H : List UInt8) : zaa := [cells (bys H) 1 Md.own none]
noncomputable def zkB (n s pad : Int) (p q r fl : UInt8) (d H : List UInt8) (bare : Bool) : zaa := (zhX n s pad p q r fl d H bare)
theorem zpM {R : Type} (n s pad : Int) (p q r fl : UInt8) (d H : List UInt8) (bare : Bool) (K : AV → zaa → Option R) :
 zbs Try.prog (zhg [10, p, q, r, 0, 0, 0, 0, 0, 0, 0, 0, 0, 0, 0, 0] [192, 168, 0, 1, 0, 0, 0, 0, 0, 0, 0, 0, 0, 0, 0, 0] H s) 100 4 [(52, .bool false), (56, .bool false), (60, .bool false), (135, .bool true)] [] 14 [.agg ([.int .u8 6] ++ zbD true n ++ zce true ++ [.int .u16 (zat n), .int .u16 80]), .int .u8 (fl.toNat : Int), slB 0 d, .bool false, .bool bare, .int .i64 pad] [zaC d] K =
 (if zas (zbD true n) = true then
 (if decide ((d.length : Int) > 2000) = false then
 (if decide (pad < 0) = false then
 (if decide (pad > 100) = false then
 (if 0 + d.length * 1 ≤ (bys d).length then
 (if (2 * (20 + d.length) + 200) * 1 ≤ 281474976710656 ∧ some 1 = some 1 ∧ 20 + d.length ≤ 70368744177664 then
 (if 0 = 0 ∧ 20 = [b8 (u8.wrap ((wk n).fdiv 256)), b8 (u8.wrap (wk n)), b8 (u8.wrap (w80.fdiv 256)), b8 (u8.wrap w80), b8 0, b8 0, b8 0, b8 0, b8 0, b8 0, b8 0, b8 0, b8 80, b8 (fl.toNat : Int), b8 0, b8 0, b8 0, b8 0, b8 0, b8 0].length ∧ (0 < d.length ∨ 0 = 0) ∧ 1 = 1 ∧ (List.take (d.length * 1) (bys d)).all AV.isCell = true then
 (if zaE (Says zbh [AV.agg (zbD true n)] (zp6 n s pad p q r fl d H bare) (AV.sl (some (4, 0)) [10, p, q, r, 0, 0, 0, 0, 0, 0, 0, 0, 0, 0, 0, 0].length 0 false) (zqB n s pad p q r fl d H bare)) = true then
 (if zaE (Says zbh [AV.agg (zce true)] (zpV n s pad p q r fl d H bare) (AV.sl (some (5, 0)) 16 0 false) (zqi n s pad p q r fl d H bare)) = true then
 (if 0 + (20 + d.length) * 1 ≤ (cT n fl d).length then
 (if (2 * ([10, p, q, r, 0, 0, 0, 0, 0, 0, 0, 0, 0, 0, 0, 0].length + 16 + 8 + (20 + d.length)) + 200) * 1 ≤ 281474976710656 ∧ some 1 = some 1 ∧ [10, p, q, r, 0, 0, 0, 0, 0, 0, 0, 0, 0, 0, 0, 0].length + 16 + 8 + (20 + d.length) ≤ 70368744177664 then
 (if 0 = 0 ∧ 0 + ([10, p, q, r, 0, 0, 0, 0, 0, 0, 0, 0, 0, 0, 0, 0].length + 16 + 8) * 1 = [b8 10, b8 (p.toNat : Int), b8 (q.toNat : Int), b8 (r.toNat : Int), b8 0, b8 0, b8 0, b8 0, b8 0, b8 0, b8 0, b8 0, b8 0, b8 0, b8 0, b8 0, b8 192, b8 168, b8 0, b8 1, b8 0, b8 0, b8 0, b8 0, b8 0, b8 0, b8 0, b8 0, b8 0, b8 0, b8 0, b8 0, b8 0, b8 0, b8 (u8.wrap (((((20 + d.length) : Nat) : Int)).fdiv 256)), b8 (u8.wrap (((20 + d.length) : Nat) : Int)), b8 0, b8 0, b8 0, b8 (zad (some (b8 6)))].length ∧ (0 < 20 + d.length ∨ 0 = 0) ∧ 1 = 1 ∧ (List.take ((20 + d.length) * 1) (cT n fl d)).all AV.isCell = true then
 (if zaE (Says zfd [AV.sl (some (9, 0)) ([10, p, q, r, 0, 0, 0, 0, 0, 0, 0, 0, 0, 0, 0, 0].length + 16 + 8 + (20 + d.length)) 0 false, int u32 0] (zqw n s pad p q r fl d H bare) (int i64 s) (zpc)) = true then
 (if (i64.wrap (65535 - s) == 0) = true then
 (if Int.ofNat 0 ≤ Int.ofNat 16 ∧ 16 < (((20 + d.length) : Nat) : Int) then
 (if Int.ofNat 0 ≤ Int.ofNat 17 ∧ 17 < (((20 + d.length) : Nat) : Int) then
 (if zaE (Says zwF [AV.agg (zbD true n), AV.agg (zce true), b8 (zad (some (b8 6))), int i64 (((20 + d.length) : Nat) : Int)] (zqa n s pad p q r fl d H bare) (AV.tup [AV.sl (some (13, 0)) H.length 0 false, AV.bool true]) (zp8 H)) = true then
 (if 0 + H.length * 1 ≤ (bys H).length then
 (if (2 * (14 + H.length) + 200) * 1 ≤ 281474976710656 ∧ some 1 = some 1 ∧ 14 + H.length ≤ 70368744177664 then
 (if 0 = 0 ∧ 14 = (cE true false).length ∧ (0 < H.length ∨ 0 = 0) ∧ 1 = 1 ∧ (List.take (H.length * 1) (bys H)).all AV.isCell = true then
 (if 0 + (20 + d.length) * 1 ≤ (zae (zae (cT n fl d) 16 [b8 (u8.wrap ((i64.wrap (65535 - s)).fdiv 256))]) 17 [b8 (u8.wrap (i64.wrap (65535 - s)))]).length then
 (if (2 * (14 + H.length + (20 + d.length)) + 200) * 1 ≤ 281474976710656 ∧ some 1 = some 1 ∧ 14 + H.length + (20 + d.length) ≤ 70368744177664 then
 (if 0 + (14 + H.length) * 1 ≤ ((cE true false) ++ List.take (H.length * 1) (bys H)).length then
 (if 0 = 0 ∧ 0 + (14 + H.length) * 1 = ((cE true false) ++ List.take (H.length * 1) (bys H)).length ∧ (0 < 20 + d.length ∨ 0 = 0) ∧ 1 = 1 ∧ (List.take ((20 + d.length) * 1) (zae (zae (cT n fl d) 16 [b8 (u8.wrap ((i64.wrap (65535 - s)).fdiv 256))]) 17 [b8 (u8.wrap (i64.wrap (65535 - s)))])).all AV.isCell = true then
 (if 1 = 1 ∧ 0 ≤ pad ∧ pad ≤ 70368744177664 ∧ pad * 1 ≤ 281474976710656 then
 (if (2 * (14 + H.length + (20 + d.length) + pad.toNat) + 200) * 1 ≤ 281474976710656 ∧ some 1 = some 1 ∧ 14 + H.length + (20 + d.length) + pad.toNat ≤ 70368744177664 then
 (if 0 + (14 + H.length + (20 + d.length)) * 1 ≤ (List.take ((14 + H.length) * 1) ((cE true false) ++ List.take (H.length * 1) (bys H)) ++ List.take ((20 + d.length) * 1) (zae (zae (cT n fl d) 16 [b8 (u8.wrap ((i64.wrap (65535 - s)).fdiv 256))]) 17 [b8 (u8.wrap (i64.wrap (65535 - s)))])).length then
 (if 0 = 0 ∧ 0 + (14 + H.length + (20 + d.length)) * 1 = (List.take ((14 + H.length) * 1) ((cE true false) ++ List.take (H.length * 1) (bys H)) ++ List.take ((20 + d.length) * 1) (zae (zae (cT n fl d) 16 [b8 (u8.wrap ((i64.wrap (65535 - s)).fdiv 256))]) 17 [b8 (u8.wrap (i64.wrap (65535 - s)))])).length ∧ (0 < pad.toNat ∨ 0 = 0) ∧ 1 = 1 ∧ (zex pad.toNat [b8 0]).all AV.isCell = true then
 K (AV.sl (some (16, 0)) (14 + H.length + (20 + d.length) + pad.toNat) 0 false) ((zkB n s pad p q r fl d H bare))
 else none) else none) else none) else none) else none) else none) else none) else none) else none) else none) else none) else none) else none) else none) else none) else none) else none) else none) else none) else none) else none) else none) else none) else none) else none) else none) else none) else none) := by
  kernel_rfl

noncomputable def zgg (n : Int) (d : List UInt8) : zaa := [cells (bys d) 1 Md.far none, cells (zkT true true n) 37 Md.own none, cells [b8 (u8.wrap ((wk n).fdiv 256)), b8 (u8.wrap (wk n)), b8 (u8.wrap (w80.fdiv 256)), b8 (u8.wrap w80), b8 (u8.wrap ((i64.wrap (8 + (d.length : Int))).fdiv 256)), b8 (u8.wrap (i64.wrap (8 + (d.length : Int)))), b8 0, b8 0] 1 Md.ro none, cells (cU n d) 1 Md.own (some 2)]
noncomputable def zkI (p q r : UInt8) : zaa := [cells [b8 10, b8 (p.toNat : Int), b8 (q.toNat : Int), b8 (r.toNat : Int), b8 0, b8 0, b8 0, b8 0, b8 0, b8 0, b8 0, b8 0, b8 0, b8 0, b8 0, b8 0] 1 Md.own none]
noncomputable def zkn (n s pad : Int) (p q r fl : UInt8) (d H : List UInt8) : zaa := (zgg n d) ++ [cells [b8 10, b8 (p.toNat : Int), b8 (q.toNat : Int), b8 (r.toNat : Int), b8 0, b8 0, b8 0, b8 0, b8 0, b8 0, b8 0, b8 0, b8 0, b8 0, b8 0, b8 0] 1 Md.own none]
noncomputable def zkv : zaa := [cells [b8 192, b8 168, b8 0, b8 1, b8 0, b8 0, b8 0, b8 0, b8 0, b8 0, b8 0, b8 0, b8 0, b8 0, b8 0, b8 0] 1 Md.own none]
noncomputable def zhB (n s pad : Int) (p q r fl : UInt8) (d H : List UInt8) : zaa := (zgg n d) ++ [ABlk.dead, cells [b8 192, b8 168, b8 0, b8 1, b8 0, b8 0, b8 0, b8 0, b8 0, b8 0, b8 0, b8 0, b8 0, b8 0, b8 0, b8 0] 1 Md.own none, ABlk.dead, cells [b8 0, b8 0, b8 (u8.wrap (((((8 + d.length) : Nat) : Int)).fdiv 256)), b8 (u8.wrap (((8 + d.length) : Nat) : Int)), b8 0, b8 0, b8 0, b8 (zad (some (b8 17)))] 1 Md.own none, cells [b8 10, b8 (p.toNat : Int), b8 (q.toNat : Int), b8 (r.toNat : Int), b8 0, b8 0, b8 0, b8 0, b8 0, b8 0, b8 0, b8 0, b8 0, b8 0, b8 0, b8 0, b8 192, b8 168, b8 0, b8 1, b8 0, b8 0, b8 0, b8 0, b8 0, b8 0, b8 0, b8 0, b8 0, b8 0, b8 0, b8 0, b8 0, b8 0, b8 (u8.wrap (((((8 + d.length) : Nat) : Int)).fdiv 256)), b8 (u8.wrap (((8 + d.length) : Nat) : Int)), b8 0, b8 0, b8 0, b8 (zad (some (b8 17)))] 1 Md.ro none, cells ([b8 10, b8 (p.toNat : Int), b8 (q.toNat : Int), b8 (r.toNat : Int), b8 0, b8 0, b8 0, b8 0, b8 0, b8 0, b8 0, b8 0, b8 0, b8 0, b8 0, b8 0, b8 192, b8 168, b8 0, b8 1, b8 0, b8 0, b8 0, b8 0, b8 0, b8 0, b8 0, b8 0, b8 0, b8 0, b8 0, b8 0, b8 0, b8 0, b8 (u8.wrap (((((8 + d.length) : Nat) : Int)).fdiv 256)), b8 (u8.wrap (((8 + d.length) : Nat) : Int)), b8 0, b8 0, b8 0, b8 (zad (some (b8 17)))] ++ List.take ((8 + d.length) * 1) (cU n d)) 1 Md.own (some 8)]
noncomputable def zqz : zaa := []
noncomputable def zhT (n s pad : Int) (p q r fl : UInt8) (d H : List UInt8) : zaa := ((((zhB n s pad p q r fl d H).set 2 (ABlk.dead)).set 3 (cells (zae (zae (cU n d) 6 [b8 (u8.wrap ((i64.wrap (65535 - s)).fdiv 256))]) 7 [b8 (u8.wrap (i64.wrap (65535 - s)))]) 1 Md.own none))) ++ [cells [b8 1, b8 2, b8 3, b8 4, b8 5, b8 6, b8 7, b8 8, b8 9, b8 10, b8 11, b8 12] 1 Md.ro none, cells [b8 134, b8 221] 1 Md.own none, cells (cE true false) 1 Md.own (some 10)]
noncomputable def zpp (H : List UInt8) : zaa := [cells (bys H) 1 Md.own none]
noncomputable def zkC (n s pad : Int) (p q r fl : UInt8) (d H : List UInt8) : zaa := ((((zhT n s pad p q r fl d H).set 10 (ABlk.dead)).set 12 (ABlk.dead))) ++ [cells (bys H) 1 Md.own none, ABlk.dead, cells (List.take ((14 + H.length) * 1) ((cE true false) ++ List.take (H.length * 1) (bys H)) ++ List.take ((8 + d.length) * 1) (zae (zae (cU n d) 6 [b8 (u8.wrap ((i64.wrap (65535 - s)).fdiv 256))]) 7 [b8 (u8.wrap (i64.wrap (65535 - s)))])) 1 Md.ro none, cells (List.take ((14 + H.length + (8 + d.length)) * 1) (List.take ((14 + H.length) * 1) ((cE true false) ++ List.take (H.length * 1) (bys H)) ++ List.take ((8 + d.length) * 1) (zae (zae (cU n d) 6 [b8 (u8.wrap ((i64.wrap (65535 - s)).fdiv 256))]) 7 [b8 (u8.wrap (i64.wrap (65535 - s)))])) ++ zex pad.toNat [b8 0]) 1 Md.own (some 15)]
theorem zoZ {R : Type} (n s pad : Int) (p q r fl : UInt8) (d H : List UInt8) (K : AV → zaa → Option R) :
 zbs Try.prog (zhg [10, p, q, r, 0, 0, 0, 0, 0, 0, 0, 0, 0, 0, 0, 0] [192, 168, 0, 1, 0, 0, 0, 0, 0, 0, 0, 0, 0, 0, 0, 0] H s) 100 4 [(52, .bool false), (56, .bool false), (60, .bool false), (135, .bool false)] [] 14 [.agg ([.int .u8 17] ++ zbD true n ++ zce true ++ [.int .u16 (zat n), .int .u16 80]), .int .u8 (fl.toNat : Int), slB 0 d, .bool false, .bool false, .int .i64 pad] [zaC d] K =
 (if zas (zbD true n) = true then
 (if decide ((d.length : Int) > 2000) = false then
 (if decide (pad < 0) = false then
 (if decide (pad > 100) = false then
 (if 0 + d.length * 1 ≤ (bys d).length then
 (if (2 * (8 + d.length) + 200) * 1 ≤ 281474976710656 ∧ some 1 = some 1 ∧ 8 + d.length ≤ 70368744177664 then
 (if 0 = 0 ∧ 8 = [b8 (u8.wrap ((wk n).fdiv 256)), b8 (u8.wrap (wk n)), b8 (u8.wrap (w80.fdiv 256)), b8 (u8.wrap w80), b8 (u8.wrap ((i64.wrap (8 + (d.length : Int))).fdiv 256)), b8 (u8.wrap (i64.wrap (8 + (d.length : Int)))), b8 0, b8 0].length ∧ (0 < d.length ∨ 0 = 0) ∧ 1 = 1 ∧ (List.take (d.length * 1) (bys d)).all AV.isCell = true then
 (if zaE (Says zbh [AV.agg (zbD true n)] (zgg n d) (AV.sl (some (4, 0)) [10, p, q, r, 0, 0, 0, 0, 0, 0, 0, 0, 0, 0, 0, 0].length 0 false) (zkI p q r)) = true then
 (if zaE (Says zbh [AV.agg (zce true)] (zkn n s pad p q r fl d H) (AV.sl (some (5, 0)) 16 0 false) (zkv)) = true then
 (if 0 + (8 + d.length) * 1 ≤ (cU n d).length then
 (if (2 * ([10, p, q, r, 0, 0, 0, 0, 0, 0, 0, 0, 0, 0, 0, 0].length + 16 + 8 + (8 + d.length)) + 200) * 1 ≤ 281474976710656 ∧ some 1 = some 1 ∧ [10, p, q, r, 0, 0, 0, 0, 0, 0, 0, 0, 0, 0, 0, 0].length + 16 + 8 + (8 + d.length) ≤ 70368744177664 then
 (if 0 = 0 ∧ 0 + ([10, p, q, r, 0, 0, 0, 0, 0, 0, 0, 0, 0, 0, 0, 0].length + 16 + 8) * 1 = [b8 10, b8 (p.toNat : Int), b8 (q.toNat : Int), b8 (r.toNat : Int), b8 0, b8 0, b8 0, b8 0, b8 0, b8 0, b8 0, b8 0, b8 0, b8 0, b8 0, b8 0, b8 192, b8 168, b8 0, b8 1, b8 0, b8 0, b8 0, b8 0, b8 0, b8 0, b8 0, b8 0, b8 0, b8 0, b8 0, b8 0, b8 0, b8 0, b8 (u8.wrap (((((8 + d.length) : Nat) : Int)).fdiv 256)), b8 (u8.wrap (((8 + d.length) : Nat) : Int)), b8 0, b8 0, b8 0, b8 (zad (some (b8 17)))].length ∧ (0 < 8 + d.length ∨ 0 = 0) ∧ 1 = 1 ∧ (List.take ((8 + d.length) * 1) (cU n d)).all AV.isCell = true then
 (if zaE (Says zfd [AV.sl (some (9, 0)) ([10, p, q, r, 0, 0, 0, 0, 0, 0, 0, 0, 0, 0, 0, 0].length + 16 + 8 + (8 + d.length)) 0 false, int u32 0] (zhB n s pad p q r fl d H) (int i64 s) (zqz)) = true then
 (if (i64.wrap (65535 - s) == 0) = false then
 (if Int.ofNat 0 ≤ Int.ofNat 6 ∧ 6 < (((8 + d.length) : Nat) : Int) then
 (if Int.ofNat 0 ≤ Int.ofNat 7 ∧ 7 < (((8 + d.length) : Nat) : Int) then
 (if zaE (Says zwF [AV.agg (zbD true n), AV.agg (zce true), b8 (zad (some (b8 17))), int i64 (((8 + d.length) : Nat) : Int)] (zhT n s pad p q r fl d H) (AV.tup [AV.sl (some (13, 0)) H.length 0 false, AV.bool true]) (zpp H)) = true then
 (if 0 + H.length * 1 ≤ (bys H).length then
 (if (2 * (14 + H.length) + 200) * 1 ≤ 281474976710656 ∧ some 1 = some 1 ∧ 14 + H.length ≤ 70368744177664 then
 (if 0 = 0 ∧ 14 = (cE true false).length ∧ (0 < H.length ∨ 0 = 0) ∧ 1 = 1 ∧ (List.take (H.length * 1) (bys H)).all AV.isCell = true then
 (if 0 + (8 + d.length) * 1 ≤ (zae (zae (cU n d) 6 [b8 (u8.wrap ((i64.wrap (65535 - s)).fdiv 256))]) 7 [b8 (u8.wrap (i64.wrap (65535 - s)))]).length then
 (if (2 * (14 + H.length + (8 + d.length)) + 200) * 1 ≤ 281474976710656 ∧ some 1 = some 1 ∧ 14 + H.length + (8 + d.length) ≤ 70368744177664 then
 (if 0 + (14 + H.length) * 1 ≤ ((cE true false) ++ List.take (H.length * 1) (bys H)).length then
 (if 0 = 0 ∧ 0 + (14 + H.length) * 1 = ((cE true false) ++ List.take (H.length * 1) (bys H)).length ∧ (0 < 8 + d.length ∨ 0 = 0) ∧ 1 = 1 ∧ (List.take ((8 + d.length) * 1) (zae (zae (cU n d) 6 [b8 (u8.wrap ((i64.wrap (65535 - s)).fdiv 256))]) 7 [b8 (u8.wrap (i64.wrap (65535 - s)))])).all AV.isCell = true then
 (if 1 = 1 ∧ 0 ≤ pad ∧ pad ≤ 70368744177664 ∧ pad * 1 ≤ 281474976710656 then
 (if (2 * (14 + H.length + (8 + d.length) + pad.toNat) + 200) * 1 ≤ 281474976710656 ∧ some 1 = some 1 ∧ 14 + H.length + (8 + d.length) + pad.toNat ≤ 70368744177664 then
 (if 0 + (14 + H.length + (8 + d.length)) * 1 ≤ (List.take ((14 + H.length) * 1) ((cE true false) ++ List.take (H.length * 1) (bys H)) ++ List.take ((8 + d.length) * 1) (zae (zae (cU n d) 6 [b8 (u8.wrap ((i64.wrap (65535 - s)).fdiv 256))]) 7 [b8 (u8.wrap (i64.wrap (65535 - s)))])).length then
 (if 0 = 0 ∧ 0 + (14 + H.length + (8 + d.length)) * 1 = (List.take ((14 + H.length) * 1) ((cE true false) ++ List.take (H.length * 1) (bys H)) ++ List.take ((8 + d.length) * 1) (zae (zae (cU n d) 6 [b8 (u8.wrap ((i64.wrap (65535 - s)).fdiv 256))]) 7 [b8 (u8.wrap (i64.wrap (65535 - s)))])).length ∧ (0 < pad.toNat ∨ 0 = 0) ∧ 1 = 1 ∧ (zex pad.toNat [b8 0]).all AV.isCell = true then
 K (AV.sl (some (16, 0)) (14 + H.length + (8 + d.length) + pad.toNat) 0 false) ((zkC n s pad p q r fl d H))
 else none) else none) else none) else none) else none) else none) else none) else none) else none) else none) else none) else none) else none) else none) else none) else none) else none) else none) else none) else none) else none) else none) else none) else none) else none) else none) else none) else none) := by
  kernel_rfl

noncomputable def zqx (n s pad : Int) (p q r fl : UInt8) (d H : List UInt8) : zaa := (zgg n d)
noncomputable def zpB (n s pad : Int) (p q r fl : UInt8) (d H : List UInt8) : zaa := (zkI p q r)
noncomputable def zpP (n s pad : Int) (p q r fl : UInt8) (d H : List UInt8) : zaa := (zkn n s pad p q r fl d H)
noncomputable def zpd (n s pad : Int) (p q r fl : UInt8) (d H : List UInt8) : zaa := (zkv)
noncomputable def zpW (n s pad : Int) (p q r fl : UInt8) (d H : List UInt8) : zaa := (zhB n s pad p q r fl d H)
noncomputable def zqD : zaa := []
noncomputable def zj4 (n s pad : Int) (p q r fl : UInt8) (d H : List UInt8) : zaa := ((zhT n s pad p q r fl d H).set 3 (cells (zae (zae (cU n d) 6 [b8 255]) 7 [b8 255]) 1 Md.own none))
noncomputable def zpg (H : List UInt8) : zaa := [cells (bys H) 1 Md.own none]
noncomputable def zkg (n s pad : Int) (p q r fl : UInt8) (d H : List UInt8) : zaa := ((((zj4 n s pad p q r fl d H).set 10 (ABlk.dead)).set 12 (ABlk.dead))) ++ [cells (bys H) 1 Md.own none, ABlk.dead, cells (List.take ((14 + H.length) * 1) ((cE true false) ++ List.take (H.length * 1) (bys H)) ++ List.take ((8 + d.length) * 1) (zae (zae (cU n d) 6 [b8 255]) 7 [b8 255])) 1 Md.ro none, cells (List.take ((14 + H.length + (8 + d.length)) * 1) (List.take ((14 + H.length) * 1) ((cE true false) ++ List.take (H.length * 1) (bys H)) ++ List.take ((8 + d.length) * 1) (zae (zae (cU n d) 6 [b8 255]) 7 [b8 255])) ++ zex pad.toNat [b8 0]) 1 Md.own (some 15)]
theorem zp9 {R : Type} (n s pad : Int) (p q r fl : UInt8) (d H : List UInt8) (K : AV → zaa → Option R) :
 zbs Try.prog (zhg [10, p, q, r, 0, 0, 0, 0, 0, 0, 0, 0, 0, 0, 0, 0] [192, 168, 0, 1, 0, 0, 0, 0, 0, 0, 0, 0, 0, 0, 0, 0] H s) 100 4 [(52, .bool false), (56, .bool false), (60, .bool false), (135, .bool true)] [] 14 [.agg ([.int .u8 17] ++ zbD true n ++ zce true ++ [.int .u16 (zat n), .int .u16 80]), .int .u8 (fl.toNat : Int), slB 0 d, .bool false, .bool false, .int .i64 pad] [zaC d] K =
 (if zas (zbD true n) = true then
 (if decide ((d.length : Int) > 2000) = false then
 (if decide (pad < 0) = false then
 (if decide (pad > 100) = false then
 (if 0 + d.length * 1 ≤ (bys d).length then
 (if (2 * (8 + d.length) + 200) * 1 ≤ 281474976710656 ∧ some 1 = some 1 ∧ 8 + d.length ≤ 70368744177664 then
 (if 0 = 0 ∧ 8 = [b8 (u8.wrap ((wk n).fdiv 256)), b8 (u8.wrap (wk n)), b8 (u8.wrap (w80.fdiv 256)), b8 (u8.wrap w80), b8 (u8.wrap ((i64.wrap (8 + (d.length : Int))).fdiv 256)), b8 (u8.wrap (i64.wrap (8 + (d.length : Int)))), b8 0, b8 0].length ∧ (0 < d.length ∨ 0 = 0) ∧ 1 = 1 ∧ (List.take (d.length * 1) (bys d)).all AV.isCell = true then
 (if zaE (Says zbh [AV.agg (zbD true n)] (zqx n s pad p q r fl d H) (AV.sl (some (4, 0)) [10, p, q, r, 0, 0, 0, 0, 0, 0, 0, 0, 0, 0, 0, 0].length 0 false) (zpB n s pad p q r fl d H)) = true then
 (if zaE (Says zbh [AV.agg (zce true)] (zpP n s pad p q r fl d H) (AV.sl (some (5, 0)) 16 0 false) (zpd n s pad p q r fl d H)) = true then
 (if 0 + (8 + d.length) * 1 ≤ (cU n d).length then
 (if (2 * ([10, p, q, r, 0, 0, 0, 0, 0, 0, 0, 0, 0, 0, 0, 0].length + 16 + 8 + (8 + d.length)) + 200) * 1 ≤ 281474976710656 ∧ some 1 = some 1 ∧ [10, p, q, r, 0, 0, 0, 0, 0, 0, 0, 0, 0, 0, 0, 0].length + 16 + 8 + (8 + d.length) ≤ 70368744177664 then
 (if 0 = 0 ∧ 0 + ([10, p, q, r, 0, 0, 0, 0, 0, 0, 0, 0, 0, 0, 0, 0].length + 16 + 8) * 1 = [b8 10, b8 (p.toNat : Int), b8 (q.toNat : Int), b8 (r.toNat : Int), b8 0, b8 0, b8 0, b8 0, b8 0, b8 0, b8 0, b8 0, b8 0, b8 0, b8 0, b8 0, b8 192, b8 168, b8 0, b8 1, b8 0, b8 0, b8 0, b8 0, b8 0, b8 0, b8 0, b8 0, b8 0, b8 0, b8 0, b8 0, b8 0, b8 0, b8 (u8.wrap (((((8 + d.length) : Nat) : Int)).fdiv 256)), b8 (u8.wrap (((8 + d.length) : Nat) : Int)), b8 0, b8 0, b8 0, b8 (zad (some (b8 17)))].length ∧ (0 < 8 + d.length ∨ 0 = 0) ∧ 1 = 1 ∧ (List.take ((8 + d.length) * 1) (cU n d)).all AV.isCell = true then
 (if zaE (Says zfd [AV.sl (some (9, 0)) ([10, p, q, r, 0, 0, 0, 0, 0, 0, 0, 0, 0, 0, 0, 0].length + 16 + 8 + (8 + d.length)) 0 false, int u32 0] (zpW n s pad p q r fl d H) (int i64 s) (zqD)) = true then
 (if (i64.wrap (65535 - s) == 0) = true then
 (if Int.ofNat 0 ≤ Int.ofNat 6 ∧ 6 < (((8 + d.length) : Nat) : Int) then
 (if Int.ofNat 0 ≤ Int.ofNat 7 ∧ 7 < (((8 + d.length) : Nat) : Int) then
 (if zaE (Says zwF [AV.agg (zbD true n), AV.agg (zce true), b8 (zad (some (b8 17))), int i64 (((8 + d.length) : Nat) : Int)] (zj4 n s pad p q r fl d H) (AV.tup [AV.sl (some (13, 0)) H.length 0 false, AV.bool true]) (zpg H)) = true then
 (if 0 + H.length * 1 ≤ (bys H).length then
 (if (2 * (14 + H.length) + 200) * 1 ≤ 281474976710656 ∧ some 1 = some 1 ∧ 14 + H.length ≤ 70368744177664 then
 (if 0 = 0 ∧ 14 = (cE true false).length ∧ (0 < H.length ∨ 0 = 0) ∧ 1 = 1 ∧ (List.take (H.length * 1) (bys H)).all AV.isCell = true then
 (if 0 + (8 + d.length) * 1 ≤ (zae (zae (cU n d) 6 [b8 255]) 7 [b8 255]).length then
 (if (2 * (14 + H.length + (8 + d.length)) + 200) * 1 ≤ 281474976710656 ∧ some 1 = some 1 ∧ 14 + H.length + (8 + d.length) ≤ 70368744177664 then
 (if 0 + (14 + H.length) * 1 ≤ ((cE true false) ++ List.take (H.length * 1) (bys H)).length then
 (if 0 = 0 ∧ 0 + (14 + H.length) * 1 = ((cE true false) ++ List.take (H.length * 1) (bys H)).length ∧ (0 < 8 + d.length ∨ 0 = 0) ∧ 1 = 1 ∧ (List.take ((8 + d.length) * 1) (zae (zae (cU n d) 6 [b8 255]) 7 [b8 255])).all AV.isCell = true then
 (if 1 = 1 ∧ 0 ≤ pad ∧ pad ≤ 70368744177664 ∧ pad * 1 ≤ 281474976710656 then
 (if (2 * (14 + H.length + (8 + d.length) + pad.toNat) + 200) * 1 ≤ 281474976710656 ∧ some 1 = some 1 ∧ 14 + H.length + (8 + d.length) + pad.toNat ≤ 70368744177664 then
 (if 0 + (14 + H.length + (8 + d.length)) * 1 ≤ (List.take ((14 + H.length) * 1) ((cE true false) ++ List.take (H.length * 1) (bys H)) ++ List.take ((8 + d.length) * 1) (zae (zae (cU n d) 6 [b8 255]) 7 [b8 255])).length then
 (if 0 = 0 ∧ 0 + (14 + H.length + (8 + d.length)) * 1 = (List.take ((14 + H.length) * 1) ((cE true false) ++ List.take (H.length * 1) (bys H)) ++ List.take ((8 + d.length) * 1) (zae (zae (cU n d) 6 [b8 255]) 7 [b8 255])).length ∧ (0 < pad.toNat ∨ 0 = 0) ∧ 1 = 1 ∧ (zex pad.toNat [b8 0]).all AV.isCell = true then
 K (AV.sl (some (16, 0)) (14 + H.length + (8 + d.length) + pad.toNat) 0 false) ((zkg n s pad p q r fl d H))
 else none) else none) else none) else none) else none) else none) else none) else none) else none) else none) else none) else none) else none) else none) else none) else none) else none) else none) else none) else none) else none) else none) else none) else none) else none) else none) else none) else none) := by
  kernel_rfl

end Go.Proofs.Ytnchnjkakddhlaa.L
