/- The reference's Build: what the kernel makes of it. -/
import Derived.Test.YtnchnjkakddhlaaBuildKit
set_option autoImplicit false
set_option maxRecDepth 100000
set_option linter.unusedVariables false
set_option linter.unusedSimpArgs false
namespace Go.Proofs.Ytnchnjkakddhlaa.L
open Go Go.Abs
open Go.IntKind (u8 u16 u32 u64 i64)
open Go.Abs.AV (int)
open Go.Abs.ABlk (cells)

noncomputable def zhg (A B H : List UInt8) (s : Int) : Tbl := [(24, zbj zsJ), (29, zbj (zgo zbh [(4, slB 4 A, [zbo A]), (5, slB 5 B, [zbo B])])), (30, zbj (zgo zfd [(10, .int .i64 s, [])])),
 (32, zbj (zgo zwF [(12, .tup [slB 12 H, .bool true], [zbo H]), (13, .tup [slB 13 H, .bool true], [zbo H]), (14, .tup [slB 14 H, .bool true], [zbo H]), (15, .tup [slB 15 H, .bool true], [zbo H])])), (33, zbj (zgo zwt [(12, .tup [slB 12 H, .bool true], [zbo H]), (13, .tup [slB 13 H, .bool true], [zbo H]), (14, .tup [slB 14 H, .bool true], [zbo H]), (15, .tup [slB 15 H, .bool true], [zbo H])]))]
theorem zd9 (A B H : List UInt8) (s : Int) : ∀ f E, (zhg A B H s).find f = some E → SoundE Try.prog f E := zal zxD (zal (zgN znB _) (zal (zgN zv0 _) (zal (zgN zA0 _) (zal (zgN zBA _) (zar _)))))
noncomputable def zgi (n : Int) (fl : UInt8) (d : List UInt8) : zaa := [cells (bys d) 1 Md.far none, cells (zkT false false n) 37 Md.own none, cells [b8 (u8.wrap ((wk n).fdiv 256)), b8 (u8.wrap (wk n)), b8 (u8.wrap (w80.fdiv 256)), b8 (u8.wrap w80), b8 0, b8 0, b8 0, b8 0, b8 0, b8 0, b8 0, b8 0, b8 80, b8 (fl.toNat : Int), b8 0, b8 0, b8 0, b8 0, b8 0, b8 0] 1 Md.ro none, cells (cT n fl d) 1 Md.own (some 2)]
noncomputable def zj5 (p q r : UInt8) : zaa := [cells [b8 10, b8 (p.toNat : Int), b8 (q.toNat : Int), b8 (r.toNat : Int)] 1 Md.own none]
noncomputable def zkW (n s pad : Int) (p q r fl : UInt8) (d H : List UInt8) (bare : Bool) : zaa := (zgi n fl d) ++ [cells [b8 10, b8 (p.toNat : Int), b8 (q.toNat : Int), b8 (r.toNat : Int)] 1 Md.own none]
noncomputable def zpz : zaa := [cells [b8 192, b8 168, b8 0, b8 1] 1 Md.own none]
noncomputable def zhE (n s pad : Int) (p q r fl : UInt8) (d H : List UInt8) (bare : Bool) : zaa := (zgi n fl d) ++ [ABlk.dead, cells [b8 192, b8 168, b8 0, b8 1] 1 Md.own none, ABlk.dead, cells [b8 0, b8 (zad (some (b8 6))), b8 (u8.wrap (((((20 + d.length) : Nat) : Int)).fdiv 256)), b8 (u8.wrap (((20 + d.length) : Nat) : Int))] 1 Md.own none, cells [b8 10, b8 (p.toNat : Int), b8 (q.toNat : Int), b8 (r.toNat : Int), b8 192, b8 168, b8 0, b8 1, b8 0, b8 (zad (some (b8 6))), b8 (u8.wrap (((((20 + d.length) : Nat) : Int)).fdiv 256)), b8 (u8.wrap (((20 + d.length) : Nat) : Int))] 1 Md.ro none, cells ([b8 10, b8 (p.toNat : Int), b8 (q.toNat : Int), b8 (r.toNat : Int), b8 192, b8 168, b8 0, b8 1, b8 0, b8 (zad (some (b8 6))), b8 (u8.wrap (((((20 + d.length) : Nat) : Int)).fdiv 256)), b8 (u8.wrap (((20 + d.length) : Nat) : Int))] ++ List.take ((20 + d.length) * 1) (cT n fl d)) 1 Md.own (some 8)]
noncomputable def zpe : zaa := []
noncomputable def zhO (n s pad : Int) (p q r fl : UInt8) (d H : List UInt8) (bare : Bool) : zaa := ((((zhE n s pad p q r fl d H bare).set 2 (ABlk.dead)).set 3 (cells (zae (zae (cT n fl d) 16 [b8 (u8.wrap ((i64.wrap (65535 - s)).fdiv 256))]) 17 [b8 (u8.wrap (i64.wrap (65535 - s)))]) 1 Md.own none))) ++ [cells [b8 1, b8 2, b8 3, b8 4, b8 5, b8 6, b8 7, b8 8, b8 9, b8 10, b8 11, b8 12] 1 Md.ro none, cells [b8 8, b8 0] 1 Md.own none, cells (cE false false) 1 Md.own (some 10)]
noncomputable def zpf (H : List UInt8) : zaa := [cells (bys H) 1 Md.own none]
noncomputable def zhu (n s pad : Int) (p q r fl : UInt8) (d H : List UInt8) (bare : Bool) : zaa := ((((zhO n s pad p q r fl d H bare).set 10 (ABlk.dead)).set 12 (ABlk.dead))) ++ [cells (bys H) 1 Md.own none, ABlk.dead, cells (List.take ((14 + H.length) * 1) ((cE false false) ++ List.take (H.length * 1) (bys H)) ++ List.take ((20 + d.length) * 1) (zae (zae (cT n fl d) 16 [b8 (u8.wrap ((i64.wrap (65535 - s)).fdiv 256))]) 17 [b8 (u8.wrap (i64.wrap (65535 - s)))])) 1 Md.ro none, cells (List.take ((14 + H.length + (20 + d.length)) * 1) (List.take ((14 + H.length) * 1) ((cE false false) ++ List.take (H.length * 1) (bys H)) ++ List.take ((20 + d.length) * 1) (zae (zae (cT n fl d) 16 [b8 (u8.wrap ((i64.wrap (65535 - s)).fdiv 256))]) 17 [b8 (u8.wrap (i64.wrap (65535 - s)))])) ++ zex pad.toNat [b8 0]) 1 Md.own (some 15)]
theorem zpu {R : Type} (n s pad : Int) (p q r fl : UInt8) (d H : List UInt8) (bare : Bool) (K : AV → zaa → Option R) :
 zbs Try.prog (zhg [10, p, q, r] [192, 168, 0, 1] H s) 100 4 [(52, .bool false), (56, .bool false), (60, .bool false), (135, .bool false)] [] 14 [.agg ([.int .u8 6] ++ zbD false n ++ zce false ++ [.int .u16 (zat n), .int .u16 80]), .int .u8 (fl.toNat : Int), slB 0 d, .bool false, .bool bare, .int .i64 pad] [zaC d] K =
 (if zas (zbD false n) = true then
 (if decide ((d.length : Int) > 2000) = false then
 (if decide (pad < 0) = false then
 (if decide (pad > 100) = false then
 (if 0 + d.length * 1 ≤ (bys d).length then
 (if (2 * (20 + d.length) + 200) * 1 ≤ 281474976710656 ∧ some 1 = some 1 ∧ 20 + d.length ≤ 70368744177664 then
 (if 0 = 0 ∧ 20 = [b8 (u8.wrap ((wk n).fdiv 256)), b8 (u8.wrap (wk n)), b8 (u8.wrap (w80.fdiv 256)), b8 (u8.wrap w80), b8 0, b8 0, b8 0, b8 0, b8 0, b8 0, b8 0, b8 0, b8 80, b8 (fl.toNat : Int), b8 0, b8 0, b8 0, b8 0, b8 0, b8 0].length ∧ (0 < d.length ∨ 0 = 0) ∧ 1 = 1 ∧ (List.take (d.length * 1) (bys d)).all AV.isCell = true then
 (if zaE (Says zbh [AV.agg (zbD false n)] (zgi n fl d) (AV.sl (some (4, 0)) [10, p, q, r].length 0 false) (zj5 p q r)) = true then
 (if zaE (Says zbh [AV.agg (zce false)] (zkW n s pad p q r fl d H bare) (AV.sl (some (5, 0)) 4 0 false) (zpz)) = true then
 (if 0 + (20 + d.length) * 1 ≤ (cT n fl d).length then
 (if (2 * ([10, p, q, r].length + 4 + 4 + (20 + d.length)) + 200) * 1 ≤ 281474976710656 ∧ some 1 = some 1 ∧ [10, p, q, r].length + 4 + 4 + (20 + d.length) ≤ 70368744177664 then
 (if 0 = 0 ∧ 0 + ([10, p, q, r].length + 4 + 4) * 1 = [b8 10, b8 (p.toNat : Int), b8 (q.toNat : Int), b8 (r.toNat : Int), b8 192, b8 168, b8 0, b8 1, b8 0, b8 (zad (some (b8 6))), b8 (u8.wrap (((((20 + d.length) : Nat) : Int)).fdiv 256)), b8 (u8.wrap (((20 + d.length) : Nat) : Int))].length ∧ (0 < 20 + d.length ∨ 0 = 0) ∧ 1 = 1 ∧ (List.take ((20 + d.length) * 1) (cT n fl d)).all AV.isCell = true then
 (if zaE (Says zfd [AV.sl (some (9, 0)) ([10, p, q, r].length + 4 + 4 + (20 + d.length)) 0 false, int u32 0] (zhE n s pad p q r fl d H bare) (int i64 s) (zpe)) = true then
 (if (i64.wrap (65535 - s) == 0) = false then
 (if Int.ofNat 0 ≤ Int.ofNat 16 ∧ 16 < (((20 + d.length) : Nat) : Int) then
 (if Int.ofNat 0 ≤ Int.ofNat 17 ∧ 17 < (((20 + d.length) : Nat) : Int) then
 (if zaE (Says zwt [AV.agg (zbD false n), AV.agg (zce false), b8 (zad (some (b8 6))), int i64 (((20 + d.length) : Nat) : Int)] (zhO n s pad p q r fl d H bare) (AV.tup [AV.sl (some (13, 0)) H.length 0 false, AV.bool true]) (zpf H)) = true then
 (if 0 + H.length * 1 ≤ (bys H).length then
 (if (2 * (14 + H.length) + 200) * 1 ≤ 281474976710656 ∧ some 1 = some 1 ∧ 14 + H.length ≤ 70368744177664 then
 (if 0 = 0 ∧ 14 = (cE false false).length ∧ (0 < H.length ∨ 0 = 0) ∧ 1 = 1 ∧ (List.take (H.length * 1) (bys H)).all AV.isCell = true then
 (if 0 + (20 + d.length) * 1 ≤ (zae (zae (cT n fl d) 16 [b8 (u8.wrap ((i64.wrap (65535 - s)).fdiv 256))]) 17 [b8 (u8.wrap (i64.wrap (65535 - s)))]).length then
 (if (2 * (14 + H.length + (20 + d.length)) + 200) * 1 ≤ 281474976710656 ∧ some 1 = some 1 ∧ 14 + H.length + (20 + d.length) ≤ 70368744177664 then
 (if 0 + (14 + H.length) * 1 ≤ ((cE false false) ++ List.take (H.length * 1) (bys H)).length then
 (if 0 = 0 ∧ 0 + (14 + H.length) * 1 = ((cE false false) ++ List.take (H.length * 1) (bys H)).length ∧ (0 < 20 + d.length ∨ 0 = 0) ∧ 1 = 1 ∧ (List.take ((20 + d.length) * 1) (zae (zae (cT n fl d) 16 [b8 (u8.wrap ((i64.wrap (65535 - s)).fdiv 256))]) 17 [b8 (u8.wrap (i64.wrap (65535 - s)))])).all AV.isCell = true then
 (if 1 = 1 ∧ 0 ≤ pad ∧ pad ≤ 70368744177664 ∧ pad * 1 ≤ 281474976710656 then
 (if (2 * (14 + H.length + (20 + d.length) + pad.toNat) + 200) * 1 ≤ 281474976710656 ∧ some 1 = some 1 ∧ 14 + H.length + (20 + d.length) + pad.toNat ≤ 70368744177664 then
 (if 0 + (14 + H.length + (20 + d.length)) * 1 ≤ (List.take ((14 + H.length) * 1) ((cE false false) ++ List.take (H.length * 1) (bys H)) ++ List.take ((20 + d.length) * 1) (zae (zae (cT n fl d) 16 [b8 (u8.wrap ((i64.wrap (65535 - s)).fdiv 256))]) 17 [b8 (u8.wrap (i64.wrap (65535 - s)))])).length then
 (if 0 = 0 ∧ 0 + (14 + H.length + (20 + d.length)) * 1 = (List.take ((14 + H.length) * 1) ((cE false false) ++ List.take (H.length * 1) (bys H)) ++ List.take ((20 + d.length) * 1) (zae (zae (cT n fl d) 16 [b8 (u8.wrap ((i64.wrap (65535 - s)).fdiv 256))]) 17 [b8 (u8.wrap (i64.wrap (65535 - s)))])).length ∧ (0 < pad.toNat ∨ 0 = 0) ∧ 1 = 1 ∧ (zex pad.toNat [b8 0]).all AV.isCell = true then
 K (AV.sl (some (16, 0)) (14 + H.length + (20 + d.length) + pad.toNat) 0 false) ((zhu n s pad p q r fl d H bare))
 else none) else none) else none) else none) else none) else none) else none) else none) else none) else none) else none) else none) else none) else none) else none) else none) else none) else none) else none) else none) else none) else none) else none) else none) else none) else none) else none) else none) := by
  kernel_rfl

noncomputable def zpA (n s pad : Int) (p q r fl : UInt8) (d H : List UInt8) (bare : Bool) : zaa := (zgi n fl d)
noncomputable def zpo (n s pad : Int) (p q r fl : UInt8) (d H : List UInt8) (bare : Bool) : zaa := (zj5 p q r)
noncomputable def zph (n s pad : Int) (p q r fl : UInt8) (d H : List UInt8) (bare : Bool) : zaa := (zkW n s pad p q r fl d H bare)
noncomputable def zpT : zaa := [cells [b8 192, b8 168, b8 0, b8 1] 1 Md.own none]
noncomputable def zpR (n s pad : Int) (p q r fl : UInt8) (d H : List UInt8) (bare : Bool) : zaa := (zhE n s pad p q r fl d H bare)
noncomputable def zqg : zaa := []
noncomputable def zo4 (n s pad : Int) (p q r fl : UInt8) (d H : List UInt8) (bare : Bool) : zaa := (zhO n s pad p q r fl d H bare)
noncomputable def zqm (H : List UInt8) : zaa := [cells (bys H) 1 Md.own none]
noncomputable def zki (n s pad : Int) (p q r fl : UInt8) (d H : List UInt8) (bare : Bool) : zaa := (zhu n s pad p q r fl d H bare)
theorem zp3 {R : Type} (n s pad : Int) (p q r fl : UInt8) (d H : List UInt8) (bare : Bool) (K : AV → zaa → Option R) :
 zbs Try.prog (zhg [10, p, q, r] [192, 168, 0, 1] H s) 100 4 [(52, .bool false), (56, .bool false), (60, .bool false), (135, .bool true)] [] 14 [.agg ([.int .u8 6] ++ zbD false n ++ zce false ++ [.int .u16 (zat n), .int .u16 80]), .int .u8 (fl.toNat : Int), slB 0 d, .bool false, .bool bare, .int .i64 pad] [zaC d] K =
 (if zas (zbD false n) = true then
 (if decide ((d.length : Int) > 2000) = false then
 (if decide (pad < 0) = false then
 (if decide (pad > 100) = false then
 (if 0 + d.length * 1 ≤ (bys d).length then
 (if (2 * (20 + d.length) + 200) * 1 ≤ 281474976710656 ∧ some 1 = some 1 ∧ 20 + d.length ≤ 70368744177664 then
 (if 0 = 0 ∧ 20 = [b8 (u8.wrap ((wk n).fdiv 256)), b8 (u8.wrap (wk n)), b8 (u8.wrap (w80.fdiv 256)), b8 (u8.wrap w80), b8 0, b8 0, b8 0, b8 0, b8 0, b8 0, b8 0, b8 0, b8 80, b8 (fl.toNat : Int), b8 0, b8 0, b8 0, b8 0, b8 0, b8 0].length ∧ (0 < d.length ∨ 0 = 0) ∧ 1 = 1 ∧ (List.take (d.length * 1) (bys d)).all AV.isCell = true then
 (if zaE (Says zbh [AV.agg (zbD false n)] (zpA n s pad p q r fl d H bare) (AV.sl (some (4, 0)) [10, p, q, r].length 0 false) (zpo n s pad p q r fl d H bare)) = true then
 (if zaE (Says zbh [AV.agg (zce false)] (zph n s pad p q r fl d H bare) (AV.sl (some (5, 0)) 4 0 false) (zpT)) = true then
 (if 0 + (20 + d.length) * 1 ≤ (cT n fl d).length then
 (if (2 * ([10, p, q, r].length + 4 + 4 + (20 + d.length)) + 200) * 1 ≤ 281474976710656 ∧ some 1 = some 1 ∧ [10, p, q, r].length + 4 + 4 + (20 + d.length) ≤ 70368744177664 then
 (if 0 = 0 ∧ 0 + ([10, p, q, r].length + 4 + 4) * 1 = [b8 10, b8 (p.toNat : Int), b8 (q.toNat : Int), b8 (r.toNat : Int), b8 192, b8 168, b8 0, b8 1, b8 0, b8 (zad (some (b8 6))), b8 (u8.wrap (((((20 + d.length) : Nat) : Int)).fdiv 256)), b8 (u8.wrap (((20 + d.length) : Nat) : Int))].length ∧ (0 < 20 + d.length ∨ 0 = 0) ∧ 1 = 1 ∧ (List.take ((20 + d.length) * 1) (cT n fl d)).all AV.isCell = true then
 (if zaE (Says zfd [AV.sl (some (9, 0)) ([10, p, q, r].length + 4 + 4 + (20 + d.length)) 0 false, int u32 0] (zpR n s pad p q r fl d H bare) (int i64 s) (zqg)) = true then
 (if (i64.wrap (65535 - s) == 0) = true then
 (if Int.ofNat 0 ≤ Int.ofNat 16 ∧ 16 < (((20 + d.length) : Nat) : Int) then
 (if Int.ofNat 0 ≤ Int.ofNat 17 ∧ 17 < (((20 + d.length) : Nat) : Int) then
 (if zaE (Says zwt [AV.agg (zbD false n), AV.agg (zce false), b8 (zad (some (b8 6))), int i64 (((20 + d.length) : Nat) : Int)] (zo4 n s pad p q r fl d H bare) (AV.tup [AV.sl (some (13, 0)) H.length 0 false, AV.bool true]) (zqm H)) = true then
 (if 0 + H.length * 1 ≤ (bys H).length then
 (if (2 * (14 + H.length) + 200) * 1 ≤ 281474976710656 ∧ some 1 = some 1 ∧ 14 + H.length ≤ 70368744177664 then
 (if 0 = 0 ∧ 14 = (cE false false).length ∧ (0 < H.length ∨ 0 = 0) ∧ 1 = 1 ∧ (List.take (H.length * 1) (bys H)).all AV.isCell = true then
 (if 0 + (20 + d.length) * 1 ≤ (zae (zae (cT n fl d) 16 [b8 (u8.wrap ((i64.wrap (65535 - s)).fdiv 256))]) 17 [b8 (u8.wrap (i64.wrap (65535 - s)))]).length then
 (if (2 * (14 + H.length + (20 + d.length)) + 200) * 1 ≤ 281474976710656 ∧ some 1 = some 1 ∧ 14 + H.length + (20 + d.length) ≤ 70368744177664 then
 (if 0 + (14 + H.length) * 1 ≤ ((cE false false) ++ List.take (H.length * 1) (bys H)).length then
 (if 0 = 0 ∧ 0 + (14 + H.length) * 1 = ((cE false false) ++ List.take (H.length * 1) (bys H)).length ∧ (0 < 20 + d.length ∨ 0 = 0) ∧ 1 = 1 ∧ (List.take ((20 + d.length) * 1) (zae (zae (cT n fl d) 16 [b8 (u8.wrap ((i64.wrap (65535 - s)).fdiv 256))]) 17 [b8 (u8.wrap (i64.wrap (65535 - s)))])).all AV.isCell = true then
 (if 1 = 1 ∧ 0 ≤ pad ∧ pad ≤ 70368744177664 ∧ pad * 1 ≤ 281474976710656 then
 (if (2 * (14 + H.length + (20 + d.length) + pad.toNat) + 200) * 1 ≤ 281474976710656 ∧ some 1 = some 1 ∧ 14 + H.length + (20 + d.length) + pad.toNat ≤ 70368744177664 then
 (if 0 + (14 + H.length + (20 + d.length)) * 1 ≤ (List.take ((14 + H.length) * 1) ((cE false false) ++ List.take (H.length * 1) (bys H)) ++ List.take ((20 + d.length) * 1) (zae (zae (cT n fl d) 16 [b8 (u8.wrap ((i64.wrap (65535 - s)).fdiv 256))]) 17 [b8 (u8.wrap (i64.wrap (65535 - s)))])).length then
 (if 0 = 0 ∧ 0 + (14 + H.length + (20 + d.length)) * 1 = (List.take ((14 + H.length) * 1) ((cE false false) ++ List.take (H.length * 1) (bys H)) ++ List.take ((20 + d.length) * 1) (zae (zae (cT n fl d) 16 [b8 (u8.wrap ((i64.wrap (65535 - s)).fdiv 256))]) 17 [b8 (u8.wrap (i64.wrap (65535 - s)))])).length ∧ (0 < pad.toNat ∨ 0 = 0) ∧ 1 = 1 ∧ (zex pad.toNat [b8 0]).all AV.isCell = true then
 K (AV.sl (some (16, 0)) (14 + H.length + (20 + d.length) + pad.toNat) 0 false) ((zki n s pad p q r fl d H bare))
 else none) else none) else none) else none) else none) else none) else none) else none) else none) else none) else none) else none) else none) else none) else none) else none) else none) else none) else none) else none) else none) else none) else none) else none) else none) else none) else none) else none) := by
  kernel_rfl

noncomputable def zf5 (n : Int) (d : List UInt8) : zaa := [cells (bys d) 1 Md.far none, cells (zkT false true n) 37 Md.own none, cells [b8 (u8.wrap ((wk n).fdiv 256)), b8 (u8.wrap (wk n)), b8 (u8.wrap (w80.fdiv 256)), b8 (u8.wrap w80), b8 (u8.wrap ((i64.wrap (8 + (d.length : Int))).fdiv 256)), b8 (u8.wrap (i64.wrap (8 + (d.length : Int)))), b8 0, b8 0] 1 Md.ro none, cells (cU n d) 1 Md.own (some 2)]
noncomputable def zkR (p q r : UInt8) : zaa := [cells [b8 10, b8 (p.toNat : Int), b8 (q.toNat : Int), b8 (r.toNat : Int)] 1 Md.own none]
noncomputable def zkd (n s pad : Int) (p q r fl : UInt8) (d H : List UInt8) : zaa := (zf5 n d) ++ [cells [b8 10, b8 (p.toNat : Int), b8 (q.toNat : Int), b8 (r.toNat : Int)] 1 Md.own none]
noncomputable def zpl : zaa := [cells [b8 192, b8 168, b8 0, b8 1] 1 Md.own none]
noncomputable def zhQ (n s pad : Int) (p q r fl : UInt8) (d H : List UInt8) : zaa := (zf5 n d) ++ [ABlk.dead, cells [b8 192, b8 168, b8 0, b8 1] 1 Md.own none, ABlk.dead, cells [b8 0, b8 (zad (some (b8 17))), b8 (u8.wrap (((((8 + d.length) : Nat) : Int)).fdiv 256)), b8 (u8.wrap (((8 + d.length) : Nat) : Int))] 1 Md.own none, cells [b8 10, b8 (p.toNat : Int), b8 (q.toNat : Int), b8 (r.toNat : Int), b8 192, b8 168, b8 0, b8 1, b8 0, b8 (zad (some (b8 17))), b8 (u8.wrap (((((8 + d.length) : Nat) : Int)).fdiv 256)), b8 (u8.wrap (((8 + d.length) : Nat) : Int))] 1 Md.ro none, cells ([b8 10, b8 (p.toNat : Int), b8 (q.toNat : Int), b8 (r.toNat : Int), b8 192, b8 168, b8 0, b8 1, b8 0, b8 (zad (some (b8 17))), b8 (u8.wrap (((((8 + d.length) : Nat) : Int)).fdiv 256)), b8 (u8.wrap (((8 + d.length) : Nat) : Int))] ++ List.take ((8 + d.length) * 1) (cU n d)) 1 Md.own (some 8)]
noncomputable def zqs : zaa := []
noncomputable def zhM (n s pad : Int) (p q r fl : UInt8) (d H : List UInt8) : zaa := ((((zhQ n s pad p q r fl d H).set 2 (ABlk.dead)).set 3 (cells (zae (zae (cU n d) 6 [b8 (u8.wrap ((i64.wrap (65535 - s)).fdiv 256))]) 7 [b8 (u8.wrap (i64.wrap (65535 - s)))]) 1 Md.own none))) ++ [cells [b8 1, b8 2, b8 3, b8 4, b8 5, b8 6, b8 7, b8 8, b8 9, b8 10, b8 11, b8 12] 1 Md.ro none, cells [b8 8, b8 0] 1 Md.own none, cells (cE false false) 1 Md.own (some 10)]
noncomputable def zpE (H : List UInt8) : zaa := [cells (bys H) 1 Md.own none]
noncomputable def zkx (n s pad : Int) (p q r fl : UInt8) (d H : List UInt8) : zaa := ((((zhM n s pad p q r fl d H).set 10 (ABlk.dead)).set 12 (ABlk.dead))) ++ [cells (bys H) 1 Md.own none, ABlk.dead, cells (List.take ((14 + H.length) * 1) ((cE false false) ++ List.take (H.length * 1) (bys H)) ++ List.take ((8 + d.length) * 1) (zae (zae (cU n d) 6 [b8 (u8.wrap ((i64.wrap (65535 - s)).fdiv 256))]) 7 [b8 (u8.wrap (i64.wrap (65535 - s)))])) 1 Md.ro none, cells (List.take ((14 + H.length + (8 + d.length)) * 1) (List.take ((14 + H.length) * 1) ((cE false false) ++ List.take (H.length * 1) (bys H)) ++ List.take ((8 + d.length) * 1) (zae (zae (cU n d) 6 [b8 (u8.wrap ((i64.wrap (65535 - s)).fdiv 256))]) 7 [b8 (u8.wrap (i64.wrap (65535 - s)))])) ++ zex pad.toNat [b8 0]) 1 Md.own (some 15)]
theorem zpI {R : Type} (n s pad : Int) (p q r fl : UInt8) (d H : List UInt8) (K : AV → zaa → Option R) :
 zbs Try.prog (zhg [10, p, q, r] [192, 168, 0, 1] H s) 100 4 [(52, .bool false), (56, .bool false), (60, .bool false), (135, .bool false)] [] 14 [.agg ([.int .u8 17] ++ zbD false n ++ zce false ++ [.int .u16 (zat n), .int .u16 80]), .int .u8 (fl.toNat : Int), slB 0 d, .bool false, .bool false, .int .i64 pad] [zaC d] K =
 (if zas (zbD false n) = true then
 (if decide ((d.length : Int) > 2000) = false then
 (if decide (pad < 0) = false then
 (if decide (pad > 100) = false then
 (if 0 + d.length * 1 ≤ (bys d).length then
 (if (2 * (8 + d.length) + 200) * 1 ≤ 281474976710656 ∧ some 1 = some 1 ∧ 8 + d.length ≤ 70368744177664 then
 (if 0 = 0 ∧ 8 = [b8 (u8.wrap ((wk n).fdiv 256)), b8 (u8.wrap (wk n)), b8 (u8.wrap (w80.fdiv 256)), b8 (u8.wrap w80), b8 (u8.wrap ((i64.wrap (8 + (d.length : Int))).fdiv 256)), b8 (u8.wrap (i64.wrap (8 + (d.length : Int)))), b8 0, b8 0].length ∧ (0 < d.length ∨ 0 = 0) ∧ 1 = 1 ∧ (List.take (d.length * 1) (bys d)).all AV.isCell = true then
 (if zaE (Says zbh [AV.agg (zbD false n)] (zf5 n d) (AV.sl (some (4, 0)) [10, p, q, r].length 0 false) (zkR p q r)) = true then
 (if zaE (Says zbh [AV.agg (zce false)] (zkd n s pad p q r fl d H) (AV.sl (some (5, 0)) 4 0 false) (zpl)) = true then
 (if 0 + (8 + d.length) * 1 ≤ (cU n d).length then
 (if (2 * ([10, p, q, r].length + 4 + 4 + (8 + d.length)) + 200) * 1 ≤ 281474976710656 ∧ some 1 = some 1 ∧ [10, p, q, r].length + 4 + 4 + (8 + d.length) ≤ 70368744177664 then
 (if 0 = 0 ∧ 0 + ([10, p, q, r].length + 4 + 4) * 1 = [b8 10, b8 (p.toNat : Int), b8 (q.toNat : Int), b8 (r.toNat : Int), b8 192, b8 168, b8 0, b8 1, b8 0, b8 (zad (some (b8 17))), b8 (u8.wrap (((((8 + d.length) : Nat) : Int)).fdiv 256)), b8 (u8.wrap (((8 + d.length) : Nat) : Int))].length ∧ (0 < 8 + d.length ∨ 0 = 0) ∧ 1 = 1 ∧ (List.take ((8 + d.length) * 1) (cU n d)).all AV.isCell = true then
 (if zaE (Says zfd [AV.sl (some (9, 0)) ([10, p, q, r].length + 4 + 4 + (8 + d.length)) 0 false, int u32 0] (zhQ n s pad p q r fl d H) (int i64 s) (zqs)) = true then
 (if (i64.wrap (65535 - s) == 0) = false then
 (if Int.ofNat 0 ≤ Int.ofNat 6 ∧ 6 < (((8 + d.length) : Nat) : Int) then
 (if Int.ofNat 0 ≤ Int.ofNat 7 ∧ 7 < (((8 + d.length) : Nat) : Int) then
 (if zaE (Says zwt [AV.agg (zbD false n), AV.agg (zce false), b8 (zad (some (b8 17))), int i64 (((8 + d.length) : Nat) : Int)] (zhM n s pad p q r fl d H) (AV.tup [AV.sl (some (13, 0)) H.length 0 false, AV.bool true]) (zpE H)) = true then
 (if 0 + H.length * 1 ≤ (bys H).length then
 (if (2 * (14 + H.length) + 200) * 1 ≤ 281474976710656 ∧ some 1 = some 1 ∧ 14 + H.length ≤ 70368744177664 then
 (if 0 = 0 ∧ 14 = (cE false false).length ∧ (0 < H.length ∨ 0 = 0) ∧ 1 = 1 ∧ (List.take (H.length * 1) (bys H)).all AV.isCell = true then
 (if 0 + (8 + d.length) * 1 ≤ (zae (zae (cU n d) 6 [b8 (u8.wrap ((i64.wrap (65535 - s)).fdiv 256))]) 7 [b8 (u8.wrap (i64.wrap (65535 - s)))]).length then
 (if (2 * (14 + H.length + (8 + d.length)) + 200) * 1 ≤ 281474976710656 ∧ some 1 = some 1 ∧ 14 + H.length + (8 + d.length) ≤ 70368744177664 then
 (if 0 + (14 + H.length) * 1 ≤ ((cE false false) ++ List.take (H.length * 1) (bys H)).length then
 (if 0 = 0 ∧ 0 + (14 + H.length) * 1 = ((cE false false) ++ List.take (H.length * 1) (bys H)).length ∧ (0 < 8 + d.length ∨ 0 = 0) ∧ 1 = 1 ∧ (List.take ((8 + d.length) * 1) (zae (zae (cU n d) 6 [b8 (u8.wrap ((i64.wrap (65535 - s)).fdiv 256))]) 7 [b8 (u8.wrap (i64.wrap (65535 - s)))])).all AV.isCell = true then
 (if 1 = 1 ∧ 0 ≤ pad ∧ pad ≤ 70368744177664 ∧ pad * 1 ≤ 281474976710656 then
 (if (2 * (14 + H.length + (8 + d.length) + pad.toNat) + 200) * 1 ≤ 281474976710656 ∧ some 1 = some 1 ∧ 14 + H.length + (8 + d.length) + pad.toNat ≤ 70368744177664 then
 (if 0 + (14 + H.length + (8 + d.length)) * 1 ≤ (List.take ((14 + H.length) * 1) ((cE false false) ++ List.take (H.length * 1) (bys H)) ++ List.take ((8 + d.length) * 1) (zae (zae (cU n d) 6 [b8 (u8.wrap ((i64.wrap (65535 - s)).fdiv 256))]) 7 [b8 (u8.wrap (i64.wrap (65535 - s)))])).length then
 (if 0 = 0 ∧ 0 + (14 + H.length + (8 + d.length)) * 1 = (List.take ((14 + H.length) * 1) ((cE false false) ++ List.take (H.length * 1) (bys H)) ++ List.take ((8 + d.length) * 1) (zae (zae (cU n d) 6 [b8 (u8.wrap ((i64.wrap (65535 - s)).fdiv 256))]) 7 [b8 (u8.wrap (i64.wrap (65535 - s)))])).length ∧ (0 < pad.toNat ∨ 0 = 0) ∧ 1 = 1 ∧ (zex pad.toNat [b8 0]).all AV.isCell = true then
 K (AV.sl (some (16, 0)) (14 + H.length + (8 + d.length) + pad.toNat) 0 false) ((zkx n s pad p q r fl d H))
 else none) else none) else none) else none) else none) else none) else none) else none) else none) else none) else none) else none) else none) else none) else none) else none) else none) else none) else none) else none) else none) else none) else none) else none) else none) else none) else none) else none) := by
  kernel_rfl

noncomputable def zpX (n s pad : Int) (p q r fl : UInt8) (d H : List UInt8) : zaa := (zf5 n d)
noncomputable def zqt (n s pad : Int) (p q r fl : UInt8) (d H : List UInt8) : zaa := (zkR p q r)
noncomputable def zpJ (n s pad : Int) (p q r fl : UInt8) (d H : List UInt8) : zaa := (zkd n s pad p q r fl d H)
noncomputable def zpU : zaa := [cells [b8 192, b8 168, b8 0, b8 1] 1 Md.own none]
noncomputable def zp7 (n s pad : Int) (p q r fl : UInt8) (d H : List UInt8) : zaa := (zhQ n s pad p q r fl d H)
noncomputable def zql : zaa := []
noncomputable def zkb (n s pad : Int) (p q r fl : UInt8) (d H : List UInt8) : zaa := ((zhM n s pad p q r fl d H).set 3 (cells (zae (zae (cU n d) 6 [b8 255]) 7 [b8 255]) 1 Md.own none))
noncomputable def zoR (H : List UInt8) : zaa := [cells (bys H) 1 Md.own none]
noncomputable def zj6 (n s pad : Int) (p q r fl : UInt8) (d H : List UInt8) : zaa := ((((zkb n s pad p q r fl d H).set 10 (ABlk.dead)).set 12 (ABlk.dead))) ++ [cells (bys H) 1 Md.own none, ABlk.dead, cells (List.take ((14 + H.length) * 1) ((cE false false) ++ List.take (H.length * 1) (bys H)) ++ List.take ((8 + d.length) * 1) (zae (zae (cU n d) 6 [b8 255]) 7 [b8 255])) 1 Md.ro none, cells (List.take ((14 + H.length + (8 + d.length)) * 1) (List.take ((14 + H.length) * 1) ((cE false false) ++ List.take (H.length * 1) (bys H)) ++ List.take ((8 + d.length) * 1) (zae (zae (cU n d) 6 [b8 255]) 7 [b8 255])) ++ zex pad.toNat [b8 0]) 1 Md.own (some 15)]
theorem zqq {R : Type} (n s pad : Int) (p q r fl : UInt8) (d H : List UInt8) (K : AV → zaa → Option R) :
 zbs Try.prog (zhg [10, p, q, r] [192, 168, 0, 1] H s) 100 4 [(52, .bool false), (56, .bool false), (60, .bool false), (135, .bool true)] [] 14 [.agg ([.int .u8 17] ++ zbD false n ++ zce false ++ [.int .u16 (zat n), .int .u16 80]), .int .u8 (fl.toNat : Int), slB 0 d, .bool false, .bool false, .int .i64 pad] [zaC d] K =
 (if zas (zbD false n) = true then
 (if decide ((d.length : Int) > 2000) = false then
 (if decide (pad < 0) = false then
 (if decide (pad > 100) = false then
 (if 0 + d.length * 1 ≤ (bys d).length then
 (if (2 * (8 + d.length) + 200) * 1 ≤ 281474976710656 ∧ some 1 = some 1 ∧ 8 + d.length ≤ 70368744177664 then
 (if 0 = 0 ∧ 8 = [b8 (u8.wrap ((wk n).fdiv 256)), b8 (u8.wrap (wk n)), b8 (u8.wrap (w80.fdiv 256)), b8 (u8.wrap w80), b8 (u8.wrap ((i64.wrap (8 + (d.length : Int))).fdiv 256)), b8 (u8.wrap (i64.wrap (8 + (d.length : Int)))), b8 0, b8 0].length ∧ (0 < d.length ∨ 0 = 0) ∧ 1 = 1 ∧ (List.take (d.length * 1) (bys d)).all AV.isCell = true then
 (if zaE (Says zbh [AV.agg (zbD false n)] (zpX n s pad p q r fl d H) (AV.sl (some (4, 0)) [10, p, q, r].length 0 false) (zqt n s pad p q r fl d H)) = true then
 (if zaE (Says zbh [AV.agg (zce false)] (zpJ n s pad p q r fl d H) (AV.sl (some (5, 0)) 4 0 false) (zpU)) = true then
 (if 0 + (8 + d.length) * 1 ≤ (cU n d).length then
 (if (2 * ([10, p, q, r].length + 4 + 4 + (8 + d.length)) + 200) * 1 ≤ 281474976710656 ∧ some 1 = some 1 ∧ [10, p, q, r].length + 4 + 4 + (8 + d.length) ≤ 70368744177664 then
 (if 0 = 0 ∧ 0 + ([10, p, q, r].length + 4 + 4) * 1 = [b8 10, b8 (p.toNat : Int), b8 (q.toNat : Int), b8 (r.toNat : Int), b8 192, b8 168, b8 0, b8 1, b8 0, b8 (zad (some (b8 17))), b8 (u8.wrap (((((8 + d.length) : Nat) : Int)).fdiv 256)), b8 (u8.wrap (((8 + d.length) : Nat) : Int))].length ∧ (0 < 8 + d.length ∨ 0 = 0) ∧ 1 = 1 ∧ (List.take ((8 + d.length) * 1) (cU n d)).all AV.isCell = true then
 (if zaE (Says zfd [AV.sl (some (9, 0)) ([10, p, q, r].length + 4 + 4 + (8 + d.length)) 0 false, int u32 0] (zp7 n s pad p q r fl d H) (int i64 s) (zql)) = true then
 (if (i64.wrap (65535 - s) == 0) = true then
 (if Int.ofNat 0 ≤ Int.ofNat 6 ∧ 6 < (((8 + d.length) : Nat) : Int) then
 (if Int.ofNat 0 ≤ Int.ofNat 7 ∧ 7 < (((8 + d.length) : Nat) : Int) then
 (if zaE (Says zwt [AV.agg (zbD false n), AV.agg (zce false), b8 (zad (some (b8 17))), int i64 (((8 + d.length) : Nat) : Int)] (zkb n s pad p q r fl d H) (AV.tup [AV.sl (some (13, 0)) H.length 0 false, AV.bool true]) (zoR H)) = true then
 (if 0 + H.length * 1 ≤ (bys H).length then
 (if (2 * (14 + H.length) + 200) * 1 ≤ 281474976710656 ∧ some 1 = some 1 ∧ 14 + H.length ≤ 70368744177664 then
 (if 0 = 0 ∧ 14 = (cE false false).length ∧ (0 < H.length ∨ 0 = 0) ∧ 1 = 1 ∧ (List.take (H.length * 1) (bys H)).all AV.isCell = true then
 (if 0 + (8 + d.length) * 1 ≤ (zae (zae (cU n d) 6 [b8 255]) 7 [b8 255]).length then
 (if (2 * (14 + H.length + (8 + d.length)) + 200) * 1 ≤ 281474976710656 ∧ some 1 = some 1 ∧ 14 + H.length + (8 + d.length) ≤ 70368744177664 then
 (if 0 + (14 + H.length) * 1 ≤ ((cE false false) ++ List.take (H.length * 1) (bys H)).length then
 (if 0 = 0 ∧ 0 + (14 + H.length) * 1 = ((cE false false) ++ List.take (H.length * 1) (bys H)).length ∧ (0 < 8 + d.length ∨ 0 = 0) ∧ 1 = 1 ∧ (List.take ((8 + d.length) * 1) (zae (zae (cU n d) 6 [b8 255]) 7 [b8 255])).all AV.isCell = true then
 (if 1 = 1 ∧ 0 ≤ pad ∧ pad ≤ 70368744177664 ∧ pad * 1 ≤ 281474976710656 then
 (if (2 * (14 + H.length + (8 + d.length) + pad.toNat) + 200) * 1 ≤ 281474976710656 ∧ some 1 = some 1 ∧ 14 + H.length + (8 + d.length) + pad.toNat ≤ 70368744177664 then
 (if 0 + (14 + H.length + (8 + d.length)) * 1 ≤ (List.take ((14 + H.length) * 1) ((cE false false) ++ List.take (H.length * 1) (bys H)) ++ List.take ((8 + d.length) * 1) (zae (zae (cU n d) 6 [b8 255]) 7 [b8 255])).length then
 (if 0 = 0 ∧ 0 + (14 + H.length + (8 + d.length)) * 1 = (List.take ((14 + H.length) * 1) ((cE false false) ++ List.take (H.length * 1) (bys H)) ++ List.take ((8 + d.length) * 1) (zae (zae (cU n d) 6 [b8 255]) 7 [b8 255])).length ∧ (0 < pad.toNat ∨ 0 = 0) ∧ 1 = 1 ∧ (zex pad.toNat [b8 0]).all AV.isCell = true then
 K (AV.sl (some (16, 0)) (14 + H.length + (8 + d.length) + pad.toNat) 0 false) ((zj6 n s pad p q r fl d H))
 else none) else none) else none) else none) else none) else none) else none) else none) else none) else none) else none) else none) else none) else none) else none) else none) else none) else none) else none) else none) else none) else none) else none) else none) else none) else none) else none) else none) := by
  kernel_rfl

end Go.Proofs.Ytnchnjkakddhlaa.L
