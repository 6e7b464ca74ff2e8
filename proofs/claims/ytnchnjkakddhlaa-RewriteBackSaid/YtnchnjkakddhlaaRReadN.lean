/- The reference's Read: what the kernel makes of it. -/
import Derived.Test.YtnchnjkakddhlaaOctB
import Derived.Test.YtnchnjkakddhlaaFour
import Derived.Test.YtnchnjkakddhlaaSix
set_option autoImplicit false
set_option maxRecDepth 100000
set_option linter.unusedVariables false
set_option linter.unusedSimpArgs false
namespace Go.Proofs.Ytnchnjkakddhlaa.L
open Go Go.Abs
open Go.IntKind (u8 u16 u32 u64 i64)
open Go.Abs.AV (int)
open Go.Abs.ABlk (cells)

noncomputable def zgu (A kd nr : Int) (v4 v6 sv : AV) : Tbl := [(34, zbj (zgo zhw [(2, .tup [.int .i64 A, .int .i64 kd, .int .i64 nr], [])])), (35, zbj (zgo zjp [(3, v4, [])])),
 (36, zbj (zgo znt [(3, v6, [])])), (37, zbj (zgo zdI [(3, sv, [])]))]
theorem zdO (A kd nr : Int) (v4 v6 sv : AV) : ∀ f E, (zgu A kd nr v4 v6 sv).find f = some E → SoundE Try.prog f E := zal (zgN zBq _) (zal (zgN zzt _) (zal (zgN zBf _) (zal (zgN zwn _) (zar _))))
noncomputable def zcK (l : List UInt8) : zaa := [cells (bys l) 1 Md.far none, cells [AV.bool false, int i64 0, int i64 0, int i64 0, int u8 0, AV.bool false, int u8 0, int u8 0, int u8 0, int u8 0, int u8 0, int u8 0, int u8 0, int u8 0, int u8 0, int u8 0, int u8 0, int u8 0, int u8 0, int u8 0, int u8 0, int u8 0, AV.bool false, int u8 0, int u8 0, int u8 0, int u8 0, int u8 0, int u8 0, int u8 0, int u8 0, int u8 0, int u8 0, int u8 0, int u8 0, int u8 0, int u8 0, int u8 0, int u8 0, int u16 0, int u16 0, int u8 0] 42 Md.own none]
noncomputable def zuI : zaa := []
theorem zuA {R : Type} (l : List UInt8) (A S E P sp dp fl r : Int) (x0 x1 x2 x3 x4 x5 x6 x7 x8 x9 x10 x11 x12 x13 x14 x15 y0 y1 y2 y3 y4 y5 y6 y7 y8 y9 y10 y11 y12 y13 y14 y15 : Int) (K : AV → Option R) :
 zbs Try.prog (zgu 0 0 r .nilFn .nilFn .nilFn) 100 4 [(17, .bool true)] [] 15 [slB 0 l] [zaC l] (fun v _ => K v) =
 (if zaE (Says zhw [AV.sl (some (0, 0)) l.length 0 false] (zcK l) (AV.tup [int i64 0, int i64 0, int i64 r]) (zuI)) = true then
 (if (r != 0) = true then
 K (AV.tup [AV.agg [AV.bool false, int i64 0, int i64 0, int i64 0, int u8 0, AV.bool false, int u8 0, int u8 0, int u8 0, int u8 0, int u8 0, int u8 0, int u8 0, int u8 0, int u8 0, int u8 0, int u8 0, int u8 0, int u8 0, int u8 0, int u8 0, int u8 0, AV.bool false, int u8 0, int u8 0, int u8 0, int u8 0, int u8 0, int u8 0, int u8 0, int u8 0, int u8 0, int u8 0, int u8 0, int u8 0, int u8 0, int u8 0, int u8 0, int u8 0, int u16 0, int u16 0, int u8 0], int i64 r])
 else none) else none) := by
  kernel_rfl

noncomputable def zsD (l : List UInt8) (A S E P sp dp fl r x0 x1 x2 x3 x4 x5 x6 x7 x8 x9 x10 x11 x12 x13 x14 x15 y0 y1 y2 y3 y4 y5 y6 y7 y8 y9 y10 y11 y12 y13 y14 y15 : Int) : zaa := (zcK l)
noncomputable def ziH : zaa := []
noncomputable def zeD (l : List UInt8) (A S E P sp dp fl r x0 x1 x2 x3 x4 x5 x6 x7 x8 x9 x10 x11 x12 x13 x14 x15 y0 y1 y2 y3 y4 y5 y6 y7 y8 y9 y10 y11 y12 y13 y14 y15 : Int) : zaa := (zcK l) ++ [cells [int i64 0, int i64 0, int u8 0, AV.bool false, int u8 0, int u8 0, int u8 0, int u8 0, int u8 0, int u8 0, int u8 0, int u8 0, int u8 0, int u8 0, int u8 0, int u8 0, int u8 0, int u8 0, int u8 0, int u8 0, AV.bool false, int u8 0, int u8 0, int u8 0, int u8 0, int u8 0, int u8 0, int u8 0, int u8 0, int u8 0, int u8 0, int u8 0, int u8 0, int u8 0, int u8 0, int u8 0, int u8 0] 37 Md.own none]
noncomputable def zmp (l : List UInt8) (A S E P sp dp fl r x0 x1 x2 x3 x4 x5 x6 x7 x8 x9 x10 x11 x12 x13 x14 x15 y0 y1 y2 y3 y4 y5 y6 y7 y8 y9 y10 y11 y12 y13 y14 y15 : Int) : zaa := (zcK l) ++ [cells [int i64 S, int i64 E, int u8 P, AV.bool false, int u8 x0, int u8 x1, int u8 x2, int u8 x3, int u8 x4, int u8 x5, int u8 x6, int u8 x7, int u8 x8, int u8 x9, int u8 x10, int u8 x11, int u8 x12, int u8 x13, int u8 x14, int u8 x15, AV.bool false, int u8 y0, int u8 y1, int u8 y2, int u8 y3, int u8 y4, int u8 y5, int u8 y6, int u8 y7, int u8 y8, int u8 y9, int u8 y10, int u8 y11, int u8 y12, int u8 y13, int u8 y14, int u8 y15] 37 Md.own none]
theorem zsc {R : Type} (l : List UInt8) (A S E P sp dp fl r : Int) (x0 x1 x2 x3 x4 x5 x6 x7 x8 x9 x10 x11 x12 x13 x14 x15 y0 y1 y2 y3 y4 y5 y6 y7 y8 y9 y10 y11 y12 y13 y14 y15 : Int) (K : AV → Option R) :
 zbs Try.prog (zgu A 2048 0 (.tup [.agg ([.int .i64 S, .int .i64 E, .int .u8 P] ++ zbx false x0 x1 x2 x3 x4 x5 x6 x7 x8 x9 x10 x11 x12 x13 x14 x15 ++ zbx false y0 y1 y2 y3 y4 y5 y6 y7 y8 y9 y10 y11 y12 y13 y14 y15), .int .i64 0]) .nilFn (.tup [.agg [.int .i64 sp, .int .i64 dp, .int .u8 fl], .int .i64 0])) 100 4 [(17, .bool false), (22, .bool false), (41, .bool false), (61, .bool false)] [] 15 [slB 0 l] [zaC l] (fun v _ => K v) =
 (if zaE (Says zhw [AV.sl (some (0, 0)) l.length 0 false] (zsD l A S E P sp dp fl r x0 x1 x2 x3 x4 x5 x6 x7 x8 x9 x10 x11 x12 x13 x14 x15 y0 y1 y2 y3 y4 y5 y6 y7 y8 y9 y10 y11 y12 y13 y14 y15) (AV.tup [int i64 A, int i64 2048, int i64 0]) (ziH)) = true then
 (if decide ((l.length : Int) > 65535) = false then
 (if 0 ≤ A ∧ A ≤ (l.length : Int) then
 (if zaE (Says zjp [AV.sl (some (0, 0 + A.toNat * 1)) (l.length - A.toNat) (zac l.length 0 A.toNat true l.length false) false] (zeD l A S E P sp dp fl r x0 x1 x2 x3 x4 x5 x6 x7 x8 x9 x10 x11 x12 x13 x14 x15 y0 y1 y2 y3 y4 y5 y6 y7 y8 y9 y10 y11 y12 y13 y14 y15) (AV.tup [AV.agg [int i64 S, int i64 E, int u8 P, AV.bool false, int u8 x0, int u8 x1, int u8 x2, int u8 x3, int u8 x4, int u8 x5, int u8 x6, int u8 x7, int u8 x8, int u8 x9, int u8 x10, int u8 x11, int u8 x12, int u8 x13, int u8 x14, int u8 x15, AV.bool false, int u8 y0, int u8 y1, int u8 y2, int u8 y3, int u8 y4, int u8 y5, int u8 y6, int u8 y7, int u8 y8, int u8 y9, int u8 y10, int u8 y11, int u8 y12, int u8 y13, int u8 y14, int u8 y15], int i64 0]) (ziH)) = true then
 (if 0 ≤ i64.wrap (A + zad (some (int i64 E))) ∧ i64.wrap (A + zad (some (int i64 E))) ≤ (((zai l.length 0 false) : Nat) : Int) then
 (if 0 ≤ i64.wrap (A + zad (some (int i64 S))) ∧ i64.wrap (A + zad (some (int i64 S))) ≤ i64.wrap (A + zad (some (int i64 E))) then
 (if zaE (Says zdI [int u8 (zad (some (int u8 P))), AV.sl (some (0, 0 + (i64.wrap (A + zad (some (int i64 S)))).toNat * 1)) ((i64.wrap (A + zad (some (int i64 E)))).toNat - (i64.wrap (A + zad (some (int i64 S)))).toNat) (zac l.length 0 (i64.wrap (A + zad (some (int i64 S)))).toNat (some (i64.wrap (A + zad (some (int i64 E))))).isNone (i64.wrap (A + zad (some (int i64 E)))).toNat false) false] (zmp l A S E P sp dp fl r x0 x1 x2 x3 x4 x5 x6 x7 x8 x9 x10 x11 x12 x13 x14 x15 y0 y1 y2 y3 y4 y5 y6 y7 y8 y9 y10 y11 y12 y13 y14 y15) (AV.tup [AV.agg [int i64 sp, int i64 dp, int u8 fl], int i64 0]) (ziH)) = true then
 K (AV.tup [AV.agg [AV.bool false, int i64 A, int i64 (i64.wrap (A + zad (some (int i64 S)))), int i64 (i64.wrap (A + zad (some (int i64 E)))), int u8 (zad (some (int u8 P))), AV.bool false, int u8 x0, int u8 x1, int u8 x2, int u8 x3, int u8 x4, int u8 x5, int u8 x6, int u8 x7, int u8 x8, int u8 x9, int u8 x10, int u8 x11, int u8 x12, int u8 x13, int u8 x14, int u8 x15, AV.bool false, int u8 y0, int u8 y1, int u8 y2, int u8 y3, int u8 y4, int u8 y5, int u8 y6, int u8 y7, int u8 y8, int u8 y9, int u8 y10, int u8 y11, int u8 y12, int u8 y13, int u8 y14, int u8 y15, int u16 (u16.wrap (zad (some (int i64 sp)))), int u16 (u16.wrap (zad (some (int i64 dp)))), int u8 (zad (some (int u8 fl)))], int i64 0])
 else none) else none) else none) else none) else none) else none) else none) := by
  kernel_rfl

noncomputable def zqG (l : List UInt8) (A S E P sp dp fl r x0 x1 x2 x3 x4 x5 x6 x7 x8 x9 x10 x11 x12 x13 x14 x15 y0 y1 y2 y3 y4 y5 y6 y7 y8 y9 y10 y11 y12 y13 y14 y15 : Int) : zaa := (zcK l)
noncomputable def zjk : zaa := []
noncomputable def zq4 (l : List UInt8) (A S E P sp dp fl r x0 x1 x2 x3 x4 x5 x6 x7 x8 x9 x10 x11 x12 x13 x14 x15 y0 y1 y2 y3 y4 y5 y6 y7 y8 y9 y10 y11 y12 y13 y14 y15 : Int) : zaa := (zeD l A S E P sp dp fl r x0 x1 x2 x3 x4 x5 x6 x7 x8 x9 x10 x11 x12 x13 x14 x15 y0 y1 y2 y3 y4 y5 y6 y7 y8 y9 y10 y11 y12 y13 y14 y15)
noncomputable def zmy (l : List UInt8) (A S E P sp dp fl r x0 x1 x2 x3 x4 x5 x6 x7 x8 x9 x10 x11 x12 x13 x14 x15 y0 y1 y2 y3 y4 y5 y6 y7 y8 y9 y10 y11 y12 y13 y14 y15 : Int) : zaa := (zcK l) ++ [cells [int i64 40, int i64 E, int u8 P, AV.bool true, int u8 x0, int u8 x1, int u8 x2, int u8 x3, int u8 x4, int u8 x5, int u8 x6, int u8 x7, int u8 x8, int u8 x9, int u8 x10, int u8 x11, int u8 x12, int u8 x13, int u8 x14, int u8 x15, AV.bool true, int u8 y0, int u8 y1, int u8 y2, int u8 y3, int u8 y4, int u8 y5, int u8 y6, int u8 y7, int u8 y8, int u8 y9, int u8 y10, int u8 y11, int u8 y12, int u8 y13, int u8 y14, int u8 y15] 37 Md.own none]
theorem zrA {R : Type} (l : List UInt8) (A S E P sp dp fl r : Int) (x0 x1 x2 x3 x4 x5 x6 x7 x8 x9 x10 x11 x12 x13 x14 x15 y0 y1 y2 y3 y4 y5 y6 y7 y8 y9 y10 y11 y12 y13 y14 y15 : Int) (K : AV → Option R) :
 zbs Try.prog (zgu A 34525 0 .nilFn (.tup [.agg ([.int .i64 40, .int .i64 E, .int .u8 P] ++ zbx true x0 x1 x2 x3 x4 x5 x6 x7 x8 x9 x10 x11 x12 x13 x14 x15 ++ zbx true y0 y1 y2 y3 y4 y5 y6 y7 y8 y9 y10 y11 y12 y13 y14 y15), .int .i64 0]) (.tup [.agg [.int .i64 sp, .int .i64 dp, .int .u8 fl], .int .i64 0])) 100 4 [(17, .bool false), (22, .bool false), (41, .bool false), (61, .bool false)] [] 15 [slB 0 l] [zaC l] (fun v _ => K v) =
 (if zaE (Says zhw [AV.sl (some (0, 0)) l.length 0 false] (zqG l A S E P sp dp fl r x0 x1 x2 x3 x4 x5 x6 x7 x8 x9 x10 x11 x12 x13 x14 x15 y0 y1 y2 y3 y4 y5 y6 y7 y8 y9 y10 y11 y12 y13 y14 y15) (AV.tup [int i64 A, int i64 34525, int i64 0]) (zjk)) = true then
 (if decide ((l.length : Int) > 65535) = false then
 (if 0 ≤ A ∧ A ≤ (l.length : Int) then
 (if zaE (Says znt [AV.sl (some (0, 0 + A.toNat * 1)) (l.length - A.toNat) (zac l.length 0 A.toNat true l.length false) false] (zq4 l A S E P sp dp fl r x0 x1 x2 x3 x4 x5 x6 x7 x8 x9 x10 x11 x12 x13 x14 x15 y0 y1 y2 y3 y4 y5 y6 y7 y8 y9 y10 y11 y12 y13 y14 y15) (AV.tup [AV.agg [int i64 40, int i64 E, int u8 P, AV.bool true, int u8 x0, int u8 x1, int u8 x2, int u8 x3, int u8 x4, int u8 x5, int u8 x6, int u8 x7, int u8 x8, int u8 x9, int u8 x10, int u8 x11, int u8 x12, int u8 x13, int u8 x14, int u8 x15, AV.bool true, int u8 y0, int u8 y1, int u8 y2, int u8 y3, int u8 y4, int u8 y5, int u8 y6, int u8 y7, int u8 y8, int u8 y9, int u8 y10, int u8 y11, int u8 y12, int u8 y13, int u8 y14, int u8 y15], int i64 0]) (zjk)) = true then
 (if 0 ≤ i64.wrap (A + zad (some (int i64 E))) ∧ i64.wrap (A + zad (some (int i64 E))) ≤ (((zai l.length 0 false) : Nat) : Int) then
 (if 0 ≤ i64.wrap (A + zad (some (int i64 40))) ∧ i64.wrap (A + zad (some (int i64 40))) ≤ i64.wrap (A + zad (some (int i64 E))) then
 (if zaE (Says zdI [int u8 (zad (some (int u8 P))), AV.sl (some (0, 0 + (i64.wrap (A + zad (some (int i64 40)))).toNat * 1)) ((i64.wrap (A + zad (some (int i64 E)))).toNat - (i64.wrap (A + zad (some (int i64 40)))).toNat) (zac l.length 0 (i64.wrap (A + zad (some (int i64 40)))).toNat (some (i64.wrap (A + zad (some (int i64 E))))).isNone (i64.wrap (A + zad (some (int i64 E)))).toNat false) false] (zmy l A S E P sp dp fl r x0 x1 x2 x3 x4 x5 x6 x7 x8 x9 x10 x11 x12 x13 x14 x15 y0 y1 y2 y3 y4 y5 y6 y7 y8 y9 y10 y11 y12 y13 y14 y15) (AV.tup [AV.agg [int i64 sp, int i64 dp, int u8 fl], int i64 0]) (zjk)) = true then
 K (AV.tup [AV.agg [AV.bool true, int i64 A, int i64 (i64.wrap (A + zad (some (int i64 40)))), int i64 (i64.wrap (A + zad (some (int i64 E)))), int u8 (zad (some (int u8 P))), AV.bool true, int u8 x0, int u8 x1, int u8 x2, int u8 x3, int u8 x4, int u8 x5, int u8 x6, int u8 x7, int u8 x8, int u8 x9, int u8 x10, int u8 x11, int u8 x12, int u8 x13, int u8 x14, int u8 x15, AV.bool true, int u8 y0, int u8 y1, int u8 y2, int u8 y3, int u8 y4, int u8 y5, int u8 y6, int u8 y7, int u8 y8, int u8 y9, int u8 y10, int u8 y11, int u8 y12, int u8 y13, int u8 y14, int u8 y15, int u16 (u16.wrap (zad (some (int i64 sp)))), int u16 (u16.wrap (zad (some (int i64 dp)))), int u8 (zad (some (int u8 fl)))], int i64 0])
 else none) else none) else none) else none) else none) else none) else none) := by
  kernel_rfl

noncomputable def zsM (l : List UInt8) (A S E P sp dp fl r x0 x1 x2 x3 x4 x5 x6 x7 x8 x9 x10 x11 x12 x13 x14 x15 y0 y1 y2 y3 y4 y5 y6 y7 y8 y9 y10 y11 y12 y13 y14 y15 : Int) : zaa := (zcK l)
noncomputable def zmo : zaa := []
noncomputable def zsh (l : List UInt8) (A S E P sp dp fl r x0 x1 x2 x3 x4 x5 x6 x7 x8 x9 x10 x11 x12 x13 x14 x15 y0 y1 y2 y3 y4 y5 y6 y7 y8 y9 y10 y11 y12 y13 y14 y15 : Int) : zaa := (zeD l A S E P sp dp fl r x0 x1 x2 x3 x4 x5 x6 x7 x8 x9 x10 x11 x12 x13 x14 x15 y0 y1 y2 y3 y4 y5 y6 y7 y8 y9 y10 y11 y12 y13 y14 y15)
theorem zrP {R : Type} (l : List UInt8) (A S E P sp dp fl r : Int) (x0 x1 x2 x3 x4 x5 x6 x7 x8 x9 x10 x11 x12 x13 x14 x15 y0 y1 y2 y3 y4 y5 y6 y7 y8 y9 y10 y11 y12 y13 y14 y15 : Int) (K : AV → Option R) :
 zbs Try.prog (zgu A 2048 0 (.tup [.agg ([.int .i64 0, .int .i64 0, .int .u8 0] ++ ziB ++ ziB), .int .i64 r]) .nilFn .nilFn) 100 4 [(17, .bool false), (22, .bool false), (41, .bool true)] [] 15 [slB 0 l] [zaC l] (fun v _ => K v) =
 (if zaE (Says zhw [AV.sl (some (0, 0)) l.length 0 false] (zsM l A S E P sp dp fl r x0 x1 x2 x3 x4 x5 x6 x7 x8 x9 x10 x11 x12 x13 x14 x15 y0 y1 y2 y3 y4 y5 y6 y7 y8 y9 y10 y11 y12 y13 y14 y15) (AV.tup [int i64 A, int i64 2048, int i64 0]) (zmo)) = true then
 (if decide ((l.length : Int) > 65535) = false then
 (if 0 ≤ A ∧ A ≤ (l.length : Int) then
 (if zaE (Says zjp [AV.sl (some (0, 0 + A.toNat * 1)) (l.length - A.toNat) (zac l.length 0 A.toNat true l.length false) false] (zsh l A S E P sp dp fl r x0 x1 x2 x3 x4 x5 x6 x7 x8 x9 x10 x11 x12 x13 x14 x15 y0 y1 y2 y3 y4 y5 y6 y7 y8 y9 y10 y11 y12 y13 y14 y15) (AV.tup [AV.agg [int i64 0, int i64 0, int u8 0, AV.bool false, int u8 0, int u8 0, int u8 0, int u8 0, int u8 0, int u8 0, int u8 0, int u8 0, int u8 0, int u8 0, int u8 0, int u8 0, int u8 0, int u8 0, int u8 0, int u8 0, AV.bool false, int u8 0, int u8 0, int u8 0, int u8 0, int u8 0, int u8 0, int u8 0, int u8 0, int u8 0, int u8 0, int u8 0, int u8 0, int u8 0, int u8 0, int u8 0, int u8 0], int i64 r]) (zmo)) = true then
 (if (r != 0) = true then
 K (AV.tup [AV.agg [AV.bool false, int i64 0, int i64 0, int i64 0, int u8 0, AV.bool false, int u8 0, int u8 0, int u8 0, int u8 0, int u8 0, int u8 0, int u8 0, int u8 0, int u8 0, int u8 0, int u8 0, int u8 0, int u8 0, int u8 0, int u8 0, int u8 0, AV.bool false, int u8 0, int u8 0, int u8 0, int u8 0, int u8 0, int u8 0, int u8 0, int u8 0, int u8 0, int u8 0, int u8 0, int u8 0, int u8 0, int u8 0, int u8 0, int u8 0, int u16 0, int u16 0, int u8 0], int i64 r])
 else none) else none) else none) else none) else none) := by
  kernel_rfl

noncomputable def zsq (l : List UInt8) (A S E P sp dp fl r x0 x1 x2 x3 x4 x5 x6 x7 x8 x9 x10 x11 x12 x13 x14 x15 y0 y1 y2 y3 y4 y5 y6 y7 y8 y9 y10 y11 y12 y13 y14 y15 : Int) : zaa := (zcK l)
noncomputable def zmn : zaa := []
noncomputable def zrc (l : List UInt8) (A S E P sp dp fl r x0 x1 x2 x3 x4 x5 x6 x7 x8 x9 x10 x11 x12 x13 x14 x15 y0 y1 y2 y3 y4 y5 y6 y7 y8 y9 y10 y11 y12 y13 y14 y15 : Int) : zaa := (zeD l A S E P sp dp fl r x0 x1 x2 x3 x4 x5 x6 x7 x8 x9 x10 x11 x12 x13 x14 x15 y0 y1 y2 y3 y4 y5 y6 y7 y8 y9 y10 y11 y12 y13 y14 y15)
theorem ztP {R : Type} (l : List UInt8) (A S E P sp dp fl r : Int) (x0 x1 x2 x3 x4 x5 x6 x7 x8 x9 x10 x11 x12 x13 x14 x15 y0 y1 y2 y3 y4 y5 y6 y7 y8 y9 y10 y11 y12 y13 y14 y15 : Int) (K : AV → Option R) :
 zbs Try.prog (zgu A 34525 0 .nilFn (.tup [.agg ([.int .i64 0, .int .i64 0, .int .u8 0] ++ ziB ++ ziB), .int .i64 r]) .nilFn) 100 4 [(17, .bool false), (22, .bool false), (41, .bool true)] [] 15 [slB 0 l] [zaC l] (fun v _ => K v) =
 (if zaE (Says zhw [AV.sl (some (0, 0)) l.length 0 false] (zsq l A S E P sp dp fl r x0 x1 x2 x3 x4 x5 x6 x7 x8 x9 x10 x11 x12 x13 x14 x15 y0 y1 y2 y3 y4 y5 y6 y7 y8 y9 y10 y11 y12 y13 y14 y15) (AV.tup [int i64 A, int i64 34525, int i64 0]) (zmn)) = true then
 (if decide ((l.length : Int) > 65535) = false then
 (if 0 ≤ A ∧ A ≤ (l.length : Int) then
 (if zaE (Says znt [AV.sl (some (0, 0 + A.toNat * 1)) (l.length - A.toNat) (zac l.length 0 A.toNat true l.length false) false] (zrc l A S E P sp dp fl r x0 x1 x2 x3 x4 x5 x6 x7 x8 x9 x10 x11 x12 x13 x14 x15 y0 y1 y2 y3 y4 y5 y6 y7 y8 y9 y10 y11 y12 y13 y14 y15) (AV.tup [AV.agg [int i64 0, int i64 0, int u8 0, AV.bool false, int u8 0, int u8 0, int u8 0, int u8 0, int u8 0, int u8 0, int u8 0, int u8 0, int u8 0, int u8 0, int u8 0, int u8 0, int u8 0, int u8 0, int u8 0, int u8 0, AV.bool false, int u8 0, int u8 0, int u8 0, int u8 0, int u8 0, int u8 0, int u8 0, int u8 0, int u8 0, int u8 0, int u8 0, int u8 0, int u8 0, int u8 0, int u8 0, int u8 0], int i64 r]) (zmn)) = true then
 (if (r != 0) = true then
 K (AV.tup [AV.agg [AV.bool false, int i64 0, int i64 0, int i64 0, int u8 0, AV.bool false, int u8 0, int u8 0, int u8 0, int u8 0, int u8 0, int u8 0, int u8 0, int u8 0, int u8 0, int u8 0, int u8 0, int u8 0, int u8 0, int u8 0, int u8 0, int u8 0, AV.bool false, int u8 0, int u8 0, int u8 0, int u8 0, int u8 0, int u8 0, int u8 0, int u8 0, int u8 0, int u8 0, int u8 0, int u8 0, int u8 0, int u8 0, int u8 0, int u8 0, int u16 0, int u16 0, int u8 0], int i64 r])
 else none) else none) else none) else none) else none) := by
  kernel_rfl

noncomputable def zr7 (l : List UInt8) (A S E P sp dp fl r x0 x1 x2 x3 x4 x5 x6 x7 x8 x9 x10 x11 x12 x13 x14 x15 y0 y1 y2 y3 y4 y5 y6 y7 y8 y9 y10 y11 y12 y13 y14 y15 : Int) : zaa := (zcK l)
noncomputable def ziQ : zaa := []
noncomputable def ztk (l : List UInt8) (A S E P sp dp fl r x0 x1 x2 x3 x4 x5 x6 x7 x8 x9 x10 x11 x12 x13 x14 x15 y0 y1 y2 y3 y4 y5 y6 y7 y8 y9 y10 y11 y12 y13 y14 y15 : Int) : zaa := (zeD l A S E P sp dp fl r x0 x1 x2 x3 x4 x5 x6 x7 x8 x9 x10 x11 x12 x13 x14 x15 y0 y1 y2 y3 y4 y5 y6 y7 y8 y9 y10 y11 y12 y13 y14 y15)
noncomputable def zrk (l : List UInt8) (A S E P sp dp fl r x0 x1 x2 x3 x4 x5 x6 x7 x8 x9 x10 x11 x12 x13 x14 x15 y0 y1 y2 y3 y4 y5 y6 y7 y8 y9 y10 y11 y12 y13 y14 y15 : Int) : zaa := (zmp l A S E P sp dp fl r x0 x1 x2 x3 x4 x5 x6 x7 x8 x9 x10 x11 x12 x13 x14 x15 y0 y1 y2 y3 y4 y5 y6 y7 y8 y9 y10 y11 y12 y13 y14 y15)
theorem zsI {R : Type} (l : List UInt8) (A S E P sp dp fl r : Int) (x0 x1 x2 x3 x4 x5 x6 x7 x8 x9 x10 x11 x12 x13 x14 x15 y0 y1 y2 y3 y4 y5 y6 y7 y8 y9 y10 y11 y12 y13 y14 y15 : Int) (K : AV → Option R) :
 zbs Try.prog (zgu A 2048 0 (.tup [.agg ([.int .i64 S, .int .i64 E, .int .u8 P] ++ zbx false x0 x1 x2 x3 x4 x5 x6 x7 x8 x9 x10 x11 x12 x13 x14 x15 ++ zbx false y0 y1 y2 y3 y4 y5 y6 y7 y8 y9 y10 y11 y12 y13 y14 y15), .int .i64 0]) .nilFn (.tup [.agg [.int .i64 0, .int .i64 0, .int .u8 0], .int .i64 r])) 100 4 [(17, .bool false), (22, .bool false), (41, .bool false), (61, .bool true)] [] 15 [slB 0 l] [zaC l] (fun v _ => K v) =
 (if zaE (Says zhw [AV.sl (some (0, 0)) l.length 0 false] (zr7 l A S E P sp dp fl r x0 x1 x2 x3 x4 x5 x6 x7 x8 x9 x10 x11 x12 x13 x14 x15 y0 y1 y2 y3 y4 y5 y6 y7 y8 y9 y10 y11 y12 y13 y14 y15) (AV.tup [int i64 A, int i64 2048, int i64 0]) (ziQ)) = true then
 (if decide ((l.length : Int) > 65535) = false then
 (if 0 ≤ A ∧ A ≤ (l.length : Int) then
 (if zaE (Says zjp [AV.sl (some (0, 0 + A.toNat * 1)) (l.length - A.toNat) (zac l.length 0 A.toNat true l.length false) false] (ztk l A S E P sp dp fl r x0 x1 x2 x3 x4 x5 x6 x7 x8 x9 x10 x11 x12 x13 x14 x15 y0 y1 y2 y3 y4 y5 y6 y7 y8 y9 y10 y11 y12 y13 y14 y15) (AV.tup [AV.agg [int i64 S, int i64 E, int u8 P, AV.bool false, int u8 x0, int u8 x1, int u8 x2, int u8 x3, int u8 x4, int u8 x5, int u8 x6, int u8 x7, int u8 x8, int u8 x9, int u8 x10, int u8 x11, int u8 x12, int u8 x13, int u8 x14, int u8 x15, AV.bool false, int u8 y0, int u8 y1, int u8 y2, int u8 y3, int u8 y4, int u8 y5, int u8 y6, int u8 y7, int u8 y8, int u8 y9, int u8 y10, int u8 y11, int u8 y12, int u8 y13, int u8 y14, int u8 y15], int i64 0]) (ziQ)) = true then
 (if 0 ≤ i64.wrap (A + zad (some (int i64 E))) ∧ i64.wrap (A + zad (some (int i64 E))) ≤ (((zai l.length 0 false) : Nat) : Int) then
 (if 0 ≤ i64.wrap (A + zad (some (int i64 S))) ∧ i64.wrap (A + zad (some (int i64 S))) ≤ i64.wrap (A + zad (some (int i64 E))) then
 (if zaE (Says zdI [int u8 (zad (some (int u8 P))), AV.sl (some (0, 0 + (i64.wrap (A + zad (some (int i64 S)))).toNat * 1)) ((i64.wrap (A + zad (some (int i64 E)))).toNat - (i64.wrap (A + zad (some (int i64 S)))).toNat) (zac l.length 0 (i64.wrap (A + zad (some (int i64 S)))).toNat (some (i64.wrap (A + zad (some (int i64 E))))).isNone (i64.wrap (A + zad (some (int i64 E)))).toNat false) false] (zrk l A S E P sp dp fl r x0 x1 x2 x3 x4 x5 x6 x7 x8 x9 x10 x11 x12 x13 x14 x15 y0 y1 y2 y3 y4 y5 y6 y7 y8 y9 y10 y11 y12 y13 y14 y15) (AV.tup [AV.agg [int i64 0, int i64 0, int u8 0], int i64 r]) (ziQ)) = true then
 (if (r != 0) = true then
 K (AV.tup [AV.agg [AV.bool false, int i64 0, int i64 0, int i64 0, int u8 0, AV.bool false, int u8 0, int u8 0, int u8 0, int u8 0, int u8 0, int u8 0, int u8 0, int u8 0, int u8 0, int u8 0, int u8 0, int u8 0, int u8 0, int u8 0, int u8 0, int u8 0, AV.bool false, int u8 0, int u8 0, int u8 0, int u8 0, int u8 0, int u8 0, int u8 0, int u8 0, int u8 0, int u8 0, int u8 0, int u8 0, int u8 0, int u8 0, int u8 0, int u8 0, int u16 0, int u16 0, int u8 0], int i64 r])
 else none) else none) else none) else none) else none) else none) else none) else none) := by
  kernel_rfl

noncomputable def ztl (l : List UInt8) (A S E P sp dp fl r x0 x1 x2 x3 x4 x5 x6 x7 x8 x9 x10 x11 x12 x13 x14 x15 y0 y1 y2 y3 y4 y5 y6 y7 y8 y9 y10 y11 y12 y13 y14 y15 : Int) : zaa := (zcK l)
noncomputable def zjg : zaa := []
noncomputable def zra (l : List UInt8) (A S E P sp dp fl r x0 x1 x2 x3 x4 x5 x6 x7 x8 x9 x10 x11 x12 x13 x14 x15 y0 y1 y2 y3 y4 y5 y6 y7 y8 y9 y10 y11 y12 y13 y14 y15 : Int) : zaa := (zeD l A S E P sp dp fl r x0 x1 x2 x3 x4 x5 x6 x7 x8 x9 x10 x11 x12 x13 x14 x15 y0 y1 y2 y3 y4 y5 y6 y7 y8 y9 y10 y11 y12 y13 y14 y15)
noncomputable def zrd (l : List UInt8) (A S E P sp dp fl r x0 x1 x2 x3 x4 x5 x6 x7 x8 x9 x10 x11 x12 x13 x14 x15 y0 y1 y2 y3 y4 y5 y6 y7 y8 y9 y10 y11 y12 y13 y14 y15 : Int) : zaa := (zmy l A S E P sp dp fl r x0 x1 x2 x3 x4 x5 x6 x7 x8 x9 x10 x11 x12 x13 x14 x15 y0 y1 y2 y3 y4 y5 y6 y7 y8 y9 y10 y11 y12 y13 y14 y15)
theorem zrF {R : Type} (l : List UInt8) (A S E P sp dp fl r : Int) (x0 x1 x2 x3 x4 x5 x6 x7 x8 x9 x10 x11 x12 x13 x14 x15 y0 y1 y2 y3 y4 y5 y6 y7 y8 y9 y10 y11 y12 y13 y14 y15 : Int) (K : AV → Option R) :
 zbs Try.prog (zgu A 34525 0 .nilFn (.tup [.agg ([.int .i64 40, .int .i64 E, .int .u8 P] ++ zbx true x0 x1 x2 x3 x4 x5 x6 x7 x8 x9 x10 x11 x12 x13 x14 x15 ++ zbx true y0 y1 y2 y3 y4 y5 y6 y7 y8 y9 y10 y11 y12 y13 y14 y15), .int .i64 0]) (.tup [.agg [.int .i64 0, .int .i64 0, .int .u8 0], .int .i64 r])) 100 4 [(17, .bool false), (22, .bool false), (41, .bool false), (61, .bool true)] [] 15 [slB 0 l] [zaC l] (fun v _ => K v) =
 (if zaE (Says zhw [AV.sl (some (0, 0)) l.length 0 false] (ztl l A S E P sp dp fl r x0 x1 x2 x3 x4 x5 x6 x7 x8 x9 x10 x11 x12 x13 x14 x15 y0 y1 y2 y3 y4 y5 y6 y7 y8 y9 y10 y11 y12 y13 y14 y15) (AV.tup [int i64 A, int i64 34525, int i64 0]) (zjg)) = true then
 (if decide ((l.length : Int) > 65535) = false then
 (if 0 ≤ A ∧ A ≤ (l.length : Int) then
 (if zaE (Says znt [AV.sl (some (0, 0 + A.toNat * 1)) (l.length - A.toNat) (zac l.length 0 A.toNat true l.length false) false] (zra l A S E P sp dp fl r x0 x1 x2 x3 x4 x5 x6 x7 x8 x9 x10 x11 x12 x13 x14 x15 y0 y1 y2 y3 y4 y5 y6 y7 y8 y9 y10 y11 y12 y13 y14 y15) (AV.tup [AV.agg [int i64 40, int i64 E, int u8 P, AV.bool true, int u8 x0, int u8 x1, int u8 x2, int u8 x3, int u8 x4, int u8 x5, int u8 x6, int u8 x7, int u8 x8, int u8 x9, int u8 x10, int u8 x11, int u8 x12, int u8 x13, int u8 x14, int u8 x15, AV.bool true, int u8 y0, int u8 y1, int u8 y2, int u8 y3, int u8 y4, int u8 y5, int u8 y6, int u8 y7, int u8 y8, int u8 y9, int u8 y10, int u8 y11, int u8 y12, int u8 y13, int u8 y14, int u8 y15], int i64 0]) (zjg)) = true then
 (if 0 ≤ i64.wrap (A + zad (some (int i64 E))) ∧ i64.wrap (A + zad (some (int i64 E))) ≤ (((zai l.length 0 false) : Nat) : Int) then
 (if 0 ≤ i64.wrap (A + zad (some (int i64 40))) ∧ i64.wrap (A + zad (some (int i64 40))) ≤ i64.wrap (A + zad (some (int i64 E))) then
 (if zaE (Says zdI [int u8 (zad (some (int u8 P))), AV.sl (some (0, 0 + (i64.wrap (A + zad (some (int i64 40)))).toNat * 1)) ((i64.wrap (A + zad (some (int i64 E)))).toNat - (i64.wrap (A + zad (some (int i64 40)))).toNat) (zac l.length 0 (i64.wrap (A + zad (some (int i64 40)))).toNat (some (i64.wrap (A + zad (some (int i64 E))))).isNone (i64.wrap (A + zad (some (int i64 E)))).toNat false) false] (zrd l A S E P sp dp fl r x0 x1 x2 x3 x4 x5 x6 x7 x8 x9 x10 x11 x12 x13 x14 x15 y0 y1 y2 y3 y4 y5 y6 y7 y8 y9 y10 y11 y12 y13 y14 y15) (AV.tup [AV.agg [int i64 0, int i64 0, int u8 0], int i64 r]) (zjg)) = true then
 (if (r != 0) = true then
 K (AV.tup [AV.agg [AV.bool false, int i64 0, int i64 0, int i64 0, int u8 0, AV.bool false, int u8 0, int u8 0, int u8 0, int u8 0, int u8 0, int u8 0, int u8 0, int u8 0, int u8 0, int u8 0, int u8 0, int u8 0, int u8 0, int u8 0, int u8 0, int u8 0, AV.bool false, int u8 0, int u8 0, int u8 0, int u8 0, int u8 0, int u8 0, int u8 0, int u8 0, int u8 0, int u8 0, int u8 0, int u8 0, int u8 0, int u8 0, int u8 0, int u8 0, int u16 0, int u16 0, int u8 0], int i64 r])
 else none) else none) else none) else none) else none) else none) else none) else none) := by
  kernel_rfl

noncomputable def zrH (l : List UInt8) (A S E P sp dp fl r x0 x1 x2 x3 x4 x5 x6 x7 x8 x9 x10 x11 x12 x13 x14 x15 y0 y1 y2 y3 y4 y5 y6 y7 y8 y9 y10 y11 y12 y13 y14 y15 : Int) : zaa := (zcK l)
noncomputable def zqJ : zaa := []
theorem zsp {R : Type} (l : List UInt8) (A S E P sp dp fl r : Int) (x0 x1 x2 x3 x4 x5 x6 x7 x8 x9 x10 x11 x12 x13 x14 x15 y0 y1 y2 y3 y4 y5 y6 y7 y8 y9 y10 y11 y12 y13 y14 y15 : Int) (K : AV → Option R) :
 zbs Try.prog (zgu A 2048 0 .nilFn .nilFn .nilFn) 100 4 [(17, .bool false), (22, .bool true)] [] 15 [slB 0 l] [zaC l] (fun v _ => K v) =
 (if zaE (Says zhw [AV.sl (some (0, 0)) l.length 0 false] (zrH l A S E P sp dp fl r x0 x1 x2 x3 x4 x5 x6 x7 x8 x9 x10 x11 x12 x13 x14 x15 y0 y1 y2 y3 y4 y5 y6 y7 y8 y9 y10 y11 y12 y13 y14 y15) (AV.tup [int i64 A, int i64 2048, int i64 0]) (zqJ)) = true then
 (if decide ((l.length : Int) > 65535) = true then
 K (AV.tup [AV.agg [AV.bool false, int i64 0, int i64 0, int i64 0, int u8 0, AV.bool false, int u8 0, int u8 0, int u8 0, int u8 0, int u8 0, int u8 0, int u8 0, int u8 0, int u8 0, int u8 0, int u8 0, int u8 0, int u8 0, int u8 0, int u8 0, int u8 0, AV.bool false, int u8 0, int u8 0, int u8 0, int u8 0, int u8 0, int u8 0, int u8 0, int u8 0, int u8 0, int u8 0, int u8 0, int u8 0, int u8 0, int u8 0, int u8 0, int u8 0, int u16 0, int u16 0, int u8 0], int i64 1])
 else none) else none) := by
  kernel_rfl

noncomputable def zsV (l : List UInt8) (A S E P sp dp fl r x0 x1 x2 x3 x4 x5 x6 x7 x8 x9 x10 x11 x12 x13 x14 x15 y0 y1 y2 y3 y4 y5 y6 y7 y8 y9 y10 y11 y12 y13 y14 y15 : Int) : zaa := (zcK l)
noncomputable def zqP : zaa := []
theorem ztF {R : Type} (l : List UInt8) (A S E P sp dp fl r : Int) (x0 x1 x2 x3 x4 x5 x6 x7 x8 x9 x10 x11 x12 x13 x14 x15 y0 y1 y2 y3 y4 y5 y6 y7 y8 y9 y10 y11 y12 y13 y14 y15 : Int) (K : AV → Option R) :
 zbs Try.prog (zgu A 34525 0 .nilFn .nilFn .nilFn) 100 4 [(17, .bool false), (22, .bool true)] [] 15 [slB 0 l] [zaC l] (fun v _ => K v) =
 (if zaE (Says zhw [AV.sl (some (0, 0)) l.length 0 false] (zsV l A S E P sp dp fl r x0 x1 x2 x3 x4 x5 x6 x7 x8 x9 x10 x11 x12 x13 x14 x15 y0 y1 y2 y3 y4 y5 y6 y7 y8 y9 y10 y11 y12 y13 y14 y15) (AV.tup [int i64 A, int i64 34525, int i64 0]) (zqP)) = true then
 (if decide ((l.length : Int) > 65535) = true then
 K (AV.tup [AV.agg [AV.bool false, int i64 0, int i64 0, int i64 0, int u8 0, AV.bool false, int u8 0, int u8 0, int u8 0, int u8 0, int u8 0, int u8 0, int u8 0, int u8 0, int u8 0, int u8 0, int u8 0, int u8 0, int u8 0, int u8 0, int u8 0, int u8 0, AV.bool false, int u8 0, int u8 0, int u8 0, int u8 0, int u8 0, int u8 0, int u8 0, int u8 0, int u8 0, int u8 0, int u8 0, int u8 0, int u8 0, int u8 0, int u8 0, int u8 0, int u16 0, int u16 0, int u8 0], int i64 1])
 else none) else none) := by
  kernel_rfl


end Go.Proofs.Ytnchnjkakddhlaa.L
