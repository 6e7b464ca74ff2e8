/- Good of a frame: what the kernel makes of it. -/
import Derived.Test.YtnchnjkakddhlaaRRead
import Derived.Test.YtnchnjkakddhlaaGood
set_option autoImplicit false
set_option maxRecDepth 100000
set_option linter.unusedVariables false
set_option linter.unusedSimpArgs false
namespace Go.Proofs.Ytnchnjkakddhlaa.L
open Go Go.Abs
open Go.IntKind (u8 u16 u32 u64 i64)
open Go.Abs.AV (int)
open Go.Abs.ABlk (cells)

noncomputable def znW (v : AV) (g : Bool) : Tbl := [(15, zbj (zgo zk7 [(1, v, [])])), (38, zbj (zgo zmz [(2, .bool g, [])]))]
theorem ziX (v : AV) (g : Bool) : ∀ f E, (znW v g).find f = some E → SoundE Try.prog f E := zal (zgN zwA _) (zal (zgN zxk _) (zar _))
noncomputable def zsu (l : List UInt8) : zaa := [cells (bys l) 1 Md.far none]
noncomputable def zmC : zaa := []
noncomputable def ztC (l : List UInt8) (v w : Bool) (A S E P sp dp fl x0 x1 x2 x3 x4 x5 x6 x7 x8 x9 x10 x11 x12 x13 x14 x15 y0 y1 y2 y3 y4 y5 y6 y7 y8 y9 y10 y11 y12 y13 y14 y15 : Int) : zaa := [cells (bys l) 1 Md.far none, cells [AV.bool v, int i64 A, int i64 S, int i64 E, int u8 P, AV.bool w, int u8 x0, int u8 x1, int u8 x2, int u8 x3, int u8 x4, int u8 x5, int u8 x6, int u8 x7, int u8 x8, int u8 x9, int u8 x10, int u8 x11, int u8 x12, int u8 x13, int u8 x14, int u8 x15, AV.bool w, int u8 y0, int u8 y1, int u8 y2, int u8 y3, int u8 y4, int u8 y5, int u8 y6, int u8 y7, int u8 y8, int u8 y9, int u8 y10, int u8 y11, int u8 y12, int u8 y13, int u8 y14, int u8 y15, int u16 sp, int u16 dp, int u8 fl] 42 Md.own none]
theorem zmN {R : Type} (l : List UInt8) (v w g : Bool) (A S E P sp dp fl : Int) (x0 x1 x2 x3 x4 x5 x6 x7 x8 x9 x10 x11 x12 x13 x14 x15 y0 y1 y2 y3 y4 y5 y6 y7 y8 y9 y10 y11 y12 y13 y14 y15 : Int) (K : AV → Option R) :
 zbs Try.prog (znW (.tup [.agg (zaO v A S E P (zbx w x0 x1 x2 x3 x4 x5 x6 x7 x8 x9 x10 x11 x12 x13 x14 x15) (zbx w y0 y1 y2 y3 y4 y5 y6 y7 y8 y9 y10 y11 y12 y13 y14 y15) sp dp fl), .int .i64 0]) g) 100 4 [(12, .bool true)] [] 16 [slB 0 l] [zaC l] (fun v _ => K v) =
 (if zaE (Says zk7 [AV.sl (some (0, 0)) l.length 0 false] (zsu l) (AV.tup [AV.agg [AV.bool v, int i64 A, int i64 S, int i64 E, int u8 P, AV.bool w, int u8 x0, int u8 x1, int u8 x2, int u8 x3, int u8 x4, int u8 x5, int u8 x6, int u8 x7, int u8 x8, int u8 x9, int u8 x10, int u8 x11, int u8 x12, int u8 x13, int u8 x14, int u8 x15, AV.bool w, int u8 y0, int u8 y1, int u8 y2, int u8 y3, int u8 y4, int u8 y5, int u8 y6, int u8 y7, int u8 y8, int u8 y9, int u8 y10, int u8 y11, int u8 y12, int u8 y13, int u8 y14, int u8 y15, int u16 sp, int u16 dp, int u8 fl], int i64 0]) (zmC)) = true then
 (if 0 ≤ zad (some (int i64 E)) ∧ zad (some (int i64 E)) ≤ (((zai l.length 0 false) : Nat) : Int) then
 (if 0 ≤ zad (some (int i64 S)) ∧ zad (some (int i64 S)) ≤ zad (some (int i64 E)) then
 (if zaE (Says zmz [int u8 (zad (some (int u8 P))), AV.sl (some (0, 0 + (zad (some (int i64 S))).toNat * 1)) ((zad (some (int i64 E))).toNat - (zad (some (int i64 S))).toNat) (zac l.length 0 (zad (some (int i64 S))).toNat (some (zad (some (int i64 E)))).isNone (zad (some (int i64 E))).toNat false) false, AV.agg [AV.bool w, int u8 x0, int u8 x1, int u8 x2, int u8 x3, int u8 x4, int u8 x5, int u8 x6, int u8 x7, int u8 x8, int u8 x9, int u8 x10, int u8 x11, int u8 x12, int u8 x13, int u8 x14, int u8 x15], AV.agg [AV.bool w, int u8 y0, int u8 y1, int u8 y2, int u8 y3, int u8 y4, int u8 y5, int u8 y6, int u8 y7, int u8 y8, int u8 y9, int u8 y10, int u8 y11, int u8 y12, int u8 y13, int u8 y14, int u8 y15]] (ztC l v w A S E P sp dp fl x0 x1 x2 x3 x4 x5 x6 x7 x8 x9 x10 x11 x12 x13 x14 x15 y0 y1 y2 y3 y4 y5 y6 y7 y8 y9 y10 y11 y12 y13 y14 y15) (AV.bool g) (zmC)) = true then
 K (AV.bool g)
 else none) else none) else none) else none) := by
  kernel_rfl

noncomputable def zsn (l : List UInt8) : zaa := [cells (bys l) 1 Md.far none]
noncomputable def zrw : zaa := []
theorem zrX {R : Type} (l : List UInt8) (r : Int) (K : AV → Option R) :
 zbs Try.prog (znW (.tup [.agg zl1, .int .i64 r]) false) 100 4 [(12, .bool false)] [] 16 [slB 0 l] [zaC l] (fun v _ => K v) =
 (if zaE (Says zk7 [AV.sl (some (0, 0)) l.length 0 false] (zsn l) (AV.tup [AV.agg zl1, int i64 r]) (zrw)) = true then
 (if (r == 0) = false then
 K (AV.bool false)
 else none) else none) := by
  kernel_rfl


end Go.Proofs.Ytnchnjkakddhlaa.L
