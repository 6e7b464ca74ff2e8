/- ipfour's Dest and Make, and the reference's. -/
import Derived.Test.YtnchnjkakddhlaaFour
import Derived.Test.YtnchnjkakddhlaaAddrB
import Derived.Test.YtnchnjkakddhlaaOctB
set_option autoImplicit false
set_option maxRecDepth 100000
set_option linter.unusedVariables false
set_option linter.unusedSimpArgs false
namespace Go.Proofs.Ytnchnjkakddhlaa.L
open Go Go.Abs
open Go.IntKind (u8 u16 u32 u64 i64)
open Go.Abs.AV (int)
open Go.Abs.ABlk (cells)

noncomputable def zsf : Tbl := [(42, zbj zma), (22, zbj zdB), (43, zbj zif), (44, zbj zeE), (45, zbj zfw), (46, zbj zbh)]
theorem zte : ∀ f E, zsf.find f = some E → SoundE Try.prog f E := zal zz2 (zal zoJ (zal zkD (zal zwD (zal zq5 (zal ztc (zar _))))))
noncomputable def znH : Tbl := [(30, zbj zfd)]
theorem zqT : ∀ f E, znH.find f = some E → SoundE Try.prog f E := zal zv0 (zar _)

noncomputable def zbB (l X : List UInt8) : zaa := [cells (bys l) 1 Md.far none, cells (AV.bool true :: bys X) 17 Md.own none]
noncomputable def zny (l X : List UInt8) : zaa := [cells (bys l) 1 Md.far none, cells (AV.bool true :: bys X) 17 Md.own none, cells [int i64 (z4 (bOf (zbB l X) (AV.sl (some (0, 0)) l.length 0 false)) (s4 (bOf (zbB l X) (AV.sl (some (0, 0)) l.length 0 false)))), int i64 (z4 (bOf (zbB l X) (AV.sl (some (0, 0)) l.length 0 false)) (zan (bOf (zbB l X) (AV.sl (some (0, 0)) l.length 0 false)) 2)), int u8 (z4 (bOf (zbB l X) (AV.sl (some (0, 0)) l.length 0 false)) (byt (bOf (zbB l X) (AV.sl (some (0, 0)) l.length 0 false)) 9)), AV.bool false, int u8 (z4 (bOf (zbB l X) (AV.sl (some (0, 0)) l.length 0 false)) (byt (bOf (zbB l X) (AV.sl (some (0, 0)) l.length 0 false)) 12)), int u8 (z4 (bOf (zbB l X) (AV.sl (some (0, 0)) l.length 0 false)) (byt (bOf (zbB l X) (AV.sl (some (0, 0)) l.length 0 false)) 13)), int u8 (z4 (bOf (zbB l X) (AV.sl (some (0, 0)) l.length 0 false)) (byt (bOf (zbB l X) (AV.sl (some (0, 0)) l.length 0 false)) 14)), int u8 (z4 (bOf (zbB l X) (AV.sl (some (0, 0)) l.length 0 false)) (byt (bOf (zbB l X) (AV.sl (some (0, 0)) l.length 0 false)) 15)), int u8 0, int u8 0, int u8 0, int u8 0, int u8 0, int u8 0, int u8 0, int u8 0, int u8 0, int u8 0, int u8 0, int u8 0, AV.bool false, int u8 (z4 (bOf (zbB l X) (AV.sl (some (0, 0)) l.length 0 false)) (byt (bOf (zbB l X) (AV.sl (some (0, 0)) l.length 0 false)) 16)), int u8 (z4 (bOf (zbB l X) (AV.sl (some (0, 0)) l.length 0 false)) (byt (bOf (zbB l X) (AV.sl (some (0, 0)) l.length 0 false)) 17)), int u8 (z4 (bOf (zbB l X) (AV.sl (some (0, 0)) l.length 0 false)) (byt (bOf (zbB l X) (AV.sl (some (0, 0)) l.length 0 false)) 18)), int u8 (z4 (bOf (zbB l X) (AV.sl (some (0, 0)) l.length 0 false)) (byt (bOf (zbB l X) (AV.sl (some (0, 0)) l.length 0 false)) 19)), int u8 0, int u8 0, int u8 0, int u8 0, int u8 0, int u8 0, int u8 0, int u8 0, int u8 0, int u8 0, int u8 0, int u8 0] 37 Md.own none]
theorem zxF {R : Type} (l X : List UInt8) (K : AV → zaa → Option R) :
 zbs Try.prog zsf 100 4 [] [] 20 [slB 0 l, .agg (.bool true :: bys X)] [zaC l] K =
 (if (bOk (zbB l X) (AV.sl (some (0, 0)) l.length 0 false) && decide (nOf (AV.sl (some (0, 0)) l.length 0 false) ≤ 1000000000000)) = true then
 (if (r4 (bOf (zbB l X) (AV.sl (some (0, 0)) l.length 0 false)) != 0) = true then
 K (AV.sl none 0 0 true) ((zny l X))
 else K (AV.sl none 0 0 true) ((zny l X)))
 else none) := by
  kernel_rfl

noncomputable def zaj (l : List UInt8) (a b c d : UInt8) (X : List AV) : zaa := [cells (bys l) 1 Md.far none, cells (AV.bool false :: int u8 (a.toNat : Int) :: int u8 (b.toNat : Int) :: int u8 (c.toNat : Int) :: int u8 (d.toNat : Int) :: X) 17 Md.own none]
noncomputable def zbQ (l : List UInt8) (a b c d : UInt8) (X : List AV) : zaa := [cells (bys l) 1 Md.far none, cells (AV.bool false :: int u8 (a.toNat : Int) :: int u8 (b.toNat : Int) :: int u8 (c.toNat : Int) :: int u8 (d.toNat : Int) :: X) 17 Md.own none, cells [int i64 (z4 (bOf (zaj l a b c d X) (AV.sl (some (0, 0)) l.length 0 false)) (s4 (bOf (zaj l a b c d X) (AV.sl (some (0, 0)) l.length 0 false)))), int i64 (z4 (bOf (zaj l a b c d X) (AV.sl (some (0, 0)) l.length 0 false)) (zan (bOf (zaj l a b c d X) (AV.sl (some (0, 0)) l.length 0 false)) 2)), int u8 (z4 (bOf (zaj l a b c d X) (AV.sl (some (0, 0)) l.length 0 false)) (byt (bOf (zaj l a b c d X) (AV.sl (some (0, 0)) l.length 0 false)) 9)), AV.bool false, int u8 (z4 (bOf (zaj l a b c d X) (AV.sl (some (0, 0)) l.length 0 false)) (byt (bOf (zaj l a b c d X) (AV.sl (some (0, 0)) l.length 0 false)) 12)), int u8 (z4 (bOf (zaj l a b c d X) (AV.sl (some (0, 0)) l.length 0 false)) (byt (bOf (zaj l a b c d X) (AV.sl (some (0, 0)) l.length 0 false)) 13)), int u8 (z4 (bOf (zaj l a b c d X) (AV.sl (some (0, 0)) l.length 0 false)) (byt (bOf (zaj l a b c d X) (AV.sl (some (0, 0)) l.length 0 false)) 14)), int u8 (z4 (bOf (zaj l a b c d X) (AV.sl (some (0, 0)) l.length 0 false)) (byt (bOf (zaj l a b c d X) (AV.sl (some (0, 0)) l.length 0 false)) 15)), int u8 0, int u8 0, int u8 0, int u8 0, int u8 0, int u8 0, int u8 0, int u8 0, int u8 0, int u8 0, int u8 0, int u8 0, AV.bool false, int u8 (z4 (bOf (zaj l a b c d X) (AV.sl (some (0, 0)) l.length 0 false)) (byt (bOf (zaj l a b c d X) (AV.sl (some (0, 0)) l.length 0 false)) 16)), int u8 (z4 (bOf (zaj l a b c d X) (AV.sl (some (0, 0)) l.length 0 false)) (byt (bOf (zaj l a b c d X) (AV.sl (some (0, 0)) l.length 0 false)) 17)), int u8 (z4 (bOf (zaj l a b c d X) (AV.sl (some (0, 0)) l.length 0 false)) (byt (bOf (zaj l a b c d X) (AV.sl (some (0, 0)) l.length 0 false)) 18)), int u8 (z4 (bOf (zaj l a b c d X) (AV.sl (some (0, 0)) l.length 0 false)) (byt (bOf (zaj l a b c d X) (AV.sl (some (0, 0)) l.length 0 false)) 19)), int u8 0, int u8 0, int u8 0, int u8 0, int u8 0, int u8 0, int u8 0, int u8 0, int u8 0, int u8 0, int u8 0, int u8 0] 37 Md.own none]
noncomputable def zcn (l : List UInt8) (a b c d : UInt8) (X : List AV) : zaa := [cells (bys l) 1 Md.far none, cells (AV.bool false :: int u8 (a.toNat : Int) :: int u8 (b.toNat : Int) :: int u8 (c.toNat : Int) :: int u8 (d.toNat : Int) :: X) 17 Md.own none, cells [int i64 (z4 (bOf (zaj l a b c d X) (AV.sl (some (0, 0)) l.length 0 false)) (s4 (bOf (zaj l a b c d X) (AV.sl (some (0, 0)) l.length 0 false)))), int i64 (z4 (bOf (zaj l a b c d X) (AV.sl (some (0, 0)) l.length 0 false)) (zan (bOf (zaj l a b c d X) (AV.sl (some (0, 0)) l.length 0 false)) 2)), int u8 (z4 (bOf (zaj l a b c d X) (AV.sl (some (0, 0)) l.length 0 false)) (byt (bOf (zaj l a b c d X) (AV.sl (some (0, 0)) l.length 0 false)) 9)), AV.bool false, int u8 (z4 (bOf (zaj l a b c d X) (AV.sl (some (0, 0)) l.length 0 false)) (byt (bOf (zaj l a b c d X) (AV.sl (some (0, 0)) l.length 0 false)) 12)), int u8 (z4 (bOf (zaj l a b c d X) (AV.sl (some (0, 0)) l.length 0 false)) (byt (bOf (zaj l a b c d X) (AV.sl (some (0, 0)) l.length 0 false)) 13)), int u8 (z4 (bOf (zaj l a b c d X) (AV.sl (some (0, 0)) l.length 0 false)) (byt (bOf (zaj l a b c d X) (AV.sl (some (0, 0)) l.length 0 false)) 14)), int u8 (z4 (bOf (zaj l a b c d X) (AV.sl (some (0, 0)) l.length 0 false)) (byt (bOf (zaj l a b c d X) (AV.sl (some (0, 0)) l.length 0 false)) 15)), int u8 0, int u8 0, int u8 0, int u8 0, int u8 0, int u8 0, int u8 0, int u8 0, int u8 0, int u8 0, int u8 0, int u8 0, AV.bool false, int u8 (z4 (bOf (zaj l a b c d X) (AV.sl (some (0, 0)) l.length 0 false)) (byt (bOf (zaj l a b c d X) (AV.sl (some (0, 0)) l.length 0 false)) 16)), int u8 (z4 (bOf (zaj l a b c d X) (AV.sl (some (0, 0)) l.length 0 false)) (byt (bOf (zaj l a b c d X) (AV.sl (some (0, 0)) l.length 0 false)) 17)), int u8 (z4 (bOf (zaj l a b c d X) (AV.sl (some (0, 0)) l.length 0 false)) (byt (bOf (zaj l a b c d X) (AV.sl (some (0, 0)) l.length 0 false)) 18)), int u8 (z4 (bOf (zaj l a b c d X) (AV.sl (some (0, 0)) l.length 0 false)) (byt (bOf (zaj l a b c d X) (AV.sl (some (0, 0)) l.length 0 false)) 19)), int u8 0, int u8 0, int u8 0, int u8 0, int u8 0, int u8 0, int u8 0, int u8 0, int u8 0, int u8 0, int u8 0, int u8 0] 37 Md.own none, cells (bys (bOf (zbQ l a b c d X) (AV.sl (some (0, 0)) l.length 0 false))) 1 Md.own none]
noncomputable def zdb (l : List UInt8) (a b c d : UInt8) (X : List AV) : zaa := [cells (bys l) 1 Md.far none, cells (AV.bool false :: int u8 (a.toNat : Int) :: int u8 (b.toNat : Int) :: int u8 (c.toNat : Int) :: int u8 (d.toNat : Int) :: X) 17 Md.own none, cells [int i64 (z4 (bOf (zaj l a b c d X) (AV.sl (some (0, 0)) l.length 0 false)) (s4 (bOf (zaj l a b c d X) (AV.sl (some (0, 0)) l.length 0 false)))), int i64 (z4 (bOf (zaj l a b c d X) (AV.sl (some (0, 0)) l.length 0 false)) (zan (bOf (zaj l a b c d X) (AV.sl (some (0, 0)) l.length 0 false)) 2)), int u8 (z4 (bOf (zaj l a b c d X) (AV.sl (some (0, 0)) l.length 0 false)) (byt (bOf (zaj l a b c d X) (AV.sl (some (0, 0)) l.length 0 false)) 9)), AV.bool false, int u8 (z4 (bOf (zaj l a b c d X) (AV.sl (some (0, 0)) l.length 0 false)) (byt (bOf (zaj l a b c d X) (AV.sl (some (0, 0)) l.length 0 false)) 12)), int u8 (z4 (bOf (zaj l a b c d X) (AV.sl (some (0, 0)) l.length 0 false)) (byt (bOf (zaj l a b c d X) (AV.sl (some (0, 0)) l.length 0 false)) 13)), int u8 (z4 (bOf (zaj l a b c d X) (AV.sl (some (0, 0)) l.length 0 false)) (byt (bOf (zaj l a b c d X) (AV.sl (some (0, 0)) l.length 0 false)) 14)), int u8 (z4 (bOf (zaj l a b c d X) (AV.sl (some (0, 0)) l.length 0 false)) (byt (bOf (zaj l a b c d X) (AV.sl (some (0, 0)) l.length 0 false)) 15)), int u8 0, int u8 0, int u8 0, int u8 0, int u8 0, int u8 0, int u8 0, int u8 0, int u8 0, int u8 0, int u8 0, int u8 0, AV.bool false, int u8 (z4 (bOf (zaj l a b c d X) (AV.sl (some (0, 0)) l.length 0 false)) (byt (bOf (zaj l a b c d X) (AV.sl (some (0, 0)) l.length 0 false)) 16)), int u8 (z4 (bOf (zaj l a b c d X) (AV.sl (some (0, 0)) l.length 0 false)) (byt (bOf (zaj l a b c d X) (AV.sl (some (0, 0)) l.length 0 false)) 17)), int u8 (z4 (bOf (zaj l a b c d X) (AV.sl (some (0, 0)) l.length 0 false)) (byt (bOf (zaj l a b c d X) (AV.sl (some (0, 0)) l.length 0 false)) 18)), int u8 (z4 (bOf (zaj l a b c d X) (AV.sl (some (0, 0)) l.length 0 false)) (byt (bOf (zaj l a b c d X) (AV.sl (some (0, 0)) l.length 0 false)) 19)), int u8 0, int u8 0, int u8 0, int u8 0, int u8 0, int u8 0, int u8 0, int u8 0, int u8 0, int u8 0, int u8 0, int u8 0] 37 Md.own none, cells (bys (bOf (zbQ l a b c d X) (AV.sl (some (0, 0)) l.length 0 false))) 1 Md.own none, cells [int u8 (((zaA (int u8 (a.toNat : Int))).toNat : Nat) : Int), int u8 (((zaA (int u8 (b.toNat : Int))).toNat : Nat) : Int), int u8 (((zaA (int u8 (c.toNat : Int))).toNat : Nat) : Int), int u8 (((zaA (int u8 (d.toNat : Int))).toNat : Nat) : Int)] 1 Md.own none]
noncomputable def zxl (l : List UInt8) (a b c d : UInt8) (X : List AV) : zaa := [cells (bys l) 1 Md.far none, cells (AV.bool false :: int u8 (a.toNat : Int) :: int u8 (b.toNat : Int) :: int u8 (c.toNat : Int) :: int u8 (d.toNat : Int) :: X) 17 Md.own none, cells [int i64 (z4 (bOf (zaj l a b c d X) (AV.sl (some (0, 0)) l.length 0 false)) (s4 (bOf (zaj l a b c d X) (AV.sl (some (0, 0)) l.length 0 false)))), int i64 (z4 (bOf (zaj l a b c d X) (AV.sl (some (0, 0)) l.length 0 false)) (zan (bOf (zaj l a b c d X) (AV.sl (some (0, 0)) l.length 0 false)) 2)), int u8 (z4 (bOf (zaj l a b c d X) (AV.sl (some (0, 0)) l.length 0 false)) (byt (bOf (zaj l a b c d X) (AV.sl (some (0, 0)) l.length 0 false)) 9)), AV.bool false, int u8 (z4 (bOf (zaj l a b c d X) (AV.sl (some (0, 0)) l.length 0 false)) (byt (bOf (zaj l a b c d X) (AV.sl (some (0, 0)) l.length 0 false)) 12)), int u8 (z4 (bOf (zaj l a b c d X) (AV.sl (some (0, 0)) l.length 0 false)) (byt (bOf (zaj l a b c d X) (AV.sl (some (0, 0)) l.length 0 false)) 13)), int u8 (z4 (bOf (zaj l a b c d X) (AV.sl (some (0, 0)) l.length 0 false)) (byt (bOf (zaj l a b c d X) (AV.sl (some (0, 0)) l.length 0 false)) 14)), int u8 (z4 (bOf (zaj l a b c d X) (AV.sl (some (0, 0)) l.length 0 false)) (byt (bOf (zaj l a b c d X) (AV.sl (some (0, 0)) l.length 0 false)) 15)), int u8 0, int u8 0, int u8 0, int u8 0, int u8 0, int u8 0, int u8 0, int u8 0, int u8 0, int u8 0, int u8 0, int u8 0, AV.bool false, int u8 (z4 (bOf (zaj l a b c d X) (AV.sl (some (0, 0)) l.length 0 false)) (byt (bOf (zaj l a b c d X) (AV.sl (some (0, 0)) l.length 0 false)) 16)), int u8 (z4 (bOf (zaj l a b c d X) (AV.sl (some (0, 0)) l.length 0 false)) (byt (bOf (zaj l a b c d X) (AV.sl (some (0, 0)) l.length 0 false)) 17)), int u8 (z4 (bOf (zaj l a b c d X) (AV.sl (some (0, 0)) l.length 0 false)) (byt (bOf (zaj l a b c d X) (AV.sl (some (0, 0)) l.length 0 false)) 18)), int u8 (z4 (bOf (zaj l a b c d X) (AV.sl (some (0, 0)) l.length 0 false)) (byt (bOf (zaj l a b c d X) (AV.sl (some (0, 0)) l.length 0 false)) 19)), int u8 0, int u8 0, int u8 0, int u8 0, int u8 0, int u8 0, int u8 0, int u8 0, int u8 0, int u8 0, int u8 0, int u8 0] 37 Md.own none, cells (bys (zcz (List.map zaA (bys (bOf (zbQ l a b c d X) (AV.sl (some (0, 0)) l.length 0 false)))) 10 2 (zaR (if Int.ofNat 0 ≤ Int.ofNat 10 ∧ 12 ≤ (((bOf (zcn l a b c d X) (AV.sl (some (0, 0)) l.length 0 false)).length : Nat) : Int) then zbv (bOf (zcn l a b c d X) (AV.sl (some (0, 0)) l.length 0 false)) 10 2 else 0) (bOf (zdb l a b c d X) (AV.sl (some (0, 16)) 4 (zac l.length 0 16 false 20 false) false)) (bOf (zdb l a b c d X) (AV.sl (some (4, 0)) (zag (List.take 17 (AV.bool false :: int u8 (a.toNat : Int) :: int u8 (b.toNat : Int) :: int u8 (c.toNat : Int) :: int u8 (d.toNat : Int) :: X))).length 0 false))))) 1 Md.own none, cells [int u8 (((zaA (int u8 (a.toNat : Int))).toNat : Nat) : Int), int u8 (((zaA (int u8 (b.toNat : Int))).toNat : Nat) : Int), int u8 (((zaA (int u8 (c.toNat : Int))).toNat : Nat) : Int), int u8 (((zaA (int u8 (d.toNat : Int))).toNat : Nat) : Int)] 1 Md.own none, cells [int u8 (((zaA (int u8 (a.toNat : Int))).toNat : Nat) : Int), int u8 (((zaA (int u8 (b.toNat : Int))).toNat : Nat) : Int), int u8 (((zaA (int u8 (c.toNat : Int))).toNat : Nat) : Int), int u8 (((zaA (int u8 (d.toNat : Int))).toNat : Nat) : Int)] 1 Md.own none]
noncomputable def zoa (l : List UInt8) (a b c d : UInt8) (X : List AV) : zaa := [cells (bys l) 1 Md.far none, cells (AV.bool false :: int u8 (a.toNat : Int) :: int u8 (b.toNat : Int) :: int u8 (c.toNat : Int) :: int u8 (d.toNat : Int) :: X) 17 Md.own none, cells [int i64 (z4 (bOf (zaj l a b c d X) (AV.sl (some (0, 0)) l.length 0 false)) (s4 (bOf (zaj l a b c d X) (AV.sl (some (0, 0)) l.length 0 false)))), int i64 (z4 (bOf (zaj l a b c d X) (AV.sl (some (0, 0)) l.length 0 false)) (zan (bOf (zaj l a b c d X) (AV.sl (some (0, 0)) l.length 0 false)) 2)), int u8 (z4 (bOf (zaj l a b c d X) (AV.sl (some (0, 0)) l.length 0 false)) (byt (bOf (zaj l a b c d X) (AV.sl (some (0, 0)) l.length 0 false)) 9)), AV.bool false, int u8 (z4 (bOf (zaj l a b c d X) (AV.sl (some (0, 0)) l.length 0 false)) (byt (bOf (zaj l a b c d X) (AV.sl (some (0, 0)) l.length 0 false)) 12)), int u8 (z4 (bOf (zaj l a b c d X) (AV.sl (some (0, 0)) l.length 0 false)) (byt (bOf (zaj l a b c d X) (AV.sl (some (0, 0)) l.length 0 false)) 13)), int u8 (z4 (bOf (zaj l a b c d X) (AV.sl (some (0, 0)) l.length 0 false)) (byt (bOf (zaj l a b c d X) (AV.sl (some (0, 0)) l.length 0 false)) 14)), int u8 (z4 (bOf (zaj l a b c d X) (AV.sl (some (0, 0)) l.length 0 false)) (byt (bOf (zaj l a b c d X) (AV.sl (some (0, 0)) l.length 0 false)) 15)), int u8 0, int u8 0, int u8 0, int u8 0, int u8 0, int u8 0, int u8 0, int u8 0, int u8 0, int u8 0, int u8 0, int u8 0, AV.bool false, int u8 (z4 (bOf (zaj l a b c d X) (AV.sl (some (0, 0)) l.length 0 false)) (byt (bOf (zaj l a b c d X) (AV.sl (some (0, 0)) l.length 0 false)) 16)), int u8 (z4 (bOf (zaj l a b c d X) (AV.sl (some (0, 0)) l.length 0 false)) (byt (bOf (zaj l a b c d X) (AV.sl (some (0, 0)) l.length 0 false)) 17)), int u8 (z4 (bOf (zaj l a b c d X) (AV.sl (some (0, 0)) l.length 0 false)) (byt (bOf (zaj l a b c d X) (AV.sl (some (0, 0)) l.length 0 false)) 18)), int u8 (z4 (bOf (zaj l a b c d X) (AV.sl (some (0, 0)) l.length 0 false)) (byt (bOf (zaj l a b c d X) (AV.sl (some (0, 0)) l.length 0 false)) 19)), int u8 0, int u8 0, int u8 0, int u8 0, int u8 0, int u8 0, int u8 0, int u8 0, int u8 0, int u8 0, int u8 0, int u8 0] 37 Md.own none, cells (zae (bys (zcz (List.map zaA (bys (bOf (zbQ l a b c d X) (AV.sl (some (0, 0)) l.length 0 false)))) 10 2 (zaR (if Int.ofNat 0 ≤ Int.ofNat 10 ∧ 12 ≤ (((bOf (zcn l a b c d X) (AV.sl (some (0, 0)) l.length 0 false)).length : Nat) : Int) then zbv (bOf (zcn l a b c d X) (AV.sl (some (0, 0)) l.length 0 false)) 10 2 else 0) (bOf (zdb l a b c d X) (AV.sl (some (0, 16)) 4 (zac l.length 0 16 false 20 false) false)) (bOf (zdb l a b c d X) (AV.sl (some (4, 0)) (zag (List.take 17 (AV.bool false :: int u8 (a.toNat : Int) :: int u8 (b.toNat : Int) :: int u8 (c.toNat : Int) :: int u8 (d.toNat : Int) :: X))).length 0 false))))) 16 (List.take ((zag (List.take 17 (AV.bool false :: int u8 (a.toNat : Int) :: int u8 (b.toNat : Int) :: int u8 (c.toNat : Int) :: int u8 (d.toNat : Int) :: X))).length.min ((bOf (zbQ l a b c d X) (AV.sl (some (0, 0)) l.length 0 false)).length - 16) * 1) [int u8 (((zaA (int u8 (a.toNat : Int))).toNat : Nat) : Int), int u8 (((zaA (int u8 (b.toNat : Int))).toNat : Nat) : Int), int u8 (((zaA (int u8 (c.toNat : Int))).toNat : Nat) : Int), int u8 (((zaA (int u8 (d.toNat : Int))).toNat : Nat) : Int)])) 1 Md.own none, cells [int u8 (((zaA (int u8 (a.toNat : Int))).toNat : Nat) : Int), int u8 (((zaA (int u8 (b.toNat : Int))).toNat : Nat) : Int), int u8 (((zaA (int u8 (c.toNat : Int))).toNat : Nat) : Int), int u8 (((zaA (int u8 (d.toNat : Int))).toNat : Nat) : Int)] 1 Md.own none, cells [int u8 (((zaA (int u8 (a.toNat : Int))).toNat : Nat) : Int), int u8 (((zaA (int u8 (b.toNat : Int))).toNat : Nat) : Int), int u8 (((zaA (int u8 (c.toNat : Int))).toNat : Nat) : Int), int u8 (((zaA (int u8 (d.toNat : Int))).toNat : Nat) : Int)] 1 Md.own none]
theorem zuf {R : Type} (l : List UInt8) (a b c d : UInt8) (X : List AV) (K : AV → zaa → Option R) :
 zbs Try.prog zsf 100 4 [] [] 20 [slB 0 l, .agg (.bool false :: zfr a b c d X)] [zaC l] K =
 (if (bOk (zaj l a b c d X) (AV.sl (some (0, 0)) l.length 0 false) && decide (nOf (AV.sl (some (0, 0)) l.length 0 false) ≤ 1000000000000)) = true then
 (if (r4 (bOf (zaj l a b c d X) (AV.sl (some (0, 0)) l.length 0 false)) != 0) = true then
 K (AV.sl none 0 0 true) ((zbQ l a b c d X))
 else (if (bOk (zbQ l a b c d X) (AV.sl (some (0, 0)) l.length 0 false) && decide (nOf (AV.sl (some (0, 0)) l.length 0 false) ≤ 1000000000000)) = true then
 (if (bOk (zcn l a b c d X) (AV.sl (some (0, 0)) l.length 0 false) && decide ((((nOf (AV.sl (some (0, 0)) l.length 0 false)) : Nat) : Int) < 9223372036854775000)) = true then
 (if Int.ofNat 0 ≤ Int.ofNat 20 ∧ 20 ≤ (((zai l.length 0 false) : Nat) : Int) then
 (if 17 ≤ (AV.bool false :: int u8 (a.toNat : Int) :: int u8 (b.toNat : Int) :: int u8 (c.toNat : Int) :: int u8 (d.toNat : Int) :: X).length then
 (if zas (List.take 17 (AV.bool false :: int u8 (a.toNat : Int) :: int u8 (b.toNat : Int) :: int u8 (c.toNat : Int) :: int u8 (d.toNat : Int) :: X)) = true then
 (if (bOk (zdb l a b c d X) (AV.sl (some (0, 16)) 4 (zac l.length 0 16 false 20 false) false) && bOk (zdb l a b c d X) (AV.sl (some (4, 0)) (zag (List.take 17 (AV.bool false :: int u8 (a.toNat : Int) :: int u8 (b.toNat : Int) :: int u8 (c.toNat : Int) :: int u8 (d.toNat : Int) :: X))).length 0 false) && decide (nOf (AV.sl (some (0, 16)) 4 (zac l.length 0 16 false 20 false) false) ≤ 70368744177664 ∧ (0 ≤ if Int.ofNat 0 ≤ Int.ofNat 10 ∧ 12 ≤ (((bOf (zcn l a b c d X) (AV.sl (some (0, 0)) l.length 0 false)).length : Nat) : Int) then zbv (bOf (zcn l a b c d X) (AV.sl (some (0, 0)) l.length 0 false)) 10 2 else 0) ∧ (if Int.ofNat 0 ≤ Int.ofNat 10 ∧ 12 ≤ (((bOf (zcn l a b c d X) (AV.sl (some (0, 0)) l.length 0 false)).length : Nat) : Int) then zbv (bOf (zcn l a b c d X) (AV.sl (some (0, 0)) l.length 0 false)) 10 2 else 0) < 65536)) = true then
 (if zaE (0 = 0 ∧ 0 = 0 ∧ false = false ∧ 1 = 1 ∧ (bOf (zbQ l a b c d X) (AV.sl (some (0, 0)) l.length 0 false)).length = (bys (bOf (zbQ l a b c d X) (AV.sl (some (0, 0)) l.length 0 false))).length ∧ (bOf (zbQ l a b c d X) (AV.sl (some (0, 0)) l.length 0 false)).length ≤ 1000000000000 ∧ (bys (bOf (zbQ l a b c d X) (AV.sl (some (0, 0)) l.length 0 false))).all zbC = true ∧ 0 ≤ zaR (if Int.ofNat 0 ≤ Int.ofNat 10 ∧ 12 ≤ (((bOf (zcn l a b c d X) (AV.sl (some (0, 0)) l.length 0 false)).length : Nat) : Int) then zbv (bOf (zcn l a b c d X) (AV.sl (some (0, 0)) l.length 0 false)) 10 2 else 0) (bOf (zdb l a b c d X) (AV.sl (some (0, 16)) 4 (zac l.length 0 16 false 20 false) false)) (bOf (zdb l a b c d X) (AV.sl (some (4, 0)) (zag (List.take 17 (AV.bool false :: int u8 (a.toNat : Int) :: int u8 (b.toNat : Int) :: int u8 (c.toNat : Int) :: int u8 (d.toNat : Int) :: X))).length 0 false)) ∧ zaR (if Int.ofNat 0 ≤ Int.ofNat 10 ∧ 12 ≤ (((bOf (zcn l a b c d X) (AV.sl (some (0, 0)) l.length 0 false)).length : Nat) : Int) then zbv (bOf (zcn l a b c d X) (AV.sl (some (0, 0)) l.length 0 false)) 10 2 else 0) (bOf (zdb l a b c d X) (AV.sl (some (0, 16)) 4 (zac l.length 0 16 false 20 false) false)) (bOf (zdb l a b c d X) (AV.sl (some (4, 0)) (zag (List.take 17 (AV.bool false :: int u8 (a.toNat : Int) :: int u8 (b.toNat : Int) :: int u8 (c.toNat : Int) :: int u8 (d.toNat : Int) :: X))).length 0 false)) < 65536 ∧ none ≠ some 3) = true then
 (if Int.ofNat 0 ≤ Int.ofNat 16 ∧ 16 ≤ (((bOf (zbQ l a b c d X) (AV.sl (some (0, 0)) l.length 0 false)).length : Nat) : Int) then
 (if 17 ≤ (AV.bool false :: int u8 (a.toNat : Int) :: int u8 (b.toNat : Int) :: int u8 (c.toNat : Int) :: int u8 (d.toNat : Int) :: X).length then
 (if zas (List.take 17 (AV.bool false :: int u8 (a.toNat : Int) :: int u8 (b.toNat : Int) :: int u8 (c.toNat : Int) :: int u8 (d.toNat : Int) :: X)) = true then
 (if 0 + (zag (List.take 17 (AV.bool false :: int u8 (a.toNat : Int) :: int u8 (b.toNat : Int) :: int u8 (c.toNat : Int) :: int u8 (d.toNat : Int) :: X))).length.min ((bOf (zbQ l a b c d X) (AV.sl (some (0, 0)) l.length 0 false)).length - 16) * 1 ≤ [int u8 (((zaA (int u8 (a.toNat : Int))).toNat : Nat) : Int), int u8 (((zaA (int u8 (b.toNat : Int))).toNat : Nat) : Int), int u8 (((zaA (int u8 (c.toNat : Int))).toNat : Nat) : Int), int u8 (((zaA (int u8 (d.toNat : Int))).toNat : Nat) : Int)].length then
 (if (List.take ((zag (List.take 17 (AV.bool false :: int u8 (a.toNat : Int) :: int u8 (b.toNat : Int) :: int u8 (c.toNat : Int) :: int u8 (d.toNat : Int) :: X))).length.min ((bOf (zbQ l a b c d X) (AV.sl (some (0, 0)) l.length 0 false)).length - 16) * 1) [int u8 (((zaA (int u8 (a.toNat : Int))).toNat : Nat) : Int), int u8 (((zaA (int u8 (b.toNat : Int))).toNat : Nat) : Int), int u8 (((zaA (int u8 (c.toNat : Int))).toNat : Nat) : Int), int u8 (((zaA (int u8 (d.toNat : Int))).toNat : Nat) : Int)]).length = 0 then
 K (AV.sl (some (3, 0)) (bOf (zbQ l a b c d X) (AV.sl (some (0, 0)) l.length 0 false)).length 0 false) ((zxl l a b c d X))
 else (if 0 < (bOf (zbQ l a b c d X) (AV.sl (some (0, 0)) l.length 0 false)).length - 16 then
 (if 16 + (List.take ((zag (List.take 17 (AV.bool false :: int u8 (a.toNat : Int) :: int u8 (b.toNat : Int) :: int u8 (c.toNat : Int) :: int u8 (d.toNat : Int) :: X))).length.min ((bOf (zbQ l a b c d X) (AV.sl (some (0, 0)) l.length 0 false)).length - 16) * 1) [int u8 (((zaA (int u8 (a.toNat : Int))).toNat : Nat) : Int), int u8 (((zaA (int u8 (b.toNat : Int))).toNat : Nat) : Int), int u8 (((zaA (int u8 (c.toNat : Int))).toNat : Nat) : Int), int u8 (((zaA (int u8 (d.toNat : Int))).toNat : Nat) : Int)]).length ≤ (bys (zcz (List.map zaA (bys (bOf (zbQ l a b c d X) (AV.sl (some (0, 0)) l.length 0 false)))) 10 2 (zaR (if Int.ofNat 0 ≤ Int.ofNat 10 ∧ 12 ≤ (((bOf (zcn l a b c d X) (AV.sl (some (0, 0)) l.length 0 false)).length : Nat) : Int) then zbv (bOf (zcn l a b c d X) (AV.sl (some (0, 0)) l.length 0 false)) 10 2 else 0) (bOf (zdb l a b c d X) (AV.sl (some (0, 16)) 4 (zac l.length 0 16 false 20 false) false)) (bOf (zdb l a b c d X) (AV.sl (some (4, 0)) (zag (List.take 17 (AV.bool false :: int u8 (a.toNat : Int) :: int u8 (b.toNat : Int) :: int u8 (c.toNat : Int) :: int u8 (d.toNat : Int) :: X))).length 0 false))))).length ∧ (List.take ((zag (List.take 17 (AV.bool false :: int u8 (a.toNat : Int) :: int u8 (b.toNat : Int) :: int u8 (c.toNat : Int) :: int u8 (d.toNat : Int) :: X))).length.min ((bOf (zbQ l a b c d X) (AV.sl (some (0, 0)) l.length 0 false)).length - 16) * 1) [int u8 (((zaA (int u8 (a.toNat : Int))).toNat : Nat) : Int), int u8 (((zaA (int u8 (b.toNat : Int))).toNat : Nat) : Int), int u8 (((zaA (int u8 (c.toNat : Int))).toNat : Nat) : Int), int u8 (((zaA (int u8 (d.toNat : Int))).toNat : Nat) : Int)]).all AV.isCell = true then
 K (AV.sl (some (3, 0)) (bOf (zbQ l a b c d X) (AV.sl (some (0, 0)) l.length 0 false)).length 0 false) ((zoa l a b c d X))
 else none) else none))
 else none) else none) else none) else none) else none) else none) else none) else none) else none) else none) else none))
 else none) := by
  kernel_rfl

noncomputable def zur (X Y : List UInt8) : zaa := [cells (AV.bool true :: bys X) 17 Md.own none, cells (AV.bool true :: bys Y) 17 Md.own none]
theorem zve {R : Type} (pr n : Int) (X Y : List UInt8) (K : AV → zaa → Option R) :
 zbs Try.prog znH 100 4 [] [] 33 [.agg (.bool true :: bys X), .agg (.bool true :: bys Y), .int .u8 pr, .int .i64 n] [] K =
 K (AV.tup [AV.sl none 0 0 true, AV.bool false]) ((zur X Y)) := by
  kernel_rfl

noncomputable def zu0 (X Y : List UInt8) : zaa := [cells (AV.bool true :: bys X) 17 Md.own none, cells (AV.bool false :: bys Y) 17 Md.own none]
theorem zvE {R : Type} (pr n : Int) (X Y : List UInt8) (K : AV → zaa → Option R) :
 zbs Try.prog znH 100 4 [] [] 33 [.agg (.bool true :: bys X), .agg (.bool false :: bys Y), .int .u8 pr, .int .i64 n] [] K =
 K (AV.tup [AV.sl none 0 0 true, AV.bool false]) ((zu0 X Y)) := by
  kernel_rfl

noncomputable def zvz (X Y : List UInt8) : zaa := [cells (AV.bool false :: bys X) 17 Md.own none, cells (AV.bool true :: bys Y) 17 Md.own none]
theorem zuQ {R : Type} (pr n : Int) (X Y : List UInt8) (K : AV → zaa → Option R) :
 zbs Try.prog znH 100 4 [] [] 33 [.agg (.bool false :: bys X), .agg (.bool true :: bys Y), .int .u8 pr, .int .i64 n] [] K =
 K (AV.tup [AV.sl none 0 0 true, AV.bool false]) ((zvz X Y)) := by
  kernel_rfl

noncomputable def zon (a b c d : UInt8) (X : List AV) (e f g i : UInt8) (Y : List AV) : zaa := [cells (AV.bool false :: int u8 (a.toNat : Int) :: int u8 (b.toNat : Int) :: int u8 (c.toNat : Int) :: int u8 (d.toNat : Int) :: X) 17 Md.own none, cells (AV.bool false :: int u8 (e.toNat : Int) :: int u8 (f.toNat : Int) :: int u8 (g.toNat : Int) :: int u8 (i.toNat : Int) :: Y) 17 Md.own none]
noncomputable def zgf (pr n : Int) (a b c d : UInt8) (X : List AV) (e f g i : UInt8) (Y : List AV) : zaa := [cells (AV.bool false :: int u8 (a.toNat : Int) :: int u8 (b.toNat : Int) :: int u8 (c.toNat : Int) :: int u8 (d.toNat : Int) :: X) 17 Md.own none, cells (AV.bool false :: int u8 (e.toNat : Int) :: int u8 (f.toNat : Int) :: int u8 (g.toNat : Int) :: int u8 (i.toNat : Int) :: Y) 17 Md.own none, cells [int u8 69, int u8 0, int u8 (u8.wrap ((i64.wrap (20 + n)).fdiv 256)), int u8 (u8.wrap (i64.wrap (20 + n))), int u8 0, int u8 0, int u8 64, int u8 0, int u8 64, int u8 pr, int u8 0, int u8 0, int u8 (zad (some (int u8 (a.toNat : Int)))), int u8 (zad (some (int u8 (b.toNat : Int)))), int u8 (zad (some (int u8 (c.toNat : Int)))), int u8 (zad (some (int u8 (d.toNat : Int)))), int u8 (zad (some (int u8 (e.toNat : Int)))), int u8 (zad (some (int u8 (f.toNat : Int)))), int u8 (zad (some (int u8 (g.toNat : Int)))), int u8 (zad (some (int u8 (i.toNat : Int))))] 1 Md.own none]
noncomputable def ziD (pr n : Int) (a b c d : UInt8) (X : List AV) (e f g i : UInt8) (Y : List AV) : zaa := [cells (AV.bool false :: int u8 (a.toNat : Int) :: int u8 (b.toNat : Int) :: int u8 (c.toNat : Int) :: int u8 (d.toNat : Int) :: X) 17 Md.own none, cells (AV.bool false :: int u8 (e.toNat : Int) :: int u8 (f.toNat : Int) :: int u8 (g.toNat : Int) :: int u8 (i.toNat : Int) :: Y) 17 Md.own none, cells [int u8 69, int u8 0, int u8 (u8.wrap ((i64.wrap (20 + n)).fdiv 256)), int u8 (u8.wrap (i64.wrap (20 + n))), int u8 0, int u8 0, int u8 64, int u8 0, int u8 64, int u8 pr, int u8 (u8.wrap ((i64.wrap (65535 - zfX (bOf (zgf pr n a b c d X e f g i Y) (AV.sl (some (2, 0)) 20 0 false)) 0)).fdiv 256)), int u8 (u8.wrap (i64.wrap (65535 - zfX (bOf (zgf pr n a b c d X e f g i Y) (AV.sl (some (2, 0)) 20 0 false)) 0))), int u8 (zad (some (int u8 (a.toNat : Int)))), int u8 (zad (some (int u8 (b.toNat : Int)))), int u8 (zad (some (int u8 (c.toNat : Int)))), int u8 (zad (some (int u8 (d.toNat : Int)))), int u8 (zad (some (int u8 (e.toNat : Int)))), int u8 (zad (some (int u8 (f.toNat : Int)))), int u8 (zad (some (int u8 (g.toNat : Int)))), int u8 (zad (some (int u8 (i.toNat : Int))))] 1 Md.own none]
theorem zlr {R : Type} (pr n : Int) (a b c d : UInt8) (X : List AV) (e f g i : UInt8) (Y : List AV) (K : AV → zaa → Option R) :
 zbs Try.prog znH 100 4 [] [] 33 [.agg (.bool false :: zfr a b c d X), .agg (.bool false :: zfr e f g i Y), .int .u8 pr, .int .i64 n] [] K =
 (if decide (n < 0) = true then
 K (AV.tup [AV.sl none 0 0 true, AV.bool false]) ((zon a b c d X e f g i Y))
 else (if decide (n > 65515) = true then
 K (AV.tup [AV.sl none 0 0 true, AV.bool false]) ((zon a b c d X e f g i Y))
 else (if (bOk (zgf pr n a b c d X e f g i Y) (AV.sl (some (2, 0)) 20 0 false) && decide (nOf (AV.sl (some (2, 0)) 20 0 false) ≤ 70368744177664 ∧ Int.ofNat 0 ≤ Int.ofNat 0 ∧ Int.ofNat 0 < Int.ofNat 4294967296)) = true then
 K (AV.tup [AV.sl (some (2, 0)) 20 0 false, AV.bool true]) ((ziD pr n a b c d X e f g i Y))
 else none))) := by
  kernel_rfl


set_option maxHeartbeats 2000000 in
theorem zvk (l : List UInt8) (a b c d : UInt8) (Y : List UInt8) (hl : l.length ≤ 1000000000000) (hY : Y.length = 12) (hr : r4 l = 0) : zbs Try.prog zsf 100 4 [] [] 20 [slB 0 l, .agg (.bool false :: zfr a b c d (bys Y))] [zaC l] (fun v h => some (v, h)) = some (.sl (some (3, 0)) l.length 0 false, zoa l a b c d (bys Y)) := by
 have h20 := zta hr
 obtain ⟨e17, eW, eB⟩ := zdR (a := a) (b := b) (c := c) (d := d) hY
 have hz : ∀ x, z4 l x = x := fun x => by unfold z4; rw [if_pos hr]
 have w10 := zau l 10
 have hcr := zbI (o := zan l 10) ((l.drop 16).take 4) [a, b, c, d] w10
 have n10 : zbv l 10 2 = zan l 10 := zcm (by omega)
 have f10 : (if Int.ofNat 0 ≤ Int.ofNat 10 ∧ 12 ≤ (l.length : Int) then zan l 10 else 0) = zan l 10 := if_pos ⟨by decide, by omega⟩
 have h16 : ((l.drop 16).take 4).length = 4 := by simp; omega
 obtain ⟨p, q, s, t, hpq⟩ := zfQ h16
 have hb0 : byt l 16 = p.toNat := by have := zbg (l := l) (p := 16) (n := 4) (i := 0) (by omega); rw [hpq] at this; exact this.symm
 have hb1 : byt l 17 = q.toNat := by have := zbg (l := l) (p := 16) (n := 4) (i := 1) (by omega); rw [hpq] at this; exact this.symm
 have hb2 : byt l 18 = s.toNat := by have := zbg (l := l) (p := 16) (n := 4) (i := 2) (by omega); rw [hpq] at this; exact this.symm
 have hb3 : byt l 19 = t.toNat := by have := zbg (l := l) (p := 16) (n := 4) (i := 3) (by omega); rw [hpq] at this; exact this.symm
 have em : Nat.min 4 (l.length - 16) = 4 := Nat.min_eq_left (by omega)
 have k1 : ([AV.int .u8 ((a.toNat : Nat) : Int), .int .u8 ((b.toNat : Nat) : Int), .int .u8 ((c.toNat : Nat) : Int), .int .u8 ((d.toNat : Nat) : Int)] : List AV) = bys [a, b, c, d] := rfl
 have k2 : [a, b, c, d].length = 4 := rfl
 have k3 : List.take 4 [a, b, c, d] = [a, b, c, d] := rfl
 have k4 : zas [AV.bool false, .int .u8 ((p.toNat : Nat) : Int), .int .u8 ((q.toNat : Nat) : Int), .int .u8 ((s.toNat : Nat) : Int), .int .u8 ((t.toNat : Nat) : Int), .int .u8 0, .int .u8 0, .int .u8 0, .int .u8 0, .int .u8 0, .int .u8 0, .int .u8 0, .int .u8 0, .int .u8 0, .int .u8 0, .int .u8 0, .int .u8 0] = true := by
  have := p.toNat_lt
  have := q.toNat_lt
  have := s.toNat_lt
  have := t.toNat_lt
  simp [zas, zbC]; omega
 have k5 : zag [AV.bool false, .int .u8 ((p.toNat : Nat) : Int), .int .u8 ((q.toNat : Nat) : Int), .int .u8 ((s.toNat : Nat) : Int), .int .u8 ((t.toNat : Nat) : Int), .int .u8 0, .int .u8 0, .int .u8 0, .int .u8 0, .int .u8 0, .int .u8 0, .int .u8 0, .int .u8 0, .int .u8 0, .int .u8 0, .int .u8 0, .int .u8 0] = [p, q, s, t] := by simp [zag]
 have k6 : ([AV.int .u8 ((p.toNat : Nat) : Int), .int .u8 ((q.toNat : Nat) : Int), .int .u8 ((s.toNat : Nat) : Int), .int .u8 ((t.toNat : Nat) : Int)] : List AV) = bys [p, q, s, t] := rfl
 have k7 : [p, q, s, t].length = 4 := rfl
 have k8 : List.take 4 [p, q, s, t] = [p, q, s, t] := rfl
 rw [hpq] at hcr
 rw [zuf]
 simp only [zaj, zbQ, zcn, zdb, ↓Bool.and_eq_true, ↓decide_eq_true_eq, bOk, bOf, zd6, zdA, zby, List.getElem?_cons_zero, List.getElem?_cons_succ, Nat.zero_add, Nat.mul_one, Nat.add_zero, List.drop_zero, zb1, zbF, zba, za2, List.take_length, zah, zbl, zay, zaM, zbk, zcC, Bool.and_true, Bool.true_and, AV.beq_self, e17, eW, eB, hz, n10, f10, em, hb0, hb1, hb2, hb3, zla, k1, k2, k3, k4, k5, k6, k7, k8, hpq]
 repeat (first | (refine (if_pos ?_).trans ?_; · first | exact True.intro | omega | (simp [zai, hY, hr, zab, hcr]; done) | (simp [zai, hY, hr, zab, hcr]; omega)) | (refine (if_neg ?_).trans ?_; · first | omega | (simp [hY, hr, zab, hcr]; done) | (simp [hY, hr, zab, hcr]; omega)))
 rfl


theorem zo9 (l : List UInt8) (a b c d : UInt8) (Y : List UInt8) (hY : Y.length = 12) (hr : r4 l = 0) : ∃ par, (zoa l a b c d (bys Y))[3]? = some (.cells (bys (zc6 l (.bool false :: zfr a b c d (bys Y)))) 1 .own par) := by
 have h20 := zta hr
 obtain ⟨e17, eW, eB⟩ := zdR (a := a) (b := b) (c := c) (d := d) hY
 have hz : ∀ x, z4 l x = x := fun x => by unfold z4; rw [if_pos hr]
 have n10 : zbv l 10 2 = zan l 10 := zcm (by omega)
 have f10 : (if Int.ofNat 0 ≤ Int.ofNat 10 ∧ 12 ≤ (l.length : Int) then zan l 10 else 0) = zan l 10 := if_pos ⟨by decide, by omega⟩
 have h16 : ((l.drop 16).take 4).length = 4 := by simp; omega
 obtain ⟨p, q, s, t, hpq⟩ := zfQ h16
 have hb0 : byt l 16 = p.toNat := by have := zbg (l := l) (p := 16) (n := 4) (i := 0) (by omega); rw [hpq] at this; exact this.symm
 have hb1 : byt l 17 = q.toNat := by have := zbg (l := l) (p := 16) (n := 4) (i := 1) (by omega); rw [hpq] at this; exact this.symm
 have hb2 : byt l 18 = s.toNat := by have := zbg (l := l) (p := 16) (n := 4) (i := 2) (by omega); rw [hpq] at this; exact this.symm
 have hb3 : byt l 19 = t.toNat := by have := zbg (l := l) (p := 16) (n := 4) (i := 3) (by omega); rw [hpq] at this; exact this.symm
 have em : Nat.min 4 (l.length - 16) = 4 := Nat.min_eq_left (by omega)
 have k1 : ([AV.int .u8 ((a.toNat : Nat) : Int), .int .u8 ((b.toNat : Nat) : Int), .int .u8 ((c.toNat : Nat) : Int), .int .u8 ((d.toNat : Nat) : Int)] : List AV) = bys [a, b, c, d] := rfl
 have k2 : [a, b, c, d].length = 4 := rfl
 have k3 : List.take 4 [a, b, c, d] = [a, b, c, d] := rfl
 have k5 : zag [AV.bool false, .int .u8 ((p.toNat : Nat) : Int), .int .u8 ((q.toNat : Nat) : Int), .int .u8 ((s.toNat : Nat) : Int), .int .u8 ((t.toNat : Nat) : Int), .int .u8 0, .int .u8 0, .int .u8 0, .int .u8 0, .int .u8 0, .int .u8 0, .int .u8 0, .int .u8 0, .int .u8 0, .int .u8 0, .int .u8 0, .int .u8 0] = [p, q, s, t] := by simp [zag]
 have k6 : ([AV.int .u8 ((p.toNat : Nat) : Int), .int .u8 ((q.toNat : Nat) : Int), .int .u8 ((s.toNat : Nat) : Int), .int .u8 ((t.toNat : Nat) : Int)] : List AV) = bys [p, q, s, t] := rfl
 have k7 : [p, q, s, t].length = 4 := rfl
 have k8 : List.take 4 [p, q, s, t] = [p, q, s, t] := rfl
 have hd4 : zc6 l (.bool false :: zfr a b c d (bys Y)) = zcf (zcf l 10 (ziA (zaR (zan l 10) [p, q, s, t] [a, b, c, d]) 2)) 16 [a, b, c, d] := by
  unfold zc6 c4
  rw [if_pos ⟨hr, rfl⟩, hpq, show zag (AV.bool false :: zfr a b c d (bys Y)) = [a, b, c, d] from eB]
 rw [hd4]
 refine ⟨_, rfl.trans (congrArg some (congrArg (fun z => ABlk.cells z 1 Md.own _) ?_))⟩
 simp only [zaj, zbQ, zcn, zdb, ↓Bool.and_eq_true, ↓decide_eq_true_eq, bOk, bOf, zd6, zdA, zby, List.getElem?_cons_zero, List.getElem?_cons_succ, Nat.zero_add, Nat.mul_one, Nat.add_zero, List.drop_zero, zb1, zbF, zba, za2, List.take_length, zah, zbl, zay, zaM, zbk, zcC, Bool.and_true, Bool.true_and, AV.beq_self, e17, eW, eB, hz, n10, f10, em, hb0, hb1, hb2, hb3, zla, k1, k2, k3, k5, k6, k7, k8, hpq]
 show zae (bys (zcz l ((10 : Nat) : Int) 2 _)) 16 _ = _
 rw [zyn _ _ _ _ (by omega), zns _ _ _ (by rw [zbH]; simp; omega)]

theorem zBc : SoundE Try.prog 20 (zbj zmA) := by
 refine zb0 fun args h v h' hg => ?_
 unfold zmA at hg
 split at hg
 · rename_i b cs
   simp only [Option.some.injEq, Prod.mk.injEq, Bool.and_eq_true, decide_eq_true_eq] at hg
   obtain ⟨⟨hb, hw, hn⟩, rfl, rfl⟩ := hg
   rw [← zbt hb] at hn
   obtain ⟨v, X, rfl, hX⟩ := zdn hw
   refine ⟨[slB 0 (bOf h b), .agg (.bool v :: bys X)], [zaC (bOf h b)], .cons _ _ _ _ _ _ _ (zaJ hb 0) (.cons _ _ _ _ _ _ _ (.flat _ _ zcH) (.nil _)), ?_⟩
   generalize bOf h b = l at hn
   have none_of : ∀ {v : Bool} {cs : List AV} {h1 : zaa}, zbs Try.prog zsf 100 4 [] [] 20 [slB 0 l, .agg (.bool v :: cs)] [zaC l] (fun v h => some (v, h)) = some (.sl none 0 0 true, h1) → (r4 l ≠ 0 ∨ v = true) →
    ∃ v1 h1', Runs Try.prog 20 [slB 0 l, .agg (.bool v :: cs)] [zaC l] v1 h1' ∧ ∃ ks new, h ++ [zbo (zc6 l (.bool v :: cs))] = h ++ new ∧ Den h1' [zaC l].length h.length ks v1 (slB h.length (zc6 l (.bool v :: cs))) new ∧ zkX ks := by
    intro v cs h1 hq hv
    rw [zxr (hv.imp id fun e => e)]
    exact ⟨_, _, Runs.ofT0 zte hq, [none], _, rfl, zqf, zdJ _⟩
   cases v
   · obtain ⟨a, b, c, d, Y, hXl, rfl, hY⟩ := zlR hX
     rw [hXl]
     by_cases hr : r4 l = 0
     · have h20 := zta hr
       obtain ⟨par, hc⟩ := zo9 l a b c d Y hY hr
       have hlen : l.length = (zc6 l (.bool false :: zfr a b c d (bys Y))).length := by
        unfold zc6; rw [if_pos ⟨hr, rfl⟩, zbH, zbH]
       exact ⟨_, _, Runs.ofT0 zte (zvk l a b c d Y hn hY hr), [some 3], [zbo (zc6 l (.bool false :: zfr a b c d (bys Y)))], rfl, zug (by simp) hc rfl hlen, zdJ _⟩
     · refine none_of (h1 := zbQ l a b c d (bys Y)) ?_ (.inl hr)
       rw [zuf]
       simp only [zaj, ↓Bool.and_eq_true, ↓decide_eq_true_eq, bOk, bOf, zd6, zdA, zby, List.getElem?_cons_zero, List.getElem?_cons_succ, Nat.zero_add, Nat.mul_one, Nat.add_zero, List.drop_zero, zb1, zbF, zba, za2, List.take_length, zah, zbl, zay, zaM, zbk, zcC, Bool.and_true, Bool.true_and, AV.beq_self]
       repeat (first | (refine (if_pos ?_).trans ?_; · first | exact True.intro | omega | (simp [zai, hr]; done) | (simp [zai, hr]; omega)) | (refine (if_neg ?_).trans ?_; · first | omega | (simp [hr]; done) | (simp [hr]; omega)))
       first | rfl | done
   · refine none_of (h1 := zny l X) ?_ (.inr rfl)
     rw [zxF]
     simp only [zbB, ↓Bool.and_eq_true, ↓decide_eq_true_eq, bOk, bOf, zd6, zdA, zby, List.getElem?_cons_zero, List.getElem?_cons_succ, Nat.zero_add, Nat.mul_one, Nat.add_zero, List.drop_zero, zb1, zbF, zba, za2, List.take_length, zah, zbl, zay, zaM, zbk, zcC, Bool.and_true, Bool.true_and, AV.beq_self]
     by_cases hr : r4 l = 0
     · repeat (first | (refine (if_pos ?_).trans ?_; · first | exact True.intro | omega | (simp [zai, hr]; done) | (simp [zai, hr]; omega)) | (refine (if_neg ?_).trans ?_; · first | omega | (simp [hr]; done) | (simp [hr]; omega)))
       first | rfl | done
     · repeat (first | (refine (if_pos ?_).trans ?_; · first | exact True.intro | omega | (simp [zai, hr]; done) | (simp [zai, hr]; omega)) | (refine (if_neg ?_).trans ?_; · first | omega | (simp [hr]; done) | (simp [hr]; omega)))
       first | rfl | done
 · simp at hg


theorem zoO {pr n : Int} {a b c d e f g i : UInt8} {X Y : List UInt8} (hn : 0 ≤ n ∧ n ≤ 65515) (hp : 0 ≤ pr ∧ pr < 256) : (zgf pr n a b c d (bys X) e f g i (bys Y))[2]? = some (.cells (bys (zg5 pr n [a, b, c, d] [e, f, g, i])) 1 Md.own none) := by
 have w0 : i64.wrap (20 + n) = 20 + n := zao (by omega)
 have w1 : u8.wrap ((20 + n).fdiv 256) = ((u8i ((20 + n) / 256)).toNat : Int) := by rw [zaH, Int.fdiv_eq_ediv_of_nonneg _ (by omega)]
 have w2 : u8.wrap (20 + n) = ((u8i (20 + n)).toNat : Int) := zaH _
 have w3 : AV.int .u8 pr = AV.int .u8 (((u8i pr).toNat : Nat) : Int) := by rw [zaG]; congr 1; omega
 unfold zgf
 refine rfl.trans (congrArg some (congrArg (fun z => ABlk.cells z 1 Md.own none) ?_))
 simp only [zbl, w0, w1, w2]
 rw [w3]
 rfl
theorem zuo {pr n : Int} {a b c d e f g i : UInt8} {X Y : List UInt8} (hn : 0 ≤ n ∧ n ≤ 65515) (hp : 0 ≤ pr ∧ pr < 256) : (ziD pr n a b c d (bys X) e f g i (bys Y))[2]? = some (.cells (bys (zyM pr n [a, b, c, d] [e, f, g, i])) 1 Md.own none) := by
 have w0 : i64.wrap (20 + n) = 20 + n := zao (by omega)
 have w1 : u8.wrap ((20 + n).fdiv 256) = ((u8i ((20 + n) / 256)).toNat : Int) := by rw [zaH, Int.fdiv_eq_ediv_of_nonneg _ (by omega)]
 have w2 : u8.wrap (20 + n) = ((u8i (20 + n)).toNat : Int) := zaH _
 have w3 : AV.int .u8 pr = AV.int .u8 (((u8i pr).toNat : Nat) : Int) := by rw [zaG]; congr 1; omega
 have hf := (zam (n := 20) (r := 0) (e := false) (zoO (X := X) (Y := Y) (a := a) (b := b) (c := c) (d := d) (e := e) (f := f) (g := g) (i := i) hn hp) rfl rfl).2
 have hx : i64.wrap (65535 - zfX (zg5 pr n [a, b, c, d] [e, f, g, i]) 0) = zft (zg5 pr n [a, b, c, d] [e, f, g, i]) := zao (by have := zf7 (zg5 pr n [a, b, c, d] [e, f, g, i]); unfold zft at this; omega)
 have hx2 : u8.wrap ((zft (zg5 pr n [a, b, c, d] [e, f, g, i])).fdiv 256) = ((u8i ((zft (zg5 pr n [a, b, c, d] [e, f, g, i])).fdiv 256)).toNat : Int) := zaH _
 have hx3 : u8.wrap (zft (zg5 pr n [a, b, c, d] [e, f, g, i])) = ((u8i ((zft (zg5 pr n [a, b, c, d] [e, f, g, i])).fdiv 1)).toNat : Int) := by rw [zaH, Int.fdiv_eq_ediv_of_nonneg _ (by omega), Int.ediv_one]
 unfold ziD
 refine rfl.trans (congrArg some (congrArg (fun z => ABlk.cells z 1 Md.own none) ?_))
 simp only [zbl, w0, w1, w2, hf, hx, hx2, hx3]
 rw [w3]
 rfl
set_option maxHeartbeats 2000000 in
theorem zui (X Y : List UInt8) (a b c d e f g i : UInt8) (pr n : Int) (hX : X.length = 12) (hY : Y.length = 12) (hn : 0 ≤ n ∧ n ≤ 65515) (hp : 0 ≤ pr ∧ pr < 256) :
 zbs Try.prog znH 100 4 [] [] 33 [.agg (.bool false :: zfr a b c d (bys X)), .agg (.bool false :: zfr e f g i (bys Y)), .int .u8 pr, .int .i64 n] [] (fun v h => some (v, h)) = some (.tup [.sl (some (2, 0)) 20 0 false, .bool true], ziD pr n a b c d (bys X) e f g i (bys Y)) := by
 obtain ⟨e17, eW, eB⟩ := zdR (a := a) (b := b) (c := c) (d := d) hX
 obtain ⟨f17, fW, fB⟩ := zdR (a := e) (b := f) (c := g) (d := i) hY
 have wn : u16.wrap (i64.wrap (20 + n)) = 20 + n := by rw [zao (by omega), zb7 (by omega)]
 have wn2 : i64.wrap (20 + n) = 20 + n := zao (by omega)
 have wn3 : u16.wrap (20 + n) = 20 + n := zb7 (by omega)
 have hf := zam (n := 20) (r := 0) (e := false) (zoO (X := X) (Y := Y) (a := a) (b := b) (c := c) (d := d) (e := e) (f := f) (g := g) (i := i) hn hp) rfl rfl
 have hk : (bOk (zgf pr n a b c d (bys X) e f g i (bys Y)) (AV.sl (some (2, 0)) 20 0 false) && decide (nOf (AV.sl (some (2, 0)) 20 0 false) ≤ 70368744177664 ∧ Int.ofNat 0 ≤ Int.ofNat 0 ∧ Int.ofNat 0 < Int.ofNat 4294967296)) = true := by rw [hf.1]; decide
 have hx : zaU .u16 (· ^^^ ·) 65535 (zfX (zg5 pr n [a, b, c, d] [e, f, g, i]) 0) = zft (zg5 pr n [a, b, c, d] [e, f, g, i]) := zpq (zes _ 0)
 have hcr := zf7 (zg5 pr n [a, b, c, d] [e, f, g, i])
 rw [zlr]
 rw [if_neg (by simp; omega), if_neg (by simp; omega)]
 simp only [hk, if_true, e17, eW, eB, f17, fW, fB, wn2, wn3, hf.2, hx]
 repeat (first | (refine (if_pos ?_).trans ?_; · first | exact True.intro | omega | (simp [zai, hX, hY, zab, ↓zf1, zbC, hn, hp, hcr]; done) | (simp [zai, hX, hY, zab, ↓zf1, zbC, hn, hp, hcr]; omega)) | (refine (if_neg ?_).trans ?_; · first | omega | (simp [hX, hY, zab, ↓zf1, zbC, hn, hp, hcr]; done) | (simp [hX, hY, zab, ↓zf1, zbC, hn, hp, hcr]; omega)))
 first | done | rfl

theorem zBA : SoundE Try.prog 33 (zbj zwt) := by
 refine zb0 fun args h v h' hg => ?_
 unfold zwt at hg
 split at hg
 · rename_i cs ds pr n
   simp only [Option.some.injEq, Prod.mk.injEq, Bool.and_eq_true, decide_eq_true_eq] at hg
   obtain ⟨⟨hw, hw2, hp⟩, rfl, rfl⟩ := hg
   obtain ⟨v, X, rfl, hX⟩ := zdn hw
   obtain ⟨u, Y, rfl, hY⟩ := zdn hw2
   refine ⟨[.agg (.bool v :: bys X), .agg (.bool u :: bys Y), .int .u8 pr, .int .i64 n], [], .cons _ _ _ _ _ _ _ (.flat _ _ zcH) (.cons _ _ _ _ _ _ _ (.flat _ _ zcH) (.cons _ _ _ _ _ _ _ (.flat _ _ rfl) (.cons _ _ _ _ _ _ _ (.flat _ _ rfl) (.nil _)))), ?_⟩
   have none_of : ∀ {v u : Bool} {cs ds : List AV} {h1 : zaa}, zbs Try.prog znH 100 4 [] [] 33 [.agg (.bool v :: cs), .agg (.bool u :: ds), .int .u8 pr, .int .i64 n] [] (fun v h => some (v, h)) = some (.tup [.sl none 0 0 true, .bool false], h1) → ¬ zfn (.bool v :: cs) (.bool u :: ds) n →
    ∃ v1 h1', Runs Try.prog 33 [.agg (.bool v :: cs), .agg (.bool u :: ds), .int .u8 pr, .int .i64 n] [] v1 h1' ∧ ∃ ks new, h ++ [zbo (zgp (.bool v :: cs) (.bool u :: ds) pr n)] = h ++ new ∧
     Den h1' ([] : zaa).length h.length ks v1 (.tup [slB h.length (zgp (.bool v :: cs) (.bool u :: ds) pr n), .bool (decide (zfn (.bool v :: cs) (.bool u :: ds) n))]) new ∧ zkX ks := by
    intro v u cs ds h1 hq hv
    rw [zyj hv, decide_eq_false hv]
    exact ⟨_, _, Runs.ofT0 zqT hq, [none], _, rfl, zwB, zdJ _⟩
   cases v
   · cases u
     · obtain ⟨a, b, c, d, X', hXl, rfl, hX'⟩ := zlR hX
       obtain ⟨e, f, g, i, Y', hYl, rfl, hY'⟩ := zlR hY
       rw [hXl, hYl]
       by_cases h0 : n < 0
       · exact none_of ((zlr pr n a b c d _ e f g i _ _).trans (if_pos (by simpa using h0))) (fun h => by have := h.2.2; omega)
       by_cases h1 : n > 65515
       · exact none_of ((zlr pr n a b c d _ e f g i _ _).trans ((if_neg (by simpa using h0)).trans (if_pos (by simpa using h1)))) (fun h => by have := h.2.2; omega)
       have hn : 0 ≤ n ∧ n ≤ 65515 := by omega
       have m1 : zfn (.bool false :: zfr a b c d (bys X')) (.bool false :: zfr e f g i (bys Y')) n := ⟨rfl, rfl, hn.1, hn.2⟩
       have m2 : zgp (.bool false :: zfr a b c d (bys X')) (.bool false :: zfr e f g i (bys Y')) pr n = zyM pr n [a, b, c, d] [e, f, g, i] := by
        unfold zgp
        rw [if_pos m1, show zag (.bool false :: zfr a b c d (bys X')) = [a, b, c, d] from (zdR hX').2.2, show zag (.bool false :: zfr e f g i (bys Y')) = [e, f, g, i] from (zdR hY').2.2]
       rw [m2, decide_eq_true m1]
       exact ⟨_, _, Runs.ofT0 zqT (zui X' Y' a b c d e f g i pr n hX' hY' hn hp), [some 2], _, rfl, zzP (by simp) (zuo hn hp) rfl (by unfold zyM; rw [zbH]; rfl), zdJ _⟩
     · exact none_of (zuQ pr n X Y _) (fun h => by have := h.2.1; simp [za8] at this)
   cases u
   · exact none_of (zvE pr n X Y _) (fun h => by have := h.1; simp [za8] at this)
   · exact none_of (zve pr n X Y _) (fun h => by have := h.1; simp [za8] at this)
 · simp at hg


end Go.Proofs.Ytnchnjkakddhlaa.L