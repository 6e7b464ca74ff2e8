/- ipfour's Read, and the reference's Four. -/
import Derived.Test.YtnchnjkakddhlaaOctB
import Derived.Test.YtnchnjkakddhlaaAddrB
set_option autoImplicit false
set_option maxRecDepth 100000
set_option linter.unusedVariables false
set_option linter.unusedSimpArgs false
namespace Go.Proofs.Ytnchnjkakddhlaa.L
open Go Go.Abs
open Go.IntKind (u8 u16 u32 u64 i64)
open Go.Abs.AV (int)
open Go.Abs.ABlk (cells)

noncomputable def zxV : Tbl := [(43, zbj zif), (64, zbj (zmG 0 2)), (65, zbj zA2)]
theorem zyt : ∀ f E, zxV.find f = some E → SoundE Try.prog f E := zal zkD (zal zwo (zal zBW (zar _)))
noncomputable def zqV : Tbl := [(50, zbj ziJ), (54, zbj (zmG 0 2)), (30, zbj zfd)]
theorem zuF : ∀ f E, zqV.find f = some E → SoundE Try.prog f E := zal zqK (zal zwH (zal zv0 (zar _)))

noncomputable def zd4 (l : List UInt8) : zaa := [cells (bys l) 1 Md.far none, cells [int i64 0, int i64 0, int u8 0, AV.bool false, int u8 0, int u8 0, int u8 0, int u8 0, int u8 0, int u8 0, int u8 0, int u8 0, int u8 0, int u8 0, int u8 0, int u8 0, int u8 0, int u8 0, int u8 0, int u8 0, AV.bool false, int u8 0, int u8 0, int u8 0, int u8 0, int u8 0, int u8 0, int u8 0, int u8 0, int u8 0, int u8 0, int u8 0, int u8 0, int u8 0, int u8 0, int u8 0, int u8 0] 37 Md.own none]
noncomputable def zbT (l : List UInt8) : zaa := [cells (bys l) 1 Md.far none, cells [int i64 0, int i64 0, int u8 0, AV.bool false, int u8 0, int u8 0, int u8 0, int u8 0, int u8 0, int u8 0, int u8 0, int u8 0, int u8 0, int u8 0, int u8 0, int u8 0, int u8 0, int u8 0, int u8 0, int u8 0, AV.bool false, int u8 0, int u8 0, int u8 0, int u8 0, int u8 0, int u8 0, int u8 0, int u8 0, int u8 0, int u8 0, int u8 0, int u8 0, int u8 0, int u8 0, int u8 0, int u8 0] 37 Md.own none, cells [AV.bool false, int u8 0, int u8 0, int u8 0, int u8 0, int u8 0, int u8 0, int u8 0, int u8 0, int u8 0, int u8 0, int u8 0, int u8 0, int u8 0, int u8 0, int u8 0, int u8 0] 17 Md.own none]
noncomputable def zcA (l : List UInt8) : zaa := [cells (bys l) 1 Md.far none, cells [int i64 0, int i64 0, int u8 0, AV.bool false, int u8 0, int u8 0, int u8 0, int u8 0, int u8 0, int u8 0, int u8 0, int u8 0, int u8 0, int u8 0, int u8 0, int u8 0, int u8 0, int u8 0, int u8 0, int u8 0, AV.bool false, int u8 0, int u8 0, int u8 0, int u8 0, int u8 0, int u8 0, int u8 0, int u8 0, int u8 0, int u8 0, int u8 0, int u8 0, int u8 0, int u8 0, int u8 0, int u8 0] 37 Md.own none, cells [AV.bool false, int u8 (byt (bOf (zbT l) (AV.sl (some (0, 12)) 4 (zac l.length 0 12 false 16 false) false)) 0), int u8 (byt (bOf (zbT l) (AV.sl (some (0, 12)) 4 (zac l.length 0 12 false 16 false) false)) 1), int u8 (byt (bOf (zbT l) (AV.sl (some (0, 12)) 4 (zac l.length 0 12 false 16 false) false)) 2), int u8 (byt (bOf (zbT l) (AV.sl (some (0, 12)) 4 (zac l.length 0 12 false 16 false) false)) 3), int u8 0, int u8 0, int u8 0, int u8 0, int u8 0, int u8 0, int u8 0, int u8 0, int u8 0, int u8 0, int u8 0, int u8 0] 17 Md.own none, cells [AV.bool false, int u8 (byt (bOf (zbT l) (AV.sl (some (0, 12)) 4 (zac l.length 0 12 false 16 false) false)) 0), int u8 (byt (bOf (zbT l) (AV.sl (some (0, 12)) 4 (zac l.length 0 12 false 16 false) false)) 1), int u8 (byt (bOf (zbT l) (AV.sl (some (0, 12)) 4 (zac l.length 0 12 false 16 false) false)) 2), int u8 (byt (bOf (zbT l) (AV.sl (some (0, 12)) 4 (zac l.length 0 12 false 16 false) false)) 3), int u8 0, int u8 0, int u8 0, int u8 0, int u8 0, int u8 0, int u8 0, int u8 0, int u8 0, int u8 0, int u8 0, int u8 0] 17 Md.own none, cells [AV.bool false, int u8 0, int u8 0, int u8 0, int u8 0, int u8 0, int u8 0, int u8 0, int u8 0, int u8 0, int u8 0, int u8 0, int u8 0, int u8 0, int u8 0, int u8 0, int u8 0] 17 Md.own none]
noncomputable def zt3 (l : List UInt8) : zaa := [cells (bys l) 1 Md.far none, cells [int i64 (i64.wrap (i64.wrap (zaU u8 (· &&& ·) (zad (bys l)[0]?) 15) * 4)), int i64 (i64.wrap (if Int.ofNat 0 ≤ Int.ofNat 2 ∧ 4 ≤ (((bOf (zd4 l) (AV.sl (some (0, 0)) l.length 0 false)).length : Nat) : Int) then zbv (bOf (zd4 l) (AV.sl (some (0, 0)) l.length 0 false)) 2 2 else 0)), int u8 (zad (bys l)[9]?), AV.bool false, int u8 (byt (bOf (zbT l) (AV.sl (some (0, 12)) 4 (zac l.length 0 12 false 16 false) false)) 0), int u8 (byt (bOf (zbT l) (AV.sl (some (0, 12)) 4 (zac l.length 0 12 false 16 false) false)) 1), int u8 (byt (bOf (zbT l) (AV.sl (some (0, 12)) 4 (zac l.length 0 12 false 16 false) false)) 2), int u8 (byt (bOf (zbT l) (AV.sl (some (0, 12)) 4 (zac l.length 0 12 false 16 false) false)) 3), int u8 0, int u8 0, int u8 0, int u8 0, int u8 0, int u8 0, int u8 0, int u8 0, int u8 0, int u8 0, int u8 0, int u8 0, AV.bool false, int u8 (byt (bOf (zcA l) (AV.sl (some (0, 16)) 4 (zac l.length 0 16 false 20 false) false)) 0), int u8 (byt (bOf (zcA l) (AV.sl (some (0, 16)) 4 (zac l.length 0 16 false 20 false) false)) 1), int u8 (byt (bOf (zcA l) (AV.sl (some (0, 16)) 4 (zac l.length 0 16 false 20 false) false)) 2), int u8 (byt (bOf (zcA l) (AV.sl (some (0, 16)) 4 (zac l.length 0 16 false 20 false) false)) 3), int u8 0, int u8 0, int u8 0, int u8 0, int u8 0, int u8 0, int u8 0, int u8 0, int u8 0, int u8 0, int u8 0, int u8 0] 37 Md.own none, cells [AV.bool false, int u8 (byt (bOf (zbT l) (AV.sl (some (0, 12)) 4 (zac l.length 0 12 false 16 false) false)) 0), int u8 (byt (bOf (zbT l) (AV.sl (some (0, 12)) 4 (zac l.length 0 12 false 16 false) false)) 1), int u8 (byt (bOf (zbT l) (AV.sl (some (0, 12)) 4 (zac l.length 0 12 false 16 false) false)) 2), int u8 (byt (bOf (zbT l) (AV.sl (some (0, 12)) 4 (zac l.length 0 12 false 16 false) false)) 3), int u8 0, int u8 0, int u8 0, int u8 0, int u8 0, int u8 0, int u8 0, int u8 0, int u8 0, int u8 0, int u8 0, int u8 0] 17 Md.own none, cells [AV.bool false, int u8 (byt (bOf (zbT l) (AV.sl (some (0, 12)) 4 (zac l.length 0 12 false 16 false) false)) 0), int u8 (byt (bOf (zbT l) (AV.sl (some (0, 12)) 4 (zac l.length 0 12 false 16 false) false)) 1), int u8 (byt (bOf (zbT l) (AV.sl (some (0, 12)) 4 (zac l.length 0 12 false 16 false) false)) 2), int u8 (byt (bOf (zbT l) (AV.sl (some (0, 12)) 4 (zac l.length 0 12 false 16 false) false)) 3), int u8 0, int u8 0, int u8 0, int u8 0, int u8 0, int u8 0, int u8 0, int u8 0, int u8 0, int u8 0, int u8 0, int u8 0] 17 Md.own none, cells [AV.bool false, int u8 (byt (bOf (zcA l) (AV.sl (some (0, 16)) 4 (zac l.length 0 16 false 20 false) false)) 0), int u8 (byt (bOf (zcA l) (AV.sl (some (0, 16)) 4 (zac l.length 0 16 false 20 false) false)) 1), int u8 (byt (bOf (zcA l) (AV.sl (some (0, 16)) 4 (zac l.length 0 16 false 20 false) false)) 2), int u8 (byt (bOf (zcA l) (AV.sl (some (0, 16)) 4 (zac l.length 0 16 false 20 false) false)) 3), int u8 0, int u8 0, int u8 0, int u8 0, int u8 0, int u8 0, int u8 0, int u8 0, int u8 0, int u8 0, int u8 0, int u8 0] 17 Md.own none, cells [AV.bool false, int u8 (byt (bOf (zcA l) (AV.sl (some (0, 16)) 4 (zac l.length 0 16 false 20 false) false)) 0), int u8 (byt (bOf (zcA l) (AV.sl (some (0, 16)) 4 (zac l.length 0 16 false 20 false) false)) 1), int u8 (byt (bOf (zcA l) (AV.sl (some (0, 16)) 4 (zac l.length 0 16 false 20 false) false)) 2), int u8 (byt (bOf (zcA l) (AV.sl (some (0, 16)) 4 (zac l.length 0 16 false 20 false) false)) 3), int u8 0, int u8 0, int u8 0, int u8 0, int u8 0, int u8 0, int u8 0, int u8 0, int u8 0, int u8 0, int u8 0, int u8 0] 17 Md.own none]
theorem zAD {R : Type} (l : List UInt8) (K : AV → Option R) :
 zbs Try.prog zxV 100 4 [] [] 42 [slB 0 l] [zaC l] (fun v _ => K v) =
 (if decide ((l.length : Int) < 20) = true then
 K (AV.tup [AV.agg [int i64 0, int i64 0, int u8 0, AV.bool false, int u8 0, int u8 0, int u8 0, int u8 0, int u8 0, int u8 0, int u8 0, int u8 0, int u8 0, int u8 0, int u8 0, int u8 0, int u8 0, int u8 0, int u8 0, int u8 0, AV.bool false, int u8 0, int u8 0, int u8 0, int u8 0, int u8 0, int u8 0, int u8 0, int u8 0, int u8 0, int u8 0, int u8 0, int u8 0, int u8 0, int u8 0, int u8 0, int u8 0], int i64 1])
 else (if (bOk (zd4 l) (AV.sl (some (0, 0)) l.length 0 false) && decide ((((nOf (AV.sl (some (0, 0)) l.length 0 false)) : Nat) : Int) < 9223372036854775000)) = true then
 (if (bOk (zd4 l) (AV.sl (some (0, 0)) l.length 0 false) && decide ((((nOf (AV.sl (some (0, 0)) l.length 0 false)) : Nat) : Int) < 9223372036854775000)) = true then
 (if Int.ofNat 0 ≤ Int.ofNat 0 ∧ 0 < (l.length : Int) then
 (if zaI u8 (bys l)[0]? = true then
 (if Int.ofNat 0 ≤ Int.ofNat 9 ∧ 9 < (l.length : Int) then
 (if zaI u8 (bys l)[9]? = true then
 (if Int.ofNat 0 ≤ Int.ofNat 16 ∧ 16 ≤ (((zai l.length 0 false) : Nat) : Int) then
 (if bOk (zbT l) (AV.sl (some (0, 12)) 4 (zac l.length 0 12 false 16 false) false) = true then
 (if Int.ofNat 0 ≤ Int.ofNat 20 ∧ 20 ≤ (((zai l.length 0 false) : Nat) : Int) then
 (if bOk (zcA l) (AV.sl (some (0, 16)) 4 (zac l.length 0 16 false 20 false) false) = true then
 (if zaI u8 (bys l)[0]? = true then
 (if (int u8 (zad (bys l)[0]?)).beq (int u8 (zad (bys l)[0]?)) = true then
 (if zaI u8 (bys l)[0]? = true then
 (if (int u8 (zad (bys l)[0]?)).beq (int u8 (zad (bys l)[0]?)) = true then
 (if zaI u8 (bys l)[9]? = true then
 (if (int u8 (zad (bys l)[9]?)).beq (int u8 (zad (bys l)[9]?)) = true then
 (if zaI u8 (bys l)[9]? = true then
 (if (int u8 (zad (bys l)[9]?)).beq (int u8 (zad (bys l)[9]?)) = true then
 (if Int.ofNat 0 ≤ Int.ofNat 0 ∧ 0 < (l.length : Int) then
 (if zaI u8 (bys l)[0]? = true then
 (if ((zad (bys l)[0]?).fdiv 16 != 4) = true then
 K (AV.tup [AV.agg [int i64 0, int i64 0, int u8 0, AV.bool false, int u8 0, int u8 0, int u8 0, int u8 0, int u8 0, int u8 0, int u8 0, int u8 0, int u8 0, int u8 0, int u8 0, int u8 0, int u8 0, int u8 0, int u8 0, int u8 0, AV.bool false, int u8 0, int u8 0, int u8 0, int u8 0, int u8 0, int u8 0, int u8 0, int u8 0, int u8 0, int u8 0, int u8 0, int u8 0, int u8 0, int u8 0, int u8 0, int u8 0], int i64 3])
 else (if decide (zad (some (int i64 (i64.wrap (i64.wrap (zaU u8 (· &&& ·) (zad (bys l)[0]?) 15) * 4)))) < 20) = true then
 K (AV.tup [AV.agg [int i64 0, int i64 0, int u8 0, AV.bool false, int u8 0, int u8 0, int u8 0, int u8 0, int u8 0, int u8 0, int u8 0, int u8 0, int u8 0, int u8 0, int u8 0, int u8 0, int u8 0, int u8 0, int u8 0, int u8 0, AV.bool false, int u8 0, int u8 0, int u8 0, int u8 0, int u8 0, int u8 0, int u8 0, int u8 0, int u8 0, int u8 0, int u8 0, int u8 0, int u8 0, int u8 0, int u8 0, int u8 0], int i64 3])
 else (if decide (zad (some (int i64 (i64.wrap (if Int.ofNat 0 ≤ Int.ofNat 2 ∧ 4 ≤ (((bOf (zd4 l) (AV.sl (some (0, 0)) l.length 0 false)).length : Nat) : Int) then zbv (bOf (zd4 l) (AV.sl (some (0, 0)) l.length 0 false)) 2 2 else 0)))) < zad (some (int i64 (i64.wrap (i64.wrap (zaU u8 (· &&& ·) (zad (bys l)[0]?) 15) * 4))))) = true then
 K (AV.tup [AV.agg [int i64 0, int i64 0, int u8 0, AV.bool false, int u8 0, int u8 0, int u8 0, int u8 0, int u8 0, int u8 0, int u8 0, int u8 0, int u8 0, int u8 0, int u8 0, int u8 0, int u8 0, int u8 0, int u8 0, int u8 0, AV.bool false, int u8 0, int u8 0, int u8 0, int u8 0, int u8 0, int u8 0, int u8 0, int u8 0, int u8 0, int u8 0, int u8 0, int u8 0, int u8 0, int u8 0, int u8 0, int u8 0], int i64 3])
 else (if decide ((l.length : Int) < zad (some (int i64 (i64.wrap (if Int.ofNat 0 ≤ Int.ofNat 2 ∧ 4 ≤ (((bOf (zd4 l) (AV.sl (some (0, 0)) l.length 0 false)).length : Nat) : Int) then zbv (bOf (zd4 l) (AV.sl (some (0, 0)) l.length 0 false)) 2 2 else 0))))) = true then
 K (AV.tup [AV.agg [int i64 0, int i64 0, int u8 0, AV.bool false, int u8 0, int u8 0, int u8 0, int u8 0, int u8 0, int u8 0, int u8 0, int u8 0, int u8 0, int u8 0, int u8 0, int u8 0, int u8 0, int u8 0, int u8 0, int u8 0, AV.bool false, int u8 0, int u8 0, int u8 0, int u8 0, int u8 0, int u8 0, int u8 0, int u8 0, int u8 0, int u8 0, int u8 0, int u8 0, int u8 0, int u8 0, int u8 0, int u8 0], int i64 1])
 else (if 0 ≤ zad (some (int i64 (i64.wrap (i64.wrap (zaU u8 (· &&& ·) (zad (bys l)[0]?) 15) * 4)))) ∧ zad (some (int i64 (i64.wrap (i64.wrap (zaU u8 (· &&& ·) (zad (bys l)[0]?) 15) * 4)))) ≤ (((zai l.length 0 false) : Nat) : Int) then
 (if (bOk (zt3 l) (AV.sl (some (0, 0)) ((zad (some (int i64 (i64.wrap (i64.wrap (zaU u8 (· &&& ·) (zad (bys l)[0]?) 15) * 4))))).toNat - 0) (zac l.length 0 0 (some (zad (some (int i64 (i64.wrap (i64.wrap (zaU u8 (· &&& ·) (zad (bys l)[0]?) 15) * 4)))))).isNone (zad (some (int i64 (i64.wrap (i64.wrap (zaU u8 (· &&& ·) (zad (bys l)[0]?) 15) * 4))))).toNat false) false) && decide (nOf (AV.sl (some (0, 0)) ((zad (some (int i64 (i64.wrap (i64.wrap (zaU u8 (· &&& ·) (zad (bys l)[0]?) 15) * 4))))).toNat - 0) (zac l.length 0 0 (some (zad (some (int i64 (i64.wrap (i64.wrap (zaU u8 (· &&& ·) (zad (bys l)[0]?) 15) * 4)))))).isNone (zad (some (int i64 (i64.wrap (i64.wrap (zaU u8 (· &&& ·) (zad (bys l)[0]?) 15) * 4))))).toNat false) false) ≤ 70368744177664 ∧ Int.ofNat 0 ≤ Int.ofNat 0 ∧ Int.ofNat 0 < Int.ofNat 4294967296)) = true then
 (if (zaU u16 (· ^^^ ·) 65535 (zfX (bOf (zt3 l) (AV.sl (some (0, 0)) ((zad (some (int i64 (i64.wrap (i64.wrap (zaU u8 (· &&& ·) (zad (bys l)[0]?) 15) * 4))))).toNat - 0) (zac l.length 0 0 (some (zad (some (int i64 (i64.wrap (i64.wrap (zaU u8 (· &&& ·) (zad (bys l)[0]?) 15) * 4)))))).isNone (zad (some (int i64 (i64.wrap (i64.wrap (zaU u8 (· &&& ·) (zad (bys l)[0]?) 15) * 4))))).toNat false) false)) 0) != 0) = true then
 K (AV.tup [AV.agg [int i64 0, int i64 0, int u8 0, AV.bool false, int u8 0, int u8 0, int u8 0, int u8 0, int u8 0, int u8 0, int u8 0, int u8 0, int u8 0, int u8 0, int u8 0, int u8 0, int u8 0, int u8 0, int u8 0, int u8 0, AV.bool false, int u8 0, int u8 0, int u8 0, int u8 0, int u8 0, int u8 0, int u8 0, int u8 0, int u8 0, int u8 0, int u8 0, int u8 0, int u8 0, int u8 0, int u8 0, int u8 0], int i64 4])
 else (if (zaU u16 (· &&& ·) (if Int.ofNat 0 ≤ Int.ofNat 6 ∧ 8 ≤ (((bOf (zd4 l) (AV.sl (some (0, 0)) l.length 0 false)).length : Nat) : Int) then zbv (bOf (zd4 l) (AV.sl (some (0, 0)) l.length 0 false)) 6 2 else 0) 16383 != 0) = true then
 K (AV.tup [AV.agg [int i64 0, int i64 0, int u8 0, AV.bool false, int u8 0, int u8 0, int u8 0, int u8 0, int u8 0, int u8 0, int u8 0, int u8 0, int u8 0, int u8 0, int u8 0, int u8 0, int u8 0, int u8 0, int u8 0, int u8 0, AV.bool false, int u8 0, int u8 0, int u8 0, int u8 0, int u8 0, int u8 0, int u8 0, int u8 0, int u8 0, int u8 0, int u8 0, int u8 0, int u8 0, int u8 0, int u8 0, int u8 0], int i64 5])
 else (if (zad (some (int u8 (zad (bys l)[9]?))) != 6) = true then
 (if (zad (some (int u8 (zad (bys l)[9]?))) != 17) = true then
 K (AV.tup [AV.agg [int i64 0, int i64 0, int u8 0, AV.bool false, int u8 0, int u8 0, int u8 0, int u8 0, int u8 0, int u8 0, int u8 0, int u8 0, int u8 0, int u8 0, int u8 0, int u8 0, int u8 0, int u8 0, int u8 0, int u8 0, AV.bool false, int u8 0, int u8 0, int u8 0, int u8 0, int u8 0, int u8 0, int u8 0, int u8 0, int u8 0, int u8 0, int u8 0, int u8 0, int u8 0, int u8 0, int u8 0, int u8 0], int i64 6])
 else K (AV.tup [AV.agg [int i64 (i64.wrap (i64.wrap (zaU u8 (· &&& ·) (zad (bys l)[0]?) 15) * 4)), int i64 (i64.wrap (if Int.ofNat 0 ≤ Int.ofNat 2 ∧ 4 ≤ (((bOf (zd4 l) (AV.sl (some (0, 0)) l.length 0 false)).length : Nat) : Int) then zbv (bOf (zd4 l) (AV.sl (some (0, 0)) l.length 0 false)) 2 2 else 0)), int u8 (zad (bys l)[9]?), AV.bool false, int u8 (byt (bOf (zbT l) (AV.sl (some (0, 12)) 4 (zac l.length 0 12 false 16 false) false)) 0), int u8 (byt (bOf (zbT l) (AV.sl (some (0, 12)) 4 (zac l.length 0 12 false 16 false) false)) 1), int u8 (byt (bOf (zbT l) (AV.sl (some (0, 12)) 4 (zac l.length 0 12 false 16 false) false)) 2), int u8 (byt (bOf (zbT l) (AV.sl (some (0, 12)) 4 (zac l.length 0 12 false 16 false) false)) 3), int u8 0, int u8 0, int u8 0, int u8 0, int u8 0, int u8 0, int u8 0, int u8 0, int u8 0, int u8 0, int u8 0, int u8 0, AV.bool false, int u8 (byt (bOf (zcA l) (AV.sl (some (0, 16)) 4 (zac l.length 0 16 false 20 false) false)) 0), int u8 (byt (bOf (zcA l) (AV.sl (some (0, 16)) 4 (zac l.length 0 16 false 20 false) false)) 1), int u8 (byt (bOf (zcA l) (AV.sl (some (0, 16)) 4 (zac l.length 0 16 false 20 false) false)) 2), int u8 (byt (bOf (zcA l) (AV.sl (some (0, 16)) 4 (zac l.length 0 16 false 20 false) false)) 3), int u8 0, int u8 0, int u8 0, int u8 0, int u8 0, int u8 0, int u8 0, int u8 0, int u8 0, int u8 0, int u8 0, int u8 0], int i64 0]))
 else K (AV.tup [AV.agg [int i64 (i64.wrap (i64.wrap (zaU u8 (· &&& ·) (zad (bys l)[0]?) 15) * 4)), int i64 (i64.wrap (if Int.ofNat 0 ≤ Int.ofNat 2 ∧ 4 ≤ (((bOf (zd4 l) (AV.sl (some (0, 0)) l.length 0 false)).length : Nat) : Int) then zbv (bOf (zd4 l) (AV.sl (some (0, 0)) l.length 0 false)) 2 2 else 0)), int u8 (zad (bys l)[9]?), AV.bool false, int u8 (byt (bOf (zbT l) (AV.sl (some (0, 12)) 4 (zac l.length 0 12 false 16 false) false)) 0), int u8 (byt (bOf (zbT l) (AV.sl (some (0, 12)) 4 (zac l.length 0 12 false 16 false) false)) 1), int u8 (byt (bOf (zbT l) (AV.sl (some (0, 12)) 4 (zac l.length 0 12 false 16 false) false)) 2), int u8 (byt (bOf (zbT l) (AV.sl (some (0, 12)) 4 (zac l.length 0 12 false 16 false) false)) 3), int u8 0, int u8 0, int u8 0, int u8 0, int u8 0, int u8 0, int u8 0, int u8 0, int u8 0, int u8 0, int u8 0, int u8 0, AV.bool false, int u8 (byt (bOf (zcA l) (AV.sl (some (0, 16)) 4 (zac l.length 0 16 false 20 false) false)) 0), int u8 (byt (bOf (zcA l) (AV.sl (some (0, 16)) 4 (zac l.length 0 16 false 20 false) false)) 1), int u8 (byt (bOf (zcA l) (AV.sl (some (0, 16)) 4 (zac l.length 0 16 false 20 false) false)) 2), int u8 (byt (bOf (zcA l) (AV.sl (some (0, 16)) 4 (zac l.length 0 16 false 20 false) false)) 3), int u8 0, int u8 0, int u8 0, int u8 0, int u8 0, int u8 0, int u8 0, int u8 0, int u8 0, int u8 0, int u8 0, int u8 0], int i64 0]))))
 else none) else none)))))
 else none) else none) else none) else none) else none) else none) else none) else none) else none) else none) else none) else none) else none) else none) else none) else none) else none) else none) else none) else none)) := by
  kernel_rfl

noncomputable def zgG (l : List UInt8) : zaa := [cells (bys l) 1 Md.far none, cells [int i64 0, int i64 0, int u8 0, AV.bool false, int u8 0, int u8 0, int u8 0, int u8 0, int u8 0, int u8 0, int u8 0, int u8 0, int u8 0, int u8 0, int u8 0, int u8 0, int u8 0, int u8 0, int u8 0, int u8 0, AV.bool false, int u8 0, int u8 0, int u8 0, int u8 0, int u8 0, int u8 0, int u8 0, int u8 0, int u8 0, int u8 0, int u8 0, int u8 0, int u8 0, int u8 0, int u8 0, int u8 0] 37 Md.own none]
noncomputable def zbe (l : List UInt8) : zaa := [cells (bys l) 1 Md.far none, cells [int i64 0, int i64 0, int u8 0, AV.bool false, int u8 0, int u8 0, int u8 0, int u8 0, int u8 0, int u8 0, int u8 0, int u8 0, int u8 0, int u8 0, int u8 0, int u8 0, int u8 0, int u8 0, int u8 0, int u8 0, AV.bool false, int u8 0, int u8 0, int u8 0, int u8 0, int u8 0, int u8 0, int u8 0, int u8 0, int u8 0, int u8 0, int u8 0, int u8 0, int u8 0, int u8 0, int u8 0, int u8 0] 37 Md.own none, cells [AV.bool false, int u8 0, int u8 0, int u8 0, int u8 0, int u8 0, int u8 0, int u8 0, int u8 0, int u8 0, int u8 0, int u8 0, int u8 0, int u8 0, int u8 0, int u8 0, int u8 0] 17 Md.own none]
noncomputable def zbV (l : List UInt8) : zaa := [cells (bys l) 1 Md.far none, cells [int i64 0, int i64 0, int u8 0, AV.bool false, int u8 0, int u8 0, int u8 0, int u8 0, int u8 0, int u8 0, int u8 0, int u8 0, int u8 0, int u8 0, int u8 0, int u8 0, int u8 0, int u8 0, int u8 0, int u8 0, AV.bool false, int u8 0, int u8 0, int u8 0, int u8 0, int u8 0, int u8 0, int u8 0, int u8 0, int u8 0, int u8 0, int u8 0, int u8 0, int u8 0, int u8 0, int u8 0, int u8 0] 37 Md.own none, cells [AV.bool false, int u8 (byt (bOf (zbe l) (AV.sl (some (0, 12)) 4 (zac l.length 0 12 false 16 false) false)) 0), int u8 (byt (bOf (zbe l) (AV.sl (some (0, 12)) 4 (zac l.length 0 12 false 16 false) false)) 1), int u8 (byt (bOf (zbe l) (AV.sl (some (0, 12)) 4 (zac l.length 0 12 false 16 false) false)) 2), int u8 (byt (bOf (zbe l) (AV.sl (some (0, 12)) 4 (zac l.length 0 12 false 16 false) false)) 3), int u8 0, int u8 0, int u8 0, int u8 0, int u8 0, int u8 0, int u8 0, int u8 0, int u8 0, int u8 0, int u8 0, int u8 0] 17 Md.own none, cells [AV.bool false, int u8 (byt (bOf (zbe l) (AV.sl (some (0, 12)) 4 (zac l.length 0 12 false 16 false) false)) 0), int u8 (byt (bOf (zbe l) (AV.sl (some (0, 12)) 4 (zac l.length 0 12 false 16 false) false)) 1), int u8 (byt (bOf (zbe l) (AV.sl (some (0, 12)) 4 (zac l.length 0 12 false 16 false) false)) 2), int u8 (byt (bOf (zbe l) (AV.sl (some (0, 12)) 4 (zac l.length 0 12 false 16 false) false)) 3), int u8 0, int u8 0, int u8 0, int u8 0, int u8 0, int u8 0, int u8 0, int u8 0, int u8 0, int u8 0, int u8 0, int u8 0] 17 Md.own none, cells [AV.bool false, int u8 0, int u8 0, int u8 0, int u8 0, int u8 0, int u8 0, int u8 0, int u8 0, int u8 0, int u8 0, int u8 0, int u8 0, int u8 0, int u8 0, int u8 0, int u8 0] 17 Md.own none]
noncomputable def ziZ (l : List UInt8) : zaa := [cells (bys l) 1 Md.far none, cells [int i64 0, int i64 0, int u8 0, AV.bool false, int u8 0, int u8 0, int u8 0, int u8 0, int u8 0, int u8 0, int u8 0, int u8 0, int u8 0, int u8 0, int u8 0, int u8 0, int u8 0, int u8 0, int u8 0, int u8 0, AV.bool false, int u8 0, int u8 0, int u8 0, int u8 0, int u8 0, int u8 0, int u8 0, int u8 0, int u8 0, int u8 0, int u8 0, int u8 0, int u8 0, int u8 0, int u8 0, int u8 0] 37 Md.own none, cells [AV.bool false, int u8 (byt (bOf (zbe l) (AV.sl (some (0, 12)) 4 (zac l.length 0 12 false 16 false) false)) 0), int u8 (byt (bOf (zbe l) (AV.sl (some (0, 12)) 4 (zac l.length 0 12 false 16 false) false)) 1), int u8 (byt (bOf (zbe l) (AV.sl (some (0, 12)) 4 (zac l.length 0 12 false 16 false) false)) 2), int u8 (byt (bOf (zbe l) (AV.sl (some (0, 12)) 4 (zac l.length 0 12 false 16 false) false)) 3), int u8 0, int u8 0, int u8 0, int u8 0, int u8 0, int u8 0, int u8 0, int u8 0, int u8 0, int u8 0, int u8 0, int u8 0] 17 Md.own none, cells [AV.bool false, int u8 (byt (bOf (zbe l) (AV.sl (some (0, 12)) 4 (zac l.length 0 12 false 16 false) false)) 0), int u8 (byt (bOf (zbe l) (AV.sl (some (0, 12)) 4 (zac l.length 0 12 false 16 false) false)) 1), int u8 (byt (bOf (zbe l) (AV.sl (some (0, 12)) 4 (zac l.length 0 12 false 16 false) false)) 2), int u8 (byt (bOf (zbe l) (AV.sl (some (0, 12)) 4 (zac l.length 0 12 false 16 false) false)) 3), int u8 0, int u8 0, int u8 0, int u8 0, int u8 0, int u8 0, int u8 0, int u8 0, int u8 0, int u8 0, int u8 0, int u8 0] 17 Md.own none, cells [AV.bool false, int u8 (byt (bOf (zbV l) (AV.sl (some (0, 16)) 4 (zac l.length 0 16 false 20 false) false)) 0), int u8 (byt (bOf (zbV l) (AV.sl (some (0, 16)) 4 (zac l.length 0 16 false 20 false) false)) 1), int u8 (byt (bOf (zbV l) (AV.sl (some (0, 16)) 4 (zac l.length 0 16 false 20 false) false)) 2), int u8 (byt (bOf (zbV l) (AV.sl (some (0, 16)) 4 (zac l.length 0 16 false 20 false) false)) 3), int u8 0, int u8 0, int u8 0, int u8 0, int u8 0, int u8 0, int u8 0, int u8 0, int u8 0, int u8 0, int u8 0, int u8 0] 17 Md.own none, cells [AV.bool false, int u8 (byt (bOf (zbV l) (AV.sl (some (0, 16)) 4 (zac l.length 0 16 false 20 false) false)) 0), int u8 (byt (bOf (zbV l) (AV.sl (some (0, 16)) 4 (zac l.length 0 16 false 20 false) false)) 1), int u8 (byt (bOf (zbV l) (AV.sl (some (0, 16)) 4 (zac l.length 0 16 false 20 false) false)) 2), int u8 (byt (bOf (zbV l) (AV.sl (some (0, 16)) 4 (zac l.length 0 16 false 20 false) false)) 3), int u8 0, int u8 0, int u8 0, int u8 0, int u8 0, int u8 0, int u8 0, int u8 0, int u8 0, int u8 0, int u8 0, int u8 0] 17 Md.own none, cells [int i64 (i64.wrap (i64.wrap (zaU u8 (· &&& ·) (zad (bys l)[0]?) 15) * 4)), int i64 (zan (bOf (zgG l) (AV.sl (some (0, 0)) l.length 0 false)) 2), int u8 (zad (bys l)[9]?), AV.bool false, int u8 (byt (bOf (zbe l) (AV.sl (some (0, 12)) 4 (zac l.length 0 12 false 16 false) false)) 0), int u8 (byt (bOf (zbe l) (AV.sl (some (0, 12)) 4 (zac l.length 0 12 false 16 false) false)) 1), int u8 (byt (bOf (zbe l) (AV.sl (some (0, 12)) 4 (zac l.length 0 12 false 16 false) false)) 2), int u8 (byt (bOf (zbe l) (AV.sl (some (0, 12)) 4 (zac l.length 0 12 false 16 false) false)) 3), int u8 0, int u8 0, int u8 0, int u8 0, int u8 0, int u8 0, int u8 0, int u8 0, int u8 0, int u8 0, int u8 0, int u8 0, AV.bool false, int u8 (byt (bOf (zbV l) (AV.sl (some (0, 16)) 4 (zac l.length 0 16 false 20 false) false)) 0), int u8 (byt (bOf (zbV l) (AV.sl (some (0, 16)) 4 (zac l.length 0 16 false 20 false) false)) 1), int u8 (byt (bOf (zbV l) (AV.sl (some (0, 16)) 4 (zac l.length 0 16 false 20 false) false)) 2), int u8 (byt (bOf (zbV l) (AV.sl (some (0, 16)) 4 (zac l.length 0 16 false 20 false) false)) 3), int u8 0, int u8 0, int u8 0, int u8 0, int u8 0, int u8 0, int u8 0, int u8 0, int u8 0, int u8 0, int u8 0, int u8 0] 37 Md.own none]
theorem zwP {R : Type} (l : List UInt8) (K : AV → Option R) :
 zbs Try.prog zqV 100 4 [] [] 35 [slB 0 l] [zaC l] (fun v _ => K v) =
 (if decide ((l.length : Int) < 20) = true then
 K (AV.tup [AV.agg [int i64 0, int i64 0, int u8 0, AV.bool false, int u8 0, int u8 0, int u8 0, int u8 0, int u8 0, int u8 0, int u8 0, int u8 0, int u8 0, int u8 0, int u8 0, int u8 0, int u8 0, int u8 0, int u8 0, int u8 0, AV.bool false, int u8 0, int u8 0, int u8 0, int u8 0, int u8 0, int u8 0, int u8 0, int u8 0, int u8 0, int u8 0, int u8 0, int u8 0, int u8 0, int u8 0, int u8 0, int u8 0], int i64 1])
 else (if Int.ofNat 0 ≤ Int.ofNat 0 ∧ 0 < (l.length : Int) then
 (if zaI u8 (bys l)[0]? = true then
 (if (bOk (zgG l) (AV.sl (some (0, 0)) l.length 0 false) && decide (nOf (AV.sl (some (0, 0)) l.length 0 false) ≤ 70368744177664 ∧ Int.ofNat 0 ≤ Int.ofNat 2 ∧ 4 ≤ (((nOf (AV.sl (some (0, 0)) l.length 0 false)) : Nat) : Int))) = true then
 (if Int.ofNat 0 ≤ Int.ofNat 9 ∧ 9 < (l.length : Int) then
 (if zaI u8 (bys l)[9]? = true then
 (if Int.ofNat 0 ≤ Int.ofNat 16 ∧ 16 ≤ (((zai l.length 0 false) : Nat) : Int) then
 (if bOk (zbe l) (AV.sl (some (0, 12)) 4 (zac l.length 0 12 false 16 false) false) = true then
 (if Int.ofNat 0 ≤ Int.ofNat 20 ∧ 20 ≤ (((zai l.length 0 false) : Nat) : Int) then
 (if bOk (zbV l) (AV.sl (some (0, 16)) 4 (zac l.length 0 16 false 20 false) false) = true then
 (if zaI u8 (bys l)[0]? = true then
 (if (int u8 (zad (bys l)[0]?)).beq (int u8 (zad (bys l)[0]?)) = true then
 (if zaI u8 (bys l)[0]? = true then
 (if (int u8 (zad (bys l)[0]?)).beq (int u8 (zad (bys l)[0]?)) = true then
 (if zaI u8 (bys l)[0]? = true then
 (if (int u8 (zad (bys l)[0]?)).beq (int u8 (zad (bys l)[0]?)) = true then
 (if zaI u8 (bys l)[9]? = true then
 (if (int u8 (zad (bys l)[9]?)).beq (int u8 (zad (bys l)[9]?)) = true then
 (if zaI u8 (bys l)[9]? = true then
 (if (int u8 (zad (bys l)[9]?)).beq (int u8 (zad (bys l)[9]?)) = true then
 (if zaI u8 (bys l)[9]? = true then
 (if (int u8 (zad (bys l)[9]?)).beq (int u8 (zad (bys l)[9]?)) = true then
 (if Int.ofNat 0 ≤ Int.ofNat 0 ∧ 0 < (l.length : Int) then
 (if zaI u8 (bys l)[0]? = true then
 (if ((zad (bys l)[0]?).fdiv 16 != 4) = true then
 K (AV.tup [AV.agg [int i64 0, int i64 0, int u8 0, AV.bool false, int u8 0, int u8 0, int u8 0, int u8 0, int u8 0, int u8 0, int u8 0, int u8 0, int u8 0, int u8 0, int u8 0, int u8 0, int u8 0, int u8 0, int u8 0, int u8 0, AV.bool false, int u8 0, int u8 0, int u8 0, int u8 0, int u8 0, int u8 0, int u8 0, int u8 0, int u8 0, int u8 0, int u8 0, int u8 0, int u8 0, int u8 0, int u8 0, int u8 0], int i64 3])
 else (if decide (zad (some (int i64 (i64.wrap (i64.wrap (zaU u8 (· &&& ·) (zad (bys l)[0]?) 15) * 4)))) < 20) = true then
 K (AV.tup [AV.agg [int i64 0, int i64 0, int u8 0, AV.bool false, int u8 0, int u8 0, int u8 0, int u8 0, int u8 0, int u8 0, int u8 0, int u8 0, int u8 0, int u8 0, int u8 0, int u8 0, int u8 0, int u8 0, int u8 0, int u8 0, AV.bool false, int u8 0, int u8 0, int u8 0, int u8 0, int u8 0, int u8 0, int u8 0, int u8 0, int u8 0, int u8 0, int u8 0, int u8 0, int u8 0, int u8 0, int u8 0, int u8 0], int i64 3])
 else (if decide (zad (some (int i64 (zan (bOf (zgG l) (AV.sl (some (0, 0)) l.length 0 false)) 2))) < zad (some (int i64 (i64.wrap (i64.wrap (zaU u8 (· &&& ·) (zad (bys l)[0]?) 15) * 4))))) = true then
 K (AV.tup [AV.agg [int i64 0, int i64 0, int u8 0, AV.bool false, int u8 0, int u8 0, int u8 0, int u8 0, int u8 0, int u8 0, int u8 0, int u8 0, int u8 0, int u8 0, int u8 0, int u8 0, int u8 0, int u8 0, int u8 0, int u8 0, AV.bool false, int u8 0, int u8 0, int u8 0, int u8 0, int u8 0, int u8 0, int u8 0, int u8 0, int u8 0, int u8 0, int u8 0, int u8 0, int u8 0, int u8 0, int u8 0, int u8 0], int i64 3])
 else (if decide ((l.length : Int) < zad (some (int i64 (i64.wrap (i64.wrap (zaU u8 (· &&& ·) (zad (bys l)[0]?) 15) * 4))))) = true then
 K (AV.tup [AV.agg [int i64 0, int i64 0, int u8 0, AV.bool false, int u8 0, int u8 0, int u8 0, int u8 0, int u8 0, int u8 0, int u8 0, int u8 0, int u8 0, int u8 0, int u8 0, int u8 0, int u8 0, int u8 0, int u8 0, int u8 0, AV.bool false, int u8 0, int u8 0, int u8 0, int u8 0, int u8 0, int u8 0, int u8 0, int u8 0, int u8 0, int u8 0, int u8 0, int u8 0, int u8 0, int u8 0, int u8 0, int u8 0], int i64 1])
 else (if decide ((l.length : Int) < zad (some (int i64 (zan (bOf (zgG l) (AV.sl (some (0, 0)) l.length 0 false)) 2)))) = true then
 K (AV.tup [AV.agg [int i64 0, int i64 0, int u8 0, AV.bool false, int u8 0, int u8 0, int u8 0, int u8 0, int u8 0, int u8 0, int u8 0, int u8 0, int u8 0, int u8 0, int u8 0, int u8 0, int u8 0, int u8 0, int u8 0, int u8 0, AV.bool false, int u8 0, int u8 0, int u8 0, int u8 0, int u8 0, int u8 0, int u8 0, int u8 0, int u8 0, int u8 0, int u8 0, int u8 0, int u8 0, int u8 0, int u8 0, int u8 0], int i64 1])
 else (if 0 ≤ zad (some (int i64 (i64.wrap (i64.wrap (zaU u8 (· &&& ·) (zad (bys l)[0]?) 15) * 4)))) ∧ zad (some (int i64 (i64.wrap (i64.wrap (zaU u8 (· &&& ·) (zad (bys l)[0]?) 15) * 4)))) ≤ (((zai l.length 0 false) : Nat) : Int) then
 (if (bOk (ziZ l) (AV.sl (some (0, 0)) ((zad (some (int i64 (i64.wrap (i64.wrap (zaU u8 (· &&& ·) (zad (bys l)[0]?) 15) * 4))))).toNat - 0) (zac l.length 0 0 (some (zad (some (int i64 (i64.wrap (i64.wrap (zaU u8 (· &&& ·) (zad (bys l)[0]?) 15) * 4)))))).isNone (zad (some (int i64 (i64.wrap (i64.wrap (zaU u8 (· &&& ·) (zad (bys l)[0]?) 15) * 4))))).toNat false) false) && decide (nOf (AV.sl (some (0, 0)) ((zad (some (int i64 (i64.wrap (i64.wrap (zaU u8 (· &&& ·) (zad (bys l)[0]?) 15) * 4))))).toNat - 0) (zac l.length 0 0 (some (zad (some (int i64 (i64.wrap (i64.wrap (zaU u8 (· &&& ·) (zad (bys l)[0]?) 15) * 4)))))).isNone (zad (some (int i64 (i64.wrap (i64.wrap (zaU u8 (· &&& ·) (zad (bys l)[0]?) 15) * 4))))).toNat false) false) ≤ 70368744177664 ∧ Int.ofNat 0 ≤ Int.ofNat 0 ∧ Int.ofNat 0 < Int.ofNat 4294967296)) = true then
 (if (i64.wrap (65535 - zfX (bOf (ziZ l) (AV.sl (some (0, 0)) ((zad (some (int i64 (i64.wrap (i64.wrap (zaU u8 (· &&& ·) (zad (bys l)[0]?) 15) * 4))))).toNat - 0) (zac l.length 0 0 (some (zad (some (int i64 (i64.wrap (i64.wrap (zaU u8 (· &&& ·) (zad (bys l)[0]?) 15) * 4)))))).isNone (zad (some (int i64 (i64.wrap (i64.wrap (zaU u8 (· &&& ·) (zad (bys l)[0]?) 15) * 4))))).toNat false) false)) 0) != 0) = true then
 K (AV.tup [AV.agg [int i64 0, int i64 0, int u8 0, AV.bool false, int u8 0, int u8 0, int u8 0, int u8 0, int u8 0, int u8 0, int u8 0, int u8 0, int u8 0, int u8 0, int u8 0, int u8 0, int u8 0, int u8 0, int u8 0, int u8 0, AV.bool false, int u8 0, int u8 0, int u8 0, int u8 0, int u8 0, int u8 0, int u8 0, int u8 0, int u8 0, int u8 0, int u8 0, int u8 0, int u8 0, int u8 0, int u8 0, int u8 0], int i64 4])
 else (if (bOk (ziZ l) (AV.sl (some (0, 0)) l.length 0 false) && decide (nOf (AV.sl (some (0, 0)) l.length 0 false) ≤ 70368744177664 ∧ Int.ofNat 0 ≤ Int.ofNat 6 ∧ 8 ≤ (((nOf (AV.sl (some (0, 0)) l.length 0 false)) : Nat) : Int))) = true then
 (if (zaU i64 (· &&& ·) (zan (bOf (ziZ l) (AV.sl (some (0, 0)) l.length 0 false)) 6) 16383 != 0) = true then
 K (AV.tup [AV.agg [int i64 0, int i64 0, int u8 0, AV.bool false, int u8 0, int u8 0, int u8 0, int u8 0, int u8 0, int u8 0, int u8 0, int u8 0, int u8 0, int u8 0, int u8 0, int u8 0, int u8 0, int u8 0, int u8 0, int u8 0, AV.bool false, int u8 0, int u8 0, int u8 0, int u8 0, int u8 0, int u8 0, int u8 0, int u8 0, int u8 0, int u8 0, int u8 0, int u8 0, int u8 0, int u8 0, int u8 0, int u8 0], int i64 5])
 else (if (zad (some (int u8 (zad (bys l)[9]?))) != 6) = true then
 (if (zad (some (int u8 (zad (bys l)[9]?))) != 17) = true then
 K (AV.tup [AV.agg [int i64 0, int i64 0, int u8 0, AV.bool false, int u8 0, int u8 0, int u8 0, int u8 0, int u8 0, int u8 0, int u8 0, int u8 0, int u8 0, int u8 0, int u8 0, int u8 0, int u8 0, int u8 0, int u8 0, int u8 0, AV.bool false, int u8 0, int u8 0, int u8 0, int u8 0, int u8 0, int u8 0, int u8 0, int u8 0, int u8 0, int u8 0, int u8 0, int u8 0, int u8 0, int u8 0, int u8 0, int u8 0], int i64 6])
 else K (AV.tup [AV.agg [int i64 (i64.wrap (i64.wrap (zaU u8 (· &&& ·) (zad (bys l)[0]?) 15) * 4)), int i64 (zan (bOf (zgG l) (AV.sl (some (0, 0)) l.length 0 false)) 2), int u8 (zad (bys l)[9]?), AV.bool false, int u8 (byt (bOf (zbe l) (AV.sl (some (0, 12)) 4 (zac l.length 0 12 false 16 false) false)) 0), int u8 (byt (bOf (zbe l) (AV.sl (some (0, 12)) 4 (zac l.length 0 12 false 16 false) false)) 1), int u8 (byt (bOf (zbe l) (AV.sl (some (0, 12)) 4 (zac l.length 0 12 false 16 false) false)) 2), int u8 (byt (bOf (zbe l) (AV.sl (some (0, 12)) 4 (zac l.length 0 12 false 16 false) false)) 3), int u8 0, int u8 0, int u8 0, int u8 0, int u8 0, int u8 0, int u8 0, int u8 0, int u8 0, int u8 0, int u8 0, int u8 0, AV.bool false, int u8 (byt (bOf (zbV l) (AV.sl (some (0, 16)) 4 (zac l.length 0 16 false 20 false) false)) 0), int u8 (byt (bOf (zbV l) (AV.sl (some (0, 16)) 4 (zac l.length 0 16 false 20 false) false)) 1), int u8 (byt (bOf (zbV l) (AV.sl (some (0, 16)) 4 (zac l.length 0 16 false 20 false) false)) 2), int u8 (byt (bOf (zbV l) (AV.sl (some (0, 16)) 4 (zac l.length 0 16 false 20 false) false)) 3), int u8 0, int u8 0, int u8 0, int u8 0, int u8 0, int u8 0, int u8 0, int u8 0, int u8 0, int u8 0, int u8 0, int u8 0], int i64 0]))
 else K (AV.tup [AV.agg [int i64 (i64.wrap (i64.wrap (zaU u8 (· &&& ·) (zad (bys l)[0]?) 15) * 4)), int i64 (zan (bOf (zgG l) (AV.sl (some (0, 0)) l.length 0 false)) 2), int u8 (zad (bys l)[9]?), AV.bool false, int u8 (byt (bOf (zbe l) (AV.sl (some (0, 12)) 4 (zac l.length 0 12 false 16 false) false)) 0), int u8 (byt (bOf (zbe l) (AV.sl (some (0, 12)) 4 (zac l.length 0 12 false 16 false) false)) 1), int u8 (byt (bOf (zbe l) (AV.sl (some (0, 12)) 4 (zac l.length 0 12 false 16 false) false)) 2), int u8 (byt (bOf (zbe l) (AV.sl (some (0, 12)) 4 (zac l.length 0 12 false 16 false) false)) 3), int u8 0, int u8 0, int u8 0, int u8 0, int u8 0, int u8 0, int u8 0, int u8 0, int u8 0, int u8 0, int u8 0, int u8 0, AV.bool false, int u8 (byt (bOf (zbV l) (AV.sl (some (0, 16)) 4 (zac l.length 0 16 false 20 false) false)) 0), int u8 (byt (bOf (zbV l) (AV.sl (some (0, 16)) 4 (zac l.length 0 16 false 20 false) false)) 1), int u8 (byt (bOf (zbV l) (AV.sl (some (0, 16)) 4 (zac l.length 0 16 false 20 false) false)) 2), int u8 (byt (bOf (zbV l) (AV.sl (some (0, 16)) 4 (zac l.length 0 16 false 20 false) false)) 3), int u8 0, int u8 0, int u8 0, int u8 0, int u8 0, int u8 0, int u8 0, int u8 0, int u8 0, int u8 0, int u8 0, int u8 0], int i64 0])))
 else none))
 else none) else none))))))
 else none) else none) else none) else none) else none) else none) else none) else none) else none) else none) else none) else none) else none) else none) else none) else none) else none) else none) else none) else none) else none) else none) else none)) := by
  kernel_rfl


set_option maxHeartbeats 2000000 in
theorem zvB (l : List UInt8) (hl : l.length ≤ 1000000000000) : zbs Try.prog zxV 100 4 [] [] 42 [slB 0 l] [zaC l] (fun v _ => some v) = some (zbu l) := by
 rw [zAD]
 simp only [zd4, zbT, zcA, zt3, ↓Bool.and_eq_true, ↓decide_eq_true_eq, bOk, bOf, zd6, zdA, zby, List.getElem?_cons_zero, List.getElem?_cons_succ, Nat.zero_add, Nat.mul_one, Nat.add_zero, List.drop_zero, zb1, zbF, zba, za2, List.take_length, zah, zbl, zay, zaM, zbk, zcC, Bool.and_true, Bool.true_and, AV.beq_self, zrs, Nat.sub_zero]
 have w2 := zau l 2
 have w6 := zau l 6
 have hb0 := zaS l 0
 have hb9 := zaS l 9
 by_cases h1 : l.length < 20
 · have hr : r4 l = 1 := by unfold r4; rw [if_pos h1]
   repeat (first | (refine (if_pos ?_).trans ?_; · first | trivial | omega | (simp [zai]; done) | (simp [zai]; omega)) | (refine (if_neg ?_).trans ?_; · first | omega | (simp; done) | (simp; omega)))
   simp [zbu, zdo, zdl, z4, zbx, hr, zbg]
 have hA : zaU .u8 (· &&& ·) (byt l 0) 15 = byt l 0 % 16 := zAG hb0
 have hw1 : i64.wrap (byt l 0 % 16) = byt l 0 % 16 := zao (by omega)
 have hw2 : i64.wrap (byt l 0 % 16 * 4) = byt l 0 % 16 * 4 := zao (by omega)
 have n2 : zbv l 2 2 = zan l 2 := zcm (by omega)
 have n6 : zbv l 6 2 = zan l 6 := zcm (by omega)
 have f2 : (if Int.ofNat 0 ≤ Int.ofNat 2 ∧ 4 ≤ (l.length : Int) then zan l 2 else 0) = zan l 2 := if_pos ⟨by decide, by omega⟩
 have f6 : (if Int.ofNat 0 ≤ Int.ofNat 6 ∧ 8 ≤ (l.length : Int) then zan l 6 else 0) = zan l 6 := if_pos ⟨by decide, by omega⟩
 have hw3 : i64.wrap (zan l 2) = zan l 2 := zao (by omega)
 have hg6 : zaU .u16 (· &&& ·) (zan l 6) 16383 = zan l 6 % 16384 := zzy w6
 have hg6i : zaU .i64 (· &&& ·) (zan l 6) 16383 = zan l 6 % 16384 := zws w6
 have hS : s4 l = byt l 0 % 16 * 4 := rfl
 have hsr := zes (l.take (byt l 0 % 16 * 4).toNat) 0
 have hck : zft (l.take (byt l 0 % 16 * 4).toNat) = 65535 - zfX (l.take (byt l 0 % 16 * 4).toNat) 0 := rfl
 have hx : zaU .u16 (· ^^^ ·) 65535 (zfX (l.take (byt l 0 % 16 * 4).toNat) 0) = zft (l.take (byt l 0 % 16 * 4).toNat) := zpq hsr
 have hxi : i64.wrap (65535 - zfX (l.take (byt l 0 % 16 * 4).toNat) 0) = zft (l.take (byt l 0 % 16 * 4).toNat) := zao (by omega)
 simp only [hA, hw1, hw2, n2, n6, f2, f6, hw3, hg6, hg6i, hx, hxi]
 simp only [← hS]
 by_cases h2 : byt l 0 / 16 = 4
 case neg =>
  have hr : r4 l = 3 := by unfold r4; rw [if_neg h1, if_pos h2]
  repeat (first | (refine (if_pos ?_).trans ?_; · first | trivial | omega | (simp [zai]; done) | (simp [zai]; omega)) | (refine (if_neg ?_).trans ?_; · first | omega | (simp; done) | (simp; omega)))
  simp [zbu, zdo, zdl, z4, zbx, hr, zbg]
 by_cases h3 : s4 l < 20
 · have hr : r4 l = 3 := by unfold r4; rw [if_neg h1, if_neg (by omega), if_pos h3]
   repeat (first | (refine (if_pos ?_).trans ?_; · first | trivial | omega | (simp [zai]; done) | (simp [zai]; omega)) | (refine (if_neg ?_).trans ?_; · first | omega | (simp; done) | (simp; omega)))
   simp [zbu, zdo, zdl, z4, zbx, hr, zbg]
 by_cases h4 : zan l 2 < s4 l
 · have hr : r4 l = 3 := by unfold r4; rw [if_neg h1, if_neg (by omega), if_neg h3, if_pos h4]
   repeat (first | (refine (if_pos ?_).trans ?_; · first | trivial | omega | (simp [zai]; done) | (simp [zai]; omega)) | (refine (if_neg ?_).trans ?_; · first | omega | (simp; done) | (simp; omega)))
   simp [zbu, zdo, zdl, z4, zbx, hr, zbg]
 by_cases h5 : (l.length : Int) < zan l 2
 · have hr : r4 l = 1 := by unfold r4; rw [if_neg h1, if_neg (by omega), if_neg h3, if_neg h4, if_pos h5]
   by_cases h5b : (l.length : Int) < s4 l
   · repeat (first | (refine (if_pos ?_).trans ?_; · first | trivial | omega | (simp [zai]; done) | (simp [zai]; omega)) | (refine (if_neg ?_).trans ?_; · first | omega | (simp; done) | (simp; omega)))
     simp [zbu, zdo, zdl, z4, zbx, hr, zbg]
   · repeat (first | (refine (if_pos ?_).trans ?_; · first | trivial | omega | (simp [zai]; done) | (simp [zai]; omega)) | (refine (if_neg ?_).trans ?_; · first | omega | (simp; done) | (simp; omega)))
     simp [zbu, zdo, zdl, z4, zbx, hr, zbg]
 by_cases h6 : zft (l.take (s4 l).toNat) = 0
 case neg =>
  have hr : r4 l = 4 := by unfold r4; rw [if_neg h1, if_neg (by omega), if_neg h3, if_neg h4, if_neg h5, if_pos h6]
  repeat (first | (refine (if_pos ?_).trans ?_; · first | trivial | omega | (simp [zai]; done) | (simp [zai]; omega)) | (refine (if_neg ?_).trans ?_; · first | omega | (simp; done) | (simp; omega)))
  simp [zbu, zdo, zdl, z4, zbx, hr, zbg]
 by_cases h7 : zan l 6 % 16384 = 0
 case neg =>
  have hr : r4 l = 5 := by unfold r4; rw [if_neg h1, if_neg (by omega), if_neg h3, if_neg h4, if_neg h5, if_neg (by omega), if_pos h7]
  repeat (first | (refine (if_pos ?_).trans ?_; · first | trivial | omega | (simp [zai]; done) | (simp [zai]; omega)) | (refine (if_neg ?_).trans ?_; · first | omega | (simp; done) | (simp; omega)))
  simp [zbu, zdo, zdl, z4, zbx, hr, zbg]
 by_cases h8 : byt l 9 = 6
 · have hr : r4 l = 0 := by unfold r4; rw [if_neg h1, if_neg (by omega), if_neg h3, if_neg h4, if_neg h5, if_neg (by omega), if_neg (by omega), if_neg (by omega)]
   repeat (first | (refine (if_pos ?_).trans ?_; · first | trivial | omega | (simp [zai]; done) | (simp [zai]; omega)) | (refine (if_neg ?_).trans ?_; · first | omega | (simp; done) | (simp; omega)))
   simp [zbu, zdo, zdl, z4, zbx, hr, zbg]
 by_cases h9 : byt l 9 = 17
 · have hr : r4 l = 0 := by unfold r4; rw [if_neg h1, if_neg (by omega), if_neg h3, if_neg h4, if_neg h5, if_neg (by omega), if_neg (by omega), if_neg (by omega)]
   repeat (first | (refine (if_pos ?_).trans ?_; · first | trivial | omega | (simp [zai]; done) | (simp [zai]; omega)) | (refine (if_neg ?_).trans ?_; · first | omega | (simp; done) | (simp; omega)))
   simp [zbu, zdo, zdl, z4, zbx, hr, zbg]
 · have hr : r4 l = 6 := by unfold r4; rw [if_neg h1, if_neg (by omega), if_neg h3, if_neg h4, if_neg h5, if_neg (by omega), if_neg (by omega), if_pos ⟨h8, h9⟩]
   repeat (first | (refine (if_pos ?_).trans ?_; · first | trivial | omega | (simp [zai]; done) | (simp [zai]; omega)) | (refine (if_neg ?_).trans ?_; · first | omega | (simp; done) | (simp; omega)))
   simp [zbu, zdo, zdl, z4, zbx, hr, zbg]

def zma : zdD := fun args h => match args with
 | [b] => some (bOk h b && decide (nOf b ≤ 1000000000000), zbu (bOf h b), h)
 | _ => none

theorem zz2 : SoundE Try.prog 42 (zbj zma) := by
 refine zax fun args h v h' hg => ?_
 unfold zma at hg
 split at hg
 · rename_i b
   simp only [Option.some.injEq, Prod.mk.injEq, Bool.and_eq_true, decide_eq_true_eq] at hg
   obtain ⟨⟨hb, hn⟩, rfl, rfl⟩ := hg
   rw [← zbt hb] at hn
   refine ⟨rfl, rfl, [slB 0 (bOf h b)], [zaC (bOf h b)], .cons _ _ _ _ _ _ _ (zaJ hb 0) (.nil _), ?_⟩
   exact Runs.valT0 zyt (F := 100) (n := 4) (pr := []) (zvB _ hn)
 · simp at hg


set_option maxHeartbeats 2000000 in
theorem zud (l : List UInt8) (hl : l.length ≤ 1000000000000) : zbs Try.prog zqV 100 4 [] [] 35 [slB 0 l] [zaC l] (fun v _ => some v) = some (zbu l) := by
 rw [zwP]
 simp only [zgG, zbe, zbV, ziZ, ↓Bool.and_eq_true, ↓decide_eq_true_eq, bOk, bOf, zd6, zdA, zby, List.getElem?_cons_zero, List.getElem?_cons_succ, Nat.zero_add, Nat.mul_one, Nat.add_zero, List.drop_zero, zb1, zbF, zba, za2, List.take_length, zah, zbl, zay, zaM, zbk, zcC, Bool.and_true, Bool.true_and, AV.beq_self, zrs, Nat.sub_zero]
 have w2 := zau l 2
 have w6 := zau l 6
 have hb0 := zaS l 0
 have hb9 := zaS l 9
 by_cases h1 : l.length < 20
 · have hr : r4 l = 1 := by unfold r4; rw [if_pos h1]
   repeat (first | (refine (if_pos ?_).trans ?_; · first | trivial | omega | (simp [zai]; done) | (simp [zai]; omega)) | (refine (if_neg ?_).trans ?_; · first | omega | (simp; done) | (simp; omega)))
   simp [zbu, zdo, zdl, z4, zbx, hr, zbg]
 have hA : zaU .u8 (· &&& ·) (byt l 0) 15 = byt l 0 % 16 := zAG hb0
 have hw1 : i64.wrap (byt l 0 % 16) = byt l 0 % 16 := zao (by omega)
 have hw2 : i64.wrap (byt l 0 % 16 * 4) = byt l 0 % 16 * 4 := zao (by omega)
 have n2 : zbv l 2 2 = zan l 2 := zcm (by omega)
 have n6 : zbv l 6 2 = zan l 6 := zcm (by omega)
 have f2 : (if Int.ofNat 0 ≤ Int.ofNat 2 ∧ 4 ≤ (l.length : Int) then zan l 2 else 0) = zan l 2 := if_pos ⟨by decide, by omega⟩
 have f6 : (if Int.ofNat 0 ≤ Int.ofNat 6 ∧ 8 ≤ (l.length : Int) then zan l 6 else 0) = zan l 6 := if_pos ⟨by decide, by omega⟩
 have hw3 : i64.wrap (zan l 2) = zan l 2 := zao (by omega)
 have hg6 : zaU .u16 (· &&& ·) (zan l 6) 16383 = zan l 6 % 16384 := zzy w6
 have hg6i : zaU .i64 (· &&& ·) (zan l 6) 16383 = zan l 6 % 16384 := zws w6
 have hS : s4 l = byt l 0 % 16 * 4 := rfl
 have hsr := zes (l.take (byt l 0 % 16 * 4).toNat) 0
 have hck : zft (l.take (byt l 0 % 16 * 4).toNat) = 65535 - zfX (l.take (byt l 0 % 16 * 4).toNat) 0 := rfl
 have hx : zaU .u16 (· ^^^ ·) 65535 (zfX (l.take (byt l 0 % 16 * 4).toNat) 0) = zft (l.take (byt l 0 % 16 * 4).toNat) := zpq hsr
 have hxi : i64.wrap (65535 - zfX (l.take (byt l 0 % 16 * 4).toNat) 0) = zft (l.take (byt l 0 % 16 * 4).toNat) := zao (by omega)
 simp only [hA, hw1, hw2, n2, n6, f2, f6, hw3, hg6, hg6i, hx, hxi]
 simp only [← hS]
 by_cases h2 : byt l 0 / 16 = 4
 case neg =>
  have hr : r4 l = 3 := by unfold r4; rw [if_neg h1, if_pos h2]
  repeat (first | (refine (if_pos ?_).trans ?_; · first | trivial | omega | (simp [zai]; done) | (simp [zai]; omega)) | (refine (if_neg ?_).trans ?_; · first | omega | (simp; done) | (simp; omega)))
  simp [zbu, zdo, zdl, z4, zbx, hr, zbg]
 by_cases h3 : s4 l < 20
 · have hr : r4 l = 3 := by unfold r4; rw [if_neg h1, if_neg (by omega), if_pos h3]
   repeat (first | (refine (if_pos ?_).trans ?_; · first | trivial | omega | (simp [zai]; done) | (simp [zai]; omega)) | (refine (if_neg ?_).trans ?_; · first | omega | (simp; done) | (simp; omega)))
   simp [zbu, zdo, zdl, z4, zbx, hr, zbg]
 by_cases h4 : zan l 2 < s4 l
 · have hr : r4 l = 3 := by unfold r4; rw [if_neg h1, if_neg (by omega), if_neg h3, if_pos h4]
   repeat (first | (refine (if_pos ?_).trans ?_; · first | trivial | omega | (simp [zai]; done) | (simp [zai]; omega)) | (refine (if_neg ?_).trans ?_; · first | omega | (simp; done) | (simp; omega)))
   simp [zbu, zdo, zdl, z4, zbx, hr, zbg]
 by_cases h5 : (l.length : Int) < zan l 2
 · have hr : r4 l = 1 := by unfold r4; rw [if_neg h1, if_neg (by omega), if_neg h3, if_neg h4, if_pos h5]
   by_cases h5b : (l.length : Int) < s4 l
   · repeat (first | (refine (if_pos ?_).trans ?_; · first | trivial | omega | (simp [zai]; done) | (simp [zai]; omega)) | (refine (if_neg ?_).trans ?_; · first | omega | (simp; done) | (simp; omega)))
     simp [zbu, zdo, zdl, z4, zbx, hr, zbg]
   · repeat (first | (refine (if_pos ?_).trans ?_; · first | trivial | omega | (simp [zai]; done) | (simp [zai]; omega)) | (refine (if_neg ?_).trans ?_; · first | omega | (simp; done) | (simp; omega)))
     simp [zbu, zdo, zdl, z4, zbx, hr, zbg]
 by_cases h6 : zft (l.take (s4 l).toNat) = 0
 case neg =>
  have hr : r4 l = 4 := by unfold r4; rw [if_neg h1, if_neg (by omega), if_neg h3, if_neg h4, if_neg h5, if_pos h6]
  repeat (first | (refine (if_pos ?_).trans ?_; · first | trivial | omega | (simp [zai]; done) | (simp [zai]; omega)) | (refine (if_neg ?_).trans ?_; · first | omega | (simp; done) | (simp; omega)))
  simp [zbu, zdo, zdl, z4, zbx, hr, zbg]
 by_cases h7 : zan l 6 % 16384 = 0
 case neg =>
  have hr : r4 l = 5 := by unfold r4; rw [if_neg h1, if_neg (by omega), if_neg h3, if_neg h4, if_neg h5, if_neg (by omega), if_pos h7]
  repeat (first | (refine (if_pos ?_).trans ?_; · first | trivial | omega | (simp [zai]; done) | (simp [zai]; omega)) | (refine (if_neg ?_).trans ?_; · first | omega | (simp; done) | (simp; omega)))
  simp [zbu, zdo, zdl, z4, zbx, hr, zbg]
 by_cases h8 : byt l 9 = 6
 · have hr : r4 l = 0 := by unfold r4; rw [if_neg h1, if_neg (by omega), if_neg h3, if_neg h4, if_neg h5, if_neg (by omega), if_neg (by omega), if_neg (by omega)]
   repeat (first | (refine (if_pos ?_).trans ?_; · first | trivial | omega | (simp [zai]; done) | (simp [zai]; omega)) | (refine (if_neg ?_).trans ?_; · first | omega | (simp; done) | (simp; omega)))
   simp [zbu, zdo, zdl, z4, zbx, hr, zbg]
 by_cases h9 : byt l 9 = 17
 · have hr : r4 l = 0 := by unfold r4; rw [if_neg h1, if_neg (by omega), if_neg h3, if_neg h4, if_neg h5, if_neg (by omega), if_neg (by omega), if_neg (by omega)]
   repeat (first | (refine (if_pos ?_).trans ?_; · first | trivial | omega | (simp [zai]; done) | (simp [zai]; omega)) | (refine (if_neg ?_).trans ?_; · first | omega | (simp; done) | (simp; omega)))
   simp [zbu, zdo, zdl, z4, zbx, hr, zbg]
 · have hr : r4 l = 6 := by unfold r4; rw [if_neg h1, if_neg (by omega), if_neg h3, if_neg h4, if_neg h5, if_neg (by omega), if_neg (by omega), if_pos ⟨h8, h9⟩]
   repeat (first | (refine (if_pos ?_).trans ?_; · first | trivial | omega | (simp [zai]; done) | (simp [zai]; omega)) | (refine (if_neg ?_).trans ?_; · first | omega | (simp; done) | (simp; omega)))
   simp [zbu, zdo, zdl, z4, zbx, hr, zbg]

def zjp : zdD := fun args h => match args with
 | [b] => some (bOk h b && decide (nOf b ≤ 1000000000000), zbu (bOf h b), h)
 | _ => none

theorem zzt : SoundE Try.prog 35 (zbj zjp) := by
 refine zax fun args h v h' hg => ?_
 unfold zjp at hg
 split at hg
 · rename_i b
   simp only [Option.some.injEq, Prod.mk.injEq, Bool.and_eq_true, decide_eq_true_eq] at hg
   obtain ⟨⟨hb, hn⟩, rfl, rfl⟩ := hg
   rw [← zbt hb] at hn
   refine ⟨rfl, rfl, [slB 0 (bOf h b)], [zaC (bOf h b)], .cons _ _ _ _ _ _ _ (zaJ hb 0) (.nil _), ?_⟩
   exact Runs.valT0 zuF (F := 100) (n := 4) (pr := []) (zud _ hn)
 · simp at hg


end Go.Proofs.Ytnchnjkakddhlaa.L