/- SumZero's run. -/
import Derived.Test.YthkicndbaaconaaSumBits0
set_option autoImplicit false
set_option maxRecDepth 100000
set_option linter.unusedVariables false
set_option linter.unusedSimpArgs false
namespace Go.Proofs.Ythkicndbaaconaa.L
open Go Go.Abs

noncomputable def hSumZero0 (b : List UInt8) (p q : Int) : AHeap := [ABlk.cells (bys b) 1 Md.far none, ABlk.dead, ABlk.cells (List.take (b.length * 1) (bys b)) 1 Md.ro none, ABlk.cells [AV.int IntKind.u8 0] 1 Md.own none, ABlk.cells (List.take ((0 + b.length) * 1) (List.take (b.length * 1) (bys b)) ++ [AV.int IntKind.u8 0]) 1 Md.own (some 2)]
noncomputable def hSumZero1 (b : List UInt8) (p q : Int) : AHeap := [ABlk.cells (bys b) 1 Md.far none, ABlk.dead, ABlk.cells (List.take (b.length * 1) (bys b)) 1 Md.ro none, ABlk.cells [AV.int IntKind.u8 0] 1 Md.own none, ABlk.cells (List.take ((0 + b.length) * 1) (List.take (b.length * 1) (bys b)) ++ [AV.int IntKind.u8 0]) 1 Md.own (some 2), ABlk.dead, ABlk.cells (List.take ((0 + b.length + 1) * 1) (List.take ((0 + b.length) * 1) (List.take (b.length * 1) (bys b)) ++ [AV.int IntKind.u8 0])) 1 Md.ro none, ABlk.cells [AV.int IntKind.u8 (IntKind.u8.wrap ((abits IntKind.u16 (· ^^^ ·) 65535 (sumI (bOf (hSumZero0 b p q) (AV.sl (some (4, 0)) (0 + b.length + 1) 0 false)) 0)).fdiv 256)), AV.int IntKind.u8 (IntKind.u8.wrap (abits IntKind.u16 (· ^^^ ·) 65535 (sumI (bOf (hSumZero0 b p q) (AV.sl (some (4, 0)) (0 + b.length + 1) 0 false)) 0)))] 1 Md.own none, ABlk.cells (List.take ((0 + (0 + b.length + 1)) * 1) (List.take ((0 + b.length + 1) * 1) (List.take ((0 + b.length) * 1) (List.take (b.length * 1) (bys b)) ++ [AV.int IntKind.u8 0])) ++ [AV.int IntKind.u8 (IntKind.u8.wrap ((abits IntKind.u16 (· ^^^ ·) 65535 (sumI (bOf (hSumZero0 b p q) (AV.sl (some (4, 0)) (0 + b.length + 1) 0 false)) 0)).fdiv 256)), AV.int IntKind.u8 (IntKind.u8.wrap (abits IntKind.u16 (· ^^^ ·) 65535 (sumI (bOf (hSumZero0 b p q) (AV.sl (some (4, 0)) (0 + b.length + 1) 0 false)) 0)))]) 1 Md.own (some 6)]
noncomputable def hSumZero2 (b : List UInt8) (p q : Int) : AHeap := [ABlk.cells (bys b) 1 Md.far none, ABlk.dead, ABlk.cells (List.take (b.length * 1) (bys b)) 1 Md.ro none, ABlk.cells [AV.int IntKind.u8 0] 1 Md.own none, ABlk.cells (List.take ((0 + b.length) * 1) (List.take (b.length * 1) (bys b)) ++ [AV.int IntKind.u8 0]) 1 Md.own (some 2), ABlk.dead, ABlk.cells (List.take ((0 + b.length + 1) * 1) (List.take ((0 + b.length) * 1) (List.take (b.length * 1) (bys b)) ++ [AV.int IntKind.u8 0])) 1 Md.ro none, ABlk.cells [AV.int IntKind.u8 (IntKind.u8.wrap ((abits IntKind.u16 (· ^^^ ·) 65535 (sumI (bOf (hSumZero0 b p q) (AV.sl (some (4, 0)) (0 + b.length + 1) 0 false)) 0)).fdiv 256)), AV.int IntKind.u8 (IntKind.u8.wrap (abits IntKind.u16 (· ^^^ ·) 65535 (sumI (bOf (hSumZero0 b p q) (AV.sl (some (4, 0)) (0 + b.length + 1) 0 false)) 0)))] 1 Md.own none, ABlk.cells (List.take ((0 + (0 + b.length + 1)) * 1) (List.take ((0 + b.length + 1) * 1) (List.take ((0 + b.length) * 1) (List.take (b.length * 1) (bys b)) ++ [AV.int IntKind.u8 0])) ++ [AV.int IntKind.u8 (IntKind.u8.wrap ((abits IntKind.u16 (· ^^^ ·) 65535 (sumI (bOf (hSumZero0 b p q) (AV.sl (some (4, 0)) (0 + b.length + 1) 0 false)) 0)).fdiv 256)), AV.int IntKind.u8 (IntKind.u8.wrap (abits IntKind.u16 (· ^^^ ·) 65535 (sumI (bOf (hSumZero0 b p q) (AV.sl (some (4, 0)) (0 + b.length + 1) 0 false)) 0)))]) 1 Md.own (some 6), ABlk.dead, ABlk.cells (putCells (putCells (putCells (putCells (List.take ((0 + b.length + 1) * 1) (List.take ((0 + b.length) * 1) (List.take (b.length * 1) (bys b)) ++ [AV.int IntKind.u8 0])) (0 + (IntKind.i64.wrap (2 * (p % IntKind.i64.wrap ((((0 + b.length + 1 : Nat) : Int)).tdiv 2)))).toNat * 1) [AV.int IntKind.u8 (intV (List.take ((0 + b.length) * 1) (List.take (b.length * 1) (bys b)) ++ [AV.int IntKind.u8 0])[0 + (IntKind.i64.wrap (2 * (q % IntKind.i64.wrap ((((0 + b.length + 1 : Nat) : Int)).tdiv 2)))).toNat * 1]?)]) (0 + (IntKind.i64.wrap (IntKind.i64.wrap (2 * (p % IntKind.i64.wrap ((((0 + b.length + 1 : Nat) : Int)).tdiv 2))) + 1)).toNat * 1) [AV.int IntKind.u8 (intV (List.take ((0 + b.length) * 1) (List.take (b.length * 1) (bys b)) ++ [AV.int IntKind.u8 0])[0 + (IntKind.i64.wrap (IntKind.i64.wrap (2 * (q % IntKind.i64.wrap ((((0 + b.length + 1 : Nat) : Int)).tdiv 2))) + 1)).toNat * 1]?)]) (0 + (IntKind.i64.wrap (2 * (q % IntKind.i64.wrap ((((0 + b.length + 1 : Nat) : Int)).tdiv 2)))).toNat * 1) [AV.int IntKind.u8 (intV (List.take ((0 + b.length) * 1) (List.take (b.length * 1) (bys b)) ++ [AV.int IntKind.u8 0])[0 + (IntKind.i64.wrap (2 * (p % IntKind.i64.wrap ((((0 + b.length + 1 : Nat) : Int)).tdiv 2)))).toNat * 1]?)]) (0 + (IntKind.i64.wrap (IntKind.i64.wrap (2 * (q % IntKind.i64.wrap ((((0 + b.length + 1 : Nat) : Int)).tdiv 2))) + 1)).toNat * 1) [AV.int IntKind.u8 (intV (List.take ((0 + b.length) * 1) (List.take (b.length * 1) (bys b)) ++ [AV.int IntKind.u8 0])[0 + (IntKind.i64.wrap (IntKind.i64.wrap (2 * (p % IntKind.i64.wrap ((((0 + b.length + 1 : Nat) : Int)).tdiv 2))) + 1)).toNat * 1]?)]) 1 Md.own none]
noncomputable def hSumZero3 (b : List UInt8) (p q : Int) : AHeap := [ABlk.cells (bys b) 1 Md.far none]
noncomputable def hSumZero4 (b : List UInt8) (p q : Int) : AHeap := [ABlk.cells (bys b) 1 Md.far none, ABlk.dead, ABlk.cells (List.take (b.length * 1) (bys b)) 1 Md.ro none, ABlk.cells [AV.int IntKind.u8 (IntKind.u8.wrap ((abits IntKind.u16 (· ^^^ ·) 65535 (sumI (bOf (hSumZero3 b p q) (AV.sl (some (0, 0)) b.length 0 false)) 0)).fdiv 256)), AV.int IntKind.u8 (IntKind.u8.wrap (abits IntKind.u16 (· ^^^ ·) 65535 (sumI (bOf (hSumZero3 b p q) (AV.sl (some (0, 0)) b.length 0 false)) 0)))] 1 Md.own none, ABlk.cells (List.take ((0 + b.length) * 1) (List.take (b.length * 1) (bys b)) ++ [AV.int IntKind.u8 (IntKind.u8.wrap ((abits IntKind.u16 (· ^^^ ·) 65535 (sumI (bOf (hSumZero3 b p q) (AV.sl (some (0, 0)) b.length 0 false)) 0)).fdiv 256)), AV.int IntKind.u8 (IntKind.u8.wrap (abits IntKind.u16 (· ^^^ ·) 65535 (sumI (bOf (hSumZero3 b p q) (AV.sl (some (0, 0)) b.length 0 false)) 0)))]) 1 Md.own (some 2)]
noncomputable def hSumZero5 (b : List UInt8) (p q : Int) : AHeap := [ABlk.cells (bys b) 1 Md.far none, ABlk.dead, ABlk.cells (List.take (b.length * 1) (bys b)) 1 Md.ro none, ABlk.cells [AV.int IntKind.u8 (IntKind.u8.wrap ((abits IntKind.u16 (· ^^^ ·) 65535 (sumI (bOf (hSumZero3 b p q) (AV.sl (some (0, 0)) b.length 0 false)) 0)).fdiv 256)), AV.int IntKind.u8 (IntKind.u8.wrap (abits IntKind.u16 (· ^^^ ·) 65535 (sumI (bOf (hSumZero3 b p q) (AV.sl (some (0, 0)) b.length 0 false)) 0)))] 1 Md.own none, ABlk.cells (List.take ((0 + b.length) * 1) (List.take (b.length * 1) (bys b)) ++ [AV.int IntKind.u8 (IntKind.u8.wrap ((abits IntKind.u16 (· ^^^ ·) 65535 (sumI (bOf (hSumZero3 b p q) (AV.sl (some (0, 0)) b.length 0 false)) 0)).fdiv 256)), AV.int IntKind.u8 (IntKind.u8.wrap (abits IntKind.u16 (· ^^^ ·) 65535 (sumI (bOf (hSumZero3 b p q) (AV.sl (some (0, 0)) b.length 0 false)) 0)))]) 1 Md.own (some 2), ABlk.dead, ABlk.cells (putCells (putCells (putCells (putCells (List.take (b.length * 1) (bys b)) (0 + (IntKind.i64.wrap (2 * (p % IntKind.i64.wrap (((b.length : Int)).tdiv 2)))).toNat * 1) [AV.int IntKind.u8 (intV (bys b)[0 + (IntKind.i64.wrap (2 * (q % IntKind.i64.wrap (((b.length : Int)).tdiv 2)))).toNat * 1]?)]) (0 + (IntKind.i64.wrap (IntKind.i64.wrap (2 * (p % IntKind.i64.wrap (((b.length : Int)).tdiv 2))) + 1)).toNat * 1) [AV.int IntKind.u8 (intV (bys b)[0 + (IntKind.i64.wrap (IntKind.i64.wrap (2 * (q % IntKind.i64.wrap (((b.length : Int)).tdiv 2))) + 1)).toNat * 1]?)]) (0 + (IntKind.i64.wrap (2 * (q % IntKind.i64.wrap (((b.length : Int)).tdiv 2)))).toNat * 1) [AV.int IntKind.u8 (intV (bys b)[0 + (IntKind.i64.wrap (2 * (p % IntKind.i64.wrap (((b.length : Int)).tdiv 2)))).toNat * 1]?)]) (0 + (IntKind.i64.wrap (IntKind.i64.wrap (2 * (q % IntKind.i64.wrap (((b.length : Int)).tdiv 2))) + 1)).toNat * 1) [AV.int IntKind.u8 (intV (bys b)[0 + (IntKind.i64.wrap (IntKind.i64.wrap (2 * (p % IntKind.i64.wrap (((b.length : Int)).tdiv 2))) + 1)).toNat * 1]?)]) 1 Md.own none]
theorem nfSumZero {R : Type} (b : List UInt8) (p q : Int) (K : AV → Option R) :
    abody Try.prog (deepC Try.prog t3r 100 4) (mixLS [] (autoLS Try.prog (deepC Try.prog t3r 100 4) 100 4 (bodyOf Try.prog 5))) 5 [slB 0 b, .int .i64 p, .int .i64 q] [farB b] (fun v _ => K v) =
    (if decide ((b.length : Int) > 1000) = true then
      K (AV.bool true)
    else (if (((b.length : Int)).tmod 2 == 1) = true then
        (if 0 + b.length * 1 ≤ (bys b).length then
          (if (2 * (0 + b.length) + 200) * 1 ≤ 281474976710656 ∧ some 1 = some 1 ∧ 0 + b.length ≤ 70368744177664 then
            (if 0 = 0 ∧ 0 = 0 ∧ (0 < b.length ∨ 0 = 0) ∧ 1 = 1 ∧ (List.take (b.length * 1) (bys b)).all AV.isCell = true then
              (if (2 * (0 + b.length + 1) + 200) * 1 ≤ 281474976710656 ∧ some 1 = some 1 ∧ 0 + b.length + 1 ≤ 70368744177664 then
                (if 0 + (0 + b.length) * 1 ≤ (List.take (b.length * 1) (bys b)).length then
                  (if 0 = 0 ∧ 0 + (0 + b.length) * 1 = (List.take (b.length * 1) (bys b)).length ∧ (0 < 1 ∨ 0 = 0) ∧ 1 = 1 ∧ [AV.int IntKind.u8 0].all AV.isCell = true then
                    (if (bOk (hSumZero0 b p q) (AV.sl (some (4, 0)) (0 + b.length + 1) 0 false) && decide (nOf (AV.sl (some (4, 0)) (0 + b.length + 1) 0 false) ≤ 70368744177664 ∧ Int.ofNat 0 ≤ Int.ofNat 0 ∧ Int.ofNat 0 < Int.ofNat 4294967296)) = true then
                      (if 0 + (0 + b.length + 1) * 1 ≤ (List.take ((0 + b.length) * 1) (List.take (b.length * 1) (bys b)) ++ [AV.int IntKind.u8 0]).length then
                        (if (2 * (0 + (0 + b.length + 1)) + 200) * 1 ≤ 281474976710656 ∧ some 1 = some 1 ∧ 0 + (0 + b.length + 1) ≤ 70368744177664 then
                          (if 0 = 0 ∧ 0 = 0 ∧ (0 < 0 + b.length + 1 ∨ 0 = 0) ∧ 1 = 1 ∧ (List.take ((0 + b.length + 1) * 1) (List.take ((0 + b.length) * 1) (List.take (b.length * 1) (bys b)) ++ [AV.int IntKind.u8 0])).all AV.isCell = true then
                            (if (2 * (0 + (0 + b.length + 1) + 2) + 200) * 1 ≤ 281474976710656 ∧ some 1 = some 1 ∧ 0 + (0 + b.length + 1) + 2 ≤ 70368744177664 then
                              (if 0 + (0 + (0 + b.length + 1)) * 1 ≤ (List.take ((0 + b.length + 1) * 1) (List.take ((0 + b.length) * 1) (List.take (b.length * 1) (bys b)) ++ [AV.int IntKind.u8 0])).length then
                                (if 0 = 0 ∧ 0 + (0 + (0 + b.length + 1)) * 1 = (List.take ((0 + b.length + 1) * 1) (List.take ((0 + b.length) * 1) (List.take (b.length * 1) (bys b)) ++ [AV.int IntKind.u8 0])).length ∧ (0 < 2 ∨ 0 = 0) ∧ 1 = 1 ∧ [AV.int IntKind.u8 (IntKind.u8.wrap ((abits IntKind.u16 (· ^^^ ·) 65535 (sumI (bOf (hSumZero0 b p q) (AV.sl (some (4, 0)) (0 + b.length + 1) 0 false)) 0)).fdiv 256)), AV.int IntKind.u8 (IntKind.u8.wrap (abits IntKind.u16 (· ^^^ ·) 65535 (sumI (bOf (hSumZero0 b p q) (AV.sl (some (4, 0)) (0 + b.length + 1) 0 false)) 0)))].all AV.isCell = true then
                                  (if (bOk (hSumZero1 b p q) (AV.sl (some (8, 0)) (0 + (0 + b.length + 1) + 2) 0 false) && decide (nOf (AV.sl (some (8, 0)) (0 + (0 + b.length + 1) + 2) 0 false) ≤ 70368744177664 ∧ Int.ofNat 0 ≤ Int.ofNat 0 ∧ Int.ofNat 0 < Int.ofNat 4294967296)) = true then
                                    (if (abits IntKind.u16 (· ^^^ ·) 65535 (sumI (bOf (hSumZero1 b p q) (AV.sl (some (8, 0)) (0 + (0 + b.length + 1) + 2) 0 false)) 0) == 0) = true then
                                      (if decide (0 < IntKind.i64.wrap ((((0 + b.length + 1 : Nat) : Int)).tdiv 2) ∧ IntKind.i64.wrap ((((0 + b.length + 1 : Nat) : Int)).tdiv 2) < 4611686018427387904) = true then
                                        (if decide (0 < IntKind.i64.wrap ((((0 + b.length + 1 : Nat) : Int)).tdiv 2) ∧ IntKind.i64.wrap ((((0 + b.length + 1 : Nat) : Int)).tdiv 2) < 4611686018427387904) = true then
                                          (if 0 + (0 + b.length + 1) * 1 ≤ (List.take ((0 + b.length) * 1) (List.take (b.length * 1) (bys b)) ++ [AV.int IntKind.u8 0]).length then
                                            (if (2 * (0 + (0 + b.length + 1)) + 200) * 1 ≤ 281474976710656 ∧ some 1 = some 1 ∧ 0 + (0 + b.length + 1) ≤ 70368744177664 then
                                              (if 0 = 0 ∧ 0 = 0 ∧ (0 < 0 + b.length + 1 ∨ 0 = 0) ∧ 1 = 1 ∧ (List.take ((0 + b.length + 1) * 1) (List.take ((0 + b.length) * 1) (List.take (b.length * 1) (bys b)) ++ [AV.int IntKind.u8 0])).all AV.isCell = true then
                                                (if 0 ≤ IntKind.i64.wrap (2 * (q % IntKind.i64.wrap ((((0 + b.length + 1 : Nat) : Int)).tdiv 2))) ∧ IntKind.i64.wrap (2 * (q % IntKind.i64.wrap ((((0 + b.length + 1 : Nat) : Int)).tdiv 2))) < ((0 + b.length + 1 : Nat) : Int) then
                                                  (if isIntV IntKind.u8 (List.take ((0 + b.length) * 1) (List.take (b.length * 1) (bys b)) ++ [AV.int IntKind.u8 0])[0 + (IntKind.i64.wrap (2 * (q % IntKind.i64.wrap ((((0 + b.length + 1 : Nat) : Int)).tdiv 2)))).toNat * 1]? = true then
                                                    (if 0 ≤ IntKind.i64.wrap (IntKind.i64.wrap (2 * (q % IntKind.i64.wrap ((((0 + b.length + 1 : Nat) : Int)).tdiv 2))) + 1) ∧ IntKind.i64.wrap (IntKind.i64.wrap (2 * (q % IntKind.i64.wrap ((((0 + b.length + 1 : Nat) : Int)).tdiv 2))) + 1) < ((0 + b.length + 1 : Nat) : Int) then
                                                      (if isIntV IntKind.u8 (List.take ((0 + b.length) * 1) (List.take (b.length * 1) (bys b)) ++ [AV.int IntKind.u8 0])[0 + (IntKind.i64.wrap (IntKind.i64.wrap (2 * (q % IntKind.i64.wrap ((((0 + b.length + 1 : Nat) : Int)).tdiv 2))) + 1)).toNat * 1]? = true then
                                                        (if 0 ≤ IntKind.i64.wrap (2 * (p % IntKind.i64.wrap ((((0 + b.length + 1 : Nat) : Int)).tdiv 2))) ∧ IntKind.i64.wrap (2 * (p % IntKind.i64.wrap ((((0 + b.length + 1 : Nat) : Int)).tdiv 2))) < ((0 + b.length + 1 : Nat) : Int) then
                                                          (if isIntV IntKind.u8 (List.take ((0 + b.length) * 1) (List.take (b.length * 1) (bys b)) ++ [AV.int IntKind.u8 0])[0 + (IntKind.i64.wrap (2 * (p % IntKind.i64.wrap ((((0 + b.length + 1 : Nat) : Int)).tdiv 2)))).toNat * 1]? = true then
                                                            (if 0 ≤ IntKind.i64.wrap (IntKind.i64.wrap (2 * (p % IntKind.i64.wrap ((((0 + b.length + 1 : Nat) : Int)).tdiv 2))) + 1) ∧ IntKind.i64.wrap (IntKind.i64.wrap (2 * (p % IntKind.i64.wrap ((((0 + b.length + 1 : Nat) : Int)).tdiv 2))) + 1) < ((0 + b.length + 1 : Nat) : Int) then
                                                              (if isIntV IntKind.u8 (List.take ((0 + b.length) * 1) (List.take (b.length * 1) (bys b)) ++ [AV.int IntKind.u8 0])[0 + (IntKind.i64.wrap (IntKind.i64.wrap (2 * (p % IntKind.i64.wrap ((((0 + b.length + 1 : Nat) : Int)).tdiv 2))) + 1)).toNat * 1]? = true then
                                                                (if 0 ≤ IntKind.i64.wrap (2 * (p % IntKind.i64.wrap ((((0 + b.length + 1 : Nat) : Int)).tdiv 2))) ∧ IntKind.i64.wrap (2 * (p % IntKind.i64.wrap ((((0 + b.length + 1 : Nat) : Int)).tdiv 2))) < ((0 + (0 + b.length + 1) : Nat) : Int) then
                                                                  (if 0 + (IntKind.i64.wrap (2 * (p % IntKind.i64.wrap ((((0 + b.length + 1 : Nat) : Int)).tdiv 2)))).toNat * 1 + [AV.int IntKind.u8 (intV (List.take ((0 + b.length) * 1) (List.take (b.length * 1) (bys b)) ++ [AV.int IntKind.u8 0])[0 + (IntKind.i64.wrap (2 * (q % IntKind.i64.wrap ((((0 + b.length + 1 : Nat) : Int)).tdiv 2)))).toNat * 1]?)].length ≤ (List.take ((0 + b.length + 1) * 1) (List.take ((0 + b.length) * 1) (List.take (b.length * 1) (bys b)) ++ [AV.int IntKind.u8 0])).length ∧ [AV.int IntKind.u8 (intV (List.take ((0 + b.length) * 1) (List.take (b.length * 1) (bys b)) ++ [AV.int IntKind.u8 0])[0 + (IntKind.i64.wrap (2 * (q % IntKind.i64.wrap ((((0 + b.length + 1 : Nat) : Int)).tdiv 2)))).toNat * 1]?)].all AV.isCell = true then
                                                                    (if 0 ≤ IntKind.i64.wrap (IntKind.i64.wrap (2 * (p % IntKind.i64.wrap ((((0 + b.length + 1 : Nat) : Int)).tdiv 2))) + 1) ∧ IntKind.i64.wrap (IntKind.i64.wrap (2 * (p % IntKind.i64.wrap ((((0 + b.length + 1 : Nat) : Int)).tdiv 2))) + 1) < ((0 + (0 + b.length + 1) : Nat) : Int) then
                                                                      (if 0 + (IntKind.i64.wrap (IntKind.i64.wrap (2 * (p % IntKind.i64.wrap ((((0 + b.length + 1 : Nat) : Int)).tdiv 2))) + 1)).toNat * 1 + [AV.int IntKind.u8 (intV (List.take ((0 + b.length) * 1) (List.take (b.length * 1) (bys b)) ++ [AV.int IntKind.u8 0])[0 + (IntKind.i64.wrap (IntKind.i64.wrap (2 * (q % IntKind.i64.wrap ((((0 + b.length + 1 : Nat) : Int)).tdiv 2))) + 1)).toNat * 1]?)].length ≤ (putCells (List.take ((0 + b.length + 1) * 1) (List.take ((0 + b.length) * 1) (List.take (b.length * 1) (bys b)) ++ [AV.int IntKind.u8 0])) (0 + (IntKind.i64.wrap (2 * (p % IntKind.i64.wrap ((((0 + b.length + 1 : Nat) : Int)).tdiv 2)))).toNat * 1) [AV.int IntKind.u8 (intV (List.take ((0 + b.length) * 1) (List.take (b.length * 1) (bys b)) ++ [AV.int IntKind.u8 0])[0 + (IntKind.i64.wrap (2 * (q % IntKind.i64.wrap ((((0 + b.length + 1 : Nat) : Int)).tdiv 2)))).toNat * 1]?)]).length ∧ [AV.int IntKind.u8 (intV (List.take ((0 + b.length) * 1) (List.take (b.length * 1) (bys b)) ++ [AV.int IntKind.u8 0])[0 + (IntKind.i64.wrap (IntKind.i64.wrap (2 * (q % IntKind.i64.wrap ((((0 + b.length + 1 : Nat) : Int)).tdiv 2))) + 1)).toNat * 1]?)].all AV.isCell = true then
                                                                        (if 0 ≤ IntKind.i64.wrap (2 * (q % IntKind.i64.wrap ((((0 + b.length + 1 : Nat) : Int)).tdiv 2))) ∧ IntKind.i64.wrap (2 * (q % IntKind.i64.wrap ((((0 + b.length + 1 : Nat) : Int)).tdiv 2))) < ((0 + (0 + b.length + 1) : Nat) : Int) then
                                                                          (if 0 + (IntKind.i64.wrap (2 * (q % IntKind.i64.wrap ((((0 + b.length + 1 : Nat) : Int)).tdiv 2)))).toNat * 1 + [AV.int IntKind.u8 (intV (List.take ((0 + b.length) * 1) (List.take (b.length * 1) (bys b)) ++ [AV.int IntKind.u8 0])[0 + (IntKind.i64.wrap (2 * (p % IntKind.i64.wrap ((((0 + b.length + 1 : Nat) : Int)).tdiv 2)))).toNat * 1]?)].length ≤ (putCells (putCells (List.take ((0 + b.length + 1) * 1) (List.take ((0 + b.length) * 1) (List.take (b.length * 1) (bys b)) ++ [AV.int IntKind.u8 0])) (0 + (IntKind.i64.wrap (2 * (p % IntKind.i64.wrap ((((0 + b.length + 1 : Nat) : Int)).tdiv 2)))).toNat * 1) [AV.int IntKind.u8 (intV (List.take ((0 + b.length) * 1) (List.take (b.length * 1) (bys b)) ++ [AV.int IntKind.u8 0])[0 + (IntKind.i64.wrap (2 * (q % IntKind.i64.wrap ((((0 + b.length + 1 : Nat) : Int)).tdiv 2)))).toNat * 1]?)]) (0 + (IntKind.i64.wrap (IntKind.i64.wrap (2 * (p % IntKind.i64.wrap ((((0 + b.length + 1 : Nat) : Int)).tdiv 2))) + 1)).toNat * 1) [AV.int IntKind.u8 (intV (List.take ((0 + b.length) * 1) (List.take (b.length * 1) (bys b)) ++ [AV.int IntKind.u8 0])[0 + (IntKind.i64.wrap (IntKind.i64.wrap (2 * (q % IntKind.i64.wrap ((((0 + b.length + 1 : Nat) : Int)).tdiv 2))) + 1)).toNat * 1]?)]).length ∧ [AV.int IntKind.u8 (intV (List.take ((0 + b.length) * 1) (List.take (b.length * 1) (bys b)) ++ [AV.int IntKind.u8 0])[0 + (IntKind.i64.wrap (2 * (p % IntKind.i64.wrap ((((0 + b.length + 1 : Nat) : Int)).tdiv 2)))).toNat * 1]?)].all AV.isCell = true then
                                                                            (if 0 ≤ IntKind.i64.wrap (IntKind.i64.wrap (2 * (q % IntKind.i64.wrap ((((0 + b.length + 1 : Nat) : Int)).tdiv 2))) + 1) ∧ IntKind.i64.wrap (IntKind.i64.wrap (2 * (q % IntKind.i64.wrap ((((0 + b.length + 1 : Nat) : Int)).tdiv 2))) + 1) < ((0 + (0 + b.length + 1) : Nat) : Int) then
                                                                              (if 0 + (IntKind.i64.wrap (IntKind.i64.wrap (2 * (q % IntKind.i64.wrap ((((0 + b.length + 1 : Nat) : Int)).tdiv 2))) + 1)).toNat * 1 + [AV.int IntKind.u8 (intV (List.take ((0 + b.length) * 1) (List.take (b.length * 1) (bys b)) ++ [AV.int IntKind.u8 0])[0 + (IntKind.i64.wrap (IntKind.i64.wrap (2 * (p % IntKind.i64.wrap ((((0 + b.length + 1 : Nat) : Int)).tdiv 2))) + 1)).toNat * 1]?)].length ≤ (putCells (putCells (putCells (List.take ((0 + b.length + 1) * 1) (List.take ((0 + b.length) * 1) (List.take (b.length * 1) (bys b)) ++ [AV.int IntKind.u8 0])) (0 + (IntKind.i64.wrap (2 * (p % IntKind.i64.wrap ((((0 + b.length + 1 : Nat) : Int)).tdiv 2)))).toNat * 1) [AV.int IntKind.u8 (intV (List.take ((0 + b.length) * 1) (List.take (b.length * 1) (bys b)) ++ [AV.int IntKind.u8 0])[0 + (IntKind.i64.wrap (2 * (q % IntKind.i64.wrap ((((0 + b.length + 1 : Nat) : Int)).tdiv 2)))).toNat * 1]?)]) (0 + (IntKind.i64.wrap (IntKind.i64.wrap (2 * (p % IntKind.i64.wrap ((((0 + b.length + 1 : Nat) : Int)).tdiv 2))) + 1)).toNat * 1) [AV.int IntKind.u8 (intV (List.take ((0 + b.length) * 1) (List.take (b.length * 1) (bys b)) ++ [AV.int IntKind.u8 0])[0 + (IntKind.i64.wrap (IntKind.i64.wrap (2 * (q % IntKind.i64.wrap ((((0 + b.length + 1 : Nat) : Int)).tdiv 2))) + 1)).toNat * 1]?)]) (0 + (IntKind.i64.wrap (2 * (q % IntKind.i64.wrap ((((0 + b.length + 1 : Nat) : Int)).tdiv 2)))).toNat * 1) [AV.int IntKind.u8 (intV (List.take ((0 + b.length) * 1) (List.take (b.length * 1) (bys b)) ++ [AV.int IntKind.u8 0])[0 + (IntKind.i64.wrap (2 * (p % IntKind.i64.wrap ((((0 + b.length + 1 : Nat) : Int)).tdiv 2)))).toNat * 1]?)]).length ∧ [AV.int IntKind.u8 (intV (List.take ((0 + b.length) * 1) (List.take (b.length * 1) (bys b)) ++ [AV.int IntKind.u8 0])[0 + (IntKind.i64.wrap (IntKind.i64.wrap (2 * (p % IntKind.i64.wrap ((((0 + b.length + 1 : Nat) : Int)).tdiv 2))) + 1)).toNat * 1]?)].all AV.isCell = true then
                                                                                (if (bOk (hSumZero2 b p q) (AV.sl (some (10, 0)) (0 + (0 + b.length + 1)) 0 false) && decide (nOf (AV.sl (some (10, 0)) (0 + (0 + b.length + 1)) 0 false) ≤ 70368744177664 ∧ Int.ofNat 0 ≤ Int.ofNat 0 ∧ Int.ofNat 0 < Int.ofNat 4294967296)) = true then
                                                                                  (if (abits IntKind.u16 (· ^^^ ·) 65535 (sumI (bOf (hSumZero2 b p q) (AV.sl (some (10, 0)) (0 + (0 + b.length + 1)) 0 false)) 0) == abits IntKind.u16 (· ^^^ ·) 65535 (sumI (bOf (hSumZero0 b p q) (AV.sl (some (4, 0)) (0 + b.length + 1) 0 false)) 0)) = true then
                                                                                    K (AV.bool true)
                                                                                  else K (AV.bool false))
                                                                                else none)
                                                                              else none)
                                                                            else none)
                                                                          else none)
                                                                        else none)
                                                                      else none)
                                                                    else none)
                                                                  else none)
                                                                else none)
                                                              else none)
                                                            else none)
                                                          else none)
                                                        else none)
                                                      else none)
                                                    else none)
                                                  else none)
                                                else none)
                                              else none)
                                            else none)
                                          else none)
                                        else none)
                                      else none)
                                    else (if (!(abits IntKind.u16 (· ^^^ ·) 65535 (sumI (bOf (hSumZero1 b p q) (AV.sl (some (8, 0)) (0 + (0 + b.length + 1) + 2) 0 false)) 0)).tmod 65535 == 0) = true then
                                        K (AV.bool false)
                                      else (if decide (0 < IntKind.i64.wrap ((((0 + b.length + 1 : Nat) : Int)).tdiv 2) ∧ IntKind.i64.wrap ((((0 + b.length + 1 : Nat) : Int)).tdiv 2) < 4611686018427387904) = true then
                                          (if decide (0 < IntKind.i64.wrap ((((0 + b.length + 1 : Nat) : Int)).tdiv 2) ∧ IntKind.i64.wrap ((((0 + b.length + 1 : Nat) : Int)).tdiv 2) < 4611686018427387904) = true then
                                            (if 0 + (0 + b.length + 1) * 1 ≤ (List.take ((0 + b.length) * 1) (List.take (b.length * 1) (bys b)) ++ [AV.int IntKind.u8 0]).length then
                                              (if (2 * (0 + (0 + b.length + 1)) + 200) * 1 ≤ 281474976710656 ∧ some 1 = some 1 ∧ 0 + (0 + b.length + 1) ≤ 70368744177664 then
                                                (if 0 = 0 ∧ 0 = 0 ∧ (0 < 0 + b.length + 1 ∨ 0 = 0) ∧ 1 = 1 ∧ (List.take ((0 + b.length + 1) * 1) (List.take ((0 + b.length) * 1) (List.take (b.length * 1) (bys b)) ++ [AV.int IntKind.u8 0])).all AV.isCell = true then
                                                  (if 0 ≤ IntKind.i64.wrap (2 * (q % IntKind.i64.wrap ((((0 + b.length + 1 : Nat) : Int)).tdiv 2))) ∧ IntKind.i64.wrap (2 * (q % IntKind.i64.wrap ((((0 + b.length + 1 : Nat) : Int)).tdiv 2))) < ((0 + b.length + 1 : Nat) : Int) then
                                                    (if isIntV IntKind.u8 (List.take ((0 + b.length) * 1) (List.take (b.length * 1) (bys b)) ++ [AV.int IntKind.u8 0])[0 + (IntKind.i64.wrap (2 * (q % IntKind.i64.wrap ((((0 + b.length + 1 : Nat) : Int)).tdiv 2)))).toNat * 1]? = true then
                                                      (if 0 ≤ IntKind.i64.wrap (IntKind.i64.wrap (2 * (q % IntKind.i64.wrap ((((0 + b.length + 1 : Nat) : Int)).tdiv 2))) + 1) ∧ IntKind.i64.wrap (IntKind.i64.wrap (2 * (q % IntKind.i64.wrap ((((0 + b.length + 1 : Nat) : Int)).tdiv 2))) + 1) < ((0 + b.length + 1 : Nat) : Int) then
                                                        (if isIntV IntKind.u8 (List.take ((0 + b.length) * 1) (List.take (b.length * 1) (bys b)) ++ [AV.int IntKind.u8 0])[0 + (IntKind.i64.wrap (IntKind.i64.wrap (2 * (q % IntKind.i64.wrap ((((0 + b.length + 1 : Nat) : Int)).tdiv 2))) + 1)).toNat * 1]? = true then
                                                          (if 0 ≤ IntKind.i64.wrap (2 * (p % IntKind.i64.wrap ((((0 + b.length + 1 : Nat) : Int)).tdiv 2))) ∧ IntKind.i64.wrap (2 * (p % IntKind.i64.wrap ((((0 + b.length + 1 : Nat) : Int)).tdiv 2))) < ((0 + b.length + 1 : Nat) : Int) then
                                                            (if isIntV IntKind.u8 (List.take ((0 + b.length) * 1) (List.take (b.length * 1) (bys b)) ++ [AV.int IntKind.u8 0])[0 + (IntKind.i64.wrap (2 * (p % IntKind.i64.wrap ((((0 + b.length + 1 : Nat) : Int)).tdiv 2)))).toNat * 1]? = true then
                                                              (if 0 ≤ IntKind.i64.wrap (IntKind.i64.wrap (2 * (p % IntKind.i64.wrap ((((0 + b.length + 1 : Nat) : Int)).tdiv 2))) + 1) ∧ IntKind.i64.wrap (IntKind.i64.wrap (2 * (p % IntKind.i64.wrap ((((0 + b.length + 1 : Nat) : Int)).tdiv 2))) + 1) < ((0 + b.length + 1 : Nat) : Int) then
                                                                (if isIntV IntKind.u8 (List.take ((0 + b.length) * 1) (List.take (b.length * 1) (bys b)) ++ [AV.int IntKind.u8 0])[0 + (IntKind.i64.wrap (IntKind.i64.wrap (2 * (p % IntKind.i64.wrap ((((0 + b.length + 1 : Nat) : Int)).tdiv 2))) + 1)).toNat * 1]? = true then
                                                                  (if 0 ≤ IntKind.i64.wrap (2 * (p % IntKind.i64.wrap ((((0 + b.length + 1 : Nat) : Int)).tdiv 2))) ∧ IntKind.i64.wrap (2 * (p % IntKind.i64.wrap ((((0 + b.length + 1 : Nat) : Int)).tdiv 2))) < ((0 + (0 + b.length + 1) : Nat) : Int) then
                                                                    (if 0 + (IntKind.i64.wrap (2 * (p % IntKind.i64.wrap ((((0 + b.length + 1 : Nat) : Int)).tdiv 2)))).toNat * 1 + [AV.int IntKind.u8 (intV (List.take ((0 + b.length) * 1) (List.take (b.length * 1) (bys b)) ++ [AV.int IntKind.u8 0])[0 + (IntKind.i64.wrap (2 * (q % IntKind.i64.wrap ((((0 + b.length + 1 : Nat) : Int)).tdiv 2)))).toNat * 1]?)].length ≤ (List.take ((0 + b.length + 1) * 1) (List.take ((0 + b.length) * 1) (List.take (b.length * 1) (bys b)) ++ [AV.int IntKind.u8 0])).length ∧ [AV.int IntKind.u8 (intV (List.take ((0 + b.length) * 1) (List.take (b.length * 1) (bys b)) ++ [AV.int IntKind.u8 0])[0 + (IntKind.i64.wrap (2 * (q % IntKind.i64.wrap ((((0 + b.length + 1 : Nat) : Int)).tdiv 2)))).toNat * 1]?)].all AV.isCell = true then
                                                                      (if 0 ≤ IntKind.i64.wrap (IntKind.i64.wrap (2 * (p % IntKind.i64.wrap ((((0 + b.length + 1 : Nat) : Int)).tdiv 2))) + 1) ∧ IntKind.i64.wrap (IntKind.i64.wrap (2 * (p % IntKind.i64.wrap ((((0 + b.length + 1 : Nat) : Int)).tdiv 2))) + 1) < ((0 + (0 + b.length + 1) : Nat) : Int) then
                                                                        (if 0 + (IntKind.i64.wrap (IntKind.i64.wrap (2 * (p % IntKind.i64.wrap ((((0 + b.length + 1 : Nat) : Int)).tdiv 2))) + 1)).toNat * 1 + [AV.int IntKind.u8 (intV (List.take ((0 + b.length) * 1) (List.take (b.length * 1) (bys b)) ++ [AV.int IntKind.u8 0])[0 + (IntKind.i64.wrap (IntKind.i64.wrap (2 * (q % IntKind.i64.wrap ((((0 + b.length + 1 : Nat) : Int)).tdiv 2))) + 1)).toNat * 1]?)].length ≤ (putCells (List.take ((0 + b.length + 1) * 1) (List.take ((0 + b.length) * 1) (List.take (b.length * 1) (bys b)) ++ [AV.int IntKind.u8 0])) (0 + (IntKind.i64.wrap (2 * (p % IntKind.i64.wrap ((((0 + b.length + 1 : Nat) : Int)).tdiv 2)))).toNat * 1) [AV.int IntKind.u8 (intV (List.take ((0 + b.length) * 1) (List.take (b.length * 1) (bys b)) ++ [AV.int IntKind.u8 0])[0 + (IntKind.i64.wrap (2 * (q % IntKind.i64.wrap ((((0 + b.length + 1 : Nat) : Int)).tdiv 2)))).toNat * 1]?)]).length ∧ [AV.int IntKind.u8 (intV (List.take ((0 + b.length) * 1) (List.take (b.length * 1) (bys b)) ++ [AV.int IntKind.u8 0])[0 + (IntKind.i64.wrap (IntKind.i64.wrap (2 * (q % IntKind.i64.wrap ((((0 + b.length + 1 : Nat) : Int)).tdiv 2))) + 1)).toNat * 1]?)].all AV.isCell = true then
                                                                          (if 0 ≤ IntKind.i64.wrap (2 * (q % IntKind.i64.wrap ((((0 + b.length + 1 : Nat) : Int)).tdiv 2))) ∧ IntKind.i64.wrap (2 * (q % IntKind.i64.wrap ((((0 + b.length + 1 : Nat) : Int)).tdiv 2))) < ((0 + (0 + b.length + 1) : Nat) : Int) then
                                                                            (if 0 + (IntKind.i64.wrap (2 * (q % IntKind.i64.wrap ((((0 + b.length + 1 : Nat) : Int)).tdiv 2)))).toNat * 1 + [AV.int IntKind.u8 (intV (List.take ((0 + b.length) * 1) (List.take (b.length * 1) (bys b)) ++ [AV.int IntKind.u8 0])[0 + (IntKind.i64.wrap (2 * (p % IntKind.i64.wrap ((((0 + b.length + 1 : Nat) : Int)).tdiv 2)))).toNat * 1]?)].length ≤ (putCells (putCells (List.take ((0 + b.length + 1) * 1) (List.take ((0 + b.length) * 1) (List.take (b.length * 1) (bys b)) ++ [AV.int IntKind.u8 0])) (0 + (IntKind.i64.wrap (2 * (p % IntKind.i64.wrap ((((0 + b.length + 1 : Nat) : Int)).tdiv 2)))).toNat * 1) [AV.int IntKind.u8 (intV (List.take ((0 + b.length) * 1) (List.take (b.length * 1) (bys b)) ++ [AV.int IntKind.u8 0])[0 + (IntKind.i64.wrap (2 * (q % IntKind.i64.wrap ((((0 + b.length + 1 : Nat) : Int)).tdiv 2)))).toNat * 1]?)]) (0 + (IntKind.i64.wrap (IntKind.i64.wrap (2 * (p % IntKind.i64.wrap ((((0 + b.length + 1 : Nat) : Int)).tdiv 2))) + 1)).toNat * 1) [AV.int IntKind.u8 (intV (List.take ((0 + b.length) * 1) (List.take (b.length * 1) (bys b)) ++ [AV.int IntKind.u8 0])[0 + (IntKind.i64.wrap (IntKind.i64.wrap (2 * (q % IntKind.i64.wrap ((((0 + b.length + 1 : Nat) : Int)).tdiv 2))) + 1)).toNat * 1]?)]).length ∧ [AV.int IntKind.u8 (intV (List.take ((0 + b.length) * 1) (List.take (b.length * 1) (bys b)) ++ [AV.int IntKind.u8 0])[0 + (IntKind.i64.wrap (2 * (p % IntKind.i64.wrap ((((0 + b.length + 1 : Nat) : Int)).tdiv 2)))).toNat * 1]?)].all AV.isCell = true then
                                                                              (if 0 ≤ IntKind.i64.wrap (IntKind.i64.wrap (2 * (q % IntKind.i64.wrap ((((0 + b.length + 1 : Nat) : Int)).tdiv 2))) + 1) ∧ IntKind.i64.wrap (IntKind.i64.wrap (2 * (q % IntKind.i64.wrap ((((0 + b.length + 1 : Nat) : Int)).tdiv 2))) + 1) < ((0 + (0 + b.length + 1) : Nat) : Int) then
                                                                                (if 0 + (IntKind.i64.wrap (IntKind.i64.wrap (2 * (q % IntKind.i64.wrap ((((0 + b.length + 1 : Nat) : Int)).tdiv 2))) + 1)).toNat * 1 + [AV.int IntKind.u8 (intV (List.take ((0 + b.length) * 1) (List.take (b.length * 1) (bys b)) ++ [AV.int IntKind.u8 0])[0 + (IntKind.i64.wrap (IntKind.i64.wrap (2 * (p % IntKind.i64.wrap ((((0 + b.length + 1 : Nat) : Int)).tdiv 2))) + 1)).toNat * 1]?)].length ≤ (putCells (putCells (putCells (List.take ((0 + b.length + 1) * 1) (List.take ((0 + b.length) * 1) (List.take (b.length * 1) (bys b)) ++ [AV.int IntKind.u8 0])) (0 + (IntKind.i64.wrap (2 * (p % IntKind.i64.wrap ((((0 + b.length + 1 : Nat) : Int)).tdiv 2)))).toNat * 1) [AV.int IntKind.u8 (intV (List.take ((0 + b.length) * 1) (List.take (b.length * 1) (bys b)) ++ [AV.int IntKind.u8 0])[0 + (IntKind.i64.wrap (2 * (q % IntKind.i64.wrap ((((0 + b.length + 1 : Nat) : Int)).tdiv 2)))).toNat * 1]?)]) (0 + (IntKind.i64.wrap (IntKind.i64.wrap (2 * (p % IntKind.i64.wrap ((((0 + b.length + 1 : Nat) : Int)).tdiv 2))) + 1)).toNat * 1) [AV.int IntKind.u8 (intV (List.take ((0 + b.length) * 1) (List.take (b.length * 1) (bys b)) ++ [AV.int IntKind.u8 0])[0 + (IntKind.i64.wrap (IntKind.i64.wrap (2 * (q % IntKind.i64.wrap ((((0 + b.length + 1 : Nat) : Int)).tdiv 2))) + 1)).toNat * 1]?)]) (0 + (IntKind.i64.wrap (2 * (q % IntKind.i64.wrap ((((0 + b.length + 1 : Nat) : Int)).tdiv 2)))).toNat * 1) [AV.int IntKind.u8 (intV (List.take ((0 + b.length) * 1) (List.take (b.length * 1) (bys b)) ++ [AV.int IntKind.u8 0])[0 + (IntKind.i64.wrap (2 * (p % IntKind.i64.wrap ((((0 + b.length + 1 : Nat) : Int)).tdiv 2)))).toNat * 1]?)]).length ∧ [AV.int IntKind.u8 (intV (List.take ((0 + b.length) * 1) (List.take (b.length * 1) (bys b)) ++ [AV.int IntKind.u8 0])[0 + (IntKind.i64.wrap (IntKind.i64.wrap (2 * (p % IntKind.i64.wrap ((((0 + b.length + 1 : Nat) : Int)).tdiv 2))) + 1)).toNat * 1]?)].all AV.isCell = true then
                                                                                  (if (bOk (hSumZero2 b p q) (AV.sl (some (10, 0)) (0 + (0 + b.length + 1)) 0 false) && decide (nOf (AV.sl (some (10, 0)) (0 + (0 + b.length + 1)) 0 false) ≤ 70368744177664 ∧ Int.ofNat 0 ≤ Int.ofNat 0 ∧ Int.ofNat 0 < Int.ofNat 4294967296)) = true then
                                                                                    (if (abits IntKind.u16 (· ^^^ ·) 65535 (sumI (bOf (hSumZero2 b p q) (AV.sl (some (10, 0)) (0 + (0 + b.length + 1)) 0 false)) 0) == abits IntKind.u16 (· ^^^ ·) 65535 (sumI (bOf (hSumZero0 b p q) (AV.sl (some (4, 0)) (0 + b.length + 1) 0 false)) 0)) = true then
                                                                                      K (AV.bool true)
                                                                                    else K (AV.bool false))
                                                                                  else none)
                                                                                else none)
                                                                              else none)
                                                                            else none)
                                                                          else none)
                                                                        else none)
                                                                      else none)
                                                                    else none)
                                                                  else none)
                                                                else none)
                                                              else none)
                                                            else none)
                                                          else none)
                                                        else none)
                                                      else none)
                                                    else none)
                                                  else none)
                                                else none)
                                              else none)
                                            else none)
                                          else none)
                                        else none)))
                                  else none)
                                else none)
                              else none)
                            else none)
                          else none)
                        else none)
                      else none)
                    else none)
                  else none)
                else none)
              else none)
            else none)
          else none)
        else none)
      else (if (bOk (hSumZero3 b p q) (AV.sl (some (0, 0)) b.length 0 false) && decide (nOf (AV.sl (some (0, 0)) b.length 0 false) ≤ 70368744177664 ∧ Int.ofNat 0 ≤ Int.ofNat 0 ∧ Int.ofNat 0 < Int.ofNat 4294967296)) = true then
          (if 0 + b.length * 1 ≤ (bys b).length then
            (if (2 * (0 + b.length) + 200) * 1 ≤ 281474976710656 ∧ some 1 = some 1 ∧ 0 + b.length ≤ 70368744177664 then
              (if 0 = 0 ∧ 0 = 0 ∧ (0 < b.length ∨ 0 = 0) ∧ 1 = 1 ∧ (List.take (b.length * 1) (bys b)).all AV.isCell = true then
                (if (2 * (0 + b.length + 2) + 200) * 1 ≤ 281474976710656 ∧ some 1 = some 1 ∧ 0 + b.length + 2 ≤ 70368744177664 then
                  (if 0 + (0 + b.length) * 1 ≤ (List.take (b.length * 1) (bys b)).length then
                    (if 0 = 0 ∧ 0 + (0 + b.length) * 1 = (List.take (b.length * 1) (bys b)).length ∧ (0 < 2 ∨ 0 = 0) ∧ 1 = 1 ∧ [AV.int IntKind.u8 (IntKind.u8.wrap ((abits IntKind.u16 (· ^^^ ·) 65535 (sumI (bOf (hSumZero3 b p q) (AV.sl (some (0, 0)) b.length 0 false)) 0)).fdiv 256)), AV.int IntKind.u8 (IntKind.u8.wrap (abits IntKind.u16 (· ^^^ ·) 65535 (sumI (bOf (hSumZero3 b p q) (AV.sl (some (0, 0)) b.length 0 false)) 0)))].all AV.isCell = true then
                      (if (bOk (hSumZero4 b p q) (AV.sl (some (4, 0)) (0 + b.length + 2) 0 false) && decide (nOf (AV.sl (some (4, 0)) (0 + b.length + 2) 0 false) ≤ 70368744177664 ∧ Int.ofNat 0 ≤ Int.ofNat 0 ∧ Int.ofNat 0 < Int.ofNat 4294967296)) = true then
                        (if (abits IntKind.u16 (· ^^^ ·) 65535 (sumI (bOf (hSumZero4 b p q) (AV.sl (some (4, 0)) (0 + b.length + 2) 0 false)) 0) == 0) = true then
                          (if ((b.length : Int) == 0) = true then
                            (if (abits IntKind.u16 (· ^^^ ·) 65535 (sumI (bOf (hSumZero3 b p q) (AV.sl (some (0, 0)) b.length 0 false)) 0) == 65535) = true then
                              K (AV.bool true)
                            else K (AV.bool false))
                          else (if decide (0 < IntKind.i64.wrap (((b.length : Int)).tdiv 2) ∧ IntKind.i64.wrap (((b.length : Int)).tdiv 2) < 4611686018427387904) = true then
                              (if decide (0 < IntKind.i64.wrap (((b.length : Int)).tdiv 2) ∧ IntKind.i64.wrap (((b.length : Int)).tdiv 2) < 4611686018427387904) = true then
                                (if 0 + b.length * 1 ≤ (bys b).length then
                                  (if (2 * (0 + b.length) + 200) * 1 ≤ 281474976710656 ∧ some 1 = some 1 ∧ 0 + b.length ≤ 70368744177664 then
                                    (if 0 = 0 ∧ 0 = 0 ∧ (0 < b.length ∨ 0 = 0) ∧ 1 = 1 ∧ (List.take (b.length * 1) (bys b)).all AV.isCell = true then
                                      (if 0 ≤ IntKind.i64.wrap (2 * (q % IntKind.i64.wrap (((b.length : Int)).tdiv 2))) ∧ IntKind.i64.wrap (2 * (q % IntKind.i64.wrap (((b.length : Int)).tdiv 2))) < (b.length : Int) then
                                        (if isIntV IntKind.u8 (bys b)[0 + (IntKind.i64.wrap (2 * (q % IntKind.i64.wrap (((b.length : Int)).tdiv 2)))).toNat * 1]? = true then
                                          (if 0 ≤ IntKind.i64.wrap (IntKind.i64.wrap (2 * (q % IntKind.i64.wrap (((b.length : Int)).tdiv 2))) + 1) ∧ IntKind.i64.wrap (IntKind.i64.wrap (2 * (q % IntKind.i64.wrap (((b.length : Int)).tdiv 2))) + 1) < (b.length : Int) then
                                            (if isIntV IntKind.u8 (bys b)[0 + (IntKind.i64.wrap (IntKind.i64.wrap (2 * (q % IntKind.i64.wrap (((b.length : Int)).tdiv 2))) + 1)).toNat * 1]? = true then
                                              (if 0 ≤ IntKind.i64.wrap (2 * (p % IntKind.i64.wrap (((b.length : Int)).tdiv 2))) ∧ IntKind.i64.wrap (2 * (p % IntKind.i64.wrap (((b.length : Int)).tdiv 2))) < (b.length : Int) then
                                                (if isIntV IntKind.u8 (bys b)[0 + (IntKind.i64.wrap (2 * (p % IntKind.i64.wrap (((b.length : Int)).tdiv 2)))).toNat * 1]? = true then
                                                  (if 0 ≤ IntKind.i64.wrap (IntKind.i64.wrap (2 * (p % IntKind.i64.wrap (((b.length : Int)).tdiv 2))) + 1) ∧ IntKind.i64.wrap (IntKind.i64.wrap (2 * (p % IntKind.i64.wrap (((b.length : Int)).tdiv 2))) + 1) < (b.length : Int) then
                                                    (if isIntV IntKind.u8 (bys b)[0 + (IntKind.i64.wrap (IntKind.i64.wrap (2 * (p % IntKind.i64.wrap (((b.length : Int)).tdiv 2))) + 1)).toNat * 1]? = true then
                                                      (if 0 ≤ IntKind.i64.wrap (2 * (p % IntKind.i64.wrap (((b.length : Int)).tdiv 2))) ∧ IntKind.i64.wrap (2 * (p % IntKind.i64.wrap (((b.length : Int)).tdiv 2))) < ((0 + b.length : Nat) : Int) then
                                                        (if 0 + (IntKind.i64.wrap (2 * (p % IntKind.i64.wrap (((b.length : Int)).tdiv 2)))).toNat * 1 + [AV.int IntKind.u8 (intV (bys b)[0 + (IntKind.i64.wrap (2 * (q % IntKind.i64.wrap (((b.length : Int)).tdiv 2)))).toNat * 1]?)].length ≤ (List.take (b.length * 1) (bys b)).length ∧ [AV.int IntKind.u8 (intV (bys b)[0 + (IntKind.i64.wrap (2 * (q % IntKind.i64.wrap (((b.length : Int)).tdiv 2)))).toNat * 1]?)].all AV.isCell = true then
                                                          (if 0 ≤ IntKind.i64.wrap (IntKind.i64.wrap (2 * (p % IntKind.i64.wrap (((b.length : Int)).tdiv 2))) + 1) ∧ IntKind.i64.wrap (IntKind.i64.wrap (2 * (p % IntKind.i64.wrap (((b.length : Int)).tdiv 2))) + 1) < ((0 + b.length : Nat) : Int) then
                                                            (if 0 + (IntKind.i64.wrap (IntKind.i64.wrap (2 * (p % IntKind.i64.wrap (((b.length : Int)).tdiv 2))) + 1)).toNat * 1 + [AV.int IntKind.u8 (intV (bys b)[0 + (IntKind.i64.wrap (IntKind.i64.wrap (2 * (q % IntKind.i64.wrap (((b.length : Int)).tdiv 2))) + 1)).toNat * 1]?)].length ≤ (putCells (List.take (b.length * 1) (bys b)) (0 + (IntKind.i64.wrap (2 * (p % IntKind.i64.wrap (((b.length : Int)).tdiv 2)))).toNat * 1) [AV.int IntKind.u8 (intV (bys b)[0 + (IntKind.i64.wrap (2 * (q % IntKind.i64.wrap (((b.length : Int)).tdiv 2)))).toNat * 1]?)]).length ∧ [AV.int IntKind.u8 (intV (bys b)[0 + (IntKind.i64.wrap (IntKind.i64.wrap (2 * (q % IntKind.i64.wrap (((b.length : Int)).tdiv 2))) + 1)).toNat * 1]?)].all AV.isCell = true then
                                                              (if 0 ≤ IntKind.i64.wrap (2 * (q % IntKind.i64.wrap (((b.length : Int)).tdiv 2))) ∧ IntKind.i64.wrap (2 * (q % IntKind.i64.wrap (((b.length : Int)).tdiv 2))) < ((0 + b.length : Nat) : Int) then
                                                                (if 0 + (IntKind.i64.wrap (2 * (q % IntKind.i64.wrap (((b.length : Int)).tdiv 2)))).toNat * 1 + [AV.int IntKind.u8 (intV (bys b)[0 + (IntKind.i64.wrap (2 * (p % IntKind.i64.wrap (((b.length : Int)).tdiv 2)))).toNat * 1]?)].length ≤ (putCells (putCells (List.take (b.length * 1) (bys b)) (0 + (IntKind.i64.wrap (2 * (p % IntKind.i64.wrap (((b.length : Int)).tdiv 2)))).toNat * 1) [AV.int IntKind.u8 (intV (bys b)[0 + (IntKind.i64.wrap (2 * (q % IntKind.i64.wrap (((b.length : Int)).tdiv 2)))).toNat * 1]?)]) (0 + (IntKind.i64.wrap (IntKind.i64.wrap (2 * (p % IntKind.i64.wrap (((b.length : Int)).tdiv 2))) + 1)).toNat * 1) [AV.int IntKind.u8 (intV (bys b)[0 + (IntKind.i64.wrap (IntKind.i64.wrap (2 * (q % IntKind.i64.wrap (((b.length : Int)).tdiv 2))) + 1)).toNat * 1]?)]).length ∧ [AV.int IntKind.u8 (intV (bys b)[0 + (IntKind.i64.wrap (2 * (p % IntKind.i64.wrap (((b.length : Int)).tdiv 2)))).toNat * 1]?)].all AV.isCell = true then
                                                                  (if 0 ≤ IntKind.i64.wrap (IntKind.i64.wrap (2 * (q % IntKind.i64.wrap (((b.length : Int)).tdiv 2))) + 1) ∧ IntKind.i64.wrap (IntKind.i64.wrap (2 * (q % IntKind.i64.wrap (((b.length : Int)).tdiv 2))) + 1) < ((0 + b.length : Nat) : Int) then
                                                                    (if 0 + (IntKind.i64.wrap (IntKind.i64.wrap (2 * (q % IntKind.i64.wrap (((b.length : Int)).tdiv 2))) + 1)).toNat * 1 + [AV.int IntKind.u8 (intV (bys b)[0 + (IntKind.i64.wrap (IntKind.i64.wrap (2 * (p % IntKind.i64.wrap (((b.length : Int)).tdiv 2))) + 1)).toNat * 1]?)].length ≤ (putCells (putCells (putCells (List.take (b.length * 1) (bys b)) (0 + (IntKind.i64.wrap (2 * (p % IntKind.i64.wrap (((b.length : Int)).tdiv 2)))).toNat * 1) [AV.int IntKind.u8 (intV (bys b)[0 + (IntKind.i64.wrap (2 * (q % IntKind.i64.wrap (((b.length : Int)).tdiv 2)))).toNat * 1]?)]) (0 + (IntKind.i64.wrap (IntKind.i64.wrap (2 * (p % IntKind.i64.wrap (((b.length : Int)).tdiv 2))) + 1)).toNat * 1) [AV.int IntKind.u8 (intV (bys b)[0 + (IntKind.i64.wrap (IntKind.i64.wrap (2 * (q % IntKind.i64.wrap (((b.length : Int)).tdiv 2))) + 1)).toNat * 1]?)]) (0 + (IntKind.i64.wrap (2 * (q % IntKind.i64.wrap (((b.length : Int)).tdiv 2)))).toNat * 1) [AV.int IntKind.u8 (intV (bys b)[0 + (IntKind.i64.wrap (2 * (p % IntKind.i64.wrap (((b.length : Int)).tdiv 2)))).toNat * 1]?)]).length ∧ [AV.int IntKind.u8 (intV (bys b)[0 + (IntKind.i64.wrap (IntKind.i64.wrap (2 * (p % IntKind.i64.wrap (((b.length : Int)).tdiv 2))) + 1)).toNat * 1]?)].all AV.isCell = true then
                                                                      (if (bOk (hSumZero5 b p q) (AV.sl (some (6, 0)) (0 + b.length) 0 false) && decide (nOf (AV.sl (some (6, 0)) (0 + b.length) 0 false) ≤ 70368744177664 ∧ Int.ofNat 0 ≤ Int.ofNat 0 ∧ Int.ofNat 0 < Int.ofNat 4294967296)) = true then
                                                                        (if (abits IntKind.u16 (· ^^^ ·) 65535 (sumI (bOf (hSumZero5 b p q) (AV.sl (some (6, 0)) (0 + b.length) 0 false)) 0) == abits IntKind.u16 (· ^^^ ·) 65535 (sumI (bOf (hSumZero3 b p q) (AV.sl (some (0, 0)) b.length 0 false)) 0)) = true then
                                                                          K (AV.bool true)
                                                                        else K (AV.bool false))
                                                                      else none)
                                                                    else none)
                                                                  else none)
                                                                else none)
                                                              else none)
                                                            else none)
                                                          else none)
                                                        else none)
                                                      else none)
                                                    else none)
                                                  else none)
                                                else none)
                                              else none)
                                            else none)
                                          else none)
                                        else none)
                                      else none)
                                    else none)
                                  else none)
                                else none)
                              else none)
                            else none))
                        else (if (!(abits IntKind.u16 (· ^^^ ·) 65535 (sumI (bOf (hSumZero4 b p q) (AV.sl (some (4, 0)) (0 + b.length + 2) 0 false)) 0)).tmod 65535 == 0) = true then
                            K (AV.bool false)
                          else (if ((b.length : Int) == 0) = true then
                              (if (abits IntKind.u16 (· ^^^ ·) 65535 (sumI (bOf (hSumZero3 b p q) (AV.sl (some (0, 0)) b.length 0 false)) 0) == 65535) = true then
                                K (AV.bool true)
                              else K (AV.bool false))
                            else (if decide (0 < IntKind.i64.wrap (((b.length : Int)).tdiv 2) ∧ IntKind.i64.wrap (((b.length : Int)).tdiv 2) < 4611686018427387904) = true then
                                (if decide (0 < IntKind.i64.wrap (((b.length : Int)).tdiv 2) ∧ IntKind.i64.wrap (((b.length : Int)).tdiv 2) < 4611686018427387904) = true then
                                  (if 0 + b.length * 1 ≤ (bys b).length then
                                    (if (2 * (0 + b.length) + 200) * 1 ≤ 281474976710656 ∧ some 1 = some 1 ∧ 0 + b.length ≤ 70368744177664 then
                                      (if 0 = 0 ∧ 0 = 0 ∧ (0 < b.length ∨ 0 = 0) ∧ 1 = 1 ∧ (List.take (b.length * 1) (bys b)).all AV.isCell = true then
                                        (if 0 ≤ IntKind.i64.wrap (2 * (q % IntKind.i64.wrap (((b.length : Int)).tdiv 2))) ∧ IntKind.i64.wrap (2 * (q % IntKind.i64.wrap (((b.length : Int)).tdiv 2))) < (b.length : Int) then
                                          (if isIntV IntKind.u8 (bys b)[0 + (IntKind.i64.wrap (2 * (q % IntKind.i64.wrap (((b.length : Int)).tdiv 2)))).toNat * 1]? = true then
                                            (if 0 ≤ IntKind.i64.wrap (IntKind.i64.wrap (2 * (q % IntKind.i64.wrap (((b.length : Int)).tdiv 2))) + 1) ∧ IntKind.i64.wrap (IntKind.i64.wrap (2 * (q % IntKind.i64.wrap (((b.length : Int)).tdiv 2))) + 1) < (b.length : Int) then
                                              (if isIntV IntKind.u8 (bys b)[0 + (IntKind.i64.wrap (IntKind.i64.wrap (2 * (q % IntKind.i64.wrap (((b.length : Int)).tdiv 2))) + 1)).toNat * 1]? = true then
                                                (if 0 ≤ IntKind.i64.wrap (2 * (p % IntKind.i64.wrap (((b.length : Int)).tdiv 2))) ∧ IntKind.i64.wrap (2 * (p % IntKind.i64.wrap (((b.length : Int)).tdiv 2))) < (b.length : Int) then
                                                  (if isIntV IntKind.u8 (bys b)[0 + (IntKind.i64.wrap (2 * (p % IntKind.i64.wrap (((b.length : Int)).tdiv 2)))).toNat * 1]? = true then
                                                    (if 0 ≤ IntKind.i64.wrap (IntKind.i64.wrap (2 * (p % IntKind.i64.wrap (((b.length : Int)).tdiv 2))) + 1) ∧ IntKind.i64.wrap (IntKind.i64.wrap (2 * (p % IntKind.i64.wrap (((b.length : Int)).tdiv 2))) + 1) < (b.length : Int) then
                                                      (if isIntV IntKind.u8 (bys b)[0 + (IntKind.i64.wrap (IntKind.i64.wrap (2 * (p % IntKind.i64.wrap (((b.length : Int)).tdiv 2))) + 1)).toNat * 1]? = true then
                                                        (if 0 ≤ IntKind.i64.wrap (2 * (p % IntKind.i64.wrap (((b.length : Int)).tdiv 2))) ∧ IntKind.i64.wrap (2 * (p % IntKind.i64.wrap (((b.length : Int)).tdiv 2))) < ((0 + b.length : Nat) : Int) then
                                                          (if 0 + (IntKind.i64.wrap (2 * (p % IntKind.i64.wrap (((b.length : Int)).tdiv 2)))).toNat * 1 + [AV.int IntKind.u8 (intV (bys b)[0 + (IntKind.i64.wrap (2 * (q % IntKind.i64.wrap (((b.length : Int)).tdiv 2)))).toNat * 1]?)].length ≤ (List.take (b.length * 1) (bys b)).length ∧ [AV.int IntKind.u8 (intV (bys b)[0 + (IntKind.i64.wrap (2 * (q % IntKind.i64.wrap (((b.length : Int)).tdiv 2)))).toNat * 1]?)].all AV.isCell = true then
                                                            (if 0 ≤ IntKind.i64.wrap (IntKind.i64.wrap (2 * (p % IntKind.i64.wrap (((b.length : Int)).tdiv 2))) + 1) ∧ IntKind.i64.wrap (IntKind.i64.wrap (2 * (p % IntKind.i64.wrap (((b.length : Int)).tdiv 2))) + 1) < ((0 + b.length : Nat) : Int) then
                                                              (if 0 + (IntKind.i64.wrap (IntKind.i64.wrap (2 * (p % IntKind.i64.wrap (((b.length : Int)).tdiv 2))) + 1)).toNat * 1 + [AV.int IntKind.u8 (intV (bys b)[0 + (IntKind.i64.wrap (IntKind.i64.wrap (2 * (q % IntKind.i64.wrap (((b.length : Int)).tdiv 2))) + 1)).toNat * 1]?)].length ≤ (putCells (List.take (b.length * 1) (bys b)) (0 + (IntKind.i64.wrap (2 * (p % IntKind.i64.wrap (((b.length : Int)).tdiv 2)))).toNat * 1) [AV.int IntKind.u8 (intV (bys b)[0 + (IntKind.i64.wrap (2 * (q % IntKind.i64.wrap (((b.length : Int)).tdiv 2)))).toNat * 1]?)]).length ∧ [AV.int IntKind.u8 (intV (bys b)[0 + (IntKind.i64.wrap (IntKind.i64.wrap (2 * (q % IntKind.i64.wrap (((b.length : Int)).tdiv 2))) + 1)).toNat * 1]?)].all AV.isCell = true then
                                                                (if 0 ≤ IntKind.i64.wrap (2 * (q % IntKind.i64.wrap (((b.length : Int)).tdiv 2))) ∧ IntKind.i64.wrap (2 * (q % IntKind.i64.wrap (((b.length : Int)).tdiv 2))) < ((0 + b.length : Nat) : Int) then
                                                                  (if 0 + (IntKind.i64.wrap (2 * (q % IntKind.i64.wrap (((b.length : Int)).tdiv 2)))).toNat * 1 + [AV.int IntKind.u8 (intV (bys b)[0 + (IntKind.i64.wrap (2 * (p % IntKind.i64.wrap (((b.length : Int)).tdiv 2)))).toNat * 1]?)].length ≤ (putCells (putCells (List.take (b.length * 1) (bys b)) (0 + (IntKind.i64.wrap (2 * (p % IntKind.i64.wrap (((b.length : Int)).tdiv 2)))).toNat * 1) [AV.int IntKind.u8 (intV (bys b)[0 + (IntKind.i64.wrap (2 * (q % IntKind.i64.wrap (((b.length : Int)).tdiv 2)))).toNat * 1]?)]) (0 + (IntKind.i64.wrap (IntKind.i64.wrap (2 * (p % IntKind.i64.wrap (((b.length : Int)).tdiv 2))) + 1)).toNat * 1) [AV.int IntKind.u8 (intV (bys b)[0 + (IntKind.i64.wrap (IntKind.i64.wrap (2 * (q % IntKind.i64.wrap (((b.length : Int)).tdiv 2))) + 1)).toNat * 1]?)]).length ∧ [AV.int IntKind.u8 (intV (bys b)[0 + (IntKind.i64.wrap (2 * (p % IntKind.i64.wrap (((b.length : Int)).tdiv 2)))).toNat * 1]?)].all AV.isCell = true then
                                                                    (if 0 ≤ IntKind.i64.wrap (IntKind.i64.wrap (2 * (q % IntKind.i64.wrap (((b.length : Int)).tdiv 2))) + 1) ∧ IntKind.i64.wrap (IntKind.i64.wrap (2 * (q % IntKind.i64.wrap (((b.length : Int)).tdiv 2))) + 1) < ((0 + b.length : Nat) : Int) then
                                                                      (if 0 + (IntKind.i64.wrap (IntKind.i64.wrap (2 * (q % IntKind.i64.wrap (((b.length : Int)).tdiv 2))) + 1)).toNat * 1 + [AV.int IntKind.u8 (intV (bys b)[0 + (IntKind.i64.wrap (IntKind.i64.wrap (2 * (p % IntKind.i64.wrap (((b.length : Int)).tdiv 2))) + 1)).toNat * 1]?)].length ≤ (putCells (putCells (putCells (List.take (b.length * 1) (bys b)) (0 + (IntKind.i64.wrap (2 * (p % IntKind.i64.wrap (((b.length : Int)).tdiv 2)))).toNat * 1) [AV.int IntKind.u8 (intV (bys b)[0 + (IntKind.i64.wrap (2 * (q % IntKind.i64.wrap (((b.length : Int)).tdiv 2)))).toNat * 1]?)]) (0 + (IntKind.i64.wrap (IntKind.i64.wrap (2 * (p % IntKind.i64.wrap (((b.length : Int)).tdiv 2))) + 1)).toNat * 1) [AV.int IntKind.u8 (intV (bys b)[0 + (IntKind.i64.wrap (IntKind.i64.wrap (2 * (q % IntKind.i64.wrap (((b.length : Int)).tdiv 2))) + 1)).toNat * 1]?)]) (0 + (IntKind.i64.wrap (2 * (q % IntKind.i64.wrap (((b.length : Int)).tdiv 2)))).toNat * 1) [AV.int IntKind.u8 (intV (bys b)[0 + (IntKind.i64.wrap (2 * (p % IntKind.i64.wrap (((b.length : Int)).tdiv 2)))).toNat * 1]?)]).length ∧ [AV.int IntKind.u8 (intV (bys b)[0 + (IntKind.i64.wrap (IntKind.i64.wrap (2 * (p % IntKind.i64.wrap (((b.length : Int)).tdiv 2))) + 1)).toNat * 1]?)].all AV.isCell = true then
                                                                        (if (bOk (hSumZero5 b p q) (AV.sl (some (6, 0)) (0 + b.length) 0 false) && decide (nOf (AV.sl (some (6, 0)) (0 + b.length) 0 false) ≤ 70368744177664 ∧ Int.ofNat 0 ≤ Int.ofNat 0 ∧ Int.ofNat 0 < Int.ofNat 4294967296)) = true then
                                                                          (if (abits IntKind.u16 (· ^^^ ·) 65535 (sumI (bOf (hSumZero5 b p q) (AV.sl (some (6, 0)) (0 + b.length) 0 false)) 0) == abits IntKind.u16 (· ^^^ ·) 65535 (sumI (bOf (hSumZero3 b p q) (AV.sl (some (0, 0)) b.length 0 false)) 0)) = true then
                                                                            K (AV.bool true)
                                                                          else K (AV.bool false))
                                                                        else none)
                                                                      else none)
                                                                    else none)
                                                                  else none)
                                                                else none)
                                                              else none)
                                                            else none)
                                                          else none)
                                                        else none)
                                                      else none)
                                                    else none)
                                                  else none)
                                                else none)
                                              else none)
                                            else none)
                                          else none)
                                        else none)
                                      else none)
                                    else none)
                                  else none)
                                else none)
                              else none))))
                      else none)
                    else none)
                  else none)
                else none)
              else none)
            else none)
          else none)
        else none))) := by
  kernel_rfl


theorem runSumZero (b : List UInt8) (p q : Int) (_ : b.length ≤ maxLen) (_ : -9223372036854775808 ≤ p ∧ p < 9223372036854775808) (_ : -9223372036854775808 ≤ q ∧ q < 9223372036854775808) :
    ∃ h', Runs Try.prog 5 [slB 0 b, .int .i64 p, .int .i64 q] [farB b] (.bool true) h' := by
  refine Runs.val0 t3rOk (F := 100) (n := 4) ?_
  rw [nfSumZero]
  by_cases h1 : b.length ≤ 1000
  case neg => exact if_pos (by simp; omega)
  refine (if_neg (by simp; omega)).trans ?_
  have hz0 : wsum [] = 0 := rfl
  by_cases h2 : b.length % 2 = 1
  · refine (if_pos (by rw [tmod2]; simp; omega)).trans ?_
    have er : List.take (b.length * 1) (bys b) ++ [AV.int IntKind.u8 0] = bys (b ++ [0]) := by simp [bys, List.take_of_length_le]
    have er2 : List.take ((0 + b.length) * 1) (List.take (b.length * 1) (bys b)) ++ [AV.int IntKind.u8 0] = bys (b ++ [0]) := by simp [bys, List.take_of_length_le]
    have er3 : List.take ((0 + b.length + 1) * 1) (bys (b ++ [0])) = bys (b ++ [0]) := by simp [List.take_of_length_le]
    have hlen : (b ++ [0]).length = b.length + 1 := by simp
    have he : (b ++ [0]).length % 2 = 0 := by rw [hlen]; omega
    have hs := sumI_range (b ++ [0]) 0
    have x0 := xor16 hs
    have hcs := chk_own he
    have xc : abits .u16 (· ^^^ ·) 65535 65535 = 0 := rfl
    have gs := bOk_row (h := hSumZero0 b p q) (k := 4) (n := b.length + 1) (r := 0) (e := false) (l := b ++ [0]) rfl (by simp [bys, List.take_of_length_le]) (by simp)
    have gc := bOk_row (h := hSumZero1 b p q) (k := 8) (n := b.length + 3) (r := 0) (e := false) (l := (b ++ [0]) ++ [u8i ((65535 - sumI (b ++ [0]) 0).fdiv 256), u8i (65535 - sumI (b ++ [0]) 0)]) rfl (by simp [gs.2, x0, bys, wrapU8_byte, List.take_of_length_le]) (by simp)
    generalize (b ++ [0]) ++ [u8i ((65535 - sumI (b ++ [0]) 0).fdiv 256), u8i (65535 - sumI (b ++ [0]) 0)] = C at gc hcs
    have pq : ∀ z : Int, 0 ≤ z % ((((b.length + 1) / 2) : Nat) : Int) ∧ z % ((((b.length + 1) / 2) : Nat) : Int) < ((((b.length + 1) / 2) : Nat) : Int) := fun z => ⟨Int.emod_nonneg z (by omega), Int.emod_lt_of_pos z (by omega)⟩
    have hm : IntKind.i64.wrap ((((0 + b.length + 1) : Nat) : Int).tdiv 2) = ((((b.length + 1) / 2) : Nat) : Int) := by
      rw [Int.tdiv_eq_ediv_of_nonneg (by omega), wrapI64 (by omega)]; omega
    obtain ⟨i, hi⟩ := Int.eq_ofNat_of_zero_le (pq p).1
    obtain ⟨j, hj⟩ := Int.eq_ofNat_of_zero_le (pq q).1
    have hi2 := (pq p).2
    have hj2 := (pq q).2
    rw [hi] at hi2
    rw [hj] at hj2
    have ex : IntKind.i64.wrap (2 * (i : Int)) = ((2 * i : Nat) : Int) := by rw [wrapI64 (by omega)]; omega
    have ey : IntKind.i64.wrap (2 * (j : Int)) = ((2 * j : Nat) : Int) := by rw [wrapI64 (by omega)]; omega
    have ex1 : IntKind.i64.wrap (((2 * i : Nat) : Int) + 1) = ((2 * i + 1 : Nat) : Int) := by rw [wrapI64 (by omega)]; omega
    have ey1 : IntKind.i64.wrap (((2 * j : Nat) : Int) + 1) = ((2 * j + 1 : Nat) : Int) := by rw [wrapI64 (by omega)]; omega
    have tx : 0 + ((2 * i : Nat) : Int).toNat * 1 = 2 * i := by omega
    have ty : 0 + ((2 * j : Nat) : Int).toNat * 1 = 2 * j := by omega
    have tx1 : 0 + ((2 * i + 1 : Nat) : Int).toNat * 1 = 2 * i + 1 := by omega
    have ty1 : 0 + ((2 * j + 1 : Nat) : Int).toNat * 1 = 2 * j + 1 := by omega
    have vi : ∀ k : Nat, intV ((bys (b ++ [0]))[k]?) = byt (b ++ [0]) k := fun k => by rw [bys_get, intV_byte]
    have hsw := wsum_swap (l := b ++ [0]) (x := 2 * i) (y := 2 * j) (by omega) (by omega) (by rw [hlen]; omega) (by rw [hlen]; omega)
    have gd := bOk_row (h := hSumZero2 b p q) (k := 10) (n := b.length + 1) (r := 0) (e := false) (l := ((((b ++ [0]).set (2 * i) (u8i (byt (b ++ [0]) (2 * j)))).set (2 * i + 1) (u8i (byt (b ++ [0]) (2 * j + 1)))).set (2 * j) (u8i (byt (b ++ [0]) (2 * i)))).set (2 * j + 1) (u8i (byt (b ++ [0]) (2 * i + 1)))) rfl
      (by rw [hm, hi, hj, ex, ey, ex1, ey1, tx, ty, tx1, ty1, er2, er3, vi, vi, vi, vi, putCells_byte' _ _ _ (byt_range _ _), putCells_byte' _ _ _ (byt_range _ _), putCells_byte' _ _ _ (byt_range _ _), putCells_byte' _ _ _ (byt_range _ _)]) (by simp)
    have hd : sumI (((((b ++ [0]).set (2 * i) (u8i (byt (b ++ [0]) (2 * j)))).set (2 * i + 1) (u8i (byt (b ++ [0]) (2 * j + 1)))).set (2 * j) (u8i (byt (b ++ [0]) (2 * i)))).set (2 * j + 1) (u8i (byt (b ++ [0]) (2 * i + 1)))) 0 = sumI (b ++ [0]) 0 := by unfold sumI; rw [hsw]
    generalize ((((b ++ [0]).set (2 * i) (u8i (byt (b ++ [0]) (2 * j)))).set (2 * i + 1) (u8i (byt (b ++ [0]) (2 * j + 1)))).set (2 * j) (u8i (byt (b ++ [0]) (2 * i)))).set (2 * j + 1) (u8i (byt (b ++ [0]) (2 * i + 1))) = D at gd hd
    rw [hm, hi, hj, ex, ey, ex1, ey1, tx, ty, tx1, ty1, er2, er3]
    repeat (first | (refine (if_pos ?_).trans ?_; · first | omega | (simp <;> omega) | (simp [*] <;> omega)))
    rfl
  · refine (if_neg (by rw [tmod2]; simp; omega)).trans ?_
    have er : List.take (b.length * 1) (bys b) = bys b := by simp
    have hlen : (b).length = b.length := by simp
    have he : (b).length % 2 = 0 := by rw [hlen]; omega
    have hs := sumI_range (b) 0
    have x0 := xor16 hs
    have hcs := chk_own he
    have xc : abits .u16 (· ^^^ ·) 65535 65535 = 0 := rfl
    have gs := bOk_row (h := hSumZero3 b p q) (k := 0) (n := b.length) (r := 0) (e := false) (l := b) rfl (by simp [bys, List.take_of_length_le]) (by simp)
    have gc := bOk_row (h := hSumZero4 b p q) (k := 4) (n := b.length + 2) (r := 0) (e := false) (l := (b) ++ [u8i ((65535 - sumI (b) 0).fdiv 256), u8i (65535 - sumI (b) 0)]) rfl (by simp [gs.2, x0, bys, wrapU8_byte, List.take_of_length_le]) (by simp)
    generalize (b) ++ [u8i ((65535 - sumI (b) 0).fdiv 256), u8i (65535 - sumI (b) 0)] = C at gc hcs
    repeat (first | (refine (if_pos ?_).trans ?_; · first | omega | (simp <;> omega) | (simp [*] <;> omega)))
    by_cases h3 : b.length = 0
    · refine (if_pos (by simp [h3])).trans ?_
      have hs0 : sumI b 0 = 0 := by rw [List.eq_nil_of_length_eq_zero h3]; rfl
      exact if_pos (by rw [gs.2, hs0]; rfl)
    refine (if_neg (by simp only [beq_iff_eq]; omega)).trans ?_
    have pq : ∀ z : Int, 0 ≤ z % (((b.length / 2) : Nat) : Int) ∧ z % (((b.length / 2) : Nat) : Int) < (((b.length / 2) : Nat) : Int) := fun z => ⟨Int.emod_nonneg z (by omega), Int.emod_lt_of_pos z (by omega)⟩
    have hm : IntKind.i64.wrap ((((b.length) : Nat) : Int).tdiv 2) = (((b.length / 2) : Nat) : Int) := by
      rw [Int.tdiv_eq_ediv_of_nonneg (by omega), wrapI64 (by omega)]; omega
    obtain ⟨i, hi⟩ := Int.eq_ofNat_of_zero_le (pq p).1
    obtain ⟨j, hj⟩ := Int.eq_ofNat_of_zero_le (pq q).1
    have hi2 := (pq p).2
    have hj2 := (pq q).2
    rw [hi] at hi2
    rw [hj] at hj2
    have ex : IntKind.i64.wrap (2 * (i : Int)) = ((2 * i : Nat) : Int) := by rw [wrapI64 (by omega)]; omega
    have ey : IntKind.i64.wrap (2 * (j : Int)) = ((2 * j : Nat) : Int) := by rw [wrapI64 (by omega)]; omega
    have ex1 : IntKind.i64.wrap (((2 * i : Nat) : Int) + 1) = ((2 * i + 1 : Nat) : Int) := by rw [wrapI64 (by omega)]; omega
    have ey1 : IntKind.i64.wrap (((2 * j : Nat) : Int) + 1) = ((2 * j + 1 : Nat) : Int) := by rw [wrapI64 (by omega)]; omega
    have tx : 0 + ((2 * i : Nat) : Int).toNat * 1 = 2 * i := by omega
    have ty : 0 + ((2 * j : Nat) : Int).toNat * 1 = 2 * j := by omega
    have tx1 : 0 + ((2 * i + 1 : Nat) : Int).toNat * 1 = 2 * i + 1 := by omega
    have ty1 : 0 + ((2 * j + 1 : Nat) : Int).toNat * 1 = 2 * j + 1 := by omega
    have vi : ∀ k : Nat, intV ((bys (b))[k]?) = byt (b) k := fun k => by rw [bys_get, intV_byte]
    have hsw := wsum_swap (l := b) (x := 2 * i) (y := 2 * j) (by omega) (by omega) (by rw [hlen]; omega) (by rw [hlen]; omega)
    have gd := bOk_row (h := hSumZero5 b p q) (k := 6) (n := b.length) (r := 0) (e := false) (l := ((((b).set (2 * i) (u8i (byt (b) (2 * j)))).set (2 * i + 1) (u8i (byt (b) (2 * j + 1)))).set (2 * j) (u8i (byt (b) (2 * i)))).set (2 * j + 1) (u8i (byt (b) (2 * i + 1)))) rfl
      (by rw [hm, hi, hj, ex, ey, ex1, ey1, tx, ty, tx1, ty1, er, vi, vi, vi, vi, putCells_byte' _ _ _ (byt_range _ _), putCells_byte' _ _ _ (byt_range _ _), putCells_byte' _ _ _ (byt_range _ _), putCells_byte' _ _ _ (byt_range _ _)]) (by simp)
    have hd : sumI (((((b).set (2 * i) (u8i (byt (b) (2 * j)))).set (2 * i + 1) (u8i (byt (b) (2 * j + 1)))).set (2 * j) (u8i (byt (b) (2 * i)))).set (2 * j + 1) (u8i (byt (b) (2 * i + 1)))) 0 = sumI (b) 0 := by unfold sumI; rw [hsw]
    generalize ((((b).set (2 * i) (u8i (byt (b) (2 * j)))).set (2 * i + 1) (u8i (byt (b) (2 * j + 1)))).set (2 * j) (u8i (byt (b) (2 * i)))).set (2 * j + 1) (u8i (byt (b) (2 * i + 1))) = D at gd hd
    rw [hm, hi, hj, ex, ey, ex1, ey1, tx, ty, tx1, ty1, er]
    repeat (first | (refine (if_pos ?_).trans ?_; · first | omega | (simp <;> omega) | (simp [*] <;> omega)))
    rfl

end Go.Proofs.Ythkicndbaaconaa.L
