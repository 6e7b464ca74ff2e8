/- OctetPuts' run. -/
import Derived.Test.YtejbipoibpefnaaApp
import Derived.Test.YtejbipoibpefnaaBig
import Derived.Test.YtejbipoibpefnaaAwake1
set_option autoImplicit false
set_option maxRecDepth 100000
set_option linter.unusedVariables false
set_option linter.unusedSimpArgs false
namespace Go.Proofs.Ytejbipoibpefnaa.L
open Go Go.Abs

noncomputable def t1p : Tbl := [(14, entF ePut8), (15, entF eApp8), (16, entF ePut16), (17, entF eApp16), (18, entF ePut32), (19, entF eApp32), (20, entF ePut64), (21, entF eApp64), (13, entF eBig), (8, entF eAwake)]
theorem t1pOk : ∀ f E, t1p.find f = some E → SoundE Try.prog f E := find_cons sPut8 (find_cons sApp8 (find_cons sPut16 (find_cons sApp16 (find_cons sPut32 (find_cons sApp32 (find_cons sPut64 (find_cons sApp64 (find_cons sBig (find_cons sAwake (find_nil _))))))))))

def mPuts : List Bool := List.replicate 3 true ++ List.replicate 4 false ++ List.replicate 1 true ++ List.replicate 124 false
def vPuts (b : List UInt8) (p v n : Int) : List AV := [slB 0 b, .int .i64 p, .int .u64 v, .int .i64 n]

noncomputable def hPuts0 (b : List UInt8) (p v : Int) (q : Prop) (vs0 : List AV) (h0 h1 : AHeap) : AHeap := [ABlk.cells (bys b) 1 Md.far none]
theorem nfPuts {R : Type} (b : List UInt8) (p v : Int) (q : Prop) (vs0 : List AV) (h0 h1 : AHeap) (K : AV → Option R) :
    qrun Try.prog t1p 100 4 [] [(4, fixC q mPuts vs0 h0 (.exit 0) (vPuts b p v 4) h1)] 4 [slB 0 b, .int .i64 p, .int .u64 v] [farB b] (fun v _ => K v) =
    (if decide ((b.length : Int) > 200) = true then
      K (AV.bool true)
    else (if cdec (q ∧ [AV.sl (some (0, 0)) b.length 0 false, AV.int IntKind.i64 p, AV.int IntKind.u64 v, AV.int IntKind.i64 0] = vs0 ∧ (hPuts0 b p v q vs0 h0 h1) = h0) = true then
        K (AV.bool true)
      else none)) := by
  kernel_rfl

noncomputable def hPutsS0 (b : List UInt8) (p v : Int) : AHeap := [ABlk.cells (bys b) 1 Md.far none]
theorem nfPutsS (b : List UInt8) (p v : Int) :
    qround Try.prog t1p 100 4 [] (autoT Try.prog (deepT Try.prog t1p 100 4) 100 4 (loopIn (bodyOf Try.prog 4) 0)) (loopIn (bodyOf Try.prog 4) 0) mPuts (vPuts b p v 4) [farB b] =
    some ((AEx.exit 0, [AV.sl (some (0, 0)) b.length 0 false, AV.int IntKind.i64 p, AV.int IntKind.u64 v, AV.int IntKind.i64 4], (hPutsS0 b p v))) := by
  kernel_rfl

noncomputable def hPutsR000 (b : List UInt8) (p v : Int) : AHeap := [ABlk.cells (bys b) 1 Md.far none, ABlk.dead, ABlk.cells (bys (putR (List.map byteD (List.take (b.length * 1) (bys b))) p 1 (IntKind.u8.wrap v))) 1 Md.own none]
noncomputable def hPutsR001 (b : List UInt8) (p v : Int) : AHeap := [ABlk.cells (bys b) 1 Md.far none, ABlk.dead, ABlk.cells (bys (putR (List.map byteD (List.take (b.length * 1) (bys b))) p 1 (IntKind.u8.wrap v))) 1 Md.own none, ABlk.cells (bys (bOf (hPutsR000 b p v) (AV.sl (some (0, 0)) b.length 0 false) ++ bigR (IntKind.u8.wrap v) 1)) 1 Md.own none, ABlk.dead, ABlk.cells (putCells (List.take (b.length * 1) (bys b)) (0 + (IntKind.i64.wrap (p + 0)).toNat * 1) [AV.int IntKind.u8 (intV (some (AV.int IntKind.u8 (((u8i (v.fdiv 1)).toNat : Nat) : Int))))]) 1 Md.own none, ABlk.cells [AV.int IntKind.u8 (((u8i (v.fdiv 1)).toNat : Nat) : Int)] 1 Md.own none]
theorem nfPutsR00 (b : List UInt8) (p v : Int) :
    qround Try.prog t1p 100 4 [(119, .bool false), (129, .bool false), (76, .bool true), (81, .bool true), (89, .bool true), (36, .bool true)] (autoT Try.prog (deepT Try.prog t1p 100 4) 100 4 (loopIn (bodyOf Try.prog 4) 0)) (loopIn (bodyOf Try.prog 4) 0) mPuts (vPuts b p v 0) [farB b] =
    (if 0 + b.length * 1 ≤ (bys b).length then
      (if (2 * (0 + b.length) + 200) * 1 ≤ 281474976710656 ∧ some 1 = some 1 ∧ 0 + b.length ≤ 70368744177664 then
        (if 0 = 0 ∧ 0 = 0 ∧ (0 < b.length ∨ 0 = 0) ∧ 1 = 1 ∧ (List.take (b.length * 1) (bys b)).all AV.isCell = true then
          (if cdec (0 = 0 ∧ 0 = 0 ∧ false = false ∧ 1 = 1 ∧ 0 + b.length = (List.take (b.length * 1) (bys b)).length ∧ 0 + b.length ≤ 1000000000000 ∧ (List.take (b.length * 1) (bys b)).all isByteR = true ∧ 0 ≤ IntKind.u8.wrap v ∧ IntKind.u8.wrap v < 256 ∧ some 1 ≠ some 2) = true then
            (if decide (0 ≤ p ∧ p + 1 ≤ (((0 + b.length) : Nat) : Int)) = true then
              (if (bOk (hPutsR000 b p v) (AV.sl (some (0, 0)) b.length 0 false) && decide (nOf (AV.sl (some (0, 0)) b.length 0 false) ≤ 100000000000 ∧ 0 ≤ IntKind.u8.wrap v ∧ IntKind.u8.wrap v < 256)) = true then
                (if 0 + b.length * 1 ≤ (bys b).length then
                  (if (2 * (0 + b.length) + 200) * 1 ≤ 281474976710656 ∧ some 1 = some 1 ∧ 0 + b.length ≤ 70368744177664 then
                    (if 0 = 0 ∧ 0 = 0 ∧ (0 < b.length ∨ 0 = 0) ∧ 1 = 1 ∧ (List.take (b.length * 1) (bys b)).all AV.isCell = true then
                      (if decide (p ≥ 0) = true then
                        (if decide (p ≤ (b.length : Int)) = true then
                          (if decide (IntKind.i64.wrap ((b.length : Int) - p) ≥ 1) = true then
                            (if 0 ≤ IntKind.i64.wrap (p + 0) ∧ IntKind.i64.wrap (p + 0) < (((0 + b.length) : Nat) : Int) then
                              (if 0 + (IntKind.i64.wrap (p + 0)).toNat * 1 + [AV.int IntKind.u8 (intV (some (AV.int IntKind.u8 (((u8i (v.fdiv 1)).toNat : Nat) : Int))))].length ≤ (List.take (b.length * 1) (bys b)).length ∧ [AV.int IntKind.u8 (intV (some (AV.int IntKind.u8 (((u8i (v.fdiv 1)).toNat : Nat) : Int))))].all AV.isCell = true then
                                (if 0 + (0 + b.length) ≤ (bys (putR (List.map byteD (List.take (b.length * 1) (bys b))) p 1 (IntKind.u8.wrap v))).length then
                                  (if (List.take (0 + b.length) (bys (putR (List.map byteD (List.take (b.length * 1) (bys b))) p 1 (IntKind.u8.wrap v)))).all isByte = true then
                                    (if 0 + (0 + b.length) ≤ (putCells (List.take (b.length * 1) (bys b)) (0 + (IntKind.i64.wrap (p + 0)).toNat * 1) [AV.int IntKind.u8 (intV (some (AV.int IntKind.u8 (((u8i (v.fdiv 1)).toNat : Nat) : Int))))]).length then
                                      (if (List.take (0 + b.length) (putCells (List.take (b.length * 1) (bys b)) (0 + (IntKind.i64.wrap (p + 0)).toNat * 1) [AV.int IntKind.u8 (intV (some (AV.int IntKind.u8 (((u8i (v.fdiv 1)).toNat : Nat) : Int))))])).all isByte = true then
                                        (if (!decide (List.map byteD (List.take (0 + b.length) (bys (putR (List.map byteD (List.take (b.length * 1) (bys b))) p 1 (IntKind.u8.wrap v)))) = List.map byteD (List.take (0 + b.length) (putCells (List.take (b.length * 1) (bys b)) (0 + (IntKind.i64.wrap (p + 0)).toNat * 1) [AV.int IntKind.u8 (intV (some (AV.int IntKind.u8 (((u8i (v.fdiv 1)).toNat : Nat) : Int))))])))) = false then
                                          (if 0 + (bOf (hPutsR000 b p v) (AV.sl (some (0, 0)) b.length 0 false) ++ bigR (IntKind.u8.wrap v) 1).length ≤ (bys (bOf (hPutsR000 b p v) (AV.sl (some (0, 0)) b.length 0 false) ++ bigR (IntKind.u8.wrap v) 1)).length then
                                            (if (List.take (bOf (hPutsR000 b p v) (AV.sl (some (0, 0)) b.length 0 false) ++ bigR (IntKind.u8.wrap v) 1).length (bys (bOf (hPutsR000 b p v) (AV.sl (some (0, 0)) b.length 0 false) ++ bigR (IntKind.u8.wrap v) 1))).all isByte = true then
                                              (if 0 + b.length ≤ (bys b).length then
                                                (if (List.take b.length (bys b)).all isByte = true then
                                                  (if (List.map byteD (List.take b.length (bys b))).length + (List.map byteD [AV.int IntKind.u8 (((u8i (v.fdiv 1)).toNat : Nat) : Int)]).length ≤ 140737488355328 then
                                                    (if (!decide (List.map byteD (List.take (bOf (hPutsR000 b p v) (AV.sl (some (0, 0)) b.length 0 false) ++ bigR (IntKind.u8.wrap v) 1).length (bys (bOf (hPutsR000 b p v) (AV.sl (some (0, 0)) b.length 0 false) ++ bigR (IntKind.u8.wrap v) 1))) = List.map byteD (List.take b.length (bys b)) ++ List.map byteD [AV.int IntKind.u8 (((u8i (v.fdiv 1)).toNat : Nat) : Int)])) = false then
                                                      some ((AEx.norm, [AV.sl (some (0, 0)) b.length 0 false, AV.int IntKind.i64 p, AV.int IntKind.u64 v, AV.int IntKind.i64 1], (hPutsR001 b p v)))
                                                    else none)
                                                  else none)
                                                else none)
                                              else none)
                                            else none)
                                          else none)
                                        else none)
                                      else none)
                                    else none)
                                  else none)
                                else none)
                              else none)
                            else none)
                          else none)
                        else none)
                      else none)
                    else none)
                  else none)
                else none)
              else none)
            else none)
          else none)
        else none)
      else none)
    else none) := by
  kernel_rfl

noncomputable def hPutsR010 (b : List UInt8) (p v : Int) : AHeap := [ABlk.cells (bys b) 1 Md.far none, ABlk.dead, ABlk.cells (bys (putR (List.map byteD (List.take (b.length * 1) (bys b))) p 1 (IntKind.u8.wrap v))) 1 Md.own none]
noncomputable def hPutsR011 (b : List UInt8) (p v : Int) : AHeap := [ABlk.cells (bys b) 1 Md.far none, ABlk.dead, ABlk.cells (bys (putR (List.map byteD (List.take (b.length * 1) (bys b))) p 1 (IntKind.u8.wrap v))) 1 Md.own none, ABlk.cells (bys (bOf (hPutsR010 b p v) (AV.sl (some (0, 0)) b.length 0 false) ++ bigR (IntKind.u8.wrap v) 1)) 1 Md.own none, ABlk.cells [] 1 Md.ro none, ABlk.cells (List.take (b.length * 1) (bys b)) 1 Md.own (some 4), ABlk.cells [AV.int IntKind.u8 (((u8i (v.fdiv 1)).toNat : Nat) : Int)] 1 Md.own none]
theorem nfPutsR01 (b : List UInt8) (p v : Int) :
    qround Try.prog t1p 100 4 [(119, .bool false), (129, .bool false), (76, .bool false), (36, .bool false)] (autoT Try.prog (deepT Try.prog t1p 100 4) 100 4 (loopIn (bodyOf Try.prog 4) 0)) (loopIn (bodyOf Try.prog 4) 0) mPuts (vPuts b p v 0) [farB b] =
    (if 0 + b.length * 1 ≤ (bys b).length then
      (if (2 * (0 + b.length) + 200) * 1 ≤ 281474976710656 ∧ some 1 = some 1 ∧ 0 + b.length ≤ 70368744177664 then
        (if 0 = 0 ∧ 0 = 0 ∧ (0 < b.length ∨ 0 = 0) ∧ 1 = 1 ∧ (List.take (b.length * 1) (bys b)).all AV.isCell = true then
          (if cdec (0 = 0 ∧ 0 = 0 ∧ false = false ∧ 1 = 1 ∧ 0 + b.length = (List.take (b.length * 1) (bys b)).length ∧ 0 + b.length ≤ 1000000000000 ∧ (List.take (b.length * 1) (bys b)).all isByteR = true ∧ 0 ≤ IntKind.u8.wrap v ∧ IntKind.u8.wrap v < 256 ∧ some 1 ≠ some 2) = true then
            (if decide (0 ≤ p ∧ p + 1 ≤ (((0 + b.length) : Nat) : Int)) = false then
              (if (bOk (hPutsR010 b p v) (AV.sl (some (0, 0)) b.length 0 false) && decide (nOf (AV.sl (some (0, 0)) b.length 0 false) ≤ 100000000000 ∧ 0 ≤ IntKind.u8.wrap v ∧ IntKind.u8.wrap v < 256)) = true then
                (if 0 + b.length * 1 ≤ (bys b).length then
                  (if (2 * (0 + b.length) + 200) * 1 ≤ 281474976710656 ∧ some 1 = some 1 ∧ 0 + b.length ≤ 70368744177664 then
                    (if 0 = 0 ∧ 0 = 0 ∧ (0 < b.length ∨ 0 = 0) ∧ 1 = 1 ∧ (List.take (b.length * 1) (bys b)).all AV.isCell = true then
                      (if decide (p ≥ 0) = false then
                        (if 0 + (0 + b.length) ≤ (bys (putR (List.map byteD (List.take (b.length * 1) (bys b))) p 1 (IntKind.u8.wrap v))).length then
                          (if (List.take (0 + b.length) (bys (putR (List.map byteD (List.take (b.length * 1) (bys b))) p 1 (IntKind.u8.wrap v)))).all isByte = true then
                            (if 0 + (0 + b.length) ≤ (List.take (b.length * 1) (bys b)).length then
                              (if (List.take (0 + b.length) (List.take (b.length * 1) (bys b))).all isByte = true then
                                (if (!decide (List.map byteD (List.take (0 + b.length) (bys (putR (List.map byteD (List.take (b.length * 1) (bys b))) p 1 (IntKind.u8.wrap v)))) = List.map byteD (List.take (0 + b.length) (List.take (b.length * 1) (bys b))))) = false then
                                  (if 0 + (bOf (hPutsR010 b p v) (AV.sl (some (0, 0)) b.length 0 false) ++ bigR (IntKind.u8.wrap v) 1).length ≤ (bys (bOf (hPutsR010 b p v) (AV.sl (some (0, 0)) b.length 0 false) ++ bigR (IntKind.u8.wrap v) 1)).length then
                                    (if (List.take (bOf (hPutsR010 b p v) (AV.sl (some (0, 0)) b.length 0 false) ++ bigR (IntKind.u8.wrap v) 1).length (bys (bOf (hPutsR010 b p v) (AV.sl (some (0, 0)) b.length 0 false) ++ bigR (IntKind.u8.wrap v) 1))).all isByte = true then
                                      (if 0 + b.length ≤ (bys b).length then
                                        (if (List.take b.length (bys b)).all isByte = true then
                                          (if (List.map byteD (List.take b.length (bys b))).length + (List.map byteD [AV.int IntKind.u8 (((u8i (v.fdiv 1)).toNat : Nat) : Int)]).length ≤ 140737488355328 then
                                            (if (!decide (List.map byteD (List.take (bOf (hPutsR010 b p v) (AV.sl (some (0, 0)) b.length 0 false) ++ bigR (IntKind.u8.wrap v) 1).length (bys (bOf (hPutsR010 b p v) (AV.sl (some (0, 0)) b.length 0 false) ++ bigR (IntKind.u8.wrap v) 1))) = List.map byteD (List.take b.length (bys b)) ++ List.map byteD [AV.int IntKind.u8 (((u8i (v.fdiv 1)).toNat : Nat) : Int)])) = false then
                                              some ((AEx.norm, [AV.sl (some (0, 0)) b.length 0 false, AV.int IntKind.i64 p, AV.int IntKind.u64 v, AV.int IntKind.i64 1], (hPutsR011 b p v)))
                                            else none)
                                          else none)
                                        else none)
                                      else none)
                                    else none)
                                  else none)
                                else none)
                              else none)
                            else none)
                          else none)
                        else none)
                      else none)
                    else none)
                  else none)
                else none)
              else none)
            else none)
          else none)
        else none)
      else none)
    else none) := by
  kernel_rfl

noncomputable def hPutsR020 (b : List UInt8) (p v : Int) : AHeap := [ABlk.cells (bys b) 1 Md.far none, ABlk.dead, ABlk.cells (bys (putR (List.map byteD (List.take (b.length * 1) (bys b))) p 1 (IntKind.u8.wrap v))) 1 Md.own none]
noncomputable def hPutsR021 (b : List UInt8) (p v : Int) : AHeap := [ABlk.cells (bys b) 1 Md.far none, ABlk.dead, ABlk.cells (bys (putR (List.map byteD (List.take (b.length * 1) (bys b))) p 1 (IntKind.u8.wrap v))) 1 Md.own none, ABlk.cells (bys (bOf (hPutsR020 b p v) (AV.sl (some (0, 0)) b.length 0 false) ++ bigR (IntKind.u8.wrap v) 1)) 1 Md.own none, ABlk.cells [] 1 Md.ro none, ABlk.cells (List.take (b.length * 1) (bys b)) 1 Md.own (some 4), ABlk.cells [AV.int IntKind.u8 (((u8i (v.fdiv 1)).toNat : Nat) : Int)] 1 Md.own none]
theorem nfPutsR02 (b : List UInt8) (p v : Int) :
    qround Try.prog t1p 100 4 [(119, .bool false), (129, .bool false), (76, .bool true), (81, .bool false), (36, .bool false)] (autoT Try.prog (deepT Try.prog t1p 100 4) 100 4 (loopIn (bodyOf Try.prog 4) 0)) (loopIn (bodyOf Try.prog 4) 0) mPuts (vPuts b p v 0) [farB b] =
    (if 0 + b.length * 1 ≤ (bys b).length then
      (if (2 * (0 + b.length) + 200) * 1 ≤ 281474976710656 ∧ some 1 = some 1 ∧ 0 + b.length ≤ 70368744177664 then
        (if 0 = 0 ∧ 0 = 0 ∧ (0 < b.length ∨ 0 = 0) ∧ 1 = 1 ∧ (List.take (b.length * 1) (bys b)).all AV.isCell = true then
          (if cdec (0 = 0 ∧ 0 = 0 ∧ false = false ∧ 1 = 1 ∧ 0 + b.length = (List.take (b.length * 1) (bys b)).length ∧ 0 + b.length ≤ 1000000000000 ∧ (List.take (b.length * 1) (bys b)).all isByteR = true ∧ 0 ≤ IntKind.u8.wrap v ∧ IntKind.u8.wrap v < 256 ∧ some 1 ≠ some 2) = true then
            (if decide (0 ≤ p ∧ p + 1 ≤ (((0 + b.length) : Nat) : Int)) = false then
              (if (bOk (hPutsR020 b p v) (AV.sl (some (0, 0)) b.length 0 false) && decide (nOf (AV.sl (some (0, 0)) b.length 0 false) ≤ 100000000000 ∧ 0 ≤ IntKind.u8.wrap v ∧ IntKind.u8.wrap v < 256)) = true then
                (if 0 + b.length * 1 ≤ (bys b).length then
                  (if (2 * (0 + b.length) + 200) * 1 ≤ 281474976710656 ∧ some 1 = some 1 ∧ 0 + b.length ≤ 70368744177664 then
                    (if 0 = 0 ∧ 0 = 0 ∧ (0 < b.length ∨ 0 = 0) ∧ 1 = 1 ∧ (List.take (b.length * 1) (bys b)).all AV.isCell = true then
                      (if decide (p ≥ 0) = true then
                        (if decide (p ≤ (b.length : Int)) = false then
                          (if 0 + (0 + b.length) ≤ (bys (putR (List.map byteD (List.take (b.length * 1) (bys b))) p 1 (IntKind.u8.wrap v))).length then
                            (if (List.take (0 + b.length) (bys (putR (List.map byteD (List.take (b.length * 1) (bys b))) p 1 (IntKind.u8.wrap v)))).all isByte = true then
                              (if 0 + (0 + b.length) ≤ (List.take (b.length * 1) (bys b)).length then
                                (if (List.take (0 + b.length) (List.take (b.length * 1) (bys b))).all isByte = true then
                                  (if (!decide (List.map byteD (List.take (0 + b.length) (bys (putR (List.map byteD (List.take (b.length * 1) (bys b))) p 1 (IntKind.u8.wrap v)))) = List.map byteD (List.take (0 + b.length) (List.take (b.length * 1) (bys b))))) = false then
                                    (if 0 + (bOf (hPutsR020 b p v) (AV.sl (some (0, 0)) b.length 0 false) ++ bigR (IntKind.u8.wrap v) 1).length ≤ (bys (bOf (hPutsR020 b p v) (AV.sl (some (0, 0)) b.length 0 false) ++ bigR (IntKind.u8.wrap v) 1)).length then
                                      (if (List.take (bOf (hPutsR020 b p v) (AV.sl (some (0, 0)) b.length 0 false) ++ bigR (IntKind.u8.wrap v) 1).length (bys (bOf (hPutsR020 b p v) (AV.sl (some (0, 0)) b.length 0 false) ++ bigR (IntKind.u8.wrap v) 1))).all isByte = true then
                                        (if 0 + b.length ≤ (bys b).length then
                                          (if (List.take b.length (bys b)).all isByte = true then
                                            (if (List.map byteD (List.take b.length (bys b))).length + (List.map byteD [AV.int IntKind.u8 (((u8i (v.fdiv 1)).toNat : Nat) : Int)]).length ≤ 140737488355328 then
                                              (if (!decide (List.map byteD (List.take (bOf (hPutsR020 b p v) (AV.sl (some (0, 0)) b.length 0 false) ++ bigR (IntKind.u8.wrap v) 1).length (bys (bOf (hPutsR020 b p v) (AV.sl (some (0, 0)) b.length 0 false) ++ bigR (IntKind.u8.wrap v) 1))) = List.map byteD (List.take b.length (bys b)) ++ List.map byteD [AV.int IntKind.u8 (((u8i (v.fdiv 1)).toNat : Nat) : Int)])) = false then
                                                some ((AEx.norm, [AV.sl (some (0, 0)) b.length 0 false, AV.int IntKind.i64 p, AV.int IntKind.u64 v, AV.int IntKind.i64 1], (hPutsR021 b p v)))
                                              else none)
                                            else none)
                                          else none)
                                        else none)
                                      else none)
                                    else none)
                                  else none)
                                else none)
                              else none)
                            else none)
                          else none)
                        else none)
                      else none)
                    else none)
                  else none)
                else none)
              else none)
            else none)
          else none)
        else none)
      else none)
    else none) := by
  kernel_rfl

noncomputable def hPutsR030 (b : List UInt8) (p v : Int) : AHeap := [ABlk.cells (bys b) 1 Md.far none, ABlk.dead, ABlk.cells (bys (putR (List.map byteD (List.take (b.length * 1) (bys b))) p 1 (IntKind.u8.wrap v))) 1 Md.own none]
noncomputable def hPutsR031 (b : List UInt8) (p v : Int) : AHeap := [ABlk.cells (bys b) 1 Md.far none, ABlk.dead, ABlk.cells (bys (putR (List.map byteD (List.take (b.length * 1) (bys b))) p 1 (IntKind.u8.wrap v))) 1 Md.own none, ABlk.cells (bys (bOf (hPutsR030 b p v) (AV.sl (some (0, 0)) b.length 0 false) ++ bigR (IntKind.u8.wrap v) 1)) 1 Md.own none, ABlk.cells [] 1 Md.ro none, ABlk.cells (List.take (b.length * 1) (bys b)) 1 Md.own (some 4), ABlk.cells [AV.int IntKind.u8 (((u8i (v.fdiv 1)).toNat : Nat) : Int)] 1 Md.own none]
theorem nfPutsR03 (b : List UInt8) (p v : Int) :
    qround Try.prog t1p 100 4 [(119, .bool false), (129, .bool false), (76, .bool true), (81, .bool true), (89, .bool false), (36, .bool false)] (autoT Try.prog (deepT Try.prog t1p 100 4) 100 4 (loopIn (bodyOf Try.prog 4) 0)) (loopIn (bodyOf Try.prog 4) 0) mPuts (vPuts b p v 0) [farB b] =
    (if 0 + b.length * 1 ≤ (bys b).length then
      (if (2 * (0 + b.length) + 200) * 1 ≤ 281474976710656 ∧ some 1 = some 1 ∧ 0 + b.length ≤ 70368744177664 then
        (if 0 = 0 ∧ 0 = 0 ∧ (0 < b.length ∨ 0 = 0) ∧ 1 = 1 ∧ (List.take (b.length * 1) (bys b)).all AV.isCell = true then
          (if cdec (0 = 0 ∧ 0 = 0 ∧ false = false ∧ 1 = 1 ∧ 0 + b.length = (List.take (b.length * 1) (bys b)).length ∧ 0 + b.length ≤ 1000000000000 ∧ (List.take (b.length * 1) (bys b)).all isByteR = true ∧ 0 ≤ IntKind.u8.wrap v ∧ IntKind.u8.wrap v < 256 ∧ some 1 ≠ some 2) = true then
            (if decide (0 ≤ p ∧ p + 1 ≤ (((0 + b.length) : Nat) : Int)) = false then
              (if (bOk (hPutsR030 b p v) (AV.sl (some (0, 0)) b.length 0 false) && decide (nOf (AV.sl (some (0, 0)) b.length 0 false) ≤ 100000000000 ∧ 0 ≤ IntKind.u8.wrap v ∧ IntKind.u8.wrap v < 256)) = true then
                (if 0 + b.length * 1 ≤ (bys b).length then
                  (if (2 * (0 + b.length) + 200) * 1 ≤ 281474976710656 ∧ some 1 = some 1 ∧ 0 + b.length ≤ 70368744177664 then
                    (if 0 = 0 ∧ 0 = 0 ∧ (0 < b.length ∨ 0 = 0) ∧ 1 = 1 ∧ (List.take (b.length * 1) (bys b)).all AV.isCell = true then
                      (if decide (p ≥ 0) = true then
                        (if decide (p ≤ (b.length : Int)) = true then
                          (if decide (IntKind.i64.wrap ((b.length : Int) - p) ≥ 1) = false then
                            (if 0 + (0 + b.length) ≤ (bys (putR (List.map byteD (List.take (b.length * 1) (bys b))) p 1 (IntKind.u8.wrap v))).length then
                              (if (List.take (0 + b.length) (bys (putR (List.map byteD (List.take (b.length * 1) (bys b))) p 1 (IntKind.u8.wrap v)))).all isByte = true then
                                (if 0 + (0 + b.length) ≤ (List.take (b.length * 1) (bys b)).length then
                                  (if (List.take (0 + b.length) (List.take (b.length * 1) (bys b))).all isByte = true then
                                    (if (!decide (List.map byteD (List.take (0 + b.length) (bys (putR (List.map byteD (List.take (b.length * 1) (bys b))) p 1 (IntKind.u8.wrap v)))) = List.map byteD (List.take (0 + b.length) (List.take (b.length * 1) (bys b))))) = false then
                                      (if 0 + (bOf (hPutsR030 b p v) (AV.sl (some (0, 0)) b.length 0 false) ++ bigR (IntKind.u8.wrap v) 1).length ≤ (bys (bOf (hPutsR030 b p v) (AV.sl (some (0, 0)) b.length 0 false) ++ bigR (IntKind.u8.wrap v) 1)).length then
                                        (if (List.take (bOf (hPutsR030 b p v) (AV.sl (some (0, 0)) b.length 0 false) ++ bigR (IntKind.u8.wrap v) 1).length (bys (bOf (hPutsR030 b p v) (AV.sl (some (0, 0)) b.length 0 false) ++ bigR (IntKind.u8.wrap v) 1))).all isByte = true then
                                          (if 0 + b.length ≤ (bys b).length then
                                            (if (List.take b.length (bys b)).all isByte = true then
                                              (if (List.map byteD (List.take b.length (bys b))).length + (List.map byteD [AV.int IntKind.u8 (((u8i (v.fdiv 1)).toNat : Nat) : Int)]).length ≤ 140737488355328 then
                                                (if (!decide (List.map byteD (List.take (bOf (hPutsR030 b p v) (AV.sl (some (0, 0)) b.length 0 false) ++ bigR (IntKind.u8.wrap v) 1).length (bys (bOf (hPutsR030 b p v) (AV.sl (some (0, 0)) b.length 0 false) ++ bigR (IntKind.u8.wrap v) 1))) = List.map byteD (List.take b.length (bys b)) ++ List.map byteD [AV.int IntKind.u8 (((u8i (v.fdiv 1)).toNat : Nat) : Int)])) = false then
                                                  some ((AEx.norm, [AV.sl (some (0, 0)) b.length 0 false, AV.int IntKind.i64 p, AV.int IntKind.u64 v, AV.int IntKind.i64 1], (hPutsR031 b p v)))
                                                else none)
                                              else none)
                                            else none)
                                          else none)
                                        else none)
                                      else none)
                                    else none)
                                  else none)
                                else none)
                              else none)
                            else none)
                          else none)
                        else none)
                      else none)
                    else none)
                  else none)
                else none)
              else none)
            else none)
          else none)
        else none)
      else none)
    else none) := by
  kernel_rfl

noncomputable def hPutsR100 (b : List UInt8) (p v : Int) : AHeap := [ABlk.cells (bys b) 1 Md.far none, ABlk.dead, ABlk.cells (bys (putR (List.map byteD (List.take (b.length * 1) (bys b))) p 2 (IntKind.u16.wrap v))) 1 Md.own none]
noncomputable def hPutsR101 (b : List UInt8) (p v : Int) : AHeap := [ABlk.cells (bys b) 1 Md.far none, ABlk.dead, ABlk.cells (bys (putR (List.map byteD (List.take (b.length * 1) (bys b))) p 2 (IntKind.u16.wrap v))) 1 Md.own none, ABlk.cells (bys (bOf (hPutsR100 b p v) (AV.sl (some (0, 0)) b.length 0 false) ++ bigR (IntKind.u16.wrap v) 2)) 1 Md.own none, ABlk.dead, ABlk.cells (putCells (putCells (List.take (b.length * 1) (bys b)) (0 + (IntKind.i64.wrap (p + 0)).toNat * 1) [AV.int IntKind.u8 (intV (some (AV.int IntKind.u8 (((u8i (v.fdiv 256)).toNat : Nat) : Int))))]) (0 + (IntKind.i64.wrap (p + 1)).toNat * 1) [AV.int IntKind.u8 (intV (some (AV.int IntKind.u8 (((u8i (v.fdiv 1)).toNat : Nat) : Int))))]) 1 Md.own none, ABlk.cells [AV.int IntKind.u8 (((u8i (v.fdiv 256)).toNat : Nat) : Int), AV.int IntKind.u8 (((u8i (v.fdiv 1)).toNat : Nat) : Int)] 1 Md.own none]
theorem nfPutsR10 (b : List UInt8) (p v : Int) :
    qround Try.prog t1p 100 4 [(119, .bool false), (129, .bool false), (76, .bool true), (81, .bool true), (89, .bool true), (47, .bool true)] (autoT Try.prog (deepT Try.prog t1p 100 4) 100 4 (loopIn (bodyOf Try.prog 4) 0)) (loopIn (bodyOf Try.prog 4) 0) mPuts (vPuts b p v 1) [farB b] =
    (if 0 + b.length * 1 ≤ (bys b).length then
      (if (2 * (0 + b.length) + 200) * 1 ≤ 281474976710656 ∧ some 1 = some 1 ∧ 0 + b.length ≤ 70368744177664 then
        (if 0 = 0 ∧ 0 = 0 ∧ (0 < b.length ∨ 0 = 0) ∧ 1 = 1 ∧ (List.take (b.length * 1) (bys b)).all AV.isCell = true then
          (if cdec (0 = 0 ∧ 0 = 0 ∧ false = false ∧ 1 = 1 ∧ 0 + b.length = (List.take (b.length * 1) (bys b)).length ∧ 0 + b.length ≤ 1000000000000 ∧ (List.take (b.length * 1) (bys b)).all isByteR = true ∧ 0 ≤ IntKind.u16.wrap v ∧ IntKind.u16.wrap v < 65536 ∧ some 1 ≠ some 2) = true then
            (if decide (0 ≤ p ∧ p + 2 ≤ (((0 + b.length) : Nat) : Int)) = true then
              (if (bOk (hPutsR100 b p v) (AV.sl (some (0, 0)) b.length 0 false) && decide (nOf (AV.sl (some (0, 0)) b.length 0 false) ≤ 100000000000 ∧ 0 ≤ IntKind.u16.wrap v ∧ IntKind.u16.wrap v < 65536)) = true then
                (if 0 + b.length * 1 ≤ (bys b).length then
                  (if (2 * (0 + b.length) + 200) * 1 ≤ 281474976710656 ∧ some 1 = some 1 ∧ 0 + b.length ≤ 70368744177664 then
                    (if 0 = 0 ∧ 0 = 0 ∧ (0 < b.length ∨ 0 = 0) ∧ 1 = 1 ∧ (List.take (b.length * 1) (bys b)).all AV.isCell = true then
                      (if decide (p ≥ 0) = true then
                        (if decide (p ≤ (b.length : Int)) = true then
                          (if decide (IntKind.i64.wrap ((b.length : Int) - p) ≥ 2) = true then
                            (if 0 ≤ IntKind.i64.wrap (p + 0) ∧ IntKind.i64.wrap (p + 0) < (((0 + b.length) : Nat) : Int) then
                              (if 0 + (IntKind.i64.wrap (p + 0)).toNat * 1 + [AV.int IntKind.u8 (intV (some (AV.int IntKind.u8 (((u8i (v.fdiv 256)).toNat : Nat) : Int))))].length ≤ (List.take (b.length * 1) (bys b)).length ∧ [AV.int IntKind.u8 (intV (some (AV.int IntKind.u8 (((u8i (v.fdiv 256)).toNat : Nat) : Int))))].all AV.isCell = true then
                                (if 0 ≤ IntKind.i64.wrap (p + 1) ∧ IntKind.i64.wrap (p + 1) < (((0 + b.length) : Nat) : Int) then
                                  (if 0 + (IntKind.i64.wrap (p + 1)).toNat * 1 + [AV.int IntKind.u8 (intV (some (AV.int IntKind.u8 (((u8i (v.fdiv 1)).toNat : Nat) : Int))))].length ≤ (putCells (List.take (b.length * 1) (bys b)) (0 + (IntKind.i64.wrap (p + 0)).toNat * 1) [AV.int IntKind.u8 (intV (some (AV.int IntKind.u8 (((u8i (v.fdiv 256)).toNat : Nat) : Int))))]).length ∧ [AV.int IntKind.u8 (intV (some (AV.int IntKind.u8 (((u8i (v.fdiv 1)).toNat : Nat) : Int))))].all AV.isCell = true then
                                    (if 0 + (0 + b.length) ≤ (bys (putR (List.map byteD (List.take (b.length * 1) (bys b))) p 2 (IntKind.u16.wrap v))).length then
                                      (if (List.take (0 + b.length) (bys (putR (List.map byteD (List.take (b.length * 1) (bys b))) p 2 (IntKind.u16.wrap v)))).all isByte = true then
                                        (if 0 + (0 + b.length) ≤ (putCells (putCells (List.take (b.length * 1) (bys b)) (0 + (IntKind.i64.wrap (p + 0)).toNat * 1) [AV.int IntKind.u8 (intV (some (AV.int IntKind.u8 (((u8i (v.fdiv 256)).toNat : Nat) : Int))))]) (0 + (IntKind.i64.wrap (p + 1)).toNat * 1) [AV.int IntKind.u8 (intV (some (AV.int IntKind.u8 (((u8i (v.fdiv 1)).toNat : Nat) : Int))))]).length then
                                          (if (List.take (0 + b.length) (putCells (putCells (List.take (b.length * 1) (bys b)) (0 + (IntKind.i64.wrap (p + 0)).toNat * 1) [AV.int IntKind.u8 (intV (some (AV.int IntKind.u8 (((u8i (v.fdiv 256)).toNat : Nat) : Int))))]) (0 + (IntKind.i64.wrap (p + 1)).toNat * 1) [AV.int IntKind.u8 (intV (some (AV.int IntKind.u8 (((u8i (v.fdiv 1)).toNat : Nat) : Int))))])).all isByte = true then
                                            (if (!decide (List.map byteD (List.take (0 + b.length) (bys (putR (List.map byteD (List.take (b.length * 1) (bys b))) p 2 (IntKind.u16.wrap v)))) = List.map byteD (List.take (0 + b.length) (putCells (putCells (List.take (b.length * 1) (bys b)) (0 + (IntKind.i64.wrap (p + 0)).toNat * 1) [AV.int IntKind.u8 (intV (some (AV.int IntKind.u8 (((u8i (v.fdiv 256)).toNat : Nat) : Int))))]) (0 + (IntKind.i64.wrap (p + 1)).toNat * 1) [AV.int IntKind.u8 (intV (some (AV.int IntKind.u8 (((u8i (v.fdiv 1)).toNat : Nat) : Int))))])))) = false then
                                              (if 0 + (bOf (hPutsR100 b p v) (AV.sl (some (0, 0)) b.length 0 false) ++ bigR (IntKind.u16.wrap v) 2).length ≤ (bys (bOf (hPutsR100 b p v) (AV.sl (some (0, 0)) b.length 0 false) ++ bigR (IntKind.u16.wrap v) 2)).length then
                                                (if (List.take (bOf (hPutsR100 b p v) (AV.sl (some (0, 0)) b.length 0 false) ++ bigR (IntKind.u16.wrap v) 2).length (bys (bOf (hPutsR100 b p v) (AV.sl (some (0, 0)) b.length 0 false) ++ bigR (IntKind.u16.wrap v) 2))).all isByte = true then
                                                  (if 0 + b.length ≤ (bys b).length then
                                                    (if (List.take b.length (bys b)).all isByte = true then
                                                      (if (List.map byteD (List.take b.length (bys b))).length + (List.map byteD [AV.int IntKind.u8 (((u8i (v.fdiv 256)).toNat : Nat) : Int), AV.int IntKind.u8 (((u8i (v.fdiv 1)).toNat : Nat) : Int)]).length ≤ 140737488355328 then
                                                        (if (!decide (List.map byteD (List.take (bOf (hPutsR100 b p v) (AV.sl (some (0, 0)) b.length 0 false) ++ bigR (IntKind.u16.wrap v) 2).length (bys (bOf (hPutsR100 b p v) (AV.sl (some (0, 0)) b.length 0 false) ++ bigR (IntKind.u16.wrap v) 2))) = List.map byteD (List.take b.length (bys b)) ++ List.map byteD [AV.int IntKind.u8 (((u8i (v.fdiv 256)).toNat : Nat) : Int), AV.int IntKind.u8 (((u8i (v.fdiv 1)).toNat : Nat) : Int)])) = false then
                                                          some ((AEx.norm, [AV.sl (some (0, 0)) b.length 0 false, AV.int IntKind.i64 p, AV.int IntKind.u64 v, AV.int IntKind.i64 2], (hPutsR101 b p v)))
                                                        else none)
                                                      else none)
                                                    else none)
                                                  else none)
                                                else none)
                                              else none)
                                            else none)
                                          else none)
                                        else none)
                                      else none)
                                    else none)
                                  else none)
                                else none)
                              else none)
                            else none)
                          else none)
                        else none)
                      else none)
                    else none)
                  else none)
                else none)
              else none)
            else none)
          else none)
        else none)
      else none)
    else none) := by
  kernel_rfl

noncomputable def hPutsR110 (b : List UInt8) (p v : Int) : AHeap := [ABlk.cells (bys b) 1 Md.far none, ABlk.dead, ABlk.cells (bys (putR (List.map byteD (List.take (b.length * 1) (bys b))) p 2 (IntKind.u16.wrap v))) 1 Md.own none]
noncomputable def hPutsR111 (b : List UInt8) (p v : Int) : AHeap := [ABlk.cells (bys b) 1 Md.far none, ABlk.dead, ABlk.cells (bys (putR (List.map byteD (List.take (b.length * 1) (bys b))) p 2 (IntKind.u16.wrap v))) 1 Md.own none, ABlk.cells (bys (bOf (hPutsR110 b p v) (AV.sl (some (0, 0)) b.length 0 false) ++ bigR (IntKind.u16.wrap v) 2)) 1 Md.own none, ABlk.cells [] 1 Md.ro none, ABlk.cells (List.take (b.length * 1) (bys b)) 1 Md.own (some 4), ABlk.cells [AV.int IntKind.u8 (((u8i (v.fdiv 256)).toNat : Nat) : Int), AV.int IntKind.u8 (((u8i (v.fdiv 1)).toNat : Nat) : Int)] 1 Md.own none]
theorem nfPutsR11 (b : List UInt8) (p v : Int) :
    qround Try.prog t1p 100 4 [(119, .bool false), (129, .bool false), (76, .bool false), (47, .bool false)] (autoT Try.prog (deepT Try.prog t1p 100 4) 100 4 (loopIn (bodyOf Try.prog 4) 0)) (loopIn (bodyOf Try.prog 4) 0) mPuts (vPuts b p v 1) [farB b] =
    (if 0 + b.length * 1 ≤ (bys b).length then
      (if (2 * (0 + b.length) + 200) * 1 ≤ 281474976710656 ∧ some 1 = some 1 ∧ 0 + b.length ≤ 70368744177664 then
        (if 0 = 0 ∧ 0 = 0 ∧ (0 < b.length ∨ 0 = 0) ∧ 1 = 1 ∧ (List.take (b.length * 1) (bys b)).all AV.isCell = true then
          (if cdec (0 = 0 ∧ 0 = 0 ∧ false = false ∧ 1 = 1 ∧ 0 + b.length = (List.take (b.length * 1) (bys b)).length ∧ 0 + b.length ≤ 1000000000000 ∧ (List.take (b.length * 1) (bys b)).all isByteR = true ∧ 0 ≤ IntKind.u16.wrap v ∧ IntKind.u16.wrap v < 65536 ∧ some 1 ≠ some 2) = true then
            (if decide (0 ≤ p ∧ p + 2 ≤ (((0 + b.length) : Nat) : Int)) = false then
              (if (bOk (hPutsR110 b p v) (AV.sl (some (0, 0)) b.length 0 false) && decide (nOf (AV.sl (some (0, 0)) b.length 0 false) ≤ 100000000000 ∧ 0 ≤ IntKind.u16.wrap v ∧ IntKind.u16.wrap v < 65536)) = true then
                (if 0 + b.length * 1 ≤ (bys b).length then
                  (if (2 * (0 + b.length) + 200) * 1 ≤ 281474976710656 ∧ some 1 = some 1 ∧ 0 + b.length ≤ 70368744177664 then
                    (if 0 = 0 ∧ 0 = 0 ∧ (0 < b.length ∨ 0 = 0) ∧ 1 = 1 ∧ (List.take (b.length * 1) (bys b)).all AV.isCell = true then
                      (if decide (p ≥ 0) = false then
                        (if 0 + (0 + b.length) ≤ (bys (putR (List.map byteD (List.take (b.length * 1) (bys b))) p 2 (IntKind.u16.wrap v))).length then
                          (if (List.take (0 + b.length) (bys (putR (List.map byteD (List.take (b.length * 1) (bys b))) p 2 (IntKind.u16.wrap v)))).all isByte = true then
                            (if 0 + (0 + b.length) ≤ (List.take (b.length * 1) (bys b)).length then
                              (if (List.take (0 + b.length) (List.take (b.length * 1) (bys b))).all isByte = true then
                                (if (!decide (List.map byteD (List.take (0 + b.length) (bys (putR (List.map byteD (List.take (b.length * 1) (bys b))) p 2 (IntKind.u16.wrap v)))) = List.map byteD (List.take (0 + b.length) (List.take (b.length * 1) (bys b))))) = false then
                                  (if 0 + (bOf (hPutsR110 b p v) (AV.sl (some (0, 0)) b.length 0 false) ++ bigR (IntKind.u16.wrap v) 2).length ≤ (bys (bOf (hPutsR110 b p v) (AV.sl (some (0, 0)) b.length 0 false) ++ bigR (IntKind.u16.wrap v) 2)).length then
                                    (if (List.take (bOf (hPutsR110 b p v) (AV.sl (some (0, 0)) b.length 0 false) ++ bigR (IntKind.u16.wrap v) 2).length (bys (bOf (hPutsR110 b p v) (AV.sl (some (0, 0)) b.length 0 false) ++ bigR (IntKind.u16.wrap v) 2))).all isByte = true then
                                      (if 0 + b.length ≤ (bys b).length then
                                        (if (List.take b.length (bys b)).all isByte = true then
                                          (if (List.map byteD (List.take b.length (bys b))).length + (List.map byteD [AV.int IntKind.u8 (((u8i (v.fdiv 256)).toNat : Nat) : Int), AV.int IntKind.u8 (((u8i (v.fdiv 1)).toNat : Nat) : Int)]).length ≤ 140737488355328 then
                                            (if (!decide (List.map byteD (List.take (bOf (hPutsR110 b p v) (AV.sl (some (0, 0)) b.length 0 false) ++ bigR (IntKind.u16.wrap v) 2).length (bys (bOf (hPutsR110 b p v) (AV.sl (some (0, 0)) b.length 0 false) ++ bigR (IntKind.u16.wrap v) 2))) = List.map byteD (List.take b.length (bys b)) ++ List.map byteD [AV.int IntKind.u8 (((u8i (v.fdiv 256)).toNat : Nat) : Int), AV.int IntKind.u8 (((u8i (v.fdiv 1)).toNat : Nat) : Int)])) = false then
                                              some ((AEx.norm, [AV.sl (some (0, 0)) b.length 0 false, AV.int IntKind.i64 p, AV.int IntKind.u64 v, AV.int IntKind.i64 2], (hPutsR111 b p v)))
                                            else none)
                                          else none)
                                        else none)
                                      else none)
                                    else none)
                                  else none)
                                else none)
                              else none)
                            else none)
                          else none)
                        else none)
                      else none)
                    else none)
                  else none)
                else none)
              else none)
            else none)
          else none)
        else none)
      else none)
    else none) := by
  kernel_rfl

noncomputable def hPutsR120 (b : List UInt8) (p v : Int) : AHeap := [ABlk.cells (bys b) 1 Md.far none, ABlk.dead, ABlk.cells (bys (putR (List.map byteD (List.take (b.length * 1) (bys b))) p 2 (IntKind.u16.wrap v))) 1 Md.own none]
noncomputable def hPutsR121 (b : List UInt8) (p v : Int) : AHeap := [ABlk.cells (bys b) 1 Md.far none, ABlk.dead, ABlk.cells (bys (putR (List.map byteD (List.take (b.length * 1) (bys b))) p 2 (IntKind.u16.wrap v))) 1 Md.own none, ABlk.cells (bys (bOf (hPutsR120 b p v) (AV.sl (some (0, 0)) b.length 0 false) ++ bigR (IntKind.u16.wrap v) 2)) 1 Md.own none, ABlk.cells [] 1 Md.ro none, ABlk.cells (List.take (b.length * 1) (bys b)) 1 Md.own (some 4), ABlk.cells [AV.int IntKind.u8 (((u8i (v.fdiv 256)).toNat : Nat) : Int), AV.int IntKind.u8 (((u8i (v.fdiv 1)).toNat : Nat) : Int)] 1 Md.own none]
theorem nfPutsR12 (b : List UInt8) (p v : Int) :
    qround Try.prog t1p 100 4 [(119, .bool false), (129, .bool false), (76, .bool true), (81, .bool false), (47, .bool false)] (autoT Try.prog (deepT Try.prog t1p 100 4) 100 4 (loopIn (bodyOf Try.prog 4) 0)) (loopIn (bodyOf Try.prog 4) 0) mPuts (vPuts b p v 1) [farB b] =
    (if 0 + b.length * 1 ≤ (bys b).length then
      (if (2 * (0 + b.length) + 200) * 1 ≤ 281474976710656 ∧ some 1 = some 1 ∧ 0 + b.length ≤ 70368744177664 then
        (if 0 = 0 ∧ 0 = 0 ∧ (0 < b.length ∨ 0 = 0) ∧ 1 = 1 ∧ (List.take (b.length * 1) (bys b)).all AV.isCell = true then
          (if cdec (0 = 0 ∧ 0 = 0 ∧ false = false ∧ 1 = 1 ∧ 0 + b.length = (List.take (b.length * 1) (bys b)).length ∧ 0 + b.length ≤ 1000000000000 ∧ (List.take (b.length * 1) (bys b)).all isByteR = true ∧ 0 ≤ IntKind.u16.wrap v ∧ IntKind.u16.wrap v < 65536 ∧ some 1 ≠ some 2) = true then
            (if decide (0 ≤ p ∧ p + 2 ≤ (((0 + b.length) : Nat) : Int)) = false then
              (if (bOk (hPutsR120 b p v) (AV.sl (some (0, 0)) b.length 0 false) && decide (nOf (AV.sl (some (0, 0)) b.length 0 false) ≤ 100000000000 ∧ 0 ≤ IntKind.u16.wrap v ∧ IntKind.u16.wrap v < 65536)) = true then
                (if 0 + b.length * 1 ≤ (bys b).length then
                  (if (2 * (0 + b.length) + 200) * 1 ≤ 281474976710656 ∧ some 1 = some 1 ∧ 0 + b.length ≤ 70368744177664 then
                    (if 0 = 0 ∧ 0 = 0 ∧ (0 < b.length ∨ 0 = 0) ∧ 1 = 1 ∧ (List.take (b.length * 1) (bys b)).all AV.isCell = true then
                      (if decide (p ≥ 0) = true then
                        (if decide (p ≤ (b.length : Int)) = false then
                          (if 0 + (0 + b.length) ≤ (bys (putR (List.map byteD (List.take (b.length * 1) (bys b))) p 2 (IntKind.u16.wrap v))).length then
                            (if (List.take (0 + b.length) (bys (putR (List.map byteD (List.take (b.length * 1) (bys b))) p 2 (IntKind.u16.wrap v)))).all isByte = true then
                              (if 0 + (0 + b.length) ≤ (List.take (b.length * 1) (bys b)).length then
                                (if (List.take (0 + b.length) (List.take (b.length * 1) (bys b))).all isByte = true then
                                  (if (!decide (List.map byteD (List.take (0 + b.length) (bys (putR (List.map byteD (List.take (b.length * 1) (bys b))) p 2 (IntKind.u16.wrap v)))) = List.map byteD (List.take (0 + b.length) (List.take (b.length * 1) (bys b))))) = false then
                                    (if 0 + (bOf (hPutsR120 b p v) (AV.sl (some (0, 0)) b.length 0 false) ++ bigR (IntKind.u16.wrap v) 2).length ≤ (bys (bOf (hPutsR120 b p v) (AV.sl (some (0, 0)) b.length 0 false) ++ bigR (IntKind.u16.wrap v) 2)).length then
                                      (if (List.take (bOf (hPutsR120 b p v) (AV.sl (some (0, 0)) b.length 0 false) ++ bigR (IntKind.u16.wrap v) 2).length (bys (bOf (hPutsR120 b p v) (AV.sl (some (0, 0)) b.length 0 false) ++ bigR (IntKind.u16.wrap v) 2))).all isByte = true then
                                        (if 0 + b.length ≤ (bys b).length then
                                          (if (List.take b.length (bys b)).all isByte = true then
                                            (if (List.map byteD (List.take b.length (bys b))).length + (List.map byteD [AV.int IntKind.u8 (((u8i (v.fdiv 256)).toNat : Nat) : Int), AV.int IntKind.u8 (((u8i (v.fdiv 1)).toNat : Nat) : Int)]).length ≤ 140737488355328 then
                                              (if (!decide (List.map byteD (List.take (bOf (hPutsR120 b p v) (AV.sl (some (0, 0)) b.length 0 false) ++ bigR (IntKind.u16.wrap v) 2).length (bys (bOf (hPutsR120 b p v) (AV.sl (some (0, 0)) b.length 0 false) ++ bigR (IntKind.u16.wrap v) 2))) = List.map byteD (List.take b.length (bys b)) ++ List.map byteD [AV.int IntKind.u8 (((u8i (v.fdiv 256)).toNat : Nat) : Int), AV.int IntKind.u8 (((u8i (v.fdiv 1)).toNat : Nat) : Int)])) = false then
                                                some ((AEx.norm, [AV.sl (some (0, 0)) b.length 0 false, AV.int IntKind.i64 p, AV.int IntKind.u64 v, AV.int IntKind.i64 2], (hPutsR121 b p v)))
                                              else none)
                                            else none)
                                          else none)
                                        else none)
                                      else none)
                                    else none)
                                  else none)
                                else none)
                              else none)
                            else none)
                          else none)
                        else none)
                      else none)
                    else none)
                  else none)
                else none)
              else none)
            else none)
          else none)
        else none)
      else none)
    else none) := by
  kernel_rfl

noncomputable def hPutsR130 (b : List UInt8) (p v : Int) : AHeap := [ABlk.cells (bys b) 1 Md.far none, ABlk.dead, ABlk.cells (bys (putR (List.map byteD (List.take (b.length * 1) (bys b))) p 2 (IntKind.u16.wrap v))) 1 Md.own none]
noncomputable def hPutsR131 (b : List UInt8) (p v : Int) : AHeap := [ABlk.cells (bys b) 1 Md.far none, ABlk.dead, ABlk.cells (bys (putR (List.map byteD (List.take (b.length * 1) (bys b))) p 2 (IntKind.u16.wrap v))) 1 Md.own none, ABlk.cells (bys (bOf (hPutsR130 b p v) (AV.sl (some (0, 0)) b.length 0 false) ++ bigR (IntKind.u16.wrap v) 2)) 1 Md.own none, ABlk.cells [] 1 Md.ro none, ABlk.cells (List.take (b.length * 1) (bys b)) 1 Md.own (some 4), ABlk.cells [AV.int IntKind.u8 (((u8i (v.fdiv 256)).toNat : Nat) : Int), AV.int IntKind.u8 (((u8i (v.fdiv 1)).toNat : Nat) : Int)] 1 Md.own none]
theorem nfPutsR13 (b : List UInt8) (p v : Int) :
    qround Try.prog t1p 100 4 [(119, .bool false), (129, .bool false), (76, .bool true), (81, .bool true), (89, .bool false), (47, .bool false)] (autoT Try.prog (deepT Try.prog t1p 100 4) 100 4 (loopIn (bodyOf Try.prog 4) 0)) (loopIn (bodyOf Try.prog 4) 0) mPuts (vPuts b p v 1) [farB b] =
    (if 0 + b.length * 1 ≤ (bys b).length then
      (if (2 * (0 + b.length) + 200) * 1 ≤ 281474976710656 ∧ some 1 = some 1 ∧ 0 + b.length ≤ 70368744177664 then
        (if 0 = 0 ∧ 0 = 0 ∧ (0 < b.length ∨ 0 = 0) ∧ 1 = 1 ∧ (List.take (b.length * 1) (bys b)).all AV.isCell = true then
          (if cdec (0 = 0 ∧ 0 = 0 ∧ false = false ∧ 1 = 1 ∧ 0 + b.length = (List.take (b.length * 1) (bys b)).length ∧ 0 + b.length ≤ 1000000000000 ∧ (List.take (b.length * 1) (bys b)).all isByteR = true ∧ 0 ≤ IntKind.u16.wrap v ∧ IntKind.u16.wrap v < 65536 ∧ some 1 ≠ some 2) = true then
            (if decide (0 ≤ p ∧ p + 2 ≤ (((0 + b.length) : Nat) : Int)) = false then
              (if (bOk (hPutsR130 b p v) (AV.sl (some (0, 0)) b.length 0 false) && decide (nOf (AV.sl (some (0, 0)) b.length 0 false) ≤ 100000000000 ∧ 0 ≤ IntKind.u16.wrap v ∧ IntKind.u16.wrap v < 65536)) = true then
                (if 0 + b.length * 1 ≤ (bys b).length then
                  (if (2 * (0 + b.length) + 200) * 1 ≤ 281474976710656 ∧ some 1 = some 1 ∧ 0 + b.length ≤ 70368744177664 then
                    (if 0 = 0 ∧ 0 = 0 ∧ (0 < b.length ∨ 0 = 0) ∧ 1 = 1 ∧ (List.take (b.length * 1) (bys b)).all AV.isCell = true then
                      (if decide (p ≥ 0) = true then
                        (if decide (p ≤ (b.length : Int)) = true then
                          (if decide (IntKind.i64.wrap ((b.length : Int) - p) ≥ 2) = false then
                            (if 0 + (0 + b.length) ≤ (bys (putR (List.map byteD (List.take (b.length * 1) (bys b))) p 2 (IntKind.u16.wrap v))).length then
                              (if (List.take (0 + b.length) (bys (putR (List.map byteD (List.take (b.length * 1) (bys b))) p 2 (IntKind.u16.wrap v)))).all isByte = true then
                                (if 0 + (0 + b.length) ≤ (List.take (b.length * 1) (bys b)).length then
                                  (if (List.take (0 + b.length) (List.take (b.length * 1) (bys b))).all isByte = true then
                                    (if (!decide (List.map byteD (List.take (0 + b.length) (bys (putR (List.map byteD (List.take (b.length * 1) (bys b))) p 2 (IntKind.u16.wrap v)))) = List.map byteD (List.take (0 + b.length) (List.take (b.length * 1) (bys b))))) = false then
                                      (if 0 + (bOf (hPutsR130 b p v) (AV.sl (some (0, 0)) b.length 0 false) ++ bigR (IntKind.u16.wrap v) 2).length ≤ (bys (bOf (hPutsR130 b p v) (AV.sl (some (0, 0)) b.length 0 false) ++ bigR (IntKind.u16.wrap v) 2)).length then
                                        (if (List.take (bOf (hPutsR130 b p v) (AV.sl (some (0, 0)) b.length 0 false) ++ bigR (IntKind.u16.wrap v) 2).length (bys (bOf (hPutsR130 b p v) (AV.sl (some (0, 0)) b.length 0 false) ++ bigR (IntKind.u16.wrap v) 2))).all isByte = true then
                                          (if 0 + b.length ≤ (bys b).length then
                                            (if (List.take b.length (bys b)).all isByte = true then
                                              (if (List.map byteD (List.take b.length (bys b))).length + (List.map byteD [AV.int IntKind.u8 (((u8i (v.fdiv 256)).toNat : Nat) : Int), AV.int IntKind.u8 (((u8i (v.fdiv 1)).toNat : Nat) : Int)]).length ≤ 140737488355328 then
                                                (if (!decide (List.map byteD (List.take (bOf (hPutsR130 b p v) (AV.sl (some (0, 0)) b.length 0 false) ++ bigR (IntKind.u16.wrap v) 2).length (bys (bOf (hPutsR130 b p v) (AV.sl (some (0, 0)) b.length 0 false) ++ bigR (IntKind.u16.wrap v) 2))) = List.map byteD (List.take b.length (bys b)) ++ List.map byteD [AV.int IntKind.u8 (((u8i (v.fdiv 256)).toNat : Nat) : Int), AV.int IntKind.u8 (((u8i (v.fdiv 1)).toNat : Nat) : Int)])) = false then
                                                  some ((AEx.norm, [AV.sl (some (0, 0)) b.length 0 false, AV.int IntKind.i64 p, AV.int IntKind.u64 v, AV.int IntKind.i64 2], (hPutsR131 b p v)))
                                                else none)
                                              else none)
                                            else none)
                                          else none)
                                        else none)
                                      else none)
                                    else none)
                                  else none)
                                else none)
                              else none)
                            else none)
                          else none)
                        else none)
                      else none)
                    else none)
                  else none)
                else none)
              else none)
            else none)
          else none)
        else none)
      else none)
    else none) := by
  kernel_rfl

noncomputable def hPutsR200 (b : List UInt8) (p v : Int) : AHeap := [ABlk.cells (bys b) 1 Md.far none, ABlk.dead, ABlk.cells (bys (putR (List.map byteD (List.take (b.length * 1) (bys b))) p 4 (IntKind.u32.wrap v))) 1 Md.own none]
noncomputable def hPutsR201 (b : List UInt8) (p v : Int) : AHeap := [ABlk.cells (bys b) 1 Md.far none, ABlk.dead, ABlk.cells (bys (putR (List.map byteD (List.take (b.length * 1) (bys b))) p 4 (IntKind.u32.wrap v))) 1 Md.own none, ABlk.cells (bys (bOf (hPutsR200 b p v) (AV.sl (some (0, 0)) b.length 0 false) ++ bigR (IntKind.u32.wrap v) 4)) 1 Md.own none, ABlk.dead, ABlk.cells (putCells (putCells (putCells (putCells (List.take (b.length * 1) (bys b)) (0 + (IntKind.i64.wrap (p + 0)).toNat * 1) [AV.int IntKind.u8 (intV (some (AV.int IntKind.u8 (((u8i (v.fdiv 16777216)).toNat : Nat) : Int))))]) (0 + (IntKind.i64.wrap (p + 1)).toNat * 1) [AV.int IntKind.u8 (intV (some (AV.int IntKind.u8 (((u8i (v.fdiv 65536)).toNat : Nat) : Int))))]) (0 + (IntKind.i64.wrap (p + 2)).toNat * 1) [AV.int IntKind.u8 (intV (some (AV.int IntKind.u8 (((u8i (v.fdiv 256)).toNat : Nat) : Int))))]) (0 + (IntKind.i64.wrap (p + 3)).toNat * 1) [AV.int IntKind.u8 (intV (some (AV.int IntKind.u8 (((u8i (v.fdiv 1)).toNat : Nat) : Int))))]) 1 Md.own none, ABlk.cells [AV.int IntKind.u8 (((u8i (v.fdiv 16777216)).toNat : Nat) : Int), AV.int IntKind.u8 (((u8i (v.fdiv 65536)).toNat : Nat) : Int), AV.int IntKind.u8 (((u8i (v.fdiv 256)).toNat : Nat) : Int), AV.int IntKind.u8 (((u8i (v.fdiv 1)).toNat : Nat) : Int)] 1 Md.own none]
theorem nfPutsR20 (b : List UInt8) (p v : Int) :
    qround Try.prog t1p 100 4 [(119, .bool false), (129, .bool false), (76, .bool true), (81, .bool true), (89, .bool true), (58, .bool true)] (autoT Try.prog (deepT Try.prog t1p 100 4) 100 4 (loopIn (bodyOf Try.prog 4) 0)) (loopIn (bodyOf Try.prog 4) 0) mPuts (vPuts b p v 2) [farB b] =
    (if 0 + b.length * 1 ≤ (bys b).length then
      (if (2 * (0 + b.length) + 200) * 1 ≤ 281474976710656 ∧ some 1 = some 1 ∧ 0 + b.length ≤ 70368744177664 then
        (if 0 = 0 ∧ 0 = 0 ∧ (0 < b.length ∨ 0 = 0) ∧ 1 = 1 ∧ (List.take (b.length * 1) (bys b)).all AV.isCell = true then
          (if cdec (0 = 0 ∧ 0 = 0 ∧ false = false ∧ 1 = 1 ∧ 0 + b.length = (List.take (b.length * 1) (bys b)).length ∧ 0 + b.length ≤ 1000000000000 ∧ (List.take (b.length * 1) (bys b)).all isByteR = true ∧ 0 ≤ IntKind.u32.wrap v ∧ IntKind.u32.wrap v < 4294967296 ∧ some 1 ≠ some 2) = true then
            (if decide (0 ≤ p ∧ p + 4 ≤ (((0 + b.length) : Nat) : Int)) = true then
              (if (bOk (hPutsR200 b p v) (AV.sl (some (0, 0)) b.length 0 false) && decide (nOf (AV.sl (some (0, 0)) b.length 0 false) ≤ 100000000000 ∧ 0 ≤ IntKind.u32.wrap v ∧ IntKind.u32.wrap v < 4294967296)) = true then
                (if 0 + b.length * 1 ≤ (bys b).length then
                  (if (2 * (0 + b.length) + 200) * 1 ≤ 281474976710656 ∧ some 1 = some 1 ∧ 0 + b.length ≤ 70368744177664 then
                    (if 0 = 0 ∧ 0 = 0 ∧ (0 < b.length ∨ 0 = 0) ∧ 1 = 1 ∧ (List.take (b.length * 1) (bys b)).all AV.isCell = true then
                      (if decide (p ≥ 0) = true then
                        (if decide (p ≤ (b.length : Int)) = true then
                          (if decide (IntKind.i64.wrap ((b.length : Int) - p) ≥ 4) = true then
                            (if 0 ≤ IntKind.i64.wrap (p + 0) ∧ IntKind.i64.wrap (p + 0) < (((0 + b.length) : Nat) : Int) then
                              (if 0 + (IntKind.i64.wrap (p + 0)).toNat * 1 + [AV.int IntKind.u8 (intV (some (AV.int IntKind.u8 (((u8i (v.fdiv 16777216)).toNat : Nat) : Int))))].length ≤ (List.take (b.length * 1) (bys b)).length ∧ [AV.int IntKind.u8 (intV (some (AV.int IntKind.u8 (((u8i (v.fdiv 16777216)).toNat : Nat) : Int))))].all AV.isCell = true then
                                (if 0 ≤ IntKind.i64.wrap (p + 1) ∧ IntKind.i64.wrap (p + 1) < (((0 + b.length) : Nat) : Int) then
                                  (if 0 + (IntKind.i64.wrap (p + 1)).toNat * 1 + [AV.int IntKind.u8 (intV (some (AV.int IntKind.u8 (((u8i (v.fdiv 65536)).toNat : Nat) : Int))))].length ≤ (putCells (List.take (b.length * 1) (bys b)) (0 + (IntKind.i64.wrap (p + 0)).toNat * 1) [AV.int IntKind.u8 (intV (some (AV.int IntKind.u8 (((u8i (v.fdiv 16777216)).toNat : Nat) : Int))))]).length ∧ [AV.int IntKind.u8 (intV (some (AV.int IntKind.u8 (((u8i (v.fdiv 65536)).toNat : Nat) : Int))))].all AV.isCell = true then
                                    (if 0 ≤ IntKind.i64.wrap (p + 2) ∧ IntKind.i64.wrap (p + 2) < (((0 + b.length) : Nat) : Int) then
                                      (if 0 + (IntKind.i64.wrap (p + 2)).toNat * 1 + [AV.int IntKind.u8 (intV (some (AV.int IntKind.u8 (((u8i (v.fdiv 256)).toNat : Nat) : Int))))].length ≤ (putCells (putCells (List.take (b.length * 1) (bys b)) (0 + (IntKind.i64.wrap (p + 0)).toNat * 1) [AV.int IntKind.u8 (intV (some (AV.int IntKind.u8 (((u8i (v.fdiv 16777216)).toNat : Nat) : Int))))]) (0 + (IntKind.i64.wrap (p + 1)).toNat * 1) [AV.int IntKind.u8 (intV (some (AV.int IntKind.u8 (((u8i (v.fdiv 65536)).toNat : Nat) : Int))))]).length ∧ [AV.int IntKind.u8 (intV (some (AV.int IntKind.u8 (((u8i (v.fdiv 256)).toNat : Nat) : Int))))].all AV.isCell = true then
                                        (if 0 ≤ IntKind.i64.wrap (p + 3) ∧ IntKind.i64.wrap (p + 3) < (((0 + b.length) : Nat) : Int) then
                                          (if 0 + (IntKind.i64.wrap (p + 3)).toNat * 1 + [AV.int IntKind.u8 (intV (some (AV.int IntKind.u8 (((u8i (v.fdiv 1)).toNat : Nat) : Int))))].length ≤ (putCells (putCells (putCells (List.take (b.length * 1) (bys b)) (0 + (IntKind.i64.wrap (p + 0)).toNat * 1) [AV.int IntKind.u8 (intV (some (AV.int IntKind.u8 (((u8i (v.fdiv 16777216)).toNat : Nat) : Int))))]) (0 + (IntKind.i64.wrap (p + 1)).toNat * 1) [AV.int IntKind.u8 (intV (some (AV.int IntKind.u8 (((u8i (v.fdiv 65536)).toNat : Nat) : Int))))]) (0 + (IntKind.i64.wrap (p + 2)).toNat * 1) [AV.int IntKind.u8 (intV (some (AV.int IntKind.u8 (((u8i (v.fdiv 256)).toNat : Nat) : Int))))]).length ∧ [AV.int IntKind.u8 (intV (some (AV.int IntKind.u8 (((u8i (v.fdiv 1)).toNat : Nat) : Int))))].all AV.isCell = true then
                                            (if 0 + (0 + b.length) ≤ (bys (putR (List.map byteD (List.take (b.length * 1) (bys b))) p 4 (IntKind.u32.wrap v))).length then
                                              (if (List.take (0 + b.length) (bys (putR (List.map byteD (List.take (b.length * 1) (bys b))) p 4 (IntKind.u32.wrap v)))).all isByte = true then
                                                (if 0 + (0 + b.length) ≤ (putCells (putCells (putCells (putCells (List.take (b.length * 1) (bys b)) (0 + (IntKind.i64.wrap (p + 0)).toNat * 1) [AV.int IntKind.u8 (intV (some (AV.int IntKind.u8 (((u8i (v.fdiv 16777216)).toNat : Nat) : Int))))]) (0 + (IntKind.i64.wrap (p + 1)).toNat * 1) [AV.int IntKind.u8 (intV (some (AV.int IntKind.u8 (((u8i (v.fdiv 65536)).toNat : Nat) : Int))))]) (0 + (IntKind.i64.wrap (p + 2)).toNat * 1) [AV.int IntKind.u8 (intV (some (AV.int IntKind.u8 (((u8i (v.fdiv 256)).toNat : Nat) : Int))))]) (0 + (IntKind.i64.wrap (p + 3)).toNat * 1) [AV.int IntKind.u8 (intV (some (AV.int IntKind.u8 (((u8i (v.fdiv 1)).toNat : Nat) : Int))))]).length then
                                                  (if (List.take (0 + b.length) (putCells (putCells (putCells (putCells (List.take (b.length * 1) (bys b)) (0 + (IntKind.i64.wrap (p + 0)).toNat * 1) [AV.int IntKind.u8 (intV (some (AV.int IntKind.u8 (((u8i (v.fdiv 16777216)).toNat : Nat) : Int))))]) (0 + (IntKind.i64.wrap (p + 1)).toNat * 1) [AV.int IntKind.u8 (intV (some (AV.int IntKind.u8 (((u8i (v.fdiv 65536)).toNat : Nat) : Int))))]) (0 + (IntKind.i64.wrap (p + 2)).toNat * 1) [AV.int IntKind.u8 (intV (some (AV.int IntKind.u8 (((u8i (v.fdiv 256)).toNat : Nat) : Int))))]) (0 + (IntKind.i64.wrap (p + 3)).toNat * 1) [AV.int IntKind.u8 (intV (some (AV.int IntKind.u8 (((u8i (v.fdiv 1)).toNat : Nat) : Int))))])).all isByte = true then
                                                    (if (!decide (List.map byteD (List.take (0 + b.length) (bys (putR (List.map byteD (List.take (b.length * 1) (bys b))) p 4 (IntKind.u32.wrap v)))) = List.map byteD (List.take (0 + b.length) (putCells (putCells (putCells (putCells (List.take (b.length * 1) (bys b)) (0 + (IntKind.i64.wrap (p + 0)).toNat * 1) [AV.int IntKind.u8 (intV (some (AV.int IntKind.u8 (((u8i (v.fdiv 16777216)).toNat : Nat) : Int))))]) (0 + (IntKind.i64.wrap (p + 1)).toNat * 1) [AV.int IntKind.u8 (intV (some (AV.int IntKind.u8 (((u8i (v.fdiv 65536)).toNat : Nat) : Int))))]) (0 + (IntKind.i64.wrap (p + 2)).toNat * 1) [AV.int IntKind.u8 (intV (some (AV.int IntKind.u8 (((u8i (v.fdiv 256)).toNat : Nat) : Int))))]) (0 + (IntKind.i64.wrap (p + 3)).toNat * 1) [AV.int IntKind.u8 (intV (some (AV.int IntKind.u8 (((u8i (v.fdiv 1)).toNat : Nat) : Int))))])))) = false then
                                                      (if 0 + (bOf (hPutsR200 b p v) (AV.sl (some (0, 0)) b.length 0 false) ++ bigR (IntKind.u32.wrap v) 4).length ≤ (bys (bOf (hPutsR200 b p v) (AV.sl (some (0, 0)) b.length 0 false) ++ bigR (IntKind.u32.wrap v) 4)).length then
                                                        (if (List.take (bOf (hPutsR200 b p v) (AV.sl (some (0, 0)) b.length 0 false) ++ bigR (IntKind.u32.wrap v) 4).length (bys (bOf (hPutsR200 b p v) (AV.sl (some (0, 0)) b.length 0 false) ++ bigR (IntKind.u32.wrap v) 4))).all isByte = true then
                                                          (if 0 + b.length ≤ (bys b).length then
                                                            (if (List.take b.length (bys b)).all isByte = true then
                                                              (if (List.map byteD (List.take b.length (bys b))).length + (List.map byteD [AV.int IntKind.u8 (((u8i (v.fdiv 16777216)).toNat : Nat) : Int), AV.int IntKind.u8 (((u8i (v.fdiv 65536)).toNat : Nat) : Int), AV.int IntKind.u8 (((u8i (v.fdiv 256)).toNat : Nat) : Int), AV.int IntKind.u8 (((u8i (v.fdiv 1)).toNat : Nat) : Int)]).length ≤ 140737488355328 then
                                                                (if (!decide (List.map byteD (List.take (bOf (hPutsR200 b p v) (AV.sl (some (0, 0)) b.length 0 false) ++ bigR (IntKind.u32.wrap v) 4).length (bys (bOf (hPutsR200 b p v) (AV.sl (some (0, 0)) b.length 0 false) ++ bigR (IntKind.u32.wrap v) 4))) = List.map byteD (List.take b.length (bys b)) ++ List.map byteD [AV.int IntKind.u8 (((u8i (v.fdiv 16777216)).toNat : Nat) : Int), AV.int IntKind.u8 (((u8i (v.fdiv 65536)).toNat : Nat) : Int), AV.int IntKind.u8 (((u8i (v.fdiv 256)).toNat : Nat) : Int), AV.int IntKind.u8 (((u8i (v.fdiv 1)).toNat : Nat) : Int)])) = false then
                                                                  some ((AEx.norm, [AV.sl (some (0, 0)) b.length 0 false, AV.int IntKind.i64 p, AV.int IntKind.u64 v, AV.int IntKind.i64 3], (hPutsR201 b p v)))
                                                                else none)
                                                              else none)
                                                            else none)
                                                          else none)
                                                        else none)
                                                      else none)
                                                    else none)
                                                  else none)
                                                else none)
                                              else none)
                                            else none)
                                          else none)
                                        else none)
                                      else none)
                                    else none)
                                  else none)
                                else none)
                              else none)
                            else none)
                          else none)
                        else none)
                      else none)
                    else none)
                  else none)
                else none)
              else none)
            else none)
          else none)
        else none)
      else none)
    else none) := by
  kernel_rfl

noncomputable def hPutsR210 (b : List UInt8) (p v : Int) : AHeap := [ABlk.cells (bys b) 1 Md.far none, ABlk.dead, ABlk.cells (bys (putR (List.map byteD (List.take (b.length * 1) (bys b))) p 4 (IntKind.u32.wrap v))) 1 Md.own none]
noncomputable def hPutsR211 (b : List UInt8) (p v : Int) : AHeap := [ABlk.cells (bys b) 1 Md.far none, ABlk.dead, ABlk.cells (bys (putR (List.map byteD (List.take (b.length * 1) (bys b))) p 4 (IntKind.u32.wrap v))) 1 Md.own none, ABlk.cells (bys (bOf (hPutsR210 b p v) (AV.sl (some (0, 0)) b.length 0 false) ++ bigR (IntKind.u32.wrap v) 4)) 1 Md.own none, ABlk.cells [] 1 Md.ro none, ABlk.cells (List.take (b.length * 1) (bys b)) 1 Md.own (some 4), ABlk.cells [AV.int IntKind.u8 (((u8i (v.fdiv 16777216)).toNat : Nat) : Int), AV.int IntKind.u8 (((u8i (v.fdiv 65536)).toNat : Nat) : Int), AV.int IntKind.u8 (((u8i (v.fdiv 256)).toNat : Nat) : Int), AV.int IntKind.u8 (((u8i (v.fdiv 1)).toNat : Nat) : Int)] 1 Md.own none]
theorem nfPutsR21 (b : List UInt8) (p v : Int) :
    qround Try.prog t1p 100 4 [(119, .bool false), (129, .bool false), (76, .bool false), (58, .bool false)] (autoT Try.prog (deepT Try.prog t1p 100 4) 100 4 (loopIn (bodyOf Try.prog 4) 0)) (loopIn (bodyOf Try.prog 4) 0) mPuts (vPuts b p v 2) [farB b] =
    (if 0 + b.length * 1 ≤ (bys b).length then
      (if (2 * (0 + b.length) + 200) * 1 ≤ 281474976710656 ∧ some 1 = some 1 ∧ 0 + b.length ≤ 70368744177664 then
        (if 0 = 0 ∧ 0 = 0 ∧ (0 < b.length ∨ 0 = 0) ∧ 1 = 1 ∧ (List.take (b.length * 1) (bys b)).all AV.isCell = true then
          (if cdec (0 = 0 ∧ 0 = 0 ∧ false = false ∧ 1 = 1 ∧ 0 + b.length = (List.take (b.length * 1) (bys b)).length ∧ 0 + b.length ≤ 1000000000000 ∧ (List.take (b.length * 1) (bys b)).all isByteR = true ∧ 0 ≤ IntKind.u32.wrap v ∧ IntKind.u32.wrap v < 4294967296 ∧ some 1 ≠ some 2) = true then
            (if decide (0 ≤ p ∧ p + 4 ≤ (((0 + b.length) : Nat) : Int)) = false then
              (if (bOk (hPutsR210 b p v) (AV.sl (some (0, 0)) b.length 0 false) && decide (nOf (AV.sl (some (0, 0)) b.length 0 false) ≤ 100000000000 ∧ 0 ≤ IntKind.u32.wrap v ∧ IntKind.u32.wrap v < 4294967296)) = true then
                (if 0 + b.length * 1 ≤ (bys b).length then
                  (if (2 * (0 + b.length) + 200) * 1 ≤ 281474976710656 ∧ some 1 = some 1 ∧ 0 + b.length ≤ 70368744177664 then
                    (if 0 = 0 ∧ 0 = 0 ∧ (0 < b.length ∨ 0 = 0) ∧ 1 = 1 ∧ (List.take (b.length * 1) (bys b)).all AV.isCell = true then
                      (if decide (p ≥ 0) = false then
                        (if 0 + (0 + b.length) ≤ (bys (putR (List.map byteD (List.take (b.length * 1) (bys b))) p 4 (IntKind.u32.wrap v))).length then
                          (if (List.take (0 + b.length) (bys (putR (List.map byteD (List.take (b.length * 1) (bys b))) p 4 (IntKind.u32.wrap v)))).all isByte = true then
                            (if 0 + (0 + b.length) ≤ (List.take (b.length * 1) (bys b)).length then
                              (if (List.take (0 + b.length) (List.take (b.length * 1) (bys b))).all isByte = true then
                                (if (!decide (List.map byteD (List.take (0 + b.length) (bys (putR (List.map byteD (List.take (b.length * 1) (bys b))) p 4 (IntKind.u32.wrap v)))) = List.map byteD (List.take (0 + b.length) (List.take (b.length * 1) (bys b))))) = false then
                                  (if 0 + (bOf (hPutsR210 b p v) (AV.sl (some (0, 0)) b.length 0 false) ++ bigR (IntKind.u32.wrap v) 4).length ≤ (bys (bOf (hPutsR210 b p v) (AV.sl (some (0, 0)) b.length 0 false) ++ bigR (IntKind.u32.wrap v) 4)).length then
                                    (if (List.take (bOf (hPutsR210 b p v) (AV.sl (some (0, 0)) b.length 0 false) ++ bigR (IntKind.u32.wrap v) 4).length (bys (bOf (hPutsR210 b p v) (AV.sl (some (0, 0)) b.length 0 false) ++ bigR (IntKind.u32.wrap v) 4))).all isByte = true then
                                      (if 0 + b.length ≤ (bys b).length then
                                        (if (List.take b.length (bys b)).all isByte = true then
                                          (if (List.map byteD (List.take b.length (bys b))).length + (List.map byteD [AV.int IntKind.u8 (((u8i (v.fdiv 16777216)).toNat : Nat) : Int), AV.int IntKind.u8 (((u8i (v.fdiv 65536)).toNat : Nat) : Int), AV.int IntKind.u8 (((u8i (v.fdiv 256)).toNat : Nat) : Int), AV.int IntKind.u8 (((u8i (v.fdiv 1)).toNat : Nat) : Int)]).length ≤ 140737488355328 then
                                            (if (!decide (List.map byteD (List.take (bOf (hPutsR210 b p v) (AV.sl (some (0, 0)) b.length 0 false) ++ bigR (IntKind.u32.wrap v) 4).length (bys (bOf (hPutsR210 b p v) (AV.sl (some (0, 0)) b.length 0 false) ++ bigR (IntKind.u32.wrap v) 4))) = List.map byteD (List.take b.length (bys b)) ++ List.map byteD [AV.int IntKind.u8 (((u8i (v.fdiv 16777216)).toNat : Nat) : Int), AV.int IntKind.u8 (((u8i (v.fdiv 65536)).toNat : Nat) : Int), AV.int IntKind.u8 (((u8i (v.fdiv 256)).toNat : Nat) : Int), AV.int IntKind.u8 (((u8i (v.fdiv 1)).toNat : Nat) : Int)])) = false then
                                              some ((AEx.norm, [AV.sl (some (0, 0)) b.length 0 false, AV.int IntKind.i64 p, AV.int IntKind.u64 v, AV.int IntKind.i64 3], (hPutsR211 b p v)))
                                            else none)
                                          else none)
                                        else none)
                                      else none)
                                    else none)
                                  else none)
                                else none)
                              else none)
                            else none)
                          else none)
                        else none)
                      else none)
                    else none)
                  else none)
                else none)
              else none)
            else none)
          else none)
        else none)
      else none)
    else none) := by
  kernel_rfl

noncomputable def hPutsR220 (b : List UInt8) (p v : Int) : AHeap := [ABlk.cells (bys b) 1 Md.far none, ABlk.dead, ABlk.cells (bys (putR (List.map byteD (List.take (b.length * 1) (bys b))) p 4 (IntKind.u32.wrap v))) 1 Md.own none]
noncomputable def hPutsR221 (b : List UInt8) (p v : Int) : AHeap := [ABlk.cells (bys b) 1 Md.far none, ABlk.dead, ABlk.cells (bys (putR (List.map byteD (List.take (b.length * 1) (bys b))) p 4 (IntKind.u32.wrap v))) 1 Md.own none, ABlk.cells (bys (bOf (hPutsR220 b p v) (AV.sl (some (0, 0)) b.length 0 false) ++ bigR (IntKind.u32.wrap v) 4)) 1 Md.own none, ABlk.cells [] 1 Md.ro none, ABlk.cells (List.take (b.length * 1) (bys b)) 1 Md.own (some 4), ABlk.cells [AV.int IntKind.u8 (((u8i (v.fdiv 16777216)).toNat : Nat) : Int), AV.int IntKind.u8 (((u8i (v.fdiv 65536)).toNat : Nat) : Int), AV.int IntKind.u8 (((u8i (v.fdiv 256)).toNat : Nat) : Int), AV.int IntKind.u8 (((u8i (v.fdiv 1)).toNat : Nat) : Int)] 1 Md.own none]
theorem nfPutsR22 (b : List UInt8) (p v : Int) :
    qround Try.prog t1p 100 4 [(119, .bool false), (129, .bool false), (76, .bool true), (81, .bool false), (58, .bool false)] (autoT Try.prog (deepT Try.prog t1p 100 4) 100 4 (loopIn (bodyOf Try.prog 4) 0)) (loopIn (bodyOf Try.prog 4) 0) mPuts (vPuts b p v 2) [farB b] =
    (if 0 + b.length * 1 ≤ (bys b).length then
      (if (2 * (0 + b.length) + 200) * 1 ≤ 281474976710656 ∧ some 1 = some 1 ∧ 0 + b.length ≤ 70368744177664 then
        (if 0 = 0 ∧ 0 = 0 ∧ (0 < b.length ∨ 0 = 0) ∧ 1 = 1 ∧ (List.take (b.length * 1) (bys b)).all AV.isCell = true then
          (if cdec (0 = 0 ∧ 0 = 0 ∧ false = false ∧ 1 = 1 ∧ 0 + b.length = (List.take (b.length * 1) (bys b)).length ∧ 0 + b.length ≤ 1000000000000 ∧ (List.take (b.length * 1) (bys b)).all isByteR = true ∧ 0 ≤ IntKind.u32.wrap v ∧ IntKind.u32.wrap v < 4294967296 ∧ some 1 ≠ some 2) = true then
            (if decide (0 ≤ p ∧ p + 4 ≤ (((0 + b.length) : Nat) : Int)) = false then
              (if (bOk (hPutsR220 b p v) (AV.sl (some (0, 0)) b.length 0 false) && decide (nOf (AV.sl (some (0, 0)) b.length 0 false) ≤ 100000000000 ∧ 0 ≤ IntKind.u32.wrap v ∧ IntKind.u32.wrap v < 4294967296)) = true then
                (if 0 + b.length * 1 ≤ (bys b).length then
                  (if (2 * (0 + b.length) + 200) * 1 ≤ 281474976710656 ∧ some 1 = some 1 ∧ 0 + b.length ≤ 70368744177664 then
                    (if 0 = 0 ∧ 0 = 0 ∧ (0 < b.length ∨ 0 = 0) ∧ 1 = 1 ∧ (List.take (b.length * 1) (bys b)).all AV.isCell = true then
                      (if decide (p ≥ 0) = true then
                        (if decide (p ≤ (b.length : Int)) = false then
                          (if 0 + (0 + b.length) ≤ (bys (putR (List.map byteD (List.take (b.length * 1) (bys b))) p 4 (IntKind.u32.wrap v))).length then
                            (if (List.take (0 + b.length) (bys (putR (List.map byteD (List.take (b.length * 1) (bys b))) p 4 (IntKind.u32.wrap v)))).all isByte = true then
                              (if 0 + (0 + b.length) ≤ (List.take (b.length * 1) (bys b)).length then
                                (if (List.take (0 + b.length) (List.take (b.length * 1) (bys b))).all isByte = true then
                                  (if (!decide (List.map byteD (List.take (0 + b.length) (bys (putR (List.map byteD (List.take (b.length * 1) (bys b))) p 4 (IntKind.u32.wrap v)))) = List.map byteD (List.take (0 + b.length) (List.take (b.length * 1) (bys b))))) = false then
                                    (if 0 + (bOf (hPutsR220 b p v) (AV.sl (some (0, 0)) b.length 0 false) ++ bigR (IntKind.u32.wrap v) 4).length ≤ (bys (bOf (hPutsR220 b p v) (AV.sl (some (0, 0)) b.length 0 false) ++ bigR (IntKind.u32.wrap v) 4)).length then
                                      (if (List.take (bOf (hPutsR220 b p v) (AV.sl (some (0, 0)) b.length 0 false) ++ bigR (IntKind.u32.wrap v) 4).length (bys (bOf (hPutsR220 b p v) (AV.sl (some (0, 0)) b.length 0 false) ++ bigR (IntKind.u32.wrap v) 4))).all isByte = true then
                                        (if 0 + b.length ≤ (bys b).length then
                                          (if (List.take b.length (bys b)).all isByte = true then
                                            (if (List.map byteD (List.take b.length (bys b))).length + (List.map byteD [AV.int IntKind.u8 (((u8i (v.fdiv 16777216)).toNat : Nat) : Int), AV.int IntKind.u8 (((u8i (v.fdiv 65536)).toNat : Nat) : Int), AV.int IntKind.u8 (((u8i (v.fdiv 256)).toNat : Nat) : Int), AV.int IntKind.u8 (((u8i (v.fdiv 1)).toNat : Nat) : Int)]).length ≤ 140737488355328 then
                                              (if (!decide (List.map byteD (List.take (bOf (hPutsR220 b p v) (AV.sl (some (0, 0)) b.length 0 false) ++ bigR (IntKind.u32.wrap v) 4).length (bys (bOf (hPutsR220 b p v) (AV.sl (some (0, 0)) b.length 0 false) ++ bigR (IntKind.u32.wrap v) 4))) = List.map byteD (List.take b.length (bys b)) ++ List.map byteD [AV.int IntKind.u8 (((u8i (v.fdiv 16777216)).toNat : Nat) : Int), AV.int IntKind.u8 (((u8i (v.fdiv 65536)).toNat : Nat) : Int), AV.int IntKind.u8 (((u8i (v.fdiv 256)).toNat : Nat) : Int), AV.int IntKind.u8 (((u8i (v.fdiv 1)).toNat : Nat) : Int)])) = false then
                                                some ((AEx.norm, [AV.sl (some (0, 0)) b.length 0 false, AV.int IntKind.i64 p, AV.int IntKind.u64 v, AV.int IntKind.i64 3], (hPutsR221 b p v)))
                                              else none)
                                            else none)
                                          else none)
                                        else none)
                                      else none)
                                    else none)
                                  else none)
                                else none)
                              else none)
                            else none)
                          else none)
                        else none)
                      else none)
                    else none)
                  else none)
                else none)
              else none)
            else none)
          else none)
        else none)
      else none)
    else none) := by
  kernel_rfl

noncomputable def hPutsR230 (b : List UInt8) (p v : Int) : AHeap := [ABlk.cells (bys b) 1 Md.far none, ABlk.dead, ABlk.cells (bys (putR (List.map byteD (List.take (b.length * 1) (bys b))) p 4 (IntKind.u32.wrap v))) 1 Md.own none]
noncomputable def hPutsR231 (b : List UInt8) (p v : Int) : AHeap := [ABlk.cells (bys b) 1 Md.far none, ABlk.dead, ABlk.cells (bys (putR (List.map byteD (List.take (b.length * 1) (bys b))) p 4 (IntKind.u32.wrap v))) 1 Md.own none, ABlk.cells (bys (bOf (hPutsR230 b p v) (AV.sl (some (0, 0)) b.length 0 false) ++ bigR (IntKind.u32.wrap v) 4)) 1 Md.own none, ABlk.cells [] 1 Md.ro none, ABlk.cells (List.take (b.length * 1) (bys b)) 1 Md.own (some 4), ABlk.cells [AV.int IntKind.u8 (((u8i (v.fdiv 16777216)).toNat : Nat) : Int), AV.int IntKind.u8 (((u8i (v.fdiv 65536)).toNat : Nat) : Int), AV.int IntKind.u8 (((u8i (v.fdiv 256)).toNat : Nat) : Int), AV.int IntKind.u8 (((u8i (v.fdiv 1)).toNat : Nat) : Int)] 1 Md.own none]
theorem nfPutsR23 (b : List UInt8) (p v : Int) :
    qround Try.prog t1p 100 4 [(119, .bool false), (129, .bool false), (76, .bool true), (81, .bool true), (89, .bool false), (58, .bool false)] (autoT Try.prog (deepT Try.prog t1p 100 4) 100 4 (loopIn (bodyOf Try.prog 4) 0)) (loopIn (bodyOf Try.prog 4) 0) mPuts (vPuts b p v 2) [farB b] =
    (if 0 + b.length * 1 ≤ (bys b).length then
      (if (2 * (0 + b.length) + 200) * 1 ≤ 281474976710656 ∧ some 1 = some 1 ∧ 0 + b.length ≤ 70368744177664 then
        (if 0 = 0 ∧ 0 = 0 ∧ (0 < b.length ∨ 0 = 0) ∧ 1 = 1 ∧ (List.take (b.length * 1) (bys b)).all AV.isCell = true then
          (if cdec (0 = 0 ∧ 0 = 0 ∧ false = false ∧ 1 = 1 ∧ 0 + b.length = (List.take (b.length * 1) (bys b)).length ∧ 0 + b.length ≤ 1000000000000 ∧ (List.take (b.length * 1) (bys b)).all isByteR = true ∧ 0 ≤ IntKind.u32.wrap v ∧ IntKind.u32.wrap v < 4294967296 ∧ some 1 ≠ some 2) = true then
            (if decide (0 ≤ p ∧ p + 4 ≤ (((0 + b.length) : Nat) : Int)) = false then
              (if (bOk (hPutsR230 b p v) (AV.sl (some (0, 0)) b.length 0 false) && decide (nOf (AV.sl (some (0, 0)) b.length 0 false) ≤ 100000000000 ∧ 0 ≤ IntKind.u32.wrap v ∧ IntKind.u32.wrap v < 4294967296)) = true then
                (if 0 + b.length * 1 ≤ (bys b).length then
                  (if (2 * (0 + b.length) + 200) * 1 ≤ 281474976710656 ∧ some 1 = some 1 ∧ 0 + b.length ≤ 70368744177664 then
                    (if 0 = 0 ∧ 0 = 0 ∧ (0 < b.length ∨ 0 = 0) ∧ 1 = 1 ∧ (List.take (b.length * 1) (bys b)).all AV.isCell = true then
                      (if decide (p ≥ 0) = true then
                        (if decide (p ≤ (b.length : Int)) = true then
                          (if decide (IntKind.i64.wrap ((b.length : Int) - p) ≥ 4) = false then
                            (if 0 + (0 + b.length) ≤ (bys (putR (List.map byteD (List.take (b.length * 1) (bys b))) p 4 (IntKind.u32.wrap v))).length then
                              (if (List.take (0 + b.length) (bys (putR (List.map byteD (List.take (b.length * 1) (bys b))) p 4 (IntKind.u32.wrap v)))).all isByte = true then
                                (if 0 + (0 + b.length) ≤ (List.take (b.length * 1) (bys b)).length then
                                  (if (List.take (0 + b.length) (List.take (b.length * 1) (bys b))).all isByte = true then
                                    (if (!decide (List.map byteD (List.take (0 + b.length) (bys (putR (List.map byteD (List.take (b.length * 1) (bys b))) p 4 (IntKind.u32.wrap v)))) = List.map byteD (List.take (0 + b.length) (List.take (b.length * 1) (bys b))))) = false then
                                      (if 0 + (bOf (hPutsR230 b p v) (AV.sl (some (0, 0)) b.length 0 false) ++ bigR (IntKind.u32.wrap v) 4).length ≤ (bys (bOf (hPutsR230 b p v) (AV.sl (some (0, 0)) b.length 0 false) ++ bigR (IntKind.u32.wrap v) 4)).length then
                                        (if (List.take (bOf (hPutsR230 b p v) (AV.sl (some (0, 0)) b.length 0 false) ++ bigR (IntKind.u32.wrap v) 4).length (bys (bOf (hPutsR230 b p v) (AV.sl (some (0, 0)) b.length 0 false) ++ bigR (IntKind.u32.wrap v) 4))).all isByte = true then
                                          (if 0 + b.length ≤ (bys b).length then
                                            (if (List.take b.length (bys b)).all isByte = true then
                                              (if (List.map byteD (List.take b.length (bys b))).length + (List.map byteD [AV.int IntKind.u8 (((u8i (v.fdiv 16777216)).toNat : Nat) : Int), AV.int IntKind.u8 (((u8i (v.fdiv 65536)).toNat : Nat) : Int), AV.int IntKind.u8 (((u8i (v.fdiv 256)).toNat : Nat) : Int), AV.int IntKind.u8 (((u8i (v.fdiv 1)).toNat : Nat) : Int)]).length ≤ 140737488355328 then
                                                (if (!decide (List.map byteD (List.take (bOf (hPutsR230 b p v) (AV.sl (some (0, 0)) b.length 0 false) ++ bigR (IntKind.u32.wrap v) 4).length (bys (bOf (hPutsR230 b p v) (AV.sl (some (0, 0)) b.length 0 false) ++ bigR (IntKind.u32.wrap v) 4))) = List.map byteD (List.take b.length (bys b)) ++ List.map byteD [AV.int IntKind.u8 (((u8i (v.fdiv 16777216)).toNat : Nat) : Int), AV.int IntKind.u8 (((u8i (v.fdiv 65536)).toNat : Nat) : Int), AV.int IntKind.u8 (((u8i (v.fdiv 256)).toNat : Nat) : Int), AV.int IntKind.u8 (((u8i (v.fdiv 1)).toNat : Nat) : Int)])) = false then
                                                  some ((AEx.norm, [AV.sl (some (0, 0)) b.length 0 false, AV.int IntKind.i64 p, AV.int IntKind.u64 v, AV.int IntKind.i64 3], (hPutsR231 b p v)))
                                                else none)
                                              else none)
                                            else none)
                                          else none)
                                        else none)
                                      else none)
                                    else none)
                                  else none)
                                else none)
                              else none)
                            else none)
                          else none)
                        else none)
                      else none)
                    else none)
                  else none)
                else none)
              else none)
            else none)
          else none)
        else none)
      else none)
    else none) := by
  kernel_rfl

noncomputable def hPutsR300 (b : List UInt8) (p v : Int) : AHeap := [ABlk.cells (bys b) 1 Md.far none, ABlk.dead, ABlk.cells (bys (putR (List.map byteD (List.take (b.length * 1) (bys b))) p 8 v)) 1 Md.own none]
noncomputable def hPutsR301 (b : List UInt8) (p v : Int) : AHeap := [ABlk.cells (bys b) 1 Md.far none, ABlk.dead, ABlk.cells (bys (putR (List.map byteD (List.take (b.length * 1) (bys b))) p 8 v)) 1 Md.own none, ABlk.cells (bys (bOf (hPutsR300 b p v) (AV.sl (some (0, 0)) b.length 0 false) ++ bigR v 8)) 1 Md.own none, ABlk.dead, ABlk.cells (putCells (putCells (putCells (putCells (putCells (putCells (putCells (putCells (List.take (b.length * 1) (bys b)) (0 + (IntKind.i64.wrap (p + 0)).toNat * 1) [AV.int IntKind.u8 (intV (some (AV.int IntKind.u8 (((u8i (v.fdiv 72057594037927936)).toNat : Nat) : Int))))]) (0 + (IntKind.i64.wrap (p + 1)).toNat * 1) [AV.int IntKind.u8 (intV (some (AV.int IntKind.u8 (((u8i (v.fdiv 281474976710656)).toNat : Nat) : Int))))]) (0 + (IntKind.i64.wrap (p + 2)).toNat * 1) [AV.int IntKind.u8 (intV (some (AV.int IntKind.u8 (((u8i (v.fdiv 1099511627776)).toNat : Nat) : Int))))]) (0 + (IntKind.i64.wrap (p + 3)).toNat * 1) [AV.int IntKind.u8 (intV (some (AV.int IntKind.u8 (((u8i (v.fdiv 4294967296)).toNat : Nat) : Int))))]) (0 + (IntKind.i64.wrap (p + 4)).toNat * 1) [AV.int IntKind.u8 (intV (some (AV.int IntKind.u8 (((u8i (v.fdiv 16777216)).toNat : Nat) : Int))))]) (0 + (IntKind.i64.wrap (p + 5)).toNat * 1) [AV.int IntKind.u8 (intV (some (AV.int IntKind.u8 (((u8i (v.fdiv 65536)).toNat : Nat) : Int))))]) (0 + (IntKind.i64.wrap (p + 6)).toNat * 1) [AV.int IntKind.u8 (intV (some (AV.int IntKind.u8 (((u8i (v.fdiv 256)).toNat : Nat) : Int))))]) (0 + (IntKind.i64.wrap (p + 7)).toNat * 1) [AV.int IntKind.u8 (intV (some (AV.int IntKind.u8 (((u8i (v.fdiv 1)).toNat : Nat) : Int))))]) 1 Md.own none, ABlk.cells [AV.int IntKind.u8 (((u8i (v.fdiv 72057594037927936)).toNat : Nat) : Int), AV.int IntKind.u8 (((u8i (v.fdiv 281474976710656)).toNat : Nat) : Int), AV.int IntKind.u8 (((u8i (v.fdiv 1099511627776)).toNat : Nat) : Int), AV.int IntKind.u8 (((u8i (v.fdiv 4294967296)).toNat : Nat) : Int), AV.int IntKind.u8 (((u8i (v.fdiv 16777216)).toNat : Nat) : Int), AV.int IntKind.u8 (((u8i (v.fdiv 65536)).toNat : Nat) : Int), AV.int IntKind.u8 (((u8i (v.fdiv 256)).toNat : Nat) : Int), AV.int IntKind.u8 (((u8i (v.fdiv 1)).toNat : Nat) : Int)] 1 Md.own none]
theorem nfPutsR30 (b : List UInt8) (p v : Int) :
    qround Try.prog t1p 100 4 [(119, .bool false), (129, .bool false), (76, .bool true), (81, .bool true), (89, .bool true), (68, .bool true)] (autoT Try.prog (deepT Try.prog t1p 100 4) 100 4 (loopIn (bodyOf Try.prog 4) 0)) (loopIn (bodyOf Try.prog 4) 0) mPuts (vPuts b p v 3) [farB b] =
    (if 0 + b.length * 1 ≤ (bys b).length then
      (if (2 * (0 + b.length) + 200) * 1 ≤ 281474976710656 ∧ some 1 = some 1 ∧ 0 + b.length ≤ 70368744177664 then
        (if 0 = 0 ∧ 0 = 0 ∧ (0 < b.length ∨ 0 = 0) ∧ 1 = 1 ∧ (List.take (b.length * 1) (bys b)).all AV.isCell = true then
          (if cdec (0 = 0 ∧ 0 = 0 ∧ false = false ∧ 1 = 1 ∧ 0 + b.length = (List.take (b.length * 1) (bys b)).length ∧ 0 + b.length ≤ 1000000000000 ∧ (List.take (b.length * 1) (bys b)).all isByteR = true ∧ 0 ≤ v ∧ v < 18446744073709551616 ∧ some 1 ≠ some 2) = true then
            (if decide (0 ≤ p ∧ p + 8 ≤ (((0 + b.length) : Nat) : Int)) = true then
              (if (bOk (hPutsR300 b p v) (AV.sl (some (0, 0)) b.length 0 false) && decide (nOf (AV.sl (some (0, 0)) b.length 0 false) ≤ 100000000000 ∧ 0 ≤ v ∧ v < 18446744073709551616)) = true then
                (if 0 + b.length * 1 ≤ (bys b).length then
                  (if (2 * (0 + b.length) + 200) * 1 ≤ 281474976710656 ∧ some 1 = some 1 ∧ 0 + b.length ≤ 70368744177664 then
                    (if 0 = 0 ∧ 0 = 0 ∧ (0 < b.length ∨ 0 = 0) ∧ 1 = 1 ∧ (List.take (b.length * 1) (bys b)).all AV.isCell = true then
                      (if decide (p ≥ 0) = true then
                        (if decide (p ≤ (b.length : Int)) = true then
                          (if decide (IntKind.i64.wrap ((b.length : Int) - p) ≥ 8) = true then
                            (if 0 ≤ IntKind.i64.wrap (p + 0) ∧ IntKind.i64.wrap (p + 0) < (((0 + b.length) : Nat) : Int) then
                              (if 0 + (IntKind.i64.wrap (p + 0)).toNat * 1 + [AV.int IntKind.u8 (intV (some (AV.int IntKind.u8 (((u8i (v.fdiv 72057594037927936)).toNat : Nat) : Int))))].length ≤ (List.take (b.length * 1) (bys b)).length ∧ [AV.int IntKind.u8 (intV (some (AV.int IntKind.u8 (((u8i (v.fdiv 72057594037927936)).toNat : Nat) : Int))))].all AV.isCell = true then
                                (if 0 ≤ IntKind.i64.wrap (p + 1) ∧ IntKind.i64.wrap (p + 1) < (((0 + b.length) : Nat) : Int) then
                                  (if 0 + (IntKind.i64.wrap (p + 1)).toNat * 1 + [AV.int IntKind.u8 (intV (some (AV.int IntKind.u8 (((u8i (v.fdiv 281474976710656)).toNat : Nat) : Int))))].length ≤ (putCells (List.take (b.length * 1) (bys b)) (0 + (IntKind.i64.wrap (p + 0)).toNat * 1) [AV.int IntKind.u8 (intV (some (AV.int IntKind.u8 (((u8i (v.fdiv 72057594037927936)).toNat : Nat) : Int))))]).length ∧ [AV.int IntKind.u8 (intV (some (AV.int IntKind.u8 (((u8i (v.fdiv 281474976710656)).toNat : Nat) : Int))))].all AV.isCell = true then
                                    (if 0 ≤ IntKind.i64.wrap (p + 2) ∧ IntKind.i64.wrap (p + 2) < (((0 + b.length) : Nat) : Int) then
                                      (if 0 + (IntKind.i64.wrap (p + 2)).toNat * 1 + [AV.int IntKind.u8 (intV (some (AV.int IntKind.u8 (((u8i (v.fdiv 1099511627776)).toNat : Nat) : Int))))].length ≤ (putCells (putCells (List.take (b.length * 1) (bys b)) (0 + (IntKind.i64.wrap (p + 0)).toNat * 1) [AV.int IntKind.u8 (intV (some (AV.int IntKind.u8 (((u8i (v.fdiv 72057594037927936)).toNat : Nat) : Int))))]) (0 + (IntKind.i64.wrap (p + 1)).toNat * 1) [AV.int IntKind.u8 (intV (some (AV.int IntKind.u8 (((u8i (v.fdiv 281474976710656)).toNat : Nat) : Int))))]).length ∧ [AV.int IntKind.u8 (intV (some (AV.int IntKind.u8 (((u8i (v.fdiv 1099511627776)).toNat : Nat) : Int))))].all AV.isCell = true then
                                        (if 0 ≤ IntKind.i64.wrap (p + 3) ∧ IntKind.i64.wrap (p + 3) < (((0 + b.length) : Nat) : Int) then
                                          (if 0 + (IntKind.i64.wrap (p + 3)).toNat * 1 + [AV.int IntKind.u8 (intV (some (AV.int IntKind.u8 (((u8i (v.fdiv 4294967296)).toNat : Nat) : Int))))].length ≤ (putCells (putCells (putCells (List.take (b.length * 1) (bys b)) (0 + (IntKind.i64.wrap (p + 0)).toNat * 1) [AV.int IntKind.u8 (intV (some (AV.int IntKind.u8 (((u8i (v.fdiv 72057594037927936)).toNat : Nat) : Int))))]) (0 + (IntKind.i64.wrap (p + 1)).toNat * 1) [AV.int IntKind.u8 (intV (some (AV.int IntKind.u8 (((u8i (v.fdiv 281474976710656)).toNat : Nat) : Int))))]) (0 + (IntKind.i64.wrap (p + 2)).toNat * 1) [AV.int IntKind.u8 (intV (some (AV.int IntKind.u8 (((u8i (v.fdiv 1099511627776)).toNat : Nat) : Int))))]).length ∧ [AV.int IntKind.u8 (intV (some (AV.int IntKind.u8 (((u8i (v.fdiv 4294967296)).toNat : Nat) : Int))))].all AV.isCell = true then
                                            (if 0 ≤ IntKind.i64.wrap (p + 4) ∧ IntKind.i64.wrap (p + 4) < (((0 + b.length) : Nat) : Int) then
                                              (if 0 + (IntKind.i64.wrap (p + 4)).toNat * 1 + [AV.int IntKind.u8 (intV (some (AV.int IntKind.u8 (((u8i (v.fdiv 16777216)).toNat : Nat) : Int))))].length ≤ (putCells (putCells (putCells (putCells (List.take (b.length * 1) (bys b)) (0 + (IntKind.i64.wrap (p + 0)).toNat * 1) [AV.int IntKind.u8 (intV (some (AV.int IntKind.u8 (((u8i (v.fdiv 72057594037927936)).toNat : Nat) : Int))))]) (0 + (IntKind.i64.wrap (p + 1)).toNat * 1) [AV.int IntKind.u8 (intV (some (AV.int IntKind.u8 (((u8i (v.fdiv 281474976710656)).toNat : Nat) : Int))))]) (0 + (IntKind.i64.wrap (p + 2)).toNat * 1) [AV.int IntKind.u8 (intV (some (AV.int IntKind.u8 (((u8i (v.fdiv 1099511627776)).toNat : Nat) : Int))))]) (0 + (IntKind.i64.wrap (p + 3)).toNat * 1) [AV.int IntKind.u8 (intV (some (AV.int IntKind.u8 (((u8i (v.fdiv 4294967296)).toNat : Nat) : Int))))]).length ∧ [AV.int IntKind.u8 (intV (some (AV.int IntKind.u8 (((u8i (v.fdiv 16777216)).toNat : Nat) : Int))))].all AV.isCell = true then
                                                (if 0 ≤ IntKind.i64.wrap (p + 5) ∧ IntKind.i64.wrap (p + 5) < (((0 + b.length) : Nat) : Int) then
                                                  (if 0 + (IntKind.i64.wrap (p + 5)).toNat * 1 + [AV.int IntKind.u8 (intV (some (AV.int IntKind.u8 (((u8i (v.fdiv 65536)).toNat : Nat) : Int))))].length ≤ (putCells (putCells (putCells (putCells (putCells (List.take (b.length * 1) (bys b)) (0 + (IntKind.i64.wrap (p + 0)).toNat * 1) [AV.int IntKind.u8 (intV (some (AV.int IntKind.u8 (((u8i (v.fdiv 72057594037927936)).toNat : Nat) : Int))))]) (0 + (IntKind.i64.wrap (p + 1)).toNat * 1) [AV.int IntKind.u8 (intV (some (AV.int IntKind.u8 (((u8i (v.fdiv 281474976710656)).toNat : Nat) : Int))))]) (0 + (IntKind.i64.wrap (p + 2)).toNat * 1) [AV.int IntKind.u8 (intV (some (AV.int IntKind.u8 (((u8i (v.fdiv 1099511627776)).toNat : Nat) : Int))))]) (0 + (IntKind.i64.wrap (p + 3)).toNat * 1) [AV.int IntKind.u8 (intV (some (AV.int IntKind.u8 (((u8i (v.fdiv 4294967296)).toNat : Nat) : Int))))]) (0 + (IntKind.i64.wrap (p + 4)).toNat * 1) [AV.int IntKind.u8 (intV (some (AV.int IntKind.u8 (((u8i (v.fdiv 16777216)).toNat : Nat) : Int))))]).length ∧ [AV.int IntKind.u8 (intV (some (AV.int IntKind.u8 (((u8i (v.fdiv 65536)).toNat : Nat) : Int))))].all AV.isCell = true then
                                                    (if 0 ≤ IntKind.i64.wrap (p + 6) ∧ IntKind.i64.wrap (p + 6) < (((0 + b.length) : Nat) : Int) then
                                                      (if 0 + (IntKind.i64.wrap (p + 6)).toNat * 1 + [AV.int IntKind.u8 (intV (some (AV.int IntKind.u8 (((u8i (v.fdiv 256)).toNat : Nat) : Int))))].length ≤ (putCells (putCells (putCells (putCells (putCells (putCells (List.take (b.length * 1) (bys b)) (0 + (IntKind.i64.wrap (p + 0)).toNat * 1) [AV.int IntKind.u8 (intV (some (AV.int IntKind.u8 (((u8i (v.fdiv 72057594037927936)).toNat : Nat) : Int))))]) (0 + (IntKind.i64.wrap (p + 1)).toNat * 1) [AV.int IntKind.u8 (intV (some (AV.int IntKind.u8 (((u8i (v.fdiv 281474976710656)).toNat : Nat) : Int))))]) (0 + (IntKind.i64.wrap (p + 2)).toNat * 1) [AV.int IntKind.u8 (intV (some (AV.int IntKind.u8 (((u8i (v.fdiv 1099511627776)).toNat : Nat) : Int))))]) (0 + (IntKind.i64.wrap (p + 3)).toNat * 1) [AV.int IntKind.u8 (intV (some (AV.int IntKind.u8 (((u8i (v.fdiv 4294967296)).toNat : Nat) : Int))))]) (0 + (IntKind.i64.wrap (p + 4)).toNat * 1) [AV.int IntKind.u8 (intV (some (AV.int IntKind.u8 (((u8i (v.fdiv 16777216)).toNat : Nat) : Int))))]) (0 + (IntKind.i64.wrap (p + 5)).toNat * 1) [AV.int IntKind.u8 (intV (some (AV.int IntKind.u8 (((u8i (v.fdiv 65536)).toNat : Nat) : Int))))]).length ∧ [AV.int IntKind.u8 (intV (some (AV.int IntKind.u8 (((u8i (v.fdiv 256)).toNat : Nat) : Int))))].all AV.isCell = true then
                                                        (if 0 ≤ IntKind.i64.wrap (p + 7) ∧ IntKind.i64.wrap (p + 7) < (((0 + b.length) : Nat) : Int) then
                                                          (if 0 + (IntKind.i64.wrap (p + 7)).toNat * 1 + [AV.int IntKind.u8 (intV (some (AV.int IntKind.u8 (((u8i (v.fdiv 1)).toNat : Nat) : Int))))].length ≤ (putCells (putCells (putCells (putCells (putCells (putCells (putCells (List.take (b.length * 1) (bys b)) (0 + (IntKind.i64.wrap (p + 0)).toNat * 1) [AV.int IntKind.u8 (intV (some (AV.int IntKind.u8 (((u8i (v.fdiv 72057594037927936)).toNat : Nat) : Int))))]) (0 + (IntKind.i64.wrap (p + 1)).toNat * 1) [AV.int IntKind.u8 (intV (some (AV.int IntKind.u8 (((u8i (v.fdiv 281474976710656)).toNat : Nat) : Int))))]) (0 + (IntKind.i64.wrap (p + 2)).toNat * 1) [AV.int IntKind.u8 (intV (some (AV.int IntKind.u8 (((u8i (v.fdiv 1099511627776)).toNat : Nat) : Int))))]) (0 + (IntKind.i64.wrap (p + 3)).toNat * 1) [AV.int IntKind.u8 (intV (some (AV.int IntKind.u8 (((u8i (v.fdiv 4294967296)).toNat : Nat) : Int))))]) (0 + (IntKind.i64.wrap (p + 4)).toNat * 1) [AV.int IntKind.u8 (intV (some (AV.int IntKind.u8 (((u8i (v.fdiv 16777216)).toNat : Nat) : Int))))]) (0 + (IntKind.i64.wrap (p + 5)).toNat * 1) [AV.int IntKind.u8 (intV (some (AV.int IntKind.u8 (((u8i (v.fdiv 65536)).toNat : Nat) : Int))))]) (0 + (IntKind.i64.wrap (p + 6)).toNat * 1) [AV.int IntKind.u8 (intV (some (AV.int IntKind.u8 (((u8i (v.fdiv 256)).toNat : Nat) : Int))))]).length ∧ [AV.int IntKind.u8 (intV (some (AV.int IntKind.u8 (((u8i (v.fdiv 1)).toNat : Nat) : Int))))].all AV.isCell = true then
                                                            (if 0 + (0 + b.length) ≤ (bys (putR (List.map byteD (List.take (b.length * 1) (bys b))) p 8 v)).length then
                                                              (if (List.take (0 + b.length) (bys (putR (List.map byteD (List.take (b.length * 1) (bys b))) p 8 v))).all isByte = true then
                                                                (if 0 + (0 + b.length) ≤ (putCells (putCells (putCells (putCells (putCells (putCells (putCells (putCells (List.take (b.length * 1) (bys b)) (0 + (IntKind.i64.wrap (p + 0)).toNat * 1) [AV.int IntKind.u8 (intV (some (AV.int IntKind.u8 (((u8i (v.fdiv 72057594037927936)).toNat : Nat) : Int))))]) (0 + (IntKind.i64.wrap (p + 1)).toNat * 1) [AV.int IntKind.u8 (intV (some (AV.int IntKind.u8 (((u8i (v.fdiv 281474976710656)).toNat : Nat) : Int))))]) (0 + (IntKind.i64.wrap (p + 2)).toNat * 1) [AV.int IntKind.u8 (intV (some (AV.int IntKind.u8 (((u8i (v.fdiv 1099511627776)).toNat : Nat) : Int))))]) (0 + (IntKind.i64.wrap (p + 3)).toNat * 1) [AV.int IntKind.u8 (intV (some (AV.int IntKind.u8 (((u8i (v.fdiv 4294967296)).toNat : Nat) : Int))))]) (0 + (IntKind.i64.wrap (p + 4)).toNat * 1) [AV.int IntKind.u8 (intV (some (AV.int IntKind.u8 (((u8i (v.fdiv 16777216)).toNat : Nat) : Int))))]) (0 + (IntKind.i64.wrap (p + 5)).toNat * 1) [AV.int IntKind.u8 (intV (some (AV.int IntKind.u8 (((u8i (v.fdiv 65536)).toNat : Nat) : Int))))]) (0 + (IntKind.i64.wrap (p + 6)).toNat * 1) [AV.int IntKind.u8 (intV (some (AV.int IntKind.u8 (((u8i (v.fdiv 256)).toNat : Nat) : Int))))]) (0 + (IntKind.i64.wrap (p + 7)).toNat * 1) [AV.int IntKind.u8 (intV (some (AV.int IntKind.u8 (((u8i (v.fdiv 1)).toNat : Nat) : Int))))]).length then
                                                                  (if (List.take (0 + b.length) (putCells (putCells (putCells (putCells (putCells (putCells (putCells (putCells (List.take (b.length * 1) (bys b)) (0 + (IntKind.i64.wrap (p + 0)).toNat * 1) [AV.int IntKind.u8 (intV (some (AV.int IntKind.u8 (((u8i (v.fdiv 72057594037927936)).toNat : Nat) : Int))))]) (0 + (IntKind.i64.wrap (p + 1)).toNat * 1) [AV.int IntKind.u8 (intV (some (AV.int IntKind.u8 (((u8i (v.fdiv 281474976710656)).toNat : Nat) : Int))))]) (0 + (IntKind.i64.wrap (p + 2)).toNat * 1) [AV.int IntKind.u8 (intV (some (AV.int IntKind.u8 (((u8i (v.fdiv 1099511627776)).toNat : Nat) : Int))))]) (0 + (IntKind.i64.wrap (p + 3)).toNat * 1) [AV.int IntKind.u8 (intV (some (AV.int IntKind.u8 (((u8i (v.fdiv 4294967296)).toNat : Nat) : Int))))]) (0 + (IntKind.i64.wrap (p + 4)).toNat * 1) [AV.int IntKind.u8 (intV (some (AV.int IntKind.u8 (((u8i (v.fdiv 16777216)).toNat : Nat) : Int))))]) (0 + (IntKind.i64.wrap (p + 5)).toNat * 1) [AV.int IntKind.u8 (intV (some (AV.int IntKind.u8 (((u8i (v.fdiv 65536)).toNat : Nat) : Int))))]) (0 + (IntKind.i64.wrap (p + 6)).toNat * 1) [AV.int IntKind.u8 (intV (some (AV.int IntKind.u8 (((u8i (v.fdiv 256)).toNat : Nat) : Int))))]) (0 + (IntKind.i64.wrap (p + 7)).toNat * 1) [AV.int IntKind.u8 (intV (some (AV.int IntKind.u8 (((u8i (v.fdiv 1)).toNat : Nat) : Int))))])).all isByte = true then
                                                                    (if (!decide (List.map byteD (List.take (0 + b.length) (bys (putR (List.map byteD (List.take (b.length * 1) (bys b))) p 8 v))) = List.map byteD (List.take (0 + b.length) (putCells (putCells (putCells (putCells (putCells (putCells (putCells (putCells (List.take (b.length * 1) (bys b)) (0 + (IntKind.i64.wrap (p + 0)).toNat * 1) [AV.int IntKind.u8 (intV (some (AV.int IntKind.u8 (((u8i (v.fdiv 72057594037927936)).toNat : Nat) : Int))))]) (0 + (IntKind.i64.wrap (p + 1)).toNat * 1) [AV.int IntKind.u8 (intV (some (AV.int IntKind.u8 (((u8i (v.fdiv 281474976710656)).toNat : Nat) : Int))))]) (0 + (IntKind.i64.wrap (p + 2)).toNat * 1) [AV.int IntKind.u8 (intV (some (AV.int IntKind.u8 (((u8i (v.fdiv 1099511627776)).toNat : Nat) : Int))))]) (0 + (IntKind.i64.wrap (p + 3)).toNat * 1) [AV.int IntKind.u8 (intV (some (AV.int IntKind.u8 (((u8i (v.fdiv 4294967296)).toNat : Nat) : Int))))]) (0 + (IntKind.i64.wrap (p + 4)).toNat * 1) [AV.int IntKind.u8 (intV (some (AV.int IntKind.u8 (((u8i (v.fdiv 16777216)).toNat : Nat) : Int))))]) (0 + (IntKind.i64.wrap (p + 5)).toNat * 1) [AV.int IntKind.u8 (intV (some (AV.int IntKind.u8 (((u8i (v.fdiv 65536)).toNat : Nat) : Int))))]) (0 + (IntKind.i64.wrap (p + 6)).toNat * 1) [AV.int IntKind.u8 (intV (some (AV.int IntKind.u8 (((u8i (v.fdiv 256)).toNat : Nat) : Int))))]) (0 + (IntKind.i64.wrap (p + 7)).toNat * 1) [AV.int IntKind.u8 (intV (some (AV.int IntKind.u8 (((u8i (v.fdiv 1)).toNat : Nat) : Int))))])))) = false then
                                                                      (if 0 + (bOf (hPutsR300 b p v) (AV.sl (some (0, 0)) b.length 0 false) ++ bigR v 8).length ≤ (bys (bOf (hPutsR300 b p v) (AV.sl (some (0, 0)) b.length 0 false) ++ bigR v 8)).length then
                                                                        (if (List.take (bOf (hPutsR300 b p v) (AV.sl (some (0, 0)) b.length 0 false) ++ bigR v 8).length (bys (bOf (hPutsR300 b p v) (AV.sl (some (0, 0)) b.length 0 false) ++ bigR v 8))).all isByte = true then
                                                                          (if 0 + b.length ≤ (bys b).length then
                                                                            (if (List.take b.length (bys b)).all isByte = true then
                                                                              (if (List.map byteD (List.take b.length (bys b))).length + (List.map byteD [AV.int IntKind.u8 (((u8i (v.fdiv 72057594037927936)).toNat : Nat) : Int), AV.int IntKind.u8 (((u8i (v.fdiv 281474976710656)).toNat : Nat) : Int), AV.int IntKind.u8 (((u8i (v.fdiv 1099511627776)).toNat : Nat) : Int), AV.int IntKind.u8 (((u8i (v.fdiv 4294967296)).toNat : Nat) : Int), AV.int IntKind.u8 (((u8i (v.fdiv 16777216)).toNat : Nat) : Int), AV.int IntKind.u8 (((u8i (v.fdiv 65536)).toNat : Nat) : Int), AV.int IntKind.u8 (((u8i (v.fdiv 256)).toNat : Nat) : Int), AV.int IntKind.u8 (((u8i (v.fdiv 1)).toNat : Nat) : Int)]).length ≤ 140737488355328 then
                                                                                (if (!decide (List.map byteD (List.take (bOf (hPutsR300 b p v) (AV.sl (some (0, 0)) b.length 0 false) ++ bigR v 8).length (bys (bOf (hPutsR300 b p v) (AV.sl (some (0, 0)) b.length 0 false) ++ bigR v 8))) = List.map byteD (List.take b.length (bys b)) ++ List.map byteD [AV.int IntKind.u8 (((u8i (v.fdiv 72057594037927936)).toNat : Nat) : Int), AV.int IntKind.u8 (((u8i (v.fdiv 281474976710656)).toNat : Nat) : Int), AV.int IntKind.u8 (((u8i (v.fdiv 1099511627776)).toNat : Nat) : Int), AV.int IntKind.u8 (((u8i (v.fdiv 4294967296)).toNat : Nat) : Int), AV.int IntKind.u8 (((u8i (v.fdiv 16777216)).toNat : Nat) : Int), AV.int IntKind.u8 (((u8i (v.fdiv 65536)).toNat : Nat) : Int), AV.int IntKind.u8 (((u8i (v.fdiv 256)).toNat : Nat) : Int), AV.int IntKind.u8 (((u8i (v.fdiv 1)).toNat : Nat) : Int)])) = false then
                                                                                  some ((AEx.norm, [AV.sl (some (0, 0)) b.length 0 false, AV.int IntKind.i64 p, AV.int IntKind.u64 v, AV.int IntKind.i64 4], (hPutsR301 b p v)))
                                                                                else none)
                                                                              else none)
                                                                            else none)
                                                                          else none)
                                                                        else none)
                                                                      else none)
                                                                    else none)
                                                                  else none)
                                                                else none)
                                                              else none)
                                                            else none)
                                                          else none)
                                                        else none)
                                                      else none)
                                                    else none)
                                                  else none)
                                                else none)
                                              else none)
                                            else none)
                                          else none)
                                        else none)
                                      else none)
                                    else none)
                                  else none)
                                else none)
                              else none)
                            else none)
                          else none)
                        else none)
                      else none)
                    else none)
                  else none)
                else none)
              else none)
            else none)
          else none)
        else none)
      else none)
    else none) := by
  kernel_rfl

noncomputable def hPutsR310 (b : List UInt8) (p v : Int) : AHeap := [ABlk.cells (bys b) 1 Md.far none, ABlk.dead, ABlk.cells (bys (putR (List.map byteD (List.take (b.length * 1) (bys b))) p 8 v)) 1 Md.own none]
noncomputable def hPutsR311 (b : List UInt8) (p v : Int) : AHeap := [ABlk.cells (bys b) 1 Md.far none, ABlk.dead, ABlk.cells (bys (putR (List.map byteD (List.take (b.length * 1) (bys b))) p 8 v)) 1 Md.own none, ABlk.cells (bys (bOf (hPutsR310 b p v) (AV.sl (some (0, 0)) b.length 0 false) ++ bigR v 8)) 1 Md.own none, ABlk.cells [] 1 Md.ro none, ABlk.cells (List.take (b.length * 1) (bys b)) 1 Md.own (some 4), ABlk.cells [AV.int IntKind.u8 (((u8i (v.fdiv 72057594037927936)).toNat : Nat) : Int), AV.int IntKind.u8 (((u8i (v.fdiv 281474976710656)).toNat : Nat) : Int), AV.int IntKind.u8 (((u8i (v.fdiv 1099511627776)).toNat : Nat) : Int), AV.int IntKind.u8 (((u8i (v.fdiv 4294967296)).toNat : Nat) : Int), AV.int IntKind.u8 (((u8i (v.fdiv 16777216)).toNat : Nat) : Int), AV.int IntKind.u8 (((u8i (v.fdiv 65536)).toNat : Nat) : Int), AV.int IntKind.u8 (((u8i (v.fdiv 256)).toNat : Nat) : Int), AV.int IntKind.u8 (((u8i (v.fdiv 1)).toNat : Nat) : Int)] 1 Md.own none]
theorem nfPutsR31 (b : List UInt8) (p v : Int) :
    qround Try.prog t1p 100 4 [(119, .bool false), (129, .bool false), (76, .bool false), (68, .bool false)] (autoT Try.prog (deepT Try.prog t1p 100 4) 100 4 (loopIn (bodyOf Try.prog 4) 0)) (loopIn (bodyOf Try.prog 4) 0) mPuts (vPuts b p v 3) [farB b] =
    (if 0 + b.length * 1 ≤ (bys b).length then
      (if (2 * (0 + b.length) + 200) * 1 ≤ 281474976710656 ∧ some 1 = some 1 ∧ 0 + b.length ≤ 70368744177664 then
        (if 0 = 0 ∧ 0 = 0 ∧ (0 < b.length ∨ 0 = 0) ∧ 1 = 1 ∧ (List.take (b.length * 1) (bys b)).all AV.isCell = true then
          (if cdec (0 = 0 ∧ 0 = 0 ∧ false = false ∧ 1 = 1 ∧ 0 + b.length = (List.take (b.length * 1) (bys b)).length ∧ 0 + b.length ≤ 1000000000000 ∧ (List.take (b.length * 1) (bys b)).all isByteR = true ∧ 0 ≤ v ∧ v < 18446744073709551616 ∧ some 1 ≠ some 2) = true then
            (if decide (0 ≤ p ∧ p + 8 ≤ (((0 + b.length) : Nat) : Int)) = false then
              (if (bOk (hPutsR310 b p v) (AV.sl (some (0, 0)) b.length 0 false) && decide (nOf (AV.sl (some (0, 0)) b.length 0 false) ≤ 100000000000 ∧ 0 ≤ v ∧ v < 18446744073709551616)) = true then
                (if 0 + b.length * 1 ≤ (bys b).length then
                  (if (2 * (0 + b.length) + 200) * 1 ≤ 281474976710656 ∧ some 1 = some 1 ∧ 0 + b.length ≤ 70368744177664 then
                    (if 0 = 0 ∧ 0 = 0 ∧ (0 < b.length ∨ 0 = 0) ∧ 1 = 1 ∧ (List.take (b.length * 1) (bys b)).all AV.isCell = true then
                      (if decide (p ≥ 0) = false then
                        (if 0 + (0 + b.length) ≤ (bys (putR (List.map byteD (List.take (b.length * 1) (bys b))) p 8 v)).length then
                          (if (List.take (0 + b.length) (bys (putR (List.map byteD (List.take (b.length * 1) (bys b))) p 8 v))).all isByte = true then
                            (if 0 + (0 + b.length) ≤ (List.take (b.length * 1) (bys b)).length then
                              (if (List.take (0 + b.length) (List.take (b.length * 1) (bys b))).all isByte = true then
                                (if (!decide (List.map byteD (List.take (0 + b.length) (bys (putR (List.map byteD (List.take (b.length * 1) (bys b))) p 8 v))) = List.map byteD (List.take (0 + b.length) (List.take (b.length * 1) (bys b))))) = false then
                                  (if 0 + (bOf (hPutsR310 b p v) (AV.sl (some (0, 0)) b.length 0 false) ++ bigR v 8).length ≤ (bys (bOf (hPutsR310 b p v) (AV.sl (some (0, 0)) b.length 0 false) ++ bigR v 8)).length then
                                    (if (List.take (bOf (hPutsR310 b p v) (AV.sl (some (0, 0)) b.length 0 false) ++ bigR v 8).length (bys (bOf (hPutsR310 b p v) (AV.sl (some (0, 0)) b.length 0 false) ++ bigR v 8))).all isByte = true then
                                      (if 0 + b.length ≤ (bys b).length then
                                        (if (List.take b.length (bys b)).all isByte = true then
                                          (if (List.map byteD (List.take b.length (bys b))).length + (List.map byteD [AV.int IntKind.u8 (((u8i (v.fdiv 72057594037927936)).toNat : Nat) : Int), AV.int IntKind.u8 (((u8i (v.fdiv 281474976710656)).toNat : Nat) : Int), AV.int IntKind.u8 (((u8i (v.fdiv 1099511627776)).toNat : Nat) : Int), AV.int IntKind.u8 (((u8i (v.fdiv 4294967296)).toNat : Nat) : Int), AV.int IntKind.u8 (((u8i (v.fdiv 16777216)).toNat : Nat) : Int), AV.int IntKind.u8 (((u8i (v.fdiv 65536)).toNat : Nat) : Int), AV.int IntKind.u8 (((u8i (v.fdiv 256)).toNat : Nat) : Int), AV.int IntKind.u8 (((u8i (v.fdiv 1)).toNat : Nat) : Int)]).length ≤ 140737488355328 then
                                            (if (!decide (List.map byteD (List.take (bOf (hPutsR310 b p v) (AV.sl (some (0, 0)) b.length 0 false) ++ bigR v 8).length (bys (bOf (hPutsR310 b p v) (AV.sl (some (0, 0)) b.length 0 false) ++ bigR v 8))) = List.map byteD (List.take b.length (bys b)) ++ List.map byteD [AV.int IntKind.u8 (((u8i (v.fdiv 72057594037927936)).toNat : Nat) : Int), AV.int IntKind.u8 (((u8i (v.fdiv 281474976710656)).toNat : Nat) : Int), AV.int IntKind.u8 (((u8i (v.fdiv 1099511627776)).toNat : Nat) : Int), AV.int IntKind.u8 (((u8i (v.fdiv 4294967296)).toNat : Nat) : Int), AV.int IntKind.u8 (((u8i (v.fdiv 16777216)).toNat : Nat) : Int), AV.int IntKind.u8 (((u8i (v.fdiv 65536)).toNat : Nat) : Int), AV.int IntKind.u8 (((u8i (v.fdiv 256)).toNat : Nat) : Int), AV.int IntKind.u8 (((u8i (v.fdiv 1)).toNat : Nat) : Int)])) = false then
                                              some ((AEx.norm, [AV.sl (some (0, 0)) b.length 0 false, AV.int IntKind.i64 p, AV.int IntKind.u64 v, AV.int IntKind.i64 4], (hPutsR311 b p v)))
                                            else none)
                                          else none)
                                        else none)
                                      else none)
                                    else none)
                                  else none)
                                else none)
                              else none)
                            else none)
                          else none)
                        else none)
                      else none)
                    else none)
                  else none)
                else none)
              else none)
            else none)
          else none)
        else none)
      else none)
    else none) := by
  kernel_rfl

noncomputable def hPutsR320 (b : List UInt8) (p v : Int) : AHeap := [ABlk.cells (bys b) 1 Md.far none, ABlk.dead, ABlk.cells (bys (putR (List.map byteD (List.take (b.length * 1) (bys b))) p 8 v)) 1 Md.own none]
noncomputable def hPutsR321 (b : List UInt8) (p v : Int) : AHeap := [ABlk.cells (bys b) 1 Md.far none, ABlk.dead, ABlk.cells (bys (putR (List.map byteD (List.take (b.length * 1) (bys b))) p 8 v)) 1 Md.own none, ABlk.cells (bys (bOf (hPutsR320 b p v) (AV.sl (some (0, 0)) b.length 0 false) ++ bigR v 8)) 1 Md.own none, ABlk.cells [] 1 Md.ro none, ABlk.cells (List.take (b.length * 1) (bys b)) 1 Md.own (some 4), ABlk.cells [AV.int IntKind.u8 (((u8i (v.fdiv 72057594037927936)).toNat : Nat) : Int), AV.int IntKind.u8 (((u8i (v.fdiv 281474976710656)).toNat : Nat) : Int), AV.int IntKind.u8 (((u8i (v.fdiv 1099511627776)).toNat : Nat) : Int), AV.int IntKind.u8 (((u8i (v.fdiv 4294967296)).toNat : Nat) : Int), AV.int IntKind.u8 (((u8i (v.fdiv 16777216)).toNat : Nat) : Int), AV.int IntKind.u8 (((u8i (v.fdiv 65536)).toNat : Nat) : Int), AV.int IntKind.u8 (((u8i (v.fdiv 256)).toNat : Nat) : Int), AV.int IntKind.u8 (((u8i (v.fdiv 1)).toNat : Nat) : Int)] 1 Md.own none]
theorem nfPutsR32 (b : List UInt8) (p v : Int) :
    qround Try.prog t1p 100 4 [(119, .bool false), (129, .bool false), (76, .bool true), (81, .bool false), (68, .bool false)] (autoT Try.prog (deepT Try.prog t1p 100 4) 100 4 (loopIn (bodyOf Try.prog 4) 0)) (loopIn (bodyOf Try.prog 4) 0) mPuts (vPuts b p v 3) [farB b] =
    (if 0 + b.length * 1 ≤ (bys b).length then
      (if (2 * (0 + b.length) + 200) * 1 ≤ 281474976710656 ∧ some 1 = some 1 ∧ 0 + b.length ≤ 70368744177664 then
        (if 0 = 0 ∧ 0 = 0 ∧ (0 < b.length ∨ 0 = 0) ∧ 1 = 1 ∧ (List.take (b.length * 1) (bys b)).all AV.isCell = true then
          (if cdec (0 = 0 ∧ 0 = 0 ∧ false = false ∧ 1 = 1 ∧ 0 + b.length = (List.take (b.length * 1) (bys b)).length ∧ 0 + b.length ≤ 1000000000000 ∧ (List.take (b.length * 1) (bys b)).all isByteR = true ∧ 0 ≤ v ∧ v < 18446744073709551616 ∧ some 1 ≠ some 2) = true then
            (if decide (0 ≤ p ∧ p + 8 ≤ (((0 + b.length) : Nat) : Int)) = false then
              (if (bOk (hPutsR320 b p v) (AV.sl (some (0, 0)) b.length 0 false) && decide (nOf (AV.sl (some (0, 0)) b.length 0 false) ≤ 100000000000 ∧ 0 ≤ v ∧ v < 18446744073709551616)) = true then
                (if 0 + b.length * 1 ≤ (bys b).length then
                  (if (2 * (0 + b.length) + 200) * 1 ≤ 281474976710656 ∧ some 1 = some 1 ∧ 0 + b.length ≤ 70368744177664 then
                    (if 0 = 0 ∧ 0 = 0 ∧ (0 < b.length ∨ 0 = 0) ∧ 1 = 1 ∧ (List.take (b.length * 1) (bys b)).all AV.isCell = true then
                      (if decide (p ≥ 0) = true then
                        (if decide (p ≤ (b.length : Int)) = false then
                          (if 0 + (0 + b.length) ≤ (bys (putR (List.map byteD (List.take (b.length * 1) (bys b))) p 8 v)).length then
                            (if (List.take (0 + b.length) (bys (putR (List.map byteD (List.take (b.length * 1) (bys b))) p 8 v))).all isByte = true then
                              (if 0 + (0 + b.length) ≤ (List.take (b.length * 1) (bys b)).length then
                                (if (List.take (0 + b.length) (List.take (b.length * 1) (bys b))).all isByte = true then
                                  (if (!decide (List.map byteD (List.take (0 + b.length) (bys (putR (List.map byteD (List.take (b.length * 1) (bys b))) p 8 v))) = List.map byteD (List.take (0 + b.length) (List.take (b.length * 1) (bys b))))) = false then
                                    (if 0 + (bOf (hPutsR320 b p v) (AV.sl (some (0, 0)) b.length 0 false) ++ bigR v 8).length ≤ (bys (bOf (hPutsR320 b p v) (AV.sl (some (0, 0)) b.length 0 false) ++ bigR v 8)).length then
                                      (if (List.take (bOf (hPutsR320 b p v) (AV.sl (some (0, 0)) b.length 0 false) ++ bigR v 8).length (bys (bOf (hPutsR320 b p v) (AV.sl (some (0, 0)) b.length 0 false) ++ bigR v 8))).all isByte = true then
                                        (if 0 + b.length ≤ (bys b).length then
                                          (if (List.take b.length (bys b)).all isByte = true then
                                            (if (List.map byteD (List.take b.length (bys b))).length + (List.map byteD [AV.int IntKind.u8 (((u8i (v.fdiv 72057594037927936)).toNat : Nat) : Int), AV.int IntKind.u8 (((u8i (v.fdiv 281474976710656)).toNat : Nat) : Int), AV.int IntKind.u8 (((u8i (v.fdiv 1099511627776)).toNat : Nat) : Int), AV.int IntKind.u8 (((u8i (v.fdiv 4294967296)).toNat : Nat) : Int), AV.int IntKind.u8 (((u8i (v.fdiv 16777216)).toNat : Nat) : Int), AV.int IntKind.u8 (((u8i (v.fdiv 65536)).toNat : Nat) : Int), AV.int IntKind.u8 (((u8i (v.fdiv 256)).toNat : Nat) : Int), AV.int IntKind.u8 (((u8i (v.fdiv 1)).toNat : Nat) : Int)]).length ≤ 140737488355328 then
                                              (if (!decide (List.map byteD (List.take (bOf (hPutsR320 b p v) (AV.sl (some (0, 0)) b.length 0 false) ++ bigR v 8).length (bys (bOf (hPutsR320 b p v) (AV.sl (some (0, 0)) b.length 0 false) ++ bigR v 8))) = List.map byteD (List.take b.length (bys b)) ++ List.map byteD [AV.int IntKind.u8 (((u8i (v.fdiv 72057594037927936)).toNat : Nat) : Int), AV.int IntKind.u8 (((u8i (v.fdiv 281474976710656)).toNat : Nat) : Int), AV.int IntKind.u8 (((u8i (v.fdiv 1099511627776)).toNat : Nat) : Int), AV.int IntKind.u8 (((u8i (v.fdiv 4294967296)).toNat : Nat) : Int), AV.int IntKind.u8 (((u8i (v.fdiv 16777216)).toNat : Nat) : Int), AV.int IntKind.u8 (((u8i (v.fdiv 65536)).toNat : Nat) : Int), AV.int IntKind.u8 (((u8i (v.fdiv 256)).toNat : Nat) : Int), AV.int IntKind.u8 (((u8i (v.fdiv 1)).toNat : Nat) : Int)])) = false then
                                                some ((AEx.norm, [AV.sl (some (0, 0)) b.length 0 false, AV.int IntKind.i64 p, AV.int IntKind.u64 v, AV.int IntKind.i64 4], (hPutsR321 b p v)))
                                              else none)
                                            else none)
                                          else none)
                                        else none)
                                      else none)
                                    else none)
                                  else none)
                                else none)
                              else none)
                            else none)
                          else none)
                        else none)
                      else none)
                    else none)
                  else none)
                else none)
              else none)
            else none)
          else none)
        else none)
      else none)
    else none) := by
  kernel_rfl

noncomputable def hPutsR330 (b : List UInt8) (p v : Int) : AHeap := [ABlk.cells (bys b) 1 Md.far none, ABlk.dead, ABlk.cells (bys (putR (List.map byteD (List.take (b.length * 1) (bys b))) p 8 v)) 1 Md.own none]
noncomputable def hPutsR331 (b : List UInt8) (p v : Int) : AHeap := [ABlk.cells (bys b) 1 Md.far none, ABlk.dead, ABlk.cells (bys (putR (List.map byteD (List.take (b.length * 1) (bys b))) p 8 v)) 1 Md.own none, ABlk.cells (bys (bOf (hPutsR330 b p v) (AV.sl (some (0, 0)) b.length 0 false) ++ bigR v 8)) 1 Md.own none, ABlk.cells [] 1 Md.ro none, ABlk.cells (List.take (b.length * 1) (bys b)) 1 Md.own (some 4), ABlk.cells [AV.int IntKind.u8 (((u8i (v.fdiv 72057594037927936)).toNat : Nat) : Int), AV.int IntKind.u8 (((u8i (v.fdiv 281474976710656)).toNat : Nat) : Int), AV.int IntKind.u8 (((u8i (v.fdiv 1099511627776)).toNat : Nat) : Int), AV.int IntKind.u8 (((u8i (v.fdiv 4294967296)).toNat : Nat) : Int), AV.int IntKind.u8 (((u8i (v.fdiv 16777216)).toNat : Nat) : Int), AV.int IntKind.u8 (((u8i (v.fdiv 65536)).toNat : Nat) : Int), AV.int IntKind.u8 (((u8i (v.fdiv 256)).toNat : Nat) : Int), AV.int IntKind.u8 (((u8i (v.fdiv 1)).toNat : Nat) : Int)] 1 Md.own none]
theorem nfPutsR33 (b : List UInt8) (p v : Int) :
    qround Try.prog t1p 100 4 [(119, .bool false), (129, .bool false), (76, .bool true), (81, .bool true), (89, .bool false), (68, .bool false)] (autoT Try.prog (deepT Try.prog t1p 100 4) 100 4 (loopIn (bodyOf Try.prog 4) 0)) (loopIn (bodyOf Try.prog 4) 0) mPuts (vPuts b p v 3) [farB b] =
    (if 0 + b.length * 1 ≤ (bys b).length then
      (if (2 * (0 + b.length) + 200) * 1 ≤ 281474976710656 ∧ some 1 = some 1 ∧ 0 + b.length ≤ 70368744177664 then
        (if 0 = 0 ∧ 0 = 0 ∧ (0 < b.length ∨ 0 = 0) ∧ 1 = 1 ∧ (List.take (b.length * 1) (bys b)).all AV.isCell = true then
          (if cdec (0 = 0 ∧ 0 = 0 ∧ false = false ∧ 1 = 1 ∧ 0 + b.length = (List.take (b.length * 1) (bys b)).length ∧ 0 + b.length ≤ 1000000000000 ∧ (List.take (b.length * 1) (bys b)).all isByteR = true ∧ 0 ≤ v ∧ v < 18446744073709551616 ∧ some 1 ≠ some 2) = true then
            (if decide (0 ≤ p ∧ p + 8 ≤ (((0 + b.length) : Nat) : Int)) = false then
              (if (bOk (hPutsR330 b p v) (AV.sl (some (0, 0)) b.length 0 false) && decide (nOf (AV.sl (some (0, 0)) b.length 0 false) ≤ 100000000000 ∧ 0 ≤ v ∧ v < 18446744073709551616)) = true then
                (if 0 + b.length * 1 ≤ (bys b).length then
                  (if (2 * (0 + b.length) + 200) * 1 ≤ 281474976710656 ∧ some 1 = some 1 ∧ 0 + b.length ≤ 70368744177664 then
                    (if 0 = 0 ∧ 0 = 0 ∧ (0 < b.length ∨ 0 = 0) ∧ 1 = 1 ∧ (List.take (b.length * 1) (bys b)).all AV.isCell = true then
                      (if decide (p ≥ 0) = true then
                        (if decide (p ≤ (b.length : Int)) = true then
                          (if decide (IntKind.i64.wrap ((b.length : Int) - p) ≥ 8) = false then
                            (if 0 + (0 + b.length) ≤ (bys (putR (List.map byteD (List.take (b.length * 1) (bys b))) p 8 v)).length then
                              (if (List.take (0 + b.length) (bys (putR (List.map byteD (List.take (b.length * 1) (bys b))) p 8 v))).all isByte = true then
                                (if 0 + (0 + b.length) ≤ (List.take (b.length * 1) (bys b)).length then
                                  (if (List.take (0 + b.length) (List.take (b.length * 1) (bys b))).all isByte = true then
                                    (if (!decide (List.map byteD (List.take (0 + b.length) (bys (putR (List.map byteD (List.take (b.length * 1) (bys b))) p 8 v))) = List.map byteD (List.take (0 + b.length) (List.take (b.length * 1) (bys b))))) = false then
                                      (if 0 + (bOf (hPutsR330 b p v) (AV.sl (some (0, 0)) b.length 0 false) ++ bigR v 8).length ≤ (bys (bOf (hPutsR330 b p v) (AV.sl (some (0, 0)) b.length 0 false) ++ bigR v 8)).length then
                                        (if (List.take (bOf (hPutsR330 b p v) (AV.sl (some (0, 0)) b.length 0 false) ++ bigR v 8).length (bys (bOf (hPutsR330 b p v) (AV.sl (some (0, 0)) b.length 0 false) ++ bigR v 8))).all isByte = true then
                                          (if 0 + b.length ≤ (bys b).length then
                                            (if (List.take b.length (bys b)).all isByte = true then
                                              (if (List.map byteD (List.take b.length (bys b))).length + (List.map byteD [AV.int IntKind.u8 (((u8i (v.fdiv 72057594037927936)).toNat : Nat) : Int), AV.int IntKind.u8 (((u8i (v.fdiv 281474976710656)).toNat : Nat) : Int), AV.int IntKind.u8 (((u8i (v.fdiv 1099511627776)).toNat : Nat) : Int), AV.int IntKind.u8 (((u8i (v.fdiv 4294967296)).toNat : Nat) : Int), AV.int IntKind.u8 (((u8i (v.fdiv 16777216)).toNat : Nat) : Int), AV.int IntKind.u8 (((u8i (v.fdiv 65536)).toNat : Nat) : Int), AV.int IntKind.u8 (((u8i (v.fdiv 256)).toNat : Nat) : Int), AV.int IntKind.u8 (((u8i (v.fdiv 1)).toNat : Nat) : Int)]).length ≤ 140737488355328 then
                                                (if (!decide (List.map byteD (List.take (bOf (hPutsR330 b p v) (AV.sl (some (0, 0)) b.length 0 false) ++ bigR v 8).length (bys (bOf (hPutsR330 b p v) (AV.sl (some (0, 0)) b.length 0 false) ++ bigR v 8))) = List.map byteD (List.take b.length (bys b)) ++ List.map byteD [AV.int IntKind.u8 (((u8i (v.fdiv 72057594037927936)).toNat : Nat) : Int), AV.int IntKind.u8 (((u8i (v.fdiv 281474976710656)).toNat : Nat) : Int), AV.int IntKind.u8 (((u8i (v.fdiv 1099511627776)).toNat : Nat) : Int), AV.int IntKind.u8 (((u8i (v.fdiv 4294967296)).toNat : Nat) : Int), AV.int IntKind.u8 (((u8i (v.fdiv 16777216)).toNat : Nat) : Int), AV.int IntKind.u8 (((u8i (v.fdiv 65536)).toNat : Nat) : Int), AV.int IntKind.u8 (((u8i (v.fdiv 256)).toNat : Nat) : Int), AV.int IntKind.u8 (((u8i (v.fdiv 1)).toNat : Nat) : Int)])) = false then
                                                  some ((AEx.norm, [AV.sl (some (0, 0)) b.length 0 false, AV.int IntKind.i64 p, AV.int IntKind.u64 v, AV.int IntKind.i64 4], (hPutsR331 b p v)))
                                                else none)
                                              else none)
                                            else none)
                                          else none)
                                        else none)
                                      else none)
                                    else none)
                                  else none)
                                else none)
                              else none)
                            else none)
                          else none)
                        else none)
                      else none)
                    else none)
                  else none)
                else none)
              else none)
            else none)
          else none)
        else none)
      else none)
    else none) := by
  kernel_rfl


theorem putsG0 {b : List UInt8} {v : Int} {q : Nat} (hb : b.length ≤ 200) (hv : 0 ≤ v ∧ v < 18446744073709551616) (h : q + 1 ≤ b.length) :
    ∃ vs1 h1, qround Try.prog t1p 100 4 [(119, .bool false), (129, .bool false), (76, .bool true), (81, .bool true), (89, .bool true), (36, .bool true)] (autoT Try.prog (deepT Try.prog t1p 100 4) 100 4 (loopIn (bodyOf Try.prog 4) 0)) (loopIn (bodyOf Try.prog 4) 0) mPuts (vPuts b q v 0) [farB b] = some (.norm, vs1, h1) ∧ Gc 1 vs1 h1 (vPuts b q v 1) [farB b] := by
  rw [nfPutsR00]
  have hq : q ≤ 1000000000000 := by omega
  have a0 : IntKind.i64.wrap ((q : Int) + 0) = ((q + 0 : Nat) : Int) := putA q 0 0 rfl hq (by decide)
  have w1 : IntKind.i64.wrap ((b.length : Int) - q) = b.length - q := wrapI64 (by omega)
  have hw : IntKind.u8.wrap v = v % 256 ^ 1 := by simp [IntKind.wrap, IntKind.bits, IntKind.signed]
  have hr : 0 ≤ (IntKind.u8.wrap v) ∧ (IntKind.u8.wrap v) < 256 := by rw [hw]; omega
  have hbig : bigR (IntKind.u8.wrap v) 1 = bigR v 1 := by rw [hw, bigR_emod v 1 1 (by omega)]
  have g := bOk_far (h := hPutsR000 b q v) (k := 0) (l := b) rfl
  have e1 : putR b (q : Int) 1 (IntKind.u8.wrap v) = setsUp b q (bigR v 1) := by
    rw [setsUp_eq _ _ _ (by simp; omega), putR, if_pos (by simp; omega), hbig]
    simp
  have lw : (b ++ bigR (IntKind.u8.wrap v) 1).length = b.length + 1 := by simp
  have e1b : setsUp b q [u8i (v.fdiv 1)] = setsUp b q (bigR v 1) := by rw [bigR8_1]
  have lS : (setsUp b q (bigR v 1)).length = b.length := by rw [← e1, putR_length]
  generalize setsUp b q (bigR v 1) = S at e1 e1b lS
  simp only [setsUp, Nat.add_assoc, Nat.reduceAdd] at e1b
  have e2 : bOf (hPutsR000 b q v) (AV.sl (some (0, 0)) b.length 0 false) = b := g.2
  have e3 : bOk (hPutsR000 b q v) (AV.sl (some (0, 0)) b.length 0 false) = true := g.1
  refine ⟨?_, ?_, ?_, ?_⟩
  rotate_left 2
  · simp only [a0, w1, e2, e3, Int.toNat_natCast, Nat.zero_add, Nat.mul_one, bys_full, bys_take, List.take_length, intV_some, putCells_u8, bys_length, bys_byteD, List.length_set, List.length_cons, List.length_nil, List.length_append, putR_length, bigR_length, Nat.add_zero, e1, e1b]

    repeat (refine (if_pos ?_).trans ?_; · first | omega | (simp [boolV]; done) | (simp [boolV]; omega) | (refine cdec_true.2 ?_; simp; omega) | (rw [Bool.true_and]; exact decide_eq_true ⟨by simp only [nOf]; omega, hr⟩) | (rw [← lS]; simp; done) | (rw [← lw, List.take_length, hbig, bigR8_1]; simp))
    rfl
  · exact Gc.by [0] rfl (by decide) (.cons _ _ _ _ (.sl _ _ _ _ _ _ rfl) (.free _ rfl)) (.cons _ _ _ _ _ rfl (.row (by simp) (by simp)) .nil)


theorem putsG1 {b : List UInt8} {v : Int} {q : Nat} (hb : b.length ≤ 200) (hv : 0 ≤ v ∧ v < 18446744073709551616) (h : q + 2 ≤ b.length) :
    ∃ vs1 h1, qround Try.prog t1p 100 4 [(119, .bool false), (129, .bool false), (76, .bool true), (81, .bool true), (89, .bool true), (47, .bool true)] (autoT Try.prog (deepT Try.prog t1p 100 4) 100 4 (loopIn (bodyOf Try.prog 4) 0)) (loopIn (bodyOf Try.prog 4) 0) mPuts (vPuts b q v 1) [farB b] = some (.norm, vs1, h1) ∧ Gc 1 vs1 h1 (vPuts b q v 2) [farB b] := by
  rw [nfPutsR10]
  have hq : q ≤ 1000000000000 := by omega
  have a0 : IntKind.i64.wrap ((q : Int) + 0) = ((q + 0 : Nat) : Int) := putA q 0 0 rfl hq (by decide)
  have a1 : IntKind.i64.wrap ((q : Int) + 1) = ((q + 1 : Nat) : Int) := putA q 1 1 rfl hq (by decide)
  have w1 : IntKind.i64.wrap ((b.length : Int) - q) = b.length - q := wrapI64 (by omega)
  have hw : IntKind.u16.wrap v = v % 256 ^ 2 := by simp [IntKind.wrap, IntKind.bits, IntKind.signed]
  have hr : 0 ≤ (IntKind.u16.wrap v) ∧ (IntKind.u16.wrap v) < 65536 := by rw [hw]; omega
  have hbig : bigR (IntKind.u16.wrap v) 2 = bigR v 2 := by rw [hw, bigR_emod v 2 2 (by omega)]
  have g := bOk_far (h := hPutsR100 b q v) (k := 0) (l := b) rfl
  have e1 : putR b (q : Int) 2 (IntKind.u16.wrap v) = setsUp b q (bigR v 2) := by
    rw [setsUp_eq _ _ _ (by simp; omega), putR, if_pos (by simp; omega), hbig]
    simp
  have lw : (b ++ bigR (IntKind.u16.wrap v) 2).length = b.length + 2 := by simp
  have e1b : setsUp b q [u8i (v.fdiv 256), u8i (v.fdiv 1)] = setsUp b q (bigR v 2) := by rw [bigR8_2]
  have lS : (setsUp b q (bigR v 2)).length = b.length := by rw [← e1, putR_length]
  generalize setsUp b q (bigR v 2) = S at e1 e1b lS
  simp only [setsUp, Nat.add_assoc, Nat.reduceAdd] at e1b
  have e2 : bOf (hPutsR100 b q v) (AV.sl (some (0, 0)) b.length 0 false) = b := g.2
  have e3 : bOk (hPutsR100 b q v) (AV.sl (some (0, 0)) b.length 0 false) = true := g.1
  refine ⟨?_, ?_, ?_, ?_⟩
  rotate_left 2
  · simp only [a0, a1, w1, e2, e3, Int.toNat_natCast, Nat.zero_add, Nat.mul_one, bys_full, bys_take, List.take_length, intV_some, putCells_u8, bys_length, bys_byteD, List.length_set, List.length_cons, List.length_nil, List.length_append, putR_length, bigR_length, Nat.add_zero, e1, e1b]

    repeat (refine (if_pos ?_).trans ?_; · first | omega | (simp [boolV]; done) | (simp [boolV]; omega) | (refine cdec_true.2 ?_; simp; omega) | (rw [Bool.true_and]; exact decide_eq_true ⟨by simp only [nOf]; omega, hr⟩) | (rw [← lS]; simp; done) | (rw [← lw, List.take_length, hbig, bigR8_2]; simp))
    rfl
  · exact Gc.by [0] rfl (by decide) (.cons _ _ _ _ (.sl _ _ _ _ _ _ rfl) (.free _ rfl)) (.cons _ _ _ _ _ rfl (.row (by simp) (by simp)) .nil)


theorem putsG2 {b : List UInt8} {v : Int} {q : Nat} (hb : b.length ≤ 200) (hv : 0 ≤ v ∧ v < 18446744073709551616) (h : q + 4 ≤ b.length) :
    ∃ vs1 h1, qround Try.prog t1p 100 4 [(119, .bool false), (129, .bool false), (76, .bool true), (81, .bool true), (89, .bool true), (58, .bool true)] (autoT Try.prog (deepT Try.prog t1p 100 4) 100 4 (loopIn (bodyOf Try.prog 4) 0)) (loopIn (bodyOf Try.prog 4) 0) mPuts (vPuts b q v 2) [farB b] = some (.norm, vs1, h1) ∧ Gc 1 vs1 h1 (vPuts b q v 3) [farB b] := by
  rw [nfPutsR20]
  have hq : q ≤ 1000000000000 := by omega
  have a0 : IntKind.i64.wrap ((q : Int) + 0) = ((q + 0 : Nat) : Int) := putA q 0 0 rfl hq (by decide)
  have a1 : IntKind.i64.wrap ((q : Int) + 1) = ((q + 1 : Nat) : Int) := putA q 1 1 rfl hq (by decide)
  have a2 : IntKind.i64.wrap ((q : Int) + 2) = ((q + 2 : Nat) : Int) := putA q 2 2 rfl hq (by decide)
  have a3 : IntKind.i64.wrap ((q : Int) + 3) = ((q + 3 : Nat) : Int) := putA q 3 3 rfl hq (by decide)
  have w1 : IntKind.i64.wrap ((b.length : Int) - q) = b.length - q := wrapI64 (by omega)
  have hw : IntKind.u32.wrap v = v % 256 ^ 4 := by simp [IntKind.wrap, IntKind.bits, IntKind.signed]
  have hr : 0 ≤ (IntKind.u32.wrap v) ∧ (IntKind.u32.wrap v) < 4294967296 := by rw [hw]; omega
  have hbig : bigR (IntKind.u32.wrap v) 4 = bigR v 4 := by rw [hw, bigR_emod v 4 4 (by omega)]
  have g := bOk_far (h := hPutsR200 b q v) (k := 0) (l := b) rfl
  have e1 : putR b (q : Int) 4 (IntKind.u32.wrap v) = setsUp b q (bigR v 4) := by
    rw [setsUp_eq _ _ _ (by simp; omega), putR, if_pos (by simp; omega), hbig]
    simp
  have lw : (b ++ bigR (IntKind.u32.wrap v) 4).length = b.length + 4 := by simp
  have e1b : setsUp b q [u8i (v.fdiv 16777216), u8i (v.fdiv 65536), u8i (v.fdiv 256), u8i (v.fdiv 1)] = setsUp b q (bigR v 4) := by rw [bigR8_4]
  have lS : (setsUp b q (bigR v 4)).length = b.length := by rw [← e1, putR_length]
  generalize setsUp b q (bigR v 4) = S at e1 e1b lS
  simp only [setsUp, Nat.add_assoc, Nat.reduceAdd] at e1b
  have e2 : bOf (hPutsR200 b q v) (AV.sl (some (0, 0)) b.length 0 false) = b := g.2
  have e3 : bOk (hPutsR200 b q v) (AV.sl (some (0, 0)) b.length 0 false) = true := g.1
  refine ⟨?_, ?_, ?_, ?_⟩
  rotate_left 2
  · simp only [a0, a1, a2, a3, w1, e2, e3, Int.toNat_natCast, Nat.zero_add, Nat.mul_one, bys_full, bys_take, List.take_length, intV_some, putCells_u8, bys_length, bys_byteD, List.length_set, List.length_cons, List.length_nil, List.length_append, putR_length, bigR_length, Nat.add_zero, e1, e1b]

    repeat (refine (if_pos ?_).trans ?_; · first | omega | (simp [boolV]; done) | (simp [boolV]; omega) | (refine cdec_true.2 ?_; simp; omega) | (rw [Bool.true_and]; exact decide_eq_true ⟨by simp only [nOf]; omega, hr⟩) | (rw [← lS]; simp; done) | (rw [← lw, List.take_length, hbig, bigR8_4]; simp))
    rfl
  · exact Gc.by [0] rfl (by decide) (.cons _ _ _ _ (.sl _ _ _ _ _ _ rfl) (.free _ rfl)) (.cons _ _ _ _ _ rfl (.row (by simp) (by simp)) .nil)


set_option maxHeartbeats 1000000 in
theorem putsG3 {b : List UInt8} {v : Int} {q : Nat} (hb : b.length ≤ 200) (hv : 0 ≤ v ∧ v < 18446744073709551616) (h : q + 8 ≤ b.length) :
    ∃ vs1 h1, qround Try.prog t1p 100 4 [(119, .bool false), (129, .bool false), (76, .bool true), (81, .bool true), (89, .bool true), (68, .bool true)] (autoT Try.prog (deepT Try.prog t1p 100 4) 100 4 (loopIn (bodyOf Try.prog 4) 0)) (loopIn (bodyOf Try.prog 4) 0) mPuts (vPuts b q v 3) [farB b] = some (.norm, vs1, h1) ∧ Gc 1 vs1 h1 (vPuts b q v 4) [farB b] := by
  rw [nfPutsR30]
  have hq : q ≤ 1000000000000 := by omega
  have a0 : IntKind.i64.wrap ((q : Int) + 0) = ((q + 0 : Nat) : Int) := putA q 0 0 rfl hq (by decide)
  have a1 : IntKind.i64.wrap ((q : Int) + 1) = ((q + 1 : Nat) : Int) := putA q 1 1 rfl hq (by decide)
  have a2 : IntKind.i64.wrap ((q : Int) + 2) = ((q + 2 : Nat) : Int) := putA q 2 2 rfl hq (by decide)
  have a3 : IntKind.i64.wrap ((q : Int) + 3) = ((q + 3 : Nat) : Int) := putA q 3 3 rfl hq (by decide)
  have a4 : IntKind.i64.wrap ((q : Int) + 4) = ((q + 4 : Nat) : Int) := putA q 4 4 rfl hq (by decide)
  have a5 : IntKind.i64.wrap ((q : Int) + 5) = ((q + 5 : Nat) : Int) := putA q 5 5 rfl hq (by decide)
  have a6 : IntKind.i64.wrap ((q : Int) + 6) = ((q + 6 : Nat) : Int) := putA q 6 6 rfl hq (by decide)
  have a7 : IntKind.i64.wrap ((q : Int) + 7) = ((q + 7 : Nat) : Int) := putA q 7 7 rfl hq (by decide)
  have w1 : IntKind.i64.wrap ((b.length : Int) - q) = b.length - q := wrapI64 (by omega)
  have hr : 0 ≤ v ∧ v < 18446744073709551616 := hv
  have g := bOk_far (h := hPutsR300 b q v) (k := 0) (l := b) rfl
  have e1 : putR b (q : Int) 8 v = setsUp b q (bigR v 8) := by
    rw [setsUp_eq _ _ _ (by simp; omega), putR, if_pos (by simp; omega)]
    simp
  have lw : (b ++ bigR v 8).length = b.length + 8 := by simp
  have e1b : setsUp b q [u8i (v.fdiv 72057594037927936), u8i (v.fdiv 281474976710656), u8i (v.fdiv 1099511627776), u8i (v.fdiv 4294967296), u8i (v.fdiv 16777216), u8i (v.fdiv 65536), u8i (v.fdiv 256), u8i (v.fdiv 1)] = setsUp b q (bigR v 8) := by rw [bigR8_8]
  have lS : (setsUp b q (bigR v 8)).length = b.length := by rw [← e1, putR_length]
  generalize setsUp b q (bigR v 8) = S at e1 e1b lS
  simp only [setsUp, Nat.add_assoc, Nat.reduceAdd] at e1b
  have e2 : bOf (hPutsR300 b q v) (AV.sl (some (0, 0)) b.length 0 false) = b := g.2
  have e3 : bOk (hPutsR300 b q v) (AV.sl (some (0, 0)) b.length 0 false) = true := g.1
  refine ⟨?_, ?_, ?_, ?_⟩
  rotate_left 2
  · simp only [a0, a1, a2, a3, a4, a5, a6, a7, w1, e2, e3, Int.toNat_natCast, Nat.zero_add, Nat.mul_one, bys_full, bys_take, List.take_length, intV_some, putCells_u8, bys_length, bys_byteD, List.length_set, List.length_cons, List.length_nil, List.length_append, putR_length, bigR_length, Nat.add_zero, e1, e1b]

    repeat (refine (if_pos ?_).trans ?_; · first | omega | (simp [boolV]; done) | (simp [boolV]; omega) | (refine cdec_true.2 ?_; simp; omega) | (rw [Bool.true_and]; exact decide_eq_true ⟨by simp only [nOf]; omega, hr⟩) | (rw [← lS]; simp; done) | (rw [← lw, List.take_length, bigR8_8]; simp))
    rfl
  · exact Gc.by [0] rfl (by decide) (.cons _ _ _ _ (.sl _ _ _ _ _ _ rfl) (.free _ rfl)) (.cons _ _ _ _ _ rfl (.row (by simp) (by simp)) .nil)


theorem putsB01 {b : List UInt8} {v p : Int} (hb : b.length ≤ 200) (hv : 0 ≤ v ∧ v < 18446744073709551616) (hp : -9223372036854775808 ≤ p ∧ p < 9223372036854775808) (h : p < 0) :
    ∃ vs1 h1, qround Try.prog t1p 100 4 [(119, .bool false), (129, .bool false), (76, .bool false), (36, .bool false)] (autoT Try.prog (deepT Try.prog t1p 100 4) 100 4 (loopIn (bodyOf Try.prog 4) 0)) (loopIn (bodyOf Try.prog 4) 0) mPuts (vPuts b p v 0) [farB b] = some (.norm, vs1, h1) ∧ Gc 1 vs1 h1 (vPuts b p v 1) [farB b] := by
  rw [nfPutsR01]

  have hw : IntKind.u8.wrap v = v % 256 ^ 1 := by simp [IntKind.wrap, IntKind.bits, IntKind.signed]
  have hr : 0 ≤ (IntKind.u8.wrap v) ∧ (IntKind.u8.wrap v) < 256 := by rw [hw]; omega
  have hbig : bigR (IntKind.u8.wrap v) 1 = bigR v 1 := by rw [hw, bigR_emod v 1 1 (by omega)]
  have g := bOk_far (h := hPutsR010 b p v) (k := 0) (l := b) rfl
  have lw : (b ++ bigR (IntKind.u8.wrap v) 1).length = b.length + 1 := by simp
  have e1 : putR b p 1 (IntKind.u8.wrap v) = b := by rw [putR, if_neg (by omega)]
  have e2 : bOf (hPutsR010 b p v) (AV.sl (some (0, 0)) b.length 0 false) = b := g.2
  have e3 : bOk (hPutsR010 b p v) (AV.sl (some (0, 0)) b.length 0 false) = true := g.1
  refine ⟨?_, ?_, ?_, ?_⟩
  rotate_left 2
  · simp only [e2, e3, Nat.zero_add, Nat.mul_one, bys_full, bys_take, List.take_length, intV_some, bys_length, bys_byteD, List.length_cons, List.length_nil, List.length_append, bigR_length, Nat.add_zero, e1]
    repeat (refine (if_pos ?_).trans ?_; · first | omega | (simp [boolV]; done) | (simp [boolV]; omega) | (refine cdec_true.2 ?_; simp; omega) | (rw [Bool.true_and]; exact decide_eq_true ⟨by simp only [nOf]; omega, hr⟩) | (rw [← lw, List.take_length, hbig, bigR8_1]; simp))
    rfl
  · exact Gc.by [0] rfl (by decide) (.cons _ _ _ _ (.sl _ _ _ _ _ _ rfl) (.free _ rfl)) (.cons _ _ _ _ _ rfl (.row (by simp) (by simp)) .nil)


theorem putsB02 {b : List UInt8} {v p : Int} (hb : b.length ≤ 200) (hv : 0 ≤ v ∧ v < 18446744073709551616) (hp : -9223372036854775808 ≤ p ∧ p < 9223372036854775808) (h : 0 ≤ p ∧ (b.length : Int) < p) :
    ∃ vs1 h1, qround Try.prog t1p 100 4 [(119, .bool false), (129, .bool false), (76, .bool true), (81, .bool false), (36, .bool false)] (autoT Try.prog (deepT Try.prog t1p 100 4) 100 4 (loopIn (bodyOf Try.prog 4) 0)) (loopIn (bodyOf Try.prog 4) 0) mPuts (vPuts b p v 0) [farB b] = some (.norm, vs1, h1) ∧ Gc 1 vs1 h1 (vPuts b p v 1) [farB b] := by
  rw [nfPutsR02]

  have hw : IntKind.u8.wrap v = v % 256 ^ 1 := by simp [IntKind.wrap, IntKind.bits, IntKind.signed]
  have hr : 0 ≤ (IntKind.u8.wrap v) ∧ (IntKind.u8.wrap v) < 256 := by rw [hw]; omega
  have hbig : bigR (IntKind.u8.wrap v) 1 = bigR v 1 := by rw [hw, bigR_emod v 1 1 (by omega)]
  have g := bOk_far (h := hPutsR020 b p v) (k := 0) (l := b) rfl
  have lw : (b ++ bigR (IntKind.u8.wrap v) 1).length = b.length + 1 := by simp
  have e1 : putR b p 1 (IntKind.u8.wrap v) = b := by rw [putR, if_neg (by omega)]
  have e2 : bOf (hPutsR020 b p v) (AV.sl (some (0, 0)) b.length 0 false) = b := g.2
  have e3 : bOk (hPutsR020 b p v) (AV.sl (some (0, 0)) b.length 0 false) = true := g.1
  refine ⟨?_, ?_, ?_, ?_⟩
  rotate_left 2
  · simp only [e2, e3, Nat.zero_add, Nat.mul_one, bys_full, bys_take, List.take_length, intV_some, bys_length, bys_byteD, List.length_cons, List.length_nil, List.length_append, bigR_length, Nat.add_zero, e1]
    repeat (refine (if_pos ?_).trans ?_; · first | omega | (simp [boolV]; done) | (simp [boolV]; omega) | (refine cdec_true.2 ?_; simp; omega) | (rw [Bool.true_and]; exact decide_eq_true ⟨by simp only [nOf]; omega, hr⟩) | (rw [← lw, List.take_length, hbig, bigR8_1]; simp))
    rfl
  · exact Gc.by [0] rfl (by decide) (.cons _ _ _ _ (.sl _ _ _ _ _ _ rfl) (.free _ rfl)) (.cons _ _ _ _ _ rfl (.row (by simp) (by simp)) .nil)


theorem putsB03 {b : List UInt8} {v p : Int} (hb : b.length ≤ 200) (hv : 0 ≤ v ∧ v < 18446744073709551616) (hp : -9223372036854775808 ≤ p ∧ p < 9223372036854775808) (h : 0 ≤ p ∧ p ≤ (b.length : Int) ∧ (b.length : Int) < p + 1) :
    ∃ vs1 h1, qround Try.prog t1p 100 4 [(119, .bool false), (129, .bool false), (76, .bool true), (81, .bool true), (89, .bool false), (36, .bool false)] (autoT Try.prog (deepT Try.prog t1p 100 4) 100 4 (loopIn (bodyOf Try.prog 4) 0)) (loopIn (bodyOf Try.prog 4) 0) mPuts (vPuts b p v 0) [farB b] = some (.norm, vs1, h1) ∧ Gc 1 vs1 h1 (vPuts b p v 1) [farB b] := by
  rw [nfPutsR03]
  have w1 : IntKind.i64.wrap ((b.length : Int) - p) = b.length - p := wrapI64 (by omega)
  have hw : IntKind.u8.wrap v = v % 256 ^ 1 := by simp [IntKind.wrap, IntKind.bits, IntKind.signed]
  have hr : 0 ≤ (IntKind.u8.wrap v) ∧ (IntKind.u8.wrap v) < 256 := by rw [hw]; omega
  have hbig : bigR (IntKind.u8.wrap v) 1 = bigR v 1 := by rw [hw, bigR_emod v 1 1 (by omega)]
  have g := bOk_far (h := hPutsR030 b p v) (k := 0) (l := b) rfl
  have lw : (b ++ bigR (IntKind.u8.wrap v) 1).length = b.length + 1 := by simp
  have e1 : putR b p 1 (IntKind.u8.wrap v) = b := by rw [putR, if_neg (by omega)]
  have e2 : bOf (hPutsR030 b p v) (AV.sl (some (0, 0)) b.length 0 false) = b := g.2
  have e3 : bOk (hPutsR030 b p v) (AV.sl (some (0, 0)) b.length 0 false) = true := g.1
  refine ⟨?_, ?_, ?_, ?_⟩
  rotate_left 2
  · simp only [w1, e2, e3, Nat.zero_add, Nat.mul_one, bys_full, bys_take, List.take_length, intV_some, bys_length, bys_byteD, List.length_cons, List.length_nil, List.length_append, bigR_length, Nat.add_zero, e1]
    repeat (refine (if_pos ?_).trans ?_; · first | omega | (simp [boolV]; done) | (simp [boolV]; omega) | (refine cdec_true.2 ?_; simp; omega) | (rw [Bool.true_and]; exact decide_eq_true ⟨by simp only [nOf]; omega, hr⟩) | (rw [← lw, List.take_length, hbig, bigR8_1]; simp))
    rfl
  · exact Gc.by [0] rfl (by decide) (.cons _ _ _ _ (.sl _ _ _ _ _ _ rfl) (.free _ rfl)) (.cons _ _ _ _ _ rfl (.row (by simp) (by simp)) .nil)


theorem putsR0 {b : List UInt8} {v p : Int} (hb : b.length ≤ 200) (hv : 0 ≤ v ∧ v < 18446744073709551616) (hp : -9223372036854775808 ≤ p ∧ p < 9223372036854775808) :
    ∃ pr vs1 h1, qround Try.prog t1p 100 4 pr (autoT Try.prog (deepT Try.prog t1p 100 4) 100 4 (loopIn (bodyOf Try.prog 4) 0)) (loopIn (bodyOf Try.prog 4) 0) mPuts (vPuts b p v 0) [farB b] = some (.norm, vs1, h1) ∧ Gc 1 vs1 h1 (vPuts b p v 1) [farB b] := by
  by_cases h1 : p < 0
  · exact ⟨_, putsB01 hb hv hp h1⟩
  by_cases h2 : (b.length : Int) < p
  · exact ⟨_, putsB02 hb hv hp ⟨by omega, h2⟩⟩
  by_cases h3 : (b.length : Int) < p + 1
  · exact ⟨_, putsB03 hb hv hp ⟨by omega, by omega, h3⟩⟩
  obtain ⟨q, rfl⟩ := Int.eq_ofNat_of_zero_le (show 0 ≤ p by omega)
  exact ⟨_, putsG0 hb hv (by omega)⟩


theorem putsB11 {b : List UInt8} {v p : Int} (hb : b.length ≤ 200) (hv : 0 ≤ v ∧ v < 18446744073709551616) (hp : -9223372036854775808 ≤ p ∧ p < 9223372036854775808) (h : p < 0) :
    ∃ vs1 h1, qround Try.prog t1p 100 4 [(119, .bool false), (129, .bool false), (76, .bool false), (47, .bool false)] (autoT Try.prog (deepT Try.prog t1p 100 4) 100 4 (loopIn (bodyOf Try.prog 4) 0)) (loopIn (bodyOf Try.prog 4) 0) mPuts (vPuts b p v 1) [farB b] = some (.norm, vs1, h1) ∧ Gc 1 vs1 h1 (vPuts b p v 2) [farB b] := by
  rw [nfPutsR11]

  have hw : IntKind.u16.wrap v = v % 256 ^ 2 := by simp [IntKind.wrap, IntKind.bits, IntKind.signed]
  have hr : 0 ≤ (IntKind.u16.wrap v) ∧ (IntKind.u16.wrap v) < 65536 := by rw [hw]; omega
  have hbig : bigR (IntKind.u16.wrap v) 2 = bigR v 2 := by rw [hw, bigR_emod v 2 2 (by omega)]
  have g := bOk_far (h := hPutsR110 b p v) (k := 0) (l := b) rfl
  have lw : (b ++ bigR (IntKind.u16.wrap v) 2).length = b.length + 2 := by simp
  have e1 : putR b p 2 (IntKind.u16.wrap v) = b := by rw [putR, if_neg (by omega)]
  have e2 : bOf (hPutsR110 b p v) (AV.sl (some (0, 0)) b.length 0 false) = b := g.2
  have e3 : bOk (hPutsR110 b p v) (AV.sl (some (0, 0)) b.length 0 false) = true := g.1
  refine ⟨?_, ?_, ?_, ?_⟩
  rotate_left 2
  · simp only [e2, e3, Nat.zero_add, Nat.mul_one, bys_full, bys_take, List.take_length, intV_some, bys_length, bys_byteD, List.length_cons, List.length_nil, List.length_append, bigR_length, Nat.add_zero, e1]
    repeat (refine (if_pos ?_).trans ?_; · first | omega | (simp [boolV]; done) | (simp [boolV]; omega) | (refine cdec_true.2 ?_; simp; omega) | (rw [Bool.true_and]; exact decide_eq_true ⟨by simp only [nOf]; omega, hr⟩) | (rw [← lw, List.take_length, hbig, bigR8_2]; simp))
    rfl
  · exact Gc.by [0] rfl (by decide) (.cons _ _ _ _ (.sl _ _ _ _ _ _ rfl) (.free _ rfl)) (.cons _ _ _ _ _ rfl (.row (by simp) (by simp)) .nil)


theorem putsB12 {b : List UInt8} {v p : Int} (hb : b.length ≤ 200) (hv : 0 ≤ v ∧ v < 18446744073709551616) (hp : -9223372036854775808 ≤ p ∧ p < 9223372036854775808) (h : 0 ≤ p ∧ (b.length : Int) < p) :
    ∃ vs1 h1, qround Try.prog t1p 100 4 [(119, .bool false), (129, .bool false), (76, .bool true), (81, .bool false), (47, .bool false)] (autoT Try.prog (deepT Try.prog t1p 100 4) 100 4 (loopIn (bodyOf Try.prog 4) 0)) (loopIn (bodyOf Try.prog 4) 0) mPuts (vPuts b p v 1) [farB b] = some (.norm, vs1, h1) ∧ Gc 1 vs1 h1 (vPuts b p v 2) [farB b] := by
  rw [nfPutsR12]

  have hw : IntKind.u16.wrap v = v % 256 ^ 2 := by simp [IntKind.wrap, IntKind.bits, IntKind.signed]
  have hr : 0 ≤ (IntKind.u16.wrap v) ∧ (IntKind.u16.wrap v) < 65536 := by rw [hw]; omega
  have hbig : bigR (IntKind.u16.wrap v) 2 = bigR v 2 := by rw [hw, bigR_emod v 2 2 (by omega)]
  have g := bOk_far (h := hPutsR120 b p v) (k := 0) (l := b) rfl
  have lw : (b ++ bigR (IntKind.u16.wrap v) 2).length = b.length + 2 := by simp
  have e1 : putR b p 2 (IntKind.u16.wrap v) = b := by rw [putR, if_neg (by omega)]
  have e2 : bOf (hPutsR120 b p v) (AV.sl (some (0, 0)) b.length 0 false) = b := g.2
  have e3 : bOk (hPutsR120 b p v) (AV.sl (some (0, 0)) b.length 0 false) = true := g.1
  refine ⟨?_, ?_, ?_, ?_⟩
  rotate_left 2
  · simp only [e2, e3, Nat.zero_add, Nat.mul_one, bys_full, bys_take, List.take_length, intV_some, bys_length, bys_byteD, List.length_cons, List.length_nil, List.length_append, bigR_length, Nat.add_zero, e1]
    repeat (refine (if_pos ?_).trans ?_; · first | omega | (simp [boolV]; done) | (simp [boolV]; omega) | (refine cdec_true.2 ?_; simp; omega) | (rw [Bool.true_and]; exact decide_eq_true ⟨by simp only [nOf]; omega, hr⟩) | (rw [← lw, List.take_length, hbig, bigR8_2]; simp))
    rfl
  · exact Gc.by [0] rfl (by decide) (.cons _ _ _ _ (.sl _ _ _ _ _ _ rfl) (.free _ rfl)) (.cons _ _ _ _ _ rfl (.row (by simp) (by simp)) .nil)


theorem putsB13 {b : List UInt8} {v p : Int} (hb : b.length ≤ 200) (hv : 0 ≤ v ∧ v < 18446744073709551616) (hp : -9223372036854775808 ≤ p ∧ p < 9223372036854775808) (h : 0 ≤ p ∧ p ≤ (b.length : Int) ∧ (b.length : Int) < p + 2) :
    ∃ vs1 h1, qround Try.prog t1p 100 4 [(119, .bool false), (129, .bool false), (76, .bool true), (81, .bool true), (89, .bool false), (47, .bool false)] (autoT Try.prog (deepT Try.prog t1p 100 4) 100 4 (loopIn (bodyOf Try.prog 4) 0)) (loopIn (bodyOf Try.prog 4) 0) mPuts (vPuts b p v 1) [farB b] = some (.norm, vs1, h1) ∧ Gc 1 vs1 h1 (vPuts b p v 2) [farB b] := by
  rw [nfPutsR13]
  have w1 : IntKind.i64.wrap ((b.length : Int) - p) = b.length - p := wrapI64 (by omega)
  have hw : IntKind.u16.wrap v = v % 256 ^ 2 := by simp [IntKind.wrap, IntKind.bits, IntKind.signed]
  have hr : 0 ≤ (IntKind.u16.wrap v) ∧ (IntKind.u16.wrap v) < 65536 := by rw [hw]; omega
  have hbig : bigR (IntKind.u16.wrap v) 2 = bigR v 2 := by rw [hw, bigR_emod v 2 2 (by omega)]
  have g := bOk_far (h := hPutsR130 b p v) (k := 0) (l := b) rfl
  have lw : (b ++ bigR (IntKind.u16.wrap v) 2).length = b.length + 2 := by simp
  have e1 : putR b p 2 (IntKind.u16.wrap v) = b := by rw [putR, if_neg (by omega)]
  have e2 : bOf (hPutsR130 b p v) (AV.sl (some (0, 0)) b.length 0 false) = b := g.2
  have e3 : bOk (hPutsR130 b p v) (AV.sl (some (0, 0)) b.length 0 false) = true := g.1
  refine ⟨?_, ?_, ?_, ?_⟩
  rotate_left 2
  · simp only [w1, e2, e3, Nat.zero_add, Nat.mul_one, bys_full, bys_take, List.take_length, intV_some, bys_length, bys_byteD, List.length_cons, List.length_nil, List.length_append, bigR_length, Nat.add_zero, e1]
    repeat (refine (if_pos ?_).trans ?_; · first | omega | (simp [boolV]; done) | (simp [boolV]; omega) | (refine cdec_true.2 ?_; simp; omega) | (rw [Bool.true_and]; exact decide_eq_true ⟨by simp only [nOf]; omega, hr⟩) | (rw [← lw, List.take_length, hbig, bigR8_2]; simp))
    rfl
  · exact Gc.by [0] rfl (by decide) (.cons _ _ _ _ (.sl _ _ _ _ _ _ rfl) (.free _ rfl)) (.cons _ _ _ _ _ rfl (.row (by simp) (by simp)) .nil)


theorem putsR1 {b : List UInt8} {v p : Int} (hb : b.length ≤ 200) (hv : 0 ≤ v ∧ v < 18446744073709551616) (hp : -9223372036854775808 ≤ p ∧ p < 9223372036854775808) :
    ∃ pr vs1 h1, qround Try.prog t1p 100 4 pr (autoT Try.prog (deepT Try.prog t1p 100 4) 100 4 (loopIn (bodyOf Try.prog 4) 0)) (loopIn (bodyOf Try.prog 4) 0) mPuts (vPuts b p v 1) [farB b] = some (.norm, vs1, h1) ∧ Gc 1 vs1 h1 (vPuts b p v 2) [farB b] := by
  by_cases h1 : p < 0
  · exact ⟨_, putsB11 hb hv hp h1⟩
  by_cases h2 : (b.length : Int) < p
  · exact ⟨_, putsB12 hb hv hp ⟨by omega, h2⟩⟩
  by_cases h3 : (b.length : Int) < p + 2
  · exact ⟨_, putsB13 hb hv hp ⟨by omega, by omega, h3⟩⟩
  obtain ⟨q, rfl⟩ := Int.eq_ofNat_of_zero_le (show 0 ≤ p by omega)
  exact ⟨_, putsG1 hb hv (by omega)⟩


theorem putsB21 {b : List UInt8} {v p : Int} (hb : b.length ≤ 200) (hv : 0 ≤ v ∧ v < 18446744073709551616) (hp : -9223372036854775808 ≤ p ∧ p < 9223372036854775808) (h : p < 0) :
    ∃ vs1 h1, qround Try.prog t1p 100 4 [(119, .bool false), (129, .bool false), (76, .bool false), (58, .bool false)] (autoT Try.prog (deepT Try.prog t1p 100 4) 100 4 (loopIn (bodyOf Try.prog 4) 0)) (loopIn (bodyOf Try.prog 4) 0) mPuts (vPuts b p v 2) [farB b] = some (.norm, vs1, h1) ∧ Gc 1 vs1 h1 (vPuts b p v 3) [farB b] := by
  rw [nfPutsR21]

  have hw : IntKind.u32.wrap v = v % 256 ^ 4 := by simp [IntKind.wrap, IntKind.bits, IntKind.signed]
  have hr : 0 ≤ (IntKind.u32.wrap v) ∧ (IntKind.u32.wrap v) < 4294967296 := by rw [hw]; omega
  have hbig : bigR (IntKind.u32.wrap v) 4 = bigR v 4 := by rw [hw, bigR_emod v 4 4 (by omega)]
  have g := bOk_far (h := hPutsR210 b p v) (k := 0) (l := b) rfl
  have lw : (b ++ bigR (IntKind.u32.wrap v) 4).length = b.length + 4 := by simp
  have e1 : putR b p 4 (IntKind.u32.wrap v) = b := by rw [putR, if_neg (by omega)]
  have e2 : bOf (hPutsR210 b p v) (AV.sl (some (0, 0)) b.length 0 false) = b := g.2
  have e3 : bOk (hPutsR210 b p v) (AV.sl (some (0, 0)) b.length 0 false) = true := g.1
  refine ⟨?_, ?_, ?_, ?_⟩
  rotate_left 2
  · simp only [e2, e3, Nat.zero_add, Nat.mul_one, bys_full, bys_take, List.take_length, intV_some, bys_length, bys_byteD, List.length_cons, List.length_nil, List.length_append, bigR_length, Nat.add_zero, e1]
    repeat (refine (if_pos ?_).trans ?_; · first | omega | (simp [boolV]; done) | (simp [boolV]; omega) | (refine cdec_true.2 ?_; simp; omega) | (rw [Bool.true_and]; exact decide_eq_true ⟨by simp only [nOf]; omega, hr⟩) | (rw [← lw, List.take_length, hbig, bigR8_4]; simp))
    rfl
  · exact Gc.by [0] rfl (by decide) (.cons _ _ _ _ (.sl _ _ _ _ _ _ rfl) (.free _ rfl)) (.cons _ _ _ _ _ rfl (.row (by simp) (by simp)) .nil)


theorem putsB22 {b : List UInt8} {v p : Int} (hb : b.length ≤ 200) (hv : 0 ≤ v ∧ v < 18446744073709551616) (hp : -9223372036854775808 ≤ p ∧ p < 9223372036854775808) (h : 0 ≤ p ∧ (b.length : Int) < p) :
    ∃ vs1 h1, qround Try.prog t1p 100 4 [(119, .bool false), (129, .bool false), (76, .bool true), (81, .bool false), (58, .bool false)] (autoT Try.prog (deepT Try.prog t1p 100 4) 100 4 (loopIn (bodyOf Try.prog 4) 0)) (loopIn (bodyOf Try.prog 4) 0) mPuts (vPuts b p v 2) [farB b] = some (.norm, vs1, h1) ∧ Gc 1 vs1 h1 (vPuts b p v 3) [farB b] := by
  rw [nfPutsR22]

  have hw : IntKind.u32.wrap v = v % 256 ^ 4 := by simp [IntKind.wrap, IntKind.bits, IntKind.signed]
  have hr : 0 ≤ (IntKind.u32.wrap v) ∧ (IntKind.u32.wrap v) < 4294967296 := by rw [hw]; omega
  have hbig : bigR (IntKind.u32.wrap v) 4 = bigR v 4 := by rw [hw, bigR_emod v 4 4 (by omega)]
  have g := bOk_far (h := hPutsR220 b p v) (k := 0) (l := b) rfl
  have lw : (b ++ bigR (IntKind.u32.wrap v) 4).length = b.length + 4 := by simp
  have e1 : putR b p 4 (IntKind.u32.wrap v) = b := by rw [putR, if_neg (by omega)]
  have e2 : bOf (hPutsR220 b p v) (AV.sl (some (0, 0)) b.length 0 false) = b := g.2
  have e3 : bOk (hPutsR220 b p v) (AV.sl (some (0, 0)) b.length 0 false) = true := g.1
  refine ⟨?_, ?_, ?_, ?_⟩
  rotate_left 2
  · simp only [e2, e3, Nat.zero_add, Nat.mul_one, bys_full, bys_take, List.take_length, intV_some, bys_length, bys_byteD, List.length_cons, List.length_nil, List.length_append, bigR_length, Nat.add_zero, e1]
    repeat (refine (if_pos ?_).trans ?_; · first | omega | (simp [boolV]; done) | (simp [boolV]; omega) | (refine cdec_true.2 ?_; simp; omega) | (rw [Bool.true_and]; exact decide_eq_true ⟨by simp only [nOf]; omega, hr⟩) | (rw [← lw, List.take_length, hbig, bigR8_4]; simp))
    rfl
  · exact Gc.by [0] rfl (by decide) (.cons _ _ _ _ (.sl _ _ _ _ _ _ rfl) (.free _ rfl)) (.cons _ _ _ _ _ rfl (.row (by simp) (by simp)) .nil)


theorem putsB23 {b : List UInt8} {v p : Int} (hb : b.length ≤ 200) (hv : 0 ≤ v ∧ v < 18446744073709551616) (hp : -9223372036854775808 ≤ p ∧ p < 9223372036854775808) (h : 0 ≤ p ∧ p ≤ (b.length : Int) ∧ (b.length : Int) < p + 4) :
    ∃ vs1 h1, qround Try.prog t1p 100 4 [(119, .bool false), (129, .bool false), (76, .bool true), (81, .bool true), (89, .bool false), (58, .bool false)] (autoT Try.prog (deepT Try.prog t1p 100 4) 100 4 (loopIn (bodyOf Try.prog 4) 0)) (loopIn (bodyOf Try.prog 4) 0) mPuts (vPuts b p v 2) [farB b] = some (.norm, vs1, h1) ∧ Gc 1 vs1 h1 (vPuts b p v 3) [farB b] := by
  rw [nfPutsR23]
  have w1 : IntKind.i64.wrap ((b.length : Int) - p) = b.length - p := wrapI64 (by omega)
  have hw : IntKind.u32.wrap v = v % 256 ^ 4 := by simp [IntKind.wrap, IntKind.bits, IntKind.signed]
  have hr : 0 ≤ (IntKind.u32.wrap v) ∧ (IntKind.u32.wrap v) < 4294967296 := by rw [hw]; omega
  have hbig : bigR (IntKind.u32.wrap v) 4 = bigR v 4 := by rw [hw, bigR_emod v 4 4 (by omega)]
  have g := bOk_far (h := hPutsR230 b p v) (k := 0) (l := b) rfl
  have lw : (b ++ bigR (IntKind.u32.wrap v) 4).length = b.length + 4 := by simp
  have e1 : putR b p 4 (IntKind.u32.wrap v) = b := by rw [putR, if_neg (by omega)]
  have e2 : bOf (hPutsR230 b p v) (AV.sl (some (0, 0)) b.length 0 false) = b := g.2
  have e3 : bOk (hPutsR230 b p v) (AV.sl (some (0, 0)) b.length 0 false) = true := g.1
  refine ⟨?_, ?_, ?_, ?_⟩
  rotate_left 2
  · simp only [w1, e2, e3, Nat.zero_add, Nat.mul_one, bys_full, bys_take, List.take_length, intV_some, bys_length, bys_byteD, List.length_cons, List.length_nil, List.length_append, bigR_length, Nat.add_zero, e1]
    repeat (refine (if_pos ?_).trans ?_; · first | omega | (simp [boolV]; done) | (simp [boolV]; omega) | (refine cdec_true.2 ?_; simp; omega) | (rw [Bool.true_and]; exact decide_eq_true ⟨by simp only [nOf]; omega, hr⟩) | (rw [← lw, List.take_length, hbig, bigR8_4]; simp))
    rfl
  · exact Gc.by [0] rfl (by decide) (.cons _ _ _ _ (.sl _ _ _ _ _ _ rfl) (.free _ rfl)) (.cons _ _ _ _ _ rfl (.row (by simp) (by simp)) .nil)


theorem putsR2 {b : List UInt8} {v p : Int} (hb : b.length ≤ 200) (hv : 0 ≤ v ∧ v < 18446744073709551616) (hp : -9223372036854775808 ≤ p ∧ p < 9223372036854775808) :
    ∃ pr vs1 h1, qround Try.prog t1p 100 4 pr (autoT Try.prog (deepT Try.prog t1p 100 4) 100 4 (loopIn (bodyOf Try.prog 4) 0)) (loopIn (bodyOf Try.prog 4) 0) mPuts (vPuts b p v 2) [farB b] = some (.norm, vs1, h1) ∧ Gc 1 vs1 h1 (vPuts b p v 3) [farB b] := by
  by_cases h1 : p < 0
  · exact ⟨_, putsB21 hb hv hp h1⟩
  by_cases h2 : (b.length : Int) < p
  · exact ⟨_, putsB22 hb hv hp ⟨by omega, h2⟩⟩
  by_cases h3 : (b.length : Int) < p + 4
  · exact ⟨_, putsB23 hb hv hp ⟨by omega, by omega, h3⟩⟩
  obtain ⟨q, rfl⟩ := Int.eq_ofNat_of_zero_le (show 0 ≤ p by omega)
  exact ⟨_, putsG2 hb hv (by omega)⟩


theorem putsB31 {b : List UInt8} {v p : Int} (hb : b.length ≤ 200) (hv : 0 ≤ v ∧ v < 18446744073709551616) (hp : -9223372036854775808 ≤ p ∧ p < 9223372036854775808) (h : p < 0) :
    ∃ vs1 h1, qround Try.prog t1p 100 4 [(119, .bool false), (129, .bool false), (76, .bool false), (68, .bool false)] (autoT Try.prog (deepT Try.prog t1p 100 4) 100 4 (loopIn (bodyOf Try.prog 4) 0)) (loopIn (bodyOf Try.prog 4) 0) mPuts (vPuts b p v 3) [farB b] = some (.norm, vs1, h1) ∧ Gc 1 vs1 h1 (vPuts b p v 4) [farB b] := by
  rw [nfPutsR31]

  have hr : 0 ≤ v ∧ v < 18446744073709551616 := hv
  have g := bOk_far (h := hPutsR310 b p v) (k := 0) (l := b) rfl
  have lw : (b ++ bigR v 8).length = b.length + 8 := by simp
  have e1 : putR b p 8 v = b := by rw [putR, if_neg (by omega)]
  have e2 : bOf (hPutsR310 b p v) (AV.sl (some (0, 0)) b.length 0 false) = b := g.2
  have e3 : bOk (hPutsR310 b p v) (AV.sl (some (0, 0)) b.length 0 false) = true := g.1
  refine ⟨?_, ?_, ?_, ?_⟩
  rotate_left 2
  · simp only [e2, e3, Nat.zero_add, Nat.mul_one, bys_full, bys_take, List.take_length, intV_some, bys_length, bys_byteD, List.length_cons, List.length_nil, List.length_append, bigR_length, Nat.add_zero, e1]
    repeat (refine (if_pos ?_).trans ?_; · first | omega | (simp [boolV]; done) | (simp [boolV]; omega) | (refine cdec_true.2 ?_; simp; omega) | (rw [Bool.true_and]; exact decide_eq_true ⟨by simp only [nOf]; omega, hr⟩) | (rw [← lw, List.take_length, bigR8_8]; simp))
    rfl
  · exact Gc.by [0] rfl (by decide) (.cons _ _ _ _ (.sl _ _ _ _ _ _ rfl) (.free _ rfl)) (.cons _ _ _ _ _ rfl (.row (by simp) (by simp)) .nil)


theorem putsB32 {b : List UInt8} {v p : Int} (hb : b.length ≤ 200) (hv : 0 ≤ v ∧ v < 18446744073709551616) (hp : -9223372036854775808 ≤ p ∧ p < 9223372036854775808) (h : 0 ≤ p ∧ (b.length : Int) < p) :
    ∃ vs1 h1, qround Try.prog t1p 100 4 [(119, .bool false), (129, .bool false), (76, .bool true), (81, .bool false), (68, .bool false)] (autoT Try.prog (deepT Try.prog t1p 100 4) 100 4 (loopIn (bodyOf Try.prog 4) 0)) (loopIn (bodyOf Try.prog 4) 0) mPuts (vPuts b p v 3) [farB b] = some (.norm, vs1, h1) ∧ Gc 1 vs1 h1 (vPuts b p v 4) [farB b] := by
  rw [nfPutsR32]

  have hr : 0 ≤ v ∧ v < 18446744073709551616 := hv
  have g := bOk_far (h := hPutsR320 b p v) (k := 0) (l := b) rfl
  have lw : (b ++ bigR v 8).length = b.length + 8 := by simp
  have e1 : putR b p 8 v = b := by rw [putR, if_neg (by omega)]
  have e2 : bOf (hPutsR320 b p v) (AV.sl (some (0, 0)) b.length 0 false) = b := g.2
  have e3 : bOk (hPutsR320 b p v) (AV.sl (some (0, 0)) b.length 0 false) = true := g.1
  refine ⟨?_, ?_, ?_, ?_⟩
  rotate_left 2
  · simp only [e2, e3, Nat.zero_add, Nat.mul_one, bys_full, bys_take, List.take_length, intV_some, bys_length, bys_byteD, List.length_cons, List.length_nil, List.length_append, bigR_length, Nat.add_zero, e1]
    repeat (refine (if_pos ?_).trans ?_; · first | omega | (simp [boolV]; done) | (simp [boolV]; omega) | (refine cdec_true.2 ?_; simp; omega) | (rw [Bool.true_and]; exact decide_eq_true ⟨by simp only [nOf]; omega, hr⟩) | (rw [← lw, List.take_length, bigR8_8]; simp))
    rfl
  · exact Gc.by [0] rfl (by decide) (.cons _ _ _ _ (.sl _ _ _ _ _ _ rfl) (.free _ rfl)) (.cons _ _ _ _ _ rfl (.row (by simp) (by simp)) .nil)


theorem putsB33 {b : List UInt8} {v p : Int} (hb : b.length ≤ 200) (hv : 0 ≤ v ∧ v < 18446744073709551616) (hp : -9223372036854775808 ≤ p ∧ p < 9223372036854775808) (h : 0 ≤ p ∧ p ≤ (b.length : Int) ∧ (b.length : Int) < p + 8) :
    ∃ vs1 h1, qround Try.prog t1p 100 4 [(119, .bool false), (129, .bool false), (76, .bool true), (81, .bool true), (89, .bool false), (68, .bool false)] (autoT Try.prog (deepT Try.prog t1p 100 4) 100 4 (loopIn (bodyOf Try.prog 4) 0)) (loopIn (bodyOf Try.prog 4) 0) mPuts (vPuts b p v 3) [farB b] = some (.norm, vs1, h1) ∧ Gc 1 vs1 h1 (vPuts b p v 4) [farB b] := by
  rw [nfPutsR33]
  have w1 : IntKind.i64.wrap ((b.length : Int) - p) = b.length - p := wrapI64 (by omega)
  have hr : 0 ≤ v ∧ v < 18446744073709551616 := hv
  have g := bOk_far (h := hPutsR330 b p v) (k := 0) (l := b) rfl
  have lw : (b ++ bigR v 8).length = b.length + 8 := by simp
  have e1 : putR b p 8 v = b := by rw [putR, if_neg (by omega)]
  have e2 : bOf (hPutsR330 b p v) (AV.sl (some (0, 0)) b.length 0 false) = b := g.2
  have e3 : bOk (hPutsR330 b p v) (AV.sl (some (0, 0)) b.length 0 false) = true := g.1
  refine ⟨?_, ?_, ?_, ?_⟩
  rotate_left 2
  · simp only [w1, e2, e3, Nat.zero_add, Nat.mul_one, bys_full, bys_take, List.take_length, intV_some, bys_length, bys_byteD, List.length_cons, List.length_nil, List.length_append, bigR_length, Nat.add_zero, e1]
    repeat (refine (if_pos ?_).trans ?_; · first | omega | (simp [boolV]; done) | (simp [boolV]; omega) | (refine cdec_true.2 ?_; simp; omega) | (rw [Bool.true_and]; exact decide_eq_true ⟨by simp only [nOf]; omega, hr⟩) | (rw [← lw, List.take_length, bigR8_8]; simp))
    rfl
  · exact Gc.by [0] rfl (by decide) (.cons _ _ _ _ (.sl _ _ _ _ _ _ rfl) (.free _ rfl)) (.cons _ _ _ _ _ rfl (.row (by simp) (by simp)) .nil)


theorem putsR3 {b : List UInt8} {v p : Int} (hb : b.length ≤ 200) (hv : 0 ≤ v ∧ v < 18446744073709551616) (hp : -9223372036854775808 ≤ p ∧ p < 9223372036854775808) :
    ∃ pr vs1 h1, qround Try.prog t1p 100 4 pr (autoT Try.prog (deepT Try.prog t1p 100 4) 100 4 (loopIn (bodyOf Try.prog 4) 0)) (loopIn (bodyOf Try.prog 4) 0) mPuts (vPuts b p v 3) [farB b] = some (.norm, vs1, h1) ∧ Gc 1 vs1 h1 (vPuts b p v 4) [farB b] := by
  by_cases h1 : p < 0
  · exact ⟨_, putsB31 hb hv hp h1⟩
  by_cases h2 : (b.length : Int) < p
  · exact ⟨_, putsB32 hb hv hp ⟨by omega, h2⟩⟩
  by_cases h3 : (b.length : Int) < p + 8
  · exact ⟨_, putsB33 hb hv hp ⟨by omega, by omega, h3⟩⟩
  obtain ⟨q, rfl⟩ := Int.eq_ofNat_of_zero_le (show 0 ≤ p by omega)
  exact ⟨_, putsG3 hb hv (by omega)⟩


theorem runOctetPuts (b : List UInt8) (p v : Int) (_ : b.length ≤ maxLen) (hp : -9223372036854775808 ≤ p ∧ p < 9223372036854775808) (hv : 0 ≤ v ∧ v < 18446744073709551616) :
    ∃ h', Runs Try.prog 4 [slB 0 b, .int .i64 p, .int .u64 v] [farB b] (.bool true) h' := by
  have hL : LoopsOk Try.prog (lsT (autoT Try.prog (deepT Try.prog t1p 100 4) 100 4 (loopIn (bodyOf Try.prog 4) 0))) (loopIn (bodyOf Try.prog 4) 0) := by rw [autoT_ls]; exact autoLS_ok (deepT_sound t1pOk 100 4) 100 4 _
  have key : b.length ≤ 200 → ∃ k, GReach (roundG Try.prog (deepT Try.prog t1p 100 4) (lsT (autoT Try.prog (deepT Try.prog t1p 100 4) 100 4 (loopIn (bodyOf Try.prog 4) 0))) (loopIn (bodyOf Try.prog 4) 0) mPuts) 1 k (vPuts b p v 0) [farB b] (.exit 0) (vPuts b p v 4) [farB b] := by
    intro hb
    refine loop_T (F := 100) (n := 4) (fun i => (vPuts b p v i, [farB b])) (N := 4) (by simp) (fun i hi => ?_) ⟨[], _, _, nfPutsS b p v, Gc.refl⟩
    rcases (by omega : i = 0 ∨ i = 1 ∨ i = 2 ∨ i = 3) with rfl | rfl | rfl | rfl
    · exact putsR0 hb hv hp
    · exact putsR1 hb hv hp
    · exact putsR2 hb hv hp
    · exact putsR3 hb hv hp
  have lp : loopsOf (bodyOf Try.prog 4) = [(loopIn (bodyOf Try.prog 4) 0)] := by kernel_rfl
  refine Runs.valT t1pOk (F := 100) (n := 4) (pr := []) (only (k := 4) lp (fixC_T t1pOk (F := 100) (n := 4) hL key)) ?_
  rw [nfPuts]
  by_cases h : b.length ≤ 200
  case neg => exact if_pos (by simp; omega)
  refine (if_neg (by simp; omega)).trans ?_
  exact if_pos (cdec_true.2 ⟨h, rfl, rfl⟩)


end Go.Proofs.Ytejbipoibpefnaa.L