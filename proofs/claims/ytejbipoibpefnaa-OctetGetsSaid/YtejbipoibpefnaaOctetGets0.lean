/- OctetGets' run. -/
import Derived.Test.YtejbipoibpefnaaOctAll
import Derived.Test.YtejbipoibpefnaaBig
import Derived.Test.YtejbipoibpefnaaPure
import Derived.Test.YtejbipoibpefnaaAwake1
set_option autoImplicit false
set_option maxRecDepth 100000
set_option linter.unusedVariables false
set_option linter.unusedSimpArgs false
namespace Go.Proofs.Ytejbipoibpefnaa.L
open Go Go.Abs

noncomputable def t1g : Tbl := [(9, entF eGet8), (10, entF eGet16), (11, entF eGet32), (12, entF eGet64), (13, entF eBig), (8, entF eAwake)]
theorem t1gOk : ∀ f E, t1g.find f = some E → SoundE Try.prog f E := find_cons sGet8 (find_cons sGet16 (find_cons sGet32 (find_cons sGet64 (find_cons sBig (find_cons sAwake (find_nil _))))))

def mGets : List Bool := List.replicate 2 true ++ List.replicate 11 false ++ List.replicate 3 true ++ List.replicate 103 false
def vGets (b : List UInt8) (p n : Int) : List AV := [slB 0 b, .int .i64 p, .sl (some (1, 0)) 4 0 false, .sl (some (2, 0)) 4 0 false, .int .i64 n]
def hGets (b : List UInt8) (g0 g1 g2 g3 : Int) (f0 f1 f2 f3 : Bool) : AHeap := [farB b, .cells [.int .u64 g0, .int .u64 g1, .int .u64 g2, .int .u64 g3] 1 .own none, .cells [.bool f0, .bool f1, .bool f2, .bool f3] 1 .own none]

noncomputable def hGets0 (b : List UInt8) (p : Int) (q : Prop) (vs0 : List AV) (h0 h1 : AHeap) : AHeap := [ABlk.cells (bys b) 1 Md.far none]
noncomputable def hGets1 (b : List UInt8) (p : Int) (q : Prop) (vs0 : List AV) (h0 h1 : AHeap) : AHeap := [ABlk.cells (bys b) 1 Md.far none, ABlk.cells [AV.int IntKind.u64 (IntKind.u64.wrap (if 0 ≤ p ∧ p + 1 ≤ (((bOf (hGets0 b p q vs0 h0 h1) (AV.sl (some (0, 0)) b.length 0 false)).length : Nat) : Int) then numAt (bOf (hGets0 b p q vs0 h0 h1) (AV.sl (some (0, 0)) b.length 0 false)) p.toNat 1 else 0)), AV.int IntKind.u64 (IntKind.u64.wrap (if 0 ≤ p ∧ p + 2 ≤ (((bOf (hGets0 b p q vs0 h0 h1) (AV.sl (some (0, 0)) b.length 0 false)).length : Nat) : Int) then numAt (bOf (hGets0 b p q vs0 h0 h1) (AV.sl (some (0, 0)) b.length 0 false)) p.toNat 2 else 0)), AV.int IntKind.u64 (IntKind.u64.wrap (if 0 ≤ p ∧ p + 4 ≤ (((bOf (hGets0 b p q vs0 h0 h1) (AV.sl (some (0, 0)) b.length 0 false)).length : Nat) : Int) then numAt (bOf (hGets0 b p q vs0 h0 h1) (AV.sl (some (0, 0)) b.length 0 false)) p.toNat 4 else 0)), AV.int IntKind.u64 (if 0 ≤ p ∧ p + 8 ≤ (((bOf (hGets0 b p q vs0 h0 h1) (AV.sl (some (0, 0)) b.length 0 false)).length : Nat) : Int) then numAt (bOf (hGets0 b p q vs0 h0 h1) (AV.sl (some (0, 0)) b.length 0 false)) p.toNat 8 else 0)] 1 Md.own none, ABlk.cells [AV.bool (decide (0 ≤ p ∧ p + 1 ≤ (((bOf (hGets0 b p q vs0 h0 h1) (AV.sl (some (0, 0)) b.length 0 false)).length : Nat) : Int))), AV.bool (decide (0 ≤ p ∧ p + 2 ≤ (((bOf (hGets0 b p q vs0 h0 h1) (AV.sl (some (0, 0)) b.length 0 false)).length : Nat) : Int))), AV.bool (decide (0 ≤ p ∧ p + 4 ≤ (((bOf (hGets0 b p q vs0 h0 h1) (AV.sl (some (0, 0)) b.length 0 false)).length : Nat) : Int))), AV.bool (decide (0 ≤ p ∧ p + 8 ≤ (((bOf (hGets0 b p q vs0 h0 h1) (AV.sl (some (0, 0)) b.length 0 false)).length : Nat) : Int)))] 1 Md.own none]
theorem nfGets {R : Type} (b : List UInt8) (p : Int) (q : Prop) (vs0 : List AV) (h0 h1 : AHeap) (K : AV → Option R) :
    qrun Try.prog t1g 100 4 [] [(10, fixC q mGets vs0 h0 (.exit 0) (vGets b p 4) h1)] 3 [slB 0 b, .int .i64 p] [farB b] (fun v _ => K v) =
    (if decide ((b.length : Int) > 200) = true then
      K (AV.bool true)
    else (if (bOk (hGets0 b p q vs0 h0 h1) (AV.sl (some (0, 0)) b.length 0 false) && decide ((((nOf (AV.sl (some (0, 0)) b.length 0 false)) : Nat) : Int) < 9223372036854775000)) = true then
        (if (bOk (hGets0 b p q vs0 h0 h1) (AV.sl (some (0, 0)) b.length 0 false) && decide ((((nOf (AV.sl (some (0, 0)) b.length 0 false)) : Nat) : Int) < 9223372036854775000)) = true then
          (if (bOk (hGets0 b p q vs0 h0 h1) (AV.sl (some (0, 0)) b.length 0 false) && decide ((((nOf (AV.sl (some (0, 0)) b.length 0 false)) : Nat) : Int) < 9223372036854775000)) = true then
            (if (bOk (hGets0 b p q vs0 h0 h1) (AV.sl (some (0, 0)) b.length 0 false) && decide ((((nOf (AV.sl (some (0, 0)) b.length 0 false)) : Nat) : Int) < 9223372036854775000)) = true then
              (if cdec (q ∧ [AV.sl (some (0, 0)) b.length 0 false, AV.int IntKind.i64 p, AV.sl (some (1, 0)) 4 0 false, AV.sl (some (2, 0)) 4 0 false, AV.int IntKind.i64 0] = vs0 ∧ (hGets1 b p q vs0 h0 h1) = h0) = true then
                K (AV.bool true)
              else none)
            else none)
          else none)
        else none)
      else none)) := by
  kernel_rfl

noncomputable def hGetsS0 (b : List UInt8) (p : Int) (g0 g1 g2 g3 : Int) (f0 f1 f2 f3 : Bool) : AHeap := [ABlk.cells (bys b) 1 Md.far none, ABlk.cells [AV.int IntKind.u64 g0, AV.int IntKind.u64 g1, AV.int IntKind.u64 g2, AV.int IntKind.u64 g3] 1 Md.own none, ABlk.cells [AV.bool f0, AV.bool f1, AV.bool f2, AV.bool f3] 1 Md.own none]
theorem nfGetsS (b : List UInt8) (p : Int) (g0 g1 g2 g3 : Int) (f0 f1 f2 f3 : Bool) :
    qround Try.prog t1g 100 4 [] noT (loopIn (bodyOf Try.prog 3) 0) mGets (vGets b p 4) (hGets b g0 g1 g2 g3 f0 f1 f2 f3) =
    some ((AEx.exit 0, [AV.sl (some (0, 0)) b.length 0 false, AV.int IntKind.i64 p, AV.sl (some (1, 0)) 4 0 false, AV.sl (some (2, 0)) 4 0 false, AV.int IntKind.i64 4], (hGetsS0 b p g0 g1 g2 g3 f0 f1 f2 f3))) := by
  kernel_rfl

noncomputable def hGetsR00 (b : List UInt8) (p : Int) (g0 g1 g2 g3 : Int) (f0 f1 f2 f3 : Bool) : AHeap := [ABlk.cells (bys b) 1 Md.far none, ABlk.cells [AV.int IntKind.u64 g0, AV.int IntKind.u64 g1, AV.int IntKind.u64 g2, AV.int IntKind.u64 g3] 1 Md.own none, ABlk.cells [AV.bool f0, AV.bool f1, AV.bool f2, AV.bool f3] 1 Md.own none]
noncomputable def hGetsR01 (b : List UInt8) (p : Int) (g0 g1 g2 g3 : Int) (f0 f1 f2 f3 : Bool) : AHeap := [ABlk.cells (bys b) 1 Md.far none, ABlk.cells [AV.int IntKind.u64 g0, AV.int IntKind.u64 g1, AV.int IntKind.u64 g2, AV.int IntKind.u64 g3] 1 Md.own none, ABlk.cells [AV.bool f0, AV.bool f1, AV.bool f2, AV.bool f3] 1 Md.own none, ABlk.cells [AV.int IntKind.u8 (((u8i ((intV (some (AV.int IntKind.u64 g0))).fdiv 1)).toNat : Nat) : Int)] 1 Md.own none]
theorem nfGetsR0 (b : List UInt8) (p : Int) (g0 g1 g2 g3 : Int) (f0 f1 f2 f3 : Bool) :
    qround Try.prog t1g 100 4 [] noT (loopIn (bodyOf Try.prog 3) 0) mGets (vGets b p 0) (hGets b g0 g1 g2 g3 f0 f1 f2 f3) =
    (if decide (p ≥ 0) = true then
      (if decide (p ≤ (b.length : Int)) = true then
        (if (!boolV (some (AV.bool f0)) == decide (IntKind.i64.wrap ((b.length : Int) - p) ≥ 1)) = true then
          some ((AEx.ret, [AV.sl (some (0, 0)) b.length 0 false, AV.int IntKind.i64 p, AV.sl (some (1, 0)) 4 0 false, AV.sl (some (2, 0)) 4 0 false, AV.int IntKind.i64 0], (hGetsR00 b p g0 g1 g2 g3 f0 f1 f2 f3)))
        else (if (!decide (IntKind.i64.wrap ((b.length : Int) - p) ≥ 1)) = true then
            (if (intV (some (AV.int IntKind.u64 g0)) != 0) = true then
              some ((AEx.ret, [AV.sl (some (0, 0)) b.length 0 false, AV.int IntKind.i64 p, AV.sl (some (1, 0)) 4 0 false, AV.sl (some (2, 0)) 4 0 false, AV.int IntKind.i64 0], (hGetsR00 b p g0 g1 g2 g3 f0 f1 f2 f3)))
            else (if decide (IntKind.i64.wrap ((b.length : Int) - p) ≥ 1) = true then
                (if 0 ≤ IntKind.i64.wrap (p + 1) ∧ IntKind.i64.wrap (p + 1) ≤ (((capOf b.length 0 false) : Nat) : Int) then
                  (if 0 ≤ p ∧ p ≤ IntKind.i64.wrap (p + 1) then
                    (if 0 + p.toNat * 1 + ((IntKind.i64.wrap (p + 1)).toNat - p.toNat) ≤ (bys b).length then
                      (if (List.take ((IntKind.i64.wrap (p + 1)).toNat - p.toNat) (List.drop (0 + p.toNat * 1) (bys b))).all isByte = true then
                        (if 0 + p.toNat * 1 + ((IntKind.i64.wrap (p + 1)).toNat - p.toNat) ≤ (bys b).length then
                          (if (List.take ((IntKind.i64.wrap (p + 1)).toNat - p.toNat) (List.drop (0 + p.toNat * 1) (bys b))).all isByte = true then
                            (if (AV.str (List.map byteD (List.take ((IntKind.i64.wrap (p + 1)).toNat - p.toNat) (List.drop (0 + p.toNat * 1) (bys b))))).beq (AV.str (List.map byteD (List.take ((IntKind.i64.wrap (p + 1)).toNat - p.toNat) (List.drop (0 + p.toNat * 1) (bys b))))) = true then
                              (if (!decide (List.map byteD [AV.int IntKind.u8 (((u8i ((intV (some (AV.int IntKind.u64 g0))).fdiv 1)).toNat : Nat) : Int)] = List.map byteD (List.take ((IntKind.i64.wrap (p + 1)).toNat - p.toNat) (List.drop (0 + p.toNat * 1) (bys b))))) = true then
                                some ((AEx.ret, [AV.sl (some (0, 0)) b.length 0 false, AV.int IntKind.i64 p, AV.sl (some (1, 0)) 4 0 false, AV.sl (some (2, 0)) 4 0 false, AV.int IntKind.i64 0], (hGetsR01 b p g0 g1 g2 g3 f0 f1 f2 f3)))
                              else some ((AEx.norm, [AV.sl (some (0, 0)) b.length 0 false, AV.int IntKind.i64 p, AV.sl (some (1, 0)) 4 0 false, AV.sl (some (2, 0)) 4 0 false, AV.int IntKind.i64 1], (hGetsR01 b p g0 g1 g2 g3 f0 f1 f2 f3))))
                            else none)
                          else none)
                        else none)
                      else none)
                    else none)
                  else none)
                else none)
              else some ((AEx.norm, [AV.sl (some (0, 0)) b.length 0 false, AV.int IntKind.i64 p, AV.sl (some (1, 0)) 4 0 false, AV.sl (some (2, 0)) 4 0 false, AV.int IntKind.i64 1], (hGetsR00 b p g0 g1 g2 g3 f0 f1 f2 f3)))))
          else (if decide (IntKind.i64.wrap ((b.length : Int) - p) ≥ 1) = true then
              (if 0 ≤ IntKind.i64.wrap (p + 1) ∧ IntKind.i64.wrap (p + 1) ≤ (((capOf b.length 0 false) : Nat) : Int) then
                (if 0 ≤ p ∧ p ≤ IntKind.i64.wrap (p + 1) then
                  (if 0 + p.toNat * 1 + ((IntKind.i64.wrap (p + 1)).toNat - p.toNat) ≤ (bys b).length then
                    (if (List.take ((IntKind.i64.wrap (p + 1)).toNat - p.toNat) (List.drop (0 + p.toNat * 1) (bys b))).all isByte = true then
                      (if 0 + p.toNat * 1 + ((IntKind.i64.wrap (p + 1)).toNat - p.toNat) ≤ (bys b).length then
                        (if (List.take ((IntKind.i64.wrap (p + 1)).toNat - p.toNat) (List.drop (0 + p.toNat * 1) (bys b))).all isByte = true then
                          (if (AV.str (List.map byteD (List.take ((IntKind.i64.wrap (p + 1)).toNat - p.toNat) (List.drop (0 + p.toNat * 1) (bys b))))).beq (AV.str (List.map byteD (List.take ((IntKind.i64.wrap (p + 1)).toNat - p.toNat) (List.drop (0 + p.toNat * 1) (bys b))))) = true then
                            (if (!decide (List.map byteD [AV.int IntKind.u8 (((u8i ((intV (some (AV.int IntKind.u64 g0))).fdiv 1)).toNat : Nat) : Int)] = List.map byteD (List.take ((IntKind.i64.wrap (p + 1)).toNat - p.toNat) (List.drop (0 + p.toNat * 1) (bys b))))) = true then
                              some ((AEx.ret, [AV.sl (some (0, 0)) b.length 0 false, AV.int IntKind.i64 p, AV.sl (some (1, 0)) 4 0 false, AV.sl (some (2, 0)) 4 0 false, AV.int IntKind.i64 0], (hGetsR01 b p g0 g1 g2 g3 f0 f1 f2 f3)))
                            else some ((AEx.norm, [AV.sl (some (0, 0)) b.length 0 false, AV.int IntKind.i64 p, AV.sl (some (1, 0)) 4 0 false, AV.sl (some (2, 0)) 4 0 false, AV.int IntKind.i64 1], (hGetsR01 b p g0 g1 g2 g3 f0 f1 f2 f3))))
                          else none)
                        else none)
                      else none)
                    else none)
                  else none)
                else none)
              else none)
            else some ((AEx.norm, [AV.sl (some (0, 0)) b.length 0 false, AV.int IntKind.i64 p, AV.sl (some (1, 0)) 4 0 false, AV.sl (some (2, 0)) 4 0 false, AV.int IntKind.i64 1], (hGetsR00 b p g0 g1 g2 g3 f0 f1 f2 f3))))))
      else (if (!boolV (some (AV.bool f0)) == false) = true then
          some ((AEx.ret, [AV.sl (some (0, 0)) b.length 0 false, AV.int IntKind.i64 p, AV.sl (some (1, 0)) 4 0 false, AV.sl (some (2, 0)) 4 0 false, AV.int IntKind.i64 0], (hGetsR00 b p g0 g1 g2 g3 f0 f1 f2 f3)))
        else (if (intV (some (AV.int IntKind.u64 g0)) != 0) = true then
            some ((AEx.ret, [AV.sl (some (0, 0)) b.length 0 false, AV.int IntKind.i64 p, AV.sl (some (1, 0)) 4 0 false, AV.sl (some (2, 0)) 4 0 false, AV.int IntKind.i64 0], (hGetsR00 b p g0 g1 g2 g3 f0 f1 f2 f3)))
          else some ((AEx.norm, [AV.sl (some (0, 0)) b.length 0 false, AV.int IntKind.i64 p, AV.sl (some (1, 0)) 4 0 false, AV.sl (some (2, 0)) 4 0 false, AV.int IntKind.i64 1], (hGetsR00 b p g0 g1 g2 g3 f0 f1 f2 f3))))))
    else (if (!boolV (some (AV.bool f0)) == false) = true then
        some ((AEx.ret, [AV.sl (some (0, 0)) b.length 0 false, AV.int IntKind.i64 p, AV.sl (some (1, 0)) 4 0 false, AV.sl (some (2, 0)) 4 0 false, AV.int IntKind.i64 0], (hGetsR00 b p g0 g1 g2 g3 f0 f1 f2 f3)))
      else (if (intV (some (AV.int IntKind.u64 g0)) != 0) = true then
          some ((AEx.ret, [AV.sl (some (0, 0)) b.length 0 false, AV.int IntKind.i64 p, AV.sl (some (1, 0)) 4 0 false, AV.sl (some (2, 0)) 4 0 false, AV.int IntKind.i64 0], (hGetsR00 b p g0 g1 g2 g3 f0 f1 f2 f3)))
        else some ((AEx.norm, [AV.sl (some (0, 0)) b.length 0 false, AV.int IntKind.i64 p, AV.sl (some (1, 0)) 4 0 false, AV.sl (some (2, 0)) 4 0 false, AV.int IntKind.i64 1], (hGetsR00 b p g0 g1 g2 g3 f0 f1 f2 f3)))))) := by
  kernel_rfl

noncomputable def hGetsR10 (b : List UInt8) (p : Int) (g0 g1 g2 g3 : Int) (f0 f1 f2 f3 : Bool) : AHeap := [ABlk.cells (bys b) 1 Md.far none, ABlk.cells [AV.int IntKind.u64 g0, AV.int IntKind.u64 g1, AV.int IntKind.u64 g2, AV.int IntKind.u64 g3] 1 Md.own none, ABlk.cells [AV.bool f0, AV.bool f1, AV.bool f2, AV.bool f3] 1 Md.own none]
noncomputable def hGetsR11 (b : List UInt8) (p : Int) (g0 g1 g2 g3 : Int) (f0 f1 f2 f3 : Bool) : AHeap := [ABlk.cells (bys b) 1 Md.far none, ABlk.cells [AV.int IntKind.u64 g0, AV.int IntKind.u64 g1, AV.int IntKind.u64 g2, AV.int IntKind.u64 g3] 1 Md.own none, ABlk.cells [AV.bool f0, AV.bool f1, AV.bool f2, AV.bool f3] 1 Md.own none, ABlk.cells [AV.int IntKind.u8 (((u8i ((intV (some (AV.int IntKind.u64 g1))).fdiv 256)).toNat : Nat) : Int), AV.int IntKind.u8 (((u8i ((intV (some (AV.int IntKind.u64 g1))).fdiv 1)).toNat : Nat) : Int)] 1 Md.own none]
theorem nfGetsR1 (b : List UInt8) (p : Int) (g0 g1 g2 g3 : Int) (f0 f1 f2 f3 : Bool) :
    qround Try.prog t1g 100 4 [] noT (loopIn (bodyOf Try.prog 3) 0) mGets (vGets b p 1) (hGets b g0 g1 g2 g3 f0 f1 f2 f3) =
    (if decide (p ≥ 0) = true then
      (if decide (p ≤ (b.length : Int)) = true then
        (if (!boolV (some (AV.bool f1)) == decide (IntKind.i64.wrap ((b.length : Int) - p) ≥ 2)) = true then
          some ((AEx.ret, [AV.sl (some (0, 0)) b.length 0 false, AV.int IntKind.i64 p, AV.sl (some (1, 0)) 4 0 false, AV.sl (some (2, 0)) 4 0 false, AV.int IntKind.i64 1], (hGetsR10 b p g0 g1 g2 g3 f0 f1 f2 f3)))
        else (if (!decide (IntKind.i64.wrap ((b.length : Int) - p) ≥ 2)) = true then
            (if (intV (some (AV.int IntKind.u64 g1)) != 0) = true then
              some ((AEx.ret, [AV.sl (some (0, 0)) b.length 0 false, AV.int IntKind.i64 p, AV.sl (some (1, 0)) 4 0 false, AV.sl (some (2, 0)) 4 0 false, AV.int IntKind.i64 1], (hGetsR10 b p g0 g1 g2 g3 f0 f1 f2 f3)))
            else (if decide (IntKind.i64.wrap ((b.length : Int) - p) ≥ 2) = true then
                (if 0 ≤ IntKind.i64.wrap (p + 2) ∧ IntKind.i64.wrap (p + 2) ≤ (((capOf b.length 0 false) : Nat) : Int) then
                  (if 0 ≤ p ∧ p ≤ IntKind.i64.wrap (p + 2) then
                    (if 0 + p.toNat * 1 + ((IntKind.i64.wrap (p + 2)).toNat - p.toNat) ≤ (bys b).length then
                      (if (List.take ((IntKind.i64.wrap (p + 2)).toNat - p.toNat) (List.drop (0 + p.toNat * 1) (bys b))).all isByte = true then
                        (if 0 + p.toNat * 1 + ((IntKind.i64.wrap (p + 2)).toNat - p.toNat) ≤ (bys b).length then
                          (if (List.take ((IntKind.i64.wrap (p + 2)).toNat - p.toNat) (List.drop (0 + p.toNat * 1) (bys b))).all isByte = true then
                            (if (AV.str (List.map byteD (List.take ((IntKind.i64.wrap (p + 2)).toNat - p.toNat) (List.drop (0 + p.toNat * 1) (bys b))))).beq (AV.str (List.map byteD (List.take ((IntKind.i64.wrap (p + 2)).toNat - p.toNat) (List.drop (0 + p.toNat * 1) (bys b))))) = true then
                              (if (!decide (List.map byteD [AV.int IntKind.u8 (((u8i ((intV (some (AV.int IntKind.u64 g1))).fdiv 256)).toNat : Nat) : Int), AV.int IntKind.u8 (((u8i ((intV (some (AV.int IntKind.u64 g1))).fdiv 1)).toNat : Nat) : Int)] = List.map byteD (List.take ((IntKind.i64.wrap (p + 2)).toNat - p.toNat) (List.drop (0 + p.toNat * 1) (bys b))))) = true then
                                some ((AEx.ret, [AV.sl (some (0, 0)) b.length 0 false, AV.int IntKind.i64 p, AV.sl (some (1, 0)) 4 0 false, AV.sl (some (2, 0)) 4 0 false, AV.int IntKind.i64 1], (hGetsR11 b p g0 g1 g2 g3 f0 f1 f2 f3)))
                              else some ((AEx.norm, [AV.sl (some (0, 0)) b.length 0 false, AV.int IntKind.i64 p, AV.sl (some (1, 0)) 4 0 false, AV.sl (some (2, 0)) 4 0 false, AV.int IntKind.i64 2], (hGetsR11 b p g0 g1 g2 g3 f0 f1 f2 f3))))
                            else none)
                          else none)
                        else none)
                      else none)
                    else none)
                  else none)
                else none)
              else some ((AEx.norm, [AV.sl (some (0, 0)) b.length 0 false, AV.int IntKind.i64 p, AV.sl (some (1, 0)) 4 0 false, AV.sl (some (2, 0)) 4 0 false, AV.int IntKind.i64 2], (hGetsR10 b p g0 g1 g2 g3 f0 f1 f2 f3)))))
          else (if decide (IntKind.i64.wrap ((b.length : Int) - p) ≥ 2) = true then
              (if 0 ≤ IntKind.i64.wrap (p + 2) ∧ IntKind.i64.wrap (p + 2) ≤ (((capOf b.length 0 false) : Nat) : Int) then
                (if 0 ≤ p ∧ p ≤ IntKind.i64.wrap (p + 2) then
                  (if 0 + p.toNat * 1 + ((IntKind.i64.wrap (p + 2)).toNat - p.toNat) ≤ (bys b).length then
                    (if (List.take ((IntKind.i64.wrap (p + 2)).toNat - p.toNat) (List.drop (0 + p.toNat * 1) (bys b))).all isByte = true then
                      (if 0 + p.toNat * 1 + ((IntKind.i64.wrap (p + 2)).toNat - p.toNat) ≤ (bys b).length then
                        (if (List.take ((IntKind.i64.wrap (p + 2)).toNat - p.toNat) (List.drop (0 + p.toNat * 1) (bys b))).all isByte = true then
                          (if (AV.str (List.map byteD (List.take ((IntKind.i64.wrap (p + 2)).toNat - p.toNat) (List.drop (0 + p.toNat * 1) (bys b))))).beq (AV.str (List.map byteD (List.take ((IntKind.i64.wrap (p + 2)).toNat - p.toNat) (List.drop (0 + p.toNat * 1) (bys b))))) = true then
                            (if (!decide (List.map byteD [AV.int IntKind.u8 (((u8i ((intV (some (AV.int IntKind.u64 g1))).fdiv 256)).toNat : Nat) : Int), AV.int IntKind.u8 (((u8i ((intV (some (AV.int IntKind.u64 g1))).fdiv 1)).toNat : Nat) : Int)] = List.map byteD (List.take ((IntKind.i64.wrap (p + 2)).toNat - p.toNat) (List.drop (0 + p.toNat * 1) (bys b))))) = true then
                              some ((AEx.ret, [AV.sl (some (0, 0)) b.length 0 false, AV.int IntKind.i64 p, AV.sl (some (1, 0)) 4 0 false, AV.sl (some (2, 0)) 4 0 false, AV.int IntKind.i64 1], (hGetsR11 b p g0 g1 g2 g3 f0 f1 f2 f3)))
                            else some ((AEx.norm, [AV.sl (some (0, 0)) b.length 0 false, AV.int IntKind.i64 p, AV.sl (some (1, 0)) 4 0 false, AV.sl (some (2, 0)) 4 0 false, AV.int IntKind.i64 2], (hGetsR11 b p g0 g1 g2 g3 f0 f1 f2 f3))))
                          else none)
                        else none)
                      else none)
                    else none)
                  else none)
                else none)
              else none)
            else some ((AEx.norm, [AV.sl (some (0, 0)) b.length 0 false, AV.int IntKind.i64 p, AV.sl (some (1, 0)) 4 0 false, AV.sl (some (2, 0)) 4 0 false, AV.int IntKind.i64 2], (hGetsR10 b p g0 g1 g2 g3 f0 f1 f2 f3))))))
      else (if (!boolV (some (AV.bool f1)) == false) = true then
          some ((AEx.ret, [AV.sl (some (0, 0)) b.length 0 false, AV.int IntKind.i64 p, AV.sl (some (1, 0)) 4 0 false, AV.sl (some (2, 0)) 4 0 false, AV.int IntKind.i64 1], (hGetsR10 b p g0 g1 g2 g3 f0 f1 f2 f3)))
        else (if (intV (some (AV.int IntKind.u64 g1)) != 0) = true then
            some ((AEx.ret, [AV.sl (some (0, 0)) b.length 0 false, AV.int IntKind.i64 p, AV.sl (some (1, 0)) 4 0 false, AV.sl (some (2, 0)) 4 0 false, AV.int IntKind.i64 1], (hGetsR10 b p g0 g1 g2 g3 f0 f1 f2 f3)))
          else some ((AEx.norm, [AV.sl (some (0, 0)) b.length 0 false, AV.int IntKind.i64 p, AV.sl (some (1, 0)) 4 0 false, AV.sl (some (2, 0)) 4 0 false, AV.int IntKind.i64 2], (hGetsR10 b p g0 g1 g2 g3 f0 f1 f2 f3))))))
    else (if (!boolV (some (AV.bool f1)) == false) = true then
        some ((AEx.ret, [AV.sl (some (0, 0)) b.length 0 false, AV.int IntKind.i64 p, AV.sl (some (1, 0)) 4 0 false, AV.sl (some (2, 0)) 4 0 false, AV.int IntKind.i64 1], (hGetsR10 b p g0 g1 g2 g3 f0 f1 f2 f3)))
      else (if (intV (some (AV.int IntKind.u64 g1)) != 0) = true then
          some ((AEx.ret, [AV.sl (some (0, 0)) b.length 0 false, AV.int IntKind.i64 p, AV.sl (some (1, 0)) 4 0 false, AV.sl (some (2, 0)) 4 0 false, AV.int IntKind.i64 1], (hGetsR10 b p g0 g1 g2 g3 f0 f1 f2 f3)))
        else some ((AEx.norm, [AV.sl (some (0, 0)) b.length 0 false, AV.int IntKind.i64 p, AV.sl (some (1, 0)) 4 0 false, AV.sl (some (2, 0)) 4 0 false, AV.int IntKind.i64 2], (hGetsR10 b p g0 g1 g2 g3 f0 f1 f2 f3)))))) := by
  kernel_rfl

noncomputable def hGetsR20 (b : List UInt8) (p : Int) (g0 g1 g2 g3 : Int) (f0 f1 f2 f3 : Bool) : AHeap := [ABlk.cells (bys b) 1 Md.far none, ABlk.cells [AV.int IntKind.u64 g0, AV.int IntKind.u64 g1, AV.int IntKind.u64 g2, AV.int IntKind.u64 g3] 1 Md.own none, ABlk.cells [AV.bool f0, AV.bool f1, AV.bool f2, AV.bool f3] 1 Md.own none]
noncomputable def hGetsR21 (b : List UInt8) (p : Int) (g0 g1 g2 g3 : Int) (f0 f1 f2 f3 : Bool) : AHeap := [ABlk.cells (bys b) 1 Md.far none, ABlk.cells [AV.int IntKind.u64 g0, AV.int IntKind.u64 g1, AV.int IntKind.u64 g2, AV.int IntKind.u64 g3] 1 Md.own none, ABlk.cells [AV.bool f0, AV.bool f1, AV.bool f2, AV.bool f3] 1 Md.own none, ABlk.cells [AV.int IntKind.u8 (((u8i ((intV (some (AV.int IntKind.u64 g2))).fdiv 16777216)).toNat : Nat) : Int), AV.int IntKind.u8 (((u8i ((intV (some (AV.int IntKind.u64 g2))).fdiv 65536)).toNat : Nat) : Int), AV.int IntKind.u8 (((u8i ((intV (some (AV.int IntKind.u64 g2))).fdiv 256)).toNat : Nat) : Int), AV.int IntKind.u8 (((u8i ((intV (some (AV.int IntKind.u64 g2))).fdiv 1)).toNat : Nat) : Int)] 1 Md.own none]
theorem nfGetsR2 (b : List UInt8) (p : Int) (g0 g1 g2 g3 : Int) (f0 f1 f2 f3 : Bool) :
    qround Try.prog t1g 100 4 [] noT (loopIn (bodyOf Try.prog 3) 0) mGets (vGets b p 2) (hGets b g0 g1 g2 g3 f0 f1 f2 f3) =
    (if decide (p ≥ 0) = true then
      (if decide (p ≤ (b.length : Int)) = true then
        (if (!boolV (some (AV.bool f2)) == decide (IntKind.i64.wrap ((b.length : Int) - p) ≥ 4)) = true then
          some ((AEx.ret, [AV.sl (some (0, 0)) b.length 0 false, AV.int IntKind.i64 p, AV.sl (some (1, 0)) 4 0 false, AV.sl (some (2, 0)) 4 0 false, AV.int IntKind.i64 2], (hGetsR20 b p g0 g1 g2 g3 f0 f1 f2 f3)))
        else (if (!decide (IntKind.i64.wrap ((b.length : Int) - p) ≥ 4)) = true then
            (if (intV (some (AV.int IntKind.u64 g2)) != 0) = true then
              some ((AEx.ret, [AV.sl (some (0, 0)) b.length 0 false, AV.int IntKind.i64 p, AV.sl (some (1, 0)) 4 0 false, AV.sl (some (2, 0)) 4 0 false, AV.int IntKind.i64 2], (hGetsR20 b p g0 g1 g2 g3 f0 f1 f2 f3)))
            else (if decide (IntKind.i64.wrap ((b.length : Int) - p) ≥ 4) = true then
                (if 0 ≤ IntKind.i64.wrap (p + 4) ∧ IntKind.i64.wrap (p + 4) ≤ (((capOf b.length 0 false) : Nat) : Int) then
                  (if 0 ≤ p ∧ p ≤ IntKind.i64.wrap (p + 4) then
                    (if 0 + p.toNat * 1 + ((IntKind.i64.wrap (p + 4)).toNat - p.toNat) ≤ (bys b).length then
                      (if (List.take ((IntKind.i64.wrap (p + 4)).toNat - p.toNat) (List.drop (0 + p.toNat * 1) (bys b))).all isByte = true then
                        (if 0 + p.toNat * 1 + ((IntKind.i64.wrap (p + 4)).toNat - p.toNat) ≤ (bys b).length then
                          (if (List.take ((IntKind.i64.wrap (p + 4)).toNat - p.toNat) (List.drop (0 + p.toNat * 1) (bys b))).all isByte = true then
                            (if (AV.str (List.map byteD (List.take ((IntKind.i64.wrap (p + 4)).toNat - p.toNat) (List.drop (0 + p.toNat * 1) (bys b))))).beq (AV.str (List.map byteD (List.take ((IntKind.i64.wrap (p + 4)).toNat - p.toNat) (List.drop (0 + p.toNat * 1) (bys b))))) = true then
                              (if (!decide (List.map byteD [AV.int IntKind.u8 (((u8i ((intV (some (AV.int IntKind.u64 g2))).fdiv 16777216)).toNat : Nat) : Int), AV.int IntKind.u8 (((u8i ((intV (some (AV.int IntKind.u64 g2))).fdiv 65536)).toNat : Nat) : Int), AV.int IntKind.u8 (((u8i ((intV (some (AV.int IntKind.u64 g2))).fdiv 256)).toNat : Nat) : Int), AV.int IntKind.u8 (((u8i ((intV (some (AV.int IntKind.u64 g2))).fdiv 1)).toNat : Nat) : Int)] = List.map byteD (List.take ((IntKind.i64.wrap (p + 4)).toNat - p.toNat) (List.drop (0 + p.toNat * 1) (bys b))))) = true then
                                some ((AEx.ret, [AV.sl (some (0, 0)) b.length 0 false, AV.int IntKind.i64 p, AV.sl (some (1, 0)) 4 0 false, AV.sl (some (2, 0)) 4 0 false, AV.int IntKind.i64 2], (hGetsR21 b p g0 g1 g2 g3 f0 f1 f2 f3)))
                              else some ((AEx.norm, [AV.sl (some (0, 0)) b.length 0 false, AV.int IntKind.i64 p, AV.sl (some (1, 0)) 4 0 false, AV.sl (some (2, 0)) 4 0 false, AV.int IntKind.i64 3], (hGetsR21 b p g0 g1 g2 g3 f0 f1 f2 f3))))
                            else none)
                          else none)
                        else none)
                      else none)
                    else none)
                  else none)
                else none)
              else some ((AEx.norm, [AV.sl (some (0, 0)) b.length 0 false, AV.int IntKind.i64 p, AV.sl (some (1, 0)) 4 0 false, AV.sl (some (2, 0)) 4 0 false, AV.int IntKind.i64 3], (hGetsR20 b p g0 g1 g2 g3 f0 f1 f2 f3)))))
          else (if decide (IntKind.i64.wrap ((b.length : Int) - p) ≥ 4) = true then
              (if 0 ≤ IntKind.i64.wrap (p + 4) ∧ IntKind.i64.wrap (p + 4) ≤ (((capOf b.length 0 false) : Nat) : Int) then
                (if 0 ≤ p ∧ p ≤ IntKind.i64.wrap (p + 4) then
                  (if 0 + p.toNat * 1 + ((IntKind.i64.wrap (p + 4)).toNat - p.toNat) ≤ (bys b).length then
                    (if (List.take ((IntKind.i64.wrap (p + 4)).toNat - p.toNat) (List.drop (0 + p.toNat * 1) (bys b))).all isByte = true then
                      (if 0 + p.toNat * 1 + ((IntKind.i64.wrap (p + 4)).toNat - p.toNat) ≤ (bys b).length then
                        (if (List.take ((IntKind.i64.wrap (p + 4)).toNat - p.toNat) (List.drop (0 + p.toNat * 1) (bys b))).all isByte = true then
                          (if (AV.str (List.map byteD (List.take ((IntKind.i64.wrap (p + 4)).toNat - p.toNat) (List.drop (0 + p.toNat * 1) (bys b))))).beq (AV.str (List.map byteD (List.take ((IntKind.i64.wrap (p + 4)).toNat - p.toNat) (List.drop (0 + p.toNat * 1) (bys b))))) = true then
                            (if (!decide (List.map byteD [AV.int IntKind.u8 (((u8i ((intV (some (AV.int IntKind.u64 g2))).fdiv 16777216)).toNat : Nat) : Int), AV.int IntKind.u8 (((u8i ((intV (some (AV.int IntKind.u64 g2))).fdiv 65536)).toNat : Nat) : Int), AV.int IntKind.u8 (((u8i ((intV (some (AV.int IntKind.u64 g2))).fdiv 256)).toNat : Nat) : Int), AV.int IntKind.u8 (((u8i ((intV (some (AV.int IntKind.u64 g2))).fdiv 1)).toNat : Nat) : Int)] = List.map byteD (List.take ((IntKind.i64.wrap (p + 4)).toNat - p.toNat) (List.drop (0 + p.toNat * 1) (bys b))))) = true then
                              some ((AEx.ret, [AV.sl (some (0, 0)) b.length 0 false, AV.int IntKind.i64 p, AV.sl (some (1, 0)) 4 0 false, AV.sl (some (2, 0)) 4 0 false, AV.int IntKind.i64 2], (hGetsR21 b p g0 g1 g2 g3 f0 f1 f2 f3)))
                            else some ((AEx.norm, [AV.sl (some (0, 0)) b.length 0 false, AV.int IntKind.i64 p, AV.sl (some (1, 0)) 4 0 false, AV.sl (some (2, 0)) 4 0 false, AV.int IntKind.i64 3], (hGetsR21 b p g0 g1 g2 g3 f0 f1 f2 f3))))
                          else none)
                        else none)
                      else none)
                    else none)
                  else none)
                else none)
              else none)
            else some ((AEx.norm, [AV.sl (some (0, 0)) b.length 0 false, AV.int IntKind.i64 p, AV.sl (some (1, 0)) 4 0 false, AV.sl (some (2, 0)) 4 0 false, AV.int IntKind.i64 3], (hGetsR20 b p g0 g1 g2 g3 f0 f1 f2 f3))))))
      else (if (!boolV (some (AV.bool f2)) == false) = true then
          some ((AEx.ret, [AV.sl (some (0, 0)) b.length 0 false, AV.int IntKind.i64 p, AV.sl (some (1, 0)) 4 0 false, AV.sl (some (2, 0)) 4 0 false, AV.int IntKind.i64 2], (hGetsR20 b p g0 g1 g2 g3 f0 f1 f2 f3)))
        else (if (intV (some (AV.int IntKind.u64 g2)) != 0) = true then
            some ((AEx.ret, [AV.sl (some (0, 0)) b.length 0 false, AV.int IntKind.i64 p, AV.sl (some (1, 0)) 4 0 false, AV.sl (some (2, 0)) 4 0 false, AV.int IntKind.i64 2], (hGetsR20 b p g0 g1 g2 g3 f0 f1 f2 f3)))
          else some ((AEx.norm, [AV.sl (some (0, 0)) b.length 0 false, AV.int IntKind.i64 p, AV.sl (some (1, 0)) 4 0 false, AV.sl (some (2, 0)) 4 0 false, AV.int IntKind.i64 3], (hGetsR20 b p g0 g1 g2 g3 f0 f1 f2 f3))))))
    else (if (!boolV (some (AV.bool f2)) == false) = true then
        some ((AEx.ret, [AV.sl (some (0, 0)) b.length 0 false, AV.int IntKind.i64 p, AV.sl (some (1, 0)) 4 0 false, AV.sl (some (2, 0)) 4 0 false, AV.int IntKind.i64 2], (hGetsR20 b p g0 g1 g2 g3 f0 f1 f2 f3)))
      else (if (intV (some (AV.int IntKind.u64 g2)) != 0) = true then
          some ((AEx.ret, [AV.sl (some (0, 0)) b.length 0 false, AV.int IntKind.i64 p, AV.sl (some (1, 0)) 4 0 false, AV.sl (some (2, 0)) 4 0 false, AV.int IntKind.i64 2], (hGetsR20 b p g0 g1 g2 g3 f0 f1 f2 f3)))
        else some ((AEx.norm, [AV.sl (some (0, 0)) b.length 0 false, AV.int IntKind.i64 p, AV.sl (some (1, 0)) 4 0 false, AV.sl (some (2, 0)) 4 0 false, AV.int IntKind.i64 3], (hGetsR20 b p g0 g1 g2 g3 f0 f1 f2 f3)))))) := by
  kernel_rfl

noncomputable def hGetsR30 (b : List UInt8) (p : Int) (g0 g1 g2 g3 : Int) (f0 f1 f2 f3 : Bool) : AHeap := [ABlk.cells (bys b) 1 Md.far none, ABlk.cells [AV.int IntKind.u64 g0, AV.int IntKind.u64 g1, AV.int IntKind.u64 g2, AV.int IntKind.u64 g3] 1 Md.own none, ABlk.cells [AV.bool f0, AV.bool f1, AV.bool f2, AV.bool f3] 1 Md.own none]
noncomputable def hGetsR31 (b : List UInt8) (p : Int) (g0 g1 g2 g3 : Int) (f0 f1 f2 f3 : Bool) : AHeap := [ABlk.cells (bys b) 1 Md.far none, ABlk.cells [AV.int IntKind.u64 g0, AV.int IntKind.u64 g1, AV.int IntKind.u64 g2, AV.int IntKind.u64 g3] 1 Md.own none, ABlk.cells [AV.bool f0, AV.bool f1, AV.bool f2, AV.bool f3] 1 Md.own none, ABlk.cells [AV.int IntKind.u8 (((u8i ((intV (some (AV.int IntKind.u64 g3))).fdiv 72057594037927936)).toNat : Nat) : Int), AV.int IntKind.u8 (((u8i ((intV (some (AV.int IntKind.u64 g3))).fdiv 281474976710656)).toNat : Nat) : Int), AV.int IntKind.u8 (((u8i ((intV (some (AV.int IntKind.u64 g3))).fdiv 1099511627776)).toNat : Nat) : Int), AV.int IntKind.u8 (((u8i ((intV (some (AV.int IntKind.u64 g3))).fdiv 4294967296)).toNat : Nat) : Int), AV.int IntKind.u8 (((u8i ((intV (some (AV.int IntKind.u64 g3))).fdiv 16777216)).toNat : Nat) : Int), AV.int IntKind.u8 (((u8i ((intV (some (AV.int IntKind.u64 g3))).fdiv 65536)).toNat : Nat) : Int), AV.int IntKind.u8 (((u8i ((intV (some (AV.int IntKind.u64 g3))).fdiv 256)).toNat : Nat) : Int), AV.int IntKind.u8 (((u8i ((intV (some (AV.int IntKind.u64 g3))).fdiv 1)).toNat : Nat) : Int)] 1 Md.own none]
theorem nfGetsR3 (b : List UInt8) (p : Int) (g0 g1 g2 g3 : Int) (f0 f1 f2 f3 : Bool) :
    qround Try.prog t1g 100 4 [] noT (loopIn (bodyOf Try.prog 3) 0) mGets (vGets b p 3) (hGets b g0 g1 g2 g3 f0 f1 f2 f3) =
    (if decide (p ≥ 0) = true then
      (if decide (p ≤ (b.length : Int)) = true then
        (if (!boolV (some (AV.bool f3)) == decide (IntKind.i64.wrap ((b.length : Int) - p) ≥ 8)) = true then
          some ((AEx.ret, [AV.sl (some (0, 0)) b.length 0 false, AV.int IntKind.i64 p, AV.sl (some (1, 0)) 4 0 false, AV.sl (some (2, 0)) 4 0 false, AV.int IntKind.i64 3], (hGetsR30 b p g0 g1 g2 g3 f0 f1 f2 f3)))
        else (if (!decide (IntKind.i64.wrap ((b.length : Int) - p) ≥ 8)) = true then
            (if (intV (some (AV.int IntKind.u64 g3)) != 0) = true then
              some ((AEx.ret, [AV.sl (some (0, 0)) b.length 0 false, AV.int IntKind.i64 p, AV.sl (some (1, 0)) 4 0 false, AV.sl (some (2, 0)) 4 0 false, AV.int IntKind.i64 3], (hGetsR30 b p g0 g1 g2 g3 f0 f1 f2 f3)))
            else (if decide (IntKind.i64.wrap ((b.length : Int) - p) ≥ 8) = true then
                (if 0 ≤ IntKind.i64.wrap (p + 8) ∧ IntKind.i64.wrap (p + 8) ≤ (((capOf b.length 0 false) : Nat) : Int) then
                  (if 0 ≤ p ∧ p ≤ IntKind.i64.wrap (p + 8) then
                    (if 0 + p.toNat * 1 + ((IntKind.i64.wrap (p + 8)).toNat - p.toNat) ≤ (bys b).length then
                      (if (List.take ((IntKind.i64.wrap (p + 8)).toNat - p.toNat) (List.drop (0 + p.toNat * 1) (bys b))).all isByte = true then
                        (if 0 + p.toNat * 1 + ((IntKind.i64.wrap (p + 8)).toNat - p.toNat) ≤ (bys b).length then
                          (if (List.take ((IntKind.i64.wrap (p + 8)).toNat - p.toNat) (List.drop (0 + p.toNat * 1) (bys b))).all isByte = true then
                            (if (AV.str (List.map byteD (List.take ((IntKind.i64.wrap (p + 8)).toNat - p.toNat) (List.drop (0 + p.toNat * 1) (bys b))))).beq (AV.str (List.map byteD (List.take ((IntKind.i64.wrap (p + 8)).toNat - p.toNat) (List.drop (0 + p.toNat * 1) (bys b))))) = true then
                              (if (!decide (List.map byteD [AV.int IntKind.u8 (((u8i ((intV (some (AV.int IntKind.u64 g3))).fdiv 72057594037927936)).toNat : Nat) : Int), AV.int IntKind.u8 (((u8i ((intV (some (AV.int IntKind.u64 g3))).fdiv 281474976710656)).toNat : Nat) : Int), AV.int IntKind.u8 (((u8i ((intV (some (AV.int IntKind.u64 g3))).fdiv 1099511627776)).toNat : Nat) : Int), AV.int IntKind.u8 (((u8i ((intV (some (AV.int IntKind.u64 g3))).fdiv 4294967296)).toNat : Nat) : Int), AV.int IntKind.u8 (((u8i ((intV (some (AV.int IntKind.u64 g3))).fdiv 16777216)).toNat : Nat) : Int), AV.int IntKind.u8 (((u8i ((intV (some (AV.int IntKind.u64 g3))).fdiv 65536)).toNat : Nat) : Int), AV.int IntKind.u8 (((u8i ((intV (some (AV.int IntKind.u64 g3))).fdiv 256)).toNat : Nat) : Int), AV.int IntKind.u8 (((u8i ((intV (some (AV.int IntKind.u64 g3))).fdiv 1)).toNat : Nat) : Int)] = List.map byteD (List.take ((IntKind.i64.wrap (p + 8)).toNat - p.toNat) (List.drop (0 + p.toNat * 1) (bys b))))) = true then
                                some ((AEx.ret, [AV.sl (some (0, 0)) b.length 0 false, AV.int IntKind.i64 p, AV.sl (some (1, 0)) 4 0 false, AV.sl (some (2, 0)) 4 0 false, AV.int IntKind.i64 3], (hGetsR31 b p g0 g1 g2 g3 f0 f1 f2 f3)))
                              else some ((AEx.norm, [AV.sl (some (0, 0)) b.length 0 false, AV.int IntKind.i64 p, AV.sl (some (1, 0)) 4 0 false, AV.sl (some (2, 0)) 4 0 false, AV.int IntKind.i64 4], (hGetsR31 b p g0 g1 g2 g3 f0 f1 f2 f3))))
                            else none)
                          else none)
                        else none)
                      else none)
                    else none)
                  else none)
                else none)
              else some ((AEx.norm, [AV.sl (some (0, 0)) b.length 0 false, AV.int IntKind.i64 p, AV.sl (some (1, 0)) 4 0 false, AV.sl (some (2, 0)) 4 0 false, AV.int IntKind.i64 4], (hGetsR30 b p g0 g1 g2 g3 f0 f1 f2 f3)))))
          else (if decide (IntKind.i64.wrap ((b.length : Int) - p) ≥ 8) = true then
              (if 0 ≤ IntKind.i64.wrap (p + 8) ∧ IntKind.i64.wrap (p + 8) ≤ (((capOf b.length 0 false) : Nat) : Int) then
                (if 0 ≤ p ∧ p ≤ IntKind.i64.wrap (p + 8) then
                  (if 0 + p.toNat * 1 + ((IntKind.i64.wrap (p + 8)).toNat - p.toNat) ≤ (bys b).length then
                    (if (List.take ((IntKind.i64.wrap (p + 8)).toNat - p.toNat) (List.drop (0 + p.toNat * 1) (bys b))).all isByte = true then
                      (if 0 + p.toNat * 1 + ((IntKind.i64.wrap (p + 8)).toNat - p.toNat) ≤ (bys b).length then
                        (if (List.take ((IntKind.i64.wrap (p + 8)).toNat - p.toNat) (List.drop (0 + p.toNat * 1) (bys b))).all isByte = true then
                          (if (AV.str (List.map byteD (List.take ((IntKind.i64.wrap (p + 8)).toNat - p.toNat) (List.drop (0 + p.toNat * 1) (bys b))))).beq (AV.str (List.map byteD (List.take ((IntKind.i64.wrap (p + 8)).toNat - p.toNat) (List.drop (0 + p.toNat * 1) (bys b))))) = true then
                            (if (!decide (List.map byteD [AV.int IntKind.u8 (((u8i ((intV (some (AV.int IntKind.u64 g3))).fdiv 72057594037927936)).toNat : Nat) : Int), AV.int IntKind.u8 (((u8i ((intV (some (AV.int IntKind.u64 g3))).fdiv 281474976710656)).toNat : Nat) : Int), AV.int IntKind.u8 (((u8i ((intV (some (AV.int IntKind.u64 g3))).fdiv 1099511627776)).toNat : Nat) : Int), AV.int IntKind.u8 (((u8i ((intV (some (AV.int IntKind.u64 g3))).fdiv 4294967296)).toNat : Nat) : Int), AV.int IntKind.u8 (((u8i ((intV (some (AV.int IntKind.u64 g3))).fdiv 16777216)).toNat : Nat) : Int), AV.int IntKind.u8 (((u8i ((intV (some (AV.int IntKind.u64 g3))).fdiv 65536)).toNat : Nat) : Int), AV.int IntKind.u8 (((u8i ((intV (some (AV.int IntKind.u64 g3))).fdiv 256)).toNat : Nat) : Int), AV.int IntKind.u8 (((u8i ((intV (some (AV.int IntKind.u64 g3))).fdiv 1)).toNat : Nat) : Int)] = List.map byteD (List.take ((IntKind.i64.wrap (p + 8)).toNat - p.toNat) (List.drop (0 + p.toNat * 1) (bys b))))) = true then
                              some ((AEx.ret, [AV.sl (some (0, 0)) b.length 0 false, AV.int IntKind.i64 p, AV.sl (some (1, 0)) 4 0 false, AV.sl (some (2, 0)) 4 0 false, AV.int IntKind.i64 3], (hGetsR31 b p g0 g1 g2 g3 f0 f1 f2 f3)))
                            else some ((AEx.norm, [AV.sl (some (0, 0)) b.length 0 false, AV.int IntKind.i64 p, AV.sl (some (1, 0)) 4 0 false, AV.sl (some (2, 0)) 4 0 false, AV.int IntKind.i64 4], (hGetsR31 b p g0 g1 g2 g3 f0 f1 f2 f3))))
                          else none)
                        else none)
                      else none)
                    else none)
                  else none)
                else none)
              else none)
            else some ((AEx.norm, [AV.sl (some (0, 0)) b.length 0 false, AV.int IntKind.i64 p, AV.sl (some (1, 0)) 4 0 false, AV.sl (some (2, 0)) 4 0 false, AV.int IntKind.i64 4], (hGetsR30 b p g0 g1 g2 g3 f0 f1 f2 f3))))))
      else (if (!boolV (some (AV.bool f3)) == false) = true then
          some ((AEx.ret, [AV.sl (some (0, 0)) b.length 0 false, AV.int IntKind.i64 p, AV.sl (some (1, 0)) 4 0 false, AV.sl (some (2, 0)) 4 0 false, AV.int IntKind.i64 3], (hGetsR30 b p g0 g1 g2 g3 f0 f1 f2 f3)))
        else (if (intV (some (AV.int IntKind.u64 g3)) != 0) = true then
            some ((AEx.ret, [AV.sl (some (0, 0)) b.length 0 false, AV.int IntKind.i64 p, AV.sl (some (1, 0)) 4 0 false, AV.sl (some (2, 0)) 4 0 false, AV.int IntKind.i64 3], (hGetsR30 b p g0 g1 g2 g3 f0 f1 f2 f3)))
          else some ((AEx.norm, [AV.sl (some (0, 0)) b.length 0 false, AV.int IntKind.i64 p, AV.sl (some (1, 0)) 4 0 false, AV.sl (some (2, 0)) 4 0 false, AV.int IntKind.i64 4], (hGetsR30 b p g0 g1 g2 g3 f0 f1 f2 f3))))))
    else (if (!boolV (some (AV.bool f3)) == false) = true then
        some ((AEx.ret, [AV.sl (some (0, 0)) b.length 0 false, AV.int IntKind.i64 p, AV.sl (some (1, 0)) 4 0 false, AV.sl (some (2, 0)) 4 0 false, AV.int IntKind.i64 3], (hGetsR30 b p g0 g1 g2 g3 f0 f1 f2 f3)))
      else (if (intV (some (AV.int IntKind.u64 g3)) != 0) = true then
          some ((AEx.ret, [AV.sl (some (0, 0)) b.length 0 false, AV.int IntKind.i64 p, AV.sl (some (1, 0)) 4 0 false, AV.sl (some (2, 0)) 4 0 false, AV.int IntKind.i64 3], (hGetsR30 b p g0 g1 g2 g3 f0 f1 f2 f3)))
        else some ((AEx.norm, [AV.sl (some (0, 0)) b.length 0 false, AV.int IntKind.i64 p, AV.sl (some (1, 0)) 4 0 false, AV.sl (some (2, 0)) 4 0 false, AV.int IntKind.i64 4], (hGetsR30 b p g0 g1 g2 g3 f0 f1 f2 f3)))))) := by
  kernel_rfl


def goodR (b : List UInt8) (p : Int) (sz : Nat) : Prop := 0 ≤ p ∧ p + sz ≤ b.length


theorem getsR0 {b : List UInt8} {p g0 g1 g2 g3 : Int} {f0 f1 f2 f3 : Bool} (hb : b.length ≤ 200) (hp : -9223372036854775808 ≤ p ∧ p < 9223372036854775808)
    (hf : f0 = decide (0 ≤ p ∧ p + 1 ≤ (b.length : Int))) (hg : g0 = if 0 ≤ p ∧ p + 1 ≤ (b.length : Int) then numAt b p.toNat 1 else 0) :
    ∃ vs1 h1, qround Try.prog t1g 100 4 [] noT (loopIn (bodyOf Try.prog 3) 0) mGets (vGets b p 0) (hGets b g0 g1 g2 g3 f0 f1 f2 f3) = some (.norm, vs1, h1) ∧ Gc 3 vs1 h1 (vGets b p 1) (hGets b g0 g1 g2 g3 f0 f1 f2 f3) := by
  rw [nfGetsR0]
  have gc0 : Gc 3 (vGets b p 1) (hGets b g0 g1 g2 g3 f0 f1 f2 f3) (vGets b p 1) (hGets b g0 g1 g2 g3 f0 f1 f2 f3) :=
    Gc.refl
  by_cases h : 0 ≤ p ∧ p + 1 ≤ (b.length : Int)
  · obtain ⟨k, rfl⟩ := Int.eq_ofNat_of_zero_le h.1
    rw [if_pos h] at hg
    rw [decide_eq_true h] at hf
    subst hf
    have w1 : IntKind.i64.wrap ((b.length : Int) - k) = b.length - k := wrapI64 (by omega)
    have w2 : IntKind.i64.wrap ((k : Int) + 1) = k + 1 := wrapI64 (by omega)
    have e1 : ((k : Int) + 1).toNat - (k : Int).toNat = 1 := by omega
    have e2 : 0 + (k : Int).toNat * 1 = k := by omega
    have e3 : List.take 1 (List.drop k (bys b)) = bys ((b.drop k).take 1) := by simp
    have e4 : List.map byteD (bys (bigR g0 1)) = List.map byteD (bys ((b.drop k).take 1)) := by
      rw [hg, big_numAt (by simp; omega)]; simp
    rw [w1, w2, e1, e2, e3]
    have e5 : ∀ K1 K2 : Option (AEx × List AV × AHeap), (if (!decide (List.map byteD (bys (bigR g0 1)) = List.map byteD (bys ((b.drop k).take 1)))) = true then K1 else K2) = K2 := fun K1 K2 => if_neg (by rw [e4]; simp)
    refine ⟨?_, ?_, ?_, ?_⟩
    rotate_left 2
    · refine (if_pos (by simp)).trans ?_
      refine (if_pos (by simp; omega)).trans ?_
      refine (if_neg (by simp [boolV]; omega)).trans ?_
      refine (if_neg (by simp; omega)).trans ?_
      refine (if_pos (by simp; omega)).trans ?_
      refine (if_pos (by simp [capOf]; omega)).trans ?_
      refine (if_pos (by omega)).trans ?_
      refine (if_pos (by simp; omega)).trans ?_
      refine (if_pos (by simp)).trans ?_
      refine (if_pos (by simp; omega)).trans ?_
      refine (if_pos (by simp)).trans ?_
      refine (if_pos (by simp)).trans ?_
      exact e5 _ _
    · exact Gc.by [0, 1, 2] rfl (by decide) (.cons _ _ _ _ (.sl _ _ _ _ _ _ rfl) (.cons _ _ _ _ (.free _ rfl) (.cons _ _ _ _ (.sl _ _ _ _ _ _ rfl) (.cons _ _ _ _ (.sl _ _ _ _ _ _ rfl) (.free _ rfl)))))
        (.cons _ _ _ _ _ rfl (.row (by simp) (by simp)) (.cons _ _ _ _ _ rfl (.row rfl (by simp)) (.cons _ _ _ _ _ rfl (.row rfl (by simp)) .nil)))
  · rw [if_neg h] at hg
    rw [decide_eq_false h] at hf
    subst hf
    refine ⟨_, _, ?_, gc0⟩
    by_cases h0 : 0 ≤ p
    · refine (if_pos (by simpa using h0)).trans ?_
      by_cases h1 : p ≤ (b.length : Int)
      · have w1 : IntKind.i64.wrap ((b.length : Int) - p) = b.length - p := wrapI64 (by omega)
        rw [w1]
        refine (if_pos (by simpa using h1)).trans ?_
        refine (if_neg (by simp [boolV]; omega)).trans ?_
        refine (if_pos (by simp; omega)).trans ?_
        refine (if_neg (by simp [intV, hg])).trans ?_
        refine (if_neg (by simp; omega)).trans ?_
        rfl
      · refine (if_neg (by simpa using h1)).trans ?_
        refine (if_neg (by simp [boolV])).trans ?_
        refine (if_neg (by simp [intV, hg])).trans ?_
        rfl
    · refine (if_neg (by simpa using h0)).trans ?_
      refine (if_neg (by simp [boolV])).trans ?_
      refine (if_neg (by simp [intV, hg])).trans ?_
      rfl


theorem getsR1 {b : List UInt8} {p g0 g1 g2 g3 : Int} {f0 f1 f2 f3 : Bool} (hb : b.length ≤ 200) (hp : -9223372036854775808 ≤ p ∧ p < 9223372036854775808)
    (hf : f1 = decide (0 ≤ p ∧ p + 2 ≤ (b.length : Int))) (hg : g1 = if 0 ≤ p ∧ p + 2 ≤ (b.length : Int) then numAt b p.toNat 2 else 0) :
    ∃ vs1 h1, qround Try.prog t1g 100 4 [] noT (loopIn (bodyOf Try.prog 3) 0) mGets (vGets b p 1) (hGets b g0 g1 g2 g3 f0 f1 f2 f3) = some (.norm, vs1, h1) ∧ Gc 3 vs1 h1 (vGets b p 2) (hGets b g0 g1 g2 g3 f0 f1 f2 f3) := by
  rw [nfGetsR1]
  have gc0 : Gc 3 (vGets b p 2) (hGets b g0 g1 g2 g3 f0 f1 f2 f3) (vGets b p 2) (hGets b g0 g1 g2 g3 f0 f1 f2 f3) :=
    Gc.refl
  by_cases h : 0 ≤ p ∧ p + 2 ≤ (b.length : Int)
  · obtain ⟨k, rfl⟩ := Int.eq_ofNat_of_zero_le h.1
    rw [if_pos h] at hg
    rw [decide_eq_true h] at hf
    subst hf
    have w1 : IntKind.i64.wrap ((b.length : Int) - k) = b.length - k := wrapI64 (by omega)
    have w2 : IntKind.i64.wrap ((k : Int) + 2) = k + 2 := wrapI64 (by omega)
    have e1 : ((k : Int) + 2).toNat - (k : Int).toNat = 2 := by omega
    have e2 : 0 + (k : Int).toNat * 1 = k := by omega
    have e3 : List.take 2 (List.drop k (bys b)) = bys ((b.drop k).take 2) := by simp
    have e4 : List.map byteD (bys (bigR g1 2)) = List.map byteD (bys ((b.drop k).take 2)) := by
      rw [hg, big_numAt (by simp; omega)]; simp
    rw [w1, w2, e1, e2, e3]
    have e5 : ∀ K1 K2 : Option (AEx × List AV × AHeap), (if (!decide (List.map byteD (bys (bigR g1 2)) = List.map byteD (bys ((b.drop k).take 2)))) = true then K1 else K2) = K2 := fun K1 K2 => if_neg (by rw [e4]; simp)
    refine ⟨?_, ?_, ?_, ?_⟩
    rotate_left 2
    · refine (if_pos (by simp)).trans ?_
      refine (if_pos (by simp; omega)).trans ?_
      refine (if_neg (by simp [boolV]; omega)).trans ?_
      refine (if_neg (by simp; omega)).trans ?_
      refine (if_pos (by simp; omega)).trans ?_
      refine (if_pos (by simp [capOf]; omega)).trans ?_
      refine (if_pos (by omega)).trans ?_
      refine (if_pos (by simp; omega)).trans ?_
      refine (if_pos (by simp)).trans ?_
      refine (if_pos (by simp; omega)).trans ?_
      refine (if_pos (by simp)).trans ?_
      refine (if_pos (by simp)).trans ?_
      exact e5 _ _
    · exact Gc.by [0, 1, 2] rfl (by decide) (.cons _ _ _ _ (.sl _ _ _ _ _ _ rfl) (.cons _ _ _ _ (.free _ rfl) (.cons _ _ _ _ (.sl _ _ _ _ _ _ rfl) (.cons _ _ _ _ (.sl _ _ _ _ _ _ rfl) (.free _ rfl)))))
        (.cons _ _ _ _ _ rfl (.row (by simp) (by simp)) (.cons _ _ _ _ _ rfl (.row rfl (by simp)) (.cons _ _ _ _ _ rfl (.row rfl (by simp)) .nil)))
  · rw [if_neg h] at hg
    rw [decide_eq_false h] at hf
    subst hf
    refine ⟨_, _, ?_, gc0⟩
    by_cases h0 : 0 ≤ p
    · refine (if_pos (by simpa using h0)).trans ?_
      by_cases h1 : p ≤ (b.length : Int)
      · have w1 : IntKind.i64.wrap ((b.length : Int) - p) = b.length - p := wrapI64 (by omega)
        rw [w1]
        refine (if_pos (by simpa using h1)).trans ?_
        refine (if_neg (by simp [boolV]; omega)).trans ?_
        refine (if_pos (by simp; omega)).trans ?_
        refine (if_neg (by simp [intV, hg])).trans ?_
        refine (if_neg (by simp; omega)).trans ?_
        rfl
      · refine (if_neg (by simpa using h1)).trans ?_
        refine (if_neg (by simp [boolV])).trans ?_
        refine (if_neg (by simp [intV, hg])).trans ?_
        rfl
    · refine (if_neg (by simpa using h0)).trans ?_
      refine (if_neg (by simp [boolV])).trans ?_
      refine (if_neg (by simp [intV, hg])).trans ?_
      rfl


theorem getsR2 {b : List UInt8} {p g0 g1 g2 g3 : Int} {f0 f1 f2 f3 : Bool} (hb : b.length ≤ 200) (hp : -9223372036854775808 ≤ p ∧ p < 9223372036854775808)
    (hf : f2 = decide (0 ≤ p ∧ p + 4 ≤ (b.length : Int))) (hg : g2 = if 0 ≤ p ∧ p + 4 ≤ (b.length : Int) then numAt b p.toNat 4 else 0) :
    ∃ vs1 h1, qround Try.prog t1g 100 4 [] noT (loopIn (bodyOf Try.prog 3) 0) mGets (vGets b p 2) (hGets b g0 g1 g2 g3 f0 f1 f2 f3) = some (.norm, vs1, h1) ∧ Gc 3 vs1 h1 (vGets b p 3) (hGets b g0 g1 g2 g3 f0 f1 f2 f3) := by
  rw [nfGetsR2]
  have gc0 : Gc 3 (vGets b p 3) (hGets b g0 g1 g2 g3 f0 f1 f2 f3) (vGets b p 3) (hGets b g0 g1 g2 g3 f0 f1 f2 f3) :=
    Gc.refl
  by_cases h : 0 ≤ p ∧ p + 4 ≤ (b.length : Int)
  · obtain ⟨k, rfl⟩ := Int.eq_ofNat_of_zero_le h.1
    rw [if_pos h] at hg
    rw [decide_eq_true h] at hf
    subst hf
    have w1 : IntKind.i64.wrap ((b.length : Int) - k) = b.length - k := wrapI64 (by omega)
    have w2 : IntKind.i64.wrap ((k : Int) + 4) = k + 4 := wrapI64 (by omega)
    have e1 : ((k : Int) + 4).toNat - (k : Int).toNat = 4 := by omega
    have e2 : 0 + (k : Int).toNat * 1 = k := by omega
    have e3 : List.take 4 (List.drop k (bys b)) = bys ((b.drop k).take 4) := by simp
    have e4 : List.map byteD (bys (bigR g2 4)) = List.map byteD (bys ((b.drop k).take 4)) := by
      rw [hg, big_numAt (by simp; omega)]; simp
    rw [w1, w2, e1, e2, e3]
    have e5 : ∀ K1 K2 : Option (AEx × List AV × AHeap), (if (!decide (List.map byteD (bys (bigR g2 4)) = List.map byteD (bys ((b.drop k).take 4)))) = true then K1 else K2) = K2 := fun K1 K2 => if_neg (by rw [e4]; simp)
    refine ⟨?_, ?_, ?_, ?_⟩
    rotate_left 2
    · refine (if_pos (by simp)).trans ?_
      refine (if_pos (by simp; omega)).trans ?_
      refine (if_neg (by simp [boolV]; omega)).trans ?_
      refine (if_neg (by simp; omega)).trans ?_
      refine (if_pos (by simp; omega)).trans ?_
      refine (if_pos (by simp [capOf]; omega)).trans ?_
      refine (if_pos (by omega)).trans ?_
      refine (if_pos (by simp; omega)).trans ?_
      refine (if_pos (by simp)).trans ?_
      refine (if_pos (by simp; omega)).trans ?_
      refine (if_pos (by simp)).trans ?_
      refine (if_pos (by simp)).trans ?_
      exact e5 _ _
    · exact Gc.by [0, 1, 2] rfl (by decide) (.cons _ _ _ _ (.sl _ _ _ _ _ _ rfl) (.cons _ _ _ _ (.free _ rfl) (.cons _ _ _ _ (.sl _ _ _ _ _ _ rfl) (.cons _ _ _ _ (.sl _ _ _ _ _ _ rfl) (.free _ rfl)))))
        (.cons _ _ _ _ _ rfl (.row (by simp) (by simp)) (.cons _ _ _ _ _ rfl (.row rfl (by simp)) (.cons _ _ _ _ _ rfl (.row rfl (by simp)) .nil)))
  · rw [if_neg h] at hg
    rw [decide_eq_false h] at hf
    subst hf
    refine ⟨_, _, ?_, gc0⟩
    by_cases h0 : 0 ≤ p
    · refine (if_pos (by simpa using h0)).trans ?_
      by_cases h1 : p ≤ (b.length : Int)
      · have w1 : IntKind.i64.wrap ((b.length : Int) - p) = b.length - p := wrapI64 (by omega)
        rw [w1]
        refine (if_pos (by simpa using h1)).trans ?_
        refine (if_neg (by simp [boolV]; omega)).trans ?_
        refine (if_pos (by simp; omega)).trans ?_
        refine (if_neg (by simp [intV, hg])).trans ?_
        refine (if_neg (by simp; omega)).trans ?_
        rfl
      · refine (if_neg (by simpa using h1)).trans ?_
        refine (if_neg (by simp [boolV])).trans ?_
        refine (if_neg (by simp [intV, hg])).trans ?_
        rfl
    · refine (if_neg (by simpa using h0)).trans ?_
      refine (if_neg (by simp [boolV])).trans ?_
      refine (if_neg (by simp [intV, hg])).trans ?_
      rfl


theorem getsR3 {b : List UInt8} {p g0 g1 g2 g3 : Int} {f0 f1 f2 f3 : Bool} (hb : b.length ≤ 200) (hp : -9223372036854775808 ≤ p ∧ p < 9223372036854775808)
    (hf : f3 = decide (0 ≤ p ∧ p + 8 ≤ (b.length : Int))) (hg : g3 = if 0 ≤ p ∧ p + 8 ≤ (b.length : Int) then numAt b p.toNat 8 else 0) :
    ∃ vs1 h1, qround Try.prog t1g 100 4 [] noT (loopIn (bodyOf Try.prog 3) 0) mGets (vGets b p 3) (hGets b g0 g1 g2 g3 f0 f1 f2 f3) = some (.norm, vs1, h1) ∧ Gc 3 vs1 h1 (vGets b p 4) (hGets b g0 g1 g2 g3 f0 f1 f2 f3) := by
  rw [nfGetsR3]
  have gc0 : Gc 3 (vGets b p 4) (hGets b g0 g1 g2 g3 f0 f1 f2 f3) (vGets b p 4) (hGets b g0 g1 g2 g3 f0 f1 f2 f3) :=
    Gc.refl
  by_cases h : 0 ≤ p ∧ p + 8 ≤ (b.length : Int)
  · obtain ⟨k, rfl⟩ := Int.eq_ofNat_of_zero_le h.1
    rw [if_pos h] at hg
    rw [decide_eq_true h] at hf
    subst hf
    have w1 : IntKind.i64.wrap ((b.length : Int) - k) = b.length - k := wrapI64 (by omega)
    have w2 : IntKind.i64.wrap ((k : Int) + 8) = k + 8 := wrapI64 (by omega)
    have e1 : ((k : Int) + 8).toNat - (k : Int).toNat = 8 := by omega
    have e2 : 0 + (k : Int).toNat * 1 = k := by omega
    have e3 : List.take 8 (List.drop k (bys b)) = bys ((b.drop k).take 8) := by simp
    have e4 : List.map byteD (bys (bigR g3 8)) = List.map byteD (bys ((b.drop k).take 8)) := by
      rw [hg, big_numAt (by simp; omega)]; simp
    rw [w1, w2, e1, e2, e3]
    have e5 : ∀ K1 K2 : Option (AEx × List AV × AHeap), (if (!decide (List.map byteD (bys (bigR g3 8)) = List.map byteD (bys ((b.drop k).take 8)))) = true then K1 else K2) = K2 := fun K1 K2 => if_neg (by rw [e4]; simp)
    refine ⟨?_, ?_, ?_, ?_⟩
    rotate_left 2
    · refine (if_pos (by simp)).trans ?_
      refine (if_pos (by simp; omega)).trans ?_
      refine (if_neg (by simp [boolV]; omega)).trans ?_
      refine (if_neg (by simp; omega)).trans ?_
      refine (if_pos (by simp; omega)).trans ?_
      refine (if_pos (by simp [capOf]; omega)).trans ?_
      refine (if_pos (by omega)).trans ?_
      refine (if_pos (by simp; omega)).trans ?_
      refine (if_pos (by simp)).trans ?_
      refine (if_pos (by simp; omega)).trans ?_
      refine (if_pos (by simp)).trans ?_
      refine (if_pos (by simp)).trans ?_
      exact e5 _ _
    · exact Gc.by [0, 1, 2] rfl (by decide) (.cons _ _ _ _ (.sl _ _ _ _ _ _ rfl) (.cons _ _ _ _ (.free _ rfl) (.cons _ _ _ _ (.sl _ _ _ _ _ _ rfl) (.cons _ _ _ _ (.sl _ _ _ _ _ _ rfl) (.free _ rfl)))))
        (.cons _ _ _ _ _ rfl (.row (by simp) (by simp)) (.cons _ _ _ _ _ rfl (.row rfl (by simp)) (.cons _ _ _ _ _ rfl (.row rfl (by simp)) .nil)))
  · rw [if_neg h] at hg
    rw [decide_eq_false h] at hf
    subst hf
    refine ⟨_, _, ?_, gc0⟩
    by_cases h0 : 0 ≤ p
    · refine (if_pos (by simpa using h0)).trans ?_
      by_cases h1 : p ≤ (b.length : Int)
      · have w1 : IntKind.i64.wrap ((b.length : Int) - p) = b.length - p := wrapI64 (by omega)
        rw [w1]
        refine (if_pos (by simpa using h1)).trans ?_
        refine (if_neg (by simp [boolV]; omega)).trans ?_
        refine (if_pos (by simp; omega)).trans ?_
        refine (if_neg (by simp [intV, hg])).trans ?_
        refine (if_neg (by simp; omega)).trans ?_
        rfl
      · refine (if_neg (by simpa using h1)).trans ?_
        refine (if_neg (by simp [boolV])).trans ?_
        refine (if_neg (by simp [intV, hg])).trans ?_
        rfl
    · refine (if_neg (by simpa using h0)).trans ?_
      refine (if_neg (by simp [boolV])).trans ?_
      refine (if_neg (by simp [intV, hg])).trans ?_
      rfl


noncomputable def gR (b : List UInt8) (p : Int) (sz : Nat) : Int := if 0 ≤ p ∧ p + sz ≤ (b.length : Int) then numAt b p.toNat sz else 0
theorem gR_range (b : List UInt8) (p : Int) (sz : Nat) : 0 ≤ gR b p sz ∧ gR b p sz < 256 ^ sz := by
  have h : (0 : Int) < 256 ^ sz := Int.pow_pos (by omega)
  unfold gR
  split
  · exact numAt_range b _ sz
  · omega

theorem runOctetGets (b : List UInt8) (p : Int) (_ : b.length ≤ maxLen) (hp : -9223372036854775808 ≤ p ∧ p < 9223372036854775808) :
    ∃ h', Runs Try.prog 3 [slB 0 b, .int .i64 p] [farB b] (.bool true) h' := by
  have key : b.length ≤ 200 → ∃ k, GReach (roundG Try.prog (deepT Try.prog t1g 100 4) (lsT noT) (loopIn (bodyOf Try.prog 3) 0) mGets) 3 k (vGets b p 0)
      (hGets b (gR b p 1) (gR b p 2) (gR b p 4) (gR b p 8) (decide (0 ≤ p ∧ p + 1 ≤ (b.length : Int))) (decide (0 ≤ p ∧ p + 2 ≤ (b.length : Int))) (decide (0 ≤ p ∧ p + 4 ≤ (b.length : Int))) (decide (0 ≤ p ∧ p + 8 ≤ (b.length : Int)))) (.exit 0) (vGets b p 4)
      (hGets b (gR b p 1) (gR b p 2) (gR b p 4) (gR b p 8) (decide (0 ≤ p ∧ p + 1 ≤ (b.length : Int))) (decide (0 ≤ p ∧ p + 2 ≤ (b.length : Int))) (decide (0 ≤ p ∧ p + 4 ≤ (b.length : Int))) (decide (0 ≤ p ∧ p + 8 ≤ (b.length : Int)))) := by
    intro hb
    refine loop_T (F := 100) (n := 4) (LS := noT) (fun i => (vGets b p i, hGets b (gR b p 1) (gR b p 2) (gR b p 4) (gR b p 8) (decide (0 ≤ p ∧ p + 1 ≤ (b.length : Int))) (decide (0 ≤ p ∧ p + 2 ≤ (b.length : Int))) (decide (0 ≤ p ∧ p + 4 ≤ (b.length : Int))) (decide (0 ≤ p ∧ p + 8 ≤ (b.length : Int))))) (N := 4) (by simp) (fun i hi => ⟨[], ?_⟩) ⟨[], _, _, nfGetsS b p _ _ _ _ _ _ _ _, Gc.refl⟩
    rcases (by omega : i = 0 ∨ i = 1 ∨ i = 2 ∨ i = 3) with rfl | rfl | rfl | rfl
    · exact getsR0 hb hp rfl rfl
    · exact getsR1 hb hp rfl rfl
    · exact getsR2 hb hp rfl rfl
    · exact getsR3 hb hp rfl rfl
  have lp : loopsOf (bodyOf Try.prog 3) = [loopIn (bodyOf Try.prog 3) 0] := by kernel_rfl
  refine Runs.valT t1gOk (F := 100) (n := 4) (pr := []) (only (k := 10) lp (fixC_T t1gOk (F := 100) (n := 4) (LS := noT) (noLoops (by kernel_rfl)) key)) ?_
  rw [nfGets]
  by_cases h : b.length ≤ 200
  case neg => exact if_pos (by simp; omega)
  have g := bOk_row (h := hGets0 b p (b.length ≤ 200) (vGets b p 0) (hGets b (gR b p 1) (gR b p 2) (gR b p 4) (gR b p 8) (decide (0 ≤ p ∧ p + 1 ≤ (b.length : Int))) (decide (0 ≤ p ∧ p + 2 ≤ (b.length : Int))) (decide (0 ≤ p ∧ p + 4 ≤ (b.length : Int))) (decide (0 ≤ p ∧ p + 8 ≤ (b.length : Int)))) (hGets b (gR b p 1) (gR b p 2) (gR b p 4) (gR b p 8) (decide (0 ≤ p ∧ p + 1 ≤ (b.length : Int))) (decide (0 ≤ p ∧ p + 2 ≤ (b.length : Int))) (decide (0 ≤ p ∧ p + 4 ≤ (b.length : Int))) (decide (0 ≤ p ∧ p + 8 ≤ (b.length : Int))))) (k := 0) (n := b.length) (r := 0) (e := false) (l := b) rfl rfl rfl
  refine (if_neg (by simp; omega)).trans ?_
  have h1 := gR_range b p 1
  have h2 := gR_range b p 2
  have h3 := gR_range b p 4
  refine (if_pos (by rw [g.1, Bool.true_and]; exact decide_eq_true (show (b.length : Int) < _ by omega))).trans ?_
  refine (if_pos (by rw [g.1, Bool.true_and]; exact decide_eq_true (show (b.length : Int) < _ by omega))).trans ?_
  refine (if_pos (by rw [g.1, Bool.true_and]; exact decide_eq_true (show (b.length : Int) < _ by omega))).trans ?_
  refine (if_pos (by rw [g.1, Bool.true_and]; exact decide_eq_true (show (b.length : Int) < _ by omega))).trans ?_
  refine if_pos (cdec_true.2 ⟨h, rfl, ?_⟩)
  unfold hGets1
  rw [g.2]
  show [_, ABlk.cells [AV.int _ (IntKind.u64.wrap (gR b p 1)), AV.int _ (IntKind.u64.wrap (gR b p 2)), AV.int _ (IntKind.u64.wrap (gR b p 4)), AV.int _ (gR b p 8)] 1 Md.own none, _] = _
  rw [wrapU64 (by omega), wrapU64 (by omega), wrapU64 (by omega)]
  rfl

end Go.Proofs.Ytejbipoibpefnaa.L