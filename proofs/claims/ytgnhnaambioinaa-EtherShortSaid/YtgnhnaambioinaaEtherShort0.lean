/- EtherShort's run. -/
import Derived.Test.YtgnhnaambioinaaWith
import Derived.Test.YtgnhnaambioinaaAwake4
import Derived.Test.YtgnhnaambioinaaRound
set_option autoImplicit false
set_option maxRecDepth 100000
set_option linter.unusedVariables false
set_option linter.unusedSimpArgs false
namespace Go.Proofs.Ytgnhnaambioinaa.L
open Go Go.Abs

noncomputable def t4d (C : List UInt8) (a w r : Int) (k : Int) (W : List UInt8) : Tbl := [(8, entF (eNetAt C a w r)), (10, entF (eWithAt C k W)), (7, entF eAwake), (12, entF eRound)]
theorem t4dOk {C : List UInt8} {a w r k : Int} {W : List UInt8} (h1 : netR C = (a, w, r)) (h2 : withR C k = W) : ∀ f E, (t4d C a w r k W).find f = some E → SoundE Try.prog f E := find_cons (sNetAt h1) (find_cons (sWithAt h2) (find_cons sAwake (find_cons sRound (find_nil _))))

noncomputable def hShortFa0 (m : List UInt8) (c : Int) (C : List UInt8) : AHeap := [ABlk.cells (bys m) 1 Md.far none, ABlk.dead, ABlk.cells (List.take (m.length * 1) (bys m)) 1 Md.ro none, ABlk.cells [AV.int IntKind.u8 8, AV.int IntKind.u8 0, AV.int IntKind.u8 69, AV.int IntKind.u8 0] 1 Md.own none, ABlk.cells (List.take ((0 + m.length) * 1) (List.take (m.length * 1) (bys m)) ++ [AV.int IntKind.u8 8, AV.int IntKind.u8 0, AV.int IntKind.u8 69, AV.int IntKind.u8 0]) 1 Md.own (some 2)]
theorem nfShortFa {R : Type} (m : List UInt8) (c : Int) (C : List UInt8) (K : AV → Option R) :
    abody Try.prog (deepC Try.prog (t4d C 0 0 1 34525 []) 100 4) (mixLS [] (autoLS Try.prog (deepC Try.prog (t4d C 0 0 1 34525 []) 100 4) 100 4 (bodyOf Try.prog 5))) 5 [slB 0 m, .bool false, .int .i64 c] [farB m] (fun v _ => K v) =
    (if ((m.length : Int) != 12) = true then
      K (AV.bool true)
    else (if 0 + m.length * 1 ≤ (bys m).length then
        (if (2 * (0 + m.length) + 200) * 1 ≤ 281474976710656 ∧ some 1 = some 1 ∧ 0 + m.length ≤ 70368744177664 then
          (if 0 = 0 ∧ 0 = 0 ∧ (0 < m.length ∨ 0 = 0) ∧ 1 = 1 ∧ (List.take (m.length * 1) (bys m)).all AV.isCell = true then
            (if (2 * (0 + m.length + 4) + 200) * 1 ≤ 281474976710656 ∧ some 1 = some 1 ∧ 0 + m.length + 4 ≤ 70368744177664 then
              (if 0 + (0 + m.length) * 1 ≤ (List.take (m.length * 1) (bys m)).length then
                (if 0 = 0 ∧ 0 + (0 + m.length) * 1 = (List.take (m.length * 1) (bys m)).length ∧ (0 < 4 ∨ 0 = 0) ∧ 1 = 1 ∧ [AV.int IntKind.u8 8, AV.int IntKind.u8 0, AV.int IntKind.u8 69, AV.int IntKind.u8 0].all AV.isCell = true then
                  (if decide (0 < IntKind.i64.wrap ((((0 + m.length + 4) : Nat) : Int) + 1) ∧ IntKind.i64.wrap ((((0 + m.length + 4) : Nat) : Int) + 1) < 4611686018427387904) = true then
                    (if 0 ≤ c % IntKind.i64.wrap ((((0 + m.length + 4) : Nat) : Int) + 1) ∧ c % IntKind.i64.wrap ((((0 + m.length + 4) : Nat) : Int) + 1) ≤ (((capOf (0 + m.length + 4) 0 false) : Nat) : Int) then
                      (if (bOk (hShortFa0 m c C) (AV.sl (some (4, 0)) ((c % IntKind.i64.wrap ((((0 + m.length + 4) : Nat) : Int) + 1)).toNat - 0) (roomOf (0 + m.length + 4) 0 0 (some (c % IntKind.i64.wrap ((((0 + m.length + 4) : Nat) : Int) + 1))).isNone (c % IntKind.i64.wrap ((((0 + m.length + 4) : Nat) : Int) + 1)).toNat false) false) && cdec (nOf (AV.sl (some (4, 0)) ((c % IntKind.i64.wrap ((((0 + m.length + 4) : Nat) : Int) + 1)).toNat - 0) (roomOf (0 + m.length + 4) 0 0 (some (c % IntKind.i64.wrap ((((0 + m.length + 4) : Nat) : Int) + 1))).isNone (c % IntKind.i64.wrap ((((0 + m.length + 4) : Nat) : Int) + 1)).toNat false) false) ≤ 70368744177664 ∧ bOf (hShortFa0 m c C) (AV.sl (some (4, 0)) ((c % IntKind.i64.wrap ((((0 + m.length + 4) : Nat) : Int) + 1)).toNat - 0) (roomOf (0 + m.length + 4) 0 0 (some (c % IntKind.i64.wrap ((((0 + m.length + 4) : Nat) : Int) + 1))).isNone (c % IntKind.i64.wrap ((((0 + m.length + 4) : Nat) : Int) + 1)).toNat false) false) = C)) = true then
                        (if decide (c % IntKind.i64.wrap ((((0 + m.length + 4) : Nat) : Int) + 1) < IntKind.i64.wrap ((((0 + m.length + 4) : Nat) : Int) - 2)) = true then
                          (if 0 ≤ c % IntKind.i64.wrap ((((0 + m.length + 4) : Nat) : Int) + 1) ∧ c % IntKind.i64.wrap ((((0 + m.length + 4) : Nat) : Int) + 1) ≤ (((capOf (0 + m.length + 4) 0 false) : Nat) : Int) then
                            (if (bOk (hShortFa0 m c C) (AV.sl (some (4, 0)) ((c % IntKind.i64.wrap ((((0 + m.length + 4) : Nat) : Int) + 1)).toNat - 0) (roomOf (0 + m.length + 4) 0 0 (some (c % IntKind.i64.wrap ((((0 + m.length + 4) : Nat) : Int) + 1))).isNone (c % IntKind.i64.wrap ((((0 + m.length + 4) : Nat) : Int) + 1)).toNat false) false) && cdec (nOf (AV.sl (some (4, 0)) ((c % IntKind.i64.wrap ((((0 + m.length + 4) : Nat) : Int) + 1)).toNat - 0) (roomOf (0 + m.length + 4) 0 0 (some (c % IntKind.i64.wrap ((((0 + m.length + 4) : Nat) : Int) + 1))).isNone (c % IntKind.i64.wrap ((((0 + m.length + 4) : Nat) : Int) + 1)).toNat false) false) ≤ 1000000000 ∧ Int.ofNat 0 ≤ Int.ofNat 34525 ∧ Int.ofNat 34525 < Int.ofNat 65536 ∧ Int.ofNat 34525 = Int.ofNat 34525 ∧ bOf (hShortFa0 m c C) (AV.sl (some (4, 0)) ((c % IntKind.i64.wrap ((((0 + m.length + 4) : Nat) : Int) + 1)).toNat - 0) (roomOf (0 + m.length + 4) 0 0 (some (c % IntKind.i64.wrap ((((0 + m.length + 4) : Nat) : Int) + 1))).isNone (c % IntKind.i64.wrap ((((0 + m.length + 4) : Nat) : Int) + 1)).toNat false) false) = C)) = true then
                              K (AV.bool true)
                            else none)
                          else none)
                        else K (AV.bool false))
                      else none)
                    else none)
                  else none)
                else none)
              else none)
            else none)
          else none)
        else none)
      else none)) := by
  kernel_rfl

noncomputable def hShortFb0 (m : List UInt8) (c : Int) (C W : List UInt8) : AHeap := [ABlk.cells (bys m) 1 Md.far none, ABlk.dead, ABlk.cells (List.take (m.length * 1) (bys m)) 1 Md.ro none, ABlk.cells [AV.int IntKind.u8 8, AV.int IntKind.u8 0, AV.int IntKind.u8 69, AV.int IntKind.u8 0] 1 Md.own none, ABlk.cells (List.take ((0 + m.length) * 1) (List.take (m.length * 1) (bys m)) ++ [AV.int IntKind.u8 8, AV.int IntKind.u8 0, AV.int IntKind.u8 69, AV.int IntKind.u8 0]) 1 Md.own (some 2)]
theorem nfShortFb {R : Type} (m : List UInt8) (c : Int) (C W : List UInt8) (K : AV → Option R) :
    abody Try.prog (deepC Try.prog (t4d C 14 2048 0 34525 W) 100 4) (mixLS [] (autoLS Try.prog (deepC Try.prog (t4d C 14 2048 0 34525 W) 100 4) 100 4 (bodyOf Try.prog 5))) 5 [slB 0 m, .bool false, .int .i64 c] [farB m] (fun v _ => K v) =
    (if ((m.length : Int) != 12) = true then
      K (AV.bool true)
    else (if 0 + m.length * 1 ≤ (bys m).length then
        (if (2 * (0 + m.length) + 200) * 1 ≤ 281474976710656 ∧ some 1 = some 1 ∧ 0 + m.length ≤ 70368744177664 then
          (if 0 = 0 ∧ 0 = 0 ∧ (0 < m.length ∨ 0 = 0) ∧ 1 = 1 ∧ (List.take (m.length * 1) (bys m)).all AV.isCell = true then
            (if (2 * (0 + m.length + 4) + 200) * 1 ≤ 281474976710656 ∧ some 1 = some 1 ∧ 0 + m.length + 4 ≤ 70368744177664 then
              (if 0 + (0 + m.length) * 1 ≤ (List.take (m.length * 1) (bys m)).length then
                (if 0 = 0 ∧ 0 + (0 + m.length) * 1 = (List.take (m.length * 1) (bys m)).length ∧ (0 < 4 ∨ 0 = 0) ∧ 1 = 1 ∧ [AV.int IntKind.u8 8, AV.int IntKind.u8 0, AV.int IntKind.u8 69, AV.int IntKind.u8 0].all AV.isCell = true then
                  (if decide (0 < IntKind.i64.wrap ((((0 + m.length + 4) : Nat) : Int) + 1) ∧ IntKind.i64.wrap ((((0 + m.length + 4) : Nat) : Int) + 1) < 4611686018427387904) = true then
                    (if 0 ≤ c % IntKind.i64.wrap ((((0 + m.length + 4) : Nat) : Int) + 1) ∧ c % IntKind.i64.wrap ((((0 + m.length + 4) : Nat) : Int) + 1) ≤ (((capOf (0 + m.length + 4) 0 false) : Nat) : Int) then
                      (if (bOk (hShortFb0 m c C W) (AV.sl (some (4, 0)) ((c % IntKind.i64.wrap ((((0 + m.length + 4) : Nat) : Int) + 1)).toNat - 0) (roomOf (0 + m.length + 4) 0 0 (some (c % IntKind.i64.wrap ((((0 + m.length + 4) : Nat) : Int) + 1))).isNone (c % IntKind.i64.wrap ((((0 + m.length + 4) : Nat) : Int) + 1)).toNat false) false) && cdec (nOf (AV.sl (some (4, 0)) ((c % IntKind.i64.wrap ((((0 + m.length + 4) : Nat) : Int) + 1)).toNat - 0) (roomOf (0 + m.length + 4) 0 0 (some (c % IntKind.i64.wrap ((((0 + m.length + 4) : Nat) : Int) + 1))).isNone (c % IntKind.i64.wrap ((((0 + m.length + 4) : Nat) : Int) + 1)).toNat false) false) ≤ 70368744177664 ∧ bOf (hShortFb0 m c C W) (AV.sl (some (4, 0)) ((c % IntKind.i64.wrap ((((0 + m.length + 4) : Nat) : Int) + 1)).toNat - 0) (roomOf (0 + m.length + 4) 0 0 (some (c % IntKind.i64.wrap ((((0 + m.length + 4) : Nat) : Int) + 1))).isNone (c % IntKind.i64.wrap ((((0 + m.length + 4) : Nat) : Int) + 1)).toNat false) false) = C)) = true then
                        (if decide (c % IntKind.i64.wrap ((((0 + m.length + 4) : Nat) : Int) + 1) < IntKind.i64.wrap ((((0 + m.length + 4) : Nat) : Int) - 2)) = true then
                          K (AV.bool false)
                        else (if (14 == IntKind.i64.wrap ((((0 + m.length + 4) : Nat) : Int) - 2)) = true then
                            K (AV.bool true)
                          else K (AV.bool false)))
                      else none)
                    else none)
                  else none)
                else none)
              else none)
            else none)
          else none)
        else none)
      else none)) := by
  kernel_rfl

noncomputable def hShortTa0 (m : List UInt8) (c : Int) (C : List UInt8) : AHeap := [ABlk.cells (bys m) 1 Md.far none, ABlk.dead, ABlk.dead, ABlk.cells [AV.int IntKind.u8 129, AV.int IntKind.u8 0, AV.int IntKind.u8 0, AV.int IntKind.u8 5] 1 Md.own none, ABlk.cells (List.take ((0 + m.length) * 1) (List.take (m.length * 1) (bys m)) ++ [AV.int IntKind.u8 129, AV.int IntKind.u8 0, AV.int IntKind.u8 0, AV.int IntKind.u8 5]) 1 Md.ro none, ABlk.cells [AV.int IntKind.u8 8, AV.int IntKind.u8 0, AV.int IntKind.u8 69, AV.int IntKind.u8 0] 1 Md.own none, ABlk.cells (List.take ((0 + m.length + 4) * 1) (List.take ((0 + m.length) * 1) (List.take (m.length * 1) (bys m)) ++ [AV.int IntKind.u8 129, AV.int IntKind.u8 0, AV.int IntKind.u8 0, AV.int IntKind.u8 5]) ++ [AV.int IntKind.u8 8, AV.int IntKind.u8 0, AV.int IntKind.u8 69, AV.int IntKind.u8 0]) 1 Md.own (some 4)]
theorem nfShortTa {R : Type} (m : List UInt8) (c : Int) (C : List UInt8) (K : AV → Option R) :
    abody Try.prog (deepC Try.prog (t4d C 0 0 1 34525 []) 100 4) (mixLS [] (autoLS Try.prog (deepC Try.prog (t4d C 0 0 1 34525 []) 100 4) 100 4 (bodyOf Try.prog 5))) 5 [slB 0 m, .bool true, .int .i64 c] [farB m] (fun v _ => K v) =
    (if ((m.length : Int) != 12) = true then
      K (AV.bool true)
    else (if 0 + m.length * 1 ≤ (bys m).length then
        (if (2 * (0 + m.length) + 200) * 1 ≤ 281474976710656 ∧ some 1 = some 1 ∧ 0 + m.length ≤ 70368744177664 then
          (if 0 = 0 ∧ 0 = 0 ∧ (0 < m.length ∨ 0 = 0) ∧ 1 = 1 ∧ (List.take (m.length * 1) (bys m)).all AV.isCell = true then
            (if (2 * (0 + m.length + 4) + 200) * 1 ≤ 281474976710656 ∧ some 1 = some 1 ∧ 0 + m.length + 4 ≤ 70368744177664 then
              (if 0 + (0 + m.length) * 1 ≤ (List.take (m.length * 1) (bys m)).length then
                (if 0 = 0 ∧ 0 + (0 + m.length) * 1 = (List.take (m.length * 1) (bys m)).length ∧ (0 < 4 ∨ 0 = 0) ∧ 1 = 1 ∧ [AV.int IntKind.u8 129, AV.int IntKind.u8 0, AV.int IntKind.u8 0, AV.int IntKind.u8 5].all AV.isCell = true then
                  (if (2 * (0 + m.length + 4 + 4) + 200) * 1 ≤ 281474976710656 ∧ some 1 = some 1 ∧ 0 + m.length + 4 + 4 ≤ 70368744177664 then
                    (if 0 + (0 + m.length + 4) * 1 ≤ (List.take ((0 + m.length) * 1) (List.take (m.length * 1) (bys m)) ++ [AV.int IntKind.u8 129, AV.int IntKind.u8 0, AV.int IntKind.u8 0, AV.int IntKind.u8 5]).length then
                      (if 0 = 0 ∧ 0 + (0 + m.length + 4) * 1 = (List.take ((0 + m.length) * 1) (List.take (m.length * 1) (bys m)) ++ [AV.int IntKind.u8 129, AV.int IntKind.u8 0, AV.int IntKind.u8 0, AV.int IntKind.u8 5]).length ∧ (0 < 4 ∨ 0 = 0) ∧ 1 = 1 ∧ [AV.int IntKind.u8 8, AV.int IntKind.u8 0, AV.int IntKind.u8 69, AV.int IntKind.u8 0].all AV.isCell = true then
                        (if decide (0 < IntKind.i64.wrap ((((0 + m.length + 4 + 4) : Nat) : Int) + 1) ∧ IntKind.i64.wrap ((((0 + m.length + 4 + 4) : Nat) : Int) + 1) < 4611686018427387904) = true then
                          (if 0 ≤ c % IntKind.i64.wrap ((((0 + m.length + 4 + 4) : Nat) : Int) + 1) ∧ c % IntKind.i64.wrap ((((0 + m.length + 4 + 4) : Nat) : Int) + 1) ≤ (((capOf (0 + m.length + 4 + 4) 0 false) : Nat) : Int) then
                            (if (bOk (hShortTa0 m c C) (AV.sl (some (6, 0)) ((c % IntKind.i64.wrap ((((0 + m.length + 4 + 4) : Nat) : Int) + 1)).toNat - 0) (roomOf (0 + m.length + 4 + 4) 0 0 (some (c % IntKind.i64.wrap ((((0 + m.length + 4 + 4) : Nat) : Int) + 1))).isNone (c % IntKind.i64.wrap ((((0 + m.length + 4 + 4) : Nat) : Int) + 1)).toNat false) false) && cdec (nOf (AV.sl (some (6, 0)) ((c % IntKind.i64.wrap ((((0 + m.length + 4 + 4) : Nat) : Int) + 1)).toNat - 0) (roomOf (0 + m.length + 4 + 4) 0 0 (some (c % IntKind.i64.wrap ((((0 + m.length + 4 + 4) : Nat) : Int) + 1))).isNone (c % IntKind.i64.wrap ((((0 + m.length + 4 + 4) : Nat) : Int) + 1)).toNat false) false) ≤ 70368744177664 ∧ bOf (hShortTa0 m c C) (AV.sl (some (6, 0)) ((c % IntKind.i64.wrap ((((0 + m.length + 4 + 4) : Nat) : Int) + 1)).toNat - 0) (roomOf (0 + m.length + 4 + 4) 0 0 (some (c % IntKind.i64.wrap ((((0 + m.length + 4 + 4) : Nat) : Int) + 1))).isNone (c % IntKind.i64.wrap ((((0 + m.length + 4 + 4) : Nat) : Int) + 1)).toNat false) false) = C)) = true then
                              (if decide (c % IntKind.i64.wrap ((((0 + m.length + 4 + 4) : Nat) : Int) + 1) < IntKind.i64.wrap ((((0 + m.length + 4 + 4) : Nat) : Int) - 2)) = true then
                                (if 0 ≤ c % IntKind.i64.wrap ((((0 + m.length + 4 + 4) : Nat) : Int) + 1) ∧ c % IntKind.i64.wrap ((((0 + m.length + 4 + 4) : Nat) : Int) + 1) ≤ (((capOf (0 + m.length + 4 + 4) 0 false) : Nat) : Int) then
                                  (if (bOk (hShortTa0 m c C) (AV.sl (some (6, 0)) ((c % IntKind.i64.wrap ((((0 + m.length + 4 + 4) : Nat) : Int) + 1)).toNat - 0) (roomOf (0 + m.length + 4 + 4) 0 0 (some (c % IntKind.i64.wrap ((((0 + m.length + 4 + 4) : Nat) : Int) + 1))).isNone (c % IntKind.i64.wrap ((((0 + m.length + 4 + 4) : Nat) : Int) + 1)).toNat false) false) && cdec (nOf (AV.sl (some (6, 0)) ((c % IntKind.i64.wrap ((((0 + m.length + 4 + 4) : Nat) : Int) + 1)).toNat - 0) (roomOf (0 + m.length + 4 + 4) 0 0 (some (c % IntKind.i64.wrap ((((0 + m.length + 4 + 4) : Nat) : Int) + 1))).isNone (c % IntKind.i64.wrap ((((0 + m.length + 4 + 4) : Nat) : Int) + 1)).toNat false) false) ≤ 1000000000 ∧ Int.ofNat 0 ≤ Int.ofNat 34525 ∧ Int.ofNat 34525 < Int.ofNat 65536 ∧ Int.ofNat 34525 = Int.ofNat 34525 ∧ bOf (hShortTa0 m c C) (AV.sl (some (6, 0)) ((c % IntKind.i64.wrap ((((0 + m.length + 4 + 4) : Nat) : Int) + 1)).toNat - 0) (roomOf (0 + m.length + 4 + 4) 0 0 (some (c % IntKind.i64.wrap ((((0 + m.length + 4 + 4) : Nat) : Int) + 1))).isNone (c % IntKind.i64.wrap ((((0 + m.length + 4 + 4) : Nat) : Int) + 1)).toNat false) false) = C)) = true then
                                    K (AV.bool true)
                                  else none)
                                else none)
                              else K (AV.bool false))
                            else none)
                          else none)
                        else none)
                      else none)
                    else none)
                  else none)
                else none)
              else none)
            else none)
          else none)
        else none)
      else none)) := by
  kernel_rfl

noncomputable def hShortTb0 (m : List UInt8) (c : Int) (C W : List UInt8) : AHeap := [ABlk.cells (bys m) 1 Md.far none, ABlk.dead, ABlk.dead, ABlk.cells [AV.int IntKind.u8 129, AV.int IntKind.u8 0, AV.int IntKind.u8 0, AV.int IntKind.u8 5] 1 Md.own none, ABlk.cells (List.take ((0 + m.length) * 1) (List.take (m.length * 1) (bys m)) ++ [AV.int IntKind.u8 129, AV.int IntKind.u8 0, AV.int IntKind.u8 0, AV.int IntKind.u8 5]) 1 Md.ro none, ABlk.cells [AV.int IntKind.u8 8, AV.int IntKind.u8 0, AV.int IntKind.u8 69, AV.int IntKind.u8 0] 1 Md.own none, ABlk.cells (List.take ((0 + m.length + 4) * 1) (List.take ((0 + m.length) * 1) (List.take (m.length * 1) (bys m)) ++ [AV.int IntKind.u8 129, AV.int IntKind.u8 0, AV.int IntKind.u8 0, AV.int IntKind.u8 5]) ++ [AV.int IntKind.u8 8, AV.int IntKind.u8 0, AV.int IntKind.u8 69, AV.int IntKind.u8 0]) 1 Md.own (some 4)]
theorem nfShortTb {R : Type} (m : List UInt8) (c : Int) (C W : List UInt8) (K : AV → Option R) :
    abody Try.prog (deepC Try.prog (t4d C 18 2048 0 34525 W) 100 4) (mixLS [] (autoLS Try.prog (deepC Try.prog (t4d C 18 2048 0 34525 W) 100 4) 100 4 (bodyOf Try.prog 5))) 5 [slB 0 m, .bool true, .int .i64 c] [farB m] (fun v _ => K v) =
    (if ((m.length : Int) != 12) = true then
      K (AV.bool true)
    else (if 0 + m.length * 1 ≤ (bys m).length then
        (if (2 * (0 + m.length) + 200) * 1 ≤ 281474976710656 ∧ some 1 = some 1 ∧ 0 + m.length ≤ 70368744177664 then
          (if 0 = 0 ∧ 0 = 0 ∧ (0 < m.length ∨ 0 = 0) ∧ 1 = 1 ∧ (List.take (m.length * 1) (bys m)).all AV.isCell = true then
            (if (2 * (0 + m.length + 4) + 200) * 1 ≤ 281474976710656 ∧ some 1 = some 1 ∧ 0 + m.length + 4 ≤ 70368744177664 then
              (if 0 + (0 + m.length) * 1 ≤ (List.take (m.length * 1) (bys m)).length then
                (if 0 = 0 ∧ 0 + (0 + m.length) * 1 = (List.take (m.length * 1) (bys m)).length ∧ (0 < 4 ∨ 0 = 0) ∧ 1 = 1 ∧ [AV.int IntKind.u8 129, AV.int IntKind.u8 0, AV.int IntKind.u8 0, AV.int IntKind.u8 5].all AV.isCell = true then
                  (if (2 * (0 + m.length + 4 + 4) + 200) * 1 ≤ 281474976710656 ∧ some 1 = some 1 ∧ 0 + m.length + 4 + 4 ≤ 70368744177664 then
                    (if 0 + (0 + m.length + 4) * 1 ≤ (List.take ((0 + m.length) * 1) (List.take (m.length * 1) (bys m)) ++ [AV.int IntKind.u8 129, AV.int IntKind.u8 0, AV.int IntKind.u8 0, AV.int IntKind.u8 5]).length then
                      (if 0 = 0 ∧ 0 + (0 + m.length + 4) * 1 = (List.take ((0 + m.length) * 1) (List.take (m.length * 1) (bys m)) ++ [AV.int IntKind.u8 129, AV.int IntKind.u8 0, AV.int IntKind.u8 0, AV.int IntKind.u8 5]).length ∧ (0 < 4 ∨ 0 = 0) ∧ 1 = 1 ∧ [AV.int IntKind.u8 8, AV.int IntKind.u8 0, AV.int IntKind.u8 69, AV.int IntKind.u8 0].all AV.isCell = true then
                        (if decide (0 < IntKind.i64.wrap ((((0 + m.length + 4 + 4) : Nat) : Int) + 1) ∧ IntKind.i64.wrap ((((0 + m.length + 4 + 4) : Nat) : Int) + 1) < 4611686018427387904) = true then
                          (if 0 ≤ c % IntKind.i64.wrap ((((0 + m.length + 4 + 4) : Nat) : Int) + 1) ∧ c % IntKind.i64.wrap ((((0 + m.length + 4 + 4) : Nat) : Int) + 1) ≤ (((capOf (0 + m.length + 4 + 4) 0 false) : Nat) : Int) then
                            (if (bOk (hShortTb0 m c C W) (AV.sl (some (6, 0)) ((c % IntKind.i64.wrap ((((0 + m.length + 4 + 4) : Nat) : Int) + 1)).toNat - 0) (roomOf (0 + m.length + 4 + 4) 0 0 (some (c % IntKind.i64.wrap ((((0 + m.length + 4 + 4) : Nat) : Int) + 1))).isNone (c % IntKind.i64.wrap ((((0 + m.length + 4 + 4) : Nat) : Int) + 1)).toNat false) false) && cdec (nOf (AV.sl (some (6, 0)) ((c % IntKind.i64.wrap ((((0 + m.length + 4 + 4) : Nat) : Int) + 1)).toNat - 0) (roomOf (0 + m.length + 4 + 4) 0 0 (some (c % IntKind.i64.wrap ((((0 + m.length + 4 + 4) : Nat) : Int) + 1))).isNone (c % IntKind.i64.wrap ((((0 + m.length + 4 + 4) : Nat) : Int) + 1)).toNat false) false) ≤ 70368744177664 ∧ bOf (hShortTb0 m c C W) (AV.sl (some (6, 0)) ((c % IntKind.i64.wrap ((((0 + m.length + 4 + 4) : Nat) : Int) + 1)).toNat - 0) (roomOf (0 + m.length + 4 + 4) 0 0 (some (c % IntKind.i64.wrap ((((0 + m.length + 4 + 4) : Nat) : Int) + 1))).isNone (c % IntKind.i64.wrap ((((0 + m.length + 4 + 4) : Nat) : Int) + 1)).toNat false) false) = C)) = true then
                              (if decide (c % IntKind.i64.wrap ((((0 + m.length + 4 + 4) : Nat) : Int) + 1) < IntKind.i64.wrap ((((0 + m.length + 4 + 4) : Nat) : Int) - 2)) = true then
                                K (AV.bool false)
                              else (if (18 == IntKind.i64.wrap ((((0 + m.length + 4 + 4) : Nat) : Int) - 2)) = true then
                                  K (AV.bool true)
                                else K (AV.bool false)))
                            else none)
                          else none)
                        else none)
                      else none)
                    else none)
                  else none)
                else none)
              else none)
            else none)
          else none)
        else none)
      else none)) := by
  kernel_rfl


theorem byt_right' {m l : List UInt8} {n i : Nat} (hm : m.length = n) : byt (m ++ l) (n + i) = byt l i := by
  subst hm
  simp [byt, List.getD, List.getElem?_append_right]
theorem byt_tk {l : List UInt8} {n i : Nat} (h : i < n) : byt (l.take n) i = byt l i := by
  simp [byt, List.getD, List.getElem?_take, h]

theorem shortF {m : List UInt8} (hm : m.length = 12) {n : Nat} (hn : n ≤ 16) : netR ((m ++ [8, 0, 69, 0]).take n) = if n < 14 then (0, 0, 1) else (14, 2048, 0) := by
  unfold netR
  have hl : ((m ++ [8, 0, 69, 0]).take n).length = n := by simp [hm]; omega
  rw [hl]
  by_cases h : n < 14
  · rw [if_pos h, if_pos h]
  · have h1 : byt ((m ++ [8, 0, 69, 0]).take n) 12 = 8 := by rw [byt_tk (by omega)]; exact byt_right' (i := 0) hm
    have h2 : byt ((m ++ [8, 0, 69, 0]).take n) 13 = 0 := by rw [byt_tk (by omega)]; exact byt_right' (i := 1) hm
    have hw : word ((m ++ [8, 0, 69, 0]).take n) 12 = 2048 := by unfold word; rw [h1, h2]; rfl
    rw [if_neg h, if_neg h, hw]; rfl
theorem shortT {m : List UInt8} (hm : m.length = 12) {n : Nat} (hn : n ≤ 20) : netR ((m ++ [129, 0, 0, 5, 8, 0, 69, 0]).take n) = if n < 18 then (0, 0, 1) else (18, 2048, 0) := by
  unfold netR
  have hl : ((m ++ [129, 0, 0, 5, 8, 0, 69, 0]).take n).length = n := by simp [hm]; omega
  rw [hl]
  by_cases h : n < 14
  · rw [if_pos h, if_pos (by omega)]
  · have h1 : byt ((m ++ [129, 0, 0, 5, 8, 0, 69, 0]).take n) 12 = 129 := by rw [byt_tk (by omega)]; exact byt_right' (i := 0) hm
    have h2 : byt ((m ++ [129, 0, 0, 5, 8, 0, 69, 0]).take n) 13 = 0 := by rw [byt_tk (by omega)]; exact byt_right' (i := 1) hm
    have hw : word ((m ++ [129, 0, 0, 5, 8, 0, 69, 0]).take n) 12 = 33024 := by unfold word; rw [h1, h2]; rfl
    rw [if_neg h, hw, if_pos rfl]
    by_cases h' : n < 18
    · rw [if_pos h', if_pos h']
    · have h1 : byt ((m ++ [129, 0, 0, 5, 8, 0, 69, 0]).take n) 16 = 8 := by rw [byt_tk (by omega)]; exact byt_right' (i := 4) hm
      have h2 : byt ((m ++ [129, 0, 0, 5, 8, 0, 69, 0]).take n) 17 = 0 := by rw [byt_tk (by omega)]; exact byt_right' (i := 5) hm
      have hw : word ((m ++ [129, 0, 0, 5, 8, 0, 69, 0]).take n) 16 = 2048 := by unfold word; rw [h1, h2]; rfl
      rw [if_neg h', if_neg h', hw]; rfl

theorem runShortF (m : List UInt8) (c : Int) : ∃ h', Runs Try.prog 5 [slB 0 m, .bool false, .int .i64 c] [farB m] (.bool true) h' := by
  by_cases hm : m.length = 12
  case neg =>
    refine Runs.val0 (t := t4d [] 0 0 1 34525 []) (t4dOk rfl rfl) (F := 100) (n := 4) ?_
    rw [nfShortFa]
    exact if_pos (by simp; omega)
  obtain ⟨n, hn⟩ := Int.eq_ofNat_of_zero_le (show 0 ≤ c % 17 by omega)
  have hn2 : n ≤ 16 := by omega
  have hs := shortF hm hn2
  by_cases h : n < 14
  · rw [if_pos h] at hs
    have hw : withR ((m ++ [8, 0, 69, 0]).take n) 34525 = [] := by unfold withR; rw [hs]; rfl
    refine Runs.val0 (t := t4d ((m ++ [8, 0, 69, 0]).take n) 0 0 1 34525 []) (t4dOk hs hw) (F := 100) (n := 4) ?_
    rw [nfShortFa, hm]
    have w1 : IntKind.i64.wrap (((0 + 12 + 4 : Nat) : Int) + 1) = 17 := by rfl
    have w2 : IntKind.i64.wrap (((0 + 12 + 4 : Nat) : Int) - 2) = 14 := by rfl
    have e1 : ((n : Nat) : Int).toNat - 0 = n := by omega
    rw [w1, w2, hn, e1]
    have g := bOk_part (h := hShortFa0 m c ((m ++ [8, 0, 69, 0]).take n)) (k := 4) (o := 0) (n := n) (r := roomOf (0 + 12 + 4) 0 0 (some (n : Int)).isNone (n : Int).toNat false) (e := false) (l := m ++ [8, 0, 69, 0]) rfl (by simp [bys, List.take_of_length_le]) (by simp [hm]; omega)
    rw [List.drop_zero] at g
    generalize (m ++ [8, 0, 69, 0]).take n = C at g ⊢
    refine (if_neg (by simp)).trans ?_
    repeat (first | (refine (if_pos ?_).trans ?_; · first | decide | (simp [hm, List.take_of_length_le, capOf] <;> done) | (simp [hm, List.take_of_length_le, capOf] <;> omega)))
    refine (if_pos (by rw [g.1, Bool.true_and]; exact cdec_true.2 ⟨by simp only [nOf]; omega, g.2⟩)).trans ?_
    refine (if_pos (by simp; omega)).trans ?_
    refine (if_pos (by simp [capOf]; omega)).trans ?_
    refine (if_pos (by rw [g.1, Bool.true_and]; exact cdec_true.2 ⟨by simp only [nOf]; omega, by decide, by decide, rfl, g.2⟩)).trans ?_
    rfl
  · rw [if_neg h] at hs
    refine Runs.val0 (t := t4d ((m ++ [8, 0, 69, 0]).take n) 14 2048 0 34525 _) (t4dOk hs rfl) (F := 100) (n := 4) ?_
    rw [nfShortFb, hm]
    have w1 : IntKind.i64.wrap (((0 + 12 + 4 : Nat) : Int) + 1) = 17 := by rfl
    have w2 : IntKind.i64.wrap (((0 + 12 + 4 : Nat) : Int) - 2) = 14 := by rfl
    have e1 : ((n : Nat) : Int).toNat - 0 = n := by omega
    rw [w1, w2, hn, e1]
    have g := bOk_part (h := hShortFb0 m c ((m ++ [8, 0, 69, 0]).take n) (withR ((m ++ [8, 0, 69, 0]).take n) 34525)) (k := 4) (o := 0) (n := n) (r := roomOf (0 + 12 + 4) 0 0 (some (n : Int)).isNone (n : Int).toNat false) (e := false) (l := m ++ [8, 0, 69, 0]) rfl (by simp [bys, List.take_of_length_le]) (by simp [hm]; omega)
    rw [List.drop_zero] at g
    generalize (m ++ [8, 0, 69, 0]).take n = C at g ⊢
    refine (if_neg (by simp)).trans ?_
    repeat (first | (refine (if_pos ?_).trans ?_; · first | decide | (simp [hm, List.take_of_length_le, capOf] <;> done) | (simp [hm, List.take_of_length_le, capOf] <;> omega)))
    refine (if_pos (by rw [g.1, Bool.true_and]; exact cdec_true.2 ⟨by simp only [nOf]; omega, g.2⟩)).trans ?_
    refine (if_neg (by simp; omega)).trans ?_
    rfl

theorem runShortT (m : List UInt8) (c : Int) : ∃ h', Runs Try.prog 5 [slB 0 m, .bool true, .int .i64 c] [farB m] (.bool true) h' := by
  by_cases hm : m.length = 12
  case neg =>
    refine Runs.val0 (t := t4d [] 0 0 1 34525 []) (t4dOk rfl rfl) (F := 100) (n := 4) ?_
    rw [nfShortTa]
    exact if_pos (by simp; omega)
  obtain ⟨n, hn⟩ := Int.eq_ofNat_of_zero_le (show 0 ≤ c % 21 by omega)
  have hn2 : n ≤ 20 := by omega
  have hs := shortT hm hn2
  by_cases h : n < 18
  · rw [if_pos h] at hs
    have hw : withR ((m ++ [129, 0, 0, 5, 8, 0, 69, 0]).take n) 34525 = [] := by unfold withR; rw [hs]; rfl
    refine Runs.val0 (t := t4d ((m ++ [129, 0, 0, 5, 8, 0, 69, 0]).take n) 0 0 1 34525 []) (t4dOk hs hw) (F := 100) (n := 4) ?_
    rw [nfShortTa, hm]
    have w1 : IntKind.i64.wrap (((0 + 12 + 4 + 4 : Nat) : Int) + 1) = 21 := by rfl
    have w2 : IntKind.i64.wrap (((0 + 12 + 4 + 4 : Nat) : Int) - 2) = 18 := by rfl
    have e1 : ((n : Nat) : Int).toNat - 0 = n := by omega
    rw [w1, w2, hn, e1]
    have g := bOk_part (h := hShortTa0 m c ((m ++ [129, 0, 0, 5, 8, 0, 69, 0]).take n)) (k := 6) (o := 0) (n := n) (r := roomOf (0 + 12 + 4 + 4) 0 0 (some (n : Int)).isNone (n : Int).toNat false) (e := false) (l := m ++ [129, 0, 0, 5, 8, 0, 69, 0]) rfl (by simp [bys, List.take_of_length_le]) (by simp [hm]; omega)
    rw [List.drop_zero] at g
    generalize (m ++ [129, 0, 0, 5, 8, 0, 69, 0]).take n = C at g ⊢
    refine (if_neg (by simp)).trans ?_
    repeat (first | (refine (if_pos ?_).trans ?_; · first | decide | (simp [hm, List.take_of_length_le, capOf] <;> done) | (simp [hm, List.take_of_length_le, capOf] <;> omega)))
    refine (if_pos (by rw [g.1, Bool.true_and]; exact cdec_true.2 ⟨by simp only [nOf]; omega, g.2⟩)).trans ?_
    refine (if_pos (by simp; omega)).trans ?_
    refine (if_pos (by simp [capOf]; omega)).trans ?_
    refine (if_pos (by rw [g.1, Bool.true_and]; exact cdec_true.2 ⟨by simp only [nOf]; omega, by decide, by decide, rfl, g.2⟩)).trans ?_
    rfl
  · rw [if_neg h] at hs
    refine Runs.val0 (t := t4d ((m ++ [129, 0, 0, 5, 8, 0, 69, 0]).take n) 18 2048 0 34525 _) (t4dOk hs rfl) (F := 100) (n := 4) ?_
    rw [nfShortTb, hm]
    have w1 : IntKind.i64.wrap (((0 + 12 + 4 + 4 : Nat) : Int) + 1) = 21 := by rfl
    have w2 : IntKind.i64.wrap (((0 + 12 + 4 + 4 : Nat) : Int) - 2) = 18 := by rfl
    have e1 : ((n : Nat) : Int).toNat - 0 = n := by omega
    rw [w1, w2, hn, e1]
    have g := bOk_part (h := hShortTb0 m c ((m ++ [129, 0, 0, 5, 8, 0, 69, 0]).take n) (withR ((m ++ [129, 0, 0, 5, 8, 0, 69, 0]).take n) 34525)) (k := 6) (o := 0) (n := n) (r := roomOf (0 + 12 + 4 + 4) 0 0 (some (n : Int)).isNone (n : Int).toNat false) (e := false) (l := m ++ [129, 0, 0, 5, 8, 0, 69, 0]) rfl (by simp [bys, List.take_of_length_le]) (by simp [hm]; omega)
    rw [List.drop_zero] at g
    generalize (m ++ [129, 0, 0, 5, 8, 0, 69, 0]).take n = C at g ⊢
    refine (if_neg (by simp)).trans ?_
    repeat (first | (refine (if_pos ?_).trans ?_; · first | decide | (simp [hm, List.take_of_length_le, capOf] <;> done) | (simp [hm, List.take_of_length_le, capOf] <;> omega)))
    refine (if_pos (by rw [g.1, Bool.true_and]; exact cdec_true.2 ⟨by simp only [nOf]; omega, g.2⟩)).trans ?_
    refine (if_neg (by simp; omega)).trans ?_
    rfl

theorem runEtherShort (m : List UInt8) (tg : Bool) (c : Int) (_ : m.length ≤ maxLen) (_ : -9223372036854775808 ≤ c ∧ c < 9223372036854775808) :
    ∃ h', Runs Try.prog 5 [slB 0 m, .bool tg, .int .i64 c] [farB m] (.bool true) h' := by
  cases tg
  · exact runShortF m c
  · exact runShortT m c

end Go.Proofs.Ytgnhnaambioinaa.L
