/- EtherTags' run. -/
import Derived.Test.YtgnhnaambioinaaWith
import Derived.Test.YtgnhnaambioinaaAwake4
set_option autoImplicit false
set_option maxRecDepth 100000
set_option linter.unusedVariables false
set_option linter.unusedSimpArgs false
namespace Go.Proofs.Ytgnhnaambioinaa.L
open Go Go.Abs

noncomputable def t4c (C : List UInt8) (a w r : Int) (W : List UInt8) : Tbl := [(8, entF (eNetAt C a w r)), (10, entF (eWithAt C 2048 W)), (7, entF eAwake)]
theorem t4cOk {C : List UInt8} {a w r : Int} {W : List UInt8} (h1 : netR C = (a, w, r)) (h2 : withR C 2048 = W) : ∀ f E, (t4c C a w r W).find f = some E → SoundE Try.prog f E := find_cons (sNetAt h1) (find_cons (sWithAt h2) (find_cons sAwake (find_nil _)))

noncomputable def hTagsFF0 (m : List UInt8) (t : Int) (s C W : List UInt8) : AHeap := [ABlk.cells (bys m) 1 Md.far none, ABlk.cells (bys s) 1 Md.far none, ABlk.dead, ABlk.dead, ABlk.cells [AV.int IntKind.u8 129, AV.int IntKind.u8 0, AV.int IntKind.u8 (IntKind.u8.wrap (t.fdiv 256)), AV.int IntKind.u8 (IntKind.u8.wrap t)] 1 Md.own none, ABlk.dead, ABlk.cells [AV.int IntKind.u8 8, AV.int IntKind.u8 0] 1 Md.own none, ABlk.cells (List.take ((0 + m.length + 4) * 1) (List.take ((0 + m.length) * 1) (List.take (m.length * 1) (bys m)) ++ [AV.int IntKind.u8 129, AV.int IntKind.u8 0, AV.int IntKind.u8 (IntKind.u8.wrap (t.fdiv 256)), AV.int IntKind.u8 (IntKind.u8.wrap t)]) ++ [AV.int IntKind.u8 8, AV.int IntKind.u8 0]) 1 Md.ro none, ABlk.cells (List.take ((0 + m.length + 4 + 2) * 1) (List.take ((0 + m.length + 4) * 1) (List.take ((0 + m.length) * 1) (List.take (m.length * 1) (bys m)) ++ [AV.int IntKind.u8 129, AV.int IntKind.u8 0, AV.int IntKind.u8 (IntKind.u8.wrap (t.fdiv 256)), AV.int IntKind.u8 (IntKind.u8.wrap t)]) ++ [AV.int IntKind.u8 8, AV.int IntKind.u8 0]) ++ List.take (s.length * 1) (bys s)) 1 Md.own (some 7)]
theorem nfTagsFF {R : Type} (m : List UInt8) (t : Int) (s C W : List UInt8) (K : AV → Option R) :
    abody Try.prog (deepC Try.prog (t4c C 18 2048 0 W) 100 4) (mixLS [] (autoLS Try.prog (deepC Try.prog (t4c C 18 2048 0 W) 100 4) 100 4 (bodyOf Try.prog 4))) 4 [slB 0 m, .int .u16 t, .bool false, .bool false, slB 1 s] [farB m, farB s] (fun v _ => K v) =
    (if ((m.length : Int) != 12) = true then
      K (AV.bool true)
    else (if decide ((s.length : Int) > 500) = true then
        K (AV.bool true)
      else (if 0 + m.length * 1 ≤ (bys m).length then
          (if (2 * (0 + m.length) + 200) * 1 ≤ 281474976710656 ∧ some 1 = some 1 ∧ 0 + m.length ≤ 70368744177664 then
            (if 0 = 0 ∧ 0 = 0 ∧ (0 < m.length ∨ 0 = 0) ∧ 1 = 1 ∧ (List.take (m.length * 1) (bys m)).all AV.isCell = true then
              (if (2 * (0 + m.length + 4) + 200) * 1 ≤ 281474976710656 ∧ some 1 = some 1 ∧ 0 + m.length + 4 ≤ 70368744177664 then
                (if 0 + (0 + m.length) * 1 ≤ (List.take (m.length * 1) (bys m)).length then
                  (if 0 = 0 ∧ 0 + (0 + m.length) * 1 = (List.take (m.length * 1) (bys m)).length ∧ (0 < 4 ∨ 0 = 0) ∧ 1 = 1 ∧ [AV.int IntKind.u8 129, AV.int IntKind.u8 0, AV.int IntKind.u8 (IntKind.u8.wrap (t.fdiv 256)), AV.int IntKind.u8 (IntKind.u8.wrap t)].all AV.isCell = true then
                    (if (2 * (0 + m.length + 4 + 2) + 200) * 1 ≤ 281474976710656 ∧ some 1 = some 1 ∧ 0 + m.length + 4 + 2 ≤ 70368744177664 then
                      (if 0 + (0 + m.length + 4) * 1 ≤ (List.take ((0 + m.length) * 1) (List.take (m.length * 1) (bys m)) ++ [AV.int IntKind.u8 129, AV.int IntKind.u8 0, AV.int IntKind.u8 (IntKind.u8.wrap (t.fdiv 256)), AV.int IntKind.u8 (IntKind.u8.wrap t)]).length then
                        (if 0 = 0 ∧ 0 + (0 + m.length + 4) * 1 = (List.take ((0 + m.length) * 1) (List.take (m.length * 1) (bys m)) ++ [AV.int IntKind.u8 129, AV.int IntKind.u8 0, AV.int IntKind.u8 (IntKind.u8.wrap (t.fdiv 256)), AV.int IntKind.u8 (IntKind.u8.wrap t)]).length ∧ (0 < 2 ∨ 0 = 0) ∧ 1 = 1 ∧ [AV.int IntKind.u8 8, AV.int IntKind.u8 0].all AV.isCell = true then
                          (if 0 + s.length * 1 ≤ (bys s).length then
                            (if (2 * (0 + m.length + 4 + 2 + s.length) + 200) * 1 ≤ 281474976710656 ∧ some 1 = some 1 ∧ 0 + m.length + 4 + 2 + s.length ≤ 70368744177664 then
                              (if 0 + (0 + m.length + 4 + 2) * 1 ≤ (List.take ((0 + m.length + 4) * 1) (List.take ((0 + m.length) * 1) (List.take (m.length * 1) (bys m)) ++ [AV.int IntKind.u8 129, AV.int IntKind.u8 0, AV.int IntKind.u8 (IntKind.u8.wrap (t.fdiv 256)), AV.int IntKind.u8 (IntKind.u8.wrap t)]) ++ [AV.int IntKind.u8 8, AV.int IntKind.u8 0]).length then
                                (if 0 = 0 ∧ 0 + (0 + m.length + 4 + 2) * 1 = (List.take ((0 + m.length + 4) * 1) (List.take ((0 + m.length) * 1) (List.take (m.length * 1) (bys m)) ++ [AV.int IntKind.u8 129, AV.int IntKind.u8 0, AV.int IntKind.u8 (IntKind.u8.wrap (t.fdiv 256)), AV.int IntKind.u8 (IntKind.u8.wrap t)]) ++ [AV.int IntKind.u8 8, AV.int IntKind.u8 0]).length ∧ (0 < s.length ∨ 0 = 0) ∧ 1 = 1 ∧ (List.take (s.length * 1) (bys s)).all AV.isCell = true then
                                  (if (bOk (hTagsFF0 m t s C W) (AV.sl (some (8, 0)) (0 + m.length + 4 + 2 + s.length) 0 false) && cdec (nOf (AV.sl (some (8, 0)) (0 + m.length + 4 + 2 + s.length) 0 false) ≤ 70368744177664 ∧ bOf (hTagsFF0 m t s C W) (AV.sl (some (8, 0)) (0 + m.length + 4 + 2 + s.length) 0 false) = C)) = true then
                                    (if (bOk (hTagsFF0 m t s C W) (AV.sl (some (8, 0)) (0 + m.length + 4 + 2 + s.length) 0 false) && cdec (nOf (AV.sl (some (8, 0)) (0 + m.length + 4 + 2 + s.length) 0 false) ≤ 1000000000 ∧ Int.ofNat 0 ≤ Int.ofNat 2048 ∧ Int.ofNat 2048 < Int.ofNat 65536 ∧ Int.ofNat 2048 = Int.ofNat 2048 ∧ bOf (hTagsFF0 m t s C W) (AV.sl (some (8, 0)) (0 + m.length + 4 + 2 + s.length) 0 false) = C)) = true then
                                      (if ((W.length : Int) == 18) = true then
                                        (if Int.ofNat 0 ≤ Int.ofNat 16 ∧ 16 ≤ (((capOf W.length 0 false) : Nat) : Int) then
                                          (if 16 ≤ (bys W).length then
                                            (if (List.take 16 (bys W)).all isByte = true then
                                              (if Int.ofNat 0 ≤ Int.ofNat 16 ∧ 16 ≤ (((capOf (0 + m.length + 4 + 2 + s.length) 0 false) : Nat) : Int) then
                                                (if 16 ≤ (List.take ((0 + m.length + 4 + 2) * 1) (List.take ((0 + m.length + 4) * 1) (List.take ((0 + m.length) * 1) (List.take (m.length * 1) (bys m)) ++ [AV.int IntKind.u8 129, AV.int IntKind.u8 0, AV.int IntKind.u8 (IntKind.u8.wrap (t.fdiv 256)), AV.int IntKind.u8 (IntKind.u8.wrap t)]) ++ [AV.int IntKind.u8 8, AV.int IntKind.u8 0]) ++ List.take (s.length * 1) (bys s)).length then
                                                  (if (List.take 16 (List.take ((0 + m.length + 4 + 2) * 1) (List.take ((0 + m.length + 4) * 1) (List.take ((0 + m.length) * 1) (List.take (m.length * 1) (bys m)) ++ [AV.int IntKind.u8 129, AV.int IntKind.u8 0, AV.int IntKind.u8 (IntKind.u8.wrap (t.fdiv 256)), AV.int IntKind.u8 (IntKind.u8.wrap t)]) ++ [AV.int IntKind.u8 8, AV.int IntKind.u8 0]) ++ List.take (s.length * 1) (bys s))).all isByte = true then
                                                    (if decide (List.map byteD (List.take 16 (bys W)) = List.map byteD (List.take 16 (List.take ((0 + m.length + 4 + 2) * 1) (List.take ((0 + m.length + 4) * 1) (List.take ((0 + m.length) * 1) (List.take (m.length * 1) (bys m)) ++ [AV.int IntKind.u8 129, AV.int IntKind.u8 0, AV.int IntKind.u8 (IntKind.u8.wrap (t.fdiv 256)), AV.int IntKind.u8 (IntKind.u8.wrap t)]) ++ [AV.int IntKind.u8 8, AV.int IntKind.u8 0]) ++ List.take (s.length * 1) (bys s)))) = true then
                                                      (if Int.ofNat 0 ≤ Int.ofNat 16 ∧ 16 < (W.length : Int) then
                                                        (if isIntV IntKind.u8 (bys W)[16]? = true then
                                                          (if (intV (bys W)[16]? == 8) = true then
                                                            (if Int.ofNat 0 ≤ Int.ofNat 17 ∧ 17 < (W.length : Int) then
                                                              (if isIntV IntKind.u8 (bys W)[17]? = true then
                                                                (if (intV (bys W)[17]? == 0) = true then
                                                                  K (AV.bool true)
                                                                else K (AV.bool false))
                                                              else none)
                                                            else none)
                                                          else K (AV.bool false))
                                                        else none)
                                                      else none)
                                                    else K (AV.bool false))
                                                  else none)
                                                else none)
                                              else none)
                                            else none)
                                          else none)
                                        else none)
                                      else K (AV.bool false))
                                    else none)
                                  else none)
                                else none)
                              else none)
                            else none)
                          else none)
                        else none)
                      else none)
                    else none)
                  else none)
                else none)
              else none)
            else none)
          else none)
        else none))) := by
  kernel_rfl

noncomputable def hTagsTF0 (m : List UInt8) (t : Int) (s C W : List UInt8) : AHeap := [ABlk.cells (bys m) 1 Md.far none, ABlk.cells (bys s) 1 Md.far none, ABlk.dead, ABlk.dead, ABlk.cells [AV.int IntKind.u8 129, AV.int IntKind.u8 0, AV.int IntKind.u8 (IntKind.u8.wrap (t.fdiv 256)), AV.int IntKind.u8 (IntKind.u8.wrap t)] 1 Md.own none, ABlk.dead, ABlk.cells [AV.int IntKind.u8 134, AV.int IntKind.u8 221] 1 Md.own none, ABlk.cells (List.take ((0 + m.length + 4) * 1) (List.take ((0 + m.length) * 1) (List.take (m.length * 1) (bys m)) ++ [AV.int IntKind.u8 129, AV.int IntKind.u8 0, AV.int IntKind.u8 (IntKind.u8.wrap (t.fdiv 256)), AV.int IntKind.u8 (IntKind.u8.wrap t)]) ++ [AV.int IntKind.u8 134, AV.int IntKind.u8 221]) 1 Md.ro none, ABlk.cells (List.take ((0 + m.length + 4 + 2) * 1) (List.take ((0 + m.length + 4) * 1) (List.take ((0 + m.length) * 1) (List.take (m.length * 1) (bys m)) ++ [AV.int IntKind.u8 129, AV.int IntKind.u8 0, AV.int IntKind.u8 (IntKind.u8.wrap (t.fdiv 256)), AV.int IntKind.u8 (IntKind.u8.wrap t)]) ++ [AV.int IntKind.u8 134, AV.int IntKind.u8 221]) ++ List.take (s.length * 1) (bys s)) 1 Md.own (some 7)]
theorem nfTagsTF {R : Type} (m : List UInt8) (t : Int) (s C W : List UInt8) (K : AV → Option R) :
    abody Try.prog (deepC Try.prog (t4c C 18 34525 0 W) 100 4) (mixLS [] (autoLS Try.prog (deepC Try.prog (t4c C 18 34525 0 W) 100 4) 100 4 (bodyOf Try.prog 4))) 4 [slB 0 m, .int .u16 t, .bool true, .bool false, slB 1 s] [farB m, farB s] (fun v _ => K v) =
    (if ((m.length : Int) != 12) = true then
      K (AV.bool true)
    else (if decide ((s.length : Int) > 500) = true then
        K (AV.bool true)
      else (if 0 + m.length * 1 ≤ (bys m).length then
          (if (2 * (0 + m.length) + 200) * 1 ≤ 281474976710656 ∧ some 1 = some 1 ∧ 0 + m.length ≤ 70368744177664 then
            (if 0 = 0 ∧ 0 = 0 ∧ (0 < m.length ∨ 0 = 0) ∧ 1 = 1 ∧ (List.take (m.length * 1) (bys m)).all AV.isCell = true then
              (if (2 * (0 + m.length + 4) + 200) * 1 ≤ 281474976710656 ∧ some 1 = some 1 ∧ 0 + m.length + 4 ≤ 70368744177664 then
                (if 0 + (0 + m.length) * 1 ≤ (List.take (m.length * 1) (bys m)).length then
                  (if 0 = 0 ∧ 0 + (0 + m.length) * 1 = (List.take (m.length * 1) (bys m)).length ∧ (0 < 4 ∨ 0 = 0) ∧ 1 = 1 ∧ [AV.int IntKind.u8 129, AV.int IntKind.u8 0, AV.int IntKind.u8 (IntKind.u8.wrap (t.fdiv 256)), AV.int IntKind.u8 (IntKind.u8.wrap t)].all AV.isCell = true then
                    (if (2 * (0 + m.length + 4 + 2) + 200) * 1 ≤ 281474976710656 ∧ some 1 = some 1 ∧ 0 + m.length + 4 + 2 ≤ 70368744177664 then
                      (if 0 + (0 + m.length + 4) * 1 ≤ (List.take ((0 + m.length) * 1) (List.take (m.length * 1) (bys m)) ++ [AV.int IntKind.u8 129, AV.int IntKind.u8 0, AV.int IntKind.u8 (IntKind.u8.wrap (t.fdiv 256)), AV.int IntKind.u8 (IntKind.u8.wrap t)]).length then
                        (if 0 = 0 ∧ 0 + (0 + m.length + 4) * 1 = (List.take ((0 + m.length) * 1) (List.take (m.length * 1) (bys m)) ++ [AV.int IntKind.u8 129, AV.int IntKind.u8 0, AV.int IntKind.u8 (IntKind.u8.wrap (t.fdiv 256)), AV.int IntKind.u8 (IntKind.u8.wrap t)]).length ∧ (0 < 2 ∨ 0 = 0) ∧ 1 = 1 ∧ [AV.int IntKind.u8 134, AV.int IntKind.u8 221].all AV.isCell = true then
                          (if 0 + s.length * 1 ≤ (bys s).length then
                            (if (2 * (0 + m.length + 4 + 2 + s.length) + 200) * 1 ≤ 281474976710656 ∧ some 1 = some 1 ∧ 0 + m.length + 4 + 2 + s.length ≤ 70368744177664 then
                              (if 0 + (0 + m.length + 4 + 2) * 1 ≤ (List.take ((0 + m.length + 4) * 1) (List.take ((0 + m.length) * 1) (List.take (m.length * 1) (bys m)) ++ [AV.int IntKind.u8 129, AV.int IntKind.u8 0, AV.int IntKind.u8 (IntKind.u8.wrap (t.fdiv 256)), AV.int IntKind.u8 (IntKind.u8.wrap t)]) ++ [AV.int IntKind.u8 134, AV.int IntKind.u8 221]).length then
                                (if 0 = 0 ∧ 0 + (0 + m.length + 4 + 2) * 1 = (List.take ((0 + m.length + 4) * 1) (List.take ((0 + m.length) * 1) (List.take (m.length * 1) (bys m)) ++ [AV.int IntKind.u8 129, AV.int IntKind.u8 0, AV.int IntKind.u8 (IntKind.u8.wrap (t.fdiv 256)), AV.int IntKind.u8 (IntKind.u8.wrap t)]) ++ [AV.int IntKind.u8 134, AV.int IntKind.u8 221]).length ∧ (0 < s.length ∨ 0 = 0) ∧ 1 = 1 ∧ (List.take (s.length * 1) (bys s)).all AV.isCell = true then
                                  (if (bOk (hTagsTF0 m t s C W) (AV.sl (some (8, 0)) (0 + m.length + 4 + 2 + s.length) 0 false) && cdec (nOf (AV.sl (some (8, 0)) (0 + m.length + 4 + 2 + s.length) 0 false) ≤ 70368744177664 ∧ bOf (hTagsTF0 m t s C W) (AV.sl (some (8, 0)) (0 + m.length + 4 + 2 + s.length) 0 false) = C)) = true then
                                    (if (bOk (hTagsTF0 m t s C W) (AV.sl (some (8, 0)) (0 + m.length + 4 + 2 + s.length) 0 false) && cdec (nOf (AV.sl (some (8, 0)) (0 + m.length + 4 + 2 + s.length) 0 false) ≤ 1000000000 ∧ Int.ofNat 0 ≤ Int.ofNat 2048 ∧ Int.ofNat 2048 < Int.ofNat 65536 ∧ Int.ofNat 2048 = Int.ofNat 2048 ∧ bOf (hTagsTF0 m t s C W) (AV.sl (some (8, 0)) (0 + m.length + 4 + 2 + s.length) 0 false) = C)) = true then
                                      (if ((W.length : Int) == 18) = true then
                                        (if Int.ofNat 0 ≤ Int.ofNat 16 ∧ 16 ≤ (((capOf W.length 0 false) : Nat) : Int) then
                                          (if 16 ≤ (bys W).length then
                                            (if (List.take 16 (bys W)).all isByte = true then
                                              (if Int.ofNat 0 ≤ Int.ofNat 16 ∧ 16 ≤ (((capOf (0 + m.length + 4 + 2 + s.length) 0 false) : Nat) : Int) then
                                                (if 16 ≤ (List.take ((0 + m.length + 4 + 2) * 1) (List.take ((0 + m.length + 4) * 1) (List.take ((0 + m.length) * 1) (List.take (m.length * 1) (bys m)) ++ [AV.int IntKind.u8 129, AV.int IntKind.u8 0, AV.int IntKind.u8 (IntKind.u8.wrap (t.fdiv 256)), AV.int IntKind.u8 (IntKind.u8.wrap t)]) ++ [AV.int IntKind.u8 134, AV.int IntKind.u8 221]) ++ List.take (s.length * 1) (bys s)).length then
                                                  (if (List.take 16 (List.take ((0 + m.length + 4 + 2) * 1) (List.take ((0 + m.length + 4) * 1) (List.take ((0 + m.length) * 1) (List.take (m.length * 1) (bys m)) ++ [AV.int IntKind.u8 129, AV.int IntKind.u8 0, AV.int IntKind.u8 (IntKind.u8.wrap (t.fdiv 256)), AV.int IntKind.u8 (IntKind.u8.wrap t)]) ++ [AV.int IntKind.u8 134, AV.int IntKind.u8 221]) ++ List.take (s.length * 1) (bys s))).all isByte = true then
                                                    (if decide (List.map byteD (List.take 16 (bys W)) = List.map byteD (List.take 16 (List.take ((0 + m.length + 4 + 2) * 1) (List.take ((0 + m.length + 4) * 1) (List.take ((0 + m.length) * 1) (List.take (m.length * 1) (bys m)) ++ [AV.int IntKind.u8 129, AV.int IntKind.u8 0, AV.int IntKind.u8 (IntKind.u8.wrap (t.fdiv 256)), AV.int IntKind.u8 (IntKind.u8.wrap t)]) ++ [AV.int IntKind.u8 134, AV.int IntKind.u8 221]) ++ List.take (s.length * 1) (bys s)))) = true then
                                                      (if Int.ofNat 0 ≤ Int.ofNat 16 ∧ 16 < (W.length : Int) then
                                                        (if isIntV IntKind.u8 (bys W)[16]? = true then
                                                          (if (intV (bys W)[16]? == 8) = true then
                                                            (if Int.ofNat 0 ≤ Int.ofNat 17 ∧ 17 < (W.length : Int) then
                                                              (if isIntV IntKind.u8 (bys W)[17]? = true then
                                                                (if (intV (bys W)[17]? == 0) = true then
                                                                  K (AV.bool true)
                                                                else K (AV.bool false))
                                                              else none)
                                                            else none)
                                                          else K (AV.bool false))
                                                        else none)
                                                      else none)
                                                    else K (AV.bool false))
                                                  else none)
                                                else none)
                                              else none)
                                            else none)
                                          else none)
                                        else none)
                                      else K (AV.bool false))
                                    else none)
                                  else none)
                                else none)
                              else none)
                            else none)
                          else none)
                        else none)
                      else none)
                    else none)
                  else none)
                else none)
              else none)
            else none)
          else none)
        else none))) := by
  kernel_rfl

noncomputable def hTagsFT0 (m : List UInt8) (t : Int) (s C W : List UInt8) : AHeap := [ABlk.cells (bys m) 1 Md.far none, ABlk.cells (bys s) 1 Md.far none, ABlk.dead, ABlk.dead, ABlk.cells [AV.int IntKind.u8 129, AV.int IntKind.u8 0, AV.int IntKind.u8 (IntKind.u8.wrap (t.fdiv 256)), AV.int IntKind.u8 (IntKind.u8.wrap t)] 1 Md.own none, ABlk.dead, ABlk.cells [AV.int IntKind.u8 129, AV.int IntKind.u8 0, AV.int IntKind.u8 0, AV.int IntKind.u8 1] 1 Md.own none, ABlk.dead, ABlk.cells [AV.int IntKind.u8 8, AV.int IntKind.u8 0] 1 Md.own none, ABlk.cells (List.take ((0 + m.length + 4 + 4) * 1) (List.take ((0 + m.length + 4) * 1) (List.take ((0 + m.length) * 1) (List.take (m.length * 1) (bys m)) ++ [AV.int IntKind.u8 129, AV.int IntKind.u8 0, AV.int IntKind.u8 (IntKind.u8.wrap (t.fdiv 256)), AV.int IntKind.u8 (IntKind.u8.wrap t)]) ++ [AV.int IntKind.u8 129, AV.int IntKind.u8 0, AV.int IntKind.u8 0, AV.int IntKind.u8 1]) ++ [AV.int IntKind.u8 8, AV.int IntKind.u8 0]) 1 Md.ro none, ABlk.cells (List.take ((0 + m.length + 4 + 4 + 2) * 1) (List.take ((0 + m.length + 4 + 4) * 1) (List.take ((0 + m.length + 4) * 1) (List.take ((0 + m.length) * 1) (List.take (m.length * 1) (bys m)) ++ [AV.int IntKind.u8 129, AV.int IntKind.u8 0, AV.int IntKind.u8 (IntKind.u8.wrap (t.fdiv 256)), AV.int IntKind.u8 (IntKind.u8.wrap t)]) ++ [AV.int IntKind.u8 129, AV.int IntKind.u8 0, AV.int IntKind.u8 0, AV.int IntKind.u8 1]) ++ [AV.int IntKind.u8 8, AV.int IntKind.u8 0]) ++ List.take (s.length * 1) (bys s)) 1 Md.own (some 9)]
theorem nfTagsFT {R : Type} (m : List UInt8) (t : Int) (s C W : List UInt8) (K : AV → Option R) :
    abody Try.prog (deepC Try.prog (t4c C 0 0 2 W) 100 4) (mixLS [] (autoLS Try.prog (deepC Try.prog (t4c C 0 0 2 W) 100 4) 100 4 (bodyOf Try.prog 4))) 4 [slB 0 m, .int .u16 t, .bool false, .bool true, slB 1 s] [farB m, farB s] (fun v _ => K v) =
    (if ((m.length : Int) != 12) = true then
      K (AV.bool true)
    else (if decide ((s.length : Int) > 500) = true then
        K (AV.bool true)
      else (if 0 + m.length * 1 ≤ (bys m).length then
          (if (2 * (0 + m.length) + 200) * 1 ≤ 281474976710656 ∧ some 1 = some 1 ∧ 0 + m.length ≤ 70368744177664 then
            (if 0 = 0 ∧ 0 = 0 ∧ (0 < m.length ∨ 0 = 0) ∧ 1 = 1 ∧ (List.take (m.length * 1) (bys m)).all AV.isCell = true then
              (if (2 * (0 + m.length + 4) + 200) * 1 ≤ 281474976710656 ∧ some 1 = some 1 ∧ 0 + m.length + 4 ≤ 70368744177664 then
                (if 0 + (0 + m.length) * 1 ≤ (List.take (m.length * 1) (bys m)).length then
                  (if 0 = 0 ∧ 0 + (0 + m.length) * 1 = (List.take (m.length * 1) (bys m)).length ∧ (0 < 4 ∨ 0 = 0) ∧ 1 = 1 ∧ [AV.int IntKind.u8 129, AV.int IntKind.u8 0, AV.int IntKind.u8 (IntKind.u8.wrap (t.fdiv 256)), AV.int IntKind.u8 (IntKind.u8.wrap t)].all AV.isCell = true then
                    (if (2 * (0 + m.length + 4 + 4) + 200) * 1 ≤ 281474976710656 ∧ some 1 = some 1 ∧ 0 + m.length + 4 + 4 ≤ 70368744177664 then
                      (if 0 + (0 + m.length + 4) * 1 ≤ (List.take ((0 + m.length) * 1) (List.take (m.length * 1) (bys m)) ++ [AV.int IntKind.u8 129, AV.int IntKind.u8 0, AV.int IntKind.u8 (IntKind.u8.wrap (t.fdiv 256)), AV.int IntKind.u8 (IntKind.u8.wrap t)]).length then
                        (if 0 = 0 ∧ 0 + (0 + m.length + 4) * 1 = (List.take ((0 + m.length) * 1) (List.take (m.length * 1) (bys m)) ++ [AV.int IntKind.u8 129, AV.int IntKind.u8 0, AV.int IntKind.u8 (IntKind.u8.wrap (t.fdiv 256)), AV.int IntKind.u8 (IntKind.u8.wrap t)]).length ∧ (0 < 4 ∨ 0 = 0) ∧ 1 = 1 ∧ [AV.int IntKind.u8 129, AV.int IntKind.u8 0, AV.int IntKind.u8 0, AV.int IntKind.u8 1].all AV.isCell = true then
                          (if (2 * (0 + m.length + 4 + 4 + 2) + 200) * 1 ≤ 281474976710656 ∧ some 1 = some 1 ∧ 0 + m.length + 4 + 4 + 2 ≤ 70368744177664 then
                            (if 0 + (0 + m.length + 4 + 4) * 1 ≤ (List.take ((0 + m.length + 4) * 1) (List.take ((0 + m.length) * 1) (List.take (m.length * 1) (bys m)) ++ [AV.int IntKind.u8 129, AV.int IntKind.u8 0, AV.int IntKind.u8 (IntKind.u8.wrap (t.fdiv 256)), AV.int IntKind.u8 (IntKind.u8.wrap t)]) ++ [AV.int IntKind.u8 129, AV.int IntKind.u8 0, AV.int IntKind.u8 0, AV.int IntKind.u8 1]).length then
                              (if 0 = 0 ∧ 0 + (0 + m.length + 4 + 4) * 1 = (List.take ((0 + m.length + 4) * 1) (List.take ((0 + m.length) * 1) (List.take (m.length * 1) (bys m)) ++ [AV.int IntKind.u8 129, AV.int IntKind.u8 0, AV.int IntKind.u8 (IntKind.u8.wrap (t.fdiv 256)), AV.int IntKind.u8 (IntKind.u8.wrap t)]) ++ [AV.int IntKind.u8 129, AV.int IntKind.u8 0, AV.int IntKind.u8 0, AV.int IntKind.u8 1]).length ∧ (0 < 2 ∨ 0 = 0) ∧ 1 = 1 ∧ [AV.int IntKind.u8 8, AV.int IntKind.u8 0].all AV.isCell = true then
                                (if 0 + s.length * 1 ≤ (bys s).length then
                                  (if (2 * (0 + m.length + 4 + 4 + 2 + s.length) + 200) * 1 ≤ 281474976710656 ∧ some 1 = some 1 ∧ 0 + m.length + 4 + 4 + 2 + s.length ≤ 70368744177664 then
                                    (if 0 + (0 + m.length + 4 + 4 + 2) * 1 ≤ (List.take ((0 + m.length + 4 + 4) * 1) (List.take ((0 + m.length + 4) * 1) (List.take ((0 + m.length) * 1) (List.take (m.length * 1) (bys m)) ++ [AV.int IntKind.u8 129, AV.int IntKind.u8 0, AV.int IntKind.u8 (IntKind.u8.wrap (t.fdiv 256)), AV.int IntKind.u8 (IntKind.u8.wrap t)]) ++ [AV.int IntKind.u8 129, AV.int IntKind.u8 0, AV.int IntKind.u8 0, AV.int IntKind.u8 1]) ++ [AV.int IntKind.u8 8, AV.int IntKind.u8 0]).length then
                                      (if 0 = 0 ∧ 0 + (0 + m.length + 4 + 4 + 2) * 1 = (List.take ((0 + m.length + 4 + 4) * 1) (List.take ((0 + m.length + 4) * 1) (List.take ((0 + m.length) * 1) (List.take (m.length * 1) (bys m)) ++ [AV.int IntKind.u8 129, AV.int IntKind.u8 0, AV.int IntKind.u8 (IntKind.u8.wrap (t.fdiv 256)), AV.int IntKind.u8 (IntKind.u8.wrap t)]) ++ [AV.int IntKind.u8 129, AV.int IntKind.u8 0, AV.int IntKind.u8 0, AV.int IntKind.u8 1]) ++ [AV.int IntKind.u8 8, AV.int IntKind.u8 0]).length ∧ (0 < s.length ∨ 0 = 0) ∧ 1 = 1 ∧ (List.take (s.length * 1) (bys s)).all AV.isCell = true then
                                        (if (bOk (hTagsFT0 m t s C W) (AV.sl (some (10, 0)) (0 + m.length + 4 + 4 + 2 + s.length) 0 false) && cdec (nOf (AV.sl (some (10, 0)) (0 + m.length + 4 + 4 + 2 + s.length) 0 false) ≤ 70368744177664 ∧ bOf (hTagsFT0 m t s C W) (AV.sl (some (10, 0)) (0 + m.length + 4 + 4 + 2 + s.length) 0 false) = C)) = true then
                                          K (AV.bool true)
                                        else none)
                                      else none)
                                    else none)
                                  else none)
                                else none)
                              else none)
                            else none)
                          else none)
                        else none)
                      else none)
                    else none)
                  else none)
                else none)
              else none)
            else none)
          else none)
        else none))) := by
  kernel_rfl

noncomputable def hTagsTT0 (m : List UInt8) (t : Int) (s C W : List UInt8) : AHeap := [ABlk.cells (bys m) 1 Md.far none, ABlk.cells (bys s) 1 Md.far none, ABlk.dead, ABlk.dead, ABlk.cells [AV.int IntKind.u8 129, AV.int IntKind.u8 0, AV.int IntKind.u8 (IntKind.u8.wrap (t.fdiv 256)), AV.int IntKind.u8 (IntKind.u8.wrap t)] 1 Md.own none, ABlk.dead, ABlk.cells [AV.int IntKind.u8 129, AV.int IntKind.u8 0, AV.int IntKind.u8 0, AV.int IntKind.u8 1] 1 Md.own none, ABlk.dead, ABlk.cells [AV.int IntKind.u8 134, AV.int IntKind.u8 221] 1 Md.own none, ABlk.cells (List.take ((0 + m.length + 4 + 4) * 1) (List.take ((0 + m.length + 4) * 1) (List.take ((0 + m.length) * 1) (List.take (m.length * 1) (bys m)) ++ [AV.int IntKind.u8 129, AV.int IntKind.u8 0, AV.int IntKind.u8 (IntKind.u8.wrap (t.fdiv 256)), AV.int IntKind.u8 (IntKind.u8.wrap t)]) ++ [AV.int IntKind.u8 129, AV.int IntKind.u8 0, AV.int IntKind.u8 0, AV.int IntKind.u8 1]) ++ [AV.int IntKind.u8 134, AV.int IntKind.u8 221]) 1 Md.ro none, ABlk.cells (List.take ((0 + m.length + 4 + 4 + 2) * 1) (List.take ((0 + m.length + 4 + 4) * 1) (List.take ((0 + m.length + 4) * 1) (List.take ((0 + m.length) * 1) (List.take (m.length * 1) (bys m)) ++ [AV.int IntKind.u8 129, AV.int IntKind.u8 0, AV.int IntKind.u8 (IntKind.u8.wrap (t.fdiv 256)), AV.int IntKind.u8 (IntKind.u8.wrap t)]) ++ [AV.int IntKind.u8 129, AV.int IntKind.u8 0, AV.int IntKind.u8 0, AV.int IntKind.u8 1]) ++ [AV.int IntKind.u8 134, AV.int IntKind.u8 221]) ++ List.take (s.length * 1) (bys s)) 1 Md.own (some 9)]
theorem nfTagsTT {R : Type} (m : List UInt8) (t : Int) (s C W : List UInt8) (K : AV → Option R) :
    abody Try.prog (deepC Try.prog (t4c C 0 0 2 W) 100 4) (mixLS [] (autoLS Try.prog (deepC Try.prog (t4c C 0 0 2 W) 100 4) 100 4 (bodyOf Try.prog 4))) 4 [slB 0 m, .int .u16 t, .bool true, .bool true, slB 1 s] [farB m, farB s] (fun v _ => K v) =
    (if ((m.length : Int) != 12) = true then
      K (AV.bool true)
    else (if decide ((s.length : Int) > 500) = true then
        K (AV.bool true)
      else (if 0 + m.length * 1 ≤ (bys m).length then
          (if (2 * (0 + m.length) + 200) * 1 ≤ 281474976710656 ∧ some 1 = some 1 ∧ 0 + m.length ≤ 70368744177664 then
            (if 0 = 0 ∧ 0 = 0 ∧ (0 < m.length ∨ 0 = 0) ∧ 1 = 1 ∧ (List.take (m.length * 1) (bys m)).all AV.isCell = true then
              (if (2 * (0 + m.length + 4) + 200) * 1 ≤ 281474976710656 ∧ some 1 = some 1 ∧ 0 + m.length + 4 ≤ 70368744177664 then
                (if 0 + (0 + m.length) * 1 ≤ (List.take (m.length * 1) (bys m)).length then
                  (if 0 = 0 ∧ 0 + (0 + m.length) * 1 = (List.take (m.length * 1) (bys m)).length ∧ (0 < 4 ∨ 0 = 0) ∧ 1 = 1 ∧ [AV.int IntKind.u8 129, AV.int IntKind.u8 0, AV.int IntKind.u8 (IntKind.u8.wrap (t.fdiv 256)), AV.int IntKind.u8 (IntKind.u8.wrap t)].all AV.isCell = true then
                    (if (2 * (0 + m.length + 4 + 4) + 200) * 1 ≤ 281474976710656 ∧ some 1 = some 1 ∧ 0 + m.length + 4 + 4 ≤ 70368744177664 then
                      (if 0 + (0 + m.length + 4) * 1 ≤ (List.take ((0 + m.length) * 1) (List.take (m.length * 1) (bys m)) ++ [AV.int IntKind.u8 129, AV.int IntKind.u8 0, AV.int IntKind.u8 (IntKind.u8.wrap (t.fdiv 256)), AV.int IntKind.u8 (IntKind.u8.wrap t)]).length then
                        (if 0 = 0 ∧ 0 + (0 + m.length + 4) * 1 = (List.take ((0 + m.length) * 1) (List.take (m.length * 1) (bys m)) ++ [AV.int IntKind.u8 129, AV.int IntKind.u8 0, AV.int IntKind.u8 (IntKind.u8.wrap (t.fdiv 256)), AV.int IntKind.u8 (IntKind.u8.wrap t)]).length ∧ (0 < 4 ∨ 0 = 0) ∧ 1 = 1 ∧ [AV.int IntKind.u8 129, AV.int IntKind.u8 0, AV.int IntKind.u8 0, AV.int IntKind.u8 1].all AV.isCell = true then
                          (if (2 * (0 + m.length + 4 + 4 + 2) + 200) * 1 ≤ 281474976710656 ∧ some 1 = some 1 ∧ 0 + m.length + 4 + 4 + 2 ≤ 70368744177664 then
                            (if 0 + (0 + m.length + 4 + 4) * 1 ≤ (List.take ((0 + m.length + 4) * 1) (List.take ((0 + m.length) * 1) (List.take (m.length * 1) (bys m)) ++ [AV.int IntKind.u8 129, AV.int IntKind.u8 0, AV.int IntKind.u8 (IntKind.u8.wrap (t.fdiv 256)), AV.int IntKind.u8 (IntKind.u8.wrap t)]) ++ [AV.int IntKind.u8 129, AV.int IntKind.u8 0, AV.int IntKind.u8 0, AV.int IntKind.u8 1]).length then
                              (if 0 = 0 ∧ 0 + (0 + m.length + 4 + 4) * 1 = (List.take ((0 + m.length + 4) * 1) (List.take ((0 + m.length) * 1) (List.take (m.length * 1) (bys m)) ++ [AV.int IntKind.u8 129, AV.int IntKind.u8 0, AV.int IntKind.u8 (IntKind.u8.wrap (t.fdiv 256)), AV.int IntKind.u8 (IntKind.u8.wrap t)]) ++ [AV.int IntKind.u8 129, AV.int IntKind.u8 0, AV.int IntKind.u8 0, AV.int IntKind.u8 1]).length ∧ (0 < 2 ∨ 0 = 0) ∧ 1 = 1 ∧ [AV.int IntKind.u8 134, AV.int IntKind.u8 221].all AV.isCell = true then
                                (if 0 + s.length * 1 ≤ (bys s).length then
                                  (if (2 * (0 + m.length + 4 + 4 + 2 + s.length) + 200) * 1 ≤ 281474976710656 ∧ some 1 = some 1 ∧ 0 + m.length + 4 + 4 + 2 + s.length ≤ 70368744177664 then
                                    (if 0 + (0 + m.length + 4 + 4 + 2) * 1 ≤ (List.take ((0 + m.length + 4 + 4) * 1) (List.take ((0 + m.length + 4) * 1) (List.take ((0 + m.length) * 1) (List.take (m.length * 1) (bys m)) ++ [AV.int IntKind.u8 129, AV.int IntKind.u8 0, AV.int IntKind.u8 (IntKind.u8.wrap (t.fdiv 256)), AV.int IntKind.u8 (IntKind.u8.wrap t)]) ++ [AV.int IntKind.u8 129, AV.int IntKind.u8 0, AV.int IntKind.u8 0, AV.int IntKind.u8 1]) ++ [AV.int IntKind.u8 134, AV.int IntKind.u8 221]).length then
                                      (if 0 = 0 ∧ 0 + (0 + m.length + 4 + 4 + 2) * 1 = (List.take ((0 + m.length + 4 + 4) * 1) (List.take ((0 + m.length + 4) * 1) (List.take ((0 + m.length) * 1) (List.take (m.length * 1) (bys m)) ++ [AV.int IntKind.u8 129, AV.int IntKind.u8 0, AV.int IntKind.u8 (IntKind.u8.wrap (t.fdiv 256)), AV.int IntKind.u8 (IntKind.u8.wrap t)]) ++ [AV.int IntKind.u8 129, AV.int IntKind.u8 0, AV.int IntKind.u8 0, AV.int IntKind.u8 1]) ++ [AV.int IntKind.u8 134, AV.int IntKind.u8 221]).length ∧ (0 < s.length ∨ 0 = 0) ∧ 1 = 1 ∧ (List.take (s.length * 1) (bys s)).all AV.isCell = true then
                                        (if (bOk (hTagsTT0 m t s C W) (AV.sl (some (10, 0)) (0 + m.length + 4 + 4 + 2 + s.length) 0 false) && cdec (nOf (AV.sl (some (10, 0)) (0 + m.length + 4 + 4 + 2 + s.length) 0 false) ≤ 70368744177664 ∧ bOf (hTagsTT0 m t s C W) (AV.sl (some (10, 0)) (0 + m.length + 4 + 4 + 2 + s.length) 0 false) = C)) = true then
                                          K (AV.bool true)
                                        else none)
                                      else none)
                                    else none)
                                  else none)
                                else none)
                              else none)
                            else none)
                          else none)
                        else none)
                      else none)
                    else none)
                  else none)
                else none)
              else none)
            else none)
          else none)
        else none))) := by
  kernel_rfl


theorem byt_right {m l : List UInt8} {n i : Nat} (hm : m.length = n) : byt (m ++ l) (n + i) = byt l i := by
  subst hm
  simp [byt, List.getD, List.getElem?_append_right]

theorem tagC {m : List UInt8} (hm : m.length = 12) (x y p q : UInt8) (s : List UInt8) : netR (m ++ (129 :: 0 :: x :: y :: p :: q :: s)) = netW 18 ((p.toNat : Int) * 256 + q.toNat) := by
  have h1 : byt (m ++ (129 :: 0 :: x :: y :: p :: q :: s)) 12 = 129 := byt_right (i := 0) hm
  have h2 : byt (m ++ (129 :: 0 :: x :: y :: p :: q :: s)) 13 = 0 := byt_right (i := 1) hm
  have h3 : byt (m ++ (129 :: 0 :: x :: y :: p :: q :: s)) 16 = p.toNat := byt_right (i := 4) hm
  have h4 : byt (m ++ (129 :: 0 :: x :: y :: p :: q :: s)) 17 = q.toNat := byt_right (i := 5) hm
  unfold netR
  rw [if_neg (by simp [hm]; omega), if_pos (by unfold word; rw [h1, h2]; rfl), if_neg (by simp [hm]; omega)]
  unfold word; rw [h3, h4]
theorem tagW {m : List UInt8} (hm : m.length = 12) (x y p q : UInt8) (s : List UInt8) {w : Int} (h : netR (m ++ (129 :: 0 :: x :: y :: p :: q :: s)) = (18, w, 0)) : withR (m ++ (129 :: 0 :: x :: y :: p :: q :: s)) 2048 = (m ++ [129, 0, x, y]) ++ [8, 0] := by
  unfold withR
  rw [h, if_pos rfl]
  have : List.take ((18 : Int).toNat - 2) (m ++ (129 :: 0 :: x :: y :: p :: q :: s)) = m ++ [129, 0, x, y] := by
    rw [List.take_append, hm, List.take_of_length_le (by omega)]; rfl
  simp only [this]
  rfl

theorem tagFacts {m : List UInt8} (hm : m.length = 12) (x y p q : UInt8) (s C W : List UInt8) (hC : C = m ++ (129 :: 0 :: x :: y :: p :: q :: s)) (hW : W = m ++ [129, 0, x, y] ++ [8, 0]) :
    W.length = 18 ∧ List.take 16 W = List.take 16 C ∧ byt W 16 = 8 ∧ byt W 17 = 0 ∧ C.length = 18 + s.length := by
  subst hC hW
  refine ⟨by simp [hm], ?_, ?_, ?_, by simp [hm]; omega⟩
  · rw [List.take_append, List.take_of_length_le (by simp [hm]), List.take_append, hm, List.take_of_length_le (l := m) (by omega)]
    simp [hm]
  · rw [List.append_assoc]; exact byt_right (i := 4) hm
  · rw [List.append_assoc]; exact byt_right (i := 5) hm

theorem runTagsFF (m : List UInt8) (t : Int) (s : List UInt8) (ht : 0 ≤ t ∧ t < 65536) (hm : m.length = 12) (hs : s.length ≤ 500) :
    ∃ h', Runs Try.prog 4 [slB 0 m, .int .u16 t, .bool false, .bool false, slB 1 s] [farB m, farB s] (.bool true) h' := by
  have hC : netR (m ++ (129 :: 0 :: u8i (t.fdiv 256) :: u8i t :: 8 :: 0 :: s)) = (18, 2048, 0) := by rw [tagC hm]; rfl
  refine Runs.val0 (t := t4c (m ++ (129 :: 0 :: u8i (t.fdiv 256) :: u8i t :: 8 :: 0 :: s)) 18 2048 0 _) (t4cOk hC rfl) (F := 100) (n := 4) ?_
  rw [tagW hm _ _ _ _ _ hC, nfTagsFF]
  have g := bOk_row (h := hTagsFF0 m t s (m ++ (129 :: 0 :: u8i (t.fdiv 256) :: u8i t :: 8 :: 0 :: s)) (m ++ [129, 0, u8i (t.fdiv 256), u8i t] ++ [8, 0])) (k := 8) (n := 0 + m.length + 4 + 2 + s.length) (r := 0) (e := false) (l := m ++ (129 :: 0 :: u8i (t.fdiv 256) :: u8i t :: 8 :: 0 :: s)) rfl (by simp [bys, wrapU8_byte, List.take_of_length_le]) (by simp; omega)
  refine (if_neg (by simp [hm])).trans ?_
  refine (if_neg (by simp; omega)).trans ?_
  have hc : List.take ((0 + m.length + 4 + 2) * 1) (List.take ((0 + m.length + 4) * 1) (List.take ((0 + m.length) * 1) (List.take (m.length * 1) (bys m)) ++ [AV.int IntKind.u8 129, AV.int IntKind.u8 0, AV.int IntKind.u8 (IntKind.u8.wrap (t.fdiv 256)), AV.int IntKind.u8 (IntKind.u8.wrap t)]) ++ [AV.int IntKind.u8 8, AV.int IntKind.u8 0]) ++ List.take (s.length * 1) (bys s) = bys (m ++ (129 :: 0 :: u8i (t.fdiv 256) :: u8i t :: 8 :: 0 :: s)) := by simp [bys, wrapU8_byte, List.take_of_length_le]
  obtain ⟨f1, f2, f3, f4, f5⟩ := tagFacts hm (u8i (t.fdiv 256)) (u8i t) 8 0 s _ _ rfl rfl
  rw [hc]
  generalize m ++ (129 :: 0 :: u8i (t.fdiv 256) :: u8i t :: 8 :: 0 :: s) = C at g f2 f5 ⊢
  generalize (m ++ [129, 0, u8i (t.fdiv 256), u8i t] ++ [8, 0]) = W at g f1 f2 f3 f4 ⊢
  repeat (first | (refine (if_pos ?_).trans ?_; · first | (simp [hm, List.take_of_length_le] <;> done) | (simp [hm, List.take_of_length_le] <;> omega)))
  refine (if_pos (by rw [g.1, Bool.true_and]; exact cdec_true.2 ⟨by simp only [nOf]; omega, g.2⟩)).trans ?_
  refine (if_pos (by rw [g.1, Bool.true_and]; exact cdec_true.2 ⟨by simp only [nOf]; omega, by decide, by decide, rfl, g.2⟩)).trans ?_
  rw [f1, bys_get, bys_get, intV_byte, intV_byte, isIntV_byte, isIntV_byte, f3, f4]
  repeat (first | (refine (if_pos ?_).trans ?_; · first | omega | (simp [hm, f1, f2, f5, capOf] <;> done) | (simp [hm, f1, f2, f5, capOf] <;> omega)))
  rfl

theorem runTagsFT (m : List UInt8) (t : Int) (s : List UInt8) (ht : 0 ≤ t ∧ t < 65536) (hm : m.length = 12) (hs : s.length ≤ 500) :
    ∃ h', Runs Try.prog 4 [slB 0 m, .int .u16 t, .bool false, .bool true, slB 1 s] [farB m, farB s] (.bool true) h' := by
  have hC : netR (m ++ (129 :: 0 :: u8i (t.fdiv 256) :: u8i t :: 129 :: 0 :: 0 :: 1 :: 8 :: 0 :: s)) = (0, 0, 2) := by rw [tagC hm]; rfl
  refine Runs.val0 (t := t4c (m ++ (129 :: 0 :: u8i (t.fdiv 256) :: u8i t :: 129 :: 0 :: 0 :: 1 :: 8 :: 0 :: s)) 0 0 2 _) (t4cOk hC rfl) (F := 100) (n := 4) ?_
  rw [nfTagsFT]
  have g := bOk_row (h := hTagsFT0 m t s (m ++ (129 :: 0 :: u8i (t.fdiv 256) :: u8i t :: 129 :: 0 :: 0 :: 1 :: 8 :: 0 :: s)) (withR (m ++ (129 :: 0 :: u8i (t.fdiv 256) :: u8i t :: 129 :: 0 :: 0 :: 1 :: 8 :: 0 :: s)) 2048)) (k := 10) (n := 0 + m.length + 4 + 4 + 2 + s.length) (r := 0) (e := false) (l := m ++ (129 :: 0 :: u8i (t.fdiv 256) :: u8i t :: 129 :: 0 :: 0 :: 1 :: 8 :: 0 :: s)) rfl (by simp [bys, wrapU8_byte, List.take_of_length_le]) (by simp; omega)
  refine (if_neg (by simp [hm])).trans ?_
  refine (if_neg (by simp; omega)).trans ?_
  generalize m ++ (129 :: 0 :: u8i (t.fdiv 256) :: u8i t :: 129 :: 0 :: 0 :: 1 :: 8 :: 0 :: s) = C at g ⊢
  repeat (first | (refine (if_pos ?_).trans ?_; · first | (simp [hm, List.take_of_length_le] <;> done) | (simp [hm, List.take_of_length_le] <;> omega)))
  refine (if_pos (by rw [g.1, Bool.true_and]; exact cdec_true.2 ⟨by simp only [nOf]; omega, g.2⟩)).trans ?_
  rfl

theorem runTagsTF (m : List UInt8) (t : Int) (s : List UInt8) (ht : 0 ≤ t ∧ t < 65536) (hm : m.length = 12) (hs : s.length ≤ 500) :
    ∃ h', Runs Try.prog 4 [slB 0 m, .int .u16 t, .bool true, .bool false, slB 1 s] [farB m, farB s] (.bool true) h' := by
  have hC : netR (m ++ (129 :: 0 :: u8i (t.fdiv 256) :: u8i t :: 134 :: 221 :: s)) = (18, 34525, 0) := by rw [tagC hm]; rfl
  refine Runs.val0 (t := t4c (m ++ (129 :: 0 :: u8i (t.fdiv 256) :: u8i t :: 134 :: 221 :: s)) 18 34525 0 _) (t4cOk hC rfl) (F := 100) (n := 4) ?_
  rw [tagW hm _ _ _ _ _ hC, nfTagsTF]
  have g := bOk_row (h := hTagsTF0 m t s (m ++ (129 :: 0 :: u8i (t.fdiv 256) :: u8i t :: 134 :: 221 :: s)) (m ++ [129, 0, u8i (t.fdiv 256), u8i t] ++ [8, 0])) (k := 8) (n := 0 + m.length + 4 + 2 + s.length) (r := 0) (e := false) (l := m ++ (129 :: 0 :: u8i (t.fdiv 256) :: u8i t :: 134 :: 221 :: s)) rfl (by simp [bys, wrapU8_byte, List.take_of_length_le]) (by simp; omega)
  refine (if_neg (by simp [hm])).trans ?_
  refine (if_neg (by simp; omega)).trans ?_
  have hc : List.take ((0 + m.length + 4 + 2) * 1) (List.take ((0 + m.length + 4) * 1) (List.take ((0 + m.length) * 1) (List.take (m.length * 1) (bys m)) ++ [AV.int IntKind.u8 129, AV.int IntKind.u8 0, AV.int IntKind.u8 (IntKind.u8.wrap (t.fdiv 256)), AV.int IntKind.u8 (IntKind.u8.wrap t)]) ++ [AV.int IntKind.u8 134, AV.int IntKind.u8 221]) ++ List.take (s.length * 1) (bys s) = bys (m ++ (129 :: 0 :: u8i (t.fdiv 256) :: u8i t :: 134 :: 221 :: s)) := by simp [bys, wrapU8_byte, List.take_of_length_le]
  obtain ⟨f1, f2, f3, f4, f5⟩ := tagFacts hm (u8i (t.fdiv 256)) (u8i t) 134 221 s _ _ rfl rfl
  rw [hc]
  generalize m ++ (129 :: 0 :: u8i (t.fdiv 256) :: u8i t :: 134 :: 221 :: s) = C at g f2 f5 ⊢
  generalize (m ++ [129, 0, u8i (t.fdiv 256), u8i t] ++ [8, 0]) = W at g f1 f2 f3 f4 ⊢
  repeat (first | (refine (if_pos ?_).trans ?_; · first | (simp [hm, List.take_of_length_le] <;> done) | (simp [hm, List.take_of_length_le] <;> omega)))
  refine (if_pos (by rw [g.1, Bool.true_and]; exact cdec_true.2 ⟨by simp only [nOf]; omega, g.2⟩)).trans ?_
  refine (if_pos (by rw [g.1, Bool.true_and]; exact cdec_true.2 ⟨by simp only [nOf]; omega, by decide, by decide, rfl, g.2⟩)).trans ?_
  rw [f1, bys_get, bys_get, intV_byte, intV_byte, isIntV_byte, isIntV_byte, f3, f4]
  repeat (first | (refine (if_pos ?_).trans ?_; · first | omega | (simp [hm, f1, f2, f5, capOf] <;> done) | (simp [hm, f1, f2, f5, capOf] <;> omega)))
  rfl

theorem runTagsTT (m : List UInt8) (t : Int) (s : List UInt8) (ht : 0 ≤ t ∧ t < 65536) (hm : m.length = 12) (hs : s.length ≤ 500) :
    ∃ h', Runs Try.prog 4 [slB 0 m, .int .u16 t, .bool true, .bool true, slB 1 s] [farB m, farB s] (.bool true) h' := by
  have hC : netR (m ++ (129 :: 0 :: u8i (t.fdiv 256) :: u8i t :: 129 :: 0 :: 0 :: 1 :: 134 :: 221 :: s)) = (0, 0, 2) := by rw [tagC hm]; rfl
  refine Runs.val0 (t := t4c (m ++ (129 :: 0 :: u8i (t.fdiv 256) :: u8i t :: 129 :: 0 :: 0 :: 1 :: 134 :: 221 :: s)) 0 0 2 _) (t4cOk hC rfl) (F := 100) (n := 4) ?_
  rw [nfTagsTT]
  have g := bOk_row (h := hTagsTT0 m t s (m ++ (129 :: 0 :: u8i (t.fdiv 256) :: u8i t :: 129 :: 0 :: 0 :: 1 :: 134 :: 221 :: s)) (withR (m ++ (129 :: 0 :: u8i (t.fdiv 256) :: u8i t :: 129 :: 0 :: 0 :: 1 :: 134 :: 221 :: s)) 2048)) (k := 10) (n := 0 + m.length + 4 + 4 + 2 + s.length) (r := 0) (e := false) (l := m ++ (129 :: 0 :: u8i (t.fdiv 256) :: u8i t :: 129 :: 0 :: 0 :: 1 :: 134 :: 221 :: s)) rfl (by simp [bys, wrapU8_byte, List.take_of_length_le]) (by simp; omega)
  refine (if_neg (by simp [hm])).trans ?_
  refine (if_neg (by simp; omega)).trans ?_
  generalize m ++ (129 :: 0 :: u8i (t.fdiv 256) :: u8i t :: 129 :: 0 :: 0 :: 1 :: 134 :: 221 :: s) = C at g ⊢
  repeat (first | (refine (if_pos ?_).trans ?_; · first | (simp [hm, List.take_of_length_le] <;> done) | (simp [hm, List.take_of_length_le] <;> omega)))
  refine (if_pos (by rw [g.1, Bool.true_and]; exact cdec_true.2 ⟨by simp only [nOf]; omega, g.2⟩)).trans ?_
  rfl

theorem runEtherTags (m : List UInt8) (t : Int) (kd tw : Bool) (s : List UInt8) (_ : m.length ≤ maxLen) (ht : 0 ≤ t ∧ t < 65536) (_ : s.length ≤ maxLen) :
    ∃ h', Runs Try.prog 4 [slB 0 m, .int .u16 t, .bool kd, .bool tw, slB 1 s] [farB m, farB s] (.bool true) h' := by
  by_cases hm : m.length = 12
  case neg =>
    cases kd <;> cases tw
    · refine Runs.val0 (t := t4c [0, 0, 0, 0, 0, 0, 0, 0, 0, 0, 0, 0, 129, 0, 0, 0, 8, 0] 18 2048 0 _) (t4cOk (by rfl) rfl) (F := 100) (n := 4) ?_
      rw [nfTagsFF]
      exact if_pos (by simp; omega)
    · refine Runs.val0 (t := t4c [0, 0, 0, 0, 0, 0, 0, 0, 0, 0, 0, 0, 129, 0, 0, 0, 129, 0, 0, 1] 0 0 2 _) (t4cOk (by rfl) rfl) (F := 100) (n := 4) ?_
      rw [nfTagsFT]
      exact if_pos (by simp; omega)
    · refine Runs.val0 (t := t4c [0, 0, 0, 0, 0, 0, 0, 0, 0, 0, 0, 0, 129, 0, 0, 0, 134, 221] 18 34525 0 _) (t4cOk (by rfl) rfl) (F := 100) (n := 4) ?_
      rw [nfTagsTF]
      exact if_pos (by simp; omega)
    · refine Runs.val0 (t := t4c [0, 0, 0, 0, 0, 0, 0, 0, 0, 0, 0, 0, 129, 0, 0, 0, 129, 0, 0, 1] 0 0 2 _) (t4cOk (by rfl) rfl) (F := 100) (n := 4) ?_
      rw [nfTagsTT]
      exact if_pos (by simp; omega)
  by_cases hs : s.length ≤ 500
  case neg =>
    cases kd <;> cases tw
    · refine Runs.val0 (t := t4c [0, 0, 0, 0, 0, 0, 0, 0, 0, 0, 0, 0, 129, 0, 0, 0, 8, 0] 18 2048 0 _) (t4cOk (by rfl) rfl) (F := 100) (n := 4) ?_
      rw [nfTagsFF]
      exact (if_neg (by simp [hm])).trans (if_pos (by simp; omega))
    · refine Runs.val0 (t := t4c [0, 0, 0, 0, 0, 0, 0, 0, 0, 0, 0, 0, 129, 0, 0, 0, 129, 0, 0, 1] 0 0 2 _) (t4cOk (by rfl) rfl) (F := 100) (n := 4) ?_
      rw [nfTagsFT]
      exact (if_neg (by simp [hm])).trans (if_pos (by simp; omega))
    · refine Runs.val0 (t := t4c [0, 0, 0, 0, 0, 0, 0, 0, 0, 0, 0, 0, 129, 0, 0, 0, 134, 221] 18 34525 0 _) (t4cOk (by rfl) rfl) (F := 100) (n := 4) ?_
      rw [nfTagsTF]
      exact (if_neg (by simp [hm])).trans (if_pos (by simp; omega))
    · refine Runs.val0 (t := t4c [0, 0, 0, 0, 0, 0, 0, 0, 0, 0, 0, 0, 129, 0, 0, 0, 129, 0, 0, 1] 0 0 2 _) (t4cOk (by rfl) rfl) (F := 100) (n := 4) ?_
      rw [nfTagsTT]
      exact (if_neg (by simp [hm])).trans (if_pos (by simp; omega))
  cases kd <;> cases tw
  · exact runTagsFF m t s ht hm hs
  · exact runTagsFT m t s ht hm hs
  · exact runTagsTF m t s ht hm hs
  · exact runTagsTT m t s ht hm hs

end Go.Proofs.Ytgnhnaambioinaa.L
