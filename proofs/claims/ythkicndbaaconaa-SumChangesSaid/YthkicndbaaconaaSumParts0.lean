/- SumParts' run. -/
import Derived.Test.YthkicndbaaconaaChange
import Derived.Test.YthkicndbaaconaaAwake3
set_option autoImplicit false
set_option maxRecDepth 100000
set_option linter.unusedVariables false
set_option linter.unusedSimpArgs false
namespace Go.Proofs.Ythkicndbaaconaa.L
open Go Go.Abs

noncomputable def t3 : Tbl := [(12, entF eSum), (16, entF eChange), (10, entF eUpdate), (9, entF eAwake)]
theorem t3Ok : ∀ f E, t3.find f = some E → SoundE Try.prog f E := find_cons sSum (find_cons sChange (find_cons sUpdate (find_cons sAwake (find_nil _))))

noncomputable def hSumParts0 (a b : List UInt8) (s : Int) : AHeap := [ABlk.cells (bys a) 1 Md.far none, ABlk.cells (bys b) 1 Md.far none, ABlk.dead, ABlk.cells (List.take 0 (zrep 0 [AV.int IntKind.u8 0]) ++ List.take (a.length * 1) (bys a)) 1 Md.ro none, ABlk.cells (List.take ((0 + a.length) * 1) (List.take 0 (zrep 0 [AV.int IntKind.u8 0]) ++ List.take (a.length * 1) (bys a)) ++ List.take (b.length * 1) (bys b)) 1 Md.own (some 3)]
theorem nfSumParts {R : Type} (a b : List UInt8) (s : Int) (K : AV → Option R) :
    abody Try.prog (deepC Try.prog t3 100 4) (mixLS [] (autoLS Try.prog (deepC Try.prog t3 100 4) 100 4 (bodyOf Try.prog 6))) 6 [slB 0 a, slB 1 b, .int .u32 s] [farB a, farB b] (fun v _ => K v) =
    (if decide ((a.length : Int) > 500) = true then
      K (AV.bool true)
    else (if decide ((b.length : Int) > 500) = true then
        K (AV.bool true)
      else (if (((a.length : Int)).tmod 2 != 0) = true then
          K (AV.bool true)
        else (if 0 + a.length * 1 ≤ (bys a).length then
            (if (2 * (0 + a.length) + 200) * 1 ≤ 281474976710656 ∧ some 1 = some 1 ∧ 0 + a.length ≤ 70368744177664 then
              (if 0 = 0 ∧ 0 = 0 ∧ (0 < a.length ∨ 0 = 0) ∧ 1 = 1 ∧ (List.take (a.length * 1) (bys a)).all AV.isCell = true then
                (if 0 + b.length * 1 ≤ (bys b).length then
                  (if (2 * (0 + a.length + b.length) + 200) * 1 ≤ 281474976710656 ∧ some 1 = some 1 ∧ 0 + a.length + b.length ≤ 70368744177664 then
                    (if 0 + (0 + a.length) * 1 ≤ (List.take 0 (zrep 0 [AV.int IntKind.u8 0]) ++ List.take (a.length * 1) (bys a)).length then
                      (if 0 = 0 ∧ 0 + (0 + a.length) * 1 = (List.take 0 (zrep 0 [AV.int IntKind.u8 0]) ++ List.take (a.length * 1) (bys a)).length ∧ (0 < b.length ∨ 0 = 0) ∧ 1 = 1 ∧ (List.take (b.length * 1) (bys b)).all AV.isCell = true then
                        (if (bOk (hSumParts0 a b s) (AV.sl (some (4, 0)) (0 + a.length + b.length) 0 false) && decide (nOf (AV.sl (some (4, 0)) (0 + a.length + b.length) 0 false) ≤ 70368744177664 ∧ 0 ≤ s ∧ s < 4294967296)) = true then
                          (if (bOk (hSumParts0 a b s) (AV.sl (some (0, 0)) a.length 0 false) && decide (nOf (AV.sl (some (0, 0)) a.length 0 false) ≤ 70368744177664 ∧ 0 ≤ s ∧ s < 4294967296)) = true then
                            (if (bOk (hSumParts0 a b s) (AV.sl (some (1, 0)) b.length 0 false) && decide (nOf (AV.sl (some (1, 0)) b.length 0 false) ≤ 70368744177664 ∧ 0 ≤ IntKind.u32.wrap (sumI (bOf (hSumParts0 a b s) (AV.sl (some (0, 0)) a.length 0 false)) s) ∧ IntKind.u32.wrap (sumI (bOf (hSumParts0 a b s) (AV.sl (some (0, 0)) a.length 0 false)) s) < 4294967296)) = true then
                              (if (sumI (bOf (hSumParts0 a b s) (AV.sl (some (4, 0)) (0 + a.length + b.length) 0 false)) s == sumI (bOf (hSumParts0 a b s) (AV.sl (some (1, 0)) b.length 0 false)) (IntKind.u32.wrap (sumI (bOf (hSumParts0 a b s) (AV.sl (some (0, 0)) a.length 0 false)) s))) = true then
                                K (AV.bool true)
                              else K (AV.bool false))
                            else none)
                          else none)
                        else none)
                      else none)
                    else none)
                  else none)
                else none)
              else none)
            else none)
          else none)))) := by
  kernel_rfl

theorem okSumParts (a b : List UInt8) (s : Int) (hs : 0 ≤ s ∧ s < 4294967296) : abody Try.prog (deepC Try.prog t3 100 4) (mixLS [] (autoLS Try.prog (deepC Try.prog t3 100 4) 100 4 (bodyOf Try.prog 6))) 6 [slB 0 a, slB 1 b, .int .u32 s] [farB a, farB b] (fun v _ => some v) = some (.bool true) := by
  rw [nfSumParts]
  by_cases h1 : a.length ≤ 500
  case neg => exact if_pos (by simp; omega)
  refine (if_neg (by simp; omega)).trans ?_
  by_cases h2 : b.length ≤ 500
  case neg => exact if_pos (by simp; omega)
  refine (if_neg (by simp; omega)).trans ?_
  by_cases h3 : a.length % 2 = 0
  case neg => exact if_pos (by rw [tmod2]; simp; omega)
  refine (if_neg (by rw [tmod2]; simp; omega)).trans ?_
  have g0 := bOk_row (h := hSumParts0 a b s) (k := 0) (n := a.length) (r := 0) (e := false) (l := a) rfl rfl rfl
  have g1 := bOk_row (h := hSumParts0 a b s) (k := 1) (n := b.length) (r := 0) (e := false) (l := b) rfl rfl rfl
  have g4 := bOk_row (h := hSumParts0 a b s) (k := 4) (n := a.length + b.length) (r := 0) (e := false) (l := a ++ b) rfl (by simp [List.take_of_length_le]) (by simp)
  have hr := sumI_range a s
  have hw : IntKind.u32.wrap (sumI a s) = sumI a s := wrapU32 (by omega)
  have hlaw := sumI_append (b := b) h3 hs.1
  repeat (first | (refine (if_pos ?_).trans ?_; · first | omega | (simp <;> omega) | (simp [*] <;> omega)))
  rfl

theorem runSumParts (a b : List UInt8) (s : Int) (_ : a.length ≤ maxLen) (_ : b.length ≤ maxLen) (hs : 0 ≤ s ∧ s < 4294967296) : ∃ h', Runs Try.prog 6 [slB 0 a, slB 1 b, .int .u32 s] [farB a, farB b] (.bool true) h' :=
  Runs.val0 t3Ok (okSumParts a b s hs)

end Go.Proofs.Ythkicndbaaconaa.L
