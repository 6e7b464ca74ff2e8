/- EtherTells' run. -/
import Derived.Test.YtgnhnaambioinaaWith
import Derived.Test.YtgnhnaambioinaaAwake4
set_option autoImplicit false
set_option maxRecDepth 100000
set_option linter.unusedVariables false
set_option linter.unusedSimpArgs false
namespace Go.Proofs.Ytgnhnaambioinaa.L
open Go Go.Abs

noncomputable def t4 : Tbl := [(8, entF eNet), (9, entF eRNet), (10, entF eWith), (11, entF eRWith), (7, entF eAwake)]
theorem t4Ok : ∀ f E, t4.find f = some E → SoundE Try.prog f E := find_cons sNet (find_cons sRNet (find_cons sWith (find_cons sRWith (find_cons sAwake (find_nil _)))))

noncomputable def hEtherTells0 (b : List UInt8) (k : Int) : AHeap := [ABlk.cells (bys b) 1 Md.far none]
noncomputable def hEtherTells1 (b : List UInt8) (k : Int) : AHeap := [ABlk.cells (bys b) 1 Md.far none, ABlk.cells (bys (withR (bOf (hEtherTells0 b k) (AV.sl (some (0, 0)) b.length 0 false)) k)) 1 Md.own none]
theorem nfEtherTells {R : Type} (b : List UInt8) (k : Int) (K : AV → Option R) :
    abody Try.prog (deepC Try.prog t4 100 4) (mixLS [] (autoLS Try.prog (deepC Try.prog t4 100 4) 100 4 (bodyOf Try.prog 3))) 3 [slB 0 b, .int .u16 k] [farB b] (fun v _ => K v) =
    (if decide ((b.length : Int) > 2000) = true then
      K (AV.bool true)
    else (if (bOk (hEtherTells0 b k) (AV.sl (some (0, 0)) b.length 0 false) && decide (nOf (AV.sl (some (0, 0)) b.length 0 false) ≤ 70368744177664)) = true then
        (if (bOk (hEtherTells0 b k) (AV.sl (some (0, 0)) b.length 0 false) && decide (nOf (AV.sl (some (0, 0)) b.length 0 false) ≤ 70368744177664)) = true then
          (if ((netR (bOf (hEtherTells0 b k) (AV.sl (some (0, 0)) b.length 0 false))).fst == (netR (bOf (hEtherTells0 b k) (AV.sl (some (0, 0)) b.length 0 false))).fst) = true then
            (if (IntKind.i64.wrap (netR (bOf (hEtherTells0 b k) (AV.sl (some (0, 0)) b.length 0 false))).snd.fst == (netR (bOf (hEtherTells0 b k) (AV.sl (some (0, 0)) b.length 0 false))).snd.fst) = true then
              (if ((netR (bOf (hEtherTells0 b k) (AV.sl (some (0, 0)) b.length 0 false))).snd.snd == (netR (bOf (hEtherTells0 b k) (AV.sl (some (0, 0)) b.length 0 false))).snd.snd) = true then
                (if (bOk (hEtherTells0 b k) (AV.sl (some (0, 0)) b.length 0 false) && decide (nOf (AV.sl (some (0, 0)) b.length 0 false) ≤ 1000000000 ∧ 0 ≤ k ∧ k < 65536)) = true then
                  (if 0 + (withR (bOf (hEtherTells0 b k) (AV.sl (some (0, 0)) b.length 0 false)) k).length ≤ (bys (withR (bOf (hEtherTells0 b k) (AV.sl (some (0, 0)) b.length 0 false)) k)).length then
                    (if (List.take (withR (bOf (hEtherTells0 b k) (AV.sl (some (0, 0)) b.length 0 false)) k).length (bys (withR (bOf (hEtherTells0 b k) (AV.sl (some (0, 0)) b.length 0 false)) k))).all isByte = true then
                      (if (bOk (hEtherTells1 b k) (AV.sl (some (0, 0)) b.length 0 false) && decide (nOf (AV.sl (some (0, 0)) b.length 0 false) ≤ 1000000000 ∧ 0 ≤ IntKind.i64.wrap k ∧ IntKind.i64.wrap k < 65536)) = true then
                        (if 0 + (withR (bOf (hEtherTells1 b k) (AV.sl (some (0, 0)) b.length 0 false)) (IntKind.i64.wrap k)).length ≤ (bys (withR (bOf (hEtherTells1 b k) (AV.sl (some (0, 0)) b.length 0 false)) (IntKind.i64.wrap k))).length then
                          (if (List.take (withR (bOf (hEtherTells1 b k) (AV.sl (some (0, 0)) b.length 0 false)) (IntKind.i64.wrap k)).length (bys (withR (bOf (hEtherTells1 b k) (AV.sl (some (0, 0)) b.length 0 false)) (IntKind.i64.wrap k)))).all isByte = true then
                            (if decide (List.map byteD (List.take (withR (bOf (hEtherTells0 b k) (AV.sl (some (0, 0)) b.length 0 false)) k).length (bys (withR (bOf (hEtherTells0 b k) (AV.sl (some (0, 0)) b.length 0 false)) k))) = List.map byteD (List.take (withR (bOf (hEtherTells1 b k) (AV.sl (some (0, 0)) b.length 0 false)) (IntKind.i64.wrap k)).length (bys (withR (bOf (hEtherTells1 b k) (AV.sl (some (0, 0)) b.length 0 false)) (IntKind.i64.wrap k))))) = true then
                              (if 0 + (withR (bOf (hEtherTells0 b k) (AV.sl (some (0, 0)) b.length 0 false)) k).length ≤ (bys (withR (bOf (hEtherTells0 b k) (AV.sl (some (0, 0)) b.length 0 false)) k)).length then
                                (if (List.take (withR (bOf (hEtherTells0 b k) (AV.sl (some (0, 0)) b.length 0 false)) k).length (bys (withR (bOf (hEtherTells0 b k) (AV.sl (some (0, 0)) b.length 0 false)) k))).all isByte = true then
                                  (if (AV.str (List.map byteD (List.take (withR (bOf (hEtherTells0 b k) (AV.sl (some (0, 0)) b.length 0 false)) k).length (bys (withR (bOf (hEtherTells0 b k) (AV.sl (some (0, 0)) b.length 0 false)) k))))).beq (AV.str (List.map byteD (List.take (withR (bOf (hEtherTells0 b k) (AV.sl (some (0, 0)) b.length 0 false)) k).length (bys (withR (bOf (hEtherTells0 b k) (AV.sl (some (0, 0)) b.length 0 false)) k))))) = true then
                                    K (AV.bool true)
                                  else none)
                                else none)
                              else none)
                            else (if 0 + (withR (bOf (hEtherTells0 b k) (AV.sl (some (0, 0)) b.length 0 false)) k).length ≤ (bys (withR (bOf (hEtherTells0 b k) (AV.sl (some (0, 0)) b.length 0 false)) k)).length then
                                (if (List.take (withR (bOf (hEtherTells0 b k) (AV.sl (some (0, 0)) b.length 0 false)) k).length (bys (withR (bOf (hEtherTells0 b k) (AV.sl (some (0, 0)) b.length 0 false)) k))).all isByte = true then
                                  (if (AV.str (List.map byteD (List.take (withR (bOf (hEtherTells0 b k) (AV.sl (some (0, 0)) b.length 0 false)) k).length (bys (withR (bOf (hEtherTells0 b k) (AV.sl (some (0, 0)) b.length 0 false)) k))))).beq (AV.str (List.map byteD (List.take (withR (bOf (hEtherTells0 b k) (AV.sl (some (0, 0)) b.length 0 false)) k).length (bys (withR (bOf (hEtherTells0 b k) (AV.sl (some (0, 0)) b.length 0 false)) k))))) = true then
                                    K (AV.bool false)
                                  else none)
                                else none)
                              else none))
                          else none)
                        else none)
                      else none)
                    else none)
                  else none)
                else none)
              else K (AV.bool false))
            else K (AV.bool false))
          else K (AV.bool false))
        else none)
      else none)) := by
  kernel_rfl


theorem runEtherTells (b : List UInt8) (k : Int) (_ : b.length ≤ maxLen) (hk : 0 ≤ k ∧ k < 65536) :
    ∃ h', Runs Try.prog 3 [slB 0 b, .int .u16 k] [farB b] (.bool true) h' := by
  refine Runs.val0 t4Ok (F := 100) (n := 4) ?_
  rw [nfEtherTells]
  by_cases h1 : b.length ≤ 2000
  case neg => exact if_pos (by simp; omega)
  refine (if_neg (by simp; omega)).trans ?_
  have g0 := bOk_row (h := hEtherTells0 b k) (k := 0) (n := b.length) (r := 0) (e := false) (l := b) rfl rfl rfl
  have g1 := bOk_row (h := hEtherTells1 b k) (k := 0) (n := b.length) (r := 0) (e := false) (l := b) rfl rfl rfl
  have wk : IntKind.i64.wrap k = k := wrapI64 (by omega)
  have hc := netR_cases b
  have w2 : IntKind.i64.wrap (netR b).2.1 = (netR b).2.1 := wrapI64 (by omega)
  have b1 : b.length ≤ 70368744177664 := by omega
  have b2 : b.length ≤ 1000000000 := by omega
  rw [g0.2, g1.2, wk, w2]
  have tk : ∀ l : List UInt8, List.take l.length (bys l) = bys l := fun l => by simp
  rw [tk, bys_byteD]
  repeat (first | (refine (if_pos ?_).trans ?_; · first | omega | (simp [*, nOf] <;> done) | (simp [*, AV.beq] <;> done) | (simp [*] <;> omega)))
  rfl

end Go.Proofs.Ytgnhnaambioinaa.L
