/- SumBits' run. -/
import Derived.Test.YthkicndbaaconaaSumParts0
import Derived.Test.YthkicndbaaconaaRound
set_option autoImplicit false
set_option maxRecDepth 100000
set_option linter.unusedVariables false
set_option linter.unusedSimpArgs false
namespace Go.Proofs.Ythkicndbaaconaa.L
open Go Go.Abs

noncomputable def t3r : Tbl := [(19, entF eRound), (12, entF eSum), (16, entF eChange), (9, entF eAwake)]
theorem t3rOk : ∀ f E, t3r.find f = some E → SoundE Try.prog f E := find_cons sRound (find_cons sSum (find_cons sChange (find_cons sAwake (find_nil _))))

noncomputable def hSumBits0 (b : List UInt8) (p q : Int) : AHeap := [ABlk.cells (bys b) 1 Md.far none, ABlk.dead, ABlk.cells (putCells (List.take (b.length * 1) (bys b)) (0 + (p % (b.length : Int)).toNat * 1) [AV.int IntKind.u8 (abits IntKind.u8 (· ^^^ ·) (intV (List.take (b.length * 1) (bys b))[0 + (p % (b.length : Int)).toNat * 1]?) (IntKind.u8.wrap (1 * 2 ^ min (q % 8).toNat 8)))]) 1 Md.own none]
noncomputable def hSumBits1 (b : List UInt8) (p q : Int) : AHeap := [ABlk.cells (bys b) 1 Md.far none, ABlk.dead, ABlk.cells (putCells (List.take (b.length * 1) (bys b)) (0 + (p % (b.length : Int)).toNat * 1) [AV.int IntKind.u8 (abits IntKind.u8 (· ^^^ ·) (intV (List.take (b.length * 1) (bys b))[0 + (p % (b.length : Int)).toNat * 1]?) (IntKind.u8.wrap (1 * 2 ^ min (q % 8).toNat 8)))]) 1 Md.own none, ABlk.dead, ABlk.cells (List.take (b.length * 1) (bys b)) 1 Md.ro none, ABlk.cells [AV.int IntKind.u8 0] 1 Md.own none, ABlk.cells (List.take ((0 + b.length) * 1) (List.take (b.length * 1) (bys b)) ++ [AV.int IntKind.u8 0]) 1 Md.own (some 4)]
theorem nfSumBits {R : Type} (b : List UInt8) (p q : Int) (K : AV → Option R) :
    abody Try.prog (deepC Try.prog t3r 100 4) (mixLS [] (autoLS Try.prog (deepC Try.prog t3r 100 4) 100 4 (bodyOf Try.prog 7))) 7 [slB 0 b, .int .i64 p, .int .i64 q] [farB b] (fun v _ => K v) =
    (if decide ((b.length : Int) < 1) = true then
      K (AV.bool true)
    else (if decide ((b.length : Int) > 1000) = true then
        K (AV.bool true)
      else (if 0 + b.length * 1 ≤ (bys b).length then
          (if (2 * (0 + b.length) + 200) * 1 ≤ 281474976710656 ∧ some 1 = some 1 ∧ 0 + b.length ≤ 70368744177664 then
            (if 0 = 0 ∧ 0 = 0 ∧ (0 < b.length ∨ 0 = 0) ∧ 1 = 1 ∧ (List.take (b.length * 1) (bys b)).all AV.isCell = true then
              (if decide (0 < (b.length : Int) ∧ (b.length : Int) < 4611686018427387904) = true then
                (if 0 ≤ p % (b.length : Int) ∧ p % (b.length : Int) < ((0 + b.length : Nat) : Int) then
                  (if isIntV IntKind.u8 (List.take (b.length * 1) (bys b))[0 + (p % (b.length : Int)).toNat * 1]? = true then
                    (if q % 8 < 0 then
                      none
                    else (if 0 ≤ p % (b.length : Int) ∧ p % (b.length : Int) < ((0 + b.length : Nat) : Int) then
                        (if 0 + (p % (b.length : Int)).toNat * 1 + [AV.int IntKind.u8 (abits IntKind.u8 (· ^^^ ·) (intV (List.take (b.length * 1) (bys b))[0 + (p % (b.length : Int)).toNat * 1]?) (IntKind.u8.wrap (1 * 2 ^ min (q % 8).toNat 8)))].length ≤ (List.take (b.length * 1) (bys b)).length ∧ [AV.int IntKind.u8 (abits IntKind.u8 (· ^^^ ·) (intV (List.take (b.length * 1) (bys b))[0 + (p % (b.length : Int)).toNat * 1]?) (IntKind.u8.wrap (1 * 2 ^ min (q % 8).toNat 8)))].all AV.isCell = true then
                          (if isIntV IntKind.u8 (List.take (b.length * 1) (bys b))[0 + (p % (b.length : Int)).toNat * 1]? = true then
                            (if (AV.int IntKind.u8 (intV (List.take (b.length * 1) (bys b))[0 + (p % (b.length : Int)).toNat * 1]?)).beq (AV.int IntKind.u8 (intV (List.take (b.length * 1) (bys b))[0 + (p % (b.length : Int)).toNat * 1]?)) = true then
                              (if (bOk (hSumBits0 b p q) (AV.sl (some (2, 0)) (0 + b.length) 0 false) && decide (nOf (AV.sl (some (2, 0)) (0 + b.length) 0 false) ≤ 70368744177664 ∧ Int.ofNat 0 ≤ Int.ofNat 0 ∧ Int.ofNat 0 < Int.ofNat 4294967296)) = true then
                                (if (bOk (hSumBits0 b p q) (AV.sl (some (0, 0)) b.length 0 false) && decide (nOf (AV.sl (some (0, 0)) b.length 0 false) ≤ 70368744177664 ∧ Int.ofNat 0 ≤ Int.ofNat 0 ∧ Int.ofNat 0 < Int.ofNat 4294967296)) = true then
                                  (if (abits IntKind.u16 (· ^^^ ·) 65535 (sumI (bOf (hSumBits0 b p q) (AV.sl (some (2, 0)) (0 + b.length) 0 false)) 0) != abits IntKind.u16 (· ^^^ ·) 65535 (sumI (bOf (hSumBits0 b p q) (AV.sl (some (0, 0)) b.length 0 false)) 0)) = true then
                                    (if 0 + b.length * 1 ≤ (bys b).length then
                                      (if (2 * (0 + b.length) + 200) * 1 ≤ 281474976710656 ∧ some 1 = some 1 ∧ 0 + b.length ≤ 70368744177664 then
                                        (if 0 = 0 ∧ 0 = 0 ∧ (0 < b.length ∨ 0 = 0) ∧ 1 = 1 ∧ (List.take (b.length * 1) (bys b)).all AV.isCell = true then
                                          (if (2 * (0 + b.length + 1) + 200) * 1 ≤ 281474976710656 ∧ some 1 = some 1 ∧ 0 + b.length + 1 ≤ 70368744177664 then
                                            (if 0 + (0 + b.length) * 1 ≤ (List.take (b.length * 1) (bys b)).length then
                                              (if 0 = 0 ∧ 0 + (0 + b.length) * 1 = (List.take (b.length * 1) (bys b)).length ∧ (0 < 1 ∨ 0 = 0) ∧ 1 = 1 ∧ [AV.int IntKind.u8 0].all AV.isCell = true then
                                                (if (bOk (hSumBits1 b p q) (AV.sl (some (6, 0)) (0 + b.length + 1) 0 false) && decide (nOf (AV.sl (some (6, 0)) (0 + b.length + 1) 0 false) ≤ 70368744177664 ∧ Int.ofNat 0 ≤ Int.ofNat 0 ∧ Int.ofNat 0 < Int.ofNat 4294967296)) = true then
                                                  (if (bOk (hSumBits1 b p q) (AV.sl (some (0, 0)) b.length 0 false) && decide (nOf (AV.sl (some (0, 0)) b.length 0 false) ≤ 70368744177664 ∧ Int.ofNat 0 ≤ Int.ofNat 0 ∧ Int.ofNat 0 < Int.ofNat 4294967296)) = true then
                                                    (if (abits IntKind.u16 (· ^^^ ·) 65535 (sumI (bOf (hSumBits1 b p q) (AV.sl (some (6, 0)) (0 + b.length + 1) 0 false)) 0) == abits IntKind.u16 (· ^^^ ·) 65535 (sumI (bOf (hSumBits1 b p q) (AV.sl (some (0, 0)) b.length 0 false)) 0)) = true then
                                                      (if (bOk (hSumBits1 b p q) (AV.sl (some (0, 0)) b.length 0 false) && decide (nOf (AV.sl (some (0, 0)) b.length 0 false) ≤ 70368744177664 ∧ Int.ofNat 0 ≤ Int.ofNat 0 ∧ Int.ofNat 0 < Int.ofNat 4294967296)) = true then
                                                        (if (bOk (hSumBits1 b p q) (AV.sl (some (0, 0)) b.length 0 false) && decide (nOf (AV.sl (some (0, 0)) b.length 0 false) ≤ 70368744177664 ∧ Int.ofNat 0 ≤ Int.ofNat 0 ∧ Int.ofNat 0 < Int.ofNat 4294967296)) = true then
                                                          (if (IntKind.i64.wrap (IntKind.i64.wrap (abits IntKind.u16 (· ^^^ ·) 65535 (sumI (bOf (hSumBits1 b p q) (AV.sl (some (0, 0)) b.length 0 false)) 0)) + IntKind.i64.wrap (sumI (bOf (hSumBits1 b p q) (AV.sl (some (0, 0)) b.length 0 false)) 0)) == 65535) = true then
                                                            K (AV.bool true)
                                                          else K (AV.bool false))
                                                        else none)
                                                      else none)
                                                    else K (AV.bool false))
                                                  else none)
                                                else none)
                                              else none)
                                            else none)
                                          else none)
                                        else none)
                                      else none)
                                    else none)
                                  else K (AV.bool false))
                                else none)
                              else none)
                            else none)
                          else none)
                        else none)
                      else none))
                  else none)
                else none)
              else none)
            else none)
          else none)
        else none))) := by
  kernel_rfl


theorem runSumBits (b : List UInt8) (p q : Int) (_ : b.length ≤ maxLen) (hp : -9223372036854775808 ≤ p ∧ p < 9223372036854775808) (hq : -9223372036854775808 ≤ q ∧ q < 9223372036854775808) :
    ∃ h', Runs Try.prog 7 [slB 0 b, .int .i64 p, .int .i64 q] [farB b] (.bool true) h' := by
  refine Runs.val0 t3rOk (F := 100) (n := 4) ?_
  rw [nfSumBits]
  by_cases h1 : 1 ≤ b.length
  case neg => exact if_pos (by simp; omega)
  refine (if_neg (by simp; omega)).trans ?_
  by_cases h2 : b.length ≤ 1000
  case neg => exact if_pos (by simp; omega)
  refine (if_neg (by simp; omega)).trans ?_
  have p0 := Int.emod_nonneg p (show (b.length : Int) ≠ 0 by omega)
  have p1 := Int.emod_lt_of_pos p (show 0 < (b.length : Int) by omega)
  have q0 := Int.emod_nonneg q (show (8 : Int) ≠ 0 by omega)
  have q1 := Int.emod_lt_of_pos q (show 0 < (8 : Int) by omega)
  obtain ⟨k, hk⟩ := Int.eq_ofNat_of_zero_le p0
  obtain ⟨j, hj⟩ := Int.eq_ofNat_of_zero_le q0
  rw [hk] at p1
  rw [hj] at q1
  have hkl : k < b.length := by omega
  obtain ⟨d, hd1, hd2, hd3⟩ := flip_byte (byt_range b k) (show j < 8 by omega)
  have er : List.take (b.length * 1) (bys b) = bys b := by simp
  have ek : 0 + (p % (b.length : Int)).toNat * 1 = k := by rw [hk]; omega
  have ej : (q % 8).toNat = j := by rw [hj]; omega
  have ei : intV ((bys b)[k]?) = byt b k := by rw [bys_get, intV_byte]
  have g0 := bOk_row (h := hSumBits0 b p q) (k := 0) (n := b.length) (r := 0) (e := false) (l := b) rfl rfl rfl
  have g2 := bOk_row (h := hSumBits0 b p q) (k := 2) (n := b.length) (r := 0) (e := false) (l := b.set k (u8i (byt b k + d))) rfl (by rw [er, ek, ei, ej, hd1, putCells_byte' _ _ _ hd2]) (by simp)
  have f0 := bOk_row (h := hSumBits1 b p q) (k := 0) (n := b.length) (r := 0) (e := false) (l := b) rfl rfl rfl
  have f6 := bOk_row (h := hSumBits1 b p q) (k := 6) (n := b.length + 1) (r := 0) (e := false) (l := b ++ [0]) rfl (by rw [er, bys_lit1 (by omega)]; simp [List.take_of_length_le]; rfl) (by simp)
  have r0 := sumI_range b 0
  have r1 := sumI_range (b.set k (u8i (byt b k + d))) 0
  have r2 := sumI_range (b ++ [0]) 0
  have hlaw := sumI_flip hkl (show j < 8 by omega) hd3 hd2
  have hlaw2 : sumI (b ++ [0]) 0 = sumI b 0 := by unfold sumI; rw [wsum_snoc0]
  rw [er, ek]
  have x0 := xor16 r0
  have x1 := xor16 r1
  have w0 : IntKind.i64.wrap (65535 - sumI b 0) = 65535 - sumI b 0 := wrapI64 (by omega)
  have w1 : IntKind.i64.wrap (sumI b 0) = sumI b 0 := wrapI64 (by omega)
  have w2 : IntKind.i64.wrap 65535 = 65535 := rfl
  repeat (first | (refine (if_pos ?_).trans ?_; · first | omega | (simp <;> omega) | (simp [*] <;> omega)))
  refine (if_neg (by omega)).trans ?_
  repeat (first | (refine (if_pos ?_).trans ?_; · first | omega | (simp <;> omega) | (simp [*] <;> omega)))
  rfl

end Go.Proofs.Ythkicndbaaconaa.L
