/- SumChanges' run. -/
import Derived.Test.YthkicndbaaconaaSumParts0
import Derived.Test.YthkicndbaaconaaRound
set_option autoImplicit false
set_option maxRecDepth 100000
set_option linter.unusedVariables false
set_option linter.unusedSimpArgs false
namespace Go.Proofs.Ythkicndbaaconaa.L
open Go Go.Abs

noncomputable def t3c : Tbl := [(19, entF eRound), (12, entF eSum), (16, entF eChange), (9, entF eAwake)]
theorem t3cOk : ∀ f E, t3c.find f = some E → SoundE Try.prog f E := find_cons sRound (find_cons sSum (find_cons sChange (find_cons sAwake (find_nil _))))

def mSC : List Bool := [true, false, true] ++ List.replicate 4 false ++ [true, true, true] ++ List.replicate 69 false
def vSC (b t : List UInt8) (k : Int) (n : Nat) (i : Int) : List AV := [slB 0 b, slB 1 t, .int .i64 k, .sl (some (3, 0)) n 0 false, .int .i64 i]
def hSC0 (b t c : List UInt8) : AHeap := [farB b, farB t, .cells [] 1 .ro none, .cells (bys c) 1 .own (some 2)]
def hSC1 (b t c : List UInt8) : AHeap := [farB b, farB t, .dead, .cells (bys c) 1 .own none]

noncomputable def hSCr00 (CALL : CallT) (b t c : List UInt8) (k : Int) (n : Nat) (i : Int) : AHeap := [ABlk.cells (bys b) 1 Md.far none, ABlk.cells (bys t) 1 Md.far none, ABlk.dead, ABlk.cells (putCells (bys c) (0 + (IntKind.i64.wrap (k + i)).toNat * 1) [AV.int IntKind.u8 (intV (bys t)[0 + i.toNat * 1]?)]) 1 Md.own none]
noncomputable def hSCr01 (CALL : CallT) (b t c : List UInt8) (k : Int) (n : Nat) (i : Int) : AHeap := [ABlk.cells (bys b) 1 Md.far none, ABlk.cells (bys t) 1 Md.far none, ABlk.cells [] 1 Md.ro none, ABlk.cells (bys c) 1 Md.own (some 2)]
theorem nfSCr0 (CALL : CallT) (b t c : List UInt8) (k : Int) (n : Nat) (i : Int) :
    roundG Try.prog CALL noLS (loopIn (bodyOf Try.prog 4) 0) mSC (vSC b t k n i) (hSC0 b t c) =
    (if decide (i < (t.length : Int)) = true then
      (if 0 ≤ i ∧ i < (t.length : Int) then
        (if isIntV IntKind.u8 (bys t)[0 + i.toNat * 1]? = true then
          (if 0 ≤ IntKind.i64.wrap (k + i) ∧ IntKind.i64.wrap (k + i) < (n : Int) then
            (if 0 + (IntKind.i64.wrap (k + i)).toNat * 1 + [AV.int IntKind.u8 (intV (bys t)[0 + i.toNat * 1]?)].length ≤ (bys c).length ∧ [AV.int IntKind.u8 (intV (bys t)[0 + i.toNat * 1]?)].all AV.isCell = true then
              some ((AEx.norm, [AV.sl (some (0, 0)) b.length 0 false, AV.sl (some (1, 0)) t.length 0 false, AV.int IntKind.i64 k, AV.sl (some (3, 0)) n 0 false, AV.int IntKind.i64 (IntKind.i64.wrap (i + 1))], (hSCr00 CALL b t c k n i)))
            else none)
          else none)
        else none)
      else none)
    else some ((AEx.exit 0, [AV.sl (some (0, 0)) b.length 0 false, AV.sl (some (1, 0)) t.length 0 false, AV.int IntKind.i64 k, AV.sl (some (3, 0)) n 0 false, AV.int IntKind.i64 i], (hSCr01 CALL b t c k n i)))) := by
  kernel_rfl

noncomputable def hSCr10 (CALL : CallT) (b t c : List UInt8) (k : Int) (n : Nat) (i : Int) : AHeap := [ABlk.cells (bys b) 1 Md.far none, ABlk.cells (bys t) 1 Md.far none, ABlk.dead, ABlk.cells (putCells (bys c) (0 + (IntKind.i64.wrap (k + i)).toNat * 1) [AV.int IntKind.u8 (intV (bys t)[0 + i.toNat * 1]?)]) 1 Md.own none]
noncomputable def hSCr11 (CALL : CallT) (b t c : List UInt8) (k : Int) (n : Nat) (i : Int) : AHeap := [ABlk.cells (bys b) 1 Md.far none, ABlk.cells (bys t) 1 Md.far none, ABlk.dead, ABlk.cells (bys c) 1 Md.own none]
theorem nfSCr1 (CALL : CallT) (b t c : List UInt8) (k : Int) (n : Nat) (i : Int) :
    roundG Try.prog CALL noLS (loopIn (bodyOf Try.prog 4) 0) mSC (vSC b t k n i) (hSC1 b t c) =
    (if decide (i < (t.length : Int)) = true then
      (if 0 ≤ i ∧ i < (t.length : Int) then
        (if isIntV IntKind.u8 (bys t)[0 + i.toNat * 1]? = true then
          (if 0 ≤ IntKind.i64.wrap (k + i) ∧ IntKind.i64.wrap (k + i) < (n : Int) then
            (if 0 + (IntKind.i64.wrap (k + i)).toNat * 1 + [AV.int IntKind.u8 (intV (bys t)[0 + i.toNat * 1]?)].length ≤ (bys c).length ∧ [AV.int IntKind.u8 (intV (bys t)[0 + i.toNat * 1]?)].all AV.isCell = true then
              some ((AEx.norm, [AV.sl (some (0, 0)) b.length 0 false, AV.sl (some (1, 0)) t.length 0 false, AV.int IntKind.i64 k, AV.sl (some (3, 0)) n 0 false, AV.int IntKind.i64 (IntKind.i64.wrap (i + 1))], (hSCr10 CALL b t c k n i)))
            else none)
          else none)
        else none)
      else none)
    else some ((AEx.exit 0, [AV.sl (some (0, 0)) b.length 0 false, AV.sl (some (1, 0)) t.length 0 false, AV.int IntKind.i64 k, AV.sl (some (3, 0)) n 0 false, AV.int IntKind.i64 i], (hSCr11 CALL b t c k n i)))) := by
  kernel_rfl


theorem scLoop {b t : List UInt8} {k : Nat} (hk : k + t.length ≤ b.length) (hb : b.length ≤ 1000) (ht : 0 < t.length) :
    ∃ j, loopG (roundG Try.prog (deepC Try.prog t3c 100 4) noLS (loopIn (bodyOf Try.prog 4) 0) mSC) j (vSC b t k b.length 0) (hSC0 b t b) = some (.exit 0, vSC b t k b.length t.length, hSC1 b t (patch b k t t.length)) := by
  have := loop_up (body := roundG Try.prog (deepC Try.prog t3c 100 4) noLS (loopIn (bodyOf Try.prog 4) 0) mSC)
    (fun i => (vSC b t k b.length (i : Int), if i = 0 then hSC0 b t b else hSC1 b t (patch b k t i))) (n := t.length) (e := .exit 0) (vs := vSC b t k b.length t.length) (h := hSC1 b t (patch b k t t.length)) (by simp)
    (fun i hi => by
      have e1 : 0 + (i : Int).toNat * 1 = i := by omega
      have e2 : IntKind.i64.wrap ((k : Int) + (i : Int)) = ((k + i : Nat) : Int) := by rw [wrapI64 (by omega)]; omega
      have e3 : 0 + ((k + i : Nat) : Int).toNat * 1 = k + i := by omega
      have e4 : IntKind.i64.wrap ((i : Int) + 1) = ((i + 1 : Nat) : Int) := by rw [wrapI64 (by omega)]; omega
      have ev : intV ((bys t)[i]?) = byt t i := by rw [bys_get, intV_byte]
      have hset := patch_set (b := b) (k := k) hi (by omega)
      have hl := patch_length (b := b) (k := k) (t := t) (i := i) (by omega) (by omega)
      have e5 : i + 1 ≠ 0 := by omega
      have n1 : ¬ (i + 1 = 0) := by omega
      by_cases h0 : i = 0
      · subst h0
        have hp := patch_zero b k t
        rw [hp] at hset hl
        simp only [nfSCr0, hSCr00, hSCr01, n1, if_true, if_false]
        rw [e1, e2, e3, e4, ev]
        repeat (first | (refine (if_pos ?_).trans ?_; · first | omega | (simp <;> omega) | (simp [*] <;> omega)))
        rw [putCells_byte' _ _ _ (byt_range _ _), hset]
        rfl
      · simp only [nfSCr1, hSCr10, hSCr11, h0, n1, if_false]
        rw [e1, e2, e3, e4, ev]
        repeat (first | (refine (if_pos ?_).trans ?_; · first | omega | (simp <;> omega) | (simp [*] <;> omega)))
        rw [putCells_byte' _ _ _ (byt_range _ _), hset]
        rfl)
    (by
      have h0 : ¬ (t.length = 0) := by omega
      simp only [nfSCr1, h0, if_false]
      rw [if_neg (by simp)]
      rfl)
  simpa using this

def hSC2 (b t c : List UInt8) (X : ABlk) (Y : Option Nat) : AHeap := [farB b, farB t, X, .cells (bys c) 1 .own Y]

noncomputable def hSumChanges0 (b t c : List UInt8) (a k m : Int) (X : ABlk) (Y : Option Nat) : AHeap := [ABlk.cells (bys b) 1 Md.far none, ABlk.cells (bys t) 1 Md.far none, ABlk.cells [] 1 Md.ro none, ABlk.cells (List.take (b.length * 1) (bys b)) 1 Md.own (some 2)]
noncomputable def hSumChanges1 (b t c : List UInt8) (a k m : Int) (X : ABlk) (Y : Option Nat) : AHeap := [ABlk.cells (bys b) 1 Md.far none, ABlk.cells (bys t) 1 Md.far none, ABlk.cells [] 1 Md.ro none, ABlk.cells (bys b) 1 Md.own (some 2)]
noncomputable def hSumChanges2 (b t c : List UInt8) (a k m : Int) (X : ABlk) (Y : Option Nat) : AHeap := [ABlk.cells (bys b) 1 Md.far none, ABlk.cells (bys t) 1 Md.far none, X, ABlk.cells (bys c) 1 Md.own Y]
theorem nfSumChanges {R : Type} (b t c : List UInt8) (a k m : Int) (X : ABlk) (Y : Option Nat) (K : AV → Option R) :
    abody Try.prog (deepC Try.prog t3c 100 4) (mixLS [(7, fixL mSC (vSC b t k b.length 0) (hSC0 b t b) (.exit 0) (vSC b t k b.length m) (hSC2 b t c X Y))] (autoLS Try.prog (deepC Try.prog t3c 100 4) 100 4 (bodyOf Try.prog 4))) 4 [slB 0 b, .int .i64 a, slB 1 t] [farB b, farB t] (fun v _ => K v) =
    (if decide ((b.length : Int) > 1000) = true then
      K (AV.bool true)
    else (if decide ((t.length : Int) > (b.length : Int)) = true then
        K (AV.bool true)
      else (if (((t.length : Int)).tmod 2 != 0) = true then
          K (AV.bool true)
        else (if decide ((b.length : Int) < 2) = true then
            K (AV.bool true)
          else (if decide (0 < IntKind.i64.wrap (IntKind.i64.wrap ((b.length : Int) - (t.length : Int)) + 1) ∧ IntKind.i64.wrap (IntKind.i64.wrap ((b.length : Int) - (t.length : Int)) + 1) < 4611686018427387904) = true then
              (if 0 + b.length * 1 ≤ (bys b).length then
                (if (2 * (0 + b.length) + 200) * 1 ≤ 281474976710656 ∧ some 1 = some 1 ∧ 0 + b.length ≤ 70368744177664 then
                  (if 0 = 0 ∧ 0 = 0 ∧ (0 < b.length ∨ 0 = 0) ∧ 1 = 1 ∧ (List.take (b.length * 1) (bys b)).all AV.isCell = true then
                    (if cdec ([AV.sl (some (0, 0)) b.length 0 false, AV.sl (some (1, 0)) t.length 0 false, AV.int IntKind.i64 (IntKind.i64.wrap (a % IntKind.i64.wrap (IntKind.i64.wrap ((b.length : Int) - (t.length : Int)) + 1) - (a % IntKind.i64.wrap (IntKind.i64.wrap ((b.length : Int) - (t.length : Int)) + 1)).tmod 2)), AV.sl (some (3, 0)) (0 + b.length) 0 false, AV.int IntKind.i64 0] = [AV.sl (some (0, 0)) b.length 0 false, AV.sl (some (1, 0)) t.length 0 false, AV.int IntKind.i64 k, AV.sl (some (3, 0)) b.length 0 false, AV.int IntKind.i64 0] ∧ (hSumChanges0 b t c a k m X Y) = (hSumChanges1 b t c a k m X Y)) = true then
                      (if (bOk (hSumChanges2 b t c a k m X Y) (AV.sl (some (0, 0)) b.length 0 false) && decide (nOf (AV.sl (some (0, 0)) b.length 0 false) ≤ 70368744177664 ∧ Int.ofNat 0 ≤ Int.ofNat 0 ∧ Int.ofNat 0 < Int.ofNat 4294967296)) = true then
                        (if 0 ≤ IntKind.i64.wrap (k + (t.length : Int)) ∧ IntKind.i64.wrap (k + (t.length : Int)) ≤ ((capOf b.length 0 false : Nat) : Int) then
                          (if 0 ≤ k ∧ k ≤ IntKind.i64.wrap (k + (t.length : Int)) then
                            (if (bOk (hSumChanges2 b t c a k m X Y) (AV.sl (some (0, 0 + k.toNat * 1)) ((IntKind.i64.wrap (k + (t.length : Int))).toNat - k.toNat) (roomOf b.length 0 k.toNat (some (IntKind.i64.wrap (k + (t.length : Int)))).isNone (IntKind.i64.wrap (k + (t.length : Int))).toNat false) false) && bOk (hSumChanges2 b t c a k m X Y) (AV.sl (some (1, 0)) t.length 0 false) && decide (nOf (AV.sl (some (0, 0 + k.toNat * 1)) ((IntKind.i64.wrap (k + (t.length : Int))).toNat - k.toNat) (roomOf b.length 0 k.toNat (some (IntKind.i64.wrap (k + (t.length : Int)))).isNone (IntKind.i64.wrap (k + (t.length : Int))).toNat false) false) ≤ 70368744177664 ∧ 0 ≤ abits IntKind.u16 (· ^^^ ·) 65535 (sumI (bOf (hSumChanges2 b t c a k m X Y) (AV.sl (some (0, 0)) b.length 0 false)) 0) ∧ abits IntKind.u16 (· ^^^ ·) 65535 (sumI (bOf (hSumChanges2 b t c a k m X Y) (AV.sl (some (0, 0)) b.length 0 false)) 0) < 65536)) = true then
                              (if (bOk (hSumChanges2 b t c a k m X Y) (AV.sl (some (3, 0)) b.length 0 false) && decide (nOf (AV.sl (some (3, 0)) b.length 0 false) ≤ 70368744177664 ∧ Int.ofNat 0 ≤ Int.ofNat 0 ∧ Int.ofNat 0 < Int.ofNat 4294967296)) = true then
                                (if (changeI (abits IntKind.u16 (· ^^^ ·) 65535 (sumI (bOf (hSumChanges2 b t c a k m X Y) (AV.sl (some (0, 0)) b.length 0 false)) 0)) (bOf (hSumChanges2 b t c a k m X Y) (AV.sl (some (0, 0 + k.toNat * 1)) ((IntKind.i64.wrap (k + (t.length : Int))).toNat - k.toNat) (roomOf b.length 0 k.toNat (some (IntKind.i64.wrap (k + (t.length : Int)))).isNone (IntKind.i64.wrap (k + (t.length : Int))).toNat false) false)) (bOf (hSumChanges2 b t c a k m X Y) (AV.sl (some (1, 0)) t.length 0 false)) == abits IntKind.u16 (· ^^^ ·) 65535 (sumI (bOf (hSumChanges2 b t c a k m X Y) (AV.sl (some (3, 0)) b.length 0 false)) 0)) = true then
                                  (if (AV.int IntKind.i64 (t.length : Int)).beq (AV.int IntKind.i64 (t.length : Int)) = true then
                                    K (AV.bool true)
                                  else none)
                                else (if ((changeI (abits IntKind.u16 (· ^^^ ·) 65535 (sumI (bOf (hSumChanges2 b t c a k m X Y) (AV.sl (some (0, 0)) b.length 0 false)) 0)) (bOf (hSumChanges2 b t c a k m X Y) (AV.sl (some (0, 0 + k.toNat * 1)) ((IntKind.i64.wrap (k + (t.length : Int))).toNat - k.toNat) (roomOf b.length 0 k.toNat (some (IntKind.i64.wrap (k + (t.length : Int)))).isNone (IntKind.i64.wrap (k + (t.length : Int))).toNat false) false)) (bOf (hSumChanges2 b t c a k m X Y) (AV.sl (some (1, 0)) t.length 0 false))).tmod 65535 == (abits IntKind.u16 (· ^^^ ·) 65535 (sumI (bOf (hSumChanges2 b t c a k m X Y) (AV.sl (some (3, 0)) b.length 0 false)) 0)).tmod 65535) = true then
                                    (if (AV.int IntKind.i64 (t.length : Int)).beq (AV.int IntKind.i64 (t.length : Int)) = true then
                                      K (AV.bool true)
                                    else none)
                                  else (if (AV.int IntKind.i64 (t.length : Int)).beq (AV.int IntKind.i64 (t.length : Int)) = true then
                                      K (AV.bool false)
                                    else none)))
                              else none)
                            else none)
                          else none)
                        else none)
                      else none)
                    else none)
                  else none)
                else none)
              else none)
            else none))))) := by
  kernel_rfl


theorem scTree {R : Type} (b t : List UInt8) (a : Int) (k : Nat) (m : Int) (X : ABlk) (Y : Option Nat) (K : AV → Option R) (hb : b.length ≤ 1000) (ht : t.length ≤ b.length) (h2 : t.length % 2 = 0) (hb2 : ¬ b.length < 2)
    (hk : (k : Int) = a % (b.length - t.length + 1) - (a % (b.length - t.length + 1)) % 2) :
    abody Try.prog (deepC Try.prog t3c 100 4) (mixLS [(7, fixL mSC (vSC b t k b.length 0) (hSC0 b t b) (.exit 0) (vSC b t k b.length m) (hSC2 b t (patch b k t t.length) X Y))] (autoLS Try.prog (deepC Try.prog t3c 100 4) 100 4 (bodyOf Try.prog 4))) 4 [slB 0 b, .int .i64 a, slB 1 t] [farB b, farB t] (fun v _ => K v) = K (.bool true) := by
  have am := Int.emod_lt_of_pos a (show (0 : Int) < b.length - t.length + 1 by omega)
  have am0 := Int.emod_nonneg a (show ((b.length : Int) - t.length + 1) ≠ 0 by omega)
  have w1 : IntKind.i64.wrap (IntKind.i64.wrap ((b.length : Int) - t.length) + 1) = (b.length : Int) - t.length + 1 := by
    rw [wrapI64 (n := (b.length : Int) - t.length) (by omega), wrapI64 (by omega)]
  have w2 : IntKind.i64.wrap (a % ((b.length : Int) - t.length + 1) - (a % ((b.length : Int) - t.length + 1)).tmod 2) = (k : Int) := by
    rw [Int.tmod_eq_emod_of_nonneg am0, ← hk, wrapI64 (by omega)]
  have w3 : IntKind.i64.wrap ((k : Int) + t.length) = ((k + t.length : Nat) : Int) := by rw [wrapI64 (by omega)]; omega
  have hkl : k + t.length ≤ b.length := by omega
  have hke : k % 2 = 0 := by omega
  have er : List.take (b.length * 1) (bys b) = bys b := by simp
  have hl := patch_length (b := b) (k := k) (t := t) (i := t.length) hkl (Nat.le_refl _)
  have hcl := change_law hke h2 hkl
  have z1 := sumI_range b 0
  have z2 := sumI_range (patch b k t t.length) 0
  rw [nfSumChanges, w1, w2, w3, er]
  have e4 : 0 + ((k : Nat) : Int).toNat * 1 = k := by omega
  have e5 : (((k + t.length : Nat) : Int)).toNat - ((k : Nat) : Int).toNat = t.length := by omega
  have e6 : ((k : Nat) : Int).toNat = k := by omega
  have e7 : ((k + t.length : Nat) : Int).toNat = k + t.length := by omega
  rw [e4, e5]
  generalize patch b k t t.length = C at *
  have x1 := xor16 z1
  have x2 := xor16 z2
  have g0 := bOk_row (h := hSumChanges2 b t C a k m X Y) (k := 0) (n := b.length) (r := 0) (e := false) (l := b) rfl rfl rfl
  have g1 := bOk_row (h := hSumChanges2 b t C a k m X Y) (k := 1) (n := t.length) (r := 0) (e := false) (l := t) rfl rfl rfl
  have g2 := bOk_part (h := hSumChanges2 b t C a k m X Y) (k := 0) (o := k) (n := t.length) (r := roomOf b.length 0 ((k : Nat) : Int).toNat (some ((k + t.length : Nat) : Int)).isNone (((k + t.length : Nat) : Int)).toNat false) (e := false) (l := b) rfl rfl hkl
  have g3 := bOk_row (h := hSumChanges2 b t C a k m X Y) (k := 3) (n := b.length) (r := 0) (e := false) (l := C) rfl rfl hl.symm
  have hh : cdec ([AV.sl (some (0, 0)) b.length 0 false, AV.sl (some (1, 0)) t.length 0 false, AV.int IntKind.i64 (k : Int), AV.sl (some (3, 0)) (0 + b.length) 0 false, AV.int IntKind.i64 0] = [AV.sl (some (0, 0)) b.length 0 false, AV.sl (some (1, 0)) t.length 0 false, AV.int IntKind.i64 k, AV.sl (some (3, 0)) b.length 0 false, AV.int IntKind.i64 0] ∧ (hSumChanges0 b t C a k m X Y) = (hSumChanges1 b t C a k m X Y)) = true := by
    refine cdec_true.2 ⟨by rw [Nat.zero_add], ?_⟩
    unfold hSumChanges0 hSumChanges1; rw [er]
  rw [g0.2, g1.2, g2.2, g3.2, x1, x2]
  have e8 : capOf b.length 0 false = b.length := rfl
  refine (if_neg (by simp; omega)).trans ?_
  refine (if_neg (by simp; omega)).trans ?_
  refine (if_neg (by rw [tmod2]; simp; omega)).trans ?_
  refine (if_neg (by simp; omega)).trans ?_
  refine (if_pos (by simp; omega)).trans ?_
  refine (if_pos (by simp)).trans ?_
  refine (if_pos (by simp; omega)).trans ?_
  refine (if_pos (by simp)).trans ?_
  refine (if_pos hh).trans ?_
  refine (if_pos (by simp [g0.1, nOf]; omega)).trans ?_
  refine (if_pos ?_).trans ?_; · rw [e8]; constructor <;> omega
  refine (if_pos (by omega)).trans ?_
  refine (if_pos (by rw [g1.1, g2.1]; simp [nOf]; omega)).trans ?_
  refine (if_pos (by simp [g3.1, nOf]; omega)).trans ?_
  have hr := changeI_range (o := 65535 - sumI b 0) ((b.drop k).take t.length) t (by omega)
  by_cases h : changeI (65535 - sumI b 0) ((b.drop k).take t.length) t = 65535 - sumI C 0
  · refine (if_pos (by simp [h, x1, x2])).trans ?_
    exact if_pos (by simp [AV.beq])
  · refine (if_neg (by simp [h, x1, x2])).trans ?_
    refine (if_pos ?_).trans ?_
    · rw [Int.tmod_eq_emod_of_nonneg hr.1, Int.tmod_eq_emod_of_nonneg (by omega), hcl]; simp
    · exact if_pos (by simp [AV.beq])

theorem nfSCneg {R : Type} (b t : List UInt8) (a : Int) (K : AV → Option R) :
    abody Try.prog (deepC Try.prog t3c 0 4) (mixLS [] (autoLS Try.prog (deepC Try.prog t3c 0 4) 0 4 (bodyOf Try.prog 4))) 4 [slB 0 b, .int .i64 a, slB 1 t] [farB b, farB t] (fun v _ => K v) =
    (if decide ((b.length : Int) > 1000) = true then
      K (AV.bool true)
    else (if decide ((t.length : Int) > (b.length : Int)) = true then
        K (AV.bool true)
      else (if (((t.length : Int)).tmod 2 != 0) = true then
          K (AV.bool true)
        else (if decide ((b.length : Int) < 2) = true then
            K (AV.bool true)
          else (if decide (0 < IntKind.i64.wrap (IntKind.i64.wrap ((b.length : Int) - (t.length : Int)) + 1) ∧ IntKind.i64.wrap (IntKind.i64.wrap ((b.length : Int) - (t.length : Int)) + 1) < 4611686018427387904) = true then
              (if 0 + b.length * 1 ≤ (bys b).length then
                (if (2 * (0 + b.length) + 200) * 1 ≤ 281474976710656 ∧ some 1 = some 1 ∧ 0 + b.length ≤ 70368744177664 then
                  (if 0 = 0 ∧ 0 = 0 ∧ (0 < b.length ∨ 0 = 0) ∧ 1 = 1 ∧ (List.take (b.length * 1) (bys b)).all AV.isCell = true then
                    none
                  else none)
                else none)
              else none)
            else none))))) := by
  kernel_rfl


theorem runSumChanges (b : List UInt8) (a : Int) (t : List UInt8) (_ : b.length ≤ maxLen) (ha : -9223372036854775808 ≤ a ∧ a < 9223372036854775808) (_ : t.length ≤ maxLen) :
    ∃ h', Runs Try.prog 4 [slB 0 b, .int .i64 a, slB 1 t] [farB b, farB t] (.bool true) h' := by
  by_cases h1 : b.length ≤ 1000 ∧ t.length ≤ b.length ∧ t.length % 2 = 0 ∧ ¬ b.length < 2
  case neg =>
    refine Runs.val0 t3cOk (F := 0) (n := 4) ?_
    rw [nfSCneg]
    by_cases c1 : b.length ≤ 1000
    case neg => exact if_pos (by simp; omega)
    refine (if_neg (by simp; omega)).trans ?_
    by_cases c2 : t.length ≤ b.length
    case neg => exact if_pos (by simp; omega)
    refine (if_neg (by simp; omega)).trans ?_
    by_cases c3 : t.length % 2 = 0
    case neg => exact if_pos (by rw [tmod2]; simp; omega)
    refine (if_neg (by rw [tmod2]; simp; omega)).trans ?_
    exact if_pos (by simp; omega)
  obtain ⟨hb, ht, h2, hb2⟩ := h1
  have am0 := Int.emod_nonneg a (show ((b.length : Int) - t.length + 1) ≠ 0 by omega)
  have am := Int.emod_lt_of_pos a (show (0 : Int) < b.length - t.length + 1 by omega)
  obtain ⟨k, hk⟩ := Int.eq_ofNat_of_zero_le (show 0 ≤ a % (b.length - t.length + 1) - (a % (b.length - t.length + 1)) % 2 by omega)
  by_cases h0 : 0 < t.length
  · refine Runs.val t3cOk (F := 100) (n := 4) (only (k := 7) (by kernel_rfl) (fixL_sound (deepC_sound t3cOk 100 4) (LS := noLS) (noLoops (by kernel_rfl)) (scLoop (k := k) (by omega) hb h0))) ?_
    exact scTree b t a k t.length .dead none (fun v => some v) hb ht h2 hb2 hk.symm
  · have he : t = [] := by cases t; rfl; simp at h0
    subst he
    have hl : ∃ j, loopG (roundG Try.prog (deepC Try.prog t3c 100 4) noLS (loopIn (bodyOf Try.prog 4) 0) mSC) j (vSC b [] k b.length 0) (hSC0 b [] b) = some (.exit 0, vSC b [] k b.length 0, hSC2 b [] (patch b k [] ([] : List UInt8).length) (.cells [] 1 .ro none) (some 2)) := by
      refine ⟨1, ?_⟩
      simp only [loopG, nfSCr0]
      rw [if_neg (by simp)]
      simp only [List.length_nil, patch_zero]
      rfl
    refine Runs.val t3cOk (F := 100) (n := 4) (only (k := 7) (by kernel_rfl) (fixL_sound (deepC_sound t3cOk 100 4) (LS := noLS) (noLoops (by kernel_rfl)) hl)) ?_
    exact scTree b [] a k 0 (.cells [] 1 .ro none) (some 2) (fun v => some v) hb ht h2 hb2 hk.symm

end Go.Proofs.Ythkicndbaaconaa.L
