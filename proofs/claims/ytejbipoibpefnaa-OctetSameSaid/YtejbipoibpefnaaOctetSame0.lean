/- OctetSame's run. -/
import Derived.Test.YtejbipoibpefnaaSame
import Derived.Test.YtejbipoibpefnaaRound
import Derived.Test.YtejbipoibpefnaaAwake1
set_option autoImplicit false
set_option maxRecDepth 100000
set_option linter.unusedVariables false
set_option linter.unusedSimpArgs false
namespace Go.Proofs.Ytejbipoibpefnaa.L
open Go Go.Abs

noncomputable def t1s : Tbl := [(24, entF eSame), (23, entF eRound), (8, entF eAwake)]
theorem t1sOk : ∀ f E, t1s.find f = some E → SoundE Try.prog f E := find_cons sSame (find_cons sRound (find_cons sAwake (find_nil _)))

noncomputable def hOctetSame0 (a : List UInt8) (p x c : Int) : AHeap := [ABlk.cells (bys a) 1 Md.far none]
noncomputable def hOctetSame1 (a : List UInt8) (p x c : Int) : AHeap := [ABlk.cells (bys a) 1 Md.far none, ABlk.dead, ABlk.cells (putCells (List.take (a.length * 1) (bys a)) (0 + (p % (a.length : Int)).toNat * 1) [AV.int IntKind.u8 (abits IntKind.u8 (· ^^^ ·) (intV (List.take (a.length * 1) (bys a))[0 + (p % (a.length : Int)).toNat * 1]?) (abits IntKind.u8 (· ||| ·) x 1))]) 1 Md.own none]
theorem nfOctetSame {R : Type} (a : List UInt8) (p x c : Int) (K : AV → Option R) :
    abody Try.prog (deepC Try.prog t1s 100 4) (mixLS [] (autoLS Try.prog (deepC Try.prog t1s 100 4) 100 4 (bodyOf Try.prog 6))) 6 [slB 0 a, .int .i64 p, .int .u8 x, .int .i64 c] [farB a] (fun v _ => K v) =
    (if decide ((a.length : Int) > 300) = true then
      (if (bOk (hOctetSame0 a p x c) (AV.sl none 0 0 true) && bOk (hOctetSame0 a p x c) (AV.sl (some (0, 0)) a.length 0 false) && decide (nOf (AV.sl none 0 0 true) ≤ 1000000000000)) = true then
        K (AV.bool true)
      else none)
    else (if ((a.length : Int) == 0) = true then
        (if (bOk (hOctetSame0 a p x c) (AV.sl none 0 0 true) && bOk (hOctetSame0 a p x c) (AV.sl (some (0, 0)) a.length 0 false) && decide (nOf (AV.sl none 0 0 true) ≤ 1000000000000)) = true then
          K (AV.bool true)
        else none)
      else (if decide (0 < (a.length : Int) ∧ (a.length : Int) < 4611686018427387904) = true then
          (if decide (0 < IntKind.i64.wrap ((a.length : Int) + 1) ∧ IntKind.i64.wrap ((a.length : Int) + 1) < 4611686018427387904) = true then
            (if 0 + a.length * 1 ≤ (bys a).length then
              (if (2 * (0 + a.length) + 200) * 1 ≤ 281474976710656 ∧ some 1 = some 1 ∧ 0 + a.length ≤ 70368744177664 then
                (if 0 = 0 ∧ 0 = 0 ∧ (0 < a.length ∨ 0 = 0) ∧ 1 = 1 ∧ (List.take (a.length * 1) (bys a)).all AV.isCell = true then
                  (if 0 ≤ p % (a.length : Int) ∧ p % (a.length : Int) < (((0 + a.length) : Nat) : Int) then
                    (if isIntV IntKind.u8 (List.take (a.length * 1) (bys a))[0 + (p % (a.length : Int)).toNat * 1]? = true then
                      (if 0 ≤ p % (a.length : Int) ∧ p % (a.length : Int) < (((0 + a.length) : Nat) : Int) then
                        (if 0 + (p % (a.length : Int)).toNat * 1 + [AV.int IntKind.u8 (abits IntKind.u8 (· ^^^ ·) (intV (List.take (a.length * 1) (bys a))[0 + (p % (a.length : Int)).toNat * 1]?) (abits IntKind.u8 (· ||| ·) x 1))].length ≤ (List.take (a.length * 1) (bys a)).length ∧ [AV.int IntKind.u8 (abits IntKind.u8 (· ^^^ ·) (intV (List.take (a.length * 1) (bys a))[0 + (p % (a.length : Int)).toNat * 1]?) (abits IntKind.u8 (· ||| ·) x 1))].all AV.isCell = true then
                          (if (bOk (hOctetSame1 a p x c) (AV.sl (some (0, 0)) a.length 0 false) && bOk (hOctetSame1 a p x c) (AV.sl (some (2, 0)) (0 + a.length) 0 false) && decide (nOf (AV.sl (some (0, 0)) a.length 0 false) ≤ 1000000000000)) = true then
                            (if ((((sameR (bOf (hOctetSame1 a p x c) (AV.sl (some (0, 0)) a.length 0 false)) (bOf (hOctetSame1 a p x c) (AV.sl (some (2, 0)) (0 + a.length) 0 false))) : Nat) : Int) == p % (a.length : Int)) = true then
                              (if (bOk (hOctetSame1 a p x c) (AV.sl (some (2, 0)) (0 + a.length) 0 false) && bOk (hOctetSame1 a p x c) (AV.sl (some (0, 0)) a.length 0 false) && decide (nOf (AV.sl (some (2, 0)) (0 + a.length) 0 false) ≤ 1000000000000)) = true then
                                (if ((((sameR (bOf (hOctetSame1 a p x c) (AV.sl (some (2, 0)) (0 + a.length) 0 false)) (bOf (hOctetSame1 a p x c) (AV.sl (some (0, 0)) a.length 0 false))) : Nat) : Int) == p % (a.length : Int)) = true then
                                  (if (bOk (hOctetSame1 a p x c) (AV.sl (some (0, 0)) a.length 0 false) && bOk (hOctetSame1 a p x c) (AV.sl (some (0, 0)) a.length 0 false) && decide (nOf (AV.sl (some (0, 0)) a.length 0 false) ≤ 1000000000000)) = true then
                                    (if ((((sameR (bOf (hOctetSame1 a p x c) (AV.sl (some (0, 0)) a.length 0 false)) (bOf (hOctetSame1 a p x c) (AV.sl (some (0, 0)) a.length 0 false))) : Nat) : Int) == (a.length : Int)) = true then
                                      (if 0 ≤ c % IntKind.i64.wrap ((a.length : Int) + 1) ∧ c % IntKind.i64.wrap ((a.length : Int) + 1) ≤ (((capOf a.length 0 false) : Nat) : Int) then
                                        (if (bOk (hOctetSame1 a p x c) (AV.sl (some (0, 0)) a.length 0 false) && bOk (hOctetSame1 a p x c) (AV.sl (some (0, 0)) ((c % IntKind.i64.wrap ((a.length : Int) + 1)).toNat - 0) (roomOf a.length 0 0 (some (c % IntKind.i64.wrap ((a.length : Int) + 1))).isNone (c % IntKind.i64.wrap ((a.length : Int) + 1)).toNat false) false) && decide (nOf (AV.sl (some (0, 0)) a.length 0 false) ≤ 1000000000000)) = true then
                                          (if ((((sameR (bOf (hOctetSame1 a p x c) (AV.sl (some (0, 0)) a.length 0 false)) (bOf (hOctetSame1 a p x c) (AV.sl (some (0, 0)) ((c % IntKind.i64.wrap ((a.length : Int) + 1)).toNat - 0) (roomOf a.length 0 0 (some (c % IntKind.i64.wrap ((a.length : Int) + 1))).isNone (c % IntKind.i64.wrap ((a.length : Int) + 1)).toNat false) false))) : Nat) : Int) == c % IntKind.i64.wrap ((a.length : Int) + 1)) = true then
                                            (if 0 ≤ c % IntKind.i64.wrap ((a.length : Int) + 1) ∧ c % IntKind.i64.wrap ((a.length : Int) + 1) ≤ (((capOf (0 + a.length) 0 false) : Nat) : Int) then
                                              (if (bOk (hOctetSame1 a p x c) (AV.sl (some (2, 0)) ((c % IntKind.i64.wrap ((a.length : Int) + 1)).toNat - 0) (roomOf (0 + a.length) 0 0 (some (c % IntKind.i64.wrap ((a.length : Int) + 1))).isNone (c % IntKind.i64.wrap ((a.length : Int) + 1)).toNat false) false) && bOk (hOctetSame1 a p x c) (AV.sl (some (0, 0)) a.length 0 false) && decide (nOf (AV.sl (some (2, 0)) ((c % IntKind.i64.wrap ((a.length : Int) + 1)).toNat - 0) (roomOf (0 + a.length) 0 0 (some (c % IntKind.i64.wrap ((a.length : Int) + 1))).isNone (c % IntKind.i64.wrap ((a.length : Int) + 1)).toNat false) false) ≤ 1000000000000)) = true then
                                                (if ((((sameR (bOf (hOctetSame1 a p x c) (AV.sl (some (2, 0)) ((c % IntKind.i64.wrap ((a.length : Int) + 1)).toNat - 0) (roomOf (0 + a.length) 0 0 (some (c % IntKind.i64.wrap ((a.length : Int) + 1))).isNone (c % IntKind.i64.wrap ((a.length : Int) + 1)).toNat false) false)) (bOf (hOctetSame1 a p x c) (AV.sl (some (0, 0)) a.length 0 false))) : Nat) : Int) == if false = true then if p % (a.length : Int) > c % IntKind.i64.wrap ((a.length : Int) + 1) then p % (a.length : Int) else c % IntKind.i64.wrap ((a.length : Int) + 1) else if p % (a.length : Int) < c % IntKind.i64.wrap ((a.length : Int) + 1) then p % (a.length : Int) else c % IntKind.i64.wrap ((a.length : Int) + 1)) = true then
                                                  K (AV.bool true)
                                                else K (AV.bool false))
                                              else none)
                                            else none)
                                          else K (AV.bool false))
                                        else none)
                                      else none)
                                    else K (AV.bool false))
                                  else none)
                                else K (AV.bool false))
                              else none)
                            else K (AV.bool false))
                          else none)
                        else none)
                      else none)
                    else none)
                  else none)
                else none)
              else none)
            else none)
          else none)
        else none))) := by
  kernel_rfl


theorem flip_ne {a x : Int} (ha : 0 ≤ a ∧ a < 256) : abits .u8 (· ^^^ ·) a (abits .u8 (· ||| ·) x 1) ≠ a ∧ 0 ≤ abits .u8 (· ^^^ ·) a (abits .u8 (· ||| ·) x 1) ∧ abits .u8 (· ^^^ ·) a (abits .u8 (· ||| ·) x 1) < 256 := by
  have hw : ∀ B : BitVec 8, IntKind.u8.wrap (B.toNat : Int) = (B.toNat : Int) := fun B => by
    have := B.isLt
    simp [IntKind.wrap, IntKind.bits, IntKind.signed]; omega
  have ho : ∀ B : BitVec 8, BitVec.ofInt 8 (B.toNat : Int) = B := fun B => by simp
  show IntKind.u8.wrap ((BitVec.ofInt 8 a ^^^ BitVec.ofInt 8 (IntKind.u8.wrap ((BitVec.ofInt 8 x ||| BitVec.ofInt 8 1).toNat : Int))).toNat : Int) ≠ a ∧ 0 ≤ IntKind.u8.wrap ((BitVec.ofInt 8 a ^^^ BitVec.ofInt 8 (IntKind.u8.wrap ((BitVec.ofInt 8 x ||| BitVec.ofInt 8 1).toNat : Int))).toNat : Int) ∧ IntKind.u8.wrap ((BitVec.ofInt 8 a ^^^ BitVec.ofInt 8 (IntKind.u8.wrap ((BitVec.ofInt 8 x ||| BitVec.ofInt 8 1).toNat : Int))).toNat : Int) < 256
  rw [hw, hw, ho]
  have hlt := (BitVec.ofInt 8 a ^^^ (BitVec.ofInt 8 x ||| BitVec.ofInt 8 1)).isLt
  refine ⟨fun h => ?_, by omega, by omega⟩
  obtain ⟨n, rfl⟩ := Int.eq_ofNat_of_zero_le ha.1
  have e : (BitVec.ofInt 8 (n : Int)).toNat = n := ofIntNat 8 n (by omega)
  have h2 : BitVec.ofInt 8 (n : Int) ^^^ (BitVec.ofInt 8 x ||| BitVec.ofInt 8 1) = BitVec.ofInt 8 (n : Int) := by
    apply BitVec.eq_of_toNat_eq
    rw [e]; omega
  have h3 := congrArg (fun B => (B ^^^ BitVec.ofInt 8 (n : Int)).getLsbD 0) h2
  simp at h3

theorem same_set {a : List UInt8} {k : Nat} {y : Int} (hk : k < a.length) (hy : 0 ≤ y ∧ y < 256) (hne : y ≠ byt a k) : sameR a (a.set k (u8i y)) = k ∧ sameR (a.set k (u8i y)) a = k := by
  have hb : ∀ i, byt (a.set k (u8i y)) i = if i = k then y else byt a i := fun i => by
    rw [byt_set hk]; split
    · rw [u8i_toNat]; omega
    · rfl
  constructor
  · refine sameR_is (by omega) (by simp; omega) (fun i hi => ?_) (.inr (.inr ?_))
    · rw [hb, if_neg (by omega)]
    · rw [hb, if_pos rfl]; exact Ne.symm hne
  · refine sameR_is (by simp; omega) (by omega) (fun i hi => ?_) (.inr (.inr ?_))
    · rw [hb, if_neg (by omega)]
    · rw [hb, if_pos rfl]; exact hne
theorem same_self (a : List UInt8) : sameR a a = a.length := sameR_is (Nat.le_refl _) (Nat.le_refl _) (fun _ _ => rfl) (.inl rfl)
theorem byt_tk' {l : List UInt8} {n i : Nat} (h : i < n) : byt (l.take n) i = byt l i := by
  simp [byt, List.getD, List.getElem?_take, h]
theorem same_take {a : List UInt8} {c : Nat} (hc : c ≤ a.length) : sameR a (a.take c) = c :=
  sameR_is hc (by simp; omega) (fun i hi => (byt_tk' hi).symm) (.inr (.inl (by simp; omega)))
theorem same_takes {a b : List UInt8} {k c : Nat} (hs : sameR b a = k) (hl : b.length = a.length) (hk : k < a.length) (hc : c ≤ a.length) : sameR (b.take c) a = min c k := by
  have h1 := sameR_eq b a
  have h2 := sameR_ne b a
  rw [hs] at h1 h2
  by_cases h : c ≤ k
  · rw [Nat.min_eq_left h]
    exact sameR_is (by simp; omega) (by omega) (fun i hi => by rw [byt_tk' hi]; exact h1 i (by omega)) (.inl (by simp; omega))
  · rw [Nat.min_eq_right (by omega)]
    exact sameR_is (by simp; omega) (by omega) (fun i hi => by rw [byt_tk' (by omega)]; exact h1 i hi) (.inr (.inr (by rw [byt_tk' (by omega)]; exact h2 (by omega) (by omega))))

theorem runOctetSame (a : List UInt8) (p x c : Int) (_ : a.length ≤ maxLen) (_ : -9223372036854775808 ≤ p ∧ p < 9223372036854775808) (hx : 0 ≤ x ∧ x < 256) (_ : -9223372036854775808 ≤ c ∧ c < 9223372036854775808) :
    ∃ h', Runs Try.prog 6 [slB 0 a, .int .i64 p, .int .u8 x, .int .i64 c] [farB a] (.bool true) h' := by
  refine Runs.val0 t1sOk (F := 100) (n := 4) ?_
  rw [nfOctetSame]
  have g0 := bOk_row (h := hOctetSame0 a p x c) (k := 0) (n := a.length) (r := 0) (e := false) (l := a) rfl rfl rfl
  have gn : bOk (hOctetSame0 a p x c) (.sl none 0 0 true) = true := rfl
  have nn : nOf (.sl none 0 0 true) = 0 := rfl
  by_cases h1 : a.length ≤ 300
  case neg =>
    refine (if_pos (by simp; omega)).trans ?_
    exact if_pos (by rw [g0.1, gn, nn]; simp)
  refine (if_neg (by simp; omega)).trans ?_
  by_cases h2 : a.length = 0
  · refine (if_pos (by simp [h2])).trans ?_
    exact if_pos (by rw [g0.1, gn, nn]; simp)
  refine (if_neg (by simpa using h2)).trans ?_
  have er : List.take (a.length * 1) (bys a) = bys a := by simp
  have w1 : IntKind.i64.wrap ((a.length : Int) + 1) = a.length + 1 := wrapI64 (by omega)
  have pm := Int.emod_lt_of_pos p (show (0 : Int) < a.length by omega)
  have pm0 := Int.emod_nonneg p (show (a.length : Int) ≠ 0 by omega)
  have cm := Int.emod_lt_of_pos c (show (0 : Int) < a.length + 1 by omega)
  have cm0 := Int.emod_nonneg c (show ((a.length : Int) + 1) ≠ 0 by omega)
  rw [w1, er]
  obtain ⟨k, hk⟩ := Int.eq_ofNat_of_zero_le pm0
  obtain ⟨d, hd⟩ := Int.eq_ofNat_of_zero_le cm0
  rw [hk] at pm ⊢
  rw [hd] at cm ⊢
  have e1 : 0 + ((k : Nat) : Int).toNat * 1 = k := by omega
  have e2 : 0 + ((d : Nat) : Int).toNat * 1 = d := by omega
  have e3 : ((d : Nat) : Int).toNat - 0 = d := by omega
  have vk : intV ((bys a)[k]?) = byt a k := by rw [bys_get, intV_byte]
  have fl := flip_ne (x := x) (byt_range a k)
  rw [e1, e3, vk]
  have hset := putCells_byte' a k _ fl.2
  have hl : (a.set k (u8i (abits .u8 (· ^^^ ·) (byt a k) (abits .u8 (· ||| ·) x 1)))).length = a.length := by simp
  have gb := bOk_row (h := hOctetSame1 a p x c) (k := 2) (n := 0 + a.length) (r := 0) (e := false) (l := a.set k (u8i (abits .u8 (· ^^^ ·) (byt a k) (abits .u8 (· ||| ·) x 1)))) rfl
    (by rw [hk, e1, er, vk]; exact hset) (by simp)
  obtain ⟨sm1, sm2⟩ := same_set (a := a) (k := k) (by omega) fl.2 fl.1
  generalize a.set k (u8i (abits .u8 (· ^^^ ·) (byt a k) (abits .u8 (· ||| ·) x 1))) = Bw at *
  have gA := bOk_row (h := hOctetSame1 a p x c) (k := 0) (n := a.length) (r := 0) (e := false) (l := a) rfl rfl rfl
  have gAc := bOk_part (h := hOctetSame1 a p x c) (k := 0) (o := 0) (n := d) (r := roomOf a.length 0 0 (some ((d : Nat) : Int)).isNone ((d : Nat) : Int).toNat false) (e := false) (l := a) rfl rfl (by omega)
  have gBc := bOk_part (h := hOctetSame1 a p x c) (k := 2) (o := 0) (n := d) (r := roomOf (0 + a.length) 0 0 (some ((d : Nat) : Int)).isNone ((d : Nat) : Int).toNat false) (e := false) (l := Bw) rfl
    (by rw [hk, e1, er, vk]; exact hset) (by omega)
  rw [List.drop_zero] at gAc gBc
  have s3 := same_self a
  have s4 := same_take (a := a) (c := d) (by omega)
  have s5 := same_takes (c := d) sm2 hl (by omega) (by omega)
  rw [gA.2, gb.2, gAc.2, gBc.2, sm1, sm2, s3, s4, s5]
  rw [gA.1, gb.1, gAc.1, gBc.1]
  have e9 : (if false = true then if ((k : Nat) : Int) > ((d : Nat) : Int) then ((k : Nat) : Int) else ((d : Nat) : Int) else if ((k : Nat) : Int) < ((d : Nat) : Int) then ((k : Nat) : Int) else ((d : Nat) : Int)) = ((min d k : Nat) : Int) := by
    rw [if_neg (by simp)]; split <;> omega
  try rw [e9]
  have b1 : a.length ≤ 1000000000000 := by omega
  have b2 : d ≤ 1000000000000 := by omega
  have b3 : d ≤ a.length := by omega
  clear hset gb gA gAc gBc
  repeat (first | (refine (if_pos ?_).trans ?_; · first | omega | (simp [nOf, capOf, b1, b2, b3] <;> done) | (simp <;> omega)))
  rfl

end Go.Proofs.Ytejbipoibpefnaa.L
