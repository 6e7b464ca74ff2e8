/- EtherKinds' run. -/
import Derived.Test.YtgnhnaambioinaaWith
import Derived.Test.YtgnhnaambioinaaAwake4
set_option autoImplicit false
set_option maxRecDepth 100000
set_option linter.unusedVariables false
set_option linter.unusedSimpArgs false
namespace Go.Proofs.Ytgnhnaambioinaa.L
open Go Go.Abs

noncomputable def t4e (C : List UInt8) (a w r : Int) (k : Int) (W : List UInt8) : Tbl := [(8, entF (eNetAt C a w r)), (10, entF (eWithAt C k W)), (7, entF eAwake)]
theorem t4eOk {C : List UInt8} {a w r k : Int} {W : List UInt8} (h1 : netR C = (a, w, r)) (h2 : withR C k = W) : ∀ f E, (t4e C a w r k W).find f = some E → SoundE Try.prog f E := find_cons (sNetAt h1) (find_cons (sWithAt h2) (find_cons sAwake (find_nil _)))
noncomputable def t4f : Tbl := [(7, entF eAwake)]
theorem t4fOk : ∀ f E, t4f.find f = some E → SoundE Try.prog f E := find_cons sAwake (find_nil _)

noncomputable def hKindsFF0 (k : Int) (C : List UInt8) : AHeap := [ABlk.cells [AV.int IntKind.u8 3, AV.int IntKind.u8 10, AV.int IntKind.u8 17, AV.int IntKind.u8 24, AV.int IntKind.u8 31, AV.int IntKind.u8 38, AV.int IntKind.u8 45, AV.int IntKind.u8 52, AV.int IntKind.u8 59, AV.int IntKind.u8 66, AV.int IntKind.u8 73, AV.int IntKind.u8 80] 1 Md.ro none, ABlk.cells [AV.int IntKind.u8 (IntKind.u8.wrap (k.fdiv 256)), AV.int IntKind.u8 (IntKind.u8.wrap k), AV.int IntKind.u8 9, AV.int IntKind.u8 9, AV.int IntKind.u8 9, AV.int IntKind.u8 9, AV.int IntKind.u8 9] 1 Md.own none, ABlk.cells [AV.int IntKind.u8 3, AV.int IntKind.u8 10, AV.int IntKind.u8 17, AV.int IntKind.u8 24, AV.int IntKind.u8 31, AV.int IntKind.u8 38, AV.int IntKind.u8 45, AV.int IntKind.u8 52, AV.int IntKind.u8 59, AV.int IntKind.u8 66, AV.int IntKind.u8 73, AV.int IntKind.u8 80, AV.int IntKind.u8 (IntKind.u8.wrap (k.fdiv 256)), AV.int IntKind.u8 (IntKind.u8.wrap k), AV.int IntKind.u8 9, AV.int IntKind.u8 9, AV.int IntKind.u8 9, AV.int IntKind.u8 9, AV.int IntKind.u8 9] 1 Md.own (some 0)]
theorem nfKindsFF {R : Type} (k : Int) (C : List UInt8) (K : AV → Option R) :
    abody Try.prog (deepC Try.prog (t4e C 0 0 2 2048 []) 100 4) (mixLS [] (autoLS Try.prog (deepC Try.prog (t4e C 0 0 2 2048 []) 100 4) 100 4 (bodyOf Try.prog 6))) 6 [.int .u16 k, .bool false, .bool false] [] (fun v _ => K v) =
    (if (bOk (hKindsFF0 k C) (AV.sl (some (2, 0)) 19 0 false) && cdec (nOf (AV.sl (some (2, 0)) 19 0 false) ≤ 70368744177664 ∧ bOf (hKindsFF0 k C) (AV.sl (some (2, 0)) 19 0 false) = C)) = true then
      (if (bOk (hKindsFF0 k C) (AV.sl (some (2, 0)) 19 0 false) && cdec (nOf (AV.sl (some (2, 0)) 19 0 false) ≤ 1000000000 ∧ Int.ofNat 0 ≤ Int.ofNat 2048 ∧ Int.ofNat 2048 < Int.ofNat 65536 ∧ Int.ofNat 2048 = Int.ofNat 2048 ∧ bOf (hKindsFF0 k C) (AV.sl (some (2, 0)) 19 0 false) = C)) = true then
        (if (k != 2048) = true then
          (if (k != 34525) = true then
            K (AV.bool true)
          else K (AV.bool false))
        else K (AV.bool false))
      else none)
    else none) := by
  kernel_rfl

noncomputable def hKindsFT0 (k : Int) (C : List UInt8) : AHeap := [ABlk.cells [AV.int IntKind.u8 3, AV.int IntKind.u8 10, AV.int IntKind.u8 17, AV.int IntKind.u8 24, AV.int IntKind.u8 31, AV.int IntKind.u8 38, AV.int IntKind.u8 45, AV.int IntKind.u8 52, AV.int IntKind.u8 59, AV.int IntKind.u8 66, AV.int IntKind.u8 73, AV.int IntKind.u8 80] 1 Md.ro none, ABlk.cells [AV.int IntKind.u8 (IntKind.u8.wrap (k.fdiv 256)), AV.int IntKind.u8 (IntKind.u8.wrap k), AV.int IntKind.u8 9, AV.int IntKind.u8 9, AV.int IntKind.u8 9, AV.int IntKind.u8 9, AV.int IntKind.u8 9] 1 Md.own none, ABlk.cells [AV.int IntKind.u8 3, AV.int IntKind.u8 10, AV.int IntKind.u8 17, AV.int IntKind.u8 24, AV.int IntKind.u8 31, AV.int IntKind.u8 38, AV.int IntKind.u8 45, AV.int IntKind.u8 52, AV.int IntKind.u8 59, AV.int IntKind.u8 66, AV.int IntKind.u8 73, AV.int IntKind.u8 80, AV.int IntKind.u8 (IntKind.u8.wrap (k.fdiv 256)), AV.int IntKind.u8 (IntKind.u8.wrap k), AV.int IntKind.u8 9, AV.int IntKind.u8 9, AV.int IntKind.u8 9, AV.int IntKind.u8 9, AV.int IntKind.u8 9] 1 Md.own (some 0)]
theorem nfKindsFT {R : Type} (k : Int) (C : List UInt8) (K : AV → Option R) :
    abody Try.prog (deepC Try.prog (t4e C 0 0 2 34525 []) 100 4) (mixLS [] (autoLS Try.prog (deepC Try.prog (t4e C 0 0 2 34525 []) 100 4) 100 4 (bodyOf Try.prog 6))) 6 [.int .u16 k, .bool false, .bool true] [] (fun v _ => K v) =
    (if (bOk (hKindsFT0 k C) (AV.sl (some (2, 0)) 19 0 false) && cdec (nOf (AV.sl (some (2, 0)) 19 0 false) ≤ 70368744177664 ∧ bOf (hKindsFT0 k C) (AV.sl (some (2, 0)) 19 0 false) = C)) = true then
      (if (bOk (hKindsFT0 k C) (AV.sl (some (2, 0)) 19 0 false) && cdec (nOf (AV.sl (some (2, 0)) 19 0 false) ≤ 1000000000 ∧ Int.ofNat 0 ≤ Int.ofNat 34525 ∧ Int.ofNat 34525 < Int.ofNat 65536 ∧ Int.ofNat 34525 = Int.ofNat 34525 ∧ bOf (hKindsFT0 k C) (AV.sl (some (2, 0)) 19 0 false) = C)) = true then
        (if (k != 2048) = true then
          (if (k != 34525) = true then
            K (AV.bool true)
          else K (AV.bool false))
        else K (AV.bool false))
      else none)
    else none) := by
  kernel_rfl

noncomputable def hKindsTF0 (k : Int) (C : List UInt8) : AHeap := [ABlk.dead, ABlk.cells [AV.int IntKind.u8 129, AV.int IntKind.u8 0, AV.int IntKind.u8 1, AV.int IntKind.u8 2] 1 Md.own none, ABlk.cells [AV.int IntKind.u8 3, AV.int IntKind.u8 10, AV.int IntKind.u8 17, AV.int IntKind.u8 24, AV.int IntKind.u8 31, AV.int IntKind.u8 38, AV.int IntKind.u8 45, AV.int IntKind.u8 52, AV.int IntKind.u8 59, AV.int IntKind.u8 66, AV.int IntKind.u8 73, AV.int IntKind.u8 80, AV.int IntKind.u8 129, AV.int IntKind.u8 0, AV.int IntKind.u8 1, AV.int IntKind.u8 2] 1 Md.ro none, ABlk.cells [AV.int IntKind.u8 (IntKind.u8.wrap (k.fdiv 256)), AV.int IntKind.u8 (IntKind.u8.wrap k), AV.int IntKind.u8 9, AV.int IntKind.u8 9, AV.int IntKind.u8 9, AV.int IntKind.u8 9, AV.int IntKind.u8 9] 1 Md.own none, ABlk.cells [AV.int IntKind.u8 3, AV.int IntKind.u8 10, AV.int IntKind.u8 17, AV.int IntKind.u8 24, AV.int IntKind.u8 31, AV.int IntKind.u8 38, AV.int IntKind.u8 45, AV.int IntKind.u8 52, AV.int IntKind.u8 59, AV.int IntKind.u8 66, AV.int IntKind.u8 73, AV.int IntKind.u8 80, AV.int IntKind.u8 129, AV.int IntKind.u8 0, AV.int IntKind.u8 1, AV.int IntKind.u8 2, AV.int IntKind.u8 (IntKind.u8.wrap (k.fdiv 256)), AV.int IntKind.u8 (IntKind.u8.wrap k), AV.int IntKind.u8 9, AV.int IntKind.u8 9, AV.int IntKind.u8 9, AV.int IntKind.u8 9, AV.int IntKind.u8 9] 1 Md.own (some 2)]
theorem nfKindsTF {R : Type} (k : Int) (C : List UInt8) (K : AV → Option R) :
    abody Try.prog (deepC Try.prog (t4e C 0 0 2 2048 []) 100 4) (mixLS [] (autoLS Try.prog (deepC Try.prog (t4e C 0 0 2 2048 []) 100 4) 100 4 (bodyOf Try.prog 6))) 6 [.int .u16 k, .bool true, .bool false] [] (fun v _ => K v) =
    (if (bOk (hKindsTF0 k C) (AV.sl (some (4, 0)) 23 0 false) && cdec (nOf (AV.sl (some (4, 0)) 23 0 false) ≤ 70368744177664 ∧ bOf (hKindsTF0 k C) (AV.sl (some (4, 0)) 23 0 false) = C)) = true then
      (if (bOk (hKindsTF0 k C) (AV.sl (some (4, 0)) 23 0 false) && cdec (nOf (AV.sl (some (4, 0)) 23 0 false) ≤ 1000000000 ∧ Int.ofNat 0 ≤ Int.ofNat 2048 ∧ Int.ofNat 2048 < Int.ofNat 65536 ∧ Int.ofNat 2048 = Int.ofNat 2048 ∧ bOf (hKindsTF0 k C) (AV.sl (some (4, 0)) 23 0 false) = C)) = true then
        (if (k != 2048) = true then
          (if (k != 34525) = true then
            K (AV.bool true)
          else K (AV.bool false))
        else K (AV.bool false))
      else none)
    else none) := by
  kernel_rfl

noncomputable def hKindsTT0 (k : Int) (C : List UInt8) : AHeap := [ABlk.dead, ABlk.cells [AV.int IntKind.u8 129, AV.int IntKind.u8 0, AV.int IntKind.u8 1, AV.int IntKind.u8 2] 1 Md.own none, ABlk.cells [AV.int IntKind.u8 3, AV.int IntKind.u8 10, AV.int IntKind.u8 17, AV.int IntKind.u8 24, AV.int IntKind.u8 31, AV.int IntKind.u8 38, AV.int IntKind.u8 45, AV.int IntKind.u8 52, AV.int IntKind.u8 59, AV.int IntKind.u8 66, AV.int IntKind.u8 73, AV.int IntKind.u8 80, AV.int IntKind.u8 129, AV.int IntKind.u8 0, AV.int IntKind.u8 1, AV.int IntKind.u8 2] 1 Md.ro none, ABlk.cells [AV.int IntKind.u8 (IntKind.u8.wrap (k.fdiv 256)), AV.int IntKind.u8 (IntKind.u8.wrap k), AV.int IntKind.u8 9, AV.int IntKind.u8 9, AV.int IntKind.u8 9, AV.int IntKind.u8 9, AV.int IntKind.u8 9] 1 Md.own none, ABlk.cells [AV.int IntKind.u8 3, AV.int IntKind.u8 10, AV.int IntKind.u8 17, AV.int IntKind.u8 24, AV.int IntKind.u8 31, AV.int IntKind.u8 38, AV.int IntKind.u8 45, AV.int IntKind.u8 52, AV.int IntKind.u8 59, AV.int IntKind.u8 66, AV.int IntKind.u8 73, AV.int IntKind.u8 80, AV.int IntKind.u8 129, AV.int IntKind.u8 0, AV.int IntKind.u8 1, AV.int IntKind.u8 2, AV.int IntKind.u8 (IntKind.u8.wrap (k.fdiv 256)), AV.int IntKind.u8 (IntKind.u8.wrap k), AV.int IntKind.u8 9, AV.int IntKind.u8 9, AV.int IntKind.u8 9, AV.int IntKind.u8 9, AV.int IntKind.u8 9] 1 Md.own (some 2)]
theorem nfKindsTT {R : Type} (k : Int) (C : List UInt8) (K : AV → Option R) :
    abody Try.prog (deepC Try.prog (t4e C 0 0 2 34525 []) 100 4) (mixLS [] (autoLS Try.prog (deepC Try.prog (t4e C 0 0 2 34525 []) 100 4) 100 4 (bodyOf Try.prog 6))) 6 [.int .u16 k, .bool true, .bool true] [] (fun v _ => K v) =
    (if (bOk (hKindsTT0 k C) (AV.sl (some (4, 0)) 23 0 false) && cdec (nOf (AV.sl (some (4, 0)) 23 0 false) ≤ 70368744177664 ∧ bOf (hKindsTT0 k C) (AV.sl (some (4, 0)) 23 0 false) = C)) = true then
      (if (bOk (hKindsTT0 k C) (AV.sl (some (4, 0)) 23 0 false) && cdec (nOf (AV.sl (some (4, 0)) 23 0 false) ≤ 1000000000 ∧ Int.ofNat 0 ≤ Int.ofNat 34525 ∧ Int.ofNat 34525 < Int.ofNat 65536 ∧ Int.ofNat 34525 = Int.ofNat 34525 ∧ bOf (hKindsTT0 k C) (AV.sl (some (4, 0)) 23 0 false) = C)) = true then
        (if (k != 2048) = true then
          (if (k != 34525) = true then
            K (AV.bool true)
          else K (AV.bool false))
        else K (AV.bool false))
      else none)
    else none) := by
  kernel_rfl


theorem nfKn2048FF : abody Try.prog (deepC Try.prog t4f 100 12) (mixLS [] (autoLS Try.prog (deepC Try.prog t4f 100 12) 100 4 (bodyOf Try.prog 6))) 6 [.int .u16 2048, .bool false, .bool false] [] (fun v _ => some v) = some (.bool true) := by kernel_rfl
theorem nfKn2048FT : abody Try.prog (deepC Try.prog t4f 100 12) (mixLS [] (autoLS Try.prog (deepC Try.prog t4f 100 12) 100 4 (bodyOf Try.prog 6))) 6 [.int .u16 2048, .bool false, .bool true] [] (fun v _ => some v) = some (.bool true) := by kernel_rfl
theorem nfKn2048TF : abody Try.prog (deepC Try.prog t4f 100 12) (mixLS [] (autoLS Try.prog (deepC Try.prog t4f 100 12) 100 4 (bodyOf Try.prog 6))) 6 [.int .u16 2048, .bool true, .bool false] [] (fun v _ => some v) = some (.bool true) := by kernel_rfl
theorem nfKn2048TT : abody Try.prog (deepC Try.prog t4f 100 12) (mixLS [] (autoLS Try.prog (deepC Try.prog t4f 100 12) 100 4 (bodyOf Try.prog 6))) 6 [.int .u16 2048, .bool true, .bool true] [] (fun v _ => some v) = some (.bool true) := by kernel_rfl
theorem nfKn34525FF : abody Try.prog (deepC Try.prog t4f 100 12) (mixLS [] (autoLS Try.prog (deepC Try.prog t4f 100 12) 100 4 (bodyOf Try.prog 6))) 6 [.int .u16 34525, .bool false, .bool false] [] (fun v _ => some v) = some (.bool true) := by kernel_rfl
theorem nfKn34525FT : abody Try.prog (deepC Try.prog t4f 100 12) (mixLS [] (autoLS Try.prog (deepC Try.prog t4f 100 12) 100 4 (bodyOf Try.prog 6))) 6 [.int .u16 34525, .bool false, .bool true] [] (fun v _ => some v) = some (.bool true) := by kernel_rfl
theorem nfKn34525TF : abody Try.prog (deepC Try.prog t4f 100 12) (mixLS [] (autoLS Try.prog (deepC Try.prog t4f 100 12) 100 4 (bodyOf Try.prog 6))) 6 [.int .u16 34525, .bool true, .bool false] [] (fun v _ => some v) = some (.bool true) := by kernel_rfl
theorem nfKn34525TT : abody Try.prog (deepC Try.prog t4f 100 12) (mixLS [] (autoLS Try.prog (deepC Try.prog t4f 100 12) 100 4 (bodyOf Try.prog 6))) 6 [.int .u16 34525, .bool true, .bool true] [] (fun v _ => some v) = some (.bool true) := by kernel_rfl

def macK : List UInt8 := [3, 10, 17, 24, 31, 38, 45, 52, 59, 66, 73, 80]
theorem wordK {k : Int} (hk : 0 ≤ k ∧ k < 65536) : ((u8i (k.fdiv 256)).toNat : Int) * 256 + ((u8i k).toNat : Int) = k := by
  rw [u8i_toNat, u8i_toNat, Int.fdiv_eq_ediv_of_nonneg _ (by omega)]; omega
theorem kindsF {k : Int} (hk : 0 ≤ k ∧ k < 65536) (h1 : k ≠ 2048) (h2 : k ≠ 34525) : netR (macK ++ [u8i (k.fdiv 256), u8i k, 9, 9, 9, 9, 9]) = (0, 0, 2) := by
  have w1 : word (macK ++ [u8i (k.fdiv 256), u8i k, 9, 9, 9, 9, 9]) 12 = k := wordK hk
  have w2 : word (macK ++ [u8i (k.fdiv 256), u8i k, 9, 9, 9, 9, 9]) 16 = 2313 := rfl
  unfold netR
  rw [w1, w2, if_neg (by simp [macK])]
  split
  · rfl
  · unfold netW; rw [if_pos ⟨h1, h2⟩]
theorem kindsT {k : Int} (hk : 0 ≤ k ∧ k < 65536) (h1 : k ≠ 2048) (h2 : k ≠ 34525) : netR (macK ++ [129, 0, 1, 2, u8i (k.fdiv 256), u8i k, 9, 9, 9, 9, 9]) = (0, 0, 2) := by
  have w1 : word (macK ++ [129, 0, 1, 2, u8i (k.fdiv 256), u8i k, 9, 9, 9, 9, 9]) 12 = 33024 := rfl
  have w2 : word (macK ++ [129, 0, 1, 2, u8i (k.fdiv 256), u8i k, 9, 9, 9, 9, 9]) 16 = k := wordK hk
  unfold netR
  rw [w1, w2, if_neg (by simp [macK]), if_pos rfl, if_neg (by simp [macK])]
  unfold netW; rw [if_pos ⟨h1, h2⟩]

theorem runEtherKinds (k : Int) (tg to : Bool) (hk : 0 ≤ k ∧ k < 65536) :
    ∃ h', Runs Try.prog 6 [.int .u16 k, .bool tg, .bool to] [] (.bool true) h' := by
  by_cases h1 : k = 2048
  · subst h1
    cases tg <;> cases to
    · exact Runs.val0 t4fOk (F := 100) (n := 12) nfKn2048FF
    · exact Runs.val0 t4fOk (F := 100) (n := 12) nfKn2048FT
    · exact Runs.val0 t4fOk (F := 100) (n := 12) nfKn2048TF
    · exact Runs.val0 t4fOk (F := 100) (n := 12) nfKn2048TT
  by_cases h2 : k = 34525
  · subst h2
    cases tg <;> cases to
    · exact Runs.val0 t4fOk (F := 100) (n := 12) nfKn34525FF
    · exact Runs.val0 t4fOk (F := 100) (n := 12) nfKn34525FT
    · exact Runs.val0 t4fOk (F := 100) (n := 12) nfKn34525TF
    · exact Runs.val0 t4fOk (F := 100) (n := 12) nfKn34525TT
  cases tg <;> cases to
  · have hC := kindsF hk h1 h2
    have hW : withR (macK ++ [u8i (k.fdiv 256), u8i k, 9, 9, 9, 9, 9]) 2048 = [] := by unfold withR; rw [hC]; rfl
    refine Runs.val0 (t := t4e (macK ++ [u8i (k.fdiv 256), u8i k, 9, 9, 9, 9, 9]) 0 0 2 2048 []) (t4eOk hC hW) (F := 100) (n := 4) ?_
    rw [nfKindsFF]
    have g := bOk_row (h := hKindsFF0 k (macK ++ [u8i (k.fdiv 256), u8i k, 9, 9, 9, 9, 9])) (k := 2) (n := 19) (r := 0) (e := false) (l := macK ++ [u8i (k.fdiv 256), u8i k, 9, 9, 9, 9, 9]) rfl (by simp only [wrapU8_byte]; rfl) rfl
    refine (if_pos (by rw [g.1, Bool.true_and]; exact cdec_true.2 ⟨by decide, g.2⟩)).trans ?_
    refine (if_pos (by rw [g.1, Bool.true_and]; exact cdec_true.2 ⟨by decide, by decide, by decide, rfl, g.2⟩)).trans ?_
    refine (if_pos (by simpa using h1)).trans ?_
    refine (if_pos (by simpa using h2)).trans ?_
    rfl
  · have hC := kindsF hk h1 h2
    have hW : withR (macK ++ [u8i (k.fdiv 256), u8i k, 9, 9, 9, 9, 9]) 34525 = [] := by unfold withR; rw [hC]; rfl
    refine Runs.val0 (t := t4e (macK ++ [u8i (k.fdiv 256), u8i k, 9, 9, 9, 9, 9]) 0 0 2 34525 []) (t4eOk hC hW) (F := 100) (n := 4) ?_
    rw [nfKindsFT]
    have g := bOk_row (h := hKindsFT0 k (macK ++ [u8i (k.fdiv 256), u8i k, 9, 9, 9, 9, 9])) (k := 2) (n := 19) (r := 0) (e := false) (l := macK ++ [u8i (k.fdiv 256), u8i k, 9, 9, 9, 9, 9]) rfl (by simp only [wrapU8_byte]; rfl) rfl
    refine (if_pos (by rw [g.1, Bool.true_and]; exact cdec_true.2 ⟨by decide, g.2⟩)).trans ?_
    refine (if_pos (by rw [g.1, Bool.true_and]; exact cdec_true.2 ⟨by decide, by decide, by decide, rfl, g.2⟩)).trans ?_
    refine (if_pos (by simpa using h1)).trans ?_
    refine (if_pos (by simpa using h2)).trans ?_
    rfl
  · have hC := kindsT hk h1 h2
    have hW : withR (macK ++ [129, 0, 1, 2, u8i (k.fdiv 256), u8i k, 9, 9, 9, 9, 9]) 2048 = [] := by unfold withR; rw [hC]; rfl
    refine Runs.val0 (t := t4e (macK ++ [129, 0, 1, 2, u8i (k.fdiv 256), u8i k, 9, 9, 9, 9, 9]) 0 0 2 2048 []) (t4eOk hC hW) (F := 100) (n := 4) ?_
    rw [nfKindsTF]
    have g := bOk_row (h := hKindsTF0 k (macK ++ [129, 0, 1, 2, u8i (k.fdiv 256), u8i k, 9, 9, 9, 9, 9])) (k := 4) (n := 23) (r := 0) (e := false) (l := macK ++ [129, 0, 1, 2, u8i (k.fdiv 256), u8i k, 9, 9, 9, 9, 9]) rfl (by simp only [wrapU8_byte]; rfl) rfl
    refine (if_pos (by rw [g.1, Bool.true_and]; exact cdec_true.2 ⟨by decide, g.2⟩)).trans ?_
    refine (if_pos (by rw [g.1, Bool.true_and]; exact cdec_true.2 ⟨by decide, by decide, by decide, rfl, g.2⟩)).trans ?_
    refine (if_pos (by simpa using h1)).trans ?_
    refine (if_pos (by simpa using h2)).trans ?_
    rfl
  · have hC := kindsT hk h1 h2
    have hW : withR (macK ++ [129, 0, 1, 2, u8i (k.fdiv 256), u8i k, 9, 9, 9, 9, 9]) 34525 = [] := by unfold withR; rw [hC]; rfl
    refine Runs.val0 (t := t4e (macK ++ [129, 0, 1, 2, u8i (k.fdiv 256), u8i k, 9, 9, 9, 9, 9]) 0 0 2 34525 []) (t4eOk hC hW) (F := 100) (n := 4) ?_
    rw [nfKindsTT]
    have g := bOk_row (h := hKindsTT0 k (macK ++ [129, 0, 1, 2, u8i (k.fdiv 256), u8i k, 9, 9, 9, 9, 9])) (k := 4) (n := 23) (r := 0) (e := false) (l := macK ++ [129, 0, 1, 2, u8i (k.fdiv 256), u8i k, 9, 9, 9, 9, 9]) rfl (by simp only [wrapU8_byte]; rfl) rfl
    refine (if_pos (by rw [g.1, Bool.true_and]; exact cdec_true.2 ⟨by decide, g.2⟩)).trans ?_
    refine (if_pos (by rw [g.1, Bool.true_and]; exact cdec_true.2 ⟨by decide, by decide, by decide, rfl, g.2⟩)).trans ?_
    refine (if_pos (by simpa using h1)).trans ?_
    refine (if_pos (by simpa using h2)).trans ?_
    rfl

end Go.Proofs.Ytgnhnaambioinaa.L
