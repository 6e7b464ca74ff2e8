/- Where what follows begins: the program's Net and the reference's. -/
import Derived.Test.YtgnhnaambioinaaClone
import Derived.Test.YtgnhnaambioinaaBe16
set_option autoImplicit false
set_option maxRecDepth 100000
set_option linter.unusedVariables false
set_option linter.unusedSimpArgs false
namespace Go.Proofs.Ytgnhnaambioinaa.L
open Go Go.Abs
noncomputable def tNet : Tbl := [(14, entF eGet16)]
noncomputable def tRNet : Tbl := [(15, entF eBe16)]
noncomputable def hNet0 (b : List UInt8) : AHeap := [ABlk.cells (bys b) 1 Md.far none]
theorem nfNet {R : Type} (b : List UInt8) (K : AV → Option R) :
    abody Try.prog (deepC Try.prog tNet 100 4) (mixLS [] (autoLS Try.prog (deepC Try.prog tNet 100 4) 100 4 (bodyOf Try.prog 8))) 8 [slB 0 b] [farB b] (fun v _ => K v) =
    (if (bOk (hNet0 b) (AV.sl (some (0, 0)) b.length 0 false) && decide ((((nOf (AV.sl (some (0, 0)) b.length 0 false)) : Nat) : Int) < 9223372036854775000)) = true then
      (if ((if Int.ofNat 0 ≤ Int.ofNat 12 ∧ 14 ≤ (((bOf (hNet0 b) (AV.sl (some (0, 0)) b.length 0 false)).length : Nat) : Int) then numAt (bOf (hNet0 b) (AV.sl (some (0, 0)) b.length 0 false)) 12 2 else 0) == 33024) = true then
        (if decide (Int.ofNat 0 ≤ Int.ofNat 12 ∧ 14 ≤ (((bOf (hNet0 b) (AV.sl (some (0, 0)) b.length 0 false)).length : Nat) : Int)) = true then
          (if (bOk (hNet0 b) (AV.sl (some (0, 0)) b.length 0 false) && decide ((((nOf (AV.sl (some (0, 0)) b.length 0 false)) : Nat) : Int) < 9223372036854775000)) = true then
            (if (!decide (Int.ofNat 0 ≤ Int.ofNat 16 ∧ 18 ≤ (((bOf (hNet0 b) (AV.sl (some (0, 0)) b.length 0 false)).length : Nat) : Int))) = true then
              K (AV.tup [AV.int IntKind.i64 0, AV.int IntKind.u16 0, AV.int IntKind.i64 1])
            else (if ((if Int.ofNat 0 ≤ Int.ofNat 16 ∧ 18 ≤ (((bOf (hNet0 b) (AV.sl (some (0, 0)) b.length 0 false)).length : Nat) : Int) then numAt (bOf (hNet0 b) (AV.sl (some (0, 0)) b.length 0 false)) 16 2 else 0) != 2048) = true then
                (if ((if Int.ofNat 0 ≤ Int.ofNat 16 ∧ 18 ≤ (((bOf (hNet0 b) (AV.sl (some (0, 0)) b.length 0 false)).length : Nat) : Int) then numAt (bOf (hNet0 b) (AV.sl (some (0, 0)) b.length 0 false)) 16 2 else 0) != 34525) = true then
                  K (AV.tup [AV.int IntKind.i64 0, AV.int IntKind.u16 0, AV.int IntKind.i64 2])
                else K (AV.tup [AV.int IntKind.i64 18, AV.int IntKind.u16 (if Int.ofNat 0 ≤ Int.ofNat 16 ∧ 18 ≤ (((bOf (hNet0 b) (AV.sl (some (0, 0)) b.length 0 false)).length : Nat) : Int) then numAt (bOf (hNet0 b) (AV.sl (some (0, 0)) b.length 0 false)) 16 2 else 0), AV.int IntKind.i64 0]))
              else K (AV.tup [AV.int IntKind.i64 18, AV.int IntKind.u16 (if Int.ofNat 0 ≤ Int.ofNat 16 ∧ 18 ≤ (((bOf (hNet0 b) (AV.sl (some (0, 0)) b.length 0 false)).length : Nat) : Int) then numAt (bOf (hNet0 b) (AV.sl (some (0, 0)) b.length 0 false)) 16 2 else 0), AV.int IntKind.i64 0])))
          else none)
        else (if (!decide (Int.ofNat 0 ≤ Int.ofNat 12 ∧ 14 ≤ (((bOf (hNet0 b) (AV.sl (some (0, 0)) b.length 0 false)).length : Nat) : Int))) = true then
            K (AV.tup [AV.int IntKind.i64 0, AV.int IntKind.u16 0, AV.int IntKind.i64 1])
          else (if ((if Int.ofNat 0 ≤ Int.ofNat 12 ∧ 14 ≤ (((bOf (hNet0 b) (AV.sl (some (0, 0)) b.length 0 false)).length : Nat) : Int) then numAt (bOf (hNet0 b) (AV.sl (some (0, 0)) b.length 0 false)) 12 2 else 0) != 2048) = true then
              (if ((if Int.ofNat 0 ≤ Int.ofNat 12 ∧ 14 ≤ (((bOf (hNet0 b) (AV.sl (some (0, 0)) b.length 0 false)).length : Nat) : Int) then numAt (bOf (hNet0 b) (AV.sl (some (0, 0)) b.length 0 false)) 12 2 else 0) != 34525) = true then
                K (AV.tup [AV.int IntKind.i64 0, AV.int IntKind.u16 0, AV.int IntKind.i64 2])
              else K (AV.tup [AV.int IntKind.i64 14, AV.int IntKind.u16 (if Int.ofNat 0 ≤ Int.ofNat 12 ∧ 14 ≤ (((bOf (hNet0 b) (AV.sl (some (0, 0)) b.length 0 false)).length : Nat) : Int) then numAt (bOf (hNet0 b) (AV.sl (some (0, 0)) b.length 0 false)) 12 2 else 0), AV.int IntKind.i64 0]))
            else K (AV.tup [AV.int IntKind.i64 14, AV.int IntKind.u16 (if Int.ofNat 0 ≤ Int.ofNat 12 ∧ 14 ≤ (((bOf (hNet0 b) (AV.sl (some (0, 0)) b.length 0 false)).length : Nat) : Int) then numAt (bOf (hNet0 b) (AV.sl (some (0, 0)) b.length 0 false)) 12 2 else 0), AV.int IntKind.i64 0]))))
      else (if (!decide (Int.ofNat 0 ≤ Int.ofNat 12 ∧ 14 ≤ (((bOf (hNet0 b) (AV.sl (some (0, 0)) b.length 0 false)).length : Nat) : Int))) = true then
          K (AV.tup [AV.int IntKind.i64 0, AV.int IntKind.u16 0, AV.int IntKind.i64 1])
        else (if ((if Int.ofNat 0 ≤ Int.ofNat 12 ∧ 14 ≤ (((bOf (hNet0 b) (AV.sl (some (0, 0)) b.length 0 false)).length : Nat) : Int) then numAt (bOf (hNet0 b) (AV.sl (some (0, 0)) b.length 0 false)) 12 2 else 0) != 2048) = true then
            (if ((if Int.ofNat 0 ≤ Int.ofNat 12 ∧ 14 ≤ (((bOf (hNet0 b) (AV.sl (some (0, 0)) b.length 0 false)).length : Nat) : Int) then numAt (bOf (hNet0 b) (AV.sl (some (0, 0)) b.length 0 false)) 12 2 else 0) != 34525) = true then
              K (AV.tup [AV.int IntKind.i64 0, AV.int IntKind.u16 0, AV.int IntKind.i64 2])
            else K (AV.tup [AV.int IntKind.i64 14, AV.int IntKind.u16 (if Int.ofNat 0 ≤ Int.ofNat 12 ∧ 14 ≤ (((bOf (hNet0 b) (AV.sl (some (0, 0)) b.length 0 false)).length : Nat) : Int) then numAt (bOf (hNet0 b) (AV.sl (some (0, 0)) b.length 0 false)) 12 2 else 0), AV.int IntKind.i64 0]))
          else K (AV.tup [AV.int IntKind.i64 14, AV.int IntKind.u16 (if Int.ofNat 0 ≤ Int.ofNat 12 ∧ 14 ≤ (((bOf (hNet0 b) (AV.sl (some (0, 0)) b.length 0 false)).length : Nat) : Int) then numAt (bOf (hNet0 b) (AV.sl (some (0, 0)) b.length 0 false)) 12 2 else 0), AV.int IntKind.i64 0]))))
    else none) := by
  kernel_rfl

noncomputable def hRNet0 (b : List UInt8) : AHeap := [ABlk.cells (bys b) 1 Md.far none]
theorem nfRNet {R : Type} (b : List UInt8) (K : AV → Option R) :
    abody Try.prog (deepC Try.prog tRNet 100 4) (mixLS [] (autoLS Try.prog (deepC Try.prog tRNet 100 4) 100 4 (bodyOf Try.prog 9))) 9 [slB 0 b] [farB b] (fun v _ => K v) =
    (if decide ((b.length : Int) < 14) = true then
      K (AV.tup [AV.int IntKind.i64 0, AV.int IntKind.i64 0, AV.int IntKind.i64 1])
    else (if (bOk (hRNet0 b) (AV.sl (some (0, 0)) b.length 0 false) && decide (nOf (AV.sl (some (0, 0)) b.length 0 false) ≤ 70368744177664 ∧ Int.ofNat 0 ≤ Int.ofNat 12 ∧ 14 ≤ (((nOf (AV.sl (some (0, 0)) b.length 0 false)) : Nat) : Int))) = true then
        (if (word (bOf (hRNet0 b) (AV.sl (some (0, 0)) b.length 0 false)) 12 == 33024) = true then
          (if decide ((b.length : Int) < 18) = true then
            K (AV.tup [AV.int IntKind.i64 0, AV.int IntKind.i64 0, AV.int IntKind.i64 1])
          else (if (bOk (hRNet0 b) (AV.sl (some (0, 0)) b.length 0 false) && decide (nOf (AV.sl (some (0, 0)) b.length 0 false) ≤ 70368744177664 ∧ Int.ofNat 0 ≤ Int.ofNat 16 ∧ 18 ≤ (((nOf (AV.sl (some (0, 0)) b.length 0 false)) : Nat) : Int))) = true then
              (if (word (bOf (hRNet0 b) (AV.sl (some (0, 0)) b.length 0 false)) 16 != 2048) = true then
                (if (word (bOf (hRNet0 b) (AV.sl (some (0, 0)) b.length 0 false)) 16 != 34525) = true then
                  K (AV.tup [AV.int IntKind.i64 0, AV.int IntKind.i64 0, AV.int IntKind.i64 2])
                else K (AV.tup [AV.int IntKind.i64 18, AV.int IntKind.i64 (word (bOf (hRNet0 b) (AV.sl (some (0, 0)) b.length 0 false)) 16), AV.int IntKind.i64 0]))
              else K (AV.tup [AV.int IntKind.i64 18, AV.int IntKind.i64 (word (bOf (hRNet0 b) (AV.sl (some (0, 0)) b.length 0 false)) 16), AV.int IntKind.i64 0]))
            else none))
        else (if (word (bOf (hRNet0 b) (AV.sl (some (0, 0)) b.length 0 false)) 12 != 2048) = true then
            (if (word (bOf (hRNet0 b) (AV.sl (some (0, 0)) b.length 0 false)) 12 != 34525) = true then
              K (AV.tup [AV.int IntKind.i64 0, AV.int IntKind.i64 0, AV.int IntKind.i64 2])
            else K (AV.tup [AV.int IntKind.i64 14, AV.int IntKind.i64 (word (bOf (hRNet0 b) (AV.sl (some (0, 0)) b.length 0 false)) 12), AV.int IntKind.i64 0]))
          else K (AV.tup [AV.int IntKind.i64 14, AV.int IntKind.i64 (word (bOf (hRNet0 b) (AV.sl (some (0, 0)) b.length 0 false)) 12), AV.int IntKind.i64 0])))
      else none)) := by
  kernel_rfl


/-- Where, what, why not. -/
def netW (at' : Int) (w : Int) : Int × Int × Int := if w ≠ 2048 ∧ w ≠ 34525 then (0, 0, 2) else (at', w, 0)
def netR (b : List UInt8) : Int × Int × Int :=
  if b.length < 14 then (0, 0, 1)
  else if word b 12 = 33024 then (if b.length < 18 then (0, 0, 1) else netW 18 (word b 16))
  else netW 14 (word b 12)
def netV (k : IntKind) (x : Int × Int × Int) : AV := .tup [.int .i64 x.1, .int k x.2.1, .int .i64 x.2.2]

theorem netR_cases (b : List UInt8) : (netR b).2.2 = 0 ∧ ((netR b).1 = 14 ∧ 14 ≤ b.length ∨ (netR b).1 = 18 ∧ 18 ≤ b.length) ∧ ((netR b).2.1 = 2048 ∨ (netR b).2.1 = 34525) ∨ (netR b).1 = 0 ∧ (netR b).2.1 = 0 ∧ ((netR b).2.2 = 1 ∨ (netR b).2.2 = 2) := by
  unfold netR netW
  repeat' split
  all_goals simp
  all_goals omega

def eNet : GEnt := fun args h => match args with
  | [b] => some (bOk h b && decide (nOf b ≤ 70368744177664), netV .u16 (netR (bOf h b)), h)
  | _ => none
def eRNet : GEnt := fun args h => match args with
  | [b] => some (bOk h b && decide (nOf b ≤ 70368744177664), netV .i64 (netR (bOf h b)), h)
  | _ => none

theorem netTree {R : Type} (b : List UInt8) (hb : b.length ≤ 70368744177664) (K : AV → Option R) : abody Try.prog (deepC Try.prog tNet 100 4) (mixLS [] (autoLS Try.prog (deepC Try.prog tNet 100 4) 100 4 (bodyOf Try.prog 8))) 8 [slB 0 b] [farB b] (fun v _ => K v) = K (netV .u16 (netR b)) := by
  rw [nfNet]
  have g := bOk_row (h := hNet0 b) (k := 0) (n := b.length) (r := 0) (e := false) (l := b) rfl rfl rfl
  simp only [g.2]
  have c0 : (b.length : Int) < 9223372036854775000 := by omega
  have w : ∀ i : Nat, i + 2 ≤ b.length → numAt b i 2 = word b i := fun i hi => numAt_two hi
  by_cases h1 : 14 ≤ b.length
  · have c1 : ((14 : Int) ≤ (b.length : Int)) := by omega
    have c1' : ¬ b.length < 14 := by omega
    rw [w 12 (by omega)]
    by_cases h2 : 18 ≤ b.length
    · have c2 : ((18 : Int) ≤ (b.length : Int)) := by omega
      have c2' : ¬ b.length < 18 := by omega
      rw [w 16 (by omega)]
      by_cases w1 : word b 12 = 33024 <;> by_cases w2 : word b 12 = 2048 <;> by_cases w3 : word b 12 = 34525 <;> by_cases w4 : word b 16 = 2048 <;> by_cases w5 : word b 16 = 34525 <;> first | omega | (simp [*, netR, netV, netW, nOf, g.1] <;> done)
    · have c2 : ¬ ((18 : Int) ≤ (b.length : Int)) := by omega
      have c2' : b.length < 18 := by omega
      by_cases w1 : word b 12 = 33024 <;> by_cases w2 : word b 12 = 2048 <;> by_cases w3 : word b 12 = 34525 <;> first | omega | (simp [*, netR, netV, netW, nOf, g.1] <;> done)
  · have c1 : ¬ ((14 : Int) ≤ (b.length : Int)) := by omega
    have c1' : b.length < 14 := by omega
    simp [*, netR, netV, netW, nOf, g.1]

theorem rnetTree {R : Type} (b : List UInt8) (hb : b.length ≤ 70368744177664) (K : AV → Option R) : abody Try.prog (deepC Try.prog tRNet 100 4) (mixLS [] (autoLS Try.prog (deepC Try.prog tRNet 100 4) 100 4 (bodyOf Try.prog 9))) 9 [slB 0 b] [farB b] (fun v _ => K v) = K (netV .i64 (netR b)) := by
  rw [nfRNet]
  have g := bOk_row (h := hRNet0 b) (k := 0) (n := b.length) (r := 0) (e := false) (l := b) rfl rfl rfl
  simp only [g.2]
  have c0 : (b.length : Int) < 9223372036854775000 := by omega
  by_cases h1 : 14 ≤ b.length
  · have c1 : ((14 : Int) ≤ (b.length : Int)) := by omega
    have c1' : ¬ b.length < 14 := by omega
    have c1'' : ¬ (b.length : Int) < 14 := by omega
    by_cases h2 : 18 ≤ b.length
    · have c2 : ((18 : Int) ≤ (b.length : Int)) := by omega
      have c2' : ¬ b.length < 18 := by omega
      have c2'' : ¬ (b.length : Int) < 18 := by omega
      by_cases w1 : word b 12 = 33024 <;> by_cases w2 : word b 12 = 2048 <;> by_cases w3 : word b 12 = 34525 <;> by_cases w4 : word b 16 = 2048 <;> by_cases w5 : word b 16 = 34525 <;> first | omega | (simp [*, netR, netV, netW, nOf, g.1] <;> done)
    · have c2 : (b.length : Int) < 18 := by omega
      have c2' : b.length < 18 := by omega
      by_cases w1 : word b 12 = 33024 <;> by_cases w2 : word b 12 = 2048 <;> by_cases w3 : word b 12 = 34525 <;> first | omega | (simp [*, netR, netV, netW, nOf, g.1] <;> done)
  · have c1 : (b.length : Int) < 14 := by omega
    have c1' : b.length < 14 := by omega
    simp [*, netR, netV, netW, nOf, g.1]

theorem sNet : SoundE Try.prog 8 (entF eNet) := by
  refine canonV_sound fun args h v h' hg => ?_
  unfold eNet at hg
  split at hg
  · rename_i b
    simp only [Option.some.injEq, Prod.mk.injEq, Bool.and_eq_true, decide_eq_true_eq] at hg
    obtain ⟨⟨hb, hn⟩, rfl, rfl⟩ := hg
    refine ⟨rfl, rfl, [slB 0 (bOf h b)], [farB (bOf h b)], .cons _ _ _ _ _ _ _ (bOk_canon hb 0) (.nil _), ?_⟩
    rw [← bOk_len hb] at hn
    exact Runs.val0 (find_cons sGet16 (find_nil _)) (F := 100) (n := 4) (netTree _ hn _)
  · simp at hg

theorem sRNet : SoundE Try.prog 9 (entF eRNet) := by
  refine canonV_sound fun args h v h' hg => ?_
  unfold eRNet at hg
  split at hg
  · rename_i b
    simp only [Option.some.injEq, Prod.mk.injEq, Bool.and_eq_true, decide_eq_true_eq] at hg
    obtain ⟨⟨hb, hn⟩, rfl, rfl⟩ := hg
    refine ⟨rfl, rfl, [slB 0 (bOf h b)], [farB (bOf h b)], .cons _ _ _ _ _ _ _ (bOk_canon hb 0) (.nil _), ?_⟩
    rw [← bOk_len hb] at hn
    exact Runs.val0 (find_cons sBe16 (find_nil _)) (F := 100) (n := 4) (rnetTree _ hn _)
  · simp at hg

end Go.Proofs.Ytgnhnaambioinaa.L
