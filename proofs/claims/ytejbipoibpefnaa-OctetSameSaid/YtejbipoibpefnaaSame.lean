/- octet's Same. -/
import Derived.Test.YtejbipoibpefnaaClone
set_option autoImplicit false
set_option maxRecDepth 100000
set_option linter.unusedVariables false
set_option linter.unusedSimpArgs false
namespace Go.Proofs.Ytejbipoibpefnaa.L
open Go Go.Abs

/-- How many bytes are the same. -/
def sameR : List UInt8 → List UInt8 → Nat
  | x :: a, y :: b => if x = y then sameR a b + 1 else 0
  | _, _ => 0

def mSame : List Bool := [true, true, false, false, true, true] ++ List.replicate 6 false ++ [true, true] ++ List.replicate 14 false
def vSame (a b : List UInt8) (r n i : Int) : List AV := [slB 0 a, slB 1 b, .int .i64 r, .int .i64 n, .int .i64 n, .int .i64 i]

noncomputable def hSameR0 (CALL : CallT) (a b : List UInt8) (r n i : Int) : AHeap := [ABlk.cells (bys a) 1 Md.far none, ABlk.cells (bys b) 1 Md.far none]
theorem nfSameR (CALL : CallT) (a b : List UInt8) (r n i : Int) :
    roundG Try.prog CALL noLS (loopIn (bodyOf Try.prog 24) 0) mSame (vSame a b r n i) [farB a, farB b] =
    (if decide (i < n) = true then
      (if 0 ≤ i ∧ i < (a.length : Int) then
        (if isIntV IntKind.u8 (bys a)[0 + i.toNat * 1]? = true then
          (if 0 ≤ i ∧ i < (b.length : Int) then
            (if isIntV IntKind.u8 (bys b)[0 + i.toNat * 1]? = true then
              (if (intV (bys a)[0 + i.toNat * 1]? != intV (bys b)[0 + i.toNat * 1]?) = true then
                some ((AEx.ret, [AV.sl (some (0, 0)) a.length 0 false, AV.sl (some (1, 0)) b.length 0 false, AV.int IntKind.i64 i, AV.int IntKind.i64 n, AV.int IntKind.i64 n, AV.int IntKind.i64 i], (hSameR0 CALL a b r n i)))
              else some ((AEx.norm, [AV.sl (some (0, 0)) a.length 0 false, AV.sl (some (1, 0)) b.length 0 false, AV.int IntKind.i64 r, AV.int IntKind.i64 n, AV.int IntKind.i64 n, AV.int IntKind.i64 (IntKind.i64.wrap (i + 1))], (hSameR0 CALL a b r n i))))
            else none)
          else none)
        else none)
      else none)
    else some ((AEx.exit 0, [AV.sl (some (0, 0)) a.length 0 false, AV.sl (some (1, 0)) b.length 0 false, AV.int IntKind.i64 r, AV.int IntKind.i64 n, AV.int IntKind.i64 n, AV.int IntKind.i64 i], (hSameR0 CALL a b r n i)))) := by
  kernel_rfl

noncomputable def hSame0 (a b : List UInt8) (e : AEx) (r : Int) (n i : Int) : AHeap := [ABlk.cells (bys a) 1 Md.far none, ABlk.cells (bys b) 1 Md.far none]
theorem nfSame {R : Type} (a b : List UInt8) (e : AEx) (r : Int) (n i : Int) (K : AV → Option R) :
    abody Try.prog (deepC Try.prog [] 100 4) (mixLS [(3, fixL mSame (vSame a b 0 n 0) [farB a, farB b] (.exit 0) (vSame a b 0 n i) [farB a, farB b])] (autoLS Try.prog (deepC Try.prog [] 100 4) 100 4 (bodyOf Try.prog 24))) 24 [slB 0 a, slB 1 b] [farB a, farB b] (fun v _ => K v) =
    (if cdec ([AV.sl (some (0, 0)) a.length 0 false, AV.sl (some (1, 0)) b.length 0 false, AV.int IntKind.i64 0, AV.int IntKind.i64 (if false = true then if (b.length : Int) > (a.length : Int) then (b.length : Int) else (a.length : Int) else if (b.length : Int) < (a.length : Int) then (b.length : Int) else (a.length : Int)), AV.int IntKind.i64 (if false = true then if (b.length : Int) > (a.length : Int) then (b.length : Int) else (a.length : Int) else if (b.length : Int) < (a.length : Int) then (b.length : Int) else (a.length : Int)), AV.int IntKind.i64 0] = [AV.sl (some (0, 0)) a.length 0 false, AV.sl (some (1, 0)) b.length 0 false, AV.int IntKind.i64 0, AV.int IntKind.i64 n, AV.int IntKind.i64 n, AV.int IntKind.i64 0] ∧ (hSame0 a b e r n i) = (hSame0 a b e r n i)) = true then
      K (AV.int IntKind.i64 n)
    else none) := by
  kernel_rfl

noncomputable def hSame20 (a b : List UInt8) (e : AEx) (r : Int) (n i : Int) : AHeap := [ABlk.cells (bys a) 1 Md.far none, ABlk.cells (bys b) 1 Md.far none]
theorem nfSame2 {R : Type} (a b : List UInt8) (e : AEx) (r : Int) (n i : Int) (K : AV → Option R) :
    abody Try.prog (deepC Try.prog [] 100 4) (mixLS [(3, fixL mSame (vSame a b 0 n 0) [farB a, farB b] .ret (vSame a b r n i) [farB a, farB b])] (autoLS Try.prog (deepC Try.prog [] 100 4) 100 4 (bodyOf Try.prog 24))) 24 [slB 0 a, slB 1 b] [farB a, farB b] (fun v _ => K v) =
    (if cdec ([AV.sl (some (0, 0)) a.length 0 false, AV.sl (some (1, 0)) b.length 0 false, AV.int IntKind.i64 0, AV.int IntKind.i64 (if false = true then if (b.length : Int) > (a.length : Int) then (b.length : Int) else (a.length : Int) else if (b.length : Int) < (a.length : Int) then (b.length : Int) else (a.length : Int)), AV.int IntKind.i64 (if false = true then if (b.length : Int) > (a.length : Int) then (b.length : Int) else (a.length : Int) else if (b.length : Int) < (a.length : Int) then (b.length : Int) else (a.length : Int)), AV.int IntKind.i64 0] = [AV.sl (some (0, 0)) a.length 0 false, AV.sl (some (1, 0)) b.length 0 false, AV.int IntKind.i64 0, AV.int IntKind.i64 n, AV.int IntKind.i64 n, AV.int IntKind.i64 0] ∧ (hSame20 a b e r n i) = (hSame20 a b e r n i)) = true then
      K (AV.int IntKind.i64 r)
    else none) := by
  kernel_rfl


theorem sameR_le : ∀ (a b : List UInt8), sameR a b ≤ a.length ∧ sameR a b ≤ b.length
  | x :: a, y :: b => by
    have := sameR_le a b
    simp only [sameR]
    split <;> simp <;> omega
  | [], _ => by simp [sameR]
  | _ :: _, [] => by simp [sameR]
theorem sameR_eq : ∀ (a b : List UInt8) (i : Nat), i < sameR a b → byt a i = byt b i
  | x :: a, y :: b, i, h => by
    simp only [sameR] at h
    split at h
    · rename_i e
      subst e
      cases i with
      | zero => rfl
      | succ i => exact sameR_eq a b i (by omega)
    · omega
  | [], _, i, h => by simp [sameR] at h
  | _ :: _, [], i, h => by simp [sameR] at h
theorem sameR_ne : ∀ (a b : List UInt8), sameR a b < a.length → sameR a b < b.length → byt a (sameR a b) ≠ byt b (sameR a b)
  | x :: a, y :: b, h1, h2 => by
    simp only [sameR] at h1 h2 ⊢
    split
    · rename_i e
      rw [if_pos e] at h1 h2
      exact sameR_ne a b (by simp at h1; omega) (by simp at h2; omega)
    · rename_i e
      intro h
      have h' : ((x.toNat : Int)) = y.toNat := h
      exact e (UInt8.toNat_inj.1 (by omega))
  | [], _, h, _ => by simp [sameR] at h
  | _ :: _, [], _, h => by simp [sameR] at h
theorem sameR_is {a b : List UInt8} {k : Nat} (ha : k ≤ a.length) (hb : k ≤ b.length) (h : ∀ i, i < k → byt a i = byt b i) (hk : k = a.length ∨ k = b.length ∨ byt a k ≠ byt b k) : sameR a b = k := by
  have l := sameR_le a b
  rcases Nat.lt_trichotomy (sameR a b) k with h1 | h1 | h1
  · exact absurd (h _ h1) (sameR_ne a b (by omega) (by omega))
  · exact h1
  · rcases hk with hk | hk | hk
    · omega
    · omega
    · exact absurd (sameR_eq a b k h1) hk

theorem sameLoop {a b : List UInt8} {n : Nat} (hn : n = min a.length b.length) (ha : a.length ≤ 1000000000000) :
    ∃ j, loopG (roundG Try.prog (deepC Try.prog [] 100 4) noLS (loopIn (bodyOf Try.prog 24) 0) mSame) j (vSame a b 0 n 0) [farB a, farB b] =
      some (if sameR a b < n then .ret else .exit 0, vSame a b (if sameR a b < n then sameR a b else 0) n (sameR a b), [farB a, farB b]) := by
  have l := sameR_le a b
  have := loop_up (body := roundG Try.prog (deepC Try.prog [] 100 4) noLS (loopIn (bodyOf Try.prog 24) 0) mSame) (fun i => (vSame a b 0 n (i : Int), [farB a, farB b])) (n := sameR a b)
    (e := if sameR a b < n then .ret else .exit 0) (vs := vSame a b (if sameR a b < n then sameR a b else 0) n (sameR a b)) (h := [farB a, farB b]) (by split <;> simp)
    (fun i hi => by
      have e1 : 0 + (i : Int).toNat * 1 = i := by omega
      have e2 : IntKind.i64.wrap ((i : Int) + 1) = ((i + 1 : Nat) : Int) := by rw [wrapI64 (by omega)]; omega
      have ev : intV ((bys a)[i]?) = byt a i := by rw [bys_get, intV_byte]
      have ew : intV ((bys b)[i]?) = byt b i := by rw [bys_get, intV_byte]
      have he := sameR_eq a b i hi
      simp only [nfSameR]
      rw [e1, e2, ev, ew, he]
      refine (if_pos (by simp; omega)).trans ?_
      refine (if_pos (by omega)).trans ?_
      refine (if_pos (by simp; omega)).trans ?_
      refine (if_pos (by omega)).trans ?_
      refine (if_pos (by simp; omega)).trans ?_
      refine (if_neg (by simp)).trans ?_
      rfl)
    (by
      simp only [nfSameR]
      by_cases h : sameR a b < n
      · have he := sameR_ne a b (by omega) (by omega)
        have e1 : 0 + ((sameR a b : Nat) : Int).toNat * 1 = sameR a b := by omega
        have ev : intV ((bys a)[sameR a b]?) = byt a (sameR a b) := by rw [bys_get, intV_byte]
        have ew : intV ((bys b)[sameR a b]?) = byt b (sameR a b) := by rw [bys_get, intV_byte]
        rw [e1, ev, ew, if_pos h, if_pos h]
        refine (if_pos (by simp; omega)).trans ?_
        refine (if_pos (by omega)).trans ?_
        refine (if_pos (by simp; omega)).trans ?_
        refine (if_pos (by omega)).trans ?_
        refine (if_pos (by simp; omega)).trans ?_
        refine (if_pos (by simpa using he)).trans ?_
        rfl
      · rw [if_neg h, if_neg h]
        refine (if_neg (by simp; omega)).trans ?_
        rfl)
  exact this

def eSame : GEnt := fun args h => match args with
  | [a, b] => some (bOk h a && bOk h b && decide (nOf a ≤ 1000000000000), .int .i64 (sameR (bOf h a) (bOf h b)), h)
  | _ => none

theorem sSame : SoundE Try.prog 24 (entF eSame) := by
  refine canonV_sound fun args h v h' hg => ?_
  unfold eSame at hg
  split at hg
  · rename_i a b
    simp only [Option.some.injEq, Prod.mk.injEq, Bool.and_eq_true, decide_eq_true_eq] at hg
    obtain ⟨⟨⟨ha, hb⟩, hn⟩, rfl, rfl⟩ := hg
    refine ⟨rfl, rfl, [slB 0 (bOf h a), slB 1 (bOf h b)], [farB (bOf h a), farB (bOf h b)], .cons _ _ _ _ _ _ _ (bOk_canon ha 0) (.cons _ _ _ _ _ _ _ (bOk_canon hb 1) (.nil _)), ?_⟩
    rw [← bOk_len ha] at hn
    generalize bOf h a = l at hn
    generalize bOf h b = m
    obtain ⟨n, hmin⟩ : ∃ n : Nat, n = min l.length m.length := ⟨_, rfl⟩
    have hl := sameLoop hmin hn
    have e : (if false = true then if (m.length : Int) > (l.length : Int) then (m.length : Int) else (l.length : Int) else if (m.length : Int) < (l.length : Int) then (m.length : Int) else (l.length : Int)) = (n : Int) := by
      rw [if_neg (by simp)]; split <;> omega
    by_cases h1 : sameR l m < n
    · rw [if_pos h1, if_pos h1] at hl
      refine Runs.val (find_nil _) (F := 100) (n := 4) (only (k := 3) (by kernel_rfl) (fixL_sound (deepC_sound (find_nil _) 100 4) (LS := noLS) (noLoops (by kernel_rfl)) hl)) ?_
      exact (nfSame2 l m .ret _ _ _ _).trans (if_pos (cdec_true.2 ⟨by rw [e], rfl⟩))
    · rw [if_neg h1, if_neg h1] at hl
      have h2 : n = sameR l m := by have := sameR_le l m; omega
      refine Runs.val (find_nil _) (F := 100) (n := 4) (only (k := 3) (by kernel_rfl) (fixL_sound (deepC_sound (find_nil _) 100 4) (LS := noLS) (noLoops (by kernel_rfl)) hl)) ?_
      rw [← h2]
      exact (nfSame l m .ret 0 _ _ _).trans (if_pos (cdec_true.2 ⟨by rw [e], rfl⟩))
  · simp at hg

end Go.Proofs.Ytejbipoibpefnaa.L
