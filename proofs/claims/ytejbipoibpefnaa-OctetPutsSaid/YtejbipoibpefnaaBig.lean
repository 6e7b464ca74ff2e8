/- law1's big: a number's bytes, the high one first. -/
import Derived.Test.YtejbipoibpefnaaClone
import Derived.Test.YtejbipoibpefnaaPutKit
set_option autoImplicit false
set_option maxRecDepth 100000
set_option linter.unusedVariables false
set_option linter.unusedSimpArgs false
namespace Go.Proofs.Ytejbipoibpefnaa.L
open Go Go.Abs

noncomputable def hBig10 (v : Int) : AHeap := [ABlk.cells [AV.int IntKind.u8 (IntKind.u8.wrap (v.fdiv 1))] 1 Md.own none, ABlk.cells [AV.int IntKind.u8 (IntKind.u8.wrap (v.fdiv 1))] 1 Md.own none]
theorem nfBig1 {R : Type} (v : Int) (K : AV → AHeap → Option R) :
    abody Try.prog (deepC Try.prog [] 100 4) (mixLS [] (autoLS Try.prog (deepC Try.prog [] 100 4) 100 4 (bodyOf Try.prog 13))) 13 [.int .u64 v, .int .i64 1] [] K =
    K (AV.sl (some (1, 0)) 1 0 false) ((hBig10 v)) := by
  kernel_rfl

noncomputable def hBig20 (v : Int) : AHeap := [ABlk.cells [AV.int IntKind.u8 (IntKind.u8.wrap (v.fdiv 256))] 1 Md.own none, ABlk.cells [AV.int IntKind.u8 (IntKind.u8.wrap (v.fdiv 256))] 1 Md.ro none, ABlk.cells [AV.int IntKind.u8 (IntKind.u8.wrap (v.fdiv 1))] 1 Md.own none, ABlk.cells [AV.int IntKind.u8 (IntKind.u8.wrap (v.fdiv 256)), AV.int IntKind.u8 (IntKind.u8.wrap (v.fdiv 1))] 1 Md.own (some 1)]
theorem nfBig2 {R : Type} (v : Int) (K : AV → AHeap → Option R) :
    abody Try.prog (deepC Try.prog [] 100 4) (mixLS [] (autoLS Try.prog (deepC Try.prog [] 100 4) 100 4 (bodyOf Try.prog 13))) 13 [.int .u64 v, .int .i64 2] [] K =
    K (AV.sl (some (3, 0)) 2 0 false) ((hBig20 v)) := by
  kernel_rfl

noncomputable def hBig40 (v : Int) : AHeap := [ABlk.cells [AV.int IntKind.u8 (IntKind.u8.wrap (v.fdiv 16777216))] 1 Md.own none, ABlk.dead, ABlk.cells [AV.int IntKind.u8 (IntKind.u8.wrap (v.fdiv 65536))] 1 Md.own none, ABlk.dead, ABlk.cells [AV.int IntKind.u8 (IntKind.u8.wrap (v.fdiv 256))] 1 Md.own none, ABlk.cells [AV.int IntKind.u8 (IntKind.u8.wrap (v.fdiv 16777216)), AV.int IntKind.u8 (IntKind.u8.wrap (v.fdiv 65536)), AV.int IntKind.u8 (IntKind.u8.wrap (v.fdiv 256))] 1 Md.ro none, ABlk.cells [AV.int IntKind.u8 (IntKind.u8.wrap (v.fdiv 1))] 1 Md.own none, ABlk.cells [AV.int IntKind.u8 (IntKind.u8.wrap (v.fdiv 16777216)), AV.int IntKind.u8 (IntKind.u8.wrap (v.fdiv 65536)), AV.int IntKind.u8 (IntKind.u8.wrap (v.fdiv 256)), AV.int IntKind.u8 (IntKind.u8.wrap (v.fdiv 1))] 1 Md.own (some 5)]
theorem nfBig4 {R : Type} (v : Int) (K : AV → AHeap → Option R) :
    abody Try.prog (deepC Try.prog [] 100 4) (mixLS [] (autoLS Try.prog (deepC Try.prog [] 100 4) 100 4 (bodyOf Try.prog 13))) 13 [.int .u64 v, .int .i64 4] [] K =
    K (AV.sl (some (7, 0)) 4 0 false) ((hBig40 v)) := by
  kernel_rfl

noncomputable def hBig80 (v : Int) : AHeap := [ABlk.cells [AV.int IntKind.u8 (IntKind.u8.wrap (v.fdiv 72057594037927936))] 1 Md.own none, ABlk.dead, ABlk.cells [AV.int IntKind.u8 (IntKind.u8.wrap (v.fdiv 281474976710656))] 1 Md.own none, ABlk.dead, ABlk.cells [AV.int IntKind.u8 (IntKind.u8.wrap (v.fdiv 1099511627776))] 1 Md.own none, ABlk.dead, ABlk.cells [AV.int IntKind.u8 (IntKind.u8.wrap (v.fdiv 4294967296))] 1 Md.own none, ABlk.dead, ABlk.cells [AV.int IntKind.u8 (IntKind.u8.wrap (v.fdiv 16777216))] 1 Md.own none, ABlk.dead, ABlk.cells [AV.int IntKind.u8 (IntKind.u8.wrap (v.fdiv 65536))] 1 Md.own none, ABlk.dead, ABlk.cells [AV.int IntKind.u8 (IntKind.u8.wrap (v.fdiv 256))] 1 Md.own none, ABlk.cells [AV.int IntKind.u8 (IntKind.u8.wrap (v.fdiv 72057594037927936)), AV.int IntKind.u8 (IntKind.u8.wrap (v.fdiv 281474976710656)), AV.int IntKind.u8 (IntKind.u8.wrap (v.fdiv 1099511627776)), AV.int IntKind.u8 (IntKind.u8.wrap (v.fdiv 4294967296)), AV.int IntKind.u8 (IntKind.u8.wrap (v.fdiv 16777216)), AV.int IntKind.u8 (IntKind.u8.wrap (v.fdiv 65536)), AV.int IntKind.u8 (IntKind.u8.wrap (v.fdiv 256))] 1 Md.ro none, ABlk.cells [AV.int IntKind.u8 (IntKind.u8.wrap (v.fdiv 1))] 1 Md.own none, ABlk.cells [AV.int IntKind.u8 (IntKind.u8.wrap (v.fdiv 72057594037927936)), AV.int IntKind.u8 (IntKind.u8.wrap (v.fdiv 281474976710656)), AV.int IntKind.u8 (IntKind.u8.wrap (v.fdiv 1099511627776)), AV.int IntKind.u8 (IntKind.u8.wrap (v.fdiv 4294967296)), AV.int IntKind.u8 (IntKind.u8.wrap (v.fdiv 16777216)), AV.int IntKind.u8 (IntKind.u8.wrap (v.fdiv 65536)), AV.int IntKind.u8 (IntKind.u8.wrap (v.fdiv 256)), AV.int IntKind.u8 (IntKind.u8.wrap (v.fdiv 1))] 1 Md.own (some 13)]
theorem nfBig8 {R : Type} (v : Int) (K : AV → AHeap → Option R) :
    abody Try.prog (deepC Try.prog [] 100 4) (mixLS [] (autoLS Try.prog (deepC Try.prog [] 100 4) 100 4 (bodyOf Try.prog 13))) 13 [.int .u64 v, .int .i64 8] [] K =
    K (AV.sl (some (15, 0)) 8 0 false) ((hBig80 v)) := by
  kernel_rfl


theorem beN_cons (a : UInt8) (l : List UInt8) : beN (a :: l) = (a.toNat : Int) * 256 ^ l.length + beN l := by
  suffices h : ∀ k, ∀ l : List UInt8, l.length = k → beN (a :: l) = (a.toNat : Int) * 256 ^ k + beN l from h _ l rfl
  intro k
  induction k with
  | zero => intro l hl; have : l = [] := List.eq_nil_of_length_eq_zero hl; subst this; simp [beN]
  | succ k ih =>
    intro l hl
    obtain ⟨m, b, rfl⟩ : ∃ m b, l = m ++ [b] := ⟨l.dropLast, l.getLast (by rintro rfl; simp at hl), (List.dropLast_concat_getLast _).symm⟩
    rw [← List.cons_append, beN_snoc, beN_snoc, ih m (by simpa using hl), Int.pow_succ, Int.add_mul, Int.mul_assoc]
    omega

theorem u8i_cast {n : Int} {m : Int} (h : n % 256 = m % 256) : u8i n = u8i m := by unfold u8i; rw [h]

theorem bigR_mod {v a : Int} : ∀ n m, n ≤ m → bigR (a * 256 ^ m + v) n = bigR v n
  | 0, _, _ => rfl
  | n + 1, m, h => by
    simp only [bigR]
    rw [bigR_mod n m (by omega)]
    congr 1
    obtain ⟨d, rfl⟩ : ∃ d, m = n + 1 + d := ⟨m - (n + 1), by omega⟩
    have hp : (0 : Int) < 256 ^ n := Int.pow_pos (by omega)
    have e : a * 256 ^ (n + 1 + d) + v = v + (a * 256 ^ d * 256) * 256 ^ n := by
      rw [show n + 1 + d = d + 1 + n by omega, Int.pow_add, Int.pow_succ, Int.add_comm]
      congr 1
      simp only [Int.mul_assoc]
    apply u8i_cast
    rw [e, Int.fdiv_eq_ediv_of_nonneg _ (by omega), Int.fdiv_eq_ediv_of_nonneg _ (by omega), Int.add_mul_ediv_right _ _ (by omega)]
    omega

theorem big_beN : ∀ l : List UInt8, bigR (beN l) l.length = l
  | [] => rfl
  | a :: l => by
    simp only [List.length_cons, bigR]
    rw [beN_cons, bigR_mod _ _ (Nat.le_refl _), big_beN l]
    congr 1
    have hp : (0 : Int) < 256 ^ l.length := Int.pow_pos (by omega)
    have hr := beN_range l
    rw [Int.fdiv_eq_ediv_of_nonneg _ (by omega), Int.add_comm, Int.add_mul_ediv_right _ _ (by omega), Int.ediv_eq_zero_of_lt hr.1 hr.2]
    simp
theorem big_numAt {l : List UInt8} {p n : Nat} (h : ((l.drop p).take n).length = n) : bigR (numAt l p n) n = (l.drop p).take n := by
  unfold numAt
  have := big_beN ((l.drop p).take n)
  rw [h] at this; exact this

def eBig : GEnt := fun args h => match args with
  | [.int .u64 v, .int .i64 n] => some (decide (n = 1 ∨ n = 2 ∨ n = 4 ∨ n = 8), slB h.length (bigR v n.toNat), h ++ [ownB (bigR v n.toNat)])
  | _ => none

theorem sBig : SoundE Try.prog 13 (entF eBig) := by
  refine canonR_sound fun args h v h' hg => ?_
  unfold eBig at hg
  split at hg
  · rename_i x n
    simp only [Option.some.injEq, Prod.mk.injEq, decide_eq_true_eq] at hg
    obtain ⟨hn, rfl, rfl⟩ := hg
    refine ⟨[.int .u64 x, .int .i64 n], [], .cons _ _ _ _ _ _ _ (.flat _ _ rfl) (.cons _ _ _ _ _ _ _ (.flat _ _ rfl) (.nil _)), ?_⟩
    rcases hn with rfl | rfl | rfl | rfl
    · refine ⟨_, _, Runs.of0 (find_nil _) (F := 100) (n := 4) (by rw [nfBig1]), [some 1], [ownB (bigR x 1)], rfl, ?_, ksOk1 _⟩
      exact denB (by simp) rfl (by simp [bys, bigR, wrapU8_byte]) rfl
    · refine ⟨_, _, Runs.of0 (find_nil _) (F := 100) (n := 4) (by rw [nfBig2]), [some 3], [ownB (bigR x 2)], rfl, ?_, ksOk1 _⟩
      exact denB (by simp) rfl (by simp [bys, bigR, wrapU8_byte]) rfl
    · refine ⟨_, _, Runs.of0 (find_nil _) (F := 100) (n := 4) (by rw [nfBig4]), [some 7], [ownB (bigR x 4)], rfl, ?_, ksOk1 _⟩
      exact denB (by simp) rfl (by simp [bys, bigR, wrapU8_byte]) rfl
    · refine ⟨_, _, Runs.of0 (find_nil _) (F := 100) (n := 4) (by rw [nfBig8]), [some 15], [ownB (bigR x 8)], rfl, ?_, ksOk1 _⟩
      exact denB (by simp) rfl (by simp [bys, bigR, wrapU8_byte]) rfl
  · simp at hg

end Go.Proofs.Ytejbipoibpefnaa.L
