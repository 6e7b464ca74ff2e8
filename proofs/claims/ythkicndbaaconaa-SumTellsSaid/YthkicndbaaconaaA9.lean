/- The reference's Sum. -/
import Derived.Test.YthkicndbaaconaaA8
set_option autoImplicit false
set_option maxRecDepth 100000
namespace Go.Proofs.Ythkicndbaaconaa.L3
open Go.Abs

def m13 : List Bool := [true, false, false, false, false, true, true] ++ List.replicate 38 false
def m13b : List Bool := [false, false, false, false, false, true] ++ List.replicate 39 false
def v13 (b : Option (Nat × Nat)) (n c : Nat) (ex : Bool) (u i : Int) : List AV := [.sl b n c ex, .int .u64 u, .int .i64 i]

theorem nf13r (n c : Nat) (ex : Bool) (u i : Int) (zs : List Int) : roundG Try.prog noCalls noLS (loopIn (bodyOf Try.prog 13) 0) m13 (v13 (some (0, 0)) n c ex u i) (h1c zs) =
    (if decide (i < (n : Int)) = true then
      (if 0 ≤ i ∧ i < (n : Int) then
        (if isIntV .u8 (intsA .u8 zs)[0 + i.toNat * 1]? = true then
          (if decide (IntKind.i64.wrap (i + 1) < (n : Int)) = true then
            (if 0 ≤ IntKind.i64.wrap (i + 1) ∧ IntKind.i64.wrap (i + 1) < (n : Int) then
              (if isIntV .u8 (intsA .u8 zs)[0 + (IntKind.i64.wrap (i + 1)).toNat * 1]? = true then
                some (.norm, v13 (some (0, 0)) n c ex (IntKind.u64.wrap (IntKind.u64.wrap (u + IntKind.u64.wrap (IntKind.u64.wrap (intV (intsA .u8 zs)[0 + i.toNat * 1]?) * 256)) +
                  IntKind.u64.wrap (intV (intsA .u8 zs)[0 + (IntKind.i64.wrap (i + 1)).toNat * 1]?))) (IntKind.i64.wrap (i + 2)), h1c zs)
              else none)
            else none)
          else some (.norm, v13 (some (0, 0)) n c ex (IntKind.u64.wrap (u + IntKind.u64.wrap (IntKind.u64.wrap (intV (intsA .u8 zs)[0 + i.toNat * 1]?) * 256))) (IntKind.i64.wrap (i + 2)), h1c zs))
        else none)
      else none)
    else some (.exit 0, v13 (some (0, 0)) n c ex u i, h1c zs)) := by
  kernel_rfl

theorem nf13n (c : Nat) (ex : Bool) (u i : Int) : roundG Try.prog noCalls noLS (loopIn (bodyOf Try.prog 13) 0) m13 (v13 none 0 c ex u i) (h1c []) =
    if decide (i < 0) = true then none else some (.exit 0, v13 none 0 c ex u i, h1c []) := by
  kernel_rfl

theorem nf13b (u : Int) (hp : AHeap) : roundG Try.prog noCalls noLS (loopIn (bodyOf Try.prog 13) 1) m13b [.int .u64 u] hp =
    if decide (u > 65535) = true then some (.norm, [.int .u64 (IntKind.u64.wrap (u.fdiv 65536 + abits .u64 (· &&& ·) u 65535))], hp) else some (.exit 2, [.int .u64 u], hp) := by
  kernel_rfl

theorem loops13 : loopsOf (bodyOf Try.prog 13) = [loopIn (bodyOf Try.prog 13) 0, loopIn (bodyOf Try.prog 13) 1] := by kernel_rfl
theorem first13 : firstReg (loopIn (bodyOf Try.prog 13) 0) = 3 := by kernel_rfl
theorem first13b : firstReg (loopIn (bodyOf Try.prog 13) 1) = 8 := by kernel_rfl
theorem inner13 : loopsOf (loopIn (bodyOf Try.prog 13) 0) = [] := by kernel_rfl
theorem inner13b : loopsOf (loopIn (bodyOf Try.prog 13) 1) = [] := by kernel_rfl

theorem loop13b (hp : AHeap) : ∀ (k : Nat) (n : Int), n.toNat = k → 0 ≤ n → n < 9223372036854775808 → ∃ j, loopG (roundG Try.prog noCalls noLS (loopIn (bodyOf Try.prog 13) 1) m13b) j [.int .u64 n] hp = some (.exit 2, [.int .u64 (foldI n)], hp) := by
  intro k
  induction k using Nat.strongRecOn with
  | _ k ih =>
    intro n hk h0 h1
    by_cases hb : n < 65536
    · refine ⟨1, ?_⟩
      simp only [loopG, nf13b, decide_eq_true_eq, if_neg (show ¬ n > 65535 by omega), Option.bind_some]
      rw [foldI_small ⟨h0, hb⟩]
    · have e : IntKind.u64.wrap (n.fdiv 65536 + abits .u64 (· &&& ·) n 65535) = n % 65536 + n / 65536 := by
        rw [and16 (by omega), fdivPos, wrapU64 (by omega)]; omega
      obtain ⟨j, hj⟩ := ih (n % 65536 + n / 65536).toNat (by omega) _ rfl (by omega) (by omega)
      refine ⟨j + 1, ?_⟩
      simp only [loopG, nf13b, decide_eq_true_eq, if_pos (show n > 65535 by omega), Option.bind_some, e]
      rw [hj, foldI_step h0]

theorem loop13 {zs : List Int} (hz : ByteL zs) (c : Nat) (ex : Bool) (hn : zs.length ≤ 70368744177664) : ∀ (k i : Nat) (x : Int), zs.length - i = k → i ≤ zs.length + 1 → 0 ≤ x → x + 65535 * ((zs.length : Int) - i) < 9223372036854775808 →
    ∃ j, loopG (roundG Try.prog noCalls noLS (loopIn (bodyOf Try.prog 13) 0) m13) j (v13 (some (0, 0)) zs.length c ex x i) (h1c zs) =
      some (.exit 0, v13 (some (0, 0)) zs.length c ex (x + wsum (zs.drop i)) ((i + 2 * ((zs.length - i + 1) / 2) : Nat) : Int), h1c zs) := by
  intro k
  induction k using Nat.strongRecOn with
  | _ k ih =>
    intro i x hk hi hx hb
    by_cases hlt : i < zs.length
    · have h1 : (i : Int) < (zs.length : Int) := by omega
      have w1 : IntKind.i64.wrap ((i : Int) + 1) = (i : Int) + 1 := wrapI64 (by omega)
      have w2 : IntKind.i64.wrap ((i : Int) + 2) = ((i + 2 : Nat) : Int) := by rw [wrapI64 (by omega)]; omega
      have t1 : 0 + (i : Int).toNat * 1 = i := by omega
      have t2 : 0 + ((i : Int) + 1).toNat * 1 = i + 1 := by omega
      have g1 := hz.get i
      have g2 := hz.get (i + 1)
      have a1 : IntKind.u64.wrap (zs.getD i 0) = zs.getD i 0 := wrapU64 (by omega)
      have a2 : IntKind.u64.wrap (zs.getD i 0 * 256) = zs.getD i 0 * 256 := wrapU64 (by omega)
      have a3 : IntKind.u64.wrap (zs.getD (i + 1) 0) = zs.getD (i + 1) 0 := wrapU64 (by omega)
      have hstep : ∃ w, 0 ≤ w ∧ w ≤ 65535 ∧ wsum (zs.drop i) = w + wsum (zs.drop (i + 2)) ∧
          roundG Try.prog noCalls noLS (loopIn (bodyOf Try.prog 13) 0) m13 (v13 (some (0, 0)) zs.length c ex x i) (h1c zs) = some (.norm, v13 (some (0, 0)) zs.length c ex (x + w) ((i + 2 : Nat) : Int), h1c zs) := by
        by_cases hlt2 : i + 1 < zs.length
        · refine ⟨zs.getD i 0 * 256 + zs.getD (i + 1) 0, by omega, by omega, by rw [wsum_drop hlt], ?_⟩
          rw [nf13r]
          simp only [w1, w2, t1, t2, intV_ints, a1, a2, a3]
          rw [if_pos (by simpa using h1), if_pos ⟨by omega, h1⟩, if_pos (isIntV_ints hlt), if_pos (by simp; omega), if_pos ⟨by omega, by omega⟩, if_pos (isIntV_ints hlt2)]
          rw [wrapU64 (n := x + zs.getD i 0 * 256) (by omega), wrapU64 (by omega), Int.add_assoc]
        · have e0 : zs.getD (i + 1) 0 = 0 := by
            rw [List.getD_eq_getElem?_getD]
            have : zs[i + 1]? = none := by simp; omega
            rw [this]; rfl
          refine ⟨zs.getD i 0 * 256, by omega, by omega, by rw [wsum_drop hlt, e0]; omega, ?_⟩
          rw [nf13r]
          simp only [w1, w2, t1, t2, intV_ints, a1, a2]
          rw [if_pos (by simpa using h1), if_pos ⟨by omega, h1⟩, if_pos (isIntV_ints hlt), if_neg (by simp; omega)]
          rw [wrapU64 (by omega)]
      obtain ⟨w, hw0, hw1, hw2, hr⟩ := hstep
      obtain ⟨j, hj⟩ := ih (zs.length - (i + 2)) (by omega) (i + 2) (x + w) rfl (by omega) (by omega) (by omega)
      refine ⟨j + 1, ?_⟩
      simp only [loopG, hr, Option.bind_some]
      rw [hj, hw2]
      have e1 : i + 2 + 2 * ((zs.length - (i + 2) + 1) / 2) = i + 2 * ((zs.length - i + 1) / 2) := by omega
      rw [e1, Int.add_assoc]
    · refine ⟨1, ?_⟩
      have e0 : zs.drop i = [] := by simp; omega
      simp only [loopG, nf13r]
      rw [if_neg (by simp; omega)]
      simp only [Option.bind_some, e0, wsum]
      have e1 : i + 2 * ((zs.length - i + 1) / 2) = i := by omega
      rw [e1, Int.add_zero]

end Go.Proofs.Ythkicndbaaconaa.L3
