/- Numbers: bits, halves, sums that are folded. -/
import Derived.Test.YtmlenlfhciapfaaAbsC
set_option autoImplicit false
namespace Go.Abs

theorem wrapU16 {n : Int} (h : 0 ≤ n ∧ n < 65536) : IntKind.u16.wrap n = n := by
  simp [IntKind.wrap, IntKind.bits, IntKind.signed]; omega
theorem wrapU64 {n : Int} (h : 0 ≤ n ∧ n < 18446744073709551616) : IntKind.u64.wrap n = n := by
  simp [IntKind.wrap, IntKind.bits, IntKind.signed]; omega
theorem wrapU32 {n : Int} (h : 0 ≤ n ∧ n < 4294967296) : IntKind.u32.wrap n = n := by
  simp [IntKind.wrap, IntKind.bits, IntKind.signed]; omega
theorem wrapU8 {n : Int} (h : 0 ≤ n ∧ n < 256) : IntKind.u8.wrap n = n := by
  simp [IntKind.wrap, IntKind.bits, IntKind.signed]; omega
theorem wrapI64 {n : Int} (h : -9223372036854775808 ≤ n ∧ n < 9223372036854775808) : IntKind.i64.wrap n = n := by
  simp [IntKind.wrap, IntKind.bits, IntKind.signed]; omega
theorem wrapU8' (n : Int) : IntKind.u8.wrap n = n % 256 := by simp [IntKind.wrap, IntKind.bits, IntKind.signed]
theorem wrapU16' (n : Int) : IntKind.u16.wrap n = n % 65536 := by simp [IntKind.wrap, IntKind.bits, IntKind.signed]

theorem ofIntNat (w a : Nat) (ha : a < 2 ^ w) : (BitVec.ofInt w (a : Int)).toNat = a := by
  rw [BitVec.ofInt_natCast, BitVec.toNat_ofNat]; exact Nat.mod_eq_of_lt ha

theorem and16 {n : Int} (h : 0 ≤ n ∧ n < 18446744073709551616) : abits .u64 (· &&& ·) n 65535 = n % 65536 := by
  obtain ⟨a, rfl⟩ := Int.eq_ofNat_of_zero_le h.1
  have h1 : (BitVec.ofInt 64 (65535 : Int)).toNat = 65535 := by decide
  have h2 := ofIntNat 64 a (by omega)
  show IntKind.u64.wrap ((BitVec.ofInt 64 (a : Int) &&& BitVec.ofInt 64 (65535 : Int)).toNat : Int) = _
  rw [BitVec.toNat_and, h2, h1, show (65535 : Nat) = 2 ^ 16 - 1 by rfl, Nat.and_two_pow_sub_one_eq_mod]
  rw [wrapU64 (by omega)]
  omega

theorem xor16 {n : Int} (h : 0 ≤ n ∧ n < 65536) : abits .u16 (· ^^^ ·) 65535 n = 65535 - n := by
  obtain ⟨a, rfl⟩ := Int.eq_ofNat_of_zero_le h.1
  show IntKind.u16.wrap ((BitVec.ofInt 16 (65535 : Int) ^^^ BitVec.ofInt 16 (a : Int)).toNat : Int) = _
  have h1 : BitVec.ofInt 16 (65535 : Int) = BitVec.allOnes 16 := by decide
  rw [h1, BitVec.allOnes_xor, BitVec.toNat_not, ofIntNat 16 a (by omega)]
  rw [wrapU16 (by omega)]
  omega

/-- A sum, folded to sixteen bits. -/
def foldI (n : Int) : Int := if n = 0 then 0 else (n - 1) % 65535 + 1

theorem foldI_step {n : Int} (h : 0 ≤ n) : foldI (n % 65536 + n / 65536) = foldI n := by
  unfold foldI
  by_cases h0 : n = 0
  · subst h0; rfl
  · have : n % 65536 + n / 65536 ≠ 0 := by omega
    rw [if_neg h0, if_neg this]; omega

theorem foldI_small {n : Int} (h : 0 ≤ n ∧ n < 65536) : foldI n = n := by
  unfold foldI
  split
  · omega
  · omega

theorem foldI_range (n : Int) : 0 ≤ foldI n ∧ foldI n < 65536 := by
  unfold foldI
  split
  · omega
  · omega

theorem fdivPos (n : Int) : n.fdiv 65536 = n / 65536 := by rw [Int.fdiv_eq_ediv_of_nonneg _ (by omega)]

end Go.Abs
