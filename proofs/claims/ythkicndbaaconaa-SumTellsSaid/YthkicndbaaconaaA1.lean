/- chksum's fold; a checksum told anew. -/
import Derived.Test.YthkicndbaaconaaProg
import Derived.Test.YthkicndbaaconaaNum
set_option autoImplicit false
set_option maxRecDepth 100000
namespace Go.Proofs.Ythkicndbaaconaa.L3
open Go.Abs

def m21 : List Bool := [true, false, false, false, false, false, false, false, false, false, false, false, false]

theorem nf21 (CALL : CallT) (LS : LoopT) (n : Int) (h : AHeap) : roundG Try.prog CALL LS (loopIn (bodyOf Try.prog 21) 0) m21 [.int .u64 n] h =
    if decide (n.fdiv 65536 > 0) = true then some (.norm, [.int .u64 (IntKind.u64.wrap (abits .u64 (· &&& ·) n 65535 + n.fdiv 65536))], h) else some (.exit 0, [.int .u64 n], h) := by
  kernel_rfl

theorem loops21 : loopsOf (bodyOf Try.prog 21) = [loopIn (bodyOf Try.prog 21) 0] := by kernel_rfl
theorem first21 : firstReg (loopIn (bodyOf Try.prog 21) 0) = 1 := by kernel_rfl
theorem inner21 : loopsOf (loopIn (bodyOf Try.prog 21) 0) = [] := by kernel_rfl

def g21 : GLoop := fun vs h => match vs with
  | [.int .u64 n] => some (decide (0 ≤ n ∧ n < 9223372036854775808), .exit 0, [.int .u64 (foldI n)], h)
  | _ => none

theorem loop21 (h : AHeap) : ∀ (k : Nat) (n : Int), n.toNat = k → 0 ≤ n → n < 9223372036854775808 → ∃ j, loopG (roundG Try.prog noCalls noLS (loopIn (bodyOf Try.prog 21) 0) m21) j [.int .u64 n] h = some (.exit 0, [.int .u64 (foldI n)], h) := by
  intro k
  induction k using Nat.strongRecOn with
  | _ k ih =>
    intro n hk h0 h1
    by_cases hb : n < 65536
    · refine ⟨1, ?_⟩
      have hd : ¬ (n.fdiv 65536 > 0) := by rw [fdivPos]; omega
      simp only [loopG, nf21, decide_eq_true_eq, if_neg hd, Option.bind_some]
      rw [foldI_small ⟨h0, hb⟩]
    · have hd : n.fdiv 65536 > 0 := by rw [fdivPos]; omega
      have e : IntKind.u64.wrap (abits .u64 (· &&& ·) n 65535 + n.fdiv 65536) = n % 65536 + n / 65536 := by
        rw [and16 (by omega), fdivPos, wrapU64 (by omega)]
      obtain ⟨j, hj⟩ := ih (n % 65536 + n / 65536).toNat (by omega) _ rfl (by omega) (by omega)
      refine ⟨j + 1, ?_⟩
      simp only [loopG, nf21, decide_eq_true_eq, if_pos hd, Option.bind_some, e]
      rw [hj, foldI_step h0]

def ls21 : LoopT := lsOf [(1, loopF m21 g21)]

theorem ok21 : SoundE Try.prog 21 (bodyE Try.prog noCalls ls21 21) := by
  refine body_sound noCalls_sound (loopsOk1 loops21 (by rw [first21]; rfl) ?_)
  refine loopF_sound noCalls_sound (LS := noLS) (noLoops inner21) fun vs h e vs' h' hg => ?_
  unfold g21 at hg
  split at hg
  · rename_i n
    simp only [Option.some.injEq, Prod.mk.injEq, decide_eq_true_eq] at hg
    obtain ⟨⟨h0, h1⟩, rfl, rfl, rfl⟩ := hg
    exact loop21 _ _ n rfl h0 h1
  · simp at hg

theorem nfb21 {R : Type} (CALL : CallT) (n : Int) (h : AHeap) (K : AV → AHeap → Option R) : abody Try.prog CALL ls21 21 [.int .u64 n] h K =
    if decide (0 ≤ n ∧ n < 9223372036854775808) = true then K (.int .u16 (IntKind.u16.wrap (foldI n))) h else none := by
  kernel_rfl

/-- fold. -/
def e21 : GEnt := fun args h => match args with
  | [.int .u64 n] => some (decide (0 ≤ n ∧ n < 9223372036854775808), .int .u16 (foldI n), h)
  | _ => none

theorem s21 : SoundE Try.prog 21 (entF e21) := by
  refine entF_sound ok21 fun args h v h' hg => ?_
  unfold e21 at hg
  split at hg
  · rename_i n
    simp only [Option.some.injEq, Prod.mk.injEq, decide_eq_true_eq] at hg
    obtain ⟨hn, rfl, rfl⟩ := hg
    rw [bodyE_get, nfb21, if_pos (by simpa using hn), wrapU16 (foldI_range n)]
  · simp at hg

/-! ### Update -/

noncomputable def c1 : CallT := callOf Try.prog noCalls [(21, entF e21)]
theorem c1ok : SoundC Try.prog c1 := callOf_sound noCalls_sound (find_cons s21 (find_nil _))

theorem loops10 : loopsOf (bodyOf Try.prog 10) = [] := by kernel_rfl

theorem nf10 {R : Type} (o f t : Int) (h : AHeap) (K : AV → AHeap → Option R) : abody Try.prog c1 noLS 10 [.int .u16 o, .int .u16 f, .int .u16 t] h K =
    (let x := IntKind.u64.wrap (IntKind.u64.wrap (IntKind.u64.wrap (abits .u16 (· ^^^ ·) 65535 o) + IntKind.u64.wrap (abits .u16 (· ^^^ ·) 65535 f)) + IntKind.u64.wrap t)
    if decide (0 ≤ x ∧ x < 9223372036854775808) = true then K (.int .u16 (abits .u16 (· ^^^ ·) 65535 (foldI x))) h else none) := by
  kernel_rfl

/-- A checksum with a word of it another one. -/
def updI (o f t : Int) : Int := 65535 - foldI ((65535 - o) + (65535 - f) + t)

def w16 (n : Int) : Prop := 0 ≤ n ∧ n < 65536
instance (n : Int) : Decidable (w16 n) := by unfold w16; exact inferInstance

def e10 : GEnt := fun args h => match args with
  | [.int .u16 o, .int .u16 f, .int .u16 t] => some (decide (w16 o ∧ w16 f ∧ w16 t), .int .u16 (updI o f t), h)
  | _ => none

theorem s10 : SoundE Try.prog 10 (entF e10) := by
  refine entF_sound (body_sound c1ok (loopsOk0 (LS := noLS) loops10)) fun args h v h' hg => ?_
  unfold e10 at hg
  split at hg
  · rename_i o f t
    simp only [Option.some.injEq, Prod.mk.injEq, decide_eq_true_eq] at hg
    obtain ⟨⟨ho, hf, ht⟩, rfl, rfl⟩ := hg
    unfold w16 at ho hf ht
    rw [bodyE_get, nf10]
    have e : IntKind.u64.wrap (IntKind.u64.wrap (IntKind.u64.wrap (abits .u16 (· ^^^ ·) 65535 o) + IntKind.u64.wrap (abits .u16 (· ^^^ ·) 65535 f)) + IntKind.u64.wrap t) = (65535 - o) + (65535 - f) + t := by
      rw [xor16 ho, xor16 hf, wrapU64 (n := 65535 - o) (by omega), wrapU64 (n := 65535 - f) (by omega), wrapU64 (n := t) (by omega), wrapU64 (n := 65535 - o + (65535 - f)) (by omega), wrapU64 (by omega)]
    simp only [e]
    rw [if_pos (by simp; omega), xor16 (foldI_range _)]
    rfl
  · simp at hg

end Go.Proofs.Ythkicndbaaconaa.L3
