/- The reference's Sum, told; its Update. -/
import Derived.Test.YthkicndbaaconaaA9
set_option autoImplicit false
set_option maxRecDepth 100000
namespace Go.Proofs.Ythkicndbaaconaa.L3
open Go.Abs

noncomputable def g13 (zs : List Int) (b : Option (Nat × Nat)) (n c : Nat) (ex : Bool) (s : Int) : GLoop := fun vs h =>
  some (cdec (In12 zs b n s ∧ vs = v13 b n c ex (IntKind.u64.wrap s) 0 ∧ h = h1c zs), .exit 0, v13 b n c ex (IntKind.u64.wrap s + wsum zs) ((2 * ((zs.length + 1) / 2) : Nat) : Int), h1c zs)
def g13b : GLoop := fun vs h => match vs with
  | [.int .u64 n] => some (decide (0 ≤ n ∧ n < 9223372036854775808), .exit 2, [.int .u64 (foldI n)], h)
  | _ => none

noncomputable def ls13 (zs : List Int) (b : Option (Nat × Nat)) (n c : Nat) (ex : Bool) (s : Int) : LoopT := lsOf [(3, loopF m13 (g13 zs b n c ex s)), (8, loopF m13b g13b)]

theorem ok13 (zs : List Int) (b : Option (Nat × Nat)) (n c : Nat) (ex : Bool) (s : Int) : SoundE Try.prog 13 (bodyE Try.prog noCalls (ls13 zs b n c ex s) 13) := by
  refine body_sound noCalls_sound (loopsOk2 loops13 (by rw [first13]; rfl) ?_ (by rw [first13b]; rfl) ?_)
  · refine loopF_sound noCalls_sound (LS := noLS) (noLoops inner13) fun vs h e vs' h' hg => ?_
    unfold g13 at hg
    simp only [Option.some.injEq, Prod.mk.injEq] at hg
    obtain ⟨hc, rfl, rfl, rfl⟩ := hg
    rw [cdec_true] at hc
    obtain ⟨I, rfl, rfl⟩ := hc
    obtain ⟨hbytes, rfl, hsmall, hat, hs0, hs1⟩ := I
    have hw : IntKind.u64.wrap s = s := wrapU64 (by omega)
    rw [hw]
    rcases hat with rfl | ⟨rfl, rfl⟩
    · have := loop13 hbytes c ex hsmall _ 0 s rfl (by omega) hs0 (by omega)
      simpa using this
    · refine ⟨1, ?_⟩
      simp only [loopG, List.length_nil, nf13n]
      rw [if_neg (by simp)]
      simp [wsum]
  · refine loopF_sound noCalls_sound (LS := noLS) (noLoops inner13b) fun vs h e vs' h' hg => ?_
    unfold g13b at hg
    split at hg
    · rename_i n
      simp only [Option.some.injEq, Prod.mk.injEq, decide_eq_true_eq] at hg
      obtain ⟨⟨h0, h1⟩, rfl, rfl, rfl⟩ := hg
      exact loop13b _ _ n rfl h0 h1
    · simp at hg

theorem nf13 {R : Type} (zs : List Int) (b : Option (Nat × Nat)) (n c : Nat) (ex : Bool) (s : Int) (K : AV → Option R) : abody Try.prog noCalls (ls13 zs b n c ex s) 13 [.sl b n c ex, .int .u32 s] (h1c zs) (fun v _ => K v) =
    if cdec (In12 zs b n s ∧ v13 b n c ex (IntKind.u64.wrap s) 0 = v13 b n c ex (IntKind.u64.wrap s) 0 ∧ h1c zs = h1c zs) = true then
      (if decide (0 ≤ IntKind.u64.wrap s + wsum zs ∧ IntKind.u64.wrap s + wsum zs < 9223372036854775808) = true then K (.int .i64 (IntKind.i64.wrap (foldI (IntKind.u64.wrap s + wsum zs)))) else none)
    else none := by
  kernel_rfl

/-- The reference's Sum. -/
noncomputable def e13 : GEnt := fun args h => match args with
  | [.sl b n _ _, .int .u32 s] => some (cdec (goodB h b n ∧ n ≤ 70368744177664 ∧ 0 ≤ s ∧ s < 4294967296), .int .i64 (foldI (s + wsum (rowI h b n))), h)
  | _ => none

theorem s13 : SoundE Try.prog 13 (entF e13) := by
  refine frameF_sound fun args h v h' hg => ?_
  unfold e13 at hg
  split at hg
  · rename_i b n c ex s
    simp only [Option.some.injEq, Prod.mk.injEq] at hg
    obtain ⟨hc, rfl, rfl⟩ := hg
    rw [cdec_true] at hc
    obtain ⟨hgood, hn, hs0, hs1⟩ := hc
    have hrow := hgood.row
    generalize rowI h b n = zs at hrow
    obtain ⟨hlen, hbytes, _⟩ := id hrow
    have hI : In12 zs (at1 b 0) n s := ⟨hbytes, hlen.symm, by omega, by
      cases b with
      | none => exact .inr ⟨rfl, List.eq_nil_of_length_eq_zero (by rw [hlen]; exact hgood.2 rfl)⟩
      | some q => exact .inl rfl, hs0, hs1⟩
    have hw : IntKind.u64.wrap s = s := wrapU64 (by omega)
    have hr := wsum_range hbytes
    have hval : abody Try.prog noCalls (ls13 zs (at1 b 0) n c ex s) 13 [.sl (at1 b 0) n c ex, .int .u32 s] (h1c zs) (fun v _ => some v) = some (.int .i64 (foldI (s + wsum zs))) := by
      have hf := foldI_range (s + wsum zs)
      rw [nf13, hw, if_pos (cdec_true.2 ⟨hI, rfl, rfl⟩), if_pos (by simp; omega), wrapI64 (by omega)]
    obtain ⟨h1, hget⟩ := get_of_val hval
    refine ⟨_, ok13 zs (at1 b 0) n c ex s, base1 b, [.sl (at1 b 0) n c ex, .int .u32 s], h1c zs, .int .i64 (foldI (s + wsum zs)), h1, [], [], hget, less1 hrow hgood.2, ?_, rfl, by simp, by simp, fun j bl hj => by simp at hj, rfl⟩
    cases b with
    | none => rfl
    | some q => obtain ⟨i, o⟩ := q; simp [at1, AV.rens, AV.ren, given, base1]
  · simp at hg

/-! ### Update -/

def m18 : List Bool := List.replicate 7 false ++ [true] ++ List.replicate 16 false
theorem nf18r (u : Int) (hp : AHeap) : roundG Try.prog noCalls noLS (loopIn (bodyOf Try.prog 18) 0) m18 [.int .i64 u] hp =
    if decide (u > 65535) = true then some (.norm, [.int .i64 (IntKind.i64.wrap (u.fdiv 65536 + abits .i64 (· &&& ·) u 65535))], hp) else some (.exit 0, [.int .i64 u], hp) := by
  kernel_rfl
theorem loops18 : loopsOf (bodyOf Try.prog 18) = [loopIn (bodyOf Try.prog 18) 0] := by kernel_rfl
theorem first18 : firstReg (loopIn (bodyOf Try.prog 18) 0) = 2 := by kernel_rfl
theorem inner18 : loopsOf (loopIn (bodyOf Try.prog 18) 0) = [] := by kernel_rfl

theorem and16i {n : Int} (h : 0 ≤ n ∧ n < 9223372036854775808) : abits .i64 (· &&& ·) n 65535 = n % 65536 := by
  obtain ⟨a, rfl⟩ := Int.eq_ofNat_of_zero_le h.1
  have h1 : (BitVec.ofInt 64 (65535 : Int)).toNat = 65535 := by decide
  have h2 := ofIntNat 64 a (by omega)
  show IntKind.i64.wrap ((BitVec.ofInt 64 (a : Int) &&& BitVec.ofInt 64 (65535 : Int)).toNat : Int) = _
  rw [BitVec.toNat_and, h2, h1, show (65535 : Nat) = 2 ^ 16 - 1 by rfl, Nat.and_two_pow_sub_one_eq_mod]
  rw [wrapI64 (by omega)]
  omega

theorem loop18 (hp : AHeap) : ∀ (k : Nat) (n : Int), n.toNat = k → 0 ≤ n → n < 4611686018427387904 → ∃ j, loopG (roundG Try.prog noCalls noLS (loopIn (bodyOf Try.prog 18) 0) m18) j [.int .i64 n] hp = some (.exit 0, [.int .i64 (foldI n)], hp) := by
  intro k
  induction k using Nat.strongRecOn with
  | _ k ih =>
    intro n hk h0 h1
    by_cases hb : n < 65536
    · refine ⟨1, ?_⟩
      simp only [loopG, nf18r, decide_eq_true_eq, if_neg (show ¬ n > 65535 by omega), Option.bind_some]
      rw [foldI_small ⟨h0, hb⟩]
    · have e : IntKind.i64.wrap (n.fdiv 65536 + abits .i64 (· &&& ·) n 65535) = n % 65536 + n / 65536 := by
        rw [and16i (by omega), fdivPos, wrapI64 (by omega)]; omega
      obtain ⟨j, hj⟩ := ih (n % 65536 + n / 65536).toNat (by omega) _ rfl (by omega) (by omega)
      refine ⟨j + 1, ?_⟩
      simp only [loopG, nf18r, decide_eq_true_eq, if_pos (show n > 65535 by omega), Option.bind_some, e]
      rw [hj, foldI_step h0]

def g18 : GLoop := fun vs h => match vs with
  | [.int .i64 n] => some (decide (0 ≤ n ∧ n < 4611686018427387904), .exit 0, [.int .i64 (foldI n)], h)
  | _ => none
def ls18 : LoopT := lsOf [(2, loopF m18 g18)]

theorem ok18 : SoundE Try.prog 18 (bodyE Try.prog noCalls ls18 18) := by
  refine body_sound noCalls_sound (loopsOk1 loops18 (by rw [first18]; rfl) ?_)
  refine loopF_sound noCalls_sound (LS := noLS) (noLoops inner18) fun vs h e vs' h' hg => ?_
  unfold g18 at hg
  split at hg
  · rename_i n
    simp only [Option.some.injEq, Prod.mk.injEq, decide_eq_true_eq] at hg
    obtain ⟨⟨h0, h1⟩, rfl, rfl, rfl⟩ := hg
    exact loop18 _ _ n rfl h0 h1
  · simp at hg

theorem nf18 {R : Type} (o f t : Int) (hp : AHeap) (K : AV → AHeap → Option R) : abody Try.prog noCalls ls18 18 [.int .i64 o, .int .i64 f, .int .i64 t] hp K =
    (let x := IntKind.i64.wrap (IntKind.i64.wrap (IntKind.i64.wrap (65535 - o) + IntKind.i64.wrap (65535 - f)) + t)
    if decide (0 ≤ x ∧ x < 4611686018427387904) = true then K (.int .i64 (IntKind.i64.wrap (65535 - foldI x))) hp else none) := by
  kernel_rfl

/-- The reference's Update. -/
def e18 : GEnt := fun args h => match args with
  | [.int .i64 o, .int .i64 f, .int .i64 t] => some (decide (w16 o ∧ w16 f ∧ w16 t), .int .i64 (updI o f t), h)
  | _ => none

theorem s18 : SoundE Try.prog 18 (entF e18) := by
  refine entF_sound ok18 fun args h v h' hg => ?_
  unfold e18 at hg
  split at hg
  · rename_i o f t
    simp only [Option.some.injEq, Prod.mk.injEq, decide_eq_true_eq] at hg
    obtain ⟨⟨ho, hf, ht⟩, rfl, rfl⟩ := hg
    unfold w16 at ho hf ht
    have hr := foldI_range ((65535 - o) + (65535 - f) + t)
    rw [bodyE_get, nf18]
    have e : IntKind.i64.wrap (IntKind.i64.wrap (IntKind.i64.wrap (65535 - o) + IntKind.i64.wrap (65535 - f)) + t) = (65535 - o) + (65535 - f) + t := by
      rw [wrapI64 (n := 65535 - o) (by omega), wrapI64 (n := 65535 - f) (by omega), wrapI64 (n := 65535 - o + (65535 - f)) (by omega), wrapI64 (by omega)]
    simp only [e]
    rw [if_pos (by simp; omega), wrapI64 (by omega)]
    rfl
  · simp at hg

end Go.Proofs.Ythkicndbaaconaa.L3
