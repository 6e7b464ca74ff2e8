/- The reference's Be16, Change. -/
import Derived.Test.YthkicndbaaconaaA10
set_option autoImplicit false
set_option maxRecDepth 100000
namespace Go.Proofs.Ythkicndbaaconaa.L3
open Go.Abs

theorem loops24 : loopsOf (bodyOf Try.prog 24) = [] := by kernel_rfl

theorem nf24 {R : Type} (n c : Nat) (ex : Bool) (i : Int) (zs : List Int) (K : AV → Option R) : abody Try.prog noCalls noLS 24 [.sl (some (0, 0)) n c ex, .int .i64 i] (h1c zs) (fun v _ => K v) =
    (if 0 ≤ i ∧ i < (n : Int) then
      (if isIntV .u8 (intsA .u8 zs)[0 + i.toNat * 1]? = true then
        (if 0 ≤ IntKind.i64.wrap (i + 1) ∧ IntKind.i64.wrap (i + 1) < (n : Int) then
          (if isIntV .u8 (intsA .u8 zs)[0 + (IntKind.i64.wrap (i + 1)).toNat * 1]? = true then
            K (.int .i64 (abits .i64 (· ||| ·) (IntKind.i64.wrap (IntKind.i64.wrap (intV (intsA .u8 zs)[0 + i.toNat * 1]?) * 256)) (IntKind.i64.wrap (intV (intsA .u8 zs)[0 + (IntKind.i64.wrap (i + 1)).toNat * 1]?))))
          else none)
        else none)
      else none)
    else none) := by
  kernel_rfl

theorem or64i {a b : Int} (ha : 0 ≤ a ∧ a < 256) (hb : 0 ≤ b ∧ b < 256) : abits .i64 (· ||| ·) (a * 256) b = a * 256 + b := by
  obtain ⟨x, rfl⟩ := Int.eq_ofNat_of_zero_le ha.1
  obtain ⟨y, rfl⟩ := Int.eq_ofNat_of_zero_le hb.1
  show IntKind.i64.wrap ((BitVec.ofInt 64 ((x : Int) * 256) ||| BitVec.ofInt 64 (y : Int)).toNat : Int) = _
  have e : ((x : Int) * 256) = ((x * 256 : Nat) : Int) := by omega
  rw [e, BitVec.toNat_or, ofIntNat 64 (x * 256) (by omega), ofIntNat 64 y (by omega)]
  have : x * 256 ||| y = x * 256 + y := by
    have := Nat.two_pow_add_eq_or_of_lt (i := 8) (b := y) (by omega) x
    rw [Nat.mul_comm x 256, show (256 : Nat) = 2 ^ 8 by rfl, ← this]
  rw [this, wrapI64 (by omega)]
  omega

/-- The reference's Be16. -/
noncomputable def e24 : GEnt := fun args h => match args with
  | [.sl b n _ _, .int .i64 i] => some (cdec (goodB h b n ∧ n ≤ 70368744177664 ∧ 0 ≤ i ∧ i + 2 ≤ (n : Int)), .int .i64 (wordI (rowI h b n) i.toNat), h)
  | _ => none

theorem s24 : SoundE Try.prog 24 (entF e24) := by
  refine frameF_sound fun args h v h' hg => ?_
  unfold e24 at hg
  split at hg
  · rename_i b n c ex i
    simp only [Option.some.injEq, Prod.mk.injEq] at hg
    obtain ⟨hc, rfl, rfl⟩ := hg
    rw [cdec_true] at hc
    obtain ⟨hgood, hn, hi0, hi2⟩ := hc
    have hrow := hgood.row
    generalize rowI h b n = zs at hrow
    obtain ⟨hlen, hz, _⟩ := id hrow
    cases b with
    | none => have := hgood.2 rfl; omega
    | some q =>
    have hval : abody Try.prog noCalls noLS 24 [.sl (some (0, 0)) n c ex, .int .i64 i] (h1c zs) (fun v _ => some v) = some (.int .i64 (wordI zs i.toNat)) := by
      have w1 : IntKind.i64.wrap (i + 1) = i + 1 := wrapI64 (by omega)
      have t1 : 0 + i.toNat * 1 = i.toNat := by omega
      have t2 : 0 + (i + 1).toNat * 1 = i.toNat + 1 := by omega
      have g1 := hz.get i.toNat
      have g2 := hz.get (i.toNat + 1)
      have a1 : IntKind.i64.wrap (zs.getD i.toNat 0) = zs.getD i.toNat 0 := wrapI64 (by omega)
      have a2 : IntKind.i64.wrap (zs.getD i.toNat 0 * 256) = zs.getD i.toNat 0 * 256 := wrapI64 (by omega)
      have a3 : IntKind.i64.wrap (zs.getD (i.toNat + 1) 0) = zs.getD (i.toNat + 1) 0 := wrapI64 (by omega)
      rw [nf24]
      simp only [w1, t1, t2, intV_ints, a1, a2, a3, or64i g1 g2]
      rw [if_pos (by omega), if_pos (isIntV_ints (by omega)), if_pos (by omega), if_pos (isIntV_ints (by omega))]
      rfl
    obtain ⟨h1, hget⟩ := get_of_val hval
    refine ⟨_, body_sound noCalls_sound (loopsOk0 (LS := noLS) loops24), base1 (some q), [.sl (some (0, 0)) n c ex, .int .i64 i], h1c zs, .int .i64 (wordI zs i.toNat), h1, [], [], hget, less1 hrow hgood.2, ?_, rfl, by simp, by simp, fun j bl hj => by simp at hj, rfl⟩
    obtain ⟨i', o⟩ := q
    simp [AV.rens, AV.ren, given, base1]
  · simp at hg

/-! ### Change -/

def m17 : List Bool := [true, true, true, false, false, false, false, true] ++ List.replicate 27 false
noncomputable def c17 : CallT := callOf Try.prog noCalls [(24, entF e24), (18, entF e18)]
theorem c17ok : SoundC Try.prog c17 := callOf_sound noCalls_sound (find_cons s24 (find_cons s18 (find_nil _)))

def v17 (o : Int) (b : Option (Nat × Nat)) (n c : Nat) (ex : Bool) (bt : Option (Nat × Nat)) (nt ct : Nat) (et : Bool) (i : Int) : List AV := [.int .i64 o, .sl b n c ex, .sl bt nt ct et, .int .i64 i]

theorem nf17r (o : Int) (b : Option (Nat × Nat)) (n c : Nat) (ex : Bool) (bt : Option (Nat × Nat)) (nt ct : Nat) (et : Bool) (i : Int) (hp : AHeap) :
    roundG Try.prog c17 noLS (loopIn (bodyOf Try.prog 17) 0) m17 (v17 o b n c ex bt nt ct et i) hp =
    if decide (i < (n : Int)) = true then
      (if cdec (goodB hp b n ∧ n ≤ 70368744177664 ∧ 0 ≤ i ∧ i + 2 ≤ (n : Int)) = true then
        (if cdec (goodB hp bt nt ∧ nt ≤ 70368744177664 ∧ 0 ≤ i ∧ i + 2 ≤ (nt : Int)) = true then
          (if decide (w16 o ∧ w16 (wordI (rowI hp b n) i.toNat) ∧ w16 (wordI (rowI hp bt nt) i.toNat)) = true then
            some (.norm, v17 (updI o (wordI (rowI hp b n) i.toNat) (wordI (rowI hp bt nt) i.toNat)) b n c ex bt nt ct et (IntKind.i64.wrap (i + 2)), hp)
          else none)
        else none)
      else none)
    else some (.exit 0, v17 o b n c ex bt nt ct et i, hp) := by
  kernel_rfl

theorem loops17 : loopsOf (bodyOf Try.prog 17) = [loopIn (bodyOf Try.prog 17) 0] := by kernel_rfl
theorem first17 : firstReg (loopIn (bodyOf Try.prog 17) 0) = 4 := by kernel_rfl
theorem inner17 : loopsOf (loopIn (bodyOf Try.prog 17) 0) = [] := by kernel_rfl

theorem loop17 {b bt : Option (Nat × Nat)} {n : Nat} {hp : AHeap} (hg1 : goodB hp b n) (hg2 : goodB hp bt n) (he : n % 2 = 0) (hn : n ≤ 70368744177664) (c : Nat) (ex : Bool) (ct : Nat) (et : Bool) :
    ∀ (k i : Nat) (x : Int), n - i = k → i ≤ n → i % 2 = 0 → w16 x →
    ∃ j, loopG (roundG Try.prog c17 noLS (loopIn (bodyOf Try.prog 17) 0) m17) j (v17 x b n c ex bt n ct et i) hp =
      some (.exit 0, v17 (chg x ((rowI hp b n).drop i) ((rowI hp bt n).drop i)) b n c ex bt n ct et n, hp) := by
  have r1 := hg1.row
  have r2 := hg2.row
  obtain ⟨l1, b1, _⟩ := r1
  obtain ⟨l2, b2, _⟩ := r2
  intro k
  induction k using Nat.strongRecOn with
  | _ k ih =>
    intro i x hk hi hev hx
    by_cases hlt : i < n
    · have w2 : IntKind.i64.wrap ((i : Int) + 2) = ((i + 2 : Nat) : Int) := by rw [wrapI64 (by omega)]; omega
      obtain ⟨j, hj⟩ := ih (n - (i + 2)) (by omega) (i + 2) (updI x (wordI (rowI hp b n) i) (wordI (rowI hp bt n) i)) rfl (by omega) (by omega) (updI_range _ _ _)
      refine ⟨j + 1, ?_⟩
      have hs : roundG Try.prog c17 noLS (loopIn (bodyOf Try.prog 17) 0) m17 (v17 x b n c ex bt n ct et i) hp =
          some (.norm, v17 (updI x (wordI (rowI hp b n) i) (wordI (rowI hp bt n) i)) b n c ex bt n ct et ((i + 2 : Nat) : Int), hp) := by
        have hn' : (i : Int).toNat = i := by omega
        rw [nf17r, w2, hn', if_pos (by simp; omega), if_pos (cdec_true.2 ⟨hg1, hn, by omega, by omega⟩), if_pos (cdec_true.2 ⟨hg2, hn, by omega, by omega⟩), if_pos (decide_eq_true ⟨hx, wordI_range b1 i, wordI_range b2 i⟩)]
      simp only [loopG, hs, Option.bind_some]
      rw [hj, chg_drop (zs := rowI hp b n) (ts := rowI hp bt n) (i := i) (by omega) (by omega)]
    · have hie : i = n := by omega
      subst hie
      refine ⟨1, ?_⟩
      have e1 : (rowI hp b i).drop i = [] := by simp; omega
      have e2 : (rowI hp bt i).drop i = [] := by simp; omega
      simp only [loopG, nf17r]
      rw [if_neg (by simp)]
      simp only [Option.bind_some, e1, e2, chg]

noncomputable def g17 : GLoop := fun vs h => match vs with
  | [.int .i64 o, .sl b n c ex, .sl bt nt ct et, .int .i64 i] => some (cdec (goodB h b n ∧ goodB h bt nt ∧ n = nt ∧ n % 2 = 0 ∧ n ≤ 70368744177664 ∧ w16 o ∧ i = 0), .exit 0, v17 (chg o (rowI h b n) (rowI h bt nt)) b n c ex bt nt ct et n, h)
  | _ => none

noncomputable def ls17 : LoopT := lsOf [(4, loopF m17 g17)]

theorem ok17 : SoundE Try.prog 17 (bodyE Try.prog c17 ls17 17) := by
  refine body_sound c17ok (loopsOk1 loops17 (by rw [first17]; rfl) ?_)
  refine loopF_sound c17ok (LS := noLS) (noLoops inner17) fun vs h e vs' h' hg => ?_
  unfold g17 at hg
  split at hg
  · rename_i o b n c ex bt nt ct et i
    simp only [Option.some.injEq, Prod.mk.injEq] at hg
    obtain ⟨hc, rfl, rfl, rfl⟩ := hg
    rw [cdec_true] at hc
    obtain ⟨h1, h2, rfl, h3, h4, h5, rfl⟩ := hc
    have := loop17 h1 h2 h3 h4 c ex ct et _ 0 o rfl (by omega) rfl h5
    simp only [List.drop_zero, Int.natCast_zero] at this
    exact this
  · simp at hg

theorem nf17 {R : Type} (o : Int) (b : Option (Nat × Nat)) (n c : Nat) (ex : Bool) (bt : Option (Nat × Nat)) (nt ct : Nat) (et : Bool) (hp : AHeap) (K : AV → AHeap → Option R) :
    abody Try.prog c17 ls17 17 [.int .i64 o, .sl b n c ex, .sl bt nt ct et] hp K =
    if ((n : Int) != (nt : Int)) = true then K (.int .i64 o) hp else
    if ((n : Int).tmod 2 != 0) = true then K (.int .i64 o) hp else
    if cdec (goodB hp b n ∧ goodB hp bt nt ∧ n = nt ∧ n % 2 = 0 ∧ n ≤ 70368744177664 ∧ w16 o ∧ (0 : Int) = 0) = true then K (.int .i64 (chg o (rowI hp b n) (rowI hp bt nt))) hp else none := by
  kernel_rfl

/-- The reference's Change. -/
noncomputable def e17 : GEnt := fun args h => match args with
  | [.int .i64 old, .sl b n _ _, .sl bt nt _ _] => some (cdec (goodB h b n ∧ goodB h bt nt ∧ w16 old ∧ n ≤ 70368744177664), .int .i64 (chgI old (rowI h b n) (rowI h bt nt)), h)
  | _ => none

theorem s17 : SoundE Try.prog 17 (entF e17) := by
  refine entF_sound ok17 fun args h v h' hg => ?_
  unfold e17 at hg
  split at hg
  · rename_i old b n c ex bt nt ct et
    simp only [Option.some.injEq, Prod.mk.injEq] at hg
    obtain ⟨hc, rfl, rfl⟩ := hg
    rw [cdec_true] at hc
    obtain ⟨hg1, hg2, ho, hn⟩ := hc
    have l1 := hg1.row.1
    have l2 := hg2.row.1
    rw [bodyE_get, nf17]
    unfold chgI
    by_cases h1 : n = nt
    · subst h1
      rw [if_neg (by simp)]
      have hm' : (n : Int).tmod 2 = ((n % 2 : Nat) : Int) := rfl
      by_cases h2 : n % 2 = 0
      · have hm : (n : Int).tmod 2 = 0 := by rw [hm', h2]; rfl
        rw [if_neg (by simp [hm]), if_pos (cdec_true.2 ⟨hg1, hg2, rfl, h2, hn, ho, rfl⟩), if_pos (show (rowI h b n).length = (rowI h bt n).length ∧ (rowI h b n).length % 2 = 0 by omega)]
      · have hm : (n : Int).tmod 2 ≠ 0 := by rw [hm']; omega
        rw [if_pos (by simpa using hm), if_neg (by omega)]
    · rw [if_pos (by simp; omega), if_neg (by omega)]
  · simp at hg

end Go.Proofs.Ythkicndbaaconaa.L3
