/- octet's Get of two bytes. -/
import Derived.Test.YthkicndbaaconaaA4
set_option autoImplicit false
set_option maxRecDepth 100000
namespace Go.Proofs.Ythkicndbaaconaa.L3
open Go.Abs

def m23 : List Bool := List.replicate 7 false ++ [true] ++ List.replicate 13 false ++ [true, true, true] ++ List.replicate 11 false

def v23 (x : Int) (b : Option (Nat × Nat)) (n c : Nat) (ex : Bool) (len i : Int) : List AV := [.int .u64 x, .sl b n c ex, .int .i64 len, .int .i64 i]
def h1c (zs : List Int) : AHeap := [.cells (intsA .u8 zs) 1 .far none]

theorem nf23r (zs : List Int) (x : Int) (o n c : Nat) (ex : Bool) (len i : Int) : roundG Try.prog c23 noLS (loopIn (bodyOf Try.prog 23) 0) m23 (v23 x (some (0, o)) n c ex len i) (h1c zs) =
    if decide (i < len) = true then
      (if 0 ≤ i ∧ i < (n : Int) then
        (if isIntV .u8 (intsA .u8 zs)[o + i.toNat * 1]? = true then
          some (.norm, v23 (abits .u64 (· ||| ·) (IntKind.u64.wrap (x * 256)) (IntKind.u64.wrap (intV (intsA .u8 zs)[o + i.toNat * 1]?))) (some (0, o)) n c ex len (IntKind.i64.wrap (i + 1)), h1c zs)
        else none)
      else none)
    else some (.exit 0, v23 x (some (0, o)) n c ex len i, h1c zs) := by
  kernel_rfl

theorem loop23 {zs : List Int} (hz : ByteL zs) (o c : Nat) (ex : Bool) (h : o + 2 ≤ zs.length) : loopG (roundG Try.prog c23 noLS (loopIn (bodyOf Try.prog 23) 0) m23) 3 (v23 0 (some (0, o)) 2 c ex 2 0) (h1c zs) =
    some (.exit 0, v23 (zs.getD o 0 * 256 + zs.getD (o + 1) 0) (some (0, o)) 2 c ex 2 2, h1c zs) := by
  have g1 := hz.get o
  have g2 := hz.get (o + 1)
  have w1 : IntKind.i64.wrap (0 + 1) = 1 := rfl
  have w2 : IntKind.i64.wrap (1 + 1) = 2 := rfl
  have w0 : IntKind.u64.wrap (0 * 256) = 0 * 256 := rfl
  have e1 : o + (0 : Int).toNat * 1 = o := by simp
  have e2 : o + (1 : Int).toNat * 1 = o + 1 := by simp
  have r1 : roundG Try.prog c23 noLS (loopIn (bodyOf Try.prog 23) 0) m23 (v23 0 (some (0, o)) 2 c ex 2 0) (h1c zs) = some (.norm, v23 (zs.getD o 0) (some (0, o)) 2 c ex 2 1, h1c zs) := by
    rw [nf23r, if_pos (by simp), if_pos (by omega), e1, if_pos (isIntV_ints (by omega)), intV_ints, wrapU64 (n := zs.getD o 0) (by omega), w0, or64 (by omega) g1, w1]
    simp
  have r2 : roundG Try.prog c23 noLS (loopIn (bodyOf Try.prog 23) 0) m23 (v23 (zs.getD o 0) (some (0, o)) 2 c ex 2 1) (h1c zs) = some (.norm, v23 (zs.getD o 0 * 256 + zs.getD (o + 1) 0) (some (0, o)) 2 c ex 2 2, h1c zs) := by
    rw [nf23r, if_pos (by simp), if_pos (by omega), e2, if_pos (isIntV_ints (by omega)), intV_ints, wrapU64 (n := zs.getD (o + 1) 0) (by omega), wrapU64 (n := zs.getD o 0 * 256) (by omega), or64 (by omega) g2, w2]
  have r3 : roundG Try.prog c23 noLS (loopIn (bodyOf Try.prog 23) 0) m23 (v23 (zs.getD o 0 * 256 + zs.getD (o + 1) 0) (some (0, o)) 2 c ex 2 2) (h1c zs) = some (.exit 0, v23 (zs.getD o 0 * 256 + zs.getD (o + 1) 0) (some (0, o)) 2 c ex 2 2, h1c zs) := by
    rw [nf23r, if_neg (by simp)]
  simp only [loopG, r1, r2, r3, Option.bind_some]

/-- The word at a place. -/
def wordI (zs : List Int) (i : Nat) : Int := zs.getD i 0 * 256 + zs.getD (i + 1) 0

def end2 (at_ : Int) : Int := IntKind.i64.wrap (at_ + IntKind.i64.wrap (IntKind.i64.wrap (0 + 1) + 1))

noncomputable def g23 (zs : List Int) (b : Option (Nat × Nat)) (n c : Nat) (ex : Bool) (at_ : Int) : GLoop := fun vs h =>
  some (cdec ((ByteL zs ∧ n = zs.length ∧ b = some (0, 0) ∧ n ≤ 70368744177664 ∧ 0 ≤ at_ ∧ at_ + 2 ≤ (n : Int)) ∧
      vs = v23 0 (b.map fun (i, o) => (i, o + at_.toNat * 1)) ((end2 at_).toNat - at_.toNat) (c - at_.toNat) ex (((end2 at_).toNat - at_.toNat : Nat) : Int) 0 ∧ h = h1c zs),
    .exit 0, v23 (wordI zs at_.toNat) (some (0, at_.toNat)) 2 (c - at_.toNat) ex 2 2, h1c zs)

noncomputable def ls23g (zs : List Int) (b : Option (Nat × Nat)) (n c : Nat) (ex : Bool) (at_ : Int) : LoopT := lsOf [(6, loopF m23 (g23 zs b n c ex at_))]

theorem ok23 (zs : List Int) (b : Option (Nat × Nat)) (n c : Nat) (ex : Bool) (at_ : Int) : SoundE Try.prog 23 (bodyE Try.prog c23 (ls23g zs b n c ex at_) 23) := by
  refine body_sound c23ok (loopsOk1 loops23 (by rw [first23]; rfl) ?_)
  refine loopF_sound c23ok (LS := noLS) (noLoops inner23) fun vs h e vs' h' hg => ⟨3, ?_⟩
  unfold g23 at hg
  simp only [Option.some.injEq, Prod.mk.injEq] at hg
  obtain ⟨hc, rfl, rfl, rfl⟩ := hg
  rw [cdec_true] at hc
  obtain ⟨⟨hz, rfl, rfl, hn, h0, h2⟩, rfl, rfl⟩ := hc
  have e1 : end2 at_ = at_ + 2 := by
    unfold end2
    have : IntKind.i64.wrap (IntKind.i64.wrap (0 + 1) + 1) = 2 := rfl
    rw [this, wrapI64 (by omega)]
  have e2 : (at_ + 2).toNat - at_.toNat = 2 := by omega
  have e3 : 0 + at_.toNat * 1 = at_.toNat := by omega
  simp only [e1, e2, Option.map_some, e3]
  exact loop23 hz _ _ _ (by omega)

theorem nf23 {R : Type} (zs : List Int) (b : Option (Nat × Nat)) (n c : Nat) (ex : Bool) (at_ : Int) (K : AV → AHeap → Option R) : abody Try.prog c23 (ls23g zs b n c ex at_) 23 [.sl b n c ex, .int .i64 at_] (h1c zs) K =
    if decide (at_ ≥ 0) = true then
      (if decide (at_ ≤ (n : Int)) = true then
        (if (!decide (IntKind.i64.wrap ((n : Int) - at_) ≥ IntKind.i64.wrap (IntKind.i64.wrap (0 + 1) + 1))) = true then K (.tup [.int .u16 0, .bool false]) (h1c zs)
        else (if 0 ≤ end2 at_ ∧ end2 at_ ≤ (c : Int) then
          (if 0 ≤ at_ ∧ at_ ≤ end2 at_ then
            (if cdec ((ByteL zs ∧ n = zs.length ∧ b = some (0, 0) ∧ n ≤ 70368744177664 ∧ 0 ≤ at_ ∧ at_ + 2 ≤ (n : Int)) ∧
              v23 0 (b.map fun (i, o) => (i, o + at_.toNat * 1)) ((end2 at_).toNat - at_.toNat) (c - at_.toNat) ex (((end2 at_).toNat - at_.toNat : Nat) : Int) 0 =
                v23 0 (b.map fun (i, o) => (i, o + at_.toNat * 1)) ((end2 at_).toNat - at_.toNat) (c - at_.toNat) ex (((end2 at_).toNat - at_.toNat : Nat) : Int) 0 ∧ h1c zs = h1c zs) = true then
              K (.tup [.int .u16 (IntKind.u16.wrap (wordI zs at_.toNat)), .bool true]) (h1c zs)
            else none)
          else none)
        else none))
      else K (.tup [.int .u16 0, .bool false]) (h1c zs))
    else K (.tup [.int .u16 0, .bool false]) (h1c zs) := by
  kernel_rfl

/-- Get of two bytes. -/
noncomputable def e23 : GEnt := fun args h => match args with
  | [.sl b n c _, .int .i64 at_] => some (cdec (goodB h b n ∧ n ≤ c ∧ n ≤ 70368744177664),
      .tup [.int .u16 (if 0 ≤ at_ ∧ at_ + 2 ≤ (n : Int) then wordI (rowI h b n) at_.toNat else 0), .bool (decide (0 ≤ at_ ∧ at_ + 2 ≤ (n : Int)))], h)
  | _ => none

theorem wordI_range {zs : List Int} (hz : ByteL zs) (i : Nat) : 0 ≤ wordI zs i ∧ wordI zs i < 65536 := by
  have g1 := hz.get i
  have g2 := hz.get (i + 1)
  unfold wordI; omega

theorem s23 : SoundE Try.prog 23 (entF e23) := by
  refine frameF_sound fun args h v h' hg => ?_
  unfold e23 at hg
  split at hg
  · rename_i b n c ex at_
    simp only [Option.some.injEq, Prod.mk.injEq] at hg
    obtain ⟨hc, rfl, rfl⟩ := hg
    rw [cdec_true] at hc
    obtain ⟨hgood, hnc, hcm⟩ := hc
    have hrow := hgood.row
    generalize rowI h b n = zs at hrow
    obtain ⟨hlen, hbytes, _⟩ := id hrow
    refine ⟨_, ok23 zs (at1 b 0) n c ex at_, base1 b, [.sl (at1 b 0) n c ex, .int .i64 at_], h1c zs, .tup [.int .u16 (if 0 ≤ at_ ∧ at_ + 2 ≤ (n : Int) then wordI zs at_.toNat else 0), .bool (decide (0 ≤ at_ ∧ at_ + 2 ≤ (n : Int)))], h1c zs, [], [], ?_, less1 hrow hgood.2, ?_, rfl, by simp, by simp, fun j bl hj => by simp at hj, rfl⟩
    · rw [bodyE_get, nf23]
      have w2 : IntKind.i64.wrap (IntKind.i64.wrap (0 + 1) + 1) = 2 := rfl
      rw [w2]
      by_cases h0 : 0 ≤ at_
      · rw [if_pos (by simpa using h0)]
        by_cases h1 : at_ ≤ (n : Int)
        · rw [if_pos (by simpa using h1), wrapI64 (n := (n : Int) - at_) (by omega)]
          by_cases h2 : at_ + 2 ≤ (n : Int)
          · have e2 : end2 at_ = at_ + 2 := by unfold end2; rw [w2, wrapI64 (by omega)]
            have hb : at1 b 0 = some (0, 0) := by
              cases b with
              | none => have := hgood.2 rfl; omega
              | some q => rfl
            rw [if_neg (by simp; omega), e2, if_pos (by omega), if_pos (by omega), if_pos (cdec_true.2 ⟨⟨hbytes, hlen.symm, hb, by omega, h0, h2⟩, rfl, rfl⟩), wrapU16 (wordI_range hbytes _),
              if_pos ⟨h0, h2⟩, decide_eq_true (⟨h0, h2⟩ : 0 ≤ at_ ∧ at_ + 2 ≤ (n : Int))]
          · have hn : ¬ (0 ≤ at_ ∧ at_ + 2 ≤ (n : Int)) := by omega
            rw [if_pos (by simp; omega), if_neg hn, decide_eq_false hn]
        · have hn : ¬ (0 ≤ at_ ∧ at_ + 2 ≤ (n : Int)) := by omega
          rw [if_neg (by simpa using h1), if_neg hn, decide_eq_false hn]
      · have hn : ¬ (0 ≤ at_ ∧ at_ + 2 ≤ (n : Int)) := by omega
        rw [if_neg (by simpa using h0), if_neg hn, decide_eq_false hn]
    · cases b with
      | none => rfl
      | some q => obtain ⟨i, o⟩ := q; simp [at1, AV.rens, AV.ren, given, base1]
  · simp at hg

end Go.Proofs.Ythkicndbaaconaa.L3
