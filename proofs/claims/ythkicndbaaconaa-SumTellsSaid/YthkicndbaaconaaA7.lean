/- chksum's Change, told. -/
import Derived.Test.YthkicndbaaconaaA6
set_option autoImplicit false
set_option maxRecDepth 100000
namespace Go.Proofs.Ythkicndbaaconaa.L3
open Go.Abs

noncomputable def c16 (zs ts : List Int) (old : Int) (b : Option (Nat × Nat)) (n c : Nat) (ex : Bool) (bt : Option (Nat × Nat)) (nt ct : Nat) (et : Bool) : CallT :=
  callOf Try.prog noCalls [(22, bodyE Try.prog noCalls noLS 22), (25, bodyE Try.prog c25g (lsC zs ts old b n c ex bt nt ct et) 25)]

theorem c16ok (zs ts : List Int) (old : Int) (b : Option (Nat × Nat)) (n c : Nat) (ex : Bool) (bt : Option (Nat × Nat)) (nt ct : Nat) (et : Bool) : SoundC Try.prog (c16 zs ts old b n c ex bt nt ct et) :=
  callOf_sound noCalls_sound (find_cons r22 (find_cons (okC zs ts old b n c ex bt nt ct et) (find_nil _)))

theorem nf16 {R : Type} (zs ts : List Int) (old : Int) (b : Option (Nat × Nat)) (n c : Nat) (ex : Bool) (bt : Option (Nat × Nat)) (nt ct : Nat) (et : Bool) (K : AV → Option R) :
    abody Try.prog (c16 zs ts old b n c ex bt nt ct et) noLS 16 [.int .u16 old, .sl b n c ex, .sl bt nt ct et] [.cells (intsA .u8 zs) 1 .far none, .cells (intsA .u8 ts) 1 .far none] (fun v _ => K v) =
    if ((n : Int) != (nt : Int)) = true then K (.int .u16 old) else
    if ((n : Int).tmod 2 != 0) = true then K (.int .u16 old) else
    if cdec (In16 zs ts b n bt nt ct old ∧ w25 0 = w25 0 ∧ h16 zs ts old b n c ex bt nt ct et .ready old = h16 zs ts old b n c ex bt nt ct et .ready old) = true then K (.int .u16 (chg old zs ts)) else none := by
  kernel_rfl

def chgI (o : Int) (zs ts : List Int) : Int := if zs.length = ts.length ∧ zs.length % 2 = 0 then chg o zs ts else o

noncomputable def e16 : GEnt := fun args h => match args with
  | [.int .u16 old, .sl b n _ _, .sl bt nt ct _] => some (cdec (goodB h b n ∧ goodB h bt nt ∧ w16 old ∧ nt ≤ ct ∧ nt ≤ 70368744177664), .int .u16 (chgI old (rowI h b n) (rowI h bt nt)), h)
  | _ => none

theorem s16 : SoundE Try.prog 16 (entF e16) := by
  refine frameF_sound fun args h v h' hg => ?_
  unfold e16 at hg
  split at hg
  · rename_i old b n c ex bt nt ct et
    simp only [Option.some.injEq, Prod.mk.injEq] at hg
    obtain ⟨hc, rfl, rfl⟩ := hg
    rw [cdec_true] at hc
    obtain ⟨hg1, hg2, ho, hle, hct⟩ := hc
    have r1 := hg1.row
    have r2 := hg2.row
    generalize rowI h b n = zs at r1
    generalize rowI h bt nt = ts at r2
    obtain ⟨l1, b1, _⟩ := id r1
    obtain ⟨l2, b2, _⟩ := id r2
    have hval : abody Try.prog (c16 zs ts old (at1 b 0) n c ex (at1 bt 1) nt ct et) noLS 16 [.int .u16 old, .sl (at1 b 0) n c ex, .sl (at1 bt 1) nt ct et] [.cells (intsA .u8 zs) 1 .far none, .cells (intsA .u8 ts) 1 .far none] (fun v _ => some v) = some (.int .u16 (chgI old zs ts)) := by
      rw [nf16]
      unfold chgI
      by_cases h1 : n = nt
      · rw [if_neg (by simp [h1])]
        have hm' : (n : Int).tmod 2 = ((n % 2 : Nat) : Int) := rfl
        by_cases h2 : n % 2 = 0
        · have hm : (n : Int).tmod 2 = 0 := by rw [hm', h2]; rfl
          have hI : In16 zs ts (at1 b 0) n (at1 bt 1) nt ct old := ⟨b1, b2, l1.symm, l2.symm, by omega, by omega, hle, hct, by
            cases b with
            | none => exact .inr ⟨rfl, List.eq_nil_of_length_eq_zero (by rw [l1]; exact hg1.2 rfl)⟩
            | some q => exact .inl rfl, by
            cases bt with
            | none => exact .inr ⟨rfl, List.eq_nil_of_length_eq_zero (by rw [l2]; exact hg2.2 rfl)⟩
            | some q => exact .inl rfl, ho⟩
          rw [if_neg (by simp [hm]), if_pos (cdec_true.2 ⟨hI, rfl, rfl⟩), if_pos (show zs.length = ts.length ∧ zs.length % 2 = 0 by omega)]
        · have hm : (n : Int).tmod 2 ≠ 0 := by rw [hm']; omega
          rw [if_pos (by simpa using hm), if_neg (by omega)]
      · rw [if_pos (by simp; omega), if_neg (by omega)]
    obtain ⟨h1, hget⟩ := get_of_val hval
    refine ⟨_, body_sound (c16ok zs ts old (at1 b 0) n c ex (at1 bt 1) nt ct et) (loopsOk0 (LS := noLS) loops16), [b, bt], _, _, .int .u16 (chgI old zs ts), h1, [], [], hget, less2 r1 hg1.2 r2 hg2.2, ?_, rfl, by simp, by simp, fun j bl hj => by simp at hj, rfl⟩
    cases b <;> cases bt <;> simp [at1, AV.rens, AV.ren, given]
  · simp at hg

end Go.Proofs.Ythkicndbaaconaa.L3
