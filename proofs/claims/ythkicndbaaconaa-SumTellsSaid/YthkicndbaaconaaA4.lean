/- SumOrder: its run. -/
import Derived.Test.YthkicndbaaconaaA3
set_option autoImplicit false
set_option maxRecDepth 100000
namespace Go.Proofs.Ythkicndbaaconaa.L3
open Go.Abs

theorem loops20 : loopsOf (bodyOf Try.prog 20) = [] := by kernel_rfl
theorem nf20 {R : Type} (a b : Int) (h : AHeap) (K : AV → AHeap → Option R) : abody Try.prog noCalls noLS 20 [.int .u16 a, .int .u16 b] h K =
    if (a == b) = true then K (.bool true) h else K (.bool (a.tmod 65535 == b.tmod 65535)) h := by
  kernel_rfl

def sameI (a b : Int) : Bool := a == b || a.tmod 65535 == b.tmod 65535

def e20 : GEnt := fun args h => match args with
  | [.int .u16 a, .int .u16 b] => some (true, .bool (sameI a b), h)
  | _ => none

theorem s20 : SoundE Try.prog 20 (entF e20) := by
  refine entF_sound (body_sound noCalls_sound (loopsOk0 (LS := noLS) loops20)) fun args h v h' hg => ?_
  unfold e20 at hg
  split at hg
  · rename_i a b
    simp only [Option.some.injEq, Prod.mk.injEq, true_and] at hg
    obtain ⟨rfl, rfl⟩ := hg
    rw [bodyE_get, nf20]
    unfold sameI
    cases hab : a == b <;> simp
  · simp at hg

noncomputable def c8 : CallT := callOf Try.prog noCalls [(10, entF e10), (20, entF e20), (16, bodyE Try.prog c16f noLS 16), (9, entF e9)]
theorem c8ok : SoundC Try.prog c8 := callOf_sound noCalls_sound (find_cons s10 (find_cons s20 (find_cons r16 (find_cons s9 (find_nil _)))))
theorem loops8 : loopsOf (bodyOf Try.prog 8) = [] := by kernel_rfl

end Go.Proofs.Ythkicndbaaconaa.L3
