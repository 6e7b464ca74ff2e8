/- awake: what the document fixes, run. -/
import Derived.Test.YthkicndbaaconaaA2
set_option autoImplicit false
set_option maxRecDepth 100000
namespace Go.Proofs.Ythkicndbaaconaa.L3
open Go.Abs

theorem loops23 : loopsOf (bodyOf Try.prog 23) = [loopIn (bodyOf Try.prog 23) 0] := by kernel_rfl
theorem inner23 : loopsOf (loopIn (bodyOf Try.prog 23) 0) = [] := by kernel_rfl
theorem first23 : firstReg (loopIn (bodyOf Try.prog 23) 0) = 6 := by kernel_rfl
theorem loops26 : loopsOf (bodyOf Try.prog 26) = [loopIn (bodyOf Try.prog 26) 0] := by kernel_rfl
theorem inner26 : loopsOf (loopIn (bodyOf Try.prog 26) 0) = [] := by kernel_rfl
theorem first26 : firstReg (loopIn (bodyOf Try.prog 26) 0) = 2 := by kernel_rfl
theorem loops27 : loopsOf (bodyOf Try.prog 27) = [] := by kernel_rfl
theorem loops16 : loopsOf (bodyOf Try.prog 16) = [] := by kernel_rfl
theorem loops14 : loopsOf (bodyOf Try.prog 14) = [] := by kernel_rfl
theorem loops9 : loopsOf (bodyOf Try.prog 9) = [] := by kernel_rfl

/-- size, has, Get: run. -/
noncomputable def ls26 : LoopT := lsOf [(2, fuelL Try.prog noCalls noLS (loopIn (bodyOf Try.prog 26) 0) 4)]
noncomputable def ls23 : LoopT := lsOf [(6, fuelL Try.prog noCalls noLS (loopIn (bodyOf Try.prog 23) 0) 4)]
theorem r26 : SoundE Try.prog 26 (bodyE Try.prog noCalls ls26 26) := body_sound noCalls_sound (loopsOk1 loops26 (by rw [first26]; rfl) (fuelL_sound noCalls_sound (noLoops inner26) 4))
theorem r27 : SoundE Try.prog 27 (bodyE Try.prog noCalls noLS 27) := body_sound noCalls_sound (loopsOk0 loops27)
noncomputable def c23 : CallT := callOf Try.prog noCalls [(26, bodyE Try.prog noCalls ls26 26), (27, bodyE Try.prog noCalls noLS 27)]
theorem c23ok : SoundC Try.prog c23 := callOf_sound noCalls_sound (find_cons r26 (find_cons r27 (find_nil _)))
theorem r23 : SoundE Try.prog 23 (bodyE Try.prog c23 ls23 23) := body_sound c23ok (loopsOk1 loops23 (by rw [first23]; rfl) (fuelL_sound noCalls_sound (noLoops inner23) 4))

/-! ### Sum, Change, run -/

noncomputable def ls25f (C : CallT) : LoopT := lsOf [(1, fuelL Try.prog C noLS (loopIn (bodyOf Try.prog 25) 0) 4)]
theorem r25 {C : CallT} (hC : SoundC Try.prog C) : SoundE Try.prog 25 (bodyE Try.prog C (ls25f C) 25) := body_sound hC (loopsOk1 loops25 (by rw [first25]; rfl) (fuelL_sound hC (noLoops inner25) 4))
theorem r22 : SoundE Try.prog 22 (bodyE Try.prog noCalls noLS 22) := body_sound noCalls_sound (loopsOk0 loops22)

noncomputable def c12f : CallT := callOf Try.prog noCalls [(22, bodyE Try.prog noCalls noLS 22), (25, bodyE Try.prog c25 (ls25f c25) 25), (21, entF e21)]
theorem c12fok : SoundC Try.prog c12f := callOf_sound noCalls_sound (find_cons r22 (find_cons (r25 c25ok) (find_cons s21 (find_nil _))))
theorem r12 : SoundE Try.prog 12 (bodyE Try.prog c12f noLS 12) := body_sound c12fok (loopsOk0 loops12)

noncomputable def c14f : CallT := callOf Try.prog noCalls [(12, bodyE Try.prog c12f noLS 12)]
theorem c14fok : SoundC Try.prog c14f := callOf_sound noCalls_sound (find_cons r12 (find_nil _))
theorem r14 : SoundE Try.prog 14 (bodyE Try.prog c14f noLS 14) := body_sound c14fok (loopsOk0 loops14)

/-- What a round of Change calls. -/
noncomputable def cYf : CallT := callOf Try.prog noCalls [(23, bodyE Try.prog c23 ls23 23), (10, entF e10)]
theorem cYfok : SoundC Try.prog cYf := callOf_sound noCalls_sound (find_cons r23 (find_cons s10 (find_nil _)))
noncomputable def c25Y : CallT := callOf Try.prog cYf []
theorem c25Yok : SoundC Try.prog c25Y := callOf_sound cYfok (find_nil _)
noncomputable def c16f : CallT := callOf Try.prog noCalls [(22, bodyE Try.prog noCalls noLS 22), (25, bodyE Try.prog c25Y (ls25f c25Y) 25)]
theorem c16fok : SoundC Try.prog c16f := callOf_sound noCalls_sound (find_cons r22 (find_cons (r25 c25Yok) (find_nil _)))
theorem r16 : SoundE Try.prog 16 (bodyE Try.prog c16f noLS 16) := body_sound c16fok (loopsOk0 loops16)

noncomputable def c9 : CallT := callOf Try.prog noCalls [(14, bodyE Try.prog c14f noLS 14), (12, bodyE Try.prog c12f noLS 12), (10, entF e10), (16, bodyE Try.prog c16f noLS 16)]
theorem c9ok : SoundC Try.prog c9 := callOf_sound noCalls_sound (find_cons r14 (find_cons r12 (find_cons s10 (find_cons r16 (find_nil _)))))

theorem awake9 : abody Try.prog c9 noLS 9 [] [] (fun v _ => some (AV.beq v (.bool true))) = some true := by
  kernel_rfl

/-- awake. -/
def e9 : GEnt := fun args h => match args with
  | [] => some (true, .bool true, h)
  | _ => none

theorem s9 : SoundE Try.prog 9 (entF e9) := by
  refine pureF_sound (body_sound c9ok (loopsOk0 (LS := noLS) loops9)) fun args h v h' hg => ?_
  unfold e9 at hg
  split at hg
  · simp only [Option.some.injEq, Prod.mk.injEq, true_and] at hg
    obtain ⟨rfl, rfl⟩ := hg
    refine ⟨rfl, rfl, rfl, ?_⟩
    obtain ⟨v, h1, h2, h3⟩ := abody_cps awake9
    simp only [Option.some.injEq] at h2
    have := AV.beq_eq _ _ h2
    subst this
    exact ⟨h1, by rw [bodyE_get, h3]⟩
  · simp at hg

end Go.Proofs.Ythkicndbaaconaa.L3
