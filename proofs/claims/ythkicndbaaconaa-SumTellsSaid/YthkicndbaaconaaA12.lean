/- SumTells: its run. -/
import Derived.Test.YthkicndbaaconaaA11
set_option autoImplicit false
set_option maxRecDepth 100000
namespace Go.Proofs.Ythkicndbaaconaa.L3
open Go.Abs

theorem loops11 : loopsOf (bodyOf Try.prog 11) = [] := by kernel_rfl
theorem loops15 : loopsOf (bodyOf Try.prog 15) = [] := by kernel_rfl
theorem loops3 : loopsOf (bodyOf Try.prog 3) = [] := by kernel_rfl
noncomputable def c14 : CallT := callOf Try.prog noCalls [(12, entF e12), (13, entF e13)]
theorem c14ok : SoundC Try.prog c14 := callOf_sound noCalls_sound (find_cons s12 (find_cons s13 (find_nil _)))
theorem i14 : SoundE Try.prog 14 (bodyE Try.prog c14 noLS 14) := body_sound c14ok (loopsOk0 loops14)
theorem i15 : SoundE Try.prog 15 (bodyE Try.prog c14 noLS 15) := body_sound c14ok (loopsOk0 loops15)
theorem i11 : SoundE Try.prog 11 (bodyE Try.prog noCalls noLS 11) := body_sound noCalls_sound (loopsOk0 loops11)

noncomputable def cT : CallT := callOf Try.prog noCalls [(10, entF e10), (11, bodyE Try.prog noCalls noLS 11), (12, entF e12), (13, entF e13), (14, bodyE Try.prog c14 noLS 14), (15, bodyE Try.prog c14 noLS 15), (16, entF e16), (17, entF e17), (18, entF e18), (9, entF e9)]
theorem cTok : SoundC Try.prog cT := callOf_sound noCalls_sound (find_cons s10 (find_cons i11 (find_cons s12 (find_cons s13 (find_cons i14 (find_cons i15 (find_cons s16 (find_cons s17 (find_cons s18 (find_cons s9 (find_nil _)))))))))))
theorem r3 : SoundE Try.prog 3 (bodyE Try.prog cT noLS 3) := body_sound cTok (loopsOk0 loops3)

end Go.Proofs.Ythkicndbaaconaa.L3
