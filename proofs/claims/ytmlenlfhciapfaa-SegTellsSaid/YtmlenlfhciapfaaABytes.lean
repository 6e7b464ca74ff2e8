/- bazaar/addr.Bytes. -/
import Derived.Test.YtmlenlfhciapfaaProg
import Derived.Test.YtmlenlfhciapfaaAddrKit
set_option autoImplicit false
set_option maxRecDepth 100000
set_option linter.unusedVariables false
set_option linter.unusedSimpArgs false
namespace Go.Proofs.Ytmlenlfhciapfaa.L
open Go Go.Abs

noncomputable def hABytesT0 (x0 x1 x2 x3 x4 x5 x6 x7 x8 x9 x10 x11 x12 x13 x14 x15 : Int) : AHeap := [ABlk.cells [AV.bool true, AV.int IntKind.u8 x0, AV.int IntKind.u8 x1, AV.int IntKind.u8 x2, AV.int IntKind.u8 x3, AV.int IntKind.u8 x4, AV.int IntKind.u8 x5, AV.int IntKind.u8 x6, AV.int IntKind.u8 x7, AV.int IntKind.u8 x8, AV.int IntKind.u8 x9, AV.int IntKind.u8 x10, AV.int IntKind.u8 x11, AV.int IntKind.u8 x12, AV.int IntKind.u8 x13, AV.int IntKind.u8 x14, AV.int IntKind.u8 x15] 17 Md.own none, ABlk.cells [] 1 Md.ro none, ABlk.cells [AV.int IntKind.u8 x0, AV.int IntKind.u8 x1, AV.int IntKind.u8 x2, AV.int IntKind.u8 x3, AV.int IntKind.u8 x4, AV.int IntKind.u8 x5, AV.int IntKind.u8 x6, AV.int IntKind.u8 x7, AV.int IntKind.u8 x8, AV.int IntKind.u8 x9, AV.int IntKind.u8 x10, AV.int IntKind.u8 x11, AV.int IntKind.u8 x12, AV.int IntKind.u8 x13, AV.int IntKind.u8 x14, AV.int IntKind.u8 x15] 1 Md.own (some 1)]
theorem nfABytesT {R : Type} (x0 x1 x2 x3 x4 x5 x6 x7 x8 x9 x10 x11 x12 x13 x14 x15 : Int) (K : AV → AHeap → Option R) :
    qrun Try.prog [] 100 6 [] [] 29 [.agg (adrV true x0 x1 x2 x3 x4 x5 x6 x7 x8 x9 x10 x11 x12 x13 x14 x15)] [] K =
    K (AV.sl (some (2, 0)) 16 0 false) ((hABytesT0 x0 x1 x2 x3 x4 x5 x6 x7 x8 x9 x10 x11 x12 x13 x14 x15)) := by
  kernel_rfl

noncomputable def hABytesF0 (x0 x1 x2 x3 x4 x5 x6 x7 x8 x9 x10 x11 x12 x13 x14 x15 : Int) : AHeap := [ABlk.cells [AV.bool false, AV.int IntKind.u8 x0, AV.int IntKind.u8 x1, AV.int IntKind.u8 x2, AV.int IntKind.u8 x3, AV.int IntKind.u8 x4, AV.int IntKind.u8 x5, AV.int IntKind.u8 x6, AV.int IntKind.u8 x7, AV.int IntKind.u8 x8, AV.int IntKind.u8 x9, AV.int IntKind.u8 x10, AV.int IntKind.u8 x11, AV.int IntKind.u8 x12, AV.int IntKind.u8 x13, AV.int IntKind.u8 x14, AV.int IntKind.u8 x15] 17 Md.own none, ABlk.cells [] 1 Md.ro none, ABlk.cells [AV.int IntKind.u8 x0, AV.int IntKind.u8 x1, AV.int IntKind.u8 x2, AV.int IntKind.u8 x3] 1 Md.own (some 1)]
theorem nfABytesF {R : Type} (x0 x1 x2 x3 x4 x5 x6 x7 x8 x9 x10 x11 x12 x13 x14 x15 : Int) (K : AV → AHeap → Option R) :
    qrun Try.prog [] 100 6 [] [] 29 [.agg (adrV false x0 x1 x2 x3 x4 x5 x6 x7 x8 x9 x10 x11 x12 x13 x14 x15)] [] K =
    K (AV.sl (some (2, 0)) 4 0 false) ((hABytesF0 x0 x1 x2 x3 x4 x5 x6 x7 x8 x9 x10 x11 x12 x13 x14 x15)) := by
  kernel_rfl


theorem sABytes : SoundE Try.prog 29 (entF eBytes) := by
  refine canonR_sound fun args h v h' hg => ?_
  unfold eBytes at hg
  split at hg
  · rename_i cs
    simp only [Option.some.injEq, Prod.mk.injEq] at hg
    obtain ⟨hw, rfl, rfl⟩ := hg
    obtain ⟨v, x0, x1, x2, x3, x4, x5, x6, x7, x8, x9, x10, x11, x12, x13, x14, x15, rfl, b0, b1, b2, b3, b4, b5, b6, b7, b8, b9, b10, b11, b12, b13, b14, b15⟩ := adrWf_lit hw
    refine ⟨[.agg (adrV v x0 x1 x2 x3 x4 x5 x6 x7 x8 x9 x10 x11 x12 x13 x14 x15)], [], .cons _ _ _ _ _ _ _ (.flat _ _ rfl) (.nil _), ?_⟩
    cases v
    · refine ⟨_, _, Runs.ofT0 (find_nil _) (F := 100) (n := 6) (pr := []) (nfABytesF x0 x1 x2 x3 x4 x5 x6 x7 x8 x9 x10 x11 x12 x13 x14 x15 _), [some 2], _, rfl, denB (by simp) rfl (show [.int .u8 x0, .int .u8 x1, .int .u8 x2, .int .u8 x3] = bys [byteD (.int .u8 x0), byteD (.int .u8 x1), byteD (.int .u8 x2), byteD (.int .u8 x3)] from bytes_of (l := [.int .u8 x0, .int .u8 x1, .int .u8 x2, .int .u8 x3]) (by simp [isByteR]; omega)) rfl, ksOk1 _⟩
    · refine ⟨_, _, Runs.ofT0 (find_nil _) (F := 100) (n := 6) (pr := []) (nfABytesT x0 x1 x2 x3 x4 x5 x6 x7 x8 x9 x10 x11 x12 x13 x14 x15 _), [some 2], _, rfl, denB (by simp) rfl (show [.int .u8 x0, .int .u8 x1, .int .u8 x2, .int .u8 x3, .int .u8 x4, .int .u8 x5, .int .u8 x6, .int .u8 x7, .int .u8 x8, .int .u8 x9, .int .u8 x10, .int .u8 x11, .int .u8 x12, .int .u8 x13, .int .u8 x14, .int .u8 x15] = bys [byteD (.int .u8 x0), byteD (.int .u8 x1), byteD (.int .u8 x2), byteD (.int .u8 x3), byteD (.int .u8 x4), byteD (.int .u8 x5), byteD (.int .u8 x6), byteD (.int .u8 x7), byteD (.int .u8 x8), byteD (.int .u8 x9), byteD (.int .u8 x10), byteD (.int .u8 x11), byteD (.int .u8 x12), byteD (.int .u8 x13), byteD (.int .u8 x14), byteD (.int .u8 x15)] from bytes_of (l := [.int .u8 x0, .int .u8 x1, .int .u8 x2, .int .u8 x3, .int .u8 x4, .int .u8 x5, .int .u8 x6, .int .u8 x7, .int .u8 x8, .int .u8 x9, .int .u8 x10, .int .u8 x11, .int .u8 x12, .int .u8 x13, .int .u8 x14, .int .u8 x15]) (by simp [isByteR]; omega)) rfl, ksOk1 _⟩
  · simp at hg

end Go.Proofs.Ytmlenlfhciapfaa.L
