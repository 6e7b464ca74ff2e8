/- A flow, a server of so many. -/
import Derived.Test.YtmlmdbicbpicbaaRound
import Derived.Test.YtmlmdbicbpicbaaAddrKit
set_option autoImplicit false
set_option maxRecDepth 100000
set_option linter.unusedVariables false
set_option linter.unusedSimpArgs false
namespace Go.Proofs.Ytmlmdbicbpicbaa.L
open Go Go.Abs

noncomputable def tRnd : Tbl := [(18, entF eRound)]
theorem tRndOk : ∀ f E, tRnd.find f = some E → SoundE Try.prog f E := find_cons sRound (find_nil _)
theorem nfKeyT {R : Type} (n : Int) (v : Bool) (K : AV → Option R) :
    qrun Try.prog tRnd 100 6 [] [] 16 [.int .i64 n, .bool v, .bool true] [] (fun v _ => K v) =
    K (AV.agg [AV.int IntKind.u8 17, AV.bool v, AV.int IntKind.u8 10, AV.int IntKind.u8 (IntKind.u8.wrap ((IntKind.u32.wrap (n % 1073741824)).fdiv 65536)), AV.int IntKind.u8 (IntKind.u8.wrap ((IntKind.u32.wrap (n % 1073741824)).fdiv 256)), AV.int IntKind.u8 (IntKind.u8.wrap (IntKind.u32.wrap (n % 1073741824))), AV.int IntKind.u8 0, AV.int IntKind.u8 0, AV.int IntKind.u8 0, AV.int IntKind.u8 0, AV.int IntKind.u8 0, AV.int IntKind.u8 0, AV.int IntKind.u8 0, AV.int IntKind.u8 0, AV.int IntKind.u8 0, AV.int IntKind.u8 0, AV.int IntKind.u8 0, AV.int IntKind.u8 0, AV.bool v, AV.int IntKind.u8 192, AV.int IntKind.u8 168, AV.int IntKind.u8 0, AV.int IntKind.u8 1, AV.int IntKind.u8 0, AV.int IntKind.u8 0, AV.int IntKind.u8 0, AV.int IntKind.u8 0, AV.int IntKind.u8 0, AV.int IntKind.u8 0, AV.int IntKind.u8 0, AV.int IntKind.u8 0, AV.int IntKind.u8 0, AV.int IntKind.u8 0, AV.int IntKind.u8 0, AV.int IntKind.u8 0, AV.int IntKind.u16 (IntKind.u16.wrap (IntKind.u32.wrap (1000 + (IntKind.u32.wrap (n % 1073741824)).tmod 50000))), AV.int IntKind.u16 80]) := by
  kernel_rfl

theorem nfKeyF {R : Type} (n : Int) (v : Bool) (K : AV → Option R) :
    qrun Try.prog tRnd 100 6 [] [] 16 [.int .i64 n, .bool v, .bool false] [] (fun v _ => K v) =
    K (AV.agg [AV.int IntKind.u8 6, AV.bool v, AV.int IntKind.u8 10, AV.int IntKind.u8 (IntKind.u8.wrap ((IntKind.u32.wrap (n % 1073741824)).fdiv 65536)), AV.int IntKind.u8 (IntKind.u8.wrap ((IntKind.u32.wrap (n % 1073741824)).fdiv 256)), AV.int IntKind.u8 (IntKind.u8.wrap (IntKind.u32.wrap (n % 1073741824))), AV.int IntKind.u8 0, AV.int IntKind.u8 0, AV.int IntKind.u8 0, AV.int IntKind.u8 0, AV.int IntKind.u8 0, AV.int IntKind.u8 0, AV.int IntKind.u8 0, AV.int IntKind.u8 0, AV.int IntKind.u8 0, AV.int IntKind.u8 0, AV.int IntKind.u8 0, AV.int IntKind.u8 0, AV.bool v, AV.int IntKind.u8 192, AV.int IntKind.u8 168, AV.int IntKind.u8 0, AV.int IntKind.u8 1, AV.int IntKind.u8 0, AV.int IntKind.u8 0, AV.int IntKind.u8 0, AV.int IntKind.u8 0, AV.int IntKind.u8 0, AV.int IntKind.u8 0, AV.int IntKind.u8 0, AV.int IntKind.u8 0, AV.int IntKind.u8 0, AV.int IntKind.u8 0, AV.int IntKind.u8 0, AV.int IntKind.u8 0, AV.int IntKind.u16 (IntKind.u16.wrap (IntKind.u32.wrap (1000 + (IntKind.u32.wrap (n % 1073741824)).tmod 50000))), AV.int IntKind.u16 80]) := by
  kernel_rfl

theorem nfDip {R : Type} (n : Int) (v : Bool) (K : AV → Option R) :
    qrun Try.prog tRnd 100 6 [] [] 17 [.int .i64 n, .bool v] [] (fun v _ => K v) =
    K (AV.agg [AV.bool v, AV.int IntKind.u8 172, AV.int IntKind.u8 16, AV.int IntKind.u8 0, AV.int IntKind.u8 (IntKind.u8.wrap (IntKind.i64.wrap (1 + n % 200))), AV.int IntKind.u8 0, AV.int IntKind.u8 0, AV.int IntKind.u8 0, AV.int IntKind.u8 0, AV.int IntKind.u8 0, AV.int IntKind.u8 0, AV.int IntKind.u8 0, AV.int IntKind.u8 0, AV.int IntKind.u8 0, AV.int IntKind.u8 0, AV.int IntKind.u8 0, AV.int IntKind.u8 0, AV.int IntKind.u16 (IntKind.u16.wrap (IntKind.i64.wrap (8000 + n % 1000)))]) := by
  kernel_rfl


theorem sKey : SoundE Try.prog 16 (entF eKey) := by
  refine canonV_sound fun args h v h' hg => ?_
  unfold eKey at hg
  split at hg
  · rename_i n v u
    simp only [Option.some.injEq, Prod.mk.injEq, true_and] at hg
    obtain ⟨rfl, rfl⟩ := hg
    refine ⟨rfl, rfl, [.int .i64 n, .bool v, .bool u], [], .cons _ _ _ _ _ _ _ (.flat _ _ rfl) (.cons _ _ _ _ _ _ _ (.flat _ _ rfl) (.cons _ _ _ _ _ _ _ (.flat _ _ rfl) (.nil _))), ?_⟩
    have w0 : IntKind.u32.wrap (n % 1073741824) = n % 1073741824 := wrapU32 (by omega)
    have w1 : IntKind.u8.wrap ((n % 1073741824).fdiv 65536) = kb1 n := by rw [wrapU8', Int.fdiv_eq_ediv_of_nonneg _ (by omega)]; rfl
    have w2 : IntKind.u8.wrap ((n % 1073741824).fdiv 256) = kb2 n := by rw [wrapU8', Int.fdiv_eq_ediv_of_nonneg _ (by omega)]; rfl
    have w3 : IntKind.u8.wrap (n % 1073741824) = kb3 n := by rw [wrapU8']; rfl
    have w4 : IntKind.u16.wrap (IntKind.u32.wrap (1000 + (n % 1073741824).tmod 50000)) = kport n := by
      rw [Int.tmod_eq_emod_of_nonneg (by omega), wrapU32 (by omega), wrapU16 (by omega)]; rfl
    cases u
    · refine Runs.valT0 tRndOk (F := 100) (n := 6) (pr := []) ?_
      rw [nfKeyF, w0, w1, w2, w3, w4]
      rfl
    · refine Runs.valT0 tRndOk (F := 100) (n := 6) (pr := []) ?_
      rw [nfKeyT, w0, w1, w2, w3, w4]
      rfl
  · simp at hg

theorem sDip : SoundE Try.prog 17 (entF eDip) := by
  refine canonV_sound fun args h v h' hg => ?_
  unfold eDip at hg
  split at hg
  · rename_i n v
    simp only [Option.some.injEq, Prod.mk.injEq, true_and] at hg
    obtain ⟨rfl, rfl⟩ := hg
    refine ⟨rfl, rfl, [.int .i64 n, .bool v], [], .cons _ _ _ _ _ _ _ (.flat _ _ rfl) (.cons _ _ _ _ _ _ _ (.flat _ _ rfl) (.nil _)), ?_⟩
    have w1 : IntKind.u8.wrap (IntKind.i64.wrap (1 + n % 200)) = db3 n := by rw [wrapI64 (by omega), wrapU8 (by omega)]; rfl
    have w2 : IntKind.u16.wrap (IntKind.i64.wrap (8000 + n % 1000)) = dport n := by rw [wrapI64 (by omega), wrapU16 (by omega)]; rfl
    refine Runs.valT0 tRndOk (F := 100) (n := 6) (pr := []) ?_
    rw [nfDip, w1, w2]
    rfl
  · simp at hg

end Go.Proofs.Ytmlmdbicbpicbaa.L

namespace Go.Abs

theorem byteD_u8i {k : IntKind} {x : Int} (h : 0 ≤ x ∧ x < 256) : byteD (.int k x) = u8i x := by
  show UInt8.ofNat x.toNat = UInt8.ofNat (x % 256).toNat
  rw [Int.emod_eq_of_lt h.1 h.2]
theorem u8i_val {x : Int} (h : 0 ≤ x ∧ x < 256) : ((u8i x).toNat : Int) = x := by rw [u8i_toNat]; omega
theorem byt_app (A X : List UInt8) (i : Nat) : byt (A ++ X) i = if i < A.length then byt A i else byt X (i - A.length) := by
  simp only [byt, List.getD]
  split
  · rename_i h; rw [List.getElem?_append_left h]
  · rename_i h; rw [List.getElem?_append_right (by omega)]

def kSrcB (n : Int) : List UInt8 := [10, u8i (kb1 n), u8i (kb2 n), u8i (kb3 n), 0, 0, 0, 0, 0, 0, 0, 0, 0, 0, 0, 0]
def kDstB : List UInt8 := [192, 168, 0, 1, 0, 0, 0, 0, 0, 0, 0, 0, 0, 0, 0, 0]
def dAdrB (m : Int) : List UInt8 := [172, 16, 0, u8i (db3 m), 0, 0, 0, 0, 0, 0, 0, 0, 0, 0, 0, 0]
theorem kSrc_B (v : Bool) (n : Int) : kSrc v n = .bool v :: bys (kSrcB n) := by
  simp [kSrc, adrV, kSrcB, bys, u8i_val (kb1_range n), u8i_val (kb2_range n), u8i_val (kb3_range n)]
theorem kDst_B (v : Bool) : kDst v = .bool v :: bys kDstB := by simp [kDst, adrV, kDstB, bys]
theorem dAdr_B (v : Bool) (m : Int) : dAdr v m = .bool v :: bys (dAdrB m) := by
  have := db3_range m
  simp [dAdr, adrV, dAdrB, bys, u8i_val (x := db3 m) (by omega)]

end Go.Abs
