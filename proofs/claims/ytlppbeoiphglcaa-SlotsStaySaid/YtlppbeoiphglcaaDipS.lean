/- DIPs by their numbers. -/
import Derived.Test.YtlppbeoiphglcaaAddrB
import Derived.Test.YtlppbeoiphglcaaImK
set_option autoImplicit false
set_option maxRecDepth 100000
set_option linter.unusedVariables false
set_option linter.unusedSimpArgs false
namespace Go.Proofs.Ytlppbeoiphglcaa.L
open Go Go.Abs

noncomputable def tRnd : Tbl := [(22, entF eRound)]
theorem tRndOk : ∀ f E, tRnd.find f = some E → SoundE Try.prog f E := find_cons sRound (find_nil _)
theorem nfDip {R : Type} (n : Int) (v : Bool) (K : AV → Option R) :
 qrun Try.prog tRnd 100 6 [] [] 30 [.int .i64 n, .bool v] [] (fun v _ => K v) =
 K (AV.agg [AV.bool v, AV.int IntKind.u8 172, AV.int IntKind.u8 16, AV.int IntKind.u8 0, AV.int IntKind.u8 (IntKind.u8.wrap (IntKind.i64.wrap (1 + n % 200))), AV.int IntKind.u8 0, AV.int IntKind.u8 0, AV.int IntKind.u8 0, AV.int IntKind.u8 0, AV.int IntKind.u8 0, AV.int IntKind.u8 0, AV.int IntKind.u8 0, AV.int IntKind.u8 0, AV.int IntKind.u8 0, AV.int IntKind.u8 0, AV.int IntKind.u8 0, AV.int IntKind.u8 0, AV.int IntKind.u16 (IntKind.u16.wrap (IntKind.i64.wrap (8000 + n % 1000)))]) := by
  kernel_rfl


theorem sDip : SoundE Try.prog 30 (entF eDip) := by
  refine canonV_sound fun args h v h' hg => ?_
  unfold eDip at hg
  split at hg
  · rename_i n v
    simp only [Option.some.injEq, Prod.mk.injEq, true_and] at hg
    obtain ⟨rfl, rfl⟩ := hg
    refine ⟨rfl, rfl, [.int .i64 n, .bool v], [], .cons _ _ _ _ _ _ _ (.flat _ _ rfl) (.cons _ _ _ _ _ _ _ (.flat _ _ rfl) (.nil _)), ?_⟩
    have w1 : IntKind.u8.wrap (IntKind.i64.wrap (1 + n % 200)) = db3 n := by rw [wrapI64 (by omega), wrapU8 (by omega)]; rfl
    have w2 : IntKind.u16.wrap (IntKind.i64.wrap (8000 + n % 1000)) = dport n := by rw [wrapI64 (by omega), wrapU16 (by omega)]; rfl
    refine Runs.valT0 tRndOk (F := 100) (n := 6) (pr := []) ?_
    rw [nfDip, w1, w2]
    rfl
  · simp at hg
def dipN (v : Bool) (n : Int) : DipC := ⟨v, [172, 16, 0, db3 n, 0, 0, 0, 0, 0, 0, 0, 0, 0, 0, 0, 0], dport n, rfl⟩
theorem dipN_ok (v : Bool) (n : Int) : (dipN v n).ok = true := by cases v <;> rfl
theorem dipN_inj {v w : Bool} {n m : Int} (hn : 0 ≤ n ∧ n < 1000) (hm : 0 ≤ m ∧ m < 1000) : dipN v n = dipN w m ↔ v = w ∧ n = m := by
  constructor
  · intro h
    have h1 := congrArg DipC.v h
    have h2 := congrArg DipC.p h
    simp only [dipN, dport] at h1 h2
    exact ⟨h1, by omega⟩
  · rintro ⟨rfl, rfl⟩; rfl
def cellsN (v : Bool) (n : Int) : List AV := (dipN v n).cells
noncomputable def eDipO : GEnt := fun args h => match args with
  | [.int .i64 n, .bool v] => some (true, .agg (opq cellsN v n), h)
  | _ => none
theorem sDipO : SoundE Try.prog 30 (entF eDipO) := entF_sound sDip fun args h v h' hg => by
  unfold eDipO at hg
  split at hg
  · simp only [Option.some.injEq, Prod.mk.injEq, true_and] at hg
    obtain ⟨rfl, rfl⟩ := hg
    rw [opq_eq]; rfl
  · simp at hg

end Go.Proofs.Ytlppbeoiphglcaa.L
