/- octet's Append. -/
import Derived.Test.YtjlepcfeeicdfaaPut
set_option autoImplicit false
set_option maxRecDepth 100000
set_option linter.unusedVariables false
set_option linter.unusedSimpArgs false
namespace Go.Proofs.Ytjlepcfeeicdfaa.L
open Go Go.Abs
open Go.IntKind (u8 u16 u32 u64 i64)
open Go.Abs.AV (int)
open Go.Abs.ABlk (cells)

noncomputable def tApp16 : Tbl := [(45, entF eClone), (46, entF ePut16)]
theorem tApp16Ok : ∀ f E, tApp16.find f = some E → SoundE Try.prog f E := find_cons sClone (find_cons sPut16 (find_nil _))
noncomputable def hApp160 (l : List UInt8) (v : Int) : AHeap := [cells (bys l) 1 Md.far none]
noncomputable def hApp161 (l : List UInt8) (v : Int) : AHeap := [cells (bys l) 1 Md.far none, ABlk.dead, cells (bys (putR (List.map byteD (List.take ((bOf (hApp160 l v) (AV.sl (some (0, 0)) l.length 0 false)).length * 1) (bys (bOf (hApp160 l v) (AV.sl (some (0, 0)) l.length 0 false))) ++ [int u8 0, int u8 0])) ((l.length : Int)) 2 v)) 1 Md.own none]
theorem nfApp16 {R : Type} (l : List UInt8) (v : Int) (K : AV → AHeap → Option R) :
 qrun Try.prog tApp16 100 4 [] [] 38 [slB 0 l, .int .u16 v] [farB l] K =
 (if (bOk (hApp160 l v) (AV.sl (some (0, 0)) l.length 0 false) && decide (nOf (AV.sl (some (0, 0)) l.length 0 false) ≤ 1000000000000)) = true then
 (if (2 * ((bOf (hApp160 l v) (AV.sl (some (0, 0)) l.length 0 false)).length + 2) + 200) * 1 ≤ 281474976710656 ∧ some 1 = some 1 ∧ (bOf (hApp160 l v) (AV.sl (some (0, 0)) l.length 0 false)).length + 2 ≤ 70368744177664 then
 (if 0 + (bOf (hApp160 l v) (AV.sl (some (0, 0)) l.length 0 false)).length * 1 ≤ (bys (bOf (hApp160 l v) (AV.sl (some (0, 0)) l.length 0 false))).length then
 (if 0 = 0 ∧ 0 + (bOf (hApp160 l v) (AV.sl (some (0, 0)) l.length 0 false)).length * 1 = (bys (bOf (hApp160 l v) (AV.sl (some (0, 0)) l.length 0 false))).length ∧ (0 < 2 ∨ 0 = 0) ∧ 1 = 1 ∧ true = true then
 (if cdec (0 = 0 ∧ 0 = 0 ∧ false = false ∧ 1 = 1 ∧ (bOf (hApp160 l v) (AV.sl (some (0, 0)) l.length 0 false)).length + 2 = (List.take ((bOf (hApp160 l v) (AV.sl (some (0, 0)) l.length 0 false)).length * 1) (bys (bOf (hApp160 l v) (AV.sl (some (0, 0)) l.length 0 false))) ++ [int u8 0, int u8 0]).length ∧ (bOf (hApp160 l v) (AV.sl (some (0, 0)) l.length 0 false)).length + 2 ≤ 1000000000000 ∧ (List.take ((bOf (hApp160 l v) (AV.sl (some (0, 0)) l.length 0 false)).length * 1) (bys (bOf (hApp160 l v) (AV.sl (some (0, 0)) l.length 0 false))) ++ [int u8 0, int u8 0]).all isByteR = true ∧ 0 ≤ v ∧ v < 65536 ∧ some 1 ≠ some 2) = true then
 K (AV.sl (some (2, 0)) ((bOf (hApp160 l v) (AV.sl (some (0, 0)) l.length 0 false)).length + 2) 0 false) ((hApp161 l v))
 else none) else none) else none) else none) else none) := by
  kernel_rfl

def eApp16 : GEnt := fun args h => match args with
  | [b, .int .u16 v] => some (bOk h b && decide (nOf b ≤ 100000000000 ∧ 0 ≤ v ∧ v < 256 ^ 2), slB h.length (bOf h b ++ bigR v 2), h ++ [ownB (bOf h b ++ bigR v 2)])
  | _ => none

theorem sApp16 : SoundE Try.prog 38 (entF eApp16) := by
  refine canonR_sound fun args h v h' hg => ?_
  unfold eApp16 at hg
  split at hg
  · rename_i b x
    simp only [Option.some.injEq, Prod.mk.injEq, Bool.and_eq_true, decide_eq_true_eq] at hg
    obtain ⟨⟨hb, hn, hx⟩, rfl, rfl⟩ := hg
    rw [← bOk_len hb] at hn
    refine ⟨[slB 0 (bOf h b), .int .u16 x], [farB (bOf h b)], .cons _ _ _ _ _ _ _ (bOk_canon hb 0) (.cons _ _ _ _ _ _ _ (.flat _ _ rfl) (.nil _)), ?_⟩
    generalize bOf h b = l at hn
    have g := bOk_far (h := hApp160 l x) (k := 0) (l := l) rfl
    have e0 : (bys l ++ [int u8 0, int u8 0]) = bys (l ++ List.replicate 2 0) := by simp [bys]
    have e2 : putR (l ++ List.replicate 2 0) (l.length : Int) 2 x = l ++ bigR x 2 := by
      unfold putR
      rw [if_pos (by simp)]
      simp
    refine ⟨slB 2 (l ++ bigR x 2), [farB l, .dead, ownB (l ++ bigR x 2)], Runs.ofT0 tApp16Ok (F := 100) (n := 4) (pr := []) ?_, [some 2], _, rfl, denB (by simp) rfl rfl rfl, ksOk1 _⟩
    rw [nfApp16]
    have e1 : List.take (l.length * 1) (bys l) = bys l := by simp
    unfold hApp161
    rw [g.1, g.2, e1, e0, bys_byteD, e2]
    refine (if_pos (by rw [Bool.true_and]; exact decide_eq_true (show l.length ≤ 1000000000000 by omega))).trans ?_
    refine (if_pos ⟨by omega, rfl, by omega⟩).trans ?_
    refine (if_pos (by simp)).trans ?_
    refine (if_pos ⟨rfl, by simp, .inr rfl, rfl, rfl⟩).trans ?_
    refine (if_pos (cdec_true.2 ⟨rfl, rfl, rfl, rfl, by simp, by omega, by simp, hx.1, hx.2, by simp⟩)).trans ?_
    have e4 : l.length + 2 = (l ++ bigR x 2).length := by simp
    rw [e4]
  · simp at hg


end Go.Proofs.Ytjlepcfeeicdfaa.L
