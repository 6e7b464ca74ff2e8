/- Texts that stand together: Oct, Clone, Be16. -/
import Derived.Test.YtjlepcfeeicdfaaProg
import Derived.Test.YtjlepcfeeicdfaaBase
section
/- octet's Get. -/
set_option autoImplicit false
set_option maxRecDepth 100000
set_option linter.unusedVariables false
set_option linter.unusedSimpArgs false
namespace Go.Proofs.Ytjlepcfeeicdfaa.L
open Go Go.Abs
open Go.IntKind (u8 u16 u32 u64 i64)
open Go.Abs.AV (int)
open Go.Abs.ABlk (cells)

end Go.Proofs.Ytjlepcfeeicdfaa.L

end

section
/- slices.Clone of bytes. -/
set_option autoImplicit false
set_option maxRecDepth 100000
set_option linter.unusedVariables false
set_option linter.unusedSimpArgs false
namespace Go.Proofs.Ytjlepcfeeicdfaa.L
open Go Go.Abs
open Go.IntKind (u8 u16 u32 u64 i64)
open Go.Abs.AV (int)
open Go.Abs.ABlk (cells)

theorem nfClone {R : Type} (l : List UInt8) (c : Nat) (K : AV → AHeap → Option R) : abody Try.prog (deepC Try.prog [] 100 0) noLS 45 [.sl (some (0, 0)) l.length c true] [farB l] K =
 (if 0 + l.length * 1 ≤ (bys l).length then
 (if (2 * (0 + l.length) + 200) * 1 ≤ 281474976710656 ∧ some 1 = some 1 ∧ 0 + l.length ≤ 70368744177664 then
 (if 0 = 0 ∧ 0 = 0 ∧ (0 < l.length ∨ 0 = 0) ∧ 1 = 1 ∧ (List.take (l.length * 1) (bys l)).all AV.isCell = true then
 K (AV.sl (some (2, 0)) (0 + l.length) 0 false) [farB l, cells (zrep 0 [int u8 0]) 1 Md.ro none, cells (List.take 0 (zrep 0 [int u8 0]) ++ List.take (l.length * 1) (bys l)) 1 Md.own (some 1)]
 else none) else none)
    else none) := by kernel_rfl
theorem nfClone0 {R : Type} (K : AV → AHeap → Option R) : abody Try.prog (deepC Try.prog [] 100 0) noLS 45 [.sl none 0 0 true] [] K = K (.sl none 0 0 true) [] := by kernel_rfl

theorem sl_inv {σ : Sig} {i o l c : Nat} {e : Bool} {v : Value} (h : VR σ (.sl (some (i, o)) l c e) v) : (v = .slice none 0 0 ∧ l = 0) ∨
    ∃ p a c', v = .slice (some a) l c' ∧ σ[i]? = some p ∧ l ≤ c' ∧ (a = ⟨p.blk, p.off + o, none⟩ ∨ c' = 0) := by
  cases h with
  | sln => exact .inl ⟨rfl, rfl⟩
  | sl _ _ _ _ _ p ad c' hp hl hc hadr => exact .inr ⟨p, ad, c', rfl, hp, hl, hadr⟩

theorem loopsClone : loopsOf (bodyOf Try.prog 45) = [] := by kernel_rfl

def eClone : GEnt := fun args h => match args with
  | [b] => some (bOk h b && decide (nOf b ≤ 1000000000000), slB h.length (bOf h b), h ++ [ownB (bOf h b)])
  | _ => none

theorem sClone : SoundE Try.prog 45 (entF eClone) := by
  intro W0 σ h w args args' v h' hx R hv
  replace hx := entF_get hx
  unfold eClone at hx
  split at hx
  · rename_i b
    simp only [Option.some.injEq, Prod.mk.injEq, Bool.and_eq_true, decide_eq_true_eq] at hx
    obtain ⟨⟨hb, hn⟩, rfl, rfl⟩ := hx
    have hlen := bOk_len hb
    have SC : SoundC Try.prog (deepC Try.prog [] 100 0) := deepC_sound (find_nil _) 100 0
    have hE : SoundE Try.prog 45 (bodyE Try.prog (deepC Try.prog [] 100 0) noLS 45) := body_sound SC (loopsOk0 loopsClone)
    obtain ⟨τ0, A0, hv0⟩ := (Canons.cons 0 b [] _ [] _ [] (bOk_canon hb 0) (.nil _)).sim R hv [] rfl
    rw [List.nil_append] at hv0 A0
    have R1 := far_rel A0
    generalize bOf h b = l at *
    generalize hal : args'.toList = al at *
    cases hv0 with
    | cons _ v0 _ m hv0 hm =>
    cases hm
    rcases sl_inv hv0 with ⟨rfl, hl0⟩ | ⟨p, ad, c', rfl, hp, hl, hadr⟩
    · have : l = [] := List.eq_nil_of_length_eq_zero hl0
      subst this
      exact canon_call hE R (Rel.nothing w) (args1 := [.sl none 0 0 true]) (by rw [hal]; exact .cons _ _ _ _ (.sl0 true) .nil) (by rw [bodyE_get, nfClone0]) (n0 := 0) denB0 (ksOk1 none)
    · refine canon_call hE R R1 (args1 := [.sl (some (0, 0)) l.length c' true]) (by rw [hal]; exact .cons _ _ _ _ (.sl _ _ _ _ _ p _ c' hp hl (by simp [capOf]) hadr) .nil) (by
        rw [bodyE_get]
        refine (nfClone l c' _).trans ?_
        rw [if_pos (by simp), if_pos ⟨by omega, rfl, by omega⟩, if_pos ⟨rfl, rfl, .inr rfl, rfl, by simp⟩]) (n0 := 1) (denB (k := 2) (by omega) rfl ?_ ?_) (ksOk1 _)
      · simp [zrep]
      · omega
  · simp at hx

end Go.Proofs.Ytjlepcfeeicdfaa.L

end

section
/- The reference's Be16. -/
set_option autoImplicit false
set_option maxRecDepth 100000
set_option linter.unusedVariables false
set_option linter.unusedSimpArgs false
namespace Go.Proofs.Ytjlepcfeeicdfaa.L
open Go Go.Abs
open Go.IntKind (u8 u16 u32 u64 i64)
open Go.Abs.AV (int)
open Go.Abs.ABlk (cells)


end Go.Proofs.Ytjlepcfeeicdfaa.L

end
