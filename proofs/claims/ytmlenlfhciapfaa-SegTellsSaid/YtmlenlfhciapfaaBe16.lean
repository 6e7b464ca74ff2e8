/- The reference's Be16. -/
import Derived.Test.YtmlenlfhciapfaaProg
import Derived.Test.YtmlenlfhciapfaaPure
set_option autoImplicit false
set_option maxRecDepth 100000
set_option linter.unusedVariables false
set_option linter.unusedSimpArgs false
namespace Go.Proofs.Ytmlenlfhciapfaa.L
open Go Go.Abs

/-! ### Be16 -/

theorem or64i {a b : Int} (ha : 0 ≤ a ∧ a < 256) (hb : 0 ≤ b ∧ b < 256) : abits .i64 (· ||| ·) (IntKind.i64.wrap (IntKind.i64.wrap a * 256)) (IntKind.i64.wrap b) = a * 256 + b := by
  rw [wrapI64 (n := a) (by omega), wrapI64 (by omega), wrapI64 (by omega)]
  obtain ⟨x, rfl⟩ := Int.eq_ofNat_of_zero_le ha.1
  obtain ⟨y, rfl⟩ := Int.eq_ofNat_of_zero_le hb.1
  show IntKind.i64.wrap ((BitVec.ofInt 64 ((x : Int) * 256) ||| BitVec.ofInt 64 (y : Int)).toNat : Int) = _
  have e : ((x : Int) * 256) = ((x * 256 : Nat) : Int) := by omega
  rw [e, BitVec.toNat_or, ofIntNat 64 (x * 256) (by omega), ofIntNat 64 y (by omega)]
  have : x * 256 ||| y = x * 256 + y := by
    have := Nat.two_pow_add_eq_or_of_lt (i := 8) (b := y) (by omega) x
    rw [Nat.mul_comm x 256, show (256 : Nat) = 2 ^ 8 by rfl, ← this]
  rw [this, wrapI64 (by omega)]
  omega

def eBe16 : GEnt := fun args h => match args with
  | [b, .int .i64 i] => some (bOk h b && decide (nOf b ≤ 70368744177664 ∧ 0 ≤ i ∧ i + 2 ≤ (nOf b : Int)), .int .i64 (word (bOf h b) i.toNat), h)
  | _ => none

theorem nfBe16 {R : Type} (l : List UInt8) (i : Int) (K : AV → Option R) : abody Try.prog (deepC Try.prog [] 100 4) (mixLS [] (autoLS Try.prog (deepC Try.prog [] 100 4) 100 4 (bodyOf Try.prog 23))) 23 [slB 0 l, .int .i64 i] [farB l] (fun v _ => K v) =
    (if 0 ≤ i ∧ i < (l.length : Int) then
      (if isIntV .u8 (bys l)[0 + i.toNat * 1]? = true then
        (if 0 ≤ IntKind.i64.wrap (i + 1) ∧ IntKind.i64.wrap (i + 1) < (l.length : Int) then
          (if isIntV .u8 (bys l)[0 + (IntKind.i64.wrap (i + 1)).toNat * 1]? = true then
            K (.int .i64 (abits .i64 (· ||| ·) (IntKind.i64.wrap (IntKind.i64.wrap (intV (bys l)[0 + i.toNat * 1]?) * 256)) (IntKind.i64.wrap (intV (bys l)[0 + (IntKind.i64.wrap (i + 1)).toNat * 1]?))))
          else none)
        else none)
      else none)
    else none) := by
  kernel_rfl

theorem sBe16 : SoundE Try.prog 23 (entF eBe16) := by
  refine canonV_sound fun args h v h' hg => ?_
  unfold eBe16 at hg
  split at hg
  · rename_i b i
    simp only [Option.some.injEq, Prod.mk.injEq, Bool.and_eq_true, decide_eq_true_eq] at hg
    obtain ⟨⟨hb, hn, h0, h2⟩, rfl, rfl⟩ := hg
    refine ⟨rfl, rfl, [slB 0 (bOf h b), .int .i64 i], [farB (bOf h b)], .cons _ _ _ _ _ _ _ (bOk_canon hb 0) (.cons _ _ _ _ _ _ _ (.flat _ _ rfl) (.nil _)), ?_⟩
    rw [← bOk_len hb] at hn h2
    generalize bOf h b = l at hn h2
    refine Runs.val0 (find_nil _) (F := 100) (n := 4) ?_
    have e1 : 0 + i.toNat * 1 = i.toNat := by omega
    have e2 : IntKind.i64.wrap (i + 1) = i + 1 := wrapI64 (by omega)
    have e3 : 0 + (i + 1).toNat * 1 = i.toNat + 1 := by omega
    rw [nfBe16, e2, e1, e3, if_pos (by omega), bys_get, isIntV_byte, if_pos (by simp; omega), if_pos (by omega), bys_get, isIntV_byte, if_pos (by simp; omega), intV_byte, intV_byte, or64i (byt_range _ _) (byt_range _ _)]
    rfl
  · simp at hg

end Go.Proofs.Ytmlenlfhciapfaa.L
