/- Texts that stand together: Oct, Clone, Be16. -/
import Derived.Test.YtjlepcfeeicdfaaProg
import Derived.Test.YtjlepcfeeicdfaaBase
section
/- octet's Get. -/
set_option autoImplicit false
set_option maxRecDepth 100000
set_option linter.unusedVariables false
set_option linter.unusedSimpArgs false
namespace Go.Proofs.Ytjlepcfeeicdfaa.L
open Go Go.Abs
open Go.IntKind (u8 u16 u32 u64 i64)
open Go.Abs.AV (int)
open Go.Abs.ABlk (cells)

def mGet (k : Nat) : List Bool := List.replicate 7 false ++ [true] ++ List.replicate 13 false ++ [true, true, true] ++ List.replicate k false
def vGet (x : Int) (p n r : Nat) (m i : Int) : List AV := [.int .u64 x, .sl (some (0, p)) n r false, .int .i64 m, .int .i64 i]

def getR (k : IntKind) (sz : Nat) (l : List UInt8) (p : Int) : AV :=
  .tup [.int k (if 0 ≤ p ∧ p + sz ≤ l.length then numAt l p.toNat sz else 0), .bool (decide (0 ≤ p ∧ p + sz ≤ l.length))]


theorem nfGetR16 (CALL : CallT) (l : List UInt8) (x : Int) (p n r : Nat) (m i : Int) : roundG Try.prog CALL noLS (loopIn (bodyOf Try.prog 33) 0) (mGet 11) (vGet x p n r m i) [farB l] =
 if decide (i < m) = true then
 (if 0 ≤ i ∧ i < (n : Int) then
 (if isIntV .u8 (bys l)[p + i.toNat * 1]? = true then
 some (.norm, vGet (abits .u64 (· ||| ·) (u64.wrap (x * 256)) (u64.wrap (intV (bys l)[p + i.toNat * 1]?))) p n r m (i64.wrap (i + 1)), [farB l])
 else none) else none)
    else some (.exit 0, vGet x p n r m i, [farB l]) := by kernel_rfl

noncomputable def gGet16 : GLoop := fun vs h => match vs, h with
  | [.int .u64 x, .sl (some (0, p)) n r false, .int .i64 m, .int .i64 i], [.cells vs e .far none] =>
    some (cdec (x = 0 ∧ n = 2 ∧ m = 2 ∧ i = 0 ∧ e = 1 ∧ ∃ l, vs = bys l ∧ p + 2 ≤ l.length), .exit 0, vGet (numAt (vs.map byteD) p 2) p n r 2 2, [.cells vs e .far none])
  | _, _ => none

theorem loopGet16 : SoundS Try.prog (loopF (mGet 11) gGet16) (loopIn (bodyOf Try.prog 33) 0) := by
  have SC : SoundC Try.prog (deepC Try.prog [] 100 4) := deepC_sound (find_nil _) 100 4
  refine @loopF_sound Try.prog (deepC Try.prog [] 100 4) SC noLS (loopIn (bodyOf Try.prog 33) 0) (noLoops (by kernel_rfl)) (mGet 11) gGet16 fun vs h e vs' h' hg => ?_
  unfold gGet16 at hg
  split at hg
  · rename_i x p n r m i vs e
    simp only [Option.some.injEq, Prod.mk.injEq] at hg
    obtain ⟨hc, rfl, rfl, rfl⟩ := hg
    rw [cdec_true] at hc
    obtain ⟨rfl, rfl, rfl, rfl, rfl, l, rfl, hl⟩ := hc
    rw [bys_byteD]
    have := loop_up (body := roundG Try.prog (deepC Try.prog [] 100 4) noLS (loopIn (bodyOf Try.prog 33) 0) (mGet 11)) (fun i => (vGet (numAt l p i) p 2 r 2 i, [farB l])) (n := 2) (e := .exit 0) (vs := vGet (numAt l p 2) p 2 r 2 2) (h := [farB l]) (by simp)
      (fun i hi => by
        simp only [nfGetR16]
        have hr := numAt_range l p i
        have hp : (256 : Int) ^ i ≤ 256 ^ 1 := by
          rw [show (256 : Int) = ((256 : Nat) : Int) from rfl, ← Int.natCast_pow, ← Int.natCast_pow]
          exact Int.ofNat_le.2 (Nat.pow_le_pow_right (by omega) (by omega))
        have hb := byt_range l (p + i)
        rw [if_pos (by simp; omega), if_pos (by omega)]
        have e1 : p + (i : Int).toNat * 1 = p + i := by omega
        rw [e1, bys_get, isIntV_byte, if_pos (by simp; omega), intV_byte, or64w ⟨hr.1, by omega⟩ hb, ← numAt_succ (by omega), wrapI64 (by omega)]
        rfl)
      (by
        simp only [nfGetR16]
        rw [if_neg (by simp)]
        rfl)
    simp only [numAt_zero] at this
    exact this
  · simp at hg

noncomputable def lsGet16 : List (Nat × LoopF) := [(6, loopF (mGet 11) gGet16)]

theorem okGet16 : SoundE Try.prog 33 (runE Try.prog [] 100 4 lsGet16 33) := by
  refine runE_sound1 (find_nil _) 100 4 (fun b hb _ => ?_) loopGet16
  have : loopsOf (bodyOf Try.prog 33) = [loopIn (bodyOf Try.prog 33) 0] := by kernel_rfl
  rw [this] at hb
  simpa using hb

theorem nfGet16 {R : Type} (l : List UInt8) (p : Int) (K : AV → AHeap → Option R) : abody Try.prog (deepC Try.prog [] 100 4) (mixLS lsGet16 (autoLS Try.prog (deepC Try.prog [] 100 4) 100 4 (bodyOf Try.prog 33))) 33 [slB 0 l, .int .i64 p] [farB l] K =
 if decide (p ≥ 0) = true then
 (if decide (p ≤ (l.length : Int)) = true then
 (if (!decide (i64.wrap ((l.length : Int) - p) ≥ 2)) = true then K (.tup [.int .u16 0, .bool false]) [farB l]
 else (if 0 ≤ i64.wrap (p + 2) ∧ i64.wrap (p + 2) ≤ (capOf l.length 0 false : Int) then
 (if 0 ≤ p ∧ p ≤ i64.wrap (p + 2) then
 (if cdec ((0 : Int) = 0 ∧ (i64.wrap (p + 2)).toNat - p.toNat = 2 ∧ (((i64.wrap (p + 2)).toNat - p.toNat : Nat) : Int) = 2 ∧ (0 : Int) = 0 ∧ 1 = 1 ∧ ∃ l_1, bys l = bys l_1 ∧ 0 + p.toNat * 1 + 2 ≤ l_1.length) = true then
 K (.tup [.int .u16 (u16.wrap (numAt (List.map byteD (bys l)) (0 + p.toNat * 1) 2)), .bool true]) [farB l]
 else none) else none) else none))
 else K (.tup [.int .u16 0, .bool false]) [farB l])
    else K (.tup [.int .u16 0, .bool false]) [farB l] := by kernel_rfl

noncomputable def eGet16 : GEnt := fun args h => match args with
  | [b, .int .i64 p] => some (bOk h b && decide ((nOf b : Int) < 9223372036854775000), getR .u16 2 (bOf h b) p, h)
  | _ => none

theorem sGet16 : SoundE Try.prog 33 (entF eGet16) := by
  refine canonF_sound fun args h v h' hg => ?_
  unfold eGet16 at hg
  split at hg
  · rename_i b p
    simp only [Option.some.injEq, Prod.mk.injEq, Bool.and_eq_true, decide_eq_true_eq] at hg
    obtain ⟨⟨hb, hn⟩, rfl, rfl⟩ := hg
    have hlen := bOk_len hb
    refine ⟨_, okGet16, [slB 0 (bOf h b), .int .i64 p], [farB (bOf h b)], .cons _ _ _ _ _ _ _ (bOk_canon hb 0) (.cons _ _ _ _ _ _ _ (.flat _ _ rfl) (.nil _)), getR .u16 2 (bOf h b) p, [farB (bOf h b)], ?_, [], [], by simp, .flat _ _ rfl, ksOk0⟩
    generalize bOf h b = l at hlen
    rw [runE_get, nfGet16]
    have hr := numAt_range l p.toNat 2
    unfold getR
    by_cases h0 : 0 ≤ p
    · rw [if_pos (by simpa using h0)]
      by_cases h1 : p ≤ (l.length : Int)
      · rw [if_pos (by simpa using h1), wrapI64 (n := (l.length : Int) - p) (by omega)]
        by_cases h2 : p + 2 ≤ (l.length : Int)
        · have e : i64.wrap (p + 2) = p + 2 := wrapI64 (by omega)
          have e1 : 0 + p.toNat * 1 = p.toNat := by omega
          have hc : (0 ≤ p ∧ p + ((2 : Nat) : Int) ≤ (l.length : Int)) := ⟨h0, by omega⟩
          rw [if_neg (by simp; omega), e, if_pos (by simp [capOf]; omega), if_pos (by omega), if_pos (cdec_true.2 ⟨rfl, by omega, by omega, rfl, rfl, l, rfl, by omega⟩), bys_byteD, e1, if_pos hc, decide_eq_true hc, wrapU16 (by omega)]
        · have hc : ¬ (0 ≤ p ∧ p + ((2 : Nat) : Int) ≤ (l.length : Int)) := by omega
          rw [if_pos (by simp; omega), if_neg hc, decide_eq_false hc]
      · have hc : ¬ (0 ≤ p ∧ p + ((2 : Nat) : Int) ≤ (l.length : Int)) := by omega
        rw [if_neg (by simpa using h1), if_neg hc, decide_eq_false hc]
    · have hc : ¬ (0 ≤ p ∧ p + ((2 : Nat) : Int) ≤ (l.length : Int)) := by omega
      rw [if_neg (by simpa using h0), if_neg hc, decide_eq_false hc]
  · simp at hg


end Go.Proofs.Ytjlepcfeeicdfaa.L

end

section
/- slices.Clone of bytes. -/
set_option autoImplicit false
set_option maxRecDepth 100000
set_option linter.unusedVariables false
set_option linter.unusedSimpArgs false
namespace Go.Proofs.Ytjlepcfeeicdfaa.L
open Go Go.Abs
open Go.IntKind (u8 u16 u32 u64 i64)
open Go.Abs.AV (int)
open Go.Abs.ABlk (cells)

theorem nfClone {R : Type} (l : List UInt8) (c : Nat) (K : AV → AHeap → Option R) : abody Try.prog (deepC Try.prog [] 100 0) noLS 45 [.sl (some (0, 0)) l.length c true] [farB l] K =
 (if 0 + l.length * 1 ≤ (bys l).length then
 (if (2 * (0 + l.length) + 200) * 1 ≤ 281474976710656 ∧ some 1 = some 1 ∧ 0 + l.length ≤ 70368744177664 then
 (if 0 = 0 ∧ 0 = 0 ∧ (0 < l.length ∨ 0 = 0) ∧ 1 = 1 ∧ (List.take (l.length * 1) (bys l)).all AV.isCell = true then
 K (AV.sl (some (2, 0)) (0 + l.length) 0 false) [farB l, cells (zrep 0 [int u8 0]) 1 Md.ro none, cells (List.take 0 (zrep 0 [int u8 0]) ++ List.take (l.length * 1) (bys l)) 1 Md.own (some 1)]
 else none) else none)
    else none) := by kernel_rfl
theorem nfClone0 {R : Type} (K : AV → AHeap → Option R) : abody Try.prog (deepC Try.prog [] 100 0) noLS 45 [.sl none 0 0 true] [] K = K (.sl none 0 0 true) [] := by kernel_rfl

theorem sl_inv {σ : Sig} {i o l c : Nat} {e : Bool} {v : Value} (h : VR σ (.sl (some (i, o)) l c e) v) : (v = .slice none 0 0 ∧ l = 0) ∨
    ∃ p a c', v = .slice (some a) l c' ∧ σ[i]? = some p ∧ l ≤ c' ∧ (a = ⟨p.blk, p.off + o, none⟩ ∨ c' = 0) := by
  cases h with
  | sln => exact .inl ⟨rfl, rfl⟩
  | sl _ _ _ _ _ p ad c' hp hl hc hadr => exact .inr ⟨p, ad, c', rfl, hp, hl, hadr⟩

theorem loopsClone : loopsOf (bodyOf Try.prog 45) = [] := by kernel_rfl

def eClone : GEnt := fun args h => match args with
  | [b] => some (bOk h b && decide (nOf b ≤ 1000000000000), slB h.length (bOf h b), h ++ [ownB (bOf h b)])
  | _ => none

theorem sClone : SoundE Try.prog 45 (entF eClone) := by
  intro W0 σ h w args args' v h' hx R hv
  replace hx := entF_get hx
  unfold eClone at hx
  split at hx
  · rename_i b
    simp only [Option.some.injEq, Prod.mk.injEq, Bool.and_eq_true, decide_eq_true_eq] at hx
    obtain ⟨⟨hb, hn⟩, rfl, rfl⟩ := hx
    have hlen := bOk_len hb
    have SC : SoundC Try.prog (deepC Try.prog [] 100 0) := deepC_sound (find_nil _) 100 0
    have hE : SoundE Try.prog 45 (bodyE Try.prog (deepC Try.prog [] 100 0) noLS 45) := body_sound SC (loopsOk0 loopsClone)
    obtain ⟨τ0, A0, hv0⟩ := (Canons.cons 0 b [] _ [] _ [] (bOk_canon hb 0) (.nil _)).sim R hv [] rfl
    rw [List.nil_append] at hv0 A0
    have R1 := far_rel A0
    generalize bOf h b = l at *
    generalize hal : args'.toList = al at *
    cases hv0 with
    | cons _ v0 _ m hv0 hm =>
    cases hm
    rcases sl_inv hv0 with ⟨rfl, hl0⟩ | ⟨p, ad, c', rfl, hp, hl, hadr⟩
    · have : l = [] := List.eq_nil_of_length_eq_zero hl0
      subst this
      exact canon_call hE R (Rel.nothing w) (args1 := [.sl none 0 0 true]) (by rw [hal]; exact .cons _ _ _ _ (.sl0 true) .nil) (by rw [bodyE_get, nfClone0]) (n0 := 0) denB0 (ksOk1 none)
    · refine canon_call hE R R1 (args1 := [.sl (some (0, 0)) l.length c' true]) (by rw [hal]; exact .cons _ _ _ _ (.sl _ _ _ _ _ p _ c' hp hl (by simp [capOf]) hadr) .nil) (by
        rw [bodyE_get]
        refine (nfClone l c' _).trans ?_
        rw [if_pos (by simp), if_pos ⟨by omega, rfl, by omega⟩, if_pos ⟨rfl, rfl, .inr rfl, rfl, by simp⟩]) (n0 := 1) (denB (k := 2) (by omega) rfl ?_ ?_) (ksOk1 _)
      · simp [zrep]
      · omega
  · simp at hx

end Go.Proofs.Ytjlepcfeeicdfaa.L

end

section
/- The reference's Be16. -/
set_option autoImplicit false
set_option maxRecDepth 100000
set_option linter.unusedVariables false
set_option linter.unusedSimpArgs false
namespace Go.Proofs.Ytjlepcfeeicdfaa.L
open Go Go.Abs
open Go.IntKind (u8 u16 u32 u64 i64)
open Go.Abs.AV (int)
open Go.Abs.ABlk (cells)


end Go.Proofs.Ytjlepcfeeicdfaa.L

end
