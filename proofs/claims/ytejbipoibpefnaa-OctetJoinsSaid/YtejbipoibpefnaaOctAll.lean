/- octet's Get, of the other sizes. -/
import Derived.Test.YtejbipoibpefnaaOctB
set_option autoImplicit false
set_option maxRecDepth 100000
set_option linter.unusedVariables false
set_option linter.unusedSimpArgs false
namespace Go.Proofs.Ytejbipoibpefnaa.L
open Go Go.Abs
open Go.IntKind
open Go.Abs.AV (int)
open Go.Abs.ABlk (cells)


theorem nfGetR8 (CALL : CallT) (l : List UInt8) (x : Int) (p n r : Nat) (m i : Int) : roundG Try.prog CALL noLS (loopIn (bodyOf Try.prog 9) 0) (mGet 11) (vGet x p n r m i) [farB l] =
 if decide (i < m) = true then
 (if 0 ≤ i ∧ i < (n : Int) then
 (if isIntV .u8 (bys l)[p + i.toNat * 1]? = true then
 some (.norm, vGet (abits .u64 (· ||| ·) (u64.wrap (x * 256)) (u64.wrap (intV (bys l)[p + i.toNat * 1]?))) p n r m (i64.wrap (i + 1)), [farB l])
 else none) else none)
    else some (.exit 0, vGet x p n r m i, [farB l]) := by kernel_rfl

noncomputable def gGet8 : GLoop := fun vs h => match vs, h with
  | [.int .u64 x, .sl (some (0, p)) n r false, .int .i64 m, .int .i64 i], [.cells vs e .far none] =>
    some (cdec (x = 0 ∧ n = 1 ∧ m = 1 ∧ i = 0 ∧ e = 1 ∧ ∃ l, vs = bys l ∧ p + 1 ≤ l.length), .exit 0, vGet (numAt (vs.map byteD) p 1) p n r 1 1, [.cells vs e .far none])
  | _, _ => none

theorem loopGet8 : SoundS Try.prog (loopF (mGet 11) gGet8) (loopIn (bodyOf Try.prog 9) 0) := by
  have SC : SoundC Try.prog (deepC Try.prog [] 100 4) := deepC_sound (find_nil _) 100 4
  refine @loopF_sound Try.prog (deepC Try.prog [] 100 4) SC noLS (loopIn (bodyOf Try.prog 9) 0) (noLoops (by kernel_rfl)) (mGet 11) gGet8 fun vs h e vs' h' hg => ?_
  unfold gGet8 at hg
  split at hg
  · rename_i x p n r m i vs e
    simp only [Option.some.injEq, Prod.mk.injEq] at hg
    obtain ⟨hc, rfl, rfl, rfl⟩ := hg
    rw [cdec_true] at hc
    obtain ⟨rfl, rfl, rfl, rfl, rfl, l, rfl, hl⟩ := hc
    rw [bys_byteD]
    have := loop_up (body := roundG Try.prog (deepC Try.prog [] 100 4) noLS (loopIn (bodyOf Try.prog 9) 0) (mGet 11)) (fun i => (vGet (numAt l p i) p 1 r 1 i, [farB l])) (n := 1) (e := .exit 0) (vs := vGet (numAt l p 1) p 1 r 1 1) (h := [farB l]) (by simp)
      (fun i hi => by
        simp only [nfGetR8]
        have hr := numAt_range l p i
        have hp : (256 : Int) ^ i ≤ 256 ^ 0 := by
          rw [show (256 : Int) = ((256 : Nat) : Int) from rfl, ← Int.natCast_pow, ← Int.natCast_pow]
          exact Int.ofNat_le.2 (Nat.pow_le_pow_right (by omega) (by omega))
        have hb := byt_range l (p + i)
        rw [if_pos (by simp; omega), if_pos (by omega)]
        have e1 : p + (i : Int).toNat * 1 = p + i := by omega
        rw [e1, bys_get, isIntV_byte, if_pos (by simp; omega), intV_byte, or64w ⟨hr.1, by omega⟩ hb, ← numAt_succ (by omega), wrapI64 (by omega)]
        rfl)
      (by
        simp only [nfGetR8]
        rw [if_neg (by simp)]
        rfl)
    simp only [numAt_zero] at this
    exact this
  · simp at hg

noncomputable def lsGet8 : List (Nat × LoopF) := [(6, loopF (mGet 11) gGet8)]

theorem okGet8 : SoundE Try.prog 9 (runE Try.prog [] 100 4 lsGet8 9) := by
  refine runE_sound1 (find_nil _) 100 4 (fun b hb _ => ?_) loopGet8
  have : loopsOf (bodyOf Try.prog 9) = [loopIn (bodyOf Try.prog 9) 0] := by kernel_rfl
  rw [this] at hb
  simpa using hb

theorem nfGet8 {R : Type} (l : List UInt8) (p : Int) (K : AV → AHeap → Option R) : abody Try.prog (deepC Try.prog [] 100 4) (mixLS lsGet8 (autoLS Try.prog (deepC Try.prog [] 100 4) 100 4 (bodyOf Try.prog 9))) 9 [slB 0 l, .int .i64 p] [farB l] K =
 if decide (p ≥ 0) = true then
 (if decide (p ≤ (l.length : Int)) = true then
 (if (!decide (i64.wrap ((l.length : Int) - p) ≥ 1)) = true then K (.tup [.int .u8 0, .bool false]) [farB l]
 else (if 0 ≤ i64.wrap (p + 1) ∧ i64.wrap (p + 1) ≤ (capOf l.length 0 false : Int) then
 (if 0 ≤ p ∧ p ≤ i64.wrap (p + 1) then
 (if cdec ((0 : Int) = 0 ∧ (i64.wrap (p + 1)).toNat - p.toNat = 1 ∧ (((i64.wrap (p + 1)).toNat - p.toNat : Nat) : Int) = 1 ∧ (0 : Int) = 0 ∧ 1 = 1 ∧ ∃ l_1, bys l = bys l_1 ∧ 0 + p.toNat * 1 + 1 ≤ l_1.length) = true then
 K (.tup [.int .u8 (u8.wrap (numAt (List.map byteD (bys l)) (0 + p.toNat * 1) 1)), .bool true]) [farB l]
 else none) else none) else none))
 else K (.tup [.int .u8 0, .bool false]) [farB l])
    else K (.tup [.int .u8 0, .bool false]) [farB l] := by kernel_rfl

noncomputable def eGet8 : GEnt := fun args h => match args with
  | [b, .int .i64 p] => some (bOk h b && decide ((nOf b : Int) < 9223372036854775000), getR .u8 1 (bOf h b) p, h)
  | _ => none

theorem sGet8 : SoundE Try.prog 9 (entF eGet8) := by
  refine canonF_sound fun args h v h' hg => ?_
  unfold eGet8 at hg
  split at hg
  · rename_i b p
    simp only [Option.some.injEq, Prod.mk.injEq, Bool.and_eq_true, decide_eq_true_eq] at hg
    obtain ⟨⟨hb, hn⟩, rfl, rfl⟩ := hg
    have hlen := bOk_len hb
    refine ⟨_, okGet8, [slB 0 (bOf h b), .int .i64 p], [farB (bOf h b)], .cons _ _ _ _ _ _ _ (bOk_canon hb 0) (.cons _ _ _ _ _ _ _ (.flat _ _ rfl) (.nil _)), getR .u8 1 (bOf h b) p, [farB (bOf h b)], ?_, [], [], by simp, .flat _ _ rfl, ksOk0⟩
    generalize bOf h b = l at hlen
    rw [runE_get, nfGet8]
    have hr := numAt_range l p.toNat 1
    unfold getR
    by_cases h0 : 0 ≤ p
    · rw [if_pos (by simpa using h0)]
      by_cases h1 : p ≤ (l.length : Int)
      · rw [if_pos (by simpa using h1), wrapI64 (n := (l.length : Int) - p) (by omega)]
        by_cases h2 : p + 1 ≤ (l.length : Int)
        · have e : i64.wrap (p + 1) = p + 1 := wrapI64 (by omega)
          have e1 : 0 + p.toNat * 1 = p.toNat := by omega
          have hc : (0 ≤ p ∧ p + ((1 : Nat) : Int) ≤ (l.length : Int)) := ⟨h0, by omega⟩
          rw [if_neg (by simp; omega), e, if_pos (by simp [capOf]; omega), if_pos (by omega), if_pos (cdec_true.2 ⟨rfl, by omega, by omega, rfl, rfl, l, rfl, by omega⟩), bys_byteD, e1, if_pos hc, decide_eq_true hc, wrapU8 (by omega)]
        · have hc : ¬ (0 ≤ p ∧ p + ((1 : Nat) : Int) ≤ (l.length : Int)) := by omega
          rw [if_pos (by simp; omega), if_neg hc, decide_eq_false hc]
      · have hc : ¬ (0 ≤ p ∧ p + ((1 : Nat) : Int) ≤ (l.length : Int)) := by omega
        rw [if_neg (by simpa using h1), if_neg hc, decide_eq_false hc]
    · have hc : ¬ (0 ≤ p ∧ p + ((1 : Nat) : Int) ≤ (l.length : Int)) := by omega
      rw [if_neg (by simpa using h0), if_neg hc, decide_eq_false hc]
  · simp at hg


theorem nfGetR32 (CALL : CallT) (l : List UInt8) (x : Int) (p n r : Nat) (m i : Int) : roundG Try.prog CALL noLS (loopIn (bodyOf Try.prog 11) 0) (mGet 11) (vGet x p n r m i) [farB l] =
 if decide (i < m) = true then
 (if 0 ≤ i ∧ i < (n : Int) then
 (if isIntV .u8 (bys l)[p + i.toNat * 1]? = true then
 some (.norm, vGet (abits .u64 (· ||| ·) (u64.wrap (x * 256)) (u64.wrap (intV (bys l)[p + i.toNat * 1]?))) p n r m (i64.wrap (i + 1)), [farB l])
 else none) else none)
    else some (.exit 0, vGet x p n r m i, [farB l]) := by kernel_rfl

noncomputable def gGet32 : GLoop := fun vs h => match vs, h with
  | [.int .u64 x, .sl (some (0, p)) n r false, .int .i64 m, .int .i64 i], [.cells vs e .far none] =>
    some (cdec (x = 0 ∧ n = 4 ∧ m = 4 ∧ i = 0 ∧ e = 1 ∧ ∃ l, vs = bys l ∧ p + 4 ≤ l.length), .exit 0, vGet (numAt (vs.map byteD) p 4) p n r 4 4, [.cells vs e .far none])
  | _, _ => none

theorem loopGet32 : SoundS Try.prog (loopF (mGet 11) gGet32) (loopIn (bodyOf Try.prog 11) 0) := by
  have SC : SoundC Try.prog (deepC Try.prog [] 100 4) := deepC_sound (find_nil _) 100 4
  refine @loopF_sound Try.prog (deepC Try.prog [] 100 4) SC noLS (loopIn (bodyOf Try.prog 11) 0) (noLoops (by kernel_rfl)) (mGet 11) gGet32 fun vs h e vs' h' hg => ?_
  unfold gGet32 at hg
  split at hg
  · rename_i x p n r m i vs e
    simp only [Option.some.injEq, Prod.mk.injEq] at hg
    obtain ⟨hc, rfl, rfl, rfl⟩ := hg
    rw [cdec_true] at hc
    obtain ⟨rfl, rfl, rfl, rfl, rfl, l, rfl, hl⟩ := hc
    rw [bys_byteD]
    have := loop_up (body := roundG Try.prog (deepC Try.prog [] 100 4) noLS (loopIn (bodyOf Try.prog 11) 0) (mGet 11)) (fun i => (vGet (numAt l p i) p 4 r 4 i, [farB l])) (n := 4) (e := .exit 0) (vs := vGet (numAt l p 4) p 4 r 4 4) (h := [farB l]) (by simp)
      (fun i hi => by
        simp only [nfGetR32]
        have hr := numAt_range l p i
        have hp : (256 : Int) ^ i ≤ 256 ^ 3 := by
          rw [show (256 : Int) = ((256 : Nat) : Int) from rfl, ← Int.natCast_pow, ← Int.natCast_pow]
          exact Int.ofNat_le.2 (Nat.pow_le_pow_right (by omega) (by omega))
        have hb := byt_range l (p + i)
        rw [if_pos (by simp; omega), if_pos (by omega)]
        have e1 : p + (i : Int).toNat * 1 = p + i := by omega
        rw [e1, bys_get, isIntV_byte, if_pos (by simp; omega), intV_byte, or64w ⟨hr.1, by omega⟩ hb, ← numAt_succ (by omega), wrapI64 (by omega)]
        rfl)
      (by
        simp only [nfGetR32]
        rw [if_neg (by simp)]
        rfl)
    simp only [numAt_zero] at this
    exact this
  · simp at hg

noncomputable def lsGet32 : List (Nat × LoopF) := [(6, loopF (mGet 11) gGet32)]

theorem okGet32 : SoundE Try.prog 11 (runE Try.prog [] 100 4 lsGet32 11) := by
  refine runE_sound1 (find_nil _) 100 4 (fun b hb _ => ?_) loopGet32
  have : loopsOf (bodyOf Try.prog 11) = [loopIn (bodyOf Try.prog 11) 0] := by kernel_rfl
  rw [this] at hb
  simpa using hb

theorem nfGet32 {R : Type} (l : List UInt8) (p : Int) (K : AV → AHeap → Option R) : abody Try.prog (deepC Try.prog [] 100 4) (mixLS lsGet32 (autoLS Try.prog (deepC Try.prog [] 100 4) 100 4 (bodyOf Try.prog 11))) 11 [slB 0 l, .int .i64 p] [farB l] K =
 if decide (p ≥ 0) = true then
 (if decide (p ≤ (l.length : Int)) = true then
 (if (!decide (i64.wrap ((l.length : Int) - p) ≥ 4)) = true then K (.tup [.int .u32 0, .bool false]) [farB l]
 else (if 0 ≤ i64.wrap (p + 4) ∧ i64.wrap (p + 4) ≤ (capOf l.length 0 false : Int) then
 (if 0 ≤ p ∧ p ≤ i64.wrap (p + 4) then
 (if cdec ((0 : Int) = 0 ∧ (i64.wrap (p + 4)).toNat - p.toNat = 4 ∧ (((i64.wrap (p + 4)).toNat - p.toNat : Nat) : Int) = 4 ∧ (0 : Int) = 0 ∧ 1 = 1 ∧ ∃ l_1, bys l = bys l_1 ∧ 0 + p.toNat * 1 + 4 ≤ l_1.length) = true then
 K (.tup [.int .u32 (u32.wrap (numAt (List.map byteD (bys l)) (0 + p.toNat * 1) 4)), .bool true]) [farB l]
 else none) else none) else none))
 else K (.tup [.int .u32 0, .bool false]) [farB l])
    else K (.tup [.int .u32 0, .bool false]) [farB l] := by kernel_rfl

noncomputable def eGet32 : GEnt := fun args h => match args with
  | [b, .int .i64 p] => some (bOk h b && decide ((nOf b : Int) < 9223372036854775000), getR .u32 4 (bOf h b) p, h)
  | _ => none

theorem sGet32 : SoundE Try.prog 11 (entF eGet32) := by
  refine canonF_sound fun args h v h' hg => ?_
  unfold eGet32 at hg
  split at hg
  · rename_i b p
    simp only [Option.some.injEq, Prod.mk.injEq, Bool.and_eq_true, decide_eq_true_eq] at hg
    obtain ⟨⟨hb, hn⟩, rfl, rfl⟩ := hg
    have hlen := bOk_len hb
    refine ⟨_, okGet32, [slB 0 (bOf h b), .int .i64 p], [farB (bOf h b)], .cons _ _ _ _ _ _ _ (bOk_canon hb 0) (.cons _ _ _ _ _ _ _ (.flat _ _ rfl) (.nil _)), getR .u32 4 (bOf h b) p, [farB (bOf h b)], ?_, [], [], by simp, .flat _ _ rfl, ksOk0⟩
    generalize bOf h b = l at hlen
    rw [runE_get, nfGet32]
    have hr := numAt_range l p.toNat 4
    unfold getR
    by_cases h0 : 0 ≤ p
    · rw [if_pos (by simpa using h0)]
      by_cases h1 : p ≤ (l.length : Int)
      · rw [if_pos (by simpa using h1), wrapI64 (n := (l.length : Int) - p) (by omega)]
        by_cases h2 : p + 4 ≤ (l.length : Int)
        · have e : i64.wrap (p + 4) = p + 4 := wrapI64 (by omega)
          have e1 : 0 + p.toNat * 1 = p.toNat := by omega
          have hc : (0 ≤ p ∧ p + ((4 : Nat) : Int) ≤ (l.length : Int)) := ⟨h0, by omega⟩
          rw [if_neg (by simp; omega), e, if_pos (by simp [capOf]; omega), if_pos (by omega), if_pos (cdec_true.2 ⟨rfl, by omega, by omega, rfl, rfl, l, rfl, by omega⟩), bys_byteD, e1, if_pos hc, decide_eq_true hc, wrapU32 (by omega)]
        · have hc : ¬ (0 ≤ p ∧ p + ((4 : Nat) : Int) ≤ (l.length : Int)) := by omega
          rw [if_pos (by simp; omega), if_neg hc, decide_eq_false hc]
      · have hc : ¬ (0 ≤ p ∧ p + ((4 : Nat) : Int) ≤ (l.length : Int)) := by omega
        rw [if_neg (by simpa using h1), if_neg hc, decide_eq_false hc]
    · have hc : ¬ (0 ≤ p ∧ p + ((4 : Nat) : Int) ≤ (l.length : Int)) := by omega
      rw [if_neg (by simpa using h0), if_neg hc, decide_eq_false hc]
  · simp at hg


theorem nfGetR64 (CALL : CallT) (l : List UInt8) (x : Int) (p n r : Nat) (m i : Int) : roundG Try.prog CALL noLS (loopIn (bodyOf Try.prog 12) 0) (mGet 10) (vGet x p n r m i) [farB l] =
 if decide (i < m) = true then
 (if 0 ≤ i ∧ i < (n : Int) then
 (if isIntV .u8 (bys l)[p + i.toNat * 1]? = true then
 some (.norm, vGet (abits .u64 (· ||| ·) (u64.wrap (x * 256)) (u64.wrap (intV (bys l)[p + i.toNat * 1]?))) p n r m (i64.wrap (i + 1)), [farB l])
 else none) else none)
    else some (.exit 0, vGet x p n r m i, [farB l]) := by kernel_rfl

noncomputable def gGet64 : GLoop := fun vs h => match vs, h with
  | [.int .u64 x, .sl (some (0, p)) n r false, .int .i64 m, .int .i64 i], [.cells vs e .far none] =>
    some (cdec (x = 0 ∧ n = 8 ∧ m = 8 ∧ i = 0 ∧ e = 1 ∧ ∃ l, vs = bys l ∧ p + 8 ≤ l.length), .exit 0, vGet (numAt (vs.map byteD) p 8) p n r 8 8, [.cells vs e .far none])
  | _, _ => none

theorem loopGet64 : SoundS Try.prog (loopF (mGet 10) gGet64) (loopIn (bodyOf Try.prog 12) 0) := by
  have SC : SoundC Try.prog (deepC Try.prog [] 100 4) := deepC_sound (find_nil _) 100 4
  refine @loopF_sound Try.prog (deepC Try.prog [] 100 4) SC noLS (loopIn (bodyOf Try.prog 12) 0) (noLoops (by kernel_rfl)) (mGet 10) gGet64 fun vs h e vs' h' hg => ?_
  unfold gGet64 at hg
  split at hg
  · rename_i x p n r m i vs e
    simp only [Option.some.injEq, Prod.mk.injEq] at hg
    obtain ⟨hc, rfl, rfl, rfl⟩ := hg
    rw [cdec_true] at hc
    obtain ⟨rfl, rfl, rfl, rfl, rfl, l, rfl, hl⟩ := hc
    rw [bys_byteD]
    have := loop_up (body := roundG Try.prog (deepC Try.prog [] 100 4) noLS (loopIn (bodyOf Try.prog 12) 0) (mGet 10)) (fun i => (vGet (numAt l p i) p 8 r 8 i, [farB l])) (n := 8) (e := .exit 0) (vs := vGet (numAt l p 8) p 8 r 8 8) (h := [farB l]) (by simp)
      (fun i hi => by
        simp only [nfGetR64]
        have hr := numAt_range l p i
        have hp : (256 : Int) ^ i ≤ 256 ^ 7 := by
          rw [show (256 : Int) = ((256 : Nat) : Int) from rfl, ← Int.natCast_pow, ← Int.natCast_pow]
          exact Int.ofNat_le.2 (Nat.pow_le_pow_right (by omega) (by omega))
        have hb := byt_range l (p + i)
        rw [if_pos (by simp; omega), if_pos (by omega)]
        have e1 : p + (i : Int).toNat * 1 = p + i := by omega
        rw [e1, bys_get, isIntV_byte, if_pos (by simp; omega), intV_byte, or64w ⟨hr.1, by omega⟩ hb, ← numAt_succ (by omega), wrapI64 (by omega)]
        rfl)
      (by
        simp only [nfGetR64]
        rw [if_neg (by simp)]
        rfl)
    simp only [numAt_zero] at this
    exact this
  · simp at hg

noncomputable def lsGet64 : List (Nat × LoopF) := [(6, loopF (mGet 10) gGet64)]

theorem okGet64 : SoundE Try.prog 12 (runE Try.prog [] 100 4 lsGet64 12) := by
  refine runE_sound1 (find_nil _) 100 4 (fun b hb _ => ?_) loopGet64
  have : loopsOf (bodyOf Try.prog 12) = [loopIn (bodyOf Try.prog 12) 0] := by kernel_rfl
  rw [this] at hb
  simpa using hb

theorem nfGet64 {R : Type} (l : List UInt8) (p : Int) (K : AV → AHeap → Option R) : abody Try.prog (deepC Try.prog [] 100 4) (mixLS lsGet64 (autoLS Try.prog (deepC Try.prog [] 100 4) 100 4 (bodyOf Try.prog 12))) 12 [slB 0 l, .int .i64 p] [farB l] K =
 if decide (p ≥ 0) = true then
 (if decide (p ≤ (l.length : Int)) = true then
 (if (!decide (i64.wrap ((l.length : Int) - p) ≥ 8)) = true then K (.tup [.int .u64 0, .bool false]) [farB l]
 else (if 0 ≤ i64.wrap (p + 8) ∧ i64.wrap (p + 8) ≤ (capOf l.length 0 false : Int) then
 (if 0 ≤ p ∧ p ≤ i64.wrap (p + 8) then
 (if cdec ((0 : Int) = 0 ∧ (i64.wrap (p + 8)).toNat - p.toNat = 8 ∧ (((i64.wrap (p + 8)).toNat - p.toNat : Nat) : Int) = 8 ∧ (0 : Int) = 0 ∧ 1 = 1 ∧ ∃ l_1, bys l = bys l_1 ∧ 0 + p.toNat * 1 + 8 ≤ l_1.length) = true then
 K (.tup [.int .u64 ( (numAt (List.map byteD (bys l)) (0 + p.toNat * 1) 8)), .bool true]) [farB l]
 else none) else none) else none))
 else K (.tup [.int .u64 0, .bool false]) [farB l])
    else K (.tup [.int .u64 0, .bool false]) [farB l] := by kernel_rfl

noncomputable def eGet64 : GEnt := fun args h => match args with
  | [b, .int .i64 p] => some (bOk h b && decide ((nOf b : Int) < 9223372036854775000), getR .u64 8 (bOf h b) p, h)
  | _ => none

theorem sGet64 : SoundE Try.prog 12 (entF eGet64) := by
  refine canonF_sound fun args h v h' hg => ?_
  unfold eGet64 at hg
  split at hg
  · rename_i b p
    simp only [Option.some.injEq, Prod.mk.injEq, Bool.and_eq_true, decide_eq_true_eq] at hg
    obtain ⟨⟨hb, hn⟩, rfl, rfl⟩ := hg
    have hlen := bOk_len hb
    refine ⟨_, okGet64, [slB 0 (bOf h b), .int .i64 p], [farB (bOf h b)], .cons _ _ _ _ _ _ _ (bOk_canon hb 0) (.cons _ _ _ _ _ _ _ (.flat _ _ rfl) (.nil _)), getR .u64 8 (bOf h b) p, [farB (bOf h b)], ?_, [], [], by simp, .flat _ _ rfl, ksOk0⟩
    generalize bOf h b = l at hlen
    rw [runE_get, nfGet64]
    have hr := numAt_range l p.toNat 8
    unfold getR
    by_cases h0 : 0 ≤ p
    · rw [if_pos (by simpa using h0)]
      by_cases h1 : p ≤ (l.length : Int)
      · rw [if_pos (by simpa using h1), wrapI64 (n := (l.length : Int) - p) (by omega)]
        by_cases h2 : p + 8 ≤ (l.length : Int)
        · have e : i64.wrap (p + 8) = p + 8 := wrapI64 (by omega)
          have e1 : 0 + p.toNat * 1 = p.toNat := by omega
          have hc : (0 ≤ p ∧ p + ((8 : Nat) : Int) ≤ (l.length : Int)) := ⟨h0, by omega⟩
          rw [if_neg (by simp; omega), e, if_pos (by simp [capOf]; omega), if_pos (by omega), if_pos (cdec_true.2 ⟨rfl, by omega, by omega, rfl, rfl, l, rfl, by omega⟩), bys_byteD, e1, if_pos hc, decide_eq_true hc]
        · have hc : ¬ (0 ≤ p ∧ p + ((8 : Nat) : Int) ≤ (l.length : Int)) := by omega
          rw [if_pos (by simp; omega), if_neg hc, decide_eq_false hc]
      · have hc : ¬ (0 ≤ p ∧ p + ((8 : Nat) : Int) ≤ (l.length : Int)) := by omega
        rw [if_neg (by simpa using h1), if_neg hc, decide_eq_false hc]
    · have hc : ¬ (0 ≤ p ∧ p + ((8 : Nat) : Int) ≤ (l.length : Int)) := by omega
      rw [if_neg (by simpa using h0), if_neg hc, decide_eq_false hc]
  · simp at hg


end Go.Proofs.Ytejbipoibpefnaa.L
