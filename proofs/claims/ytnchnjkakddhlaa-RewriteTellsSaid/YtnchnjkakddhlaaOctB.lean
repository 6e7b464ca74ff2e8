/- Texts that stand together: Oct, Clone, Be16, Put16, Sums, Change, RSums, Net, FrameKit, Seg, Says. -/
import Derived.Test.YtnchnjkakddhlaaProg
import Derived.Test.YtnchnjkakddhlaaBase
import Derived.Test.YtnchnjkakddhlaaAddrB
section
/- octet's Get. -/
set_option autoImplicit false
set_option maxRecDepth 100000
set_option linter.unusedVariables false
set_option linter.unusedSimpArgs false
namespace Go.Proofs.Ytnchnjkakddhlaa.L
open Go Go.Abs
open Go.IntKind (u8 u16 u32 u64 i64)
open Go.Abs.AV (int)
open Go.Abs.ABlk (cells)

def mGet (k : Nat) : List Bool := List.replicate 7 false ++ [true] ++ List.replicate 13 false ++ [true, true, true] ++ List.replicate k false
def vGet (x : Int) (p n r : Nat) (m i : Int) : List AV := [.int .u64 x, .sl (some (0, p)) n r false, .int .i64 m, .int .i64 i]

def getR (k : IntKind) (sz : Nat) (l : List UInt8) (p : Int) : AV :=
  .tup [.int k (if 0 ≤ p ∧ p + sz ≤ l.length then numAt l p.toNat sz else 0), .bool (decide (0 ≤ p ∧ p + sz ≤ l.length))]


theorem nfGetR16 (CALL : CallT) (l : List UInt8) (x : Int) (p n r : Nat) (m i : Int) : roundG Try.prog CALL noLS (loopIn (bodyOf Try.prog 43) 0) (mGet 11) (vGet x p n r m i) [farB l] =
 if decide (i < m) = true then
 (if 0 ≤ i ∧ i < (n : Int) then
 (if isIntV .u8 (bys l)[p + i.toNat * 1]? = true then
 some (.norm, vGet (abits .u64 (· ||| ·) (u64.wrap (x * 256)) (u64.wrap (intV (bys l)[p + i.toNat * 1]?))) p n r m (i64.wrap (i + 1)), [farB l])
 else none) else none)
    else some (.exit 0, vGet x p n r m i, [farB l]) := by kernel_rfl

noncomputable def gGet16 : GLoop := fun vs h => match vs, h with
  | [.int .u64 x, .sl (some (0, p)) n r false, .int .i64 m, .int .i64 i], [.cells vs e .far none] =>
    some (cdec (x = 0 ∧ n = 2 ∧ m = 2 ∧ i = 0 ∧ e = 1 ∧ ∃ l, vs = bys l ∧ p + 2 ≤ l.length), .exit 0, vGet (numAt (vs.map byteD) p 2) p n r 2 2, [.cells vs e .far none])
  | _, _ => none

theorem loopGet16 : SoundS Try.prog (loopF (mGet 11) gGet16) (loopIn (bodyOf Try.prog 43) 0) := by
  have SC : SoundC Try.prog (deepC Try.prog [] 100 4) := deepC_sound (find_nil _) 100 4
  refine @loopF_sound Try.prog (deepC Try.prog [] 100 4) SC noLS (loopIn (bodyOf Try.prog 43) 0) (noLoops (by kernel_rfl)) (mGet 11) gGet16 fun vs h e vs' h' hg => ?_
  unfold gGet16 at hg
  split at hg
  · rename_i x p n r m i vs e
    simp only [Option.some.injEq, Prod.mk.injEq] at hg
    obtain ⟨hc, rfl, rfl, rfl⟩ := hg
    rw [cdec_true] at hc
    obtain ⟨rfl, rfl, rfl, rfl, rfl, l, rfl, hl⟩ := hc
    rw [bys_byteD]
    have := loop_up (body := roundG Try.prog (deepC Try.prog [] 100 4) noLS (loopIn (bodyOf Try.prog 43) 0) (mGet 11)) (fun i => (vGet (numAt l p i) p 2 r 2 i, [farB l])) (n := 2) (e := .exit 0) (vs := vGet (numAt l p 2) p 2 r 2 2) (h := [farB l]) (by simp)
      (fun i hi => by
        simp only [nfGetR16]
        have hr := numAt_range l p i
        have hp : (256 : Int) ^ i ≤ 256 ^ 1 := by
          rw [show (256 : Int) = ((256 : Nat) : Int) from rfl, ← Int.natCast_pow, ← Int.natCast_pow]
          exact Int.ofNat_le.2 (Nat.pow_le_pow_right (by omega) (by omega))
        have hb := byt_range l (p + i)
        rw [if_pos (by simp; omega), if_pos (by omega)]
        have e1 : p + (i : Int).toNat * 1 = p + i := by omega
        rw [e1, bys_get, isIntV_byte, if_pos (by simp; omega), intV_byte, or64w ⟨hr.1, by omega⟩ hb, ← numAt_succ (by omega), wrapI64 (by omega)]
        rfl)
      (by
        simp only [nfGetR16]
        rw [if_neg (by simp)]
        rfl)
    simp only [numAt_zero] at this
    exact this
  · simp at hg

noncomputable def lsGet16 : List (Nat × LoopF) := [(6, loopF (mGet 11) gGet16)]

theorem okGet16 : SoundE Try.prog 43 (runE Try.prog [] 100 4 lsGet16 43) := by
  refine runE_sound1 (find_nil _) 100 4 (fun b hb _ => ?_) loopGet16
  have : loopsOf (bodyOf Try.prog 43) = [loopIn (bodyOf Try.prog 43) 0] := by kernel_rfl
  rw [this] at hb
  simpa using hb

theorem nfGet16 {R : Type} (l : List UInt8) (p : Int) (K : AV → AHeap → Option R) : abody Try.prog (deepC Try.prog [] 100 4) (mixLS lsGet16 (autoLS Try.prog (deepC Try.prog [] 100 4) 100 4 (bodyOf Try.prog 43))) 43 [slB 0 l, .int .i64 p] [farB l] K =
 if decide (p ≥ 0) = true then
 (if decide (p ≤ (l.length : Int)) = true then
 (if (!decide (i64.wrap ((l.length : Int) - p) ≥ 2)) = true then K (.tup [.int .u16 0, .bool false]) [farB l]
 else (if 0 ≤ i64.wrap (p + 2) ∧ i64.wrap (p + 2) ≤ (capOf l.length 0 false : Int) then
 (if 0 ≤ p ∧ p ≤ i64.wrap (p + 2) then
 (if cdec ((0 : Int) = 0 ∧ (i64.wrap (p + 2)).toNat - p.toNat = 2 ∧ (((i64.wrap (p + 2)).toNat - p.toNat : Nat) : Int) = 2 ∧ (0 : Int) = 0 ∧ 1 = 1 ∧ ∃ l_1, bys l = bys l_1 ∧ 0 + p.toNat * 1 + 2 ≤ l_1.length) = true then
 K (.tup [.int .u16 (u16.wrap (numAt (List.map byteD (bys l)) (0 + p.toNat * 1) 2)), .bool true]) [farB l]
 else none) else none) else none))
 else K (.tup [.int .u16 0, .bool false]) [farB l])
    else K (.tup [.int .u16 0, .bool false]) [farB l] := by kernel_rfl

noncomputable def eGet16 : GEnt := fun args h => match args with
  | [b, .int .i64 p] => some (bOk h b && decide ((nOf b : Int) < 9223372036854775000), getR .u16 2 (bOf h b) p, h)
  | _ => none

theorem sGet16 : SoundE Try.prog 43 (entF eGet16) := by
  refine canonF_sound fun args h v h' hg => ?_
  unfold eGet16 at hg
  split at hg
  · rename_i b p
    simp only [Option.some.injEq, Prod.mk.injEq, Bool.and_eq_true, decide_eq_true_eq] at hg
    obtain ⟨⟨hb, hn⟩, rfl, rfl⟩ := hg
    have hlen := bOk_len hb
    refine ⟨_, okGet16, [slB 0 (bOf h b), .int .i64 p], [farB (bOf h b)], .cons _ _ _ _ _ _ _ (bOk_canon hb 0) (.cons _ _ _ _ _ _ _ (.flat _ _ rfl) (.nil _)), getR .u16 2 (bOf h b) p, [farB (bOf h b)], ?_, [], [], by simp, .flat _ _ rfl, ksOk0⟩
    generalize bOf h b = l at hlen
    rw [runE_get, nfGet16]
    have hr := numAt_range l p.toNat 2
    unfold getR
    by_cases h0 : 0 ≤ p
    · rw [if_pos (by simpa using h0)]
      by_cases h1 : p ≤ (l.length : Int)
      · rw [if_pos (by simpa using h1), wrapI64 (n := (l.length : Int) - p) (by omega)]
        by_cases h2 : p + 2 ≤ (l.length : Int)
        · have e : i64.wrap (p + 2) = p + 2 := wrapI64 (by omega)
          have e1 : 0 + p.toNat * 1 = p.toNat := by omega
          have hc : (0 ≤ p ∧ p + ((2 : Nat) : Int) ≤ (l.length : Int)) := ⟨h0, by omega⟩
          rw [if_neg (by simp; omega), e, if_pos (by simp [capOf]; omega), if_pos (by omega), if_pos (cdec_true.2 ⟨rfl, by omega, by omega, rfl, rfl, l, rfl, by omega⟩), bys_byteD, e1, if_pos hc, decide_eq_true hc, wrapU16 (by omega)]
        · have hc : ¬ (0 ≤ p ∧ p + ((2 : Nat) : Int) ≤ (l.length : Int)) := by omega
          rw [if_pos (by simp; omega), if_neg hc, decide_eq_false hc]
      · have hc : ¬ (0 ≤ p ∧ p + ((2 : Nat) : Int) ≤ (l.length : Int)) := by omega
        rw [if_neg (by simpa using h1), if_neg hc, decide_eq_false hc]
    · have hc : ¬ (0 ≤ p ∧ p + ((2 : Nat) : Int) ≤ (l.length : Int)) := by omega
      rw [if_neg (by simpa using h0), if_neg hc, decide_eq_false hc]
  · simp at hg


end Go.Proofs.Ytnchnjkakddhlaa.L

end

section
/- slices.Clone of bytes. -/
set_option autoImplicit false
set_option maxRecDepth 100000
set_option linter.unusedVariables false
set_option linter.unusedSimpArgs false
namespace Go.Proofs.Ytnchnjkakddhlaa.L
open Go Go.Abs
open Go.IntKind (u8 u16 u32 u64 i64)
open Go.Abs.AV (int)
open Go.Abs.ABlk (cells)

theorem nfClone {R : Type} (l : List UInt8) (c : Nat) (K : AV → AHeap → Option R) : abody Try.prog (deepC Try.prog [] 100 0) noLS 22 [.sl (some (0, 0)) l.length c true] [farB l] K =
 (if 0 + l.length * 1 ≤ (bys l).length then
 (if (2 * (0 + l.length) + 200) * 1 ≤ 281474976710656 ∧ some 1 = some 1 ∧ 0 + l.length ≤ 70368744177664 then
 (if 0 = 0 ∧ 0 = 0 ∧ (0 < l.length ∨ 0 = 0) ∧ 1 = 1 ∧ (List.take (l.length * 1) (bys l)).all AV.isCell = true then
 K (AV.sl (some (2, 0)) (0 + l.length) 0 false) [farB l, cells (zrep 0 [int u8 0]) 1 Md.ro none, cells (List.take 0 (zrep 0 [int u8 0]) ++ List.take (l.length * 1) (bys l)) 1 Md.own (some 1)]
 else none) else none)
    else none) := by kernel_rfl
theorem nfClone0 {R : Type} (K : AV → AHeap → Option R) : abody Try.prog (deepC Try.prog [] 100 0) noLS 22 [.sl none 0 0 true] [] K = K (.sl none 0 0 true) [] := by kernel_rfl

theorem sl_inv {σ : Sig} {i o l c : Nat} {e : Bool} {v : Value} (h : VR σ (.sl (some (i, o)) l c e) v) : (v = .slice none 0 0 ∧ l = 0) ∨
    ∃ p a c', v = .slice (some a) l c' ∧ σ[i]? = some p ∧ l ≤ c' ∧ (a = ⟨p.blk, p.off + o, none⟩ ∨ c' = 0) := by
  cases h with
  | sln => exact .inl ⟨rfl, rfl⟩
  | sl _ _ _ _ _ p ad c' hp hl hc hadr => exact .inr ⟨p, ad, c', rfl, hp, hl, hadr⟩

theorem loopsClone : loopsOf (bodyOf Try.prog 22) = [] := by kernel_rfl

def eClone : GEnt := fun args h => match args with
  | [b] => some (bOk h b && decide (nOf b ≤ 1000000000000), slB h.length (bOf h b), h ++ [ownB (bOf h b)])
  | _ => none

theorem sClone : SoundE Try.prog 22 (entF eClone) := by
  intro W0 σ h w args args' v h' hx R hv
  replace hx := entF_get hx
  unfold eClone at hx
  split at hx
  · rename_i b
    simp only [Option.some.injEq, Prod.mk.injEq, Bool.and_eq_true, decide_eq_true_eq] at hx
    obtain ⟨⟨hb, hn⟩, rfl, rfl⟩ := hx
    have hlen := bOk_len hb
    have SC : SoundC Try.prog (deepC Try.prog [] 100 0) := deepC_sound (find_nil _) 100 0
    have hE : SoundE Try.prog 22 (bodyE Try.prog (deepC Try.prog [] 100 0) noLS 22) := body_sound SC (loopsOk0 loopsClone)
    obtain ⟨τ0, A0, hv0⟩ := (Canons.cons 0 b [] _ [] _ [] (bOk_canon hb 0) (.nil _)).sim R hv [] rfl
    rw [List.nil_append] at hv0 A0
    have R1 := far_rel A0
    generalize bOf h b = l at *
    generalize hal : args'.toList = al at *
    cases hv0 with
    | cons _ v0 _ m hv0 hm =>
    cases hm
    rcases sl_inv hv0 with ⟨rfl, hl0⟩ | ⟨p, ad, c', rfl, hp, hl, hadr⟩
    · have : l = [] := List.eq_nil_of_length_eq_zero hl0
      subst this
      exact canon_call hE R (Rel.nothing w) (args1 := [.sl none 0 0 true]) (by rw [hal]; exact .cons _ _ _ _ (.sl0 true) .nil) (by rw [bodyE_get, nfClone0]) (n0 := 0) denB0 (ksOk1 none)
    · refine canon_call hE R R1 (args1 := [.sl (some (0, 0)) l.length c' true]) (by rw [hal]; exact .cons _ _ _ _ (.sl _ _ _ _ _ p _ c' hp hl (by simp [capOf]) hadr) .nil) (by
        rw [bodyE_get]
        refine (nfClone l c' _).trans ?_
        rw [if_pos (by simp), if_pos ⟨by omega, rfl, by omega⟩, if_pos ⟨rfl, rfl, .inr rfl, rfl, by simp⟩]) (n0 := 1) (denB (k := 2) (by omega) rfl ?_ ?_) (ksOk1 _)
      · simp [zrep]
      · omega
  · simp at hx

end Go.Proofs.Ytnchnjkakddhlaa.L

end

section
/- The reference's Be16. -/
set_option autoImplicit false
set_option maxRecDepth 100000
set_option linter.unusedVariables false
set_option linter.unusedSimpArgs false
namespace Go.Proofs.Ytnchnjkakddhlaa.L
open Go Go.Abs
open Go.IntKind (u8 u16 u32 u64 i64)
open Go.Abs.AV (int)
open Go.Abs.ABlk (cells)


theorem or64i {a b : Int} (ha : 0 ≤ a ∧ a < 256) (hb : 0 ≤ b ∧ b < 256) : abits .i64 (· ||| ·) (i64.wrap (i64.wrap a * 256)) (i64.wrap b) = a * 256 + b := by
  rw [wrapI64 (n := a) (by omega), wrapI64 (by omega), wrapI64 (by omega)]
  obtain ⟨x, rfl⟩ := Int.eq_ofNat_of_zero_le ha.1
  obtain ⟨y, rfl⟩ := Int.eq_ofNat_of_zero_le hb.1
  show i64.wrap ((BitVec.ofInt 64 ((x : Int) * 256) ||| BitVec.ofInt 64 (y : Int)).toNat : Int) = _
  have e : ((x : Int) * 256) = ((x * 256 : Nat) : Int) := by omega
  rw [e, BitVec.toNat_or, ofIntNat 64 (x * 256) (by omega), ofIntNat 64 y (by omega)]
  have : x * 256 ||| y = x * 256 + y := by
    have := Nat.two_pow_add_eq_or_of_lt (i := 8) (b := y) (by omega) x
    rw [Nat.mul_comm x 256, show (256 : Nat) = 2 ^ 8 by rfl, ← this]
  rw [this, wrapI64 (by omega)]
  omega

def eBe16 : GEnt := fun args h => match args with
  | [b, .int .i64 i] => some (bOk h b && decide (nOf b ≤ 70368744177664 ∧ 0 ≤ i ∧ i + 2 ≤ (nOf b : Int)), .int .i64 (word (bOf h b) i.toNat), h)
  | _ => none

theorem nfBe16 {R : Type} (l : List UInt8) (i : Int) (K : AV → Option R) : abody Try.prog (deepC Try.prog [] 100 4) (mixLS [] (autoLS Try.prog (deepC Try.prog [] 100 4) 100 4 (bodyOf Try.prog 50))) 50 [slB 0 l, .int .i64 i] [farB l] (fun v _ => K v) =
 (if 0 ≤ i ∧ i < (l.length : Int) then
 (if isIntV .u8 (bys l)[0 + i.toNat * 1]? = true then
 (if 0 ≤ i64.wrap (i + 1) ∧ i64.wrap (i + 1) < (l.length : Int) then
 (if isIntV .u8 (bys l)[0 + (i64.wrap (i + 1)).toNat * 1]? = true then
 K (.int .i64 (abits .i64 (· ||| ·) (i64.wrap (i64.wrap (intV (bys l)[0 + i.toNat * 1]?) * 256)) (i64.wrap (intV (bys l)[0 + (i64.wrap (i + 1)).toNat * 1]?))))
 else none) else none) else none) else none) := by
  kernel_rfl

theorem sBe16 : SoundE Try.prog 50 (entF eBe16) := by
  refine canonV_sound fun args h v h' hg => ?_
  unfold eBe16 at hg
  split at hg
  · rename_i b i
    simp only [Option.some.injEq, Prod.mk.injEq, Bool.and_eq_true, decide_eq_true_eq] at hg
    obtain ⟨⟨hb, hn, h0, h2⟩, rfl, rfl⟩ := hg
    refine ⟨rfl, rfl, [slB 0 (bOf h b), .int .i64 i], [farB (bOf h b)], .cons _ _ _ _ _ _ _ (bOk_canon hb 0) (.cons _ _ _ _ _ _ _ (.flat _ _ rfl) (.nil _)), ?_⟩
    rw [← bOk_len hb] at hn h2
    generalize bOf h b = l at hn h2
    refine Runs.val0 (find_nil _) (F := 100) (n := 4) ?_
    have e1 : 0 + i.toNat * 1 = i.toNat := by omega
    have e2 : i64.wrap (i + 1) = i + 1 := wrapI64 (by omega)
    have e3 : 0 + (i + 1).toNat * 1 = i.toNat + 1 := by omega
    rw [nfBe16, e2, e1, e3, if_pos (by omega), bys_get, isIntV_byte, if_pos (by simp; omega), if_pos (by omega), bys_get, isIntV_byte, if_pos (by simp; omega), intV_byte, intV_byte, or64i (byt_range _ _) (byt_range _ _)]
    rfl
  · simp at hg

end Go.Proofs.Ytnchnjkakddhlaa.L

end

section
/- octet's Put and Append. -/
set_option autoImplicit false
set_option maxRecDepth 100000
set_option linter.unusedVariables false
set_option linter.unusedSimpArgs false
namespace Go.Proofs.Ytnchnjkakddhlaa.L
open Go Go.Abs
open Go.IntKind (u8 u16 u32 u64 i64)
open Go.Abs.AV (int)
open Go.Abs.ABlk (cells)

noncomputable def hPut160 (l : List UInt8) (p v : Int) : AHeap := [cells (bys l) 1 Md.own none]
noncomputable def hPut161 (l : List UInt8) (p v : Int) : AHeap := [cells (putCells (putCells (bys l) (0 + (i64.wrap (p + 1)).toNat * 1) [int u8 (u8.wrap (u64.wrap v))]) (0 + (i64.wrap (p + 0)).toNat * 1) [int u8 (u8.wrap ((u64.wrap v).fdiv 256))]) 1 Md.own none]
theorem nfPut16 {R : Type} (l : List UInt8) (p v : Int) (K : AV → AHeap → Option R) :
 qrun Try.prog [] 100 4 [] [] 44 [slB 0 l, .int .i64 p, .int .u16 v] [ownB l] K =
 (if decide (p ≥ 0) = true then
 (if decide (p ≤ (l.length : Int)) = true then
 (if (!decide (i64.wrap ((l.length : Int) - p) ≥ 2)) = true then
 K (AV.bool false) ((hPut160 l p v))
 else (if 0 ≤ i64.wrap (p + 1) ∧ i64.wrap (p + 1) < (l.length : Int) then
 (if 0 + (i64.wrap (p + 1)).toNat * 1 + [int u8 (u8.wrap (u64.wrap v))].length ≤ (bys l).length ∧ [int u8 (u8.wrap (u64.wrap v))].all AV.isCell = true then
 (if 0 ≤ i64.wrap (p + 0) ∧ i64.wrap (p + 0) < (l.length : Int) then
 (if 0 + (i64.wrap (p + 0)).toNat * 1 + [int u8 (u8.wrap ((u64.wrap v).fdiv 256))].length ≤ (putCells (bys l) (0 + (i64.wrap (p + 1)).toNat * 1) [int u8 (u8.wrap (u64.wrap v))]).length ∧ [int u8 (u8.wrap ((u64.wrap v).fdiv 256))].all AV.isCell = true then
 K (AV.bool true) ((hPut161 l p v))
 else none) else none) else none) else none))
 else K (AV.bool false) ((hPut160 l p v)))
 else K (AV.bool false) ((hPut160 l p v))) := by
  kernel_rfl


theorem runPut16 (l : List UInt8) (p v : Int) (hl : l.length ≤ 1000000000000) (hv : 0 ≤ v ∧ v < 256 ^ 2) : Runs Try.prog 44 [slB 0 l, .int .i64 p, .int .u16 v] [ownB l] (.bool (decide (0 ≤ p ∧ p + 2 ≤ (l.length : Int)))) [ownB (putR l p 2 v)] := by
  refine Runs.ofT0 (find_nil _) (F := 100) (n := 4) (pr := []) ?_
  rw [nfPut16]
  by_cases h : 0 ≤ p ∧ p + 2 ≤ (l.length : Int)
  · obtain ⟨q, rfl⟩ := Int.eq_ofNat_of_zero_le h.1
    rw [decide_eq_true h, putR, if_pos (c := 0 ≤ (q : Int) ∧ (q : Int) + ((2 : Nat) : Int) ≤ (l.length : Int)) ⟨h.1, by omega⟩]
    have w1 : i64.wrap ((l.length : Int) - q) = l.length - q := wrapI64 (by omega)
    have hq : q ≤ 1000000000000 := by omega
    have wv : u64.wrap v = v := wrapU64 (by omega)
    have a0 : i64.wrap ((q : Int) + 0) = ((q + 0 : Nat) : Int) := putA q 0 0 rfl hq (by decide)
    have b0 : 0 + ((q + 0 : Nat) : Int).toNat * 1 = q + 0 := putB q 0
    have a1 : i64.wrap ((q : Int) + 1) = ((q + 1 : Nat) : Int) := putA q 1 1 rfl hq (by decide)
    have b1 : 0 + ((q + 1 : Nat) : Int).toNat * 1 = q + 1 := putB q 1
    unfold hPut160 hPut161
    rw [w1, wv]
    simp only [a0, a1, b0, b1, putCells_byte]
    clear a0 b0 a1 b1 wv hv
    refine (if_pos (by simp)).trans ?_
    refine (if_pos (by simp; omega)).trans ?_
    refine (if_neg (by simp; omega)).trans ?_
    repeat (first | (refine (if_pos ?_).trans ?_; · first | (simp only [putCells_len, bys_length, List.length_cons, List.length_nil, List.length_set, List.all_cons, List.all_nil, isCell_int, Bool.and_self, and_true]; omega) | omega))
    have e := setsDown_eq 2 l q v (by omega)
    simp only [Int.toNat_natCast]
    rw [← e]
    simp only [setsDown]
  · rw [decide_eq_false h, putR, if_neg (c := 0 ≤ p ∧ p + ((2 : Nat) : Int) ≤ (l.length : Int)) (by omega)]
    by_cases h0 : 0 ≤ p
    · refine (if_pos (by simpa using h0)).trans ?_
      by_cases h1 : p ≤ (l.length : Int)
      · have w1 : i64.wrap ((l.length : Int) - p) = l.length - p := wrapI64 (by omega)
        rw [w1]
        refine (if_pos (by simpa using h1)).trans ?_
        exact if_pos (by simp; omega)
      · exact if_neg (by simpa using h1)
    · exact if_neg (by simpa using h0)

noncomputable def ePut16 : GEnt := fun args h => match args with
  | [.sl (some (i, o)) n r e, .int .i64 p, .int .u16 v] => match h[i]? with
    | some (.cells vs esz .own par) => some (cdec (o = 0 ∧ r = 0 ∧ e = false ∧ esz = 1 ∧ n = vs.length ∧ n ≤ 1000000000000 ∧ vs.all isByteR = true ∧ 0 ≤ v ∧ v < 256 ^ 2 ∧ par ≠ some i),
        .bool (decide (0 ≤ p ∧ p + 2 ≤ (n : Int))), (killp h par).set i (ownB (putR (vs.map byteD) p 2 v)))
    | _ => none
  | _ => none

theorem sPut16 : SoundE Try.prog 44 (entF ePut16) := by
  refine frame_sound fun args h v h' hg => ?_
  unfold ePut16 at hg
  split at hg
  · rename_i i o n r e p x
    split at hg
    · rename_i vs esz par hb
      simp only [Option.some.injEq, Prod.mk.injEq] at hg
      obtain ⟨hc, rfl, rfl⟩ := hg
      rw [cdec_true] at hc
      obtain ⟨rfl, rfl, rfl, rfl, rfl, hn, hv, hx0, hx1, hpar⟩ := hc
      have hvs := bytes_of hv
      generalize vs.map byteD = l at hvs
      subst hvs
      rw [bys_length] at hn ⊢
      exact frame_one (args := fun i => [.sl (some (i, 0)) l.length 0 false, .int .i64 p, .int .u16 x]) hb hpar (fun _ _ hr => .cons _ _ _ _ (.sl _ _ _ _ _ _ hr) (.free _ rfl)) (runPut16 l p x hn ⟨hx0, hx1⟩) (bys_frees _) rfl
    · simp at hg
  · simp at hg


end Go.Proofs.Ytnchnjkakddhlaa.L

end

section
/- chksum: fold, Update, Sum. -/
set_option autoImplicit false
set_option maxRecDepth 100000
set_option linter.unusedVariables false
set_option linter.unusedSimpArgs false
namespace Go.Proofs.Ytnchnjkakddhlaa.L
open Go Go.Abs
open Go.IntKind (u8 u16 u32 u64 i64)
open Go.Abs.AV (int)
open Go.Abs.ABlk (cells)

theorem deep0 (F n : Nat) : SoundC Try.prog (deepC Try.prog [] F n) := deepC_sound (find_nil _) F n


def mFold : List Bool := [true, false, false, false, false, false, false, false, false, false, false, false, false]

theorem nfFoldR (CALL : CallT) (n : Int) (h : AHeap) : roundG Try.prog CALL noLS (loopIn (bodyOf Try.prog 62) 0) mFold [.int .u64 n] h =
 if decide (n.fdiv 65536 > 0) = true then some (.norm, [.int .u64 (u64.wrap (abits .u64 (· &&& ·) n 65535 + n.fdiv 65536))], h) else some (.exit 0, [.int .u64 n], h) := by
  kernel_rfl

theorem foldLoop (h : AHeap) : ∀ (k : Nat) (n : Int), n.toNat = k → 0 ≤ n → n < 9223372036854775808 → ∃ j, loopG (roundG Try.prog (deepC Try.prog [] 100 4) noLS (loopIn (bodyOf Try.prog 62) 0) mFold) j [.int .u64 n] h = some (.exit 0, [.int .u64 (foldI n)], h) := by
  intro k
  induction k using Nat.strongRecOn with
  | _ k ih =>
    intro n hk h0 h1
    by_cases hb : n < 65536
    · refine ⟨1, ?_⟩
      have hd : ¬ (n.fdiv 65536 > 0) := by rw [fdivPos]; omega
      simp only [loopG, nfFoldR, decide_eq_true_eq, if_neg hd, Option.bind_some]
      rw [foldI_small ⟨h0, hb⟩]
    · have hd : n.fdiv 65536 > 0 := by rw [fdivPos]; omega
      have e : u64.wrap (abits .u64 (· &&& ·) n 65535 + n.fdiv 65536) = n % 65536 + n / 65536 := by
        rw [and16 (by omega), fdivPos, wrapU64 (by omega)]
      obtain ⟨j, hj⟩ := ih (n % 65536 + n / 65536).toNat (by omega) _ rfl (by omega) (by omega)
      refine ⟨j + 1, ?_⟩
      simp only [loopG, nfFoldR, decide_eq_true_eq, if_pos hd, Option.bind_some, e]
      rw [hj, foldI_step h0]

def eFold : GEnt := fun args h => match args with
  | [.int .u64 n] => some (decide (0 ≤ n ∧ n < 9223372036854775808), .int .u16 (foldI n), h)
  | _ => none

theorem sFold : SoundE Try.prog 62 (entF eFold) := by
  refine canonV_sound fun args h v h' hg => ?_
  unfold eFold at hg
  split at hg
  · rename_i n
    simp only [Option.some.injEq, Prod.mk.injEq, decide_eq_true_eq] at hg
    obtain ⟨⟨h0, h1⟩, rfl, rfl⟩ := hg
    refine ⟨rfl, rfl, [.int .u64 n], [], .cons _ _ _ _ _ _ _ (.flat _ _ rfl) (.nil _), ?_⟩
    refine Runs.val (find_nil _) (F := 100) (n := 4) (ls := [(1, fixL mFold [.int .u64 n] [] (.exit 0) [.int .u64 (foldI n)] [])]) (only (by kernel_rfl) ?_) ?_
    · exact fixL_sound (deep0 100 4) (LS := noLS) (noLoops (by kernel_rfl)) (foldLoop [] _ n rfl h0 h1)
    · have : abody Try.prog (deepC Try.prog [] 100 4) (mixLS [(1, fixL mFold [.int .u64 n] [] (.exit 0) [.int .u64 (foldI n)] [])] (autoLS Try.prog (deepC Try.prog [] 100 4) 100 4 (bodyOf Try.prog 62))) 62 [.int .u64 n] [] (fun v _ => some v) =
          if cdec ([AV.int .u64 n] = [.int .u64 n] ∧ ([] : AHeap) = []) = true then some (.int .u16 (u16.wrap (foldI n))) else none := by kernel_rfl
      rw [this, if_pos (cdec_true.2 ⟨rfl, rfl⟩), wrapU16 (foldI_range n)]
  · simp at hg


def eUpdate : GEnt := fun args h => match args with
  | [.int .u16 o, .int .u16 f, .int .u16 t] => some (decide ((0 ≤ o ∧ o < 65536) ∧ (0 ≤ f ∧ f < 65536) ∧ (0 ≤ t ∧ t < 65536)), .int .u16 (updI o f t), h)
  | _ => none

noncomputable def tFold : Tbl := [(62, entF eFold)]
theorem tFoldOk : ∀ f E, tFold.find f = some E → SoundE Try.prog f E := find_cons sFold (find_nil _)

theorem nfUpdate {R : Type} (o f t : Int) (K : AV → Option R) : abody Try.prog (deepC Try.prog tFold 100 4) (mixLS [] (autoLS Try.prog (deepC Try.prog tFold 100 4) 100 4 (bodyOf Try.prog 49))) 49 [.int .u16 o, .int .u16 f, .int .u16 t] [] (fun v _ => K v) =
 (let x := u64.wrap (u64.wrap (u64.wrap (abits .u16 (· ^^^ ·) 65535 o) + u64.wrap (abits .u16 (· ^^^ ·) 65535 f)) + u64.wrap t)
 if decide (0 ≤ x ∧ x < 9223372036854775808) = true then K (.int .u16 (abits .u16 (· ^^^ ·) 65535 (foldI x))) else none) := by
  kernel_rfl

theorem sUpdate : SoundE Try.prog 49 (entF eUpdate) := by
  refine canonV_sound fun args h v h' hg => ?_
  unfold eUpdate at hg
  split at hg
  · rename_i o f t
    simp only [Option.some.injEq, Prod.mk.injEq, decide_eq_true_eq] at hg
    obtain ⟨⟨ho, hf, ht⟩, rfl, rfl⟩ := hg
    refine ⟨rfl, rfl, [.int .u16 o, .int .u16 f, .int .u16 t], [], .cons _ _ _ _ _ _ _ (.flat _ _ rfl) (.cons _ _ _ _ _ _ _ (.flat _ _ rfl) (.cons _ _ _ _ _ _ _ (.flat _ _ rfl) (.nil _))), ?_⟩
    refine Runs.val0 tFoldOk (F := 100) (n := 4) ?_
    rw [nfUpdate]
    have e : u64.wrap (u64.wrap (u64.wrap (abits .u16 (· ^^^ ·) 65535 o) + u64.wrap (abits .u16 (· ^^^ ·) 65535 f)) + u64.wrap t) = (65535 - o) + (65535 - f) + t := by
      rw [xor16 ho, xor16 hf, wrapU64 (n := 65535 - o) (by omega), wrapU64 (n := 65535 - f) (by omega), wrapU64 (n := t) (by omega), wrapU64 (n := 65535 - o + (65535 - f)) (by omega), wrapU64 (by omega)]
    simp only [e]
    rw [if_pos (by simp; omega), xor16 (foldI_range _)]
    rfl
  · simp at hg


def mWords : List Bool := [true, true, false, true] ++ List.replicate 31 false

noncomputable def lpSum (l : List UInt8) (s : Int) : ALoop :=
  { st := .ready, pend := none, env := [slB 0 l, .int .u32 s, .tup [], .tup [], .int .u16 0, .ptr (some (1, 0)), .tup [], .tup [], .int .u32 s, .int .u64 (u64.wrap s), slB 0 l, .fn (.func 66) [.ptr (some (2, 0))],
      .tup [], .tup [], .tup [], .tup [], .tup [], .tup [], .tup [], .tup []], ps := [12, 13], asg := (rangeIn (bodyOf Try.prog 65) 0).1, body := (rangeIn (bodyOf Try.prog 65) 0).2 }

noncomputable def hSum (l : List UInt8) (s x : Int) : AHeap := [farB l, .cells [.int .u64 x] 1 .own none, .cells [slB 0 l] 1 .own none, .lp (lpSum l s)]
def vWords (k : Nat) (q : Nat) (p : Int) : List AV := [.fn (.yield k) [], .ptr (some (q, 0)), .int .i64 p]

theorem nfSumR (l : List UInt8) (s x p : Int) : roundG Try.prog (deepC Try.prog [] 100 4) noLS (loopIn (bodyOf Try.prog 66) 0) mWords (vWords 3 2 p) (hSum l s x) =
 if decide (p < (l.length : Int)) = true then
 (if 0 ≤ p ∧ p < (l.length : Int) then
 (if isIntV .u8 (bys l)[0 + p.toNat * 1]? = true then
 (if decide (i64.wrap (p + 1) < (l.length : Int)) = true then
 (if 0 ≤ i64.wrap (p + 1) ∧ i64.wrap (p + 1) < (l.length : Int) then
 (if isIntV .u8 (bys l)[0 + (i64.wrap (p + 1)).toNat * 1]? = true then
 some (.norm, vWords 3 2 (i64.wrap (p + 2)), hSum l s
 (u64.wrap (x + u64.wrap (abits .u16 (· ||| ·) (u16.wrap (u16.wrap (intV (bys l)[0 + p.toNat * 1]?) * 256))
 (u16.wrap (intV (bys l)[0 + (i64.wrap (p + 1)).toNat * 1]?))))))
 else none) else none)
 else some (.norm, vWords 3 2 (i64.wrap (p + 2)), hSum l s
 (u64.wrap (x + u64.wrap (u16.wrap (u16.wrap (intV (bys l)[0 + p.toNat * 1]?) * 256))))))
 else none) else none)
 else some (.exit 0, vWords 3 2 p, hSum l s x) := by
  kernel_rfl

theorem psum_range (l : List UInt8) : ∀ i, i ≤ (l.length + 1) / 2 → 0 ≤ wsum l - wsum (l.drop (2 * i)) ∧ wsum l - wsum (l.drop (2 * i)) ≤ 65535 * (i : Int)
  | 0, _ => by simp
  | i + 1, h => by
    have ih := psum_range l i (by omega)
    have h1 := wsum_step (l := l) (i := 2 * i) (by omega)
    have h2 := word_range l (2 * i)
    rw [show 2 * (i + 1) = 2 * i + 2 by omega]
    omega

theorem sumLoop (l : List UInt8) (s : Int) (hs : 0 ≤ s ∧ s < 4294967296) (hl : l.length ≤ 70368744177664) :
    ∃ j, loopG (roundG Try.prog (deepC Try.prog [] 100 4) noLS (loopIn (bodyOf Try.prog 66) 0) mWords) j (vWords 3 2 0) (hSum l s s) = some (.exit 0, vWords 3 2 ((2 * ((l.length + 1) / 2) : Nat) : Int), hSum l s (s + wsum l)) := by
  have := loop_up (body := roundG Try.prog (deepC Try.prog [] 100 4) noLS (loopIn (bodyOf Try.prog 66) 0) mWords)
    (fun i => (vWords 3 2 ((2 * i : Nat) : Int), hSum l s (s + (wsum l - wsum (l.drop (2 * i)))))) (n := (l.length + 1) / 2) (e := .exit 0) (vs := vWords 3 2 ((2 * ((l.length + 1) / 2) : Nat) : Int)) (h := hSum l s (s + wsum l)) (by simp)
    (fun i hi => by
      have hp := psum_range l i (by omega)
      have h1 := wsum_step (l := l) (i := 2 * i) (by omega)
      have g1 := byt_range l (2 * i)
      have g2 := byt_range l (2 * i + 1)
      have e1 : 0 + ((2 * i : Nat) : Int).toNat * 1 = 2 * i := by omega
      have e2 : i64.wrap (((2 * i : Nat) : Int) + 1) = ((2 * i + 1 : Nat) : Int) := by rw [wrapI64 (by omega)]; omega
      have e3 : 0 + ((2 * i + 1 : Nat) : Int).toNat * 1 = 2 * i + 1 := by omega
      have e4 : i64.wrap (((2 * i : Nat) : Int) + 2) = ((2 * (i + 1) : Nat) : Int) := by rw [wrapI64 (by omega)]; omega
      simp only [nfSumR]
      rw [e1, e2, e3, e4, if_pos (by simp; omega), if_pos (by omega), bys_get, isIntV_byte, if_pos (by simp; omega), bys_get, isIntV_byte, intV_byte, intV_byte]
      by_cases h2 : 2 * i + 1 < l.length
      · rw [if_pos (by simp; omega), if_pos (by omega), if_pos (by simp; omega), or16w g1 g2, wrapU64 (n := byt l (2 * i) * 256 + byt l (2 * i + 1)) (by omega), wrapU64 (by omega)]
        have : s + (wsum l - wsum (l.drop (2 * i))) + (byt l (2 * i) * 256 + byt l (2 * i + 1)) = s + (wsum l - wsum (l.drop (2 * (i + 1)))) := by
          rw [show 2 * (i + 1) = 2 * i + 2 by omega]
          unfold word at h1; omega
        rw [this]
      · have h0 := byt_ge (show l.length ≤ 2 * i + 1 by omega)
        rw [if_neg (by simp; omega), wrapU16 (n := byt l (2 * i)) (by omega), wrapU16 (by omega), wrapU64 (n := byt l (2 * i) * 256) (by omega), wrapU64 (by omega)]
        have : s + (wsum l - wsum (l.drop (2 * i))) + byt l (2 * i) * 256 = s + (wsum l - wsum (l.drop (2 * (i + 1)))) := by
          rw [show 2 * (i + 1) = 2 * i + 2 by omega]
          unfold word at h1; omega
        rw [this])
    (by
      simp only [nfSumR]
      rw [if_neg (by simp; omega)]
      rw [List.drop_of_length_le (by omega)]
      simp [wsum])
  simpa using this

noncomputable def eW (l : List UInt8) (s : Int) : Ent := fixE [.fn (.yield 3) [], .ptr (some (2, 0))] (hSum l s s) (.tup []) (hSum l s (s + wsum l))

theorem runsWordsSum (l : List UInt8) (s : Int) (hs : 0 ≤ s ∧ s < 4294967296) (hl : l.length ≤ 70368744177664) : Runs Try.prog 66 [.fn (.yield 3) [], .ptr (some (2, 0))] (hSum l s s) (.tup []) (hSum l s (s + wsum l)) := by
  refine Runs.of (find_nil _) (F := 100) (n := 4) (ls := [(1, fixL mWords (vWords 3 2 0) (hSum l s s) (.exit 0) (vWords 3 2 ((2 * ((l.length + 1) / 2) : Nat) : Int)) (hSum l s (s + wsum l)))]) (only (by kernel_rfl) (fixL_sound (deep0 100 4) (LS := noLS) (noLoops (by kernel_rfl)) (sumLoop l s hs hl))) ?_
  have : abody Try.prog (deepC Try.prog [] 100 4) (mixLS [(1, fixL mWords (vWords 3 2 0) (hSum l s s) (.exit 0) (vWords 3 2 ((2 * ((l.length + 1) / 2) : Nat) : Int)) (hSum l s (s + wsum l)))] (autoLS Try.prog (deepC Try.prog [] 100 4) 100 4 (bodyOf Try.prog 66)))
      66 [.fn (.yield 3) [], .ptr (some (2, 0))] (hSum l s s) (fun v h => some (v, h)) = if cdec (vWords 3 2 0 = vWords 3 2 0 ∧ hSum l s s = hSum l s s) = true then some (.tup [], hSum l s (s + wsum l)) else none := by kernel_rfl
  rw [this, if_pos (cdec_true.2 ⟨rfl, rfl⟩)]

def eSum : GEnt := fun args h => match args with
  | [b, .int .u32 s] => some (bOk h b && decide (nOf b ≤ 70368744177664 ∧ 0 ≤ s ∧ s < 4294967296), .int .u16 (sumI (bOf h b) s), h)
  | _ => none

noncomputable def tSum (l : List UInt8) (s : Int) : Tbl := [(62, entF eFold), (66, eW l s)]

theorem nfSum {R : Type} (l : List UInt8) (s : Int) (K : AV → Option R) : abody Try.prog (deepC Try.prog (tSum l s) 100 4) (mixLS [] (autoLS Try.prog (deepC Try.prog (tSum l s) 100 4) 100 4 (bodyOf Try.prog 65))) 65 [slB 0 l, .int .u32 s] [farB l] (fun v _ => K v) =
 if cdec ([AV.fn (.yield 3) [], AV.ptr (some (2, 0))] = [.fn (.yield 3) [], .ptr (some (2, 0))] ∧ hSum l s (u64.wrap s) = hSum l s s) = true then
 (if decide (0 ≤ s + wsum l ∧ s + wsum l < 9223372036854775808) = true then K (.int .u16 (foldI (s + wsum l))) else none)
 else none := by
  kernel_rfl

theorem sSum : SoundE Try.prog 65 (entF eSum) := by
  refine canonV_sound fun args h v h' hg => ?_
  unfold eSum at hg
  split at hg
  · rename_i b s
    simp only [Option.some.injEq, Prod.mk.injEq, Bool.and_eq_true, decide_eq_true_eq] at hg
    obtain ⟨⟨hb, hn, hs⟩, rfl, rfl⟩ := hg
    refine ⟨rfl, rfl, [slB 0 (bOf h b), .int .u32 s], [farB (bOf h b)], .cons _ _ _ _ _ _ _ (bOk_canon hb 0) (.cons _ _ _ _ _ _ _ (.flat _ _ rfl) (.nil _)), ?_⟩
    rw [← bOk_len hb] at hn
    generalize bOf h b = l at hn
    refine Runs.val0 (t := tSum l s) (find_cons sFold (find_cons (fixE_sound (runsWordsSum l s hs hn)) (find_nil _))) (F := 100) (n := 4) ?_
    have hr := wsum_range l
    rw [nfSum, if_pos (cdec_true.2 ⟨rfl, by rw [wrapU64 (by omega)]⟩), if_pos (by simp; omega)]
    rfl
  · simp at hg

end Go.Proofs.Ytnchnjkakddhlaa.L

end

section
/- chksum's Change. -/
set_option autoImplicit false
set_option maxRecDepth 100000
set_option linter.unusedVariables false
set_option linter.unusedSimpArgs false
namespace Go.Proofs.Ytnchnjkakddhlaa.L
open Go Go.Abs
open Go.IntKind (u8 u16 u32 u64 i64)
open Go.Abs.AV (int)
open Go.Abs.ABlk (cells)

noncomputable def tCh : Tbl := [(43, entF eGet16), (49, entF eUpdate)]
theorem tChOk : ∀ f E, tCh.find f = some E → SoundE Try.prog f E := find_cons sGet16 (find_cons sUpdate (find_nil _))

noncomputable def lpCh (f t : List UInt8) (old : Int) (st : LoopState) : ALoop :=
  { st := st, pend := none, env := [.int .u16 old, slB 0 f, slB 1 t, .ptr (some (2, 0)), .tup [], .ptr (some (3, 0)), .int .u16 0, .tup [], .tup [], .tup [], .tup [],
     slB 0 f, .int .i64 f.length, slB 1 t, .int .i64 t.length, .bool ((f.length : Int) != (t.length : Int)), .bool false, slB 0 f, .int .i64 f.length, .int .i64 ((f.length : Int).tmod 2), .bool ((f.length : Int).tmod 2 != 0),
     .bool ((f.length : Int).tmod 2 != 0), .tup [], slB 0 f, .fn (.func 66) [.ptr (some (4, 0))]] ++ List.replicate 13 (.tup []),
    ps := [25, 26], asg := (rangeIn (bodyOf Try.prog 45) 0).1, body := (rangeIn (bodyOf Try.prog 45) 0).2 }

noncomputable def hCh (f t : List UInt8) (old : Int) (st : LoopState) (x : Int) : AHeap :=
  [farB f, farB t, .cells [.int .u16 x] 1 .own none, .cells [slB 1 t] 1 .own none, .cells [slB 0 f] 1 .own none, .lp (lpCh f t old st)]

theorem nfChR (f t : List UInt8) (old x p : Int) : roundG Try.prog (deepC Try.prog tCh 100 4) noLS (loopIn (bodyOf Try.prog 66) 0) mWords (vWords 5 4 p) (hCh f t old .ready x) =
 (let hb := hCh f t old .busy x
 let w := abits .u16 (· ||| ·) (u16.wrap (u16.wrap (intV (bys f)[0 + p.toNat * 1]?) * 256)) (u16.wrap (intV (bys f)[0 + (i64.wrap (p + 1)).toNat * 1]?))
 let w1 := u16.wrap (u16.wrap (intV (bys f)[0 + p.toNat * 1]?) * 256)
 let v := if 0 ≤ p ∧ p + ((2 : Nat) : Int) ≤ ((bOf hb (slB 1 t)).length : Int) then numAt (bOf hb (slB 1 t)) p.toNat 2 else 0
 if decide (p < (f.length : Int)) = true then
 (if 0 ≤ p ∧ p < (f.length : Int) then
 (if isIntV .u8 (bys f)[0 + p.toNat * 1]? = true then
 (if decide (i64.wrap (p + 1) < (f.length : Int)) = true then
 (if 0 ≤ i64.wrap (p + 1) ∧ i64.wrap (p + 1) < (f.length : Int) then
 (if isIntV .u8 (bys f)[0 + (i64.wrap (p + 1)).toNat * 1]? = true then
 (if (bOk hb (slB 1 t) && decide ((t.length : Int) < 9223372036854775000)) = true then
 (if decide ((0 ≤ x ∧ x < 65536) ∧ (0 ≤ w ∧ w < 65536) ∧ (0 ≤ v ∧ v < 65536)) = true then
 some (.norm, vWords 5 4 (i64.wrap (p + 2)), hCh f t old .ready (updI x w v))
 else none) else none) else none) else none)
 else
 (if (bOk hb (slB 1 t) && decide ((t.length : Int) < 9223372036854775000)) = true then
 (if decide ((0 ≤ x ∧ x < 65536) ∧ (0 ≤ w1 ∧ w1 < 65536) ∧ (0 ≤ v ∧ v < 65536)) = true then
 some (.norm, vWords 5 4 (i64.wrap (p + 2)), hCh f t old .ready (updI x w1 v))
 else none) else none))
 else none) else none)
 else some (.exit 0, vWords 5 4 p, hCh f t old .ready x)) := by
  kernel_rfl

theorem chLoop (old : Int) (f t : List UInt8) (ho : 0 ≤ old ∧ old < 65536) (hl : f.length = t.length) (he : f.length % 2 = 0) (hn : f.length ≤ 70368744177664) :
    ∃ j, loopG (roundG Try.prog (deepC Try.prog tCh 100 4) noLS (loopIn (bodyOf Try.prog 66) 0) mWords) j (vWords 5 4 0) (hCh f t old .ready old) = some (.exit 0, vWords 5 4 f.length, hCh f t old .ready (chgI old f t)) := by
  have key : ∀ (k i : Nat) (o : Int), f.length - i = k → i % 2 = 0 → i ≤ f.length → 0 ≤ o ∧ o < 65536 →
      ∃ j, loopG (roundG Try.prog (deepC Try.prog tCh 100 4) noLS (loopIn (bodyOf Try.prog 66) 0) mWords) j (vWords 5 4 (i : Int)) (hCh f t old .ready o) = some (.exit 0, vWords 5 4 f.length, hCh f t old .ready (chgI o (f.drop i) (t.drop i))) := by
    intro k
    induction k using Nat.strongRecOn with
    | _ k ih =>
      intro i o hk hi2 hi ho
      by_cases hlt : i < f.length
      · obtain ⟨j, hj⟩ := ih (f.length - (i + 2)) (by omega) (i + 2) (updI o (word f i) (word t i)) rfl (by omega) (by omega) (updI_range _ _ _)
        refine ⟨j + 1, ?_⟩
        have g := bOk_far (h := hCh f t old .busy o) (k := 1) (l := t) rfl
        have g1 := byt_range f i
        have g2 := byt_range f (i + 1)
        have e1 : 0 + (i : Int).toNat * 1 = i := by omega
        have e2 : i64.wrap ((i : Int) + 1) = ((i + 1 : Nat) : Int) := by rw [wrapI64 (by omega)]; omega
        have e3 : 0 + ((i + 1 : Nat) : Int).toNat * 1 = i + 1 := by omega
        have e4 : i64.wrap ((i : Int) + 2) = ((i + 2 : Nat) : Int) := by rw [wrapI64 (by omega)]; omega
        have e5 : (i : Int).toNat = i := by omega
        simp only [loopG, nfChR]
        rw [e1, e2, e3, e4, e5, g.1, g.2, if_pos (by simp; omega), if_pos (by omega), bys_get, isIntV_byte, if_pos (by simp; omega), if_pos (by simp; omega), if_pos (by omega), bys_get, isIntV_byte, if_pos (by simp; omega), intV_byte, intV_byte, or16w g1 g2,
          if_pos (by simp; omega), if_pos (show 0 ≤ (i : Int) ∧ (i : Int) + ((2 : Nat) : Int) ≤ (t.length : Int) by omega), numAt_two (by omega), if_pos (by simp only [decide_eq_true_eq]; exact ⟨ho, word_range f i, word_range t i⟩)]
        simp only [Option.bind_some]
        rw [show byt f i * 256 + byt f (i + 1) = word f i from rfl, hj, chgI_step (o := o) (f := f) (t := t) (i := i) (by omega) (by omega)]
      · refine ⟨1, ?_⟩
        have : i = f.length := by omega
        subst this
        simp only [loopG, nfChR]
        rw [if_neg (by simp)]
        simp only [Option.bind_some]
        rw [List.drop_length, hl, List.drop_length]
        rfl
  simpa using key _ 0 old rfl rfl (Nat.zero_le _) ho

theorem runsWordsCh (old : Int) (f t : List UInt8) (ho : 0 ≤ old ∧ old < 65536) (hl : f.length = t.length) (he : f.length % 2 = 0) (hn : f.length ≤ 70368744177664) :
    Runs Try.prog 66 [.fn (.yield 5) [], .ptr (some (4, 0))] (hCh f t old .ready old) (.tup []) (hCh f t old .ready (chgI old f t)) := by
  refine Runs.of tChOk (F := 100) (n := 4) (ls := [(1, fixL mWords (vWords 5 4 0) (hCh f t old .ready old) (.exit 0) (vWords 5 4 f.length) (hCh f t old .ready (chgI old f t)))]) (only (by kernel_rfl) (fixL_sound (deepC_sound tChOk 100 4) (LS := noLS) (noLoops (by kernel_rfl)) (chLoop old f t ho hl he hn))) ?_
  have : abody Try.prog (deepC Try.prog tCh 100 4) (mixLS [(1, fixL mWords (vWords 5 4 0) (hCh f t old .ready old) (.exit 0) (vWords 5 4 f.length) (hCh f t old .ready (chgI old f t)))] (autoLS Try.prog (deepC Try.prog tCh 100 4) 100 4 (bodyOf Try.prog 66)))
      66 [.fn (.yield 5) [], .ptr (some (4, 0))] (hCh f t old .ready old) (fun v h => some (v, h)) = if cdec (vWords 5 4 0 = vWords 5 4 0 ∧ hCh f t old .ready old = hCh f t old .ready old) = true then some (.tup [], hCh f t old .ready (chgI old f t)) else none := by kernel_rfl
  rw [this, if_pos (cdec_true.2 ⟨rfl, rfl⟩)]

def eChange : GEnt := fun args h => match args with
  | [.int .u16 o, f, t] => some (bOk h f && bOk h t && decide (nOf f ≤ 70368744177664 ∧ 0 ≤ o ∧ o < 65536), .int .u16 (changeI o (bOf h f) (bOf h t)), h)
  | _ => none

noncomputable def tChange (o : Int) (f t : List UInt8) : Tbl := [(66, fixE [.fn (.yield 5) [], .ptr (some (4, 0))] (hCh f t o .ready o) (.tup []) (hCh f t o .ready (chgI o f t)))]

theorem nfChange {R : Type} (o : Int) (f t : List UInt8) (K : AV → Option R) : abody Try.prog (deepC Try.prog (tChange o f t) 100 4) (mixLS [] (autoLS Try.prog (deepC Try.prog (tChange o f t) 100 4) 100 4 (bodyOf Try.prog 45))) 45 [.int .u16 o, slB 0 f, slB 1 t] [farB f, farB t] (fun v _ => K v) =
 if ((f.length : Int) != (t.length : Int)) = true then K (.int .u16 o)
 else if ((f.length : Int).tmod 2 != 0) = true then K (.int .u16 o)
 else if cdec ([AV.fn (.yield 5) [], AV.ptr (some (4, 0))] = [.fn (.yield 5) [], .ptr (some (4, 0))] ∧ hCh f t o .ready o = hCh f t o .ready o) = true then (if isIntV .u16 (some (AV.int .u16 (chgI o f t))) = true then K (.int .u16 (chgI o f t)) else none) else none := by
  kernel_rfl

theorem sChange : SoundE Try.prog 45 (entF eChange) := by
  refine canonV_sound fun args h v h' hg => ?_
  unfold eChange at hg
  split at hg
  · rename_i o b c
    simp only [Option.some.injEq, Prod.mk.injEq, Bool.and_eq_true, decide_eq_true_eq] at hg
    obtain ⟨⟨⟨hb, hc⟩, hn, ho⟩, rfl, rfl⟩ := hg
    refine ⟨rfl, rfl, [.int .u16 o, slB 0 (bOf h b), slB 1 (bOf h c)], [farB (bOf h b), farB (bOf h c)], .cons _ _ _ _ _ _ _ (.flat _ _ rfl) (.cons _ _ _ _ _ _ _ (bOk_canon hb 0) (.cons _ _ _ _ _ _ _ (bOk_canon hc 1) (.nil _))), ?_⟩
    rw [← bOk_len hb] at hn
    generalize bOf h b = f at hn
    generalize bOf h c = t
    by_cases h1 : f.length = t.length ∧ f.length % 2 = 0
    · refine Runs.val0 (t := tChange o f t) (find_cons (fixE_sound (runsWordsCh o f t ho h1.1 h1.2 hn)) (find_nil _)) (F := 100) (n := 4) ?_
      rw [nfChange, if_neg (by simp [h1.1]), if_neg (by rw [tmod2]; simp [h1.2]), if_pos (cdec_true.2 ⟨rfl, rfl⟩), changeI, if_pos h1]
      rfl
    · have key : ∃ h', Runs Try.prog 45 [.int .u16 o, slB 0 f, slB 1 t] [farB f, farB t] (.int .u16 o) h' := by
        refine Runs.val0 (find_nil _) (F := 0) (n := 0) ?_
        have : abody Try.prog (deepC Try.prog [] 0 0) (mixLS [] (autoLS Try.prog (deepC Try.prog [] 0 0) 0 4 (bodyOf Try.prog 45))) 45 [.int .u16 o, slB 0 f, slB 1 t] [farB f, farB t] (fun v _ => some v) =
            if ((f.length : Int) != (t.length : Int)) = true then some (.int .u16 o) else if ((f.length : Int).tmod 2 != 0) = true then some (.int .u16 o) else none := by kernel_rfl
        rw [this, tmod2]
        by_cases h2 : f.length = t.length
        · rw [if_neg (by simp [h2]), if_pos (by simp; omega)]
        · rw [if_pos (by simp; omega)]
      rw [changeI, if_neg h1]
      exact key
  · simp at hg

end Go.Proofs.Ytnchnjkakddhlaa.L

end

section
/- The reference's Sum, Update, Change. -/
set_option autoImplicit false
set_option maxRecDepth 100000
set_option linter.unusedVariables false
set_option linter.unusedSimpArgs false
namespace Go.Proofs.Ytnchnjkakddhlaa.L
open Go Go.Abs
open Go.IntKind (u8 u16 u32 u64 i64)
open Go.Abs.AV (int)
open Go.Abs.ABlk (cells)


def mRSum : List Bool := [true, false, false, false, false, true, true] ++ List.replicate 38 false
def mRSum2 : List Bool := [false, false, false, false, false, true] ++ List.replicate 39 false
def vRSum (l : List UInt8) (u i : Int) : List AV := [slB 0 l, .int .u64 u, .int .i64 i]

theorem nfRSumR (CALL : CallT) (l : List UInt8) (u i : Int) : roundG Try.prog CALL noLS (loopIn (bodyOf Try.prog 30) 0) mRSum (vRSum l u i) [farB l] =
 (if decide (i < (l.length : Int)) = true then
 (if 0 ≤ i ∧ i < (l.length : Int) then
 (if isIntV .u8 (bys l)[0 + i.toNat * 1]? = true then
 (if decide (i64.wrap (i + 1) < (l.length : Int)) = true then
 (if 0 ≤ i64.wrap (i + 1) ∧ i64.wrap (i + 1) < (l.length : Int) then
 (if isIntV .u8 (bys l)[0 + (i64.wrap (i + 1)).toNat * 1]? = true then
 some (.norm, vRSum l (u64.wrap (u64.wrap (u + u64.wrap (u64.wrap (intV (bys l)[0 + i.toNat * 1]?) * 256)) +
 u64.wrap (intV (bys l)[0 + (i64.wrap (i + 1)).toNat * 1]?))) (i64.wrap (i + 2)), [farB l])
 else none) else none)
 else some (.norm, vRSum l (u64.wrap (u + u64.wrap (u64.wrap (intV (bys l)[0 + i.toNat * 1]?) * 256))) (i64.wrap (i + 2)), [farB l]))
 else none) else none)
 else some (.exit 0, vRSum l u i, [farB l])) := by
  kernel_rfl

theorem nfRSumR2 (CALL : CallT) (u : Int) (h : AHeap) : roundG Try.prog CALL noLS (loopIn (bodyOf Try.prog 30) 1) mRSum2 [.int .u64 u] h =
 if decide (u > 65535) = true then some (.norm, [.int .u64 (u64.wrap (u.fdiv 65536 + abits .u64 (· &&& ·) u 65535))], h) else some (.exit 2, [.int .u64 u], h) := by
  kernel_rfl

theorem rsumLoop2 (h : AHeap) : ∀ (k : Nat) (n : Int), n.toNat = k → 0 ≤ n → n < 9223372036854775808 → ∃ j, loopG (roundG Try.prog (deepC Try.prog [] 100 4) noLS (loopIn (bodyOf Try.prog 30) 1) mRSum2) j [.int .u64 n] h = some (.exit 2, [.int .u64 (foldI n)], h) := by
  intro k
  induction k using Nat.strongRecOn with
  | _ k ih =>
    intro n hk h0 h1
    by_cases hb : n < 65536
    · refine ⟨1, ?_⟩
      simp only [loopG, nfRSumR2, decide_eq_true_eq, if_neg (show ¬ n > 65535 by omega), Option.bind_some]
      rw [foldI_small ⟨h0, hb⟩]
    · have e : u64.wrap (n.fdiv 65536 + abits .u64 (· &&& ·) n 65535) = n % 65536 + n / 65536 := by
        rw [and16 (by omega), fdivPos, wrapU64 (by omega)]; omega
      obtain ⟨j, hj⟩ := ih (n % 65536 + n / 65536).toNat (by omega) _ rfl (by omega) (by omega)
      refine ⟨j + 1, ?_⟩
      simp only [loopG, nfRSumR2, decide_eq_true_eq, if_pos (show n > 65535 by omega), Option.bind_some, e]
      rw [hj, foldI_step h0]

theorem rsumLoop (l : List UInt8) (s : Int) (hs : 0 ≤ s ∧ s < 4294967296) (hl : l.length ≤ 70368744177664) :
    ∃ j, loopG (roundG Try.prog (deepC Try.prog [] 100 4) noLS (loopIn (bodyOf Try.prog 30) 0) mRSum) j (vRSum l s 0) [farB l] = some (.exit 0, vRSum l (s + wsum l) ((2 * ((l.length + 1) / 2) : Nat) : Int), [farB l]) := by
  have := loop_up (body := roundG Try.prog (deepC Try.prog [] 100 4) noLS (loopIn (bodyOf Try.prog 30) 0) mRSum)
    (fun i => (vRSum l (s + (wsum l - wsum (l.drop (2 * i)))) ((2 * i : Nat) : Int), [farB l])) (n := (l.length + 1) / 2) (e := .exit 0) (vs := vRSum l (s + wsum l) ((2 * ((l.length + 1) / 2) : Nat) : Int)) (h := [farB l]) (by simp)
    (fun i hi => by
      have hp := psum_range l i (by omega)
      have h1 := wsum_step (l := l) (i := 2 * i) (by omega)
      have g1 := byt_range l (2 * i)
      have g2 := byt_range l (2 * i + 1)
      have e1 : 0 + ((2 * i : Nat) : Int).toNat * 1 = 2 * i := by omega
      have e2 : i64.wrap (((2 * i : Nat) : Int) + 1) = ((2 * i + 1 : Nat) : Int) := by rw [wrapI64 (by omega)]; omega
      have e3 : 0 + ((2 * i + 1 : Nat) : Int).toNat * 1 = 2 * i + 1 := by omega
      have e4 : i64.wrap (((2 * i : Nat) : Int) + 2) = ((2 * (i + 1) : Nat) : Int) := by rw [wrapI64 (by omega)]; omega
      simp only [nfRSumR]
      rw [e1, e2, e3, e4, if_pos (by simp; omega), if_pos (by omega), bys_get, isIntV_byte, if_pos (by simp; omega), bys_get, isIntV_byte, intV_byte, intV_byte]
      rw [wrapU64 (n := byt l (2 * i)) (by omega), wrapU64 (n := byt l (2 * i) * 256) (by omega)]
      by_cases h2 : 2 * i + 1 < l.length
      · rw [if_pos (by simp; omega), if_pos (by omega), if_pos (by simp; omega), wrapU64 (n := byt l (2 * i + 1)) (by omega), wrapU64 (n := s + (wsum l - wsum (l.drop (2 * i))) + byt l (2 * i) * 256) (by omega), wrapU64 (by omega)]
        have : s + (wsum l - wsum (l.drop (2 * i))) + byt l (2 * i) * 256 + byt l (2 * i + 1) = s + (wsum l - wsum (l.drop (2 * (i + 1)))) := by
          rw [show 2 * (i + 1) = 2 * i + 2 by omega]
          unfold word at h1; omega
        rw [this]
      · have h0 := byt_ge (show l.length ≤ 2 * i + 1 by omega)
        rw [if_neg (by simp; omega), wrapU64 (by omega)]
        have : s + (wsum l - wsum (l.drop (2 * i))) + byt l (2 * i) * 256 = s + (wsum l - wsum (l.drop (2 * (i + 1)))) := by
          rw [show 2 * (i + 1) = 2 * i + 2 by omega]
          unfold word at h1; omega
        rw [this])
    (by
      simp only [nfRSumR]
      rw [if_neg (by simp; omega)]
      rw [List.drop_of_length_le (by omega)]
      simp [wsum])
  simpa using this

def eRSum : GEnt := fun args h => match args with
  | [b, .int .u32 s] => some (bOk h b && decide (nOf b ≤ 70368744177664 ∧ 0 ≤ s ∧ s < 4294967296), .int .i64 (sumI (bOf h b) s), h)
  | _ => none

noncomputable def lsRSum (l : List UInt8) (s : Int) : List (Nat × LoopF) := [(3, fixL mRSum (vRSum l s 0) [farB l] (.exit 0) (vRSum l (s + wsum l) ((2 * ((l.length + 1) / 2) : Nat) : Int)) [farB l]),
  (8, fixL mRSum2 [.int .u64 (s + wsum l)] [farB l] (.exit 2) [.int .u64 (foldI (s + wsum l))] [farB l])]

theorem nfRSum {R : Type} (l : List UInt8) (s : Int) (K : AV → Option R) : abody Try.prog (deepC Try.prog [] 100 4) (mixLS (lsRSum l s) (autoLS Try.prog (deepC Try.prog [] 100 4) 100 4 (bodyOf Try.prog 30))) 30 [slB 0 l, .int .u32 s] [farB l] (fun v _ => K v) =
 if cdec (vRSum l (u64.wrap s) 0 = vRSum l s 0 ∧ [farB l] = [farB l]) = true then
 (if cdec ([AV.int .u64 (s + wsum l)] = [AV.int .u64 (s + wsum l)] ∧ [farB l] = [farB l]) = true then K (.int .i64 (i64.wrap (foldI (s + wsum l)))) else none)
 else none := by
  kernel_rfl

theorem sRSum : SoundE Try.prog 30 (entF eRSum) := by
  refine canonV_sound fun args h v h' hg => ?_
  unfold eRSum at hg
  split at hg
  · rename_i b s
    simp only [Option.some.injEq, Prod.mk.injEq, Bool.and_eq_true, decide_eq_true_eq] at hg
    obtain ⟨⟨hb, hn, hs⟩, rfl, rfl⟩ := hg
    refine ⟨rfl, rfl, [slB 0 (bOf h b), .int .u32 s], [farB (bOf h b)], .cons _ _ _ _ _ _ _ (bOk_canon hb 0) (.cons _ _ _ _ _ _ _ (.flat _ _ rfl) (.nil _)), ?_⟩
    rw [← bOk_len hb] at hn
    generalize bOf h b = l at hn
    have hr := wsum_range l
    have hf := foldI_range (s + wsum l)
    refine Runs.val (find_nil _) (F := 100) (n := 4) (ls := lsRSum l s) (both (by kernel_rfl) (by kernel_rfl) (by kernel_rfl) (by decide) (fixL_sound (deep0 100 4) (LS := noLS) (noLoops (by kernel_rfl)) (rsumLoop l s hs hn))
      (fixL_sound (deep0 100 4) (LS := noLS) (noLoops (by kernel_rfl)) (rsumLoop2 _ _ (s + wsum l) rfl (by omega) (by omega)))) ?_
    rw [nfRSum, if_pos (cdec_true.2 ⟨by rw [wrapU64 (by omega)], rfl⟩), if_pos (cdec_true.2 ⟨rfl, rfl⟩), wrapI64 (by omega)]
    rfl
  · simp at hg


def mRUpd : List Bool := List.replicate 7 false ++ [true] ++ List.replicate 16 false
theorem nfRUpdR (CALL : CallT) (u : Int) (h : AHeap) : roundG Try.prog CALL noLS (loopIn (bodyOf Try.prog 63) 0) mRUpd [.int .i64 u] h =
 if decide (u > 65535) = true then some (.norm, [.int .i64 (i64.wrap (u.fdiv 65536 + abits .i64 (· &&& ·) u 65535))], h) else some (.exit 0, [.int .i64 u], h) := by
  kernel_rfl

theorem and16i {n : Int} (h : 0 ≤ n ∧ n < 9223372036854775808) : abits .i64 (· &&& ·) n 65535 = n % 65536 := by
  obtain ⟨a, rfl⟩ := Int.eq_ofNat_of_zero_le h.1
  have h1 : (BitVec.ofInt 64 (65535 : Int)).toNat = 65535 := by decide
  have h2 := ofIntNat 64 a (by omega)
  show i64.wrap ((BitVec.ofInt 64 (a : Int) &&& BitVec.ofInt 64 (65535 : Int)).toNat : Int) = _
  rw [BitVec.toNat_and, h2, h1, show (65535 : Nat) = 2 ^ 16 - 1 by rfl, Nat.and_two_pow_sub_one_eq_mod]
  rw [wrapI64 (by omega)]
  omega

theorem rupdLoop (h : AHeap) : ∀ (k : Nat) (n : Int), n.toNat = k → 0 ≤ n → n < 4611686018427387904 → ∃ j, loopG (roundG Try.prog (deepC Try.prog [] 100 4) noLS (loopIn (bodyOf Try.prog 63) 0) mRUpd) j [.int .i64 n] h = some (.exit 0, [.int .i64 (foldI n)], h) := by
  intro k
  induction k using Nat.strongRecOn with
  | _ k ih =>
    intro n hk h0 h1
    by_cases hb : n < 65536
    · refine ⟨1, ?_⟩
      simp only [loopG, nfRUpdR, decide_eq_true_eq, if_neg (show ¬ n > 65535 by omega), Option.bind_some]
      rw [foldI_small ⟨h0, hb⟩]
    · have e : i64.wrap (n.fdiv 65536 + abits .i64 (· &&& ·) n 65535) = n % 65536 + n / 65536 := by
        rw [and16i (by omega), fdivPos, wrapI64 (by omega)]; omega
      obtain ⟨j, hj⟩ := ih (n % 65536 + n / 65536).toNat (by omega) _ rfl (by omega) (by omega)
      refine ⟨j + 1, ?_⟩
      simp only [loopG, nfRUpdR, decide_eq_true_eq, if_pos (show n > 65535 by omega), Option.bind_some, e]
      rw [hj, foldI_step h0]

def eRUpdate : GEnt := fun args h => match args with
  | [.int .i64 o, .int .i64 f, .int .i64 t] => some (decide ((0 ≤ o ∧ o < 65536) ∧ (0 ≤ f ∧ f < 65536) ∧ (0 ≤ t ∧ t < 65536)), .int .i64 (updI o f t), h)
  | _ => none

theorem nfRUpdate {R : Type} (o f t x y : Int) (K : AV → Option R) : abody Try.prog (deepC Try.prog [] 100 4) (mixLS [(2, fixL mRUpd [.int .i64 x] [] (.exit 0) [.int .i64 y] [])] (autoLS Try.prog (deepC Try.prog [] 100 4) 100 4 (bodyOf Try.prog 63))) 63 [.int .i64 o, .int .i64 f, .int .i64 t] [] (fun v _ => K v) =
 if cdec ([AV.int .i64 (i64.wrap (i64.wrap (i64.wrap (65535 - o) + i64.wrap (65535 - f)) + t))] = [.int .i64 x] ∧ ([] : AHeap) = []) = true then K (.int .i64 (i64.wrap (65535 - y))) else none := by
  kernel_rfl

theorem sRUpdate : SoundE Try.prog 63 (entF eRUpdate) := by
  refine canonV_sound fun args h v h' hg => ?_
  unfold eRUpdate at hg
  split at hg
  · rename_i o f t
    simp only [Option.some.injEq, Prod.mk.injEq, decide_eq_true_eq] at hg
    obtain ⟨⟨ho, hf, ht⟩, rfl, rfl⟩ := hg
    refine ⟨rfl, rfl, [.int .i64 o, .int .i64 f, .int .i64 t], [], .cons _ _ _ _ _ _ _ (.flat _ _ rfl) (.cons _ _ _ _ _ _ _ (.flat _ _ rfl) (.cons _ _ _ _ _ _ _ (.flat _ _ rfl) (.nil _))), ?_⟩
    have hr := foldI_range ((65535 - o) + (65535 - f) + t)
    refine Runs.val (find_nil _) (F := 100) (n := 4) (ls := [(2, fixL mRUpd [.int .i64 ((65535 - o) + (65535 - f) + t)] [] (.exit 0) [.int .i64 (foldI ((65535 - o) + (65535 - f) + t))] [])]) (only (by kernel_rfl) (fixL_sound (deep0 100 4) (LS := noLS) (noLoops (by kernel_rfl)) (rupdLoop _ _ _ rfl (by omega) (by omega)))) ?_
    have e : i64.wrap (i64.wrap (i64.wrap (65535 - o) + i64.wrap (65535 - f)) + t) = (65535 - o) + (65535 - f) + t := by
      rw [wrapI64 (n := 65535 - o) (by omega), wrapI64 (n := 65535 - f) (by omega), wrapI64 (n := 65535 - o + (65535 - f)) (by omega), wrapI64 (by omega)]
    rw [nfRUpdate, e, if_pos (cdec_true.2 ⟨rfl, rfl⟩), wrapI64 (by omega)]
    rfl
  · simp at hg


noncomputable def tRCh : Tbl := [(50, entF eBe16), (63, entF eRUpdate)]
theorem tRChOk : ∀ f E, tRCh.find f = some E → SoundE Try.prog f E := find_cons sBe16 (find_cons sRUpdate (find_nil _))

def mRCh : List Bool := [true, true, true, false, false, false, false, true] ++ List.replicate 27 false
def vRCh (o : Int) (f t : List UInt8) (i : Int) : List AV := [.int .i64 o, slB 0 f, slB 1 t, .int .i64 i]

theorem nfRChR (o : Int) (f t : List UInt8) (i : Int) : roundG Try.prog (deepC Try.prog tRCh 100 4) noLS (loopIn (bodyOf Try.prog 51) 0) mRCh (vRCh o f t i) [farB f, farB t] =
 if decide (i < (f.length : Int)) = true then
 (if (bOk [farB f, farB t] (slB 0 f) && decide (f.length ≤ 70368744177664 ∧ 0 ≤ i ∧ i + 2 ≤ (f.length : Int))) = true then
 (if (bOk [farB f, farB t] (slB 1 t) && decide (t.length ≤ 70368744177664 ∧ 0 ≤ i ∧ i + 2 ≤ (t.length : Int))) = true then
 (if decide ((0 ≤ o ∧ o < 65536) ∧ (0 ≤ word (bOf [farB f, farB t] (slB 0 f)) i.toNat ∧ word (bOf [farB f, farB t] (slB 0 f)) i.toNat < 65536) ∧ (0 ≤ word (bOf [farB f, farB t] (slB 1 t)) i.toNat ∧ word (bOf [farB f, farB t] (slB 1 t)) i.toNat < 65536)) = true then
 some (.norm, vRCh (updI o (word (bOf [farB f, farB t] (slB 0 f)) i.toNat) (word (bOf [farB f, farB t] (slB 1 t)) i.toNat)) f t (i64.wrap (i + 2)), [farB f, farB t])
 else none) else none) else none)
 else some (.exit 0, vRCh o f t i, [farB f, farB t]) := by
  kernel_rfl

theorem rchLoop (o : Int) (f t : List UInt8) (ho : 0 ≤ o ∧ o < 65536) (hl : f.length = t.length) (he : f.length % 2 = 0) (hn : f.length ≤ 70368744177664) :
    ∃ j, loopG (roundG Try.prog (deepC Try.prog tRCh 100 4) noLS (loopIn (bodyOf Try.prog 51) 0) mRCh) j (vRCh o f t 0) [farB f, farB t] = some (.exit 0, vRCh (chgI o f t) f t f.length, [farB f, farB t]) := by
  have key : ∀ (k i : Nat) (o : Int), f.length - i = k → i % 2 = 0 → i ≤ f.length → 0 ≤ o ∧ o < 65536 →
      ∃ j, loopG (roundG Try.prog (deepC Try.prog tRCh 100 4) noLS (loopIn (bodyOf Try.prog 51) 0) mRCh) j (vRCh o f t (i : Int)) [farB f, farB t] = some (.exit 0, vRCh (chgI o (f.drop i) (t.drop i)) f t f.length, [farB f, farB t]) := by
    intro k
    induction k using Nat.strongRecOn with
    | _ k ih =>
      intro i o hk hi2 hi ho
      have g1 := bOk_far (h := [farB f, farB t]) (k := 0) (l := f) rfl
      have g2 := bOk_far (h := [farB f, farB t]) (k := 1) (l := t) rfl
      by_cases hlt : i < f.length
      · obtain ⟨j, hj⟩ := ih (f.length - (i + 2)) (by omega) (i + 2) (updI o (word f i) (word t i)) rfl (by omega) (by omega) (updI_range _ _ _)
        refine ⟨j + 1, ?_⟩
        have e1 : i64.wrap ((i : Int) + 2) = ((i + 2 : Nat) : Int) := by rw [wrapI64 (by omega)]; omega
        have e2 : (i : Int).toNat = i := by omega
        simp only [loopG, nfRChR]
        rw [g1.1, g1.2, g2.1, g2.2, e1, e2, if_pos (by simp; omega), if_pos (by simp; omega), if_pos (by simp; omega), if_pos (by simp only [decide_eq_true_eq]; exact ⟨ho, word_range _ _, word_range _ _⟩)]
        simp only [Option.bind_some]
        rw [hj, chgI_step (o := o) (f := f) (t := t) (i := i) (by omega) (by omega)]
      · refine ⟨1, ?_⟩
        have : i = f.length := by omega
        subst this
        simp only [loopG, nfRChR]
        rw [if_neg (by simp)]
        simp only [Option.bind_some]
        rw [List.drop_length, hl, List.drop_length]
        rfl
  simpa using key _ 0 o rfl rfl (Nat.zero_le _) ho

def eRChange : GEnt := fun args h => match args with
  | [.int .i64 o, f, t] => some (bOk h f && bOk h t && decide (nOf f ≤ 70368744177664 ∧ 0 ≤ o ∧ o < 65536), .int .i64 (changeI o (bOf h f) (bOf h t)), h)
  | _ => none

theorem nfRChange {R : Type} (o : Int) (f t : List UInt8) (K : AV → Option R) : abody Try.prog (deepC Try.prog tRCh 100 4) (mixLS [(4, fixL mRCh (vRCh o f t 0) [farB f, farB t] (.exit 0) (vRCh (chgI o f t) f t f.length) [farB f, farB t])] (autoLS Try.prog (deepC Try.prog tRCh 100 4) 100 4 (bodyOf Try.prog 51))) 51 [.int .i64 o, slB 0 f, slB 1 t] [farB f, farB t] (fun v _ => K v) =
 if ((f.length : Int) != (t.length : Int)) = true then K (.int .i64 o)
 else if ((f.length : Int).tmod 2 != 0) = true then K (.int .i64 o)
 else if cdec (vRCh o f t 0 = vRCh o f t 0 ∧ [farB f, farB t] = [farB f, farB t]) = true then K (.int .i64 (chgI o f t)) else none := by
  kernel_rfl


theorem sRChange : SoundE Try.prog 51 (entF eRChange) := by
  refine canonV_sound fun args h v h' hg => ?_
  unfold eRChange at hg
  split at hg
  · rename_i o b c
    simp only [Option.some.injEq, Prod.mk.injEq, Bool.and_eq_true, decide_eq_true_eq] at hg
    obtain ⟨⟨⟨hb, hc⟩, hn, ho⟩, rfl, rfl⟩ := hg
    refine ⟨rfl, rfl, [.int .i64 o, slB 0 (bOf h b), slB 1 (bOf h c)], [farB (bOf h b), farB (bOf h c)], .cons _ _ _ _ _ _ _ (.flat _ _ rfl) (.cons _ _ _ _ _ _ _ (bOk_canon hb 0) (.cons _ _ _ _ _ _ _ (bOk_canon hc 1) (.nil _))), ?_⟩
    rw [← bOk_len hb] at hn
    generalize bOf h b = f at hn
    generalize bOf h c = t
    by_cases h1 : f.length = t.length ∧ f.length % 2 = 0
    · refine Runs.val tRChOk (F := 100) (n := 4) (ls := [(4, fixL mRCh (vRCh o f t 0) [farB f, farB t] (.exit 0) (vRCh (chgI o f t) f t f.length) [farB f, farB t])]) (only (by kernel_rfl) (fixL_sound (deepC_sound tRChOk 100 4) (LS := noLS) (noLoops (by kernel_rfl)) (rchLoop o f t ho h1.1 h1.2 hn))) ?_
      rw [nfRChange, if_neg (by simp [h1.1]), if_neg (by rw [tmod2]; simp [h1.2]), if_pos (cdec_true.2 ⟨rfl, rfl⟩), changeI, if_pos h1]
    · have key : ∃ h', Runs Try.prog 51 [.int .i64 o, slB 0 f, slB 1 t] [farB f, farB t] (.int .i64 o) h' := by
        refine Runs.val0 tRChOk (F := 0) (n := 4) ?_
        have : abody Try.prog (deepC Try.prog tRCh 0 4) (mixLS [] (autoLS Try.prog (deepC Try.prog tRCh 0 4) 0 4 (bodyOf Try.prog 51))) 51 [.int .i64 o, slB 0 f, slB 1 t] [farB f, farB t] (fun v _ => some v) =
            if ((f.length : Int) != (t.length : Int)) = true then some (.int .i64 o) else if ((f.length : Int).tmod 2 != 0) = true then some (.int .i64 o) else none := by kernel_rfl
        rw [this, tmod2]
        by_cases h2 : f.length = t.length
        · rw [if_neg (by simp [h2]), if_pos (by simp; omega)]
        · rw [if_pos (by simp; omega)]
      rw [changeI, if_neg h1]
      exact key
  · simp at hg

end Go.Proofs.Ytnchnjkakddhlaa.L

end

section
/- Where what follows begins: the program's Net and the reference's. -/
set_option autoImplicit false
set_option maxRecDepth 100000
set_option linter.unusedVariables false
set_option linter.unusedSimpArgs false
namespace Go.Proofs.Ytnchnjkakddhlaa.L
open Go Go.Abs
open Go.IntKind (u8 u16 u32 u64 i64)
open Go.Abs.AV (int)
open Go.Abs.ABlk (cells)
noncomputable def tNet : Tbl := [(43, entF eGet16)]
noncomputable def tRNet : Tbl := [(50, entF eBe16)]
noncomputable def hNet0 (b : List UInt8) : AHeap := [cells (bys b) 1 Md.far none]
theorem nfNet {R : Type} (b : List UInt8) (K : AV → Option R) :
 abody Try.prog (deepC Try.prog tNet 100 4) (mixLS [] (autoLS Try.prog (deepC Try.prog tNet 100 4) 100 4 (bodyOf Try.prog 39))) 39 [slB 0 b] [farB b] (fun v _ => K v) =
 (if (bOk (hNet0 b) (AV.sl (some (0, 0)) b.length 0 false) && decide ((((nOf (AV.sl (some (0, 0)) b.length 0 false)) : Nat) : Int) < 9223372036854775000)) = true then
 (if ((if Int.ofNat 0 ≤ Int.ofNat 12 ∧ 14 ≤ (((bOf (hNet0 b) (AV.sl (some (0, 0)) b.length 0 false)).length : Nat) : Int) then numAt (bOf (hNet0 b) (AV.sl (some (0, 0)) b.length 0 false)) 12 2 else 0) == 33024) = true then
 (if decide (Int.ofNat 0 ≤ Int.ofNat 12 ∧ 14 ≤ (((bOf (hNet0 b) (AV.sl (some (0, 0)) b.length 0 false)).length : Nat) : Int)) = true then
 (if (bOk (hNet0 b) (AV.sl (some (0, 0)) b.length 0 false) && decide ((((nOf (AV.sl (some (0, 0)) b.length 0 false)) : Nat) : Int) < 9223372036854775000)) = true then
 (if (!decide (Int.ofNat 0 ≤ Int.ofNat 16 ∧ 18 ≤ (((bOf (hNet0 b) (AV.sl (some (0, 0)) b.length 0 false)).length : Nat) : Int))) = true then
 K (AV.tup [int i64 0, int u16 0, int i64 1])
 else (if ((if Int.ofNat 0 ≤ Int.ofNat 16 ∧ 18 ≤ (((bOf (hNet0 b) (AV.sl (some (0, 0)) b.length 0 false)).length : Nat) : Int) then numAt (bOf (hNet0 b) (AV.sl (some (0, 0)) b.length 0 false)) 16 2 else 0) != 2048) = true then
 (if ((if Int.ofNat 0 ≤ Int.ofNat 16 ∧ 18 ≤ (((bOf (hNet0 b) (AV.sl (some (0, 0)) b.length 0 false)).length : Nat) : Int) then numAt (bOf (hNet0 b) (AV.sl (some (0, 0)) b.length 0 false)) 16 2 else 0) != 34525) = true then
 K (AV.tup [int i64 0, int u16 0, int i64 2])
 else K (AV.tup [int i64 18, int u16 (if Int.ofNat 0 ≤ Int.ofNat 16 ∧ 18 ≤ (((bOf (hNet0 b) (AV.sl (some (0, 0)) b.length 0 false)).length : Nat) : Int) then numAt (bOf (hNet0 b) (AV.sl (some (0, 0)) b.length 0 false)) 16 2 else 0), int i64 0]))
 else K (AV.tup [int i64 18, int u16 (if Int.ofNat 0 ≤ Int.ofNat 16 ∧ 18 ≤ (((bOf (hNet0 b) (AV.sl (some (0, 0)) b.length 0 false)).length : Nat) : Int) then numAt (bOf (hNet0 b) (AV.sl (some (0, 0)) b.length 0 false)) 16 2 else 0), int i64 0])))
 else none)
 else (if (!decide (Int.ofNat 0 ≤ Int.ofNat 12 ∧ 14 ≤ (((bOf (hNet0 b) (AV.sl (some (0, 0)) b.length 0 false)).length : Nat) : Int))) = true then
 K (AV.tup [int i64 0, int u16 0, int i64 1])
 else (if ((if Int.ofNat 0 ≤ Int.ofNat 12 ∧ 14 ≤ (((bOf (hNet0 b) (AV.sl (some (0, 0)) b.length 0 false)).length : Nat) : Int) then numAt (bOf (hNet0 b) (AV.sl (some (0, 0)) b.length 0 false)) 12 2 else 0) != 2048) = true then
 (if ((if Int.ofNat 0 ≤ Int.ofNat 12 ∧ 14 ≤ (((bOf (hNet0 b) (AV.sl (some (0, 0)) b.length 0 false)).length : Nat) : Int) then numAt (bOf (hNet0 b) (AV.sl (some (0, 0)) b.length 0 false)) 12 2 else 0) != 34525) = true then
 K (AV.tup [int i64 0, int u16 0, int i64 2])
 else K (AV.tup [int i64 14, int u16 (if Int.ofNat 0 ≤ Int.ofNat 12 ∧ 14 ≤ (((bOf (hNet0 b) (AV.sl (some (0, 0)) b.length 0 false)).length : Nat) : Int) then numAt (bOf (hNet0 b) (AV.sl (some (0, 0)) b.length 0 false)) 12 2 else 0), int i64 0]))
 else K (AV.tup [int i64 14, int u16 (if Int.ofNat 0 ≤ Int.ofNat 12 ∧ 14 ≤ (((bOf (hNet0 b) (AV.sl (some (0, 0)) b.length 0 false)).length : Nat) : Int) then numAt (bOf (hNet0 b) (AV.sl (some (0, 0)) b.length 0 false)) 12 2 else 0), int i64 0]))))
 else (if (!decide (Int.ofNat 0 ≤ Int.ofNat 12 ∧ 14 ≤ (((bOf (hNet0 b) (AV.sl (some (0, 0)) b.length 0 false)).length : Nat) : Int))) = true then
 K (AV.tup [int i64 0, int u16 0, int i64 1])
 else (if ((if Int.ofNat 0 ≤ Int.ofNat 12 ∧ 14 ≤ (((bOf (hNet0 b) (AV.sl (some (0, 0)) b.length 0 false)).length : Nat) : Int) then numAt (bOf (hNet0 b) (AV.sl (some (0, 0)) b.length 0 false)) 12 2 else 0) != 2048) = true then
 (if ((if Int.ofNat 0 ≤ Int.ofNat 12 ∧ 14 ≤ (((bOf (hNet0 b) (AV.sl (some (0, 0)) b.length 0 false)).length : Nat) : Int) then numAt (bOf (hNet0 b) (AV.sl (some (0, 0)) b.length 0 false)) 12 2 else 0) != 34525) = true then
 K (AV.tup [int i64 0, int u16 0, int i64 2])
 else K (AV.tup [int i64 14, int u16 (if Int.ofNat 0 ≤ Int.ofNat 12 ∧ 14 ≤ (((bOf (hNet0 b) (AV.sl (some (0, 0)) b.length 0 false)).length : Nat) : Int) then numAt (bOf (hNet0 b) (AV.sl (some (0, 0)) b.length 0 false)) 12 2 else 0), int i64 0]))
 else K (AV.tup [int i64 14, int u16 (if Int.ofNat 0 ≤ Int.ofNat 12 ∧ 14 ≤ (((bOf (hNet0 b) (AV.sl (some (0, 0)) b.length 0 false)).length : Nat) : Int) then numAt (bOf (hNet0 b) (AV.sl (some (0, 0)) b.length 0 false)) 12 2 else 0), int i64 0]))))
 else none) := by
  kernel_rfl

noncomputable def hRNet0 (b : List UInt8) : AHeap := [cells (bys b) 1 Md.far none]
theorem nfRNet {R : Type} (b : List UInt8) (K : AV → Option R) :
 abody Try.prog (deepC Try.prog tRNet 100 4) (mixLS [] (autoLS Try.prog (deepC Try.prog tRNet 100 4) 100 4 (bodyOf Try.prog 34))) 34 [slB 0 b] [farB b] (fun v _ => K v) =
 (if decide ((b.length : Int) < 14) = true then
 K (AV.tup [int i64 0, int i64 0, int i64 1])
 else (if (bOk (hRNet0 b) (AV.sl (some (0, 0)) b.length 0 false) && decide (nOf (AV.sl (some (0, 0)) b.length 0 false) ≤ 70368744177664 ∧ Int.ofNat 0 ≤ Int.ofNat 12 ∧ 14 ≤ (((nOf (AV.sl (some (0, 0)) b.length 0 false)) : Nat) : Int))) = true then
 (if (word (bOf (hRNet0 b) (AV.sl (some (0, 0)) b.length 0 false)) 12 == 33024) = true then
 (if decide ((b.length : Int) < 18) = true then
 K (AV.tup [int i64 0, int i64 0, int i64 1])
 else (if (bOk (hRNet0 b) (AV.sl (some (0, 0)) b.length 0 false) && decide (nOf (AV.sl (some (0, 0)) b.length 0 false) ≤ 70368744177664 ∧ Int.ofNat 0 ≤ Int.ofNat 16 ∧ 18 ≤ (((nOf (AV.sl (some (0, 0)) b.length 0 false)) : Nat) : Int))) = true then
 (if (word (bOf (hRNet0 b) (AV.sl (some (0, 0)) b.length 0 false)) 16 != 2048) = true then
 (if (word (bOf (hRNet0 b) (AV.sl (some (0, 0)) b.length 0 false)) 16 != 34525) = true then
 K (AV.tup [int i64 0, int i64 0, int i64 2])
 else K (AV.tup [int i64 18, int i64 (word (bOf (hRNet0 b) (AV.sl (some (0, 0)) b.length 0 false)) 16), int i64 0]))
 else K (AV.tup [int i64 18, int i64 (word (bOf (hRNet0 b) (AV.sl (some (0, 0)) b.length 0 false)) 16), int i64 0]))
 else none))
 else (if (word (bOf (hRNet0 b) (AV.sl (some (0, 0)) b.length 0 false)) 12 != 2048) = true then
 (if (word (bOf (hRNet0 b) (AV.sl (some (0, 0)) b.length 0 false)) 12 != 34525) = true then
 K (AV.tup [int i64 0, int i64 0, int i64 2])
 else K (AV.tup [int i64 14, int i64 (word (bOf (hRNet0 b) (AV.sl (some (0, 0)) b.length 0 false)) 12), int i64 0]))
 else K (AV.tup [int i64 14, int i64 (word (bOf (hRNet0 b) (AV.sl (some (0, 0)) b.length 0 false)) 12), int i64 0])))
 else none)) := by
  kernel_rfl


def netW (at' : Int) (w : Int) : Int × Int × Int := if w ≠ 2048 ∧ w ≠ 34525 then (0, 0, 2) else (at', w, 0)
def netR (b : List UInt8) : Int × Int × Int :=
  if b.length < 14 then (0, 0, 1)
  else if word b 12 = 33024 then (if b.length < 18 then (0, 0, 1) else netW 18 (word b 16))
  else netW 14 (word b 12)
def netV (k : IntKind) (x : Int × Int × Int) : AV := .tup [.int .i64 x.1, .int k x.2.1, .int .i64 x.2.2]

theorem netR_cases (b : List UInt8) : (netR b).2.2 = 0 ∧ ((netR b).1 = 14 ∧ 14 ≤ b.length ∨ (netR b).1 = 18 ∧ 18 ≤ b.length) ∧ ((netR b).2.1 = 2048 ∨ (netR b).2.1 = 34525) ∨ (netR b).1 = 0 ∧ (netR b).2.1 = 0 ∧ ((netR b).2.2 = 1 ∨ (netR b).2.2 = 2) := by
  unfold netR netW
  repeat' split
  all_goals simp
  all_goals omega

def eNet : GEnt := fun args h => match args with
  | [b] => some (bOk h b && decide (nOf b ≤ 70368744177664), netV .u16 (netR (bOf h b)), h)
  | _ => none
def eRNet : GEnt := fun args h => match args with
  | [b] => some (bOk h b && decide (nOf b ≤ 70368744177664), netV .i64 (netR (bOf h b)), h)
  | _ => none

theorem netTree {R : Type} (b : List UInt8) (hb : b.length ≤ 70368744177664) (K : AV → Option R) : abody Try.prog (deepC Try.prog tNet 100 4) (mixLS [] (autoLS Try.prog (deepC Try.prog tNet 100 4) 100 4 (bodyOf Try.prog 39))) 39 [slB 0 b] [farB b] (fun v _ => K v) = K (netV .u16 (netR b)) := by
  rw [nfNet]
  have g := bOk_row (h := hNet0 b) (k := 0) (n := b.length) (r := 0) (e := false) (l := b) rfl rfl rfl
  simp only [g.2]
  have c0 : (b.length : Int) < 9223372036854775000 := by omega
  have w : ∀ i : Nat, i + 2 ≤ b.length → numAt b i 2 = word b i := fun i hi => numAt_two hi
  by_cases h1 : 14 ≤ b.length
  · have c1 : ((14 : Int) ≤ (b.length : Int)) := by omega
    have c1' : ¬ b.length < 14 := by omega
    rw [w 12 (by omega)]
    by_cases h2 : 18 ≤ b.length
    · have c2 : ((18 : Int) ≤ (b.length : Int)) := by omega
      have c2' : ¬ b.length < 18 := by omega
      rw [w 16 (by omega)]
      by_cases w1 : word b 12 = 33024 <;> by_cases w2 : word b 12 = 2048 <;> by_cases w3 : word b 12 = 34525 <;> by_cases w4 : word b 16 = 2048 <;> by_cases w5 : word b 16 = 34525 <;> first | omega | (simp [*, netR, netV, netW, nOf, g.1] <;> done)
    · have c2 : ¬ ((18 : Int) ≤ (b.length : Int)) := by omega
      have c2' : b.length < 18 := by omega
      by_cases w1 : word b 12 = 33024 <;> by_cases w2 : word b 12 = 2048 <;> by_cases w3 : word b 12 = 34525 <;> first | omega | (simp [*, netR, netV, netW, nOf, g.1] <;> done)
  · have c1 : ¬ ((14 : Int) ≤ (b.length : Int)) := by omega
    have c1' : b.length < 14 := by omega
    simp [*, netR, netV, netW, nOf, g.1]

theorem rnetTree {R : Type} (b : List UInt8) (hb : b.length ≤ 70368744177664) (K : AV → Option R) : abody Try.prog (deepC Try.prog tRNet 100 4) (mixLS [] (autoLS Try.prog (deepC Try.prog tRNet 100 4) 100 4 (bodyOf Try.prog 34))) 34 [slB 0 b] [farB b] (fun v _ => K v) = K (netV .i64 (netR b)) := by
  rw [nfRNet]
  have g := bOk_row (h := hRNet0 b) (k := 0) (n := b.length) (r := 0) (e := false) (l := b) rfl rfl rfl
  simp only [g.2]
  have c0 : (b.length : Int) < 9223372036854775000 := by omega
  by_cases h1 : 14 ≤ b.length
  · have c1 : ((14 : Int) ≤ (b.length : Int)) := by omega
    have c1' : ¬ b.length < 14 := by omega
    have c1'' : ¬ (b.length : Int) < 14 := by omega
    by_cases h2 : 18 ≤ b.length
    · have c2 : ((18 : Int) ≤ (b.length : Int)) := by omega
      have c2' : ¬ b.length < 18 := by omega
      have c2'' : ¬ (b.length : Int) < 18 := by omega
      by_cases w1 : word b 12 = 33024 <;> by_cases w2 : word b 12 = 2048 <;> by_cases w3 : word b 12 = 34525 <;> by_cases w4 : word b 16 = 2048 <;> by_cases w5 : word b 16 = 34525 <;> first | omega | (simp [*, netR, netV, netW, nOf, g.1] <;> done)
    · have c2 : (b.length : Int) < 18 := by omega
      have c2' : b.length < 18 := by omega
      by_cases w1 : word b 12 = 33024 <;> by_cases w2 : word b 12 = 2048 <;> by_cases w3 : word b 12 = 34525 <;> first | omega | (simp [*, netR, netV, netW, nOf, g.1] <;> done)
  · have c1 : (b.length : Int) < 14 := by omega
    have c1' : b.length < 14 := by omega
    simp [*, netR, netV, netW, nOf, g.1]

theorem sNet : SoundE Try.prog 39 (entF eNet) := by
  refine canonV_sound fun args h v h' hg => ?_
  unfold eNet at hg
  split at hg
  · rename_i b
    simp only [Option.some.injEq, Prod.mk.injEq, Bool.and_eq_true, decide_eq_true_eq] at hg
    obtain ⟨⟨hb, hn⟩, rfl, rfl⟩ := hg
    refine ⟨rfl, rfl, [slB 0 (bOf h b)], [farB (bOf h b)], .cons _ _ _ _ _ _ _ (bOk_canon hb 0) (.nil _), ?_⟩
    rw [← bOk_len hb] at hn
    exact Runs.val0 (find_cons sGet16 (find_nil _)) (F := 100) (n := 4) (netTree _ hn _)
  · simp at hg

theorem sRNet : SoundE Try.prog 34 (entF eRNet) := by
  refine canonV_sound fun args h v h' hg => ?_
  unfold eRNet at hg
  split at hg
  · rename_i b
    simp only [Option.some.injEq, Prod.mk.injEq, Bool.and_eq_true, decide_eq_true_eq] at hg
    obtain ⟨⟨hb, hn⟩, rfl, rfl⟩ := hg
    refine ⟨rfl, rfl, [slB 0 (bOf h b)], [farB (bOf h b)], .cons _ _ _ _ _ _ _ (bOk_canon hb 0) (.nil _), ?_⟩
    rw [← bOk_len hb] at hn
    exact Runs.val0 (find_cons sBe16 (find_nil _)) (F := 100) (n := 4) (rnetTree _ hn _)
  · simp at hg

end Go.Proofs.Ytnchnjkakddhlaa.L

end

section
/- What the document says of a frame. -/
set_option autoImplicit false
set_option linter.unusedVariables false
namespace Go.Proofs.Ytnchnjkakddhlaa.L
open Go Go.Abs
open Go.IntKind (u8 u16 u32 u64 i64)
open Go.Abs.AV (int)
open Go.Abs.ABlk (cells)

def ipQ (l : List UInt8) : List UInt8 := l.drop (netR l).1.toNat
def isV6 (l : List UInt8) : Bool := decide ((netR l).2.1 = 34525)
def rdP (l : List UInt8) : Int := if isV6 l = true then byt (ipQ l) 6 else byt (ipQ l) 9
def rdS (l : List UInt8) : Int := if isV6 l = true then 40 else s4 (ipQ l)
def rdE (l : List UInt8) : Int := if isV6 l = true then 40 + word (ipQ l) 4 else word (ipQ l) 2
def rdI (l : List UInt8) : Int := if isV6 l = true then r6 (ipQ l) else r4 (ipQ l)
def rdG (l : List UInt8) : List UInt8 := ((ipQ l).drop (rdS l).toNat).take (rdE l - rdS l).toNat
def readR (l : List UInt8) : Int :=
  if (netR l).2.2 ≠ 0 then (netR l).2.2 else if 65535 < l.length then 1 else if rdI l ≠ 0 then rdI l else segR (rdP l) (rdG l)
def rdSrc (l : List UInt8) : List AV := if isV6 l = true then adr16 (ipQ l) 8 else adr4 (ipQ l) 12
def rdDst (l : List UInt8) : List AV := if isV6 l = true then adr16 (ipQ l) 24 else adr4 (ipQ l) 16
def viewOf (v : Bool) (at' sg en p : Int) (src dst : List AV) (sp dp fl : Int) : List AV := [.bool v, .int .i64 at', .int .i64 sg, .int .i64 en, .int .u8 p] ++ src ++ dst ++ [.int .u16 sp, .int .u16 dp, .int .u8 fl]
def adr0 : List AV := adrV false 0 0 0 0 0 0 0 0 0 0 0 0 0 0 0 0
def view0 : List AV := viewOf false 0 0 0 0 adr0 adr0 0 0 0
def viewL (l : List UInt8) : List AV :=
  if readR l = 0 then viewOf (isV6 l) (netR l).1 ((netR l).1 + rdS l) ((netR l).1 + rdE l) (rdP l) (rdSrc l) (rdDst l) (word (rdG l) 0) (word (rdG l) 2) (segF (rdP l) (rdG l)) else view0
def vRead (l : List UInt8) : AV := .tup [.agg (viewL l), .int .i64 (readR l)]
def eFrR : GEnt := fun args h => match args with
  | [b] => some (bOk h b && decide (nOf b ≤ 1000000000000), vRead (bOf h b), h)
  | _ => none

theorem vRead_N {l : List UInt8} {r : Int} (h : readR l = r) (h0 : r ≠ 0) : vRead l = .tup [.agg view0, .int .i64 r] := by
  unfold vRead viewL; rw [h, if_neg h0]
theorem readR_net {l : List UInt8} {r : Int} (h : (netR l).2.2 = r) (h0 : r ≠ 0) : readR l = r := by unfold readR; rw [h, if_pos h0]
theorem readR_long {l : List UInt8} (h : (netR l).2.2 = 0) (h0 : 65535 < l.length) : readR l = 1 := by unfold readR; rw [if_neg (by rw [h]; simp), if_pos h0]
theorem readR_ip {l : List UInt8} {r : Int} (h : (netR l).2.2 = 0) (h0 : ¬ 65535 < l.length) (hr : rdI l = r) (hn : r ≠ 0) : readR l = r := by unfold readR; rw [if_neg (by rw [h]; simp), if_neg h0, hr, if_pos hn]
theorem readR_seg {l : List UInt8} (h : (netR l).2.2 = 0) (h0 : ¬ 65535 < l.length) (hr : rdI l = 0) : readR l = segR (rdP l) (rdG l) := by unfold readR; rw [if_neg (by rw [h]; simp), if_neg h0, if_neg (by rw [hr]; simp)]
theorem net_at {l : List UInt8} (h : (netR l).2.2 = 0) : ∃ A : Nat, (netR l).1 = (A : Int) ∧ (A = 14 ∨ A = 18) ∧ A ≤ l.length ∧ ((netR l).2.1 = 2048 ∨ (netR l).2.1 = 34525) := by
  rcases netR_cases l with ⟨_, h1, h2⟩ | ⟨_, _, h1⟩
  · rcases h1 with ⟨e, hl⟩ | ⟨e, hl⟩
    · exact ⟨14, e, .inl rfl, hl, h2⟩
    · exact ⟨18, e, .inr rfl, hl, h2⟩
  · omega

theorem r4_Y {l : List UInt8} (h : r4 l = 0) : v4Read l = .tup [.agg ([.int .i64 (s4 l), .int .i64 (word l 2), .int .u8 (byt l 9)] ++ adr4 l 12 ++ adr4 l 16), .int .i64 0] := by
  unfold v4Read head4 adrZ4 z4; simp only [h, if_true]; rfl
theorem r4_N {l : List UInt8} {r : Int} (h : r4 l = r) (h0 : r ≠ 0) : v4Read l = .tup [.agg ([.int .i64 0, .int .i64 0, .int .u8 0] ++ adr0 ++ adr0), .int .i64 r] := by
  have e : ∀ x, z4 l x = 0 := fun x => by unfold z4; rw [h, if_neg h0]
  unfold v4Read head4 adrZ4; simp only [e, h]; rfl
theorem r6_Y {l : List UInt8} (h : r6 l = 0) : v6Read l = .tup [.agg ([.int .i64 (40 + word l 4), .int .u8 (byt l 6)] ++ adr16 l 8 ++ adr16 l 24), .int .i64 0] ∧ v6RRead l = .tup [.agg ([.int .i64 40, .int .i64 (40 + word l 4), .int .u8 (byt l 6)] ++ adr16 l 8 ++ adr16 l 24), .int .i64 0] := by
  unfold v6Read v6RRead head6 adrZ6 z6; simp only [h, if_true, decide_true]; exact ⟨rfl, rfl⟩
theorem r6_N {l : List UInt8} {r : Int} (h : r6 l = r) (h0 : r ≠ 0) : v6Read l = .tup [.agg ([.int .i64 0, .int .u8 0] ++ adr0 ++ adr0), .int .i64 r] ∧ v6RRead l = .tup [.agg ([.int .i64 0, .int .i64 0, .int .u8 0] ++ adr0 ++ adr0), .int .i64 r] := by
  have e : ∀ x, z6 l x = 0 := fun x => by unfold z6; rw [h, if_neg h0]
  have e2 : decide (r6 l = 0) = false := decide_eq_false (by rw [h]; exact h0)
  unfold v6Read v6RRead head6 adrZ6; simp only [e, e2]; rw [h]; exact ⟨rfl, rfl⟩

theorem r4_bounds {l : List UInt8} (h : r4 l = 0) : 20 ≤ l.length ∧ 20 ≤ s4 l ∧ s4 l ≤ word l 2 ∧ word l 2 ≤ l.length ∧ (byt l 9 = 6 ∨ byt l 9 = 17) ∧ chkI (l.take (s4 l).toNat) = 0 := by
  unfold r4 at h
  split at h; · omega
  split at h; · omega
  split at h; · omega
  split at h; · omega
  split at h; · omega
  split at h; · omega
  split at h; · omega
  split at h; · omega
  refine ⟨by omega, by omega, by omega, by omega, ?_, by omega⟩
  rename_i hp
  by_cases h6 : byt l 9 = 6
  · exact .inl h6
  · right; by_cases h17 : byt l 9 = 17
    · exact h17
    · exact absurd ⟨h6, h17⟩ hp
theorem r6_bounds {l : List UInt8} (h : r6 l = 0) : 40 ≤ l.length ∧ 40 + word l 4 ≤ l.length ∧ (byt l 6 = 6 ∨ byt l 6 = 17) := by
  unfold r6 at h
  split at h; · omega
  split at h; · omega
  split at h; · omega
  split at h; · omega
  split at h; · omega
  refine ⟨by omega, by omega, ?_⟩
  rename_i hp
  by_cases h6 : byt l 6 = 6
  · exact .inl h6
  · right; by_cases h17 : byt l 6 = 17
    · exact h17
    · exact absurd ⟨h6, h17⟩ hp
theorem bOk_cut {h : AHeap} {k o n r : Nat} {e : Bool} {vs : List AV} {md : Md} {par : Option Nat} {l L : List UInt8} (hk : h[k]? = some (.cells vs 1 md par)) (hv : vs = bys l) (hn : o + n ≤ l.length) (hL : (l.drop o).take n = L) :
    bOk h (.sl (some (k, o)) n r e) = true ∧ bOf h (.sl (some (k, o)) n r e) = L := by
  have g := bOk_part (r := r) (e := e) hk hv hn
  exact ⟨g.1, g.2.trans hL⟩
theorem rdG_eq {l : List UInt8} {A : Nat} {S E : Int} (hA : (netR l).1 = (A : Int)) (hS : rdS l = S) (hE : rdE l = E) (h0 : 0 ≤ S) (h1 : S ≤ E) : (l.drop (0 + ((A : Int) + S).toNat * 1)).take (((A : Int) + E).toNat - ((A : Int) + S).toNat) = rdG l := by
  unfold rdG ipQ
  rw [hA, hS, hE, List.drop_drop]
  congr 1
  · omega
  · congr 1; omega
theorem ipQ_eq {l : List UInt8} {A : Nat} (hA : (netR l).1 = (A : Int)) : (l.drop (0 + (A : Int).toNat * 1)).take (l.length - (A : Int).toNat) = ipQ l := by
  unfold ipQ
  rw [hA, List.take_of_length_le (by simp <;> omega)]
  congr 1; omega

end Go.Proofs.Ytnchnjkakddhlaa.L

end

section
/- seg's Read, and the reference's ReadSeg. -/
set_option autoImplicit false
set_option maxRecDepth 100000
set_option linter.unusedVariables false
set_option linter.unusedSimpArgs false
namespace Go.Proofs.Ytnchnjkakddhlaa.L
open Go Go.Abs
open Go.IntKind (u8 u16 u32 u64 i64)
open Go.Abs.AV (int)
open Go.Abs.ABlk (cells)

noncomputable def eW16 : GEnt := fun args h => match args with
  | [b, .int .i64 p] => some (bOk h b && decide ((nOf b : Int) < 9223372036854775000 ∧ 0 ≤ p ∧ p + 2 ≤ (nOf b : Int)), .tup [.int .u16 (word (bOf h b) p.toNat), .bool true], h)
  | _ => none
theorem sW16 : SoundE Try.prog 43 (entF eW16) := by
  refine entF_sound sGet16 fun args hp v h' hg => ?_
  unfold eW16 at hg
  split at hg
  · rename_i b p
    simp only [Option.some.injEq, Prod.mk.injEq, Bool.and_eq_true, decide_eq_true_eq] at hg
    obtain ⟨⟨hb, hn, h0, h1⟩, rfl, rfl⟩ := hg
    have hl := bOk_len hb
    change eRun eGet16 [b, .int .i64 p] hp (fun v h => some (v, h)) = _
    show (if (bOk hp b && decide ((nOf b : Int) < 9223372036854775000)) = true then some (getR .u16 2 (bOf hp b) p, hp) else none) = _
    rw [hb, decide_eq_true hn]
    have e : getR .u16 2 (bOf hp b) p = .tup [.int .u16 (word (bOf hp b) p.toNat), .bool true] := by
      unfold getR
      have hc : (0 ≤ p ∧ p + ((2 : Nat) : Int) ≤ ((bOf hp b).length : Int)) := ⟨h0, by rw [hl]; exact h1⟩
      rw [if_pos hc, decide_eq_true hc, numAt_two (by omega)]
    rw [e]; rfl
  · simp at hg

noncomputable def tSeg : Tbl := [(43, entF eW16)]
theorem tSegOk : ∀ f E, tSeg.find f = some E → SoundE Try.prog f E := find_cons sW16 (find_nil _)
noncomputable def tRSeg : Tbl := [(50, entF eBe16)]
theorem tRSegOk : ∀ f E, tRSeg.find f = some E → SoundE Try.prog f E := find_cons sBe16 (find_nil _)

noncomputable def hSegT0 (l : List UInt8) : AHeap := [cells (bys l) 1 Md.far none, cells [int u16 0, int u16 0, int u8 0] 3 Md.own none]
noncomputable def hSegT1 (l : List UInt8) : AHeap := [cells (bys l) 1 Md.far none, cells [int u16 (word (bOf (hSegT0 l) (AV.sl (some (0, 0)) l.length 0 false)) 0), int u16 0, int u8 0] 3 Md.own none]
theorem nfSegT {R : Type} (l : List UInt8) (K : AV → Option R) :
 qrun Try.prog tSeg 100 4 [] [] 41 [.int .u8 6, slB 0 l] [farB l] (fun v _ => K v) =
 (if decide ((l.length : Int) < 20) = true then
 K (AV.tup [AV.agg [int u16 0, int u16 0, int u8 0], int i64 1])
 else (if Int.ofNat 0 ≤ Int.ofNat 12 ∧ 12 < (l.length : Int) then
 (if isIntV u8 (bys l)[12]? = true then
 (if decide (i64.wrap (i64.wrap ((intV (bys l)[12]?).fdiv 16) * 4) < 20) = true then
 K (AV.tup [AV.agg [int u16 0, int u16 0, int u8 0], int i64 3])
 else (if decide (i64.wrap (i64.wrap ((intV (bys l)[12]?).fdiv 16) * 4) > (l.length : Int)) = true then
 K (AV.tup [AV.agg [int u16 0, int u16 0, int u8 0], int i64 3])
 else (if (bOk (hSegT0 l) (AV.sl (some (0, 0)) l.length 0 false) && decide ((((nOf (AV.sl (some (0, 0)) l.length 0 false)) : Nat) : Int) < 9223372036854775000 ∧ Int.ofNat 0 ≤ Int.ofNat 0 ∧ 2 ≤ (((nOf (AV.sl (some (0, 0)) l.length 0 false)) : Nat) : Int))) = true then
 (if (bOk (hSegT1 l) (AV.sl (some (0, 0)) l.length 0 false) && decide ((((nOf (AV.sl (some (0, 0)) l.length 0 false)) : Nat) : Int) < 9223372036854775000 ∧ Int.ofNat 0 ≤ Int.ofNat 2 ∧ 4 ≤ (((nOf (AV.sl (some (0, 0)) l.length 0 false)) : Nat) : Int))) = true then
 (if Int.ofNat 0 ≤ Int.ofNat 13 ∧ 13 < (l.length : Int) then
 (if isIntV u8 (bys l)[13]? = true then
 K (AV.tup [AV.agg [int u16 (word (bOf (hSegT0 l) (AV.sl (some (0, 0)) l.length 0 false)) 0), int u16 (word (bOf (hSegT1 l) (AV.sl (some (0, 0)) l.length 0 false)) 2), int u8 (intV (bys l)[13]?)], int i64 0])
 else none) else none) else none) else none)))
 else none) else none)) := by
  kernel_rfl

noncomputable def hSegU0 (l : List UInt8) : AHeap := [cells (bys l) 1 Md.far none, cells [int u16 0, int u16 0, int u8 0] 3 Md.own none]
noncomputable def hSegU1 (l : List UInt8) : AHeap := [cells (bys l) 1 Md.far none, cells [int u16 (word (bOf (hSegU0 l) (AV.sl (some (0, 0)) l.length 0 false)) 0), int u16 0, int u8 0] 3 Md.own none]
theorem nfSegU {R : Type} (l : List UInt8) (K : AV → Option R) :
 qrun Try.prog tSeg 100 4 [] [] 41 [.int .u8 17, slB 0 l] [farB l] (fun v _ => K v) =
 (if decide ((l.length : Int) < 8) = true then
 K (AV.tup [AV.agg [int u16 0, int u16 0, int u8 0], int i64 1])
 else (if (bOk (hSegU0 l) (AV.sl (some (0, 0)) l.length 0 false) && decide ((((nOf (AV.sl (some (0, 0)) l.length 0 false)) : Nat) : Int) < 9223372036854775000 ∧ Int.ofNat 0 ≤ Int.ofNat 4 ∧ 6 ≤ (((nOf (AV.sl (some (0, 0)) l.length 0 false)) : Nat) : Int))) = true then
 (if decide (i64.wrap (word (bOf (hSegU0 l) (AV.sl (some (0, 0)) l.length 0 false)) 4) < 8) = true then
 K (AV.tup [AV.agg [int u16 0, int u16 0, int u8 0], int i64 3])
 else (if decide (i64.wrap (word (bOf (hSegU0 l) (AV.sl (some (0, 0)) l.length 0 false)) 4) > (l.length : Int)) = true then
 K (AV.tup [AV.agg [int u16 0, int u16 0, int u8 0], int i64 3])
 else (if (bOk (hSegU0 l) (AV.sl (some (0, 0)) l.length 0 false) && decide ((((nOf (AV.sl (some (0, 0)) l.length 0 false)) : Nat) : Int) < 9223372036854775000 ∧ Int.ofNat 0 ≤ Int.ofNat 0 ∧ 2 ≤ (((nOf (AV.sl (some (0, 0)) l.length 0 false)) : Nat) : Int))) = true then
 (if (bOk (hSegU1 l) (AV.sl (some (0, 0)) l.length 0 false) && decide ((((nOf (AV.sl (some (0, 0)) l.length 0 false)) : Nat) : Int) < 9223372036854775000 ∧ Int.ofNat 0 ≤ Int.ofNat 2 ∧ 4 ≤ (((nOf (AV.sl (some (0, 0)) l.length 0 false)) : Nat) : Int))) = true then
 K (AV.tup [AV.agg [int u16 (word (bOf (hSegU0 l) (AV.sl (some (0, 0)) l.length 0 false)) 0), int u16 (word (bOf (hSegU1 l) (AV.sl (some (0, 0)) l.length 0 false)) 2), int u8 0], int i64 0])
 else none) else none)))
 else none)) := by
  kernel_rfl

theorem nfSegN {R : Type} (p : Int) (l : List UInt8) (K : AV → Option R) :
 qrun Try.prog tSeg 100 4 [(10, .bool false), (12, .bool false)] [] 41 [.int .u8 p, slB 0 l] [farB l] (fun v _ => K v) =
 (if (p == 6) = false then
 (if (p == 17) = false then
 K (AV.tup [AV.agg [int u16 0, int u16 0, int u8 0], int i64 6])
 else none) else none) := by
  kernel_rfl

noncomputable def hRSegT0 (l : List UInt8) : AHeap := [cells (bys l) 1 Md.far none, cells [int i64 0, int i64 0, int u8 0] 3 Md.own none]
theorem nfRSegT {R : Type} (l : List UInt8) (K : AV → Option R) :
 qrun Try.prog tRSeg 100 4 [] [] 37 [.int .u8 6, slB 0 l] [farB l] (fun v _ => K v) =
 (if decide ((l.length : Int) < 20) = true then
 K (AV.tup [AV.agg [int i64 0, int i64 0, int u8 0], int i64 1])
 else (if Int.ofNat 0 ≤ Int.ofNat 12 ∧ 12 < (l.length : Int) then
 (if isIntV u8 (bys l)[12]? = true then
 (if decide (i64.wrap (i64.wrap ((intV (bys l)[12]?).fdiv 16) * 4) < 20) = true then
 K (AV.tup [AV.agg [int i64 0, int i64 0, int u8 0], int i64 3])
 else (if decide ((l.length : Int) < i64.wrap (i64.wrap ((intV (bys l)[12]?).fdiv 16) * 4)) = true then
 K (AV.tup [AV.agg [int i64 0, int i64 0, int u8 0], int i64 3])
 else (if (bOk (hRSegT0 l) (AV.sl (some (0, 0)) l.length 0 false) && decide (nOf (AV.sl (some (0, 0)) l.length 0 false) ≤ 70368744177664 ∧ Int.ofNat 0 ≤ Int.ofNat 0 ∧ 2 ≤ (((nOf (AV.sl (some (0, 0)) l.length 0 false)) : Nat) : Int))) = true then
 (if (bOk (hRSegT0 l) (AV.sl (some (0, 0)) l.length 0 false) && decide (nOf (AV.sl (some (0, 0)) l.length 0 false) ≤ 70368744177664 ∧ Int.ofNat 0 ≤ Int.ofNat 2 ∧ 4 ≤ (((nOf (AV.sl (some (0, 0)) l.length 0 false)) : Nat) : Int))) = true then
 (if Int.ofNat 0 ≤ Int.ofNat 13 ∧ 13 < (l.length : Int) then
 (if isIntV u8 (bys l)[13]? = true then
 (if isIntV u8 (bys l)[13]? = true then
 (if (int u8 (intV (bys l)[13]?)).beq (int u8 (intV (bys l)[13]?)) = true then
 (if isIntV u8 (bys l)[13]? = true then
 (if (int u8 (intV (bys l)[13]?)).beq (int u8 (intV (bys l)[13]?)) = true then
 K (AV.tup [AV.agg [int i64 (word (bOf (hRSegT0 l) (AV.sl (some (0, 0)) l.length 0 false)) 0), int i64 (word (bOf (hRSegT0 l) (AV.sl (some (0, 0)) l.length 0 false)) 2), int u8 (intV (bys l)[13]?)], int i64 0])
 else none) else none) else none) else none) else none) else none) else none) else none)))
 else none) else none)) := by
  kernel_rfl

noncomputable def hRSegU0 (l : List UInt8) : AHeap := [cells (bys l) 1 Md.far none, cells [int i64 0, int i64 0, int u8 0] 3 Md.own none]
theorem nfRSegU {R : Type} (l : List UInt8) (K : AV → Option R) :
 qrun Try.prog tRSeg 100 4 [] [] 37 [.int .u8 17, slB 0 l] [farB l] (fun v _ => K v) =
 (if decide ((l.length : Int) < 8) = true then
 K (AV.tup [AV.agg [int i64 0, int i64 0, int u8 0], int i64 1])
 else (if (bOk (hRSegU0 l) (AV.sl (some (0, 0)) l.length 0 false) && decide (nOf (AV.sl (some (0, 0)) l.length 0 false) ≤ 70368744177664 ∧ Int.ofNat 0 ≤ Int.ofNat 4 ∧ 6 ≤ (((nOf (AV.sl (some (0, 0)) l.length 0 false)) : Nat) : Int))) = true then
 (if decide (word (bOf (hRSegU0 l) (AV.sl (some (0, 0)) l.length 0 false)) 4 < 8) = true then
 K (AV.tup [AV.agg [int i64 0, int i64 0, int u8 0], int i64 3])
 else (if decide ((l.length : Int) < word (bOf (hRSegU0 l) (AV.sl (some (0, 0)) l.length 0 false)) 4) = true then
 K (AV.tup [AV.agg [int i64 0, int i64 0, int u8 0], int i64 3])
 else (if (bOk (hRSegU0 l) (AV.sl (some (0, 0)) l.length 0 false) && decide (nOf (AV.sl (some (0, 0)) l.length 0 false) ≤ 70368744177664 ∧ Int.ofNat 0 ≤ Int.ofNat 0 ∧ 2 ≤ (((nOf (AV.sl (some (0, 0)) l.length 0 false)) : Nat) : Int))) = true then
 (if (bOk (hRSegU0 l) (AV.sl (some (0, 0)) l.length 0 false) && decide (nOf (AV.sl (some (0, 0)) l.length 0 false) ≤ 70368744177664 ∧ Int.ofNat 0 ≤ Int.ofNat 2 ∧ 4 ≤ (((nOf (AV.sl (some (0, 0)) l.length 0 false)) : Nat) : Int))) = true then
 K (AV.tup [AV.agg [int i64 (word (bOf (hRSegU0 l) (AV.sl (some (0, 0)) l.length 0 false)) 0), int i64 (word (bOf (hRSegU0 l) (AV.sl (some (0, 0)) l.length 0 false)) 2), int u8 0], int i64 0])
 else none) else none)))
 else none)) := by
  kernel_rfl

theorem nfRSegN {R : Type} (p : Int) (l : List UInt8) (K : AV → Option R) :
 qrun Try.prog tRSeg 100 4 [(9, .bool false), (38, .bool false)] [] 37 [.int .u8 p, slB 0 l] [farB l] (fun v _ => K v) =
 (if (p == 6) = false then
 (if (p == 17) = false then
 K (AV.tup [AV.agg [int i64 0, int i64 0, int u8 0], int i64 6])
 else none) else none) := by
  kernel_rfl



set_option maxHeartbeats 2000000 in
theorem walkSegT (l : List UInt8) (hl : l.length ≤ 1000000000000) : qrun Try.prog tSeg 100 4 [] [] 41 [.int .u8 6, slB 0 l] [farB l] (fun v _ => some v) = some (segRead 6 l) := by
  rw [nfSegT]
  simp only [hSegT0, hSegT1, ↓Bool.and_eq_true, ↓decide_eq_true_eq, bOk, bOf, rowOk, rowOf, nOf_sl, List.getElem?_cons_zero, List.getElem?_cons_succ, Nat.zero_add, Nat.mul_one, Nat.add_zero, List.drop_zero, bys_drop, bys_take, bys_byteD, bys_isByteR, List.take_length, bys_length, intV_some, isIntV_byte, intV_byte, bys_get, beq_int, Bool.and_true, Bool.true_and, AV.beq_self, fdiv16s]
  have hb := byt_range l 12
  have hw := word_range l 4
  have w1 : i64.wrap (byt l 12 / 16) = byt l 12 / 16 := wrapI64 (by omega)
  have w2 : i64.wrap (byt l 12 / 16 * 4) = byt l 12 / 16 * 4 := wrapI64 (by omega)
  have w3 : i64.wrap (word l 4) = word l 4 := wrapI64 (by omega)
  try simp only [w1, w2, w3]
  by_cases h1 : l.length < 20
  · have hr : segR 6 l = 1 := by unfold segR; rw [if_pos rfl, if_pos h1]
    repeat (first | (refine (if_pos ?_).trans ?_; · first | exact True.intro | omega | (simp [capOf]; done) | (simp [capOf]; omega)) | (refine (if_neg ?_).trans ?_; · first | omega | (simp; done) | (simp; omega)))
    simp [segRead, segZ, segF, hr]
  by_cases h2 : byt l 12 / 16 * 4 < 20
  · have hr : segR 6 l = 3 := by unfold segR; rw [if_pos rfl, if_neg h1, if_pos h2]
    repeat (first | (refine (if_pos ?_).trans ?_; · first | exact True.intro | omega | (simp [capOf]; done) | (simp [capOf]; omega)) | (refine (if_neg ?_).trans ?_; · first | omega | (simp; done) | (simp; omega)))
    simp [segRead, segZ, segF, hr]
  by_cases h3 : (l.length : Int) < byt l 12 / 16 * 4
  · have hr : segR 6 l = 3 := by unfold segR; rw [if_pos rfl, if_neg h1, if_neg h2, if_pos h3]
    repeat (first | (refine (if_pos ?_).trans ?_; · first | exact True.intro | omega | (simp [capOf]; done) | (simp [capOf]; omega)) | (refine (if_neg ?_).trans ?_; · first | omega | (simp; done) | (simp; omega)))
    simp [segRead, segZ, segF, hr]
  have hr : segR 6 l = 0 := by unfold segR; rw [if_pos rfl, if_neg h1, if_neg h2, if_neg h3]
  repeat (first | (refine (if_pos ?_).trans ?_; · first | exact True.intro | omega | (simp [capOf]; done) | (simp [capOf]; omega)) | (refine (if_neg ?_).trans ?_; · first | omega | (simp; done) | (simp; omega)))
  simp [segRead, segZ, segF, hr]

set_option maxHeartbeats 2000000 in
theorem walkSegU (l : List UInt8) (hl : l.length ≤ 1000000000000) : qrun Try.prog tSeg 100 4 [] [] 41 [.int .u8 17, slB 0 l] [farB l] (fun v _ => some v) = some (segRead 17 l) := by
  rw [nfSegU]
  simp only [hSegU0, hSegU1, ↓Bool.and_eq_true, ↓decide_eq_true_eq, bOk, bOf, rowOk, rowOf, nOf_sl, List.getElem?_cons_zero, List.getElem?_cons_succ, Nat.zero_add, Nat.mul_one, Nat.add_zero, List.drop_zero, bys_drop, bys_take, bys_byteD, bys_isByteR, List.take_length, bys_length, intV_some, isIntV_byte, intV_byte, bys_get, beq_int, Bool.and_true, Bool.true_and, AV.beq_self, fdiv16s]
  have hb := byt_range l 12
  have hw := word_range l 4
  have w1 : i64.wrap (byt l 12 / 16) = byt l 12 / 16 := wrapI64 (by omega)
  have w2 : i64.wrap (byt l 12 / 16 * 4) = byt l 12 / 16 * 4 := wrapI64 (by omega)
  have w3 : i64.wrap (word l 4) = word l 4 := wrapI64 (by omega)
  try simp only [w1, w2, w3]
  by_cases h1 : l.length < 8
  · have hr : segR 17 l = 1 := by unfold segR; rw [if_neg (by decide), if_pos rfl, if_pos h1]
    repeat (first | (refine (if_pos ?_).trans ?_; · first | exact True.intro | omega | (simp [capOf]; done) | (simp [capOf]; omega)) | (refine (if_neg ?_).trans ?_; · first | omega | (simp; done) | (simp; omega)))
    simp [segRead, segZ, segF, hr]
  by_cases h2 : word l 4 < 8
  · have hr : segR 17 l = 3 := by unfold segR; rw [if_neg (by decide), if_pos rfl, if_neg h1, if_pos h2]
    repeat (first | (refine (if_pos ?_).trans ?_; · first | exact True.intro | omega | (simp [capOf]; done) | (simp [capOf]; omega)) | (refine (if_neg ?_).trans ?_; · first | omega | (simp; done) | (simp; omega)))
    simp [segRead, segZ, segF, hr]
  by_cases h3 : (l.length : Int) < word l 4
  · have hr : segR 17 l = 3 := by unfold segR; rw [if_neg (by decide), if_pos rfl, if_neg h1, if_neg h2, if_pos h3]
    repeat (first | (refine (if_pos ?_).trans ?_; · first | exact True.intro | omega | (simp [capOf]; done) | (simp [capOf]; omega)) | (refine (if_neg ?_).trans ?_; · first | omega | (simp; done) | (simp; omega)))
    simp [segRead, segZ, segF, hr]
  have hr : segR 17 l = 0 := by unfold segR; rw [if_neg (by decide), if_pos rfl, if_neg h1, if_neg h2, if_neg h3]
  repeat (first | (refine (if_pos ?_).trans ?_; · first | exact True.intro | omega | (simp [capOf]; done) | (simp [capOf]; omega)) | (refine (if_neg ?_).trans ?_; · first | omega | (simp; done) | (simp; omega)))
  simp [segRead, segZ, segF, hr]

set_option maxHeartbeats 2000000 in
theorem walkRSegT (l : List UInt8) (hl : l.length ≤ 1000000000000) : qrun Try.prog tRSeg 100 4 [] [] 37 [.int .u8 6, slB 0 l] [farB l] (fun v _ => some v) = some (segRRead 6 l) := by
  rw [nfRSegT]
  simp only [hRSegT0, ↓Bool.and_eq_true, ↓decide_eq_true_eq, bOk, bOf, rowOk, rowOf, nOf_sl, List.getElem?_cons_zero, List.getElem?_cons_succ, Nat.zero_add, Nat.mul_one, Nat.add_zero, List.drop_zero, bys_drop, bys_take, bys_byteD, bys_isByteR, List.take_length, bys_length, intV_some, isIntV_byte, intV_byte, bys_get, beq_int, Bool.and_true, Bool.true_and, AV.beq_self, fdiv16s]
  have hb := byt_range l 12
  have hw := word_range l 4
  have w1 : i64.wrap (byt l 12 / 16) = byt l 12 / 16 := wrapI64 (by omega)
  have w2 : i64.wrap (byt l 12 / 16 * 4) = byt l 12 / 16 * 4 := wrapI64 (by omega)
  have w3 : i64.wrap (word l 4) = word l 4 := wrapI64 (by omega)
  try simp only [w1, w2, w3]
  by_cases h1 : l.length < 20
  · have hr : segR 6 l = 1 := by unfold segR; rw [if_pos rfl, if_pos h1]
    repeat (first | (refine (if_pos ?_).trans ?_; · first | exact True.intro | omega | (simp [capOf]; done) | (simp [capOf]; omega)) | (refine (if_neg ?_).trans ?_; · first | omega | (simp; done) | (simp; omega)))
    simp [segRRead, segZ, segF, hr]
  by_cases h2 : byt l 12 / 16 * 4 < 20
  · have hr : segR 6 l = 3 := by unfold segR; rw [if_pos rfl, if_neg h1, if_pos h2]
    repeat (first | (refine (if_pos ?_).trans ?_; · first | exact True.intro | omega | (simp [capOf]; done) | (simp [capOf]; omega)) | (refine (if_neg ?_).trans ?_; · first | omega | (simp; done) | (simp; omega)))
    simp [segRRead, segZ, segF, hr]
  by_cases h3 : (l.length : Int) < byt l 12 / 16 * 4
  · have hr : segR 6 l = 3 := by unfold segR; rw [if_pos rfl, if_neg h1, if_neg h2, if_pos h3]
    repeat (first | (refine (if_pos ?_).trans ?_; · first | exact True.intro | omega | (simp [capOf]; done) | (simp [capOf]; omega)) | (refine (if_neg ?_).trans ?_; · first | omega | (simp; done) | (simp; omega)))
    simp [segRRead, segZ, segF, hr]
  have hr : segR 6 l = 0 := by unfold segR; rw [if_pos rfl, if_neg h1, if_neg h2, if_neg h3]
  repeat (first | (refine (if_pos ?_).trans ?_; · first | exact True.intro | omega | (simp [capOf]; done) | (simp [capOf]; omega)) | (refine (if_neg ?_).trans ?_; · first | omega | (simp; done) | (simp; omega)))
  simp [segRRead, segZ, segF, hr]

set_option maxHeartbeats 2000000 in
theorem walkRSegU (l : List UInt8) (hl : l.length ≤ 1000000000000) : qrun Try.prog tRSeg 100 4 [] [] 37 [.int .u8 17, slB 0 l] [farB l] (fun v _ => some v) = some (segRRead 17 l) := by
  rw [nfRSegU]
  simp only [hRSegU0, ↓Bool.and_eq_true, ↓decide_eq_true_eq, bOk, bOf, rowOk, rowOf, nOf_sl, List.getElem?_cons_zero, List.getElem?_cons_succ, Nat.zero_add, Nat.mul_one, Nat.add_zero, List.drop_zero, bys_drop, bys_take, bys_byteD, bys_isByteR, List.take_length, bys_length, intV_some, isIntV_byte, intV_byte, bys_get, beq_int, Bool.and_true, Bool.true_and, AV.beq_self, fdiv16s]
  have hb := byt_range l 12
  have hw := word_range l 4
  have w1 : i64.wrap (byt l 12 / 16) = byt l 12 / 16 := wrapI64 (by omega)
  have w2 : i64.wrap (byt l 12 / 16 * 4) = byt l 12 / 16 * 4 := wrapI64 (by omega)
  have w3 : i64.wrap (word l 4) = word l 4 := wrapI64 (by omega)
  try simp only [w1, w2, w3]
  by_cases h1 : l.length < 8
  · have hr : segR 17 l = 1 := by unfold segR; rw [if_neg (by decide), if_pos rfl, if_pos h1]
    repeat (first | (refine (if_pos ?_).trans ?_; · first | exact True.intro | omega | (simp [capOf]; done) | (simp [capOf]; omega)) | (refine (if_neg ?_).trans ?_; · first | omega | (simp; done) | (simp; omega)))
    simp [segRRead, segZ, segF, hr]
  by_cases h2 : word l 4 < 8
  · have hr : segR 17 l = 3 := by unfold segR; rw [if_neg (by decide), if_pos rfl, if_neg h1, if_pos h2]
    repeat (first | (refine (if_pos ?_).trans ?_; · first | exact True.intro | omega | (simp [capOf]; done) | (simp [capOf]; omega)) | (refine (if_neg ?_).trans ?_; · first | omega | (simp; done) | (simp; omega)))
    simp [segRRead, segZ, segF, hr]
  by_cases h3 : (l.length : Int) < word l 4
  · have hr : segR 17 l = 3 := by unfold segR; rw [if_neg (by decide), if_pos rfl, if_neg h1, if_neg h2, if_pos h3]
    repeat (first | (refine (if_pos ?_).trans ?_; · first | exact True.intro | omega | (simp [capOf]; done) | (simp [capOf]; omega)) | (refine (if_neg ?_).trans ?_; · first | omega | (simp; done) | (simp; omega)))
    simp [segRRead, segZ, segF, hr]
  have hr : segR 17 l = 0 := by unfold segR; rw [if_neg (by decide), if_pos rfl, if_neg h1, if_neg h2, if_neg h3]
  repeat (first | (refine (if_pos ?_).trans ?_; · first | exact True.intro | omega | (simp [capOf]; done) | (simp [capOf]; omega)) | (refine (if_neg ?_).trans ?_; · first | omega | (simp; done) | (simp; omega)))
  simp [segRRead, segZ, segF, hr]

theorem sSegR : SoundE Try.prog 41 (entF eSegR) := by
  refine canonV_sound fun args h v h' hg => ?_
  unfold eSegR at hg
  split at hg
  · rename_i p b
    simp only [Option.some.injEq, Prod.mk.injEq, Bool.and_eq_true, decide_eq_true_eq] at hg
    obtain ⟨⟨hb, hn⟩, rfl, rfl⟩ := hg
    rw [← bOk_len hb] at hn
    refine ⟨rfl, rfl, [.int .u8 p, slB 0 (bOf h b)], [farB (bOf h b)], .cons _ _ _ _ _ _ _ (.flat _ _ rfl) (.cons _ _ _ _ _ _ _ (bOk_canon hb 0) (.nil _)), ?_⟩
    generalize bOf h b = l at hn
    by_cases h6 : p = 6
    · subst h6
      exact Runs.valT0 tSegOk (F := 100) (n := 4) (pr := []) (walkSegT l hn)
    by_cases h17 : p = 17
    · subst h17
      exact Runs.valT0 tSegOk (F := 100) (n := 4) (pr := []) (walkSegU l hn)
    refine Runs.valT0 tSegOk (F := 100) (n := 4) (pr := [(10, .bool false), (12, .bool false)]) ?_
    rw [nfSegN]
    have hr : segR p l = 6 := by unfold segR; rw [if_neg h6, if_neg h17]
    refine (if_pos (beq_eq_false_iff_ne.2 h6)).trans ?_
    refine (if_pos (beq_eq_false_iff_ne.2 h17)).trans ?_
    simp [segRead, segZ, segF, hr]
  · simp at hg

theorem sRSegR : SoundE Try.prog 37 (entF eRSegR) := by
  refine canonV_sound fun args h v h' hg => ?_
  unfold eRSegR at hg
  split at hg
  · rename_i p b
    simp only [Option.some.injEq, Prod.mk.injEq, Bool.and_eq_true, decide_eq_true_eq] at hg
    obtain ⟨⟨hb, hn⟩, rfl, rfl⟩ := hg
    rw [← bOk_len hb] at hn
    refine ⟨rfl, rfl, [.int .u8 p, slB 0 (bOf h b)], [farB (bOf h b)], .cons _ _ _ _ _ _ _ (.flat _ _ rfl) (.cons _ _ _ _ _ _ _ (bOk_canon hb 0) (.nil _)), ?_⟩
    generalize bOf h b = l at hn
    by_cases h6 : p = 6
    · subst h6
      exact Runs.valT0 tRSegOk (F := 100) (n := 4) (pr := []) (walkRSegT l hn)
    by_cases h17 : p = 17
    · subst h17
      exact Runs.valT0 tRSegOk (F := 100) (n := 4) (pr := []) (walkRSegU l hn)
    refine Runs.valT0 tRSegOk (F := 100) (n := 4) (pr := [(9, .bool false), (38, .bool false)]) ?_
    rw [nfRSegN]
    have hr : segR p l = 6 := by unfold segR; rw [if_neg h6, if_neg h17]
    refine (if_pos (beq_eq_false_iff_ne.2 h6)).trans ?_
    refine (if_pos (beq_eq_false_iff_ne.2 h17)).trans ?_
    simp [segRRead, segZ, segF, hr]
  · simp at hg

end Go.Proofs.Ytnchnjkakddhlaa.L

end

section
/- Functions of octet, chksum, addr and the reference, their answers told. -/
set_option autoImplicit false
set_option maxRecDepth 100000
set_option linter.unusedVariables false
namespace Go.Proofs.Ytnchnjkakddhlaa.L
open Go Go.Abs
open Go.IntKind (u8 u16 u32 u64 i64)
open Go.Abs.AV (int)
open Go.Abs.ABlk (cells)

theorem sayW {h : AHeap} {a : AV} {l : List UInt8} {p w : Int} {q : Nat} (g : bOk h a = true ∧ bOf h a = l) (hn : (nOf a : Int) < 9223372036854775000 ∧ 0 ≤ p ∧ p + 2 ≤ (nOf a : Int)) (hq : p.toNat = q) (hw : word l q = w) : Says eW16 [a, .int .i64 p] h (.tup [.int .u16 w, .bool true]) [] := ⟨by
  show some (bOk h a && decide ((nOf a : Int) < 9223372036854775000 ∧ 0 ≤ p ∧ p + 2 ≤ (nOf a : Int)), AV.tup [.int .u16 (word (bOf h a) p.toNat), .bool true], h) = _
  rw [g.1, g.2, hq, hw, decide_eq_true hn, List.append_nil]; rfl⟩
theorem sayBe {h : AHeap} {a : AV} {l : List UInt8} {p w : Int} {q : Nat} (g : bOk h a = true ∧ bOf h a = l) (hn : nOf a ≤ 70368744177664 ∧ 0 ≤ p ∧ p + 2 ≤ (nOf a : Int)) (hq : p.toNat = q) (hw : word l q = w) : Says eBe16 [a, .int .i64 p] h (.int .i64 w) [] := ⟨by
  show some (bOk h a && decide (nOf a ≤ 70368744177664 ∧ 0 ≤ p ∧ p + 2 ≤ (nOf a : Int)), AV.int .i64 (word (bOf h a) p.toNat), h) = _
  rw [g.1, g.2, hq, hw, decide_eq_true hn, List.append_nil]; rfl⟩
theorem sayClone {h : AHeap} {a : AV} {l : List UInt8} {k : Nat} (g : bOk h a = true ∧ bOf h a = l) (hn : nOf a ≤ 1000000000000) (hk : h.length = k) : Says eClone [a] h (slB k l) [ownB l] := ⟨by
  show some (bOk h a && decide (nOf a ≤ 1000000000000), slB h.length (bOf h a), h ++ [ownB (bOf h a)]) = _
  rw [g.1, g.2, hk, decide_eq_true hn]; rfl⟩
theorem sayPut {h h' : AHeap} {i n : Nat} {vs : List AV} {l : List UInt8} {p v : Int} (hb : h[i]? = some (.cells vs 1 .own none)) (hv : vs = bys l) (hn : n = l.length) (hl : l.length ≤ 1000000000000) (hp : 0 ≤ p ∧ p + 2 ≤ (l.length : Int)) (hx : 0 ≤ v ∧ v < 65536)
    (he : h.set i (ownB (putR l p 2 v)) = h') : SaysH ePut16 [.sl (some (i, 0)) n 0 false, .int .i64 p, .int .u16 v] h (.bool true) h' := ⟨by
  subst hv hn he
  unfold ePut16
  simp only [hb, Option.some.injEq, Prod.mk.injEq, AV.bool.injEq, decide_eq_true_eq, bys_byteD]
  refine ⟨cdec_true.2 ⟨trivial, trivial, trivial, trivial, by simp, hl, by simp, hx.1, hx.2, by simp⟩, hp, rfl⟩⟩
theorem sayUpd {h : AHeap} {o f t u : Int} (ho : 0 ≤ o ∧ o < 65536) (hf : 0 ≤ f ∧ f < 65536) (ht : 0 ≤ t ∧ t < 65536) (hu : updI o f t = u) : Says eUpdate [.int .u16 o, .int .u16 f, .int .u16 t] h (.int .u16 u) [] := ⟨by
  show some (decide ((0 ≤ o ∧ o < 65536) ∧ (0 ≤ f ∧ f < 65536) ∧ (0 ≤ t ∧ t < 65536)), AV.int .u16 (updI o f t), h) = _
  rw [hu, decide_eq_true ⟨ho, hf, ht⟩, List.append_nil]⟩
theorem sayBytes {h : AHeap} {cs : List AV} {A : List UInt8} {k : Nat} (hw : adrWf cs = true) (hA : adrBytes cs = A) (hk : h.length = k) : Says eBytes [.agg cs] h (slB k A) [ownB A] := ⟨by
  show some (adrWf cs, slB h.length (adrBytes cs), h ++ [ownB (adrBytes cs)]) = _
  rw [hw, hA, hk]⟩
theorem sayChange {h : AHeap} {a b : AV} {A B : List UInt8} {o c : Int} (ga : bOk h a = true ∧ bOf h a = A) (gb : bOk h b = true ∧ bOf h b = B) (hn : nOf a ≤ 70368744177664 ∧ 0 ≤ o ∧ o < 65536) (hc : changeI o A B = c) : Says eChange [.int .u16 o, a, b] h (.int .u16 c) [] := ⟨by
  show some (bOk h a && bOk h b && decide (nOf a ≤ 70368744177664 ∧ 0 ≤ o ∧ o < 65536), AV.int .u16 (changeI o (bOf h a) (bOf h b)), h) = _
  rw [ga.1, ga.2, gb.1, gb.2, hc, decide_eq_true hn, List.append_nil]; rfl⟩
theorem sayRChange {h : AHeap} {a b : AV} {A B : List UInt8} {o c : Int} (ga : bOk h a = true ∧ bOf h a = A) (gb : bOk h b = true ∧ bOf h b = B) (hn : nOf a ≤ 70368744177664 ∧ 0 ≤ o ∧ o < 65536) (hc : changeI o A B = c) : Says eRChange [.int .i64 o, a, b] h (.int .i64 c) [] := ⟨by
  show some (bOk h a && bOk h b && decide (nOf a ≤ 70368744177664 ∧ 0 ≤ o ∧ o < 65536), AV.int .i64 (changeI o (bOf h a) (bOf h b)), h) = _
  rw [ga.1, ga.2, gb.1, gb.2, hc, decide_eq_true hn, List.append_nil]; rfl⟩
theorem saySegR {h : AHeap} {a v : AV} {l : List UInt8} {p : Int} (g : bOk h a = true ∧ bOf h a = l) (hn : nOf a ≤ 1000000000000) (hr : segRead p l = v) : Says eSegR [.int .u8 p, a] h v [] := ⟨by
  show some (bOk h a && decide (nOf a ≤ 1000000000000), segRead p (bOf h a), h) = _
  rw [g.1, g.2, hr, decide_eq_true hn, List.append_nil]; rfl⟩
theorem sayRSegR {h : AHeap} {a v : AV} {l : List UInt8} {p : Int} (g : bOk h a = true ∧ bOf h a = l) (hn : nOf a ≤ 1000000000000) (hr : segRRead p l = v) : Says eRSegR [.int .u8 p, a] h v [] := ⟨by
  show some (bOk h a && decide (nOf a ≤ 1000000000000), segRRead p (bOf h a), h) = _
  rw [g.1, g.2, hr, decide_eq_true hn, List.append_nil]; rfl⟩

theorem putR_two {m : List UInt8} {p : Nat} {v : Int} (h : p + 2 ≤ m.length) : putR m p 2 v = (m.set p (u8i (v.fdiv 256))).set (p + 1) (u8i v) := by
  have e : putR m p 2 v = setsUp m p (bigR v 2) := by rw [setsUp_eq _ _ _ (by simp; omega), putR, if_pos (by omega)]; simp
  rw [e, bigR8_2]
  have q1 : v.fdiv 1 = v := by rw [Int.fdiv_eq_ediv_of_nonneg _ (by omega), Int.ediv_one]
  rw [q1]; rfl
theorem put2 {cs : List AV} {m : List UInt8} {p : Nat} {x y v : Int} (hc : cs = bys m) (h : p + 2 ≤ m.length) (hx : x = u8.wrap (v.fdiv 256)) (hy : y = u8.wrap v) : putCells (putCells cs p [.int .u8 x]) (p + 1) [.int .u8 y] = bys (putR m p 2 v) := by
  subst hc hx hy
  rw [putR_two h, putCells_byte, putCells_byte]

end Go.Proofs.Ytnchnjkakddhlaa.L

end
