/- The reference's Sum, Update, Change. -/
import Derived.Test.YtmlenlfhciapfaaSums
import Derived.Test.YtmlenlfhciapfaaBe16
set_option autoImplicit false
set_option maxRecDepth 100000
set_option linter.unusedVariables false
set_option linter.unusedSimpArgs false
namespace Go.Proofs.Ytmlenlfhciapfaa.L
open Go Go.Abs

/-! ### The reference's Sum -/

def mRSum : List Bool := [true, false, false, false, false, true, true] ++ List.replicate 38 false
def mRSum2 : List Bool := [false, false, false, false, false, true] ++ List.replicate 39 false
def vRSum (l : List UInt8) (u i : Int) : List AV := [slB 0 l, .int .u64 u, .int .i64 i]

theorem nfRSumR (CALL : CallT) (l : List UInt8) (u i : Int) : roundG Try.prog CALL noLS (loopIn (bodyOf Try.prog 36) 0) mRSum (vRSum l u i) [farB l] =
    (if decide (i < (l.length : Int)) = true then
      (if 0 ≤ i ∧ i < (l.length : Int) then
        (if isIntV .u8 (bys l)[0 + i.toNat * 1]? = true then
          (if decide (IntKind.i64.wrap (i + 1) < (l.length : Int)) = true then
            (if 0 ≤ IntKind.i64.wrap (i + 1) ∧ IntKind.i64.wrap (i + 1) < (l.length : Int) then
              (if isIntV .u8 (bys l)[0 + (IntKind.i64.wrap (i + 1)).toNat * 1]? = true then
                some (.norm, vRSum l (IntKind.u64.wrap (IntKind.u64.wrap (u + IntKind.u64.wrap (IntKind.u64.wrap (intV (bys l)[0 + i.toNat * 1]?) * 256)) +
                  IntKind.u64.wrap (intV (bys l)[0 + (IntKind.i64.wrap (i + 1)).toNat * 1]?))) (IntKind.i64.wrap (i + 2)), [farB l])
              else none)
            else none)
          else some (.norm, vRSum l (IntKind.u64.wrap (u + IntKind.u64.wrap (IntKind.u64.wrap (intV (bys l)[0 + i.toNat * 1]?) * 256))) (IntKind.i64.wrap (i + 2)), [farB l]))
        else none)
      else none)
    else some (.exit 0, vRSum l u i, [farB l])) := by
  kernel_rfl

theorem nfRSumR2 (CALL : CallT) (u : Int) (h : AHeap) : roundG Try.prog CALL noLS (loopIn (bodyOf Try.prog 36) 1) mRSum2 [.int .u64 u] h =
    if decide (u > 65535) = true then some (.norm, [.int .u64 (IntKind.u64.wrap (u.fdiv 65536 + abits .u64 (· &&& ·) u 65535))], h) else some (.exit 2, [.int .u64 u], h) := by
  kernel_rfl

theorem rsumLoop2 (h : AHeap) : ∀ (k : Nat) (n : Int), n.toNat = k → 0 ≤ n → n < 9223372036854775808 → ∃ j, loopG (roundG Try.prog (deepC Try.prog [] 100 4) noLS (loopIn (bodyOf Try.prog 36) 1) mRSum2) j [.int .u64 n] h = some (.exit 2, [.int .u64 (foldI n)], h) := by
  intro k
  induction k using Nat.strongRecOn with
  | _ k ih =>
    intro n hk h0 h1
    by_cases hb : n < 65536
    · refine ⟨1, ?_⟩
      simp only [loopG, nfRSumR2, decide_eq_true_eq, if_neg (show ¬ n > 65535 by omega), Option.bind_some]
      rw [foldI_small ⟨h0, hb⟩]
    · have e : IntKind.u64.wrap (n.fdiv 65536 + abits .u64 (· &&& ·) n 65535) = n % 65536 + n / 65536 := by
        rw [and16 (by omega), fdivPos, wrapU64 (by omega)]; omega
      obtain ⟨j, hj⟩ := ih (n % 65536 + n / 65536).toNat (by omega) _ rfl (by omega) (by omega)
      refine ⟨j + 1, ?_⟩
      simp only [loopG, nfRSumR2, decide_eq_true_eq, if_pos (show n > 65535 by omega), Option.bind_some, e]
      rw [hj, foldI_step h0]

theorem rsumLoop (l : List UInt8) (s : Int) (hs : 0 ≤ s ∧ s < 4294967296) (hl : l.length ≤ 70368744177664) :
    ∃ j, loopG (roundG Try.prog (deepC Try.prog [] 100 4) noLS (loopIn (bodyOf Try.prog 36) 0) mRSum) j (vRSum l s 0) [farB l] = some (.exit 0, vRSum l (s + wsum l) ((2 * ((l.length + 1) / 2) : Nat) : Int), [farB l]) := by
  have := loop_up (body := roundG Try.prog (deepC Try.prog [] 100 4) noLS (loopIn (bodyOf Try.prog 36) 0) mRSum)
    (fun i => (vRSum l (s + (wsum l - wsum (l.drop (2 * i)))) ((2 * i : Nat) : Int), [farB l])) (n := (l.length + 1) / 2) (e := .exit 0) (vs := vRSum l (s + wsum l) ((2 * ((l.length + 1) / 2) : Nat) : Int)) (h := [farB l]) (by simp)
    (fun i hi => by
      have hp := psum_range l i (by omega)
      have h1 := wsum_step (l := l) (i := 2 * i) (by omega)
      have g1 := byt_range l (2 * i)
      have g2 := byt_range l (2 * i + 1)
      have e1 : 0 + ((2 * i : Nat) : Int).toNat * 1 = 2 * i := by omega
      have e2 : IntKind.i64.wrap (((2 * i : Nat) : Int) + 1) = ((2 * i + 1 : Nat) : Int) := by rw [wrapI64 (by omega)]; omega
      have e3 : 0 + ((2 * i + 1 : Nat) : Int).toNat * 1 = 2 * i + 1 := by omega
      have e4 : IntKind.i64.wrap (((2 * i : Nat) : Int) + 2) = ((2 * (i + 1) : Nat) : Int) := by rw [wrapI64 (by omega)]; omega
      simp only [nfRSumR]
      rw [e1, e2, e3, e4, if_pos (by simp; omega), if_pos (by omega), bys_get, isIntV_byte, if_pos (by simp; omega), bys_get, isIntV_byte, intV_byte, intV_byte]
      rw [wrapU64 (n := byt l (2 * i)) (by omega), wrapU64 (n := byt l (2 * i) * 256) (by omega)]
      by_cases h2 : 2 * i + 1 < l.length
      · rw [if_pos (by simp; omega), if_pos (by omega), if_pos (by simp; omega), wrapU64 (n := byt l (2 * i + 1)) (by omega), wrapU64 (n := s + (wsum l - wsum (l.drop (2 * i))) + byt l (2 * i) * 256) (by omega), wrapU64 (by omega)]
        have : s + (wsum l - wsum (l.drop (2 * i))) + byt l (2 * i) * 256 + byt l (2 * i + 1) = s + (wsum l - wsum (l.drop (2 * (i + 1)))) := by
          rw [show 2 * (i + 1) = 2 * i + 2 by omega]
          unfold word at h1; omega
        rw [this]
      · have h0 := byt_ge (show l.length ≤ 2 * i + 1 by omega)
        rw [if_neg (by simp; omega), wrapU64 (by omega)]
        have : s + (wsum l - wsum (l.drop (2 * i))) + byt l (2 * i) * 256 = s + (wsum l - wsum (l.drop (2 * (i + 1)))) := by
          rw [show 2 * (i + 1) = 2 * i + 2 by omega]
          unfold word at h1; omega
        rw [this])
    (by
      simp only [nfRSumR]
      rw [if_neg (by simp; omega)]
      rw [List.drop_of_length_le (by omega)]
      simp [wsum])
  simpa using this

def eRSum : GEnt := fun args h => match args with
  | [b, .int .u32 s] => some (bOk h b && decide (nOf b ≤ 70368744177664 ∧ 0 ≤ s ∧ s < 4294967296), .int .i64 (sumI (bOf h b) s), h)
  | _ => none

noncomputable def lsRSum (l : List UInt8) (s : Int) : List (Nat × LoopF) := [(3, fixL mRSum (vRSum l s 0) [farB l] (.exit 0) (vRSum l (s + wsum l) ((2 * ((l.length + 1) / 2) : Nat) : Int)) [farB l]),
  (8, fixL mRSum2 [.int .u64 (s + wsum l)] [farB l] (.exit 2) [.int .u64 (foldI (s + wsum l))] [farB l])]

theorem nfRSum {R : Type} (l : List UInt8) (s : Int) (K : AV → Option R) : abody Try.prog (deepC Try.prog [] 100 4) (mixLS (lsRSum l s) (autoLS Try.prog (deepC Try.prog [] 100 4) 100 4 (bodyOf Try.prog 36))) 36 [slB 0 l, .int .u32 s] [farB l] (fun v _ => K v) =
    if cdec (vRSum l (IntKind.u64.wrap s) 0 = vRSum l s 0 ∧ [farB l] = [farB l]) = true then
      (if cdec ([AV.int .u64 (s + wsum l)] = [AV.int .u64 (s + wsum l)] ∧ [farB l] = [farB l]) = true then K (.int .i64 (IntKind.i64.wrap (foldI (s + wsum l)))) else none)
    else none := by
  kernel_rfl

theorem sRSum : SoundE Try.prog 36 (entF eRSum) := by
  refine canonV_sound fun args h v h' hg => ?_
  unfold eRSum at hg
  split at hg
  · rename_i b s
    simp only [Option.some.injEq, Prod.mk.injEq, Bool.and_eq_true, decide_eq_true_eq] at hg
    obtain ⟨⟨hb, hn, hs⟩, rfl, rfl⟩ := hg
    refine ⟨rfl, rfl, [slB 0 (bOf h b), .int .u32 s], [farB (bOf h b)], .cons _ _ _ _ _ _ _ (bOk_canon hb 0) (.cons _ _ _ _ _ _ _ (.flat _ _ rfl) (.nil _)), ?_⟩
    rw [← bOk_len hb] at hn
    generalize bOf h b = l at hn
    have hr := wsum_range l
    have hf := foldI_range (s + wsum l)
    refine Runs.val (find_nil _) (F := 100) (n := 4) (ls := lsRSum l s) (both (by kernel_rfl) (by kernel_rfl) (by kernel_rfl) (by decide) (fixL_sound (deep0 100 4) (LS := noLS) (noLoops (by kernel_rfl)) (rsumLoop l s hs hn))
      (fixL_sound (deep0 100 4) (LS := noLS) (noLoops (by kernel_rfl)) (rsumLoop2 _ _ (s + wsum l) rfl (by omega) (by omega)))) ?_
    rw [nfRSum, if_pos (cdec_true.2 ⟨by rw [wrapU64 (by omega)], rfl⟩), if_pos (cdec_true.2 ⟨rfl, rfl⟩), wrapI64 (by omega)]
    rfl
  · simp at hg

/-! ### The reference's Update -/

def mRUpd : List Bool := List.replicate 7 false ++ [true] ++ List.replicate 16 false
theorem nfRUpdR (CALL : CallT) (u : Int) (h : AHeap) : roundG Try.prog CALL noLS (loopIn (bodyOf Try.prog 43) 0) mRUpd [.int .i64 u] h =
    if decide (u > 65535) = true then some (.norm, [.int .i64 (IntKind.i64.wrap (u.fdiv 65536 + abits .i64 (· &&& ·) u 65535))], h) else some (.exit 0, [.int .i64 u], h) := by
  kernel_rfl

theorem and16i {n : Int} (h : 0 ≤ n ∧ n < 9223372036854775808) : abits .i64 (· &&& ·) n 65535 = n % 65536 := by
  obtain ⟨a, rfl⟩ := Int.eq_ofNat_of_zero_le h.1
  have h1 : (BitVec.ofInt 64 (65535 : Int)).toNat = 65535 := by decide
  have h2 := ofIntNat 64 a (by omega)
  show IntKind.i64.wrap ((BitVec.ofInt 64 (a : Int) &&& BitVec.ofInt 64 (65535 : Int)).toNat : Int) = _
  rw [BitVec.toNat_and, h2, h1, show (65535 : Nat) = 2 ^ 16 - 1 by rfl, Nat.and_two_pow_sub_one_eq_mod]
  rw [wrapI64 (by omega)]
  omega

theorem rupdLoop (h : AHeap) : ∀ (k : Nat) (n : Int), n.toNat = k → 0 ≤ n → n < 4611686018427387904 → ∃ j, loopG (roundG Try.prog (deepC Try.prog [] 100 4) noLS (loopIn (bodyOf Try.prog 43) 0) mRUpd) j [.int .i64 n] h = some (.exit 0, [.int .i64 (foldI n)], h) := by
  intro k
  induction k using Nat.strongRecOn with
  | _ k ih =>
    intro n hk h0 h1
    by_cases hb : n < 65536
    · refine ⟨1, ?_⟩
      simp only [loopG, nfRUpdR, decide_eq_true_eq, if_neg (show ¬ n > 65535 by omega), Option.bind_some]
      rw [foldI_small ⟨h0, hb⟩]
    · have e : IntKind.i64.wrap (n.fdiv 65536 + abits .i64 (· &&& ·) n 65535) = n % 65536 + n / 65536 := by
        rw [and16i (by omega), fdivPos, wrapI64 (by omega)]; omega
      obtain ⟨j, hj⟩ := ih (n % 65536 + n / 65536).toNat (by omega) _ rfl (by omega) (by omega)
      refine ⟨j + 1, ?_⟩
      simp only [loopG, nfRUpdR, decide_eq_true_eq, if_pos (show n > 65535 by omega), Option.bind_some, e]
      rw [hj, foldI_step h0]

def eRUpdate : GEnt := fun args h => match args with
  | [.int .i64 o, .int .i64 f, .int .i64 t] => some (decide ((0 ≤ o ∧ o < 65536) ∧ (0 ≤ f ∧ f < 65536) ∧ (0 ≤ t ∧ t < 65536)), .int .i64 (updI o f t), h)
  | _ => none

theorem nfRUpdate {R : Type} (o f t x y : Int) (K : AV → Option R) : abody Try.prog (deepC Try.prog [] 100 4) (mixLS [(2, fixL mRUpd [.int .i64 x] [] (.exit 0) [.int .i64 y] [])] (autoLS Try.prog (deepC Try.prog [] 100 4) 100 4 (bodyOf Try.prog 43))) 43 [.int .i64 o, .int .i64 f, .int .i64 t] [] (fun v _ => K v) =
    if cdec ([AV.int .i64 (IntKind.i64.wrap (IntKind.i64.wrap (IntKind.i64.wrap (65535 - o) + IntKind.i64.wrap (65535 - f)) + t))] = [.int .i64 x] ∧ ([] : AHeap) = []) = true then K (.int .i64 (IntKind.i64.wrap (65535 - y))) else none := by
  kernel_rfl

theorem sRUpdate : SoundE Try.prog 43 (entF eRUpdate) := by
  refine canonV_sound fun args h v h' hg => ?_
  unfold eRUpdate at hg
  split at hg
  · rename_i o f t
    simp only [Option.some.injEq, Prod.mk.injEq, decide_eq_true_eq] at hg
    obtain ⟨⟨ho, hf, ht⟩, rfl, rfl⟩ := hg
    refine ⟨rfl, rfl, [.int .i64 o, .int .i64 f, .int .i64 t], [], .cons _ _ _ _ _ _ _ (.flat _ _ rfl) (.cons _ _ _ _ _ _ _ (.flat _ _ rfl) (.cons _ _ _ _ _ _ _ (.flat _ _ rfl) (.nil _))), ?_⟩
    have hr := foldI_range ((65535 - o) + (65535 - f) + t)
    refine Runs.val (find_nil _) (F := 100) (n := 4) (ls := [(2, fixL mRUpd [.int .i64 ((65535 - o) + (65535 - f) + t)] [] (.exit 0) [.int .i64 (foldI ((65535 - o) + (65535 - f) + t))] [])]) (only (by kernel_rfl) (fixL_sound (deep0 100 4) (LS := noLS) (noLoops (by kernel_rfl)) (rupdLoop _ _ _ rfl (by omega) (by omega)))) ?_
    have e : IntKind.i64.wrap (IntKind.i64.wrap (IntKind.i64.wrap (65535 - o) + IntKind.i64.wrap (65535 - f)) + t) = (65535 - o) + (65535 - f) + t := by
      rw [wrapI64 (n := 65535 - o) (by omega), wrapI64 (n := 65535 - f) (by omega), wrapI64 (n := 65535 - o + (65535 - f)) (by omega), wrapI64 (by omega)]
    rw [nfRUpdate, e, if_pos (cdec_true.2 ⟨rfl, rfl⟩), wrapI64 (by omega)]
    rfl
  · simp at hg

/-! ### The reference's Change -/

noncomputable def tRCh : Tbl := [(23, entF eBe16), (43, entF eRUpdate)]
theorem tRChOk : ∀ f E, tRCh.find f = some E → SoundE Try.prog f E := find_cons sBe16 (find_cons sRUpdate (find_nil _))

def mRCh : List Bool := [true, true, true, false, false, false, false, true] ++ List.replicate 27 false
def vRCh (o : Int) (f t : List UInt8) (i : Int) : List AV := [.int .i64 o, slB 0 f, slB 1 t, .int .i64 i]

theorem nfRChR (o : Int) (f t : List UInt8) (i : Int) : roundG Try.prog (deepC Try.prog tRCh 100 4) noLS (loopIn (bodyOf Try.prog 32) 0) mRCh (vRCh o f t i) [farB f, farB t] =
    if decide (i < (f.length : Int)) = true then
      (if (bOk [farB f, farB t] (slB 0 f) && decide (f.length ≤ 70368744177664 ∧ 0 ≤ i ∧ i + 2 ≤ (f.length : Int))) = true then
        (if (bOk [farB f, farB t] (slB 1 t) && decide (t.length ≤ 70368744177664 ∧ 0 ≤ i ∧ i + 2 ≤ (t.length : Int))) = true then
          (if decide ((0 ≤ o ∧ o < 65536) ∧ (0 ≤ word (bOf [farB f, farB t] (slB 0 f)) i.toNat ∧ word (bOf [farB f, farB t] (slB 0 f)) i.toNat < 65536) ∧ (0 ≤ word (bOf [farB f, farB t] (slB 1 t)) i.toNat ∧ word (bOf [farB f, farB t] (slB 1 t)) i.toNat < 65536)) = true then
            some (.norm, vRCh (updI o (word (bOf [farB f, farB t] (slB 0 f)) i.toNat) (word (bOf [farB f, farB t] (slB 1 t)) i.toNat)) f t (IntKind.i64.wrap (i + 2)), [farB f, farB t])
          else none)
        else none)
      else none)
    else some (.exit 0, vRCh o f t i, [farB f, farB t]) := by
  kernel_rfl

theorem rchLoop (o : Int) (f t : List UInt8) (ho : 0 ≤ o ∧ o < 65536) (hl : f.length = t.length) (he : f.length % 2 = 0) (hn : f.length ≤ 70368744177664) :
    ∃ j, loopG (roundG Try.prog (deepC Try.prog tRCh 100 4) noLS (loopIn (bodyOf Try.prog 32) 0) mRCh) j (vRCh o f t 0) [farB f, farB t] = some (.exit 0, vRCh (chgI o f t) f t f.length, [farB f, farB t]) := by
  have key : ∀ (k i : Nat) (o : Int), f.length - i = k → i % 2 = 0 → i ≤ f.length → 0 ≤ o ∧ o < 65536 →
      ∃ j, loopG (roundG Try.prog (deepC Try.prog tRCh 100 4) noLS (loopIn (bodyOf Try.prog 32) 0) mRCh) j (vRCh o f t (i : Int)) [farB f, farB t] = some (.exit 0, vRCh (chgI o (f.drop i) (t.drop i)) f t f.length, [farB f, farB t]) := by
    intro k
    induction k using Nat.strongRecOn with
    | _ k ih =>
      intro i o hk hi2 hi ho
      have g1 := bOk_far (h := [farB f, farB t]) (k := 0) (l := f) rfl
      have g2 := bOk_far (h := [farB f, farB t]) (k := 1) (l := t) rfl
      by_cases hlt : i < f.length
      · obtain ⟨j, hj⟩ := ih (f.length - (i + 2)) (by omega) (i + 2) (updI o (word f i) (word t i)) rfl (by omega) (by omega) (updI_range _ _ _)
        refine ⟨j + 1, ?_⟩
        have e1 : IntKind.i64.wrap ((i : Int) + 2) = ((i + 2 : Nat) : Int) := by rw [wrapI64 (by omega)]; omega
        have e2 : (i : Int).toNat = i := by omega
        simp only [loopG, nfRChR]
        rw [g1.1, g1.2, g2.1, g2.2, e1, e2, if_pos (by simp; omega), if_pos (by simp; omega), if_pos (by simp; omega), if_pos (by simp only [decide_eq_true_eq]; exact ⟨ho, word_range _ _, word_range _ _⟩)]
        simp only [Option.bind_some]
        rw [hj, chgI_step (o := o) (f := f) (t := t) (i := i) (by omega) (by omega)]
      · refine ⟨1, ?_⟩
        have : i = f.length := by omega
        subst this
        simp only [loopG, nfRChR]
        rw [if_neg (by simp)]
        simp only [Option.bind_some]
        rw [List.drop_length, hl, List.drop_length]
        rfl
  simpa using key _ 0 o rfl rfl (Nat.zero_le _) ho

def eRChange : GEnt := fun args h => match args with
  | [.int .i64 o, f, t] => some (bOk h f && bOk h t && decide (nOf f ≤ 70368744177664 ∧ 0 ≤ o ∧ o < 65536), .int .i64 (changeI o (bOf h f) (bOf h t)), h)
  | _ => none

theorem nfRChange {R : Type} (o : Int) (f t : List UInt8) (K : AV → Option R) : abody Try.prog (deepC Try.prog tRCh 100 4) (mixLS [(4, fixL mRCh (vRCh o f t 0) [farB f, farB t] (.exit 0) (vRCh (chgI o f t) f t f.length) [farB f, farB t])] (autoLS Try.prog (deepC Try.prog tRCh 100 4) 100 4 (bodyOf Try.prog 32))) 32 [.int .i64 o, slB 0 f, slB 1 t] [farB f, farB t] (fun v _ => K v) =
    if ((f.length : Int) != (t.length : Int)) = true then K (.int .i64 o)
    else if ((f.length : Int).tmod 2 != 0) = true then K (.int .i64 o)
    else if cdec (vRCh o f t 0 = vRCh o f t 0 ∧ [farB f, farB t] = [farB f, farB t]) = true then K (.int .i64 (chgI o f t)) else none := by
  kernel_rfl


theorem sRChange : SoundE Try.prog 32 (entF eRChange) := by
  refine canonV_sound fun args h v h' hg => ?_
  unfold eRChange at hg
  split at hg
  · rename_i o b c
    simp only [Option.some.injEq, Prod.mk.injEq, Bool.and_eq_true, decide_eq_true_eq] at hg
    obtain ⟨⟨⟨hb, hc⟩, hn, ho⟩, rfl, rfl⟩ := hg
    refine ⟨rfl, rfl, [.int .i64 o, slB 0 (bOf h b), slB 1 (bOf h c)], [farB (bOf h b), farB (bOf h c)], .cons _ _ _ _ _ _ _ (.flat _ _ rfl) (.cons _ _ _ _ _ _ _ (bOk_canon hb 0) (.cons _ _ _ _ _ _ _ (bOk_canon hc 1) (.nil _))), ?_⟩
    rw [← bOk_len hb] at hn
    generalize bOf h b = f at hn
    generalize bOf h c = t
    by_cases h1 : f.length = t.length ∧ f.length % 2 = 0
    · refine Runs.val tRChOk (F := 100) (n := 4) (ls := [(4, fixL mRCh (vRCh o f t 0) [farB f, farB t] (.exit 0) (vRCh (chgI o f t) f t f.length) [farB f, farB t])]) (only (by kernel_rfl) (fixL_sound (deepC_sound tRChOk 100 4) (LS := noLS) (noLoops (by kernel_rfl)) (rchLoop o f t ho h1.1 h1.2 hn))) ?_
      rw [nfRChange, if_neg (by simp [h1.1]), if_neg (by rw [tmod2]; simp [h1.2]), if_pos (cdec_true.2 ⟨rfl, rfl⟩), changeI, if_pos h1]
    · have key : ∃ h', Runs Try.prog 32 [.int .i64 o, slB 0 f, slB 1 t] [farB f, farB t] (.int .i64 o) h' := by
        refine Runs.val0 tRChOk (F := 0) (n := 4) ?_
        have : abody Try.prog (deepC Try.prog tRCh 0 4) (mixLS [] (autoLS Try.prog (deepC Try.prog tRCh 0 4) 0 4 (bodyOf Try.prog 32))) 32 [.int .i64 o, slB 0 f, slB 1 t] [farB f, farB t] (fun v _ => some v) =
            if ((f.length : Int) != (t.length : Int)) = true then some (.int .i64 o) else if ((f.length : Int).tmod 2 != 0) = true then some (.int .i64 o) else none := by kernel_rfl
        rw [this, tmod2]
        by_cases h2 : f.length = t.length
        · rw [if_neg (by simp [h2]), if_pos (by simp; omega)]
        · rw [if_pos (by simp; omega)]
      rw [changeI, if_neg h1]
      exact key
  · simp at hg

end Go.Proofs.Ytmlenlfhciapfaa.L
