/- chksum: fold, Update, Sum. -/
import Derived.Test.YtmlenlfhciapfaaPure
import Derived.Test.YtmlenlfhciapfaaOct
set_option autoImplicit false
set_option maxRecDepth 100000
set_option linter.unusedVariables false
set_option linter.unusedSimpArgs false
namespace Go.Proofs.Ytmlenlfhciapfaa.L
open Go Go.Abs

theorem deep0 (F n : Nat) : SoundC Try.prog (deepC Try.prog [] F n) := deepC_sound (find_nil _) F n

/-! ### fold -/

def mFold : List Bool := [true, false, false, false, false, false, false, false, false, false, false, false, false]

theorem nfFoldR (CALL : CallT) (n : Int) (h : AHeap) : roundG Try.prog CALL noLS (loopIn (bodyOf Try.prog 41) 0) mFold [.int .u64 n] h =
    if decide (n.fdiv 65536 > 0) = true then some (.norm, [.int .u64 (IntKind.u64.wrap (abits .u64 (· &&& ·) n 65535 + n.fdiv 65536))], h) else some (.exit 0, [.int .u64 n], h) := by
  kernel_rfl

theorem foldLoop (h : AHeap) : ∀ (k : Nat) (n : Int), n.toNat = k → 0 ≤ n → n < 9223372036854775808 → ∃ j, loopG (roundG Try.prog (deepC Try.prog [] 100 4) noLS (loopIn (bodyOf Try.prog 41) 0) mFold) j [.int .u64 n] h = some (.exit 0, [.int .u64 (foldI n)], h) := by
  intro k
  induction k using Nat.strongRecOn with
  | _ k ih =>
    intro n hk h0 h1
    by_cases hb : n < 65536
    · refine ⟨1, ?_⟩
      have hd : ¬ (n.fdiv 65536 > 0) := by rw [fdivPos]; omega
      simp only [loopG, nfFoldR, decide_eq_true_eq, if_neg hd, Option.bind_some]
      rw [foldI_small ⟨h0, hb⟩]
    · have hd : n.fdiv 65536 > 0 := by rw [fdivPos]; omega
      have e : IntKind.u64.wrap (abits .u64 (· &&& ·) n 65535 + n.fdiv 65536) = n % 65536 + n / 65536 := by
        rw [and16 (by omega), fdivPos, wrapU64 (by omega)]
      obtain ⟨j, hj⟩ := ih (n % 65536 + n / 65536).toNat (by omega) _ rfl (by omega) (by omega)
      refine ⟨j + 1, ?_⟩
      simp only [loopG, nfFoldR, decide_eq_true_eq, if_pos hd, Option.bind_some, e]
      rw [hj, foldI_step h0]

def eFold : GEnt := fun args h => match args with
  | [.int .u64 n] => some (decide (0 ≤ n ∧ n < 9223372036854775808), .int .u16 (foldI n), h)
  | _ => none

theorem sFold : SoundE Try.prog 41 (entF eFold) := by
  refine canonV_sound fun args h v h' hg => ?_
  unfold eFold at hg
  split at hg
  · rename_i n
    simp only [Option.some.injEq, Prod.mk.injEq, decide_eq_true_eq] at hg
    obtain ⟨⟨h0, h1⟩, rfl, rfl⟩ := hg
    refine ⟨rfl, rfl, [.int .u64 n], [], .cons _ _ _ _ _ _ _ (.flat _ _ rfl) (.nil _), ?_⟩
    refine Runs.val (find_nil _) (F := 100) (n := 4) (ls := [(1, fixL mFold [.int .u64 n] [] (.exit 0) [.int .u64 (foldI n)] [])]) (only (by kernel_rfl) ?_) ?_
    · exact fixL_sound (deep0 100 4) (LS := noLS) (noLoops (by kernel_rfl)) (foldLoop [] _ n rfl h0 h1)
    · have : abody Try.prog (deepC Try.prog [] 100 4) (mixLS [(1, fixL mFold [.int .u64 n] [] (.exit 0) [.int .u64 (foldI n)] [])] (autoLS Try.prog (deepC Try.prog [] 100 4) 100 4 (bodyOf Try.prog 41))) 41 [.int .u64 n] [] (fun v _ => some v) =
          if cdec ([AV.int .u64 n] = [.int .u64 n] ∧ ([] : AHeap) = []) = true then some (.int .u16 (IntKind.u16.wrap (foldI n))) else none := by kernel_rfl
      rw [this, if_pos (cdec_true.2 ⟨rfl, rfl⟩), wrapU16 (foldI_range n)]
  · simp at hg

/-! ### Update -/

def eUpdate : GEnt := fun args h => match args with
  | [.int .u16 o, .int .u16 f, .int .u16 t] => some (decide ((0 ≤ o ∧ o < 65536) ∧ (0 ≤ f ∧ f < 65536) ∧ (0 ≤ t ∧ t < 65536)), .int .u16 (updI o f t), h)
  | _ => none

noncomputable def tFold : Tbl := [(41, entF eFold)]
theorem tFoldOk : ∀ f E, tFold.find f = some E → SoundE Try.prog f E := find_cons sFold (find_nil _)

theorem nfUpdate {R : Type} (o f t : Int) (K : AV → Option R) : abody Try.prog (deepC Try.prog tFold 100 4) (mixLS [] (autoLS Try.prog (deepC Try.prog tFold 100 4) 100 4 (bodyOf Try.prog 27))) 27 [.int .u16 o, .int .u16 f, .int .u16 t] [] (fun v _ => K v) =
    (let x := IntKind.u64.wrap (IntKind.u64.wrap (IntKind.u64.wrap (abits .u16 (· ^^^ ·) 65535 o) + IntKind.u64.wrap (abits .u16 (· ^^^ ·) 65535 f)) + IntKind.u64.wrap t)
    if decide (0 ≤ x ∧ x < 9223372036854775808) = true then K (.int .u16 (abits .u16 (· ^^^ ·) 65535 (foldI x))) else none) := by
  kernel_rfl

theorem sUpdate : SoundE Try.prog 27 (entF eUpdate) := by
  refine canonV_sound fun args h v h' hg => ?_
  unfold eUpdate at hg
  split at hg
  · rename_i o f t
    simp only [Option.some.injEq, Prod.mk.injEq, decide_eq_true_eq] at hg
    obtain ⟨⟨ho, hf, ht⟩, rfl, rfl⟩ := hg
    refine ⟨rfl, rfl, [.int .u16 o, .int .u16 f, .int .u16 t], [], .cons _ _ _ _ _ _ _ (.flat _ _ rfl) (.cons _ _ _ _ _ _ _ (.flat _ _ rfl) (.cons _ _ _ _ _ _ _ (.flat _ _ rfl) (.nil _))), ?_⟩
    refine Runs.val0 tFoldOk (F := 100) (n := 4) ?_
    rw [nfUpdate]
    have e : IntKind.u64.wrap (IntKind.u64.wrap (IntKind.u64.wrap (abits .u16 (· ^^^ ·) 65535 o) + IntKind.u64.wrap (abits .u16 (· ^^^ ·) 65535 f)) + IntKind.u64.wrap t) = (65535 - o) + (65535 - f) + t := by
      rw [xor16 ho, xor16 hf, wrapU64 (n := 65535 - o) (by omega), wrapU64 (n := 65535 - f) (by omega), wrapU64 (n := t) (by omega), wrapU64 (n := 65535 - o + (65535 - f)) (by omega), wrapU64 (by omega)]
    simp only [e]
    rw [if_pos (by simp; omega), xor16 (foldI_range _)]
    rfl
  · simp at hg

/-! ### Sum -/

def mWords : List Bool := [true, true, false, true] ++ List.replicate 31 false

noncomputable def lpSum (l : List UInt8) (s : Int) : ALoop :=
  { st := .ready, pend := none, env := [slB 0 l, .int .u32 s, .tup [], .tup [], .int .u16 0, .ptr (some (1, 0)), .tup [], .tup [], .int .u32 s, .int .u64 (IntKind.u64.wrap s), slB 0 l, .fn (.func 52) [.ptr (some (2, 0))],
      .tup [], .tup [], .tup [], .tup [], .tup [], .tup [], .tup [], .tup []], ps := [12, 13], asg := (rangeIn (bodyOf Try.prog 34) 0).1, body := (rangeIn (bodyOf Try.prog 34) 0).2 }

noncomputable def hSum (l : List UInt8) (s x : Int) : AHeap := [farB l, .cells [.int .u64 x] 1 .own none, .cells [slB 0 l] 1 .own none, .lp (lpSum l s)]
def vWords (k : Nat) (q : Nat) (p : Int) : List AV := [.fn (.yield k) [], .ptr (some (q, 0)), .int .i64 p]

theorem nfSumR (l : List UInt8) (s x p : Int) : roundG Try.prog (deepC Try.prog [] 100 4) noLS (loopIn (bodyOf Try.prog 52) 0) mWords (vWords 3 2 p) (hSum l s x) =
    if decide (p < (l.length : Int)) = true then
      (if 0 ≤ p ∧ p < (l.length : Int) then
        (if isIntV .u8 (bys l)[0 + p.toNat * 1]? = true then
          (if decide (IntKind.i64.wrap (p + 1) < (l.length : Int)) = true then
            (if 0 ≤ IntKind.i64.wrap (p + 1) ∧ IntKind.i64.wrap (p + 1) < (l.length : Int) then
              (if isIntV .u8 (bys l)[0 + (IntKind.i64.wrap (p + 1)).toNat * 1]? = true then
                some (.norm, vWords 3 2 (IntKind.i64.wrap (p + 2)), hSum l s
                  (IntKind.u64.wrap (x + IntKind.u64.wrap (abits .u16 (· ||| ·) (IntKind.u16.wrap (IntKind.u16.wrap (intV (bys l)[0 + p.toNat * 1]?) * 256))
                    (IntKind.u16.wrap (intV (bys l)[0 + (IntKind.i64.wrap (p + 1)).toNat * 1]?))))))
              else none)
            else none)
          else some (.norm, vWords 3 2 (IntKind.i64.wrap (p + 2)), hSum l s
                  (IntKind.u64.wrap (x + IntKind.u64.wrap (IntKind.u16.wrap (IntKind.u16.wrap (intV (bys l)[0 + p.toNat * 1]?) * 256))))))
        else none)
      else none)
    else some (.exit 0, vWords 3 2 p, hSum l s x) := by
  kernel_rfl

theorem psum_range (l : List UInt8) : ∀ i, i ≤ (l.length + 1) / 2 → 0 ≤ wsum l - wsum (l.drop (2 * i)) ∧ wsum l - wsum (l.drop (2 * i)) ≤ 65535 * (i : Int)
  | 0, _ => by simp
  | i + 1, h => by
    have ih := psum_range l i (by omega)
    have h1 := wsum_step (l := l) (i := 2 * i) (by omega)
    have h2 := word_range l (2 * i)
    rw [show 2 * (i + 1) = 2 * i + 2 by omega]
    omega

theorem sumLoop (l : List UInt8) (s : Int) (hs : 0 ≤ s ∧ s < 4294967296) (hl : l.length ≤ 70368744177664) :
    ∃ j, loopG (roundG Try.prog (deepC Try.prog [] 100 4) noLS (loopIn (bodyOf Try.prog 52) 0) mWords) j (vWords 3 2 0) (hSum l s s) = some (.exit 0, vWords 3 2 ((2 * ((l.length + 1) / 2) : Nat) : Int), hSum l s (s + wsum l)) := by
  have := loop_up (body := roundG Try.prog (deepC Try.prog [] 100 4) noLS (loopIn (bodyOf Try.prog 52) 0) mWords)
    (fun i => (vWords 3 2 ((2 * i : Nat) : Int), hSum l s (s + (wsum l - wsum (l.drop (2 * i)))))) (n := (l.length + 1) / 2) (e := .exit 0) (vs := vWords 3 2 ((2 * ((l.length + 1) / 2) : Nat) : Int)) (h := hSum l s (s + wsum l)) (by simp)
    (fun i hi => by
      have hp := psum_range l i (by omega)
      have h1 := wsum_step (l := l) (i := 2 * i) (by omega)
      have g1 := byt_range l (2 * i)
      have g2 := byt_range l (2 * i + 1)
      have e1 : 0 + ((2 * i : Nat) : Int).toNat * 1 = 2 * i := by omega
      have e2 : IntKind.i64.wrap (((2 * i : Nat) : Int) + 1) = ((2 * i + 1 : Nat) : Int) := by rw [wrapI64 (by omega)]; omega
      have e3 : 0 + ((2 * i + 1 : Nat) : Int).toNat * 1 = 2 * i + 1 := by omega
      have e4 : IntKind.i64.wrap (((2 * i : Nat) : Int) + 2) = ((2 * (i + 1) : Nat) : Int) := by rw [wrapI64 (by omega)]; omega
      simp only [nfSumR]
      rw [e1, e2, e3, e4, if_pos (by simp; omega), if_pos (by omega), bys_get, isIntV_byte, if_pos (by simp; omega), bys_get, isIntV_byte, intV_byte, intV_byte]
      by_cases h2 : 2 * i + 1 < l.length
      · rw [if_pos (by simp; omega), if_pos (by omega), if_pos (by simp; omega), or16w g1 g2, wrapU64 (n := byt l (2 * i) * 256 + byt l (2 * i + 1)) (by omega), wrapU64 (by omega)]
        have : s + (wsum l - wsum (l.drop (2 * i))) + (byt l (2 * i) * 256 + byt l (2 * i + 1)) = s + (wsum l - wsum (l.drop (2 * (i + 1)))) := by
          rw [show 2 * (i + 1) = 2 * i + 2 by omega]
          unfold word at h1; omega
        rw [this]
      · have h0 := byt_ge (show l.length ≤ 2 * i + 1 by omega)
        rw [if_neg (by simp; omega), wrapU16 (n := byt l (2 * i)) (by omega), wrapU16 (by omega), wrapU64 (n := byt l (2 * i) * 256) (by omega), wrapU64 (by omega)]
        have : s + (wsum l - wsum (l.drop (2 * i))) + byt l (2 * i) * 256 = s + (wsum l - wsum (l.drop (2 * (i + 1)))) := by
          rw [show 2 * (i + 1) = 2 * i + 2 by omega]
          unfold word at h1; omega
        rw [this])
    (by
      simp only [nfSumR]
      rw [if_neg (by simp; omega)]
      rw [List.drop_of_length_le (by omega)]
      simp [wsum])
  simpa using this

noncomputable def eW (l : List UInt8) (s : Int) : Ent := fixE [.fn (.yield 3) [], .ptr (some (2, 0))] (hSum l s s) (.tup []) (hSum l s (s + wsum l))

theorem runsWordsSum (l : List UInt8) (s : Int) (hs : 0 ≤ s ∧ s < 4294967296) (hl : l.length ≤ 70368744177664) : Runs Try.prog 52 [.fn (.yield 3) [], .ptr (some (2, 0))] (hSum l s s) (.tup []) (hSum l s (s + wsum l)) := by
  refine Runs.of (find_nil _) (F := 100) (n := 4) (ls := [(1, fixL mWords (vWords 3 2 0) (hSum l s s) (.exit 0) (vWords 3 2 ((2 * ((l.length + 1) / 2) : Nat) : Int)) (hSum l s (s + wsum l)))]) (only (by kernel_rfl) (fixL_sound (deep0 100 4) (LS := noLS) (noLoops (by kernel_rfl)) (sumLoop l s hs hl))) ?_
  have : abody Try.prog (deepC Try.prog [] 100 4) (mixLS [(1, fixL mWords (vWords 3 2 0) (hSum l s s) (.exit 0) (vWords 3 2 ((2 * ((l.length + 1) / 2) : Nat) : Int)) (hSum l s (s + wsum l)))] (autoLS Try.prog (deepC Try.prog [] 100 4) 100 4 (bodyOf Try.prog 52)))
      52 [.fn (.yield 3) [], .ptr (some (2, 0))] (hSum l s s) (fun v h => some (v, h)) = if cdec (vWords 3 2 0 = vWords 3 2 0 ∧ hSum l s s = hSum l s s) = true then some (.tup [], hSum l s (s + wsum l)) else none := by kernel_rfl
  rw [this, if_pos (cdec_true.2 ⟨rfl, rfl⟩)]

def eSum : GEnt := fun args h => match args with
  | [b, .int .u32 s] => some (bOk h b && decide (nOf b ≤ 70368744177664 ∧ 0 ≤ s ∧ s < 4294967296), .int .u16 (sumI (bOf h b) s), h)
  | _ => none

noncomputable def tSum (l : List UInt8) (s : Int) : Tbl := [(41, entF eFold), (52, eW l s)]

theorem nfSum {R : Type} (l : List UInt8) (s : Int) (K : AV → Option R) : abody Try.prog (deepC Try.prog (tSum l s) 100 4) (mixLS [] (autoLS Try.prog (deepC Try.prog (tSum l s) 100 4) 100 4 (bodyOf Try.prog 34))) 34 [slB 0 l, .int .u32 s] [farB l] (fun v _ => K v) =
    if cdec ([AV.fn (.yield 3) [], AV.ptr (some (2, 0))] = [.fn (.yield 3) [], .ptr (some (2, 0))] ∧ hSum l s (IntKind.u64.wrap s) = hSum l s s) = true then
      (if decide (0 ≤ s + wsum l ∧ s + wsum l < 9223372036854775808) = true then K (.int .u16 (foldI (s + wsum l))) else none)
    else none := by
  kernel_rfl

theorem sSum : SoundE Try.prog 34 (entF eSum) := by
  refine canonV_sound fun args h v h' hg => ?_
  unfold eSum at hg
  split at hg
  · rename_i b s
    simp only [Option.some.injEq, Prod.mk.injEq, Bool.and_eq_true, decide_eq_true_eq] at hg
    obtain ⟨⟨hb, hn, hs⟩, rfl, rfl⟩ := hg
    refine ⟨rfl, rfl, [slB 0 (bOf h b), .int .u32 s], [farB (bOf h b)], .cons _ _ _ _ _ _ _ (bOk_canon hb 0) (.cons _ _ _ _ _ _ _ (.flat _ _ rfl) (.nil _)), ?_⟩
    rw [← bOk_len hb] at hn
    generalize bOf h b = l at hn
    refine Runs.val0 (t := tSum l s) (find_cons sFold (find_cons (fixE_sound (runsWordsSum l s hs hn)) (find_nil _))) (F := 100) (n := 4) ?_
    have hr := wsum_range l
    rw [nfSum, if_pos (cdec_true.2 ⟨rfl, by rw [wrapU64 (by omega)]⟩), if_pos (by simp; omega)]
    rfl
  · simp at hg

end Go.Proofs.Ytmlenlfhciapfaa.L
