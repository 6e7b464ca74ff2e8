/- chksum's Change. -/
import Derived.Test.YtmlenlfhciapfaaSums
set_option autoImplicit false
set_option maxRecDepth 100000
set_option linter.unusedVariables false
set_option linter.unusedSimpArgs false
namespace Go.Proofs.Ytmlenlfhciapfaa.L
open Go Go.Abs

noncomputable def tCh : Tbl := [(22, entF eGet16), (27, entF eUpdate)]
theorem tChOk : ∀ f E, tCh.find f = some E → SoundE Try.prog f E := find_cons sGet16 (find_cons sUpdate (find_nil _))

noncomputable def lpCh (f t : List UInt8) (old : Int) (st : LoopState) : ALoop :=
  { st := st, pend := none, env := [.int .u16 old, slB 0 f, slB 1 t, .ptr (some (2, 0)), .tup [], .ptr (some (3, 0)), .int .u16 0, .tup [], .tup [], .tup [], .tup [],
     slB 0 f, .int .i64 f.length, slB 1 t, .int .i64 t.length, .bool ((f.length : Int) != (t.length : Int)), .bool false, slB 0 f, .int .i64 f.length, .int .i64 ((f.length : Int).tmod 2), .bool ((f.length : Int).tmod 2 != 0),
     .bool ((f.length : Int).tmod 2 != 0), .tup [], slB 0 f, .fn (.func 52) [.ptr (some (4, 0))]] ++ List.replicate 13 (.tup []),
    ps := [25, 26], asg := (rangeIn (bodyOf Try.prog 28) 0).1, body := (rangeIn (bodyOf Try.prog 28) 0).2 }

noncomputable def hCh (f t : List UInt8) (old : Int) (st : LoopState) (x : Int) : AHeap :=
  [farB f, farB t, .cells [.int .u16 x] 1 .own none, .cells [slB 1 t] 1 .own none, .cells [slB 0 f] 1 .own none, .lp (lpCh f t old st)]

theorem nfChR (f t : List UInt8) (old x p : Int) : roundG Try.prog (deepC Try.prog tCh 100 4) noLS (loopIn (bodyOf Try.prog 52) 0) mWords (vWords 5 4 p) (hCh f t old .ready x) =
    (let hb := hCh f t old .busy x
     let w := abits .u16 (· ||| ·) (IntKind.u16.wrap (IntKind.u16.wrap (intV (bys f)[0 + p.toNat * 1]?) * 256)) (IntKind.u16.wrap (intV (bys f)[0 + (IntKind.i64.wrap (p + 1)).toNat * 1]?))
     let w1 := IntKind.u16.wrap (IntKind.u16.wrap (intV (bys f)[0 + p.toNat * 1]?) * 256)
     let v := if 0 ≤ p ∧ p + ((2 : Nat) : Int) ≤ ((bOf hb (slB 1 t)).length : Int) then numAt (bOf hb (slB 1 t)) p.toNat 2 else 0
    if decide (p < (f.length : Int)) = true then
      (if 0 ≤ p ∧ p < (f.length : Int) then
        (if isIntV .u8 (bys f)[0 + p.toNat * 1]? = true then
          (if decide (IntKind.i64.wrap (p + 1) < (f.length : Int)) = true then
            (if 0 ≤ IntKind.i64.wrap (p + 1) ∧ IntKind.i64.wrap (p + 1) < (f.length : Int) then
              (if isIntV .u8 (bys f)[0 + (IntKind.i64.wrap (p + 1)).toNat * 1]? = true then
                (if (bOk hb (slB 1 t) && decide ((t.length : Int) < 9223372036854775000)) = true then
                  (if decide ((0 ≤ x ∧ x < 65536) ∧ (0 ≤ w ∧ w < 65536) ∧ (0 ≤ v ∧ v < 65536)) = true then
                    some (.norm, vWords 5 4 (IntKind.i64.wrap (p + 2)), hCh f t old .ready (updI x w v))
                  else none)
                else none)
              else none)
            else none)
          else
            (if (bOk hb (slB 1 t) && decide ((t.length : Int) < 9223372036854775000)) = true then
              (if decide ((0 ≤ x ∧ x < 65536) ∧ (0 ≤ w1 ∧ w1 < 65536) ∧ (0 ≤ v ∧ v < 65536)) = true then
                some (.norm, vWords 5 4 (IntKind.i64.wrap (p + 2)), hCh f t old .ready (updI x w1 v))
              else none)
            else none))
        else none)
      else none)
    else some (.exit 0, vWords 5 4 p, hCh f t old .ready x)) := by
  kernel_rfl

theorem chLoop (old : Int) (f t : List UInt8) (ho : 0 ≤ old ∧ old < 65536) (hl : f.length = t.length) (he : f.length % 2 = 0) (hn : f.length ≤ 70368744177664) :
    ∃ j, loopG (roundG Try.prog (deepC Try.prog tCh 100 4) noLS (loopIn (bodyOf Try.prog 52) 0) mWords) j (vWords 5 4 0) (hCh f t old .ready old) = some (.exit 0, vWords 5 4 f.length, hCh f t old .ready (chgI old f t)) := by
  have key : ∀ (k i : Nat) (o : Int), f.length - i = k → i % 2 = 0 → i ≤ f.length → 0 ≤ o ∧ o < 65536 →
      ∃ j, loopG (roundG Try.prog (deepC Try.prog tCh 100 4) noLS (loopIn (bodyOf Try.prog 52) 0) mWords) j (vWords 5 4 (i : Int)) (hCh f t old .ready o) = some (.exit 0, vWords 5 4 f.length, hCh f t old .ready (chgI o (f.drop i) (t.drop i))) := by
    intro k
    induction k using Nat.strongRecOn with
    | _ k ih =>
      intro i o hk hi2 hi ho
      by_cases hlt : i < f.length
      · obtain ⟨j, hj⟩ := ih (f.length - (i + 2)) (by omega) (i + 2) (updI o (word f i) (word t i)) rfl (by omega) (by omega) (updI_range _ _ _)
        refine ⟨j + 1, ?_⟩
        have g := bOk_far (h := hCh f t old .busy o) (k := 1) (l := t) rfl
        have g1 := byt_range f i
        have g2 := byt_range f (i + 1)
        have e1 : 0 + (i : Int).toNat * 1 = i := by omega
        have e2 : IntKind.i64.wrap ((i : Int) + 1) = ((i + 1 : Nat) : Int) := by rw [wrapI64 (by omega)]; omega
        have e3 : 0 + ((i + 1 : Nat) : Int).toNat * 1 = i + 1 := by omega
        have e4 : IntKind.i64.wrap ((i : Int) + 2) = ((i + 2 : Nat) : Int) := by rw [wrapI64 (by omega)]; omega
        have e5 : (i : Int).toNat = i := by omega
        simp only [loopG, nfChR]
        rw [e1, e2, e3, e4, e5, g.1, g.2, if_pos (by simp; omega), if_pos (by omega), bys_get, isIntV_byte, if_pos (by simp; omega), if_pos (by simp; omega), if_pos (by omega), bys_get, isIntV_byte, if_pos (by simp; omega), intV_byte, intV_byte, or16w g1 g2,
          if_pos (by simp; omega), if_pos (show 0 ≤ (i : Int) ∧ (i : Int) + ((2 : Nat) : Int) ≤ (t.length : Int) by omega), numAt_two (by omega), if_pos (by simp only [decide_eq_true_eq]; exact ⟨ho, word_range f i, word_range t i⟩)]
        simp only [Option.bind_some]
        rw [show byt f i * 256 + byt f (i + 1) = word f i from rfl, hj, chgI_step (o := o) (f := f) (t := t) (i := i) (by omega) (by omega)]
      · refine ⟨1, ?_⟩
        have : i = f.length := by omega
        subst this
        simp only [loopG, nfChR]
        rw [if_neg (by simp)]
        simp only [Option.bind_some]
        rw [List.drop_length, hl, List.drop_length]
        rfl
  simpa using key _ 0 old rfl rfl (Nat.zero_le _) ho

theorem runsWordsCh (old : Int) (f t : List UInt8) (ho : 0 ≤ old ∧ old < 65536) (hl : f.length = t.length) (he : f.length % 2 = 0) (hn : f.length ≤ 70368744177664) :
    Runs Try.prog 52 [.fn (.yield 5) [], .ptr (some (4, 0))] (hCh f t old .ready old) (.tup []) (hCh f t old .ready (chgI old f t)) := by
  refine Runs.of tChOk (F := 100) (n := 4) (ls := [(1, fixL mWords (vWords 5 4 0) (hCh f t old .ready old) (.exit 0) (vWords 5 4 f.length) (hCh f t old .ready (chgI old f t)))]) (only (by kernel_rfl) (fixL_sound (deepC_sound tChOk 100 4) (LS := noLS) (noLoops (by kernel_rfl)) (chLoop old f t ho hl he hn))) ?_
  have : abody Try.prog (deepC Try.prog tCh 100 4) (mixLS [(1, fixL mWords (vWords 5 4 0) (hCh f t old .ready old) (.exit 0) (vWords 5 4 f.length) (hCh f t old .ready (chgI old f t)))] (autoLS Try.prog (deepC Try.prog tCh 100 4) 100 4 (bodyOf Try.prog 52)))
      52 [.fn (.yield 5) [], .ptr (some (4, 0))] (hCh f t old .ready old) (fun v h => some (v, h)) = if cdec (vWords 5 4 0 = vWords 5 4 0 ∧ hCh f t old .ready old = hCh f t old .ready old) = true then some (.tup [], hCh f t old .ready (chgI old f t)) else none := by kernel_rfl
  rw [this, if_pos (cdec_true.2 ⟨rfl, rfl⟩)]

def eChange : GEnt := fun args h => match args with
  | [.int .u16 o, f, t] => some (bOk h f && bOk h t && decide (nOf f ≤ 70368744177664 ∧ 0 ≤ o ∧ o < 65536), .int .u16 (changeI o (bOf h f) (bOf h t)), h)
  | _ => none

noncomputable def tChange (o : Int) (f t : List UInt8) : Tbl := [(52, fixE [.fn (.yield 5) [], .ptr (some (4, 0))] (hCh f t o .ready o) (.tup []) (hCh f t o .ready (chgI o f t)))]

theorem nfChange {R : Type} (o : Int) (f t : List UInt8) (K : AV → Option R) : abody Try.prog (deepC Try.prog (tChange o f t) 100 4) (mixLS [] (autoLS Try.prog (deepC Try.prog (tChange o f t) 100 4) 100 4 (bodyOf Try.prog 28))) 28 [.int .u16 o, slB 0 f, slB 1 t] [farB f, farB t] (fun v _ => K v) =
    if ((f.length : Int) != (t.length : Int)) = true then K (.int .u16 o)
    else if ((f.length : Int).tmod 2 != 0) = true then K (.int .u16 o)
    else if cdec ([AV.fn (.yield 5) [], AV.ptr (some (4, 0))] = [.fn (.yield 5) [], .ptr (some (4, 0))] ∧ hCh f t o .ready o = hCh f t o .ready o) = true then (if isIntV .u16 (some (AV.int .u16 (chgI o f t))) = true then K (.int .u16 (chgI o f t)) else none) else none := by
  kernel_rfl

theorem sChange : SoundE Try.prog 28 (entF eChange) := by
  refine canonV_sound fun args h v h' hg => ?_
  unfold eChange at hg
  split at hg
  · rename_i o b c
    simp only [Option.some.injEq, Prod.mk.injEq, Bool.and_eq_true, decide_eq_true_eq] at hg
    obtain ⟨⟨⟨hb, hc⟩, hn, ho⟩, rfl, rfl⟩ := hg
    refine ⟨rfl, rfl, [.int .u16 o, slB 0 (bOf h b), slB 1 (bOf h c)], [farB (bOf h b), farB (bOf h c)], .cons _ _ _ _ _ _ _ (.flat _ _ rfl) (.cons _ _ _ _ _ _ _ (bOk_canon hb 0) (.cons _ _ _ _ _ _ _ (bOk_canon hc 1) (.nil _))), ?_⟩
    rw [← bOk_len hb] at hn
    generalize bOf h b = f at hn
    generalize bOf h c = t
    by_cases h1 : f.length = t.length ∧ f.length % 2 = 0
    · refine Runs.val0 (t := tChange o f t) (find_cons (fixE_sound (runsWordsCh o f t ho h1.1 h1.2 hn)) (find_nil _)) (F := 100) (n := 4) ?_
      rw [nfChange, if_neg (by simp [h1.1]), if_neg (by rw [tmod2]; simp [h1.2]), if_pos (cdec_true.2 ⟨rfl, rfl⟩), changeI, if_pos h1]
      rfl
    · have key : ∃ h', Runs Try.prog 28 [.int .u16 o, slB 0 f, slB 1 t] [farB f, farB t] (.int .u16 o) h' := by
        refine Runs.val0 (find_nil _) (F := 0) (n := 0) ?_
        have : abody Try.prog (deepC Try.prog [] 0 0) (mixLS [] (autoLS Try.prog (deepC Try.prog [] 0 0) 0 4 (bodyOf Try.prog 28))) 28 [.int .u16 o, slB 0 f, slB 1 t] [farB f, farB t] (fun v _ => some v) =
            if ((f.length : Int) != (t.length : Int)) = true then some (.int .u16 o) else if ((f.length : Int).tmod 2 != 0) = true then some (.int .u16 o) else none := by kernel_rfl
        rw [this, tmod2]
        by_cases h2 : f.length = t.length
        · rw [if_neg (by simp [h2]), if_pos (by simp; omega)]
        · rw [if_pos (by simp; omega)]
      rw [changeI, if_neg h1]
      exact key
  · simp at hg

end Go.Proofs.Ytmlenlfhciapfaa.L
