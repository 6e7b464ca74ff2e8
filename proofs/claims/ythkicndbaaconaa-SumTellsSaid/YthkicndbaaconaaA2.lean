/- chksum's Sum. -/
import Derived.Test.YthkicndbaaconaaA1
import Derived.Test.YthkicndbaaconaaBytes
set_option autoImplicit false
set_option maxRecDepth 100000
namespace Go.Proofs.Ythkicndbaaconaa.L3
open Go.Abs

def m25 : List Bool := [true, true, false, true] ++ List.replicate 31 false

noncomputable def env12 (b : Option (Nat × Nat)) (n c : Nat) (ex : Bool) (s : Int) : Env :=
  [.sl b n c ex, .int .u32 s, .tup [], .tup [], .int .u16 0, .ptr (some (1, 0)), .tup [], .tup [], .int .u32 s, .int .u64 (IntKind.u64.wrap s), .sl b n c ex, .fn (.func 25) [.ptr (some (2, 0))],
   .tup [], .tup [], .tup [], .tup [], .tup [], .tup [], .tup [], .tup []]

noncomputable def lp12 (b : Option (Nat × Nat)) (n c : Nat) (ex : Bool) (s : Int) : ALoop :=
  { st := .ready, pend := none, env := env12 b n c ex s, ps := [12, 13], asg := (rangeIn (bodyOf Try.prog 12) 0).1, body := (rangeIn (bodyOf Try.prog 12) 0).2 }

noncomputable def h12 (zs : List Int) (b : Option (Nat × Nat)) (n c : Nat) (ex : Bool) (s x : Int) : AHeap :=
  [.cells (intsA .u8 zs) 1 .far none, .cells [.int .u64 x] 1 .own none, .cells [.sl b n c ex] 1 .own none, .lp (lp12 b n c ex s)]

def v25 (at_ : Int) : List AV := [.fn (.yield 3) [], .ptr (some (2, 0)), .int .i64 at_]

noncomputable def c25 : CallT := callOf Try.prog noCalls []

theorem nf25 (zs : List Int) (n c : Nat) (ex : Bool) (s x at_ : Int) : roundG Try.prog c25 noLS (loopIn (bodyOf Try.prog 25) 0) m25 (v25 at_) (h12 zs (some (0, 0)) n c ex s x) =
    if decide (at_ < (n : Int)) = true then
      (if 0 ≤ at_ ∧ at_ < (n : Int) then
        (if isIntV .u8 (intsA .u8 zs)[0 + at_.toNat * 1]? = true then
          (if decide (IntKind.i64.wrap (at_ + 1) < (n : Int)) = true then
            (if 0 ≤ IntKind.i64.wrap (at_ + 1) ∧ IntKind.i64.wrap (at_ + 1) < (n : Int) then
              (if isIntV .u8 (intsA .u8 zs)[0 + (IntKind.i64.wrap (at_ + 1)).toNat * 1]? = true then
                some (.norm, v25 (IntKind.i64.wrap (at_ + 2)), h12 zs (some (0, 0)) n c ex s
                  (IntKind.u64.wrap (x + IntKind.u64.wrap (abits .u16 (· ||| ·) (IntKind.u16.wrap (IntKind.u16.wrap (intV (intsA .u8 zs)[0 + at_.toNat * 1]?) * 256))
                    (IntKind.u16.wrap (intV (intsA .u8 zs)[0 + (IntKind.i64.wrap (at_ + 1)).toNat * 1]?))))))
              else none)
            else none)
          else some (.norm, v25 (IntKind.i64.wrap (at_ + 2)), h12 zs (some (0, 0)) n c ex s
                  (IntKind.u64.wrap (x + IntKind.u64.wrap (IntKind.u16.wrap (IntKind.u16.wrap (intV (intsA .u8 zs)[0 + at_.toNat * 1]?) * 256))))))
        else none)
      else none)
    else some (.exit 0, v25 at_, h12 zs (some (0, 0)) n c ex s x) := by
  kernel_rfl

theorem loop25 {zs : List Int} (hz : ByteL zs) (c : Nat) (ex : Bool) (s : Int) (hn : zs.length ≤ 70368744177664) : ∀ (k i : Nat) (x : Int), zs.length - i = k → i ≤ zs.length + 1 → 0 ≤ x → x + 65535 * ((zs.length : Int) - i) < 9223372036854775808 →
    ∃ j, loopG (roundG Try.prog c25 noLS (loopIn (bodyOf Try.prog 25) 0) m25) j (v25 i) (h12 zs (some (0, 0)) zs.length c ex s x) =
      some (.exit 0, v25 ((i + 2 * ((zs.length - i + 1) / 2) : Nat) : Int), h12 zs (some (0, 0)) zs.length c ex s (x + wsum (zs.drop i))) := by
  intro k
  induction k using Nat.strongRecOn with
  | _ k ih =>
    intro i x hk hi hx hb
    by_cases hlt : i < zs.length
    · have h1 : (i : Int) < (zs.length : Int) := by omega
      have w1 : IntKind.i64.wrap ((i : Int) + 1) = (i : Int) + 1 := wrapI64 (by omega)
      have w2 : IntKind.i64.wrap ((i : Int) + 2) = ((i + 2 : Nat) : Int) := by rw [wrapI64 (by omega)]; omega
      have t1 : 0 + (i : Int).toNat * 1 = i := by omega
      have t2 : 0 + ((i : Int) + 1).toNat * 1 = i + 1 := by omega
      have g1 := hz.get i
      have g2 := hz.get (i + 1)
      have a1 : IntKind.u16.wrap (zs.getD i 0) = zs.getD i 0 := wrapU16 (by omega)
      have a2 : IntKind.u16.wrap (zs.getD i 0 * 256) = zs.getD i 0 * 256 := wrapU16 (by omega)
      have a3 : IntKind.u16.wrap (zs.getD (i + 1) 0) = zs.getD (i + 1) 0 := wrapU16 (by omega)
      have hstep : ∃ w, 0 ≤ w ∧ w ≤ 65535 ∧ wsum (zs.drop i) = w + wsum (zs.drop (i + 2)) ∧
          roundG Try.prog c25 noLS (loopIn (bodyOf Try.prog 25) 0) m25 (v25 i) (h12 zs (some (0, 0)) zs.length c ex s x) = some (.norm, v25 ((i + 2 : Nat) : Int), h12 zs (some (0, 0)) zs.length c ex s (x + w)) := by
        by_cases hlt2 : i + 1 < zs.length
        · refine ⟨zs.getD i 0 * 256 + zs.getD (i + 1) 0, by omega, by omega, by rw [wsum_drop hlt], ?_⟩
          rw [nf25]
          simp only [w1, w2, t1, t2, intV_ints, a1, a2, a3, or16 g1 g2]
          rw [if_pos (by simpa using h1), if_pos ⟨by omega, h1⟩, if_pos (isIntV_ints hlt), if_pos (by simp; omega), if_pos ⟨by omega, by omega⟩, if_pos (isIntV_ints hlt2)]
          rw [wrapU64 (n := zs.getD i 0 * 256 + zs.getD (i + 1) 0) (by omega), wrapU64 (by omega)]
        · have e0 : zs.getD (i + 1) 0 = 0 := by
            rw [List.getD_eq_getElem?_getD]
            have : zs[i + 1]? = none := by simp; omega
            rw [this]; rfl
          refine ⟨zs.getD i 0 * 256, by omega, by omega, by rw [wsum_drop hlt, e0]; omega, ?_⟩
          rw [nf25]
          simp only [w1, w2, t1, t2, intV_ints, a1, a2]
          rw [if_pos (by simpa using h1), if_pos ⟨by omega, h1⟩, if_pos (isIntV_ints hlt), if_neg (by simp; omega)]
          rw [wrapU64 (n := zs.getD i 0 * 256) (by omega), wrapU64 (by omega)]
      obtain ⟨w, hw0, hw1, hw2, hr⟩ := hstep
      obtain ⟨j, hj⟩ := ih (zs.length - (i + 2)) (by omega) (i + 2) (x + w) rfl (by omega) (by omega) (by omega)
      refine ⟨j + 1, ?_⟩
      simp only [loopG, hr, Option.bind_some]
      rw [hj, hw2]
      have e1 : i + 2 + 2 * ((zs.length - (i + 2) + 1) / 2) = i + 2 * ((zs.length - i + 1) / 2) := by omega
      rw [e1, Int.add_assoc]
    · refine ⟨1, ?_⟩
      have e0 : zs.drop i = [] := by simp; omega
      simp only [loopG, nf25]
      rw [if_neg (by simp; omega)]
      simp only [Option.bind_some, e0, wsum]
      have e1 : i + 2 * ((zs.length - i + 1) / 2) = i := by omega
      rw [e1, Int.add_zero]

theorem nf25n (c : Nat) (ex : Bool) (s x at_ : Int) : roundG Try.prog c25 noLS (loopIn (bodyOf Try.prog 25) 0) m25 (v25 at_) (h12 [] none 0 c ex s x) =
    if decide (at_ < 0) = true then none else some (.exit 0, v25 at_, h12 [] none 0 c ex s x) := by
  kernel_rfl

theorem loops25 : loopsOf (bodyOf Try.prog 25) = [loopIn (bodyOf Try.prog 25) 0] := by kernel_rfl
theorem first25 : firstReg (loopIn (bodyOf Try.prog 25) 0) = 1 := by kernel_rfl
theorem inner25 : loopsOf (loopIn (bodyOf Try.prog 25) 0) = [] := by kernel_rfl
theorem loops22 : loopsOf (bodyOf Try.prog 22) = [] := by kernel_rfl
theorem loops12 : loopsOf (bodyOf Try.prog 12) = [] := by kernel_rfl

/-- What Sum is given. -/
structure In12 (zs : List Int) (b : Option (Nat × Nat)) (n : Nat) (s : Int) : Prop where
  bytes : ByteL zs
  len : n = zs.length
  small : zs.length ≤ 70368744177664
  at_ : b = some (0, 0) ∨ (b = none ∧ zs = [])
  s0 : 0 ≤ s
  s1 : s < 4294967296

noncomputable def g25 (zs : List Int) (b : Option (Nat × Nat)) (n c : Nat) (ex : Bool) (s : Int) : GLoop := fun vs h =>
  some (cdec (In12 zs b n s ∧ vs = v25 0 ∧ h = h12 zs b n c ex s (IntKind.u64.wrap s)), .exit 0, v25 ((2 * ((zs.length + 1) / 2) : Nat) : Int), h12 zs b n c ex s (IntKind.u64.wrap s + wsum zs))

noncomputable def ls25 (zs : List Int) (b : Option (Nat × Nat)) (n c : Nat) (ex : Bool) (s : Int) : LoopT := lsOf [(1, loopF m25 (g25 zs b n c ex s))]

theorem c25ok : SoundC Try.prog c25 := callOf_sound noCalls_sound (find_nil _)

theorem ok25 (zs : List Int) (b : Option (Nat × Nat)) (n c : Nat) (ex : Bool) (s : Int) : SoundE Try.prog 25 (bodyE Try.prog c25 (ls25 zs b n c ex s) 25) := by
  refine body_sound c25ok (loopsOk1 loops25 (by rw [first25]; rfl) ?_)
  refine loopF_sound c25ok (LS := noLS) (noLoops inner25) fun vs h e vs' h' hg => ?_
  unfold g25 at hg
  simp only [Option.some.injEq, Prod.mk.injEq] at hg
  obtain ⟨hc, rfl, rfl, rfl⟩ := hg
  rw [cdec_true] at hc
  obtain ⟨I, rfl, rfl⟩ := hc
  obtain ⟨hbytes, rfl, hsmall, hat, hs0, hs1⟩ := I
  have hw : IntKind.u64.wrap s = s := wrapU64 (by omega)
  rw [hw]
  rcases hat with rfl | ⟨rfl, rfl⟩
  · have := loop25 hbytes c ex s hsmall _ 0 s rfl (by omega) hs0 (by omega)
    simpa using this
  · refine ⟨1, ?_⟩
    simp only [loopG, List.length_nil, nf25n]
    rw [if_neg (by simp)]
    simp [wsum]

noncomputable def c12 (zs : List Int) (b : Option (Nat × Nat)) (n c : Nat) (ex : Bool) (s : Int) : CallT :=
  callOf Try.prog noCalls [(22, bodyE Try.prog noCalls noLS 22), (25, bodyE Try.prog c25 (ls25 zs b n c ex s) 25), (21, entF e21)]

theorem c12ok (zs : List Int) (b : Option (Nat × Nat)) (n c : Nat) (ex : Bool) (s : Int) : SoundC Try.prog (c12 zs b n c ex s) :=
  callOf_sound noCalls_sound (find_cons (body_sound noCalls_sound (loopsOk0 loops22)) (find_cons (ok25 zs b n c ex s) (find_cons s21 (find_nil _))))

theorem nf12 {R : Type} (zs : List Int) (b : Option (Nat × Nat)) (n c : Nat) (ex : Bool) (s : Int) (K : AV → AHeap → Option R) : abody Try.prog (c12 zs b n c ex s) noLS 12 [.sl b n c ex, .int .u32 s] [.cells (intsA .u8 zs) 1 .far none] K =
    if cdec (In12 zs b n s ∧ v25 0 = v25 0 ∧ h12 zs b n c ex s (IntKind.u64.wrap s) = h12 zs b n c ex s (IntKind.u64.wrap s)) = true then
      (if decide (0 ≤ IntKind.u64.wrap s + wsum zs ∧ IntKind.u64.wrap s + wsum zs < 9223372036854775808) = true then
        K (.int .u16 (foldI (IntKind.u64.wrap s + wsum zs))) ((h12 zs b n c ex s (IntKind.u64.wrap s + wsum zs)).set 3 (.lp { lp12 b n c ex s with st := .exhausted }))
      else none)
    else none := by
  kernel_rfl

/-- Sum. -/
noncomputable def e12 : GEnt := fun args h => match args with
  | [.sl b n _ _, .int .u32 s] => some (cdec (goodB h b n ∧ n ≤ 70368744177664 ∧ 0 ≤ s ∧ s < 4294967296), .int .u16 (foldI (s + wsum (rowI h b n))), h)
  | _ => none

theorem s12 : SoundE Try.prog 12 (entF e12) := by
  refine frameF_sound fun args h v h' hg => ?_
  unfold e12 at hg
  split at hg
  · rename_i b n c ex s
    simp only [Option.some.injEq, Prod.mk.injEq] at hg
    obtain ⟨hc, rfl, rfl⟩ := hg
    rw [cdec_true] at hc
    obtain ⟨hgood, hn, hs0, hs1⟩ := hc
    have hrow := hgood.row
    generalize rowI h b n = zs at hrow
    obtain ⟨hlen, hbytes, _⟩ := id hrow
    have hI : In12 zs (at1 b 0) n s := ⟨hbytes, hlen.symm, by omega, by
      cases b with
      | none => exact .inr ⟨rfl, List.eq_nil_of_length_eq_zero (by rw [hlen]; exact hgood.2 rfl)⟩
      | some q => exact .inl rfl, hs0, hs1⟩
    have hw : IntKind.u64.wrap s = s := wrapU64 (by omega)
    have hr := wsum_range hbytes
    refine ⟨_, body_sound (c12ok zs (at1 b 0) n c ex s) (loopsOk0 (LS := noLS) loops12), base1 b, [.sl (at1 b 0) n c ex, .int .u32 s], [.cells (intsA .u8 zs) 1 .far none], .int .u16 (foldI (s + wsum zs)),
      (h12 zs (at1 b 0) n c ex s (s + wsum zs)).set 3 (.lp { lp12 (at1 b 0) n c ex s with st := .exhausted }), [], [], ?_, less1 hrow hgood.2, ?_, rfl, by simp, by simp, fun j bl hj => by simp at hj, rfl⟩
    · rw [bodyE_get, nf12, hw, if_pos (cdec_true.2 ⟨hI, rfl, rfl⟩), if_pos (by simp; omega)]
    · cases b with
      | none => rfl
      | some q => obtain ⟨i, o⟩ := q; simp [at1, AV.rens, AV.ren, given, base1]
  · simp at hg

end Go.Proofs.Ythkicndbaaconaa.L3
