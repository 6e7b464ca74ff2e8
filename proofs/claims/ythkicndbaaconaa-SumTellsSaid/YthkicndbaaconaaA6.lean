/- chksum's Change. -/
import Derived.Test.YthkicndbaaconaaA5
set_option autoImplicit false
set_option maxRecDepth 100000
namespace Go.Proofs.Ythkicndbaaconaa.L3
open Go.Abs

noncomputable def cY : CallT := callOf Try.prog noCalls [(23, entF e23), (10, entF e10)]
theorem cYok : SoundC Try.prog cY := callOf_sound noCalls_sound (find_cons s23 (find_cons s10 (find_nil _)))
noncomputable def c25g : CallT := callOf Try.prog cY []
theorem c25gok : SoundC Try.prog c25g := callOf_sound cYok (find_nil _)

noncomputable def env16 (old : Int) (b : Option (Nat × Nat)) (n c : Nat) (ex : Bool) (bt : Option (Nat × Nat)) (nt ct : Nat) (et : Bool) : Env :=
  [.int .u16 old, .sl b n c ex, .sl bt nt ct et, .ptr (some (2, 0)), .tup [], .ptr (some (3, 0)), .int .u16 0, .tup [], .tup [], .tup [], .tup [],
   .sl b n c ex, .int .i64 n, .sl bt nt ct et, .int .i64 nt, .bool ((n : Int) != (nt : Int)), .bool false, .sl b n c ex, .int .i64 n, .int .i64 ((n : Int).tmod 2), .bool ((n : Int).tmod 2 != 0),
   .bool ((n : Int).tmod 2 != 0), .tup [], .sl b n c ex, .fn (.func 25) [.ptr (some (4, 0))]] ++ List.replicate 13 (.tup [])

noncomputable def lp16 (old : Int) (b : Option (Nat × Nat)) (n c : Nat) (ex : Bool) (bt : Option (Nat × Nat)) (nt ct : Nat) (et : Bool) : ALoop :=
  { st := .ready, pend := none, env := env16 old b n c ex bt nt ct et, ps := [25, 26], asg := (rangeIn (bodyOf Try.prog 16) 0).1, body := (rangeIn (bodyOf Try.prog 16) 0).2 }

noncomputable def h16 (zs ts : List Int) (old : Int) (b : Option (Nat × Nat)) (n c : Nat) (ex : Bool) (bt : Option (Nat × Nat)) (nt ct : Nat) (et : Bool) (st : LoopState) (x : Int) : AHeap :=
  [.cells (intsA .u8 zs) 1 .far none, .cells (intsA .u8 ts) 1 .far none, .cells [.int .u16 x] 1 .own none, .cells [.sl bt nt ct et] 1 .own none, .cells [.sl b n c ex] 1 .own none,
   .lp { lp16 old b n c ex bt nt ct et with st := st }]

def w25 (at_ : Int) : List AV := [.fn (.yield 5) [], .ptr (some (4, 0)), .int .i64 at_]

theorem nf25c (zs ts : List Int) (old : Int) (n c : Nat) (ex : Bool) (bt : Option (Nat × Nat)) (nt ct : Nat) (et : Bool) (x at_ : Int) :
    roundG Try.prog c25g noLS (loopIn (bodyOf Try.prog 25) 0) m25 (w25 at_) (h16 zs ts old (some (0, 0)) n c ex bt nt ct et .ready x) =
    (let w := abits .u16 (· ||| ·) (IntKind.u16.wrap (IntKind.u16.wrap (intV (intsA .u8 zs)[0 + at_.toNat * 1]?) * 256)) (IntKind.u16.wrap (intV (intsA .u8 zs)[0 + (IntKind.i64.wrap (at_ + 1)).toNat * 1]?))
     let w1 := IntKind.u16.wrap (IntKind.u16.wrap (intV (intsA .u8 zs)[0 + at_.toNat * 1]?) * 256)
     let hb := h16 zs ts old (some (0, 0)) n c ex bt nt ct et .busy x
     let v := if 0 ≤ at_ ∧ at_ + 2 ≤ (nt : Int) then wordI (rowI hb bt nt) at_.toNat else 0
    if decide (at_ < (n : Int)) = true then
      (if 0 ≤ at_ ∧ at_ < (n : Int) then
        (if isIntV .u8 (intsA .u8 zs)[0 + at_.toNat * 1]? = true then
          (if decide (IntKind.i64.wrap (at_ + 1) < (n : Int)) = true then
            (if 0 ≤ IntKind.i64.wrap (at_ + 1) ∧ IntKind.i64.wrap (at_ + 1) < (n : Int) then
              (if isIntV .u8 (intsA .u8 zs)[0 + (IntKind.i64.wrap (at_ + 1)).toNat * 1]? = true then
                (if cdec (goodB hb bt nt ∧ nt ≤ ct ∧ nt ≤ 70368744177664) = true then
                  (if decide (w16 x ∧ w16 w ∧ w16 v) = true then
                    some (.norm, w25 (IntKind.i64.wrap (at_ + 2)), h16 zs ts old (some (0, 0)) n c ex bt nt ct et .ready (updI x w v))
                  else none)
                else none)
              else none)
            else none)
          else
            (if cdec (goodB hb bt nt ∧ nt ≤ ct ∧ nt ≤ 70368744177664) = true then
              (if decide (w16 x ∧ w16 w1 ∧ w16 v) = true then
                some (.norm, w25 (IntKind.i64.wrap (at_ + 2)), h16 zs ts old (some (0, 0)) n c ex bt nt ct et .ready (updI x w1 v))
              else none)
            else none))
        else none)
      else none)
    else some (.exit 0, w25 at_, h16 zs ts old (some (0, 0)) n c ex bt nt ct et .ready x)) := by
  kernel_rfl

/-- A checksum, changed word by word. -/
def chg : Int → List Int → List Int → Int
  | o, a :: b :: r, c :: d :: s => chg (updI o (a * 256 + b) (c * 256 + d)) r s
  | o, _, _ => o

theorem chg_drop {x : Int} {zs ts : List Int} {i : Nat} (h1 : i + 1 < zs.length) (h2 : i + 1 < ts.length) : chg x (zs.drop i) (ts.drop i) = chg (updI x (wordI zs i) (wordI ts i)) (zs.drop (i + 2)) (ts.drop (i + 2)) := by
  rw [List.drop_eq_getElem_cons (show i < zs.length by omega), List.drop_eq_getElem_cons h1, List.drop_eq_getElem_cons (show i < ts.length by omega), List.drop_eq_getElem_cons h2]
  simp only [chg, wordI, List.getD_eq_getElem?_getD, List.getElem?_eq_getElem h1, List.getElem?_eq_getElem h2, List.getElem?_eq_getElem (show i < zs.length by omega), List.getElem?_eq_getElem (show i < ts.length by omega), Option.getD_some]

theorem updI_range (o f t : Int) : w16 (updI o f t) := by
  have := foldI_range ((65535 - o) + (65535 - f) + t)
  unfold updI w16; omega

theorem chg_range : ∀ (zs ts : List Int) (x : Int), w16 x → w16 (chg x zs ts)
  | a :: b :: r, c :: d :: s, x, _ => by simp only [chg]; exact chg_range r s _ (updI_range _ _ _)
  | [], _, x, h => by simpa [chg] using h
  | [_], _, x, h => by simpa [chg] using h
  | _ :: _ :: _, [], x, h => by simpa [chg] using h
  | _ :: _ :: _, [_], x, h => by simpa [chg] using h

/-- What Change is given, where it walks. -/
structure In16 (zs ts : List Int) (b : Option (Nat × Nat)) (n : Nat) (bt : Option (Nat × Nat)) (nt ct : Nat) (old : Int) : Prop where
  z : ByteL zs
  t : ByteL ts
  len : n = zs.length
  lent : nt = ts.length
  same : zs.length = ts.length
  even : zs.length % 2 = 0
  le : nt ≤ ct
  small : nt ≤ 70368744177664
  at_ : b = some (0, 0) ∨ (b = none ∧ zs = [])
  att : bt = some (1, 0) ∨ (bt = none ∧ ts = [])
  o : w16 old

theorem good16 {zs ts : List Int} (ht : ByteL ts) {old : Int} {b : Option (Nat × Nat)} {n c : Nat} {ex : Bool} {ct : Nat} {et : Bool} {st : LoopState} {x : Int} :
    goodB (h16 zs ts old b n c ex (some (1, 0)) ts.length ct et st x) (some (1, 0)) ts.length ∧ rowI (h16 zs ts old b n c ex (some (1, 0)) ts.length ct et st x) (some (1, 0)) ts.length = ts := by
  have e1 : ((intsA .u8 ts).drop 0).take ts.length = intsA .u8 ts := by
    rw [List.drop_zero, List.take_of_length_le (by rw [intsA_length]; exact Nat.le_refl _)]
  refine ⟨⟨⟨ts, rfl, ht, intsA .u8 ts, 1, .far, none, rfl, by rw [intsA_length]; omega, e1⟩, by simp⟩, ?_⟩
  show (((intsA .u8 ts).drop 0).take ts.length).map intD = ts
  rw [e1, map_intD]

theorem loopC {zs ts : List Int} (hz : ByteL zs) (ht : ByteL ts) (hs : zs.length = ts.length) (he : zs.length % 2 = 0) (old : Int) (c : Nat) (ex : Bool) (ct : Nat) (et : Bool) (hle : ts.length ≤ ct) (hct : ts.length ≤ 70368744177664) :
    ∀ (k i : Nat) (x : Int), zs.length - i = k → i ≤ zs.length → i % 2 = 0 → w16 x →
    ∃ j, loopG (roundG Try.prog c25g noLS (loopIn (bodyOf Try.prog 25) 0) m25) j (w25 i) (h16 zs ts old (some (0, 0)) zs.length c ex (some (1, 0)) ts.length ct et .ready x) =
      some (.exit 0, w25 (zs.length : Int), h16 zs ts old (some (0, 0)) zs.length c ex (some (1, 0)) ts.length ct et .ready (chg x (zs.drop i) (ts.drop i))) := by
  intro k
  induction k using Nat.strongRecOn with
  | _ k ih =>
    intro i x hk hi hev hx
    by_cases hlt : i < zs.length
    · have hlt2 : i + 1 < zs.length := by omega
      have h1 : (i : Int) < (zs.length : Int) := by omega
      have w1 : IntKind.i64.wrap ((i : Int) + 1) = (i : Int) + 1 := wrapI64 (by omega)
      have w2 : IntKind.i64.wrap ((i : Int) + 2) = ((i + 2 : Nat) : Int) := by rw [wrapI64 (by omega)]; omega
      have t1 : 0 + (i : Int).toNat * 1 = i := by omega
      have t2 : 0 + ((i : Int) + 1).toNat * 1 = i + 1 := by omega
      have g1 := hz.get i
      have g2 := hz.get (i + 1)
      have a1 : IntKind.u16.wrap (zs.getD i 0) = zs.getD i 0 := wrapU16 (by omega)
      have a2 : IntKind.u16.wrap (zs.getD i 0 * 256) = zs.getD i 0 * 256 := wrapU16 (by omega)
      have a3 : IntKind.u16.wrap (zs.getD (i + 1) 0) = zs.getD (i + 1) 0 := wrapU16 (by omega)
      have gd := @good16 zs ts ht old (some (0, 0)) zs.length c ex ct et .busy x
      have hv : (0 ≤ (i : Int) ∧ (i : Int) + 2 ≤ (ts.length : Int)) := by omega
      have hn : (i : Int).toNat = i := by omega
      have t3 : 0 + i * 1 = i := by omega
      have hstep : roundG Try.prog c25g noLS (loopIn (bodyOf Try.prog 25) 0) m25 (w25 i) (h16 zs ts old (some (0, 0)) zs.length c ex (some (1, 0)) ts.length ct et .ready x) =
          some (.norm, w25 ((i + 2 : Nat) : Int), h16 zs ts old (some (0, 0)) zs.length c ex (some (1, 0)) ts.length ct et .ready (updI x (wordI zs i) (wordI ts i))) := by
        rw [nf25c]
        simp only [w1, w2, t2, intV_ints, a1, a2, a3, or16 g1 g2, gd.2, if_pos hv, hn, t3]
        rw [if_pos (by simpa using h1), if_pos ⟨by omega, h1⟩, if_pos (isIntV_ints hlt), if_pos (by simp; omega), if_pos ⟨by omega, by omega⟩, if_pos (isIntV_ints hlt2), if_pos (cdec_true.2 ⟨gd.1, hle, hct⟩),
          if_pos (decide_eq_true ⟨hx, wordI_range hz i, wordI_range ht i⟩)]
        rfl
      obtain ⟨j, hj⟩ := ih (zs.length - (i + 2)) (by omega) (i + 2) (updI x (wordI zs i) (wordI ts i)) rfl (by omega) (by omega) (updI_range _ _ _)
      refine ⟨j + 1, ?_⟩
      simp only [loopG, hstep, Option.bind_some]
      rw [hj, chg_drop hlt2 (by omega)]
    · refine ⟨1, ?_⟩
      have hie : i = zs.length := by omega
      subst hie
      have e1 : zs.drop zs.length = [] := by simp
      have e2 : ts.drop zs.length = [] := by rw [hs]; simp
      simp only [loopG, nf25c]
      rw [if_neg (by simp)]
      simp only [Option.bind_some, e1, e2, chg]

noncomputable def gC (zs ts : List Int) (old : Int) (b : Option (Nat × Nat)) (n c : Nat) (ex : Bool) (bt : Option (Nat × Nat)) (nt ct : Nat) (et : Bool) : GLoop := fun vs h =>
  some (cdec (In16 zs ts b n bt nt ct old ∧ vs = w25 0 ∧ h = h16 zs ts old b n c ex bt nt ct et .ready old), .exit 0, w25 n, h16 zs ts old b n c ex bt nt ct et .ready (chg old zs ts))

noncomputable def lsC (zs ts : List Int) (old : Int) (b : Option (Nat × Nat)) (n c : Nat) (ex : Bool) (bt : Option (Nat × Nat)) (nt ct : Nat) (et : Bool) : LoopT := lsOf [(1, loopF m25 (gC zs ts old b n c ex bt nt ct et))]

theorem nf25cn (ts : List Int) (old : Int) (c : Nat) (ex : Bool) (bt : Option (Nat × Nat)) (nt ct : Nat) (et : Bool) (x at_ : Int) :
    roundG Try.prog c25g noLS (loopIn (bodyOf Try.prog 25) 0) m25 (w25 at_) (h16 [] ts old none 0 c ex bt nt ct et .ready x) =
    if decide (at_ < 0) = true then none else some (.exit 0, w25 at_, h16 [] ts old none 0 c ex bt nt ct et .ready x) := by
  kernel_rfl

theorem nf25ce (ts : List Int) (old : Int) (c : Nat) (ex : Bool) (bt : Option (Nat × Nat)) (nt ct : Nat) (et : Bool) (x : Int) :
    roundG Try.prog c25g noLS (loopIn (bodyOf Try.prog 25) 0) m25 (w25 0) (h16 [] ts old (some (0, 0)) 0 c ex bt nt ct et .ready x) =
    some (.exit 0, w25 0, h16 [] ts old (some (0, 0)) 0 c ex bt nt ct et .ready x) := by
  kernel_rfl

theorem okC (zs ts : List Int) (old : Int) (b : Option (Nat × Nat)) (n c : Nat) (ex : Bool) (bt : Option (Nat × Nat)) (nt ct : Nat) (et : Bool) : SoundE Try.prog 25 (bodyE Try.prog c25g (lsC zs ts old b n c ex bt nt ct et) 25) := by
  refine body_sound c25gok (loopsOk1 loops25 (by rw [first25]; rfl) ?_)
  refine loopF_sound c25gok (LS := noLS) (noLoops inner25) fun vs h e vs' h' hg => ?_
  unfold gC at hg
  simp only [Option.some.injEq, Prod.mk.injEq] at hg
  obtain ⟨hc, rfl, rfl, rfl⟩ := hg
  rw [cdec_true] at hc
  obtain ⟨I, rfl, rfl⟩ := hc
  obtain ⟨hz, ht, rfl, rfl, hs, he, hle, hct, hb, hbt, ho⟩ := I
  by_cases hzs : zs = []
  · subst hzs
    have hts : ts = [] := List.eq_nil_of_length_eq_zero (by simpa using hs.symm)
    subst hts
    refine ⟨1, ?_⟩
    rcases hb with rfl | ⟨rfl, _⟩
    · simp only [loopG, List.length_nil, nf25ce]
      simp [chg]
    · simp only [loopG, List.length_nil, nf25cn]
      rw [if_neg (by simp)]
      simp [chg]
  · have hts : ts ≠ [] := by rintro rfl; apply hzs; exact List.eq_nil_of_length_eq_zero (by simpa using hs)
    rcases hb with rfl | ⟨_, h0⟩
    · rcases hbt with rfl | ⟨_, h0⟩
      · simpa using loopC hz ht hs he old c ex ct et hle hct _ 0 old rfl (by omega) rfl ho
      · exact absurd h0 hts
    · exact absurd h0 hzs

end Go.Proofs.Ythkicndbaaconaa.L3
