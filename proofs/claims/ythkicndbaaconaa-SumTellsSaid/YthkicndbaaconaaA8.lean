/- SumOrder: its run; its law. -/
import Derived.Test.YthkicndbaaconaaA7
set_option autoImplicit false
set_option maxRecDepth 100000
namespace Go.Proofs.Ythkicndbaaconaa.L3
open Go.Abs

noncomputable def cO : CallT := callOf Try.prog noCalls [(10, entF e10), (20, entF e20), (16, entF e16), (9, entF e9)]
theorem cOok : SoundC Try.prog cO := callOf_sound noCalls_sound (find_cons s10 (find_cons s20 (find_cons s16 (find_cons s9 (find_nil _)))))

def two (a c : Int) : List Int := [IntKind.u8.wrap (a.fdiv 256), IntKind.u8.wrap a, IntKind.u8.wrap (c.fdiv 256), IntKind.u8.wrap c]
def hO (a b c d : Int) : AHeap := [.cells (intsA .u8 (two a c)) 1 .own none, .cells (intsA .u8 (two b d)) 1 .own none]

theorem nf8 {R : Type} (old a b c d : Int) (K : AV → Option R) : abody Try.prog cO noLS 8 [.int .u16 old, .int .u16 a, .int .u16 b, .int .u16 c, .int .u16 d] [] (fun v _ => K v) =
    (let x := updI (updI old a b) c d
     let y := updI (updI old c d) a b
     let z := updI (updI old a b) b a
     let H := hO a b c d
    if decide (w16 old ∧ w16 a ∧ w16 b) = true then
    (if decide (w16 (updI old a b) ∧ w16 c ∧ w16 d) = true then
    (if decide (w16 old ∧ w16 c ∧ w16 d) = true then
    (if decide (w16 (updI old c d) ∧ w16 a ∧ w16 b) = true then
    (if decide (w16 old ∧ w16 a ∧ w16 b) = true then
    (if decide (w16 (updI old a b) ∧ w16 b ∧ w16 a) = true then
      (if sameI x y = true then
        (if sameI z old = true then
          (if cdec (goodB H (some (0, 0)) 4 ∧ goodB H (some (1, 0)) 4 ∧ w16 old ∧ 4 ≤ 4 ∧ 4 ≤ 70368744177664) = true then
            (if (chgI old (rowI H (some (0, 0)) 4) (rowI H (some (1, 0)) 4) == x) = true then
              (if cdec (goodB H (some (0, 0)) 4 ∧ goodB H (some (1, 0)) 2 ∧ w16 old ∧ 2 ≤ 4 ∧ 2 ≤ 70368744177664) = true then
                (if (chgI old (rowI H (some (0, 0)) 4) (rowI H (some (1, 0)) 2) == old) = true then K (.bool true) else K (.bool false))
              else none)
            else K (.bool false))
          else none)
        else K (.bool false))
      else K (.bool false))
    else none) else none) else none) else none) else none) else none) := by
  kernel_rfl

theorem foldI_mod (n : Int) : foldI n % 65535 = n % 65535 := by
  unfold foldI
  split
  · rename_i h; rw [h]
  · omega

theorem same_of {a b : Int} (ha : w16 a) (hb : w16 b) (h : a % 65535 = b % 65535) : sameI a b = true := by
  unfold w16 at ha hb
  unfold sameI
  have e1 : a.tmod 65535 = a % 65535 := by rw [Int.tmod_eq_emod_of_nonneg ha.1]
  have e2 : b.tmod 65535 = b % 65535 := by rw [Int.tmod_eq_emod_of_nonneg hb.1]
  simp [e1, e2, h]

theorem bytesTwo (a c : Int) : ByteL (two a c) := by
  intro z hz
  simp only [two, List.mem_cons, List.not_mem_nil, or_false] at hz
  rcases hz with rfl | rfl | rfl | rfl <;> rw [wrapU8'] <;> omega

theorem law8 {old a b c d : Int} (ho : w16 old) (ha : w16 a) (hb : w16 b) (hc : w16 c) (hd : w16 d) :
    abody Try.prog cO noLS 8 [.int .u16 old, .int .u16 a, .int .u16 b, .int .u16 c, .int .u16 d] [] (fun v _ => some v) = some (.bool true) := by
  have u := updI_range
  have m := foldI_mod
  have e1 : sameI (updI (updI old a b) c d) (updI (updI old c d) a b) = true := by
    refine same_of (u _ _ _) (u _ _ _) ?_
    have m1 := m (65535 - updI old a b + (65535 - c) + d)
    have m2 := m (65535 - updI old c d + (65535 - a) + b)
    have m3 := m (65535 - old + (65535 - a) + b)
    have m4 := m (65535 - old + (65535 - c) + d)
    simp only [updI] at *
    omega
  have e2 : sameI (updI (updI old a b) b a) old = true := by
    refine same_of (u _ _ _) ho ?_
    have m1 := m (65535 - updI old a b + (65535 - b) + a)
    have m3 := m (65535 - old + (65535 - a) + b)
    simp only [updI] at *
    omega
  have g1 : goodB (hO a b c d) (some (0, 0)) 4 := ⟨⟨two a c, rfl, bytesTwo a c, _, _, _, _, rfl, by simp [intsA, two], rfl⟩, by simp⟩
  have g2 : goodB (hO a b c d) (some (1, 0)) 4 := ⟨⟨two b d, rfl, bytesTwo b d, _, _, _, _, rfl, by simp [intsA, two], rfl⟩, by simp⟩
  have g3 : goodB (hO a b c d) (some (1, 0)) 2 := ⟨⟨(two b d).take 2, rfl, fun z hz => bytesTwo b d z (List.mem_of_mem_take hz), _, _, _, _, rfl, by simp [intsA, two], rfl⟩, by simp⟩
  have word : ∀ n : Int, w16 n → IntKind.u8.wrap (n.fdiv 256) * 256 + IntKind.u8.wrap n = n := by
    intro n hn
    unfold w16 at hn
    rw [wrapU8', wrapU8', Int.fdiv_eq_ediv_of_nonneg _ (by omega)]
    omega
  have r1 : chgI old (rowI (hO a b c d) (some (0, 0)) 4) (rowI (hO a b c d) (some (1, 0)) 4) = updI (updI old a b) c d := by
    show chgI old (two a c) (two b d) = _
    rw [chgI, if_pos ⟨rfl, by simp [two]⟩]
    simp only [two, chg, word a ha, word b hb, word c hc, word d hd]
  have r2 : chgI old (rowI (hO a b c d) (some (0, 0)) 4) (rowI (hO a b c d) (some (1, 0)) 2) = old := by
    show chgI old (two a c) ((two b d).take 2) = _
    rw [chgI, if_neg (by simp [two])]
  rw [nf8]
  simp only [r1, r2]
  rw [if_pos (decide_eq_true ⟨ho, ha, hb⟩), if_pos (decide_eq_true ⟨u _ _ _, hc, hd⟩), if_pos (decide_eq_true ⟨ho, hc, hd⟩), if_pos (decide_eq_true ⟨u _ _ _, ha, hb⟩), if_pos (decide_eq_true ⟨ho, ha, hb⟩), if_pos (decide_eq_true ⟨u _ _ _, hb, ha⟩),
    if_pos e1, if_pos e2, if_pos (cdec_true.2 ⟨g1, g2, ho, by omega, by omega⟩), if_pos (by simp), if_pos (cdec_true.2 ⟨g1, g3, ho, by omega, by omega⟩), if_pos (by simp)]

theorem r8 : SoundE Try.prog 8 (bodyE Try.prog cO noLS 8) := body_sound cOok (loopsOk0 loops8)

end Go.Proofs.Ythkicndbaaconaa.L3
