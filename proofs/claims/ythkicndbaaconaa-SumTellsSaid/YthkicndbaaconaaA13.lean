/- SumTells: its law. -/
import Derived.Test.YthkicndbaaconaaA12
set_option autoImplicit false
set_option maxRecDepth 100000
namespace Go.Proofs.Ythkicndbaaconaa.L3
open Go.Abs

theorem nf3 {R : Type} (b : Option (Nat × Nat)) (n c : Nat) (ex : Bool) (s old : Int) (b1 : Option (Nat × Nat)) (n1 c1 : Nat) (e1 : Bool) (b2 : Option (Nat × Nat)) (n2 c2 : Nat) (e2 : Bool) (hp : AHeap) (K : AV → Option R) :
    abody Try.prog cT noLS 3 [.sl b n c ex, .int .u32 s, .int .u16 old, .sl b1 n1 c1 e1, .sl b2 n2 c2 e2] hp (fun v _ => K v) =
    (let t := IntKind.u16.wrap (s.fdiv 65536)
     let l := IntKind.u16.wrap s
     let S := foldI (s + wsum (rowI hp b n))
     let C := foldI (0 + wsum (rowI hp b n))
    (if decide ((n : Int) > 2000) = true then K (.bool true)
    else (if decide ((n1 : Int) > 100) = true then K (.bool true)
      else (if decide ((n2 : Int) > 100) = true then K (.bool true)
        else (if decide (w16 old ∧ w16 t ∧ w16 l) = true then
            (if cdec (goodB hp b n ∧ n ≤ 70368744177664 ∧ 0 ≤ s ∧ s < 4294967296) = true then
              (if cdec (goodB hp b n ∧ n ≤ 70368744177664 ∧ 0 ≤ s ∧ s < 4294967296) = true then
                (if (IntKind.i64.wrap S == S) = true then
                  (if cdec (goodB hp b n ∧ n ≤ 70368744177664 ∧ (0 : Int) ≤ 0 ∧ (0 : Int) < 4294967296) = true then
                    (if cdec (goodB hp b n ∧ n ≤ 70368744177664 ∧ (0 : Int) ≤ 0 ∧ (0 : Int) < 4294967296) = true then
                      (if (IntKind.i64.wrap (abits .u16 (· ^^^ ·) 65535 C) == IntKind.i64.wrap (65535 - C)) = true then
                        (if cdec (goodB hp b1 n1 ∧ goodB hp b2 n2 ∧ w16 old ∧ n2 ≤ c2 ∧ n2 ≤ 70368744177664) = true then
                          (if cdec (goodB hp b1 n1 ∧ goodB hp b2 n2 ∧ w16 (IntKind.i64.wrap old) ∧ n1 ≤ 70368744177664) = true then
                            (if (IntKind.i64.wrap (chgI old (rowI hp b1 n1) (rowI hp b2 n2)) == chgI (IntKind.i64.wrap old) (rowI hp b1 n1) (rowI hp b2 n2)) = true then
                              (if decide (w16 (IntKind.i64.wrap old) ∧ w16 (IntKind.i64.wrap t) ∧ w16 (IntKind.i64.wrap l)) = true then
                                (if (IntKind.i64.wrap (updI old t l) == updI (IntKind.i64.wrap old) (IntKind.i64.wrap t) (IntKind.i64.wrap l)) = true then K (.bool true) else K (.bool false))
                              else none)
                            else K (.bool false))
                          else none)
                        else none)
                      else K (.bool false))
                    else none)
                  else none)
                else K (.bool false))
              else none)
            else none)
          else none))))) := by
  kernel_rfl

theorem i64_16 {n : Int} (h : w16 n) : IntKind.i64.wrap n = n := by unfold w16 at h; exact wrapI64 (by omega)

theorem chgI_range {o : Int} (zs ts : List Int) (h : w16 o) : w16 (chgI o zs ts) := by
  unfold chgI
  split
  · exact chg_range _ _ _ h
  · exact h

theorem law3 {b b1 b2 : Option (Nat × Nat)} {n c n1 c1 n2 c2 : Nat} {ex e1 e2 : Bool} {s old : Int} {hp : AHeap} (g : goodB hp b n) (g1 : goodB hp b1 n1) (g2 : goodB hp b2 n2) (hs : 0 ≤ s ∧ s < 4294967296) (ho : w16 old)
    (h2 : n2 ≤ c2) :
    abody Try.prog cT noLS 3 [.sl b n c ex, .int .u32 s, .int .u16 old, .sl b1 n1 c1 e1, .sl b2 n2 c2 e2] hp (fun v _ => some v) = some (.bool true) := by
  rw [nf3]
  simp only
  by_cases k0 : n ≤ 2000
  case neg => rw [if_pos (by simp; omega)]
  by_cases k1 : n1 ≤ 100
  case neg => rw [if_neg (by simp; omega), if_pos (by simp; omega)]
  by_cases k2 : n2 ≤ 100
  case neg => rw [if_neg (by simp; omega), if_neg (by simp; omega), if_pos (by simp; omega)]
  have w1 : w16 (IntKind.u16.wrap (s.fdiv 65536)) := by rw [wrapU16']; unfold w16; omega
  have w2 : w16 (IntKind.u16.wrap s) := by rw [wrapU16']; unfold w16; omega
  have f1 : w16 (foldI (s + wsum (rowI hp b n))) := foldI_range _
  have f2 := foldI_range (0 + wsum (rowI hp b n))
  have x1 := xor16 f2
  have u := updI_range old (IntKind.u16.wrap (s.fdiv 65536)) (IntKind.u16.wrap s)
  have cr := chgI_range (rowI hp b1 n1) (rowI hp b2 n2) ho
  rw [i64_16 ho, i64_16 w1, i64_16 w2, i64_16 f1, i64_16 u, i64_16 cr, x1]
  rw [if_neg (by simp; omega), if_neg (by simp; omega), if_neg (by simp; omega), if_pos (decide_eq_true ⟨ho, w1, w2⟩), if_pos (cdec_true.2 ⟨g, by omega, hs.1, hs.2⟩), if_pos (cdec_true.2 ⟨g, by omega, hs.1, hs.2⟩), if_pos (by simp),
    if_pos (cdec_true.2 ⟨g, by omega, by omega, by omega⟩), if_pos (cdec_true.2 ⟨g, by omega, by omega, by omega⟩), if_pos (by simp), if_pos (cdec_true.2 ⟨g1, g2, ho, h2, by omega⟩), if_pos (cdec_true.2 ⟨g1, g2, ho, by omega⟩), if_pos (by simp),
    if_pos (decide_eq_true ⟨ho, w1, w2⟩), if_pos (by simp)]

end Go.Proofs.Ythkicndbaaconaa.L3
