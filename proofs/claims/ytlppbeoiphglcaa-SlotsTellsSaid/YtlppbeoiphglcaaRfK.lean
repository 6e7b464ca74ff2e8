/- The reference's Fill: its first walk. -/
import Derived.Test.YtlppbeoiphglcaaRfP
set_option autoImplicit false
set_option maxRecDepth 100000
set_option linter.unusedVariables false
set_option linter.unusedSimpArgs false
namespace Go.Proofs.Ytlppbeoiphglcaa.L
open Go Go.Abs

def kpL (n : Nat) (f : Nat → Bool) : List AV := (List.range n).map fun x => AV.bool (f x)
@[simp] theorem kpL_len (n : Nat) (f : Nat → Bool) : (kpL n f).length = n := by simp [kpL]
theorem kpL_at {n i : Nat} {f : Nat → Bool} (hi : i < n) : (kpL n f)[0 + (i : Int).toNat * 1]? = some (.bool (f i)) := by
  rw [show 0 + (i : Int).toNat * 1 = i from by omega]; simp [kpL, hi]
theorem kpL_congr {n : Nat} {f g : Nat → Bool} (h : ∀ x, x < n → f x = g x) : kpL n f = kpL n g := by
  unfold kpL
  exact List.map_congr_left fun x hx => by rw [h x (List.mem_range.1 hx)]
theorem kpL_put {n i : Nat} {f : Nat → Bool} (hi : i < n) : putCells (kpL n f) (0 + (i : Int).toNat * 1) [.bool true] = kpL n (fun x => decide (x = i) || f x) := by
  rw [show 0 + (i : Int).toNat * 1 = i from by omega]
  show (kpL n f).set i (.bool true) = _
  refine List.ext_getElem (by simp) fun x h1 h2 => ?_
  rw [List.getElem_set]
  simp only [kpL, List.getElem_map, List.getElem_range]
  by_cases e : i = x
  · subst e; simp
  · rw [if_neg e, decide_eq_false (fun h => e h.symm), Bool.false_or]
theorem zrep_kp (n : Nat) : zrep n [AV.bool false] = kpL n fun _ => false := by
  unfold kpL
  induction n with
  | zero => rfl
  | succ n ih => rw [zrep_succ, ih, List.range_succ_eq_map]; simp

end Go.Proofs.Ytlppbeoiphglcaa.L
