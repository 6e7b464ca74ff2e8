/- Memory told anew: values and blocks that keep their numbers. -/
import Derived.Test.YtejbipoibpefnaaBase
set_option autoImplicit false
set_option linter.unusedVariables false
namespace Go.Abs

mutual
def AV.upto (n : Nat) : AV → Bool
  | .ptr (some (i, _)) => decide (i < n)
  | .sl (some (i, _)) _ _ _ => decide (i < n)
  | .map (some i) => decide (i < n)
  | .fn (.yield i) [] => decide (i < n)
  | .fn (.func _) l => AV.uptos n l
  | .agg l => AV.uptos n l
  | .tup l => AV.uptos n l
  | .any => true
  | a => a.free
def AV.uptos (n : Nat) : List AV → Bool
  | [] => true
  | a :: l => AV.upto n a && AV.uptos n l
end

mutual
theorem AR.same {ρ : Nat → Option Nat} {n : Nat} (H : ∀ i, i < n → ρ i = some i) : ∀ {a : AV}, a.upto n = true → AR ρ a a
  | .any, _ => .any _
  | .bool _, _ => .free _ rfl
  | .int _ _, _ => .free _ rfl
  | .str _, _ => .free _ rfl
  | .ptr none, _ => .free _ rfl
  | .ptr (some (i, o)), h => .ptr _ _ _ (H _ (of_decide_eq_true h))
  | .sl none _ _ _, h => .free _ h
  | .sl (some (i, o)) _ _ _, h => .sl _ _ _ _ _ _ (H _ (of_decide_eq_true h))
  | .map none, h => .free _ h
  | .map (some i), h => .map _ _ (H _ (of_decide_eq_true h))
  | .fn (.yield i) [], h => .yld _ _ (H _ (of_decide_eq_true h))
  | .fn (.yield i) (_ :: _), h => .free _ h
  | .fn (.func _) l, h => .fn _ _ _ (ARs.same H h)
  | .fn (.method _) l, h => .free _ h
  | .fn (.methodOf _ _) l, h => .free _ h
  | .fn (.via _ _ _ _) l, h => .free _ h
  | .nilFn, _ => .free _ rfl
  | .agg l, h => .agg _ _ (ARs.same H h)
  | .tup l, h => .tup _ _ (ARs.same H h)
theorem ARs.same {ρ : Nat → Option Nat} {n : Nat} (H : ∀ i, i < n → ρ i = some i) : ∀ {l : List AV}, AV.uptos n l = true → ARs ρ l l
  | [], _ => .nil
  | a :: l, h => by
    simp only [AV.uptos, Bool.and_eq_true] at h
    exact .cons _ _ _ _ (AR.same H h.1) (ARs.same H h.2)
end

theorem BR.lpSame {ρ : Nat → Option Nat} {n : Nat} (H : ∀ i, i < n → ρ i = some i) {L : ALoop} (h : AV.uptos n L.env = true) : BR ρ (.lp L) (.lp L) := by
  cases L
  exact .lp _ _ _ _ _ _ _ (ARs.same H h)
theorem BR.keep {ρ : Nat → Option Nat} {n : Nat} (H : ∀ i, i < n → ρ i = some i) {vs : List AV} {e : Nat} {md : Md} (h : AV.uptos n vs = true) : BR ρ (.cells vs e md none) (.cells vs e md none) :=
  .cells _ _ _ _ _ _ (ARs.same H h) fun p j h1 => by simp at h1
theorem frees_ints {k : IntKind} : ∀ l : List Int, AV.frees (l.map (AV.int k)) = true
  | [] => rfl
  | _ :: l => by simp [AV.frees, AV.free, frees_ints l]
theorem BR.grown {ρ : Nat → Option Nat} {vs : List AV} {e p : Nat} {md : Md} (hf : AV.frees vs = true) (hp : ρ p = none) : BR ρ (.cells vs e md (some p)) (.cells vs e md none) :=
  .row hf fun q j h1 h2 => by cases h1; rw [hp] at h2; cases h2

theorem denRow {h1 : AHeap} {n0 m k n : Nat} {vs : List AV} {par : Option Nat} (hk : n0 ≤ k) (hb : h1[k]? = some (.cells vs 1 .own par)) (hn : vs.length = n) (hf : AV.frees vs = true) : Den h1 n0 m [some k] (.sl (some (k, 0)) n 0 false) (.sl (some (m, 0)) n 0 false) [.cells vs 1 .own none] := by
  subst hn
  have e : (vs.drop 0).take (vs.length * 1) = vs := by rw [List.drop_zero, Nat.mul_one, List.take_length]
  have := Den.row (h1 := h1) (n0 := n0) m k 0 vs.length 0 false vs 1 par hk (by omega) hb ⟨by simp [capOf], by simp [capOf]⟩ (fun h => ⟨List.eq_nil_of_length_eq_zero h, rfl⟩) (by rw [e]; exact hf)
  rw [e] at this
  exact this
theorem ksOkN2 {a b : Nat} (h : a ≠ b) : KsOk [some a, some b] := by
  intro i j k h1 h2
  match i, j with
  | 0, 0 => rfl
  | 1, 1 => rfl
  | 0, 1 => simp at h1 h2; omega
  | 1, 0 => simp at h1 h2; omega
  | i + 2, _ => simp at h1
  | 0, j + 2 => simp at h2
  | 1, j + 2 => simp at h2
theorem ksOkNo2 : KsOk [none, none] := by
  intro i j k h1 h2
  match i with
  | 0 => simp at h1
  | 1 => simp at h1
  | i + 2 => simp at h1

end Go.Abs
