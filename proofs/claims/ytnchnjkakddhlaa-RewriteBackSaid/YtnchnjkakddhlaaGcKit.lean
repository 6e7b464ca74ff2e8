/- Memory told anew: values and blocks that keep their numbers. -/
import Derived.Test.YtnchnjkakddhlaaBase
set_option autoImplicit false
set_option linter.unusedVariables false
namespace Go.Abs

mutual
def AV.upto (n : Nat) : AV → Bool
 | .ptr (some (i, _)) => decide (i < n)
 | .sl (some (i, _)) _ _ _ => decide (i < n)
 | .map (some i) => decide (i < n)
 | .fn (.yield i) [] => decide (i < n)
 | .fn (.func _) l => AV.uptos n l
 | .agg l => AV.uptos n l
 | .tup l => AV.uptos n l
 | .any => true
 | a => a.free
def AV.uptos (n : Nat) : List AV → Bool
 | [] => true
 | a :: l => AV.upto n a && AV.uptos n l
end

mutual
theorem AR.same {ρ : Nat → Option Nat} {n : Nat} (H : ∀ i, i < n → ρ i = some i) : ∀ {a : AV}, a.upto n = true → AR ρ a a
 | .any, _ => .any _
 | .bool _, _ => .free _ rfl
 | .int _ _, _ => .free _ rfl
 | .str _, _ => .free _ rfl
 | .ptr none, _ => .free _ rfl
 | .ptr (some (i, o)), h => .ptr _ _ _ (H _ (of_decide_eq_true h))
 | .sl none _ _ _, h => .free _ h
 | .sl (some (i, o)) _ _ _, h => .sl _ _ _ _ _ _ (H _ (of_decide_eq_true h))
 | .map none, h => .free _ h
 | .map (some i), h => .map _ _ (H _ (of_decide_eq_true h))
 | .fn (.yield i) [], h => .yld _ _ (H _ (of_decide_eq_true h))
 | .fn (.yield i) (_ :: _), h => .free _ h
 | .fn (.func _) l, h => .fn _ _ _ (ARs.same H h)
 | .fn (.method _) l, h => .free _ h
 | .fn (.methodOf _ _) l, h => .free _ h
 | .fn (.via _ _ _ _) l, h => .free _ h
 | .nilFn, _ => .free _ rfl
 | .agg l, h => .agg _ _ (ARs.same H h)
 | .tup l, h => .tup _ _ (ARs.same H h)
theorem ARs.same {ρ : Nat → Option Nat} {n : Nat} (H : ∀ i, i < n → ρ i = some i) : ∀ {l : List AV}, AV.uptos n l = true → ARs ρ l l
 | [], _ => .nil
 | a :: l, h => by
  simp only [AV.uptos, Bool.and_eq_true] at h
  exact .cons _ _ _ _ (AR.same H h.1) (ARs.same H h.2)
end

theorem BR.lpSame {ρ : Nat → Option Nat} {n : Nat} (H : ∀ i, i < n → ρ i = some i) {L : ALoop} (h : AV.uptos n L.env = true) : BR ρ (.lp L) (.lp L) := by
 cases L
 exact .lp _ _ _ _ _ _ _ (ARs.same H h)
theorem BR.keep {ρ : Nat → Option Nat} {n : Nat} (H : ∀ i, i < n → ρ i = some i) {vs : List AV} {e : Nat} {md : Md} (h : AV.uptos n vs = true) : BR ρ (.cells vs e md none) (.cells vs e md none) :=
 .cells _ _ _ _ _ _ (ARs.same H h) fun p j h1 => by simp at h1
theorem zeu {k : IntKind} : ∀ l : List Int, AV.frees (l.map (AV.int k)) = true
 | [] => rfl
 | _ :: l => by simp [AV.frees, AV.free, zeu l]
theorem zh2 : ∀ {l m : List AV}, AV.frees l = true → AV.frees m = true → AV.frees (l ++ m) = true
 | [], _, _, h => h
 | a :: l, m, h, g => by
  simp only [AV.frees, Bool.and_eq_true, List.cons_append] at h ⊢
  exact ⟨h.1, zh2 h.2 g⟩
theorem BR.grown {ρ : Nat → Option Nat} {vs : List AV} {e p : Nat} {md : Md} (hf : AV.frees vs = true) (hp : ρ p = none) : BR ρ (.cells vs e md (some p)) (.cells vs e md none) :=
 .row hf fun q j h1 h2 => by cases h1; rw [hp] at h2; cases h2

theorem zAf {h1 : zaa} {n0 m k n : Nat} {vs : List AV} {par : Option Nat} (hk : n0 ≤ k) (hb : h1[k]? = some (.cells vs 1 .own par)) (hn : vs.length = n) (hf : AV.frees vs = true) : Den h1 n0 m [some k] (.sl (some (k, 0)) n 0 false) (.sl (some (m, 0)) n 0 false) [.cells vs 1 .own none] := by
 subst hn
 have e : (vs.drop 0).take (vs.length * 1) = vs := by rw [List.drop_zero, Nat.mul_one, List.take_length]
 have := Den.row (h1 := h1) (n0 := n0) m k 0 vs.length 0 false vs 1 par hk (by omega) hb ⟨by simp [zai], by simp [zai]⟩ (fun h => ⟨List.eq_nil_of_length_eq_zero h, rfl⟩) (by rw [e]; exact hf)
 rw [e] at this
 exact this
theorem Pre.nil1 {n0 : Nat} (e : Nat) {vs vs1 : List AV} {h h2 : zaa} (hv : NRs h.length vs vs1) (h2e : h2 = h ++ [.cells [] e .own none]) : Pre n0 vs h vs1 h2 :=
 .void e vs h vs1 h2 _ _ hv (by rw [h2e]; exact NBs.refl _) (.done _ _)

def ABlk.okU (n : Nat) : ABlk → Prop
 | .cells vs _ _ par => AV.uptos n vs = true ∧ ∀ p, par = some p → p < n
 | .mp es _ _ => ∀ e ∈ es, e.1.free = true ∧ e.2.1.free = true
 | .lp L => AV.uptos n L.env = true
 | .dead => True
theorem BR.ofU {ρ : Nat → Option Nat} {n : Nat} (H : ∀ i, i < n → ρ i = some i) {b : ABlk} (h : b.okU n) : BR ρ b b := by
 cases b with
 | cells vs e md par => exact .cells _ _ _ _ _ _ (ARs.same H h.1) fun p j h1 h2 => by rw [H p (h.2 p h1)] at h2; cases h2; exact h1
 | mp es clk sy => exact .mp _ _ _ _ _ (.free _ h)
 | lp L => exact BR.lpSame H h
 | dead => exact .dead _
theorem zhY : ∀ (k n i : Nat), i < n → zdh (List.range' k n) (k + i) = some i
 | k, 0, i, h => by omega
 | k, n + 1, 0, _ => by simp [List.range'_succ, zdh]
 | k, n + 1, i + 1, h => by
  have := zhY (k + 1) n i (by omega)
  rw [List.range'_succ]
  unfold zdh
  rw [if_neg (by omega), show k + (i + 1) = k + 1 + i by omega, this]; rfl
theorem zsy {n i : Nat} (h : i < n) : zdh (List.range n) i = some i := by
 have := zhY 0 n i h
 rwa [Nat.zero_add, ← List.range_eq_range'] at this
theorem Gc.drop {vs : List AV} {h X : zaa} (n : Nat) (hn : h.length = n) (hv : AV.uptos n vs = true) (hb : ∀ b ∈ h, b.okU n) : Gc n vs (h ++ X) vs h := by
 subst hn
 have H : ∀ i, i < h.length → zdh (List.range h.length) i = some i := fun i hi => zsy hi
 refine .inr ⟨List.range h.length, fun j hj => by simp [hj], List.nodup_range, ARs.same H hv, ?_⟩
 have key : ∀ (g : zaa) (k : Nat), (∀ i b, g[i]? = some b → h[k + i]? = some b) → BRs (zdh (List.range h.length)) (h ++ X) (List.range' k g.length) g := by
  intro g
  induction g with
  | nil => exact fun k _ => .nil
  | cons b g ih =>
   intro k e
   have e0 := e 0 b rfl
   rw [Nat.add_zero] at e0
   have hk := (List.getElem?_eq_some_iff.1 e0).1
   rw [List.length_cons, List.range'_succ]
   exact .cons _ _ _ _ _ (by rw [List.getElem?_append_left hk]; exact e0) (BR.ofU H (hb b (List.mem_iff_getElem?.2 ⟨k, e0⟩))) (ih (k + 1) fun i c hi => by have := e (i + 1) c hi; rwa [show k + (i + 1) = k + 1 + i by omega] at this)
 have := key h 0 (fun i b hi => by rwa [Nat.zero_add])
 rwa [← List.range_eq_range'] at this
end Go.Abs
