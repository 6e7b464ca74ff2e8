/- slots.Shares: what it tells. -/
import Derived.Test.YtlppbeoiphglcaaShK
set_option autoImplicit false
set_option maxRecDepth 100000
set_option linter.unusedVariables false
set_option linter.unusedSimpArgs false
namespace Go.Proofs.Ytlppbeoiphglcaa.L
open Go Go.Abs

theorem chk_iff (P : PL) : chkP P = 0 ↔ P.length ≤ 32 ∧ ∀ i, i < P.length → badAt P i = false := by
  unfold chkP
  by_cases hl : 32 < P.length
  · rw [if_pos hl]; constructor
    · intro h; simp at h
    · intro h; omega
  · rw [if_neg hl]
    by_cases hb : firstBad P < P.length
    · rw [if_pos hb]; constructor
      · intro h; simp at h
      · intro h; have := firstBad_bad hb; rw [h.2 _ hb] at this; simp at this
    · rw [if_neg hb]; exact ⟨fun _ => ⟨by omega, fun i hi => firstBad_not hi (by omega)⟩, fun _ => rfl⟩
theorem chk_len {P : PL} (h : chkP P = 0) : P.length ≤ 32 := ((chk_iff P).1 h).1
theorem chk_w {P : PL} (h : chkP P = 0) {i : Nat} (hi : i < P.length) : 1 ≤ P[i].2 ∧ P[i].2 ≤ 16 := by
  have := ((chk_iff P).1 h).2 i hi
  rw [badAt_some hi, Bool.or_eq_false_iff] at this
  have := this.1
  simp only [mOk, Bool.not_eq_false', Bool.and_eq_true, decide_eq_true_eq] at this
  exact ⟨this.1.2, this.2⟩
def sumL (l : List Int) : Int := l.foldr (· + ·) 0
@[simp] theorem sumL_nil : sumL [] = 0 := rfl
@[simp] theorem sumL_cons (x : Int) (l : List Int) : sumL (x :: l) = x + sumL l := rfl
theorem sumL_append : ∀ l m : List Int, sumL (l ++ m) = sumL l + sumL m
  | [], m => by simp
  | x :: l, m => by simp [sumL_append l m]; omega
theorem sumL_take {l : List Int} {i : Nat} (hi : i < l.length) : sumL (l.take (i + 1)) = sumL (l.take i) + l[i] := by
  rw [take_snoc hi, sumL_append]; simp
def sumW (P : PL) : Int := sumL (P.map Prod.snd)
noncomputable def qL (P : PL) (n : Int) : List Int := P.map fun x => n * x.2 / sumW P
noncomputable def rL (P : PL) (n : Int) : List Int := P.map fun x => n * x.2 % sumW P
@[simp] theorem qL_len (P : PL) (n : Int) : (qL P n).length = P.length := by simp [qL]
@[simp] theorem rL_len (P : PL) (n : Int) : (rL P n).length = P.length := by simp [rL]
def bestI (l : List Int) : Nat := (idxI l (maxI l)).toNat
def sstep (s : List Int × List Int) : List Int × List Int := (s.1.set (bestI s.2) (s.1.getD (bestI s.2) 0 + 1), s.2.set (bestI s.2) (-1))
def siter : Nat → List Int × List Int → List Int × List Int
  | 0, s => s
  | k + 1, s => sstep (siter k s)
noncomputable def leftS (P : PL) (n : Int) : Int := n - sumL (qL P n)
noncomputable def shP (P : PL) (n : Int) : List Int := if n < 0 ∨ 64 < n ∨ chkP P ≠ 0 ∨ P = [] then [] else (siter (leftS P n).toNat (qL P n, rL P n)).1

theorem foldl_max_ge : ∀ (l : List Int) (m : Int), m ≤ l.foldl (fun m x => max m x) m
  | [], m => by simp
  | x :: l, m => by have := foldl_max_ge l (max m x); simp only [List.foldl_cons]; omega
theorem foldl_max_mem : ∀ (l : List Int) (m : Int), l.foldl (fun m x => max m x) m = m ∨ l.foldl (fun m x => max m x) m ∈ l
  | [], m => by simp
  | x :: l, m => by
    rcases foldl_max_mem l (max m x) with h | h
    · simp only [List.foldl_cons]; rw [h]
      by_cases hx : x ≤ m
      · left; omega
      · right; simp; left; omega
    · right; simp only [List.foldl_cons]; exact List.mem_cons_of_mem _ h
theorem foldl_max_all : ∀ (l : List Int) (m : Int), ∀ x ∈ l, x ≤ l.foldl (fun m x => max m x) m
  | [], _, _, h => by simp at h
  | y :: l, m, x, h => by
    simp only [List.foldl_cons]
    rcases List.mem_cons.1 h with rfl | h
    · have := foldl_max_ge l (max m x); omega
    · exact foldl_max_all l _ x h
theorem maxI_mem {l : List Int} (h : 0 < l.length) : maxI l ∈ l := by
  unfold maxI
  rcases foldl_max_mem l (l.getD 0 0) with e | e
  · rw [e, List.getD_eq_getElem?_getD, List.getElem?_eq_getElem h]; exact List.getElem_mem h
  · exact e
theorem maxI_ge {l : List Int} {x : Int} (h : x ∈ l) : x ≤ maxI l := foldl_max_all l _ x h
theorem bestI_lt {l : List Int} (h : 0 < l.length) : bestI l < l.length ∧ idxI l (maxI l) = (bestI l : Nat) := by
  have hf : l.findIdx (fun x => decide (maxI l = x)) < l.length := List.findIdx_lt_length.2 ⟨_, maxI_mem h, by simp⟩
  have e : idxI l (maxI l) = (l.findIdx (fun x => decide (maxI l = x)) : Nat) := by unfold idxI; rw [if_pos hf]
  unfold bestI
  rw [e]
  exact ⟨by simpa using hf, by simp⟩
theorem bestI_get {l : List Int} (h : 0 < l.length) : l[bestI l]'(bestI_lt h).1 = maxI l := by
  have hf : l.findIdx (fun x => decide (maxI l = x)) < l.length := List.findIdx_lt_length.2 ⟨_, maxI_mem h, by simp⟩
  have e : bestI l = l.findIdx (fun x => decide (maxI l = x)) := by
    unfold bestI idxI; rw [if_pos hf]; simp
  have := List.findIdx_getElem (p := fun x : Int => decide (maxI l = x)) (xs := l) (w := hf)
  simp only [e]
  exact (of_decide_eq_true this).symm
theorem bestI_first {l : List Int} (h : 0 < l.length) {i : Nat} (hi : i < l.length) (hlt : i < bestI l) : l[i] ≠ maxI l := by
  have hf : l.findIdx (fun x => decide (maxI l = x)) < l.length := List.findIdx_lt_length.2 ⟨_, maxI_mem h, by simp⟩
  have e : bestI l = l.findIdx (fun x => decide (maxI l = x)) := by
    unfold bestI idxI; rw [if_pos hf]; simp
  rw [e] at hlt
  have := List.not_of_lt_findIdx (p := fun x : Int => decide (maxI l = x)) (xs := l) hlt
  intro hc; rw [hc] at this; simp at this
theorem siter_len (s : List Int × List Int) : ∀ k, (siter k s).1.length = s.1.length ∧ (siter k s).2.length = s.2.length
  | 0 => ⟨rfl, rfl⟩
  | k + 1 => by obtain ⟨a, b⟩ := siter_len s k; simp [siter, sstep, a, b]
theorem siter_bd (s : List Int × List Int) (B : Int) (hs : ∀ x ∈ s.1, 0 ≤ x ∧ x ≤ B) (hp : 0 < s.1.length) (he : s.1.length = s.2.length) : ∀ k : Nat, ∀ x ∈ (siter k s).1, 0 ≤ x ∧ x ≤ B + k
  | 0 => by intro x hx; have := hs x hx; omega
  | k + 1 => by
    intro x hx
    have ih := siter_bd s B hs hp he k
    obtain ⟨a, b⟩ := siter_len s k
    simp only [siter, sstep] at hx
    rcases List.mem_or_eq_of_mem_set hx with h | h
    · have := ih x h; omega
    · have hb : bestI (siter k s).2 < (siter k s).1.length := by
        have := (bestI_lt (l := (siter k s).2) (by omega)).1; omega
      rw [List.getD_eq_getElem?_getD, List.getElem?_eq_getElem hb] at h
      have := ih _ (List.getElem_mem hb)
      simp only [Option.getD_some] at h
      omega
theorem sumW_bd {P : PL} (h : chkP P = 0) : ∀ i : Nat, i ≤ P.length → (i : Int) ≤ sumL ((P.map Prod.snd).take i) ∧ sumL ((P.map Prod.snd).take i) ≤ 16 * i
  | 0, _ => by simp
  | i + 1, hi => by
    have ih := sumW_bd h i (by omega)
    have hw := chk_w h (i := i) (by omega)
    rw [sumL_take (by simp; omega)]
    simp only [List.getElem_map]
    omega
theorem sumW_pos {P : PL} (h : chkP P = 0) (hp : 0 < P.length) : 0 < sumW P ∧ sumW P ≤ 512 := by
  have := sumW_bd h P.length (Nat.le_refl _)
  rw [List.take_of_length_le (by simp)] at this
  have := chk_len h
  unfold sumW
  omega
theorem nw_bd {P : PL} {n : Int} (h : chkP P = 0) (h0 : 0 ≤ n) (hn : n ≤ 64) {i : Nat} (hi : i < P.length) : 0 ≤ n * P[i].2 ∧ n * P[i].2 ≤ 1024 := by
  have hw := chk_w h hi
  have := Int.mul_le_mul hn hw.2 (by omega) (by omega)
  exact ⟨Int.mul_nonneg h0 (by omega), by omega⟩
theorem qL_bd {P : PL} {n : Int} (h : chkP P = 0) (h0 : 0 ≤ n) (hn : n ≤ 64) (hp : 0 < P.length) : ∀ x ∈ qL P n, 0 ≤ x ∧ x ≤ 1024 := by
  intro x hx
  obtain ⟨i, hi, rfl⟩ := List.mem_iff_getElem.1 hx
  have hi' : i < P.length := by simpa using hi
  have hs := sumW_pos h hp
  have hb := nw_bd h h0 hn hi'
  simp only [qL, List.getElem_map]
  have := Int.ediv_le_self (b := sumW P) (a := n * P[i].2) hb.1
  exact ⟨Int.ediv_nonneg hb.1 (by omega), by omega⟩
theorem sumL_bd {l : List Int} {B : Int} (h : ∀ x ∈ l, 0 ≤ x ∧ x ≤ B) : 0 ≤ sumL l ∧ sumL l ≤ B * l.length := by
  induction l with
  | nil => simp
  | cons x l ih =>
    have := ih fun y hy => h y (by simp [hy])
    have hx := h x (by simp)
    have e : B * ((x :: l).length : Int) = B * l.length + B := by simp [Int.mul_add]
    rw [e]; simp; omega

end Go.Proofs.Ytlppbeoiphglcaa.L
