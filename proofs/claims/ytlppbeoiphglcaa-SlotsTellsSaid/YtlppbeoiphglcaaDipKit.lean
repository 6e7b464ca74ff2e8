/- DIPs as rows of eighteen cells. -/
import Derived.Test.YtlppbeoiphglcaaGcKit
import Derived.Test.YtlppbeoiphglcaaAddrB
set_option autoImplicit false
set_option linter.unusedVariables false
namespace Go.Abs

structure DipC where
  v : Bool
  b : List Int
  p : Int
  len : b.length = 16
def DipC.cells (d : DipC) : List AV := .bool d.v :: (d.b.map (AV.int .u8) ++ [.int .u16 d.p])
theorem DipC.ext' {d e : DipC} (h1 : d.v = e.v) (h2 : d.b = e.b) (h3 : d.p = e.p) : d = e := by
  cases d; cases e; simp_all
theorem sixteen {l : List Int} (h : l.length = 16) : ∃ b0 b1 b2 b3 b4 b5 b6 b7 b8 b9 b10 b11 b12 b13 b14 b15, l = [b0, b1, b2, b3, b4, b5, b6, b7, b8, b9, b10, b11, b12, b13, b14, b15] := by
  match l, h with
  | [b0, b1, b2, b3, b4, b5, b6, b7, b8, b9, b10, b11, b12, b13, b14, b15], _ => exact ⟨b0, b1, b2, b3, b4, b5, b6, b7, b8, b9, b10, b11, b12, b13, b14, b15, rfl⟩
@[simp] theorem DipC.cells_length (d : DipC) : d.cells.length = 18 := by simp [DipC.cells, d.len]
theorem DipC.cells_frees (d : DipC) : AV.frees d.cells = true := by
  obtain ⟨v, b, p, h⟩ := d
  obtain ⟨b0, b1, b2, b3, b4, b5, b6, b7, b8, b9, b10, b11, b12, b13, b14, b15, rfl⟩ := sixteen h
  rfl
def dipsC (l : List DipC) : List AV := l.flatMap DipC.cells
@[simp] theorem dipsC_length : ∀ l : List DipC, (dipsC l).length = l.length * 18
  | [] => rfl
  | d :: l => by
    have := dipsC_length l
    simp only [dipsC, List.flatMap_cons, List.length_append, DipC.cells_length, List.length_cons] at this ⊢
    omega
theorem dipsC_frees : ∀ l : List DipC, AV.frees (dipsC l) = true
  | [] => rfl
  | d :: l => frees_append d.cells_frees (dipsC_frees l)
theorem dipsC_at : ∀ {l : List DipC} {i : Nat} (h : i < l.length), ((dipsC l).drop (i * 18)).take 18 = l[i].cells
  | [], _, h => by simp at h
  | d :: l, 0, _ => by
    show List.take 18 (d.cells ++ dipsC l) = d.cells
    exact List.take_left' d.cells_length
  | d :: l, i + 1, h => by
    have := dipsC_at (l := l) (i := i) (by simpa using h)
    show List.take 18 (List.drop ((i + 1) * 18) (d.cells ++ dipsC l)) = _
    rw [show (i + 1) * 18 = d.cells.length + i * 18 by rw [DipC.cells_length]; omega, ← List.drop_drop, List.drop_left]
    exact this

theorem putCells_at : ∀ (xs vs : List AV) (o : Nat), o + xs.length ≤ vs.length → putCells vs o xs = vs.take o ++ xs ++ vs.drop (o + xs.length)
  | [], vs, o, h => by simp [putCells]
  | x :: xs, vs, o, h => by
    simp only [List.length_cons] at h
    rw [putCells, putCells_at xs (vs.set o x) (o + 1) (by simp; omega)]
    have h1 : (vs.set o x).take (o + 1) = vs.take o ++ [x] := by
      rw [List.set_eq_take_append_cons_drop, if_pos (by omega), List.take_append]
      have : (vs.take o).length = o := by simp; omega
      rw [this, List.take_of_length_le (by omega)]
      simp
    have h2 : (vs.set o x).drop (o + 1 + xs.length) = vs.drop (o + (x :: xs).length) := by
      rw [List.drop_set_of_lt (by omega)]
      congr 1; simp; omega
    rw [h1, h2]; simp
theorem dipsC_append (l m : List DipC) : dipsC (l ++ m) = dipsC l ++ dipsC m := by simp [dipsC]
theorem dipsC_set {l : List DipC} {i : Nat} (h : i < l.length) (x : DipC) : putCells (dipsC l) (i * 18) x.cells = dipsC (l.set i x) := by
  rw [putCells_at _ _ _ (by simp; omega), List.set_eq_take_append_cons_drop, if_pos h]
  have e1 : ∀ k, (dipsC l).take (k * 18) = dipsC (l.take k) := fun k => by
    conv => lhs; rw [← List.take_append_drop k l, dipsC_append]
    by_cases hk : k ≤ l.length
    · exact List.take_left' (by simp; omega)
    · rw [List.drop_of_length_le (by omega), List.take_of_length_le (by rw [List.take_of_length_le (by omega), List.length_append, dipsC_length, dipsC_length, List.length_nil]; omega), List.take_of_length_le (by omega)]; simp [dipsC]
  have e2 : ∀ k, k ≤ l.length → (dipsC l).drop (k * 18) = dipsC (l.drop k) := fun k hk => by
    conv => lhs; rw [← List.take_append_drop k l, dipsC_append]
    exact List.drop_left' (by simp; omega)
  rw [e1, show i * 18 + x.cells.length = (i + 1) * 18 by rw [DipC.cells_length]; omega, e2 _ (by omega), dipsC_append]
  simp [dipsC]

end Go.Abs
