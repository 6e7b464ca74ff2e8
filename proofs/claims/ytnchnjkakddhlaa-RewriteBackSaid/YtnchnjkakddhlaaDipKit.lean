/- DIPs as rows of eighteen cells. -/
import Derived.Test.YtnchnjkakddhlaaGcKit
import Derived.Test.YtnchnjkakddhlaaAddrB
set_option autoImplicit false
set_option linter.unusedVariables false
namespace Go.Abs

structure DipC where
 v : Bool
 b : List Int
 p : Int
 len : b.length = 16
def DipC.cells (d : DipC) : List AV := .bool d.v :: (d.b.map (AV.int .u8) ++ [.int .u16 d.p])
theorem DipC.ext' {d e : DipC} (h1 : d.v = e.v) (h2 : d.b = e.b) (h3 : d.p = e.p) : d = e := by
 cases d; cases e; simp_all
theorem zxc {l : List Int} (h : l.length = 16) : ∃ b0 b1 b2 b3 b4 b5 b6 b7 b8 b9 b10 b11 b12 b13 b14 b15, l = [b0, b1, b2, b3, b4, b5, b6, b7, b8, b9, b10, b11, b12, b13, b14, b15] := by
 match l, h with
 | [b0, b1, b2, b3, b4, b5, b6, b7, b8, b9, b10, b11, b12, b13, b14, b15], _ => exact ⟨b0, b1, b2, b3, b4, b5, b6, b7, b8, b9, b10, b11, b12, b13, b14, b15, rfl⟩
@[simp] theorem DipC.cells_length (d : DipC) : d.cells.length = 18 := by simp [DipC.cells, d.len]
def zAe (l : List DipC) : List AV := l.flatMap DipC.cells
@[simp] theorem zmT : ∀ l : List DipC, (zAe l).length = l.length * 18
 | [] => rfl
 | d :: l => by
  have := zmT l
  simp only [zAe, List.flatMap_cons, List.length_append, DipC.cells_length, List.length_cons] at this ⊢
  omega
theorem zgM : ∀ (xs vs : List AV) (o : Nat), o + xs.length ≤ vs.length → zae vs o xs = vs.take o ++ xs ++ vs.drop (o + xs.length)
 | [], vs, o, h => by simp [zae]
 | x :: xs, vs, o, h => by
  simp only [List.length_cons] at h
  rw [zae, zgM xs (vs.set o x) (o + 1) (by simp; omega)]
  have h1 : (vs.set o x).take (o + 1) = vs.take o ++ [x] := by
   rw [List.set_eq_take_append_cons_drop, if_pos (by omega), List.take_append]
   have : (vs.take o).length = o := by simp; omega
   rw [this, List.take_of_length_le (by omega)]
   simp
  have h2 : (vs.set o x).drop (o + 1 + xs.length) = vs.drop (o + (x :: xs).length) := by
   rw [List.drop_set_of_lt (by omega)]
   congr 1; simp; omega
  rw [h1, h2]; simp
end Go.Abs
