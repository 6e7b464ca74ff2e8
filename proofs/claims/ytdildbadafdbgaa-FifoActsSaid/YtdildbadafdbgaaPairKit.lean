/- Rows of pairs. -/
import Derived.Test.YtdildbadafdbgaaGcKit
set_option autoImplicit false
set_option linter.unusedVariables false
namespace Go.Abs

def fl {α β : Type} (ek : α → AV) (ev : β → AV) (P : List (α × β)) : List AV := P.flatMap fun p => [ek p.1, ev p.2]
variable {α β : Type} {ek : α → AV} {ev : β → AV}
@[simp] theorem fl_nil : fl ek ev [] = [] := rfl
@[simp] theorem fl_cons (p : α × β) (P : List (α × β)) : fl ek ev (p :: P) = ek p.1 :: ev p.2 :: fl ek ev P := rfl
@[simp] theorem fl_append (P Q : List (α × β)) : fl ek ev (P ++ Q) = fl ek ev P ++ fl ek ev Q := by simp [fl]
@[simp] theorem fl_length (P : List (α × β)) : (fl ek ev P).length = P.length * 2 := by
  induction P with
  | nil => rfl
  | cons p P ih => simp [ih]; omega
theorem fl_drop : ∀ (P : List (α × β)) (i : Nat), (fl ek ev P).drop (i * 2) = fl ek ev (P.drop i)
  | _, 0 => by simp
  | [], i + 1 => by simp
  | p :: P, i + 1 => by
    rw [show (i + 1) * 2 = i * 2 + 1 + 1 by omega, fl_cons, List.drop_succ_cons, List.drop_succ_cons, List.drop_succ_cons]
    exact fl_drop P i
theorem fl_take : ∀ (P : List (α × β)) (i : Nat), (fl ek ev P).take (i * 2) = fl ek ev (P.take i)
  | _, 0 => by simp
  | [], i + 1 => by simp
  | p :: P, i + 1 => by
    rw [show (i + 1) * 2 = i * 2 + 1 + 1 by omega, fl_cons, List.take_succ_cons, List.take_succ_cons, List.take_succ_cons, fl_cons]
    rw [fl_take P i]
theorem fl_at {P : List (α × β)} {i : Nat} (h : i < P.length) : ((fl ek ev P).drop (i * 2)).take 2 = [ek P[i].1, ev P[i].2] := by
  rw [fl_drop, List.drop_eq_getElem_cons h, fl_cons]; rfl
theorem fl_frees (h1 : ∀ a, (ek a).free = true) (h2 : ∀ b, (ev b).free = true) : ∀ P : List (α × β), AV.frees (fl ek ev P) = true
  | [] => rfl
  | p :: P => by simp [AV.frees, h1, h2, fl_frees h1 h2 P]

theorem fl_inj (h1 : ∀ a b, ek a = ek b → a = b) (h2 : ∀ a b, ev a = ev b → a = b) : ∀ {P Q : List (α × β)}, fl ek ev P = fl ek ev Q → P = Q
  | [], [], _ => rfl
  | [], q :: Q, h => by simp at h
  | p :: P, [], h => by simp at h
  | (a, b) :: P, (c, d) :: Q, h => by
    simp only [fl_cons, List.cons.injEq] at h
    rw [h1 _ _ h.1, h2 _ _ h.2.1, fl_inj h1 h2 h.2.2]

end Go.Abs
