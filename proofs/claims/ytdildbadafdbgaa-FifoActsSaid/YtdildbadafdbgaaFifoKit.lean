/- Queues as pairs: pushed, popped. -/
import Derived.Test.YtdildbadafdbgaaPairKit
set_option autoImplicit false
set_option linter.unusedVariables false
namespace Go.Abs

theorem wrapD (n : Int) : IntKind.i64.wrap n = (n + 9223372036854775808) % 18446744073709551616 - 9223372036854775808 := by
  simp [IntKind.wrap, IntKind.bits, IntKind.signed]; omega
theorem wrapAL (a b : Int) : IntKind.i64.wrap (IntKind.i64.wrap a + b) = IntKind.i64.wrap (a + b) := by rw [wrapD a, wrapD, wrapD]; omega
theorem wrapAR (a b : Int) : IntKind.i64.wrap (a + IntKind.i64.wrap b) = IntKind.i64.wrap (a + b) := by rw [wrapD b, wrapD, wrapD]; omega
theorem wrapSL (a b : Int) : IntKind.i64.wrap (IntKind.i64.wrap a - b) = IntKind.i64.wrap (a - b) := by rw [wrapD a, wrapD, wrapD]; omega
theorem wrapSR (a b : Int) : IntKind.i64.wrap (a - IntKind.i64.wrap b) = IntKind.i64.wrap (a - b) := by rw [wrapD b, wrapD, wrapD]; omega
theorem intS {k : IntKind} {x : Int} : intV (some (.int k x)) = x := rfl

structure FQ (α β : Type) where
  x : Nat
  P : List (α × β)
  o : Nat
  C : List AV
variable {α β : Type} {ek : α → AV} {ev : β → AV}
def FQ.push (ek : α → AV) (ev : β → AV) (q : FQ α β) (k : α) (v : β) : FQ α β := ⟨q.x + 1, q.P ++ [(k, v)], 0, fl ek ev (q.P ++ [(k, v)])⟩
def FQ.pop (q : FQ α β) : FQ α β := ⟨q.x, q.P.tail, q.o + 2, q.C⟩
structure FQ.Ok (ek : α → AV) (ev : β → AV) (q : FQ α β) : Prop where
  d : q.C.drop q.o = fl ek ev q.P
  n : q.o + q.P.length * 2 = q.C.length
  f : AV.frees q.C = true
  x : q.P.length ≤ q.x
variable {q : FQ α β}
theorem FQ.Ok.push (h : q.Ok ek ev) (h1 : ∀ a, (ek a).free = true) (h2 : ∀ b, (ev b).free = true) (k : α) (v : β) : (q.push ek ev k v).Ok ek ev :=
  ⟨by simp [FQ.push], by simp [FQ.push]; omega, fl_frees h1 h2 _, by simp [FQ.push]; exact h.x⟩
theorem FQ.Ok.pop (h : q.Ok ek ev) (hn : 0 < q.P.length) : q.pop.Ok ek ev := by
  obtain ⟨p, P, hP⟩ : ∃ p P, q.P = p :: P := by
    cases h : q.P with
    | nil => rw [h] at hn; simp at hn
    | cons p P => exact ⟨p, P, rfl⟩
  have hd := h.d
  have hl := h.n
  have hx := h.x
  rw [hP] at hd hl hx
  refine ⟨?_, ?_, h.f, ?_⟩
  · show q.C.drop (q.o + 2) = fl ek ev q.P.tail
    rw [hP, ← List.drop_drop, hd]; rfl
  · show q.o + 2 + q.P.tail.length * 2 = q.C.length
    rw [hP]; simp at hl ⊢; omega
  · show q.P.tail.length ≤ q.x
    rw [hP]; simp at hx ⊢; omega
theorem FQ.Ok.t (h : q.Ok ek ev) : List.take (q.P.length * 2) (List.drop q.o q.C) = fl ek ev q.P := by
  rw [h.d, fl_take, List.take_length]
theorem FQ.Ok.row (h : q.Ok ek ev) {hp : AHeap} {k : Nat} {md : Md} {par : Option Nat} {r : Nat} {e : Bool} (hk : hp[k]? = some (.cells q.C 2 md par)) : rowOk hp (.sl (some (k, q.o)) q.P.length r e) 2 = true ∧ rowOf hp (.sl (some (k, q.o)) q.P.length r e) = fl ek ev q.P := by
  have := h.n
  constructor
  · simp [rowOk, hk]; omega
  · simp only [rowOf, hk]; exact h.t
theorem isI0 {k : IntKind} {x : Int} : isIntV k (some (.int k x)) = true := by simp [isIntV]

end Go.Abs
