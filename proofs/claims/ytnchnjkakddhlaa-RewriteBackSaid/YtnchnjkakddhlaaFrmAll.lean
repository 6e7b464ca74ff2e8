/- zkp that are built: all that is told of them. -/
import Derived.Test.YtnchnjkakddhlaaGoodF
import Derived.Test.YtnchnjkakddhlaaSgbKit
set_option autoImplicit false
set_option linter.unusedVariables false
namespace Go.Proofs.Ytnchnjkakddhlaa.L
open Go Go.Abs
theorem zf8 {cs : List AV} (h : zas cs = true) : cs.length = 17 := by
 obtain ⟨v, X, rfl, hX⟩ := zdn h
 simp [hX]
theorem zed (l : List UInt8) : zas (ze2 l) = true := by unfold ze2; split; exact ziz _ _; exact zk1 _ _
theorem zeZ (l : List UInt8) : zas (zd2 l) = true := by unfold zd2; split; exact ziz _ _; exact zk1 _ _
theorem zvG {l : List UInt8} {v : Bool} {A S E p sp dp fl : Int} {X Y : List AV} (hr : zb9 l = 0) (hv : zci l = .tup [.agg (zaO v A S E p X Y sp dp fl), .int .i64 0]) (hX : zas X = true) (hY : zas Y = true) :
 zfm l = v ∧ (za7 l).1 = A ∧ (za7 l).1 + rdS l = S ∧ (za7 l).1 + rdE l = E ∧ rdP l = p ∧ ze2 l = X ∧ zd2 l = Y ∧ zan (rdG l) 0 = sp ∧ zan (rdG l) 2 = dp ∧ zca (rdP l) (rdG l) = fl := by
 rw [znA hr] at hv
 simp only [AV.tup.injEq, List.cons.injEq, AV.agg.injEq, and_true] at hv
 unfold zaO at hv
 have h1 := List.append_inj hv (by simp [zf8 hX, zf8 hY, zf8 (zed l), zf8 (zeZ l)])
 have h2 := List.append_inj h1.1 (by simp [zf8 hX, zf8 (zed l)])
 have h3 := List.append_inj h2.1 (by simp)
 have a := h3.1
 have b := h1.2
 simp only [List.cons.injEq, AV.bool.injEq, AV.int.injEq, true_and, and_true] at a b
 exact ⟨a.1, a.2.1, a.2.2.1, a.2.2.2.1, a.2.2.2.2, h3.2, h2.2, b.1, b.2.1, b.2.2⟩
end Go.Proofs.Ytnchnjkakddhlaa.L
