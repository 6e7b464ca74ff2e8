/- addr.Valid of a DIP's address. -/
import Derived.Test.YtnchnjkakddhlaaPlKit
set_option autoImplicit false
set_option maxRecDepth 100000
set_option linter.unusedVariables false
set_option linter.unusedSimpArgs false
namespace Go.Proofs.Ytnchnjkakddhlaa.L
open Go Go.Abs
open Go.IntKind (u8 u16 u32 u64 i64)
open Go.Abs.AV (int)
open Go.Abs.ABlk (cells)

theorem zyd {R : Type} (x0 x1 x2 x3 x4 x5 x6 x7 x8 x9 x10 x11 x12 x13 x14 x15 : Int) (K : AV → Option R) :
 zbs Try.prog [] 100 6 [] [] 19 [.agg (zbx true x0 x1 x2 x3 x4 x5 x6 x7 x8 x9 x10 x11 x12 x13 x14 x15)] [] (fun v _ => K v) =
 K (AV.bool true) := by
  kernel_rfl

theorem zyu {R : Type} (x0 x1 x2 x3 x4 x5 x6 x7 x8 x9 x10 x11 x12 x13 x14 x15 : Int) (K : AV → Option R) :
 zbs Try.prog [] 100 6 [] [] 19 [.agg (zbx false x0 x1 x2 x3 x4 x5 x6 x7 x8 x9 x10 x11 x12 x13 x14 x15)] [] (fun v _ => K v) =
 K (AV.bool (zad (some (int u8 x4)) == 0 && (zad (some (int u8 x5)) == 0 && (zad (some (int u8 x6)) == 0 && (zad (some (int u8 x7)) == 0 && (zad (some (int u8 x8)) == 0 && (zad (some (int u8 x9)) == 0 && (zad (some (int u8 x10)) == 0 && (zad (some (int u8 x11)) == 0 && (zad (some (int u8 x12)) == 0 && (zad (some (int u8 x13)) == 0 && (zad (some (int u8 x14)) == 0 && (zad (some (int u8 x15)) == 0 && true))))))))))))) := by
  kernel_rfl


inductive IsAdr : List AV → Prop
 | mk (d : DipC) (cs : List AV) (h : d.cells.take 17 = cs) : IsAdr cs
noncomputable def zxS : zdD := fun args h => match args with
 | [.agg cs] => some (zaE (IsAdr cs), .bool (opq (zbd cs)), h)
 | _ => none
theorem zA4 : SoundE Try.prog 19 (zbj zxS) := by
 refine zax fun args h v h' hg => ?_
 unfold zxS at hg
 split at hg
 · rename_i cs
   simp only [Option.some.injEq, Prod.mk.injEq] at hg
   obtain ⟨hw, rfl, rfl⟩ := hg
   rw [zab] at hw
   cases hw with
   | mk d _ h =>
   obtain ⟨v, b, p, hb⟩ := d
   subst h
   obtain ⟨x0, x1, x2, x3, x4, x5, x6, x7, x8, x9, x10, x11, x12, x13, x14, x15, rfl⟩ := zxc hb
   rw [zjr]
   refine ⟨rfl, rfl, [.agg (zbx v x0 x1 x2 x3 x4 x5 x6 x7 x8 x9 x10 x11 x12 x13 x14 x15)], [], .cons _ _ _ _ _ _ _ (.flat _ _ rfl) (.nil _), ?_⟩
   cases v
   · refine Runs.valT0 (zar _) (F := 100) (n := 6) (pr := []) ?_
     rw [zyu]
     rfl
   · refine Runs.valT0 (zar _) (F := 100) (n := 6) (pr := []) ?_
     rw [zyd]
     rfl
 · simp at hg

end Go.Proofs.Ytnchnjkakddhlaa.L
