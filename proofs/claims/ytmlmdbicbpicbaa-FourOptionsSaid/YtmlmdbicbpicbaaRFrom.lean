/- bazaar/bazaarref1.From. -/
import Derived.Test.YtmlmdbicbpicbaaProg
import Derived.Test.YtmlmdbicbpicbaaAddrKit
set_option autoImplicit false
set_option maxRecDepth 100000
set_option linter.unusedVariables false
set_option linter.unusedSimpArgs false
namespace Go.Proofs.Ytmlmdbicbpicbaa.L
open Go Go.Abs

theorem nfRFrom16 {R : Type} (a b c d e f g i j k m n o p q r : UInt8) (K : AV → Option R) : qrun Try.prog [] 100 4 [] [] 37 [.sl (some (0, 0)) 16 0 false] [.cells [.int .u8 ((a.toNat : Nat) : Int), .int .u8 ((b.toNat : Nat) : Int), .int .u8 ((c.toNat : Nat) : Int), .int .u8 ((d.toNat : Nat) : Int), .int .u8 ((e.toNat : Nat) : Int), .int .u8 ((f.toNat : Nat) : Int), .int .u8 ((g.toNat : Nat) : Int), .int .u8 ((i.toNat : Nat) : Int), .int .u8 ((j.toNat : Nat) : Int), .int .u8 ((k.toNat : Nat) : Int), .int .u8 ((m.toNat : Nat) : Int), .int .u8 ((n.toNat : Nat) : Int), .int .u8 ((o.toNat : Nat) : Int), .int .u8 ((p.toNat : Nat) : Int), .int .u8 ((q.toNat : Nat) : Int), .int .u8 ((r.toNat : Nat) : Int)] 1 .far none] (fun v _ => K v) = K (.tup [.agg (adr16 [a, b, c, d, e, f, g, i, j, k, m, n, o, p, q, r] 0), .int .i64 0]) := by kernel_rfl
theorem nfRFrom4 {R : Type} (a b c d : UInt8) (K : AV → Option R) : qrun Try.prog [] 100 4 [] [] 37 [.sl (some (0, 0)) 4 0 false] [.cells [.int .u8 ((a.toNat : Nat) : Int), .int .u8 ((b.toNat : Nat) : Int), .int .u8 ((c.toNat : Nat) : Int), .int .u8 ((d.toNat : Nat) : Int)] 1 .far none] (fun v _ => K v) = K (.tup [.agg (adr4 [a, b, c, d] 0), .int .i64 0]) := by kernel_rfl

theorem sRFrom : SoundE Try.prog 37 (entF (eFrom 0 2)) := by
  refine canonV_sound fun args h v h' hg => ?_
  unfold eFrom at hg
  split at hg
  · rename_i b
    split at hg
    · rename_i hn
      simp only [Option.some.injEq, Prod.mk.injEq] at hg
      obtain ⟨hb, rfl, rfl⟩ := hg
      refine ⟨rfl, rfl, [slB 0 (bOf h b)], [farB (bOf h b)], .cons _ _ _ _ _ _ _ (bOk_canon hb 0) (.nil _), ?_⟩
      have hl := bOk_len hb
      rw [hn] at hl
      generalize bOf h b = l at hl
      obtain ⟨a, b, c, d, e, f, g, i, j, k, m, n, o, p, q, r, rfl⟩ := sixteen_of hl
      exact Runs.valT0 (find_nil _) (F := 100) (n := 4) (pr := []) (nfRFrom16 a b c d e f g i j k m n o p q r _)
    · rename_i hn
      simp only [Option.some.injEq, Prod.mk.injEq] at hg
      obtain ⟨hb, rfl, rfl⟩ := hg
      refine ⟨rfl, rfl, [slB 0 (bOf h b)], [farB (bOf h b)], .cons _ _ _ _ _ _ _ (bOk_canon hb 0) (.nil _), ?_⟩
      have hl := bOk_len hb
      rw [hn] at hl
      generalize bOf h b = l at hl
      obtain ⟨a, b, c, d, rfl⟩ := four_of hl
      exact Runs.valT0 (find_nil _) (F := 100) (n := 4) (pr := []) (nfRFrom4 a b c d _)
    · simp at hg
  · simp at hg

end Go.Proofs.Ytmlmdbicbpicbaa.L
