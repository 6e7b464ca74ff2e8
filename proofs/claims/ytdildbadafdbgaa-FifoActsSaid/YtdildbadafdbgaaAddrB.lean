/- Texts that stand together: PutKit, AddrKit, Round. -/
import Derived.Test.YtdildbadafdbgaaBase
import Derived.Test.YtdildbadafdbgaaProg
section
/- Numbers put into bytes. -/
set_option autoImplicit false
set_option linter.unusedVariables false
set_option linter.unusedSimpArgs false
namespace Go.Abs
variable {P : Program}

def bigR (v : Int) : Nat → List UInt8
  | 0 => []
  | n + 1 => u8i (v.fdiv (256 ^ n)) :: bigR v n
@[simp] theorem bigR_length (v : Int) : ∀ n, (bigR v n).length = n
  | 0 => rfl
  | n + 1 => by simp [bigR, bigR_length v n]

def putR (l : List UInt8) (p : Int) (sz : Nat) (v : Int) : List UInt8 := if 0 ≤ p ∧ p + sz ≤ (l.length : Int) then l.take p.toNat ++ bigR v sz ++ l.drop (p.toNat + sz) else l
@[simp] theorem putR_length (l : List UInt8) (p : Int) (sz : Nat) (v : Int) : (putR l p sz v).length = l.length := by
  unfold putR
  split
  · simp; omega
  · rfl

@[simp] theorem intV_some (k : IntKind) (n : Int) : intV (some (.int k n)) = n := rfl
@[simp] theorem boolV_some (b : Bool) : boolV (some (.bool b)) = b := rfl
@[simp] theorem isIntV_some (k : IntKind) (n : Int) : isIntV k (some (.int k n)) = true := by simp [isIntV]
@[simp] theorem byteD_u8 (k : IntKind) (x : UInt8) : byteD (.int k ((x.toNat : Nat) : Int)) = x := by simp [byteD]
end Go.Abs

end

section
/- Addresses as values; bytes at places. -/
set_option autoImplicit false
set_option linter.unusedVariables false
set_option linter.unusedSimpArgs false
namespace Go.Abs
variable {P : Program}

mutual
@[simp] theorem AV.beq_self : ∀ a : AV, a.beq a = true
  | .any => rfl
  | .bool b => by simp [AV.beq]
  | .int k n => by simp [AV.beq]
  | .str s => by simp [AV.beq]
  | .ptr a => by simp [AV.beq]
  | .sl a l c e => by simp [AV.beq]
  | .map r => by simp [AV.beq]
  | .fn f c => by simp [AV.beq, AV.beqs_self c]
  | .nilFn => rfl
  | .agg l => by simp [AV.beq, AV.beqs_self l]
  | .tup l => by simp [AV.beq, AV.beqs_self l]
@[simp] theorem AV.beqs_self : ∀ l : List AV, AV.beqs l l = true
  | [] => rfl
  | a :: l => by simp [AV.beqs, AV.beq_self a, AV.beqs_self l]
end

def isZeroV : AV → Bool
  | .int _ n => decide (n = 0)
  | _ => false
@[simp] theorem isZeroV_int (k : IntKind) (n : Int) : isZeroV (.int k n) = decide (n = 0) := rfl

end Go.Abs

end

section
/- bazaaralike's Round. -/
set_option autoImplicit false
set_option maxRecDepth 100000
set_option linter.unusedVariables false
namespace Go.Proofs.Ytdildbadafdbgaa.L
open Go Go.Abs

def eRound : GEnt := fun args h => match args with
  | [.int .i64 k, .int .i64 n] => some (decide (0 < n ∧ n < 4611686018427387904), .int .i64 (k % n), h)
  | _ => none

theorem nfRound {R : Type} (k n : Int) (K : AV → Option R) : abody Try.prog (deepC Try.prog [] 100 4) (mixLS [] (autoLS Try.prog (deepC Try.prog [] 100 4) 100 4 (bodyOf Try.prog 10))) 10 [.int .i64 k, .int .i64 n] [] (fun v _ => K v) =
 if n = 0 then none else if n = 0 then none else K (.int .i64 ((IntKind.i64.wrap (k.tmod n + n)).tmod n)) := by
  kernel_rfl

theorem round_eq {k n : Int} (h : 0 < n ∧ n < 4611686018427387904) : (IntKind.i64.wrap (k.tmod n + n)).tmod n = k % n := by
  have hd := Int.tmod_eq_emod (a := k) (b := n)
  have he := Int.emod_nonneg k (show n ≠ 0 by omega)
  have hl := Int.emod_lt_of_pos k h.1
  have hn : ((n.natAbs : Nat) : Int) = n := by omega
  split at hd
  · rw [hd, wrapI64 (by omega), Int.tmod_eq_emod_of_nonneg (by omega), Int.add_emod_right, Int.sub_emod]
    simp
  · rw [hd, hn, wrapI64 (by omega), Int.tmod_eq_emod_of_nonneg (by omega), Int.sub_add_cancel, Int.emod_emod]

theorem sRound : SoundE Try.prog 10 (entF eRound) := by
  refine canonV_sound fun args h v h' hg => ?_
  unfold eRound at hg
  split at hg
  · rename_i k n
    simp only [Option.some.injEq, Prod.mk.injEq, decide_eq_true_eq] at hg
    obtain ⟨hn, rfl, rfl⟩ := hg
    refine ⟨rfl, rfl, [.int .i64 k, .int .i64 n], [], .cons _ _ _ _ _ _ _ (.flat _ _ rfl) (.cons _ _ _ _ _ _ _ (.flat _ _ rfl) (.nil _)), ?_⟩
    refine Runs.val0 (find_nil _) (F := 100) (n := 4) ?_
    rw [nfRound, if_neg (by omega), if_neg (by omega), round_eq hn]
  · simp at hg

end Go.Proofs.Ytdildbadafdbgaa.L

end
